
/- Of two numbers with one exponent the one with the greater rest is greater; a step of the exponent makes it sixteen times as great. -/
import Derived.Test.YthjhcddkdplegaaRows
import Derived.Test.YthjhcddkdplegaaRp
import Derived.Test.YthjhcddkdplegaaLawZ
import Derived.Test.YthjhcddkdplegaaVs
import Derived.Test.YthjhcddkdplegaaJn
set_option linter.unusedSimpArgs false
set_option linter.unusedVariables false
namespace Go.Proofs.Ythjhcddkdplegaa
open Go.RowKit Go.IntWalk
theorem cur_eight {cur : List Value} {y0 y1 y2 y3 y4 y5 y6 y7 : Int} (h : cur.take 8 = ([y0, y1, y2, y3, y4, y5, y6, y7] : List Int).map (Value.int .u8)) : ∃ r, cur = .int .u8 y0 :: .int .u8 y1 :: .int .u8 y2 :: .int .u8 y3 :: .int .u8 y4 :: .int .u8 y5 :: .int .u8 y6 :: .int .u8 y7 :: r :=
  ⟨cur.drop 8, by
    have := List.take_append_drop 8 cur
    rw [h] at this
    exact this.symm⟩
theorem row_eight {r : List Value} {y0 y1 y2 y3 y4 y5 y6 y7 : Int} : ∀ (i : Nat) (v : Value), (([y0, y1, y2, y3, y4, y5, y6, y7] : List Int).map (Value.int .u8))[i]? = some v → (Value.int .u8 y0 :: Value.int .u8 y1 :: Value.int .u8 y2 :: Value.int .u8 y3 :: Value.int .u8 y4 :: Value.int .u8 y5 :: Value.int .u8 y6 :: Value.int .u8 y7 :: r)[i]? = some v := fun i v hv => by
  have hlt : i < 8 := by
    have := (List.getElem?_eq_some_iff.1 hv).1
    simpa using this
  have e : Value.int .u8 y0 :: Value.int .u8 y1 :: Value.int .u8 y2 :: Value.int .u8 y3 :: Value.int .u8 y4 :: Value.int .u8 y5 :: Value.int .u8 y6 :: Value.int .u8 y7 :: r = (([y0, y1, y2, y3, y4, y5, y6, y7] : List Int).map (Value.int .u8)) ++ r := rfl
  rw [e, List.getElem?_append_left (by simpa using hlt)]
  exact hv
theorem p_realOrder (ao : Option Addr) (n c : Nat) (zs : List Int) (hn : n = zs.length) (hw : ∀ z ∈ zs, (Lit.int .u8 z).wf = true) (hc : n ≤ c)
    (bo : Option Addr) (k d : Nat) (ys : List Int) (hk : k = ys.length) (hw' : ∀ z ∈ ys, (Lit.int .u8 z).wf = true) (hd : k ≤ d) :
    PCalls tb Try.prog 4 [.slice ao n c, .slice bo k d] [RA ao (zs.map (Value.int .u8)), RA bo (ys.map (Value.int .u8))] (IsV (.bool true)) := by
  have hz := wf_bytes hw
  have hy := wf_bytes hw'
  refine PCalls.of_W tbOk Try.func4 rfl (by kernel_rfl) ?_
  by_cases h : n < 8
  · refine W.dt [] 19 (decide ((n : Int) < 8)) (by kernel_rfl) (decide_eq_true (by omega)) ?_
    refine W.cl [23, 19] (by kernel_rfl) (p_rknown) ?_
    rintro _ _ ⟨rfl, rfl⟩
    exact W.r [] (.bool true) (by kernel_rfl) ⟨rfl, rfl⟩ ent0
  by_cases h' : k < 8
  · refine W.df [] 19 (decide ((n : Int) < 8)) (by kernel_rfl) (decide_eq_false (by omega)) ?_
    refine W.dt [19] 23 (decide ((k : Int) < 8)) (by kernel_rfl) (decide_eq_true (by omega)) ?_
    refine W.cl [23] (by kernel_rfl) (p_rknown) ?_
    rintro _ _ ⟨rfl, rfl⟩
    exact W.r [] (.bool true) (by kernel_rfl) ⟨rfl, rfl⟩ ent0
  refine W.ra ao rfl (by intro e; rw [List.map_eq_nil_iff] at e; subst e; simp at hn; omega) (fun ba of e => ?_)
  subst e
  refine W.ra bo rfl (by intro e; rw [List.map_eq_nil_iff] at e; subst e; simp at hk; omega) (fun bb og e => ?_)
  subst e
  refine W.more rfl (entRAt (b := ba) (off := of) (take_map (zs := zs) 8)) ?_
  refine W.more rfl (entRAt (b := bb) (off := og) (take_map (zs := ys) 8)) ?_
  have hn2 : (zs.take 8).length = 8 := by rw [List.length_take]; omega
  have hz2 := hz.take 8
  have hk2 : (ys.take 8).length = 8 := by rw [List.length_take]; omega
  have hy2 := hy.take 8
  generalize zs.take 8 = zt at *
  generalize ys.take 8 = yt at *
  obtain ⟨y0, y1, y2, y3, y4, y5, y6, y7, rfl⟩ := eight hn2
  obtain ⟨x0, x1, x2, x3, x4, x5, x6, x7, rfl⟩ := eight hk2
  have by0 := hz2 y0 (by simp)
  refine W.df [] 19 (decide ((n : Int) < 8)) (by kernel_rfl) (decide_eq_false (by omega)) ?_
  refine W.df [19] 23 (decide ((k : Int) < 8)) (by kernel_rfl) (decide_eq_false (by omega)) ?_
  refine W.sls [23] 1 ba of n c none (some (.int .i64 ((8 : Nat) : Int))) 0 8 tbOk (by kernel_rfl) (.inr ⟨rfl, rfl⟩) (.inl rfl) (by decide) (by omega) (by omega) ?_
  refine W.sls [] 1 bb og k d none (some (.int .i64 ((8 : Nat) : Int))) 0 8 tbOk (by kernel_rfl) (.inr ⟨rfl, rfl⟩) (.inl rfl) (by decide) (by omega) (by omega) ?_
  refine W.clo [] (by kernel_rfl) (p_copiedO (some ⟨ba, of + 0 * 1, none⟩) 8 c [y0, y1, y2, y3, y4, y5, y6, y7] rfl (by decide) (by simp)) ?_
  rintro _ _ _ ⟨g1, c1, cur1, rfl, hc1, rfl, hcur1, rfl⟩
  obtain ⟨r1, rfl⟩ := cur_eight hcur1
  refine W.clo [] (by kernel_rfl) (p_copiedO (some ⟨bb, og + 0 * 1, none⟩) 8 d [x0, x1, x2, x3, x4, x5, x6, x7] rfl (by decide) (by simp)) ?_
  rintro _ _ _ ⟨g2, c2, cur2, rfl, hc2, rfl, hcur2, rfl⟩
  obtain ⟨r2, rfl⟩ := cur_eight hcur2
  refine W.ia [] 1 g1 0 8 c1 .i64 0 0 rfl tbOk (by kernel_rfl) (by decide) ?_
  refine W.ldc [] [(g2, .int .u8 x0 :: .int .u8 x1 :: .int .u8 x2 :: .int .u8 x3 :: .int .u8 x4 :: .int .u8 x5 :: .int .u8 x6 :: .int .u8 x7 :: r2), (g1, .int .u8 y0 :: .int .u8 y1 :: .int .u8 y2 :: .int .u8 y3 :: .int .u8 y4 :: .int .u8 y5 :: .int .u8 y6 :: .int .u8 y7 :: r1)] g1 (0 + 0 * 1) 1 (.int .u8 y0 :: .int .u8 y1 :: .int .u8 y2 :: .int .u8 y3 :: .int .u8 y4 :: .int .u8 y5 :: .int .u8 y6 :: .int .u8 y7 :: r1) (.int .u8 y0) tbOk (by kernel_rfl) (by simp) rfl ?_
  refine W.ia [] 1 g1 0 8 c1 .i64 0 0 rfl tbOk (by kernel_rfl) (by decide) ?_
  refine W.stn [] [(g2, .int .u8 x0 :: .int .u8 x1 :: .int .u8 x2 :: .int .u8 x3 :: .int .u8 x4 :: .int .u8 x5 :: .int .u8 x6 :: .int .u8 x7 :: r2), (g1, .int .u8 y0 :: .int .u8 y1 :: .int .u8 y2 :: .int .u8 y3 :: .int .u8 y4 :: .int .u8 y5 :: .int .u8 y6 :: .int .u8 y7 :: r1)] [(g2, .int .u8 x0 :: .int .u8 x1 :: .int .u8 x2 :: .int .u8 x3 :: .int .u8 x4 :: .int .u8 x5 :: .int .u8 x6 :: .int .u8 x7 :: r2)] [] 1 g1 (0 + 0 * 1) (.int .u8 y0 :: .int .u8 y1 :: .int .u8 y2 :: .int .u8 y3 :: .int .u8 y4 :: .int .u8 y5 :: .int .u8 y6 :: .int .u8 y7 :: r1) (.int .u8 (Go.bits .and .u8 y0 127)) (.int .u8 (Go.bits .and .u8 y0 127) :: .int .u8 y1 :: .int .u8 y2 :: .int .u8 y3 :: .int .u8 y4 :: .int .u8 y5 :: .int .u8 y6 :: .int .u8 y7 :: r1) tbOk (by kernel_rfl) rfl rfl (one_int _ _) (by simp) rfl ?_
  refine W.ia [] 1 g1 0 8 c1 .i64 0 0 rfl tbOk (by kernel_rfl) (by decide) ?_
  refine W.ldc [] [(g2, .int .u8 x0 :: .int .u8 x1 :: .int .u8 x2 :: .int .u8 x3 :: .int .u8 x4 :: .int .u8 x5 :: .int .u8 x6 :: .int .u8 x7 :: r2), (g1, .int .u8 (Go.bits .and .u8 y0 127) :: .int .u8 y1 :: .int .u8 y2 :: .int .u8 y3 :: .int .u8 y4 :: .int .u8 y5 :: .int .u8 y6 :: .int .u8 y7 :: r1)] g1 (0 + 0 * 1) 1 (.int .u8 (Go.bits .and .u8 y0 127) :: .int .u8 y1 :: .int .u8 y2 :: .int .u8 y3 :: .int .u8 y4 :: .int .u8 y5 :: .int .u8 y6 :: .int .u8 y7 :: r1) (.int .u8 (Go.bits .and .u8 y0 127)) tbOk (by kernel_rfl) (by simp) rfl ?_
  refine W.ia [] 1 g2 0 8 c2 .i64 0 0 rfl tbOk (by kernel_rfl) (by decide) ?_
  refine W.stn [] [(g2, .int .u8 x0 :: .int .u8 x1 :: .int .u8 x2 :: .int .u8 x3 :: .int .u8 x4 :: .int .u8 x5 :: .int .u8 x6 :: .int .u8 x7 :: r2), (g1, .int .u8 (Go.bits .and .u8 y0 127) :: .int .u8 y1 :: .int .u8 y2 :: .int .u8 y3 :: .int .u8 y4 :: .int .u8 y5 :: .int .u8 y6 :: .int .u8 y7 :: r1)] [] [(g1, .int .u8 (Go.bits .and .u8 y0 127) :: .int .u8 y1 :: .int .u8 y2 :: .int .u8 y3 :: .int .u8 y4 :: .int .u8 y5 :: .int .u8 y6 :: .int .u8 y7 :: r1)] 1 g2 (0 + 0 * 1) (.int .u8 x0 :: .int .u8 x1 :: .int .u8 x2 :: .int .u8 x3 :: .int .u8 x4 :: .int .u8 x5 :: .int .u8 x6 :: .int .u8 x7 :: r2) (.int .u8 (Go.bits .and .u8 y0 127)) (.int .u8 (Go.bits .and .u8 y0 127) :: .int .u8 x1 :: .int .u8 x2 :: .int .u8 x3 :: .int .u8 x4 :: .int .u8 x5 :: .int .u8 x6 :: .int .u8 x7 :: r2) tbOk (by kernel_rfl) rfl rfl (one_int _ _) (by simp) rfl ?_
  refine W.pubr [] [(g1, .int .u8 (Go.bits .and .u8 y0 127) :: .int .u8 y1 :: .int .u8 y2 :: .int .u8 y3 :: .int .u8 y4 :: .int .u8 y5 :: .int .u8 y6 :: .int .u8 y7 :: r1)] g2 (.int .u8 (Go.bits .and .u8 y0 127) :: .int .u8 x1 :: .int .u8 x2 :: .int .u8 x3 :: .int .u8 x4 :: .int .u8 x5 :: .int .u8 x6 :: .int .u8 x7 :: r2) (by kernel_rfl) (by kernel_rfl) ?_
  refine W.pubr [] [] g1 (.int .u8 (Go.bits .and .u8 y0 127) :: .int .u8 y1 :: .int .u8 y2 :: .int .u8 y3 :: .int .u8 y4 :: .int .u8 y5 :: .int .u8 y6 :: .int .u8 y7 :: r1) (by kernel_rfl) (by kernel_rfl) ?_
  obtain ⟨A, hA⟩ : ∃ A : List Int, A = [Go.bits .and .u8 y0 127, y1, y2, y3, y4, y5, y6, y7] := ⟨_, rfl⟩
  obtain ⟨B, hB⟩ : ∃ B : List Int, B = [Go.bits .and .u8 y0 127, x1, x2, x3, x4, x5, x6, x7] := ⟨_, rfl⟩
  have hm := u8_and127 by0.1 by0.2
  have hAl : A.length = 8 := by rw [hA]; rfl
  have hBl : B.length = 8 := by rw [hB]; rfl
  have hAb : Bytes A := fun z hz => by
    rw [hA] at hz
    rcases List.mem_cons.1 hz with rfl | hz
    · rw [hm]; omega
    · exact hz2 z (by simp at hz ⊢; exact .inr hz)
  have hBb : Bytes B := fun z hz => by
    rw [hB] at hz
    rcases List.mem_cons.1 hz with rfl | hz
    · rw [hm]; omega
    · exact hy2 z (by simp at hz ⊢; exact .inr hz)
  have hA0 : A.getD 0 0 = y0 % 128 := by rw [hA]; exact hm
  have hB0 : B.getD 0 0 = y0 % 128 := by rw [hB]; exact hm
  refine W.more (by kernel_rfl) (entRA (b := g1) (xs := A.map (Value.int .u8)) (by rw [hA]; exact row_eight)) ?_
  refine W.more (by kernel_rfl) (entRA (b := g2) (xs := B.map (Value.int .u8)) (by rw [hB]; exact row_eight)) ?_
  refine W.cl [] (by kernel_rfl) (p_rdec (some ⟨g1, 0, none⟩) 8 c1 A hAl.symm hAb hc1) ?_
  rintro _ _ ⟨n13, a13, m13, b13, rfl, rfl⟩
  refine W.cl [] (by kernel_rfl) (p_rdec (some ⟨g2, 0, none⟩) 8 c2 B hBl.symm hBb hc2) ?_
  rintro _ _ ⟨n14, a14, m14, b14, rfl, rfl⟩
  refine W.clo [] (by kernel_rfl) (p_copiedO (some ⟨g1, 0, none⟩) 8 c1 A hAl.symm (by decide) (by rw [hA]; simp)) ?_
  rintro _ _ _ ⟨g3, c3, cur3, rfl, hc3, rfl, hcur3, rfl⟩
  rw [hA] at hcur3
  obtain ⟨r3, rfl⟩ := cur_eight hcur3
  refine W.ia [] 1 g3 0 8 c3 .i64 0 0 rfl tbOk (by kernel_rfl) (by decide) ?_
  refine W.ldc [] [(g3, .int .u8 (Go.bits .and .u8 y0 127) :: .int .u8 y1 :: .int .u8 y2 :: .int .u8 y3 :: .int .u8 y4 :: .int .u8 y5 :: .int .u8 y6 :: .int .u8 y7 :: r3)] g3 (0 + 0 * 1) 1 (.int .u8 (Go.bits .and .u8 y0 127) :: .int .u8 y1 :: .int .u8 y2 :: .int .u8 y3 :: .int .u8 y4 :: .int .u8 y5 :: .int .u8 y6 :: .int .u8 y7 :: r3) (.int .u8 (Go.bits .and .u8 y0 127)) tbOk (by kernel_rfl) (by simp) rfl ?_
  refine W.ia [] 1 g3 0 8 c3 .i64 0 0 rfl tbOk (by kernel_rfl) (by decide) ?_
  refine W.stn [] [(g3, .int .u8 (Go.bits .and .u8 y0 127) :: .int .u8 y1 :: .int .u8 y2 :: .int .u8 y3 :: .int .u8 y4 :: .int .u8 y5 :: .int .u8 y6 :: .int .u8 y7 :: r3)] [] [] 1 g3 (0 + 0 * 1) (.int .u8 (Go.bits .and .u8 y0 127) :: .int .u8 y1 :: .int .u8 y2 :: .int .u8 y3 :: .int .u8 y4 :: .int .u8 y5 :: .int .u8 y6 :: .int .u8 y7 :: r3) (.int .u8 (Go.bits .and .u8 (IntKind.u8.wrap (Go.bits .and .u8 y0 127 + 1)) 127)) (.int .u8 (Go.bits .and .u8 (IntKind.u8.wrap (Go.bits .and .u8 y0 127 + 1)) 127) :: .int .u8 y1 :: .int .u8 y2 :: .int .u8 y3 :: .int .u8 y4 :: .int .u8 y5 :: .int .u8 y6 :: .int .u8 y7 :: r3) tbOk (by kernel_rfl) rfl rfl (one_int _ _) (by simp) rfl ?_
  refine W.pubr [] [] g3 (.int .u8 (Go.bits .and .u8 (IntKind.u8.wrap (Go.bits .and .u8 y0 127 + 1)) 127) :: .int .u8 y1 :: .int .u8 y2 :: .int .u8 y3 :: .int .u8 y4 :: .int .u8 y5 :: .int .u8 y6 :: .int .u8 y7 :: r3) (by kernel_rfl) (by kernel_rfl) ?_
  obtain ⟨C, hC⟩ : ∃ C : List Int, C = [Go.bits .and .u8 (IntKind.u8.wrap (Go.bits .and .u8 y0 127 + 1)) 127, y1, y2, y3, y4, y5, y6, y7] := ⟨_, rfl⟩
  have hm2 : Go.bits .and .u8 (IntKind.u8.wrap (Go.bits .and .u8 y0 127 + 1)) 127 = (y0 % 128 + 1) % 128 := by
    rw [hm, wraps_u8 _ (by omega) (by simp; omega), u8_and127 (by omega) (by omega)]
  have hCl : C.length = 8 := by rw [hC]; rfl
  have hCb : Bytes C := fun z hz => by
    rw [hC] at hz
    rcases List.mem_cons.1 hz with rfl | hz
    · rw [hm2]; omega
    · exact hz2 z (by simp at hz ⊢; exact .inr hz)
  have hC0 : C.getD 0 0 = (y0 % 128 + 1) % 128 := by rw [hC]; exact hm2
  have hCd : C.drop 1 = A.drop 1 := by rw [hC, hA]; rfl
  refine W.more (by kernel_rfl) (entRA (b := g3) (xs := C.map (Value.int .u8)) (by rw [hC]; exact row_eight)) ?_
  refine W.cl [] (by kernel_rfl) (p_rdec (some ⟨g3, 0, none⟩) 8 c3 C hCl.symm hCb hc3) ?_
  rintro _ _ ⟨n20, a20, m20, b20, rfl, rfl⟩
  refine W.cl [] (by kernel_rfl) (p_qof 16 1 (by omega) (by omega) (by omega) (by omega) (by omega)) ?_
  rintro _ _ ⟨n21, a21, m21, b21, rfl, rfl⟩
  refine W.cl [] (by kernel_rfl) (p_rknown) ?_
  rintro _ _ ⟨rfl, rfl⟩
  have eA : derr A = 0 := by unfold derr; rw [if_pos hAl]
  have eB : derr B = 0 := by unfold derr; rw [if_pos hBl]
  have eC : derr C = 0 := by unfold derr; rw [if_pos hCl]
  refine W.df [72] 76 (derr A != 0) (by kernel_rfl) (by rw [eA]; rfl) ?_
  refine W.df [76] 80 (derr B != 0) (by kernel_rfl) (by rw [eB]; rfl) ?_
  refine W.df [80] 83 (derr C != 0) (by kernel_rfl) (by rw [eC]; rfl) ?_
  refine W.lp [83] [14, 15] (fun a : Nat × Int × Int => [(14, .int .i64 a.2.2), (15, .int .i64 a.2.1)]) (fun _ => []) (fun _ => [RA (some ⟨g1, 0, none⟩) (A.map (Value.int .u8)), RA (some ⟨g2, 0, none⟩) (B.map (Value.int .u8)), RA (some ⟨g3, 0, none⟩) (C.map (Value.int .u8)), QF n13 a13 m13 b13 (50, rval A), QF n14 a14 m14 b14 (50, rval B), QF n20 a20 m20 b20 (50, rval C), QF n21 a21 m21 b21 (50, Rat.divInt 16 1)])
    (fun a => a.2.1 = a.1 ∧ a.1 ≤ 7 ∧ a.2.2 = lexC (A.drop (a.1 + 1)) (B.drop (a.1 + 1))) (fun a => a.1) (7, 7, 0) (by kernel_rfl) (by kernel_rfl) ⟨rfl, Nat.le_refl _, (lexC_end hAl hBl).symm⟩
    (entAll (Δ := [_]) (entRAs (b := g1)) (entAll (Δ := [_]) (entRAs (b := g2)) (entAll (Δ := [_]) (entRAs (b := g3)) (entAll (Δ := [_]) (entQ (by omega) rfl) (entAll (Δ := [_]) (entQ (by omega) rfl) (entAll (Δ := [_]) (Δ' := [_]) (entQ (by omega) rfl) (entQ (by omega) rfl))))))) ?_
  rintro ⟨i, z, o⟩ R ⟨hzi, hi7, ho⟩ close
  simp only at hzi hi7 ho
  refine W.d [] 85 (decide (z > 0)) (by kernel_rfl) (fun hb => ?_) (fun hb => ?_)
  · have hi := of_decide_eq_true hb
    have hst := lexC_step (A := A) (B := B) (i := i) (by omega) (by omega)
    have vA := map_get (A := A) (i := i) (by omega)
    have vB := map_get (A := B) (i := i) (by omega)
    generalize A.getD i 0 = p at *
    generalize B.getD i 0 = q at *
    refine W.ia [85] 1 g1 0 8 c1 .i64 i z hzi tbOk (by kernel_rfl) (by omega) ?_
    refine W.ld [] 1 g1 (0 + i * 1) (.int .u8 p) tbOk (by kernel_rfl) (RA.rd g1 0 i vA) ?_
    refine W.ia [] 1 g2 0 8 c2 .i64 i z hzi tbOk (by kernel_rfl) (by omega) ?_
    refine W.ld [] 1 g2 (0 + i * 1) (.int .u8 q) tbOk (by kernel_rfl) (RA.rd g2 0 i vB) ?_
    refine W.d [] 96 (decide (p < q)) (by kernel_rfl) (fun hc => ?_) (fun hc => ?_)
    · have hpq := of_decide_eq_true hc
      refine W.ia [96] 1 g1 0 8 c1 .i64 i z hzi tbOk (by kernel_rfl) (by omega) ?_
      refine W.ld [] 1 g1 (0 + i * 1) (.int .u8 p) tbOk (by kernel_rfl) (RA.rd g1 0 i vA) ?_
      refine W.ia [] 1 g2 0 8 c2 .i64 i z hzi tbOk (by kernel_rfl) (by omega) ?_
      refine W.ld [] 1 g2 (0 + i * 1) (.int .u8 q) tbOk (by kernel_rfl) (RA.rd g2 0 i vB) ?_
      refine W.df [] 105 (decide (p > q)) (by kernel_rfl) (decide_eq_false (by omega)) ?_
      refine close [105] _ _ (i - 1, IntKind.i64.wrap (z - 1), -1) (by kernel_rfl) (by kernel_rfl) ⟨by simp only [IntKind.wrap_i64]; omega, by simp only; omega, ?_⟩ (by simp only; omega) (entAll (Δ := [_]) (entRAs (b := g1)) (entAll (Δ := [_]) (entRAs (b := g2)) (entAll (Δ := [_]) (entRAs (b := g3)) (entAll (Δ := [_]) (entQ (by omega) rfl) (entAll (Δ := [_]) (entQ (by omega) rfl) (entAll (Δ := [_]) (Δ' := [_]) (entQ (by omega) rfl) (entQ (by omega) rfl)))))))
      simp only
      rw [show i - 1 + 1 = i by omega, hst, if_pos hpq]
    · have hpq := of_decide_eq_false hc
      refine W.ia [96] 1 g1 0 8 c1 .i64 i z hzi tbOk (by kernel_rfl) (by omega) ?_
      refine W.ld [] 1 g1 (0 + i * 1) (.int .u8 p) tbOk (by kernel_rfl) (RA.rd g1 0 i vA) ?_
      refine W.ia [] 1 g2 0 8 c2 .i64 i z hzi tbOk (by kernel_rfl) (by omega) ?_
      refine W.ld [] 1 g2 (0 + i * 1) (.int .u8 q) tbOk (by kernel_rfl) (RA.rd g2 0 i vB) ?_
      refine W.d [] 105 (decide (p > q)) (by kernel_rfl) (fun hd => ?_) (fun hd => ?_)
      · have hqp := of_decide_eq_true hd
        refine close [105] _ _ (i - 1, IntKind.i64.wrap (z - 1), 1) (by kernel_rfl) (by kernel_rfl) ⟨by simp only [IntKind.wrap_i64]; omega, by simp only; omega, ?_⟩ (by simp only; omega) (entAll (Δ := [_]) (entRAs (b := g1)) (entAll (Δ := [_]) (entRAs (b := g2)) (entAll (Δ := [_]) (entRAs (b := g3)) (entAll (Δ := [_]) (entQ (by omega) rfl) (entAll (Δ := [_]) (entQ (by omega) rfl) (entAll (Δ := [_]) (Δ' := [_]) (entQ (by omega) rfl) (entQ (by omega) rfl)))))))
        simp only
        rw [show i - 1 + 1 = i by omega, hst, if_neg hpq, if_pos hqp]
      · have hqp := of_decide_eq_false hd
        refine close [105] _ _ (i - 1, IntKind.i64.wrap (z - 1), o) (by kernel_rfl) (by kernel_rfl) ⟨by simp only [IntKind.wrap_i64]; omega, by simp only; omega, ?_⟩ (by simp only; omega) (entAll (Δ := [_]) (entRAs (b := g1)) (entAll (Δ := [_]) (entRAs (b := g2)) (entAll (Δ := [_]) (entRAs (b := g3)) (entAll (Δ := [_]) (entQ (by omega) rfl) (entAll (Δ := [_]) (entQ (by omega) rfl) (entAll (Δ := [_]) (Δ' := [_]) (entQ (by omega) rfl) (entQ (by omega) rfl)))))))
        simp only
        rw [show i - 1 + 1 = i by omega, hst, if_neg hpq, if_neg hqp]
        exact ho
  · have hi := of_decide_eq_false hb
    obtain rfl : i = 0 := by omega
    refine W.cl [85] (by kernel_rfl) (p_qcmp n13 a13 m13 b13 n14 a14 m14 b14) ?_
    rintro _ _ ⟨rfl, rfl⟩
    have hord := order_law hAl hBl hAb hBb (by rw [hA0, hB0]) (by omega)
    refine W.dt [] 111 (cmpQ (rval A) (rval B) == o) (by kernel_rfl) (by rw [hord, ho]; simp) ?_
    refine W.ia [111] 1 g3 0 8 c3 .i64 0 0 rfl tbOk (by kernel_rfl) (by decide) ?_
    refine W.ld [111] 1 g3 (0 + 0 * 1) (.int .u8 (C.getD 0 0)) tbOk (by kernel_rfl) (RA.rd g3 0 0 (map_get (by omega))) ?_
    refine W.d [111] 116 (C.getD 0 0 == 0) (by kernel_rfl) (fun hc => ?_) (fun hc => ?_)
    · exact W.r [111, 116] (.bool true) (by kernel_rfl) ⟨rfl, rfl⟩ ent0
    · have hne : C.getD 0 0 ≠ 0 := by simpa using hc
      refine W.cl [116] (by kernel_rfl) (p_qmul n13 a13 m13 b13 n21 a21 m21 b21) ?_
      rintro _ _ ⟨n27, a27, m27, b27, rfl, rfl⟩
      refine W.cl [116] (by kernel_rfl) (p_qcmp n20 a20 m20 b20 n27 a27 m27 b27) ?_
      rintro _ _ ⟨rfl, rfl⟩
      refine W.r [111, 116] (.bool (cmpQ (rval C) (rval A * Rat.divInt 16 1) == 0)) (by kernel_rfl) ⟨?_, rfl⟩ ent0
      rw [cmpQ_eq.2 (step_law hAl hCl hCd (by omega) (by omega) (by rw [hC0, hA0]) hne)]
      rfl

end Go.Proofs.Ythjhcddkdplegaa
namespace Go.Proofs.Ythjhcddkdplegaa.realOrder
open Go.ChangeShapes Go.WideShapes Go.ChangeAt Go.RowKit
open Go.ChangeMaps (open_string shut_string)

theorem closed : joinedFacts Try.pinned.checked.prog 4 Try.f4 Rows.realOrderSpec Rows.realOrderRow = true := by
  unfold joinedFacts
  rw [show Try.pinned.checked.prog.mayEnter = true from jn_enter, show (Rows.realOrderRow.lifted == Try.pinned.checked.prog.liftsFinal) = true from jn_lift, show (Try.pinned.checked.prog.make == some Rows.realOrderRow.make) = true from jn_make,
    show laidOutB Try.pinned.checked.prog = true from jn_laid, show mapsRowed Try.pinned.checked.prog = true from jn_maps]
  kernel_rfl

set_option maxRecDepth 100000 in
set_option maxHeartbeats 2000000 in
theorem lifted (os : Os) (started : os.Started) (H : Type) (enc : TypeId × Value → H) :
    ReturnsInHanded {} Try.checked os 4 .any (Rows.realOrderSpec.pre6 enc Try.prog Try.f4 Rows.realOrderRow.domain false) (Rows.realOrderSpec.post enc Try.prog Try.f4 false true false false) := by
  refine returnsInHanded_of_change (C := Try.checked) jn_own started (by kernel_rfl) Try.func4
    (ChangeSpec.witness6 (enc := enc) (C := Try.checked) false ⟨#[], #[.slice none 0 0, .slice none 0 0], []⟩ 8 (by kernel_rfl) (by kernel_rfl) (by kernel_rfl) (by kernel_rfl)) ?_
  intro W base args ds gs before hval0 hW hcnd _
  have hval : ∀ (j : Nat) t v, Try.f4.params[j]? = some t → args[j]? = some v → Value.okWide Try.prog W .any base t v := hval0
  have hW' := hW
  obtain ⟨p, q, hA0, hV, rfl, hfz, hnd⟩ := hW
  have hA : DataW.TrodAll enc Try.prog W 0 (fun _ => true) true Try.f4.params.toList args.toList ds p := hA0
  have hK := hA
  rw [Try.params4] at hA hval hK
  obtain ⟨v0, vs0, d0, ds0, p0, q0, hargs, rfl, rfl, h0, r0⟩ := trodAll_cons hA
  obtain ⟨v1, vs1, d1, ds1, p1, q1, rfl, rfl, rfl, h1, r1⟩ := trodAll_cons r0
  obtain ⟨rfl, rfl, rfl⟩ := trodAll_nil r1
  obtain rfl : args = #[v0, v1] := by cases args; simp_all
  obtain ⟨rfl, rfl⟩ := trodVars_none hV
  obtain ⟨ao0, n0, c0, hv0⟩ := okWide_slice Try.underlying22 (hval 0 22 v0 rfl rfl)
  obtain ⟨a0, e0, w0, q0, g0⟩ := row_ints Try.underlying22 Try.underlying5 (by kernel_rfl) hv0 h0
  subst hv0
  obtain ⟨ao1, n1, c1, hv1⟩ := okWide_slice Try.underlying22 (hval 1 22 v1 rfl rfl)
  obtain ⟨a1, e1, w1, q1, g1⟩ := row_ints Try.underlying22 Try.underlying5 (by kernel_rfl) hv1 h1
  subst hv1
  clear hA0 hval0
  simp only [List.append_nil] at hW' hK
  refine (law_calls' (p_realOrder ao0 n0 c0 a0 e0 w0 q0 ao1 n1 c1 a1 e1 w1 q1) W (Holds.cons g0 (Holds.cons g1 (Holds.nil _ _)))).mono fun e W' ⟨he, hg⟩ => ?_
  subst he
  exact ⟨_, rfl, law_post hW' rfl (fun _ _ _ => (trodAll_cons_mk (shut_bool Try.underlying4 _) trodAll_mk0)) (fun sp hsp => trodAll_stays jn_laid hg (by kernel_rfl) hK (fun x hx => hW'.lt x (by first | exact hx | simpa using hx)) (fun x hx => hsp x (by first | exact hx | simpa using hx))) rfl hg⟩

theorem over : Rows.realOrderRow.holds Try.pinned (OpenSpec.ofChange Rows.realOrderSpec) :=
  OpenClaim.holds_of_wide 4 Try.f4 rfl rfl rfl rfl rfl rfl rfl ⟨rfl, rfl, rfl, rfl, rfl⟩ rfl rfl rfl rfl rfl (by kernel_rfl) Try.func4 closed
    (of_decide_eq_true (by kernel_rfl)) (by unfold Func.isWrapper; first | (rw [if_pos (by decide +kernel)]; kernel_rfl) | (rw [if_neg (by decide +kernel)]; exact ⟨rfl, rfl⟩))
    (fun os started H enc _ => lifted os started H enc)
end Go.Proofs.Ythjhcddkdplegaa.realOrder
namespace Go.Proofs.Ythjhcddkdplegaa

/-- The statement. -/
theorem realOrder_holds : Rows.RealOrderSaid := realOrder.over
end Go.Proofs.Ythjhcddkdplegaa
