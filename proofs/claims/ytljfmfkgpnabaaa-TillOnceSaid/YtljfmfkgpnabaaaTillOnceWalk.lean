/- Till. -/
import Derived.Test.YtljfmfkgpnabaaaTillAwake
set_option linter.unusedVariables false
set_option linter.unusedSimpArgs false
namespace Go.Proofs.Ytljfmfkgpnabaaa.Pure
open Go.RowKit  Go.Proofs.YtljfmfkgpnabaaaW.PrintWords Go.Proofs.YtljfmfkgpnabaaaW.PrintLast
open Go.Maps Go.ChangeShapes Go.WideShapes Go.Joins
open Go.Proofs.Ytljfmfkgpnabaaa
attribute [local go_sem] setCell_map
theorem once_a (k s c t am ve v tm : Int) (W : World) (h : am ≤ 0) : Calls Try.prog 10 #[.agg #[.int .u8 k, .int .i64 s, .int .i64 c, .int .i64 t, .int .i64 am, .int .u8 ve], .int .u8 v, .int .u8 tm] W fun x w' => x = .returned (.bool true) ∧ Below W.heap.size W w' := by
  have e1 : decide (am ≤ 0) = true := decide_eq_true h
  clear h

  go_enter Try.func10, Try.ntmps10
  go_wp2_with fail
  have HB0 := Aside0.mk (below_alloc (Below.refl W.heap.size W) (.cells #[.int .u8 k, .int .i64 s, .int .i64 c, .int .i64 t, .int .i64 am, .int .u8 ve] 56))
  have N0 : Aside0 ((W.alloc (.cells #[.int .u8 k, .int .i64 s, .int .i64 c, .int .i64 t, .int .i64 am, .int .u8 ve] 56)).heap[W.heap.size]? = some (.cells #[.int .u8 k, .int .i64 s, .int .i64 c, .int .i64 t, .int .i64 am, .int .u8 ve] 56 (0, 0))) := ⟨blk_new W _⟩
  with_reducible refine (tawake_calls _).mono ?_
  rintro x w1 ⟨rfl, hb⟩
  have HB1 := Aside0.mk (below_step HB0.out hb)
  have N1 := Aside0.mk (blk_below N0.out hb)
  clear hb HB0 N0
  have m0 := blk_cell N1.out 0
  have m1 := blk_cell N1.out 1
  have m2 := blk_cell N1.out 2
  have m3 := blk_cell N1.out 3
  have m4 := blk_cell N1.out 4
  have m5 := blk_cell N1.out 5
  simp only [List.getElem?_toArray, List.getElem?_cons_succ, List.getElem?_cons_zero] at m0 m1 m2 m3 m4 m5
  go_wp2_with fail
  clear m0 m1 m2 m3 m4 m5
  with_reducible refine (tawake_calls _).mono ?_
  rintro x w2 ⟨rfl, hb⟩
  have HB2 := Aside0.mk (below_step HB1.out hb)
  clear hb
  go_wp2
  go_ret
  exact ⟨rfl, HB2.out⟩
theorem once_b (k s c t am ve v tm : Int) (W : World) (h0 : 0 < am) (h : 1125899906842624 < am) : Calls Try.prog 10 #[.agg #[.int .u8 k, .int .i64 s, .int .i64 c, .int .i64 t, .int .i64 am, .int .u8 ve], .int .u8 v, .int .u8 tm] W fun x w' => x = .returned (.bool true) ∧ Below W.heap.size W w' := by
  have e1 : decide (am ≤ 0) = false := decide_eq_false (by omega)
  have e2 : decide (1125899906842624 < am) = true := decide_eq_true h
  clear h h0

  go_enter Try.func10, Try.ntmps10
  go_wp2_with fail
  have HB0 := Aside0.mk (below_alloc (Below.refl W.heap.size W) (.cells #[.int .u8 k, .int .i64 s, .int .i64 c, .int .i64 t, .int .i64 am, .int .u8 ve] 56))
  have N0 : Aside0 ((W.alloc (.cells #[.int .u8 k, .int .i64 s, .int .i64 c, .int .i64 t, .int .i64 am, .int .u8 ve] 56)).heap[W.heap.size]? = some (.cells #[.int .u8 k, .int .i64 s, .int .i64 c, .int .i64 t, .int .i64 am, .int .u8 ve] 56 (0, 0))) := ⟨blk_new W _⟩
  with_reducible refine (tawake_calls _).mono ?_
  rintro x w1 ⟨rfl, hb⟩
  have HB1 := Aside0.mk (below_step HB0.out hb)
  have N1 := Aside0.mk (blk_below N0.out hb)
  clear hb HB0 N0
  have m0 := blk_cell N1.out 0
  have m1 := blk_cell N1.out 1
  have m2 := blk_cell N1.out 2
  have m3 := blk_cell N1.out 3
  have m4 := blk_cell N1.out 4
  have m5 := blk_cell N1.out 5
  simp only [List.getElem?_toArray, List.getElem?_cons_succ, List.getElem?_cons_zero] at m0 m1 m2 m3 m4 m5
  go_wp2_with fail
  clear m0 m1 m2 m3 m4 m5
  with_reducible refine (tawake_calls _).mono ?_
  rintro x w2 ⟨rfl, hb⟩
  have HB2 := Aside0.mk (below_step HB1.out hb)
  clear hb
  go_wp2
  go_ret
  exact ⟨rfl, HB2.out⟩
theorem once_c (k s c t am ve v tm : Int) (W : World) (h0 : 0 < am) (h1 : am ≤ 1125899906842624) (h : t ≤ 0) : Calls Try.prog 10 #[.agg #[.int .u8 k, .int .i64 s, .int .i64 c, .int .i64 t, .int .i64 am, .int .u8 ve], .int .u8 v, .int .u8 tm] W fun x w' => x = .returned (.bool true) ∧ Below W.heap.size W w' := by
  have e1 : decide (am ≤ 0) = false := decide_eq_false (by omega)
  have e2 : decide (1125899906842624 < am) = false := decide_eq_false (by omega)
  have e3 : decide (t ≤ 0) = true := decide_eq_true h
  clear h h0 h1

  go_enter Try.func10, Try.ntmps10
  go_wp2_with fail
  have HB0 := Aside0.mk (below_alloc (Below.refl W.heap.size W) (.cells #[.int .u8 k, .int .i64 s, .int .i64 c, .int .i64 t, .int .i64 am, .int .u8 ve] 56))
  have N0 : Aside0 ((W.alloc (.cells #[.int .u8 k, .int .i64 s, .int .i64 c, .int .i64 t, .int .i64 am, .int .u8 ve] 56)).heap[W.heap.size]? = some (.cells #[.int .u8 k, .int .i64 s, .int .i64 c, .int .i64 t, .int .i64 am, .int .u8 ve] 56 (0, 0))) := ⟨blk_new W _⟩
  with_reducible refine (tawake_calls _).mono ?_
  rintro x w1 ⟨rfl, hb⟩
  have HB1 := Aside0.mk (below_step HB0.out hb)
  have N1 := Aside0.mk (blk_below N0.out hb)
  clear hb HB0 N0
  have m0 := blk_cell N1.out 0
  have m1 := blk_cell N1.out 1
  have m2 := blk_cell N1.out 2
  have m3 := blk_cell N1.out 3
  have m4 := blk_cell N1.out 4
  have m5 := blk_cell N1.out 5
  simp only [List.getElem?_toArray, List.getElem?_cons_succ, List.getElem?_cons_zero] at m0 m1 m2 m3 m4 m5
  go_wp2_with fail
  clear m0 m1 m2 m3 m4 m5
  with_reducible refine (tawake_calls _).mono ?_
  rintro x w2 ⟨rfl, hb⟩
  have HB2 := Aside0.mk (below_step HB1.out hb)
  clear hb
  go_wp2
  go_ret
  exact ⟨rfl, HB2.out⟩
set_option maxHeartbeats 4000000 in
set_option maxRecDepth 20000 in
theorem once_yes (k s c t am ve tm : Int) (W : World) (h0 : 0 < am) (h1 : am ≤ 1125899906842624) (h2 : 0 < t) (hs : (Lit.int .i64 s).wf = true) (hc : (Lit.int .i64 c).wf = true) (ht : (Lit.int .i64 t).wf = true) (b0 : 0 ≤ tm) (b1 : tm ≤ 255) :
    Calls Try.prog 10 #[.agg #[.int .u8 k, .int .i64 s, .int .i64 c, .int .i64 t, .int .i64 am, .int .u8 ve], .int .u8 1, .int .u8 tm] W fun x w' => x = .returned (.bool true) ∧ Below W.heap.size W w' := by
  have e1 : decide (am ≤ 0) = false := decide_eq_false (by omega)
  have e2 : decide (1125899906842624 < am) = false := decide_eq_false (by omega)
  have e3 : decide (t ≤ 0) = false := decide_eq_false (by omega)
  have HK := Aside0.mk (And.intro h0 (And.intro h1 h2))
  have E1 : Aside0 (thear (fun _ _ _ => none) [] 1 s c t am 1 = (1, (upd (fun _ _ _ => none) s c t 1), [(s, c, t, am)])) := ⟨by simp [thear, tfirst, tk]⟩
  have E2 : Aside0 (∀ x, thear (upd (fun _ _ _ => none) s c t 1) [(s, c, t, am)] 1 s c t am x = (1, (upd (fun _ _ _ => none) s c t 1), [(s, c, t, am)])) := ⟨fun x => by simp [thear, tk, upd]⟩
  have OK1 : Aside0 (TOk [(s, c, t, am)]) := ⟨by simp, by simp; try omega⟩
  have HWF := Aside0.mk (And.intro hs (And.intro hc (And.intro ht (by decide : (Lit.int .u8 1).wf = true))))
  clear hs hc ht h0 h1 h2

  go_enter Try.func10, Try.ntmps10
  go_wp2_with fail
  have HB0 := Aside0.mk (below_alloc (Below.refl W.heap.size W) (.cells #[.int .u8 k, .int .i64 s, .int .i64 c, .int .i64 t, .int .i64 am, .int .u8 ve] 56))
  have N0 : Aside0 ((W.alloc (.cells #[.int .u8 k, .int .i64 s, .int .i64 c, .int .i64 t, .int .i64 am, .int .u8 ve] 56)).heap[W.heap.size]? = some (.cells #[.int .u8 k, .int .i64 s, .int .i64 c, .int .i64 t, .int .i64 am, .int .u8 ve] 56 (0, 0))) := ⟨blk_new W _⟩
  with_reducible refine (tawake_calls _).mono ?_
  rintro x w1 ⟨rfl, hb⟩
  have HB1 := Aside0.mk (below_step HB0.out hb)
  have N1 := Aside0.mk (blk_below N0.out hb)
  clear hb HB0 N0
  have m0 := blk_cell N1.out 0
  have m1 := blk_cell N1.out 1
  have m2 := blk_cell N1.out 2
  have m3 := blk_cell N1.out 3
  have m4 := blk_cell N1.out 4
  have m5 := blk_cell N1.out 5
  simp only [List.getElem?_toArray, List.getElem?_cons_succ, List.getElem?_cons_zero] at m0 m1 m2 m3 m4 m5
  have f0 := blk_frozen N1.out 0
  have f5 := blk_frozen N1.out 5
  go_wp2_with fail
  clear m0 m1 m2 m3 m4 m5 f0 f5 e1 e2 e3
  have HB2 := Aside0.mk (below_set (j := 5) (v := .int .u8 0) (below_set (j := 0) (v := .int .u8 1) HB1.out (Nat.le_refl _)) (Nat.le_refl _))
  have N2 : Aside0 (((w1.setCell ⟨W.heap.size, 0, none⟩ (.int .u8 1)).setCell ⟨W.heap.size, 5, none⟩ (.int .u8 0)).heap[W.heap.size]? = some (.cells #[.int .u8 1, .int .i64 s, .int .i64 c, .int .i64 t, .int .i64 am, .int .u8 0] 56 (0, 0))) := ⟨blk_put (blk_put N1.out 0 _ rfl) 5 _ rfl⟩
  clear HB1 N1
  generalize ((w1.setCell ⟨W.heap.size, 0, none⟩ (.int .u8 1)).setCell ⟨W.heap.size, 5, none⟩ (.int .u8 0)) = w2 at HB2 N2 ⊢
  with_reducible refine (tnew_calls _).mono ?_
  rintro x w3 ⟨rfl, ht, hb⟩
  have HT3 := Aside0.mk ht
  have HB3 := Aside0.mk (below_step HB2.out hb)
  have N3 := Aside0.mk (blk_below N2.out hb)
  have HM := Aside0.mk HB2.out.size
  clear ht hb HB2 N2
  generalize w2.heap.size = M at HT3 HM ⊢
  have m0 := blk_cell N3.out 0
  have m1 := blk_cell N3.out 1
  have m2 := blk_cell N3.out 2
  have m3 := blk_cell N3.out 3
  have m4 := blk_cell N3.out 4
  have m5 := blk_cell N3.out 5
  simp only [List.getElem?_toArray, List.getElem?_cons_succ, List.getElem?_cons_zero] at m0 m1 m2 m3 m4 m5
  go_wp2_with fail
  clear m0 m1 m2 m3 m4 m5
  have KH := Aside0.mk (thear_calls w3 M _ _ _ _ HT3.out aw_ok0 (by decide) 1 s c t am 1 (Or.inl rfl) HWF.out.1 HWF.out.2.1 HWF.out.2.2.1 HWF.out.2.2.2)
  rw [E1.out] at KH
  with_reducible refine KH.out.mono ?_
  rintro x w4 ⟨rfl, sv4, ht, hb, ho⟩
  have HT4 := Aside0.mk ht
  have HB4 := Aside0.mk (hear_below HT3.out HB3.out HM.out hb)
  have N4 := Aside0.mk (hear_blk HT3.out hb N3.out (by decide) (by decide))
  clear KH ht hb ho HT3 HB3 N3
  have HT5 := Aside0.mk (till_alloc HT4.out (.cells #[.int .u8 1, .int .i64 s, .int .i64 c, .int .i64 t, .int .i64 am, .int .u8 1] 56))
  have HB5 := Aside0.mk (below_alloc HB4.out (.cells #[.int .u8 1, .int .i64 s, .int .i64 c, .int .i64 t, .int .i64 am, .int .u8 1] 56))
  have N5 := Aside0.mk (blk_alloc N4.out (.cells #[.int .u8 1, .int .i64 s, .int .i64 c, .int .i64 t, .int .i64 am, .int .u8 1] 56))
  have A5 : Aside0 ((w4.alloc (.cells #[.int .u8 1, .int .i64 s, .int .i64 c, .int .i64 t, .int .i64 am, .int .u8 1] 56)).heap[w4.heap.size]? = some (.cells #[.int .u8 1, .int .i64 s, .int .i64 c, .int .i64 t, .int .i64 am, .int .u8 1] 56 (0, 0))) := ⟨blk_new w4 _⟩
  go_wp2_with fail
  clear HT4 HB4 N4
  generalize w4.alloc (.cells #[.int .u8 1, .int .i64 s, .int .i64 c, .int .i64 t, .int .i64 am, .int .u8 1] 56) = w5 at HT5 HB5 N5 A5 ⊢
  generalize w4.heap.size = g at A5 ⊢
  go_loopg [10] 20 (fun kq t10 wr => ∃ (i : Nat) (sv : Value) (n : Nat), t10 = .int .i64 i ∧ i ≤ 20 ∧ Aside0 (20 - i ≤ kq) ∧ Aside0 (n ≤ i + 1) ∧ Aside0 (TillAt wr M sv n (upd (fun _ _ _ => none) s c t 1) [(s, c, t, am)]) ∧ Aside0 (Below W.heap.size W wr) ∧ Aside0 (wr.heap[W.heap.size]? = some (.cells #[.int .u8 1, .int .i64 s, .int .i64 c, .int .i64 t, .int .i64 am, .int .u8 0] 56 (0, 0))) ∧ Aside0 (wr.heap[g]? = some (.cells #[.int .u8 1, .int .i64 s, .int .i64 c, .int .i64 t, .int .i64 am, .int .u8 1] 56 (0, 0))))
  case atStart => exact ⟨0, _, _, rfl, by omega, ⟨by omega⟩, ⟨by omega⟩, HT5, HB5, N5, A5⟩
  case round =>
    obtain ⟨i, sv, n, rfl, hi, HQ, HN, HT, HB, HNB, HA⟩ := hrel
    clear HT5 HB5 N5 A5
    have T1 : tm % 20 < 20 := by omega
    by_cases hc : (i : Int) < tm % 20
    · have c1 : decide ((i : Int) < tm % 20) = true := decide_eq_true hc
      have hi2 : i < 20 := by omega
      clear hc T1
      have m0 := blk_cell HNB.out 0
      have m1 := blk_cell HNB.out 1
      have m2 := blk_cell HNB.out 2
      have m3 := blk_cell HNB.out 3
      have m4 := blk_cell HNB.out 4
      have m5 := blk_cell HNB.out 5
      simp only [List.getElem?_toArray, List.getElem?_cons_succ, List.getElem?_cons_zero] at m0 m1 m2 m3 m4 m5
      go_wp2_with fail
      clear m0 m1 m2 m3 m4 m5
      have KH := Aside0.mk (thear_calls wr M _ _ _ _ HT.out OK1.out (by have := HN.out; unfold maxLen; omega) 1 s c t am (i : Int) (Or.inl rfl) HWF.out.1 HWF.out.2.1 HWF.out.2.2.1 (WalkArith.wf_u8 (by omega)))
      rw [E2.out] at KH
      with_reducible refine KH.out.mono ?_
      rintro x w6 ⟨rfl, sv6, ht, hb, ho⟩
      have HT6 := Aside0.mk ht
      have HB6 := Aside0.mk (hear_below HT.out HB.out HM.out hb)
      have N6 := Aside0.mk (hear_blk HT.out hb HNB.out (by decide) (by decide))
      have A6 := Aside0.mk (hear_blk HT.out hb HA.out (by decide) (by decide))
      clear KH ht hb ho HT HB HNB HA
      have HT7 := Aside0.mk (till_alloc HT6.out (.cells #[.int .u8 1, .int .i64 s, .int .i64 c, .int .i64 t, .int .i64 am, .int .u8 1] 56))
      have HB7 := Aside0.mk (below_alloc HB6.out (.cells #[.int .u8 1, .int .i64 s, .int .i64 c, .int .i64 t, .int .i64 am, .int .u8 1] 56))
      have N7 := Aside0.mk (blk_alloc N6.out (.cells #[.int .u8 1, .int .i64 s, .int .i64 c, .int .i64 t, .int .i64 am, .int .u8 1] 56))
      have A7 := Aside0.mk (blk_alloc A6.out (.cells #[.int .u8 1, .int .i64 s, .int .i64 c, .int .i64 t, .int .i64 am, .int .u8 1] 56))
      have D7 : Aside0 ((w6.alloc (.cells #[.int .u8 1, .int .i64 s, .int .i64 c, .int .i64 t, .int .i64 am, .int .u8 1] 56)).heap[w6.heap.size]? = some (.cells #[.int .u8 1, .int .i64 s, .int .i64 c, .int .i64 t, .int .i64 am, .int .u8 1] 56 (0, 0))) := ⟨blk_new w6 _⟩
      have m0 := blk_cell A6.out 0
      have m1 := blk_cell A6.out 1
      have m2 := blk_cell A6.out 2
      have m3 := blk_cell A6.out 3
      have m4 := blk_cell A6.out 4
      have m5 := blk_cell A6.out 5
      simp only [List.getElem?_toArray, List.getElem?_cons_succ, List.getElem?_cons_zero] at m0 m1 m2 m3 m4 m5
      have hl := blk_lt A6.out
      go_wp2_with fail
      clear m0 m1 m2 m3 m4 m5 hl
      go_roundg (20 - (i + 1))
      case measure => have := HQ.out; omega
      case rel => exact ⟨i + 1, _, _, by first | rfl | simp, by omega, ⟨Nat.le_refl _⟩, ⟨by have := HN.out; omega⟩, HT7, HB7, N7, A7⟩
    · have c1 : decide ((i : Int) < tm % 20) = false := decide_eq_false hc
      clear hc T1
      have hnn := Aside0.mk (show n ≤ 25 by have := HN.out; omega)
      have m0 := blk_cell HNB.out 0
      have m1 := blk_cell HNB.out 1
      have m2 := blk_cell HNB.out 2
      have m3 := blk_cell HNB.out 3
      have m4 := blk_cell HNB.out 4
      have m5 := blk_cell HNB.out 5
      simp only [List.getElem?_toArray, List.getElem?_cons_succ, List.getElem?_cons_zero] at m0 m1 m2 m3 m4 m5
      go_wp2_with fail
      clear m0 m1 m2 m3 m4 m5
      have tz := Aside0.mk (show t ≠ 0 by have := HK.out.2.2; omega)
      have az := Aside0.mk (show am ≠ 0 by have := HK.out.1; omega)
      have E3 : Aside0 (tsum (pT s c) [(s, c, t, am)] = am) := ⟨by simp [tsum, pT, tsg, tz.out]; try omega⟩
      have KT := Aside0.mk (ttaken_calls wr M _ _ _ _ HT.out OK1.out s c)
      rw [E3.out] at KT
      with_reducible refine KT.out.mono ?_
      rintro x w8 ⟨rfl, hb⟩
      have HT8 := Aside0.mk (till_same HT.out hb)
      have HB8 := Aside0.mk (below_step HB.out hb)
      have N8 := Aside0.mk (blk_below HNB.out hb)
      clear KT hb HT HB HNB HA
      have m0 := blk_cell N8.out 0
      have m1 := blk_cell N8.out 1
      have m2 := blk_cell N8.out 2
      have m3 := blk_cell N8.out 3
      have m4 := blk_cell N8.out 4
      have m5 := blk_cell N8.out 5
      simp only [List.getElem?_toArray, List.getElem?_cons_succ, List.getElem?_cons_zero] at m0 m1 m2 m3 m4 m5
      have hl := blk_lt N8.out
      have HT9 := Aside0.mk (till_alloc HT8.out (.cells #[.int .u8 2, .int .i64 s, .int .i64 c, .int .i64 t, .int .i64 am, .int .u8 0] 56))
      have HB9 := Aside0.mk (below_alloc HB8.out (.cells #[.int .u8 2, .int .i64 s, .int .i64 c, .int .i64 t, .int .i64 am, .int .u8 0] 56))
      have N9 := Aside0.mk (blk_alloc N8.out (.cells #[.int .u8 2, .int .i64 s, .int .i64 c, .int .i64 t, .int .i64 am, .int .u8 0] 56))
      have Q9 : Aside0 ((w8.alloc (.cells #[.int .u8 2, .int .i64 s, .int .i64 c, .int .i64 t, .int .i64 am, .int .u8 0] 56)).heap[w8.heap.size]? = some (.cells #[.int .u8 2, .int .i64 s, .int .i64 c, .int .i64 t, .int .i64 am, .int .u8 0] 56 (0, 0))) := ⟨blk_new w8 _⟩
      go_wp2_with fail
      clear m0 m1 m2 m3 m4 m5 hl HT8 HB8 N8
      generalize (w8.alloc (.cells #[.int .u8 2, .int .i64 s, .int .i64 c, .int .i64 t, .int .i64 am, .int .u8 0] 56)) = w9 at HT9 HB9 N9 Q9 ⊢
      generalize w8.heap.size = g9 at Q9 ⊢
      have E4 : Aside0 (thear (upd (fun _ _ _ => none) s c t 1) [(s, c, t, am)] 2 s c t am 1 = (1, (upd (upd (fun _ _ _ => none) s c t 1) s c 0 1), ([(s, c, t, am)] ++ [(s, c, 0, am)]))) := ⟨by simp [thear, tfirst, tk, upd, tsum, pT, tsg, tz.out, az.out, Ne.symm tz.out]⟩
      have E5 : Aside0 (thear (upd (upd (fun _ _ _ => none) s c t 1) s c 0 1) ([(s, c, t, am)] ++ [(s, c, 0, am)]) 2 s c t am 1 = (1, (upd (upd (fun _ _ _ => none) s c t 1) s c 0 1), ([(s, c, t, am)] ++ [(s, c, 0, am)]))) := ⟨by simp [thear, tk, upd]⟩
      have OK2 : Aside0 (TOk ([(s, c, t, am)] ++ [(s, c, 0, am)])) := ⟨by simp, by have := HK.out; simp; try omega⟩
      have KH := Aside0.mk (thear_calls w9 M _ _ _ _ HT9.out OK1.out (by have := hnn.out; unfold maxLen; omega) 2 s c t am 1 (Or.inr rfl) HWF.out.1 HWF.out.2.1 HWF.out.2.2.1 HWF.out.2.2.2)
      rw [E4.out] at KH
      with_reducible refine KH.out.mono ?_
      rintro x w10 ⟨rfl, sv10, ht, hb, ho⟩
      have HT10 := Aside0.mk ht
      have HB10 := Aside0.mk (hear_below HT9.out HB9.out HM.out hb)
      have N10 := Aside0.mk (hear_blk HT9.out hb N9.out (by decide) (by decide))
      have Q10 := Aside0.mk (hear_blk HT9.out hb Q9.out (by decide) (by decide))
      clear KH ht hb ho HT9 HB9 N9 Q9
      have HT11 := Aside0.mk (till_alloc HT10.out (.cells #[.int .u8 2, .int .i64 s, .int .i64 c, .int .i64 t, .int .i64 am, .int .u8 1] 56))
      have HB11 := Aside0.mk (below_alloc HB10.out (.cells #[.int .u8 2, .int .i64 s, .int .i64 c, .int .i64 t, .int .i64 am, .int .u8 1] 56))
      have N11 := Aside0.mk (blk_alloc N10.out (.cells #[.int .u8 2, .int .i64 s, .int .i64 c, .int .i64 t, .int .i64 am, .int .u8 1] 56))
      have Q11 := Aside0.mk (blk_alloc Q10.out (.cells #[.int .u8 2, .int .i64 s, .int .i64 c, .int .i64 t, .int .i64 am, .int .u8 1] 56))
      have X11 : Aside0 ((w10.alloc (.cells #[.int .u8 2, .int .i64 s, .int .i64 c, .int .i64 t, .int .i64 am, .int .u8 1] 56)).heap[w10.heap.size]? = some (.cells #[.int .u8 2, .int .i64 s, .int .i64 c, .int .i64 t, .int .i64 am, .int .u8 1] 56 (0, 0))) := ⟨blk_new w10 _⟩
      have m0 := blk_cell Q10.out 0
      have m1 := blk_cell Q10.out 1
      have m2 := blk_cell Q10.out 2
      have m3 := blk_cell Q10.out 3
      have m4 := blk_cell Q10.out 4
      have m5 := blk_cell Q10.out 5
      simp only [List.getElem?_toArray, List.getElem?_cons_succ, List.getElem?_cons_zero] at m0 m1 m2 m3 m4 m5
      have hl := blk_lt Q10.out
      go_wp2_with fail
      clear m0 m1 m2 m3 m4 m5 hl HT10 HB10 N10 Q10
      generalize (w10.alloc (.cells #[.int .u8 2, .int .i64 s, .int .i64 c, .int .i64 t, .int .i64 am, .int .u8 1] 56)) = w11 at HT11 HB11 N11 Q11 X11 ⊢
      generalize w10.heap.size = g11 at X11 ⊢
      have KH := Aside0.mk (thear_calls w11 M _ _ _ _ HT11.out OK2.out (by have := hnn.out; unfold maxLen; omega) 2 s c t am 1 (Or.inr rfl) HWF.out.1 HWF.out.2.1 HWF.out.2.2.1 HWF.out.2.2.2)
      rw [E5.out] at KH
      with_reducible refine KH.out.mono ?_
      rintro x w12 ⟨rfl, sv12, ht, hb, ho⟩
      have HT12 := Aside0.mk ht
      have HB12 := Aside0.mk (hear_below HT11.out HB11.out HM.out hb)
      have N12 := Aside0.mk (hear_blk HT11.out hb N11.out (by decide) (by decide))
      have X12 := Aside0.mk (hear_blk HT11.out hb X11.out (by decide) (by decide))
      clear KH ht hb ho HT11 HB11 N11 X11 Q11
      have HT13 := Aside0.mk (till_alloc HT12.out (.cells #[.int .u8 2, .int .i64 s, .int .i64 c, .int .i64 t, .int .i64 am, .int .u8 1] 56))
      have HB13 := Aside0.mk (below_alloc HB12.out (.cells #[.int .u8 2, .int .i64 s, .int .i64 c, .int .i64 t, .int .i64 am, .int .u8 1] 56))
      have N13 := Aside0.mk (blk_alloc N12.out (.cells #[.int .u8 2, .int .i64 s, .int .i64 c, .int .i64 t, .int .i64 am, .int .u8 1] 56))
      have X13 := Aside0.mk (blk_alloc X12.out (.cells #[.int .u8 2, .int .i64 s, .int .i64 c, .int .i64 t, .int .i64 am, .int .u8 1] 56))
      have Y13 : Aside0 ((w12.alloc (.cells #[.int .u8 2, .int .i64 s, .int .i64 c, .int .i64 t, .int .i64 am, .int .u8 1] 56)).heap[w12.heap.size]? = some (.cells #[.int .u8 2, .int .i64 s, .int .i64 c, .int .i64 t, .int .i64 am, .int .u8 1] 56 (0, 0))) := ⟨blk_new w12 _⟩
      have a1 := blk_cell N12.out 1
      have a2 := blk_cell N12.out 2
      simp only [List.getElem?_toArray, List.getElem?_cons_succ, List.getElem?_cons_zero] at a1 a2
      have x0 := blk_cell X12.out 0
      have x1 := blk_cell X12.out 1
      have x2 := blk_cell X12.out 2
      have x3 := blk_cell X12.out 3
      have x4 := blk_cell X12.out 4
      have x5 := blk_cell X12.out 5
      simp only [List.getElem?_toArray, List.getElem?_cons_succ, List.getElem?_cons_zero] at x0 x1 x2 x3 x4 x5
      have hl := blk_lt X12.out
      have hl2 := blk_lt N12.out
      go_wp2_with fail
      clear hl hl2 a1 a2 x0 x1 x2 x3 x4 x5 HT12 HB12 N12 X12
      generalize (w12.alloc (.cells #[.int .u8 2, .int .i64 s, .int .i64 c, .int .i64 t, .int .i64 am, .int .u8 1] 56)) = w13 at HT13 HB13 N13 X13 Y13 ⊢
      have E6 : Aside0 (tsum (pT s c) ([(s, c, t, am)] ++ [(s, c, 0, am)]) = 0) := ⟨by simp [tsum, pT, tsg, tz.out]; try omega⟩
      have E7 : Aside0 (tsum (pN s) ([(s, c, t, am)] ++ [(s, c, 0, am)]) = 0) := ⟨by simp [tsum, pN, tsg, tz.out]; try omega⟩
      have KT := Aside0.mk (ttaken_calls w13 M _ _ _ _ HT13.out OK2.out s c)
      rw [E6.out] at KT
      with_reducible refine KT.out.mono ?_
      rintro x w14 ⟨rfl, hb⟩
      have HT14 := Aside0.mk (till_same HT13.out hb)
      have HB14 := Aside0.mk (below_step HB13.out hb)
      have N14 := Aside0.mk (blk_below N13.out hb)
      clear KT hb HT13 HB13 N13 X13 Y13
      have a1 := blk_cell N14.out 1
      simp only [List.getElem?_toArray, List.getElem?_cons_succ, List.getElem?_cons_zero] at a1
      go_wp2_with fail
      clear a1
      have KN := Aside0.mk (tnet_calls w14 M _ _ _ _ HT14.out OK2.out s)
      rw [E7.out] at KN
      with_reducible refine KN.out.mono ?_
      rintro x w15 ⟨rfl, hb⟩
      have HB15 := Aside0.mk (below_step HB14.out hb)
      clear KN hb
      go_wp2
      go_ret
      exact ⟨rfl, HB15.out⟩
set_option maxHeartbeats 4000000 in
set_option maxRecDepth 20000 in
theorem once_no (k s c t am ve v tm : Int) (W : World) (hv1 : v ≠ 1) (h0 : 0 < am) (h1 : am ≤ 1125899906842624) (h2 : 0 < t) (hs : (Lit.int .i64 s).wf = true) (hc : (Lit.int .i64 c).wf = true) (ht : (Lit.int .i64 t).wf = true) (hv : (Lit.int .u8 v).wf = true) (b0 : 0 ≤ tm) (b1 : tm ≤ 255) :
    Calls Try.prog 10 #[.agg #[.int .u8 k, .int .i64 s, .int .i64 c, .int .i64 t, .int .i64 am, .int .u8 ve], .int .u8 v, .int .u8 tm] W fun x w' => x = .returned (.bool true) ∧ Below W.heap.size W w' := by
  have e1 : decide (am ≤ 0) = false := decide_eq_false (by omega)
  have e2 : decide (1125899906842624 < am) = false := decide_eq_false (by omega)
  have e3 : decide (t ≤ 0) = false := decide_eq_false (by omega)
  have HK := Aside0.mk (And.intro h0 (And.intro h1 h2))
  obtain ⟨R, hR, hR1⟩ : ∃ R, (if v < 1 ∨ 3 < v then 3 else v) = R ∧ R ≠ 1 := ⟨_, rfl, by split <;> omega⟩
  have E1 : Aside0 (thear (fun _ _ _ => none) [] 1 s c t am v = (R, (upd (fun _ _ _ => none) s c t R), [])) := ⟨by simp [thear, tfirst, tk, hv1, hR]⟩
  have HR := Aside0.mk hR1
  have ev : (v == 1) = false := by simpa using hv1
  clear hR hR1 hv1
  have E2 : Aside0 (∀ x, thear (upd (fun _ _ _ => none) s c t R) [] 1 s c t am x = (R, (upd (fun _ _ _ => none) s c t R), [])) := ⟨fun x => by simp [thear, tk, upd]⟩
  have OK1 : Aside0 (TOk []) := ⟨by simp, by simp; try omega⟩
  have HWF := Aside0.mk (And.intro hs (And.intro hc (And.intro ht hv)))
  clear hs hc ht hv h0 h1 h2

  go_enter Try.func10, Try.ntmps10
  go_wp2_with fail
  have HB0 := Aside0.mk (below_alloc (Below.refl W.heap.size W) (.cells #[.int .u8 k, .int .i64 s, .int .i64 c, .int .i64 t, .int .i64 am, .int .u8 ve] 56))
  have N0 : Aside0 ((W.alloc (.cells #[.int .u8 k, .int .i64 s, .int .i64 c, .int .i64 t, .int .i64 am, .int .u8 ve] 56)).heap[W.heap.size]? = some (.cells #[.int .u8 k, .int .i64 s, .int .i64 c, .int .i64 t, .int .i64 am, .int .u8 ve] 56 (0, 0))) := ⟨blk_new W _⟩
  with_reducible refine (tawake_calls _).mono ?_
  rintro x w1 ⟨rfl, hb⟩
  have HB1 := Aside0.mk (below_step HB0.out hb)
  have N1 := Aside0.mk (blk_below N0.out hb)
  clear hb HB0 N0
  have m0 := blk_cell N1.out 0
  have m1 := blk_cell N1.out 1
  have m2 := blk_cell N1.out 2
  have m3 := blk_cell N1.out 3
  have m4 := blk_cell N1.out 4
  have m5 := blk_cell N1.out 5
  simp only [List.getElem?_toArray, List.getElem?_cons_succ, List.getElem?_cons_zero] at m0 m1 m2 m3 m4 m5
  have f0 := blk_frozen N1.out 0
  have f5 := blk_frozen N1.out 5
  go_wp2_with fail
  clear m0 m1 m2 m3 m4 m5 f0 f5 e1 e2 e3
  have HB2 := Aside0.mk (below_set (j := 5) (v := .int .u8 0) (below_set (j := 0) (v := .int .u8 1) HB1.out (Nat.le_refl _)) (Nat.le_refl _))
  have N2 : Aside0 (((w1.setCell ⟨W.heap.size, 0, none⟩ (.int .u8 1)).setCell ⟨W.heap.size, 5, none⟩ (.int .u8 0)).heap[W.heap.size]? = some (.cells #[.int .u8 1, .int .i64 s, .int .i64 c, .int .i64 t, .int .i64 am, .int .u8 0] 56 (0, 0))) := ⟨blk_put (blk_put N1.out 0 _ rfl) 5 _ rfl⟩
  clear HB1 N1
  generalize ((w1.setCell ⟨W.heap.size, 0, none⟩ (.int .u8 1)).setCell ⟨W.heap.size, 5, none⟩ (.int .u8 0)) = w2 at HB2 N2 ⊢
  with_reducible refine (tnew_calls _).mono ?_
  rintro x w3 ⟨rfl, ht, hb⟩
  have HT3 := Aside0.mk ht
  have HB3 := Aside0.mk (below_step HB2.out hb)
  have N3 := Aside0.mk (blk_below N2.out hb)
  have HM := Aside0.mk HB2.out.size
  clear ht hb HB2 N2
  generalize w2.heap.size = M at HT3 HM ⊢
  have m0 := blk_cell N3.out 0
  have m1 := blk_cell N3.out 1
  have m2 := blk_cell N3.out 2
  have m3 := blk_cell N3.out 3
  have m4 := blk_cell N3.out 4
  have m5 := blk_cell N3.out 5
  simp only [List.getElem?_toArray, List.getElem?_cons_succ, List.getElem?_cons_zero] at m0 m1 m2 m3 m4 m5
  go_wp2_with fail
  clear m0 m1 m2 m3 m4 m5
  have KH := Aside0.mk (thear_calls w3 M _ _ _ _ HT3.out aw_ok0 (by decide) 1 s c t am v (Or.inl rfl) HWF.out.1 HWF.out.2.1 HWF.out.2.2.1 HWF.out.2.2.2)
  rw [E1.out] at KH
  with_reducible refine KH.out.mono ?_
  rintro x w4 ⟨rfl, sv4, ht, hb, ho⟩
  have HT4 := Aside0.mk ht
  have HB4 := Aside0.mk (hear_below HT3.out HB3.out HM.out hb)
  have N4 := Aside0.mk (hear_blk HT3.out hb N3.out (by decide) (by decide))
  clear KH ht hb ho HT3 HB3 N3
  have HT5 := Aside0.mk (till_alloc HT4.out (.cells #[.int .u8 1, .int .i64 s, .int .i64 c, .int .i64 t, .int .i64 am, .int .u8 R] 56))
  have HB5 := Aside0.mk (below_alloc HB4.out (.cells #[.int .u8 1, .int .i64 s, .int .i64 c, .int .i64 t, .int .i64 am, .int .u8 R] 56))
  have N5 := Aside0.mk (blk_alloc N4.out (.cells #[.int .u8 1, .int .i64 s, .int .i64 c, .int .i64 t, .int .i64 am, .int .u8 R] 56))
  have A5 : Aside0 ((w4.alloc (.cells #[.int .u8 1, .int .i64 s, .int .i64 c, .int .i64 t, .int .i64 am, .int .u8 R] 56)).heap[w4.heap.size]? = some (.cells #[.int .u8 1, .int .i64 s, .int .i64 c, .int .i64 t, .int .i64 am, .int .u8 R] 56 (0, 0))) := ⟨blk_new w4 _⟩
  go_wp2_with fail
  clear HT4 HB4 N4
  generalize w4.alloc (.cells #[.int .u8 1, .int .i64 s, .int .i64 c, .int .i64 t, .int .i64 am, .int .u8 R] 56) = w5 at HT5 HB5 N5 A5 ⊢
  generalize w4.heap.size = g at A5 ⊢
  go_loopg [10] 20 (fun kq t10 wr => ∃ (i : Nat) (sv : Value) (n : Nat), t10 = .int .i64 i ∧ i ≤ 20 ∧ Aside0 (20 - i ≤ kq) ∧ Aside0 (n ≤ i + 1) ∧ Aside0 (TillAt wr M sv n (upd (fun _ _ _ => none) s c t R) []) ∧ Aside0 (Below W.heap.size W wr) ∧ Aside0 (wr.heap[W.heap.size]? = some (.cells #[.int .u8 1, .int .i64 s, .int .i64 c, .int .i64 t, .int .i64 am, .int .u8 0] 56 (0, 0))) ∧ Aside0 (wr.heap[g]? = some (.cells #[.int .u8 1, .int .i64 s, .int .i64 c, .int .i64 t, .int .i64 am, .int .u8 R] 56 (0, 0))))
  case atStart => exact ⟨0, _, _, rfl, by omega, ⟨by omega⟩, ⟨by omega⟩, HT5, HB5, N5, A5⟩
  case round =>
    obtain ⟨i, sv, n, rfl, hi, HQ, HN, HT, HB, HNB, HA⟩ := hrel
    clear HT5 HB5 N5 A5
    have T1 : tm % 20 < 20 := by omega
    by_cases hc : (i : Int) < tm % 20
    · have c1 : decide ((i : Int) < tm % 20) = true := decide_eq_true hc
      have hi2 : i < 20 := by omega
      clear hc T1
      have m0 := blk_cell HNB.out 0
      have m1 := blk_cell HNB.out 1
      have m2 := blk_cell HNB.out 2
      have m3 := blk_cell HNB.out 3
      have m4 := blk_cell HNB.out 4
      have m5 := blk_cell HNB.out 5
      simp only [List.getElem?_toArray, List.getElem?_cons_succ, List.getElem?_cons_zero] at m0 m1 m2 m3 m4 m5
      go_wp2_with fail
      clear m0 m1 m2 m3 m4 m5
      have KH := Aside0.mk (thear_calls wr M _ _ _ _ HT.out OK1.out (by have := HN.out; unfold maxLen; omega) 1 s c t am (i : Int) (Or.inl rfl) HWF.out.1 HWF.out.2.1 HWF.out.2.2.1 (WalkArith.wf_u8 (by omega)))
      rw [E2.out] at KH
      with_reducible refine KH.out.mono ?_
      rintro x w6 ⟨rfl, sv6, ht, hb, ho⟩
      have HT6 := Aside0.mk ht
      have HB6 := Aside0.mk (hear_below HT.out HB.out HM.out hb)
      have N6 := Aside0.mk (hear_blk HT.out hb HNB.out (by decide) (by decide))
      have A6 := Aside0.mk (hear_blk HT.out hb HA.out (by decide) (by decide))
      clear KH ht hb ho HT HB HNB HA
      have HT7 := Aside0.mk (till_alloc HT6.out (.cells #[.int .u8 1, .int .i64 s, .int .i64 c, .int .i64 t, .int .i64 am, .int .u8 R] 56))
      have HB7 := Aside0.mk (below_alloc HB6.out (.cells #[.int .u8 1, .int .i64 s, .int .i64 c, .int .i64 t, .int .i64 am, .int .u8 R] 56))
      have N7 := Aside0.mk (blk_alloc N6.out (.cells #[.int .u8 1, .int .i64 s, .int .i64 c, .int .i64 t, .int .i64 am, .int .u8 R] 56))
      have A7 := Aside0.mk (blk_alloc A6.out (.cells #[.int .u8 1, .int .i64 s, .int .i64 c, .int .i64 t, .int .i64 am, .int .u8 R] 56))
      have D7 : Aside0 ((w6.alloc (.cells #[.int .u8 1, .int .i64 s, .int .i64 c, .int .i64 t, .int .i64 am, .int .u8 R] 56)).heap[w6.heap.size]? = some (.cells #[.int .u8 1, .int .i64 s, .int .i64 c, .int .i64 t, .int .i64 am, .int .u8 R] 56 (0, 0))) := ⟨blk_new w6 _⟩
      have m0 := blk_cell A6.out 0
      have m1 := blk_cell A6.out 1
      have m2 := blk_cell A6.out 2
      have m3 := blk_cell A6.out 3
      have m4 := blk_cell A6.out 4
      have m5 := blk_cell A6.out 5
      simp only [List.getElem?_toArray, List.getElem?_cons_succ, List.getElem?_cons_zero] at m0 m1 m2 m3 m4 m5
      have hl := blk_lt A6.out
      go_wp2_with fail
      clear m0 m1 m2 m3 m4 m5 hl
      go_roundg (20 - (i + 1))
      case measure => have := HQ.out; omega
      case rel => exact ⟨i + 1, _, _, by first | rfl | simp, by omega, ⟨Nat.le_refl _⟩, ⟨by have := HN.out; omega⟩, HT7, HB7, N7, A7⟩
    · have c1 : decide ((i : Int) < tm % 20) = false := decide_eq_false hc
      clear hc T1
      have hnn := Aside0.mk (show n ≤ 25 by have := HN.out; omega)
      have m0 := blk_cell HNB.out 0
      have m1 := blk_cell HNB.out 1
      have m2 := blk_cell HNB.out 2
      have m3 := blk_cell HNB.out 3
      have m4 := blk_cell HNB.out 4
      have m5 := blk_cell HNB.out 5
      simp only [List.getElem?_toArray, List.getElem?_cons_succ, List.getElem?_cons_zero] at m0 m1 m2 m3 m4 m5
      go_wp2_with fail
      clear m0 m1 m2 m3 m4 m5
      have tz := Aside0.mk (show t ≠ 0 by have := HK.out.2.2; omega)
      have az := Aside0.mk (show am ≠ 0 by have := HK.out.1; omega)
      have E3 : Aside0 (tsum (pT s c) [] = 0) := ⟨by simp [tsum, pT, tsg, tz.out]; try omega⟩
      have KT := Aside0.mk (ttaken_calls wr M _ _ _ _ HT.out OK1.out s c)
      rw [E3.out] at KT
      with_reducible refine KT.out.mono ?_
      rintro x w8 ⟨rfl, hb⟩
      have HT8 := Aside0.mk (till_same HT.out hb)
      have HB8 := Aside0.mk (below_step HB.out hb)
      have N8 := Aside0.mk (blk_below HNB.out hb)
      clear KT hb HT HB HNB HA
      have m0 := blk_cell N8.out 0
      have m1 := blk_cell N8.out 1
      have m2 := blk_cell N8.out 2
      have m3 := blk_cell N8.out 3
      have m4 := blk_cell N8.out 4
      have m5 := blk_cell N8.out 5
      simp only [List.getElem?_toArray, List.getElem?_cons_succ, List.getElem?_cons_zero] at m0 m1 m2 m3 m4 m5
      have hl := blk_lt N8.out
      have HT9 := Aside0.mk (till_alloc HT8.out (.cells #[.int .u8 2, .int .i64 s, .int .i64 c, .int .i64 t, .int .i64 am, .int .u8 0] 56))
      have HB9 := Aside0.mk (below_alloc HB8.out (.cells #[.int .u8 2, .int .i64 s, .int .i64 c, .int .i64 t, .int .i64 am, .int .u8 0] 56))
      have N9 := Aside0.mk (blk_alloc N8.out (.cells #[.int .u8 2, .int .i64 s, .int .i64 c, .int .i64 t, .int .i64 am, .int .u8 0] 56))
      have Q9 : Aside0 ((w8.alloc (.cells #[.int .u8 2, .int .i64 s, .int .i64 c, .int .i64 t, .int .i64 am, .int .u8 0] 56)).heap[w8.heap.size]? = some (.cells #[.int .u8 2, .int .i64 s, .int .i64 c, .int .i64 t, .int .i64 am, .int .u8 0] 56 (0, 0))) := ⟨blk_new w8 _⟩
      go_wp2_with fail
      clear m0 m1 m2 m3 m4 m5 hl HT8 HB8 N8
      generalize (w8.alloc (.cells #[.int .u8 2, .int .i64 s, .int .i64 c, .int .i64 t, .int .i64 am, .int .u8 0] 56)) = w9 at HT9 HB9 N9 Q9 ⊢
      generalize w8.heap.size = g9 at Q9 ⊢
      have E4 : Aside0 (thear (upd (fun _ _ _ => none) s c t R) [] 2 s c t am v = (3, (upd (upd (fun _ _ _ => none) s c t R) s c 0 3), [])) := ⟨by simp [thear, tfirst, tk, upd, tsum, pT, tsg, tz.out, az.out, Ne.symm tz.out]⟩
      have E5 : Aside0 (thear (upd (upd (fun _ _ _ => none) s c t R) s c 0 3) [] 2 s c t am v = (3, (upd (upd (fun _ _ _ => none) s c t R) s c 0 3), [])) := ⟨by simp [thear, tk, upd]⟩
      have OK2 : Aside0 (TOk []) := ⟨by simp, by have := HK.out; simp; try omega⟩
      have KH := Aside0.mk (thear_calls w9 M _ _ _ _ HT9.out OK1.out (by have := hnn.out; unfold maxLen; omega) 2 s c t am v (Or.inr rfl) HWF.out.1 HWF.out.2.1 HWF.out.2.2.1 HWF.out.2.2.2)
      rw [E4.out] at KH
      with_reducible refine KH.out.mono ?_
      rintro x w10 ⟨rfl, sv10, ht, hb, ho⟩
      have HT10 := Aside0.mk ht
      have HB10 := Aside0.mk (hear_below HT9.out HB9.out HM.out hb)
      have N10 := Aside0.mk (hear_blk HT9.out hb N9.out (by decide) (by decide))
      have Q10 := Aside0.mk (hear_blk HT9.out hb Q9.out (by decide) (by decide))
      clear KH ht hb ho HT9 HB9 N9 Q9
      have HT11 := Aside0.mk (till_alloc HT10.out (.cells #[.int .u8 2, .int .i64 s, .int .i64 c, .int .i64 t, .int .i64 am, .int .u8 3] 56))
      have HB11 := Aside0.mk (below_alloc HB10.out (.cells #[.int .u8 2, .int .i64 s, .int .i64 c, .int .i64 t, .int .i64 am, .int .u8 3] 56))
      have N11 := Aside0.mk (blk_alloc N10.out (.cells #[.int .u8 2, .int .i64 s, .int .i64 c, .int .i64 t, .int .i64 am, .int .u8 3] 56))
      have Q11 := Aside0.mk (blk_alloc Q10.out (.cells #[.int .u8 2, .int .i64 s, .int .i64 c, .int .i64 t, .int .i64 am, .int .u8 3] 56))
      have X11 : Aside0 ((w10.alloc (.cells #[.int .u8 2, .int .i64 s, .int .i64 c, .int .i64 t, .int .i64 am, .int .u8 3] 56)).heap[w10.heap.size]? = some (.cells #[.int .u8 2, .int .i64 s, .int .i64 c, .int .i64 t, .int .i64 am, .int .u8 3] 56 (0, 0))) := ⟨blk_new w10 _⟩
      have m0 := blk_cell Q10.out 0
      have m1 := blk_cell Q10.out 1
      have m2 := blk_cell Q10.out 2
      have m3 := blk_cell Q10.out 3
      have m4 := blk_cell Q10.out 4
      have m5 := blk_cell Q10.out 5
      simp only [List.getElem?_toArray, List.getElem?_cons_succ, List.getElem?_cons_zero] at m0 m1 m2 m3 m4 m5
      have hl := blk_lt Q10.out
      go_wp2_with fail
      clear m0 m1 m2 m3 m4 m5 hl HT10 HB10 N10 Q10
      generalize (w10.alloc (.cells #[.int .u8 2, .int .i64 s, .int .i64 c, .int .i64 t, .int .i64 am, .int .u8 3] 56)) = w11 at HT11 HB11 N11 Q11 X11 ⊢
      generalize w10.heap.size = g11 at X11 ⊢
      have KH := Aside0.mk (thear_calls w11 M _ _ _ _ HT11.out OK2.out (by have := hnn.out; unfold maxLen; omega) 2 s c t am v (Or.inr rfl) HWF.out.1 HWF.out.2.1 HWF.out.2.2.1 HWF.out.2.2.2)
      rw [E5.out] at KH
      with_reducible refine KH.out.mono ?_
      rintro x w12 ⟨rfl, sv12, ht, hb, ho⟩
      have HT12 := Aside0.mk ht
      have HB12 := Aside0.mk (hear_below HT11.out HB11.out HM.out hb)
      have N12 := Aside0.mk (hear_blk HT11.out hb N11.out (by decide) (by decide))
      have X12 := Aside0.mk (hear_blk HT11.out hb X11.out (by decide) (by decide))
      clear KH ht hb ho HT11 HB11 N11 X11 Q11
      have HT13 := Aside0.mk (till_alloc HT12.out (.cells #[.int .u8 2, .int .i64 s, .int .i64 c, .int .i64 t, .int .i64 am, .int .u8 3] 56))
      have HB13 := Aside0.mk (below_alloc HB12.out (.cells #[.int .u8 2, .int .i64 s, .int .i64 c, .int .i64 t, .int .i64 am, .int .u8 3] 56))
      have N13 := Aside0.mk (blk_alloc N12.out (.cells #[.int .u8 2, .int .i64 s, .int .i64 c, .int .i64 t, .int .i64 am, .int .u8 3] 56))
      have X13 := Aside0.mk (blk_alloc X12.out (.cells #[.int .u8 2, .int .i64 s, .int .i64 c, .int .i64 t, .int .i64 am, .int .u8 3] 56))
      have Y13 : Aside0 ((w12.alloc (.cells #[.int .u8 2, .int .i64 s, .int .i64 c, .int .i64 t, .int .i64 am, .int .u8 3] 56)).heap[w12.heap.size]? = some (.cells #[.int .u8 2, .int .i64 s, .int .i64 c, .int .i64 t, .int .i64 am, .int .u8 3] 56 (0, 0))) := ⟨blk_new w12 _⟩
      have a1 := blk_cell N12.out 1
      have a2 := blk_cell N12.out 2
      simp only [List.getElem?_toArray, List.getElem?_cons_succ, List.getElem?_cons_zero] at a1 a2
      have x0 := blk_cell X12.out 0
      have x1 := blk_cell X12.out 1
      have x2 := blk_cell X12.out 2
      have x3 := blk_cell X12.out 3
      have x4 := blk_cell X12.out 4
      have x5 := blk_cell X12.out 5
      simp only [List.getElem?_toArray, List.getElem?_cons_succ, List.getElem?_cons_zero] at x0 x1 x2 x3 x4 x5
      have hl := blk_lt X12.out
      have hl2 := blk_lt N12.out
      go_wp2_with fail
      clear hl hl2 a1 a2 x0 x1 x2 x3 x4 x5 HT12 HB12 N12 X12
      generalize (w12.alloc (.cells #[.int .u8 2, .int .i64 s, .int .i64 c, .int .i64 t, .int .i64 am, .int .u8 3] 56)) = w13 at HT13 HB13 N13 X13 Y13 ⊢
      have E6 : Aside0 (tsum (pT s c) [] = 0) := ⟨by simp [tsum, pT, tsg, tz.out]; try omega⟩
      have E7 : Aside0 (tsum (pN s) [] = 0) := ⟨by simp [tsum, pN, tsg, tz.out]; try omega⟩
      have KT := Aside0.mk (ttaken_calls w13 M _ _ _ _ HT13.out OK2.out s c)
      rw [E6.out] at KT
      with_reducible refine KT.out.mono ?_
      rintro x w14 ⟨rfl, hb⟩
      have HT14 := Aside0.mk (till_same HT13.out hb)
      have HB14 := Aside0.mk (below_step HB13.out hb)
      have N14 := Aside0.mk (blk_below N13.out hb)
      clear KT hb HT13 HB13 N13 X13 Y13
      have a1 := blk_cell N14.out 1
      simp only [List.getElem?_toArray, List.getElem?_cons_succ, List.getElem?_cons_zero] at a1
      go_wp2_with fail
      clear a1
      have KN := Aside0.mk (tnet_calls w14 M _ _ _ _ HT14.out OK2.out s)
      rw [E7.out] at KN
      with_reducible refine KN.out.mono ?_
      rintro x w15 ⟨rfl, hb⟩
      have HB15 := Aside0.mk (below_step HB14.out hb)
      clear KN hb
      go_wp2
      go_ret
      exact ⟨rfl, HB15.out⟩
theorem tillOnce_calls (k s c t am ve v tm : Int) (W : World) (w0 : (Lit.int .u8 k).wf = true) (w1 : (Lit.int .i64 s).wf = true) (w2 : (Lit.int .i64 c).wf = true) (w3 : (Lit.int .i64 t).wf = true) (w4 : (Lit.int .i64 am).wf = true) (w5 : (Lit.int .u8 ve).wf = true) (w6 : (Lit.int .u8 v).wf = true) (w7 : (Lit.int .u8 tm).wf = true) :
    Calls Try.prog 10 #[.agg #[.int .u8 k, .int .i64 s, .int .i64 c, .int .i64 t, .int .i64 am, .int .u8 ve], .int .u8 v, .int .u8 tm] W fun x w' => x = .returned (.bool true) ∧ Below W.heap.size W w' := by
  have hb := bounds_u8 w7
  by_cases h0 : am ≤ 0
  · exact once_a k s c t am ve v tm W h0
  · by_cases h1 : 1125899906842624 < am
    · exact once_b k s c t am ve v tm W (by omega) h1
    · by_cases h2 : t ≤ 0
      · exact once_c k s c t am ve v tm W (by omega) (by omega) h2
      · by_cases hv : v = 1
        · subst hv
          exact once_yes k s c t am ve tm W (by omega) (by omega) (by omega) w1 w2 w3 hb.1 hb.2
        · exact once_no k s c t am ve v tm W hv (by omega) (by omega) (by omega) w1 w2 w3 w6 hb.1 hb.2
end Go.Proofs.Ytljfmfkgpnabaaa.Pure
