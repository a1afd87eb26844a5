/- ReportAmounts: what the law computes, for every input. -/
import Derived.Test.YtnpcodfeggcdbaaDoorMoney
import Derived.Laws.RangeAny
set_option linter.unusedVariables false
set_option linter.unusedSimpArgs false
namespace Go.Proofs.YtnpcodfeggcdbaaDoor.Pure
open Go.RowKit Go.Proofs.YtnpcodfeggcdbaaDoor.PMny Go.Proofs.YtnpcodfeggcdbaaDoorW.PrintWords Go.Proofs.YtnpcodfeggcdbaaDoorW.PrintLast
open Go.Proofs.YtnpcodfeggcdbaaDoor Go.Proofs.YtnpcodfeggcdbaaDoorW.PrintMore
/-- '[]byte' of a text: a row of its bytes. -/
theorem conv_text (w : World) (l : List UInt8) : ∃ (cap : Nat) (C : Array Value), (convert 9 28 (.string ⟨l.toArray⟩)).run Tryd.prog w = .ok (.slice (some ⟨w.heap.size, 0, none⟩) l.length cap) (w.drew.alloc (.cells C 5 (C.size, C.size + 1))) ∧ (∀ j (h : j < l.length), C[j]? = some (.int .u8 (l[j]).toNat)) ∧ l.length ≤ cap := by
  refine ⟨grownCap w l.length 0 5, bytesRow ⟨l.toArray⟩ (grownCap w l.length 0 5), ?_, ?_, ?_⟩
  · have := run_bytes_of_string (P := Tryd.prog) w 9 28 5 ⟨l.toArray⟩ Tryd.underlying9 Tryd.underlying28 Tryd.underlying5
    simpa [ByteArray.size] using this
  · intro j h
    unfold bytesRow
    rw [Array.getElem?_append_left (by simpa using h)]
    simp [h]
  · exact grownCap_ge _ _ _ _
theorem conv_back (w : World) (l : List UInt8) (g cap : Nat) (hc : ∀ j (hj : j < l.length), w.cell? ⟨g, j, none⟩ = some (.int .u8 (l[j].toNat : Int))) :
    (convert 28 9 (.slice (some ⟨g, 0, none⟩) l.length cap)).run Tryd.prog w = .ok (.string ⟨l.toArray⟩) w :=
  run_convert_bytes_back (P := Tryd.prog) w 28 9 5 ⟨g, 0, none⟩ cap l Tryd.underlying28 Tryd.underlying5 Tryd.underlying9 (fun j hj => by
    have e : (⟨g, 0, none⟩ : Addr).add j = ⟨g, j, none⟩ := by cases j <;> simp [Addr.add]
    rw [e]; exact hc j hj)
theorem amt_spec (l : List UInt8) : (∃ m : Int, amt l = (m, 0) ∧ mny m = l ∧ -1125899906842624 ≤ m ∧ m ≤ 1125899906842624) ∨ amt l = (0, 4) ∨ amt l = (0, 9) := by
  unfold amt
  cases scan (trim l) 0 with
  | none => exact .inr (.inl rfl)
  | some a =>
    simp only
    generalize (if Lib.hasPrefix l [45] = true then -a else a) = n
    by_cases h : mny n ≠ l
    · rw [if_pos h]; exact .inr (.inl rfl)
    · rw [if_neg h]
      by_cases h2 : 1125899906842624 < n ∨ n < -1125899906842624
      · rw [if_pos h2]; exact .inr (.inr rfl)
      · rw [if_neg h2]; exact .inl ⟨n, rfl, by simpa using h, by omega, by omega⟩
theorem amounts_long (s : ByteArray) (n0 a0 c0 : Int) (w : World) (ht : TB w) (hl : decide (30 < (s.size : Int)) = true) :
    Calls Tryd.prog 4 #[.string s, .int .i64 n0, .int .u8 a0, .int .u8 c0] w fun e w' => e = .returned (.bool true) ∧ Below w.heap.size w w' := by
  have HT := Aside0.mk ht
  clear ht
  go_enter Tryd.func4, Tryd.ntmps4
  go_wp2_with fail
  with_reducible refine (awake_calls _ HT.out).mono ?_
  rintro e w1 ⟨rfl, hb⟩
  have GB := Aside0.mk hb
  clear hb
  go_wp2_with fail
  with_reducible refine (awake_calls _ (HT.out.step GB.out)).mono ?_
  rintro e w2 ⟨rfl, hb⟩
  have GB := Aside0.mk (below_step GB.out hb)
  clear hb
  go_wp2_with fail
  go_ret
  exact ⟨rfl, GB.out⟩
set_option maxHeartbeats 8000000 in
set_option maxRecDepth 20000 in
theorem amounts_walk (s : ByteArray) (n0 a0 c0 : Int) (w : World) (ht : TB w) (b1 : 0 ≤ a0 ∧ a0 ≤ 255) (b2 : 0 ≤ c0 ∧ c0 ≤ 255) (hl : decide (30 < (s.size : Int)) = false) :
    Calls Tryd.prog 4 #[.string s, .int .i64 n0, .int .u8 a0, .int .u8 c0] w fun e w' => e = .returned (.bool true) ∧ Below w.heap.size w w' := by
  have HT := Aside0.mk ht
  clear ht
  obtain ⟨q, hq⟩ : ∃ q, Int.tmod n0 1125899906842624 = q := ⟨_, rfl⟩
  have hq1 : q < 1125899906842624 := by rw [← hq]; exact Int.tmod_lt_of_pos _ (by omega)
  have hq2 : -1125899906842624 < q := by rw [← hq]; exact Int.lt_tmod_of_pos _ (by omega)
  obtain ⟨l, hl0⟩ : ∃ l, l = mny q := ⟨_, rfl⟩
  have hL1 : 1 ≤ l.length ∧ l.length ≤ 23 := by
    rw [hl0]; unfold mny
    split
    · have := mny0_len (-q) (by omega) (by omega); simp only [List.length_cons]; omega
    · have := mny0_len q (by omega) (by omega)
      refine ⟨?_, by omega⟩
      unfold mny0; simp only [List.length_append, List.length_cons]; omega
  have HL := Aside0.mk hl0
  clear hl0
  go_enter Tryd.func4, Tryd.ntmps4
  go_wp2_with fail
  with_reducible refine (awake_calls _ HT.out).mono ?_
  rintro e w1 ⟨rfl, hb⟩
  have GB := Aside0.mk hb
  clear hb
  go_wp2_with fail
  with_reducible refine (lmoney_calls q _ (by omega) (by omega)).mono ?_
  rintro e w3 ⟨rfl, hb⟩
  have GB := Aside0.mk (below_step GB.out hb)
  have GB3 := GB
  clear hb
  rw [← HL.out]
  obtain ⟨cap, C, hconv, hC, hcap⟩ := conv_text w3 l
  obtain ⟨N, hN⟩ : ∃ N, N = l.length := ⟨_, rfl⟩
  rw [← hN] at hconv hcap hL1
  have HN := Aside0.mk hN
  clear hN
  have HC := Aside0.mk hC
  obtain ⟨k, hk⟩ : ∃ k : Nat, Int.tmod a0 (N : Int) = (k : Int) := by
    have h1 := Int.tmod_nonneg (N : Int) b1.1
    exact ⟨(Int.tmod a0 N).toNat, by omega⟩
  have hkN : k < N := by
    have h1 := Int.tmod_lt_of_pos a0 (show (0 : Int) < (N : Int) by omega)
    omega
  have hN0 : (N : Int) ≠ 0 := by omega
  have hk0 : (0 : Int) ≤ (k : Int) := by omega
  have hk1 : (k : Int) < (N : Int) := by omega
  have hN1 : (N : Int) ≤ 23 := by omega
  have hB : (w3.drew.alloc (.cells C 5 (C.size, C.size + 1))).heap[w3.heap.size]? = some (.cells C 5 (C.size, C.size + 1)) := blk_new w3.drew _
  have GB4 : Below w.heap.size w (w3.drew.alloc (.cells C 5 (C.size, C.size + 1))) := below_alloc (below_drew1 GB.out) _
  obtain ⟨W4, hW4⟩ : ∃ W4, W4 = w3.drew.alloc (.cells C 5 (C.size, C.size + 1)) := ⟨_, rfl⟩
  rw [← hW4] at hB hconv GB4
  have HW4 := Aside0.mk hW4
  clear hW4
  have hkl : k < l.length := by have := HN.out; omega
  have hcp : W4.cell? ⟨w3.heap.size, k, none⟩ = some (.int .u8 (l[k]'hkl).toNat) := by
    simp only [World.cell?, hB]; exact hC k hkl
  have hCs : k < C.size := (Array.getElem?_eq_some_iff.1 (hC k hkl)).1
  have HCS : Aside0 (k < C.size) := ⟨hCs⟩
  have hfp : W4.frozen? ⟨w3.heap.size, k, none⟩ = false := by
    simp only [World.frozen?, hB]; simp; omega
  have HB4 := Aside0.mk hB
  have GB := Aside0.mk GB4
  generalize (l[k]'hkl).toNat = v0 at hcp
  clear hCs hkl
  obtain ⟨W5, hW5⟩ : ∃ W5, W5 = W4.setCell ⟨w3.heap.size, k, none⟩ (.int .u8 c0) := ⟨_, rfl⟩
  obtain ⟨l', hl'⟩ : ∃ l' : List UInt8, l' = l.set k (UInt8.ofNat c0.toNat) := ⟨_, rfl⟩
  have hl2 : l'.length = N := by rw [hl', List.length_set, HN.out]
  have hcell : ∀ (W : World), Below W5.heap.size W5 W → ∀ j (hj : j < l'.length), W.cell? ⟨w3.heap.size, j, none⟩ = some (.int .u8 (l'[j].toNat : Int)) := by
    intro W hbW j hj
    have h5 : W5.heap[w3.heap.size]? = some (.cells (C.setIfInBounds k (.int .u8 c0)) 5 (C.size, C.size + 1)) := by
      rw [hW5]; simp [World.setCell, Array.getElem?_modify, HB4.out]
    have h6 := blk_below h5 hbW
    simp only [World.cell?, h6]
    subst hl'
    rw [Array.getElem?_setIfInBounds, List.getElem_set]
    by_cases e : k = j
    · rw [if_pos e, if_pos e, if_pos HCS.out]
      have hc0 : ((UInt8.ofNat c0.toNat).toNat : Int) = c0 := by rw [UInt8.toNat_ofNat']; omega
      rw [hc0]
      rfl
    · rw [if_neg e, if_neg e]
      exact HC.out j (by rw [List.length_set] at hj; exact hj)
  have HCL := Aside0.mk hcell
  have HW5 := Aside0.mk hW5
  clear hC hB GB4
  rw [show (⟨l.toArray⟩ : ByteArray) = B l from rfl] at hconv
  have hk10 : ∀ W, Below W5.heap.size W5 W → (convert 28 9 (.slice (some ⟨w3.heap.size, 0, none⟩) N cap)).run Tryd.prog W = .ok (.string (B l')) W := by
    intro W hbW
    have := conv_back W l' w3.heap.size cap (HCL.out W hbW)
    rw [hl2] at this
    exact this
  have hk5 := hk10 W5 (Below.refl _ _)
  rw [hW5] at hk5
  have HK10 := Aside0.mk hk10
  clear hk10 hl'
  have hls : (B l').size = N := by rw [B_size, hl2]
  have hN2 : N ≤ 23 := hL1.2
  have hsz : W4.heap.size = W5.heap.size := by rw [hW5]; simp
  have HSZ := Aside0.mk hsz
  clear hsz
  go_wp2_with fail
  rw [← hW5]
  have B6 : Aside0 ((W5.alloc (.cells #[.string s, .string (B l'), .string (B l' ++ ⟨#[48]⟩), .string (⟨#[48]⟩ ++ B l')] 9)).heap[W4.heap.size]? = some (.cells #[.string s, .string (B l'), .string (B l' ++ ⟨#[48]⟩), .string (⟨#[48]⟩ ++ B l')] 9 (0, 0))) := ⟨by rw [HSZ.out]; exact blk_new W5 _⟩
  have GB6 : Aside0 (Below w.heap.size w (W5.alloc (.cells #[.string s, .string (B l'), .string (B l' ++ ⟨#[48]⟩), .string (⟨#[48]⟩ ++ B l')] 9))) := ⟨below_alloc (by rw [HW5.out]; exact below_set GB.out (by have := GB3.out.size; simp; omega)) _⟩
  clear HK10 HCL HC HB4 GB hk5 hls HSZ
  generalize (B l' : ByteArray) ++ ⟨#[48]⟩ = x2 at GB6 B6 ⊢
  generalize (⟨#[48]⟩ : ByteArray) ++ B l' = x3 at GB6 B6 ⊢
  generalize (B l' : ByteArray) = x1 at GB6 B6 ⊢
  generalize W5.alloc (.cells #[.string s, .string x1, .string x2, .string x3] 9) = W6 at GB6 B6 ⊢
  generalize W4.heap.size = g6 at B6 ⊢
  go_loopg [45] 4 (fun kq t45 wr => ∃ i : Nat, t45 = .int .i64 i ∧ i ≤ 4 ∧ Aside0 (4 - i ≤ kq) ∧ Aside0 (wr.heap[g6]? = some (.cells #[.string s, .string x1, .string x2, .string x3] 9 (0, 0))) ∧ Aside0 (Below w.heap.size w wr))
  case atStart => exact ⟨0, rfl, by omega, ⟨by omega⟩, B6, GB6⟩
  case round =>
    obtain ⟨i, rfl, hi, HM, C6, HB⟩ := hrel
    clear GB6 B6
    by_cases hi4 : i < 4
    · obtain ⟨x, hx⟩ : ∃ x, wr.cell? ⟨g6, i, none⟩ = some (.string x) := by
        have := blk_cell C6.out i
        rcases (show i = 0 ∨ i = 1 ∨ i = 2 ∨ i = 3 by omega) with rfl | rfl | rfl | rfl <;> exact ⟨_, this⟩
      have hi0 : (0 : Int) ≤ (i : Int) := by omega
      have hi1 : (i : Int) < 4 := by omega
      have HX := Aside0.mk hx
      go_wp2_with fail
      with_reducible refine (amount_calls x _ (HT.out.step HB.out)).mono ?_
      rintro e w7 ⟨rfl, hb⟩
      have C7 := Aside0.mk (blk_below C6.out hb)
      have GB7 := Aside0.mk (below_step HB.out hb)
      clear hb
      rcases amt_spec x.data.toList with ⟨m, hr, hm, hm1, hm2⟩ | hr | hr
      · rw [hr]
        have HMM : Aside0 (B (mny m) = x) := ⟨by rw [hm]; exact B_list x⟩
        clear hr hm
        go_wp2_with fail
        with_reducible refine (lmoney_calls m _ (by omega) (by omega)).mono ?_
        rintro e w8 ⟨rfl, hb⟩
        have C8 := Aside0.mk (blk_below C7.out hb)
        have GB8 := Aside0.mk (below_step GB7.out hb)
        clear hb
        rw [HMM.out]
        have hq3 : decide (m > 1125899906842624) = false := decide_eq_false (by omega)
        have hq4 : decide (m < -1125899906842624) = false := decide_eq_false (by omega)
        go_wp2_with fail
        go_roundg (4 - (i + 1))
        case measure => have := HM.out; omega
        case rel => exact ⟨i + 1, rfl, by omega, ⟨Nat.le_refl _⟩, C8, GB8⟩
      · rw [hr]
        clear hr
        go_wp2_with fail
        go_roundg (4 - (i + 1))
        case measure => have := HM.out; omega
        case rel => exact ⟨i + 1, rfl, by omega, ⟨Nat.le_refl _⟩, C7, GB7⟩
      · rw [hr]
        clear hr
        go_wp2_with fail
        go_roundg (4 - (i + 1))
        case measure => have := HM.out; omega
        case rel => exact ⟨i + 1, rfl, by omega, ⟨Nat.le_refl _⟩, C7, GB7⟩
    · have hi5 : i = 4 := by omega
      subst hi5
      go_wp2_with fail
      try rw [Exit.noGoto_exit]
      go_ret
      exact ⟨rfl, HB.out⟩
theorem reportAmounts_calls (s : ByteArray) (n0 a0 c0 : Int) (w : World) (ws : s.size ≤ maxLen) (w1 : (Lit.int .i64 n0).wf = true) (w2 : (Lit.int .u8 a0).wf = true) (w3 : (Lit.int .u8 c0).wf = true) (ht : TB w) :
    Calls Tryd.prog 4 #[.string s, .int .i64 n0, .int .u8 a0, .int .u8 c0] w fun e w' => e = .returned (.bool true) ∧ Below w.heap.size w w' := by
  have b1 := bounds_u8 w2
  have b2 := bounds_u8 w3
  cases hl : decide (30 < (s.size : Int)) with
  | true => exact amounts_long s n0 a0 c0 w ht hl
  | false => exact amounts_walk s n0 a0 c0 w ht b1 b2 hl
end Go.Proofs.YtnpcodfeggcdbaaDoor.Pure
