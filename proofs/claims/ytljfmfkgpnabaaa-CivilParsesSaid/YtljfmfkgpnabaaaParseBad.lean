/- What no text of a day is read as. -/
import Derived.Test.YtljfmfkgpnabaaaParseBase
set_option linter.unusedVariables false
set_option linter.unusedSimpArgs false
namespace Go.Proofs.Ytljfmfkgpnabaaa.Pure
open Go.RowKit Go.Proofs.Ytljfmfkgpnabaaa.PCivilNumbers Go.Proofs.YtljfmfkgpnabaaaW.PrintWords Go.Proofs.YtljfmfkgpnabaaaW.PrintLast
open Go.Proofs.Ytljfmfkgpnabaaa
attribute [local go_sem] setCell_map
/-- A sign that is none of a day's is read as none. -/
theorem next_bad (s : ByteArray) (k : Nat) (h : k < s.size) (hb : ¬ pgood s k) : if k = 4 ∨ k = 7 then ((Utf8.decode s k).1 : Int) ≠ 45 else ((Utf8.decode s k).1 : Int) < 48 ∨ 57 < ((Utf8.decode s k).1 : Int) := by
  have hd := pd_at s k h
  unfold pgood at hb
  by_cases ha : (s[k]'h).toNat < 128
  · rw [decode_ascii s k h ha]
    simp only
    split
    · rw [if_pos (by assumption)] at hb; omega
    · rw [if_neg (by assumption)] at hb; omega
  · have := (decode_high s k h (by omega)).1
    split <;> omega
set_option maxHeartbeats 32000000 in
theorem parse_bad (s : ByteArray) (w : World) (hs : s.size = 10) (p : Nat) (hp9 : p < 10) (hall : ∀ j, j < p → pgood s j) (hbd : ¬ pgood s p) :
    Calls Try.prog 27 #[.string s] w fun e w' => e = .returned (.tuple #[.agg #[.int .i64 0, .int .i64 0, .int .i64 0], .int .i64 4]) ∧ Below w.heap.size w w' := by
  have hsz : ((s.size : Int) == 10) = true := by rw [hs]; rfl
  have hszn : ((s.size : Int) != 10) = false := by rw [hs]; rfl
  have HS := Aside0.mk hs
  have HG := Aside0.mk hall
  have HV := Aside0.mk hbd
  clear hs hall hbd
  go_enter Try.func27, Try.ntmps27
  go_wp2_with fail
  go_step3
  go_wp2_with fail
  go_step3
  go_wp2_with fail
  go_loopg [5] p (fun kq t5 wr => ∃ (k : Nat) (wb : World), t5 = .int .i64 (if k ≤ 4 then 0 else if k ≤ 7 then 1 else 2) ∧ k ≤ p ∧ Aside0 (p - k ≤ kq) ∧ wr = wb.iter s k ∧ Aside0 (wb.heap.size = w.heap.size + 2) ∧ Aside0 (wb.heap[w.heap.size]? = some (.cells #[.int .i64 0, .int .i64 0, .int .i64 0] 30 (0, 0))) ∧ Aside0 (wb.heap[w.heap.size + 1]? = some (.cells #[.int .i64 (pacc s k).1, .int .i64 (pacc s k).2.1, .int .i64 (pacc s k).2.2] 74 (0, 0))) ∧ Aside0 (Below w.heap.size w wb))
  case atStart => exact ⟨0, (w.alloc (.cells #[.int .i64 0, .int .i64 0, .int .i64 0] 30)).alloc (.cells #[.int .i64 0, .int .i64 0, .int .i64 0] 74), rfl, by omega, ⟨by omega⟩, rfl, ⟨by simp⟩, ⟨blk_alloc (blk_new _ _) _⟩, ⟨by have := blk_new (w.alloc (.cells #[.int .i64 0, .int .i64 0, .int .i64 0] 30)) (.cells #[.int .i64 0, .int .i64 0, .int .i64 0] 74); simpa [pacc] using this⟩, ⟨below_alloc (below_alloc (Below.refl _ _) _) _⟩⟩
  case round =>
    obtain ⟨k, wb, rfl, hk, HM, rfl, HSZ, C2, C4, HB⟩ := hrel
    rcases (show k = 0 ∨ k = 1 ∨ k = 2 ∨ k = 3 ∨ k = 4 ∨ k = 5 ∨ k = 6 ∨ k = 7 ∨ k = 8 ∨ k = 9 by omega) with rfl | rfl | rfl | rfl | rfl | rfl | rfl | rfl | rfl | rfl
    · by_cases hkp : 0 < p
      · skip
        have hp : 0 < s.size := by rw [HS.out]; omega
        have hg := HG.out 0 (by omega)
        unfold pgood at hg
        rw [if_neg (by omega)] at hg
        have hpd := pd_at s 0 hp
        have hnx : ∀ ty, (Instr.next (.pointer (some ⟨w.heap.size + 1 + 1, 0, none⟩)) true ty).run Try.prog (wb.iter s 0) = .ok (.tuple #[.bool true, .int .i64 0, .int .i32 (pd s 0 + 48)]) (wb.iter s 1) := by
          intro ty
          have q := run_next_ascii (P := Try.prog) wb s 0 ty hp (by omega)
          rw [HSZ.out, hpd] at q
          exact q
        have hbd := pacc_bd s 0 (fun j hj => HG.out j (by omega))
        have hcell : (wb.iter s 1).cell? ⟨w.heap.size + 1, 0, none⟩ = some (.int .i64 (pacc s 0).1) := (blk_cell (blk_alloc C4.out (.stringIter s 1)) 0).trans rfl
        have hfz : (wb.iter s 1).frozen? ⟨w.heap.size + 1, 0, none⟩ = false := blk_frozen (blk_alloc C4.out (.stringIter s 1)) 0
        simp only [show (10 : Int) ^ 0 = 1 from rfl] at hbd
        have HPD := Aside0.mk hpd
        clear hpd
        go_wp2_with fail
        go_roundg (p - 1)
        case measure => have := HM.out; omega
        case rel => exact ⟨1, wb.setCell ⟨w.heap.size + 1, 0, none⟩ (.int .i64 (10 * (pacc s 0).1 + pd s 0)), rfl, by omega, ⟨Nat.le_refl _⟩, setCell_alloc_lt wb (.stringIter s 1) _ _ (by show w.heap.size + 1 < wb.heap.size; rw [HSZ.out]; omega), ⟨(size_setCell _ _ _).trans HSZ.out⟩, ⟨blk_far C2.out (by simp) _⟩, ⟨(blk_set C4.out 0 _).trans (by simp [pacc])⟩, ⟨below_set HB.out (by simp)⟩⟩
      · have hbad : Aside0 (¬ pgood s 0) := ⟨by have h := HV.out; rwa [show p = 0 by omega] at h⟩
        clear hkp hk hp9
        have hp : 0 < s.size := by rw [HS.out]; omega
        have hq := next_bad s 0 hp hbad.out
        rw [if_neg (by omega)] at hq
        obtain ⟨r, hr⟩ : ∃ r : Int, r = ((Utf8.decode s 0).1 : Int) := ⟨_, rfl⟩
        rw [← hr] at hq
        have HQ := Aside0.mk hq
        clear hq
        obtain ⟨q, hq⟩ : ∃ q : Nat, q = 0 + (Utf8.decode s 0).2 := ⟨_, rfl⟩
        have hnx : ∀ ty, (Instr.next (.pointer (some ⟨w.heap.size + 1 + 1, 0, none⟩)) true ty).run Try.prog (wb.iter s 0) = .ok (.tuple #[.bool true, .int .i64 0, .int .i32 r]) (wb.iter s q) := by
          intro ty
          have z := run_next_any (P := Try.prog) wb s 0 ty hp
          rw [HSZ.out, ← hr, ← hq] at z
          exact z
        clear hr hq
        have D2 := Aside0.mk (blk_alloc C2.out (.stringIter s q))
        have GB : Aside0 (Below w.heap.size w (wb.iter s q)) := ⟨below_alloc HB.out _⟩
        have y0 : (wb.iter s q).cell? ⟨w.heap.size, 0, none⟩ = some (.int .i64 0) := (blk_cell D2.out 0).trans rfl
        have x0 : (wb.iter s q).frozen? ⟨w.heap.size, 0, none⟩ = false := blk_frozen D2.out 0
        have y1 : (wb.iter s q).cell? ⟨w.heap.size, 1, none⟩ = some (.int .i64 0) := (blk_cell D2.out 1).trans rfl
        have x1 : (wb.iter s q).frozen? ⟨w.heap.size, 1, none⟩ = false := blk_frozen D2.out 1
        have y2 : (wb.iter s q).cell? ⟨w.heap.size, 2, none⟩ = some (.int .i64 0) := (blk_cell D2.out 2).trans rfl
        have x2 : (wb.iter s q).frozen? ⟨w.heap.size, 2, none⟩ = false := blk_frozen D2.out 2
        by_cases h48 : r < 48
        · have hb : decide (r < 48) = true := decide_eq_true h48
          clear h48
          go_wp2_with fail
          try rw [Exit.noGoto_ret]
          refine bodyPost_ret (v := .tuple #[.agg #[.int .i64 0, .int .i64 0, .int .i64 0], .int .i64 4]) (results_list (rs := [.cell 2 30, .tmp 3]) rfl (by simp) (.cell w.heap.size 30 #[.int .i64 0, .int .i64 0, .int .i64 0] (0, 0) _ rfl ((blk_set (blk_set (blk_set D2.out 0 _) 1 _) 2 _).trans rfl) Try.underlying30 rfl (by kernel_rfl) (.tmp .nil))) rfl ⟨rfl, ?_⟩
          exact below_set (below_set (below_set GB.out (by simp)) (by simp)) (by simp)
        · have hb : decide (r < 48) = false := decide_eq_false h48
          have hb2 : decide (57 < r) = true := decide_eq_true (by have := HQ.out; omega)
          clear h48
          go_wp2_with fail
          try rw [Exit.noGoto_ret]
          refine bodyPost_ret (v := .tuple #[.agg #[.int .i64 0, .int .i64 0, .int .i64 0], .int .i64 4]) (results_list (rs := [.cell 2 30, .tmp 3]) rfl (by simp) (.cell w.heap.size 30 #[.int .i64 0, .int .i64 0, .int .i64 0] (0, 0) _ rfl ((blk_set (blk_set (blk_set D2.out 0 _) 1 _) 2 _).trans rfl) Try.underlying30 rfl (by kernel_rfl) (.tmp .nil))) rfl ⟨rfl, ?_⟩
          exact below_set (below_set (below_set GB.out (by simp)) (by simp)) (by simp)
    · by_cases hkp : 1 < p
      · skip
        have hp : 1 < s.size := by rw [HS.out]; omega
        have hg := HG.out 1 (by omega)
        unfold pgood at hg
        rw [if_neg (by omega)] at hg
        have hpd := pd_at s 1 hp
        have hnx : ∀ ty, (Instr.next (.pointer (some ⟨w.heap.size + 1 + 1, 0, none⟩)) true ty).run Try.prog (wb.iter s 1) = .ok (.tuple #[.bool true, .int .i64 1, .int .i32 (pd s 1 + 48)]) (wb.iter s 2) := by
          intro ty
          have q := run_next_ascii (P := Try.prog) wb s 1 ty hp (by omega)
          rw [HSZ.out, hpd] at q
          exact q
        have hbd := pacc_bd s 1 (fun j hj => HG.out j (by omega))
        have hcell : (wb.iter s 2).cell? ⟨w.heap.size + 1, 0, none⟩ = some (.int .i64 (pacc s 1).1) := (blk_cell (blk_alloc C4.out (.stringIter s 2)) 0).trans rfl
        have hfz : (wb.iter s 2).frozen? ⟨w.heap.size + 1, 0, none⟩ = false := blk_frozen (blk_alloc C4.out (.stringIter s 2)) 0
        simp only [show (10 : Int) ^ 1 = 10 from rfl] at hbd
        have HPD := Aside0.mk hpd
        clear hpd
        go_wp2_with fail
        go_roundg (p - 2)
        case measure => have := HM.out; omega
        case rel => exact ⟨2, wb.setCell ⟨w.heap.size + 1, 0, none⟩ (.int .i64 (10 * (pacc s 1).1 + pd s 1)), rfl, by omega, ⟨Nat.le_refl _⟩, setCell_alloc_lt wb (.stringIter s 2) _ _ (by show w.heap.size + 1 < wb.heap.size; rw [HSZ.out]; omega), ⟨(size_setCell _ _ _).trans HSZ.out⟩, ⟨blk_far C2.out (by simp) _⟩, ⟨(blk_set C4.out 0 _).trans (by simp [pacc])⟩, ⟨below_set HB.out (by simp)⟩⟩
      · have hbad : Aside0 (¬ pgood s 1) := ⟨by have h := HV.out; rwa [show p = 1 by omega] at h⟩
        clear hkp hk hp9
        have hp : 1 < s.size := by rw [HS.out]; omega
        have hq := next_bad s 1 hp hbad.out
        rw [if_neg (by omega)] at hq
        obtain ⟨r, hr⟩ : ∃ r : Int, r = ((Utf8.decode s 1).1 : Int) := ⟨_, rfl⟩
        rw [← hr] at hq
        have HQ := Aside0.mk hq
        clear hq
        obtain ⟨q, hq⟩ : ∃ q : Nat, q = 1 + (Utf8.decode s 1).2 := ⟨_, rfl⟩
        have hnx : ∀ ty, (Instr.next (.pointer (some ⟨w.heap.size + 1 + 1, 0, none⟩)) true ty).run Try.prog (wb.iter s 1) = .ok (.tuple #[.bool true, .int .i64 1, .int .i32 r]) (wb.iter s q) := by
          intro ty
          have z := run_next_any (P := Try.prog) wb s 1 ty hp
          rw [HSZ.out, ← hr, ← hq] at z
          exact z
        clear hr hq
        have D2 := Aside0.mk (blk_alloc C2.out (.stringIter s q))
        have GB : Aside0 (Below w.heap.size w (wb.iter s q)) := ⟨below_alloc HB.out _⟩
        have y0 : (wb.iter s q).cell? ⟨w.heap.size, 0, none⟩ = some (.int .i64 0) := (blk_cell D2.out 0).trans rfl
        have x0 : (wb.iter s q).frozen? ⟨w.heap.size, 0, none⟩ = false := blk_frozen D2.out 0
        have y1 : (wb.iter s q).cell? ⟨w.heap.size, 1, none⟩ = some (.int .i64 0) := (blk_cell D2.out 1).trans rfl
        have x1 : (wb.iter s q).frozen? ⟨w.heap.size, 1, none⟩ = false := blk_frozen D2.out 1
        have y2 : (wb.iter s q).cell? ⟨w.heap.size, 2, none⟩ = some (.int .i64 0) := (blk_cell D2.out 2).trans rfl
        have x2 : (wb.iter s q).frozen? ⟨w.heap.size, 2, none⟩ = false := blk_frozen D2.out 2
        by_cases h48 : r < 48
        · have hb : decide (r < 48) = true := decide_eq_true h48
          clear h48
          go_wp2_with fail
          try rw [Exit.noGoto_ret]
          refine bodyPost_ret (v := .tuple #[.agg #[.int .i64 0, .int .i64 0, .int .i64 0], .int .i64 4]) (results_list (rs := [.cell 2 30, .tmp 3]) rfl (by simp) (.cell w.heap.size 30 #[.int .i64 0, .int .i64 0, .int .i64 0] (0, 0) _ rfl ((blk_set (blk_set (blk_set D2.out 0 _) 1 _) 2 _).trans rfl) Try.underlying30 rfl (by kernel_rfl) (.tmp .nil))) rfl ⟨rfl, ?_⟩
          exact below_set (below_set (below_set GB.out (by simp)) (by simp)) (by simp)
        · have hb : decide (r < 48) = false := decide_eq_false h48
          have hb2 : decide (57 < r) = true := decide_eq_true (by have := HQ.out; omega)
          clear h48
          go_wp2_with fail
          try rw [Exit.noGoto_ret]
          refine bodyPost_ret (v := .tuple #[.agg #[.int .i64 0, .int .i64 0, .int .i64 0], .int .i64 4]) (results_list (rs := [.cell 2 30, .tmp 3]) rfl (by simp) (.cell w.heap.size 30 #[.int .i64 0, .int .i64 0, .int .i64 0] (0, 0) _ rfl ((blk_set (blk_set (blk_set D2.out 0 _) 1 _) 2 _).trans rfl) Try.underlying30 rfl (by kernel_rfl) (.tmp .nil))) rfl ⟨rfl, ?_⟩
          exact below_set (below_set (below_set GB.out (by simp)) (by simp)) (by simp)
    · by_cases hkp : 2 < p
      · skip
        have hp : 2 < s.size := by rw [HS.out]; omega
        have hg := HG.out 2 (by omega)
        unfold pgood at hg
        rw [if_neg (by omega)] at hg
        have hpd := pd_at s 2 hp
        have hnx : ∀ ty, (Instr.next (.pointer (some ⟨w.heap.size + 1 + 1, 0, none⟩)) true ty).run Try.prog (wb.iter s 2) = .ok (.tuple #[.bool true, .int .i64 2, .int .i32 (pd s 2 + 48)]) (wb.iter s 3) := by
          intro ty
          have q := run_next_ascii (P := Try.prog) wb s 2 ty hp (by omega)
          rw [HSZ.out, hpd] at q
          exact q
        have hbd := pacc_bd s 2 (fun j hj => HG.out j (by omega))
        have hcell : (wb.iter s 3).cell? ⟨w.heap.size + 1, 0, none⟩ = some (.int .i64 (pacc s 2).1) := (blk_cell (blk_alloc C4.out (.stringIter s 3)) 0).trans rfl
        have hfz : (wb.iter s 3).frozen? ⟨w.heap.size + 1, 0, none⟩ = false := blk_frozen (blk_alloc C4.out (.stringIter s 3)) 0
        simp only [show (10 : Int) ^ 2 = 100 from rfl] at hbd
        have HPD := Aside0.mk hpd
        clear hpd
        go_wp2_with fail
        go_roundg (p - 3)
        case measure => have := HM.out; omega
        case rel => exact ⟨3, wb.setCell ⟨w.heap.size + 1, 0, none⟩ (.int .i64 (10 * (pacc s 2).1 + pd s 2)), rfl, by omega, ⟨Nat.le_refl _⟩, setCell_alloc_lt wb (.stringIter s 3) _ _ (by show w.heap.size + 1 < wb.heap.size; rw [HSZ.out]; omega), ⟨(size_setCell _ _ _).trans HSZ.out⟩, ⟨blk_far C2.out (by simp) _⟩, ⟨(blk_set C4.out 0 _).trans (by simp [pacc])⟩, ⟨below_set HB.out (by simp)⟩⟩
      · have hbad : Aside0 (¬ pgood s 2) := ⟨by have h := HV.out; rwa [show p = 2 by omega] at h⟩
        clear hkp hk hp9
        have hp : 2 < s.size := by rw [HS.out]; omega
        have hq := next_bad s 2 hp hbad.out
        rw [if_neg (by omega)] at hq
        obtain ⟨r, hr⟩ : ∃ r : Int, r = ((Utf8.decode s 2).1 : Int) := ⟨_, rfl⟩
        rw [← hr] at hq
        have HQ := Aside0.mk hq
        clear hq
        obtain ⟨q, hq⟩ : ∃ q : Nat, q = 2 + (Utf8.decode s 2).2 := ⟨_, rfl⟩
        have hnx : ∀ ty, (Instr.next (.pointer (some ⟨w.heap.size + 1 + 1, 0, none⟩)) true ty).run Try.prog (wb.iter s 2) = .ok (.tuple #[.bool true, .int .i64 2, .int .i32 r]) (wb.iter s q) := by
          intro ty
          have z := run_next_any (P := Try.prog) wb s 2 ty hp
          rw [HSZ.out, ← hr, ← hq] at z
          exact z
        clear hr hq
        have D2 := Aside0.mk (blk_alloc C2.out (.stringIter s q))
        have GB : Aside0 (Below w.heap.size w (wb.iter s q)) := ⟨below_alloc HB.out _⟩
        have y0 : (wb.iter s q).cell? ⟨w.heap.size, 0, none⟩ = some (.int .i64 0) := (blk_cell D2.out 0).trans rfl
        have x0 : (wb.iter s q).frozen? ⟨w.heap.size, 0, none⟩ = false := blk_frozen D2.out 0
        have y1 : (wb.iter s q).cell? ⟨w.heap.size, 1, none⟩ = some (.int .i64 0) := (blk_cell D2.out 1).trans rfl
        have x1 : (wb.iter s q).frozen? ⟨w.heap.size, 1, none⟩ = false := blk_frozen D2.out 1
        have y2 : (wb.iter s q).cell? ⟨w.heap.size, 2, none⟩ = some (.int .i64 0) := (blk_cell D2.out 2).trans rfl
        have x2 : (wb.iter s q).frozen? ⟨w.heap.size, 2, none⟩ = false := blk_frozen D2.out 2
        by_cases h48 : r < 48
        · have hb : decide (r < 48) = true := decide_eq_true h48
          clear h48
          go_wp2_with fail
          try rw [Exit.noGoto_ret]
          refine bodyPost_ret (v := .tuple #[.agg #[.int .i64 0, .int .i64 0, .int .i64 0], .int .i64 4]) (results_list (rs := [.cell 2 30, .tmp 3]) rfl (by simp) (.cell w.heap.size 30 #[.int .i64 0, .int .i64 0, .int .i64 0] (0, 0) _ rfl ((blk_set (blk_set (blk_set D2.out 0 _) 1 _) 2 _).trans rfl) Try.underlying30 rfl (by kernel_rfl) (.tmp .nil))) rfl ⟨rfl, ?_⟩
          exact below_set (below_set (below_set GB.out (by simp)) (by simp)) (by simp)
        · have hb : decide (r < 48) = false := decide_eq_false h48
          have hb2 : decide (57 < r) = true := decide_eq_true (by have := HQ.out; omega)
          clear h48
          go_wp2_with fail
          try rw [Exit.noGoto_ret]
          refine bodyPost_ret (v := .tuple #[.agg #[.int .i64 0, .int .i64 0, .int .i64 0], .int .i64 4]) (results_list (rs := [.cell 2 30, .tmp 3]) rfl (by simp) (.cell w.heap.size 30 #[.int .i64 0, .int .i64 0, .int .i64 0] (0, 0) _ rfl ((blk_set (blk_set (blk_set D2.out 0 _) 1 _) 2 _).trans rfl) Try.underlying30 rfl (by kernel_rfl) (.tmp .nil))) rfl ⟨rfl, ?_⟩
          exact below_set (below_set (below_set GB.out (by simp)) (by simp)) (by simp)
    · by_cases hkp : 3 < p
      · skip
        have hp : 3 < s.size := by rw [HS.out]; omega
        have hg := HG.out 3 (by omega)
        unfold pgood at hg
        rw [if_neg (by omega)] at hg
        have hpd := pd_at s 3 hp
        have hnx : ∀ ty, (Instr.next (.pointer (some ⟨w.heap.size + 1 + 1, 0, none⟩)) true ty).run Try.prog (wb.iter s 3) = .ok (.tuple #[.bool true, .int .i64 3, .int .i32 (pd s 3 + 48)]) (wb.iter s 4) := by
          intro ty
          have q := run_next_ascii (P := Try.prog) wb s 3 ty hp (by omega)
          rw [HSZ.out, hpd] at q
          exact q
        have hbd := pacc_bd s 3 (fun j hj => HG.out j (by omega))
        have hcell : (wb.iter s 4).cell? ⟨w.heap.size + 1, 0, none⟩ = some (.int .i64 (pacc s 3).1) := (blk_cell (blk_alloc C4.out (.stringIter s 4)) 0).trans rfl
        have hfz : (wb.iter s 4).frozen? ⟨w.heap.size + 1, 0, none⟩ = false := blk_frozen (blk_alloc C4.out (.stringIter s 4)) 0
        simp only [show (10 : Int) ^ 3 = 1000 from rfl] at hbd
        have HPD := Aside0.mk hpd
        clear hpd
        go_wp2_with fail
        go_roundg (p - 4)
        case measure => have := HM.out; omega
        case rel => exact ⟨4, wb.setCell ⟨w.heap.size + 1, 0, none⟩ (.int .i64 (10 * (pacc s 3).1 + pd s 3)), rfl, by omega, ⟨Nat.le_refl _⟩, setCell_alloc_lt wb (.stringIter s 4) _ _ (by show w.heap.size + 1 < wb.heap.size; rw [HSZ.out]; omega), ⟨(size_setCell _ _ _).trans HSZ.out⟩, ⟨blk_far C2.out (by simp) _⟩, ⟨(blk_set C4.out 0 _).trans (by simp [pacc])⟩, ⟨below_set HB.out (by simp)⟩⟩
      · have hbad : Aside0 (¬ pgood s 3) := ⟨by have h := HV.out; rwa [show p = 3 by omega] at h⟩
        clear hkp hk hp9
        have hp : 3 < s.size := by rw [HS.out]; omega
        have hq := next_bad s 3 hp hbad.out
        rw [if_neg (by omega)] at hq
        obtain ⟨r, hr⟩ : ∃ r : Int, r = ((Utf8.decode s 3).1 : Int) := ⟨_, rfl⟩
        rw [← hr] at hq
        have HQ := Aside0.mk hq
        clear hq
        obtain ⟨q, hq⟩ : ∃ q : Nat, q = 3 + (Utf8.decode s 3).2 := ⟨_, rfl⟩
        have hnx : ∀ ty, (Instr.next (.pointer (some ⟨w.heap.size + 1 + 1, 0, none⟩)) true ty).run Try.prog (wb.iter s 3) = .ok (.tuple #[.bool true, .int .i64 3, .int .i32 r]) (wb.iter s q) := by
          intro ty
          have z := run_next_any (P := Try.prog) wb s 3 ty hp
          rw [HSZ.out, ← hr, ← hq] at z
          exact z
        clear hr hq
        have D2 := Aside0.mk (blk_alloc C2.out (.stringIter s q))
        have GB : Aside0 (Below w.heap.size w (wb.iter s q)) := ⟨below_alloc HB.out _⟩
        have y0 : (wb.iter s q).cell? ⟨w.heap.size, 0, none⟩ = some (.int .i64 0) := (blk_cell D2.out 0).trans rfl
        have x0 : (wb.iter s q).frozen? ⟨w.heap.size, 0, none⟩ = false := blk_frozen D2.out 0
        have y1 : (wb.iter s q).cell? ⟨w.heap.size, 1, none⟩ = some (.int .i64 0) := (blk_cell D2.out 1).trans rfl
        have x1 : (wb.iter s q).frozen? ⟨w.heap.size, 1, none⟩ = false := blk_frozen D2.out 1
        have y2 : (wb.iter s q).cell? ⟨w.heap.size, 2, none⟩ = some (.int .i64 0) := (blk_cell D2.out 2).trans rfl
        have x2 : (wb.iter s q).frozen? ⟨w.heap.size, 2, none⟩ = false := blk_frozen D2.out 2
        by_cases h48 : r < 48
        · have hb : decide (r < 48) = true := decide_eq_true h48
          clear h48
          go_wp2_with fail
          try rw [Exit.noGoto_ret]
          refine bodyPost_ret (v := .tuple #[.agg #[.int .i64 0, .int .i64 0, .int .i64 0], .int .i64 4]) (results_list (rs := [.cell 2 30, .tmp 3]) rfl (by simp) (.cell w.heap.size 30 #[.int .i64 0, .int .i64 0, .int .i64 0] (0, 0) _ rfl ((blk_set (blk_set (blk_set D2.out 0 _) 1 _) 2 _).trans rfl) Try.underlying30 rfl (by kernel_rfl) (.tmp .nil))) rfl ⟨rfl, ?_⟩
          exact below_set (below_set (below_set GB.out (by simp)) (by simp)) (by simp)
        · have hb : decide (r < 48) = false := decide_eq_false h48
          have hb2 : decide (57 < r) = true := decide_eq_true (by have := HQ.out; omega)
          clear h48
          go_wp2_with fail
          try rw [Exit.noGoto_ret]
          refine bodyPost_ret (v := .tuple #[.agg #[.int .i64 0, .int .i64 0, .int .i64 0], .int .i64 4]) (results_list (rs := [.cell 2 30, .tmp 3]) rfl (by simp) (.cell w.heap.size 30 #[.int .i64 0, .int .i64 0, .int .i64 0] (0, 0) _ rfl ((blk_set (blk_set (blk_set D2.out 0 _) 1 _) 2 _).trans rfl) Try.underlying30 rfl (by kernel_rfl) (.tmp .nil))) rfl ⟨rfl, ?_⟩
          exact below_set (below_set (below_set GB.out (by simp)) (by simp)) (by simp)
    · by_cases hkp : 4 < p
      · skip
        have hp : 4 < s.size := by rw [HS.out]; omega
        have hg := HG.out 4 (by omega)
        unfold pgood at hg
        rw [if_pos (by omega)] at hg
        have hpd := pd_at s 4 hp
        have hnx : ∀ ty, (Instr.next (.pointer (some ⟨w.heap.size + 1 + 1, 0, none⟩)) true ty).run Try.prog (wb.iter s 4) = .ok (.tuple #[.bool true, .int .i64 4, .int .i32 (pd s 4 + 48)]) (wb.iter s 5) := by
          intro ty
          have q := run_next_ascii (P := Try.prog) wb s 4 ty hp (by omega)
          rw [HSZ.out, hpd] at q
          exact q
        have hb : (pd s 4 + 48 != 45) = false := by rw [hg]; rfl
        have HPD := Aside0.mk hpd
        clear hpd
        clear hg
        go_wp2_with fail
        go_roundg (p - 5)
        case measure => have := HM.out; omega
        case rel => exact ⟨5, wb, rfl, by omega, ⟨Nat.le_refl _⟩, rfl, HSZ, C2, ⟨C4.out.trans (by simp [pacc])⟩, HB⟩
      · have hbad : Aside0 (¬ pgood s 4) := ⟨by have h := HV.out; rwa [show p = 4 by omega] at h⟩
        clear hkp hk hp9
        have hp : 4 < s.size := by rw [HS.out]; omega
        have hq := next_bad s 4 hp hbad.out
        rw [if_pos (by omega)] at hq
        obtain ⟨r, hr⟩ : ∃ r : Int, r = ((Utf8.decode s 4).1 : Int) := ⟨_, rfl⟩
        rw [← hr] at hq
        have HQ := Aside0.mk hq
        clear hq
        obtain ⟨q, hq⟩ : ∃ q : Nat, q = 4 + (Utf8.decode s 4).2 := ⟨_, rfl⟩
        have hnx : ∀ ty, (Instr.next (.pointer (some ⟨w.heap.size + 1 + 1, 0, none⟩)) true ty).run Try.prog (wb.iter s 4) = .ok (.tuple #[.bool true, .int .i64 4, .int .i32 r]) (wb.iter s q) := by
          intro ty
          have z := run_next_any (P := Try.prog) wb s 4 ty hp
          rw [HSZ.out, ← hr, ← hq] at z
          exact z
        clear hr hq
        have D2 := Aside0.mk (blk_alloc C2.out (.stringIter s q))
        have GB : Aside0 (Below w.heap.size w (wb.iter s q)) := ⟨below_alloc HB.out _⟩
        have y0 : (wb.iter s q).cell? ⟨w.heap.size, 0, none⟩ = some (.int .i64 0) := (blk_cell D2.out 0).trans rfl
        have x0 : (wb.iter s q).frozen? ⟨w.heap.size, 0, none⟩ = false := blk_frozen D2.out 0
        have y1 : (wb.iter s q).cell? ⟨w.heap.size, 1, none⟩ = some (.int .i64 0) := (blk_cell D2.out 1).trans rfl
        have x1 : (wb.iter s q).frozen? ⟨w.heap.size, 1, none⟩ = false := blk_frozen D2.out 1
        have y2 : (wb.iter s q).cell? ⟨w.heap.size, 2, none⟩ = some (.int .i64 0) := (blk_cell D2.out 2).trans rfl
        have x2 : (wb.iter s q).frozen? ⟨w.heap.size, 2, none⟩ = false := blk_frozen D2.out 2
        have hb : (r != 45) = true := bne_iff_ne.2 HQ.out
        go_wp2_with fail
        try rw [Exit.noGoto_ret]
        refine bodyPost_ret (v := .tuple #[.agg #[.int .i64 0, .int .i64 0, .int .i64 0], .int .i64 4]) (results_list (rs := [.cell 2 30, .tmp 3]) rfl (by simp) (.cell w.heap.size 30 #[.int .i64 0, .int .i64 0, .int .i64 0] (0, 0) _ rfl ((blk_set (blk_set (blk_set D2.out 0 _) 1 _) 2 _).trans rfl) Try.underlying30 rfl (by kernel_rfl) (.tmp .nil))) rfl ⟨rfl, ?_⟩
        exact below_set (below_set (below_set GB.out (by simp)) (by simp)) (by simp)
    · by_cases hkp : 5 < p
      · skip
        have hp : 5 < s.size := by rw [HS.out]; omega
        have hg := HG.out 5 (by omega)
        unfold pgood at hg
        rw [if_neg (by omega)] at hg
        have hpd := pd_at s 5 hp
        have hnx : ∀ ty, (Instr.next (.pointer (some ⟨w.heap.size + 1 + 1, 0, none⟩)) true ty).run Try.prog (wb.iter s 5) = .ok (.tuple #[.bool true, .int .i64 5, .int .i32 (pd s 5 + 48)]) (wb.iter s 6) := by
          intro ty
          have q := run_next_ascii (P := Try.prog) wb s 5 ty hp (by omega)
          rw [HSZ.out, hpd] at q
          exact q
        have hbd := pacc_bd s 5 (fun j hj => HG.out j (by omega))
        have hcell : (wb.iter s 6).cell? ⟨w.heap.size + 1, 1, none⟩ = some (.int .i64 (pacc s 5).2.1) := (blk_cell (blk_alloc C4.out (.stringIter s 6)) 1).trans rfl
        have hfz : (wb.iter s 6).frozen? ⟨w.heap.size + 1, 1, none⟩ = false := blk_frozen (blk_alloc C4.out (.stringIter s 6)) 1
        simp only [show (10 : Int) ^ 5 = 100000 from rfl] at hbd
        have HPD := Aside0.mk hpd
        clear hpd
        go_wp2_with fail
        go_roundg (p - 6)
        case measure => have := HM.out; omega
        case rel => exact ⟨6, wb.setCell ⟨w.heap.size + 1, 1, none⟩ (.int .i64 (10 * (pacc s 5).2.1 + pd s 5)), rfl, by omega, ⟨Nat.le_refl _⟩, setCell_alloc_lt wb (.stringIter s 6) _ _ (by show w.heap.size + 1 < wb.heap.size; rw [HSZ.out]; omega), ⟨(size_setCell _ _ _).trans HSZ.out⟩, ⟨blk_far C2.out (by simp) _⟩, ⟨(blk_set C4.out 1 _).trans (by simp [pacc])⟩, ⟨below_set HB.out (by simp)⟩⟩
      · have hbad : Aside0 (¬ pgood s 5) := ⟨by have h := HV.out; rwa [show p = 5 by omega] at h⟩
        clear hkp hk hp9
        have hp : 5 < s.size := by rw [HS.out]; omega
        have hq := next_bad s 5 hp hbad.out
        rw [if_neg (by omega)] at hq
        obtain ⟨r, hr⟩ : ∃ r : Int, r = ((Utf8.decode s 5).1 : Int) := ⟨_, rfl⟩
        rw [← hr] at hq
        have HQ := Aside0.mk hq
        clear hq
        obtain ⟨q, hq⟩ : ∃ q : Nat, q = 5 + (Utf8.decode s 5).2 := ⟨_, rfl⟩
        have hnx : ∀ ty, (Instr.next (.pointer (some ⟨w.heap.size + 1 + 1, 0, none⟩)) true ty).run Try.prog (wb.iter s 5) = .ok (.tuple #[.bool true, .int .i64 5, .int .i32 r]) (wb.iter s q) := by
          intro ty
          have z := run_next_any (P := Try.prog) wb s 5 ty hp
          rw [HSZ.out, ← hr, ← hq] at z
          exact z
        clear hr hq
        have D2 := Aside0.mk (blk_alloc C2.out (.stringIter s q))
        have GB : Aside0 (Below w.heap.size w (wb.iter s q)) := ⟨below_alloc HB.out _⟩
        have y0 : (wb.iter s q).cell? ⟨w.heap.size, 0, none⟩ = some (.int .i64 0) := (blk_cell D2.out 0).trans rfl
        have x0 : (wb.iter s q).frozen? ⟨w.heap.size, 0, none⟩ = false := blk_frozen D2.out 0
        have y1 : (wb.iter s q).cell? ⟨w.heap.size, 1, none⟩ = some (.int .i64 0) := (blk_cell D2.out 1).trans rfl
        have x1 : (wb.iter s q).frozen? ⟨w.heap.size, 1, none⟩ = false := blk_frozen D2.out 1
        have y2 : (wb.iter s q).cell? ⟨w.heap.size, 2, none⟩ = some (.int .i64 0) := (blk_cell D2.out 2).trans rfl
        have x2 : (wb.iter s q).frozen? ⟨w.heap.size, 2, none⟩ = false := blk_frozen D2.out 2
        by_cases h48 : r < 48
        · have hb : decide (r < 48) = true := decide_eq_true h48
          clear h48
          go_wp2_with fail
          try rw [Exit.noGoto_ret]
          refine bodyPost_ret (v := .tuple #[.agg #[.int .i64 0, .int .i64 0, .int .i64 0], .int .i64 4]) (results_list (rs := [.cell 2 30, .tmp 3]) rfl (by simp) (.cell w.heap.size 30 #[.int .i64 0, .int .i64 0, .int .i64 0] (0, 0) _ rfl ((blk_set (blk_set (blk_set D2.out 0 _) 1 _) 2 _).trans rfl) Try.underlying30 rfl (by kernel_rfl) (.tmp .nil))) rfl ⟨rfl, ?_⟩
          exact below_set (below_set (below_set GB.out (by simp)) (by simp)) (by simp)
        · have hb : decide (r < 48) = false := decide_eq_false h48
          have hb2 : decide (57 < r) = true := decide_eq_true (by have := HQ.out; omega)
          clear h48
          go_wp2_with fail
          try rw [Exit.noGoto_ret]
          refine bodyPost_ret (v := .tuple #[.agg #[.int .i64 0, .int .i64 0, .int .i64 0], .int .i64 4]) (results_list (rs := [.cell 2 30, .tmp 3]) rfl (by simp) (.cell w.heap.size 30 #[.int .i64 0, .int .i64 0, .int .i64 0] (0, 0) _ rfl ((blk_set (blk_set (blk_set D2.out 0 _) 1 _) 2 _).trans rfl) Try.underlying30 rfl (by kernel_rfl) (.tmp .nil))) rfl ⟨rfl, ?_⟩
          exact below_set (below_set (below_set GB.out (by simp)) (by simp)) (by simp)
    · by_cases hkp : 6 < p
      · skip
        have hp : 6 < s.size := by rw [HS.out]; omega
        have hg := HG.out 6 (by omega)
        unfold pgood at hg
        rw [if_neg (by omega)] at hg
        have hpd := pd_at s 6 hp
        have hnx : ∀ ty, (Instr.next (.pointer (some ⟨w.heap.size + 1 + 1, 0, none⟩)) true ty).run Try.prog (wb.iter s 6) = .ok (.tuple #[.bool true, .int .i64 6, .int .i32 (pd s 6 + 48)]) (wb.iter s 7) := by
          intro ty
          have q := run_next_ascii (P := Try.prog) wb s 6 ty hp (by omega)
          rw [HSZ.out, hpd] at q
          exact q
        have hbd := pacc_bd s 6 (fun j hj => HG.out j (by omega))
        have hcell : (wb.iter s 7).cell? ⟨w.heap.size + 1, 1, none⟩ = some (.int .i64 (pacc s 6).2.1) := (blk_cell (blk_alloc C4.out (.stringIter s 7)) 1).trans rfl
        have hfz : (wb.iter s 7).frozen? ⟨w.heap.size + 1, 1, none⟩ = false := blk_frozen (blk_alloc C4.out (.stringIter s 7)) 1
        simp only [show (10 : Int) ^ 6 = 1000000 from rfl] at hbd
        have HPD := Aside0.mk hpd
        clear hpd
        go_wp2_with fail
        go_roundg (p - 7)
        case measure => have := HM.out; omega
        case rel => exact ⟨7, wb.setCell ⟨w.heap.size + 1, 1, none⟩ (.int .i64 (10 * (pacc s 6).2.1 + pd s 6)), rfl, by omega, ⟨Nat.le_refl _⟩, setCell_alloc_lt wb (.stringIter s 7) _ _ (by show w.heap.size + 1 < wb.heap.size; rw [HSZ.out]; omega), ⟨(size_setCell _ _ _).trans HSZ.out⟩, ⟨blk_far C2.out (by simp) _⟩, ⟨(blk_set C4.out 1 _).trans (by simp [pacc])⟩, ⟨below_set HB.out (by simp)⟩⟩
      · have hbad : Aside0 (¬ pgood s 6) := ⟨by have h := HV.out; rwa [show p = 6 by omega] at h⟩
        clear hkp hk hp9
        have hp : 6 < s.size := by rw [HS.out]; omega
        have hq := next_bad s 6 hp hbad.out
        rw [if_neg (by omega)] at hq
        obtain ⟨r, hr⟩ : ∃ r : Int, r = ((Utf8.decode s 6).1 : Int) := ⟨_, rfl⟩
        rw [← hr] at hq
        have HQ := Aside0.mk hq
        clear hq
        obtain ⟨q, hq⟩ : ∃ q : Nat, q = 6 + (Utf8.decode s 6).2 := ⟨_, rfl⟩
        have hnx : ∀ ty, (Instr.next (.pointer (some ⟨w.heap.size + 1 + 1, 0, none⟩)) true ty).run Try.prog (wb.iter s 6) = .ok (.tuple #[.bool true, .int .i64 6, .int .i32 r]) (wb.iter s q) := by
          intro ty
          have z := run_next_any (P := Try.prog) wb s 6 ty hp
          rw [HSZ.out, ← hr, ← hq] at z
          exact z
        clear hr hq
        have D2 := Aside0.mk (blk_alloc C2.out (.stringIter s q))
        have GB : Aside0 (Below w.heap.size w (wb.iter s q)) := ⟨below_alloc HB.out _⟩
        have y0 : (wb.iter s q).cell? ⟨w.heap.size, 0, none⟩ = some (.int .i64 0) := (blk_cell D2.out 0).trans rfl
        have x0 : (wb.iter s q).frozen? ⟨w.heap.size, 0, none⟩ = false := blk_frozen D2.out 0
        have y1 : (wb.iter s q).cell? ⟨w.heap.size, 1, none⟩ = some (.int .i64 0) := (blk_cell D2.out 1).trans rfl
        have x1 : (wb.iter s q).frozen? ⟨w.heap.size, 1, none⟩ = false := blk_frozen D2.out 1
        have y2 : (wb.iter s q).cell? ⟨w.heap.size, 2, none⟩ = some (.int .i64 0) := (blk_cell D2.out 2).trans rfl
        have x2 : (wb.iter s q).frozen? ⟨w.heap.size, 2, none⟩ = false := blk_frozen D2.out 2
        by_cases h48 : r < 48
        · have hb : decide (r < 48) = true := decide_eq_true h48
          clear h48
          go_wp2_with fail
          try rw [Exit.noGoto_ret]
          refine bodyPost_ret (v := .tuple #[.agg #[.int .i64 0, .int .i64 0, .int .i64 0], .int .i64 4]) (results_list (rs := [.cell 2 30, .tmp 3]) rfl (by simp) (.cell w.heap.size 30 #[.int .i64 0, .int .i64 0, .int .i64 0] (0, 0) _ rfl ((blk_set (blk_set (blk_set D2.out 0 _) 1 _) 2 _).trans rfl) Try.underlying30 rfl (by kernel_rfl) (.tmp .nil))) rfl ⟨rfl, ?_⟩
          exact below_set (below_set (below_set GB.out (by simp)) (by simp)) (by simp)
        · have hb : decide (r < 48) = false := decide_eq_false h48
          have hb2 : decide (57 < r) = true := decide_eq_true (by have := HQ.out; omega)
          clear h48
          go_wp2_with fail
          try rw [Exit.noGoto_ret]
          refine bodyPost_ret (v := .tuple #[.agg #[.int .i64 0, .int .i64 0, .int .i64 0], .int .i64 4]) (results_list (rs := [.cell 2 30, .tmp 3]) rfl (by simp) (.cell w.heap.size 30 #[.int .i64 0, .int .i64 0, .int .i64 0] (0, 0) _ rfl ((blk_set (blk_set (blk_set D2.out 0 _) 1 _) 2 _).trans rfl) Try.underlying30 rfl (by kernel_rfl) (.tmp .nil))) rfl ⟨rfl, ?_⟩
          exact below_set (below_set (below_set GB.out (by simp)) (by simp)) (by simp)
    · by_cases hkp : 7 < p
      · skip
        have hp : 7 < s.size := by rw [HS.out]; omega
        have hg := HG.out 7 (by omega)
        unfold pgood at hg
        rw [if_pos (by omega)] at hg
        have hpd := pd_at s 7 hp
        have hnx : ∀ ty, (Instr.next (.pointer (some ⟨w.heap.size + 1 + 1, 0, none⟩)) true ty).run Try.prog (wb.iter s 7) = .ok (.tuple #[.bool true, .int .i64 7, .int .i32 (pd s 7 + 48)]) (wb.iter s 8) := by
          intro ty
          have q := run_next_ascii (P := Try.prog) wb s 7 ty hp (by omega)
          rw [HSZ.out, hpd] at q
          exact q
        have hb : (pd s 7 + 48 != 45) = false := by rw [hg]; rfl
        have HPD := Aside0.mk hpd
        clear hpd
        clear hg
        go_wp2_with fail
        go_roundg (p - 8)
        case measure => have := HM.out; omega
        case rel => exact ⟨8, wb, rfl, by omega, ⟨Nat.le_refl _⟩, rfl, HSZ, C2, ⟨C4.out.trans (by simp [pacc])⟩, HB⟩
      · have hbad : Aside0 (¬ pgood s 7) := ⟨by have h := HV.out; rwa [show p = 7 by omega] at h⟩
        clear hkp hk hp9
        have hp : 7 < s.size := by rw [HS.out]; omega
        have hq := next_bad s 7 hp hbad.out
        rw [if_pos (by omega)] at hq
        obtain ⟨r, hr⟩ : ∃ r : Int, r = ((Utf8.decode s 7).1 : Int) := ⟨_, rfl⟩
        rw [← hr] at hq
        have HQ := Aside0.mk hq
        clear hq
        obtain ⟨q, hq⟩ : ∃ q : Nat, q = 7 + (Utf8.decode s 7).2 := ⟨_, rfl⟩
        have hnx : ∀ ty, (Instr.next (.pointer (some ⟨w.heap.size + 1 + 1, 0, none⟩)) true ty).run Try.prog (wb.iter s 7) = .ok (.tuple #[.bool true, .int .i64 7, .int .i32 r]) (wb.iter s q) := by
          intro ty
          have z := run_next_any (P := Try.prog) wb s 7 ty hp
          rw [HSZ.out, ← hr, ← hq] at z
          exact z
        clear hr hq
        have D2 := Aside0.mk (blk_alloc C2.out (.stringIter s q))
        have GB : Aside0 (Below w.heap.size w (wb.iter s q)) := ⟨below_alloc HB.out _⟩
        have y0 : (wb.iter s q).cell? ⟨w.heap.size, 0, none⟩ = some (.int .i64 0) := (blk_cell D2.out 0).trans rfl
        have x0 : (wb.iter s q).frozen? ⟨w.heap.size, 0, none⟩ = false := blk_frozen D2.out 0
        have y1 : (wb.iter s q).cell? ⟨w.heap.size, 1, none⟩ = some (.int .i64 0) := (blk_cell D2.out 1).trans rfl
        have x1 : (wb.iter s q).frozen? ⟨w.heap.size, 1, none⟩ = false := blk_frozen D2.out 1
        have y2 : (wb.iter s q).cell? ⟨w.heap.size, 2, none⟩ = some (.int .i64 0) := (blk_cell D2.out 2).trans rfl
        have x2 : (wb.iter s q).frozen? ⟨w.heap.size, 2, none⟩ = false := blk_frozen D2.out 2
        have hb : (r != 45) = true := bne_iff_ne.2 HQ.out
        go_wp2_with fail
        try rw [Exit.noGoto_ret]
        refine bodyPost_ret (v := .tuple #[.agg #[.int .i64 0, .int .i64 0, .int .i64 0], .int .i64 4]) (results_list (rs := [.cell 2 30, .tmp 3]) rfl (by simp) (.cell w.heap.size 30 #[.int .i64 0, .int .i64 0, .int .i64 0] (0, 0) _ rfl ((blk_set (blk_set (blk_set D2.out 0 _) 1 _) 2 _).trans rfl) Try.underlying30 rfl (by kernel_rfl) (.tmp .nil))) rfl ⟨rfl, ?_⟩
        exact below_set (below_set (below_set GB.out (by simp)) (by simp)) (by simp)
    · by_cases hkp : 8 < p
      · skip
        have hp : 8 < s.size := by rw [HS.out]; omega
        have hg := HG.out 8 (by omega)
        unfold pgood at hg
        rw [if_neg (by omega)] at hg
        have hpd := pd_at s 8 hp
        have hnx : ∀ ty, (Instr.next (.pointer (some ⟨w.heap.size + 1 + 1, 0, none⟩)) true ty).run Try.prog (wb.iter s 8) = .ok (.tuple #[.bool true, .int .i64 8, .int .i32 (pd s 8 + 48)]) (wb.iter s 9) := by
          intro ty
          have q := run_next_ascii (P := Try.prog) wb s 8 ty hp (by omega)
          rw [HSZ.out, hpd] at q
          exact q
        have hbd := pacc_bd s 8 (fun j hj => HG.out j (by omega))
        have hcell : (wb.iter s 9).cell? ⟨w.heap.size + 1, 2, none⟩ = some (.int .i64 (pacc s 8).2.2) := (blk_cell (blk_alloc C4.out (.stringIter s 9)) 2).trans rfl
        have hfz : (wb.iter s 9).frozen? ⟨w.heap.size + 1, 2, none⟩ = false := blk_frozen (blk_alloc C4.out (.stringIter s 9)) 2
        simp only [show (10 : Int) ^ 8 = 100000000 from rfl] at hbd
        have HPD := Aside0.mk hpd
        clear hpd
        go_wp2_with fail
        go_roundg (p - 9)
        case measure => have := HM.out; omega
        case rel => exact ⟨9, wb.setCell ⟨w.heap.size + 1, 2, none⟩ (.int .i64 (10 * (pacc s 8).2.2 + pd s 8)), rfl, by omega, ⟨Nat.le_refl _⟩, setCell_alloc_lt wb (.stringIter s 9) _ _ (by show w.heap.size + 1 < wb.heap.size; rw [HSZ.out]; omega), ⟨(size_setCell _ _ _).trans HSZ.out⟩, ⟨blk_far C2.out (by simp) _⟩, ⟨(blk_set C4.out 2 _).trans (by simp [pacc])⟩, ⟨below_set HB.out (by simp)⟩⟩
      · have hbad : Aside0 (¬ pgood s 8) := ⟨by have h := HV.out; rwa [show p = 8 by omega] at h⟩
        clear hkp hk hp9
        have hp : 8 < s.size := by rw [HS.out]; omega
        have hq := next_bad s 8 hp hbad.out
        rw [if_neg (by omega)] at hq
        obtain ⟨r, hr⟩ : ∃ r : Int, r = ((Utf8.decode s 8).1 : Int) := ⟨_, rfl⟩
        rw [← hr] at hq
        have HQ := Aside0.mk hq
        clear hq
        obtain ⟨q, hq⟩ : ∃ q : Nat, q = 8 + (Utf8.decode s 8).2 := ⟨_, rfl⟩
        have hnx : ∀ ty, (Instr.next (.pointer (some ⟨w.heap.size + 1 + 1, 0, none⟩)) true ty).run Try.prog (wb.iter s 8) = .ok (.tuple #[.bool true, .int .i64 8, .int .i32 r]) (wb.iter s q) := by
          intro ty
          have z := run_next_any (P := Try.prog) wb s 8 ty hp
          rw [HSZ.out, ← hr, ← hq] at z
          exact z
        clear hr hq
        have D2 := Aside0.mk (blk_alloc C2.out (.stringIter s q))
        have GB : Aside0 (Below w.heap.size w (wb.iter s q)) := ⟨below_alloc HB.out _⟩
        have y0 : (wb.iter s q).cell? ⟨w.heap.size, 0, none⟩ = some (.int .i64 0) := (blk_cell D2.out 0).trans rfl
        have x0 : (wb.iter s q).frozen? ⟨w.heap.size, 0, none⟩ = false := blk_frozen D2.out 0
        have y1 : (wb.iter s q).cell? ⟨w.heap.size, 1, none⟩ = some (.int .i64 0) := (blk_cell D2.out 1).trans rfl
        have x1 : (wb.iter s q).frozen? ⟨w.heap.size, 1, none⟩ = false := blk_frozen D2.out 1
        have y2 : (wb.iter s q).cell? ⟨w.heap.size, 2, none⟩ = some (.int .i64 0) := (blk_cell D2.out 2).trans rfl
        have x2 : (wb.iter s q).frozen? ⟨w.heap.size, 2, none⟩ = false := blk_frozen D2.out 2
        by_cases h48 : r < 48
        · have hb : decide (r < 48) = true := decide_eq_true h48
          clear h48
          go_wp2_with fail
          try rw [Exit.noGoto_ret]
          refine bodyPost_ret (v := .tuple #[.agg #[.int .i64 0, .int .i64 0, .int .i64 0], .int .i64 4]) (results_list (rs := [.cell 2 30, .tmp 3]) rfl (by simp) (.cell w.heap.size 30 #[.int .i64 0, .int .i64 0, .int .i64 0] (0, 0) _ rfl ((blk_set (blk_set (blk_set D2.out 0 _) 1 _) 2 _).trans rfl) Try.underlying30 rfl (by kernel_rfl) (.tmp .nil))) rfl ⟨rfl, ?_⟩
          exact below_set (below_set (below_set GB.out (by simp)) (by simp)) (by simp)
        · have hb : decide (r < 48) = false := decide_eq_false h48
          have hb2 : decide (57 < r) = true := decide_eq_true (by have := HQ.out; omega)
          clear h48
          go_wp2_with fail
          try rw [Exit.noGoto_ret]
          refine bodyPost_ret (v := .tuple #[.agg #[.int .i64 0, .int .i64 0, .int .i64 0], .int .i64 4]) (results_list (rs := [.cell 2 30, .tmp 3]) rfl (by simp) (.cell w.heap.size 30 #[.int .i64 0, .int .i64 0, .int .i64 0] (0, 0) _ rfl ((blk_set (blk_set (blk_set D2.out 0 _) 1 _) 2 _).trans rfl) Try.underlying30 rfl (by kernel_rfl) (.tmp .nil))) rfl ⟨rfl, ?_⟩
          exact below_set (below_set (below_set GB.out (by simp)) (by simp)) (by simp)
    · by_cases hkp : 9 < p
      · skip
        exfalso; omega
      · have hbad : Aside0 (¬ pgood s 9) := ⟨by have h := HV.out; rwa [show p = 9 by omega] at h⟩
        clear hkp hk hp9
        have hp : 9 < s.size := by rw [HS.out]; omega
        have hq := next_bad s 9 hp hbad.out
        rw [if_neg (by omega)] at hq
        obtain ⟨r, hr⟩ : ∃ r : Int, r = ((Utf8.decode s 9).1 : Int) := ⟨_, rfl⟩
        rw [← hr] at hq
        have HQ := Aside0.mk hq
        clear hq
        obtain ⟨q, hq⟩ : ∃ q : Nat, q = 9 + (Utf8.decode s 9).2 := ⟨_, rfl⟩
        have hnx : ∀ ty, (Instr.next (.pointer (some ⟨w.heap.size + 1 + 1, 0, none⟩)) true ty).run Try.prog (wb.iter s 9) = .ok (.tuple #[.bool true, .int .i64 9, .int .i32 r]) (wb.iter s q) := by
          intro ty
          have z := run_next_any (P := Try.prog) wb s 9 ty hp
          rw [HSZ.out, ← hr, ← hq] at z
          exact z
        clear hr hq
        have D2 := Aside0.mk (blk_alloc C2.out (.stringIter s q))
        have GB : Aside0 (Below w.heap.size w (wb.iter s q)) := ⟨below_alloc HB.out _⟩
        have y0 : (wb.iter s q).cell? ⟨w.heap.size, 0, none⟩ = some (.int .i64 0) := (blk_cell D2.out 0).trans rfl
        have x0 : (wb.iter s q).frozen? ⟨w.heap.size, 0, none⟩ = false := blk_frozen D2.out 0
        have y1 : (wb.iter s q).cell? ⟨w.heap.size, 1, none⟩ = some (.int .i64 0) := (blk_cell D2.out 1).trans rfl
        have x1 : (wb.iter s q).frozen? ⟨w.heap.size, 1, none⟩ = false := blk_frozen D2.out 1
        have y2 : (wb.iter s q).cell? ⟨w.heap.size, 2, none⟩ = some (.int .i64 0) := (blk_cell D2.out 2).trans rfl
        have x2 : (wb.iter s q).frozen? ⟨w.heap.size, 2, none⟩ = false := blk_frozen D2.out 2
        by_cases h48 : r < 48
        · have hb : decide (r < 48) = true := decide_eq_true h48
          clear h48
          go_wp2_with fail
          try rw [Exit.noGoto_ret]
          refine bodyPost_ret (v := .tuple #[.agg #[.int .i64 0, .int .i64 0, .int .i64 0], .int .i64 4]) (results_list (rs := [.cell 2 30, .tmp 3]) rfl (by simp) (.cell w.heap.size 30 #[.int .i64 0, .int .i64 0, .int .i64 0] (0, 0) _ rfl ((blk_set (blk_set (blk_set D2.out 0 _) 1 _) 2 _).trans rfl) Try.underlying30 rfl (by kernel_rfl) (.tmp .nil))) rfl ⟨rfl, ?_⟩
          exact below_set (below_set (below_set GB.out (by simp)) (by simp)) (by simp)
        · have hb : decide (r < 48) = false := decide_eq_false h48
          have hb2 : decide (57 < r) = true := decide_eq_true (by have := HQ.out; omega)
          clear h48
          go_wp2_with fail
          try rw [Exit.noGoto_ret]
          refine bodyPost_ret (v := .tuple #[.agg #[.int .i64 0, .int .i64 0, .int .i64 0], .int .i64 4]) (results_list (rs := [.cell 2 30, .tmp 3]) rfl (by simp) (.cell w.heap.size 30 #[.int .i64 0, .int .i64 0, .int .i64 0] (0, 0) _ rfl ((blk_set (blk_set (blk_set D2.out 0 _) 1 _) 2 _).trans rfl) Try.underlying30 rfl (by kernel_rfl) (.tmp .nil))) rfl ⟨rfl, ?_⟩
          exact below_set (below_set (below_set GB.out (by simp)) (by simp)) (by simp)
end Go.Proofs.Ytljfmfkgpnabaaa.Pure
