/- What a text of ten signs is read as. -/
import Derived.Test.YtljfmfkgpnabaaaCivilDaysWalk
import Derived.Test.YtljfmfkgpnabaaaTxt
import Derived.Laws.RangeAny
import Derived.WalkMore
set_option linter.unusedVariables false
set_option linter.unusedSimpArgs false
namespace Go.Proofs.Ytljfmfkgpnabaaa.Pure
open Go.RowKit Go.Proofs.Ytljfmfkgpnabaaa.PCivilNumbers Go.Proofs.YtljfmfkgpnabaaaW.PrintWords Go.Proofs.YtljfmfkgpnabaaaW.PrintLast
open Go.Proofs.Ytljfmfkgpnabaaa
attribute [local go_sem] setCell_map
theorem str_app (a b : List UInt8) : ((⟨a.toArray⟩ : ByteArray) ++ (⟨b.toArray⟩ : ByteArray)) = ⟨(a ++ b).toArray⟩ := by
  apply ByteArray.ext
  simp [ByteArray.data_append]
theorem ret_str {a b : ByteArray} (h : a = b) : Ending.returned (.string a) = .returned (.string b) := by rw [h]
theorem dg_nat (n : Int) (h0 : 0 ≤ n) (h1 : n ≤ 9) : (Txt.dg n).toNat = 48 + n.toNat := by
  unfold Txt.dg
  rw [UInt8.toNat_ofNat']
  omega
/-- The bytes' digits, gathered: a year, a month, a day. -/
def pd (s : ByteArray) (k : Nat) : Int := if h : k < s.size then ((s[k]'h).toNat : Int) - 48 else 0
def pacc (s : ByteArray) : Nat → Int × Int × Int
  | 0 => (0, 0, 0)
  | k + 1 => if k < 4 then (10 * (pacc s k).1 + pd s k, (pacc s k).2.1, (pacc s k).2.2) else if k = 4 ∨ k = 7 then pacc s k
    else if k < 7 then ((pacc s k).1, 10 * (pacc s k).2.1 + pd s k, (pacc s k).2.2) else ((pacc s k).1, (pacc s k).2.1, 10 * (pacc s k).2.2 + pd s k)
def pgood (s : ByteArray) (k : Nat) : Prop := if k = 4 ∨ k = 7 then pd s k = -3 else 0 ≤ pd s k ∧ pd s k ≤ 9
theorem pd_at (s : ByteArray) (k : Nat) (h : k < s.size) : ((s[k]'h).toNat : Int) = pd s k + 48 := by unfold pd; rw [dif_pos h]; omega
theorem pacc_bd (s : ByteArray) (k : Nat) (h : ∀ j, j < k → pgood s j) : 0 ≤ (pacc s k).1 ∧ (pacc s k).1 < 10 ^ k ∧ 0 ≤ (pacc s k).2.1 ∧ (pacc s k).2.1 < 10 ^ k ∧ 0 ≤ (pacc s k).2.2 ∧ (pacc s k).2.2 < 10 ^ k := by
  induction k with
  | zero => simp [pacc]
  | succ k ih =>
    have h1 := ih (fun j hj => h j (by omega))
    have h2 := h k (by omega)
    have e : (10 : Int) ^ (k + 1) = 10 * 10 ^ k := by rw [Int.pow_succ, Int.mul_comm]
    rw [e]
    generalize (10 : Int) ^ k = T at h1 ⊢
    unfold pgood at h2
    simp only [pacc]
    split
    · rw [if_neg (by omega)] at h2; simp only; omega
    · split
      · omega
      · rw [if_neg (by assumption)] at h2
        split <;> (simp only; omega)
theorem setCell_alloc_lt (w : World) (o : Obj) (p : Addr) (v : Value) (h : p.block < w.heap.size) : (w.alloc o).setCell p v = (w.setCell p v).alloc o := by
  unfold World.alloc World.setCell
  congr 1
  apply Array.ext_getElem?
  intro i
  simp only [Array.getElem?_modify, Array.getElem?_push, Array.size_modify]
  by_cases h1 : i = w.heap.size
  · subst h1
    rw [if_neg (by omega), if_pos rfl, if_pos rfl]
  · rw [if_neg h1, if_neg h1]
theorem size_setCell (w : World) (p : Addr) (v : Value) : (w.setCell p v).heap.size = w.heap.size := by simp [World.setCell]
theorem right_calls (y m d : Int) (r : Bool) (w : World) (h : (r = true) ↔ Cal.valid y m d) :
    Calls Try.prog 21 #[.agg #[.int .i64 y, .int .i64 m, .int .i64 d]] w fun e w' => e = .returned (.bool r) ∧ Below w.heap.size w w' := by
  classical
  refine civil_Right.calls 2 y m d r w ?_
  rw [right_eq 2 (by omega)]
  cases r <;> simp_all
set_option maxHeartbeats 4000000 in
theorem parse_long (s : ByteArray) (w : World) (h : ((s.size : Int) == 10) = false) :
    Calls Try.prog 27 #[.string s] w fun e w' => e = .returned (.tuple #[.agg #[.int .i64 0, .int .i64 0, .int .i64 0], .int .i64 4]) ∧ Below w.heap.size w w' := by
  have B := Aside0.mk (blk_new w (.cells #[.int .i64 0, .int .i64 0, .int .i64 0] 30))
  go_enter Try.func27, Try.ntmps27
  go_wp2_with fail
  go_step3
  go_wp2_with fail
  rw [Exit.noGoto_ret]
  refine bodyPost_ret (v := .tuple #[.agg #[.int .i64 0, .int .i64 0, .int .i64 0], .int .i64 4]) (results_list (rs := [.cell 2 30, .tmp 3]) rfl (by simp) (.cell w.heap.size 30 #[.int .i64 0, .int .i64 0, .int .i64 0] (0, 0) _ rfl B.out Try.underlying30 rfl (by kernel_rfl) (.tmp .nil))) rfl ⟨rfl, below_alloc (Below.refl _ _) _⟩
set_option maxHeartbeats 16000000 in
theorem parse_good (s : ByteArray) (w : World) (hs : s.size = 10) (hall : ∀ j, j < 10 → pgood s j) (hval : Cal.valid (pacc s 10).1 (pacc s 10).2.1 (pacc s 10).2.2) :
    Calls Try.prog 27 #[.string s] w fun e w' => e = .returned (.tuple #[.agg #[.int .i64 (pacc s 10).1, .int .i64 (pacc s 10).2.1, .int .i64 (pacc s 10).2.2], .int .i64 0]) ∧ Below w.heap.size w w' := by
  have hsz : ((s.size : Int) == 10) = true := by rw [hs]; rfl
  have hszn : ((s.size : Int) != 10) = false := by rw [hs]; rfl
  have HS := Aside0.mk hs
  have HG := Aside0.mk hall
  have HV := Aside0.mk hval
  clear hs hall hval
  go_enter Try.func27, Try.ntmps27
  go_wp2_with fail
  go_step3
  go_wp2_with fail
  go_step3
  go_wp2_with fail
  go_loopg [5] 10 (fun kq t5 wr => ∃ (k : Nat) (wb : World), t5 = .int .i64 (if k ≤ 4 then 0 else if k ≤ 7 then 1 else 2) ∧ k ≤ 10 ∧ Aside0 (10 - k ≤ kq) ∧ wr = wb.iter s k ∧ Aside0 (wb.heap.size = w.heap.size + 2) ∧ Aside0 (wb.heap[w.heap.size]? = some (.cells #[.int .i64 0, .int .i64 0, .int .i64 0] 30 (0, 0))) ∧ Aside0 (wb.heap[w.heap.size + 1]? = some (.cells #[.int .i64 (pacc s k).1, .int .i64 (pacc s k).2.1, .int .i64 (pacc s k).2.2] 74 (0, 0))) ∧ Aside0 (Below w.heap.size w wb))
  case atStart => exact ⟨0, (w.alloc (.cells #[.int .i64 0, .int .i64 0, .int .i64 0] 30)).alloc (.cells #[.int .i64 0, .int .i64 0, .int .i64 0] 74), rfl, by omega, ⟨by omega⟩, rfl, ⟨by simp⟩, ⟨blk_alloc (blk_new _ _) _⟩, ⟨by have := blk_new (w.alloc (.cells #[.int .i64 0, .int .i64 0, .int .i64 0] 30)) (.cells #[.int .i64 0, .int .i64 0, .int .i64 0] 74); simpa [pacc] using this⟩, ⟨below_alloc (below_alloc (Below.refl _ _) _) _⟩⟩
  case round =>
    obtain ⟨k, wb, rfl, hk, HM, rfl, HSZ, C2, C4, HB⟩ := hrel
    rcases (show k = 0 ∨ k = 1 ∨ k = 2 ∨ k = 3 ∨ k = 4 ∨ k = 5 ∨ k = 6 ∨ k = 7 ∨ k = 8 ∨ k = 9 ∨ k = 10 by omega) with rfl | rfl | rfl | rfl | rfl | rfl | rfl | rfl | rfl | rfl | rfl
    · skip
      have hp : 0 < s.size := by rw [HS.out]; omega
      have hg := HG.out 0 (by omega)
      unfold pgood at hg
      rw [if_neg (by omega)] at hg
      have hpd := pd_at s 0 hp
      have hnx : ∀ ty, (Instr.next (.pointer (some ⟨w.heap.size + 1 + 1, 0, none⟩)) true ty).run Try.prog (wb.iter s 0) = .ok (.tuple #[.bool true, .int .i64 0, .int .i32 (pd s 0 + 48)]) (wb.iter s 1) := by
        intro ty
        have q := run_next_ascii (P := Try.prog) wb s 0 ty hp (by omega)
        rw [HSZ.out, hpd] at q
        exact q
      have hbd := pacc_bd s 0 (fun j hj => HG.out j (by omega))
      have hcell : (wb.iter s 1).cell? ⟨w.heap.size + 1, 0, none⟩ = some (.int .i64 (pacc s 0).1) := (blk_cell (blk_alloc C4.out (.stringIter s 1)) 0).trans rfl
      have hfz : (wb.iter s 1).frozen? ⟨w.heap.size + 1, 0, none⟩ = false := blk_frozen (blk_alloc C4.out (.stringIter s 1)) 0
      simp only [show (10 : Int) ^ 0 = 1 from rfl] at hbd
      have HPD := Aside0.mk hpd
      clear hpd
      go_wp2_with fail
      go_roundg (10 - 1)
      case measure => have := HM.out; omega
      case rel => exact ⟨1, wb.setCell ⟨w.heap.size + 1, 0, none⟩ (.int .i64 (10 * (pacc s 0).1 + pd s 0)), rfl, by omega, ⟨Nat.le_refl _⟩, setCell_alloc_lt wb (.stringIter s 1) _ _ (by show w.heap.size + 1 < wb.heap.size; rw [HSZ.out]; omega), ⟨(size_setCell _ _ _).trans HSZ.out⟩, ⟨blk_far C2.out (by simp) _⟩, ⟨(blk_set C4.out 0 _).trans (by simp [pacc])⟩, ⟨below_set HB.out (by simp)⟩⟩
    · skip
      have hp : 1 < s.size := by rw [HS.out]; omega
      have hg := HG.out 1 (by omega)
      unfold pgood at hg
      rw [if_neg (by omega)] at hg
      have hpd := pd_at s 1 hp
      have hnx : ∀ ty, (Instr.next (.pointer (some ⟨w.heap.size + 1 + 1, 0, none⟩)) true ty).run Try.prog (wb.iter s 1) = .ok (.tuple #[.bool true, .int .i64 1, .int .i32 (pd s 1 + 48)]) (wb.iter s 2) := by
        intro ty
        have q := run_next_ascii (P := Try.prog) wb s 1 ty hp (by omega)
        rw [HSZ.out, hpd] at q
        exact q
      have hbd := pacc_bd s 1 (fun j hj => HG.out j (by omega))
      have hcell : (wb.iter s 2).cell? ⟨w.heap.size + 1, 0, none⟩ = some (.int .i64 (pacc s 1).1) := (blk_cell (blk_alloc C4.out (.stringIter s 2)) 0).trans rfl
      have hfz : (wb.iter s 2).frozen? ⟨w.heap.size + 1, 0, none⟩ = false := blk_frozen (blk_alloc C4.out (.stringIter s 2)) 0
      simp only [show (10 : Int) ^ 1 = 10 from rfl] at hbd
      have HPD := Aside0.mk hpd
      clear hpd
      go_wp2_with fail
      go_roundg (10 - 2)
      case measure => have := HM.out; omega
      case rel => exact ⟨2, wb.setCell ⟨w.heap.size + 1, 0, none⟩ (.int .i64 (10 * (pacc s 1).1 + pd s 1)), rfl, by omega, ⟨Nat.le_refl _⟩, setCell_alloc_lt wb (.stringIter s 2) _ _ (by show w.heap.size + 1 < wb.heap.size; rw [HSZ.out]; omega), ⟨(size_setCell _ _ _).trans HSZ.out⟩, ⟨blk_far C2.out (by simp) _⟩, ⟨(blk_set C4.out 0 _).trans (by simp [pacc])⟩, ⟨below_set HB.out (by simp)⟩⟩
    · skip
      have hp : 2 < s.size := by rw [HS.out]; omega
      have hg := HG.out 2 (by omega)
      unfold pgood at hg
      rw [if_neg (by omega)] at hg
      have hpd := pd_at s 2 hp
      have hnx : ∀ ty, (Instr.next (.pointer (some ⟨w.heap.size + 1 + 1, 0, none⟩)) true ty).run Try.prog (wb.iter s 2) = .ok (.tuple #[.bool true, .int .i64 2, .int .i32 (pd s 2 + 48)]) (wb.iter s 3) := by
        intro ty
        have q := run_next_ascii (P := Try.prog) wb s 2 ty hp (by omega)
        rw [HSZ.out, hpd] at q
        exact q
      have hbd := pacc_bd s 2 (fun j hj => HG.out j (by omega))
      have hcell : (wb.iter s 3).cell? ⟨w.heap.size + 1, 0, none⟩ = some (.int .i64 (pacc s 2).1) := (blk_cell (blk_alloc C4.out (.stringIter s 3)) 0).trans rfl
      have hfz : (wb.iter s 3).frozen? ⟨w.heap.size + 1, 0, none⟩ = false := blk_frozen (blk_alloc C4.out (.stringIter s 3)) 0
      simp only [show (10 : Int) ^ 2 = 100 from rfl] at hbd
      have HPD := Aside0.mk hpd
      clear hpd
      go_wp2_with fail
      go_roundg (10 - 3)
      case measure => have := HM.out; omega
      case rel => exact ⟨3, wb.setCell ⟨w.heap.size + 1, 0, none⟩ (.int .i64 (10 * (pacc s 2).1 + pd s 2)), rfl, by omega, ⟨Nat.le_refl _⟩, setCell_alloc_lt wb (.stringIter s 3) _ _ (by show w.heap.size + 1 < wb.heap.size; rw [HSZ.out]; omega), ⟨(size_setCell _ _ _).trans HSZ.out⟩, ⟨blk_far C2.out (by simp) _⟩, ⟨(blk_set C4.out 0 _).trans (by simp [pacc])⟩, ⟨below_set HB.out (by simp)⟩⟩
    · skip
      have hp : 3 < s.size := by rw [HS.out]; omega
      have hg := HG.out 3 (by omega)
      unfold pgood at hg
      rw [if_neg (by omega)] at hg
      have hpd := pd_at s 3 hp
      have hnx : ∀ ty, (Instr.next (.pointer (some ⟨w.heap.size + 1 + 1, 0, none⟩)) true ty).run Try.prog (wb.iter s 3) = .ok (.tuple #[.bool true, .int .i64 3, .int .i32 (pd s 3 + 48)]) (wb.iter s 4) := by
        intro ty
        have q := run_next_ascii (P := Try.prog) wb s 3 ty hp (by omega)
        rw [HSZ.out, hpd] at q
        exact q
      have hbd := pacc_bd s 3 (fun j hj => HG.out j (by omega))
      have hcell : (wb.iter s 4).cell? ⟨w.heap.size + 1, 0, none⟩ = some (.int .i64 (pacc s 3).1) := (blk_cell (blk_alloc C4.out (.stringIter s 4)) 0).trans rfl
      have hfz : (wb.iter s 4).frozen? ⟨w.heap.size + 1, 0, none⟩ = false := blk_frozen (blk_alloc C4.out (.stringIter s 4)) 0
      simp only [show (10 : Int) ^ 3 = 1000 from rfl] at hbd
      have HPD := Aside0.mk hpd
      clear hpd
      go_wp2_with fail
      go_roundg (10 - 4)
      case measure => have := HM.out; omega
      case rel => exact ⟨4, wb.setCell ⟨w.heap.size + 1, 0, none⟩ (.int .i64 (10 * (pacc s 3).1 + pd s 3)), rfl, by omega, ⟨Nat.le_refl _⟩, setCell_alloc_lt wb (.stringIter s 4) _ _ (by show w.heap.size + 1 < wb.heap.size; rw [HSZ.out]; omega), ⟨(size_setCell _ _ _).trans HSZ.out⟩, ⟨blk_far C2.out (by simp) _⟩, ⟨(blk_set C4.out 0 _).trans (by simp [pacc])⟩, ⟨below_set HB.out (by simp)⟩⟩
    · skip
      have hp : 4 < s.size := by rw [HS.out]; omega
      have hg := HG.out 4 (by omega)
      unfold pgood at hg
      rw [if_pos (by omega)] at hg
      have hpd := pd_at s 4 hp
      have hnx : ∀ ty, (Instr.next (.pointer (some ⟨w.heap.size + 1 + 1, 0, none⟩)) true ty).run Try.prog (wb.iter s 4) = .ok (.tuple #[.bool true, .int .i64 4, .int .i32 (pd s 4 + 48)]) (wb.iter s 5) := by
        intro ty
        have q := run_next_ascii (P := Try.prog) wb s 4 ty hp (by omega)
        rw [HSZ.out, hpd] at q
        exact q
      have hb : (pd s 4 + 48 != 45) = false := by rw [hg]; rfl
      have HPD := Aside0.mk hpd
      clear hpd
      clear hg
      go_wp2_with fail
      go_roundg (10 - 5)
      case measure => have := HM.out; omega
      case rel => exact ⟨5, wb, rfl, by omega, ⟨Nat.le_refl _⟩, rfl, HSZ, C2, ⟨C4.out.trans (by simp [pacc])⟩, HB⟩
    · skip
      have hp : 5 < s.size := by rw [HS.out]; omega
      have hg := HG.out 5 (by omega)
      unfold pgood at hg
      rw [if_neg (by omega)] at hg
      have hpd := pd_at s 5 hp
      have hnx : ∀ ty, (Instr.next (.pointer (some ⟨w.heap.size + 1 + 1, 0, none⟩)) true ty).run Try.prog (wb.iter s 5) = .ok (.tuple #[.bool true, .int .i64 5, .int .i32 (pd s 5 + 48)]) (wb.iter s 6) := by
        intro ty
        have q := run_next_ascii (P := Try.prog) wb s 5 ty hp (by omega)
        rw [HSZ.out, hpd] at q
        exact q
      have hbd := pacc_bd s 5 (fun j hj => HG.out j (by omega))
      have hcell : (wb.iter s 6).cell? ⟨w.heap.size + 1, 1, none⟩ = some (.int .i64 (pacc s 5).2.1) := (blk_cell (blk_alloc C4.out (.stringIter s 6)) 1).trans rfl
      have hfz : (wb.iter s 6).frozen? ⟨w.heap.size + 1, 1, none⟩ = false := blk_frozen (blk_alloc C4.out (.stringIter s 6)) 1
      simp only [show (10 : Int) ^ 5 = 100000 from rfl] at hbd
      have HPD := Aside0.mk hpd
      clear hpd
      go_wp2_with fail
      go_roundg (10 - 6)
      case measure => have := HM.out; omega
      case rel => exact ⟨6, wb.setCell ⟨w.heap.size + 1, 1, none⟩ (.int .i64 (10 * (pacc s 5).2.1 + pd s 5)), rfl, by omega, ⟨Nat.le_refl _⟩, setCell_alloc_lt wb (.stringIter s 6) _ _ (by show w.heap.size + 1 < wb.heap.size; rw [HSZ.out]; omega), ⟨(size_setCell _ _ _).trans HSZ.out⟩, ⟨blk_far C2.out (by simp) _⟩, ⟨(blk_set C4.out 1 _).trans (by simp [pacc])⟩, ⟨below_set HB.out (by simp)⟩⟩
    · skip
      have hp : 6 < s.size := by rw [HS.out]; omega
      have hg := HG.out 6 (by omega)
      unfold pgood at hg
      rw [if_neg (by omega)] at hg
      have hpd := pd_at s 6 hp
      have hnx : ∀ ty, (Instr.next (.pointer (some ⟨w.heap.size + 1 + 1, 0, none⟩)) true ty).run Try.prog (wb.iter s 6) = .ok (.tuple #[.bool true, .int .i64 6, .int .i32 (pd s 6 + 48)]) (wb.iter s 7) := by
        intro ty
        have q := run_next_ascii (P := Try.prog) wb s 6 ty hp (by omega)
        rw [HSZ.out, hpd] at q
        exact q
      have hbd := pacc_bd s 6 (fun j hj => HG.out j (by omega))
      have hcell : (wb.iter s 7).cell? ⟨w.heap.size + 1, 1, none⟩ = some (.int .i64 (pacc s 6).2.1) := (blk_cell (blk_alloc C4.out (.stringIter s 7)) 1).trans rfl
      have hfz : (wb.iter s 7).frozen? ⟨w.heap.size + 1, 1, none⟩ = false := blk_frozen (blk_alloc C4.out (.stringIter s 7)) 1
      simp only [show (10 : Int) ^ 6 = 1000000 from rfl] at hbd
      have HPD := Aside0.mk hpd
      clear hpd
      go_wp2_with fail
      go_roundg (10 - 7)
      case measure => have := HM.out; omega
      case rel => exact ⟨7, wb.setCell ⟨w.heap.size + 1, 1, none⟩ (.int .i64 (10 * (pacc s 6).2.1 + pd s 6)), rfl, by omega, ⟨Nat.le_refl _⟩, setCell_alloc_lt wb (.stringIter s 7) _ _ (by show w.heap.size + 1 < wb.heap.size; rw [HSZ.out]; omega), ⟨(size_setCell _ _ _).trans HSZ.out⟩, ⟨blk_far C2.out (by simp) _⟩, ⟨(blk_set C4.out 1 _).trans (by simp [pacc])⟩, ⟨below_set HB.out (by simp)⟩⟩
    · skip
      have hp : 7 < s.size := by rw [HS.out]; omega
      have hg := HG.out 7 (by omega)
      unfold pgood at hg
      rw [if_pos (by omega)] at hg
      have hpd := pd_at s 7 hp
      have hnx : ∀ ty, (Instr.next (.pointer (some ⟨w.heap.size + 1 + 1, 0, none⟩)) true ty).run Try.prog (wb.iter s 7) = .ok (.tuple #[.bool true, .int .i64 7, .int .i32 (pd s 7 + 48)]) (wb.iter s 8) := by
        intro ty
        have q := run_next_ascii (P := Try.prog) wb s 7 ty hp (by omega)
        rw [HSZ.out, hpd] at q
        exact q
      have hb : (pd s 7 + 48 != 45) = false := by rw [hg]; rfl
      have HPD := Aside0.mk hpd
      clear hpd
      clear hg
      go_wp2_with fail
      go_roundg (10 - 8)
      case measure => have := HM.out; omega
      case rel => exact ⟨8, wb, rfl, by omega, ⟨Nat.le_refl _⟩, rfl, HSZ, C2, ⟨C4.out.trans (by simp [pacc])⟩, HB⟩
    · skip
      have hp : 8 < s.size := by rw [HS.out]; omega
      have hg := HG.out 8 (by omega)
      unfold pgood at hg
      rw [if_neg (by omega)] at hg
      have hpd := pd_at s 8 hp
      have hnx : ∀ ty, (Instr.next (.pointer (some ⟨w.heap.size + 1 + 1, 0, none⟩)) true ty).run Try.prog (wb.iter s 8) = .ok (.tuple #[.bool true, .int .i64 8, .int .i32 (pd s 8 + 48)]) (wb.iter s 9) := by
        intro ty
        have q := run_next_ascii (P := Try.prog) wb s 8 ty hp (by omega)
        rw [HSZ.out, hpd] at q
        exact q
      have hbd := pacc_bd s 8 (fun j hj => HG.out j (by omega))
      have hcell : (wb.iter s 9).cell? ⟨w.heap.size + 1, 2, none⟩ = some (.int .i64 (pacc s 8).2.2) := (blk_cell (blk_alloc C4.out (.stringIter s 9)) 2).trans rfl
      have hfz : (wb.iter s 9).frozen? ⟨w.heap.size + 1, 2, none⟩ = false := blk_frozen (blk_alloc C4.out (.stringIter s 9)) 2
      simp only [show (10 : Int) ^ 8 = 100000000 from rfl] at hbd
      have HPD := Aside0.mk hpd
      clear hpd
      go_wp2_with fail
      go_roundg (10 - 9)
      case measure => have := HM.out; omega
      case rel => exact ⟨9, wb.setCell ⟨w.heap.size + 1, 2, none⟩ (.int .i64 (10 * (pacc s 8).2.2 + pd s 8)), rfl, by omega, ⟨Nat.le_refl _⟩, setCell_alloc_lt wb (.stringIter s 9) _ _ (by show w.heap.size + 1 < wb.heap.size; rw [HSZ.out]; omega), ⟨(size_setCell _ _ _).trans HSZ.out⟩, ⟨blk_far C2.out (by simp) _⟩, ⟨(blk_set C4.out 2 _).trans (by simp [pacc])⟩, ⟨below_set HB.out (by simp)⟩⟩
    · skip
      have hp : 9 < s.size := by rw [HS.out]; omega
      have hg := HG.out 9 (by omega)
      unfold pgood at hg
      rw [if_neg (by omega)] at hg
      have hpd := pd_at s 9 hp
      have hnx : ∀ ty, (Instr.next (.pointer (some ⟨w.heap.size + 1 + 1, 0, none⟩)) true ty).run Try.prog (wb.iter s 9) = .ok (.tuple #[.bool true, .int .i64 9, .int .i32 (pd s 9 + 48)]) (wb.iter s 10) := by
        intro ty
        have q := run_next_ascii (P := Try.prog) wb s 9 ty hp (by omega)
        rw [HSZ.out, hpd] at q
        exact q
      have hbd := pacc_bd s 9 (fun j hj => HG.out j (by omega))
      have hcell : (wb.iter s 10).cell? ⟨w.heap.size + 1, 2, none⟩ = some (.int .i64 (pacc s 9).2.2) := (blk_cell (blk_alloc C4.out (.stringIter s 10)) 2).trans rfl
      have hfz : (wb.iter s 10).frozen? ⟨w.heap.size + 1, 2, none⟩ = false := blk_frozen (blk_alloc C4.out (.stringIter s 10)) 2
      simp only [show (10 : Int) ^ 9 = 1000000000 from rfl] at hbd
      have HPD := Aside0.mk hpd
      clear hpd
      go_wp2_with fail
      go_roundg (10 - 10)
      case measure => have := HM.out; omega
      case rel => exact ⟨10, wb.setCell ⟨w.heap.size + 1, 2, none⟩ (.int .i64 (10 * (pacc s 9).2.2 + pd s 9)), rfl, by omega, ⟨Nat.le_refl _⟩, setCell_alloc_lt wb (.stringIter s 10) _ _ (by show w.heap.size + 1 < wb.heap.size; rw [HSZ.out]; omega), ⟨(size_setCell _ _ _).trans HSZ.out⟩, ⟨blk_far C2.out (by simp) _⟩, ⟨(blk_set C4.out 2 _).trans (by simp [pacc])⟩, ⟨below_set HB.out (by simp)⟩⟩
    · skip
      have hp : ¬ 10 < s.size := by rw [HS.out]; omega
      have hnx : ∀ ty, (Instr.next (.pointer (some ⟨w.heap.size + 1 + 1, 0, none⟩)) true ty).run Try.prog (wb.iter s 10) = .ok (.tuple #[.bool false]) (wb.iter s 10) := by
        intro ty
        have q := run_next_end (P := Try.prog) wb s 10 ty hp
        rw [HSZ.out] at q
        exact q
      have D2 := Aside0.mk (blk_alloc C2.out (.stringIter s 10))
      have D4 := Aside0.mk (blk_alloc C4.out (.stringIter s 10))
      have GB : Aside0 (Below w.heap.size w (wb.iter s 10)) := ⟨below_alloc HB.out _⟩
      have hsz2 : (wb.iter s 10).heap.size = w.heap.size + 3 := by show (wb.alloc _).heap.size = _; simp [HSZ.out]
      have HSZ2 := Aside0.mk hsz2
      clear hsz2
      have c0 : (wb.iter s 10).cell? ⟨w.heap.size + 1, 0, none⟩ = some (.int .i64 (pacc s 10).1) := (blk_cell D4.out 0).trans rfl
      have c1 : (wb.iter s 10).cell? ⟨w.heap.size + 1, 1, none⟩ = some (.int .i64 (pacc s 10).2.1) := (blk_cell D4.out 1).trans rfl
      have c2 : (wb.iter s 10).cell? ⟨w.heap.size + 1, 2, none⟩ = some (.int .i64 (pacc s 10).2.2) := (blk_cell D4.out 2).trans rfl
      go_wp2_with fail
      with_reducible refine (right_calls _ _ _ true _ ⟨fun _ => HV.out, fun _ => rfl⟩).mono ?_
      rintro e w3 ⟨rfl, hb⟩
      have B8 := Aside0.mk (blk_below (blk_new (wb.iter s 10) _) hb)
      have E2 := Aside0.mk (blk_below (blk_alloc D2.out _) hb)
      have GB3 : Aside0 (Below w.heap.size w w3) := ⟨below_step (below_alloc GB.out _) hb⟩
      clear hb c0 c1 c2
      have z0 : w3.cell? ⟨(wb.iter s 10).heap.size, 0, none⟩ = some (.int .i64 (pacc s 10).1) := (blk_cell B8.out 0).trans rfl
      have z1 : w3.cell? ⟨(wb.iter s 10).heap.size, 1, none⟩ = some (.int .i64 (pacc s 10).2.1) := (blk_cell B8.out 1).trans rfl
      have z2 : w3.cell? ⟨(wb.iter s 10).heap.size, 2, none⟩ = some (.int .i64 (pacc s 10).2.2) := (blk_cell B8.out 2).trans rfl
      have y0 : w3.cell? ⟨w.heap.size, 0, none⟩ = some (.int .i64 0) := (blk_cell E2.out 0).trans rfl
      have x0 := blk_frozen E2.out 0
      have y1 : w3.cell? ⟨w.heap.size, 1, none⟩ = some (.int .i64 0) := (blk_cell E2.out 1).trans rfl
      have x1 := blk_frozen E2.out 1
      have y2 : w3.cell? ⟨w.heap.size, 2, none⟩ = some (.int .i64 0) := (blk_cell E2.out 2).trans rfl
      have x2 := blk_frozen E2.out 2
      go_wp2_with fail
      try rw [Exit.noGoto_ret]
      refine bodyPost_ret (v := .tuple #[.agg #[.int .i64 (pacc s 10).1, .int .i64 (pacc s 10).2.1, .int .i64 (pacc s 10).2.2], .int .i64 0]) (results_list (rs := [.cell 2 30, .tmp 3]) rfl (by simp) (.cell w.heap.size 30 #[.int .i64 (pacc s 10).1, .int .i64 (pacc s 10).2.1, .int .i64 (pacc s 10).2.2] (0, 0) _ rfl ((blk_set (blk_set (blk_set E2.out 0 _) 1 _) 2 _).trans rfl) Try.underlying30 rfl (by kernel_rfl) (.tmp .nil))) rfl ⟨rfl, ?_⟩
      exact below_set (below_set (below_set GB3.out (by simp)) (by simp)) (by simp)
set_option maxHeartbeats 16000000 in
theorem parse_arg (s : ByteArray) (w : World) (hs : s.size = 10) (hall : ∀ j, j < 10 → pgood s j) (hval : ¬ Cal.valid (pacc s 10).1 (pacc s 10).2.1 (pacc s 10).2.2) :
    Calls Try.prog 27 #[.string s] w fun e w' => e = .returned (.tuple #[.agg #[.int .i64 0, .int .i64 0, .int .i64 0], .int .i64 1]) ∧ Below w.heap.size w w' := by
  have hsz : ((s.size : Int) == 10) = true := by rw [hs]; rfl
  have hszn : ((s.size : Int) != 10) = false := by rw [hs]; rfl
  have HS := Aside0.mk hs
  have HG := Aside0.mk hall
  have HV := Aside0.mk hval
  clear hs hall hval
  go_enter Try.func27, Try.ntmps27
  go_wp2_with fail
  go_step3
  go_wp2_with fail
  go_step3
  go_wp2_with fail
  go_loopg [5] 10 (fun kq t5 wr => ∃ (k : Nat) (wb : World), t5 = .int .i64 (if k ≤ 4 then 0 else if k ≤ 7 then 1 else 2) ∧ k ≤ 10 ∧ Aside0 (10 - k ≤ kq) ∧ wr = wb.iter s k ∧ Aside0 (wb.heap.size = w.heap.size + 2) ∧ Aside0 (wb.heap[w.heap.size]? = some (.cells #[.int .i64 0, .int .i64 0, .int .i64 0] 30 (0, 0))) ∧ Aside0 (wb.heap[w.heap.size + 1]? = some (.cells #[.int .i64 (pacc s k).1, .int .i64 (pacc s k).2.1, .int .i64 (pacc s k).2.2] 74 (0, 0))) ∧ Aside0 (Below w.heap.size w wb))
  case atStart => exact ⟨0, (w.alloc (.cells #[.int .i64 0, .int .i64 0, .int .i64 0] 30)).alloc (.cells #[.int .i64 0, .int .i64 0, .int .i64 0] 74), rfl, by omega, ⟨by omega⟩, rfl, ⟨by simp⟩, ⟨blk_alloc (blk_new _ _) _⟩, ⟨by have := blk_new (w.alloc (.cells #[.int .i64 0, .int .i64 0, .int .i64 0] 30)) (.cells #[.int .i64 0, .int .i64 0, .int .i64 0] 74); simpa [pacc] using this⟩, ⟨below_alloc (below_alloc (Below.refl _ _) _) _⟩⟩
  case round =>
    obtain ⟨k, wb, rfl, hk, HM, rfl, HSZ, C2, C4, HB⟩ := hrel
    rcases (show k = 0 ∨ k = 1 ∨ k = 2 ∨ k = 3 ∨ k = 4 ∨ k = 5 ∨ k = 6 ∨ k = 7 ∨ k = 8 ∨ k = 9 ∨ k = 10 by omega) with rfl | rfl | rfl | rfl | rfl | rfl | rfl | rfl | rfl | rfl | rfl
    · skip
      have hp : 0 < s.size := by rw [HS.out]; omega
      have hg := HG.out 0 (by omega)
      unfold pgood at hg
      rw [if_neg (by omega)] at hg
      have hpd := pd_at s 0 hp
      have hnx : ∀ ty, (Instr.next (.pointer (some ⟨w.heap.size + 1 + 1, 0, none⟩)) true ty).run Try.prog (wb.iter s 0) = .ok (.tuple #[.bool true, .int .i64 0, .int .i32 (pd s 0 + 48)]) (wb.iter s 1) := by
        intro ty
        have q := run_next_ascii (P := Try.prog) wb s 0 ty hp (by omega)
        rw [HSZ.out, hpd] at q
        exact q
      have hbd := pacc_bd s 0 (fun j hj => HG.out j (by omega))
      have hcell : (wb.iter s 1).cell? ⟨w.heap.size + 1, 0, none⟩ = some (.int .i64 (pacc s 0).1) := (blk_cell (blk_alloc C4.out (.stringIter s 1)) 0).trans rfl
      have hfz : (wb.iter s 1).frozen? ⟨w.heap.size + 1, 0, none⟩ = false := blk_frozen (blk_alloc C4.out (.stringIter s 1)) 0
      simp only [show (10 : Int) ^ 0 = 1 from rfl] at hbd
      have HPD := Aside0.mk hpd
      clear hpd
      go_wp2_with fail
      go_roundg (10 - 1)
      case measure => have := HM.out; omega
      case rel => exact ⟨1, wb.setCell ⟨w.heap.size + 1, 0, none⟩ (.int .i64 (10 * (pacc s 0).1 + pd s 0)), rfl, by omega, ⟨Nat.le_refl _⟩, setCell_alloc_lt wb (.stringIter s 1) _ _ (by show w.heap.size + 1 < wb.heap.size; rw [HSZ.out]; omega), ⟨(size_setCell _ _ _).trans HSZ.out⟩, ⟨blk_far C2.out (by simp) _⟩, ⟨(blk_set C4.out 0 _).trans (by simp [pacc])⟩, ⟨below_set HB.out (by simp)⟩⟩
    · skip
      have hp : 1 < s.size := by rw [HS.out]; omega
      have hg := HG.out 1 (by omega)
      unfold pgood at hg
      rw [if_neg (by omega)] at hg
      have hpd := pd_at s 1 hp
      have hnx : ∀ ty, (Instr.next (.pointer (some ⟨w.heap.size + 1 + 1, 0, none⟩)) true ty).run Try.prog (wb.iter s 1) = .ok (.tuple #[.bool true, .int .i64 1, .int .i32 (pd s 1 + 48)]) (wb.iter s 2) := by
        intro ty
        have q := run_next_ascii (P := Try.prog) wb s 1 ty hp (by omega)
        rw [HSZ.out, hpd] at q
        exact q
      have hbd := pacc_bd s 1 (fun j hj => HG.out j (by omega))
      have hcell : (wb.iter s 2).cell? ⟨w.heap.size + 1, 0, none⟩ = some (.int .i64 (pacc s 1).1) := (blk_cell (blk_alloc C4.out (.stringIter s 2)) 0).trans rfl
      have hfz : (wb.iter s 2).frozen? ⟨w.heap.size + 1, 0, none⟩ = false := blk_frozen (blk_alloc C4.out (.stringIter s 2)) 0
      simp only [show (10 : Int) ^ 1 = 10 from rfl] at hbd
      have HPD := Aside0.mk hpd
      clear hpd
      go_wp2_with fail
      go_roundg (10 - 2)
      case measure => have := HM.out; omega
      case rel => exact ⟨2, wb.setCell ⟨w.heap.size + 1, 0, none⟩ (.int .i64 (10 * (pacc s 1).1 + pd s 1)), rfl, by omega, ⟨Nat.le_refl _⟩, setCell_alloc_lt wb (.stringIter s 2) _ _ (by show w.heap.size + 1 < wb.heap.size; rw [HSZ.out]; omega), ⟨(size_setCell _ _ _).trans HSZ.out⟩, ⟨blk_far C2.out (by simp) _⟩, ⟨(blk_set C4.out 0 _).trans (by simp [pacc])⟩, ⟨below_set HB.out (by simp)⟩⟩
    · skip
      have hp : 2 < s.size := by rw [HS.out]; omega
      have hg := HG.out 2 (by omega)
      unfold pgood at hg
      rw [if_neg (by omega)] at hg
      have hpd := pd_at s 2 hp
      have hnx : ∀ ty, (Instr.next (.pointer (some ⟨w.heap.size + 1 + 1, 0, none⟩)) true ty).run Try.prog (wb.iter s 2) = .ok (.tuple #[.bool true, .int .i64 2, .int .i32 (pd s 2 + 48)]) (wb.iter s 3) := by
        intro ty
        have q := run_next_ascii (P := Try.prog) wb s 2 ty hp (by omega)
        rw [HSZ.out, hpd] at q
        exact q
      have hbd := pacc_bd s 2 (fun j hj => HG.out j (by omega))
      have hcell : (wb.iter s 3).cell? ⟨w.heap.size + 1, 0, none⟩ = some (.int .i64 (pacc s 2).1) := (blk_cell (blk_alloc C4.out (.stringIter s 3)) 0).trans rfl
      have hfz : (wb.iter s 3).frozen? ⟨w.heap.size + 1, 0, none⟩ = false := blk_frozen (blk_alloc C4.out (.stringIter s 3)) 0
      simp only [show (10 : Int) ^ 2 = 100 from rfl] at hbd
      have HPD := Aside0.mk hpd
      clear hpd
      go_wp2_with fail
      go_roundg (10 - 3)
      case measure => have := HM.out; omega
      case rel => exact ⟨3, wb.setCell ⟨w.heap.size + 1, 0, none⟩ (.int .i64 (10 * (pacc s 2).1 + pd s 2)), rfl, by omega, ⟨Nat.le_refl _⟩, setCell_alloc_lt wb (.stringIter s 3) _ _ (by show w.heap.size + 1 < wb.heap.size; rw [HSZ.out]; omega), ⟨(size_setCell _ _ _).trans HSZ.out⟩, ⟨blk_far C2.out (by simp) _⟩, ⟨(blk_set C4.out 0 _).trans (by simp [pacc])⟩, ⟨below_set HB.out (by simp)⟩⟩
    · skip
      have hp : 3 < s.size := by rw [HS.out]; omega
      have hg := HG.out 3 (by omega)
      unfold pgood at hg
      rw [if_neg (by omega)] at hg
      have hpd := pd_at s 3 hp
      have hnx : ∀ ty, (Instr.next (.pointer (some ⟨w.heap.size + 1 + 1, 0, none⟩)) true ty).run Try.prog (wb.iter s 3) = .ok (.tuple #[.bool true, .int .i64 3, .int .i32 (pd s 3 + 48)]) (wb.iter s 4) := by
        intro ty
        have q := run_next_ascii (P := Try.prog) wb s 3 ty hp (by omega)
        rw [HSZ.out, hpd] at q
        exact q
      have hbd := pacc_bd s 3 (fun j hj => HG.out j (by omega))
      have hcell : (wb.iter s 4).cell? ⟨w.heap.size + 1, 0, none⟩ = some (.int .i64 (pacc s 3).1) := (blk_cell (blk_alloc C4.out (.stringIter s 4)) 0).trans rfl
      have hfz : (wb.iter s 4).frozen? ⟨w.heap.size + 1, 0, none⟩ = false := blk_frozen (blk_alloc C4.out (.stringIter s 4)) 0
      simp only [show (10 : Int) ^ 3 = 1000 from rfl] at hbd
      have HPD := Aside0.mk hpd
      clear hpd
      go_wp2_with fail
      go_roundg (10 - 4)
      case measure => have := HM.out; omega
      case rel => exact ⟨4, wb.setCell ⟨w.heap.size + 1, 0, none⟩ (.int .i64 (10 * (pacc s 3).1 + pd s 3)), rfl, by omega, ⟨Nat.le_refl _⟩, setCell_alloc_lt wb (.stringIter s 4) _ _ (by show w.heap.size + 1 < wb.heap.size; rw [HSZ.out]; omega), ⟨(size_setCell _ _ _).trans HSZ.out⟩, ⟨blk_far C2.out (by simp) _⟩, ⟨(blk_set C4.out 0 _).trans (by simp [pacc])⟩, ⟨below_set HB.out (by simp)⟩⟩
    · skip
      have hp : 4 < s.size := by rw [HS.out]; omega
      have hg := HG.out 4 (by omega)
      unfold pgood at hg
      rw [if_pos (by omega)] at hg
      have hpd := pd_at s 4 hp
      have hnx : ∀ ty, (Instr.next (.pointer (some ⟨w.heap.size + 1 + 1, 0, none⟩)) true ty).run Try.prog (wb.iter s 4) = .ok (.tuple #[.bool true, .int .i64 4, .int .i32 (pd s 4 + 48)]) (wb.iter s 5) := by
        intro ty
        have q := run_next_ascii (P := Try.prog) wb s 4 ty hp (by omega)
        rw [HSZ.out, hpd] at q
        exact q
      have hb : (pd s 4 + 48 != 45) = false := by rw [hg]; rfl
      have HPD := Aside0.mk hpd
      clear hpd
      clear hg
      go_wp2_with fail
      go_roundg (10 - 5)
      case measure => have := HM.out; omega
      case rel => exact ⟨5, wb, rfl, by omega, ⟨Nat.le_refl _⟩, rfl, HSZ, C2, ⟨C4.out.trans (by simp [pacc])⟩, HB⟩
    · skip
      have hp : 5 < s.size := by rw [HS.out]; omega
      have hg := HG.out 5 (by omega)
      unfold pgood at hg
      rw [if_neg (by omega)] at hg
      have hpd := pd_at s 5 hp
      have hnx : ∀ ty, (Instr.next (.pointer (some ⟨w.heap.size + 1 + 1, 0, none⟩)) true ty).run Try.prog (wb.iter s 5) = .ok (.tuple #[.bool true, .int .i64 5, .int .i32 (pd s 5 + 48)]) (wb.iter s 6) := by
        intro ty
        have q := run_next_ascii (P := Try.prog) wb s 5 ty hp (by omega)
        rw [HSZ.out, hpd] at q
        exact q
      have hbd := pacc_bd s 5 (fun j hj => HG.out j (by omega))
      have hcell : (wb.iter s 6).cell? ⟨w.heap.size + 1, 1, none⟩ = some (.int .i64 (pacc s 5).2.1) := (blk_cell (blk_alloc C4.out (.stringIter s 6)) 1).trans rfl
      have hfz : (wb.iter s 6).frozen? ⟨w.heap.size + 1, 1, none⟩ = false := blk_frozen (blk_alloc C4.out (.stringIter s 6)) 1
      simp only [show (10 : Int) ^ 5 = 100000 from rfl] at hbd
      have HPD := Aside0.mk hpd
      clear hpd
      go_wp2_with fail
      go_roundg (10 - 6)
      case measure => have := HM.out; omega
      case rel => exact ⟨6, wb.setCell ⟨w.heap.size + 1, 1, none⟩ (.int .i64 (10 * (pacc s 5).2.1 + pd s 5)), rfl, by omega, ⟨Nat.le_refl _⟩, setCell_alloc_lt wb (.stringIter s 6) _ _ (by show w.heap.size + 1 < wb.heap.size; rw [HSZ.out]; omega), ⟨(size_setCell _ _ _).trans HSZ.out⟩, ⟨blk_far C2.out (by simp) _⟩, ⟨(blk_set C4.out 1 _).trans (by simp [pacc])⟩, ⟨below_set HB.out (by simp)⟩⟩
    · skip
      have hp : 6 < s.size := by rw [HS.out]; omega
      have hg := HG.out 6 (by omega)
      unfold pgood at hg
      rw [if_neg (by omega)] at hg
      have hpd := pd_at s 6 hp
      have hnx : ∀ ty, (Instr.next (.pointer (some ⟨w.heap.size + 1 + 1, 0, none⟩)) true ty).run Try.prog (wb.iter s 6) = .ok (.tuple #[.bool true, .int .i64 6, .int .i32 (pd s 6 + 48)]) (wb.iter s 7) := by
        intro ty
        have q := run_next_ascii (P := Try.prog) wb s 6 ty hp (by omega)
        rw [HSZ.out, hpd] at q
        exact q
      have hbd := pacc_bd s 6 (fun j hj => HG.out j (by omega))
      have hcell : (wb.iter s 7).cell? ⟨w.heap.size + 1, 1, none⟩ = some (.int .i64 (pacc s 6).2.1) := (blk_cell (blk_alloc C4.out (.stringIter s 7)) 1).trans rfl
      have hfz : (wb.iter s 7).frozen? ⟨w.heap.size + 1, 1, none⟩ = false := blk_frozen (blk_alloc C4.out (.stringIter s 7)) 1
      simp only [show (10 : Int) ^ 6 = 1000000 from rfl] at hbd
      have HPD := Aside0.mk hpd
      clear hpd
      go_wp2_with fail
      go_roundg (10 - 7)
      case measure => have := HM.out; omega
      case rel => exact ⟨7, wb.setCell ⟨w.heap.size + 1, 1, none⟩ (.int .i64 (10 * (pacc s 6).2.1 + pd s 6)), rfl, by omega, ⟨Nat.le_refl _⟩, setCell_alloc_lt wb (.stringIter s 7) _ _ (by show w.heap.size + 1 < wb.heap.size; rw [HSZ.out]; omega), ⟨(size_setCell _ _ _).trans HSZ.out⟩, ⟨blk_far C2.out (by simp) _⟩, ⟨(blk_set C4.out 1 _).trans (by simp [pacc])⟩, ⟨below_set HB.out (by simp)⟩⟩
    · skip
      have hp : 7 < s.size := by rw [HS.out]; omega
      have hg := HG.out 7 (by omega)
      unfold pgood at hg
      rw [if_pos (by omega)] at hg
      have hpd := pd_at s 7 hp
      have hnx : ∀ ty, (Instr.next (.pointer (some ⟨w.heap.size + 1 + 1, 0, none⟩)) true ty).run Try.prog (wb.iter s 7) = .ok (.tuple #[.bool true, .int .i64 7, .int .i32 (pd s 7 + 48)]) (wb.iter s 8) := by
        intro ty
        have q := run_next_ascii (P := Try.prog) wb s 7 ty hp (by omega)
        rw [HSZ.out, hpd] at q
        exact q
      have hb : (pd s 7 + 48 != 45) = false := by rw [hg]; rfl
      have HPD := Aside0.mk hpd
      clear hpd
      clear hg
      go_wp2_with fail
      go_roundg (10 - 8)
      case measure => have := HM.out; omega
      case rel => exact ⟨8, wb, rfl, by omega, ⟨Nat.le_refl _⟩, rfl, HSZ, C2, ⟨C4.out.trans (by simp [pacc])⟩, HB⟩
    · skip
      have hp : 8 < s.size := by rw [HS.out]; omega
      have hg := HG.out 8 (by omega)
      unfold pgood at hg
      rw [if_neg (by omega)] at hg
      have hpd := pd_at s 8 hp
      have hnx : ∀ ty, (Instr.next (.pointer (some ⟨w.heap.size + 1 + 1, 0, none⟩)) true ty).run Try.prog (wb.iter s 8) = .ok (.tuple #[.bool true, .int .i64 8, .int .i32 (pd s 8 + 48)]) (wb.iter s 9) := by
        intro ty
        have q := run_next_ascii (P := Try.prog) wb s 8 ty hp (by omega)
        rw [HSZ.out, hpd] at q
        exact q
      have hbd := pacc_bd s 8 (fun j hj => HG.out j (by omega))
      have hcell : (wb.iter s 9).cell? ⟨w.heap.size + 1, 2, none⟩ = some (.int .i64 (pacc s 8).2.2) := (blk_cell (blk_alloc C4.out (.stringIter s 9)) 2).trans rfl
      have hfz : (wb.iter s 9).frozen? ⟨w.heap.size + 1, 2, none⟩ = false := blk_frozen (blk_alloc C4.out (.stringIter s 9)) 2
      simp only [show (10 : Int) ^ 8 = 100000000 from rfl] at hbd
      have HPD := Aside0.mk hpd
      clear hpd
      go_wp2_with fail
      go_roundg (10 - 9)
      case measure => have := HM.out; omega
      case rel => exact ⟨9, wb.setCell ⟨w.heap.size + 1, 2, none⟩ (.int .i64 (10 * (pacc s 8).2.2 + pd s 8)), rfl, by omega, ⟨Nat.le_refl _⟩, setCell_alloc_lt wb (.stringIter s 9) _ _ (by show w.heap.size + 1 < wb.heap.size; rw [HSZ.out]; omega), ⟨(size_setCell _ _ _).trans HSZ.out⟩, ⟨blk_far C2.out (by simp) _⟩, ⟨(blk_set C4.out 2 _).trans (by simp [pacc])⟩, ⟨below_set HB.out (by simp)⟩⟩
    · skip
      have hp : 9 < s.size := by rw [HS.out]; omega
      have hg := HG.out 9 (by omega)
      unfold pgood at hg
      rw [if_neg (by omega)] at hg
      have hpd := pd_at s 9 hp
      have hnx : ∀ ty, (Instr.next (.pointer (some ⟨w.heap.size + 1 + 1, 0, none⟩)) true ty).run Try.prog (wb.iter s 9) = .ok (.tuple #[.bool true, .int .i64 9, .int .i32 (pd s 9 + 48)]) (wb.iter s 10) := by
        intro ty
        have q := run_next_ascii (P := Try.prog) wb s 9 ty hp (by omega)
        rw [HSZ.out, hpd] at q
        exact q
      have hbd := pacc_bd s 9 (fun j hj => HG.out j (by omega))
      have hcell : (wb.iter s 10).cell? ⟨w.heap.size + 1, 2, none⟩ = some (.int .i64 (pacc s 9).2.2) := (blk_cell (blk_alloc C4.out (.stringIter s 10)) 2).trans rfl
      have hfz : (wb.iter s 10).frozen? ⟨w.heap.size + 1, 2, none⟩ = false := blk_frozen (blk_alloc C4.out (.stringIter s 10)) 2
      simp only [show (10 : Int) ^ 9 = 1000000000 from rfl] at hbd
      have HPD := Aside0.mk hpd
      clear hpd
      go_wp2_with fail
      go_roundg (10 - 10)
      case measure => have := HM.out; omega
      case rel => exact ⟨10, wb.setCell ⟨w.heap.size + 1, 2, none⟩ (.int .i64 (10 * (pacc s 9).2.2 + pd s 9)), rfl, by omega, ⟨Nat.le_refl _⟩, setCell_alloc_lt wb (.stringIter s 10) _ _ (by show w.heap.size + 1 < wb.heap.size; rw [HSZ.out]; omega), ⟨(size_setCell _ _ _).trans HSZ.out⟩, ⟨blk_far C2.out (by simp) _⟩, ⟨(blk_set C4.out 2 _).trans (by simp [pacc])⟩, ⟨below_set HB.out (by simp)⟩⟩
    · skip
      have hp : ¬ 10 < s.size := by rw [HS.out]; omega
      have hnx : ∀ ty, (Instr.next (.pointer (some ⟨w.heap.size + 1 + 1, 0, none⟩)) true ty).run Try.prog (wb.iter s 10) = .ok (.tuple #[.bool false]) (wb.iter s 10) := by
        intro ty
        have q := run_next_end (P := Try.prog) wb s 10 ty hp
        rw [HSZ.out] at q
        exact q
      have D2 := Aside0.mk (blk_alloc C2.out (.stringIter s 10))
      have D4 := Aside0.mk (blk_alloc C4.out (.stringIter s 10))
      have GB : Aside0 (Below w.heap.size w (wb.iter s 10)) := ⟨below_alloc HB.out _⟩
      have hsz2 : (wb.iter s 10).heap.size = w.heap.size + 3 := by show (wb.alloc _).heap.size = _; simp [HSZ.out]
      have HSZ2 := Aside0.mk hsz2
      clear hsz2
      have c0 : (wb.iter s 10).cell? ⟨w.heap.size + 1, 0, none⟩ = some (.int .i64 (pacc s 10).1) := (blk_cell D4.out 0).trans rfl
      have c1 : (wb.iter s 10).cell? ⟨w.heap.size + 1, 1, none⟩ = some (.int .i64 (pacc s 10).2.1) := (blk_cell D4.out 1).trans rfl
      have c2 : (wb.iter s 10).cell? ⟨w.heap.size + 1, 2, none⟩ = some (.int .i64 (pacc s 10).2.2) := (blk_cell D4.out 2).trans rfl
      go_wp2_with fail
      with_reducible refine (right_calls _ _ _ false _ ⟨fun h => (by cases h), fun h => absurd h HV.out⟩).mono ?_
      rintro e w3 ⟨rfl, hb⟩
      have B8 := Aside0.mk (blk_below (blk_new (wb.iter s 10) _) hb)
      have E2 := Aside0.mk (blk_below (blk_alloc D2.out _) hb)
      have GB3 : Aside0 (Below w.heap.size w w3) := ⟨below_step (below_alloc GB.out _) hb⟩
      clear hb c0 c1 c2
      have z0 : w3.cell? ⟨(wb.iter s 10).heap.size, 0, none⟩ = some (.int .i64 (pacc s 10).1) := (blk_cell B8.out 0).trans rfl
      have z1 : w3.cell? ⟨(wb.iter s 10).heap.size, 1, none⟩ = some (.int .i64 (pacc s 10).2.1) := (blk_cell B8.out 1).trans rfl
      have z2 : w3.cell? ⟨(wb.iter s 10).heap.size, 2, none⟩ = some (.int .i64 (pacc s 10).2.2) := (blk_cell B8.out 2).trans rfl
      have y0 : w3.cell? ⟨w.heap.size, 0, none⟩ = some (.int .i64 0) := (blk_cell E2.out 0).trans rfl
      have x0 := blk_frozen E2.out 0
      have y1 : w3.cell? ⟨w.heap.size, 1, none⟩ = some (.int .i64 0) := (blk_cell E2.out 1).trans rfl
      have x1 := blk_frozen E2.out 1
      have y2 : w3.cell? ⟨w.heap.size, 2, none⟩ = some (.int .i64 0) := (blk_cell E2.out 2).trans rfl
      have x2 := blk_frozen E2.out 2
      go_wp2_with fail
      try rw [Exit.noGoto_ret]
      refine bodyPost_ret (v := .tuple #[.agg #[.int .i64 0, .int .i64 0, .int .i64 0], .int .i64 1]) (results_list (rs := [.cell 2 30, .tmp 3]) rfl (by simp) (.cell w.heap.size 30 #[.int .i64 0, .int .i64 0, .int .i64 0] (0, 0) _ rfl ((blk_set (blk_set (blk_set E2.out 0 _) 1 _) 2 _).trans rfl) Try.underlying30 rfl (by kernel_rfl) (.tmp .nil))) rfl ⟨rfl, ?_⟩
      exact below_set (below_set (below_set GB3.out (by simp)) (by simp)) (by simp)
theorem pd_mk (l : List UInt8) (k : Nat) (c : UInt8) (h : l[k]? = some c) : pd ⟨l.toArray⟩ k = (c.toNat : Int) - 48 := by
  obtain ⟨hk, e⟩ := List.getElem?_eq_some_iff.1 h
  unfold pd
  rw [dif_pos (by simpa [ByteArray.size] using hk)]
  rw [← e]
  rfl
theorem txt_size (y m d : Int) : ByteArray.size ⟨(Txt.txt y m d).toArray⟩ = 10 := rfl
/-- A day's text reads as that day. -/
theorem txt_reads (y m d : Int) (h : Cal.valid y m d) : (∀ j, j < 10 → pgood ⟨(Txt.txt y m d).toArray⟩ j) ∧ pacc ⟨(Txt.txt y m d).toArray⟩ 10 = (y, m, d) := by
  obtain ⟨h1, h2, h3, h4, h5, h6⟩ := h
  have hm := Cal.mon_le y m
  have D : ∀ n : Int, 0 ≤ n → n ≤ 9 → ((Txt.dg n).toNat : Int) - 48 = n := fun n a b => by rw [dg_nat n a b]; omega
  have p0 : pd ⟨(Txt.txt y m d).toArray⟩ 0 = y / 100 / 10 % 10 := (pd_mk _ 0 _ rfl).trans (D _ (by omega) (by omega))
  have p1 : pd ⟨(Txt.txt y m d).toArray⟩ 1 = y / 100 % 10 := (pd_mk _ 1 _ rfl).trans (D _ (by omega) (by omega))
  have p2 : pd ⟨(Txt.txt y m d).toArray⟩ 2 = y / 10 % 10 := (pd_mk _ 2 _ rfl).trans (D _ (by omega) (by omega))
  have p3 : pd ⟨(Txt.txt y m d).toArray⟩ 3 = y % 10 := (pd_mk _ 3 _ rfl).trans (D _ (by omega) (by omega))
  have p4 : pd ⟨(Txt.txt y m d).toArray⟩ 4 = -3 := (pd_mk _ 4 45 rfl).trans (by decide)
  have p5 : pd ⟨(Txt.txt y m d).toArray⟩ 5 = m / 10 % 10 := (pd_mk _ 5 _ rfl).trans (D _ (by omega) (by omega))
  have p6 : pd ⟨(Txt.txt y m d).toArray⟩ 6 = m % 10 := (pd_mk _ 6 _ rfl).trans (D _ (by omega) (by omega))
  have p7 : pd ⟨(Txt.txt y m d).toArray⟩ 7 = -3 := (pd_mk _ 7 45 rfl).trans (by decide)
  have p8 : pd ⟨(Txt.txt y m d).toArray⟩ 8 = d / 10 % 10 := (pd_mk _ 8 _ rfl).trans (D _ (by omega) (by omega))
  have p9 : pd ⟨(Txt.txt y m d).toArray⟩ 9 = d % 10 := (pd_mk _ 9 _ rfl).trans (D _ (by omega) (by omega))
  constructor
  · intro j hj
    unfold pgood
    rcases (show j = 0 ∨ j = 1 ∨ j = 2 ∨ j = 3 ∨ j = 4 ∨ j = 5 ∨ j = 6 ∨ j = 7 ∨ j = 8 ∨ j = 9 by omega) with rfl | rfl | rfl | rfl | rfl | rfl | rfl | rfl | rfl | rfl
    · rw [if_neg (by omega), p0]; omega
    · rw [if_neg (by omega), p1]; omega
    · rw [if_neg (by omega), p2]; omega
    · rw [if_neg (by omega), p3]; omega
    · rw [if_pos (by omega), p4]
    · rw [if_neg (by omega), p5]; omega
    · rw [if_neg (by omega), p6]; omega
    · rw [if_pos (by omega), p7]
    · rw [if_neg (by omega), p8]; omega
    · rw [if_neg (by omega), p9]; omega
  · simp only [pacc, p0, p1, p2, p3, p5, p6, p8, p9]
    simp
    omega
end Go.Proofs.Ytljfmfkgpnabaaa.Pure
