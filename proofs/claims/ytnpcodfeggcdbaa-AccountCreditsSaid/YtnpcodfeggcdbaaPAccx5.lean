-- Laid by wip/prt.py over the kit's print (Acc).
import Derived.Test.YtnpcodfeggcdbaaPAccx0
import Derived.Test.YtnpcodfeggcdbaaPAccx1
import Derived.Test.YtnpcodfeggcdbaaPAccx2
import Derived.Test.YtnpcodfeggcdbaaPAccx4
namespace Go.Proofs.Ytnpcodfeggcdbaa.PAcc
open Go.RowKit Go.Proofs.YtnpcodfeggcdbaaW.PrintWords Go.Proofs.YtnpcodfeggcdbaaW.PrintLast Go.Proofs.YtnpcodfeggcdbaaW.PrintMore
attribute [local go_sem] max2_int min2_int max_two min_two max_three min_three max_four min_four   -- for this text's walks alone
set_option linter.unusedVariables false
set_option linter.unusedSimpArgs false

/-! ### account_Day: function 12 -/
mutual
def account_Day.l0 : Nat → Int → Int → Int → Int → Int → Int → Int → Int → Int → Bool → List (S37) → Int → Int → Int → Int → Int → Int → Int → Int → Int → Bool → Bool → Option (Int × Int × Int × Int × Int × Int × Bool × (List (S37)) × Int × Int × Int × Int × Int × Int)
  | 0, _, _, _, _, _, _, _, _, _, _, _, _, _, _, _, _, _, _, _, _, _, _ => none
  | k + 1, x2, x18, x19, x324000, x324001, x324002, x324003, x324004, x324005, x324006, x324007, x324008, x324009, x324010, x324011, x324012, x325000, x325001, x325002, x325003, x325004, x325005 => if x19 < x18 then (if 0 ≤ x19 then (if x19 < (x324007.length : Int) then ((cycle_Wake.f ((rd_T37 x324007 x19).f0) ((rd_T37 x324007 x19).f1) ((rd_T37 x324007 x19).f2) ((rd_T37 x324007 x19).f3) ((rd_T37 x324007 x19).f4) ((rd_T37 x324007 x19).f5) ((rd_T37 x324007 x19).f6) ((rd_T37 x324007 x19).f7) x2).bind fun bt342 => (account_Day.l0 k x2 x18 (wrap64 (x19 + 1)) x324000 x324001 x324002 x324003 x324004 x324005 x324006 (x324007.set (x19 : Int).toNat (⟨bt342.1, bt342.2.1, bt342.2.2.1, bt342.2.2.2.1, bt342.2.2.2.2.1, bt342.2.2.2.2.2.1, bt342.2.2.2.2.2.2.1, bt342.2.2.2.2.2.2.2⟩ : S37)) x324008 x324009 x324010 x324011 x324012 x325000 x325001 x325002 x325003 x325004 x325005)) else (none)) else (none)) else (account_Day.l1 k x2 x324000 x324001 x324002 x324003 x324004 x324005 x324006 x324007 x324008 x324009 x324010 x324011 x324012 x325000 x325001 x325002 x325003 x325004 x325005)
def account_Day.l1 : Nat → Int → Int → Int → Int → Int → Int → Int → Bool → List (S37) → Int → Int → Int → Int → Int → Int → Int → Int → Int → Bool → Bool → Option (Int × Int × Int × Int × Int × Int × Bool × (List (S37)) × Int × Int × Int × Int × Int × Int)
  | 0, _, _, _, _, _, _, _, _, _, _, _, _, _, _, _, _, _, _, _, _ => none
  | k + 1, x2, x324000, x324001, x324002, x324003, x324004, x324005, x324006, x324007, x324008, x324009, x324010, x324011, x324012, x325000, x325001, x325002, x325003, x325004, x325005 => if x324000 = 3 then (some (x324000, x324001, x324002, x324003, x324004, x324005, x324006, x324007, x324008, x324009, x324010, x324011, x324012, 0)) else ((account_due.f k x324000 x324001 x324002 x324003 x324004 x324005 x324006 x324007 x324008 x324009 x324010 x324011 x324012 x325000 x325001 x325002 x325003 x325004 x325005).bind fun bt351 => (if bt351.2 = true then (account_Day.j2 k x2 bt351.1 (decide (bt351.1 > x2)) x324000 x324001 x324002 x324003 x324004 x324005 x324006 x324007 x324008 x324009 x324010 x324011 x324012 x325000 x325001 x325002 x325003 x325004 x325005) else (account_Day.j2 k x2 bt351.1 true x324000 x324001 x324002 x324003 x324004 x324005 x324006 x324007 x324008 x324009 x324010 x324011 x324012 x325000 x325001 x325002 x325003 x325004 x325005)))
def account_Day.j2 : Nat → Int → Int → Bool → Int → Int → Int → Int → Int → Int → Bool → List (S37) → Int → Int → Int → Int → Int → Int → Int → Int → Int → Bool → Bool → Option (Int × Int × Int × Int × Int × Int × Bool × (List (S37)) × Int × Int × Int × Int × Int × Int)
  | 0, _, _, _, _, _, _, _, _, _, _, _, _, _, _, _, _, _, _, _, _, _, _ => none
  | k + 1, x2, x9, x49, x324000, x324001, x324002, x324003, x324004, x324005, x324006, x324007, x324008, x324009, x324010, x324011, x324012, x325000, x325001, x325002, x325003, x325004, x325005 => if x49 = true then (some (x324000, x324001, x324002, x324003, x324004, x324005, x324006, x324007, x324008, x324009, x324010, x324011, x324012, 0)) else ((account_due.f k x324000 x324001 x324002 (wrap64 (x324003 + 1)) x324004 x324005 x324006 x324007 x324008 x324009 x324010 x324011 x324012 x325000 x325001 x325002 x325003 x325004 x325005).bind fun bt353 => (if x325005 = true then (if bt353.2 = true then ((account_begin.f k x324000 x324001 x324002 (wrap64 (x324003 + 1)) x324004 x324005 x324006 x324007 x324008 x324009 x324010 x324011 x324012 x325000 x325001 x325002 x325003 x325004 x325005 x9 (decide (bt353.1 ≤ x2))).bind fun bt355 => (if bt355.2.2.2.2.2.2.2.2.2.2.2.2.2 = 0 then (account_Day.l1 k x2 bt355.1 bt355.2.1 bt355.2.2.1 bt355.2.2.2.1 bt355.2.2.2.2.1 bt355.2.2.2.2.2.1 bt355.2.2.2.2.2.2.1 bt355.2.2.2.2.2.2.2.1 bt355.2.2.2.2.2.2.2.2.1 bt355.2.2.2.2.2.2.2.2.2.1 bt355.2.2.2.2.2.2.2.2.2.2.1 bt355.2.2.2.2.2.2.2.2.2.2.2.1 bt355.2.2.2.2.2.2.2.2.2.2.2.2.1 x325000 x325001 x325002 x325003 x325004 x325005) else (none))) else ((account_begin.f k x324000 x324001 x324002 (wrap64 (x324003 + 1)) x324004 x324005 x324006 x324007 x324008 x324009 x324010 x324011 x324012 x325000 x325001 x325002 x325003 x325004 x325005 x9 false).bind fun bt371 => (if bt371.2.2.2.2.2.2.2.2.2.2.2.2.2 = 0 then (account_Day.l1 k x2 bt371.1 bt371.2.1 bt371.2.2.1 bt371.2.2.2.1 bt371.2.2.2.2.1 bt371.2.2.2.2.2.1 bt371.2.2.2.2.2.2.1 bt371.2.2.2.2.2.2.2.1 bt371.2.2.2.2.2.2.2.2.1 bt371.2.2.2.2.2.2.2.2.2.1 bt371.2.2.2.2.2.2.2.2.2.2.1 bt371.2.2.2.2.2.2.2.2.2.2.2.1 bt371.2.2.2.2.2.2.2.2.2.2.2.2.1 x325000 x325001 x325002 x325003 x325004 x325005) else (none)))) else ((account_begin.f k x324000 x324001 x324002 (wrap64 (x324003 + 1)) x324004 x324005 x324006 x324007 x324008 x324009 x324010 x324011 x324012 x325000 x325001 x325002 x325003 x325004 x325005 x9 false).bind fun bt387 => (if bt387.2.2.2.2.2.2.2.2.2.2.2.2.2 = 0 then (account_Day.l1 k x2 bt387.1 bt387.2.1 bt387.2.2.1 bt387.2.2.2.1 bt387.2.2.2.2.1 bt387.2.2.2.2.2.1 bt387.2.2.2.2.2.2.1 bt387.2.2.2.2.2.2.2.1 bt387.2.2.2.2.2.2.2.2.1 bt387.2.2.2.2.2.2.2.2.2.1 bt387.2.2.2.2.2.2.2.2.2.2.1 bt387.2.2.2.2.2.2.2.2.2.2.2.1 bt387.2.2.2.2.2.2.2.2.2.2.2.2.1 x325000 x325001 x325002 x325003 x325004 x325005) else (none)))))
end
def account_Day.f (k : Nat) (a0_0 : Int) (a0_1 : Int) (a0_2 : Int) (a0_3 : Int) (a0_4 : Int) (a0_5 : Int) (a0_6 : Bool) (l0_7 : List (S37)) (a0_8 : Int) (a0_9 : Int) (a0_10 : Int) (a0_11 : Int) (a0_12 : Int) (a1_0 : Int) (a1_1 : Int) (a1_2 : Int) (a1_3 : Int) (a1_4 : Bool) (a1_5 : Bool) (a2 : Int) : Option (Int × Int × Int × Int × Int × Int × Bool × (List (S37)) × Int × Int × Int × Int × Int × Int) := (account_Copy.f a0_0 a0_1 a0_2 a0_3 a0_4 a0_5 a0_6 l0_7 a0_8 a0_9 a0_10 a0_11 a0_12).bind fun bt326 => (account_Day.l0 k a2 (bt326.2.2.2.2.2.2.2.1.length : Int) 0 bt326.1 bt326.2.1 bt326.2.2.1 bt326.2.2.2.1 bt326.2.2.2.2.1 bt326.2.2.2.2.2.1 bt326.2.2.2.2.2.2.1 bt326.2.2.2.2.2.2.2.1 bt326.2.2.2.2.2.2.2.2.1 bt326.2.2.2.2.2.2.2.2.2.1 bt326.2.2.2.2.2.2.2.2.2.2.1 bt326.2.2.2.2.2.2.2.2.2.2.2.1 bt326.2.2.2.2.2.2.2.2.2.2.2.2 a1_0 a1_1 a1_2 a1_3 a1_4 a1_5)
theorem account_Day.mono_l : ∀ k, (∀ y0 y1 y2 y3 y4 y5 y6 y7 y8 y9 y10 y11 y12 y13 y14 y15 y16 y17 y18 y19 y20 y21, LeO (account_Day.l0 k y0 y1 y2 y3 y4 y5 y6 y7 y8 y9 y10 y11 y12 y13 y14 y15 y16 y17 y18 y19 y20 y21) (account_Day.l0 (k + 1) y0 y1 y2 y3 y4 y5 y6 y7 y8 y9 y10 y11 y12 y13 y14 y15 y16 y17 y18 y19 y20 y21)) ∧ (∀ y0 y1 y2 y3 y4 y5 y6 y7 y8 y9 y10 y11 y12 y13 y14 y15 y16 y17 y18 y19, LeO (account_Day.l1 k y0 y1 y2 y3 y4 y5 y6 y7 y8 y9 y10 y11 y12 y13 y14 y15 y16 y17 y18 y19) (account_Day.l1 (k + 1) y0 y1 y2 y3 y4 y5 y6 y7 y8 y9 y10 y11 y12 y13 y14 y15 y16 y17 y18 y19)) ∧ (∀ y0 y1 y2 y3 y4 y5 y6 y7 y8 y9 y10 y11 y12 y13 y14 y15 y16 y17 y18 y19 y20 y21, LeO (account_Day.j2 k y0 y1 y2 y3 y4 y5 y6 y7 y8 y9 y10 y11 y12 y13 y14 y15 y16 y17 y18 y19 y20 y21) (account_Day.j2 (k + 1) y0 y1 y2 y3 y4 y5 y6 y7 y8 y9 y10 y11 y12 y13 y14 y15 y16 y17 y18 y19 y20 y21))
  | 0 => ⟨fun _ _ _ _ _ _ _ _ _ _ _ _ _ _ _ _ _ _ _ _ _ _ r h => by simp [account_Day.l0] at h, fun _ _ _ _ _ _ _ _ _ _ _ _ _ _ _ _ _ _ _ _ r h => by simp [account_Day.l1] at h, fun _ _ _ _ _ _ _ _ _ _ _ _ _ _ _ _ _ _ _ _ _ _ r h => by simp [account_Day.j2] at h⟩
  | k + 1 => by
    obtain ⟨ih0, ih1, ih2⟩ := account_Day.mono_l k
    refine ⟨?_, ?_, ?_⟩
    · intro y0 y1 y2 y3 y4 y5 y6 y7 y8 y9 y10 y11 y12 y13 y14 y15 y16 y17 y18 y19 y20 y21
      unfold account_Day.l0
      repeat' first
      | (with_reducible exact ih0 _ _ _ _ _ _ _ _ _ _ _ _ _ _ _ _ _ _ _ _ _ _)
      | (with_reducible exact ih1 _ _ _ _ _ _ _ _ _ _ _ _ _ _ _ _ _ _ _ _)
      | (with_reducible exact ih2 _ _ _ _ _ _ _ _ _ _ _ _ _ _ _ _ _ _ _ _ _ _)
      | (with_reducible exact account_begin.mono _ _ _ _ _ _ _ _ _ _ _ _ _ _ _ _ _ _ _ _ _ _)
      | (with_reducible exact account_due.mono _ _ _ _ _ _ _ _ _ _ _ _ _ _ _ _ _ _ _ _)
      | (with_reducible exact LeO.refl _)
      | (with_reducible exact LeO.none _)
      | (with_reducible refine LeO.ite ?_ ?_)
      | (with_reducible refine LeO.bind ?_ (fun _ => ?_))
      | exact ih0 _ _ _ _ _ _ _ _ _ _ _ _ _ _ _ _ _ _ _ _ _ _
      | exact ih1 _ _ _ _ _ _ _ _ _ _ _ _ _ _ _ _ _ _ _ _
      | exact ih2 _ _ _ _ _ _ _ _ _ _ _ _ _ _ _ _ _ _ _ _ _ _
      | exact account_begin.mono _ _ _ _ _ _ _ _ _ _ _ _ _ _ _ _ _ _ _ _ _ _
      | exact account_due.mono _ _ _ _ _ _ _ _ _ _ _ _ _ _ _ _ _ _ _ _
      | exact LeO.none _
      | refine LeO.ite ?_ ?_
      | refine LeO.bind ?_ (fun _ => ?_)
    · intro y0 y1 y2 y3 y4 y5 y6 y7 y8 y9 y10 y11 y12 y13 y14 y15 y16 y17 y18 y19
      unfold account_Day.l1
      repeat' first
      | (with_reducible exact ih0 _ _ _ _ _ _ _ _ _ _ _ _ _ _ _ _ _ _ _ _ _ _)
      | (with_reducible exact ih1 _ _ _ _ _ _ _ _ _ _ _ _ _ _ _ _ _ _ _ _)
      | (with_reducible exact ih2 _ _ _ _ _ _ _ _ _ _ _ _ _ _ _ _ _ _ _ _ _ _)
      | (with_reducible exact account_begin.mono _ _ _ _ _ _ _ _ _ _ _ _ _ _ _ _ _ _ _ _ _ _)
      | (with_reducible exact account_due.mono _ _ _ _ _ _ _ _ _ _ _ _ _ _ _ _ _ _ _ _)
      | (with_reducible exact LeO.refl _)
      | (with_reducible exact LeO.none _)
      | (with_reducible refine LeO.ite ?_ ?_)
      | (with_reducible refine LeO.bind ?_ (fun _ => ?_))
      | exact ih0 _ _ _ _ _ _ _ _ _ _ _ _ _ _ _ _ _ _ _ _ _ _
      | exact ih1 _ _ _ _ _ _ _ _ _ _ _ _ _ _ _ _ _ _ _ _
      | exact ih2 _ _ _ _ _ _ _ _ _ _ _ _ _ _ _ _ _ _ _ _ _ _
      | exact account_begin.mono _ _ _ _ _ _ _ _ _ _ _ _ _ _ _ _ _ _ _ _ _ _
      | exact account_due.mono _ _ _ _ _ _ _ _ _ _ _ _ _ _ _ _ _ _ _ _
      | exact LeO.none _
      | refine LeO.ite ?_ ?_
      | refine LeO.bind ?_ (fun _ => ?_)
    · intro y0 y1 y2 y3 y4 y5 y6 y7 y8 y9 y10 y11 y12 y13 y14 y15 y16 y17 y18 y19 y20 y21
      unfold account_Day.j2
      repeat' first
      | (with_reducible exact ih0 _ _ _ _ _ _ _ _ _ _ _ _ _ _ _ _ _ _ _ _ _ _)
      | (with_reducible exact ih1 _ _ _ _ _ _ _ _ _ _ _ _ _ _ _ _ _ _ _ _)
      | (with_reducible exact ih2 _ _ _ _ _ _ _ _ _ _ _ _ _ _ _ _ _ _ _ _ _ _)
      | (with_reducible exact account_begin.mono _ _ _ _ _ _ _ _ _ _ _ _ _ _ _ _ _ _ _ _ _ _)
      | (with_reducible exact account_due.mono _ _ _ _ _ _ _ _ _ _ _ _ _ _ _ _ _ _ _ _)
      | (with_reducible exact LeO.refl _)
      | (with_reducible exact LeO.none _)
      | (with_reducible refine LeO.ite ?_ ?_)
      | (with_reducible refine LeO.bind ?_ (fun _ => ?_))
      | exact ih0 _ _ _ _ _ _ _ _ _ _ _ _ _ _ _ _ _ _ _ _ _ _
      | exact ih1 _ _ _ _ _ _ _ _ _ _ _ _ _ _ _ _ _ _ _ _
      | exact ih2 _ _ _ _ _ _ _ _ _ _ _ _ _ _ _ _ _ _ _ _ _ _
      | exact account_begin.mono _ _ _ _ _ _ _ _ _ _ _ _ _ _ _ _ _ _ _ _ _ _
      | exact account_due.mono _ _ _ _ _ _ _ _ _ _ _ _ _ _ _ _ _ _ _ _
      | exact LeO.none _
      | refine LeO.ite ?_ ?_
      | refine LeO.bind ?_ (fun _ => ?_)
theorem account_Day.mono : ∀ a0 a1 a2 a3 a4 a5 a6 a7 a8 a9 a10 a11 a12 a13 a14 a15 a16 a17 a18 a19 k, LeO (account_Day.f k a0 a1 a2 a3 a4 a5 a6 a7 a8 a9 a10 a11 a12 a13 a14 a15 a16 a17 a18 a19) (account_Day.f (k + 1) a0 a1 a2 a3 a4 a5 a6 a7 a8 a9 a10 a11 a12 a13 a14 a15 a16 a17 a18 a19) := by
  intro a0 a1 a2 a3 a4 a5 a6 a7 a8 a9 a10 a11 a12 a13 a14 a15 a16 a17 a18 a19 k
  obtain ⟨ih0, ih1, ih2⟩ := account_Day.mono_l k
  unfold account_Day.f
  repeat' first
      | (with_reducible exact ih0 _ _ _ _ _ _ _ _ _ _ _ _ _ _ _ _ _ _ _ _ _ _)
      | (with_reducible exact ih1 _ _ _ _ _ _ _ _ _ _ _ _ _ _ _ _ _ _ _ _)
      | (with_reducible exact ih2 _ _ _ _ _ _ _ _ _ _ _ _ _ _ _ _ _ _ _ _ _ _)
      | (with_reducible exact account_begin.mono _ _ _ _ _ _ _ _ _ _ _ _ _ _ _ _ _ _ _ _ _ _)
      | (with_reducible exact account_due.mono _ _ _ _ _ _ _ _ _ _ _ _ _ _ _ _ _ _ _ _)
      | (with_reducible exact LeO.refl _)
      | (with_reducible exact LeO.none _)
      | (with_reducible refine LeO.ite ?_ ?_)
      | (with_reducible refine LeO.bind ?_ (fun _ => ?_))
      | exact ih0 _ _ _ _ _ _ _ _ _ _ _ _ _ _ _ _ _ _ _ _ _ _
      | exact ih1 _ _ _ _ _ _ _ _ _ _ _ _ _ _ _ _ _ _ _ _
      | exact ih2 _ _ _ _ _ _ _ _ _ _ _ _ _ _ _ _ _ _ _ _ _ _
      | exact account_begin.mono _ _ _ _ _ _ _ _ _ _ _ _ _ _ _ _ _ _ _ _ _ _
      | exact account_due.mono _ _ _ _ _ _ _ _ _ _ _ _ _ _ _ _ _ _ _ _
      | exact LeO.none _
      | refine LeO.ite ?_ ?_
      | refine LeO.bind ?_ (fun _ => ?_)
def account_Day.T5 : Bool × List (List Nat × List Nat) := (true, [([], []), ([0], [0]), ([], []), ([], []), ([3], [3]), ([], []), ([4, 5], [4, 5]), ([6], [6]), ([], []), ([7, 8], [7, 8]), ([1, 2, 0, 1, 2, 3, 4, 5, 6, 7, 8, 9], [1, 2]), ([10, 9, 9, 0, 1, 2, 3, 4, 5, 6, 7, 8, 9], [9, 10])])
def account_Day.B5 : List Nat := [0, 1, 0, 0, 8, 0, 56, 120, 0, 504, 1023, 2047]
theorem account_Day.tab5 : rtab .any (opsOf Try.f12 5) = account_Day.T5 := by kernel_rfl
theorem account_Day.bits5 : waitsOk account_Day.T5.2 account_Day.B5 = true := by kernel_rfl
set_option maxHeartbeats 3000000 in
set_option maxRecDepth 100000 in
theorem account_Day.calls (k : Nat) (a0_0 : Int) (a0_1 : Int) (a0_2 : Int) (a0_3 : Int) (a0_4 : Int) (a0_5 : Int) (a0_6 : Bool) (A0_7 : Option Addr) (c0_7 : Nat) (l0_7 : List (S37)) (a0_8 : Int) (a0_9 : Int) (a0_10 : Int) (a0_11 : Int) (a0_12 : Int) (a1_0 : Int) (a1_1 : Int) (a1_2 : Int) (a1_3 : Int) (a1_4 : Bool) (a1_5 : Bool) (a2 : Int) (r1 : Int) (r2 : Int) (r3 : Int) (r4 : Int) (r5 : Int) (r6 : Int) (r7 : Bool) (r8 : List (S37)) (r9 : Int) (r10 : Int) (r11 : Int) (r12 : Int) (r13 : Int) (r14 : Int) (w : World) (hr0_7 : Kd.C k37 w A0_7 l0_7.length l0_7) (hc0_7 : l0_7.length ≤ c0_7) (h : account_Day.f k a0_0 a0_1 a0_2 a0_3 a0_4 a0_5 a0_6 l0_7 a0_8 a0_9 a0_10 a0_11 a0_12 a1_0 a1_1 a1_2 a1_3 a1_4 a1_5 a2 = some (r1, r2, r3, r4, r5, r6, r7, r8, r9, r10, r11, r12, r13, r14)) :
    Calls Try.prog 12 #[.agg #[.int .u8 a0_0, .int .i64 a0_1, .int .i64 a0_2, .int .i64 a0_3, .int .i64 a0_4, .int .i64 a0_5, .bool a0_6, .slice A0_7 l0_7.length c0_7, .int .i64 a0_8, .int .i64 a0_9, .int .i64 a0_10, .int .i64 a0_11, .int .i64 a0_12], .agg #[.int .i64 a1_0, .int .u8 a1_1, .int .i64 a1_2, .int .i64 a1_3, .bool a1_4, .bool a1_5], .int .i64 a2] w fun e w' => ∃ v7_ : Value, e = .returned (.tuple #[.agg #[.int .u8 r1, .int .i64 r2, .int .i64 r3, .int .i64 r4, .int .i64 r5, .int .i64 r6, .bool r7, v7_, .int .i64 r9, .int .i64 r10, .int .i64 r11, .int .i64 r12, .int .i64 r13], .int .i64 r14]) ∧ Kd.R k37 37 w' w.heap.size (fun _ => True) v7_ r8 ∧ Below w.heap.size w w' := by
  have hu31 := Try.underlying31
  have hu25 := Try.underlying25
  have hu37 := Try.underlying37
  have HR0_7 := Aside0.mk hr0_7
  have HC0_7 := Aside0.mk hc0_7
  clear hr0_7 hc0_7
  have HB := Aside0.mk (Below.refl w.heap.size w)
  have H : ((account_Copy.f a0_0 a0_1 a0_2 a0_3 a0_4 a0_5 a0_6 l0_7 a0_8 a0_9 a0_10 a0_11 a0_12).bind fun bt326 => (account_Day.l0 k a2 (bt326.2.2.2.2.2.2.2.1.length : Int) 0 bt326.1 bt326.2.1 bt326.2.2.1 bt326.2.2.2.1 bt326.2.2.2.2.1 bt326.2.2.2.2.2.1 bt326.2.2.2.2.2.2.1 bt326.2.2.2.2.2.2.2.1 bt326.2.2.2.2.2.2.2.2.1 bt326.2.2.2.2.2.2.2.2.2.1 bt326.2.2.2.2.2.2.2.2.2.2.1 bt326.2.2.2.2.2.2.2.2.2.2.2.1 bt326.2.2.2.2.2.2.2.2.2.2.2.2 a1_0 a1_1 a1_2 a1_3 a1_4 a1_5)) = some (r1, r2, r3, r4, r5, r6, r7, r8, r9, r10, r11, r12, r13, r14) := h
  clear h
  replace H := Option.bind_eq_some_iff.mp H
  obtain ⟨⟨t326, t327, t328, t329, t330, t331, t332, t333, t336, t337, t338, t339, t340⟩, A40, H⟩ := H
  replace H : (account_Day.l0 k a2 (t333.length : Int) 0 t326 t327 t328 t329 t330 t331 t332 t333 t336 t337 t338 t339 t340 a1_0 a1_1 a1_2 a1_3 a1_4 a1_5) = some (r1, r2, r3, r4, r5, r6, r7, r8, r9, r10, r11, r12, r13, r14) := H
  have A4 := Aside0.mk A40
  clear A40
  have H' := Aside0.mk H
  clear H
  go_enter Try.func12, Try.ntmps12
  go_wp2_with (first | ((with_reducible refine gate_dst (N := 3) rfl ?_); refine box_event ?hg (N := 3) ?hd (cs := #[.int .u8 a0_0, .int .i64 a0_1, .int .i64 a0_2, .int .i64 a0_3, .int .i64 a0_4, .int .i64 a0_5, .bool a0_6, .slice A0_7 l0_7.length c0_7, .int .i64 a0_8, .int .i64 a0_9, .int .i64 a0_10, .int .i64 a0_11, .int .i64 a0_12]) (t := 31) ?hr ?_; (case hd => rfl); (case hg => rfl); (case hr => first | (go_simp; done) | (go_simp; rfl)); intro gb323 hg w5 hbox hb; have n0_ := Aside0.mk (below_step (by repeat (first | (with_reducible first | exact HB.out | apply below_alloc | apply pw_below_drewN | apply below_drew1) | exact HB.out)) hb); have n1_ := Aside0.mk (hbox); have n2_ := Aside0.mk ((by rw [hg]; exact (below_size (by repeat (first | (with_reducible first | exact HB.out | apply below_alloc | apply pw_below_drewN | apply below_drew1) | exact HB.out))) : w.heap.size ≤ gb323)); have n3_ := Aside0.mk ((by rw [hg]; exact (below_size (by repeat (first | (with_reducible first | exact HB.out | apply below_alloc | apply pw_below_drewN | apply below_drew1) | exact HB.out))) : w.heap.size ≤ gb323)); clear HB; have HB := n0_; have BK323 := n1_; have GW323 := n2_; have GE323 := n3_; clear n0_ n1_ n2_ n3_; clear hb hbox hg) | ((with_reducible refine gate_dst (N := 4) rfl ?_); refine box_event ?hg (N := 4) ?hd (cs := #[.int .i64 a1_0, .int .u8 a1_1, .int .i64 a1_2, .int .i64 a1_3, .bool a1_4, .bool a1_5]) (t := 25) ?hr ?_; (case hd => rfl); (case hg => rfl); (case hr => first | (go_simp; done) | (go_simp; rfl)); intro gb324 hg w6 hbox hb; have n0_ := Aside0.mk (blk_below (g := gb323) (o := .cells #[.int .u8 a0_0, .int .i64 a0_1, .int .i64 a0_2, .int .i64 a0_3, .int .i64 a0_4, .int .i64 a0_5, .bool a0_6, .slice A0_7 l0_7.length c0_7, .int .i64 a0_8, .int .i64 a0_9, .int .i64 a0_10, .int .i64 a0_11, .int .i64 a0_12] 31 (0, 0)) (by (with_reducible repeat (first | refine blk_drewN ?_ _ | refine blk_drew ?_ | refine blk_alloc ?_ _)); exact BK323.out) hb); have n1_ := Aside0.mk (below_step (by repeat (first | (with_reducible first | exact HB.out | apply below_alloc | apply pw_below_drewN | apply below_drew1 | refine below_set ?_ GE323.out) | exact HB.out)) hb); have n2_ := Aside0.mk (hbox); have n3_ := Aside0.mk ((by rw [hg]; exact (below_size (by repeat (first | (with_reducible first | exact HB.out | apply below_alloc | apply pw_below_drewN | apply below_drew1 | refine below_set ?_ GE323.out) | exact HB.out))) : w.heap.size ≤ gb324)); have n4_ := Aside0.mk ((by rw [hg]; exact (below_size (by repeat (first | (with_reducible first | exact HB.out | apply below_alloc | apply pw_below_drewN | apply below_drew1 | refine below_set ?_ GE323.out) | exact HB.out))) : w.heap.size ≤ gb324)); have n5_ := Aside0.mk ((by rw [hg]; exact Nat.ne_of_lt (blk_lt (g := gb323) (o := .cells #[.int .u8 a0_0, .int .i64 a0_1, .int .i64 a0_2, .int .i64 a0_3, .int .i64 a0_4, .int .i64 a0_5, .bool a0_6, .slice A0_7 l0_7.length c0_7, .int .i64 a0_8, .int .i64 a0_9, .int .i64 a0_10, .int .i64 a0_11, .int .i64 a0_12] 31 (0, 0)) (by (with_reducible repeat (first | refine blk_drewN ?_ _ | refine blk_drew ?_ | refine blk_alloc ?_ _)); exact BK323.out)) : gb323 ≠ gb324)); have n6_ := Aside0.mk ((by rw [hg]; exact Nat.ne_of_gt (blk_lt (g := gb323) (o := .cells #[.int .u8 a0_0, .int .i64 a0_1, .int .i64 a0_2, .int .i64 a0_3, .int .i64 a0_4, .int .i64 a0_5, .bool a0_6, .slice A0_7 l0_7.length c0_7, .int .i64 a0_8, .int .i64 a0_9, .int .i64 a0_10, .int .i64 a0_11, .int .i64 a0_12] 31 (0, 0)) (by (with_reducible repeat (first | refine blk_drewN ?_ _ | refine blk_drew ?_ | refine blk_alloc ?_ _)); exact BK323.out)) : gb324 ≠ gb323)); clear BK323; clear HB; have BK323 := n0_; have HB := n1_; have BK324 := n2_; have GW324 := n3_; have GE324 := n4_; have NB323_324 := n5_; have NB324_323 := n6_; clear n0_ n1_ n2_ n3_ n4_ n5_ n6_; clear hb hbox hg) | ((with_reducible refine gate_dst (N := 6) rfl ?_); refine box_event ?hg (N := 6) ?hd (cs := #[.int .u8 0, .int .i64 0, .int .i64 0, .int .i64 0, .int .i64 0, .int .i64 0, .bool false, .slice none 0 0, .int .i64 0, .int .i64 0, .int .i64 0, .int .i64 0, .int .i64 0]) (t := 31) ?hr ?_; (case hd => rfl); (case hg => rfl); (case hr => first | (go_simp; done) | (go_simp; rfl)); intro gb325 hg w7 hbox hb; have n0_ := Aside0.mk (blk_below (g := gb323) (o := .cells #[.int .u8 a0_0, .int .i64 a0_1, .int .i64 a0_2, .int .i64 a0_3, .int .i64 a0_4, .int .i64 a0_5, .bool a0_6, .slice A0_7 l0_7.length c0_7, .int .i64 a0_8, .int .i64 a0_9, .int .i64 a0_10, .int .i64 a0_11, .int .i64 a0_12] 31 (0, 0)) (by (with_reducible repeat (first | refine blk_drewN ?_ _ | refine blk_drew ?_ | refine blk_alloc ?_ _)); exact BK323.out) hb); have n1_ := Aside0.mk (blk_below (g := gb324) (o := .cells #[.int .i64 a1_0, .int .u8 a1_1, .int .i64 a1_2, .int .i64 a1_3, .bool a1_4, .bool a1_5] 25 (0, 0)) (by (with_reducible repeat (first | refine blk_drewN ?_ _ | refine blk_drew ?_ | refine blk_alloc ?_ _)); exact BK324.out) hb); have n2_ := Aside0.mk (below_step (by repeat (first | (with_reducible first | exact HB.out | apply below_alloc | apply pw_below_drewN | apply below_drew1 | refine below_set ?_ GE323.out | refine below_set ?_ GE324.out) | exact HB.out)) hb); have n3_ := Aside0.mk (hbox); have n4_ := Aside0.mk ((by rw [hg]; exact (below_size (by repeat (first | (with_reducible first | exact HB.out | apply below_alloc | apply pw_below_drewN | apply below_drew1 | refine below_set ?_ GE323.out | refine below_set ?_ GE324.out) | exact HB.out))) : w.heap.size ≤ gb325)); have n5_ := Aside0.mk ((by rw [hg]; exact (below_size (by repeat (first | (with_reducible first | exact HB.out | apply below_alloc | apply pw_below_drewN | apply below_drew1 | refine below_set ?_ GE323.out | refine below_set ?_ GE324.out) | exact HB.out))) : w.heap.size ≤ gb325)); have n6_ := Aside0.mk ((by rw [hg]; exact Nat.ne_of_lt (blk_lt (g := gb323) (o := .cells #[.int .u8 a0_0, .int .i64 a0_1, .int .i64 a0_2, .int .i64 a0_3, .int .i64 a0_4, .int .i64 a0_5, .bool a0_6, .slice A0_7 l0_7.length c0_7, .int .i64 a0_8, .int .i64 a0_9, .int .i64 a0_10, .int .i64 a0_11, .int .i64 a0_12] 31 (0, 0)) (by (with_reducible repeat (first | refine blk_drewN ?_ _ | refine blk_drew ?_ | refine blk_alloc ?_ _)); exact BK323.out)) : gb323 ≠ gb325)); have n7_ := Aside0.mk ((by rw [hg]; exact Nat.ne_of_gt (blk_lt (g := gb323) (o := .cells #[.int .u8 a0_0, .int .i64 a0_1, .int .i64 a0_2, .int .i64 a0_3, .int .i64 a0_4, .int .i64 a0_5, .bool a0_6, .slice A0_7 l0_7.length c0_7, .int .i64 a0_8, .int .i64 a0_9, .int .i64 a0_10, .int .i64 a0_11, .int .i64 a0_12] 31 (0, 0)) (by (with_reducible repeat (first | refine blk_drewN ?_ _ | refine blk_drew ?_ | refine blk_alloc ?_ _)); exact BK323.out)) : gb325 ≠ gb323)); have n8_ := Aside0.mk ((by rw [hg]; exact Nat.ne_of_lt (blk_lt (g := gb324) (o := .cells #[.int .i64 a1_0, .int .u8 a1_1, .int .i64 a1_2, .int .i64 a1_3, .bool a1_4, .bool a1_5] 25 (0, 0)) (by (with_reducible repeat (first | refine blk_drewN ?_ _ | refine blk_drew ?_ | refine blk_alloc ?_ _)); exact BK324.out)) : gb324 ≠ gb325)); have n9_ := Aside0.mk ((by rw [hg]; exact Nat.ne_of_gt (blk_lt (g := gb324) (o := .cells #[.int .i64 a1_0, .int .u8 a1_1, .int .i64 a1_2, .int .i64 a1_3, .bool a1_4, .bool a1_5] 25 (0, 0)) (by (with_reducible repeat (first | refine blk_drewN ?_ _ | refine blk_drew ?_ | refine blk_alloc ?_ _)); exact BK324.out)) : gb325 ≠ gb324)); clear BK323; clear BK324; clear HB; have BK323 := n0_; have BK324 := n1_; have HB := n2_; have BK325 := n3_; have GW325 := n4_; have GE325 := n5_; have NB323_325 := n6_; have NB325_323 := n7_; have NB324_325 := n8_; have NB325_324 := n9_; clear n0_ n1_ n2_ n3_ n4_ n5_ n6_ n7_ n8_ n9_; clear hb hbox hg; have hnb8 := NB323_324.out; have hnc8 := NB324_323.out; have hnb9 := NB323_325.out; have hnc9 := NB325_323.out; obtain ⟨hcz10_0, hcz10_1, hcz10_2, hcz10_3, hcz10_4, hcz10_5, hcz10_6, hcz10_7, hcz10_8, hcz10_9, hcz10_10, hcz10_11, hcz10_12⟩ := bc13 BK323.out; obtain ⟨hfz10_0, hfz10_1, hfz10_2, hfz10_3, hfz10_4, hfz10_5, hfz10_6, hfz10_7, hfz10_8, hfz10_9, hfz10_10, hfz10_11, hfz10_12⟩ := bf13 BK323.out) | ((with_reducible refine gate_callee (f := 21) rfl ?_); refine goesL_ (some 15) rfl rfl Try.func21 (by kernel_rfl) rfl #[.agg #[.int .u8 a0_0, .int .i64 a0_1, .int .i64 a0_2, .int .i64 a0_3, .int .i64 a0_4, .int .i64 a0_5, .bool a0_6, .slice A0_7 l0_7.length c0_7, .int .i64 a0_8, .int .i64 a0_9, .int .i64 a0_10, .int .i64 a0_11, .int .i64 a0_12]] rfl (by (try simp only [List.map_toArray, List.map_cons, List.map_nil]); first | done | rfl | (simp only [List.length_drop, List.length_take]; rfl)) ?_; (with_reducible refine (account_Copy.calls a0_0 a0_1 a0_2 a0_3 a0_4 a0_5 a0_6 _ _ l0_7 a0_8 a0_9 a0_10 a0_11 a0_12 t326 t327 t328 t329 t330 t331 t332 t333 t336 t337 t338 t339 t340 _ ?side1 ?side2 A4.out).mono ?_); (case side1 => repeat (first | exact (Kd.C_below HR0_7.out HB.out) | (with_reducible refine Kd.C_alloc ?_ _) | (with_reducible refine Kd.C_drewN ?_ _) | (with_reducible refine Kd.C_drew ?_))); (case side2 => exact HC0_7.out); rintro e w11 ⟨v334, rfl, ho0, hb⟩; refine ⟨_, rfl, ?_⟩; have n0_ := Aside0.mk (Kd.R_lower ho0 (below_size (by repeat (first | (with_reducible first | exact HB.out | apply below_alloc | apply pw_below_drewN | apply below_drew1 | refine below_set ?_ GE323.out | refine below_set ?_ GE324.out | refine below_set ?_ GE325.out) | exact HB.out)))); have n1_ := Aside0.mk (blk_below (g := gb323) (o := .cells #[.int .u8 a0_0, .int .i64 a0_1, .int .i64 a0_2, .int .i64 a0_3, .int .i64 a0_4, .int .i64 a0_5, .bool a0_6, .slice A0_7 l0_7.length c0_7, .int .i64 a0_8, .int .i64 a0_9, .int .i64 a0_10, .int .i64 a0_11, .int .i64 a0_12] 31 (0, 0)) (by (with_reducible repeat (first | refine blk_drewN ?_ _ | refine blk_drew ?_ | refine blk_alloc ?_ _)); exact BK323.out) hb); have n2_ := Aside0.mk (blk_below (g := gb324) (o := .cells #[.int .i64 a1_0, .int .u8 a1_1, .int .i64 a1_2, .int .i64 a1_3, .bool a1_4, .bool a1_5] 25 (0, 0)) (by (with_reducible repeat (first | refine blk_drewN ?_ _ | refine blk_drew ?_ | refine blk_alloc ?_ _)); exact BK324.out) hb); have n3_ := Aside0.mk (blk_below (g := gb325) (o := .cells #[.int .u8 0, .int .i64 0, .int .i64 0, .int .i64 0, .int .i64 0, .int .i64 0, .bool false, .slice none 0 0, .int .i64 0, .int .i64 0, .int .i64 0, .int .i64 0, .int .i64 0] 31 (0, 0)) (by (with_reducible repeat (first | refine blk_drewN ?_ _ | refine blk_drew ?_ | refine blk_alloc ?_ _)); exact BK325.out) hb); have n4_ := Aside0.mk (below_step (by repeat (first | (with_reducible first | exact HB.out | apply below_alloc | apply pw_below_drewN | apply below_drew1 | refine below_set ?_ GE323.out | refine below_set ?_ GE324.out | refine below_set ?_ GE325.out) | exact HB.out)) hb); clear BK323; clear BK324; clear BK325; clear HB; have HO335 := n0_; have BK323 := n1_; have BK324 := n2_; have BK325 := n3_; have HB := n4_; clear n0_ n1_ n2_ n3_ n4_; (try clear hb); (try clear hb2); (try clear hk); (try clear hi); (try clear ho0); obtain ⟨hcz12_0, hcz12_1, hcz12_2, hcz12_3, hcz12_4, hcz12_5, hcz12_6, hcz12_7, hcz12_8, hcz12_9, hcz12_10, hcz12_11, hcz12_12⟩ := bc13 BK323.out; obtain ⟨hfz12_0, hfz12_1, hfz12_2, hfz12_3, hfz12_4, hfz12_5, hfz12_6, hfz12_7, hfz12_8, hfz12_9, hfz12_10, hfz12_11, hfz12_12⟩ := bf13 BK323.out; obtain ⟨Ao13, co13, eo13⟩ := Kd.R_slice HO335.out; subst eo13))
  go_loopg [19] k (fun kq v19 w' => ∃ (x19_1 : Int) (x324007_1 : List (S37)) (u324007 : Value), v19 = .int .i64 x19_1 ∧ Aside0 (account_Day.l0 kq a2 (t333.length : Int) x19_1 t326 t327 t328 t329 t330 t331 t332 x324007_1 t336 t337 t338 t339 t340 a1_0 a1_1 a1_2 a1_3 a1_4 a1_5 = some (r1, r2, r3, r4, r5, r6, r7, r8, r9, r10, r11, r12, r13, r14)) ∧ Aside0 (kq ≤ k) ∧ Aside0 (Kd.R k37 37 w' w.heap.size (fun _ => True) u324007 x324007_1) ∧ Aside0 (w'.heap[gb323]? = some (.cells #[.int .u8 t326, .int .i64 t327, .int .i64 t328, .int .i64 t329, .int .i64 t330, .int .i64 t331, .bool t332, u324007, .int .i64 t336, .int .i64 t337, .int .i64 t338, .int .i64 t339, .int .i64 t340] 31 (0, 0))) ∧ Aside0 (w'.heap[gb324]? = some (.cells #[.int .i64 a1_0, .int .u8 a1_1, .int .i64 a1_2, .int .i64 a1_3, .bool a1_4, .bool a1_5] 25 (0, 0))) ∧ Aside0 (w'.heap[gb325]? = some (.cells #[.int .u8 0, .int .i64 0, .int .i64 0, .int .i64 0, .int .i64 0, .int .i64 0, .bool false, (.slice none 0 0), .int .i64 0, .int .i64 0, .int .i64 0, .int .i64 0, .int .i64 0] 31 (0, 0))) ∧ Aside0 (Below w.heap.size w w'))
  case atStart => exact ⟨(0), (t333), (.slice Ao13 t333.length co13), (by first | rfl | (simp; done) | (simp [*]; done)), H', ⟨Nat.le_refl _⟩, ⟨by (with_reducible repeat (first | apply Kd.R_alloc | apply Kd.R_drewN | apply Kd.R_drew)); exact Kd.R_mono (Kd.R_step (Kd.R_types HO335.out BK323.out (by decide)) (fun _ hk _ => by (with_reducible repeat (first | refine (hst (g := gb323) hk.2 _ _).trans ?_ | refine (hdn _ _ _).trans ?_ | refine (hd1 _ _).trans ?_)); rfl)) (fun _ hk => trivial)⟩, ⟨by (with_reducible repeat (first | refine blk_drewN ?_ _ | refine blk_drew ?_ | refine blk_alloc ?_ _)); refine bp13 (.int .u8 a0_0) (.int .i64 a0_1) (.int .i64 a0_2) (.int .i64 a0_3) (.int .i64 a0_4) (.int .i64 a0_5) (.bool a0_6) (.slice A0_7 l0_7.length c0_7) (.int .i64 a0_8) (.int .i64 a0_9) (.int .i64 a0_10) (.int .i64 a0_11) (.int .i64 a0_12) ?_; (with_reducible repeat (first | refine blk_drewN ?_ _ | refine blk_drew ?_ | refine blk_alloc ?_ _)); exact BK323.out⟩, ⟨by (with_reducible repeat (first | refine blk_drewN ?_ _ | refine blk_drew ?_ | refine blk_alloc ?_ _ | refine blk_far ?_ NB324_323.out _)); exact BK324.out⟩, ⟨by (with_reducible repeat (first | refine blk_drewN ?_ _ | refine blk_drew ?_ | refine blk_alloc ?_ _ | refine blk_far ?_ NB325_323.out _)); exact BK325.out⟩, ⟨by repeat (first | (with_reducible first | exact HB.out | apply below_alloc | apply pw_below_drewN | apply below_drew1 | refine below_set ?_ GE323.out | refine below_set ?_ GE324.out | refine below_set ?_ GE325.out) | exact HB.out)⟩⟩
  case round =>
    clear H'
    try clear c1
    try clear c2
    try clear p2
    try clear c8
    try clear c9
    try clear c12
    try clear hcz10_0
    try clear hcz10_1
    try clear hcz10_10
    try clear hcz10_11
    try clear hcz10_12
    try clear hcz10_2
    try clear hcz10_3
    try clear hcz10_4
    try clear hcz10_5
    try clear hcz10_6
    try clear hcz10_7
    try clear hcz10_8
    try clear hcz10_9
    try clear hcz12_0
    try clear hcz12_1
    try clear hcz12_10
    try clear hcz12_11
    try clear hcz12_12
    try clear hcz12_2
    try clear hcz12_3
    try clear hcz12_4
    try clear hcz12_5
    try clear hcz12_6
    try clear hcz12_7
    try clear hcz12_8
    try clear hcz12_9
    try clear hfz10_0
    try clear hfz10_1
    try clear hfz10_10
    try clear hfz10_11
    try clear hfz10_12
    try clear hfz10_2
    try clear hfz10_3
    try clear hfz10_4
    try clear hfz10_5
    try clear hfz10_6
    try clear hfz10_7
    try clear hfz10_8
    try clear hfz10_9
    try clear hfz12_0
    try clear hfz12_1
    try clear hfz12_10
    try clear hfz12_11
    try clear hfz12_12
    try clear hfz12_2
    try clear hfz12_3
    try clear hfz12_4
    try clear hfz12_5
    try clear hfz12_6
    try clear hfz12_7
    try clear hfz12_8
    try clear hfz12_9
    (try clear HK1); (try clear HO_324007); (try clear BK323); (try clear BK324); (try clear BK325); (try clear HB); obtain ⟨x19_1, x324007_1, u324007, rfl, HA, HK1, HO_324007, BK323, BK324, BK325, HB⟩ := hrel
    cases gk with
    | zero => exact absurd HA.out (by simp [account_Day.l0])
    | succ k1 =>
      have H := HA.out
      clear HA
      simp only [account_Day.l0] at H
      by_cases c14 : x19_1 < (t333.length : Int)
      · rw [if_pos c14] at H
        have c14b0 : decide (x19_1 < (t333.length : Int)) = true := decide_eq_true c14
        clear c14
        by_cases c15 : 0 ≤ x19_1
        · rw [if_pos c15] at H
          have c15b0 : decide (0 ≤ x19_1) = true := decide_eq_true c15
          clear c15
          by_cases c16 : x19_1 < (x324007_1.length : Int)
          · rw [if_pos c16] at H
            have c16b0 : decide (x19_1 < (x324007_1.length : Int)) = true := decide_eq_true c16
            clear c16
            replace H := Option.bind_eq_some_iff.mp H
            obtain ⟨⟨t342, t343, t344, t345, t346, t347, t348, t349⟩, A170, H⟩ := H
            replace H : (account_Day.l0 k1 a2 (t333.length : Int) (wrap64 (x19_1 + 1)) t326 t327 t328 t329 t330 t331 t332 (x324007_1.set (x19_1 : Int).toNat (⟨t342, t343, t344, t345, t346, t347, t348, t349⟩ : S37)) t336 t337 t338 t339 t340 a1_0 a1_1 a1_2 a1_3 a1_4 a1_5) = some (r1, r2, r3, r4, r5, r6, r7, r8, r9, r10, r11, r12, r13, r14) := H
            have A17 := Aside0.mk A170
            clear A170
            obtain ⟨y350, hy350⟩ : ∃ y_ : List (S37), y_ = (x324007_1.set (x19_1 : Int).toNat (⟨t342, t343, t344, t345, t346, t347, t348, t349⟩ : S37)) := ⟨_, rfl⟩
            replace H : (account_Day.l0 k1 a2 (t333.length : Int) (wrap64 (x19_1 + 1)) t326 t327 t328 t329 t330 t331 t332 y350 t336 t337 t338 t339 t340 a1_0 a1_1 a1_2 a1_3 a1_4 a1_5) = some (r1, r2, r3, r4, r5, r6, r7, r8, r9, r10, r11, r12, r13, r14) := by first | (rw [hy350]; with_reducible exact H) | (have H2_ := (Option.bind_some _ _).symm.trans H; rw [hy350]; with_reducible exact H2_) | (have H2_ := (Option.bind_some _ _).symm.trans H; with_reducible exact H2_) | with_reducible exact H | (rw [hy350]; exact H) | exact H
            have Ny350 := Aside0.mk hy350
            clear hy350
            have H' := Aside0.mk H
            clear H
            try go_wp2
            have n0_ := Aside0.mk (Kd.R_drew HO_324007.out)
            have n1_ := Aside0.mk (blk_drew BK323.out)
            have n2_ := Aside0.mk (blk_drew BK324.out)
            have n3_ := Aside0.mk (blk_drew BK325.out)
            have n4_ := Aside0.mk (below_drew1 HB.out)
            clear HO_324007
            clear BK323
            clear BK324
            clear BK325
            clear HB
            have HO_324007 := n0_
            have BK323 := n1_
            have BK324 := n2_
            have BK325 := n3_
            have HB := n4_
            clear n0_ n1_ n2_ n3_ n4_
            obtain ⟨Ao20, co20, eo20⟩ := Kd.R_slice HO_324007.out
            (first | subst eo20 | (injection eo20 with f1_ f2_ f3_; have f4_ := f1_.symm; have f5_ := f3_.symm; clear f1_ f2_ f3_; subst f4_; subst f5_))
            have p341 : 0 ≤ (x19_1 : Int) := of_decide_eq_true (by first | (with_reducible assumption) | assumption)
            have q341 : x19_1 < (x324007_1.length : Int) := of_decide_eq_true (by first | (with_reducible assumption) | assumption)
            obtain ⟨ad341, e341, hx341_0, hx341_1, hx341_2, hx341_3, hx341_4, hx341_5, hx341_6, hx341_7⟩ := at_T37 (Kd.R_reads' HO_324007.out).2.2 x19_1 p341 q341
            cases e341
            replace p341 := eq_true p341
            replace q341 := eq_true q341
            refine start_ (n := 12) (S := fun w' => w'.cell? ⟨gb323, 0, none⟩ = some (.int .u8 t326) ∧ w'.cell? ⟨gb323, 1, none⟩ = some (.int .i64 t327) ∧ w'.cell? ⟨gb323, 2, none⟩ = some (.int .i64 t328) ∧ w'.cell? ⟨gb323, 3, none⟩ = some (.int .i64 t329) ∧ w'.cell? ⟨gb323, 4, none⟩ = some (.int .i64 t330) ∧ w'.cell? ⟨gb323, 5, none⟩ = some (.int .i64 t331) ∧ w'.cell? ⟨gb323, 6, none⟩ = some (.bool t332) ∧ w'.cell? ⟨gb323, 7, none⟩ = some (.slice (some ad341) x324007_1.length co20) ∧ w'.cell? ⟨gb323, 8, none⟩ = some (.int .i64 t336) ∧ w'.cell? ⟨gb323, 9, none⟩ = some (.int .i64 t337) ∧ w'.cell? ⟨gb323, 10, none⟩ = some (.int .i64 t338) ∧ w'.cell? ⟨gb323, 11, none⟩ = some (.int .i64 t339) ∧ w'.cell? ⟨gb323, 12, none⟩ = some (.int .i64 t340) ∧ w'.cell? (ad341.add ((x19_1).toNat * 8)) = some (.int .i64 ((rd_T37 x324007_1 x19_1).f0)) ∧ w'.cell? ⟨(ad341.add ((x19_1).toNat * 8)).block, (ad341.add ((x19_1).toNat * 8)).off + 1, none⟩ = some (.int .i64 ((rd_T37 x324007_1 x19_1).f1)) ∧ w'.cell? ⟨(ad341.add ((x19_1).toNat * 8)).block, (ad341.add ((x19_1).toNat * 8)).off + 2, none⟩ = some (.int .u8 ((rd_T37 x324007_1 x19_1).f2)) ∧ w'.cell? ⟨(ad341.add ((x19_1).toNat * 8)).block, (ad341.add ((x19_1).toNat * 8)).off + 3, none⟩ = some (.int .i64 ((rd_T37 x324007_1 x19_1).f3)) ∧ w'.cell? ⟨(ad341.add ((x19_1).toNat * 8)).block, (ad341.add ((x19_1).toNat * 8)).off + 4, none⟩ = some (.int .i64 ((rd_T37 x324007_1 x19_1).f4)) ∧ w'.cell? ⟨(ad341.add ((x19_1).toNat * 8)).block, (ad341.add ((x19_1).toNat * 8)).off + 5, none⟩ = some (.int .i64 ((rd_T37 x324007_1 x19_1).f5)) ∧ w'.cell? ⟨(ad341.add ((x19_1).toNat * 8)).block, (ad341.add ((x19_1).toNat * 8)).off + 6, none⟩ = some (.int .i64 ((rd_T37 x324007_1 x19_1).f6)) ∧ w'.cell? ⟨(ad341.add ((x19_1).toNat * 8)).block, (ad341.add ((x19_1).toNat * 8)).off + 7, none⟩ = some (.bool ((rd_T37 x324007_1 x19_1).f7))) (ds := [11]) #[false, false, false, false, false, false, false, false, false, false, false, false] (by kernel_rfl) rfl rfl ⟨(blk_cell BK323.out 0).trans rfl, (blk_cell BK323.out 1).trans rfl, (blk_cell BK323.out 2).trans rfl, (blk_cell BK323.out 3).trans rfl, (blk_cell BK323.out 4).trans rfl, (blk_cell BK323.out 5).trans rfl, (blk_cell BK323.out 6).trans rfl, (blk_cell BK323.out 7).trans rfl, (blk_cell BK323.out 8).trans rfl, (blk_cell BK323.out 9).trans rfl, (blk_cell BK323.out 10).trans rfl, (blk_cell BK323.out 11).trans rfl, (blk_cell BK323.out 12).trans rfl, hx341_0, hx341_1, hx341_2, hx341_3, hx341_4, hx341_5, hx341_6, hx341_7⟩ (fun hHeld => ?_); refine with_tabW account_Day.tab5 account_Day.bits5 (fun HT_ HW_ => ?_)
            generalize wr.drew = w19 at HO_324007 BK323 BK324 BK325 HB hx341_0 hx341_1 hx341_2 hx341_3 hx341_4 hx341_5 hx341_6 hx341_7 hHeld ⊢
            refine pure_ (i := 0) (N := some 22) (v := ?_) (a' := ?_) #[true, false, false, false, false, false, false, false, false, false, false, false] rfl rfl (any_of HT_.out (by kernel_rfl)) (fun _ _ _ h => h) (Or.inl ⟨by rfl, ?_⟩) ?_ ?_
            rotate_left
            · intro w'
              go_simp
              with_reducible rfl
            rotate_left
            · simp only [Act.put, List.setIfInBounds_toArray, List.set_cons_zero, List.set_cons_succ, i64_w, i32_w]
              rfl
            refine pure_ (i := 2) (N := some 24) (v := ?_) (a' := ?_) #[true, false, true, false, false, false, false, false, false, false, false, false] rfl rfl (any_of HT_.out (by kernel_rfl)) (fun _ _ _ h => h) (Or.inl ⟨by rfl, ?_⟩) ?_ ?_
            rotate_left
            · intro w'
              go_simp
              with_reducible rfl
            rotate_left
            · simp only [Act.put, List.setIfInBounds_toArray, List.set_cons_zero, List.set_cons_succ, i64_w, i32_w]
              rfl
            refine pure_ (i := 3) (N := some 25) (v := ?_) (a' := ?_) #[true, false, true, true, false, false, false, false, false, false, false, false] rfl rfl (any_of HT_.out (by kernel_rfl)) (fun _ _ _ h => h) (Or.inl ⟨by rfl, ?_⟩) ?_ ?_
            rotate_left
            · intro w'
              go_simp
              with_reducible rfl
            rotate_left
            · simp only [Act.put, List.setIfInBounds_toArray, List.set_cons_zero, List.set_cons_succ, i64_w, i32_w]
              rfl
            refine pure_ (i := 5) (N := some 27) (v := ?_) (a' := ?_) #[true, false, true, true, false, true, false, false, false, false, false, false] rfl rfl (any_of HT_.out (by kernel_rfl)) (fun _ _ _ h => h) (Or.inl ⟨by rfl, ?_⟩) ?_ ?_
            rotate_left
            · intro w'
              go_simp
              with_reducible rfl
            rotate_left
            · simp only [Act.put, List.setIfInBounds_toArray, List.set_cons_zero, List.set_cons_succ, i64_w, i32_w]
              rfl
            refine pure_ (i := 8) (N := some 30) (v := ?_) (a' := ?_) #[true, false, true, true, false, true, false, false, true, false, false, false] rfl rfl (any_of HT_.out (by kernel_rfl)) (fun _ _ _ h => h) (Or.inl ⟨by rfl, ?_⟩) ?_ ?_
            rotate_left
            · intro w'
              go_simp
              with_reducible rfl
            rotate_left
            · simp only [Act.put, List.setIfInBounds_toArray, List.set_cons_zero, List.set_cons_succ, i64_w, i32_w]
              rfl
            refine take_ (i := 1) (N := some 23) (v := ?_) (a' := ?_) #[true, true, true, true, false, true, false, false, true, false, false, false] rfl rfl (take_ofW HT_.out HW_.out (by kernel_rfl)) (fun _ _ _ h => h) (Or.inl ⟨by rfl, ?_⟩) hHeld ?_ ?_
            rotate_left
            · rintro w' ⟨s0, s1, s2, s3, s4, s5, s6, s7, s8, s9, s10, s11, s12, s13, s14, s15, s16, s17, s18, s19, s20⟩
              go_simp
              with_reducible rfl
            rotate_left
            · simp only [Act.put, List.setIfInBounds_toArray, List.set_cons_zero, List.set_cons_succ, i64_w, i32_w]
              rfl
            refine take_ (i := 4) (N := some 26) (v := ?_) (a' := ?_) #[true, true, true, true, true, true, false, false, true, false, false, false] rfl rfl (take_ofW HT_.out HW_.out (by kernel_rfl)) (fun _ _ _ h => h) (Or.inl ⟨by rfl, ?_⟩) hHeld ?_ ?_
            rotate_left
            · rintro w' ⟨s0, s1, s2, s3, s4, s5, s6, s7, s8, s9, s10, s11, s12, s13, s14, s15, s16, s17, s18, s19, s20⟩
              go_simp
              with_reducible rfl
            rotate_left
            · simp only [Act.put, List.setIfInBounds_toArray, List.set_cons_zero, List.set_cons_succ, i64_w, i32_w]
              rfl
            refine pure_ (i := 6) (N := some 28) (v := ?_) (a' := ?_) #[true, true, true, true, true, true, true, false, true, false, false, false] rfl rfl (any_of HT_.out (by kernel_rfl)) (fun _ _ _ h => h) (Or.inl ⟨by rfl, ?_⟩) ?_ ?_
            rotate_left
            · intro w'
              go_simp
              with_reducible rfl
            rotate_left
            · simp only [Act.put, List.setIfInBounds_toArray, List.set_cons_zero, List.set_cons_succ, i64_w, i32_w]
              rfl
            refine take_ (i := 7) (N := some 29) (v := ?_) (a' := ?_) #[true, true, true, true, true, true, true, true, true, false, false, false] rfl rfl (take_ofW HT_.out HW_.out (by kernel_rfl)) (fun _ _ _ h => h) (Or.inl ⟨by rfl, ?_⟩) hHeld ?_ ?_
            rotate_left
            · rintro w' ⟨s0, s1, s2, s3, s4, s5, s6, s7, s8, s9, s10, s11, s12, s13, s14, s15, s16, s17, s18, s19, s20⟩
              go_simp
              with_reducible rfl
            rotate_left
            · simp only [Act.put, List.setIfInBounds_toArray, List.set_cons_zero, List.set_cons_succ, i64_w, i32_w]
              rfl
            refine one_ (i := 9) (N := some 31) #[true, true, true, true, true, true, true, true, true, true, false, false] rfl rfl (one_of HT_.out (by kernel_rfl)) (by decide) (fun K hK => ?_)
            refine goes_ Try.func22 (by kernel_rfl) rfl #[.agg #[.int .i64 ((rd_T37 x324007_1 x19_1).f0), .int .i64 ((rd_T37 x324007_1 x19_1).f1), .int .u8 ((rd_T37 x324007_1 x19_1).f2), .int .i64 ((rd_T37 x324007_1 x19_1).f3), .int .i64 ((rd_T37 x324007_1 x19_1).f4), .int .i64 ((rd_T37 x324007_1 x19_1).f5), .int .i64 ((rd_T37 x324007_1 x19_1).f6), .bool ((rd_T37 x324007_1 x19_1).f7)], .int .i64 a2] (by rfl) rfl rfl (by (try simp only [List.map_toArray, List.map_cons, List.map_nil]); first | done | rfl | (simp only [List.length_drop, List.length_take]; rfl)) ?_
            with_reducible refine (cycle_Wake.calls ((rd_T37 x324007_1 x19_1).f0) ((rd_T37 x324007_1 x19_1).f1) ((rd_T37 x324007_1 x19_1).f2) ((rd_T37 x324007_1 x19_1).f3) ((rd_T37 x324007_1 x19_1).f4) ((rd_T37 x324007_1 x19_1).f5) ((rd_T37 x324007_1 x19_1).f6) ((rd_T37 x324007_1 x19_1).f7) a2 t342 t343 t344 t345 t346 t347 t348 t349 _ A17.out).mono ?_
            rintro e w21 ⟨rfl, hb⟩
            have HS13_ := (hb.cell (World.block_lt_of_cell? _ _ (hHeld.2.2.2.2.2.2.2.2.2.2.2.2.2.1))).trans (hHeld.2.2.2.2.2.2.2.2.2.2.2.2.2.1)
            have HS14_ := (hb.cell (World.block_lt_of_cell? _ _ (hHeld.2.2.2.2.2.2.2.2.2.2.2.2.2.2.1))).trans (hHeld.2.2.2.2.2.2.2.2.2.2.2.2.2.2.1)
            have HS15_ := (hb.cell (World.block_lt_of_cell? _ _ (hHeld.2.2.2.2.2.2.2.2.2.2.2.2.2.2.2.1))).trans (hHeld.2.2.2.2.2.2.2.2.2.2.2.2.2.2.2.1)
            have HS16_ := (hb.cell (World.block_lt_of_cell? _ _ (hHeld.2.2.2.2.2.2.2.2.2.2.2.2.2.2.2.2.1))).trans (hHeld.2.2.2.2.2.2.2.2.2.2.2.2.2.2.2.2.1)
            have HS17_ := (hb.cell (World.block_lt_of_cell? _ _ (hHeld.2.2.2.2.2.2.2.2.2.2.2.2.2.2.2.2.2.1))).trans (hHeld.2.2.2.2.2.2.2.2.2.2.2.2.2.2.2.2.2.1)
            have HS18_ := (hb.cell (World.block_lt_of_cell? _ _ (hHeld.2.2.2.2.2.2.2.2.2.2.2.2.2.2.2.2.2.2.1))).trans (hHeld.2.2.2.2.2.2.2.2.2.2.2.2.2.2.2.2.2.2.1)
            have HS19_ := (hb.cell (World.block_lt_of_cell? _ _ (hHeld.2.2.2.2.2.2.2.2.2.2.2.2.2.2.2.2.2.2.2.1))).trans (hHeld.2.2.2.2.2.2.2.2.2.2.2.2.2.2.2.2.2.2.2.1)
            have HS20_ := (hb.cell (World.block_lt_of_cell? _ _ (hHeld.2.2.2.2.2.2.2.2.2.2.2.2.2.2.2.2.2.2.2.2))).trans (hHeld.2.2.2.2.2.2.2.2.2.2.2.2.2.2.2.2.2.2.2.2)
            refine ⟨_, rfl, ?_⟩
            have n0_ := Aside0.mk (Kd.R_below (by (with_reducible repeat (first | apply Kd.R_alloc | apply Kd.R_drewN | apply Kd.R_drew)); exact HO_324007.out) hb)
            have n1_ := Aside0.mk (blk_below (g := gb323) (o := .cells #[.int .u8 t326, .int .i64 t327, .int .i64 t328, .int .i64 t329, .int .i64 t330, .int .i64 t331, .bool t332, .slice (some ad341) x324007_1.length co20, .int .i64 t336, .int .i64 t337, .int .i64 t338, .int .i64 t339, .int .i64 t340] 31 (0, 0)) (by (with_reducible repeat (first | refine blk_drewN ?_ _ | refine blk_drew ?_ | refine blk_alloc ?_ _)); exact BK323.out) hb)
            have n2_ := Aside0.mk (blk_below (g := gb324) (o := .cells #[.int .i64 a1_0, .int .u8 a1_1, .int .i64 a1_2, .int .i64 a1_3, .bool a1_4, .bool a1_5] 25 (0, 0)) (by (with_reducible repeat (first | refine blk_drewN ?_ _ | refine blk_drew ?_ | refine blk_alloc ?_ _)); exact BK324.out) hb)
            have n3_ := Aside0.mk (blk_below (g := gb325) (o := .cells #[.int .u8 0, .int .i64 0, .int .i64 0, .int .i64 0, .int .i64 0, .int .i64 0, .bool false, .slice none 0 0, .int .i64 0, .int .i64 0, .int .i64 0, .int .i64 0, .int .i64 0] 31 (0, 0)) (by (with_reducible repeat (first | refine blk_drewN ?_ _ | refine blk_drew ?_ | refine blk_alloc ?_ _)); exact BK325.out) hb)
            have n4_ := Aside0.mk (below_step (by repeat (first | (with_reducible first | exact HB.out | apply below_alloc | apply pw_below_drewN | apply below_drew1 | refine below_set ?_ GE323.out | refine below_set ?_ GE324.out | refine below_set ?_ GE325.out) | exact HB.out)) hb)
            clear HO_324007
            clear BK323
            clear BK324
            clear BK325
            clear HB
            have HO_324007 := n0_
            have BK323 := n1_
            have BK324 := n2_
            have BK325 := n3_
            have HB := n4_
            clear n0_ n1_ n2_ n3_ n4_
            (try clear hb)
            (try clear hb2)
            (try clear hk)
            (try clear hi)
            have p18 : 0 ≤ (x19_1 : Int) := of_decide_eq_true (by first | (with_reducible assumption) | assumption)
            have q18 : (x19_1 : Int) < ((x324007_1.length : Int) : Int) := of_decide_eq_true (by first | (with_reducible assumption) | assumption)
            obtain ⟨go18, co18, eo18, gb18, gl18, cl18, HG18⟩ := Kd.R_form HO_324007.out (by omega)
            (first | cases eo18 | (injection eo18 with ea_ en_ ec_; (first | subst ea_ | (injection ea_ with ea_; subst ea_)); subst ec_; clear en_))
            have GB18 := Aside0.mk gb18
            have GG18 := Aside0.mk HG18
            clear gb18 gl18 HG18
            (first | simp only [add_plain] at hx341_0 | skip)
            (first | simp only [add_plain] at hx341_1 | skip)
            (first | simp only [add_plain] at hx341_2 | skip)
            (first | simp only [add_plain] at hx341_3 | skip)
            (first | simp only [add_plain] at hx341_4 | skip)
            (first | simp only [add_plain] at hx341_5 | skip)
            (first | simp only [add_plain] at hx341_6 | skip)
            (first | simp only [add_plain] at hx341_7 | skip)
            obtain ⟨ce18, hcl18, hM18, hcc18, hfr18⟩ := Kd.R_elem HO_324007.out z37 (x19_1 : Int) p18 q18
            obtain rfl := k37_openM hM18
            have hx18_0 : World.cell? _ ⟨go18, (x19_1 : Int).toNat * 8, none⟩ = some (.int .i64 ((rd_T37 x324007_1 x19_1).f0)) := hcc18 0 _ rfl
            have hx18_1 : World.cell? _ ⟨go18, (x19_1 : Int).toNat * 8 + 1, none⟩ = some (.int .i64 ((rd_T37 x324007_1 x19_1).f1)) := hcc18 1 _ rfl
            have hx18_2 : World.cell? _ ⟨go18, (x19_1 : Int).toNat * 8 + 2, none⟩ = some (.int .u8 ((rd_T37 x324007_1 x19_1).f2)) := hcc18 2 _ rfl
            have hx18_3 : World.cell? _ ⟨go18, (x19_1 : Int).toNat * 8 + 3, none⟩ = some (.int .i64 ((rd_T37 x324007_1 x19_1).f3)) := hcc18 3 _ rfl
            have hx18_4 : World.cell? _ ⟨go18, (x19_1 : Int).toNat * 8 + 4, none⟩ = some (.int .i64 ((rd_T37 x324007_1 x19_1).f4)) := hcc18 4 _ rfl
            have hx18_5 : World.cell? _ ⟨go18, (x19_1 : Int).toNat * 8 + 5, none⟩ = some (.int .i64 ((rd_T37 x324007_1 x19_1).f5)) := hcc18 5 _ rfl
            have hx18_6 : World.cell? _ ⟨go18, (x19_1 : Int).toNat * 8 + 6, none⟩ = some (.int .i64 ((rd_T37 x324007_1 x19_1).f6)) := hcc18 6 _ rfl
            have hx18_7 : World.cell? _ ⟨go18, (x19_1 : Int).toNat * 8 + 7, none⟩ = some (.bool ((rd_T37 x324007_1 x19_1).f7)) := hcc18 7 _ rfl
            have hf18_0 : World.frozen? _ ⟨go18, (x19_1 : Int).toNat * 8, none⟩ = false := hfr18 0
            have hf18_1 : World.frozen? _ ⟨go18, (x19_1 : Int).toNat * 8 + 1, none⟩ = false := hfr18 1
            have hf18_2 : World.frozen? _ ⟨go18, (x19_1 : Int).toNat * 8 + 2, none⟩ = false := hfr18 2
            have hf18_3 : World.frozen? _ ⟨go18, (x19_1 : Int).toNat * 8 + 3, none⟩ = false := hfr18 3
            have hf18_4 : World.frozen? _ ⟨go18, (x19_1 : Int).toNat * 8 + 4, none⟩ = false := hfr18 4
            have hf18_5 : World.frozen? _ ⟨go18, (x19_1 : Int).toNat * 8 + 5, none⟩ = false := hfr18 5
            have hf18_6 : World.frozen? _ ⟨go18, (x19_1 : Int).toNat * 8 + 6, none⟩ = false := hfr18 6
            have hf18_7 : World.frozen? _ ⟨go18, (x19_1 : Int).toNat * 8 + 7, none⟩ = false := hfr18 7
            clear hcl18 hcc18 hfr18 hM18
            replace p18 := eq_true p18
            replace q18 := eq_true q18
            obtain ⟨ce22, hcl22, hM22, hcc22, hfr22⟩ := Kd.R_elem HO_324007.out z37 (x19_1 : Int) (of_decide_eq_true (by first | (with_reducible assumption) | assumption)) (by have h_ : (x19_1 : Int) < ((x324007_1.length : Int) : Int) := of_decide_eq_true (by first | (with_reducible assumption) | assumption); first | exact h_ | (have e_ := (Kd.R_reads' HO_324007.out).1; omega) | simpa using h_)
            obtain rfl := k37_openM hM22
            have HP22 := (Kd.R_seg HO_324007.out (x19_1 : Int) (of_decide_eq_true (by first | (with_reducible assumption) | assumption)) (by have h_ : (x19_1 : Int) < ((x324007_1.length : Int) : Int) := of_decide_eq_true (by first | (with_reducible assumption) | assumption); first | exact h_ | (have e_ := (Kd.R_reads' HO_324007.out).1; omega) | simpa using h_) (seg := [.int .i64 t342, .int .i64 t343, .int .u8 t344, .int .i64 t345, .int .i64 t346, .int .i64 t347, .int .i64 t348, .bool t349]) (j := 0) hcl22 hcc22 (show 8 ≤ 8 from by decide) (x' := (⟨t342, t343, t344, t345, t346, t347, t348, t349⟩ : S37)) (k37_mkM _ _ _ (⟨t342, t343, t344, t345, t346, t347, t348, t349⟩ : S37) ) (fun _ hk => hk)).1
            rw [← Ny350.out] at HP22
            have HQ22 := Aside0.mk HP22
            clear hcl22 hcc22 hfr22 hM22 HP22
            refine hK.out _ _ ⟨(blk_cell BK323.out 0).trans rfl, (blk_cell BK323.out 1).trans rfl, (blk_cell BK323.out 2).trans rfl, (blk_cell BK323.out 3).trans rfl, (blk_cell BK323.out 4).trans rfl, (blk_cell BK323.out 5).trans rfl, (blk_cell BK323.out 6).trans rfl, (blk_cell BK323.out 7).trans rfl, (blk_cell BK323.out 8).trans rfl, (blk_cell BK323.out 9).trans rfl, (blk_cell BK323.out 10).trans rfl, (blk_cell BK323.out 11).trans rfl, (blk_cell BK323.out 12).trans rfl, HS13_, HS14_, HS15_, HS16_, HS17_, HS18_, HS19_, HS20_⟩ (fun hHeld => ?_)
            clear hK K
            refine norm_ (a' := ?_) ?_ ?_
            rotate_left
            · show Act.put _ (some 31) _ = _
              simp only [Act.put, List.setIfInBounds_toArray, List.set_cons_zero, List.set_cons_succ, i64_w, i32_w]
              rfl
            refine pure_ (i := 10) (N := some 32) (v := ?_) (a' := ?_) #[true, true, true, true, true, true, true, true, true, true, true, false] rfl rfl (any_of HT_.out (by kernel_rfl)) (fun _ _ _ h => h) (Or.inl ⟨by rfl, ?_⟩) ?_ ?_
            rotate_left
            · intro w'
              go_simp
              with_reducible rfl
            rotate_left
            · simp only [Act.put, List.setIfInBounds_toArray, List.set_cons_zero, List.set_cons_succ, i64_w, i32_w]
              rfl
            refine last_ (i := 11) (N := none) #[true, true, true, true, true, true, true, true, true, true, true, true] rfl rfl (one_of HT_.out (by kernel_rfl)) (by decide) (fun K hK => ?_)
            refine skip_ (w1 := ?_) (by rfl) rfl ?_ ?_
            rotate_left
            · go_simp
              rfl
            refine hK.out _ _ ?_
            clear hK K
            refine done_ (done_of HT_.out (by kernel_rfl)) ?_
            try go_wp2
            go_roundg k1
            case measure => have := HK1.out; omega
            case rel => exact ⟨(wrap64 (x19_1 + 1)), (y350), (.slice (some ⟨go18, 0, none⟩) x324007_1.length co20), (by first | rfl | (simp; done) | (simp [*]; done)), H', ⟨by have := HK1.out; omega⟩, ⟨by (with_reducible repeat (first | apply Kd.R_alloc | apply Kd.R_drewN | apply Kd.R_drew)); exact HQ22.out⟩, ⟨by (with_reducible repeat (first | refine blk_drewN ?_ _ | refine blk_drew ?_ | refine blk_alloc ?_ _)); refine blk_far ?_ (by have h_ := Kd.R_ne HO_324007.out BK323.out (by decide); intro e_; exact h_ (by rw [e_]; rfl)) _; (with_reducible repeat (first | refine blk_drewN ?_ _ | refine blk_drew ?_ | refine blk_alloc ?_ _)); refine blk_far ?_ (by have h_ := Kd.R_ne HO_324007.out BK323.out (by decide); intro e_; exact h_ (by rw [e_]; rfl)) _; (with_reducible repeat (first | refine blk_drewN ?_ _ | refine blk_drew ?_ | refine blk_alloc ?_ _)); refine blk_far ?_ (by have h_ := Kd.R_ne HO_324007.out BK323.out (by decide); intro e_; exact h_ (by rw [e_]; rfl)) _; (with_reducible repeat (first | refine blk_drewN ?_ _ | refine blk_drew ?_ | refine blk_alloc ?_ _)); refine blk_far ?_ (by have h_ := Kd.R_ne HO_324007.out BK323.out (by decide); intro e_; exact h_ (by rw [e_]; rfl)) _; (with_reducible repeat (first | refine blk_drewN ?_ _ | refine blk_drew ?_ | refine blk_alloc ?_ _)); refine blk_far ?_ (by have h_ := Kd.R_ne HO_324007.out BK323.out (by decide); intro e_; exact h_ (by rw [e_]; rfl)) _; (with_reducible repeat (first | refine blk_drewN ?_ _ | refine blk_drew ?_ | refine blk_alloc ?_ _)); refine blk_far ?_ (by have h_ := Kd.R_ne HO_324007.out BK323.out (by decide); intro e_; exact h_ (by rw [e_]; rfl)) _; (with_reducible repeat (first | refine blk_drewN ?_ _ | refine blk_drew ?_ | refine blk_alloc ?_ _)); refine blk_far ?_ (by have h_ := Kd.R_ne HO_324007.out BK323.out (by decide); intro e_; exact h_ (by rw [e_]; rfl)) _; (with_reducible repeat (first | refine blk_drewN ?_ _ | refine blk_drew ?_ | refine blk_alloc ?_ _)); refine blk_far ?_ (by have h_ := Kd.R_ne HO_324007.out BK323.out (by decide); intro e_; exact h_ (by rw [e_]; rfl)) _; (with_reducible repeat (first | refine blk_drewN ?_ _ | refine blk_drew ?_ | refine blk_alloc ?_ _)); exact BK323.out⟩, ⟨by (with_reducible repeat (first | refine blk_drewN ?_ _ | refine blk_drew ?_ | refine blk_alloc ?_ _)); refine blk_far ?_ (by have h_ := Kd.R_ne HO_324007.out BK324.out (by decide); intro e_; exact h_ (by rw [e_]; rfl)) _; (with_reducible repeat (first | refine blk_drewN ?_ _ | refine blk_drew ?_ | refine blk_alloc ?_ _)); refine blk_far ?_ (by have h_ := Kd.R_ne HO_324007.out BK324.out (by decide); intro e_; exact h_ (by rw [e_]; rfl)) _; (with_reducible repeat (first | refine blk_drewN ?_ _ | refine blk_drew ?_ | refine blk_alloc ?_ _)); refine blk_far ?_ (by have h_ := Kd.R_ne HO_324007.out BK324.out (by decide); intro e_; exact h_ (by rw [e_]; rfl)) _; (with_reducible repeat (first | refine blk_drewN ?_ _ | refine blk_drew ?_ | refine blk_alloc ?_ _)); refine blk_far ?_ (by have h_ := Kd.R_ne HO_324007.out BK324.out (by decide); intro e_; exact h_ (by rw [e_]; rfl)) _; (with_reducible repeat (first | refine blk_drewN ?_ _ | refine blk_drew ?_ | refine blk_alloc ?_ _)); refine blk_far ?_ (by have h_ := Kd.R_ne HO_324007.out BK324.out (by decide); intro e_; exact h_ (by rw [e_]; rfl)) _; (with_reducible repeat (first | refine blk_drewN ?_ _ | refine blk_drew ?_ | refine blk_alloc ?_ _)); refine blk_far ?_ (by have h_ := Kd.R_ne HO_324007.out BK324.out (by decide); intro e_; exact h_ (by rw [e_]; rfl)) _; (with_reducible repeat (first | refine blk_drewN ?_ _ | refine blk_drew ?_ | refine blk_alloc ?_ _)); refine blk_far ?_ (by have h_ := Kd.R_ne HO_324007.out BK324.out (by decide); intro e_; exact h_ (by rw [e_]; rfl)) _; (with_reducible repeat (first | refine blk_drewN ?_ _ | refine blk_drew ?_ | refine blk_alloc ?_ _)); refine blk_far ?_ (by have h_ := Kd.R_ne HO_324007.out BK324.out (by decide); intro e_; exact h_ (by rw [e_]; rfl)) _; (with_reducible repeat (first | refine blk_drewN ?_ _ | refine blk_drew ?_ | refine blk_alloc ?_ _)); exact BK324.out⟩, ⟨by (with_reducible repeat (first | refine blk_drewN ?_ _ | refine blk_drew ?_ | refine blk_alloc ?_ _)); refine blk_far ?_ (by have h_ := Kd.R_ne HO_324007.out BK325.out (by decide); intro e_; exact h_ (by rw [e_]; rfl)) _; (with_reducible repeat (first | refine blk_drewN ?_ _ | refine blk_drew ?_ | refine blk_alloc ?_ _)); refine blk_far ?_ (by have h_ := Kd.R_ne HO_324007.out BK325.out (by decide); intro e_; exact h_ (by rw [e_]; rfl)) _; (with_reducible repeat (first | refine blk_drewN ?_ _ | refine blk_drew ?_ | refine blk_alloc ?_ _)); refine blk_far ?_ (by have h_ := Kd.R_ne HO_324007.out BK325.out (by decide); intro e_; exact h_ (by rw [e_]; rfl)) _; (with_reducible repeat (first | refine blk_drewN ?_ _ | refine blk_drew ?_ | refine blk_alloc ?_ _)); refine blk_far ?_ (by have h_ := Kd.R_ne HO_324007.out BK325.out (by decide); intro e_; exact h_ (by rw [e_]; rfl)) _; (with_reducible repeat (first | refine blk_drewN ?_ _ | refine blk_drew ?_ | refine blk_alloc ?_ _)); refine blk_far ?_ (by have h_ := Kd.R_ne HO_324007.out BK325.out (by decide); intro e_; exact h_ (by rw [e_]; rfl)) _; (with_reducible repeat (first | refine blk_drewN ?_ _ | refine blk_drew ?_ | refine blk_alloc ?_ _)); refine blk_far ?_ (by have h_ := Kd.R_ne HO_324007.out BK325.out (by decide); intro e_; exact h_ (by rw [e_]; rfl)) _; (with_reducible repeat (first | refine blk_drewN ?_ _ | refine blk_drew ?_ | refine blk_alloc ?_ _)); refine blk_far ?_ (by have h_ := Kd.R_ne HO_324007.out BK325.out (by decide); intro e_; exact h_ (by rw [e_]; rfl)) _; (with_reducible repeat (first | refine blk_drewN ?_ _ | refine blk_drew ?_ | refine blk_alloc ?_ _)); refine blk_far ?_ (by have h_ := Kd.R_ne HO_324007.out BK325.out (by decide); intro e_; exact h_ (by rw [e_]; rfl)) _; (with_reducible repeat (first | refine blk_drewN ?_ _ | refine blk_drew ?_ | refine blk_alloc ?_ _)); exact BK325.out⟩, ⟨by repeat (first | (with_reducible first | exact HB.out | apply below_alloc | apply pw_below_drewN | apply below_drew1 | refine below_set ?_ GB18.out | refine below_set ?_ GB18.out | refine below_set ?_ GB18.out | refine below_set ?_ GB18.out | refine below_set ?_ GB18.out | refine below_set ?_ GB18.out | refine below_set ?_ GB18.out | refine below_set ?_ GB18.out | refine below_set ?_ GE323.out | refine below_set ?_ GE324.out | refine below_set ?_ GE325.out) | exact HB.out)⟩⟩
          · rw [if_neg c16] at H
            exact absurd H (by simp)
        · rw [if_neg c15] at H
          exact absurd H (by simp)
      · rw [if_neg c14] at H
        have c14b0 : decide (x19_1 < (t333.length : Int)) = false := decide_eq_false c14
        clear c14
        have H' := Aside0.mk H
        clear H
        go_wp2
        go_loopg [] k1 (fun kq w' => ∃ (x324000_2 : Int) (x324001_2 : Int) (x324002_2 : Int) (x324003_2 : Int) (x324004_2 : Int) (x324005_2 : Int) (x324006_2 : Bool) (x324007_2 : List (S37)) (x324008_2 : Int) (x324009_2 : Int) (x324010_2 : Int) (x324011_2 : Int) (x324012_2 : Int) (x326000_2 : Int) (x326001_2 : Int) (x326002_2 : Int) (x326003_2 : Int) (x326004_2 : Int) (x326005_2 : Int) (x326006_2 : Bool) (x326008_2 : Int) (x326009_2 : Int) (x326010_2 : Int) (x326011_2 : Int) (x326012_2 : Int) (u324007 : Value), Aside0 (account_Day.l1 kq a2 x324000_2 x324001_2 x324002_2 x324003_2 x324004_2 x324005_2 x324006_2 x324007_2 x324008_2 x324009_2 x324010_2 x324011_2 x324012_2 a1_0 a1_1 a1_2 a1_3 a1_4 a1_5 = some (r1, r2, r3, r4, r5, r6, r7, r8, r9, r10, r11, r12, r13, r14)) ∧ Aside0 (kq ≤ k1) ∧ Aside0 (Kd.R k37 37 w' w.heap.size (fun _ => True) u324007 x324007_2) ∧ Aside0 (w'.heap[gb323]? = some (.cells #[.int .u8 x324000_2, .int .i64 x324001_2, .int .i64 x324002_2, .int .i64 x324003_2, .int .i64 x324004_2, .int .i64 x324005_2, .bool x324006_2, u324007, .int .i64 x324008_2, .int .i64 x324009_2, .int .i64 x324010_2, .int .i64 x324011_2, .int .i64 x324012_2] 31 (0, 0))) ∧ Aside0 (w'.heap[gb324]? = some (.cells #[.int .i64 a1_0, .int .u8 a1_1, .int .i64 a1_2, .int .i64 a1_3, .bool a1_4, .bool a1_5] 25 (0, 0))) ∧ Aside0 (w'.heap[gb325]? = some (.cells #[.int .u8 x326000_2, .int .i64 x326001_2, .int .i64 x326002_2, .int .i64 x326003_2, .int .i64 x326004_2, .int .i64 x326005_2, .bool x326006_2, (.slice none 0 0), .int .i64 x326008_2, .int .i64 x326009_2, .int .i64 x326010_2, .int .i64 x326011_2, .int .i64 x326012_2] 31 (0, 0))) ∧ Aside0 (Below w.heap.size w w'))
        case atStart => exact ⟨(t326), (t327), (t328), (t329), (t330), (t331), (t332), (x324007_1), (t336), (t337), (t338), (t339), (t340), (0), (0), (0), (0), (0), (0), (false), (0), (0), (0), (0), (0), (u324007), H', ⟨Nat.le_refl _⟩, ⟨by (with_reducible repeat (first | apply Kd.R_alloc | apply Kd.R_drewN | apply Kd.R_drew)); exact HO_324007.out⟩, ⟨by (with_reducible repeat (first | refine blk_drewN ?_ _ | refine blk_drew ?_ | refine blk_alloc ?_ _)); exact BK323.out⟩, ⟨by (with_reducible repeat (first | refine blk_drewN ?_ _ | refine blk_drew ?_ | refine blk_alloc ?_ _)); exact BK324.out⟩, ⟨by (with_reducible repeat (first | refine blk_drewN ?_ _ | refine blk_drew ?_ | refine blk_alloc ?_ _)); exact BK325.out⟩, ⟨by repeat (first | (with_reducible first | exact HB.out | apply below_alloc | apply pw_below_drewN | apply below_drew1 | refine below_set ?_ GE323.out | refine below_set ?_ GE324.out | refine below_set ?_ GE325.out) | exact HB.out)⟩⟩
        case round =>
          clear H'
          try clear c1
          try clear p1
          try clear q1
          try clear hx1
          try clear c2
          try clear p2
          try clear p3
          try clear q3
          try clear hx3
          try clear p6
          try clear c8
          try clear c9
          try clear c12
          try clear c14
          try clear c14b0
          try clear c15
          try clear c15b0
          try clear c16
          try clear c16b0
          try clear c18
          try clear p18
          try clear q18
          try clear hx18
          try clear hf18
          try clear c21
          try clear c22
          try clear hcz10_0
          try clear hcz10_1
          try clear hcz10_10
          try clear hcz10_11
          try clear hcz10_12
          try clear hcz10_2
          try clear hcz10_3
          try clear hcz10_4
          try clear hcz10_5
          try clear hcz10_6
          try clear hcz10_7
          try clear hcz10_8
          try clear hcz10_9
          try clear hcz12_0
          try clear hcz12_1
          try clear hcz12_10
          try clear hcz12_11
          try clear hcz12_12
          try clear hcz12_2
          try clear hcz12_3
          try clear hcz12_4
          try clear hcz12_5
          try clear hcz12_6
          try clear hcz12_7
          try clear hcz12_8
          try clear hcz12_9
          try clear hfz10_0
          try clear hfz10_1
          try clear hfz10_10
          try clear hfz10_11
          try clear hfz10_12
          try clear hfz10_2
          try clear hfz10_3
          try clear hfz10_4
          try clear hfz10_5
          try clear hfz10_6
          try clear hfz10_7
          try clear hfz10_8
          try clear hfz10_9
          try clear hfz12_0
          try clear hfz12_1
          try clear hfz12_10
          try clear hfz12_11
          try clear hfz12_12
          try clear hfz12_2
          try clear hfz12_3
          try clear hfz12_4
          try clear hfz12_5
          try clear hfz12_6
          try clear hfz12_7
          try clear hfz12_8
          try clear hfz12_9
          try clear hx18_0
          try clear hx18_1
          try clear hx18_2
          try clear hx18_3
          try clear hx18_4
          try clear hx18_5
          try clear hx18_6
          try clear hx18_7
          try clear hx341_0
          try clear hx341_1
          try clear hx341_2
          try clear hx341_3
          try clear hx341_4
          try clear hx341_5
          try clear hx341_6
          try clear hx341_7
          try clear p18
          try clear p2
          try clear p341
          try clear q18
          try clear q341
          (try clear HK2); (try clear HO_324007); (try clear BK323); (try clear BK324); (try clear BK325); (try clear HB); obtain ⟨x324000_2, x324001_2, x324002_2, x324003_2, x324004_2, x324005_2, x324006_2, x324007_2, x324008_2, x324009_2, x324010_2, x324011_2, x324012_2, x326000_2, x326001_2, x326002_2, x326003_2, x326004_2, x326005_2, x326006_2, x326008_2, x326009_2, x326010_2, x326011_2, x326012_2, u324007, HA, HK2, HO_324007, BK323, BK324, BK325, HB⟩ := hrel
          cases gk with
          | zero => exact absurd HA.out (by simp [account_Day.l1])
          | succ k2 =>
            have H := HA.out
            clear HA
            simp only [account_Day.l1] at H
            by_cases c23 : x324000_2 = 3
            · rw [if_pos c23] at H
              have c23b0 : (x324000_2 == 3) = true := beq_iff_eq.mpr c23
              have c23b1 : (x324000_2 != 3) = false := bne_eq_false_iff_eq.mpr c23
              clear c23
              simp only [Option.some.injEq, Prod.mk.injEq] at H
              obtain ⟨rfl, rfl, rfl, rfl, rfl, rfl, rfl, rfl, rfl, rfl, rfl, rfl, rfl, rfl⟩ := H
              have hnb24 := NB323_324.out
              have hnc24 := NB324_323.out
              have hnb25 := NB323_325.out
              have hnc25 := NB325_323.out
              obtain ⟨hcz26_0, hcz26_1, hcz26_2, hcz26_3, hcz26_4, hcz26_5, hcz26_6, hcz26_7, hcz26_8, hcz26_9, hcz26_10, hcz26_11, hcz26_12⟩ := bc13 BK323.out
              obtain ⟨hfz26_0, hfz26_1, hfz26_2, hfz26_3, hfz26_4, hfz26_5, hfz26_6, hfz26_7, hfz26_8, hfz26_9, hfz26_10, hfz26_11, hfz26_12⟩ := bf13 BK323.out
              have hnb27 := NB325_324.out
              have hnc27 := NB324_325.out
              obtain ⟨hcz28_0, hcz28_1, hcz28_2, hcz28_3, hcz28_4, hcz28_5, hcz28_6, hcz28_7, hcz28_8, hcz28_9, hcz28_10, hcz28_11, hcz28_12⟩ := bc13 BK325.out
              obtain ⟨hfz28_0, hfz28_1, hfz28_2, hfz28_3, hfz28_4, hfz28_5, hfz28_6, hfz28_7, hfz28_8, hfz28_9, hfz28_10, hfz28_11, hfz28_12⟩ := bf13 BK325.out
              obtain ⟨Ao29, co29, eo29⟩ := Kd.R_slice HO_324007.out
              subst eo29
              go_wp2
              refine bodyPost_ret (results_ct rfl _ _ gb325 31 #[.int .u8 x324000_2, .int .i64 x324001_2, .int .i64 x324002_2, .int .i64 x324003_2, .int .i64 x324004_2, .int .i64 x324005_2, .bool x324006_2, .slice Ao29 x324007_2.length co29, .int .i64 x324008_2, .int .i64 x324009_2, .int .i64 x324010_2, .int .i64 x324011_2, .int .i64 x324012_2] (0, 0) _ rfl (by (with_reducible repeat (first | refine blk_drewN ?_ _ | refine blk_drew ?_ | refine blk_alloc ?_ _)); refine bp13 (.int .u8 x326000_2) (.int .i64 x326001_2) (.int .i64 x326002_2) (.int .i64 x326003_2) (.int .i64 x326004_2) (.int .i64 x326005_2) (.bool x326006_2) (.slice none 0 0) (.int .i64 x326008_2) (.int .i64 x326009_2) (.int .i64 x326010_2) (.int .i64 x326011_2) (.int .i64 x326012_2) ?_; (with_reducible repeat (first | refine blk_drewN ?_ _ | refine blk_drew ?_ | refine blk_alloc ?_ _)); exact BK325.out) Try.underlying31 rfl (by kernel_rfl)) rfl ?_
              exact ⟨_, by first | rfl | (simp [errW_none, errW_some] <;> rfl) | (simp [*, errW_none, errW_some] <;> rfl), by (with_reducible repeat (first | apply Kd.R_alloc | apply Kd.R_drewN | apply Kd.R_drew)); exact Kd.R_mono (Kd.R_step (Kd.R_types HO_324007.out BK325.out (by decide)) (fun _ hk _ => by (with_reducible repeat (first | refine (hst (g := gb325) hk.2 _ _).trans ?_ | refine (hdn _ _ _).trans ?_ | refine (hd1 _ _).trans ?_)); rfl)) (fun _ hk => trivial), by repeat (first | (with_reducible first | exact HB.out | apply below_alloc | apply pw_below_drewN | apply below_drew1 | refine below_set ?_ GE323.out | refine below_set ?_ GE324.out | refine below_set ?_ GE325.out) | exact HB.out)⟩
            · rw [if_neg c23] at H
              have c23b0 : (x324000_2 == 3) = false := beq_eq_false_iff_ne.mpr c23
              have c23b1 : (x324000_2 != 3) = true := bne_iff_ne.mpr c23
              replace H := Option.bind_eq_some_iff.mp H
              obtain ⟨⟨t351, t352⟩, A300, H⟩ := H
              replace H : (if t352 = true then (account_Day.j2 k2 a2 t351 (decide (t351 > a2)) x324000_2 x324001_2 x324002_2 x324003_2 x324004_2 x324005_2 x324006_2 x324007_2 x324008_2 x324009_2 x324010_2 x324011_2 x324012_2 a1_0 a1_1 a1_2 a1_3 a1_4 a1_5) else (account_Day.j2 k2 a2 t351 true x324000_2 x324001_2 x324002_2 x324003_2 x324004_2 x324005_2 x324006_2 x324007_2 x324008_2 x324009_2 x324010_2 x324011_2 x324012_2 a1_0 a1_1 a1_2 a1_3 a1_4 a1_5)) = some (r1, r2, r3, r4, r5, r6, r7, r8, r9, r10, r11, r12, r13, r14) := H
              have A30 := Aside0.mk A300
              clear A300
              have HC31 := Aside0.mk H
              clear H
              have hnb32 := NB323_324.out
              have hnc32 := NB324_323.out
              have hnb33 := NB323_325.out
              have hnc33 := NB325_323.out
              obtain ⟨hcz34_0, hcz34_1, hcz34_2, hcz34_3, hcz34_4, hcz34_5, hcz34_6, hcz34_7, hcz34_8, hcz34_9, hcz34_10, hcz34_11, hcz34_12⟩ := bc13 BK323.out
              obtain ⟨hfz34_0, hfz34_1, hfz34_2, hfz34_3, hfz34_4, hfz34_5, hfz34_6, hfz34_7, hfz34_8, hfz34_9, hfz34_10, hfz34_11, hfz34_12⟩ := bf13 BK323.out
              have hnb35 := NB324_325.out
              have hnc35 := NB325_324.out
              obtain ⟨hcz36_0, hcz36_1, hcz36_2, hcz36_3, hcz36_4, hcz36_5⟩ := bc6 BK324.out
              obtain ⟨hfz36_0, hfz36_1, hfz36_2, hfz36_3, hfz36_4, hfz36_5⟩ := bf6 BK324.out
              obtain ⟨Ao37, co37, eo37⟩ := Kd.R_slice HO_324007.out
              subst eo37
              go_upto_region 9 with (first | ((with_reducible refine gate_callee (f := 23) rfl ?_); refine goesL_ (some 40) rfl rfl Try.func23 (by kernel_rfl) rfl #[.agg #[.int .u8 x324000_2, .int .i64 x324001_2, .int .i64 x324002_2, .int .i64 x324003_2, .int .i64 x324004_2, .int .i64 x324005_2, .bool x324006_2, .slice Ao37 x324007_2.length co37, .int .i64 x324008_2, .int .i64 x324009_2, .int .i64 x324010_2, .int .i64 x324011_2, .int .i64 x324012_2], .agg #[.int .i64 a1_0, .int .u8 a1_1, .int .i64 a1_2, .int .i64 a1_3, .bool a1_4, .bool a1_5]] rfl (by (try simp only [List.map_toArray, List.map_cons, List.map_nil]); first | done | rfl | (simp only [List.length_drop, List.length_take]; rfl)) ?_; (with_reducible refine (account_due.calls k2 x324000_2 x324001_2 x324002_2 x324003_2 x324004_2 x324005_2 x324006_2 _ _ x324007_2 x324008_2 x324009_2 x324010_2 x324011_2 x324012_2 a1_0 a1_1 a1_2 a1_3 a1_4 a1_5 t351 t352 _ ?side1 ?side2 A30.out).mono ?_); (case side1 => repeat (first | exact (Kd.R_reads' HO_324007.out).2.2 | (with_reducible refine Kd.C_alloc ?_ _) | (with_reducible refine Kd.C_drewN ?_ _) | (with_reducible refine Kd.C_drew ?_))); (case side2 => exact (Kd.R_reads' HO_324007.out).2.1); rintro e w38 ⟨rfl, hb⟩; refine ⟨_, rfl, ?_⟩; have n0_ := Aside0.mk (Kd.R_below (by (with_reducible repeat (first | apply Kd.R_alloc | apply Kd.R_drewN | apply Kd.R_drew)); exact HO_324007.out) hb); have n1_ := Aside0.mk (blk_below (g := gb323) (o := .cells #[.int .u8 x324000_2, .int .i64 x324001_2, .int .i64 x324002_2, .int .i64 x324003_2, .int .i64 x324004_2, .int .i64 x324005_2, .bool x324006_2, .slice Ao37 x324007_2.length co37, .int .i64 x324008_2, .int .i64 x324009_2, .int .i64 x324010_2, .int .i64 x324011_2, .int .i64 x324012_2] 31 (0, 0)) (by (with_reducible repeat (first | refine blk_drewN ?_ _ | refine blk_drew ?_ | refine blk_alloc ?_ _)); exact BK323.out) hb); have n2_ := Aside0.mk (blk_below (g := gb324) (o := .cells #[.int .i64 a1_0, .int .u8 a1_1, .int .i64 a1_2, .int .i64 a1_3, .bool a1_4, .bool a1_5] 25 (0, 0)) (by (with_reducible repeat (first | refine blk_drewN ?_ _ | refine blk_drew ?_ | refine blk_alloc ?_ _)); exact BK324.out) hb); have n3_ := Aside0.mk (blk_below (g := gb325) (o := .cells #[.int .u8 x326000_2, .int .i64 x326001_2, .int .i64 x326002_2, .int .i64 x326003_2, .int .i64 x326004_2, .int .i64 x326005_2, .bool x326006_2, .slice none 0 0, .int .i64 x326008_2, .int .i64 x326009_2, .int .i64 x326010_2, .int .i64 x326011_2, .int .i64 x326012_2] 31 (0, 0)) (by (with_reducible repeat (first | refine blk_drewN ?_ _ | refine blk_drew ?_ | refine blk_alloc ?_ _)); exact BK325.out) hb); have n4_ := Aside0.mk (below_step (by repeat (first | (with_reducible first | exact HB.out | apply below_alloc | apply pw_below_drewN | apply below_drew1 | refine below_set ?_ GE323.out | refine below_set ?_ GE324.out | refine below_set ?_ GE325.out) | exact HB.out)) hb); clear HO_324007; clear BK323; clear BK324; clear BK325; clear HB; have HO_324007 := n0_; have BK323 := n1_; have BK324 := n2_; have BK325 := n3_; have HB := n4_; clear n0_ n1_ n2_ n3_ n4_; (try clear hb); (try clear hb2); (try clear hk); (try clear hi)))
              (try simp only [Act.put, List.setIfInBounds_toArray, List.set_cons_zero, List.set_cons_succ])
              go_cut [49] (fun v49 wc => ∃ (kq : Nat) (x49_30 : Bool), v49 = .bool x49_30 ∧ Aside0 (account_Day.j2 kq a2 t351 x49_30 x324000_2 x324001_2 x324002_2 x324003_2 x324004_2 x324005_2 x324006_2 x324007_2 x324008_2 x324009_2 x324010_2 x324011_2 x324012_2 a1_0 a1_1 a1_2 a1_3 a1_4 a1_5 = some (r1, r2, r3, r4, r5, r6, r7, r8, r9, r10, r11, r12, r13, r14)) ∧ Aside0 (kq ≤ k2) ∧ Aside0 (Kd.R k37 37 wc w.heap.size (fun _ => True) (.slice Ao37 x324007_2.length co37) x324007_2) ∧ Aside0 (wc.heap[gb323]? = some (.cells #[.int .u8 x324000_2, .int .i64 x324001_2, .int .i64 x324002_2, .int .i64 x324003_2, .int .i64 x324004_2, .int .i64 x324005_2, .bool x324006_2, (.slice Ao37 x324007_2.length co37), .int .i64 x324008_2, .int .i64 x324009_2, .int .i64 x324010_2, .int .i64 x324011_2, .int .i64 x324012_2] 31 (0, 0))) ∧ Aside0 (wc.heap[gb324]? = some (.cells #[.int .i64 a1_0, .int .u8 a1_1, .int .i64 a1_2, .int .i64 a1_3, .bool a1_4, .bool a1_5] 25 (0, 0))) ∧ Aside0 (wc.heap[gb325]? = some (.cells #[.int .u8 x326000_2, .int .i64 x326001_2, .int .i64 x326002_2, .int .i64 x326003_2, .int .i64 x326004_2, .int .i64 x326005_2, .bool x326006_2, (.slice none 0 0), .int .i64 x326008_2, .int .i64 x326009_2, .int .i64 x326010_2, .int .i64 x326011_2, .int .i64 x326012_2] 31 (0, 0))) ∧ Aside0 (Below w.heap.size w wc))
              case first =>
                have H := HC31.out
                clear HC31
                by_cases c39 : t352 = true
                · subst c39
                  have H1 : (account_Day.j2 k2 a2 t351 (decide (t351 > a2)) x324000_2 x324001_2 x324002_2 x324003_2 x324004_2 x324005_2 x324006_2 x324007_2 x324008_2 x324009_2 x324010_2 x324011_2 x324012_2 a1_0 a1_1 a1_2 a1_3 a1_4 a1_5) = some (r1, r2, r3, r4, r5, r6, r7, r8, r9, r10, r11, r12, r13, r14) := by rw [if_pos rfl] at H; exact H
                  clear H
                  have H := H1
                  clear H1
                  have H' := Aside0.mk H
                  clear H
                  go_wp2
                  go_meet
                  case rel => exact ⟨_, (decide (t351 > a2)), (by first | rfl | (simp; done) | (simp [*]; done)), H', ⟨by have := HK1.out; have := HK2.out; first | omega | exact Nat.le_refl _⟩, ⟨by (with_reducible repeat (first | apply Kd.R_alloc | apply Kd.R_drewN | apply Kd.R_drew)); exact HO_324007.out⟩, ⟨by (with_reducible repeat (first | refine blk_drewN ?_ _ | refine blk_drew ?_ | refine blk_alloc ?_ _)); exact BK323.out⟩, ⟨by (with_reducible repeat (first | refine blk_drewN ?_ _ | refine blk_drew ?_ | refine blk_alloc ?_ _)); exact BK324.out⟩, ⟨by (with_reducible repeat (first | refine blk_drewN ?_ _ | refine blk_drew ?_ | refine blk_alloc ?_ _)); exact BK325.out⟩, ⟨by repeat (first | (with_reducible first | exact HB.out | apply below_alloc | apply pw_below_drewN | apply below_drew1 | refine below_set ?_ GE323.out | refine below_set ?_ GE324.out | refine below_set ?_ GE325.out) | exact HB.out)⟩⟩
                · replace c39 := Bool.eq_false_iff.mpr c39
                  subst c39
                  have H1 : (account_Day.j2 k2 a2 t351 true x324000_2 x324001_2 x324002_2 x324003_2 x324004_2 x324005_2 x324006_2 x324007_2 x324008_2 x324009_2 x324010_2 x324011_2 x324012_2 a1_0 a1_1 a1_2 a1_3 a1_4 a1_5) = some (r1, r2, r3, r4, r5, r6, r7, r8, r9, r10, r11, r12, r13, r14) := by rw [if_neg (show ¬ (false = true) by decide)] at H; exact H
                  clear H
                  have H := H1
                  clear H1
                  have H' := Aside0.mk H
                  clear H
                  go_wp2
                  go_meet
                  case rel => exact ⟨_, (true), (by first | rfl | (simp; done) | (simp [*]; done)), H', ⟨by have := HK1.out; have := HK2.out; first | omega | exact Nat.le_refl _⟩, ⟨by (with_reducible repeat (first | apply Kd.R_alloc | apply Kd.R_drewN | apply Kd.R_drew)); exact HO_324007.out⟩, ⟨by (with_reducible repeat (first | refine blk_drewN ?_ _ | refine blk_drew ?_ | refine blk_alloc ?_ _)); exact BK323.out⟩, ⟨by (with_reducible repeat (first | refine blk_drewN ?_ _ | refine blk_drew ?_ | refine blk_alloc ?_ _)); exact BK324.out⟩, ⟨by (with_reducible repeat (first | refine blk_drewN ?_ _ | refine blk_drew ?_ | refine blk_alloc ?_ _)); exact BK325.out⟩, ⟨by repeat (first | (with_reducible first | exact HB.out | apply below_alloc | apply pw_below_drewN | apply below_drew1 | refine below_set ?_ GE323.out | refine below_set ?_ GE324.out | refine below_set ?_ GE325.out) | exact HB.out)⟩⟩
              case rest =>
                clear HC31
                try clear c1
                try clear p1
                try clear q1
                try clear hx1
                try clear c2
                try clear p2
                try clear c3
                try clear p3
                try clear q3
                try clear hx3
                try clear p6
                try clear c8
                try clear c9
                try clear c12
                try clear c14
                try clear c14b0
                try clear c15
                try clear c15b0
                try clear c16
                try clear c16b0
                try clear c18
                try clear p18
                try clear q18
                try clear hx18
                try clear hf18
                try clear c21
                try clear c22
                try clear c23
                try clear c23b0
                try clear c23b1
                try clear c24
                try clear c25
                try clear c27
                try clear c32
                try clear c33
                try clear p34
                try clear q34
                try clear hx34
                try clear c35
                try clear c39
                try clear hcz10_0
                try clear hcz10_1
                try clear hcz10_10
                try clear hcz10_11
                try clear hcz10_12
                try clear hcz10_2
                try clear hcz10_3
                try clear hcz10_4
                try clear hcz10_5
                try clear hcz10_6
                try clear hcz10_7
                try clear hcz10_8
                try clear hcz10_9
                try clear hcz12_0
                try clear hcz12_1
                try clear hcz12_10
                try clear hcz12_11
                try clear hcz12_12
                try clear hcz12_2
                try clear hcz12_3
                try clear hcz12_4
                try clear hcz12_5
                try clear hcz12_6
                try clear hcz12_7
                try clear hcz12_8
                try clear hcz12_9
                try clear hcz26_0
                try clear hcz26_1
                try clear hcz26_10
                try clear hcz26_11
                try clear hcz26_12
                try clear hcz26_2
                try clear hcz26_3
                try clear hcz26_4
                try clear hcz26_5
                try clear hcz26_6
                try clear hcz26_7
                try clear hcz26_8
                try clear hcz26_9
                try clear hcz28_0
                try clear hcz28_1
                try clear hcz28_10
                try clear hcz28_11
                try clear hcz28_12
                try clear hcz28_2
                try clear hcz28_3
                try clear hcz28_4
                try clear hcz28_5
                try clear hcz28_6
                try clear hcz28_7
                try clear hcz28_8
                try clear hcz28_9
                try clear hcz34_0
                try clear hcz34_1
                try clear hcz34_10
                try clear hcz34_11
                try clear hcz34_12
                try clear hcz34_2
                try clear hcz34_3
                try clear hcz34_4
                try clear hcz34_5
                try clear hcz34_6
                try clear hcz34_7
                try clear hcz34_8
                try clear hcz34_9
                try clear hcz36_0
                try clear hcz36_1
                try clear hcz36_2
                try clear hcz36_3
                try clear hcz36_4
                try clear hcz36_5
                try clear hfz10_0
                try clear hfz10_1
                try clear hfz10_10
                try clear hfz10_11
                try clear hfz10_12
                try clear hfz10_2
                try clear hfz10_3
                try clear hfz10_4
                try clear hfz10_5
                try clear hfz10_6
                try clear hfz10_7
                try clear hfz10_8
                try clear hfz10_9
                try clear hfz12_0
                try clear hfz12_1
                try clear hfz12_10
                try clear hfz12_11
                try clear hfz12_12
                try clear hfz12_2
                try clear hfz12_3
                try clear hfz12_4
                try clear hfz12_5
                try clear hfz12_6
                try clear hfz12_7
                try clear hfz12_8
                try clear hfz12_9
                try clear hfz26_0
                try clear hfz26_1
                try clear hfz26_10
                try clear hfz26_11
                try clear hfz26_12
                try clear hfz26_2
                try clear hfz26_3
                try clear hfz26_4
                try clear hfz26_5
                try clear hfz26_6
                try clear hfz26_7
                try clear hfz26_8
                try clear hfz26_9
                try clear hfz28_0
                try clear hfz28_1
                try clear hfz28_10
                try clear hfz28_11
                try clear hfz28_12
                try clear hfz28_2
                try clear hfz28_3
                try clear hfz28_4
                try clear hfz28_5
                try clear hfz28_6
                try clear hfz28_7
                try clear hfz28_8
                try clear hfz28_9
                try clear hfz34_0
                try clear hfz34_1
                try clear hfz34_10
                try clear hfz34_11
                try clear hfz34_12
                try clear hfz34_2
                try clear hfz34_3
                try clear hfz34_4
                try clear hfz34_5
                try clear hfz34_6
                try clear hfz34_7
                try clear hfz34_8
                try clear hfz34_9
                try clear hfz36_0
                try clear hfz36_1
                try clear hfz36_2
                try clear hfz36_3
                try clear hfz36_4
                try clear hfz36_5
                try clear hx18_0
                try clear hx18_1
                try clear hx18_2
                try clear hx18_3
                try clear hx18_4
                try clear hx18_5
                try clear hx18_6
                try clear hx18_7
                try clear hx341_0
                try clear hx341_1
                try clear hx341_2
                try clear hx341_3
                try clear hx341_4
                try clear hx341_5
                try clear hx341_6
                try clear hx341_7
                try clear p1
                try clear p18
                try clear p2
                try clear p3
                try clear p341
                try clear p6
                try clear q1
                try clear q18
                try clear q3
                try clear q341
                (try clear HO_324007); (try clear BK323); (try clear BK324); (try clear BK325); (try clear HB); obtain ⟨kq, x49_30, rfl, HA, HJ30, HO_324007, BK323, BK324, BK325, HB⟩ := hcut
                cases kq with
                | zero => exact absurd HA.out (by simp [account_Day.j2])
                | succ kj30 =>
                  have H := HA.out
                  clear HA
                  simp only [account_Day.j2] at H
                  by_cases c40 : x49_30 = true
                  · subst c40
                    have H1 : (some (x324000_2, x324001_2, x324002_2, x324003_2, x324004_2, x324005_2, x324006_2, x324007_2, x324008_2, x324009_2, x324010_2, x324011_2, x324012_2, 0)) = some (r1, r2, r3, r4, r5, r6, r7, r8, r9, r10, r11, r12, r13, r14) := by rw [if_pos rfl] at H; exact H
                    clear H
                    have H := H1
                    clear H1
                    simp only [Option.some.injEq, Prod.mk.injEq] at H
                    obtain ⟨rfl, rfl, rfl, rfl, rfl, rfl, rfl, rfl, rfl, rfl, rfl, rfl, rfl, rfl⟩ := H
                    have hnb41 := NB323_324.out
                    have hnc41 := NB324_323.out
                    have hnb42 := NB323_325.out
                    have hnc42 := NB325_323.out
                    obtain ⟨hcz43_0, hcz43_1, hcz43_2, hcz43_3, hcz43_4, hcz43_5, hcz43_6, hcz43_7, hcz43_8, hcz43_9, hcz43_10, hcz43_11, hcz43_12⟩ := bc13 BK323.out
                    obtain ⟨hfz43_0, hfz43_1, hfz43_2, hfz43_3, hfz43_4, hfz43_5, hfz43_6, hfz43_7, hfz43_8, hfz43_9, hfz43_10, hfz43_11, hfz43_12⟩ := bf13 BK323.out
                    have hnb44 := NB325_324.out
                    have hnc44 := NB324_325.out
                    obtain ⟨hcz45_0, hcz45_1, hcz45_2, hcz45_3, hcz45_4, hcz45_5, hcz45_6, hcz45_7, hcz45_8, hcz45_9, hcz45_10, hcz45_11, hcz45_12⟩ := bc13 BK325.out
                    obtain ⟨hfz45_0, hfz45_1, hfz45_2, hfz45_3, hfz45_4, hfz45_5, hfz45_6, hfz45_7, hfz45_8, hfz45_9, hfz45_10, hfz45_11, hfz45_12⟩ := bf13 BK325.out
                    go_wp2
                    refine bodyPost_ret (results_ct rfl _ _ gb325 31 #[.int .u8 x324000_2, .int .i64 x324001_2, .int .i64 x324002_2, .int .i64 x324003_2, .int .i64 x324004_2, .int .i64 x324005_2, .bool x324006_2, .slice Ao37 x324007_2.length co37, .int .i64 x324008_2, .int .i64 x324009_2, .int .i64 x324010_2, .int .i64 x324011_2, .int .i64 x324012_2] (0, 0) _ rfl (by (with_reducible repeat (first | refine blk_drewN ?_ _ | refine blk_drew ?_ | refine blk_alloc ?_ _)); refine bp13 (.int .u8 x326000_2) (.int .i64 x326001_2) (.int .i64 x326002_2) (.int .i64 x326003_2) (.int .i64 x326004_2) (.int .i64 x326005_2) (.bool x326006_2) (.slice none 0 0) (.int .i64 x326008_2) (.int .i64 x326009_2) (.int .i64 x326010_2) (.int .i64 x326011_2) (.int .i64 x326012_2) ?_; (with_reducible repeat (first | refine blk_drewN ?_ _ | refine blk_drew ?_ | refine blk_alloc ?_ _)); exact BK325.out) Try.underlying31 rfl (by kernel_rfl)) rfl ?_
                    exact ⟨_, by first | rfl | (simp [errW_none, errW_some] <;> rfl) | (simp [*, errW_none, errW_some] <;> rfl), by (with_reducible repeat (first | apply Kd.R_alloc | apply Kd.R_drewN | apply Kd.R_drew)); exact Kd.R_mono (Kd.R_step (Kd.R_types HO_324007.out BK325.out (by decide)) (fun _ hk _ => by (with_reducible repeat (first | refine (hst (g := gb325) hk.2 _ _).trans ?_ | refine (hdn _ _ _).trans ?_ | refine (hd1 _ _).trans ?_)); rfl)) (fun _ hk => trivial), by repeat (first | (with_reducible first | exact HB.out | apply below_alloc | apply pw_below_drewN | apply below_drew1 | refine below_set ?_ GE323.out | refine below_set ?_ GE324.out | refine below_set ?_ GE325.out) | exact HB.out)⟩
                  · replace c40 := Bool.eq_false_iff.mpr c40
                    subst c40
                    have H1 : ((account_due.f kj30 x324000_2 x324001_2 x324002_2 (wrap64 (x324003_2 + 1)) x324004_2 x324005_2 x324006_2 x324007_2 x324008_2 x324009_2 x324010_2 x324011_2 x324012_2 a1_0 a1_1 a1_2 a1_3 a1_4 a1_5).bind fun bt353 => (if a1_5 = true then (if bt353.2 = true then ((account_begin.f kj30 x324000_2 x324001_2 x324002_2 (wrap64 (x324003_2 + 1)) x324004_2 x324005_2 x324006_2 x324007_2 x324008_2 x324009_2 x324010_2 x324011_2 x324012_2 a1_0 a1_1 a1_2 a1_3 a1_4 a1_5 t351 (decide (bt353.1 ≤ a2))).bind fun bt355 => (if bt355.2.2.2.2.2.2.2.2.2.2.2.2.2 = 0 then (account_Day.l1 kj30 a2 bt355.1 bt355.2.1 bt355.2.2.1 bt355.2.2.2.1 bt355.2.2.2.2.1 bt355.2.2.2.2.2.1 bt355.2.2.2.2.2.2.1 bt355.2.2.2.2.2.2.2.1 bt355.2.2.2.2.2.2.2.2.1 bt355.2.2.2.2.2.2.2.2.2.1 bt355.2.2.2.2.2.2.2.2.2.2.1 bt355.2.2.2.2.2.2.2.2.2.2.2.1 bt355.2.2.2.2.2.2.2.2.2.2.2.2.1 a1_0 a1_1 a1_2 a1_3 a1_4 a1_5) else (none))) else ((account_begin.f kj30 x324000_2 x324001_2 x324002_2 (wrap64 (x324003_2 + 1)) x324004_2 x324005_2 x324006_2 x324007_2 x324008_2 x324009_2 x324010_2 x324011_2 x324012_2 a1_0 a1_1 a1_2 a1_3 a1_4 a1_5 t351 false).bind fun bt371 => (if bt371.2.2.2.2.2.2.2.2.2.2.2.2.2 = 0 then (account_Day.l1 kj30 a2 bt371.1 bt371.2.1 bt371.2.2.1 bt371.2.2.2.1 bt371.2.2.2.2.1 bt371.2.2.2.2.2.1 bt371.2.2.2.2.2.2.1 bt371.2.2.2.2.2.2.2.1 bt371.2.2.2.2.2.2.2.2.1 bt371.2.2.2.2.2.2.2.2.2.1 bt371.2.2.2.2.2.2.2.2.2.2.1 bt371.2.2.2.2.2.2.2.2.2.2.2.1 bt371.2.2.2.2.2.2.2.2.2.2.2.2.1 a1_0 a1_1 a1_2 a1_3 a1_4 a1_5) else (none)))) else ((account_begin.f kj30 x324000_2 x324001_2 x324002_2 (wrap64 (x324003_2 + 1)) x324004_2 x324005_2 x324006_2 x324007_2 x324008_2 x324009_2 x324010_2 x324011_2 x324012_2 a1_0 a1_1 a1_2 a1_3 a1_4 a1_5 t351 false).bind fun bt387 => (if bt387.2.2.2.2.2.2.2.2.2.2.2.2.2 = 0 then (account_Day.l1 kj30 a2 bt387.1 bt387.2.1 bt387.2.2.1 bt387.2.2.2.1 bt387.2.2.2.2.1 bt387.2.2.2.2.2.1 bt387.2.2.2.2.2.2.1 bt387.2.2.2.2.2.2.2.1 bt387.2.2.2.2.2.2.2.2.1 bt387.2.2.2.2.2.2.2.2.2.1 bt387.2.2.2.2.2.2.2.2.2.2.1 bt387.2.2.2.2.2.2.2.2.2.2.2.1 bt387.2.2.2.2.2.2.2.2.2.2.2.2.1 a1_0 a1_1 a1_2 a1_3 a1_4 a1_5) else (none))))) = some (r1, r2, r3, r4, r5, r6, r7, r8, r9, r10, r11, r12, r13, r14) := by rw [if_neg (show ¬ (false = true) by decide)] at H; exact H
                    clear H
                    have H := H1
                    clear H1
                    replace H := Option.bind_eq_some_iff.mp H
                    obtain ⟨⟨t353, t354⟩, A460, H⟩ := H
                    replace H : (if a1_5 = true then (if t354 = true then ((account_begin.f kj30 x324000_2 x324001_2 x324002_2 (wrap64 (x324003_2 + 1)) x324004_2 x324005_2 x324006_2 x324007_2 x324008_2 x324009_2 x324010_2 x324011_2 x324012_2 a1_0 a1_1 a1_2 a1_3 a1_4 a1_5 t351 (decide (t353 ≤ a2))).bind fun bt355 => (if bt355.2.2.2.2.2.2.2.2.2.2.2.2.2 = 0 then (account_Day.l1 kj30 a2 bt355.1 bt355.2.1 bt355.2.2.1 bt355.2.2.2.1 bt355.2.2.2.2.1 bt355.2.2.2.2.2.1 bt355.2.2.2.2.2.2.1 bt355.2.2.2.2.2.2.2.1 bt355.2.2.2.2.2.2.2.2.1 bt355.2.2.2.2.2.2.2.2.2.1 bt355.2.2.2.2.2.2.2.2.2.2.1 bt355.2.2.2.2.2.2.2.2.2.2.2.1 bt355.2.2.2.2.2.2.2.2.2.2.2.2.1 a1_0 a1_1 a1_2 a1_3 a1_4 a1_5) else (none))) else ((account_begin.f kj30 x324000_2 x324001_2 x324002_2 (wrap64 (x324003_2 + 1)) x324004_2 x324005_2 x324006_2 x324007_2 x324008_2 x324009_2 x324010_2 x324011_2 x324012_2 a1_0 a1_1 a1_2 a1_3 a1_4 a1_5 t351 false).bind fun bt371 => (if bt371.2.2.2.2.2.2.2.2.2.2.2.2.2 = 0 then (account_Day.l1 kj30 a2 bt371.1 bt371.2.1 bt371.2.2.1 bt371.2.2.2.1 bt371.2.2.2.2.1 bt371.2.2.2.2.2.1 bt371.2.2.2.2.2.2.1 bt371.2.2.2.2.2.2.2.1 bt371.2.2.2.2.2.2.2.2.1 bt371.2.2.2.2.2.2.2.2.2.1 bt371.2.2.2.2.2.2.2.2.2.2.1 bt371.2.2.2.2.2.2.2.2.2.2.2.1 bt371.2.2.2.2.2.2.2.2.2.2.2.2.1 a1_0 a1_1 a1_2 a1_3 a1_4 a1_5) else (none)))) else ((account_begin.f kj30 x324000_2 x324001_2 x324002_2 (wrap64 (x324003_2 + 1)) x324004_2 x324005_2 x324006_2 x324007_2 x324008_2 x324009_2 x324010_2 x324011_2 x324012_2 a1_0 a1_1 a1_2 a1_3 a1_4 a1_5 t351 false).bind fun bt387 => (if bt387.2.2.2.2.2.2.2.2.2.2.2.2.2 = 0 then (account_Day.l1 kj30 a2 bt387.1 bt387.2.1 bt387.2.2.1 bt387.2.2.2.1 bt387.2.2.2.2.1 bt387.2.2.2.2.2.1 bt387.2.2.2.2.2.2.1 bt387.2.2.2.2.2.2.2.1 bt387.2.2.2.2.2.2.2.2.1 bt387.2.2.2.2.2.2.2.2.2.1 bt387.2.2.2.2.2.2.2.2.2.2.1 bt387.2.2.2.2.2.2.2.2.2.2.2.1 bt387.2.2.2.2.2.2.2.2.2.2.2.2.1 a1_0 a1_1 a1_2 a1_3 a1_4 a1_5) else (none)))) = some (r1, r2, r3, r4, r5, r6, r7, r8, r9, r10, r11, r12, r13, r14) := H
                    have A46 := Aside0.mk A460
                    clear A460
                    by_cases c47 : a1_5 = true
                    · subst c47
                      have H1 : (if t354 = true then ((account_begin.f kj30 x324000_2 x324001_2 x324002_2 (wrap64 (x324003_2 + 1)) x324004_2 x324005_2 x324006_2 x324007_2 x324008_2 x324009_2 x324010_2 x324011_2 x324012_2 a1_0 a1_1 a1_2 a1_3 a1_4 true t351 (decide (t353 ≤ a2))).bind fun bt355 => (if bt355.2.2.2.2.2.2.2.2.2.2.2.2.2 = 0 then (account_Day.l1 kj30 a2 bt355.1 bt355.2.1 bt355.2.2.1 bt355.2.2.2.1 bt355.2.2.2.2.1 bt355.2.2.2.2.2.1 bt355.2.2.2.2.2.2.1 bt355.2.2.2.2.2.2.2.1 bt355.2.2.2.2.2.2.2.2.1 bt355.2.2.2.2.2.2.2.2.2.1 bt355.2.2.2.2.2.2.2.2.2.2.1 bt355.2.2.2.2.2.2.2.2.2.2.2.1 bt355.2.2.2.2.2.2.2.2.2.2.2.2.1 a1_0 a1_1 a1_2 a1_3 a1_4 true) else (none))) else ((account_begin.f kj30 x324000_2 x324001_2 x324002_2 (wrap64 (x324003_2 + 1)) x324004_2 x324005_2 x324006_2 x324007_2 x324008_2 x324009_2 x324010_2 x324011_2 x324012_2 a1_0 a1_1 a1_2 a1_3 a1_4 true t351 false).bind fun bt371 => (if bt371.2.2.2.2.2.2.2.2.2.2.2.2.2 = 0 then (account_Day.l1 kj30 a2 bt371.1 bt371.2.1 bt371.2.2.1 bt371.2.2.2.1 bt371.2.2.2.2.1 bt371.2.2.2.2.2.1 bt371.2.2.2.2.2.2.1 bt371.2.2.2.2.2.2.2.1 bt371.2.2.2.2.2.2.2.2.1 bt371.2.2.2.2.2.2.2.2.2.1 bt371.2.2.2.2.2.2.2.2.2.2.1 bt371.2.2.2.2.2.2.2.2.2.2.2.1 bt371.2.2.2.2.2.2.2.2.2.2.2.2.1 a1_0 a1_1 a1_2 a1_3 a1_4 true) else (none)))) = some (r1, r2, r3, r4, r5, r6, r7, r8, r9, r10, r11, r12, r13, r14) := by rw [if_pos rfl] at H; exact H
                      clear H
                      have H := H1
                      clear H1
                      by_cases c48 : t354 = true
                      · subst c48
                        have H1 : ((account_begin.f kj30 x324000_2 x324001_2 x324002_2 (wrap64 (x324003_2 + 1)) x324004_2 x324005_2 x324006_2 x324007_2 x324008_2 x324009_2 x324010_2 x324011_2 x324012_2 a1_0 a1_1 a1_2 a1_3 a1_4 true t351 (decide (t353 ≤ a2))).bind fun bt355 => (if bt355.2.2.2.2.2.2.2.2.2.2.2.2.2 = 0 then (account_Day.l1 kj30 a2 bt355.1 bt355.2.1 bt355.2.2.1 bt355.2.2.2.1 bt355.2.2.2.2.1 bt355.2.2.2.2.2.1 bt355.2.2.2.2.2.2.1 bt355.2.2.2.2.2.2.2.1 bt355.2.2.2.2.2.2.2.2.1 bt355.2.2.2.2.2.2.2.2.2.1 bt355.2.2.2.2.2.2.2.2.2.2.1 bt355.2.2.2.2.2.2.2.2.2.2.2.1 bt355.2.2.2.2.2.2.2.2.2.2.2.2.1 a1_0 a1_1 a1_2 a1_3 a1_4 true) else (none))) = some (r1, r2, r3, r4, r5, r6, r7, r8, r9, r10, r11, r12, r13, r14) := by rw [if_pos rfl] at H; exact H
                        clear H
                        have H := H1
                        clear H1
                        replace H := Option.bind_eq_some_iff.mp H
                        obtain ⟨⟨t355, t356, t357, t358, t359, t360, t361, t362, t365, t366, t367, t368, t369, t370⟩, A490, H⟩ := H
                        replace H : (if t370 = 0 then (account_Day.l1 kj30 a2 t355 t356 t357 t358 t359 t360 t361 t362 t365 t366 t367 t368 t369 a1_0 a1_1 a1_2 a1_3 a1_4 true) else (none)) = some (r1, r2, r3, r4, r5, r6, r7, r8, r9, r10, r11, r12, r13, r14) := H
                        have A49 := Aside0.mk A490
                        clear A490
                        by_cases c50 : t370 = 0
                        · rw [if_pos c50] at H
                          have c50b0 : (t370 == 0) = true := beq_iff_eq.mpr c50
                          have c50b1 : (t370 != 0) = false := bne_eq_false_iff_eq.mpr c50
                          clear c50
                          have H' := Aside0.mk H
                          clear H
                          have hnb51 := NB323_324.out
                          have hnc51 := NB324_323.out
                          have hnb52 := NB323_325.out
                          have hnc52 := NB325_323.out
                          obtain ⟨hcz53_0, hcz53_1, hcz53_2, hcz53_3, hcz53_4, hcz53_5, hcz53_6, hcz53_7, hcz53_8, hcz53_9, hcz53_10, hcz53_11, hcz53_12⟩ := bc13 BK323.out
                          obtain ⟨hfz53_0, hfz53_1, hfz53_2, hfz53_3, hfz53_4, hfz53_5, hfz53_6, hfz53_7, hfz53_8, hfz53_9, hfz53_10, hfz53_11, hfz53_12⟩ := bf13 BK323.out
                          have hnb54 := NB324_325.out
                          have hnc54 := NB325_324.out
                          obtain ⟨hcz55_0, hcz55_1, hcz55_2, hcz55_3, hcz55_4, hcz55_5⟩ := bc6 BK324.out
                          obtain ⟨hfz55_0, hfz55_1, hfz55_2, hfz55_3, hfz55_4, hfz55_5⟩ := bf6 BK324.out
                          go_wp2_with (first | ((with_reducible refine gate_callee (f := 23) rfl ?_); refine goesL_ (some 57) rfl rfl Try.func23 (by kernel_rfl) rfl #[.agg #[.int .u8 x324000_2, .int .i64 x324001_2, .int .i64 x324002_2, .int .i64 (wrap64 (x324003_2 + 1)), .int .i64 x324004_2, .int .i64 x324005_2, .bool x324006_2, .slice Ao37 x324007_2.length co37, .int .i64 x324008_2, .int .i64 x324009_2, .int .i64 x324010_2, .int .i64 x324011_2, .int .i64 x324012_2], .agg #[.int .i64 a1_0, .int .u8 a1_1, .int .i64 a1_2, .int .i64 a1_3, .bool a1_4, .bool true]] rfl (by (try simp only [List.map_toArray, List.map_cons, List.map_nil]); first | done | rfl | (simp only [List.length_drop, List.length_take]; rfl)) ?_; (with_reducible refine (account_due.calls kj30 x324000_2 x324001_2 x324002_2 (wrap64 (x324003_2 + 1)) x324004_2 x324005_2 x324006_2 _ _ x324007_2 x324008_2 x324009_2 x324010_2 x324011_2 x324012_2 a1_0 a1_1 a1_2 a1_3 a1_4 true t353 true _ ?side1 ?side2 A46.out).mono ?_); (case side1 => refine (Kd.R_reads' (e := 37) (base := w.heap.size) (ok := fun k_ => True) (n := x324007_2.length) (c := co37) ?_).2.2; exact (by (with_reducible repeat (first | apply Kd.R_alloc | apply Kd.R_drewN | apply Kd.R_drew)); exact (Kd.R_mono (Kd.R_step (Kd.R_types HO_324007.out BK323.out (by decide)) (fun _ hk _ => by (with_reducible repeat (first | refine (hst (g := gb323) hk.2 _ _).trans ?_ | refine (hdn _ _ _).trans ?_ | refine (hd1 _ _).trans ?_)); rfl)) (fun _ h_ => h_.1)))); (case side2 => exact (Kd.R_reads' HO_324007.out).2.1); rintro e w56 ⟨rfl, hb⟩; refine ⟨_, rfl, ?_⟩; have n0_ := Aside0.mk (Kd.R_below (by (with_reducible repeat (first | apply Kd.R_alloc | apply Kd.R_drewN | apply Kd.R_drew)); exact (Kd.R_mono (Kd.R_step (Kd.R_types HO_324007.out BK323.out (by decide)) (fun _ hk _ => by (with_reducible repeat (first | refine (hst (g := gb323) hk.2 _ _).trans ?_ | refine (hdn _ _ _).trans ?_ | refine (hd1 _ _).trans ?_)); rfl)) (fun _ h_ => h_.1))) hb); have n1_ := Aside0.mk (blk_below (g := gb323) (o := .cells #[.int .u8 x324000_2, .int .i64 x324001_2, .int .i64 x324002_2, .int .i64 (wrap64 (x324003_2 + 1)), .int .i64 x324004_2, .int .i64 x324005_2, .bool x324006_2, .slice Ao37 x324007_2.length co37, .int .i64 x324008_2, .int .i64 x324009_2, .int .i64 x324010_2, .int .i64 x324011_2, .int .i64 x324012_2] 31 (0, 0)) (by (with_reducible repeat (first | refine blk_drewN ?_ _ | refine blk_drew ?_ | refine blk_alloc ?_ _)); refine blk_put (cs := #[.int .u8 x324000_2, .int .i64 x324001_2, .int .i64 x324002_2, .int .i64 x324003_2, .int .i64 x324004_2, .int .i64 x324005_2, .bool x324006_2, .slice Ao37 x324007_2.length co37, .int .i64 x324008_2, .int .i64 x324009_2, .int .i64 x324010_2, .int .i64 x324011_2, .int .i64 x324012_2]) ?_ 3 _ rfl; (with_reducible repeat (first | refine blk_drewN ?_ _ | refine blk_drew ?_ | refine blk_alloc ?_ _)); exact BK323.out) hb); have n2_ := Aside0.mk (blk_below (g := gb324) (o := .cells #[.int .i64 a1_0, .int .u8 a1_1, .int .i64 a1_2, .int .i64 a1_3, .bool a1_4, .bool true] 25 (0, 0)) (by (with_reducible repeat (first | refine blk_drewN ?_ _ | refine blk_drew ?_ | refine blk_alloc ?_ _)); refine blk_far ?_ NB324_323.out _; (with_reducible repeat (first | refine blk_drewN ?_ _ | refine blk_drew ?_ | refine blk_alloc ?_ _)); exact BK324.out) hb); have n3_ := Aside0.mk (blk_below (g := gb325) (o := .cells #[.int .u8 x326000_2, .int .i64 x326001_2, .int .i64 x326002_2, .int .i64 x326003_2, .int .i64 x326004_2, .int .i64 x326005_2, .bool x326006_2, .slice none 0 0, .int .i64 x326008_2, .int .i64 x326009_2, .int .i64 x326010_2, .int .i64 x326011_2, .int .i64 x326012_2] 31 (0, 0)) (by (with_reducible repeat (first | refine blk_drewN ?_ _ | refine blk_drew ?_ | refine blk_alloc ?_ _)); refine blk_far ?_ NB325_323.out _; (with_reducible repeat (first | refine blk_drewN ?_ _ | refine blk_drew ?_ | refine blk_alloc ?_ _)); exact BK325.out) hb); have n4_ := Aside0.mk (below_step (by repeat (first | (with_reducible first | exact HB.out | apply below_alloc | apply pw_below_drewN | apply below_drew1 | refine below_set ?_ GE323.out | refine below_set ?_ GE324.out | refine below_set ?_ GE325.out) | exact HB.out)) hb); clear HO_324007; clear BK323; clear BK324; clear BK325; clear HB; have HO_324007 := n0_; have BK323 := n1_; have BK324 := n2_; have BK325 := n3_; have HB := n4_; clear n0_ n1_ n2_ n3_ n4_; (try clear hb); (try clear hb2); (try clear hk); (try clear hi); obtain ⟨hcz57_0, hcz57_1, hcz57_2, hcz57_3, hcz57_4, hcz57_5, hcz57_6, hcz57_7, hcz57_8, hcz57_9, hcz57_10, hcz57_11, hcz57_12⟩ := bc13 BK323.out; obtain ⟨hfz57_0, hfz57_1, hfz57_2, hfz57_3, hfz57_4, hfz57_5, hfz57_6, hfz57_7, hfz57_8, hfz57_9, hfz57_10, hfz57_11, hfz57_12⟩ := bf13 BK323.out; obtain ⟨hcz58_0, hcz58_1, hcz58_2, hcz58_3, hcz58_4, hcz58_5⟩ := bc6 BK324.out; obtain ⟨hfz58_0, hfz58_1, hfz58_2, hfz58_3, hfz58_4, hfz58_5⟩ := bf6 BK324.out) | ((with_reducible refine gate_callee (f := 24) rfl ?_); refine goesL_ (some 74) rfl rfl Try.func24 (by kernel_rfl) rfl #[.agg #[.int .u8 x324000_2, .int .i64 x324001_2, .int .i64 x324002_2, .int .i64 (wrap64 (x324003_2 + 1)), .int .i64 x324004_2, .int .i64 x324005_2, .bool x324006_2, .slice Ao37 x324007_2.length co37, .int .i64 x324008_2, .int .i64 x324009_2, .int .i64 x324010_2, .int .i64 x324011_2, .int .i64 x324012_2], .agg #[.int .i64 a1_0, .int .u8 a1_1, .int .i64 a1_2, .int .i64 a1_3, .bool a1_4, .bool true], .int .i64 t351, .bool (decide (t353 ≤ a2))] rfl (by (try simp only [List.map_toArray, List.map_cons, List.map_nil]); first | done | rfl | (simp only [List.length_drop, List.length_take]; rfl)) ?_; (with_reducible refine (account_begin.calls kj30 x324000_2 x324001_2 x324002_2 (wrap64 (x324003_2 + 1)) x324004_2 x324005_2 x324006_2 (fun k_ => some k_ = (.slice Ao37 x324007_2.length co37 : Value).ownBlock) (.slice Ao37 x324007_2.length co37) x324007_2 x324008_2 x324009_2 x324010_2 x324011_2 x324012_2 a1_0 a1_1 a1_2 a1_3 a1_4 true t351 (decide (t353 ≤ a2)) t355 t356 t357 t358 t359 t360 t361 t362 t365 t366 t367 t368 t369 t370 w _ ?side1 ?side2 A49.out).mono ?_); (case side1 => repeat (first | (with_reducible first | exact HB.out | apply below_alloc | apply pw_below_drewN | apply below_drew1 | refine below_set ?_ GE323.out | refine below_set ?_ GE324.out | refine below_set ?_ GE325.out) | exact HB.out)); (case side2 => exact Kd.R_tight rfl HO_324007.out); rintro e w59 ⟨v363, rfl, ho0, hb, hkp⟩; refine ⟨_, rfl, ?_⟩; have n0_ := Aside0.mk (blk_kept (by (with_reducible repeat (first | refine blk_drewN ?_ _ | refine blk_drew ?_ | refine blk_alloc ?_ _)); exact BK323.out) hkp (fun hs_ => (fun e_ => (Kd.R_ne HO_324007.out BK323.out (by decide)) e_) hs_)); have n1_ := Aside0.mk (blk_kept (by (with_reducible repeat (first | refine blk_drewN ?_ _ | refine blk_drew ?_ | refine blk_alloc ?_ _)); exact BK324.out) hkp (fun hs_ => (fun e_ => (Kd.R_ne HO_324007.out BK324.out (by decide)) e_) hs_)); have n2_ := Aside0.mk (blk_kept (by (with_reducible repeat (first | refine blk_drewN ?_ _ | refine blk_drew ?_ | refine blk_alloc ?_ _)); exact BK325.out) hkp (fun hs_ => (fun e_ => (Kd.R_ne HO_324007.out BK325.out (by decide)) e_) hs_)); have n3_ := Aside0.mk (Kd.R_mono (ok' := fun k_ => True) ho0 (fun k_ hk_ => trivial)); have n4_ := Aside0.mk (hb); clear BK323; clear BK324; clear BK325; clear HB; clear HO_324007; have BK323 := n0_; have BK324 := n1_; have BK325 := n2_; have HO364 := n3_; have HB := n4_; clear n0_ n1_ n2_ n3_ n4_; (try clear hb); (try clear hkp); (try clear ho0); obtain ⟨hcz60_0, hcz60_1, hcz60_2, hcz60_3, hcz60_4, hcz60_5, hcz60_6, hcz60_7, hcz60_8, hcz60_9, hcz60_10, hcz60_11, hcz60_12⟩ := bc13 BK323.out; obtain ⟨hfz60_0, hfz60_1, hfz60_2, hfz60_3, hfz60_4, hfz60_5, hfz60_6, hfz60_7, hfz60_8, hfz60_9, hfz60_10, hfz60_11, hfz60_12⟩ := bf13 BK323.out; obtain ⟨Ao61, co61, eo61⟩ := Kd.R_slice HO364.out; subst eo61))
                          go_roundg kj30
                          case measure => have := HK1.out; have := HK2.out; have := HJ30.out; omega
                          case rel => exact ⟨(t355), (t356), (t357), (t358), (t359), (t360), (t361), (t362), (t365), (t366), (t367), (t368), (t369), (x326000_2), (x326001_2), (x326002_2), (x326003_2), (x326004_2), (x326005_2), (x326006_2), (x326008_2), (x326009_2), (x326010_2), (x326011_2), (x326012_2), (.slice Ao61 t362.length co61), H', ⟨by have := HK1.out; have := HK2.out; have := HJ30.out; omega⟩, ⟨by (with_reducible repeat (first | apply Kd.R_alloc | apply Kd.R_drewN | apply Kd.R_drew)); exact Kd.R_mono (Kd.R_step (Kd.R_types HO364.out BK323.out (by decide)) (fun _ hk _ => by (with_reducible repeat (first | refine (hst (g := gb323) hk.2 _ _).trans ?_ | refine (hdn _ _ _).trans ?_ | refine (hd1 _ _).trans ?_)); rfl)) (fun _ hk => trivial)⟩, ⟨by (with_reducible repeat (first | refine blk_drewN ?_ _ | refine blk_drew ?_ | refine blk_alloc ?_ _)); refine bp13 (.int .u8 x324000_2) (.int .i64 x324001_2) (.int .i64 x324002_2) (.int .i64 (wrap64 (x324003_2 + 1))) (.int .i64 x324004_2) (.int .i64 x324005_2) (.bool x324006_2) (.slice Ao37 x324007_2.length co37) (.int .i64 x324008_2) (.int .i64 x324009_2) (.int .i64 x324010_2) (.int .i64 x324011_2) (.int .i64 x324012_2) ?_; (with_reducible repeat (first | refine blk_drewN ?_ _ | refine blk_drew ?_ | refine blk_alloc ?_ _)); exact BK323.out⟩, ⟨by (with_reducible repeat (first | refine blk_drewN ?_ _ | refine blk_drew ?_ | refine blk_alloc ?_ _ | refine blk_far ?_ NB324_323.out _)); exact BK324.out⟩, ⟨by (with_reducible repeat (first | refine blk_drewN ?_ _ | refine blk_drew ?_ | refine blk_alloc ?_ _ | refine blk_far ?_ NB325_323.out _)); exact BK325.out⟩, ⟨by repeat (first | (with_reducible first | exact HB.out | apply below_alloc | apply pw_below_drewN | apply below_drew1 | refine below_set ?_ GE323.out | refine below_set ?_ GE324.out | refine below_set ?_ GE325.out) | exact HB.out)⟩⟩
                        · rw [if_neg c50] at H
                          exact absurd H (by simp)
                      · replace c48 := Bool.eq_false_iff.mpr c48
                        subst c48
                        have H1 : ((account_begin.f kj30 x324000_2 x324001_2 x324002_2 (wrap64 (x324003_2 + 1)) x324004_2 x324005_2 x324006_2 x324007_2 x324008_2 x324009_2 x324010_2 x324011_2 x324012_2 a1_0 a1_1 a1_2 a1_3 a1_4 true t351 false).bind fun bt371 => (if bt371.2.2.2.2.2.2.2.2.2.2.2.2.2 = 0 then (account_Day.l1 kj30 a2 bt371.1 bt371.2.1 bt371.2.2.1 bt371.2.2.2.1 bt371.2.2.2.2.1 bt371.2.2.2.2.2.1 bt371.2.2.2.2.2.2.1 bt371.2.2.2.2.2.2.2.1 bt371.2.2.2.2.2.2.2.2.1 bt371.2.2.2.2.2.2.2.2.2.1 bt371.2.2.2.2.2.2.2.2.2.2.1 bt371.2.2.2.2.2.2.2.2.2.2.2.1 bt371.2.2.2.2.2.2.2.2.2.2.2.2.1 a1_0 a1_1 a1_2 a1_3 a1_4 true) else (none))) = some (r1, r2, r3, r4, r5, r6, r7, r8, r9, r10, r11, r12, r13, r14) := by rw [if_neg (show ¬ (false = true) by decide)] at H; exact H
                        clear H
                        have H := H1
                        clear H1
                        replace H := Option.bind_eq_some_iff.mp H
                        obtain ⟨⟨t371, t372, t373, t374, t375, t376, t377, t378, t381, t382, t383, t384, t385, t386⟩, A620, H⟩ := H
                        replace H : (if t386 = 0 then (account_Day.l1 kj30 a2 t371 t372 t373 t374 t375 t376 t377 t378 t381 t382 t383 t384 t385 a1_0 a1_1 a1_2 a1_3 a1_4 true) else (none)) = some (r1, r2, r3, r4, r5, r6, r7, r8, r9, r10, r11, r12, r13, r14) := H
                        have A62 := Aside0.mk A620
                        clear A620
                        by_cases c63 : t386 = 0
                        · rw [if_pos c63] at H
                          have c63b0 : (t386 == 0) = true := beq_iff_eq.mpr c63
                          have c63b1 : (t386 != 0) = false := bne_eq_false_iff_eq.mpr c63
                          clear c63
                          have H' := Aside0.mk H
                          clear H
                          have hnb64 := NB323_324.out
                          have hnc64 := NB324_323.out
                          have hnb65 := NB323_325.out
                          have hnc65 := NB325_323.out
                          obtain ⟨hcz66_0, hcz66_1, hcz66_2, hcz66_3, hcz66_4, hcz66_5, hcz66_6, hcz66_7, hcz66_8, hcz66_9, hcz66_10, hcz66_11, hcz66_12⟩ := bc13 BK323.out
                          obtain ⟨hfz66_0, hfz66_1, hfz66_2, hfz66_3, hfz66_4, hfz66_5, hfz66_6, hfz66_7, hfz66_8, hfz66_9, hfz66_10, hfz66_11, hfz66_12⟩ := bf13 BK323.out
                          have hnb67 := NB324_325.out
                          have hnc67 := NB325_324.out
                          obtain ⟨hcz68_0, hcz68_1, hcz68_2, hcz68_3, hcz68_4, hcz68_5⟩ := bc6 BK324.out
                          obtain ⟨hfz68_0, hfz68_1, hfz68_2, hfz68_3, hfz68_4, hfz68_5⟩ := bf6 BK324.out
                          go_wp2_with (first | ((with_reducible refine gate_callee (f := 23) rfl ?_); refine goesL_ (some 57) rfl rfl Try.func23 (by kernel_rfl) rfl #[.agg #[.int .u8 x324000_2, .int .i64 x324001_2, .int .i64 x324002_2, .int .i64 (wrap64 (x324003_2 + 1)), .int .i64 x324004_2, .int .i64 x324005_2, .bool x324006_2, .slice Ao37 x324007_2.length co37, .int .i64 x324008_2, .int .i64 x324009_2, .int .i64 x324010_2, .int .i64 x324011_2, .int .i64 x324012_2], .agg #[.int .i64 a1_0, .int .u8 a1_1, .int .i64 a1_2, .int .i64 a1_3, .bool a1_4, .bool true]] rfl (by (try simp only [List.map_toArray, List.map_cons, List.map_nil]); first | done | rfl | (simp only [List.length_drop, List.length_take]; rfl)) ?_; (with_reducible refine (account_due.calls kj30 x324000_2 x324001_2 x324002_2 (wrap64 (x324003_2 + 1)) x324004_2 x324005_2 x324006_2 _ _ x324007_2 x324008_2 x324009_2 x324010_2 x324011_2 x324012_2 a1_0 a1_1 a1_2 a1_3 a1_4 true t353 false _ ?side1 ?side2 A46.out).mono ?_); (case side1 => refine (Kd.R_reads' (e := 37) (base := w.heap.size) (ok := fun k_ => True) (n := x324007_2.length) (c := co37) ?_).2.2; exact (by (with_reducible repeat (first | apply Kd.R_alloc | apply Kd.R_drewN | apply Kd.R_drew)); exact (Kd.R_mono (Kd.R_step (Kd.R_types HO_324007.out BK323.out (by decide)) (fun _ hk _ => by (with_reducible repeat (first | refine (hst (g := gb323) hk.2 _ _).trans ?_ | refine (hdn _ _ _).trans ?_ | refine (hd1 _ _).trans ?_)); rfl)) (fun _ h_ => h_.1)))); (case side2 => exact (Kd.R_reads' HO_324007.out).2.1); rintro e w69 ⟨rfl, hb⟩; refine ⟨_, rfl, ?_⟩; have n0_ := Aside0.mk (Kd.R_below (by (with_reducible repeat (first | apply Kd.R_alloc | apply Kd.R_drewN | apply Kd.R_drew)); exact (Kd.R_mono (Kd.R_step (Kd.R_types HO_324007.out BK323.out (by decide)) (fun _ hk _ => by (with_reducible repeat (first | refine (hst (g := gb323) hk.2 _ _).trans ?_ | refine (hdn _ _ _).trans ?_ | refine (hd1 _ _).trans ?_)); rfl)) (fun _ h_ => h_.1))) hb); have n1_ := Aside0.mk (blk_below (g := gb323) (o := .cells #[.int .u8 x324000_2, .int .i64 x324001_2, .int .i64 x324002_2, .int .i64 (wrap64 (x324003_2 + 1)), .int .i64 x324004_2, .int .i64 x324005_2, .bool x324006_2, .slice Ao37 x324007_2.length co37, .int .i64 x324008_2, .int .i64 x324009_2, .int .i64 x324010_2, .int .i64 x324011_2, .int .i64 x324012_2] 31 (0, 0)) (by (with_reducible repeat (first | refine blk_drewN ?_ _ | refine blk_drew ?_ | refine blk_alloc ?_ _)); refine blk_put (cs := #[.int .u8 x324000_2, .int .i64 x324001_2, .int .i64 x324002_2, .int .i64 x324003_2, .int .i64 x324004_2, .int .i64 x324005_2, .bool x324006_2, .slice Ao37 x324007_2.length co37, .int .i64 x324008_2, .int .i64 x324009_2, .int .i64 x324010_2, .int .i64 x324011_2, .int .i64 x324012_2]) ?_ 3 _ rfl; (with_reducible repeat (first | refine blk_drewN ?_ _ | refine blk_drew ?_ | refine blk_alloc ?_ _)); exact BK323.out) hb); have n2_ := Aside0.mk (blk_below (g := gb324) (o := .cells #[.int .i64 a1_0, .int .u8 a1_1, .int .i64 a1_2, .int .i64 a1_3, .bool a1_4, .bool true] 25 (0, 0)) (by (with_reducible repeat (first | refine blk_drewN ?_ _ | refine blk_drew ?_ | refine blk_alloc ?_ _)); refine blk_far ?_ NB324_323.out _; (with_reducible repeat (first | refine blk_drewN ?_ _ | refine blk_drew ?_ | refine blk_alloc ?_ _)); exact BK324.out) hb); have n3_ := Aside0.mk (blk_below (g := gb325) (o := .cells #[.int .u8 x326000_2, .int .i64 x326001_2, .int .i64 x326002_2, .int .i64 x326003_2, .int .i64 x326004_2, .int .i64 x326005_2, .bool x326006_2, .slice none 0 0, .int .i64 x326008_2, .int .i64 x326009_2, .int .i64 x326010_2, .int .i64 x326011_2, .int .i64 x326012_2] 31 (0, 0)) (by (with_reducible repeat (first | refine blk_drewN ?_ _ | refine blk_drew ?_ | refine blk_alloc ?_ _)); refine blk_far ?_ NB325_323.out _; (with_reducible repeat (first | refine blk_drewN ?_ _ | refine blk_drew ?_ | refine blk_alloc ?_ _)); exact BK325.out) hb); have n4_ := Aside0.mk (below_step (by repeat (first | (with_reducible first | exact HB.out | apply below_alloc | apply pw_below_drewN | apply below_drew1 | refine below_set ?_ GE323.out | refine below_set ?_ GE324.out | refine below_set ?_ GE325.out) | exact HB.out)) hb); clear HO_324007; clear BK323; clear BK324; clear BK325; clear HB; have HO_324007 := n0_; have BK323 := n1_; have BK324 := n2_; have BK325 := n3_; have HB := n4_; clear n0_ n1_ n2_ n3_ n4_; (try clear hb); (try clear hb2); (try clear hk); (try clear hi); obtain ⟨hcz70_0, hcz70_1, hcz70_2, hcz70_3, hcz70_4, hcz70_5, hcz70_6, hcz70_7, hcz70_8, hcz70_9, hcz70_10, hcz70_11, hcz70_12⟩ := bc13 BK323.out; obtain ⟨hfz70_0, hfz70_1, hfz70_2, hfz70_3, hfz70_4, hfz70_5, hfz70_6, hfz70_7, hfz70_8, hfz70_9, hfz70_10, hfz70_11, hfz70_12⟩ := bf13 BK323.out; obtain ⟨hcz71_0, hcz71_1, hcz71_2, hcz71_3, hcz71_4, hcz71_5⟩ := bc6 BK324.out; obtain ⟨hfz71_0, hfz71_1, hfz71_2, hfz71_3, hfz71_4, hfz71_5⟩ := bf6 BK324.out) | ((with_reducible refine gate_callee (f := 24) rfl ?_); refine goesL_ (some 74) rfl rfl Try.func24 (by kernel_rfl) rfl #[.agg #[.int .u8 x324000_2, .int .i64 x324001_2, .int .i64 x324002_2, .int .i64 (wrap64 (x324003_2 + 1)), .int .i64 x324004_2, .int .i64 x324005_2, .bool x324006_2, .slice Ao37 x324007_2.length co37, .int .i64 x324008_2, .int .i64 x324009_2, .int .i64 x324010_2, .int .i64 x324011_2, .int .i64 x324012_2], .agg #[.int .i64 a1_0, .int .u8 a1_1, .int .i64 a1_2, .int .i64 a1_3, .bool a1_4, .bool true], .int .i64 t351, .bool false] rfl (by (try simp only [List.map_toArray, List.map_cons, List.map_nil]); first | done | rfl | (simp only [List.length_drop, List.length_take]; rfl)) ?_; (with_reducible refine (account_begin.calls kj30 x324000_2 x324001_2 x324002_2 (wrap64 (x324003_2 + 1)) x324004_2 x324005_2 x324006_2 (fun k_ => some k_ = (.slice Ao37 x324007_2.length co37 : Value).ownBlock) (.slice Ao37 x324007_2.length co37) x324007_2 x324008_2 x324009_2 x324010_2 x324011_2 x324012_2 a1_0 a1_1 a1_2 a1_3 a1_4 true t351 false t371 t372 t373 t374 t375 t376 t377 t378 t381 t382 t383 t384 t385 t386 w _ ?side1 ?side2 A62.out).mono ?_); (case side1 => repeat (first | (with_reducible first | exact HB.out | apply below_alloc | apply pw_below_drewN | apply below_drew1 | refine below_set ?_ GE323.out | refine below_set ?_ GE324.out | refine below_set ?_ GE325.out) | exact HB.out)); (case side2 => exact Kd.R_tight rfl HO_324007.out); rintro e w72 ⟨v379, rfl, ho0, hb, hkp⟩; refine ⟨_, rfl, ?_⟩; have n0_ := Aside0.mk (blk_kept (by (with_reducible repeat (first | refine blk_drewN ?_ _ | refine blk_drew ?_ | refine blk_alloc ?_ _)); exact BK323.out) hkp (fun hs_ => (fun e_ => (Kd.R_ne HO_324007.out BK323.out (by decide)) e_) hs_)); have n1_ := Aside0.mk (blk_kept (by (with_reducible repeat (first | refine blk_drewN ?_ _ | refine blk_drew ?_ | refine blk_alloc ?_ _)); exact BK324.out) hkp (fun hs_ => (fun e_ => (Kd.R_ne HO_324007.out BK324.out (by decide)) e_) hs_)); have n2_ := Aside0.mk (blk_kept (by (with_reducible repeat (first | refine blk_drewN ?_ _ | refine blk_drew ?_ | refine blk_alloc ?_ _)); exact BK325.out) hkp (fun hs_ => (fun e_ => (Kd.R_ne HO_324007.out BK325.out (by decide)) e_) hs_)); have n3_ := Aside0.mk (Kd.R_mono (ok' := fun k_ => True) ho0 (fun k_ hk_ => trivial)); have n4_ := Aside0.mk (hb); clear BK323; clear BK324; clear BK325; clear HB; clear HO_324007; have BK323 := n0_; have BK324 := n1_; have BK325 := n2_; have HO380 := n3_; have HB := n4_; clear n0_ n1_ n2_ n3_ n4_; (try clear hb); (try clear hkp); (try clear ho0); obtain ⟨hcz73_0, hcz73_1, hcz73_2, hcz73_3, hcz73_4, hcz73_5, hcz73_6, hcz73_7, hcz73_8, hcz73_9, hcz73_10, hcz73_11, hcz73_12⟩ := bc13 BK323.out; obtain ⟨hfz73_0, hfz73_1, hfz73_2, hfz73_3, hfz73_4, hfz73_5, hfz73_6, hfz73_7, hfz73_8, hfz73_9, hfz73_10, hfz73_11, hfz73_12⟩ := bf13 BK323.out; obtain ⟨Ao74, co74, eo74⟩ := Kd.R_slice HO380.out; subst eo74))
                          go_roundg kj30
                          case measure => have := HK1.out; have := HK2.out; have := HJ30.out; omega
                          case rel => exact ⟨(t371), (t372), (t373), (t374), (t375), (t376), (t377), (t378), (t381), (t382), (t383), (t384), (t385), (x326000_2), (x326001_2), (x326002_2), (x326003_2), (x326004_2), (x326005_2), (x326006_2), (x326008_2), (x326009_2), (x326010_2), (x326011_2), (x326012_2), (.slice Ao74 t378.length co74), H', ⟨by have := HK1.out; have := HK2.out; have := HJ30.out; omega⟩, ⟨by (with_reducible repeat (first | apply Kd.R_alloc | apply Kd.R_drewN | apply Kd.R_drew)); exact Kd.R_mono (Kd.R_step (Kd.R_types HO380.out BK323.out (by decide)) (fun _ hk _ => by (with_reducible repeat (first | refine (hst (g := gb323) hk.2 _ _).trans ?_ | refine (hdn _ _ _).trans ?_ | refine (hd1 _ _).trans ?_)); rfl)) (fun _ hk => trivial)⟩, ⟨by (with_reducible repeat (first | refine blk_drewN ?_ _ | refine blk_drew ?_ | refine blk_alloc ?_ _)); refine bp13 (.int .u8 x324000_2) (.int .i64 x324001_2) (.int .i64 x324002_2) (.int .i64 (wrap64 (x324003_2 + 1))) (.int .i64 x324004_2) (.int .i64 x324005_2) (.bool x324006_2) (.slice Ao37 x324007_2.length co37) (.int .i64 x324008_2) (.int .i64 x324009_2) (.int .i64 x324010_2) (.int .i64 x324011_2) (.int .i64 x324012_2) ?_; (with_reducible repeat (first | refine blk_drewN ?_ _ | refine blk_drew ?_ | refine blk_alloc ?_ _)); exact BK323.out⟩, ⟨by (with_reducible repeat (first | refine blk_drewN ?_ _ | refine blk_drew ?_ | refine blk_alloc ?_ _ | refine blk_far ?_ NB324_323.out _)); exact BK324.out⟩, ⟨by (with_reducible repeat (first | refine blk_drewN ?_ _ | refine blk_drew ?_ | refine blk_alloc ?_ _ | refine blk_far ?_ NB325_323.out _)); exact BK325.out⟩, ⟨by repeat (first | (with_reducible first | exact HB.out | apply below_alloc | apply pw_below_drewN | apply below_drew1 | refine below_set ?_ GE323.out | refine below_set ?_ GE324.out | refine below_set ?_ GE325.out) | exact HB.out)⟩⟩
                        · rw [if_neg c63] at H
                          exact absurd H (by simp)
                    · replace c47 := Bool.eq_false_iff.mpr c47
                      subst c47
                      have H1 : ((account_begin.f kj30 x324000_2 x324001_2 x324002_2 (wrap64 (x324003_2 + 1)) x324004_2 x324005_2 x324006_2 x324007_2 x324008_2 x324009_2 x324010_2 x324011_2 x324012_2 a1_0 a1_1 a1_2 a1_3 a1_4 false t351 false).bind fun bt387 => (if bt387.2.2.2.2.2.2.2.2.2.2.2.2.2 = 0 then (account_Day.l1 kj30 a2 bt387.1 bt387.2.1 bt387.2.2.1 bt387.2.2.2.1 bt387.2.2.2.2.1 bt387.2.2.2.2.2.1 bt387.2.2.2.2.2.2.1 bt387.2.2.2.2.2.2.2.1 bt387.2.2.2.2.2.2.2.2.1 bt387.2.2.2.2.2.2.2.2.2.1 bt387.2.2.2.2.2.2.2.2.2.2.1 bt387.2.2.2.2.2.2.2.2.2.2.2.1 bt387.2.2.2.2.2.2.2.2.2.2.2.2.1 a1_0 a1_1 a1_2 a1_3 a1_4 false) else (none))) = some (r1, r2, r3, r4, r5, r6, r7, r8, r9, r10, r11, r12, r13, r14) := by rw [if_neg (show ¬ (false = true) by decide)] at H; exact H
                      clear H
                      have H := H1
                      clear H1
                      replace H := Option.bind_eq_some_iff.mp H
                      obtain ⟨⟨t387, t388, t389, t390, t391, t392, t393, t394, t397, t398, t399, t400, t401, t402⟩, A750, H⟩ := H
                      replace H : (if t402 = 0 then (account_Day.l1 kj30 a2 t387 t388 t389 t390 t391 t392 t393 t394 t397 t398 t399 t400 t401 a1_0 a1_1 a1_2 a1_3 a1_4 false) else (none)) = some (r1, r2, r3, r4, r5, r6, r7, r8, r9, r10, r11, r12, r13, r14) := H
                      have A75 := Aside0.mk A750
                      clear A750
                      by_cases c76 : t402 = 0
                      · rw [if_pos c76] at H
                        have c76b0 : (t402 == 0) = true := beq_iff_eq.mpr c76
                        have c76b1 : (t402 != 0) = false := bne_eq_false_iff_eq.mpr c76
                        clear c76
                        have H' := Aside0.mk H
                        clear H
                        have hnb77 := NB323_324.out
                        have hnc77 := NB324_323.out
                        have hnb78 := NB323_325.out
                        have hnc78 := NB325_323.out
                        obtain ⟨hcz79_0, hcz79_1, hcz79_2, hcz79_3, hcz79_4, hcz79_5, hcz79_6, hcz79_7, hcz79_8, hcz79_9, hcz79_10, hcz79_11, hcz79_12⟩ := bc13 BK323.out
                        obtain ⟨hfz79_0, hfz79_1, hfz79_2, hfz79_3, hfz79_4, hfz79_5, hfz79_6, hfz79_7, hfz79_8, hfz79_9, hfz79_10, hfz79_11, hfz79_12⟩ := bf13 BK323.out
                        have hnb80 := NB324_325.out
                        have hnc80 := NB325_324.out
                        obtain ⟨hcz81_0, hcz81_1, hcz81_2, hcz81_3, hcz81_4, hcz81_5⟩ := bc6 BK324.out
                        obtain ⟨hfz81_0, hfz81_1, hfz81_2, hfz81_3, hfz81_4, hfz81_5⟩ := bf6 BK324.out
                        go_wp2_with (first | ((with_reducible refine gate_callee (f := 23) rfl ?_); refine goesL_ (some 57) rfl rfl Try.func23 (by kernel_rfl) rfl #[.agg #[.int .u8 x324000_2, .int .i64 x324001_2, .int .i64 x324002_2, .int .i64 (wrap64 (x324003_2 + 1)), .int .i64 x324004_2, .int .i64 x324005_2, .bool x324006_2, .slice Ao37 x324007_2.length co37, .int .i64 x324008_2, .int .i64 x324009_2, .int .i64 x324010_2, .int .i64 x324011_2, .int .i64 x324012_2], .agg #[.int .i64 a1_0, .int .u8 a1_1, .int .i64 a1_2, .int .i64 a1_3, .bool a1_4, .bool false]] rfl (by (try simp only [List.map_toArray, List.map_cons, List.map_nil]); first | done | rfl | (simp only [List.length_drop, List.length_take]; rfl)) ?_; (with_reducible refine (account_due.calls kj30 x324000_2 x324001_2 x324002_2 (wrap64 (x324003_2 + 1)) x324004_2 x324005_2 x324006_2 _ _ x324007_2 x324008_2 x324009_2 x324010_2 x324011_2 x324012_2 a1_0 a1_1 a1_2 a1_3 a1_4 false t353 t354 _ ?side1 ?side2 A46.out).mono ?_); (case side1 => refine (Kd.R_reads' (e := 37) (base := w.heap.size) (ok := fun k_ => True) (n := x324007_2.length) (c := co37) ?_).2.2; exact (by (with_reducible repeat (first | apply Kd.R_alloc | apply Kd.R_drewN | apply Kd.R_drew)); exact (Kd.R_mono (Kd.R_step (Kd.R_types HO_324007.out BK323.out (by decide)) (fun _ hk _ => by (with_reducible repeat (first | refine (hst (g := gb323) hk.2 _ _).trans ?_ | refine (hdn _ _ _).trans ?_ | refine (hd1 _ _).trans ?_)); rfl)) (fun _ h_ => h_.1)))); (case side2 => exact (Kd.R_reads' HO_324007.out).2.1); rintro e w82 ⟨rfl, hb⟩; refine ⟨_, rfl, ?_⟩; have n0_ := Aside0.mk (Kd.R_below (by (with_reducible repeat (first | apply Kd.R_alloc | apply Kd.R_drewN | apply Kd.R_drew)); exact (Kd.R_mono (Kd.R_step (Kd.R_types HO_324007.out BK323.out (by decide)) (fun _ hk _ => by (with_reducible repeat (first | refine (hst (g := gb323) hk.2 _ _).trans ?_ | refine (hdn _ _ _).trans ?_ | refine (hd1 _ _).trans ?_)); rfl)) (fun _ h_ => h_.1))) hb); have n1_ := Aside0.mk (blk_below (g := gb323) (o := .cells #[.int .u8 x324000_2, .int .i64 x324001_2, .int .i64 x324002_2, .int .i64 (wrap64 (x324003_2 + 1)), .int .i64 x324004_2, .int .i64 x324005_2, .bool x324006_2, .slice Ao37 x324007_2.length co37, .int .i64 x324008_2, .int .i64 x324009_2, .int .i64 x324010_2, .int .i64 x324011_2, .int .i64 x324012_2] 31 (0, 0)) (by (with_reducible repeat (first | refine blk_drewN ?_ _ | refine blk_drew ?_ | refine blk_alloc ?_ _)); refine blk_put (cs := #[.int .u8 x324000_2, .int .i64 x324001_2, .int .i64 x324002_2, .int .i64 x324003_2, .int .i64 x324004_2, .int .i64 x324005_2, .bool x324006_2, .slice Ao37 x324007_2.length co37, .int .i64 x324008_2, .int .i64 x324009_2, .int .i64 x324010_2, .int .i64 x324011_2, .int .i64 x324012_2]) ?_ 3 _ rfl; (with_reducible repeat (first | refine blk_drewN ?_ _ | refine blk_drew ?_ | refine blk_alloc ?_ _)); exact BK323.out) hb); have n2_ := Aside0.mk (blk_below (g := gb324) (o := .cells #[.int .i64 a1_0, .int .u8 a1_1, .int .i64 a1_2, .int .i64 a1_3, .bool a1_4, .bool false] 25 (0, 0)) (by (with_reducible repeat (first | refine blk_drewN ?_ _ | refine blk_drew ?_ | refine blk_alloc ?_ _)); refine blk_far ?_ NB324_323.out _; (with_reducible repeat (first | refine blk_drewN ?_ _ | refine blk_drew ?_ | refine blk_alloc ?_ _)); exact BK324.out) hb); have n3_ := Aside0.mk (blk_below (g := gb325) (o := .cells #[.int .u8 x326000_2, .int .i64 x326001_2, .int .i64 x326002_2, .int .i64 x326003_2, .int .i64 x326004_2, .int .i64 x326005_2, .bool x326006_2, .slice none 0 0, .int .i64 x326008_2, .int .i64 x326009_2, .int .i64 x326010_2, .int .i64 x326011_2, .int .i64 x326012_2] 31 (0, 0)) (by (with_reducible repeat (first | refine blk_drewN ?_ _ | refine blk_drew ?_ | refine blk_alloc ?_ _)); refine blk_far ?_ NB325_323.out _; (with_reducible repeat (first | refine blk_drewN ?_ _ | refine blk_drew ?_ | refine blk_alloc ?_ _)); exact BK325.out) hb); have n4_ := Aside0.mk (below_step (by repeat (first | (with_reducible first | exact HB.out | apply below_alloc | apply pw_below_drewN | apply below_drew1 | refine below_set ?_ GE323.out | refine below_set ?_ GE324.out | refine below_set ?_ GE325.out) | exact HB.out)) hb); clear HO_324007; clear BK323; clear BK324; clear BK325; clear HB; have HO_324007 := n0_; have BK323 := n1_; have BK324 := n2_; have BK325 := n3_; have HB := n4_; clear n0_ n1_ n2_ n3_ n4_; (try clear hb); (try clear hb2); (try clear hk); (try clear hi); obtain ⟨hcz83_0, hcz83_1, hcz83_2, hcz83_3, hcz83_4, hcz83_5, hcz83_6, hcz83_7, hcz83_8, hcz83_9, hcz83_10, hcz83_11, hcz83_12⟩ := bc13 BK323.out; obtain ⟨hfz83_0, hfz83_1, hfz83_2, hfz83_3, hfz83_4, hfz83_5, hfz83_6, hfz83_7, hfz83_8, hfz83_9, hfz83_10, hfz83_11, hfz83_12⟩ := bf13 BK323.out; obtain ⟨hcz84_0, hcz84_1, hcz84_2, hcz84_3, hcz84_4, hcz84_5⟩ := bc6 BK324.out; obtain ⟨hfz84_0, hfz84_1, hfz84_2, hfz84_3, hfz84_4, hfz84_5⟩ := bf6 BK324.out) | ((with_reducible refine gate_callee (f := 24) rfl ?_); refine goesL_ (some 74) rfl rfl Try.func24 (by kernel_rfl) rfl #[.agg #[.int .u8 x324000_2, .int .i64 x324001_2, .int .i64 x324002_2, .int .i64 (wrap64 (x324003_2 + 1)), .int .i64 x324004_2, .int .i64 x324005_2, .bool x324006_2, .slice Ao37 x324007_2.length co37, .int .i64 x324008_2, .int .i64 x324009_2, .int .i64 x324010_2, .int .i64 x324011_2, .int .i64 x324012_2], .agg #[.int .i64 a1_0, .int .u8 a1_1, .int .i64 a1_2, .int .i64 a1_3, .bool a1_4, .bool false], .int .i64 t351, .bool false] rfl (by (try simp only [List.map_toArray, List.map_cons, List.map_nil]); first | done | rfl | (simp only [List.length_drop, List.length_take]; rfl)) ?_; (with_reducible refine (account_begin.calls kj30 x324000_2 x324001_2 x324002_2 (wrap64 (x324003_2 + 1)) x324004_2 x324005_2 x324006_2 (fun k_ => some k_ = (.slice Ao37 x324007_2.length co37 : Value).ownBlock) (.slice Ao37 x324007_2.length co37) x324007_2 x324008_2 x324009_2 x324010_2 x324011_2 x324012_2 a1_0 a1_1 a1_2 a1_3 a1_4 false t351 false t387 t388 t389 t390 t391 t392 t393 t394 t397 t398 t399 t400 t401 t402 w _ ?side1 ?side2 A75.out).mono ?_); (case side1 => repeat (first | (with_reducible first | exact HB.out | apply below_alloc | apply pw_below_drewN | apply below_drew1 | refine below_set ?_ GE323.out | refine below_set ?_ GE324.out | refine below_set ?_ GE325.out) | exact HB.out)); (case side2 => exact Kd.R_tight rfl HO_324007.out); rintro e w85 ⟨v395, rfl, ho0, hb, hkp⟩; refine ⟨_, rfl, ?_⟩; have n0_ := Aside0.mk (blk_kept (by (with_reducible repeat (first | refine blk_drewN ?_ _ | refine blk_drew ?_ | refine blk_alloc ?_ _)); exact BK323.out) hkp (fun hs_ => (fun e_ => (Kd.R_ne HO_324007.out BK323.out (by decide)) e_) hs_)); have n1_ := Aside0.mk (blk_kept (by (with_reducible repeat (first | refine blk_drewN ?_ _ | refine blk_drew ?_ | refine blk_alloc ?_ _)); exact BK324.out) hkp (fun hs_ => (fun e_ => (Kd.R_ne HO_324007.out BK324.out (by decide)) e_) hs_)); have n2_ := Aside0.mk (blk_kept (by (with_reducible repeat (first | refine blk_drewN ?_ _ | refine blk_drew ?_ | refine blk_alloc ?_ _)); exact BK325.out) hkp (fun hs_ => (fun e_ => (Kd.R_ne HO_324007.out BK325.out (by decide)) e_) hs_)); have n3_ := Aside0.mk (Kd.R_mono (ok' := fun k_ => True) ho0 (fun k_ hk_ => trivial)); have n4_ := Aside0.mk (hb); clear BK323; clear BK324; clear BK325; clear HB; clear HO_324007; have BK323 := n0_; have BK324 := n1_; have BK325 := n2_; have HO396 := n3_; have HB := n4_; clear n0_ n1_ n2_ n3_ n4_; (try clear hb); (try clear hkp); (try clear ho0); obtain ⟨hcz86_0, hcz86_1, hcz86_2, hcz86_3, hcz86_4, hcz86_5, hcz86_6, hcz86_7, hcz86_8, hcz86_9, hcz86_10, hcz86_11, hcz86_12⟩ := bc13 BK323.out; obtain ⟨hfz86_0, hfz86_1, hfz86_2, hfz86_3, hfz86_4, hfz86_5, hfz86_6, hfz86_7, hfz86_8, hfz86_9, hfz86_10, hfz86_11, hfz86_12⟩ := bf13 BK323.out; obtain ⟨Ao87, co87, eo87⟩ := Kd.R_slice HO396.out; subst eo87))
                        go_roundg kj30
                        case measure => have := HK1.out; have := HK2.out; have := HJ30.out; omega
                        case rel => exact ⟨(t387), (t388), (t389), (t390), (t391), (t392), (t393), (t394), (t397), (t398), (t399), (t400), (t401), (x326000_2), (x326001_2), (x326002_2), (x326003_2), (x326004_2), (x326005_2), (x326006_2), (x326008_2), (x326009_2), (x326010_2), (x326011_2), (x326012_2), (.slice Ao87 t394.length co87), H', ⟨by have := HK1.out; have := HK2.out; have := HJ30.out; omega⟩, ⟨by (with_reducible repeat (first | apply Kd.R_alloc | apply Kd.R_drewN | apply Kd.R_drew)); exact Kd.R_mono (Kd.R_step (Kd.R_types HO396.out BK323.out (by decide)) (fun _ hk _ => by (with_reducible repeat (first | refine (hst (g := gb323) hk.2 _ _).trans ?_ | refine (hdn _ _ _).trans ?_ | refine (hd1 _ _).trans ?_)); rfl)) (fun _ hk => trivial)⟩, ⟨by (with_reducible repeat (first | refine blk_drewN ?_ _ | refine blk_drew ?_ | refine blk_alloc ?_ _)); refine bp13 (.int .u8 x324000_2) (.int .i64 x324001_2) (.int .i64 x324002_2) (.int .i64 (wrap64 (x324003_2 + 1))) (.int .i64 x324004_2) (.int .i64 x324005_2) (.bool x324006_2) (.slice Ao37 x324007_2.length co37) (.int .i64 x324008_2) (.int .i64 x324009_2) (.int .i64 x324010_2) (.int .i64 x324011_2) (.int .i64 x324012_2) ?_; (with_reducible repeat (first | refine blk_drewN ?_ _ | refine blk_drew ?_ | refine blk_alloc ?_ _)); exact BK323.out⟩, ⟨by (with_reducible repeat (first | refine blk_drewN ?_ _ | refine blk_drew ?_ | refine blk_alloc ?_ _ | refine blk_far ?_ NB324_323.out _)); exact BK324.out⟩, ⟨by (with_reducible repeat (first | refine blk_drewN ?_ _ | refine blk_drew ?_ | refine blk_alloc ?_ _ | refine blk_far ?_ NB325_323.out _)); exact BK325.out⟩, ⟨by repeat (first | (with_reducible first | exact HB.out | apply below_alloc | apply pw_below_drewN | apply below_drew1 | refine below_set ?_ GE323.out | refine below_set ?_ GE324.out | refine below_set ?_ GE325.out) | exact HB.out)⟩⟩
                      · rw [if_neg c76] at H
                        exact absurd H (by simp)

end Go.Proofs.Ytnpcodfeggcdbaa.PAcc
