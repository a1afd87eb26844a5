-- Laid by wip/prt.py over the kit's print (Acc).
import Derived.Test.YtnpcodfeggcdbaaPAccx0
import Derived.Test.YtnpcodfeggcdbaaPAccx1
import Derived.Test.YtnpcodfeggcdbaaPAccx5
import Derived.Test.YtnpcodfeggcdbaaPAccx6
namespace Go.Proofs.Ytnpcodfeggcdbaa.PAcc
open Go.RowKit Go.Proofs.YtnpcodfeggcdbaaW.PrintWords Go.Proofs.YtnpcodfeggcdbaaW.PrintLast Go.Proofs.YtnpcodfeggcdbaaW.PrintMore
attribute [local go_sem] max2_int min2_int max_two min_two max_three min_three max_four min_four   -- for this text's walks alone
set_option linter.unusedVariables false
set_option linter.unusedSimpArgs false

theorem cf_paybooklaw13_AccountLast (g : Nat) {W : World} {o : Nat} {a : Addr} (h : a.block ≠ (⟨g, o, none⟩ : Addr).block) (u : Value) : (W.setCell ⟨g, o, none⟩ u).cell? a = W.cell? a := cell_far h u
/-! ### paybooklaw13_AccountLast: function 4 -/
def paybooklaw13_AccountLast.f (k : Nat) (a0 : Int) (a1 : Int) (a2 : Int) : Option (Bool) := (paybooklaw13_awake.f k).bind fun t526 => (if t526 = true then ((paybookref12_Plan.f a0).bind fun bt527 => ((account_Open.f 0 500 bt527.2.1 bt527.2.2.1 bt527.2.2.2.1 true true (wrap64 (700000 + (wrap64 (a1))))).bind fun bt534 => ((account_Day.f k bt534.1 bt534.2.1 bt534.2.2.1 bt534.2.2.2.1 bt534.2.2.2.2.1 bt534.2.2.2.2.2.1 bt534.2.2.2.2.2.2.1 bt534.2.2.2.2.2.2.2.1 bt534.2.2.2.2.2.2.2.2.1 bt534.2.2.2.2.2.2.2.2.2.1 bt534.2.2.2.2.2.2.2.2.2.2.1 bt534.2.2.2.2.2.2.2.2.2.2.2.1 bt534.2.2.2.2.2.2.2.2.2.2.2.2 500 bt527.2.1 bt527.2.2.1 bt527.2.2.2.1 true true (wrap64 ((wrap64 (700000 + (wrap64 (a1)))) + (wrap64 (a2))))).bind fun bt549 => (if bt549.2.2.2.2.2.2.2.2.2.2.2.2.2 = 0 then (if (wrap64 (bt549.2.2.2.2.2.2.2.2.2.2.2.1 + (bt549.2.2.2.2.2.2.2.1.length : Int))) = bt549.2.2.2.2.1 then (if bt549.2.2.2.2.1 = 0 then (if (bt549.2.2.2.2.2.2.2.1.length : Int) = 0 then (some true) else (if bt549.2.2.2.2.1 > 0 then (if (bt549.2.2.2.2.2.2.2.1.length : Int) = 1 then (if 0 < (bt549.2.2.2.2.2.2.2.1.length : Int) then (if ((rd_T37 bt549.2.2.2.2.2.2.2.1 0).f0) = (wrap64 (bt549.2.2.2.2.1 - 1)) then (some (((rd_T37 bt549.2.2.2.2.2.2.2.1 0).f3) == 500)) else (none)) else (none)) else (none)) else (none))) else (if bt549.2.2.2.2.1 > 0 then (if (bt549.2.2.2.2.2.2.2.1.length : Int) = 1 then (if 0 < (bt549.2.2.2.2.2.2.2.1.length : Int) then (if ((rd_T37 bt549.2.2.2.2.2.2.2.1 0).f0) = (wrap64 (bt549.2.2.2.2.1 - 1)) then (some (((rd_T37 bt549.2.2.2.2.2.2.2.1 0).f3) == 500)) else (none)) else (none)) else (none)) else (none))) else (none)) else (none))))) else (none))
theorem paybooklaw13_AccountLast.mono : ∀ a0 a1 a2 k, LeO (paybooklaw13_AccountLast.f k a0 a1 a2) (paybooklaw13_AccountLast.f (k + 1) a0 a1 a2) := by
  intro a0 a1 a2 k
  unfold paybooklaw13_AccountLast.f
  repeat' first
      | (with_reducible exact account_Day.mono _ _ _ _ _ _ _ _ _ _ _ _ _ _ _ _ _ _ _ _ _)
      | (with_reducible exact paybooklaw13_awake.mono _)
      | (with_reducible exact LeO.refl _)
      | (with_reducible exact LeO.none _)
      | (with_reducible refine LeO.ite ?_ ?_)
      | (with_reducible refine LeO.bind ?_ (fun _ => ?_))
      | exact account_Day.mono _ _ _ _ _ _ _ _ _ _ _ _ _ _ _ _ _ _ _ _ _
      | exact paybooklaw13_awake.mono _
      | exact LeO.none _
      | refine LeO.ite ?_ ?_
      | refine LeO.bind ?_ (fun _ => ?_)
def paybooklaw13_AccountLast.T8 : Bool × List (List Nat × List Nat) := (true, [([], []), ([], []), ([0, 1], [0, 1]), ([], []), ([], []), ([], []), ([5], [5]), ([4, 6], [4, 6]), ([2, 3, 7, 2], [2, 3, 7]), ([8], [8]), ([9], [9]), ([9], [9]), ([], []), ([12, 10, 8, 0, 1, 2, 3, 4, 5, 6, 7, 8, 9, 10, 12], [10, 12]), ([11, 13, 0, 1, 2, 3, 4, 5, 6, 7, 8, 9, 10, 11, 12, 13], [11])])
def paybooklaw13_AccountLast.B8 : List Nat := [0, 0, 3, 0, 0, 0, 32, 112, 255, 511, 1023, 1023, 0, 6143, 16383]
theorem paybooklaw13_AccountLast.tab8 : rtab .any (opsOf Try.f4 8) = paybooklaw13_AccountLast.T8 := by kernel_rfl
theorem paybooklaw13_AccountLast.bits8 : waitsOk paybooklaw13_AccountLast.T8.2 paybooklaw13_AccountLast.B8 = true := by kernel_rfl
def paybooklaw13_AccountLast.T11 : Bool × List (List Nat × List Nat) := (true, [([], []), ([0], [0]), ([1], [1]), ([2], [2]), ([3], [3]), ([4, 3], [3, 4]), ([5, 3], [3, 5]), ([6, 3], [3, 6]), ([3, 7], [3, 7]), ([8, 3], [8]), ([9], [9]), ([10, 9], [9, 10]), ([11, 9], [9, 11]), ([12, 9, 9], [9, 12]), ([13], [13]), ([14, 13], [13, 14]), ([15, 13], [13, 15]), ([16, 13], [13, 16]), ([13, 17, 9], [9, 13, 17]), ([18, 13, 9], [9, 18]), ([19], [19]), ([20, 19], [19, 20]), ([21, 19], [19, 21]), ([22, 19], [19, 22]), ([23, 19], [19, 23]), ([19], [19]), ([25, 19], [19, 25]), ([26, 19], [19, 26]), ([24, 27, 19], [19, 24, 27]), ([19, 28, 9], [9, 19, 28]), ([29, 19, 9], [9, 29]), ([30], [30]), ([31, 30], [30, 31]), ([32, 30], [30, 32]), ([33, 30], [30, 33]), ([34, 30], [30, 34]), ([35, 30], [30, 35]), ([30, 36, 9], [9, 30, 36]), ([9, 37], [9, 37]), ([38, 30, 0, 1, 2, 3, 4, 5, 6, 7, 8, 9, 10, 11, 12, 13, 14, 15, 16, 17, 18, 19, 20, 21, 22, 23, 24, 25, 26, 27, 28, 29, 30, 31, 32, 33, 34, 35, 36, 37, 38], [38])])
def paybooklaw13_AccountLast.B11 : List Nat := [0, 1, 3, 7, 15, 31, 63, 127, 255, 511, 1023, 2047, 4095, 8191, 16383, 32767, 65535, 131071, 262143, 524287, 1048575, 2097151, 4194303, 8388607, 16777215, 1048575, 34603007, 101711871, 268435455, 536870911, 1073741823, 2147483647, 4294967295, 8589934591, 17179869183, 34359738367, 68719476735, 137438953471, 274877906943, 549755813887]
theorem paybooklaw13_AccountLast.tab11 : rtab .any (opsOf Try.f4 11) = paybooklaw13_AccountLast.T11 := by kernel_rfl
theorem paybooklaw13_AccountLast.bits11 : waitsOk paybooklaw13_AccountLast.T11.2 paybooklaw13_AccountLast.B11 = true := by kernel_rfl
set_option maxHeartbeats 3000000 in
set_option maxRecDepth 100000 in
theorem paybooklaw13_AccountLast.calls (k : Nat) (a0 : Int) (a1 : Int) (a2 : Int) (r : Bool) (w : World) (h : paybooklaw13_AccountLast.f k a0 a1 a2 = some r) :
    Calls Try.prog 4 #[.int .u8 a0, .int .u16 a1, .int .u8 a2] w fun e w' => e = .returned (.bool r) ∧ Below w.heap.size w w' := by
  have hu25 := Try.underlying25
  have hu31 := Try.underlying31
  have HB := Aside0.mk (Below.refl w.heap.size w)
  have H : ((paybooklaw13_awake.f k).bind fun t526 => (if t526 = true then ((paybookref12_Plan.f a0).bind fun bt527 => ((account_Open.f 0 500 bt527.2.1 bt527.2.2.1 bt527.2.2.2.1 true true (wrap64 (700000 + (wrap64 (a1))))).bind fun bt534 => ((account_Day.f k bt534.1 bt534.2.1 bt534.2.2.1 bt534.2.2.2.1 bt534.2.2.2.2.1 bt534.2.2.2.2.2.1 bt534.2.2.2.2.2.2.1 bt534.2.2.2.2.2.2.2.1 bt534.2.2.2.2.2.2.2.2.1 bt534.2.2.2.2.2.2.2.2.2.1 bt534.2.2.2.2.2.2.2.2.2.2.1 bt534.2.2.2.2.2.2.2.2.2.2.2.1 bt534.2.2.2.2.2.2.2.2.2.2.2.2 500 bt527.2.1 bt527.2.2.1 bt527.2.2.2.1 true true (wrap64 ((wrap64 (700000 + (wrap64 (a1)))) + (wrap64 (a2))))).bind fun bt549 => (if bt549.2.2.2.2.2.2.2.2.2.2.2.2.2 = 0 then (if (wrap64 (bt549.2.2.2.2.2.2.2.2.2.2.2.1 + (bt549.2.2.2.2.2.2.2.1.length : Int))) = bt549.2.2.2.2.1 then (if bt549.2.2.2.2.1 = 0 then (if (bt549.2.2.2.2.2.2.2.1.length : Int) = 0 then (some true) else (if bt549.2.2.2.2.1 > 0 then (if (bt549.2.2.2.2.2.2.2.1.length : Int) = 1 then (if 0 < (bt549.2.2.2.2.2.2.2.1.length : Int) then (if ((rd_T37 bt549.2.2.2.2.2.2.2.1 0).f0) = (wrap64 (bt549.2.2.2.2.1 - 1)) then (some (((rd_T37 bt549.2.2.2.2.2.2.2.1 0).f3) == 500)) else (none)) else (none)) else (none)) else (none))) else (if bt549.2.2.2.2.1 > 0 then (if (bt549.2.2.2.2.2.2.2.1.length : Int) = 1 then (if 0 < (bt549.2.2.2.2.2.2.2.1.length : Int) then (if ((rd_T37 bt549.2.2.2.2.2.2.2.1 0).f0) = (wrap64 (bt549.2.2.2.2.1 - 1)) then (some (((rd_T37 bt549.2.2.2.2.2.2.2.1 0).f3) == 500)) else (none)) else (none)) else (none)) else (none))) else (none)) else (none))))) else (none))) = some r := h
  clear h
  replace H := Option.bind_eq_some_iff.mp H
  obtain ⟨t526, A40, H⟩ := H
  replace H : (if t526 = true then ((paybookref12_Plan.f a0).bind fun bt527 => ((account_Open.f 0 500 bt527.2.1 bt527.2.2.1 bt527.2.2.2.1 true true (wrap64 (700000 + (wrap64 (a1))))).bind fun bt534 => ((account_Day.f k bt534.1 bt534.2.1 bt534.2.2.1 bt534.2.2.2.1 bt534.2.2.2.2.1 bt534.2.2.2.2.2.1 bt534.2.2.2.2.2.2.1 bt534.2.2.2.2.2.2.2.1 bt534.2.2.2.2.2.2.2.2.1 bt534.2.2.2.2.2.2.2.2.2.1 bt534.2.2.2.2.2.2.2.2.2.2.1 bt534.2.2.2.2.2.2.2.2.2.2.2.1 bt534.2.2.2.2.2.2.2.2.2.2.2.2 500 bt527.2.1 bt527.2.2.1 bt527.2.2.2.1 true true (wrap64 ((wrap64 (700000 + (wrap64 (a1)))) + (wrap64 (a2))))).bind fun bt549 => (if bt549.2.2.2.2.2.2.2.2.2.2.2.2.2 = 0 then (if (wrap64 (bt549.2.2.2.2.2.2.2.2.2.2.2.1 + (bt549.2.2.2.2.2.2.2.1.length : Int))) = bt549.2.2.2.2.1 then (if bt549.2.2.2.2.1 = 0 then (if (bt549.2.2.2.2.2.2.2.1.length : Int) = 0 then (some true) else (if bt549.2.2.2.2.1 > 0 then (if (bt549.2.2.2.2.2.2.2.1.length : Int) = 1 then (if 0 < (bt549.2.2.2.2.2.2.2.1.length : Int) then (if ((rd_T37 bt549.2.2.2.2.2.2.2.1 0).f0) = (wrap64 (bt549.2.2.2.2.1 - 1)) then (some (((rd_T37 bt549.2.2.2.2.2.2.2.1 0).f3) == 500)) else (none)) else (none)) else (none)) else (none))) else (if bt549.2.2.2.2.1 > 0 then (if (bt549.2.2.2.2.2.2.2.1.length : Int) = 1 then (if 0 < (bt549.2.2.2.2.2.2.2.1.length : Int) then (if ((rd_T37 bt549.2.2.2.2.2.2.2.1 0).f0) = (wrap64 (bt549.2.2.2.2.1 - 1)) then (some (((rd_T37 bt549.2.2.2.2.2.2.2.1 0).f3) == 500)) else (none)) else (none)) else (none)) else (none))) else (none)) else (none))))) else (none)) = some r := H
  have A4 := Aside0.mk A40
  clear A40
  by_cases c5 : t526 = true
  · subst c5
    have H1 : ((paybookref12_Plan.f a0).bind fun bt527 => ((account_Open.f 0 500 bt527.2.1 bt527.2.2.1 bt527.2.2.2.1 true true (wrap64 (700000 + (wrap64 (a1))))).bind fun bt534 => ((account_Day.f k bt534.1 bt534.2.1 bt534.2.2.1 bt534.2.2.2.1 bt534.2.2.2.2.1 bt534.2.2.2.2.2.1 bt534.2.2.2.2.2.2.1 bt534.2.2.2.2.2.2.2.1 bt534.2.2.2.2.2.2.2.2.1 bt534.2.2.2.2.2.2.2.2.2.1 bt534.2.2.2.2.2.2.2.2.2.2.1 bt534.2.2.2.2.2.2.2.2.2.2.2.1 bt534.2.2.2.2.2.2.2.2.2.2.2.2 500 bt527.2.1 bt527.2.2.1 bt527.2.2.2.1 true true (wrap64 ((wrap64 (700000 + (wrap64 (a1)))) + (wrap64 (a2))))).bind fun bt549 => (if bt549.2.2.2.2.2.2.2.2.2.2.2.2.2 = 0 then (if (wrap64 (bt549.2.2.2.2.2.2.2.2.2.2.2.1 + (bt549.2.2.2.2.2.2.2.1.length : Int))) = bt549.2.2.2.2.1 then (if bt549.2.2.2.2.1 = 0 then (if (bt549.2.2.2.2.2.2.2.1.length : Int) = 0 then (some true) else (if bt549.2.2.2.2.1 > 0 then (if (bt549.2.2.2.2.2.2.2.1.length : Int) = 1 then (if 0 < (bt549.2.2.2.2.2.2.2.1.length : Int) then (if ((rd_T37 bt549.2.2.2.2.2.2.2.1 0).f0) = (wrap64 (bt549.2.2.2.2.1 - 1)) then (some (((rd_T37 bt549.2.2.2.2.2.2.2.1 0).f3) == 500)) else (none)) else (none)) else (none)) else (none))) else (if bt549.2.2.2.2.1 > 0 then (if (bt549.2.2.2.2.2.2.2.1.length : Int) = 1 then (if 0 < (bt549.2.2.2.2.2.2.2.1.length : Int) then (if ((rd_T37 bt549.2.2.2.2.2.2.2.1 0).f0) = (wrap64 (bt549.2.2.2.2.1 - 1)) then (some (((rd_T37 bt549.2.2.2.2.2.2.2.1 0).f3) == 500)) else (none)) else (none)) else (none)) else (none))) else (none)) else (none))))) = some r := by rw [if_pos rfl] at H; exact H
    clear H
    have H := H1
    clear H1
    replace H := Option.bind_eq_some_iff.mp H
    obtain ⟨⟨t527, t528, t529, t530, t531, t532⟩, A60, H⟩ := H
    replace H : ((account_Open.f 0 500 t528 t529 t530 true true (wrap64 (700000 + (wrap64 (a1))))).bind fun bt534 => ((account_Day.f k bt534.1 bt534.2.1 bt534.2.2.1 bt534.2.2.2.1 bt534.2.2.2.2.1 bt534.2.2.2.2.2.1 bt534.2.2.2.2.2.2.1 bt534.2.2.2.2.2.2.2.1 bt534.2.2.2.2.2.2.2.2.1 bt534.2.2.2.2.2.2.2.2.2.1 bt534.2.2.2.2.2.2.2.2.2.2.1 bt534.2.2.2.2.2.2.2.2.2.2.2.1 bt534.2.2.2.2.2.2.2.2.2.2.2.2 500 t528 t529 t530 true true (wrap64 ((wrap64 (700000 + (wrap64 (a1)))) + (wrap64 (a2))))).bind fun bt549 => (if bt549.2.2.2.2.2.2.2.2.2.2.2.2.2 = 0 then (if (wrap64 (bt549.2.2.2.2.2.2.2.2.2.2.2.1 + (bt549.2.2.2.2.2.2.2.1.length : Int))) = bt549.2.2.2.2.1 then (if bt549.2.2.2.2.1 = 0 then (if (bt549.2.2.2.2.2.2.2.1.length : Int) = 0 then (some true) else (if bt549.2.2.2.2.1 > 0 then (if (bt549.2.2.2.2.2.2.2.1.length : Int) = 1 then (if 0 < (bt549.2.2.2.2.2.2.2.1.length : Int) then (if ((rd_T37 bt549.2.2.2.2.2.2.2.1 0).f0) = (wrap64 (bt549.2.2.2.2.1 - 1)) then (some (((rd_T37 bt549.2.2.2.2.2.2.2.1 0).f3) == 500)) else (none)) else (none)) else (none)) else (none))) else (if bt549.2.2.2.2.1 > 0 then (if (bt549.2.2.2.2.2.2.2.1.length : Int) = 1 then (if 0 < (bt549.2.2.2.2.2.2.2.1.length : Int) then (if ((rd_T37 bt549.2.2.2.2.2.2.2.1 0).f0) = (wrap64 (bt549.2.2.2.2.1 - 1)) then (some (((rd_T37 bt549.2.2.2.2.2.2.2.1 0).f3) == 500)) else (none)) else (none)) else (none)) else (none))) else (none)) else (none)))) = some r := H
    have A6 := Aside0.mk A60
    clear A60
    replace H := Option.bind_eq_some_iff.mp H
    obtain ⟨⟨t534, t535, t536, t537, t538, t539, t540, t541, t544, t545, t546, t547, t548⟩, A70, H⟩ := H
    replace H : ((account_Day.f k t534 t535 t536 t537 t538 t539 t540 t541 t544 t545 t546 t547 t548 500 t528 t529 t530 true true (wrap64 ((wrap64 (700000 + (wrap64 (a1)))) + (wrap64 (a2))))).bind fun bt549 => (if bt549.2.2.2.2.2.2.2.2.2.2.2.2.2 = 0 then (if (wrap64 (bt549.2.2.2.2.2.2.2.2.2.2.2.1 + (bt549.2.2.2.2.2.2.2.1.length : Int))) = bt549.2.2.2.2.1 then (if bt549.2.2.2.2.1 = 0 then (if (bt549.2.2.2.2.2.2.2.1.length : Int) = 0 then (some true) else (if bt549.2.2.2.2.1 > 0 then (if (bt549.2.2.2.2.2.2.2.1.length : Int) = 1 then (if 0 < (bt549.2.2.2.2.2.2.2.1.length : Int) then (if ((rd_T37 bt549.2.2.2.2.2.2.2.1 0).f0) = (wrap64 (bt549.2.2.2.2.1 - 1)) then (some (((rd_T37 bt549.2.2.2.2.2.2.2.1 0).f3) == 500)) else (none)) else (none)) else (none)) else (none))) else (if bt549.2.2.2.2.1 > 0 then (if (bt549.2.2.2.2.2.2.2.1.length : Int) = 1 then (if 0 < (bt549.2.2.2.2.2.2.2.1.length : Int) then (if ((rd_T37 bt549.2.2.2.2.2.2.2.1 0).f0) = (wrap64 (bt549.2.2.2.2.1 - 1)) then (some (((rd_T37 bt549.2.2.2.2.2.2.2.1 0).f3) == 500)) else (none)) else (none)) else (none)) else (none))) else (none)) else (none))) = some r := H
    have A7 := Aside0.mk A70
    clear A70
    replace H := Option.bind_eq_some_iff.mp H
    obtain ⟨⟨t549, t550, t551, t552, t553, t554, t555, t556, t559, t560, t561, t562, t563, t564⟩, A80, H⟩ := H
    replace H : (if t564 = 0 then (if (wrap64 (t562 + (t556.length : Int))) = t553 then (if t553 = 0 then (if (t556.length : Int) = 0 then (some true) else (if t553 > 0 then (if (t556.length : Int) = 1 then (if 0 < (t556.length : Int) then (if ((rd_T37 t556 0).f0) = (wrap64 (t553 - 1)) then (some (((rd_T37 t556 0).f3) == 500)) else (none)) else (none)) else (none)) else (none))) else (if t553 > 0 then (if (t556.length : Int) = 1 then (if 0 < (t556.length : Int) then (if ((rd_T37 t556 0).f0) = (wrap64 (t553 - 1)) then (some (((rd_T37 t556 0).f3) == 500)) else (none)) else (none)) else (none)) else (none))) else (none)) else (none)) = some r := H
    have A8 := Aside0.mk A80
    clear A80
    by_cases c9 : t564 = 0
    · rw [if_pos c9] at H
      have c9b0 : (t564 == 0) = true := beq_iff_eq.mpr c9
      have c9b1 : (t564 != 0) = false := bne_eq_false_iff_eq.mpr c9
      clear c9
      by_cases c10 : (wrap64 (t562 + (t556.length : Int))) = t553
      · rw [if_pos c10] at H
        have c10b0 : ((wrap64 (t562 + (t556.length : Int))) == t553) = true := beq_iff_eq.mpr c10
        have c10b1 : ((wrap64 (t562 + (t556.length : Int))) != t553) = false := bne_eq_false_iff_eq.mpr c10
        clear c10
        go_enter Try.func4, Try.ntmps4
        try go_wp2_with (first | ((with_reducible refine gate_callee (f := 9) rfl ?_); refine goesL_ (some 11) rfl rfl Try.func9 (by kernel_rfl) rfl #[] rfl (by (try simp only [List.map_toArray, List.map_cons, List.map_nil]); first | done | rfl | (simp only [List.length_drop, List.length_take]; rfl)) ?_; (with_reducible refine (paybooklaw13_awake.calls k  true _ A4.out).mono ?_); rintro e w13 ⟨rfl, hb⟩; refine ⟨_, rfl, ?_⟩; have n0_ := Aside0.mk (below_step (by repeat (first | (with_reducible first | exact HB.out | apply below_alloc | apply pw_below_drewN | apply below_drew1) | exact HB.out)) hb); clear HB; have HB := n0_; clear n0_; (try clear hb); (try clear hb2); (try clear hk); (try clear hi)) | ((with_reducible refine gate_callee (f := 10) rfl ?_); refine goesL_ (some 14) rfl rfl Try.func10 (by kernel_rfl) rfl #[.int .u8 a0] rfl (by (try simp only [List.map_toArray, List.map_cons, List.map_nil]); first | done | rfl | (simp only [List.length_drop, List.length_take]; rfl)) ?_; (with_reducible refine (paybookref12_Plan.calls a0 t527 t528 t529 t530 t531 t532 _ A6.out).mono ?_); rintro e w14 ⟨rfl, hb⟩; refine ⟨_, rfl, ?_⟩; have n0_ := Aside0.mk (below_step (by repeat (first | (with_reducible first | exact HB.out | apply below_alloc | apply pw_below_drewN | apply below_drew1) | exact HB.out)) hb); clear HB; have HB := n0_; clear n0_; (try clear hb); (try clear hb2); (try clear hk); (try clear hi)) | ((with_reducible refine gate_dst (N := 7) rfl ?_); (try (refine gate_guard (by rfl) ?_; dsimp only)); refine box_event ?hg (N := 7) ?hd (cs := #[.int .i64 0, .int .u8 0, .int .i64 0, .int .i64 0, .bool false, .bool false]) (t := 25) ?hr ?_; (case hd => rfl); (case hg => rfl); (case hr => first | (go_simp; done) | (go_simp; rfl)); intro gb533 hg w15 hbox hb; have n0_ := Aside0.mk (below_step (by repeat (first | (with_reducible first | exact HB.out | apply below_alloc | apply pw_below_drewN | apply below_drew1) | exact HB.out)) hb); have n1_ := Aside0.mk (hbox); have n2_ := Aside0.mk ((by rw [hg]; exact (below_size (by repeat (first | (with_reducible first | exact HB.out | apply below_alloc | apply pw_below_drewN | apply below_drew1) | exact HB.out))) : w.heap.size ≤ gb533)); have n3_ := Aside0.mk ((by rw [hg]; exact (below_size (by repeat (first | (with_reducible first | exact HB.out | apply below_alloc | apply pw_below_drewN | apply below_drew1) | exact HB.out))) : w.heap.size ≤ gb533)); clear HB; have HB := n0_; have BK533 := n1_; have GW533 := n2_; have GE533 := n3_; clear n0_ n1_ n2_ n3_; clear hb hbox hg; obtain ⟨hcz16_0, hcz16_1, hcz16_2, hcz16_3, hcz16_4, hcz16_5⟩ := bc6 BK533.out; obtain ⟨hfz16_0, hfz16_1, hfz16_2, hfz16_3, hfz16_4, hfz16_5⟩ := bf6 BK533.out))
        have n0_ : Aside0 ((((((((((w15.setCell ⟨gb533, 0, none⟩ (.int .i64 t527)).setCell ⟨gb533, 1, none⟩ (.int .u8 t528)).setCell ⟨gb533, 2, none⟩ (.int .i64 t529)).setCell ⟨gb533, 3, none⟩ (.int .i64 t530)).setCell ⟨gb533, 4, none⟩ (.bool t531)).setCell ⟨gb533, 5, none⟩ (.bool t532)).setCell ⟨gb533, 5, none⟩ (.bool true)).setCell ⟨gb533, 0, none⟩ (.int .i64 500)).setCell ⟨gb533, 4, none⟩ (.bool true)).heap[gb533]? = some (.cells #[.int .i64 500, .int .u8 t528, .int .i64 t529, .int .i64 t530, .bool true, .bool true] 25 (0, 0))) := ⟨by (with_reducible repeat (first | refine blk_drewN ?_ _ | refine blk_drew ?_ | refine blk_alloc ?_ _)); refine blk_put (cs := #[.int .i64 500, .int .u8 t528, .int .i64 t529, .int .i64 t530, .bool t531, .bool true]) ?_ 4 _ rfl; (with_reducible repeat (first | refine blk_drewN ?_ _ | refine blk_drew ?_ | refine blk_alloc ?_ _)); refine blk_put (cs := #[.int .i64 t527, .int .u8 t528, .int .i64 t529, .int .i64 t530, .bool t531, .bool true]) ?_ 0 _ rfl; (with_reducible repeat (first | refine blk_drewN ?_ _ | refine blk_drew ?_ | refine blk_alloc ?_ _)); refine blk_put (cs := #[.int .i64 t527, .int .u8 t528, .int .i64 t529, .int .i64 t530, .bool t531, .bool t532]) ?_ 5 _ rfl; (with_reducible repeat (first | refine blk_drewN ?_ _ | refine blk_drew ?_ | refine blk_alloc ?_ _)); refine bp6 (.int .i64 0) (.int .u8 0) (.int .i64 0) (.int .i64 0) (.bool false) (.bool false) ?_; (with_reducible repeat (first | refine blk_drewN ?_ _ | refine blk_drew ?_ | refine blk_alloc ?_ _)); exact BK533.out⟩
        have n1_ : Aside0 (Below w.heap.size w (((((((((w15.setCell ⟨gb533, 0, none⟩ (.int .i64 t527)).setCell ⟨gb533, 1, none⟩ (.int .u8 t528)).setCell ⟨gb533, 2, none⟩ (.int .i64 t529)).setCell ⟨gb533, 3, none⟩ (.int .i64 t530)).setCell ⟨gb533, 4, none⟩ (.bool t531)).setCell ⟨gb533, 5, none⟩ (.bool t532)).setCell ⟨gb533, 5, none⟩ (.bool true)).setCell ⟨gb533, 0, none⟩ (.int .i64 500)).setCell ⟨gb533, 4, none⟩ (.bool true))) := ⟨by repeat (first | (with_reducible first | exact HB.out | apply below_alloc | apply pw_below_drewN | apply below_drew1 | refine below_set ?_ GE533.out) | exact HB.out)⟩
        (try clear BK533)
        (try clear HB)
        generalize (((((((((w15.setCell ⟨gb533, 0, none⟩ (.int .i64 t527)).setCell ⟨gb533, 1, none⟩ (.int .u8 t528)).setCell ⟨gb533, 2, none⟩ (.int .i64 t529)).setCell ⟨gb533, 3, none⟩ (.int .i64 t530)).setCell ⟨gb533, 4, none⟩ (.bool t531)).setCell ⟨gb533, 5, none⟩ (.bool t532)).setCell ⟨gb533, 5, none⟩ (.bool true)).setCell ⟨gb533, 0, none⟩ (.int .i64 500)).setCell ⟨gb533, 4, none⟩ (.bool true)) = w17 at n0_ n1_ ⊢
        have BK533 := n0_
        have HB := n1_
        clear n0_ n1_
        have n0_ := Aside0.mk (blk_drew BK533.out)
        have n1_ := Aside0.mk (below_drew1 HB.out)
        clear BK533
        clear HB
        have BK533 := n0_
        have HB := n1_
        clear n0_ n1_
        refine start_ (n := 15) (S := fun w' => w'.cell? ⟨gb533, 0, none⟩ = some (.int .i64 500) ∧ w'.cell? ⟨gb533, 1, none⟩ = some (.int .u8 t528) ∧ w'.cell? ⟨gb533, 2, none⟩ = some (.int .i64 t529) ∧ w'.cell? ⟨gb533, 3, none⟩ = some (.int .i64 t530) ∧ w'.cell? ⟨gb533, 4, none⟩ = some (.bool true) ∧ w'.cell? ⟨gb533, 5, none⟩ = some (.bool true)) (ds := []) #[false, false, false, false, false, false, false, false, false, false, false, false, false, false, false] (by kernel_rfl) rfl rfl ⟨(blk_cell BK533.out 0).trans rfl, (blk_cell BK533.out 1).trans rfl, (blk_cell BK533.out 2).trans rfl, (blk_cell BK533.out 3).trans rfl, (blk_cell BK533.out 4).trans rfl, (blk_cell BK533.out 5).trans rfl⟩ (fun hHeld => ?_); refine with_tabW paybooklaw13_AccountLast.tab8 paybooklaw13_AccountLast.bits8 (fun HT_ HW_ => ?_)
        generalize w17.drew = w18 at BK533 HB hHeld ⊢
        refine pure_ (i := 1) (N := some 23) (v := ?_) (a' := ?_) #[false, true, false, false, false, false, false, false, false, false, false, false, false, false, false] rfl rfl (any_of HT_.out (by kernel_rfl)) (fun _ _ _ h => h) (Or.inl ⟨by rfl, ?_⟩) ?_ ?_
        rotate_left
        · intro w'
          go_simp
          with_reducible rfl
        rotate_left
        · simp only [Act.put, List.setIfInBounds_toArray, List.set_cons_zero, List.set_cons_succ, i64_w, i32_w]
          rfl
        refine pure_ (i := 4) (N := some 26) (v := ?_) (a' := ?_) #[false, true, false, false, true, false, false, false, false, false, false, false, false, false, false] rfl rfl (any_of HT_.out (by kernel_rfl)) (fun _ _ _ h => h) (Or.inl ⟨by rfl, ?_⟩) ?_ ?_
        rotate_left
        · intro w'
          go_simp
          with_reducible rfl
        rotate_left
        · simp only [Act.put, List.setIfInBounds_toArray, List.set_cons_zero, List.set_cons_succ, i64_w, i32_w]
          rfl
        refine pure_ (i := 5) (N := some 27) (v := ?_) (a' := ?_) #[false, true, false, false, true, true, false, false, false, false, false, false, false, false, false] rfl rfl (any_of HT_.out (by kernel_rfl)) (fun _ _ _ h => h) (Or.inl ⟨by rfl, ?_⟩) ?_ ?_
        rotate_left
        · intro w'
          go_simp
          with_reducible rfl
        rotate_left
        · simp only [Act.put, List.setIfInBounds_toArray, List.set_cons_zero, List.set_cons_succ, i64_w, i32_w]
          rfl
        refine pure_ (i := 6) (N := some 28) (v := ?_) (a' := ?_) #[false, true, false, false, true, true, true, false, false, false, false, false, false, false, false] rfl rfl (any_of HT_.out (by kernel_rfl)) (fun _ _ _ h => h) (Or.inl ⟨by rfl, ?_⟩) ?_ ?_
        rotate_left
        · intro w'
          go_simp
          with_reducible rfl
        rotate_left
        · simp only [Act.put, List.setIfInBounds_toArray, List.set_cons_zero, List.set_cons_succ, i64_w, i32_w]
          rfl
        refine pure_ (i := 7) (N := some 29) (v := ?_) (a' := ?_) #[false, true, false, false, true, true, true, true, false, false, false, false, false, false, false] rfl rfl (any_of HT_.out (by kernel_rfl)) (fun _ _ _ h => h) (Or.inl ⟨by rfl, ?_⟩) ?_ ?_
        rotate_left
        · intro w'
          go_simp
          with_reducible rfl
        rotate_left
        · simp only [Act.put, List.setIfInBounds_toArray, List.set_cons_zero, List.set_cons_succ, i64_w, i32_w]
          rfl
        refine take_ (i := 0) (N := some 22) (v := ?_) (a' := ?_) #[true, true, false, false, true, true, true, true, false, false, false, false, false, false, false] rfl rfl (take_ofW HT_.out HW_.out (by kernel_rfl)) (fun _ _ _ h => h) (Or.inl ⟨by rfl, ?_⟩) hHeld ?_ ?_
        rotate_left
        · rintro w' ⟨s0, s1, s2, s3, s4, s5⟩
          go_simp
          with_reducible rfl
        rotate_left
        · simp only [Act.put, List.setIfInBounds_toArray, List.set_cons_zero, List.set_cons_succ, i64_w, i32_w]
          rfl
        refine take_ (i := 3) (N := some 25) (v := ?_) (a' := ?_) #[true, true, false, true, true, true, true, true, false, false, false, false, false, false, false] rfl rfl (take_ofW HT_.out HW_.out (by kernel_rfl)) (fun _ _ _ h => h) (Or.inl ⟨by rfl, ?_⟩) hHeld ?_ ?_
        rotate_left
        · rintro w' ⟨s0, s1, s2, s3, s4, s5⟩
          go_simp
          with_reducible rfl
        rotate_left
        · simp only [Act.put, List.setIfInBounds_toArray, List.set_cons_zero, List.set_cons_succ, i64_w, i32_w]
          rfl
        refine join_ (σ := Value × Value × Nat) 2 #[true, true, true, true, true, true, true, true, true, true, true, true, true, false, false] (fun s_ => [(24, .agg #[.int .u8 t534, .int .i64 t535, .int .i64 t536, .int .i64 t537, .int .i64 t538, .int .i64 t539, .bool t540, s_.1, .int .i64 t544, .int .i64 t545, .int .i64 t546, .int .i64 t547, .int .i64 t548]), (30, .tuple #[.agg #[.int .u8 t549, .int .i64 t550, .int .i64 t551, .int .i64 t552, .int .i64 t553, .int .i64 t554, .bool t555, s_.2.1, .int .i64 t559, .int .i64 t560, .int .i64 t561, .int .i64 t562, .int .i64 t563], .int .i64 t564]), (9, .pointer (some ⟨s_.2.2, 0, none⟩)), (21, .tuple #[.agg #[.int .u8 t549, .int .i64 t550, .int .i64 t551, .int .i64 t552, .int .i64 t553, .int .i64 t554, .bool t555, s_.2.1, .int .i64 t559, .int .i64 t560, .int .i64 t561, .int .i64 t562, .int .i64 t563], .int .i64 t564]), (31, .agg #[.int .u8 t549, .int .i64 t550, .int .i64 t551, .int .i64 t552, .int .i64 t553, .int .i64 t554, .bool t555, s_.2.1, .int .i64 t559, .int .i64 t560, .int .i64 t561, .int .i64 t562, .int .i64 t563]), (32, .int .i64 t564)]) (fun s_ w' => (w'.cell? ⟨gb533, 0, none⟩ = some (.int .i64 500) ∧ w'.cell? ⟨gb533, 1, none⟩ = some (.int .u8 t528) ∧ w'.cell? ⟨gb533, 2, none⟩ = some (.int .i64 t529) ∧ w'.cell? ⟨gb533, 3, none⟩ = some (.int .i64 t530) ∧ w'.cell? ⟨gb533, 4, none⟩ = some (.bool true) ∧ w'.cell? ⟨gb533, 5, none⟩ = some (.bool true)) ∧ (Kd.R k37 37 w' w.heap.size (fun k_ => some k_ ≠ (s_.2.1 : Value).ownBlock) s_.1 t541) ∧ (Kd.R k37 37 w' w.heap.size (fun k_ => some k_ ≠ (s_.1 : Value).ownBlock) s_.2.1 t556) ∧ (w'.heap[gb533]? = some (.cells #[.int .i64 500, .int .u8 t528, .int .i64 t529, .int .i64 t530, .bool true, .bool true] 25 (0, 0))) ∧ (w'.heap[s_.2.2]? = some (.cells #[.int .u8 0, .int .i64 0, .int .i64 0, .int .i64 0, .int .i64 0, .int .i64 0, .bool false, .slice none 0 0, .int .i64 0, .int .i64 0, .int .i64 0, .int .i64 0, .int .i64 0] 31 (0, 0))) ∧ (w.heap.size ≤ s_.2.2) ∧ (w.heap.size ≤ s_.2.2) ∧ (gb533 ≠ s_.2.2) ∧ (s_.2.2 ≠ gb533) ∧ (Below w.heap.size w w')) ?_ ?_
        rotate_left
        · intro hCont
          refine two_ (i := 2) (j := 12) (Ni := some 24) (Nj := some 9) #[true, true, true, true, true, true, true, true, false, false, false, false, false, false, false] #[true, true, false, true, true, true, true, true, false, false, false, false, true, false, false] rfl rfl rfl rfl (two_of HT_.out (by kernel_rfl)) (by decide) (by decide) (fun K hK => ?_) (fun K hK => ?_)
          · skip
            refine goes_ Try.func11 (by kernel_rfl) rfl #[.int .i64 0, .agg #[.int .i64 500, .int .u8 t528, .int .i64 t529, .int .i64 t530, .bool true, .bool true], .int .i64 (wrap64 (700000 + (wrap64 (a1))))] (by rfl) rfl rfl (by (try simp only [List.map_toArray, List.map_cons, List.map_nil]); first | done | rfl | (simp only [List.length_drop, List.length_take]; rfl)) ?_
            with_reducible refine (account_Open.calls 0 500 t528 t529 t530 true true (wrap64 (700000 + (wrap64 (a1)))) t534 t535 t536 t537 t538 t539 t540 t541 t544 t545 t546 t547 t548 _ A7.out).mono ?_
            rintro e w19 ⟨v542, rfl, ho0, hb⟩
            refine ⟨_, rfl, ?_⟩
            have n0_ := Aside0.mk (Kd.R_lower ho0 (below_size (by repeat (first | (with_reducible first | exact HB.out | apply below_alloc | apply pw_below_drewN | apply below_drew1 | refine below_set ?_ GE533.out) | exact HB.out))))
            have n1_ := Aside0.mk (blk_below (g := gb533) (o := .cells #[.int .i64 500, .int .u8 t528, .int .i64 t529, .int .i64 t530, .bool true, .bool true] 25 (0, 0)) (by (with_reducible repeat (first | refine blk_drewN ?_ _ | refine blk_drew ?_ | refine blk_alloc ?_ _)); exact BK533.out) hb)
            have n2_ := Aside0.mk (below_step (by repeat (first | (with_reducible first | exact HB.out | apply below_alloc | apply pw_below_drewN | apply below_drew1 | refine below_set ?_ GE533.out) | exact HB.out)) hb)
            clear BK533
            clear HB
            have HO543 := n0_
            have BK533 := n1_
            have HB := n2_
            clear n0_ n1_ n2_
            (try clear hb)
            (try clear hb2)
            (try clear hk)
            (try clear hi)
            (try clear ho0)
            obtain ⟨Ao20, co20, eo20⟩ := Kd.R_slice HO543.out
            (first | subst eo20 | (injection eo20 with f1_ f2_ f3_; have f4_ := f1_.symm; have f5_ := f3_.symm; clear f1_ f2_ f3_; subst f4_; subst f5_))
            refine hK.out _ _ ⟨(blk_cell BK533.out 0).trans rfl, (blk_cell BK533.out 1).trans rfl, (blk_cell BK533.out 2).trans rfl, (blk_cell BK533.out 3).trans rfl, (blk_cell BK533.out 4).trans rfl, (blk_cell BK533.out 5).trans rfl⟩ (fun hHeld => ?_)
            clear hK K
            refine norm_ (a' := ?_) ?_ ?_
            rotate_left
            · show Act.put _ (some 24) _ = _
              simp only [Act.put, List.setIfInBounds_toArray, List.set_cons_zero, List.set_cons_succ, i64_w, i32_w]
              rfl
            refine two_ (i := 8) (j := 12) (Ni := some 30) (Nj := some 9) #[true, true, true, true, true, true, true, true, true, false, false, false, false, false, false] #[true, true, true, true, true, true, true, true, false, false, false, false, true, false, false] rfl rfl rfl rfl (two_of HT_.out (by kernel_rfl)) (by decide) (by decide) (fun K hK => ?_) (fun K hK => ?_)
            · skip
              refine goes_ Try.func12 (by kernel_rfl) rfl #[.agg #[.int .u8 t534, .int .i64 t535, .int .i64 t536, .int .i64 t537, .int .i64 t538, .int .i64 t539, .bool t540, .slice Ao20 t541.length co20, .int .i64 t544, .int .i64 t545, .int .i64 t546, .int .i64 t547, .int .i64 t548], .agg #[.int .i64 500, .int .u8 t528, .int .i64 t529, .int .i64 t530, .bool true, .bool true], .int .i64 (wrap64 ((wrap64 (700000 + (wrap64 (a1)))) + (wrap64 (a2))))] (by rfl) rfl rfl (by (try simp only [List.map_toArray, List.map_cons, List.map_nil]); first | done | rfl | (simp only [List.length_drop, List.length_take]; rfl)) ?_
              with_reducible refine (account_Day.calls k t534 t535 t536 t537 t538 t539 t540 _ _ t541 t544 t545 t546 t547 t548 500 t528 t529 t530 true true (wrap64 ((wrap64 (700000 + (wrap64 (a1)))) + (wrap64 (a2)))) t549 t550 t551 t552 t553 t554 t555 t556 t559 t560 t561 t562 t563 t564 _ ?side1 ?side2 A8.out).mono ?_
              (case side1 => repeat (first | exact (Kd.R_reads' HO543.out).2.2 | (with_reducible refine Kd.C_alloc ?_ _) | (with_reducible refine Kd.C_drewN ?_ _) | (with_reducible refine Kd.C_drew ?_)))
              (case side2 => exact (Kd.R_reads' HO543.out).2.1)
              rintro e w21 ⟨v557, rfl, ho0, hb⟩
              refine ⟨_, rfl, ?_⟩
              have n0_ := Aside0.mk (Kd.R_elder' (by (with_reducible repeat (first | apply Kd.R_alloc | apply Kd.R_drewN | apply Kd.R_drew)); exact HO543.out) (Kd.R_base ho0) hb)
              have n1_ := Aside0.mk (Kd.R_lower (Kd.R_new' ho0 (Kd.R_lt (by (with_reducible repeat (first | apply Kd.R_alloc | apply Kd.R_drewN | apply Kd.R_drew)); exact HO543.out))) (below_size (by repeat (first | (with_reducible first | exact HB.out | apply below_alloc | apply pw_below_drewN | apply below_drew1 | refine below_set ?_ GE533.out) | exact HB.out))))
              have n2_ := Aside0.mk (blk_below (g := gb533) (o := .cells #[.int .i64 500, .int .u8 t528, .int .i64 t529, .int .i64 t530, .bool true, .bool true] 25 (0, 0)) (by (with_reducible repeat (first | refine blk_drewN ?_ _ | refine blk_drew ?_ | refine blk_alloc ?_ _)); exact BK533.out) hb)
              have n3_ := Aside0.mk (below_step (by repeat (first | (with_reducible first | exact HB.out | apply below_alloc | apply pw_below_drewN | apply below_drew1 | refine below_set ?_ GE533.out) | exact HB.out)) hb)
              clear HO543
              clear BK533
              clear HB
              have HO543 := n0_
              have HO558 := n1_
              have BK533 := n2_
              have HB := n3_
              clear n0_ n1_ n2_ n3_
              (try clear hb)
              (try clear hb2)
              (try clear hk)
              (try clear hi)
              (try clear ho0)
              refine hK.out _ _ ⟨(blk_cell BK533.out 0).trans rfl, (blk_cell BK533.out 1).trans rfl, (blk_cell BK533.out 2).trans rfl, (blk_cell BK533.out 3).trans rfl, (blk_cell BK533.out 4).trans rfl, (blk_cell BK533.out 5).trans rfl⟩ (fun hHeld => ?_)
              clear hK K
              refine norm_ (a' := ?_) ?_ ?_
              rotate_left
              · show Act.put _ (some 30) _ = _
                simp only [Act.put, List.setIfInBounds_toArray, List.set_cons_zero, List.set_cons_succ, i64_w, i32_w]
                rfl
              refine pure_ (i := 9) (N := some 21) (v := ?_) (a' := ?_) #[true, true, true, true, true, true, true, true, true, true, false, false, false, false, false] rfl rfl (any_of HT_.out (by kernel_rfl)) (fun _ _ _ h => h) (Or.inl ⟨by rfl, ?_⟩) ?_ ?_
              rotate_left
              · intro w'
                go_simp
                with_reducible rfl
              rotate_left
              · simp only [Act.put, List.setIfInBounds_toArray, List.set_cons_zero, List.set_cons_succ, i64_w, i32_w]
                rfl
              refine pure_ (i := 10) (N := some 31) (v := ?_) (a' := ?_) #[true, true, true, true, true, true, true, true, true, true, true, false, false, false, false] rfl rfl (any_of HT_.out (by kernel_rfl)) (fun _ _ _ h => h) (Or.inl ⟨by rfl, ?_⟩) ?_ ?_
              rotate_left
              · intro w'
                go_simp
                with_reducible rfl
              rotate_left
              · simp only [Act.put, List.setIfInBounds_toArray, List.set_cons_zero, List.set_cons_succ, i64_w, i32_w]
                rfl
              refine pure_ (i := 11) (N := some 32) (v := ?_) (a' := ?_) #[true, true, true, true, true, true, true, true, true, true, true, true, false, false, false] rfl rfl (any_of HT_.out (by kernel_rfl)) (fun _ _ _ h => h) (Or.inl ⟨by rfl, ?_⟩) ?_ ?_
              rotate_left
              · intro w'
                go_simp
                with_reducible rfl
              rotate_left
              · simp only [Act.put, List.setIfInBounds_toArray, List.set_cons_zero, List.set_cons_succ, i64_w, i32_w]
                rfl
              refine one_ (i := 12) (N := some 9) #[true, true, true, true, true, true, true, true, true, true, true, true, true, false, false] rfl rfl (one_of HT_.out (by kernel_rfl)) (by decide) (fun K hK => ?_)
              refine box_step ?hg (N := 9) ?hd (cs := #[.int .u8 0, .int .i64 0, .int .i64 0, .int .i64 0, .int .i64 0, .int .i64 0, .bool false, .slice none 0 0, .int .i64 0, .int .i64 0, .int .i64 0, .int .i64 0, .int .i64 0]) (t := 31) ?hr ?_; (case hd => rfl); (case hg => rfl); (case hr => first | (go_simp; done) | (go_simp; rfl))
              intro gb565 hg w22 hbox hb
              have n0_ := Aside0.mk (Kd.R_below (by (with_reducible repeat (first | apply Kd.R_alloc | apply Kd.R_drewN | apply Kd.R_drew)); exact HO543.out) hb)
              have n1_ := Aside0.mk (Kd.R_below (by (with_reducible repeat (first | apply Kd.R_alloc | apply Kd.R_drewN | apply Kd.R_drew)); exact HO558.out) hb)
              have n2_ := Aside0.mk (blk_below (g := gb533) (o := .cells #[.int .i64 500, .int .u8 t528, .int .i64 t529, .int .i64 t530, .bool true, .bool true] 25 (0, 0)) (by (with_reducible repeat (first | refine blk_drewN ?_ _ | refine blk_drew ?_ | refine blk_alloc ?_ _)); exact BK533.out) hb)
              have n3_ := Aside0.mk (below_step (by repeat (first | (with_reducible first | exact HB.out | apply below_alloc | apply pw_below_drewN | apply below_drew1 | refine below_set ?_ GE533.out) | exact HB.out)) hb)
              have n4_ := Aside0.mk (hbox)
              have n5_ := Aside0.mk ((by rw [hg]; exact (below_size (by repeat (first | (with_reducible first | exact HB.out | apply below_alloc | apply pw_below_drewN | apply below_drew1 | refine below_set ?_ GE533.out) | exact HB.out))) : w.heap.size ≤ gb565))
              have n6_ := Aside0.mk ((by rw [hg]; exact (below_size (by repeat (first | (with_reducible first | exact HB.out | apply below_alloc | apply pw_below_drewN | apply below_drew1 | refine below_set ?_ GE533.out) | exact HB.out))) : w.heap.size ≤ gb565))
              have n7_ := Aside0.mk ((by rw [hg]; exact Nat.ne_of_lt (blk_lt (g := gb533) (o := .cells #[.int .i64 500, .int .u8 t528, .int .i64 t529, .int .i64 t530, .bool true, .bool true] 25 (0, 0)) (by (with_reducible repeat (first | refine blk_drewN ?_ _ | refine blk_drew ?_ | refine blk_alloc ?_ _)); exact BK533.out)) : gb533 ≠ gb565))
              have n8_ := Aside0.mk ((by rw [hg]; exact Nat.ne_of_gt (blk_lt (g := gb533) (o := .cells #[.int .i64 500, .int .u8 t528, .int .i64 t529, .int .i64 t530, .bool true, .bool true] 25 (0, 0)) (by (with_reducible repeat (first | refine blk_drewN ?_ _ | refine blk_drew ?_ | refine blk_alloc ?_ _)); exact BK533.out)) : gb565 ≠ gb533))
              clear HO543
              clear HO558
              clear BK533
              clear HB
              have HO543 := n0_
              have HO558 := n1_
              have BK533 := n2_
              have HB := n3_
              have BK565 := n4_
              have GW565 := n5_
              have GE565 := n6_
              have NB533_565 := n7_
              have NB565_533 := n8_
              clear n0_ n1_ n2_ n3_ n4_ n5_ n6_ n7_ n8_
              clear hb hbox hg
              refine hK.out _ _ ⟨(blk_cell BK533.out 0).trans rfl, (blk_cell BK533.out 1).trans rfl, (blk_cell BK533.out 2).trans rfl, (blk_cell BK533.out 3).trans rfl, (blk_cell BK533.out 4).trans rfl, (blk_cell BK533.out 5).trans rfl⟩ (fun hHeld => ?_)
              clear hK K
              refine norm_ (a' := ?_) ?_ ?_
              rotate_left
              · show Act.put _ (some 9) _ = _
                simp only [Act.put, List.setIfInBounds_toArray, List.set_cons_zero, List.set_cons_succ, i64_w, i32_w]
                rfl
              exact norm_ (by simp only [putAll, Act.put, List.setIfInBounds_toArray, List.set_cons_zero, List.set_cons_succ]) (hCont (.slice Ao20 t541.length co20, v557, gb565) _ ⟨hHeld, (by (with_reducible repeat (first | apply Kd.R_alloc | apply Kd.R_drewN | apply Kd.R_drew)); exact Kd.R_mono HO543.out (fun _ hk => hk.2)), (by (with_reducible repeat (first | apply Kd.R_alloc | apply Kd.R_drewN | apply Kd.R_drew)); exact Kd.R_mono HO558.out (fun _ hk => hk.2)), (by (with_reducible repeat (first | refine blk_drewN ?_ _ | refine blk_drew ?_ | refine blk_alloc ?_ _)); exact BK533.out), (by (with_reducible repeat (first | refine blk_drewN ?_ _ | refine blk_drew ?_ | refine blk_alloc ?_ _)); exact BK565.out), GW565.out, GE565.out, NB533_565.out, NB565_533.out, (by repeat (first | (with_reducible first | exact HB.out | apply below_alloc | apply pw_below_drewN | apply below_drew1 | refine below_set ?_ GE533.out | refine below_set ?_ GE565.out) | exact HB.out))⟩)
            · skip
              refine box_step ?hg (N := 9) ?hd (cs := #[.int .u8 0, .int .i64 0, .int .i64 0, .int .i64 0, .int .i64 0, .int .i64 0, .bool false, .slice none 0 0, .int .i64 0, .int .i64 0, .int .i64 0, .int .i64 0, .int .i64 0]) (t := 31) ?hr ?_; (case hd => rfl); (case hg => rfl); (case hr => first | (go_simp; done) | (go_simp; rfl))
              intro gb565 hg w20 hbox hb
              have n0_ := Aside0.mk (Kd.R_below (by (with_reducible repeat (first | apply Kd.R_alloc | apply Kd.R_drewN | apply Kd.R_drew)); exact HO543.out) hb)
              have n1_ := Aside0.mk (blk_below (g := gb533) (o := .cells #[.int .i64 500, .int .u8 t528, .int .i64 t529, .int .i64 t530, .bool true, .bool true] 25 (0, 0)) (by (with_reducible repeat (first | refine blk_drewN ?_ _ | refine blk_drew ?_ | refine blk_alloc ?_ _)); exact BK533.out) hb)
              have n2_ := Aside0.mk (below_step (by repeat (first | (with_reducible first | exact HB.out | apply below_alloc | apply pw_below_drewN | apply below_drew1 | refine below_set ?_ GE533.out) | exact HB.out)) hb)
              have n3_ := Aside0.mk (hbox)
              have n4_ := Aside0.mk ((by rw [hg]; exact (below_size (by repeat (first | (with_reducible first | exact HB.out | apply below_alloc | apply pw_below_drewN | apply below_drew1 | refine below_set ?_ GE533.out) | exact HB.out))) : w.heap.size ≤ gb565))
              have n5_ := Aside0.mk ((by rw [hg]; exact (below_size (by repeat (first | (with_reducible first | exact HB.out | apply below_alloc | apply pw_below_drewN | apply below_drew1 | refine below_set ?_ GE533.out) | exact HB.out))) : w.heap.size ≤ gb565))
              have n6_ := Aside0.mk ((by rw [hg]; exact Nat.ne_of_lt (blk_lt (g := gb533) (o := .cells #[.int .i64 500, .int .u8 t528, .int .i64 t529, .int .i64 t530, .bool true, .bool true] 25 (0, 0)) (by (with_reducible repeat (first | refine blk_drewN ?_ _ | refine blk_drew ?_ | refine blk_alloc ?_ _)); exact BK533.out)) : gb533 ≠ gb565))
              have n7_ := Aside0.mk ((by rw [hg]; exact Nat.ne_of_gt (blk_lt (g := gb533) (o := .cells #[.int .i64 500, .int .u8 t528, .int .i64 t529, .int .i64 t530, .bool true, .bool true] 25 (0, 0)) (by (with_reducible repeat (first | refine blk_drewN ?_ _ | refine blk_drew ?_ | refine blk_alloc ?_ _)); exact BK533.out)) : gb565 ≠ gb533))
              clear HO543
              clear BK533
              clear HB
              have HO543 := n0_
              have BK533 := n1_
              have HB := n2_
              have BK565 := n3_
              have GW565 := n4_
              have GE565 := n5_
              have NB533_565 := n6_
              have NB565_533 := n7_
              clear n0_ n1_ n2_ n3_ n4_ n5_ n6_ n7_
              clear hb hbox hg
              obtain ⟨Ao21, co21, eo21⟩ := Kd.R_slice HO543.out
              (first | subst eo21 | (injection eo21 with f1_ f2_ f3_; have f4_ := f1_.symm; have f5_ := f3_.symm; clear f1_ f2_ f3_; subst f4_; subst f5_))
              refine hK.out _ _ ⟨(blk_cell BK533.out 0).trans rfl, (blk_cell BK533.out 1).trans rfl, (blk_cell BK533.out 2).trans rfl, (blk_cell BK533.out 3).trans rfl, (blk_cell BK533.out 4).trans rfl, (blk_cell BK533.out 5).trans rfl⟩ (fun hHeld => ?_)
              clear hK K
              refine norm_ (a' := ?_) ?_ ?_
              rotate_left
              · show Act.put _ (some 9) _ = _
                simp only [Act.put, List.setIfInBounds_toArray, List.set_cons_zero, List.set_cons_succ, i64_w, i32_w]
                rfl
              refine one_ (i := 8) (N := some 30) #[true, true, true, true, true, true, true, true, true, false, false, false, true, false, false] rfl rfl (one_of HT_.out (by kernel_rfl)) (by decide) (fun K hK => ?_)
              refine goes_ Try.func12 (by kernel_rfl) rfl #[.agg #[.int .u8 t534, .int .i64 t535, .int .i64 t536, .int .i64 t537, .int .i64 t538, .int .i64 t539, .bool t540, .slice Ao21 t541.length co21, .int .i64 t544, .int .i64 t545, .int .i64 t546, .int .i64 t547, .int .i64 t548], .agg #[.int .i64 500, .int .u8 t528, .int .i64 t529, .int .i64 t530, .bool true, .bool true], .int .i64 (wrap64 ((wrap64 (700000 + (wrap64 (a1)))) + (wrap64 (a2))))] (by rfl) rfl rfl (by (try simp only [List.map_toArray, List.map_cons, List.map_nil]); first | done | rfl | (simp only [List.length_drop, List.length_take]; rfl)) ?_
              with_reducible refine (account_Day.calls k t534 t535 t536 t537 t538 t539 t540 _ _ t541 t544 t545 t546 t547 t548 500 t528 t529 t530 true true (wrap64 ((wrap64 (700000 + (wrap64 (a1)))) + (wrap64 (a2)))) t549 t550 t551 t552 t553 t554 t555 t556 t559 t560 t561 t562 t563 t564 _ ?side1 ?side2 A8.out).mono ?_
              (case side1 => repeat (first | exact (Kd.R_reads' HO543.out).2.2 | (with_reducible refine Kd.C_alloc ?_ _) | (with_reducible refine Kd.C_drewN ?_ _) | (with_reducible refine Kd.C_drew ?_)))
              (case side2 => exact (Kd.R_reads' HO543.out).2.1)
              rintro e w22 ⟨v557, rfl, ho0, hb⟩
              refine ⟨_, rfl, ?_⟩
              have n0_ := Aside0.mk (Kd.R_elder' (by (with_reducible repeat (first | apply Kd.R_alloc | apply Kd.R_drewN | apply Kd.R_drew)); exact HO543.out) (Kd.R_base ho0) hb)
              have n1_ := Aside0.mk (Kd.R_lower (Kd.R_new' ho0 (Kd.R_lt (by (with_reducible repeat (first | apply Kd.R_alloc | apply Kd.R_drewN | apply Kd.R_drew)); exact HO543.out))) (below_size (by repeat (first | (with_reducible first | exact HB.out | apply below_alloc | apply pw_below_drewN | apply below_drew1 | refine below_set ?_ GE533.out | refine below_set ?_ GE565.out) | exact HB.out))))
              have n2_ := Aside0.mk (blk_below (g := gb533) (o := .cells #[.int .i64 500, .int .u8 t528, .int .i64 t529, .int .i64 t530, .bool true, .bool true] 25 (0, 0)) (by (with_reducible repeat (first | refine blk_drewN ?_ _ | refine blk_drew ?_ | refine blk_alloc ?_ _)); exact BK533.out) hb)
              have n3_ := Aside0.mk (blk_below (g := gb565) (o := .cells #[.int .u8 0, .int .i64 0, .int .i64 0, .int .i64 0, .int .i64 0, .int .i64 0, .bool false, .slice none 0 0, .int .i64 0, .int .i64 0, .int .i64 0, .int .i64 0, .int .i64 0] 31 (0, 0)) (by (with_reducible repeat (first | refine blk_drewN ?_ _ | refine blk_drew ?_ | refine blk_alloc ?_ _)); exact BK565.out) hb)
              have n4_ := Aside0.mk (below_step (by repeat (first | (with_reducible first | exact HB.out | apply below_alloc | apply pw_below_drewN | apply below_drew1 | refine below_set ?_ GE533.out | refine below_set ?_ GE565.out) | exact HB.out)) hb)
              clear HO543
              clear BK533
              clear BK565
              clear HB
              have HO543 := n0_
              have HO558 := n1_
              have BK533 := n2_
              have BK565 := n3_
              have HB := n4_
              clear n0_ n1_ n2_ n3_ n4_
              (try clear hb)
              (try clear hb2)
              (try clear hk)
              (try clear hi)
              (try clear ho0)
              refine hK.out _ _ ⟨(blk_cell BK533.out 0).trans rfl, (blk_cell BK533.out 1).trans rfl, (blk_cell BK533.out 2).trans rfl, (blk_cell BK533.out 3).trans rfl, (blk_cell BK533.out 4).trans rfl, (blk_cell BK533.out 5).trans rfl⟩ (fun hHeld => ?_)
              clear hK K
              refine norm_ (a' := ?_) ?_ ?_
              rotate_left
              · show Act.put _ (some 30) _ = _
                simp only [Act.put, List.setIfInBounds_toArray, List.set_cons_zero, List.set_cons_succ, i64_w, i32_w]
                rfl
              refine pure_ (i := 9) (N := some 21) (v := ?_) (a' := ?_) #[true, true, true, true, true, true, true, true, true, true, false, false, true, false, false] rfl rfl (any_of HT_.out (by kernel_rfl)) (fun _ _ _ h => h) (Or.inl ⟨by rfl, ?_⟩) ?_ ?_
              rotate_left
              · intro w'
                go_simp
                with_reducible rfl
              rotate_left
              · simp only [Act.put, List.setIfInBounds_toArray, List.set_cons_zero, List.set_cons_succ, i64_w, i32_w]
                rfl
              refine pure_ (i := 10) (N := some 31) (v := ?_) (a' := ?_) #[true, true, true, true, true, true, true, true, true, true, true, false, true, false, false] rfl rfl (any_of HT_.out (by kernel_rfl)) (fun _ _ _ h => h) (Or.inl ⟨by rfl, ?_⟩) ?_ ?_
              rotate_left
              · intro w'
                go_simp
                with_reducible rfl
              rotate_left
              · simp only [Act.put, List.setIfInBounds_toArray, List.set_cons_zero, List.set_cons_succ, i64_w, i32_w]
                rfl
              refine pure_ (i := 11) (N := some 32) (v := ?_) (a' := ?_) #[true, true, true, true, true, true, true, true, true, true, true, true, true, false, false] rfl rfl (any_of HT_.out (by kernel_rfl)) (fun _ _ _ h => h) (Or.inl ⟨by rfl, ?_⟩) ?_ ?_
              rotate_left
              · intro w'
                go_simp
                with_reducible rfl
              rotate_left
              · simp only [Act.put, List.setIfInBounds_toArray, List.set_cons_zero, List.set_cons_succ, i64_w, i32_w]
                rfl
              exact norm_ (by simp only [putAll, Act.put, List.setIfInBounds_toArray, List.set_cons_zero, List.set_cons_succ]) (hCont (.slice Ao21 t541.length co21, v557, gb565) _ ⟨hHeld, (by (with_reducible repeat (first | apply Kd.R_alloc | apply Kd.R_drewN | apply Kd.R_drew)); exact Kd.R_mono HO543.out (fun _ hk => hk.2)), (by (with_reducible repeat (first | apply Kd.R_alloc | apply Kd.R_drewN | apply Kd.R_drew)); exact Kd.R_mono HO558.out (fun _ hk => hk.2)), (by (with_reducible repeat (first | refine blk_drewN ?_ _ | refine blk_drew ?_ | refine blk_alloc ?_ _)); exact BK533.out), (by (with_reducible repeat (first | refine blk_drewN ?_ _ | refine blk_drew ?_ | refine blk_alloc ?_ _)); exact BK565.out), GW565.out, GE565.out, NB533_565.out, NB565_533.out, (by repeat (first | (with_reducible first | exact HB.out | apply below_alloc | apply pw_below_drewN | apply below_drew1 | refine below_set ?_ GE533.out | refine below_set ?_ GE565.out) | exact HB.out))⟩)
          · skip
            refine box_step ?hg (N := 9) ?hd (cs := #[.int .u8 0, .int .i64 0, .int .i64 0, .int .i64 0, .int .i64 0, .int .i64 0, .bool false, .slice none 0 0, .int .i64 0, .int .i64 0, .int .i64 0, .int .i64 0, .int .i64 0]) (t := 31) ?hr ?_; (case hd => rfl); (case hg => rfl); (case hr => first | (go_simp; done) | (go_simp; rfl))
            intro gb565 hg w19 hbox hb
            have n0_ := Aside0.mk (blk_below (g := gb533) (o := .cells #[.int .i64 500, .int .u8 t528, .int .i64 t529, .int .i64 t530, .bool true, .bool true] 25 (0, 0)) (by (with_reducible repeat (first | refine blk_drewN ?_ _ | refine blk_drew ?_ | refine blk_alloc ?_ _)); exact BK533.out) hb)
            have n1_ := Aside0.mk (below_step (by repeat (first | (with_reducible first | exact HB.out | apply below_alloc | apply pw_below_drewN | apply below_drew1 | refine below_set ?_ GE533.out) | exact HB.out)) hb)
            have n2_ := Aside0.mk (hbox)
            have n3_ := Aside0.mk ((by rw [hg]; exact (below_size (by repeat (first | (with_reducible first | exact HB.out | apply below_alloc | apply pw_below_drewN | apply below_drew1 | refine below_set ?_ GE533.out) | exact HB.out))) : w.heap.size ≤ gb565))
            have n4_ := Aside0.mk ((by rw [hg]; exact (below_size (by repeat (first | (with_reducible first | exact HB.out | apply below_alloc | apply pw_below_drewN | apply below_drew1 | refine below_set ?_ GE533.out) | exact HB.out))) : w.heap.size ≤ gb565))
            have n5_ := Aside0.mk ((by rw [hg]; exact Nat.ne_of_lt (blk_lt (g := gb533) (o := .cells #[.int .i64 500, .int .u8 t528, .int .i64 t529, .int .i64 t530, .bool true, .bool true] 25 (0, 0)) (by (with_reducible repeat (first | refine blk_drewN ?_ _ | refine blk_drew ?_ | refine blk_alloc ?_ _)); exact BK533.out)) : gb533 ≠ gb565))
            have n6_ := Aside0.mk ((by rw [hg]; exact Nat.ne_of_gt (blk_lt (g := gb533) (o := .cells #[.int .i64 500, .int .u8 t528, .int .i64 t529, .int .i64 t530, .bool true, .bool true] 25 (0, 0)) (by (with_reducible repeat (first | refine blk_drewN ?_ _ | refine blk_drew ?_ | refine blk_alloc ?_ _)); exact BK533.out)) : gb565 ≠ gb533))
            clear BK533
            clear HB
            have BK533 := n0_
            have HB := n1_
            have BK565 := n2_
            have GW565 := n3_
            have GE565 := n4_
            have NB533_565 := n5_
            have NB565_533 := n6_
            clear n0_ n1_ n2_ n3_ n4_ n5_ n6_
            clear hb hbox hg
            refine hK.out _ _ ⟨(blk_cell BK533.out 0).trans rfl, (blk_cell BK533.out 1).trans rfl, (blk_cell BK533.out 2).trans rfl, (blk_cell BK533.out 3).trans rfl, (blk_cell BK533.out 4).trans rfl, (blk_cell BK533.out 5).trans rfl⟩ (fun hHeld => ?_)
            clear hK K
            refine norm_ (a' := ?_) ?_ ?_
            rotate_left
            · show Act.put _ (some 9) _ = _
              simp only [Act.put, List.setIfInBounds_toArray, List.set_cons_zero, List.set_cons_succ, i64_w, i32_w]
              rfl
            refine one_ (i := 2) (N := some 24) #[true, true, true, true, true, true, true, true, false, false, false, false, true, false, false] rfl rfl (one_of HT_.out (by kernel_rfl)) (by decide) (fun K hK => ?_)
            refine goes_ Try.func11 (by kernel_rfl) rfl #[.int .i64 0, .agg #[.int .i64 500, .int .u8 t528, .int .i64 t529, .int .i64 t530, .bool true, .bool true], .int .i64 (wrap64 (700000 + (wrap64 (a1))))] (by rfl) rfl rfl (by (try simp only [List.map_toArray, List.map_cons, List.map_nil]); first | done | rfl | (simp only [List.length_drop, List.length_take]; rfl)) ?_
            with_reducible refine (account_Open.calls 0 500 t528 t529 t530 true true (wrap64 (700000 + (wrap64 (a1)))) t534 t535 t536 t537 t538 t539 t540 t541 t544 t545 t546 t547 t548 _ A7.out).mono ?_
            rintro e w20 ⟨v542, rfl, ho0, hb⟩
            refine ⟨_, rfl, ?_⟩
            have n0_ := Aside0.mk (Kd.R_lower ho0 (below_size (by repeat (first | (with_reducible first | exact HB.out | apply below_alloc | apply pw_below_drewN | apply below_drew1 | refine below_set ?_ GE533.out | refine below_set ?_ GE565.out) | exact HB.out))))
            have n1_ := Aside0.mk (blk_below (g := gb533) (o := .cells #[.int .i64 500, .int .u8 t528, .int .i64 t529, .int .i64 t530, .bool true, .bool true] 25 (0, 0)) (by (with_reducible repeat (first | refine blk_drewN ?_ _ | refine blk_drew ?_ | refine blk_alloc ?_ _)); exact BK533.out) hb)
            have n2_ := Aside0.mk (blk_below (g := gb565) (o := .cells #[.int .u8 0, .int .i64 0, .int .i64 0, .int .i64 0, .int .i64 0, .int .i64 0, .bool false, .slice none 0 0, .int .i64 0, .int .i64 0, .int .i64 0, .int .i64 0, .int .i64 0] 31 (0, 0)) (by (with_reducible repeat (first | refine blk_drewN ?_ _ | refine blk_drew ?_ | refine blk_alloc ?_ _)); exact BK565.out) hb)
            have n3_ := Aside0.mk (below_step (by repeat (first | (with_reducible first | exact HB.out | apply below_alloc | apply pw_below_drewN | apply below_drew1 | refine below_set ?_ GE533.out | refine below_set ?_ GE565.out) | exact HB.out)) hb)
            clear BK533
            clear BK565
            clear HB
            have HO543 := n0_
            have BK533 := n1_
            have BK565 := n2_
            have HB := n3_
            clear n0_ n1_ n2_ n3_
            (try clear hb)
            (try clear hb2)
            (try clear hk)
            (try clear hi)
            (try clear ho0)
            obtain ⟨Ao21, co21, eo21⟩ := Kd.R_slice HO543.out
            (first | subst eo21 | (injection eo21 with f1_ f2_ f3_; have f4_ := f1_.symm; have f5_ := f3_.symm; clear f1_ f2_ f3_; subst f4_; subst f5_))
            refine hK.out _ _ ⟨(blk_cell BK533.out 0).trans rfl, (blk_cell BK533.out 1).trans rfl, (blk_cell BK533.out 2).trans rfl, (blk_cell BK533.out 3).trans rfl, (blk_cell BK533.out 4).trans rfl, (blk_cell BK533.out 5).trans rfl⟩ (fun hHeld => ?_)
            clear hK K
            refine norm_ (a' := ?_) ?_ ?_
            rotate_left
            · show Act.put _ (some 24) _ = _
              simp only [Act.put, List.setIfInBounds_toArray, List.set_cons_zero, List.set_cons_succ, i64_w, i32_w]
              rfl
            refine one_ (i := 8) (N := some 30) #[true, true, true, true, true, true, true, true, true, false, false, false, true, false, false] rfl rfl (one_of HT_.out (by kernel_rfl)) (by decide) (fun K hK => ?_)
            refine goes_ Try.func12 (by kernel_rfl) rfl #[.agg #[.int .u8 t534, .int .i64 t535, .int .i64 t536, .int .i64 t537, .int .i64 t538, .int .i64 t539, .bool t540, .slice Ao21 t541.length co21, .int .i64 t544, .int .i64 t545, .int .i64 t546, .int .i64 t547, .int .i64 t548], .agg #[.int .i64 500, .int .u8 t528, .int .i64 t529, .int .i64 t530, .bool true, .bool true], .int .i64 (wrap64 ((wrap64 (700000 + (wrap64 (a1)))) + (wrap64 (a2))))] (by rfl) rfl rfl (by (try simp only [List.map_toArray, List.map_cons, List.map_nil]); first | done | rfl | (simp only [List.length_drop, List.length_take]; rfl)) ?_
            with_reducible refine (account_Day.calls k t534 t535 t536 t537 t538 t539 t540 _ _ t541 t544 t545 t546 t547 t548 500 t528 t529 t530 true true (wrap64 ((wrap64 (700000 + (wrap64 (a1)))) + (wrap64 (a2)))) t549 t550 t551 t552 t553 t554 t555 t556 t559 t560 t561 t562 t563 t564 _ ?side1 ?side2 A8.out).mono ?_
            (case side1 => repeat (first | exact (Kd.R_reads' HO543.out).2.2 | (with_reducible refine Kd.C_alloc ?_ _) | (with_reducible refine Kd.C_drewN ?_ _) | (with_reducible refine Kd.C_drew ?_)))
            (case side2 => exact (Kd.R_reads' HO543.out).2.1)
            rintro e w22 ⟨v557, rfl, ho0, hb⟩
            refine ⟨_, rfl, ?_⟩
            have n0_ := Aside0.mk (Kd.R_elder' (by (with_reducible repeat (first | apply Kd.R_alloc | apply Kd.R_drewN | apply Kd.R_drew)); exact HO543.out) (Kd.R_base ho0) hb)
            have n1_ := Aside0.mk (Kd.R_lower (Kd.R_new' ho0 (Kd.R_lt (by (with_reducible repeat (first | apply Kd.R_alloc | apply Kd.R_drewN | apply Kd.R_drew)); exact HO543.out))) (below_size (by repeat (first | (with_reducible first | exact HB.out | apply below_alloc | apply pw_below_drewN | apply below_drew1 | refine below_set ?_ GE533.out | refine below_set ?_ GE565.out) | exact HB.out))))
            have n2_ := Aside0.mk (blk_below (g := gb533) (o := .cells #[.int .i64 500, .int .u8 t528, .int .i64 t529, .int .i64 t530, .bool true, .bool true] 25 (0, 0)) (by (with_reducible repeat (first | refine blk_drewN ?_ _ | refine blk_drew ?_ | refine blk_alloc ?_ _)); exact BK533.out) hb)
            have n3_ := Aside0.mk (blk_below (g := gb565) (o := .cells #[.int .u8 0, .int .i64 0, .int .i64 0, .int .i64 0, .int .i64 0, .int .i64 0, .bool false, .slice none 0 0, .int .i64 0, .int .i64 0, .int .i64 0, .int .i64 0, .int .i64 0] 31 (0, 0)) (by (with_reducible repeat (first | refine blk_drewN ?_ _ | refine blk_drew ?_ | refine blk_alloc ?_ _)); exact BK565.out) hb)
            have n4_ := Aside0.mk (below_step (by repeat (first | (with_reducible first | exact HB.out | apply below_alloc | apply pw_below_drewN | apply below_drew1 | refine below_set ?_ GE533.out | refine below_set ?_ GE565.out) | exact HB.out)) hb)
            clear HO543
            clear BK533
            clear BK565
            clear HB
            have HO543 := n0_
            have HO558 := n1_
            have BK533 := n2_
            have BK565 := n3_
            have HB := n4_
            clear n0_ n1_ n2_ n3_ n4_
            (try clear hb)
            (try clear hb2)
            (try clear hk)
            (try clear hi)
            (try clear ho0)
            refine hK.out _ _ ⟨(blk_cell BK533.out 0).trans rfl, (blk_cell BK533.out 1).trans rfl, (blk_cell BK533.out 2).trans rfl, (blk_cell BK533.out 3).trans rfl, (blk_cell BK533.out 4).trans rfl, (blk_cell BK533.out 5).trans rfl⟩ (fun hHeld => ?_)
            clear hK K
            refine norm_ (a' := ?_) ?_ ?_
            rotate_left
            · show Act.put _ (some 30) _ = _
              simp only [Act.put, List.setIfInBounds_toArray, List.set_cons_zero, List.set_cons_succ, i64_w, i32_w]
              rfl
            refine pure_ (i := 9) (N := some 21) (v := ?_) (a' := ?_) #[true, true, true, true, true, true, true, true, true, true, false, false, true, false, false] rfl rfl (any_of HT_.out (by kernel_rfl)) (fun _ _ _ h => h) (Or.inl ⟨by rfl, ?_⟩) ?_ ?_
            rotate_left
            · intro w'
              go_simp
              with_reducible rfl
            rotate_left
            · simp only [Act.put, List.setIfInBounds_toArray, List.set_cons_zero, List.set_cons_succ, i64_w, i32_w]
              rfl
            refine pure_ (i := 10) (N := some 31) (v := ?_) (a' := ?_) #[true, true, true, true, true, true, true, true, true, true, true, false, true, false, false] rfl rfl (any_of HT_.out (by kernel_rfl)) (fun _ _ _ h => h) (Or.inl ⟨by rfl, ?_⟩) ?_ ?_
            rotate_left
            · intro w'
              go_simp
              with_reducible rfl
            rotate_left
            · simp only [Act.put, List.setIfInBounds_toArray, List.set_cons_zero, List.set_cons_succ, i64_w, i32_w]
              rfl
            refine pure_ (i := 11) (N := some 32) (v := ?_) (a' := ?_) #[true, true, true, true, true, true, true, true, true, true, true, true, true, false, false] rfl rfl (any_of HT_.out (by kernel_rfl)) (fun _ _ _ h => h) (Or.inl ⟨by rfl, ?_⟩) ?_ ?_
            rotate_left
            · intro w'
              go_simp
              with_reducible rfl
            rotate_left
            · simp only [Act.put, List.setIfInBounds_toArray, List.set_cons_zero, List.set_cons_succ, i64_w, i32_w]
              rfl
            exact norm_ (by simp only [putAll, Act.put, List.setIfInBounds_toArray, List.set_cons_zero, List.set_cons_succ]) (hCont (.slice Ao21 t541.length co21, v557, gb565) _ ⟨hHeld, (by (with_reducible repeat (first | apply Kd.R_alloc | apply Kd.R_drewN | apply Kd.R_drew)); exact Kd.R_mono HO543.out (fun _ hk => hk.2)), (by (with_reducible repeat (first | apply Kd.R_alloc | apply Kd.R_drewN | apply Kd.R_drew)); exact Kd.R_mono HO558.out (fun _ hk => hk.2)), (by (with_reducible repeat (first | refine blk_drewN ?_ _ | refine blk_drew ?_ | refine blk_alloc ?_ _)); exact BK533.out), (by (with_reducible repeat (first | refine blk_drewN ?_ _ | refine blk_drew ?_ | refine blk_alloc ?_ _)); exact BK565.out), GW565.out, GE565.out, NB533_565.out, NB565_533.out, (by repeat (first | (with_reducible first | exact HB.out | apply below_alloc | apply pw_below_drewN | apply below_drew1 | refine below_set ?_ GE533.out | refine below_set ?_ GE565.out) | exact HB.out))⟩)
        rintro ⟨v542, v557, gb565⟩ w23 ⟨hS_, h0_, h1_, h2_, h3_, h4_, h5_, h6_, h7_, h8_⟩
        have n0_ : Aside0 (Kd.R k37 37 w23 w.heap.size (fun k_ => some k_ ≠ (v557 : Value).ownBlock) v542 t541) := ⟨h0_⟩
        have n1_ : Aside0 (Kd.R k37 37 w23 w.heap.size (fun k_ => some k_ ≠ (v542 : Value).ownBlock) v557 t556) := ⟨h1_⟩
        have n2_ : Aside0 (w23.heap[gb533]? = some (.cells #[.int .i64 500, .int .u8 t528, .int .i64 t529, .int .i64 t530, .bool true, .bool true] 25 (0, 0))) := ⟨h2_⟩
        have n3_ : Aside0 (w23.heap[gb565]? = some (.cells #[.int .u8 0, .int .i64 0, .int .i64 0, .int .i64 0, .int .i64 0, .int .i64 0, .bool false, .slice none 0 0, .int .i64 0, .int .i64 0, .int .i64 0, .int .i64 0, .int .i64 0] 31 (0, 0))) := ⟨h3_⟩
        have n4_ : Aside0 (w.heap.size ≤ gb565) := ⟨h4_⟩
        have n5_ : Aside0 (w.heap.size ≤ gb565) := ⟨h5_⟩
        have n6_ : Aside0 (gb533 ≠ gb565) := ⟨h6_⟩
        have n7_ : Aside0 (gb565 ≠ gb533) := ⟨h7_⟩
        have n8_ : Aside0 (Below w.heap.size w w23) := ⟨h8_⟩
        clear BK533
        clear HB
        clear h0_ h1_ h2_ h3_ h4_ h5_ h6_ h7_ h8_
        have HO543 := n0_
        have HO558 := n1_
        have BK533 := n2_
        have BK565 := n3_
        have GW565 := n4_
        have GE565 := n5_
        have NB533_565 := n6_
        have NB565_533 := n7_
        have HB := n8_
        clear n0_ n1_ n2_ n3_ n4_ n5_ n6_ n7_ n8_
        have hHeld : w23.cell? ⟨gb533, 0, none⟩ = some (.int .i64 500) ∧ w23.cell? ⟨gb533, 1, none⟩ = some (.int .u8 t528) ∧ w23.cell? ⟨gb533, 2, none⟩ = some (.int .i64 t529) ∧ w23.cell? ⟨gb533, 3, none⟩ = some (.int .i64 t530) ∧ w23.cell? ⟨gb533, 4, none⟩ = some (.bool true) ∧ w23.cell? ⟨gb533, 5, none⟩ = some (.bool true) := hS_
        obtain ⟨Ao31, co31, eo31⟩ := Kd.R_slice HO558.out
        (first | subst eo31 | (injection eo31 with f1_ f2_ f3_; have f4_ := f1_.symm; have f5_ := f3_.symm; clear f1_ f2_ f3_; subst f4_; subst f5_))
        refine norm_ (a' := ?_) ?_ ?_
        rotate_left
        · simp only [putAll, Act.put, List.setIfInBounds_toArray, List.set_cons_zero, List.set_cons_succ]
          rfl
        refine one_ (i := 13) (N := none) #[true, true, true, true, true, true, true, true, true, true, true, true, true, true, false] rfl rfl (one_of HT_.out (by kernel_rfl)) (by decide) (fun K hK => ?_)
        have hs24 : w23.cell? ⟨gb565, 0, none⟩ = some (.int .u8 0) := (blk_cell BK565.out 0).trans rfl
        have hfs24 := blk_frozen BK565.out 0
        have hns24_0 := NB533_565.out
        have hms24_0 := NB565_533.out
        have hs25 : w23.cell? ⟨gb565, 1, none⟩ = some (.int .i64 0) := (blk_cell BK565.out 1).trans rfl
        have hfs25 := blk_frozen BK565.out 1
        have hns25_0 := NB533_565.out
        have hms25_0 := NB565_533.out
        have hs26 : w23.cell? ⟨gb565, 2, none⟩ = some (.int .i64 0) := (blk_cell BK565.out 2).trans rfl
        have hfs26 := blk_frozen BK565.out 2
        have hns26_0 := NB533_565.out
        have hms26_0 := NB565_533.out
        have hs27 : w23.cell? ⟨gb565, 3, none⟩ = some (.int .i64 0) := (blk_cell BK565.out 3).trans rfl
        have hfs27 := blk_frozen BK565.out 3
        have hns27_0 := NB533_565.out
        have hms27_0 := NB565_533.out
        have hs28 : w23.cell? ⟨gb565, 4, none⟩ = some (.int .i64 0) := (blk_cell BK565.out 4).trans rfl
        have hfs28 := blk_frozen BK565.out 4
        have hns28_0 := NB533_565.out
        have hms28_0 := NB565_533.out
        have hs29 : w23.cell? ⟨gb565, 5, none⟩ = some (.int .i64 0) := (blk_cell BK565.out 5).trans rfl
        have hfs29 := blk_frozen BK565.out 5
        have hns29_0 := NB533_565.out
        have hms29_0 := NB565_533.out
        have hs30 : w23.cell? ⟨gb565, 6, none⟩ = some (.bool false) := (blk_cell BK565.out 6).trans rfl
        have hfs30 := blk_frozen BK565.out 6
        have hns30_0 := NB533_565.out
        have hms30_0 := NB565_533.out
        have hs32 : w23.cell? ⟨gb565, 7, none⟩ = some (.slice none 0 0) := (blk_cell BK565.out 7).trans rfl
        have hfs32 := blk_frozen BK565.out 7
        have hns32_0 := NB533_565.out
        have hms32_0 := NB565_533.out
        have hs33 : w23.cell? ⟨gb565, 8, none⟩ = some (.int .i64 0) := (blk_cell BK565.out 8).trans rfl
        have hfs33 := blk_frozen BK565.out 8
        have hns33_0 := NB533_565.out
        have hms33_0 := NB565_533.out
        have hs34 : w23.cell? ⟨gb565, 9, none⟩ = some (.int .i64 0) := (blk_cell BK565.out 9).trans rfl
        have hfs34 := blk_frozen BK565.out 9
        have hns34_0 := NB533_565.out
        have hms34_0 := NB565_533.out
        have hs35 : w23.cell? ⟨gb565, 10, none⟩ = some (.int .i64 0) := (blk_cell BK565.out 10).trans rfl
        have hfs35 := blk_frozen BK565.out 10
        have hns35_0 := NB533_565.out
        have hms35_0 := NB565_533.out
        have hs36 : w23.cell? ⟨gb565, 11, none⟩ = some (.int .i64 0) := (blk_cell BK565.out 11).trans rfl
        have hfs36 := blk_frozen BK565.out 11
        have hns36_0 := NB533_565.out
        have hms36_0 := NB565_533.out
        have hs37 : w23.cell? ⟨gb565, 12, none⟩ = some (.int .i64 0) := (blk_cell BK565.out 12).trans rfl
        have hfs37 := blk_frozen BK565.out 12
        have hns37_0 := NB533_565.out
        have hms37_0 := NB565_533.out
        refine skip_ (w1 := ?_) (by rfl) rfl ?_ ?_
        rotate_left
        · go_simp
          rfl
        refine hK.out _ _ ⟨((cf_paybooklaw13_AccountLast gb565 NB533_565.out _).trans (((cf_paybooklaw13_AccountLast gb565 NB533_565.out _).trans (((cf_paybooklaw13_AccountLast gb565 NB533_565.out _).trans (((cf_paybooklaw13_AccountLast gb565 NB533_565.out _).trans (((cf_paybooklaw13_AccountLast gb565 NB533_565.out _).trans (((cf_paybooklaw13_AccountLast gb565 NB533_565.out _).trans (((cf_paybooklaw13_AccountLast gb565 NB533_565.out _).trans (((cf_paybooklaw13_AccountLast gb565 NB533_565.out _).trans (((cf_paybooklaw13_AccountLast gb565 NB533_565.out _).trans (((cf_paybooklaw13_AccountLast gb565 NB533_565.out _).trans (((cf_paybooklaw13_AccountLast gb565 NB533_565.out _).trans (((cf_paybooklaw13_AccountLast gb565 NB533_565.out _).trans (((cf_paybooklaw13_AccountLast gb565 NB533_565.out _).trans (hHeld.1)))))))))))))))))))))))))), ((cf_paybooklaw13_AccountLast gb565 NB533_565.out _).trans (((cf_paybooklaw13_AccountLast gb565 NB533_565.out _).trans (((cf_paybooklaw13_AccountLast gb565 NB533_565.out _).trans (((cf_paybooklaw13_AccountLast gb565 NB533_565.out _).trans (((cf_paybooklaw13_AccountLast gb565 NB533_565.out _).trans (((cf_paybooklaw13_AccountLast gb565 NB533_565.out _).trans (((cf_paybooklaw13_AccountLast gb565 NB533_565.out _).trans (((cf_paybooklaw13_AccountLast gb565 NB533_565.out _).trans (((cf_paybooklaw13_AccountLast gb565 NB533_565.out _).trans (((cf_paybooklaw13_AccountLast gb565 NB533_565.out _).trans (((cf_paybooklaw13_AccountLast gb565 NB533_565.out _).trans (((cf_paybooklaw13_AccountLast gb565 NB533_565.out _).trans (((cf_paybooklaw13_AccountLast gb565 NB533_565.out _).trans (hHeld.2.1)))))))))))))))))))))))))), ((cf_paybooklaw13_AccountLast gb565 NB533_565.out _).trans (((cf_paybooklaw13_AccountLast gb565 NB533_565.out _).trans (((cf_paybooklaw13_AccountLast gb565 NB533_565.out _).trans (((cf_paybooklaw13_AccountLast gb565 NB533_565.out _).trans (((cf_paybooklaw13_AccountLast gb565 NB533_565.out _).trans (((cf_paybooklaw13_AccountLast gb565 NB533_565.out _).trans (((cf_paybooklaw13_AccountLast gb565 NB533_565.out _).trans (((cf_paybooklaw13_AccountLast gb565 NB533_565.out _).trans (((cf_paybooklaw13_AccountLast gb565 NB533_565.out _).trans (((cf_paybooklaw13_AccountLast gb565 NB533_565.out _).trans (((cf_paybooklaw13_AccountLast gb565 NB533_565.out _).trans (((cf_paybooklaw13_AccountLast gb565 NB533_565.out _).trans (((cf_paybooklaw13_AccountLast gb565 NB533_565.out _).trans (hHeld.2.2.1)))))))))))))))))))))))))), ((cf_paybooklaw13_AccountLast gb565 NB533_565.out _).trans (((cf_paybooklaw13_AccountLast gb565 NB533_565.out _).trans (((cf_paybooklaw13_AccountLast gb565 NB533_565.out _).trans (((cf_paybooklaw13_AccountLast gb565 NB533_565.out _).trans (((cf_paybooklaw13_AccountLast gb565 NB533_565.out _).trans (((cf_paybooklaw13_AccountLast gb565 NB533_565.out _).trans (((cf_paybooklaw13_AccountLast gb565 NB533_565.out _).trans (((cf_paybooklaw13_AccountLast gb565 NB533_565.out _).trans (((cf_paybooklaw13_AccountLast gb565 NB533_565.out _).trans (((cf_paybooklaw13_AccountLast gb565 NB533_565.out _).trans (((cf_paybooklaw13_AccountLast gb565 NB533_565.out _).trans (((cf_paybooklaw13_AccountLast gb565 NB533_565.out _).trans (((cf_paybooklaw13_AccountLast gb565 NB533_565.out _).trans (hHeld.2.2.2.1)))))))))))))))))))))))))), ((cf_paybooklaw13_AccountLast gb565 NB533_565.out _).trans (((cf_paybooklaw13_AccountLast gb565 NB533_565.out _).trans (((cf_paybooklaw13_AccountLast gb565 NB533_565.out _).trans (((cf_paybooklaw13_AccountLast gb565 NB533_565.out _).trans (((cf_paybooklaw13_AccountLast gb565 NB533_565.out _).trans (((cf_paybooklaw13_AccountLast gb565 NB533_565.out _).trans (((cf_paybooklaw13_AccountLast gb565 NB533_565.out _).trans (((cf_paybooklaw13_AccountLast gb565 NB533_565.out _).trans (((cf_paybooklaw13_AccountLast gb565 NB533_565.out _).trans (((cf_paybooklaw13_AccountLast gb565 NB533_565.out _).trans (((cf_paybooklaw13_AccountLast gb565 NB533_565.out _).trans (((cf_paybooklaw13_AccountLast gb565 NB533_565.out _).trans (((cf_paybooklaw13_AccountLast gb565 NB533_565.out _).trans (hHeld.2.2.2.2.1)))))))))))))))))))))))))), ((cf_paybooklaw13_AccountLast gb565 NB533_565.out _).trans (((cf_paybooklaw13_AccountLast gb565 NB533_565.out _).trans (((cf_paybooklaw13_AccountLast gb565 NB533_565.out _).trans (((cf_paybooklaw13_AccountLast gb565 NB533_565.out _).trans (((cf_paybooklaw13_AccountLast gb565 NB533_565.out _).trans (((cf_paybooklaw13_AccountLast gb565 NB533_565.out _).trans (((cf_paybooklaw13_AccountLast gb565 NB533_565.out _).trans (((cf_paybooklaw13_AccountLast gb565 NB533_565.out _).trans (((cf_paybooklaw13_AccountLast gb565 NB533_565.out _).trans (((cf_paybooklaw13_AccountLast gb565 NB533_565.out _).trans (((cf_paybooklaw13_AccountLast gb565 NB533_565.out _).trans (((cf_paybooklaw13_AccountLast gb565 NB533_565.out _).trans (((cf_paybooklaw13_AccountLast gb565 NB533_565.out _).trans (hHeld.2.2.2.2.2))))))))))))))))))))))))))⟩ (fun hHeld => ?_)
        clear hK K
        refine pure_ (i := 14) (N := some 10) (v := ?_) (a' := ?_) #[true, true, true, true, true, true, true, true, true, true, true, true, true, true, true] rfl rfl (any_of HT_.out (by kernel_rfl)) (fun _ _ _ h => h) (Or.inl ⟨by rfl, ?_⟩) ?_ ?_
        rotate_left
        · intro w'
          go_simp
          with_reducible rfl
        rotate_left
        · simp only [Act.put, List.setIfInBounds_toArray, List.set_cons_zero, List.set_cons_succ, i64_w, i32_w]
          rfl
        refine done_ (done_of HT_.out (by kernel_rfl)) ?_
        have hnb38 := NB565_533.out
        have hnc38 := NB533_565.out
        obtain ⟨hcz39_0, hcz39_1, hcz39_2, hcz39_3, hcz39_4, hcz39_5, hcz39_6, hcz39_7, hcz39_8, hcz39_9, hcz39_10, hcz39_11, hcz39_12⟩ := bc13 BK565.out
        obtain ⟨hfz39_0, hfz39_1, hfz39_2, hfz39_3, hfz39_4, hfz39_5, hfz39_6, hfz39_7, hfz39_8, hfz39_9, hfz39_10, hfz39_11, hfz39_12⟩ := bf13 BK565.out
        try go_wp2
        have n0_ : Aside0 (Kd.R k37 37 (((((((((((((w23.setCell ⟨gb565, 0, none⟩ (.int .u8 t549)).setCell ⟨gb565, 1, none⟩ (.int .i64 t550)).setCell ⟨gb565, 2, none⟩ (.int .i64 t551)).setCell ⟨gb565, 3, none⟩ (.int .i64 t552)).setCell ⟨gb565, 4, none⟩ (.int .i64 t553)).setCell ⟨gb565, 5, none⟩ (.int .i64 t554)).setCell ⟨gb565, 6, none⟩ (.bool t555)).setCell ⟨gb565, 7, none⟩ (.slice Ao31 t556.length co31)).setCell ⟨gb565, 8, none⟩ (.int .i64 t559)).setCell ⟨gb565, 9, none⟩ (.int .i64 t560)).setCell ⟨gb565, 10, none⟩ (.int .i64 t561)).setCell ⟨gb565, 11, none⟩ (.int .i64 t562)).setCell ⟨gb565, 12, none⟩ (.int .i64 t563)) w.heap.size (fun k_ => some k_ ≠ (.slice Ao31 t556.length co31 : Value).ownBlock) v542 t541) := ⟨by (with_reducible repeat (first | apply Kd.R_alloc | apply Kd.R_drewN | apply Kd.R_drew)); exact Kd.R_mono (Kd.R_step (Kd.R_types HO543.out BK565.out (by decide)) (fun _ hk _ => by (with_reducible repeat (first | refine (hst (g := gb565) hk.2 _ _).trans ?_ | refine (hdn _ _ _).trans ?_ | refine (hd1 _ _).trans ?_)); rfl)) (fun _ hk => hk.1)⟩
        have n1_ : Aside0 (Kd.R k37 37 (((((((((((((w23.setCell ⟨gb565, 0, none⟩ (.int .u8 t549)).setCell ⟨gb565, 1, none⟩ (.int .i64 t550)).setCell ⟨gb565, 2, none⟩ (.int .i64 t551)).setCell ⟨gb565, 3, none⟩ (.int .i64 t552)).setCell ⟨gb565, 4, none⟩ (.int .i64 t553)).setCell ⟨gb565, 5, none⟩ (.int .i64 t554)).setCell ⟨gb565, 6, none⟩ (.bool t555)).setCell ⟨gb565, 7, none⟩ (.slice Ao31 t556.length co31)).setCell ⟨gb565, 8, none⟩ (.int .i64 t559)).setCell ⟨gb565, 9, none⟩ (.int .i64 t560)).setCell ⟨gb565, 10, none⟩ (.int .i64 t561)).setCell ⟨gb565, 11, none⟩ (.int .i64 t562)).setCell ⟨gb565, 12, none⟩ (.int .i64 t563)) w.heap.size (fun k_ => some k_ ≠ (v542 : Value).ownBlock) (.slice Ao31 t556.length co31) t556) := ⟨by (with_reducible repeat (first | apply Kd.R_alloc | apply Kd.R_drewN | apply Kd.R_drew)); exact Kd.R_mono (Kd.R_step (Kd.R_types HO558.out BK565.out (by decide)) (fun _ hk _ => by (with_reducible repeat (first | refine (hst (g := gb565) hk.2 _ _).trans ?_ | refine (hdn _ _ _).trans ?_ | refine (hd1 _ _).trans ?_)); rfl)) (fun _ hk => hk.1)⟩
        have n2_ : Aside0 ((((((((((((((w23.setCell ⟨gb565, 0, none⟩ (.int .u8 t549)).setCell ⟨gb565, 1, none⟩ (.int .i64 t550)).setCell ⟨gb565, 2, none⟩ (.int .i64 t551)).setCell ⟨gb565, 3, none⟩ (.int .i64 t552)).setCell ⟨gb565, 4, none⟩ (.int .i64 t553)).setCell ⟨gb565, 5, none⟩ (.int .i64 t554)).setCell ⟨gb565, 6, none⟩ (.bool t555)).setCell ⟨gb565, 7, none⟩ (.slice Ao31 t556.length co31)).setCell ⟨gb565, 8, none⟩ (.int .i64 t559)).setCell ⟨gb565, 9, none⟩ (.int .i64 t560)).setCell ⟨gb565, 10, none⟩ (.int .i64 t561)).setCell ⟨gb565, 11, none⟩ (.int .i64 t562)).setCell ⟨gb565, 12, none⟩ (.int .i64 t563)).heap[gb533]? = some (.cells #[.int .i64 500, .int .u8 t528, .int .i64 t529, .int .i64 t530, .bool true, .bool true] 25 (0, 0))) := ⟨by (with_reducible repeat (first | refine blk_drewN ?_ _ | refine blk_drew ?_ | refine blk_alloc ?_ _ | refine blk_far ?_ NB533_565.out _)); exact BK533.out⟩
        have n3_ : Aside0 ((((((((((((((w23.setCell ⟨gb565, 0, none⟩ (.int .u8 t549)).setCell ⟨gb565, 1, none⟩ (.int .i64 t550)).setCell ⟨gb565, 2, none⟩ (.int .i64 t551)).setCell ⟨gb565, 3, none⟩ (.int .i64 t552)).setCell ⟨gb565, 4, none⟩ (.int .i64 t553)).setCell ⟨gb565, 5, none⟩ (.int .i64 t554)).setCell ⟨gb565, 6, none⟩ (.bool t555)).setCell ⟨gb565, 7, none⟩ (.slice Ao31 t556.length co31)).setCell ⟨gb565, 8, none⟩ (.int .i64 t559)).setCell ⟨gb565, 9, none⟩ (.int .i64 t560)).setCell ⟨gb565, 10, none⟩ (.int .i64 t561)).setCell ⟨gb565, 11, none⟩ (.int .i64 t562)).setCell ⟨gb565, 12, none⟩ (.int .i64 t563)).heap[gb565]? = some (.cells #[.int .u8 t549, .int .i64 t550, .int .i64 t551, .int .i64 t552, .int .i64 t553, .int .i64 t554, .bool t555, .slice Ao31 t556.length co31, .int .i64 t559, .int .i64 t560, .int .i64 t561, .int .i64 t562, .int .i64 t563] 31 (0, 0))) := ⟨by (with_reducible repeat (first | refine blk_drewN ?_ _ | refine blk_drew ?_ | refine blk_alloc ?_ _)); refine bp13 (.int .u8 0) (.int .i64 0) (.int .i64 0) (.int .i64 0) (.int .i64 0) (.int .i64 0) (.bool false) (.slice none 0 0) (.int .i64 0) (.int .i64 0) (.int .i64 0) (.int .i64 0) (.int .i64 0) ?_; (with_reducible repeat (first | refine blk_drewN ?_ _ | refine blk_drew ?_ | refine blk_alloc ?_ _)); exact BK565.out⟩
        have n4_ : Aside0 (Below w.heap.size w (((((((((((((w23.setCell ⟨gb565, 0, none⟩ (.int .u8 t549)).setCell ⟨gb565, 1, none⟩ (.int .i64 t550)).setCell ⟨gb565, 2, none⟩ (.int .i64 t551)).setCell ⟨gb565, 3, none⟩ (.int .i64 t552)).setCell ⟨gb565, 4, none⟩ (.int .i64 t553)).setCell ⟨gb565, 5, none⟩ (.int .i64 t554)).setCell ⟨gb565, 6, none⟩ (.bool t555)).setCell ⟨gb565, 7, none⟩ (.slice Ao31 t556.length co31)).setCell ⟨gb565, 8, none⟩ (.int .i64 t559)).setCell ⟨gb565, 9, none⟩ (.int .i64 t560)).setCell ⟨gb565, 10, none⟩ (.int .i64 t561)).setCell ⟨gb565, 11, none⟩ (.int .i64 t562)).setCell ⟨gb565, 12, none⟩ (.int .i64 t563))) := ⟨by repeat (first | (with_reducible first | exact HB.out | apply below_alloc | apply pw_below_drewN | apply below_drew1 | refine below_set ?_ GE533.out | refine below_set ?_ GE565.out) | exact HB.out)⟩
        (try clear HO543)
        (try clear HO558)
        (try clear BK533)
        (try clear BK565)
        (try clear HB)
        generalize (((((((((((((w23.setCell ⟨gb565, 0, none⟩ (.int .u8 t549)).setCell ⟨gb565, 1, none⟩ (.int .i64 t550)).setCell ⟨gb565, 2, none⟩ (.int .i64 t551)).setCell ⟨gb565, 3, none⟩ (.int .i64 t552)).setCell ⟨gb565, 4, none⟩ (.int .i64 t553)).setCell ⟨gb565, 5, none⟩ (.int .i64 t554)).setCell ⟨gb565, 6, none⟩ (.bool t555)).setCell ⟨gb565, 7, none⟩ (.slice Ao31 t556.length co31)).setCell ⟨gb565, 8, none⟩ (.int .i64 t559)).setCell ⟨gb565, 9, none⟩ (.int .i64 t560)).setCell ⟨gb565, 10, none⟩ (.int .i64 t561)).setCell ⟨gb565, 11, none⟩ (.int .i64 t562)).setCell ⟨gb565, 12, none⟩ (.int .i64 t563)) = w40 at n0_ n1_ n2_ n3_ n4_ ⊢
        have HO543 := n0_
        have HO558 := n1_
        have BK533 := n2_
        have BK565 := n3_
        have HB := n4_
        clear n0_ n1_ n2_ n3_ n4_
        have n0_ := Aside0.mk (Kd.R_drew HO543.out)
        have n1_ := Aside0.mk (Kd.R_drew HO558.out)
        have n2_ := Aside0.mk (blk_drew BK533.out)
        have n3_ := Aside0.mk (blk_drew BK565.out)
        have n4_ := Aside0.mk (below_drew1 HB.out)
        clear HO543
        clear HO558
        clear BK533
        clear BK565
        clear HB
        have HO543 := n0_
        have HO558 := n1_
        have BK533 := n2_
        have BK565 := n3_
        have HB := n4_
        clear n0_ n1_ n2_ n3_ n4_
        by_cases c11 : t553 = 0
        · rw [if_pos c11] at H
          have c11b0 : (t553 == 0) = true := beq_iff_eq.mpr c11
          have c11b1 : (t553 != 0) = false := bne_eq_false_iff_eq.mpr c11
          clear c11
          by_cases c12 : (t556.length : Int) = 0
          · rw [if_pos c12] at H
            have c12b0 : ((t556.length : Int) == 0) = true := beq_iff_eq.mpr c12
            have c12b1 : ((t556.length : Int) != 0) = false := bne_eq_false_iff_eq.mpr c12
            clear c12
            obtain rfl := Option.some.inj H
            refine start_ (n := 40) (S := fun w' => w'.cell? ⟨gb565, 0, none⟩ = some (.int .u8 t549) ∧ w'.cell? ⟨gb565, 1, none⟩ = some (.int .i64 t550) ∧ w'.cell? ⟨gb565, 2, none⟩ = some (.int .i64 t551) ∧ w'.cell? ⟨gb565, 3, none⟩ = some (.int .i64 t552) ∧ w'.cell? ⟨gb565, 4, none⟩ = some (.int .i64 t553) ∧ w'.cell? ⟨gb565, 5, none⟩ = some (.int .i64 t554) ∧ w'.cell? ⟨gb565, 6, none⟩ = some (.bool t555) ∧ w'.cell? ⟨gb565, 7, none⟩ = some (.slice Ao31 t556.length co31) ∧ w'.cell? ⟨gb565, 8, none⟩ = some (.int .i64 t559) ∧ w'.cell? ⟨gb565, 9, none⟩ = some (.int .i64 t560) ∧ w'.cell? ⟨gb565, 10, none⟩ = some (.int .i64 t561) ∧ w'.cell? ⟨gb565, 11, none⟩ = some (.int .i64 t562) ∧ w'.cell? ⟨gb565, 12, none⟩ = some (.int .i64 t563)) (ds := []) #[false, false, false, false, false, false, false, false, false, false, false, false, false, false, false, false, false, false, false, false, false, false, false, false, false, false, false, false, false, false, false, false, false, false, false, false, false, false, false, false] (by kernel_rfl) rfl rfl ⟨(blk_cell BK565.out 0).trans rfl, (blk_cell BK565.out 1).trans rfl, (blk_cell BK565.out 2).trans rfl, (blk_cell BK565.out 3).trans rfl, (blk_cell BK565.out 4).trans rfl, (blk_cell BK565.out 5).trans rfl, (blk_cell BK565.out 6).trans rfl, (blk_cell BK565.out 7).trans rfl, (blk_cell BK565.out 8).trans rfl, (blk_cell BK565.out 9).trans rfl, (blk_cell BK565.out 10).trans rfl, (blk_cell BK565.out 11).trans rfl, (blk_cell BK565.out 12).trans rfl⟩ (fun hHeld => ?_); refine with_tabW paybooklaw13_AccountLast.tab11 paybooklaw13_AccountLast.bits11 (fun HT_ HW_ => ?_)
            generalize w40.drew = w41 at HO543 HO558 BK533 BK565 HB hHeld ⊢
            refine pure_ (i := 0) (N := some 47) (v := ?_) (a' := ?_) #[true, false, false, false, false, false, false, false, false, false, false, false, false, false, false, false, false, false, false, false, false, false, false, false, false, false, false, false, false, false, false, false, false, false, false, false, false, false, false, false] rfl rfl (any_of HT_.out (by kernel_rfl)) (fun _ _ _ h => h) (Or.inl ⟨by rfl, ?_⟩) ?_ ?_
            rotate_left
            · intro w'
              go_simp
              with_reducible rfl
            rotate_left
            · simp only [Act.put, List.setIfInBounds_toArray, List.set_cons_zero, List.set_cons_succ, i64_w, i32_w]
              rfl
            refine take_ (i := 1) (N := some 48) (v := ?_) (a' := ?_) #[true, true, false, false, false, false, false, false, false, false, false, false, false, false, false, false, false, false, false, false, false, false, false, false, false, false, false, false, false, false, false, false, false, false, false, false, false, false, false, false] rfl rfl (take_ofW HT_.out HW_.out (by kernel_rfl)) (fun _ _ _ h => h) (Or.inl ⟨by rfl, ?_⟩) hHeld ?_ ?_
            rotate_left
            · rintro w' ⟨s0, s1, s2, s3, s4, s5, s6, s7, s8, s9, s10, s11, s12⟩
              go_simp
              with_reducible rfl
            rotate_left
            · simp only [Act.put, List.setIfInBounds_toArray, List.set_cons_zero, List.set_cons_succ, i64_w, i32_w]
              rfl
            refine pure_ (i := 2) (N := some 49) (v := ?_) (a' := ?_) #[true, true, true, false, false, false, false, false, false, false, false, false, false, false, false, false, false, false, false, false, false, false, false, false, false, false, false, false, false, false, false, false, false, false, false, false, false, false, false, false] rfl rfl (any_of HT_.out (by kernel_rfl)) (fun _ _ _ h => h) (Or.inl ⟨by rfl, ?_⟩) ?_ ?_
            rotate_left
            · intro w'
              go_simp
              with_reducible rfl
            rotate_left
            · simp only [Act.put, List.setIfInBounds_toArray, List.set_cons_zero, List.set_cons_succ, i64_w, i32_w]
              rfl
            refine pure_ (i := 3) (N := some 50) (v := ?_) (a' := ?_) #[true, true, true, true, false, false, false, false, false, false, false, false, false, false, false, false, false, false, false, false, false, false, false, false, false, false, false, false, false, false, false, false, false, false, false, false, false, false, false, false] rfl rfl (any_of HT_.out (by kernel_rfl)) (fun _ _ _ h => h) (Or.inl ⟨by rfl, ?_⟩) ?_ ?_
            rotate_left
            · intro w'
              go_simp
              with_reducible rfl
            rotate_left
            · simp only [Act.put, List.setIfInBounds_toArray, List.set_cons_zero, List.set_cons_succ, i64_w, i32_w]
              rfl
            refine pure_ (i := 4) (N := some 51) (v := ?_) (a' := ?_) #[true, true, true, true, true, false, false, false, false, false, false, false, false, false, false, false, false, false, false, false, false, false, false, false, false, false, false, false, false, false, false, false, false, false, false, false, false, false, false, false] rfl rfl (any_of HT_.out (by kernel_rfl)) (fun _ _ _ h => h) (Or.inl ⟨by rfl, ?_⟩) ?_ ?_
            rotate_left
            · intro w'
              go_simp
              with_reducible rfl
            rotate_left
            · simp only [Act.put, List.setIfInBounds_toArray, List.set_cons_zero, List.set_cons_succ, i64_w, i32_w]
              rfl
            refine take_ (i := 5) (N := some 52) (v := ?_) (a' := ?_) #[true, true, true, true, true, true, false, false, false, false, false, false, false, false, false, false, false, false, false, false, false, false, false, false, false, false, false, false, false, false, false, false, false, false, false, false, false, false, false, false] rfl rfl (take_ofW HT_.out HW_.out (by kernel_rfl)) (fun _ _ _ h => h) (Or.inl ⟨by rfl, ?_⟩) hHeld ?_ ?_
            rotate_left
            · rintro w' ⟨s0, s1, s2, s3, s4, s5, s6, s7, s8, s9, s10, s11, s12⟩
              go_simp
              with_reducible rfl
            rotate_left
            · simp only [Act.put, List.setIfInBounds_toArray, List.set_cons_zero, List.set_cons_succ, i64_w, i32_w]
              rfl
            refine pure_ (i := 6) (N := some 53) (v := ?_) (a' := ?_) #[true, true, true, true, true, true, true, false, false, false, false, false, false, false, false, false, false, false, false, false, false, false, false, false, false, false, false, false, false, false, false, false, false, false, false, false, false, false, false, false] rfl rfl (any_of HT_.out (by kernel_rfl)) (fun _ _ _ h => h) (Or.inl ⟨by rfl, ?_⟩) ?_ ?_
            rotate_left
            · intro w'
              go_simp
              with_reducible rfl
            rotate_left
            · simp only [Act.put, List.setIfInBounds_toArray, List.set_cons_zero, List.set_cons_succ, i64_w, i32_w]
              rfl
            refine pure_ (i := 7) (N := some 54) (v := ?_) (a' := ?_) #[true, true, true, true, true, true, true, true, false, false, false, false, false, false, false, false, false, false, false, false, false, false, false, false, false, false, false, false, false, false, false, false, false, false, false, false, false, false, false, false] rfl rfl (any_of HT_.out (by kernel_rfl)) (fun _ _ _ h => h) (Or.inl ⟨by rfl, ?_⟩) ?_ ?_
            rotate_left
            · intro w'
              go_simp
              with_reducible rfl
            rotate_left
            · simp only [Act.put, List.setIfInBounds_toArray, List.set_cons_zero, List.set_cons_succ, i64_w, i32_w]
              rfl
            refine pure_ (i := 8) (N := some 55) (v := ?_) (a' := ?_) #[true, true, true, true, true, true, true, true, true, false, false, false, false, false, false, false, false, false, false, false, false, false, false, false, false, false, false, false, false, false, false, false, false, false, false, false, false, false, false, false] rfl rfl (any_of HT_.out (by kernel_rfl)) (fun _ _ _ h => h) (Or.inl ⟨by rfl, ?_⟩) ?_ ?_
            rotate_left
            · intro w'
              go_simp
              with_reducible rfl
            rotate_left
            · simp only [Act.put, List.setIfInBounds_toArray, List.set_cons_zero, List.set_cons_succ, i64_w, i32_w]
              rfl
            refine pure_ (i := 9) (N := some 56) (v := ?_) (a' := ?_) #[true, true, true, true, true, true, true, true, true, true, false, false, false, false, false, false, false, false, false, false, false, false, false, false, false, false, false, false, false, false, false, false, false, false, false, false, false, false, false, false] rfl rfl (any_of HT_.out (by kernel_rfl)) (fun _ _ _ h => h) (Or.inl ⟨by rfl, ?_⟩) ?_ ?_
            rotate_left
            · intro w'
              go_simp
              with_reducible rfl
            rotate_left
            · simp only [Act.put, List.setIfInBounds_toArray, List.set_cons_zero, List.set_cons_succ, i64_w, i32_w]
              rfl
            refine pure_ (i := 10) (N := some 57) (v := undef) (a' := ?_) #[true, true, true, true, true, true, true, true, true, true, true, false, false, false, false, false, false, false, false, false, false, false, false, false, false, false, false, false, false, false, false, false, false, false, false, false, false, false, false, false] rfl rfl (any_of HT_.out (by kernel_rfl)) (fun _ _ _ h => h) (Or.inr ⟨by rfl, rfl⟩) ?_ ?_
            rotate_left
            · simp only [Act.put, List.setIfInBounds_toArray, List.set_cons_zero, List.set_cons_succ, i64_w, i32_w]
              rfl
            refine pure_ (i := 11) (N := some 58) (v := undef) (a' := ?_) #[true, true, true, true, true, true, true, true, true, true, true, true, false, false, false, false, false, false, false, false, false, false, false, false, false, false, false, false, false, false, false, false, false, false, false, false, false, false, false, false] rfl rfl (any_of HT_.out (by kernel_rfl)) (fun _ _ _ h => h) (Or.inr ⟨by rfl, rfl⟩) ?_ ?_
            rotate_left
            · simp only [Act.put, List.setIfInBounds_toArray, List.set_cons_zero, List.set_cons_succ, i64_w, i32_w]
              rfl
            refine pure_ (i := 12) (N := some 59) (v := undef) (a' := ?_) #[true, true, true, true, true, true, true, true, true, true, true, true, true, false, false, false, false, false, false, false, false, false, false, false, false, false, false, false, false, false, false, false, false, false, false, false, false, false, false, false] rfl rfl (any_of HT_.out (by kernel_rfl)) (fun _ _ _ h => h) (Or.inr ⟨by rfl, rfl⟩) ?_ ?_
            rotate_left
            · simp only [Act.put, List.setIfInBounds_toArray, List.set_cons_zero, List.set_cons_succ, i64_w, i32_w]
              rfl
            refine pure_ (i := 13) (N := some 60) (v := undef) (a' := ?_) #[true, true, true, true, true, true, true, true, true, true, true, true, true, true, false, false, false, false, false, false, false, false, false, false, false, false, false, false, false, false, false, false, false, false, false, false, false, false, false, false] rfl rfl (any_of HT_.out (by kernel_rfl)) (fun _ _ _ h => h) (Or.inr ⟨by rfl, rfl⟩) ?_ ?_
            rotate_left
            · simp only [Act.put, List.setIfInBounds_toArray, List.set_cons_zero, List.set_cons_succ, i64_w, i32_w]
              rfl
            refine pure_ (i := 14) (N := some 61) (v := undef) (a' := ?_) #[true, true, true, true, true, true, true, true, true, true, true, true, true, true, true, false, false, false, false, false, false, false, false, false, false, false, false, false, false, false, false, false, false, false, false, false, false, false, false, false] rfl rfl (any_of HT_.out (by kernel_rfl)) (fun _ _ _ h => h) (Or.inr ⟨by rfl, rfl⟩) ?_ ?_
            rotate_left
            · simp only [Act.put, List.setIfInBounds_toArray, List.set_cons_zero, List.set_cons_succ, i64_w, i32_w]
              rfl
            refine pure_ (i := 15) (N := some 62) (v := undef) (a' := ?_) #[true, true, true, true, true, true, true, true, true, true, true, true, true, true, true, true, false, false, false, false, false, false, false, false, false, false, false, false, false, false, false, false, false, false, false, false, false, false, false, false] rfl rfl (any_of HT_.out (by kernel_rfl)) (fun _ _ _ h => h) (Or.inr ⟨by rfl, rfl⟩) ?_ ?_
            rotate_left
            · simp only [Act.put, List.setIfInBounds_toArray, List.set_cons_zero, List.set_cons_succ, i64_w, i32_w]
              rfl
            refine pure_ (i := 16) (N := some 63) (v := undef) (a' := ?_) #[true, true, true, true, true, true, true, true, true, true, true, true, true, true, true, true, true, false, false, false, false, false, false, false, false, false, false, false, false, false, false, false, false, false, false, false, false, false, false, false] rfl rfl (any_of HT_.out (by kernel_rfl)) (fun _ _ _ h => h) (Or.inr ⟨by rfl, rfl⟩) ?_ ?_
            rotate_left
            · simp only [Act.put, List.setIfInBounds_toArray, List.set_cons_zero, List.set_cons_succ, i64_w, i32_w]
              rfl
            refine pure_ (i := 17) (N := some 64) (v := undef) (a' := ?_) #[true, true, true, true, true, true, true, true, true, true, true, true, true, true, true, true, true, true, false, false, false, false, false, false, false, false, false, false, false, false, false, false, false, false, false, false, false, false, false, false] rfl rfl (any_of HT_.out (by kernel_rfl)) (fun _ _ _ h => h) (Or.inr ⟨by rfl, rfl⟩) ?_ ?_
            rotate_left
            · simp only [Act.put, List.setIfInBounds_toArray, List.set_cons_zero, List.set_cons_succ, i64_w, i32_w]
              rfl
            refine pure_ (i := 18) (N := some 65) (v := undef) (a' := ?_) #[true, true, true, true, true, true, true, true, true, true, true, true, true, true, true, true, true, true, true, false, false, false, false, false, false, false, false, false, false, false, false, false, false, false, false, false, false, false, false, false] rfl rfl (any_of HT_.out (by kernel_rfl)) (fun _ _ _ h => h) (Or.inr ⟨by rfl, rfl⟩) ?_ ?_
            rotate_left
            · simp only [Act.put, List.setIfInBounds_toArray, List.set_cons_zero, List.set_cons_succ, i64_w, i32_w]
              rfl
            refine pure_ (i := 19) (N := some 66) (v := undef) (a' := ?_) #[true, true, true, true, true, true, true, true, true, true, true, true, true, true, true, true, true, true, true, true, false, false, false, false, false, false, false, false, false, false, false, false, false, false, false, false, false, false, false, false] rfl rfl (any_of HT_.out (by kernel_rfl)) (fun _ _ _ h => h) (Or.inr ⟨by rfl, rfl⟩) ?_ ?_
            rotate_left
            · simp only [Act.put, List.setIfInBounds_toArray, List.set_cons_zero, List.set_cons_succ, i64_w, i32_w]
              rfl
            refine pure_ (i := 20) (N := some 67) (v := undef) (a' := ?_) #[true, true, true, true, true, true, true, true, true, true, true, true, true, true, true, true, true, true, true, true, true, false, false, false, false, false, false, false, false, false, false, false, false, false, false, false, false, false, false, false] rfl rfl (any_of HT_.out (by kernel_rfl)) (fun _ _ _ h => h) (Or.inr ⟨by rfl, rfl⟩) ?_ ?_
            rotate_left
            · simp only [Act.put, List.setIfInBounds_toArray, List.set_cons_zero, List.set_cons_succ, i64_w, i32_w]
              rfl
            refine pure_ (i := 21) (N := some 68) (v := undef) (a' := ?_) #[true, true, true, true, true, true, true, true, true, true, true, true, true, true, true, true, true, true, true, true, true, true, false, false, false, false, false, false, false, false, false, false, false, false, false, false, false, false, false, false] rfl rfl (any_of HT_.out (by kernel_rfl)) (fun _ _ _ h => h) (Or.inr ⟨by rfl, rfl⟩) ?_ ?_
            rotate_left
            · simp only [Act.put, List.setIfInBounds_toArray, List.set_cons_zero, List.set_cons_succ, i64_w, i32_w]
              rfl
            refine pure_ (i := 22) (N := some 69) (v := undef) (a' := ?_) #[true, true, true, true, true, true, true, true, true, true, true, true, true, true, true, true, true, true, true, true, true, true, true, false, false, false, false, false, false, false, false, false, false, false, false, false, false, false, false, false] rfl rfl (any_of HT_.out (by kernel_rfl)) (fun _ _ _ h => h) (Or.inr ⟨by rfl, rfl⟩) ?_ ?_
            rotate_left
            · simp only [Act.put, List.setIfInBounds_toArray, List.set_cons_zero, List.set_cons_succ, i64_w, i32_w]
              rfl
            refine pure_ (i := 23) (N := some 70) (v := undef) (a' := ?_) #[true, true, true, true, true, true, true, true, true, true, true, true, true, true, true, true, true, true, true, true, true, true, true, true, false, false, false, false, false, false, false, false, false, false, false, false, false, false, false, false] rfl rfl (any_of HT_.out (by kernel_rfl)) (fun _ _ _ h => h) (Or.inr ⟨by rfl, rfl⟩) ?_ ?_
            rotate_left
            · simp only [Act.put, List.setIfInBounds_toArray, List.set_cons_zero, List.set_cons_succ, i64_w, i32_w]
              rfl
            refine pure_ (i := 24) (N := some 71) (v := undef) (a' := ?_) #[true, true, true, true, true, true, true, true, true, true, true, true, true, true, true, true, true, true, true, true, true, true, true, true, true, false, false, false, false, false, false, false, false, false, false, false, false, false, false, false] rfl rfl (any_of HT_.out (by kernel_rfl)) (fun _ _ _ h => h) (Or.inr ⟨by rfl, rfl⟩) ?_ ?_
            rotate_left
            · simp only [Act.put, List.setIfInBounds_toArray, List.set_cons_zero, List.set_cons_succ, i64_w, i32_w]
              rfl
            refine pure_ (i := 25) (N := some 72) (v := undef) (a' := ?_) #[true, true, true, true, true, true, true, true, true, true, true, true, true, true, true, true, true, true, true, true, true, true, true, true, true, true, false, false, false, false, false, false, false, false, false, false, false, false, false, false] rfl rfl (any_of HT_.out (by kernel_rfl)) (fun _ _ _ h => h) (Or.inr ⟨by rfl, rfl⟩) ?_ ?_
            rotate_left
            · simp only [Act.put, List.setIfInBounds_toArray, List.set_cons_zero, List.set_cons_succ, i64_w, i32_w]
              rfl
            refine pure_ (i := 26) (N := some 73) (v := undef) (a' := ?_) #[true, true, true, true, true, true, true, true, true, true, true, true, true, true, true, true, true, true, true, true, true, true, true, true, true, true, true, false, false, false, false, false, false, false, false, false, false, false, false, false] rfl rfl (any_of HT_.out (by kernel_rfl)) (fun _ _ _ h => h) (Or.inr ⟨by rfl, rfl⟩) ?_ ?_
            rotate_left
            · simp only [Act.put, List.setIfInBounds_toArray, List.set_cons_zero, List.set_cons_succ, i64_w, i32_w]
              rfl
            refine pure_ (i := 27) (N := some 74) (v := undef) (a' := ?_) #[true, true, true, true, true, true, true, true, true, true, true, true, true, true, true, true, true, true, true, true, true, true, true, true, true, true, true, true, false, false, false, false, false, false, false, false, false, false, false, false] rfl rfl (any_of HT_.out (by kernel_rfl)) (fun _ _ _ h => h) (Or.inr ⟨by rfl, rfl⟩) ?_ ?_
            rotate_left
            · simp only [Act.put, List.setIfInBounds_toArray, List.set_cons_zero, List.set_cons_succ, i64_w, i32_w]
              rfl
            refine pure_ (i := 28) (N := some 75) (v := undef) (a' := ?_) #[true, true, true, true, true, true, true, true, true, true, true, true, true, true, true, true, true, true, true, true, true, true, true, true, true, true, true, true, true, false, false, false, false, false, false, false, false, false, false, false] rfl rfl (any_of HT_.out (by kernel_rfl)) (fun _ _ _ h => h) (Or.inr ⟨by rfl, rfl⟩) ?_ ?_
            rotate_left
            · simp only [Act.put, List.setIfInBounds_toArray, List.set_cons_zero, List.set_cons_succ, i64_w, i32_w]
              rfl
            refine pure_ (i := 29) (N := some 76) (v := undef) (a' := ?_) #[true, true, true, true, true, true, true, true, true, true, true, true, true, true, true, true, true, true, true, true, true, true, true, true, true, true, true, true, true, true, false, false, false, false, false, false, false, false, false, false] rfl rfl (any_of HT_.out (by kernel_rfl)) (fun _ _ _ h => h) (Or.inr ⟨by rfl, rfl⟩) ?_ ?_
            rotate_left
            · simp only [Act.put, List.setIfInBounds_toArray, List.set_cons_zero, List.set_cons_succ, i64_w, i32_w]
              rfl
            refine pure_ (i := 30) (N := some 77) (v := undef) (a' := ?_) #[true, true, true, true, true, true, true, true, true, true, true, true, true, true, true, true, true, true, true, true, true, true, true, true, true, true, true, true, true, true, true, false, false, false, false, false, false, false, false, false] rfl rfl (any_of HT_.out (by kernel_rfl)) (fun _ _ _ h => h) (Or.inr ⟨by rfl, rfl⟩) ?_ ?_
            rotate_left
            · simp only [Act.put, List.setIfInBounds_toArray, List.set_cons_zero, List.set_cons_succ, i64_w, i32_w]
              rfl
            refine pure_ (i := 31) (N := some 78) (v := undef) (a' := ?_) #[true, true, true, true, true, true, true, true, true, true, true, true, true, true, true, true, true, true, true, true, true, true, true, true, true, true, true, true, true, true, true, true, false, false, false, false, false, false, false, false] rfl rfl (any_of HT_.out (by kernel_rfl)) (fun _ _ _ h => h) (Or.inr ⟨by rfl, rfl⟩) ?_ ?_
            rotate_left
            · simp only [Act.put, List.setIfInBounds_toArray, List.set_cons_zero, List.set_cons_succ, i64_w, i32_w]
              rfl
            refine pure_ (i := 32) (N := some 79) (v := undef) (a' := ?_) #[true, true, true, true, true, true, true, true, true, true, true, true, true, true, true, true, true, true, true, true, true, true, true, true, true, true, true, true, true, true, true, true, true, false, false, false, false, false, false, false] rfl rfl (any_of HT_.out (by kernel_rfl)) (fun _ _ _ h => h) (Or.inr ⟨by rfl, rfl⟩) ?_ ?_
            rotate_left
            · simp only [Act.put, List.setIfInBounds_toArray, List.set_cons_zero, List.set_cons_succ, i64_w, i32_w]
              rfl
            refine pure_ (i := 33) (N := some 80) (v := undef) (a' := ?_) #[true, true, true, true, true, true, true, true, true, true, true, true, true, true, true, true, true, true, true, true, true, true, true, true, true, true, true, true, true, true, true, true, true, true, false, false, false, false, false, false] rfl rfl (any_of HT_.out (by kernel_rfl)) (fun _ _ _ h => h) (Or.inr ⟨by rfl, rfl⟩) ?_ ?_
            rotate_left
            · simp only [Act.put, List.setIfInBounds_toArray, List.set_cons_zero, List.set_cons_succ, i64_w, i32_w]
              rfl
            refine pure_ (i := 34) (N := some 81) (v := undef) (a' := ?_) #[true, true, true, true, true, true, true, true, true, true, true, true, true, true, true, true, true, true, true, true, true, true, true, true, true, true, true, true, true, true, true, true, true, true, true, false, false, false, false, false] rfl rfl (any_of HT_.out (by kernel_rfl)) (fun _ _ _ h => h) (Or.inr ⟨by rfl, rfl⟩) ?_ ?_
            rotate_left
            · simp only [Act.put, List.setIfInBounds_toArray, List.set_cons_zero, List.set_cons_succ, i64_w, i32_w]
              rfl
            refine pure_ (i := 35) (N := some 82) (v := undef) (a' := ?_) #[true, true, true, true, true, true, true, true, true, true, true, true, true, true, true, true, true, true, true, true, true, true, true, true, true, true, true, true, true, true, true, true, true, true, true, true, false, false, false, false] rfl rfl (any_of HT_.out (by kernel_rfl)) (fun _ _ _ h => h) (Or.inr ⟨by rfl, rfl⟩) ?_ ?_
            rotate_left
            · simp only [Act.put, List.setIfInBounds_toArray, List.set_cons_zero, List.set_cons_succ, i64_w, i32_w]
              rfl
            refine pure_ (i := 36) (N := some 83) (v := undef) (a' := ?_) #[true, true, true, true, true, true, true, true, true, true, true, true, true, true, true, true, true, true, true, true, true, true, true, true, true, true, true, true, true, true, true, true, true, true, true, true, true, false, false, false] rfl rfl (any_of HT_.out (by kernel_rfl)) (fun _ _ _ h => h) (Or.inr ⟨by rfl, rfl⟩) ?_ ?_
            rotate_left
            · simp only [Act.put, List.setIfInBounds_toArray, List.set_cons_zero, List.set_cons_succ, i64_w, i32_w]
              rfl
            refine pure_ (i := 37) (N := some 84) (v := undef) (a' := ?_) #[true, true, true, true, true, true, true, true, true, true, true, true, true, true, true, true, true, true, true, true, true, true, true, true, true, true, true, true, true, true, true, true, true, true, true, true, true, true, false, false] rfl rfl (any_of HT_.out (by kernel_rfl)) (fun _ _ _ h => h) (Or.inr ⟨by rfl, rfl⟩) ?_ ?_
            rotate_left
            · simp only [Act.put, List.setIfInBounds_toArray, List.set_cons_zero, List.set_cons_succ, i64_w, i32_w]
              rfl
            refine pure_ (i := 38) (N := some 85) (v := ?_) (a' := ?_) #[true, true, true, true, true, true, true, true, true, true, true, true, true, true, true, true, true, true, true, true, true, true, true, true, true, true, true, true, true, true, true, true, true, true, true, true, true, true, true, false] rfl rfl (any_of HT_.out (by kernel_rfl)) (fun _ _ _ h => h) (Or.inl ⟨by rfl, ?_⟩) ?_ ?_
            rotate_left
            · intro w'
              go_simp
              with_reducible rfl
            rotate_left
            · simp only [Act.put, List.setIfInBounds_toArray, List.set_cons_zero, List.set_cons_succ, i64_w, i32_w]
              rfl
            refine pure_ (i := 39) (N := some 6) (v := ?_) (a' := ?_) #[true, true, true, true, true, true, true, true, true, true, true, true, true, true, true, true, true, true, true, true, true, true, true, true, true, true, true, true, true, true, true, true, true, true, true, true, true, true, true, true] rfl rfl (any_of HT_.out (by kernel_rfl)) (fun _ _ _ h => h) (Or.inl ⟨by rfl, ?_⟩) ?_ ?_
            rotate_left
            · intro w'
              go_simp
              with_reducible rfl
            rotate_left
            · simp only [Act.put, List.setIfInBounds_toArray, List.set_cons_zero, List.set_cons_succ, i64_w, i32_w]
              rfl
            refine done_ (done_of HT_.out (by kernel_rfl)) ?_
            try go_wp2
            go_ret
            exact ⟨by first | rfl | (simp [errW_none, errW_some] <;> rfl) | (simp [*, errW_none, errW_some] <;> rfl), by repeat (first | (with_reducible first | exact HB.out | apply below_alloc | apply pw_below_drewN | apply below_drew1 | refine below_set ?_ GE533.out | refine below_set ?_ GE565.out) | exact HB.out)⟩
          · rw [if_neg c12] at H
            have c12b0 : ((t556.length : Int) == 0) = false := beq_eq_false_iff_ne.mpr c12
            have c12b1 : ((t556.length : Int) != 0) = true := bne_iff_ne.mpr c12
            have c12b2 : ¬ (t556 = []) := fun h_ => c12 (by rw [h_]; rfl)
            by_cases c42 : t553 > 0
            · rw [if_pos c42] at H
              have c42b0 : decide (0 < t553) = true := decide_eq_true c42
              clear c42
              by_cases c43 : (t556.length : Int) = 1
              · rw [if_pos c43] at H
                have c43b0 : ((t556.length : Int) == 1) = true := beq_iff_eq.mpr c43
                have c43b1 : ((t556.length : Int) != 1) = false := bne_eq_false_iff_eq.mpr c43
                clear c43
                by_cases c44 : 0 < (t556.length : Int)
                · rw [if_pos c44] at H
                  have c44b0 : decide (0 < (t556.length : Int)) = true := decide_eq_true c44
                  have c44b1 : decide (0 < t556.length) = true := decide_eq_true (by omega)
                  clear c44
                  by_cases c45 : ((rd_T37 t556 0).f0) = (wrap64 (t553 - 1))
                  · rw [if_pos c45] at H
                    have c45b0 : (((rd_T37 t556 0).f0) == (wrap64 (t553 - 1))) = true := beq_iff_eq.mpr c45
                    have c45b1 : (((rd_T37 t556 0).f0) != (wrap64 (t553 - 1))) = false := bne_eq_false_iff_eq.mpr c45
                    clear c45
                    obtain rfl := Option.some.inj H
                    have p566 : 0 ≤ (0 : Int) := (by omega)
                    have q566 : 0 < (t556.length : Int) := of_decide_eq_true (by first | (with_reducible assumption) | assumption)
                    obtain ⟨ad566, e566, hx566_0, hx566_1, hx566_2, hx566_3, hx566_4, hx566_5, hx566_6, hx566_7⟩ := at_T37 (Kd.R_reads' HO558.out).2.2 0 p566 q566
                    cases e566
                    have qi566 : (0 < t556.length) = True := eq_true (by omega)
                    (try rw [show ((0 : Int)).toNat = 0 from rfl] at hx566_0)
                    (try rw [show 0 * 8 = 0 from rfl] at hx566_0)
                    (try rw [Addr.add_zero'] at hx566_0)
                    (try rw [show ((0 : Int)).toNat = 0 from rfl] at hx566_1)
                    (try rw [show 0 * 8 = 0 from rfl] at hx566_1)
                    (try rw [Addr.add_zero'] at hx566_1)
                    (try rw [show ((0 : Int)).toNat = 0 from rfl] at hx566_2)
                    (try rw [show 0 * 8 = 0 from rfl] at hx566_2)
                    (try rw [Addr.add_zero'] at hx566_2)
                    (try rw [show ((0 : Int)).toNat = 0 from rfl] at hx566_3)
                    (try rw [show 0 * 8 = 0 from rfl] at hx566_3)
                    (try rw [Addr.add_zero'] at hx566_3)
                    (try rw [show ((0 : Int)).toNat = 0 from rfl] at hx566_4)
                    (try rw [show 0 * 8 = 0 from rfl] at hx566_4)
                    (try rw [Addr.add_zero'] at hx566_4)
                    (try rw [show ((0 : Int)).toNat = 0 from rfl] at hx566_5)
                    (try rw [show 0 * 8 = 0 from rfl] at hx566_5)
                    (try rw [Addr.add_zero'] at hx566_5)
                    (try rw [show ((0 : Int)).toNat = 0 from rfl] at hx566_6)
                    (try rw [show 0 * 8 = 0 from rfl] at hx566_6)
                    (try rw [Addr.add_zero'] at hx566_6)
                    (try rw [show ((0 : Int)).toNat = 0 from rfl] at hx566_7)
                    (try rw [show 0 * 8 = 0 from rfl] at hx566_7)
                    (try rw [Addr.add_zero'] at hx566_7)
                    replace p566 := eq_true p566
                    replace q566 := eq_true q566
                    have p567 : 0 ≤ (0 : Int) := (by omega)
                    have q567 : 0 < (t556.length : Int) := of_decide_eq_true (by first | (with_reducible assumption) | assumption)
                    obtain ⟨ad567, e567, hx567_0, hx567_1, hx567_2, hx567_3, hx567_4, hx567_5, hx567_6, hx567_7⟩ := at_T37 (Kd.R_reads' HO558.out).2.2 0 p567 q567
                    obtain rfl : ad566 = ad567 := (by injection e567)
                    have qi567 : (0 < t556.length) = True := eq_true (by omega)
                    (try rw [show ((0 : Int)).toNat = 0 from rfl] at hx567_0)
                    (try rw [show 0 * 8 = 0 from rfl] at hx567_0)
                    (try rw [Addr.add_zero'] at hx567_0)
                    (try rw [show ((0 : Int)).toNat = 0 from rfl] at hx567_1)
                    (try rw [show 0 * 8 = 0 from rfl] at hx567_1)
                    (try rw [Addr.add_zero'] at hx567_1)
                    (try rw [show ((0 : Int)).toNat = 0 from rfl] at hx567_2)
                    (try rw [show 0 * 8 = 0 from rfl] at hx567_2)
                    (try rw [Addr.add_zero'] at hx567_2)
                    (try rw [show ((0 : Int)).toNat = 0 from rfl] at hx567_3)
                    (try rw [show 0 * 8 = 0 from rfl] at hx567_3)
                    (try rw [Addr.add_zero'] at hx567_3)
                    (try rw [show ((0 : Int)).toNat = 0 from rfl] at hx567_4)
                    (try rw [show 0 * 8 = 0 from rfl] at hx567_4)
                    (try rw [Addr.add_zero'] at hx567_4)
                    (try rw [show ((0 : Int)).toNat = 0 from rfl] at hx567_5)
                    (try rw [show 0 * 8 = 0 from rfl] at hx567_5)
                    (try rw [Addr.add_zero'] at hx567_5)
                    (try rw [show ((0 : Int)).toNat = 0 from rfl] at hx567_6)
                    (try rw [show 0 * 8 = 0 from rfl] at hx567_6)
                    (try rw [Addr.add_zero'] at hx567_6)
                    (try rw [show ((0 : Int)).toNat = 0 from rfl] at hx567_7)
                    (try rw [show 0 * 8 = 0 from rfl] at hx567_7)
                    (try rw [Addr.add_zero'] at hx567_7)
                    replace p567 := eq_true p567
                    replace q567 := eq_true q567
                    refine start_ (n := 40) (S := fun w' => w'.cell? ⟨gb565, 0, none⟩ = some (.int .u8 t549) ∧ w'.cell? ⟨gb565, 1, none⟩ = some (.int .i64 t550) ∧ w'.cell? ⟨gb565, 2, none⟩ = some (.int .i64 t551) ∧ w'.cell? ⟨gb565, 3, none⟩ = some (.int .i64 t552) ∧ w'.cell? ⟨gb565, 4, none⟩ = some (.int .i64 t553) ∧ w'.cell? ⟨gb565, 5, none⟩ = some (.int .i64 t554) ∧ w'.cell? ⟨gb565, 6, none⟩ = some (.bool t555) ∧ w'.cell? ⟨gb565, 7, none⟩ = some (.slice (some ad566) t556.length co31) ∧ w'.cell? ⟨gb565, 8, none⟩ = some (.int .i64 t559) ∧ w'.cell? ⟨gb565, 9, none⟩ = some (.int .i64 t560) ∧ w'.cell? ⟨gb565, 10, none⟩ = some (.int .i64 t561) ∧ w'.cell? ⟨gb565, 11, none⟩ = some (.int .i64 t562) ∧ w'.cell? ⟨gb565, 12, none⟩ = some (.int .i64 t563) ∧ w'.cell? ad566 = some (.int .i64 ((rd_T37 t556 0).f0)) ∧ w'.cell? ⟨ad566.block, ad566.off + 1, none⟩ = some (.int .i64 ((rd_T37 t556 0).f1)) ∧ w'.cell? ⟨ad566.block, ad566.off + 2, none⟩ = some (.int .u8 ((rd_T37 t556 0).f2)) ∧ w'.cell? ⟨ad566.block, ad566.off + 3, none⟩ = some (.int .i64 ((rd_T37 t556 0).f3)) ∧ w'.cell? ⟨ad566.block, ad566.off + 4, none⟩ = some (.int .i64 ((rd_T37 t556 0).f4)) ∧ w'.cell? ⟨ad566.block, ad566.off + 5, none⟩ = some (.int .i64 ((rd_T37 t556 0).f5)) ∧ w'.cell? ⟨ad566.block, ad566.off + 6, none⟩ = some (.int .i64 ((rd_T37 t556 0).f6)) ∧ w'.cell? ⟨ad566.block, ad566.off + 7, none⟩ = some (.bool ((rd_T37 t556 0).f7)) ∧ w'.cell? ad566 = some (.int .i64 ((rd_T37 t556 0).f0)) ∧ w'.cell? ⟨ad566.block, ad566.off + 1, none⟩ = some (.int .i64 ((rd_T37 t556 0).f1)) ∧ w'.cell? ⟨ad566.block, ad566.off + 2, none⟩ = some (.int .u8 ((rd_T37 t556 0).f2)) ∧ w'.cell? ⟨ad566.block, ad566.off + 3, none⟩ = some (.int .i64 ((rd_T37 t556 0).f3)) ∧ w'.cell? ⟨ad566.block, ad566.off + 4, none⟩ = some (.int .i64 ((rd_T37 t556 0).f4)) ∧ w'.cell? ⟨ad566.block, ad566.off + 5, none⟩ = some (.int .i64 ((rd_T37 t556 0).f5)) ∧ w'.cell? ⟨ad566.block, ad566.off + 6, none⟩ = some (.int .i64 ((rd_T37 t556 0).f6)) ∧ w'.cell? ⟨ad566.block, ad566.off + 7, none⟩ = some (.bool ((rd_T37 t556 0).f7))) (ds := []) #[false, false, false, false, false, false, false, false, false, false, false, false, false, false, false, false, false, false, false, false, false, false, false, false, false, false, false, false, false, false, false, false, false, false, false, false, false, false, false, false] (by kernel_rfl) rfl rfl ⟨(blk_cell BK565.out 0).trans rfl, (blk_cell BK565.out 1).trans rfl, (blk_cell BK565.out 2).trans rfl, (blk_cell BK565.out 3).trans rfl, (blk_cell BK565.out 4).trans rfl, (blk_cell BK565.out 5).trans rfl, (blk_cell BK565.out 6).trans rfl, (blk_cell BK565.out 7).trans rfl, (blk_cell BK565.out 8).trans rfl, (blk_cell BK565.out 9).trans rfl, (blk_cell BK565.out 10).trans rfl, (blk_cell BK565.out 11).trans rfl, (blk_cell BK565.out 12).trans rfl, hx566_0, hx566_1, hx566_2, hx566_3, hx566_4, hx566_5, hx566_6, hx566_7, hx567_0, hx567_1, hx567_2, hx567_3, hx567_4, hx567_5, hx567_6, hx567_7⟩ (fun hHeld => ?_); refine with_tabW paybooklaw13_AccountLast.tab11 paybooklaw13_AccountLast.bits11 (fun HT_ HW_ => ?_)
                    generalize w40.drew = w74 at HO543 HO558 BK533 BK565 HB hx566_0 hx566_1 hx566_2 hx566_3 hx566_4 hx566_5 hx566_6 hx566_7 hx567_0 hx567_1 hx567_2 hx567_3 hx567_4 hx567_5 hx567_6 hx567_7 hHeld ⊢
                    refine pure_ (i := 0) (N := some 47) (v := ?_) (a' := ?_) #[true, false, false, false, false, false, false, false, false, false, false, false, false, false, false, false, false, false, false, false, false, false, false, false, false, false, false, false, false, false, false, false, false, false, false, false, false, false, false, false] rfl rfl (any_of HT_.out (by kernel_rfl)) (fun _ _ _ h => h) (Or.inl ⟨by rfl, ?_⟩) ?_ ?_
                    rotate_left
                    · intro w'
                      go_simp
                      with_reducible rfl
                    rotate_left
                    · simp only [Act.put, List.setIfInBounds_toArray, List.set_cons_zero, List.set_cons_succ, i64_w, i32_w]
                      rfl
                    refine take_ (i := 1) (N := some 48) (v := ?_) (a' := ?_) #[true, true, false, false, false, false, false, false, false, false, false, false, false, false, false, false, false, false, false, false, false, false, false, false, false, false, false, false, false, false, false, false, false, false, false, false, false, false, false, false] rfl rfl (take_ofW HT_.out HW_.out (by kernel_rfl)) (fun _ _ _ h => h) (Or.inl ⟨by rfl, ?_⟩) hHeld ?_ ?_
                    rotate_left
                    · rintro w' ⟨s0, s1, s2, s3, s4, s5, s6, s7, s8, s9, s10, s11, s12, s13, s14, s15, s16, s17, s18, s19, s20, s21, s22, s23, s24, s25, s26, s27, s28⟩
                      go_simp
                      with_reducible rfl
                    rotate_left
                    · simp only [Act.put, List.setIfInBounds_toArray, List.set_cons_zero, List.set_cons_succ, i64_w, i32_w]
                      rfl
                    refine pure_ (i := 2) (N := some 49) (v := ?_) (a' := ?_) #[true, true, true, false, false, false, false, false, false, false, false, false, false, false, false, false, false, false, false, false, false, false, false, false, false, false, false, false, false, false, false, false, false, false, false, false, false, false, false, false] rfl rfl (any_of HT_.out (by kernel_rfl)) (fun _ _ _ h => h) (Or.inl ⟨by rfl, ?_⟩) ?_ ?_
                    rotate_left
                    · intro w'
                      go_simp
                      with_reducible rfl
                    rotate_left
                    · simp only [Act.put, List.setIfInBounds_toArray, List.set_cons_zero, List.set_cons_succ, i64_w, i32_w]
                      rfl
                    refine pure_ (i := 3) (N := some 50) (v := ?_) (a' := ?_) #[true, true, true, true, false, false, false, false, false, false, false, false, false, false, false, false, false, false, false, false, false, false, false, false, false, false, false, false, false, false, false, false, false, false, false, false, false, false, false, false] rfl rfl (any_of HT_.out (by kernel_rfl)) (fun _ _ _ h => h) (Or.inl ⟨by rfl, ?_⟩) ?_ ?_
                    rotate_left
                    · intro w'
                      go_simp
                      with_reducible rfl
                    rotate_left
                    · simp only [Act.put, List.setIfInBounds_toArray, List.set_cons_zero, List.set_cons_succ, i64_w, i32_w]
                      rfl
                    refine pure_ (i := 4) (N := some 51) (v := ?_) (a' := ?_) #[true, true, true, true, true, false, false, false, false, false, false, false, false, false, false, false, false, false, false, false, false, false, false, false, false, false, false, false, false, false, false, false, false, false, false, false, false, false, false, false] rfl rfl (any_of HT_.out (by kernel_rfl)) (fun _ _ _ h => h) (Or.inl ⟨by rfl, ?_⟩) ?_ ?_
                    rotate_left
                    · intro w'
                      go_simp
                      with_reducible rfl
                    rotate_left
                    · simp only [Act.put, List.setIfInBounds_toArray, List.set_cons_zero, List.set_cons_succ, i64_w, i32_w]
                      rfl
                    refine take_ (i := 5) (N := some 52) (v := ?_) (a' := ?_) #[true, true, true, true, true, true, false, false, false, false, false, false, false, false, false, false, false, false, false, false, false, false, false, false, false, false, false, false, false, false, false, false, false, false, false, false, false, false, false, false] rfl rfl (take_ofW HT_.out HW_.out (by kernel_rfl)) (fun _ _ _ h => h) (Or.inl ⟨by rfl, ?_⟩) hHeld ?_ ?_
                    rotate_left
                    · rintro w' ⟨s0, s1, s2, s3, s4, s5, s6, s7, s8, s9, s10, s11, s12, s13, s14, s15, s16, s17, s18, s19, s20, s21, s22, s23, s24, s25, s26, s27, s28⟩
                      go_simp
                      with_reducible rfl
                    rotate_left
                    · simp only [Act.put, List.setIfInBounds_toArray, List.set_cons_zero, List.set_cons_succ, i64_w, i32_w]
                      rfl
                    refine pure_ (i := 6) (N := some 53) (v := ?_) (a' := ?_) #[true, true, true, true, true, true, true, false, false, false, false, false, false, false, false, false, false, false, false, false, false, false, false, false, false, false, false, false, false, false, false, false, false, false, false, false, false, false, false, false] rfl rfl (any_of HT_.out (by kernel_rfl)) (fun _ _ _ h => h) (Or.inl ⟨by rfl, ?_⟩) ?_ ?_
                    rotate_left
                    · intro w'
                      go_simp
                      with_reducible rfl
                    rotate_left
                    · simp only [Act.put, List.setIfInBounds_toArray, List.set_cons_zero, List.set_cons_succ, i64_w, i32_w]
                      rfl
                    refine pure_ (i := 7) (N := some 54) (v := ?_) (a' := ?_) #[true, true, true, true, true, true, true, true, false, false, false, false, false, false, false, false, false, false, false, false, false, false, false, false, false, false, false, false, false, false, false, false, false, false, false, false, false, false, false, false] rfl rfl (any_of HT_.out (by kernel_rfl)) (fun _ _ _ h => h) (Or.inl ⟨by rfl, ?_⟩) ?_ ?_
                    rotate_left
                    · intro w'
                      go_simp
                      with_reducible rfl
                    rotate_left
                    · simp only [Act.put, List.setIfInBounds_toArray, List.set_cons_zero, List.set_cons_succ, i64_w, i32_w]
                      rfl
                    refine pure_ (i := 8) (N := some 55) (v := ?_) (a' := ?_) #[true, true, true, true, true, true, true, true, true, false, false, false, false, false, false, false, false, false, false, false, false, false, false, false, false, false, false, false, false, false, false, false, false, false, false, false, false, false, false, false] rfl rfl (any_of HT_.out (by kernel_rfl)) (fun _ _ _ h => h) (Or.inl ⟨by rfl, ?_⟩) ?_ ?_
                    rotate_left
                    · intro w'
                      go_simp
                      with_reducible rfl
                    rotate_left
                    · simp only [Act.put, List.setIfInBounds_toArray, List.set_cons_zero, List.set_cons_succ, i64_w, i32_w]
                      rfl
                    refine pure_ (i := 9) (N := some 56) (v := ?_) (a' := ?_) #[true, true, true, true, true, true, true, true, true, true, false, false, false, false, false, false, false, false, false, false, false, false, false, false, false, false, false, false, false, false, false, false, false, false, false, false, false, false, false, false] rfl rfl (any_of HT_.out (by kernel_rfl)) (fun _ _ _ h => h) (Or.inl ⟨by rfl, ?_⟩) ?_ ?_
                    rotate_left
                    · intro w'
                      go_simp
                      with_reducible rfl
                    rotate_left
                    · simp only [Act.put, List.setIfInBounds_toArray, List.set_cons_zero, List.set_cons_succ, i64_w, i32_w]
                      rfl
                    refine pure_ (i := 10) (N := some 57) (v := ?_) (a' := ?_) #[true, true, true, true, true, true, true, true, true, true, true, false, false, false, false, false, false, false, false, false, false, false, false, false, false, false, false, false, false, false, false, false, false, false, false, false, false, false, false, false] rfl rfl (any_of HT_.out (by kernel_rfl)) (fun _ _ _ h => h) (Or.inl ⟨by rfl, ?_⟩) ?_ ?_
                    rotate_left
                    · intro w'
                      go_simp
                      with_reducible rfl
                    rotate_left
                    · simp only [Act.put, List.setIfInBounds_toArray, List.set_cons_zero, List.set_cons_succ, i64_w, i32_w]
                      rfl
                    refine take_ (i := 11) (N := some 58) (v := ?_) (a' := ?_) #[true, true, true, true, true, true, true, true, true, true, true, true, false, false, false, false, false, false, false, false, false, false, false, false, false, false, false, false, false, false, false, false, false, false, false, false, false, false, false, false] rfl rfl (take_ofW HT_.out HW_.out (by kernel_rfl)) (fun _ _ _ h => h) (Or.inl ⟨by rfl, ?_⟩) hHeld ?_ ?_
                    rotate_left
                    · rintro w' ⟨s0, s1, s2, s3, s4, s5, s6, s7, s8, s9, s10, s11, s12, s13, s14, s15, s16, s17, s18, s19, s20, s21, s22, s23, s24, s25, s26, s27, s28⟩
                      go_simp
                      with_reducible rfl
                    rotate_left
                    · simp only [Act.put, List.setIfInBounds_toArray, List.set_cons_zero, List.set_cons_succ, i64_w, i32_w]
                      rfl
                    refine pure_ (i := 12) (N := some 59) (v := ?_) (a' := ?_) #[true, true, true, true, true, true, true, true, true, true, true, true, true, false, false, false, false, false, false, false, false, false, false, false, false, false, false, false, false, false, false, false, false, false, false, false, false, false, false, false] rfl rfl (any_of HT_.out (by kernel_rfl)) (fun _ _ _ h => h) (Or.inl ⟨by rfl, ?_⟩) ?_ ?_
                    rotate_left
                    · intro w'
                      go_simp
                      with_reducible rfl
                    rotate_left
                    · simp only [Act.put, List.setIfInBounds_toArray, List.set_cons_zero, List.set_cons_succ, i64_w, i32_w]
                      rfl
                    refine pure_ (i := 13) (N := some 60) (v := ?_) (a' := ?_) #[true, true, true, true, true, true, true, true, true, true, true, true, true, true, false, false, false, false, false, false, false, false, false, false, false, false, false, false, false, false, false, false, false, false, false, false, false, false, false, false] rfl rfl (any_of HT_.out (by kernel_rfl)) (fun _ _ _ h => h) (Or.inl ⟨by rfl, ?_⟩) ?_ ?_
                    rotate_left
                    · intro w'
                      go_simp
                      with_reducible rfl
                    rotate_left
                    · simp only [Act.put, List.setIfInBounds_toArray, List.set_cons_zero, List.set_cons_succ, i64_w, i32_w]
                      rfl
                    refine pure_ (i := 14) (N := some 61) (v := ?_) (a' := ?_) #[true, true, true, true, true, true, true, true, true, true, true, true, true, true, true, false, false, false, false, false, false, false, false, false, false, false, false, false, false, false, false, false, false, false, false, false, false, false, false, false] rfl rfl (any_of HT_.out (by kernel_rfl)) (fun _ _ _ h => h) (Or.inl ⟨by rfl, ?_⟩) ?_ ?_
                    rotate_left
                    · intro w'
                      go_simp
                      with_reducible rfl
                    rotate_left
                    · simp only [Act.put, List.setIfInBounds_toArray, List.set_cons_zero, List.set_cons_succ, i64_w, i32_w]
                      rfl
                    refine take_ (i := 15) (N := some 62) (v := ?_) (a' := ?_) #[true, true, true, true, true, true, true, true, true, true, true, true, true, true, true, true, false, false, false, false, false, false, false, false, false, false, false, false, false, false, false, false, false, false, false, false, false, false, false, false] rfl rfl (take_ofW HT_.out HW_.out (by kernel_rfl)) (fun _ _ _ h => h) (Or.inl ⟨by rfl, ?_⟩) hHeld ?_ ?_
                    rotate_left
                    · rintro w' ⟨s0, s1, s2, s3, s4, s5, s6, s7, s8, s9, s10, s11, s12, s13, s14, s15, s16, s17, s18, s19, s20, s21, s22, s23, s24, s25, s26, s27, s28⟩
                      go_simp
                      with_reducible rfl
                    rotate_left
                    · simp only [Act.put, List.setIfInBounds_toArray, List.set_cons_zero, List.set_cons_succ, i64_w, i32_w]
                      rfl
                    refine pure_ (i := 16) (N := some 63) (v := ?_) (a' := ?_) #[true, true, true, true, true, true, true, true, true, true, true, true, true, true, true, true, true, false, false, false, false, false, false, false, false, false, false, false, false, false, false, false, false, false, false, false, false, false, false, false] rfl rfl (any_of HT_.out (by kernel_rfl)) (fun _ _ _ h => h) (Or.inl ⟨by rfl, ?_⟩) ?_ ?_
                    rotate_left
                    · intro w'
                      go_simp
                      with_reducible rfl
                    rotate_left
                    · simp only [Act.put, List.setIfInBounds_toArray, List.set_cons_zero, List.set_cons_succ, i64_w, i32_w]
                      rfl
                    refine pure_ (i := 17) (N := some 64) (v := ?_) (a' := ?_) #[true, true, true, true, true, true, true, true, true, true, true, true, true, true, true, true, true, true, false, false, false, false, false, false, false, false, false, false, false, false, false, false, false, false, false, false, false, false, false, false] rfl rfl (any_of HT_.out (by kernel_rfl)) (fun _ _ _ h => h) (Or.inl ⟨by rfl, ?_⟩) ?_ ?_
                    rotate_left
                    · intro w'
                      go_simp
                      with_reducible rfl
                    rotate_left
                    · simp only [Act.put, List.setIfInBounds_toArray, List.set_cons_zero, List.set_cons_succ, i64_w, i32_w]
                      rfl
                    refine pure_ (i := 18) (N := some 65) (v := ?_) (a' := ?_) #[true, true, true, true, true, true, true, true, true, true, true, true, true, true, true, true, true, true, true, false, false, false, false, false, false, false, false, false, false, false, false, false, false, false, false, false, false, false, false, false] rfl rfl (any_of HT_.out (by kernel_rfl)) (fun _ _ _ h => h) (Or.inl ⟨by rfl, ?_⟩) ?_ ?_
                    rotate_left
                    · intro w'
                      go_simp
                      with_reducible rfl
                    rotate_left
                    · simp only [Act.put, List.setIfInBounds_toArray, List.set_cons_zero, List.set_cons_succ, i64_w, i32_w]
                      rfl
                    refine pure_ (i := 19) (N := some 66) (v := ?_) (a' := ?_) #[true, true, true, true, true, true, true, true, true, true, true, true, true, true, true, true, true, true, true, true, false, false, false, false, false, false, false, false, false, false, false, false, false, false, false, false, false, false, false, false] rfl rfl (any_of HT_.out (by kernel_rfl)) (fun _ _ _ h => h) (Or.inl ⟨by rfl, ?_⟩) ?_ ?_
                    rotate_left
                    · intro w'
                      go_simp
                      with_reducible rfl
                    rotate_left
                    · simp only [Act.put, List.setIfInBounds_toArray, List.set_cons_zero, List.set_cons_succ, i64_w, i32_w]
                      rfl
                    refine pure_ (i := 20) (N := some 67) (v := ?_) (a' := ?_) #[true, true, true, true, true, true, true, true, true, true, true, true, true, true, true, true, true, true, true, true, true, false, false, false, false, false, false, false, false, false, false, false, false, false, false, false, false, false, false, false] rfl rfl (any_of HT_.out (by kernel_rfl)) (fun _ _ _ h => h) (Or.inl ⟨by rfl, ?_⟩) ?_ ?_
                    rotate_left
                    · intro w'
                      go_simp
                      with_reducible rfl
                    rotate_left
                    · simp only [Act.put, List.setIfInBounds_toArray, List.set_cons_zero, List.set_cons_succ, i64_w, i32_w]
                      rfl
                    refine pure_ (i := 25) (N := some 72) (v := ?_) (a' := ?_) #[true, true, true, true, true, true, true, true, true, true, true, true, true, true, true, true, true, true, true, true, true, false, false, false, false, true, false, false, false, false, false, false, false, false, false, false, false, false, false, false] rfl rfl (any_of HT_.out (by kernel_rfl)) (fun _ _ _ h => h) (Or.inl ⟨by rfl, ?_⟩) ?_ ?_
                    rotate_left
                    · intro w'
                      go_simp
                      with_reducible rfl
                    rotate_left
                    · simp only [Act.put, List.setIfInBounds_toArray, List.set_cons_zero, List.set_cons_succ, i64_w, i32_w]
                      rfl
                    refine take_ (i := 21) (N := some 68) (v := ?_) (a' := ?_) #[true, true, true, true, true, true, true, true, true, true, true, true, true, true, true, true, true, true, true, true, true, true, false, false, false, true, false, false, false, false, false, false, false, false, false, false, false, false, false, false] rfl rfl (take_ofW HT_.out HW_.out (by kernel_rfl)) (fun _ _ _ h => h) (Or.inl ⟨by rfl, ?_⟩) hHeld ?_ ?_
                    rotate_left
                    · rintro w' ⟨s0, s1, s2, s3, s4, s5, s6, s7, s8, s9, s10, s11, s12, s13, s14, s15, s16, s17, s18, s19, s20, s21, s22, s23, s24, s25, s26, s27, s28⟩
                      go_simp
                      with_reducible rfl
                    rotate_left
                    · simp only [Act.put, List.setIfInBounds_toArray, List.set_cons_zero, List.set_cons_succ, i64_w, i32_w]
                      rfl
                    refine pure_ (i := 22) (N := some 69) (v := ?_) (a' := ?_) #[true, true, true, true, true, true, true, true, true, true, true, true, true, true, true, true, true, true, true, true, true, true, true, false, false, true, false, false, false, false, false, false, false, false, false, false, false, false, false, false] rfl rfl (any_of HT_.out (by kernel_rfl)) (fun _ _ _ h => h) (Or.inl ⟨by rfl, ?_⟩) ?_ ?_
                    rotate_left
                    · intro w'
                      go_simp
                      with_reducible rfl
                    rotate_left
                    · simp only [Act.put, List.setIfInBounds_toArray, List.set_cons_zero, List.set_cons_succ, i64_w, i32_w]
                      rfl
                    refine pure_ (i := 23) (N := some 70) (v := ?_) (a' := ?_) #[true, true, true, true, true, true, true, true, true, true, true, true, true, true, true, true, true, true, true, true, true, true, true, true, false, true, false, false, false, false, false, false, false, false, false, false, false, false, false, false] rfl rfl (any_of HT_.out (by kernel_rfl)) (fun _ _ _ h => h) (Or.inl ⟨by rfl, ?_⟩) ?_ ?_
                    rotate_left
                    · intro w'
                      go_simp
                      with_reducible rfl
                    rotate_left
                    · simp only [Act.put, List.setIfInBounds_toArray, List.set_cons_zero, List.set_cons_succ, i64_w, i32_w]
                      rfl
                    refine take_ (i := 24) (N := some 71) (v := ?_) (a' := ?_) #[true, true, true, true, true, true, true, true, true, true, true, true, true, true, true, true, true, true, true, true, true, true, true, true, true, true, false, false, false, false, false, false, false, false, false, false, false, false, false, false] rfl rfl (take_ofW HT_.out HW_.out (by kernel_rfl)) (fun _ _ _ h => h) (Or.inl ⟨by rfl, ?_⟩) hHeld ?_ ?_
                    rotate_left
                    · rintro w' ⟨s0, s1, s2, s3, s4, s5, s6, s7, s8, s9, s10, s11, s12, s13, s14, s15, s16, s17, s18, s19, s20, s21, s22, s23, s24, s25, s26, s27, s28⟩
                      go_simp
                      with_reducible rfl
                    rotate_left
                    · simp only [Act.put, List.setIfInBounds_toArray, List.set_cons_zero, List.set_cons_succ, i64_w, i32_w]
                      rfl
                    refine take_ (i := 26) (N := some 73) (v := ?_) (a' := ?_) #[true, true, true, true, true, true, true, true, true, true, true, true, true, true, true, true, true, true, true, true, true, true, true, true, true, true, true, false, false, false, false, false, false, false, false, false, false, false, false, false] rfl rfl (take_ofW HT_.out HW_.out (by kernel_rfl)) (fun _ _ _ h => h) (Or.inl ⟨by rfl, ?_⟩) hHeld ?_ ?_
                    rotate_left
                    · rintro w' ⟨s0, s1, s2, s3, s4, s5, s6, s7, s8, s9, s10, s11, s12, s13, s14, s15, s16, s17, s18, s19, s20, s21, s22, s23, s24, s25, s26, s27, s28⟩
                      go_simp
                      with_reducible rfl
                    rotate_left
                    · simp only [Act.put, List.setIfInBounds_toArray, List.set_cons_zero, List.set_cons_succ, i64_w, i32_w]
                      rfl
                    refine pure_ (i := 27) (N := some 74) (v := ?_) (a' := ?_) #[true, true, true, true, true, true, true, true, true, true, true, true, true, true, true, true, true, true, true, true, true, true, true, true, true, true, true, true, false, false, false, false, false, false, false, false, false, false, false, false] rfl rfl (any_of HT_.out (by kernel_rfl)) (fun _ _ _ h => h) (Or.inl ⟨by rfl, ?_⟩) ?_ ?_
                    rotate_left
                    · intro w'
                      go_simp
                      with_reducible rfl
                    rotate_left
                    · simp only [Act.put, List.setIfInBounds_toArray, List.set_cons_zero, List.set_cons_succ, i64_w, i32_w]
                      rfl
                    refine pure_ (i := 28) (N := some 75) (v := ?_) (a' := ?_) #[true, true, true, true, true, true, true, true, true, true, true, true, true, true, true, true, true, true, true, true, true, true, true, true, true, true, true, true, true, false, false, false, false, false, false, false, false, false, false, false] rfl rfl (any_of HT_.out (by kernel_rfl)) (fun _ _ _ h => h) (Or.inl ⟨by rfl, ?_⟩) ?_ ?_
                    rotate_left
                    · intro w'
                      go_simp
                      with_reducible rfl
                    rotate_left
                    · simp only [Act.put, List.setIfInBounds_toArray, List.set_cons_zero, List.set_cons_succ, i64_w, i32_w]
                      rfl
                    refine pure_ (i := 29) (N := some 76) (v := ?_) (a' := ?_) #[true, true, true, true, true, true, true, true, true, true, true, true, true, true, true, true, true, true, true, true, true, true, true, true, true, true, true, true, true, true, false, false, false, false, false, false, false, false, false, false] rfl rfl (any_of HT_.out (by kernel_rfl)) (fun _ _ _ h => h) (Or.inl ⟨by rfl, ?_⟩) ?_ ?_
                    rotate_left
                    · intro w'
                      go_simp
                      with_reducible rfl
                    rotate_left
                    · simp only [Act.put, List.setIfInBounds_toArray, List.set_cons_zero, List.set_cons_succ, i64_w, i32_w]
                      rfl
                    refine pure_ (i := 30) (N := some 77) (v := ?_) (a' := ?_) #[true, true, true, true, true, true, true, true, true, true, true, true, true, true, true, true, true, true, true, true, true, true, true, true, true, true, true, true, true, true, true, false, false, false, false, false, false, false, false, false] rfl rfl (any_of HT_.out (by kernel_rfl)) (fun _ _ _ h => h) (Or.inl ⟨by rfl, ?_⟩) ?_ ?_
                    rotate_left
                    · intro w'
                      go_simp
                      with_reducible rfl
                    rotate_left
                    · simp only [Act.put, List.setIfInBounds_toArray, List.set_cons_zero, List.set_cons_succ, i64_w, i32_w]
                      rfl
                    refine pure_ (i := 31) (N := some 78) (v := ?_) (a' := ?_) #[true, true, true, true, true, true, true, true, true, true, true, true, true, true, true, true, true, true, true, true, true, true, true, true, true, true, true, true, true, true, true, true, false, false, false, false, false, false, false, false] rfl rfl (any_of HT_.out (by kernel_rfl)) (fun _ _ _ h => h) (Or.inl ⟨by rfl, ?_⟩) ?_ ?_
                    rotate_left
                    · intro w'
                      go_simp
                      with_reducible rfl
                    rotate_left
                    · simp only [Act.put, List.setIfInBounds_toArray, List.set_cons_zero, List.set_cons_succ, i64_w, i32_w]
                      rfl
                    refine take_ (i := 32) (N := some 79) (v := ?_) (a' := ?_) #[true, true, true, true, true, true, true, true, true, true, true, true, true, true, true, true, true, true, true, true, true, true, true, true, true, true, true, true, true, true, true, true, true, false, false, false, false, false, false, false] rfl rfl (take_ofW HT_.out HW_.out (by kernel_rfl)) (fun _ _ _ h => h) (Or.inl ⟨by rfl, ?_⟩) hHeld ?_ ?_
                    rotate_left
                    · rintro w' ⟨s0, s1, s2, s3, s4, s5, s6, s7, s8, s9, s10, s11, s12, s13, s14, s15, s16, s17, s18, s19, s20, s21, s22, s23, s24, s25, s26, s27, s28⟩
                      go_simp
                      with_reducible rfl
                    rotate_left
                    · simp only [Act.put, List.setIfInBounds_toArray, List.set_cons_zero, List.set_cons_succ, i64_w, i32_w]
                      rfl
                    refine pure_ (i := 33) (N := some 80) (v := ?_) (a' := ?_) #[true, true, true, true, true, true, true, true, true, true, true, true, true, true, true, true, true, true, true, true, true, true, true, true, true, true, true, true, true, true, true, true, true, true, false, false, false, false, false, false] rfl rfl (any_of HT_.out (by kernel_rfl)) (fun _ _ _ h => h) (Or.inl ⟨by rfl, ?_⟩) ?_ ?_
                    rotate_left
                    · intro w'
                      go_simp
                      with_reducible rfl
                    rotate_left
                    · simp only [Act.put, List.setIfInBounds_toArray, List.set_cons_zero, List.set_cons_succ, i64_w, i32_w]
                      rfl
                    refine pure_ (i := 34) (N := some 81) (v := ?_) (a' := ?_) #[true, true, true, true, true, true, true, true, true, true, true, true, true, true, true, true, true, true, true, true, true, true, true, true, true, true, true, true, true, true, true, true, true, true, true, false, false, false, false, false] rfl rfl (any_of HT_.out (by kernel_rfl)) (fun _ _ _ h => h) (Or.inl ⟨by rfl, ?_⟩) ?_ ?_
                    rotate_left
                    · intro w'
                      go_simp
                      with_reducible rfl
                    rotate_left
                    · simp only [Act.put, List.setIfInBounds_toArray, List.set_cons_zero, List.set_cons_succ, i64_w, i32_w]
                      rfl
                    refine take_ (i := 35) (N := some 82) (v := ?_) (a' := ?_) #[true, true, true, true, true, true, true, true, true, true, true, true, true, true, true, true, true, true, true, true, true, true, true, true, true, true, true, true, true, true, true, true, true, true, true, true, false, false, false, false] rfl rfl (take_ofW HT_.out HW_.out (by kernel_rfl)) (fun _ _ _ h => h) (Or.inl ⟨by rfl, ?_⟩) hHeld ?_ ?_
                    rotate_left
                    · rintro w' ⟨s0, s1, s2, s3, s4, s5, s6, s7, s8, s9, s10, s11, s12, s13, s14, s15, s16, s17, s18, s19, s20, s21, s22, s23, s24, s25, s26, s27, s28⟩
                      go_simp
                      with_reducible rfl
                    rotate_left
                    · simp only [Act.put, List.setIfInBounds_toArray, List.set_cons_zero, List.set_cons_succ, i64_w, i32_w]
                      rfl
                    refine pure_ (i := 36) (N := some 83) (v := ?_) (a' := ?_) #[true, true, true, true, true, true, true, true, true, true, true, true, true, true, true, true, true, true, true, true, true, true, true, true, true, true, true, true, true, true, true, true, true, true, true, true, true, false, false, false] rfl rfl (any_of HT_.out (by kernel_rfl)) (fun _ _ _ h => h) (Or.inl ⟨by rfl, ?_⟩) ?_ ?_
                    rotate_left
                    · intro w'
                      go_simp
                      with_reducible rfl
                    rotate_left
                    · simp only [Act.put, List.setIfInBounds_toArray, List.set_cons_zero, List.set_cons_succ, i64_w, i32_w]
                      rfl
                    refine pure_ (i := 37) (N := some 84) (v := ?_) (a' := ?_) #[true, true, true, true, true, true, true, true, true, true, true, true, true, true, true, true, true, true, true, true, true, true, true, true, true, true, true, true, true, true, true, true, true, true, true, true, true, true, false, false] rfl rfl (any_of HT_.out (by kernel_rfl)) (fun _ _ _ h => h) (Or.inl ⟨by rfl, ?_⟩) ?_ ?_
                    rotate_left
                    · intro w'
                      go_simp
                      with_reducible rfl
                    rotate_left
                    · simp only [Act.put, List.setIfInBounds_toArray, List.set_cons_zero, List.set_cons_succ, i64_w, i32_w]
                      rfl
                    refine pure_ (i := 38) (N := some 85) (v := ?_) (a' := ?_) #[true, true, true, true, true, true, true, true, true, true, true, true, true, true, true, true, true, true, true, true, true, true, true, true, true, true, true, true, true, true, true, true, true, true, true, true, true, true, true, false] rfl rfl (any_of HT_.out (by kernel_rfl)) (fun _ _ _ h => h) (Or.inl ⟨by rfl, ?_⟩) ?_ ?_
                    rotate_left
                    · intro w'
                      go_simp
                      with_reducible rfl
                    rotate_left
                    · simp only [Act.put, List.setIfInBounds_toArray, List.set_cons_zero, List.set_cons_succ, i64_w, i32_w]
                      rfl
                    refine pure_ (i := 39) (N := some 6) (v := ?_) (a' := ?_) #[true, true, true, true, true, true, true, true, true, true, true, true, true, true, true, true, true, true, true, true, true, true, true, true, true, true, true, true, true, true, true, true, true, true, true, true, true, true, true, true] rfl rfl (any_of HT_.out (by kernel_rfl)) (fun _ _ _ h => h) (Or.inl ⟨by rfl, ?_⟩) ?_ ?_
                    rotate_left
                    · intro w'
                      go_simp
                      with_reducible rfl
                    rotate_left
                    · simp only [Act.put, List.setIfInBounds_toArray, List.set_cons_zero, List.set_cons_succ, i64_w, i32_w]
                      rfl
                    refine done_ (done_of HT_.out (by kernel_rfl)) ?_
                    try go_wp2
                    go_ret
                    exact ⟨by first | rfl | (simp [errW_none, errW_some] <;> rfl) | (simp [*, errW_none, errW_some] <;> rfl), by repeat (first | (with_reducible first | exact HB.out | apply below_alloc | apply pw_below_drewN | apply below_drew1 | refine below_set ?_ GE533.out | refine below_set ?_ GE565.out) | exact HB.out)⟩
                  · rw [if_neg c45] at H
                    exact absurd H (by simp)
                · rw [if_neg c44] at H
                  exact absurd H (by simp)
              · rw [if_neg c43] at H
                exact absurd H (by simp)
            · rw [if_neg c42] at H
              exact absurd H (by simp)
        · rw [if_neg c11] at H
          have c11b0 : (t553 == 0) = false := beq_eq_false_iff_ne.mpr c11
          have c11b1 : (t553 != 0) = true := bne_iff_ne.mpr c11
          by_cases c75 : t553 > 0
          · rw [if_pos c75] at H
            have c75b0 : decide (0 < t553) = true := decide_eq_true c75
            clear c75
            by_cases c76 : (t556.length : Int) = 1
            · rw [if_pos c76] at H
              have c76b0 : ((t556.length : Int) == 1) = true := beq_iff_eq.mpr c76
              have c76b1 : ((t556.length : Int) != 1) = false := bne_eq_false_iff_eq.mpr c76
              clear c76
              by_cases c77 : 0 < (t556.length : Int)
              · rw [if_pos c77] at H
                have c77b0 : decide (0 < (t556.length : Int)) = true := decide_eq_true c77
                have c77b1 : decide (0 < t556.length) = true := decide_eq_true (by omega)
                clear c77
                by_cases c78 : ((rd_T37 t556 0).f0) = (wrap64 (t553 - 1))
                · rw [if_pos c78] at H
                  have c78b0 : (((rd_T37 t556 0).f0) == (wrap64 (t553 - 1))) = true := beq_iff_eq.mpr c78
                  have c78b1 : (((rd_T37 t556 0).f0) != (wrap64 (t553 - 1))) = false := bne_eq_false_iff_eq.mpr c78
                  clear c78
                  obtain rfl := Option.some.inj H
                  have p568 : 0 ≤ (0 : Int) := (by omega)
                  have q568 : 0 < (t556.length : Int) := of_decide_eq_true (by first | (with_reducible assumption) | assumption)
                  obtain ⟨ad568, e568, hx568_0, hx568_1, hx568_2, hx568_3, hx568_4, hx568_5, hx568_6, hx568_7⟩ := at_T37 (Kd.R_reads' HO558.out).2.2 0 p568 q568
                  cases e568
                  have qi568 : (0 < t556.length) = True := eq_true (by omega)
                  (try rw [show ((0 : Int)).toNat = 0 from rfl] at hx568_0)
                  (try rw [show 0 * 8 = 0 from rfl] at hx568_0)
                  (try rw [Addr.add_zero'] at hx568_0)
                  (try rw [show ((0 : Int)).toNat = 0 from rfl] at hx568_1)
                  (try rw [show 0 * 8 = 0 from rfl] at hx568_1)
                  (try rw [Addr.add_zero'] at hx568_1)
                  (try rw [show ((0 : Int)).toNat = 0 from rfl] at hx568_2)
                  (try rw [show 0 * 8 = 0 from rfl] at hx568_2)
                  (try rw [Addr.add_zero'] at hx568_2)
                  (try rw [show ((0 : Int)).toNat = 0 from rfl] at hx568_3)
                  (try rw [show 0 * 8 = 0 from rfl] at hx568_3)
                  (try rw [Addr.add_zero'] at hx568_3)
                  (try rw [show ((0 : Int)).toNat = 0 from rfl] at hx568_4)
                  (try rw [show 0 * 8 = 0 from rfl] at hx568_4)
                  (try rw [Addr.add_zero'] at hx568_4)
                  (try rw [show ((0 : Int)).toNat = 0 from rfl] at hx568_5)
                  (try rw [show 0 * 8 = 0 from rfl] at hx568_5)
                  (try rw [Addr.add_zero'] at hx568_5)
                  (try rw [show ((0 : Int)).toNat = 0 from rfl] at hx568_6)
                  (try rw [show 0 * 8 = 0 from rfl] at hx568_6)
                  (try rw [Addr.add_zero'] at hx568_6)
                  (try rw [show ((0 : Int)).toNat = 0 from rfl] at hx568_7)
                  (try rw [show 0 * 8 = 0 from rfl] at hx568_7)
                  (try rw [Addr.add_zero'] at hx568_7)
                  replace p568 := eq_true p568
                  replace q568 := eq_true q568
                  have p569 : 0 ≤ (0 : Int) := (by omega)
                  have q569 : 0 < (t556.length : Int) := of_decide_eq_true (by first | (with_reducible assumption) | assumption)
                  obtain ⟨ad569, e569, hx569_0, hx569_1, hx569_2, hx569_3, hx569_4, hx569_5, hx569_6, hx569_7⟩ := at_T37 (Kd.R_reads' HO558.out).2.2 0 p569 q569
                  obtain rfl : ad568 = ad569 := (by injection e569)
                  have qi569 : (0 < t556.length) = True := eq_true (by omega)
                  (try rw [show ((0 : Int)).toNat = 0 from rfl] at hx569_0)
                  (try rw [show 0 * 8 = 0 from rfl] at hx569_0)
                  (try rw [Addr.add_zero'] at hx569_0)
                  (try rw [show ((0 : Int)).toNat = 0 from rfl] at hx569_1)
                  (try rw [show 0 * 8 = 0 from rfl] at hx569_1)
                  (try rw [Addr.add_zero'] at hx569_1)
                  (try rw [show ((0 : Int)).toNat = 0 from rfl] at hx569_2)
                  (try rw [show 0 * 8 = 0 from rfl] at hx569_2)
                  (try rw [Addr.add_zero'] at hx569_2)
                  (try rw [show ((0 : Int)).toNat = 0 from rfl] at hx569_3)
                  (try rw [show 0 * 8 = 0 from rfl] at hx569_3)
                  (try rw [Addr.add_zero'] at hx569_3)
                  (try rw [show ((0 : Int)).toNat = 0 from rfl] at hx569_4)
                  (try rw [show 0 * 8 = 0 from rfl] at hx569_4)
                  (try rw [Addr.add_zero'] at hx569_4)
                  (try rw [show ((0 : Int)).toNat = 0 from rfl] at hx569_5)
                  (try rw [show 0 * 8 = 0 from rfl] at hx569_5)
                  (try rw [Addr.add_zero'] at hx569_5)
                  (try rw [show ((0 : Int)).toNat = 0 from rfl] at hx569_6)
                  (try rw [show 0 * 8 = 0 from rfl] at hx569_6)
                  (try rw [Addr.add_zero'] at hx569_6)
                  (try rw [show ((0 : Int)).toNat = 0 from rfl] at hx569_7)
                  (try rw [show 0 * 8 = 0 from rfl] at hx569_7)
                  (try rw [Addr.add_zero'] at hx569_7)
                  replace p569 := eq_true p569
                  replace q569 := eq_true q569
                  refine start_ (n := 40) (S := fun w' => w'.cell? ⟨gb565, 0, none⟩ = some (.int .u8 t549) ∧ w'.cell? ⟨gb565, 1, none⟩ = some (.int .i64 t550) ∧ w'.cell? ⟨gb565, 2, none⟩ = some (.int .i64 t551) ∧ w'.cell? ⟨gb565, 3, none⟩ = some (.int .i64 t552) ∧ w'.cell? ⟨gb565, 4, none⟩ = some (.int .i64 t553) ∧ w'.cell? ⟨gb565, 5, none⟩ = some (.int .i64 t554) ∧ w'.cell? ⟨gb565, 6, none⟩ = some (.bool t555) ∧ w'.cell? ⟨gb565, 7, none⟩ = some (.slice (some ad568) t556.length co31) ∧ w'.cell? ⟨gb565, 8, none⟩ = some (.int .i64 t559) ∧ w'.cell? ⟨gb565, 9, none⟩ = some (.int .i64 t560) ∧ w'.cell? ⟨gb565, 10, none⟩ = some (.int .i64 t561) ∧ w'.cell? ⟨gb565, 11, none⟩ = some (.int .i64 t562) ∧ w'.cell? ⟨gb565, 12, none⟩ = some (.int .i64 t563) ∧ w'.cell? ad568 = some (.int .i64 ((rd_T37 t556 0).f0)) ∧ w'.cell? ⟨ad568.block, ad568.off + 1, none⟩ = some (.int .i64 ((rd_T37 t556 0).f1)) ∧ w'.cell? ⟨ad568.block, ad568.off + 2, none⟩ = some (.int .u8 ((rd_T37 t556 0).f2)) ∧ w'.cell? ⟨ad568.block, ad568.off + 3, none⟩ = some (.int .i64 ((rd_T37 t556 0).f3)) ∧ w'.cell? ⟨ad568.block, ad568.off + 4, none⟩ = some (.int .i64 ((rd_T37 t556 0).f4)) ∧ w'.cell? ⟨ad568.block, ad568.off + 5, none⟩ = some (.int .i64 ((rd_T37 t556 0).f5)) ∧ w'.cell? ⟨ad568.block, ad568.off + 6, none⟩ = some (.int .i64 ((rd_T37 t556 0).f6)) ∧ w'.cell? ⟨ad568.block, ad568.off + 7, none⟩ = some (.bool ((rd_T37 t556 0).f7)) ∧ w'.cell? ad568 = some (.int .i64 ((rd_T37 t556 0).f0)) ∧ w'.cell? ⟨ad568.block, ad568.off + 1, none⟩ = some (.int .i64 ((rd_T37 t556 0).f1)) ∧ w'.cell? ⟨ad568.block, ad568.off + 2, none⟩ = some (.int .u8 ((rd_T37 t556 0).f2)) ∧ w'.cell? ⟨ad568.block, ad568.off + 3, none⟩ = some (.int .i64 ((rd_T37 t556 0).f3)) ∧ w'.cell? ⟨ad568.block, ad568.off + 4, none⟩ = some (.int .i64 ((rd_T37 t556 0).f4)) ∧ w'.cell? ⟨ad568.block, ad568.off + 5, none⟩ = some (.int .i64 ((rd_T37 t556 0).f5)) ∧ w'.cell? ⟨ad568.block, ad568.off + 6, none⟩ = some (.int .i64 ((rd_T37 t556 0).f6)) ∧ w'.cell? ⟨ad568.block, ad568.off + 7, none⟩ = some (.bool ((rd_T37 t556 0).f7))) (ds := []) #[false, false, false, false, false, false, false, false, false, false, false, false, false, false, false, false, false, false, false, false, false, false, false, false, false, false, false, false, false, false, false, false, false, false, false, false, false, false, false, false] (by kernel_rfl) rfl rfl ⟨(blk_cell BK565.out 0).trans rfl, (blk_cell BK565.out 1).trans rfl, (blk_cell BK565.out 2).trans rfl, (blk_cell BK565.out 3).trans rfl, (blk_cell BK565.out 4).trans rfl, (blk_cell BK565.out 5).trans rfl, (blk_cell BK565.out 6).trans rfl, (blk_cell BK565.out 7).trans rfl, (blk_cell BK565.out 8).trans rfl, (blk_cell BK565.out 9).trans rfl, (blk_cell BK565.out 10).trans rfl, (blk_cell BK565.out 11).trans rfl, (blk_cell BK565.out 12).trans rfl, hx568_0, hx568_1, hx568_2, hx568_3, hx568_4, hx568_5, hx568_6, hx568_7, hx569_0, hx569_1, hx569_2, hx569_3, hx569_4, hx569_5, hx569_6, hx569_7⟩ (fun hHeld => ?_); refine with_tabW paybooklaw13_AccountLast.tab11 paybooklaw13_AccountLast.bits11 (fun HT_ HW_ => ?_)
                  generalize w40.drew = w107 at HO543 HO558 BK533 BK565 HB hx568_0 hx568_1 hx568_2 hx568_3 hx568_4 hx568_5 hx568_6 hx568_7 hx569_0 hx569_1 hx569_2 hx569_3 hx569_4 hx569_5 hx569_6 hx569_7 hHeld ⊢
                  refine pure_ (i := 0) (N := some 47) (v := ?_) (a' := ?_) #[true, false, false, false, false, false, false, false, false, false, false, false, false, false, false, false, false, false, false, false, false, false, false, false, false, false, false, false, false, false, false, false, false, false, false, false, false, false, false, false] rfl rfl (any_of HT_.out (by kernel_rfl)) (fun _ _ _ h => h) (Or.inl ⟨by rfl, ?_⟩) ?_ ?_
                  rotate_left
                  · intro w'
                    go_simp
                    with_reducible rfl
                  rotate_left
                  · simp only [Act.put, List.setIfInBounds_toArray, List.set_cons_zero, List.set_cons_succ, i64_w, i32_w]
                    rfl
                  refine take_ (i := 1) (N := some 48) (v := ?_) (a' := ?_) #[true, true, false, false, false, false, false, false, false, false, false, false, false, false, false, false, false, false, false, false, false, false, false, false, false, false, false, false, false, false, false, false, false, false, false, false, false, false, false, false] rfl rfl (take_ofW HT_.out HW_.out (by kernel_rfl)) (fun _ _ _ h => h) (Or.inl ⟨by rfl, ?_⟩) hHeld ?_ ?_
                  rotate_left
                  · rintro w' ⟨s0, s1, s2, s3, s4, s5, s6, s7, s8, s9, s10, s11, s12, s13, s14, s15, s16, s17, s18, s19, s20, s21, s22, s23, s24, s25, s26, s27, s28⟩
                    go_simp
                    with_reducible rfl
                  rotate_left
                  · simp only [Act.put, List.setIfInBounds_toArray, List.set_cons_zero, List.set_cons_succ, i64_w, i32_w]
                    rfl
                  refine pure_ (i := 2) (N := some 49) (v := ?_) (a' := ?_) #[true, true, true, false, false, false, false, false, false, false, false, false, false, false, false, false, false, false, false, false, false, false, false, false, false, false, false, false, false, false, false, false, false, false, false, false, false, false, false, false] rfl rfl (any_of HT_.out (by kernel_rfl)) (fun _ _ _ h => h) (Or.inl ⟨by rfl, ?_⟩) ?_ ?_
                  rotate_left
                  · intro w'
                    go_simp
                    with_reducible rfl
                  rotate_left
                  · simp only [Act.put, List.setIfInBounds_toArray, List.set_cons_zero, List.set_cons_succ, i64_w, i32_w]
                    rfl
                  refine pure_ (i := 3) (N := some 50) (v := ?_) (a' := ?_) #[true, true, true, true, false, false, false, false, false, false, false, false, false, false, false, false, false, false, false, false, false, false, false, false, false, false, false, false, false, false, false, false, false, false, false, false, false, false, false, false] rfl rfl (any_of HT_.out (by kernel_rfl)) (fun _ _ _ h => h) (Or.inl ⟨by rfl, ?_⟩) ?_ ?_
                  rotate_left
                  · intro w'
                    go_simp
                    with_reducible rfl
                  rotate_left
                  · simp only [Act.put, List.setIfInBounds_toArray, List.set_cons_zero, List.set_cons_succ, i64_w, i32_w]
                    rfl
                  refine pure_ (i := 4) (N := some 51) (v := undef) (a' := ?_) #[true, true, true, true, true, false, false, false, false, false, false, false, false, false, false, false, false, false, false, false, false, false, false, false, false, false, false, false, false, false, false, false, false, false, false, false, false, false, false, false] rfl rfl (any_of HT_.out (by kernel_rfl)) (fun _ _ _ h => h) (Or.inr ⟨by rfl, rfl⟩) ?_ ?_
                  rotate_left
                  · simp only [Act.put, List.setIfInBounds_toArray, List.set_cons_zero, List.set_cons_succ, i64_w, i32_w]
                    rfl
                  refine pure_ (i := 5) (N := some 52) (v := undef) (a' := ?_) #[true, true, true, true, true, true, false, false, false, false, false, false, false, false, false, false, false, false, false, false, false, false, false, false, false, false, false, false, false, false, false, false, false, false, false, false, false, false, false, false] rfl rfl (any_of HT_.out (by kernel_rfl)) (fun _ _ _ h => h) (Or.inr ⟨by rfl, rfl⟩) ?_ ?_
                  rotate_left
                  · simp only [Act.put, List.setIfInBounds_toArray, List.set_cons_zero, List.set_cons_succ, i64_w, i32_w]
                    rfl
                  refine pure_ (i := 6) (N := some 53) (v := undef) (a' := ?_) #[true, true, true, true, true, true, true, false, false, false, false, false, false, false, false, false, false, false, false, false, false, false, false, false, false, false, false, false, false, false, false, false, false, false, false, false, false, false, false, false] rfl rfl (any_of HT_.out (by kernel_rfl)) (fun _ _ _ h => h) (Or.inr ⟨by rfl, rfl⟩) ?_ ?_
                  rotate_left
                  · simp only [Act.put, List.setIfInBounds_toArray, List.set_cons_zero, List.set_cons_succ, i64_w, i32_w]
                    rfl
                  refine pure_ (i := 7) (N := some 54) (v := undef) (a' := ?_) #[true, true, true, true, true, true, true, true, false, false, false, false, false, false, false, false, false, false, false, false, false, false, false, false, false, false, false, false, false, false, false, false, false, false, false, false, false, false, false, false] rfl rfl (any_of HT_.out (by kernel_rfl)) (fun _ _ _ h => h) (Or.inr ⟨by rfl, rfl⟩) ?_ ?_
                  rotate_left
                  · simp only [Act.put, List.setIfInBounds_toArray, List.set_cons_zero, List.set_cons_succ, i64_w, i32_w]
                    rfl
                  refine pure_ (i := 8) (N := some 55) (v := ?_) (a' := ?_) #[true, true, true, true, true, true, true, true, true, false, false, false, false, false, false, false, false, false, false, false, false, false, false, false, false, false, false, false, false, false, false, false, false, false, false, false, false, false, false, false] rfl rfl (any_of HT_.out (by kernel_rfl)) (fun _ _ _ h => h) (Or.inl ⟨by rfl, ?_⟩) ?_ ?_
                  rotate_left
                  · intro w'
                    go_simp
                    with_reducible rfl
                  rotate_left
                  · simp only [Act.put, List.setIfInBounds_toArray, List.set_cons_zero, List.set_cons_succ, i64_w, i32_w]
                    rfl
                  refine pure_ (i := 9) (N := some 56) (v := ?_) (a' := ?_) #[true, true, true, true, true, true, true, true, true, true, false, false, false, false, false, false, false, false, false, false, false, false, false, false, false, false, false, false, false, false, false, false, false, false, false, false, false, false, false, false] rfl rfl (any_of HT_.out (by kernel_rfl)) (fun _ _ _ h => h) (Or.inl ⟨by rfl, ?_⟩) ?_ ?_
                  rotate_left
                  · intro w'
                    go_simp
                    with_reducible rfl
                  rotate_left
                  · simp only [Act.put, List.setIfInBounds_toArray, List.set_cons_zero, List.set_cons_succ, i64_w, i32_w]
                    rfl
                  refine pure_ (i := 10) (N := some 57) (v := ?_) (a' := ?_) #[true, true, true, true, true, true, true, true, true, true, true, false, false, false, false, false, false, false, false, false, false, false, false, false, false, false, false, false, false, false, false, false, false, false, false, false, false, false, false, false] rfl rfl (any_of HT_.out (by kernel_rfl)) (fun _ _ _ h => h) (Or.inl ⟨by rfl, ?_⟩) ?_ ?_
                  rotate_left
                  · intro w'
                    go_simp
                    with_reducible rfl
                  rotate_left
                  · simp only [Act.put, List.setIfInBounds_toArray, List.set_cons_zero, List.set_cons_succ, i64_w, i32_w]
                    rfl
                  refine take_ (i := 11) (N := some 58) (v := ?_) (a' := ?_) #[true, true, true, true, true, true, true, true, true, true, true, true, false, false, false, false, false, false, false, false, false, false, false, false, false, false, false, false, false, false, false, false, false, false, false, false, false, false, false, false] rfl rfl (take_ofW HT_.out HW_.out (by kernel_rfl)) (fun _ _ _ h => h) (Or.inl ⟨by rfl, ?_⟩) hHeld ?_ ?_
                  rotate_left
                  · rintro w' ⟨s0, s1, s2, s3, s4, s5, s6, s7, s8, s9, s10, s11, s12, s13, s14, s15, s16, s17, s18, s19, s20, s21, s22, s23, s24, s25, s26, s27, s28⟩
                    go_simp
                    with_reducible rfl
                  rotate_left
                  · simp only [Act.put, List.setIfInBounds_toArray, List.set_cons_zero, List.set_cons_succ, i64_w, i32_w]
                    rfl
                  refine pure_ (i := 12) (N := some 59) (v := ?_) (a' := ?_) #[true, true, true, true, true, true, true, true, true, true, true, true, true, false, false, false, false, false, false, false, false, false, false, false, false, false, false, false, false, false, false, false, false, false, false, false, false, false, false, false] rfl rfl (any_of HT_.out (by kernel_rfl)) (fun _ _ _ h => h) (Or.inl ⟨by rfl, ?_⟩) ?_ ?_
                  rotate_left
                  · intro w'
                    go_simp
                    with_reducible rfl
                  rotate_left
                  · simp only [Act.put, List.setIfInBounds_toArray, List.set_cons_zero, List.set_cons_succ, i64_w, i32_w]
                    rfl
                  refine pure_ (i := 13) (N := some 60) (v := ?_) (a' := ?_) #[true, true, true, true, true, true, true, true, true, true, true, true, true, true, false, false, false, false, false, false, false, false, false, false, false, false, false, false, false, false, false, false, false, false, false, false, false, false, false, false] rfl rfl (any_of HT_.out (by kernel_rfl)) (fun _ _ _ h => h) (Or.inl ⟨by rfl, ?_⟩) ?_ ?_
                  rotate_left
                  · intro w'
                    go_simp
                    with_reducible rfl
                  rotate_left
                  · simp only [Act.put, List.setIfInBounds_toArray, List.set_cons_zero, List.set_cons_succ, i64_w, i32_w]
                    rfl
                  refine pure_ (i := 14) (N := some 61) (v := ?_) (a' := ?_) #[true, true, true, true, true, true, true, true, true, true, true, true, true, true, true, false, false, false, false, false, false, false, false, false, false, false, false, false, false, false, false, false, false, false, false, false, false, false, false, false] rfl rfl (any_of HT_.out (by kernel_rfl)) (fun _ _ _ h => h) (Or.inl ⟨by rfl, ?_⟩) ?_ ?_
                  rotate_left
                  · intro w'
                    go_simp
                    with_reducible rfl
                  rotate_left
                  · simp only [Act.put, List.setIfInBounds_toArray, List.set_cons_zero, List.set_cons_succ, i64_w, i32_w]
                    rfl
                  refine take_ (i := 15) (N := some 62) (v := ?_) (a' := ?_) #[true, true, true, true, true, true, true, true, true, true, true, true, true, true, true, true, false, false, false, false, false, false, false, false, false, false, false, false, false, false, false, false, false, false, false, false, false, false, false, false] rfl rfl (take_ofW HT_.out HW_.out (by kernel_rfl)) (fun _ _ _ h => h) (Or.inl ⟨by rfl, ?_⟩) hHeld ?_ ?_
                  rotate_left
                  · rintro w' ⟨s0, s1, s2, s3, s4, s5, s6, s7, s8, s9, s10, s11, s12, s13, s14, s15, s16, s17, s18, s19, s20, s21, s22, s23, s24, s25, s26, s27, s28⟩
                    go_simp
                    with_reducible rfl
                  rotate_left
                  · simp only [Act.put, List.setIfInBounds_toArray, List.set_cons_zero, List.set_cons_succ, i64_w, i32_w]
                    rfl
                  refine pure_ (i := 16) (N := some 63) (v := ?_) (a' := ?_) #[true, true, true, true, true, true, true, true, true, true, true, true, true, true, true, true, true, false, false, false, false, false, false, false, false, false, false, false, false, false, false, false, false, false, false, false, false, false, false, false] rfl rfl (any_of HT_.out (by kernel_rfl)) (fun _ _ _ h => h) (Or.inl ⟨by rfl, ?_⟩) ?_ ?_
                  rotate_left
                  · intro w'
                    go_simp
                    with_reducible rfl
                  rotate_left
                  · simp only [Act.put, List.setIfInBounds_toArray, List.set_cons_zero, List.set_cons_succ, i64_w, i32_w]
                    rfl
                  refine pure_ (i := 17) (N := some 64) (v := ?_) (a' := ?_) #[true, true, true, true, true, true, true, true, true, true, true, true, true, true, true, true, true, true, false, false, false, false, false, false, false, false, false, false, false, false, false, false, false, false, false, false, false, false, false, false] rfl rfl (any_of HT_.out (by kernel_rfl)) (fun _ _ _ h => h) (Or.inl ⟨by rfl, ?_⟩) ?_ ?_
                  rotate_left
                  · intro w'
                    go_simp
                    with_reducible rfl
                  rotate_left
                  · simp only [Act.put, List.setIfInBounds_toArray, List.set_cons_zero, List.set_cons_succ, i64_w, i32_w]
                    rfl
                  refine pure_ (i := 18) (N := some 65) (v := ?_) (a' := ?_) #[true, true, true, true, true, true, true, true, true, true, true, true, true, true, true, true, true, true, true, false, false, false, false, false, false, false, false, false, false, false, false, false, false, false, false, false, false, false, false, false] rfl rfl (any_of HT_.out (by kernel_rfl)) (fun _ _ _ h => h) (Or.inl ⟨by rfl, ?_⟩) ?_ ?_
                  rotate_left
                  · intro w'
                    go_simp
                    with_reducible rfl
                  rotate_left
                  · simp only [Act.put, List.setIfInBounds_toArray, List.set_cons_zero, List.set_cons_succ, i64_w, i32_w]
                    rfl
                  refine pure_ (i := 19) (N := some 66) (v := ?_) (a' := ?_) #[true, true, true, true, true, true, true, true, true, true, true, true, true, true, true, true, true, true, true, true, false, false, false, false, false, false, false, false, false, false, false, false, false, false, false, false, false, false, false, false] rfl rfl (any_of HT_.out (by kernel_rfl)) (fun _ _ _ h => h) (Or.inl ⟨by rfl, ?_⟩) ?_ ?_
                  rotate_left
                  · intro w'
                    go_simp
                    with_reducible rfl
                  rotate_left
                  · simp only [Act.put, List.setIfInBounds_toArray, List.set_cons_zero, List.set_cons_succ, i64_w, i32_w]
                    rfl
                  refine pure_ (i := 20) (N := some 67) (v := ?_) (a' := ?_) #[true, true, true, true, true, true, true, true, true, true, true, true, true, true, true, true, true, true, true, true, true, false, false, false, false, false, false, false, false, false, false, false, false, false, false, false, false, false, false, false] rfl rfl (any_of HT_.out (by kernel_rfl)) (fun _ _ _ h => h) (Or.inl ⟨by rfl, ?_⟩) ?_ ?_
                  rotate_left
                  · intro w'
                    go_simp
                    with_reducible rfl
                  rotate_left
                  · simp only [Act.put, List.setIfInBounds_toArray, List.set_cons_zero, List.set_cons_succ, i64_w, i32_w]
                    rfl
                  refine pure_ (i := 25) (N := some 72) (v := ?_) (a' := ?_) #[true, true, true, true, true, true, true, true, true, true, true, true, true, true, true, true, true, true, true, true, true, false, false, false, false, true, false, false, false, false, false, false, false, false, false, false, false, false, false, false] rfl rfl (any_of HT_.out (by kernel_rfl)) (fun _ _ _ h => h) (Or.inl ⟨by rfl, ?_⟩) ?_ ?_
                  rotate_left
                  · intro w'
                    go_simp
                    with_reducible rfl
                  rotate_left
                  · simp only [Act.put, List.setIfInBounds_toArray, List.set_cons_zero, List.set_cons_succ, i64_w, i32_w]
                    rfl
                  refine take_ (i := 21) (N := some 68) (v := ?_) (a' := ?_) #[true, true, true, true, true, true, true, true, true, true, true, true, true, true, true, true, true, true, true, true, true, true, false, false, false, true, false, false, false, false, false, false, false, false, false, false, false, false, false, false] rfl rfl (take_ofW HT_.out HW_.out (by kernel_rfl)) (fun _ _ _ h => h) (Or.inl ⟨by rfl, ?_⟩) hHeld ?_ ?_
                  rotate_left
                  · rintro w' ⟨s0, s1, s2, s3, s4, s5, s6, s7, s8, s9, s10, s11, s12, s13, s14, s15, s16, s17, s18, s19, s20, s21, s22, s23, s24, s25, s26, s27, s28⟩
                    go_simp
                    with_reducible rfl
                  rotate_left
                  · simp only [Act.put, List.setIfInBounds_toArray, List.set_cons_zero, List.set_cons_succ, i64_w, i32_w]
                    rfl
                  refine pure_ (i := 22) (N := some 69) (v := ?_) (a' := ?_) #[true, true, true, true, true, true, true, true, true, true, true, true, true, true, true, true, true, true, true, true, true, true, true, false, false, true, false, false, false, false, false, false, false, false, false, false, false, false, false, false] rfl rfl (any_of HT_.out (by kernel_rfl)) (fun _ _ _ h => h) (Or.inl ⟨by rfl, ?_⟩) ?_ ?_
                  rotate_left
                  · intro w'
                    go_simp
                    with_reducible rfl
                  rotate_left
                  · simp only [Act.put, List.setIfInBounds_toArray, List.set_cons_zero, List.set_cons_succ, i64_w, i32_w]
                    rfl
                  refine pure_ (i := 23) (N := some 70) (v := ?_) (a' := ?_) #[true, true, true, true, true, true, true, true, true, true, true, true, true, true, true, true, true, true, true, true, true, true, true, true, false, true, false, false, false, false, false, false, false, false, false, false, false, false, false, false] rfl rfl (any_of HT_.out (by kernel_rfl)) (fun _ _ _ h => h) (Or.inl ⟨by rfl, ?_⟩) ?_ ?_
                  rotate_left
                  · intro w'
                    go_simp
                    with_reducible rfl
                  rotate_left
                  · simp only [Act.put, List.setIfInBounds_toArray, List.set_cons_zero, List.set_cons_succ, i64_w, i32_w]
                    rfl
                  refine take_ (i := 24) (N := some 71) (v := ?_) (a' := ?_) #[true, true, true, true, true, true, true, true, true, true, true, true, true, true, true, true, true, true, true, true, true, true, true, true, true, true, false, false, false, false, false, false, false, false, false, false, false, false, false, false] rfl rfl (take_ofW HT_.out HW_.out (by kernel_rfl)) (fun _ _ _ h => h) (Or.inl ⟨by rfl, ?_⟩) hHeld ?_ ?_
                  rotate_left
                  · rintro w' ⟨s0, s1, s2, s3, s4, s5, s6, s7, s8, s9, s10, s11, s12, s13, s14, s15, s16, s17, s18, s19, s20, s21, s22, s23, s24, s25, s26, s27, s28⟩
                    go_simp
                    with_reducible rfl
                  rotate_left
                  · simp only [Act.put, List.setIfInBounds_toArray, List.set_cons_zero, List.set_cons_succ, i64_w, i32_w]
                    rfl
                  refine take_ (i := 26) (N := some 73) (v := ?_) (a' := ?_) #[true, true, true, true, true, true, true, true, true, true, true, true, true, true, true, true, true, true, true, true, true, true, true, true, true, true, true, false, false, false, false, false, false, false, false, false, false, false, false, false] rfl rfl (take_ofW HT_.out HW_.out (by kernel_rfl)) (fun _ _ _ h => h) (Or.inl ⟨by rfl, ?_⟩) hHeld ?_ ?_
                  rotate_left
                  · rintro w' ⟨s0, s1, s2, s3, s4, s5, s6, s7, s8, s9, s10, s11, s12, s13, s14, s15, s16, s17, s18, s19, s20, s21, s22, s23, s24, s25, s26, s27, s28⟩
                    go_simp
                    with_reducible rfl
                  rotate_left
                  · simp only [Act.put, List.setIfInBounds_toArray, List.set_cons_zero, List.set_cons_succ, i64_w, i32_w]
                    rfl
                  refine pure_ (i := 27) (N := some 74) (v := ?_) (a' := ?_) #[true, true, true, true, true, true, true, true, true, true, true, true, true, true, true, true, true, true, true, true, true, true, true, true, true, true, true, true, false, false, false, false, false, false, false, false, false, false, false, false] rfl rfl (any_of HT_.out (by kernel_rfl)) (fun _ _ _ h => h) (Or.inl ⟨by rfl, ?_⟩) ?_ ?_
                  rotate_left
                  · intro w'
                    go_simp
                    with_reducible rfl
                  rotate_left
                  · simp only [Act.put, List.setIfInBounds_toArray, List.set_cons_zero, List.set_cons_succ, i64_w, i32_w]
                    rfl
                  refine pure_ (i := 28) (N := some 75) (v := ?_) (a' := ?_) #[true, true, true, true, true, true, true, true, true, true, true, true, true, true, true, true, true, true, true, true, true, true, true, true, true, true, true, true, true, false, false, false, false, false, false, false, false, false, false, false] rfl rfl (any_of HT_.out (by kernel_rfl)) (fun _ _ _ h => h) (Or.inl ⟨by rfl, ?_⟩) ?_ ?_
                  rotate_left
                  · intro w'
                    go_simp
                    with_reducible rfl
                  rotate_left
                  · simp only [Act.put, List.setIfInBounds_toArray, List.set_cons_zero, List.set_cons_succ, i64_w, i32_w]
                    rfl
                  refine pure_ (i := 29) (N := some 76) (v := ?_) (a' := ?_) #[true, true, true, true, true, true, true, true, true, true, true, true, true, true, true, true, true, true, true, true, true, true, true, true, true, true, true, true, true, true, false, false, false, false, false, false, false, false, false, false] rfl rfl (any_of HT_.out (by kernel_rfl)) (fun _ _ _ h => h) (Or.inl ⟨by rfl, ?_⟩) ?_ ?_
                  rotate_left
                  · intro w'
                    go_simp
                    with_reducible rfl
                  rotate_left
                  · simp only [Act.put, List.setIfInBounds_toArray, List.set_cons_zero, List.set_cons_succ, i64_w, i32_w]
                    rfl
                  refine pure_ (i := 30) (N := some 77) (v := ?_) (a' := ?_) #[true, true, true, true, true, true, true, true, true, true, true, true, true, true, true, true, true, true, true, true, true, true, true, true, true, true, true, true, true, true, true, false, false, false, false, false, false, false, false, false] rfl rfl (any_of HT_.out (by kernel_rfl)) (fun _ _ _ h => h) (Or.inl ⟨by rfl, ?_⟩) ?_ ?_
                  rotate_left
                  · intro w'
                    go_simp
                    with_reducible rfl
                  rotate_left
                  · simp only [Act.put, List.setIfInBounds_toArray, List.set_cons_zero, List.set_cons_succ, i64_w, i32_w]
                    rfl
                  refine pure_ (i := 31) (N := some 78) (v := ?_) (a' := ?_) #[true, true, true, true, true, true, true, true, true, true, true, true, true, true, true, true, true, true, true, true, true, true, true, true, true, true, true, true, true, true, true, true, false, false, false, false, false, false, false, false] rfl rfl (any_of HT_.out (by kernel_rfl)) (fun _ _ _ h => h) (Or.inl ⟨by rfl, ?_⟩) ?_ ?_
                  rotate_left
                  · intro w'
                    go_simp
                    with_reducible rfl
                  rotate_left
                  · simp only [Act.put, List.setIfInBounds_toArray, List.set_cons_zero, List.set_cons_succ, i64_w, i32_w]
                    rfl
                  refine take_ (i := 32) (N := some 79) (v := ?_) (a' := ?_) #[true, true, true, true, true, true, true, true, true, true, true, true, true, true, true, true, true, true, true, true, true, true, true, true, true, true, true, true, true, true, true, true, true, false, false, false, false, false, false, false] rfl rfl (take_ofW HT_.out HW_.out (by kernel_rfl)) (fun _ _ _ h => h) (Or.inl ⟨by rfl, ?_⟩) hHeld ?_ ?_
                  rotate_left
                  · rintro w' ⟨s0, s1, s2, s3, s4, s5, s6, s7, s8, s9, s10, s11, s12, s13, s14, s15, s16, s17, s18, s19, s20, s21, s22, s23, s24, s25, s26, s27, s28⟩
                    go_simp
                    with_reducible rfl
                  rotate_left
                  · simp only [Act.put, List.setIfInBounds_toArray, List.set_cons_zero, List.set_cons_succ, i64_w, i32_w]
                    rfl
                  refine pure_ (i := 33) (N := some 80) (v := ?_) (a' := ?_) #[true, true, true, true, true, true, true, true, true, true, true, true, true, true, true, true, true, true, true, true, true, true, true, true, true, true, true, true, true, true, true, true, true, true, false, false, false, false, false, false] rfl rfl (any_of HT_.out (by kernel_rfl)) (fun _ _ _ h => h) (Or.inl ⟨by rfl, ?_⟩) ?_ ?_
                  rotate_left
                  · intro w'
                    go_simp
                    with_reducible rfl
                  rotate_left
                  · simp only [Act.put, List.setIfInBounds_toArray, List.set_cons_zero, List.set_cons_succ, i64_w, i32_w]
                    rfl
                  refine pure_ (i := 34) (N := some 81) (v := ?_) (a' := ?_) #[true, true, true, true, true, true, true, true, true, true, true, true, true, true, true, true, true, true, true, true, true, true, true, true, true, true, true, true, true, true, true, true, true, true, true, false, false, false, false, false] rfl rfl (any_of HT_.out (by kernel_rfl)) (fun _ _ _ h => h) (Or.inl ⟨by rfl, ?_⟩) ?_ ?_
                  rotate_left
                  · intro w'
                    go_simp
                    with_reducible rfl
                  rotate_left
                  · simp only [Act.put, List.setIfInBounds_toArray, List.set_cons_zero, List.set_cons_succ, i64_w, i32_w]
                    rfl
                  refine take_ (i := 35) (N := some 82) (v := ?_) (a' := ?_) #[true, true, true, true, true, true, true, true, true, true, true, true, true, true, true, true, true, true, true, true, true, true, true, true, true, true, true, true, true, true, true, true, true, true, true, true, false, false, false, false] rfl rfl (take_ofW HT_.out HW_.out (by kernel_rfl)) (fun _ _ _ h => h) (Or.inl ⟨by rfl, ?_⟩) hHeld ?_ ?_
                  rotate_left
                  · rintro w' ⟨s0, s1, s2, s3, s4, s5, s6, s7, s8, s9, s10, s11, s12, s13, s14, s15, s16, s17, s18, s19, s20, s21, s22, s23, s24, s25, s26, s27, s28⟩
                    go_simp
                    with_reducible rfl
                  rotate_left
                  · simp only [Act.put, List.setIfInBounds_toArray, List.set_cons_zero, List.set_cons_succ, i64_w, i32_w]
                    rfl
                  refine pure_ (i := 36) (N := some 83) (v := ?_) (a' := ?_) #[true, true, true, true, true, true, true, true, true, true, true, true, true, true, true, true, true, true, true, true, true, true, true, true, true, true, true, true, true, true, true, true, true, true, true, true, true, false, false, false] rfl rfl (any_of HT_.out (by kernel_rfl)) (fun _ _ _ h => h) (Or.inl ⟨by rfl, ?_⟩) ?_ ?_
                  rotate_left
                  · intro w'
                    go_simp
                    with_reducible rfl
                  rotate_left
                  · simp only [Act.put, List.setIfInBounds_toArray, List.set_cons_zero, List.set_cons_succ, i64_w, i32_w]
                    rfl
                  refine pure_ (i := 37) (N := some 84) (v := ?_) (a' := ?_) #[true, true, true, true, true, true, true, true, true, true, true, true, true, true, true, true, true, true, true, true, true, true, true, true, true, true, true, true, true, true, true, true, true, true, true, true, true, true, false, false] rfl rfl (any_of HT_.out (by kernel_rfl)) (fun _ _ _ h => h) (Or.inl ⟨by rfl, ?_⟩) ?_ ?_
                  rotate_left
                  · intro w'
                    go_simp
                    with_reducible rfl
                  rotate_left
                  · simp only [Act.put, List.setIfInBounds_toArray, List.set_cons_zero, List.set_cons_succ, i64_w, i32_w]
                    rfl
                  refine pure_ (i := 38) (N := some 85) (v := ?_) (a' := ?_) #[true, true, true, true, true, true, true, true, true, true, true, true, true, true, true, true, true, true, true, true, true, true, true, true, true, true, true, true, true, true, true, true, true, true, true, true, true, true, true, false] rfl rfl (any_of HT_.out (by kernel_rfl)) (fun _ _ _ h => h) (Or.inl ⟨by rfl, ?_⟩) ?_ ?_
                  rotate_left
                  · intro w'
                    go_simp
                    with_reducible rfl
                  rotate_left
                  · simp only [Act.put, List.setIfInBounds_toArray, List.set_cons_zero, List.set_cons_succ, i64_w, i32_w]
                    rfl
                  refine pure_ (i := 39) (N := some 6) (v := ?_) (a' := ?_) #[true, true, true, true, true, true, true, true, true, true, true, true, true, true, true, true, true, true, true, true, true, true, true, true, true, true, true, true, true, true, true, true, true, true, true, true, true, true, true, true] rfl rfl (any_of HT_.out (by kernel_rfl)) (fun _ _ _ h => h) (Or.inl ⟨by rfl, ?_⟩) ?_ ?_
                  rotate_left
                  · intro w'
                    go_simp
                    with_reducible rfl
                  rotate_left
                  · simp only [Act.put, List.setIfInBounds_toArray, List.set_cons_zero, List.set_cons_succ, i64_w, i32_w]
                    rfl
                  refine done_ (done_of HT_.out (by kernel_rfl)) ?_
                  try go_wp2
                  go_ret
                  exact ⟨by first | rfl | (simp [errW_none, errW_some] <;> rfl) | (simp [*, errW_none, errW_some] <;> rfl), by repeat (first | (with_reducible first | exact HB.out | apply below_alloc | apply pw_below_drewN | apply below_drew1 | refine below_set ?_ GE533.out | refine below_set ?_ GE565.out) | exact HB.out)⟩
                · rw [if_neg c78] at H
                  exact absurd H (by simp)
              · rw [if_neg c77] at H
                exact absurd H (by simp)
            · rw [if_neg c76] at H
              exact absurd H (by simp)
          · rw [if_neg c75] at H
            exact absurd H (by simp)
      · rw [if_neg c10] at H
        exact absurd H (by simp)
    · rw [if_neg c9] at H
      exact absurd H (by simp)
  · replace c5 := Bool.eq_false_iff.mpr c5
    subst c5
    have H1 : (none) = some r := by rw [if_neg (show ¬ (false = true) by decide)] at H; exact H
    clear H
    have H := H1
    clear H1
    exact absurd H (by simp)

/-- THE ONE PURE STATEMENT of paybooklaw13_AccountLast: yours. -/
def paybooklaw13_AccountLast.Pure : Prop := ∀ (a0 : Int) (a1 : Int) (a2 : Int), (Lit.int .u8 a0).wf = true → (Lit.int .u16 a1).wf = true → (Lit.int .u8 a2).wf = true → ∃ k, paybooklaw13_AccountLast.f k a0 a1 a2 = some true
theorem paybooklaw13_AccountLast.walk (P : paybooklaw13_AccountLast.Pure) (a0 : Int) (a1 : Int) (a2 : Int) (w : World) (w0 : (Lit.int .u8 a0).wf = true) (w1 : (Lit.int .u16 a1).wf = true) (w2 : (Lit.int .u8 a2).wf = true) :
    Calls Try.prog 4 #[.int .u8 a0, .int .u16 a1, .int .u8 a2] w fun e w' => e = .returned (.bool true) ∧ Below w.heap.size w w' := by
  obtain ⟨k, h⟩ := P a0 a1 a2 w0 w1 w2
  refine (paybooklaw13_AccountLast.calls k a0 a1 a2 true w h).mono ?_
  rintro e w' ⟨rfl, hd⟩
  exact ⟨rfl, hd⟩

end Go.Proofs.Ytnpcodfeggcdbaa.PAcc
