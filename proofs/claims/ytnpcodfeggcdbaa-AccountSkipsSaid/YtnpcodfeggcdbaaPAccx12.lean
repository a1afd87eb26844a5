-- Laid by wip/prt.py over the kit's print (Acc).
import Derived.Test.YtnpcodfeggcdbaaPAccx0
import Derived.Test.YtnpcodfeggcdbaaPAccx1
import Derived.Test.YtnpcodfeggcdbaaPAccx5
import Derived.Test.YtnpcodfeggcdbaaPAccx6
import Derived.Test.YtnpcodfeggcdbaaPAccx9
import Derived.Test.YtnpcodfeggcdbaaPAccx11
namespace Go.Proofs.Ytnpcodfeggcdbaa.PAcc
open Go.RowKit Go.Proofs.YtnpcodfeggcdbaaW.PrintWords Go.Proofs.YtnpcodfeggcdbaaW.PrintLast Go.Proofs.YtnpcodfeggcdbaaW.PrintMore
attribute [local go_sem] max2_int min2_int max_two min_two max_three min_three max_four min_four   -- for this text's walks alone
set_option linter.unusedVariables false
set_option linter.unusedSimpArgs false

theorem cf_paybooklaw13_AccountSkips (g : Nat) {W : World} {o : Nat} {a : Addr} (h : a.block ≠ (⟨g, o, none⟩ : Addr).block) (u : Value) : (W.setCell ⟨g, o, none⟩ u).cell? a = W.cell? a := cell_far h u
/-! ### paybooklaw13_AccountSkips: function 6 -/
def paybooklaw13_AccountSkips.j0 : Nat → Int → Int → Bool → Int → Int → Int → Int → Bool → Bool → Int → Int → Int → Int → Int → Int → Bool → List (S37) → Int → Int → Int → Int → Int → Option (Bool)
  | 0, _, _, _, _, _, _, _, _, _, _, _, _, _, _, _, _, _, _, _, _, _, _ => none
  | k + 1, x2, x8, x48, x681000, x681001, x681002, x681003, x681004, x681005, x730000, x730001, x730002, x730003, x730004, x730005, x730006, x730007, x730008, x730009, x730010, x730011, x730012 => if x48 = true then (none) else ((paybookref01_Nth.f k x8 x681001 x681002 (wrap64 (1 + (wrap64 (Int.tmod x2 4))))).bind fun bt730 => ((account_Day.f k x730000 x730001 x730002 x730003 x730004 x730005 x730006 x730007 x730008 x730009 x730010 x730011 x730012 x681000 x681001 x681002 x681003 x681004 x681005 bt730.1).bind fun bt732 => (if bt732.2.2.2.2.2.2.2.2.2.2.2.2.2 = 0 then (if bt732.2.2.2.2.1 = (wrap64 ((wrap64 (1 + (wrap64 (Int.tmod x2 4)))) + 1)) then (if bt732.2.2.2.2.2.2.2.2.2.2.2.1 = 1 then (if (bt732.2.2.2.2.2.2.2.1.length : Int) = (wrap64 (1 + (wrap64 (Int.tmod x2 4)))) then (if bt732.2.2.2.2.2.2.1 = true then (none) else (if (wrap64 (1 + (wrap64 (Int.tmod x2 4)))) < 2 then (some true) else (if 1 < (bt732.2.2.2.2.2.2.2.1.length : Int) then (some (((rd_T37 bt732.2.2.2.2.2.2.2.1 1).f0) == 2)) else (none)))) else (none)) else (none)) else (none)) else (none))))
def paybooklaw13_AccountSkips.f (k : Nat) (a0 : Int) (a1 : Int) (a2 : Int) : Option (Bool) := (paybooklaw13_awake.f k).bind fun t673 => (if t673 = true then ((paybookref12_Plan.f a0).bind fun bt674 => ((account_Open.f 0 9 bt674.2.1 bt674.2.2.1 0 true false (wrap64 (700000 + (wrap64 (a1))))).bind fun bt681 => ((account_Day.f k bt681.1 bt681.2.1 bt681.2.2.1 bt681.2.2.2.1 bt681.2.2.2.2.1 bt681.2.2.2.2.2.1 bt681.2.2.2.2.2.2.1 bt681.2.2.2.2.2.2.2.1 bt681.2.2.2.2.2.2.2.2.1 bt681.2.2.2.2.2.2.2.2.2.1 bt681.2.2.2.2.2.2.2.2.2.2.1 bt681.2.2.2.2.2.2.2.2.2.2.2.1 bt681.2.2.2.2.2.2.2.2.2.2.2.2 9 bt674.2.1 bt674.2.2.1 0 true false (wrap64 (700000 + (wrap64 (a1))))).bind fun bt696 => ((account_Skip.f bt696.1 bt696.2.1 bt696.2.2.1 bt696.2.2.2.1 bt696.2.2.2.2.1 bt696.2.2.2.2.2.1 bt696.2.2.2.2.2.2.1 bt696.2.2.2.2.2.2.2.1 bt696.2.2.2.2.2.2.2.2.1 bt696.2.2.2.2.2.2.2.2.2.1 bt696.2.2.2.2.2.2.2.2.2.2.1 bt696.2.2.2.2.2.2.2.2.2.2.2.1 bt696.2.2.2.2.2.2.2.2.2.2.2.2.1).bind fun bt713 => (if bt696.2.2.2.2.2.2.2.2.2.2.2.2.2 = 0 then (paybooklaw13_AccountSkips.j0 k a2 (wrap64 (700000 + (wrap64 (a1)))) (bt713.2.2.2.2.2.2.2.2.2.2.2.2.2 != 0) 9 bt674.2.1 bt674.2.2.1 0 true false bt713.1 bt713.2.1 bt713.2.2.1 bt713.2.2.2.1 bt713.2.2.2.2.1 bt713.2.2.2.2.2.1 bt713.2.2.2.2.2.2.1 bt713.2.2.2.2.2.2.2.1 bt713.2.2.2.2.2.2.2.2.1 bt713.2.2.2.2.2.2.2.2.2.1 bt713.2.2.2.2.2.2.2.2.2.2.1 bt713.2.2.2.2.2.2.2.2.2.2.2.1 bt713.2.2.2.2.2.2.2.2.2.2.2.2.1) else (paybooklaw13_AccountSkips.j0 k a2 (wrap64 (700000 + (wrap64 (a1)))) true 9 bt674.2.1 bt674.2.2.1 0 true false bt713.1 bt713.2.1 bt713.2.2.1 bt713.2.2.2.1 bt713.2.2.2.2.1 bt713.2.2.2.2.2.1 bt713.2.2.2.2.2.2.1 bt713.2.2.2.2.2.2.2.1 bt713.2.2.2.2.2.2.2.2.1 bt713.2.2.2.2.2.2.2.2.2.1 bt713.2.2.2.2.2.2.2.2.2.2.1 bt713.2.2.2.2.2.2.2.2.2.2.2.1 bt713.2.2.2.2.2.2.2.2.2.2.2.2.1)))))) else (none))
theorem paybooklaw13_AccountSkips.mono_l : ∀ k, (∀ y0 y1 y2 y3 y4 y5 y6 y7 y8 y9 y10 y11 y12 y13 y14 y15 y16 y17 y18 y19 y20 y21, LeO (paybooklaw13_AccountSkips.j0 k y0 y1 y2 y3 y4 y5 y6 y7 y8 y9 y10 y11 y12 y13 y14 y15 y16 y17 y18 y19 y20 y21) (paybooklaw13_AccountSkips.j0 (k + 1) y0 y1 y2 y3 y4 y5 y6 y7 y8 y9 y10 y11 y12 y13 y14 y15 y16 y17 y18 y19 y20 y21))
  | 0 => fun _ _ _ _ _ _ _ _ _ _ _ _ _ _ _ _ _ _ _ _ _ _ r h => by simp [paybooklaw13_AccountSkips.j0] at h
  | k + 1 => by
    have ih0 := paybooklaw13_AccountSkips.mono_l k
    · intro y0 y1 y2 y3 y4 y5 y6 y7 y8 y9 y10 y11 y12 y13 y14 y15 y16 y17 y18 y19 y20 y21
      unfold paybooklaw13_AccountSkips.j0
      repeat' first
      | (with_reducible exact ih0 _ _ _ _ _ _ _ _ _ _ _ _ _ _ _ _ _ _ _ _ _ _)
      | (with_reducible exact account_Day.mono _ _ _ _ _ _ _ _ _ _ _ _ _ _ _ _ _ _ _ _ _)
      | (with_reducible exact paybooklaw13_awake.mono _)
      | (with_reducible exact paybookref01_Nth.mono _ _ _ _ _)
      | (with_reducible exact LeO.refl _)
      | (with_reducible exact LeO.none _)
      | (with_reducible refine LeO.ite ?_ ?_)
      | (with_reducible refine LeO.bind ?_ (fun _ => ?_))
      | exact ih0 _ _ _ _ _ _ _ _ _ _ _ _ _ _ _ _ _ _ _ _ _ _
      | exact account_Day.mono _ _ _ _ _ _ _ _ _ _ _ _ _ _ _ _ _ _ _ _ _
      | exact paybooklaw13_awake.mono _
      | exact paybookref01_Nth.mono _ _ _ _ _
      | exact LeO.none _
      | refine LeO.ite ?_ ?_
      | refine LeO.bind ?_ (fun _ => ?_)
theorem paybooklaw13_AccountSkips.mono : ∀ a0 a1 a2 k, LeO (paybooklaw13_AccountSkips.f k a0 a1 a2) (paybooklaw13_AccountSkips.f (k + 1) a0 a1 a2) := by
  intro a0 a1 a2 k
  have ih0 := paybooklaw13_AccountSkips.mono_l k
  unfold paybooklaw13_AccountSkips.f
  repeat' first
      | (with_reducible exact ih0 _ _ _ _ _ _ _ _ _ _ _ _ _ _ _ _ _ _ _ _ _ _)
      | (with_reducible exact account_Day.mono _ _ _ _ _ _ _ _ _ _ _ _ _ _ _ _ _ _ _ _ _)
      | (with_reducible exact paybooklaw13_awake.mono _)
      | (with_reducible exact paybookref01_Nth.mono _ _ _ _ _)
      | (with_reducible exact LeO.refl _)
      | (with_reducible exact LeO.none _)
      | (with_reducible refine LeO.ite ?_ ?_)
      | (with_reducible refine LeO.bind ?_ (fun _ => ?_))
      | exact ih0 _ _ _ _ _ _ _ _ _ _ _ _ _ _ _ _ _ _ _ _ _ _
      | exact account_Day.mono _ _ _ _ _ _ _ _ _ _ _ _ _ _ _ _ _ _ _ _ _
      | exact paybooklaw13_awake.mono _
      | exact paybookref01_Nth.mono _ _ _ _ _
      | exact LeO.none _
      | refine LeO.ite ?_ ?_
      | refine LeO.bind ?_ (fun _ => ?_)
def paybooklaw13_AccountSkips.T9 : Bool × List (List Nat × List Nat) := (true, [([], []), ([], []), ([0, 1], [0, 1]), ([], []), ([], []), ([2, 3, 4, 2], [2, 3, 4]), ([5], [5]), ([6], [6]), ([6], [6]), ([], []), ([9, 7, 5, 0, 1, 2, 3, 4, 5, 6, 7, 9], [7, 9]), ([8, 10, 0, 1, 2, 3, 4, 5, 6, 7, 8, 9, 10], [8])])
def paybooklaw13_AccountSkips.B9 : List Nat := [0, 0, 3, 0, 0, 31, 63, 127, 127, 0, 767, 2047]
theorem paybooklaw13_AccountSkips.tab9 : rtab .any (opsOf Try.f6 9) = paybooklaw13_AccountSkips.T9 := by kernel_rfl
theorem paybooklaw13_AccountSkips.bits9 : waitsOk paybooklaw13_AccountSkips.T9.2 paybooklaw13_AccountSkips.B9 = true := by kernel_rfl
set_option maxHeartbeats 3000000 in
set_option maxRecDepth 100000 in
theorem paybooklaw13_AccountSkips.calls (k : Nat) (a0 : Int) (a1 : Int) (a2 : Int) (r : Bool) (w : World) (h : paybooklaw13_AccountSkips.f k a0 a1 a2 = some r) :
    Calls Try.prog 6 #[.int .u8 a0, .int .u16 a1, .int .u8 a2] w fun e w' => e = .returned (.bool r) ∧ Below w.heap.size w w' := by
  have hu25 := Try.underlying25
  have hu31 := Try.underlying31
  have HB := Aside0.mk (Below.refl w.heap.size w)
  have H : ((paybooklaw13_awake.f k).bind fun t673 => (if t673 = true then ((paybookref12_Plan.f a0).bind fun bt674 => ((account_Open.f 0 9 bt674.2.1 bt674.2.2.1 0 true false (wrap64 (700000 + (wrap64 (a1))))).bind fun bt681 => ((account_Day.f k bt681.1 bt681.2.1 bt681.2.2.1 bt681.2.2.2.1 bt681.2.2.2.2.1 bt681.2.2.2.2.2.1 bt681.2.2.2.2.2.2.1 bt681.2.2.2.2.2.2.2.1 bt681.2.2.2.2.2.2.2.2.1 bt681.2.2.2.2.2.2.2.2.2.1 bt681.2.2.2.2.2.2.2.2.2.2.1 bt681.2.2.2.2.2.2.2.2.2.2.2.1 bt681.2.2.2.2.2.2.2.2.2.2.2.2 9 bt674.2.1 bt674.2.2.1 0 true false (wrap64 (700000 + (wrap64 (a1))))).bind fun bt696 => ((account_Skip.f bt696.1 bt696.2.1 bt696.2.2.1 bt696.2.2.2.1 bt696.2.2.2.2.1 bt696.2.2.2.2.2.1 bt696.2.2.2.2.2.2.1 bt696.2.2.2.2.2.2.2.1 bt696.2.2.2.2.2.2.2.2.1 bt696.2.2.2.2.2.2.2.2.2.1 bt696.2.2.2.2.2.2.2.2.2.2.1 bt696.2.2.2.2.2.2.2.2.2.2.2.1 bt696.2.2.2.2.2.2.2.2.2.2.2.2.1).bind fun bt713 => (if bt696.2.2.2.2.2.2.2.2.2.2.2.2.2 = 0 then (paybooklaw13_AccountSkips.j0 k a2 (wrap64 (700000 + (wrap64 (a1)))) (bt713.2.2.2.2.2.2.2.2.2.2.2.2.2 != 0) 9 bt674.2.1 bt674.2.2.1 0 true false bt713.1 bt713.2.1 bt713.2.2.1 bt713.2.2.2.1 bt713.2.2.2.2.1 bt713.2.2.2.2.2.1 bt713.2.2.2.2.2.2.1 bt713.2.2.2.2.2.2.2.1 bt713.2.2.2.2.2.2.2.2.1 bt713.2.2.2.2.2.2.2.2.2.1 bt713.2.2.2.2.2.2.2.2.2.2.1 bt713.2.2.2.2.2.2.2.2.2.2.2.1 bt713.2.2.2.2.2.2.2.2.2.2.2.2.1) else (paybooklaw13_AccountSkips.j0 k a2 (wrap64 (700000 + (wrap64 (a1)))) true 9 bt674.2.1 bt674.2.2.1 0 true false bt713.1 bt713.2.1 bt713.2.2.1 bt713.2.2.2.1 bt713.2.2.2.2.1 bt713.2.2.2.2.2.1 bt713.2.2.2.2.2.2.1 bt713.2.2.2.2.2.2.2.1 bt713.2.2.2.2.2.2.2.2.1 bt713.2.2.2.2.2.2.2.2.2.1 bt713.2.2.2.2.2.2.2.2.2.2.1 bt713.2.2.2.2.2.2.2.2.2.2.2.1 bt713.2.2.2.2.2.2.2.2.2.2.2.2.1)))))) else (none))) = some r := h
  clear h
  replace H := Option.bind_eq_some_iff.mp H
  obtain ⟨t673, A40, H⟩ := H
  replace H : (if t673 = true then ((paybookref12_Plan.f a0).bind fun bt674 => ((account_Open.f 0 9 bt674.2.1 bt674.2.2.1 0 true false (wrap64 (700000 + (wrap64 (a1))))).bind fun bt681 => ((account_Day.f k bt681.1 bt681.2.1 bt681.2.2.1 bt681.2.2.2.1 bt681.2.2.2.2.1 bt681.2.2.2.2.2.1 bt681.2.2.2.2.2.2.1 bt681.2.2.2.2.2.2.2.1 bt681.2.2.2.2.2.2.2.2.1 bt681.2.2.2.2.2.2.2.2.2.1 bt681.2.2.2.2.2.2.2.2.2.2.1 bt681.2.2.2.2.2.2.2.2.2.2.2.1 bt681.2.2.2.2.2.2.2.2.2.2.2.2 9 bt674.2.1 bt674.2.2.1 0 true false (wrap64 (700000 + (wrap64 (a1))))).bind fun bt696 => ((account_Skip.f bt696.1 bt696.2.1 bt696.2.2.1 bt696.2.2.2.1 bt696.2.2.2.2.1 bt696.2.2.2.2.2.1 bt696.2.2.2.2.2.2.1 bt696.2.2.2.2.2.2.2.1 bt696.2.2.2.2.2.2.2.2.1 bt696.2.2.2.2.2.2.2.2.2.1 bt696.2.2.2.2.2.2.2.2.2.2.1 bt696.2.2.2.2.2.2.2.2.2.2.2.1 bt696.2.2.2.2.2.2.2.2.2.2.2.2.1).bind fun bt713 => (if bt696.2.2.2.2.2.2.2.2.2.2.2.2.2 = 0 then (paybooklaw13_AccountSkips.j0 k a2 (wrap64 (700000 + (wrap64 (a1)))) (bt713.2.2.2.2.2.2.2.2.2.2.2.2.2 != 0) 9 bt674.2.1 bt674.2.2.1 0 true false bt713.1 bt713.2.1 bt713.2.2.1 bt713.2.2.2.1 bt713.2.2.2.2.1 bt713.2.2.2.2.2.1 bt713.2.2.2.2.2.2.1 bt713.2.2.2.2.2.2.2.1 bt713.2.2.2.2.2.2.2.2.1 bt713.2.2.2.2.2.2.2.2.2.1 bt713.2.2.2.2.2.2.2.2.2.2.1 bt713.2.2.2.2.2.2.2.2.2.2.2.1 bt713.2.2.2.2.2.2.2.2.2.2.2.2.1) else (paybooklaw13_AccountSkips.j0 k a2 (wrap64 (700000 + (wrap64 (a1)))) true 9 bt674.2.1 bt674.2.2.1 0 true false bt713.1 bt713.2.1 bt713.2.2.1 bt713.2.2.2.1 bt713.2.2.2.2.1 bt713.2.2.2.2.2.1 bt713.2.2.2.2.2.2.1 bt713.2.2.2.2.2.2.2.1 bt713.2.2.2.2.2.2.2.2.1 bt713.2.2.2.2.2.2.2.2.2.1 bt713.2.2.2.2.2.2.2.2.2.2.1 bt713.2.2.2.2.2.2.2.2.2.2.2.1 bt713.2.2.2.2.2.2.2.2.2.2.2.2.1)))))) else (none)) = some r := H
  have A4 := Aside0.mk A40
  clear A40
  by_cases c5 : t673 = true
  · subst c5
    have H1 : ((paybookref12_Plan.f a0).bind fun bt674 => ((account_Open.f 0 9 bt674.2.1 bt674.2.2.1 0 true false (wrap64 (700000 + (wrap64 (a1))))).bind fun bt681 => ((account_Day.f k bt681.1 bt681.2.1 bt681.2.2.1 bt681.2.2.2.1 bt681.2.2.2.2.1 bt681.2.2.2.2.2.1 bt681.2.2.2.2.2.2.1 bt681.2.2.2.2.2.2.2.1 bt681.2.2.2.2.2.2.2.2.1 bt681.2.2.2.2.2.2.2.2.2.1 bt681.2.2.2.2.2.2.2.2.2.2.1 bt681.2.2.2.2.2.2.2.2.2.2.2.1 bt681.2.2.2.2.2.2.2.2.2.2.2.2 9 bt674.2.1 bt674.2.2.1 0 true false (wrap64 (700000 + (wrap64 (a1))))).bind fun bt696 => ((account_Skip.f bt696.1 bt696.2.1 bt696.2.2.1 bt696.2.2.2.1 bt696.2.2.2.2.1 bt696.2.2.2.2.2.1 bt696.2.2.2.2.2.2.1 bt696.2.2.2.2.2.2.2.1 bt696.2.2.2.2.2.2.2.2.1 bt696.2.2.2.2.2.2.2.2.2.1 bt696.2.2.2.2.2.2.2.2.2.2.1 bt696.2.2.2.2.2.2.2.2.2.2.2.1 bt696.2.2.2.2.2.2.2.2.2.2.2.2.1).bind fun bt713 => (if bt696.2.2.2.2.2.2.2.2.2.2.2.2.2 = 0 then (paybooklaw13_AccountSkips.j0 k a2 (wrap64 (700000 + (wrap64 (a1)))) (bt713.2.2.2.2.2.2.2.2.2.2.2.2.2 != 0) 9 bt674.2.1 bt674.2.2.1 0 true false bt713.1 bt713.2.1 bt713.2.2.1 bt713.2.2.2.1 bt713.2.2.2.2.1 bt713.2.2.2.2.2.1 bt713.2.2.2.2.2.2.1 bt713.2.2.2.2.2.2.2.1 bt713.2.2.2.2.2.2.2.2.1 bt713.2.2.2.2.2.2.2.2.2.1 bt713.2.2.2.2.2.2.2.2.2.2.1 bt713.2.2.2.2.2.2.2.2.2.2.2.1 bt713.2.2.2.2.2.2.2.2.2.2.2.2.1) else (paybooklaw13_AccountSkips.j0 k a2 (wrap64 (700000 + (wrap64 (a1)))) true 9 bt674.2.1 bt674.2.2.1 0 true false bt713.1 bt713.2.1 bt713.2.2.1 bt713.2.2.2.1 bt713.2.2.2.2.1 bt713.2.2.2.2.2.1 bt713.2.2.2.2.2.2.1 bt713.2.2.2.2.2.2.2.1 bt713.2.2.2.2.2.2.2.2.1 bt713.2.2.2.2.2.2.2.2.2.1 bt713.2.2.2.2.2.2.2.2.2.2.1 bt713.2.2.2.2.2.2.2.2.2.2.2.1 bt713.2.2.2.2.2.2.2.2.2.2.2.2.1)))))) = some r := by rw [if_pos rfl] at H; exact H
    clear H
    have H := H1
    clear H1
    replace H := Option.bind_eq_some_iff.mp H
    obtain ⟨⟨t674, t675, t676, t677, t678, t679⟩, A60, H⟩ := H
    replace H : ((account_Open.f 0 9 t675 t676 0 true false (wrap64 (700000 + (wrap64 (a1))))).bind fun bt681 => ((account_Day.f k bt681.1 bt681.2.1 bt681.2.2.1 bt681.2.2.2.1 bt681.2.2.2.2.1 bt681.2.2.2.2.2.1 bt681.2.2.2.2.2.2.1 bt681.2.2.2.2.2.2.2.1 bt681.2.2.2.2.2.2.2.2.1 bt681.2.2.2.2.2.2.2.2.2.1 bt681.2.2.2.2.2.2.2.2.2.2.1 bt681.2.2.2.2.2.2.2.2.2.2.2.1 bt681.2.2.2.2.2.2.2.2.2.2.2.2 9 t675 t676 0 true false (wrap64 (700000 + (wrap64 (a1))))).bind fun bt696 => ((account_Skip.f bt696.1 bt696.2.1 bt696.2.2.1 bt696.2.2.2.1 bt696.2.2.2.2.1 bt696.2.2.2.2.2.1 bt696.2.2.2.2.2.2.1 bt696.2.2.2.2.2.2.2.1 bt696.2.2.2.2.2.2.2.2.1 bt696.2.2.2.2.2.2.2.2.2.1 bt696.2.2.2.2.2.2.2.2.2.2.1 bt696.2.2.2.2.2.2.2.2.2.2.2.1 bt696.2.2.2.2.2.2.2.2.2.2.2.2.1).bind fun bt713 => (if bt696.2.2.2.2.2.2.2.2.2.2.2.2.2 = 0 then (paybooklaw13_AccountSkips.j0 k a2 (wrap64 (700000 + (wrap64 (a1)))) (bt713.2.2.2.2.2.2.2.2.2.2.2.2.2 != 0) 9 t675 t676 0 true false bt713.1 bt713.2.1 bt713.2.2.1 bt713.2.2.2.1 bt713.2.2.2.2.1 bt713.2.2.2.2.2.1 bt713.2.2.2.2.2.2.1 bt713.2.2.2.2.2.2.2.1 bt713.2.2.2.2.2.2.2.2.1 bt713.2.2.2.2.2.2.2.2.2.1 bt713.2.2.2.2.2.2.2.2.2.2.1 bt713.2.2.2.2.2.2.2.2.2.2.2.1 bt713.2.2.2.2.2.2.2.2.2.2.2.2.1) else (paybooklaw13_AccountSkips.j0 k a2 (wrap64 (700000 + (wrap64 (a1)))) true 9 t675 t676 0 true false bt713.1 bt713.2.1 bt713.2.2.1 bt713.2.2.2.1 bt713.2.2.2.2.1 bt713.2.2.2.2.2.1 bt713.2.2.2.2.2.2.1 bt713.2.2.2.2.2.2.2.1 bt713.2.2.2.2.2.2.2.2.1 bt713.2.2.2.2.2.2.2.2.2.1 bt713.2.2.2.2.2.2.2.2.2.2.1 bt713.2.2.2.2.2.2.2.2.2.2.2.1 bt713.2.2.2.2.2.2.2.2.2.2.2.2.1))))) = some r := H
    have A6 := Aside0.mk A60
    clear A60
    replace H := Option.bind_eq_some_iff.mp H
    obtain ⟨⟨t681, t682, t683, t684, t685, t686, t687, t688, t691, t692, t693, t694, t695⟩, A70, H⟩ := H
    replace H : ((account_Day.f k t681 t682 t683 t684 t685 t686 t687 t688 t691 t692 t693 t694 t695 9 t675 t676 0 true false (wrap64 (700000 + (wrap64 (a1))))).bind fun bt696 => ((account_Skip.f bt696.1 bt696.2.1 bt696.2.2.1 bt696.2.2.2.1 bt696.2.2.2.2.1 bt696.2.2.2.2.2.1 bt696.2.2.2.2.2.2.1 bt696.2.2.2.2.2.2.2.1 bt696.2.2.2.2.2.2.2.2.1 bt696.2.2.2.2.2.2.2.2.2.1 bt696.2.2.2.2.2.2.2.2.2.2.1 bt696.2.2.2.2.2.2.2.2.2.2.2.1 bt696.2.2.2.2.2.2.2.2.2.2.2.2.1).bind fun bt713 => (if bt696.2.2.2.2.2.2.2.2.2.2.2.2.2 = 0 then (paybooklaw13_AccountSkips.j0 k a2 (wrap64 (700000 + (wrap64 (a1)))) (bt713.2.2.2.2.2.2.2.2.2.2.2.2.2 != 0) 9 t675 t676 0 true false bt713.1 bt713.2.1 bt713.2.2.1 bt713.2.2.2.1 bt713.2.2.2.2.1 bt713.2.2.2.2.2.1 bt713.2.2.2.2.2.2.1 bt713.2.2.2.2.2.2.2.1 bt713.2.2.2.2.2.2.2.2.1 bt713.2.2.2.2.2.2.2.2.2.1 bt713.2.2.2.2.2.2.2.2.2.2.1 bt713.2.2.2.2.2.2.2.2.2.2.2.1 bt713.2.2.2.2.2.2.2.2.2.2.2.2.1) else (paybooklaw13_AccountSkips.j0 k a2 (wrap64 (700000 + (wrap64 (a1)))) true 9 t675 t676 0 true false bt713.1 bt713.2.1 bt713.2.2.1 bt713.2.2.2.1 bt713.2.2.2.2.1 bt713.2.2.2.2.2.1 bt713.2.2.2.2.2.2.1 bt713.2.2.2.2.2.2.2.1 bt713.2.2.2.2.2.2.2.2.1 bt713.2.2.2.2.2.2.2.2.2.1 bt713.2.2.2.2.2.2.2.2.2.2.1 bt713.2.2.2.2.2.2.2.2.2.2.2.1 bt713.2.2.2.2.2.2.2.2.2.2.2.2.1)))) = some r := H
    have A7 := Aside0.mk A70
    clear A70
    replace H := Option.bind_eq_some_iff.mp H
    obtain ⟨⟨t696, t697, t698, t699, t700, t701, t702, t703, t706, t707, t708, t709, t710, t711⟩, A80, H⟩ := H
    replace H : ((account_Skip.f t696 t697 t698 t699 t700 t701 t702 t703 t706 t707 t708 t709 t710).bind fun bt713 => (if t711 = 0 then (paybooklaw13_AccountSkips.j0 k a2 (wrap64 (700000 + (wrap64 (a1)))) (bt713.2.2.2.2.2.2.2.2.2.2.2.2.2 != 0) 9 t675 t676 0 true false bt713.1 bt713.2.1 bt713.2.2.1 bt713.2.2.2.1 bt713.2.2.2.2.1 bt713.2.2.2.2.2.1 bt713.2.2.2.2.2.2.1 bt713.2.2.2.2.2.2.2.1 bt713.2.2.2.2.2.2.2.2.1 bt713.2.2.2.2.2.2.2.2.2.1 bt713.2.2.2.2.2.2.2.2.2.2.1 bt713.2.2.2.2.2.2.2.2.2.2.2.1 bt713.2.2.2.2.2.2.2.2.2.2.2.2.1) else (paybooklaw13_AccountSkips.j0 k a2 (wrap64 (700000 + (wrap64 (a1)))) true 9 t675 t676 0 true false bt713.1 bt713.2.1 bt713.2.2.1 bt713.2.2.2.1 bt713.2.2.2.2.1 bt713.2.2.2.2.2.1 bt713.2.2.2.2.2.2.1 bt713.2.2.2.2.2.2.2.1 bt713.2.2.2.2.2.2.2.2.1 bt713.2.2.2.2.2.2.2.2.2.1 bt713.2.2.2.2.2.2.2.2.2.2.1 bt713.2.2.2.2.2.2.2.2.2.2.2.1 bt713.2.2.2.2.2.2.2.2.2.2.2.2.1))) = some r := H
    have A8 := Aside0.mk A80
    clear A80
    replace H := Option.bind_eq_some_iff.mp H
    obtain ⟨⟨t713, t714, t715, t716, t717, t718, t719, t720, t723, t724, t725, t726, t727, t728⟩, A90, H⟩ := H
    replace H : (if t711 = 0 then (paybooklaw13_AccountSkips.j0 k a2 (wrap64 (700000 + (wrap64 (a1)))) (t728 != 0) 9 t675 t676 0 true false t713 t714 t715 t716 t717 t718 t719 t720 t723 t724 t725 t726 t727) else (paybooklaw13_AccountSkips.j0 k a2 (wrap64 (700000 + (wrap64 (a1)))) true 9 t675 t676 0 true false t713 t714 t715 t716 t717 t718 t719 t720 t723 t724 t725 t726 t727)) = some r := H
    have A9 := Aside0.mk A90
    clear A90
    have HC10 := Aside0.mk H
    clear H
    go_enter Try.func6, Try.ntmps6
    try go_wp2_with (first | ((with_reducible refine gate_callee (f := 9) rfl ?_); refine goesL_ (some 18) rfl rfl Try.func9 (by kernel_rfl) rfl #[] rfl (by (try simp only [List.map_toArray, List.map_cons, List.map_nil]); first | done | rfl | (simp only [List.length_drop, List.length_take]; rfl)) ?_; (with_reducible refine (paybooklaw13_awake.calls k  true _ A4.out).mono ?_); rintro e w11 ⟨rfl, hb⟩; refine ⟨_, rfl, ?_⟩; have n0_ := Aside0.mk (below_step (by repeat (first | (with_reducible first | exact HB.out | apply below_alloc | apply pw_below_drewN | apply below_drew1) | exact HB.out)) hb); clear HB; have HB := n0_; clear n0_; (try clear hb); (try clear hb2); (try clear hk); (try clear hi)) | ((with_reducible refine gate_callee (f := 10) rfl ?_); refine goesL_ (some 21) rfl rfl Try.func10 (by kernel_rfl) rfl #[.int .u8 a0] rfl (by (try simp only [List.map_toArray, List.map_cons, List.map_nil]); first | done | rfl | (simp only [List.length_drop, List.length_take]; rfl)) ?_; (with_reducible refine (paybookref12_Plan.calls a0 t674 t675 t676 t677 t678 t679 _ A6.out).mono ?_); rintro e w12 ⟨rfl, hb⟩; refine ⟨_, rfl, ?_⟩; have n0_ := Aside0.mk (below_step (by repeat (first | (with_reducible first | exact HB.out | apply below_alloc | apply pw_below_drewN | apply below_drew1) | exact HB.out)) hb); clear HB; have HB := n0_; clear n0_; (try clear hb); (try clear hb2); (try clear hk); (try clear hi)) | ((with_reducible refine gate_dst (N := 7) rfl ?_); (try (refine gate_guard (by rfl) ?_; dsimp only)); refine box_event ?hg (N := 7) ?hd (cs := #[.int .i64 0, .int .u8 0, .int .i64 0, .int .i64 0, .bool false, .bool false]) (t := 25) ?hr ?_; (case hd => rfl); (case hg => rfl); (case hr => first | (go_simp; done) | (go_simp; rfl)); intro gb680 hg w13 hbox hb; have n0_ := Aside0.mk (below_step (by repeat (first | (with_reducible first | exact HB.out | apply below_alloc | apply pw_below_drewN | apply below_drew1) | exact HB.out)) hb); have n1_ := Aside0.mk (hbox); have n2_ := Aside0.mk ((by rw [hg]; exact (below_size (by repeat (first | (with_reducible first | exact HB.out | apply below_alloc | apply pw_below_drewN | apply below_drew1) | exact HB.out))) : w.heap.size ≤ gb680)); have n3_ := Aside0.mk ((by rw [hg]; exact (below_size (by repeat (first | (with_reducible first | exact HB.out | apply below_alloc | apply pw_below_drewN | apply below_drew1) | exact HB.out))) : w.heap.size ≤ gb680)); clear HB; have HB := n0_; have BK680 := n1_; have GW680 := n2_; have GE680 := n3_; clear n0_ n1_ n2_ n3_; clear hb hbox hg; obtain ⟨hcz14_0, hcz14_1, hcz14_2, hcz14_3, hcz14_4, hcz14_5⟩ := bc6 BK680.out; obtain ⟨hfz14_0, hfz14_1, hfz14_2, hfz14_3, hfz14_4, hfz14_5⟩ := bf6 BK680.out))
    have n0_ : Aside0 (((((((((((w13.setCell ⟨gb680, 0, none⟩ (.int .i64 t674)).setCell ⟨gb680, 1, none⟩ (.int .u8 t675)).setCell ⟨gb680, 2, none⟩ (.int .i64 t676)).setCell ⟨gb680, 3, none⟩ (.int .i64 t677)).setCell ⟨gb680, 4, none⟩ (.bool t678)).setCell ⟨gb680, 5, none⟩ (.bool t679)).setCell ⟨gb680, 0, none⟩ (.int .i64 9)).setCell ⟨gb680, 4, none⟩ (.bool true)).setCell ⟨gb680, 5, none⟩ (.bool false)).setCell ⟨gb680, 3, none⟩ (.int .i64 0)).heap[gb680]? = some (.cells #[.int .i64 9, .int .u8 t675, .int .i64 t676, .int .i64 0, .bool true, .bool false] 25 (0, 0))) := ⟨by (with_reducible repeat (first | refine blk_drewN ?_ _ | refine blk_drew ?_ | refine blk_alloc ?_ _)); refine blk_put (cs := #[.int .i64 9, .int .u8 t675, .int .i64 t676, .int .i64 t677, .bool true, .bool false]) ?_ 3 _ rfl; (with_reducible repeat (first | refine blk_drewN ?_ _ | refine blk_drew ?_ | refine blk_alloc ?_ _)); refine blk_put (cs := #[.int .i64 9, .int .u8 t675, .int .i64 t676, .int .i64 t677, .bool true, .bool t679]) ?_ 5 _ rfl; (with_reducible repeat (first | refine blk_drewN ?_ _ | refine blk_drew ?_ | refine blk_alloc ?_ _)); refine blk_put (cs := #[.int .i64 9, .int .u8 t675, .int .i64 t676, .int .i64 t677, .bool t678, .bool t679]) ?_ 4 _ rfl; (with_reducible repeat (first | refine blk_drewN ?_ _ | refine blk_drew ?_ | refine blk_alloc ?_ _)); refine blk_put (cs := #[.int .i64 t674, .int .u8 t675, .int .i64 t676, .int .i64 t677, .bool t678, .bool t679]) ?_ 0 _ rfl; (with_reducible repeat (first | refine blk_drewN ?_ _ | refine blk_drew ?_ | refine blk_alloc ?_ _)); refine bp6 (.int .i64 0) (.int .u8 0) (.int .i64 0) (.int .i64 0) (.bool false) (.bool false) ?_; (with_reducible repeat (first | refine blk_drewN ?_ _ | refine blk_drew ?_ | refine blk_alloc ?_ _)); exact BK680.out⟩
    have n1_ : Aside0 (Below w.heap.size w ((((((((((w13.setCell ⟨gb680, 0, none⟩ (.int .i64 t674)).setCell ⟨gb680, 1, none⟩ (.int .u8 t675)).setCell ⟨gb680, 2, none⟩ (.int .i64 t676)).setCell ⟨gb680, 3, none⟩ (.int .i64 t677)).setCell ⟨gb680, 4, none⟩ (.bool t678)).setCell ⟨gb680, 5, none⟩ (.bool t679)).setCell ⟨gb680, 0, none⟩ (.int .i64 9)).setCell ⟨gb680, 4, none⟩ (.bool true)).setCell ⟨gb680, 5, none⟩ (.bool false)).setCell ⟨gb680, 3, none⟩ (.int .i64 0))) := ⟨by repeat (first | (with_reducible first | exact HB.out | apply below_alloc | apply pw_below_drewN | apply below_drew1 | refine below_set ?_ GE680.out) | exact HB.out)⟩
    (try clear BK680)
    (try clear HB)
    generalize ((((((((((w13.setCell ⟨gb680, 0, none⟩ (.int .i64 t674)).setCell ⟨gb680, 1, none⟩ (.int .u8 t675)).setCell ⟨gb680, 2, none⟩ (.int .i64 t676)).setCell ⟨gb680, 3, none⟩ (.int .i64 t677)).setCell ⟨gb680, 4, none⟩ (.bool t678)).setCell ⟨gb680, 5, none⟩ (.bool t679)).setCell ⟨gb680, 0, none⟩ (.int .i64 9)).setCell ⟨gb680, 4, none⟩ (.bool true)).setCell ⟨gb680, 5, none⟩ (.bool false)).setCell ⟨gb680, 3, none⟩ (.int .i64 0)) = w15 at n0_ n1_ ⊢
    have BK680 := n0_
    have HB := n1_
    clear n0_ n1_
    have n0_ := Aside0.mk (blk_drew BK680.out)
    have n1_ := Aside0.mk (below_drew1 HB.out)
    clear BK680
    clear HB
    have BK680 := n0_
    have HB := n1_
    clear n0_ n1_
    refine start_ (n := 12) (S := fun w' => w'.cell? ⟨gb680, 0, none⟩ = some (.int .i64 9) ∧ w'.cell? ⟨gb680, 1, none⟩ = some (.int .u8 t675) ∧ w'.cell? ⟨gb680, 2, none⟩ = some (.int .i64 t676) ∧ w'.cell? ⟨gb680, 3, none⟩ = some (.int .i64 0) ∧ w'.cell? ⟨gb680, 4, none⟩ = some (.bool true) ∧ w'.cell? ⟨gb680, 5, none⟩ = some (.bool false)) (ds := []) #[false, false, false, false, false, false, false, false, false, false, false, false] (by kernel_rfl) rfl rfl ⟨(blk_cell BK680.out 0).trans rfl, (blk_cell BK680.out 1).trans rfl, (blk_cell BK680.out 2).trans rfl, (blk_cell BK680.out 3).trans rfl, (blk_cell BK680.out 4).trans rfl, (blk_cell BK680.out 5).trans rfl⟩ (fun hHeld => ?_); refine with_tabW paybooklaw13_AccountSkips.tab9 paybooklaw13_AccountSkips.bits9 (fun HT_ HW_ => ?_)
    generalize w15.drew = w16 at BK680 HB hHeld ⊢
    refine pure_ (i := 1) (N := some 31) (v := ?_) (a' := ?_) #[false, true, false, false, false, false, false, false, false, false, false, false] rfl rfl (any_of HT_.out (by kernel_rfl)) (fun _ _ _ h => h) (Or.inl ⟨by rfl, ?_⟩) ?_ ?_
    rotate_left
    · intro w'
      go_simp
      with_reducible rfl
    rotate_left
    · simp only [Act.put, List.setIfInBounds_toArray, List.set_cons_zero, List.set_cons_succ, i64_w, i32_w]
      rfl
    refine pure_ (i := 4) (N := some 34) (v := ?_) (a' := ?_) #[false, true, false, false, true, false, false, false, false, false, false, false] rfl rfl (any_of HT_.out (by kernel_rfl)) (fun _ _ _ h => h) (Or.inl ⟨by rfl, ?_⟩) ?_ ?_
    rotate_left
    · intro w'
      go_simp
      with_reducible rfl
    rotate_left
    · simp only [Act.put, List.setIfInBounds_toArray, List.set_cons_zero, List.set_cons_succ, i64_w, i32_w]
      rfl
    refine take_ (i := 0) (N := some 30) (v := ?_) (a' := ?_) #[true, true, false, false, true, false, false, false, false, false, false, false] rfl rfl (take_ofW HT_.out HW_.out (by kernel_rfl)) (fun _ _ _ h => h) (Or.inl ⟨by rfl, ?_⟩) hHeld ?_ ?_
    rotate_left
    · rintro w' ⟨s0, s1, s2, s3, s4, s5⟩
      go_simp
      with_reducible rfl
    rotate_left
    · simp only [Act.put, List.setIfInBounds_toArray, List.set_cons_zero, List.set_cons_succ, i64_w, i32_w]
      rfl
    refine take_ (i := 3) (N := some 33) (v := ?_) (a' := ?_) #[true, true, false, true, true, false, false, false, false, false, false, false] rfl rfl (take_ofW HT_.out HW_.out (by kernel_rfl)) (fun _ _ _ h => h) (Or.inl ⟨by rfl, ?_⟩) hHeld ?_ ?_
    rotate_left
    · rintro w' ⟨s0, s1, s2, s3, s4, s5⟩
      go_simp
      with_reducible rfl
    rotate_left
    · simp only [Act.put, List.setIfInBounds_toArray, List.set_cons_zero, List.set_cons_succ, i64_w, i32_w]
      rfl
    refine join_ (σ := Value × Value × Nat) 2 #[true, true, true, true, true, true, true, true, true, true, false, false] (fun s_ => [(32, .agg #[.int .u8 t681, .int .i64 t682, .int .i64 t683, .int .i64 t684, .int .i64 t685, .int .i64 t686, .bool t687, s_.1, .int .i64 t691, .int .i64 t692, .int .i64 t693, .int .i64 t694, .int .i64 t695]), (35, .tuple #[.agg #[.int .u8 t696, .int .i64 t697, .int .i64 t698, .int .i64 t699, .int .i64 t700, .int .i64 t701, .bool t702, s_.2.1, .int .i64 t706, .int .i64 t707, .int .i64 t708, .int .i64 t709, .int .i64 t710], .int .i64 t711]), (9, .pointer (some ⟨s_.2.2, 0, none⟩)), (29, .tuple #[.agg #[.int .u8 t696, .int .i64 t697, .int .i64 t698, .int .i64 t699, .int .i64 t700, .int .i64 t701, .bool t702, s_.2.1, .int .i64 t706, .int .i64 t707, .int .i64 t708, .int .i64 t709, .int .i64 t710], .int .i64 t711]), (36, .agg #[.int .u8 t696, .int .i64 t697, .int .i64 t698, .int .i64 t699, .int .i64 t700, .int .i64 t701, .bool t702, s_.2.1, .int .i64 t706, .int .i64 t707, .int .i64 t708, .int .i64 t709, .int .i64 t710]), (37, .int .i64 t711)]) (fun s_ w' => (w'.cell? ⟨gb680, 0, none⟩ = some (.int .i64 9) ∧ w'.cell? ⟨gb680, 1, none⟩ = some (.int .u8 t675) ∧ w'.cell? ⟨gb680, 2, none⟩ = some (.int .i64 t676) ∧ w'.cell? ⟨gb680, 3, none⟩ = some (.int .i64 0) ∧ w'.cell? ⟨gb680, 4, none⟩ = some (.bool true) ∧ w'.cell? ⟨gb680, 5, none⟩ = some (.bool false)) ∧ (Kd.R k37 37 w' w.heap.size (fun k_ => some k_ ≠ (s_.2.1 : Value).ownBlock) s_.1 t688) ∧ (Kd.R k37 37 w' w.heap.size (fun k_ => some k_ ≠ (s_.1 : Value).ownBlock) s_.2.1 t703) ∧ (w'.heap[gb680]? = some (.cells #[.int .i64 9, .int .u8 t675, .int .i64 t676, .int .i64 0, .bool true, .bool false] 25 (0, 0))) ∧ (w'.heap[s_.2.2]? = some (.cells #[.int .u8 0, .int .i64 0, .int .i64 0, .int .i64 0, .int .i64 0, .int .i64 0, .bool false, .slice none 0 0, .int .i64 0, .int .i64 0, .int .i64 0, .int .i64 0, .int .i64 0] 31 (0, 0))) ∧ (w.heap.size ≤ s_.2.2) ∧ (w.heap.size ≤ s_.2.2) ∧ (gb680 ≠ s_.2.2) ∧ (s_.2.2 ≠ gb680) ∧ (Below w.heap.size w w')) ?_ ?_
    rotate_left
    · intro hCont
      refine two_ (i := 2) (j := 9) (Ni := some 32) (Nj := some 9) #[true, true, true, true, true, false, false, false, false, false, false, false] #[true, true, false, true, true, false, false, false, false, true, false, false] rfl rfl rfl rfl (two_of HT_.out (by kernel_rfl)) (by decide) (by decide) (fun K hK => ?_) (fun K hK => ?_)
      · skip
        refine goes_ Try.func11 (by kernel_rfl) rfl #[.int .i64 0, .agg #[.int .i64 9, .int .u8 t675, .int .i64 t676, .int .i64 0, .bool true, .bool false], .int .i64 (wrap64 (700000 + (wrap64 (a1))))] (by rfl) rfl rfl (by (try simp only [List.map_toArray, List.map_cons, List.map_nil]); first | done | rfl | (simp only [List.length_drop, List.length_take]; rfl)) ?_
        with_reducible refine (account_Open.calls 0 9 t675 t676 0 true false (wrap64 (700000 + (wrap64 (a1)))) t681 t682 t683 t684 t685 t686 t687 t688 t691 t692 t693 t694 t695 _ A7.out).mono ?_
        rintro e w17 ⟨v689, rfl, ho0, hb⟩
        refine ⟨_, rfl, ?_⟩
        have n0_ := Aside0.mk (Kd.R_lower ho0 (below_size (by repeat (first | (with_reducible first | exact HB.out | apply below_alloc | apply pw_below_drewN | apply below_drew1 | refine below_set ?_ GE680.out) | exact HB.out))))
        have n1_ := Aside0.mk (blk_below (g := gb680) (o := .cells #[.int .i64 9, .int .u8 t675, .int .i64 t676, .int .i64 0, .bool true, .bool false] 25 (0, 0)) (by (with_reducible repeat (first | refine blk_drewN ?_ _ | refine blk_drew ?_ | refine blk_alloc ?_ _)); exact BK680.out) hb)
        have n2_ := Aside0.mk (below_step (by repeat (first | (with_reducible first | exact HB.out | apply below_alloc | apply pw_below_drewN | apply below_drew1 | refine below_set ?_ GE680.out) | exact HB.out)) hb)
        clear BK680
        clear HB
        have HO690 := n0_
        have BK680 := n1_
        have HB := n2_
        clear n0_ n1_ n2_
        (try clear hb)
        (try clear hb2)
        (try clear hk)
        (try clear hi)
        (try clear ho0)
        obtain ⟨Ao18, co18, eo18⟩ := Kd.R_slice HO690.out
        (first | subst eo18 | (injection eo18 with f1_ f2_ f3_; have f4_ := f1_.symm; have f5_ := f3_.symm; clear f1_ f2_ f3_; subst f4_; subst f5_))
        refine hK.out _ _ ⟨(blk_cell BK680.out 0).trans rfl, (blk_cell BK680.out 1).trans rfl, (blk_cell BK680.out 2).trans rfl, (blk_cell BK680.out 3).trans rfl, (blk_cell BK680.out 4).trans rfl, (blk_cell BK680.out 5).trans rfl⟩ (fun hHeld => ?_)
        clear hK K
        refine norm_ (a' := ?_) ?_ ?_
        rotate_left
        · show Act.put _ (some 32) _ = _
          simp only [Act.put, List.setIfInBounds_toArray, List.set_cons_zero, List.set_cons_succ, i64_w, i32_w]
          rfl
        refine two_ (i := 5) (j := 9) (Ni := some 35) (Nj := some 9) #[true, true, true, true, true, true, false, false, false, false, false, false] #[true, true, true, true, true, false, false, false, false, true, false, false] rfl rfl rfl rfl (two_of HT_.out (by kernel_rfl)) (by decide) (by decide) (fun K hK => ?_) (fun K hK => ?_)
        · skip
          refine goes_ Try.func12 (by kernel_rfl) rfl #[.agg #[.int .u8 t681, .int .i64 t682, .int .i64 t683, .int .i64 t684, .int .i64 t685, .int .i64 t686, .bool t687, .slice Ao18 t688.length co18, .int .i64 t691, .int .i64 t692, .int .i64 t693, .int .i64 t694, .int .i64 t695], .agg #[.int .i64 9, .int .u8 t675, .int .i64 t676, .int .i64 0, .bool true, .bool false], .int .i64 (wrap64 (700000 + (wrap64 (a1))))] (by rfl) rfl rfl (by (try simp only [List.map_toArray, List.map_cons, List.map_nil]); first | done | rfl | (simp only [List.length_drop, List.length_take]; rfl)) ?_
          with_reducible refine (account_Day.calls k t681 t682 t683 t684 t685 t686 t687 _ _ t688 t691 t692 t693 t694 t695 9 t675 t676 0 true false (wrap64 (700000 + (wrap64 (a1)))) t696 t697 t698 t699 t700 t701 t702 t703 t706 t707 t708 t709 t710 t711 _ ?side1 ?side2 A8.out).mono ?_
          (case side1 => repeat (first | exact (Kd.R_reads' HO690.out).2.2 | (with_reducible refine Kd.C_alloc ?_ _) | (with_reducible refine Kd.C_drewN ?_ _) | (with_reducible refine Kd.C_drew ?_)))
          (case side2 => exact (Kd.R_reads' HO690.out).2.1)
          rintro e w19 ⟨v704, rfl, ho0, hb⟩
          refine ⟨_, rfl, ?_⟩
          have n0_ := Aside0.mk (Kd.R_elder' (by (with_reducible repeat (first | apply Kd.R_alloc | apply Kd.R_drewN | apply Kd.R_drew)); exact HO690.out) (Kd.R_base ho0) hb)
          have n1_ := Aside0.mk (Kd.R_lower (Kd.R_new' ho0 (Kd.R_lt (by (with_reducible repeat (first | apply Kd.R_alloc | apply Kd.R_drewN | apply Kd.R_drew)); exact HO690.out))) (below_size (by repeat (first | (with_reducible first | exact HB.out | apply below_alloc | apply pw_below_drewN | apply below_drew1 | refine below_set ?_ GE680.out) | exact HB.out))))
          have n2_ := Aside0.mk (blk_below (g := gb680) (o := .cells #[.int .i64 9, .int .u8 t675, .int .i64 t676, .int .i64 0, .bool true, .bool false] 25 (0, 0)) (by (with_reducible repeat (first | refine blk_drewN ?_ _ | refine blk_drew ?_ | refine blk_alloc ?_ _)); exact BK680.out) hb)
          have n3_ := Aside0.mk (below_step (by repeat (first | (with_reducible first | exact HB.out | apply below_alloc | apply pw_below_drewN | apply below_drew1 | refine below_set ?_ GE680.out) | exact HB.out)) hb)
          clear HO690
          clear BK680
          clear HB
          have HO690 := n0_
          have HO705 := n1_
          have BK680 := n2_
          have HB := n3_
          clear n0_ n1_ n2_ n3_
          (try clear hb)
          (try clear hb2)
          (try clear hk)
          (try clear hi)
          (try clear ho0)
          refine hK.out _ _ ⟨(blk_cell BK680.out 0).trans rfl, (blk_cell BK680.out 1).trans rfl, (blk_cell BK680.out 2).trans rfl, (blk_cell BK680.out 3).trans rfl, (blk_cell BK680.out 4).trans rfl, (blk_cell BK680.out 5).trans rfl⟩ (fun hHeld => ?_)
          clear hK K
          refine norm_ (a' := ?_) ?_ ?_
          rotate_left
          · show Act.put _ (some 35) _ = _
            simp only [Act.put, List.setIfInBounds_toArray, List.set_cons_zero, List.set_cons_succ, i64_w, i32_w]
            rfl
          refine pure_ (i := 6) (N := some 29) (v := ?_) (a' := ?_) #[true, true, true, true, true, true, true, false, false, false, false, false] rfl rfl (any_of HT_.out (by kernel_rfl)) (fun _ _ _ h => h) (Or.inl ⟨by rfl, ?_⟩) ?_ ?_
          rotate_left
          · intro w'
            go_simp
            with_reducible rfl
          rotate_left
          · simp only [Act.put, List.setIfInBounds_toArray, List.set_cons_zero, List.set_cons_succ, i64_w, i32_w]
            rfl
          refine pure_ (i := 7) (N := some 36) (v := ?_) (a' := ?_) #[true, true, true, true, true, true, true, true, false, false, false, false] rfl rfl (any_of HT_.out (by kernel_rfl)) (fun _ _ _ h => h) (Or.inl ⟨by rfl, ?_⟩) ?_ ?_
          rotate_left
          · intro w'
            go_simp
            with_reducible rfl
          rotate_left
          · simp only [Act.put, List.setIfInBounds_toArray, List.set_cons_zero, List.set_cons_succ, i64_w, i32_w]
            rfl
          refine pure_ (i := 8) (N := some 37) (v := ?_) (a' := ?_) #[true, true, true, true, true, true, true, true, true, false, false, false] rfl rfl (any_of HT_.out (by kernel_rfl)) (fun _ _ _ h => h) (Or.inl ⟨by rfl, ?_⟩) ?_ ?_
          rotate_left
          · intro w'
            go_simp
            with_reducible rfl
          rotate_left
          · simp only [Act.put, List.setIfInBounds_toArray, List.set_cons_zero, List.set_cons_succ, i64_w, i32_w]
            rfl
          refine one_ (i := 9) (N := some 9) #[true, true, true, true, true, true, true, true, true, true, false, false] rfl rfl (one_of HT_.out (by kernel_rfl)) (by decide) (fun K hK => ?_)
          refine box_step ?hg (N := 9) ?hd (cs := #[.int .u8 0, .int .i64 0, .int .i64 0, .int .i64 0, .int .i64 0, .int .i64 0, .bool false, .slice none 0 0, .int .i64 0, .int .i64 0, .int .i64 0, .int .i64 0, .int .i64 0]) (t := 31) ?hr ?_; (case hd => rfl); (case hg => rfl); (case hr => first | (go_simp; done) | (go_simp; rfl))
          intro gb712 hg w20 hbox hb
          have n0_ := Aside0.mk (Kd.R_below (by (with_reducible repeat (first | apply Kd.R_alloc | apply Kd.R_drewN | apply Kd.R_drew)); exact HO690.out) hb)
          have n1_ := Aside0.mk (Kd.R_below (by (with_reducible repeat (first | apply Kd.R_alloc | apply Kd.R_drewN | apply Kd.R_drew)); exact HO705.out) hb)
          have n2_ := Aside0.mk (blk_below (g := gb680) (o := .cells #[.int .i64 9, .int .u8 t675, .int .i64 t676, .int .i64 0, .bool true, .bool false] 25 (0, 0)) (by (with_reducible repeat (first | refine blk_drewN ?_ _ | refine blk_drew ?_ | refine blk_alloc ?_ _)); exact BK680.out) hb)
          have n3_ := Aside0.mk (below_step (by repeat (first | (with_reducible first | exact HB.out | apply below_alloc | apply pw_below_drewN | apply below_drew1 | refine below_set ?_ GE680.out) | exact HB.out)) hb)
          have n4_ := Aside0.mk (hbox)
          have n5_ := Aside0.mk ((by rw [hg]; exact (below_size (by repeat (first | (with_reducible first | exact HB.out | apply below_alloc | apply pw_below_drewN | apply below_drew1 | refine below_set ?_ GE680.out) | exact HB.out))) : w.heap.size ≤ gb712))
          have n6_ := Aside0.mk ((by rw [hg]; exact (below_size (by repeat (first | (with_reducible first | exact HB.out | apply below_alloc | apply pw_below_drewN | apply below_drew1 | refine below_set ?_ GE680.out) | exact HB.out))) : w.heap.size ≤ gb712))
          have n7_ := Aside0.mk ((by rw [hg]; exact Nat.ne_of_lt (blk_lt (g := gb680) (o := .cells #[.int .i64 9, .int .u8 t675, .int .i64 t676, .int .i64 0, .bool true, .bool false] 25 (0, 0)) (by (with_reducible repeat (first | refine blk_drewN ?_ _ | refine blk_drew ?_ | refine blk_alloc ?_ _)); exact BK680.out)) : gb680 ≠ gb712))
          have n8_ := Aside0.mk ((by rw [hg]; exact Nat.ne_of_gt (blk_lt (g := gb680) (o := .cells #[.int .i64 9, .int .u8 t675, .int .i64 t676, .int .i64 0, .bool true, .bool false] 25 (0, 0)) (by (with_reducible repeat (first | refine blk_drewN ?_ _ | refine blk_drew ?_ | refine blk_alloc ?_ _)); exact BK680.out)) : gb712 ≠ gb680))
          clear HO690
          clear HO705
          clear BK680
          clear HB
          have HO690 := n0_
          have HO705 := n1_
          have BK680 := n2_
          have HB := n3_
          have BK712 := n4_
          have GW712 := n5_
          have GE712 := n6_
          have NB680_712 := n7_
          have NB712_680 := n8_
          clear n0_ n1_ n2_ n3_ n4_ n5_ n6_ n7_ n8_
          clear hb hbox hg
          refine hK.out _ _ ⟨(blk_cell BK680.out 0).trans rfl, (blk_cell BK680.out 1).trans rfl, (blk_cell BK680.out 2).trans rfl, (blk_cell BK680.out 3).trans rfl, (blk_cell BK680.out 4).trans rfl, (blk_cell BK680.out 5).trans rfl⟩ (fun hHeld => ?_)
          clear hK K
          refine norm_ (a' := ?_) ?_ ?_
          rotate_left
          · show Act.put _ (some 9) _ = _
            simp only [Act.put, List.setIfInBounds_toArray, List.set_cons_zero, List.set_cons_succ, i64_w, i32_w]
            rfl
          exact norm_ (by simp only [putAll, Act.put, List.setIfInBounds_toArray, List.set_cons_zero, List.set_cons_succ]) (hCont (.slice Ao18 t688.length co18, v704, gb712) _ ⟨hHeld, (by (with_reducible repeat (first | apply Kd.R_alloc | apply Kd.R_drewN | apply Kd.R_drew)); exact Kd.R_mono HO690.out (fun _ hk => hk.2)), (by (with_reducible repeat (first | apply Kd.R_alloc | apply Kd.R_drewN | apply Kd.R_drew)); exact Kd.R_mono HO705.out (fun _ hk => hk.2)), (by (with_reducible repeat (first | refine blk_drewN ?_ _ | refine blk_drew ?_ | refine blk_alloc ?_ _)); exact BK680.out), (by (with_reducible repeat (first | refine blk_drewN ?_ _ | refine blk_drew ?_ | refine blk_alloc ?_ _)); exact BK712.out), GW712.out, GE712.out, NB680_712.out, NB712_680.out, (by repeat (first | (with_reducible first | exact HB.out | apply below_alloc | apply pw_below_drewN | apply below_drew1 | refine below_set ?_ GE680.out | refine below_set ?_ GE712.out) | exact HB.out))⟩)
        · skip
          refine box_step ?hg (N := 9) ?hd (cs := #[.int .u8 0, .int .i64 0, .int .i64 0, .int .i64 0, .int .i64 0, .int .i64 0, .bool false, .slice none 0 0, .int .i64 0, .int .i64 0, .int .i64 0, .int .i64 0, .int .i64 0]) (t := 31) ?hr ?_; (case hd => rfl); (case hg => rfl); (case hr => first | (go_simp; done) | (go_simp; rfl))
          intro gb712 hg w18 hbox hb
          have n0_ := Aside0.mk (Kd.R_below (by (with_reducible repeat (first | apply Kd.R_alloc | apply Kd.R_drewN | apply Kd.R_drew)); exact HO690.out) hb)
          have n1_ := Aside0.mk (blk_below (g := gb680) (o := .cells #[.int .i64 9, .int .u8 t675, .int .i64 t676, .int .i64 0, .bool true, .bool false] 25 (0, 0)) (by (with_reducible repeat (first | refine blk_drewN ?_ _ | refine blk_drew ?_ | refine blk_alloc ?_ _)); exact BK680.out) hb)
          have n2_ := Aside0.mk (below_step (by repeat (first | (with_reducible first | exact HB.out | apply below_alloc | apply pw_below_drewN | apply below_drew1 | refine below_set ?_ GE680.out) | exact HB.out)) hb)
          have n3_ := Aside0.mk (hbox)
          have n4_ := Aside0.mk ((by rw [hg]; exact (below_size (by repeat (first | (with_reducible first | exact HB.out | apply below_alloc | apply pw_below_drewN | apply below_drew1 | refine below_set ?_ GE680.out) | exact HB.out))) : w.heap.size ≤ gb712))
          have n5_ := Aside0.mk ((by rw [hg]; exact (below_size (by repeat (first | (with_reducible first | exact HB.out | apply below_alloc | apply pw_below_drewN | apply below_drew1 | refine below_set ?_ GE680.out) | exact HB.out))) : w.heap.size ≤ gb712))
          have n6_ := Aside0.mk ((by rw [hg]; exact Nat.ne_of_lt (blk_lt (g := gb680) (o := .cells #[.int .i64 9, .int .u8 t675, .int .i64 t676, .int .i64 0, .bool true, .bool false] 25 (0, 0)) (by (with_reducible repeat (first | refine blk_drewN ?_ _ | refine blk_drew ?_ | refine blk_alloc ?_ _)); exact BK680.out)) : gb680 ≠ gb712))
          have n7_ := Aside0.mk ((by rw [hg]; exact Nat.ne_of_gt (blk_lt (g := gb680) (o := .cells #[.int .i64 9, .int .u8 t675, .int .i64 t676, .int .i64 0, .bool true, .bool false] 25 (0, 0)) (by (with_reducible repeat (first | refine blk_drewN ?_ _ | refine blk_drew ?_ | refine blk_alloc ?_ _)); exact BK680.out)) : gb712 ≠ gb680))
          clear HO690
          clear BK680
          clear HB
          have HO690 := n0_
          have BK680 := n1_
          have HB := n2_
          have BK712 := n3_
          have GW712 := n4_
          have GE712 := n5_
          have NB680_712 := n6_
          have NB712_680 := n7_
          clear n0_ n1_ n2_ n3_ n4_ n5_ n6_ n7_
          clear hb hbox hg
          obtain ⟨Ao19, co19, eo19⟩ := Kd.R_slice HO690.out
          (first | subst eo19 | (injection eo19 with f1_ f2_ f3_; have f4_ := f1_.symm; have f5_ := f3_.symm; clear f1_ f2_ f3_; subst f4_; subst f5_))
          refine hK.out _ _ ⟨(blk_cell BK680.out 0).trans rfl, (blk_cell BK680.out 1).trans rfl, (blk_cell BK680.out 2).trans rfl, (blk_cell BK680.out 3).trans rfl, (blk_cell BK680.out 4).trans rfl, (blk_cell BK680.out 5).trans rfl⟩ (fun hHeld => ?_)
          clear hK K
          refine norm_ (a' := ?_) ?_ ?_
          rotate_left
          · show Act.put _ (some 9) _ = _
            simp only [Act.put, List.setIfInBounds_toArray, List.set_cons_zero, List.set_cons_succ, i64_w, i32_w]
            rfl
          refine one_ (i := 5) (N := some 35) #[true, true, true, true, true, true, false, false, false, true, false, false] rfl rfl (one_of HT_.out (by kernel_rfl)) (by decide) (fun K hK => ?_)
          refine goes_ Try.func12 (by kernel_rfl) rfl #[.agg #[.int .u8 t681, .int .i64 t682, .int .i64 t683, .int .i64 t684, .int .i64 t685, .int .i64 t686, .bool t687, .slice Ao19 t688.length co19, .int .i64 t691, .int .i64 t692, .int .i64 t693, .int .i64 t694, .int .i64 t695], .agg #[.int .i64 9, .int .u8 t675, .int .i64 t676, .int .i64 0, .bool true, .bool false], .int .i64 (wrap64 (700000 + (wrap64 (a1))))] (by rfl) rfl rfl (by (try simp only [List.map_toArray, List.map_cons, List.map_nil]); first | done | rfl | (simp only [List.length_drop, List.length_take]; rfl)) ?_
          with_reducible refine (account_Day.calls k t681 t682 t683 t684 t685 t686 t687 _ _ t688 t691 t692 t693 t694 t695 9 t675 t676 0 true false (wrap64 (700000 + (wrap64 (a1)))) t696 t697 t698 t699 t700 t701 t702 t703 t706 t707 t708 t709 t710 t711 _ ?side1 ?side2 A8.out).mono ?_
          (case side1 => repeat (first | exact (Kd.R_reads' HO690.out).2.2 | (with_reducible refine Kd.C_alloc ?_ _) | (with_reducible refine Kd.C_drewN ?_ _) | (with_reducible refine Kd.C_drew ?_)))
          (case side2 => exact (Kd.R_reads' HO690.out).2.1)
          rintro e w20 ⟨v704, rfl, ho0, hb⟩
          refine ⟨_, rfl, ?_⟩
          have n0_ := Aside0.mk (Kd.R_elder' (by (with_reducible repeat (first | apply Kd.R_alloc | apply Kd.R_drewN | apply Kd.R_drew)); exact HO690.out) (Kd.R_base ho0) hb)
          have n1_ := Aside0.mk (Kd.R_lower (Kd.R_new' ho0 (Kd.R_lt (by (with_reducible repeat (first | apply Kd.R_alloc | apply Kd.R_drewN | apply Kd.R_drew)); exact HO690.out))) (below_size (by repeat (first | (with_reducible first | exact HB.out | apply below_alloc | apply pw_below_drewN | apply below_drew1 | refine below_set ?_ GE680.out | refine below_set ?_ GE712.out) | exact HB.out))))
          have n2_ := Aside0.mk (blk_below (g := gb680) (o := .cells #[.int .i64 9, .int .u8 t675, .int .i64 t676, .int .i64 0, .bool true, .bool false] 25 (0, 0)) (by (with_reducible repeat (first | refine blk_drewN ?_ _ | refine blk_drew ?_ | refine blk_alloc ?_ _)); exact BK680.out) hb)
          have n3_ := Aside0.mk (blk_below (g := gb712) (o := .cells #[.int .u8 0, .int .i64 0, .int .i64 0, .int .i64 0, .int .i64 0, .int .i64 0, .bool false, .slice none 0 0, .int .i64 0, .int .i64 0, .int .i64 0, .int .i64 0, .int .i64 0] 31 (0, 0)) (by (with_reducible repeat (first | refine blk_drewN ?_ _ | refine blk_drew ?_ | refine blk_alloc ?_ _)); exact BK712.out) hb)
          have n4_ := Aside0.mk (below_step (by repeat (first | (with_reducible first | exact HB.out | apply below_alloc | apply pw_below_drewN | apply below_drew1 | refine below_set ?_ GE680.out | refine below_set ?_ GE712.out) | exact HB.out)) hb)
          clear HO690
          clear BK680
          clear BK712
          clear HB
          have HO690 := n0_
          have HO705 := n1_
          have BK680 := n2_
          have BK712 := n3_
          have HB := n4_
          clear n0_ n1_ n2_ n3_ n4_
          (try clear hb)
          (try clear hb2)
          (try clear hk)
          (try clear hi)
          (try clear ho0)
          refine hK.out _ _ ⟨(blk_cell BK680.out 0).trans rfl, (blk_cell BK680.out 1).trans rfl, (blk_cell BK680.out 2).trans rfl, (blk_cell BK680.out 3).trans rfl, (blk_cell BK680.out 4).trans rfl, (blk_cell BK680.out 5).trans rfl⟩ (fun hHeld => ?_)
          clear hK K
          refine norm_ (a' := ?_) ?_ ?_
          rotate_left
          · show Act.put _ (some 35) _ = _
            simp only [Act.put, List.setIfInBounds_toArray, List.set_cons_zero, List.set_cons_succ, i64_w, i32_w]
            rfl
          refine pure_ (i := 6) (N := some 29) (v := ?_) (a' := ?_) #[true, true, true, true, true, true, true, false, false, true, false, false] rfl rfl (any_of HT_.out (by kernel_rfl)) (fun _ _ _ h => h) (Or.inl ⟨by rfl, ?_⟩) ?_ ?_
          rotate_left
          · intro w'
            go_simp
            with_reducible rfl
          rotate_left
          · simp only [Act.put, List.setIfInBounds_toArray, List.set_cons_zero, List.set_cons_succ, i64_w, i32_w]
            rfl
          refine pure_ (i := 7) (N := some 36) (v := ?_) (a' := ?_) #[true, true, true, true, true, true, true, true, false, true, false, false] rfl rfl (any_of HT_.out (by kernel_rfl)) (fun _ _ _ h => h) (Or.inl ⟨by rfl, ?_⟩) ?_ ?_
          rotate_left
          · intro w'
            go_simp
            with_reducible rfl
          rotate_left
          · simp only [Act.put, List.setIfInBounds_toArray, List.set_cons_zero, List.set_cons_succ, i64_w, i32_w]
            rfl
          refine pure_ (i := 8) (N := some 37) (v := ?_) (a' := ?_) #[true, true, true, true, true, true, true, true, true, true, false, false] rfl rfl (any_of HT_.out (by kernel_rfl)) (fun _ _ _ h => h) (Or.inl ⟨by rfl, ?_⟩) ?_ ?_
          rotate_left
          · intro w'
            go_simp
            with_reducible rfl
          rotate_left
          · simp only [Act.put, List.setIfInBounds_toArray, List.set_cons_zero, List.set_cons_succ, i64_w, i32_w]
            rfl
          exact norm_ (by simp only [putAll, Act.put, List.setIfInBounds_toArray, List.set_cons_zero, List.set_cons_succ]) (hCont (.slice Ao19 t688.length co19, v704, gb712) _ ⟨hHeld, (by (with_reducible repeat (first | apply Kd.R_alloc | apply Kd.R_drewN | apply Kd.R_drew)); exact Kd.R_mono HO690.out (fun _ hk => hk.2)), (by (with_reducible repeat (first | apply Kd.R_alloc | apply Kd.R_drewN | apply Kd.R_drew)); exact Kd.R_mono HO705.out (fun _ hk => hk.2)), (by (with_reducible repeat (first | refine blk_drewN ?_ _ | refine blk_drew ?_ | refine blk_alloc ?_ _)); exact BK680.out), (by (with_reducible repeat (first | refine blk_drewN ?_ _ | refine blk_drew ?_ | refine blk_alloc ?_ _)); exact BK712.out), GW712.out, GE712.out, NB680_712.out, NB712_680.out, (by repeat (first | (with_reducible first | exact HB.out | apply below_alloc | apply pw_below_drewN | apply below_drew1 | refine below_set ?_ GE680.out | refine below_set ?_ GE712.out) | exact HB.out))⟩)
      · skip
        refine box_step ?hg (N := 9) ?hd (cs := #[.int .u8 0, .int .i64 0, .int .i64 0, .int .i64 0, .int .i64 0, .int .i64 0, .bool false, .slice none 0 0, .int .i64 0, .int .i64 0, .int .i64 0, .int .i64 0, .int .i64 0]) (t := 31) ?hr ?_; (case hd => rfl); (case hg => rfl); (case hr => first | (go_simp; done) | (go_simp; rfl))
        intro gb712 hg w17 hbox hb
        have n0_ := Aside0.mk (blk_below (g := gb680) (o := .cells #[.int .i64 9, .int .u8 t675, .int .i64 t676, .int .i64 0, .bool true, .bool false] 25 (0, 0)) (by (with_reducible repeat (first | refine blk_drewN ?_ _ | refine blk_drew ?_ | refine blk_alloc ?_ _)); exact BK680.out) hb)
        have n1_ := Aside0.mk (below_step (by repeat (first | (with_reducible first | exact HB.out | apply below_alloc | apply pw_below_drewN | apply below_drew1 | refine below_set ?_ GE680.out) | exact HB.out)) hb)
        have n2_ := Aside0.mk (hbox)
        have n3_ := Aside0.mk ((by rw [hg]; exact (below_size (by repeat (first | (with_reducible first | exact HB.out | apply below_alloc | apply pw_below_drewN | apply below_drew1 | refine below_set ?_ GE680.out) | exact HB.out))) : w.heap.size ≤ gb712))
        have n4_ := Aside0.mk ((by rw [hg]; exact (below_size (by repeat (first | (with_reducible first | exact HB.out | apply below_alloc | apply pw_below_drewN | apply below_drew1 | refine below_set ?_ GE680.out) | exact HB.out))) : w.heap.size ≤ gb712))
        have n5_ := Aside0.mk ((by rw [hg]; exact Nat.ne_of_lt (blk_lt (g := gb680) (o := .cells #[.int .i64 9, .int .u8 t675, .int .i64 t676, .int .i64 0, .bool true, .bool false] 25 (0, 0)) (by (with_reducible repeat (first | refine blk_drewN ?_ _ | refine blk_drew ?_ | refine blk_alloc ?_ _)); exact BK680.out)) : gb680 ≠ gb712))
        have n6_ := Aside0.mk ((by rw [hg]; exact Nat.ne_of_gt (blk_lt (g := gb680) (o := .cells #[.int .i64 9, .int .u8 t675, .int .i64 t676, .int .i64 0, .bool true, .bool false] 25 (0, 0)) (by (with_reducible repeat (first | refine blk_drewN ?_ _ | refine blk_drew ?_ | refine blk_alloc ?_ _)); exact BK680.out)) : gb712 ≠ gb680))
        clear BK680
        clear HB
        have BK680 := n0_
        have HB := n1_
        have BK712 := n2_
        have GW712 := n3_
        have GE712 := n4_
        have NB680_712 := n5_
        have NB712_680 := n6_
        clear n0_ n1_ n2_ n3_ n4_ n5_ n6_
        clear hb hbox hg
        refine hK.out _ _ ⟨(blk_cell BK680.out 0).trans rfl, (blk_cell BK680.out 1).trans rfl, (blk_cell BK680.out 2).trans rfl, (blk_cell BK680.out 3).trans rfl, (blk_cell BK680.out 4).trans rfl, (blk_cell BK680.out 5).trans rfl⟩ (fun hHeld => ?_)
        clear hK K
        refine norm_ (a' := ?_) ?_ ?_
        rotate_left
        · show Act.put _ (some 9) _ = _
          simp only [Act.put, List.setIfInBounds_toArray, List.set_cons_zero, List.set_cons_succ, i64_w, i32_w]
          rfl
        refine one_ (i := 2) (N := some 32) #[true, true, true, true, true, false, false, false, false, true, false, false] rfl rfl (one_of HT_.out (by kernel_rfl)) (by decide) (fun K hK => ?_)
        refine goes_ Try.func11 (by kernel_rfl) rfl #[.int .i64 0, .agg #[.int .i64 9, .int .u8 t675, .int .i64 t676, .int .i64 0, .bool true, .bool false], .int .i64 (wrap64 (700000 + (wrap64 (a1))))] (by rfl) rfl rfl (by (try simp only [List.map_toArray, List.map_cons, List.map_nil]); first | done | rfl | (simp only [List.length_drop, List.length_take]; rfl)) ?_
        with_reducible refine (account_Open.calls 0 9 t675 t676 0 true false (wrap64 (700000 + (wrap64 (a1)))) t681 t682 t683 t684 t685 t686 t687 t688 t691 t692 t693 t694 t695 _ A7.out).mono ?_
        rintro e w18 ⟨v689, rfl, ho0, hb⟩
        refine ⟨_, rfl, ?_⟩
        have n0_ := Aside0.mk (Kd.R_lower ho0 (below_size (by repeat (first | (with_reducible first | exact HB.out | apply below_alloc | apply pw_below_drewN | apply below_drew1 | refine below_set ?_ GE680.out | refine below_set ?_ GE712.out) | exact HB.out))))
        have n1_ := Aside0.mk (blk_below (g := gb680) (o := .cells #[.int .i64 9, .int .u8 t675, .int .i64 t676, .int .i64 0, .bool true, .bool false] 25 (0, 0)) (by (with_reducible repeat (first | refine blk_drewN ?_ _ | refine blk_drew ?_ | refine blk_alloc ?_ _)); exact BK680.out) hb)
        have n2_ := Aside0.mk (blk_below (g := gb712) (o := .cells #[.int .u8 0, .int .i64 0, .int .i64 0, .int .i64 0, .int .i64 0, .int .i64 0, .bool false, .slice none 0 0, .int .i64 0, .int .i64 0, .int .i64 0, .int .i64 0, .int .i64 0] 31 (0, 0)) (by (with_reducible repeat (first | refine blk_drewN ?_ _ | refine blk_drew ?_ | refine blk_alloc ?_ _)); exact BK712.out) hb)
        have n3_ := Aside0.mk (below_step (by repeat (first | (with_reducible first | exact HB.out | apply below_alloc | apply pw_below_drewN | apply below_drew1 | refine below_set ?_ GE680.out | refine below_set ?_ GE712.out) | exact HB.out)) hb)
        clear BK680
        clear BK712
        clear HB
        have HO690 := n0_
        have BK680 := n1_
        have BK712 := n2_
        have HB := n3_
        clear n0_ n1_ n2_ n3_
        (try clear hb)
        (try clear hb2)
        (try clear hk)
        (try clear hi)
        (try clear ho0)
        obtain ⟨Ao19, co19, eo19⟩ := Kd.R_slice HO690.out
        (first | subst eo19 | (injection eo19 with f1_ f2_ f3_; have f4_ := f1_.symm; have f5_ := f3_.symm; clear f1_ f2_ f3_; subst f4_; subst f5_))
        refine hK.out _ _ ⟨(blk_cell BK680.out 0).trans rfl, (blk_cell BK680.out 1).trans rfl, (blk_cell BK680.out 2).trans rfl, (blk_cell BK680.out 3).trans rfl, (blk_cell BK680.out 4).trans rfl, (blk_cell BK680.out 5).trans rfl⟩ (fun hHeld => ?_)
        clear hK K
        refine norm_ (a' := ?_) ?_ ?_
        rotate_left
        · show Act.put _ (some 32) _ = _
          simp only [Act.put, List.setIfInBounds_toArray, List.set_cons_zero, List.set_cons_succ, i64_w, i32_w]
          rfl
        refine one_ (i := 5) (N := some 35) #[true, true, true, true, true, true, false, false, false, true, false, false] rfl rfl (one_of HT_.out (by kernel_rfl)) (by decide) (fun K hK => ?_)
        refine goes_ Try.func12 (by kernel_rfl) rfl #[.agg #[.int .u8 t681, .int .i64 t682, .int .i64 t683, .int .i64 t684, .int .i64 t685, .int .i64 t686, .bool t687, .slice Ao19 t688.length co19, .int .i64 t691, .int .i64 t692, .int .i64 t693, .int .i64 t694, .int .i64 t695], .agg #[.int .i64 9, .int .u8 t675, .int .i64 t676, .int .i64 0, .bool true, .bool false], .int .i64 (wrap64 (700000 + (wrap64 (a1))))] (by rfl) rfl rfl (by (try simp only [List.map_toArray, List.map_cons, List.map_nil]); first | done | rfl | (simp only [List.length_drop, List.length_take]; rfl)) ?_
        with_reducible refine (account_Day.calls k t681 t682 t683 t684 t685 t686 t687 _ _ t688 t691 t692 t693 t694 t695 9 t675 t676 0 true false (wrap64 (700000 + (wrap64 (a1)))) t696 t697 t698 t699 t700 t701 t702 t703 t706 t707 t708 t709 t710 t711 _ ?side1 ?side2 A8.out).mono ?_
        (case side1 => repeat (first | exact (Kd.R_reads' HO690.out).2.2 | (with_reducible refine Kd.C_alloc ?_ _) | (with_reducible refine Kd.C_drewN ?_ _) | (with_reducible refine Kd.C_drew ?_)))
        (case side2 => exact (Kd.R_reads' HO690.out).2.1)
        rintro e w20 ⟨v704, rfl, ho0, hb⟩
        refine ⟨_, rfl, ?_⟩
        have n0_ := Aside0.mk (Kd.R_elder' (by (with_reducible repeat (first | apply Kd.R_alloc | apply Kd.R_drewN | apply Kd.R_drew)); exact HO690.out) (Kd.R_base ho0) hb)
        have n1_ := Aside0.mk (Kd.R_lower (Kd.R_new' ho0 (Kd.R_lt (by (with_reducible repeat (first | apply Kd.R_alloc | apply Kd.R_drewN | apply Kd.R_drew)); exact HO690.out))) (below_size (by repeat (first | (with_reducible first | exact HB.out | apply below_alloc | apply pw_below_drewN | apply below_drew1 | refine below_set ?_ GE680.out | refine below_set ?_ GE712.out) | exact HB.out))))
        have n2_ := Aside0.mk (blk_below (g := gb680) (o := .cells #[.int .i64 9, .int .u8 t675, .int .i64 t676, .int .i64 0, .bool true, .bool false] 25 (0, 0)) (by (with_reducible repeat (first | refine blk_drewN ?_ _ | refine blk_drew ?_ | refine blk_alloc ?_ _)); exact BK680.out) hb)
        have n3_ := Aside0.mk (blk_below (g := gb712) (o := .cells #[.int .u8 0, .int .i64 0, .int .i64 0, .int .i64 0, .int .i64 0, .int .i64 0, .bool false, .slice none 0 0, .int .i64 0, .int .i64 0, .int .i64 0, .int .i64 0, .int .i64 0] 31 (0, 0)) (by (with_reducible repeat (first | refine blk_drewN ?_ _ | refine blk_drew ?_ | refine blk_alloc ?_ _)); exact BK712.out) hb)
        have n4_ := Aside0.mk (below_step (by repeat (first | (with_reducible first | exact HB.out | apply below_alloc | apply pw_below_drewN | apply below_drew1 | refine below_set ?_ GE680.out | refine below_set ?_ GE712.out) | exact HB.out)) hb)
        clear HO690
        clear BK680
        clear BK712
        clear HB
        have HO690 := n0_
        have HO705 := n1_
        have BK680 := n2_
        have BK712 := n3_
        have HB := n4_
        clear n0_ n1_ n2_ n3_ n4_
        (try clear hb)
        (try clear hb2)
        (try clear hk)
        (try clear hi)
        (try clear ho0)
        refine hK.out _ _ ⟨(blk_cell BK680.out 0).trans rfl, (blk_cell BK680.out 1).trans rfl, (blk_cell BK680.out 2).trans rfl, (blk_cell BK680.out 3).trans rfl, (blk_cell BK680.out 4).trans rfl, (blk_cell BK680.out 5).trans rfl⟩ (fun hHeld => ?_)
        clear hK K
        refine norm_ (a' := ?_) ?_ ?_
        rotate_left
        · show Act.put _ (some 35) _ = _
          simp only [Act.put, List.setIfInBounds_toArray, List.set_cons_zero, List.set_cons_succ, i64_w, i32_w]
          rfl
        refine pure_ (i := 6) (N := some 29) (v := ?_) (a' := ?_) #[true, true, true, true, true, true, true, false, false, true, false, false] rfl rfl (any_of HT_.out (by kernel_rfl)) (fun _ _ _ h => h) (Or.inl ⟨by rfl, ?_⟩) ?_ ?_
        rotate_left
        · intro w'
          go_simp
          with_reducible rfl
        rotate_left
        · simp only [Act.put, List.setIfInBounds_toArray, List.set_cons_zero, List.set_cons_succ, i64_w, i32_w]
          rfl
        refine pure_ (i := 7) (N := some 36) (v := ?_) (a' := ?_) #[true, true, true, true, true, true, true, true, false, true, false, false] rfl rfl (any_of HT_.out (by kernel_rfl)) (fun _ _ _ h => h) (Or.inl ⟨by rfl, ?_⟩) ?_ ?_
        rotate_left
        · intro w'
          go_simp
          with_reducible rfl
        rotate_left
        · simp only [Act.put, List.setIfInBounds_toArray, List.set_cons_zero, List.set_cons_succ, i64_w, i32_w]
          rfl
        refine pure_ (i := 8) (N := some 37) (v := ?_) (a' := ?_) #[true, true, true, true, true, true, true, true, true, true, false, false] rfl rfl (any_of HT_.out (by kernel_rfl)) (fun _ _ _ h => h) (Or.inl ⟨by rfl, ?_⟩) ?_ ?_
        rotate_left
        · intro w'
          go_simp
          with_reducible rfl
        rotate_left
        · simp only [Act.put, List.setIfInBounds_toArray, List.set_cons_zero, List.set_cons_succ, i64_w, i32_w]
          rfl
        exact norm_ (by simp only [putAll, Act.put, List.setIfInBounds_toArray, List.set_cons_zero, List.set_cons_succ]) (hCont (.slice Ao19 t688.length co19, v704, gb712) _ ⟨hHeld, (by (with_reducible repeat (first | apply Kd.R_alloc | apply Kd.R_drewN | apply Kd.R_drew)); exact Kd.R_mono HO690.out (fun _ hk => hk.2)), (by (with_reducible repeat (first | apply Kd.R_alloc | apply Kd.R_drewN | apply Kd.R_drew)); exact Kd.R_mono HO705.out (fun _ hk => hk.2)), (by (with_reducible repeat (first | refine blk_drewN ?_ _ | refine blk_drew ?_ | refine blk_alloc ?_ _)); exact BK680.out), (by (with_reducible repeat (first | refine blk_drewN ?_ _ | refine blk_drew ?_ | refine blk_alloc ?_ _)); exact BK712.out), GW712.out, GE712.out, NB680_712.out, NB712_680.out, (by repeat (first | (with_reducible first | exact HB.out | apply below_alloc | apply pw_below_drewN | apply below_drew1 | refine below_set ?_ GE680.out | refine below_set ?_ GE712.out) | exact HB.out))⟩)
    rintro ⟨v689, v704, gb712⟩ w21 ⟨hS_, h0_, h1_, h2_, h3_, h4_, h5_, h6_, h7_, h8_⟩
    have n0_ : Aside0 (Kd.R k37 37 w21 w.heap.size (fun k_ => some k_ ≠ (v704 : Value).ownBlock) v689 t688) := ⟨h0_⟩
    have n1_ : Aside0 (Kd.R k37 37 w21 w.heap.size (fun k_ => some k_ ≠ (v689 : Value).ownBlock) v704 t703) := ⟨h1_⟩
    have n2_ : Aside0 (w21.heap[gb680]? = some (.cells #[.int .i64 9, .int .u8 t675, .int .i64 t676, .int .i64 0, .bool true, .bool false] 25 (0, 0))) := ⟨h2_⟩
    have n3_ : Aside0 (w21.heap[gb712]? = some (.cells #[.int .u8 0, .int .i64 0, .int .i64 0, .int .i64 0, .int .i64 0, .int .i64 0, .bool false, .slice none 0 0, .int .i64 0, .int .i64 0, .int .i64 0, .int .i64 0, .int .i64 0] 31 (0, 0))) := ⟨h3_⟩
    have n4_ : Aside0 (w.heap.size ≤ gb712) := ⟨h4_⟩
    have n5_ : Aside0 (w.heap.size ≤ gb712) := ⟨h5_⟩
    have n6_ : Aside0 (gb680 ≠ gb712) := ⟨h6_⟩
    have n7_ : Aside0 (gb712 ≠ gb680) := ⟨h7_⟩
    have n8_ : Aside0 (Below w.heap.size w w21) := ⟨h8_⟩
    clear BK680
    clear HB
    clear h0_ h1_ h2_ h3_ h4_ h5_ h6_ h7_ h8_
    have HO690 := n0_
    have HO705 := n1_
    have BK680 := n2_
    have BK712 := n3_
    have GW712 := n4_
    have GE712 := n5_
    have NB680_712 := n6_
    have NB712_680 := n7_
    have HB := n8_
    clear n0_ n1_ n2_ n3_ n4_ n5_ n6_ n7_ n8_
    have hHeld : w21.cell? ⟨gb680, 0, none⟩ = some (.int .i64 9) ∧ w21.cell? ⟨gb680, 1, none⟩ = some (.int .u8 t675) ∧ w21.cell? ⟨gb680, 2, none⟩ = some (.int .i64 t676) ∧ w21.cell? ⟨gb680, 3, none⟩ = some (.int .i64 0) ∧ w21.cell? ⟨gb680, 4, none⟩ = some (.bool true) ∧ w21.cell? ⟨gb680, 5, none⟩ = some (.bool false) := hS_
    obtain ⟨Ao29, co29, eo29⟩ := Kd.R_slice HO705.out
    (first | subst eo29 | (injection eo29 with f1_ f2_ f3_; have f4_ := f1_.symm; have f5_ := f3_.symm; clear f1_ f2_ f3_; subst f4_; subst f5_))
    refine norm_ (a' := ?_) ?_ ?_
    rotate_left
    · simp only [putAll, Act.put, List.setIfInBounds_toArray, List.set_cons_zero, List.set_cons_succ]
      rfl
    refine one_ (i := 10) (N := none) #[true, true, true, true, true, true, true, true, true, true, true, false] rfl rfl (one_of HT_.out (by kernel_rfl)) (by decide) (fun K hK => ?_)
    have hs22 : w21.cell? ⟨gb712, 0, none⟩ = some (.int .u8 0) := (blk_cell BK712.out 0).trans rfl
    have hfs22 := blk_frozen BK712.out 0
    have hns22_0 := NB680_712.out
    have hms22_0 := NB712_680.out
    have hs23 : w21.cell? ⟨gb712, 1, none⟩ = some (.int .i64 0) := (blk_cell BK712.out 1).trans rfl
    have hfs23 := blk_frozen BK712.out 1
    have hns23_0 := NB680_712.out
    have hms23_0 := NB712_680.out
    have hs24 : w21.cell? ⟨gb712, 2, none⟩ = some (.int .i64 0) := (blk_cell BK712.out 2).trans rfl
    have hfs24 := blk_frozen BK712.out 2
    have hns24_0 := NB680_712.out
    have hms24_0 := NB712_680.out
    have hs25 : w21.cell? ⟨gb712, 3, none⟩ = some (.int .i64 0) := (blk_cell BK712.out 3).trans rfl
    have hfs25 := blk_frozen BK712.out 3
    have hns25_0 := NB680_712.out
    have hms25_0 := NB712_680.out
    have hs26 : w21.cell? ⟨gb712, 4, none⟩ = some (.int .i64 0) := (blk_cell BK712.out 4).trans rfl
    have hfs26 := blk_frozen BK712.out 4
    have hns26_0 := NB680_712.out
    have hms26_0 := NB712_680.out
    have hs27 : w21.cell? ⟨gb712, 5, none⟩ = some (.int .i64 0) := (blk_cell BK712.out 5).trans rfl
    have hfs27 := blk_frozen BK712.out 5
    have hns27_0 := NB680_712.out
    have hms27_0 := NB712_680.out
    have hs28 : w21.cell? ⟨gb712, 6, none⟩ = some (.bool false) := (blk_cell BK712.out 6).trans rfl
    have hfs28 := blk_frozen BK712.out 6
    have hns28_0 := NB680_712.out
    have hms28_0 := NB712_680.out
    have hs30 : w21.cell? ⟨gb712, 7, none⟩ = some (.slice none 0 0) := (blk_cell BK712.out 7).trans rfl
    have hfs30 := blk_frozen BK712.out 7
    have hns30_0 := NB680_712.out
    have hms30_0 := NB712_680.out
    have hs31 : w21.cell? ⟨gb712, 8, none⟩ = some (.int .i64 0) := (blk_cell BK712.out 8).trans rfl
    have hfs31 := blk_frozen BK712.out 8
    have hns31_0 := NB680_712.out
    have hms31_0 := NB712_680.out
    have hs32 : w21.cell? ⟨gb712, 9, none⟩ = some (.int .i64 0) := (blk_cell BK712.out 9).trans rfl
    have hfs32 := blk_frozen BK712.out 9
    have hns32_0 := NB680_712.out
    have hms32_0 := NB712_680.out
    have hs33 : w21.cell? ⟨gb712, 10, none⟩ = some (.int .i64 0) := (blk_cell BK712.out 10).trans rfl
    have hfs33 := blk_frozen BK712.out 10
    have hns33_0 := NB680_712.out
    have hms33_0 := NB712_680.out
    have hs34 : w21.cell? ⟨gb712, 11, none⟩ = some (.int .i64 0) := (blk_cell BK712.out 11).trans rfl
    have hfs34 := blk_frozen BK712.out 11
    have hns34_0 := NB680_712.out
    have hms34_0 := NB712_680.out
    have hs35 : w21.cell? ⟨gb712, 12, none⟩ = some (.int .i64 0) := (blk_cell BK712.out 12).trans rfl
    have hfs35 := blk_frozen BK712.out 12
    have hns35_0 := NB680_712.out
    have hms35_0 := NB712_680.out
    refine skip_ (w1 := ?_) (by rfl) rfl ?_ ?_
    rotate_left
    · go_simp
      rfl
    refine hK.out _ _ ⟨((cf_paybooklaw13_AccountSkips gb712 NB680_712.out _).trans (((cf_paybooklaw13_AccountSkips gb712 NB680_712.out _).trans (((cf_paybooklaw13_AccountSkips gb712 NB680_712.out _).trans (((cf_paybooklaw13_AccountSkips gb712 NB680_712.out _).trans (((cf_paybooklaw13_AccountSkips gb712 NB680_712.out _).trans (((cf_paybooklaw13_AccountSkips gb712 NB680_712.out _).trans (((cf_paybooklaw13_AccountSkips gb712 NB680_712.out _).trans (((cf_paybooklaw13_AccountSkips gb712 NB680_712.out _).trans (((cf_paybooklaw13_AccountSkips gb712 NB680_712.out _).trans (((cf_paybooklaw13_AccountSkips gb712 NB680_712.out _).trans (((cf_paybooklaw13_AccountSkips gb712 NB680_712.out _).trans (((cf_paybooklaw13_AccountSkips gb712 NB680_712.out _).trans (((cf_paybooklaw13_AccountSkips gb712 NB680_712.out _).trans (hHeld.1)))))))))))))))))))))))))), ((cf_paybooklaw13_AccountSkips gb712 NB680_712.out _).trans (((cf_paybooklaw13_AccountSkips gb712 NB680_712.out _).trans (((cf_paybooklaw13_AccountSkips gb712 NB680_712.out _).trans (((cf_paybooklaw13_AccountSkips gb712 NB680_712.out _).trans (((cf_paybooklaw13_AccountSkips gb712 NB680_712.out _).trans (((cf_paybooklaw13_AccountSkips gb712 NB680_712.out _).trans (((cf_paybooklaw13_AccountSkips gb712 NB680_712.out _).trans (((cf_paybooklaw13_AccountSkips gb712 NB680_712.out _).trans (((cf_paybooklaw13_AccountSkips gb712 NB680_712.out _).trans (((cf_paybooklaw13_AccountSkips gb712 NB680_712.out _).trans (((cf_paybooklaw13_AccountSkips gb712 NB680_712.out _).trans (((cf_paybooklaw13_AccountSkips gb712 NB680_712.out _).trans (((cf_paybooklaw13_AccountSkips gb712 NB680_712.out _).trans (hHeld.2.1)))))))))))))))))))))))))), ((cf_paybooklaw13_AccountSkips gb712 NB680_712.out _).trans (((cf_paybooklaw13_AccountSkips gb712 NB680_712.out _).trans (((cf_paybooklaw13_AccountSkips gb712 NB680_712.out _).trans (((cf_paybooklaw13_AccountSkips gb712 NB680_712.out _).trans (((cf_paybooklaw13_AccountSkips gb712 NB680_712.out _).trans (((cf_paybooklaw13_AccountSkips gb712 NB680_712.out _).trans (((cf_paybooklaw13_AccountSkips gb712 NB680_712.out _).trans (((cf_paybooklaw13_AccountSkips gb712 NB680_712.out _).trans (((cf_paybooklaw13_AccountSkips gb712 NB680_712.out _).trans (((cf_paybooklaw13_AccountSkips gb712 NB680_712.out _).trans (((cf_paybooklaw13_AccountSkips gb712 NB680_712.out _).trans (((cf_paybooklaw13_AccountSkips gb712 NB680_712.out _).trans (((cf_paybooklaw13_AccountSkips gb712 NB680_712.out _).trans (hHeld.2.2.1)))))))))))))))))))))))))), ((cf_paybooklaw13_AccountSkips gb712 NB680_712.out _).trans (((cf_paybooklaw13_AccountSkips gb712 NB680_712.out _).trans (((cf_paybooklaw13_AccountSkips gb712 NB680_712.out _).trans (((cf_paybooklaw13_AccountSkips gb712 NB680_712.out _).trans (((cf_paybooklaw13_AccountSkips gb712 NB680_712.out _).trans (((cf_paybooklaw13_AccountSkips gb712 NB680_712.out _).trans (((cf_paybooklaw13_AccountSkips gb712 NB680_712.out _).trans (((cf_paybooklaw13_AccountSkips gb712 NB680_712.out _).trans (((cf_paybooklaw13_AccountSkips gb712 NB680_712.out _).trans (((cf_paybooklaw13_AccountSkips gb712 NB680_712.out _).trans (((cf_paybooklaw13_AccountSkips gb712 NB680_712.out _).trans (((cf_paybooklaw13_AccountSkips gb712 NB680_712.out _).trans (((cf_paybooklaw13_AccountSkips gb712 NB680_712.out _).trans (hHeld.2.2.2.1)))))))))))))))))))))))))), ((cf_paybooklaw13_AccountSkips gb712 NB680_712.out _).trans (((cf_paybooklaw13_AccountSkips gb712 NB680_712.out _).trans (((cf_paybooklaw13_AccountSkips gb712 NB680_712.out _).trans (((cf_paybooklaw13_AccountSkips gb712 NB680_712.out _).trans (((cf_paybooklaw13_AccountSkips gb712 NB680_712.out _).trans (((cf_paybooklaw13_AccountSkips gb712 NB680_712.out _).trans (((cf_paybooklaw13_AccountSkips gb712 NB680_712.out _).trans (((cf_paybooklaw13_AccountSkips gb712 NB680_712.out _).trans (((cf_paybooklaw13_AccountSkips gb712 NB680_712.out _).trans (((cf_paybooklaw13_AccountSkips gb712 NB680_712.out _).trans (((cf_paybooklaw13_AccountSkips gb712 NB680_712.out _).trans (((cf_paybooklaw13_AccountSkips gb712 NB680_712.out _).trans (((cf_paybooklaw13_AccountSkips gb712 NB680_712.out _).trans (hHeld.2.2.2.2.1)))))))))))))))))))))))))), ((cf_paybooklaw13_AccountSkips gb712 NB680_712.out _).trans (((cf_paybooklaw13_AccountSkips gb712 NB680_712.out _).trans (((cf_paybooklaw13_AccountSkips gb712 NB680_712.out _).trans (((cf_paybooklaw13_AccountSkips gb712 NB680_712.out _).trans (((cf_paybooklaw13_AccountSkips gb712 NB680_712.out _).trans (((cf_paybooklaw13_AccountSkips gb712 NB680_712.out _).trans (((cf_paybooklaw13_AccountSkips gb712 NB680_712.out _).trans (((cf_paybooklaw13_AccountSkips gb712 NB680_712.out _).trans (((cf_paybooklaw13_AccountSkips gb712 NB680_712.out _).trans (((cf_paybooklaw13_AccountSkips gb712 NB680_712.out _).trans (((cf_paybooklaw13_AccountSkips gb712 NB680_712.out _).trans (((cf_paybooklaw13_AccountSkips gb712 NB680_712.out _).trans (((cf_paybooklaw13_AccountSkips gb712 NB680_712.out _).trans (hHeld.2.2.2.2.2))))))))))))))))))))))))))⟩ (fun hHeld => ?_)
    clear hK K
    refine pure_ (i := 11) (N := some 10) (v := ?_) (a' := ?_) #[true, true, true, true, true, true, true, true, true, true, true, true] rfl rfl (any_of HT_.out (by kernel_rfl)) (fun _ _ _ h => h) (Or.inl ⟨by rfl, ?_⟩) ?_ ?_
    rotate_left
    · intro w'
      go_simp
      with_reducible rfl
    rotate_left
    · simp only [Act.put, List.setIfInBounds_toArray, List.set_cons_zero, List.set_cons_succ, i64_w, i32_w]
      rfl
    refine done_ (done_of HT_.out (by kernel_rfl)) ?_
    have hnb36 := NB712_680.out
    have hnc36 := NB680_712.out
    obtain ⟨hcz37_0, hcz37_1, hcz37_2, hcz37_3, hcz37_4, hcz37_5, hcz37_6, hcz37_7, hcz37_8, hcz37_9, hcz37_10, hcz37_11, hcz37_12⟩ := bc13 BK712.out
    obtain ⟨hfz37_0, hfz37_1, hfz37_2, hfz37_3, hfz37_4, hfz37_5, hfz37_6, hfz37_7, hfz37_8, hfz37_9, hfz37_10, hfz37_11, hfz37_12⟩ := bf13 BK712.out
    go_upto_region 11 with (first | ((with_reducible refine gate_callee (f := 14) rfl ?_); refine goesL_ (some 40) rfl rfl Try.func14 (by kernel_rfl) rfl #[.agg #[.int .u8 t696, .int .i64 t697, .int .i64 t698, .int .i64 t699, .int .i64 t700, .int .i64 t701, .bool t702, .slice Ao29 t703.length co29, .int .i64 t706, .int .i64 t707, .int .i64 t708, .int .i64 t709, .int .i64 t710]] rfl (by (try simp only [List.map_toArray, List.map_cons, List.map_nil]); first | done | rfl | (simp only [List.length_drop, List.length_take]; rfl)) ?_; (with_reducible refine (account_Skip.calls t696 t697 t698 t699 t700 t701 t702 _ _ t703 t706 t707 t708 t709 t710 t713 t714 t715 t716 t717 t718 t719 t720 t723 t724 t725 t726 t727 t728 _ ?side1 ?side2 A9.out).mono ?_); (case side1 => refine (Kd.R_reads' (e := 37) (base := w.heap.size) (ok := fun k_ => some k_ ≠ (v689 : Value).ownBlock) (n := t703.length) (c := co29) ?_).2.2; exact (by (with_reducible repeat (first | apply Kd.R_alloc | apply Kd.R_drewN | apply Kd.R_drew)); exact (Kd.R_mono (Kd.R_step (Kd.R_types HO705.out BK712.out (by decide)) (fun _ hk _ => by (with_reducible repeat (first | refine (hst (g := gb712) hk.2 _ _).trans ?_ | refine (hdn _ _ _).trans ?_ | refine (hd1 _ _).trans ?_)); rfl)) (fun _ h_ => h_.1)))); (case side2 => exact (Kd.R_reads' HO705.out).2.1); rintro e w38 ⟨v721, rfl, ho0, hb⟩; refine ⟨_, rfl, ?_⟩; have n0_ := Aside0.mk (Kd.R_elder' (by (with_reducible repeat (first | apply Kd.R_alloc | apply Kd.R_drewN | apply Kd.R_drew)); exact (Kd.R_mono (Kd.R_step (Kd.R_types HO690.out BK712.out (by decide)) (fun _ hk _ => by (with_reducible repeat (first | refine (hst (g := gb712) hk.2 _ _).trans ?_ | refine (hdn _ _ _).trans ?_ | refine (hd1 _ _).trans ?_)); rfl)) (fun _ h_ => h_.1))) (Kd.R_base ho0) hb); have n1_ := Aside0.mk (Kd.R_elder' (by (with_reducible repeat (first | apply Kd.R_alloc | apply Kd.R_drewN | apply Kd.R_drew)); exact (Kd.R_mono (Kd.R_step (Kd.R_types HO705.out BK712.out (by decide)) (fun _ hk _ => by (with_reducible repeat (first | refine (hst (g := gb712) hk.2 _ _).trans ?_ | refine (hdn _ _ _).trans ?_ | refine (hd1 _ _).trans ?_)); rfl)) (fun _ h_ => h_.1))) (Kd.R_base ho0) hb); have n2_ := Aside0.mk (Kd.R_lower (Kd.R_new' (Kd.R_new' ho0 (Kd.R_lt (by (with_reducible repeat (first | apply Kd.R_alloc | apply Kd.R_drewN | apply Kd.R_drew)); exact (Kd.R_mono (Kd.R_step (Kd.R_types HO690.out BK712.out (by decide)) (fun _ hk _ => by (with_reducible repeat (first | refine (hst (g := gb712) hk.2 _ _).trans ?_ | refine (hdn _ _ _).trans ?_ | refine (hd1 _ _).trans ?_)); rfl)) (fun _ h_ => h_.1))))) (Kd.R_lt (by (with_reducible repeat (first | apply Kd.R_alloc | apply Kd.R_drewN | apply Kd.R_drew)); exact (Kd.R_mono (Kd.R_step (Kd.R_types HO705.out BK712.out (by decide)) (fun _ hk _ => by (with_reducible repeat (first | refine (hst (g := gb712) hk.2 _ _).trans ?_ | refine (hdn _ _ _).trans ?_ | refine (hd1 _ _).trans ?_)); rfl)) (fun _ h_ => h_.1))))) (below_size (by repeat (first | (with_reducible first | exact HB.out | apply below_alloc | apply pw_below_drewN | apply below_drew1 | refine below_set ?_ GE680.out | refine below_set ?_ GE712.out) | exact HB.out)))); have n3_ := Aside0.mk (blk_below (g := gb680) (o := .cells #[.int .i64 9, .int .u8 t675, .int .i64 t676, .int .i64 0, .bool true, .bool false] 25 (0, 0)) (by (with_reducible repeat (first | refine blk_drewN ?_ _ | refine blk_drew ?_ | refine blk_alloc ?_ _ | refine blk_far ?_ NB680_712.out _)); exact BK680.out) hb); have n4_ := Aside0.mk (blk_below (g := gb712) (o := .cells #[.int .u8 t696, .int .i64 t697, .int .i64 t698, .int .i64 t699, .int .i64 t700, .int .i64 t701, .bool t702, .slice Ao29 t703.length co29, .int .i64 t706, .int .i64 t707, .int .i64 t708, .int .i64 t709, .int .i64 t710] 31 (0, 0)) (by (with_reducible repeat (first | refine blk_drewN ?_ _ | refine blk_drew ?_ | refine blk_alloc ?_ _)); refine bp13 (.int .u8 0) (.int .i64 0) (.int .i64 0) (.int .i64 0) (.int .i64 0) (.int .i64 0) (.bool false) (.slice none 0 0) (.int .i64 0) (.int .i64 0) (.int .i64 0) (.int .i64 0) (.int .i64 0) ?_; (with_reducible repeat (first | refine blk_drewN ?_ _ | refine blk_drew ?_ | refine blk_alloc ?_ _)); exact BK712.out) hb); have n5_ := Aside0.mk (below_step (by repeat (first | (with_reducible first | exact HB.out | apply below_alloc | apply pw_below_drewN | apply below_drew1 | refine below_set ?_ GE680.out | refine below_set ?_ GE712.out) | exact HB.out)) hb); clear HO690; clear HO705; clear BK680; clear BK712; clear HB; have HO690 := n0_; have HO705 := n1_; have HO722 := n2_; have BK680 := n3_; have BK712 := n4_; have HB := n5_; clear n0_ n1_ n2_ n3_ n4_ n5_; (try clear hb); (try clear hb2); (try clear hk); (try clear hi); (try clear ho0)) | ((with_reducible refine gate_dst (N := 11) rfl ?_); (try (refine gate_guard (by rfl) ?_; dsimp only)); refine box_event ?hg (N := 11) ?hd (cs := #[.int .u8 0, .int .i64 0, .int .i64 0, .int .i64 0, .int .i64 0, .int .i64 0, .bool false, .slice none 0 0, .int .i64 0, .int .i64 0, .int .i64 0, .int .i64 0, .int .i64 0]) (t := 31) ?hr ?_; (case hd => rfl); (case hg => rfl); (case hr => first | (go_simp; done) | (go_simp; rfl)); intro gb729 hg w39 hbox hb; have n0_ := Aside0.mk (Kd.R_below (by (with_reducible repeat (first | apply Kd.R_alloc | apply Kd.R_drewN | apply Kd.R_drew)); exact HO690.out) hb); have n1_ := Aside0.mk (Kd.R_below (by (with_reducible repeat (first | apply Kd.R_alloc | apply Kd.R_drewN | apply Kd.R_drew)); exact HO705.out) hb); have n2_ := Aside0.mk (Kd.R_below (by (with_reducible repeat (first | apply Kd.R_alloc | apply Kd.R_drewN | apply Kd.R_drew)); exact HO722.out) hb); have n3_ := Aside0.mk (blk_below (g := gb680) (o := .cells #[.int .i64 9, .int .u8 t675, .int .i64 t676, .int .i64 0, .bool true, .bool false] 25 (0, 0)) (by (with_reducible repeat (first | refine blk_drewN ?_ _ | refine blk_drew ?_ | refine blk_alloc ?_ _)); exact BK680.out) hb); have n4_ := Aside0.mk (blk_below (g := gb712) (o := .cells #[.int .u8 t696, .int .i64 t697, .int .i64 t698, .int .i64 t699, .int .i64 t700, .int .i64 t701, .bool t702, .slice Ao29 t703.length co29, .int .i64 t706, .int .i64 t707, .int .i64 t708, .int .i64 t709, .int .i64 t710] 31 (0, 0)) (by (with_reducible repeat (first | refine blk_drewN ?_ _ | refine blk_drew ?_ | refine blk_alloc ?_ _)); exact BK712.out) hb); have n5_ := Aside0.mk (below_step (by repeat (first | (with_reducible first | exact HB.out | apply below_alloc | apply pw_below_drewN | apply below_drew1 | refine below_set ?_ GE680.out | refine below_set ?_ GE712.out) | exact HB.out)) hb); have n6_ := Aside0.mk (hbox); have n7_ := Aside0.mk ((by rw [hg]; exact (below_size (by repeat (first | (with_reducible first | exact HB.out | apply below_alloc | apply pw_below_drewN | apply below_drew1 | refine below_set ?_ GE680.out | refine below_set ?_ GE712.out) | exact HB.out))) : w.heap.size ≤ gb729)); have n8_ := Aside0.mk ((by rw [hg]; exact (below_size (by repeat (first | (with_reducible first | exact HB.out | apply below_alloc | apply pw_below_drewN | apply below_drew1 | refine below_set ?_ GE680.out | refine below_set ?_ GE712.out) | exact HB.out))) : w.heap.size ≤ gb729)); have n9_ := Aside0.mk ((by rw [hg]; exact Nat.ne_of_lt (blk_lt (g := gb680) (o := .cells #[.int .i64 9, .int .u8 t675, .int .i64 t676, .int .i64 0, .bool true, .bool false] 25 (0, 0)) (by (with_reducible repeat (first | refine blk_drewN ?_ _ | refine blk_drew ?_ | refine blk_alloc ?_ _)); exact BK680.out)) : gb680 ≠ gb729)); have n10_ := Aside0.mk ((by rw [hg]; exact Nat.ne_of_gt (blk_lt (g := gb680) (o := .cells #[.int .i64 9, .int .u8 t675, .int .i64 t676, .int .i64 0, .bool true, .bool false] 25 (0, 0)) (by (with_reducible repeat (first | refine blk_drewN ?_ _ | refine blk_drew ?_ | refine blk_alloc ?_ _)); exact BK680.out)) : gb729 ≠ gb680)); have n11_ := Aside0.mk ((by rw [hg]; exact Nat.ne_of_lt (blk_lt (g := gb712) (o := .cells #[.int .u8 t696, .int .i64 t697, .int .i64 t698, .int .i64 t699, .int .i64 t700, .int .i64 t701, .bool t702, .slice Ao29 t703.length co29, .int .i64 t706, .int .i64 t707, .int .i64 t708, .int .i64 t709, .int .i64 t710] 31 (0, 0)) (by (with_reducible repeat (first | refine blk_drewN ?_ _ | refine blk_drew ?_ | refine blk_alloc ?_ _)); exact BK712.out)) : gb712 ≠ gb729)); have n12_ := Aside0.mk ((by rw [hg]; exact Nat.ne_of_gt (blk_lt (g := gb712) (o := .cells #[.int .u8 t696, .int .i64 t697, .int .i64 t698, .int .i64 t699, .int .i64 t700, .int .i64 t701, .bool t702, .slice Ao29 t703.length co29, .int .i64 t706, .int .i64 t707, .int .i64 t708, .int .i64 t709, .int .i64 t710] 31 (0, 0)) (by (with_reducible repeat (first | refine blk_drewN ?_ _ | refine blk_drew ?_ | refine blk_alloc ?_ _)); exact BK712.out)) : gb729 ≠ gb712)); clear HO690; clear HO705; clear HO722; clear BK680; clear BK712; clear HB; have HO690 := n0_; have HO705 := n1_; have HO722 := n2_; have BK680 := n3_; have BK712 := n4_; have HB := n5_; have BK729 := n6_; have GW729 := n7_; have GE729 := n8_; have NB680_729 := n9_; have NB729_680 := n10_; have NB712_729 := n11_; have NB729_712 := n12_; clear n0_ n1_ n2_ n3_ n4_ n5_ n6_ n7_ n8_ n9_ n10_ n11_ n12_; clear hb hbox hg; have hnb40 := NB729_680.out; have hnc40 := NB680_729.out; have hnb41 := NB729_712.out; have hnc41 := NB712_729.out; obtain ⟨hcz42_0, hcz42_1, hcz42_2, hcz42_3, hcz42_4, hcz42_5, hcz42_6, hcz42_7, hcz42_8, hcz42_9, hcz42_10, hcz42_11, hcz42_12⟩ := bc13 BK729.out; obtain ⟨hfz42_0, hfz42_1, hfz42_2, hfz42_3, hfz42_4, hfz42_5, hfz42_6, hfz42_7, hfz42_8, hfz42_9, hfz42_10, hfz42_11, hfz42_12⟩ := bf13 BK729.out; obtain ⟨Ao43, co43, eo43⟩ := Kd.R_slice HO722.out; subst eo43))
    (try simp only [Act.put, List.setIfInBounds_toArray, List.set_cons_zero, List.set_cons_succ])
    go_cut [48] (fun v48 wc => ∃ (kq : Nat) (x48_9 : Bool), v48 = .bool x48_9 ∧ Aside0 (paybooklaw13_AccountSkips.j0 kq a2 (wrap64 (700000 + (wrap64 (a1)))) x48_9 9 t675 t676 0 true false t713 t714 t715 t716 t717 t718 t719 t720 t723 t724 t725 t726 t727 = some r) ∧ Aside0 (kq ≤ k) ∧ Aside0 (Kd.R k37 37 wc w.heap.size (fun k_ => some k_ ≠ ((.slice Ao43 t720.length co43) : Value).ownBlock) (.slice Ao29 t703.length co29) t703) ∧ Aside0 (Kd.R k37 37 wc w.heap.size (fun k_ => some k_ ≠ ((.slice Ao29 t703.length co29) : Value).ownBlock) (.slice Ao43 t720.length co43) t720) ∧ Aside0 (wc.heap[gb680]? = some (.cells #[.int .i64 9, .int .u8 t675, .int .i64 t676, .int .i64 0, .bool true, .bool false] 25 (0, 0))) ∧ Aside0 (wc.heap[gb712]? = some (.cells #[.int .u8 t696, .int .i64 t697, .int .i64 t698, .int .i64 t699, .int .i64 t700, .int .i64 t701, .bool t702, (.slice Ao29 t703.length co29), .int .i64 t706, .int .i64 t707, .int .i64 t708, .int .i64 t709, .int .i64 t710] 31 (0, 0))) ∧ Aside0 (wc.heap[gb729]? = some (.cells #[.int .u8 t713, .int .i64 t714, .int .i64 t715, .int .i64 t716, .int .i64 t717, .int .i64 t718, .bool t719, (.slice Ao43 t720.length co43), .int .i64 t723, .int .i64 t724, .int .i64 t725, .int .i64 t726, .int .i64 t727] 31 (0, 0))) ∧ Aside0 (Below w.heap.size w wc))
    case first =>
      have H := HC10.out
      clear HC10
      by_cases c44 : t711 = 0
      · rw [if_pos c44] at H
        have c44b0 : (t711 == 0) = true := beq_iff_eq.mpr c44
        have c44b1 : (t711 != 0) = false := bne_eq_false_iff_eq.mpr c44
        clear c44
        (first | rw [c44b0] | (simp only [i64_w, i32_w]; rw [c44b0]) | skip)
        have H' := Aside0.mk H
        clear H
        go_wp2
        go_meet
        case rel => exact ⟨_, ((t728 != 0)), (by first | rfl | (simp; done) | (simp [*]; done)), H', ⟨by first | omega | exact Nat.le_refl _⟩, ⟨by (with_reducible repeat (first | apply Kd.R_alloc | apply Kd.R_drewN | apply Kd.R_drew)); exact Kd.R_mono (Kd.R_step (Kd.R_types HO705.out BK729.out (by decide)) (fun _ hk _ => by (with_reducible repeat (first | refine (hst (g := gb729) hk.2 _ _).trans ?_ | refine (hdn _ _ _).trans ?_ | refine (hd1 _ _).trans ?_)); rfl)) (fun _ hk => hk.1.2)⟩, ⟨by (with_reducible repeat (first | apply Kd.R_alloc | apply Kd.R_drewN | apply Kd.R_drew)); exact Kd.R_mono (Kd.R_step (Kd.R_types HO722.out BK729.out (by decide)) (fun _ hk _ => by (with_reducible repeat (first | refine (hst (g := gb729) hk.2 _ _).trans ?_ | refine (hdn _ _ _).trans ?_ | refine (hd1 _ _).trans ?_)); rfl)) (fun _ hk => hk.1.2)⟩, ⟨by (with_reducible repeat (first | refine blk_drewN ?_ _ | refine blk_drew ?_ | refine blk_alloc ?_ _ | refine blk_far ?_ NB680_729.out _)); exact BK680.out⟩, ⟨by (with_reducible repeat (first | refine blk_drewN ?_ _ | refine blk_drew ?_ | refine blk_alloc ?_ _ | refine blk_far ?_ NB712_729.out _)); exact BK712.out⟩, ⟨by (with_reducible repeat (first | refine blk_drewN ?_ _ | refine blk_drew ?_ | refine blk_alloc ?_ _)); refine bp13 (.int .u8 0) (.int .i64 0) (.int .i64 0) (.int .i64 0) (.int .i64 0) (.int .i64 0) (.bool false) (.slice none 0 0) (.int .i64 0) (.int .i64 0) (.int .i64 0) (.int .i64 0) (.int .i64 0) ?_; (with_reducible repeat (first | refine blk_drewN ?_ _ | refine blk_drew ?_ | refine blk_alloc ?_ _)); exact BK729.out⟩, ⟨by repeat (first | (with_reducible first | exact HB.out | apply below_alloc | apply pw_below_drewN | apply below_drew1 | refine below_set ?_ GE680.out | refine below_set ?_ GE712.out | refine below_set ?_ GE729.out) | exact HB.out)⟩⟩
      · rw [if_neg c44] at H
        have c44b0 : (t711 == 0) = false := beq_eq_false_iff_ne.mpr c44
        have c44b1 : (t711 != 0) = true := bne_iff_ne.mpr c44
        (first | rw [c44b0] | (simp only [i64_w, i32_w]; rw [c44b0]) | skip)
        have H' := Aside0.mk H
        clear H
        go_wp2
        go_meet
        case rel => exact ⟨_, (true), (by first | rfl | (simp; done) | (simp [*]; done)), H', ⟨by first | omega | exact Nat.le_refl _⟩, ⟨by (with_reducible repeat (first | apply Kd.R_alloc | apply Kd.R_drewN | apply Kd.R_drew)); exact Kd.R_mono (Kd.R_step (Kd.R_types HO705.out BK729.out (by decide)) (fun _ hk _ => by (with_reducible repeat (first | refine (hst (g := gb729) hk.2 _ _).trans ?_ | refine (hdn _ _ _).trans ?_ | refine (hd1 _ _).trans ?_)); rfl)) (fun _ hk => hk.1.2)⟩, ⟨by (with_reducible repeat (first | apply Kd.R_alloc | apply Kd.R_drewN | apply Kd.R_drew)); exact Kd.R_mono (Kd.R_step (Kd.R_types HO722.out BK729.out (by decide)) (fun _ hk _ => by (with_reducible repeat (first | refine (hst (g := gb729) hk.2 _ _).trans ?_ | refine (hdn _ _ _).trans ?_ | refine (hd1 _ _).trans ?_)); rfl)) (fun _ hk => hk.1.2)⟩, ⟨by (with_reducible repeat (first | refine blk_drewN ?_ _ | refine blk_drew ?_ | refine blk_alloc ?_ _ | refine blk_far ?_ NB680_729.out _)); exact BK680.out⟩, ⟨by (with_reducible repeat (first | refine blk_drewN ?_ _ | refine blk_drew ?_ | refine blk_alloc ?_ _ | refine blk_far ?_ NB712_729.out _)); exact BK712.out⟩, ⟨by (with_reducible repeat (first | refine blk_drewN ?_ _ | refine blk_drew ?_ | refine blk_alloc ?_ _)); refine bp13 (.int .u8 0) (.int .i64 0) (.int .i64 0) (.int .i64 0) (.int .i64 0) (.int .i64 0) (.bool false) (.slice none 0 0) (.int .i64 0) (.int .i64 0) (.int .i64 0) (.int .i64 0) (.int .i64 0) ?_; (with_reducible repeat (first | refine blk_drewN ?_ _ | refine blk_drew ?_ | refine blk_alloc ?_ _)); exact BK729.out⟩, ⟨by repeat (first | (with_reducible first | exact HB.out | apply below_alloc | apply pw_below_drewN | apply below_drew1 | refine below_set ?_ GE680.out | refine below_set ?_ GE712.out | refine below_set ?_ GE729.out) | exact HB.out)⟩⟩
    case rest =>
      clear HC10
      try clear c1
      try clear p2
      try clear c3
      try clear c4
      try clear c5
      try clear c6
      try clear p6
      try clear c9
      try clear c10
      try clear c11
      try clear c12
      try clear c14
      try clear c36
      try clear c40
      try clear c41
      try clear c44
      try clear c44b0
      try clear c44b1
      try clear hcz14_0
      try clear hcz14_1
      try clear hcz14_2
      try clear hcz14_3
      try clear hcz14_4
      try clear hcz14_5
      try clear hcz37_0
      try clear hcz37_1
      try clear hcz37_10
      try clear hcz37_11
      try clear hcz37_12
      try clear hcz37_2
      try clear hcz37_3
      try clear hcz37_4
      try clear hcz37_5
      try clear hcz37_6
      try clear hcz37_7
      try clear hcz37_8
      try clear hcz37_9
      try clear hcz42_0
      try clear hcz42_1
      try clear hcz42_10
      try clear hcz42_11
      try clear hcz42_12
      try clear hcz42_2
      try clear hcz42_3
      try clear hcz42_4
      try clear hcz42_5
      try clear hcz42_6
      try clear hcz42_7
      try clear hcz42_8
      try clear hcz42_9
      try clear hfz14_0
      try clear hfz14_1
      try clear hfz14_2
      try clear hfz14_3
      try clear hfz14_4
      try clear hfz14_5
      try clear hfz37_0
      try clear hfz37_1
      try clear hfz37_10
      try clear hfz37_11
      try clear hfz37_12
      try clear hfz37_2
      try clear hfz37_3
      try clear hfz37_4
      try clear hfz37_5
      try clear hfz37_6
      try clear hfz37_7
      try clear hfz37_8
      try clear hfz37_9
      try clear hfz42_0
      try clear hfz42_1
      try clear hfz42_10
      try clear hfz42_11
      try clear hfz42_12
      try clear hfz42_2
      try clear hfz42_3
      try clear hfz42_4
      try clear hfz42_5
      try clear hfz42_6
      try clear hfz42_7
      try clear hfz42_8
      try clear hfz42_9
      (try clear HO_713007); (try clear HO_730007); (try clear BK680); (try clear BK712); (try clear BK729); (try clear HB); obtain ⟨kq, x48_9, rfl, HA, HJ9, HO_713007, HO_730007, BK680, BK712, BK729, HB⟩ := hcut
      cases kq with
      | zero => exact absurd HA.out (by simp [paybooklaw13_AccountSkips.j0])
      | succ kj9 =>
        have H := HA.out
        clear HA
        simp only [paybooklaw13_AccountSkips.j0] at H
        by_cases c45 : x48_9 = true
        · subst c45
          have H1 : (none) = some r := by rw [if_pos rfl] at H; exact H
          clear H
          have H := H1
          clear H1
          exact absurd H (by simp)
        · replace c45 := Bool.eq_false_iff.mpr c45
          subst c45
          have H1 : ((paybookref01_Nth.f kj9 (wrap64 (700000 + (wrap64 (a1)))) t675 t676 (wrap64 (1 + (wrap64 (Int.tmod a2 4))))).bind fun bt730 => ((account_Day.f kj9 t713 t714 t715 t716 t717 t718 t719 t720 t723 t724 t725 t726 t727 9 t675 t676 0 true false bt730.1).bind fun bt732 => (if bt732.2.2.2.2.2.2.2.2.2.2.2.2.2 = 0 then (if bt732.2.2.2.2.1 = (wrap64 ((wrap64 (1 + (wrap64 (Int.tmod a2 4)))) + 1)) then (if bt732.2.2.2.2.2.2.2.2.2.2.2.1 = 1 then (if (bt732.2.2.2.2.2.2.2.1.length : Int) = (wrap64 (1 + (wrap64 (Int.tmod a2 4)))) then (if bt732.2.2.2.2.2.2.1 = true then (none) else (if (wrap64 (1 + (wrap64 (Int.tmod a2 4)))) < 2 then (some true) else (if 1 < (bt732.2.2.2.2.2.2.2.1.length : Int) then (some (((rd_T37 bt732.2.2.2.2.2.2.2.1 1).f0) == 2)) else (none)))) else (none)) else (none)) else (none)) else (none)))) = some r := by rw [if_neg (show ¬ (false = true) by decide)] at H; exact H
          clear H
          have H := H1
          clear H1
          replace H := Option.bind_eq_some_iff.mp H
          obtain ⟨⟨t730, t731⟩, A460, H⟩ := H
          replace H : ((account_Day.f kj9 t713 t714 t715 t716 t717 t718 t719 t720 t723 t724 t725 t726 t727 9 t675 t676 0 true false t730).bind fun bt732 => (if bt732.2.2.2.2.2.2.2.2.2.2.2.2.2 = 0 then (if bt732.2.2.2.2.1 = (wrap64 ((wrap64 (1 + (wrap64 (Int.tmod a2 4)))) + 1)) then (if bt732.2.2.2.2.2.2.2.2.2.2.2.1 = 1 then (if (bt732.2.2.2.2.2.2.2.1.length : Int) = (wrap64 (1 + (wrap64 (Int.tmod a2 4)))) then (if bt732.2.2.2.2.2.2.1 = true then (none) else (if (wrap64 (1 + (wrap64 (Int.tmod a2 4)))) < 2 then (some true) else (if 1 < (bt732.2.2.2.2.2.2.2.1.length : Int) then (some (((rd_T37 bt732.2.2.2.2.2.2.2.1 1).f0) == 2)) else (none)))) else (none)) else (none)) else (none)) else (none))) = some r := H
          have A46 := Aside0.mk A460
          clear A460
          replace H := Option.bind_eq_some_iff.mp H
          obtain ⟨⟨t732, t733, t734, t735, t736, t737, t738, t739, t742, t743, t744, t745, t746, t747⟩, A470, H⟩ := H
          replace H : (if t747 = 0 then (if t736 = (wrap64 ((wrap64 (1 + (wrap64 (Int.tmod a2 4)))) + 1)) then (if t745 = 1 then (if (t739.length : Int) = (wrap64 (1 + (wrap64 (Int.tmod a2 4)))) then (if t738 = true then (none) else (if (wrap64 (1 + (wrap64 (Int.tmod a2 4)))) < 2 then (some true) else (if 1 < (t739.length : Int) then (some (((rd_T37 t739 1).f0) == 2)) else (none)))) else (none)) else (none)) else (none)) else (none)) = some r := H
          have A47 := Aside0.mk A470
          clear A470
          by_cases c48 : t747 = 0
          · rw [if_pos c48] at H
            have c48b0 : (t747 == 0) = true := beq_iff_eq.mpr c48
            have c48b1 : (t747 != 0) = false := bne_eq_false_iff_eq.mpr c48
            clear c48
            by_cases c49 : t736 = (wrap64 ((wrap64 (1 + (wrap64 (Int.tmod a2 4)))) + 1))
            · rw [if_pos c49] at H
              have c49b0 : (t736 == (wrap64 ((wrap64 (1 + (wrap64 (Int.tmod a2 4)))) + 1))) = true := beq_iff_eq.mpr c49
              have c49b1 : (t736 != (wrap64 ((wrap64 (1 + (wrap64 (Int.tmod a2 4)))) + 1))) = false := bne_eq_false_iff_eq.mpr c49
              clear c49
              by_cases c50 : t745 = 1
              · rw [if_pos c50] at H
                have c50b0 : (t745 == 1) = true := beq_iff_eq.mpr c50
                have c50b1 : (t745 != 1) = false := bne_eq_false_iff_eq.mpr c50
                clear c50
                by_cases c51 : (t739.length : Int) = (wrap64 (1 + (wrap64 (Int.tmod a2 4))))
                · rw [if_pos c51] at H
                  have c51b0 : ((t739.length : Int) == (wrap64 (1 + (wrap64 (Int.tmod a2 4))))) = true := beq_iff_eq.mpr c51
                  have c51b1 : ((t739.length : Int) != (wrap64 (1 + (wrap64 (Int.tmod a2 4))))) = false := bne_eq_false_iff_eq.mpr c51
                  clear c51
                  by_cases c52 : t738 = true
                  · subst c52
                    have H1 : (none) = some r := by rw [if_pos rfl] at H; exact H
                    clear H
                    have H := H1
                    clear H1
                    exact absurd H (by simp)
                  · replace c52 := Bool.eq_false_iff.mpr c52
                    subst c52
                    have H1 : (if (wrap64 (1 + (wrap64 (Int.tmod a2 4)))) < 2 then (some true) else (if 1 < (t739.length : Int) then (some (((rd_T37 t739 1).f0) == 2)) else (none))) = some r := by rw [if_neg (show ¬ (false = true) by decide)] at H; exact H
                    clear H
                    have H := H1
                    clear H1
                    by_cases c53 : (wrap64 (1 + (wrap64 (Int.tmod a2 4)))) < 2
                    · rw [if_pos c53] at H
                      have c53b0 : decide ((wrap64 (1 + (wrap64 (Int.tmod a2 4)))) < 2) = true := decide_eq_true c53
                      clear c53
                      obtain rfl := Option.some.inj H
                      have hnb54 := NB680_712.out
                      have hnc54 := NB712_680.out
                      have hnb55 := NB680_729.out
                      have hnc55 := NB729_680.out
                      obtain ⟨hcz56_0, hcz56_1, hcz56_2, hcz56_3, hcz56_4, hcz56_5⟩ := bc6 BK680.out
                      obtain ⟨hfz56_0, hfz56_1, hfz56_2, hfz56_3, hfz56_4, hfz56_5⟩ := bf6 BK680.out
                      go_wp2_with (first | ((with_reducible refine gate_callee (f := 13) rfl ?_); refine goesL_ (some 60) rfl rfl Try.func13 (by kernel_rfl) rfl #[.int .i64 (wrap64 (700000 + (wrap64 (a1)))), .int .u8 t675, .int .i64 t676, .int .i64 (wrap64 (1 + (wrap64 (Int.tmod a2 4))))] rfl (by (try simp only [List.map_toArray, List.map_cons, List.map_nil]); first | done | rfl | (simp only [List.length_drop, List.length_take]; rfl)) ?_; (with_reducible refine (paybookref01_Nth.calls kj9 (wrap64 (700000 + (wrap64 (a1)))) t675 t676 (wrap64 (1 + (wrap64 (Int.tmod a2 4)))) t730 t731 _ A46.out).mono ?_); rintro e w57 ⟨rfl, hb⟩; refine ⟨_, rfl, ?_⟩; have n0_ := Aside0.mk (Kd.R_below (by (with_reducible repeat (first | apply Kd.R_alloc | apply Kd.R_drewN | apply Kd.R_drew)); exact HO_713007.out) hb); have n1_ := Aside0.mk (Kd.R_below (by (with_reducible repeat (first | apply Kd.R_alloc | apply Kd.R_drewN | apply Kd.R_drew)); exact HO_730007.out) hb); have n2_ := Aside0.mk (blk_below (g := gb680) (o := .cells #[.int .i64 9, .int .u8 t675, .int .i64 t676, .int .i64 0, .bool true, .bool false] 25 (0, 0)) (by (with_reducible repeat (first | refine blk_drewN ?_ _ | refine blk_drew ?_ | refine blk_alloc ?_ _)); exact BK680.out) hb); have n3_ := Aside0.mk (blk_below (g := gb712) (o := .cells #[.int .u8 t696, .int .i64 t697, .int .i64 t698, .int .i64 t699, .int .i64 t700, .int .i64 t701, .bool t702, .slice Ao29 t703.length co29, .int .i64 t706, .int .i64 t707, .int .i64 t708, .int .i64 t709, .int .i64 t710] 31 (0, 0)) (by (with_reducible repeat (first | refine blk_drewN ?_ _ | refine blk_drew ?_ | refine blk_alloc ?_ _)); exact BK712.out) hb); have n4_ := Aside0.mk (blk_below (g := gb729) (o := .cells #[.int .u8 t713, .int .i64 t714, .int .i64 t715, .int .i64 t716, .int .i64 t717, .int .i64 t718, .bool t719, .slice Ao43 t720.length co43, .int .i64 t723, .int .i64 t724, .int .i64 t725, .int .i64 t726, .int .i64 t727] 31 (0, 0)) (by (with_reducible repeat (first | refine blk_drewN ?_ _ | refine blk_drew ?_ | refine blk_alloc ?_ _)); exact BK729.out) hb); have n5_ := Aside0.mk (below_step (by repeat (first | (with_reducible first | exact HB.out | apply below_alloc | apply pw_below_drewN | apply below_drew1 | refine below_set ?_ GE680.out | refine below_set ?_ GE712.out | refine below_set ?_ GE729.out) | exact HB.out)) hb); clear HO_713007; clear HO_730007; clear BK680; clear BK712; clear BK729; clear HB; have HO_713007 := n0_; have HO_730007 := n1_; have BK680 := n2_; have BK712 := n3_; have BK729 := n4_; have HB := n5_; clear n0_ n1_ n2_ n3_ n4_ n5_; (try clear hb); (try clear hb2); (try clear hk); (try clear hi); have hnb58 := NB729_712.out; have hnc58 := NB712_729.out; obtain ⟨hcz59_0, hcz59_1, hcz59_2, hcz59_3, hcz59_4, hcz59_5, hcz59_6, hcz59_7, hcz59_8, hcz59_9, hcz59_10, hcz59_11, hcz59_12⟩ := bc13 BK729.out; obtain ⟨hfz59_0, hfz59_1, hfz59_2, hfz59_3, hfz59_4, hfz59_5, hfz59_6, hfz59_7, hfz59_8, hfz59_9, hfz59_10, hfz59_11, hfz59_12⟩ := bf13 BK729.out; obtain ⟨hcz60_0, hcz60_1, hcz60_2, hcz60_3, hcz60_4, hcz60_5⟩ := bc6 BK680.out; obtain ⟨hfz60_0, hfz60_1, hfz60_2, hfz60_3, hfz60_4, hfz60_5⟩ := bf6 BK680.out) | ((with_reducible refine gate_callee (f := 12) rfl ?_); refine goesL_ (some 67) rfl rfl Try.func12 (by kernel_rfl) rfl #[.agg #[.int .u8 t713, .int .i64 t714, .int .i64 t715, .int .i64 t716, .int .i64 t717, .int .i64 t718, .bool t719, .slice Ao43 t720.length co43, .int .i64 t723, .int .i64 t724, .int .i64 t725, .int .i64 t726, .int .i64 t727], .agg #[.int .i64 9, .int .u8 t675, .int .i64 t676, .int .i64 0, .bool true, .bool false], .int .i64 t730] rfl (by (try simp only [List.map_toArray, List.map_cons, List.map_nil]); first | done | rfl | (simp only [List.length_drop, List.length_take]; rfl)) ?_; (with_reducible refine (account_Day.calls kj9 t713 t714 t715 t716 t717 t718 t719 _ _ t720 t723 t724 t725 t726 t727 9 t675 t676 0 true false t730 t732 t733 t734 t735 t736 t737 false t739 t742 t743 t744 t745 t746 t747 _ ?side1 ?side2 A47.out).mono ?_); (case side1 => repeat (first | exact (Kd.R_reads' HO_730007.out).2.2 | (with_reducible refine Kd.C_alloc ?_ _) | (with_reducible refine Kd.C_drewN ?_ _) | (with_reducible refine Kd.C_drew ?_))); (case side2 => exact (Kd.R_reads' HO_730007.out).2.1); rintro e w61 ⟨v740, rfl, ho0, hb⟩; refine ⟨_, rfl, ?_⟩; have n0_ := Aside0.mk (Kd.R_elder' (by (with_reducible repeat (first | apply Kd.R_alloc | apply Kd.R_drewN | apply Kd.R_drew)); exact HO_713007.out) (Kd.R_base ho0) hb); have n1_ := Aside0.mk (Kd.R_elder' (by (with_reducible repeat (first | apply Kd.R_alloc | apply Kd.R_drewN | apply Kd.R_drew)); exact HO_730007.out) (Kd.R_base ho0) hb); have n2_ := Aside0.mk (Kd.R_lower (Kd.R_new' (Kd.R_new' ho0 (Kd.R_lt (by (with_reducible repeat (first | apply Kd.R_alloc | apply Kd.R_drewN | apply Kd.R_drew)); exact HO_713007.out))) (Kd.R_lt (by (with_reducible repeat (first | apply Kd.R_alloc | apply Kd.R_drewN | apply Kd.R_drew)); exact HO_730007.out))) (below_size (by repeat (first | (with_reducible first | exact HB.out | apply below_alloc | apply pw_below_drewN | apply below_drew1 | refine below_set ?_ GE680.out | refine below_set ?_ GE712.out | refine below_set ?_ GE729.out) | exact HB.out)))); have n3_ := Aside0.mk (blk_below (g := gb680) (o := .cells #[.int .i64 9, .int .u8 t675, .int .i64 t676, .int .i64 0, .bool true, .bool false] 25 (0, 0)) (by (with_reducible repeat (first | refine blk_drewN ?_ _ | refine blk_drew ?_ | refine blk_alloc ?_ _)); exact BK680.out) hb); have n4_ := Aside0.mk (blk_below (g := gb712) (o := .cells #[.int .u8 t696, .int .i64 t697, .int .i64 t698, .int .i64 t699, .int .i64 t700, .int .i64 t701, .bool t702, .slice Ao29 t703.length co29, .int .i64 t706, .int .i64 t707, .int .i64 t708, .int .i64 t709, .int .i64 t710] 31 (0, 0)) (by (with_reducible repeat (first | refine blk_drewN ?_ _ | refine blk_drew ?_ | refine blk_alloc ?_ _)); exact BK712.out) hb); have n5_ := Aside0.mk (blk_below (g := gb729) (o := .cells #[.int .u8 t713, .int .i64 t714, .int .i64 t715, .int .i64 t716, .int .i64 t717, .int .i64 t718, .bool t719, .slice Ao43 t720.length co43, .int .i64 t723, .int .i64 t724, .int .i64 t725, .int .i64 t726, .int .i64 t727] 31 (0, 0)) (by (with_reducible repeat (first | refine blk_drewN ?_ _ | refine blk_drew ?_ | refine blk_alloc ?_ _)); exact BK729.out) hb); have n6_ := Aside0.mk (below_step (by repeat (first | (with_reducible first | exact HB.out | apply below_alloc | apply pw_below_drewN | apply below_drew1 | refine below_set ?_ GE680.out | refine below_set ?_ GE712.out | refine below_set ?_ GE729.out) | exact HB.out)) hb); clear HO_713007; clear HO_730007; clear BK680; clear BK712; clear BK729; clear HB; have HO_713007 := n0_; have HO_730007 := n1_; have HO741 := n2_; have BK680 := n3_; have BK712 := n4_; have BK729 := n5_; have HB := n6_; clear n0_ n1_ n2_ n3_ n4_ n5_ n6_; (try clear hb); (try clear hb2); (try clear hk); (try clear hi); (try clear ho0)) | ((with_reducible refine gate_dst (N := 16) rfl ?_); (try (refine gate_guard (by rfl) ?_; dsimp only)); refine box_event ?hg (N := 16) ?hd (cs := #[.int .u8 0, .int .i64 0, .int .i64 0, .int .i64 0, .int .i64 0, .int .i64 0, .bool false, .slice none 0 0, .int .i64 0, .int .i64 0, .int .i64 0, .int .i64 0, .int .i64 0]) (t := 31) ?hr ?_; (case hd => rfl); (case hg => rfl); (case hr => first | (go_simp; done) | (go_simp; rfl)); intro gb748 hg w62 hbox hb; have n0_ := Aside0.mk (Kd.R_below (by (with_reducible repeat (first | apply Kd.R_alloc | apply Kd.R_drewN | apply Kd.R_drew)); exact HO_713007.out) hb); have n1_ := Aside0.mk (Kd.R_below (by (with_reducible repeat (first | apply Kd.R_alloc | apply Kd.R_drewN | apply Kd.R_drew)); exact HO_730007.out) hb); have n2_ := Aside0.mk (Kd.R_below (by (with_reducible repeat (first | apply Kd.R_alloc | apply Kd.R_drewN | apply Kd.R_drew)); exact HO741.out) hb); have n3_ := Aside0.mk (blk_below (g := gb680) (o := .cells #[.int .i64 9, .int .u8 t675, .int .i64 t676, .int .i64 0, .bool true, .bool false] 25 (0, 0)) (by (with_reducible repeat (first | refine blk_drewN ?_ _ | refine blk_drew ?_ | refine blk_alloc ?_ _)); exact BK680.out) hb); have n4_ := Aside0.mk (blk_below (g := gb712) (o := .cells #[.int .u8 t696, .int .i64 t697, .int .i64 t698, .int .i64 t699, .int .i64 t700, .int .i64 t701, .bool t702, .slice Ao29 t703.length co29, .int .i64 t706, .int .i64 t707, .int .i64 t708, .int .i64 t709, .int .i64 t710] 31 (0, 0)) (by (with_reducible repeat (first | refine blk_drewN ?_ _ | refine blk_drew ?_ | refine blk_alloc ?_ _)); exact BK712.out) hb); have n5_ := Aside0.mk (blk_below (g := gb729) (o := .cells #[.int .u8 t713, .int .i64 t714, .int .i64 t715, .int .i64 t716, .int .i64 t717, .int .i64 t718, .bool t719, .slice Ao43 t720.length co43, .int .i64 t723, .int .i64 t724, .int .i64 t725, .int .i64 t726, .int .i64 t727] 31 (0, 0)) (by (with_reducible repeat (first | refine blk_drewN ?_ _ | refine blk_drew ?_ | refine blk_alloc ?_ _)); exact BK729.out) hb); have n6_ := Aside0.mk (below_step (by repeat (first | (with_reducible first | exact HB.out | apply below_alloc | apply pw_below_drewN | apply below_drew1 | refine below_set ?_ GE680.out | refine below_set ?_ GE712.out | refine below_set ?_ GE729.out) | exact HB.out)) hb); have n7_ := Aside0.mk (hbox); have n8_ := Aside0.mk ((by rw [hg]; exact (below_size (by repeat (first | (with_reducible first | exact HB.out | apply below_alloc | apply pw_below_drewN | apply below_drew1 | refine below_set ?_ GE680.out | refine below_set ?_ GE712.out | refine below_set ?_ GE729.out) | exact HB.out))) : w.heap.size ≤ gb748)); have n9_ := Aside0.mk ((by rw [hg]; exact (below_size (by repeat (first | (with_reducible first | exact HB.out | apply below_alloc | apply pw_below_drewN | apply below_drew1 | refine below_set ?_ GE680.out | refine below_set ?_ GE712.out | refine below_set ?_ GE729.out) | exact HB.out))) : w.heap.size ≤ gb748)); have n10_ := Aside0.mk ((by rw [hg]; exact Nat.ne_of_lt (blk_lt (g := gb680) (o := .cells #[.int .i64 9, .int .u8 t675, .int .i64 t676, .int .i64 0, .bool true, .bool false] 25 (0, 0)) (by (with_reducible repeat (first | refine blk_drewN ?_ _ | refine blk_drew ?_ | refine blk_alloc ?_ _)); exact BK680.out)) : gb680 ≠ gb748)); have n11_ := Aside0.mk ((by rw [hg]; exact Nat.ne_of_gt (blk_lt (g := gb680) (o := .cells #[.int .i64 9, .int .u8 t675, .int .i64 t676, .int .i64 0, .bool true, .bool false] 25 (0, 0)) (by (with_reducible repeat (first | refine blk_drewN ?_ _ | refine blk_drew ?_ | refine blk_alloc ?_ _)); exact BK680.out)) : gb748 ≠ gb680)); have n12_ := Aside0.mk ((by rw [hg]; exact Nat.ne_of_lt (blk_lt (g := gb712) (o := .cells #[.int .u8 t696, .int .i64 t697, .int .i64 t698, .int .i64 t699, .int .i64 t700, .int .i64 t701, .bool t702, .slice Ao29 t703.length co29, .int .i64 t706, .int .i64 t707, .int .i64 t708, .int .i64 t709, .int .i64 t710] 31 (0, 0)) (by (with_reducible repeat (first | refine blk_drewN ?_ _ | refine blk_drew ?_ | refine blk_alloc ?_ _)); exact BK712.out)) : gb712 ≠ gb748)); have n13_ := Aside0.mk ((by rw [hg]; exact Nat.ne_of_gt (blk_lt (g := gb712) (o := .cells #[.int .u8 t696, .int .i64 t697, .int .i64 t698, .int .i64 t699, .int .i64 t700, .int .i64 t701, .bool t702, .slice Ao29 t703.length co29, .int .i64 t706, .int .i64 t707, .int .i64 t708, .int .i64 t709, .int .i64 t710] 31 (0, 0)) (by (with_reducible repeat (first | refine blk_drewN ?_ _ | refine blk_drew ?_ | refine blk_alloc ?_ _)); exact BK712.out)) : gb748 ≠ gb712)); have n14_ := Aside0.mk ((by rw [hg]; exact Nat.ne_of_lt (blk_lt (g := gb729) (o := .cells #[.int .u8 t713, .int .i64 t714, .int .i64 t715, .int .i64 t716, .int .i64 t717, .int .i64 t718, .bool t719, .slice Ao43 t720.length co43, .int .i64 t723, .int .i64 t724, .int .i64 t725, .int .i64 t726, .int .i64 t727] 31 (0, 0)) (by (with_reducible repeat (first | refine blk_drewN ?_ _ | refine blk_drew ?_ | refine blk_alloc ?_ _)); exact BK729.out)) : gb729 ≠ gb748)); have n15_ := Aside0.mk ((by rw [hg]; exact Nat.ne_of_gt (blk_lt (g := gb729) (o := .cells #[.int .u8 t713, .int .i64 t714, .int .i64 t715, .int .i64 t716, .int .i64 t717, .int .i64 t718, .bool t719, .slice Ao43 t720.length co43, .int .i64 t723, .int .i64 t724, .int .i64 t725, .int .i64 t726, .int .i64 t727] 31 (0, 0)) (by (with_reducible repeat (first | refine blk_drewN ?_ _ | refine blk_drew ?_ | refine blk_alloc ?_ _)); exact BK729.out)) : gb748 ≠ gb729)); clear HO_713007; clear HO_730007; clear HO741; clear BK680; clear BK712; clear BK729; clear HB; have HO_713007 := n0_; have HO_730007 := n1_; have HO741 := n2_; have BK680 := n3_; have BK712 := n4_; have BK729 := n5_; have HB := n6_; have BK748 := n7_; have GW748 := n8_; have GE748 := n9_; have NB680_748 := n10_; have NB748_680 := n11_; have NB712_748 := n12_; have NB748_712 := n13_; have NB729_748 := n14_; have NB748_729 := n15_; clear n0_ n1_ n2_ n3_ n4_ n5_ n6_ n7_ n8_ n9_ n10_ n11_ n12_ n13_ n14_ n15_; clear hb hbox hg; have hnb63 := NB748_680.out; have hnc63 := NB680_748.out; have hnb64 := NB748_712.out; have hnc64 := NB712_748.out; have hnb65 := NB748_729.out; have hnc65 := NB729_748.out; obtain ⟨hcz66_0, hcz66_1, hcz66_2, hcz66_3, hcz66_4, hcz66_5, hcz66_6, hcz66_7, hcz66_8, hcz66_9, hcz66_10, hcz66_11, hcz66_12⟩ := bc13 BK748.out; obtain ⟨hfz66_0, hfz66_1, hfz66_2, hfz66_3, hfz66_4, hfz66_5, hfz66_6, hfz66_7, hfz66_8, hfz66_9, hfz66_10, hfz66_11, hfz66_12⟩ := bf13 BK748.out; obtain ⟨Ao67, co67, eo67⟩ := Kd.R_slice HO741.out; subst eo67))
                      go_ret
                      exact ⟨by first | rfl | (simp [errW_none, errW_some] <;> rfl) | (simp [*, errW_none, errW_some] <;> rfl), by repeat (first | (with_reducible first | exact HB.out | apply below_alloc | apply pw_below_drewN | apply below_drew1 | refine below_set ?_ GE680.out | refine below_set ?_ GE712.out | refine below_set ?_ GE729.out | refine below_set ?_ GE748.out) | exact HB.out)⟩
                    · rw [if_neg c53] at H
                      have c53b0 : decide ((wrap64 (1 + (wrap64 (Int.tmod a2 4)))) < 2) = false := decide_eq_false c53
                      clear c53
                      by_cases c68 : 1 < (t739.length : Int)
                      · rw [if_pos c68] at H
                        have c68b0 : decide (1 < (t739.length : Int)) = true := decide_eq_true c68
                        have c68b1 : decide (1 < t739.length) = true := decide_eq_true (by omega)
                        clear c68
                        obtain rfl := Option.some.inj H
                        have hnb69 := NB680_712.out
                        have hnc69 := NB712_680.out
                        have hnb70 := NB680_729.out
                        have hnc70 := NB729_680.out
                        obtain ⟨hcz71_0, hcz71_1, hcz71_2, hcz71_3, hcz71_4, hcz71_5⟩ := bc6 BK680.out
                        obtain ⟨hfz71_0, hfz71_1, hfz71_2, hfz71_3, hfz71_4, hfz71_5⟩ := bf6 BK680.out
                        go_wp2_with (first | ((with_reducible refine gate_callee (f := 13) rfl ?_); refine goesL_ (some 60) rfl rfl Try.func13 (by kernel_rfl) rfl #[.int .i64 (wrap64 (700000 + (wrap64 (a1)))), .int .u8 t675, .int .i64 t676, .int .i64 (wrap64 (1 + (wrap64 (Int.tmod a2 4))))] rfl (by (try simp only [List.map_toArray, List.map_cons, List.map_nil]); first | done | rfl | (simp only [List.length_drop, List.length_take]; rfl)) ?_; (with_reducible refine (paybookref01_Nth.calls kj9 (wrap64 (700000 + (wrap64 (a1)))) t675 t676 (wrap64 (1 + (wrap64 (Int.tmod a2 4)))) t730 t731 _ A46.out).mono ?_); rintro e w72 ⟨rfl, hb⟩; refine ⟨_, rfl, ?_⟩; have n0_ := Aside0.mk (Kd.R_below (by (with_reducible repeat (first | apply Kd.R_alloc | apply Kd.R_drewN | apply Kd.R_drew)); exact HO_713007.out) hb); have n1_ := Aside0.mk (Kd.R_below (by (with_reducible repeat (first | apply Kd.R_alloc | apply Kd.R_drewN | apply Kd.R_drew)); exact HO_730007.out) hb); have n2_ := Aside0.mk (blk_below (g := gb680) (o := .cells #[.int .i64 9, .int .u8 t675, .int .i64 t676, .int .i64 0, .bool true, .bool false] 25 (0, 0)) (by (with_reducible repeat (first | refine blk_drewN ?_ _ | refine blk_drew ?_ | refine blk_alloc ?_ _)); exact BK680.out) hb); have n3_ := Aside0.mk (blk_below (g := gb712) (o := .cells #[.int .u8 t696, .int .i64 t697, .int .i64 t698, .int .i64 t699, .int .i64 t700, .int .i64 t701, .bool t702, .slice Ao29 t703.length co29, .int .i64 t706, .int .i64 t707, .int .i64 t708, .int .i64 t709, .int .i64 t710] 31 (0, 0)) (by (with_reducible repeat (first | refine blk_drewN ?_ _ | refine blk_drew ?_ | refine blk_alloc ?_ _)); exact BK712.out) hb); have n4_ := Aside0.mk (blk_below (g := gb729) (o := .cells #[.int .u8 t713, .int .i64 t714, .int .i64 t715, .int .i64 t716, .int .i64 t717, .int .i64 t718, .bool t719, .slice Ao43 t720.length co43, .int .i64 t723, .int .i64 t724, .int .i64 t725, .int .i64 t726, .int .i64 t727] 31 (0, 0)) (by (with_reducible repeat (first | refine blk_drewN ?_ _ | refine blk_drew ?_ | refine blk_alloc ?_ _)); exact BK729.out) hb); have n5_ := Aside0.mk (below_step (by repeat (first | (with_reducible first | exact HB.out | apply below_alloc | apply pw_below_drewN | apply below_drew1 | refine below_set ?_ GE680.out | refine below_set ?_ GE712.out | refine below_set ?_ GE729.out) | exact HB.out)) hb); clear HO_713007; clear HO_730007; clear BK680; clear BK712; clear BK729; clear HB; have HO_713007 := n0_; have HO_730007 := n1_; have BK680 := n2_; have BK712 := n3_; have BK729 := n4_; have HB := n5_; clear n0_ n1_ n2_ n3_ n4_ n5_; (try clear hb); (try clear hb2); (try clear hk); (try clear hi); have hnb73 := NB729_712.out; have hnc73 := NB712_729.out; obtain ⟨hcz74_0, hcz74_1, hcz74_2, hcz74_3, hcz74_4, hcz74_5, hcz74_6, hcz74_7, hcz74_8, hcz74_9, hcz74_10, hcz74_11, hcz74_12⟩ := bc13 BK729.out; obtain ⟨hfz74_0, hfz74_1, hfz74_2, hfz74_3, hfz74_4, hfz74_5, hfz74_6, hfz74_7, hfz74_8, hfz74_9, hfz74_10, hfz74_11, hfz74_12⟩ := bf13 BK729.out; obtain ⟨hcz75_0, hcz75_1, hcz75_2, hcz75_3, hcz75_4, hcz75_5⟩ := bc6 BK680.out; obtain ⟨hfz75_0, hfz75_1, hfz75_2, hfz75_3, hfz75_4, hfz75_5⟩ := bf6 BK680.out) | ((with_reducible refine gate_callee (f := 12) rfl ?_); refine goesL_ (some 67) rfl rfl Try.func12 (by kernel_rfl) rfl #[.agg #[.int .u8 t713, .int .i64 t714, .int .i64 t715, .int .i64 t716, .int .i64 t717, .int .i64 t718, .bool t719, .slice Ao43 t720.length co43, .int .i64 t723, .int .i64 t724, .int .i64 t725, .int .i64 t726, .int .i64 t727], .agg #[.int .i64 9, .int .u8 t675, .int .i64 t676, .int .i64 0, .bool true, .bool false], .int .i64 t730] rfl (by (try simp only [List.map_toArray, List.map_cons, List.map_nil]); first | done | rfl | (simp only [List.length_drop, List.length_take]; rfl)) ?_; (with_reducible refine (account_Day.calls kj9 t713 t714 t715 t716 t717 t718 t719 _ _ t720 t723 t724 t725 t726 t727 9 t675 t676 0 true false t730 t732 t733 t734 t735 t736 t737 false t739 t742 t743 t744 t745 t746 t747 _ ?side1 ?side2 A47.out).mono ?_); (case side1 => repeat (first | exact (Kd.R_reads' HO_730007.out).2.2 | (with_reducible refine Kd.C_alloc ?_ _) | (with_reducible refine Kd.C_drewN ?_ _) | (with_reducible refine Kd.C_drew ?_))); (case side2 => exact (Kd.R_reads' HO_730007.out).2.1); rintro e w76 ⟨v740, rfl, ho0, hb⟩; refine ⟨_, rfl, ?_⟩; have n0_ := Aside0.mk (Kd.R_elder' (by (with_reducible repeat (first | apply Kd.R_alloc | apply Kd.R_drewN | apply Kd.R_drew)); exact HO_713007.out) (Kd.R_base ho0) hb); have n1_ := Aside0.mk (Kd.R_elder' (by (with_reducible repeat (first | apply Kd.R_alloc | apply Kd.R_drewN | apply Kd.R_drew)); exact HO_730007.out) (Kd.R_base ho0) hb); have n2_ := Aside0.mk (Kd.R_lower (Kd.R_new' (Kd.R_new' ho0 (Kd.R_lt (by (with_reducible repeat (first | apply Kd.R_alloc | apply Kd.R_drewN | apply Kd.R_drew)); exact HO_713007.out))) (Kd.R_lt (by (with_reducible repeat (first | apply Kd.R_alloc | apply Kd.R_drewN | apply Kd.R_drew)); exact HO_730007.out))) (below_size (by repeat (first | (with_reducible first | exact HB.out | apply below_alloc | apply pw_below_drewN | apply below_drew1 | refine below_set ?_ GE680.out | refine below_set ?_ GE712.out | refine below_set ?_ GE729.out) | exact HB.out)))); have n3_ := Aside0.mk (blk_below (g := gb680) (o := .cells #[.int .i64 9, .int .u8 t675, .int .i64 t676, .int .i64 0, .bool true, .bool false] 25 (0, 0)) (by (with_reducible repeat (first | refine blk_drewN ?_ _ | refine blk_drew ?_ | refine blk_alloc ?_ _)); exact BK680.out) hb); have n4_ := Aside0.mk (blk_below (g := gb712) (o := .cells #[.int .u8 t696, .int .i64 t697, .int .i64 t698, .int .i64 t699, .int .i64 t700, .int .i64 t701, .bool t702, .slice Ao29 t703.length co29, .int .i64 t706, .int .i64 t707, .int .i64 t708, .int .i64 t709, .int .i64 t710] 31 (0, 0)) (by (with_reducible repeat (first | refine blk_drewN ?_ _ | refine blk_drew ?_ | refine blk_alloc ?_ _)); exact BK712.out) hb); have n5_ := Aside0.mk (blk_below (g := gb729) (o := .cells #[.int .u8 t713, .int .i64 t714, .int .i64 t715, .int .i64 t716, .int .i64 t717, .int .i64 t718, .bool t719, .slice Ao43 t720.length co43, .int .i64 t723, .int .i64 t724, .int .i64 t725, .int .i64 t726, .int .i64 t727] 31 (0, 0)) (by (with_reducible repeat (first | refine blk_drewN ?_ _ | refine blk_drew ?_ | refine blk_alloc ?_ _)); exact BK729.out) hb); have n6_ := Aside0.mk (below_step (by repeat (first | (with_reducible first | exact HB.out | apply below_alloc | apply pw_below_drewN | apply below_drew1 | refine below_set ?_ GE680.out | refine below_set ?_ GE712.out | refine below_set ?_ GE729.out) | exact HB.out)) hb); clear HO_713007; clear HO_730007; clear BK680; clear BK712; clear BK729; clear HB; have HO_713007 := n0_; have HO_730007 := n1_; have HO741 := n2_; have BK680 := n3_; have BK712 := n4_; have BK729 := n5_; have HB := n6_; clear n0_ n1_ n2_ n3_ n4_ n5_ n6_; (try clear hb); (try clear hb2); (try clear hk); (try clear hi); (try clear ho0)) | ((with_reducible refine gate_dst (N := 16) rfl ?_); (try (refine gate_guard (by rfl) ?_; dsimp only)); refine box_event ?hg (N := 16) ?hd (cs := #[.int .u8 0, .int .i64 0, .int .i64 0, .int .i64 0, .int .i64 0, .int .i64 0, .bool false, .slice none 0 0, .int .i64 0, .int .i64 0, .int .i64 0, .int .i64 0, .int .i64 0]) (t := 31) ?hr ?_; (case hd => rfl); (case hg => rfl); (case hr => first | (go_simp; done) | (go_simp; rfl)); intro gb748 hg w77 hbox hb; have n0_ := Aside0.mk (Kd.R_below (by (with_reducible repeat (first | apply Kd.R_alloc | apply Kd.R_drewN | apply Kd.R_drew)); exact HO_713007.out) hb); have n1_ := Aside0.mk (Kd.R_below (by (with_reducible repeat (first | apply Kd.R_alloc | apply Kd.R_drewN | apply Kd.R_drew)); exact HO_730007.out) hb); have n2_ := Aside0.mk (Kd.R_below (by (with_reducible repeat (first | apply Kd.R_alloc | apply Kd.R_drewN | apply Kd.R_drew)); exact HO741.out) hb); have n3_ := Aside0.mk (blk_below (g := gb680) (o := .cells #[.int .i64 9, .int .u8 t675, .int .i64 t676, .int .i64 0, .bool true, .bool false] 25 (0, 0)) (by (with_reducible repeat (first | refine blk_drewN ?_ _ | refine blk_drew ?_ | refine blk_alloc ?_ _)); exact BK680.out) hb); have n4_ := Aside0.mk (blk_below (g := gb712) (o := .cells #[.int .u8 t696, .int .i64 t697, .int .i64 t698, .int .i64 t699, .int .i64 t700, .int .i64 t701, .bool t702, .slice Ao29 t703.length co29, .int .i64 t706, .int .i64 t707, .int .i64 t708, .int .i64 t709, .int .i64 t710] 31 (0, 0)) (by (with_reducible repeat (first | refine blk_drewN ?_ _ | refine blk_drew ?_ | refine blk_alloc ?_ _)); exact BK712.out) hb); have n5_ := Aside0.mk (blk_below (g := gb729) (o := .cells #[.int .u8 t713, .int .i64 t714, .int .i64 t715, .int .i64 t716, .int .i64 t717, .int .i64 t718, .bool t719, .slice Ao43 t720.length co43, .int .i64 t723, .int .i64 t724, .int .i64 t725, .int .i64 t726, .int .i64 t727] 31 (0, 0)) (by (with_reducible repeat (first | refine blk_drewN ?_ _ | refine blk_drew ?_ | refine blk_alloc ?_ _)); exact BK729.out) hb); have n6_ := Aside0.mk (below_step (by repeat (first | (with_reducible first | exact HB.out | apply below_alloc | apply pw_below_drewN | apply below_drew1 | refine below_set ?_ GE680.out | refine below_set ?_ GE712.out | refine below_set ?_ GE729.out) | exact HB.out)) hb); have n7_ := Aside0.mk (hbox); have n8_ := Aside0.mk ((by rw [hg]; exact (below_size (by repeat (first | (with_reducible first | exact HB.out | apply below_alloc | apply pw_below_drewN | apply below_drew1 | refine below_set ?_ GE680.out | refine below_set ?_ GE712.out | refine below_set ?_ GE729.out) | exact HB.out))) : w.heap.size ≤ gb748)); have n9_ := Aside0.mk ((by rw [hg]; exact (below_size (by repeat (first | (with_reducible first | exact HB.out | apply below_alloc | apply pw_below_drewN | apply below_drew1 | refine below_set ?_ GE680.out | refine below_set ?_ GE712.out | refine below_set ?_ GE729.out) | exact HB.out))) : w.heap.size ≤ gb748)); have n10_ := Aside0.mk ((by rw [hg]; exact Nat.ne_of_lt (blk_lt (g := gb680) (o := .cells #[.int .i64 9, .int .u8 t675, .int .i64 t676, .int .i64 0, .bool true, .bool false] 25 (0, 0)) (by (with_reducible repeat (first | refine blk_drewN ?_ _ | refine blk_drew ?_ | refine blk_alloc ?_ _)); exact BK680.out)) : gb680 ≠ gb748)); have n11_ := Aside0.mk ((by rw [hg]; exact Nat.ne_of_gt (blk_lt (g := gb680) (o := .cells #[.int .i64 9, .int .u8 t675, .int .i64 t676, .int .i64 0, .bool true, .bool false] 25 (0, 0)) (by (with_reducible repeat (first | refine blk_drewN ?_ _ | refine blk_drew ?_ | refine blk_alloc ?_ _)); exact BK680.out)) : gb748 ≠ gb680)); have n12_ := Aside0.mk ((by rw [hg]; exact Nat.ne_of_lt (blk_lt (g := gb712) (o := .cells #[.int .u8 t696, .int .i64 t697, .int .i64 t698, .int .i64 t699, .int .i64 t700, .int .i64 t701, .bool t702, .slice Ao29 t703.length co29, .int .i64 t706, .int .i64 t707, .int .i64 t708, .int .i64 t709, .int .i64 t710] 31 (0, 0)) (by (with_reducible repeat (first | refine blk_drewN ?_ _ | refine blk_drew ?_ | refine blk_alloc ?_ _)); exact BK712.out)) : gb712 ≠ gb748)); have n13_ := Aside0.mk ((by rw [hg]; exact Nat.ne_of_gt (blk_lt (g := gb712) (o := .cells #[.int .u8 t696, .int .i64 t697, .int .i64 t698, .int .i64 t699, .int .i64 t700, .int .i64 t701, .bool t702, .slice Ao29 t703.length co29, .int .i64 t706, .int .i64 t707, .int .i64 t708, .int .i64 t709, .int .i64 t710] 31 (0, 0)) (by (with_reducible repeat (first | refine blk_drewN ?_ _ | refine blk_drew ?_ | refine blk_alloc ?_ _)); exact BK712.out)) : gb748 ≠ gb712)); have n14_ := Aside0.mk ((by rw [hg]; exact Nat.ne_of_lt (blk_lt (g := gb729) (o := .cells #[.int .u8 t713, .int .i64 t714, .int .i64 t715, .int .i64 t716, .int .i64 t717, .int .i64 t718, .bool t719, .slice Ao43 t720.length co43, .int .i64 t723, .int .i64 t724, .int .i64 t725, .int .i64 t726, .int .i64 t727] 31 (0, 0)) (by (with_reducible repeat (first | refine blk_drewN ?_ _ | refine blk_drew ?_ | refine blk_alloc ?_ _)); exact BK729.out)) : gb729 ≠ gb748)); have n15_ := Aside0.mk ((by rw [hg]; exact Nat.ne_of_gt (blk_lt (g := gb729) (o := .cells #[.int .u8 t713, .int .i64 t714, .int .i64 t715, .int .i64 t716, .int .i64 t717, .int .i64 t718, .bool t719, .slice Ao43 t720.length co43, .int .i64 t723, .int .i64 t724, .int .i64 t725, .int .i64 t726, .int .i64 t727] 31 (0, 0)) (by (with_reducible repeat (first | refine blk_drewN ?_ _ | refine blk_drew ?_ | refine blk_alloc ?_ _)); exact BK729.out)) : gb748 ≠ gb729)); clear HO_713007; clear HO_730007; clear HO741; clear BK680; clear BK712; clear BK729; clear HB; have HO_713007 := n0_; have HO_730007 := n1_; have HO741 := n2_; have BK680 := n3_; have BK712 := n4_; have BK729 := n5_; have HB := n6_; have BK748 := n7_; have GW748 := n8_; have GE748 := n9_; have NB680_748 := n10_; have NB748_680 := n11_; have NB712_748 := n12_; have NB748_712 := n13_; have NB729_748 := n14_; have NB748_729 := n15_; clear n0_ n1_ n2_ n3_ n4_ n5_ n6_ n7_ n8_ n9_ n10_ n11_ n12_ n13_ n14_ n15_; clear hb hbox hg; have hnb78 := NB748_680.out; have hnc78 := NB680_748.out; have hnb79 := NB748_712.out; have hnc79 := NB712_748.out; have hnb80 := NB748_729.out; have hnc80 := NB729_748.out; obtain ⟨hcz81_0, hcz81_1, hcz81_2, hcz81_3, hcz81_4, hcz81_5, hcz81_6, hcz81_7, hcz81_8, hcz81_9, hcz81_10, hcz81_11, hcz81_12⟩ := bc13 BK748.out; obtain ⟨hfz81_0, hfz81_1, hfz81_2, hfz81_3, hfz81_4, hfz81_5, hfz81_6, hfz81_7, hfz81_8, hfz81_9, hfz81_10, hfz81_11, hfz81_12⟩ := bf13 BK748.out; obtain ⟨Ao82, co82, eo82⟩ := Kd.R_slice HO741.out; subst eo82; have p749 : 0 ≤ (1 : Int) := (by omega); have q749 : 1 < (t739.length : Int) := of_decide_eq_true (by first | (with_reducible assumption) | assumption); obtain ⟨ad749, e749, hx749_0, hx749_1, hx749_2, hx749_3, hx749_4, hx749_5, hx749_6, hx749_7⟩ := at_T37 (Kd.R_reads' HO741.out).2.2 1 p749 q749; cases e749; (try simp only [show (1 : Int).toNat = 1 from rfl, Nat.reduceMul, Nat.reduceEqDiff, Go.Addr.add, ↓reduceIte] at hx749_0); (try simp only [show (1 : Int).toNat = 1 from rfl, Nat.reduceMul, Nat.reduceEqDiff, Go.Addr.add, ↓reduceIte] at hx749_1); (try simp only [show (1 : Int).toNat = 1 from rfl, Nat.reduceMul, Nat.reduceEqDiff, Go.Addr.add, ↓reduceIte] at hx749_2); (try simp only [show (1 : Int).toNat = 1 from rfl, Nat.reduceMul, Nat.reduceEqDiff, Go.Addr.add, ↓reduceIte] at hx749_3); (try simp only [show (1 : Int).toNat = 1 from rfl, Nat.reduceMul, Nat.reduceEqDiff, Go.Addr.add, ↓reduceIte] at hx749_4); (try simp only [show (1 : Int).toNat = 1 from rfl, Nat.reduceMul, Nat.reduceEqDiff, Go.Addr.add, ↓reduceIte] at hx749_5); (try simp only [show (1 : Int).toNat = 1 from rfl, Nat.reduceMul, Nat.reduceEqDiff, Go.Addr.add, ↓reduceIte] at hx749_6); (try simp only [show (1 : Int).toNat = 1 from rfl, Nat.reduceMul, Nat.reduceEqDiff, Go.Addr.add, ↓reduceIte] at hx749_7); have qi749 : (1 < t739.length) = True := eq_true (by omega); (try rw [show ((1 : Int)).toNat = 1 from rfl] at hx749_0); (try rw [show 1 * 8 = 8 from rfl] at hx749_0); (try rw [show ((1 : Int)).toNat = 1 from rfl] at hx749_1); (try rw [show 1 * 8 = 8 from rfl] at hx749_1); (try rw [show ((1 : Int)).toNat = 1 from rfl] at hx749_2); (try rw [show 1 * 8 = 8 from rfl] at hx749_2); (try rw [show ((1 : Int)).toNat = 1 from rfl] at hx749_3); (try rw [show 1 * 8 = 8 from rfl] at hx749_3); (try rw [show ((1 : Int)).toNat = 1 from rfl] at hx749_4); (try rw [show 1 * 8 = 8 from rfl] at hx749_4); (try rw [show ((1 : Int)).toNat = 1 from rfl] at hx749_5); (try rw [show 1 * 8 = 8 from rfl] at hx749_5); (try rw [show ((1 : Int)).toNat = 1 from rfl] at hx749_6); (try rw [show 1 * 8 = 8 from rfl] at hx749_6); (try rw [show ((1 : Int)).toNat = 1 from rfl] at hx749_7); (try rw [show 1 * 8 = 8 from rfl] at hx749_7); have hn749_0 : ad749.block ≠ gb748 := Kd.own_blk (Kd.R_ne HO741.out BK748.out (by decide)); have hn749_1 : ad749.block ≠ gb748 := Kd.own_blk (Kd.R_ne HO741.out BK748.out (by decide)); have hn749_2 : ad749.block ≠ gb748 := Kd.own_blk (Kd.R_ne HO741.out BK748.out (by decide)); have hn749_3 : ad749.block ≠ gb748 := Kd.own_blk (Kd.R_ne HO741.out BK748.out (by decide)); have hn749_4 : ad749.block ≠ gb748 := Kd.own_blk (Kd.R_ne HO741.out BK748.out (by decide)); have hn749_5 : ad749.block ≠ gb748 := Kd.own_blk (Kd.R_ne HO741.out BK748.out (by decide)); have hn749_6 : ad749.block ≠ gb748 := Kd.own_blk (Kd.R_ne HO741.out BK748.out (by decide)); have hn749_7 : ad749.block ≠ gb748 := Kd.own_blk (Kd.R_ne HO741.out BK748.out (by decide)); have hn749_8 : ad749.block ≠ gb748 := Kd.own_blk (Kd.R_ne HO741.out BK748.out (by decide)); have hn749_9 : ad749.block ≠ gb748 := Kd.own_blk (Kd.R_ne HO741.out BK748.out (by decide)); have hn749_10 : ad749.block ≠ gb748 := Kd.own_blk (Kd.R_ne HO741.out BK748.out (by decide)); have hn749_11 : ad749.block ≠ gb748 := Kd.own_blk (Kd.R_ne HO741.out BK748.out (by decide)); have hn749_12 : ad749.block ≠ gb748 := Kd.own_blk (Kd.R_ne HO741.out BK748.out (by decide)); replace hx749_0 := (cell_far (p := ⟨gb748, 0, none⟩) (by first | (rw [add_block]; exact hn749_0) | (show (Addr.add _ _).block ≠ _; rw [add_block]; exact hn749_0) | exact hn749_0) (.int .u8 t732)).trans hx749_0; replace hx749_1 := (cell_far (p := ⟨gb748, 0, none⟩) (by first | (rw [add_block]; exact hn749_0) | (show (Addr.add _ _).block ≠ _; rw [add_block]; exact hn749_0) | exact hn749_0) (.int .u8 t732)).trans hx749_1; replace hx749_2 := (cell_far (p := ⟨gb748, 0, none⟩) (by first | (rw [add_block]; exact hn749_0) | (show (Addr.add _ _).block ≠ _; rw [add_block]; exact hn749_0) | exact hn749_0) (.int .u8 t732)).trans hx749_2; replace hx749_3 := (cell_far (p := ⟨gb748, 0, none⟩) (by first | (rw [add_block]; exact hn749_0) | (show (Addr.add _ _).block ≠ _; rw [add_block]; exact hn749_0) | exact hn749_0) (.int .u8 t732)).trans hx749_3; replace hx749_4 := (cell_far (p := ⟨gb748, 0, none⟩) (by first | (rw [add_block]; exact hn749_0) | (show (Addr.add _ _).block ≠ _; rw [add_block]; exact hn749_0) | exact hn749_0) (.int .u8 t732)).trans hx749_4; replace hx749_5 := (cell_far (p := ⟨gb748, 0, none⟩) (by first | (rw [add_block]; exact hn749_0) | (show (Addr.add _ _).block ≠ _; rw [add_block]; exact hn749_0) | exact hn749_0) (.int .u8 t732)).trans hx749_5; replace hx749_6 := (cell_far (p := ⟨gb748, 0, none⟩) (by first | (rw [add_block]; exact hn749_0) | (show (Addr.add _ _).block ≠ _; rw [add_block]; exact hn749_0) | exact hn749_0) (.int .u8 t732)).trans hx749_6; replace hx749_7 := (cell_far (p := ⟨gb748, 0, none⟩) (by first | (rw [add_block]; exact hn749_0) | (show (Addr.add _ _).block ≠ _; rw [add_block]; exact hn749_0) | exact hn749_0) (.int .u8 t732)).trans hx749_7; replace hx749_0 := (cell_far (p := ⟨gb748, 1, none⟩) (by first | (rw [add_block]; exact hn749_1) | (show (Addr.add _ _).block ≠ _; rw [add_block]; exact hn749_1) | exact hn749_1) (.int .i64 t733)).trans hx749_0; replace hx749_1 := (cell_far (p := ⟨gb748, 1, none⟩) (by first | (rw [add_block]; exact hn749_1) | (show (Addr.add _ _).block ≠ _; rw [add_block]; exact hn749_1) | exact hn749_1) (.int .i64 t733)).trans hx749_1; replace hx749_2 := (cell_far (p := ⟨gb748, 1, none⟩) (by first | (rw [add_block]; exact hn749_1) | (show (Addr.add _ _).block ≠ _; rw [add_block]; exact hn749_1) | exact hn749_1) (.int .i64 t733)).trans hx749_2; replace hx749_3 := (cell_far (p := ⟨gb748, 1, none⟩) (by first | (rw [add_block]; exact hn749_1) | (show (Addr.add _ _).block ≠ _; rw [add_block]; exact hn749_1) | exact hn749_1) (.int .i64 t733)).trans hx749_3; replace hx749_4 := (cell_far (p := ⟨gb748, 1, none⟩) (by first | (rw [add_block]; exact hn749_1) | (show (Addr.add _ _).block ≠ _; rw [add_block]; exact hn749_1) | exact hn749_1) (.int .i64 t733)).trans hx749_4; replace hx749_5 := (cell_far (p := ⟨gb748, 1, none⟩) (by first | (rw [add_block]; exact hn749_1) | (show (Addr.add _ _).block ≠ _; rw [add_block]; exact hn749_1) | exact hn749_1) (.int .i64 t733)).trans hx749_5; replace hx749_6 := (cell_far (p := ⟨gb748, 1, none⟩) (by first | (rw [add_block]; exact hn749_1) | (show (Addr.add _ _).block ≠ _; rw [add_block]; exact hn749_1) | exact hn749_1) (.int .i64 t733)).trans hx749_6; replace hx749_7 := (cell_far (p := ⟨gb748, 1, none⟩) (by first | (rw [add_block]; exact hn749_1) | (show (Addr.add _ _).block ≠ _; rw [add_block]; exact hn749_1) | exact hn749_1) (.int .i64 t733)).trans hx749_7; replace hx749_0 := (cell_far (p := ⟨gb748, 2, none⟩) (by first | (rw [add_block]; exact hn749_2) | (show (Addr.add _ _).block ≠ _; rw [add_block]; exact hn749_2) | exact hn749_2) (.int .i64 t734)).trans hx749_0; replace hx749_1 := (cell_far (p := ⟨gb748, 2, none⟩) (by first | (rw [add_block]; exact hn749_2) | (show (Addr.add _ _).block ≠ _; rw [add_block]; exact hn749_2) | exact hn749_2) (.int .i64 t734)).trans hx749_1; replace hx749_2 := (cell_far (p := ⟨gb748, 2, none⟩) (by first | (rw [add_block]; exact hn749_2) | (show (Addr.add _ _).block ≠ _; rw [add_block]; exact hn749_2) | exact hn749_2) (.int .i64 t734)).trans hx749_2; replace hx749_3 := (cell_far (p := ⟨gb748, 2, none⟩) (by first | (rw [add_block]; exact hn749_2) | (show (Addr.add _ _).block ≠ _; rw [add_block]; exact hn749_2) | exact hn749_2) (.int .i64 t734)).trans hx749_3; replace hx749_4 := (cell_far (p := ⟨gb748, 2, none⟩) (by first | (rw [add_block]; exact hn749_2) | (show (Addr.add _ _).block ≠ _; rw [add_block]; exact hn749_2) | exact hn749_2) (.int .i64 t734)).trans hx749_4; replace hx749_5 := (cell_far (p := ⟨gb748, 2, none⟩) (by first | (rw [add_block]; exact hn749_2) | (show (Addr.add _ _).block ≠ _; rw [add_block]; exact hn749_2) | exact hn749_2) (.int .i64 t734)).trans hx749_5; replace hx749_6 := (cell_far (p := ⟨gb748, 2, none⟩) (by first | (rw [add_block]; exact hn749_2) | (show (Addr.add _ _).block ≠ _; rw [add_block]; exact hn749_2) | exact hn749_2) (.int .i64 t734)).trans hx749_6; replace hx749_7 := (cell_far (p := ⟨gb748, 2, none⟩) (by first | (rw [add_block]; exact hn749_2) | (show (Addr.add _ _).block ≠ _; rw [add_block]; exact hn749_2) | exact hn749_2) (.int .i64 t734)).trans hx749_7; replace hx749_0 := (cell_far (p := ⟨gb748, 3, none⟩) (by first | (rw [add_block]; exact hn749_3) | (show (Addr.add _ _).block ≠ _; rw [add_block]; exact hn749_3) | exact hn749_3) (.int .i64 t735)).trans hx749_0; replace hx749_1 := (cell_far (p := ⟨gb748, 3, none⟩) (by first | (rw [add_block]; exact hn749_3) | (show (Addr.add _ _).block ≠ _; rw [add_block]; exact hn749_3) | exact hn749_3) (.int .i64 t735)).trans hx749_1; replace hx749_2 := (cell_far (p := ⟨gb748, 3, none⟩) (by first | (rw [add_block]; exact hn749_3) | (show (Addr.add _ _).block ≠ _; rw [add_block]; exact hn749_3) | exact hn749_3) (.int .i64 t735)).trans hx749_2; replace hx749_3 := (cell_far (p := ⟨gb748, 3, none⟩) (by first | (rw [add_block]; exact hn749_3) | (show (Addr.add _ _).block ≠ _; rw [add_block]; exact hn749_3) | exact hn749_3) (.int .i64 t735)).trans hx749_3; replace hx749_4 := (cell_far (p := ⟨gb748, 3, none⟩) (by first | (rw [add_block]; exact hn749_3) | (show (Addr.add _ _).block ≠ _; rw [add_block]; exact hn749_3) | exact hn749_3) (.int .i64 t735)).trans hx749_4; replace hx749_5 := (cell_far (p := ⟨gb748, 3, none⟩) (by first | (rw [add_block]; exact hn749_3) | (show (Addr.add _ _).block ≠ _; rw [add_block]; exact hn749_3) | exact hn749_3) (.int .i64 t735)).trans hx749_5; replace hx749_6 := (cell_far (p := ⟨gb748, 3, none⟩) (by first | (rw [add_block]; exact hn749_3) | (show (Addr.add _ _).block ≠ _; rw [add_block]; exact hn749_3) | exact hn749_3) (.int .i64 t735)).trans hx749_6; replace hx749_7 := (cell_far (p := ⟨gb748, 3, none⟩) (by first | (rw [add_block]; exact hn749_3) | (show (Addr.add _ _).block ≠ _; rw [add_block]; exact hn749_3) | exact hn749_3) (.int .i64 t735)).trans hx749_7; replace hx749_0 := (cell_far (p := ⟨gb748, 4, none⟩) (by first | (rw [add_block]; exact hn749_4) | (show (Addr.add _ _).block ≠ _; rw [add_block]; exact hn749_4) | exact hn749_4) (.int .i64 t736)).trans hx749_0; replace hx749_1 := (cell_far (p := ⟨gb748, 4, none⟩) (by first | (rw [add_block]; exact hn749_4) | (show (Addr.add _ _).block ≠ _; rw [add_block]; exact hn749_4) | exact hn749_4) (.int .i64 t736)).trans hx749_1; replace hx749_2 := (cell_far (p := ⟨gb748, 4, none⟩) (by first | (rw [add_block]; exact hn749_4) | (show (Addr.add _ _).block ≠ _; rw [add_block]; exact hn749_4) | exact hn749_4) (.int .i64 t736)).trans hx749_2; replace hx749_3 := (cell_far (p := ⟨gb748, 4, none⟩) (by first | (rw [add_block]; exact hn749_4) | (show (Addr.add _ _).block ≠ _; rw [add_block]; exact hn749_4) | exact hn749_4) (.int .i64 t736)).trans hx749_3; replace hx749_4 := (cell_far (p := ⟨gb748, 4, none⟩) (by first | (rw [add_block]; exact hn749_4) | (show (Addr.add _ _).block ≠ _; rw [add_block]; exact hn749_4) | exact hn749_4) (.int .i64 t736)).trans hx749_4; replace hx749_5 := (cell_far (p := ⟨gb748, 4, none⟩) (by first | (rw [add_block]; exact hn749_4) | (show (Addr.add _ _).block ≠ _; rw [add_block]; exact hn749_4) | exact hn749_4) (.int .i64 t736)).trans hx749_5; replace hx749_6 := (cell_far (p := ⟨gb748, 4, none⟩) (by first | (rw [add_block]; exact hn749_4) | (show (Addr.add _ _).block ≠ _; rw [add_block]; exact hn749_4) | exact hn749_4) (.int .i64 t736)).trans hx749_6; replace hx749_7 := (cell_far (p := ⟨gb748, 4, none⟩) (by first | (rw [add_block]; exact hn749_4) | (show (Addr.add _ _).block ≠ _; rw [add_block]; exact hn749_4) | exact hn749_4) (.int .i64 t736)).trans hx749_7; replace hx749_0 := (cell_far (p := ⟨gb748, 5, none⟩) (by first | (rw [add_block]; exact hn749_5) | (show (Addr.add _ _).block ≠ _; rw [add_block]; exact hn749_5) | exact hn749_5) (.int .i64 t737)).trans hx749_0; replace hx749_1 := (cell_far (p := ⟨gb748, 5, none⟩) (by first | (rw [add_block]; exact hn749_5) | (show (Addr.add _ _).block ≠ _; rw [add_block]; exact hn749_5) | exact hn749_5) (.int .i64 t737)).trans hx749_1; replace hx749_2 := (cell_far (p := ⟨gb748, 5, none⟩) (by first | (rw [add_block]; exact hn749_5) | (show (Addr.add _ _).block ≠ _; rw [add_block]; exact hn749_5) | exact hn749_5) (.int .i64 t737)).trans hx749_2; replace hx749_3 := (cell_far (p := ⟨gb748, 5, none⟩) (by first | (rw [add_block]; exact hn749_5) | (show (Addr.add _ _).block ≠ _; rw [add_block]; exact hn749_5) | exact hn749_5) (.int .i64 t737)).trans hx749_3; replace hx749_4 := (cell_far (p := ⟨gb748, 5, none⟩) (by first | (rw [add_block]; exact hn749_5) | (show (Addr.add _ _).block ≠ _; rw [add_block]; exact hn749_5) | exact hn749_5) (.int .i64 t737)).trans hx749_4; replace hx749_5 := (cell_far (p := ⟨gb748, 5, none⟩) (by first | (rw [add_block]; exact hn749_5) | (show (Addr.add _ _).block ≠ _; rw [add_block]; exact hn749_5) | exact hn749_5) (.int .i64 t737)).trans hx749_5; replace hx749_6 := (cell_far (p := ⟨gb748, 5, none⟩) (by first | (rw [add_block]; exact hn749_5) | (show (Addr.add _ _).block ≠ _; rw [add_block]; exact hn749_5) | exact hn749_5) (.int .i64 t737)).trans hx749_6; replace hx749_7 := (cell_far (p := ⟨gb748, 5, none⟩) (by first | (rw [add_block]; exact hn749_5) | (show (Addr.add _ _).block ≠ _; rw [add_block]; exact hn749_5) | exact hn749_5) (.int .i64 t737)).trans hx749_7; replace hx749_0 := (cell_far (p := ⟨gb748, 6, none⟩) (by first | (rw [add_block]; exact hn749_6) | (show (Addr.add _ _).block ≠ _; rw [add_block]; exact hn749_6) | exact hn749_6) (.bool false)).trans hx749_0; replace hx749_1 := (cell_far (p := ⟨gb748, 6, none⟩) (by first | (rw [add_block]; exact hn749_6) | (show (Addr.add _ _).block ≠ _; rw [add_block]; exact hn749_6) | exact hn749_6) (.bool false)).trans hx749_1; replace hx749_2 := (cell_far (p := ⟨gb748, 6, none⟩) (by first | (rw [add_block]; exact hn749_6) | (show (Addr.add _ _).block ≠ _; rw [add_block]; exact hn749_6) | exact hn749_6) (.bool false)).trans hx749_2; replace hx749_3 := (cell_far (p := ⟨gb748, 6, none⟩) (by first | (rw [add_block]; exact hn749_6) | (show (Addr.add _ _).block ≠ _; rw [add_block]; exact hn749_6) | exact hn749_6) (.bool false)).trans hx749_3; replace hx749_4 := (cell_far (p := ⟨gb748, 6, none⟩) (by first | (rw [add_block]; exact hn749_6) | (show (Addr.add _ _).block ≠ _; rw [add_block]; exact hn749_6) | exact hn749_6) (.bool false)).trans hx749_4; replace hx749_5 := (cell_far (p := ⟨gb748, 6, none⟩) (by first | (rw [add_block]; exact hn749_6) | (show (Addr.add _ _).block ≠ _; rw [add_block]; exact hn749_6) | exact hn749_6) (.bool false)).trans hx749_5; replace hx749_6 := (cell_far (p := ⟨gb748, 6, none⟩) (by first | (rw [add_block]; exact hn749_6) | (show (Addr.add _ _).block ≠ _; rw [add_block]; exact hn749_6) | exact hn749_6) (.bool false)).trans hx749_6; replace hx749_7 := (cell_far (p := ⟨gb748, 6, none⟩) (by first | (rw [add_block]; exact hn749_6) | (show (Addr.add _ _).block ≠ _; rw [add_block]; exact hn749_6) | exact hn749_6) (.bool false)).trans hx749_7; replace hx749_0 := (cell_far (p := ⟨gb748, 7, none⟩) (by first | (rw [add_block]; exact hn749_7) | (show (Addr.add _ _).block ≠ _; rw [add_block]; exact hn749_7) | exact hn749_7) (.slice (some ad749) t739.length co82)).trans hx749_0; replace hx749_1 := (cell_far (p := ⟨gb748, 7, none⟩) (by first | (rw [add_block]; exact hn749_7) | (show (Addr.add _ _).block ≠ _; rw [add_block]; exact hn749_7) | exact hn749_7) (.slice (some ad749) t739.length co82)).trans hx749_1; replace hx749_2 := (cell_far (p := ⟨gb748, 7, none⟩) (by first | (rw [add_block]; exact hn749_7) | (show (Addr.add _ _).block ≠ _; rw [add_block]; exact hn749_7) | exact hn749_7) (.slice (some ad749) t739.length co82)).trans hx749_2; replace hx749_3 := (cell_far (p := ⟨gb748, 7, none⟩) (by first | (rw [add_block]; exact hn749_7) | (show (Addr.add _ _).block ≠ _; rw [add_block]; exact hn749_7) | exact hn749_7) (.slice (some ad749) t739.length co82)).trans hx749_3; replace hx749_4 := (cell_far (p := ⟨gb748, 7, none⟩) (by first | (rw [add_block]; exact hn749_7) | (show (Addr.add _ _).block ≠ _; rw [add_block]; exact hn749_7) | exact hn749_7) (.slice (some ad749) t739.length co82)).trans hx749_4; replace hx749_5 := (cell_far (p := ⟨gb748, 7, none⟩) (by first | (rw [add_block]; exact hn749_7) | (show (Addr.add _ _).block ≠ _; rw [add_block]; exact hn749_7) | exact hn749_7) (.slice (some ad749) t739.length co82)).trans hx749_5; replace hx749_6 := (cell_far (p := ⟨gb748, 7, none⟩) (by first | (rw [add_block]; exact hn749_7) | (show (Addr.add _ _).block ≠ _; rw [add_block]; exact hn749_7) | exact hn749_7) (.slice (some ad749) t739.length co82)).trans hx749_6; replace hx749_7 := (cell_far (p := ⟨gb748, 7, none⟩) (by first | (rw [add_block]; exact hn749_7) | (show (Addr.add _ _).block ≠ _; rw [add_block]; exact hn749_7) | exact hn749_7) (.slice (some ad749) t739.length co82)).trans hx749_7; replace hx749_0 := (cell_far (p := ⟨gb748, 8, none⟩) (by first | (rw [add_block]; exact hn749_8) | (show (Addr.add _ _).block ≠ _; rw [add_block]; exact hn749_8) | exact hn749_8) (.int .i64 t742)).trans hx749_0; replace hx749_1 := (cell_far (p := ⟨gb748, 8, none⟩) (by first | (rw [add_block]; exact hn749_8) | (show (Addr.add _ _).block ≠ _; rw [add_block]; exact hn749_8) | exact hn749_8) (.int .i64 t742)).trans hx749_1; replace hx749_2 := (cell_far (p := ⟨gb748, 8, none⟩) (by first | (rw [add_block]; exact hn749_8) | (show (Addr.add _ _).block ≠ _; rw [add_block]; exact hn749_8) | exact hn749_8) (.int .i64 t742)).trans hx749_2; replace hx749_3 := (cell_far (p := ⟨gb748, 8, none⟩) (by first | (rw [add_block]; exact hn749_8) | (show (Addr.add _ _).block ≠ _; rw [add_block]; exact hn749_8) | exact hn749_8) (.int .i64 t742)).trans hx749_3; replace hx749_4 := (cell_far (p := ⟨gb748, 8, none⟩) (by first | (rw [add_block]; exact hn749_8) | (show (Addr.add _ _).block ≠ _; rw [add_block]; exact hn749_8) | exact hn749_8) (.int .i64 t742)).trans hx749_4; replace hx749_5 := (cell_far (p := ⟨gb748, 8, none⟩) (by first | (rw [add_block]; exact hn749_8) | (show (Addr.add _ _).block ≠ _; rw [add_block]; exact hn749_8) | exact hn749_8) (.int .i64 t742)).trans hx749_5; replace hx749_6 := (cell_far (p := ⟨gb748, 8, none⟩) (by first | (rw [add_block]; exact hn749_8) | (show (Addr.add _ _).block ≠ _; rw [add_block]; exact hn749_8) | exact hn749_8) (.int .i64 t742)).trans hx749_6; replace hx749_7 := (cell_far (p := ⟨gb748, 8, none⟩) (by first | (rw [add_block]; exact hn749_8) | (show (Addr.add _ _).block ≠ _; rw [add_block]; exact hn749_8) | exact hn749_8) (.int .i64 t742)).trans hx749_7; replace hx749_0 := (cell_far (p := ⟨gb748, 9, none⟩) (by first | (rw [add_block]; exact hn749_9) | (show (Addr.add _ _).block ≠ _; rw [add_block]; exact hn749_9) | exact hn749_9) (.int .i64 t743)).trans hx749_0; replace hx749_1 := (cell_far (p := ⟨gb748, 9, none⟩) (by first | (rw [add_block]; exact hn749_9) | (show (Addr.add _ _).block ≠ _; rw [add_block]; exact hn749_9) | exact hn749_9) (.int .i64 t743)).trans hx749_1; replace hx749_2 := (cell_far (p := ⟨gb748, 9, none⟩) (by first | (rw [add_block]; exact hn749_9) | (show (Addr.add _ _).block ≠ _; rw [add_block]; exact hn749_9) | exact hn749_9) (.int .i64 t743)).trans hx749_2; replace hx749_3 := (cell_far (p := ⟨gb748, 9, none⟩) (by first | (rw [add_block]; exact hn749_9) | (show (Addr.add _ _).block ≠ _; rw [add_block]; exact hn749_9) | exact hn749_9) (.int .i64 t743)).trans hx749_3; replace hx749_4 := (cell_far (p := ⟨gb748, 9, none⟩) (by first | (rw [add_block]; exact hn749_9) | (show (Addr.add _ _).block ≠ _; rw [add_block]; exact hn749_9) | exact hn749_9) (.int .i64 t743)).trans hx749_4; replace hx749_5 := (cell_far (p := ⟨gb748, 9, none⟩) (by first | (rw [add_block]; exact hn749_9) | (show (Addr.add _ _).block ≠ _; rw [add_block]; exact hn749_9) | exact hn749_9) (.int .i64 t743)).trans hx749_5; replace hx749_6 := (cell_far (p := ⟨gb748, 9, none⟩) (by first | (rw [add_block]; exact hn749_9) | (show (Addr.add _ _).block ≠ _; rw [add_block]; exact hn749_9) | exact hn749_9) (.int .i64 t743)).trans hx749_6; replace hx749_7 := (cell_far (p := ⟨gb748, 9, none⟩) (by first | (rw [add_block]; exact hn749_9) | (show (Addr.add _ _).block ≠ _; rw [add_block]; exact hn749_9) | exact hn749_9) (.int .i64 t743)).trans hx749_7; replace hx749_0 := (cell_far (p := ⟨gb748, 10, none⟩) (by first | (rw [add_block]; exact hn749_10) | (show (Addr.add _ _).block ≠ _; rw [add_block]; exact hn749_10) | exact hn749_10) (.int .i64 t744)).trans hx749_0; replace hx749_1 := (cell_far (p := ⟨gb748, 10, none⟩) (by first | (rw [add_block]; exact hn749_10) | (show (Addr.add _ _).block ≠ _; rw [add_block]; exact hn749_10) | exact hn749_10) (.int .i64 t744)).trans hx749_1; replace hx749_2 := (cell_far (p := ⟨gb748, 10, none⟩) (by first | (rw [add_block]; exact hn749_10) | (show (Addr.add _ _).block ≠ _; rw [add_block]; exact hn749_10) | exact hn749_10) (.int .i64 t744)).trans hx749_2; replace hx749_3 := (cell_far (p := ⟨gb748, 10, none⟩) (by first | (rw [add_block]; exact hn749_10) | (show (Addr.add _ _).block ≠ _; rw [add_block]; exact hn749_10) | exact hn749_10) (.int .i64 t744)).trans hx749_3; replace hx749_4 := (cell_far (p := ⟨gb748, 10, none⟩) (by first | (rw [add_block]; exact hn749_10) | (show (Addr.add _ _).block ≠ _; rw [add_block]; exact hn749_10) | exact hn749_10) (.int .i64 t744)).trans hx749_4; replace hx749_5 := (cell_far (p := ⟨gb748, 10, none⟩) (by first | (rw [add_block]; exact hn749_10) | (show (Addr.add _ _).block ≠ _; rw [add_block]; exact hn749_10) | exact hn749_10) (.int .i64 t744)).trans hx749_5; replace hx749_6 := (cell_far (p := ⟨gb748, 10, none⟩) (by first | (rw [add_block]; exact hn749_10) | (show (Addr.add _ _).block ≠ _; rw [add_block]; exact hn749_10) | exact hn749_10) (.int .i64 t744)).trans hx749_6; replace hx749_7 := (cell_far (p := ⟨gb748, 10, none⟩) (by first | (rw [add_block]; exact hn749_10) | (show (Addr.add _ _).block ≠ _; rw [add_block]; exact hn749_10) | exact hn749_10) (.int .i64 t744)).trans hx749_7; replace hx749_0 := (cell_far (p := ⟨gb748, 11, none⟩) (by first | (rw [add_block]; exact hn749_11) | (show (Addr.add _ _).block ≠ _; rw [add_block]; exact hn749_11) | exact hn749_11) (.int .i64 t745)).trans hx749_0; replace hx749_1 := (cell_far (p := ⟨gb748, 11, none⟩) (by first | (rw [add_block]; exact hn749_11) | (show (Addr.add _ _).block ≠ _; rw [add_block]; exact hn749_11) | exact hn749_11) (.int .i64 t745)).trans hx749_1; replace hx749_2 := (cell_far (p := ⟨gb748, 11, none⟩) (by first | (rw [add_block]; exact hn749_11) | (show (Addr.add _ _).block ≠ _; rw [add_block]; exact hn749_11) | exact hn749_11) (.int .i64 t745)).trans hx749_2; replace hx749_3 := (cell_far (p := ⟨gb748, 11, none⟩) (by first | (rw [add_block]; exact hn749_11) | (show (Addr.add _ _).block ≠ _; rw [add_block]; exact hn749_11) | exact hn749_11) (.int .i64 t745)).trans hx749_3; replace hx749_4 := (cell_far (p := ⟨gb748, 11, none⟩) (by first | (rw [add_block]; exact hn749_11) | (show (Addr.add _ _).block ≠ _; rw [add_block]; exact hn749_11) | exact hn749_11) (.int .i64 t745)).trans hx749_4; replace hx749_5 := (cell_far (p := ⟨gb748, 11, none⟩) (by first | (rw [add_block]; exact hn749_11) | (show (Addr.add _ _).block ≠ _; rw [add_block]; exact hn749_11) | exact hn749_11) (.int .i64 t745)).trans hx749_5; replace hx749_6 := (cell_far (p := ⟨gb748, 11, none⟩) (by first | (rw [add_block]; exact hn749_11) | (show (Addr.add _ _).block ≠ _; rw [add_block]; exact hn749_11) | exact hn749_11) (.int .i64 t745)).trans hx749_6; replace hx749_7 := (cell_far (p := ⟨gb748, 11, none⟩) (by first | (rw [add_block]; exact hn749_11) | (show (Addr.add _ _).block ≠ _; rw [add_block]; exact hn749_11) | exact hn749_11) (.int .i64 t745)).trans hx749_7; replace hx749_0 := (cell_far (p := ⟨gb748, 12, none⟩) (by first | (rw [add_block]; exact hn749_12) | (show (Addr.add _ _).block ≠ _; rw [add_block]; exact hn749_12) | exact hn749_12) (.int .i64 t746)).trans hx749_0; replace hx749_1 := (cell_far (p := ⟨gb748, 12, none⟩) (by first | (rw [add_block]; exact hn749_12) | (show (Addr.add _ _).block ≠ _; rw [add_block]; exact hn749_12) | exact hn749_12) (.int .i64 t746)).trans hx749_1; replace hx749_2 := (cell_far (p := ⟨gb748, 12, none⟩) (by first | (rw [add_block]; exact hn749_12) | (show (Addr.add _ _).block ≠ _; rw [add_block]; exact hn749_12) | exact hn749_12) (.int .i64 t746)).trans hx749_2; replace hx749_3 := (cell_far (p := ⟨gb748, 12, none⟩) (by first | (rw [add_block]; exact hn749_12) | (show (Addr.add _ _).block ≠ _; rw [add_block]; exact hn749_12) | exact hn749_12) (.int .i64 t746)).trans hx749_3; replace hx749_4 := (cell_far (p := ⟨gb748, 12, none⟩) (by first | (rw [add_block]; exact hn749_12) | (show (Addr.add _ _).block ≠ _; rw [add_block]; exact hn749_12) | exact hn749_12) (.int .i64 t746)).trans hx749_4; replace hx749_5 := (cell_far (p := ⟨gb748, 12, none⟩) (by first | (rw [add_block]; exact hn749_12) | (show (Addr.add _ _).block ≠ _; rw [add_block]; exact hn749_12) | exact hn749_12) (.int .i64 t746)).trans hx749_5; replace hx749_6 := (cell_far (p := ⟨gb748, 12, none⟩) (by first | (rw [add_block]; exact hn749_12) | (show (Addr.add _ _).block ≠ _; rw [add_block]; exact hn749_12) | exact hn749_12) (.int .i64 t746)).trans hx749_6; replace hx749_7 := (cell_far (p := ⟨gb748, 12, none⟩) (by first | (rw [add_block]; exact hn749_12) | (show (Addr.add _ _).block ≠ _; rw [add_block]; exact hn749_12) | exact hn749_12) (.int .i64 t746)).trans hx749_7; clear hn749_0; clear hn749_1; clear hn749_2; clear hn749_3; clear hn749_4; clear hn749_5; clear hn749_6; clear hn749_7; clear hn749_8; clear hn749_9; clear hn749_10; clear hn749_11; clear hn749_12; replace p749 := eq_true p749; replace q749 := eq_true q749))
                        go_ret
                        exact ⟨by first | rfl | (simp [errW_none, errW_some] <;> rfl) | (simp [*, errW_none, errW_some] <;> rfl), by repeat (first | (with_reducible first | exact HB.out | apply below_alloc | apply pw_below_drewN | apply below_drew1 | refine below_set ?_ GE680.out | refine below_set ?_ GE712.out | refine below_set ?_ GE729.out | refine below_set ?_ GE748.out) | exact HB.out)⟩
                      · rw [if_neg c68] at H
                        exact absurd H (by simp)
                · rw [if_neg c51] at H
                  exact absurd H (by simp)
              · rw [if_neg c50] at H
                exact absurd H (by simp)
            · rw [if_neg c49] at H
              exact absurd H (by simp)
          · rw [if_neg c48] at H
            exact absurd H (by simp)
  · replace c5 := Bool.eq_false_iff.mpr c5
    subst c5
    have H1 : (none) = some r := by rw [if_neg (show ¬ (false = true) by decide)] at H; exact H
    clear H
    have H := H1
    clear H1
    exact absurd H (by simp)

/-- THE ONE PURE STATEMENT of paybooklaw13_AccountSkips: yours. -/
def paybooklaw13_AccountSkips.Pure : Prop := ∀ (a0 : Int) (a1 : Int) (a2 : Int), (Lit.int .u8 a0).wf = true → (Lit.int .u16 a1).wf = true → (Lit.int .u8 a2).wf = true → ∃ k, paybooklaw13_AccountSkips.f k a0 a1 a2 = some true
theorem paybooklaw13_AccountSkips.walk (P : paybooklaw13_AccountSkips.Pure) (a0 : Int) (a1 : Int) (a2 : Int) (w : World) (w0 : (Lit.int .u8 a0).wf = true) (w1 : (Lit.int .u16 a1).wf = true) (w2 : (Lit.int .u8 a2).wf = true) :
    Calls Try.prog 6 #[.int .u8 a0, .int .u16 a1, .int .u8 a2] w fun e w' => e = .returned (.bool true) ∧ Below w.heap.size w w' := by
  obtain ⟨k, h⟩ := P a0 a1 a2 w0 w1 w2
  refine (paybooklaw13_AccountSkips.calls k a0 a1 a2 true w h).mono ?_
  rintro e w' ⟨rfl, hd⟩
  exact ⟨rfl, hd⟩

end Go.Proofs.Ytnpcodfeggcdbaa.PAcc
