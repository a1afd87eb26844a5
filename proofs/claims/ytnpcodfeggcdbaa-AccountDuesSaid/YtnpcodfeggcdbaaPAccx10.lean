-- Laid by wip/prt.py over the kit's print (Acc).
import Derived.Test.YtnpcodfeggcdbaaPAccx0
import Derived.Test.YtnpcodfeggcdbaaPAccx1
import Derived.Test.YtnpcodfeggcdbaaPAccx5
import Derived.Test.YtnpcodfeggcdbaaPAccx6
import Derived.Test.YtnpcodfeggcdbaaPAccx9
namespace Go.Proofs.Ytnpcodfeggcdbaa.PAcc
open Go.RowKit Go.Proofs.YtnpcodfeggcdbaaW.PrintWords Go.Proofs.YtnpcodfeggcdbaaW.PrintLast Go.Proofs.YtnpcodfeggcdbaaW.PrintMore
attribute [local go_sem] max2_int min2_int max_two min_two max_three min_three max_four min_four   -- for this text's walks alone
set_option linter.unusedVariables false
set_option linter.unusedSimpArgs false

theorem cf_paybooklaw13_AccountDues (g : Nat) {W : World} {o : Nat} {a : Addr} (h : a.block ≠ (⟨g, o, none⟩ : Addr).block) (u : Value) : (W.setCell ⟨g, o, none⟩ u).cell? a = W.cell? a := cell_far h u
/-! ### paybooklaw13_AccountDues: function 5 -/
mutual
def paybooklaw13_AccountDues.j0 : Nat → Int → Int → Bool → Int → Int → Int → Int → Bool → Bool → Int → Int → Int → Int → Int → Int → Bool → List (S37) → Int → Int → Int → Int → Int → Option (Bool)
  | 0, _, _, _, _, _, _, _, _, _, _, _, _, _, _, _, _, _, _, _, _, _, _ => none
  | k + 1, x2, x8, x54, x603000, x603001, x603002, x603003, x603004, x603005, x635000, x635001, x635002, x635003, x635004, x635005, x635006, x635007, x635008, x635009, x635010, x635011, x635012 => if x54 = true then (none) else (paybooklaw13_AccountDues.l0 k x2 x8 0 x603000 x603001 x603002 x603003 x603004 x603005 x635000 x635001 x635002 x635003 x635004 x635005 x635006 x635007 x635008 x635009 x635010 x635011 x635012)
def paybooklaw13_AccountDues.l0 : Nat → Int → Int → Int → Int → Int → Int → Int → Bool → Bool → Int → Int → Int → Int → Int → Int → Bool → List (S37) → Int → Int → Int → Int → Int → Option (Bool)
  | 0, _, _, _, _, _, _, _, _, _, _, _, _, _, _, _, _, _, _, _, _, _, _ => none
  | k + 1, x2, x8, x11, x603000, x603001, x603002, x603003, x603004, x603005, x635000, x635001, x635002, x635003, x635004, x635005, x635006, x635007, x635008, x635009, x635010, x635011, x635012 => if x11 < (x635007.length : Int) then ((paybookref01_Nth.f k (wrap64 (x8 + x603003)) x603001 x603002 x11).bind fun bt635 => (if bt635.2 = true then (if 0 ≤ x11 then (if ((rd_T37 x635007 x11).f0) = x11 then (if ((rd_T37 x635007 x11).f1) = bt635.1 then (if bt635.1 > (wrap64 (x8 + (wrap64 (x2)))) then (none) else (paybooklaw13_AccountDues.l0 k x2 x8 (wrap64 (x11 + 1)) x603000 x603001 x603002 x603003 x603004 x603005 x635000 x635001 x635002 x635003 x635004 x635005 x635006 x635007 x635008 x635009 x635010 x635011 x635012)) else (none)) else (none)) else (none)) else (none))) else ((paybookref01_Nth.f k (wrap64 (x8 + x603003)) x603001 x603002 x635004).bind fun bt639 => (if bt639.2 = true then (some (decide (bt639.1 > (wrap64 (x8 + (wrap64 (x2))))))) else (none)))
end
def paybooklaw13_AccountDues.f (k : Nat) (a0 : Int) (a1 : Int) (a2 : Int) : Option (Bool) := (paybooklaw13_awake.f k).bind fun t595 => (if t595 = true then ((paybookref12_Plan.f a0).bind fun bt596 => ((account_Open.f 0 9 bt596.2.1 bt596.2.2.1 bt596.2.2.2.1 true false (wrap64 (700000 + (wrap64 (a1))))).bind fun bt603 => ((account_Day.f k bt603.1 bt603.2.1 bt603.2.2.1 bt603.2.2.2.1 bt603.2.2.2.2.1 bt603.2.2.2.2.2.1 bt603.2.2.2.2.2.2.1 bt603.2.2.2.2.2.2.2.1 bt603.2.2.2.2.2.2.2.2.1 bt603.2.2.2.2.2.2.2.2.2.1 bt603.2.2.2.2.2.2.2.2.2.2.1 bt603.2.2.2.2.2.2.2.2.2.2.2.1 bt603.2.2.2.2.2.2.2.2.2.2.2.2 9 bt596.2.1 bt596.2.2.1 bt596.2.2.2.1 true false (wrap64 ((wrap64 (700000 + (wrap64 (a1)))) + (wrap64 (a2))))).bind fun bt618 => (if bt618.2.2.2.2.2.2.2.2.2.2.2.2.2 = 0 then (if (bt618.2.2.2.2.2.2.2.1.length : Int) = bt618.2.2.2.2.1 then (paybooklaw13_AccountDues.j0 k a2 (wrap64 (700000 + (wrap64 (a1)))) (bt618.2.2.2.1 != bt618.2.2.2.2.1) 9 bt596.2.1 bt596.2.2.1 bt596.2.2.2.1 true false bt618.1 bt618.2.1 bt618.2.2.1 bt618.2.2.2.1 bt618.2.2.2.2.1 bt618.2.2.2.2.2.1 bt618.2.2.2.2.2.2.1 bt618.2.2.2.2.2.2.2.1 bt618.2.2.2.2.2.2.2.2.1 bt618.2.2.2.2.2.2.2.2.2.1 bt618.2.2.2.2.2.2.2.2.2.2.1 bt618.2.2.2.2.2.2.2.2.2.2.2.1 bt618.2.2.2.2.2.2.2.2.2.2.2.2.1) else (paybooklaw13_AccountDues.j0 k a2 (wrap64 (700000 + (wrap64 (a1)))) true 9 bt596.2.1 bt596.2.2.1 bt596.2.2.2.1 true false bt618.1 bt618.2.1 bt618.2.2.1 bt618.2.2.2.1 bt618.2.2.2.2.1 bt618.2.2.2.2.2.1 bt618.2.2.2.2.2.2.1 bt618.2.2.2.2.2.2.2.1 bt618.2.2.2.2.2.2.2.2.1 bt618.2.2.2.2.2.2.2.2.2.1 bt618.2.2.2.2.2.2.2.2.2.2.1 bt618.2.2.2.2.2.2.2.2.2.2.2.1 bt618.2.2.2.2.2.2.2.2.2.2.2.2.1)) else (paybooklaw13_AccountDues.j0 k a2 (wrap64 (700000 + (wrap64 (a1)))) true 9 bt596.2.1 bt596.2.2.1 bt596.2.2.2.1 true false bt618.1 bt618.2.1 bt618.2.2.1 bt618.2.2.2.1 bt618.2.2.2.2.1 bt618.2.2.2.2.2.1 bt618.2.2.2.2.2.2.1 bt618.2.2.2.2.2.2.2.1 bt618.2.2.2.2.2.2.2.2.1 bt618.2.2.2.2.2.2.2.2.2.1 bt618.2.2.2.2.2.2.2.2.2.2.1 bt618.2.2.2.2.2.2.2.2.2.2.2.1 bt618.2.2.2.2.2.2.2.2.2.2.2.2.1))))) else (none))
theorem paybooklaw13_AccountDues.mono_l : ∀ k, (∀ y0 y1 y2 y3 y4 y5 y6 y7 y8 y9 y10 y11 y12 y13 y14 y15 y16 y17 y18 y19 y20 y21, LeO (paybooklaw13_AccountDues.j0 k y0 y1 y2 y3 y4 y5 y6 y7 y8 y9 y10 y11 y12 y13 y14 y15 y16 y17 y18 y19 y20 y21) (paybooklaw13_AccountDues.j0 (k + 1) y0 y1 y2 y3 y4 y5 y6 y7 y8 y9 y10 y11 y12 y13 y14 y15 y16 y17 y18 y19 y20 y21)) ∧ (∀ y0 y1 y2 y3 y4 y5 y6 y7 y8 y9 y10 y11 y12 y13 y14 y15 y16 y17 y18 y19 y20 y21, LeO (paybooklaw13_AccountDues.l0 k y0 y1 y2 y3 y4 y5 y6 y7 y8 y9 y10 y11 y12 y13 y14 y15 y16 y17 y18 y19 y20 y21) (paybooklaw13_AccountDues.l0 (k + 1) y0 y1 y2 y3 y4 y5 y6 y7 y8 y9 y10 y11 y12 y13 y14 y15 y16 y17 y18 y19 y20 y21))
  | 0 => ⟨fun _ _ _ _ _ _ _ _ _ _ _ _ _ _ _ _ _ _ _ _ _ _ r h => by simp [paybooklaw13_AccountDues.j0] at h, fun _ _ _ _ _ _ _ _ _ _ _ _ _ _ _ _ _ _ _ _ _ _ r h => by simp [paybooklaw13_AccountDues.l0] at h⟩
  | k + 1 => by
    obtain ⟨ih0, ih1⟩ := paybooklaw13_AccountDues.mono_l k
    refine ⟨?_, ?_⟩
    · intro y0 y1 y2 y3 y4 y5 y6 y7 y8 y9 y10 y11 y12 y13 y14 y15 y16 y17 y18 y19 y20 y21
      unfold paybooklaw13_AccountDues.j0
      repeat' first
      | (with_reducible exact ih0 _ _ _ _ _ _ _ _ _ _ _ _ _ _ _ _ _ _ _ _ _ _)
      | (with_reducible exact ih1 _ _ _ _ _ _ _ _ _ _ _ _ _ _ _ _ _ _ _ _ _ _)
      | (with_reducible exact account_Day.mono _ _ _ _ _ _ _ _ _ _ _ _ _ _ _ _ _ _ _ _ _)
      | (with_reducible exact paybooklaw13_awake.mono _)
      | (with_reducible exact paybookref01_Nth.mono _ _ _ _ _)
      | (with_reducible exact LeO.refl _)
      | (with_reducible exact LeO.none _)
      | (with_reducible refine LeO.ite ?_ ?_)
      | (with_reducible refine LeO.bind ?_ (fun _ => ?_))
      | exact ih0 _ _ _ _ _ _ _ _ _ _ _ _ _ _ _ _ _ _ _ _ _ _
      | exact ih1 _ _ _ _ _ _ _ _ _ _ _ _ _ _ _ _ _ _ _ _ _ _
      | exact account_Day.mono _ _ _ _ _ _ _ _ _ _ _ _ _ _ _ _ _ _ _ _ _
      | exact paybooklaw13_awake.mono _
      | exact paybookref01_Nth.mono _ _ _ _ _
      | exact LeO.none _
      | refine LeO.ite ?_ ?_
      | refine LeO.bind ?_ (fun _ => ?_)
    · intro y0 y1 y2 y3 y4 y5 y6 y7 y8 y9 y10 y11 y12 y13 y14 y15 y16 y17 y18 y19 y20 y21
      unfold paybooklaw13_AccountDues.l0
      repeat' first
      | (with_reducible exact ih0 _ _ _ _ _ _ _ _ _ _ _ _ _ _ _ _ _ _ _ _ _ _)
      | (with_reducible exact ih1 _ _ _ _ _ _ _ _ _ _ _ _ _ _ _ _ _ _ _ _ _ _)
      | (with_reducible exact account_Day.mono _ _ _ _ _ _ _ _ _ _ _ _ _ _ _ _ _ _ _ _ _)
      | (with_reducible exact paybooklaw13_awake.mono _)
      | (with_reducible exact paybookref01_Nth.mono _ _ _ _ _)
      | (with_reducible exact LeO.refl _)
      | (with_reducible exact LeO.none _)
      | (with_reducible refine LeO.ite ?_ ?_)
      | (with_reducible refine LeO.bind ?_ (fun _ => ?_))
      | exact ih0 _ _ _ _ _ _ _ _ _ _ _ _ _ _ _ _ _ _ _ _ _ _
      | exact ih1 _ _ _ _ _ _ _ _ _ _ _ _ _ _ _ _ _ _ _ _ _ _
      | exact account_Day.mono _ _ _ _ _ _ _ _ _ _ _ _ _ _ _ _ _ _ _ _ _
      | exact paybooklaw13_awake.mono _
      | exact paybookref01_Nth.mono _ _ _ _ _
      | exact LeO.none _
      | refine LeO.ite ?_ ?_
      | refine LeO.bind ?_ (fun _ => ?_)
theorem paybooklaw13_AccountDues.mono : ∀ a0 a1 a2 k, LeO (paybooklaw13_AccountDues.f k a0 a1 a2) (paybooklaw13_AccountDues.f (k + 1) a0 a1 a2) := by
  intro a0 a1 a2 k
  obtain ⟨ih0, ih1⟩ := paybooklaw13_AccountDues.mono_l k
  unfold paybooklaw13_AccountDues.f
  repeat' first
      | (with_reducible exact ih0 _ _ _ _ _ _ _ _ _ _ _ _ _ _ _ _ _ _ _ _ _ _)
      | (with_reducible exact ih1 _ _ _ _ _ _ _ _ _ _ _ _ _ _ _ _ _ _ _ _ _ _)
      | (with_reducible exact account_Day.mono _ _ _ _ _ _ _ _ _ _ _ _ _ _ _ _ _ _ _ _ _)
      | (with_reducible exact paybooklaw13_awake.mono _)
      | (with_reducible exact paybookref01_Nth.mono _ _ _ _ _)
      | (with_reducible exact LeO.refl _)
      | (with_reducible exact LeO.none _)
      | (with_reducible refine LeO.ite ?_ ?_)
      | (with_reducible refine LeO.bind ?_ (fun _ => ?_))
      | exact ih0 _ _ _ _ _ _ _ _ _ _ _ _ _ _ _ _ _ _ _ _ _ _
      | exact ih1 _ _ _ _ _ _ _ _ _ _ _ _ _ _ _ _ _ _ _ _ _ _
      | exact account_Day.mono _ _ _ _ _ _ _ _ _ _ _ _ _ _ _ _ _ _ _ _ _
      | exact paybooklaw13_awake.mono _
      | exact paybookref01_Nth.mono _ _ _ _ _
      | exact LeO.none _
      | refine LeO.ite ?_ ?_
      | refine LeO.bind ?_ (fun _ => ?_)
def paybooklaw13_AccountDues.T8 : Bool × List (List Nat × List Nat) := (true, [([], []), ([], []), ([0, 1], [0, 1]), ([], []), ([], []), ([], []), ([5], [5]), ([4, 6], [4, 6]), ([2, 3, 7, 2], [2, 3, 7]), ([8], [8]), ([9], [9]), ([9], [9]), ([], []), ([12, 10, 8, 0, 1, 2, 3, 4, 5, 6, 7, 8, 9, 10, 12], [10, 12]), ([11, 13, 0, 1, 2, 3, 4, 5, 6, 7, 8, 9, 10, 11, 12, 13], [11])])
def paybooklaw13_AccountDues.B8 : List Nat := [0, 0, 3, 0, 0, 0, 32, 112, 255, 511, 1023, 1023, 0, 6143, 16383]
theorem paybooklaw13_AccountDues.tab8 : rtab .any (opsOf Try.f5 8) = paybooklaw13_AccountDues.T8 := by kernel_rfl
theorem paybooklaw13_AccountDues.bits8 : waitsOk paybooklaw13_AccountDues.T8.2 paybooklaw13_AccountDues.B8 = true := by kernel_rfl
set_option maxHeartbeats 3000000 in
set_option maxRecDepth 100000 in
theorem paybooklaw13_AccountDues.calls (k : Nat) (a0 : Int) (a1 : Int) (a2 : Int) (r : Bool) (w : World) (h : paybooklaw13_AccountDues.f k a0 a1 a2 = some r) :
    Calls Try.prog 5 #[.int .u8 a0, .int .u16 a1, .int .u8 a2] w fun e w' => e = .returned (.bool r) ∧ Below w.heap.size w w' := by
  have hu25 := Try.underlying25
  have hu31 := Try.underlying31
  have HB := Aside0.mk (Below.refl w.heap.size w)
  have H : ((paybooklaw13_awake.f k).bind fun t595 => (if t595 = true then ((paybookref12_Plan.f a0).bind fun bt596 => ((account_Open.f 0 9 bt596.2.1 bt596.2.2.1 bt596.2.2.2.1 true false (wrap64 (700000 + (wrap64 (a1))))).bind fun bt603 => ((account_Day.f k bt603.1 bt603.2.1 bt603.2.2.1 bt603.2.2.2.1 bt603.2.2.2.2.1 bt603.2.2.2.2.2.1 bt603.2.2.2.2.2.2.1 bt603.2.2.2.2.2.2.2.1 bt603.2.2.2.2.2.2.2.2.1 bt603.2.2.2.2.2.2.2.2.2.1 bt603.2.2.2.2.2.2.2.2.2.2.1 bt603.2.2.2.2.2.2.2.2.2.2.2.1 bt603.2.2.2.2.2.2.2.2.2.2.2.2 9 bt596.2.1 bt596.2.2.1 bt596.2.2.2.1 true false (wrap64 ((wrap64 (700000 + (wrap64 (a1)))) + (wrap64 (a2))))).bind fun bt618 => (if bt618.2.2.2.2.2.2.2.2.2.2.2.2.2 = 0 then (if (bt618.2.2.2.2.2.2.2.1.length : Int) = bt618.2.2.2.2.1 then (paybooklaw13_AccountDues.j0 k a2 (wrap64 (700000 + (wrap64 (a1)))) (bt618.2.2.2.1 != bt618.2.2.2.2.1) 9 bt596.2.1 bt596.2.2.1 bt596.2.2.2.1 true false bt618.1 bt618.2.1 bt618.2.2.1 bt618.2.2.2.1 bt618.2.2.2.2.1 bt618.2.2.2.2.2.1 bt618.2.2.2.2.2.2.1 bt618.2.2.2.2.2.2.2.1 bt618.2.2.2.2.2.2.2.2.1 bt618.2.2.2.2.2.2.2.2.2.1 bt618.2.2.2.2.2.2.2.2.2.2.1 bt618.2.2.2.2.2.2.2.2.2.2.2.1 bt618.2.2.2.2.2.2.2.2.2.2.2.2.1) else (paybooklaw13_AccountDues.j0 k a2 (wrap64 (700000 + (wrap64 (a1)))) true 9 bt596.2.1 bt596.2.2.1 bt596.2.2.2.1 true false bt618.1 bt618.2.1 bt618.2.2.1 bt618.2.2.2.1 bt618.2.2.2.2.1 bt618.2.2.2.2.2.1 bt618.2.2.2.2.2.2.1 bt618.2.2.2.2.2.2.2.1 bt618.2.2.2.2.2.2.2.2.1 bt618.2.2.2.2.2.2.2.2.2.1 bt618.2.2.2.2.2.2.2.2.2.2.1 bt618.2.2.2.2.2.2.2.2.2.2.2.1 bt618.2.2.2.2.2.2.2.2.2.2.2.2.1)) else (paybooklaw13_AccountDues.j0 k a2 (wrap64 (700000 + (wrap64 (a1)))) true 9 bt596.2.1 bt596.2.2.1 bt596.2.2.2.1 true false bt618.1 bt618.2.1 bt618.2.2.1 bt618.2.2.2.1 bt618.2.2.2.2.1 bt618.2.2.2.2.2.1 bt618.2.2.2.2.2.2.1 bt618.2.2.2.2.2.2.2.1 bt618.2.2.2.2.2.2.2.2.1 bt618.2.2.2.2.2.2.2.2.2.1 bt618.2.2.2.2.2.2.2.2.2.2.1 bt618.2.2.2.2.2.2.2.2.2.2.2.1 bt618.2.2.2.2.2.2.2.2.2.2.2.2.1))))) else (none))) = some r := h
  clear h
  replace H := Option.bind_eq_some_iff.mp H
  obtain ⟨t595, A40, H⟩ := H
  replace H : (if t595 = true then ((paybookref12_Plan.f a0).bind fun bt596 => ((account_Open.f 0 9 bt596.2.1 bt596.2.2.1 bt596.2.2.2.1 true false (wrap64 (700000 + (wrap64 (a1))))).bind fun bt603 => ((account_Day.f k bt603.1 bt603.2.1 bt603.2.2.1 bt603.2.2.2.1 bt603.2.2.2.2.1 bt603.2.2.2.2.2.1 bt603.2.2.2.2.2.2.1 bt603.2.2.2.2.2.2.2.1 bt603.2.2.2.2.2.2.2.2.1 bt603.2.2.2.2.2.2.2.2.2.1 bt603.2.2.2.2.2.2.2.2.2.2.1 bt603.2.2.2.2.2.2.2.2.2.2.2.1 bt603.2.2.2.2.2.2.2.2.2.2.2.2 9 bt596.2.1 bt596.2.2.1 bt596.2.2.2.1 true false (wrap64 ((wrap64 (700000 + (wrap64 (a1)))) + (wrap64 (a2))))).bind fun bt618 => (if bt618.2.2.2.2.2.2.2.2.2.2.2.2.2 = 0 then (if (bt618.2.2.2.2.2.2.2.1.length : Int) = bt618.2.2.2.2.1 then (paybooklaw13_AccountDues.j0 k a2 (wrap64 (700000 + (wrap64 (a1)))) (bt618.2.2.2.1 != bt618.2.2.2.2.1) 9 bt596.2.1 bt596.2.2.1 bt596.2.2.2.1 true false bt618.1 bt618.2.1 bt618.2.2.1 bt618.2.2.2.1 bt618.2.2.2.2.1 bt618.2.2.2.2.2.1 bt618.2.2.2.2.2.2.1 bt618.2.2.2.2.2.2.2.1 bt618.2.2.2.2.2.2.2.2.1 bt618.2.2.2.2.2.2.2.2.2.1 bt618.2.2.2.2.2.2.2.2.2.2.1 bt618.2.2.2.2.2.2.2.2.2.2.2.1 bt618.2.2.2.2.2.2.2.2.2.2.2.2.1) else (paybooklaw13_AccountDues.j0 k a2 (wrap64 (700000 + (wrap64 (a1)))) true 9 bt596.2.1 bt596.2.2.1 bt596.2.2.2.1 true false bt618.1 bt618.2.1 bt618.2.2.1 bt618.2.2.2.1 bt618.2.2.2.2.1 bt618.2.2.2.2.2.1 bt618.2.2.2.2.2.2.1 bt618.2.2.2.2.2.2.2.1 bt618.2.2.2.2.2.2.2.2.1 bt618.2.2.2.2.2.2.2.2.2.1 bt618.2.2.2.2.2.2.2.2.2.2.1 bt618.2.2.2.2.2.2.2.2.2.2.2.1 bt618.2.2.2.2.2.2.2.2.2.2.2.2.1)) else (paybooklaw13_AccountDues.j0 k a2 (wrap64 (700000 + (wrap64 (a1)))) true 9 bt596.2.1 bt596.2.2.1 bt596.2.2.2.1 true false bt618.1 bt618.2.1 bt618.2.2.1 bt618.2.2.2.1 bt618.2.2.2.2.1 bt618.2.2.2.2.2.1 bt618.2.2.2.2.2.2.1 bt618.2.2.2.2.2.2.2.1 bt618.2.2.2.2.2.2.2.2.1 bt618.2.2.2.2.2.2.2.2.2.1 bt618.2.2.2.2.2.2.2.2.2.2.1 bt618.2.2.2.2.2.2.2.2.2.2.2.1 bt618.2.2.2.2.2.2.2.2.2.2.2.2.1))))) else (none)) = some r := H
  have A4 := Aside0.mk A40
  clear A40
  by_cases c5 : t595 = true
  · subst c5
    have H1 : ((paybookref12_Plan.f a0).bind fun bt596 => ((account_Open.f 0 9 bt596.2.1 bt596.2.2.1 bt596.2.2.2.1 true false (wrap64 (700000 + (wrap64 (a1))))).bind fun bt603 => ((account_Day.f k bt603.1 bt603.2.1 bt603.2.2.1 bt603.2.2.2.1 bt603.2.2.2.2.1 bt603.2.2.2.2.2.1 bt603.2.2.2.2.2.2.1 bt603.2.2.2.2.2.2.2.1 bt603.2.2.2.2.2.2.2.2.1 bt603.2.2.2.2.2.2.2.2.2.1 bt603.2.2.2.2.2.2.2.2.2.2.1 bt603.2.2.2.2.2.2.2.2.2.2.2.1 bt603.2.2.2.2.2.2.2.2.2.2.2.2 9 bt596.2.1 bt596.2.2.1 bt596.2.2.2.1 true false (wrap64 ((wrap64 (700000 + (wrap64 (a1)))) + (wrap64 (a2))))).bind fun bt618 => (if bt618.2.2.2.2.2.2.2.2.2.2.2.2.2 = 0 then (if (bt618.2.2.2.2.2.2.2.1.length : Int) = bt618.2.2.2.2.1 then (paybooklaw13_AccountDues.j0 k a2 (wrap64 (700000 + (wrap64 (a1)))) (bt618.2.2.2.1 != bt618.2.2.2.2.1) 9 bt596.2.1 bt596.2.2.1 bt596.2.2.2.1 true false bt618.1 bt618.2.1 bt618.2.2.1 bt618.2.2.2.1 bt618.2.2.2.2.1 bt618.2.2.2.2.2.1 bt618.2.2.2.2.2.2.1 bt618.2.2.2.2.2.2.2.1 bt618.2.2.2.2.2.2.2.2.1 bt618.2.2.2.2.2.2.2.2.2.1 bt618.2.2.2.2.2.2.2.2.2.2.1 bt618.2.2.2.2.2.2.2.2.2.2.2.1 bt618.2.2.2.2.2.2.2.2.2.2.2.2.1) else (paybooklaw13_AccountDues.j0 k a2 (wrap64 (700000 + (wrap64 (a1)))) true 9 bt596.2.1 bt596.2.2.1 bt596.2.2.2.1 true false bt618.1 bt618.2.1 bt618.2.2.1 bt618.2.2.2.1 bt618.2.2.2.2.1 bt618.2.2.2.2.2.1 bt618.2.2.2.2.2.2.1 bt618.2.2.2.2.2.2.2.1 bt618.2.2.2.2.2.2.2.2.1 bt618.2.2.2.2.2.2.2.2.2.1 bt618.2.2.2.2.2.2.2.2.2.2.1 bt618.2.2.2.2.2.2.2.2.2.2.2.1 bt618.2.2.2.2.2.2.2.2.2.2.2.2.1)) else (paybooklaw13_AccountDues.j0 k a2 (wrap64 (700000 + (wrap64 (a1)))) true 9 bt596.2.1 bt596.2.2.1 bt596.2.2.2.1 true false bt618.1 bt618.2.1 bt618.2.2.1 bt618.2.2.2.1 bt618.2.2.2.2.1 bt618.2.2.2.2.2.1 bt618.2.2.2.2.2.2.1 bt618.2.2.2.2.2.2.2.1 bt618.2.2.2.2.2.2.2.2.1 bt618.2.2.2.2.2.2.2.2.2.1 bt618.2.2.2.2.2.2.2.2.2.2.1 bt618.2.2.2.2.2.2.2.2.2.2.2.1 bt618.2.2.2.2.2.2.2.2.2.2.2.2.1))))) = some r := by rw [if_pos rfl] at H; exact H
    clear H
    have H := H1
    clear H1
    replace H := Option.bind_eq_some_iff.mp H
    obtain ⟨⟨t596, t597, t598, t599, t600, t601⟩, A60, H⟩ := H
    replace H : ((account_Open.f 0 9 t597 t598 t599 true false (wrap64 (700000 + (wrap64 (a1))))).bind fun bt603 => ((account_Day.f k bt603.1 bt603.2.1 bt603.2.2.1 bt603.2.2.2.1 bt603.2.2.2.2.1 bt603.2.2.2.2.2.1 bt603.2.2.2.2.2.2.1 bt603.2.2.2.2.2.2.2.1 bt603.2.2.2.2.2.2.2.2.1 bt603.2.2.2.2.2.2.2.2.2.1 bt603.2.2.2.2.2.2.2.2.2.2.1 bt603.2.2.2.2.2.2.2.2.2.2.2.1 bt603.2.2.2.2.2.2.2.2.2.2.2.2 9 t597 t598 t599 true false (wrap64 ((wrap64 (700000 + (wrap64 (a1)))) + (wrap64 (a2))))).bind fun bt618 => (if bt618.2.2.2.2.2.2.2.2.2.2.2.2.2 = 0 then (if (bt618.2.2.2.2.2.2.2.1.length : Int) = bt618.2.2.2.2.1 then (paybooklaw13_AccountDues.j0 k a2 (wrap64 (700000 + (wrap64 (a1)))) (bt618.2.2.2.1 != bt618.2.2.2.2.1) 9 t597 t598 t599 true false bt618.1 bt618.2.1 bt618.2.2.1 bt618.2.2.2.1 bt618.2.2.2.2.1 bt618.2.2.2.2.2.1 bt618.2.2.2.2.2.2.1 bt618.2.2.2.2.2.2.2.1 bt618.2.2.2.2.2.2.2.2.1 bt618.2.2.2.2.2.2.2.2.2.1 bt618.2.2.2.2.2.2.2.2.2.2.1 bt618.2.2.2.2.2.2.2.2.2.2.2.1 bt618.2.2.2.2.2.2.2.2.2.2.2.2.1) else (paybooklaw13_AccountDues.j0 k a2 (wrap64 (700000 + (wrap64 (a1)))) true 9 t597 t598 t599 true false bt618.1 bt618.2.1 bt618.2.2.1 bt618.2.2.2.1 bt618.2.2.2.2.1 bt618.2.2.2.2.2.1 bt618.2.2.2.2.2.2.1 bt618.2.2.2.2.2.2.2.1 bt618.2.2.2.2.2.2.2.2.1 bt618.2.2.2.2.2.2.2.2.2.1 bt618.2.2.2.2.2.2.2.2.2.2.1 bt618.2.2.2.2.2.2.2.2.2.2.2.1 bt618.2.2.2.2.2.2.2.2.2.2.2.2.1)) else (paybooklaw13_AccountDues.j0 k a2 (wrap64 (700000 + (wrap64 (a1)))) true 9 t597 t598 t599 true false bt618.1 bt618.2.1 bt618.2.2.1 bt618.2.2.2.1 bt618.2.2.2.2.1 bt618.2.2.2.2.2.1 bt618.2.2.2.2.2.2.1 bt618.2.2.2.2.2.2.2.1 bt618.2.2.2.2.2.2.2.2.1 bt618.2.2.2.2.2.2.2.2.2.1 bt618.2.2.2.2.2.2.2.2.2.2.1 bt618.2.2.2.2.2.2.2.2.2.2.2.1 bt618.2.2.2.2.2.2.2.2.2.2.2.2.1)))) = some r := H
    have A6 := Aside0.mk A60
    clear A60
    replace H := Option.bind_eq_some_iff.mp H
    obtain ⟨⟨t603, t604, t605, t606, t607, t608, t609, t610, t613, t614, t615, t616, t617⟩, A70, H⟩ := H
    replace H : ((account_Day.f k t603 t604 t605 t606 t607 t608 t609 t610 t613 t614 t615 t616 t617 9 t597 t598 t599 true false (wrap64 ((wrap64 (700000 + (wrap64 (a1)))) + (wrap64 (a2))))).bind fun bt618 => (if bt618.2.2.2.2.2.2.2.2.2.2.2.2.2 = 0 then (if (bt618.2.2.2.2.2.2.2.1.length : Int) = bt618.2.2.2.2.1 then (paybooklaw13_AccountDues.j0 k a2 (wrap64 (700000 + (wrap64 (a1)))) (bt618.2.2.2.1 != bt618.2.2.2.2.1) 9 t597 t598 t599 true false bt618.1 bt618.2.1 bt618.2.2.1 bt618.2.2.2.1 bt618.2.2.2.2.1 bt618.2.2.2.2.2.1 bt618.2.2.2.2.2.2.1 bt618.2.2.2.2.2.2.2.1 bt618.2.2.2.2.2.2.2.2.1 bt618.2.2.2.2.2.2.2.2.2.1 bt618.2.2.2.2.2.2.2.2.2.2.1 bt618.2.2.2.2.2.2.2.2.2.2.2.1 bt618.2.2.2.2.2.2.2.2.2.2.2.2.1) else (paybooklaw13_AccountDues.j0 k a2 (wrap64 (700000 + (wrap64 (a1)))) true 9 t597 t598 t599 true false bt618.1 bt618.2.1 bt618.2.2.1 bt618.2.2.2.1 bt618.2.2.2.2.1 bt618.2.2.2.2.2.1 bt618.2.2.2.2.2.2.1 bt618.2.2.2.2.2.2.2.1 bt618.2.2.2.2.2.2.2.2.1 bt618.2.2.2.2.2.2.2.2.2.1 bt618.2.2.2.2.2.2.2.2.2.2.1 bt618.2.2.2.2.2.2.2.2.2.2.2.1 bt618.2.2.2.2.2.2.2.2.2.2.2.2.1)) else (paybooklaw13_AccountDues.j0 k a2 (wrap64 (700000 + (wrap64 (a1)))) true 9 t597 t598 t599 true false bt618.1 bt618.2.1 bt618.2.2.1 bt618.2.2.2.1 bt618.2.2.2.2.1 bt618.2.2.2.2.2.1 bt618.2.2.2.2.2.2.1 bt618.2.2.2.2.2.2.2.1 bt618.2.2.2.2.2.2.2.2.1 bt618.2.2.2.2.2.2.2.2.2.1 bt618.2.2.2.2.2.2.2.2.2.2.1 bt618.2.2.2.2.2.2.2.2.2.2.2.1 bt618.2.2.2.2.2.2.2.2.2.2.2.2.1))) = some r := H
    have A7 := Aside0.mk A70
    clear A70
    replace H := Option.bind_eq_some_iff.mp H
    obtain ⟨⟨t618, t619, t620, t621, t622, t623, t624, t625, t628, t629, t630, t631, t632, t633⟩, A80, H⟩ := H
    replace H : (if t633 = 0 then (if (t625.length : Int) = t622 then (paybooklaw13_AccountDues.j0 k a2 (wrap64 (700000 + (wrap64 (a1)))) (t621 != t622) 9 t597 t598 t599 true false t618 t619 t620 t621 t622 t623 t624 t625 t628 t629 t630 t631 t632) else (paybooklaw13_AccountDues.j0 k a2 (wrap64 (700000 + (wrap64 (a1)))) true 9 t597 t598 t599 true false t618 t619 t620 t621 t622 t623 t624 t625 t628 t629 t630 t631 t632)) else (paybooklaw13_AccountDues.j0 k a2 (wrap64 (700000 + (wrap64 (a1)))) true 9 t597 t598 t599 true false t618 t619 t620 t621 t622 t623 t624 t625 t628 t629 t630 t631 t632)) = some r := H
    have A8 := Aside0.mk A80
    clear A80
    have HC9 := Aside0.mk H
    clear H
    go_enter Try.func5, Try.ntmps5
    try go_wp2_with (first | ((with_reducible refine gate_callee (f := 9) rfl ?_); refine goesL_ (some 16) rfl rfl Try.func9 (by kernel_rfl) rfl #[] rfl (by (try simp only [List.map_toArray, List.map_cons, List.map_nil]); first | done | rfl | (simp only [List.length_drop, List.length_take]; rfl)) ?_; (with_reducible refine (paybooklaw13_awake.calls k  true _ A4.out).mono ?_); rintro e w10 ⟨rfl, hb⟩; refine ⟨_, rfl, ?_⟩; have n0_ := Aside0.mk (below_step (by repeat (first | (with_reducible first | exact HB.out | apply below_alloc | apply pw_below_drewN | apply below_drew1) | exact HB.out)) hb); clear HB; have HB := n0_; clear n0_; (try clear hb); (try clear hb2); (try clear hk); (try clear hi)) | ((with_reducible refine gate_callee (f := 10) rfl ?_); refine goesL_ (some 19) rfl rfl Try.func10 (by kernel_rfl) rfl #[.int .u8 a0] rfl (by (try simp only [List.map_toArray, List.map_cons, List.map_nil]); first | done | rfl | (simp only [List.length_drop, List.length_take]; rfl)) ?_; (with_reducible refine (paybookref12_Plan.calls a0 t596 t597 t598 t599 t600 t601 _ A6.out).mono ?_); rintro e w11 ⟨rfl, hb⟩; refine ⟨_, rfl, ?_⟩; have n0_ := Aside0.mk (below_step (by repeat (first | (with_reducible first | exact HB.out | apply below_alloc | apply pw_below_drewN | apply below_drew1) | exact HB.out)) hb); clear HB; have HB := n0_; clear n0_; (try clear hb); (try clear hb2); (try clear hk); (try clear hi)) | ((with_reducible refine gate_dst (N := 7) rfl ?_); (try (refine gate_guard (by rfl) ?_; dsimp only)); refine box_event ?hg (N := 7) ?hd (cs := #[.int .i64 0, .int .u8 0, .int .i64 0, .int .i64 0, .bool false, .bool false]) (t := 25) ?hr ?_; (case hd => rfl); (case hg => rfl); (case hr => first | (go_simp; done) | (go_simp; rfl)); intro gb602 hg w12 hbox hb; have n0_ := Aside0.mk (below_step (by repeat (first | (with_reducible first | exact HB.out | apply below_alloc | apply pw_below_drewN | apply below_drew1) | exact HB.out)) hb); have n1_ := Aside0.mk (hbox); have n2_ := Aside0.mk ((by rw [hg]; exact (below_size (by repeat (first | (with_reducible first | exact HB.out | apply below_alloc | apply pw_below_drewN | apply below_drew1) | exact HB.out))) : w.heap.size ≤ gb602)); have n3_ := Aside0.mk ((by rw [hg]; exact (below_size (by repeat (first | (with_reducible first | exact HB.out | apply below_alloc | apply pw_below_drewN | apply below_drew1) | exact HB.out))) : w.heap.size ≤ gb602)); clear HB; have HB := n0_; have BK602 := n1_; have GW602 := n2_; have GE602 := n3_; clear n0_ n1_ n2_ n3_; clear hb hbox hg; obtain ⟨hcz13_0, hcz13_1, hcz13_2, hcz13_3, hcz13_4, hcz13_5⟩ := bc6 BK602.out; obtain ⟨hfz13_0, hfz13_1, hfz13_2, hfz13_3, hfz13_4, hfz13_5⟩ := bf6 BK602.out))
    have n0_ : Aside0 ((((((((((w12.setCell ⟨gb602, 0, none⟩ (.int .i64 t596)).setCell ⟨gb602, 1, none⟩ (.int .u8 t597)).setCell ⟨gb602, 2, none⟩ (.int .i64 t598)).setCell ⟨gb602, 3, none⟩ (.int .i64 t599)).setCell ⟨gb602, 4, none⟩ (.bool t600)).setCell ⟨gb602, 5, none⟩ (.bool t601)).setCell ⟨gb602, 0, none⟩ (.int .i64 9)).setCell ⟨gb602, 4, none⟩ (.bool true)).setCell ⟨gb602, 5, none⟩ (.bool false)).heap[gb602]? = some (.cells #[.int .i64 9, .int .u8 t597, .int .i64 t598, .int .i64 t599, .bool true, .bool false] 25 (0, 0))) := ⟨by (with_reducible repeat (first | refine blk_drewN ?_ _ | refine blk_drew ?_ | refine blk_alloc ?_ _)); refine blk_put (cs := #[.int .i64 9, .int .u8 t597, .int .i64 t598, .int .i64 t599, .bool true, .bool t601]) ?_ 5 _ rfl; (with_reducible repeat (first | refine blk_drewN ?_ _ | refine blk_drew ?_ | refine blk_alloc ?_ _)); refine blk_put (cs := #[.int .i64 9, .int .u8 t597, .int .i64 t598, .int .i64 t599, .bool t600, .bool t601]) ?_ 4 _ rfl; (with_reducible repeat (first | refine blk_drewN ?_ _ | refine blk_drew ?_ | refine blk_alloc ?_ _)); refine blk_put (cs := #[.int .i64 t596, .int .u8 t597, .int .i64 t598, .int .i64 t599, .bool t600, .bool t601]) ?_ 0 _ rfl; (with_reducible repeat (first | refine blk_drewN ?_ _ | refine blk_drew ?_ | refine blk_alloc ?_ _)); refine bp6 (.int .i64 0) (.int .u8 0) (.int .i64 0) (.int .i64 0) (.bool false) (.bool false) ?_; (with_reducible repeat (first | refine blk_drewN ?_ _ | refine blk_drew ?_ | refine blk_alloc ?_ _)); exact BK602.out⟩
    have n1_ : Aside0 (Below w.heap.size w (((((((((w12.setCell ⟨gb602, 0, none⟩ (.int .i64 t596)).setCell ⟨gb602, 1, none⟩ (.int .u8 t597)).setCell ⟨gb602, 2, none⟩ (.int .i64 t598)).setCell ⟨gb602, 3, none⟩ (.int .i64 t599)).setCell ⟨gb602, 4, none⟩ (.bool t600)).setCell ⟨gb602, 5, none⟩ (.bool t601)).setCell ⟨gb602, 0, none⟩ (.int .i64 9)).setCell ⟨gb602, 4, none⟩ (.bool true)).setCell ⟨gb602, 5, none⟩ (.bool false))) := ⟨by repeat (first | (with_reducible first | exact HB.out | apply below_alloc | apply pw_below_drewN | apply below_drew1 | refine below_set ?_ GE602.out) | exact HB.out)⟩
    (try clear BK602)
    (try clear HB)
    generalize (((((((((w12.setCell ⟨gb602, 0, none⟩ (.int .i64 t596)).setCell ⟨gb602, 1, none⟩ (.int .u8 t597)).setCell ⟨gb602, 2, none⟩ (.int .i64 t598)).setCell ⟨gb602, 3, none⟩ (.int .i64 t599)).setCell ⟨gb602, 4, none⟩ (.bool t600)).setCell ⟨gb602, 5, none⟩ (.bool t601)).setCell ⟨gb602, 0, none⟩ (.int .i64 9)).setCell ⟨gb602, 4, none⟩ (.bool true)).setCell ⟨gb602, 5, none⟩ (.bool false)) = w14 at n0_ n1_ ⊢
    have BK602 := n0_
    have HB := n1_
    clear n0_ n1_
    have n0_ := Aside0.mk (blk_drew BK602.out)
    have n1_ := Aside0.mk (below_drew1 HB.out)
    clear BK602
    clear HB
    have BK602 := n0_
    have HB := n1_
    clear n0_ n1_
    refine start_ (n := 15) (S := fun w' => w'.cell? ⟨gb602, 0, none⟩ = some (.int .i64 9) ∧ w'.cell? ⟨gb602, 1, none⟩ = some (.int .u8 t597) ∧ w'.cell? ⟨gb602, 2, none⟩ = some (.int .i64 t598) ∧ w'.cell? ⟨gb602, 3, none⟩ = some (.int .i64 t599) ∧ w'.cell? ⟨gb602, 4, none⟩ = some (.bool true) ∧ w'.cell? ⟨gb602, 5, none⟩ = some (.bool false)) (ds := []) #[false, false, false, false, false, false, false, false, false, false, false, false, false, false, false] (by kernel_rfl) rfl rfl ⟨(blk_cell BK602.out 0).trans rfl, (blk_cell BK602.out 1).trans rfl, (blk_cell BK602.out 2).trans rfl, (blk_cell BK602.out 3).trans rfl, (blk_cell BK602.out 4).trans rfl, (blk_cell BK602.out 5).trans rfl⟩ (fun hHeld => ?_); refine with_tabW paybooklaw13_AccountDues.tab8 paybooklaw13_AccountDues.bits8 (fun HT_ HW_ => ?_)
    generalize w14.drew = w15 at BK602 HB hHeld ⊢
    refine pure_ (i := 1) (N := some 28) (v := ?_) (a' := ?_) #[false, true, false, false, false, false, false, false, false, false, false, false, false, false, false] rfl rfl (any_of HT_.out (by kernel_rfl)) (fun _ _ _ h => h) (Or.inl ⟨by rfl, ?_⟩) ?_ ?_
    rotate_left
    · intro w'
      go_simp
      with_reducible rfl
    rotate_left
    · simp only [Act.put, List.setIfInBounds_toArray, List.set_cons_zero, List.set_cons_succ, i64_w, i32_w]
      rfl
    refine pure_ (i := 4) (N := some 31) (v := ?_) (a' := ?_) #[false, true, false, false, true, false, false, false, false, false, false, false, false, false, false] rfl rfl (any_of HT_.out (by kernel_rfl)) (fun _ _ _ h => h) (Or.inl ⟨by rfl, ?_⟩) ?_ ?_
    rotate_left
    · intro w'
      go_simp
      with_reducible rfl
    rotate_left
    · simp only [Act.put, List.setIfInBounds_toArray, List.set_cons_zero, List.set_cons_succ, i64_w, i32_w]
      rfl
    refine pure_ (i := 5) (N := some 32) (v := ?_) (a' := ?_) #[false, true, false, false, true, true, false, false, false, false, false, false, false, false, false] rfl rfl (any_of HT_.out (by kernel_rfl)) (fun _ _ _ h => h) (Or.inl ⟨by rfl, ?_⟩) ?_ ?_
    rotate_left
    · intro w'
      go_simp
      with_reducible rfl
    rotate_left
    · simp only [Act.put, List.setIfInBounds_toArray, List.set_cons_zero, List.set_cons_succ, i64_w, i32_w]
      rfl
    refine pure_ (i := 6) (N := some 33) (v := ?_) (a' := ?_) #[false, true, false, false, true, true, true, false, false, false, false, false, false, false, false] rfl rfl (any_of HT_.out (by kernel_rfl)) (fun _ _ _ h => h) (Or.inl ⟨by rfl, ?_⟩) ?_ ?_
    rotate_left
    · intro w'
      go_simp
      with_reducible rfl
    rotate_left
    · simp only [Act.put, List.setIfInBounds_toArray, List.set_cons_zero, List.set_cons_succ, i64_w, i32_w]
      rfl
    refine pure_ (i := 7) (N := some 34) (v := ?_) (a' := ?_) #[false, true, false, false, true, true, true, true, false, false, false, false, false, false, false] rfl rfl (any_of HT_.out (by kernel_rfl)) (fun _ _ _ h => h) (Or.inl ⟨by rfl, ?_⟩) ?_ ?_
    rotate_left
    · intro w'
      go_simp
      with_reducible rfl
    rotate_left
    · simp only [Act.put, List.setIfInBounds_toArray, List.set_cons_zero, List.set_cons_succ, i64_w, i32_w]
      rfl
    refine take_ (i := 0) (N := some 27) (v := ?_) (a' := ?_) #[true, true, false, false, true, true, true, true, false, false, false, false, false, false, false] rfl rfl (take_ofW HT_.out HW_.out (by kernel_rfl)) (fun _ _ _ h => h) (Or.inl ⟨by rfl, ?_⟩) hHeld ?_ ?_
    rotate_left
    · rintro w' ⟨s0, s1, s2, s3, s4, s5⟩
      go_simp
      with_reducible rfl
    rotate_left
    · simp only [Act.put, List.setIfInBounds_toArray, List.set_cons_zero, List.set_cons_succ, i64_w, i32_w]
      rfl
    refine take_ (i := 3) (N := some 30) (v := ?_) (a' := ?_) #[true, true, false, true, true, true, true, true, false, false, false, false, false, false, false] rfl rfl (take_ofW HT_.out HW_.out (by kernel_rfl)) (fun _ _ _ h => h) (Or.inl ⟨by rfl, ?_⟩) hHeld ?_ ?_
    rotate_left
    · rintro w' ⟨s0, s1, s2, s3, s4, s5⟩
      go_simp
      with_reducible rfl
    rotate_left
    · simp only [Act.put, List.setIfInBounds_toArray, List.set_cons_zero, List.set_cons_succ, i64_w, i32_w]
      rfl
    refine join_ (σ := Value × Value × Nat) 2 #[true, true, true, true, true, true, true, true, true, true, true, true, true, false, false] (fun s_ => [(29, .agg #[.int .u8 t603, .int .i64 t604, .int .i64 t605, .int .i64 t606, .int .i64 t607, .int .i64 t608, .bool t609, s_.1, .int .i64 t613, .int .i64 t614, .int .i64 t615, .int .i64 t616, .int .i64 t617]), (35, .tuple #[.agg #[.int .u8 t618, .int .i64 t619, .int .i64 t620, .int .i64 t621, .int .i64 t622, .int .i64 t623, .bool t624, s_.2.1, .int .i64 t628, .int .i64 t629, .int .i64 t630, .int .i64 t631, .int .i64 t632], .int .i64 t633]), (9, .pointer (some ⟨s_.2.2, 0, none⟩)), (26, .tuple #[.agg #[.int .u8 t618, .int .i64 t619, .int .i64 t620, .int .i64 t621, .int .i64 t622, .int .i64 t623, .bool t624, s_.2.1, .int .i64 t628, .int .i64 t629, .int .i64 t630, .int .i64 t631, .int .i64 t632], .int .i64 t633]), (36, .agg #[.int .u8 t618, .int .i64 t619, .int .i64 t620, .int .i64 t621, .int .i64 t622, .int .i64 t623, .bool t624, s_.2.1, .int .i64 t628, .int .i64 t629, .int .i64 t630, .int .i64 t631, .int .i64 t632]), (37, .int .i64 t633)]) (fun s_ w' => (w'.cell? ⟨gb602, 0, none⟩ = some (.int .i64 9) ∧ w'.cell? ⟨gb602, 1, none⟩ = some (.int .u8 t597) ∧ w'.cell? ⟨gb602, 2, none⟩ = some (.int .i64 t598) ∧ w'.cell? ⟨gb602, 3, none⟩ = some (.int .i64 t599) ∧ w'.cell? ⟨gb602, 4, none⟩ = some (.bool true) ∧ w'.cell? ⟨gb602, 5, none⟩ = some (.bool false)) ∧ (Kd.R k37 37 w' w.heap.size (fun k_ => some k_ ≠ (s_.2.1 : Value).ownBlock) s_.1 t610) ∧ (Kd.R k37 37 w' w.heap.size (fun k_ => some k_ ≠ (s_.1 : Value).ownBlock) s_.2.1 t625) ∧ (w'.heap[gb602]? = some (.cells #[.int .i64 9, .int .u8 t597, .int .i64 t598, .int .i64 t599, .bool true, .bool false] 25 (0, 0))) ∧ (w'.heap[s_.2.2]? = some (.cells #[.int .u8 0, .int .i64 0, .int .i64 0, .int .i64 0, .int .i64 0, .int .i64 0, .bool false, .slice none 0 0, .int .i64 0, .int .i64 0, .int .i64 0, .int .i64 0, .int .i64 0] 31 (0, 0))) ∧ (w.heap.size ≤ s_.2.2) ∧ (w.heap.size ≤ s_.2.2) ∧ (gb602 ≠ s_.2.2) ∧ (s_.2.2 ≠ gb602) ∧ (Below w.heap.size w w')) ?_ ?_
    rotate_left
    · intro hCont
      refine two_ (i := 2) (j := 12) (Ni := some 29) (Nj := some 9) #[true, true, true, true, true, true, true, true, false, false, false, false, false, false, false] #[true, true, false, true, true, true, true, true, false, false, false, false, true, false, false] rfl rfl rfl rfl (two_of HT_.out (by kernel_rfl)) (by decide) (by decide) (fun K hK => ?_) (fun K hK => ?_)
      · skip
        refine goes_ Try.func11 (by kernel_rfl) rfl #[.int .i64 0, .agg #[.int .i64 9, .int .u8 t597, .int .i64 t598, .int .i64 t599, .bool true, .bool false], .int .i64 (wrap64 (700000 + (wrap64 (a1))))] (by rfl) rfl rfl (by (try simp only [List.map_toArray, List.map_cons, List.map_nil]); first | done | rfl | (simp only [List.length_drop, List.length_take]; rfl)) ?_
        with_reducible refine (account_Open.calls 0 9 t597 t598 t599 true false (wrap64 (700000 + (wrap64 (a1)))) t603 t604 t605 t606 t607 t608 t609 t610 t613 t614 t615 t616 t617 _ A7.out).mono ?_
        rintro e w16 ⟨v611, rfl, ho0, hb⟩
        refine ⟨_, rfl, ?_⟩
        have n0_ := Aside0.mk (Kd.R_lower ho0 (below_size (by repeat (first | (with_reducible first | exact HB.out | apply below_alloc | apply pw_below_drewN | apply below_drew1 | refine below_set ?_ GE602.out) | exact HB.out))))
        have n1_ := Aside0.mk (blk_below (g := gb602) (o := .cells #[.int .i64 9, .int .u8 t597, .int .i64 t598, .int .i64 t599, .bool true, .bool false] 25 (0, 0)) (by (with_reducible repeat (first | refine blk_drewN ?_ _ | refine blk_drew ?_ | refine blk_alloc ?_ _)); exact BK602.out) hb)
        have n2_ := Aside0.mk (below_step (by repeat (first | (with_reducible first | exact HB.out | apply below_alloc | apply pw_below_drewN | apply below_drew1 | refine below_set ?_ GE602.out) | exact HB.out)) hb)
        clear BK602
        clear HB
        have HO612 := n0_
        have BK602 := n1_
        have HB := n2_
        clear n0_ n1_ n2_
        (try clear hb)
        (try clear hb2)
        (try clear hk)
        (try clear hi)
        (try clear ho0)
        obtain ⟨Ao17, co17, eo17⟩ := Kd.R_slice HO612.out
        (first | subst eo17 | (injection eo17 with f1_ f2_ f3_; have f4_ := f1_.symm; have f5_ := f3_.symm; clear f1_ f2_ f3_; subst f4_; subst f5_))
        refine hK.out _ _ ⟨(blk_cell BK602.out 0).trans rfl, (blk_cell BK602.out 1).trans rfl, (blk_cell BK602.out 2).trans rfl, (blk_cell BK602.out 3).trans rfl, (blk_cell BK602.out 4).trans rfl, (blk_cell BK602.out 5).trans rfl⟩ (fun hHeld => ?_)
        clear hK K
        refine norm_ (a' := ?_) ?_ ?_
        rotate_left
        · show Act.put _ (some 29) _ = _
          simp only [Act.put, List.setIfInBounds_toArray, List.set_cons_zero, List.set_cons_succ, i64_w, i32_w]
          rfl
        refine two_ (i := 8) (j := 12) (Ni := some 35) (Nj := some 9) #[true, true, true, true, true, true, true, true, true, false, false, false, false, false, false] #[true, true, true, true, true, true, true, true, false, false, false, false, true, false, false] rfl rfl rfl rfl (two_of HT_.out (by kernel_rfl)) (by decide) (by decide) (fun K hK => ?_) (fun K hK => ?_)
        · skip
          refine goes_ Try.func12 (by kernel_rfl) rfl #[.agg #[.int .u8 t603, .int .i64 t604, .int .i64 t605, .int .i64 t606, .int .i64 t607, .int .i64 t608, .bool t609, .slice Ao17 t610.length co17, .int .i64 t613, .int .i64 t614, .int .i64 t615, .int .i64 t616, .int .i64 t617], .agg #[.int .i64 9, .int .u8 t597, .int .i64 t598, .int .i64 t599, .bool true, .bool false], .int .i64 (wrap64 ((wrap64 (700000 + (wrap64 (a1)))) + (wrap64 (a2))))] (by rfl) rfl rfl (by (try simp only [List.map_toArray, List.map_cons, List.map_nil]); first | done | rfl | (simp only [List.length_drop, List.length_take]; rfl)) ?_
          with_reducible refine (account_Day.calls k t603 t604 t605 t606 t607 t608 t609 _ _ t610 t613 t614 t615 t616 t617 9 t597 t598 t599 true false (wrap64 ((wrap64 (700000 + (wrap64 (a1)))) + (wrap64 (a2)))) t618 t619 t620 t621 t622 t623 t624 t625 t628 t629 t630 t631 t632 t633 _ ?side1 ?side2 A8.out).mono ?_
          (case side1 => repeat (first | exact (Kd.R_reads' HO612.out).2.2 | (with_reducible refine Kd.C_alloc ?_ _) | (with_reducible refine Kd.C_drewN ?_ _) | (with_reducible refine Kd.C_drew ?_)))
          (case side2 => exact (Kd.R_reads' HO612.out).2.1)
          rintro e w18 ⟨v626, rfl, ho0, hb⟩
          refine ⟨_, rfl, ?_⟩
          have n0_ := Aside0.mk (Kd.R_elder' (by (with_reducible repeat (first | apply Kd.R_alloc | apply Kd.R_drewN | apply Kd.R_drew)); exact HO612.out) (Kd.R_base ho0) hb)
          have n1_ := Aside0.mk (Kd.R_lower (Kd.R_new' ho0 (Kd.R_lt (by (with_reducible repeat (first | apply Kd.R_alloc | apply Kd.R_drewN | apply Kd.R_drew)); exact HO612.out))) (below_size (by repeat (first | (with_reducible first | exact HB.out | apply below_alloc | apply pw_below_drewN | apply below_drew1 | refine below_set ?_ GE602.out) | exact HB.out))))
          have n2_ := Aside0.mk (blk_below (g := gb602) (o := .cells #[.int .i64 9, .int .u8 t597, .int .i64 t598, .int .i64 t599, .bool true, .bool false] 25 (0, 0)) (by (with_reducible repeat (first | refine blk_drewN ?_ _ | refine blk_drew ?_ | refine blk_alloc ?_ _)); exact BK602.out) hb)
          have n3_ := Aside0.mk (below_step (by repeat (first | (with_reducible first | exact HB.out | apply below_alloc | apply pw_below_drewN | apply below_drew1 | refine below_set ?_ GE602.out) | exact HB.out)) hb)
          clear HO612
          clear BK602
          clear HB
          have HO612 := n0_
          have HO627 := n1_
          have BK602 := n2_
          have HB := n3_
          clear n0_ n1_ n2_ n3_
          (try clear hb)
          (try clear hb2)
          (try clear hk)
          (try clear hi)
          (try clear ho0)
          refine hK.out _ _ ⟨(blk_cell BK602.out 0).trans rfl, (blk_cell BK602.out 1).trans rfl, (blk_cell BK602.out 2).trans rfl, (blk_cell BK602.out 3).trans rfl, (blk_cell BK602.out 4).trans rfl, (blk_cell BK602.out 5).trans rfl⟩ (fun hHeld => ?_)
          clear hK K
          refine norm_ (a' := ?_) ?_ ?_
          rotate_left
          · show Act.put _ (some 35) _ = _
            simp only [Act.put, List.setIfInBounds_toArray, List.set_cons_zero, List.set_cons_succ, i64_w, i32_w]
            rfl
          refine pure_ (i := 9) (N := some 26) (v := ?_) (a' := ?_) #[true, true, true, true, true, true, true, true, true, true, false, false, false, false, false] rfl rfl (any_of HT_.out (by kernel_rfl)) (fun _ _ _ h => h) (Or.inl ⟨by rfl, ?_⟩) ?_ ?_
          rotate_left
          · intro w'
            go_simp
            with_reducible rfl
          rotate_left
          · simp only [Act.put, List.setIfInBounds_toArray, List.set_cons_zero, List.set_cons_succ, i64_w, i32_w]
            rfl
          refine pure_ (i := 10) (N := some 36) (v := ?_) (a' := ?_) #[true, true, true, true, true, true, true, true, true, true, true, false, false, false, false] rfl rfl (any_of HT_.out (by kernel_rfl)) (fun _ _ _ h => h) (Or.inl ⟨by rfl, ?_⟩) ?_ ?_
          rotate_left
          · intro w'
            go_simp
            with_reducible rfl
          rotate_left
          · simp only [Act.put, List.setIfInBounds_toArray, List.set_cons_zero, List.set_cons_succ, i64_w, i32_w]
            rfl
          refine pure_ (i := 11) (N := some 37) (v := ?_) (a' := ?_) #[true, true, true, true, true, true, true, true, true, true, true, true, false, false, false] rfl rfl (any_of HT_.out (by kernel_rfl)) (fun _ _ _ h => h) (Or.inl ⟨by rfl, ?_⟩) ?_ ?_
          rotate_left
          · intro w'
            go_simp
            with_reducible rfl
          rotate_left
          · simp only [Act.put, List.setIfInBounds_toArray, List.set_cons_zero, List.set_cons_succ, i64_w, i32_w]
            rfl
          refine one_ (i := 12) (N := some 9) #[true, true, true, true, true, true, true, true, true, true, true, true, true, false, false] rfl rfl (one_of HT_.out (by kernel_rfl)) (by decide) (fun K hK => ?_)
          refine box_step ?hg (N := 9) ?hd (cs := #[.int .u8 0, .int .i64 0, .int .i64 0, .int .i64 0, .int .i64 0, .int .i64 0, .bool false, .slice none 0 0, .int .i64 0, .int .i64 0, .int .i64 0, .int .i64 0, .int .i64 0]) (t := 31) ?hr ?_; (case hd => rfl); (case hg => rfl); (case hr => first | (go_simp; done) | (go_simp; rfl))
          intro gb634 hg w19 hbox hb
          have n0_ := Aside0.mk (Kd.R_below (by (with_reducible repeat (first | apply Kd.R_alloc | apply Kd.R_drewN | apply Kd.R_drew)); exact HO612.out) hb)
          have n1_ := Aside0.mk (Kd.R_below (by (with_reducible repeat (first | apply Kd.R_alloc | apply Kd.R_drewN | apply Kd.R_drew)); exact HO627.out) hb)
          have n2_ := Aside0.mk (blk_below (g := gb602) (o := .cells #[.int .i64 9, .int .u8 t597, .int .i64 t598, .int .i64 t599, .bool true, .bool false] 25 (0, 0)) (by (with_reducible repeat (first | refine blk_drewN ?_ _ | refine blk_drew ?_ | refine blk_alloc ?_ _)); exact BK602.out) hb)
          have n3_ := Aside0.mk (below_step (by repeat (first | (with_reducible first | exact HB.out | apply below_alloc | apply pw_below_drewN | apply below_drew1 | refine below_set ?_ GE602.out) | exact HB.out)) hb)
          have n4_ := Aside0.mk (hbox)
          have n5_ := Aside0.mk ((by rw [hg]; exact (below_size (by repeat (first | (with_reducible first | exact HB.out | apply below_alloc | apply pw_below_drewN | apply below_drew1 | refine below_set ?_ GE602.out) | exact HB.out))) : w.heap.size ≤ gb634))
          have n6_ := Aside0.mk ((by rw [hg]; exact (below_size (by repeat (first | (with_reducible first | exact HB.out | apply below_alloc | apply pw_below_drewN | apply below_drew1 | refine below_set ?_ GE602.out) | exact HB.out))) : w.heap.size ≤ gb634))
          have n7_ := Aside0.mk ((by rw [hg]; exact Nat.ne_of_lt (blk_lt (g := gb602) (o := .cells #[.int .i64 9, .int .u8 t597, .int .i64 t598, .int .i64 t599, .bool true, .bool false] 25 (0, 0)) (by (with_reducible repeat (first | refine blk_drewN ?_ _ | refine blk_drew ?_ | refine blk_alloc ?_ _)); exact BK602.out)) : gb602 ≠ gb634))
          have n8_ := Aside0.mk ((by rw [hg]; exact Nat.ne_of_gt (blk_lt (g := gb602) (o := .cells #[.int .i64 9, .int .u8 t597, .int .i64 t598, .int .i64 t599, .bool true, .bool false] 25 (0, 0)) (by (with_reducible repeat (first | refine blk_drewN ?_ _ | refine blk_drew ?_ | refine blk_alloc ?_ _)); exact BK602.out)) : gb634 ≠ gb602))
          clear HO612
          clear HO627
          clear BK602
          clear HB
          have HO612 := n0_
          have HO627 := n1_
          have BK602 := n2_
          have HB := n3_
          have BK634 := n4_
          have GW634 := n5_
          have GE634 := n6_
          have NB602_634 := n7_
          have NB634_602 := n8_
          clear n0_ n1_ n2_ n3_ n4_ n5_ n6_ n7_ n8_
          clear hb hbox hg
          refine hK.out _ _ ⟨(blk_cell BK602.out 0).trans rfl, (blk_cell BK602.out 1).trans rfl, (blk_cell BK602.out 2).trans rfl, (blk_cell BK602.out 3).trans rfl, (blk_cell BK602.out 4).trans rfl, (blk_cell BK602.out 5).trans rfl⟩ (fun hHeld => ?_)
          clear hK K
          refine norm_ (a' := ?_) ?_ ?_
          rotate_left
          · show Act.put _ (some 9) _ = _
            simp only [Act.put, List.setIfInBounds_toArray, List.set_cons_zero, List.set_cons_succ, i64_w, i32_w]
            rfl
          exact norm_ (by simp only [putAll, Act.put, List.setIfInBounds_toArray, List.set_cons_zero, List.set_cons_succ]) (hCont (.slice Ao17 t610.length co17, v626, gb634) _ ⟨hHeld, (by (with_reducible repeat (first | apply Kd.R_alloc | apply Kd.R_drewN | apply Kd.R_drew)); exact Kd.R_mono HO612.out (fun _ hk => hk.2)), (by (with_reducible repeat (first | apply Kd.R_alloc | apply Kd.R_drewN | apply Kd.R_drew)); exact Kd.R_mono HO627.out (fun _ hk => hk.2)), (by (with_reducible repeat (first | refine blk_drewN ?_ _ | refine blk_drew ?_ | refine blk_alloc ?_ _)); exact BK602.out), (by (with_reducible repeat (first | refine blk_drewN ?_ _ | refine blk_drew ?_ | refine blk_alloc ?_ _)); exact BK634.out), GW634.out, GE634.out, NB602_634.out, NB634_602.out, (by repeat (first | (with_reducible first | exact HB.out | apply below_alloc | apply pw_below_drewN | apply below_drew1 | refine below_set ?_ GE602.out | refine below_set ?_ GE634.out) | exact HB.out))⟩)
        · skip
          refine box_step ?hg (N := 9) ?hd (cs := #[.int .u8 0, .int .i64 0, .int .i64 0, .int .i64 0, .int .i64 0, .int .i64 0, .bool false, .slice none 0 0, .int .i64 0, .int .i64 0, .int .i64 0, .int .i64 0, .int .i64 0]) (t := 31) ?hr ?_; (case hd => rfl); (case hg => rfl); (case hr => first | (go_simp; done) | (go_simp; rfl))
          intro gb634 hg w17 hbox hb
          have n0_ := Aside0.mk (Kd.R_below (by (with_reducible repeat (first | apply Kd.R_alloc | apply Kd.R_drewN | apply Kd.R_drew)); exact HO612.out) hb)
          have n1_ := Aside0.mk (blk_below (g := gb602) (o := .cells #[.int .i64 9, .int .u8 t597, .int .i64 t598, .int .i64 t599, .bool true, .bool false] 25 (0, 0)) (by (with_reducible repeat (first | refine blk_drewN ?_ _ | refine blk_drew ?_ | refine blk_alloc ?_ _)); exact BK602.out) hb)
          have n2_ := Aside0.mk (below_step (by repeat (first | (with_reducible first | exact HB.out | apply below_alloc | apply pw_below_drewN | apply below_drew1 | refine below_set ?_ GE602.out) | exact HB.out)) hb)
          have n3_ := Aside0.mk (hbox)
          have n4_ := Aside0.mk ((by rw [hg]; exact (below_size (by repeat (first | (with_reducible first | exact HB.out | apply below_alloc | apply pw_below_drewN | apply below_drew1 | refine below_set ?_ GE602.out) | exact HB.out))) : w.heap.size ≤ gb634))
          have n5_ := Aside0.mk ((by rw [hg]; exact (below_size (by repeat (first | (with_reducible first | exact HB.out | apply below_alloc | apply pw_below_drewN | apply below_drew1 | refine below_set ?_ GE602.out) | exact HB.out))) : w.heap.size ≤ gb634))
          have n6_ := Aside0.mk ((by rw [hg]; exact Nat.ne_of_lt (blk_lt (g := gb602) (o := .cells #[.int .i64 9, .int .u8 t597, .int .i64 t598, .int .i64 t599, .bool true, .bool false] 25 (0, 0)) (by (with_reducible repeat (first | refine blk_drewN ?_ _ | refine blk_drew ?_ | refine blk_alloc ?_ _)); exact BK602.out)) : gb602 ≠ gb634))
          have n7_ := Aside0.mk ((by rw [hg]; exact Nat.ne_of_gt (blk_lt (g := gb602) (o := .cells #[.int .i64 9, .int .u8 t597, .int .i64 t598, .int .i64 t599, .bool true, .bool false] 25 (0, 0)) (by (with_reducible repeat (first | refine blk_drewN ?_ _ | refine blk_drew ?_ | refine blk_alloc ?_ _)); exact BK602.out)) : gb634 ≠ gb602))
          clear HO612
          clear BK602
          clear HB
          have HO612 := n0_
          have BK602 := n1_
          have HB := n2_
          have BK634 := n3_
          have GW634 := n4_
          have GE634 := n5_
          have NB602_634 := n6_
          have NB634_602 := n7_
          clear n0_ n1_ n2_ n3_ n4_ n5_ n6_ n7_
          clear hb hbox hg
          obtain ⟨Ao18, co18, eo18⟩ := Kd.R_slice HO612.out
          (first | subst eo18 | (injection eo18 with f1_ f2_ f3_; have f4_ := f1_.symm; have f5_ := f3_.symm; clear f1_ f2_ f3_; subst f4_; subst f5_))
          refine hK.out _ _ ⟨(blk_cell BK602.out 0).trans rfl, (blk_cell BK602.out 1).trans rfl, (blk_cell BK602.out 2).trans rfl, (blk_cell BK602.out 3).trans rfl, (blk_cell BK602.out 4).trans rfl, (blk_cell BK602.out 5).trans rfl⟩ (fun hHeld => ?_)
          clear hK K
          refine norm_ (a' := ?_) ?_ ?_
          rotate_left
          · show Act.put _ (some 9) _ = _
            simp only [Act.put, List.setIfInBounds_toArray, List.set_cons_zero, List.set_cons_succ, i64_w, i32_w]
            rfl
          refine one_ (i := 8) (N := some 35) #[true, true, true, true, true, true, true, true, true, false, false, false, true, false, false] rfl rfl (one_of HT_.out (by kernel_rfl)) (by decide) (fun K hK => ?_)
          refine goes_ Try.func12 (by kernel_rfl) rfl #[.agg #[.int .u8 t603, .int .i64 t604, .int .i64 t605, .int .i64 t606, .int .i64 t607, .int .i64 t608, .bool t609, .slice Ao18 t610.length co18, .int .i64 t613, .int .i64 t614, .int .i64 t615, .int .i64 t616, .int .i64 t617], .agg #[.int .i64 9, .int .u8 t597, .int .i64 t598, .int .i64 t599, .bool true, .bool false], .int .i64 (wrap64 ((wrap64 (700000 + (wrap64 (a1)))) + (wrap64 (a2))))] (by rfl) rfl rfl (by (try simp only [List.map_toArray, List.map_cons, List.map_nil]); first | done | rfl | (simp only [List.length_drop, List.length_take]; rfl)) ?_
          with_reducible refine (account_Day.calls k t603 t604 t605 t606 t607 t608 t609 _ _ t610 t613 t614 t615 t616 t617 9 t597 t598 t599 true false (wrap64 ((wrap64 (700000 + (wrap64 (a1)))) + (wrap64 (a2)))) t618 t619 t620 t621 t622 t623 t624 t625 t628 t629 t630 t631 t632 t633 _ ?side1 ?side2 A8.out).mono ?_
          (case side1 => repeat (first | exact (Kd.R_reads' HO612.out).2.2 | (with_reducible refine Kd.C_alloc ?_ _) | (with_reducible refine Kd.C_drewN ?_ _) | (with_reducible refine Kd.C_drew ?_)))
          (case side2 => exact (Kd.R_reads' HO612.out).2.1)
          rintro e w19 ⟨v626, rfl, ho0, hb⟩
          refine ⟨_, rfl, ?_⟩
          have n0_ := Aside0.mk (Kd.R_elder' (by (with_reducible repeat (first | apply Kd.R_alloc | apply Kd.R_drewN | apply Kd.R_drew)); exact HO612.out) (Kd.R_base ho0) hb)
          have n1_ := Aside0.mk (Kd.R_lower (Kd.R_new' ho0 (Kd.R_lt (by (with_reducible repeat (first | apply Kd.R_alloc | apply Kd.R_drewN | apply Kd.R_drew)); exact HO612.out))) (below_size (by repeat (first | (with_reducible first | exact HB.out | apply below_alloc | apply pw_below_drewN | apply below_drew1 | refine below_set ?_ GE602.out | refine below_set ?_ GE634.out) | exact HB.out))))
          have n2_ := Aside0.mk (blk_below (g := gb602) (o := .cells #[.int .i64 9, .int .u8 t597, .int .i64 t598, .int .i64 t599, .bool true, .bool false] 25 (0, 0)) (by (with_reducible repeat (first | refine blk_drewN ?_ _ | refine blk_drew ?_ | refine blk_alloc ?_ _)); exact BK602.out) hb)
          have n3_ := Aside0.mk (blk_below (g := gb634) (o := .cells #[.int .u8 0, .int .i64 0, .int .i64 0, .int .i64 0, .int .i64 0, .int .i64 0, .bool false, .slice none 0 0, .int .i64 0, .int .i64 0, .int .i64 0, .int .i64 0, .int .i64 0] 31 (0, 0)) (by (with_reducible repeat (first | refine blk_drewN ?_ _ | refine blk_drew ?_ | refine blk_alloc ?_ _)); exact BK634.out) hb)
          have n4_ := Aside0.mk (below_step (by repeat (first | (with_reducible first | exact HB.out | apply below_alloc | apply pw_below_drewN | apply below_drew1 | refine below_set ?_ GE602.out | refine below_set ?_ GE634.out) | exact HB.out)) hb)
          clear HO612
          clear BK602
          clear BK634
          clear HB
          have HO612 := n0_
          have HO627 := n1_
          have BK602 := n2_
          have BK634 := n3_
          have HB := n4_
          clear n0_ n1_ n2_ n3_ n4_
          (try clear hb)
          (try clear hb2)
          (try clear hk)
          (try clear hi)
          (try clear ho0)
          refine hK.out _ _ ⟨(blk_cell BK602.out 0).trans rfl, (blk_cell BK602.out 1).trans rfl, (blk_cell BK602.out 2).trans rfl, (blk_cell BK602.out 3).trans rfl, (blk_cell BK602.out 4).trans rfl, (blk_cell BK602.out 5).trans rfl⟩ (fun hHeld => ?_)
          clear hK K
          refine norm_ (a' := ?_) ?_ ?_
          rotate_left
          · show Act.put _ (some 35) _ = _
            simp only [Act.put, List.setIfInBounds_toArray, List.set_cons_zero, List.set_cons_succ, i64_w, i32_w]
            rfl
          refine pure_ (i := 9) (N := some 26) (v := ?_) (a' := ?_) #[true, true, true, true, true, true, true, true, true, true, false, false, true, false, false] rfl rfl (any_of HT_.out (by kernel_rfl)) (fun _ _ _ h => h) (Or.inl ⟨by rfl, ?_⟩) ?_ ?_
          rotate_left
          · intro w'
            go_simp
            with_reducible rfl
          rotate_left
          · simp only [Act.put, List.setIfInBounds_toArray, List.set_cons_zero, List.set_cons_succ, i64_w, i32_w]
            rfl
          refine pure_ (i := 10) (N := some 36) (v := ?_) (a' := ?_) #[true, true, true, true, true, true, true, true, true, true, true, false, true, false, false] rfl rfl (any_of HT_.out (by kernel_rfl)) (fun _ _ _ h => h) (Or.inl ⟨by rfl, ?_⟩) ?_ ?_
          rotate_left
          · intro w'
            go_simp
            with_reducible rfl
          rotate_left
          · simp only [Act.put, List.setIfInBounds_toArray, List.set_cons_zero, List.set_cons_succ, i64_w, i32_w]
            rfl
          refine pure_ (i := 11) (N := some 37) (v := ?_) (a' := ?_) #[true, true, true, true, true, true, true, true, true, true, true, true, true, false, false] rfl rfl (any_of HT_.out (by kernel_rfl)) (fun _ _ _ h => h) (Or.inl ⟨by rfl, ?_⟩) ?_ ?_
          rotate_left
          · intro w'
            go_simp
            with_reducible rfl
          rotate_left
          · simp only [Act.put, List.setIfInBounds_toArray, List.set_cons_zero, List.set_cons_succ, i64_w, i32_w]
            rfl
          exact norm_ (by simp only [putAll, Act.put, List.setIfInBounds_toArray, List.set_cons_zero, List.set_cons_succ]) (hCont (.slice Ao18 t610.length co18, v626, gb634) _ ⟨hHeld, (by (with_reducible repeat (first | apply Kd.R_alloc | apply Kd.R_drewN | apply Kd.R_drew)); exact Kd.R_mono HO612.out (fun _ hk => hk.2)), (by (with_reducible repeat (first | apply Kd.R_alloc | apply Kd.R_drewN | apply Kd.R_drew)); exact Kd.R_mono HO627.out (fun _ hk => hk.2)), (by (with_reducible repeat (first | refine blk_drewN ?_ _ | refine blk_drew ?_ | refine blk_alloc ?_ _)); exact BK602.out), (by (with_reducible repeat (first | refine blk_drewN ?_ _ | refine blk_drew ?_ | refine blk_alloc ?_ _)); exact BK634.out), GW634.out, GE634.out, NB602_634.out, NB634_602.out, (by repeat (first | (with_reducible first | exact HB.out | apply below_alloc | apply pw_below_drewN | apply below_drew1 | refine below_set ?_ GE602.out | refine below_set ?_ GE634.out) | exact HB.out))⟩)
      · skip
        refine box_step ?hg (N := 9) ?hd (cs := #[.int .u8 0, .int .i64 0, .int .i64 0, .int .i64 0, .int .i64 0, .int .i64 0, .bool false, .slice none 0 0, .int .i64 0, .int .i64 0, .int .i64 0, .int .i64 0, .int .i64 0]) (t := 31) ?hr ?_; (case hd => rfl); (case hg => rfl); (case hr => first | (go_simp; done) | (go_simp; rfl))
        intro gb634 hg w16 hbox hb
        have n0_ := Aside0.mk (blk_below (g := gb602) (o := .cells #[.int .i64 9, .int .u8 t597, .int .i64 t598, .int .i64 t599, .bool true, .bool false] 25 (0, 0)) (by (with_reducible repeat (first | refine blk_drewN ?_ _ | refine blk_drew ?_ | refine blk_alloc ?_ _)); exact BK602.out) hb)
        have n1_ := Aside0.mk (below_step (by repeat (first | (with_reducible first | exact HB.out | apply below_alloc | apply pw_below_drewN | apply below_drew1 | refine below_set ?_ GE602.out) | exact HB.out)) hb)
        have n2_ := Aside0.mk (hbox)
        have n3_ := Aside0.mk ((by rw [hg]; exact (below_size (by repeat (first | (with_reducible first | exact HB.out | apply below_alloc | apply pw_below_drewN | apply below_drew1 | refine below_set ?_ GE602.out) | exact HB.out))) : w.heap.size ≤ gb634))
        have n4_ := Aside0.mk ((by rw [hg]; exact (below_size (by repeat (first | (with_reducible first | exact HB.out | apply below_alloc | apply pw_below_drewN | apply below_drew1 | refine below_set ?_ GE602.out) | exact HB.out))) : w.heap.size ≤ gb634))
        have n5_ := Aside0.mk ((by rw [hg]; exact Nat.ne_of_lt (blk_lt (g := gb602) (o := .cells #[.int .i64 9, .int .u8 t597, .int .i64 t598, .int .i64 t599, .bool true, .bool false] 25 (0, 0)) (by (with_reducible repeat (first | refine blk_drewN ?_ _ | refine blk_drew ?_ | refine blk_alloc ?_ _)); exact BK602.out)) : gb602 ≠ gb634))
        have n6_ := Aside0.mk ((by rw [hg]; exact Nat.ne_of_gt (blk_lt (g := gb602) (o := .cells #[.int .i64 9, .int .u8 t597, .int .i64 t598, .int .i64 t599, .bool true, .bool false] 25 (0, 0)) (by (with_reducible repeat (first | refine blk_drewN ?_ _ | refine blk_drew ?_ | refine blk_alloc ?_ _)); exact BK602.out)) : gb634 ≠ gb602))
        clear BK602
        clear HB
        have BK602 := n0_
        have HB := n1_
        have BK634 := n2_
        have GW634 := n3_
        have GE634 := n4_
        have NB602_634 := n5_
        have NB634_602 := n6_
        clear n0_ n1_ n2_ n3_ n4_ n5_ n6_
        clear hb hbox hg
        refine hK.out _ _ ⟨(blk_cell BK602.out 0).trans rfl, (blk_cell BK602.out 1).trans rfl, (blk_cell BK602.out 2).trans rfl, (blk_cell BK602.out 3).trans rfl, (blk_cell BK602.out 4).trans rfl, (blk_cell BK602.out 5).trans rfl⟩ (fun hHeld => ?_)
        clear hK K
        refine norm_ (a' := ?_) ?_ ?_
        rotate_left
        · show Act.put _ (some 9) _ = _
          simp only [Act.put, List.setIfInBounds_toArray, List.set_cons_zero, List.set_cons_succ, i64_w, i32_w]
          rfl
        refine one_ (i := 2) (N := some 29) #[true, true, true, true, true, true, true, true, false, false, false, false, true, false, false] rfl rfl (one_of HT_.out (by kernel_rfl)) (by decide) (fun K hK => ?_)
        refine goes_ Try.func11 (by kernel_rfl) rfl #[.int .i64 0, .agg #[.int .i64 9, .int .u8 t597, .int .i64 t598, .int .i64 t599, .bool true, .bool false], .int .i64 (wrap64 (700000 + (wrap64 (a1))))] (by rfl) rfl rfl (by (try simp only [List.map_toArray, List.map_cons, List.map_nil]); first | done | rfl | (simp only [List.length_drop, List.length_take]; rfl)) ?_
        with_reducible refine (account_Open.calls 0 9 t597 t598 t599 true false (wrap64 (700000 + (wrap64 (a1)))) t603 t604 t605 t606 t607 t608 t609 t610 t613 t614 t615 t616 t617 _ A7.out).mono ?_
        rintro e w17 ⟨v611, rfl, ho0, hb⟩
        refine ⟨_, rfl, ?_⟩
        have n0_ := Aside0.mk (Kd.R_lower ho0 (below_size (by repeat (first | (with_reducible first | exact HB.out | apply below_alloc | apply pw_below_drewN | apply below_drew1 | refine below_set ?_ GE602.out | refine below_set ?_ GE634.out) | exact HB.out))))
        have n1_ := Aside0.mk (blk_below (g := gb602) (o := .cells #[.int .i64 9, .int .u8 t597, .int .i64 t598, .int .i64 t599, .bool true, .bool false] 25 (0, 0)) (by (with_reducible repeat (first | refine blk_drewN ?_ _ | refine blk_drew ?_ | refine blk_alloc ?_ _)); exact BK602.out) hb)
        have n2_ := Aside0.mk (blk_below (g := gb634) (o := .cells #[.int .u8 0, .int .i64 0, .int .i64 0, .int .i64 0, .int .i64 0, .int .i64 0, .bool false, .slice none 0 0, .int .i64 0, .int .i64 0, .int .i64 0, .int .i64 0, .int .i64 0] 31 (0, 0)) (by (with_reducible repeat (first | refine blk_drewN ?_ _ | refine blk_drew ?_ | refine blk_alloc ?_ _)); exact BK634.out) hb)
        have n3_ := Aside0.mk (below_step (by repeat (first | (with_reducible first | exact HB.out | apply below_alloc | apply pw_below_drewN | apply below_drew1 | refine below_set ?_ GE602.out | refine below_set ?_ GE634.out) | exact HB.out)) hb)
        clear BK602
        clear BK634
        clear HB
        have HO612 := n0_
        have BK602 := n1_
        have BK634 := n2_
        have HB := n3_
        clear n0_ n1_ n2_ n3_
        (try clear hb)
        (try clear hb2)
        (try clear hk)
        (try clear hi)
        (try clear ho0)
        obtain ⟨Ao18, co18, eo18⟩ := Kd.R_slice HO612.out
        (first | subst eo18 | (injection eo18 with f1_ f2_ f3_; have f4_ := f1_.symm; have f5_ := f3_.symm; clear f1_ f2_ f3_; subst f4_; subst f5_))
        refine hK.out _ _ ⟨(blk_cell BK602.out 0).trans rfl, (blk_cell BK602.out 1).trans rfl, (blk_cell BK602.out 2).trans rfl, (blk_cell BK602.out 3).trans rfl, (blk_cell BK602.out 4).trans rfl, (blk_cell BK602.out 5).trans rfl⟩ (fun hHeld => ?_)
        clear hK K
        refine norm_ (a' := ?_) ?_ ?_
        rotate_left
        · show Act.put _ (some 29) _ = _
          simp only [Act.put, List.setIfInBounds_toArray, List.set_cons_zero, List.set_cons_succ, i64_w, i32_w]
          rfl
        refine one_ (i := 8) (N := some 35) #[true, true, true, true, true, true, true, true, true, false, false, false, true, false, false] rfl rfl (one_of HT_.out (by kernel_rfl)) (by decide) (fun K hK => ?_)
        refine goes_ Try.func12 (by kernel_rfl) rfl #[.agg #[.int .u8 t603, .int .i64 t604, .int .i64 t605, .int .i64 t606, .int .i64 t607, .int .i64 t608, .bool t609, .slice Ao18 t610.length co18, .int .i64 t613, .int .i64 t614, .int .i64 t615, .int .i64 t616, .int .i64 t617], .agg #[.int .i64 9, .int .u8 t597, .int .i64 t598, .int .i64 t599, .bool true, .bool false], .int .i64 (wrap64 ((wrap64 (700000 + (wrap64 (a1)))) + (wrap64 (a2))))] (by rfl) rfl rfl (by (try simp only [List.map_toArray, List.map_cons, List.map_nil]); first | done | rfl | (simp only [List.length_drop, List.length_take]; rfl)) ?_
        with_reducible refine (account_Day.calls k t603 t604 t605 t606 t607 t608 t609 _ _ t610 t613 t614 t615 t616 t617 9 t597 t598 t599 true false (wrap64 ((wrap64 (700000 + (wrap64 (a1)))) + (wrap64 (a2)))) t618 t619 t620 t621 t622 t623 t624 t625 t628 t629 t630 t631 t632 t633 _ ?side1 ?side2 A8.out).mono ?_
        (case side1 => repeat (first | exact (Kd.R_reads' HO612.out).2.2 | (with_reducible refine Kd.C_alloc ?_ _) | (with_reducible refine Kd.C_drewN ?_ _) | (with_reducible refine Kd.C_drew ?_)))
        (case side2 => exact (Kd.R_reads' HO612.out).2.1)
        rintro e w19 ⟨v626, rfl, ho0, hb⟩
        refine ⟨_, rfl, ?_⟩
        have n0_ := Aside0.mk (Kd.R_elder' (by (with_reducible repeat (first | apply Kd.R_alloc | apply Kd.R_drewN | apply Kd.R_drew)); exact HO612.out) (Kd.R_base ho0) hb)
        have n1_ := Aside0.mk (Kd.R_lower (Kd.R_new' ho0 (Kd.R_lt (by (with_reducible repeat (first | apply Kd.R_alloc | apply Kd.R_drewN | apply Kd.R_drew)); exact HO612.out))) (below_size (by repeat (first | (with_reducible first | exact HB.out | apply below_alloc | apply pw_below_drewN | apply below_drew1 | refine below_set ?_ GE602.out | refine below_set ?_ GE634.out) | exact HB.out))))
        have n2_ := Aside0.mk (blk_below (g := gb602) (o := .cells #[.int .i64 9, .int .u8 t597, .int .i64 t598, .int .i64 t599, .bool true, .bool false] 25 (0, 0)) (by (with_reducible repeat (first | refine blk_drewN ?_ _ | refine blk_drew ?_ | refine blk_alloc ?_ _)); exact BK602.out) hb)
        have n3_ := Aside0.mk (blk_below (g := gb634) (o := .cells #[.int .u8 0, .int .i64 0, .int .i64 0, .int .i64 0, .int .i64 0, .int .i64 0, .bool false, .slice none 0 0, .int .i64 0, .int .i64 0, .int .i64 0, .int .i64 0, .int .i64 0] 31 (0, 0)) (by (with_reducible repeat (first | refine blk_drewN ?_ _ | refine blk_drew ?_ | refine blk_alloc ?_ _)); exact BK634.out) hb)
        have n4_ := Aside0.mk (below_step (by repeat (first | (with_reducible first | exact HB.out | apply below_alloc | apply pw_below_drewN | apply below_drew1 | refine below_set ?_ GE602.out | refine below_set ?_ GE634.out) | exact HB.out)) hb)
        clear HO612
        clear BK602
        clear BK634
        clear HB
        have HO612 := n0_
        have HO627 := n1_
        have BK602 := n2_
        have BK634 := n3_
        have HB := n4_
        clear n0_ n1_ n2_ n3_ n4_
        (try clear hb)
        (try clear hb2)
        (try clear hk)
        (try clear hi)
        (try clear ho0)
        refine hK.out _ _ ⟨(blk_cell BK602.out 0).trans rfl, (blk_cell BK602.out 1).trans rfl, (blk_cell BK602.out 2).trans rfl, (blk_cell BK602.out 3).trans rfl, (blk_cell BK602.out 4).trans rfl, (blk_cell BK602.out 5).trans rfl⟩ (fun hHeld => ?_)
        clear hK K
        refine norm_ (a' := ?_) ?_ ?_
        rotate_left
        · show Act.put _ (some 35) _ = _
          simp only [Act.put, List.setIfInBounds_toArray, List.set_cons_zero, List.set_cons_succ, i64_w, i32_w]
          rfl
        refine pure_ (i := 9) (N := some 26) (v := ?_) (a' := ?_) #[true, true, true, true, true, true, true, true, true, true, false, false, true, false, false] rfl rfl (any_of HT_.out (by kernel_rfl)) (fun _ _ _ h => h) (Or.inl ⟨by rfl, ?_⟩) ?_ ?_
        rotate_left
        · intro w'
          go_simp
          with_reducible rfl
        rotate_left
        · simp only [Act.put, List.setIfInBounds_toArray, List.set_cons_zero, List.set_cons_succ, i64_w, i32_w]
          rfl
        refine pure_ (i := 10) (N := some 36) (v := ?_) (a' := ?_) #[true, true, true, true, true, true, true, true, true, true, true, false, true, false, false] rfl rfl (any_of HT_.out (by kernel_rfl)) (fun _ _ _ h => h) (Or.inl ⟨by rfl, ?_⟩) ?_ ?_
        rotate_left
        · intro w'
          go_simp
          with_reducible rfl
        rotate_left
        · simp only [Act.put, List.setIfInBounds_toArray, List.set_cons_zero, List.set_cons_succ, i64_w, i32_w]
          rfl
        refine pure_ (i := 11) (N := some 37) (v := ?_) (a' := ?_) #[true, true, true, true, true, true, true, true, true, true, true, true, true, false, false] rfl rfl (any_of HT_.out (by kernel_rfl)) (fun _ _ _ h => h) (Or.inl ⟨by rfl, ?_⟩) ?_ ?_
        rotate_left
        · intro w'
          go_simp
          with_reducible rfl
        rotate_left
        · simp only [Act.put, List.setIfInBounds_toArray, List.set_cons_zero, List.set_cons_succ, i64_w, i32_w]
          rfl
        exact norm_ (by simp only [putAll, Act.put, List.setIfInBounds_toArray, List.set_cons_zero, List.set_cons_succ]) (hCont (.slice Ao18 t610.length co18, v626, gb634) _ ⟨hHeld, (by (with_reducible repeat (first | apply Kd.R_alloc | apply Kd.R_drewN | apply Kd.R_drew)); exact Kd.R_mono HO612.out (fun _ hk => hk.2)), (by (with_reducible repeat (first | apply Kd.R_alloc | apply Kd.R_drewN | apply Kd.R_drew)); exact Kd.R_mono HO627.out (fun _ hk => hk.2)), (by (with_reducible repeat (first | refine blk_drewN ?_ _ | refine blk_drew ?_ | refine blk_alloc ?_ _)); exact BK602.out), (by (with_reducible repeat (first | refine blk_drewN ?_ _ | refine blk_drew ?_ | refine blk_alloc ?_ _)); exact BK634.out), GW634.out, GE634.out, NB602_634.out, NB634_602.out, (by repeat (first | (with_reducible first | exact HB.out | apply below_alloc | apply pw_below_drewN | apply below_drew1 | refine below_set ?_ GE602.out | refine below_set ?_ GE634.out) | exact HB.out))⟩)
    rintro ⟨v611, v626, gb634⟩ w20 ⟨hS_, h0_, h1_, h2_, h3_, h4_, h5_, h6_, h7_, h8_⟩
    have n0_ : Aside0 (Kd.R k37 37 w20 w.heap.size (fun k_ => some k_ ≠ (v626 : Value).ownBlock) v611 t610) := ⟨h0_⟩
    have n1_ : Aside0 (Kd.R k37 37 w20 w.heap.size (fun k_ => some k_ ≠ (v611 : Value).ownBlock) v626 t625) := ⟨h1_⟩
    have n2_ : Aside0 (w20.heap[gb602]? = some (.cells #[.int .i64 9, .int .u8 t597, .int .i64 t598, .int .i64 t599, .bool true, .bool false] 25 (0, 0))) := ⟨h2_⟩
    have n3_ : Aside0 (w20.heap[gb634]? = some (.cells #[.int .u8 0, .int .i64 0, .int .i64 0, .int .i64 0, .int .i64 0, .int .i64 0, .bool false, .slice none 0 0, .int .i64 0, .int .i64 0, .int .i64 0, .int .i64 0, .int .i64 0] 31 (0, 0))) := ⟨h3_⟩
    have n4_ : Aside0 (w.heap.size ≤ gb634) := ⟨h4_⟩
    have n5_ : Aside0 (w.heap.size ≤ gb634) := ⟨h5_⟩
    have n6_ : Aside0 (gb602 ≠ gb634) := ⟨h6_⟩
    have n7_ : Aside0 (gb634 ≠ gb602) := ⟨h7_⟩
    have n8_ : Aside0 (Below w.heap.size w w20) := ⟨h8_⟩
    clear BK602
    clear HB
    clear h0_ h1_ h2_ h3_ h4_ h5_ h6_ h7_ h8_
    have HO612 := n0_
    have HO627 := n1_
    have BK602 := n2_
    have BK634 := n3_
    have GW634 := n4_
    have GE634 := n5_
    have NB602_634 := n6_
    have NB634_602 := n7_
    have HB := n8_
    clear n0_ n1_ n2_ n3_ n4_ n5_ n6_ n7_ n8_
    have hHeld : w20.cell? ⟨gb602, 0, none⟩ = some (.int .i64 9) ∧ w20.cell? ⟨gb602, 1, none⟩ = some (.int .u8 t597) ∧ w20.cell? ⟨gb602, 2, none⟩ = some (.int .i64 t598) ∧ w20.cell? ⟨gb602, 3, none⟩ = some (.int .i64 t599) ∧ w20.cell? ⟨gb602, 4, none⟩ = some (.bool true) ∧ w20.cell? ⟨gb602, 5, none⟩ = some (.bool false) := hS_
    obtain ⟨Ao28, co28, eo28⟩ := Kd.R_slice HO627.out
    (first | subst eo28 | (injection eo28 with f1_ f2_ f3_; have f4_ := f1_.symm; have f5_ := f3_.symm; clear f1_ f2_ f3_; subst f4_; subst f5_))
    refine norm_ (a' := ?_) ?_ ?_
    rotate_left
    · simp only [putAll, Act.put, List.setIfInBounds_toArray, List.set_cons_zero, List.set_cons_succ]
      rfl
    refine one_ (i := 13) (N := none) #[true, true, true, true, true, true, true, true, true, true, true, true, true, true, false] rfl rfl (one_of HT_.out (by kernel_rfl)) (by decide) (fun K hK => ?_)
    have hs21 : w20.cell? ⟨gb634, 0, none⟩ = some (.int .u8 0) := (blk_cell BK634.out 0).trans rfl
    have hfs21 := blk_frozen BK634.out 0
    have hns21_0 := NB602_634.out
    have hms21_0 := NB634_602.out
    have hs22 : w20.cell? ⟨gb634, 1, none⟩ = some (.int .i64 0) := (blk_cell BK634.out 1).trans rfl
    have hfs22 := blk_frozen BK634.out 1
    have hns22_0 := NB602_634.out
    have hms22_0 := NB634_602.out
    have hs23 : w20.cell? ⟨gb634, 2, none⟩ = some (.int .i64 0) := (blk_cell BK634.out 2).trans rfl
    have hfs23 := blk_frozen BK634.out 2
    have hns23_0 := NB602_634.out
    have hms23_0 := NB634_602.out
    have hs24 : w20.cell? ⟨gb634, 3, none⟩ = some (.int .i64 0) := (blk_cell BK634.out 3).trans rfl
    have hfs24 := blk_frozen BK634.out 3
    have hns24_0 := NB602_634.out
    have hms24_0 := NB634_602.out
    have hs25 : w20.cell? ⟨gb634, 4, none⟩ = some (.int .i64 0) := (blk_cell BK634.out 4).trans rfl
    have hfs25 := blk_frozen BK634.out 4
    have hns25_0 := NB602_634.out
    have hms25_0 := NB634_602.out
    have hs26 : w20.cell? ⟨gb634, 5, none⟩ = some (.int .i64 0) := (blk_cell BK634.out 5).trans rfl
    have hfs26 := blk_frozen BK634.out 5
    have hns26_0 := NB602_634.out
    have hms26_0 := NB634_602.out
    have hs27 : w20.cell? ⟨gb634, 6, none⟩ = some (.bool false) := (blk_cell BK634.out 6).trans rfl
    have hfs27 := blk_frozen BK634.out 6
    have hns27_0 := NB602_634.out
    have hms27_0 := NB634_602.out
    have hs29 : w20.cell? ⟨gb634, 7, none⟩ = some (.slice none 0 0) := (blk_cell BK634.out 7).trans rfl
    have hfs29 := blk_frozen BK634.out 7
    have hns29_0 := NB602_634.out
    have hms29_0 := NB634_602.out
    have hs30 : w20.cell? ⟨gb634, 8, none⟩ = some (.int .i64 0) := (blk_cell BK634.out 8).trans rfl
    have hfs30 := blk_frozen BK634.out 8
    have hns30_0 := NB602_634.out
    have hms30_0 := NB634_602.out
    have hs31 : w20.cell? ⟨gb634, 9, none⟩ = some (.int .i64 0) := (blk_cell BK634.out 9).trans rfl
    have hfs31 := blk_frozen BK634.out 9
    have hns31_0 := NB602_634.out
    have hms31_0 := NB634_602.out
    have hs32 : w20.cell? ⟨gb634, 10, none⟩ = some (.int .i64 0) := (blk_cell BK634.out 10).trans rfl
    have hfs32 := blk_frozen BK634.out 10
    have hns32_0 := NB602_634.out
    have hms32_0 := NB634_602.out
    have hs33 : w20.cell? ⟨gb634, 11, none⟩ = some (.int .i64 0) := (blk_cell BK634.out 11).trans rfl
    have hfs33 := blk_frozen BK634.out 11
    have hns33_0 := NB602_634.out
    have hms33_0 := NB634_602.out
    have hs34 : w20.cell? ⟨gb634, 12, none⟩ = some (.int .i64 0) := (blk_cell BK634.out 12).trans rfl
    have hfs34 := blk_frozen BK634.out 12
    have hns34_0 := NB602_634.out
    have hms34_0 := NB634_602.out
    refine skip_ (w1 := ?_) (by rfl) rfl ?_ ?_
    rotate_left
    · go_simp
      rfl
    refine hK.out _ _ ⟨((cf_paybooklaw13_AccountDues gb634 NB602_634.out _).trans (((cf_paybooklaw13_AccountDues gb634 NB602_634.out _).trans (((cf_paybooklaw13_AccountDues gb634 NB602_634.out _).trans (((cf_paybooklaw13_AccountDues gb634 NB602_634.out _).trans (((cf_paybooklaw13_AccountDues gb634 NB602_634.out _).trans (((cf_paybooklaw13_AccountDues gb634 NB602_634.out _).trans (((cf_paybooklaw13_AccountDues gb634 NB602_634.out _).trans (((cf_paybooklaw13_AccountDues gb634 NB602_634.out _).trans (((cf_paybooklaw13_AccountDues gb634 NB602_634.out _).trans (((cf_paybooklaw13_AccountDues gb634 NB602_634.out _).trans (((cf_paybooklaw13_AccountDues gb634 NB602_634.out _).trans (((cf_paybooklaw13_AccountDues gb634 NB602_634.out _).trans (((cf_paybooklaw13_AccountDues gb634 NB602_634.out _).trans (hHeld.1)))))))))))))))))))))))))), ((cf_paybooklaw13_AccountDues gb634 NB602_634.out _).trans (((cf_paybooklaw13_AccountDues gb634 NB602_634.out _).trans (((cf_paybooklaw13_AccountDues gb634 NB602_634.out _).trans (((cf_paybooklaw13_AccountDues gb634 NB602_634.out _).trans (((cf_paybooklaw13_AccountDues gb634 NB602_634.out _).trans (((cf_paybooklaw13_AccountDues gb634 NB602_634.out _).trans (((cf_paybooklaw13_AccountDues gb634 NB602_634.out _).trans (((cf_paybooklaw13_AccountDues gb634 NB602_634.out _).trans (((cf_paybooklaw13_AccountDues gb634 NB602_634.out _).trans (((cf_paybooklaw13_AccountDues gb634 NB602_634.out _).trans (((cf_paybooklaw13_AccountDues gb634 NB602_634.out _).trans (((cf_paybooklaw13_AccountDues gb634 NB602_634.out _).trans (((cf_paybooklaw13_AccountDues gb634 NB602_634.out _).trans (hHeld.2.1)))))))))))))))))))))))))), ((cf_paybooklaw13_AccountDues gb634 NB602_634.out _).trans (((cf_paybooklaw13_AccountDues gb634 NB602_634.out _).trans (((cf_paybooklaw13_AccountDues gb634 NB602_634.out _).trans (((cf_paybooklaw13_AccountDues gb634 NB602_634.out _).trans (((cf_paybooklaw13_AccountDues gb634 NB602_634.out _).trans (((cf_paybooklaw13_AccountDues gb634 NB602_634.out _).trans (((cf_paybooklaw13_AccountDues gb634 NB602_634.out _).trans (((cf_paybooklaw13_AccountDues gb634 NB602_634.out _).trans (((cf_paybooklaw13_AccountDues gb634 NB602_634.out _).trans (((cf_paybooklaw13_AccountDues gb634 NB602_634.out _).trans (((cf_paybooklaw13_AccountDues gb634 NB602_634.out _).trans (((cf_paybooklaw13_AccountDues gb634 NB602_634.out _).trans (((cf_paybooklaw13_AccountDues gb634 NB602_634.out _).trans (hHeld.2.2.1)))))))))))))))))))))))))), ((cf_paybooklaw13_AccountDues gb634 NB602_634.out _).trans (((cf_paybooklaw13_AccountDues gb634 NB602_634.out _).trans (((cf_paybooklaw13_AccountDues gb634 NB602_634.out _).trans (((cf_paybooklaw13_AccountDues gb634 NB602_634.out _).trans (((cf_paybooklaw13_AccountDues gb634 NB602_634.out _).trans (((cf_paybooklaw13_AccountDues gb634 NB602_634.out _).trans (((cf_paybooklaw13_AccountDues gb634 NB602_634.out _).trans (((cf_paybooklaw13_AccountDues gb634 NB602_634.out _).trans (((cf_paybooklaw13_AccountDues gb634 NB602_634.out _).trans (((cf_paybooklaw13_AccountDues gb634 NB602_634.out _).trans (((cf_paybooklaw13_AccountDues gb634 NB602_634.out _).trans (((cf_paybooklaw13_AccountDues gb634 NB602_634.out _).trans (((cf_paybooklaw13_AccountDues gb634 NB602_634.out _).trans (hHeld.2.2.2.1)))))))))))))))))))))))))), ((cf_paybooklaw13_AccountDues gb634 NB602_634.out _).trans (((cf_paybooklaw13_AccountDues gb634 NB602_634.out _).trans (((cf_paybooklaw13_AccountDues gb634 NB602_634.out _).trans (((cf_paybooklaw13_AccountDues gb634 NB602_634.out _).trans (((cf_paybooklaw13_AccountDues gb634 NB602_634.out _).trans (((cf_paybooklaw13_AccountDues gb634 NB602_634.out _).trans (((cf_paybooklaw13_AccountDues gb634 NB602_634.out _).trans (((cf_paybooklaw13_AccountDues gb634 NB602_634.out _).trans (((cf_paybooklaw13_AccountDues gb634 NB602_634.out _).trans (((cf_paybooklaw13_AccountDues gb634 NB602_634.out _).trans (((cf_paybooklaw13_AccountDues gb634 NB602_634.out _).trans (((cf_paybooklaw13_AccountDues gb634 NB602_634.out _).trans (((cf_paybooklaw13_AccountDues gb634 NB602_634.out _).trans (hHeld.2.2.2.2.1)))))))))))))))))))))))))), ((cf_paybooklaw13_AccountDues gb634 NB602_634.out _).trans (((cf_paybooklaw13_AccountDues gb634 NB602_634.out _).trans (((cf_paybooklaw13_AccountDues gb634 NB602_634.out _).trans (((cf_paybooklaw13_AccountDues gb634 NB602_634.out _).trans (((cf_paybooklaw13_AccountDues gb634 NB602_634.out _).trans (((cf_paybooklaw13_AccountDues gb634 NB602_634.out _).trans (((cf_paybooklaw13_AccountDues gb634 NB602_634.out _).trans (((cf_paybooklaw13_AccountDues gb634 NB602_634.out _).trans (((cf_paybooklaw13_AccountDues gb634 NB602_634.out _).trans (((cf_paybooklaw13_AccountDues gb634 NB602_634.out _).trans (((cf_paybooklaw13_AccountDues gb634 NB602_634.out _).trans (((cf_paybooklaw13_AccountDues gb634 NB602_634.out _).trans (((cf_paybooklaw13_AccountDues gb634 NB602_634.out _).trans (hHeld.2.2.2.2.2))))))))))))))))))))))))))⟩ (fun hHeld => ?_)
    clear hK K
    refine pure_ (i := 14) (N := some 10) (v := ?_) (a' := ?_) #[true, true, true, true, true, true, true, true, true, true, true, true, true, true, true] rfl rfl (any_of HT_.out (by kernel_rfl)) (fun _ _ _ h => h) (Or.inl ⟨by rfl, ?_⟩) ?_ ?_
    rotate_left
    · intro w'
      go_simp
      with_reducible rfl
    rotate_left
    · simp only [Act.put, List.setIfInBounds_toArray, List.set_cons_zero, List.set_cons_succ, i64_w, i32_w]
      rfl
    refine done_ (done_of HT_.out (by kernel_rfl)) ?_
    go_upto_region 9 with (fail)
    go_cut [54] (fun v54 wc => ∃ (kq : Nat) (x54_8 : Bool), v54 = .bool x54_8 ∧ Aside0 (paybooklaw13_AccountDues.j0 kq a2 (wrap64 (700000 + (wrap64 (a1)))) x54_8 9 t597 t598 t599 true false t618 t619 t620 t621 t622 t623 t624 t625 t628 t629 t630 t631 t632 = some r) ∧ Aside0 (kq ≤ k) ∧ Aside0 (Kd.R k37 37 wc w.heap.size (fun _ => True) (.slice Ao28 t625.length co28) t625) ∧ Aside0 (wc.heap[gb602]? = some (.cells #[.int .i64 9, .int .u8 t597, .int .i64 t598, .int .i64 t599, .bool true, .bool false] 25 (0, 0))) ∧ Aside0 (wc.heap[gb634]? = some (.cells #[.int .u8 t618, .int .i64 t619, .int .i64 t620, .int .i64 t621, .int .i64 t622, .int .i64 t623, .bool t624, (.slice Ao28 t625.length co28), .int .i64 t628, .int .i64 t629, .int .i64 t630, .int .i64 t631, .int .i64 t632] 31 (0, 0))) ∧ Aside0 (Below w.heap.size w wc))
    case first =>
      have H := HC9.out
      clear HC9
      by_cases c35 : t633 = 0
      · rw [if_pos c35] at H
        have c35b0 : (t633 == 0) = true := beq_iff_eq.mpr c35
        have c35b1 : (t633 != 0) = false := bne_eq_false_iff_eq.mpr c35
        clear c35
        (first | rw [c35b0] | (simp only [i64_w, i32_w]; rw [c35b0]) | skip)
        by_cases c36 : (t625.length : Int) = t622
        · rw [if_pos c36] at H
          have c36b0 : ((t625.length : Int) == t622) = true := beq_iff_eq.mpr c36
          have c36b1 : ((t625.length : Int) != t622) = false := bne_eq_false_iff_eq.mpr c36
          clear c36
          have H' := Aside0.mk H
          clear H
          have hnb37 := NB634_602.out
          have hnc37 := NB602_634.out
          obtain ⟨hcz38_0, hcz38_1, hcz38_2, hcz38_3, hcz38_4, hcz38_5, hcz38_6, hcz38_7, hcz38_8, hcz38_9, hcz38_10, hcz38_11, hcz38_12⟩ := bc13 BK634.out
          obtain ⟨hfz38_0, hfz38_1, hfz38_2, hfz38_3, hfz38_4, hfz38_5, hfz38_6, hfz38_7, hfz38_8, hfz38_9, hfz38_10, hfz38_11, hfz38_12⟩ := bf13 BK634.out
          go_wp2
          go_meet
          case rel => exact ⟨_, ((t621 != t622)), (by first | rfl | (simp; done) | (simp [*]; done)), H', ⟨by first | omega | exact Nat.le_refl _⟩, ⟨by (with_reducible repeat (first | apply Kd.R_alloc | apply Kd.R_drewN | apply Kd.R_drew)); exact Kd.R_mono (Kd.R_step (Kd.R_types HO627.out BK634.out (by decide)) (fun _ hk _ => by (with_reducible repeat (first | refine (hst (g := gb634) hk.2 _ _).trans ?_ | refine (hdn _ _ _).trans ?_ | refine (hd1 _ _).trans ?_)); rfl)) (fun _ hk => trivial)⟩, ⟨by (with_reducible repeat (first | refine blk_drewN ?_ _ | refine blk_drew ?_ | refine blk_alloc ?_ _ | refine blk_far ?_ NB602_634.out _)); exact BK602.out⟩, ⟨by (with_reducible repeat (first | refine blk_drewN ?_ _ | refine blk_drew ?_ | refine blk_alloc ?_ _)); refine bp13 (.int .u8 0) (.int .i64 0) (.int .i64 0) (.int .i64 0) (.int .i64 0) (.int .i64 0) (.bool false) (.slice none 0 0) (.int .i64 0) (.int .i64 0) (.int .i64 0) (.int .i64 0) (.int .i64 0) ?_; (with_reducible repeat (first | refine blk_drewN ?_ _ | refine blk_drew ?_ | refine blk_alloc ?_ _)); exact BK634.out⟩, ⟨by repeat (first | (with_reducible first | exact HB.out | apply below_alloc | apply pw_below_drewN | apply below_drew1 | refine below_set ?_ GE602.out | refine below_set ?_ GE634.out) | exact HB.out)⟩⟩
        · rw [if_neg c36] at H
          have c36b0 : ((t625.length : Int) == t622) = false := beq_eq_false_iff_ne.mpr c36
          have c36b1 : ((t625.length : Int) != t622) = true := bne_iff_ne.mpr c36
          have H' := Aside0.mk H
          clear H
          have hnb39 := NB634_602.out
          have hnc39 := NB602_634.out
          obtain ⟨hcz40_0, hcz40_1, hcz40_2, hcz40_3, hcz40_4, hcz40_5, hcz40_6, hcz40_7, hcz40_8, hcz40_9, hcz40_10, hcz40_11, hcz40_12⟩ := bc13 BK634.out
          obtain ⟨hfz40_0, hfz40_1, hfz40_2, hfz40_3, hfz40_4, hfz40_5, hfz40_6, hfz40_7, hfz40_8, hfz40_9, hfz40_10, hfz40_11, hfz40_12⟩ := bf13 BK634.out
          go_wp2
          go_meet
          case rel => exact ⟨_, (true), (by first | rfl | (simp; done) | (simp [*]; done)), H', ⟨by first | omega | exact Nat.le_refl _⟩, ⟨by (with_reducible repeat (first | apply Kd.R_alloc | apply Kd.R_drewN | apply Kd.R_drew)); exact Kd.R_mono (Kd.R_step (Kd.R_types HO627.out BK634.out (by decide)) (fun _ hk _ => by (with_reducible repeat (first | refine (hst (g := gb634) hk.2 _ _).trans ?_ | refine (hdn _ _ _).trans ?_ | refine (hd1 _ _).trans ?_)); rfl)) (fun _ hk => trivial)⟩, ⟨by (with_reducible repeat (first | refine blk_drewN ?_ _ | refine blk_drew ?_ | refine blk_alloc ?_ _ | refine blk_far ?_ NB602_634.out _)); exact BK602.out⟩, ⟨by (with_reducible repeat (first | refine blk_drewN ?_ _ | refine blk_drew ?_ | refine blk_alloc ?_ _)); refine bp13 (.int .u8 0) (.int .i64 0) (.int .i64 0) (.int .i64 0) (.int .i64 0) (.int .i64 0) (.bool false) (.slice none 0 0) (.int .i64 0) (.int .i64 0) (.int .i64 0) (.int .i64 0) (.int .i64 0) ?_; (with_reducible repeat (first | refine blk_drewN ?_ _ | refine blk_drew ?_ | refine blk_alloc ?_ _)); exact BK634.out⟩, ⟨by repeat (first | (with_reducible first | exact HB.out | apply below_alloc | apply pw_below_drewN | apply below_drew1 | refine below_set ?_ GE602.out | refine below_set ?_ GE634.out) | exact HB.out)⟩⟩
      · rw [if_neg c35] at H
        have c35b0 : (t633 == 0) = false := beq_eq_false_iff_ne.mpr c35
        have c35b1 : (t633 != 0) = true := bne_iff_ne.mpr c35
        (first | rw [c35b0] | (simp only [i64_w, i32_w]; rw [c35b0]) | skip)
        have H' := Aside0.mk H
        clear H
        go_wp2
        go_meet
        case rel => exact ⟨_, (true), (by first | rfl | (simp; done) | (simp [*]; done)), H', ⟨by first | omega | exact Nat.le_refl _⟩, ⟨by (with_reducible repeat (first | apply Kd.R_alloc | apply Kd.R_drewN | apply Kd.R_drew)); exact Kd.R_mono (Kd.R_step (Kd.R_types HO627.out BK634.out (by decide)) (fun _ hk _ => by (with_reducible repeat (first | refine (hst (g := gb634) hk.2 _ _).trans ?_ | refine (hdn _ _ _).trans ?_ | refine (hd1 _ _).trans ?_)); rfl)) (fun _ hk => trivial)⟩, ⟨by (with_reducible repeat (first | refine blk_drewN ?_ _ | refine blk_drew ?_ | refine blk_alloc ?_ _ | refine blk_far ?_ NB602_634.out _)); exact BK602.out⟩, ⟨by (with_reducible repeat (first | refine blk_drewN ?_ _ | refine blk_drew ?_ | refine blk_alloc ?_ _)); refine bp13 (.int .u8 0) (.int .i64 0) (.int .i64 0) (.int .i64 0) (.int .i64 0) (.int .i64 0) (.bool false) (.slice none 0 0) (.int .i64 0) (.int .i64 0) (.int .i64 0) (.int .i64 0) (.int .i64 0) ?_; (with_reducible repeat (first | refine blk_drewN ?_ _ | refine blk_drew ?_ | refine blk_alloc ?_ _)); exact BK634.out⟩, ⟨by repeat (first | (with_reducible first | exact HB.out | apply below_alloc | apply pw_below_drewN | apply below_drew1 | refine below_set ?_ GE602.out | refine below_set ?_ GE634.out) | exact HB.out)⟩⟩
    case rest =>
      clear HC9
      try clear c1
      try clear p2
      try clear c3
      try clear p6
      try clear c11
      try clear c12
      try clear c35
      try clear c35b0
      try clear c35b1
      try clear c36
      try clear c36b0
      try clear c36b1
      try clear c37
      try clear c39
      try clear hcz38_0
      try clear hcz38_1
      try clear hcz38_10
      try clear hcz38_11
      try clear hcz38_12
      try clear hcz38_2
      try clear hcz38_3
      try clear hcz38_4
      try clear hcz38_5
      try clear hcz38_6
      try clear hcz38_7
      try clear hcz38_8
      try clear hcz38_9
      try clear hcz40_0
      try clear hcz40_1
      try clear hcz40_10
      try clear hcz40_11
      try clear hcz40_12
      try clear hcz40_2
      try clear hcz40_3
      try clear hcz40_4
      try clear hcz40_5
      try clear hcz40_6
      try clear hcz40_7
      try clear hcz40_8
      try clear hcz40_9
      try clear hfz38_0
      try clear hfz38_1
      try clear hfz38_10
      try clear hfz38_11
      try clear hfz38_12
      try clear hfz38_2
      try clear hfz38_3
      try clear hfz38_4
      try clear hfz38_5
      try clear hfz38_6
      try clear hfz38_7
      try clear hfz38_8
      try clear hfz38_9
      try clear hfz40_0
      try clear hfz40_1
      try clear hfz40_10
      try clear hfz40_11
      try clear hfz40_12
      try clear hfz40_2
      try clear hfz40_3
      try clear hfz40_4
      try clear hfz40_5
      try clear hfz40_6
      try clear hfz40_7
      try clear hfz40_8
      try clear hfz40_9
      (try clear HO_635007); (try clear BK602); (try clear BK634); (try clear HB); obtain ⟨kq, x54_8, rfl, HA, HJ8, HO_635007, BK602, BK634, HB⟩ := hcut
      cases kq with
      | zero => exact absurd HA.out (by simp [paybooklaw13_AccountDues.j0])
      | succ kj8 =>
        have H := HA.out
        clear HA
        simp only [paybooklaw13_AccountDues.j0] at H
        by_cases c41 : x54_8 = true
        · subst c41
          have H1 : (none) = some r := by rw [if_pos rfl] at H; exact H
          clear H
          have H := H1
          clear H1
          exact absurd H (by simp)
        · replace c41 := Bool.eq_false_iff.mpr c41
          subst c41
          have H1 : (paybooklaw13_AccountDues.l0 kj8 a2 (wrap64 (700000 + (wrap64 (a1)))) 0 9 t597 t598 t599 true false t618 t619 t620 t621 t622 t623 t624 t625 t628 t629 t630 t631 t632) = some r := by rw [if_neg (show ¬ (false = true) by decide)] at H; exact H
          clear H
          have H := H1
          clear H1
          have H' := Aside0.mk H
          clear H
          go_wp2
          go_loopg [11] kj8 (fun kq v11 w' => ∃ (x11_2 : Int), v11 = .int .i64 x11_2 ∧ Aside0 (paybooklaw13_AccountDues.l0 kq a2 (wrap64 (700000 + (wrap64 (a1)))) x11_2 9 t597 t598 t599 true false t618 t619 t620 t621 t622 t623 t624 t625 t628 t629 t630 t631 t632 = some r) ∧ Aside0 (kq ≤ kj8) ∧ Aside0 (Kd.R k37 37 w' w.heap.size (fun _ => True) (.slice Ao28 t625.length co28) t625) ∧ Aside0 (w'.heap[gb602]? = some (.cells #[.int .i64 9, .int .u8 t597, .int .i64 t598, .int .i64 t599, .bool true, .bool false] 25 (0, 0))) ∧ Aside0 (w'.heap[gb634]? = some (.cells #[.int .u8 t618, .int .i64 t619, .int .i64 t620, .int .i64 t621, .int .i64 t622, .int .i64 t623, .bool t624, (.slice Ao28 t625.length co28), .int .i64 t628, .int .i64 t629, .int .i64 t630, .int .i64 t631, .int .i64 t632] 31 (0, 0))) ∧ Aside0 (Below w.heap.size w w'))
          case atStart => exact ⟨(0), (by first | rfl | (simp; done) | (simp [*]; done)), H', ⟨Nat.le_refl _⟩, ⟨by (with_reducible repeat (first | apply Kd.R_alloc | apply Kd.R_drewN | apply Kd.R_drew)); exact HO_635007.out⟩, ⟨by (with_reducible repeat (first | refine blk_drewN ?_ _ | refine blk_drew ?_ | refine blk_alloc ?_ _)); exact BK602.out⟩, ⟨by (with_reducible repeat (first | refine blk_drewN ?_ _ | refine blk_drew ?_ | refine blk_alloc ?_ _)); exact BK634.out⟩, ⟨by repeat (first | (with_reducible first | exact HB.out | apply below_alloc | apply pw_below_drewN | apply below_drew1 | refine below_set ?_ GE602.out | refine below_set ?_ GE634.out) | exact HB.out)⟩⟩
          case round =>
            clear H'
            try clear c1
            try clear p2
            try clear c3
            try clear c4
            try clear p6
            try clear c11
            try clear c12
            try clear c35
            try clear c35b0
            try clear c35b1
            try clear c36
            try clear c36b0
            try clear c36b1
            try clear c37
            try clear c39
            try clear c41
            try clear hcz38_0
            try clear hcz38_1
            try clear hcz38_10
            try clear hcz38_11
            try clear hcz38_12
            try clear hcz38_2
            try clear hcz38_3
            try clear hcz38_4
            try clear hcz38_5
            try clear hcz38_6
            try clear hcz38_7
            try clear hcz38_8
            try clear hcz38_9
            try clear hcz40_0
            try clear hcz40_1
            try clear hcz40_10
            try clear hcz40_11
            try clear hcz40_12
            try clear hcz40_2
            try clear hcz40_3
            try clear hcz40_4
            try clear hcz40_5
            try clear hcz40_6
            try clear hcz40_7
            try clear hcz40_8
            try clear hcz40_9
            try clear hfz38_0
            try clear hfz38_1
            try clear hfz38_10
            try clear hfz38_11
            try clear hfz38_12
            try clear hfz38_2
            try clear hfz38_3
            try clear hfz38_4
            try clear hfz38_5
            try clear hfz38_6
            try clear hfz38_7
            try clear hfz38_8
            try clear hfz38_9
            try clear hfz40_0
            try clear hfz40_1
            try clear hfz40_10
            try clear hfz40_11
            try clear hfz40_12
            try clear hfz40_2
            try clear hfz40_3
            try clear hfz40_4
            try clear hfz40_5
            try clear hfz40_6
            try clear hfz40_7
            try clear hfz40_8
            try clear hfz40_9
            try clear p2
            try clear p6
            (try clear HK2); (try clear HO_635007); (try clear BK602); (try clear BK634); (try clear HB); obtain ⟨x11_2, rfl, HA, HK2, HO_635007, BK602, BK634, HB⟩ := hrel
            cases gk with
            | zero => exact absurd HA.out (by simp [paybooklaw13_AccountDues.l0])
            | succ k2 =>
              have H := HA.out
              clear HA
              simp only [paybooklaw13_AccountDues.l0] at H
              by_cases c42 : x11_2 < (t625.length : Int)
              · rw [if_pos c42] at H
                have c42b0 : decide (x11_2 < (t625.length : Int)) = true := decide_eq_true c42
                clear c42
                replace H := Option.bind_eq_some_iff.mp H
                obtain ⟨⟨t635, t636⟩, A430, H⟩ := H
                replace H : (if t636 = true then (if 0 ≤ x11_2 then (if ((rd_T37 t625 x11_2).f0) = x11_2 then (if ((rd_T37 t625 x11_2).f1) = t635 then (if t635 > (wrap64 ((wrap64 (700000 + (wrap64 (a1)))) + (wrap64 (a2)))) then (none) else (paybooklaw13_AccountDues.l0 k2 a2 (wrap64 (700000 + (wrap64 (a1)))) (wrap64 (x11_2 + 1)) 9 t597 t598 t599 true false t618 t619 t620 t621 t622 t623 t624 t625 t628 t629 t630 t631 t632)) else (none)) else (none)) else (none)) else (none)) = some r := H
                have A43 := Aside0.mk A430
                clear A430
                by_cases c44 : t636 = true
                · subst c44
                  have H1 : (if 0 ≤ x11_2 then (if ((rd_T37 t625 x11_2).f0) = x11_2 then (if ((rd_T37 t625 x11_2).f1) = t635 then (if t635 > (wrap64 ((wrap64 (700000 + (wrap64 (a1)))) + (wrap64 (a2)))) then (none) else (paybooklaw13_AccountDues.l0 k2 a2 (wrap64 (700000 + (wrap64 (a1)))) (wrap64 (x11_2 + 1)) 9 t597 t598 t599 true false t618 t619 t620 t621 t622 t623 t624 t625 t628 t629 t630 t631 t632)) else (none)) else (none)) else (none)) = some r := by rw [if_pos rfl] at H; exact H
                  clear H
                  have H := H1
                  clear H1
                  by_cases c45 : 0 ≤ x11_2
                  · rw [if_pos c45] at H
                    have c45b0 : decide (0 ≤ x11_2) = true := decide_eq_true c45
                    clear c45
                    by_cases c46 : ((rd_T37 t625 x11_2).f0) = x11_2
                    · rw [if_pos c46] at H
                      have c46b0 : (((rd_T37 t625 x11_2).f0) == x11_2) = true := beq_iff_eq.mpr c46
                      have c46b1 : (((rd_T37 t625 x11_2).f0) != x11_2) = false := bne_eq_false_iff_eq.mpr c46
                      clear c46
                      by_cases c47 : ((rd_T37 t625 x11_2).f1) = t635
                      · rw [if_pos c47] at H
                        have c47b0 : (((rd_T37 t625 x11_2).f1) == t635) = true := beq_iff_eq.mpr c47
                        have c47b1 : (((rd_T37 t625 x11_2).f1) != t635) = false := bne_eq_false_iff_eq.mpr c47
                        clear c47
                        by_cases c48 : t635 > (wrap64 ((wrap64 (700000 + (wrap64 (a1)))) + (wrap64 (a2))))
                        · rw [if_pos c48] at H
                          exact absurd H (by simp)
                        · rw [if_neg c48] at H
                          have c48b0 : decide ((wrap64 ((wrap64 (700000 + (wrap64 (a1)))) + (wrap64 (a2)))) < t635) = false := decide_eq_false c48
                          clear c48
                          have H' := Aside0.mk H
                          clear H
                          have hnb49 := NB634_602.out
                          have hnc49 := NB602_634.out
                          obtain ⟨hcz50_0, hcz50_1, hcz50_2, hcz50_3, hcz50_4, hcz50_5, hcz50_6, hcz50_7, hcz50_8, hcz50_9, hcz50_10, hcz50_11, hcz50_12⟩ := bc13 BK634.out
                          obtain ⟨hfz50_0, hfz50_1, hfz50_2, hfz50_3, hfz50_4, hfz50_5, hfz50_6, hfz50_7, hfz50_8, hfz50_9, hfz50_10, hfz50_11, hfz50_12⟩ := bf13 BK634.out
                          obtain ⟨hcz51_0, hcz51_1, hcz51_2, hcz51_3, hcz51_4, hcz51_5⟩ := bc6 BK602.out
                          obtain ⟨hfz51_0, hfz51_1, hfz51_2, hfz51_3, hfz51_4, hfz51_5⟩ := bf6 BK602.out
                          go_wp2_with (first | ((with_reducible refine gate_callee (f := 13) rfl ?_); refine goesL_ (some 72) rfl rfl Try.func13 (by kernel_rfl) rfl #[.int .i64 (wrap64 ((wrap64 (700000 + (wrap64 (a1)))) + t599)), .int .u8 t597, .int .i64 t598, .int .i64 x11_2] rfl (by (try simp only [List.map_toArray, List.map_cons, List.map_nil]); first | done | rfl | (simp only [List.length_drop, List.length_take]; rfl)) ?_; (with_reducible refine (paybookref01_Nth.calls k2 (wrap64 ((wrap64 (700000 + (wrap64 (a1)))) + t599)) t597 t598 x11_2 t635 true _ A43.out).mono ?_); rintro e w52 ⟨rfl, hb⟩; refine ⟨_, rfl, ?_⟩; have n0_ := Aside0.mk (Kd.R_below (by (with_reducible repeat (first | apply Kd.R_alloc | apply Kd.R_drewN | apply Kd.R_drew)); exact HO_635007.out) hb); have n1_ := Aside0.mk (blk_below (g := gb602) (o := .cells #[.int .i64 9, .int .u8 t597, .int .i64 t598, .int .i64 t599, .bool true, .bool false] 25 (0, 0)) (by (with_reducible repeat (first | refine blk_drewN ?_ _ | refine blk_drew ?_ | refine blk_alloc ?_ _)); exact BK602.out) hb); have n2_ := Aside0.mk (blk_below (g := gb634) (o := .cells #[.int .u8 t618, .int .i64 t619, .int .i64 t620, .int .i64 t621, .int .i64 t622, .int .i64 t623, .bool t624, .slice Ao28 t625.length co28, .int .i64 t628, .int .i64 t629, .int .i64 t630, .int .i64 t631, .int .i64 t632] 31 (0, 0)) (by (with_reducible repeat (first | refine blk_drewN ?_ _ | refine blk_drew ?_ | refine blk_alloc ?_ _)); exact BK634.out) hb); have n3_ := Aside0.mk (below_step (by repeat (first | (with_reducible first | exact HB.out | apply below_alloc | apply pw_below_drewN | apply below_drew1 | refine below_set ?_ GE602.out | refine below_set ?_ GE634.out) | exact HB.out)) hb); clear HO_635007; clear BK602; clear BK634; clear HB; have HO_635007 := n0_; have BK602 := n1_; have BK634 := n2_; have HB := n3_; clear n0_ n1_ n2_ n3_; (try clear hb); (try clear hb2); (try clear hk); (try clear hi); obtain ⟨hcz53_0, hcz53_1, hcz53_2, hcz53_3, hcz53_4, hcz53_5, hcz53_6, hcz53_7, hcz53_8, hcz53_9, hcz53_10, hcz53_11, hcz53_12⟩ := bc13 BK634.out; obtain ⟨hfz53_0, hfz53_1, hfz53_2, hfz53_3, hfz53_4, hfz53_5, hfz53_6, hfz53_7, hfz53_8, hfz53_9, hfz53_10, hfz53_11, hfz53_12⟩ := bf13 BK634.out; have p637 : 0 ≤ (x11_2 : Int) := of_decide_eq_true (by first | (with_reducible assumption) | assumption); have q637 : x11_2 < (t625.length : Int) := of_decide_eq_true (by first | (with_reducible assumption) | assumption); obtain ⟨ad637, e637, hx637_0, hx637_1, hx637_2, hx637_3, hx637_4, hx637_5, hx637_6, hx637_7⟩ := at_T37 (Kd.R_reads' HO_635007.out).2.2 x11_2 p637 q637; cases e637; replace p637 := eq_true p637; replace q637 := eq_true q637; have p638 : 0 ≤ (x11_2 : Int) := of_decide_eq_true (by first | (with_reducible assumption) | assumption); have q638 : x11_2 < (t625.length : Int) := of_decide_eq_true (by first | (with_reducible assumption) | assumption); obtain ⟨ad638, e638, hx638_0, hx638_1, hx638_2, hx638_3, hx638_4, hx638_5, hx638_6, hx638_7⟩ := at_T37 (Kd.R_reads' HO_635007.out).2.2 x11_2 p638 q638; obtain rfl : ad637 = ad638 := (by injection e638); replace p638 := eq_true p638; replace q638 := eq_true q638))
                          go_roundg k2
                          case measure => have := HJ8.out; have := HK2.out; omega
                          case rel => exact ⟨(wrap64 (x11_2 + 1)), (by first | rfl | (simp; done) | (simp [*]; done)), H', ⟨by have := HJ8.out; have := HK2.out; omega⟩, ⟨by (with_reducible repeat (first | apply Kd.R_alloc | apply Kd.R_drewN | apply Kd.R_drew)); exact HO_635007.out⟩, ⟨by (with_reducible repeat (first | refine blk_drewN ?_ _ | refine blk_drew ?_ | refine blk_alloc ?_ _)); exact BK602.out⟩, ⟨by (with_reducible repeat (first | refine blk_drewN ?_ _ | refine blk_drew ?_ | refine blk_alloc ?_ _)); exact BK634.out⟩, ⟨by repeat (first | (with_reducible first | exact HB.out | apply below_alloc | apply pw_below_drewN | apply below_drew1 | refine below_set ?_ GE602.out | refine below_set ?_ GE634.out) | exact HB.out)⟩⟩
                      · rw [if_neg c47] at H
                        exact absurd H (by simp)
                    · rw [if_neg c46] at H
                      exact absurd H (by simp)
                  · rw [if_neg c45] at H
                    exact absurd H (by simp)
                · replace c44 := Bool.eq_false_iff.mpr c44
                  subst c44
                  have H1 : (none) = some r := by rw [if_neg (show ¬ (false = true) by decide)] at H; exact H
                  clear H
                  have H := H1
                  clear H1
                  exact absurd H (by simp)
              · rw [if_neg c42] at H
                have c42b0 : decide (x11_2 < (t625.length : Int)) = false := decide_eq_false c42
                clear c42
                replace H := Option.bind_eq_some_iff.mp H
                obtain ⟨⟨t639, t640⟩, A540, H⟩ := H
                replace H : (if t640 = true then (some (decide (t639 > (wrap64 ((wrap64 (700000 + (wrap64 (a1)))) + (wrap64 (a2))))))) else (none)) = some r := H
                have A54 := Aside0.mk A540
                clear A540
                by_cases c55 : t640 = true
                · subst c55
                  have H1 : (some (decide (t639 > (wrap64 ((wrap64 (700000 + (wrap64 (a1)))) + (wrap64 (a2))))))) = some r := by rw [if_pos rfl] at H; exact H
                  clear H
                  have H := H1
                  clear H1
                  obtain rfl := Option.some.inj H
                  have hnb56 := NB634_602.out
                  have hnc56 := NB602_634.out
                  obtain ⟨hcz57_0, hcz57_1, hcz57_2, hcz57_3, hcz57_4, hcz57_5, hcz57_6, hcz57_7, hcz57_8, hcz57_9, hcz57_10, hcz57_11, hcz57_12⟩ := bc13 BK634.out
                  obtain ⟨hfz57_0, hfz57_1, hfz57_2, hfz57_3, hfz57_4, hfz57_5, hfz57_6, hfz57_7, hfz57_8, hfz57_9, hfz57_10, hfz57_11, hfz57_12⟩ := bf13 BK634.out
                  obtain ⟨hcz58_0, hcz58_1, hcz58_2, hcz58_3, hcz58_4, hcz58_5⟩ := bc6 BK602.out
                  obtain ⟨hfz58_0, hfz58_1, hfz58_2, hfz58_3, hfz58_4, hfz58_5⟩ := bf6 BK602.out
                  go_wp2_with (first | ((with_reducible refine gate_callee (f := 13) rfl ?_); refine goesL_ (some 116) rfl rfl Try.func13 (by kernel_rfl) rfl #[.int .i64 (wrap64 ((wrap64 (700000 + (wrap64 (a1)))) + t599)), .int .u8 t597, .int .i64 t598, .int .i64 t622] rfl (by (try simp only [List.map_toArray, List.map_cons, List.map_nil]); first | done | rfl | (simp only [List.length_drop, List.length_take]; rfl)) ?_; (with_reducible refine (paybookref01_Nth.calls k2 (wrap64 ((wrap64 (700000 + (wrap64 (a1)))) + t599)) t597 t598 t622 t639 true _ A54.out).mono ?_); rintro e w59 ⟨rfl, hb⟩; refine ⟨_, rfl, ?_⟩; have n0_ := Aside0.mk (Kd.R_below (by (with_reducible repeat (first | apply Kd.R_alloc | apply Kd.R_drewN | apply Kd.R_drew)); exact HO_635007.out) hb); have n1_ := Aside0.mk (blk_below (g := gb602) (o := .cells #[.int .i64 9, .int .u8 t597, .int .i64 t598, .int .i64 t599, .bool true, .bool false] 25 (0, 0)) (by (with_reducible repeat (first | refine blk_drewN ?_ _ | refine blk_drew ?_ | refine blk_alloc ?_ _)); exact BK602.out) hb); have n2_ := Aside0.mk (blk_below (g := gb634) (o := .cells #[.int .u8 t618, .int .i64 t619, .int .i64 t620, .int .i64 t621, .int .i64 t622, .int .i64 t623, .bool t624, .slice Ao28 t625.length co28, .int .i64 t628, .int .i64 t629, .int .i64 t630, .int .i64 t631, .int .i64 t632] 31 (0, 0)) (by (with_reducible repeat (first | refine blk_drewN ?_ _ | refine blk_drew ?_ | refine blk_alloc ?_ _)); exact BK634.out) hb); have n3_ := Aside0.mk (below_step (by repeat (first | (with_reducible first | exact HB.out | apply below_alloc | apply pw_below_drewN | apply below_drew1 | refine below_set ?_ GE602.out | refine below_set ?_ GE634.out) | exact HB.out)) hb); clear HO_635007; clear BK602; clear BK634; clear HB; have HO_635007 := n0_; have BK602 := n1_; have BK634 := n2_; have HB := n3_; clear n0_ n1_ n2_ n3_; (try clear hb); (try clear hb2); (try clear hk); (try clear hi)))
                  go_ret
                  exact ⟨by first | rfl | (simp [errW_none, errW_some] <;> rfl) | (simp [*, errW_none, errW_some] <;> rfl), by repeat (first | (with_reducible first | exact HB.out | apply below_alloc | apply pw_below_drewN | apply below_drew1 | refine below_set ?_ GE602.out | refine below_set ?_ GE634.out) | exact HB.out)⟩
                · replace c55 := Bool.eq_false_iff.mpr c55
                  subst c55
                  have H1 : (none) = some r := by rw [if_neg (show ¬ (false = true) by decide)] at H; exact H
                  clear H
                  have H := H1
                  clear H1
                  exact absurd H (by simp)
  · replace c5 := Bool.eq_false_iff.mpr c5
    subst c5
    have H1 : (none) = some r := by rw [if_neg (show ¬ (false = true) by decide)] at H; exact H
    clear H
    have H := H1
    clear H1
    exact absurd H (by simp)

/-- THE ONE PURE STATEMENT of paybooklaw13_AccountDues: yours. -/
def paybooklaw13_AccountDues.Pure : Prop := ∀ (a0 : Int) (a1 : Int) (a2 : Int), (Lit.int .u8 a0).wf = true → (Lit.int .u16 a1).wf = true → (Lit.int .u8 a2).wf = true → ∃ k, paybooklaw13_AccountDues.f k a0 a1 a2 = some true
theorem paybooklaw13_AccountDues.walk (P : paybooklaw13_AccountDues.Pure) (a0 : Int) (a1 : Int) (a2 : Int) (w : World) (w0 : (Lit.int .u8 a0).wf = true) (w1 : (Lit.int .u16 a1).wf = true) (w2 : (Lit.int .u8 a2).wf = true) :
    Calls Try.prog 5 #[.int .u8 a0, .int .u16 a1, .int .u8 a2] w fun e w' => e = .returned (.bool true) ∧ Below w.heap.size w w' := by
  obtain ⟨k, h⟩ := P a0 a1 a2 w0 w1 w2
  refine (paybooklaw13_AccountDues.calls k a0 a1 a2 true w h).mono ?_
  rintro e w' ⟨rfl, hd⟩
  exact ⟨rfl, hd⟩

end Go.Proofs.Ytnpcodfeggcdbaa.PAcc
