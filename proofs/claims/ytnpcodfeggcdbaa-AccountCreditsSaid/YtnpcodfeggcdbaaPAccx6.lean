-- Laid by wip/prt.py over the kit's print (Acc).
import Derived.Test.YtnpcodfeggcdbaaPAccx0
import Derived.Test.YtnpcodfeggcdbaaPAccx1
import Derived.Test.YtnpcodfeggcdbaaPAccx5
namespace Go.Proofs.Ytnpcodfeggcdbaa.PAcc
open Go.RowKit Go.Proofs.YtnpcodfeggcdbaaW.PrintWords Go.Proofs.YtnpcodfeggcdbaaW.PrintLast Go.Proofs.YtnpcodfeggcdbaaW.PrintMore
attribute [local go_sem] max2_int min2_int max_two min_two max_three min_three max_four min_four   -- for this text's walks alone
set_option linter.unusedVariables false
set_option linter.unusedSimpArgs false

/-! ### account_Name: function 20 -/
def account_Name.f (a0 : Int) : Option (ByteArray) := if a0 ≥ 4 then (if a0 ≤ 255 then some (⟨#[]⟩ : ByteArray) else none) else (if a0 = 0 then some (⟨#[110, 111, 116, 104, 105, 110, 103]⟩ : ByteArray) else (if a0 = 1 then some (⟨#[97, 99, 116, 105, 118, 101]⟩ : ByteArray) else (if a0 = 2 then some (⟨#[112, 97, 117, 115, 101, 100]⟩ : ByteArray) else (if a0 = 3 then some (⟨#[101, 110, 100, 101, 100]⟩ : ByteArray) else (none)))))
set_option maxHeartbeats 8000000 in
set_option maxRecDepth 100000 in
theorem account_Name.calls (a0 : Int) (r : ByteArray) (w : World) (h : account_Name.f a0 = some r) :
    Calls Try.prog 20 #[.int .u8 a0] w fun e w' => e = .returned (.string r) ∧ Below w.heap.size w w' := by
  unfold account_Name.f at h
  by_cases c0 : a0 ≥ 4
  · rw [if_pos c0] at h
    by_cases c1 : a0 ≤ 255
    · rw [if_pos c1] at h
      obtain rfl := Option.some.inj h
      go_enter Try.func20, Try.ntmps20
      go_wp2
      go_ret
      exact ⟨rfl, by repeat (first | exact Below.refl _ _ | apply below_setCell_new | apply below_alloc)⟩
    · rw [if_neg c1] at h; cases h
  · rw [if_neg c0] at h
    by_cases e0 : a0 = 0
    · subst e0
      obtain rfl := Option.some.inj h
      go_enter Try.func20, Try.ntmps20
      go_wp2
      go_ret
      exact ⟨rfl, by repeat (first | exact Below.refl _ _ | apply below_setCell_new | apply below_alloc)⟩
    rw [if_neg e0] at h
    by_cases e1 : a0 = 1
    · subst e1
      obtain rfl := Option.some.inj h
      go_enter Try.func20, Try.ntmps20
      go_wp2
      go_ret
      exact ⟨rfl, by repeat (first | exact Below.refl _ _ | apply below_setCell_new | apply below_alloc)⟩
    rw [if_neg e1] at h
    by_cases e2 : a0 = 2
    · subst e2
      obtain rfl := Option.some.inj h
      go_enter Try.func20, Try.ntmps20
      go_wp2
      go_ret
      exact ⟨rfl, by repeat (first | exact Below.refl _ _ | apply below_setCell_new | apply below_alloc)⟩
    rw [if_neg e2] at h
    by_cases e3 : a0 = 3
    · subst e3
      obtain rfl := Option.some.inj h
      go_enter Try.func20, Try.ntmps20
      go_wp2
      go_ret
      exact ⟨rfl, by repeat (first | exact Below.refl _ _ | apply below_setCell_new | apply below_alloc)⟩
    rw [if_neg e3] at h
    cases h

/-! ### paybooklaw13_awake: function 9 -/
def paybooklaw13_awake.f (k : Nat)  : Option (Bool) := (account_Open.f 0 10 0 5 30 false false 100).bind fun bt404 => ((account_Day.f k bt404.1 bt404.2.1 bt404.2.2.1 bt404.2.2.2.1 bt404.2.2.2.2.1 bt404.2.2.2.2.2.1 bt404.2.2.2.2.2.2.1 bt404.2.2.2.2.2.2.2.1 bt404.2.2.2.2.2.2.2.2.1 bt404.2.2.2.2.2.2.2.2.2.1 bt404.2.2.2.2.2.2.2.2.2.2.1 bt404.2.2.2.2.2.2.2.2.2.2.2.1 bt404.2.2.2.2.2.2.2.2.2.2.2.2 10 0 5 30 false false 129).bind fun bt420 => ((account_Day.f k bt420.1 bt420.2.1 bt420.2.2.1 bt420.2.2.2.1 bt420.2.2.2.2.1 bt420.2.2.2.2.2.1 bt420.2.2.2.2.2.2.1 bt420.2.2.2.2.2.2.2.1 bt420.2.2.2.2.2.2.2.2.1 bt420.2.2.2.2.2.2.2.2.2.1 bt420.2.2.2.2.2.2.2.2.2.2.1 bt420.2.2.2.2.2.2.2.2.2.2.2.1 bt420.2.2.2.2.2.2.2.2.2.2.2.2.1 10 0 5 30 false false 130).bind fun bt437 => (if bt420.2.2.2.2.2.2.2.2.2.2.2.2.2 = 0 then (if bt437.2.2.2.2.2.2.2.2.2.2.2.2.2 = 0 then (if (bt420.2.2.2.2.2.2.2.1.length : Int) = 0 then (if (bt437.2.2.2.2.2.2.2.1.length : Int) = 1 then (if 0 < (bt437.2.2.2.2.2.2.2.1.length : Int) then (if ((rd_T37 bt437.2.2.2.2.2.2.2.1 0).f1) = 130 then ((account_Name.f bt437.1).bind fun t455 => (some (t455.toList == ([97, 99, 116, 105, 118, 101] : List UInt8)))) else (none)) else (none)) else (none)) else (none)) else (none)) else (none))))
theorem paybooklaw13_awake.mono : ∀ k, LeO (paybooklaw13_awake.f k ) (paybooklaw13_awake.f (k + 1) ) := by
  intro  k
  unfold paybooklaw13_awake.f
  repeat' first
      | (with_reducible exact account_Day.mono _ _ _ _ _ _ _ _ _ _ _ _ _ _ _ _ _ _ _ _ _)
      | (with_reducible exact LeO.refl _)
      | (with_reducible exact LeO.none _)
      | (with_reducible refine LeO.ite ?_ ?_)
      | (with_reducible refine LeO.bind ?_ (fun _ => ?_))
      | exact account_Day.mono _ _ _ _ _ _ _ _ _ _ _ _ _ _ _ _ _ _ _ _ _
      | exact LeO.none _
      | refine LeO.ite ?_ ?_
      | refine LeO.bind ?_ (fun _ => ?_)
set_option maxHeartbeats 3000000 in
set_option maxRecDepth 100000 in
theorem paybooklaw13_awake.calls (k : Nat)  (r : Bool) (w : World) (h : paybooklaw13_awake.f k  = some r) :
    Calls Try.prog 9 #[] w fun e w' => e = .returned (.bool r) ∧ Below w.heap.size w w' := by
  have hu25 := Try.underlying25
  have hu31 := Try.underlying31
  have HB := Aside0.mk (Below.refl w.heap.size w)
  have H : ((account_Open.f 0 10 0 5 30 false false 100).bind fun bt404 => ((account_Day.f k bt404.1 bt404.2.1 bt404.2.2.1 bt404.2.2.2.1 bt404.2.2.2.2.1 bt404.2.2.2.2.2.1 bt404.2.2.2.2.2.2.1 bt404.2.2.2.2.2.2.2.1 bt404.2.2.2.2.2.2.2.2.1 bt404.2.2.2.2.2.2.2.2.2.1 bt404.2.2.2.2.2.2.2.2.2.2.1 bt404.2.2.2.2.2.2.2.2.2.2.2.1 bt404.2.2.2.2.2.2.2.2.2.2.2.2 10 0 5 30 false false 129).bind fun bt420 => ((account_Day.f k bt420.1 bt420.2.1 bt420.2.2.1 bt420.2.2.2.1 bt420.2.2.2.2.1 bt420.2.2.2.2.2.1 bt420.2.2.2.2.2.2.1 bt420.2.2.2.2.2.2.2.1 bt420.2.2.2.2.2.2.2.2.1 bt420.2.2.2.2.2.2.2.2.2.1 bt420.2.2.2.2.2.2.2.2.2.2.1 bt420.2.2.2.2.2.2.2.2.2.2.2.1 bt420.2.2.2.2.2.2.2.2.2.2.2.2.1 10 0 5 30 false false 130).bind fun bt437 => (if bt420.2.2.2.2.2.2.2.2.2.2.2.2.2 = 0 then (if bt437.2.2.2.2.2.2.2.2.2.2.2.2.2 = 0 then (if (bt420.2.2.2.2.2.2.2.1.length : Int) = 0 then (if (bt437.2.2.2.2.2.2.2.1.length : Int) = 1 then (if 0 < (bt437.2.2.2.2.2.2.2.1.length : Int) then (if ((rd_T37 bt437.2.2.2.2.2.2.2.1 0).f1) = 130 then ((account_Name.f bt437.1).bind fun t455 => (some (t455.toList == ([97, 99, 116, 105, 118, 101] : List UInt8)))) else (none)) else (none)) else (none)) else (none)) else (none)) else (none))))) = some r := h
  clear h
  replace H := Option.bind_eq_some_iff.mp H
  obtain ⟨⟨t404, t405, t406, t407, t408, t409, t410, t411, t414, t415, t416, t417, t418⟩, A10, H⟩ := H
  replace H : ((account_Day.f k t404 t405 t406 t407 t408 t409 t410 t411 t414 t415 t416 t417 t418 10 0 5 30 false false 129).bind fun bt420 => ((account_Day.f k bt420.1 bt420.2.1 bt420.2.2.1 bt420.2.2.2.1 bt420.2.2.2.2.1 bt420.2.2.2.2.2.1 bt420.2.2.2.2.2.2.1 bt420.2.2.2.2.2.2.2.1 bt420.2.2.2.2.2.2.2.2.1 bt420.2.2.2.2.2.2.2.2.2.1 bt420.2.2.2.2.2.2.2.2.2.2.1 bt420.2.2.2.2.2.2.2.2.2.2.2.1 bt420.2.2.2.2.2.2.2.2.2.2.2.2.1 10 0 5 30 false false 130).bind fun bt437 => (if bt420.2.2.2.2.2.2.2.2.2.2.2.2.2 = 0 then (if bt437.2.2.2.2.2.2.2.2.2.2.2.2.2 = 0 then (if (bt420.2.2.2.2.2.2.2.1.length : Int) = 0 then (if (bt437.2.2.2.2.2.2.2.1.length : Int) = 1 then (if 0 < (bt437.2.2.2.2.2.2.2.1.length : Int) then (if ((rd_T37 bt437.2.2.2.2.2.2.2.1 0).f1) = 130 then ((account_Name.f bt437.1).bind fun t455 => (some (t455.toList == ([97, 99, 116, 105, 118, 101] : List UInt8)))) else (none)) else (none)) else (none)) else (none)) else (none)) else (none)))) = some r := H
  have A1 := Aside0.mk A10
  clear A10
  replace H := Option.bind_eq_some_iff.mp H
  obtain ⟨⟨t420, t421, t422, t423, t424, t425, t426, t427, t430, t431, t432, t433, t434, t435⟩, A20, H⟩ := H
  replace H : ((account_Day.f k t420 t421 t422 t423 t424 t425 t426 t427 t430 t431 t432 t433 t434 10 0 5 30 false false 130).bind fun bt437 => (if t435 = 0 then (if bt437.2.2.2.2.2.2.2.2.2.2.2.2.2 = 0 then (if (t427.length : Int) = 0 then (if (bt437.2.2.2.2.2.2.2.1.length : Int) = 1 then (if 0 < (bt437.2.2.2.2.2.2.2.1.length : Int) then (if ((rd_T37 bt437.2.2.2.2.2.2.2.1 0).f1) = 130 then ((account_Name.f bt437.1).bind fun t455 => (some (t455.toList == ([97, 99, 116, 105, 118, 101] : List UInt8)))) else (none)) else (none)) else (none)) else (none)) else (none)) else (none))) = some r := H
  have A2 := Aside0.mk A20
  clear A20
  replace H := Option.bind_eq_some_iff.mp H
  obtain ⟨⟨t437, t438, t439, t440, t441, t442, t443, t444, t447, t448, t449, t450, t451, t452⟩, A30, H⟩ := H
  replace H : (if t435 = 0 then (if t452 = 0 then (if (t427.length : Int) = 0 then (if (t444.length : Int) = 1 then (if 0 < (t444.length : Int) then (if ((rd_T37 t444 0).f1) = 130 then ((account_Name.f t437).bind fun t455 => (some (t455.toList == ([97, 99, 116, 105, 118, 101] : List UInt8)))) else (none)) else (none)) else (none)) else (none)) else (none)) else (none)) = some r := H
  have A3 := Aside0.mk A30
  clear A30
  by_cases c4 : t435 = 0
  · rw [if_pos c4] at H
    have c4b0 : (t435 == 0) = true := beq_iff_eq.mpr c4
    have c4b1 : (t435 != 0) = false := bne_eq_false_iff_eq.mpr c4
    clear c4
    by_cases c5 : t452 = 0
    · rw [if_pos c5] at H
      have c5b0 : (t452 == 0) = true := beq_iff_eq.mpr c5
      have c5b1 : (t452 != 0) = false := bne_eq_false_iff_eq.mpr c5
      clear c5
      by_cases c6 : (t427.length : Int) = 0
      · rw [if_pos c6] at H
        have c6b0 : ((t427.length : Int) == 0) = true := beq_iff_eq.mpr c6
        have c6b1 : ((t427.length : Int) != 0) = false := bne_eq_false_iff_eq.mpr c6
        clear c6
        by_cases c7 : (t444.length : Int) = 1
        · rw [if_pos c7] at H
          have c7b0 : ((t444.length : Int) == 1) = true := beq_iff_eq.mpr c7
          have c7b1 : ((t444.length : Int) != 1) = false := bne_eq_false_iff_eq.mpr c7
          clear c7
          by_cases c8 : 0 < (t444.length : Int)
          · rw [if_pos c8] at H
            have c8b0 : decide (0 < (t444.length : Int)) = true := decide_eq_true c8
            have c8b1 : decide (0 < t444.length) = true := decide_eq_true (by omega)
            clear c8
            by_cases c9 : ((rd_T37 t444 0).f1) = 130
            · rw [if_pos c9] at H
              have c9b0 : (((rd_T37 t444 0).f1) == 130) = true := beq_iff_eq.mpr c9
              have c9b1 : (((rd_T37 t444 0).f1) != 130) = false := bne_eq_false_iff_eq.mpr c9
              clear c9
              replace H := Option.bind_eq_some_iff.mp H
              obtain ⟨t455, A100, H⟩ := H
              replace H : (some (t455.toList == ([97, 99, 116, 105, 118, 101] : List UInt8))) = some r := H
              have A10 := Aside0.mk A100
              clear A100
              obtain rfl := Option.some.inj H
              go_enter Try.func9, Try.ntmps9
              go_wp2_with (first | ((with_reducible refine gate_dst (N := 1) rfl ?_); (try (refine gate_guard (by rfl) ?_; dsimp only)); refine box_event ?hg (N := 1) ?hd (cs := #[.int .i64 0, .int .u8 0, .int .i64 0, .int .i64 0, .bool false, .bool false]) (t := 25) ?hr ?_; (case hd => rfl); (case hg => rfl); (case hr => first | (go_simp; done) | (go_simp; rfl)); intro gb403 hg w11 hbox hb; have n0_ := Aside0.mk (below_step (by repeat (first | (with_reducible first | exact HB.out | apply below_alloc | apply pw_below_drewN | apply below_drew1) | exact HB.out)) hb); have n1_ := Aside0.mk (hbox); have n2_ := Aside0.mk ((by rw [hg]; exact (below_size (by repeat (first | (with_reducible first | exact HB.out | apply below_alloc | apply pw_below_drewN | apply below_drew1) | exact HB.out))) : w.heap.size ≤ gb403)); have n3_ := Aside0.mk ((by rw [hg]; exact (below_size (by repeat (first | (with_reducible first | exact HB.out | apply below_alloc | apply pw_below_drewN | apply below_drew1) | exact HB.out))) : w.heap.size ≤ gb403)); clear HB; have HB := n0_; have BK403 := n1_; have GW403 := n2_; have GE403 := n3_; clear n0_ n1_ n2_ n3_; clear hb hbox hg; obtain ⟨hcz12_0, hcz12_1, hcz12_2, hcz12_3, hcz12_4, hcz12_5⟩ := bc6 BK403.out; obtain ⟨hfz12_0, hfz12_1, hfz12_2, hfz12_3, hfz12_4, hfz12_5⟩ := bf6 BK403.out) | ((with_reducible refine gate_callee (f := 11) rfl ?_); refine goesL_ (some 9) rfl rfl Try.func11 (by kernel_rfl) rfl #[.int .i64 0, .agg #[.int .i64 10, .int .u8 0, .int .i64 5, .int .i64 30, .bool false, .bool false], .int .i64 100] rfl (by (try simp only [List.map_toArray, List.map_cons, List.map_nil]); first | done | rfl | (simp only [List.length_drop, List.length_take]; rfl)) ?_; (with_reducible refine (account_Open.calls 0 10 0 5 30 false false 100 t404 t405 t406 t407 t408 t409 t410 t411 t414 t415 t416 t417 t418 _ A1.out).mono ?_); rintro e w13 ⟨v412, rfl, ho0, hb⟩; refine ⟨_, rfl, ?_⟩; have n0_ := Aside0.mk (Kd.R_lower ho0 (below_size (by repeat (first | (with_reducible first | exact HB.out | apply below_alloc | apply pw_below_drewN | apply below_drew1 | refine below_set ?_ GE403.out) | exact HB.out)))); have n1_ := Aside0.mk (blk_below (g := gb403) (o := .cells #[.int .i64 10, .int .u8 0, .int .i64 5, .int .i64 30, .bool false, .bool false] 25 (0, 0)) (by (with_reducible repeat (first | refine blk_drewN ?_ _ | refine blk_drew ?_ | refine blk_alloc ?_ _)); refine bp6 (.int .i64 0) (.int .u8 0) (.int .i64 0) (.int .i64 0) (.bool false) (.bool false) ?_; (with_reducible repeat (first | refine blk_drewN ?_ _ | refine blk_drew ?_ | refine blk_alloc ?_ _)); exact BK403.out) hb); have n2_ := Aside0.mk (below_step (by repeat (first | (with_reducible first | exact HB.out | apply below_alloc | apply pw_below_drewN | apply below_drew1 | refine below_set ?_ GE403.out) | exact HB.out)) hb); clear BK403; clear HB; have HO413 := n0_; have BK403 := n1_; have HB := n2_; clear n0_ n1_ n2_; (try clear hb); (try clear hb2); (try clear hk); (try clear hi); (try clear ho0)) | ((with_reducible refine gate_dst (N := 2) rfl ?_); (try (refine gate_guard (by rfl) ?_; dsimp only)); refine box_event ?hg (N := 2) ?hd (cs := #[.int .u8 0, .int .i64 0, .int .i64 0, .int .i64 0, .int .i64 0, .int .i64 0, .bool false, .slice none 0 0, .int .i64 0, .int .i64 0, .int .i64 0, .int .i64 0, .int .i64 0]) (t := 31) ?hr ?_; (case hd => rfl); (case hg => rfl); (case hr => first | (go_simp; done) | (go_simp; rfl)); intro gb419 hg w14 hbox hb; have n0_ := Aside0.mk (Kd.R_below (by (with_reducible repeat (first | apply Kd.R_alloc | apply Kd.R_drewN | apply Kd.R_drew)); exact HO413.out) hb); have n1_ := Aside0.mk (blk_below (g := gb403) (o := .cells #[.int .i64 10, .int .u8 0, .int .i64 5, .int .i64 30, .bool false, .bool false] 25 (0, 0)) (by (with_reducible repeat (first | refine blk_drewN ?_ _ | refine blk_drew ?_ | refine blk_alloc ?_ _)); exact BK403.out) hb); have n2_ := Aside0.mk (below_step (by repeat (first | (with_reducible first | exact HB.out | apply below_alloc | apply pw_below_drewN | apply below_drew1 | refine below_set ?_ GE403.out) | exact HB.out)) hb); have n3_ := Aside0.mk (hbox); have n4_ := Aside0.mk ((by rw [hg]; exact (below_size (by repeat (first | (with_reducible first | exact HB.out | apply below_alloc | apply pw_below_drewN | apply below_drew1 | refine below_set ?_ GE403.out) | exact HB.out))) : w.heap.size ≤ gb419)); have n5_ := Aside0.mk ((by rw [hg]; exact (below_size (by repeat (first | (with_reducible first | exact HB.out | apply below_alloc | apply pw_below_drewN | apply below_drew1 | refine below_set ?_ GE403.out) | exact HB.out))) : w.heap.size ≤ gb419)); have n6_ := Aside0.mk ((by rw [hg]; exact Nat.ne_of_lt (blk_lt (g := gb403) (o := .cells #[.int .i64 10, .int .u8 0, .int .i64 5, .int .i64 30, .bool false, .bool false] 25 (0, 0)) (by (with_reducible repeat (first | refine blk_drewN ?_ _ | refine blk_drew ?_ | refine blk_alloc ?_ _)); exact BK403.out)) : gb403 ≠ gb419)); have n7_ := Aside0.mk ((by rw [hg]; exact Nat.ne_of_gt (blk_lt (g := gb403) (o := .cells #[.int .i64 10, .int .u8 0, .int .i64 5, .int .i64 30, .bool false, .bool false] 25 (0, 0)) (by (with_reducible repeat (first | refine blk_drewN ?_ _ | refine blk_drew ?_ | refine blk_alloc ?_ _)); exact BK403.out)) : gb419 ≠ gb403)); clear HO413; clear BK403; clear HB; have HO413 := n0_; have BK403 := n1_; have HB := n2_; have BK419 := n3_; have GW419 := n4_; have GE419 := n5_; have NB403_419 := n6_; have NB419_403 := n7_; clear n0_ n1_ n2_ n3_ n4_ n5_ n6_ n7_; clear hb hbox hg; have hnb15 := NB419_403.out; have hnc15 := NB403_419.out; obtain ⟨hcz16_0, hcz16_1, hcz16_2, hcz16_3, hcz16_4, hcz16_5, hcz16_6, hcz16_7, hcz16_8, hcz16_9, hcz16_10, hcz16_11, hcz16_12⟩ := bc13 BK419.out; obtain ⟨hfz16_0, hfz16_1, hfz16_2, hfz16_3, hfz16_4, hfz16_5, hfz16_6, hfz16_7, hfz16_8, hfz16_9, hfz16_10, hfz16_11, hfz16_12⟩ := bf13 BK419.out; obtain ⟨Ao17, co17, eo17⟩ := Kd.R_slice HO413.out; subst eo17; obtain ⟨hcz18_0, hcz18_1, hcz18_2, hcz18_3, hcz18_4, hcz18_5⟩ := bc6 BK403.out; obtain ⟨hfz18_0, hfz18_1, hfz18_2, hfz18_3, hfz18_4, hfz18_5⟩ := bf6 BK403.out) | ((with_reducible refine gate_callee (f := 12) rfl ?_); refine goesL_ (some 13) rfl rfl Try.func12 (by kernel_rfl) rfl #[.agg #[.int .u8 t404, .int .i64 t405, .int .i64 t406, .int .i64 t407, .int .i64 t408, .int .i64 t409, .bool t410, .slice Ao17 t411.length co17, .int .i64 t414, .int .i64 t415, .int .i64 t416, .int .i64 t417, .int .i64 t418], .agg #[.int .i64 10, .int .u8 0, .int .i64 5, .int .i64 30, .bool false, .bool false], .int .i64 129] rfl (by (try simp only [List.map_toArray, List.map_cons, List.map_nil]); first | done | rfl | (simp only [List.length_drop, List.length_take]; rfl)) ?_; (with_reducible refine (account_Day.calls k t404 t405 t406 t407 t408 t409 t410 _ _ t411 t414 t415 t416 t417 t418 10 0 5 30 false false 129 t420 t421 t422 t423 t424 t425 t426 t427 t430 t431 t432 t433 t434 t435 _ ?side1 ?side2 A2.out).mono ?_); (case side1 => refine (Kd.R_reads' (e := 37) (base := w.heap.size) (ok := fun k_ => True) (n := t411.length) (c := co17) ?_).2.2; exact (by (with_reducible repeat (first | apply Kd.R_alloc | apply Kd.R_drewN | apply Kd.R_drew)); exact (Kd.R_mono (Kd.R_step (Kd.R_types HO413.out BK419.out (by decide)) (fun _ hk _ => by (with_reducible repeat (first | refine (hst (g := gb419) hk.2 _ _).trans ?_ | refine (hdn _ _ _).trans ?_ | refine (hd1 _ _).trans ?_)); rfl)) (fun _ h_ => h_.1)))); (case side2 => exact (Kd.R_reads' HO413.out).2.1); rintro e w19 ⟨v428, rfl, ho0, hb⟩; refine ⟨_, rfl, ?_⟩; have n0_ := Aside0.mk (Kd.R_elder' (by (with_reducible repeat (first | apply Kd.R_alloc | apply Kd.R_drewN | apply Kd.R_drew)); exact (Kd.R_mono (Kd.R_step (Kd.R_types HO413.out BK419.out (by decide)) (fun _ hk _ => by (with_reducible repeat (first | refine (hst (g := gb419) hk.2 _ _).trans ?_ | refine (hdn _ _ _).trans ?_ | refine (hd1 _ _).trans ?_)); rfl)) (fun _ h_ => h_.1))) (Kd.R_base ho0) hb); have n1_ := Aside0.mk (Kd.R_lower (Kd.R_new' ho0 (Kd.R_lt (by (with_reducible repeat (first | apply Kd.R_alloc | apply Kd.R_drewN | apply Kd.R_drew)); exact (Kd.R_mono (Kd.R_step (Kd.R_types HO413.out BK419.out (by decide)) (fun _ hk _ => by (with_reducible repeat (first | refine (hst (g := gb419) hk.2 _ _).trans ?_ | refine (hdn _ _ _).trans ?_ | refine (hd1 _ _).trans ?_)); rfl)) (fun _ h_ => h_.1))))) (below_size (by repeat (first | (with_reducible first | exact HB.out | apply below_alloc | apply pw_below_drewN | apply below_drew1 | refine below_set ?_ GE403.out | refine below_set ?_ GE419.out) | exact HB.out)))); have n2_ := Aside0.mk (blk_below (g := gb403) (o := .cells #[.int .i64 10, .int .u8 0, .int .i64 5, .int .i64 30, .bool false, .bool false] 25 (0, 0)) (by (with_reducible repeat (first | refine blk_drewN ?_ _ | refine blk_drew ?_ | refine blk_alloc ?_ _ | refine blk_far ?_ NB403_419.out _)); exact BK403.out) hb); have n3_ := Aside0.mk (blk_below (g := gb419) (o := .cells #[.int .u8 t404, .int .i64 t405, .int .i64 t406, .int .i64 t407, .int .i64 t408, .int .i64 t409, .bool t410, .slice Ao17 t411.length co17, .int .i64 t414, .int .i64 t415, .int .i64 t416, .int .i64 t417, .int .i64 t418] 31 (0, 0)) (by (with_reducible repeat (first | refine blk_drewN ?_ _ | refine blk_drew ?_ | refine blk_alloc ?_ _)); refine bp13 (.int .u8 0) (.int .i64 0) (.int .i64 0) (.int .i64 0) (.int .i64 0) (.int .i64 0) (.bool false) (.slice none 0 0) (.int .i64 0) (.int .i64 0) (.int .i64 0) (.int .i64 0) (.int .i64 0) ?_; (with_reducible repeat (first | refine blk_drewN ?_ _ | refine blk_drew ?_ | refine blk_alloc ?_ _)); exact BK419.out) hb); have n4_ := Aside0.mk (below_step (by repeat (first | (with_reducible first | exact HB.out | apply below_alloc | apply pw_below_drewN | apply below_drew1 | refine below_set ?_ GE403.out | refine below_set ?_ GE419.out) | exact HB.out)) hb); clear HO413; clear BK403; clear BK419; clear HB; have HO413 := n0_; have HO429 := n1_; have BK403 := n2_; have BK419 := n3_; have HB := n4_; clear n0_ n1_ n2_ n3_ n4_; (try clear hb); (try clear hb2); (try clear hk); (try clear hi); (try clear ho0)) | ((with_reducible refine gate_dst (N := 3) rfl ?_); (try (refine gate_guard (by rfl) ?_; dsimp only)); refine box_event ?hg (N := 3) ?hd (cs := #[.int .u8 0, .int .i64 0, .int .i64 0, .int .i64 0, .int .i64 0, .int .i64 0, .bool false, .slice none 0 0, .int .i64 0, .int .i64 0, .int .i64 0, .int .i64 0, .int .i64 0]) (t := 31) ?hr ?_; (case hd => rfl); (case hg => rfl); (case hr => first | (go_simp; done) | (go_simp; rfl)); intro gb436 hg w20 hbox hb; have n0_ := Aside0.mk (Kd.R_below (by (with_reducible repeat (first | apply Kd.R_alloc | apply Kd.R_drewN | apply Kd.R_drew)); exact HO413.out) hb); have n1_ := Aside0.mk (Kd.R_below (by (with_reducible repeat (first | apply Kd.R_alloc | apply Kd.R_drewN | apply Kd.R_drew)); exact HO429.out) hb); have n2_ := Aside0.mk (blk_below (g := gb403) (o := .cells #[.int .i64 10, .int .u8 0, .int .i64 5, .int .i64 30, .bool false, .bool false] 25 (0, 0)) (by (with_reducible repeat (first | refine blk_drewN ?_ _ | refine blk_drew ?_ | refine blk_alloc ?_ _)); exact BK403.out) hb); have n3_ := Aside0.mk (blk_below (g := gb419) (o := .cells #[.int .u8 t404, .int .i64 t405, .int .i64 t406, .int .i64 t407, .int .i64 t408, .int .i64 t409, .bool t410, .slice Ao17 t411.length co17, .int .i64 t414, .int .i64 t415, .int .i64 t416, .int .i64 t417, .int .i64 t418] 31 (0, 0)) (by (with_reducible repeat (first | refine blk_drewN ?_ _ | refine blk_drew ?_ | refine blk_alloc ?_ _)); exact BK419.out) hb); have n4_ := Aside0.mk (below_step (by repeat (first | (with_reducible first | exact HB.out | apply below_alloc | apply pw_below_drewN | apply below_drew1 | refine below_set ?_ GE403.out | refine below_set ?_ GE419.out) | exact HB.out)) hb); have n5_ := Aside0.mk (hbox); have n6_ := Aside0.mk ((by rw [hg]; exact (below_size (by repeat (first | (with_reducible first | exact HB.out | apply below_alloc | apply pw_below_drewN | apply below_drew1 | refine below_set ?_ GE403.out | refine below_set ?_ GE419.out) | exact HB.out))) : w.heap.size ≤ gb436)); have n7_ := Aside0.mk ((by rw [hg]; exact (below_size (by repeat (first | (with_reducible first | exact HB.out | apply below_alloc | apply pw_below_drewN | apply below_drew1 | refine below_set ?_ GE403.out | refine below_set ?_ GE419.out) | exact HB.out))) : w.heap.size ≤ gb436)); have n8_ := Aside0.mk ((by rw [hg]; exact Nat.ne_of_lt (blk_lt (g := gb403) (o := .cells #[.int .i64 10, .int .u8 0, .int .i64 5, .int .i64 30, .bool false, .bool false] 25 (0, 0)) (by (with_reducible repeat (first | refine blk_drewN ?_ _ | refine blk_drew ?_ | refine blk_alloc ?_ _)); exact BK403.out)) : gb403 ≠ gb436)); have n9_ := Aside0.mk ((by rw [hg]; exact Nat.ne_of_gt (blk_lt (g := gb403) (o := .cells #[.int .i64 10, .int .u8 0, .int .i64 5, .int .i64 30, .bool false, .bool false] 25 (0, 0)) (by (with_reducible repeat (first | refine blk_drewN ?_ _ | refine blk_drew ?_ | refine blk_alloc ?_ _)); exact BK403.out)) : gb436 ≠ gb403)); have n10_ := Aside0.mk ((by rw [hg]; exact Nat.ne_of_lt (blk_lt (g := gb419) (o := .cells #[.int .u8 t404, .int .i64 t405, .int .i64 t406, .int .i64 t407, .int .i64 t408, .int .i64 t409, .bool t410, .slice Ao17 t411.length co17, .int .i64 t414, .int .i64 t415, .int .i64 t416, .int .i64 t417, .int .i64 t418] 31 (0, 0)) (by (with_reducible repeat (first | refine blk_drewN ?_ _ | refine blk_drew ?_ | refine blk_alloc ?_ _)); exact BK419.out)) : gb419 ≠ gb436)); have n11_ := Aside0.mk ((by rw [hg]; exact Nat.ne_of_gt (blk_lt (g := gb419) (o := .cells #[.int .u8 t404, .int .i64 t405, .int .i64 t406, .int .i64 t407, .int .i64 t408, .int .i64 t409, .bool t410, .slice Ao17 t411.length co17, .int .i64 t414, .int .i64 t415, .int .i64 t416, .int .i64 t417, .int .i64 t418] 31 (0, 0)) (by (with_reducible repeat (first | refine blk_drewN ?_ _ | refine blk_drew ?_ | refine blk_alloc ?_ _)); exact BK419.out)) : gb436 ≠ gb419)); clear HO413; clear HO429; clear BK403; clear BK419; clear HB; have HO413 := n0_; have HO429 := n1_; have BK403 := n2_; have BK419 := n3_; have HB := n4_; have BK436 := n5_; have GW436 := n6_; have GE436 := n7_; have NB403_436 := n8_; have NB436_403 := n9_; have NB419_436 := n10_; have NB436_419 := n11_; clear n0_ n1_ n2_ n3_ n4_ n5_ n6_ n7_ n8_ n9_ n10_ n11_; clear hb hbox hg; have hnb21 := NB436_403.out; have hnc21 := NB403_436.out; have hnb22 := NB436_419.out; have hnc22 := NB419_436.out; obtain ⟨hcz23_0, hcz23_1, hcz23_2, hcz23_3, hcz23_4, hcz23_5, hcz23_6, hcz23_7, hcz23_8, hcz23_9, hcz23_10, hcz23_11, hcz23_12⟩ := bc13 BK436.out; obtain ⟨hfz23_0, hfz23_1, hfz23_2, hfz23_3, hfz23_4, hfz23_5, hfz23_6, hfz23_7, hfz23_8, hfz23_9, hfz23_10, hfz23_11, hfz23_12⟩ := bf13 BK436.out; obtain ⟨Ao24, co24, eo24⟩ := Kd.R_slice HO429.out; subst eo24; obtain ⟨hcz25_0, hcz25_1, hcz25_2, hcz25_3, hcz25_4, hcz25_5⟩ := bc6 BK403.out; obtain ⟨hfz25_0, hfz25_1, hfz25_2, hfz25_3, hfz25_4, hfz25_5⟩ := bf6 BK403.out) | ((with_reducible refine gate_callee (f := 12) rfl ?_); refine goesL_ (some 19) rfl rfl Try.func12 (by kernel_rfl) rfl #[.agg #[.int .u8 t420, .int .i64 t421, .int .i64 t422, .int .i64 t423, .int .i64 t424, .int .i64 t425, .bool t426, .slice Ao24 t427.length co24, .int .i64 t430, .int .i64 t431, .int .i64 t432, .int .i64 t433, .int .i64 t434], .agg #[.int .i64 10, .int .u8 0, .int .i64 5, .int .i64 30, .bool false, .bool false], .int .i64 130] rfl (by (try simp only [List.map_toArray, List.map_cons, List.map_nil]); first | done | rfl | (simp only [List.length_drop, List.length_take]; rfl)) ?_; (with_reducible refine (account_Day.calls k t420 t421 t422 t423 t424 t425 t426 _ _ t427 t430 t431 t432 t433 t434 10 0 5 30 false false 130 t437 t438 t439 t440 t441 t442 t443 t444 t447 t448 t449 t450 t451 t452 _ ?side1 ?side2 A3.out).mono ?_); (case side1 => refine (Kd.R_reads' (e := 37) (base := w.heap.size) (ok := fun k_ => (True ∧ some k_ ≠ (.slice Ao17 t411.length co17 : Value).ownBlock)) (n := t427.length) (c := co24) ?_).2.2; exact (by (with_reducible repeat (first | apply Kd.R_alloc | apply Kd.R_drewN | apply Kd.R_drew)); exact (Kd.R_mono (Kd.R_step (Kd.R_types HO429.out BK436.out (by decide)) (fun _ hk _ => by (with_reducible repeat (first | refine (hst (g := gb436) hk.2 _ _).trans ?_ | refine (hdn _ _ _).trans ?_ | refine (hd1 _ _).trans ?_)); rfl)) (fun _ h_ => h_.1)))); (case side2 => exact (Kd.R_reads' HO429.out).2.1); rintro e w26 ⟨v445, rfl, ho0, hb⟩; refine ⟨_, rfl, ?_⟩; have n0_ := Aside0.mk (Kd.R_elder' (by (with_reducible repeat (first | apply Kd.R_alloc | apply Kd.R_drewN | apply Kd.R_drew)); exact (Kd.R_mono (Kd.R_step (Kd.R_types HO413.out BK436.out (by decide)) (fun _ hk _ => by (with_reducible repeat (first | refine (hst (g := gb436) hk.2 _ _).trans ?_ | refine (hdn _ _ _).trans ?_ | refine (hd1 _ _).trans ?_)); rfl)) (fun _ h_ => h_.1))) (Kd.R_base ho0) hb); have n1_ := Aside0.mk (Kd.R_elder' (by (with_reducible repeat (first | apply Kd.R_alloc | apply Kd.R_drewN | apply Kd.R_drew)); exact (Kd.R_mono (Kd.R_step (Kd.R_types HO429.out BK436.out (by decide)) (fun _ hk _ => by (with_reducible repeat (first | refine (hst (g := gb436) hk.2 _ _).trans ?_ | refine (hdn _ _ _).trans ?_ | refine (hd1 _ _).trans ?_)); rfl)) (fun _ h_ => h_.1))) (Kd.R_base ho0) hb); have n2_ := Aside0.mk (Kd.R_lower (Kd.R_new' (Kd.R_new' ho0 (Kd.R_lt (by (with_reducible repeat (first | apply Kd.R_alloc | apply Kd.R_drewN | apply Kd.R_drew)); exact (Kd.R_mono (Kd.R_step (Kd.R_types HO413.out BK436.out (by decide)) (fun _ hk _ => by (with_reducible repeat (first | refine (hst (g := gb436) hk.2 _ _).trans ?_ | refine (hdn _ _ _).trans ?_ | refine (hd1 _ _).trans ?_)); rfl)) (fun _ h_ => h_.1))))) (Kd.R_lt (by (with_reducible repeat (first | apply Kd.R_alloc | apply Kd.R_drewN | apply Kd.R_drew)); exact (Kd.R_mono (Kd.R_step (Kd.R_types HO429.out BK436.out (by decide)) (fun _ hk _ => by (with_reducible repeat (first | refine (hst (g := gb436) hk.2 _ _).trans ?_ | refine (hdn _ _ _).trans ?_ | refine (hd1 _ _).trans ?_)); rfl)) (fun _ h_ => h_.1))))) (below_size (by repeat (first | (with_reducible first | exact HB.out | apply below_alloc | apply pw_below_drewN | apply below_drew1 | refine below_set ?_ GE403.out | refine below_set ?_ GE419.out | refine below_set ?_ GE436.out) | exact HB.out)))); have n3_ := Aside0.mk (blk_below (g := gb403) (o := .cells #[.int .i64 10, .int .u8 0, .int .i64 5, .int .i64 30, .bool false, .bool false] 25 (0, 0)) (by (with_reducible repeat (first | refine blk_drewN ?_ _ | refine blk_drew ?_ | refine blk_alloc ?_ _ | refine blk_far ?_ NB403_436.out _)); exact BK403.out) hb); have n4_ := Aside0.mk (blk_below (g := gb419) (o := .cells #[.int .u8 t404, .int .i64 t405, .int .i64 t406, .int .i64 t407, .int .i64 t408, .int .i64 t409, .bool t410, .slice Ao17 t411.length co17, .int .i64 t414, .int .i64 t415, .int .i64 t416, .int .i64 t417, .int .i64 t418] 31 (0, 0)) (by (with_reducible repeat (first | refine blk_drewN ?_ _ | refine blk_drew ?_ | refine blk_alloc ?_ _ | refine blk_far ?_ NB419_436.out _)); exact BK419.out) hb); have n5_ := Aside0.mk (blk_below (g := gb436) (o := .cells #[.int .u8 t420, .int .i64 t421, .int .i64 t422, .int .i64 t423, .int .i64 t424, .int .i64 t425, .bool t426, .slice Ao24 t427.length co24, .int .i64 t430, .int .i64 t431, .int .i64 t432, .int .i64 t433, .int .i64 t434] 31 (0, 0)) (by (with_reducible repeat (first | refine blk_drewN ?_ _ | refine blk_drew ?_ | refine blk_alloc ?_ _)); refine bp13 (.int .u8 0) (.int .i64 0) (.int .i64 0) (.int .i64 0) (.int .i64 0) (.int .i64 0) (.bool false) (.slice none 0 0) (.int .i64 0) (.int .i64 0) (.int .i64 0) (.int .i64 0) (.int .i64 0) ?_; (with_reducible repeat (first | refine blk_drewN ?_ _ | refine blk_drew ?_ | refine blk_alloc ?_ _)); exact BK436.out) hb); have n6_ := Aside0.mk (below_step (by repeat (first | (with_reducible first | exact HB.out | apply below_alloc | apply pw_below_drewN | apply below_drew1 | refine below_set ?_ GE403.out | refine below_set ?_ GE419.out | refine below_set ?_ GE436.out) | exact HB.out)) hb); clear HO413; clear HO429; clear BK403; clear BK419; clear BK436; clear HB; have HO413 := n0_; have HO429 := n1_; have HO446 := n2_; have BK403 := n3_; have BK419 := n4_; have BK436 := n5_; have HB := n6_; clear n0_ n1_ n2_ n3_ n4_ n5_ n6_; (try clear hb); (try clear hb2); (try clear hk); (try clear hi); (try clear ho0)) | ((with_reducible refine gate_dst (N := 5) rfl ?_); (try (refine gate_guard (by rfl) ?_; dsimp only)); refine box_event ?hg (N := 5) ?hd (cs := #[.int .u8 0, .int .i64 0, .int .i64 0, .int .i64 0, .int .i64 0, .int .i64 0, .bool false, .slice none 0 0, .int .i64 0, .int .i64 0, .int .i64 0, .int .i64 0, .int .i64 0]) (t := 31) ?hr ?_; (case hd => rfl); (case hg => rfl); (case hr => first | (go_simp; done) | (go_simp; rfl)); intro gb453 hg w27 hbox hb; have n0_ := Aside0.mk (Kd.R_below (by (with_reducible repeat (first | apply Kd.R_alloc | apply Kd.R_drewN | apply Kd.R_drew)); exact HO413.out) hb); have n1_ := Aside0.mk (Kd.R_below (by (with_reducible repeat (first | apply Kd.R_alloc | apply Kd.R_drewN | apply Kd.R_drew)); exact HO429.out) hb); have n2_ := Aside0.mk (Kd.R_below (by (with_reducible repeat (first | apply Kd.R_alloc | apply Kd.R_drewN | apply Kd.R_drew)); exact HO446.out) hb); have n3_ := Aside0.mk (blk_below (g := gb403) (o := .cells #[.int .i64 10, .int .u8 0, .int .i64 5, .int .i64 30, .bool false, .bool false] 25 (0, 0)) (by (with_reducible repeat (first | refine blk_drewN ?_ _ | refine blk_drew ?_ | refine blk_alloc ?_ _)); exact BK403.out) hb); have n4_ := Aside0.mk (blk_below (g := gb419) (o := .cells #[.int .u8 t404, .int .i64 t405, .int .i64 t406, .int .i64 t407, .int .i64 t408, .int .i64 t409, .bool t410, .slice Ao17 t411.length co17, .int .i64 t414, .int .i64 t415, .int .i64 t416, .int .i64 t417, .int .i64 t418] 31 (0, 0)) (by (with_reducible repeat (first | refine blk_drewN ?_ _ | refine blk_drew ?_ | refine blk_alloc ?_ _)); exact BK419.out) hb); have n5_ := Aside0.mk (blk_below (g := gb436) (o := .cells #[.int .u8 t420, .int .i64 t421, .int .i64 t422, .int .i64 t423, .int .i64 t424, .int .i64 t425, .bool t426, .slice Ao24 t427.length co24, .int .i64 t430, .int .i64 t431, .int .i64 t432, .int .i64 t433, .int .i64 t434] 31 (0, 0)) (by (with_reducible repeat (first | refine blk_drewN ?_ _ | refine blk_drew ?_ | refine blk_alloc ?_ _)); exact BK436.out) hb); have n6_ := Aside0.mk (below_step (by repeat (first | (with_reducible first | exact HB.out | apply below_alloc | apply pw_below_drewN | apply below_drew1 | refine below_set ?_ GE403.out | refine below_set ?_ GE419.out | refine below_set ?_ GE436.out) | exact HB.out)) hb); have n7_ := Aside0.mk (hbox); have n8_ := Aside0.mk ((by rw [hg]; exact (below_size (by repeat (first | (with_reducible first | exact HB.out | apply below_alloc | apply pw_below_drewN | apply below_drew1 | refine below_set ?_ GE403.out | refine below_set ?_ GE419.out | refine below_set ?_ GE436.out) | exact HB.out))) : w.heap.size ≤ gb453)); have n9_ := Aside0.mk ((by rw [hg]; exact (below_size (by repeat (first | (with_reducible first | exact HB.out | apply below_alloc | apply pw_below_drewN | apply below_drew1 | refine below_set ?_ GE403.out | refine below_set ?_ GE419.out | refine below_set ?_ GE436.out) | exact HB.out))) : w.heap.size ≤ gb453)); have n10_ := Aside0.mk ((by rw [hg]; exact Nat.ne_of_lt (blk_lt (g := gb403) (o := .cells #[.int .i64 10, .int .u8 0, .int .i64 5, .int .i64 30, .bool false, .bool false] 25 (0, 0)) (by (with_reducible repeat (first | refine blk_drewN ?_ _ | refine blk_drew ?_ | refine blk_alloc ?_ _)); exact BK403.out)) : gb403 ≠ gb453)); have n11_ := Aside0.mk ((by rw [hg]; exact Nat.ne_of_gt (blk_lt (g := gb403) (o := .cells #[.int .i64 10, .int .u8 0, .int .i64 5, .int .i64 30, .bool false, .bool false] 25 (0, 0)) (by (with_reducible repeat (first | refine blk_drewN ?_ _ | refine blk_drew ?_ | refine blk_alloc ?_ _)); exact BK403.out)) : gb453 ≠ gb403)); have n12_ := Aside0.mk ((by rw [hg]; exact Nat.ne_of_lt (blk_lt (g := gb419) (o := .cells #[.int .u8 t404, .int .i64 t405, .int .i64 t406, .int .i64 t407, .int .i64 t408, .int .i64 t409, .bool t410, .slice Ao17 t411.length co17, .int .i64 t414, .int .i64 t415, .int .i64 t416, .int .i64 t417, .int .i64 t418] 31 (0, 0)) (by (with_reducible repeat (first | refine blk_drewN ?_ _ | refine blk_drew ?_ | refine blk_alloc ?_ _)); exact BK419.out)) : gb419 ≠ gb453)); have n13_ := Aside0.mk ((by rw [hg]; exact Nat.ne_of_gt (blk_lt (g := gb419) (o := .cells #[.int .u8 t404, .int .i64 t405, .int .i64 t406, .int .i64 t407, .int .i64 t408, .int .i64 t409, .bool t410, .slice Ao17 t411.length co17, .int .i64 t414, .int .i64 t415, .int .i64 t416, .int .i64 t417, .int .i64 t418] 31 (0, 0)) (by (with_reducible repeat (first | refine blk_drewN ?_ _ | refine blk_drew ?_ | refine blk_alloc ?_ _)); exact BK419.out)) : gb453 ≠ gb419)); have n14_ := Aside0.mk ((by rw [hg]; exact Nat.ne_of_lt (blk_lt (g := gb436) (o := .cells #[.int .u8 t420, .int .i64 t421, .int .i64 t422, .int .i64 t423, .int .i64 t424, .int .i64 t425, .bool t426, .slice Ao24 t427.length co24, .int .i64 t430, .int .i64 t431, .int .i64 t432, .int .i64 t433, .int .i64 t434] 31 (0, 0)) (by (with_reducible repeat (first | refine blk_drewN ?_ _ | refine blk_drew ?_ | refine blk_alloc ?_ _)); exact BK436.out)) : gb436 ≠ gb453)); have n15_ := Aside0.mk ((by rw [hg]; exact Nat.ne_of_gt (blk_lt (g := gb436) (o := .cells #[.int .u8 t420, .int .i64 t421, .int .i64 t422, .int .i64 t423, .int .i64 t424, .int .i64 t425, .bool t426, .slice Ao24 t427.length co24, .int .i64 t430, .int .i64 t431, .int .i64 t432, .int .i64 t433, .int .i64 t434] 31 (0, 0)) (by (with_reducible repeat (first | refine blk_drewN ?_ _ | refine blk_drew ?_ | refine blk_alloc ?_ _)); exact BK436.out)) : gb453 ≠ gb436)); clear HO413; clear HO429; clear HO446; clear BK403; clear BK419; clear BK436; clear HB; have HO413 := n0_; have HO429 := n1_; have HO446 := n2_; have BK403 := n3_; have BK419 := n4_; have BK436 := n5_; have HB := n6_; have BK453 := n7_; have GW453 := n8_; have GE453 := n9_; have NB403_453 := n10_; have NB453_403 := n11_; have NB419_453 := n12_; have NB453_419 := n13_; have NB436_453 := n14_; have NB453_436 := n15_; clear n0_ n1_ n2_ n3_ n4_ n5_ n6_ n7_ n8_ n9_ n10_ n11_ n12_ n13_ n14_ n15_; clear hb hbox hg; have hnb28 := NB453_403.out; have hnc28 := NB403_453.out; have hnb29 := NB453_419.out; have hnc29 := NB419_453.out; have hnb30 := NB453_436.out; have hnc30 := NB436_453.out; obtain ⟨hcz31_0, hcz31_1, hcz31_2, hcz31_3, hcz31_4, hcz31_5, hcz31_6, hcz31_7, hcz31_8, hcz31_9, hcz31_10, hcz31_11, hcz31_12⟩ := bc13 BK453.out; obtain ⟨hfz31_0, hfz31_1, hfz31_2, hfz31_3, hfz31_4, hfz31_5, hfz31_6, hfz31_7, hfz31_8, hfz31_9, hfz31_10, hfz31_11, hfz31_12⟩ := bf13 BK453.out; obtain ⟨Ao32, co32, eo32⟩ := Kd.R_slice HO446.out; subst eo32; obtain ⟨hcz33_0, hcz33_1, hcz33_2, hcz33_3, hcz33_4, hcz33_5, hcz33_6, hcz33_7, hcz33_8, hcz33_9, hcz33_10, hcz33_11, hcz33_12⟩ := bc13 BK436.out; obtain ⟨hfz33_0, hfz33_1, hfz33_2, hfz33_3, hfz33_4, hfz33_5, hfz33_6, hfz33_7, hfz33_8, hfz33_9, hfz33_10, hfz33_11, hfz33_12⟩ := bf13 BK436.out; have p454 : 0 ≤ (0 : Int) := (by omega); have q454 : 0 < (t444.length : Int) := of_decide_eq_true (by first | (with_reducible assumption) | assumption); obtain ⟨ad454, e454, hx454_0, hx454_1, hx454_2, hx454_3, hx454_4, hx454_5, hx454_6, hx454_7⟩ := at_T37 (Kd.R_reads' HO446.out).2.2 0 p454 q454; cases e454; have qi454 : (0 < t444.length) = True := eq_true (by omega); (try rw [show ((0 : Int)).toNat = 0 from rfl] at hx454_0); (try rw [show 0 * 8 = 0 from rfl] at hx454_0); (try rw [Addr.add_zero'] at hx454_0); (try rw [show ((0 : Int)).toNat = 0 from rfl] at hx454_1); (try rw [show 0 * 8 = 0 from rfl] at hx454_1); (try rw [Addr.add_zero'] at hx454_1); (try rw [show ((0 : Int)).toNat = 0 from rfl] at hx454_2); (try rw [show 0 * 8 = 0 from rfl] at hx454_2); (try rw [Addr.add_zero'] at hx454_2); (try rw [show ((0 : Int)).toNat = 0 from rfl] at hx454_3); (try rw [show 0 * 8 = 0 from rfl] at hx454_3); (try rw [Addr.add_zero'] at hx454_3); (try rw [show ((0 : Int)).toNat = 0 from rfl] at hx454_4); (try rw [show 0 * 8 = 0 from rfl] at hx454_4); (try rw [Addr.add_zero'] at hx454_4); (try rw [show ((0 : Int)).toNat = 0 from rfl] at hx454_5); (try rw [show 0 * 8 = 0 from rfl] at hx454_5); (try rw [Addr.add_zero'] at hx454_5); (try rw [show ((0 : Int)).toNat = 0 from rfl] at hx454_6); (try rw [show 0 * 8 = 0 from rfl] at hx454_6); (try rw [Addr.add_zero'] at hx454_6); (try rw [show ((0 : Int)).toNat = 0 from rfl] at hx454_7); (try rw [show 0 * 8 = 0 from rfl] at hx454_7); (try rw [Addr.add_zero'] at hx454_7); have hn454_0 : ad454.block ≠ gb453 := Kd.own_blk (Kd.R_ne HO446.out BK453.out (by decide)); have hn454_1 : ad454.block ≠ gb453 := Kd.own_blk (Kd.R_ne HO446.out BK453.out (by decide)); have hn454_2 : ad454.block ≠ gb453 := Kd.own_blk (Kd.R_ne HO446.out BK453.out (by decide)); have hn454_3 : ad454.block ≠ gb453 := Kd.own_blk (Kd.R_ne HO446.out BK453.out (by decide)); have hn454_4 : ad454.block ≠ gb453 := Kd.own_blk (Kd.R_ne HO446.out BK453.out (by decide)); have hn454_5 : ad454.block ≠ gb453 := Kd.own_blk (Kd.R_ne HO446.out BK453.out (by decide)); have hn454_6 : ad454.block ≠ gb453 := Kd.own_blk (Kd.R_ne HO446.out BK453.out (by decide)); have hn454_7 : ad454.block ≠ gb453 := Kd.own_blk (Kd.R_ne HO446.out BK453.out (by decide)); have hn454_8 : ad454.block ≠ gb453 := Kd.own_blk (Kd.R_ne HO446.out BK453.out (by decide)); have hn454_9 : ad454.block ≠ gb453 := Kd.own_blk (Kd.R_ne HO446.out BK453.out (by decide)); have hn454_10 : ad454.block ≠ gb453 := Kd.own_blk (Kd.R_ne HO446.out BK453.out (by decide)); have hn454_11 : ad454.block ≠ gb453 := Kd.own_blk (Kd.R_ne HO446.out BK453.out (by decide)); have hn454_12 : ad454.block ≠ gb453 := Kd.own_blk (Kd.R_ne HO446.out BK453.out (by decide)); replace hx454_0 := (cell_far (p := ⟨gb453, 0, none⟩) (by first | (rw [add_block]; exact hn454_0) | (show (Addr.add _ _).block ≠ _; rw [add_block]; exact hn454_0) | exact hn454_0) (.int .u8 t437)).trans hx454_0; replace hx454_1 := (cell_far (p := ⟨gb453, 0, none⟩) (by first | (rw [add_block]; exact hn454_0) | (show (Addr.add _ _).block ≠ _; rw [add_block]; exact hn454_0) | exact hn454_0) (.int .u8 t437)).trans hx454_1; replace hx454_2 := (cell_far (p := ⟨gb453, 0, none⟩) (by first | (rw [add_block]; exact hn454_0) | (show (Addr.add _ _).block ≠ _; rw [add_block]; exact hn454_0) | exact hn454_0) (.int .u8 t437)).trans hx454_2; replace hx454_3 := (cell_far (p := ⟨gb453, 0, none⟩) (by first | (rw [add_block]; exact hn454_0) | (show (Addr.add _ _).block ≠ _; rw [add_block]; exact hn454_0) | exact hn454_0) (.int .u8 t437)).trans hx454_3; replace hx454_4 := (cell_far (p := ⟨gb453, 0, none⟩) (by first | (rw [add_block]; exact hn454_0) | (show (Addr.add _ _).block ≠ _; rw [add_block]; exact hn454_0) | exact hn454_0) (.int .u8 t437)).trans hx454_4; replace hx454_5 := (cell_far (p := ⟨gb453, 0, none⟩) (by first | (rw [add_block]; exact hn454_0) | (show (Addr.add _ _).block ≠ _; rw [add_block]; exact hn454_0) | exact hn454_0) (.int .u8 t437)).trans hx454_5; replace hx454_6 := (cell_far (p := ⟨gb453, 0, none⟩) (by first | (rw [add_block]; exact hn454_0) | (show (Addr.add _ _).block ≠ _; rw [add_block]; exact hn454_0) | exact hn454_0) (.int .u8 t437)).trans hx454_6; replace hx454_7 := (cell_far (p := ⟨gb453, 0, none⟩) (by first | (rw [add_block]; exact hn454_0) | (show (Addr.add _ _).block ≠ _; rw [add_block]; exact hn454_0) | exact hn454_0) (.int .u8 t437)).trans hx454_7; replace hx454_0 := (cell_far (p := ⟨gb453, 1, none⟩) (by first | (rw [add_block]; exact hn454_1) | (show (Addr.add _ _).block ≠ _; rw [add_block]; exact hn454_1) | exact hn454_1) (.int .i64 t438)).trans hx454_0; replace hx454_1 := (cell_far (p := ⟨gb453, 1, none⟩) (by first | (rw [add_block]; exact hn454_1) | (show (Addr.add _ _).block ≠ _; rw [add_block]; exact hn454_1) | exact hn454_1) (.int .i64 t438)).trans hx454_1; replace hx454_2 := (cell_far (p := ⟨gb453, 1, none⟩) (by first | (rw [add_block]; exact hn454_1) | (show (Addr.add _ _).block ≠ _; rw [add_block]; exact hn454_1) | exact hn454_1) (.int .i64 t438)).trans hx454_2; replace hx454_3 := (cell_far (p := ⟨gb453, 1, none⟩) (by first | (rw [add_block]; exact hn454_1) | (show (Addr.add _ _).block ≠ _; rw [add_block]; exact hn454_1) | exact hn454_1) (.int .i64 t438)).trans hx454_3; replace hx454_4 := (cell_far (p := ⟨gb453, 1, none⟩) (by first | (rw [add_block]; exact hn454_1) | (show (Addr.add _ _).block ≠ _; rw [add_block]; exact hn454_1) | exact hn454_1) (.int .i64 t438)).trans hx454_4; replace hx454_5 := (cell_far (p := ⟨gb453, 1, none⟩) (by first | (rw [add_block]; exact hn454_1) | (show (Addr.add _ _).block ≠ _; rw [add_block]; exact hn454_1) | exact hn454_1) (.int .i64 t438)).trans hx454_5; replace hx454_6 := (cell_far (p := ⟨gb453, 1, none⟩) (by first | (rw [add_block]; exact hn454_1) | (show (Addr.add _ _).block ≠ _; rw [add_block]; exact hn454_1) | exact hn454_1) (.int .i64 t438)).trans hx454_6; replace hx454_7 := (cell_far (p := ⟨gb453, 1, none⟩) (by first | (rw [add_block]; exact hn454_1) | (show (Addr.add _ _).block ≠ _; rw [add_block]; exact hn454_1) | exact hn454_1) (.int .i64 t438)).trans hx454_7; replace hx454_0 := (cell_far (p := ⟨gb453, 2, none⟩) (by first | (rw [add_block]; exact hn454_2) | (show (Addr.add _ _).block ≠ _; rw [add_block]; exact hn454_2) | exact hn454_2) (.int .i64 t439)).trans hx454_0; replace hx454_1 := (cell_far (p := ⟨gb453, 2, none⟩) (by first | (rw [add_block]; exact hn454_2) | (show (Addr.add _ _).block ≠ _; rw [add_block]; exact hn454_2) | exact hn454_2) (.int .i64 t439)).trans hx454_1; replace hx454_2 := (cell_far (p := ⟨gb453, 2, none⟩) (by first | (rw [add_block]; exact hn454_2) | (show (Addr.add _ _).block ≠ _; rw [add_block]; exact hn454_2) | exact hn454_2) (.int .i64 t439)).trans hx454_2; replace hx454_3 := (cell_far (p := ⟨gb453, 2, none⟩) (by first | (rw [add_block]; exact hn454_2) | (show (Addr.add _ _).block ≠ _; rw [add_block]; exact hn454_2) | exact hn454_2) (.int .i64 t439)).trans hx454_3; replace hx454_4 := (cell_far (p := ⟨gb453, 2, none⟩) (by first | (rw [add_block]; exact hn454_2) | (show (Addr.add _ _).block ≠ _; rw [add_block]; exact hn454_2) | exact hn454_2) (.int .i64 t439)).trans hx454_4; replace hx454_5 := (cell_far (p := ⟨gb453, 2, none⟩) (by first | (rw [add_block]; exact hn454_2) | (show (Addr.add _ _).block ≠ _; rw [add_block]; exact hn454_2) | exact hn454_2) (.int .i64 t439)).trans hx454_5; replace hx454_6 := (cell_far (p := ⟨gb453, 2, none⟩) (by first | (rw [add_block]; exact hn454_2) | (show (Addr.add _ _).block ≠ _; rw [add_block]; exact hn454_2) | exact hn454_2) (.int .i64 t439)).trans hx454_6; replace hx454_7 := (cell_far (p := ⟨gb453, 2, none⟩) (by first | (rw [add_block]; exact hn454_2) | (show (Addr.add _ _).block ≠ _; rw [add_block]; exact hn454_2) | exact hn454_2) (.int .i64 t439)).trans hx454_7; replace hx454_0 := (cell_far (p := ⟨gb453, 3, none⟩) (by first | (rw [add_block]; exact hn454_3) | (show (Addr.add _ _).block ≠ _; rw [add_block]; exact hn454_3) | exact hn454_3) (.int .i64 t440)).trans hx454_0; replace hx454_1 := (cell_far (p := ⟨gb453, 3, none⟩) (by first | (rw [add_block]; exact hn454_3) | (show (Addr.add _ _).block ≠ _; rw [add_block]; exact hn454_3) | exact hn454_3) (.int .i64 t440)).trans hx454_1; replace hx454_2 := (cell_far (p := ⟨gb453, 3, none⟩) (by first | (rw [add_block]; exact hn454_3) | (show (Addr.add _ _).block ≠ _; rw [add_block]; exact hn454_3) | exact hn454_3) (.int .i64 t440)).trans hx454_2; replace hx454_3 := (cell_far (p := ⟨gb453, 3, none⟩) (by first | (rw [add_block]; exact hn454_3) | (show (Addr.add _ _).block ≠ _; rw [add_block]; exact hn454_3) | exact hn454_3) (.int .i64 t440)).trans hx454_3; replace hx454_4 := (cell_far (p := ⟨gb453, 3, none⟩) (by first | (rw [add_block]; exact hn454_3) | (show (Addr.add _ _).block ≠ _; rw [add_block]; exact hn454_3) | exact hn454_3) (.int .i64 t440)).trans hx454_4; replace hx454_5 := (cell_far (p := ⟨gb453, 3, none⟩) (by first | (rw [add_block]; exact hn454_3) | (show (Addr.add _ _).block ≠ _; rw [add_block]; exact hn454_3) | exact hn454_3) (.int .i64 t440)).trans hx454_5; replace hx454_6 := (cell_far (p := ⟨gb453, 3, none⟩) (by first | (rw [add_block]; exact hn454_3) | (show (Addr.add _ _).block ≠ _; rw [add_block]; exact hn454_3) | exact hn454_3) (.int .i64 t440)).trans hx454_6; replace hx454_7 := (cell_far (p := ⟨gb453, 3, none⟩) (by first | (rw [add_block]; exact hn454_3) | (show (Addr.add _ _).block ≠ _; rw [add_block]; exact hn454_3) | exact hn454_3) (.int .i64 t440)).trans hx454_7; replace hx454_0 := (cell_far (p := ⟨gb453, 4, none⟩) (by first | (rw [add_block]; exact hn454_4) | (show (Addr.add _ _).block ≠ _; rw [add_block]; exact hn454_4) | exact hn454_4) (.int .i64 t441)).trans hx454_0; replace hx454_1 := (cell_far (p := ⟨gb453, 4, none⟩) (by first | (rw [add_block]; exact hn454_4) | (show (Addr.add _ _).block ≠ _; rw [add_block]; exact hn454_4) | exact hn454_4) (.int .i64 t441)).trans hx454_1; replace hx454_2 := (cell_far (p := ⟨gb453, 4, none⟩) (by first | (rw [add_block]; exact hn454_4) | (show (Addr.add _ _).block ≠ _; rw [add_block]; exact hn454_4) | exact hn454_4) (.int .i64 t441)).trans hx454_2; replace hx454_3 := (cell_far (p := ⟨gb453, 4, none⟩) (by first | (rw [add_block]; exact hn454_4) | (show (Addr.add _ _).block ≠ _; rw [add_block]; exact hn454_4) | exact hn454_4) (.int .i64 t441)).trans hx454_3; replace hx454_4 := (cell_far (p := ⟨gb453, 4, none⟩) (by first | (rw [add_block]; exact hn454_4) | (show (Addr.add _ _).block ≠ _; rw [add_block]; exact hn454_4) | exact hn454_4) (.int .i64 t441)).trans hx454_4; replace hx454_5 := (cell_far (p := ⟨gb453, 4, none⟩) (by first | (rw [add_block]; exact hn454_4) | (show (Addr.add _ _).block ≠ _; rw [add_block]; exact hn454_4) | exact hn454_4) (.int .i64 t441)).trans hx454_5; replace hx454_6 := (cell_far (p := ⟨gb453, 4, none⟩) (by first | (rw [add_block]; exact hn454_4) | (show (Addr.add _ _).block ≠ _; rw [add_block]; exact hn454_4) | exact hn454_4) (.int .i64 t441)).trans hx454_6; replace hx454_7 := (cell_far (p := ⟨gb453, 4, none⟩) (by first | (rw [add_block]; exact hn454_4) | (show (Addr.add _ _).block ≠ _; rw [add_block]; exact hn454_4) | exact hn454_4) (.int .i64 t441)).trans hx454_7; replace hx454_0 := (cell_far (p := ⟨gb453, 5, none⟩) (by first | (rw [add_block]; exact hn454_5) | (show (Addr.add _ _).block ≠ _; rw [add_block]; exact hn454_5) | exact hn454_5) (.int .i64 t442)).trans hx454_0; replace hx454_1 := (cell_far (p := ⟨gb453, 5, none⟩) (by first | (rw [add_block]; exact hn454_5) | (show (Addr.add _ _).block ≠ _; rw [add_block]; exact hn454_5) | exact hn454_5) (.int .i64 t442)).trans hx454_1; replace hx454_2 := (cell_far (p := ⟨gb453, 5, none⟩) (by first | (rw [add_block]; exact hn454_5) | (show (Addr.add _ _).block ≠ _; rw [add_block]; exact hn454_5) | exact hn454_5) (.int .i64 t442)).trans hx454_2; replace hx454_3 := (cell_far (p := ⟨gb453, 5, none⟩) (by first | (rw [add_block]; exact hn454_5) | (show (Addr.add _ _).block ≠ _; rw [add_block]; exact hn454_5) | exact hn454_5) (.int .i64 t442)).trans hx454_3; replace hx454_4 := (cell_far (p := ⟨gb453, 5, none⟩) (by first | (rw [add_block]; exact hn454_5) | (show (Addr.add _ _).block ≠ _; rw [add_block]; exact hn454_5) | exact hn454_5) (.int .i64 t442)).trans hx454_4; replace hx454_5 := (cell_far (p := ⟨gb453, 5, none⟩) (by first | (rw [add_block]; exact hn454_5) | (show (Addr.add _ _).block ≠ _; rw [add_block]; exact hn454_5) | exact hn454_5) (.int .i64 t442)).trans hx454_5; replace hx454_6 := (cell_far (p := ⟨gb453, 5, none⟩) (by first | (rw [add_block]; exact hn454_5) | (show (Addr.add _ _).block ≠ _; rw [add_block]; exact hn454_5) | exact hn454_5) (.int .i64 t442)).trans hx454_6; replace hx454_7 := (cell_far (p := ⟨gb453, 5, none⟩) (by first | (rw [add_block]; exact hn454_5) | (show (Addr.add _ _).block ≠ _; rw [add_block]; exact hn454_5) | exact hn454_5) (.int .i64 t442)).trans hx454_7; replace hx454_0 := (cell_far (p := ⟨gb453, 6, none⟩) (by first | (rw [add_block]; exact hn454_6) | (show (Addr.add _ _).block ≠ _; rw [add_block]; exact hn454_6) | exact hn454_6) (.bool t443)).trans hx454_0; replace hx454_1 := (cell_far (p := ⟨gb453, 6, none⟩) (by first | (rw [add_block]; exact hn454_6) | (show (Addr.add _ _).block ≠ _; rw [add_block]; exact hn454_6) | exact hn454_6) (.bool t443)).trans hx454_1; replace hx454_2 := (cell_far (p := ⟨gb453, 6, none⟩) (by first | (rw [add_block]; exact hn454_6) | (show (Addr.add _ _).block ≠ _; rw [add_block]; exact hn454_6) | exact hn454_6) (.bool t443)).trans hx454_2; replace hx454_3 := (cell_far (p := ⟨gb453, 6, none⟩) (by first | (rw [add_block]; exact hn454_6) | (show (Addr.add _ _).block ≠ _; rw [add_block]; exact hn454_6) | exact hn454_6) (.bool t443)).trans hx454_3; replace hx454_4 := (cell_far (p := ⟨gb453, 6, none⟩) (by first | (rw [add_block]; exact hn454_6) | (show (Addr.add _ _).block ≠ _; rw [add_block]; exact hn454_6) | exact hn454_6) (.bool t443)).trans hx454_4; replace hx454_5 := (cell_far (p := ⟨gb453, 6, none⟩) (by first | (rw [add_block]; exact hn454_6) | (show (Addr.add _ _).block ≠ _; rw [add_block]; exact hn454_6) | exact hn454_6) (.bool t443)).trans hx454_5; replace hx454_6 := (cell_far (p := ⟨gb453, 6, none⟩) (by first | (rw [add_block]; exact hn454_6) | (show (Addr.add _ _).block ≠ _; rw [add_block]; exact hn454_6) | exact hn454_6) (.bool t443)).trans hx454_6; replace hx454_7 := (cell_far (p := ⟨gb453, 6, none⟩) (by first | (rw [add_block]; exact hn454_6) | (show (Addr.add _ _).block ≠ _; rw [add_block]; exact hn454_6) | exact hn454_6) (.bool t443)).trans hx454_7; replace hx454_0 := (cell_far (p := ⟨gb453, 7, none⟩) (by first | (rw [add_block]; exact hn454_7) | (show (Addr.add _ _).block ≠ _; rw [add_block]; exact hn454_7) | exact hn454_7) (.slice (some ad454) t444.length co32)).trans hx454_0; replace hx454_1 := (cell_far (p := ⟨gb453, 7, none⟩) (by first | (rw [add_block]; exact hn454_7) | (show (Addr.add _ _).block ≠ _; rw [add_block]; exact hn454_7) | exact hn454_7) (.slice (some ad454) t444.length co32)).trans hx454_1; replace hx454_2 := (cell_far (p := ⟨gb453, 7, none⟩) (by first | (rw [add_block]; exact hn454_7) | (show (Addr.add _ _).block ≠ _; rw [add_block]; exact hn454_7) | exact hn454_7) (.slice (some ad454) t444.length co32)).trans hx454_2; replace hx454_3 := (cell_far (p := ⟨gb453, 7, none⟩) (by first | (rw [add_block]; exact hn454_7) | (show (Addr.add _ _).block ≠ _; rw [add_block]; exact hn454_7) | exact hn454_7) (.slice (some ad454) t444.length co32)).trans hx454_3; replace hx454_4 := (cell_far (p := ⟨gb453, 7, none⟩) (by first | (rw [add_block]; exact hn454_7) | (show (Addr.add _ _).block ≠ _; rw [add_block]; exact hn454_7) | exact hn454_7) (.slice (some ad454) t444.length co32)).trans hx454_4; replace hx454_5 := (cell_far (p := ⟨gb453, 7, none⟩) (by first | (rw [add_block]; exact hn454_7) | (show (Addr.add _ _).block ≠ _; rw [add_block]; exact hn454_7) | exact hn454_7) (.slice (some ad454) t444.length co32)).trans hx454_5; replace hx454_6 := (cell_far (p := ⟨gb453, 7, none⟩) (by first | (rw [add_block]; exact hn454_7) | (show (Addr.add _ _).block ≠ _; rw [add_block]; exact hn454_7) | exact hn454_7) (.slice (some ad454) t444.length co32)).trans hx454_6; replace hx454_7 := (cell_far (p := ⟨gb453, 7, none⟩) (by first | (rw [add_block]; exact hn454_7) | (show (Addr.add _ _).block ≠ _; rw [add_block]; exact hn454_7) | exact hn454_7) (.slice (some ad454) t444.length co32)).trans hx454_7; replace hx454_0 := (cell_far (p := ⟨gb453, 8, none⟩) (by first | (rw [add_block]; exact hn454_8) | (show (Addr.add _ _).block ≠ _; rw [add_block]; exact hn454_8) | exact hn454_8) (.int .i64 t447)).trans hx454_0; replace hx454_1 := (cell_far (p := ⟨gb453, 8, none⟩) (by first | (rw [add_block]; exact hn454_8) | (show (Addr.add _ _).block ≠ _; rw [add_block]; exact hn454_8) | exact hn454_8) (.int .i64 t447)).trans hx454_1; replace hx454_2 := (cell_far (p := ⟨gb453, 8, none⟩) (by first | (rw [add_block]; exact hn454_8) | (show (Addr.add _ _).block ≠ _; rw [add_block]; exact hn454_8) | exact hn454_8) (.int .i64 t447)).trans hx454_2; replace hx454_3 := (cell_far (p := ⟨gb453, 8, none⟩) (by first | (rw [add_block]; exact hn454_8) | (show (Addr.add _ _).block ≠ _; rw [add_block]; exact hn454_8) | exact hn454_8) (.int .i64 t447)).trans hx454_3; replace hx454_4 := (cell_far (p := ⟨gb453, 8, none⟩) (by first | (rw [add_block]; exact hn454_8) | (show (Addr.add _ _).block ≠ _; rw [add_block]; exact hn454_8) | exact hn454_8) (.int .i64 t447)).trans hx454_4; replace hx454_5 := (cell_far (p := ⟨gb453, 8, none⟩) (by first | (rw [add_block]; exact hn454_8) | (show (Addr.add _ _).block ≠ _; rw [add_block]; exact hn454_8) | exact hn454_8) (.int .i64 t447)).trans hx454_5; replace hx454_6 := (cell_far (p := ⟨gb453, 8, none⟩) (by first | (rw [add_block]; exact hn454_8) | (show (Addr.add _ _).block ≠ _; rw [add_block]; exact hn454_8) | exact hn454_8) (.int .i64 t447)).trans hx454_6; replace hx454_7 := (cell_far (p := ⟨gb453, 8, none⟩) (by first | (rw [add_block]; exact hn454_8) | (show (Addr.add _ _).block ≠ _; rw [add_block]; exact hn454_8) | exact hn454_8) (.int .i64 t447)).trans hx454_7; replace hx454_0 := (cell_far (p := ⟨gb453, 9, none⟩) (by first | (rw [add_block]; exact hn454_9) | (show (Addr.add _ _).block ≠ _; rw [add_block]; exact hn454_9) | exact hn454_9) (.int .i64 t448)).trans hx454_0; replace hx454_1 := (cell_far (p := ⟨gb453, 9, none⟩) (by first | (rw [add_block]; exact hn454_9) | (show (Addr.add _ _).block ≠ _; rw [add_block]; exact hn454_9) | exact hn454_9) (.int .i64 t448)).trans hx454_1; replace hx454_2 := (cell_far (p := ⟨gb453, 9, none⟩) (by first | (rw [add_block]; exact hn454_9) | (show (Addr.add _ _).block ≠ _; rw [add_block]; exact hn454_9) | exact hn454_9) (.int .i64 t448)).trans hx454_2; replace hx454_3 := (cell_far (p := ⟨gb453, 9, none⟩) (by first | (rw [add_block]; exact hn454_9) | (show (Addr.add _ _).block ≠ _; rw [add_block]; exact hn454_9) | exact hn454_9) (.int .i64 t448)).trans hx454_3; replace hx454_4 := (cell_far (p := ⟨gb453, 9, none⟩) (by first | (rw [add_block]; exact hn454_9) | (show (Addr.add _ _).block ≠ _; rw [add_block]; exact hn454_9) | exact hn454_9) (.int .i64 t448)).trans hx454_4; replace hx454_5 := (cell_far (p := ⟨gb453, 9, none⟩) (by first | (rw [add_block]; exact hn454_9) | (show (Addr.add _ _).block ≠ _; rw [add_block]; exact hn454_9) | exact hn454_9) (.int .i64 t448)).trans hx454_5; replace hx454_6 := (cell_far (p := ⟨gb453, 9, none⟩) (by first | (rw [add_block]; exact hn454_9) | (show (Addr.add _ _).block ≠ _; rw [add_block]; exact hn454_9) | exact hn454_9) (.int .i64 t448)).trans hx454_6; replace hx454_7 := (cell_far (p := ⟨gb453, 9, none⟩) (by first | (rw [add_block]; exact hn454_9) | (show (Addr.add _ _).block ≠ _; rw [add_block]; exact hn454_9) | exact hn454_9) (.int .i64 t448)).trans hx454_7; replace hx454_0 := (cell_far (p := ⟨gb453, 10, none⟩) (by first | (rw [add_block]; exact hn454_10) | (show (Addr.add _ _).block ≠ _; rw [add_block]; exact hn454_10) | exact hn454_10) (.int .i64 t449)).trans hx454_0; replace hx454_1 := (cell_far (p := ⟨gb453, 10, none⟩) (by first | (rw [add_block]; exact hn454_10) | (show (Addr.add _ _).block ≠ _; rw [add_block]; exact hn454_10) | exact hn454_10) (.int .i64 t449)).trans hx454_1; replace hx454_2 := (cell_far (p := ⟨gb453, 10, none⟩) (by first | (rw [add_block]; exact hn454_10) | (show (Addr.add _ _).block ≠ _; rw [add_block]; exact hn454_10) | exact hn454_10) (.int .i64 t449)).trans hx454_2; replace hx454_3 := (cell_far (p := ⟨gb453, 10, none⟩) (by first | (rw [add_block]; exact hn454_10) | (show (Addr.add _ _).block ≠ _; rw [add_block]; exact hn454_10) | exact hn454_10) (.int .i64 t449)).trans hx454_3; replace hx454_4 := (cell_far (p := ⟨gb453, 10, none⟩) (by first | (rw [add_block]; exact hn454_10) | (show (Addr.add _ _).block ≠ _; rw [add_block]; exact hn454_10) | exact hn454_10) (.int .i64 t449)).trans hx454_4; replace hx454_5 := (cell_far (p := ⟨gb453, 10, none⟩) (by first | (rw [add_block]; exact hn454_10) | (show (Addr.add _ _).block ≠ _; rw [add_block]; exact hn454_10) | exact hn454_10) (.int .i64 t449)).trans hx454_5; replace hx454_6 := (cell_far (p := ⟨gb453, 10, none⟩) (by first | (rw [add_block]; exact hn454_10) | (show (Addr.add _ _).block ≠ _; rw [add_block]; exact hn454_10) | exact hn454_10) (.int .i64 t449)).trans hx454_6; replace hx454_7 := (cell_far (p := ⟨gb453, 10, none⟩) (by first | (rw [add_block]; exact hn454_10) | (show (Addr.add _ _).block ≠ _; rw [add_block]; exact hn454_10) | exact hn454_10) (.int .i64 t449)).trans hx454_7; replace hx454_0 := (cell_far (p := ⟨gb453, 11, none⟩) (by first | (rw [add_block]; exact hn454_11) | (show (Addr.add _ _).block ≠ _; rw [add_block]; exact hn454_11) | exact hn454_11) (.int .i64 t450)).trans hx454_0; replace hx454_1 := (cell_far (p := ⟨gb453, 11, none⟩) (by first | (rw [add_block]; exact hn454_11) | (show (Addr.add _ _).block ≠ _; rw [add_block]; exact hn454_11) | exact hn454_11) (.int .i64 t450)).trans hx454_1; replace hx454_2 := (cell_far (p := ⟨gb453, 11, none⟩) (by first | (rw [add_block]; exact hn454_11) | (show (Addr.add _ _).block ≠ _; rw [add_block]; exact hn454_11) | exact hn454_11) (.int .i64 t450)).trans hx454_2; replace hx454_3 := (cell_far (p := ⟨gb453, 11, none⟩) (by first | (rw [add_block]; exact hn454_11) | (show (Addr.add _ _).block ≠ _; rw [add_block]; exact hn454_11) | exact hn454_11) (.int .i64 t450)).trans hx454_3; replace hx454_4 := (cell_far (p := ⟨gb453, 11, none⟩) (by first | (rw [add_block]; exact hn454_11) | (show (Addr.add _ _).block ≠ _; rw [add_block]; exact hn454_11) | exact hn454_11) (.int .i64 t450)).trans hx454_4; replace hx454_5 := (cell_far (p := ⟨gb453, 11, none⟩) (by first | (rw [add_block]; exact hn454_11) | (show (Addr.add _ _).block ≠ _; rw [add_block]; exact hn454_11) | exact hn454_11) (.int .i64 t450)).trans hx454_5; replace hx454_6 := (cell_far (p := ⟨gb453, 11, none⟩) (by first | (rw [add_block]; exact hn454_11) | (show (Addr.add _ _).block ≠ _; rw [add_block]; exact hn454_11) | exact hn454_11) (.int .i64 t450)).trans hx454_6; replace hx454_7 := (cell_far (p := ⟨gb453, 11, none⟩) (by first | (rw [add_block]; exact hn454_11) | (show (Addr.add _ _).block ≠ _; rw [add_block]; exact hn454_11) | exact hn454_11) (.int .i64 t450)).trans hx454_7; replace hx454_0 := (cell_far (p := ⟨gb453, 12, none⟩) (by first | (rw [add_block]; exact hn454_12) | (show (Addr.add _ _).block ≠ _; rw [add_block]; exact hn454_12) | exact hn454_12) (.int .i64 t451)).trans hx454_0; replace hx454_1 := (cell_far (p := ⟨gb453, 12, none⟩) (by first | (rw [add_block]; exact hn454_12) | (show (Addr.add _ _).block ≠ _; rw [add_block]; exact hn454_12) | exact hn454_12) (.int .i64 t451)).trans hx454_1; replace hx454_2 := (cell_far (p := ⟨gb453, 12, none⟩) (by first | (rw [add_block]; exact hn454_12) | (show (Addr.add _ _).block ≠ _; rw [add_block]; exact hn454_12) | exact hn454_12) (.int .i64 t451)).trans hx454_2; replace hx454_3 := (cell_far (p := ⟨gb453, 12, none⟩) (by first | (rw [add_block]; exact hn454_12) | (show (Addr.add _ _).block ≠ _; rw [add_block]; exact hn454_12) | exact hn454_12) (.int .i64 t451)).trans hx454_3; replace hx454_4 := (cell_far (p := ⟨gb453, 12, none⟩) (by first | (rw [add_block]; exact hn454_12) | (show (Addr.add _ _).block ≠ _; rw [add_block]; exact hn454_12) | exact hn454_12) (.int .i64 t451)).trans hx454_4; replace hx454_5 := (cell_far (p := ⟨gb453, 12, none⟩) (by first | (rw [add_block]; exact hn454_12) | (show (Addr.add _ _).block ≠ _; rw [add_block]; exact hn454_12) | exact hn454_12) (.int .i64 t451)).trans hx454_5; replace hx454_6 := (cell_far (p := ⟨gb453, 12, none⟩) (by first | (rw [add_block]; exact hn454_12) | (show (Addr.add _ _).block ≠ _; rw [add_block]; exact hn454_12) | exact hn454_12) (.int .i64 t451)).trans hx454_6; replace hx454_7 := (cell_far (p := ⟨gb453, 12, none⟩) (by first | (rw [add_block]; exact hn454_12) | (show (Addr.add _ _).block ≠ _; rw [add_block]; exact hn454_12) | exact hn454_12) (.int .i64 t451)).trans hx454_7; clear hn454_0; clear hn454_1; clear hn454_2; clear hn454_3; clear hn454_4; clear hn454_5; clear hn454_6; clear hn454_7; clear hn454_8; clear hn454_9; clear hn454_10; clear hn454_11; clear hn454_12; replace p454 := eq_true p454; replace q454 := eq_true q454) | (go_at_call 20; (with_reducible refine (account_Name.calls t437 t455 _ A10.out).mono ?_); rintro e w34 ⟨rfl, hb⟩; have n0_ := Aside0.mk (Kd.R_below (by (with_reducible repeat (first | apply Kd.R_alloc | apply Kd.R_drewN | apply Kd.R_drew)); exact (Kd.R_mono (Kd.R_step (Kd.R_types HO413.out BK453.out (by decide)) (fun _ hk _ => by (with_reducible repeat (first | refine (hst (g := gb453) hk.2 _ _).trans ?_ | refine (hdn _ _ _).trans ?_ | refine (hd1 _ _).trans ?_)); rfl)) (fun _ h_ => h_.1))) hb); have n1_ := Aside0.mk (Kd.R_below (by (with_reducible repeat (first | apply Kd.R_alloc | apply Kd.R_drewN | apply Kd.R_drew)); exact (Kd.R_mono (Kd.R_step (Kd.R_types HO429.out BK453.out (by decide)) (fun _ hk _ => by (with_reducible repeat (first | refine (hst (g := gb453) hk.2 _ _).trans ?_ | refine (hdn _ _ _).trans ?_ | refine (hd1 _ _).trans ?_)); rfl)) (fun _ h_ => h_.1))) hb); have n2_ := Aside0.mk (Kd.R_below (by (with_reducible repeat (first | apply Kd.R_alloc | apply Kd.R_drewN | apply Kd.R_drew)); exact (Kd.R_mono (Kd.R_step (Kd.R_types HO446.out BK453.out (by decide)) (fun _ hk _ => by (with_reducible repeat (first | refine (hst (g := gb453) hk.2 _ _).trans ?_ | refine (hdn _ _ _).trans ?_ | refine (hd1 _ _).trans ?_)); rfl)) (fun _ h_ => h_.1))) hb); have n3_ := Aside0.mk (blk_below (g := gb403) (o := .cells #[.int .i64 10, .int .u8 0, .int .i64 5, .int .i64 30, .bool false, .bool false] 25 (0, 0)) (by (with_reducible repeat (first | refine blk_drewN ?_ _ | refine blk_drew ?_ | refine blk_alloc ?_ _ | refine blk_far ?_ NB403_453.out _)); exact BK403.out) hb); have n4_ := Aside0.mk (blk_below (g := gb419) (o := .cells #[.int .u8 t404, .int .i64 t405, .int .i64 t406, .int .i64 t407, .int .i64 t408, .int .i64 t409, .bool t410, .slice Ao17 t411.length co17, .int .i64 t414, .int .i64 t415, .int .i64 t416, .int .i64 t417, .int .i64 t418] 31 (0, 0)) (by (with_reducible repeat (first | refine blk_drewN ?_ _ | refine blk_drew ?_ | refine blk_alloc ?_ _ | refine blk_far ?_ NB419_453.out _)); exact BK419.out) hb); have n5_ := Aside0.mk (blk_below (g := gb436) (o := .cells #[.int .u8 t420, .int .i64 t421, .int .i64 t422, .int .i64 t423, .int .i64 t424, .int .i64 t425, .bool t426, .slice Ao24 t427.length co24, .int .i64 t430, .int .i64 t431, .int .i64 t432, .int .i64 t433, .int .i64 t434] 31 (0, 0)) (by (with_reducible repeat (first | refine blk_drewN ?_ _ | refine blk_drew ?_ | refine blk_alloc ?_ _ | refine blk_far ?_ NB436_453.out _)); exact BK436.out) hb); have n6_ := Aside0.mk (blk_below (g := gb453) (o := .cells #[.int .u8 t437, .int .i64 t438, .int .i64 t439, .int .i64 t440, .int .i64 t441, .int .i64 t442, .bool t443, .slice (some ad454) t444.length co32, .int .i64 t447, .int .i64 t448, .int .i64 t449, .int .i64 t450, .int .i64 t451] 31 (0, 0)) (by (with_reducible repeat (first | refine blk_drewN ?_ _ | refine blk_drew ?_ | refine blk_alloc ?_ _)); refine bp13 (.int .u8 0) (.int .i64 0) (.int .i64 0) (.int .i64 0) (.int .i64 0) (.int .i64 0) (.bool false) (.slice none 0 0) (.int .i64 0) (.int .i64 0) (.int .i64 0) (.int .i64 0) (.int .i64 0) ?_; (with_reducible repeat (first | refine blk_drewN ?_ _ | refine blk_drew ?_ | refine blk_alloc ?_ _)); exact BK453.out) hb); have n7_ := Aside0.mk (below_step (by repeat (first | (with_reducible first | exact HB.out | apply below_alloc | apply pw_below_drewN | apply below_drew1 | refine below_set ?_ GE403.out | refine below_set ?_ GE419.out | refine below_set ?_ GE436.out | refine below_set ?_ GE453.out) | exact HB.out)) hb); clear HO413; clear HO429; clear HO446; clear BK403; clear BK419; clear BK436; clear BK453; clear HB; have HO413 := n0_; have HO429 := n1_; have HO446 := n2_; have BK403 := n3_; have BK419 := n4_; have BK436 := n5_; have BK453 := n6_; have HB := n7_; clear n0_ n1_ n2_ n3_ n4_ n5_ n6_ n7_; (try clear hb); (try clear hb2); (try clear hk); (try clear hi)))
              go_ret
              exact ⟨by first | rfl | (simp [errW_none, errW_some] <;> rfl) | (simp [*, errW_none, errW_some] <;> rfl), by repeat (first | (with_reducible first | exact HB.out | apply below_alloc | apply pw_below_drewN | apply below_drew1 | refine below_set ?_ GE403.out | refine below_set ?_ GE419.out | refine below_set ?_ GE436.out | refine below_set ?_ GE453.out) | exact HB.out)⟩
            · rw [if_neg c9] at H
              exact absurd H (by simp)
          · rw [if_neg c8] at H
            exact absurd H (by simp)
        · rw [if_neg c7] at H
          exact absurd H (by simp)
      · rw [if_neg c6] at H
        exact absurd H (by simp)
    · rw [if_neg c5] at H
      exact absurd H (by simp)
  · rw [if_neg c4] at H
    exact absurd H (by simp)

/-! ### paybookref12_Plan: function 10 -/
def paybookref12_Plan.f (a0 : Int) : Option (Int × Int × Int × Int × Bool × Bool) := (some (([1000, 0, 2999, 1] : List Int) : List Int)).bind fun y457 => (if 0 ≤ (Int.tmod a0 4) then (if (Int.tmod a0 4) < (y457.length : Int) then ((some (([0, 0, 10, 3] : List Int) : List Int)).bind fun y461 => (if 0 ≤ (((Int.tdiv a0 48) % 256) % 4) then (if (((Int.tdiv a0 48) % 256) % 4) < (y461.length : Int) then (some (rd y457 (Int.tmod a0 4), ((Int.tdiv a0 4) % 256) % 4, 1 + (((Int.tdiv a0 16) % 256) % 3), rd y461 (((Int.tdiv a0 48) % 256) % 4), ((Int.tmod a0 3) == 1), ((Int.tmod a0 7) == 3))) else (none)) else (none))) else (none)) else (none))
def paybookref12_Plan.T1 : Bool × List (List Nat × List Nat) := (true, [([], []), ([], []), ([1], [1]), ([0, 2], [0, 2]), ([3], [3]), ([], []), ([5], [5]), ([6], [6]), ([], []), ([8], [8]), ([9], [9]), ([10], [10]), ([11], [11]), ([], []), ([], []), ([14], [14]), ([15], [15]), ([13, 16], [13, 16]), ([17], [17]), ([], []), ([19], [19]), ([20], [20]), ([], []), ([22], [22]), ([23], [23]), ([4, 7, 12, 18, 21, 24], [4, 7, 12, 18, 21, 24]), ([25, 0, 1, 2, 3, 4, 5, 6, 7, 8, 9, 10, 11, 12, 13, 14, 15, 16, 17, 18, 19, 20, 21, 22, 23, 24, 25], [25])])
def paybookref12_Plan.B1 : List Nat := [0, 0, 2, 7, 15, 0, 32, 96, 0, 256, 768, 1792, 3840, 0, 0, 16384, 49152, 122880, 253952, 0, 524288, 1572864, 0, 4194304, 12582912, 33554431, 67108863]
theorem paybookref12_Plan.tab1 : rtab .any (opsOf Try.f10 1) = paybookref12_Plan.T1 := by kernel_rfl
theorem paybookref12_Plan.bits1 : waitsOk paybookref12_Plan.T1.2 paybookref12_Plan.B1 = true := by kernel_rfl
set_option maxHeartbeats 3000000 in
set_option maxRecDepth 100000 in
theorem paybookref12_Plan.calls (a0 : Int) (r1 : Int) (r2 : Int) (r3 : Int) (r4 : Int) (r5 : Bool) (r6 : Bool) (w : World) (h : paybookref12_Plan.f a0 = some (r1, r2, r3, r4, r5, r6)) :
    Calls Try.prog 10 #[.int .u8 a0] w fun e w' => e = .returned (.agg #[.int .i64 r1, .int .u8 r2, .int .i64 r3, .int .i64 r4, .bool r5, .bool r6]) ∧ Below w.heap.size w w' := by
  have hu25 := Try.underlying25
  have HB := Aside0.mk (Below.refl w.heap.size w)
  have H : ((some (([1000, 0, 2999, 1] : List Int) : List Int)).bind fun y457 => (if 0 ≤ (Int.tmod a0 4) then (if (Int.tmod a0 4) < (y457.length : Int) then ((some (([0, 0, 10, 3] : List Int) : List Int)).bind fun y461 => (if 0 ≤ (((Int.tdiv a0 48) % 256) % 4) then (if (((Int.tdiv a0 48) % 256) % 4) < (y461.length : Int) then (some (rd y457 (Int.tmod a0 4), ((Int.tdiv a0 4) % 256) % 4, 1 + (((Int.tdiv a0 16) % 256) % 3), rd y461 (((Int.tdiv a0 48) % 256) % 4), ((Int.tmod a0 3) == 1), ((Int.tmod a0 7) == 3))) else (none)) else (none))) else (none)) else (none))) = some (r1, r2, r3, r4, r5, r6) := h
  clear h
  obtain ⟨y457, hy457⟩ : ∃ y_ : List Int, y_ = (([1000, 0, 2999, 1] : List Int)) := ⟨_, rfl⟩
  replace H : (if 0 ≤ (Int.tmod a0 4) then (if (Int.tmod a0 4) < (y457.length : Int) then ((some (([0, 0, 10, 3] : List Int) : List Int)).bind fun y461 => (if 0 ≤ (((Int.tdiv a0 48) % 256) % 4) then (if (((Int.tdiv a0 48) % 256) % 4) < (y461.length : Int) then (some (rd y457 (Int.tmod a0 4), ((Int.tdiv a0 4) % 256) % 4, 1 + (((Int.tdiv a0 16) % 256) % 3), rd y461 (((Int.tdiv a0 48) % 256) % 4), ((Int.tmod a0 3) == 1), ((Int.tmod a0 7) == 3))) else (none)) else (none))) else (none)) else (none)) = some (r1, r2, r3, r4, r5, r6) := by first | (rw [hy457]; with_reducible exact H) | (have H2_ := (Option.bind_some _ _).symm.trans H; rw [hy457]; with_reducible exact H2_) | (have H2_ := (Option.bind_some _ _).symm.trans H; with_reducible exact H2_) | with_reducible exact H | (rw [hy457]; exact H) | exact H
  have Ny457 := Aside0.mk hy457
  clear hy457
  obtain ⟨ji2, hji2⟩ : ∃ j_ : Int, (Int.tmod a0 4) = j_ := ⟨_, rfl⟩
  replace H : (if 0 ≤ (ji2) then (if (ji2) < (y457.length : Int) then ((some (([0, 0, 10, 3] : List Int) : List Int)).bind fun y461 => (if 0 ≤ (((Int.tdiv a0 48) % 256) % 4) then (if (((Int.tdiv a0 48) % 256) % 4) < (y461.length : Int) then (some (rd y457 (ji2), ((Int.tdiv a0 4) % 256) % 4, 1 + (((Int.tdiv a0 16) % 256) % 3), rd y461 (((Int.tdiv a0 48) % 256) % 4), ((Int.tmod a0 3) == 1), ((Int.tmod a0 7) == 3))) else (none)) else (none))) else (none)) else (none)) = some (r1, r2, r3, r4, r5, r6) := by first | (rw [hji2] at H; exact H) | (simp only [hji2] at H ⊢; exact H)
  by_cases c3 : 0 ≤ (ji2)
  · rw [if_pos c3] at H
    have c3b0 : decide (0 ≤ (ji2)) = true := decide_eq_true c3
    clear c3
    by_cases c4 : (ji2) < (y457.length : Int)
    · rw [if_pos c4] at H
      have c4b0 : decide ((ji2) < (y457.length : Int)) = true := decide_eq_true c4
      clear c4
      obtain ⟨y461, hy461⟩ : ∃ y_ : List Int, y_ = (([0, 0, 10, 3] : List Int)) := ⟨_, rfl⟩
      replace H : (if 0 ≤ (((Int.tdiv a0 48) % 256) % 4) then (if (((Int.tdiv a0 48) % 256) % 4) < (y461.length : Int) then (some (rd y457 (ji2), ((Int.tdiv a0 4) % 256) % 4, 1 + (((Int.tdiv a0 16) % 256) % 3), rd y461 (((Int.tdiv a0 48) % 256) % 4), ((Int.tmod a0 3) == 1), ((Int.tmod a0 7) == 3))) else (none)) else (none)) = some (r1, r2, r3, r4, r5, r6) := by first | (rw [hy461]; with_reducible exact H) | (have H2_ := (Option.bind_some _ _).symm.trans H; rw [hy461]; with_reducible exact H2_) | (have H2_ := (Option.bind_some _ _).symm.trans H; with_reducible exact H2_) | with_reducible exact H | (rw [hy461]; exact H) | exact H
      have Ny461 := Aside0.mk hy461
      clear hy461
      obtain ⟨ji5, hji5⟩ : ∃ j_ : Int, (((Int.tdiv a0 48) % 256) % 4) = j_ := ⟨_, rfl⟩
      replace H : (if 0 ≤ (ji5) then (if (ji5) < (y461.length : Int) then (some (rd y457 (ji2), ((Int.tdiv a0 4) % 256) % 4, 1 + (((Int.tdiv a0 16) % 256) % 3), rd y461 (ji5), ((Int.tmod a0 3) == 1), ((Int.tmod a0 7) == 3))) else (none)) else (none)) = some (r1, r2, r3, r4, r5, r6) := by first | (rw [hji5] at H; exact H) | (simp only [hji5] at H ⊢; exact H)
      by_cases c6 : 0 ≤ (ji5)
      · rw [if_pos c6] at H
        have c6b0 : decide (0 ≤ (ji5)) = true := decide_eq_true c6
        clear c6
        by_cases c7 : (ji5) < (y461.length : Int)
        · rw [if_pos c7] at H
          have c7b0 : decide ((ji5) < (y461.length : Int)) = true := decide_eq_true c7
          clear c7
          simp only [Option.some.injEq, Prod.mk.injEq] at H
          obtain ⟨rfl, rfl, rfl, rfl, rfl, rfl⟩ := H
          go_enter Try.func10, Try.ntmps10
          try go_wp2_with (first | ((with_reducible refine gate_dst (N := 2) rfl ?_); refine box_event ?hg (N := 2) ?hd (cs := #[.int .i64 0, .int .u8 0, .int .i64 0, .int .i64 0, .bool false, .bool false]) (t := 25) ?hr ?_; (case hd => rfl); (case hg => rfl); (case hr => first | (go_simp; done) | (go_simp; rfl)); intro gb456 hg w8 hbox hb; have n0_ := Aside0.mk (below_step (by repeat (first | (with_reducible first | exact HB.out | apply below_alloc | apply pw_below_drewN | apply below_drew1) | exact HB.out)) hb); have n1_ := Aside0.mk (hbox); have n2_ := Aside0.mk ((by rw [hg]; exact (below_size (by repeat (first | (with_reducible first | exact HB.out | apply below_alloc | apply pw_below_drewN | apply below_drew1) | exact HB.out))) : w.heap.size ≤ gb456)); have n3_ := Aside0.mk ((by rw [hg]; exact (below_size (by repeat (first | (with_reducible first | exact HB.out | apply below_alloc | apply pw_below_drewN | apply below_drew1) | exact HB.out))) : w.heap.size ≤ gb456)); clear HB; have HB := n0_; have BK456 := n1_; have GW456 := n2_; have GE456 := n3_; clear n0_ n1_ n2_ n3_; clear hb hbox hg))
          have pi460 : (0 ≤ ((ji2) : Int)) = True := eq_true (of_decide_eq_true (by first | (with_reducible assumption) | assumption))
          have qi460 : ((ji2) < (y457.length : Int)) = True := eq_true (of_decide_eq_true (by first | (with_reducible assumption) | assumption))
          have pi464 : (0 ≤ ((ji5) : Int)) = True := eq_true (of_decide_eq_true (by first | (with_reducible assumption) | assumption))
          have qi464 : ((ji5) < (y461.length : Int)) = True := eq_true (of_decide_eq_true (by first | (with_reducible assumption) | assumption))
          have n0_ := Aside0.mk (blk_drew BK456.out)
          have n1_ := Aside0.mk (below_drew1 HB.out)
          clear BK456
          clear HB
          have BK456 := n0_
          have HB := n1_
          clear n0_ n1_
          refine start_ (n := 27) (S := fun w' => True) (ds := []) #[false, false, false, false, false, false, false, false, false, false, false, false, false, false, false, false, false, false, false, false, false, false, false, false, false, false, false] (by kernel_rfl) rfl rfl trivial (fun hHeld => ?_); refine with_tabW paybookref12_Plan.tab1 paybookref12_Plan.bits1 (fun HT_ HW_ => ?_)
          generalize w8.drew = w9 at BK456 HB hHeld ⊢
          refine pure_ (i := 1) (N := some 4) (v := ?_) (a' := ?_) #[false, true, false, false, false, false, false, false, false, false, false, false, false, false, false, false, false, false, false, false, false, false, false, false, false, false, false] rfl rfl (any_of HT_.out (by kernel_rfl)) (fun _ _ _ h => h) (Or.inl ⟨by rfl, ?_⟩) ?_ ?_
          rotate_left
          · intro w'
            go_simp
            with_reducible rfl
          rotate_left
          · simp only [Act.put, List.setIfInBounds_toArray, List.set_cons_zero, List.set_cons_succ, i64_w, i32_w]
            rfl
          refine pure_ (i := 5) (N := some 8) (v := ?_) (a' := ?_) #[false, true, false, false, false, true, false, false, false, false, false, false, false, false, false, false, false, false, false, false, false, false, false, false, false, false, false] rfl rfl (any_of HT_.out (by kernel_rfl)) (fun _ _ _ h => h) (Or.inl ⟨by rfl, ?_⟩) ?_ ?_
          rotate_left
          · intro w'
            go_simp
            with_reducible rfl
          rotate_left
          · simp only [Act.put, List.setIfInBounds_toArray, List.set_cons_zero, List.set_cons_succ, i64_w, i32_w]
            rfl
          refine pure_ (i := 8) (N := some 11) (v := ?_) (a' := ?_) #[false, true, false, false, false, true, false, false, true, false, false, false, false, false, false, false, false, false, false, false, false, false, false, false, false, false, false] rfl rfl (any_of HT_.out (by kernel_rfl)) (fun _ _ _ h => h) (Or.inl ⟨by rfl, ?_⟩) ?_ ?_
          rotate_left
          · intro w'
            go_simp
            with_reducible rfl
          rotate_left
          · simp only [Act.put, List.setIfInBounds_toArray, List.set_cons_zero, List.set_cons_succ, i64_w, i32_w]
            rfl
          refine pure_ (i := 14) (N := some 17) (v := ?_) (a' := ?_) #[false, true, false, false, false, true, false, false, true, false, false, false, false, false, true, false, false, false, false, false, false, false, false, false, false, false, false] rfl rfl (any_of HT_.out (by kernel_rfl)) (fun _ _ _ h => h) (Or.inl ⟨by rfl, ?_⟩) ?_ ?_
          rotate_left
          · intro w'
            go_simp
            with_reducible rfl
          rotate_left
          · simp only [Act.put, List.setIfInBounds_toArray, List.set_cons_zero, List.set_cons_succ, i64_w, i32_w]
            rfl
          refine pure_ (i := 19) (N := some 22) (v := ?_) (a' := ?_) #[false, true, false, false, false, true, false, false, true, false, false, false, false, false, true, false, false, false, false, true, false, false, false, false, false, false, false] rfl rfl (any_of HT_.out (by kernel_rfl)) (fun _ _ _ h => h) (Or.inl ⟨by rfl, ?_⟩) ?_ ?_
          rotate_left
          · intro w'
            go_simp
            with_reducible rfl
          rotate_left
          · simp only [Act.put, List.setIfInBounds_toArray, List.set_cons_zero, List.set_cons_succ, i64_w, i32_w]
            rfl
          refine pure_ (i := 22) (N := some 25) (v := ?_) (a' := ?_) #[false, true, false, false, false, true, false, false, true, false, false, false, false, false, true, false, false, false, false, true, false, false, true, false, false, false, false] rfl rfl (any_of HT_.out (by kernel_rfl)) (fun _ _ _ h => h) (Or.inl ⟨by rfl, ?_⟩) ?_ ?_
          rotate_left
          · intro w'
            go_simp
            with_reducible rfl
          rotate_left
          · simp only [Act.put, List.setIfInBounds_toArray, List.set_cons_zero, List.set_cons_succ, i64_w, i32_w]
            rfl
          refine inv_at [0, 2, 3, 4, 6, 7, 9, 10, 11, 12, 13, 15, 16, 17, 18, 20, 21, 23, 24, 25, 26] (fun a0_ b a w' => ∃ (v458 : Value) (adz_v458 : Addr) (v462 : Value) (adz_v462 : Addr) (m3_ : Value) (m17_ : Value), a = putSel a0_ b [(0, 3, v458), (2, 5, .int .u8 ji2), (3, 6, m3_), (4, 7, .int .i64 (rd y457 (ji2))), (6, 9, .int .u8 ((Int.tdiv a0 4) % 256)), (7, 10, .int .u8 ((Int.tdiv a0 4) % 4)), (9, 12, .int .u8 ((Int.tdiv a0 16) % 256)), (10, 13, .int .u8 (((Int.tdiv a0 16) % 256) % 3)), (11, 14, .int .i64 (((Int.tdiv a0 16) % 256) % 3)), (12, 15, .int .i64 (1 + (((Int.tdiv a0 16) % 256) % 3))), (13, 16, v462), (15, 18, .int .u8 ((Int.tdiv a0 48) % 256)), (16, 19, .int .u8 ji5), (17, 20, m17_), (18, 21, .int .i64 (rd y461 (ji5))), (20, 23, .int .u8 (Int.tmod a0 3)), (21, 24, .bool ((Int.tmod a0 3) == 1)), (23, 26, .int .u8 (Int.tmod a0 7)), (24, 27, .bool ((Int.tmod a0 7) == 3)), (25, 28, .agg #[.int .i64 (rd y457 (ji2)), .int .u8 ((Int.tdiv a0 4) % 4), .int .i64 (1 + (((Int.tdiv a0 16) % 256) % 3)), .int .i64 (rd y461 (ji5)), .bool ((Int.tmod a0 3) == 1), .bool ((Int.tmod a0 7) == 3)])] ∧ (b 26 = false → w'.heap[gb456]? = some (.cells #[.int .i64 0, .int .u8 0, .int .i64 0, .int .i64 0, .bool false, .bool false] 25 (0, 0))) ∧ (Below w.heap.size w w') ∧ (b 0 = true → Kd.R (Kd.int .i64) 2 w' w.heap.size (fun _ => True) v458 y457) ∧ (b 0 = true → ∃ c_, (v458 : Value) = .slice (some adz_v458) y457.length c_) ∧ (b 13 = true → Kd.R (Kd.int .i64) 3 w' w.heap.size (fun _ => True) v462 y461) ∧ (b 13 = true → ∃ c_, (v462 : Value) = .slice (some adz_v462) y461.length c_) ∧ (b 26 = true → w'.heap[gb456]? = some (.cells #[.int .i64 (rd y457 (ji2)), .int .u8 ((Int.tdiv a0 4) % 4), .int .i64 (1 + (((Int.tdiv a0 16) % 256) % 3)), .int .i64 (rd y461 (ji5)), .bool ((Int.tmod a0 3) == 1), .bool ((Int.tmod a0 7) == 3)] 25 (0, 0))) ∧ (b 3 = true → (m3_ : Value) = .pointer (some (adz_v458.add ((ji2)).toNat))) ∧ (b 17 = true → (m17_ : Value) = .pointer (some (adz_v462.add ((ji5)).toNat)))) HT_.out HW_.out (by kernel_rfl) (by kernel_rfl) ?_ ?_ ?_
          · exact ⟨.bool false, ⟨0, 0, none⟩, .bool false, ⟨0, 0, none⟩, .bool false, .bool false, by simp only [putSel, Bool.false_eq_true, if_false], fun _ => BK456.out, HB.out, fun h_ => absurd h_ (by decide), fun h_ => absurd h_ (by decide), fun h_ => absurd h_ (by decide), fun h_ => absurd h_ (by decide), fun h_ => absurd h_ (by decide), fun h_ => absurd h_ (by decide), fun h_ => absurd h_ (by decide)⟩
          · skip
            clear BK456 HB
            refine steps_cons ?_ ?_
            · rintro b a w' ⟨v458, adz_v458, v462, adz_v462, m3_, m17_, ha, Q_BK456, Q_HB, Q_HO459, Q_HA_HO459, Q_HO463, Q_HA_HO463, Q_BK456_e26, Q_X3_, Q_X17_⟩ hb_ hon hoff
              refine ⟨_, rfl, fun K hK => ?_⟩
              replace ha := Aside0.mk ha
              have BK456 := Aside0.mk (Q_BK456 (hoff 26 (by kernel_rfl)))
              have HB := Aside0.mk Q_HB
              refine Kd.R_lit_step (Kd.int .i64) _ 2 ?hg (N := 3) ?hd (xs := ([1000, 0, 2999, 1] : List Int)) (inner := [.int .i64 1000, .int .i64 0, .int .i64 2999, .int .i64 1]) (ok := fun _ => True) (okp := fun _ => True) ?hr ?hp (fun _ hk => hk) trivial (Below.refl _ _) (Nat.le_refl _) (by simp) ?_; (case hd => rfl); (case hg => rfl); (case hr => first | (go_simp; done) | (go_simp; rfl)); (case hp => exact (Reps.one (show Kd.M (Kd.int .i64) _ _ _ 1000 [.int .i64 1000] from rfl) (Reps.one (show Kd.M (Kd.int .i64) _ _ _ 0 [.int .i64 0] from rfl) (Reps.one (show Kd.M (Kd.int .i64) _ _ _ 2999 [.int .i64 2999] from rfl) (Reps.one (show Kd.M (Kd.int .i64) _ _ _ 1 [.int .i64 1] from rfl) (Reps.none _ _))))))
              intro v458 w10 ho11 hb hg_ hnew_
              clear hg_ hnew_
              (first | rw [← Ny457.out] at ho11 | (simp only [Int.reduceToNat] at ho11; rw [← Ny457.out] at ho11))
              have n0_ := Aside0.mk (Kd.R_lower ho11 (below_size (by repeat (first | (with_reducible first | exact HB.out | apply below_alloc | apply pw_below_drewN | apply below_drew1 | refine below_set ?_ GE456.out) | exact HB.out))))
              have n1_ := Aside0.mk (blk_below (g := gb456) (o := .cells #[.int .i64 0, .int .u8 0, .int .i64 0, .int .i64 0, .bool false, .bool false] 25 (0, 0)) (by (with_reducible repeat (first | refine blk_drewN ?_ _ | refine blk_drew ?_ | refine blk_alloc ?_ _)); exact BK456.out) hb)
              have n2_ := Aside0.mk (below_step (by repeat (first | (with_reducible first | exact HB.out | apply below_alloc | apply pw_below_drewN | apply below_drew1 | refine below_set ?_ GE456.out) | exact HB.out)) hb)
              have z_HO463 := fun (h0_ : b 13 = true) => (show Kd.R (Kd.int .i64) 3 w10 w.heap.size (fun _ => True) v462 y461 from by first | exact (Kd.R_below (by (with_reducible repeat (first | apply Kd.R_alloc | apply Kd.R_drewN | apply Kd.R_drew)); exact (Q_HO463 h0_)) hb) | exact Kd.R_mono (Kd.R_below (by (with_reducible repeat (first | apply Kd.R_alloc | apply Kd.R_drewN | apply Kd.R_drew)); exact (Q_HO463 h0_)) hb) (fun _ h_ => by first | trivial | exact h_ | exact h_.1))
              clear BK456
              clear HB
              have HO459 := n0_
              have BK456 := n1_
              have HB := n2_
              clear n0_ n1_ n2_
              clear hb ho11
              obtain ⟨Ao12, co12, eo12⟩ := Kd.R_slice HO459.out
              subst eo12
              obtain ⟨ado12, fo12, _⟩ := Kd.at_int (Kd.R_reads' HO459.out).2.2 0 (by decide) (by rw [Ny457.out]; simp)
              cases fo12
              refine hK.out _ _ ⟨.slice (some ado12) y457.length co12, ado12, v462, adz_v462, m3_, m17_, (by rw [ha.out]; exact putSel_upk 0 hb_ rfl rfl rfl), fun _ => (by (with_reducible repeat (first | refine blk_drewN ?_ _ | refine blk_drew ?_ | refine blk_alloc ?_ _)); exact BK456.out), (by repeat (first | (with_reducible first | exact HB.out | apply below_alloc | apply pw_below_drewN | apply below_drew1 | refine below_set ?_ GE456.out) | exact HB.out)), fun _ => (by (with_reducible repeat (first | apply Kd.R_alloc | apply Kd.R_drewN | apply Kd.R_drew)); exact HO459.out), fun _ => ⟨_, rfl⟩, z_HO463, Q_HA_HO463, fun h0_ => absurd ((hoff 26 (by kernel_rfl)).symm.trans h0_) (by decide), fun h0_ => absurd ((hoff 3 (by kernel_rfl)).symm.trans h0_) (by decide), Q_X17_⟩
            refine steps_cons ?_ ?_
            · rintro b a w' ⟨v458, adz_v458, v462, adz_v462, m3_, m17_, ha, Q_BK456, Q_HB, Q_HO459, Q_HA_HO459, Q_HO463, Q_HA_HO463, Q_BK456_e26, Q_X3_, Q_X17_⟩ hb_ hon hoff
              refine ⟨_, rfl, fun K hK => ?_⟩
              have e4 : a.tmps[4]? = some (.int .u8 a0) := by rw [ha]; exact (putSel_off rfl).trans rfl
              replace ha := Aside0.mk ha
              have BK456 := Aside0.mk (Q_BK456 (hoff 26 (by kernel_rfl)))
              have HB := Aside0.mk Q_HB
              refine value_ (w1 := w') (v := .int .u8 ji2) (by rfl) rfl ?_ ?_
              · go_simp
                (try simp only [i64_w])
                try rfl
                all_goals (try (first | omega | (rw [Int.tmod_eq_emod_of_nonneg (by omega)]; done) | (rw [Int.tmod_eq_emod_of_nonneg (by omega)]; omega) | (unfold wrap64; omega)))
              refine hK.out _ _ ⟨v458, adz_v458, v462, adz_v462, m3_, m17_, (by rw [ha.out]; exact putSel_upk 1 hb_ rfl rfl rfl), Q_BK456, Q_HB, Q_HO459, Q_HA_HO459, Q_HO463, Q_HA_HO463, fun h0_ => absurd ((hoff 26 (by kernel_rfl)).symm.trans h0_) (by decide), fun h0_ => absurd ((hoff 3 (by kernel_rfl)).symm.trans h0_) (by decide), Q_X17_⟩
            refine steps_cons ?_ ?_
            · rintro b a w' ⟨v458, adz_v458, v462, adz_v462, m3_, m17_, ha, Q_BK456, Q_HB, Q_HO459, Q_HA_HO459, Q_HO463, Q_HA_HO463, Q_BK456_e26, Q_X3_, Q_X17_⟩ hb_ hon hoff
              refine ⟨_, rfl, fun K hK => ?_⟩
              have e3 : a.tmps[3]? = some (v458) := by rw [ha]; exact putSel_on (e := (0, 3, v458)) 0 rfl rfl (hon 0 (by kernel_rfl)) rfl
              have e5 : a.tmps[5]? = some (.int .u8 ji2) := by rw [ha]; exact putSel_on (e := (2, 5, .int .u8 ji2)) 1 rfl rfl (hon 2 (by kernel_rfl)) rfl
              replace ha := Aside0.mk ha
              have BK456 := Aside0.mk (Q_BK456 (hoff 26 (by kernel_rfl)))
              have HB := Aside0.mk Q_HB
              have HO459 := Aside0.mk (Q_HO459 (hon 0 (by kernel_rfl)))
              have HA_HO459 := Aside0.mk (Q_HA_HO459 (hon 0 (by kernel_rfl)))
              obtain ⟨c_, hv_⟩ := HA_HO459.out
              rw [hv_] at e3
              refine value_ (w1 := w') (v := .pointer (some (adz_v458.add ((ji2)).toNat))) (by rfl) rfl ?_ ?_
              · go_simp
                (try simp only [i64_w])
                try rfl
                all_goals (try (first | omega | (rw [Int.tmod_eq_emod_of_nonneg (by omega)]; done) | (rw [Int.tmod_eq_emod_of_nonneg (by omega)]; omega) | (unfold wrap64; omega)))
              refine hK.out _ _ ⟨v458, adz_v458, v462, adz_v462, (.pointer (some (adz_v458.add ((ji2)).toNat))), m17_, (by rw [ha.out]; exact putSel_upk 2 hb_ rfl rfl rfl), Q_BK456, Q_HB, Q_HO459, Q_HA_HO459, Q_HO463, Q_HA_HO463, fun h0_ => absurd ((hoff 26 (by kernel_rfl)).symm.trans h0_) (by decide), fun _ => rfl, Q_X17_⟩
            refine steps_cons ?_ ?_
            · rintro b a w' ⟨v458, adz_v458, v462, adz_v462, m3_, m17_, ha, Q_BK456, Q_HB, Q_HO459, Q_HA_HO459, Q_HO463, Q_HA_HO463, Q_BK456_e26, Q_X3_, Q_X17_⟩ hb_ hon hoff
              refine ⟨_, rfl, fun K hK => ?_⟩
              have e6 : a.tmps[6]? = some (m3_) := by rw [ha]; exact putSel_on (e := (3, 6, m3_)) 2 rfl rfl (hon 3 (by kernel_rfl)) rfl
              rw [Q_X3_ (hon 3 (by kernel_rfl))] at e6
              replace ha := Aside0.mk ha
              have BK456 := Aside0.mk (Q_BK456 (hoff 26 (by kernel_rfl)))
              have HB := Aside0.mk Q_HB
              have HO459 := Aside0.mk (Q_HO459 (hon 0 (by kernel_rfl)))
              have HA_HO459 := Aside0.mk (Q_HA_HO459 (hon 0 (by kernel_rfl)))
              obtain ⟨c_, hv_⟩ := HA_HO459.out
              have hF_ := HO459.out
              rw [hv_] at hF_
              obtain ⟨ad_, ea_, hx_⟩ := Kd.at_int (Kd.R_reads' hF_).2.2 (ji2) (of_eq_true pi460) (of_eq_true qi460)
              cases ea_
              refine value_ (w1 := w') (v := .int .i64 (rd y457 (ji2))) (by rfl) rfl ?_ ?_
              · go_simp
                (try simp only [i64_w])
                try rfl
                all_goals (try (first | omega | (rw [Int.tmod_eq_emod_of_nonneg (by omega)]; done) | (rw [Int.tmod_eq_emod_of_nonneg (by omega)]; omega) | (unfold wrap64; omega)))
              refine hK.out _ _ ⟨v458, adz_v458, v462, adz_v462, m3_, m17_, (by rw [ha.out]; exact putSel_upk 3 hb_ rfl rfl rfl), Q_BK456, Q_HB, Q_HO459, Q_HA_HO459, Q_HO463, Q_HA_HO463, fun h0_ => absurd ((hoff 26 (by kernel_rfl)).symm.trans h0_) (by decide), Q_X3_, Q_X17_⟩
            refine steps_cons ?_ ?_
            · rintro b a w' ⟨v458, adz_v458, v462, adz_v462, m3_, m17_, ha, Q_BK456, Q_HB, Q_HO459, Q_HA_HO459, Q_HO463, Q_HA_HO463, Q_BK456_e26, Q_X3_, Q_X17_⟩ hb_ hon hoff
              refine ⟨_, rfl, fun K hK => ?_⟩
              have e8 : a.tmps[8]? = some (.int .u8 a0) := by rw [ha]; exact (putSel_off rfl).trans rfl
              replace ha := Aside0.mk ha
              have BK456 := Aside0.mk (Q_BK456 (hoff 26 (by kernel_rfl)))
              have HB := Aside0.mk Q_HB
              refine value_ (w1 := w') (v := .int .u8 ((Int.tdiv a0 4) % 256)) (by rfl) rfl ?_ ?_
              · go_simp
                (try simp only [i64_w])
                try rfl
                all_goals (try (first | omega | (rw [Int.tmod_eq_emod_of_nonneg (by omega)]; done) | (rw [Int.tmod_eq_emod_of_nonneg (by omega)]; omega) | (unfold wrap64; omega)))
              refine hK.out _ _ ⟨v458, adz_v458, v462, adz_v462, m3_, m17_, (by rw [ha.out]; exact putSel_upk 4 hb_ rfl rfl rfl), Q_BK456, Q_HB, Q_HO459, Q_HA_HO459, Q_HO463, Q_HA_HO463, fun h0_ => absurd ((hoff 26 (by kernel_rfl)).symm.trans h0_) (by decide), Q_X3_, Q_X17_⟩
            refine steps_cons ?_ ?_
            · rintro b a w' ⟨v458, adz_v458, v462, adz_v462, m3_, m17_, ha, Q_BK456, Q_HB, Q_HO459, Q_HA_HO459, Q_HO463, Q_HA_HO463, Q_BK456_e26, Q_X3_, Q_X17_⟩ hb_ hon hoff
              refine ⟨_, rfl, fun K hK => ?_⟩
              have e9 : a.tmps[9]? = some (.int .u8 ((Int.tdiv a0 4) % 256)) := by rw [ha]; exact putSel_on (e := (6, 9, .int .u8 ((Int.tdiv a0 4) % 256))) 4 rfl rfl (hon 6 (by kernel_rfl)) rfl
              replace ha := Aside0.mk ha
              have BK456 := Aside0.mk (Q_BK456 (hoff 26 (by kernel_rfl)))
              have HB := Aside0.mk Q_HB
              refine value_ (w1 := w') (v := .int .u8 ((Int.tdiv a0 4) % 4)) (by rfl) rfl ?_ ?_
              · go_simp
                (try simp only [i64_w])
                try rfl
                all_goals (try (first | omega | (rw [Int.tmod_eq_emod_of_nonneg (by omega)]; done) | (rw [Int.tmod_eq_emod_of_nonneg (by omega)]; omega) | (unfold wrap64; omega)))
              refine hK.out _ _ ⟨v458, adz_v458, v462, adz_v462, m3_, m17_, (by rw [ha.out]; exact putSel_upk 5 hb_ rfl rfl rfl), Q_BK456, Q_HB, Q_HO459, Q_HA_HO459, Q_HO463, Q_HA_HO463, fun h0_ => absurd ((hoff 26 (by kernel_rfl)).symm.trans h0_) (by decide), Q_X3_, Q_X17_⟩
            refine steps_cons ?_ ?_
            · rintro b a w' ⟨v458, adz_v458, v462, adz_v462, m3_, m17_, ha, Q_BK456, Q_HB, Q_HO459, Q_HA_HO459, Q_HO463, Q_HA_HO463, Q_BK456_e26, Q_X3_, Q_X17_⟩ hb_ hon hoff
              refine ⟨_, rfl, fun K hK => ?_⟩
              have e11 : a.tmps[11]? = some (.int .u8 a0) := by rw [ha]; exact (putSel_off rfl).trans rfl
              replace ha := Aside0.mk ha
              have BK456 := Aside0.mk (Q_BK456 (hoff 26 (by kernel_rfl)))
              have HB := Aside0.mk Q_HB
              refine value_ (w1 := w') (v := .int .u8 ((Int.tdiv a0 16) % 256)) (by rfl) rfl ?_ ?_
              · go_simp
                (try simp only [i64_w])
                try rfl
                all_goals (try (first | omega | (rw [Int.tmod_eq_emod_of_nonneg (by omega)]; done) | (rw [Int.tmod_eq_emod_of_nonneg (by omega)]; omega) | (unfold wrap64; omega)))
              refine hK.out _ _ ⟨v458, adz_v458, v462, adz_v462, m3_, m17_, (by rw [ha.out]; exact putSel_upk 6 hb_ rfl rfl rfl), Q_BK456, Q_HB, Q_HO459, Q_HA_HO459, Q_HO463, Q_HA_HO463, fun h0_ => absurd ((hoff 26 (by kernel_rfl)).symm.trans h0_) (by decide), Q_X3_, Q_X17_⟩
            refine steps_cons ?_ ?_
            · rintro b a w' ⟨v458, adz_v458, v462, adz_v462, m3_, m17_, ha, Q_BK456, Q_HB, Q_HO459, Q_HA_HO459, Q_HO463, Q_HA_HO463, Q_BK456_e26, Q_X3_, Q_X17_⟩ hb_ hon hoff
              refine ⟨_, rfl, fun K hK => ?_⟩
              have e12 : a.tmps[12]? = some (.int .u8 ((Int.tdiv a0 16) % 256)) := by rw [ha]; exact putSel_on (e := (9, 12, .int .u8 ((Int.tdiv a0 16) % 256))) 6 rfl rfl (hon 9 (by kernel_rfl)) rfl
              replace ha := Aside0.mk ha
              have BK456 := Aside0.mk (Q_BK456 (hoff 26 (by kernel_rfl)))
              have HB := Aside0.mk Q_HB
              refine value_ (w1 := w') (v := .int .u8 (((Int.tdiv a0 16) % 256) % 3)) (by rfl) rfl ?_ ?_
              · go_simp
                (try simp only [i64_w])
                try rfl
                all_goals (try (first | omega | (rw [Int.tmod_eq_emod_of_nonneg (by omega)]; done) | (rw [Int.tmod_eq_emod_of_nonneg (by omega)]; omega) | (unfold wrap64; omega)))
              refine hK.out _ _ ⟨v458, adz_v458, v462, adz_v462, m3_, m17_, (by rw [ha.out]; exact putSel_upk 7 hb_ rfl rfl rfl), Q_BK456, Q_HB, Q_HO459, Q_HA_HO459, Q_HO463, Q_HA_HO463, fun h0_ => absurd ((hoff 26 (by kernel_rfl)).symm.trans h0_) (by decide), Q_X3_, Q_X17_⟩
            refine steps_cons ?_ ?_
            · rintro b a w' ⟨v458, adz_v458, v462, adz_v462, m3_, m17_, ha, Q_BK456, Q_HB, Q_HO459, Q_HA_HO459, Q_HO463, Q_HA_HO463, Q_BK456_e26, Q_X3_, Q_X17_⟩ hb_ hon hoff
              refine ⟨_, rfl, fun K hK => ?_⟩
              have e13 : a.tmps[13]? = some (.int .u8 (((Int.tdiv a0 16) % 256) % 3)) := by rw [ha]; exact putSel_on (e := (10, 13, .int .u8 (((Int.tdiv a0 16) % 256) % 3))) 7 rfl rfl (hon 10 (by kernel_rfl)) rfl
              replace ha := Aside0.mk ha
              have BK456 := Aside0.mk (Q_BK456 (hoff 26 (by kernel_rfl)))
              have HB := Aside0.mk Q_HB
              refine value_ (w1 := w') (v := .int .i64 (((Int.tdiv a0 16) % 256) % 3)) (by rfl) rfl ?_ ?_
              · go_simp
                (try simp only [i64_w])
                try rfl
                all_goals (try (first | omega | (rw [Int.tmod_eq_emod_of_nonneg (by omega)]; done) | (rw [Int.tmod_eq_emod_of_nonneg (by omega)]; omega) | (unfold wrap64; omega)))
              refine hK.out _ _ ⟨v458, adz_v458, v462, adz_v462, m3_, m17_, (by rw [ha.out]; exact putSel_upk 8 hb_ rfl rfl rfl), Q_BK456, Q_HB, Q_HO459, Q_HA_HO459, Q_HO463, Q_HA_HO463, fun h0_ => absurd ((hoff 26 (by kernel_rfl)).symm.trans h0_) (by decide), Q_X3_, Q_X17_⟩
            refine steps_cons ?_ ?_
            · rintro b a w' ⟨v458, adz_v458, v462, adz_v462, m3_, m17_, ha, Q_BK456, Q_HB, Q_HO459, Q_HA_HO459, Q_HO463, Q_HA_HO463, Q_BK456_e26, Q_X3_, Q_X17_⟩ hb_ hon hoff
              refine ⟨_, rfl, fun K hK => ?_⟩
              have e14 : a.tmps[14]? = some (.int .i64 (((Int.tdiv a0 16) % 256) % 3)) := by rw [ha]; exact putSel_on (e := (11, 14, .int .i64 (((Int.tdiv a0 16) % 256) % 3))) 8 rfl rfl (hon 11 (by kernel_rfl)) rfl
              replace ha := Aside0.mk ha
              have BK456 := Aside0.mk (Q_BK456 (hoff 26 (by kernel_rfl)))
              have HB := Aside0.mk Q_HB
              refine value_ (w1 := w') (v := .int .i64 (1 + (((Int.tdiv a0 16) % 256) % 3))) (by rfl) rfl ?_ ?_
              · go_simp
                (try simp only [i64_w])
                try rfl
                all_goals (try (first | omega | (rw [Int.tmod_eq_emod_of_nonneg (by omega)]; done) | (rw [Int.tmod_eq_emod_of_nonneg (by omega)]; omega) | (unfold wrap64; omega)))
              refine hK.out _ _ ⟨v458, adz_v458, v462, adz_v462, m3_, m17_, (by rw [ha.out]; exact putSel_upk 9 hb_ rfl rfl rfl), Q_BK456, Q_HB, Q_HO459, Q_HA_HO459, Q_HO463, Q_HA_HO463, fun h0_ => absurd ((hoff 26 (by kernel_rfl)).symm.trans h0_) (by decide), Q_X3_, Q_X17_⟩
            refine steps_cons ?_ ?_
            · rintro b a w' ⟨v458, adz_v458, v462, adz_v462, m3_, m17_, ha, Q_BK456, Q_HB, Q_HO459, Q_HA_HO459, Q_HO463, Q_HA_HO463, Q_BK456_e26, Q_X3_, Q_X17_⟩ hb_ hon hoff
              refine ⟨_, rfl, fun K hK => ?_⟩
              replace ha := Aside0.mk ha
              have BK456 := Aside0.mk (Q_BK456 (hoff 26 (by kernel_rfl)))
              have HB := Aside0.mk Q_HB
              refine Kd.R_lit_step (Kd.int .i64) _ 3 ?hg (N := 16) ?hd (xs := ([0, 0, 10, 3] : List Int)) (inner := [.int .i64 0, .int .i64 0, .int .i64 10, .int .i64 3]) (ok := fun _ => True) (okp := fun _ => True) ?hr ?hp (fun _ hk => hk) trivial (Below.refl _ _) (Nat.le_refl _) (by simp) ?_; (case hd => rfl); (case hg => rfl); (case hr => first | (go_simp; done) | (go_simp; rfl)); (case hp => exact (Reps.one (show Kd.M (Kd.int .i64) _ _ _ 0 [.int .i64 0] from rfl) (Reps.one (show Kd.M (Kd.int .i64) _ _ _ 0 [.int .i64 0] from rfl) (Reps.one (show Kd.M (Kd.int .i64) _ _ _ 10 [.int .i64 10] from rfl) (Reps.one (show Kd.M (Kd.int .i64) _ _ _ 3 [.int .i64 3] from rfl) (Reps.none _ _))))))
              intro v462 w10 ho11 hb hg_ hnew_
              clear hg_ hnew_
              (first | rw [← Ny461.out] at ho11 | (simp only [Int.reduceToNat] at ho11; rw [← Ny461.out] at ho11))
              have n0_ := Aside0.mk (Kd.R_lower ho11 (below_size (by repeat (first | (with_reducible first | exact HB.out | apply below_alloc | apply pw_below_drewN | apply below_drew1 | refine below_set ?_ GE456.out) | exact HB.out))))
              have n1_ := Aside0.mk (blk_below (g := gb456) (o := .cells #[.int .i64 0, .int .u8 0, .int .i64 0, .int .i64 0, .bool false, .bool false] 25 (0, 0)) (by (with_reducible repeat (first | refine blk_drewN ?_ _ | refine blk_drew ?_ | refine blk_alloc ?_ _)); exact BK456.out) hb)
              have n2_ := Aside0.mk (below_step (by repeat (first | (with_reducible first | exact HB.out | apply below_alloc | apply pw_below_drewN | apply below_drew1 | refine below_set ?_ GE456.out) | exact HB.out)) hb)
              have z_HO459 := fun (h0_ : b 0 = true) => (show Kd.R (Kd.int .i64) 2 w10 w.heap.size (fun _ => True) v458 y457 from by first | exact (Kd.R_below (by (with_reducible repeat (first | apply Kd.R_alloc | apply Kd.R_drewN | apply Kd.R_drew)); exact (Q_HO459 h0_)) hb) | exact Kd.R_mono (Kd.R_below (by (with_reducible repeat (first | apply Kd.R_alloc | apply Kd.R_drewN | apply Kd.R_drew)); exact (Q_HO459 h0_)) hb) (fun _ h_ => by first | trivial | exact h_ | exact h_.1))
              clear BK456
              clear HB
              have HO463 := n0_
              have BK456 := n1_
              have HB := n2_
              clear n0_ n1_ n2_
              clear hb ho11
              obtain ⟨Ao12, co12, eo12⟩ := Kd.R_slice HO463.out
              subst eo12
              obtain ⟨ado12, fo12, _⟩ := Kd.at_int (Kd.R_reads' HO463.out).2.2 0 (by decide) (by rw [Ny461.out]; simp)
              cases fo12
              refine hK.out _ _ ⟨v458, adz_v458, .slice (some ado12) y461.length co12, ado12, m3_, m17_, (by rw [ha.out]; exact putSel_upk 10 hb_ rfl rfl rfl), fun _ => (by (with_reducible repeat (first | refine blk_drewN ?_ _ | refine blk_drew ?_ | refine blk_alloc ?_ _)); exact BK456.out), (by repeat (first | (with_reducible first | exact HB.out | apply below_alloc | apply pw_below_drewN | apply below_drew1 | refine below_set ?_ GE456.out) | exact HB.out)), z_HO459, Q_HA_HO459, fun _ => (by (with_reducible repeat (first | apply Kd.R_alloc | apply Kd.R_drewN | apply Kd.R_drew)); exact HO463.out), fun _ => ⟨_, rfl⟩, fun h0_ => absurd ((hoff 26 (by kernel_rfl)).symm.trans h0_) (by decide), Q_X3_, fun h0_ => absurd ((hoff 17 (by kernel_rfl)).symm.trans h0_) (by decide)⟩
            refine steps_cons ?_ ?_
            · rintro b a w' ⟨v458, adz_v458, v462, adz_v462, m3_, m17_, ha, Q_BK456, Q_HB, Q_HO459, Q_HA_HO459, Q_HO463, Q_HA_HO463, Q_BK456_e26, Q_X3_, Q_X17_⟩ hb_ hon hoff
              refine ⟨_, rfl, fun K hK => ?_⟩
              have e17 : a.tmps[17]? = some (.int .u8 a0) := by rw [ha]; exact (putSel_off rfl).trans rfl
              replace ha := Aside0.mk ha
              have BK456 := Aside0.mk (Q_BK456 (hoff 26 (by kernel_rfl)))
              have HB := Aside0.mk Q_HB
              refine value_ (w1 := w') (v := .int .u8 ((Int.tdiv a0 48) % 256)) (by rfl) rfl ?_ ?_
              · go_simp
                (try simp only [i64_w])
                try rfl
                all_goals (try (first | omega | (rw [Int.tmod_eq_emod_of_nonneg (by omega)]; done) | (rw [Int.tmod_eq_emod_of_nonneg (by omega)]; omega) | (unfold wrap64; omega)))
              refine hK.out _ _ ⟨v458, adz_v458, v462, adz_v462, m3_, m17_, (by rw [ha.out]; exact putSel_upk 11 hb_ rfl rfl rfl), Q_BK456, Q_HB, Q_HO459, Q_HA_HO459, Q_HO463, Q_HA_HO463, fun h0_ => absurd ((hoff 26 (by kernel_rfl)).symm.trans h0_) (by decide), Q_X3_, fun h0_ => absurd ((hoff 17 (by kernel_rfl)).symm.trans h0_) (by decide)⟩
            refine steps_cons ?_ ?_
            · rintro b a w' ⟨v458, adz_v458, v462, adz_v462, m3_, m17_, ha, Q_BK456, Q_HB, Q_HO459, Q_HA_HO459, Q_HO463, Q_HA_HO463, Q_BK456_e26, Q_X3_, Q_X17_⟩ hb_ hon hoff
              refine ⟨_, rfl, fun K hK => ?_⟩
              have e18 : a.tmps[18]? = some (.int .u8 ((Int.tdiv a0 48) % 256)) := by rw [ha]; exact putSel_on (e := (15, 18, .int .u8 ((Int.tdiv a0 48) % 256))) 11 rfl rfl (hon 15 (by kernel_rfl)) rfl
              replace ha := Aside0.mk ha
              have BK456 := Aside0.mk (Q_BK456 (hoff 26 (by kernel_rfl)))
              have HB := Aside0.mk Q_HB
              refine value_ (w1 := w') (v := .int .u8 ji5) (by rfl) rfl ?_ ?_
              · go_simp
                (try simp only [i64_w])
                try rfl
                all_goals (try (first | omega | (rw [Int.tmod_eq_emod_of_nonneg (by omega)]; done) | (rw [Int.tmod_eq_emod_of_nonneg (by omega)]; omega) | (unfold wrap64; omega)))
              refine hK.out _ _ ⟨v458, adz_v458, v462, adz_v462, m3_, m17_, (by rw [ha.out]; exact putSel_upk 12 hb_ rfl rfl rfl), Q_BK456, Q_HB, Q_HO459, Q_HA_HO459, Q_HO463, Q_HA_HO463, fun h0_ => absurd ((hoff 26 (by kernel_rfl)).symm.trans h0_) (by decide), Q_X3_, fun h0_ => absurd ((hoff 17 (by kernel_rfl)).symm.trans h0_) (by decide)⟩
            refine steps_cons ?_ ?_
            · rintro b a w' ⟨v458, adz_v458, v462, adz_v462, m3_, m17_, ha, Q_BK456, Q_HB, Q_HO459, Q_HA_HO459, Q_HO463, Q_HA_HO463, Q_BK456_e26, Q_X3_, Q_X17_⟩ hb_ hon hoff
              refine ⟨_, rfl, fun K hK => ?_⟩
              have e16 : a.tmps[16]? = some (v462) := by rw [ha]; exact putSel_on (e := (13, 16, v462)) 10 rfl rfl (hon 13 (by kernel_rfl)) rfl
              have e19 : a.tmps[19]? = some (.int .u8 ji5) := by rw [ha]; exact putSel_on (e := (16, 19, .int .u8 ji5)) 12 rfl rfl (hon 16 (by kernel_rfl)) rfl
              replace ha := Aside0.mk ha
              have BK456 := Aside0.mk (Q_BK456 (hoff 26 (by kernel_rfl)))
              have HB := Aside0.mk Q_HB
              have HO463 := Aside0.mk (Q_HO463 (hon 13 (by kernel_rfl)))
              have HA_HO463 := Aside0.mk (Q_HA_HO463 (hon 13 (by kernel_rfl)))
              obtain ⟨c_, hv_⟩ := HA_HO463.out
              rw [hv_] at e16
              refine value_ (w1 := w') (v := .pointer (some (adz_v462.add ((ji5)).toNat))) (by rfl) rfl ?_ ?_
              · go_simp
                (try simp only [i64_w])
                try rfl
                all_goals (try (first | omega | (rw [Int.tmod_eq_emod_of_nonneg (by omega)]; done) | (rw [Int.tmod_eq_emod_of_nonneg (by omega)]; omega) | (unfold wrap64; omega)))
              refine hK.out _ _ ⟨v458, adz_v458, v462, adz_v462, m3_, (.pointer (some (adz_v462.add ((ji5)).toNat))), (by rw [ha.out]; exact putSel_upk 13 hb_ rfl rfl rfl), Q_BK456, Q_HB, Q_HO459, Q_HA_HO459, Q_HO463, Q_HA_HO463, fun h0_ => absurd ((hoff 26 (by kernel_rfl)).symm.trans h0_) (by decide), Q_X3_, fun _ => rfl⟩
            refine steps_cons ?_ ?_
            · rintro b a w' ⟨v458, adz_v458, v462, adz_v462, m3_, m17_, ha, Q_BK456, Q_HB, Q_HO459, Q_HA_HO459, Q_HO463, Q_HA_HO463, Q_BK456_e26, Q_X3_, Q_X17_⟩ hb_ hon hoff
              refine ⟨_, rfl, fun K hK => ?_⟩
              have e20 : a.tmps[20]? = some (m17_) := by rw [ha]; exact putSel_on (e := (17, 20, m17_)) 13 rfl rfl (hon 17 (by kernel_rfl)) rfl
              rw [Q_X17_ (hon 17 (by kernel_rfl))] at e20
              replace ha := Aside0.mk ha
              have BK456 := Aside0.mk (Q_BK456 (hoff 26 (by kernel_rfl)))
              have HB := Aside0.mk Q_HB
              have HO463 := Aside0.mk (Q_HO463 (hon 13 (by kernel_rfl)))
              have HA_HO463 := Aside0.mk (Q_HA_HO463 (hon 13 (by kernel_rfl)))
              obtain ⟨c_, hv_⟩ := HA_HO463.out
              have hF_ := HO463.out
              rw [hv_] at hF_
              obtain ⟨ad_, ea_, hx_⟩ := Kd.at_int (Kd.R_reads' hF_).2.2 (ji5) (of_eq_true pi464) (of_eq_true qi464)
              cases ea_
              refine value_ (w1 := w') (v := .int .i64 (rd y461 (ji5))) (by rfl) rfl ?_ ?_
              · go_simp
                (try simp only [i64_w])
                try rfl
                all_goals (try (first | omega | (rw [Int.tmod_eq_emod_of_nonneg (by omega)]; done) | (rw [Int.tmod_eq_emod_of_nonneg (by omega)]; omega) | (unfold wrap64; omega)))
              refine hK.out _ _ ⟨v458, adz_v458, v462, adz_v462, m3_, m17_, (by rw [ha.out]; exact putSel_upk 14 hb_ rfl rfl rfl), Q_BK456, Q_HB, Q_HO459, Q_HA_HO459, Q_HO463, Q_HA_HO463, fun h0_ => absurd ((hoff 26 (by kernel_rfl)).symm.trans h0_) (by decide), Q_X3_, Q_X17_⟩
            refine steps_cons ?_ ?_
            · rintro b a w' ⟨v458, adz_v458, v462, adz_v462, m3_, m17_, ha, Q_BK456, Q_HB, Q_HO459, Q_HA_HO459, Q_HO463, Q_HA_HO463, Q_BK456_e26, Q_X3_, Q_X17_⟩ hb_ hon hoff
              refine ⟨_, rfl, fun K hK => ?_⟩
              have e22 : a.tmps[22]? = some (.int .u8 a0) := by rw [ha]; exact (putSel_off rfl).trans rfl
              replace ha := Aside0.mk ha
              have BK456 := Aside0.mk (Q_BK456 (hoff 26 (by kernel_rfl)))
              have HB := Aside0.mk Q_HB
              refine value_ (w1 := w') (v := .int .u8 (Int.tmod a0 3)) (by rfl) rfl ?_ ?_
              · go_simp
                (try simp only [i64_w])
                try rfl
                all_goals (try (first | omega | (rw [Int.tmod_eq_emod_of_nonneg (by omega)]; done) | (rw [Int.tmod_eq_emod_of_nonneg (by omega)]; omega) | (unfold wrap64; omega)))
              refine hK.out _ _ ⟨v458, adz_v458, v462, adz_v462, m3_, m17_, (by rw [ha.out]; exact putSel_upk 15 hb_ rfl rfl rfl), Q_BK456, Q_HB, Q_HO459, Q_HA_HO459, Q_HO463, Q_HA_HO463, fun h0_ => absurd ((hoff 26 (by kernel_rfl)).symm.trans h0_) (by decide), Q_X3_, Q_X17_⟩
            refine steps_cons ?_ ?_
            · rintro b a w' ⟨v458, adz_v458, v462, adz_v462, m3_, m17_, ha, Q_BK456, Q_HB, Q_HO459, Q_HA_HO459, Q_HO463, Q_HA_HO463, Q_BK456_e26, Q_X3_, Q_X17_⟩ hb_ hon hoff
              refine ⟨_, rfl, fun K hK => ?_⟩
              have e23 : a.tmps[23]? = some (.int .u8 (Int.tmod a0 3)) := by rw [ha]; exact putSel_on (e := (20, 23, .int .u8 (Int.tmod a0 3))) 15 rfl rfl (hon 20 (by kernel_rfl)) rfl
              replace ha := Aside0.mk ha
              have BK456 := Aside0.mk (Q_BK456 (hoff 26 (by kernel_rfl)))
              have HB := Aside0.mk Q_HB
              refine value_ (w1 := w') (v := .bool ((Int.tmod a0 3) == 1)) (by rfl) rfl ?_ ?_
              · go_simp
                (try simp only [i64_w])
                try rfl
                all_goals (try (first | omega | (rw [Int.tmod_eq_emod_of_nonneg (by omega)]; done) | (rw [Int.tmod_eq_emod_of_nonneg (by omega)]; omega) | (unfold wrap64; omega)))
              refine hK.out _ _ ⟨v458, adz_v458, v462, adz_v462, m3_, m17_, (by rw [ha.out]; exact putSel_upk 16 hb_ rfl rfl rfl), Q_BK456, Q_HB, Q_HO459, Q_HA_HO459, Q_HO463, Q_HA_HO463, fun h0_ => absurd ((hoff 26 (by kernel_rfl)).symm.trans h0_) (by decide), Q_X3_, Q_X17_⟩
            refine steps_cons ?_ ?_
            · rintro b a w' ⟨v458, adz_v458, v462, adz_v462, m3_, m17_, ha, Q_BK456, Q_HB, Q_HO459, Q_HA_HO459, Q_HO463, Q_HA_HO463, Q_BK456_e26, Q_X3_, Q_X17_⟩ hb_ hon hoff
              refine ⟨_, rfl, fun K hK => ?_⟩
              have e25 : a.tmps[25]? = some (.int .u8 a0) := by rw [ha]; exact (putSel_off rfl).trans rfl
              replace ha := Aside0.mk ha
              have BK456 := Aside0.mk (Q_BK456 (hoff 26 (by kernel_rfl)))
              have HB := Aside0.mk Q_HB
              refine value_ (w1 := w') (v := .int .u8 (Int.tmod a0 7)) (by rfl) rfl ?_ ?_
              · go_simp
                (try simp only [i64_w])
                try rfl
                all_goals (try (first | omega | (rw [Int.tmod_eq_emod_of_nonneg (by omega)]; done) | (rw [Int.tmod_eq_emod_of_nonneg (by omega)]; omega) | (unfold wrap64; omega)))
              refine hK.out _ _ ⟨v458, adz_v458, v462, adz_v462, m3_, m17_, (by rw [ha.out]; exact putSel_upk 17 hb_ rfl rfl rfl), Q_BK456, Q_HB, Q_HO459, Q_HA_HO459, Q_HO463, Q_HA_HO463, fun h0_ => absurd ((hoff 26 (by kernel_rfl)).symm.trans h0_) (by decide), Q_X3_, Q_X17_⟩
            refine steps_cons ?_ ?_
            · rintro b a w' ⟨v458, adz_v458, v462, adz_v462, m3_, m17_, ha, Q_BK456, Q_HB, Q_HO459, Q_HA_HO459, Q_HO463, Q_HA_HO463, Q_BK456_e26, Q_X3_, Q_X17_⟩ hb_ hon hoff
              refine ⟨_, rfl, fun K hK => ?_⟩
              have e26 : a.tmps[26]? = some (.int .u8 (Int.tmod a0 7)) := by rw [ha]; exact putSel_on (e := (23, 26, .int .u8 (Int.tmod a0 7))) 17 rfl rfl (hon 23 (by kernel_rfl)) rfl
              replace ha := Aside0.mk ha
              have BK456 := Aside0.mk (Q_BK456 (hoff 26 (by kernel_rfl)))
              have HB := Aside0.mk Q_HB
              refine value_ (w1 := w') (v := .bool ((Int.tmod a0 7) == 3)) (by rfl) rfl ?_ ?_
              · go_simp
                (try simp only [i64_w])
                try rfl
                all_goals (try (first | omega | (rw [Int.tmod_eq_emod_of_nonneg (by omega)]; done) | (rw [Int.tmod_eq_emod_of_nonneg (by omega)]; omega) | (unfold wrap64; omega)))
              refine hK.out _ _ ⟨v458, adz_v458, v462, adz_v462, m3_, m17_, (by rw [ha.out]; exact putSel_upk 18 hb_ rfl rfl rfl), Q_BK456, Q_HB, Q_HO459, Q_HA_HO459, Q_HO463, Q_HA_HO463, fun h0_ => absurd ((hoff 26 (by kernel_rfl)).symm.trans h0_) (by decide), Q_X3_, Q_X17_⟩
            refine steps_cons ?_ ?_
            · rintro b a w' ⟨v458, adz_v458, v462, adz_v462, m3_, m17_, ha, Q_BK456, Q_HB, Q_HO459, Q_HA_HO459, Q_HO463, Q_HA_HO463, Q_BK456_e26, Q_X3_, Q_X17_⟩ hb_ hon hoff
              refine ⟨_, rfl, fun K hK => ?_⟩
              have e7 : a.tmps[7]? = some (.int .i64 (rd y457 (ji2))) := by rw [ha]; exact putSel_on (e := (4, 7, .int .i64 (rd y457 (ji2)))) 3 rfl rfl (hon 4 (by kernel_rfl)) rfl
              have e10 : a.tmps[10]? = some (.int .u8 ((Int.tdiv a0 4) % 4)) := by rw [ha]; exact putSel_on (e := (7, 10, .int .u8 ((Int.tdiv a0 4) % 4))) 5 rfl rfl (hon 7 (by kernel_rfl)) rfl
              have e15 : a.tmps[15]? = some (.int .i64 (1 + (((Int.tdiv a0 16) % 256) % 3))) := by rw [ha]; exact putSel_on (e := (12, 15, .int .i64 (1 + (((Int.tdiv a0 16) % 256) % 3)))) 9 rfl rfl (hon 12 (by kernel_rfl)) rfl
              have e21 : a.tmps[21]? = some (.int .i64 (rd y461 (ji5))) := by rw [ha]; exact putSel_on (e := (18, 21, .int .i64 (rd y461 (ji5)))) 14 rfl rfl (hon 18 (by kernel_rfl)) rfl
              have e24 : a.tmps[24]? = some (.bool ((Int.tmod a0 3) == 1)) := by rw [ha]; exact putSel_on (e := (21, 24, .bool ((Int.tmod a0 3) == 1))) 16 rfl rfl (hon 21 (by kernel_rfl)) rfl
              have e27 : a.tmps[27]? = some (.bool ((Int.tmod a0 7) == 3)) := by rw [ha]; exact putSel_on (e := (24, 27, .bool ((Int.tmod a0 7) == 3))) 18 rfl rfl (hon 24 (by kernel_rfl)) rfl
              replace ha := Aside0.mk ha
              have BK456 := Aside0.mk (Q_BK456 (hoff 26 (by kernel_rfl)))
              have HB := Aside0.mk Q_HB
              have HO459 := Aside0.mk (Q_HO459 (hon 0 (by kernel_rfl)))
              have HA_HO459 := Aside0.mk (Q_HA_HO459 (hon 0 (by kernel_rfl)))
              have HO463 := Aside0.mk (Q_HO463 (hon 13 (by kernel_rfl)))
              have HA_HO463 := Aside0.mk (Q_HA_HO463 (hon 13 (by kernel_rfl)))
              refine value_ (w1 := w') (v := .agg #[.int .i64 (rd y457 (ji2)), .int .u8 ((Int.tdiv a0 4) % 4), .int .i64 (1 + (((Int.tdiv a0 16) % 256) % 3)), .int .i64 (rd y461 (ji5)), .bool ((Int.tmod a0 3) == 1), .bool ((Int.tmod a0 7) == 3)]) (by rfl) rfl ?_ ?_
              · go_simp
                (try simp only [i64_w])
                try rfl
                all_goals (try (first | omega | (rw [Int.tmod_eq_emod_of_nonneg (by omega)]; done) | (rw [Int.tmod_eq_emod_of_nonneg (by omega)]; omega) | (unfold wrap64; omega)))
              refine hK.out _ _ ⟨v458, adz_v458, v462, adz_v462, m3_, m17_, (by rw [ha.out]; exact putSel_upk 19 hb_ rfl rfl rfl), Q_BK456, Q_HB, Q_HO459, Q_HA_HO459, Q_HO463, Q_HA_HO463, fun h0_ => absurd ((hoff 26 (by kernel_rfl)).symm.trans h0_) (by decide), Q_X3_, Q_X17_⟩
            refine steps_cons ?_ ?_
            · rintro b a w' ⟨v458, adz_v458, v462, adz_v462, m3_, m17_, ha, Q_BK456, Q_HB, Q_HO459, Q_HA_HO459, Q_HO463, Q_HA_HO463, Q_BK456_e26, Q_X3_, Q_X17_⟩ hb_ hon hoff
              refine ⟨_, rfl, fun K hK => ?_⟩
              have e2 : a.tmps[2]? = some (.pointer (some ⟨gb456, 0, none⟩)) := by rw [ha]; exact (putSel_off rfl).trans rfl
              have e28 : a.tmps[28]? = some (.agg #[.int .i64 (rd y457 (ji2)), .int .u8 ((Int.tdiv a0 4) % 4), .int .i64 (1 + (((Int.tdiv a0 16) % 256) % 3)), .int .i64 (rd y461 (ji5)), .bool ((Int.tmod a0 3) == 1), .bool ((Int.tmod a0 7) == 3)]) := by rw [ha]; exact putSel_on (e := (25, 28, .agg #[.int .i64 (rd y457 (ji2)), .int .u8 ((Int.tdiv a0 4) % 4), .int .i64 (1 + (((Int.tdiv a0 16) % 256) % 3)), .int .i64 (rd y461 (ji5)), .bool ((Int.tmod a0 3) == 1), .bool ((Int.tmod a0 7) == 3)])) 19 rfl rfl (hon 25 (by kernel_rfl)) rfl
              replace ha := Aside0.mk ha
              have BK456 := Aside0.mk (Q_BK456 hb_)
              have HB := Aside0.mk Q_HB
              have HO459 := Aside0.mk (Q_HO459 (hon 0 (by kernel_rfl)))
              have HA_HO459 := Aside0.mk (Q_HA_HO459 (hon 0 (by kernel_rfl)))
              have HO463 := Aside0.mk (Q_HO463 (hon 13 (by kernel_rfl)))
              have HA_HO463 := Aside0.mk (Q_HA_HO463 (hon 13 (by kernel_rfl)))
              obtain ⟨co17, eo17⟩ := HA_HO459.out
              clear HA_HO459
              subst eo17
              obtain ⟨co18, eo18⟩ := HA_HO463.out
              clear HA_HO463
              subst eo18
              have hs19 : w'.cell? ⟨gb456, 0, none⟩ = some (.int .i64 0) := (blk_cell BK456.out 0).trans rfl
              have hfs19 := blk_frozen BK456.out 0
              have hs20 : w'.cell? ⟨gb456, 1, none⟩ = some (.int .u8 0) := (blk_cell BK456.out 1).trans rfl
              have hfs20 := blk_frozen BK456.out 1
              have hs21 : w'.cell? ⟨gb456, 2, none⟩ = some (.int .i64 0) := (blk_cell BK456.out 2).trans rfl
              have hfs21 := blk_frozen BK456.out 2
              have hs22 : w'.cell? ⟨gb456, 3, none⟩ = some (.int .i64 0) := (blk_cell BK456.out 3).trans rfl
              have hfs22 := blk_frozen BK456.out 3
              have hs23 : w'.cell? ⟨gb456, 4, none⟩ = some (.bool false) := (blk_cell BK456.out 4).trans rfl
              have hfs23 := blk_frozen BK456.out 4
              have hs24 : w'.cell? ⟨gb456, 5, none⟩ = some (.bool false) := (blk_cell BK456.out 5).trans rfl
              have hfs24 := blk_frozen BK456.out 5
              refine skip_ (w1 := ?_) (by rfl) rfl ?_ ?_
              rotate_left
              · go_simp
                rfl
              refine hK.out _ _ ⟨.slice (some adz_v458) y457.length co17, adz_v458, .slice (some adz_v462) y461.length co18, adz_v462, m3_, m17_, (by rw [ha.out]; exact putSel_none (v := undef) rfl), fun h0_ => absurd ((up_self b 26).symm.trans h0_) (by decide), (by repeat (first | (with_reducible first | exact HB.out | apply below_alloc | apply pw_below_drewN | apply below_drew1 | refine below_set ?_ GE456.out) | exact HB.out)), fun _ => (by (with_reducible repeat (first | apply Kd.R_alloc | apply Kd.R_drewN | apply Kd.R_drew)); exact Kd.R_mono (Kd.R_step (Kd.R_types HO459.out BK456.out (by decide)) (fun _ hk _ => by (with_reducible repeat (first | refine (hst (g := gb456) hk.2 _ _).trans ?_ | refine (hdn _ _ _).trans ?_ | refine (hd1 _ _).trans ?_)); rfl)) (fun _ hk => trivial)), fun _ => ⟨_, rfl⟩, fun _ => (by (with_reducible repeat (first | apply Kd.R_alloc | apply Kd.R_drewN | apply Kd.R_drew)); exact Kd.R_mono (Kd.R_step (Kd.R_types HO463.out BK456.out (by decide)) (fun _ hk _ => by (with_reducible repeat (first | refine (hst (g := gb456) hk.2 _ _).trans ?_ | refine (hdn _ _ _).trans ?_ | refine (hd1 _ _).trans ?_)); rfl)) (fun _ hk => trivial)), fun _ => ⟨_, rfl⟩, fun _ => (by (with_reducible repeat (first | refine blk_drewN ?_ _ | refine blk_drew ?_ | refine blk_alloc ?_ _)); refine bp6 (.int .i64 0) (.int .u8 0) (.int .i64 0) (.int .i64 0) (.bool false) (.bool false) ?_; (with_reducible repeat (first | refine blk_drewN ?_ _ | refine blk_drew ?_ | refine blk_alloc ?_ _)); exact BK456.out), Q_X3_, Q_X17_⟩
            exact steps_nil
          rintro b a w22 hall ⟨v458, adz_v458, v462, adz_v462, m3_, m17_, ha, Q_BK456, Q_HB, Q_HO459, Q_HA_HO459, Q_HO463, Q_HA_HO463, Q_BK456_e26, Q_X3_, Q_X17_⟩
          clear BK456 HB
          have hb0_ := hall 0 (by kernel_rfl)
          have hb2_ := hall 2 (by kernel_rfl)
          have hb3_ := hall 3 (by kernel_rfl)
          have hb4_ := hall 4 (by kernel_rfl)
          have hb6_ := hall 6 (by kernel_rfl)
          have hb7_ := hall 7 (by kernel_rfl)
          have hb9_ := hall 9 (by kernel_rfl)
          have hb10_ := hall 10 (by kernel_rfl)
          have hb11_ := hall 11 (by kernel_rfl)
          have hb12_ := hall 12 (by kernel_rfl)
          have hb13_ := hall 13 (by kernel_rfl)
          have hb15_ := hall 15 (by kernel_rfl)
          have hb16_ := hall 16 (by kernel_rfl)
          have hb17_ := hall 17 (by kernel_rfl)
          have hb18_ := hall 18 (by kernel_rfl)
          have hb20_ := hall 20 (by kernel_rfl)
          have hb21_ := hall 21 (by kernel_rfl)
          have hb23_ := hall 23 (by kernel_rfl)
          have hb24_ := hall 24 (by kernel_rfl)
          have hb25_ := hall 25 (by kernel_rfl)
          have hb26_ := hall 26 (by kernel_rfl)
          subst ha
          obtain rfl := Q_X3_ hb3_
          obtain rfl := Q_X17_ hb17_
          simp only [putSel, hb0_, hb2_, hb3_, hb4_, hb6_, hb7_, hb9_, hb10_, hb11_, hb12_, hb13_, hb15_, hb16_, hb17_, hb18_, hb20_, hb21_, hb23_, hb24_, hb25_, hb26_, if_true, Act.put, List.setIfInBounds_toArray, List.set_cons_zero, List.set_cons_succ]
          clear Q_BK456
          have HB := Aside0.mk Q_HB
          clear Q_HB
          have HO459 := Aside0.mk (Q_HO459 hb0_)
          clear Q_HO459
          have HA_HO459 := Aside0.mk (Q_HA_HO459 hb0_)
          clear Q_HA_HO459
          have HO463 := Aside0.mk (Q_HO463 hb13_)
          clear Q_HO463
          have HA_HO463 := Aside0.mk (Q_HA_HO463 hb13_)
          clear Q_HA_HO463
          have BK456 := Aside0.mk (Q_BK456_e26 hb26_)
          clear Q_BK456_e26
          clear hall hb0_ hb2_ hb3_ hb4_ hb6_ hb7_ hb9_ hb10_ hb11_ hb12_ hb13_ hb15_ hb16_ hb17_ hb18_ hb20_ hb21_ hb23_ hb24_ hb25_ hb26_
          obtain ⟨co23, eo23⟩ := HA_HO459.out
          clear HA_HO459
          subst eo23
          obtain ⟨co24, eo24⟩ := HA_HO463.out
          clear HA_HO463
          subst eo24
          try go_wp2
          refine bodyPost_ret (results_cell_row rfl _ _ gb456 25 #[.int .i64 (rd y457 (ji2)), .int .u8 ((Int.tdiv a0 4) % 4), .int .i64 (1 + (((Int.tdiv a0 16) % 256) % 3)), .int .i64 (rd y461 (ji5)), .bool ((Int.tmod a0 3) == 1), .bool ((Int.tmod a0 7) == 3)] (0, 0) _ rfl (by (with_reducible repeat (first | refine blk_drewN ?_ _ | refine blk_drew ?_ | refine blk_alloc ?_ _)); exact BK456.out) Try.underlying25 rfl (by kernel_rfl)) rfl ?_
          exact ⟨by first | rfl | (simp [errW_none, errW_some] <;> rfl) | (simp only [← hji2, ← hji5]; first | rfl | (simp [errW_none, errW_some] <;> rfl)) | (simp [*, errW_none, errW_some] <;> rfl), by repeat (first | (with_reducible first | exact HB.out | apply below_alloc | apply pw_below_drewN | apply below_drew1 | refine below_set ?_ GE456.out) | exact HB.out)⟩
        · rw [if_neg c7] at H
          exact absurd H (by simp)
      · rw [if_neg c6] at H
        exact absurd H (by simp)
    · rw [if_neg c4] at H
      exact absurd H (by simp)
  · rw [if_neg c3] at H
    exact absurd H (by simp)

-- NOT PRINTED: function 3 (paybooklaw13_AccountCatches)

end Go.Proofs.Ytnpcodfeggcdbaa.PAcc
