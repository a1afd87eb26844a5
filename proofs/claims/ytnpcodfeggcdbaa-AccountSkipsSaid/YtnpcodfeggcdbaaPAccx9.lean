-- Laid by wip/prt.py over the kit's print (Acc).
import Derived.Test.YtnpcodfeggcdbaaPAccx0
import Derived.Test.YtnpcodfeggcdbaaPAccx8
namespace Go.Proofs.Ytnpcodfeggcdbaa.PAcc
open Go.RowKit Go.Proofs.YtnpcodfeggcdbaaW.PrintWords Go.Proofs.YtnpcodfeggcdbaaW.PrintLast Go.Proofs.YtnpcodfeggcdbaaW.PrintMore
attribute [local go_sem] max2_int min2_int max_two min_two max_three min_three max_four min_four   -- for this text's walks alone
set_option linter.unusedVariables false
set_option linter.unusedSimpArgs false

/-! ### paybookref01_Nth: function 13 -/
mutual
def paybookref01_Nth.j0 : Nat → Int → Int → Int → Int → Bool → Option (Int × Bool)
  | 0, _, _, _, _, _ => none
  | k + 1, x0, x1, x2, x3, x21 => if x21 = true then (if x1 = 1 then (some (wrap64 (x0 + (wrap64 ((wrap64 (7 * x3)) * x2))), decide ((wrap64 (x0 + (wrap64 ((wrap64 (7 * x3)) * x2)))) ≤ 3652058))) else (some (wrap64 (x0 + (wrap64 (x3 * x2))), decide ((wrap64 (x0 + (wrap64 (x3 * x2)))) ≤ 3652058)))) else ((paybookref01_Of.f k x0).bind fun bt587 => (if x1 = 3 then (paybookref01_Nth.j1 k (wrap64 (12 * (wrap64 (x3 * x2)))) bt587.1 bt587.2.1 bt587.2.2) else (paybookref01_Nth.j1 k (wrap64 (x3 * x2)) bt587.1 bt587.2.1 bt587.2.2)))
def paybookref01_Nth.j1 : Nat → Int → Int → Int → Int → Option (Int × Bool)
  | 0, _, _, _, _ => none
  | k + 1, x12, x591000, x591001, x591002 => if (wrap64 (x591001 + (Int.tmod x12 12))) > 12 then (paybookref01_Nth.j2 k (wrap64 ((wrap64 (x591000 + (wrap64 (Int.tdiv x12 12)))) + 1)) (wrap64 ((wrap64 (x591001 + (Int.tmod x12 12))) - 12)) x591000 x591001 x591002) else (paybookref01_Nth.j2 k (wrap64 (x591000 + (wrap64 (Int.tdiv x12 12)))) (wrap64 (x591001 + (Int.tmod x12 12))) x591000 x591001 x591002)
def paybookref01_Nth.j2 : Nat → Int → Int → Int → Int → Int → Option (Int × Bool)
  | 0, _, _, _, _, _ => none
  | k + 1, x13, x14, x591000, x591001, x591002 => if x13 > 9999 then (some (0, false)) else ((paybookref01_Month.f k x13 x14).bind fun t591 => (if x591002 > t591 then ((paybookref01_Month.f k x13 x14).bind fun t592 => ((paybookref01_Number.f k x13 x14 t592).bind fun t593 => (some (t593, true)))) else ((paybookref01_Number.f k x13 x14 x591002).bind fun t594 => (some (t594, true)))))
end
def paybookref01_Nth.f (k : Nat) (a0 : Int) (a1 : Int) (a2 : Int) (a3 : Int) : Option (Int × Bool) := if a1 = 0 then (paybookref01_Nth.j0 k a0 a1 a2 a3 true) else (paybookref01_Nth.j0 k a0 a1 a2 a3 (a1 == 1))
theorem paybookref01_Nth.mono_l : ∀ k, (∀ y0 y1 y2 y3 y4, LeO (paybookref01_Nth.j0 k y0 y1 y2 y3 y4) (paybookref01_Nth.j0 (k + 1) y0 y1 y2 y3 y4)) ∧ (∀ y0 y1 y2 y3, LeO (paybookref01_Nth.j1 k y0 y1 y2 y3) (paybookref01_Nth.j1 (k + 1) y0 y1 y2 y3)) ∧ (∀ y0 y1 y2 y3 y4, LeO (paybookref01_Nth.j2 k y0 y1 y2 y3 y4) (paybookref01_Nth.j2 (k + 1) y0 y1 y2 y3 y4))
  | 0 => ⟨fun _ _ _ _ _ r h => by simp [paybookref01_Nth.j0] at h, fun _ _ _ _ r h => by simp [paybookref01_Nth.j1] at h, fun _ _ _ _ _ r h => by simp [paybookref01_Nth.j2] at h⟩
  | k + 1 => by
    obtain ⟨ih0, ih1, ih2⟩ := paybookref01_Nth.mono_l k
    refine ⟨?_, ?_, ?_⟩
    · intro y0 y1 y2 y3 y4
      unfold paybookref01_Nth.j0
      repeat' first
      | (with_reducible exact ih0 _ _ _ _ _)
      | (with_reducible exact ih1 _ _ _ _)
      | (with_reducible exact ih2 _ _ _ _ _)
      | (with_reducible exact paybookref01_Month.mono _ _ _)
      | (with_reducible exact paybookref01_Number.mono _ _ _ _)
      | (with_reducible exact paybookref01_Of.mono _ _)
      | (with_reducible exact LeO.refl _)
      | (with_reducible exact LeO.none _)
      | (with_reducible refine LeO.ite ?_ ?_)
      | (with_reducible refine LeO.bind ?_ (fun _ => ?_))
      | exact ih0 _ _ _ _ _
      | exact ih1 _ _ _ _
      | exact ih2 _ _ _ _ _
      | exact paybookref01_Month.mono _ _ _
      | exact paybookref01_Number.mono _ _ _ _
      | exact paybookref01_Of.mono _ _
      | exact LeO.none _
      | refine LeO.ite ?_ ?_
      | refine LeO.bind ?_ (fun _ => ?_)
    · intro y0 y1 y2 y3
      unfold paybookref01_Nth.j1
      repeat' first
      | (with_reducible exact ih0 _ _ _ _ _)
      | (with_reducible exact ih1 _ _ _ _)
      | (with_reducible exact ih2 _ _ _ _ _)
      | (with_reducible exact paybookref01_Month.mono _ _ _)
      | (with_reducible exact paybookref01_Number.mono _ _ _ _)
      | (with_reducible exact paybookref01_Of.mono _ _)
      | (with_reducible exact LeO.refl _)
      | (with_reducible exact LeO.none _)
      | (with_reducible refine LeO.ite ?_ ?_)
      | (with_reducible refine LeO.bind ?_ (fun _ => ?_))
      | exact ih0 _ _ _ _ _
      | exact ih1 _ _ _ _
      | exact ih2 _ _ _ _ _
      | exact paybookref01_Month.mono _ _ _
      | exact paybookref01_Number.mono _ _ _ _
      | exact paybookref01_Of.mono _ _
      | exact LeO.none _
      | refine LeO.ite ?_ ?_
      | refine LeO.bind ?_ (fun _ => ?_)
    · intro y0 y1 y2 y3 y4
      unfold paybookref01_Nth.j2
      repeat' first
      | (with_reducible exact ih0 _ _ _ _ _)
      | (with_reducible exact ih1 _ _ _ _)
      | (with_reducible exact ih2 _ _ _ _ _)
      | (with_reducible exact paybookref01_Month.mono _ _ _)
      | (with_reducible exact paybookref01_Number.mono _ _ _ _)
      | (with_reducible exact paybookref01_Of.mono _ _)
      | (with_reducible exact LeO.refl _)
      | (with_reducible exact LeO.none _)
      | (with_reducible refine LeO.ite ?_ ?_)
      | (with_reducible refine LeO.bind ?_ (fun _ => ?_))
      | exact ih0 _ _ _ _ _
      | exact ih1 _ _ _ _
      | exact ih2 _ _ _ _ _
      | exact paybookref01_Month.mono _ _ _
      | exact paybookref01_Number.mono _ _ _ _
      | exact paybookref01_Of.mono _ _
      | exact LeO.none _
      | refine LeO.ite ?_ ?_
      | refine LeO.bind ?_ (fun _ => ?_)
theorem paybookref01_Nth.mono : ∀ a0 a1 a2 a3 k, LeO (paybookref01_Nth.f k a0 a1 a2 a3) (paybookref01_Nth.f (k + 1) a0 a1 a2 a3) := by
  intro a0 a1 a2 a3 k
  obtain ⟨ih0, ih1, ih2⟩ := paybookref01_Nth.mono_l k
  unfold paybookref01_Nth.f
  repeat' first
      | (with_reducible exact ih0 _ _ _ _ _)
      | (with_reducible exact ih1 _ _ _ _)
      | (with_reducible exact ih2 _ _ _ _ _)
      | (with_reducible exact paybookref01_Month.mono _ _ _)
      | (with_reducible exact paybookref01_Number.mono _ _ _ _)
      | (with_reducible exact paybookref01_Of.mono _ _)
      | (with_reducible exact LeO.refl _)
      | (with_reducible exact LeO.none _)
      | (with_reducible refine LeO.ite ?_ ?_)
      | (with_reducible refine LeO.bind ?_ (fun _ => ?_))
      | exact ih0 _ _ _ _ _
      | exact ih1 _ _ _ _
      | exact ih2 _ _ _ _ _
      | exact paybookref01_Month.mono _ _ _
      | exact paybookref01_Number.mono _ _ _ _
      | exact paybookref01_Of.mono _ _
      | exact LeO.none _
      | refine LeO.ite ?_ ?_
      | refine LeO.bind ?_ (fun _ => ?_)
set_option maxHeartbeats 3000000 in
set_option maxRecDepth 100000 in
theorem paybookref01_Nth.calls (k : Nat) (a0 : Int) (a1 : Int) (a2 : Int) (a3 : Int) (r1 : Int) (r2 : Bool) (w : World) (h : paybookref01_Nth.f k a0 a1 a2 a3 = some (r1, r2)) :
    Calls Try.prog 13 #[.int .i64 a0, .int .u8 a1, .int .i64 a2, .int .i64 a3] w fun e w' => e = .returned (.tuple #[.int .i64 r1, .bool r2]) ∧ Below w.heap.size w w' := by
  have hu54 := Try.underlying54
  have HB := Aside0.mk (Below.refl w.heap.size w)
  have H : (if a1 = 0 then (paybookref01_Nth.j0 k a0 a1 a2 a3 true) else (paybookref01_Nth.j0 k a0 a1 a2 a3 (a1 == 1))) = some (r1, r2) := h
  clear h
  have HC5 := Aside0.mk H
  clear H
  go_enter Try.func13, Try.ntmps13
  go_upto_region 1 with (fail)
  go_cut [21] (fun v21 wc => ∃ (kq : Nat) (x21_4 : Bool), v21 = .bool x21_4 ∧ Aside0 (paybookref01_Nth.j0 kq a0 a1 a2 a3 x21_4 = some (r1, r2)) ∧ Aside0 (kq ≤ k) ∧ Aside0 (Below w.heap.size w wc))
  case first =>
    have H := HC5.out
    clear HC5
    by_cases c6 : a1 = 0
    · rw [if_pos c6] at H
      have c6b0 : (a1 == 0) = true := beq_iff_eq.mpr c6
      have c6b1 : (a1 != 0) = false := bne_eq_false_iff_eq.mpr c6
      clear c6
      (first | rw [c6b0] | (simp only [i64_w, i32_w]; rw [c6b0]) | skip)
      have H' := Aside0.mk H
      clear H
      go_wp2
      go_meet
      case rel => exact ⟨_, (true), (by first | rfl | (simp; done) | (simp [*]; done)), H', ⟨by first | omega | exact Nat.le_refl _⟩, ⟨by repeat (first | (with_reducible first | exact HB.out | apply below_alloc | apply pw_below_drewN | apply below_drew1) | exact HB.out)⟩⟩
    · rw [if_neg c6] at H
      have c6b0 : (a1 == 0) = false := beq_eq_false_iff_ne.mpr c6
      have c6b1 : (a1 != 0) = true := bne_iff_ne.mpr c6
      (first | rw [c6b0] | (simp only [i64_w, i32_w]; rw [c6b0]) | skip)
      have H' := Aside0.mk H
      clear H
      go_wp2
      go_meet
      case rel => exact ⟨_, ((a1 == 1)), (by first | rfl | (simp; done) | (simp [*]; done)), H', ⟨by first | omega | exact Nat.le_refl _⟩, ⟨by repeat (first | (with_reducible first | exact HB.out | apply below_alloc | apply pw_below_drewN | apply below_drew1) | exact HB.out)⟩⟩
  case rest =>
    clear HC5
    try clear c1
    try clear p2
    try clear c6
    try clear c6b0
    try clear c6b1
    (try clear HB); obtain ⟨kq, x21_4, rfl, HA, HJ4, HB⟩ := hcut
    cases kq with
    | zero => exact absurd HA.out (by simp [paybookref01_Nth.j0])
    | succ kj4 =>
      have H := HA.out
      clear HA
      simp only [paybookref01_Nth.j0] at H
      by_cases c7 : x21_4 = true
      · subst c7
        have H1 : (if a1 = 1 then (some (wrap64 (a0 + (wrap64 ((wrap64 (7 * a3)) * a2))), decide ((wrap64 (a0 + (wrap64 ((wrap64 (7 * a3)) * a2)))) ≤ 3652058))) else (some (wrap64 (a0 + (wrap64 (a3 * a2))), decide ((wrap64 (a0 + (wrap64 (a3 * a2)))) ≤ 3652058)))) = some (r1, r2) := by rw [if_pos rfl] at H; exact H
        clear H
        have H := H1
        clear H1
        by_cases c8 : a1 = 1
        · rw [if_pos c8] at H
          have c8b0 : (a1 == 1) = true := beq_iff_eq.mpr c8
          have c8b1 : (a1 != 1) = false := bne_eq_false_iff_eq.mpr c8
          clear c8
          simp only [Option.some.injEq, Prod.mk.injEq] at H
          obtain ⟨rfl, rfl⟩ := H
          go_wp2
          go_ret2
          exact ⟨by first | rfl | (simp [errW_none, errW_some] <;> rfl) | (simp [*, errW_none, errW_some] <;> rfl), by repeat (first | (with_reducible first | exact HB.out | apply below_alloc | apply pw_below_drewN | apply below_drew1) | exact HB.out)⟩
        · rw [if_neg c8] at H
          have c8b0 : (a1 == 1) = false := beq_eq_false_iff_ne.mpr c8
          have c8b1 : (a1 != 1) = true := bne_iff_ne.mpr c8
          simp only [Option.some.injEq, Prod.mk.injEq] at H
          obtain ⟨rfl, rfl⟩ := H
          go_wp2
          go_ret2
          exact ⟨by first | rfl | (simp [errW_none, errW_some] <;> rfl) | (simp [*, errW_none, errW_some] <;> rfl), by repeat (first | (with_reducible first | exact HB.out | apply below_alloc | apply pw_below_drewN | apply below_drew1) | exact HB.out)⟩
      · replace c7 := Bool.eq_false_iff.mpr c7
        subst c7
        have H1 : ((paybookref01_Of.f kj4 a0).bind fun bt587 => (if a1 = 3 then (paybookref01_Nth.j1 kj4 (wrap64 (12 * (wrap64 (a3 * a2)))) bt587.1 bt587.2.1 bt587.2.2) else (paybookref01_Nth.j1 kj4 (wrap64 (a3 * a2)) bt587.1 bt587.2.1 bt587.2.2))) = some (r1, r2) := by rw [if_neg (show ¬ (false = true) by decide)] at H; exact H
        clear H
        have H := H1
        clear H1
        replace H := Option.bind_eq_some_iff.mp H
        obtain ⟨⟨t587, t588, t589⟩, A90, H⟩ := H
        replace H : (if a1 = 3 then (paybookref01_Nth.j1 kj4 (wrap64 (12 * (wrap64 (a3 * a2)))) t587 t588 t589) else (paybookref01_Nth.j1 kj4 (wrap64 (a3 * a2)) t587 t588 t589)) = some (r1, r2) := H
        have A9 := Aside0.mk A90
        clear A90
        have HC10 := Aside0.mk H
        clear H
        go_upto_if 44 with (first | ((with_reducible refine gate_callee (f := 25) rfl ?_); refine goesL_ (some 39) rfl rfl Try.func25 (by kernel_rfl) rfl #[.int .i64 a0] rfl (by (try simp only [List.map_toArray, List.map_cons, List.map_nil]); first | done | rfl | (simp only [List.length_drop, List.length_take]; rfl)) ?_; (with_reducible refine (paybookref01_Of.calls kj4 a0 t587 t588 t589 _ A9.out).mono ?_); rintro e w11 ⟨rfl, hb⟩; refine ⟨_, rfl, ?_⟩; have n0_ := Aside0.mk (below_step (by repeat (first | (with_reducible first | exact HB.out | apply below_alloc | apply pw_below_drewN | apply below_drew1) | exact HB.out)) hb); clear HB; have HB := n0_; clear n0_; (try clear hb); (try clear hb2); (try clear hk); (try clear hi)) | ((with_reducible refine gate_dst (N := 11) rfl ?_); refine box_event ?hg (N := 11) ?hd (cs := #[.int .i64 0, .int .i64 0, .int .i64 0]) (t := 54) ?hr ?_; (case hd => rfl); (case hg => rfl); (case hr => first | (go_simp; done) | (go_simp; rfl)); intro gb590 hg w12 hbox hb; have n0_ := Aside0.mk (below_step (by repeat (first | (with_reducible first | exact HB.out | apply below_alloc | apply pw_below_drewN | apply below_drew1) | exact HB.out)) hb); have n1_ := Aside0.mk (hbox); have n2_ := Aside0.mk ((by rw [hg]; exact (below_size (by repeat (first | (with_reducible first | exact HB.out | apply below_alloc | apply pw_below_drewN | apply below_drew1) | exact HB.out))) : w.heap.size ≤ gb590)); have n3_ := Aside0.mk ((by rw [hg]; exact (below_size (by repeat (first | (with_reducible first | exact HB.out | apply below_alloc | apply pw_below_drewN | apply below_drew1) | exact HB.out))) : w.heap.size ≤ gb590)); clear HB; have HB := n0_; have BK590 := n1_; have GW590 := n2_; have GE590 := n3_; clear n0_ n1_ n2_ n3_; clear hb hbox hg; obtain ⟨hcz13_0, hcz13_1, hcz13_2⟩ := bc3 BK590.out; obtain ⟨hfz13_0, hfz13_1, hfz13_2⟩ := bf3 BK590.out))
        (try simp only [Act.put, List.setIfInBounds_toArray, List.set_cons_zero, List.set_cons_succ])
        go_cut [12] (fun v12 wc => ∃ (kq : Nat) (x12_9 : Int), v12 = .int .i64 x12_9 ∧ Aside0 (paybookref01_Nth.j1 kq x12_9 t587 t588 t589 = some (r1, r2)) ∧ Aside0 (kq ≤ kj4) ∧ Aside0 (wc.heap[gb590]? = some (.cells #[.int .i64 t587, .int .i64 t588, .int .i64 t589] 54 (0, 0))) ∧ Aside0 (Below w.heap.size w wc))
        case first =>
          have H := HC10.out
          clear HC10
          by_cases c14 : a1 = 3
          · rw [if_pos c14] at H
            have c14b0 : (a1 == 3) = true := beq_iff_eq.mpr c14
            have c14b1 : (a1 != 3) = false := bne_eq_false_iff_eq.mpr c14
            clear c14
            (first | rw [c14b0] | (simp only [i64_w, i32_w]; rw [c14b0]) | skip)
            have H' := Aside0.mk H
            clear H
            go_wp2
            go_meet
            case rel => exact ⟨_, (wrap64 (12 * (wrap64 (a3 * a2)))), (by first | rfl | (simp; done) | (simp [*]; done)), H', ⟨by have := HJ4.out; first | omega | exact Nat.le_refl _⟩, ⟨by (with_reducible repeat (first | refine blk_drewN ?_ _ | refine blk_drew ?_ | refine blk_alloc ?_ _)); refine bp3 (.int .i64 0) (.int .i64 0) (.int .i64 0) ?_; (with_reducible repeat (first | refine blk_drewN ?_ _ | refine blk_drew ?_ | refine blk_alloc ?_ _)); exact BK590.out⟩, ⟨by repeat (first | (with_reducible first | exact HB.out | apply below_alloc | apply pw_below_drewN | apply below_drew1 | refine below_set ?_ GE590.out) | exact HB.out)⟩⟩
          · rw [if_neg c14] at H
            have c14b0 : (a1 == 3) = false := beq_eq_false_iff_ne.mpr c14
            have c14b1 : (a1 != 3) = true := bne_iff_ne.mpr c14
            (first | rw [c14b0] | (simp only [i64_w, i32_w]; rw [c14b0]) | skip)
            have H' := Aside0.mk H
            clear H
            go_wp2
            go_meet
            case rel => exact ⟨_, (wrap64 (a3 * a2)), (by first | rfl | (simp; done) | (simp [*]; done)), H', ⟨by have := HJ4.out; first | omega | exact Nat.le_refl _⟩, ⟨by (with_reducible repeat (first | refine blk_drewN ?_ _ | refine blk_drew ?_ | refine blk_alloc ?_ _)); refine bp3 (.int .i64 0) (.int .i64 0) (.int .i64 0) ?_; (with_reducible repeat (first | refine blk_drewN ?_ _ | refine blk_drew ?_ | refine blk_alloc ?_ _)); exact BK590.out⟩, ⟨by repeat (first | (with_reducible first | exact HB.out | apply below_alloc | apply pw_below_drewN | apply below_drew1 | refine below_set ?_ GE590.out) | exact HB.out)⟩⟩
        case rest =>
          clear HC10
          try clear c1
          try clear c2
          try clear p2
          try clear c6
          try clear c6b0
          try clear c6b1
          try clear p6
          try clear c7
          try clear c8
          try clear c8b0
          try clear c8b1
          try clear c13
          try clear c14
          try clear c14b0
          try clear c14b1
          try clear hcz13_0
          try clear hcz13_1
          try clear hcz13_2
          try clear hfz13_0
          try clear hfz13_1
          try clear hfz13_2
          try clear p2
          (try clear BK590); (try clear HB); obtain ⟨kq, x12_9, rfl, HA, HJ9, BK590, HB⟩ := hcut
          cases kq with
          | zero => exact absurd HA.out (by simp [paybookref01_Nth.j1])
          | succ kj9 =>
            have H := HA.out
            clear HA
            simp only [paybookref01_Nth.j1] at H
            have HC15 := Aside0.mk H
            clear H
            obtain ⟨hcz16_0, hcz16_1, hcz16_2⟩ := bc3 BK590.out
            obtain ⟨hfz16_0, hfz16_1, hfz16_2⟩ := bf3 BK590.out
            go_upto_if 60 with (fail)
            go_cut [13, 14] (fun v13 v14 wc => ∃ (kq : Nat) (x13_14 : Int) (x14_14 : Int), v13 = .int .i64 x13_14 ∧ v14 = .int .i64 x14_14 ∧ Aside0 (paybookref01_Nth.j2 kq x13_14 x14_14 t587 t588 t589 = some (r1, r2)) ∧ Aside0 (kq ≤ kj9) ∧ Aside0 (wc.heap[gb590]? = some (.cells #[.int .i64 t587, .int .i64 t588, .int .i64 t589] 54 (0, 0))) ∧ Aside0 (Below w.heap.size w wc))
            case first =>
              have H := HC15.out
              clear HC15
              by_cases c17 : (wrap64 (t588 + (Int.tmod x12_9 12))) > 12
              · rw [if_pos c17] at H
                have c17b0 : decide (12 < (wrap64 (t588 + (Int.tmod x12_9 12)))) = true := decide_eq_true c17
                clear c17
                (first | rw [c17b0] | (simp only [i64_w, i32_w]; rw [c17b0]) | skip)
                have H' := Aside0.mk H
                clear H
                go_wp2
                go_meet
                case rel => exact ⟨_, (wrap64 ((wrap64 (t587 + (wrap64 (Int.tdiv x12_9 12)))) + 1)), (wrap64 ((wrap64 (t588 + (Int.tmod x12_9 12))) - 12)), (by first | rfl | (simp; done) | (simp [*]; done)), (by first | rfl | (simp; done) | (simp [*]; done)), H', ⟨by have := HJ4.out; have := HJ9.out; first | omega | exact Nat.le_refl _⟩, ⟨by (with_reducible repeat (first | refine blk_drewN ?_ _ | refine blk_drew ?_ | refine blk_alloc ?_ _)); exact BK590.out⟩, ⟨by repeat (first | (with_reducible first | exact HB.out | apply below_alloc | apply pw_below_drewN | apply below_drew1 | refine below_set ?_ GE590.out) | exact HB.out)⟩⟩
              · rw [if_neg c17] at H
                have c17b0 : decide (12 < (wrap64 (t588 + (Int.tmod x12_9 12)))) = false := decide_eq_false c17
                clear c17
                (first | rw [c17b0] | (simp only [i64_w, i32_w]; rw [c17b0]) | skip)
                have H' := Aside0.mk H
                clear H
                go_wp2
                go_meet
                case rel => exact ⟨_, (wrap64 (t587 + (wrap64 (Int.tdiv x12_9 12)))), (wrap64 (t588 + (Int.tmod x12_9 12))), (by first | rfl | (simp; done) | (simp [*]; done)), (by first | rfl | (simp; done) | (simp [*]; done)), H', ⟨by have := HJ4.out; have := HJ9.out; first | omega | exact Nat.le_refl _⟩, ⟨by (with_reducible repeat (first | refine blk_drewN ?_ _ | refine blk_drew ?_ | refine blk_alloc ?_ _)); exact BK590.out⟩, ⟨by repeat (first | (with_reducible first | exact HB.out | apply below_alloc | apply pw_below_drewN | apply below_drew1 | refine below_set ?_ GE590.out) | exact HB.out)⟩⟩
            case rest =>
              clear HC15
              try clear c1
              try clear c2
              try clear p2
              try clear c6
              try clear c6b0
              try clear c6b1
              try clear p6
              try clear c7
              try clear c8
              try clear c8b0
              try clear c8b1
              try clear c13
              try clear c14
              try clear c14b0
              try clear c14b1
              try clear c17
              try clear c17b0
              try clear hcz13_0
              try clear hcz13_1
              try clear hcz13_2
              try clear hcz16_0
              try clear hcz16_1
              try clear hcz16_2
              try clear hfz13_0
              try clear hfz13_1
              try clear hfz13_2
              try clear hfz16_0
              try clear hfz16_1
              try clear hfz16_2
              try clear p2
              try clear p6
              (try clear BK590); (try clear HB); obtain ⟨kq, x13_14, x14_14, rfl, rfl, HA, HJ14, BK590, HB⟩ := hcut
              cases kq with
              | zero => exact absurd HA.out (by simp [paybookref01_Nth.j2])
              | succ kj14 =>
                have H := HA.out
                clear HA
                simp only [paybookref01_Nth.j2] at H
                by_cases c18 : x13_14 > 9999
                · rw [if_pos c18] at H
                  have c18b0 : decide (9999 < x13_14) = true := decide_eq_true c18
                  clear c18
                  simp only [Option.some.injEq, Prod.mk.injEq] at H
                  obtain ⟨rfl, rfl⟩ := H
                  go_wp2
                  go_ret2
                  exact ⟨by first | rfl | (simp [errW_none, errW_some] <;> rfl) | (simp [*, errW_none, errW_some] <;> rfl), by repeat (first | (with_reducible first | exact HB.out | apply below_alloc | apply pw_below_drewN | apply below_drew1 | refine below_set ?_ GE590.out) | exact HB.out)⟩
                · rw [if_neg c18] at H
                  have c18b0 : decide (9999 < x13_14) = false := decide_eq_false c18
                  clear c18
                  replace H := Option.bind_eq_some_iff.mp H
                  obtain ⟨t591, A190, H⟩ := H
                  replace H : (if t589 > t591 then ((paybookref01_Month.f kj14 x13_14 x14_14).bind fun t592 => ((paybookref01_Number.f kj14 x13_14 x14_14 t592).bind fun t593 => (some (t593, true)))) else ((paybookref01_Number.f kj14 x13_14 x14_14 t589).bind fun t594 => (some (t594, true)))) = some (r1, r2) := H
                  have A19 := Aside0.mk A190
                  clear A190
                  by_cases c20 : t589 > t591
                  · rw [if_pos c20] at H
                    have c20b0 : decide (t591 < t589) = true := decide_eq_true c20
                    clear c20
                    replace H := Option.bind_eq_some_iff.mp H
                    obtain ⟨t592, A210, H⟩ := H
                    replace H : ((paybookref01_Number.f kj14 x13_14 x14_14 t592).bind fun t593 => (some (t593, true))) = some (r1, r2) := H
                    have A21 := Aside0.mk A210
                    clear A210
                    replace H := Option.bind_eq_some_iff.mp H
                    obtain ⟨t593, A220, H⟩ := H
                    replace H : (some (t593, true)) = some (r1, r2) := H
                    have A22 := Aside0.mk A220
                    clear A220
                    simp only [Option.some.injEq, Prod.mk.injEq] at H
                    obtain ⟨rfl, rfl⟩ := H
                    obtain ⟨hcz23_0, hcz23_1, hcz23_2⟩ := bc3 BK590.out
                    obtain ⟨hfz23_0, hfz23_1, hfz23_2⟩ := bf3 BK590.out
                    go_wp2_with (first | ((with_reducible refine gate_callee (f := 26) rfl ?_); refine goesL_ (some 72) rfl rfl Try.func26 (by kernel_rfl) rfl #[.int .i64 x13_14, .int .i64 x14_14] rfl (by (try simp only [List.map_toArray, List.map_cons, List.map_nil]); first | done | rfl | (simp only [List.length_drop, List.length_take]; rfl)) ?_; (with_reducible refine (paybookref01_Month.calls kj14 x13_14 x14_14 t591 _ A19.out).mono ?_); rintro e w24 ⟨rfl, hb⟩; refine ⟨_, rfl, ?_⟩; have n0_ := Aside0.mk (blk_below (g := gb590) (o := .cells #[.int .i64 t587, .int .i64 t588, .int .i64 t589] 54 (0, 0)) (by (with_reducible repeat (first | refine blk_drewN ?_ _ | refine blk_drew ?_ | refine blk_alloc ?_ _)); exact BK590.out) hb); have n1_ := Aside0.mk (below_step (by repeat (first | (with_reducible first | exact HB.out | apply below_alloc | apply pw_below_drewN | apply below_drew1 | refine below_set ?_ GE590.out) | exact HB.out)) hb); clear BK590; clear HB; have BK590 := n0_; have HB := n1_; clear n0_ n1_; (try clear hb); (try clear hb2); (try clear hk); (try clear hi)) | ((with_reducible refine gate_callee (f := 26) rfl ?_); refine goesL_ (some 76) rfl rfl Try.func26 (by kernel_rfl) rfl #[.int .i64 x13_14, .int .i64 x14_14] rfl (by (try simp only [List.map_toArray, List.map_cons, List.map_nil]); first | done | rfl | (simp only [List.length_drop, List.length_take]; rfl)) ?_; (with_reducible refine (paybookref01_Month.calls kj14 x13_14 x14_14 t592 _ A21.out).mono ?_); rintro e w25 ⟨rfl, hb⟩; refine ⟨_, rfl, ?_⟩; have n0_ := Aside0.mk (blk_below (g := gb590) (o := .cells #[.int .i64 t587, .int .i64 t588, .int .i64 t589] 54 (0, 0)) (by (with_reducible repeat (first | refine blk_drewN ?_ _ | refine blk_drew ?_ | refine blk_alloc ?_ _)); exact BK590.out) hb); have n1_ := Aside0.mk (below_step (by repeat (first | (with_reducible first | exact HB.out | apply below_alloc | apply pw_below_drewN | apply below_drew1 | refine below_set ?_ GE590.out) | exact HB.out)) hb); clear BK590; clear HB; have BK590 := n0_; have HB := n1_; clear n0_ n1_; (try clear hb); (try clear hb2); (try clear hk); (try clear hi)) | ((with_reducible refine gate_callee (f := 27) rfl ?_); refine goesL_ (some 81) rfl rfl Try.func27 (by kernel_rfl) rfl #[.agg #[.int .i64 x13_14, .int .i64 x14_14, .int .i64 t592]] rfl (by (try simp only [List.map_toArray, List.map_cons, List.map_nil]); first | done | rfl | (simp only [List.length_drop, List.length_take]; rfl)) ?_; (with_reducible refine (paybookref01_Number.calls kj14 x13_14 x14_14 t592 t593 _ A22.out).mono ?_); rintro e w26 ⟨rfl, hb⟩; refine ⟨_, rfl, ?_⟩; have n0_ := Aside0.mk (blk_below (g := gb590) (o := .cells #[.int .i64 t587, .int .i64 t588, .int .i64 t589] 54 (0, 0)) (by (with_reducible repeat (first | refine blk_drewN ?_ _ | refine blk_drew ?_ | refine blk_alloc ?_ _)); exact BK590.out) hb); have n1_ := Aside0.mk (below_step (by repeat (first | (with_reducible first | exact HB.out | apply below_alloc | apply pw_below_drewN | apply below_drew1 | refine below_set ?_ GE590.out) | exact HB.out)) hb); clear BK590; clear HB; have BK590 := n0_; have HB := n1_; clear n0_ n1_; (try clear hb); (try clear hb2); (try clear hk); (try clear hi)))
                    go_ret2
                    exact ⟨by first | rfl | (simp [errW_none, errW_some] <;> rfl) | (simp [*, errW_none, errW_some] <;> rfl), by repeat (first | (with_reducible first | exact HB.out | apply below_alloc | apply pw_below_drewN | apply below_drew1 | refine below_set ?_ GE590.out) | exact HB.out)⟩
                  · rw [if_neg c20] at H
                    have c20b0 : decide (t591 < t589) = false := decide_eq_false c20
                    clear c20
                    replace H := Option.bind_eq_some_iff.mp H
                    obtain ⟨t594, A270, H⟩ := H
                    replace H : (some (t594, true)) = some (r1, r2) := H
                    have A27 := Aside0.mk A270
                    clear A270
                    simp only [Option.some.injEq, Prod.mk.injEq] at H
                    obtain ⟨rfl, rfl⟩ := H
                    obtain ⟨hcz28_0, hcz28_1, hcz28_2⟩ := bc3 BK590.out
                    obtain ⟨hfz28_0, hfz28_1, hfz28_2⟩ := bf3 BK590.out
                    go_wp2_with (first | ((with_reducible refine gate_callee (f := 26) rfl ?_); refine goesL_ (some 72) rfl rfl Try.func26 (by kernel_rfl) rfl #[.int .i64 x13_14, .int .i64 x14_14] rfl (by (try simp only [List.map_toArray, List.map_cons, List.map_nil]); first | done | rfl | (simp only [List.length_drop, List.length_take]; rfl)) ?_; (with_reducible refine (paybookref01_Month.calls kj14 x13_14 x14_14 t591 _ A19.out).mono ?_); rintro e w29 ⟨rfl, hb⟩; refine ⟨_, rfl, ?_⟩; have n0_ := Aside0.mk (blk_below (g := gb590) (o := .cells #[.int .i64 t587, .int .i64 t588, .int .i64 t589] 54 (0, 0)) (by (with_reducible repeat (first | refine blk_drewN ?_ _ | refine blk_drew ?_ | refine blk_alloc ?_ _)); exact BK590.out) hb); have n1_ := Aside0.mk (below_step (by repeat (first | (with_reducible first | exact HB.out | apply below_alloc | apply pw_below_drewN | apply below_drew1 | refine below_set ?_ GE590.out) | exact HB.out)) hb); clear BK590; clear HB; have BK590 := n0_; have HB := n1_; clear n0_ n1_; (try clear hb); (try clear hb2); (try clear hk); (try clear hi)) | ((with_reducible refine gate_callee (f := 27) rfl ?_); refine goesL_ (some 81) rfl rfl Try.func27 (by kernel_rfl) rfl #[.agg #[.int .i64 x13_14, .int .i64 x14_14, .int .i64 t589]] rfl (by (try simp only [List.map_toArray, List.map_cons, List.map_nil]); first | done | rfl | (simp only [List.length_drop, List.length_take]; rfl)) ?_; (with_reducible refine (paybookref01_Number.calls kj14 x13_14 x14_14 t589 t594 _ A27.out).mono ?_); rintro e w30 ⟨rfl, hb⟩; refine ⟨_, rfl, ?_⟩; have n0_ := Aside0.mk (blk_below (g := gb590) (o := .cells #[.int .i64 t587, .int .i64 t588, .int .i64 t589] 54 (0, 0)) (by (with_reducible repeat (first | refine blk_drewN ?_ _ | refine blk_drew ?_ | refine blk_alloc ?_ _)); exact BK590.out) hb); have n1_ := Aside0.mk (below_step (by repeat (first | (with_reducible first | exact HB.out | apply below_alloc | apply pw_below_drewN | apply below_drew1 | refine below_set ?_ GE590.out) | exact HB.out)) hb); clear BK590; clear HB; have BK590 := n0_; have HB := n1_; clear n0_ n1_; (try clear hb); (try clear hb2); (try clear hk); (try clear hi)))
                    go_ret2
                    exact ⟨by first | rfl | (simp [errW_none, errW_some] <;> rfl) | (simp [*, errW_none, errW_some] <;> rfl), by repeat (first | (with_reducible first | exact HB.out | apply below_alloc | apply pw_below_drewN | apply below_drew1 | refine below_set ?_ GE590.out) | exact HB.out)⟩

end Go.Proofs.Ytnpcodfeggcdbaa.PAcc
