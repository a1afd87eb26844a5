-- Laid by wip/prt.py over the kit's print (Acc).
import Derived.Test.YtnpcodfeggcdbaaPAccx0
import Derived.Test.YtnpcodfeggcdbaaPAccx1
import Derived.Test.YtnpcodfeggcdbaaPAccx2
namespace Go.Proofs.Ytnpcodfeggcdbaa.PAcc
open Go.RowKit Go.Proofs.YtnpcodfeggcdbaaW.PrintWords Go.Proofs.YtnpcodfeggcdbaaW.PrintLast Go.Proofs.YtnpcodfeggcdbaaW.PrintMore
attribute [local go_sem] max2_int min2_int max_two min_two max_three min_three max_four min_four   -- for this text's walks alone
set_option linter.unusedVariables false
set_option linter.unusedSimpArgs false

/-! ### cycle_Over: function 32 -/
def cycle_Over.f (a0_0 : Int) (a0_1 : Int) (a0_2 : Int) (a0_3 : Int) (a0_4 : Int) (a0_5 : Int) (a0_6 : Int) (a0_7 : Bool) : Option (Int × Int × Int × Int × Int × Int × Int × Bool) := if a0_2 = 2 then (some (a0_0, a0_1, 8, a0_3, a0_4, a0_5, 0, a0_7)) else (some (a0_0, a0_1, a0_2, a0_3, a0_4, a0_5, a0_6, a0_7))
set_option maxHeartbeats 3000000 in
set_option maxRecDepth 100000 in
theorem cycle_Over.calls (a0_0 : Int) (a0_1 : Int) (a0_2 : Int) (a0_3 : Int) (a0_4 : Int) (a0_5 : Int) (a0_6 : Int) (a0_7 : Bool) (r1 : Int) (r2 : Int) (r3 : Int) (r4 : Int) (r5 : Int) (r6 : Int) (r7 : Int) (r8 : Bool) (w : World) (h : cycle_Over.f a0_0 a0_1 a0_2 a0_3 a0_4 a0_5 a0_6 a0_7 = some (r1, r2, r3, r4, r5, r6, r7, r8)) :
    Calls Try.prog 32 #[.agg #[.int .i64 a0_0, .int .i64 a0_1, .int .u8 a0_2, .int .i64 a0_3, .int .i64 a0_4, .int .i64 a0_5, .int .i64 a0_6, .bool a0_7]] w fun e w' => e = .returned (.agg #[.int .i64 r1, .int .i64 r2, .int .u8 r3, .int .i64 r4, .int .i64 r5, .int .i64 r6, .int .i64 r7, .bool r8]) ∧ Below w.heap.size w w' := by
  have hu37 := Try.underlying37
  have HB := Aside0.mk (Below.refl w.heap.size w)
  have H : (if a0_2 = 2 then (some (a0_0, a0_1, 8, a0_3, a0_4, a0_5, 0, a0_7)) else (some (a0_0, a0_1, a0_2, a0_3, a0_4, a0_5, a0_6, a0_7))) = some (r1, r2, r3, r4, r5, r6, r7, r8) := h
  clear h
  by_cases c2 : a0_2 = 2
  · rw [if_pos c2] at H
    have c2b0 : (a0_2 == 2) = true := beq_iff_eq.mpr c2
    have c2b1 : (a0_2 != 2) = false := bne_eq_false_iff_eq.mpr c2
    clear c2
    simp only [Option.some.injEq, Prod.mk.injEq] at H
    obtain ⟨rfl, rfl, rfl, rfl, rfl, rfl, rfl, rfl⟩ := H
    go_enter Try.func32, Try.ntmps32
    go_wp2_with (first | ((with_reducible refine gate_dst (N := 1) rfl ?_); refine box_event ?hg (N := 1) ?hd (cs := #[.int .i64 a0_0, .int .i64 a0_1, .int .u8 a0_2, .int .i64 a0_3, .int .i64 a0_4, .int .i64 a0_5, .int .i64 a0_6, .bool a0_7]) (t := 37) ?hr ?_; (case hd => rfl); (case hg => rfl); (case hr => first | (go_simp; done) | (go_simp; rfl)); intro gb803 hg w3 hbox hb; have n0_ := Aside0.mk (below_step (by repeat (first | (with_reducible first | exact HB.out | apply below_alloc | apply pw_below_drewN | apply below_drew1) | exact HB.out)) hb); have n1_ := Aside0.mk (hbox); have n2_ := Aside0.mk ((by rw [hg]; exact (below_size (by repeat (first | (with_reducible first | exact HB.out | apply below_alloc | apply pw_below_drewN | apply below_drew1) | exact HB.out))) : w.heap.size ≤ gb803)); have n3_ := Aside0.mk ((by rw [hg]; exact (below_size (by repeat (first | (with_reducible first | exact HB.out | apply below_alloc | apply pw_below_drewN | apply below_drew1) | exact HB.out))) : w.heap.size ≤ gb803)); clear HB; have HB := n0_; have BK803 := n1_; have GW803 := n2_; have GE803 := n3_; clear n0_ n1_ n2_ n3_; clear hb hbox hg) | ((with_reducible refine gate_dst (N := 2) rfl ?_); refine box_event ?hg (N := 2) ?hd (cs := #[.int .i64 0, .int .i64 0, .int .u8 0, .int .i64 0, .int .i64 0, .int .i64 0, .int .i64 0, .bool false]) (t := 37) ?hr ?_; (case hd => rfl); (case hg => rfl); (case hr => first | (go_simp; done) | (go_simp; rfl)); intro gb804 hg w4 hbox hb; have n0_ := Aside0.mk (blk_below (g := gb803) (o := .cells #[.int .i64 a0_0, .int .i64 a0_1, .int .u8 a0_2, .int .i64 a0_3, .int .i64 a0_4, .int .i64 a0_5, .int .i64 a0_6, .bool a0_7] 37 (0, 0)) (by (with_reducible repeat (first | refine blk_drewN ?_ _ | refine blk_drew ?_ | refine blk_alloc ?_ _)); exact BK803.out) hb); have n1_ := Aside0.mk (below_step (by repeat (first | (with_reducible first | exact HB.out | apply below_alloc | apply pw_below_drewN | apply below_drew1 | refine below_set ?_ GE803.out) | exact HB.out)) hb); have n2_ := Aside0.mk (hbox); have n3_ := Aside0.mk ((by rw [hg]; exact (below_size (by repeat (first | (with_reducible first | exact HB.out | apply below_alloc | apply pw_below_drewN | apply below_drew1 | refine below_set ?_ GE803.out) | exact HB.out))) : w.heap.size ≤ gb804)); have n4_ := Aside0.mk ((by rw [hg]; exact (below_size (by repeat (first | (with_reducible first | exact HB.out | apply below_alloc | apply pw_below_drewN | apply below_drew1 | refine below_set ?_ GE803.out) | exact HB.out))) : w.heap.size ≤ gb804)); have n5_ := Aside0.mk ((by rw [hg]; exact Nat.ne_of_lt (blk_lt (g := gb803) (o := .cells #[.int .i64 a0_0, .int .i64 a0_1, .int .u8 a0_2, .int .i64 a0_3, .int .i64 a0_4, .int .i64 a0_5, .int .i64 a0_6, .bool a0_7] 37 (0, 0)) (by (with_reducible repeat (first | refine blk_drewN ?_ _ | refine blk_drew ?_ | refine blk_alloc ?_ _)); exact BK803.out)) : gb803 ≠ gb804)); have n6_ := Aside0.mk ((by rw [hg]; exact Nat.ne_of_gt (blk_lt (g := gb803) (o := .cells #[.int .i64 a0_0, .int .i64 a0_1, .int .u8 a0_2, .int .i64 a0_3, .int .i64 a0_4, .int .i64 a0_5, .int .i64 a0_6, .bool a0_7] 37 (0, 0)) (by (with_reducible repeat (first | refine blk_drewN ?_ _ | refine blk_drew ?_ | refine blk_alloc ?_ _)); exact BK803.out)) : gb804 ≠ gb803)); clear BK803; clear HB; have BK803 := n0_; have HB := n1_; have BK804 := n2_; have GW804 := n3_; have GE804 := n4_; have NB803_804 := n5_; have NB804_803 := n6_; clear n0_ n1_ n2_ n3_ n4_ n5_ n6_; clear hb hbox hg; have hnb5 := NB803_804.out; have hnc5 := NB804_803.out; have hcz6_0 : w4.cell? ⟨gb803, 0, none⟩ = some (.int .i64 a0_0) := (blk_cell BK803.out 0).trans rfl; have hcz6_1 : w4.cell? ⟨gb803, 1, none⟩ = some (.int .i64 a0_1) := (blk_cell BK803.out 1).trans rfl; have hcz6_2 : w4.cell? ⟨gb803, 2, none⟩ = some (.int .u8 a0_2) := (blk_cell BK803.out 2).trans rfl; have hcz6_3 : w4.cell? ⟨gb803, 3, none⟩ = some (.int .i64 a0_3) := (blk_cell BK803.out 3).trans rfl; have hcz6_4 : w4.cell? ⟨gb803, 4, none⟩ = some (.int .i64 a0_4) := (blk_cell BK803.out 4).trans rfl; have hcz6_5 : w4.cell? ⟨gb803, 5, none⟩ = some (.int .i64 a0_5) := (blk_cell BK803.out 5).trans rfl; have hcz6_6 : w4.cell? ⟨gb803, 6, none⟩ = some (.int .i64 a0_6) := (blk_cell BK803.out 6).trans rfl; have hcz6_7 : w4.cell? ⟨gb803, 7, none⟩ = some (.bool a0_7) := (blk_cell BK803.out 7).trans rfl; have hfz6_0 := blk_frozen BK803.out 0; have hfz6_1 := blk_frozen BK803.out 1; have hfz6_2 := blk_frozen BK803.out 2; have hfz6_3 := blk_frozen BK803.out 3; have hfz6_4 := blk_frozen BK803.out 4; have hfz6_5 := blk_frozen BK803.out 5; have hfz6_6 := blk_frozen BK803.out 6; have hfz6_7 := blk_frozen BK803.out 7; have hcz7_0 : w4.cell? ⟨gb804, 0, none⟩ = some (.int .i64 0) := (blk_cell BK804.out 0).trans rfl; have hcz7_1 : w4.cell? ⟨gb804, 1, none⟩ = some (.int .i64 0) := (blk_cell BK804.out 1).trans rfl; have hcz7_2 : w4.cell? ⟨gb804, 2, none⟩ = some (.int .u8 0) := (blk_cell BK804.out 2).trans rfl; have hcz7_3 : w4.cell? ⟨gb804, 3, none⟩ = some (.int .i64 0) := (blk_cell BK804.out 3).trans rfl; have hcz7_4 : w4.cell? ⟨gb804, 4, none⟩ = some (.int .i64 0) := (blk_cell BK804.out 4).trans rfl; have hcz7_5 : w4.cell? ⟨gb804, 5, none⟩ = some (.int .i64 0) := (blk_cell BK804.out 5).trans rfl; have hcz7_6 : w4.cell? ⟨gb804, 6, none⟩ = some (.int .i64 0) := (blk_cell BK804.out 6).trans rfl; have hcz7_7 : w4.cell? ⟨gb804, 7, none⟩ = some (.bool false) := (blk_cell BK804.out 7).trans rfl; have hfz7_0 := blk_frozen BK804.out 0; have hfz7_1 := blk_frozen BK804.out 1; have hfz7_2 := blk_frozen BK804.out 2; have hfz7_3 := blk_frozen BK804.out 3; have hfz7_4 := blk_frozen BK804.out 4; have hfz7_5 := blk_frozen BK804.out 5; have hfz7_6 := blk_frozen BK804.out 6; have hfz7_7 := blk_frozen BK804.out 7))
    refine bodyPost_ret (results_cell_row rfl _ _ gb804 37 #[.int .i64 a0_0, .int .i64 a0_1, .int .u8 8, .int .i64 a0_3, .int .i64 a0_4, .int .i64 a0_5, .int .i64 0, .bool a0_7] (0, 0) _ rfl (by (with_reducible repeat (first | refine blk_drewN ?_ _ | refine blk_drew ?_ | refine blk_alloc ?_ _)); refine blk_put (cs := #[.int .i64 a0_0, .int .i64 a0_1, .int .u8 8, .int .i64 a0_3, .int .i64 a0_4, .int .i64 a0_5, .int .i64 0, .bool false]) ?_ 7 _ rfl; (with_reducible repeat (first | refine blk_drewN ?_ _ | refine blk_drew ?_ | refine blk_alloc ?_ _)); refine blk_put (cs := #[.int .i64 a0_0, .int .i64 a0_1, .int .u8 8, .int .i64 a0_3, .int .i64 a0_4, .int .i64 a0_5, .int .i64 0, .bool false]) ?_ 6 _ rfl; (with_reducible repeat (first | refine blk_drewN ?_ _ | refine blk_drew ?_ | refine blk_alloc ?_ _)); refine blk_put (cs := #[.int .i64 a0_0, .int .i64 a0_1, .int .u8 8, .int .i64 a0_3, .int .i64 a0_4, .int .i64 0, .int .i64 0, .bool false]) ?_ 5 _ rfl; (with_reducible repeat (first | refine blk_drewN ?_ _ | refine blk_drew ?_ | refine blk_alloc ?_ _)); refine blk_put (cs := #[.int .i64 a0_0, .int .i64 a0_1, .int .u8 8, .int .i64 a0_3, .int .i64 0, .int .i64 0, .int .i64 0, .bool false]) ?_ 4 _ rfl; (with_reducible repeat (first | refine blk_drewN ?_ _ | refine blk_drew ?_ | refine blk_alloc ?_ _)); refine blk_put (cs := #[.int .i64 a0_0, .int .i64 a0_1, .int .u8 8, .int .i64 0, .int .i64 0, .int .i64 0, .int .i64 0, .bool false]) ?_ 3 _ rfl; (with_reducible repeat (first | refine blk_drewN ?_ _ | refine blk_drew ?_ | refine blk_alloc ?_ _)); refine blk_put (cs := #[.int .i64 a0_0, .int .i64 a0_1, .int .u8 0, .int .i64 0, .int .i64 0, .int .i64 0, .int .i64 0, .bool false]) ?_ 2 _ rfl; (with_reducible repeat (first | refine blk_drewN ?_ _ | refine blk_drew ?_ | refine blk_alloc ?_ _)); refine blk_put (cs := #[.int .i64 a0_0, .int .i64 0, .int .u8 0, .int .i64 0, .int .i64 0, .int .i64 0, .int .i64 0, .bool false]) ?_ 1 _ rfl; (with_reducible repeat (first | refine blk_drewN ?_ _ | refine blk_drew ?_ | refine blk_alloc ?_ _)); refine blk_put (cs := #[.int .i64 0, .int .i64 0, .int .u8 0, .int .i64 0, .int .i64 0, .int .i64 0, .int .i64 0, .bool false]) ?_ 0 _ rfl; (with_reducible repeat (first | refine blk_drewN ?_ _ | refine blk_drew ?_ | refine blk_alloc ?_ _)); refine blk_far ?_ NB804_803.out _; (with_reducible repeat (first | refine blk_drewN ?_ _ | refine blk_drew ?_ | refine blk_alloc ?_ _)); refine blk_far ?_ NB804_803.out _; (with_reducible repeat (first | refine blk_drewN ?_ _ | refine blk_drew ?_ | refine blk_alloc ?_ _)); exact BK804.out) Try.underlying37 rfl (by kernel_rfl)) rfl ?_
    exact ⟨by first | rfl | (simp [errW_none, errW_some] <;> rfl) | (simp [*, errW_none, errW_some] <;> rfl), by repeat (first | (with_reducible first | exact HB.out | apply below_alloc | apply pw_below_drewN | apply below_drew1 | refine below_set ?_ GE803.out | refine below_set ?_ GE804.out) | exact HB.out)⟩
  · rw [if_neg c2] at H
    have c2b0 : (a0_2 == 2) = false := beq_eq_false_iff_ne.mpr c2
    have c2b1 : (a0_2 != 2) = true := bne_iff_ne.mpr c2
    simp only [Option.some.injEq, Prod.mk.injEq] at H
    obtain ⟨rfl, rfl, rfl, rfl, rfl, rfl, rfl, rfl⟩ := H
    go_enter Try.func32, Try.ntmps32
    go_wp2_with (first | ((with_reducible refine gate_dst (N := 1) rfl ?_); refine box_event ?hg (N := 1) ?hd (cs := #[.int .i64 a0_0, .int .i64 a0_1, .int .u8 a0_2, .int .i64 a0_3, .int .i64 a0_4, .int .i64 a0_5, .int .i64 a0_6, .bool a0_7]) (t := 37) ?hr ?_; (case hd => rfl); (case hg => rfl); (case hr => first | (go_simp; done) | (go_simp; rfl)); intro gb803 hg w8 hbox hb; have n0_ := Aside0.mk (below_step (by repeat (first | (with_reducible first | exact HB.out | apply below_alloc | apply pw_below_drewN | apply below_drew1) | exact HB.out)) hb); have n1_ := Aside0.mk (hbox); have n2_ := Aside0.mk ((by rw [hg]; exact (below_size (by repeat (first | (with_reducible first | exact HB.out | apply below_alloc | apply pw_below_drewN | apply below_drew1) | exact HB.out))) : w.heap.size ≤ gb803)); have n3_ := Aside0.mk ((by rw [hg]; exact (below_size (by repeat (first | (with_reducible first | exact HB.out | apply below_alloc | apply pw_below_drewN | apply below_drew1) | exact HB.out))) : w.heap.size ≤ gb803)); clear HB; have HB := n0_; have BK803 := n1_; have GW803 := n2_; have GE803 := n3_; clear n0_ n1_ n2_ n3_; clear hb hbox hg) | ((with_reducible refine gate_dst (N := 2) rfl ?_); refine box_event ?hg (N := 2) ?hd (cs := #[.int .i64 0, .int .i64 0, .int .u8 0, .int .i64 0, .int .i64 0, .int .i64 0, .int .i64 0, .bool false]) (t := 37) ?hr ?_; (case hd => rfl); (case hg => rfl); (case hr => first | (go_simp; done) | (go_simp; rfl)); intro gb804 hg w9 hbox hb; have n0_ := Aside0.mk (blk_below (g := gb803) (o := .cells #[.int .i64 a0_0, .int .i64 a0_1, .int .u8 a0_2, .int .i64 a0_3, .int .i64 a0_4, .int .i64 a0_5, .int .i64 a0_6, .bool a0_7] 37 (0, 0)) (by (with_reducible repeat (first | refine blk_drewN ?_ _ | refine blk_drew ?_ | refine blk_alloc ?_ _)); exact BK803.out) hb); have n1_ := Aside0.mk (below_step (by repeat (first | (with_reducible first | exact HB.out | apply below_alloc | apply pw_below_drewN | apply below_drew1 | refine below_set ?_ GE803.out) | exact HB.out)) hb); have n2_ := Aside0.mk (hbox); have n3_ := Aside0.mk ((by rw [hg]; exact (below_size (by repeat (first | (with_reducible first | exact HB.out | apply below_alloc | apply pw_below_drewN | apply below_drew1 | refine below_set ?_ GE803.out) | exact HB.out))) : w.heap.size ≤ gb804)); have n4_ := Aside0.mk ((by rw [hg]; exact (below_size (by repeat (first | (with_reducible first | exact HB.out | apply below_alloc | apply pw_below_drewN | apply below_drew1 | refine below_set ?_ GE803.out) | exact HB.out))) : w.heap.size ≤ gb804)); have n5_ := Aside0.mk ((by rw [hg]; exact Nat.ne_of_lt (blk_lt (g := gb803) (o := .cells #[.int .i64 a0_0, .int .i64 a0_1, .int .u8 a0_2, .int .i64 a0_3, .int .i64 a0_4, .int .i64 a0_5, .int .i64 a0_6, .bool a0_7] 37 (0, 0)) (by (with_reducible repeat (first | refine blk_drewN ?_ _ | refine blk_drew ?_ | refine blk_alloc ?_ _)); exact BK803.out)) : gb803 ≠ gb804)); have n6_ := Aside0.mk ((by rw [hg]; exact Nat.ne_of_gt (blk_lt (g := gb803) (o := .cells #[.int .i64 a0_0, .int .i64 a0_1, .int .u8 a0_2, .int .i64 a0_3, .int .i64 a0_4, .int .i64 a0_5, .int .i64 a0_6, .bool a0_7] 37 (0, 0)) (by (with_reducible repeat (first | refine blk_drewN ?_ _ | refine blk_drew ?_ | refine blk_alloc ?_ _)); exact BK803.out)) : gb804 ≠ gb803)); clear BK803; clear HB; have BK803 := n0_; have HB := n1_; have BK804 := n2_; have GW804 := n3_; have GE804 := n4_; have NB803_804 := n5_; have NB804_803 := n6_; clear n0_ n1_ n2_ n3_ n4_ n5_ n6_; clear hb hbox hg; have hnb10 := NB803_804.out; have hnc10 := NB804_803.out; have hcz11_0 : w9.cell? ⟨gb803, 0, none⟩ = some (.int .i64 a0_0) := (blk_cell BK803.out 0).trans rfl; have hcz11_1 : w9.cell? ⟨gb803, 1, none⟩ = some (.int .i64 a0_1) := (blk_cell BK803.out 1).trans rfl; have hcz11_2 : w9.cell? ⟨gb803, 2, none⟩ = some (.int .u8 a0_2) := (blk_cell BK803.out 2).trans rfl; have hcz11_3 : w9.cell? ⟨gb803, 3, none⟩ = some (.int .i64 a0_3) := (blk_cell BK803.out 3).trans rfl; have hcz11_4 : w9.cell? ⟨gb803, 4, none⟩ = some (.int .i64 a0_4) := (blk_cell BK803.out 4).trans rfl; have hcz11_5 : w9.cell? ⟨gb803, 5, none⟩ = some (.int .i64 a0_5) := (blk_cell BK803.out 5).trans rfl; have hcz11_6 : w9.cell? ⟨gb803, 6, none⟩ = some (.int .i64 a0_6) := (blk_cell BK803.out 6).trans rfl; have hcz11_7 : w9.cell? ⟨gb803, 7, none⟩ = some (.bool a0_7) := (blk_cell BK803.out 7).trans rfl; have hfz11_0 := blk_frozen BK803.out 0; have hfz11_1 := blk_frozen BK803.out 1; have hfz11_2 := blk_frozen BK803.out 2; have hfz11_3 := blk_frozen BK803.out 3; have hfz11_4 := blk_frozen BK803.out 4; have hfz11_5 := blk_frozen BK803.out 5; have hfz11_6 := blk_frozen BK803.out 6; have hfz11_7 := blk_frozen BK803.out 7; have hcz12_0 : w9.cell? ⟨gb804, 0, none⟩ = some (.int .i64 0) := (blk_cell BK804.out 0).trans rfl; have hcz12_1 : w9.cell? ⟨gb804, 1, none⟩ = some (.int .i64 0) := (blk_cell BK804.out 1).trans rfl; have hcz12_2 : w9.cell? ⟨gb804, 2, none⟩ = some (.int .u8 0) := (blk_cell BK804.out 2).trans rfl; have hcz12_3 : w9.cell? ⟨gb804, 3, none⟩ = some (.int .i64 0) := (blk_cell BK804.out 3).trans rfl; have hcz12_4 : w9.cell? ⟨gb804, 4, none⟩ = some (.int .i64 0) := (blk_cell BK804.out 4).trans rfl; have hcz12_5 : w9.cell? ⟨gb804, 5, none⟩ = some (.int .i64 0) := (blk_cell BK804.out 5).trans rfl; have hcz12_6 : w9.cell? ⟨gb804, 6, none⟩ = some (.int .i64 0) := (blk_cell BK804.out 6).trans rfl; have hcz12_7 : w9.cell? ⟨gb804, 7, none⟩ = some (.bool false) := (blk_cell BK804.out 7).trans rfl; have hfz12_0 := blk_frozen BK804.out 0; have hfz12_1 := blk_frozen BK804.out 1; have hfz12_2 := blk_frozen BK804.out 2; have hfz12_3 := blk_frozen BK804.out 3; have hfz12_4 := blk_frozen BK804.out 4; have hfz12_5 := blk_frozen BK804.out 5; have hfz12_6 := blk_frozen BK804.out 6; have hfz12_7 := blk_frozen BK804.out 7))
    refine bodyPost_ret (results_cell_row rfl _ _ gb804 37 #[.int .i64 a0_0, .int .i64 a0_1, .int .u8 a0_2, .int .i64 a0_3, .int .i64 a0_4, .int .i64 a0_5, .int .i64 a0_6, .bool a0_7] (0, 0) _ rfl (by (with_reducible repeat (first | refine blk_drewN ?_ _ | refine blk_drew ?_ | refine blk_alloc ?_ _)); refine blk_put (cs := #[.int .i64 a0_0, .int .i64 a0_1, .int .u8 a0_2, .int .i64 a0_3, .int .i64 a0_4, .int .i64 a0_5, .int .i64 a0_6, .bool false]) ?_ 7 _ rfl; (with_reducible repeat (first | refine blk_drewN ?_ _ | refine blk_drew ?_ | refine blk_alloc ?_ _)); refine blk_put (cs := #[.int .i64 a0_0, .int .i64 a0_1, .int .u8 a0_2, .int .i64 a0_3, .int .i64 a0_4, .int .i64 a0_5, .int .i64 0, .bool false]) ?_ 6 _ rfl; (with_reducible repeat (first | refine blk_drewN ?_ _ | refine blk_drew ?_ | refine blk_alloc ?_ _)); refine blk_put (cs := #[.int .i64 a0_0, .int .i64 a0_1, .int .u8 a0_2, .int .i64 a0_3, .int .i64 a0_4, .int .i64 0, .int .i64 0, .bool false]) ?_ 5 _ rfl; (with_reducible repeat (first | refine blk_drewN ?_ _ | refine blk_drew ?_ | refine blk_alloc ?_ _)); refine blk_put (cs := #[.int .i64 a0_0, .int .i64 a0_1, .int .u8 a0_2, .int .i64 a0_3, .int .i64 0, .int .i64 0, .int .i64 0, .bool false]) ?_ 4 _ rfl; (with_reducible repeat (first | refine blk_drewN ?_ _ | refine blk_drew ?_ | refine blk_alloc ?_ _)); refine blk_put (cs := #[.int .i64 a0_0, .int .i64 a0_1, .int .u8 a0_2, .int .i64 0, .int .i64 0, .int .i64 0, .int .i64 0, .bool false]) ?_ 3 _ rfl; (with_reducible repeat (first | refine blk_drewN ?_ _ | refine blk_drew ?_ | refine blk_alloc ?_ _)); refine blk_put (cs := #[.int .i64 a0_0, .int .i64 a0_1, .int .u8 0, .int .i64 0, .int .i64 0, .int .i64 0, .int .i64 0, .bool false]) ?_ 2 _ rfl; (with_reducible repeat (first | refine blk_drewN ?_ _ | refine blk_drew ?_ | refine blk_alloc ?_ _)); refine blk_put (cs := #[.int .i64 a0_0, .int .i64 0, .int .u8 0, .int .i64 0, .int .i64 0, .int .i64 0, .int .i64 0, .bool false]) ?_ 1 _ rfl; (with_reducible repeat (first | refine blk_drewN ?_ _ | refine blk_drew ?_ | refine blk_alloc ?_ _)); refine blk_put (cs := #[.int .i64 0, .int .i64 0, .int .u8 0, .int .i64 0, .int .i64 0, .int .i64 0, .int .i64 0, .bool false]) ?_ 0 _ rfl; (with_reducible repeat (first | refine blk_drewN ?_ _ | refine blk_drew ?_ | refine blk_alloc ?_ _)); exact BK804.out) Try.underlying37 rfl (by kernel_rfl)) rfl ?_
    exact ⟨by first | rfl | (simp [errW_none, errW_some] <;> rfl) | (simp [*, errW_none, errW_some] <;> rfl), by repeat (first | (with_reducible first | exact HB.out | apply below_alloc | apply pw_below_drewN | apply below_drew1 | refine below_set ?_ GE803.out | refine below_set ?_ GE804.out) | exact HB.out)⟩

/-! ### account_settle: function 33 -/
def account_settle.l0 : Nat → List (S37) → Int → Int → Int → Int → Int → Int → Int → Int → Bool → List (S37) → Int → Int → Int → Int → Int → Option (Int × Int × Int × Int × Int × Int × Bool × (List (S37)) × Int × Int × Int × Int × Int × Int)
  | 0, _, _, _, _, _, _, _, _, _, _, _, _, _, _, _, _ => none
  | k + 1, x11, x12, x13, x806000, x806001, x806002, x806003, x806004, x806005, x806006, x806007, x806008, x806009, x806010, x806011, x806012 => if x13 < x12 then (if 0 ≤ x13 then (if x13 < (x11.length : Int) then ((account_close.f x806000 x806001 x806002 x806003 x806004 x806005 x806006 x806007 x806008 x806009 x806010 x806011 x806012 ((rd_T37 x11 x13).f0) ((rd_T37 x11 x13).f1) ((rd_T37 x11 x13).f2) ((rd_T37 x11 x13).f3) ((rd_T37 x11 x13).f4) ((rd_T37 x11 x13).f5) ((rd_T37 x11 x13).f6) ((rd_T37 x11 x13).f7)).bind fun bt809 => (if bt809.2.2.2.2.2.2.2.2.2.2.2.2.2 = 0 then (account_settle.l0 k x11 x12 (wrap64 (x13 + 1)) bt809.1 bt809.2.1 bt809.2.2.1 bt809.2.2.2.1 bt809.2.2.2.2.1 bt809.2.2.2.2.2.1 bt809.2.2.2.2.2.2.1 bt809.2.2.2.2.2.2.2.1 bt809.2.2.2.2.2.2.2.2.1 bt809.2.2.2.2.2.2.2.2.2.1 bt809.2.2.2.2.2.2.2.2.2.2.1 bt809.2.2.2.2.2.2.2.2.2.2.2.1 bt809.2.2.2.2.2.2.2.2.2.2.2.2.1) else (none))) else (none)) else (none)) else (some (x806000, x806001, x806002, x806003, x806004, x806005, x806006, x806007, x806008, x806009, x806010, x806011, x806012, 0))
def account_settle.f (k : Nat) (a0_0 : Int) (a0_1 : Int) (a0_2 : Int) (a0_3 : Int) (a0_4 : Int) (a0_5 : Int) (a0_6 : Bool) (l0_7 : List (S37)) (a0_8 : Int) (a0_9 : Int) (a0_10 : Int) (a0_11 : Int) (a0_12 : Int) : Option (Int × Int × Int × Int × Int × Int × Bool × (List (S37)) × Int × Int × Int × Int × Int × Int) := account_settle.l0 k l0_7 (l0_7.length : Int) 0 a0_0 a0_1 a0_2 a0_3 a0_4 a0_5 a0_6 ([] : List (S37)) a0_8 a0_9 a0_10 a0_11 a0_12
theorem account_settle.mono_l : ∀ k, (∀ y0 y1 y2 y3 y4 y5 y6 y7 y8 y9 y10 y11 y12 y13 y14 y15, LeO (account_settle.l0 k y0 y1 y2 y3 y4 y5 y6 y7 y8 y9 y10 y11 y12 y13 y14 y15) (account_settle.l0 (k + 1) y0 y1 y2 y3 y4 y5 y6 y7 y8 y9 y10 y11 y12 y13 y14 y15))
  | 0 => fun _ _ _ _ _ _ _ _ _ _ _ _ _ _ _ _ r h => by simp [account_settle.l0] at h
  | k + 1 => by
    have ih0 := account_settle.mono_l k
    · intro y0 y1 y2 y3 y4 y5 y6 y7 y8 y9 y10 y11 y12 y13 y14 y15
      unfold account_settle.l0
      repeat' first
      | (with_reducible exact ih0 _ _ _ _ _ _ _ _ _ _ _ _ _ _ _ _)
      | (with_reducible exact LeO.refl _)
      | (with_reducible exact LeO.none _)
      | (with_reducible refine LeO.ite ?_ ?_)
      | (with_reducible refine LeO.bind ?_ (fun _ => ?_))
      | exact ih0 _ _ _ _ _ _ _ _ _ _ _ _ _ _ _ _
      | exact LeO.none _
      | refine LeO.ite ?_ ?_
      | refine LeO.bind ?_ (fun _ => ?_)
theorem account_settle.mono : ∀ a0 a1 a2 a3 a4 a5 a6 a7 a8 a9 a10 a11 a12 k, LeO (account_settle.f k a0 a1 a2 a3 a4 a5 a6 a7 a8 a9 a10 a11 a12) (account_settle.f (k + 1) a0 a1 a2 a3 a4 a5 a6 a7 a8 a9 a10 a11 a12) := by
  intro a0 a1 a2 a3 a4 a5 a6 a7 a8 a9 a10 a11 a12 k
  have ih0 := account_settle.mono_l k
  unfold account_settle.f
  repeat' first
      | (with_reducible exact ih0 _ _ _ _ _ _ _ _ _ _ _ _ _ _ _ _)
      | (with_reducible exact LeO.refl _)
      | (with_reducible exact LeO.none _)
      | (with_reducible refine LeO.ite ?_ ?_)
      | (with_reducible refine LeO.bind ?_ (fun _ => ?_))
      | exact ih0 _ _ _ _ _ _ _ _ _ _ _ _ _ _ _ _
      | exact LeO.none _
      | refine LeO.ite ?_ ?_
      | refine LeO.bind ?_ (fun _ => ?_)
set_option maxHeartbeats 3000000 in
set_option maxRecDepth 100000 in
theorem account_settle.calls (k : Nat) (a0_0 : Int) (a0_1 : Int) (a0_2 : Int) (a0_3 : Int) (a0_4 : Int) (a0_5 : Int) (a0_6 : Bool) (A0_7 : Option Addr) (c0_7 : Nat) (l0_7 : List (S37)) (a0_8 : Int) (a0_9 : Int) (a0_10 : Int) (a0_11 : Int) (a0_12 : Int) (r1 : Int) (r2 : Int) (r3 : Int) (r4 : Int) (r5 : Int) (r6 : Int) (r7 : Bool) (r8 : List (S37)) (r9 : Int) (r10 : Int) (r11 : Int) (r12 : Int) (r13 : Int) (r14 : Int) (w : World) (hr0_7 : Kd.C k37 w A0_7 l0_7.length l0_7) (hc0_7 : l0_7.length ≤ c0_7) (h : account_settle.f k a0_0 a0_1 a0_2 a0_3 a0_4 a0_5 a0_6 l0_7 a0_8 a0_9 a0_10 a0_11 a0_12 = some (r1, r2, r3, r4, r5, r6, r7, r8, r9, r10, r11, r12, r13, r14)) :
    Calls Try.prog 33 #[.agg #[.int .u8 a0_0, .int .i64 a0_1, .int .i64 a0_2, .int .i64 a0_3, .int .i64 a0_4, .int .i64 a0_5, .bool a0_6, .slice A0_7 l0_7.length c0_7, .int .i64 a0_8, .int .i64 a0_9, .int .i64 a0_10, .int .i64 a0_11, .int .i64 a0_12]] w fun e w' => ∃ v7_ : Value, e = .returned (.tuple #[.agg #[.int .u8 r1, .int .i64 r2, .int .i64 r3, .int .i64 r4, .int .i64 r5, .int .i64 r6, .bool r7, v7_, .int .i64 r9, .int .i64 r10, .int .i64 r11, .int .i64 r12, .int .i64 r13], .int .i64 r14]) ∧ Kd.R k37 37 w' w.heap.size (fun _ => True) v7_ r8 ∧ Below w.heap.size w w' := by
  have hu31 := Try.underlying31
  have hu37 := Try.underlying37
  have HR0_7 := Aside0.mk hr0_7
  have HC0_7 := Aside0.mk hc0_7
  clear hr0_7 hc0_7
  have HB := Aside0.mk (Below.refl w.heap.size w)
  have H : (account_settle.l0 k l0_7 (l0_7.length : Int) 0 a0_0 a0_1 a0_2 a0_3 a0_4 a0_5 a0_6 ([] : List (S37)) a0_8 a0_9 a0_10 a0_11 a0_12) = some (r1, r2, r3, r4, r5, r6, r7, r8, r9, r10, r11, r12, r13, r14) := h
  clear h
  have H' := Aside0.mk H
  clear H
  go_enter Try.func33, Try.ntmps33
  go_wp2_with (first | ((with_reducible refine gate_dst (N := 1) rfl ?_); refine box_event ?hg (N := 1) ?hd (cs := #[.int .u8 a0_0, .int .i64 a0_1, .int .i64 a0_2, .int .i64 a0_3, .int .i64 a0_4, .int .i64 a0_5, .bool a0_6, .slice A0_7 l0_7.length c0_7, .int .i64 a0_8, .int .i64 a0_9, .int .i64 a0_10, .int .i64 a0_11, .int .i64 a0_12]) (t := 31) ?hr ?_; (case hd => rfl); (case hg => rfl); (case hr => first | (go_simp; done) | (go_simp; rfl)); intro gb805 hg w2 hbox hb; have n0_ := Aside0.mk (below_step (by repeat (first | (with_reducible first | exact HB.out | apply below_alloc | apply pw_below_drewN | apply below_drew1) | exact HB.out)) hb); have n1_ := Aside0.mk (hbox); have n2_ := Aside0.mk ((by rw [hg]; exact (below_size (by repeat (first | (with_reducible first | exact HB.out | apply below_alloc | apply pw_below_drewN | apply below_drew1) | exact HB.out))) : w.heap.size ≤ gb805)); have n3_ := Aside0.mk ((by rw [hg]; exact (below_size (by repeat (first | (with_reducible first | exact HB.out | apply below_alloc | apply pw_below_drewN | apply below_drew1) | exact HB.out))) : w.heap.size ≤ gb805)); clear HB; have HB := n0_; have BK805 := n1_; have GW805 := n2_; have GE805 := n3_; clear n0_ n1_ n2_ n3_; clear hb hbox hg) | ((with_reducible refine gate_dst (N := 2) rfl ?_); refine box_event ?hg (N := 2) ?hd (cs := #[.int .u8 0, .int .i64 0, .int .i64 0, .int .i64 0, .int .i64 0, .int .i64 0, .bool false, .slice none 0 0, .int .i64 0, .int .i64 0, .int .i64 0, .int .i64 0, .int .i64 0]) (t := 31) ?hr ?_; (case hd => rfl); (case hg => rfl); (case hr => first | (go_simp; done) | (go_simp; rfl)); intro gb806 hg w3 hbox hb; have n0_ := Aside0.mk (blk_below (g := gb805) (o := .cells #[.int .u8 a0_0, .int .i64 a0_1, .int .i64 a0_2, .int .i64 a0_3, .int .i64 a0_4, .int .i64 a0_5, .bool a0_6, .slice A0_7 l0_7.length c0_7, .int .i64 a0_8, .int .i64 a0_9, .int .i64 a0_10, .int .i64 a0_11, .int .i64 a0_12] 31 (0, 0)) (by (with_reducible repeat (first | refine blk_drewN ?_ _ | refine blk_drew ?_ | refine blk_alloc ?_ _)); exact BK805.out) hb); have n1_ := Aside0.mk (below_step (by repeat (first | (with_reducible first | exact HB.out | apply below_alloc | apply pw_below_drewN | apply below_drew1 | refine below_set ?_ GE805.out) | exact HB.out)) hb); have n2_ := Aside0.mk (hbox); have n3_ := Aside0.mk ((by rw [hg]; exact (below_size (by repeat (first | (with_reducible first | exact HB.out | apply below_alloc | apply pw_below_drewN | apply below_drew1 | refine below_set ?_ GE805.out) | exact HB.out))) : w.heap.size ≤ gb806)); have n4_ := Aside0.mk ((by rw [hg]; exact (below_size (by repeat (first | (with_reducible first | exact HB.out | apply below_alloc | apply pw_below_drewN | apply below_drew1 | refine below_set ?_ GE805.out) | exact HB.out))) : w.heap.size ≤ gb806)); have n5_ := Aside0.mk ((by rw [hg]; exact Nat.ne_of_lt (blk_lt (g := gb805) (o := .cells #[.int .u8 a0_0, .int .i64 a0_1, .int .i64 a0_2, .int .i64 a0_3, .int .i64 a0_4, .int .i64 a0_5, .bool a0_6, .slice A0_7 l0_7.length c0_7, .int .i64 a0_8, .int .i64 a0_9, .int .i64 a0_10, .int .i64 a0_11, .int .i64 a0_12] 31 (0, 0)) (by (with_reducible repeat (first | refine blk_drewN ?_ _ | refine blk_drew ?_ | refine blk_alloc ?_ _)); exact BK805.out)) : gb805 ≠ gb806)); have n6_ := Aside0.mk ((by rw [hg]; exact Nat.ne_of_gt (blk_lt (g := gb805) (o := .cells #[.int .u8 a0_0, .int .i64 a0_1, .int .i64 a0_2, .int .i64 a0_3, .int .i64 a0_4, .int .i64 a0_5, .bool a0_6, .slice A0_7 l0_7.length c0_7, .int .i64 a0_8, .int .i64 a0_9, .int .i64 a0_10, .int .i64 a0_11, .int .i64 a0_12] 31 (0, 0)) (by (with_reducible repeat (first | refine blk_drewN ?_ _ | refine blk_drew ?_ | refine blk_alloc ?_ _)); exact BK805.out)) : gb806 ≠ gb805)); clear BK805; clear HB; have BK805 := n0_; have HB := n1_; have BK806 := n2_; have GW806 := n3_; have GE806 := n4_; have NB805_806 := n5_; have NB806_805 := n6_; clear n0_ n1_ n2_ n3_ n4_ n5_ n6_; clear hb hbox hg; have hnb4 := NB805_806.out; have hnc4 := NB806_805.out; obtain ⟨hcz5_0, hcz5_1, hcz5_2, hcz5_3, hcz5_4, hcz5_5, hcz5_6, hcz5_7, hcz5_8, hcz5_9, hcz5_10, hcz5_11, hcz5_12⟩ := bc13 BK805.out; obtain ⟨hfz5_0, hfz5_1, hfz5_2, hfz5_3, hfz5_4, hfz5_5, hfz5_6, hfz5_7, hfz5_8, hfz5_9, hfz5_10, hfz5_11, hfz5_12⟩ := bf13 BK805.out))
  go_loopg [13] k (fun kq v13 w' => ∃ (x13_1 : Int) (x806000_1 : Int) (x806001_1 : Int) (x806002_1 : Int) (x806003_1 : Int) (x806004_1 : Int) (x806005_1 : Int) (x806006_1 : Bool) (x806007_1 : List (S37)) (x806008_1 : Int) (x806009_1 : Int) (x806010_1 : Int) (x806011_1 : Int) (x806012_1 : Int) (x807000_1 : Int) (x807001_1 : Int) (x807002_1 : Int) (x807003_1 : Int) (x807004_1 : Int) (x807005_1 : Int) (x807006_1 : Bool) (x807008_1 : Int) (x807009_1 : Int) (x807010_1 : Int) (x807011_1 : Int) (x807012_1 : Int) (u806007 : Value), v13 = .int .i64 x13_1 ∧ Aside0 (account_settle.l0 kq l0_7 (l0_7.length : Int) x13_1 x806000_1 x806001_1 x806002_1 x806003_1 x806004_1 x806005_1 x806006_1 x806007_1 x806008_1 x806009_1 x806010_1 x806011_1 x806012_1 = some (r1, r2, r3, r4, r5, r6, r7, r8, r9, r10, r11, r12, r13, r14)) ∧ Aside0 (kq ≤ k) ∧ Aside0 (Kd.R k37 37 w' w.heap.size (fun _ => True) u806007 x806007_1) ∧ Aside0 (w'.heap[gb805]? = some (.cells #[.int .u8 x806000_1, .int .i64 x806001_1, .int .i64 x806002_1, .int .i64 x806003_1, .int .i64 x806004_1, .int .i64 x806005_1, .bool x806006_1, u806007, .int .i64 x806008_1, .int .i64 x806009_1, .int .i64 x806010_1, .int .i64 x806011_1, .int .i64 x806012_1] 31 (0, 0))) ∧ Aside0 (w'.heap[gb806]? = some (.cells #[.int .u8 x807000_1, .int .i64 x807001_1, .int .i64 x807002_1, .int .i64 x807003_1, .int .i64 x807004_1, .int .i64 x807005_1, .bool x807006_1, (.slice none 0 0), .int .i64 x807008_1, .int .i64 x807009_1, .int .i64 x807010_1, .int .i64 x807011_1, .int .i64 x807012_1] 31 (0, 0))) ∧ Aside0 (Below w.heap.size w w'))
  case atStart => exact ⟨(0), (a0_0), (a0_1), (a0_2), (a0_3), (a0_4), (a0_5), (a0_6), (([] : List (S37))), (a0_8), (a0_9), (a0_10), (a0_11), (a0_12), (0), (0), (0), (0), (0), (0), (false), (0), (0), (0), (0), (0), (.slice none 0 0), (by first | rfl | (simp; done) | (simp [*]; done)), H', ⟨Nat.le_refl _⟩, ⟨by first | exact Kd.R_nil _ _ _ _ _ | exact Kd.N_nil _ _ _ _ _ | exact Kd.V_nil _ _ _ _ _ | exact Kd.Q_nil _ _ _ _ _ | exact Kd.S_nil _ _ _ _ _⟩, ⟨by (with_reducible repeat (first | refine blk_drewN ?_ _ | refine blk_drew ?_ | refine blk_alloc ?_ _)); refine blk_put (cs := #[.int .u8 a0_0, .int .i64 a0_1, .int .i64 a0_2, .int .i64 a0_3, .int .i64 a0_4, .int .i64 a0_5, .bool a0_6, .slice A0_7 l0_7.length c0_7, .int .i64 a0_8, .int .i64 a0_9, .int .i64 a0_10, .int .i64 a0_11, .int .i64 a0_12]) ?_ 7 _ rfl; (with_reducible repeat (first | refine blk_drewN ?_ _ | refine blk_drew ?_ | refine blk_alloc ?_ _)); exact BK805.out⟩, ⟨by (with_reducible repeat (first | refine blk_drewN ?_ _ | refine blk_drew ?_ | refine blk_alloc ?_ _)); refine blk_far ?_ NB806_805.out _; (with_reducible repeat (first | refine blk_drewN ?_ _ | refine blk_drew ?_ | refine blk_alloc ?_ _)); exact BK806.out⟩, ⟨by repeat (first | (with_reducible first | exact HB.out | apply below_alloc | apply pw_below_drewN | apply below_drew1 | refine below_set ?_ GE805.out | refine below_set ?_ GE806.out) | exact HB.out)⟩⟩
  case round =>
    clear H'
    try clear p2
    try clear c3
    try clear c4
    try clear hcz5_0
    try clear hcz5_1
    try clear hcz5_10
    try clear hcz5_11
    try clear hcz5_12
    try clear hcz5_2
    try clear hcz5_3
    try clear hcz5_4
    try clear hcz5_5
    try clear hcz5_6
    try clear hcz5_7
    try clear hcz5_8
    try clear hcz5_9
    try clear hfz5_0
    try clear hfz5_1
    try clear hfz5_10
    try clear hfz5_11
    try clear hfz5_12
    try clear hfz5_2
    try clear hfz5_3
    try clear hfz5_4
    try clear hfz5_5
    try clear hfz5_6
    try clear hfz5_7
    try clear hfz5_8
    try clear hfz5_9
    (try clear HK1); (try clear HO_806007); (try clear BK805); (try clear BK806); (try clear HB); obtain ⟨x13_1, x806000_1, x806001_1, x806002_1, x806003_1, x806004_1, x806005_1, x806006_1, x806007_1, x806008_1, x806009_1, x806010_1, x806011_1, x806012_1, x807000_1, x807001_1, x807002_1, x807003_1, x807004_1, x807005_1, x807006_1, x807008_1, x807009_1, x807010_1, x807011_1, x807012_1, u806007, rfl, HA, HK1, HO_806007, BK805, BK806, HB⟩ := hrel
    cases gk with
    | zero => exact absurd HA.out (by simp [account_settle.l0])
    | succ k1 =>
      have H := HA.out
      clear HA
      simp only [account_settle.l0] at H
      by_cases c6 : x13_1 < (l0_7.length : Int)
      · rw [if_pos c6] at H
        have c6b0 : decide (x13_1 < (l0_7.length : Int)) = true := decide_eq_true c6
        clear c6
        by_cases c7 : 0 ≤ x13_1
        · rw [if_pos c7] at H
          have c7b0 : decide (0 ≤ x13_1) = true := decide_eq_true c7
          clear c7
          by_cases c8 : x13_1 < (l0_7.length : Int)
          · rw [if_pos c8] at H
            have c8b0 : decide (x13_1 < (l0_7.length : Int)) = true := decide_eq_true c8
            clear c8
            replace H := Option.bind_eq_some_iff.mp H
            obtain ⟨⟨t809, t810, t811, t812, t813, t814, t815, t816, t819, t820, t821, t822, t823, t824⟩, A90, H⟩ := H
            replace H : (if t824 = 0 then (account_settle.l0 k1 l0_7 (l0_7.length : Int) (wrap64 (x13_1 + 1)) t809 t810 t811 t812 t813 t814 t815 t816 t819 t820 t821 t822 t823) else (none)) = some (r1, r2, r3, r4, r5, r6, r7, r8, r9, r10, r11, r12, r13, r14) := H
            have A9 := Aside0.mk A90
            clear A90
            by_cases c10 : t824 = 0
            · rw [if_pos c10] at H
              have c10b0 : (t824 == 0) = true := beq_iff_eq.mpr c10
              have c10b1 : (t824 != 0) = false := bne_eq_false_iff_eq.mpr c10
              clear c10
              have H' := Aside0.mk H
              clear H
              have p807 : 0 ≤ (x13_1 : Int) := of_decide_eq_true (by first | (with_reducible assumption) | assumption)
              have q807 : x13_1 < (l0_7.length : Int) := of_decide_eq_true (by first | (with_reducible assumption) | assumption)
              obtain ⟨ad807, e807, hx807_0, hx807_1, hx807_2, hx807_3, hx807_4, hx807_5, hx807_6, hx807_7⟩ := at_T37 HR0_7.out x13_1 p807 q807
              cases e807
              replace hx807_0 := (HB.out.cell (World.block_lt_of_cell? w _ hx807_0)).trans hx807_0
              replace hx807_1 := (HB.out.cell (World.block_lt_of_cell? w _ hx807_1)).trans hx807_1
              replace hx807_2 := (HB.out.cell (World.block_lt_of_cell? w _ hx807_2)).trans hx807_2
              replace hx807_3 := (HB.out.cell (World.block_lt_of_cell? w _ hx807_3)).trans hx807_3
              replace hx807_4 := (HB.out.cell (World.block_lt_of_cell? w _ hx807_4)).trans hx807_4
              replace hx807_5 := (HB.out.cell (World.block_lt_of_cell? w _ hx807_5)).trans hx807_5
              replace hx807_6 := (HB.out.cell (World.block_lt_of_cell? w _ hx807_6)).trans hx807_6
              replace hx807_7 := (HB.out.cell (World.block_lt_of_cell? w _ hx807_7)).trans hx807_7
              replace p807 := eq_true p807
              replace q807 := eq_true q807
              go_wp2_with (first | ((with_reducible refine gate_dst (N := 6) rfl ?_); refine box_event ?hg (N := 6) ?hd (cs := #[.int .i64 0, .int .i64 0, .int .u8 0, .int .i64 0, .int .i64 0, .int .i64 0, .int .i64 0, .bool false]) (t := 37) ?hr ?_; (case hd => rfl); (case hg => rfl); (case hr => first | (go_simp; done) | (go_simp; rfl)); intro gb808 hg w11 hbox hb; have n0_ := Aside0.mk (Kd.R_below (Kd.R_elderB (by (with_reducible repeat (first | apply Kd.R_alloc | apply Kd.R_drewN | apply Kd.R_drew)); exact HO_806007.out) gb808 (Nat.le_of_eq hg.symm)) hb); have n1_ := Aside0.mk (blk_below (g := gb805) (o := .cells #[.int .u8 x806000_1, .int .i64 x806001_1, .int .i64 x806002_1, .int .i64 x806003_1, .int .i64 x806004_1, .int .i64 x806005_1, .bool x806006_1, u806007, .int .i64 x806008_1, .int .i64 x806009_1, .int .i64 x806010_1, .int .i64 x806011_1, .int .i64 x806012_1] 31 (0, 0)) (by (with_reducible repeat (first | refine blk_drewN ?_ _ | refine blk_drew ?_ | refine blk_alloc ?_ _)); exact BK805.out) hb); have n2_ := Aside0.mk (blk_below (g := gb806) (o := .cells #[.int .u8 x807000_1, .int .i64 x807001_1, .int .i64 x807002_1, .int .i64 x807003_1, .int .i64 x807004_1, .int .i64 x807005_1, .bool x807006_1, .slice none 0 0, .int .i64 x807008_1, .int .i64 x807009_1, .int .i64 x807010_1, .int .i64 x807011_1, .int .i64 x807012_1] 31 (0, 0)) (by (with_reducible repeat (first | refine blk_drewN ?_ _ | refine blk_drew ?_ | refine blk_alloc ?_ _)); exact BK806.out) hb); have n3_ := Aside0.mk (below_step (by repeat (first | (with_reducible first | exact HB.out | apply below_alloc | apply pw_below_drewN | apply below_drew1 | refine below_set ?_ GE805.out | refine below_set ?_ GE806.out) | exact HB.out)) hb); have n4_ := Aside0.mk (hbox); have n5_ := Aside0.mk ((by rw [hg]; exact (below_size (by repeat (first | (with_reducible first | exact HB.out | apply below_alloc | apply pw_below_drewN | apply below_drew1 | refine below_set ?_ GE805.out | refine below_set ?_ GE806.out) | exact HB.out))) : w.heap.size ≤ gb808)); have n6_ := Aside0.mk ((by rw [hg]; exact (below_size (by repeat (first | (with_reducible first | exact HB.out | apply below_alloc | apply pw_below_drewN | apply below_drew1 | refine below_set ?_ GE805.out | refine below_set ?_ GE806.out) | exact HB.out))) : w.heap.size ≤ gb808)); have n7_ := Aside0.mk ((by rw [hg]; exact Nat.ne_of_lt (blk_lt (g := gb805) (o := .cells #[.int .u8 x806000_1, .int .i64 x806001_1, .int .i64 x806002_1, .int .i64 x806003_1, .int .i64 x806004_1, .int .i64 x806005_1, .bool x806006_1, u806007, .int .i64 x806008_1, .int .i64 x806009_1, .int .i64 x806010_1, .int .i64 x806011_1, .int .i64 x806012_1] 31 (0, 0)) (by (with_reducible repeat (first | refine blk_drewN ?_ _ | refine blk_drew ?_ | refine blk_alloc ?_ _)); exact BK805.out)) : gb805 ≠ gb808)); have n8_ := Aside0.mk ((by rw [hg]; exact Nat.ne_of_gt (blk_lt (g := gb805) (o := .cells #[.int .u8 x806000_1, .int .i64 x806001_1, .int .i64 x806002_1, .int .i64 x806003_1, .int .i64 x806004_1, .int .i64 x806005_1, .bool x806006_1, u806007, .int .i64 x806008_1, .int .i64 x806009_1, .int .i64 x806010_1, .int .i64 x806011_1, .int .i64 x806012_1] 31 (0, 0)) (by (with_reducible repeat (first | refine blk_drewN ?_ _ | refine blk_drew ?_ | refine blk_alloc ?_ _)); exact BK805.out)) : gb808 ≠ gb805)); have n9_ := Aside0.mk ((by rw [hg]; exact Nat.ne_of_lt (blk_lt (g := gb806) (o := .cells #[.int .u8 x807000_1, .int .i64 x807001_1, .int .i64 x807002_1, .int .i64 x807003_1, .int .i64 x807004_1, .int .i64 x807005_1, .bool x807006_1, .slice none 0 0, .int .i64 x807008_1, .int .i64 x807009_1, .int .i64 x807010_1, .int .i64 x807011_1, .int .i64 x807012_1] 31 (0, 0)) (by (with_reducible repeat (first | refine blk_drewN ?_ _ | refine blk_drew ?_ | refine blk_alloc ?_ _)); exact BK806.out)) : gb806 ≠ gb808)); have n10_ := Aside0.mk ((by rw [hg]; exact Nat.ne_of_gt (blk_lt (g := gb806) (o := .cells #[.int .u8 x807000_1, .int .i64 x807001_1, .int .i64 x807002_1, .int .i64 x807003_1, .int .i64 x807004_1, .int .i64 x807005_1, .bool x807006_1, .slice none 0 0, .int .i64 x807008_1, .int .i64 x807009_1, .int .i64 x807010_1, .int .i64 x807011_1, .int .i64 x807012_1] 31 (0, 0)) (by (with_reducible repeat (first | refine blk_drewN ?_ _ | refine blk_drew ?_ | refine blk_alloc ?_ _)); exact BK806.out)) : gb808 ≠ gb806)); clear HO_806007; clear BK805; clear BK806; clear HB; have HO_806007 := n0_; have BK805 := n1_; have BK806 := n2_; have HB := n3_; have BK808 := n4_; have GW808 := n5_; have GE808 := n6_; have NB805_808 := n7_; have NB808_805 := n8_; have NB806_808 := n9_; have NB808_806 := n10_; clear n0_ n1_ n2_ n3_ n4_ n5_ n6_ n7_ n8_ n9_ n10_; clear hb hbox hg; have hnb12 := NB808_805.out; have hnc12 := NB805_808.out; have hnb13 := NB808_806.out; have hnc13 := NB806_808.out; obtain ⟨hcz14_0, hcz14_1, hcz14_2, hcz14_3, hcz14_4, hcz14_5, hcz14_6, hcz14_7⟩ := bc8 BK808.out; obtain ⟨hfz14_0, hfz14_1, hfz14_2, hfz14_3, hfz14_4, hfz14_5, hfz14_6, hfz14_7⟩ := bf8 BK808.out) | ((with_reducible refine gate_store (t := 37) (p := 6) rfl ?_); refine store_event (t := 37) (p := 6) (v := ?vo_w15) (w1 := ((((((((w11.setCell ⟨gb808, 0, none⟩ (.int .i64 ((rd_T37 l0_7 x13_1).f0))).setCell ⟨gb808, 1, none⟩ (.int .i64 ((rd_T37 l0_7 x13_1).f1))).setCell ⟨gb808, 2, none⟩ (.int .u8 ((rd_T37 l0_7 x13_1).f2))).setCell ⟨gb808, 3, none⟩ (.int .i64 ((rd_T37 l0_7 x13_1).f3))).setCell ⟨gb808, 4, none⟩ (.int .i64 ((rd_T37 l0_7 x13_1).f4))).setCell ⟨gb808, 5, none⟩ (.int .i64 ((rd_T37 l0_7 x13_1).f5))).setCell ⟨gb808, 6, none⟩ (.int .i64 ((rd_T37 l0_7 x13_1).f6))).setCell ⟨gb808, 7, none⟩ (.bool ((rd_T37 l0_7 x13_1).f7)))) ?hg ?ho ?hn ?hr ?_; (case ho => rfl); (case hg => rfl); (case hn => rfl); (case hr => first | (go_simp; done) | (go_simp; rfl)); intro w15 hw; have n0_ : Aside0 (Kd.R k37 37 w15 w.heap.size (fun k_ => k_ ≠ gb808) u806007 x806007_1) := ⟨(by rw [hw]; exact (by (with_reducible repeat (first | apply Kd.R_alloc | apply Kd.R_drewN | apply Kd.R_drew)); exact Kd.R_mono (Kd.R_step (Kd.R_mono HO_806007.out (fun k_ hk => (⟨hk, hk.2⟩ : _ ∧ k_ ≠ gb808))) (fun _ hk _ => by (with_reducible repeat (first | refine (hst (g := gb808) hk.2 _ _).trans ?_ | refine (hdn _ _ _).trans ?_ | refine (hd1 _ _).trans ?_)); rfl)) (fun _ hk => hk.1.2)))⟩; have n1_ : Aside0 (w15.heap[gb805]? = some (.cells #[.int .u8 x806000_1, .int .i64 x806001_1, .int .i64 x806002_1, .int .i64 x806003_1, .int .i64 x806004_1, .int .i64 x806005_1, .bool x806006_1, u806007, .int .i64 x806008_1, .int .i64 x806009_1, .int .i64 x806010_1, .int .i64 x806011_1, .int .i64 x806012_1] 31 (0, 0))) := ⟨(by rw [hw]; exact (by (with_reducible repeat (first | refine blk_drewN ?_ _ | refine blk_drew ?_ | refine blk_alloc ?_ _ | refine blk_far ?_ NB805_808.out _)); exact BK805.out))⟩; have n2_ : Aside0 (w15.heap[gb806]? = some (.cells #[.int .u8 x807000_1, .int .i64 x807001_1, .int .i64 x807002_1, .int .i64 x807003_1, .int .i64 x807004_1, .int .i64 x807005_1, .bool x807006_1, .slice none 0 0, .int .i64 x807008_1, .int .i64 x807009_1, .int .i64 x807010_1, .int .i64 x807011_1, .int .i64 x807012_1] 31 (0, 0))) := ⟨(by rw [hw]; exact (by (with_reducible repeat (first | refine blk_drewN ?_ _ | refine blk_drew ?_ | refine blk_alloc ?_ _ | refine blk_far ?_ NB806_808.out _)); exact BK806.out))⟩; have n3_ : Aside0 (w15.heap[gb808]? = some (.cells #[.int .i64 ((rd_T37 l0_7 x13_1).f0), .int .i64 ((rd_T37 l0_7 x13_1).f1), .int .u8 ((rd_T37 l0_7 x13_1).f2), .int .i64 ((rd_T37 l0_7 x13_1).f3), .int .i64 ((rd_T37 l0_7 x13_1).f4), .int .i64 ((rd_T37 l0_7 x13_1).f5), .int .i64 ((rd_T37 l0_7 x13_1).f6), .bool ((rd_T37 l0_7 x13_1).f7)] 37 (0, 0))) := ⟨(by rw [hw]; exact (by (with_reducible repeat (first | refine blk_drewN ?_ _ | refine blk_drew ?_ | refine blk_alloc ?_ _)); refine bp8 (.int .i64 0) (.int .i64 0) (.int .u8 0) (.int .i64 0) (.int .i64 0) (.int .i64 0) (.int .i64 0) (.bool false) ?_; (with_reducible repeat (first | refine blk_drewN ?_ _ | refine blk_drew ?_ | refine blk_alloc ?_ _)); exact BK808.out))⟩; have n4_ : Aside0 (Below w.heap.size w w15) := ⟨(by rw [hw]; exact (by repeat (first | (with_reducible first | exact HB.out | apply below_alloc | apply pw_below_drewN | apply below_drew1 | refine below_set ?_ GE805.out | refine below_set ?_ GE806.out | refine below_set ?_ GE808.out) | exact HB.out)))⟩; clear hw; clear HO_806007; clear BK805; clear BK806; clear BK808; clear HB; have HO_806007 := n0_; have BK805 := n1_; have BK806 := n2_; have BK808 := n3_; have HB := n4_; clear n0_ n1_ n2_ n3_ n4_; have hnb16 := NB805_806.out; have hnc16 := NB806_805.out; obtain ⟨hcz17_0, hcz17_1, hcz17_2, hcz17_3, hcz17_4, hcz17_5, hcz17_6, hcz17_7, hcz17_8, hcz17_9, hcz17_10, hcz17_11, hcz17_12⟩ := bc13 BK805.out; obtain ⟨hfz17_0, hfz17_1, hfz17_2, hfz17_3, hfz17_4, hfz17_5, hfz17_6, hfz17_7, hfz17_8, hfz17_9, hfz17_10, hfz17_11, hfz17_12⟩ := bf13 BK805.out; obtain ⟨hcz18_0, hcz18_1, hcz18_2, hcz18_3, hcz18_4, hcz18_5, hcz18_6, hcz18_7⟩ := bc8 BK808.out; obtain ⟨hfz18_0, hfz18_1, hfz18_2, hfz18_3, hfz18_4, hfz18_5, hfz18_6, hfz18_7⟩ := bf8 BK808.out; obtain ⟨Ao19, co19, eo19⟩ := Kd.R_slice HO_806007.out; subst eo19) | ((with_reducible refine gate_callee (f := 37) rfl ?_); refine goesL_ (some 20) rfl rfl Try.func37 (by kernel_rfl) rfl #[.agg #[.int .u8 x806000_1, .int .i64 x806001_1, .int .i64 x806002_1, .int .i64 x806003_1, .int .i64 x806004_1, .int .i64 x806005_1, .bool x806006_1, .slice Ao19 x806007_1.length co19, .int .i64 x806008_1, .int .i64 x806009_1, .int .i64 x806010_1, .int .i64 x806011_1, .int .i64 x806012_1], .agg #[.int .i64 ((rd_T37 l0_7 x13_1).f0), .int .i64 ((rd_T37 l0_7 x13_1).f1), .int .u8 ((rd_T37 l0_7 x13_1).f2), .int .i64 ((rd_T37 l0_7 x13_1).f3), .int .i64 ((rd_T37 l0_7 x13_1).f4), .int .i64 ((rd_T37 l0_7 x13_1).f5), .int .i64 ((rd_T37 l0_7 x13_1).f6), .bool ((rd_T37 l0_7 x13_1).f7)]] rfl (by (try simp only [List.map_toArray, List.map_cons, List.map_nil]); first | done | rfl | (simp only [List.length_drop, List.length_take]; rfl)) ?_; (with_reducible refine (account_close.calls x806000_1 x806001_1 x806002_1 x806003_1 x806004_1 x806005_1 x806006_1 (fun k_ => some k_ = (.slice Ao19 x806007_1.length co19 : Value).ownBlock) (.slice Ao19 x806007_1.length co19) x806007_1 x806008_1 x806009_1 x806010_1 x806011_1 x806012_1 ((rd_T37 l0_7 x13_1).f0) ((rd_T37 l0_7 x13_1).f1) ((rd_T37 l0_7 x13_1).f2) ((rd_T37 l0_7 x13_1).f3) ((rd_T37 l0_7 x13_1).f4) ((rd_T37 l0_7 x13_1).f5) ((rd_T37 l0_7 x13_1).f6) ((rd_T37 l0_7 x13_1).f7) t809 t810 t811 t812 t813 t814 t815 t816 t819 t820 t821 t822 t823 t824 w _ ?side1 ?side2 A9.out).mono ?_); (case side1 => repeat (first | (with_reducible first | exact HB.out | apply below_alloc | apply pw_below_drewN | apply below_drew1 | refine below_set ?_ GE805.out | refine below_set ?_ GE806.out | refine below_set ?_ GE808.out) | exact HB.out)); (case side2 => exact Kd.R_tight rfl HO_806007.out); rintro e w20 ⟨v817, rfl, ho0, hb, hkp⟩; refine ⟨_, rfl, ?_⟩; have n0_ := Aside0.mk (blk_kept (by (with_reducible repeat (first | refine blk_drewN ?_ _ | refine blk_drew ?_ | refine blk_alloc ?_ _)); exact BK805.out) hkp (fun hs_ => (fun e_ => (Kd.R_ne HO_806007.out BK805.out (by decide)) e_) hs_)); have n1_ := Aside0.mk (blk_kept (by (with_reducible repeat (first | refine blk_drewN ?_ _ | refine blk_drew ?_ | refine blk_alloc ?_ _)); exact BK806.out) hkp (fun hs_ => (fun e_ => (Kd.R_ne HO_806007.out BK806.out (by decide)) e_) hs_)); have n2_ := Aside0.mk (blk_kept (by (with_reducible repeat (first | refine blk_drewN ?_ _ | refine blk_drew ?_ | refine blk_alloc ?_ _)); exact BK808.out) hkp (fun hs_ => (fun e_ => (Kd.R_away HO_806007.out (fun _ hk => hk)) e_) hs_)); have n3_ := Aside0.mk (Kd.R_mono (ok' := fun k_ => k_ ≠ gb808) ho0 (fun k_ hk_ => Or.elim hk_ (fun hs_ => fun e_ => (Kd.R_away HO_806007.out (fun _ hk => hk)) (by rw [← e_]; exact hs_)) (fun hn_ => (Kd.freshB (g := gb808) (o := .cells #[.int .i64 ((rd_T37 l0_7 x13_1).f0), .int .i64 ((rd_T37 l0_7 x13_1).f1), .int .u8 ((rd_T37 l0_7 x13_1).f2), .int .i64 ((rd_T37 l0_7 x13_1).f3), .int .i64 ((rd_T37 l0_7 x13_1).f4), .int .i64 ((rd_T37 l0_7 x13_1).f5), .int .i64 ((rd_T37 l0_7 x13_1).f6), .bool ((rd_T37 l0_7 x13_1).f7)] 37 (0, 0)) (by (with_reducible repeat (first | refine blk_drewN ?_ _ | refine blk_drew ?_ | refine blk_alloc ?_ _)); exact BK808.out) k_ hn_)))); have n4_ := Aside0.mk (hb); clear BK805; clear BK806; clear BK808; clear HB; clear HO_806007; have BK805 := n0_; have BK806 := n1_; have BK808 := n2_; have HO818 := n3_; have HB := n4_; clear n0_ n1_ n2_ n3_ n4_; (try clear hb); (try clear hkp); (try clear ho0); obtain ⟨hcz21_0, hcz21_1, hcz21_2, hcz21_3, hcz21_4, hcz21_5, hcz21_6, hcz21_7, hcz21_8, hcz21_9, hcz21_10, hcz21_11, hcz21_12⟩ := bc13 BK805.out; obtain ⟨hfz21_0, hfz21_1, hfz21_2, hfz21_3, hfz21_4, hfz21_5, hfz21_6, hfz21_7, hfz21_8, hfz21_9, hfz21_10, hfz21_11, hfz21_12⟩ := bf13 BK805.out; obtain ⟨Ao22, co22, eo22⟩ := Kd.R_slice HO818.out; subst eo22))
              go_roundg k1
              case measure => have := HK1.out; omega
              case rel => exact ⟨(wrap64 (x13_1 + 1)), (t809), (t810), (t811), (t812), (t813), (t814), (t815), (t816), (t819), (t820), (t821), (t822), (t823), (x807000_1), (x807001_1), (x807002_1), (x807003_1), (x807004_1), (x807005_1), (x807006_1), (x807008_1), (x807009_1), (x807010_1), (x807011_1), (x807012_1), (.slice Ao22 t816.length co22), (by first | rfl | (simp; done) | (simp [*]; done)), H', ⟨by have := HK1.out; omega⟩, ⟨by (with_reducible repeat (first | apply Kd.R_alloc | apply Kd.R_drewN | apply Kd.R_drew)); exact Kd.R_mono (Kd.R_step (Kd.R_types HO818.out BK805.out (by decide)) (fun _ hk _ => by (with_reducible repeat (first | refine (hst (g := gb805) hk.2 _ _).trans ?_ | refine (hdn _ _ _).trans ?_ | refine (hd1 _ _).trans ?_)); rfl)) (fun _ hk => trivial)⟩, ⟨by (with_reducible repeat (first | refine blk_drewN ?_ _ | refine blk_drew ?_ | refine blk_alloc ?_ _)); refine bp13 (.int .u8 x806000_1) (.int .i64 x806001_1) (.int .i64 x806002_1) (.int .i64 x806003_1) (.int .i64 x806004_1) (.int .i64 x806005_1) (.bool x806006_1) (.slice Ao19 x806007_1.length co19) (.int .i64 x806008_1) (.int .i64 x806009_1) (.int .i64 x806010_1) (.int .i64 x806011_1) (.int .i64 x806012_1) ?_; (with_reducible repeat (first | refine blk_drewN ?_ _ | refine blk_drew ?_ | refine blk_alloc ?_ _)); exact BK805.out⟩, ⟨by (with_reducible repeat (first | refine blk_drewN ?_ _ | refine blk_drew ?_ | refine blk_alloc ?_ _ | refine blk_far ?_ NB806_805.out _)); exact BK806.out⟩, ⟨by repeat (first | (with_reducible first | exact HB.out | apply below_alloc | apply pw_below_drewN | apply below_drew1 | refine below_set ?_ GE805.out | refine below_set ?_ GE806.out | refine below_set ?_ GE808.out) | exact HB.out)⟩⟩
            · rw [if_neg c10] at H
              exact absurd H (by simp)
          · rw [if_neg c8] at H
            exact absurd H (by simp)
        · rw [if_neg c7] at H
          exact absurd H (by simp)
      · rw [if_neg c6] at H
        have c6b0 : decide (x13_1 < (l0_7.length : Int)) = false := decide_eq_false c6
        clear c6
        simp only [Option.some.injEq, Prod.mk.injEq] at H
        obtain ⟨rfl, rfl, rfl, rfl, rfl, rfl, rfl, rfl, rfl, rfl, rfl, rfl, rfl, rfl⟩ := H
        have hnb23 := NB805_806.out
        have hnc23 := NB806_805.out
        obtain ⟨hcz24_0, hcz24_1, hcz24_2, hcz24_3, hcz24_4, hcz24_5, hcz24_6, hcz24_7, hcz24_8, hcz24_9, hcz24_10, hcz24_11, hcz24_12⟩ := bc13 BK805.out
        obtain ⟨hfz24_0, hfz24_1, hfz24_2, hfz24_3, hfz24_4, hfz24_5, hfz24_6, hfz24_7, hfz24_8, hfz24_9, hfz24_10, hfz24_11, hfz24_12⟩ := bf13 BK805.out
        obtain ⟨hcz25_0, hcz25_1, hcz25_2, hcz25_3, hcz25_4, hcz25_5, hcz25_6, hcz25_7, hcz25_8, hcz25_9, hcz25_10, hcz25_11, hcz25_12⟩ := bc13 BK806.out
        obtain ⟨hfz25_0, hfz25_1, hfz25_2, hfz25_3, hfz25_4, hfz25_5, hfz25_6, hfz25_7, hfz25_8, hfz25_9, hfz25_10, hfz25_11, hfz25_12⟩ := bf13 BK806.out
        obtain ⟨Ao26, co26, eo26⟩ := Kd.R_slice HO_806007.out
        subst eo26
        go_wp2
        refine bodyPost_ret (results_ct rfl _ _ gb806 31 #[.int .u8 x806000_1, .int .i64 x806001_1, .int .i64 x806002_1, .int .i64 x806003_1, .int .i64 x806004_1, .int .i64 x806005_1, .bool x806006_1, .slice Ao26 x806007_1.length co26, .int .i64 x806008_1, .int .i64 x806009_1, .int .i64 x806010_1, .int .i64 x806011_1, .int .i64 x806012_1] (0, 0) _ rfl (by (with_reducible repeat (first | refine blk_drewN ?_ _ | refine blk_drew ?_ | refine blk_alloc ?_ _)); refine bp13 (.int .u8 x807000_1) (.int .i64 x807001_1) (.int .i64 x807002_1) (.int .i64 x807003_1) (.int .i64 x807004_1) (.int .i64 x807005_1) (.bool x807006_1) (.slice none 0 0) (.int .i64 x807008_1) (.int .i64 x807009_1) (.int .i64 x807010_1) (.int .i64 x807011_1) (.int .i64 x807012_1) ?_; (with_reducible repeat (first | refine blk_drewN ?_ _ | refine blk_drew ?_ | refine blk_alloc ?_ _)); exact BK806.out) Try.underlying31 rfl (by kernel_rfl)) rfl ?_
        exact ⟨_, by first | rfl | (simp [errW_none, errW_some] <;> rfl) | (simp [*, errW_none, errW_some] <;> rfl), by (with_reducible repeat (first | apply Kd.R_alloc | apply Kd.R_drewN | apply Kd.R_drew)); exact Kd.R_mono (Kd.R_step (Kd.R_types HO_806007.out BK806.out (by decide)) (fun _ hk _ => by (with_reducible repeat (first | refine (hst (g := gb806) hk.2 _ _).trans ?_ | refine (hdn _ _ _).trans ?_ | refine (hd1 _ _).trans ?_)); rfl)) (fun _ hk => trivial), by repeat (first | (with_reducible first | exact HB.out | apply below_alloc | apply pw_below_drewN | apply below_drew1 | refine below_set ?_ GE805.out | refine below_set ?_ GE806.out) | exact HB.out)⟩

/-! ### account_Cancel: function 18 -/
mutual
def account_Cancel.j0 : Nat → Bool → Int → Int → Int → Int → Int → Int → Bool → List (S37) → Int → Int → Int → Int → Int → Option (Int × Int × Int × Int × Int × Int × Bool × (List (S37)) × Int × Int × Int × Int × Int × Int)
  | 0, _, _, _, _, _, _, _, _, _, _, _, _, _, _ => none
  | k + 1, x12, x826000, x826001, x826002, x826003, x826004, x826005, x826006, x826007, x826008, x826009, x826010, x826011, x826012 => if x12 = true then (some (0, 0, 0, 0, 0, 0, false, ([] : List (S37)), 0, 0, 0, 0, 0, 8)) else ((account_Copy.f x826000 x826001 x826002 x826003 x826004 x826005 x826006 x826007 x826008 x826009 x826010 x826011 x826012).bind fun bt827 => (account_Cancel.l0 k (bt827.2.2.2.2.2.2.2.1.length : Int) 0 3 bt827.2.1 bt827.2.2.1 bt827.2.2.2.1 bt827.2.2.2.2.1 bt827.2.2.2.2.2.1 bt827.2.2.2.2.2.2.1 bt827.2.2.2.2.2.2.2.1 bt827.2.2.2.2.2.2.2.2.1 bt827.2.2.2.2.2.2.2.2.2.1 bt827.2.2.2.2.2.2.2.2.2.2.1 bt827.2.2.2.2.2.2.2.2.2.2.2.1 bt827.2.2.2.2.2.2.2.2.2.2.2.2))
def account_Cancel.l0 : Nat → Int → Int → Int → Int → Int → Int → Int → Int → Bool → List (S37) → Int → Int → Int → Int → Int → Option (Int × Int × Int × Int × Int × Int × Bool × (List (S37)) × Int × Int × Int × Int × Int × Int)
  | 0, _, _, _, _, _, _, _, _, _, _, _, _, _, _, _ => none
  | k + 1, x19, x20, x826000, x826001, x826002, x826003, x826004, x826005, x826006, x826007, x826008, x826009, x826010, x826011, x826012 => if x20 < x19 then (if 0 ≤ x20 then (if x20 < (x826007.length : Int) then ((cycle_Over.f ((rd_T37 x826007 x20).f0) ((rd_T37 x826007 x20).f1) ((rd_T37 x826007 x20).f2) ((rd_T37 x826007 x20).f3) ((rd_T37 x826007 x20).f4) ((rd_T37 x826007 x20).f5) ((rd_T37 x826007 x20).f6) ((rd_T37 x826007 x20).f7)).bind fun bt843 => (account_Cancel.l0 k x19 (wrap64 (x20 + 1)) x826000 x826001 x826002 x826003 x826004 x826005 x826006 (x826007.set (x20 : Int).toNat (⟨bt843.1, bt843.2.1, bt843.2.2.1, bt843.2.2.2.1, bt843.2.2.2.2.1, bt843.2.2.2.2.2.1, bt843.2.2.2.2.2.2.1, bt843.2.2.2.2.2.2.2⟩ : S37)) x826008 x826009 x826010 x826011 x826012)) else (none)) else (none)) else ((account_settle.f k x826000 x826001 x826002 x826003 x826004 x826005 x826006 x826007 x826008 x826009 x826010 x826011 x826012).bind fun bt852 => (some (bt852.1, bt852.2.1, bt852.2.2.1, bt852.2.2.2.1, bt852.2.2.2.2.1, bt852.2.2.2.2.2.1, bt852.2.2.2.2.2.2.1, bt852.2.2.2.2.2.2.2.1, bt852.2.2.2.2.2.2.2.2.1, bt852.2.2.2.2.2.2.2.2.2.1, bt852.2.2.2.2.2.2.2.2.2.2.1, bt852.2.2.2.2.2.2.2.2.2.2.2.1, bt852.2.2.2.2.2.2.2.2.2.2.2.2.1, bt852.2.2.2.2.2.2.2.2.2.2.2.2.2)))
end
def account_Cancel.f (k : Nat) (a0_0 : Int) (a0_1 : Int) (a0_2 : Int) (a0_3 : Int) (a0_4 : Int) (a0_5 : Int) (a0_6 : Bool) (l0_7 : List (S37)) (a0_8 : Int) (a0_9 : Int) (a0_10 : Int) (a0_11 : Int) (a0_12 : Int) : Option (Int × Int × Int × Int × Int × Int × Bool × (List (S37)) × Int × Int × Int × Int × Int × Int) := if a0_0 = 1 then (account_Cancel.j0 k false a0_0 a0_1 a0_2 a0_3 a0_4 a0_5 a0_6 l0_7 a0_8 a0_9 a0_10 a0_11 a0_12) else (account_Cancel.j0 k (a0_0 != 2) a0_0 a0_1 a0_2 a0_3 a0_4 a0_5 a0_6 l0_7 a0_8 a0_9 a0_10 a0_11 a0_12)
theorem account_Cancel.mono_l : ∀ k, (∀ y0 y1 y2 y3 y4 y5 y6 y7 y8 y9 y10 y11 y12 y13, LeO (account_Cancel.j0 k y0 y1 y2 y3 y4 y5 y6 y7 y8 y9 y10 y11 y12 y13) (account_Cancel.j0 (k + 1) y0 y1 y2 y3 y4 y5 y6 y7 y8 y9 y10 y11 y12 y13)) ∧ (∀ y0 y1 y2 y3 y4 y5 y6 y7 y8 y9 y10 y11 y12 y13 y14, LeO (account_Cancel.l0 k y0 y1 y2 y3 y4 y5 y6 y7 y8 y9 y10 y11 y12 y13 y14) (account_Cancel.l0 (k + 1) y0 y1 y2 y3 y4 y5 y6 y7 y8 y9 y10 y11 y12 y13 y14))
  | 0 => ⟨fun _ _ _ _ _ _ _ _ _ _ _ _ _ _ r h => by simp [account_Cancel.j0] at h, fun _ _ _ _ _ _ _ _ _ _ _ _ _ _ _ r h => by simp [account_Cancel.l0] at h⟩
  | k + 1 => by
    obtain ⟨ih0, ih1⟩ := account_Cancel.mono_l k
    refine ⟨?_, ?_⟩
    · intro y0 y1 y2 y3 y4 y5 y6 y7 y8 y9 y10 y11 y12 y13
      unfold account_Cancel.j0
      repeat' first
      | (with_reducible exact ih0 _ _ _ _ _ _ _ _ _ _ _ _ _ _)
      | (with_reducible exact ih1 _ _ _ _ _ _ _ _ _ _ _ _ _ _ _)
      | (with_reducible exact account_settle.mono _ _ _ _ _ _ _ _ _ _ _ _ _ _)
      | (with_reducible exact LeO.refl _)
      | (with_reducible exact LeO.none _)
      | (with_reducible refine LeO.ite ?_ ?_)
      | (with_reducible refine LeO.bind ?_ (fun _ => ?_))
      | exact ih0 _ _ _ _ _ _ _ _ _ _ _ _ _ _
      | exact ih1 _ _ _ _ _ _ _ _ _ _ _ _ _ _ _
      | exact account_settle.mono _ _ _ _ _ _ _ _ _ _ _ _ _ _
      | exact LeO.none _
      | refine LeO.ite ?_ ?_
      | refine LeO.bind ?_ (fun _ => ?_)
    · intro y0 y1 y2 y3 y4 y5 y6 y7 y8 y9 y10 y11 y12 y13 y14
      unfold account_Cancel.l0
      repeat' first
      | (with_reducible exact ih0 _ _ _ _ _ _ _ _ _ _ _ _ _ _)
      | (with_reducible exact ih1 _ _ _ _ _ _ _ _ _ _ _ _ _ _ _)
      | (with_reducible exact account_settle.mono _ _ _ _ _ _ _ _ _ _ _ _ _ _)
      | (with_reducible exact LeO.refl _)
      | (with_reducible exact LeO.none _)
      | (with_reducible refine LeO.ite ?_ ?_)
      | (with_reducible refine LeO.bind ?_ (fun _ => ?_))
      | exact ih0 _ _ _ _ _ _ _ _ _ _ _ _ _ _
      | exact ih1 _ _ _ _ _ _ _ _ _ _ _ _ _ _ _
      | exact account_settle.mono _ _ _ _ _ _ _ _ _ _ _ _ _ _
      | exact LeO.none _
      | refine LeO.ite ?_ ?_
      | refine LeO.bind ?_ (fun _ => ?_)
theorem account_Cancel.mono : ∀ a0 a1 a2 a3 a4 a5 a6 a7 a8 a9 a10 a11 a12 k, LeO (account_Cancel.f k a0 a1 a2 a3 a4 a5 a6 a7 a8 a9 a10 a11 a12) (account_Cancel.f (k + 1) a0 a1 a2 a3 a4 a5 a6 a7 a8 a9 a10 a11 a12) := by
  intro a0 a1 a2 a3 a4 a5 a6 a7 a8 a9 a10 a11 a12 k
  obtain ⟨ih0, ih1⟩ := account_Cancel.mono_l k
  unfold account_Cancel.f
  repeat' first
      | (with_reducible exact ih0 _ _ _ _ _ _ _ _ _ _ _ _ _ _)
      | (with_reducible exact ih1 _ _ _ _ _ _ _ _ _ _ _ _ _ _ _)
      | (with_reducible exact account_settle.mono _ _ _ _ _ _ _ _ _ _ _ _ _ _)
      | (with_reducible exact LeO.refl _)
      | (with_reducible exact LeO.none _)
      | (with_reducible refine LeO.ite ?_ ?_)
      | (with_reducible refine LeO.bind ?_ (fun _ => ?_))
      | exact ih0 _ _ _ _ _ _ _ _ _ _ _ _ _ _
      | exact ih1 _ _ _ _ _ _ _ _ _ _ _ _ _ _ _
      | exact account_settle.mono _ _ _ _ _ _ _ _ _ _ _ _ _ _
      | exact LeO.none _
      | refine LeO.ite ?_ ?_
      | refine LeO.bind ?_ (fun _ => ?_)
def account_Cancel.T8 : Bool × List (List Nat × List Nat) := (true, [([], []), ([0], [0]), ([], []), ([], []), ([3], [3]), ([], []), ([4, 5], [4, 5]), ([6], [6]), ([7], [7]), ([1, 2, 0, 1, 2, 3, 4, 5, 6, 7, 8], [1, 2]), ([9, 8, 8, 0, 1, 2, 3, 4, 5, 6, 7, 8], [8, 9])])
def account_Cancel.B8 : List Nat := [0, 1, 0, 0, 8, 0, 56, 120, 248, 511, 1023]
theorem account_Cancel.tab8 : rtab .any (opsOf Try.f18 8) = account_Cancel.T8 := by kernel_rfl
theorem account_Cancel.bits8 : waitsOk account_Cancel.T8.2 account_Cancel.B8 = true := by kernel_rfl
set_option maxHeartbeats 3000000 in
set_option maxRecDepth 100000 in
theorem account_Cancel.calls (k : Nat) (a0_0 : Int) (a0_1 : Int) (a0_2 : Int) (a0_3 : Int) (a0_4 : Int) (a0_5 : Int) (a0_6 : Bool) (A0_7 : Option Addr) (c0_7 : Nat) (l0_7 : List (S37)) (a0_8 : Int) (a0_9 : Int) (a0_10 : Int) (a0_11 : Int) (a0_12 : Int) (r1 : Int) (r2 : Int) (r3 : Int) (r4 : Int) (r5 : Int) (r6 : Int) (r7 : Bool) (r8 : List (S37)) (r9 : Int) (r10 : Int) (r11 : Int) (r12 : Int) (r13 : Int) (r14 : Int) (w : World) (hr0_7 : Kd.C k37 w A0_7 l0_7.length l0_7) (hc0_7 : l0_7.length ≤ c0_7) (h : account_Cancel.f k a0_0 a0_1 a0_2 a0_3 a0_4 a0_5 a0_6 l0_7 a0_8 a0_9 a0_10 a0_11 a0_12 = some (r1, r2, r3, r4, r5, r6, r7, r8, r9, r10, r11, r12, r13, r14)) :
    Calls Try.prog 18 #[.agg #[.int .u8 a0_0, .int .i64 a0_1, .int .i64 a0_2, .int .i64 a0_3, .int .i64 a0_4, .int .i64 a0_5, .bool a0_6, .slice A0_7 l0_7.length c0_7, .int .i64 a0_8, .int .i64 a0_9, .int .i64 a0_10, .int .i64 a0_11, .int .i64 a0_12]] w fun e w' => ∃ v7_ : Value, e = .returned (.tuple #[.agg #[.int .u8 r1, .int .i64 r2, .int .i64 r3, .int .i64 r4, .int .i64 r5, .int .i64 r6, .bool r7, v7_, .int .i64 r9, .int .i64 r10, .int .i64 r11, .int .i64 r12, .int .i64 r13], .int .i64 r14]) ∧ Kd.R k37 37 w' w.heap.size (fun _ => True) v7_ r8 ∧ Below w.heap.size w w' := by
  have hu31 := Try.underlying31
  have hu37 := Try.underlying37
  have HR0_7 := Aside0.mk hr0_7
  have HC0_7 := Aside0.mk hc0_7
  clear hr0_7 hc0_7
  have HB := Aside0.mk (Below.refl w.heap.size w)
  have H : (if a0_0 = 1 then (account_Cancel.j0 k false a0_0 a0_1 a0_2 a0_3 a0_4 a0_5 a0_6 l0_7 a0_8 a0_9 a0_10 a0_11 a0_12) else (account_Cancel.j0 k (a0_0 != 2) a0_0 a0_1 a0_2 a0_3 a0_4 a0_5 a0_6 l0_7 a0_8 a0_9 a0_10 a0_11 a0_12)) = some (r1, r2, r3, r4, r5, r6, r7, r8, r9, r10, r11, r12, r13, r14) := h
  clear h
  have HC2 := Aside0.mk H
  clear H
  go_enter Try.func18, Try.ntmps18
  go_upto_region 1 with (first | ((with_reducible refine gate_dst (N := 1) rfl ?_); refine box_event ?hg (N := 1) ?hd (cs := #[.int .u8 a0_0, .int .i64 a0_1, .int .i64 a0_2, .int .i64 a0_3, .int .i64 a0_4, .int .i64 a0_5, .bool a0_6, .slice A0_7 l0_7.length c0_7, .int .i64 a0_8, .int .i64 a0_9, .int .i64 a0_10, .int .i64 a0_11, .int .i64 a0_12]) (t := 31) ?hr ?_; (case hd => rfl); (case hg => rfl); (case hr => first | (go_simp; done) | (go_simp; rfl)); intro gb825 hg w3 hbox hb; have n0_ := Aside0.mk (below_step (by repeat (first | (with_reducible first | exact HB.out | apply below_alloc | apply pw_below_drewN | apply below_drew1) | exact HB.out)) hb); have n1_ := Aside0.mk (hbox); have n2_ := Aside0.mk ((by rw [hg]; exact (below_size (by repeat (first | (with_reducible first | exact HB.out | apply below_alloc | apply pw_below_drewN | apply below_drew1) | exact HB.out))) : w.heap.size ≤ gb825)); have n3_ := Aside0.mk ((by rw [hg]; exact (below_size (by repeat (first | (with_reducible first | exact HB.out | apply below_alloc | apply pw_below_drewN | apply below_drew1) | exact HB.out))) : w.heap.size ≤ gb825)); clear HB; have HB := n0_; have BK825 := n1_; have GW825 := n2_; have GE825 := n3_; clear n0_ n1_ n2_ n3_; clear hb hbox hg) | ((with_reducible refine gate_dst (N := 2) rfl ?_); refine box_event ?hg (N := 2) ?hd (cs := #[.int .u8 0, .int .i64 0, .int .i64 0, .int .i64 0, .int .i64 0, .int .i64 0, .bool false, .slice none 0 0, .int .i64 0, .int .i64 0, .int .i64 0, .int .i64 0, .int .i64 0]) (t := 31) ?hr ?_; (case hd => rfl); (case hg => rfl); (case hr => first | (go_simp; done) | (go_simp; rfl)); intro gb826 hg w4 hbox hb; have n0_ := Aside0.mk (blk_below (g := gb825) (o := .cells #[.int .u8 a0_0, .int .i64 a0_1, .int .i64 a0_2, .int .i64 a0_3, .int .i64 a0_4, .int .i64 a0_5, .bool a0_6, .slice A0_7 l0_7.length c0_7, .int .i64 a0_8, .int .i64 a0_9, .int .i64 a0_10, .int .i64 a0_11, .int .i64 a0_12] 31 (0, 0)) (by (with_reducible repeat (first | refine blk_drewN ?_ _ | refine blk_drew ?_ | refine blk_alloc ?_ _)); exact BK825.out) hb); have n1_ := Aside0.mk (below_step (by repeat (first | (with_reducible first | exact HB.out | apply below_alloc | apply pw_below_drewN | apply below_drew1 | refine below_set ?_ GE825.out) | exact HB.out)) hb); have n2_ := Aside0.mk (hbox); have n3_ := Aside0.mk ((by rw [hg]; exact (below_size (by repeat (first | (with_reducible first | exact HB.out | apply below_alloc | apply pw_below_drewN | apply below_drew1 | refine below_set ?_ GE825.out) | exact HB.out))) : w.heap.size ≤ gb826)); have n4_ := Aside0.mk ((by rw [hg]; exact (below_size (by repeat (first | (with_reducible first | exact HB.out | apply below_alloc | apply pw_below_drewN | apply below_drew1 | refine below_set ?_ GE825.out) | exact HB.out))) : w.heap.size ≤ gb826)); have n5_ := Aside0.mk ((by rw [hg]; exact Nat.ne_of_lt (blk_lt (g := gb825) (o := .cells #[.int .u8 a0_0, .int .i64 a0_1, .int .i64 a0_2, .int .i64 a0_3, .int .i64 a0_4, .int .i64 a0_5, .bool a0_6, .slice A0_7 l0_7.length c0_7, .int .i64 a0_8, .int .i64 a0_9, .int .i64 a0_10, .int .i64 a0_11, .int .i64 a0_12] 31 (0, 0)) (by (with_reducible repeat (first | refine blk_drewN ?_ _ | refine blk_drew ?_ | refine blk_alloc ?_ _)); exact BK825.out)) : gb825 ≠ gb826)); have n6_ := Aside0.mk ((by rw [hg]; exact Nat.ne_of_gt (blk_lt (g := gb825) (o := .cells #[.int .u8 a0_0, .int .i64 a0_1, .int .i64 a0_2, .int .i64 a0_3, .int .i64 a0_4, .int .i64 a0_5, .bool a0_6, .slice A0_7 l0_7.length c0_7, .int .i64 a0_8, .int .i64 a0_9, .int .i64 a0_10, .int .i64 a0_11, .int .i64 a0_12] 31 (0, 0)) (by (with_reducible repeat (first | refine blk_drewN ?_ _ | refine blk_drew ?_ | refine blk_alloc ?_ _)); exact BK825.out)) : gb826 ≠ gb825)); clear BK825; clear HB; have BK825 := n0_; have HB := n1_; have BK826 := n2_; have GW826 := n3_; have GE826 := n4_; have NB825_826 := n5_; have NB826_825 := n6_; clear n0_ n1_ n2_ n3_ n4_ n5_ n6_; clear hb hbox hg))
  (try simp only [Act.put, List.setIfInBounds_toArray, List.set_cons_zero, List.set_cons_succ])
  go_cut [12] (fun v12 wc => ∃ (kq : Nat) (x12_1 : Bool), v12 = .bool x12_1 ∧ Aside0 (account_Cancel.j0 kq x12_1 a0_0 a0_1 a0_2 a0_3 a0_4 a0_5 a0_6 l0_7 a0_8 a0_9 a0_10 a0_11 a0_12 = some (r1, r2, r3, r4, r5, r6, r7, r8, r9, r10, r11, r12, r13, r14)) ∧ Aside0 (kq ≤ k) ∧ Aside0 (wc.heap[gb825]? = some (.cells #[.int .u8 a0_0, .int .i64 a0_1, .int .i64 a0_2, .int .i64 a0_3, .int .i64 a0_4, .int .i64 a0_5, .bool a0_6, (.slice A0_7 l0_7.length c0_7), .int .i64 a0_8, .int .i64 a0_9, .int .i64 a0_10, .int .i64 a0_11, .int .i64 a0_12] 31 (0, 0))) ∧ Aside0 (wc.heap[gb826]? = some (.cells #[.int .u8 0, .int .i64 0, .int .i64 0, .int .i64 0, .int .i64 0, .int .i64 0, .bool false, (.slice none 0 0), .int .i64 0, .int .i64 0, .int .i64 0, .int .i64 0, .int .i64 0] 31 (0, 0))) ∧ Aside0 (Below w.heap.size w wc))
  case first =>
    have H := HC2.out
    clear HC2
    by_cases c5 : a0_0 = 1
    · rw [if_pos c5] at H
      have c5b0 : (a0_0 == 1) = true := beq_iff_eq.mpr c5
      have c5b1 : (a0_0 != 1) = false := bne_eq_false_iff_eq.mpr c5
      clear c5
      (first | rw [c5b0] | (simp only [i64_w, i32_w]; rw [c5b0]) | skip)
      have H' := Aside0.mk H
      clear H
      have hnb6 := NB825_826.out
      have hnc6 := NB826_825.out
      obtain ⟨hcz7_0, hcz7_1, hcz7_2, hcz7_3, hcz7_4, hcz7_5, hcz7_6, hcz7_7, hcz7_8, hcz7_9, hcz7_10, hcz7_11, hcz7_12⟩ := bc13 BK825.out
      obtain ⟨hfz7_0, hfz7_1, hfz7_2, hfz7_3, hfz7_4, hfz7_5, hfz7_6, hfz7_7, hfz7_8, hfz7_9, hfz7_10, hfz7_11, hfz7_12⟩ := bf13 BK825.out
      go_wp2
      go_meet
      case rel => exact ⟨_, (false), (by first | rfl | (simp; done) | (simp [*]; done)), H', ⟨by first | omega | exact Nat.le_refl _⟩, ⟨by (with_reducible repeat (first | refine blk_drewN ?_ _ | refine blk_drew ?_ | refine blk_alloc ?_ _)); exact BK825.out⟩, ⟨by (with_reducible repeat (first | refine blk_drewN ?_ _ | refine blk_drew ?_ | refine blk_alloc ?_ _)); exact BK826.out⟩, ⟨by repeat (first | (with_reducible first | exact HB.out | apply below_alloc | apply pw_below_drewN | apply below_drew1 | refine below_set ?_ GE825.out | refine below_set ?_ GE826.out) | exact HB.out)⟩⟩
    · rw [if_neg c5] at H
      have c5b0 : (a0_0 == 1) = false := beq_eq_false_iff_ne.mpr c5
      have c5b1 : (a0_0 != 1) = true := bne_iff_ne.mpr c5
      (first | rw [c5b0] | (simp only [i64_w, i32_w]; rw [c5b0]) | skip)
      have H' := Aside0.mk H
      clear H
      have hnb8 := NB825_826.out
      have hnc8 := NB826_825.out
      obtain ⟨hcz9_0, hcz9_1, hcz9_2, hcz9_3, hcz9_4, hcz9_5, hcz9_6, hcz9_7, hcz9_8, hcz9_9, hcz9_10, hcz9_11, hcz9_12⟩ := bc13 BK825.out
      obtain ⟨hfz9_0, hfz9_1, hfz9_2, hfz9_3, hfz9_4, hfz9_5, hfz9_6, hfz9_7, hfz9_8, hfz9_9, hfz9_10, hfz9_11, hfz9_12⟩ := bf13 BK825.out
      go_wp2
      go_meet
      case rel => exact ⟨_, ((a0_0 != 2)), (by first | rfl | (simp; done) | (simp [*]; done)), H', ⟨by first | omega | exact Nat.le_refl _⟩, ⟨by (with_reducible repeat (first | refine blk_drewN ?_ _ | refine blk_drew ?_ | refine blk_alloc ?_ _)); exact BK825.out⟩, ⟨by (with_reducible repeat (first | refine blk_drewN ?_ _ | refine blk_drew ?_ | refine blk_alloc ?_ _)); exact BK826.out⟩, ⟨by repeat (first | (with_reducible first | exact HB.out | apply below_alloc | apply pw_below_drewN | apply below_drew1 | refine below_set ?_ GE825.out | refine below_set ?_ GE826.out) | exact HB.out)⟩⟩
  case rest =>
    clear HC2
    try clear c1
    try clear p2
    try clear c5
    try clear c5b0
    try clear c5b1
    try clear c6
    try clear c8
    try clear hcz7_0
    try clear hcz7_1
    try clear hcz7_10
    try clear hcz7_11
    try clear hcz7_12
    try clear hcz7_2
    try clear hcz7_3
    try clear hcz7_4
    try clear hcz7_5
    try clear hcz7_6
    try clear hcz7_7
    try clear hcz7_8
    try clear hcz7_9
    try clear hcz9_0
    try clear hcz9_1
    try clear hcz9_10
    try clear hcz9_11
    try clear hcz9_12
    try clear hcz9_2
    try clear hcz9_3
    try clear hcz9_4
    try clear hcz9_5
    try clear hcz9_6
    try clear hcz9_7
    try clear hcz9_8
    try clear hcz9_9
    try clear hfz7_0
    try clear hfz7_1
    try clear hfz7_10
    try clear hfz7_11
    try clear hfz7_12
    try clear hfz7_2
    try clear hfz7_3
    try clear hfz7_4
    try clear hfz7_5
    try clear hfz7_6
    try clear hfz7_7
    try clear hfz7_8
    try clear hfz7_9
    try clear hfz9_0
    try clear hfz9_1
    try clear hfz9_10
    try clear hfz9_11
    try clear hfz9_12
    try clear hfz9_2
    try clear hfz9_3
    try clear hfz9_4
    try clear hfz9_5
    try clear hfz9_6
    try clear hfz9_7
    try clear hfz9_8
    try clear hfz9_9
    (try clear BK825); (try clear BK826); (try clear HB); obtain ⟨kq, x12_1, rfl, HA, HJ1, BK825, BK826, HB⟩ := hcut
    cases kq with
    | zero => exact absurd HA.out (by simp [account_Cancel.j0])
    | succ kj1 =>
      have H := HA.out
      clear HA
      simp only [account_Cancel.j0] at H
      by_cases c10 : x12_1 = true
      · subst c10
        have H1 : (some (0, 0, 0, 0, 0, 0, false, ([] : List (S37)), 0, 0, 0, 0, 0, 8)) = some (r1, r2, r3, r4, r5, r6, r7, r8, r9, r10, r11, r12, r13, r14) := by rw [if_pos rfl] at H; exact H
        clear H
        have H := H1
        clear H1
        simp only [Option.some.injEq, Prod.mk.injEq] at H
        obtain ⟨rfl, rfl, rfl, rfl, rfl, rfl, rfl, rfl, rfl, rfl, rfl, rfl, rfl, rfl⟩ := H
        have hnb11 := NB826_825.out
        have hnc11 := NB825_826.out
        obtain ⟨hcz12_0, hcz12_1, hcz12_2, hcz12_3, hcz12_4, hcz12_5, hcz12_6, hcz12_7, hcz12_8, hcz12_9, hcz12_10, hcz12_11, hcz12_12⟩ := bc13 BK826.out
        obtain ⟨hfz12_0, hfz12_1, hfz12_2, hfz12_3, hfz12_4, hfz12_5, hfz12_6, hfz12_7, hfz12_8, hfz12_9, hfz12_10, hfz12_11, hfz12_12⟩ := bf13 BK826.out
        go_wp2
        refine bodyPost_ret (results_ct rfl _ _ gb826 31 #[.int .u8 0, .int .i64 0, .int .i64 0, .int .i64 0, .int .i64 0, .int .i64 0, .bool false, .slice none 0 0, .int .i64 0, .int .i64 0, .int .i64 0, .int .i64 0, .int .i64 0] (0, 0) _ rfl (by (with_reducible repeat (first | refine blk_drewN ?_ _ | refine blk_drew ?_ | refine blk_alloc ?_ _)); refine bp13 (.int .u8 0) (.int .i64 0) (.int .i64 0) (.int .i64 0) (.int .i64 0) (.int .i64 0) (.bool false) (.slice none 0 0) (.int .i64 0) (.int .i64 0) (.int .i64 0) (.int .i64 0) (.int .i64 0) ?_; (with_reducible repeat (first | refine blk_drewN ?_ _ | refine blk_drew ?_ | refine blk_alloc ?_ _)); exact BK826.out) Try.underlying31 rfl (by kernel_rfl)) rfl ?_
        exact ⟨_, by first | rfl | (simp [errW_none, errW_some] <;> rfl) | (simp [*, errW_none, errW_some] <;> rfl), by first | exact Kd.R_nil _ _ _ _ _ | exact Kd.N_nil _ _ _ _ _ | exact Kd.V_nil _ _ _ _ _ | exact Kd.Q_nil _ _ _ _ _ | exact Kd.S_nil _ _ _ _ _, by repeat (first | (with_reducible first | exact HB.out | apply below_alloc | apply pw_below_drewN | apply below_drew1 | refine below_set ?_ GE825.out | refine below_set ?_ GE826.out) | exact HB.out)⟩
      · replace c10 := Bool.eq_false_iff.mpr c10
        subst c10
        have H1 : ((account_Copy.f a0_0 a0_1 a0_2 a0_3 a0_4 a0_5 a0_6 l0_7 a0_8 a0_9 a0_10 a0_11 a0_12).bind fun bt827 => (account_Cancel.l0 kj1 (bt827.2.2.2.2.2.2.2.1.length : Int) 0 3 bt827.2.1 bt827.2.2.1 bt827.2.2.2.1 bt827.2.2.2.2.1 bt827.2.2.2.2.2.1 bt827.2.2.2.2.2.2.1 bt827.2.2.2.2.2.2.2.1 bt827.2.2.2.2.2.2.2.2.1 bt827.2.2.2.2.2.2.2.2.2.1 bt827.2.2.2.2.2.2.2.2.2.2.1 bt827.2.2.2.2.2.2.2.2.2.2.2.1 bt827.2.2.2.2.2.2.2.2.2.2.2.2)) = some (r1, r2, r3, r4, r5, r6, r7, r8, r9, r10, r11, r12, r13, r14) := by rw [if_neg (show ¬ (false = true) by decide)] at H; exact H
        clear H
        have H := H1
        clear H1
        replace H := Option.bind_eq_some_iff.mp H
        obtain ⟨⟨t827, t828, t829, t830, t831, t832, t833, t834, t837, t838, t839, t840, t841⟩, A130, H⟩ := H
        replace H : (account_Cancel.l0 kj1 (t834.length : Int) 0 3 t828 t829 t830 t831 t832 t833 t834 t837 t838 t839 t840 t841) = some (r1, r2, r3, r4, r5, r6, r7, r8, r9, r10, r11, r12, r13, r14) := H
        have A13 := Aside0.mk A130
        clear A130
        have H' := Aside0.mk H
        clear H
        have hnb14 := NB825_826.out
        have hnc14 := NB826_825.out
        obtain ⟨hcz15_0, hcz15_1, hcz15_2, hcz15_3, hcz15_4, hcz15_5, hcz15_6, hcz15_7, hcz15_8, hcz15_9, hcz15_10, hcz15_11, hcz15_12⟩ := bc13 BK825.out
        obtain ⟨hfz15_0, hfz15_1, hfz15_2, hfz15_3, hfz15_4, hfz15_5, hfz15_6, hfz15_7, hfz15_8, hfz15_9, hfz15_10, hfz15_11, hfz15_12⟩ := bf13 BK825.out
        go_wp2_with (first | ((with_reducible refine gate_callee (f := 21) rfl ?_); refine goesL_ (some 15) rfl rfl Try.func21 (by kernel_rfl) rfl #[.agg #[.int .u8 a0_0, .int .i64 a0_1, .int .i64 a0_2, .int .i64 a0_3, .int .i64 a0_4, .int .i64 a0_5, .bool a0_6, .slice A0_7 l0_7.length c0_7, .int .i64 a0_8, .int .i64 a0_9, .int .i64 a0_10, .int .i64 a0_11, .int .i64 a0_12]] rfl (by (try simp only [List.map_toArray, List.map_cons, List.map_nil]); first | done | rfl | (simp only [List.length_drop, List.length_take]; rfl)) ?_; (with_reducible refine (account_Copy.calls a0_0 a0_1 a0_2 a0_3 a0_4 a0_5 a0_6 _ _ l0_7 a0_8 a0_9 a0_10 a0_11 a0_12 t827 t828 t829 t830 t831 t832 t833 t834 t837 t838 t839 t840 t841 _ ?side1 ?side2 A13.out).mono ?_); (case side1 => repeat (first | exact (Kd.C_below HR0_7.out HB.out) | (with_reducible refine Kd.C_alloc ?_ _) | (with_reducible refine Kd.C_drewN ?_ _) | (with_reducible refine Kd.C_drew ?_))); (case side2 => exact HC0_7.out); rintro e w16 ⟨v835, rfl, ho0, hb⟩; refine ⟨_, rfl, ?_⟩; have n0_ := Aside0.mk (Kd.R_lower ho0 (below_size (by repeat (first | (with_reducible first | exact HB.out | apply below_alloc | apply pw_below_drewN | apply below_drew1 | refine below_set ?_ GE825.out | refine below_set ?_ GE826.out) | exact HB.out)))); have n1_ := Aside0.mk (blk_below (g := gb825) (o := .cells #[.int .u8 a0_0, .int .i64 a0_1, .int .i64 a0_2, .int .i64 a0_3, .int .i64 a0_4, .int .i64 a0_5, .bool a0_6, .slice A0_7 l0_7.length c0_7, .int .i64 a0_8, .int .i64 a0_9, .int .i64 a0_10, .int .i64 a0_11, .int .i64 a0_12] 31 (0, 0)) (by (with_reducible repeat (first | refine blk_drewN ?_ _ | refine blk_drew ?_ | refine blk_alloc ?_ _)); exact BK825.out) hb); have n2_ := Aside0.mk (blk_below (g := gb826) (o := .cells #[.int .u8 0, .int .i64 0, .int .i64 0, .int .i64 0, .int .i64 0, .int .i64 0, .bool false, .slice none 0 0, .int .i64 0, .int .i64 0, .int .i64 0, .int .i64 0, .int .i64 0] 31 (0, 0)) (by (with_reducible repeat (first | refine blk_drewN ?_ _ | refine blk_drew ?_ | refine blk_alloc ?_ _)); exact BK826.out) hb); have n3_ := Aside0.mk (below_step (by repeat (first | (with_reducible first | exact HB.out | apply below_alloc | apply pw_below_drewN | apply below_drew1 | refine below_set ?_ GE825.out | refine below_set ?_ GE826.out) | exact HB.out)) hb); clear BK825; clear BK826; clear HB; have HO836 := n0_; have BK825 := n1_; have BK826 := n2_; have HB := n3_; clear n0_ n1_ n2_ n3_; (try clear hb); (try clear hb2); (try clear hk); (try clear hi); (try clear ho0); obtain ⟨hcz17_0, hcz17_1, hcz17_2, hcz17_3, hcz17_4, hcz17_5, hcz17_6, hcz17_7, hcz17_8, hcz17_9, hcz17_10, hcz17_11, hcz17_12⟩ := bc13 BK825.out; obtain ⟨hfz17_0, hfz17_1, hfz17_2, hfz17_3, hfz17_4, hfz17_5, hfz17_6, hfz17_7, hfz17_8, hfz17_9, hfz17_10, hfz17_11, hfz17_12⟩ := bf13 BK825.out; obtain ⟨Ao18, co18, eo18⟩ := Kd.R_slice HO836.out; subst eo18))
        go_loopg [20] kj1 (fun kq v20 w' => ∃ (x20_2 : Int) (x826007_2 : List (S37)) (u826007 : Value), v20 = .int .i64 x20_2 ∧ Aside0 (account_Cancel.l0 kq (t834.length : Int) x20_2 3 t828 t829 t830 t831 t832 t833 x826007_2 t837 t838 t839 t840 t841 = some (r1, r2, r3, r4, r5, r6, r7, r8, r9, r10, r11, r12, r13, r14)) ∧ Aside0 (kq ≤ kj1) ∧ Aside0 (Kd.R k37 37 w' w.heap.size (fun _ => True) u826007 x826007_2) ∧ Aside0 (w'.heap[gb825]? = some (.cells #[.int .u8 3, .int .i64 t828, .int .i64 t829, .int .i64 t830, .int .i64 t831, .int .i64 t832, .bool t833, u826007, .int .i64 t837, .int .i64 t838, .int .i64 t839, .int .i64 t840, .int .i64 t841] 31 (0, 0))) ∧ Aside0 (w'.heap[gb826]? = some (.cells #[.int .u8 0, .int .i64 0, .int .i64 0, .int .i64 0, .int .i64 0, .int .i64 0, .bool false, (.slice none 0 0), .int .i64 0, .int .i64 0, .int .i64 0, .int .i64 0, .int .i64 0] 31 (0, 0))) ∧ Aside0 (Below w.heap.size w w'))
        case atStart => exact ⟨(0), (t834), (.slice Ao18 t834.length co18), (by first | rfl | (simp; done) | (simp [*]; done)), H', ⟨Nat.le_refl _⟩, ⟨by (with_reducible repeat (first | apply Kd.R_alloc | apply Kd.R_drewN | apply Kd.R_drew)); exact Kd.R_mono (Kd.R_step (Kd.R_types HO836.out BK825.out (by decide)) (fun _ hk _ => by (with_reducible repeat (first | refine (hst (g := gb825) hk.2 _ _).trans ?_ | refine (hdn _ _ _).trans ?_ | refine (hd1 _ _).trans ?_)); rfl)) (fun _ hk => trivial)⟩, ⟨by (with_reducible repeat (first | refine blk_drewN ?_ _ | refine blk_drew ?_ | refine blk_alloc ?_ _)); refine blk_put (cs := #[.int .u8 t827, .int .i64 t828, .int .i64 t829, .int .i64 t830, .int .i64 t831, .int .i64 t832, .bool t833, .slice Ao18 t834.length co18, .int .i64 t837, .int .i64 t838, .int .i64 t839, .int .i64 t840, .int .i64 t841]) ?_ 0 _ rfl; (with_reducible repeat (first | refine blk_drewN ?_ _ | refine blk_drew ?_ | refine blk_alloc ?_ _)); refine bp13 (.int .u8 a0_0) (.int .i64 a0_1) (.int .i64 a0_2) (.int .i64 a0_3) (.int .i64 a0_4) (.int .i64 a0_5) (.bool a0_6) (.slice A0_7 l0_7.length c0_7) (.int .i64 a0_8) (.int .i64 a0_9) (.int .i64 a0_10) (.int .i64 a0_11) (.int .i64 a0_12) ?_; (with_reducible repeat (first | refine blk_drewN ?_ _ | refine blk_drew ?_ | refine blk_alloc ?_ _)); exact BK825.out⟩, ⟨by (with_reducible repeat (first | refine blk_drewN ?_ _ | refine blk_drew ?_ | refine blk_alloc ?_ _ | refine blk_far ?_ NB826_825.out _)); exact BK826.out⟩, ⟨by repeat (first | (with_reducible first | exact HB.out | apply below_alloc | apply pw_below_drewN | apply below_drew1 | refine below_set ?_ GE825.out | refine below_set ?_ GE826.out) | exact HB.out)⟩⟩
        case round =>
          clear H'
          try clear c1
          try clear c2
          try clear p2
          try clear c5
          try clear c5b0
          try clear c5b1
          try clear c6
          try clear c8
          try clear c10
          try clear c11
          try clear c14
          try clear c18
          try clear hcz12_0
          try clear hcz12_1
          try clear hcz12_10
          try clear hcz12_11
          try clear hcz12_12
          try clear hcz12_2
          try clear hcz12_3
          try clear hcz12_4
          try clear hcz12_5
          try clear hcz12_6
          try clear hcz12_7
          try clear hcz12_8
          try clear hcz12_9
          try clear hcz15_0
          try clear hcz15_1
          try clear hcz15_10
          try clear hcz15_11
          try clear hcz15_12
          try clear hcz15_2
          try clear hcz15_3
          try clear hcz15_4
          try clear hcz15_5
          try clear hcz15_6
          try clear hcz15_7
          try clear hcz15_8
          try clear hcz15_9
          try clear hcz17_0
          try clear hcz17_1
          try clear hcz17_10
          try clear hcz17_11
          try clear hcz17_12
          try clear hcz17_2
          try clear hcz17_3
          try clear hcz17_4
          try clear hcz17_5
          try clear hcz17_6
          try clear hcz17_7
          try clear hcz17_8
          try clear hcz17_9
          try clear hcz7_0
          try clear hcz7_1
          try clear hcz7_10
          try clear hcz7_11
          try clear hcz7_12
          try clear hcz7_2
          try clear hcz7_3
          try clear hcz7_4
          try clear hcz7_5
          try clear hcz7_6
          try clear hcz7_7
          try clear hcz7_8
          try clear hcz7_9
          try clear hcz9_0
          try clear hcz9_1
          try clear hcz9_10
          try clear hcz9_11
          try clear hcz9_12
          try clear hcz9_2
          try clear hcz9_3
          try clear hcz9_4
          try clear hcz9_5
          try clear hcz9_6
          try clear hcz9_7
          try clear hcz9_8
          try clear hcz9_9
          try clear hfz12_0
          try clear hfz12_1
          try clear hfz12_10
          try clear hfz12_11
          try clear hfz12_12
          try clear hfz12_2
          try clear hfz12_3
          try clear hfz12_4
          try clear hfz12_5
          try clear hfz12_6
          try clear hfz12_7
          try clear hfz12_8
          try clear hfz12_9
          try clear hfz15_0
          try clear hfz15_1
          try clear hfz15_10
          try clear hfz15_11
          try clear hfz15_12
          try clear hfz15_2
          try clear hfz15_3
          try clear hfz15_4
          try clear hfz15_5
          try clear hfz15_6
          try clear hfz15_7
          try clear hfz15_8
          try clear hfz15_9
          try clear hfz17_0
          try clear hfz17_1
          try clear hfz17_10
          try clear hfz17_11
          try clear hfz17_12
          try clear hfz17_2
          try clear hfz17_3
          try clear hfz17_4
          try clear hfz17_5
          try clear hfz17_6
          try clear hfz17_7
          try clear hfz17_8
          try clear hfz17_9
          try clear hfz7_0
          try clear hfz7_1
          try clear hfz7_10
          try clear hfz7_11
          try clear hfz7_12
          try clear hfz7_2
          try clear hfz7_3
          try clear hfz7_4
          try clear hfz7_5
          try clear hfz7_6
          try clear hfz7_7
          try clear hfz7_8
          try clear hfz7_9
          try clear hfz9_0
          try clear hfz9_1
          try clear hfz9_10
          try clear hfz9_11
          try clear hfz9_12
          try clear hfz9_2
          try clear hfz9_3
          try clear hfz9_4
          try clear hfz9_5
          try clear hfz9_6
          try clear hfz9_7
          try clear hfz9_8
          try clear hfz9_9
          try clear p2
          (try clear HK2); (try clear HO_826007); (try clear BK825); (try clear BK826); (try clear HB); obtain ⟨x20_2, x826007_2, u826007, rfl, HA, HK2, HO_826007, BK825, BK826, HB⟩ := hrel
          cases gk with
          | zero => exact absurd HA.out (by simp [account_Cancel.l0])
          | succ k2 =>
            have H := HA.out
            clear HA
            simp only [account_Cancel.l0] at H
            by_cases c19 : x20_2 < (t834.length : Int)
            · rw [if_pos c19] at H
              have c19b0 : decide (x20_2 < (t834.length : Int)) = true := decide_eq_true c19
              clear c19
              by_cases c20 : 0 ≤ x20_2
              · rw [if_pos c20] at H
                have c20b0 : decide (0 ≤ x20_2) = true := decide_eq_true c20
                clear c20
                by_cases c21 : x20_2 < (x826007_2.length : Int)
                · rw [if_pos c21] at H
                  have c21b0 : decide (x20_2 < (x826007_2.length : Int)) = true := decide_eq_true c21
                  clear c21
                  replace H := Option.bind_eq_some_iff.mp H
                  obtain ⟨⟨t843, t844, t845, t846, t847, t848, t849, t850⟩, A220, H⟩ := H
                  replace H : (account_Cancel.l0 k2 (t834.length : Int) (wrap64 (x20_2 + 1)) 3 t828 t829 t830 t831 t832 t833 (x826007_2.set (x20_2 : Int).toNat (⟨t843, t844, t845, t846, t847, t848, t849, t850⟩ : S37)) t837 t838 t839 t840 t841) = some (r1, r2, r3, r4, r5, r6, r7, r8, r9, r10, r11, r12, r13, r14) := H
                  have A22 := Aside0.mk A220
                  clear A220
                  obtain ⟨y851, hy851⟩ : ∃ y_ : List (S37), y_ = (x826007_2.set (x20_2 : Int).toNat (⟨t843, t844, t845, t846, t847, t848, t849, t850⟩ : S37)) := ⟨_, rfl⟩
                  replace H : (account_Cancel.l0 k2 (t834.length : Int) (wrap64 (x20_2 + 1)) 3 t828 t829 t830 t831 t832 t833 y851 t837 t838 t839 t840 t841) = some (r1, r2, r3, r4, r5, r6, r7, r8, r9, r10, r11, r12, r13, r14) := by first | (rw [hy851]; with_reducible exact H) | (have H2_ := (Option.bind_some _ _).symm.trans H; rw [hy851]; with_reducible exact H2_) | (have H2_ := (Option.bind_some _ _).symm.trans H; with_reducible exact H2_) | with_reducible exact H | (rw [hy851]; exact H) | exact H
                  have Ny851 := Aside0.mk hy851
                  clear hy851
                  have H' := Aside0.mk H
                  clear H
                  try go_wp2
                  have n0_ := Aside0.mk (Kd.R_drew HO_826007.out)
                  have n1_ := Aside0.mk (blk_drew BK825.out)
                  have n2_ := Aside0.mk (blk_drew BK826.out)
                  have n3_ := Aside0.mk (below_drew1 HB.out)
                  clear HO_826007
                  clear BK825
                  clear BK826
                  clear HB
                  have HO_826007 := n0_
                  have BK825 := n1_
                  have BK826 := n2_
                  have HB := n3_
                  clear n0_ n1_ n2_ n3_
                  obtain ⟨Ao25, co25, eo25⟩ := Kd.R_slice HO_826007.out
                  (first | subst eo25 | (injection eo25 with f1_ f2_ f3_; have f4_ := f1_.symm; have f5_ := f3_.symm; clear f1_ f2_ f3_; subst f4_; subst f5_))
                  have p842 : 0 ≤ (x20_2 : Int) := of_decide_eq_true (by first | (with_reducible assumption) | assumption)
                  have q842 : x20_2 < (x826007_2.length : Int) := of_decide_eq_true (by first | (with_reducible assumption) | assumption)
                  obtain ⟨ad842, e842, hx842_0, hx842_1, hx842_2, hx842_3, hx842_4, hx842_5, hx842_6, hx842_7⟩ := at_T37 (Kd.R_reads' HO_826007.out).2.2 x20_2 p842 q842
                  cases e842
                  replace p842 := eq_true p842
                  replace q842 := eq_true q842
                  refine start_ (n := 11) (S := fun w' => w'.cell? ⟨gb825, 0, none⟩ = some (.int .u8 3) ∧ w'.cell? ⟨gb825, 1, none⟩ = some (.int .i64 t828) ∧ w'.cell? ⟨gb825, 2, none⟩ = some (.int .i64 t829) ∧ w'.cell? ⟨gb825, 3, none⟩ = some (.int .i64 t830) ∧ w'.cell? ⟨gb825, 4, none⟩ = some (.int .i64 t831) ∧ w'.cell? ⟨gb825, 5, none⟩ = some (.int .i64 t832) ∧ w'.cell? ⟨gb825, 6, none⟩ = some (.bool t833) ∧ w'.cell? ⟨gb825, 7, none⟩ = some (.slice (some ad842) x826007_2.length co25) ∧ w'.cell? ⟨gb825, 8, none⟩ = some (.int .i64 t837) ∧ w'.cell? ⟨gb825, 9, none⟩ = some (.int .i64 t838) ∧ w'.cell? ⟨gb825, 10, none⟩ = some (.int .i64 t839) ∧ w'.cell? ⟨gb825, 11, none⟩ = some (.int .i64 t840) ∧ w'.cell? ⟨gb825, 12, none⟩ = some (.int .i64 t841) ∧ w'.cell? (ad842.add ((x20_2).toNat * 8)) = some (.int .i64 ((rd_T37 x826007_2 x20_2).f0)) ∧ w'.cell? ⟨(ad842.add ((x20_2).toNat * 8)).block, (ad842.add ((x20_2).toNat * 8)).off + 1, none⟩ = some (.int .i64 ((rd_T37 x826007_2 x20_2).f1)) ∧ w'.cell? ⟨(ad842.add ((x20_2).toNat * 8)).block, (ad842.add ((x20_2).toNat * 8)).off + 2, none⟩ = some (.int .u8 ((rd_T37 x826007_2 x20_2).f2)) ∧ w'.cell? ⟨(ad842.add ((x20_2).toNat * 8)).block, (ad842.add ((x20_2).toNat * 8)).off + 3, none⟩ = some (.int .i64 ((rd_T37 x826007_2 x20_2).f3)) ∧ w'.cell? ⟨(ad842.add ((x20_2).toNat * 8)).block, (ad842.add ((x20_2).toNat * 8)).off + 4, none⟩ = some (.int .i64 ((rd_T37 x826007_2 x20_2).f4)) ∧ w'.cell? ⟨(ad842.add ((x20_2).toNat * 8)).block, (ad842.add ((x20_2).toNat * 8)).off + 5, none⟩ = some (.int .i64 ((rd_T37 x826007_2 x20_2).f5)) ∧ w'.cell? ⟨(ad842.add ((x20_2).toNat * 8)).block, (ad842.add ((x20_2).toNat * 8)).off + 6, none⟩ = some (.int .i64 ((rd_T37 x826007_2 x20_2).f6)) ∧ w'.cell? ⟨(ad842.add ((x20_2).toNat * 8)).block, (ad842.add ((x20_2).toNat * 8)).off + 7, none⟩ = some (.bool ((rd_T37 x826007_2 x20_2).f7))) (ds := [10]) #[false, false, false, false, false, false, false, false, false, false, false] (by kernel_rfl) rfl rfl ⟨(blk_cell BK825.out 0).trans rfl, (blk_cell BK825.out 1).trans rfl, (blk_cell BK825.out 2).trans rfl, (blk_cell BK825.out 3).trans rfl, (blk_cell BK825.out 4).trans rfl, (blk_cell BK825.out 5).trans rfl, (blk_cell BK825.out 6).trans rfl, (blk_cell BK825.out 7).trans rfl, (blk_cell BK825.out 8).trans rfl, (blk_cell BK825.out 9).trans rfl, (blk_cell BK825.out 10).trans rfl, (blk_cell BK825.out 11).trans rfl, (blk_cell BK825.out 12).trans rfl, hx842_0, hx842_1, hx842_2, hx842_3, hx842_4, hx842_5, hx842_6, hx842_7⟩ (fun hHeld => ?_); refine with_tabW account_Cancel.tab8 account_Cancel.bits8 (fun HT_ HW_ => ?_)
                  generalize wr.drew = w24 at HO_826007 BK825 BK826 HB hx842_0 hx842_1 hx842_2 hx842_3 hx842_4 hx842_5 hx842_6 hx842_7 hHeld ⊢
                  refine pure_ (i := 0) (N := some 23) (v := ?_) (a' := ?_) #[true, false, false, false, false, false, false, false, false, false, false] rfl rfl (any_of HT_.out (by kernel_rfl)) (fun _ _ _ h => h) (Or.inl ⟨by rfl, ?_⟩) ?_ ?_
                  rotate_left
                  · intro w'
                    go_simp
                    with_reducible rfl
                  rotate_left
                  · simp only [Act.put, List.setIfInBounds_toArray, List.set_cons_zero, List.set_cons_succ, i64_w, i32_w]
                    rfl
                  refine pure_ (i := 2) (N := some 25) (v := ?_) (a' := ?_) #[true, false, true, false, false, false, false, false, false, false, false] rfl rfl (any_of HT_.out (by kernel_rfl)) (fun _ _ _ h => h) (Or.inl ⟨by rfl, ?_⟩) ?_ ?_
                  rotate_left
                  · intro w'
                    go_simp
                    with_reducible rfl
                  rotate_left
                  · simp only [Act.put, List.setIfInBounds_toArray, List.set_cons_zero, List.set_cons_succ, i64_w, i32_w]
                    rfl
                  refine pure_ (i := 3) (N := some 26) (v := ?_) (a' := ?_) #[true, false, true, true, false, false, false, false, false, false, false] rfl rfl (any_of HT_.out (by kernel_rfl)) (fun _ _ _ h => h) (Or.inl ⟨by rfl, ?_⟩) ?_ ?_
                  rotate_left
                  · intro w'
                    go_simp
                    with_reducible rfl
                  rotate_left
                  · simp only [Act.put, List.setIfInBounds_toArray, List.set_cons_zero, List.set_cons_succ, i64_w, i32_w]
                    rfl
                  refine pure_ (i := 5) (N := some 28) (v := ?_) (a' := ?_) #[true, false, true, true, false, true, false, false, false, false, false] rfl rfl (any_of HT_.out (by kernel_rfl)) (fun _ _ _ h => h) (Or.inl ⟨by rfl, ?_⟩) ?_ ?_
                  rotate_left
                  · intro w'
                    go_simp
                    with_reducible rfl
                  rotate_left
                  · simp only [Act.put, List.setIfInBounds_toArray, List.set_cons_zero, List.set_cons_succ, i64_w, i32_w]
                    rfl
                  refine take_ (i := 1) (N := some 24) (v := ?_) (a' := ?_) #[true, true, true, true, false, true, false, false, false, false, false] rfl rfl (take_ofW HT_.out HW_.out (by kernel_rfl)) (fun _ _ _ h => h) (Or.inl ⟨by rfl, ?_⟩) hHeld ?_ ?_
                  rotate_left
                  · rintro w' ⟨s0, s1, s2, s3, s4, s5, s6, s7, s8, s9, s10, s11, s12, s13, s14, s15, s16, s17, s18, s19, s20⟩
                    go_simp
                    with_reducible rfl
                  rotate_left
                  · simp only [Act.put, List.setIfInBounds_toArray, List.set_cons_zero, List.set_cons_succ, i64_w, i32_w]
                    rfl
                  refine take_ (i := 4) (N := some 27) (v := ?_) (a' := ?_) #[true, true, true, true, true, true, false, false, false, false, false] rfl rfl (take_ofW HT_.out HW_.out (by kernel_rfl)) (fun _ _ _ h => h) (Or.inl ⟨by rfl, ?_⟩) hHeld ?_ ?_
                  rotate_left
                  · rintro w' ⟨s0, s1, s2, s3, s4, s5, s6, s7, s8, s9, s10, s11, s12, s13, s14, s15, s16, s17, s18, s19, s20⟩
                    go_simp
                    with_reducible rfl
                  rotate_left
                  · simp only [Act.put, List.setIfInBounds_toArray, List.set_cons_zero, List.set_cons_succ, i64_w, i32_w]
                    rfl
                  refine pure_ (i := 6) (N := some 29) (v := ?_) (a' := ?_) #[true, true, true, true, true, true, true, false, false, false, false] rfl rfl (any_of HT_.out (by kernel_rfl)) (fun _ _ _ h => h) (Or.inl ⟨by rfl, ?_⟩) ?_ ?_
                  rotate_left
                  · intro w'
                    go_simp
                    with_reducible rfl
                  rotate_left
                  · simp only [Act.put, List.setIfInBounds_toArray, List.set_cons_zero, List.set_cons_succ, i64_w, i32_w]
                    rfl
                  refine take_ (i := 7) (N := some 30) (v := ?_) (a' := ?_) #[true, true, true, true, true, true, true, true, false, false, false] rfl rfl (take_ofW HT_.out HW_.out (by kernel_rfl)) (fun _ _ _ h => h) (Or.inl ⟨by rfl, ?_⟩) hHeld ?_ ?_
                  rotate_left
                  · rintro w' ⟨s0, s1, s2, s3, s4, s5, s6, s7, s8, s9, s10, s11, s12, s13, s14, s15, s16, s17, s18, s19, s20⟩
                    go_simp
                    with_reducible rfl
                  rotate_left
                  · simp only [Act.put, List.setIfInBounds_toArray, List.set_cons_zero, List.set_cons_succ, i64_w, i32_w]
                    rfl
                  refine one_ (i := 8) (N := some 31) #[true, true, true, true, true, true, true, true, true, false, false] rfl rfl (one_of HT_.out (by kernel_rfl)) (by decide) (fun K hK => ?_)
                  refine goes_ Try.func32 (by kernel_rfl) rfl #[.agg #[.int .i64 ((rd_T37 x826007_2 x20_2).f0), .int .i64 ((rd_T37 x826007_2 x20_2).f1), .int .u8 ((rd_T37 x826007_2 x20_2).f2), .int .i64 ((rd_T37 x826007_2 x20_2).f3), .int .i64 ((rd_T37 x826007_2 x20_2).f4), .int .i64 ((rd_T37 x826007_2 x20_2).f5), .int .i64 ((rd_T37 x826007_2 x20_2).f6), .bool ((rd_T37 x826007_2 x20_2).f7)]] (by rfl) rfl rfl (by (try simp only [List.map_toArray, List.map_cons, List.map_nil]); first | done | rfl | (simp only [List.length_drop, List.length_take]; rfl)) ?_
                  with_reducible refine (cycle_Over.calls ((rd_T37 x826007_2 x20_2).f0) ((rd_T37 x826007_2 x20_2).f1) ((rd_T37 x826007_2 x20_2).f2) ((rd_T37 x826007_2 x20_2).f3) ((rd_T37 x826007_2 x20_2).f4) ((rd_T37 x826007_2 x20_2).f5) ((rd_T37 x826007_2 x20_2).f6) ((rd_T37 x826007_2 x20_2).f7) t843 t844 t845 t846 t847 t848 t849 t850 _ A22.out).mono ?_
                  rintro e w26 ⟨rfl, hb⟩
                  have HS13_ := (hb.cell (World.block_lt_of_cell? _ _ (hHeld.2.2.2.2.2.2.2.2.2.2.2.2.2.1))).trans (hHeld.2.2.2.2.2.2.2.2.2.2.2.2.2.1)
                  have HS14_ := (hb.cell (World.block_lt_of_cell? _ _ (hHeld.2.2.2.2.2.2.2.2.2.2.2.2.2.2.1))).trans (hHeld.2.2.2.2.2.2.2.2.2.2.2.2.2.2.1)
                  have HS15_ := (hb.cell (World.block_lt_of_cell? _ _ (hHeld.2.2.2.2.2.2.2.2.2.2.2.2.2.2.2.1))).trans (hHeld.2.2.2.2.2.2.2.2.2.2.2.2.2.2.2.1)
                  have HS16_ := (hb.cell (World.block_lt_of_cell? _ _ (hHeld.2.2.2.2.2.2.2.2.2.2.2.2.2.2.2.2.1))).trans (hHeld.2.2.2.2.2.2.2.2.2.2.2.2.2.2.2.2.1)
                  have HS17_ := (hb.cell (World.block_lt_of_cell? _ _ (hHeld.2.2.2.2.2.2.2.2.2.2.2.2.2.2.2.2.2.1))).trans (hHeld.2.2.2.2.2.2.2.2.2.2.2.2.2.2.2.2.2.1)
                  have HS18_ := (hb.cell (World.block_lt_of_cell? _ _ (hHeld.2.2.2.2.2.2.2.2.2.2.2.2.2.2.2.2.2.2.1))).trans (hHeld.2.2.2.2.2.2.2.2.2.2.2.2.2.2.2.2.2.2.1)
                  have HS19_ := (hb.cell (World.block_lt_of_cell? _ _ (hHeld.2.2.2.2.2.2.2.2.2.2.2.2.2.2.2.2.2.2.2.1))).trans (hHeld.2.2.2.2.2.2.2.2.2.2.2.2.2.2.2.2.2.2.2.1)
                  have HS20_ := (hb.cell (World.block_lt_of_cell? _ _ (hHeld.2.2.2.2.2.2.2.2.2.2.2.2.2.2.2.2.2.2.2.2))).trans (hHeld.2.2.2.2.2.2.2.2.2.2.2.2.2.2.2.2.2.2.2.2)
                  refine ⟨_, rfl, ?_⟩
                  have n0_ := Aside0.mk (Kd.R_below (by (with_reducible repeat (first | apply Kd.R_alloc | apply Kd.R_drewN | apply Kd.R_drew)); exact HO_826007.out) hb)
                  have n1_ := Aside0.mk (blk_below (g := gb825) (o := .cells #[.int .u8 3, .int .i64 t828, .int .i64 t829, .int .i64 t830, .int .i64 t831, .int .i64 t832, .bool t833, .slice (some ad842) x826007_2.length co25, .int .i64 t837, .int .i64 t838, .int .i64 t839, .int .i64 t840, .int .i64 t841] 31 (0, 0)) (by (with_reducible repeat (first | refine blk_drewN ?_ _ | refine blk_drew ?_ | refine blk_alloc ?_ _)); exact BK825.out) hb)
                  have n2_ := Aside0.mk (blk_below (g := gb826) (o := .cells #[.int .u8 0, .int .i64 0, .int .i64 0, .int .i64 0, .int .i64 0, .int .i64 0, .bool false, .slice none 0 0, .int .i64 0, .int .i64 0, .int .i64 0, .int .i64 0, .int .i64 0] 31 (0, 0)) (by (with_reducible repeat (first | refine blk_drewN ?_ _ | refine blk_drew ?_ | refine blk_alloc ?_ _)); exact BK826.out) hb)
                  have n3_ := Aside0.mk (below_step (by repeat (first | (with_reducible first | exact HB.out | apply below_alloc | apply pw_below_drewN | apply below_drew1 | refine below_set ?_ GE825.out | refine below_set ?_ GE826.out) | exact HB.out)) hb)
                  clear HO_826007
                  clear BK825
                  clear BK826
                  clear HB
                  have HO_826007 := n0_
                  have BK825 := n1_
                  have BK826 := n2_
                  have HB := n3_
                  clear n0_ n1_ n2_ n3_
                  (try clear hb)
                  (try clear hb2)
                  (try clear hk)
                  (try clear hi)
                  have p23 : 0 ≤ (x20_2 : Int) := of_decide_eq_true (by first | (with_reducible assumption) | assumption)
                  have q23 : (x20_2 : Int) < ((x826007_2.length : Int) : Int) := of_decide_eq_true (by first | (with_reducible assumption) | assumption)
                  obtain ⟨go23, co23, eo23, gb23, gl23, cl23, HG23⟩ := Kd.R_form HO_826007.out (by omega)
                  (first | cases eo23 | (injection eo23 with ea_ en_ ec_; (first | subst ea_ | (injection ea_ with ea_; subst ea_)); subst ec_; clear en_))
                  have GB23 := Aside0.mk gb23
                  have GG23 := Aside0.mk HG23
                  clear gb23 gl23 HG23
                  (first | simp only [add_plain] at hx842_0 | skip)
                  (first | simp only [add_plain] at hx842_1 | skip)
                  (first | simp only [add_plain] at hx842_2 | skip)
                  (first | simp only [add_plain] at hx842_3 | skip)
                  (first | simp only [add_plain] at hx842_4 | skip)
                  (first | simp only [add_plain] at hx842_5 | skip)
                  (first | simp only [add_plain] at hx842_6 | skip)
                  (first | simp only [add_plain] at hx842_7 | skip)
                  obtain ⟨ce23, hcl23, hM23, hcc23, hfr23⟩ := Kd.R_elem HO_826007.out z37 (x20_2 : Int) p23 q23
                  obtain rfl := k37_openM hM23
                  have hx23_0 : World.cell? _ ⟨go23, (x20_2 : Int).toNat * 8, none⟩ = some (.int .i64 ((rd_T37 x826007_2 x20_2).f0)) := hcc23 0 _ rfl
                  have hx23_1 : World.cell? _ ⟨go23, (x20_2 : Int).toNat * 8 + 1, none⟩ = some (.int .i64 ((rd_T37 x826007_2 x20_2).f1)) := hcc23 1 _ rfl
                  have hx23_2 : World.cell? _ ⟨go23, (x20_2 : Int).toNat * 8 + 2, none⟩ = some (.int .u8 ((rd_T37 x826007_2 x20_2).f2)) := hcc23 2 _ rfl
                  have hx23_3 : World.cell? _ ⟨go23, (x20_2 : Int).toNat * 8 + 3, none⟩ = some (.int .i64 ((rd_T37 x826007_2 x20_2).f3)) := hcc23 3 _ rfl
                  have hx23_4 : World.cell? _ ⟨go23, (x20_2 : Int).toNat * 8 + 4, none⟩ = some (.int .i64 ((rd_T37 x826007_2 x20_2).f4)) := hcc23 4 _ rfl
                  have hx23_5 : World.cell? _ ⟨go23, (x20_2 : Int).toNat * 8 + 5, none⟩ = some (.int .i64 ((rd_T37 x826007_2 x20_2).f5)) := hcc23 5 _ rfl
                  have hx23_6 : World.cell? _ ⟨go23, (x20_2 : Int).toNat * 8 + 6, none⟩ = some (.int .i64 ((rd_T37 x826007_2 x20_2).f6)) := hcc23 6 _ rfl
                  have hx23_7 : World.cell? _ ⟨go23, (x20_2 : Int).toNat * 8 + 7, none⟩ = some (.bool ((rd_T37 x826007_2 x20_2).f7)) := hcc23 7 _ rfl
                  have hf23_0 : World.frozen? _ ⟨go23, (x20_2 : Int).toNat * 8, none⟩ = false := hfr23 0
                  have hf23_1 : World.frozen? _ ⟨go23, (x20_2 : Int).toNat * 8 + 1, none⟩ = false := hfr23 1
                  have hf23_2 : World.frozen? _ ⟨go23, (x20_2 : Int).toNat * 8 + 2, none⟩ = false := hfr23 2
                  have hf23_3 : World.frozen? _ ⟨go23, (x20_2 : Int).toNat * 8 + 3, none⟩ = false := hfr23 3
                  have hf23_4 : World.frozen? _ ⟨go23, (x20_2 : Int).toNat * 8 + 4, none⟩ = false := hfr23 4
                  have hf23_5 : World.frozen? _ ⟨go23, (x20_2 : Int).toNat * 8 + 5, none⟩ = false := hfr23 5
                  have hf23_6 : World.frozen? _ ⟨go23, (x20_2 : Int).toNat * 8 + 6, none⟩ = false := hfr23 6
                  have hf23_7 : World.frozen? _ ⟨go23, (x20_2 : Int).toNat * 8 + 7, none⟩ = false := hfr23 7
                  clear hcl23 hcc23 hfr23 hM23
                  replace p23 := eq_true p23
                  replace q23 := eq_true q23
                  obtain ⟨ce27, hcl27, hM27, hcc27, hfr27⟩ := Kd.R_elem HO_826007.out z37 (x20_2 : Int) (of_decide_eq_true (by first | (with_reducible assumption) | assumption)) (by have h_ : (x20_2 : Int) < ((x826007_2.length : Int) : Int) := of_decide_eq_true (by first | (with_reducible assumption) | assumption); first | exact h_ | (have e_ := (Kd.R_reads' HO_826007.out).1; omega) | simpa using h_)
                  obtain rfl := k37_openM hM27
                  have HP27 := (Kd.R_seg HO_826007.out (x20_2 : Int) (of_decide_eq_true (by first | (with_reducible assumption) | assumption)) (by have h_ : (x20_2 : Int) < ((x826007_2.length : Int) : Int) := of_decide_eq_true (by first | (with_reducible assumption) | assumption); first | exact h_ | (have e_ := (Kd.R_reads' HO_826007.out).1; omega) | simpa using h_) (seg := [.int .i64 t843, .int .i64 t844, .int .u8 t845, .int .i64 t846, .int .i64 t847, .int .i64 t848, .int .i64 t849, .bool t850]) (j := 0) hcl27 hcc27 (show 8 ≤ 8 from by decide) (x' := (⟨t843, t844, t845, t846, t847, t848, t849, t850⟩ : S37)) (k37_mkM _ _ _ (⟨t843, t844, t845, t846, t847, t848, t849, t850⟩ : S37) ) (fun _ hk => hk)).1
                  rw [← Ny851.out] at HP27
                  have HQ27 := Aside0.mk HP27
                  clear hcl27 hcc27 hfr27 hM27 HP27
                  refine hK.out _ _ ⟨(blk_cell BK825.out 0).trans rfl, (blk_cell BK825.out 1).trans rfl, (blk_cell BK825.out 2).trans rfl, (blk_cell BK825.out 3).trans rfl, (blk_cell BK825.out 4).trans rfl, (blk_cell BK825.out 5).trans rfl, (blk_cell BK825.out 6).trans rfl, (blk_cell BK825.out 7).trans rfl, (blk_cell BK825.out 8).trans rfl, (blk_cell BK825.out 9).trans rfl, (blk_cell BK825.out 10).trans rfl, (blk_cell BK825.out 11).trans rfl, (blk_cell BK825.out 12).trans rfl, HS13_, HS14_, HS15_, HS16_, HS17_, HS18_, HS19_, HS20_⟩ (fun hHeld => ?_)
                  clear hK K
                  refine norm_ (a' := ?_) ?_ ?_
                  rotate_left
                  · show Act.put _ (some 31) _ = _
                    simp only [Act.put, List.setIfInBounds_toArray, List.set_cons_zero, List.set_cons_succ, i64_w, i32_w]
                    rfl
                  refine pure_ (i := 9) (N := some 32) (v := ?_) (a' := ?_) #[true, true, true, true, true, true, true, true, true, true, false] rfl rfl (any_of HT_.out (by kernel_rfl)) (fun _ _ _ h => h) (Or.inl ⟨by rfl, ?_⟩) ?_ ?_
                  rotate_left
                  · intro w'
                    go_simp
                    with_reducible rfl
                  rotate_left
                  · simp only [Act.put, List.setIfInBounds_toArray, List.set_cons_zero, List.set_cons_succ, i64_w, i32_w]
                    rfl
                  refine last_ (i := 10) (N := none) #[true, true, true, true, true, true, true, true, true, true, true] rfl rfl (one_of HT_.out (by kernel_rfl)) (by decide) (fun K hK => ?_)
                  refine skip_ (w1 := ?_) (by rfl) rfl ?_ ?_
                  rotate_left
                  · go_simp
                    rfl
                  refine hK.out _ _ ?_
                  clear hK K
                  refine done_ (done_of HT_.out (by kernel_rfl)) ?_
                  try go_wp2
                  go_roundg k2
                  case measure => have := HJ1.out; have := HK2.out; omega
                  case rel => exact ⟨(wrap64 (x20_2 + 1)), (y851), (.slice (some ⟨go23, 0, none⟩) x826007_2.length co25), (by first | rfl | (simp; done) | (simp [*]; done)), H', ⟨by have := HJ1.out; have := HK2.out; omega⟩, ⟨by (with_reducible repeat (first | apply Kd.R_alloc | apply Kd.R_drewN | apply Kd.R_drew)); exact HQ27.out⟩, ⟨by (with_reducible repeat (first | refine blk_drewN ?_ _ | refine blk_drew ?_ | refine blk_alloc ?_ _)); refine blk_far ?_ (by have h_ := Kd.R_ne HO_826007.out BK825.out (by decide); intro e_; exact h_ (by rw [e_]; rfl)) _; (with_reducible repeat (first | refine blk_drewN ?_ _ | refine blk_drew ?_ | refine blk_alloc ?_ _)); refine blk_far ?_ (by have h_ := Kd.R_ne HO_826007.out BK825.out (by decide); intro e_; exact h_ (by rw [e_]; rfl)) _; (with_reducible repeat (first | refine blk_drewN ?_ _ | refine blk_drew ?_ | refine blk_alloc ?_ _)); refine blk_far ?_ (by have h_ := Kd.R_ne HO_826007.out BK825.out (by decide); intro e_; exact h_ (by rw [e_]; rfl)) _; (with_reducible repeat (first | refine blk_drewN ?_ _ | refine blk_drew ?_ | refine blk_alloc ?_ _)); refine blk_far ?_ (by have h_ := Kd.R_ne HO_826007.out BK825.out (by decide); intro e_; exact h_ (by rw [e_]; rfl)) _; (with_reducible repeat (first | refine blk_drewN ?_ _ | refine blk_drew ?_ | refine blk_alloc ?_ _)); refine blk_far ?_ (by have h_ := Kd.R_ne HO_826007.out BK825.out (by decide); intro e_; exact h_ (by rw [e_]; rfl)) _; (with_reducible repeat (first | refine blk_drewN ?_ _ | refine blk_drew ?_ | refine blk_alloc ?_ _)); refine blk_far ?_ (by have h_ := Kd.R_ne HO_826007.out BK825.out (by decide); intro e_; exact h_ (by rw [e_]; rfl)) _; (with_reducible repeat (first | refine blk_drewN ?_ _ | refine blk_drew ?_ | refine blk_alloc ?_ _)); refine blk_far ?_ (by have h_ := Kd.R_ne HO_826007.out BK825.out (by decide); intro e_; exact h_ (by rw [e_]; rfl)) _; (with_reducible repeat (first | refine blk_drewN ?_ _ | refine blk_drew ?_ | refine blk_alloc ?_ _)); refine blk_far ?_ (by have h_ := Kd.R_ne HO_826007.out BK825.out (by decide); intro e_; exact h_ (by rw [e_]; rfl)) _; (with_reducible repeat (first | refine blk_drewN ?_ _ | refine blk_drew ?_ | refine blk_alloc ?_ _)); exact BK825.out⟩, ⟨by (with_reducible repeat (first | refine blk_drewN ?_ _ | refine blk_drew ?_ | refine blk_alloc ?_ _)); refine blk_far ?_ (by have h_ := Kd.R_ne HO_826007.out BK826.out (by decide); intro e_; exact h_ (by rw [e_]; rfl)) _; (with_reducible repeat (first | refine blk_drewN ?_ _ | refine blk_drew ?_ | refine blk_alloc ?_ _)); refine blk_far ?_ (by have h_ := Kd.R_ne HO_826007.out BK826.out (by decide); intro e_; exact h_ (by rw [e_]; rfl)) _; (with_reducible repeat (first | refine blk_drewN ?_ _ | refine blk_drew ?_ | refine blk_alloc ?_ _)); refine blk_far ?_ (by have h_ := Kd.R_ne HO_826007.out BK826.out (by decide); intro e_; exact h_ (by rw [e_]; rfl)) _; (with_reducible repeat (first | refine blk_drewN ?_ _ | refine blk_drew ?_ | refine blk_alloc ?_ _)); refine blk_far ?_ (by have h_ := Kd.R_ne HO_826007.out BK826.out (by decide); intro e_; exact h_ (by rw [e_]; rfl)) _; (with_reducible repeat (first | refine blk_drewN ?_ _ | refine blk_drew ?_ | refine blk_alloc ?_ _)); refine blk_far ?_ (by have h_ := Kd.R_ne HO_826007.out BK826.out (by decide); intro e_; exact h_ (by rw [e_]; rfl)) _; (with_reducible repeat (first | refine blk_drewN ?_ _ | refine blk_drew ?_ | refine blk_alloc ?_ _)); refine blk_far ?_ (by have h_ := Kd.R_ne HO_826007.out BK826.out (by decide); intro e_; exact h_ (by rw [e_]; rfl)) _; (with_reducible repeat (first | refine blk_drewN ?_ _ | refine blk_drew ?_ | refine blk_alloc ?_ _)); refine blk_far ?_ (by have h_ := Kd.R_ne HO_826007.out BK826.out (by decide); intro e_; exact h_ (by rw [e_]; rfl)) _; (with_reducible repeat (first | refine blk_drewN ?_ _ | refine blk_drew ?_ | refine blk_alloc ?_ _)); refine blk_far ?_ (by have h_ := Kd.R_ne HO_826007.out BK826.out (by decide); intro e_; exact h_ (by rw [e_]; rfl)) _; (with_reducible repeat (first | refine blk_drewN ?_ _ | refine blk_drew ?_ | refine blk_alloc ?_ _)); exact BK826.out⟩, ⟨by repeat (first | (with_reducible first | exact HB.out | apply below_alloc | apply pw_below_drewN | apply below_drew1 | refine below_set ?_ GB23.out | refine below_set ?_ GB23.out | refine below_set ?_ GB23.out | refine below_set ?_ GB23.out | refine below_set ?_ GB23.out | refine below_set ?_ GB23.out | refine below_set ?_ GB23.out | refine below_set ?_ GB23.out | refine below_set ?_ GE825.out | refine below_set ?_ GE826.out) | exact HB.out)⟩⟩
                · rw [if_neg c21] at H
                  exact absurd H (by simp)
              · rw [if_neg c20] at H
                exact absurd H (by simp)
            · rw [if_neg c19] at H
              have c19b0 : decide (x20_2 < (t834.length : Int)) = false := decide_eq_false c19
              clear c19
              replace H := Option.bind_eq_some_iff.mp H
              obtain ⟨⟨t852, t853, t854, t855, t856, t857, t858, t859, t862, t863, t864, t865, t866, t867⟩, A280, H⟩ := H
              replace H : (some (t852, t853, t854, t855, t856, t857, t858, t859, t862, t863, t864, t865, t866, t867)) = some (r1, r2, r3, r4, r5, r6, r7, r8, r9, r10, r11, r12, r13, r14) := H
              have A28 := Aside0.mk A280
              clear A280
              simp only [Option.some.injEq, Prod.mk.injEq] at H
              obtain ⟨rfl, rfl, rfl, rfl, rfl, rfl, rfl, rfl, rfl, rfl, rfl, rfl, rfl, rfl⟩ := H
              have hnb29 := NB825_826.out
              have hnc29 := NB826_825.out
              obtain ⟨hcz30_0, hcz30_1, hcz30_2, hcz30_3, hcz30_4, hcz30_5, hcz30_6, hcz30_7, hcz30_8, hcz30_9, hcz30_10, hcz30_11, hcz30_12⟩ := bc13 BK825.out
              obtain ⟨hfz30_0, hfz30_1, hfz30_2, hfz30_3, hfz30_4, hfz30_5, hfz30_6, hfz30_7, hfz30_8, hfz30_9, hfz30_10, hfz30_11, hfz30_12⟩ := bf13 BK825.out
              obtain ⟨Ao31, co31, eo31⟩ := Kd.R_slice HO_826007.out
              subst eo31
              go_wp2_with (first | ((with_reducible refine gate_callee (f := 33) rfl ?_); refine goesL_ (some 35) rfl rfl Try.func33 (by kernel_rfl) rfl #[.agg #[.int .u8 3, .int .i64 t828, .int .i64 t829, .int .i64 t830, .int .i64 t831, .int .i64 t832, .bool t833, .slice Ao31 x826007_2.length co31, .int .i64 t837, .int .i64 t838, .int .i64 t839, .int .i64 t840, .int .i64 t841]] rfl (by (try simp only [List.map_toArray, List.map_cons, List.map_nil]); first | done | rfl | (simp only [List.length_drop, List.length_take]; rfl)) ?_; (with_reducible refine (account_settle.calls k2 3 t828 t829 t830 t831 t832 t833 _ _ x826007_2 t837 t838 t839 t840 t841 t852 t853 t854 t855 t856 t857 t858 t859 t862 t863 t864 t865 t866 t867 _ ?side1 ?side2 A28.out).mono ?_); (case side1 => repeat (first | exact (Kd.R_reads' HO_826007.out).2.2 | (with_reducible refine Kd.C_alloc ?_ _) | (with_reducible refine Kd.C_drewN ?_ _) | (with_reducible refine Kd.C_drew ?_))); (case side2 => exact (Kd.R_reads' HO_826007.out).2.1); rintro e w32 ⟨v860, rfl, ho0, hb⟩; refine ⟨_, rfl, ?_⟩; have n0_ := Aside0.mk (Kd.R_elder' (by (with_reducible repeat (first | apply Kd.R_alloc | apply Kd.R_drewN | apply Kd.R_drew)); exact HO_826007.out) (Kd.R_base ho0) hb); have n1_ := Aside0.mk (Kd.R_lower (Kd.R_new' ho0 (Kd.R_lt (by (with_reducible repeat (first | apply Kd.R_alloc | apply Kd.R_drewN | apply Kd.R_drew)); exact HO_826007.out))) (below_size (by repeat (first | (with_reducible first | exact HB.out | apply below_alloc | apply pw_below_drewN | apply below_drew1 | refine below_set ?_ GE825.out | refine below_set ?_ GE826.out) | exact HB.out)))); have n2_ := Aside0.mk (blk_below (g := gb825) (o := .cells #[.int .u8 3, .int .i64 t828, .int .i64 t829, .int .i64 t830, .int .i64 t831, .int .i64 t832, .bool t833, .slice Ao31 x826007_2.length co31, .int .i64 t837, .int .i64 t838, .int .i64 t839, .int .i64 t840, .int .i64 t841] 31 (0, 0)) (by (with_reducible repeat (first | refine blk_drewN ?_ _ | refine blk_drew ?_ | refine blk_alloc ?_ _)); exact BK825.out) hb); have n3_ := Aside0.mk (blk_below (g := gb826) (o := .cells #[.int .u8 0, .int .i64 0, .int .i64 0, .int .i64 0, .int .i64 0, .int .i64 0, .bool false, .slice none 0 0, .int .i64 0, .int .i64 0, .int .i64 0, .int .i64 0, .int .i64 0] 31 (0, 0)) (by (with_reducible repeat (first | refine blk_drewN ?_ _ | refine blk_drew ?_ | refine blk_alloc ?_ _)); exact BK826.out) hb); have n4_ := Aside0.mk (below_step (by repeat (first | (with_reducible first | exact HB.out | apply below_alloc | apply pw_below_drewN | apply below_drew1 | refine below_set ?_ GE825.out | refine below_set ?_ GE826.out) | exact HB.out)) hb); clear HO_826007; clear BK825; clear BK826; clear HB; have HO_826007 := n0_; have HO861 := n1_; have BK825 := n2_; have BK826 := n3_; have HB := n4_; clear n0_ n1_ n2_ n3_ n4_; (try clear hb); (try clear hb2); (try clear hk); (try clear hi); (try clear ho0); obtain ⟨hcz33_0, hcz33_1, hcz33_2, hcz33_3, hcz33_4, hcz33_5, hcz33_6, hcz33_7, hcz33_8, hcz33_9, hcz33_10, hcz33_11, hcz33_12⟩ := bc13 BK826.out; obtain ⟨hfz33_0, hfz33_1, hfz33_2, hfz33_3, hfz33_4, hfz33_5, hfz33_6, hfz33_7, hfz33_8, hfz33_9, hfz33_10, hfz33_11, hfz33_12⟩ := bf13 BK826.out; obtain ⟨Ao34, co34, eo34⟩ := Kd.R_slice HO861.out; subst eo34))
              refine bodyPost_ret (results_ct rfl _ _ gb826 31 #[.int .u8 t852, .int .i64 t853, .int .i64 t854, .int .i64 t855, .int .i64 t856, .int .i64 t857, .bool t858, .slice Ao34 t859.length co34, .int .i64 t862, .int .i64 t863, .int .i64 t864, .int .i64 t865, .int .i64 t866] (0, 0) _ rfl (by (with_reducible repeat (first | refine blk_drewN ?_ _ | refine blk_drew ?_ | refine blk_alloc ?_ _)); refine bp13 (.int .u8 0) (.int .i64 0) (.int .i64 0) (.int .i64 0) (.int .i64 0) (.int .i64 0) (.bool false) (.slice none 0 0) (.int .i64 0) (.int .i64 0) (.int .i64 0) (.int .i64 0) (.int .i64 0) ?_; (with_reducible repeat (first | refine blk_drewN ?_ _ | refine blk_drew ?_ | refine blk_alloc ?_ _)); exact BK826.out) Try.underlying31 rfl (by kernel_rfl)) rfl ?_
              exact ⟨_, by first | rfl | (simp [errW_none, errW_some] <;> rfl) | (simp [*, errW_none, errW_some] <;> rfl), by (with_reducible repeat (first | apply Kd.R_alloc | apply Kd.R_drewN | apply Kd.R_drew)); exact Kd.R_mono (Kd.R_step (Kd.R_types HO861.out BK826.out (by decide)) (fun _ hk _ => by (with_reducible repeat (first | refine (hst (g := gb826) hk.2 _ _).trans ?_ | refine (hdn _ _ _).trans ?_ | refine (hd1 _ _).trans ?_)); rfl)) (fun _ hk => trivial), by repeat (first | (with_reducible first | exact HB.out | apply below_alloc | apply pw_below_drewN | apply below_drew1 | refine below_set ?_ GE825.out | refine below_set ?_ GE826.out) | exact HB.out)⟩

end Go.Proofs.Ytnpcodfeggcdbaa.PAcc
