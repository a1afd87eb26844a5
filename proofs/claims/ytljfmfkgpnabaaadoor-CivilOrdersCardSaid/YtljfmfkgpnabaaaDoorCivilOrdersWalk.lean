/- The walk of CivilOrders: days stand in the order of their numbers and texts. -/
import Derived.Test.YtljfmfkgpnabaaaDoorTextBase
import Derived.OpenShut
set_option linter.unusedVariables false
set_option linter.unusedSimpArgs false
namespace Go.Proofs.YtljfmfkgpnabaaaDoor.Pure
open Go.RowKit Go.Proofs.YtljfmfkgpnabaaaDoor.Pawake Go.Proofs.YtljfmfkgpnabaaaDoor.PMonth Go.Proofs.YtljfmfkgpnabaaaDoorW.PrintWords Go.Proofs.YtljfmfkgpnabaaaDoorW.PrintLast
open Go.Proofs.YtljfmfkgpnabaaaDoor
attribute [local go_sem] setCell_map
theorem number_calls (y m d n : Int) (w : World) (h : Cal.valid y m d) (hn : Cal.num y m d = n) :
    Calls Tryd.prog 6 #[.agg #[.int .i64 y, .int .i64 m, .int .i64 d]] w fun e w' => e = .returned (.tuple #[.int .i64 n, .int .i64 0]) ∧ Below w.heap.size w w' :=
  civil_Number.calls 15 y m d _ _ w (by rw [number_yes 15 (by omega) y m d h, hn])
theorem awake_calls (w : World) : Calls Tryd.prog 7 #[] w fun e w' => e = .returned (.bool true) ∧ Below w.heap.size w w' :=
  paybooklaw01_awake.calls 15 true w (awake_yes 15 (by omega))
set_option maxHeartbeats 8000000 in
theorem orders_y1 (a0 b0 : Int) (w : World) (b1 : 0 ≤ a0 ∧ a0 ≤ 4294967295) (b2 : 0 ≤ b0 ∧ b0 ≤ 4294967295) (ht : TB w) (y m d y' m' d' : Int) (hv : Cal.valid y m d) (hn : Cal.num y m d = a0 % 3652059) (hv' : Cal.valid y' m' d') (hn' : Cal.num y' m' d' = b0 % 3652059) (c : y < y') :
    Calls Tryd.prog 3 #[.int .u32 a0, .int .u32 b0] w fun e w' => e = .returned (.bool true) ∧ Below w.heap.size w w' := by
  have hlt := Cal.num_less y m d y' m' d' hv hv' (Or.inl c)
  have hn1 : a0 % 3652059 < b0 % 3652059 := by omega
  have e1 : decide (a0 % 3652059 < b0 % 3652059) = true := by exact decide_eq_true hn1
  have e2 : (a0 % 3652059 == b0 % 3652059) = false := by exact beq_eq_false_iff_ne.2 (by omega)
  have e3 : Op.bytesLess (Txt.txt y m d) (Txt.txt y' m' d') = true := by
    exact (text_less y m d y' m' d' hv hv').2 (Or.inl c)
  have f0 : decide (y < y') = true := decide_eq_true (by omega)
  have f1 : (y == y') = false := beq_eq_false_iff_ne.2 (by omega)
  have HV := Aside0.mk hv
  have HN := Aside0.mk hn
  have HV' := Aside0.mk hv'
  have HN' := Aside0.mk hn'
  have HT := Aside0.mk ht
  clear hv hn hv' hn' ht hn1 c hlt
  go_enter Tryd.func3, Tryd.ntmps3
  go_wp2_with fail
  with_reducible refine (rof_calls _ _ (by omega) (by omega) y m d HV.out HN.out).mono ?_
  rintro e w1 ⟨rfl, hb⟩
  have GB := Aside0.mk hb
  clear hb
  go_wp2_with fail
  with_reducible refine (rof_calls _ _ (by omega) (by omega) y' m' d' HV'.out HN'.out).mono ?_
  rintro e w2 ⟨rfl, hb⟩
  have B1 := Aside0.mk (blk_below (blk_new w1 (.cells #[.int .i64 y, .int .i64 m, .int .i64 d] 24)) hb)
  have GB := Aside0.mk (below_step (below_alloc GB.out _) hb)
  have hl1 := Aside0.mk (blk_lt B1.out)
  clear hb
  have k0 : w2.cell? ⟨w1.heap.size, 0, none⟩ = some (.int .i64 y) := (blk_cell B1.out 0).trans rfl
  have k1 : w2.cell? ⟨w1.heap.size, 1, none⟩ = some (.int .i64 m) := (blk_cell B1.out 1).trans rfl
  have k2 : w2.cell? ⟨w1.heap.size, 2, none⟩ = some (.int .i64 d) := (blk_cell B1.out 2).trans rfl
  have q0 : (w2.alloc (.cells #[.int .i64 y', .int .i64 m', .int .i64 d'] 24)).cell? ⟨w1.heap.size, 0, none⟩ = some (.int .i64 y) := (World.cell?_alloc_lt _ _ _ hl1.out).trans k0
  have q1 : (w2.alloc (.cells #[.int .i64 y', .int .i64 m', .int .i64 d'] 24)).cell? ⟨w1.heap.size, 1, none⟩ = some (.int .i64 m) := (World.cell?_alloc_lt _ _ _ hl1.out).trans k1
  have q2 : (w2.alloc (.cells #[.int .i64 y', .int .i64 m', .int .i64 d'] 24)).cell? ⟨w1.heap.size, 2, none⟩ = some (.int .i64 d) := (World.cell?_alloc_lt _ _ _ hl1.out).trans k2
  go_wp2_with fail
  with_reducible refine (number_calls y m d _ _ HV.out HN.out).mono ?_
  rintro e w3 ⟨rfl, hb⟩
  have B2 := Aside0.mk (blk_below (blk_new w2 (.cells #[.int .i64 y', .int .i64 m', .int .i64 d'] 24)) hb)
  have B1 := Aside0.mk (blk_below (blk_alloc B1.out _) hb)
  have GB := Aside0.mk (below_step (below_alloc GB.out _) hb)
  clear hb k0 k1 k2 q0 q1 q2
  have r0 : w3.cell? ⟨w2.heap.size, 0, none⟩ = some (.int .i64 y') := (blk_cell B2.out 0).trans rfl
  have r1 : w3.cell? ⟨w2.heap.size, 1, none⟩ = some (.int .i64 m') := (blk_cell B2.out 1).trans rfl
  have r2 : w3.cell? ⟨w2.heap.size, 2, none⟩ = some (.int .i64 d') := (blk_cell B2.out 2).trans rfl
  go_wp2_with fail
  with_reducible refine (number_calls y' m' d' _ _ HV'.out HN'.out).mono ?_
  rintro e w4 ⟨rfl, hb⟩
  have B2 := Aside0.mk (blk_below B2.out hb)
  have B1 := Aside0.mk (blk_below B1.out hb)
  have GB := Aside0.mk (below_step GB.out hb)
  clear hb r0 r1 r2
  have k0 : w4.cell? ⟨w1.heap.size, 0, none⟩ = some (.int .i64 y) := (blk_cell B1.out 0).trans rfl
  have k1 : w4.cell? ⟨w1.heap.size, 1, none⟩ = some (.int .i64 m) := (blk_cell B1.out 1).trans rfl
  have k2 : w4.cell? ⟨w1.heap.size, 2, none⟩ = some (.int .i64 d) := (blk_cell B1.out 2).trans rfl
  have r0 : w4.cell? ⟨w2.heap.size, 0, none⟩ = some (.int .i64 y') := (blk_cell B2.out 0).trans rfl
  have r1 : w4.cell? ⟨w2.heap.size, 1, none⟩ = some (.int .i64 m') := (blk_cell B2.out 1).trans rfl
  have r2 : w4.cell? ⟨w2.heap.size, 2, none⟩ = some (.int .i64 d') := (blk_cell B2.out 2).trans rfl
  go_wp2_with fail
  have gb : Aside0 (Below w.heap.size w w4.drew) := ⟨below_drew1 GB.out⟩
  have p0 : w4.drew.cell? ⟨w1.heap.size, 0, none⟩ = some (.int .i64 y) := k0
  have p1 : w4.drew.cell? ⟨w1.heap.size, 1, none⟩ = some (.int .i64 m) := k1
  have p2 : w4.drew.cell? ⟨w1.heap.size, 2, none⟩ = some (.int .i64 d) := k2
  have p3 : w4.drew.cell? ⟨w2.heap.size, 0, none⟩ = some (.int .i64 y') := r0
  have p4 : w4.drew.cell? ⟨w2.heap.size, 1, none⟩ = some (.int .i64 m') := r1
  have p5 : w4.drew.cell? ⟨w2.heap.size, 2, none⟩ = some (.int .i64 d') := r2
  go_region_held3 (fun w' => w'.cell? ⟨w1.heap.size, 0, none⟩ = some (.int .i64 y) ∧ w'.cell? ⟨w1.heap.size, 1, none⟩ = some (.int .i64 m) ∧ w'.cell? ⟨w1.heap.size, 2, none⟩ = some (.int .i64 d) ∧ w'.cell? ⟨w2.heap.size, 0, none⟩ = some (.int .i64 y') ∧ w'.cell? ⟨w2.heap.size, 1, none⟩ = some (.int .i64 m') ∧ w'.cell? ⟨w2.heap.size, 2, none⟩ = some (.int .i64 d') ∧ Aside0 (Below w.heap.size w w')) (first | exact ⟨by assumption, by assumption, by assumption, by assumption, by assumption, by assumption, by assumption⟩ | go_keep) (first | (go_at_call 7; refine (awake_calls _).mono ?_; rintro e w5 ⟨rfl, hb5⟩; have a0 : w5.cell? ⟨w1.heap.size, 0, none⟩ = some (.int .i64 y) := pw_cell_below hb5 (by first | assumption | go_keep); have a1 : w5.cell? ⟨w1.heap.size, 1, none⟩ = some (.int .i64 m) := pw_cell_below hb5 (by first | assumption | go_keep); have a2 : w5.cell? ⟨w1.heap.size, 2, none⟩ = some (.int .i64 d) := pw_cell_below hb5 (by first | assumption | go_keep); have a3 : w5.cell? ⟨w2.heap.size, 0, none⟩ = some (.int .i64 y') := pw_cell_below hb5 (by first | assumption | go_keep); have a4 : w5.cell? ⟨w2.heap.size, 1, none⟩ = some (.int .i64 m') := pw_cell_below hb5 (by first | assumption | go_keep); have a5 : w5.cell? ⟨w2.heap.size, 2, none⟩ = some (.int .i64 d') := pw_cell_below hb5 (by first | assumption | go_keep); have GB5 : Aside0 (Below w.heap.size w w5) := ⟨below_step (Aside0.out (by assumption)) hb5⟩) | (go_at_call_of 8 (Value.agg #[.int .i64 y, .int .i64 m, .int .i64 d]); refine (text_calls y m d _ HV.out (HT.out.step (Aside0.out (by assumption)))).mono ?_; rintro e w6 ⟨rfl, hb6⟩; have b0 : w6.cell? ⟨w1.heap.size, 0, none⟩ = some (.int .i64 y) := pw_cell_below hb6 (by first | assumption | go_keep); have b1 : w6.cell? ⟨w1.heap.size, 1, none⟩ = some (.int .i64 m) := pw_cell_below hb6 (by first | assumption | go_keep); have b2 : w6.cell? ⟨w1.heap.size, 2, none⟩ = some (.int .i64 d) := pw_cell_below hb6 (by first | assumption | go_keep); have b3 : w6.cell? ⟨w2.heap.size, 0, none⟩ = some (.int .i64 y') := pw_cell_below hb6 (by first | assumption | go_keep); have b4 : w6.cell? ⟨w2.heap.size, 1, none⟩ = some (.int .i64 m') := pw_cell_below hb6 (by first | assumption | go_keep); have b5 : w6.cell? ⟨w2.heap.size, 2, none⟩ = some (.int .i64 d') := pw_cell_below hb6 (by first | assumption | go_keep); have GB6 : Aside0 (Below w.heap.size w w6) := ⟨below_step (Aside0.out (by assumption)) hb6⟩) | (go_at_call_of 8 (Value.agg #[.int .i64 y', .int .i64 m', .int .i64 d']); refine (text_calls y' m' d' _ HV'.out (HT.out.step (Aside0.out (by assumption)))).mono ?_; rintro e w7 ⟨rfl, hb7⟩; have c0 : w7.cell? ⟨w1.heap.size, 0, none⟩ = some (.int .i64 y) := pw_cell_below hb7 (by first | assumption | go_keep); have c1 : w7.cell? ⟨w1.heap.size, 1, none⟩ = some (.int .i64 m) := pw_cell_below hb7 (by first | assumption | go_keep); have c2 : w7.cell? ⟨w1.heap.size, 2, none⟩ = some (.int .i64 d) := pw_cell_below hb7 (by first | assumption | go_keep); have c3 : w7.cell? ⟨w2.heap.size, 0, none⟩ = some (.int .i64 y') := pw_cell_below hb7 (by first | assumption | go_keep); have c4 : w7.cell? ⟨w2.heap.size, 1, none⟩ = some (.int .i64 m') := pw_cell_below hb7 (by first | assumption | go_keep); have c5 : w7.cell? ⟨w2.heap.size, 2, none⟩ = some (.int .i64 d') := pw_cell_below hb7 (by first | assumption | go_keep); have GB7 : Aside0 (Below w.heap.size w w7) := ⟨below_step (Aside0.out (by assumption)) hb7⟩))
  all_goals go_wp2_with fail
  all_goals go_ret
  all_goals exact ⟨by first | rfl | (simp; done), Aside0.out (by assumption)⟩
set_option maxHeartbeats 8000000 in
theorem orders_y2 (a0 b0 : Int) (w : World) (b1 : 0 ≤ a0 ∧ a0 ≤ 4294967295) (b2 : 0 ≤ b0 ∧ b0 ≤ 4294967295) (ht : TB w) (y m d y' m' d' : Int) (hv : Cal.valid y m d) (hn : Cal.num y m d = a0 % 3652059) (hv' : Cal.valid y' m' d') (hn' : Cal.num y' m' d' = b0 % 3652059) (c : y' < y) :
    Calls Tryd.prog 3 #[.int .u32 a0, .int .u32 b0] w fun e w' => e = .returned (.bool true) ∧ Below w.heap.size w w' := by
  have hlt := Cal.num_less y' m' d' y m d hv' hv (Or.inl c)
  have hn1 : b0 % 3652059 < a0 % 3652059 := by omega
  have e1 : decide (a0 % 3652059 < b0 % 3652059) = false := by exact decide_eq_false (by omega)
  have e2 : (a0 % 3652059 == b0 % 3652059) = false := by exact beq_eq_false_iff_ne.2 (by omega)
  have e3 : Op.bytesLess (Txt.txt y m d) (Txt.txt y' m' d') = false := by
    rw [Bool.eq_false_iff]; intro q; have := (text_less y m d y' m' d' hv hv').1 q; omega
  have f0 : decide (y < y') = false := decide_eq_false (by omega)
  have f1 : (y == y') = false := beq_eq_false_iff_ne.2 (by omega)
  have HV := Aside0.mk hv
  have HN := Aside0.mk hn
  have HV' := Aside0.mk hv'
  have HN' := Aside0.mk hn'
  have HT := Aside0.mk ht
  clear hv hn hv' hn' ht hn1 c hlt
  go_enter Tryd.func3, Tryd.ntmps3
  go_wp2_with fail
  with_reducible refine (rof_calls _ _ (by omega) (by omega) y m d HV.out HN.out).mono ?_
  rintro e w1 ⟨rfl, hb⟩
  have GB := Aside0.mk hb
  clear hb
  go_wp2_with fail
  with_reducible refine (rof_calls _ _ (by omega) (by omega) y' m' d' HV'.out HN'.out).mono ?_
  rintro e w2 ⟨rfl, hb⟩
  have B1 := Aside0.mk (blk_below (blk_new w1 (.cells #[.int .i64 y, .int .i64 m, .int .i64 d] 24)) hb)
  have GB := Aside0.mk (below_step (below_alloc GB.out _) hb)
  have hl1 := Aside0.mk (blk_lt B1.out)
  clear hb
  have k0 : w2.cell? ⟨w1.heap.size, 0, none⟩ = some (.int .i64 y) := (blk_cell B1.out 0).trans rfl
  have k1 : w2.cell? ⟨w1.heap.size, 1, none⟩ = some (.int .i64 m) := (blk_cell B1.out 1).trans rfl
  have k2 : w2.cell? ⟨w1.heap.size, 2, none⟩ = some (.int .i64 d) := (blk_cell B1.out 2).trans rfl
  have q0 : (w2.alloc (.cells #[.int .i64 y', .int .i64 m', .int .i64 d'] 24)).cell? ⟨w1.heap.size, 0, none⟩ = some (.int .i64 y) := (World.cell?_alloc_lt _ _ _ hl1.out).trans k0
  have q1 : (w2.alloc (.cells #[.int .i64 y', .int .i64 m', .int .i64 d'] 24)).cell? ⟨w1.heap.size, 1, none⟩ = some (.int .i64 m) := (World.cell?_alloc_lt _ _ _ hl1.out).trans k1
  have q2 : (w2.alloc (.cells #[.int .i64 y', .int .i64 m', .int .i64 d'] 24)).cell? ⟨w1.heap.size, 2, none⟩ = some (.int .i64 d) := (World.cell?_alloc_lt _ _ _ hl1.out).trans k2
  go_wp2_with fail
  with_reducible refine (number_calls y m d _ _ HV.out HN.out).mono ?_
  rintro e w3 ⟨rfl, hb⟩
  have B2 := Aside0.mk (blk_below (blk_new w2 (.cells #[.int .i64 y', .int .i64 m', .int .i64 d'] 24)) hb)
  have B1 := Aside0.mk (blk_below (blk_alloc B1.out _) hb)
  have GB := Aside0.mk (below_step (below_alloc GB.out _) hb)
  clear hb k0 k1 k2 q0 q1 q2
  have r0 : w3.cell? ⟨w2.heap.size, 0, none⟩ = some (.int .i64 y') := (blk_cell B2.out 0).trans rfl
  have r1 : w3.cell? ⟨w2.heap.size, 1, none⟩ = some (.int .i64 m') := (blk_cell B2.out 1).trans rfl
  have r2 : w3.cell? ⟨w2.heap.size, 2, none⟩ = some (.int .i64 d') := (blk_cell B2.out 2).trans rfl
  go_wp2_with fail
  with_reducible refine (number_calls y' m' d' _ _ HV'.out HN'.out).mono ?_
  rintro e w4 ⟨rfl, hb⟩
  have B2 := Aside0.mk (blk_below B2.out hb)
  have B1 := Aside0.mk (blk_below B1.out hb)
  have GB := Aside0.mk (below_step GB.out hb)
  clear hb r0 r1 r2
  have k0 : w4.cell? ⟨w1.heap.size, 0, none⟩ = some (.int .i64 y) := (blk_cell B1.out 0).trans rfl
  have k1 : w4.cell? ⟨w1.heap.size, 1, none⟩ = some (.int .i64 m) := (blk_cell B1.out 1).trans rfl
  have k2 : w4.cell? ⟨w1.heap.size, 2, none⟩ = some (.int .i64 d) := (blk_cell B1.out 2).trans rfl
  have r0 : w4.cell? ⟨w2.heap.size, 0, none⟩ = some (.int .i64 y') := (blk_cell B2.out 0).trans rfl
  have r1 : w4.cell? ⟨w2.heap.size, 1, none⟩ = some (.int .i64 m') := (blk_cell B2.out 1).trans rfl
  have r2 : w4.cell? ⟨w2.heap.size, 2, none⟩ = some (.int .i64 d') := (blk_cell B2.out 2).trans rfl
  go_wp2_with fail
  have gb : Aside0 (Below w.heap.size w w4.drew) := ⟨below_drew1 GB.out⟩
  have p0 : w4.drew.cell? ⟨w1.heap.size, 0, none⟩ = some (.int .i64 y) := k0
  have p1 : w4.drew.cell? ⟨w1.heap.size, 1, none⟩ = some (.int .i64 m) := k1
  have p2 : w4.drew.cell? ⟨w1.heap.size, 2, none⟩ = some (.int .i64 d) := k2
  have p3 : w4.drew.cell? ⟨w2.heap.size, 0, none⟩ = some (.int .i64 y') := r0
  have p4 : w4.drew.cell? ⟨w2.heap.size, 1, none⟩ = some (.int .i64 m') := r1
  have p5 : w4.drew.cell? ⟨w2.heap.size, 2, none⟩ = some (.int .i64 d') := r2
  go_region_held3 (fun w' => w'.cell? ⟨w1.heap.size, 0, none⟩ = some (.int .i64 y) ∧ w'.cell? ⟨w1.heap.size, 1, none⟩ = some (.int .i64 m) ∧ w'.cell? ⟨w1.heap.size, 2, none⟩ = some (.int .i64 d) ∧ w'.cell? ⟨w2.heap.size, 0, none⟩ = some (.int .i64 y') ∧ w'.cell? ⟨w2.heap.size, 1, none⟩ = some (.int .i64 m') ∧ w'.cell? ⟨w2.heap.size, 2, none⟩ = some (.int .i64 d') ∧ Aside0 (Below w.heap.size w w')) (first | exact ⟨by assumption, by assumption, by assumption, by assumption, by assumption, by assumption, by assumption⟩ | go_keep) (first | (go_at_call 7; refine (awake_calls _).mono ?_; rintro e w5 ⟨rfl, hb5⟩; have a0 : w5.cell? ⟨w1.heap.size, 0, none⟩ = some (.int .i64 y) := pw_cell_below hb5 (by first | assumption | go_keep); have a1 : w5.cell? ⟨w1.heap.size, 1, none⟩ = some (.int .i64 m) := pw_cell_below hb5 (by first | assumption | go_keep); have a2 : w5.cell? ⟨w1.heap.size, 2, none⟩ = some (.int .i64 d) := pw_cell_below hb5 (by first | assumption | go_keep); have a3 : w5.cell? ⟨w2.heap.size, 0, none⟩ = some (.int .i64 y') := pw_cell_below hb5 (by first | assumption | go_keep); have a4 : w5.cell? ⟨w2.heap.size, 1, none⟩ = some (.int .i64 m') := pw_cell_below hb5 (by first | assumption | go_keep); have a5 : w5.cell? ⟨w2.heap.size, 2, none⟩ = some (.int .i64 d') := pw_cell_below hb5 (by first | assumption | go_keep); have GB5 : Aside0 (Below w.heap.size w w5) := ⟨below_step (Aside0.out (by assumption)) hb5⟩) | (go_at_call_of 8 (Value.agg #[.int .i64 y, .int .i64 m, .int .i64 d]); refine (text_calls y m d _ HV.out (HT.out.step (Aside0.out (by assumption)))).mono ?_; rintro e w6 ⟨rfl, hb6⟩; have b0 : w6.cell? ⟨w1.heap.size, 0, none⟩ = some (.int .i64 y) := pw_cell_below hb6 (by first | assumption | go_keep); have b1 : w6.cell? ⟨w1.heap.size, 1, none⟩ = some (.int .i64 m) := pw_cell_below hb6 (by first | assumption | go_keep); have b2 : w6.cell? ⟨w1.heap.size, 2, none⟩ = some (.int .i64 d) := pw_cell_below hb6 (by first | assumption | go_keep); have b3 : w6.cell? ⟨w2.heap.size, 0, none⟩ = some (.int .i64 y') := pw_cell_below hb6 (by first | assumption | go_keep); have b4 : w6.cell? ⟨w2.heap.size, 1, none⟩ = some (.int .i64 m') := pw_cell_below hb6 (by first | assumption | go_keep); have b5 : w6.cell? ⟨w2.heap.size, 2, none⟩ = some (.int .i64 d') := pw_cell_below hb6 (by first | assumption | go_keep); have GB6 : Aside0 (Below w.heap.size w w6) := ⟨below_step (Aside0.out (by assumption)) hb6⟩) | (go_at_call_of 8 (Value.agg #[.int .i64 y', .int .i64 m', .int .i64 d']); refine (text_calls y' m' d' _ HV'.out (HT.out.step (Aside0.out (by assumption)))).mono ?_; rintro e w7 ⟨rfl, hb7⟩; have c0 : w7.cell? ⟨w1.heap.size, 0, none⟩ = some (.int .i64 y) := pw_cell_below hb7 (by first | assumption | go_keep); have c1 : w7.cell? ⟨w1.heap.size, 1, none⟩ = some (.int .i64 m) := pw_cell_below hb7 (by first | assumption | go_keep); have c2 : w7.cell? ⟨w1.heap.size, 2, none⟩ = some (.int .i64 d) := pw_cell_below hb7 (by first | assumption | go_keep); have c3 : w7.cell? ⟨w2.heap.size, 0, none⟩ = some (.int .i64 y') := pw_cell_below hb7 (by first | assumption | go_keep); have c4 : w7.cell? ⟨w2.heap.size, 1, none⟩ = some (.int .i64 m') := pw_cell_below hb7 (by first | assumption | go_keep); have c5 : w7.cell? ⟨w2.heap.size, 2, none⟩ = some (.int .i64 d') := pw_cell_below hb7 (by first | assumption | go_keep); have GB7 : Aside0 (Below w.heap.size w w7) := ⟨below_step (Aside0.out (by assumption)) hb7⟩))
  all_goals go_wp2_with fail
  all_goals go_ret
  all_goals exact ⟨by first | rfl | (simp; done), Aside0.out (by assumption)⟩
set_option maxHeartbeats 8000000 in
theorem orders_m1 (a0 b0 : Int) (w : World) (b1 : 0 ≤ a0 ∧ a0 ≤ 4294967295) (b2 : 0 ≤ b0 ∧ b0 ≤ 4294967295) (ht : TB w) (y m d y' m' d' : Int) (hv : Cal.valid y m d) (hn : Cal.num y m d = a0 % 3652059) (hv' : Cal.valid y' m' d') (hn' : Cal.num y' m' d' = b0 % 3652059) (c0 : y = y') (c : m < m') :
    Calls Tryd.prog 3 #[.int .u32 a0, .int .u32 b0] w fun e w' => e = .returned (.bool true) ∧ Below w.heap.size w w' := by
  have hlt := Cal.num_less y m d y' m' d' hv hv' (Or.inr ⟨c0, Or.inl c⟩)
  have hn1 : a0 % 3652059 < b0 % 3652059 := by omega
  have e1 : decide (a0 % 3652059 < b0 % 3652059) = true := by exact decide_eq_true hn1
  have e2 : (a0 % 3652059 == b0 % 3652059) = false := by exact beq_eq_false_iff_ne.2 (by omega)
  have e3 : Op.bytesLess (Txt.txt y m d) (Txt.txt y' m' d') = true := by
    exact (text_less y m d y' m' d' hv hv').2 (Or.inr ⟨c0, Or.inl c⟩)
  have f0 : decide (y < y') = false := decide_eq_false (by omega)
  have f1 : (y == y') = true := beq_iff_eq.2 (by omega)
  have f2 : decide (m < m') = true := decide_eq_true (by omega)
  have f3 : (m == m') = false := beq_eq_false_iff_ne.2 (by omega)
  have HV := Aside0.mk hv
  have HN := Aside0.mk hn
  have HV' := Aside0.mk hv'
  have HN' := Aside0.mk hn'
  have HT := Aside0.mk ht
  clear hv hn hv' hn' ht hn1 c hlt c0
  go_enter Tryd.func3, Tryd.ntmps3
  go_wp2_with fail
  with_reducible refine (rof_calls _ _ (by omega) (by omega) y m d HV.out HN.out).mono ?_
  rintro e w1 ⟨rfl, hb⟩
  have GB := Aside0.mk hb
  clear hb
  go_wp2_with fail
  with_reducible refine (rof_calls _ _ (by omega) (by omega) y' m' d' HV'.out HN'.out).mono ?_
  rintro e w2 ⟨rfl, hb⟩
  have B1 := Aside0.mk (blk_below (blk_new w1 (.cells #[.int .i64 y, .int .i64 m, .int .i64 d] 24)) hb)
  have GB := Aside0.mk (below_step (below_alloc GB.out _) hb)
  have hl1 := Aside0.mk (blk_lt B1.out)
  clear hb
  have k0 : w2.cell? ⟨w1.heap.size, 0, none⟩ = some (.int .i64 y) := (blk_cell B1.out 0).trans rfl
  have k1 : w2.cell? ⟨w1.heap.size, 1, none⟩ = some (.int .i64 m) := (blk_cell B1.out 1).trans rfl
  have k2 : w2.cell? ⟨w1.heap.size, 2, none⟩ = some (.int .i64 d) := (blk_cell B1.out 2).trans rfl
  have q0 : (w2.alloc (.cells #[.int .i64 y', .int .i64 m', .int .i64 d'] 24)).cell? ⟨w1.heap.size, 0, none⟩ = some (.int .i64 y) := (World.cell?_alloc_lt _ _ _ hl1.out).trans k0
  have q1 : (w2.alloc (.cells #[.int .i64 y', .int .i64 m', .int .i64 d'] 24)).cell? ⟨w1.heap.size, 1, none⟩ = some (.int .i64 m) := (World.cell?_alloc_lt _ _ _ hl1.out).trans k1
  have q2 : (w2.alloc (.cells #[.int .i64 y', .int .i64 m', .int .i64 d'] 24)).cell? ⟨w1.heap.size, 2, none⟩ = some (.int .i64 d) := (World.cell?_alloc_lt _ _ _ hl1.out).trans k2
  go_wp2_with fail
  with_reducible refine (number_calls y m d _ _ HV.out HN.out).mono ?_
  rintro e w3 ⟨rfl, hb⟩
  have B2 := Aside0.mk (blk_below (blk_new w2 (.cells #[.int .i64 y', .int .i64 m', .int .i64 d'] 24)) hb)
  have B1 := Aside0.mk (blk_below (blk_alloc B1.out _) hb)
  have GB := Aside0.mk (below_step (below_alloc GB.out _) hb)
  clear hb k0 k1 k2 q0 q1 q2
  have r0 : w3.cell? ⟨w2.heap.size, 0, none⟩ = some (.int .i64 y') := (blk_cell B2.out 0).trans rfl
  have r1 : w3.cell? ⟨w2.heap.size, 1, none⟩ = some (.int .i64 m') := (blk_cell B2.out 1).trans rfl
  have r2 : w3.cell? ⟨w2.heap.size, 2, none⟩ = some (.int .i64 d') := (blk_cell B2.out 2).trans rfl
  go_wp2_with fail
  with_reducible refine (number_calls y' m' d' _ _ HV'.out HN'.out).mono ?_
  rintro e w4 ⟨rfl, hb⟩
  have B2 := Aside0.mk (blk_below B2.out hb)
  have B1 := Aside0.mk (blk_below B1.out hb)
  have GB := Aside0.mk (below_step GB.out hb)
  clear hb r0 r1 r2
  have k0 : w4.cell? ⟨w1.heap.size, 0, none⟩ = some (.int .i64 y) := (blk_cell B1.out 0).trans rfl
  have k1 : w4.cell? ⟨w1.heap.size, 1, none⟩ = some (.int .i64 m) := (blk_cell B1.out 1).trans rfl
  have k2 : w4.cell? ⟨w1.heap.size, 2, none⟩ = some (.int .i64 d) := (blk_cell B1.out 2).trans rfl
  have r0 : w4.cell? ⟨w2.heap.size, 0, none⟩ = some (.int .i64 y') := (blk_cell B2.out 0).trans rfl
  have r1 : w4.cell? ⟨w2.heap.size, 1, none⟩ = some (.int .i64 m') := (blk_cell B2.out 1).trans rfl
  have r2 : w4.cell? ⟨w2.heap.size, 2, none⟩ = some (.int .i64 d') := (blk_cell B2.out 2).trans rfl
  go_wp2_with fail
  have gb : Aside0 (Below w.heap.size w w4.drew) := ⟨below_drew1 GB.out⟩
  have p0 : w4.drew.cell? ⟨w1.heap.size, 0, none⟩ = some (.int .i64 y) := k0
  have p1 : w4.drew.cell? ⟨w1.heap.size, 1, none⟩ = some (.int .i64 m) := k1
  have p2 : w4.drew.cell? ⟨w1.heap.size, 2, none⟩ = some (.int .i64 d) := k2
  have p3 : w4.drew.cell? ⟨w2.heap.size, 0, none⟩ = some (.int .i64 y') := r0
  have p4 : w4.drew.cell? ⟨w2.heap.size, 1, none⟩ = some (.int .i64 m') := r1
  have p5 : w4.drew.cell? ⟨w2.heap.size, 2, none⟩ = some (.int .i64 d') := r2
  go_region_held3 (fun w' => w'.cell? ⟨w1.heap.size, 0, none⟩ = some (.int .i64 y) ∧ w'.cell? ⟨w1.heap.size, 1, none⟩ = some (.int .i64 m) ∧ w'.cell? ⟨w1.heap.size, 2, none⟩ = some (.int .i64 d) ∧ w'.cell? ⟨w2.heap.size, 0, none⟩ = some (.int .i64 y') ∧ w'.cell? ⟨w2.heap.size, 1, none⟩ = some (.int .i64 m') ∧ w'.cell? ⟨w2.heap.size, 2, none⟩ = some (.int .i64 d') ∧ Aside0 (Below w.heap.size w w')) (first | exact ⟨by assumption, by assumption, by assumption, by assumption, by assumption, by assumption, by assumption⟩ | go_keep) (first | (go_at_call 7; refine (awake_calls _).mono ?_; rintro e w5 ⟨rfl, hb5⟩; have a0 : w5.cell? ⟨w1.heap.size, 0, none⟩ = some (.int .i64 y) := pw_cell_below hb5 (by first | assumption | go_keep); have a1 : w5.cell? ⟨w1.heap.size, 1, none⟩ = some (.int .i64 m) := pw_cell_below hb5 (by first | assumption | go_keep); have a2 : w5.cell? ⟨w1.heap.size, 2, none⟩ = some (.int .i64 d) := pw_cell_below hb5 (by first | assumption | go_keep); have a3 : w5.cell? ⟨w2.heap.size, 0, none⟩ = some (.int .i64 y') := pw_cell_below hb5 (by first | assumption | go_keep); have a4 : w5.cell? ⟨w2.heap.size, 1, none⟩ = some (.int .i64 m') := pw_cell_below hb5 (by first | assumption | go_keep); have a5 : w5.cell? ⟨w2.heap.size, 2, none⟩ = some (.int .i64 d') := pw_cell_below hb5 (by first | assumption | go_keep); have GB5 : Aside0 (Below w.heap.size w w5) := ⟨below_step (Aside0.out (by assumption)) hb5⟩) | (go_at_call_of 8 (Value.agg #[.int .i64 y, .int .i64 m, .int .i64 d]); refine (text_calls y m d _ HV.out (HT.out.step (Aside0.out (by assumption)))).mono ?_; rintro e w6 ⟨rfl, hb6⟩; have b0 : w6.cell? ⟨w1.heap.size, 0, none⟩ = some (.int .i64 y) := pw_cell_below hb6 (by first | assumption | go_keep); have b1 : w6.cell? ⟨w1.heap.size, 1, none⟩ = some (.int .i64 m) := pw_cell_below hb6 (by first | assumption | go_keep); have b2 : w6.cell? ⟨w1.heap.size, 2, none⟩ = some (.int .i64 d) := pw_cell_below hb6 (by first | assumption | go_keep); have b3 : w6.cell? ⟨w2.heap.size, 0, none⟩ = some (.int .i64 y') := pw_cell_below hb6 (by first | assumption | go_keep); have b4 : w6.cell? ⟨w2.heap.size, 1, none⟩ = some (.int .i64 m') := pw_cell_below hb6 (by first | assumption | go_keep); have b5 : w6.cell? ⟨w2.heap.size, 2, none⟩ = some (.int .i64 d') := pw_cell_below hb6 (by first | assumption | go_keep); have GB6 : Aside0 (Below w.heap.size w w6) := ⟨below_step (Aside0.out (by assumption)) hb6⟩) | (go_at_call_of 8 (Value.agg #[.int .i64 y', .int .i64 m', .int .i64 d']); refine (text_calls y' m' d' _ HV'.out (HT.out.step (Aside0.out (by assumption)))).mono ?_; rintro e w7 ⟨rfl, hb7⟩; have c0 : w7.cell? ⟨w1.heap.size, 0, none⟩ = some (.int .i64 y) := pw_cell_below hb7 (by first | assumption | go_keep); have c1 : w7.cell? ⟨w1.heap.size, 1, none⟩ = some (.int .i64 m) := pw_cell_below hb7 (by first | assumption | go_keep); have c2 : w7.cell? ⟨w1.heap.size, 2, none⟩ = some (.int .i64 d) := pw_cell_below hb7 (by first | assumption | go_keep); have c3 : w7.cell? ⟨w2.heap.size, 0, none⟩ = some (.int .i64 y') := pw_cell_below hb7 (by first | assumption | go_keep); have c4 : w7.cell? ⟨w2.heap.size, 1, none⟩ = some (.int .i64 m') := pw_cell_below hb7 (by first | assumption | go_keep); have c5 : w7.cell? ⟨w2.heap.size, 2, none⟩ = some (.int .i64 d') := pw_cell_below hb7 (by first | assumption | go_keep); have GB7 : Aside0 (Below w.heap.size w w7) := ⟨below_step (Aside0.out (by assumption)) hb7⟩))
  all_goals go_wp2_with fail
  all_goals go_ret
  all_goals exact ⟨by first | rfl | (simp; done), Aside0.out (by assumption)⟩
set_option maxHeartbeats 8000000 in
theorem orders_m2 (a0 b0 : Int) (w : World) (b1 : 0 ≤ a0 ∧ a0 ≤ 4294967295) (b2 : 0 ≤ b0 ∧ b0 ≤ 4294967295) (ht : TB w) (y m d y' m' d' : Int) (hv : Cal.valid y m d) (hn : Cal.num y m d = a0 % 3652059) (hv' : Cal.valid y' m' d') (hn' : Cal.num y' m' d' = b0 % 3652059) (c0 : y = y') (c : m' < m) :
    Calls Tryd.prog 3 #[.int .u32 a0, .int .u32 b0] w fun e w' => e = .returned (.bool true) ∧ Below w.heap.size w w' := by
  have hlt := Cal.num_less y' m' d' y m d hv' hv (Or.inr ⟨c0.symm, Or.inl c⟩)
  have hn1 : b0 % 3652059 < a0 % 3652059 := by omega
  have e1 : decide (a0 % 3652059 < b0 % 3652059) = false := by exact decide_eq_false (by omega)
  have e2 : (a0 % 3652059 == b0 % 3652059) = false := by exact beq_eq_false_iff_ne.2 (by omega)
  have e3 : Op.bytesLess (Txt.txt y m d) (Txt.txt y' m' d') = false := by
    rw [Bool.eq_false_iff]; intro q; have := (text_less y m d y' m' d' hv hv').1 q; omega
  have f0 : decide (y < y') = false := decide_eq_false (by omega)
  have f1 : (y == y') = true := beq_iff_eq.2 (by omega)
  have f2 : decide (m < m') = false := decide_eq_false (by omega)
  have f3 : (m == m') = false := beq_eq_false_iff_ne.2 (by omega)
  have HV := Aside0.mk hv
  have HN := Aside0.mk hn
  have HV' := Aside0.mk hv'
  have HN' := Aside0.mk hn'
  have HT := Aside0.mk ht
  clear hv hn hv' hn' ht hn1 c hlt c0
  go_enter Tryd.func3, Tryd.ntmps3
  go_wp2_with fail
  with_reducible refine (rof_calls _ _ (by omega) (by omega) y m d HV.out HN.out).mono ?_
  rintro e w1 ⟨rfl, hb⟩
  have GB := Aside0.mk hb
  clear hb
  go_wp2_with fail
  with_reducible refine (rof_calls _ _ (by omega) (by omega) y' m' d' HV'.out HN'.out).mono ?_
  rintro e w2 ⟨rfl, hb⟩
  have B1 := Aside0.mk (blk_below (blk_new w1 (.cells #[.int .i64 y, .int .i64 m, .int .i64 d] 24)) hb)
  have GB := Aside0.mk (below_step (below_alloc GB.out _) hb)
  have hl1 := Aside0.mk (blk_lt B1.out)
  clear hb
  have k0 : w2.cell? ⟨w1.heap.size, 0, none⟩ = some (.int .i64 y) := (blk_cell B1.out 0).trans rfl
  have k1 : w2.cell? ⟨w1.heap.size, 1, none⟩ = some (.int .i64 m) := (blk_cell B1.out 1).trans rfl
  have k2 : w2.cell? ⟨w1.heap.size, 2, none⟩ = some (.int .i64 d) := (blk_cell B1.out 2).trans rfl
  have q0 : (w2.alloc (.cells #[.int .i64 y', .int .i64 m', .int .i64 d'] 24)).cell? ⟨w1.heap.size, 0, none⟩ = some (.int .i64 y) := (World.cell?_alloc_lt _ _ _ hl1.out).trans k0
  have q1 : (w2.alloc (.cells #[.int .i64 y', .int .i64 m', .int .i64 d'] 24)).cell? ⟨w1.heap.size, 1, none⟩ = some (.int .i64 m) := (World.cell?_alloc_lt _ _ _ hl1.out).trans k1
  have q2 : (w2.alloc (.cells #[.int .i64 y', .int .i64 m', .int .i64 d'] 24)).cell? ⟨w1.heap.size, 2, none⟩ = some (.int .i64 d) := (World.cell?_alloc_lt _ _ _ hl1.out).trans k2
  go_wp2_with fail
  with_reducible refine (number_calls y m d _ _ HV.out HN.out).mono ?_
  rintro e w3 ⟨rfl, hb⟩
  have B2 := Aside0.mk (blk_below (blk_new w2 (.cells #[.int .i64 y', .int .i64 m', .int .i64 d'] 24)) hb)
  have B1 := Aside0.mk (blk_below (blk_alloc B1.out _) hb)
  have GB := Aside0.mk (below_step (below_alloc GB.out _) hb)
  clear hb k0 k1 k2 q0 q1 q2
  have r0 : w3.cell? ⟨w2.heap.size, 0, none⟩ = some (.int .i64 y') := (blk_cell B2.out 0).trans rfl
  have r1 : w3.cell? ⟨w2.heap.size, 1, none⟩ = some (.int .i64 m') := (blk_cell B2.out 1).trans rfl
  have r2 : w3.cell? ⟨w2.heap.size, 2, none⟩ = some (.int .i64 d') := (blk_cell B2.out 2).trans rfl
  go_wp2_with fail
  with_reducible refine (number_calls y' m' d' _ _ HV'.out HN'.out).mono ?_
  rintro e w4 ⟨rfl, hb⟩
  have B2 := Aside0.mk (blk_below B2.out hb)
  have B1 := Aside0.mk (blk_below B1.out hb)
  have GB := Aside0.mk (below_step GB.out hb)
  clear hb r0 r1 r2
  have k0 : w4.cell? ⟨w1.heap.size, 0, none⟩ = some (.int .i64 y) := (blk_cell B1.out 0).trans rfl
  have k1 : w4.cell? ⟨w1.heap.size, 1, none⟩ = some (.int .i64 m) := (blk_cell B1.out 1).trans rfl
  have k2 : w4.cell? ⟨w1.heap.size, 2, none⟩ = some (.int .i64 d) := (blk_cell B1.out 2).trans rfl
  have r0 : w4.cell? ⟨w2.heap.size, 0, none⟩ = some (.int .i64 y') := (blk_cell B2.out 0).trans rfl
  have r1 : w4.cell? ⟨w2.heap.size, 1, none⟩ = some (.int .i64 m') := (blk_cell B2.out 1).trans rfl
  have r2 : w4.cell? ⟨w2.heap.size, 2, none⟩ = some (.int .i64 d') := (blk_cell B2.out 2).trans rfl
  go_wp2_with fail
  have gb : Aside0 (Below w.heap.size w w4.drew) := ⟨below_drew1 GB.out⟩
  have p0 : w4.drew.cell? ⟨w1.heap.size, 0, none⟩ = some (.int .i64 y) := k0
  have p1 : w4.drew.cell? ⟨w1.heap.size, 1, none⟩ = some (.int .i64 m) := k1
  have p2 : w4.drew.cell? ⟨w1.heap.size, 2, none⟩ = some (.int .i64 d) := k2
  have p3 : w4.drew.cell? ⟨w2.heap.size, 0, none⟩ = some (.int .i64 y') := r0
  have p4 : w4.drew.cell? ⟨w2.heap.size, 1, none⟩ = some (.int .i64 m') := r1
  have p5 : w4.drew.cell? ⟨w2.heap.size, 2, none⟩ = some (.int .i64 d') := r2
  go_region_held3 (fun w' => w'.cell? ⟨w1.heap.size, 0, none⟩ = some (.int .i64 y) ∧ w'.cell? ⟨w1.heap.size, 1, none⟩ = some (.int .i64 m) ∧ w'.cell? ⟨w1.heap.size, 2, none⟩ = some (.int .i64 d) ∧ w'.cell? ⟨w2.heap.size, 0, none⟩ = some (.int .i64 y') ∧ w'.cell? ⟨w2.heap.size, 1, none⟩ = some (.int .i64 m') ∧ w'.cell? ⟨w2.heap.size, 2, none⟩ = some (.int .i64 d') ∧ Aside0 (Below w.heap.size w w')) (first | exact ⟨by assumption, by assumption, by assumption, by assumption, by assumption, by assumption, by assumption⟩ | go_keep) (first | (go_at_call 7; refine (awake_calls _).mono ?_; rintro e w5 ⟨rfl, hb5⟩; have a0 : w5.cell? ⟨w1.heap.size, 0, none⟩ = some (.int .i64 y) := pw_cell_below hb5 (by first | assumption | go_keep); have a1 : w5.cell? ⟨w1.heap.size, 1, none⟩ = some (.int .i64 m) := pw_cell_below hb5 (by first | assumption | go_keep); have a2 : w5.cell? ⟨w1.heap.size, 2, none⟩ = some (.int .i64 d) := pw_cell_below hb5 (by first | assumption | go_keep); have a3 : w5.cell? ⟨w2.heap.size, 0, none⟩ = some (.int .i64 y') := pw_cell_below hb5 (by first | assumption | go_keep); have a4 : w5.cell? ⟨w2.heap.size, 1, none⟩ = some (.int .i64 m') := pw_cell_below hb5 (by first | assumption | go_keep); have a5 : w5.cell? ⟨w2.heap.size, 2, none⟩ = some (.int .i64 d') := pw_cell_below hb5 (by first | assumption | go_keep); have GB5 : Aside0 (Below w.heap.size w w5) := ⟨below_step (Aside0.out (by assumption)) hb5⟩) | (go_at_call_of 8 (Value.agg #[.int .i64 y, .int .i64 m, .int .i64 d]); refine (text_calls y m d _ HV.out (HT.out.step (Aside0.out (by assumption)))).mono ?_; rintro e w6 ⟨rfl, hb6⟩; have b0 : w6.cell? ⟨w1.heap.size, 0, none⟩ = some (.int .i64 y) := pw_cell_below hb6 (by first | assumption | go_keep); have b1 : w6.cell? ⟨w1.heap.size, 1, none⟩ = some (.int .i64 m) := pw_cell_below hb6 (by first | assumption | go_keep); have b2 : w6.cell? ⟨w1.heap.size, 2, none⟩ = some (.int .i64 d) := pw_cell_below hb6 (by first | assumption | go_keep); have b3 : w6.cell? ⟨w2.heap.size, 0, none⟩ = some (.int .i64 y') := pw_cell_below hb6 (by first | assumption | go_keep); have b4 : w6.cell? ⟨w2.heap.size, 1, none⟩ = some (.int .i64 m') := pw_cell_below hb6 (by first | assumption | go_keep); have b5 : w6.cell? ⟨w2.heap.size, 2, none⟩ = some (.int .i64 d') := pw_cell_below hb6 (by first | assumption | go_keep); have GB6 : Aside0 (Below w.heap.size w w6) := ⟨below_step (Aside0.out (by assumption)) hb6⟩) | (go_at_call_of 8 (Value.agg #[.int .i64 y', .int .i64 m', .int .i64 d']); refine (text_calls y' m' d' _ HV'.out (HT.out.step (Aside0.out (by assumption)))).mono ?_; rintro e w7 ⟨rfl, hb7⟩; have c0 : w7.cell? ⟨w1.heap.size, 0, none⟩ = some (.int .i64 y) := pw_cell_below hb7 (by first | assumption | go_keep); have c1 : w7.cell? ⟨w1.heap.size, 1, none⟩ = some (.int .i64 m) := pw_cell_below hb7 (by first | assumption | go_keep); have c2 : w7.cell? ⟨w1.heap.size, 2, none⟩ = some (.int .i64 d) := pw_cell_below hb7 (by first | assumption | go_keep); have c3 : w7.cell? ⟨w2.heap.size, 0, none⟩ = some (.int .i64 y') := pw_cell_below hb7 (by first | assumption | go_keep); have c4 : w7.cell? ⟨w2.heap.size, 1, none⟩ = some (.int .i64 m') := pw_cell_below hb7 (by first | assumption | go_keep); have c5 : w7.cell? ⟨w2.heap.size, 2, none⟩ = some (.int .i64 d') := pw_cell_below hb7 (by first | assumption | go_keep); have GB7 : Aside0 (Below w.heap.size w w7) := ⟨below_step (Aside0.out (by assumption)) hb7⟩))
  all_goals go_wp2_with fail
  all_goals go_ret
  all_goals exact ⟨by first | rfl | (simp; done), Aside0.out (by assumption)⟩
set_option maxHeartbeats 8000000 in
theorem orders_d1 (a0 b0 : Int) (w : World) (b1 : 0 ≤ a0 ∧ a0 ≤ 4294967295) (b2 : 0 ≤ b0 ∧ b0 ≤ 4294967295) (ht : TB w) (y m d y' m' d' : Int) (hv : Cal.valid y m d) (hn : Cal.num y m d = a0 % 3652059) (hv' : Cal.valid y' m' d') (hn' : Cal.num y' m' d' = b0 % 3652059) (c0 : y = y') (c1 : m = m') (c : d < d') :
    Calls Tryd.prog 3 #[.int .u32 a0, .int .u32 b0] w fun e w' => e = .returned (.bool true) ∧ Below w.heap.size w w' := by
  have hlt := Cal.num_less y m d y' m' d' hv hv' (Or.inr ⟨c0, Or.inr ⟨c1, c⟩⟩)
  have hn1 : a0 % 3652059 < b0 % 3652059 := by omega
  have e1 : decide (a0 % 3652059 < b0 % 3652059) = true := by exact decide_eq_true hn1
  have e2 : (a0 % 3652059 == b0 % 3652059) = false := by exact beq_eq_false_iff_ne.2 (by omega)
  have e3 : Op.bytesLess (Txt.txt y m d) (Txt.txt y' m' d') = true := by
    exact (text_less y m d y' m' d' hv hv').2 (Or.inr ⟨c0, Or.inr ⟨c1, c⟩⟩)
  have f0 : decide (y < y') = false := decide_eq_false (by omega)
  have f1 : (y == y') = true := beq_iff_eq.2 (by omega)
  have f2 : decide (m < m') = false := decide_eq_false (by omega)
  have f3 : (m == m') = true := beq_iff_eq.2 (by omega)
  have f4 : decide (d < d') = true := decide_eq_true (by omega)
  have f5 : (d == d') = false := beq_eq_false_iff_ne.2 (by omega)
  have HV := Aside0.mk hv
  have HN := Aside0.mk hn
  have HV' := Aside0.mk hv'
  have HN' := Aside0.mk hn'
  have HT := Aside0.mk ht
  clear hv hn hv' hn' ht hn1 c hlt c0 c1
  go_enter Tryd.func3, Tryd.ntmps3
  go_wp2_with fail
  with_reducible refine (rof_calls _ _ (by omega) (by omega) y m d HV.out HN.out).mono ?_
  rintro e w1 ⟨rfl, hb⟩
  have GB := Aside0.mk hb
  clear hb
  go_wp2_with fail
  with_reducible refine (rof_calls _ _ (by omega) (by omega) y' m' d' HV'.out HN'.out).mono ?_
  rintro e w2 ⟨rfl, hb⟩
  have B1 := Aside0.mk (blk_below (blk_new w1 (.cells #[.int .i64 y, .int .i64 m, .int .i64 d] 24)) hb)
  have GB := Aside0.mk (below_step (below_alloc GB.out _) hb)
  have hl1 := Aside0.mk (blk_lt B1.out)
  clear hb
  have k0 : w2.cell? ⟨w1.heap.size, 0, none⟩ = some (.int .i64 y) := (blk_cell B1.out 0).trans rfl
  have k1 : w2.cell? ⟨w1.heap.size, 1, none⟩ = some (.int .i64 m) := (blk_cell B1.out 1).trans rfl
  have k2 : w2.cell? ⟨w1.heap.size, 2, none⟩ = some (.int .i64 d) := (blk_cell B1.out 2).trans rfl
  have q0 : (w2.alloc (.cells #[.int .i64 y', .int .i64 m', .int .i64 d'] 24)).cell? ⟨w1.heap.size, 0, none⟩ = some (.int .i64 y) := (World.cell?_alloc_lt _ _ _ hl1.out).trans k0
  have q1 : (w2.alloc (.cells #[.int .i64 y', .int .i64 m', .int .i64 d'] 24)).cell? ⟨w1.heap.size, 1, none⟩ = some (.int .i64 m) := (World.cell?_alloc_lt _ _ _ hl1.out).trans k1
  have q2 : (w2.alloc (.cells #[.int .i64 y', .int .i64 m', .int .i64 d'] 24)).cell? ⟨w1.heap.size, 2, none⟩ = some (.int .i64 d) := (World.cell?_alloc_lt _ _ _ hl1.out).trans k2
  go_wp2_with fail
  with_reducible refine (number_calls y m d _ _ HV.out HN.out).mono ?_
  rintro e w3 ⟨rfl, hb⟩
  have B2 := Aside0.mk (blk_below (blk_new w2 (.cells #[.int .i64 y', .int .i64 m', .int .i64 d'] 24)) hb)
  have B1 := Aside0.mk (blk_below (blk_alloc B1.out _) hb)
  have GB := Aside0.mk (below_step (below_alloc GB.out _) hb)
  clear hb k0 k1 k2 q0 q1 q2
  have r0 : w3.cell? ⟨w2.heap.size, 0, none⟩ = some (.int .i64 y') := (blk_cell B2.out 0).trans rfl
  have r1 : w3.cell? ⟨w2.heap.size, 1, none⟩ = some (.int .i64 m') := (blk_cell B2.out 1).trans rfl
  have r2 : w3.cell? ⟨w2.heap.size, 2, none⟩ = some (.int .i64 d') := (blk_cell B2.out 2).trans rfl
  go_wp2_with fail
  with_reducible refine (number_calls y' m' d' _ _ HV'.out HN'.out).mono ?_
  rintro e w4 ⟨rfl, hb⟩
  have B2 := Aside0.mk (blk_below B2.out hb)
  have B1 := Aside0.mk (blk_below B1.out hb)
  have GB := Aside0.mk (below_step GB.out hb)
  clear hb r0 r1 r2
  have k0 : w4.cell? ⟨w1.heap.size, 0, none⟩ = some (.int .i64 y) := (blk_cell B1.out 0).trans rfl
  have k1 : w4.cell? ⟨w1.heap.size, 1, none⟩ = some (.int .i64 m) := (blk_cell B1.out 1).trans rfl
  have k2 : w4.cell? ⟨w1.heap.size, 2, none⟩ = some (.int .i64 d) := (blk_cell B1.out 2).trans rfl
  have r0 : w4.cell? ⟨w2.heap.size, 0, none⟩ = some (.int .i64 y') := (blk_cell B2.out 0).trans rfl
  have r1 : w4.cell? ⟨w2.heap.size, 1, none⟩ = some (.int .i64 m') := (blk_cell B2.out 1).trans rfl
  have r2 : w4.cell? ⟨w2.heap.size, 2, none⟩ = some (.int .i64 d') := (blk_cell B2.out 2).trans rfl
  go_wp2_with fail
  have gb : Aside0 (Below w.heap.size w w4.drew) := ⟨below_drew1 GB.out⟩
  have p0 : w4.drew.cell? ⟨w1.heap.size, 0, none⟩ = some (.int .i64 y) := k0
  have p1 : w4.drew.cell? ⟨w1.heap.size, 1, none⟩ = some (.int .i64 m) := k1
  have p2 : w4.drew.cell? ⟨w1.heap.size, 2, none⟩ = some (.int .i64 d) := k2
  have p3 : w4.drew.cell? ⟨w2.heap.size, 0, none⟩ = some (.int .i64 y') := r0
  have p4 : w4.drew.cell? ⟨w2.heap.size, 1, none⟩ = some (.int .i64 m') := r1
  have p5 : w4.drew.cell? ⟨w2.heap.size, 2, none⟩ = some (.int .i64 d') := r2
  go_region_held3 (fun w' => w'.cell? ⟨w1.heap.size, 0, none⟩ = some (.int .i64 y) ∧ w'.cell? ⟨w1.heap.size, 1, none⟩ = some (.int .i64 m) ∧ w'.cell? ⟨w1.heap.size, 2, none⟩ = some (.int .i64 d) ∧ w'.cell? ⟨w2.heap.size, 0, none⟩ = some (.int .i64 y') ∧ w'.cell? ⟨w2.heap.size, 1, none⟩ = some (.int .i64 m') ∧ w'.cell? ⟨w2.heap.size, 2, none⟩ = some (.int .i64 d') ∧ Aside0 (Below w.heap.size w w')) (first | exact ⟨by assumption, by assumption, by assumption, by assumption, by assumption, by assumption, by assumption⟩ | go_keep) (first | (go_at_call 7; refine (awake_calls _).mono ?_; rintro e w5 ⟨rfl, hb5⟩; have a0 : w5.cell? ⟨w1.heap.size, 0, none⟩ = some (.int .i64 y) := pw_cell_below hb5 (by first | assumption | go_keep); have a1 : w5.cell? ⟨w1.heap.size, 1, none⟩ = some (.int .i64 m) := pw_cell_below hb5 (by first | assumption | go_keep); have a2 : w5.cell? ⟨w1.heap.size, 2, none⟩ = some (.int .i64 d) := pw_cell_below hb5 (by first | assumption | go_keep); have a3 : w5.cell? ⟨w2.heap.size, 0, none⟩ = some (.int .i64 y') := pw_cell_below hb5 (by first | assumption | go_keep); have a4 : w5.cell? ⟨w2.heap.size, 1, none⟩ = some (.int .i64 m') := pw_cell_below hb5 (by first | assumption | go_keep); have a5 : w5.cell? ⟨w2.heap.size, 2, none⟩ = some (.int .i64 d') := pw_cell_below hb5 (by first | assumption | go_keep); have GB5 : Aside0 (Below w.heap.size w w5) := ⟨below_step (Aside0.out (by assumption)) hb5⟩) | (go_at_call_of 8 (Value.agg #[.int .i64 y, .int .i64 m, .int .i64 d]); refine (text_calls y m d _ HV.out (HT.out.step (Aside0.out (by assumption)))).mono ?_; rintro e w6 ⟨rfl, hb6⟩; have b0 : w6.cell? ⟨w1.heap.size, 0, none⟩ = some (.int .i64 y) := pw_cell_below hb6 (by first | assumption | go_keep); have b1 : w6.cell? ⟨w1.heap.size, 1, none⟩ = some (.int .i64 m) := pw_cell_below hb6 (by first | assumption | go_keep); have b2 : w6.cell? ⟨w1.heap.size, 2, none⟩ = some (.int .i64 d) := pw_cell_below hb6 (by first | assumption | go_keep); have b3 : w6.cell? ⟨w2.heap.size, 0, none⟩ = some (.int .i64 y') := pw_cell_below hb6 (by first | assumption | go_keep); have b4 : w6.cell? ⟨w2.heap.size, 1, none⟩ = some (.int .i64 m') := pw_cell_below hb6 (by first | assumption | go_keep); have b5 : w6.cell? ⟨w2.heap.size, 2, none⟩ = some (.int .i64 d') := pw_cell_below hb6 (by first | assumption | go_keep); have GB6 : Aside0 (Below w.heap.size w w6) := ⟨below_step (Aside0.out (by assumption)) hb6⟩) | (go_at_call_of 8 (Value.agg #[.int .i64 y', .int .i64 m', .int .i64 d']); refine (text_calls y' m' d' _ HV'.out (HT.out.step (Aside0.out (by assumption)))).mono ?_; rintro e w7 ⟨rfl, hb7⟩; have c0 : w7.cell? ⟨w1.heap.size, 0, none⟩ = some (.int .i64 y) := pw_cell_below hb7 (by first | assumption | go_keep); have c1 : w7.cell? ⟨w1.heap.size, 1, none⟩ = some (.int .i64 m) := pw_cell_below hb7 (by first | assumption | go_keep); have c2 : w7.cell? ⟨w1.heap.size, 2, none⟩ = some (.int .i64 d) := pw_cell_below hb7 (by first | assumption | go_keep); have c3 : w7.cell? ⟨w2.heap.size, 0, none⟩ = some (.int .i64 y') := pw_cell_below hb7 (by first | assumption | go_keep); have c4 : w7.cell? ⟨w2.heap.size, 1, none⟩ = some (.int .i64 m') := pw_cell_below hb7 (by first | assumption | go_keep); have c5 : w7.cell? ⟨w2.heap.size, 2, none⟩ = some (.int .i64 d') := pw_cell_below hb7 (by first | assumption | go_keep); have GB7 : Aside0 (Below w.heap.size w w7) := ⟨below_step (Aside0.out (by assumption)) hb7⟩))
  all_goals go_wp2_with fail
  all_goals go_ret
  all_goals exact ⟨by first | rfl | (simp; done), Aside0.out (by assumption)⟩
set_option maxHeartbeats 8000000 in
theorem orders_d2 (a0 b0 : Int) (w : World) (b1 : 0 ≤ a0 ∧ a0 ≤ 4294967295) (b2 : 0 ≤ b0 ∧ b0 ≤ 4294967295) (ht : TB w) (y m d y' m' d' : Int) (hv : Cal.valid y m d) (hn : Cal.num y m d = a0 % 3652059) (hv' : Cal.valid y' m' d') (hn' : Cal.num y' m' d' = b0 % 3652059) (c0 : y = y') (c1 : m = m') (c : d' < d) :
    Calls Tryd.prog 3 #[.int .u32 a0, .int .u32 b0] w fun e w' => e = .returned (.bool true) ∧ Below w.heap.size w w' := by
  have hlt := Cal.num_less y' m' d' y m d hv' hv (Or.inr ⟨c0.symm, Or.inr ⟨c1.symm, c⟩⟩)
  have hn1 : b0 % 3652059 < a0 % 3652059 := by omega
  have e1 : decide (a0 % 3652059 < b0 % 3652059) = false := by exact decide_eq_false (by omega)
  have e2 : (a0 % 3652059 == b0 % 3652059) = false := by exact beq_eq_false_iff_ne.2 (by omega)
  have e3 : Op.bytesLess (Txt.txt y m d) (Txt.txt y' m' d') = false := by
    rw [Bool.eq_false_iff]; intro q; have := (text_less y m d y' m' d' hv hv').1 q; omega
  have f0 : decide (y < y') = false := decide_eq_false (by omega)
  have f1 : (y == y') = true := beq_iff_eq.2 (by omega)
  have f2 : decide (m < m') = false := decide_eq_false (by omega)
  have f3 : (m == m') = true := beq_iff_eq.2 (by omega)
  have f4 : decide (d < d') = false := decide_eq_false (by omega)
  have f5 : (d == d') = false := beq_eq_false_iff_ne.2 (by omega)
  have HV := Aside0.mk hv
  have HN := Aside0.mk hn
  have HV' := Aside0.mk hv'
  have HN' := Aside0.mk hn'
  have HT := Aside0.mk ht
  clear hv hn hv' hn' ht hn1 c hlt c0 c1
  go_enter Tryd.func3, Tryd.ntmps3
  go_wp2_with fail
  with_reducible refine (rof_calls _ _ (by omega) (by omega) y m d HV.out HN.out).mono ?_
  rintro e w1 ⟨rfl, hb⟩
  have GB := Aside0.mk hb
  clear hb
  go_wp2_with fail
  with_reducible refine (rof_calls _ _ (by omega) (by omega) y' m' d' HV'.out HN'.out).mono ?_
  rintro e w2 ⟨rfl, hb⟩
  have B1 := Aside0.mk (blk_below (blk_new w1 (.cells #[.int .i64 y, .int .i64 m, .int .i64 d] 24)) hb)
  have GB := Aside0.mk (below_step (below_alloc GB.out _) hb)
  have hl1 := Aside0.mk (blk_lt B1.out)
  clear hb
  have k0 : w2.cell? ⟨w1.heap.size, 0, none⟩ = some (.int .i64 y) := (blk_cell B1.out 0).trans rfl
  have k1 : w2.cell? ⟨w1.heap.size, 1, none⟩ = some (.int .i64 m) := (blk_cell B1.out 1).trans rfl
  have k2 : w2.cell? ⟨w1.heap.size, 2, none⟩ = some (.int .i64 d) := (blk_cell B1.out 2).trans rfl
  have q0 : (w2.alloc (.cells #[.int .i64 y', .int .i64 m', .int .i64 d'] 24)).cell? ⟨w1.heap.size, 0, none⟩ = some (.int .i64 y) := (World.cell?_alloc_lt _ _ _ hl1.out).trans k0
  have q1 : (w2.alloc (.cells #[.int .i64 y', .int .i64 m', .int .i64 d'] 24)).cell? ⟨w1.heap.size, 1, none⟩ = some (.int .i64 m) := (World.cell?_alloc_lt _ _ _ hl1.out).trans k1
  have q2 : (w2.alloc (.cells #[.int .i64 y', .int .i64 m', .int .i64 d'] 24)).cell? ⟨w1.heap.size, 2, none⟩ = some (.int .i64 d) := (World.cell?_alloc_lt _ _ _ hl1.out).trans k2
  go_wp2_with fail
  with_reducible refine (number_calls y m d _ _ HV.out HN.out).mono ?_
  rintro e w3 ⟨rfl, hb⟩
  have B2 := Aside0.mk (blk_below (blk_new w2 (.cells #[.int .i64 y', .int .i64 m', .int .i64 d'] 24)) hb)
  have B1 := Aside0.mk (blk_below (blk_alloc B1.out _) hb)
  have GB := Aside0.mk (below_step (below_alloc GB.out _) hb)
  clear hb k0 k1 k2 q0 q1 q2
  have r0 : w3.cell? ⟨w2.heap.size, 0, none⟩ = some (.int .i64 y') := (blk_cell B2.out 0).trans rfl
  have r1 : w3.cell? ⟨w2.heap.size, 1, none⟩ = some (.int .i64 m') := (blk_cell B2.out 1).trans rfl
  have r2 : w3.cell? ⟨w2.heap.size, 2, none⟩ = some (.int .i64 d') := (blk_cell B2.out 2).trans rfl
  go_wp2_with fail
  with_reducible refine (number_calls y' m' d' _ _ HV'.out HN'.out).mono ?_
  rintro e w4 ⟨rfl, hb⟩
  have B2 := Aside0.mk (blk_below B2.out hb)
  have B1 := Aside0.mk (blk_below B1.out hb)
  have GB := Aside0.mk (below_step GB.out hb)
  clear hb r0 r1 r2
  have k0 : w4.cell? ⟨w1.heap.size, 0, none⟩ = some (.int .i64 y) := (blk_cell B1.out 0).trans rfl
  have k1 : w4.cell? ⟨w1.heap.size, 1, none⟩ = some (.int .i64 m) := (blk_cell B1.out 1).trans rfl
  have k2 : w4.cell? ⟨w1.heap.size, 2, none⟩ = some (.int .i64 d) := (blk_cell B1.out 2).trans rfl
  have r0 : w4.cell? ⟨w2.heap.size, 0, none⟩ = some (.int .i64 y') := (blk_cell B2.out 0).trans rfl
  have r1 : w4.cell? ⟨w2.heap.size, 1, none⟩ = some (.int .i64 m') := (blk_cell B2.out 1).trans rfl
  have r2 : w4.cell? ⟨w2.heap.size, 2, none⟩ = some (.int .i64 d') := (blk_cell B2.out 2).trans rfl
  go_wp2_with fail
  have gb : Aside0 (Below w.heap.size w w4.drew) := ⟨below_drew1 GB.out⟩
  have p0 : w4.drew.cell? ⟨w1.heap.size, 0, none⟩ = some (.int .i64 y) := k0
  have p1 : w4.drew.cell? ⟨w1.heap.size, 1, none⟩ = some (.int .i64 m) := k1
  have p2 : w4.drew.cell? ⟨w1.heap.size, 2, none⟩ = some (.int .i64 d) := k2
  have p3 : w4.drew.cell? ⟨w2.heap.size, 0, none⟩ = some (.int .i64 y') := r0
  have p4 : w4.drew.cell? ⟨w2.heap.size, 1, none⟩ = some (.int .i64 m') := r1
  have p5 : w4.drew.cell? ⟨w2.heap.size, 2, none⟩ = some (.int .i64 d') := r2
  go_region_held3 (fun w' => w'.cell? ⟨w1.heap.size, 0, none⟩ = some (.int .i64 y) ∧ w'.cell? ⟨w1.heap.size, 1, none⟩ = some (.int .i64 m) ∧ w'.cell? ⟨w1.heap.size, 2, none⟩ = some (.int .i64 d) ∧ w'.cell? ⟨w2.heap.size, 0, none⟩ = some (.int .i64 y') ∧ w'.cell? ⟨w2.heap.size, 1, none⟩ = some (.int .i64 m') ∧ w'.cell? ⟨w2.heap.size, 2, none⟩ = some (.int .i64 d') ∧ Aside0 (Below w.heap.size w w')) (first | exact ⟨by assumption, by assumption, by assumption, by assumption, by assumption, by assumption, by assumption⟩ | go_keep) (first | (go_at_call 7; refine (awake_calls _).mono ?_; rintro e w5 ⟨rfl, hb5⟩; have a0 : w5.cell? ⟨w1.heap.size, 0, none⟩ = some (.int .i64 y) := pw_cell_below hb5 (by first | assumption | go_keep); have a1 : w5.cell? ⟨w1.heap.size, 1, none⟩ = some (.int .i64 m) := pw_cell_below hb5 (by first | assumption | go_keep); have a2 : w5.cell? ⟨w1.heap.size, 2, none⟩ = some (.int .i64 d) := pw_cell_below hb5 (by first | assumption | go_keep); have a3 : w5.cell? ⟨w2.heap.size, 0, none⟩ = some (.int .i64 y') := pw_cell_below hb5 (by first | assumption | go_keep); have a4 : w5.cell? ⟨w2.heap.size, 1, none⟩ = some (.int .i64 m') := pw_cell_below hb5 (by first | assumption | go_keep); have a5 : w5.cell? ⟨w2.heap.size, 2, none⟩ = some (.int .i64 d') := pw_cell_below hb5 (by first | assumption | go_keep); have GB5 : Aside0 (Below w.heap.size w w5) := ⟨below_step (Aside0.out (by assumption)) hb5⟩) | (go_at_call_of 8 (Value.agg #[.int .i64 y, .int .i64 m, .int .i64 d]); refine (text_calls y m d _ HV.out (HT.out.step (Aside0.out (by assumption)))).mono ?_; rintro e w6 ⟨rfl, hb6⟩; have b0 : w6.cell? ⟨w1.heap.size, 0, none⟩ = some (.int .i64 y) := pw_cell_below hb6 (by first | assumption | go_keep); have b1 : w6.cell? ⟨w1.heap.size, 1, none⟩ = some (.int .i64 m) := pw_cell_below hb6 (by first | assumption | go_keep); have b2 : w6.cell? ⟨w1.heap.size, 2, none⟩ = some (.int .i64 d) := pw_cell_below hb6 (by first | assumption | go_keep); have b3 : w6.cell? ⟨w2.heap.size, 0, none⟩ = some (.int .i64 y') := pw_cell_below hb6 (by first | assumption | go_keep); have b4 : w6.cell? ⟨w2.heap.size, 1, none⟩ = some (.int .i64 m') := pw_cell_below hb6 (by first | assumption | go_keep); have b5 : w6.cell? ⟨w2.heap.size, 2, none⟩ = some (.int .i64 d') := pw_cell_below hb6 (by first | assumption | go_keep); have GB6 : Aside0 (Below w.heap.size w w6) := ⟨below_step (Aside0.out (by assumption)) hb6⟩) | (go_at_call_of 8 (Value.agg #[.int .i64 y', .int .i64 m', .int .i64 d']); refine (text_calls y' m' d' _ HV'.out (HT.out.step (Aside0.out (by assumption)))).mono ?_; rintro e w7 ⟨rfl, hb7⟩; have c0 : w7.cell? ⟨w1.heap.size, 0, none⟩ = some (.int .i64 y) := pw_cell_below hb7 (by first | assumption | go_keep); have c1 : w7.cell? ⟨w1.heap.size, 1, none⟩ = some (.int .i64 m) := pw_cell_below hb7 (by first | assumption | go_keep); have c2 : w7.cell? ⟨w1.heap.size, 2, none⟩ = some (.int .i64 d) := pw_cell_below hb7 (by first | assumption | go_keep); have c3 : w7.cell? ⟨w2.heap.size, 0, none⟩ = some (.int .i64 y') := pw_cell_below hb7 (by first | assumption | go_keep); have c4 : w7.cell? ⟨w2.heap.size, 1, none⟩ = some (.int .i64 m') := pw_cell_below hb7 (by first | assumption | go_keep); have c5 : w7.cell? ⟨w2.heap.size, 2, none⟩ = some (.int .i64 d') := pw_cell_below hb7 (by first | assumption | go_keep); have GB7 : Aside0 (Below w.heap.size w w7) := ⟨below_step (Aside0.out (by assumption)) hb7⟩))
  all_goals go_wp2_with fail
  all_goals go_ret
  all_goals exact ⟨by first | rfl | (simp; done), Aside0.out (by assumption)⟩
set_option maxHeartbeats 8000000 in
theorem orders_eq (a0 b0 : Int) (w : World) (b1 : 0 ≤ a0 ∧ a0 ≤ 4294967295) (b2 : 0 ≤ b0 ∧ b0 ≤ 4294967295) (ht : TB w) (y m d y' m' d' : Int) (hv : Cal.valid y m d) (hn : Cal.num y m d = a0 % 3652059) (hv' : Cal.valid y' m' d') (hn' : Cal.num y' m' d' = b0 % 3652059) (c0 : y = y') (c1 : m = m') (c : d = d') :
    Calls Tryd.prog 3 #[.int .u32 a0, .int .u32 b0] w fun e w' => e = .returned (.bool true) ∧ Below w.heap.size w w' := by
  have hn1 : a0 % 3652059 = b0 % 3652059 := by rw [← hn, ← hn', c0, c1, c]
  have e1 : decide (a0 % 3652059 < b0 % 3652059) = false := by exact decide_eq_false (by omega)
  have e2 : (a0 % 3652059 == b0 % 3652059) = true := by exact beq_iff_eq.2 hn1
  have e3 : Op.bytesLess (Txt.txt y m d) (Txt.txt y' m' d') = false := by
    rw [Bool.eq_false_iff]; intro q; have := (text_less y m d y' m' d' hv hv').1 q; omega
  have f0 : decide (y < y') = false := decide_eq_false (by omega)
  have f1 : (y == y') = true := beq_iff_eq.2 (by omega)
  have f2 : decide (m < m') = false := decide_eq_false (by omega)
  have f3 : (m == m') = true := beq_iff_eq.2 (by omega)
  have f4 : decide (d < d') = false := decide_eq_false (by omega)
  have f5 : (d == d') = true := beq_iff_eq.2 (by omega)
  have HV := Aside0.mk hv
  have HN := Aside0.mk hn
  have HV' := Aside0.mk hv'
  have HN' := Aside0.mk hn'
  have HT := Aside0.mk ht
  clear hv hn hv' hn' ht hn1 c c0 c1
  go_enter Tryd.func3, Tryd.ntmps3
  go_wp2_with fail
  with_reducible refine (rof_calls _ _ (by omega) (by omega) y m d HV.out HN.out).mono ?_
  rintro e w1 ⟨rfl, hb⟩
  have GB := Aside0.mk hb
  clear hb
  go_wp2_with fail
  with_reducible refine (rof_calls _ _ (by omega) (by omega) y' m' d' HV'.out HN'.out).mono ?_
  rintro e w2 ⟨rfl, hb⟩
  have B1 := Aside0.mk (blk_below (blk_new w1 (.cells #[.int .i64 y, .int .i64 m, .int .i64 d] 24)) hb)
  have GB := Aside0.mk (below_step (below_alloc GB.out _) hb)
  have hl1 := Aside0.mk (blk_lt B1.out)
  clear hb
  have k0 : w2.cell? ⟨w1.heap.size, 0, none⟩ = some (.int .i64 y) := (blk_cell B1.out 0).trans rfl
  have k1 : w2.cell? ⟨w1.heap.size, 1, none⟩ = some (.int .i64 m) := (blk_cell B1.out 1).trans rfl
  have k2 : w2.cell? ⟨w1.heap.size, 2, none⟩ = some (.int .i64 d) := (blk_cell B1.out 2).trans rfl
  have q0 : (w2.alloc (.cells #[.int .i64 y', .int .i64 m', .int .i64 d'] 24)).cell? ⟨w1.heap.size, 0, none⟩ = some (.int .i64 y) := (World.cell?_alloc_lt _ _ _ hl1.out).trans k0
  have q1 : (w2.alloc (.cells #[.int .i64 y', .int .i64 m', .int .i64 d'] 24)).cell? ⟨w1.heap.size, 1, none⟩ = some (.int .i64 m) := (World.cell?_alloc_lt _ _ _ hl1.out).trans k1
  have q2 : (w2.alloc (.cells #[.int .i64 y', .int .i64 m', .int .i64 d'] 24)).cell? ⟨w1.heap.size, 2, none⟩ = some (.int .i64 d) := (World.cell?_alloc_lt _ _ _ hl1.out).trans k2
  go_wp2_with fail
  with_reducible refine (number_calls y m d _ _ HV.out HN.out).mono ?_
  rintro e w3 ⟨rfl, hb⟩
  have B2 := Aside0.mk (blk_below (blk_new w2 (.cells #[.int .i64 y', .int .i64 m', .int .i64 d'] 24)) hb)
  have B1 := Aside0.mk (blk_below (blk_alloc B1.out _) hb)
  have GB := Aside0.mk (below_step (below_alloc GB.out _) hb)
  clear hb k0 k1 k2 q0 q1 q2
  have r0 : w3.cell? ⟨w2.heap.size, 0, none⟩ = some (.int .i64 y') := (blk_cell B2.out 0).trans rfl
  have r1 : w3.cell? ⟨w2.heap.size, 1, none⟩ = some (.int .i64 m') := (blk_cell B2.out 1).trans rfl
  have r2 : w3.cell? ⟨w2.heap.size, 2, none⟩ = some (.int .i64 d') := (blk_cell B2.out 2).trans rfl
  go_wp2_with fail
  with_reducible refine (number_calls y' m' d' _ _ HV'.out HN'.out).mono ?_
  rintro e w4 ⟨rfl, hb⟩
  have B2 := Aside0.mk (blk_below B2.out hb)
  have B1 := Aside0.mk (blk_below B1.out hb)
  have GB := Aside0.mk (below_step GB.out hb)
  clear hb r0 r1 r2
  have k0 : w4.cell? ⟨w1.heap.size, 0, none⟩ = some (.int .i64 y) := (blk_cell B1.out 0).trans rfl
  have k1 : w4.cell? ⟨w1.heap.size, 1, none⟩ = some (.int .i64 m) := (blk_cell B1.out 1).trans rfl
  have k2 : w4.cell? ⟨w1.heap.size, 2, none⟩ = some (.int .i64 d) := (blk_cell B1.out 2).trans rfl
  have r0 : w4.cell? ⟨w2.heap.size, 0, none⟩ = some (.int .i64 y') := (blk_cell B2.out 0).trans rfl
  have r1 : w4.cell? ⟨w2.heap.size, 1, none⟩ = some (.int .i64 m') := (blk_cell B2.out 1).trans rfl
  have r2 : w4.cell? ⟨w2.heap.size, 2, none⟩ = some (.int .i64 d') := (blk_cell B2.out 2).trans rfl
  go_wp2_with fail
  have gb : Aside0 (Below w.heap.size w w4.drew) := ⟨below_drew1 GB.out⟩
  have p0 : w4.drew.cell? ⟨w1.heap.size, 0, none⟩ = some (.int .i64 y) := k0
  have p1 : w4.drew.cell? ⟨w1.heap.size, 1, none⟩ = some (.int .i64 m) := k1
  have p2 : w4.drew.cell? ⟨w1.heap.size, 2, none⟩ = some (.int .i64 d) := k2
  have p3 : w4.drew.cell? ⟨w2.heap.size, 0, none⟩ = some (.int .i64 y') := r0
  have p4 : w4.drew.cell? ⟨w2.heap.size, 1, none⟩ = some (.int .i64 m') := r1
  have p5 : w4.drew.cell? ⟨w2.heap.size, 2, none⟩ = some (.int .i64 d') := r2
  go_region_held3 (fun w' => w'.cell? ⟨w1.heap.size, 0, none⟩ = some (.int .i64 y) ∧ w'.cell? ⟨w1.heap.size, 1, none⟩ = some (.int .i64 m) ∧ w'.cell? ⟨w1.heap.size, 2, none⟩ = some (.int .i64 d) ∧ w'.cell? ⟨w2.heap.size, 0, none⟩ = some (.int .i64 y') ∧ w'.cell? ⟨w2.heap.size, 1, none⟩ = some (.int .i64 m') ∧ w'.cell? ⟨w2.heap.size, 2, none⟩ = some (.int .i64 d') ∧ Aside0 (Below w.heap.size w w')) (first | exact ⟨by assumption, by assumption, by assumption, by assumption, by assumption, by assumption, by assumption⟩ | go_keep) (first | (go_at_call 7; refine (awake_calls _).mono ?_; rintro e w5 ⟨rfl, hb5⟩; have a0 : w5.cell? ⟨w1.heap.size, 0, none⟩ = some (.int .i64 y) := pw_cell_below hb5 (by first | assumption | go_keep); have a1 : w5.cell? ⟨w1.heap.size, 1, none⟩ = some (.int .i64 m) := pw_cell_below hb5 (by first | assumption | go_keep); have a2 : w5.cell? ⟨w1.heap.size, 2, none⟩ = some (.int .i64 d) := pw_cell_below hb5 (by first | assumption | go_keep); have a3 : w5.cell? ⟨w2.heap.size, 0, none⟩ = some (.int .i64 y') := pw_cell_below hb5 (by first | assumption | go_keep); have a4 : w5.cell? ⟨w2.heap.size, 1, none⟩ = some (.int .i64 m') := pw_cell_below hb5 (by first | assumption | go_keep); have a5 : w5.cell? ⟨w2.heap.size, 2, none⟩ = some (.int .i64 d') := pw_cell_below hb5 (by first | assumption | go_keep); have GB5 : Aside0 (Below w.heap.size w w5) := ⟨below_step (Aside0.out (by assumption)) hb5⟩) | (go_at_call_of 8 (Value.agg #[.int .i64 y, .int .i64 m, .int .i64 d]); refine (text_calls y m d _ HV.out (HT.out.step (Aside0.out (by assumption)))).mono ?_; rintro e w6 ⟨rfl, hb6⟩; have b0 : w6.cell? ⟨w1.heap.size, 0, none⟩ = some (.int .i64 y) := pw_cell_below hb6 (by first | assumption | go_keep); have b1 : w6.cell? ⟨w1.heap.size, 1, none⟩ = some (.int .i64 m) := pw_cell_below hb6 (by first | assumption | go_keep); have b2 : w6.cell? ⟨w1.heap.size, 2, none⟩ = some (.int .i64 d) := pw_cell_below hb6 (by first | assumption | go_keep); have b3 : w6.cell? ⟨w2.heap.size, 0, none⟩ = some (.int .i64 y') := pw_cell_below hb6 (by first | assumption | go_keep); have b4 : w6.cell? ⟨w2.heap.size, 1, none⟩ = some (.int .i64 m') := pw_cell_below hb6 (by first | assumption | go_keep); have b5 : w6.cell? ⟨w2.heap.size, 2, none⟩ = some (.int .i64 d') := pw_cell_below hb6 (by first | assumption | go_keep); have GB6 : Aside0 (Below w.heap.size w w6) := ⟨below_step (Aside0.out (by assumption)) hb6⟩) | (go_at_call_of 8 (Value.agg #[.int .i64 y', .int .i64 m', .int .i64 d']); refine (text_calls y' m' d' _ HV'.out (HT.out.step (Aside0.out (by assumption)))).mono ?_; rintro e w7 ⟨rfl, hb7⟩; have c0 : w7.cell? ⟨w1.heap.size, 0, none⟩ = some (.int .i64 y) := pw_cell_below hb7 (by first | assumption | go_keep); have c1 : w7.cell? ⟨w1.heap.size, 1, none⟩ = some (.int .i64 m) := pw_cell_below hb7 (by first | assumption | go_keep); have c2 : w7.cell? ⟨w1.heap.size, 2, none⟩ = some (.int .i64 d) := pw_cell_below hb7 (by first | assumption | go_keep); have c3 : w7.cell? ⟨w2.heap.size, 0, none⟩ = some (.int .i64 y') := pw_cell_below hb7 (by first | assumption | go_keep); have c4 : w7.cell? ⟨w2.heap.size, 1, none⟩ = some (.int .i64 m') := pw_cell_below hb7 (by first | assumption | go_keep); have c5 : w7.cell? ⟨w2.heap.size, 2, none⟩ = some (.int .i64 d') := pw_cell_below hb7 (by first | assumption | go_keep); have GB7 : Aside0 (Below w.heap.size w w7) := ⟨below_step (Aside0.out (by assumption)) hb7⟩))
  all_goals go_wp2_with fail
  all_goals go_ret
  all_goals exact ⟨by first | rfl | (simp; done), Aside0.out (by assumption)⟩
theorem civilOrders_calls (a0 b0 : Int) (w : World) (w0 : (Lit.int .u32 a0).wf = true) (w1 : (Lit.int .u32 b0).wf = true) (ht : TB w) :
    Calls Tryd.prog 3 #[.int .u32 a0, .int .u32 b0] w fun e w' => e = .returned (.bool true) ∧ Below w.heap.size w w' := by
  have b1 := bounds_u32 w0
  have b2 := bounds_u32 w1
  obtain ⟨y, m, d, hv, hn⟩ := ex_day' (a0 % 3652059) (by omega) (by omega)
  obtain ⟨y', m', d', hv', hn'⟩ := ex_day' (b0 % 3652059) (by omega) (by omega)
  by_cases c1 : y < y'
  · exact orders_y1 a0 b0 w b1 b2 ht y m d y' m' d' hv hn hv' hn' c1
  · by_cases c2 : y' < y
    · exact orders_y2 a0 b0 w b1 b2 ht y m d y' m' d' hv hn hv' hn' c2
    · by_cases c3 : m < m'
      · exact orders_m1 a0 b0 w b1 b2 ht y m d y' m' d' hv hn hv' hn' (by omega) c3
      · by_cases c4 : m' < m
        · exact orders_m2 a0 b0 w b1 b2 ht y m d y' m' d' hv hn hv' hn' (by omega) c4
        · by_cases c5 : d < d'
          · exact orders_d1 a0 b0 w b1 b2 ht y m d y' m' d' hv hn hv' hn' (by omega) (by omega) c5
          · by_cases c6 : d' < d
            · exact orders_d2 a0 b0 w b1 b2 ht y m d y' m' d' hv hn hv' hn' (by omega) (by omega) c6
            · exact orders_eq a0 b0 w b1 b2 ht y m d y' m' d' hv hn hv' hn' (by omega) (by omega) (by omega)
end Go.Proofs.YtljfmfkgpnabaaaDoor.Pure
