/- ReportCycles: what the law computes, for every input. -/
import Derived.Test.YtnpcodfeggcdbaaDoorDays
set_option linter.unusedVariables false
set_option linter.unusedSimpArgs false
namespace Go.Proofs.YtnpcodfeggcdbaaDoor.Pure
open Go.RowKit Go.Proofs.YtnpcodfeggcdbaaDoor.PMny Go.Proofs.YtnpcodfeggcdbaaDoor.PDay Go.Proofs.YtnpcodfeggcdbaaDoorW.PrintWords Go.Proofs.YtnpcodfeggcdbaaDoorW.PrintLast
open Go.Proofs.YtnpcodfeggcdbaaDoor Go.Proofs.YtnpcodfeggcdbaaDoorW.PrintMore
set_option maxHeartbeats 16000000 in
set_option maxRecDepth 20000 in
theorem cycles_false (no am us tr D P X : Int) (gd : Bool) (t1 t2 t3 t4 t5 : ByteArray) (w : World) (ht : TB w)  (bP : Aside0 (0 ≤ P ∧ P ≤ 255))
    (h1 : decide (am < -4611686018427387904) = false) (h2 : decide (am > 4611686018427387904) = false) (h3 : decide (no < -4611686018427387904) = false) (h4 : decide (no > 4611686018427387904) = false)
    (q1 : t1.size ≤ 20) (q2 : t2.size ≤ 10) (q3 : t3.size ≤ 10) (q4 : t4.size ≤ 23) (q5 : t5.size ≤ 10)
    (T1 : Aside0 ((∀ w, TB w → Calls Tryd.prog 27 #[.int .i64 no] w fun e w' => e = .returned (.string t1) ∧ Below w.heap.size w w') ∧ (∀ w, Calls Tryd.prog 12 #[.int .i64 no] w fun e w' => e = .returned (.string t1) ∧ Below w.heap.size w w'))) (T2 : Aside0 ((∀ w, TB w → Calls Tryd.prog 28 #[.int .i64 D] w fun e w' => e = .returned (.string t2) ∧ Below w.heap.size w w') ∧ (∀ w, Calls Tryd.prog 13 #[.int .i64 D] w fun e w' => e = .returned (.string t2) ∧ Below w.heap.size w w'))) (T3 : Aside0 (∀ w, Calls Tryd.prog 14 #[.int .u8 P] w fun e w' => e = .returned (.string t3) ∧ Below w.heap.size w w')) (T4 : Aside0 ((∀ w, TB w → Calls Tryd.prog 9 #[.int .i64 am] w fun e w' => e = .returned (.string t4) ∧ Below w.heap.size w w') ∧ (∀ w, Calls Tryd.prog 11 #[.int .i64 am] w fun e w' => e = .returned (.string t4) ∧ Below w.heap.size w w'))) (T5 : Aside0 ((∀ w, TB w → Calls Tryd.prog 28 #[.int .i64 X] w fun e w' => e = .returned (.string t5) ∧ Below w.heap.size w w') ∧ (∀ w, Calls Tryd.prog 13 #[.int .i64 X] w fun e w' => e = .returned (.string t5) ∧ Below w.heap.size w w'))) :
    Calls Tryd.prog 5 #[.agg #[.int .i64 no, .int .i64 D, .int .u8 P, .int .i64 am, .int .i64 us, .int .i64 tr, .int .i64 X, .bool gd], .bool false] w fun e w' => e = .returned (.bool true) ∧ Below w.heap.size w w' := by
  have HT := Aside0.mk ht
  clear ht
  have s2 : ¬ 9223372036854775807 < t1.size + 4 := by omega
  have s3 : ¬ 9223372036854775807 < t1.size + 4 + t2.size := by omega
  have s4 : ¬ 9223372036854775807 < t1.size + 4 + t2.size + 2 := by omega
  have s5 : ¬ 9223372036854775807 < t1.size + 4 + t2.size + 2 + t3.size := by omega
  have s6 : ¬ 9223372036854775807 < t1.size + 4 + t2.size + 2 + t3.size + 1 := by omega
  have s7 : ¬ 9223372036854775807 < t1.size + 4 + t2.size + 2 + t3.size + 1 + t4.size := by omega
  have s8 : ¬ 9223372036854775807 < 6 + t5.size := by omega
  have s9 : ¬ 9223372036854775807 < t1.size + 4 + t2.size + 2 + t3.size + 1 + t4.size + (6 + t5.size) := by omega
  have p1 := q1
  have p2 := q2
  have p3 := q3
  have p4 := q4
  have p5 := q5
  clear q1 q2 q3 q4 q5
  have q1 : Aside0 (t1.size ≤ 20) := ⟨p1⟩
  have q2 : Aside0 (t2.size ≤ 10) := ⟨p2⟩
  have q3 : Aside0 (t3.size ≤ 10) := ⟨p3⟩
  have q4 : Aside0 (t4.size ≤ 23) := ⟨p4⟩
  have q5 : Aside0 (t5.size ≤ 10) := ⟨p5⟩
  clear p1 p2 p3 p4 p5
  go_enter Tryd.func5, Tryd.ntmps5
  go_wp2_with fail
  go_region_held3 (fun w' => w'.cell? ⟨w.heap.size, 0, none⟩ = some (.int .i64 no) ∧ w'.cell? ⟨w.heap.size, 1, none⟩ = some (.int .i64 D) ∧ w'.cell? ⟨w.heap.size, 2, none⟩ = some (.int .u8 P) ∧ w'.cell? ⟨w.heap.size, 3, none⟩ = some (.int .i64 am) ∧ w'.cell? ⟨w.heap.size, 6, none⟩ = some (.int .i64 X)) (go_keep) (first
    | (go_at_call_of 12 (Value.int .i64 no); with_reducible refine (T1.out.2 _).mono ?_; rintro e w1 ⟨rfl, hb1⟩; have g1 : Aside0 (Below w.heap.size w w1) := ⟨below_step (below_drew1 (below_alloc (Below.refl _ _) _)) hb1⟩; have k1_0 : w1.cell? ⟨w.heap.size, 0, none⟩ = some (.int .i64 no) := pw_cell_below hb1 (by first | assumption | go_keep); have k1_1 : w1.cell? ⟨w.heap.size, 1, none⟩ = some (.int .i64 D) := pw_cell_below hb1 (by first | assumption | go_keep); have k1_2 : w1.cell? ⟨w.heap.size, 2, none⟩ = some (.int .u8 P) := pw_cell_below hb1 (by first | assumption | go_keep); have k1_3 : w1.cell? ⟨w.heap.size, 3, none⟩ = some (.int .i64 am) := pw_cell_below hb1 (by first | assumption | go_keep); have k1_6 : w1.cell? ⟨w.heap.size, 6, none⟩ = some (.int .i64 X) := pw_cell_below hb1 (by first | assumption | go_keep))
    | (go_at_call_of 13 (Value.int .i64 D); with_reducible refine (T2.out.2 _).mono ?_; rintro e w2 ⟨rfl, hb2⟩; have g2 : Aside0 (Below w.heap.size w w2) := ⟨below_step g1.out hb2⟩; have k2_0 : w2.cell? ⟨w.heap.size, 0, none⟩ = some (.int .i64 no) := pw_cell_below hb2 (by first | assumption | go_keep); have k2_1 : w2.cell? ⟨w.heap.size, 1, none⟩ = some (.int .i64 D) := pw_cell_below hb2 (by first | assumption | go_keep); have k2_2 : w2.cell? ⟨w.heap.size, 2, none⟩ = some (.int .u8 P) := pw_cell_below hb2 (by first | assumption | go_keep); have k2_3 : w2.cell? ⟨w.heap.size, 3, none⟩ = some (.int .i64 am) := pw_cell_below hb2 (by first | assumption | go_keep); have k2_6 : w2.cell? ⟨w.heap.size, 6, none⟩ = some (.int .i64 X) := pw_cell_below hb2 (by first | assumption | go_keep))
    | (go_at_call_of 14 (Value.int .u8 P); with_reducible refine (T3.out _).mono ?_; rintro e w3 ⟨rfl, hb3⟩; have g3 : Aside0 (Below w.heap.size w w3) := ⟨below_step g2.out hb3⟩; have k3_0 : w3.cell? ⟨w.heap.size, 0, none⟩ = some (.int .i64 no) := pw_cell_below hb3 (by first | assumption | go_keep); have k3_1 : w3.cell? ⟨w.heap.size, 1, none⟩ = some (.int .i64 D) := pw_cell_below hb3 (by first | assumption | go_keep); have k3_2 : w3.cell? ⟨w.heap.size, 2, none⟩ = some (.int .u8 P) := pw_cell_below hb3 (by first | assumption | go_keep); have k3_3 : w3.cell? ⟨w.heap.size, 3, none⟩ = some (.int .i64 am) := pw_cell_below hb3 (by first | assumption | go_keep); have k3_6 : w3.cell? ⟨w.heap.size, 6, none⟩ = some (.int .i64 X) := pw_cell_below hb3 (by first | assumption | go_keep))
    | (go_at_call_of 11 (Value.int .i64 am); with_reducible refine (T4.out.2 _).mono ?_; rintro e w4 ⟨rfl, hb4⟩; have g4 : Aside0 (Below w.heap.size w w4) := ⟨below_step g3.out hb4⟩; have k4_0 : w4.cell? ⟨w.heap.size, 0, none⟩ = some (.int .i64 no) := pw_cell_below hb4 (by first | assumption | go_keep); have k4_1 : w4.cell? ⟨w.heap.size, 1, none⟩ = some (.int .i64 D) := pw_cell_below hb4 (by first | assumption | go_keep); have k4_2 : w4.cell? ⟨w.heap.size, 2, none⟩ = some (.int .u8 P) := pw_cell_below hb4 (by first | assumption | go_keep); have k4_3 : w4.cell? ⟨w.heap.size, 3, none⟩ = some (.int .i64 am) := pw_cell_below hb4 (by first | assumption | go_keep); have k4_6 : w4.cell? ⟨w.heap.size, 6, none⟩ = some (.int .i64 X) := pw_cell_below hb4 (by first | assumption | go_keep)))
  have B4 : Aside0 (w4.heap[w.heap.size]? = some (.cells #[.int .i64 no, .int .i64 D, .int .u8 P, .int .i64 am, .int .i64 us, .int .i64 tr, .int .i64 X, .bool gd] 32 (0, 0))) := ⟨blk_below (blk_below (blk_below (blk_below (blk_drew (blk_new w _)) hb1) hb2) hb3) hb4⟩
  clear hb1 hb2 hb3 hb4 g1 g2 g3
  by_cases hp : P = 2
  · have HLN : Aside0 (line t1 t2 t3 t4 t5 (P == 2) = t1 ++ (⟨#[32, 111, 102, 32]⟩ : ByteArray) ++ t2 ++ (⟨#[58, 32]⟩ : ByteArray) ++ t3 ++ (⟨#[32]⟩ : ByteArray) ++ t4 ++ ((⟨#[32, 116, 105, 108, 108, 32]⟩ : ByteArray) ++ t5)) := ⟨by rw [hp]; rfl⟩
    have hpb : (P == 2) = true := by rw [hp]; rfl
    clear hp
    go_wp2_with fail
    with_reducible refine (T5.out.2 _).mono ?_
    rintro e w5 ⟨rfl, hb5⟩
    have GB := Aside0.mk (below_step g4.out hb5)
    have B4 := Aside0.mk (blk_below B4.out hb5)
    clear hb5
    go_wp2_with fail
    with_reducible refine (awake_calls _ (HT.out.step GB.out)).mono ?_
    rintro e w6 ⟨rfl, hb⟩
    have GB := Aside0.mk (below_step GB.out hb)
    have B6 := Aside0.mk (blk_below B4.out hb)
    clear hb
    have ka0 : w6.cell? ⟨w.heap.size, 0, none⟩ = some (.int .i64 no) := (blk_cell B6.out 0).trans rfl
    have ka1 : w6.cell? ⟨w.heap.size, 1, none⟩ = some (.int .i64 D) := (blk_cell B6.out 1).trans rfl
    have ka2 : w6.cell? ⟨w.heap.size, 2, none⟩ = some (.int .u8 P) := (blk_cell B6.out 2).trans rfl
    have ka3 : w6.cell? ⟨w.heap.size, 3, none⟩ = some (.int .i64 am) := (blk_cell B6.out 3).trans rfl
    have ka4 : w6.cell? ⟨w.heap.size, 4, none⟩ = some (.int .i64 us) := (blk_cell B6.out 4).trans rfl
    have ka5 : w6.cell? ⟨w.heap.size, 5, none⟩ = some (.int .i64 tr) := (blk_cell B6.out 5).trans rfl
    have ka6 : w6.cell? ⟨w.heap.size, 6, none⟩ = some (.int .i64 X) := (blk_cell B6.out 6).trans rfl
    have ka7 : w6.cell? ⟨w.heap.size, 7, none⟩ = some (.bool gd) := (blk_cell B6.out 7).trans rfl
    go_wp2_with fail
    with_reducible refine (line_calls no D P am us tr X gd t1 t2 t3 t4 t5 _ (HT.out.step GB.out) bP.out q1.out q2.out q3.out q4.out q5.out ⟨T1.out.1, trivial⟩ ⟨T2.out.1, trivial⟩ T3 ⟨T4.out.1, trivial⟩ ⟨T5.out.1, trivial⟩).mono ?_
    rintro e w7 ⟨rfl, hb⟩
    have GB := Aside0.mk (below_step GB.out hb)
    clear hb
    rw [HLN.out]
    go_wp2_with fail
    go_ret
    exact ⟨rfl, GB.out⟩
  · have hpb : (P == 2) = false := by simpa using hp
    have HLN : Aside0 (line t1 t2 t3 t4 t5 (P == 2) = t1 ++ (⟨#[32, 111, 102, 32]⟩ : ByteArray) ++ t2 ++ (⟨#[58, 32]⟩ : ByteArray) ++ t3 ++ (⟨#[32]⟩ : ByteArray) ++ t4) := ⟨by rw [hpb]; rfl⟩
    have GB := g4
    clear hp
    go_wp2_with fail
    with_reducible refine (awake_calls _ (HT.out.step GB.out)).mono ?_
    rintro e w6 ⟨rfl, hb⟩
    have GB := Aside0.mk (below_step GB.out hb)
    have B6 := Aside0.mk (blk_below B4.out hb)
    clear hb
    have ka0 : w6.cell? ⟨w.heap.size, 0, none⟩ = some (.int .i64 no) := (blk_cell B6.out 0).trans rfl
    have ka1 : w6.cell? ⟨w.heap.size, 1, none⟩ = some (.int .i64 D) := (blk_cell B6.out 1).trans rfl
    have ka2 : w6.cell? ⟨w.heap.size, 2, none⟩ = some (.int .u8 P) := (blk_cell B6.out 2).trans rfl
    have ka3 : w6.cell? ⟨w.heap.size, 3, none⟩ = some (.int .i64 am) := (blk_cell B6.out 3).trans rfl
    have ka4 : w6.cell? ⟨w.heap.size, 4, none⟩ = some (.int .i64 us) := (blk_cell B6.out 4).trans rfl
    have ka5 : w6.cell? ⟨w.heap.size, 5, none⟩ = some (.int .i64 tr) := (blk_cell B6.out 5).trans rfl
    have ka6 : w6.cell? ⟨w.heap.size, 6, none⟩ = some (.int .i64 X) := (blk_cell B6.out 6).trans rfl
    have ka7 : w6.cell? ⟨w.heap.size, 7, none⟩ = some (.bool gd) := (blk_cell B6.out 7).trans rfl
    go_wp2_with fail
    with_reducible refine (line_calls no D P am us tr X gd t1 t2 t3 t4 t5 _ (HT.out.step GB.out) bP.out q1.out q2.out q3.out q4.out q5.out ⟨T1.out.1, trivial⟩ ⟨T2.out.1, trivial⟩ T3 ⟨T4.out.1, trivial⟩ ⟨T5.out.1, trivial⟩).mono ?_
    rintro e w7 ⟨rfl, hb⟩
    have GB := Aside0.mk (below_step GB.out hb)
    clear hb
    rw [HLN.out]
    go_wp2_with fail
    go_ret
    exact ⟨rfl, GB.out⟩
set_option maxHeartbeats 16000000 in
set_option maxRecDepth 20000 in
theorem cycles_true (no am us tr D P X due ph nx : Int) (gd : Bool) (t1 t2 t3 t4 t5 : ByteArray) (w : World) (ht : TB w) (hD : wrap64 ((IntKind.u64.wrap due).tmod 3652059) = D) (hX : wrap64 ((IntKind.u64.wrap nx).tmod 3652059) = X) (hP : ph % 12 = P) (b2 : 0 ≤ ph ∧ ph ≤ 255) (bd : -9223372036854775808 ≤ due ∧ due ≤ 9223372036854775807) (bn : -9223372036854775808 ≤ nx ∧ nx ≤ 9223372036854775807) (bP : Aside0 (0 ≤ P ∧ P ≤ 255))
    (h1 : decide (am < -4611686018427387904) = false) (h2 : decide (am > 4611686018427387904) = false) (h3 : decide (no < -4611686018427387904) = false) (h4 : decide (no > 4611686018427387904) = false)
    (q1 : t1.size ≤ 20) (q2 : t2.size ≤ 10) (q3 : t3.size ≤ 10) (q4 : t4.size ≤ 23) (q5 : t5.size ≤ 10)
    (T1 : Aside0 ((∀ w, TB w → Calls Tryd.prog 27 #[.int .i64 no] w fun e w' => e = .returned (.string t1) ∧ Below w.heap.size w w') ∧ (∀ w, Calls Tryd.prog 12 #[.int .i64 no] w fun e w' => e = .returned (.string t1) ∧ Below w.heap.size w w'))) (T2 : Aside0 ((∀ w, TB w → Calls Tryd.prog 28 #[.int .i64 D] w fun e w' => e = .returned (.string t2) ∧ Below w.heap.size w w') ∧ (∀ w, Calls Tryd.prog 13 #[.int .i64 D] w fun e w' => e = .returned (.string t2) ∧ Below w.heap.size w w'))) (T3 : Aside0 (∀ w, Calls Tryd.prog 14 #[.int .u8 P] w fun e w' => e = .returned (.string t3) ∧ Below w.heap.size w w')) (T4 : Aside0 ((∀ w, TB w → Calls Tryd.prog 9 #[.int .i64 am] w fun e w' => e = .returned (.string t4) ∧ Below w.heap.size w w') ∧ (∀ w, Calls Tryd.prog 11 #[.int .i64 am] w fun e w' => e = .returned (.string t4) ∧ Below w.heap.size w w'))) (T5 : Aside0 ((∀ w, TB w → Calls Tryd.prog 28 #[.int .i64 X] w fun e w' => e = .returned (.string t5) ∧ Below w.heap.size w w') ∧ (∀ w, Calls Tryd.prog 13 #[.int .i64 X] w fun e w' => e = .returned (.string t5) ∧ Below w.heap.size w w'))) :
    Calls Tryd.prog 5 #[.agg #[.int .i64 no, .int .i64 due, .int .u8 ph, .int .i64 am, .int .i64 us, .int .i64 tr, .int .i64 nx, .bool gd], .bool true] w fun e w' => e = .returned (.bool true) ∧ Below w.heap.size w w' := by
  have HT := Aside0.mk ht
  clear ht
  have HD := Aside0.mk hD
  have HX := Aside0.mk hX
  have HP := Aside0.mk hP
  clear hD hX hP
  have s2 : ¬ 9223372036854775807 < t1.size + 4 := by omega
  have s3 : ¬ 9223372036854775807 < t1.size + 4 + t2.size := by omega
  have s4 : ¬ 9223372036854775807 < t1.size + 4 + t2.size + 2 := by omega
  have s5 : ¬ 9223372036854775807 < t1.size + 4 + t2.size + 2 + t3.size := by omega
  have s6 : ¬ 9223372036854775807 < t1.size + 4 + t2.size + 2 + t3.size + 1 := by omega
  have s7 : ¬ 9223372036854775807 < t1.size + 4 + t2.size + 2 + t3.size + 1 + t4.size := by omega
  have s8 : ¬ 9223372036854775807 < 6 + t5.size := by omega
  have s9 : ¬ 9223372036854775807 < t1.size + 4 + t2.size + 2 + t3.size + 1 + t4.size + (6 + t5.size) := by omega
  have p1 := q1
  have p2 := q2
  have p3 := q3
  have p4 := q4
  have p5 := q5
  clear q1 q2 q3 q4 q5
  have q1 : Aside0 (t1.size ≤ 20) := ⟨p1⟩
  have q2 : Aside0 (t2.size ≤ 10) := ⟨p2⟩
  have q3 : Aside0 (t3.size ≤ 10) := ⟨p3⟩
  have q4 : Aside0 (t4.size ≤ 23) := ⟨p4⟩
  have q5 : Aside0 (t5.size ≤ 10) := ⟨p5⟩
  clear p1 p2 p3 p4 p5
  go_enter Tryd.func5, Tryd.ntmps5
  go_wp2_with fail
  rw [HD.out, HX.out, HP.out]
  go_region_held3 (fun w' => w'.cell? ⟨w.heap.size, 0, none⟩ = some (.int .i64 no) ∧ w'.cell? ⟨w.heap.size, 1, none⟩ = some (.int .i64 D) ∧ w'.cell? ⟨w.heap.size, 2, none⟩ = some (.int .u8 P) ∧ w'.cell? ⟨w.heap.size, 3, none⟩ = some (.int .i64 am) ∧ w'.cell? ⟨w.heap.size, 6, none⟩ = some (.int .i64 X)) (go_keep) (first
    | (go_at_call_of 12 (Value.int .i64 no); with_reducible refine (T1.out.2 _).mono ?_; rintro e w1 ⟨rfl, hb1⟩; have g1 : Aside0 (Below w.heap.size w w1) := ⟨below_step (below_drew1 (below_alloc (Below.refl _ _) _)) hb1⟩; have k1_0 : w1.cell? ⟨w.heap.size, 0, none⟩ = some (.int .i64 no) := pw_cell_below hb1 (by first | assumption | go_keep); have k1_1 : w1.cell? ⟨w.heap.size, 1, none⟩ = some (.int .i64 D) := pw_cell_below hb1 (by first | assumption | go_keep); have k1_2 : w1.cell? ⟨w.heap.size, 2, none⟩ = some (.int .u8 P) := pw_cell_below hb1 (by first | assumption | go_keep); have k1_3 : w1.cell? ⟨w.heap.size, 3, none⟩ = some (.int .i64 am) := pw_cell_below hb1 (by first | assumption | go_keep); have k1_6 : w1.cell? ⟨w.heap.size, 6, none⟩ = some (.int .i64 X) := pw_cell_below hb1 (by first | assumption | go_keep))
    | (go_at_call_of 13 (Value.int .i64 D); with_reducible refine (T2.out.2 _).mono ?_; rintro e w2 ⟨rfl, hb2⟩; have g2 : Aside0 (Below w.heap.size w w2) := ⟨below_step g1.out hb2⟩; have k2_0 : w2.cell? ⟨w.heap.size, 0, none⟩ = some (.int .i64 no) := pw_cell_below hb2 (by first | assumption | go_keep); have k2_1 : w2.cell? ⟨w.heap.size, 1, none⟩ = some (.int .i64 D) := pw_cell_below hb2 (by first | assumption | go_keep); have k2_2 : w2.cell? ⟨w.heap.size, 2, none⟩ = some (.int .u8 P) := pw_cell_below hb2 (by first | assumption | go_keep); have k2_3 : w2.cell? ⟨w.heap.size, 3, none⟩ = some (.int .i64 am) := pw_cell_below hb2 (by first | assumption | go_keep); have k2_6 : w2.cell? ⟨w.heap.size, 6, none⟩ = some (.int .i64 X) := pw_cell_below hb2 (by first | assumption | go_keep))
    | (go_at_call_of 14 (Value.int .u8 P); with_reducible refine (T3.out _).mono ?_; rintro e w3 ⟨rfl, hb3⟩; have g3 : Aside0 (Below w.heap.size w w3) := ⟨below_step g2.out hb3⟩; have k3_0 : w3.cell? ⟨w.heap.size, 0, none⟩ = some (.int .i64 no) := pw_cell_below hb3 (by first | assumption | go_keep); have k3_1 : w3.cell? ⟨w.heap.size, 1, none⟩ = some (.int .i64 D) := pw_cell_below hb3 (by first | assumption | go_keep); have k3_2 : w3.cell? ⟨w.heap.size, 2, none⟩ = some (.int .u8 P) := pw_cell_below hb3 (by first | assumption | go_keep); have k3_3 : w3.cell? ⟨w.heap.size, 3, none⟩ = some (.int .i64 am) := pw_cell_below hb3 (by first | assumption | go_keep); have k3_6 : w3.cell? ⟨w.heap.size, 6, none⟩ = some (.int .i64 X) := pw_cell_below hb3 (by first | assumption | go_keep))
    | (go_at_call_of 11 (Value.int .i64 am); with_reducible refine (T4.out.2 _).mono ?_; rintro e w4 ⟨rfl, hb4⟩; have g4 : Aside0 (Below w.heap.size w w4) := ⟨below_step g3.out hb4⟩; have k4_0 : w4.cell? ⟨w.heap.size, 0, none⟩ = some (.int .i64 no) := pw_cell_below hb4 (by first | assumption | go_keep); have k4_1 : w4.cell? ⟨w.heap.size, 1, none⟩ = some (.int .i64 D) := pw_cell_below hb4 (by first | assumption | go_keep); have k4_2 : w4.cell? ⟨w.heap.size, 2, none⟩ = some (.int .u8 P) := pw_cell_below hb4 (by first | assumption | go_keep); have k4_3 : w4.cell? ⟨w.heap.size, 3, none⟩ = some (.int .i64 am) := pw_cell_below hb4 (by first | assumption | go_keep); have k4_6 : w4.cell? ⟨w.heap.size, 6, none⟩ = some (.int .i64 X) := pw_cell_below hb4 (by first | assumption | go_keep)))
  have B4 : Aside0 (w4.heap[w.heap.size]? = some (.cells #[.int .i64 no, .int .i64 D, .int .u8 P, .int .i64 am, .int .i64 us, .int .i64 tr, .int .i64 X, .bool gd] 32 (0, 0))) := ⟨blk_below (blk_below (blk_below (blk_below (blk_drew (blk_new w _)) hb1) hb2) hb3) hb4⟩
  clear hb1 hb2 hb3 hb4 g1 g2 g3
  by_cases hp : P = 2
  · have HLN : Aside0 (line t1 t2 t3 t4 t5 (P == 2) = t1 ++ (⟨#[32, 111, 102, 32]⟩ : ByteArray) ++ t2 ++ (⟨#[58, 32]⟩ : ByteArray) ++ t3 ++ (⟨#[32]⟩ : ByteArray) ++ t4 ++ ((⟨#[32, 116, 105, 108, 108, 32]⟩ : ByteArray) ++ t5)) := ⟨by rw [hp]; rfl⟩
    have hpb : (P == 2) = true := by rw [hp]; rfl
    clear hp
    go_wp2_with fail
    with_reducible refine (T5.out.2 _).mono ?_
    rintro e w5 ⟨rfl, hb5⟩
    have GB := Aside0.mk (below_step g4.out hb5)
    have B4 := Aside0.mk (blk_below B4.out hb5)
    clear hb5
    go_wp2_with fail
    with_reducible refine (awake_calls _ (HT.out.step GB.out)).mono ?_
    rintro e w6 ⟨rfl, hb⟩
    have GB := Aside0.mk (below_step GB.out hb)
    have B6 := Aside0.mk (blk_below B4.out hb)
    clear hb
    have ka0 : w6.cell? ⟨w.heap.size, 0, none⟩ = some (.int .i64 no) := (blk_cell B6.out 0).trans rfl
    have ka1 : w6.cell? ⟨w.heap.size, 1, none⟩ = some (.int .i64 D) := (blk_cell B6.out 1).trans rfl
    have ka2 : w6.cell? ⟨w.heap.size, 2, none⟩ = some (.int .u8 P) := (blk_cell B6.out 2).trans rfl
    have ka3 : w6.cell? ⟨w.heap.size, 3, none⟩ = some (.int .i64 am) := (blk_cell B6.out 3).trans rfl
    have ka4 : w6.cell? ⟨w.heap.size, 4, none⟩ = some (.int .i64 us) := (blk_cell B6.out 4).trans rfl
    have ka5 : w6.cell? ⟨w.heap.size, 5, none⟩ = some (.int .i64 tr) := (blk_cell B6.out 5).trans rfl
    have ka6 : w6.cell? ⟨w.heap.size, 6, none⟩ = some (.int .i64 X) := (blk_cell B6.out 6).trans rfl
    have ka7 : w6.cell? ⟨w.heap.size, 7, none⟩ = some (.bool gd) := (blk_cell B6.out 7).trans rfl
    go_wp2_with fail
    with_reducible refine (line_calls no D P am us tr X gd t1 t2 t3 t4 t5 _ (HT.out.step GB.out) bP.out q1.out q2.out q3.out q4.out q5.out ⟨T1.out.1, trivial⟩ ⟨T2.out.1, trivial⟩ T3 ⟨T4.out.1, trivial⟩ ⟨T5.out.1, trivial⟩).mono ?_
    rintro e w7 ⟨rfl, hb⟩
    have GB := Aside0.mk (below_step GB.out hb)
    clear hb
    rw [HLN.out]
    go_wp2_with fail
    go_ret
    exact ⟨rfl, GB.out⟩
  · have hpb : (P == 2) = false := by simpa using hp
    have HLN : Aside0 (line t1 t2 t3 t4 t5 (P == 2) = t1 ++ (⟨#[32, 111, 102, 32]⟩ : ByteArray) ++ t2 ++ (⟨#[58, 32]⟩ : ByteArray) ++ t3 ++ (⟨#[32]⟩ : ByteArray) ++ t4) := ⟨by rw [hpb]; rfl⟩
    have GB := g4
    clear hp
    go_wp2_with fail
    with_reducible refine (awake_calls _ (HT.out.step GB.out)).mono ?_
    rintro e w6 ⟨rfl, hb⟩
    have GB := Aside0.mk (below_step GB.out hb)
    have B6 := Aside0.mk (blk_below B4.out hb)
    clear hb
    have ka0 : w6.cell? ⟨w.heap.size, 0, none⟩ = some (.int .i64 no) := (blk_cell B6.out 0).trans rfl
    have ka1 : w6.cell? ⟨w.heap.size, 1, none⟩ = some (.int .i64 D) := (blk_cell B6.out 1).trans rfl
    have ka2 : w6.cell? ⟨w.heap.size, 2, none⟩ = some (.int .u8 P) := (blk_cell B6.out 2).trans rfl
    have ka3 : w6.cell? ⟨w.heap.size, 3, none⟩ = some (.int .i64 am) := (blk_cell B6.out 3).trans rfl
    have ka4 : w6.cell? ⟨w.heap.size, 4, none⟩ = some (.int .i64 us) := (blk_cell B6.out 4).trans rfl
    have ka5 : w6.cell? ⟨w.heap.size, 5, none⟩ = some (.int .i64 tr) := (blk_cell B6.out 5).trans rfl
    have ka6 : w6.cell? ⟨w.heap.size, 6, none⟩ = some (.int .i64 X) := (blk_cell B6.out 6).trans rfl
    have ka7 : w6.cell? ⟨w.heap.size, 7, none⟩ = some (.bool gd) := (blk_cell B6.out 7).trans rfl
    go_wp2_with fail
    with_reducible refine (line_calls no D P am us tr X gd t1 t2 t3 t4 t5 _ (HT.out.step GB.out) bP.out q1.out q2.out q3.out q4.out q5.out ⟨T1.out.1, trivial⟩ ⟨T2.out.1, trivial⟩ T3 ⟨T4.out.1, trivial⟩ ⟨T5.out.1, trivial⟩).mono ?_
    rintro e w7 ⟨rfl, hb⟩
    have GB := Aside0.mk (below_step GB.out hb)
    clear hb
    rw [HLN.out]
    go_wp2_with fail
    go_ret
    exact ⟨rfl, GB.out⟩
set_option maxHeartbeats 8000000 in
theorem cycles_out_false0 (no due ph am us tr nx : Int) (gd : Bool) (w : World) (ht : TB w) (b2 : 0 ≤ ph ∧ ph ≤ 255) (bd : -9223372036854775808 ≤ due ∧ due ≤ 9223372036854775807) (bn : -9223372036854775808 ≤ nx ∧ nx ≤ 9223372036854775807) (h1 : am < -4611686018427387904) :
    Calls Tryd.prog 5 #[.agg #[.int .i64 no, .int .i64 due, .int .u8 ph, .int .i64 am, .int .i64 us, .int .i64 tr, .int .i64 nx, .bool gd], .bool false] w fun e w' => e = .returned (.bool true) ∧ Below w.heap.size w w' := by
  have HT := Aside0.mk ht
  clear ht
  have e1 : decide (am < -4611686018427387904) = true := decide_eq_true h1
  clear h1
  go_enter Tryd.func5, Tryd.ntmps5
  go_wp2_with fail
  with_reducible refine (awake_calls _ (HT.out.step (below_alloc (Below.refl _ _) _))).mono ?_
  rintro e w1 ⟨rfl, hb⟩
  have GB := Aside0.mk (below_step (below_alloc (Below.refl _ _) _) hb)
  clear hb
  go_wp2_with fail
  go_ret
  exact ⟨rfl, GB.out⟩
set_option maxHeartbeats 8000000 in
theorem cycles_out_false1 (no due ph am us tr nx : Int) (gd : Bool) (w : World) (ht : TB w) (b2 : 0 ≤ ph ∧ ph ≤ 255) (bd : -9223372036854775808 ≤ due ∧ due ≤ 9223372036854775807) (bn : -9223372036854775808 ≤ nx ∧ nx ≤ 9223372036854775807) (h1 : ¬ am < -4611686018427387904) (h2 : 4611686018427387904 < am) :
    Calls Tryd.prog 5 #[.agg #[.int .i64 no, .int .i64 due, .int .u8 ph, .int .i64 am, .int .i64 us, .int .i64 tr, .int .i64 nx, .bool gd], .bool false] w fun e w' => e = .returned (.bool true) ∧ Below w.heap.size w w' := by
  have HT := Aside0.mk ht
  clear ht
  have e1 : decide (am < -4611686018427387904) = false := decide_eq_false h1
  have e2 : decide (am > 4611686018427387904) = true := decide_eq_true h2
  clear h1 h2
  go_enter Tryd.func5, Tryd.ntmps5
  go_wp2_with fail
  with_reducible refine (awake_calls _ (HT.out.step (below_alloc (Below.refl _ _) _))).mono ?_
  rintro e w1 ⟨rfl, hb⟩
  have GB := Aside0.mk (below_step (below_alloc (Below.refl _ _) _) hb)
  clear hb
  go_wp2_with fail
  go_ret
  exact ⟨rfl, GB.out⟩
set_option maxHeartbeats 8000000 in
theorem cycles_out_false2 (no due ph am us tr nx : Int) (gd : Bool) (w : World) (ht : TB w) (b2 : 0 ≤ ph ∧ ph ≤ 255) (bd : -9223372036854775808 ≤ due ∧ due ≤ 9223372036854775807) (bn : -9223372036854775808 ≤ nx ∧ nx ≤ 9223372036854775807) (h1 : ¬ am < -4611686018427387904) (h2 : ¬ 4611686018427387904 < am) (h3 : no < -4611686018427387904) :
    Calls Tryd.prog 5 #[.agg #[.int .i64 no, .int .i64 due, .int .u8 ph, .int .i64 am, .int .i64 us, .int .i64 tr, .int .i64 nx, .bool gd], .bool false] w fun e w' => e = .returned (.bool true) ∧ Below w.heap.size w w' := by
  have HT := Aside0.mk ht
  clear ht
  have e1 : decide (am < -4611686018427387904) = false := decide_eq_false h1
  have e2 : decide (am > 4611686018427387904) = false := decide_eq_false h2
  have e3 : decide (no < -4611686018427387904) = true := decide_eq_true h3
  clear h1 h2 h3
  go_enter Tryd.func5, Tryd.ntmps5
  go_wp2_with fail
  with_reducible refine (awake_calls _ (HT.out.step (below_alloc (Below.refl _ _) _))).mono ?_
  rintro e w1 ⟨rfl, hb⟩
  have GB := Aside0.mk (below_step (below_alloc (Below.refl _ _) _) hb)
  clear hb
  go_wp2_with fail
  go_ret
  exact ⟨rfl, GB.out⟩
set_option maxHeartbeats 8000000 in
theorem cycles_out_false3 (no due ph am us tr nx : Int) (gd : Bool) (w : World) (ht : TB w) (b2 : 0 ≤ ph ∧ ph ≤ 255) (bd : -9223372036854775808 ≤ due ∧ due ≤ 9223372036854775807) (bn : -9223372036854775808 ≤ nx ∧ nx ≤ 9223372036854775807) (h1 : ¬ am < -4611686018427387904) (h2 : ¬ 4611686018427387904 < am) (h3 : ¬ no < -4611686018427387904) (h4 : 4611686018427387904 < no) :
    Calls Tryd.prog 5 #[.agg #[.int .i64 no, .int .i64 due, .int .u8 ph, .int .i64 am, .int .i64 us, .int .i64 tr, .int .i64 nx, .bool gd], .bool false] w fun e w' => e = .returned (.bool true) ∧ Below w.heap.size w w' := by
  have HT := Aside0.mk ht
  clear ht
  have e1 : decide (am < -4611686018427387904) = false := decide_eq_false h1
  have e2 : decide (am > 4611686018427387904) = false := decide_eq_false h2
  have e3 : decide (no < -4611686018427387904) = false := decide_eq_false h3
  have e4 : decide (no > 4611686018427387904) = true := decide_eq_true h4
  clear h1 h2 h3 h4
  go_enter Tryd.func5, Tryd.ntmps5
  go_wp2_with fail
  with_reducible refine (awake_calls _ (HT.out.step (below_alloc (Below.refl _ _) _))).mono ?_
  rintro e w1 ⟨rfl, hb⟩
  have GB := Aside0.mk (below_step (below_alloc (Below.refl _ _) _) hb)
  clear hb
  go_wp2_with fail
  go_ret
  exact ⟨rfl, GB.out⟩
set_option maxHeartbeats 8000000 in
theorem cycles_out_true0 (no due ph am us tr nx : Int) (gd : Bool) (w : World) (ht : TB w) (b2 : 0 ≤ ph ∧ ph ≤ 255) (bd : -9223372036854775808 ≤ due ∧ due ≤ 9223372036854775807) (bn : -9223372036854775808 ≤ nx ∧ nx ≤ 9223372036854775807) (h1 : am < -4611686018427387904) :
    Calls Tryd.prog 5 #[.agg #[.int .i64 no, .int .i64 due, .int .u8 ph, .int .i64 am, .int .i64 us, .int .i64 tr, .int .i64 nx, .bool gd], .bool true] w fun e w' => e = .returned (.bool true) ∧ Below w.heap.size w w' := by
  have HT := Aside0.mk ht
  clear ht
  have e1 : decide (am < -4611686018427387904) = true := decide_eq_true h1
  clear h1
  go_enter Tryd.func5, Tryd.ntmps5
  go_wp2_with fail
  with_reducible refine (awake_calls _ (HT.out.step (below_alloc (Below.refl _ _) _))).mono ?_
  rintro e w1 ⟨rfl, hb⟩
  have GB := Aside0.mk (below_step (below_alloc (Below.refl _ _) _) hb)
  clear hb
  go_wp2_with fail
  go_ret
  exact ⟨rfl, GB.out⟩
set_option maxHeartbeats 8000000 in
theorem cycles_out_true1 (no due ph am us tr nx : Int) (gd : Bool) (w : World) (ht : TB w) (b2 : 0 ≤ ph ∧ ph ≤ 255) (bd : -9223372036854775808 ≤ due ∧ due ≤ 9223372036854775807) (bn : -9223372036854775808 ≤ nx ∧ nx ≤ 9223372036854775807) (h1 : ¬ am < -4611686018427387904) (h2 : 4611686018427387904 < am) :
    Calls Tryd.prog 5 #[.agg #[.int .i64 no, .int .i64 due, .int .u8 ph, .int .i64 am, .int .i64 us, .int .i64 tr, .int .i64 nx, .bool gd], .bool true] w fun e w' => e = .returned (.bool true) ∧ Below w.heap.size w w' := by
  have HT := Aside0.mk ht
  clear ht
  have e1 : decide (am < -4611686018427387904) = false := decide_eq_false h1
  have e2 : decide (am > 4611686018427387904) = true := decide_eq_true h2
  clear h1 h2
  go_enter Tryd.func5, Tryd.ntmps5
  go_wp2_with fail
  with_reducible refine (awake_calls _ (HT.out.step (below_alloc (Below.refl _ _) _))).mono ?_
  rintro e w1 ⟨rfl, hb⟩
  have GB := Aside0.mk (below_step (below_alloc (Below.refl _ _) _) hb)
  clear hb
  go_wp2_with fail
  go_ret
  exact ⟨rfl, GB.out⟩
set_option maxHeartbeats 8000000 in
theorem cycles_out_true2 (no due ph am us tr nx : Int) (gd : Bool) (w : World) (ht : TB w) (b2 : 0 ≤ ph ∧ ph ≤ 255) (bd : -9223372036854775808 ≤ due ∧ due ≤ 9223372036854775807) (bn : -9223372036854775808 ≤ nx ∧ nx ≤ 9223372036854775807) (h1 : ¬ am < -4611686018427387904) (h2 : ¬ 4611686018427387904 < am) (h3 : no < -4611686018427387904) :
    Calls Tryd.prog 5 #[.agg #[.int .i64 no, .int .i64 due, .int .u8 ph, .int .i64 am, .int .i64 us, .int .i64 tr, .int .i64 nx, .bool gd], .bool true] w fun e w' => e = .returned (.bool true) ∧ Below w.heap.size w w' := by
  have HT := Aside0.mk ht
  clear ht
  have e1 : decide (am < -4611686018427387904) = false := decide_eq_false h1
  have e2 : decide (am > 4611686018427387904) = false := decide_eq_false h2
  have e3 : decide (no < -4611686018427387904) = true := decide_eq_true h3
  clear h1 h2 h3
  go_enter Tryd.func5, Tryd.ntmps5
  go_wp2_with fail
  with_reducible refine (awake_calls _ (HT.out.step (below_alloc (Below.refl _ _) _))).mono ?_
  rintro e w1 ⟨rfl, hb⟩
  have GB := Aside0.mk (below_step (below_alloc (Below.refl _ _) _) hb)
  clear hb
  go_wp2_with fail
  go_ret
  exact ⟨rfl, GB.out⟩
set_option maxHeartbeats 8000000 in
theorem cycles_out_true3 (no due ph am us tr nx : Int) (gd : Bool) (w : World) (ht : TB w) (b2 : 0 ≤ ph ∧ ph ≤ 255) (bd : -9223372036854775808 ≤ due ∧ due ≤ 9223372036854775807) (bn : -9223372036854775808 ≤ nx ∧ nx ≤ 9223372036854775807) (h1 : ¬ am < -4611686018427387904) (h2 : ¬ 4611686018427387904 < am) (h3 : ¬ no < -4611686018427387904) (h4 : 4611686018427387904 < no) :
    Calls Tryd.prog 5 #[.agg #[.int .i64 no, .int .i64 due, .int .u8 ph, .int .i64 am, .int .i64 us, .int .i64 tr, .int .i64 nx, .bool gd], .bool true] w fun e w' => e = .returned (.bool true) ∧ Below w.heap.size w w' := by
  have HT := Aside0.mk ht
  clear ht
  have e1 : decide (am < -4611686018427387904) = false := decide_eq_false h1
  have e2 : decide (am > 4611686018427387904) = false := decide_eq_false h2
  have e3 : decide (no < -4611686018427387904) = false := decide_eq_false h3
  have e4 : decide (no > 4611686018427387904) = true := decide_eq_true h4
  clear h1 h2 h3 h4
  go_enter Tryd.func5, Tryd.ntmps5
  go_wp2_with fail
  with_reducible refine (awake_calls _ (HT.out.step (below_alloc (Below.refl _ _) _))).mono ?_
  rintro e w1 ⟨rfl, hb⟩
  have GB := Aside0.mk (below_step (below_alloc (Below.refl _ _) _) hb)
  clear hb
  go_wp2_with fail
  go_ret
  exact ⟨rfl, GB.out⟩
theorem reportCycles_calls (no due ph am us tr nx : Int) (gd near : Bool) (w : World) (w0 : (Lit.int .i64 no).wf = true) (w1 : (Lit.int .i64 due).wf = true) (w2 : (Lit.int .u8 ph).wf = true) (w3 : (Lit.int .i64 am).wf = true) (w4 : (Lit.int .i64 us).wf = true) (w5 : (Lit.int .i64 tr).wf = true) (w6 : (Lit.int .i64 nx).wf = true) (ht : TB w) :
    Calls Tryd.prog 5 #[.agg #[.int .i64 no, .int .i64 due, .int .u8 ph, .int .i64 am, .int .i64 us, .int .i64 tr, .int .i64 nx, .bool gd], .bool near] w fun e w' => e = .returned (.bool true) ∧ Below w.heap.size w w' := by
  have bd := bounds_i64 w1
  have bn := bounds_i64 w6
  have b2 := bounds_u8 w2
  by_cases h1 : am < -4611686018427387904
  · cases near
    · exact cycles_out_false0 no due ph am us tr nx gd w ht b2 bd bn h1
    · exact cycles_out_true0 no due ph am us tr nx gd w ht b2 bd bn h1
  by_cases h2 : 4611686018427387904 < am
  · cases near
    · exact cycles_out_false1 no due ph am us tr nx gd w ht b2 bd bn h1 h2
    · exact cycles_out_true1 no due ph am us tr nx gd w ht b2 bd bn h1 h2
  by_cases h3 : no < -4611686018427387904
  · cases near
    · exact cycles_out_false2 no due ph am us tr nx gd w ht b2 bd bn h1 h2 h3
    · exact cycles_out_true2 no due ph am us tr nx gd w ht b2 bd bn h1 h2 h3
  by_cases h4 : 4611686018427387904 < no
  · cases near
    · exact cycles_out_false3 no due ph am us tr nx gd w ht b2 bd bn h1 h2 h3 h4
    · exact cycles_out_true3 no due ph am us tr nx gd w ht b2 bd bn h1 h2 h3 h4
  obtain ⟨t1, q1, A1, L1⟩ := num_both no (by omega) (by omega)
  obtain ⟨t4, q4, A4, L4⟩ := mny_both am (by omega) (by omega)
  cases near
  · obtain ⟨t2, q2, A2, L2⟩ := day_both due
    obtain ⟨t5, q5, A5, L5⟩ := day_both nx
    obtain ⟨t3, q3, A3⟩ := name_both ph b2.1 b2.2
    exact cycles_false no am us tr due ph nx gd t1 t2 t3 t4 t5 w ht ⟨b2⟩ (decide_eq_false h1) (decide_eq_false h2) (decide_eq_false h3) (decide_eq_false h4) q1 q2 q3 q4 q5 ⟨A1, L1⟩ ⟨A2, L2⟩ ⟨A3⟩ ⟨A4, L4⟩ ⟨A5, L5⟩
  · obtain ⟨t2, q2, A2, L2⟩ := day_both (wrap64 ((IntKind.u64.wrap due).tmod 3652059))
    obtain ⟨t5, q5, A5, L5⟩ := day_both (wrap64 ((IntKind.u64.wrap nx).tmod 3652059))
    obtain ⟨t3, q3, A3⟩ := name_both (ph % 12) (by omega) (by omega)
    exact cycles_true no am us tr _ _ _ due ph nx gd t1 t2 t3 t4 t5 w ht rfl rfl rfl b2 bd bn ⟨by omega⟩ (decide_eq_false h1) (decide_eq_false h2) (decide_eq_false h3) (decide_eq_false h4) q1 q2 q3 q4 q5 ⟨A1, L1⟩ ⟨A2, L2⟩ ⟨A3⟩ ⟨A4, L4⟩ ⟨A5, L5⟩
end Go.Proofs.YtnpcodfeggcdbaaDoor.Pure
