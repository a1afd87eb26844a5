/- The walk of SeasonRises: periods follow one another, and a month that was cut short doesn't cut the next ones. -/
import Derived.Test.YthninollljphoaaSeasonNthWalk
import Derived.OpenShut
set_option linter.unusedVariables false
set_option linter.unusedSimpArgs false
namespace Go.Proofs.Ythninollljphoaa.Pure
open Go.RowKit Go.Proofs.Ythninollljphoaa.PSpan Go.Proofs.Ythninollljphoaa.PNumber Go.Proofs.YthninollljphoaaW.PrintWords Go.Proofs.YthninollljphoaaW.PrintLast
open Go.Proofs.Ythninollljphoaa
attribute [local go_sem] setCell_map
theorem rmonth_eqd (y m d : Int) (w : World) (h : Cal.mon y m = d) : Calls Try.prog 15 #[.int .i64 y, .int .i64 m] w fun e w' => e = .returned (.int .i64 d) ∧ Below w.heap.size w w' := by
  rw [← h]; exact rmonth_calls y m w
set_option maxHeartbeats 4000000 in
theorem rises_none (a0 u0 e0 n0 : Int) (w : World) (b0 : 0 ≤ a0 ∧ a0 ≤ 4294967295) (b1 : 0 ≤ u0 ∧ u0 ≤ 255) (b2 : 0 ≤ e0 ∧ e0 ≤ 255) (b3 : 0 ≤ n0 ∧ n0 ≤ 255) (y m d : Int) (hv : Cal.valid y m d) (hn : Cal.num y m d = a0 % 3000000) (h1 : Sea.out (Sea.nth (a0 % 3000000) y m d (u0 % 4) (1 + e0 % 12) n0) = (0, 6)) (h2 : Sea.out (Sea.nth (a0 % 3000000) y m d (u0 % 4) (1 + e0 % 12) (n0 + 1)) = (0, 6)) :
    Calls Try.prog 5 #[.int .u32 a0, .int .u8 u0, .int .u8 e0, .int .u8 n0] w fun e w' => e = .returned (.bool true) ∧ Below w.heap.size w w' := by
  have HV := Aside0.mk hv
  have HN := Aside0.mk hn
  have H1 := Aside0.mk h1
  have H2 := Aside0.mk h2
  clear hv hn h1 h2
  go_enter Try.func5, Try.ntmps5
  go_wp2_with fail
  with_reducible refine (snth_calls _ y m d _ _ _ _ HV.out HN.out (by omega) (by omega) (by omega) _ _ H1.out).mono ?_
  rintro e w1 ⟨rfl, hb⟩
  have GB := Aside0.mk hb
  clear hb
  go_wp2_with fail
  with_reducible refine (snth_calls _ y m d _ _ _ _ HV.out HN.out (by omega) (by omega) (by omega) _ _ H2.out).mono ?_
  rintro e w2 ⟨rfl, hb⟩
  have GB := Aside0.mk (below_step GB.out hb)
  clear hb
  go_wp2_with fail
  with_reducible refine (awake_calls _).mono ?_
  rintro e w3 ⟨rfl, hb⟩
  have GB := Aside0.mk (below_step GB.out hb)
  clear hb
  go_wp2_with fail
  go_ret
  exact ⟨by first | rfl | (simp; done), GB.out⟩
set_option maxHeartbeats 4000000 in
theorem rises_last (a0 u0 e0 n0 : Int) (w : World) (b0 : 0 ≤ a0 ∧ a0 ≤ 4294967295) (b1 : 0 ≤ u0 ∧ u0 ≤ 255) (b2 : 0 ≤ e0 ∧ e0 ≤ 255) (b3 : 0 ≤ n0 ∧ n0 ≤ 255) (y m d x : Int) (hv : Cal.valid y m d) (hn : Cal.num y m d = a0 % 3000000) (h1 : Sea.out (Sea.nth (a0 % 3000000) y m d (u0 % 4) (1 + e0 % 12) n0) = (x, 0)) (h2 : Sea.out (Sea.nth (a0 % 3000000) y m d (u0 % 4) (1 + e0 % 12) (n0 + 1)) = (0, 6)) :
    Calls Try.prog 5 #[.int .u32 a0, .int .u8 u0, .int .u8 e0, .int .u8 n0] w fun e w' => e = .returned (.bool true) ∧ Below w.heap.size w w' := by
  have HV := Aside0.mk hv
  have HN := Aside0.mk hn
  have H1 := Aside0.mk h1
  have H2 := Aside0.mk h2
  clear hv hn h1 h2
  go_enter Try.func5, Try.ntmps5
  go_wp2_with fail
  with_reducible refine (snth_calls _ y m d _ _ _ _ HV.out HN.out (by omega) (by omega) (by omega) _ _ H1.out).mono ?_
  rintro e w1 ⟨rfl, hb⟩
  have GB := Aside0.mk hb
  clear hb
  go_wp2_with fail
  with_reducible refine (snth_calls _ y m d _ _ _ _ HV.out HN.out (by omega) (by omega) (by omega) _ _ H2.out).mono ?_
  rintro e w2 ⟨rfl, hb⟩
  have GB := Aside0.mk (below_step GB.out hb)
  clear hb
  go_wp2_with fail
  with_reducible refine (awake_calls _).mono ?_
  rintro e w3 ⟨rfl, hb⟩
  have GB := Aside0.mk (below_step GB.out hb)
  clear hb
  go_wp2_with fail
  go_ret
  exact ⟨by first | rfl | (simp; done), GB.out⟩
set_option maxHeartbeats 8000000 in
theorem rises_days_0 (a0 u0 e0 n0 : Int) (w : World) (b0 : 0 ≤ a0 ∧ a0 ≤ 4294967295) (b1 : 0 ≤ u0 ∧ u0 ≤ 255) (b2 : 0 ≤ e0 ∧ e0 ≤ 255) (b3 : 0 ≤ n0 ∧ n0 ≤ 255) (y m d y' m' d' x z : Int) (hv : Cal.valid y m d) (hn : Cal.num y m d = a0 % 3000000) (hv' : Cal.valid y' m' d') (hn' : Cal.num y' m' d' = x) (h1 : Sea.out (Sea.nth (a0 % 3000000) y m d (u0 % 4) (1 + e0 % 12) n0) = (x, 0)) (h2 : Sea.out (Sea.nth (a0 % 3000000) y m d (u0 % 4) (1 + e0 % 12) (n0 + 1)) = (z, 0)) (hxz : x < z) (hx0 : 0 ≤ x ∧ x ≤ 3652058) (hu : u0 % 4 < 2) (hz : n0 = 0) (hxa : x = a0 % 3000000) :
    Calls Try.prog 5 #[.int .u32 a0, .int .u8 u0, .int .u8 e0, .int .u8 n0] w fun e w' => e = .returned (.bool true) ∧ Below w.heap.size w w' := by
  have HV := Aside0.mk hv
  have HN := Aside0.mk hn
  have HV' := Aside0.mk hv'
  have HN' := Aside0.mk hn'
  have H1 := Aside0.mk h1
  have H2 := Aside0.mk h2
  have hd1 : decide (u0 % 4 < 2) = true := decide_eq_true hu
  have HXA : (x == a0 % 3000000) = true := beq_iff_eq.2 hxa
  have hz2 : ¬ 0 < n0 := by omega
  clear hv hn hv' hn' h1 h2 hxa hz
  go_enter Try.func5, Try.ntmps5
  go_wp2_with fail
  with_reducible refine (snth_calls _ y m d _ _ _ _ HV.out HN.out (by omega) (by omega) (by omega) _ _ H1.out).mono ?_
  rintro e w1 ⟨rfl, hb⟩
  have GB := Aside0.mk hb
  clear hb
  go_wp2_with fail
  with_reducible refine (snth_calls _ y m d _ _ _ _ HV.out HN.out (by omega) (by omega) (by omega) _ _ H2.out).mono ?_
  rintro e w2 ⟨rfl, hb⟩
  have GB := Aside0.mk (below_step GB.out hb)
  clear hb
  go_wp2_with fail
  with_reducible refine (rof_calls _ _ (by omega) (by omega) y m d HV.out HN.out).mono ?_
  rintro e w3 ⟨rfl, hb⟩
  have GB := Aside0.mk (below_step GB.out hb)
  clear hb
  go_wp2_with fail
  with_reducible refine (rof_calls _ _ hx0.1 hx0.2 y' m' d' HV'.out HN'.out).mono ?_
  rintro e w4 ⟨rfl, hb⟩
  have B3 := Aside0.mk (blk_below (blk_new w3 (.cells #[.int .i64 y, .int .i64 m, .int .i64 d] 34)) hb)
  have GB := Aside0.mk (below_step (below_alloc GB.out _) hb)
  have hlt := Aside0.mk (blk_lt B3.out)
  clear hb
  go_wp2_with fail
  have q0 : (w4.alloc (.cells #[.int .i64 y', .int .i64 m', .int .i64 d'] 34)).drew.cell? ⟨w3.heap.size, 0, none⟩ = some (.int .i64 y) := (World.cell?_alloc_lt _ _ _ hlt.out).trans ((blk_cell B3.out 0).trans rfl)
  have q1 : (w4.alloc (.cells #[.int .i64 y', .int .i64 m', .int .i64 d'] 34)).drew.cell? ⟨w3.heap.size, 1, none⟩ = some (.int .i64 m) := (World.cell?_alloc_lt _ _ _ hlt.out).trans ((blk_cell B3.out 1).trans rfl)
  have q2 : (w4.alloc (.cells #[.int .i64 y', .int .i64 m', .int .i64 d'] 34)).drew.cell? ⟨w3.heap.size, 2, none⟩ = some (.int .i64 d) := (World.cell?_alloc_lt _ _ _ hlt.out).trans ((blk_cell B3.out 2).trans rfl)
  have r0 : (w4.alloc (.cells #[.int .i64 y', .int .i64 m', .int .i64 d'] 34)).drew.cell? ⟨w4.heap.size, 0, none⟩ = some (.int .i64 y') := (blk_cell (blk_drew (blk_new w4 _)) 0).trans rfl
  have r1 : (w4.alloc (.cells #[.int .i64 y', .int .i64 m', .int .i64 d'] 34)).drew.cell? ⟨w4.heap.size, 1, none⟩ = some (.int .i64 m') := (blk_cell (blk_drew (blk_new w4 _)) 1).trans rfl
  have r2 : (w4.alloc (.cells #[.int .i64 y', .int .i64 m', .int .i64 d'] 34)).drew.cell? ⟨w4.heap.size, 2, none⟩ = some (.int .i64 d') := (blk_cell (blk_drew (blk_new w4 _)) 2).trans rfl
  refine start_ (n := 27) (S := fun w' => w'.cell? ⟨w3.heap.size, 0, none⟩ = some (.int .i64 y) ∧ w'.cell? ⟨w3.heap.size, 1, none⟩ = some (.int .i64 m) ∧ w'.cell? ⟨w3.heap.size, 2, none⟩ = some (.int .i64 d) ∧ w'.cell? ⟨w4.heap.size, 0, none⟩ = some (.int .i64 y') ∧ w'.cell? ⟨w4.heap.size, 1, none⟩ = some (.int .i64 m') ∧ w'.cell? ⟨w4.heap.size, 2, none⟩ = some (.int .i64 d')) (ds := []) #[false, false, false, false, false, false, false, false, false, false, false, false, false, false, false, false, false, false, false, false, false, false, false, false, false, false, false] (by kernel_rfl) rfl rfl ⟨q0, q1, q2, r0, r1, r2⟩ (fun hHeld => ?_)
  refine pure_ (i := 0) (N := some 66) (v := ?_) (a' := ?_) #[true, false, false, false, false, false, false, false, false, false, false, false, false, false, false, false, false, false, false, false, false, false, false, false, false, false, false] rfl rfl (by kernel_rfl) (fun _ _ _ h => h) (Or.inl ⟨by rfl, ?_⟩) ?_ ?_
  rotate_left
  · intro w'
    go_simp
    with_reducible rfl
  rotate_left
  · simp only [Act.put, List.setIfInBounds_toArray, List.set_cons_zero, List.set_cons_succ, i64_w, i32_w]
    rfl
  refine pure_ (i := 1) (N := some 67) (v := ?_) (a' := ?_) #[true, true, false, false, false, false, false, false, false, false, false, false, false, false, false, false, false, false, false, false, false, false, false, false, false, false, false] rfl rfl (by kernel_rfl) (fun _ _ _ h => h) (Or.inl ⟨by rfl, ?_⟩) ?_ ?_
  rotate_left
  · intro w'
    go_simp
    with_reducible rfl
  rotate_left
  · simp only [Act.put, List.setIfInBounds_toArray, List.set_cons_zero, List.set_cons_succ, i64_w, i32_w]
    rfl
  refine pure_ (i := 2) (N := some 68) (v := ?_) (a' := ?_) #[true, true, true, false, false, false, false, false, false, false, false, false, false, false, false, false, false, false, false, false, false, false, false, false, false, false, false] rfl rfl (by kernel_rfl) (fun _ _ _ h => h) (Or.inl ⟨by rfl, ?_⟩) ?_ ?_
  rotate_left
  · intro w'
    go_simp
    with_reducible rfl
  rotate_left
  · simp only [Act.put, List.setIfInBounds_toArray, List.set_cons_zero, List.set_cons_succ, i64_w, i32_w]
    rfl
  refine pure_ (i := 3) (N := some 69) (v := undef) (a' := ?_) #[true, true, true, true, false, false, false, false, false, false, false, false, false, false, false, false, false, false, false, false, false, false, false, false, false, false, false] rfl rfl (by kernel_rfl) (fun _ _ _ h => h) (Or.inr ⟨by rfl, rfl⟩) ?_ ?_
  rotate_left
  · simp only [Act.put, List.setIfInBounds_toArray, List.set_cons_zero, List.set_cons_succ, i64_w, i32_w]
    rfl
  refine pure_ (i := 4) (N := some 70) (v := undef) (a' := ?_) #[true, true, true, true, true, false, false, false, false, false, false, false, false, false, false, false, false, false, false, false, false, false, false, false, false, false, false] rfl rfl (by kernel_rfl) (fun _ _ _ h => h) (Or.inr ⟨by rfl, rfl⟩) ?_ ?_
  rotate_left
  · simp only [Act.put, List.setIfInBounds_toArray, List.set_cons_zero, List.set_cons_succ, i64_w, i32_w]
    rfl
  refine pure_ (i := 5) (N := some 71) (v := undef) (a' := ?_) #[true, true, true, true, true, true, false, false, false, false, false, false, false, false, false, false, false, false, false, false, false, false, false, false, false, false, false] rfl rfl (by kernel_rfl) (fun _ _ _ h => h) (Or.inr ⟨by rfl, rfl⟩) ?_ ?_
  rotate_left
  · simp only [Act.put, List.setIfInBounds_toArray, List.set_cons_zero, List.set_cons_succ, i64_w, i32_w]
    rfl
  refine pure_ (i := 6) (N := some 72) (v := undef) (a' := ?_) #[true, true, true, true, true, true, true, false, false, false, false, false, false, false, false, false, false, false, false, false, false, false, false, false, false, false, false] rfl rfl (by kernel_rfl) (fun _ _ _ h => h) (Or.inr ⟨by rfl, rfl⟩) ?_ ?_
  rotate_left
  · simp only [Act.put, List.setIfInBounds_toArray, List.set_cons_zero, List.set_cons_succ, i64_w, i32_w]
    rfl
  refine pure_ (i := 7) (N := some 73) (v := undef) (a' := ?_) #[true, true, true, true, true, true, true, true, false, false, false, false, false, false, false, false, false, false, false, false, false, false, false, false, false, false, false] rfl rfl (by kernel_rfl) (fun _ _ _ h => h) (Or.inr ⟨by rfl, rfl⟩) ?_ ?_
  rotate_left
  · simp only [Act.put, List.setIfInBounds_toArray, List.set_cons_zero, List.set_cons_succ, i64_w, i32_w]
    rfl
  refine pure_ (i := 8) (N := some 74) (v := ?_) (a' := ?_) #[true, true, true, true, true, true, true, true, true, false, false, false, false, false, false, false, false, false, false, false, false, false, false, false, false, false, false] rfl rfl (by kernel_rfl) (fun _ _ _ h => h) (Or.inl ⟨by rfl, ?_⟩) ?_ ?_
  rotate_left
  · intro w'
    go_simp
    with_reducible rfl
  rotate_left
  · simp only [Act.put, List.setIfInBounds_toArray, List.set_cons_zero, List.set_cons_succ, i64_w, i32_w]
    rfl
  refine pure_ (i := 9) (N := some 75) (v := ?_) (a' := ?_) #[true, true, true, true, true, true, true, true, true, true, false, false, false, false, false, false, false, false, false, false, false, false, false, false, false, false, false] rfl rfl (by kernel_rfl) (fun _ _ _ h => h) (Or.inl ⟨by rfl, ?_⟩) ?_ ?_
  rotate_left
  · intro w'
    go_simp
    with_reducible rfl
  rotate_left
  · simp only [Act.put, List.setIfInBounds_toArray, List.set_cons_zero, List.set_cons_succ, i64_w, i32_w]
    rfl
  refine pure_ (i := 10) (N := some 76) (v := undef) (a' := ?_) #[true, true, true, true, true, true, true, true, true, true, true, false, false, false, false, false, false, false, false, false, false, false, false, false, false, false, false] rfl rfl (by kernel_rfl) (fun _ _ _ h => h) (Or.inr ⟨by rfl, rfl⟩) ?_ ?_
  rotate_left
  · simp only [Act.put, List.setIfInBounds_toArray, List.set_cons_zero, List.set_cons_succ, i64_w, i32_w]
    rfl
  refine pure_ (i := 11) (N := some 77) (v := undef) (a' := ?_) #[true, true, true, true, true, true, true, true, true, true, true, true, false, false, false, false, false, false, false, false, false, false, false, false, false, false, false] rfl rfl (by kernel_rfl) (fun _ _ _ h => h) (Or.inr ⟨by rfl, rfl⟩) ?_ ?_
  rotate_left
  · simp only [Act.put, List.setIfInBounds_toArray, List.set_cons_zero, List.set_cons_succ, i64_w, i32_w]
    rfl
  refine pure_ (i := 12) (N := some 78) (v := undef) (a' := ?_) #[true, true, true, true, true, true, true, true, true, true, true, true, true, false, false, false, false, false, false, false, false, false, false, false, false, false, false] rfl rfl (by kernel_rfl) (fun _ _ _ h => h) (Or.inr ⟨by rfl, rfl⟩) ?_ ?_
  rotate_left
  · simp only [Act.put, List.setIfInBounds_toArray, List.set_cons_zero, List.set_cons_succ, i64_w, i32_w]
    rfl
  refine pure_ (i := 13) (N := some 79) (v := undef) (a' := ?_) #[true, true, true, true, true, true, true, true, true, true, true, true, true, true, false, false, false, false, false, false, false, false, false, false, false, false, false] rfl rfl (by kernel_rfl) (fun _ _ _ h => h) (Or.inr ⟨by rfl, rfl⟩) ?_ ?_
  rotate_left
  · simp only [Act.put, List.setIfInBounds_toArray, List.set_cons_zero, List.set_cons_succ, i64_w, i32_w]
    rfl
  refine pure_ (i := 14) (N := some 80) (v := undef) (a' := ?_) #[true, true, true, true, true, true, true, true, true, true, true, true, true, true, true, false, false, false, false, false, false, false, false, false, false, false, false] rfl rfl (by kernel_rfl) (fun _ _ _ h => h) (Or.inr ⟨by rfl, rfl⟩) ?_ ?_
  rotate_left
  · simp only [Act.put, List.setIfInBounds_toArray, List.set_cons_zero, List.set_cons_succ, i64_w, i32_w]
    rfl
  refine pure_ (i := 15) (N := some 81) (v := undef) (a' := ?_) #[true, true, true, true, true, true, true, true, true, true, true, true, true, true, true, true, false, false, false, false, false, false, false, false, false, false, false] rfl rfl (by kernel_rfl) (fun _ _ _ h => h) (Or.inr ⟨by rfl, rfl⟩) ?_ ?_
  rotate_left
  · simp only [Act.put, List.setIfInBounds_toArray, List.set_cons_zero, List.set_cons_succ, i64_w, i32_w]
    rfl
  refine pure_ (i := 16) (N := some 82) (v := undef) (a' := ?_) #[true, true, true, true, true, true, true, true, true, true, true, true, true, true, true, true, true, false, false, false, false, false, false, false, false, false, false] rfl rfl (by kernel_rfl) (fun _ _ _ h => h) (Or.inr ⟨by rfl, rfl⟩) ?_ ?_
  rotate_left
  · simp only [Act.put, List.setIfInBounds_toArray, List.set_cons_zero, List.set_cons_succ, i64_w, i32_w]
    rfl
  refine pure_ (i := 17) (N := some 83) (v := undef) (a' := ?_) #[true, true, true, true, true, true, true, true, true, true, true, true, true, true, true, true, true, true, false, false, false, false, false, false, false, false, false] rfl rfl (by kernel_rfl) (fun _ _ _ h => h) (Or.inr ⟨by rfl, rfl⟩) ?_ ?_
  rotate_left
  · simp only [Act.put, List.setIfInBounds_toArray, List.set_cons_zero, List.set_cons_succ, i64_w, i32_w]
    rfl
  refine pure_ (i := 18) (N := some 84) (v := undef) (a' := ?_) #[true, true, true, true, true, true, true, true, true, true, true, true, true, true, true, true, true, true, true, false, false, false, false, false, false, false, false] rfl rfl (by kernel_rfl) (fun _ _ _ h => h) (Or.inr ⟨by rfl, rfl⟩) ?_ ?_
  rotate_left
  · simp only [Act.put, List.setIfInBounds_toArray, List.set_cons_zero, List.set_cons_succ, i64_w, i32_w]
    rfl
  refine pure_ (i := 19) (N := some 85) (v := undef) (a' := ?_) #[true, true, true, true, true, true, true, true, true, true, true, true, true, true, true, true, true, true, true, true, false, false, false, false, false, false, false] rfl rfl (by kernel_rfl) (fun _ _ _ h => h) (Or.inr ⟨by rfl, rfl⟩) ?_ ?_
  rotate_left
  · simp only [Act.put, List.setIfInBounds_toArray, List.set_cons_zero, List.set_cons_succ, i64_w, i32_w]
    rfl
  refine pure_ (i := 20) (N := some 86) (v := undef) (a' := ?_) #[true, true, true, true, true, true, true, true, true, true, true, true, true, true, true, true, true, true, true, true, true, false, false, false, false, false, false] rfl rfl (by kernel_rfl) (fun _ _ _ h => h) (Or.inr ⟨by rfl, rfl⟩) ?_ ?_
  rotate_left
  · simp only [Act.put, List.setIfInBounds_toArray, List.set_cons_zero, List.set_cons_succ, i64_w, i32_w]
    rfl
  refine pure_ (i := 21) (N := some 87) (v := undef) (a' := ?_) #[true, true, true, true, true, true, true, true, true, true, true, true, true, true, true, true, true, true, true, true, true, true, false, false, false, false, false] rfl rfl (by kernel_rfl) (fun _ _ _ h => h) (Or.inr ⟨by rfl, rfl⟩) ?_ ?_
  rotate_left
  · simp only [Act.put, List.setIfInBounds_toArray, List.set_cons_zero, List.set_cons_succ, i64_w, i32_w]
    rfl
  refine pure_ (i := 22) (N := some 88) (v := undef) (a' := ?_) #[true, true, true, true, true, true, true, true, true, true, true, true, true, true, true, true, true, true, true, true, true, true, true, false, false, false, false] rfl rfl (by kernel_rfl) (fun _ _ _ h => h) (Or.inr ⟨by rfl, rfl⟩) ?_ ?_
  rotate_left
  · simp only [Act.put, List.setIfInBounds_toArray, List.set_cons_zero, List.set_cons_succ, i64_w, i32_w]
    rfl
  refine pure_ (i := 23) (N := some 89) (v := undef) (a' := ?_) #[true, true, true, true, true, true, true, true, true, true, true, true, true, true, true, true, true, true, true, true, true, true, true, true, false, false, false] rfl rfl (by kernel_rfl) (fun _ _ _ h => h) (Or.inr ⟨by rfl, rfl⟩) ?_ ?_
  rotate_left
  · simp only [Act.put, List.setIfInBounds_toArray, List.set_cons_zero, List.set_cons_succ, i64_w, i32_w]
    rfl
  refine pure_ (i := 24) (N := some 90) (v := undef) (a' := ?_) #[true, true, true, true, true, true, true, true, true, true, true, true, true, true, true, true, true, true, true, true, true, true, true, true, true, false, false] rfl rfl (by kernel_rfl) (fun _ _ _ h => h) (Or.inr ⟨by rfl, rfl⟩) ?_ ?_
  rotate_left
  · simp only [Act.put, List.setIfInBounds_toArray, List.set_cons_zero, List.set_cons_succ, i64_w, i32_w]
    rfl
  refine pure_ (i := 25) (N := some 91) (v := ?_) (a' := ?_) #[true, true, true, true, true, true, true, true, true, true, true, true, true, true, true, true, true, true, true, true, true, true, true, true, true, true, false] rfl rfl (by kernel_rfl) (fun _ _ _ h => h) (Or.inl ⟨by rfl, ?_⟩) ?_ ?_
  rotate_left
  · intro w'
    go_simp
    with_reducible rfl
  rotate_left
  · simp only [Act.put, List.setIfInBounds_toArray, List.set_cons_zero, List.set_cons_succ, i64_w, i32_w]
    rfl
  refine pure_ (i := 26) (N := some 18) (v := ?_) (a' := ?_) #[true, true, true, true, true, true, true, true, true, true, true, true, true, true, true, true, true, true, true, true, true, true, true, true, true, true, true] rfl rfl (by kernel_rfl) (fun _ _ _ h => h) (Or.inl ⟨by rfl, ?_⟩) ?_ ?_
  rotate_left
  · intro w'
    go_simp
    with_reducible rfl
  rotate_left
  · simp only [Act.put, List.setIfInBounds_toArray, List.set_cons_zero, List.set_cons_succ, i64_w, i32_w]
    rfl
  refine done_ (by kernel_rfl) ?_
  have GB : Aside0 (Below w.heap.size w (w4.alloc (.cells #[.int .i64 y', .int .i64 m', .int .i64 d'] 34)).drew) := ⟨below_drew1 (below_alloc GB.out _)⟩
  go_wp2_with fail
  with_reducible refine (awake_calls _).mono ?_
  rintro e w6 ⟨rfl, hb⟩
  have GB := Aside0.mk (below_step GB.out hb)
  clear hb
  go_wp2_with fail
  go_ret
  exact ⟨by first | rfl | (simp; done), GB.out⟩
set_option maxHeartbeats 8000000 in
theorem rises_days (a0 u0 e0 n0 : Int) (w : World) (b0 : 0 ≤ a0 ∧ a0 ≤ 4294967295) (b1 : 0 ≤ u0 ∧ u0 ≤ 255) (b2 : 0 ≤ e0 ∧ e0 ≤ 255) (b3 : 0 ≤ n0 ∧ n0 ≤ 255) (y m d y' m' d' x z : Int) (hv : Cal.valid y m d) (hn : Cal.num y m d = a0 % 3000000) (hv' : Cal.valid y' m' d') (hn' : Cal.num y' m' d' = x) (h1 : Sea.out (Sea.nth (a0 % 3000000) y m d (u0 % 4) (1 + e0 % 12) n0) = (x, 0)) (h2 : Sea.out (Sea.nth (a0 % 3000000) y m d (u0 % 4) (1 + e0 % 12) (n0 + 1)) = (z, 0)) (hxz : x < z) (hx0 : 0 ≤ x ∧ x ≤ 3652058) (hu : u0 % 4 < 2) (hz : 1 ≤ n0) :
    Calls Try.prog 5 #[.int .u32 a0, .int .u8 u0, .int .u8 e0, .int .u8 n0] w fun e w' => e = .returned (.bool true) ∧ Below w.heap.size w w' := by
  have HV := Aside0.mk hv
  have HN := Aside0.mk hn
  have HV' := Aside0.mk hv'
  have HN' := Aside0.mk hn'
  have H1 := Aside0.mk h1
  have H2 := Aside0.mk h2
  have hd1 : decide (u0 % 4 < 2) = true := decide_eq_true hu
  clear hv hn hv' hn' h1 h2
  go_enter Try.func5, Try.ntmps5
  go_wp2_with fail
  with_reducible refine (snth_calls _ y m d _ _ _ _ HV.out HN.out (by omega) (by omega) (by omega) _ _ H1.out).mono ?_
  rintro e w1 ⟨rfl, hb⟩
  have GB := Aside0.mk hb
  clear hb
  go_wp2_with fail
  with_reducible refine (snth_calls _ y m d _ _ _ _ HV.out HN.out (by omega) (by omega) (by omega) _ _ H2.out).mono ?_
  rintro e w2 ⟨rfl, hb⟩
  have GB := Aside0.mk (below_step GB.out hb)
  clear hb
  go_wp2_with fail
  with_reducible refine (rof_calls _ _ (by omega) (by omega) y m d HV.out HN.out).mono ?_
  rintro e w3 ⟨rfl, hb⟩
  have GB := Aside0.mk (below_step GB.out hb)
  clear hb
  go_wp2_with fail
  with_reducible refine (rof_calls _ _ hx0.1 hx0.2 y' m' d' HV'.out HN'.out).mono ?_
  rintro e w4 ⟨rfl, hb⟩
  have B3 := Aside0.mk (blk_below (blk_new w3 (.cells #[.int .i64 y, .int .i64 m, .int .i64 d] 34)) hb)
  have GB := Aside0.mk (below_step (below_alloc GB.out _) hb)
  have hlt := Aside0.mk (blk_lt B3.out)
  clear hb
  go_wp2_with fail
  have q0 : (w4.alloc (.cells #[.int .i64 y', .int .i64 m', .int .i64 d'] 34)).drew.cell? ⟨w3.heap.size, 0, none⟩ = some (.int .i64 y) := (World.cell?_alloc_lt _ _ _ hlt.out).trans ((blk_cell B3.out 0).trans rfl)
  have q1 : (w4.alloc (.cells #[.int .i64 y', .int .i64 m', .int .i64 d'] 34)).drew.cell? ⟨w3.heap.size, 1, none⟩ = some (.int .i64 m) := (World.cell?_alloc_lt _ _ _ hlt.out).trans ((blk_cell B3.out 1).trans rfl)
  have q2 : (w4.alloc (.cells #[.int .i64 y', .int .i64 m', .int .i64 d'] 34)).drew.cell? ⟨w3.heap.size, 2, none⟩ = some (.int .i64 d) := (World.cell?_alloc_lt _ _ _ hlt.out).trans ((blk_cell B3.out 2).trans rfl)
  have r0 : (w4.alloc (.cells #[.int .i64 y', .int .i64 m', .int .i64 d'] 34)).drew.cell? ⟨w4.heap.size, 0, none⟩ = some (.int .i64 y') := (blk_cell (blk_drew (blk_new w4 _)) 0).trans rfl
  have r1 : (w4.alloc (.cells #[.int .i64 y', .int .i64 m', .int .i64 d'] 34)).drew.cell? ⟨w4.heap.size, 1, none⟩ = some (.int .i64 m') := (blk_cell (blk_drew (blk_new w4 _)) 1).trans rfl
  have r2 : (w4.alloc (.cells #[.int .i64 y', .int .i64 m', .int .i64 d'] 34)).drew.cell? ⟨w4.heap.size, 2, none⟩ = some (.int .i64 d') := (blk_cell (blk_drew (blk_new w4 _)) 2).trans rfl
  refine start_ (n := 27) (S := fun w' => w'.cell? ⟨w3.heap.size, 0, none⟩ = some (.int .i64 y) ∧ w'.cell? ⟨w3.heap.size, 1, none⟩ = some (.int .i64 m) ∧ w'.cell? ⟨w3.heap.size, 2, none⟩ = some (.int .i64 d) ∧ w'.cell? ⟨w4.heap.size, 0, none⟩ = some (.int .i64 y') ∧ w'.cell? ⟨w4.heap.size, 1, none⟩ = some (.int .i64 m') ∧ w'.cell? ⟨w4.heap.size, 2, none⟩ = some (.int .i64 d')) (ds := []) #[false, false, false, false, false, false, false, false, false, false, false, false, false, false, false, false, false, false, false, false, false, false, false, false, false, false, false] (by kernel_rfl) rfl rfl ⟨q0, q1, q2, r0, r1, r2⟩ (fun hHeld => ?_)
  refine pure_ (i := 0) (N := some 66) (v := ?_) (a' := ?_) #[true, false, false, false, false, false, false, false, false, false, false, false, false, false, false, false, false, false, false, false, false, false, false, false, false, false, false] rfl rfl (by kernel_rfl) (fun _ _ _ h => h) (Or.inl ⟨by rfl, ?_⟩) ?_ ?_
  rotate_left
  · intro w'
    go_simp
    with_reducible rfl
  rotate_left
  · simp only [Act.put, List.setIfInBounds_toArray, List.set_cons_zero, List.set_cons_succ, i64_w, i32_w]
    rfl
  refine pure_ (i := 1) (N := some 67) (v := ?_) (a' := ?_) #[true, true, false, false, false, false, false, false, false, false, false, false, false, false, false, false, false, false, false, false, false, false, false, false, false, false, false] rfl rfl (by kernel_rfl) (fun _ _ _ h => h) (Or.inl ⟨by rfl, ?_⟩) ?_ ?_
  rotate_left
  · intro w'
    go_simp
    with_reducible rfl
  rotate_left
  · simp only [Act.put, List.setIfInBounds_toArray, List.set_cons_zero, List.set_cons_succ, i64_w, i32_w]
    rfl
  refine pure_ (i := 2) (N := some 68) (v := ?_) (a' := ?_) #[true, true, true, false, false, false, false, false, false, false, false, false, false, false, false, false, false, false, false, false, false, false, false, false, false, false, false] rfl rfl (by kernel_rfl) (fun _ _ _ h => h) (Or.inl ⟨by rfl, ?_⟩) ?_ ?_
  rotate_left
  · intro w'
    go_simp
    with_reducible rfl
  rotate_left
  · simp only [Act.put, List.setIfInBounds_toArray, List.set_cons_zero, List.set_cons_succ, i64_w, i32_w]
    rfl
  refine pure_ (i := 3) (N := some 69) (v := undef) (a' := ?_) #[true, true, true, true, false, false, false, false, false, false, false, false, false, false, false, false, false, false, false, false, false, false, false, false, false, false, false] rfl rfl (by kernel_rfl) (fun _ _ _ h => h) (Or.inr ⟨by rfl, rfl⟩) ?_ ?_
  rotate_left
  · simp only [Act.put, List.setIfInBounds_toArray, List.set_cons_zero, List.set_cons_succ, i64_w, i32_w]
    rfl
  refine pure_ (i := 4) (N := some 70) (v := undef) (a' := ?_) #[true, true, true, true, true, false, false, false, false, false, false, false, false, false, false, false, false, false, false, false, false, false, false, false, false, false, false] rfl rfl (by kernel_rfl) (fun _ _ _ h => h) (Or.inr ⟨by rfl, rfl⟩) ?_ ?_
  rotate_left
  · simp only [Act.put, List.setIfInBounds_toArray, List.set_cons_zero, List.set_cons_succ, i64_w, i32_w]
    rfl
  refine pure_ (i := 5) (N := some 71) (v := undef) (a' := ?_) #[true, true, true, true, true, true, false, false, false, false, false, false, false, false, false, false, false, false, false, false, false, false, false, false, false, false, false] rfl rfl (by kernel_rfl) (fun _ _ _ h => h) (Or.inr ⟨by rfl, rfl⟩) ?_ ?_
  rotate_left
  · simp only [Act.put, List.setIfInBounds_toArray, List.set_cons_zero, List.set_cons_succ, i64_w, i32_w]
    rfl
  refine pure_ (i := 6) (N := some 72) (v := undef) (a' := ?_) #[true, true, true, true, true, true, true, false, false, false, false, false, false, false, false, false, false, false, false, false, false, false, false, false, false, false, false] rfl rfl (by kernel_rfl) (fun _ _ _ h => h) (Or.inr ⟨by rfl, rfl⟩) ?_ ?_
  rotate_left
  · simp only [Act.put, List.setIfInBounds_toArray, List.set_cons_zero, List.set_cons_succ, i64_w, i32_w]
    rfl
  refine pure_ (i := 7) (N := some 73) (v := undef) (a' := ?_) #[true, true, true, true, true, true, true, true, false, false, false, false, false, false, false, false, false, false, false, false, false, false, false, false, false, false, false] rfl rfl (by kernel_rfl) (fun _ _ _ h => h) (Or.inr ⟨by rfl, rfl⟩) ?_ ?_
  rotate_left
  · simp only [Act.put, List.setIfInBounds_toArray, List.set_cons_zero, List.set_cons_succ, i64_w, i32_w]
    rfl
  refine pure_ (i := 8) (N := some 74) (v := ?_) (a' := ?_) #[true, true, true, true, true, true, true, true, true, false, false, false, false, false, false, false, false, false, false, false, false, false, false, false, false, false, false] rfl rfl (by kernel_rfl) (fun _ _ _ h => h) (Or.inl ⟨by rfl, ?_⟩) ?_ ?_
  rotate_left
  · intro w'
    go_simp
    with_reducible rfl
  rotate_left
  · simp only [Act.put, List.setIfInBounds_toArray, List.set_cons_zero, List.set_cons_succ, i64_w, i32_w]
    rfl
  refine pure_ (i := 9) (N := some 75) (v := ?_) (a' := ?_) #[true, true, true, true, true, true, true, true, true, true, false, false, false, false, false, false, false, false, false, false, false, false, false, false, false, false, false] rfl rfl (by kernel_rfl) (fun _ _ _ h => h) (Or.inl ⟨by rfl, ?_⟩) ?_ ?_
  rotate_left
  · intro w'
    go_simp
    with_reducible rfl
  rotate_left
  · simp only [Act.put, List.setIfInBounds_toArray, List.set_cons_zero, List.set_cons_succ, i64_w, i32_w]
    rfl
  refine pure_ (i := 10) (N := some 76) (v := undef) (a' := ?_) #[true, true, true, true, true, true, true, true, true, true, true, false, false, false, false, false, false, false, false, false, false, false, false, false, false, false, false] rfl rfl (by kernel_rfl) (fun _ _ _ h => h) (Or.inr ⟨by rfl, rfl⟩) ?_ ?_
  rotate_left
  · simp only [Act.put, List.setIfInBounds_toArray, List.set_cons_zero, List.set_cons_succ, i64_w, i32_w]
    rfl
  refine pure_ (i := 11) (N := some 77) (v := undef) (a' := ?_) #[true, true, true, true, true, true, true, true, true, true, true, true, false, false, false, false, false, false, false, false, false, false, false, false, false, false, false] rfl rfl (by kernel_rfl) (fun _ _ _ h => h) (Or.inr ⟨by rfl, rfl⟩) ?_ ?_
  rotate_left
  · simp only [Act.put, List.setIfInBounds_toArray, List.set_cons_zero, List.set_cons_succ, i64_w, i32_w]
    rfl
  refine pure_ (i := 12) (N := some 78) (v := undef) (a' := ?_) #[true, true, true, true, true, true, true, true, true, true, true, true, true, false, false, false, false, false, false, false, false, false, false, false, false, false, false] rfl rfl (by kernel_rfl) (fun _ _ _ h => h) (Or.inr ⟨by rfl, rfl⟩) ?_ ?_
  rotate_left
  · simp only [Act.put, List.setIfInBounds_toArray, List.set_cons_zero, List.set_cons_succ, i64_w, i32_w]
    rfl
  refine pure_ (i := 13) (N := some 79) (v := undef) (a' := ?_) #[true, true, true, true, true, true, true, true, true, true, true, true, true, true, false, false, false, false, false, false, false, false, false, false, false, false, false] rfl rfl (by kernel_rfl) (fun _ _ _ h => h) (Or.inr ⟨by rfl, rfl⟩) ?_ ?_
  rotate_left
  · simp only [Act.put, List.setIfInBounds_toArray, List.set_cons_zero, List.set_cons_succ, i64_w, i32_w]
    rfl
  refine pure_ (i := 14) (N := some 80) (v := undef) (a' := ?_) #[true, true, true, true, true, true, true, true, true, true, true, true, true, true, true, false, false, false, false, false, false, false, false, false, false, false, false] rfl rfl (by kernel_rfl) (fun _ _ _ h => h) (Or.inr ⟨by rfl, rfl⟩) ?_ ?_
  rotate_left
  · simp only [Act.put, List.setIfInBounds_toArray, List.set_cons_zero, List.set_cons_succ, i64_w, i32_w]
    rfl
  refine pure_ (i := 15) (N := some 81) (v := undef) (a' := ?_) #[true, true, true, true, true, true, true, true, true, true, true, true, true, true, true, true, false, false, false, false, false, false, false, false, false, false, false] rfl rfl (by kernel_rfl) (fun _ _ _ h => h) (Or.inr ⟨by rfl, rfl⟩) ?_ ?_
  rotate_left
  · simp only [Act.put, List.setIfInBounds_toArray, List.set_cons_zero, List.set_cons_succ, i64_w, i32_w]
    rfl
  refine pure_ (i := 16) (N := some 82) (v := undef) (a' := ?_) #[true, true, true, true, true, true, true, true, true, true, true, true, true, true, true, true, true, false, false, false, false, false, false, false, false, false, false] rfl rfl (by kernel_rfl) (fun _ _ _ h => h) (Or.inr ⟨by rfl, rfl⟩) ?_ ?_
  rotate_left
  · simp only [Act.put, List.setIfInBounds_toArray, List.set_cons_zero, List.set_cons_succ, i64_w, i32_w]
    rfl
  refine pure_ (i := 17) (N := some 83) (v := undef) (a' := ?_) #[true, true, true, true, true, true, true, true, true, true, true, true, true, true, true, true, true, true, false, false, false, false, false, false, false, false, false] rfl rfl (by kernel_rfl) (fun _ _ _ h => h) (Or.inr ⟨by rfl, rfl⟩) ?_ ?_
  rotate_left
  · simp only [Act.put, List.setIfInBounds_toArray, List.set_cons_zero, List.set_cons_succ, i64_w, i32_w]
    rfl
  refine pure_ (i := 18) (N := some 84) (v := undef) (a' := ?_) #[true, true, true, true, true, true, true, true, true, true, true, true, true, true, true, true, true, true, true, false, false, false, false, false, false, false, false] rfl rfl (by kernel_rfl) (fun _ _ _ h => h) (Or.inr ⟨by rfl, rfl⟩) ?_ ?_
  rotate_left
  · simp only [Act.put, List.setIfInBounds_toArray, List.set_cons_zero, List.set_cons_succ, i64_w, i32_w]
    rfl
  refine pure_ (i := 19) (N := some 85) (v := undef) (a' := ?_) #[true, true, true, true, true, true, true, true, true, true, true, true, true, true, true, true, true, true, true, true, false, false, false, false, false, false, false] rfl rfl (by kernel_rfl) (fun _ _ _ h => h) (Or.inr ⟨by rfl, rfl⟩) ?_ ?_
  rotate_left
  · simp only [Act.put, List.setIfInBounds_toArray, List.set_cons_zero, List.set_cons_succ, i64_w, i32_w]
    rfl
  refine pure_ (i := 20) (N := some 86) (v := undef) (a' := ?_) #[true, true, true, true, true, true, true, true, true, true, true, true, true, true, true, true, true, true, true, true, true, false, false, false, false, false, false] rfl rfl (by kernel_rfl) (fun _ _ _ h => h) (Or.inr ⟨by rfl, rfl⟩) ?_ ?_
  rotate_left
  · simp only [Act.put, List.setIfInBounds_toArray, List.set_cons_zero, List.set_cons_succ, i64_w, i32_w]
    rfl
  refine pure_ (i := 21) (N := some 87) (v := undef) (a' := ?_) #[true, true, true, true, true, true, true, true, true, true, true, true, true, true, true, true, true, true, true, true, true, true, false, false, false, false, false] rfl rfl (by kernel_rfl) (fun _ _ _ h => h) (Or.inr ⟨by rfl, rfl⟩) ?_ ?_
  rotate_left
  · simp only [Act.put, List.setIfInBounds_toArray, List.set_cons_zero, List.set_cons_succ, i64_w, i32_w]
    rfl
  refine pure_ (i := 22) (N := some 88) (v := undef) (a' := ?_) #[true, true, true, true, true, true, true, true, true, true, true, true, true, true, true, true, true, true, true, true, true, true, true, false, false, false, false] rfl rfl (by kernel_rfl) (fun _ _ _ h => h) (Or.inr ⟨by rfl, rfl⟩) ?_ ?_
  rotate_left
  · simp only [Act.put, List.setIfInBounds_toArray, List.set_cons_zero, List.set_cons_succ, i64_w, i32_w]
    rfl
  refine pure_ (i := 23) (N := some 89) (v := undef) (a' := ?_) #[true, true, true, true, true, true, true, true, true, true, true, true, true, true, true, true, true, true, true, true, true, true, true, true, false, false, false] rfl rfl (by kernel_rfl) (fun _ _ _ h => h) (Or.inr ⟨by rfl, rfl⟩) ?_ ?_
  rotate_left
  · simp only [Act.put, List.setIfInBounds_toArray, List.set_cons_zero, List.set_cons_succ, i64_w, i32_w]
    rfl
  refine pure_ (i := 24) (N := some 90) (v := undef) (a' := ?_) #[true, true, true, true, true, true, true, true, true, true, true, true, true, true, true, true, true, true, true, true, true, true, true, true, true, false, false] rfl rfl (by kernel_rfl) (fun _ _ _ h => h) (Or.inr ⟨by rfl, rfl⟩) ?_ ?_
  rotate_left
  · simp only [Act.put, List.setIfInBounds_toArray, List.set_cons_zero, List.set_cons_succ, i64_w, i32_w]
    rfl
  refine pure_ (i := 25) (N := some 91) (v := ?_) (a' := ?_) #[true, true, true, true, true, true, true, true, true, true, true, true, true, true, true, true, true, true, true, true, true, true, true, true, true, true, false] rfl rfl (by kernel_rfl) (fun _ _ _ h => h) (Or.inl ⟨by rfl, ?_⟩) ?_ ?_
  rotate_left
  · intro w'
    go_simp
    with_reducible rfl
  rotate_left
  · simp only [Act.put, List.setIfInBounds_toArray, List.set_cons_zero, List.set_cons_succ, i64_w, i32_w]
    rfl
  refine pure_ (i := 26) (N := some 18) (v := ?_) (a' := ?_) #[true, true, true, true, true, true, true, true, true, true, true, true, true, true, true, true, true, true, true, true, true, true, true, true, true, true, true] rfl rfl (by kernel_rfl) (fun _ _ _ h => h) (Or.inl ⟨by rfl, ?_⟩) ?_ ?_
  rotate_left
  · intro w'
    go_simp
    with_reducible rfl
  rotate_left
  · simp only [Act.put, List.setIfInBounds_toArray, List.set_cons_zero, List.set_cons_succ, i64_w, i32_w]
    rfl
  refine done_ (by kernel_rfl) ?_
  have GB : Aside0 (Below w.heap.size w (w4.alloc (.cells #[.int .i64 y', .int .i64 m', .int .i64 d'] 34)).drew) := ⟨below_drew1 (below_alloc GB.out _)⟩
  go_wp2_with fail
  with_reducible refine (awake_calls _).mono ?_
  rintro e w6 ⟨rfl, hb⟩
  have GB := Aside0.mk (below_step GB.out hb)
  clear hb
  go_wp2_with fail
  go_ret
  exact ⟨by first | rfl | (simp; done), GB.out⟩
set_option maxHeartbeats 8000000 in
theorem rises_same_0 (a0 u0 e0 n0 : Int) (w : World) (b0 : 0 ≤ a0 ∧ a0 ≤ 4294967295) (b1 : 0 ≤ u0 ∧ u0 ≤ 255) (b2 : 0 ≤ e0 ∧ e0 ≤ 255) (b3 : 0 ≤ n0 ∧ n0 ≤ 255) (y m d y' m' d' x z : Int) (hv : Cal.valid y m d) (hn : Cal.num y m d = a0 % 3000000) (hv' : Cal.valid y' m' d') (hn' : Cal.num y' m' d' = x) (h1 : Sea.out (Sea.nth (a0 % 3000000) y m d (u0 % 4) (1 + e0 % 12) n0) = (x, 0)) (h2 : Sea.out (Sea.nth (a0 % 3000000) y m d (u0 % 4) (1 + e0 % 12) (n0 + 1)) = (z, 0)) (hxz : x < z) (hx0 : 0 ≤ x ∧ x ≤ 3652058) (hu : 2 ≤ u0 % 4) (hdd : d' = d) (hz : n0 = 0) (hxa : x = a0 % 3000000) :
    Calls Try.prog 5 #[.int .u32 a0, .int .u8 u0, .int .u8 e0, .int .u8 n0] w fun e w' => e = .returned (.bool true) ∧ Below w.heap.size w w' := by
  subst hdd
  have HV := Aside0.mk hv
  have HN := Aside0.mk hn
  have HV' := Aside0.mk hv'
  have HN' := Aside0.mk hn'
  have H1 := Aside0.mk h1
  have H2 := Aside0.mk h2
  have hd1 : decide (u0 % 4 < 2) = false := decide_eq_false (by omega)
  have HXA : (x == a0 % 3000000) = true := beq_iff_eq.2 hxa
  have hz2 : ¬ 0 < n0 := by omega
  clear hv hn hv' hn' h1 h2 hxa hz
  go_enter Try.func5, Try.ntmps5
  go_wp2_with fail
  with_reducible refine (snth_calls _ y m d' _ _ _ _ HV.out HN.out (by omega) (by omega) (by omega) _ _ H1.out).mono ?_
  rintro e w1 ⟨rfl, hb⟩
  have GB := Aside0.mk hb
  clear hb
  go_wp2_with fail
  with_reducible refine (snth_calls _ y m d' _ _ _ _ HV.out HN.out (by omega) (by omega) (by omega) _ _ H2.out).mono ?_
  rintro e w2 ⟨rfl, hb⟩
  have GB := Aside0.mk (below_step GB.out hb)
  clear hb
  go_wp2_with fail
  with_reducible refine (rof_calls _ _ (by omega) (by omega) y m d' HV.out HN.out).mono ?_
  rintro e w3 ⟨rfl, hb⟩
  have GB := Aside0.mk (below_step GB.out hb)
  clear hb
  go_wp2_with fail
  with_reducible refine (rof_calls _ _ hx0.1 hx0.2 y' m' d' HV'.out HN'.out).mono ?_
  rintro e w4 ⟨rfl, hb⟩
  have B3 := Aside0.mk (blk_below (blk_new w3 (.cells #[.int .i64 y, .int .i64 m, .int .i64 d'] 34)) hb)
  have GB := Aside0.mk (below_step (below_alloc GB.out _) hb)
  have hlt := Aside0.mk (blk_lt B3.out)
  clear hb
  go_wp2_with fail
  have q0 : (w4.alloc (.cells #[.int .i64 y', .int .i64 m', .int .i64 d'] 34)).drew.cell? ⟨w3.heap.size, 0, none⟩ = some (.int .i64 y) := (World.cell?_alloc_lt _ _ _ hlt.out).trans ((blk_cell B3.out 0).trans rfl)
  have q1 : (w4.alloc (.cells #[.int .i64 y', .int .i64 m', .int .i64 d'] 34)).drew.cell? ⟨w3.heap.size, 1, none⟩ = some (.int .i64 m) := (World.cell?_alloc_lt _ _ _ hlt.out).trans ((blk_cell B3.out 1).trans rfl)
  have q2 : (w4.alloc (.cells #[.int .i64 y', .int .i64 m', .int .i64 d'] 34)).drew.cell? ⟨w3.heap.size, 2, none⟩ = some (.int .i64 d') := (World.cell?_alloc_lt _ _ _ hlt.out).trans ((blk_cell B3.out 2).trans rfl)
  have r0 : (w4.alloc (.cells #[.int .i64 y', .int .i64 m', .int .i64 d'] 34)).drew.cell? ⟨w4.heap.size, 0, none⟩ = some (.int .i64 y') := (blk_cell (blk_drew (blk_new w4 _)) 0).trans rfl
  have r1 : (w4.alloc (.cells #[.int .i64 y', .int .i64 m', .int .i64 d'] 34)).drew.cell? ⟨w4.heap.size, 1, none⟩ = some (.int .i64 m') := (blk_cell (blk_drew (blk_new w4 _)) 1).trans rfl
  have r2 : (w4.alloc (.cells #[.int .i64 y', .int .i64 m', .int .i64 d'] 34)).drew.cell? ⟨w4.heap.size, 2, none⟩ = some (.int .i64 d') := (blk_cell (blk_drew (blk_new w4 _)) 2).trans rfl
  refine start_ (n := 27) (S := fun w' => w'.cell? ⟨w3.heap.size, 0, none⟩ = some (.int .i64 y) ∧ w'.cell? ⟨w3.heap.size, 1, none⟩ = some (.int .i64 m) ∧ w'.cell? ⟨w3.heap.size, 2, none⟩ = some (.int .i64 d') ∧ w'.cell? ⟨w4.heap.size, 0, none⟩ = some (.int .i64 y') ∧ w'.cell? ⟨w4.heap.size, 1, none⟩ = some (.int .i64 m') ∧ w'.cell? ⟨w4.heap.size, 2, none⟩ = some (.int .i64 d')) (ds := []) #[false, false, false, false, false, false, false, false, false, false, false, false, false, false, false, false, false, false, false, false, false, false, false, false, false, false, false] (by kernel_rfl) rfl rfl ⟨q0, q1, q2, r0, r1, r2⟩ (fun hHeld => ?_)
  refine pure_ (i := 0) (N := some 66) (v := ?_) (a' := ?_) #[true, false, false, false, false, false, false, false, false, false, false, false, false, false, false, false, false, false, false, false, false, false, false, false, false, false, false] rfl rfl (by kernel_rfl) (fun _ _ _ h => h) (Or.inl ⟨by rfl, ?_⟩) ?_ ?_
  rotate_left
  · intro w'
    go_simp
    with_reducible rfl
  rotate_left
  · simp only [Act.put, List.setIfInBounds_toArray, List.set_cons_zero, List.set_cons_succ, i64_w, i32_w]
    rfl
  refine pure_ (i := 1) (N := some 67) (v := ?_) (a' := ?_) #[true, true, false, false, false, false, false, false, false, false, false, false, false, false, false, false, false, false, false, false, false, false, false, false, false, false, false] rfl rfl (by kernel_rfl) (fun _ _ _ h => h) (Or.inl ⟨by rfl, ?_⟩) ?_ ?_
  rotate_left
  · intro w'
    go_simp
    with_reducible rfl
  rotate_left
  · simp only [Act.put, List.setIfInBounds_toArray, List.set_cons_zero, List.set_cons_succ, i64_w, i32_w]
    rfl
  refine pure_ (i := 2) (N := some 68) (v := ?_) (a' := ?_) #[true, true, true, false, false, false, false, false, false, false, false, false, false, false, false, false, false, false, false, false, false, false, false, false, false, false, false] rfl rfl (by kernel_rfl) (fun _ _ _ h => h) (Or.inl ⟨by rfl, ?_⟩) ?_ ?_
  rotate_left
  · intro w'
    go_simp
    with_reducible rfl
  rotate_left
  · simp only [Act.put, List.setIfInBounds_toArray, List.set_cons_zero, List.set_cons_succ, i64_w, i32_w]
    rfl
  refine pure_ (i := 3) (N := some 69) (v := ?_) (a' := ?_) #[true, true, true, true, false, false, false, false, false, false, false, false, false, false, false, false, false, false, false, false, false, false, false, false, false, false, false] rfl rfl (by kernel_rfl) (fun _ _ _ h => h) (Or.inl ⟨by rfl, ?_⟩) ?_ ?_
  rotate_left
  · intro w'
    go_simp
    with_reducible rfl
  rotate_left
  · simp only [Act.put, List.setIfInBounds_toArray, List.set_cons_zero, List.set_cons_succ, i64_w, i32_w]
    rfl
  refine pure_ (i := 5) (N := some 71) (v := ?_) (a' := ?_) #[true, true, true, true, false, true, false, false, false, false, false, false, false, false, false, false, false, false, false, false, false, false, false, false, false, false, false] rfl rfl (by kernel_rfl) (fun _ _ _ h => h) (Or.inl ⟨by rfl, ?_⟩) ?_ ?_
  rotate_left
  · intro w'
    go_simp
    with_reducible rfl
  rotate_left
  · simp only [Act.put, List.setIfInBounds_toArray, List.set_cons_zero, List.set_cons_succ, i64_w, i32_w]
    rfl
  refine take_ (i := 4) (N := some 70) (v := ?_) (a' := ?_) #[true, true, true, true, true, true, false, false, false, false, false, false, false, false, false, false, false, false, false, false, false, false, false, false, false, false, false] rfl rfl (by kernel_rfl) (fun _ _ _ h => h) (Or.inl ⟨by rfl, ?_⟩) hHeld ?_ ?_
  rotate_left
  · rintro w' ⟨s0, s1, s2, s3, s4, s5⟩
    go_simp
    with_reducible rfl
  rotate_left
  · simp only [Act.put, List.setIfInBounds_toArray, List.set_cons_zero, List.set_cons_succ, i64_w, i32_w]
    rfl
  refine take_ (i := 6) (N := some 72) (v := ?_) (a' := ?_) #[true, true, true, true, true, true, true, false, false, false, false, false, false, false, false, false, false, false, false, false, false, false, false, false, false, false, false] rfl rfl (by kernel_rfl) (fun _ _ _ h => h) (Or.inl ⟨by rfl, ?_⟩) hHeld ?_ ?_
  rotate_left
  · rintro w' ⟨s0, s1, s2, s3, s4, s5⟩
    go_simp
    with_reducible rfl
  rotate_left
  · simp only [Act.put, List.setIfInBounds_toArray, List.set_cons_zero, List.set_cons_succ, i64_w, i32_w]
    rfl
  refine pure_ (i := 7) (N := some 73) (v := ?_) (a' := ?_) #[true, true, true, true, true, true, true, true, false, false, false, false, false, false, false, false, false, false, false, false, false, false, false, false, false, false, false] rfl rfl (by kernel_rfl) (fun _ _ _ h => h) (Or.inl ⟨by rfl, ?_⟩) ?_ ?_
  rotate_left
  · intro w'
    go_simp
    with_reducible rfl
  rotate_left
  · simp only [Act.put, List.setIfInBounds_toArray, List.set_cons_zero, List.set_cons_succ, i64_w, i32_w]
    rfl
  refine pure_ (i := 8) (N := some 74) (v := ?_) (a' := ?_) #[true, true, true, true, true, true, true, true, true, false, false, false, false, false, false, false, false, false, false, false, false, false, false, false, false, false, false] rfl rfl (by kernel_rfl) (fun _ _ _ h => h) (Or.inl ⟨by rfl, ?_⟩) ?_ ?_
  rotate_left
  · intro w'
    go_simp
    with_reducible rfl
  rotate_left
  · simp only [Act.put, List.setIfInBounds_toArray, List.set_cons_zero, List.set_cons_succ, i64_w, i32_w]
    rfl
  refine pure_ (i := 9) (N := some 75) (v := ?_) (a' := ?_) #[true, true, true, true, true, true, true, true, true, true, false, false, false, false, false, false, false, false, false, false, false, false, false, false, false, false, false] rfl rfl (by kernel_rfl) (fun _ _ _ h => h) (Or.inl ⟨by rfl, ?_⟩) ?_ ?_
  rotate_left
  · intro w'
    go_simp
    with_reducible rfl
  rotate_left
  · simp only [Act.put, List.setIfInBounds_toArray, List.set_cons_zero, List.set_cons_succ, i64_w, i32_w]
    rfl
  refine pure_ (i := 10) (N := some 76) (v := undef) (a' := ?_) #[true, true, true, true, true, true, true, true, true, true, true, false, false, false, false, false, false, false, false, false, false, false, false, false, false, false, false] rfl rfl (by kernel_rfl) (fun _ _ _ h => h) (Or.inr ⟨by rfl, rfl⟩) ?_ ?_
  rotate_left
  · simp only [Act.put, List.setIfInBounds_toArray, List.set_cons_zero, List.set_cons_succ, i64_w, i32_w]
    rfl
  refine pure_ (i := 11) (N := some 77) (v := undef) (a' := ?_) #[true, true, true, true, true, true, true, true, true, true, true, true, false, false, false, false, false, false, false, false, false, false, false, false, false, false, false] rfl rfl (by kernel_rfl) (fun _ _ _ h => h) (Or.inr ⟨by rfl, rfl⟩) ?_ ?_
  rotate_left
  · simp only [Act.put, List.setIfInBounds_toArray, List.set_cons_zero, List.set_cons_succ, i64_w, i32_w]
    rfl
  refine pure_ (i := 12) (N := some 78) (v := undef) (a' := ?_) #[true, true, true, true, true, true, true, true, true, true, true, true, true, false, false, false, false, false, false, false, false, false, false, false, false, false, false] rfl rfl (by kernel_rfl) (fun _ _ _ h => h) (Or.inr ⟨by rfl, rfl⟩) ?_ ?_
  rotate_left
  · simp only [Act.put, List.setIfInBounds_toArray, List.set_cons_zero, List.set_cons_succ, i64_w, i32_w]
    rfl
  refine pure_ (i := 13) (N := some 79) (v := undef) (a' := ?_) #[true, true, true, true, true, true, true, true, true, true, true, true, true, true, false, false, false, false, false, false, false, false, false, false, false, false, false] rfl rfl (by kernel_rfl) (fun _ _ _ h => h) (Or.inr ⟨by rfl, rfl⟩) ?_ ?_
  rotate_left
  · simp only [Act.put, List.setIfInBounds_toArray, List.set_cons_zero, List.set_cons_succ, i64_w, i32_w]
    rfl
  refine pure_ (i := 14) (N := some 80) (v := undef) (a' := ?_) #[true, true, true, true, true, true, true, true, true, true, true, true, true, true, true, false, false, false, false, false, false, false, false, false, false, false, false] rfl rfl (by kernel_rfl) (fun _ _ _ h => h) (Or.inr ⟨by rfl, rfl⟩) ?_ ?_
  rotate_left
  · simp only [Act.put, List.setIfInBounds_toArray, List.set_cons_zero, List.set_cons_succ, i64_w, i32_w]
    rfl
  refine pure_ (i := 15) (N := some 81) (v := undef) (a' := ?_) #[true, true, true, true, true, true, true, true, true, true, true, true, true, true, true, true, false, false, false, false, false, false, false, false, false, false, false] rfl rfl (by kernel_rfl) (fun _ _ _ h => h) (Or.inr ⟨by rfl, rfl⟩) ?_ ?_
  rotate_left
  · simp only [Act.put, List.setIfInBounds_toArray, List.set_cons_zero, List.set_cons_succ, i64_w, i32_w]
    rfl
  refine pure_ (i := 16) (N := some 82) (v := undef) (a' := ?_) #[true, true, true, true, true, true, true, true, true, true, true, true, true, true, true, true, true, false, false, false, false, false, false, false, false, false, false] rfl rfl (by kernel_rfl) (fun _ _ _ h => h) (Or.inr ⟨by rfl, rfl⟩) ?_ ?_
  rotate_left
  · simp only [Act.put, List.setIfInBounds_toArray, List.set_cons_zero, List.set_cons_succ, i64_w, i32_w]
    rfl
  refine pure_ (i := 17) (N := some 83) (v := undef) (a' := ?_) #[true, true, true, true, true, true, true, true, true, true, true, true, true, true, true, true, true, true, false, false, false, false, false, false, false, false, false] rfl rfl (by kernel_rfl) (fun _ _ _ h => h) (Or.inr ⟨by rfl, rfl⟩) ?_ ?_
  rotate_left
  · simp only [Act.put, List.setIfInBounds_toArray, List.set_cons_zero, List.set_cons_succ, i64_w, i32_w]
    rfl
  refine pure_ (i := 18) (N := some 84) (v := undef) (a' := ?_) #[true, true, true, true, true, true, true, true, true, true, true, true, true, true, true, true, true, true, true, false, false, false, false, false, false, false, false] rfl rfl (by kernel_rfl) (fun _ _ _ h => h) (Or.inr ⟨by rfl, rfl⟩) ?_ ?_
  rotate_left
  · simp only [Act.put, List.setIfInBounds_toArray, List.set_cons_zero, List.set_cons_succ, i64_w, i32_w]
    rfl
  refine pure_ (i := 19) (N := some 85) (v := undef) (a' := ?_) #[true, true, true, true, true, true, true, true, true, true, true, true, true, true, true, true, true, true, true, true, false, false, false, false, false, false, false] rfl rfl (by kernel_rfl) (fun _ _ _ h => h) (Or.inr ⟨by rfl, rfl⟩) ?_ ?_
  rotate_left
  · simp only [Act.put, List.setIfInBounds_toArray, List.set_cons_zero, List.set_cons_succ, i64_w, i32_w]
    rfl
  refine pure_ (i := 20) (N := some 86) (v := undef) (a' := ?_) #[true, true, true, true, true, true, true, true, true, true, true, true, true, true, true, true, true, true, true, true, true, false, false, false, false, false, false] rfl rfl (by kernel_rfl) (fun _ _ _ h => h) (Or.inr ⟨by rfl, rfl⟩) ?_ ?_
  rotate_left
  · simp only [Act.put, List.setIfInBounds_toArray, List.set_cons_zero, List.set_cons_succ, i64_w, i32_w]
    rfl
  refine pure_ (i := 21) (N := some 87) (v := undef) (a' := ?_) #[true, true, true, true, true, true, true, true, true, true, true, true, true, true, true, true, true, true, true, true, true, true, false, false, false, false, false] rfl rfl (by kernel_rfl) (fun _ _ _ h => h) (Or.inr ⟨by rfl, rfl⟩) ?_ ?_
  rotate_left
  · simp only [Act.put, List.setIfInBounds_toArray, List.set_cons_zero, List.set_cons_succ, i64_w, i32_w]
    rfl
  refine pure_ (i := 22) (N := some 88) (v := undef) (a' := ?_) #[true, true, true, true, true, true, true, true, true, true, true, true, true, true, true, true, true, true, true, true, true, true, true, false, false, false, false] rfl rfl (by kernel_rfl) (fun _ _ _ h => h) (Or.inr ⟨by rfl, rfl⟩) ?_ ?_
  rotate_left
  · simp only [Act.put, List.setIfInBounds_toArray, List.set_cons_zero, List.set_cons_succ, i64_w, i32_w]
    rfl
  refine pure_ (i := 23) (N := some 89) (v := undef) (a' := ?_) #[true, true, true, true, true, true, true, true, true, true, true, true, true, true, true, true, true, true, true, true, true, true, true, true, false, false, false] rfl rfl (by kernel_rfl) (fun _ _ _ h => h) (Or.inr ⟨by rfl, rfl⟩) ?_ ?_
  rotate_left
  · simp only [Act.put, List.setIfInBounds_toArray, List.set_cons_zero, List.set_cons_succ, i64_w, i32_w]
    rfl
  refine pure_ (i := 24) (N := some 90) (v := undef) (a' := ?_) #[true, true, true, true, true, true, true, true, true, true, true, true, true, true, true, true, true, true, true, true, true, true, true, true, true, false, false] rfl rfl (by kernel_rfl) (fun _ _ _ h => h) (Or.inr ⟨by rfl, rfl⟩) ?_ ?_
  rotate_left
  · simp only [Act.put, List.setIfInBounds_toArray, List.set_cons_zero, List.set_cons_succ, i64_w, i32_w]
    rfl
  refine pure_ (i := 25) (N := some 91) (v := ?_) (a' := ?_) #[true, true, true, true, true, true, true, true, true, true, true, true, true, true, true, true, true, true, true, true, true, true, true, true, true, true, false] rfl rfl (by kernel_rfl) (fun _ _ _ h => h) (Or.inl ⟨by rfl, ?_⟩) ?_ ?_
  rotate_left
  · intro w'
    go_simp
    with_reducible rfl
  rotate_left
  · simp only [Act.put, List.setIfInBounds_toArray, List.set_cons_zero, List.set_cons_succ, i64_w, i32_w]
    rfl
  refine pure_ (i := 26) (N := some 18) (v := ?_) (a' := ?_) #[true, true, true, true, true, true, true, true, true, true, true, true, true, true, true, true, true, true, true, true, true, true, true, true, true, true, true] rfl rfl (by kernel_rfl) (fun _ _ _ h => h) (Or.inl ⟨by rfl, ?_⟩) ?_ ?_
  rotate_left
  · intro w'
    go_simp
    with_reducible rfl
  rotate_left
  · simp only [Act.put, List.setIfInBounds_toArray, List.set_cons_zero, List.set_cons_succ, i64_w, i32_w]
    rfl
  refine done_ (by kernel_rfl) ?_
  have GB : Aside0 (Below w.heap.size w (w4.alloc (.cells #[.int .i64 y', .int .i64 m', .int .i64 d'] 34)).drew) := ⟨below_drew1 (below_alloc GB.out _)⟩
  go_wp2_with fail
  with_reducible refine (awake_calls _).mono ?_
  rintro e w6 ⟨rfl, hb⟩
  have GB := Aside0.mk (below_step GB.out hb)
  clear hb
  go_wp2_with fail
  go_ret
  exact ⟨by first | rfl | (simp; done), GB.out⟩
set_option maxHeartbeats 8000000 in
theorem rises_same (a0 u0 e0 n0 : Int) (w : World) (b0 : 0 ≤ a0 ∧ a0 ≤ 4294967295) (b1 : 0 ≤ u0 ∧ u0 ≤ 255) (b2 : 0 ≤ e0 ∧ e0 ≤ 255) (b3 : 0 ≤ n0 ∧ n0 ≤ 255) (y m d y' m' d' x z : Int) (hv : Cal.valid y m d) (hn : Cal.num y m d = a0 % 3000000) (hv' : Cal.valid y' m' d') (hn' : Cal.num y' m' d' = x) (h1 : Sea.out (Sea.nth (a0 % 3000000) y m d (u0 % 4) (1 + e0 % 12) n0) = (x, 0)) (h2 : Sea.out (Sea.nth (a0 % 3000000) y m d (u0 % 4) (1 + e0 % 12) (n0 + 1)) = (z, 0)) (hxz : x < z) (hx0 : 0 ≤ x ∧ x ≤ 3652058) (hu : 2 ≤ u0 % 4) (hdd : d' = d) (hz : 1 ≤ n0) :
    Calls Try.prog 5 #[.int .u32 a0, .int .u8 u0, .int .u8 e0, .int .u8 n0] w fun e w' => e = .returned (.bool true) ∧ Below w.heap.size w w' := by
  subst hdd
  have HV := Aside0.mk hv
  have HN := Aside0.mk hn
  have HV' := Aside0.mk hv'
  have HN' := Aside0.mk hn'
  have H1 := Aside0.mk h1
  have H2 := Aside0.mk h2
  have hd1 : decide (u0 % 4 < 2) = false := decide_eq_false (by omega)
  clear hv hn hv' hn' h1 h2
  go_enter Try.func5, Try.ntmps5
  go_wp2_with fail
  with_reducible refine (snth_calls _ y m d' _ _ _ _ HV.out HN.out (by omega) (by omega) (by omega) _ _ H1.out).mono ?_
  rintro e w1 ⟨rfl, hb⟩
  have GB := Aside0.mk hb
  clear hb
  go_wp2_with fail
  with_reducible refine (snth_calls _ y m d' _ _ _ _ HV.out HN.out (by omega) (by omega) (by omega) _ _ H2.out).mono ?_
  rintro e w2 ⟨rfl, hb⟩
  have GB := Aside0.mk (below_step GB.out hb)
  clear hb
  go_wp2_with fail
  with_reducible refine (rof_calls _ _ (by omega) (by omega) y m d' HV.out HN.out).mono ?_
  rintro e w3 ⟨rfl, hb⟩
  have GB := Aside0.mk (below_step GB.out hb)
  clear hb
  go_wp2_with fail
  with_reducible refine (rof_calls _ _ hx0.1 hx0.2 y' m' d' HV'.out HN'.out).mono ?_
  rintro e w4 ⟨rfl, hb⟩
  have B3 := Aside0.mk (blk_below (blk_new w3 (.cells #[.int .i64 y, .int .i64 m, .int .i64 d'] 34)) hb)
  have GB := Aside0.mk (below_step (below_alloc GB.out _) hb)
  have hlt := Aside0.mk (blk_lt B3.out)
  clear hb
  go_wp2_with fail
  have q0 : (w4.alloc (.cells #[.int .i64 y', .int .i64 m', .int .i64 d'] 34)).drew.cell? ⟨w3.heap.size, 0, none⟩ = some (.int .i64 y) := (World.cell?_alloc_lt _ _ _ hlt.out).trans ((blk_cell B3.out 0).trans rfl)
  have q1 : (w4.alloc (.cells #[.int .i64 y', .int .i64 m', .int .i64 d'] 34)).drew.cell? ⟨w3.heap.size, 1, none⟩ = some (.int .i64 m) := (World.cell?_alloc_lt _ _ _ hlt.out).trans ((blk_cell B3.out 1).trans rfl)
  have q2 : (w4.alloc (.cells #[.int .i64 y', .int .i64 m', .int .i64 d'] 34)).drew.cell? ⟨w3.heap.size, 2, none⟩ = some (.int .i64 d') := (World.cell?_alloc_lt _ _ _ hlt.out).trans ((blk_cell B3.out 2).trans rfl)
  have r0 : (w4.alloc (.cells #[.int .i64 y', .int .i64 m', .int .i64 d'] 34)).drew.cell? ⟨w4.heap.size, 0, none⟩ = some (.int .i64 y') := (blk_cell (blk_drew (blk_new w4 _)) 0).trans rfl
  have r1 : (w4.alloc (.cells #[.int .i64 y', .int .i64 m', .int .i64 d'] 34)).drew.cell? ⟨w4.heap.size, 1, none⟩ = some (.int .i64 m') := (blk_cell (blk_drew (blk_new w4 _)) 1).trans rfl
  have r2 : (w4.alloc (.cells #[.int .i64 y', .int .i64 m', .int .i64 d'] 34)).drew.cell? ⟨w4.heap.size, 2, none⟩ = some (.int .i64 d') := (blk_cell (blk_drew (blk_new w4 _)) 2).trans rfl
  refine start_ (n := 27) (S := fun w' => w'.cell? ⟨w3.heap.size, 0, none⟩ = some (.int .i64 y) ∧ w'.cell? ⟨w3.heap.size, 1, none⟩ = some (.int .i64 m) ∧ w'.cell? ⟨w3.heap.size, 2, none⟩ = some (.int .i64 d') ∧ w'.cell? ⟨w4.heap.size, 0, none⟩ = some (.int .i64 y') ∧ w'.cell? ⟨w4.heap.size, 1, none⟩ = some (.int .i64 m') ∧ w'.cell? ⟨w4.heap.size, 2, none⟩ = some (.int .i64 d')) (ds := []) #[false, false, false, false, false, false, false, false, false, false, false, false, false, false, false, false, false, false, false, false, false, false, false, false, false, false, false] (by kernel_rfl) rfl rfl ⟨q0, q1, q2, r0, r1, r2⟩ (fun hHeld => ?_)
  refine pure_ (i := 0) (N := some 66) (v := ?_) (a' := ?_) #[true, false, false, false, false, false, false, false, false, false, false, false, false, false, false, false, false, false, false, false, false, false, false, false, false, false, false] rfl rfl (by kernel_rfl) (fun _ _ _ h => h) (Or.inl ⟨by rfl, ?_⟩) ?_ ?_
  rotate_left
  · intro w'
    go_simp
    with_reducible rfl
  rotate_left
  · simp only [Act.put, List.setIfInBounds_toArray, List.set_cons_zero, List.set_cons_succ, i64_w, i32_w]
    rfl
  refine pure_ (i := 1) (N := some 67) (v := ?_) (a' := ?_) #[true, true, false, false, false, false, false, false, false, false, false, false, false, false, false, false, false, false, false, false, false, false, false, false, false, false, false] rfl rfl (by kernel_rfl) (fun _ _ _ h => h) (Or.inl ⟨by rfl, ?_⟩) ?_ ?_
  rotate_left
  · intro w'
    go_simp
    with_reducible rfl
  rotate_left
  · simp only [Act.put, List.setIfInBounds_toArray, List.set_cons_zero, List.set_cons_succ, i64_w, i32_w]
    rfl
  refine pure_ (i := 2) (N := some 68) (v := ?_) (a' := ?_) #[true, true, true, false, false, false, false, false, false, false, false, false, false, false, false, false, false, false, false, false, false, false, false, false, false, false, false] rfl rfl (by kernel_rfl) (fun _ _ _ h => h) (Or.inl ⟨by rfl, ?_⟩) ?_ ?_
  rotate_left
  · intro w'
    go_simp
    with_reducible rfl
  rotate_left
  · simp only [Act.put, List.setIfInBounds_toArray, List.set_cons_zero, List.set_cons_succ, i64_w, i32_w]
    rfl
  refine pure_ (i := 3) (N := some 69) (v := ?_) (a' := ?_) #[true, true, true, true, false, false, false, false, false, false, false, false, false, false, false, false, false, false, false, false, false, false, false, false, false, false, false] rfl rfl (by kernel_rfl) (fun _ _ _ h => h) (Or.inl ⟨by rfl, ?_⟩) ?_ ?_
  rotate_left
  · intro w'
    go_simp
    with_reducible rfl
  rotate_left
  · simp only [Act.put, List.setIfInBounds_toArray, List.set_cons_zero, List.set_cons_succ, i64_w, i32_w]
    rfl
  refine pure_ (i := 5) (N := some 71) (v := ?_) (a' := ?_) #[true, true, true, true, false, true, false, false, false, false, false, false, false, false, false, false, false, false, false, false, false, false, false, false, false, false, false] rfl rfl (by kernel_rfl) (fun _ _ _ h => h) (Or.inl ⟨by rfl, ?_⟩) ?_ ?_
  rotate_left
  · intro w'
    go_simp
    with_reducible rfl
  rotate_left
  · simp only [Act.put, List.setIfInBounds_toArray, List.set_cons_zero, List.set_cons_succ, i64_w, i32_w]
    rfl
  refine take_ (i := 4) (N := some 70) (v := ?_) (a' := ?_) #[true, true, true, true, true, true, false, false, false, false, false, false, false, false, false, false, false, false, false, false, false, false, false, false, false, false, false] rfl rfl (by kernel_rfl) (fun _ _ _ h => h) (Or.inl ⟨by rfl, ?_⟩) hHeld ?_ ?_
  rotate_left
  · rintro w' ⟨s0, s1, s2, s3, s4, s5⟩
    go_simp
    with_reducible rfl
  rotate_left
  · simp only [Act.put, List.setIfInBounds_toArray, List.set_cons_zero, List.set_cons_succ, i64_w, i32_w]
    rfl
  refine take_ (i := 6) (N := some 72) (v := ?_) (a' := ?_) #[true, true, true, true, true, true, true, false, false, false, false, false, false, false, false, false, false, false, false, false, false, false, false, false, false, false, false] rfl rfl (by kernel_rfl) (fun _ _ _ h => h) (Or.inl ⟨by rfl, ?_⟩) hHeld ?_ ?_
  rotate_left
  · rintro w' ⟨s0, s1, s2, s3, s4, s5⟩
    go_simp
    with_reducible rfl
  rotate_left
  · simp only [Act.put, List.setIfInBounds_toArray, List.set_cons_zero, List.set_cons_succ, i64_w, i32_w]
    rfl
  refine pure_ (i := 7) (N := some 73) (v := ?_) (a' := ?_) #[true, true, true, true, true, true, true, true, false, false, false, false, false, false, false, false, false, false, false, false, false, false, false, false, false, false, false] rfl rfl (by kernel_rfl) (fun _ _ _ h => h) (Or.inl ⟨by rfl, ?_⟩) ?_ ?_
  rotate_left
  · intro w'
    go_simp
    with_reducible rfl
  rotate_left
  · simp only [Act.put, List.setIfInBounds_toArray, List.set_cons_zero, List.set_cons_succ, i64_w, i32_w]
    rfl
  refine pure_ (i := 8) (N := some 74) (v := ?_) (a' := ?_) #[true, true, true, true, true, true, true, true, true, false, false, false, false, false, false, false, false, false, false, false, false, false, false, false, false, false, false] rfl rfl (by kernel_rfl) (fun _ _ _ h => h) (Or.inl ⟨by rfl, ?_⟩) ?_ ?_
  rotate_left
  · intro w'
    go_simp
    with_reducible rfl
  rotate_left
  · simp only [Act.put, List.setIfInBounds_toArray, List.set_cons_zero, List.set_cons_succ, i64_w, i32_w]
    rfl
  refine pure_ (i := 9) (N := some 75) (v := ?_) (a' := ?_) #[true, true, true, true, true, true, true, true, true, true, false, false, false, false, false, false, false, false, false, false, false, false, false, false, false, false, false] rfl rfl (by kernel_rfl) (fun _ _ _ h => h) (Or.inl ⟨by rfl, ?_⟩) ?_ ?_
  rotate_left
  · intro w'
    go_simp
    with_reducible rfl
  rotate_left
  · simp only [Act.put, List.setIfInBounds_toArray, List.set_cons_zero, List.set_cons_succ, i64_w, i32_w]
    rfl
  refine pure_ (i := 10) (N := some 76) (v := undef) (a' := ?_) #[true, true, true, true, true, true, true, true, true, true, true, false, false, false, false, false, false, false, false, false, false, false, false, false, false, false, false] rfl rfl (by kernel_rfl) (fun _ _ _ h => h) (Or.inr ⟨by rfl, rfl⟩) ?_ ?_
  rotate_left
  · simp only [Act.put, List.setIfInBounds_toArray, List.set_cons_zero, List.set_cons_succ, i64_w, i32_w]
    rfl
  refine pure_ (i := 11) (N := some 77) (v := undef) (a' := ?_) #[true, true, true, true, true, true, true, true, true, true, true, true, false, false, false, false, false, false, false, false, false, false, false, false, false, false, false] rfl rfl (by kernel_rfl) (fun _ _ _ h => h) (Or.inr ⟨by rfl, rfl⟩) ?_ ?_
  rotate_left
  · simp only [Act.put, List.setIfInBounds_toArray, List.set_cons_zero, List.set_cons_succ, i64_w, i32_w]
    rfl
  refine pure_ (i := 12) (N := some 78) (v := undef) (a' := ?_) #[true, true, true, true, true, true, true, true, true, true, true, true, true, false, false, false, false, false, false, false, false, false, false, false, false, false, false] rfl rfl (by kernel_rfl) (fun _ _ _ h => h) (Or.inr ⟨by rfl, rfl⟩) ?_ ?_
  rotate_left
  · simp only [Act.put, List.setIfInBounds_toArray, List.set_cons_zero, List.set_cons_succ, i64_w, i32_w]
    rfl
  refine pure_ (i := 13) (N := some 79) (v := undef) (a' := ?_) #[true, true, true, true, true, true, true, true, true, true, true, true, true, true, false, false, false, false, false, false, false, false, false, false, false, false, false] rfl rfl (by kernel_rfl) (fun _ _ _ h => h) (Or.inr ⟨by rfl, rfl⟩) ?_ ?_
  rotate_left
  · simp only [Act.put, List.setIfInBounds_toArray, List.set_cons_zero, List.set_cons_succ, i64_w, i32_w]
    rfl
  refine pure_ (i := 14) (N := some 80) (v := undef) (a' := ?_) #[true, true, true, true, true, true, true, true, true, true, true, true, true, true, true, false, false, false, false, false, false, false, false, false, false, false, false] rfl rfl (by kernel_rfl) (fun _ _ _ h => h) (Or.inr ⟨by rfl, rfl⟩) ?_ ?_
  rotate_left
  · simp only [Act.put, List.setIfInBounds_toArray, List.set_cons_zero, List.set_cons_succ, i64_w, i32_w]
    rfl
  refine pure_ (i := 15) (N := some 81) (v := undef) (a' := ?_) #[true, true, true, true, true, true, true, true, true, true, true, true, true, true, true, true, false, false, false, false, false, false, false, false, false, false, false] rfl rfl (by kernel_rfl) (fun _ _ _ h => h) (Or.inr ⟨by rfl, rfl⟩) ?_ ?_
  rotate_left
  · simp only [Act.put, List.setIfInBounds_toArray, List.set_cons_zero, List.set_cons_succ, i64_w, i32_w]
    rfl
  refine pure_ (i := 16) (N := some 82) (v := undef) (a' := ?_) #[true, true, true, true, true, true, true, true, true, true, true, true, true, true, true, true, true, false, false, false, false, false, false, false, false, false, false] rfl rfl (by kernel_rfl) (fun _ _ _ h => h) (Or.inr ⟨by rfl, rfl⟩) ?_ ?_
  rotate_left
  · simp only [Act.put, List.setIfInBounds_toArray, List.set_cons_zero, List.set_cons_succ, i64_w, i32_w]
    rfl
  refine pure_ (i := 17) (N := some 83) (v := undef) (a' := ?_) #[true, true, true, true, true, true, true, true, true, true, true, true, true, true, true, true, true, true, false, false, false, false, false, false, false, false, false] rfl rfl (by kernel_rfl) (fun _ _ _ h => h) (Or.inr ⟨by rfl, rfl⟩) ?_ ?_
  rotate_left
  · simp only [Act.put, List.setIfInBounds_toArray, List.set_cons_zero, List.set_cons_succ, i64_w, i32_w]
    rfl
  refine pure_ (i := 18) (N := some 84) (v := undef) (a' := ?_) #[true, true, true, true, true, true, true, true, true, true, true, true, true, true, true, true, true, true, true, false, false, false, false, false, false, false, false] rfl rfl (by kernel_rfl) (fun _ _ _ h => h) (Or.inr ⟨by rfl, rfl⟩) ?_ ?_
  rotate_left
  · simp only [Act.put, List.setIfInBounds_toArray, List.set_cons_zero, List.set_cons_succ, i64_w, i32_w]
    rfl
  refine pure_ (i := 19) (N := some 85) (v := undef) (a' := ?_) #[true, true, true, true, true, true, true, true, true, true, true, true, true, true, true, true, true, true, true, true, false, false, false, false, false, false, false] rfl rfl (by kernel_rfl) (fun _ _ _ h => h) (Or.inr ⟨by rfl, rfl⟩) ?_ ?_
  rotate_left
  · simp only [Act.put, List.setIfInBounds_toArray, List.set_cons_zero, List.set_cons_succ, i64_w, i32_w]
    rfl
  refine pure_ (i := 20) (N := some 86) (v := undef) (a' := ?_) #[true, true, true, true, true, true, true, true, true, true, true, true, true, true, true, true, true, true, true, true, true, false, false, false, false, false, false] rfl rfl (by kernel_rfl) (fun _ _ _ h => h) (Or.inr ⟨by rfl, rfl⟩) ?_ ?_
  rotate_left
  · simp only [Act.put, List.setIfInBounds_toArray, List.set_cons_zero, List.set_cons_succ, i64_w, i32_w]
    rfl
  refine pure_ (i := 21) (N := some 87) (v := undef) (a' := ?_) #[true, true, true, true, true, true, true, true, true, true, true, true, true, true, true, true, true, true, true, true, true, true, false, false, false, false, false] rfl rfl (by kernel_rfl) (fun _ _ _ h => h) (Or.inr ⟨by rfl, rfl⟩) ?_ ?_
  rotate_left
  · simp only [Act.put, List.setIfInBounds_toArray, List.set_cons_zero, List.set_cons_succ, i64_w, i32_w]
    rfl
  refine pure_ (i := 22) (N := some 88) (v := undef) (a' := ?_) #[true, true, true, true, true, true, true, true, true, true, true, true, true, true, true, true, true, true, true, true, true, true, true, false, false, false, false] rfl rfl (by kernel_rfl) (fun _ _ _ h => h) (Or.inr ⟨by rfl, rfl⟩) ?_ ?_
  rotate_left
  · simp only [Act.put, List.setIfInBounds_toArray, List.set_cons_zero, List.set_cons_succ, i64_w, i32_w]
    rfl
  refine pure_ (i := 23) (N := some 89) (v := undef) (a' := ?_) #[true, true, true, true, true, true, true, true, true, true, true, true, true, true, true, true, true, true, true, true, true, true, true, true, false, false, false] rfl rfl (by kernel_rfl) (fun _ _ _ h => h) (Or.inr ⟨by rfl, rfl⟩) ?_ ?_
  rotate_left
  · simp only [Act.put, List.setIfInBounds_toArray, List.set_cons_zero, List.set_cons_succ, i64_w, i32_w]
    rfl
  refine pure_ (i := 24) (N := some 90) (v := undef) (a' := ?_) #[true, true, true, true, true, true, true, true, true, true, true, true, true, true, true, true, true, true, true, true, true, true, true, true, true, false, false] rfl rfl (by kernel_rfl) (fun _ _ _ h => h) (Or.inr ⟨by rfl, rfl⟩) ?_ ?_
  rotate_left
  · simp only [Act.put, List.setIfInBounds_toArray, List.set_cons_zero, List.set_cons_succ, i64_w, i32_w]
    rfl
  refine pure_ (i := 25) (N := some 91) (v := ?_) (a' := ?_) #[true, true, true, true, true, true, true, true, true, true, true, true, true, true, true, true, true, true, true, true, true, true, true, true, true, true, false] rfl rfl (by kernel_rfl) (fun _ _ _ h => h) (Or.inl ⟨by rfl, ?_⟩) ?_ ?_
  rotate_left
  · intro w'
    go_simp
    with_reducible rfl
  rotate_left
  · simp only [Act.put, List.setIfInBounds_toArray, List.set_cons_zero, List.set_cons_succ, i64_w, i32_w]
    rfl
  refine pure_ (i := 26) (N := some 18) (v := ?_) (a' := ?_) #[true, true, true, true, true, true, true, true, true, true, true, true, true, true, true, true, true, true, true, true, true, true, true, true, true, true, true] rfl rfl (by kernel_rfl) (fun _ _ _ h => h) (Or.inl ⟨by rfl, ?_⟩) ?_ ?_
  rotate_left
  · intro w'
    go_simp
    with_reducible rfl
  rotate_left
  · simp only [Act.put, List.setIfInBounds_toArray, List.set_cons_zero, List.set_cons_succ, i64_w, i32_w]
    rfl
  refine done_ (by kernel_rfl) ?_
  have GB : Aside0 (Below w.heap.size w (w4.alloc (.cells #[.int .i64 y', .int .i64 m', .int .i64 d'] 34)).drew) := ⟨below_drew1 (below_alloc GB.out _)⟩
  go_wp2_with fail
  with_reducible refine (awake_calls _).mono ?_
  rintro e w6 ⟨rfl, hb⟩
  have GB := Aside0.mk (below_step GB.out hb)
  clear hb
  go_wp2_with fail
  go_ret
  exact ⟨by first | rfl | (simp; done), GB.out⟩
set_option maxHeartbeats 8000000 in
theorem rises_cut_0 (a0 u0 e0 n0 : Int) (w : World) (b0 : 0 ≤ a0 ∧ a0 ≤ 4294967295) (b1 : 0 ≤ u0 ∧ u0 ≤ 255) (b2 : 0 ≤ e0 ∧ e0 ≤ 255) (b3 : 0 ≤ n0 ∧ n0 ≤ 255) (y m d y' m' d' x z : Int) (hv : Cal.valid y m d) (hn : Cal.num y m d = a0 % 3000000) (hv' : Cal.valid y' m' d') (hn' : Cal.num y' m' d' = x) (h1 : Sea.out (Sea.nth (a0 % 3000000) y m d (u0 % 4) (1 + e0 % 12) n0) = (x, 0)) (h2 : Sea.out (Sea.nth (a0 % 3000000) y m d (u0 % 4) (1 + e0 % 12) (n0 + 1)) = (z, 0)) (hxz : x < z) (hx0 : 0 ≤ x ∧ x ≤ 3652058) (hu : 2 ≤ u0 % 4) (hdd : d' < d) (hmm : Cal.mon y' m' = d') (hz : n0 = 0) (hxa : x = a0 % 3000000) :
    Calls Try.prog 5 #[.int .u32 a0, .int .u8 u0, .int .u8 e0, .int .u8 n0] w fun e w' => e = .returned (.bool true) ∧ Below w.heap.size w w' := by
  have HV := Aside0.mk hv
  have HN := Aside0.mk hn
  have HV' := Aside0.mk hv'
  have HN' := Aside0.mk hn'
  have H1 := Aside0.mk h1
  have H2 := Aside0.mk h2
  have hd1 : decide (u0 % 4 < 2) = false := decide_eq_false (by omega)
  have hd2 : (d' == d) = false := beq_eq_false_iff_ne.2 (by omega)
  have hd3 : decide (d' < d) = true := decide_eq_true hdd
  have HMM := Aside0.mk hmm
  have HXA : (x == a0 % 3000000) = true := beq_iff_eq.2 hxa
  have hz2 : ¬ 0 < n0 := by omega
  clear hv hn hv' hn' h1 h2 hmm hxa hz
  go_enter Try.func5, Try.ntmps5
  go_wp2_with fail
  with_reducible refine (snth_calls _ y m d _ _ _ _ HV.out HN.out (by omega) (by omega) (by omega) _ _ H1.out).mono ?_
  rintro e w1 ⟨rfl, hb⟩
  have GB := Aside0.mk hb
  clear hb
  go_wp2_with fail
  with_reducible refine (snth_calls _ y m d _ _ _ _ HV.out HN.out (by omega) (by omega) (by omega) _ _ H2.out).mono ?_
  rintro e w2 ⟨rfl, hb⟩
  have GB := Aside0.mk (below_step GB.out hb)
  clear hb
  go_wp2_with fail
  with_reducible refine (rof_calls _ _ (by omega) (by omega) y m d HV.out HN.out).mono ?_
  rintro e w3 ⟨rfl, hb⟩
  have GB := Aside0.mk (below_step GB.out hb)
  clear hb
  go_wp2_with fail
  with_reducible refine (rof_calls _ _ hx0.1 hx0.2 y' m' d' HV'.out HN'.out).mono ?_
  rintro e w4 ⟨rfl, hb⟩
  have B3 := Aside0.mk (blk_below (blk_new w3 (.cells #[.int .i64 y, .int .i64 m, .int .i64 d] 34)) hb)
  have GB := Aside0.mk (below_step (below_alloc GB.out _) hb)
  have hlt := Aside0.mk (blk_lt B3.out)
  clear hb
  go_wp2_with fail
  have q0 : (w4.alloc (.cells #[.int .i64 y', .int .i64 m', .int .i64 d'] 34)).drew.cell? ⟨w3.heap.size, 0, none⟩ = some (.int .i64 y) := (World.cell?_alloc_lt _ _ _ hlt.out).trans ((blk_cell B3.out 0).trans rfl)
  have q1 : (w4.alloc (.cells #[.int .i64 y', .int .i64 m', .int .i64 d'] 34)).drew.cell? ⟨w3.heap.size, 1, none⟩ = some (.int .i64 m) := (World.cell?_alloc_lt _ _ _ hlt.out).trans ((blk_cell B3.out 1).trans rfl)
  have q2 : (w4.alloc (.cells #[.int .i64 y', .int .i64 m', .int .i64 d'] 34)).drew.cell? ⟨w3.heap.size, 2, none⟩ = some (.int .i64 d) := (World.cell?_alloc_lt _ _ _ hlt.out).trans ((blk_cell B3.out 2).trans rfl)
  have r0 : (w4.alloc (.cells #[.int .i64 y', .int .i64 m', .int .i64 d'] 34)).drew.cell? ⟨w4.heap.size, 0, none⟩ = some (.int .i64 y') := (blk_cell (blk_drew (blk_new w4 _)) 0).trans rfl
  have r1 : (w4.alloc (.cells #[.int .i64 y', .int .i64 m', .int .i64 d'] 34)).drew.cell? ⟨w4.heap.size, 1, none⟩ = some (.int .i64 m') := (blk_cell (blk_drew (blk_new w4 _)) 1).trans rfl
  have r2 : (w4.alloc (.cells #[.int .i64 y', .int .i64 m', .int .i64 d'] 34)).drew.cell? ⟨w4.heap.size, 2, none⟩ = some (.int .i64 d') := (blk_cell (blk_drew (blk_new w4 _)) 2).trans rfl
  refine start_ (n := 27) (S := fun w' => w'.cell? ⟨w3.heap.size, 0, none⟩ = some (.int .i64 y) ∧ w'.cell? ⟨w3.heap.size, 1, none⟩ = some (.int .i64 m) ∧ w'.cell? ⟨w3.heap.size, 2, none⟩ = some (.int .i64 d) ∧ w'.cell? ⟨w4.heap.size, 0, none⟩ = some (.int .i64 y') ∧ w'.cell? ⟨w4.heap.size, 1, none⟩ = some (.int .i64 m') ∧ w'.cell? ⟨w4.heap.size, 2, none⟩ = some (.int .i64 d')) (ds := []) #[false, false, false, false, false, false, false, false, false, false, false, false, false, false, false, false, false, false, false, false, false, false, false, false, false, false, false] (by kernel_rfl) rfl rfl ⟨q0, q1, q2, r0, r1, r2⟩ (fun hHeld => ?_)
  refine pure_ (i := 0) (N := some 66) (v := ?_) (a' := ?_) #[true, false, false, false, false, false, false, false, false, false, false, false, false, false, false, false, false, false, false, false, false, false, false, false, false, false, false] rfl rfl (by kernel_rfl) (fun _ _ _ h => h) (Or.inl ⟨by rfl, ?_⟩) ?_ ?_
  rotate_left
  · intro w'
    go_simp
    with_reducible rfl
  rotate_left
  · simp only [Act.put, List.setIfInBounds_toArray, List.set_cons_zero, List.set_cons_succ, i64_w, i32_w]
    rfl
  refine pure_ (i := 1) (N := some 67) (v := ?_) (a' := ?_) #[true, true, false, false, false, false, false, false, false, false, false, false, false, false, false, false, false, false, false, false, false, false, false, false, false, false, false] rfl rfl (by kernel_rfl) (fun _ _ _ h => h) (Or.inl ⟨by rfl, ?_⟩) ?_ ?_
  rotate_left
  · intro w'
    go_simp
    with_reducible rfl
  rotate_left
  · simp only [Act.put, List.setIfInBounds_toArray, List.set_cons_zero, List.set_cons_succ, i64_w, i32_w]
    rfl
  refine pure_ (i := 2) (N := some 68) (v := ?_) (a' := ?_) #[true, true, true, false, false, false, false, false, false, false, false, false, false, false, false, false, false, false, false, false, false, false, false, false, false, false, false] rfl rfl (by kernel_rfl) (fun _ _ _ h => h) (Or.inl ⟨by rfl, ?_⟩) ?_ ?_
  rotate_left
  · intro w'
    go_simp
    with_reducible rfl
  rotate_left
  · simp only [Act.put, List.setIfInBounds_toArray, List.set_cons_zero, List.set_cons_succ, i64_w, i32_w]
    rfl
  refine pure_ (i := 3) (N := some 69) (v := ?_) (a' := ?_) #[true, true, true, true, false, false, false, false, false, false, false, false, false, false, false, false, false, false, false, false, false, false, false, false, false, false, false] rfl rfl (by kernel_rfl) (fun _ _ _ h => h) (Or.inl ⟨by rfl, ?_⟩) ?_ ?_
  rotate_left
  · intro w'
    go_simp
    with_reducible rfl
  rotate_left
  · simp only [Act.put, List.setIfInBounds_toArray, List.set_cons_zero, List.set_cons_succ, i64_w, i32_w]
    rfl
  refine pure_ (i := 5) (N := some 71) (v := ?_) (a' := ?_) #[true, true, true, true, false, true, false, false, false, false, false, false, false, false, false, false, false, false, false, false, false, false, false, false, false, false, false] rfl rfl (by kernel_rfl) (fun _ _ _ h => h) (Or.inl ⟨by rfl, ?_⟩) ?_ ?_
  rotate_left
  · intro w'
    go_simp
    with_reducible rfl
  rotate_left
  · simp only [Act.put, List.setIfInBounds_toArray, List.set_cons_zero, List.set_cons_succ, i64_w, i32_w]
    rfl
  refine take_ (i := 4) (N := some 70) (v := ?_) (a' := ?_) #[true, true, true, true, true, true, false, false, false, false, false, false, false, false, false, false, false, false, false, false, false, false, false, false, false, false, false] rfl rfl (by kernel_rfl) (fun _ _ _ h => h) (Or.inl ⟨by rfl, ?_⟩) hHeld ?_ ?_
  rotate_left
  · rintro w' ⟨s0, s1, s2, s3, s4, s5⟩
    go_simp
    with_reducible rfl
  rotate_left
  · simp only [Act.put, List.setIfInBounds_toArray, List.set_cons_zero, List.set_cons_succ, i64_w, i32_w]
    rfl
  refine take_ (i := 6) (N := some 72) (v := ?_) (a' := ?_) #[true, true, true, true, true, true, true, false, false, false, false, false, false, false, false, false, false, false, false, false, false, false, false, false, false, false, false] rfl rfl (by kernel_rfl) (fun _ _ _ h => h) (Or.inl ⟨by rfl, ?_⟩) hHeld ?_ ?_
  rotate_left
  · rintro w' ⟨s0, s1, s2, s3, s4, s5⟩
    go_simp
    with_reducible rfl
  rotate_left
  · simp only [Act.put, List.setIfInBounds_toArray, List.set_cons_zero, List.set_cons_succ, i64_w, i32_w]
    rfl
  refine pure_ (i := 7) (N := some 73) (v := ?_) (a' := ?_) #[true, true, true, true, true, true, true, true, false, false, false, false, false, false, false, false, false, false, false, false, false, false, false, false, false, false, false] rfl rfl (by kernel_rfl) (fun _ _ _ h => h) (Or.inl ⟨by rfl, ?_⟩) ?_ ?_
  rotate_left
  · intro w'
    go_simp
    with_reducible rfl
  rotate_left
  · simp only [Act.put, List.setIfInBounds_toArray, List.set_cons_zero, List.set_cons_succ, i64_w, i32_w]
    rfl
  refine pure_ (i := 8) (N := some 74) (v := ?_) (a' := ?_) #[true, true, true, true, true, true, true, true, true, false, false, false, false, false, false, false, false, false, false, false, false, false, false, false, false, false, false] rfl rfl (by kernel_rfl) (fun _ _ _ h => h) (Or.inl ⟨by rfl, ?_⟩) ?_ ?_
  rotate_left
  · intro w'
    go_simp
    with_reducible rfl
  rotate_left
  · simp only [Act.put, List.setIfInBounds_toArray, List.set_cons_zero, List.set_cons_succ, i64_w, i32_w]
    rfl
  refine pure_ (i := 9) (N := some 75) (v := ?_) (a' := ?_) #[true, true, true, true, true, true, true, true, true, true, false, false, false, false, false, false, false, false, false, false, false, false, false, false, false, false, false] rfl rfl (by kernel_rfl) (fun _ _ _ h => h) (Or.inl ⟨by rfl, ?_⟩) ?_ ?_
  rotate_left
  · intro w'
    go_simp
    with_reducible rfl
  rotate_left
  · simp only [Act.put, List.setIfInBounds_toArray, List.set_cons_zero, List.set_cons_succ, i64_w, i32_w]
    rfl
  refine pure_ (i := 10) (N := some 76) (v := ?_) (a' := ?_) #[true, true, true, true, true, true, true, true, true, true, true, false, false, false, false, false, false, false, false, false, false, false, false, false, false, false, false] rfl rfl (by kernel_rfl) (fun _ _ _ h => h) (Or.inl ⟨by rfl, ?_⟩) ?_ ?_
  rotate_left
  · intro w'
    go_simp
    with_reducible rfl
  rotate_left
  · simp only [Act.put, List.setIfInBounds_toArray, List.set_cons_zero, List.set_cons_succ, i64_w, i32_w]
    rfl
  refine pure_ (i := 12) (N := some 78) (v := ?_) (a' := ?_) #[true, true, true, true, true, true, true, true, true, true, true, false, true, false, false, false, false, false, false, false, false, false, false, false, false, false, false] rfl rfl (by kernel_rfl) (fun _ _ _ h => h) (Or.inl ⟨by rfl, ?_⟩) ?_ ?_
  rotate_left
  · intro w'
    go_simp
    with_reducible rfl
  rotate_left
  · simp only [Act.put, List.setIfInBounds_toArray, List.set_cons_zero, List.set_cons_succ, i64_w, i32_w]
    rfl
  refine pure_ (i := 14) (N := some 80) (v := ?_) (a' := ?_) #[true, true, true, true, true, true, true, true, true, true, true, false, true, false, true, false, false, false, false, false, false, false, false, false, false, false, false] rfl rfl (by kernel_rfl) (fun _ _ _ h => h) (Or.inl ⟨by rfl, ?_⟩) ?_ ?_
  rotate_left
  · intro w'
    go_simp
    with_reducible rfl
  rotate_left
  · simp only [Act.put, List.setIfInBounds_toArray, List.set_cons_zero, List.set_cons_succ, i64_w, i32_w]
    rfl
  refine take_ (i := 11) (N := some 77) (v := ?_) (a' := ?_) #[true, true, true, true, true, true, true, true, true, true, true, true, true, false, true, false, false, false, false, false, false, false, false, false, false, false, false] rfl rfl (by kernel_rfl) (fun _ _ _ h => h) (Or.inl ⟨by rfl, ?_⟩) hHeld ?_ ?_
  rotate_left
  · rintro w' ⟨s0, s1, s2, s3, s4, s5⟩
    go_simp
    with_reducible rfl
  rotate_left
  · simp only [Act.put, List.setIfInBounds_toArray, List.set_cons_zero, List.set_cons_succ, i64_w, i32_w]
    rfl
  refine take_ (i := 13) (N := some 79) (v := ?_) (a' := ?_) #[true, true, true, true, true, true, true, true, true, true, true, true, true, true, true, false, false, false, false, false, false, false, false, false, false, false, false] rfl rfl (by kernel_rfl) (fun _ _ _ h => h) (Or.inl ⟨by rfl, ?_⟩) hHeld ?_ ?_
  rotate_left
  · rintro w' ⟨s0, s1, s2, s3, s4, s5⟩
    go_simp
    with_reducible rfl
  rotate_left
  · simp only [Act.put, List.setIfInBounds_toArray, List.set_cons_zero, List.set_cons_succ, i64_w, i32_w]
    rfl
  refine take_ (i := 15) (N := some 81) (v := ?_) (a' := ?_) #[true, true, true, true, true, true, true, true, true, true, true, true, true, true, true, true, false, false, false, false, false, false, false, false, false, false, false] rfl rfl (by kernel_rfl) (fun _ _ _ h => h) (Or.inl ⟨by rfl, ?_⟩) hHeld ?_ ?_
  rotate_left
  · rintro w' ⟨s0, s1, s2, s3, s4, s5⟩
    go_simp
    with_reducible rfl
  rotate_left
  · simp only [Act.put, List.setIfInBounds_toArray, List.set_cons_zero, List.set_cons_succ, i64_w, i32_w]
    rfl
  refine one_ (i := 16) (N := some 82) #[true, true, true, true, true, true, true, true, true, true, true, true, true, true, true, true, true, false, false, false, false, false, false, false, false, false, false] rfl rfl (by kernel_rfl) (by decide) (fun K hK => ?_)
  refine goes_ Try.func15 (by kernel_rfl) rfl #[.int .i64 y', .int .i64 m'] (by rfl) rfl rfl (by (try simp only [List.map_toArray, List.map_cons, List.map_nil]); first | done | rfl) ?_
  with_reducible refine (rmonth_eqd y' m' d' _ HMM.out).mono ?_
  rintro e w5 ⟨rfl, hb5⟩
  refine ⟨_, rfl, ?_⟩
  have A5_0 := pw_cell_below hb5 q0
  have A5_1 := pw_cell_below hb5 q1
  have A5_2 := pw_cell_below hb5 q2
  have A5_3 := pw_cell_below hb5 r0
  have A5_4 := pw_cell_below hb5 r1
  have A5_5 := pw_cell_below hb5 r2
  refine hK.out _ _ ⟨A5_0, A5_1, A5_2, A5_3, A5_4, A5_5⟩ (fun hHeld => ?_)
  clear hK K
  refine norm_ (a' := ?_) ?_ ?_
  rotate_left
  · show Act.put _ (some 82) _ = _
    simp only [Act.put, List.setIfInBounds_toArray, List.set_cons_zero, List.set_cons_succ, i64_w, i32_w]
    rfl
  refine pure_ (i := 17) (N := some 83) (v := ?_) (a' := ?_) #[true, true, true, true, true, true, true, true, true, true, true, true, true, true, true, true, true, true, false, false, false, false, false, false, false, false, false] rfl rfl (by kernel_rfl) (fun _ _ _ h => h) (Or.inl ⟨by rfl, ?_⟩) ?_ ?_
  rotate_left
  · intro w'
    go_simp
    with_reducible rfl
  rotate_left
  · simp only [Act.put, List.setIfInBounds_toArray, List.set_cons_zero, List.set_cons_succ, i64_w, i32_w]
    rfl
  refine pure_ (i := 18) (N := some 84) (v := ?_) (a' := ?_) #[true, true, true, true, true, true, true, true, true, true, true, true, true, true, true, true, true, true, true, false, false, false, false, false, false, false, false] rfl rfl (by kernel_rfl) (fun _ _ _ h => h) (Or.inl ⟨by rfl, ?_⟩) ?_ ?_
  rotate_left
  · intro w'
    go_simp
    with_reducible rfl
  rotate_left
  · simp only [Act.put, List.setIfInBounds_toArray, List.set_cons_zero, List.set_cons_succ, i64_w, i32_w]
    rfl
  refine pure_ (i := 19) (N := some 85) (v := ?_) (a' := ?_) #[true, true, true, true, true, true, true, true, true, true, true, true, true, true, true, true, true, true, true, true, false, false, false, false, false, false, false] rfl rfl (by kernel_rfl) (fun _ _ _ h => h) (Or.inl ⟨by rfl, ?_⟩) ?_ ?_
  rotate_left
  · intro w'
    go_simp
    with_reducible rfl
  rotate_left
  · simp only [Act.put, List.setIfInBounds_toArray, List.set_cons_zero, List.set_cons_succ, i64_w, i32_w]
    rfl
  refine pure_ (i := 21) (N := some 87) (v := ?_) (a' := ?_) #[true, true, true, true, true, true, true, true, true, true, true, true, true, true, true, true, true, true, true, true, false, true, false, false, false, false, false] rfl rfl (by kernel_rfl) (fun _ _ _ h => h) (Or.inl ⟨by rfl, ?_⟩) ?_ ?_
  rotate_left
  · intro w'
    go_simp
    with_reducible rfl
  rotate_left
  · simp only [Act.put, List.setIfInBounds_toArray, List.set_cons_zero, List.set_cons_succ, i64_w, i32_w]
    rfl
  refine take_ (i := 20) (N := some 86) (v := ?_) (a' := ?_) #[true, true, true, true, true, true, true, true, true, true, true, true, true, true, true, true, true, true, true, true, true, true, false, false, false, false, false] rfl rfl (by kernel_rfl) (fun _ _ _ h => h) (Or.inl ⟨by rfl, ?_⟩) hHeld ?_ ?_
  rotate_left
  · rintro w' ⟨s0, s1, s2, s3, s4, s5⟩
    go_simp
    with_reducible rfl
  rotate_left
  · simp only [Act.put, List.setIfInBounds_toArray, List.set_cons_zero, List.set_cons_succ, i64_w, i32_w]
    rfl
  refine take_ (i := 22) (N := some 88) (v := ?_) (a' := ?_) #[true, true, true, true, true, true, true, true, true, true, true, true, true, true, true, true, true, true, true, true, true, true, true, false, false, false, false] rfl rfl (by kernel_rfl) (fun _ _ _ h => h) (Or.inl ⟨by rfl, ?_⟩) hHeld ?_ ?_
  rotate_left
  · rintro w' ⟨s0, s1, s2, s3, s4, s5⟩
    go_simp
    with_reducible rfl
  rotate_left
  · simp only [Act.put, List.setIfInBounds_toArray, List.set_cons_zero, List.set_cons_succ, i64_w, i32_w]
    rfl
  refine pure_ (i := 23) (N := some 89) (v := ?_) (a' := ?_) #[true, true, true, true, true, true, true, true, true, true, true, true, true, true, true, true, true, true, true, true, true, true, true, true, false, false, false] rfl rfl (by kernel_rfl) (fun _ _ _ h => h) (Or.inl ⟨by rfl, ?_⟩) ?_ ?_
  rotate_left
  · intro w'
    go_simp
    with_reducible rfl
  rotate_left
  · simp only [Act.put, List.setIfInBounds_toArray, List.set_cons_zero, List.set_cons_succ, i64_w, i32_w]
    rfl
  refine pure_ (i := 24) (N := some 90) (v := ?_) (a' := ?_) #[true, true, true, true, true, true, true, true, true, true, true, true, true, true, true, true, true, true, true, true, true, true, true, true, true, false, false] rfl rfl (by kernel_rfl) (fun _ _ _ h => h) (Or.inl ⟨by rfl, ?_⟩) ?_ ?_
  rotate_left
  · intro w'
    go_simp
    with_reducible rfl
  rotate_left
  · simp only [Act.put, List.setIfInBounds_toArray, List.set_cons_zero, List.set_cons_succ, i64_w, i32_w]
    rfl
  refine pure_ (i := 25) (N := some 91) (v := ?_) (a' := ?_) #[true, true, true, true, true, true, true, true, true, true, true, true, true, true, true, true, true, true, true, true, true, true, true, true, true, true, false] rfl rfl (by kernel_rfl) (fun _ _ _ h => h) (Or.inl ⟨by rfl, ?_⟩) ?_ ?_
  rotate_left
  · intro w'
    go_simp
    with_reducible rfl
  rotate_left
  · simp only [Act.put, List.setIfInBounds_toArray, List.set_cons_zero, List.set_cons_succ, i64_w, i32_w]
    rfl
  refine pure_ (i := 26) (N := some 18) (v := ?_) (a' := ?_) #[true, true, true, true, true, true, true, true, true, true, true, true, true, true, true, true, true, true, true, true, true, true, true, true, true, true, true] rfl rfl (by kernel_rfl) (fun _ _ _ h => h) (Or.inl ⟨by rfl, ?_⟩) ?_ ?_
  rotate_left
  · intro w'
    go_simp
    with_reducible rfl
  rotate_left
  · simp only [Act.put, List.setIfInBounds_toArray, List.set_cons_zero, List.set_cons_succ, i64_w, i32_w]
    rfl
  refine done_ (by kernel_rfl) ?_
  have GB : Aside0 (Below w.heap.size w w5) := ⟨below_step (below_drew1 (below_alloc GB.out _)) hb5⟩
  go_wp2_with fail
  with_reducible refine (awake_calls _).mono ?_
  rintro e w6 ⟨rfl, hb⟩
  have GB := Aside0.mk (below_step GB.out hb)
  clear hb
  go_wp2_with fail
  go_ret
  exact ⟨by first | rfl | (simp; done), GB.out⟩
set_option maxHeartbeats 8000000 in
theorem rises_cut (a0 u0 e0 n0 : Int) (w : World) (b0 : 0 ≤ a0 ∧ a0 ≤ 4294967295) (b1 : 0 ≤ u0 ∧ u0 ≤ 255) (b2 : 0 ≤ e0 ∧ e0 ≤ 255) (b3 : 0 ≤ n0 ∧ n0 ≤ 255) (y m d y' m' d' x z : Int) (hv : Cal.valid y m d) (hn : Cal.num y m d = a0 % 3000000) (hv' : Cal.valid y' m' d') (hn' : Cal.num y' m' d' = x) (h1 : Sea.out (Sea.nth (a0 % 3000000) y m d (u0 % 4) (1 + e0 % 12) n0) = (x, 0)) (h2 : Sea.out (Sea.nth (a0 % 3000000) y m d (u0 % 4) (1 + e0 % 12) (n0 + 1)) = (z, 0)) (hxz : x < z) (hx0 : 0 ≤ x ∧ x ≤ 3652058) (hu : 2 ≤ u0 % 4) (hdd : d' < d) (hmm : Cal.mon y' m' = d') (hz : 1 ≤ n0) :
    Calls Try.prog 5 #[.int .u32 a0, .int .u8 u0, .int .u8 e0, .int .u8 n0] w fun e w' => e = .returned (.bool true) ∧ Below w.heap.size w w' := by
  have HV := Aside0.mk hv
  have HN := Aside0.mk hn
  have HV' := Aside0.mk hv'
  have HN' := Aside0.mk hn'
  have H1 := Aside0.mk h1
  have H2 := Aside0.mk h2
  have hd1 : decide (u0 % 4 < 2) = false := decide_eq_false (by omega)
  have hd2 : (d' == d) = false := beq_eq_false_iff_ne.2 (by omega)
  have hd3 : decide (d' < d) = true := decide_eq_true hdd
  have HMM := Aside0.mk hmm
  clear hv hn hv' hn' h1 h2 hmm
  go_enter Try.func5, Try.ntmps5
  go_wp2_with fail
  with_reducible refine (snth_calls _ y m d _ _ _ _ HV.out HN.out (by omega) (by omega) (by omega) _ _ H1.out).mono ?_
  rintro e w1 ⟨rfl, hb⟩
  have GB := Aside0.mk hb
  clear hb
  go_wp2_with fail
  with_reducible refine (snth_calls _ y m d _ _ _ _ HV.out HN.out (by omega) (by omega) (by omega) _ _ H2.out).mono ?_
  rintro e w2 ⟨rfl, hb⟩
  have GB := Aside0.mk (below_step GB.out hb)
  clear hb
  go_wp2_with fail
  with_reducible refine (rof_calls _ _ (by omega) (by omega) y m d HV.out HN.out).mono ?_
  rintro e w3 ⟨rfl, hb⟩
  have GB := Aside0.mk (below_step GB.out hb)
  clear hb
  go_wp2_with fail
  with_reducible refine (rof_calls _ _ hx0.1 hx0.2 y' m' d' HV'.out HN'.out).mono ?_
  rintro e w4 ⟨rfl, hb⟩
  have B3 := Aside0.mk (blk_below (blk_new w3 (.cells #[.int .i64 y, .int .i64 m, .int .i64 d] 34)) hb)
  have GB := Aside0.mk (below_step (below_alloc GB.out _) hb)
  have hlt := Aside0.mk (blk_lt B3.out)
  clear hb
  go_wp2_with fail
  have q0 : (w4.alloc (.cells #[.int .i64 y', .int .i64 m', .int .i64 d'] 34)).drew.cell? ⟨w3.heap.size, 0, none⟩ = some (.int .i64 y) := (World.cell?_alloc_lt _ _ _ hlt.out).trans ((blk_cell B3.out 0).trans rfl)
  have q1 : (w4.alloc (.cells #[.int .i64 y', .int .i64 m', .int .i64 d'] 34)).drew.cell? ⟨w3.heap.size, 1, none⟩ = some (.int .i64 m) := (World.cell?_alloc_lt _ _ _ hlt.out).trans ((blk_cell B3.out 1).trans rfl)
  have q2 : (w4.alloc (.cells #[.int .i64 y', .int .i64 m', .int .i64 d'] 34)).drew.cell? ⟨w3.heap.size, 2, none⟩ = some (.int .i64 d) := (World.cell?_alloc_lt _ _ _ hlt.out).trans ((blk_cell B3.out 2).trans rfl)
  have r0 : (w4.alloc (.cells #[.int .i64 y', .int .i64 m', .int .i64 d'] 34)).drew.cell? ⟨w4.heap.size, 0, none⟩ = some (.int .i64 y') := (blk_cell (blk_drew (blk_new w4 _)) 0).trans rfl
  have r1 : (w4.alloc (.cells #[.int .i64 y', .int .i64 m', .int .i64 d'] 34)).drew.cell? ⟨w4.heap.size, 1, none⟩ = some (.int .i64 m') := (blk_cell (blk_drew (blk_new w4 _)) 1).trans rfl
  have r2 : (w4.alloc (.cells #[.int .i64 y', .int .i64 m', .int .i64 d'] 34)).drew.cell? ⟨w4.heap.size, 2, none⟩ = some (.int .i64 d') := (blk_cell (blk_drew (blk_new w4 _)) 2).trans rfl
  refine start_ (n := 27) (S := fun w' => w'.cell? ⟨w3.heap.size, 0, none⟩ = some (.int .i64 y) ∧ w'.cell? ⟨w3.heap.size, 1, none⟩ = some (.int .i64 m) ∧ w'.cell? ⟨w3.heap.size, 2, none⟩ = some (.int .i64 d) ∧ w'.cell? ⟨w4.heap.size, 0, none⟩ = some (.int .i64 y') ∧ w'.cell? ⟨w4.heap.size, 1, none⟩ = some (.int .i64 m') ∧ w'.cell? ⟨w4.heap.size, 2, none⟩ = some (.int .i64 d')) (ds := []) #[false, false, false, false, false, false, false, false, false, false, false, false, false, false, false, false, false, false, false, false, false, false, false, false, false, false, false] (by kernel_rfl) rfl rfl ⟨q0, q1, q2, r0, r1, r2⟩ (fun hHeld => ?_)
  refine pure_ (i := 0) (N := some 66) (v := ?_) (a' := ?_) #[true, false, false, false, false, false, false, false, false, false, false, false, false, false, false, false, false, false, false, false, false, false, false, false, false, false, false] rfl rfl (by kernel_rfl) (fun _ _ _ h => h) (Or.inl ⟨by rfl, ?_⟩) ?_ ?_
  rotate_left
  · intro w'
    go_simp
    with_reducible rfl
  rotate_left
  · simp only [Act.put, List.setIfInBounds_toArray, List.set_cons_zero, List.set_cons_succ, i64_w, i32_w]
    rfl
  refine pure_ (i := 1) (N := some 67) (v := ?_) (a' := ?_) #[true, true, false, false, false, false, false, false, false, false, false, false, false, false, false, false, false, false, false, false, false, false, false, false, false, false, false] rfl rfl (by kernel_rfl) (fun _ _ _ h => h) (Or.inl ⟨by rfl, ?_⟩) ?_ ?_
  rotate_left
  · intro w'
    go_simp
    with_reducible rfl
  rotate_left
  · simp only [Act.put, List.setIfInBounds_toArray, List.set_cons_zero, List.set_cons_succ, i64_w, i32_w]
    rfl
  refine pure_ (i := 2) (N := some 68) (v := ?_) (a' := ?_) #[true, true, true, false, false, false, false, false, false, false, false, false, false, false, false, false, false, false, false, false, false, false, false, false, false, false, false] rfl rfl (by kernel_rfl) (fun _ _ _ h => h) (Or.inl ⟨by rfl, ?_⟩) ?_ ?_
  rotate_left
  · intro w'
    go_simp
    with_reducible rfl
  rotate_left
  · simp only [Act.put, List.setIfInBounds_toArray, List.set_cons_zero, List.set_cons_succ, i64_w, i32_w]
    rfl
  refine pure_ (i := 3) (N := some 69) (v := ?_) (a' := ?_) #[true, true, true, true, false, false, false, false, false, false, false, false, false, false, false, false, false, false, false, false, false, false, false, false, false, false, false] rfl rfl (by kernel_rfl) (fun _ _ _ h => h) (Or.inl ⟨by rfl, ?_⟩) ?_ ?_
  rotate_left
  · intro w'
    go_simp
    with_reducible rfl
  rotate_left
  · simp only [Act.put, List.setIfInBounds_toArray, List.set_cons_zero, List.set_cons_succ, i64_w, i32_w]
    rfl
  refine pure_ (i := 5) (N := some 71) (v := ?_) (a' := ?_) #[true, true, true, true, false, true, false, false, false, false, false, false, false, false, false, false, false, false, false, false, false, false, false, false, false, false, false] rfl rfl (by kernel_rfl) (fun _ _ _ h => h) (Or.inl ⟨by rfl, ?_⟩) ?_ ?_
  rotate_left
  · intro w'
    go_simp
    with_reducible rfl
  rotate_left
  · simp only [Act.put, List.setIfInBounds_toArray, List.set_cons_zero, List.set_cons_succ, i64_w, i32_w]
    rfl
  refine take_ (i := 4) (N := some 70) (v := ?_) (a' := ?_) #[true, true, true, true, true, true, false, false, false, false, false, false, false, false, false, false, false, false, false, false, false, false, false, false, false, false, false] rfl rfl (by kernel_rfl) (fun _ _ _ h => h) (Or.inl ⟨by rfl, ?_⟩) hHeld ?_ ?_
  rotate_left
  · rintro w' ⟨s0, s1, s2, s3, s4, s5⟩
    go_simp
    with_reducible rfl
  rotate_left
  · simp only [Act.put, List.setIfInBounds_toArray, List.set_cons_zero, List.set_cons_succ, i64_w, i32_w]
    rfl
  refine take_ (i := 6) (N := some 72) (v := ?_) (a' := ?_) #[true, true, true, true, true, true, true, false, false, false, false, false, false, false, false, false, false, false, false, false, false, false, false, false, false, false, false] rfl rfl (by kernel_rfl) (fun _ _ _ h => h) (Or.inl ⟨by rfl, ?_⟩) hHeld ?_ ?_
  rotate_left
  · rintro w' ⟨s0, s1, s2, s3, s4, s5⟩
    go_simp
    with_reducible rfl
  rotate_left
  · simp only [Act.put, List.setIfInBounds_toArray, List.set_cons_zero, List.set_cons_succ, i64_w, i32_w]
    rfl
  refine pure_ (i := 7) (N := some 73) (v := ?_) (a' := ?_) #[true, true, true, true, true, true, true, true, false, false, false, false, false, false, false, false, false, false, false, false, false, false, false, false, false, false, false] rfl rfl (by kernel_rfl) (fun _ _ _ h => h) (Or.inl ⟨by rfl, ?_⟩) ?_ ?_
  rotate_left
  · intro w'
    go_simp
    with_reducible rfl
  rotate_left
  · simp only [Act.put, List.setIfInBounds_toArray, List.set_cons_zero, List.set_cons_succ, i64_w, i32_w]
    rfl
  refine pure_ (i := 8) (N := some 74) (v := ?_) (a' := ?_) #[true, true, true, true, true, true, true, true, true, false, false, false, false, false, false, false, false, false, false, false, false, false, false, false, false, false, false] rfl rfl (by kernel_rfl) (fun _ _ _ h => h) (Or.inl ⟨by rfl, ?_⟩) ?_ ?_
  rotate_left
  · intro w'
    go_simp
    with_reducible rfl
  rotate_left
  · simp only [Act.put, List.setIfInBounds_toArray, List.set_cons_zero, List.set_cons_succ, i64_w, i32_w]
    rfl
  refine pure_ (i := 9) (N := some 75) (v := ?_) (a' := ?_) #[true, true, true, true, true, true, true, true, true, true, false, false, false, false, false, false, false, false, false, false, false, false, false, false, false, false, false] rfl rfl (by kernel_rfl) (fun _ _ _ h => h) (Or.inl ⟨by rfl, ?_⟩) ?_ ?_
  rotate_left
  · intro w'
    go_simp
    with_reducible rfl
  rotate_left
  · simp only [Act.put, List.setIfInBounds_toArray, List.set_cons_zero, List.set_cons_succ, i64_w, i32_w]
    rfl
  refine pure_ (i := 10) (N := some 76) (v := ?_) (a' := ?_) #[true, true, true, true, true, true, true, true, true, true, true, false, false, false, false, false, false, false, false, false, false, false, false, false, false, false, false] rfl rfl (by kernel_rfl) (fun _ _ _ h => h) (Or.inl ⟨by rfl, ?_⟩) ?_ ?_
  rotate_left
  · intro w'
    go_simp
    with_reducible rfl
  rotate_left
  · simp only [Act.put, List.setIfInBounds_toArray, List.set_cons_zero, List.set_cons_succ, i64_w, i32_w]
    rfl
  refine pure_ (i := 12) (N := some 78) (v := ?_) (a' := ?_) #[true, true, true, true, true, true, true, true, true, true, true, false, true, false, false, false, false, false, false, false, false, false, false, false, false, false, false] rfl rfl (by kernel_rfl) (fun _ _ _ h => h) (Or.inl ⟨by rfl, ?_⟩) ?_ ?_
  rotate_left
  · intro w'
    go_simp
    with_reducible rfl
  rotate_left
  · simp only [Act.put, List.setIfInBounds_toArray, List.set_cons_zero, List.set_cons_succ, i64_w, i32_w]
    rfl
  refine pure_ (i := 14) (N := some 80) (v := ?_) (a' := ?_) #[true, true, true, true, true, true, true, true, true, true, true, false, true, false, true, false, false, false, false, false, false, false, false, false, false, false, false] rfl rfl (by kernel_rfl) (fun _ _ _ h => h) (Or.inl ⟨by rfl, ?_⟩) ?_ ?_
  rotate_left
  · intro w'
    go_simp
    with_reducible rfl
  rotate_left
  · simp only [Act.put, List.setIfInBounds_toArray, List.set_cons_zero, List.set_cons_succ, i64_w, i32_w]
    rfl
  refine take_ (i := 11) (N := some 77) (v := ?_) (a' := ?_) #[true, true, true, true, true, true, true, true, true, true, true, true, true, false, true, false, false, false, false, false, false, false, false, false, false, false, false] rfl rfl (by kernel_rfl) (fun _ _ _ h => h) (Or.inl ⟨by rfl, ?_⟩) hHeld ?_ ?_
  rotate_left
  · rintro w' ⟨s0, s1, s2, s3, s4, s5⟩
    go_simp
    with_reducible rfl
  rotate_left
  · simp only [Act.put, List.setIfInBounds_toArray, List.set_cons_zero, List.set_cons_succ, i64_w, i32_w]
    rfl
  refine take_ (i := 13) (N := some 79) (v := ?_) (a' := ?_) #[true, true, true, true, true, true, true, true, true, true, true, true, true, true, true, false, false, false, false, false, false, false, false, false, false, false, false] rfl rfl (by kernel_rfl) (fun _ _ _ h => h) (Or.inl ⟨by rfl, ?_⟩) hHeld ?_ ?_
  rotate_left
  · rintro w' ⟨s0, s1, s2, s3, s4, s5⟩
    go_simp
    with_reducible rfl
  rotate_left
  · simp only [Act.put, List.setIfInBounds_toArray, List.set_cons_zero, List.set_cons_succ, i64_w, i32_w]
    rfl
  refine take_ (i := 15) (N := some 81) (v := ?_) (a' := ?_) #[true, true, true, true, true, true, true, true, true, true, true, true, true, true, true, true, false, false, false, false, false, false, false, false, false, false, false] rfl rfl (by kernel_rfl) (fun _ _ _ h => h) (Or.inl ⟨by rfl, ?_⟩) hHeld ?_ ?_
  rotate_left
  · rintro w' ⟨s0, s1, s2, s3, s4, s5⟩
    go_simp
    with_reducible rfl
  rotate_left
  · simp only [Act.put, List.setIfInBounds_toArray, List.set_cons_zero, List.set_cons_succ, i64_w, i32_w]
    rfl
  refine one_ (i := 16) (N := some 82) #[true, true, true, true, true, true, true, true, true, true, true, true, true, true, true, true, true, false, false, false, false, false, false, false, false, false, false] rfl rfl (by kernel_rfl) (by decide) (fun K hK => ?_)
  refine goes_ Try.func15 (by kernel_rfl) rfl #[.int .i64 y', .int .i64 m'] (by rfl) rfl rfl (by (try simp only [List.map_toArray, List.map_cons, List.map_nil]); first | done | rfl) ?_
  with_reducible refine (rmonth_eqd y' m' d' _ HMM.out).mono ?_
  rintro e w5 ⟨rfl, hb5⟩
  refine ⟨_, rfl, ?_⟩
  have A5_0 := pw_cell_below hb5 q0
  have A5_1 := pw_cell_below hb5 q1
  have A5_2 := pw_cell_below hb5 q2
  have A5_3 := pw_cell_below hb5 r0
  have A5_4 := pw_cell_below hb5 r1
  have A5_5 := pw_cell_below hb5 r2
  refine hK.out _ _ ⟨A5_0, A5_1, A5_2, A5_3, A5_4, A5_5⟩ (fun hHeld => ?_)
  clear hK K
  refine norm_ (a' := ?_) ?_ ?_
  rotate_left
  · show Act.put _ (some 82) _ = _
    simp only [Act.put, List.setIfInBounds_toArray, List.set_cons_zero, List.set_cons_succ, i64_w, i32_w]
    rfl
  refine pure_ (i := 17) (N := some 83) (v := ?_) (a' := ?_) #[true, true, true, true, true, true, true, true, true, true, true, true, true, true, true, true, true, true, false, false, false, false, false, false, false, false, false] rfl rfl (by kernel_rfl) (fun _ _ _ h => h) (Or.inl ⟨by rfl, ?_⟩) ?_ ?_
  rotate_left
  · intro w'
    go_simp
    with_reducible rfl
  rotate_left
  · simp only [Act.put, List.setIfInBounds_toArray, List.set_cons_zero, List.set_cons_succ, i64_w, i32_w]
    rfl
  refine pure_ (i := 18) (N := some 84) (v := ?_) (a' := ?_) #[true, true, true, true, true, true, true, true, true, true, true, true, true, true, true, true, true, true, true, false, false, false, false, false, false, false, false] rfl rfl (by kernel_rfl) (fun _ _ _ h => h) (Or.inl ⟨by rfl, ?_⟩) ?_ ?_
  rotate_left
  · intro w'
    go_simp
    with_reducible rfl
  rotate_left
  · simp only [Act.put, List.setIfInBounds_toArray, List.set_cons_zero, List.set_cons_succ, i64_w, i32_w]
    rfl
  refine pure_ (i := 19) (N := some 85) (v := ?_) (a' := ?_) #[true, true, true, true, true, true, true, true, true, true, true, true, true, true, true, true, true, true, true, true, false, false, false, false, false, false, false] rfl rfl (by kernel_rfl) (fun _ _ _ h => h) (Or.inl ⟨by rfl, ?_⟩) ?_ ?_
  rotate_left
  · intro w'
    go_simp
    with_reducible rfl
  rotate_left
  · simp only [Act.put, List.setIfInBounds_toArray, List.set_cons_zero, List.set_cons_succ, i64_w, i32_w]
    rfl
  refine pure_ (i := 21) (N := some 87) (v := ?_) (a' := ?_) #[true, true, true, true, true, true, true, true, true, true, true, true, true, true, true, true, true, true, true, true, false, true, false, false, false, false, false] rfl rfl (by kernel_rfl) (fun _ _ _ h => h) (Or.inl ⟨by rfl, ?_⟩) ?_ ?_
  rotate_left
  · intro w'
    go_simp
    with_reducible rfl
  rotate_left
  · simp only [Act.put, List.setIfInBounds_toArray, List.set_cons_zero, List.set_cons_succ, i64_w, i32_w]
    rfl
  refine take_ (i := 20) (N := some 86) (v := ?_) (a' := ?_) #[true, true, true, true, true, true, true, true, true, true, true, true, true, true, true, true, true, true, true, true, true, true, false, false, false, false, false] rfl rfl (by kernel_rfl) (fun _ _ _ h => h) (Or.inl ⟨by rfl, ?_⟩) hHeld ?_ ?_
  rotate_left
  · rintro w' ⟨s0, s1, s2, s3, s4, s5⟩
    go_simp
    with_reducible rfl
  rotate_left
  · simp only [Act.put, List.setIfInBounds_toArray, List.set_cons_zero, List.set_cons_succ, i64_w, i32_w]
    rfl
  refine take_ (i := 22) (N := some 88) (v := ?_) (a' := ?_) #[true, true, true, true, true, true, true, true, true, true, true, true, true, true, true, true, true, true, true, true, true, true, true, false, false, false, false] rfl rfl (by kernel_rfl) (fun _ _ _ h => h) (Or.inl ⟨by rfl, ?_⟩) hHeld ?_ ?_
  rotate_left
  · rintro w' ⟨s0, s1, s2, s3, s4, s5⟩
    go_simp
    with_reducible rfl
  rotate_left
  · simp only [Act.put, List.setIfInBounds_toArray, List.set_cons_zero, List.set_cons_succ, i64_w, i32_w]
    rfl
  refine pure_ (i := 23) (N := some 89) (v := ?_) (a' := ?_) #[true, true, true, true, true, true, true, true, true, true, true, true, true, true, true, true, true, true, true, true, true, true, true, true, false, false, false] rfl rfl (by kernel_rfl) (fun _ _ _ h => h) (Or.inl ⟨by rfl, ?_⟩) ?_ ?_
  rotate_left
  · intro w'
    go_simp
    with_reducible rfl
  rotate_left
  · simp only [Act.put, List.setIfInBounds_toArray, List.set_cons_zero, List.set_cons_succ, i64_w, i32_w]
    rfl
  refine pure_ (i := 24) (N := some 90) (v := ?_) (a' := ?_) #[true, true, true, true, true, true, true, true, true, true, true, true, true, true, true, true, true, true, true, true, true, true, true, true, true, false, false] rfl rfl (by kernel_rfl) (fun _ _ _ h => h) (Or.inl ⟨by rfl, ?_⟩) ?_ ?_
  rotate_left
  · intro w'
    go_simp
    with_reducible rfl
  rotate_left
  · simp only [Act.put, List.setIfInBounds_toArray, List.set_cons_zero, List.set_cons_succ, i64_w, i32_w]
    rfl
  refine pure_ (i := 25) (N := some 91) (v := ?_) (a' := ?_) #[true, true, true, true, true, true, true, true, true, true, true, true, true, true, true, true, true, true, true, true, true, true, true, true, true, true, false] rfl rfl (by kernel_rfl) (fun _ _ _ h => h) (Or.inl ⟨by rfl, ?_⟩) ?_ ?_
  rotate_left
  · intro w'
    go_simp
    with_reducible rfl
  rotate_left
  · simp only [Act.put, List.setIfInBounds_toArray, List.set_cons_zero, List.set_cons_succ, i64_w, i32_w]
    rfl
  refine pure_ (i := 26) (N := some 18) (v := ?_) (a' := ?_) #[true, true, true, true, true, true, true, true, true, true, true, true, true, true, true, true, true, true, true, true, true, true, true, true, true, true, true] rfl rfl (by kernel_rfl) (fun _ _ _ h => h) (Or.inl ⟨by rfl, ?_⟩) ?_ ?_
  rotate_left
  · intro w'
    go_simp
    with_reducible rfl
  rotate_left
  · simp only [Act.put, List.setIfInBounds_toArray, List.set_cons_zero, List.set_cons_succ, i64_w, i32_w]
    rfl
  refine done_ (by kernel_rfl) ?_
  have GB : Aside0 (Below w.heap.size w w5) := ⟨below_step (below_drew1 (below_alloc GB.out _)) hb5⟩
  go_wp2_with fail
  with_reducible refine (awake_calls _).mono ?_
  rintro e w6 ⟨rfl, hb⟩
  have GB := Aside0.mk (below_step GB.out hb)
  clear hb
  go_wp2_with fail
  go_ret
  exact ⟨by first | rfl | (simp; done), GB.out⟩
theorem seasonRises_calls (a0 u0 e0 n0 : Int) (w : World) (w0 : (Lit.int .u32 a0).wf = true) (w1 : (Lit.int .u8 u0).wf = true) (w2 : (Lit.int .u8 e0).wf = true) (w3 : (Lit.int .u8 n0).wf = true) :
    Calls Try.prog 5 #[.int .u32 a0, .int .u8 u0, .int .u8 e0, .int .u8 n0] w fun e w' => e = .returned (.bool true) ∧ Below w.heap.size w w' := by
  have b0 := bounds_u32 w0
  have b1 := bounds_u8 w1
  have b2 := bounds_u8 w2
  have b3 := bounds_u8 w3
  obtain ⟨y, m, d, _, g2, g3⟩ := of_yes 11000 (by omega) (a0 % 3000000) (by omega) (by omega)
  cases h1 : Sea.nth (a0 % 3000000) y m d (u0 % 4) (1 + e0 % 12) n0 with
  | none => exact rises_none a0 u0 e0 n0 w b0 b1 b2 b3 y m d g2 g3 (by rw [h1]; rfl) (by rw [Sea.nth_none _ y m d _ _ n0 (n0 + 1) g2 (by omega) (by omega) (by omega) h1]; rfl)
  | some x =>
    cases h2 : Sea.nth (a0 % 3000000) y m d (u0 % 4) (1 + e0 % 12) (n0 + 1) with
    | none => exact rises_last a0 u0 e0 n0 w b0 b1 b2 b3 y m d x g2 g3 (by rw [h1]; rfl) (by rw [h2]; rfl)
    | some z =>
      have hlt := Sea.nth_lt _ y m d _ _ n0 (n0 + 1) g2 (by omega) (by omega) (by omega) x z h1 h2
      have hr := Sea.nth_range _ y m d _ _ n0 g2 g3 (by omega) (by omega) x h1
      have hz0 : n0 = 0 → x = a0 % 3000000 := by
        intro q
        subst q
        rw [Sea.nth_zero _ y m d _ _ g2 g3] at h1
        exact (Option.some.inj h1).symm
      by_cases hu : u0 % 4 < 2
      · obtain ⟨y', m', d', _, g4, g5⟩ := of_yes 11000 (by omega) x (by omega) (by omega)
        by_cases hz : n0 = 0
        · exact rises_days_0 a0 u0 e0 n0 w b0 b1 b2 b3 y m d y' m' d' x z g2 g3 g4 g5 (by rw [h1]; rfl) (by rw [h2]; rfl) hlt (by omega) hu hz (hz0 hz)
        · exact rises_days a0 u0 e0 n0 w b0 b1 b2 b3 y m d y' m' d' x z g2 g3 g4 g5 (by rw [h1]; rfl) (by rw [h2]; rfl) hlt (by omega) hu (by omega)
      · have ho := Sea.off_ge (u0 % 4) (1 + e0 % 12) n0 (by omega) (by omega)
        have h3 := h1
        unfold Sea.nth at h3
        rw [if_neg (by omega)] at h3
        unfold Sea.monAdd at h3
        split at h3
        · rename_i hy
          have hmv := Sea.mon_valid y m d _ g2 (by omega) hy
          have hx := Option.some.inj h3
          generalize y + (m - 1 + Sea.off (u0 % 4) (1 + e0 % 12) n0) / 12 = y' at hmv hx
          generalize (m - 1 + Sea.off (u0 % 4) (1 + e0 % 12) n0) % 12 + 1 = m' at hmv hx
          by_cases hc : d ≤ Cal.mon y' m'
          · have hcd : Sea.cut y' m' d = d := by unfold Sea.cut; rw [if_pos hc]
            rw [hcd] at hmv hx
            by_cases hz : n0 = 0
            · exact rises_same_0 a0 u0 e0 n0 w b0 b1 b2 b3 y m d y' m' d x z g2 g3 hmv hx (by rw [h1]; rfl) (by rw [h2]; rfl) hlt (by omega) (by omega) rfl hz (hz0 hz)
            · exact rises_same a0 u0 e0 n0 w b0 b1 b2 b3 y m d y' m' d x z g2 g3 hmv hx (by rw [h1]; rfl) (by rw [h2]; rfl) hlt (by omega) (by omega) rfl (by omega)
          · have hcd : Sea.cut y' m' d = Cal.mon y' m' := by unfold Sea.cut; rw [if_neg hc]
            rw [hcd] at hmv hx
            by_cases hz : n0 = 0
            · exact rises_cut_0 a0 u0 e0 n0 w b0 b1 b2 b3 y m d y' m' _ x z g2 g3 hmv hx (by rw [h1]; rfl) (by rw [h2]; rfl) hlt (by omega) (by omega) (by omega) rfl hz (hz0 hz)
            · exact rises_cut a0 u0 e0 n0 w b0 b1 b2 b3 y m d y' m' _ x z g2 g3 hmv hx (by rw [h1]; rfl) (by rw [h2]; rfl) hlt (by omega) (by omega) (by omega) rfl (by omega)
        · cases h3
end Go.Proofs.Ythninollljphoaa.Pure
