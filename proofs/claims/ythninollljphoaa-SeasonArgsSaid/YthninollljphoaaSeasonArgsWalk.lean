/- The walk of SeasonArgs: which periods can't be, for every anchor, unit, length and number. -/
import Derived.Test.YthninollljphoaaSeasonNthWalk
import Derived.OpenShut
set_option linter.unusedVariables false
set_option linter.unusedSimpArgs false
namespace Go.Proofs.Ythninollljphoaa.Pure
open Go.RowKit Go.Proofs.Ythninollljphoaa.PSpan Go.Proofs.Ythninollljphoaa.PNumber Go.Proofs.YthninollljphoaaW.PrintWords Go.Proofs.YthninollljphoaaW.PrintLast
open Go.Proofs.Ythninollljphoaa
attribute [local go_sem] setCell_map
theorem sright_calls (u e : Int) (r : Bool) (w : World) (h : decide (u ≤ 3 ∧ 1 ≤ e ∧ e ≤ 1000) = r) :
    Calls Try.prog 13 #[.int .u8 u, .int .i64 e] w fun e w' => e = .returned (.bool r) ∧ Drawn0 w w' :=
  season_Right.calls u e r w (by rw [sright_eq, h])
theorem snth_bad (a u e n : Int) (w : World) (h : a < 0 ∨ 3652058 < a ∨ 3 < u ∨ e < 1 ∨ 1000 < e ∨ n < 0 ∨ 3652058 < n) :
    Calls Try.prog 10 #[.int .i64 a, .int .u8 u, .int .i64 e, .int .i64 n] w fun e w' => e = .returned (.tuple #[.int .i64 0, .int .i64 1]) ∧ Below w.heap.size w w' :=
  season_Nth.calls 11000 a u e n 0 1 w (nth_bad 11000 (by omega) a u e n h)
set_option maxHeartbeats 4000000 in
theorem args_bad0 (a u e n : Int) (w : World) (hu0 : 0 ≤ u) (h0 : 3 < u) :
    Calls Try.prog 4 #[.int .i64 a, .int .u8 u, .int .i64 e, .int .i64 n] w fun e w' => e = .returned (.bool true) ∧ Below w.heap.size w w' := by
  have HB := Aside0.mk (show a < 0 ∨ 3652058 < a ∨ 3 < u ∨ e < 1 ∨ 1000 < e ∨ n < 0 ∨ 3652058 < n by omega)
  have HRI : Aside0 (decide (u ≤ 3 ∧ 1 ≤ e ∧ e ≤ 1000) = false) := ⟨by simp; omega⟩
  go_enter Try.func4, Try.ntmps4
  go_wp2_with fail
  with_reducible refine (snth_bad _ _ _ _ _ HB.out).mono ?_
  rintro e w1 ⟨rfl, hb⟩
  have GB := Aside0.mk hb
  clear hb
  go_wp2_with fail
  with_reducible refine (awake_calls _).mono ?_
  rintro e w2 ⟨rfl, hb⟩
  have GB := Aside0.mk (below_step GB.out hb)
  clear hb
  go_wp2_with fail
  with_reducible refine (sright_calls _ _ false _ HRI.out).mono ?_
  rintro e w3 ⟨rfl, ⟨nd, rfl⟩⟩
  go_wp2_with fail
  go_ret
  exact ⟨by first | rfl | (simp; done) | (simp; omega), pw_below_drewN GB.out _⟩
set_option maxHeartbeats 4000000 in
theorem args_bad1 (a u e n : Int) (w : World) (hu0 : 0 ≤ u) (h0 : u ≤ 3) (h1 : e < 1) :
    Calls Try.prog 4 #[.int .i64 a, .int .u8 u, .int .i64 e, .int .i64 n] w fun e w' => e = .returned (.bool true) ∧ Below w.heap.size w w' := by
  have HB := Aside0.mk (show a < 0 ∨ 3652058 < a ∨ 3 < u ∨ e < 1 ∨ 1000 < e ∨ n < 0 ∨ 3652058 < n by omega)
  have HRI : Aside0 (decide (u ≤ 3 ∧ 1 ≤ e ∧ e ≤ 1000) = false) := ⟨by simp; omega⟩
  go_enter Try.func4, Try.ntmps4
  go_wp2_with fail
  with_reducible refine (snth_bad _ _ _ _ _ HB.out).mono ?_
  rintro e w1 ⟨rfl, hb⟩
  have GB := Aside0.mk hb
  clear hb
  go_wp2_with fail
  with_reducible refine (awake_calls _).mono ?_
  rintro e w2 ⟨rfl, hb⟩
  have GB := Aside0.mk (below_step GB.out hb)
  clear hb
  go_wp2_with fail
  with_reducible refine (sright_calls _ _ false _ HRI.out).mono ?_
  rintro e w3 ⟨rfl, ⟨nd, rfl⟩⟩
  go_wp2_with fail
  go_ret
  exact ⟨by first | rfl | (simp; done) | (simp; omega), pw_below_drewN GB.out _⟩
set_option maxHeartbeats 4000000 in
theorem args_bad2 (a u e n : Int) (w : World) (hu0 : 0 ≤ u) (h0 : u ≤ 3) (h1 : 1 ≤ e) (h2 : 1000 < e) :
    Calls Try.prog 4 #[.int .i64 a, .int .u8 u, .int .i64 e, .int .i64 n] w fun e w' => e = .returned (.bool true) ∧ Below w.heap.size w w' := by
  have HB := Aside0.mk (show a < 0 ∨ 3652058 < a ∨ 3 < u ∨ e < 1 ∨ 1000 < e ∨ n < 0 ∨ 3652058 < n by omega)
  have HRI : Aside0 (decide (u ≤ 3 ∧ 1 ≤ e ∧ e ≤ 1000) = false) := ⟨by simp; omega⟩
  go_enter Try.func4, Try.ntmps4
  go_wp2_with fail
  with_reducible refine (snth_bad _ _ _ _ _ HB.out).mono ?_
  rintro e w1 ⟨rfl, hb⟩
  have GB := Aside0.mk hb
  clear hb
  go_wp2_with fail
  with_reducible refine (awake_calls _).mono ?_
  rintro e w2 ⟨rfl, hb⟩
  have GB := Aside0.mk (below_step GB.out hb)
  clear hb
  go_wp2_with fail
  with_reducible refine (sright_calls _ _ false _ HRI.out).mono ?_
  rintro e w3 ⟨rfl, ⟨nd, rfl⟩⟩
  go_wp2_with fail
  go_ret
  exact ⟨by first | rfl | (simp; done) | (simp; omega), pw_below_drewN GB.out _⟩
set_option maxHeartbeats 4000000 in
theorem args_bad3 (a u e n : Int) (w : World) (hu0 : 0 ≤ u) (h0 : u ≤ 3) (h1 : 1 ≤ e) (h2 : e ≤ 1000) (h3 : a < 0) :
    Calls Try.prog 4 #[.int .i64 a, .int .u8 u, .int .i64 e, .int .i64 n] w fun e w' => e = .returned (.bool true) ∧ Below w.heap.size w w' := by
  have HB := Aside0.mk (show a < 0 ∨ 3652058 < a ∨ 3 < u ∨ e < 1 ∨ 1000 < e ∨ n < 0 ∨ 3652058 < n by omega)
  have HRI : Aside0 (decide (u ≤ 3 ∧ 1 ≤ e ∧ e ≤ 1000) = true) := ⟨by simp; omega⟩
  go_enter Try.func4, Try.ntmps4
  go_wp2_with fail
  with_reducible refine (snth_bad _ _ _ _ _ HB.out).mono ?_
  rintro e w1 ⟨rfl, hb⟩
  have GB := Aside0.mk hb
  clear hb
  go_wp2_with fail
  with_reducible refine (awake_calls _).mono ?_
  rintro e w2 ⟨rfl, hb⟩
  have GB := Aside0.mk (below_step GB.out hb)
  clear hb
  go_wp2_with fail
  with_reducible refine (sright_calls _ _ true _ HRI.out).mono ?_
  rintro e w3 ⟨rfl, ⟨nd, rfl⟩⟩
  go_wp2_with fail
  go_ret
  exact ⟨by first | rfl | (simp; done) | (simp; omega), pw_below_drewN GB.out _⟩
set_option maxHeartbeats 4000000 in
theorem args_bad4 (a u e n : Int) (w : World) (hu0 : 0 ≤ u) (h0 : u ≤ 3) (h1 : 1 ≤ e) (h2 : e ≤ 1000) (h3 : 0 ≤ a) (h4 : 3652058 < a) :
    Calls Try.prog 4 #[.int .i64 a, .int .u8 u, .int .i64 e, .int .i64 n] w fun e w' => e = .returned (.bool true) ∧ Below w.heap.size w w' := by
  have HB := Aside0.mk (show a < 0 ∨ 3652058 < a ∨ 3 < u ∨ e < 1 ∨ 1000 < e ∨ n < 0 ∨ 3652058 < n by omega)
  have HRI : Aside0 (decide (u ≤ 3 ∧ 1 ≤ e ∧ e ≤ 1000) = true) := ⟨by simp; omega⟩
  go_enter Try.func4, Try.ntmps4
  go_wp2_with fail
  with_reducible refine (snth_bad _ _ _ _ _ HB.out).mono ?_
  rintro e w1 ⟨rfl, hb⟩
  have GB := Aside0.mk hb
  clear hb
  go_wp2_with fail
  with_reducible refine (awake_calls _).mono ?_
  rintro e w2 ⟨rfl, hb⟩
  have GB := Aside0.mk (below_step GB.out hb)
  clear hb
  go_wp2_with fail
  with_reducible refine (sright_calls _ _ true _ HRI.out).mono ?_
  rintro e w3 ⟨rfl, ⟨nd, rfl⟩⟩
  go_wp2_with fail
  go_ret
  exact ⟨by first | rfl | (simp; done) | (simp; omega), pw_below_drewN GB.out _⟩
set_option maxHeartbeats 4000000 in
theorem args_bad5 (a u e n : Int) (w : World) (hu0 : 0 ≤ u) (h0 : u ≤ 3) (h1 : 1 ≤ e) (h2 : e ≤ 1000) (h3 : 0 ≤ a) (h4 : a ≤ 3652058) (h5 : n < 0) :
    Calls Try.prog 4 #[.int .i64 a, .int .u8 u, .int .i64 e, .int .i64 n] w fun e w' => e = .returned (.bool true) ∧ Below w.heap.size w w' := by
  have HB := Aside0.mk (show a < 0 ∨ 3652058 < a ∨ 3 < u ∨ e < 1 ∨ 1000 < e ∨ n < 0 ∨ 3652058 < n by omega)
  have HRI : Aside0 (decide (u ≤ 3 ∧ 1 ≤ e ∧ e ≤ 1000) = true) := ⟨by simp; omega⟩
  go_enter Try.func4, Try.ntmps4
  go_wp2_with fail
  with_reducible refine (snth_bad _ _ _ _ _ HB.out).mono ?_
  rintro e w1 ⟨rfl, hb⟩
  have GB := Aside0.mk hb
  clear hb
  go_wp2_with fail
  with_reducible refine (awake_calls _).mono ?_
  rintro e w2 ⟨rfl, hb⟩
  have GB := Aside0.mk (below_step GB.out hb)
  clear hb
  go_wp2_with fail
  with_reducible refine (sright_calls _ _ true _ HRI.out).mono ?_
  rintro e w3 ⟨rfl, ⟨nd, rfl⟩⟩
  go_wp2_with fail
  go_ret
  exact ⟨by first | rfl | (simp; done) | (simp; omega), pw_below_drewN GB.out _⟩
set_option maxHeartbeats 4000000 in
theorem args_bad6 (a u e n : Int) (w : World) (hu0 : 0 ≤ u) (h0 : u ≤ 3) (h1 : 1 ≤ e) (h2 : e ≤ 1000) (h3 : 0 ≤ a) (h4 : a ≤ 3652058) (h5 : 0 ≤ n) (h6 : 3652058 < n) :
    Calls Try.prog 4 #[.int .i64 a, .int .u8 u, .int .i64 e, .int .i64 n] w fun e w' => e = .returned (.bool true) ∧ Below w.heap.size w w' := by
  have HB := Aside0.mk (show a < 0 ∨ 3652058 < a ∨ 3 < u ∨ e < 1 ∨ 1000 < e ∨ n < 0 ∨ 3652058 < n by omega)
  have HRI : Aside0 (decide (u ≤ 3 ∧ 1 ≤ e ∧ e ≤ 1000) = true) := ⟨by simp; omega⟩
  go_enter Try.func4, Try.ntmps4
  go_wp2_with fail
  with_reducible refine (snth_bad _ _ _ _ _ HB.out).mono ?_
  rintro e w1 ⟨rfl, hb⟩
  have GB := Aside0.mk hb
  clear hb
  go_wp2_with fail
  with_reducible refine (awake_calls _).mono ?_
  rintro e w2 ⟨rfl, hb⟩
  have GB := Aside0.mk (below_step GB.out hb)
  clear hb
  go_wp2_with fail
  with_reducible refine (sright_calls _ _ true _ HRI.out).mono ?_
  rintro e w3 ⟨rfl, ⟨nd, rfl⟩⟩
  go_wp2_with fail
  go_ret
  exact ⟨by first | rfl | (simp; done) | (simp; omega), pw_below_drewN GB.out _⟩
set_option maxHeartbeats 4000000 in
theorem args_some (a u e n : Int) (w : World) (hu0 : 0 ≤ u) (h0 : u ≤ 3) (h1 : 1 ≤ e) (h2 : e ≤ 1000) (h3 : 0 ≤ a) (h4 : a ≤ 3652058) (h5 : 0 ≤ n) (h6 : n ≤ 3652058) (y m d r1 : Int) (hv : Cal.valid y m d) (hn : Cal.num y m d = a) (ho : Sea.out (Sea.nth a y m d u e n) = (r1, 0)) :
    Calls Try.prog 4 #[.int .i64 a, .int .u8 u, .int .i64 e, .int .i64 n] w fun e w' => e = .returned (.bool true) ∧ Below w.heap.size w w' := by
  have HV := Aside0.mk hv
  have HN := Aside0.mk hn
  have HO := Aside0.mk ho
  have HRI : Aside0 (decide (u ≤ 3 ∧ 1 ≤ e ∧ e ≤ 1000) = true) := ⟨by simp; omega⟩
  clear hv hn ho
  go_enter Try.func4, Try.ntmps4
  go_wp2_with fail
  with_reducible refine (snth_calls _ y m d _ _ _ _ HV.out HN.out (by omega) (by omega) (by omega) _ _ HO.out).mono ?_
  rintro e w1 ⟨rfl, hb⟩
  have GB := Aside0.mk hb
  clear hb
  go_wp2_with fail
  with_reducible refine (awake_calls _).mono ?_
  rintro e w2 ⟨rfl, hb⟩
  have GB := Aside0.mk (below_step GB.out hb)
  clear hb
  go_wp2_with fail
  with_reducible refine (sright_calls _ _ true _ HRI.out).mono ?_
  rintro e w3 ⟨rfl, ⟨nd, rfl⟩⟩
  go_wp2_with fail
  go_ret
  exact ⟨by first | rfl | (simp; done) | (simp; omega), pw_below_drewN GB.out _⟩
set_option maxHeartbeats 4000000 in
theorem args_none (a u e n : Int) (w : World) (hu0 : 0 ≤ u) (h0 : u ≤ 3) (h1 : 1 ≤ e) (h2 : e ≤ 1000) (h3 : 0 ≤ a) (h4 : a ≤ 3652058) (h5 : 0 ≤ n) (h6 : n ≤ 3652058) (y m d : Int) (hv : Cal.valid y m d) (hn : Cal.num y m d = a) (ho : Sea.out (Sea.nth a y m d u e n) = (0, 6)) :
    Calls Try.prog 4 #[.int .i64 a, .int .u8 u, .int .i64 e, .int .i64 n] w fun e w' => e = .returned (.bool true) ∧ Below w.heap.size w w' := by
  have HV := Aside0.mk hv
  have HN := Aside0.mk hn
  have HO := Aside0.mk ho
  have HRI : Aside0 (decide (u ≤ 3 ∧ 1 ≤ e ∧ e ≤ 1000) = true) := ⟨by simp; omega⟩
  clear hv hn ho
  go_enter Try.func4, Try.ntmps4
  go_wp2_with fail
  with_reducible refine (snth_calls _ y m d _ _ _ _ HV.out HN.out (by omega) (by omega) (by omega) _ _ HO.out).mono ?_
  rintro e w1 ⟨rfl, hb⟩
  have GB := Aside0.mk hb
  clear hb
  go_wp2_with fail
  with_reducible refine (awake_calls _).mono ?_
  rintro e w2 ⟨rfl, hb⟩
  have GB := Aside0.mk (below_step GB.out hb)
  clear hb
  go_wp2_with fail
  with_reducible refine (sright_calls _ _ true _ HRI.out).mono ?_
  rintro e w3 ⟨rfl, ⟨nd, rfl⟩⟩
  go_wp2_with fail
  go_ret
  exact ⟨by first | rfl | (simp; done) | (simp; omega), pw_below_drewN GB.out _⟩
theorem seasonArgs_calls (a u e n : Int) (w : World) (_ : (Lit.int .i64 a).wf = true) (w1 : (Lit.int .u8 u).wf = true) (_ : (Lit.int .i64 e).wf = true) (_ : (Lit.int .i64 n).wf = true) :
    Calls Try.prog 4 #[.int .i64 a, .int .u8 u, .int .i64 e, .int .i64 n] w fun e w' => e = .returned (.bool true) ∧ Below w.heap.size w w' := by
  have hu0 := (bounds_u8 w1).1
  by_cases h0 : u ≤ 3
  · skip
    by_cases h1 : 1 ≤ e
    · skip
      by_cases h2 : e ≤ 1000
      · skip
        by_cases h3 : 0 ≤ a
        · skip
          by_cases h4 : a ≤ 3652058
          · skip
            by_cases h5 : 0 ≤ n
            · skip
              by_cases h6 : n ≤ 3652058
              · skip
                obtain ⟨y, m, d, _, g2, g3⟩ := of_yes 11000 (by omega) a h3 h4
                cases hc : Sea.nth a y m d u e n with
                | none => exact args_none a u e n w hu0 h0 h1 h2 h3 h4 h5 h6 y m d g2 g3 (by rw [hc]; rfl)
                | some v => exact args_some a u e n w hu0 h0 h1 h2 h3 h4 h5 h6 y m d v g2 g3 (by rw [hc]; rfl)
              · exact args_bad6 a u e n w hu0 h0 h1 h2 h3 h4 h5 (by omega)
            · exact args_bad5 a u e n w hu0 h0 h1 h2 h3 h4 (by omega)
          · exact args_bad4 a u e n w hu0 h0 h1 h2 h3 (by omega)
        · exact args_bad3 a u e n w hu0 h0 h1 h2 (by omega)
      · exact args_bad2 a u e n w hu0 h0 h1 (by omega)
    · exact args_bad1 a u e n w hu0 h0 (by omega)
  · exact args_bad0 a u e n w hu0 (by omega)
end Go.Proofs.Ythninollljphoaa.Pure
