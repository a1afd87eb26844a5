/- The walks of the reference's Nth, and of the document's example for seasons. -/
import Derived.Test.YthninollljphoaaSeasonBase
set_option linter.unusedVariables false
set_option linter.unusedSimpArgs false
namespace Go.Proofs.Ythninollljphoaa.Pure
open Go.RowKit Go.Proofs.Ythninollljphoaa.PSpan Go.Proofs.Ythninollljphoaa.PNumber Go.Proofs.YthninollljphoaaW.PrintWords Go.Proofs.YthninollljphoaaW.PrintLast
open Go.Proofs.Ythninollljphoaa
attribute [local go_sem] setCell_map
set_option maxHeartbeats 8000000 in
theorem rnth_none2 (a y m d e n : Int) (w : World) (hv : Cal.valid y m d) (ha : Cal.num y m d = a) (hp : 0 ≤ n * e ∧ n * e ≤ 3652058000) (hm : Sea.monAdd y m d (n * e) = none) :
    Calls Try.prog 11 #[.int .i64 a, .int .u8 2, .int .i64 e, .int .i64 n] w fun ee w' => ee = .returned (.tuple #[.int .i64 0, .bool false]) ∧ Below w.heap.size w w' := by
  have hr := Cal.num_range y m d hv
  have hv0 := hv
  obtain ⟨v1, v2, v3, v4, v5, v6⟩ := hv0
  have HV := Aside0.mk hv
  have HA := Aside0.mk ha
  have HM := Aside0.mk (Sea.mon_split y m (n * e) v3 v4 (by omega))
  have HR := Aside0.mk hm
  have hra : 0 ≤ a ∧ a ≤ 3652058 := by omega
  clear hv ha hr hm
  by_cases c1 : 12 < m + (n * e) % 12
  · have hyv : 1 ≤ y + (n * e) / 12 + 1 := by omega
    have hmv : 1 ≤ m + (n * e) % 12 - 12 ∧ m + (n * e) % 12 - 12 ≤ 12 := by omega
    have HE := Aside0.mk (HM.out.1 c1)
    have c2 : 9999 < y + (n * e) / 12 + 1 := by
      have h := HR.out
      unfold Sea.monAdd at h
      rw [HE.out.1] at h
      split at h
      · cases h
      · omega
    go_enter Try.func11, Try.ntmps11
    go_wp2_with fail
    with_reducible refine (rof_calls a _ hra.1 hra.2 y m d HV.out HA.out).mono ?_
    rintro e1 w1 ⟨rfl, hb⟩
    have GB := Aside0.mk hb
    clear hb
    go_wp2_with fail
    go_ret2
    exact ⟨rfl, below_alloc GB.out _⟩
  · have hyv : 1 ≤ y + (n * e) / 12 := by omega
    have hmv : 1 ≤ m + (n * e) % 12 ∧ m + (n * e) % 12 ≤ 12 := by omega
    have HE := Aside0.mk (HM.out.2 c1)
    have c2 : 9999 < y + (n * e) / 12 := by
      have h := HR.out
      unfold Sea.monAdd at h
      rw [HE.out.1] at h
      split at h
      · cases h
      · omega
    go_enter Try.func11, Try.ntmps11
    go_wp2_with fail
    with_reducible refine (rof_calls a _ hra.1 hra.2 y m d HV.out HA.out).mono ?_
    rintro e1 w1 ⟨rfl, hb⟩
    have GB := Aside0.mk hb
    clear hb
    go_wp2_with fail
    go_ret2
    exact ⟨rfl, below_alloc GB.out _⟩
set_option maxHeartbeats 8000000 in
theorem rnth_some2 (a y m d e n v : Int) (w : World) (hv : Cal.valid y m d) (ha : Cal.num y m d = a) (hp : 0 ≤ n * e ∧ n * e ≤ 3652058000) (hm : Sea.monAdd y m d (n * e) = some v) :
    Calls Try.prog 11 #[.int .i64 a, .int .u8 2, .int .i64 e, .int .i64 n] w fun ee w' => ee = .returned (.tuple #[.int .i64 v, .bool true]) ∧ Below w.heap.size w w' := by
  have hr := Cal.num_range y m d hv
  have hv0 := hv
  obtain ⟨v1, v2, v3, v4, v5, v6⟩ := hv0
  have HV := Aside0.mk hv
  have HA := Aside0.mk ha
  have HM := Aside0.mk (Sea.mon_split y m (n * e) v3 v4 (by omega))
  have HR := Aside0.mk hm
  have hra : 0 ≤ a ∧ a ≤ 3652058 := by omega
  clear hv ha hr hm
  by_cases c1 : 12 < m + (n * e) % 12
  · have hyv : 1 ≤ y + (n * e) / 12 + 1 := by omega
    have hmv : 1 ≤ m + (n * e) % 12 - 12 ∧ m + (n * e) % 12 - 12 ≤ 12 := by omega
    have HE := Aside0.mk (HM.out.1 c1)
    have c2 : y + (n * e) / 12 + 1 ≤ 9999 := by
      have h := HR.out
      unfold Sea.monAdd at h
      rw [HE.out.1] at h
      split at h
      · assumption
      · cases h
    have hval : Cal.valid (y + (n * e) / 12 + 1) (m + (n * e) % 12 - 12) (Sea.cut (y + (n * e) / 12 + 1) (m + (n * e) % 12 - 12) d) := by
      have hq := Sea.mon_valid y m d (n * e) HV.out (by omega) (by rw [HE.out.1]; omega)
      rwa [HE.out.1, HE.out.2] at hq
    have hms : Cal.num (y + (n * e) / 12 + 1) (m + (n * e) % 12 - 12) (Sea.cut (y + (n * e) / 12 + 1) (m + (n * e) % 12 - 12) d) = v := by
      have h := HR.out
      unfold Sea.monAdd at h
      rw [HE.out.1, HE.out.2, if_pos c2] at h
      exact Option.some.inj h
    have HVV := Aside0.mk hval
    have HMS := Aside0.mk hms
    clear hval hms
    have hmo := Cal.mon_le (y + (n * e) / 12 + 1) (m + (n * e) % 12 - 12)
    by_cases c3 : Cal.mon (y + (n * e) / 12 + 1) (m + (n * e) % 12 - 12) < d
    · have hcut : Sea.cut (y + (n * e) / 12 + 1) (m + (n * e) % 12 - 12) d = Cal.mon (y + (n * e) / 12 + 1) (m + (n * e) % 12 - 12) := by unfold Sea.cut; split <;> omega
      rw [hcut] at HVV HMS
      clear hcut
      go_enter Try.func11, Try.ntmps11
      go_wp2_with fail
      with_reducible refine (rof_calls a _ hra.1 hra.2 y m d HV.out HA.out).mono ?_
      rintro e1 w1 ⟨rfl, hb⟩
      have GB := Aside0.mk hb
      clear hb
      go_wp2_with fail
      with_reducible refine (rmonth_calls _ _ _).mono ?_
      rintro e2 w2 ⟨rfl, hb⟩
      have GB := Aside0.mk (below_step (below_alloc GB.out _) hb)
      clear hb
      go_wp2_with fail
      with_reducible refine (rmonth_calls _ _ _).mono ?_
      rintro e3 w3 ⟨rfl, hb⟩
      have GB := Aside0.mk (below_step GB.out hb)
      clear hb
      go_wp2_with fail
      with_reducible refine (rnumber_calls _ _ _ _ _ HVV.out HMS.out).mono ?_
      rintro e4 w4 ⟨rfl, hb⟩
      have GB := Aside0.mk (below_step GB.out hb)
      clear hb
      go_wp2_with fail
      go_ret2
      exact ⟨rfl, GB.out⟩
    · have hcut : Sea.cut (y + (n * e) / 12 + 1) (m + (n * e) % 12 - 12) d = d := by unfold Sea.cut; split <;> omega
      rw [hcut] at HVV HMS
      clear hcut
      go_enter Try.func11, Try.ntmps11
      go_wp2_with fail
      with_reducible refine (rof_calls a _ hra.1 hra.2 y m d HV.out HA.out).mono ?_
      rintro e1 w1 ⟨rfl, hb⟩
      have GB := Aside0.mk hb
      clear hb
      go_wp2_with fail
      with_reducible refine (rmonth_calls _ _ _).mono ?_
      rintro e2 w2 ⟨rfl, hb⟩
      have GB := Aside0.mk (below_step (below_alloc GB.out _) hb)
      clear hb
      go_wp2_with fail
      with_reducible refine (rnumber_calls _ _ _ _ _ HVV.out HMS.out).mono ?_
      rintro e4 w4 ⟨rfl, hb⟩
      have GB := Aside0.mk (below_step GB.out hb)
      clear hb
      go_wp2_with fail
      go_ret2
      exact ⟨rfl, GB.out⟩
  · have hyv : 1 ≤ y + (n * e) / 12 := by omega
    have hmv : 1 ≤ m + (n * e) % 12 ∧ m + (n * e) % 12 ≤ 12 := by omega
    have HE := Aside0.mk (HM.out.2 c1)
    have c2 : y + (n * e) / 12 ≤ 9999 := by
      have h := HR.out
      unfold Sea.monAdd at h
      rw [HE.out.1] at h
      split at h
      · assumption
      · cases h
    have hval : Cal.valid (y + (n * e) / 12) (m + (n * e) % 12) (Sea.cut (y + (n * e) / 12) (m + (n * e) % 12) d) := by
      have hq := Sea.mon_valid y m d (n * e) HV.out (by omega) (by rw [HE.out.1]; omega)
      rwa [HE.out.1, HE.out.2] at hq
    have hms : Cal.num (y + (n * e) / 12) (m + (n * e) % 12) (Sea.cut (y + (n * e) / 12) (m + (n * e) % 12) d) = v := by
      have h := HR.out
      unfold Sea.monAdd at h
      rw [HE.out.1, HE.out.2, if_pos c2] at h
      exact Option.some.inj h
    have HVV := Aside0.mk hval
    have HMS := Aside0.mk hms
    clear hval hms
    have hmo := Cal.mon_le (y + (n * e) / 12) (m + (n * e) % 12)
    by_cases c3 : Cal.mon (y + (n * e) / 12) (m + (n * e) % 12) < d
    · have hcut : Sea.cut (y + (n * e) / 12) (m + (n * e) % 12) d = Cal.mon (y + (n * e) / 12) (m + (n * e) % 12) := by unfold Sea.cut; split <;> omega
      rw [hcut] at HVV HMS
      clear hcut
      go_enter Try.func11, Try.ntmps11
      go_wp2_with fail
      with_reducible refine (rof_calls a _ hra.1 hra.2 y m d HV.out HA.out).mono ?_
      rintro e1 w1 ⟨rfl, hb⟩
      have GB := Aside0.mk hb
      clear hb
      go_wp2_with fail
      with_reducible refine (rmonth_calls _ _ _).mono ?_
      rintro e2 w2 ⟨rfl, hb⟩
      have GB := Aside0.mk (below_step (below_alloc GB.out _) hb)
      clear hb
      go_wp2_with fail
      with_reducible refine (rmonth_calls _ _ _).mono ?_
      rintro e3 w3 ⟨rfl, hb⟩
      have GB := Aside0.mk (below_step GB.out hb)
      clear hb
      go_wp2_with fail
      with_reducible refine (rnumber_calls _ _ _ _ _ HVV.out HMS.out).mono ?_
      rintro e4 w4 ⟨rfl, hb⟩
      have GB := Aside0.mk (below_step GB.out hb)
      clear hb
      go_wp2_with fail
      go_ret2
      exact ⟨rfl, GB.out⟩
    · have hcut : Sea.cut (y + (n * e) / 12) (m + (n * e) % 12) d = d := by unfold Sea.cut; split <;> omega
      rw [hcut] at HVV HMS
      clear hcut
      go_enter Try.func11, Try.ntmps11
      go_wp2_with fail
      with_reducible refine (rof_calls a _ hra.1 hra.2 y m d HV.out HA.out).mono ?_
      rintro e1 w1 ⟨rfl, hb⟩
      have GB := Aside0.mk hb
      clear hb
      go_wp2_with fail
      with_reducible refine (rmonth_calls _ _ _).mono ?_
      rintro e2 w2 ⟨rfl, hb⟩
      have GB := Aside0.mk (below_step (below_alloc GB.out _) hb)
      clear hb
      go_wp2_with fail
      with_reducible refine (rnumber_calls _ _ _ _ _ HVV.out HMS.out).mono ?_
      rintro e4 w4 ⟨rfl, hb⟩
      have GB := Aside0.mk (below_step GB.out hb)
      clear hb
      go_wp2_with fail
      go_ret2
      exact ⟨rfl, GB.out⟩
set_option maxHeartbeats 8000000 in
theorem rnth_none3 (a y m d e n : Int) (w : World) (hv : Cal.valid y m d) (ha : Cal.num y m d = a) (hp : 0 ≤ n * e ∧ n * e ≤ 3652058000) (hm : Sea.monAdd y m d (12 * (n * e)) = none) :
    Calls Try.prog 11 #[.int .i64 a, .int .u8 3, .int .i64 e, .int .i64 n] w fun ee w' => ee = .returned (.tuple #[.int .i64 0, .bool false]) ∧ Below w.heap.size w w' := by
  have hr := Cal.num_range y m d hv
  have hv0 := hv
  obtain ⟨v1, v2, v3, v4, v5, v6⟩ := hv0
  have HV := Aside0.mk hv
  have HA := Aside0.mk ha
  have HM := Aside0.mk (Sea.mon_split y m (12 * (n * e)) v3 v4 (by omega))
  have HR := Aside0.mk hm
  have hra : 0 ≤ a ∧ a ≤ 3652058 := by omega
  clear hv ha hr hm
  by_cases c1 : 12 < m + (12 * (n * e)) % 12
  · exfalso; omega
  · have hyv : 1 ≤ y + n * e := by omega
    have hmv : 1 ≤ m ∧ m ≤ 12 := by omega
    have HE : Aside0 (y + (m - 1 + 12 * (n * e)) / 12 = y + n * e ∧ (m - 1 + 12 * (n * e)) % 12 + 1 = m) := ⟨by omega, by omega⟩
    have c2 : 9999 < y + n * e := by
      have h := HR.out
      unfold Sea.monAdd at h
      rw [HE.out.1] at h
      split at h
      · cases h
      · omega
    go_enter Try.func11, Try.ntmps11
    go_wp2_with fail
    with_reducible refine (rof_calls a _ hra.1 hra.2 y m d HV.out HA.out).mono ?_
    rintro e1 w1 ⟨rfl, hb⟩
    have GB := Aside0.mk hb
    clear hb
    go_wp2_with fail
    go_ret2
    exact ⟨rfl, below_alloc GB.out _⟩
set_option maxHeartbeats 8000000 in
theorem rnth_some3 (a y m d e n v : Int) (w : World) (hv : Cal.valid y m d) (ha : Cal.num y m d = a) (hp : 0 ≤ n * e ∧ n * e ≤ 3652058000) (hm : Sea.monAdd y m d (12 * (n * e)) = some v) :
    Calls Try.prog 11 #[.int .i64 a, .int .u8 3, .int .i64 e, .int .i64 n] w fun ee w' => ee = .returned (.tuple #[.int .i64 v, .bool true]) ∧ Below w.heap.size w w' := by
  have hr := Cal.num_range y m d hv
  have hv0 := hv
  obtain ⟨v1, v2, v3, v4, v5, v6⟩ := hv0
  have HV := Aside0.mk hv
  have HA := Aside0.mk ha
  have HM := Aside0.mk (Sea.mon_split y m (12 * (n * e)) v3 v4 (by omega))
  have HR := Aside0.mk hm
  have hra : 0 ≤ a ∧ a ≤ 3652058 := by omega
  clear hv ha hr hm
  by_cases c1 : 12 < m + (12 * (n * e)) % 12
  · exfalso; omega
  · have hyv : 1 ≤ y + n * e := by omega
    have hmv : 1 ≤ m ∧ m ≤ 12 := by omega
    have HE : Aside0 (y + (m - 1 + 12 * (n * e)) / 12 = y + n * e ∧ (m - 1 + 12 * (n * e)) % 12 + 1 = m) := ⟨by omega, by omega⟩
    have c2 : y + n * e ≤ 9999 := by
      have h := HR.out
      unfold Sea.monAdd at h
      rw [HE.out.1] at h
      split at h
      · assumption
      · cases h
    have hval : Cal.valid (y + n * e) (m) (Sea.cut (y + n * e) (m) d) := by
      have hq := Sea.mon_valid y m d (12 * (n * e)) HV.out (by omega) (by rw [HE.out.1]; omega)
      rwa [HE.out.1, HE.out.2] at hq
    have hms : Cal.num (y + n * e) (m) (Sea.cut (y + n * e) (m) d) = v := by
      have h := HR.out
      unfold Sea.monAdd at h
      rw [HE.out.1, HE.out.2, if_pos c2] at h
      exact Option.some.inj h
    have HVV := Aside0.mk hval
    have HMS := Aside0.mk hms
    clear hval hms
    have hmo := Cal.mon_le (y + n * e) (m)
    by_cases c3 : Cal.mon (y + n * e) (m) < d
    · have hcut : Sea.cut (y + n * e) (m) d = Cal.mon (y + n * e) (m) := by unfold Sea.cut; split <;> omega
      rw [hcut] at HVV HMS
      clear hcut
      go_enter Try.func11, Try.ntmps11
      go_wp2_with fail
      with_reducible refine (rof_calls a _ hra.1 hra.2 y m d HV.out HA.out).mono ?_
      rintro e1 w1 ⟨rfl, hb⟩
      have GB := Aside0.mk hb
      clear hb
      go_wp2_with fail
      with_reducible refine (rmonth_calls _ _ _).mono ?_
      rintro e2 w2 ⟨rfl, hb⟩
      have GB := Aside0.mk (below_step (below_alloc GB.out _) hb)
      clear hb
      go_wp2_with fail
      with_reducible refine (rmonth_calls _ _ _).mono ?_
      rintro e3 w3 ⟨rfl, hb⟩
      have GB := Aside0.mk (below_step GB.out hb)
      clear hb
      go_wp2_with fail
      with_reducible refine (rnumber_calls _ _ _ _ _ HVV.out HMS.out).mono ?_
      rintro e4 w4 ⟨rfl, hb⟩
      have GB := Aside0.mk (below_step GB.out hb)
      clear hb
      go_wp2_with fail
      go_ret2
      exact ⟨rfl, GB.out⟩
    · have hcut : Sea.cut (y + n * e) (m) d = d := by unfold Sea.cut; split <;> omega
      rw [hcut] at HVV HMS
      clear hcut
      go_enter Try.func11, Try.ntmps11
      go_wp2_with fail
      with_reducible refine (rof_calls a _ hra.1 hra.2 y m d HV.out HA.out).mono ?_
      rintro e1 w1 ⟨rfl, hb⟩
      have GB := Aside0.mk hb
      clear hb
      go_wp2_with fail
      with_reducible refine (rmonth_calls _ _ _).mono ?_
      rintro e2 w2 ⟨rfl, hb⟩
      have GB := Aside0.mk (below_step (below_alloc GB.out _) hb)
      clear hb
      go_wp2_with fail
      with_reducible refine (rnumber_calls _ _ _ _ _ HVV.out HMS.out).mono ?_
      rintro e4 w4 ⟨rfl, hb⟩
      have GB := Aside0.mk (below_step GB.out hb)
      clear hb
      go_wp2_with fail
      go_ret2
      exact ⟨rfl, GB.out⟩
theorem mul7 (n e : Int) : 7 * n * e = n * e * 7 := by rw [Int.mul_assoc, Int.mul_comm]
theorem rnth_some (a y m d u e n v : Int) (w : World) (hv : Cal.valid y m d) (ha : Cal.num y m d = a) (hu : 0 ≤ u ∧ u ≤ 3) (he : 1 ≤ e ∧ e ≤ 1000) (hn : 0 ≤ n ∧ n ≤ 3652058) (hr : Sea.nth a y m d u e n = some v) :
    Calls Try.prog 11 #[.int .i64 a, .int .u8 u, .int .i64 e, .int .i64 n] w fun ee w' => ee = .returned (.tuple #[.int .i64 v, .bool true]) ∧ Below w.heap.size w w' := by
  have hb := Sea.mul_bd n e 3652058 1000 hn.1 hn.2 he.1 he.2
  have hra := Cal.num_range y m d hv
  rcases (show u = 0 ∨ u = 1 ∨ u = 2 ∨ u = 3 by omega) with rfl | rfl | rfl | rfl
  · by_cases h : a + n * e ≤ 3652058
    · rw [Sea.days_some a y m d e n h] at hr
      obtain rfl := Option.some.inj hr
      have := rnth_days a e n w (by omega) (by omega)
      rwa [decide_eq_true h] at this
    · rw [Sea.days_none a y m d e n h] at hr; cases hr
  · by_cases h : a + n * e * 7 ≤ 3652058
    · rw [Sea.weeks_some a y m d e n h] at hr
      obtain rfl := Option.some.inj hr
      have := rnth_weeks a e n w (by omega) (by omega) (by omega) (by rw [mul7]; omega)
      rwa [mul7, decide_eq_true h] at this
    · rw [Sea.weeks_none a y m d e n h] at hr; cases hr
  · rw [Sea.months_eq] at hr
    exact rnth_some2 a y m d e n v w hv ha (by omega) hr
  · rw [Sea.years_eq, Int.mul_comm] at hr
    exact rnth_some3 a y m d e n v w hv ha (by omega) hr
theorem rnth_none (a y m d u e n : Int) (w : World) (hv : Cal.valid y m d) (ha : Cal.num y m d = a) (hu : 0 ≤ u ∧ u ≤ 3) (he : 1 ≤ e ∧ e ≤ 1000) (hn : 0 ≤ n ∧ n ≤ 3652058) (hr : Sea.nth a y m d u e n = none) :
    Calls Try.prog 11 #[.int .i64 a, .int .u8 u, .int .i64 e, .int .i64 n] w fun ee w' => ee = .returned (.tuple #[.int .i64 (Sea.rz a u e n), .bool false]) ∧ Below w.heap.size w w' := by
  have hb := Sea.mul_bd n e 3652058 1000 hn.1 hn.2 he.1 he.2
  have hra := Cal.num_range y m d hv
  rcases (show u = 0 ∨ u = 1 ∨ u = 2 ∨ u = 3 by omega) with rfl | rfl | rfl | rfl
  · by_cases h : a + n * e ≤ 3652058
    · rw [Sea.days_some a y m d e n h] at hr; cases hr
    · have := rnth_days a e n w (by omega) (by omega)
      rw [decide_eq_false h] at this
      rwa [show Sea.rz a 0 e n = a + n * e from by unfold Sea.rz Sea.off; simp]
  · by_cases h : a + n * e * 7 ≤ 3652058
    · rw [Sea.weeks_some a y m d e n h] at hr; cases hr
    · have := rnth_weeks a e n w (by omega) (by omega) (by omega) (by rw [mul7]; omega)
      rw [mul7, decide_eq_false h] at this
      rwa [show Sea.rz a 1 e n = a + n * e * 7 from by unfold Sea.rz Sea.off; simp]
  · rw [Sea.months_eq] at hr
    exact rnth_none2 a y m d e n w hv ha (by omega) hr
  · rw [Sea.years_eq, Int.mul_comm] at hr
    exact rnth_none3 a y m d e n w hv ha (by omega) hr
theorem v1 : Cal.valid 2023 1 31 ∧ Cal.num 2023 1 31 = 738550 := by unfold Cal.valid; decide
theorem v2 : Cal.valid 2023 2 28 ∧ Cal.num 2023 2 28 = 738578 := by unfold Cal.valid; decide
theorem v3 : Cal.valid 2023 3 31 ∧ Cal.num 2023 3 31 = 738609 := by unfold Cal.valid; decide
theorem n1 : Sea.out (Sea.nth 738550 2023 1 31 2 1 1) = (738578, 0) := by decide
theorem n2 : Sea.out (Sea.nth 738550 2023 1 31 2 1 2) = (738609, 0) := by decide
set_option maxHeartbeats 4000000 in
theorem awake_calls (w : World) : Calls Try.prog 12 #[] w fun e w' => e = .returned (.bool true) ∧ Below w.heap.size w w' := by
  go_enter Try.func12, Try.ntmps12
  go_wp2_with fail
  with_reducible refine (rnumber_calls 2023 1 31 738550 _ v1.1 v1.2).mono ?_
  rintro e w1 ⟨rfl, hb⟩
  have GB := Aside0.mk hb
  clear hb
  go_wp2_with fail
  with_reducible refine (snth_calls 738550 2023 1 31 2 1 1 _ v1.1 v1.2 (by omega) (by omega) (by omega) _ _ n1).mono ?_
  rintro e w2 ⟨rfl, hb⟩
  have GB := Aside0.mk (below_step GB.out hb)
  clear hb
  go_wp2_with fail
  with_reducible refine (snth_calls 738550 2023 1 31 2 1 2 _ v1.1 v1.2 (by omega) (by omega) (by omega) _ _ n2).mono ?_
  rintro e w3 ⟨rfl, hb⟩
  have GB := Aside0.mk (below_step GB.out hb)
  clear hb
  go_wp2_with fail
  with_reducible refine (rof_calls 738578 _ (by omega) (by omega) 2023 2 28 v2.1 v2.2).mono ?_
  rintro e w4 ⟨rfl, hb⟩
  have GB := Aside0.mk (below_step GB.out hb)
  clear hb
  go_wp2_with fail
  with_reducible refine (rof_calls 738609 _ (by omega) (by omega) 2023 3 31 v3.1 v3.2).mono ?_
  rintro e w5 ⟨rfl, hb⟩
  have GB := Aside0.mk (below_step GB.out hb)
  clear hb
  go_wp2_with fail
  go_ret
  exact ⟨rfl, GB.out⟩
end Go.Proofs.Ythninollljphoaa.Pure
