/- The walk of SeasonSums: days and weeks go on evenly, for every anchor, length and numbers. -/
import Derived.Test.YthninollljphoaaSeasonNthWalk
import Derived.OpenShut
set_option linter.unusedVariables false
set_option linter.unusedSimpArgs false
namespace Go.Proofs.Ythninollljphoaa.Pure
open Go.RowKit Go.Proofs.Ythninollljphoaa.PSpan Go.Proofs.Ythninollljphoaa.PNumber Go.Proofs.YthninollljphoaaW.PrintWords Go.Proofs.YthninollljphoaaW.PrintLast
open Go.Proofs.Ythninollljphoaa
attribute [local go_sem] setCell_map
theorem day_of (n : Int) (h : 0 ≤ n ∧ n ≤ 3652058) : ∃ y m d, Cal.valid y m d ∧ Cal.num y m d = n := by
  obtain ⟨y, m, d, _, g2, g3⟩ := of_yes 11000 (by omega) n h.1 h.2
  exact ⟨y, m, d, g2, g3⟩
theorem add_mul' (n k e : Int) : (n + k) * e = n * e + k * e := Int.add_mul n k e
set_option maxHeartbeats 4000000 in
theorem sums_weeks (a0 e0 n0 m0 : Int) (w : World) (b0 : 0 ≤ a0 ∧ a0 ≤ 4294967295) (b1 : 0 ≤ e0 ∧ e0 ≤ 255) (b2 : 0 ≤ n0 ∧ n0 ≤ 255) (b3 : 0 ≤ m0 ∧ m0 ≤ 255) :
    Calls Try.prog 6 #[.int .u32 a0, .bool true, .int .u8 e0, .int .u8 n0, .int .u8 m0] w fun e w' => e = .returned (.bool true) ∧ Below w.heap.size w w' := by
  have p1 := Sea.mul_bd n0 (1 + e0 % 20) 255 20 b2.1 b2.2 (by omega) (by omega)
  have p2 := Sea.mul_bd m0 (1 + e0 % 20) 255 20 b3.1 b3.2 (by omega) (by omega)
  have p3 := add_mul' n0 m0 (1 + e0 % 20)
  obtain ⟨y, m, d, hv, hn⟩ := day_of (a0 % 3000000) (by omega)
  obtain ⟨y', m', d', hv', hn'⟩ := day_of (a0 % 3000000 + n0 * (1 + e0 % 20) * 7) (by omega)
  have h1 : Sea.out (Sea.nth (a0 % 3000000) y m d 1 (1 + e0 % 20) n0) = ((a0 % 3000000 + n0 * (1 + e0 % 20) * 7), 0) := by rw [Sea.weeks_some _ _ _ _ _ _ (by omega)]; rfl
  have h2 : Sea.out (Sea.nth (a0 % 3000000 + n0 * (1 + e0 % 20) * 7) y' m' d' 1 (1 + e0 % 20) m0) = ((a0 % 3000000 + n0 * (1 + e0 % 20) * 7 + m0 * (1 + e0 % 20) * 7), 0) := by rw [Sea.weeks_some _ _ _ _ _ _ (by omega)]; rfl
  have h3 : Sea.out (Sea.nth (a0 % 3000000) y m d 1 (1 + e0 % 20) (n0 + m0)) = ((a0 % 3000000 + n0 * (1 + e0 % 20) * 7 + m0 * (1 + e0 % 20) * 7), 0) := by rw [Sea.weeks_some _ _ _ _ _ _ (by omega)]; simp only [Sea.out]; congr 1; omega
  have HV := Aside0.mk hv
  have HN := Aside0.mk hn
  have HV' := Aside0.mk hv'
  have HN' := Aside0.mk hn'
  have H1 := Aside0.mk h1
  have H2 := Aside0.mk h2
  have H3 := Aside0.mk h3
  clear hv hn hv' hn' h1 h2 h3 p1 p2 p3
  generalize (a0 % 3000000 + n0 * (1 + e0 % 20) * 7 + m0 * (1 + e0 % 20) * 7) = z at H2 H3
  generalize (a0 % 3000000 + n0 * (1 + e0 % 20) * 7) = x at H1 H2 HN'
  go_enter Try.func6, Try.ntmps6
  go_wp2_with fail
  with_reducible refine (snth_calls _ y m d _ _ _ _ HV.out HN.out (by omega) (by omega) (by omega) _ _ H1.out).mono ?_
  rintro e w1 ⟨rfl, hb⟩
  have GB := Aside0.mk hb
  clear hb
  go_wp2_with fail
  with_reducible refine (snth_calls _ y' m' d' _ _ _ _ HV'.out HN'.out (by omega) (by omega) (by omega) _ _ H2.out).mono ?_
  rintro e w2 ⟨rfl, hb⟩
  have GB := Aside0.mk (below_step GB.out hb)
  clear hb
  go_wp2_with fail
  with_reducible refine (snth_calls _ y m d _ _ _ _ HV.out HN.out (by omega) (by omega) (by omega) _ _ H3.out).mono ?_
  rintro e w3 ⟨rfl, hb⟩
  have GB := Aside0.mk (below_step GB.out hb)
  clear hb
  go_wp2_with fail
  with_reducible refine (awake_calls _).mono ?_
  rintro e w4 ⟨rfl, hb⟩
  have GB := Aside0.mk (below_step GB.out hb)
  clear hb
  go_wp2_with fail
  go_ret
  exact ⟨by first | rfl | (simp; done), GB.out⟩
set_option maxHeartbeats 4000000 in
theorem sums_days (a0 e0 n0 m0 : Int) (w : World) (b0 : 0 ≤ a0 ∧ a0 ≤ 4294967295) (b1 : 0 ≤ e0 ∧ e0 ≤ 255) (b2 : 0 ≤ n0 ∧ n0 ≤ 255) (b3 : 0 ≤ m0 ∧ m0 ≤ 255) :
    Calls Try.prog 6 #[.int .u32 a0, .bool false, .int .u8 e0, .int .u8 n0, .int .u8 m0] w fun e w' => e = .returned (.bool true) ∧ Below w.heap.size w w' := by
  have p1 := Sea.mul_bd n0 (1 + e0 % 20) 255 20 b2.1 b2.2 (by omega) (by omega)
  have p2 := Sea.mul_bd m0 (1 + e0 % 20) 255 20 b3.1 b3.2 (by omega) (by omega)
  have p3 := add_mul' n0 m0 (1 + e0 % 20)
  obtain ⟨y, m, d, hv, hn⟩ := day_of (a0 % 3000000) (by omega)
  obtain ⟨y', m', d', hv', hn'⟩ := day_of (a0 % 3000000 + n0 * (1 + e0 % 20)) (by omega)
  have h1 : Sea.out (Sea.nth (a0 % 3000000) y m d 0 (1 + e0 % 20) n0) = ((a0 % 3000000 + n0 * (1 + e0 % 20)), 0) := by rw [Sea.days_some _ _ _ _ _ _ (by omega)]; rfl
  have h2 : Sea.out (Sea.nth (a0 % 3000000 + n0 * (1 + e0 % 20)) y' m' d' 0 (1 + e0 % 20) m0) = ((a0 % 3000000 + n0 * (1 + e0 % 20) + m0 * (1 + e0 % 20)), 0) := by rw [Sea.days_some _ _ _ _ _ _ (by omega)]; rfl
  have h3 : Sea.out (Sea.nth (a0 % 3000000) y m d 0 (1 + e0 % 20) (n0 + m0)) = ((a0 % 3000000 + n0 * (1 + e0 % 20) + m0 * (1 + e0 % 20)), 0) := by rw [Sea.days_some _ _ _ _ _ _ (by omega)]; simp only [Sea.out]; congr 1; omega
  have HV := Aside0.mk hv
  have HN := Aside0.mk hn
  have HV' := Aside0.mk hv'
  have HN' := Aside0.mk hn'
  have H1 := Aside0.mk h1
  have H2 := Aside0.mk h2
  have H3 := Aside0.mk h3
  clear hv hn hv' hn' h1 h2 h3 p1 p2 p3
  generalize (a0 % 3000000 + n0 * (1 + e0 % 20) + m0 * (1 + e0 % 20)) = z at H2 H3
  generalize (a0 % 3000000 + n0 * (1 + e0 % 20)) = x at H1 H2 HN'
  go_enter Try.func6, Try.ntmps6
  go_wp2_with fail
  with_reducible refine (snth_calls _ y m d _ _ _ _ HV.out HN.out (by omega) (by omega) (by omega) _ _ H1.out).mono ?_
  rintro e w1 ⟨rfl, hb⟩
  have GB := Aside0.mk hb
  clear hb
  go_wp2_with fail
  with_reducible refine (snth_calls _ y' m' d' _ _ _ _ HV'.out HN'.out (by omega) (by omega) (by omega) _ _ H2.out).mono ?_
  rintro e w2 ⟨rfl, hb⟩
  have GB := Aside0.mk (below_step GB.out hb)
  clear hb
  go_wp2_with fail
  with_reducible refine (snth_calls _ y m d _ _ _ _ HV.out HN.out (by omega) (by omega) (by omega) _ _ H3.out).mono ?_
  rintro e w3 ⟨rfl, hb⟩
  have GB := Aside0.mk (below_step GB.out hb)
  clear hb
  go_wp2_with fail
  with_reducible refine (awake_calls _).mono ?_
  rintro e w4 ⟨rfl, hb⟩
  have GB := Aside0.mk (below_step GB.out hb)
  clear hb
  go_wp2_with fail
  go_ret
  exact ⟨by first | rfl | (simp; done), GB.out⟩
theorem seasonSums_calls (a0 : Int) (b : Bool) (e0 n0 m0 : Int) (w : World) (w0 : (Lit.int .u32 a0).wf = true) (w1 : (Lit.int .u8 e0).wf = true) (w2 : (Lit.int .u8 n0).wf = true) (w3 : (Lit.int .u8 m0).wf = true) :
    Calls Try.prog 6 #[.int .u32 a0, .bool b, .int .u8 e0, .int .u8 n0, .int .u8 m0] w fun e w' => e = .returned (.bool true) ∧ Below w.heap.size w w' := by
  cases b
  · exact sums_days a0 e0 n0 m0 w (bounds_u32 w0) (bounds_u8 w1) (bounds_u8 w2) (bounds_u8 w3)
  · exact sums_weeks a0 e0 n0 m0 w (bounds_u32 w0) (bounds_u8 w1) (bounds_u8 w2) (bounds_u8 w3)
end Go.Proofs.Ythninollljphoaa.Pure
