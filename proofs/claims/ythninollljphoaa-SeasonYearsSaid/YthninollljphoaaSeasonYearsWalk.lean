/- The walk of SeasonYears: twelve months are a year, seven days a week, for every anchor, length and number. -/
import Derived.Test.YthninollljphoaaSeasonNthWalk
import Derived.OpenShut
set_option linter.unusedVariables false
set_option linter.unusedSimpArgs false
namespace Go.Proofs.Ythninollljphoaa.Pure
open Go.RowKit Go.Proofs.Ythninollljphoaa.PSpan Go.Proofs.Ythninollljphoaa.PNumber Go.Proofs.YthninollljphoaaW.PrintWords Go.Proofs.YthninollljphoaaW.PrintLast
open Go.Proofs.Ythninollljphoaa
attribute [local go_sem] setCell_map
theorem years_off (a y m d e n : Int) : Sea.nth a y m d 3 e n = Sea.nth a y m d 2 (12 * e) n ∧ Sea.nth a y m d 1 e n = Sea.nth a y m d 0 (7 * e) n := by
  have h1 : n * e * 12 = n * (12 * e) := by rw [Int.mul_comm 12 e, Int.mul_assoc]
  have h2 : n * e * 7 = n * (7 * e) := by rw [Int.mul_comm 7 e, Int.mul_assoc]
  unfold Sea.nth Sea.off
  simp [h1, h2]
set_option maxHeartbeats 4000000 in
theorem seasonYears_calls (a0 e0 n0 : Int) (w : World) (w0 : (Lit.int .u32 a0).wf = true) (w1 : (Lit.int .u8 e0).wf = true) (w2 : (Lit.int .u8 n0).wf = true) :
    Calls Try.prog 7 #[.int .u32 a0, .int .u8 e0, .int .u8 n0] w fun e w' => e = .returned (.bool true) ∧ Below w.heap.size w w' := by
  have b0 := bounds_u32 w0
  have b1 := bounds_u8 w1
  have b2 := bounds_u8 w2
  clear w0 w1 w2
  obtain ⟨y, m, d, _, g2, g3⟩ := of_yes 11000 (by omega) (a0 % 3652059) (by omega) (by omega)
  have HV := Aside0.mk g2
  have HN := Aside0.mk g3
  clear g2 g3
  have hy := years_off (a0 % 3652059) y m d (1 + e0 % 20) n0
  obtain ⟨⟨r1, r2⟩, hr⟩ : ∃ r, Sea.out (Sea.nth (a0 % 3652059) y m d 3 (1 + e0 % 20) n0) = r := ⟨_, rfl⟩
  obtain ⟨⟨s1, s2⟩, hs⟩ : ∃ r, Sea.out (Sea.nth (a0 % 3652059) y m d 1 (1 + e0 % 20) n0) = r := ⟨_, rfl⟩
  have HR := Aside0.mk hr
  have HS := Aside0.mk hs
  have HR2 : Aside0 (Sea.out (Sea.nth (a0 % 3652059) y m d 2 (12 * (1 + e0 % 20)) n0) = (r1, r2)) := ⟨by rw [← hy.1, hr]⟩
  have HS2 : Aside0 (Sea.out (Sea.nth (a0 % 3652059) y m d 0 (7 * (1 + e0 % 20)) n0) = (s1, s2)) := ⟨by rw [← hy.2, hs]⟩
  clear hr hs hy
  go_enter Try.func7, Try.ntmps7
  go_wp2_with fail
  with_reducible refine (snth_calls _ y m d _ _ _ _ HV.out HN.out (by omega) (by omega) (by omega) _ _ HR.out).mono ?_
  rintro e w1 ⟨rfl, hb⟩
  have GB := Aside0.mk hb
  clear hb
  go_wp2_with fail
  with_reducible refine (snth_calls _ y m d _ _ _ _ HV.out HN.out (by omega) (by omega) (by omega) _ _ HR2.out).mono ?_
  rintro e w2 ⟨rfl, hb⟩
  have GB := Aside0.mk (below_step GB.out hb)
  clear hb
  go_wp2_with fail
  with_reducible refine (snth_calls _ y m d _ _ _ _ HV.out HN.out (by omega) (by omega) (by omega) _ _ HS.out).mono ?_
  rintro e w3 ⟨rfl, hb⟩
  have GB := Aside0.mk (below_step GB.out hb)
  clear hb
  go_wp2_with fail
  with_reducible refine (snth_calls _ y m d _ _ _ _ HV.out HN.out (by omega) (by omega) (by omega) _ _ HS2.out).mono ?_
  rintro e w4 ⟨rfl, hb⟩
  have GB := Aside0.mk (below_step GB.out hb)
  clear hb
  go_wp2_with fail
  with_reducible refine (awake_calls _).mono ?_
  rintro e w5 ⟨rfl, hb⟩
  have GB := Aside0.mk (below_step GB.out hb)
  clear hb
  go_wp2_with fail
  go_ret
  exact ⟨by first | rfl | (simp; done), GB.out⟩
end Go.Proofs.Ythninollljphoaa.Pure
