/- The walk of SeasonNths: the first day of any period is the reference's, for every anchor, unit, length and number that the statement lets in. -/
import Derived.Test.YthninollljphoaaSeasonNthWalk
import Derived.OpenShut
set_option linter.unusedVariables false
set_option linter.unusedSimpArgs false
namespace Go.Proofs.Ythninollljphoaa.Pure
open Go.RowKit Go.Proofs.Ythninollljphoaa.PSpan Go.Proofs.Ythninollljphoaa.PNumber Go.Proofs.YthninollljphoaaW.PrintWords Go.Proofs.YthninollljphoaaW.PrintLast
open Go.Proofs.Ythninollljphoaa
attribute [local go_sem] setCell_map
set_option maxHeartbeats 4000000 in
theorem seasonNths_calls (a0 u0 e0 n0 : Int) (w : World) (w0 : (Lit.int .u32 a0).wf = true) (w1 : (Lit.int .u8 u0).wf = true) (w2 : (Lit.int .u16 e0).wf = true) (w3 : (Lit.int .u16 n0).wf = true) :
    Calls Try.prog 3 #[.int .u32 a0, .int .u8 u0, .int .u16 e0, .int .u16 n0] w fun e w' => e = .returned (.bool true) ∧ Below w.heap.size w w' := by
  have b0 := bounds_u32 w0
  have b1 := bounds_u8 w1
  have b2 := bounds_u16 w2
  have b3 := bounds_u16 w3
  clear w0 w1 w2 w3
  obtain ⟨y, m, d, _, g2, g3⟩ := of_yes 11000 (by omega) (a0 % 3652059) (by omega) (by omega)
  have HV := Aside0.mk g2
  have HN := Aside0.mk g3
  clear g2 g3
  cases hc : Sea.nth (a0 % 3652059) y m d (u0 % 4) (1 + e0 % 1000) (n0 % 20000) with
  | none =>
    have HC := Aside0.mk hc
    have HO : Aside0 (Sea.out (Sea.nth (a0 % 3652059) y m d (u0 % 4) (1 + e0 % 1000) (n0 % 20000)) = (0, 6)) := ⟨by rw [hc]; rfl⟩
    clear hc
    go_enter Try.func3, Try.ntmps3
    go_wp2_with fail
    with_reducible refine (snth_calls _ y m d _ _ _ _ HV.out HN.out (by omega) (by omega) (by omega) _ _ HO.out).mono ?_
    rintro e w1 ⟨rfl, hb⟩
    have GB := Aside0.mk hb
    clear hb
    go_wp2_with fail
    with_reducible refine (rnth_none _ y m d _ _ _ _ HV.out HN.out (by omega) (by omega) (by omega) HC.out).mono ?_
    rintro e w2 ⟨rfl, hb⟩
    have GB := Aside0.mk (below_step GB.out hb)
    clear hb
    go_wp2_with fail
    with_reducible refine (awake_calls _).mono ?_
    rintro e w3 ⟨rfl, hb⟩
    have GB := Aside0.mk (below_step GB.out hb)
    clear hb
    go_wp2_with fail
    go_ret
    exact ⟨rfl, GB.out⟩
  | some v =>
    have HC := Aside0.mk hc
    have HO : Aside0 (Sea.out (Sea.nth (a0 % 3652059) y m d (u0 % 4) (1 + e0 % 1000) (n0 % 20000)) = (v, 0)) := ⟨by rw [hc]; rfl⟩
    clear hc
    go_enter Try.func3, Try.ntmps3
    go_wp2_with fail
    with_reducible refine (snth_calls _ y m d _ _ _ _ HV.out HN.out (by omega) (by omega) (by omega) _ _ HO.out).mono ?_
    rintro e w1 ⟨rfl, hb⟩
    have GB := Aside0.mk hb
    clear hb
    go_wp2_with fail
    with_reducible refine (rnth_some _ y m d _ _ _ v _ HV.out HN.out (by omega) (by omega) (by omega) HC.out).mono ?_
    rintro e w2 ⟨rfl, hb⟩
    have GB := Aside0.mk (below_step GB.out hb)
    clear hb
    go_wp2_with fail
    with_reducible refine (awake_calls _).mono ?_
    rintro e w3 ⟨rfl, hb⟩
    have GB := Aside0.mk (below_step GB.out hb)
    clear hb
    go_wp2_with fail
    go_ret
    exact ⟨rfl, GB.out⟩
end Go.Proofs.Ythninollljphoaa.Pure
