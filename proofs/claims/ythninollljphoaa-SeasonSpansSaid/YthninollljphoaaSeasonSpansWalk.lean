/- The walk of SeasonSpans: the period in which a day lies, for every anchor, unit, length and gap that the statement lets in. -/
import Derived.Test.YthninollljphoaaSeasonCountBase
import Derived.OpenShut
set_option linter.unusedVariables false
set_option linter.unusedSimpArgs false
namespace Go.Proofs.Ythninollljphoaa.Pure
open Go.RowKit Go.Proofs.Ythninollljphoaa.PSpan Go.Proofs.Ythninollljphoaa.PNumber Go.Proofs.YthninollljphoaaW.PrintWords Go.Proofs.YthninollljphoaaW.PrintLast
open Go.Proofs.Ythninollljphoaa
attribute [local go_sem] setCell_map
theorem tmod_bd (g : Int) : -2999 ≤ Int.tmod g 3000 ∧ Int.tmod g 3000 ≤ 2999 := by
  have h1 := Int.tmod_lt_of_pos g (show (0 : Int) < 3000 by omega)
  have h2 := Int.lt_tmod_of_pos g (show (0 : Int) < 3000 by omega)
  omega
set_option maxHeartbeats 4000000 in
theorem spans_out (a0 u0 e0 g0 : Int) (w : World) (b0 : 0 ≤ a0 ∧ a0 ≤ 4294967295) (b1 : 0 ≤ u0 ∧ u0 ≤ 255) (b2 : 0 ≤ e0 ∧ e0 ≤ 255) (b3 : -32768 ≤ g0 ∧ g0 ≤ 32767) (hg : -2999 ≤ Int.tmod g0 3000 ∧ Int.tmod g0 3000 ≤ 2999)
    (hday : (a0 % 3652059 + Int.tmod g0 3000) < 0 ∨ 3652058 < (a0 % 3652059 + Int.tmod g0 3000)) :
    Calls Try.prog 9 #[.int .u32 a0, .int .u8 u0, .int .u8 e0, .int .i16 g0] w fun e w' => e = .returned (.bool true) ∧ Below w.heap.size w w' := by
  rcases hday with hday | hday
  · skip
    go_enter Try.func9, Try.ntmps9
    go_wp2_with fail
    with_reducible refine (awake_calls _).mono ?_
    rintro e w3 ⟨rfl, hb⟩
    have GB := Aside0.mk hb
    clear hb
    go_wp2_with fail
    go_ret
    exact ⟨by first | rfl | (simp; done), GB.out⟩
  · skip
    go_enter Try.func9, Try.ntmps9
    go_wp2_with fail
    with_reducible refine (awake_calls _).mono ?_
    rintro e w3 ⟨rfl, hb⟩
    have GB := Aside0.mk hb
    clear hb
    go_wp2_with fail
    go_ret
    exact ⟨by first | rfl | (simp; done), GB.out⟩
set_option maxHeartbeats 4000000 in
theorem spans_ahead (a0 u0 e0 g0 : Int) (w : World) (b0 : 0 ≤ a0 ∧ a0 ≤ 4294967295) (b1 : 0 ≤ u0 ∧ u0 ≤ 255) (b2 : 0 ≤ e0 ∧ e0 ≤ 255) (b3 : -32768 ≤ g0 ∧ g0 ≤ 32767) (hg : -2999 ≤ Int.tmod g0 3000 ∧ Int.tmod g0 3000 ≤ 2999)
    (hd1 : 0 ≤ (a0 % 3652059 + Int.tmod g0 3000)) (hd2 : (a0 % 3652059 + Int.tmod g0 3000) ≤ 3652058) (y m d : Int) (hv : Cal.valid y m d) (hn : Cal.num y m d = a0 % 3652059) (hlt : (a0 % 3652059 + Int.tmod g0 3000) < a0 % 3652059) (hc : Cnt (a0 % 3652059) y m d (u0 % 4) (1 + e0 % 50) (a0 % 3652059 + Int.tmod g0 3000) 0) :
    Calls Try.prog 9 #[.int .u32 a0, .int .u8 u0, .int .u8 e0, .int .i16 g0] w fun e w' => e = .returned (.bool true) ∧ Below w.heap.size w w' := by
  have HV := Aside0.mk hv
  have HN := Aside0.mk hn
  have HC := Aside0.mk hc
  clear hv hn hc
  go_enter Try.func9, Try.ntmps9
  go_wp2_with fail
  with_reducible refine (span_none _ y m d _ _ _ _ HV.out HN.out (by omega) (by omega) (by omega) HC.out).mono ?_
  rintro e w1 ⟨rfl, hb⟩
  have GB := Aside0.mk hb
  clear hb
  go_wp2_with fail
  with_reducible refine (awake_calls _).mono ?_
  rintro e w2 ⟨rfl, hb⟩
  have GB := Aside0.mk (below_step GB.out hb)
  clear hb
  go_wp2_with fail
  go_ret
  exact ⟨by first | rfl | (simp; done), GB.out⟩
set_option maxHeartbeats 4000000 in
theorem spans_last (a0 u0 e0 g0 : Int) (w : World) (b0 : 0 ≤ a0 ∧ a0 ≤ 4294967295) (b1 : 0 ≤ u0 ∧ u0 ≤ 255) (b2 : 0 ≤ e0 ∧ e0 ≤ 255) (b3 : -32768 ≤ g0 ∧ g0 ≤ 32767) (hg : -2999 ≤ Int.tmod g0 3000 ∧ Int.tmod g0 3000 ≤ 2999)
    (hd1 : 0 ≤ (a0 % 3652059 + Int.tmod g0 3000)) (hd2 : (a0 % 3652059 + Int.tmod g0 3000) ≤ 3652058) (y m d c v : Int) (hv : Cal.valid y m d) (hn : Cal.num y m d = a0 % 3652059) (hge : a0 % 3652059 ≤ (a0 % 3652059 + Int.tmod g0 3000)) (hc : Cnt (a0 % 3652059) y m d (u0 % 4) (1 + e0 % 50) (a0 % 3652059 + Int.tmod g0 3000) c) (hc1 : 1 ≤ c) (hc2 : c ≤ 3000) (hx : Sea.nth (a0 % 3652059) y m d (u0 % 4) (1 + e0 % 50) (c - 1) = some v) (hvd : v ≤ (a0 % 3652059 + Int.tmod g0 3000)) (hz : Sea.nth (a0 % 3652059) y m d (u0 % 4) (1 + e0 % 50) c = none) :
    Calls Try.prog 9 #[.int .u32 a0, .int .u8 u0, .int .u8 e0, .int .i16 g0] w fun e w' => e = .returned (.bool true) ∧ Below w.heap.size w w' := by
  have HX := Aside0.mk hx
  have HZ := Aside0.mk hz
  clear hx hz
  have HV := Aside0.mk hv
  have HN := Aside0.mk hn
  have HC := Aside0.mk hc
  clear hv hn hc
  go_enter Try.func9, Try.ntmps9
  go_wp2_with fail
  with_reducible refine (span_some _ y m d _ _ _ c v 0 0 6 _ HV.out HN.out (by omega) (by omega) (by omega) HC.out hc1 (by omega) HX.out (by rw [HZ.out])).mono ?_
  rintro e w1 ⟨rfl, hb⟩
  have GB := Aside0.mk hb
  clear hb
  go_wp2_with fail
  with_reducible refine (count_calls _ y m d _ _ _ c _ HV.out HN.out (by omega) (by omega) (by omega) HC.out).mono ?_
  rintro e w2 ⟨rfl, hb⟩
  have GB := Aside0.mk (below_step GB.out hb)
  clear hb
  go_wp2_with fail
  with_reducible refine (rnth_some _ y m d _ _ _ v _ HV.out HN.out (by omega) (by omega) (by omega) HX.out).mono ?_
  rintro e w3 ⟨rfl, hb⟩
  have GB := Aside0.mk (below_step GB.out hb)
  clear hb
  go_wp2_with fail
  with_reducible refine (rnth_none _ y m d _ _ _ _ HV.out HN.out (by omega) (by omega) (by omega) HZ.out).mono ?_
  rintro e w4 ⟨rfl, hb⟩
  have GB := Aside0.mk (below_step GB.out hb)
  clear hb
  go_wp2_with fail
  with_reducible refine (awake_calls _).mono ?_
  rintro e w5 ⟨rfl, hb⟩
  have GB := Aside0.mk (below_step GB.out hb)
  clear hb
  go_wp2_with fail
  go_ret
  exact ⟨by first | rfl | (simp; done), GB.out⟩
set_option maxHeartbeats 4000000 in
theorem spans_mid (a0 u0 e0 g0 : Int) (w : World) (b0 : 0 ≤ a0 ∧ a0 ≤ 4294967295) (b1 : 0 ≤ u0 ∧ u0 ≤ 255) (b2 : 0 ≤ e0 ∧ e0 ≤ 255) (b3 : -32768 ≤ g0 ∧ g0 ≤ 32767) (hg : -2999 ≤ Int.tmod g0 3000 ∧ Int.tmod g0 3000 ≤ 2999)
    (hd1 : 0 ≤ (a0 % 3652059 + Int.tmod g0 3000)) (hd2 : (a0 % 3652059 + Int.tmod g0 3000) ≤ 3652058) (y m d c v z : Int) (hv : Cal.valid y m d) (hn : Cal.num y m d = a0 % 3652059) (hge : a0 % 3652059 ≤ (a0 % 3652059 + Int.tmod g0 3000)) (hc : Cnt (a0 % 3652059) y m d (u0 % 4) (1 + e0 % 50) (a0 % 3652059 + Int.tmod g0 3000) c) (hc1 : 1 ≤ c) (hc2 : c ≤ 3000) (hx : Sea.nth (a0 % 3652059) y m d (u0 % 4) (1 + e0 % 50) (c - 1) = some v) (hvd : v ≤ (a0 % 3652059 + Int.tmod g0 3000)) (hz : Sea.nth (a0 % 3652059) y m d (u0 % 4) (1 + e0 % 50) c = some z) (hzd : (a0 % 3652059 + Int.tmod g0 3000) < z) :
    Calls Try.prog 9 #[.int .u32 a0, .int .u8 u0, .int .u8 e0, .int .i16 g0] w fun e w' => e = .returned (.bool true) ∧ Below w.heap.size w w' := by
  have HX := Aside0.mk hx
  have HZ := Aside0.mk hz
  clear hx hz
  have HV := Aside0.mk hv
  have HN := Aside0.mk hn
  have HC := Aside0.mk hc
  clear hv hn hc
  go_enter Try.func9, Try.ntmps9
  go_wp2_with fail
  with_reducible refine (span_some _ y m d _ _ _ c v v z 0 _ HV.out HN.out (by omega) (by omega) (by omega) HC.out hc1 (by omega) HX.out (by rw [HZ.out])).mono ?_
  rintro e w1 ⟨rfl, hb⟩
  have GB := Aside0.mk hb
  clear hb
  go_wp2_with fail
  with_reducible refine (count_calls _ y m d _ _ _ c _ HV.out HN.out (by omega) (by omega) (by omega) HC.out).mono ?_
  rintro e w2 ⟨rfl, hb⟩
  have GB := Aside0.mk (below_step GB.out hb)
  clear hb
  go_wp2_with fail
  with_reducible refine (rnth_some _ y m d _ _ _ v _ HV.out HN.out (by omega) (by omega) (by omega) HX.out).mono ?_
  rintro e w3 ⟨rfl, hb⟩
  have GB := Aside0.mk (below_step GB.out hb)
  clear hb
  go_wp2_with fail
  with_reducible refine (rnth_some _ y m d _ _ _ z _ HV.out HN.out (by omega) (by omega) (by omega) HZ.out).mono ?_
  rintro e w4 ⟨rfl, hb⟩
  have GB := Aside0.mk (below_step GB.out hb)
  clear hb
  go_wp2_with fail
  with_reducible refine (awake_calls _).mono ?_
  rintro e w5 ⟨rfl, hb⟩
  have GB := Aside0.mk (below_step GB.out hb)
  clear hb
  go_wp2_with fail
  go_ret
  exact ⟨by first | rfl | (simp; done), GB.out⟩
theorem seasonSpans_calls (a0 u0 e0 g0 : Int) (w : World) (w0 : (Lit.int .u32 a0).wf = true) (w1 : (Lit.int .u8 u0).wf = true) (w2 : (Lit.int .u8 e0).wf = true) (w3 : (Lit.int .i16 g0).wf = true) :
    Calls Try.prog 9 #[.int .u32 a0, .int .u8 u0, .int .u8 e0, .int .i16 g0] w fun e w' => e = .returned (.bool true) ∧ Below w.heap.size w w' := by
  have b0 := bounds_u32 w0
  have b1 := bounds_u8 w1
  have b2 := bounds_u8 w2
  have b3 := bounds_i16 w3
  have hg := tmod_bd g0
  by_cases hday : (a0 % 3652059 + Int.tmod g0 3000) < 0 ∨ 3652058 < (a0 % 3652059 + Int.tmod g0 3000)
  · exact spans_out a0 u0 e0 g0 w b0 b1 b2 b3 hg hday
  · obtain ⟨y, m, d, _, g2, g3⟩ := of_yes 11000 (by omega) (a0 % 3652059) (by omega) (by omega)
    obtain ⟨c, _, c2, c3⟩ := count_eq 4000000 (by omega) (a0 % 3652059) y m d (u0 % 4) (1 + e0 % 50) (a0 % 3652059 + Int.tmod g0 3000) g2 g3 (by omega) (by omega) (by omega)
    have hz := Sea.nth_zero (a0 % 3652059) y m d (u0 % 4) (1 + e0 % 50) g2 g3
    by_cases hlt : (a0 % 3652059 + Int.tmod g0 3000) < a0 % 3652059
    · have h0 : c = 0 := by
        by_cases q : c = 0
        · exact q
        · obtain ⟨v, v1, v2⟩ := c2.2.1 0 (by omega) (by have := c2.1; omega)
          rw [hz] at v1
          obtain rfl := Option.some.inj v1
          omega
      subst h0
      exact spans_ahead a0 u0 e0 g0 w b0 b1 b2 b3 hg (by omega) (by omega) y m d g2 g3 hlt c2
    · have h1 : 1 ≤ c := by
        by_cases q : c = 0
        · subst q
          exact absurd ⟨_, hz, by omega⟩ c2.2.2
        · have := c2.1; omega
      obtain ⟨v, v1, v2⟩ := c2.2.1 (c - 1) (by omega) (by omega)
      cases hcn : Sea.nth (a0 % 3652059) y m d (u0 % 4) (1 + e0 % 50) c with
      | none => exact spans_last a0 u0 e0 g0 w b0 b1 b2 b3 hg (by omega) (by omega) y m d c v g2 g3 (by omega) c2 h1 (by omega) v1 v2 hcn
      | some z =>
        have hzd : (a0 % 3652059 + Int.tmod g0 3000) < z := by
          by_cases q : z ≤ (a0 % 3652059 + Int.tmod g0 3000)
          · exact absurd ⟨z, hcn, q⟩ c2.2.2
          · omega
        exact spans_mid a0 u0 e0 g0 w b0 b1 b2 b3 hg (by omega) (by omega) y m d c v z g2 g3 (by omega) c2 h1 (by omega) v1 v2 hcn hzd
end Go.Proofs.Ythninollljphoaa.Pure
