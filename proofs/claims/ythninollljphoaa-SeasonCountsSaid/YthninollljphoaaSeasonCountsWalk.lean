/- The walk of SeasonCounts: so many first days aren't behind a day, for every anchor, unit, length and gap that the statement lets in. -/
import Derived.Test.YthninollljphoaaSeasonCountBase
import Derived.OpenShut
set_option linter.unusedVariables false
set_option linter.unusedSimpArgs false
namespace Go.Proofs.Ythninollljphoaa.Pure
open Go.RowKit Go.Proofs.Ythninollljphoaa.PSpan Go.Proofs.Ythninollljphoaa.PNumber Go.Proofs.YthninollljphoaaW.PrintWords Go.Proofs.YthninollljphoaaW.PrintLast
open Go.Proofs.Ythninollljphoaa
attribute [local go_sem] setCell_map
theorem tmod_bd (g : Int) : -2999 ≤ Int.tmod g 3000 ∧ Int.tmod g 3000 ≤ 2999 := by
  have h1 := Int.tmod_lt_of_pos g (show (0 : Int) < 3000 by omega)
  have h2 := Int.lt_tmod_of_pos g (show (0 : Int) < 3000 by omega)
  omega
set_option maxHeartbeats 4000000 in
theorem counts_out (a0 u0 e0 g0 : Int) (w : World) (b0 : 0 ≤ a0 ∧ a0 ≤ 4294967295) (b1 : 0 ≤ u0 ∧ u0 ≤ 255) (b2 : 0 ≤ e0 ∧ e0 ≤ 255) (b3 : -32768 ≤ g0 ∧ g0 ≤ 32767) (hg : -2999 ≤ Int.tmod g0 3000 ∧ Int.tmod g0 3000 ≤ 2999)
    (hday : a0 % 3652059 + Int.tmod g0 3000 < 0 ∨ 3652058 < a0 % 3652059 + Int.tmod g0 3000) :
    Calls Try.prog 8 #[.int .u32 a0, .int .u8 u0, .int .u8 e0, .int .i16 g0] w fun e w' => e = .returned (.bool true) ∧ Below w.heap.size w w' := by
  rcases hday with hday | hday
  · go_enter Try.func8, Try.ntmps8
    go_wp2_with fail
    with_reducible refine (awake_calls _).mono ?_
    rintro e w3 ⟨rfl, hb⟩
    have GB := Aside0.mk hb
    clear hb
    go_wp2_with fail
    go_ret
    exact ⟨rfl, GB.out⟩
  · go_enter Try.func8, Try.ntmps8
    go_wp2_with fail
    with_reducible refine (awake_calls _).mono ?_
    rintro e w3 ⟨rfl, hb⟩
    have GB := Aside0.mk hb
    clear hb
    go_wp2_with fail
    go_ret
    exact ⟨rfl, GB.out⟩
set_option maxHeartbeats 4000000 in
theorem counts_in (a0 u0 e0 g0 : Int) (w : World) (b0 : 0 ≤ a0 ∧ a0 ≤ 4294967295) (b1 : 0 ≤ u0 ∧ u0 ≤ 255) (b2 : 0 ≤ e0 ∧ e0 ≤ 255) (b3 : -32768 ≤ g0 ∧ g0 ≤ 32767) (hg : -2999 ≤ Int.tmod g0 3000 ∧ Int.tmod g0 3000 ≤ 2999)
    (hd1 : 0 ≤ a0 % 3652059 + Int.tmod g0 3000) (hd2 : a0 % 3652059 + Int.tmod g0 3000 ≤ 3652058) (y m d c : Int) (hv : Cal.valid y m d) (hn : Cal.num y m d = a0 % 3652059)
    (hc : Cnt (a0 % 3652059) y m d (u0 % 4) (1 + e0 % 50) (a0 % 3652059 + Int.tmod g0 3000) c) (hc3 : 0 ≤ c ∧ c ≤ 3000) :
    Calls Try.prog 8 #[.int .u32 a0, .int .u8 u0, .int .u8 e0, .int .i16 g0] w fun e w' => e = .returned (.bool true) ∧ Below w.heap.size w w' := by
  have HV := Aside0.mk hv
  have HN := Aside0.mk hn
  have HC := Aside0.mk hc
  clear hv hn hc
  go_enter Try.func8, Try.ntmps8
  go_wp2_with fail
  with_reducible refine (count_calls _ y m d _ _ _ c _ HV.out HN.out (by omega) (by omega) (by omega) HC.out).mono ?_
  rintro e w1 ⟨rfl, hb⟩
  have GB := Aside0.mk hb
  clear hb
  go_wp2_with fail
  go_loopg [15] c.toNat (fun kq t15 wr => ∃ x : Int, t15 = .int .i64 x ∧ 0 ≤ x ∧ x ≤ c ∧ Aside0 ((c - x).toNat ≤ kq) ∧ Aside0 (Below w.heap.size w wr))
  case atStart => exact ⟨0, rfl, by omega, by omega, ⟨by omega⟩, GB⟩
  case round =>
    obtain ⟨x, rfl, hx0, hx1, HM, HB⟩ := hrel
    clear GB
    by_cases hlt : x < c
    · obtain ⟨v, hnv, hvd⟩ := upto_val _ _ _ _ _ _ _ _ (HC.out.2.1 x hx0 hlt)
      have HNV := Aside0.mk hnv
      clear hnv
      go_wp2_with fail
      with_reducible refine (rnth_some _ y m d _ _ _ v _ HV.out HN.out (by omega) (by omega) (by omega) HNV.out).mono ?_
      rintro e w2 ⟨rfl, hb⟩
      have GB := Aside0.mk (below_step HB.out hb)
      clear hb
      go_wp2_with fail
      go_roundg (c - (x + 1)).toNat
      case measure => have := HM.out; omega
      case rel => exact ⟨x + 1, rfl, by omega, by omega, ⟨Nat.le_refl _⟩, GB⟩
    · have hxc : x = c := by omega
      have hce : (c == x) = true := by rw [hxc]; simp
      have hno := HC.out.2.2
      rw [← hxc] at hno
      cases hcn : Sea.nth (a0 % 3652059) y m d (u0 % 4) (1 + e0 % 50) x with
      | none =>
        have HCN := Aside0.mk hcn
        clear hcn hno hxc
        go_wp2_with fail
        with_reducible refine (rnth_none _ y m d _ _ _ _ HV.out HN.out (by omega) (by omega) (by omega) HCN.out).mono ?_
        rintro e w2 ⟨rfl, hb⟩
        have GB := Aside0.mk (below_step HB.out hb)
        clear hb
        go_wp2_with fail
        with_reducible refine (awake_calls _).mono ?_
        rintro e w3 ⟨rfl, hb⟩
        have GB := Aside0.mk (below_step GB.out hb)
        clear hb
        go_wp2_with fail
        go_ret
        exact ⟨rfl, GB.out⟩
      | some v =>
        have hvd : a0 % 3652059 + Int.tmod g0 3000 < v := by
          by_cases q : v ≤ a0 % 3652059 + Int.tmod g0 3000
          · exact absurd ⟨v, hcn, q⟩ hno
          · omega
        have HCN := Aside0.mk hcn
        clear hcn hno hxc
        go_wp2_with fail
        with_reducible refine (rnth_some _ y m d _ _ _ v _ HV.out HN.out (by omega) (by omega) (by omega) HCN.out).mono ?_
        rintro e w2 ⟨rfl, hb⟩
        have GB := Aside0.mk (below_step HB.out hb)
        clear hb
        go_wp2_with fail
        with_reducible refine (awake_calls _).mono ?_
        rintro e w3 ⟨rfl, hb⟩
        have GB := Aside0.mk (below_step GB.out hb)
        clear hb
        go_wp2_with fail
        go_ret
        exact ⟨rfl, GB.out⟩
theorem seasonCounts_calls (a0 u0 e0 g0 : Int) (w : World) (w0 : (Lit.int .u32 a0).wf = true) (w1 : (Lit.int .u8 u0).wf = true) (w2 : (Lit.int .u8 e0).wf = true) (w3 : (Lit.int .i16 g0).wf = true) :
    Calls Try.prog 8 #[.int .u32 a0, .int .u8 u0, .int .u8 e0, .int .i16 g0] w fun e w' => e = .returned (.bool true) ∧ Below w.heap.size w w' := by
  have b0 := bounds_u32 w0
  have b1 := bounds_u8 w1
  have b2 := bounds_u8 w2
  have b3 := bounds_i16 w3
  have hg := tmod_bd g0
  by_cases hday : a0 % 3652059 + Int.tmod g0 3000 < 0 ∨ 3652058 < a0 % 3652059 + Int.tmod g0 3000
  · exact counts_out a0 u0 e0 g0 w b0 b1 b2 b3 hg hday
  · obtain ⟨y, m, d, _, g2, g3⟩ := of_yes 11000 (by omega) (a0 % 3652059) (by omega) (by omega)
    obtain ⟨c, _, c2, c3⟩ := count_eq 4000000 (by omega) (a0 % 3652059) y m d (u0 % 4) (1 + e0 % 50) (a0 % 3652059 + Int.tmod g0 3000) g2 g3 (by omega) (by omega) (by omega)
    exact counts_in a0 u0 e0 g0 w b0 b1 b2 b3 hg (by omega) (by omega) y m d c g2 g3 c2 ⟨c2.1, by omega⟩
end Go.Proofs.Ythninollljphoaa.Pure
