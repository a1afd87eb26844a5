-- PRINTED BY print.sh 35421559b90ae4d0a3588c463048766b98c2df88dd9212a6774a882060cdf62d: not written by this session
import Derived.Test.YtljfmfkgpnabaaaPCivilMonthsx0
import Derived.Test.YtljfmfkgpnabaaaPCivilMonthsx1
namespace Go.Proofs.Ytljfmfkgpnabaaa.PCivilMonths
open Go.RowKit Go.Proofs.YtljfmfkgpnabaaaW.PrintWords Go.Proofs.YtljfmfkgpnabaaaW.PrintLast Go.Proofs.YtljfmfkgpnabaaaW.PrintMore
attribute [local go_sem] max2_int min2_int max_two min_two max_three min_three max_four min_four   -- for this text's walks alone
set_option linter.unusedVariables false
set_option linter.unusedSimpArgs false

/-! ### paybooklaw01_CivilMonths: function 3 -/
def paybooklaw01_CivilMonths.f (k : Nat) (a0 : Int) (a1 : Int) : Option (Bool) := (paybooklaw01_awake.f k).bind fun t119 => (if t119 = true then ((civil_Leap.f a0).bind fun t120 => ((paybookref01_Leap.f a0).bind fun t121 => (if (t120 == t121) = true then ((civil_Month.f k a0 a1).bind fun t122 => ((paybookref01_Month.f k a0 a1).bind fun t123 => (some (t122 == t123)))) else (some false)))) else (some false))
theorem paybooklaw01_CivilMonths.mono : ∀ a0 a1 k, LeO (paybooklaw01_CivilMonths.f k a0 a1) (paybooklaw01_CivilMonths.f (k + 1) a0 a1) := by
  intro a0 a1 k
  unfold paybooklaw01_CivilMonths.f
  repeat' first
      | (with_reducible exact civil_Month.mono _ _ _)
      | (with_reducible exact paybooklaw01_awake.mono _)
      | (with_reducible exact paybookref01_Month.mono _ _ _)
      | (with_reducible exact LeO.refl _)
      | (with_reducible exact LeO.none _)
      | (with_reducible refine LeO.ite ?_ ?_)
      | (with_reducible refine LeO.bind ?_ (fun _ => ?_))
      | exact civil_Month.mono _ _ _
      | exact paybooklaw01_awake.mono _
      | exact paybookref01_Month.mono _ _ _
      | exact LeO.none _
      | refine LeO.ite ?_ ?_
      | refine LeO.bind ?_ (fun _ => ?_)
set_option maxHeartbeats 8000000 in
set_option maxRecDepth 100000 in
theorem paybooklaw01_CivilMonths.calls (k : Nat) (a0 : Int) (a1 : Int) (r : Bool) (w : World) (h : paybooklaw01_CivilMonths.f k a0 a1 = some r) :
    Calls Try.prog 3 #[.int .i64 a0, .int .i64 a1] w fun e w' => e = .returned (.bool r) ∧ Below w.heap.size w w' := by
  have HB := Aside0.mk (Below.refl w.heap.size w)
  have H : ((paybooklaw01_awake.f k).bind fun t119 => (if t119 = true then ((civil_Leap.f a0).bind fun t120 => ((paybookref01_Leap.f a0).bind fun t121 => (if (t120 == t121) = true then ((civil_Month.f k a0 a1).bind fun t122 => ((paybookref01_Month.f k a0 a1).bind fun t123 => (some (t122 == t123)))) else (some false)))) else (some false))) = some r := h
  clear h
  replace H := Option.bind_eq_some_iff.mp H
  obtain ⟨t119, A30, H⟩ := H
  replace H : (if t119 = true then ((civil_Leap.f a0).bind fun t120 => ((paybookref01_Leap.f a0).bind fun t121 => (if (t120 == t121) = true then ((civil_Month.f k a0 a1).bind fun t122 => ((paybookref01_Month.f k a0 a1).bind fun t123 => (some (t122 == t123)))) else (some false)))) else (some false)) = some r := H
  have A3 := Aside0.mk A30
  clear A30
  by_cases c4 : t119 = true
  · subst c4
    have H1 : ((civil_Leap.f a0).bind fun t120 => ((paybookref01_Leap.f a0).bind fun t121 => (if (t120 == t121) = true then ((civil_Month.f k a0 a1).bind fun t122 => ((paybookref01_Month.f k a0 a1).bind fun t123 => (some (t122 == t123)))) else (some false)))) = some r := by rw [if_pos rfl] at H; exact H
    clear H
    have H := H1
    clear H1
    replace H := Option.bind_eq_some_iff.mp H
    obtain ⟨t120, A50, H⟩ := H
    replace H : ((paybookref01_Leap.f a0).bind fun t121 => (if (t120 == t121) = true then ((civil_Month.f k a0 a1).bind fun t122 => ((paybookref01_Month.f k a0 a1).bind fun t123 => (some (t122 == t123)))) else (some false))) = some r := H
    have A5 := Aside0.mk A50
    clear A50
    replace H := Option.bind_eq_some_iff.mp H
    obtain ⟨t121, A60, H⟩ := H
    replace H : (if (t120 == t121) = true then ((civil_Month.f k a0 a1).bind fun t122 => ((paybookref01_Month.f k a0 a1).bind fun t123 => (some (t122 == t123)))) else (some false)) = some r := H
    have A6 := Aside0.mk A60
    clear A60
    by_cases c7 : (t120 == t121) = true
    · rw [if_pos c7] at H
      have c7b0 : (t120 == t121) = true := c7
      (try (have c7b1 : decide (t120 = t121) = true := by simpa using c7))
      (try (have c7b2 : (t120 == t121) = true := by simpa using c7))
      clear c7
      replace H := Option.bind_eq_some_iff.mp H
      obtain ⟨t122, A80, H⟩ := H
      replace H : ((paybookref01_Month.f k a0 a1).bind fun t123 => (some (t122 == t123))) = some r := H
      have A8 := Aside0.mk A80
      clear A80
      replace H := Option.bind_eq_some_iff.mp H
      obtain ⟨t123, A90, H⟩ := H
      replace H : (some (t122 == t123)) = some r := H
      have A9 := Aside0.mk A90
      clear A90
      obtain rfl := Option.some.inj H
      go_enter Try.func3, Try.ntmps3
      go_wp2_with (first | ((with_reducible refine gate_callee (f := 12) rfl ?_); refine goesL_ (some 5) rfl rfl Try.func12 (by kernel_rfl) rfl #[] rfl (by (try simp only [List.map_toArray, List.map_cons, List.map_nil]); first | done | rfl | (simp only [List.length_drop, List.length_take]; rfl)) ?_; (with_reducible refine (paybooklaw01_awake.calls k  true _ A3.out).mono ?_); rintro e w10 ⟨rfl, hb⟩; refine ⟨_, rfl, ?_⟩; have n0_ := Aside0.mk (below_step (by repeat (first | (with_reducible first | exact HB.out | apply below_alloc | apply pw_below_drewN | apply below_drew1) | exact HB.out)) hb); clear HB; have HB := n0_; clear n0_; (try clear hb); (try clear hb2); (try clear hk); (try clear hi)) | (go_at_call 13; (with_reducible refine (civil_Leap.calls a0 t120 _ A5.out).mono ?_); rintro e w' ⟨rfl, ⟨nd, rfl⟩⟩) | (go_at_call 14; (with_reducible refine (paybookref01_Leap.calls a0 t121 _ A6.out).mono ?_); rintro e w' ⟨rfl, ⟨nd, rfl⟩⟩) | (go_at_call 15; (with_reducible refine (civil_Month.calls k a0 a1 t122 _ A8.out).mono ?_); rintro e w' ⟨rfl, ⟨nd, rfl⟩⟩) | (go_at_call 16; (with_reducible refine (paybookref01_Month.calls k a0 a1 t123 _ A9.out).mono ?_); rintro e w11 ⟨rfl, hb⟩; have n0_ := Aside0.mk (below_step (by repeat (first | (with_reducible first | exact HB.out | apply below_alloc | apply pw_below_drewN | apply below_drew1) | exact HB.out)) hb); clear HB; have HB := n0_; clear n0_; (try clear hb); (try clear hb2); (try clear hk); (try clear hi)))
      go_ret
      exact ⟨by first | rfl | (simp [errW_none, errW_some] <;> rfl) | (simp [*, errW_none, errW_some] <;> rfl), by repeat (first | (with_reducible first | exact HB.out | apply below_alloc | apply pw_below_drewN | apply below_drew1) | exact HB.out)⟩
    · rw [if_neg c7] at H
      have c7b0 : (t120 == t121) = false := by simpa using c7
      (try (have c7b1 : decide (t120 = t121) = false := by simpa using c7))
      (try (have c7b2 : (t120 == t121) = false := by simpa using c7))
      (try (have c7b3 : ¬ (t120 = t121) := by simpa using c7))
      clear c7
      obtain rfl := Option.some.inj H
      go_enter Try.func3, Try.ntmps3
      go_wp2_with (first | ((with_reducible refine gate_callee (f := 12) rfl ?_); refine goesL_ (some 5) rfl rfl Try.func12 (by kernel_rfl) rfl #[] rfl (by (try simp only [List.map_toArray, List.map_cons, List.map_nil]); first | done | rfl | (simp only [List.length_drop, List.length_take]; rfl)) ?_; (with_reducible refine (paybooklaw01_awake.calls k  true _ A3.out).mono ?_); rintro e w12 ⟨rfl, hb⟩; refine ⟨_, rfl, ?_⟩; have n0_ := Aside0.mk (below_step (by repeat (first | (with_reducible first | exact HB.out | apply below_alloc | apply pw_below_drewN | apply below_drew1) | exact HB.out)) hb); clear HB; have HB := n0_; clear n0_; (try clear hb); (try clear hb2); (try clear hk); (try clear hi)) | (go_at_call 13; (with_reducible refine (civil_Leap.calls a0 t120 _ A5.out).mono ?_); rintro e w' ⟨rfl, ⟨nd, rfl⟩⟩) | (go_at_call 14; (with_reducible refine (paybookref01_Leap.calls a0 t121 _ A6.out).mono ?_); rintro e w' ⟨rfl, ⟨nd, rfl⟩⟩))
      go_ret
      exact ⟨by first | rfl | (simp [errW_none, errW_some] <;> rfl) | (simp [*, errW_none, errW_some] <;> rfl), by repeat (first | (with_reducible first | exact HB.out | apply below_alloc | apply pw_below_drewN | apply below_drew1) | exact HB.out)⟩
  · replace c4 := Bool.eq_false_iff.mpr c4
    subst c4
    have H1 : (some false) = some r := by rw [if_neg (show ¬ (false = true) by decide)] at H; exact H
    clear H
    have H := H1
    clear H1
    obtain rfl := Option.some.inj H
    go_enter Try.func3, Try.ntmps3
    go_wp2_with (first | ((with_reducible refine gate_callee (f := 12) rfl ?_); refine goesL_ (some 5) rfl rfl Try.func12 (by kernel_rfl) rfl #[] rfl (by (try simp only [List.map_toArray, List.map_cons, List.map_nil]); first | done | rfl | (simp only [List.length_drop, List.length_take]; rfl)) ?_; (with_reducible refine (paybooklaw01_awake.calls k  false _ A3.out).mono ?_); rintro e w13 ⟨rfl, hb⟩; refine ⟨_, rfl, ?_⟩; have n0_ := Aside0.mk (below_step (by repeat (first | (with_reducible first | exact HB.out | apply below_alloc | apply pw_below_drewN | apply below_drew1) | exact HB.out)) hb); clear HB; have HB := n0_; clear n0_; (try clear hb); (try clear hb2); (try clear hk); (try clear hi)))
    go_ret
    exact ⟨by first | rfl | (simp [errW_none, errW_some] <;> rfl) | (simp [*, errW_none, errW_some] <;> rfl), by repeat (first | (with_reducible first | exact HB.out | apply below_alloc | apply pw_below_drewN | apply below_drew1) | exact HB.out)⟩

/-- THE ONE PURE STATEMENT of paybooklaw01_CivilMonths: yours. -/
def paybooklaw01_CivilMonths.Pure : Prop := ∀ (a0 : Int) (a1 : Int), (Lit.int .i64 a0).wf = true → (Lit.int .i64 a1).wf = true → ∃ k, paybooklaw01_CivilMonths.f k a0 a1 = some true
theorem paybooklaw01_CivilMonths.walk (P : paybooklaw01_CivilMonths.Pure) (a0 : Int) (a1 : Int) (w : World) (w0 : (Lit.int .i64 a0).wf = true) (w1 : (Lit.int .i64 a1).wf = true) :
    Calls Try.prog 3 #[.int .i64 a0, .int .i64 a1] w fun e w' => e = .returned (.bool true) ∧ Below w.heap.size w w' := by
  obtain ⟨k, h⟩ := P a0 a1 w0 w1
  refine (paybooklaw01_CivilMonths.calls k a0 a1 true w h).mono ?_
  rintro e w' ⟨rfl, hd⟩
  exact ⟨rfl, hd⟩

end Go.Proofs.Ytljfmfkgpnabaaa.PCivilMonths
