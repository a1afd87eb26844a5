/- ReportMoney: what the law computes, for every input. -/
import Derived.Test.YtnpcodfeggcdbaaDoorMoney
set_option linter.unusedVariables false
set_option linter.unusedSimpArgs false
namespace Go.Proofs.YtnpcodfeggcdbaaDoor.Pure
open Go.RowKit Go.Proofs.YtnpcodfeggcdbaaDoor.PMny Go.Proofs.YtnpcodfeggcdbaaDoorW.PrintWords Go.Proofs.YtnpcodfeggcdbaaDoorW.PrintLast
open Go.Proofs.YtnpcodfeggcdbaaDoor Go.Proofs.YtnpcodfeggcdbaaDoorW.PrintMore
set_option maxHeartbeats 2000000 in
theorem reportMoney_calls (a0 : Int) (w : World) (w0 : (Lit.int .i64 a0).wf = true) (ht : TB w) :
    Calls Tryd.prog 3 #[.int .i64 a0] w fun e w' => e = .returned (.bool true) ∧ Below w.heap.size w w' := by
  have hb := bounds_i64 w0
  have HT := Aside0.mk ht
  clear ht
  by_cases hlo : a0 < -4611686018427387904
  · go_enter Tryd.func3, Tryd.ntmps3
    go_wp2_with fail
    with_reducible refine (awake_calls _ HT.out).mono ?_
    rintro e w1 ⟨rfl, hb⟩
    have GB := Aside0.mk hb
    clear hb
    go_wp2_with fail
    go_ret
    exact ⟨rfl, GB.out⟩
  by_cases hhi : 4611686018427387904 < a0
  · go_enter Tryd.func3, Tryd.ntmps3
    go_wp2_with fail
    with_reducible refine (awake_calls _ HT.out).mono ?_
    rintro e w1 ⟨rfl, hb⟩
    have GB := Aside0.mk hb
    clear hb
    go_wp2_with fail
    go_ret
    exact ⟨rfl, GB.out⟩
  have HA := Aside0.mk (amt_mny a0)
  have hdl : (B (mny a0)).data.toList = mny a0 := by simp [B]
  have HDL := Aside0.mk hdl
  clear hdl
  obtain ⟨S, hS⟩ : ∃ S, S = B (mny a0) := ⟨_, rfl⟩
  have HSS := Aside0.mk hS
  clear hS
  by_cases hm1 : -1125899906842624 ≤ a0
  · by_cases hm2 : a0 ≤ 1125899906842624
    · have hr := HA.out
      rw [if_pos ⟨hm1, hm2⟩] at hr
      have HR := Aside0.mk hr
      clear hr
      go_enter Tryd.func3, Tryd.ntmps3
      go_wp2_with fail
      with_reducible refine (money_calls a0 _ (by omega) (by omega) HT.out).mono ?_
      rintro e w1 ⟨rfl, hb1⟩
      have GB := Aside0.mk hb1
      clear hb1
      rw [← HSS.out]
      go_wp2_with fail
      with_reducible refine (amount_calls S _ (HT.out.step GB.out)).mono ?_
      rintro e w2 ⟨rfl, hb1⟩
      replace GB := Aside0.mk (below_step GB.out hb1)
      clear hb1
      rw [show amt S.data.toList = (a0, 0) from by rw [HSS.out, HDL.out]; exact HR.out]
      go_wp2_with fail
      with_reducible refine (awake_calls _ (HT.out.step GB.out)).mono ?_
      rintro e w3 ⟨rfl, hb1⟩
      replace GB := Aside0.mk (below_step GB.out hb1)
      clear hb1
      go_wp2_with fail
      with_reducible refine (lmoney_calls a0 _ (by omega) (by omega)).mono ?_
      rintro e w4 ⟨rfl, hb1⟩
      replace GB := Aside0.mk (below_step GB.out hb1)
      clear hb1
      rw [← HSS.out]
      go_wp2_with fail
      go_ret
      exact ⟨rfl, GB.out⟩
    · obtain ⟨er, her, her2⟩ : ∃ er : Int, amt (mny a0) = (0, er) ∧ (er = 4 ∨ er = 9) := by
        rw [HA.out, if_neg (by omega)]
        by_cases hq : 1125899906842624 < (if a0 < 0 then -a0 else a0) / 10
        · rw [if_pos hq]; exact ⟨4, rfl, .inl rfl⟩
        · rw [if_neg hq]; exact ⟨9, rfl, .inr rfl⟩
      have HR := Aside0.mk her
      clear her
      have her3 : (er == 0) = false := by rcases her2 with rfl | rfl <;> rfl
      have her4 : (er != 0) = true := by rcases her2 with rfl | rfl <;> rfl
      clear her2
      go_enter Tryd.func3, Tryd.ntmps3
      go_wp2_with fail
      with_reducible refine (money_calls a0 _ (by omega) (by omega) HT.out).mono ?_
      rintro e w1 ⟨rfl, hb1⟩
      have GB := Aside0.mk hb1
      clear hb1
      rw [← HSS.out]
      go_wp2_with fail
      with_reducible refine (amount_calls S _ (HT.out.step GB.out)).mono ?_
      rintro e w2 ⟨rfl, hb1⟩
      replace GB := Aside0.mk (below_step GB.out hb1)
      clear hb1
      rw [show amt S.data.toList = (0, er) from by rw [HSS.out, HDL.out]; exact HR.out]
      go_wp2_with fail
      with_reducible refine (awake_calls _ (HT.out.step GB.out)).mono ?_
      rintro e w3 ⟨rfl, hb1⟩
      replace GB := Aside0.mk (below_step GB.out hb1)
      clear hb1
      go_wp2_with fail
      with_reducible refine (lmoney_calls a0 _ (by omega) (by omega)).mono ?_
      rintro e w4 ⟨rfl, hb1⟩
      replace GB := Aside0.mk (below_step GB.out hb1)
      clear hb1
      rw [← HSS.out]
      go_wp2_with fail
      go_ret
      exact ⟨rfl, GB.out⟩
  · obtain ⟨er, her, her2⟩ : ∃ er : Int, amt (mny a0) = (0, er) ∧ (er = 4 ∨ er = 9) := by
      rw [HA.out, if_neg (by omega)]
      by_cases hq : 1125899906842624 < (if a0 < 0 then -a0 else a0) / 10
      · rw [if_pos hq]; exact ⟨4, rfl, .inl rfl⟩
      · rw [if_neg hq]; exact ⟨9, rfl, .inr rfl⟩
    have HR := Aside0.mk her
    clear her
    have her3 : (er == 0) = false := by rcases her2 with rfl | rfl <;> rfl
    have her4 : (er != 0) = true := by rcases her2 with rfl | rfl <;> rfl
    clear her2
    go_enter Tryd.func3, Tryd.ntmps3
    go_wp2_with fail
    with_reducible refine (money_calls a0 _ (by omega) (by omega) HT.out).mono ?_
    rintro e w1 ⟨rfl, hb1⟩
    have GB := Aside0.mk hb1
    clear hb1
    rw [← HSS.out]
    go_wp2_with fail
    with_reducible refine (amount_calls S _ (HT.out.step GB.out)).mono ?_
    rintro e w2 ⟨rfl, hb1⟩
    replace GB := Aside0.mk (below_step GB.out hb1)
    clear hb1
    rw [show amt S.data.toList = (0, er) from by rw [HSS.out, HDL.out]; exact HR.out]
    go_wp2_with fail
    with_reducible refine (awake_calls _ (HT.out.step GB.out)).mono ?_
    rintro e w3 ⟨rfl, hb1⟩
    replace GB := Aside0.mk (below_step GB.out hb1)
    clear hb1
    go_wp2_with fail
    with_reducible refine (lmoney_calls a0 _ (by omega) (by omega)).mono ?_
    rintro e w4 ⟨rfl, hb1⟩
    replace GB := Aside0.mk (below_step GB.out hb1)
    clear hb1
    rw [← HSS.out]
    go_wp2_with fail
    go_ret
    exact ⟨rfl, GB.out⟩
end Go.Proofs.YtnpcodfeggcdbaaDoor.Pure
