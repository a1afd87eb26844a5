/- a book stays as it was, whatever is made of it -/
import Derived.Test.YteclckfcniigjaaDoorRows
import Derived.WalkKit
import Derived.ProofKit
import Derived.OpenShut
import Derived.ShutString
import Derived.ChangeOld
import Derived.Below
import Derived.SizedLaws
import Derived.LaidMore
import Derived.SevenTiedAt
import Derived.Lib.LaidTab
import Derived.Stop.LaidErr
import Derived.MakeChecks
import Derived.WalkSmall
import Derived.Test.YteclckfcniigjaaDoorCards
import Derived.Test.YteclckfcniigjaaDoorTie
import Derived.Lib.SmallJoins
import Derived.Test.YteclckfcniigjaaDoorK5
namespace Go.Proofs.YteclckfcniigjaaDoor.bookKeeps
open Go.Joins Go.ChangeShapes Go.WideShapes Go.ChangeAt Go.RowKit
open Go.ChangeMaps (open_string shut_string)
set_option linter.unusedVariables false
theorem own : ownKnob Tryd.prog.godebug = none := by kernel_rfl
theorem laidOut23 : laidOutB Tryd.prog = true := by kernel_rfl
theorem cells51 : Tryd.prog.cellsOf 51 = 4 := by kernel_rfl
theorem und5 : Tryd.checked.prog.underlying 5 = some (.int .u8) := Tryd.underlying5
abbrev laidL : List (String × DataW Unit) := [("paybook/cycle.ladder", Rows.laid_paybook_cycle_ladder)]
theorem door_met (os : Os) (args : Array Value) : laidMetH Tryd.prog laidL ((World.doorLaid Tryd.prog 600 os).forCall (fun _ _ => 0) ⟨#[], args, []⟩).memory :=
  laidMetH_of_parts3 (fuel := 8) (laidMet_of_run' 8 (by kernel_rfl) (by kernel_rfl)) (by kernel_rfl) (by kernel_rfl)
theorem of_laid {W : World} (h : laidMetH Tryd.prog laidL W) : Go.Den.TB W := by
  rw [MakeChecks.laidMetH_plain _ _ _ (by kernel_rfl)] at h
  exact Go.Den.tb_of (Lib.tabIs_of_head (g := 0) (t := 160) (e := 3) (n := 3) (by kernel_rfl) (by kernel_rfl) Tryd.underlying160 Tryd.underlying3 (by kernel_rfl) (by kernel_rfl) h)
set_option maxRecDepth 100000 in
theorem lifted (os : Os) (started : os.Started) (H : Type) (enc : TypeId × Value → H) :
    ReturnsInHanded {} Tryd.checked os 7 .any (fun w args => (Rows.bookKeepsSpec.pre enc Tryd.prog Tryd.f7 [] false w args ∧ laidMetH Tryd.prog laidL w) ∧ sizedMet enc Tryd.prog Tryd.f7 (OpenSpec.ofChange Rows.bookKeepsSpec) false w args)
      (Rows.bookKeepsSpec.post enc Tryd.prog Tryd.f7 false true false false) := by
  refine returnsInHanded_of_change_and (C := Tryd.checked) (X := fun w _ => laidMetH Tryd.prog laidL w) (fun _ _ _ hh h => h.of_heap hh) own started (by kernel_rfl) Tryd.func7
    (ChangeSpec.witness_shaped (enc := enc) (C := Tryd.checked) (os := os) (X := fun w _ => laidMetH Tryd.prog laidL w) false (World.doorLaid Tryd.prog 600 os) #[.int .u16 0, .slice none 0 0, .agg #[.int .u8 0, .int .u8 0, .int .u8 0, .int .u8 0], .agg #[.int .u8 0, .int .u8 0, .int .u8 0, .int .u8 0]] 8 rfl (World.shaped_of_RefB (by kernel_rfl) (by kernel_rfl)) (by kernel_rfl) (by kernel_rfl) (by kernel_rfl) (door_met os _)) ?_
  intro W base args ds gs before hval0 hW _ _ hL _
  have hval : ∀ (j : Nat) t v, Tryd.f7.params[j]? = some t → args[j]? = some v → Value.okWide Tryd.prog W .any base t v := hval0
  have hW' := hW
  obtain ⟨p, q, hA0, hV, rfl, hfz, hnd⟩ := hW
  have hA : DataW.TrodAll enc Tryd.prog W 0 (fun _ => true) true Tryd.f7.params.toList args.toList ds p := hA0
  rw [Tryd.params7] at hA hval
  obtain ⟨v0, vs0, d0, ds0, p0, q0, hargs, rfl, rfl, h0, r0⟩ := trodAll_cons hA
  obtain ⟨v1, vs1, d1, ds1, p1, q1, rfl, rfl, rfl, h1, r1⟩ := trodAll_cons r0
  obtain ⟨v2, vs2, d2, ds2, p2, q2, rfl, rfl, rfl, h2, r2⟩ := trodAll_cons r1
  obtain ⟨v3, vs3, d3, ds3, p3, q3, rfl, rfl, rfl, h3, r3⟩ := trodAll_cons r2
  obtain ⟨rfl, rfl, rfl⟩ := trodAll_nil r3
  obtain rfl : args = #[v0, v1, v2, v3] := by cases args; simp_all
  obtain ⟨rfl, rfl⟩ := trodVars_none hV
  obtain ⟨a0, rfl, rfl, rfl, w0⟩ := open_int Tryd.underlying62 (hval 0 62 v0 rfl rfl) h0
  have wd1 := hval 1 23 v1 rfl rfl
  obtain ⟨ao1, len1, cap1, rfl⟩ := okWide_slice Tryd.underlying23 wd1
  obtain ⟨act1, w1⟩ := Go.Den.acts_in wd1 h1
  obtain ⟨c2_0, c2_1, c2_2, c2_3, y2_0, y2_1, y2_2, y2_3, m2, rfl, rfl, rfl, hy2_0, hy2_1, hy2_2, hy2_3⟩ := open_agg4 Tryd.underlying51 (by kernel_rfl) cells51 (hval 2 51 v2 rfl rfl) h2
  obtain ⟨a2_0, e2_0, rfl, w2_0⟩ := DataW.trod_int Tryd.underlying5 hy2_0
  obtain ⟨a2_1, e2_1, rfl, w2_1⟩ := DataW.trod_int Tryd.underlying5 hy2_1
  obtain ⟨a2_2, e2_2, rfl, w2_2⟩ := DataW.trod_int Tryd.underlying5 hy2_2
  obtain ⟨a2_3, e2_3, rfl, w2_3⟩ := DataW.trod_int Tryd.underlying5 hy2_3
  simp only [List.cons.injEq, and_true] at e2_0 e2_1 e2_2 e2_3
  subst e2_0 e2_1 e2_2 e2_3
  obtain ⟨c3_0, c3_1, c3_2, c3_3, y3_0, y3_1, y3_2, y3_3, m3, rfl, rfl, rfl, hy3_0, hy3_1, hy3_2, hy3_3⟩ := open_agg4 Tryd.underlying51 (by kernel_rfl) cells51 (hval 3 51 v3 rfl rfl) h3
  obtain ⟨a3_0, e3_0, rfl, w3_0⟩ := DataW.trod_int Tryd.underlying5 hy3_0
  obtain ⟨a3_1, e3_1, rfl, w3_1⟩ := DataW.trod_int Tryd.underlying5 hy3_1
  obtain ⟨a3_2, e3_2, rfl, w3_2⟩ := DataW.trod_int Tryd.underlying5 hy3_2
  obtain ⟨a3_3, e3_3, rfl, w3_3⟩ := DataW.trod_int Tryd.underlying5 hy3_3
  simp only [List.cons.injEq, and_true] at e3_0 e3_1 e3_2 e3_3
  subst e3_0 e3_1 e3_2 e3_3
  clear hA0 hval0
  refine (Go.Den.keepsCalls a0 ao1 len1 cap1 act1 a2_0 a2_1 a2_2 a2_3 a3_0 a3_1 a3_2 a3_3 W w0 w1 w2_0 w2_1 w2_2 w2_3 w3_0 w3_1 w3_2 w3_3 (of_laid hL)).mono fun e W' ⟨he, bel⟩ => ?_
  subst he
  exact ⟨_, rfl, _, _, _, [], _, [], hW', trodAll_mk1 (shut_bool Tryd.underlying4 _), (trodAll_cons_mk (shut_int Tryd.underlying62 w0) (trodAll_cons_mk (Below.trod laidOut23 (by kernel_rfl) (of_decide_eq_true (by kernel_rfl)) h1 bel (fun x hx => hW'.lt x (by simp [hx]))) (trodAll_cons_mk (shut_agg4 (y0 := (.lit (.int .u8 a2_0), [])) (y1 := (.lit (.int .u8 a2_1), [])) (y2 := (.lit (.int .u8 a2_2), [])) (y3 := (.lit (.int .u8 a2_3), [])) Tryd.underlying51 (by kernel_rfl) cells51 ⟨1, by simp [DataW.trod, und5, w2_0]⟩ ⟨1, by simp [DataW.trod, und5, w2_1]⟩ ⟨1, by simp [DataW.trod, und5, w2_2]⟩ ⟨1, by simp [DataW.trod, und5, w2_3]⟩) (trodAll_cons_mk (shut_agg4 (y0 := (.lit (.int .u8 a3_0), [])) (y1 := (.lit (.int .u8 a3_1), [])) (y2 := (.lit (.int .u8 a3_2), [])) (y3 := (.lit (.int .u8 a3_3), [])) Tryd.underlying51 (by kernel_rfl) cells51 ⟨1, by simp [DataW.trod, und5, w3_0]⟩ ⟨1, by simp [DataW.trod, und5, w3_1]⟩ ⟨1, by simp [DataW.trod, und5, w3_2]⟩ ⟨1, by simp [DataW.trod, und5, w3_3]⟩) trodAll_mk0)))), rfl, bel.frame _, fun h => by cases h⟩
theorem over : Rows.bookKeepsRow.holds Tryd.pinned (OpenSpec.ofChange Rows.bookKeepsSpec) :=
  OpenClaim.holds_of_wide 7 Tryd.f7 rfl rfl rfl rfl rfl rfl rfl ⟨rfl, rfl, rfl, rfl, rfl⟩ rfl rfl rfl rfl rfl (by kernel_rfl) Tryd.func7 (by kernel_rfl)
    (of_decide_eq_true (by kernel_rfl)) (by unfold Func.isWrapper; first | (rw [if_pos (by decide +kernel)]; kernel_rfl) | (rw [if_neg (by decide +kernel)]; exact ⟨rfl, rfl⟩))
    (fun os started H enc _ => lifted os started H enc)
theorem holds : Rows.BookKeepsSaid := over
/-- The tied card. -/
theorem proved : Rows.BookKeepsCardSaid :=
  Claim7.holds_tied_plain_at .later [] [.data] true (true, "6f1a363e69b54df422a93dd5a141a962cbcd3acd63d13eef16bf79f828d12ee0") false
    holds (fun _ h => by cases h) (by kernel_rfl) (fun _ h => by cases h) bookKeeps_row_tie rfl ⟨rfl, rfl⟩ (by kernel_rfl) rfl
    (fun f fn hf hfn => by
      obtain rfl : f = 7 := Option.some.inj ((show Tryd.prog.funcNamed "paybook/paybooklaw14.BookKeeps" = some 7 by kernel_rfl).symm.trans hf) |>.symm
      obtain rfl : fn = Tryd.f7 := (Option.some.inj (Tryd.func7.symm.trans hfn)).symm
      exact ⟨by kernel_rfl, fun j t ht => by
        rw [Tryd.params7] at ht
        have hm : t ∈ [62, 23, 51, 51] := by simpa using Array.mem_of_getElem? ht
        have hall : ([62, 23, 51, 51].all fun u => !Tryd.prog.wantsStandIn u) = true := by kernel_rfl
        exact (show Tryd.prog.wantsStandIn t = false by simpa using List.all_eq_true.1 hall t hm)⟩)
    (by kernel_rfl)
#print axioms proved
end Go.Proofs.YteclckfcniigjaaDoor.bookKeeps
