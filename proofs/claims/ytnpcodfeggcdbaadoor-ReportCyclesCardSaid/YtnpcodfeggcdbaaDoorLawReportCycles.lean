/- ReportCycles: a cycle is written as its line: for every input. -/
import Derived.Test.YtnpcodfeggcdbaaDoorRows
import Derived.Test.YtnpcodfeggcdbaaDoorReportCyclesWalk
import Derived.WalkKit
import Derived.ProofKit
import Derived.OpenShut
import Derived.ShutString
import Derived.ChangeOld
import Derived.Below
import Derived.SizedLaws
import Derived.LaidMore
import Derived.SevenTiedAt
import Derived.Lib.LaidTab
import Derived.Stop.LaidErr
import Derived.MakeChecks
import Derived.WalkSmall
import Derived.Test.YtnpcodfeggcdbaaDoorCards
import Derived.Test.YtnpcodfeggcdbaaDoorTie
import Derived.Lib.SmallJoins
namespace Go.Proofs.YtnpcodfeggcdbaaDoor.reportCycles
open Go.Joins Go.ChangeShapes Go.WideShapes Go.ChangeAt Go.RowKit
open Go.ChangeMaps (open_string shut_string)
set_option linter.unusedVariables false
theorem own : ownKnob Tryd.prog.godebug = none := by kernel_rfl
section
open Go.Deep
variable {H : Type} {enc : TypeId × Value → H} {P : Program} {w : World} {base : Nat} {spare : Nat → Bool} {held : Bool}
theorem array8 {α : Type} {cs : Array α} (h : cs.size = 8) : ∃ c0 c1 c2 c3 c4 c5 c6 c7, cs = #[c0, c1, c2, c3, c4, c5, c6, c7] := by
  obtain ⟨l⟩ := cs
  match l, h with
  | [c0, c1, c2, c3, c4, c5, c6, c7], _ => exact ⟨c0, c1, c2, c3, c4, c5, c6, c7, rfl⟩
theorem open_agg8 {r : Reach} {b0 : Nat} {t : TypeId} {f0 f1 f2 f3 f4 f5 f6 f7 : Field} {v : Value} {d : DataW H} {p : List MemPlace} (hs : P.underlying t = some (.struct #[f0, f1, f2, f3, f4, f5, f6, f7])) (hone : oneCellFields P #[f0, f1, f2, f3, f4, f5, f6, f7] = true) (hC : P.cellsOf t = 8) (hv : Value.okWide P w r b0 t v) (h : DataW.Trod enc P w base spare held t v d p) :
    ∃ (v0 v1 v2 v3 v4 v5 v6 v7 : Value) (y0 y1 y2 y3 y4 y5 y6 y7 : DataW H × List MemPlace) (n : Nat), v = .agg #[v0, v1, v2, v3, v4, v5, v6, v7] ∧ d = .agg [y0.1, y1.1, y2.1, y3.1, y4.1, y5.1, y6.1, y7.1] ∧ p = y0.2 ++ (y1.2 ++ (y2.2 ++ (y3.2 ++ (y4.2 ++ (y5.2 ++ (y6.2 ++ y7.2)))))) ∧ DataW.trod enc P w base spare held n f0.type [v0] = some y0 ∧ DataW.trod enc P w base spare held n f1.type [v1] = some y1 ∧ DataW.trod enc P w base spare held n f2.type [v2] = some y2 ∧ DataW.trod enc P w base spare held n f3.type [v3] = some y3 ∧ DataW.trod enc P w base spare held n f4.type [v4] = some y4 ∧ DataW.trod enc P w base spare held n f5.type [v5] = some y5 ∧ DataW.trod enc P w base spare held n f6.type [v6] = some y6 ∧ DataW.trod enc P w base spare held n f7.type [v7] = some y7 := by
  obtain ⟨cs, rfl, hsz⟩ := okWide_struct hs hv
  obtain ⟨c0, c1, c2, c3, c4, c5, c6, c7, rfl⟩ := array8 (hsz.trans hC)
  obtain ⟨fuel, hf⟩ := h
  obtain ⟨xs, n, _, hx, hl, hlen, hf⟩ := DataW.trod_struct hs hf
  match xs, hlen with
  | [y0, y1, y2, y3, y4, y5, y6, y7], _ =>
    have h0 := hf 0 f0 rfl
    obtain ⟨o0, k0⟩ := hone_of hone 0 f0 rfl
    have h1 := hf 1 f1 rfl
    obtain ⟨o1, k1⟩ := hone_of hone 1 f1 rfl
    have h2 := hf 2 f2 rfl
    obtain ⟨o2, k2⟩ := hone_of hone 2 f2 rfl
    have h3 := hf 3 f3 rfl
    obtain ⟨o3, k3⟩ := hone_of hone 3 f3 rfl
    have h4 := hf 4 f4 rfl
    obtain ⟨o4, k4⟩ := hone_of hone 4 f4 rfl
    have h5 := hf 5 f5 rfl
    obtain ⟨o5, k5⟩ := hone_of hone 5 f5 rfl
    have h6 := hf 6 f6 rfl
    obtain ⟨o6, k6⟩ := hone_of hone 6 f6 rfl
    have h7 := hf 7 f7 rfl
    obtain ⟨o7, k7⟩ := hone_of hone 7 f7 rfl
    simp only [Prod.mk.injEq] at hx
    exact ⟨c0, c1, c2, c3, c4, c5, c6, c7, y0, y1, y2, y3, y4, y5, y6, y7, n, rfl, by simpa using hx.1, by simpa using hx.2, by simpa [Value.cells, o0, k0] using h0, by simpa [Value.cells, o1, k1] using h1, by simpa [Value.cells, o2, k2] using h2, by simpa [Value.cells, o3, k3] using h3, by simpa [Value.cells, o4, k4] using h4, by simpa [Value.cells, o5, k5] using h5, by simpa [Value.cells, o6, k6] using h6, by simpa [Value.cells, o7, k7] using h7⟩
theorem shut_agg8 {t : TypeId} {f0 f1 f2 f3 f4 f5 f6 f7 : Field} {v0 v1 v2 v3 v4 v5 v6 v7 : Value} {y0 y1 y2 y3 y4 y5 y6 y7 : DataW H × List MemPlace} (hs : P.underlying t = some (.struct #[f0, f1, f2, f3, f4, f5, f6, f7])) (hone : oneCellFields P #[f0, f1, f2, f3, f4, f5, f6, f7] = true) (hC : P.cellsOf t = 8)
    (t0 : ∃ n, DataW.trod enc P w base spare held n f0.type [v0] = some y0) (t1 : ∃ n, DataW.trod enc P w base spare held n f1.type [v1] = some y1) (t2 : ∃ n, DataW.trod enc P w base spare held n f2.type [v2] = some y2) (t3 : ∃ n, DataW.trod enc P w base spare held n f3.type [v3] = some y3) (t4 : ∃ n, DataW.trod enc P w base spare held n f4.type [v4] = some y4) (t5 : ∃ n, DataW.trod enc P w base spare held n f5.type [v5] = some y5) (t6 : ∃ n, DataW.trod enc P w base spare held n f6.type [v6] = some y6) (t7 : ∃ n, DataW.trod enc P w base spare held n f7.type [v7] = some y7) :
    DataW.Trod enc P w base spare held t (.agg #[v0, v1, v2, v3, v4, v5, v6, v7]) (.agg [y0.1, y1.1, y2.1, y3.1, y4.1, y5.1, y6.1, y7.1]) (y0.2 ++ (y1.2 ++ (y2.2 ++ (y3.2 ++ (y4.2 ++ (y5.2 ++ (y6.2 ++ y7.2))))))) := by
  obtain ⟨n0, t0⟩ := t0
  obtain ⟨o0, k0⟩ := hone_of hone 0 f0 rfl
  obtain ⟨n1, t1⟩ := t1
  obtain ⟨o1, k1⟩ := hone_of hone 1 f1 rfl
  obtain ⟨n2, t2⟩ := t2
  obtain ⟨o2, k2⟩ := hone_of hone 2 f2 rfl
  obtain ⟨n3, t3⟩ := t3
  obtain ⟨o3, k3⟩ := hone_of hone 3 f3 rfl
  obtain ⟨n4, t4⟩ := t4
  obtain ⟨o4, k4⟩ := hone_of hone 4 f4 rfl
  obtain ⟨n5, t5⟩ := t5
  obtain ⟨o5, k5⟩ := hone_of hone 5 f5 rfl
  obtain ⟨n6, t6⟩ := t6
  obtain ⟨o6, k6⟩ := hone_of hone 6 f6 rfl
  obtain ⟨n7, t7⟩ := t7
  obtain ⟨o7, k7⟩ := hone_of hone 7 f7 rfl
  have u0 := DataW.trod_le (show n0 ≤ n0 + n1 + n2 + n3 + n4 + n5 + n6 + n7 by omega) t0
  have u1 := DataW.trod_le (show n1 ≤ n0 + n1 + n2 + n3 + n4 + n5 + n6 + n7 by omega) t1
  have u2 := DataW.trod_le (show n2 ≤ n0 + n1 + n2 + n3 + n4 + n5 + n6 + n7 by omega) t2
  have u3 := DataW.trod_le (show n3 ≤ n0 + n1 + n2 + n3 + n4 + n5 + n6 + n7 by omega) t3
  have u4 := DataW.trod_le (show n4 ≤ n0 + n1 + n2 + n3 + n4 + n5 + n6 + n7 by omega) t4
  have u5 := DataW.trod_le (show n5 ≤ n0 + n1 + n2 + n3 + n4 + n5 + n6 + n7 by omega) t5
  have u6 := DataW.trod_le (show n6 ≤ n0 + n1 + n2 + n3 + n4 + n5 + n6 + n7 by omega) t6
  have u7 := DataW.trod_le (show n7 ≤ n0 + n1 + n2 + n3 + n4 + n5 + n6 + n7 by omega) t7
  have ts := trod_struct_mk (enc := enc) (w := w) (base := base) (spare := spare) (held := held) (n := n0 + n1 + n2 + n3 + n4 + n5 + n6 + n7) (xs := [y0, y1, y2, y3, y4, y5, y6, y7]) (cs := [v0, v1, v2, v3, v4, v5, v6, v7]) hs (by simp [hC]) (by simp [o0, k0, u0, o1, k1, u1, o2, k2, u2, o3, k3, u3, o4, k4, u4, o5, k5, u5, o6, k6, u6, o7, k7, u7])
  exact ⟨_, by simpa [Value.cells] using ts⟩
end

theorem cells32 : Tryd.prog.cellsOf 32 = 8 := by kernel_rfl
theorem und3 : Tryd.checked.prog.underlying 3 = some (.int .i64) := Tryd.underlying3
theorem und5 : Tryd.checked.prog.underlying 5 = some (.int .u8) := Tryd.underlying5
theorem und2 : Tryd.checked.prog.underlying 2 = some (.int .i64) := Tryd.underlying2
theorem und4 : Tryd.checked.prog.underlying 4 = some .bool := Tryd.underlying4
abbrev laidL : List (String × DataW Unit) := [("math/bits.deBruijn32tab", Rows.laid_math_bits_deBruijn32tab), ("math/bits.deBruijn64tab", Rows.laid_math_bits_deBruijn64tab), ("internal/strconv.uint64pow10", Rows.laid_internal_strconv_uint64pow10)]
theorem door_met (os : Os) (args : Array Value) : laidMetH Tryd.prog laidL ((World.doorLaid Tryd.prog 600 os).forCall (fun _ _ => 0) ⟨#[], args, []⟩).memory :=
  laidMetH_of_parts3 (fuel := 8) (laidMet_of_run' 8 (by kernel_rfl) (by kernel_rfl)) (by kernel_rfl) (by kernel_rfl)
theorem of_laid {W : World} (h : laidMetH Tryd.prog laidL W) : Pure.TB W := by
  rw [MakeChecks.laidMetH_plain _ _ _ (by kernel_rfl)] at h
  have hT : Lib.TabIs Tryd.prog W "internal/strconv.uint64pow10" .u64 Lib.pow10Tab := Lib.tabIs_of_head (g := 0) (t := 142) (e := 124) (n := 20) (by kernel_rfl) (by kernel_rfl) Tryd.underlying142 Tryd.underlying124 (by kernel_rfl) (by kernel_rfl) (laidMet.tail (laidMet.tail h))
  intro w' hb
  exact var?_below (g := 0) hb (by kernel_rfl) (World.block_lt_of_cell? W ⟨0, 0, none⟩ (hT.cell (g := 0) (by kernel_rfl) 0 (by decide))) hT
set_option maxRecDepth 100000 in
theorem lifted (os : Os) (started : os.Started) (H : Type) (enc : TypeId × Value → H) :
    ReturnsInHanded {} Tryd.checked os 5 .any (fun w args => (Rows.reportCyclesSpec.pre enc Tryd.prog Tryd.f5 [] false w args ∧ laidMetH Tryd.prog laidL w) ∧ sizedMet enc Tryd.prog Tryd.f5 (OpenSpec.ofChange Rows.reportCyclesSpec) false w args)
      (Rows.reportCyclesSpec.post enc Tryd.prog Tryd.f5 false true false false) := by
  refine returnsInHanded_of_change_and (C := Tryd.checked) (X := fun w _ => laidMetH Tryd.prog laidL w) (fun _ _ _ hh h => h.of_heap hh) own started (by kernel_rfl) Tryd.func5
    (ChangeSpec.witness_shaped (enc := enc) (C := Tryd.checked) (os := os) (X := fun w _ => laidMetH Tryd.prog laidL w) false (World.doorLaid Tryd.prog 600 os) #[.agg #[.int .i64 0, .int .i64 0, .int .u8 0, .int .i64 0, .int .i64 0, .int .i64 0, .int .i64 0, .bool false], .bool false] 8 rfl (World.shaped_of_RefB (by kernel_rfl) (by kernel_rfl)) (by kernel_rfl) (by kernel_rfl) (by kernel_rfl) (door_met os _)) ?_
  intro W base args ds gs before hval0 hW _ _ hL _
  have hval : ∀ (j : Nat) t v, Tryd.f5.params[j]? = some t → args[j]? = some v → Value.okWide Tryd.prog W .any base t v := hval0
  have hW' := hW
  obtain ⟨p, q, hA0, hV, rfl, hfz, hnd⟩ := hW
  have hA : DataW.TrodAll enc Tryd.prog W 0 (fun _ => true) true Tryd.f5.params.toList args.toList ds p := hA0
  rw [Tryd.params5] at hA hval
  obtain ⟨v0, vs0, d0, ds0, p0, q0, hargs, rfl, rfl, h0, r0⟩ := trodAll_cons hA
  obtain ⟨v1, vs1, d1, ds1, p1, q1, rfl, rfl, rfl, h1, r1⟩ := trodAll_cons r0
  obtain ⟨rfl, rfl, rfl⟩ := trodAll_nil r1
  obtain rfl : args = #[v0, v1] := by cases args; simp_all
  obtain ⟨rfl, rfl⟩ := trodVars_none hV
  obtain ⟨c0_0, c0_1, c0_2, c0_3, c0_4, c0_5, c0_6, c0_7, y0_0, y0_1, y0_2, y0_3, y0_4, y0_5, y0_6, y0_7, m0, rfl, rfl, rfl, hy0_0, hy0_1, hy0_2, hy0_3, hy0_4, hy0_5, hy0_6, hy0_7⟩ := open_agg8 Tryd.underlying32 (by kernel_rfl) cells32 (hval 0 32 v0 rfl rfl) h0
  obtain ⟨a0_0, e0_0, rfl, w0_0⟩ := DataW.trod_int Tryd.underlying3 hy0_0
  obtain ⟨a0_1, e0_1, rfl, w0_1⟩ := DataW.trod_int Tryd.underlying3 hy0_1
  obtain ⟨a0_2, e0_2, rfl, w0_2⟩ := DataW.trod_int Tryd.underlying5 hy0_2
  obtain ⟨a0_3, e0_3, rfl, w0_3⟩ := DataW.trod_int Tryd.underlying2 hy0_3
  obtain ⟨a0_4, e0_4, rfl, w0_4⟩ := DataW.trod_int Tryd.underlying2 hy0_4
  obtain ⟨a0_5, e0_5, rfl, w0_5⟩ := DataW.trod_int Tryd.underlying3 hy0_5
  obtain ⟨a0_6, e0_6, rfl, w0_6⟩ := DataW.trod_int Tryd.underlying3 hy0_6
  obtain ⟨a0_7, e0_7, rfl⟩ := DataW.trod_bool Tryd.underlying4 hy0_7
  simp only [List.cons.injEq, and_true] at e0_0 e0_1 e0_2 e0_3 e0_4 e0_5 e0_6 e0_7
  subst e0_0 e0_1 e0_2 e0_3 e0_4 e0_5 e0_6 e0_7
  obtain ⟨a1, rfl, rfl, rfl⟩ := open_bool Tryd.underlying4 (hval 1 4 v1 rfl rfl) h1
  clear hA0 hval0
  refine (Pure.reportCycles_calls a0_0 a0_1 a0_2 a0_3 a0_4 a0_5 a0_6 a0_7 a1 W w0_0 w0_1 w0_2 w0_3 w0_4 w0_5 w0_6 (of_laid hL)).mono fun e W' ⟨he, bel⟩ => ?_
  subst he
  exact ⟨_, rfl, _, _, _, [], _, [], hW', trodAll_mk1 (shut_bool Tryd.underlying4 _), (trodAll_cons_mk (shut_agg8 (y0 := (.lit (.int .i64 a0_0), [])) (y1 := (.lit (.int .i64 a0_1), [])) (y2 := (.lit (.int .u8 a0_2), [])) (y3 := (.lit (.int .i64 a0_3), [])) (y4 := (.lit (.int .i64 a0_4), [])) (y5 := (.lit (.int .i64 a0_5), [])) (y6 := (.lit (.int .i64 a0_6), [])) (y7 := (.lit (.bool a0_7), [])) Tryd.underlying32 (by kernel_rfl) cells32 ⟨1, by simp [DataW.trod, und3, w0_0]⟩ ⟨1, by simp [DataW.trod, und3, w0_1]⟩ ⟨1, by simp [DataW.trod, und5, w0_2]⟩ ⟨1, by simp [DataW.trod, und2, w0_3]⟩ ⟨1, by simp [DataW.trod, und2, w0_4]⟩ ⟨1, by simp [DataW.trod, und3, w0_5]⟩ ⟨1, by simp [DataW.trod, und3, w0_6]⟩ ⟨1, by simp [DataW.trod, und4]⟩) (trodAll_cons_mk (shut_bool Tryd.underlying4 a1) trodAll_mk0)), rfl, bel.frame _, fun h => by cases h⟩
theorem over : Rows.reportCyclesRow.holds Tryd.pinned (OpenSpec.ofChange Rows.reportCyclesSpec) :=
  OpenClaim.holds_of_wide 5 Tryd.f5 rfl rfl rfl rfl rfl rfl rfl ⟨rfl, rfl, rfl, rfl, rfl⟩ rfl rfl rfl rfl rfl (by kernel_rfl) Tryd.func5 (by kernel_rfl)
    (of_decide_eq_true (by kernel_rfl)) (by unfold Func.isWrapper; first | (rw [if_pos (by decide +kernel)]; kernel_rfl) | (rw [if_neg (by decide +kernel)]; exact ⟨rfl, rfl⟩))
    (fun os started H enc _ => lifted os started H enc)
theorem holds : Rows.ReportCyclesSaid := over
/-- The tied card. -/
theorem proved : Rows.ReportCyclesCardSaid :=
  Claim7.holds_tied_plain_at .later [] [.data, .data, .data] true (true, "3c442ef8298031a069603e1a34f7bb486961d03500de3b2a176256ecab2c087c") false
    holds (fun _ h => by cases h) (by kernel_rfl) (fun _ h => by cases h) reportCycles_row_tie rfl ⟨rfl, rfl⟩ (by kernel_rfl) rfl
    (fun f fn hf hfn => by
      obtain rfl : f = 5 := Option.some.inj ((show Tryd.prog.funcNamed "paybook/paybooklaw23.ReportCycles" = some 5 by kernel_rfl).symm.trans hf) |>.symm
      obtain rfl : fn = Tryd.f5 := (Option.some.inj (Tryd.func5.symm.trans hfn)).symm
      exact ⟨by kernel_rfl, fun j t ht => by
        rw [Tryd.params5] at ht
        have hm : t ∈ [32, 4] := by simpa using Array.mem_of_getElem? ht
        have hall : ([32, 4].all fun u => !Tryd.prog.wantsStandIn u) = true := by kernel_rfl
        exact (show Tryd.prog.wantsStandIn t = false by simpa using List.all_eq_true.1 hall t hm)⟩)
    (by kernel_rfl)
#print axioms proved
end Go.Proofs.YtnpcodfeggcdbaaDoor.reportCycles
