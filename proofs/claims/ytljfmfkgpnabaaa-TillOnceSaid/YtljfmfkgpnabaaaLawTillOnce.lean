/- TillOnce: a charge that is asked again and again is taken once, as is what is given back. -/
import Derived.Test.YtljfmfkgpnabaaaRows
import Derived.Test.YtljfmfkgpnabaaaTillOnceWalk
import Derived.WalkKit
import Derived.ProofKit
import Derived.OpenShut
import Derived.ShutString
import Derived.ChangeOld
import Derived.Below
import Derived.SizedLaws
import Derived.Lib.SmallJoins
namespace Go.Proofs.Ytljfmfkgpnabaaa.tillOnce
open Go.Joins Go.ChangeShapes Go.WideShapes Go.ChangeAt Go.RowKit
open Go.ChangeMaps (open_string shut_string)
set_option linter.unusedVariables false
theorem own : ownKnob Try.prog.godebug = none := by kernel_rfl
section
open Go.Deep
variable {H : Type} {enc : TypeId × Value → H} {P : Program} {w : World} {base : Nat} {spare : Nat → Bool} {held : Bool}
theorem array6 {α : Type} {cs : Array α} (h : cs.size = 6) : ∃ c0 c1 c2 c3 c4 c5, cs = #[c0, c1, c2, c3, c4, c5] := by
  obtain ⟨l⟩ := cs
  match l, h with
  | [c0, c1, c2, c3, c4, c5], _ => exact ⟨c0, c1, c2, c3, c4, c5, rfl⟩
theorem open_agg6 {r : Reach} {b0 : Nat} {t : TypeId} {f0 f1 f2 f3 f4 f5 : Field} {v : Value} {d : DataW H} {p : List MemPlace} (hs : P.underlying t = some (.struct #[f0, f1, f2, f3, f4, f5])) (hone : oneCellFields P #[f0, f1, f2, f3, f4, f5] = true) (hC : P.cellsOf t = 6) (hv : Value.okWide P w r b0 t v) (h : DataW.Trod enc P w base spare held t v d p) :
    ∃ (v0 v1 v2 v3 v4 v5 : Value) (y0 y1 y2 y3 y4 y5 : DataW H × List MemPlace) (n : Nat), v = .agg #[v0, v1, v2, v3, v4, v5] ∧ d = .agg [y0.1, y1.1, y2.1, y3.1, y4.1, y5.1] ∧ p = y0.2 ++ (y1.2 ++ (y2.2 ++ (y3.2 ++ (y4.2 ++ y5.2)))) ∧ DataW.trod enc P w base spare held n f0.type [v0] = some y0 ∧ DataW.trod enc P w base spare held n f1.type [v1] = some y1 ∧ DataW.trod enc P w base spare held n f2.type [v2] = some y2 ∧ DataW.trod enc P w base spare held n f3.type [v3] = some y3 ∧ DataW.trod enc P w base spare held n f4.type [v4] = some y4 ∧ DataW.trod enc P w base spare held n f5.type [v5] = some y5 := by
  obtain ⟨cs, rfl, hsz⟩ := okWide_struct hs hv
  obtain ⟨c0, c1, c2, c3, c4, c5, rfl⟩ := array6 (hsz.trans hC)
  obtain ⟨fuel, hf⟩ := h
  obtain ⟨xs, n, _, hx, hl, hlen, hf⟩ := DataW.trod_struct hs hf
  match xs, hlen with
  | [y0, y1, y2, y3, y4, y5], _ =>
    have h0 := hf 0 f0 rfl
    obtain ⟨o0, k0⟩ := hone_of hone 0 f0 rfl
    have h1 := hf 1 f1 rfl
    obtain ⟨o1, k1⟩ := hone_of hone 1 f1 rfl
    have h2 := hf 2 f2 rfl
    obtain ⟨o2, k2⟩ := hone_of hone 2 f2 rfl
    have h3 := hf 3 f3 rfl
    obtain ⟨o3, k3⟩ := hone_of hone 3 f3 rfl
    have h4 := hf 4 f4 rfl
    obtain ⟨o4, k4⟩ := hone_of hone 4 f4 rfl
    have h5 := hf 5 f5 rfl
    obtain ⟨o5, k5⟩ := hone_of hone 5 f5 rfl
    simp only [Prod.mk.injEq] at hx
    exact ⟨c0, c1, c2, c3, c4, c5, y0, y1, y2, y3, y4, y5, n, rfl, by simpa using hx.1, by simpa using hx.2, by simpa [Value.cells, o0, k0] using h0, by simpa [Value.cells, o1, k1] using h1, by simpa [Value.cells, o2, k2] using h2, by simpa [Value.cells, o3, k3] using h3, by simpa [Value.cells, o4, k4] using h4, by simpa [Value.cells, o5, k5] using h5⟩
theorem shut_agg6 {t : TypeId} {f0 f1 f2 f3 f4 f5 : Field} {v0 v1 v2 v3 v4 v5 : Value} {y0 y1 y2 y3 y4 y5 : DataW H × List MemPlace} (hs : P.underlying t = some (.struct #[f0, f1, f2, f3, f4, f5])) (hone : oneCellFields P #[f0, f1, f2, f3, f4, f5] = true) (hC : P.cellsOf t = 6)
    (t0 : ∃ n, DataW.trod enc P w base spare held n f0.type [v0] = some y0) (t1 : ∃ n, DataW.trod enc P w base spare held n f1.type [v1] = some y1) (t2 : ∃ n, DataW.trod enc P w base spare held n f2.type [v2] = some y2) (t3 : ∃ n, DataW.trod enc P w base spare held n f3.type [v3] = some y3) (t4 : ∃ n, DataW.trod enc P w base spare held n f4.type [v4] = some y4) (t5 : ∃ n, DataW.trod enc P w base spare held n f5.type [v5] = some y5) :
    DataW.Trod enc P w base spare held t (.agg #[v0, v1, v2, v3, v4, v5]) (.agg [y0.1, y1.1, y2.1, y3.1, y4.1, y5.1]) (y0.2 ++ (y1.2 ++ (y2.2 ++ (y3.2 ++ (y4.2 ++ y5.2))))) := by
  obtain ⟨n0, t0⟩ := t0
  obtain ⟨o0, k0⟩ := hone_of hone 0 f0 rfl
  obtain ⟨n1, t1⟩ := t1
  obtain ⟨o1, k1⟩ := hone_of hone 1 f1 rfl
  obtain ⟨n2, t2⟩ := t2
  obtain ⟨o2, k2⟩ := hone_of hone 2 f2 rfl
  obtain ⟨n3, t3⟩ := t3
  obtain ⟨o3, k3⟩ := hone_of hone 3 f3 rfl
  obtain ⟨n4, t4⟩ := t4
  obtain ⟨o4, k4⟩ := hone_of hone 4 f4 rfl
  obtain ⟨n5, t5⟩ := t5
  obtain ⟨o5, k5⟩ := hone_of hone 5 f5 rfl
  have u0 := DataW.trod_le (show n0 ≤ n0 + n1 + n2 + n3 + n4 + n5 by omega) t0
  have u1 := DataW.trod_le (show n1 ≤ n0 + n1 + n2 + n3 + n4 + n5 by omega) t1
  have u2 := DataW.trod_le (show n2 ≤ n0 + n1 + n2 + n3 + n4 + n5 by omega) t2
  have u3 := DataW.trod_le (show n3 ≤ n0 + n1 + n2 + n3 + n4 + n5 by omega) t3
  have u4 := DataW.trod_le (show n4 ≤ n0 + n1 + n2 + n3 + n4 + n5 by omega) t4
  have u5 := DataW.trod_le (show n5 ≤ n0 + n1 + n2 + n3 + n4 + n5 by omega) t5
  have ts := trod_struct_mk (enc := enc) (w := w) (base := base) (spare := spare) (held := held) (n := n0 + n1 + n2 + n3 + n4 + n5) (xs := [y0, y1, y2, y3, y4, y5]) (cs := [v0, v1, v2, v3, v4, v5]) hs (by simp [hC]) (by simp [o0, k0, u0, o1, k1, u1, o2, k2, u2, o3, k3, u3, o4, k4, u4, o5, k5, u5])
  exact ⟨_, by simpa [Value.cells] using ts⟩
end

theorem cells56 : Try.prog.cellsOf 56 = 6 := by kernel_rfl
theorem und5 : Try.checked.prog.underlying 5 = some (.int .u8) := Try.underlying5
theorem und3 : Try.checked.prog.underlying 3 = some (.int .i64) := Try.underlying3
theorem und2 : Try.checked.prog.underlying 2 = some (.int .i64) := Try.underlying2
set_option maxRecDepth 100000 in
theorem lifted (os : Os) (started : os.Started) (H : Type) (enc : TypeId × Value → H) :
    ReturnsInHanded {} Try.checked os 10 .any (Rows.tillOnceSpec.pre6 enc Try.prog Try.f10 Rows.tillOnceRow.domain false) (Rows.tillOnceSpec.post enc Try.prog Try.f10 false true false false) := by
  refine returnsInHanded_of_change_sized (C := Try.checked) own started (by kernel_rfl) Try.func10
    (ChangeSpec.witness6 (enc := enc) (C := Try.checked) false ⟨#[], #[.agg #[.int .u8 0, .int .i64 0, .int .i64 0, .int .i64 0, .int .i64 0, .int .u8 0], .int .u8 0, .int .u8 0], []⟩ 8 (by kernel_rfl) (by kernel_rfl) (by kernel_rfl) (by kernel_rfl)) ?_
  intro W base args ds gs before hval0 hW hcnd hsz0 _
  have hsz : (DataW.weightsEach Try.prog (Try.f10.params.toList ++ Rows.tillOnceSpec.plain.varTypes Try.prog) (ds ++ gs)).all (· ≤ reachBytes) = true := hsz0
  have hval : ∀ (j : Nat) t v, Try.f10.params[j]? = some t → args[j]? = some v → Value.okWide Try.prog W .any base t v := hval0
  have hW' := hW
  obtain ⟨p, q, hA0, hV, rfl, hfz, hnd⟩ := hW
  have hA : DataW.TrodAll enc Try.prog W 0 (fun _ => true) true Try.f10.params.toList args.toList ds p := hA0
  rw [Try.params10] at hA hval hsz
  obtain ⟨v0, vs0, d0, ds0, p0, q0, hargs, rfl, rfl, h0, r0⟩ := trodAll_cons hA
  obtain ⟨v1, vs1, d1, ds1, p1, q1, rfl, rfl, rfl, h1, r1⟩ := trodAll_cons r0
  obtain ⟨v2, vs2, d2, ds2, p2, q2, rfl, rfl, rfl, h2, r2⟩ := trodAll_cons r1
  obtain ⟨rfl, rfl, rfl⟩ := trodAll_nil r2
  obtain rfl : args = #[v0, v1, v2] := by cases args; simp_all
  obtain ⟨rfl, rfl⟩ := trodVars_none hV
  obtain ⟨c0_0, c0_1, c0_2, c0_3, c0_4, c0_5, y0_0, y0_1, y0_2, y0_3, y0_4, y0_5, m0, rfl, rfl, rfl, hy0_0, hy0_1, hy0_2, hy0_3, hy0_4, hy0_5⟩ := open_agg6 Try.underlying56 (by kernel_rfl) cells56 (hval 0 56 v0 rfl rfl) h0
  obtain ⟨a0_0, e0_0, rfl, w0_0⟩ := DataW.trod_int Try.underlying5 hy0_0
  obtain ⟨a0_1, e0_1, rfl, w0_1⟩ := DataW.trod_int Try.underlying3 hy0_1
  obtain ⟨a0_2, e0_2, rfl, w0_2⟩ := DataW.trod_int Try.underlying3 hy0_2
  obtain ⟨a0_3, e0_3, rfl, w0_3⟩ := DataW.trod_int Try.underlying3 hy0_3
  obtain ⟨a0_4, e0_4, rfl, w0_4⟩ := DataW.trod_int Try.underlying2 hy0_4
  obtain ⟨a0_5, e0_5, rfl, w0_5⟩ := DataW.trod_int Try.underlying5 hy0_5
  simp only [List.cons.injEq, and_true] at e0_0 e0_1 e0_2 e0_3 e0_4 e0_5
  subst e0_0 e0_1 e0_2 e0_3 e0_4 e0_5
  obtain ⟨a1, rfl, rfl, rfl, w1⟩ := open_int Try.underlying5 (hval 1 5 v1 rfl rfl) h1
  obtain ⟨a2, rfl, rfl, rfl, w2⟩ := open_int Try.underlying5 (hval 2 5 v2 rfl rfl) h2
  clear hA0 hval0 hsz0 hsz
  refine (Pure.tillOnce_calls a0_0 a0_1 a0_2 a0_3 a0_4 a0_5 a1 a2 W w0_0 w0_1 w0_2 w0_3 w0_4 w0_5 w1 w2).mono fun e W' ⟨he, bel⟩ => ?_
  subst he
  exact ⟨_, rfl, _, _, _, [], _, [], hW', trodAll_mk1 (shut_bool Try.underlying4 _), (trodAll_cons_mk (shut_agg6 (y0 := (.lit (.int .u8 a0_0), [])) (y1 := (.lit (.int .i64 a0_1), [])) (y2 := (.lit (.int .i64 a0_2), [])) (y3 := (.lit (.int .i64 a0_3), [])) (y4 := (.lit (.int .i64 a0_4), [])) (y5 := (.lit (.int .u8 a0_5), [])) Try.underlying56 (by kernel_rfl) cells56 ⟨1, by simp [DataW.trod, und5, w0_0]⟩ ⟨1, by simp [DataW.trod, und3, w0_1]⟩ ⟨1, by simp [DataW.trod, und3, w0_2]⟩ ⟨1, by simp [DataW.trod, und3, w0_3]⟩ ⟨1, by simp [DataW.trod, und2, w0_4]⟩ ⟨1, by simp [DataW.trod, und5, w0_5]⟩) (trodAll_cons_mk (shut_int Try.underlying5 w1) (trodAll_cons_mk (shut_int Try.underlying5 w2) trodAll_mk0))), rfl, bel.frame _, fun h => by cases h⟩
theorem over : Rows.tillOnceRow.holds Try.pinned (OpenSpec.ofChange Rows.tillOnceSpec) :=
  OpenClaim.holds_of_wide 10 Try.f10 rfl rfl rfl rfl rfl rfl rfl ⟨rfl, rfl, rfl, rfl, rfl⟩ rfl rfl rfl rfl rfl (by kernel_rfl) Try.func10 (by kernel_rfl)
    (of_decide_eq_true (by kernel_rfl)) (by unfold Func.isWrapper; first | (rw [if_pos (by decide +kernel)]; kernel_rfl) | (rw [if_neg (by decide +kernel)]; exact ⟨rfl, rfl⟩))
    (fun os started H enc _ => lifted os started H enc)
theorem proved : Rows.TillOnceSaid := over
#print axioms proved
end Go.Proofs.Ytljfmfkgpnabaaa.tillOnce
