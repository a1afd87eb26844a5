/- The law CivilTexts, walked. -/
import Derived.Test.YtljfmfkgpnabaaaDoorPTwox
import Derived.Test.YtljfmfkgpnabaaaDoorPawakex
import Derived.Test.YtljfmfkgpnabaaaDoorParseBase
import Derived.OpenShut
set_option linter.unusedVariables false
set_option linter.unusedSimpArgs false
namespace Go.Proofs.YtljfmfkgpnabaaaDoor.Pure
open Go.RowKit Go.Proofs.YtljfmfkgpnabaaaDoor.PTwo Go.Proofs.YtljfmfkgpnabaaaDoor.Pawake Go.Proofs.YtljfmfkgpnabaaaDoorW.PrintWords Go.Proofs.YtljfmfkgpnabaaaDoorW.PrintLast
open Go.Proofs.YtljfmfkgpnabaaaDoor
attribute [local go_sem] setCell_map
theorem two_f (n : Int) (h0 : 0 ≤ n) (h1 : n ≤ 9999) : paybookref01_Two.f n = some ⟨(Txt.t2 n).toArray⟩ := by
  unfold paybookref01_Two.f
  congr 1
  have e1 : Int.tdiv n 10 = n / 10 := Int.tdiv_eq_ediv_of_nonneg h0
  have e2 : wrap64 (n / 10) = n / 10 := (by unfold wrap64; omega)
  have e3 : Int.tmod (n / 10) 10 = n / 10 % 10 := Int.tmod_eq_emod_of_nonneg (by omega)
  have e4 : Int.tmod n 10 = n % 10 := Int.tmod_eq_emod_of_nonneg h0
  have e5 : wrap64 (48 + n / 10 % 10) = 48 + n / 10 % 10 := (by unfold wrap64; omega)
  have e6 : wrap64 (48 + n % 10) = 48 + n % 10 := (by unfold wrap64; omega)
  rw [e1, e2, e3, e4, e5, e6]
  apply ByteArray.ext
  have f1 : ((48 + n / 10 % 10) % 256).toNat = 48 + (n / 10 % 10).toNat := by omega
  have f2 : ((48 + n % 10) % 256).toNat = 48 + (n % 10).toNat := by omega
  simp [strOfNums, Txt.t2, Txt.dg, f1, f2]
theorem rtwo_calls (n : Int) (w : World) (h0 : 0 ≤ n) (h1 : n ≤ 9999) :
    Calls Tryd.prog 18 #[.int .i64 n] w fun e w' => e = .returned (.string ⟨(Txt.t2 n).toArray⟩) ∧ Below w.heap.size w w' :=
  paybookref01_Two.calls n _ w (two_f n h0 h1)
set_option maxHeartbeats 8000000 in
theorem rtext_calls (y m d : Int) (w : World) (hv : Cal.valid y m d) :
    Calls Tryd.prog 10 #[.agg #[.int .i64 y, .int .i64 m, .int .i64 d]] w fun e w' => e = .returned (.string ⟨(Txt.txt y m d).toArray⟩) ∧ Below w.heap.size w w' := by
  obtain ⟨h1, h2, h3, h4, h5, h6⟩ := hv
  have hmo := Cal.mon_le y m
  have hl4 : (Txt.t2 (y / 100)).length = 2 := by simp [Txt.t2]
  have hl5 : (Txt.t2 y).length = 2 := by simp [Txt.t2]
  have hl6 : (Txt.t2 m).length = 2 := by simp [Txt.t2]
  have hl7 : (Txt.t2 d).length = 2 := by simp [Txt.t2]
  have s1 : ¬ 9223372036854775807 < (Txt.t2 (y / 100)).length + (Txt.t2 y).length := by omega
  have s2 : ¬ 9223372036854775807 < (Txt.t2 (y / 100)).length + (Txt.t2 y).length + 1 := by omega
  have s3 : ¬ 9223372036854775807 < (Txt.t2 (y / 100)).length + (Txt.t2 y).length + 1 + (Txt.t2 m).length := by omega
  have s4 : ¬ 9223372036854775807 < (Txt.t2 (y / 100)).length + (Txt.t2 y).length + 1 + (Txt.t2 m).length + 1 := by omega
  have s5 : ¬ 9223372036854775807 < (Txt.t2 (y / 100)).length + (Txt.t2 y).length + 1 + (Txt.t2 m).length + 1 + (Txt.t2 d).length := by omega
  have e1 : IntKind.i64.wrap (Int.tdiv y 100) = y / 100 := by
    rw [Int.tdiv_eq_ediv_of_nonneg (by omega)]; rw [IntKind.wrap_i64]; omega
  have HE := Aside0.mk e1
  clear hl4 hl5 hl6 hl7 e1
  go_enter Tryd.func10, Tryd.ntmps10
  go_wp2_with fail
  go_region_held3 (fun w' => w'.cell? ⟨w.heap.size, 0, none⟩ = some (.int .i64 y) ∧ w'.cell? ⟨w.heap.size, 1, none⟩ = some (.int .i64 m) ∧ w'.cell? ⟨w.heap.size, 2, none⟩ = some (.int .i64 d)) (go_keep) (first
    | (go_at_call_of 18 (Value.int .i64 (y)); with_reducible refine (rtwo_calls (y) _ (by omega) (by omega)).mono ?_; rintro e w2 ⟨rfl, hb2⟩; have k2_0 : w2.cell? ⟨w.heap.size, 0, none⟩ = some (.int .i64 y) := pw_cell_below hb2 (by first | assumption | go_keep); have k2_1 : w2.cell? ⟨w.heap.size, 1, none⟩ = some (.int .i64 m) := pw_cell_below hb2 (by first | assumption | go_keep); have k2_2 : w2.cell? ⟨w.heap.size, 2, none⟩ = some (.int .i64 d) := pw_cell_below hb2 (by first | assumption | go_keep))
    | (go_at_call_of 18 (Value.int .i64 (m)); with_reducible refine (rtwo_calls (m) _ (by omega) (by omega)).mono ?_; rintro e w3 ⟨rfl, hb3⟩; have k3_0 : w3.cell? ⟨w.heap.size, 0, none⟩ = some (.int .i64 y) := pw_cell_below hb3 (by first | assumption | go_keep); have k3_1 : w3.cell? ⟨w.heap.size, 1, none⟩ = some (.int .i64 m) := pw_cell_below hb3 (by first | assumption | go_keep); have k3_2 : w3.cell? ⟨w.heap.size, 2, none⟩ = some (.int .i64 d) := pw_cell_below hb3 (by first | assumption | go_keep))
    | (go_at_call_of 18 (Value.int .i64 (d)); with_reducible refine (rtwo_calls (d) _ (by omega) (by omega)).mono ?_; rintro e w4 ⟨rfl, hb4⟩; have k4_0 : w4.cell? ⟨w.heap.size, 0, none⟩ = some (.int .i64 y) := pw_cell_below hb4 (by first | assumption | go_keep); have k4_1 : w4.cell? ⟨w.heap.size, 1, none⟩ = some (.int .i64 m) := pw_cell_below hb4 (by first | assumption | go_keep); have k4_2 : w4.cell? ⟨w.heap.size, 2, none⟩ = some (.int .i64 d) := pw_cell_below hb4 (by first | assumption | go_keep))
    | (go_at_call 18; rw [HE.out]; with_reducible refine (rtwo_calls (y / 100) _ (by omega) (by omega)).mono ?_; rintro e w1 ⟨rfl, hb1⟩; have k1_0 : w1.cell? ⟨w.heap.size, 0, none⟩ = some (.int .i64 y) := pw_cell_below hb1 (by first | assumption | go_keep); have k1_1 : w1.cell? ⟨w.heap.size, 1, none⟩ = some (.int .i64 m) := pw_cell_below hb1 (by first | assumption | go_keep); have k1_2 : w1.cell? ⟨w.heap.size, 2, none⟩ = some (.int .i64 d) := pw_cell_below hb1 (by first | assumption | go_keep)))
  have GB : Aside0 (Below w.heap.size w w4) := ⟨below_step (below_step (below_step (below_step (below_drew1 (below_alloc (Below.refl _ _) _)) hb1) hb2) hb3) hb4⟩
  clear hb1 hb2 hb3 hb4
  go_wp2_with fail
  go_ret
  refine ⟨ret_str ?_, GB.out⟩
  rw [show (⟨#[45]⟩ : ByteArray) = ⟨([45] : List UInt8).toArray⟩ from rfl, str_app, str_app, str_app, str_app, str_app]
  rfl
theorem awake_calls (w : World) : Calls Tryd.prog 7 #[] w fun e w' => e = .returned (.bool true) ∧ Below w.heap.size w w' :=
  paybooklaw01_awake.calls 15 true w (awake_yes 15 (by omega))
theorem parse_text (y m d : Int) (w : World) (h : Cal.valid y m d) :
    Calls Tryd.prog 9 #[.string ⟨(Txt.txt y m d).toArray⟩] w fun e w' => e = .returned (.tuple #[.agg #[.int .i64 y, .int .i64 m, .int .i64 d], .int .i64 0]) ∧ Below w.heap.size w w' := by
  obtain ⟨h1, h2⟩ := txt_reads y m d h
  have q := parse_good ⟨(Txt.txt y m d).toArray⟩ w (txt_size y m d) h1 (by rw [h2]; exact h)
  rw [h2] at q
  exact q
set_option maxHeartbeats 8000000 in
theorem texts_any (n0 : Int) (w : World) (b0 : 0 ≤ n0 ∧ n0 ≤ 4294967295) (ht : TB w) (y m d : Int) (hv : Cal.valid y m d) (hn : Cal.num y m d = n0 % 3652059) :
    Calls Tryd.prog 4 #[.int .u32 n0] w fun e w' => e = .returned (.bool true) ∧ Below w.heap.size w w' := by
  have HV := Aside0.mk hv
  have HN := Aside0.mk hn
  have HT := Aside0.mk ht
  clear hv hn ht
  go_enter Tryd.func4, Tryd.ntmps4
  go_wp2_with fail
  with_reducible refine (rof_calls _ _ (by omega) (by omega) y m d HV.out HN.out).mono ?_
  rintro e w1 ⟨rfl, hb⟩
  have GB := Aside0.mk hb
  clear hb
  go_wp2_with fail
  with_reducible refine (text_calls y m d _ HV.out (HT.out.step (below_alloc GB.out _))).mono ?_
  rintro e w2 ⟨rfl, hb⟩
  have B1 := Aside0.mk (blk_below (blk_new w1 _) hb)
  have GB := Aside0.mk (below_step (below_alloc GB.out _) hb)
  clear hb
  go_wp2_with fail
  with_reducible refine (parse_text y m d _ HV.out).mono ?_
  rintro e w3 ⟨rfl, hb⟩
  have B1 := Aside0.mk (blk_below B1.out hb)
  have GB := Aside0.mk (below_step GB.out hb)
  have hl1 := Aside0.mk (blk_lt B1.out)
  clear hb
  go_wp2_with fail
  with_reducible refine (awake_calls _).mono ?_
  rintro e w4 ⟨rfl, hb⟩
  have B1 := Aside0.mk (blk_below (blk_alloc B1.out _) hb)
  have B2 := Aside0.mk (blk_below (blk_new w3 _) hb)
  have GB := Aside0.mk (below_step (below_alloc GB.out _) hb)
  clear hb
  have ka0 : w4.cell? ⟨w1.heap.size, 0, none⟩ = some (.int .i64 y) := (blk_cell B1.out 0).trans rfl
  have ka1 : w4.cell? ⟨w1.heap.size, 1, none⟩ = some (.int .i64 m) := (blk_cell B1.out 1).trans rfl
  have ka2 : w4.cell? ⟨w1.heap.size, 2, none⟩ = some (.int .i64 d) := (blk_cell B1.out 2).trans rfl
  have kb0 : w4.cell? ⟨w3.heap.size, 0, none⟩ = some (.int .i64 y) := (blk_cell B2.out 0).trans rfl
  have kb1 : w4.cell? ⟨w3.heap.size, 1, none⟩ = some (.int .i64 m) := (blk_cell B2.out 1).trans rfl
  have kb2 : w4.cell? ⟨w3.heap.size, 2, none⟩ = some (.int .i64 d) := (blk_cell B2.out 2).trans rfl
  go_wp2_with fail
  with_reducible refine (rtext_calls y m d _ HV.out).mono ?_
  rintro e w5 ⟨rfl, hb⟩
  have B1 := Aside0.mk (blk_below B1.out hb)
  have B2 := Aside0.mk (blk_below B2.out hb)
  have GB := Aside0.mk (below_step GB.out hb)
  clear hb
  have qa0 : w5.cell? ⟨w1.heap.size, 0, none⟩ = some (.int .i64 y) := (blk_cell B1.out 0).trans rfl
  have qa1 : w5.cell? ⟨w1.heap.size, 1, none⟩ = some (.int .i64 m) := (blk_cell B1.out 1).trans rfl
  have qa2 : w5.cell? ⟨w1.heap.size, 2, none⟩ = some (.int .i64 d) := (blk_cell B1.out 2).trans rfl
  have qb0 : w5.cell? ⟨w3.heap.size, 0, none⟩ = some (.int .i64 y) := (blk_cell B2.out 0).trans rfl
  have qb1 : w5.cell? ⟨w3.heap.size, 1, none⟩ = some (.int .i64 m) := (blk_cell B2.out 1).trans rfl
  have qb2 : w5.cell? ⟨w3.heap.size, 2, none⟩ = some (.int .i64 d) := (blk_cell B2.out 2).trans rfl
  go_wp2_with fail
  go_ret
  exact ⟨rfl, GB.out⟩
theorem civilTexts_calls (a0 : Int) (w : World) (w0 : (Lit.int .u32 a0).wf = true) (ht : TB w) :
    Calls Tryd.prog 4 #[.int .u32 a0] w fun e w' => e = .returned (.bool true) ∧ Below w.heap.size w w' := by
  have b1 := bounds_u32 w0
  obtain ⟨y, m, d, hv, hn⟩ := ex_day' (a0 % 3652059) (by omega) (by omega)
  exact texts_any a0 w b1 ht y m d hv hn
end Go.Proofs.YtljfmfkgpnabaaaDoor.Pure
