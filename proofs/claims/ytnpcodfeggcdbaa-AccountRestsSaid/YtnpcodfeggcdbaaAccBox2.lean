/- More of a subscription's functions over blocks. -/
import Derived.Test.YtnpcodfeggcdbaaAccBox
import Derived.Test.YtnpcodfeggcdbaaPAccx11
import Derived.Test.YtnpcodfeggcdbaaPAcct
import Derived.Test.YtnpcodfeggcdbaaPAccs
set_option linter.unusedVariables false
set_option linter.unusedSimpArgs false
namespace Go.Proofs.Ytnpcodfeggcdbaa.Pure
open Go.RowKit Go.Proofs.Ytnpcodfeggcdbaa.PAcc Go.Proofs.YtnpcodfeggcdbaaW.PrintWords Go.Proofs.YtnpcodfeggcdbaaW.PrintLast
open Go.Proofs.Ytnpcodfeggcdbaa Go.Proofs.YtnpcodfeggcdbaaW.PrintMore
def skipF (a : Ac) := account_Skip.f a.st a.pl a.an a.ix a.ct a.cr a.sk a.op a.dn a.up a.rf a.sp a.pd
theorem skip_c (a b : Ac) (er : Int) (s : Value) (w : World) (hr : Aside0 (Rd w s a.op)) (h : skipF a = some (b.t er)) : Calls Try.prog 14 #[.agg (a.cs s)] w (Out w b er) := by
  obtain ⟨A, c, rfl, hc, hC⟩ := hr.out.get
  exact (account_Skip.calls _ _ _ _ _ _ _ A c _ _ _ _ _ _ _ _ _ _ _ _ _ _ _ _ _ _ _ _ w hC hc h).mono (fun e w' ⟨v, he, hR, hb⟩ => ⟨v, he, Rd.of hR, hb⟩)
def pauseF (a : Ac) := account_Pause.f a.st a.pl a.an a.ix a.ct a.cr a.sk a.op a.dn a.up a.rf a.sp a.pd
theorem pause_c (a b : Ac) (er : Int) (s : Value) (w : World) (hr : Aside0 (Rd w s a.op)) (h : pauseF a = some (b.t er)) : Calls Try.prog 16 #[.agg (a.cs s)] w (Out w b er) := by
  obtain ⟨A, c, rfl, hc, hC⟩ := hr.out.get
  exact (account_Pause.calls _ _ _ _ _ _ _ A c _ _ _ _ _ _ _ _ _ _ _ _ _ _ _ _ _ _ _ _ w hC hc h).mono (fun e w' ⟨v, he, hR, hb⟩ => ⟨v, he, Rd.of hR, hb⟩)
def resumeF (a : Ac) := account_Resume.f a.st a.pl a.an a.ix a.ct a.cr a.sk a.op a.dn a.up a.rf a.sp a.pd
theorem resume_c (a b : Ac) (er : Int) (s : Value) (w : World) (hr : Aside0 (Rd w s a.op)) (h : resumeF a = some (b.t er)) : Calls Try.prog 17 #[.agg (a.cs s)] w (Out w b er) := by
  obtain ⟨A, c, rfl, hc, hC⟩ := hr.out.get
  exact (account_Resume.calls _ _ _ _ _ _ _ A c _ _ _ _ _ _ _ _ _ _ _ _ _ _ _ _ _ _ _ _ w hC hc h).mono (fun e w' ⟨v, he, hR, hb⟩ => ⟨v, he, Rd.of hR, hb⟩)
def cancelF (k : Nat) (a : Ac) := account_Cancel.f k a.st a.pl a.an a.ix a.ct a.cr a.sk a.op a.dn a.up a.rf a.sp a.pd
theorem cancel_c (k : Nat) (a b : Ac) (er : Int) (s : Value) (w : World) (hr : Aside0 (Rd w s a.op)) (h : cancelF k a = some (b.t er)) : Calls Try.prog 18 #[.agg (a.cs s)] w (Out w b er) := by
  obtain ⟨A, c, rfl, hc, hC⟩ := hr.out.get
  exact (account_Cancel.calls k _ _ _ _ _ _ _ A c _ _ _ _ _ _ _ _ _ _ _ _ _ _ _ _ _ _ _ _ w hC hc h).mono (fun e w' ⟨v, he, hR, hb⟩ => ⟨v, he, Rd.of hR, hb⟩)
/-- No account: what an error comes with. -/
def noA : Ac := ⟨0, 0, 0, 0, 0, 0, false, [], 0, 0, 0, 0, 0⟩
set_option maxHeartbeats 1000000 in
set_option maxRecDepth 100000 in
/-- Another card for a subscription that is at its end. -/
theorem card_no (a : Ac) (s : Value) (w : World) (h : a.st = 3) : Calls Try.prog 19 #[.agg (a.cs s)] w (Out w noA 8) := by
  have HB := Aside0.mk (Below.refl w.heap.size w)
  go_enter Try.func19, Try.ntmps19
  go_wp2_with (first | ((with_reducible refine gate_dst (N := 1) rfl ?_); refine box_event rfl (N := 1) rfl (cs := (a.cs s)) (t := 31) ?hr ?_; (case hr => first | (go_simp; done) | (go_simp; rfl)); intro g1 hg w2 hB hb; have G1 := Aside0.mk (Nat.le_trans (below_size HB.out) (Nat.le_of_eq hg.symm)); clear hg; replace HB := hst_ HB hb; have B1 := Aside0.mk hB; clear hB; clear hb) | ((with_reducible refine gate_dst (N := 2) rfl ?_); refine box_event rfl (N := 2) rfl (cs := (noA.cs (.slice none 0 0))) (t := 31) ?hr ?_; (case hr => first | (go_simp; done) | (go_simp; rfl)); intro g2 hg w3 hB hb; have G2 := Aside0.mk (Nat.le_trans (below_size HB.out) (Nat.le_of_eq hg.symm)); clear hg; replace HB := hst_ HB hb; replace B1 := bst B1 hb; have B2 := Aside0.mk hB; clear hB; clear hb; have z0 : w3.cell? ⟨g1, 0, none⟩ = some (.int .u8 3) := (blk_cell B1.out 0).trans (by show some (Value.int .u8 a.st) = _; rw [h])) | ((with_reducible refine gate_ (.store 31 (.tmp 2) (.tmp 13)) rfl ?_); refine putB rfl rfl 31 (.tmp 2) (.tmp 13) rfl rfl B2.out (noA.cs (.slice none 0 0)) rfl (by kernel_rfl) rfl (noA.one rfl) ?_; intro w4 hB hL hk hz; replace HB := Aside0.mk (hL _ _ G2.out HB.out); replace B2 := Aside0.mk hB; clear hB hL hk hz))
  refine bodyPost_ret (results_ct rfl _ _ g2 31 (noA.cs (.slice none 0 0)) (0, 0) _ rfl B2.out Try.underlying31 rfl (by kernel_rfl)) rfl ?_
  exact ⟨.slice none 0 0, rfl, Rd.nil_ _, HB.out⟩
set_option maxHeartbeats 1000000 in
set_option maxRecDepth 100000 in
/-- Changing a subscription that is at its end. -/
theorem change_no (a : Ac) (p q : Pl) (n t : Int) (s : Value) (w : World) (h : a.st = 3) : Calls Try.prog 15 #[.agg (a.cs s), .agg p.cs, .int .i64 n, .agg q.cs, .int .i64 t] w (Out w noA 8) := by
  have HB := Aside0.mk (Below.refl w.heap.size w)
  go_enter Try.func15, Try.ntmps15
  go_wp2_with (first | ((with_reducible refine gate_dst (N := 5) rfl ?_); refine box_event rfl (N := 5) rfl (cs := (a.cs s)) (t := 31) ?hr ?_; (case hr => first | (go_simp; done) | (go_simp; rfl)); intro g5 hg w2 hB hb; have G5 := Aside0.mk (Nat.le_trans (below_size HB.out) (Nat.le_of_eq hg.symm)); clear hg; replace HB := hst_ HB hb; have B5 := Aside0.mk hB; clear hB; clear hb) | ((with_reducible refine gate_dst (N := 6) rfl ?_); refine box_event rfl (N := 6) rfl (cs := p.cs) (t := 25) ?hr ?_; (case hr => first | (go_simp; done) | (go_simp; rfl)); intro g6 hg w3 hB hb; have G6 := Aside0.mk (Nat.le_trans (below_size HB.out) (Nat.le_of_eq hg.symm)); clear hg; replace HB := hst_ HB hb; replace B5 := bst B5 hb; have B6 := Aside0.mk hB; clear hB; clear hb) | ((with_reducible refine gate_dst (N := 8) rfl ?_); refine box_event rfl (N := 8) rfl (cs := q.cs) (t := 25) ?hr ?_; (case hr => first | (go_simp; done) | (go_simp; rfl)); intro g8 hg w4 hB hb; have G8 := Aside0.mk (Nat.le_trans (below_size HB.out) (Nat.le_of_eq hg.symm)); clear hg; replace HB := hst_ HB hb; replace B5 := bst B5 hb; replace B6 := bst B6 hb; have B8 := Aside0.mk hB; clear hB; clear hb) | ((with_reducible refine gate_dst (N := 10) rfl ?_); refine box_event rfl (N := 10) rfl (cs := (noA.cs (.slice none 0 0))) (t := 31) ?hr ?_; (case hr => first | (go_simp; done) | (go_simp; rfl)); intro g10 hg w5 hB hb; have G10 := Aside0.mk (Nat.le_trans (below_size HB.out) (Nat.le_of_eq hg.symm)); clear hg; replace HB := hst_ HB hb; replace B5 := bst B5 hb; replace B6 := bst B6 hb; replace B8 := bst B8 hb; have B10 := Aside0.mk hB; clear hB; clear hb; have z0 : w5.cell? ⟨g5, 0, none⟩ = some (.int .u8 3) := (blk_cell B5.out 0).trans (by show some (Value.int .u8 a.st) = _; rw [h])) | ((with_reducible refine gate_ (.store 31 (.tmp 10) (.tmp 27)) rfl ?_); refine putB rfl rfl 31 (.tmp 10) (.tmp 27) rfl rfl B10.out (noA.cs (.slice none 0 0)) rfl (by kernel_rfl) rfl (noA.one rfl) ?_; intro w6 hB hL hk hz; replace HB := Aside0.mk (hL _ _ G10.out HB.out); replace B10 := Aside0.mk hB; clear hB hL hk hz))
  refine bodyPost_ret (results_ct rfl _ _ g10 31 (noA.cs (.slice none 0 0)) (0, 0) _ rfl B10.out Try.underlying31 rfl (by kernel_rfl)) rfl ?_
  exact ⟨.slice none 0 0, rfl, Rd.nil_ _, HB.out⟩
end Go.Proofs.Ytnpcodfeggcdbaa.Pure
