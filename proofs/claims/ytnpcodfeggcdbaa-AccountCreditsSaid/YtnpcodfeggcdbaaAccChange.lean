/- Changing a subscription within a period: what it comes to. -/
import Derived.Test.YtnpcodfeggcdbaaAccBox
import Derived.Test.YtnpcodfeggcdbaaPAccf
set_option linter.unusedVariables false
set_option linter.unusedSimpArgs false
namespace Go.Proofs.Ytnpcodfeggcdbaa.Pure
open Go.RowKit Go.Proofs.Ytnpcodfeggcdbaa.PAcc Go.Proofs.YtnpcodfeggcdbaaW.PrintWords Go.Proofs.YtnpcodfeggcdbaaW.PrintLast
open Go.Proofs.Ytnpcodfeggcdbaa Go.Proofs.YtnpcodfeggcdbaaW.PrintMore
def noC : Ac := ⟨0, 0, 0, 0, 0, 0, false, [], 0, 0, 0, 0, 0⟩
theorem add_c (x y r er : Int) (w : World) (h : purse_Add.f x y = some (r, er)) : Calls Try.prog 30 #[.int .i64 x, .int .i64 y] w fun e w' => e = .returned (.tuple #[.int .i64 r, .int .i64 er]) ∧ Below w.heap.size w w' := by
  refine (purse_Add.calls x y r er w h).mono ?_
  rintro e w' ⟨he, ⟨nd, rfl⟩⟩
  exact ⟨he, pw_below_drewN (Below.refl _ _) _⟩
theorem pchange_c (k : Nat) (p q : Pl) (l dd back more er : Int) (w : World) (h : plan_Change.f k p.pr p.un p.ev p.tr p.go p.la q.pr q.un q.ev q.tr q.go q.la l dd = some (back, more, er)) :
    Calls Try.prog 29 #[.agg p.cs, .agg q.cs, .int .i64 l, .int .i64 dd] w fun e w' => e = .returned (.tuple #[.int .i64 back, .int .i64 more, .int .i64 er]) ∧ Below w.heap.size w w' :=
  plan_Change.calls k _ _ _ _ _ _ _ _ _ _ _ _ l dd back more er w h
theorem copy_c (a : Ac) (s : Value) (w : World) (hr : Aside0 (Rd w s a.op)) (hl : a.op.length ≤ 1000000000000) : Calls Try.prog 21 #[.agg (a.cs s)] w fun e w' => ∃ s2, e = .returned (.agg (a.cs s2)) ∧ Rd w' s2 a.op ∧ Below w.heap.size w w' := by
  obtain ⟨A, c, rfl, hc, hC⟩ := hr.out.get
  exact (account_Copy.calls _ _ _ _ _ _ _ A c _ _ _ _ _ _ _ _ _ _ _ _ _ _ _ _ _ _ _ w hC hc (copy_eq a hl)).mono (fun e w' ⟨v, he, hR, hb⟩ => ⟨v, he, Rd.of hR, hb⟩)
set_option maxHeartbeats 2000000 in
set_option maxRecDepth 100000 in
/-- Changing a subscription within a period. -/
theorem change_live (ks kc : Nat) (a : Ac) (p q : Pl) (n t first next back more cr2 : Int) (s : Value) (w : World) (R0 : Aside0 (Rd w s a.op)) (hst : a.st = 1) (hn : (n == a.pl) = false) (hl : a.op.length ≤ 1000000000000)
    (hSp : Aside0 (season_Span.f ks a.an p.un p.ev t = some (first, next, 0))) (hix : 0 < a.ix) (hb1 : 0 ≤ first ∧ first ≤ 4000000) (hb2 : 0 ≤ next ∧ next ≤ 4000000) (hb3 : 0 ≤ t ∧ t ≤ 4000000)
    (hCh : Aside0 (plan_Change.f kc p.pr p.un p.ev p.tr p.go p.la q.pr q.un q.ev q.tr q.go q.la (next - t) (next - first) = some (back, more, 0))) (hb4 : 0 ≤ back ∧ back ≤ 1000000000000) (hb5 : 0 ≤ more ∧ more ≤ 1000000000000)
    (hAdd : Aside0 (purse_Add.f a.cr (back - more) = some (cr2, 0))) :
    Calls Try.prog 15 #[.agg (a.cs s), .agg p.cs, .int .i64 n, .agg q.cs, .int .i64 t] w (Out w { a with cr := cr2, an := next, pl := n, ix := 0 } 0) := by
  have HB := Aside0.mk (Below.refl w.heap.size w)
  have hixb : decide (a.ix > 0) = true := by simpa using hix
  go_enter Try.func15, Try.ntmps15
  go_wp2_with (first | ((with_reducible refine gate_dst (N := 5) rfl ?_); refine box_event rfl (N := 5) rfl (cs := (a.cs s)) (t := 31) ?hr ?_; (case hr => first | (go_simp; done) | (go_simp; rfl)); intro g5 hg w2 hB hb; have G5 := Aside0.mk (Nat.le_trans (below_size HB.out) (Nat.le_of_eq hg.symm)); clear hg; replace HB := hst_ HB hb; replace R0 := Rd.st R0 hb; have B5 := Aside0.mk hB; clear hB; clear hb) | ((with_reducible refine gate_dst (N := 6) rfl ?_); refine box_event rfl (N := 6) rfl (cs := p.cs) (t := 25) ?hr ?_; (case hr => first | (go_simp; done) | (go_simp; rfl)); intro g6 hg w3 hB hb; have N5_6 := Aside0.mk (Nat.ne_of_lt (Nat.lt_of_lt_of_le (blk_lt B5.out) (Nat.le_of_eq hg.symm))); have N6_5 := Aside0.mk (Nat.ne_of_gt (Nat.lt_of_lt_of_le (blk_lt B5.out) (Nat.le_of_eq hg.symm))); have G6 := Aside0.mk (Nat.le_trans (below_size HB.out) (Nat.le_of_eq hg.symm)); clear hg; replace HB := hst_ HB hb; replace B5 := bst B5 hb; replace R0 := Rd.st R0 hb; have B6 := Aside0.mk hB; clear hB; clear hb) | ((with_reducible refine gate_dst (N := 8) rfl ?_); refine box_event rfl (N := 8) rfl (cs := q.cs) (t := 25) ?hr ?_; (case hr => first | (go_simp; done) | (go_simp; rfl)); intro g8 hg w4 hB hb; have N5_8 := Aside0.mk (Nat.ne_of_lt (Nat.lt_of_lt_of_le (blk_lt B5.out) (Nat.le_of_eq hg.symm))); have N8_5 := Aside0.mk (Nat.ne_of_gt (Nat.lt_of_lt_of_le (blk_lt B5.out) (Nat.le_of_eq hg.symm))); have N6_8 := Aside0.mk (Nat.ne_of_lt (Nat.lt_of_lt_of_le (blk_lt B6.out) (Nat.le_of_eq hg.symm))); have N8_6 := Aside0.mk (Nat.ne_of_gt (Nat.lt_of_lt_of_le (blk_lt B6.out) (Nat.le_of_eq hg.symm))); have G8 := Aside0.mk (Nat.le_trans (below_size HB.out) (Nat.le_of_eq hg.symm)); clear hg; replace HB := hst_ HB hb; replace B5 := bst B5 hb; replace B6 := bst B6 hb; replace R0 := Rd.st R0 hb; have B8 := Aside0.mk hB; clear hB; clear hb) | ((with_reducible refine gate_dst (N := 10) rfl ?_); refine box_event rfl (N := 10) rfl (cs := (noC.cs (.slice none 0 0))) (t := 31) ?hr ?_; (case hr => first | (go_simp; done) | (go_simp; rfl)); intro g10 hg w5 hB hb; have N5_10 := Aside0.mk (Nat.ne_of_lt (Nat.lt_of_lt_of_le (blk_lt B5.out) (Nat.le_of_eq hg.symm))); have N10_5 := Aside0.mk (Nat.ne_of_gt (Nat.lt_of_lt_of_le (blk_lt B5.out) (Nat.le_of_eq hg.symm))); have N6_10 := Aside0.mk (Nat.ne_of_lt (Nat.lt_of_lt_of_le (blk_lt B6.out) (Nat.le_of_eq hg.symm))); have N10_6 := Aside0.mk (Nat.ne_of_gt (Nat.lt_of_lt_of_le (blk_lt B6.out) (Nat.le_of_eq hg.symm))); have N8_10 := Aside0.mk (Nat.ne_of_lt (Nat.lt_of_lt_of_le (blk_lt B8.out) (Nat.le_of_eq hg.symm))); have N10_8 := Aside0.mk (Nat.ne_of_gt (Nat.lt_of_lt_of_le (blk_lt B8.out) (Nat.le_of_eq hg.symm))); have G10 := Aside0.mk (Nat.le_trans (below_size HB.out) (Nat.le_of_eq hg.symm)); clear hg; replace HB := hst_ HB hb; replace B5 := bst B5 hb; replace B6 := bst B6 hb; replace B8 := bst B8 hb; replace R0 := Rd.st R0 hb; have B10 := Aside0.mk hB; clear hB; clear hb; have z0 : w5.cell? ⟨g5, 0, none⟩ = some (.int .u8 1) := (blk_cell B5.out 0).trans (by show some (Value.int .u8 a.st) = _; rw [hst]); have z1 : w5.cell? ⟨g5, 1, none⟩ = some (.int .i64 a.pl) := (blk_cell B5.out 1).trans rfl) | ((with_reducible refine gate_ (.load 31 (.tmp 5)) rfl ?_); refine loadB rfl 31 (.tmp 5) rfl rfl B5.out Try.underlying31 rfl (by kernel_rfl) ?_))
  clear z0 z1
  with_reducible refine (copy_c a s _ R0 hl).mono ?_
  rintro e w6 ⟨s2, rfl, hr2, hb⟩
  replace HB := hst_ HB hb
  replace B5 := bst B5 hb
  replace B6 := bst B6 hb
  replace B8 := bst B8 hb
  replace B10 := bst B10 hb
  replace R0 := Rd.st R0 hb
  clear hb
  have R2 := Aside0.mk hr2
  clear hr2
  clear R0
  go_wp2_with (first | ((with_reducible refine gate_ (.store 31 (.tmp 5) (.tmp 29)) rfl ?_); refine putB rfl rfl 31 (.tmp 5) (.tmp 29) rfl rfl B5.out (a.cs s2) rfl (by kernel_rfl) rfl (a.one R2.out.one) ?_; intro w7 hB hL hk hz; replace HB := Aside0.mk (hL _ _ G5.out HB.out); replace B6 := bfar B6 N6_5.out hk; replace B8 := bfar B8 N8_5.out hk; replace B10 := bfar B10 N10_5.out hk; replace R2 := Rd.keep R2 B5.out hk (by decide); replace B5 := Aside0.mk hB; clear hB hL hk hz; have f5_2 : w7.cell? ⟨g5, 2, none⟩ = some (.int .i64 a.an) := (blk_cell B5.out 2).trans rfl; have f6_1 : w7.cell? ⟨g6, 1, none⟩ = some (.int .u8 p.un) := (blk_cell B6.out 1).trans rfl; have f6_2 : w7.cell? ⟨g6, 2, none⟩ = some (.int .i64 p.ev) := (blk_cell B6.out 2).trans rfl))
  clear f5_2 f6_1 f6_2
  with_reducible refine (season_Span.calls ks _ _ _ _ first next 0 _ hSp.out).mono ?_
  rintro e w8 ⟨rfl, hb⟩
  replace HB := hst_ HB hb
  replace B5 := bst B5 hb
  replace B6 := bst B6 hb
  replace B8 := bst B8 hb
  replace B10 := bst B10 hb
  replace R2 := Rd.st R2 hb
  clear hb
  have f5_3 : w8.cell? ⟨g5, 3, none⟩ = some (.int .i64 a.ix) := (blk_cell B5.out 3).trans rfl
  go_wp2_with (first | ((with_reducible refine gate_ (.load 25 (.tmp 6)) rfl ?_); refine loadB rfl 25 (.tmp 6) rfl rfl B6.out Try.underlying25 rfl (by kernel_rfl) ?_) | ((with_reducible refine gate_ (.load 25 (.tmp 8)) rfl ?_); refine loadB rfl 25 (.tmp 8) rfl rfl B8.out Try.underlying25 rfl (by kernel_rfl) ?_))
  clear f5_3
  with_reducible refine (pchange_c kc p q _ _ back more 0 _ hCh.out).mono ?_
  rintro e w9 ⟨rfl, hb⟩
  replace HB := hst_ HB hb
  replace B5 := bst B5 hb
  replace B6 := bst B6 hb
  replace B8 := bst B8 hb
  replace B10 := bst B10 hb
  replace R2 := Rd.st R2 hb
  clear hb
  have f5_5 : w9.cell? ⟨g5, 5, none⟩ = some (.int .i64 a.cr) := (blk_cell B5.out 5).trans rfl
  go_wp2_with fail
  clear f5_5
  with_reducible refine (add_c _ _ cr2 0 _ hAdd.out).mono ?_
  rintro e w10 ⟨rfl, hb⟩
  replace HB := hst_ HB hb
  replace B5 := bst B5 hb
  replace B6 := bst B6 hb
  replace B8 := bst B8 hb
  replace B10 := bst B10 hb
  replace R2 := Rd.st R2 hb
  clear hb
  clear B6 B8 N6_8 N8_6 N5_6 N6_5 N5_8 N8_5 N8_10 N10_8 N6_10 N10_6 G6 G8
  go_wp2_with (first | ((with_reducible refine gate_ (.store 2 (.tmp 75) (.tmp 73)) rfl ?_); refine putF rfl rfl 2 (.tmp 75) (.tmp 73) rfl (g := g5) (j := 5) rfl B5.out (.int .i64 cr2) rfl rfl (by kernel_rfl) (by show 5 < 13; omega) rfl (Ac.cs { a with cr := cr2 } s2) rfl ?_; intro w11 hB hL hk hz; replace HB := Aside0.mk (hL _ _ G5.out HB.out); replace R2 := Rd.keep R2 B5.out hk (by decide); replace B10 := bfar B10 N10_5.out hk; replace B5 := Aside0.mk hB; clear hB hL hk hz) | ((with_reducible refine gate_ (.store 3 (.tmp 81) (.tmp 80)) rfl ?_); refine putF rfl rfl 3 (.tmp 81) (.tmp 80) rfl (g := g5) (j := 2) rfl B5.out (.int .i64 next) rfl rfl (by kernel_rfl) (by show 2 < 13; omega) rfl (Ac.cs { a with cr := cr2, an := next } s2) rfl ?_; intro w12 hB hL hk hz; replace HB := Aside0.mk (hL _ _ G5.out HB.out); replace R2 := Rd.keep R2 B5.out hk (by decide); replace B10 := bfar B10 N10_5.out hk; replace B5 := Aside0.mk hB; clear hB hL hk hz) | ((with_reducible refine gate_ (.store 3 (.tmp 86) (.tmp 85)) rfl ?_); refine putF rfl rfl 3 (.tmp 86) (.tmp 85) rfl (g := g5) (j := 1) rfl B5.out (.int .i64 n) rfl rfl (by kernel_rfl) (by show 1 < 13; omega) rfl (Ac.cs { a with cr := cr2, an := next, pl := n } s2) rfl ?_; intro w13 hB hL hk hz; replace HB := Aside0.mk (hL _ _ G5.out HB.out); replace R2 := Rd.keep R2 B5.out hk (by decide); replace B10 := bfar B10 N10_5.out hk; replace B5 := Aside0.mk hB; clear hB hL hk hz) | ((with_reducible refine gate_ (.store 3 (.tmp 87) (.const (.int .i64 0))) rfl ?_); refine putF rfl rfl 3 (.tmp 87) (.const (.int .i64 0)) rfl (g := g5) (j := 3) rfl B5.out (.int .i64 0) rfl rfl (by kernel_rfl) (by show 3 < 13; omega) rfl (Ac.cs { a with cr := cr2, an := next, pl := n, ix := 0 } s2) rfl ?_; intro w14 hB hL hk hz; replace HB := Aside0.mk (hL _ _ G5.out HB.out); replace R2 := Rd.keep R2 B5.out hk (by decide); replace B10 := bfar B10 N10_5.out hk; replace B5 := Aside0.mk hB; clear hB hL hk hz) | ((with_reducible refine gate_ (.load 31 (.tmp 5)) rfl ?_); refine loadB rfl 31 (.tmp 5) rfl rfl B5.out Try.underlying31 rfl (by kernel_rfl) ?_) | ((with_reducible refine gate_ (.store 31 (.tmp 10) (.tmp 88)) rfl ?_); refine putB rfl rfl 31 (.tmp 10) (.tmp 88) rfl rfl B10.out (Ac.cs { a with cr := cr2, an := next, pl := n, ix := 0 } s2) rfl (by kernel_rfl) rfl (Ac.one _ R2.out.one) ?_; intro w15 hB hL hk hz; replace HB := Aside0.mk (hL _ _ G10.out HB.out); replace B5 := bfar B5 N5_10.out hk; replace R2 := Rd.keep R2 B10.out hk (by decide); replace B10 := Aside0.mk hB; clear hB hL hk hz))
  refine bodyPost_ret (results_ct rfl _ _ g10 31 (Ac.cs { a with cr := cr2, an := next, pl := n, ix := 0 } s2) (0, 0) _ rfl B10.out Try.underlying31 rfl (by kernel_rfl)) rfl ?_
  exact ⟨s2, rfl, R2.out, HB.out⟩
end Go.Proofs.Ytnpcodfeggcdbaa.Pure
