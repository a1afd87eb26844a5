-- Laid by wip/prt.py over the kit's print (Acc).
import Derived.Test.YtnpcodfeggcdbaaPAccx0
import Derived.Test.YtnpcodfeggcdbaaPAccx2
import Derived.Test.YtnpcodfeggcdbaaPAccx3
namespace Go.Proofs.Ytnpcodfeggcdbaa.PAcc
open Go.RowKit Go.Proofs.YtnpcodfeggcdbaaW.PrintWords Go.Proofs.YtnpcodfeggcdbaaW.PrintLast Go.Proofs.YtnpcodfeggcdbaaW.PrintMore
attribute [local go_sem] max2_int min2_int max_two min_two max_three min_three max_four min_four   -- for this text's walks alone
set_option linter.unusedVariables false
set_option linter.unusedSimpArgs false

theorem cf_account_begin (g : Nat) {W : World} {o : Nat} {a : Addr} (h : a.block ≠ (⟨g, o, none⟩ : Addr).block) (u : Value) : (W.setCell ⟨g, o, none⟩ u).cell? a = W.cell? a := cell_far h u
/-! ### account_begin: function 24 -/
def account_begin.j0 : Nat → Int → Bool → Int → Bool → Int → Int → Int → Int → Int → Int → Bool → List (S37) → Int → Int → Int → Int → Int → Int → Int → Int → Int → Bool → Bool → Option (Int × Int × Int × Int × Int × Int × Bool × (List (S37)) × Int × Int × Int × Int × Int × Int)
  | 0, _, _, _, _, _, _, _, _, _, _, _, _, _, _, _, _, _, _, _, _, _, _, _ => none
  | k + 1, x2, x3, x10, x29, x199000, x199001, x199002, x199003, x199004, x199005, x199006, x199007, x199008, x199009, x199010, x199011, x199012, x200000, x200001, x200002, x200003, x200004, x200005 => if x29 = true then (if x199006 = true then (if x199000 = 2 then ((cycle_Pass.f x10 x2).bind fun bt201 => ((account_close.f x199000 x199001 x199002 x199003 x199004 x199005 true x199007 x199008 x199009 x199010 x199011 x199012 bt201.1 bt201.2.1 bt201.2.2.1 bt201.2.2.2.1 bt201.2.2.2.2.1 bt201.2.2.2.2.2.1 bt201.2.2.2.2.2.2.1 bt201.2.2.2.2.2.2.2).bind fun bt209 => (some (bt209.1, bt209.2.1, bt209.2.2.1, bt209.2.2.2.1, bt209.2.2.2.2.1, bt209.2.2.2.2.2.1, bt209.2.2.2.2.2.2.1, bt209.2.2.2.2.2.2.2.1, bt209.2.2.2.2.2.2.2.2.1, bt209.2.2.2.2.2.2.2.2.2.1, bt209.2.2.2.2.2.2.2.2.2.2.1, bt209.2.2.2.2.2.2.2.2.2.2.2.1, bt209.2.2.2.2.2.2.2.2.2.2.2.2.1, bt209.2.2.2.2.2.2.2.2.2.2.2.2.2)))) else ((cycle_Pass.f x10 x2).bind fun bt225 => ((account_close.f x199000 x199001 x199002 x199003 x199004 x199005 x3 x199007 x199008 x199009 x199010 x199011 x199012 bt225.1 bt225.2.1 bt225.2.2.1 bt225.2.2.2.1 bt225.2.2.2.2.1 bt225.2.2.2.2.2.1 bt225.2.2.2.2.2.2.1 bt225.2.2.2.2.2.2.2).bind fun bt233 => (some (bt233.1, bt233.2.1, bt233.2.2.1, bt233.2.2.2.1, bt233.2.2.2.2.1, bt233.2.2.2.2.2.1, bt233.2.2.2.2.2.2.1, bt233.2.2.2.2.2.2.2.1, bt233.2.2.2.2.2.2.2.2.1, bt233.2.2.2.2.2.2.2.2.2.1, bt233.2.2.2.2.2.2.2.2.2.2.1, bt233.2.2.2.2.2.2.2.2.2.2.2.1, bt233.2.2.2.2.2.2.2.2.2.2.2.2.1, bt233.2.2.2.2.2.2.2.2.2.2.2.2.2))))) else ((cycle_Pass.f x10 x2).bind fun bt249 => ((account_close.f x199000 x199001 x199002 x199003 x199004 x199005 false x199007 x199008 x199009 x199010 x199011 x199012 bt249.1 bt249.2.1 bt249.2.2.1 bt249.2.2.2.1 bt249.2.2.2.2.1 bt249.2.2.2.2.2.1 bt249.2.2.2.2.2.2.1 bt249.2.2.2.2.2.2.2).bind fun bt257 => (some (bt257.1, bt257.2.1, bt257.2.2.1, bt257.2.2.2.1, bt257.2.2.2.2.1, bt257.2.2.2.2.2.1, bt257.2.2.2.2.2.2.1, bt257.2.2.2.2.2.2.2.1, bt257.2.2.2.2.2.2.2.2.1, bt257.2.2.2.2.2.2.2.2.2.1, bt257.2.2.2.2.2.2.2.2.2.2.1, bt257.2.2.2.2.2.2.2.2.2.2.2.1, bt257.2.2.2.2.2.2.2.2.2.2.2.2.1, bt257.2.2.2.2.2.2.2.2.2.2.2.2.2))))) else ((purse_Less.f x200000 x199005).bind fun bt273 => (if bt273.2 = 0 then (if bt273.1 < 0 then ((cycle_Begin.f x10 x2 0 x200000 x200004).bind fun bt275 => ((account_close.f x199000 x199001 x199002 x199003 x199004 (wrap64 (-bt273.1)) x199006 x199007 x199008 x199009 x199010 x199011 x199012 bt275.1 bt275.2.1 bt275.2.2.1 bt275.2.2.2.1 bt275.2.2.2.2.1 bt275.2.2.2.2.2.1 bt275.2.2.2.2.2.2.1 bt275.2.2.2.2.2.2.2).bind fun bt283 => (some (bt283.1, bt283.2.1, bt283.2.2.1, bt283.2.2.2.1, bt283.2.2.2.2.1, bt283.2.2.2.2.2.1, bt283.2.2.2.2.2.2.1, bt283.2.2.2.2.2.2.2.1, bt283.2.2.2.2.2.2.2.2.1, bt283.2.2.2.2.2.2.2.2.2.1, bt283.2.2.2.2.2.2.2.2.2.2.1, bt283.2.2.2.2.2.2.2.2.2.2.2.1, bt283.2.2.2.2.2.2.2.2.2.2.2.2.1, bt283.2.2.2.2.2.2.2.2.2.2.2.2.2)))) else ((cycle_Begin.f x10 x2 bt273.1 x199005 x200004).bind fun bt299 => ((account_close.f x199000 x199001 x199002 x199003 x199004 0 x199006 x199007 x199008 x199009 x199010 x199011 x199012 bt299.1 bt299.2.1 bt299.2.2.1 bt299.2.2.2.1 bt299.2.2.2.2.1 bt299.2.2.2.2.2.1 bt299.2.2.2.2.2.2.1 bt299.2.2.2.2.2.2.2).bind fun bt307 => (some (bt307.1, bt307.2.1, bt307.2.2.1, bt307.2.2.2.1, bt307.2.2.2.2.1, bt307.2.2.2.2.2.1, bt307.2.2.2.2.2.2.1, bt307.2.2.2.2.2.2.2.1, bt307.2.2.2.2.2.2.2.2.1, bt307.2.2.2.2.2.2.2.2.2.1, bt307.2.2.2.2.2.2.2.2.2.2.1, bt307.2.2.2.2.2.2.2.2.2.2.2.1, bt307.2.2.2.2.2.2.2.2.2.2.2.2.1, bt307.2.2.2.2.2.2.2.2.2.2.2.2.2))))) else (none)))
def account_begin.f (k : Nat) (a0_0 : Int) (a0_1 : Int) (a0_2 : Int) (a0_3 : Int) (a0_4 : Int) (a0_5 : Int) (a0_6 : Bool) (l0_7 : List (S37)) (a0_8 : Int) (a0_9 : Int) (a0_10 : Int) (a0_11 : Int) (a0_12 : Int) (a1_0 : Int) (a1_1 : Int) (a1_2 : Int) (a1_3 : Int) (a1_4 : Bool) (a1_5 : Bool) (a2 : Int) (a3 : Bool) : Option (Int × Int × Int × Int × Int × Int × Bool × (List (S37)) × Int × Int × Int × Int × Int × Int) := if a0_0 = 2 then (account_begin.j0 k a2 a3 a0_4 true a0_0 a0_1 a0_2 a0_3 (wrap64 (a0_4 + 1)) a0_5 a0_6 l0_7 a0_8 a0_9 a0_10 a0_11 a0_12 a1_0 a1_1 a1_2 a1_3 a1_4 a1_5) else (if a0_6 = true then (account_begin.j0 k a2 a3 a0_4 true a0_0 a0_1 a0_2 a0_3 (wrap64 (a0_4 + 1)) a0_5 a0_6 l0_7 a0_8 a0_9 a0_10 a0_11 a0_12 a1_0 a1_1 a1_2 a1_3 a1_4 a1_5) else (account_begin.j0 k a2 a3 a0_4 a3 a0_0 a0_1 a0_2 a0_3 (wrap64 (a0_4 + 1)) a0_5 a0_6 l0_7 a0_8 a0_9 a0_10 a0_11 a0_12 a1_0 a1_1 a1_2 a1_3 a1_4 a1_5))
theorem account_begin.mono_l : ∀ k, (∀ y0 y1 y2 y3 y4 y5 y6 y7 y8 y9 y10 y11 y12 y13 y14 y15 y16 y17 y18 y19 y20 y21 y22, LeO (account_begin.j0 k y0 y1 y2 y3 y4 y5 y6 y7 y8 y9 y10 y11 y12 y13 y14 y15 y16 y17 y18 y19 y20 y21 y22) (account_begin.j0 (k + 1) y0 y1 y2 y3 y4 y5 y6 y7 y8 y9 y10 y11 y12 y13 y14 y15 y16 y17 y18 y19 y20 y21 y22))
  | 0 => fun _ _ _ _ _ _ _ _ _ _ _ _ _ _ _ _ _ _ _ _ _ _ _ r h => by simp [account_begin.j0] at h
  | k + 1 => by
    have ih0 := account_begin.mono_l k
    · intro y0 y1 y2 y3 y4 y5 y6 y7 y8 y9 y10 y11 y12 y13 y14 y15 y16 y17 y18 y19 y20 y21 y22
      unfold account_begin.j0
      repeat' first
      | (with_reducible exact ih0 _ _ _ _ _ _ _ _ _ _ _ _ _ _ _ _ _ _ _ _ _ _ _)
      | (with_reducible exact LeO.refl _)
      | (with_reducible exact LeO.none _)
      | (with_reducible refine LeO.ite ?_ ?_)
      | (with_reducible refine LeO.bind ?_ (fun _ => ?_))
      | exact ih0 _ _ _ _ _ _ _ _ _ _ _ _ _ _ _ _ _ _ _ _ _ _ _
      | exact LeO.none _
      | refine LeO.ite ?_ ?_
      | refine LeO.bind ?_ (fun _ => ?_)
theorem account_begin.mono : ∀ a0 a1 a2 a3 a4 a5 a6 a7 a8 a9 a10 a11 a12 a13 a14 a15 a16 a17 a18 a19 a20 k, LeO (account_begin.f k a0 a1 a2 a3 a4 a5 a6 a7 a8 a9 a10 a11 a12 a13 a14 a15 a16 a17 a18 a19 a20) (account_begin.f (k + 1) a0 a1 a2 a3 a4 a5 a6 a7 a8 a9 a10 a11 a12 a13 a14 a15 a16 a17 a18 a19 a20) := by
  intro a0 a1 a2 a3 a4 a5 a6 a7 a8 a9 a10 a11 a12 a13 a14 a15 a16 a17 a18 a19 a20 k
  have ih0 := account_begin.mono_l k
  unfold account_begin.f
  repeat' first
      | (with_reducible exact ih0 _ _ _ _ _ _ _ _ _ _ _ _ _ _ _ _ _ _ _ _ _ _ _)
      | (with_reducible exact LeO.refl _)
      | (with_reducible exact LeO.none _)
      | (with_reducible refine LeO.ite ?_ ?_)
      | (with_reducible refine LeO.bind ?_ (fun _ => ?_))
      | exact ih0 _ _ _ _ _ _ _ _ _ _ _ _ _ _ _ _ _ _ _ _ _ _ _
      | exact LeO.none _
      | refine LeO.ite ?_ ?_
      | refine LeO.bind ?_ (fun _ => ?_)
def account_begin.T5 : Bool × List (List Nat × List Nat) := (true, [([], []), ([], []), ([], []), ([1, 2], [1, 2]), ([0, 3, 3], [0, 3]), ([4], [4]), ([4], [4]), ([5, 4, 0, 1, 2, 3, 4, 5, 6], [5]), ([6, 7, 0, 1, 2, 3, 4, 5, 6, 7], [6])])
def account_begin.B5 : List Nat := [0, 0, 0, 6, 15, 31, 31, 127, 255]
theorem account_begin.tab5 : rtab .any (opsOf Try.f24 5) = account_begin.T5 := by kernel_rfl
theorem account_begin.bits5 : waitsOk account_begin.T5.2 account_begin.B5 = true := by kernel_rfl
def account_begin.T13 : Bool × List (List Nat × List Nat) := (true, [([], []), ([], []), ([], []), ([], []), ([], []), ([], []), ([5], [5]), ([1, 2, 3, 4, 6], [1, 2, 3, 4, 6]), ([0, 7, 7], [0, 7]), ([8], [8]), ([8], [8]), ([9, 8, 0, 1, 2, 3, 4, 5, 6, 7, 8, 9, 10], [9]), ([10, 11, 0, 1, 2, 3, 4, 5, 6, 7, 8, 9, 10, 11], [10])])
def account_begin.B13 : List Nat := [0, 0, 0, 0, 0, 0, 32, 126, 255, 511, 511, 2047, 4095]
theorem account_begin.tab13 : rtab .any (opsOf Try.f24 13) = account_begin.T13 := by kernel_rfl
theorem account_begin.bits13 : waitsOk account_begin.T13.2 account_begin.B13 = true := by kernel_rfl
set_option maxHeartbeats 3000000 in
set_option maxRecDepth 100000 in
theorem account_begin.calls (k : Nat) (a0_0 : Int) (a0_1 : Int) (a0_2 : Int) (a0_3 : Int) (a0_4 : Int) (a0_5 : Int) (a0_6 : Bool) (P0_7_ : Nat → Prop) (u9000_ : Value) (l0_7 : List (S37)) (a0_8 : Int) (a0_9 : Int) (a0_10 : Int) (a0_11 : Int) (a0_12 : Int) (a1_0 : Int) (a1_1 : Int) (a1_2 : Int) (a1_3 : Int) (a1_4 : Bool) (a1_5 : Bool) (a2 : Int) (a3 : Bool) (r1 : Int) (r2 : Int) (r3 : Int) (r4 : Int) (r5 : Int) (r6 : Int) (r7 : Bool) (r8 : List (S37)) (r9 : Int) (r10 : Int) (r11 : Int) (r12 : Int) (r13 : Int) (r14 : Int) (w0 w : World) (hB : Below w0.heap.size w0 w) (ho0_7 : Kd.R k37 37 w w0.heap.size P0_7_ u9000_ l0_7) (h : account_begin.f k a0_0 a0_1 a0_2 a0_3 a0_4 a0_5 a0_6 l0_7 a0_8 a0_9 a0_10 a0_11 a0_12 a1_0 a1_1 a1_2 a1_3 a1_4 a1_5 a2 a3 = some (r1, r2, r3, r4, r5, r6, r7, r8, r9, r10, r11, r12, r13, r14)) :
    Calls Try.prog 24 #[.agg #[.int .u8 a0_0, .int .i64 a0_1, .int .i64 a0_2, .int .i64 a0_3, .int .i64 a0_4, .int .i64 a0_5, .bool a0_6, u9000_, .int .i64 a0_8, .int .i64 a0_9, .int .i64 a0_10, .int .i64 a0_11, .int .i64 a0_12], .agg #[.int .i64 a1_0, .int .u8 a1_1, .int .i64 a1_2, .int .i64 a1_3, .bool a1_4, .bool a1_5], .int .i64 a2, .bool a3] w fun e w' => ∃ v7_ : Value, e = .returned (.tuple #[.agg #[.int .u8 r1, .int .i64 r2, .int .i64 r3, .int .i64 r4, .int .i64 r5, .int .i64 r6, .bool r7, v7_, .int .i64 r9, .int .i64 r10, .int .i64 r11, .int .i64 r12, .int .i64 r13], .int .i64 r14]) ∧ Kd.R k37 37 w' w0.heap.size (fun k_ => (P0_7_ k_ ∨ w.heap.size ≤ k_)) v7_ r8 ∧ Below w0.heap.size w0 w' ∧ Kept w w' (fun k_ => P0_7_ k_) := by
  have hu31 := Try.underlying31
  have hu25 := Try.underlying25
  have HO0_7 := Aside0.mk (show Kd.R k37 37 w w0.heap.size (fun k_ => (P0_7_ k_ ∨ w.heap.size ≤ k_)) u9000_ l0_7 from Kd.R_mono ho0_7 (fun k_ hk => (.inl hk)))
  have HK := Aside0.mk (Kept.refl w (fun k_ => P0_7_ k_))
  have HW0 := Aside0.mk hB.size
  have HB := Aside0.mk hB
  clear hB
  have H : (if a0_0 = 2 then (account_begin.j0 k a2 a3 a0_4 true a0_0 a0_1 a0_2 a0_3 (wrap64 (a0_4 + 1)) a0_5 a0_6 l0_7 a0_8 a0_9 a0_10 a0_11 a0_12 a1_0 a1_1 a1_2 a1_3 a1_4 a1_5) else (if a0_6 = true then (account_begin.j0 k a2 a3 a0_4 true a0_0 a0_1 a0_2 a0_3 (wrap64 (a0_4 + 1)) a0_5 a0_6 l0_7 a0_8 a0_9 a0_10 a0_11 a0_12 a1_0 a1_1 a1_2 a1_3 a1_4 a1_5) else (account_begin.j0 k a2 a3 a0_4 a3 a0_0 a0_1 a0_2 a0_3 (wrap64 (a0_4 + 1)) a0_5 a0_6 l0_7 a0_8 a0_9 a0_10 a0_11 a0_12 a1_0 a1_1 a1_2 a1_3 a1_4 a1_5))) = some (r1, r2, r3, r4, r5, r6, r7, r8, r9, r10, r11, r12, r13, r14) := h
  clear h
  have HC5 := Aside0.mk H
  clear H
  obtain ⟨Ao6, co6, eo6⟩ := Kd.R_slice HO0_7.out
  subst eo6
  go_enter Try.func24, Try.ntmps24
  go_upto_region 3 with (first | ((with_reducible refine gate_dst (N := 4) rfl ?_); refine box_event ?hg (N := 4) ?hd (cs := #[.int .u8 a0_0, .int .i64 a0_1, .int .i64 a0_2, .int .i64 a0_3, .int .i64 a0_4, .int .i64 a0_5, .bool a0_6, .slice Ao6 l0_7.length co6, .int .i64 a0_8, .int .i64 a0_9, .int .i64 a0_10, .int .i64 a0_11, .int .i64 a0_12]) (t := 31) ?hr ?_; (case hd => rfl); (case hg => rfl); (case hr => first | (go_simp; done) | (go_simp; rfl)); intro gb198 hg w7 hbox hb; have n0_ := Aside0.mk (Kd.R_below (by (with_reducible repeat (first | apply Kd.R_alloc | apply Kd.R_drewN | apply Kd.R_drew)); exact HO0_7.out) hb); have n1_ := Aside0.mk (Kept.below (S := (fun k_ => P0_7_ k_)) (by repeat (first | (with_reducible first | exact HK.out | apply Kept.alloc | apply Kept.drewN | apply Kept.drew) | exact HK.out)) hb); have n2_ := Aside0.mk (below_step (by repeat (first | (with_reducible first | exact HB.out | apply below_alloc | apply pw_below_drewN | apply below_drew1) | exact HB.out)) hb); have n3_ := Aside0.mk (hbox); have n4_ := Aside0.mk ((by rw [hg]; exact (by first | exact HK.out.1 | exact (show Kept w _ (fun k_ => P0_7_ k_) from by repeat (first | (with_reducible first | exact HK.out | apply Kept.alloc | apply Kept.drewN | apply Kept.drew) | exact HK.out)).1) : w.heap.size ≤ gb198)); have n5_ := Aside0.mk ((by rw [hg]; exact (below_size (by repeat (first | (with_reducible first | exact HB.out | apply below_alloc | apply pw_below_drewN | apply below_drew1) | exact HB.out))) : w0.heap.size ≤ gb198)); clear HO0_7; clear HK; clear HB; have HO0_7 := n0_; have HK := n1_; have HB := n2_; have BK198 := n3_; have GW198 := n4_; have GE198 := n5_; clear n0_ n1_ n2_ n3_ n4_ n5_; clear hb hbox hg) | ((with_reducible refine gate_dst (N := 5) rfl ?_); refine box_event ?hg (N := 5) ?hd (cs := #[.int .i64 a1_0, .int .u8 a1_1, .int .i64 a1_2, .int .i64 a1_3, .bool a1_4, .bool a1_5]) (t := 25) ?hr ?_; (case hd => rfl); (case hg => rfl); (case hr => first | (go_simp; done) | (go_simp; rfl)); intro gb199 hg w8 hbox hb; have n0_ := Aside0.mk (Kd.R_below (by (with_reducible repeat (first | apply Kd.R_alloc | apply Kd.R_drewN | apply Kd.R_drew)); exact HO0_7.out) hb); have n1_ := Aside0.mk (blk_below (g := gb198) (o := .cells #[.int .u8 a0_0, .int .i64 a0_1, .int .i64 a0_2, .int .i64 a0_3, .int .i64 a0_4, .int .i64 a0_5, .bool a0_6, .slice Ao6 l0_7.length co6, .int .i64 a0_8, .int .i64 a0_9, .int .i64 a0_10, .int .i64 a0_11, .int .i64 a0_12] 31 (0, 0)) (by (with_reducible repeat (first | refine blk_drewN ?_ _ | refine blk_drew ?_ | refine blk_alloc ?_ _)); exact BK198.out) hb); have n2_ := Aside0.mk (Kept.below (S := (fun k_ => P0_7_ k_)) (by repeat (first | (with_reducible first | exact HK.out | apply Kept.alloc | apply Kept.drewN | apply Kept.drew | refine Kept.setCell ?_ (.inr GW198.out) _) | exact HK.out)) hb); have n3_ := Aside0.mk (below_step (by repeat (first | (with_reducible first | exact HB.out | apply below_alloc | apply pw_below_drewN | apply below_drew1 | refine below_set ?_ GE198.out) | exact HB.out)) hb); have n4_ := Aside0.mk (hbox); have n5_ := Aside0.mk ((by rw [hg]; exact (by first | exact HK.out.1 | exact (show Kept w _ (fun k_ => P0_7_ k_) from by repeat (first | (with_reducible first | exact HK.out | apply Kept.alloc | apply Kept.drewN | apply Kept.drew | refine Kept.setCell ?_ (.inr GW198.out) _) | exact HK.out)).1) : w.heap.size ≤ gb199)); have n6_ := Aside0.mk ((by rw [hg]; exact (below_size (by repeat (first | (with_reducible first | exact HB.out | apply below_alloc | apply pw_below_drewN | apply below_drew1 | refine below_set ?_ GE198.out) | exact HB.out))) : w0.heap.size ≤ gb199)); have n7_ := Aside0.mk ((by rw [hg]; exact Nat.ne_of_lt (blk_lt (g := gb198) (o := .cells #[.int .u8 a0_0, .int .i64 a0_1, .int .i64 a0_2, .int .i64 a0_3, .int .i64 a0_4, .int .i64 a0_5, .bool a0_6, .slice Ao6 l0_7.length co6, .int .i64 a0_8, .int .i64 a0_9, .int .i64 a0_10, .int .i64 a0_11, .int .i64 a0_12] 31 (0, 0)) (by (with_reducible repeat (first | refine blk_drewN ?_ _ | refine blk_drew ?_ | refine blk_alloc ?_ _)); exact BK198.out)) : gb198 ≠ gb199)); have n8_ := Aside0.mk ((by rw [hg]; exact Nat.ne_of_gt (blk_lt (g := gb198) (o := .cells #[.int .u8 a0_0, .int .i64 a0_1, .int .i64 a0_2, .int .i64 a0_3, .int .i64 a0_4, .int .i64 a0_5, .bool a0_6, .slice Ao6 l0_7.length co6, .int .i64 a0_8, .int .i64 a0_9, .int .i64 a0_10, .int .i64 a0_11, .int .i64 a0_12] 31 (0, 0)) (by (with_reducible repeat (first | refine blk_drewN ?_ _ | refine blk_drew ?_ | refine blk_alloc ?_ _)); exact BK198.out)) : gb199 ≠ gb198)); clear HO0_7; clear BK198; clear HK; clear HB; have HO0_7 := n0_; have BK198 := n1_; have HK := n2_; have HB := n3_; have BK199 := n4_; have GW199 := n5_; have GE199 := n6_; have NB198_199 := n7_; have NB199_198 := n8_; clear n0_ n1_ n2_ n3_ n4_ n5_ n6_ n7_ n8_; clear hb hbox hg) | ((with_reducible refine gate_dst (N := 8) rfl ?_); refine box_event ?hg (N := 8) ?hd (cs := #[.int .u8 0, .int .i64 0, .int .i64 0, .int .i64 0, .int .i64 0, .int .i64 0, .bool false, .slice none 0 0, .int .i64 0, .int .i64 0, .int .i64 0, .int .i64 0, .int .i64 0]) (t := 31) ?hr ?_; (case hd => rfl); (case hg => rfl); (case hr => first | (go_simp; done) | (go_simp; rfl)); intro gb200 hg w9 hbox hb; have n0_ := Aside0.mk (Kd.R_below (by (with_reducible repeat (first | apply Kd.R_alloc | apply Kd.R_drewN | apply Kd.R_drew)); exact HO0_7.out) hb); have n1_ := Aside0.mk (blk_below (g := gb198) (o := .cells #[.int .u8 a0_0, .int .i64 a0_1, .int .i64 a0_2, .int .i64 a0_3, .int .i64 a0_4, .int .i64 a0_5, .bool a0_6, .slice Ao6 l0_7.length co6, .int .i64 a0_8, .int .i64 a0_9, .int .i64 a0_10, .int .i64 a0_11, .int .i64 a0_12] 31 (0, 0)) (by (with_reducible repeat (first | refine blk_drewN ?_ _ | refine blk_drew ?_ | refine blk_alloc ?_ _)); exact BK198.out) hb); have n2_ := Aside0.mk (blk_below (g := gb199) (o := .cells #[.int .i64 a1_0, .int .u8 a1_1, .int .i64 a1_2, .int .i64 a1_3, .bool a1_4, .bool a1_5] 25 (0, 0)) (by (with_reducible repeat (first | refine blk_drewN ?_ _ | refine blk_drew ?_ | refine blk_alloc ?_ _)); exact BK199.out) hb); have n3_ := Aside0.mk (Kept.below (S := (fun k_ => P0_7_ k_)) (by repeat (first | (with_reducible first | exact HK.out | apply Kept.alloc | apply Kept.drewN | apply Kept.drew | refine Kept.setCell ?_ (.inr GW198.out) _ | refine Kept.setCell ?_ (.inr GW199.out) _) | exact HK.out)) hb); have n4_ := Aside0.mk (below_step (by repeat (first | (with_reducible first | exact HB.out | apply below_alloc | apply pw_below_drewN | apply below_drew1 | refine below_set ?_ GE198.out | refine below_set ?_ GE199.out) | exact HB.out)) hb); have n5_ := Aside0.mk (hbox); have n6_ := Aside0.mk ((by rw [hg]; exact (by first | exact HK.out.1 | exact (show Kept w _ (fun k_ => P0_7_ k_) from by repeat (first | (with_reducible first | exact HK.out | apply Kept.alloc | apply Kept.drewN | apply Kept.drew | refine Kept.setCell ?_ (.inr GW198.out) _ | refine Kept.setCell ?_ (.inr GW199.out) _) | exact HK.out)).1) : w.heap.size ≤ gb200)); have n7_ := Aside0.mk ((by rw [hg]; exact (below_size (by repeat (first | (with_reducible first | exact HB.out | apply below_alloc | apply pw_below_drewN | apply below_drew1 | refine below_set ?_ GE198.out | refine below_set ?_ GE199.out) | exact HB.out))) : w0.heap.size ≤ gb200)); have n8_ := Aside0.mk ((by rw [hg]; exact Nat.ne_of_lt (blk_lt (g := gb198) (o := .cells #[.int .u8 a0_0, .int .i64 a0_1, .int .i64 a0_2, .int .i64 a0_3, .int .i64 a0_4, .int .i64 a0_5, .bool a0_6, .slice Ao6 l0_7.length co6, .int .i64 a0_8, .int .i64 a0_9, .int .i64 a0_10, .int .i64 a0_11, .int .i64 a0_12] 31 (0, 0)) (by (with_reducible repeat (first | refine blk_drewN ?_ _ | refine blk_drew ?_ | refine blk_alloc ?_ _)); exact BK198.out)) : gb198 ≠ gb200)); have n9_ := Aside0.mk ((by rw [hg]; exact Nat.ne_of_gt (blk_lt (g := gb198) (o := .cells #[.int .u8 a0_0, .int .i64 a0_1, .int .i64 a0_2, .int .i64 a0_3, .int .i64 a0_4, .int .i64 a0_5, .bool a0_6, .slice Ao6 l0_7.length co6, .int .i64 a0_8, .int .i64 a0_9, .int .i64 a0_10, .int .i64 a0_11, .int .i64 a0_12] 31 (0, 0)) (by (with_reducible repeat (first | refine blk_drewN ?_ _ | refine blk_drew ?_ | refine blk_alloc ?_ _)); exact BK198.out)) : gb200 ≠ gb198)); have n10_ := Aside0.mk ((by rw [hg]; exact Nat.ne_of_lt (blk_lt (g := gb199) (o := .cells #[.int .i64 a1_0, .int .u8 a1_1, .int .i64 a1_2, .int .i64 a1_3, .bool a1_4, .bool a1_5] 25 (0, 0)) (by (with_reducible repeat (first | refine blk_drewN ?_ _ | refine blk_drew ?_ | refine blk_alloc ?_ _)); exact BK199.out)) : gb199 ≠ gb200)); have n11_ := Aside0.mk ((by rw [hg]; exact Nat.ne_of_gt (blk_lt (g := gb199) (o := .cells #[.int .i64 a1_0, .int .u8 a1_1, .int .i64 a1_2, .int .i64 a1_3, .bool a1_4, .bool a1_5] 25 (0, 0)) (by (with_reducible repeat (first | refine blk_drewN ?_ _ | refine blk_drew ?_ | refine blk_alloc ?_ _)); exact BK199.out)) : gb200 ≠ gb199)); clear HO0_7; clear BK198; clear BK199; clear HK; clear HB; have HO0_7 := n0_; have BK198 := n1_; have BK199 := n2_; have HK := n3_; have HB := n4_; have BK200 := n5_; have GW200 := n6_; have GE200 := n7_; have NB198_200 := n8_; have NB200_198 := n9_; have NB199_200 := n10_; have NB200_199 := n11_; clear n0_ n1_ n2_ n3_ n4_ n5_ n6_ n7_ n8_ n9_ n10_ n11_; clear hb hbox hg; have hnb10 := NB198_199.out; have hnc10 := NB199_198.out; have hnb11 := NB198_200.out; have hnc11 := NB200_198.out; obtain ⟨hcz12_0, hcz12_1, hcz12_2, hcz12_3, hcz12_4, hcz12_5, hcz12_6, hcz12_7, hcz12_8, hcz12_9, hcz12_10, hcz12_11, hcz12_12⟩ := bc13 BK198.out; obtain ⟨hfz12_0, hfz12_1, hfz12_2, hfz12_3, hfz12_4, hfz12_5, hfz12_6, hfz12_7, hfz12_8, hfz12_9, hfz12_10, hfz12_11, hfz12_12⟩ := bf13 BK198.out))
  (try simp only [Act.put, List.setIfInBounds_toArray, List.set_cons_zero, List.set_cons_succ])
  go_cut [29] (fun v29 wc => ∃ (kq : Nat) (x29_4 : Bool), v29 = .bool x29_4 ∧ Aside0 (account_begin.j0 kq a2 a3 a0_4 x29_4 a0_0 a0_1 a0_2 a0_3 (wrap64 (a0_4 + 1)) a0_5 a0_6 l0_7 a0_8 a0_9 a0_10 a0_11 a0_12 a1_0 a1_1 a1_2 a1_3 a1_4 a1_5 = some (r1, r2, r3, r4, r5, r6, r7, r8, r9, r10, r11, r12, r13, r14)) ∧ Aside0 (kq ≤ k) ∧ Aside0 (Kd.R k37 37 wc w0.heap.size (fun k_ => (P0_7_ k_ ∨ w.heap.size ≤ k_)) (.slice Ao6 l0_7.length co6) l0_7) ∧ Aside0 (wc.heap[gb198]? = some (.cells #[.int .u8 a0_0, .int .i64 a0_1, .int .i64 a0_2, .int .i64 a0_3, .int .i64 (wrap64 (a0_4 + 1)), .int .i64 a0_5, .bool a0_6, (.slice Ao6 l0_7.length co6), .int .i64 a0_8, .int .i64 a0_9, .int .i64 a0_10, .int .i64 a0_11, .int .i64 a0_12] 31 (0, 0))) ∧ Aside0 (wc.heap[gb199]? = some (.cells #[.int .i64 a1_0, .int .u8 a1_1, .int .i64 a1_2, .int .i64 a1_3, .bool a1_4, .bool a1_5] 25 (0, 0))) ∧ Aside0 (wc.heap[gb200]? = some (.cells #[.int .u8 0, .int .i64 0, .int .i64 0, .int .i64 0, .int .i64 0, .int .i64 0, .bool false, (.slice none 0 0), .int .i64 0, .int .i64 0, .int .i64 0, .int .i64 0, .int .i64 0] 31 (0, 0))) ∧ Aside0 (Kept w wc (fun k_ => P0_7_ k_)) ∧ Aside0 (Below w0.heap.size w0 wc))
  case first =>
    have H := HC5.out
    clear HC5
    by_cases c13 : a0_0 = 2
    · rw [if_pos c13] at H
      have c13b0 : (a0_0 == 2) = true := beq_iff_eq.mpr c13
      have c13b1 : (a0_0 != 2) = false := bne_eq_false_iff_eq.mpr c13
      clear c13
      (first | rw [c13b0] | (simp only [i64_w, i32_w]; rw [c13b0]) | skip)
      have H' := Aside0.mk H
      clear H
      have hnb14 := NB198_199.out
      have hnc14 := NB199_198.out
      have hnb15 := NB198_200.out
      have hnc15 := NB200_198.out
      obtain ⟨hcz16_0, hcz16_1, hcz16_2, hcz16_3, hcz16_4, hcz16_5, hcz16_6, hcz16_7, hcz16_8, hcz16_9, hcz16_10, hcz16_11, hcz16_12⟩ := bc13 BK198.out
      obtain ⟨hfz16_0, hfz16_1, hfz16_2, hfz16_3, hfz16_4, hfz16_5, hfz16_6, hfz16_7, hfz16_8, hfz16_9, hfz16_10, hfz16_11, hfz16_12⟩ := bf13 BK198.out
      go_wp2
      go_meet
      case rel => exact ⟨_, (true), (by first | rfl | (simp; done) | (simp [*]; done)), H', ⟨by first | omega | exact Nat.le_refl _⟩, ⟨by (with_reducible repeat (first | apply Kd.R_alloc | apply Kd.R_drewN | apply Kd.R_drew)); exact Kd.R_mono (Kd.R_step (Kd.R_types HO0_7.out BK198.out (by decide)) (fun _ hk _ => by (with_reducible repeat (first | refine (hst (g := gb198) hk.2 _ _).trans ?_ | refine (hdn _ _ _).trans ?_ | refine (hd1 _ _).trans ?_)); rfl)) (fun _ hk => hk.1)⟩, ⟨by (with_reducible repeat (first | refine blk_drewN ?_ _ | refine blk_drew ?_ | refine blk_alloc ?_ _)); refine blk_put (cs := #[.int .u8 a0_0, .int .i64 a0_1, .int .i64 a0_2, .int .i64 a0_3, .int .i64 a0_4, .int .i64 a0_5, .bool a0_6, .slice Ao6 l0_7.length co6, .int .i64 a0_8, .int .i64 a0_9, .int .i64 a0_10, .int .i64 a0_11, .int .i64 a0_12]) ?_ 4 _ rfl; (with_reducible repeat (first | refine blk_drewN ?_ _ | refine blk_drew ?_ | refine blk_alloc ?_ _)); exact BK198.out⟩, ⟨by (with_reducible repeat (first | refine blk_drewN ?_ _ | refine blk_drew ?_ | refine blk_alloc ?_ _)); refine blk_far ?_ NB199_198.out _; (with_reducible repeat (first | refine blk_drewN ?_ _ | refine blk_drew ?_ | refine blk_alloc ?_ _)); exact BK199.out⟩, ⟨by (with_reducible repeat (first | refine blk_drewN ?_ _ | refine blk_drew ?_ | refine blk_alloc ?_ _)); refine blk_far ?_ NB200_198.out _; (with_reducible repeat (first | refine blk_drewN ?_ _ | refine blk_drew ?_ | refine blk_alloc ?_ _)); exact BK200.out⟩, ⟨by repeat (first | (with_reducible first | exact HK.out | apply Kept.alloc | apply Kept.drewN | apply Kept.drew | refine Kept.setCell ?_ (.inr GW198.out) _ | refine Kept.setCell ?_ (.inr GW199.out) _ | refine Kept.setCell ?_ (.inr GW200.out) _) | exact HK.out)⟩, ⟨by repeat (first | (with_reducible first | exact HB.out | apply below_alloc | apply pw_below_drewN | apply below_drew1 | refine below_set ?_ GE198.out | refine below_set ?_ GE199.out | refine below_set ?_ GE200.out) | exact HB.out)⟩⟩
    · rw [if_neg c13] at H
      have c13b0 : (a0_0 == 2) = false := beq_eq_false_iff_ne.mpr c13
      have c13b1 : (a0_0 != 2) = true := bne_iff_ne.mpr c13
      (first | rw [c13b0] | (simp only [i64_w, i32_w]; rw [c13b0]) | skip)
      by_cases c17 : a0_6 = true
      · subst c17
        have H1 : (account_begin.j0 k a2 a3 a0_4 true a0_0 a0_1 a0_2 a0_3 (wrap64 (a0_4 + 1)) a0_5 true l0_7 a0_8 a0_9 a0_10 a0_11 a0_12 a1_0 a1_1 a1_2 a1_3 a1_4 a1_5) = some (r1, r2, r3, r4, r5, r6, r7, r8, r9, r10, r11, r12, r13, r14) := by rw [if_pos rfl] at H; exact H
        clear H
        have H := H1
        clear H1
        have H' := Aside0.mk H
        clear H
        have hnb18 := NB198_199.out
        have hnc18 := NB199_198.out
        have hnb19 := NB198_200.out
        have hnc19 := NB200_198.out
        obtain ⟨hcz20_0, hcz20_1, hcz20_2, hcz20_3, hcz20_4, hcz20_5, hcz20_6, hcz20_7, hcz20_8, hcz20_9, hcz20_10, hcz20_11, hcz20_12⟩ := bc13 BK198.out
        obtain ⟨hfz20_0, hfz20_1, hfz20_2, hfz20_3, hfz20_4, hfz20_5, hfz20_6, hfz20_7, hfz20_8, hfz20_9, hfz20_10, hfz20_11, hfz20_12⟩ := bf13 BK198.out
        go_wp2
        go_meet
        case rel => exact ⟨_, (true), (by first | rfl | (simp; done) | (simp [*]; done)), H', ⟨by first | omega | exact Nat.le_refl _⟩, ⟨by (with_reducible repeat (first | apply Kd.R_alloc | apply Kd.R_drewN | apply Kd.R_drew)); exact Kd.R_mono (Kd.R_step (Kd.R_types HO0_7.out BK198.out (by decide)) (fun _ hk _ => by (with_reducible repeat (first | refine (hst (g := gb198) hk.2 _ _).trans ?_ | refine (hdn _ _ _).trans ?_ | refine (hd1 _ _).trans ?_)); rfl)) (fun _ hk => hk.1)⟩, ⟨by (with_reducible repeat (first | refine blk_drewN ?_ _ | refine blk_drew ?_ | refine blk_alloc ?_ _)); refine blk_put (cs := #[.int .u8 a0_0, .int .i64 a0_1, .int .i64 a0_2, .int .i64 a0_3, .int .i64 a0_4, .int .i64 a0_5, .bool true, .slice Ao6 l0_7.length co6, .int .i64 a0_8, .int .i64 a0_9, .int .i64 a0_10, .int .i64 a0_11, .int .i64 a0_12]) ?_ 4 _ rfl; (with_reducible repeat (first | refine blk_drewN ?_ _ | refine blk_drew ?_ | refine blk_alloc ?_ _)); exact BK198.out⟩, ⟨by (with_reducible repeat (first | refine blk_drewN ?_ _ | refine blk_drew ?_ | refine blk_alloc ?_ _)); refine blk_far ?_ NB199_198.out _; (with_reducible repeat (first | refine blk_drewN ?_ _ | refine blk_drew ?_ | refine blk_alloc ?_ _)); exact BK199.out⟩, ⟨by (with_reducible repeat (first | refine blk_drewN ?_ _ | refine blk_drew ?_ | refine blk_alloc ?_ _)); refine blk_far ?_ NB200_198.out _; (with_reducible repeat (first | refine blk_drewN ?_ _ | refine blk_drew ?_ | refine blk_alloc ?_ _)); exact BK200.out⟩, ⟨by repeat (first | (with_reducible first | exact HK.out | apply Kept.alloc | apply Kept.drewN | apply Kept.drew | refine Kept.setCell ?_ (.inr GW198.out) _ | refine Kept.setCell ?_ (.inr GW199.out) _ | refine Kept.setCell ?_ (.inr GW200.out) _) | exact HK.out)⟩, ⟨by repeat (first | (with_reducible first | exact HB.out | apply below_alloc | apply pw_below_drewN | apply below_drew1 | refine below_set ?_ GE198.out | refine below_set ?_ GE199.out | refine below_set ?_ GE200.out) | exact HB.out)⟩⟩
      · replace c17 := Bool.eq_false_iff.mpr c17
        subst c17
        have H1 : (account_begin.j0 k a2 a3 a0_4 a3 a0_0 a0_1 a0_2 a0_3 (wrap64 (a0_4 + 1)) a0_5 false l0_7 a0_8 a0_9 a0_10 a0_11 a0_12 a1_0 a1_1 a1_2 a1_3 a1_4 a1_5) = some (r1, r2, r3, r4, r5, r6, r7, r8, r9, r10, r11, r12, r13, r14) := by rw [if_neg (show ¬ (false = true) by decide)] at H; exact H
        clear H
        have H := H1
        clear H1
        have H' := Aside0.mk H
        clear H
        have hnb21 := NB198_199.out
        have hnc21 := NB199_198.out
        have hnb22 := NB198_200.out
        have hnc22 := NB200_198.out
        obtain ⟨hcz23_0, hcz23_1, hcz23_2, hcz23_3, hcz23_4, hcz23_5, hcz23_6, hcz23_7, hcz23_8, hcz23_9, hcz23_10, hcz23_11, hcz23_12⟩ := bc13 BK198.out
        obtain ⟨hfz23_0, hfz23_1, hfz23_2, hfz23_3, hfz23_4, hfz23_5, hfz23_6, hfz23_7, hfz23_8, hfz23_9, hfz23_10, hfz23_11, hfz23_12⟩ := bf13 BK198.out
        go_wp2
        go_meet
        case rel => exact ⟨_, (a3), (by first | rfl | (simp; done) | (simp [*]; done)), H', ⟨by first | omega | exact Nat.le_refl _⟩, ⟨by (with_reducible repeat (first | apply Kd.R_alloc | apply Kd.R_drewN | apply Kd.R_drew)); exact Kd.R_mono (Kd.R_step (Kd.R_types HO0_7.out BK198.out (by decide)) (fun _ hk _ => by (with_reducible repeat (first | refine (hst (g := gb198) hk.2 _ _).trans ?_ | refine (hdn _ _ _).trans ?_ | refine (hd1 _ _).trans ?_)); rfl)) (fun _ hk => hk.1)⟩, ⟨by (with_reducible repeat (first | refine blk_drewN ?_ _ | refine blk_drew ?_ | refine blk_alloc ?_ _)); refine blk_put (cs := #[.int .u8 a0_0, .int .i64 a0_1, .int .i64 a0_2, .int .i64 a0_3, .int .i64 a0_4, .int .i64 a0_5, .bool false, .slice Ao6 l0_7.length co6, .int .i64 a0_8, .int .i64 a0_9, .int .i64 a0_10, .int .i64 a0_11, .int .i64 a0_12]) ?_ 4 _ rfl; (with_reducible repeat (first | refine blk_drewN ?_ _ | refine blk_drew ?_ | refine blk_alloc ?_ _)); exact BK198.out⟩, ⟨by (with_reducible repeat (first | refine blk_drewN ?_ _ | refine blk_drew ?_ | refine blk_alloc ?_ _)); refine blk_far ?_ NB199_198.out _; (with_reducible repeat (first | refine blk_drewN ?_ _ | refine blk_drew ?_ | refine blk_alloc ?_ _)); exact BK199.out⟩, ⟨by (with_reducible repeat (first | refine blk_drewN ?_ _ | refine blk_drew ?_ | refine blk_alloc ?_ _)); refine blk_far ?_ NB200_198.out _; (with_reducible repeat (first | refine blk_drewN ?_ _ | refine blk_drew ?_ | refine blk_alloc ?_ _)); exact BK200.out⟩, ⟨by repeat (first | (with_reducible first | exact HK.out | apply Kept.alloc | apply Kept.drewN | apply Kept.drew | refine Kept.setCell ?_ (.inr GW198.out) _ | refine Kept.setCell ?_ (.inr GW199.out) _ | refine Kept.setCell ?_ (.inr GW200.out) _) | exact HK.out)⟩, ⟨by repeat (first | (with_reducible first | exact HB.out | apply below_alloc | apply pw_below_drewN | apply below_drew1 | refine below_set ?_ GE198.out | refine below_set ?_ GE199.out | refine below_set ?_ GE200.out) | exact HB.out)⟩⟩
  case rest =>
    clear HC5
    try clear c1
    try clear c2
    try clear p2
    try clear p6
    try clear c10
    try clear c11
    try clear c13
    try clear c13b0
    try clear c13b1
    try clear c14
    try clear c15
    try clear c17
    try clear c18
    try clear c19
    try clear c21
    try clear c22
    try clear hcz12_0
    try clear hcz12_1
    try clear hcz12_10
    try clear hcz12_11
    try clear hcz12_12
    try clear hcz12_2
    try clear hcz12_3
    try clear hcz12_4
    try clear hcz12_5
    try clear hcz12_6
    try clear hcz12_7
    try clear hcz12_8
    try clear hcz12_9
    try clear hcz16_0
    try clear hcz16_1
    try clear hcz16_10
    try clear hcz16_11
    try clear hcz16_12
    try clear hcz16_2
    try clear hcz16_3
    try clear hcz16_4
    try clear hcz16_5
    try clear hcz16_6
    try clear hcz16_7
    try clear hcz16_8
    try clear hcz16_9
    try clear hcz20_0
    try clear hcz20_1
    try clear hcz20_10
    try clear hcz20_11
    try clear hcz20_12
    try clear hcz20_2
    try clear hcz20_3
    try clear hcz20_4
    try clear hcz20_5
    try clear hcz20_6
    try clear hcz20_7
    try clear hcz20_8
    try clear hcz20_9
    try clear hcz23_0
    try clear hcz23_1
    try clear hcz23_10
    try clear hcz23_11
    try clear hcz23_12
    try clear hcz23_2
    try clear hcz23_3
    try clear hcz23_4
    try clear hcz23_5
    try clear hcz23_6
    try clear hcz23_7
    try clear hcz23_8
    try clear hcz23_9
    try clear hfz12_0
    try clear hfz12_1
    try clear hfz12_10
    try clear hfz12_11
    try clear hfz12_12
    try clear hfz12_2
    try clear hfz12_3
    try clear hfz12_4
    try clear hfz12_5
    try clear hfz12_6
    try clear hfz12_7
    try clear hfz12_8
    try clear hfz12_9
    try clear hfz16_0
    try clear hfz16_1
    try clear hfz16_10
    try clear hfz16_11
    try clear hfz16_12
    try clear hfz16_2
    try clear hfz16_3
    try clear hfz16_4
    try clear hfz16_5
    try clear hfz16_6
    try clear hfz16_7
    try clear hfz16_8
    try clear hfz16_9
    try clear hfz20_0
    try clear hfz20_1
    try clear hfz20_10
    try clear hfz20_11
    try clear hfz20_12
    try clear hfz20_2
    try clear hfz20_3
    try clear hfz20_4
    try clear hfz20_5
    try clear hfz20_6
    try clear hfz20_7
    try clear hfz20_8
    try clear hfz20_9
    try clear hfz23_0
    try clear hfz23_1
    try clear hfz23_10
    try clear hfz23_11
    try clear hfz23_12
    try clear hfz23_2
    try clear hfz23_3
    try clear hfz23_4
    try clear hfz23_5
    try clear hfz23_6
    try clear hfz23_7
    try clear hfz23_8
    try clear hfz23_9
    (try clear HO_199007); (try clear BK198); (try clear BK199); (try clear BK200); (try clear HK); (try clear HB); obtain ⟨kq, x29_4, rfl, HA, HJ4, HO_199007, BK198, BK199, BK200, HK, HB⟩ := hcut
    cases kq with
    | zero => exact absurd HA.out (by simp [account_begin.j0])
    | succ kj4 =>
      have H := HA.out
      clear HA
      simp only [account_begin.j0] at H
      by_cases c24 : x29_4 = true
      · subst c24
        have H1 : (if a0_6 = true then (if a0_0 = 2 then ((cycle_Pass.f a0_4 a2).bind fun bt201 => ((account_close.f a0_0 a0_1 a0_2 a0_3 (wrap64 (a0_4 + 1)) a0_5 true l0_7 a0_8 a0_9 a0_10 a0_11 a0_12 bt201.1 bt201.2.1 bt201.2.2.1 bt201.2.2.2.1 bt201.2.2.2.2.1 bt201.2.2.2.2.2.1 bt201.2.2.2.2.2.2.1 bt201.2.2.2.2.2.2.2).bind fun bt209 => (some (bt209.1, bt209.2.1, bt209.2.2.1, bt209.2.2.2.1, bt209.2.2.2.2.1, bt209.2.2.2.2.2.1, bt209.2.2.2.2.2.2.1, bt209.2.2.2.2.2.2.2.1, bt209.2.2.2.2.2.2.2.2.1, bt209.2.2.2.2.2.2.2.2.2.1, bt209.2.2.2.2.2.2.2.2.2.2.1, bt209.2.2.2.2.2.2.2.2.2.2.2.1, bt209.2.2.2.2.2.2.2.2.2.2.2.2.1, bt209.2.2.2.2.2.2.2.2.2.2.2.2.2)))) else ((cycle_Pass.f a0_4 a2).bind fun bt225 => ((account_close.f a0_0 a0_1 a0_2 a0_3 (wrap64 (a0_4 + 1)) a0_5 a3 l0_7 a0_8 a0_9 a0_10 a0_11 a0_12 bt225.1 bt225.2.1 bt225.2.2.1 bt225.2.2.2.1 bt225.2.2.2.2.1 bt225.2.2.2.2.2.1 bt225.2.2.2.2.2.2.1 bt225.2.2.2.2.2.2.2).bind fun bt233 => (some (bt233.1, bt233.2.1, bt233.2.2.1, bt233.2.2.2.1, bt233.2.2.2.2.1, bt233.2.2.2.2.2.1, bt233.2.2.2.2.2.2.1, bt233.2.2.2.2.2.2.2.1, bt233.2.2.2.2.2.2.2.2.1, bt233.2.2.2.2.2.2.2.2.2.1, bt233.2.2.2.2.2.2.2.2.2.2.1, bt233.2.2.2.2.2.2.2.2.2.2.2.1, bt233.2.2.2.2.2.2.2.2.2.2.2.2.1, bt233.2.2.2.2.2.2.2.2.2.2.2.2.2))))) else ((cycle_Pass.f a0_4 a2).bind fun bt249 => ((account_close.f a0_0 a0_1 a0_2 a0_3 (wrap64 (a0_4 + 1)) a0_5 false l0_7 a0_8 a0_9 a0_10 a0_11 a0_12 bt249.1 bt249.2.1 bt249.2.2.1 bt249.2.2.2.1 bt249.2.2.2.2.1 bt249.2.2.2.2.2.1 bt249.2.2.2.2.2.2.1 bt249.2.2.2.2.2.2.2).bind fun bt257 => (some (bt257.1, bt257.2.1, bt257.2.2.1, bt257.2.2.2.1, bt257.2.2.2.2.1, bt257.2.2.2.2.2.1, bt257.2.2.2.2.2.2.1, bt257.2.2.2.2.2.2.2.1, bt257.2.2.2.2.2.2.2.2.1, bt257.2.2.2.2.2.2.2.2.2.1, bt257.2.2.2.2.2.2.2.2.2.2.1, bt257.2.2.2.2.2.2.2.2.2.2.2.1, bt257.2.2.2.2.2.2.2.2.2.2.2.2.1, bt257.2.2.2.2.2.2.2.2.2.2.2.2.2))))) = some (r1, r2, r3, r4, r5, r6, r7, r8, r9, r10, r11, r12, r13, r14) := by rw [if_pos rfl] at H; exact H
        clear H
        have H := H1
        clear H1
        by_cases c25 : a0_6 = true
        · subst c25
          have H1 : (if a0_0 = 2 then ((cycle_Pass.f a0_4 a2).bind fun bt201 => ((account_close.f a0_0 a0_1 a0_2 a0_3 (wrap64 (a0_4 + 1)) a0_5 true l0_7 a0_8 a0_9 a0_10 a0_11 a0_12 bt201.1 bt201.2.1 bt201.2.2.1 bt201.2.2.2.1 bt201.2.2.2.2.1 bt201.2.2.2.2.2.1 bt201.2.2.2.2.2.2.1 bt201.2.2.2.2.2.2.2).bind fun bt209 => (some (bt209.1, bt209.2.1, bt209.2.2.1, bt209.2.2.2.1, bt209.2.2.2.2.1, bt209.2.2.2.2.2.1, bt209.2.2.2.2.2.2.1, bt209.2.2.2.2.2.2.2.1, bt209.2.2.2.2.2.2.2.2.1, bt209.2.2.2.2.2.2.2.2.2.1, bt209.2.2.2.2.2.2.2.2.2.2.1, bt209.2.2.2.2.2.2.2.2.2.2.2.1, bt209.2.2.2.2.2.2.2.2.2.2.2.2.1, bt209.2.2.2.2.2.2.2.2.2.2.2.2.2)))) else ((cycle_Pass.f a0_4 a2).bind fun bt225 => ((account_close.f a0_0 a0_1 a0_2 a0_3 (wrap64 (a0_4 + 1)) a0_5 a3 l0_7 a0_8 a0_9 a0_10 a0_11 a0_12 bt225.1 bt225.2.1 bt225.2.2.1 bt225.2.2.2.1 bt225.2.2.2.2.1 bt225.2.2.2.2.2.1 bt225.2.2.2.2.2.2.1 bt225.2.2.2.2.2.2.2).bind fun bt233 => (some (bt233.1, bt233.2.1, bt233.2.2.1, bt233.2.2.2.1, bt233.2.2.2.2.1, bt233.2.2.2.2.2.1, bt233.2.2.2.2.2.2.1, bt233.2.2.2.2.2.2.2.1, bt233.2.2.2.2.2.2.2.2.1, bt233.2.2.2.2.2.2.2.2.2.1, bt233.2.2.2.2.2.2.2.2.2.2.1, bt233.2.2.2.2.2.2.2.2.2.2.2.1, bt233.2.2.2.2.2.2.2.2.2.2.2.2.1, bt233.2.2.2.2.2.2.2.2.2.2.2.2.2))))) = some (r1, r2, r3, r4, r5, r6, r7, r8, r9, r10, r11, r12, r13, r14) := by rw [if_pos rfl] at H; exact H
          clear H
          have H := H1
          clear H1
          by_cases c26 : a0_0 = 2
          · rw [if_pos c26] at H
            have c26b0 : (a0_0 == 2) = true := beq_iff_eq.mpr c26
            have c26b1 : (a0_0 != 2) = false := bne_eq_false_iff_eq.mpr c26
            clear c26
            replace H := Option.bind_eq_some_iff.mp H
            obtain ⟨⟨t201, t202, t203, t204, t205, t206, t207, t208⟩, A270, H⟩ := H
            replace H : ((account_close.f a0_0 a0_1 a0_2 a0_3 (wrap64 (a0_4 + 1)) a0_5 true l0_7 a0_8 a0_9 a0_10 a0_11 a0_12 t201 t202 t203 t204 t205 t206 t207 t208).bind fun bt209 => (some (bt209.1, bt209.2.1, bt209.2.2.1, bt209.2.2.2.1, bt209.2.2.2.2.1, bt209.2.2.2.2.2.1, bt209.2.2.2.2.2.2.1, bt209.2.2.2.2.2.2.2.1, bt209.2.2.2.2.2.2.2.2.1, bt209.2.2.2.2.2.2.2.2.2.1, bt209.2.2.2.2.2.2.2.2.2.2.1, bt209.2.2.2.2.2.2.2.2.2.2.2.1, bt209.2.2.2.2.2.2.2.2.2.2.2.2.1, bt209.2.2.2.2.2.2.2.2.2.2.2.2.2))) = some (r1, r2, r3, r4, r5, r6, r7, r8, r9, r10, r11, r12, r13, r14) := H
            have A27 := Aside0.mk A270
            clear A270
            replace H := Option.bind_eq_some_iff.mp H
            obtain ⟨⟨t209, t210, t211, t212, t213, t214, t215, t216, t219, t220, t221, t222, t223, t224⟩, A280, H⟩ := H
            replace H : (some (t209, t210, t211, t212, t213, t214, t215, t216, t219, t220, t221, t222, t223, t224)) = some (r1, r2, r3, r4, r5, r6, r7, r8, r9, r10, r11, r12, r13, r14) := H
            have A28 := Aside0.mk A280
            clear A280
            simp only [Option.some.injEq, Prod.mk.injEq] at H
            obtain ⟨rfl, rfl, rfl, rfl, rfl, rfl, rfl, rfl, rfl, rfl, rfl, rfl, rfl, rfl⟩ := H
            have hnb29 := NB198_199.out
            have hnc29 := NB199_198.out
            have hnb30 := NB198_200.out
            have hnc30 := NB200_198.out
            obtain ⟨hcz31_0, hcz31_1, hcz31_2, hcz31_3, hcz31_4, hcz31_5, hcz31_6, hcz31_7, hcz31_8, hcz31_9, hcz31_10, hcz31_11, hcz31_12⟩ := bc13 BK198.out
            obtain ⟨hfz31_0, hfz31_1, hfz31_2, hfz31_3, hfz31_4, hfz31_5, hfz31_6, hfz31_7, hfz31_8, hfz31_9, hfz31_10, hfz31_11, hfz31_12⟩ := bf13 BK198.out
            try go_wp2
            have n0_ : Aside0 (Kd.R k37 37 (wc.setCell ⟨gb198, 6, none⟩ (.bool true)) w0.heap.size (fun k_ => (P0_7_ k_ ∨ w.heap.size ≤ k_)) (.slice Ao6 l0_7.length co6) l0_7) := ⟨by (with_reducible repeat (first | apply Kd.R_alloc | apply Kd.R_drewN | apply Kd.R_drew)); exact Kd.R_mono (Kd.R_step (Kd.R_types HO_199007.out BK198.out (by decide)) (fun _ hk _ => by (with_reducible repeat (first | refine (hst (g := gb198) hk.2 _ _).trans ?_ | refine (hdn _ _ _).trans ?_ | refine (hd1 _ _).trans ?_)); rfl)) (fun _ hk => hk.1)⟩
            have n1_ : Aside0 ((wc.setCell ⟨gb198, 6, none⟩ (.bool true)).heap[gb198]? = some (.cells #[.int .u8 a0_0, .int .i64 a0_1, .int .i64 a0_2, .int .i64 a0_3, .int .i64 (wrap64 (a0_4 + 1)), .int .i64 a0_5, .bool true, .slice Ao6 l0_7.length co6, .int .i64 a0_8, .int .i64 a0_9, .int .i64 a0_10, .int .i64 a0_11, .int .i64 a0_12] 31 (0, 0))) := ⟨by (with_reducible repeat (first | refine blk_drewN ?_ _ | refine blk_drew ?_ | refine blk_alloc ?_ _)); refine blk_put (cs := #[.int .u8 a0_0, .int .i64 a0_1, .int .i64 a0_2, .int .i64 a0_3, .int .i64 (wrap64 (a0_4 + 1)), .int .i64 a0_5, .bool true, .slice Ao6 l0_7.length co6, .int .i64 a0_8, .int .i64 a0_9, .int .i64 a0_10, .int .i64 a0_11, .int .i64 a0_12]) ?_ 6 _ rfl; (with_reducible repeat (first | refine blk_drewN ?_ _ | refine blk_drew ?_ | refine blk_alloc ?_ _)); exact BK198.out⟩
            have n2_ : Aside0 ((wc.setCell ⟨gb198, 6, none⟩ (.bool true)).heap[gb199]? = some (.cells #[.int .i64 a1_0, .int .u8 a1_1, .int .i64 a1_2, .int .i64 a1_3, .bool a1_4, .bool a1_5] 25 (0, 0))) := ⟨by (with_reducible repeat (first | refine blk_drewN ?_ _ | refine blk_drew ?_ | refine blk_alloc ?_ _)); refine blk_far ?_ NB199_198.out _; (with_reducible repeat (first | refine blk_drewN ?_ _ | refine blk_drew ?_ | refine blk_alloc ?_ _)); exact BK199.out⟩
            have n3_ : Aside0 ((wc.setCell ⟨gb198, 6, none⟩ (.bool true)).heap[gb200]? = some (.cells #[.int .u8 0, .int .i64 0, .int .i64 0, .int .i64 0, .int .i64 0, .int .i64 0, .bool false, .slice none 0 0, .int .i64 0, .int .i64 0, .int .i64 0, .int .i64 0, .int .i64 0] 31 (0, 0))) := ⟨by (with_reducible repeat (first | refine blk_drewN ?_ _ | refine blk_drew ?_ | refine blk_alloc ?_ _)); refine blk_far ?_ NB200_198.out _; (with_reducible repeat (first | refine blk_drewN ?_ _ | refine blk_drew ?_ | refine blk_alloc ?_ _)); exact BK200.out⟩
            have n4_ : Aside0 (Kept w (wc.setCell ⟨gb198, 6, none⟩ (.bool true)) (fun k_ => P0_7_ k_)) := ⟨by repeat (first | (with_reducible first | exact HK.out | apply Kept.alloc | apply Kept.drewN | apply Kept.drew | refine Kept.setCell ?_ (.inr GW198.out) _ | refine Kept.setCell ?_ (.inr GW199.out) _ | refine Kept.setCell ?_ (.inr GW200.out) _) | exact HK.out)⟩
            have n5_ : Aside0 (Below w0.heap.size w0 (wc.setCell ⟨gb198, 6, none⟩ (.bool true))) := ⟨by repeat (first | (with_reducible first | exact HB.out | apply below_alloc | apply pw_below_drewN | apply below_drew1 | refine below_set ?_ GE198.out | refine below_set ?_ GE199.out | refine below_set ?_ GE200.out) | exact HB.out)⟩
            (try clear HO_199007)
            (try clear BK198)
            (try clear BK199)
            (try clear BK200)
            (try clear HK)
            (try clear HB)
            generalize (wc.setCell ⟨gb198, 6, none⟩ (.bool true)) = w32 at n0_ n1_ n2_ n3_ n4_ n5_ ⊢
            have HO_199007 := n0_
            have BK198 := n1_
            have BK199 := n2_
            have BK200 := n3_
            have HK := n4_
            have HB := n5_
            clear n0_ n1_ n2_ n3_ n4_ n5_
            have n0_ := Aside0.mk (Kd.R_drew HO_199007.out)
            have n1_ := Aside0.mk (blk_drew BK198.out)
            have n2_ := Aside0.mk (blk_drew BK199.out)
            have n3_ := Aside0.mk (blk_drew BK200.out)
            have n4_ := Aside0.mk (Kept.drew HK.out)
            have n5_ := Aside0.mk (below_drew1 HB.out)
            clear HO_199007
            clear BK198
            clear BK199
            clear BK200
            clear HK
            clear HB
            have HO_199007 := n0_
            have BK198 := n1_
            have BK199 := n2_
            have BK200 := n3_
            have HK := n4_
            have HB := n5_
            clear n0_ n1_ n2_ n3_ n4_ n5_
            refine start_ (n := 9) (S := fun w' => w'.cell? ⟨gb198, 0, none⟩ = some (.int .u8 a0_0) ∧ w'.cell? ⟨gb198, 1, none⟩ = some (.int .i64 a0_1) ∧ w'.cell? ⟨gb198, 2, none⟩ = some (.int .i64 a0_2) ∧ w'.cell? ⟨gb198, 3, none⟩ = some (.int .i64 a0_3) ∧ w'.cell? ⟨gb198, 4, none⟩ = some (.int .i64 (wrap64 (a0_4 + 1))) ∧ w'.cell? ⟨gb198, 5, none⟩ = some (.int .i64 a0_5) ∧ w'.cell? ⟨gb198, 6, none⟩ = some (.bool true) ∧ w'.cell? ⟨gb198, 7, none⟩ = some (.slice Ao6 l0_7.length co6) ∧ w'.cell? ⟨gb198, 8, none⟩ = some (.int .i64 a0_8) ∧ w'.cell? ⟨gb198, 9, none⟩ = some (.int .i64 a0_9) ∧ w'.cell? ⟨gb198, 10, none⟩ = some (.int .i64 a0_10) ∧ w'.cell? ⟨gb198, 11, none⟩ = some (.int .i64 a0_11) ∧ w'.cell? ⟨gb198, 12, none⟩ = some (.int .i64 a0_12)) (ds := []) #[false, false, false, false, false, false, false, false, false] (by kernel_rfl) rfl rfl ⟨(blk_cell BK198.out 0).trans rfl, (blk_cell BK198.out 1).trans rfl, (blk_cell BK198.out 2).trans rfl, (blk_cell BK198.out 3).trans rfl, (blk_cell BK198.out 4).trans rfl, (blk_cell BK198.out 5).trans rfl, (blk_cell BK198.out 6).trans rfl, (blk_cell BK198.out 7).trans rfl, (blk_cell BK198.out 8).trans rfl, (blk_cell BK198.out 9).trans rfl, (blk_cell BK198.out 10).trans rfl, (blk_cell BK198.out 11).trans rfl, (blk_cell BK198.out 12).trans rfl⟩ (fun hHeld => ?_); refine with_tabW account_begin.tab5 account_begin.bits5 (fun HT_ HW_ => ?_)
            generalize w32.drew = w33 at HO_199007 BK198 BK199 BK200 HK HB hHeld ⊢
            refine pure_ (i := 1) (N := some 42) (v := ?_) (a' := ?_) #[false, true, false, false, false, false, false, false, false] rfl rfl (any_of HT_.out (by kernel_rfl)) (fun _ _ _ h => h) (Or.inl ⟨by rfl, ?_⟩) ?_ ?_
            rotate_left
            · intro w'
              go_simp
              with_reducible rfl
            rotate_left
            · simp only [Act.put, List.setIfInBounds_toArray, List.set_cons_zero, List.set_cons_succ, i64_w, i32_w]
              rfl
            refine pure_ (i := 2) (N := some 43) (v := ?_) (a' := ?_) #[false, true, true, false, false, false, false, false, false] rfl rfl (any_of HT_.out (by kernel_rfl)) (fun _ _ _ h => h) (Or.inl ⟨by rfl, ?_⟩) ?_ ?_
            rotate_left
            · intro w'
              go_simp
              with_reducible rfl
            rotate_left
            · simp only [Act.put, List.setIfInBounds_toArray, List.set_cons_zero, List.set_cons_succ, i64_w, i32_w]
              rfl
            refine take_ (i := 0) (N := some 41) (v := ?_) (a' := ?_) #[true, true, true, false, false, false, false, false, false] rfl rfl (take_ofW HT_.out HW_.out (by kernel_rfl)) (fun _ _ _ h => h) (Or.inl ⟨by rfl, ?_⟩) hHeld ?_ ?_
            rotate_left
            · rintro w' ⟨s0, s1, s2, s3, s4, s5, s6, s7, s8, s9, s10, s11, s12⟩
              go_simp
              with_reducible rfl
            rotate_left
            · simp only [Act.put, List.setIfInBounds_toArray, List.set_cons_zero, List.set_cons_succ, i64_w, i32_w]
              rfl
            refine one_ (i := 3) (N := some 44) #[true, true, true, true, false, false, false, false, false] rfl rfl (one_of HT_.out (by kernel_rfl)) (by decide) (fun K hK => ?_)
            refine goes_ Try.func38 (by kernel_rfl) rfl #[.int .i64 a0_4, .int .i64 a2] (by rfl) rfl rfl (by (try simp only [List.map_toArray, List.map_cons, List.map_nil]); first | done | rfl | (simp only [List.length_drop, List.length_take]; rfl)) ?_
            with_reducible refine (cycle_Pass.calls a0_4 a2 t201 t202 t203 t204 t205 t206 t207 t208 _ A27.out).mono ?_
            rintro e w34 ⟨rfl, hb⟩
            refine ⟨_, rfl, ?_⟩
            have n0_ := Aside0.mk (Kd.R_below (by (with_reducible repeat (first | apply Kd.R_alloc | apply Kd.R_drewN | apply Kd.R_drew)); exact HO_199007.out) hb)
            have n1_ := Aside0.mk (blk_below (g := gb198) (o := .cells #[.int .u8 a0_0, .int .i64 a0_1, .int .i64 a0_2, .int .i64 a0_3, .int .i64 (wrap64 (a0_4 + 1)), .int .i64 a0_5, .bool true, .slice Ao6 l0_7.length co6, .int .i64 a0_8, .int .i64 a0_9, .int .i64 a0_10, .int .i64 a0_11, .int .i64 a0_12] 31 (0, 0)) (by (with_reducible repeat (first | refine blk_drewN ?_ _ | refine blk_drew ?_ | refine blk_alloc ?_ _)); exact BK198.out) hb)
            have n2_ := Aside0.mk (blk_below (g := gb199) (o := .cells #[.int .i64 a1_0, .int .u8 a1_1, .int .i64 a1_2, .int .i64 a1_3, .bool a1_4, .bool a1_5] 25 (0, 0)) (by (with_reducible repeat (first | refine blk_drewN ?_ _ | refine blk_drew ?_ | refine blk_alloc ?_ _)); exact BK199.out) hb)
            have n3_ := Aside0.mk (blk_below (g := gb200) (o := .cells #[.int .u8 0, .int .i64 0, .int .i64 0, .int .i64 0, .int .i64 0, .int .i64 0, .bool false, .slice none 0 0, .int .i64 0, .int .i64 0, .int .i64 0, .int .i64 0, .int .i64 0] 31 (0, 0)) (by (with_reducible repeat (first | refine blk_drewN ?_ _ | refine blk_drew ?_ | refine blk_alloc ?_ _)); exact BK200.out) hb)
            have n4_ := Aside0.mk (Kept.below (S := (fun k_ => P0_7_ k_)) (by repeat (first | (with_reducible first | exact HK.out | apply Kept.alloc | apply Kept.drewN | apply Kept.drew | refine Kept.setCell ?_ (.inr GW198.out) _ | refine Kept.setCell ?_ (.inr GW199.out) _ | refine Kept.setCell ?_ (.inr GW200.out) _) | exact HK.out)) hb)
            have n5_ := Aside0.mk (below_step (by repeat (first | (with_reducible first | exact HB.out | apply below_alloc | apply pw_below_drewN | apply below_drew1 | refine below_set ?_ GE198.out | refine below_set ?_ GE199.out | refine below_set ?_ GE200.out) | exact HB.out)) hb)
            clear HO_199007
            clear BK198
            clear BK199
            clear BK200
            clear HK
            clear HB
            have HO_199007 := n0_
            have BK198 := n1_
            have BK199 := n2_
            have BK200 := n3_
            have HK := n4_
            have HB := n5_
            clear n0_ n1_ n2_ n3_ n4_ n5_
            (try clear hb)
            (try clear hb2)
            (try clear hk)
            (try clear hi)
            refine hK.out _ _ ⟨(blk_cell BK198.out 0).trans rfl, (blk_cell BK198.out 1).trans rfl, (blk_cell BK198.out 2).trans rfl, (blk_cell BK198.out 3).trans rfl, (blk_cell BK198.out 4).trans rfl, (blk_cell BK198.out 5).trans rfl, (blk_cell BK198.out 6).trans rfl, (blk_cell BK198.out 7).trans rfl, (blk_cell BK198.out 8).trans rfl, (blk_cell BK198.out 9).trans rfl, (blk_cell BK198.out 10).trans rfl, (blk_cell BK198.out 11).trans rfl, (blk_cell BK198.out 12).trans rfl⟩ (fun hHeld => ?_)
            clear hK K
            refine norm_ (a' := ?_) ?_ ?_
            rotate_left
            · show Act.put _ (some 44) _ = _
              simp only [Act.put, List.setIfInBounds_toArray, List.set_cons_zero, List.set_cons_succ, i64_w, i32_w]
              rfl
            refine one_ (i := 4) (N := some 45) #[true, true, true, true, true, false, false, false, false] rfl rfl (one_of HT_.out (by kernel_rfl)) (by decide) (fun K hK => ?_)
            refine goes_ Try.func37 (by kernel_rfl) rfl #[.agg #[.int .u8 a0_0, .int .i64 a0_1, .int .i64 a0_2, .int .i64 a0_3, .int .i64 (wrap64 (a0_4 + 1)), .int .i64 a0_5, .bool true, .slice Ao6 l0_7.length co6, .int .i64 a0_8, .int .i64 a0_9, .int .i64 a0_10, .int .i64 a0_11, .int .i64 a0_12], .agg #[.int .i64 t201, .int .i64 t202, .int .u8 t203, .int .i64 t204, .int .i64 t205, .int .i64 t206, .int .i64 t207, .bool t208]] (by rfl) rfl rfl (by (try simp only [List.map_toArray, List.map_cons, List.map_nil]); first | done | rfl | (simp only [List.length_drop, List.length_take]; rfl)) ?_
            with_reducible refine (account_close.calls a0_0 a0_1 a0_2 a0_3 (wrap64 (a0_4 + 1)) a0_5 true (fun k_ => some k_ = (.slice Ao6 l0_7.length co6 : Value).ownBlock) (.slice Ao6 l0_7.length co6) l0_7 a0_8 a0_9 a0_10 a0_11 a0_12 t201 t202 t203 t204 t205 t206 t207 t208 t209 t210 t211 t212 t213 t214 t215 t216 t219 t220 t221 t222 t223 t224 w0 _ ?side1 ?side2 A28.out).mono ?_
            (case side1 => repeat (first | (with_reducible first | exact HB.out | apply below_alloc | apply pw_below_drewN | apply below_drew1 | refine below_set ?_ GE198.out | refine below_set ?_ GE199.out | refine below_set ?_ GE200.out) | exact HB.out))
            (case side2 => exact Kd.R_tight rfl HO_199007.out)
            rintro e w35 ⟨v217, rfl, ho0, hb, hkp⟩
            refine ⟨_, rfl, ?_⟩
            have n0_ := Aside0.mk (blk_kept (by (with_reducible repeat (first | refine blk_drewN ?_ _ | refine blk_drew ?_ | refine blk_alloc ?_ _)); exact BK198.out) hkp (fun hs_ => (fun e_ => (Kd.R_ne HO_199007.out BK198.out (by decide)) e_) hs_))
            have n1_ := Aside0.mk (blk_kept (by (with_reducible repeat (first | refine blk_drewN ?_ _ | refine blk_drew ?_ | refine blk_alloc ?_ _)); exact BK199.out) hkp (fun hs_ => (fun e_ => (Kd.R_ne HO_199007.out BK199.out (by decide)) e_) hs_))
            have n2_ := Aside0.mk (blk_kept (by (with_reducible repeat (first | refine blk_drewN ?_ _ | refine blk_drew ?_ | refine blk_alloc ?_ _)); exact BK200.out) hkp (fun hs_ => (fun e_ => (Kd.R_ne HO_199007.out BK200.out (by decide)) e_) hs_))
            have n3_ := Aside0.mk (Kd.R_mono (ok' := fun k_ => (P0_7_ k_ ∨ w.heap.size ≤ k_)) ho0 (fun k_ hk_ => Or.elim hk_ (fun hs_ => (HO_199007.out.1 k_ (hs_).symm)) (fun hn_ => (.inr (Nat.le_trans (by first | exact HK.out.1 | exact (show Kept w _ (fun k_ => P0_7_ k_) from by repeat (first | (with_reducible first | exact HK.out | apply Kept.alloc | apply Kept.drewN | apply Kept.drew | refine Kept.setCell ?_ (.inr GW198.out) _ | refine Kept.setCell ?_ (.inr GW199.out) _ | refine Kept.setCell ?_ (.inr GW200.out) _) | exact HK.out)).1) hn_)))))
            have n4_ := Aside0.mk (Kept.then_ (S := (fun k_ => P0_7_ k_)) (by repeat (first | (with_reducible first | exact HK.out | apply Kept.alloc | apply Kept.drewN | apply Kept.drew | refine Kept.setCell ?_ (.inr GW198.out) _ | refine Kept.setCell ?_ (.inr GW199.out) _ | refine Kept.setCell ?_ (.inr GW200.out) _) | exact HK.out)) hkp (fun k_ hs_ => (fun e_ => (HO_199007.out.1 k_ e_.symm)) hs_))
            have n5_ := Aside0.mk (hb)
            clear BK198
            clear BK199
            clear BK200
            clear HK
            clear HB
            clear HO_199007
            have BK198 := n0_
            have BK199 := n1_
            have BK200 := n2_
            have HO218 := n3_
            have HK := n4_
            have HB := n5_
            clear n0_ n1_ n2_ n3_ n4_ n5_
            (try clear hb)
            (try clear hkp)
            (try clear ho0)
            obtain ⟨Ao43, co43, eo43⟩ := Kd.R_slice HO218.out
            (first | subst eo43 | (injection eo43 with f1_ f2_ f3_; have f4_ := f1_.symm; have f5_ := f3_.symm; clear f1_ f2_ f3_; subst f4_; subst f5_))
            refine hK.out _ _ ⟨(blk_cell BK198.out 0).trans rfl, (blk_cell BK198.out 1).trans rfl, (blk_cell BK198.out 2).trans rfl, (blk_cell BK198.out 3).trans rfl, (blk_cell BK198.out 4).trans rfl, (blk_cell BK198.out 5).trans rfl, (blk_cell BK198.out 6).trans rfl, (blk_cell BK198.out 7).trans rfl, (blk_cell BK198.out 8).trans rfl, (blk_cell BK198.out 9).trans rfl, (blk_cell BK198.out 10).trans rfl, (blk_cell BK198.out 11).trans rfl, (blk_cell BK198.out 12).trans rfl⟩ (fun hHeld => ?_)
            clear hK K
            refine norm_ (a' := ?_) ?_ ?_
            rotate_left
            · show Act.put _ (some 45) _ = _
              simp only [Act.put, List.setIfInBounds_toArray, List.set_cons_zero, List.set_cons_succ, i64_w, i32_w]
              rfl
            refine pure_ (i := 5) (N := some 46) (v := ?_) (a' := ?_) #[true, true, true, true, true, true, false, false, false] rfl rfl (any_of HT_.out (by kernel_rfl)) (fun _ _ _ h => h) (Or.inl ⟨by rfl, ?_⟩) ?_ ?_
            rotate_left
            · intro w'
              go_simp
              with_reducible rfl
            rotate_left
            · simp only [Act.put, List.setIfInBounds_toArray, List.set_cons_zero, List.set_cons_succ, i64_w, i32_w]
              rfl
            refine pure_ (i := 6) (N := some 47) (v := ?_) (a' := ?_) #[true, true, true, true, true, true, true, false, false] rfl rfl (any_of HT_.out (by kernel_rfl)) (fun _ _ _ h => h) (Or.inl ⟨by rfl, ?_⟩) ?_ ?_
            rotate_left
            · intro w'
              go_simp
              with_reducible rfl
            rotate_left
            · simp only [Act.put, List.setIfInBounds_toArray, List.set_cons_zero, List.set_cons_succ, i64_w, i32_w]
              rfl
            refine one_ (i := 7) (N := none) #[true, true, true, true, true, true, true, true, false] rfl rfl (one_of HT_.out (by kernel_rfl)) (by decide) (fun K hK => ?_)
            have hs36 : w35.cell? ⟨gb200, 0, none⟩ = some (.int .u8 0) := (blk_cell BK200.out 0).trans rfl
            have hfs36 := blk_frozen BK200.out 0
            have hns36_0 := NB198_200.out
            have hns36_1 := NB199_200.out
            have hms36_0 := NB200_198.out
            have hms36_1 := NB200_199.out
            have hs37 : w35.cell? ⟨gb200, 1, none⟩ = some (.int .i64 0) := (blk_cell BK200.out 1).trans rfl
            have hfs37 := blk_frozen BK200.out 1
            have hns37_0 := NB198_200.out
            have hns37_1 := NB199_200.out
            have hms37_0 := NB200_198.out
            have hms37_1 := NB200_199.out
            have hs38 : w35.cell? ⟨gb200, 2, none⟩ = some (.int .i64 0) := (blk_cell BK200.out 2).trans rfl
            have hfs38 := blk_frozen BK200.out 2
            have hns38_0 := NB198_200.out
            have hns38_1 := NB199_200.out
            have hms38_0 := NB200_198.out
            have hms38_1 := NB200_199.out
            have hs39 : w35.cell? ⟨gb200, 3, none⟩ = some (.int .i64 0) := (blk_cell BK200.out 3).trans rfl
            have hfs39 := blk_frozen BK200.out 3
            have hns39_0 := NB198_200.out
            have hns39_1 := NB199_200.out
            have hms39_0 := NB200_198.out
            have hms39_1 := NB200_199.out
            have hs40 : w35.cell? ⟨gb200, 4, none⟩ = some (.int .i64 0) := (blk_cell BK200.out 4).trans rfl
            have hfs40 := blk_frozen BK200.out 4
            have hns40_0 := NB198_200.out
            have hns40_1 := NB199_200.out
            have hms40_0 := NB200_198.out
            have hms40_1 := NB200_199.out
            have hs41 : w35.cell? ⟨gb200, 5, none⟩ = some (.int .i64 0) := (blk_cell BK200.out 5).trans rfl
            have hfs41 := blk_frozen BK200.out 5
            have hns41_0 := NB198_200.out
            have hns41_1 := NB199_200.out
            have hms41_0 := NB200_198.out
            have hms41_1 := NB200_199.out
            have hs42 : w35.cell? ⟨gb200, 6, none⟩ = some (.bool false) := (blk_cell BK200.out 6).trans rfl
            have hfs42 := blk_frozen BK200.out 6
            have hns42_0 := NB198_200.out
            have hns42_1 := NB199_200.out
            have hms42_0 := NB200_198.out
            have hms42_1 := NB200_199.out
            have hs44 : w35.cell? ⟨gb200, 7, none⟩ = some (.slice none 0 0) := (blk_cell BK200.out 7).trans rfl
            have hfs44 := blk_frozen BK200.out 7
            have hns44_0 := NB198_200.out
            have hns44_1 := NB199_200.out
            have hms44_0 := NB200_198.out
            have hms44_1 := NB200_199.out
            have hs45 : w35.cell? ⟨gb200, 8, none⟩ = some (.int .i64 0) := (blk_cell BK200.out 8).trans rfl
            have hfs45 := blk_frozen BK200.out 8
            have hns45_0 := NB198_200.out
            have hns45_1 := NB199_200.out
            have hms45_0 := NB200_198.out
            have hms45_1 := NB200_199.out
            have hs46 : w35.cell? ⟨gb200, 9, none⟩ = some (.int .i64 0) := (blk_cell BK200.out 9).trans rfl
            have hfs46 := blk_frozen BK200.out 9
            have hns46_0 := NB198_200.out
            have hns46_1 := NB199_200.out
            have hms46_0 := NB200_198.out
            have hms46_1 := NB200_199.out
            have hs47 : w35.cell? ⟨gb200, 10, none⟩ = some (.int .i64 0) := (blk_cell BK200.out 10).trans rfl
            have hfs47 := blk_frozen BK200.out 10
            have hns47_0 := NB198_200.out
            have hns47_1 := NB199_200.out
            have hms47_0 := NB200_198.out
            have hms47_1 := NB200_199.out
            have hs48 : w35.cell? ⟨gb200, 11, none⟩ = some (.int .i64 0) := (blk_cell BK200.out 11).trans rfl
            have hfs48 := blk_frozen BK200.out 11
            have hns48_0 := NB198_200.out
            have hns48_1 := NB199_200.out
            have hms48_0 := NB200_198.out
            have hms48_1 := NB200_199.out
            have hs49 : w35.cell? ⟨gb200, 12, none⟩ = some (.int .i64 0) := (blk_cell BK200.out 12).trans rfl
            have hfs49 := blk_frozen BK200.out 12
            have hns49_0 := NB198_200.out
            have hns49_1 := NB199_200.out
            have hms49_0 := NB200_198.out
            have hms49_1 := NB200_199.out
            refine skip_ (w1 := ?_) (by rfl) rfl ?_ ?_
            rotate_left
            · go_simp
              rfl
            refine hK.out _ _ ⟨((cf_account_begin gb200 NB198_200.out _).trans (((cf_account_begin gb200 NB198_200.out _).trans (((cf_account_begin gb200 NB198_200.out _).trans (((cf_account_begin gb200 NB198_200.out _).trans (((cf_account_begin gb200 NB198_200.out _).trans (((cf_account_begin gb200 NB198_200.out _).trans (((cf_account_begin gb200 NB198_200.out _).trans (((cf_account_begin gb200 NB198_200.out _).trans (((cf_account_begin gb200 NB198_200.out _).trans (((cf_account_begin gb200 NB198_200.out _).trans (((cf_account_begin gb200 NB198_200.out _).trans (((cf_account_begin gb200 NB198_200.out _).trans (((cf_account_begin gb200 NB198_200.out _).trans (hHeld.1)))))))))))))))))))))))))), ((cf_account_begin gb200 NB198_200.out _).trans (((cf_account_begin gb200 NB198_200.out _).trans (((cf_account_begin gb200 NB198_200.out _).trans (((cf_account_begin gb200 NB198_200.out _).trans (((cf_account_begin gb200 NB198_200.out _).trans (((cf_account_begin gb200 NB198_200.out _).trans (((cf_account_begin gb200 NB198_200.out _).trans (((cf_account_begin gb200 NB198_200.out _).trans (((cf_account_begin gb200 NB198_200.out _).trans (((cf_account_begin gb200 NB198_200.out _).trans (((cf_account_begin gb200 NB198_200.out _).trans (((cf_account_begin gb200 NB198_200.out _).trans (((cf_account_begin gb200 NB198_200.out _).trans (hHeld.2.1)))))))))))))))))))))))))), ((cf_account_begin gb200 NB198_200.out _).trans (((cf_account_begin gb200 NB198_200.out _).trans (((cf_account_begin gb200 NB198_200.out _).trans (((cf_account_begin gb200 NB198_200.out _).trans (((cf_account_begin gb200 NB198_200.out _).trans (((cf_account_begin gb200 NB198_200.out _).trans (((cf_account_begin gb200 NB198_200.out _).trans (((cf_account_begin gb200 NB198_200.out _).trans (((cf_account_begin gb200 NB198_200.out _).trans (((cf_account_begin gb200 NB198_200.out _).trans (((cf_account_begin gb200 NB198_200.out _).trans (((cf_account_begin gb200 NB198_200.out _).trans (((cf_account_begin gb200 NB198_200.out _).trans (hHeld.2.2.1)))))))))))))))))))))))))), ((cf_account_begin gb200 NB198_200.out _).trans (((cf_account_begin gb200 NB198_200.out _).trans (((cf_account_begin gb200 NB198_200.out _).trans (((cf_account_begin gb200 NB198_200.out _).trans (((cf_account_begin gb200 NB198_200.out _).trans (((cf_account_begin gb200 NB198_200.out _).trans (((cf_account_begin gb200 NB198_200.out _).trans (((cf_account_begin gb200 NB198_200.out _).trans (((cf_account_begin gb200 NB198_200.out _).trans (((cf_account_begin gb200 NB198_200.out _).trans (((cf_account_begin gb200 NB198_200.out _).trans (((cf_account_begin gb200 NB198_200.out _).trans (((cf_account_begin gb200 NB198_200.out _).trans (hHeld.2.2.2.1)))))))))))))))))))))))))), ((cf_account_begin gb200 NB198_200.out _).trans (((cf_account_begin gb200 NB198_200.out _).trans (((cf_account_begin gb200 NB198_200.out _).trans (((cf_account_begin gb200 NB198_200.out _).trans (((cf_account_begin gb200 NB198_200.out _).trans (((cf_account_begin gb200 NB198_200.out _).trans (((cf_account_begin gb200 NB198_200.out _).trans (((cf_account_begin gb200 NB198_200.out _).trans (((cf_account_begin gb200 NB198_200.out _).trans (((cf_account_begin gb200 NB198_200.out _).trans (((cf_account_begin gb200 NB198_200.out _).trans (((cf_account_begin gb200 NB198_200.out _).trans (((cf_account_begin gb200 NB198_200.out _).trans (hHeld.2.2.2.2.1)))))))))))))))))))))))))), ((cf_account_begin gb200 NB198_200.out _).trans (((cf_account_begin gb200 NB198_200.out _).trans (((cf_account_begin gb200 NB198_200.out _).trans (((cf_account_begin gb200 NB198_200.out _).trans (((cf_account_begin gb200 NB198_200.out _).trans (((cf_account_begin gb200 NB198_200.out _).trans (((cf_account_begin gb200 NB198_200.out _).trans (((cf_account_begin gb200 NB198_200.out _).trans (((cf_account_begin gb200 NB198_200.out _).trans (((cf_account_begin gb200 NB198_200.out _).trans (((cf_account_begin gb200 NB198_200.out _).trans (((cf_account_begin gb200 NB198_200.out _).trans (((cf_account_begin gb200 NB198_200.out _).trans (hHeld.2.2.2.2.2.1)))))))))))))))))))))))))), ((cf_account_begin gb200 NB198_200.out _).trans (((cf_account_begin gb200 NB198_200.out _).trans (((cf_account_begin gb200 NB198_200.out _).trans (((cf_account_begin gb200 NB198_200.out _).trans (((cf_account_begin gb200 NB198_200.out _).trans (((cf_account_begin gb200 NB198_200.out _).trans (((cf_account_begin gb200 NB198_200.out _).trans (((cf_account_begin gb200 NB198_200.out _).trans (((cf_account_begin gb200 NB198_200.out _).trans (((cf_account_begin gb200 NB198_200.out _).trans (((cf_account_begin gb200 NB198_200.out _).trans (((cf_account_begin gb200 NB198_200.out _).trans (((cf_account_begin gb200 NB198_200.out _).trans (hHeld.2.2.2.2.2.2.1)))))))))))))))))))))))))), ((cf_account_begin gb200 NB198_200.out _).trans (((cf_account_begin gb200 NB198_200.out _).trans (((cf_account_begin gb200 NB198_200.out _).trans (((cf_account_begin gb200 NB198_200.out _).trans (((cf_account_begin gb200 NB198_200.out _).trans (((cf_account_begin gb200 NB198_200.out _).trans (((cf_account_begin gb200 NB198_200.out _).trans (((cf_account_begin gb200 NB198_200.out _).trans (((cf_account_begin gb200 NB198_200.out _).trans (((cf_account_begin gb200 NB198_200.out _).trans (((cf_account_begin gb200 NB198_200.out _).trans (((cf_account_begin gb200 NB198_200.out _).trans (((cf_account_begin gb200 NB198_200.out _).trans (hHeld.2.2.2.2.2.2.2.1)))))))))))))))))))))))))), ((cf_account_begin gb200 NB198_200.out _).trans (((cf_account_begin gb200 NB198_200.out _).trans (((cf_account_begin gb200 NB198_200.out _).trans (((cf_account_begin gb200 NB198_200.out _).trans (((cf_account_begin gb200 NB198_200.out _).trans (((cf_account_begin gb200 NB198_200.out _).trans (((cf_account_begin gb200 NB198_200.out _).trans (((cf_account_begin gb200 NB198_200.out _).trans (((cf_account_begin gb200 NB198_200.out _).trans (((cf_account_begin gb200 NB198_200.out _).trans (((cf_account_begin gb200 NB198_200.out _).trans (((cf_account_begin gb200 NB198_200.out _).trans (((cf_account_begin gb200 NB198_200.out _).trans (hHeld.2.2.2.2.2.2.2.2.1)))))))))))))))))))))))))), ((cf_account_begin gb200 NB198_200.out _).trans (((cf_account_begin gb200 NB198_200.out _).trans (((cf_account_begin gb200 NB198_200.out _).trans (((cf_account_begin gb200 NB198_200.out _).trans (((cf_account_begin gb200 NB198_200.out _).trans (((cf_account_begin gb200 NB198_200.out _).trans (((cf_account_begin gb200 NB198_200.out _).trans (((cf_account_begin gb200 NB198_200.out _).trans (((cf_account_begin gb200 NB198_200.out _).trans (((cf_account_begin gb200 NB198_200.out _).trans (((cf_account_begin gb200 NB198_200.out _).trans (((cf_account_begin gb200 NB198_200.out _).trans (((cf_account_begin gb200 NB198_200.out _).trans (hHeld.2.2.2.2.2.2.2.2.2.1)))))))))))))))))))))))))), ((cf_account_begin gb200 NB198_200.out _).trans (((cf_account_begin gb200 NB198_200.out _).trans (((cf_account_begin gb200 NB198_200.out _).trans (((cf_account_begin gb200 NB198_200.out _).trans (((cf_account_begin gb200 NB198_200.out _).trans (((cf_account_begin gb200 NB198_200.out _).trans (((cf_account_begin gb200 NB198_200.out _).trans (((cf_account_begin gb200 NB198_200.out _).trans (((cf_account_begin gb200 NB198_200.out _).trans (((cf_account_begin gb200 NB198_200.out _).trans (((cf_account_begin gb200 NB198_200.out _).trans (((cf_account_begin gb200 NB198_200.out _).trans (((cf_account_begin gb200 NB198_200.out _).trans (hHeld.2.2.2.2.2.2.2.2.2.2.1)))))))))))))))))))))))))), ((cf_account_begin gb200 NB198_200.out _).trans (((cf_account_begin gb200 NB198_200.out _).trans (((cf_account_begin gb200 NB198_200.out _).trans (((cf_account_begin gb200 NB198_200.out _).trans (((cf_account_begin gb200 NB198_200.out _).trans (((cf_account_begin gb200 NB198_200.out _).trans (((cf_account_begin gb200 NB198_200.out _).trans (((cf_account_begin gb200 NB198_200.out _).trans (((cf_account_begin gb200 NB198_200.out _).trans (((cf_account_begin gb200 NB198_200.out _).trans (((cf_account_begin gb200 NB198_200.out _).trans (((cf_account_begin gb200 NB198_200.out _).trans (((cf_account_begin gb200 NB198_200.out _).trans (hHeld.2.2.2.2.2.2.2.2.2.2.2.1)))))))))))))))))))))))))), ((cf_account_begin gb200 NB198_200.out _).trans (((cf_account_begin gb200 NB198_200.out _).trans (((cf_account_begin gb200 NB198_200.out _).trans (((cf_account_begin gb200 NB198_200.out _).trans (((cf_account_begin gb200 NB198_200.out _).trans (((cf_account_begin gb200 NB198_200.out _).trans (((cf_account_begin gb200 NB198_200.out _).trans (((cf_account_begin gb200 NB198_200.out _).trans (((cf_account_begin gb200 NB198_200.out _).trans (((cf_account_begin gb200 NB198_200.out _).trans (((cf_account_begin gb200 NB198_200.out _).trans (((cf_account_begin gb200 NB198_200.out _).trans (((cf_account_begin gb200 NB198_200.out _).trans (hHeld.2.2.2.2.2.2.2.2.2.2.2.2))))))))))))))))))))))))))⟩ (fun hHeld => ?_)
            clear hK K
            refine pure_ (i := 8) (N := some 9) (v := ?_) (a' := ?_) #[true, true, true, true, true, true, true, true, true] rfl rfl (any_of HT_.out (by kernel_rfl)) (fun _ _ _ h => h) (Or.inl ⟨by rfl, ?_⟩) ?_ ?_
            rotate_left
            · intro w'
              go_simp
              with_reducible rfl
            rotate_left
            · simp only [Act.put, List.setIfInBounds_toArray, List.set_cons_zero, List.set_cons_succ, i64_w, i32_w]
              rfl
            refine done_ (done_of HT_.out (by kernel_rfl)) ?_
            try go_wp2
            refine bodyPost_ret (results_ct rfl _ _ gb200 31 #[.int .u8 t209, .int .i64 t210, .int .i64 t211, .int .i64 t212, .int .i64 t213, .int .i64 t214, .bool t215, .slice Ao43 t216.length co43, .int .i64 t219, .int .i64 t220, .int .i64 t221, .int .i64 t222, .int .i64 t223] (0, 0) _ rfl (by (with_reducible repeat (first | refine blk_drewN ?_ _ | refine blk_drew ?_ | refine blk_alloc ?_ _)); refine bp13 (.int .u8 0) (.int .i64 0) (.int .i64 0) (.int .i64 0) (.int .i64 0) (.int .i64 0) (.bool false) (.slice none 0 0) (.int .i64 0) (.int .i64 0) (.int .i64 0) (.int .i64 0) (.int .i64 0) ?_; (with_reducible repeat (first | refine blk_drewN ?_ _ | refine blk_drew ?_ | refine blk_alloc ?_ _)); exact BK200.out) Try.underlying31 rfl (by kernel_rfl)) rfl ?_
            exact ⟨_, by first | rfl | (simp [errW_none, errW_some] <;> rfl) | (simp [*, errW_none, errW_some] <;> rfl), by (with_reducible repeat (first | apply Kd.R_alloc | apply Kd.R_drewN | apply Kd.R_drew)); exact Kd.R_mono (Kd.R_step (Kd.R_types HO218.out BK200.out (by decide)) (fun _ hk _ => by (with_reducible repeat (first | refine (hst (g := gb200) hk.2 _ _).trans ?_ | refine (hdn _ _ _).trans ?_ | refine (hd1 _ _).trans ?_)); rfl)) (fun _ hk => hk.1), by repeat (first | (with_reducible first | exact HB.out | apply below_alloc | apply pw_below_drewN | apply below_drew1 | refine below_set ?_ GE198.out | refine below_set ?_ GE199.out | refine below_set ?_ GE200.out) | exact HB.out), by repeat (first | (with_reducible first | exact HK.out | apply Kept.alloc | apply Kept.drewN | apply Kept.drew | refine Kept.setCell ?_ (.inr GW198.out) _ | refine Kept.setCell ?_ (.inr GW199.out) _ | refine Kept.setCell ?_ (.inr GW200.out) _) | exact HK.out)⟩
          · rw [if_neg c26] at H
            have c26b0 : (a0_0 == 2) = false := beq_eq_false_iff_ne.mpr c26
            have c26b1 : (a0_0 != 2) = true := bne_iff_ne.mpr c26
            replace H := Option.bind_eq_some_iff.mp H
            obtain ⟨⟨t225, t226, t227, t228, t229, t230, t231, t232⟩, A500, H⟩ := H
            replace H : ((account_close.f a0_0 a0_1 a0_2 a0_3 (wrap64 (a0_4 + 1)) a0_5 a3 l0_7 a0_8 a0_9 a0_10 a0_11 a0_12 t225 t226 t227 t228 t229 t230 t231 t232).bind fun bt233 => (some (bt233.1, bt233.2.1, bt233.2.2.1, bt233.2.2.2.1, bt233.2.2.2.2.1, bt233.2.2.2.2.2.1, bt233.2.2.2.2.2.2.1, bt233.2.2.2.2.2.2.2.1, bt233.2.2.2.2.2.2.2.2.1, bt233.2.2.2.2.2.2.2.2.2.1, bt233.2.2.2.2.2.2.2.2.2.2.1, bt233.2.2.2.2.2.2.2.2.2.2.2.1, bt233.2.2.2.2.2.2.2.2.2.2.2.2.1, bt233.2.2.2.2.2.2.2.2.2.2.2.2.2))) = some (r1, r2, r3, r4, r5, r6, r7, r8, r9, r10, r11, r12, r13, r14) := H
            have A50 := Aside0.mk A500
            clear A500
            replace H := Option.bind_eq_some_iff.mp H
            obtain ⟨⟨t233, t234, t235, t236, t237, t238, t239, t240, t243, t244, t245, t246, t247, t248⟩, A510, H⟩ := H
            replace H : (some (t233, t234, t235, t236, t237, t238, t239, t240, t243, t244, t245, t246, t247, t248)) = some (r1, r2, r3, r4, r5, r6, r7, r8, r9, r10, r11, r12, r13, r14) := H
            have A51 := Aside0.mk A510
            clear A510
            simp only [Option.some.injEq, Prod.mk.injEq] at H
            obtain ⟨rfl, rfl, rfl, rfl, rfl, rfl, rfl, rfl, rfl, rfl, rfl, rfl, rfl, rfl⟩ := H
            have hnb52 := NB198_199.out
            have hnc52 := NB199_198.out
            have hnb53 := NB198_200.out
            have hnc53 := NB200_198.out
            obtain ⟨hcz54_0, hcz54_1, hcz54_2, hcz54_3, hcz54_4, hcz54_5, hcz54_6, hcz54_7, hcz54_8, hcz54_9, hcz54_10, hcz54_11, hcz54_12⟩ := bc13 BK198.out
            obtain ⟨hfz54_0, hfz54_1, hfz54_2, hfz54_3, hfz54_4, hfz54_5, hfz54_6, hfz54_7, hfz54_8, hfz54_9, hfz54_10, hfz54_11, hfz54_12⟩ := bf13 BK198.out
            try go_wp2
            have n0_ : Aside0 (Kd.R k37 37 (wc.setCell ⟨gb198, 6, none⟩ (.bool a3)) w0.heap.size (fun k_ => (P0_7_ k_ ∨ w.heap.size ≤ k_)) (.slice Ao6 l0_7.length co6) l0_7) := ⟨by (with_reducible repeat (first | apply Kd.R_alloc | apply Kd.R_drewN | apply Kd.R_drew)); exact Kd.R_mono (Kd.R_step (Kd.R_types HO_199007.out BK198.out (by decide)) (fun _ hk _ => by (with_reducible repeat (first | refine (hst (g := gb198) hk.2 _ _).trans ?_ | refine (hdn _ _ _).trans ?_ | refine (hd1 _ _).trans ?_)); rfl)) (fun _ hk => hk.1)⟩
            have n1_ : Aside0 ((wc.setCell ⟨gb198, 6, none⟩ (.bool a3)).heap[gb198]? = some (.cells #[.int .u8 a0_0, .int .i64 a0_1, .int .i64 a0_2, .int .i64 a0_3, .int .i64 (wrap64 (a0_4 + 1)), .int .i64 a0_5, .bool a3, .slice Ao6 l0_7.length co6, .int .i64 a0_8, .int .i64 a0_9, .int .i64 a0_10, .int .i64 a0_11, .int .i64 a0_12] 31 (0, 0))) := ⟨by (with_reducible repeat (first | refine blk_drewN ?_ _ | refine blk_drew ?_ | refine blk_alloc ?_ _)); refine blk_put (cs := #[.int .u8 a0_0, .int .i64 a0_1, .int .i64 a0_2, .int .i64 a0_3, .int .i64 (wrap64 (a0_4 + 1)), .int .i64 a0_5, .bool true, .slice Ao6 l0_7.length co6, .int .i64 a0_8, .int .i64 a0_9, .int .i64 a0_10, .int .i64 a0_11, .int .i64 a0_12]) ?_ 6 _ rfl; (with_reducible repeat (first | refine blk_drewN ?_ _ | refine blk_drew ?_ | refine blk_alloc ?_ _)); exact BK198.out⟩
            have n2_ : Aside0 ((wc.setCell ⟨gb198, 6, none⟩ (.bool a3)).heap[gb199]? = some (.cells #[.int .i64 a1_0, .int .u8 a1_1, .int .i64 a1_2, .int .i64 a1_3, .bool a1_4, .bool a1_5] 25 (0, 0))) := ⟨by (with_reducible repeat (first | refine blk_drewN ?_ _ | refine blk_drew ?_ | refine blk_alloc ?_ _)); refine blk_far ?_ NB199_198.out _; (with_reducible repeat (first | refine blk_drewN ?_ _ | refine blk_drew ?_ | refine blk_alloc ?_ _)); exact BK199.out⟩
            have n3_ : Aside0 ((wc.setCell ⟨gb198, 6, none⟩ (.bool a3)).heap[gb200]? = some (.cells #[.int .u8 0, .int .i64 0, .int .i64 0, .int .i64 0, .int .i64 0, .int .i64 0, .bool false, .slice none 0 0, .int .i64 0, .int .i64 0, .int .i64 0, .int .i64 0, .int .i64 0] 31 (0, 0))) := ⟨by (with_reducible repeat (first | refine blk_drewN ?_ _ | refine blk_drew ?_ | refine blk_alloc ?_ _)); refine blk_far ?_ NB200_198.out _; (with_reducible repeat (first | refine blk_drewN ?_ _ | refine blk_drew ?_ | refine blk_alloc ?_ _)); exact BK200.out⟩
            have n4_ : Aside0 (Kept w (wc.setCell ⟨gb198, 6, none⟩ (.bool a3)) (fun k_ => P0_7_ k_)) := ⟨by repeat (first | (with_reducible first | exact HK.out | apply Kept.alloc | apply Kept.drewN | apply Kept.drew | refine Kept.setCell ?_ (.inr GW198.out) _ | refine Kept.setCell ?_ (.inr GW199.out) _ | refine Kept.setCell ?_ (.inr GW200.out) _) | exact HK.out)⟩
            have n5_ : Aside0 (Below w0.heap.size w0 (wc.setCell ⟨gb198, 6, none⟩ (.bool a3))) := ⟨by repeat (first | (with_reducible first | exact HB.out | apply below_alloc | apply pw_below_drewN | apply below_drew1 | refine below_set ?_ GE198.out | refine below_set ?_ GE199.out | refine below_set ?_ GE200.out) | exact HB.out)⟩
            (try clear HO_199007)
            (try clear BK198)
            (try clear BK199)
            (try clear BK200)
            (try clear HK)
            (try clear HB)
            generalize (wc.setCell ⟨gb198, 6, none⟩ (.bool a3)) = w55 at n0_ n1_ n2_ n3_ n4_ n5_ ⊢
            have HO_199007 := n0_
            have BK198 := n1_
            have BK199 := n2_
            have BK200 := n3_
            have HK := n4_
            have HB := n5_
            clear n0_ n1_ n2_ n3_ n4_ n5_
            have n0_ := Aside0.mk (Kd.R_drew HO_199007.out)
            have n1_ := Aside0.mk (blk_drew BK198.out)
            have n2_ := Aside0.mk (blk_drew BK199.out)
            have n3_ := Aside0.mk (blk_drew BK200.out)
            have n4_ := Aside0.mk (Kept.drew HK.out)
            have n5_ := Aside0.mk (below_drew1 HB.out)
            clear HO_199007
            clear BK198
            clear BK199
            clear BK200
            clear HK
            clear HB
            have HO_199007 := n0_
            have BK198 := n1_
            have BK199 := n2_
            have BK200 := n3_
            have HK := n4_
            have HB := n5_
            clear n0_ n1_ n2_ n3_ n4_ n5_
            refine start_ (n := 9) (S := fun w' => w'.cell? ⟨gb198, 0, none⟩ = some (.int .u8 a0_0) ∧ w'.cell? ⟨gb198, 1, none⟩ = some (.int .i64 a0_1) ∧ w'.cell? ⟨gb198, 2, none⟩ = some (.int .i64 a0_2) ∧ w'.cell? ⟨gb198, 3, none⟩ = some (.int .i64 a0_3) ∧ w'.cell? ⟨gb198, 4, none⟩ = some (.int .i64 (wrap64 (a0_4 + 1))) ∧ w'.cell? ⟨gb198, 5, none⟩ = some (.int .i64 a0_5) ∧ w'.cell? ⟨gb198, 6, none⟩ = some (.bool a3) ∧ w'.cell? ⟨gb198, 7, none⟩ = some (.slice Ao6 l0_7.length co6) ∧ w'.cell? ⟨gb198, 8, none⟩ = some (.int .i64 a0_8) ∧ w'.cell? ⟨gb198, 9, none⟩ = some (.int .i64 a0_9) ∧ w'.cell? ⟨gb198, 10, none⟩ = some (.int .i64 a0_10) ∧ w'.cell? ⟨gb198, 11, none⟩ = some (.int .i64 a0_11) ∧ w'.cell? ⟨gb198, 12, none⟩ = some (.int .i64 a0_12)) (ds := []) #[false, false, false, false, false, false, false, false, false] (by kernel_rfl) rfl rfl ⟨(blk_cell BK198.out 0).trans rfl, (blk_cell BK198.out 1).trans rfl, (blk_cell BK198.out 2).trans rfl, (blk_cell BK198.out 3).trans rfl, (blk_cell BK198.out 4).trans rfl, (blk_cell BK198.out 5).trans rfl, (blk_cell BK198.out 6).trans rfl, (blk_cell BK198.out 7).trans rfl, (blk_cell BK198.out 8).trans rfl, (blk_cell BK198.out 9).trans rfl, (blk_cell BK198.out 10).trans rfl, (blk_cell BK198.out 11).trans rfl, (blk_cell BK198.out 12).trans rfl⟩ (fun hHeld => ?_); refine with_tabW account_begin.tab5 account_begin.bits5 (fun HT_ HW_ => ?_)
            generalize w55.drew = w56 at HO_199007 BK198 BK199 BK200 HK HB hHeld ⊢
            refine pure_ (i := 1) (N := some 42) (v := ?_) (a' := ?_) #[false, true, false, false, false, false, false, false, false] rfl rfl (any_of HT_.out (by kernel_rfl)) (fun _ _ _ h => h) (Or.inl ⟨by rfl, ?_⟩) ?_ ?_
            rotate_left
            · intro w'
              go_simp
              with_reducible rfl
            rotate_left
            · simp only [Act.put, List.setIfInBounds_toArray, List.set_cons_zero, List.set_cons_succ, i64_w, i32_w]
              rfl
            refine pure_ (i := 2) (N := some 43) (v := ?_) (a' := ?_) #[false, true, true, false, false, false, false, false, false] rfl rfl (any_of HT_.out (by kernel_rfl)) (fun _ _ _ h => h) (Or.inl ⟨by rfl, ?_⟩) ?_ ?_
            rotate_left
            · intro w'
              go_simp
              with_reducible rfl
            rotate_left
            · simp only [Act.put, List.setIfInBounds_toArray, List.set_cons_zero, List.set_cons_succ, i64_w, i32_w]
              rfl
            refine take_ (i := 0) (N := some 41) (v := ?_) (a' := ?_) #[true, true, true, false, false, false, false, false, false] rfl rfl (take_ofW HT_.out HW_.out (by kernel_rfl)) (fun _ _ _ h => h) (Or.inl ⟨by rfl, ?_⟩) hHeld ?_ ?_
            rotate_left
            · rintro w' ⟨s0, s1, s2, s3, s4, s5, s6, s7, s8, s9, s10, s11, s12⟩
              go_simp
              with_reducible rfl
            rotate_left
            · simp only [Act.put, List.setIfInBounds_toArray, List.set_cons_zero, List.set_cons_succ, i64_w, i32_w]
              rfl
            refine one_ (i := 3) (N := some 44) #[true, true, true, true, false, false, false, false, false] rfl rfl (one_of HT_.out (by kernel_rfl)) (by decide) (fun K hK => ?_)
            refine goes_ Try.func38 (by kernel_rfl) rfl #[.int .i64 a0_4, .int .i64 a2] (by rfl) rfl rfl (by (try simp only [List.map_toArray, List.map_cons, List.map_nil]); first | done | rfl | (simp only [List.length_drop, List.length_take]; rfl)) ?_
            with_reducible refine (cycle_Pass.calls a0_4 a2 t225 t226 t227 t228 t229 t230 t231 t232 _ A50.out).mono ?_
            rintro e w57 ⟨rfl, hb⟩
            refine ⟨_, rfl, ?_⟩
            have n0_ := Aside0.mk (Kd.R_below (by (with_reducible repeat (first | apply Kd.R_alloc | apply Kd.R_drewN | apply Kd.R_drew)); exact HO_199007.out) hb)
            have n1_ := Aside0.mk (blk_below (g := gb198) (o := .cells #[.int .u8 a0_0, .int .i64 a0_1, .int .i64 a0_2, .int .i64 a0_3, .int .i64 (wrap64 (a0_4 + 1)), .int .i64 a0_5, .bool a3, .slice Ao6 l0_7.length co6, .int .i64 a0_8, .int .i64 a0_9, .int .i64 a0_10, .int .i64 a0_11, .int .i64 a0_12] 31 (0, 0)) (by (with_reducible repeat (first | refine blk_drewN ?_ _ | refine blk_drew ?_ | refine blk_alloc ?_ _)); exact BK198.out) hb)
            have n2_ := Aside0.mk (blk_below (g := gb199) (o := .cells #[.int .i64 a1_0, .int .u8 a1_1, .int .i64 a1_2, .int .i64 a1_3, .bool a1_4, .bool a1_5] 25 (0, 0)) (by (with_reducible repeat (first | refine blk_drewN ?_ _ | refine blk_drew ?_ | refine blk_alloc ?_ _)); exact BK199.out) hb)
            have n3_ := Aside0.mk (blk_below (g := gb200) (o := .cells #[.int .u8 0, .int .i64 0, .int .i64 0, .int .i64 0, .int .i64 0, .int .i64 0, .bool false, .slice none 0 0, .int .i64 0, .int .i64 0, .int .i64 0, .int .i64 0, .int .i64 0] 31 (0, 0)) (by (with_reducible repeat (first | refine blk_drewN ?_ _ | refine blk_drew ?_ | refine blk_alloc ?_ _)); exact BK200.out) hb)
            have n4_ := Aside0.mk (Kept.below (S := (fun k_ => P0_7_ k_)) (by repeat (first | (with_reducible first | exact HK.out | apply Kept.alloc | apply Kept.drewN | apply Kept.drew | refine Kept.setCell ?_ (.inr GW198.out) _ | refine Kept.setCell ?_ (.inr GW199.out) _ | refine Kept.setCell ?_ (.inr GW200.out) _) | exact HK.out)) hb)
            have n5_ := Aside0.mk (below_step (by repeat (first | (with_reducible first | exact HB.out | apply below_alloc | apply pw_below_drewN | apply below_drew1 | refine below_set ?_ GE198.out | refine below_set ?_ GE199.out | refine below_set ?_ GE200.out) | exact HB.out)) hb)
            clear HO_199007
            clear BK198
            clear BK199
            clear BK200
            clear HK
            clear HB
            have HO_199007 := n0_
            have BK198 := n1_
            have BK199 := n2_
            have BK200 := n3_
            have HK := n4_
            have HB := n5_
            clear n0_ n1_ n2_ n3_ n4_ n5_
            (try clear hb)
            (try clear hb2)
            (try clear hk)
            (try clear hi)
            refine hK.out _ _ ⟨(blk_cell BK198.out 0).trans rfl, (blk_cell BK198.out 1).trans rfl, (blk_cell BK198.out 2).trans rfl, (blk_cell BK198.out 3).trans rfl, (blk_cell BK198.out 4).trans rfl, (blk_cell BK198.out 5).trans rfl, (blk_cell BK198.out 6).trans rfl, (blk_cell BK198.out 7).trans rfl, (blk_cell BK198.out 8).trans rfl, (blk_cell BK198.out 9).trans rfl, (blk_cell BK198.out 10).trans rfl, (blk_cell BK198.out 11).trans rfl, (blk_cell BK198.out 12).trans rfl⟩ (fun hHeld => ?_)
            clear hK K
            refine norm_ (a' := ?_) ?_ ?_
            rotate_left
            · show Act.put _ (some 44) _ = _
              simp only [Act.put, List.setIfInBounds_toArray, List.set_cons_zero, List.set_cons_succ, i64_w, i32_w]
              rfl
            refine one_ (i := 4) (N := some 45) #[true, true, true, true, true, false, false, false, false] rfl rfl (one_of HT_.out (by kernel_rfl)) (by decide) (fun K hK => ?_)
            refine goes_ Try.func37 (by kernel_rfl) rfl #[.agg #[.int .u8 a0_0, .int .i64 a0_1, .int .i64 a0_2, .int .i64 a0_3, .int .i64 (wrap64 (a0_4 + 1)), .int .i64 a0_5, .bool a3, .slice Ao6 l0_7.length co6, .int .i64 a0_8, .int .i64 a0_9, .int .i64 a0_10, .int .i64 a0_11, .int .i64 a0_12], .agg #[.int .i64 t225, .int .i64 t226, .int .u8 t227, .int .i64 t228, .int .i64 t229, .int .i64 t230, .int .i64 t231, .bool t232]] (by rfl) rfl rfl (by (try simp only [List.map_toArray, List.map_cons, List.map_nil]); first | done | rfl | (simp only [List.length_drop, List.length_take]; rfl)) ?_
            with_reducible refine (account_close.calls a0_0 a0_1 a0_2 a0_3 (wrap64 (a0_4 + 1)) a0_5 a3 (fun k_ => some k_ = (.slice Ao6 l0_7.length co6 : Value).ownBlock) (.slice Ao6 l0_7.length co6) l0_7 a0_8 a0_9 a0_10 a0_11 a0_12 t225 t226 t227 t228 t229 t230 t231 t232 t233 t234 t235 t236 t237 t238 t239 t240 t243 t244 t245 t246 t247 t248 w0 _ ?side1 ?side2 A51.out).mono ?_
            (case side1 => repeat (first | (with_reducible first | exact HB.out | apply below_alloc | apply pw_below_drewN | apply below_drew1 | refine below_set ?_ GE198.out | refine below_set ?_ GE199.out | refine below_set ?_ GE200.out) | exact HB.out))
            (case side2 => exact Kd.R_tight rfl HO_199007.out)
            rintro e w58 ⟨v241, rfl, ho0, hb, hkp⟩
            refine ⟨_, rfl, ?_⟩
            have n0_ := Aside0.mk (blk_kept (by (with_reducible repeat (first | refine blk_drewN ?_ _ | refine blk_drew ?_ | refine blk_alloc ?_ _)); exact BK198.out) hkp (fun hs_ => (fun e_ => (Kd.R_ne HO_199007.out BK198.out (by decide)) e_) hs_))
            have n1_ := Aside0.mk (blk_kept (by (with_reducible repeat (first | refine blk_drewN ?_ _ | refine blk_drew ?_ | refine blk_alloc ?_ _)); exact BK199.out) hkp (fun hs_ => (fun e_ => (Kd.R_ne HO_199007.out BK199.out (by decide)) e_) hs_))
            have n2_ := Aside0.mk (blk_kept (by (with_reducible repeat (first | refine blk_drewN ?_ _ | refine blk_drew ?_ | refine blk_alloc ?_ _)); exact BK200.out) hkp (fun hs_ => (fun e_ => (Kd.R_ne HO_199007.out BK200.out (by decide)) e_) hs_))
            have n3_ := Aside0.mk (Kd.R_mono (ok' := fun k_ => (P0_7_ k_ ∨ w.heap.size ≤ k_)) ho0 (fun k_ hk_ => Or.elim hk_ (fun hs_ => (HO_199007.out.1 k_ (hs_).symm)) (fun hn_ => (.inr (Nat.le_trans (by first | exact HK.out.1 | exact (show Kept w _ (fun k_ => P0_7_ k_) from by repeat (first | (with_reducible first | exact HK.out | apply Kept.alloc | apply Kept.drewN | apply Kept.drew | refine Kept.setCell ?_ (.inr GW198.out) _ | refine Kept.setCell ?_ (.inr GW199.out) _ | refine Kept.setCell ?_ (.inr GW200.out) _) | exact HK.out)).1) hn_)))))
            have n4_ := Aside0.mk (Kept.then_ (S := (fun k_ => P0_7_ k_)) (by repeat (first | (with_reducible first | exact HK.out | apply Kept.alloc | apply Kept.drewN | apply Kept.drew | refine Kept.setCell ?_ (.inr GW198.out) _ | refine Kept.setCell ?_ (.inr GW199.out) _ | refine Kept.setCell ?_ (.inr GW200.out) _) | exact HK.out)) hkp (fun k_ hs_ => (fun e_ => (HO_199007.out.1 k_ e_.symm)) hs_))
            have n5_ := Aside0.mk (hb)
            clear BK198
            clear BK199
            clear BK200
            clear HK
            clear HB
            clear HO_199007
            have BK198 := n0_
            have BK199 := n1_
            have BK200 := n2_
            have HO242 := n3_
            have HK := n4_
            have HB := n5_
            clear n0_ n1_ n2_ n3_ n4_ n5_
            (try clear hb)
            (try clear hkp)
            (try clear ho0)
            obtain ⟨Ao66, co66, eo66⟩ := Kd.R_slice HO242.out
            (first | subst eo66 | (injection eo66 with f1_ f2_ f3_; have f4_ := f1_.symm; have f5_ := f3_.symm; clear f1_ f2_ f3_; subst f4_; subst f5_))
            refine hK.out _ _ ⟨(blk_cell BK198.out 0).trans rfl, (blk_cell BK198.out 1).trans rfl, (blk_cell BK198.out 2).trans rfl, (blk_cell BK198.out 3).trans rfl, (blk_cell BK198.out 4).trans rfl, (blk_cell BK198.out 5).trans rfl, (blk_cell BK198.out 6).trans rfl, (blk_cell BK198.out 7).trans rfl, (blk_cell BK198.out 8).trans rfl, (blk_cell BK198.out 9).trans rfl, (blk_cell BK198.out 10).trans rfl, (blk_cell BK198.out 11).trans rfl, (blk_cell BK198.out 12).trans rfl⟩ (fun hHeld => ?_)
            clear hK K
            refine norm_ (a' := ?_) ?_ ?_
            rotate_left
            · show Act.put _ (some 45) _ = _
              simp only [Act.put, List.setIfInBounds_toArray, List.set_cons_zero, List.set_cons_succ, i64_w, i32_w]
              rfl
            refine pure_ (i := 5) (N := some 46) (v := ?_) (a' := ?_) #[true, true, true, true, true, true, false, false, false] rfl rfl (any_of HT_.out (by kernel_rfl)) (fun _ _ _ h => h) (Or.inl ⟨by rfl, ?_⟩) ?_ ?_
            rotate_left
            · intro w'
              go_simp
              with_reducible rfl
            rotate_left
            · simp only [Act.put, List.setIfInBounds_toArray, List.set_cons_zero, List.set_cons_succ, i64_w, i32_w]
              rfl
            refine pure_ (i := 6) (N := some 47) (v := ?_) (a' := ?_) #[true, true, true, true, true, true, true, false, false] rfl rfl (any_of HT_.out (by kernel_rfl)) (fun _ _ _ h => h) (Or.inl ⟨by rfl, ?_⟩) ?_ ?_
            rotate_left
            · intro w'
              go_simp
              with_reducible rfl
            rotate_left
            · simp only [Act.put, List.setIfInBounds_toArray, List.set_cons_zero, List.set_cons_succ, i64_w, i32_w]
              rfl
            refine one_ (i := 7) (N := none) #[true, true, true, true, true, true, true, true, false] rfl rfl (one_of HT_.out (by kernel_rfl)) (by decide) (fun K hK => ?_)
            have hs59 : w58.cell? ⟨gb200, 0, none⟩ = some (.int .u8 0) := (blk_cell BK200.out 0).trans rfl
            have hfs59 := blk_frozen BK200.out 0
            have hns59_0 := NB198_200.out
            have hns59_1 := NB199_200.out
            have hms59_0 := NB200_198.out
            have hms59_1 := NB200_199.out
            have hs60 : w58.cell? ⟨gb200, 1, none⟩ = some (.int .i64 0) := (blk_cell BK200.out 1).trans rfl
            have hfs60 := blk_frozen BK200.out 1
            have hns60_0 := NB198_200.out
            have hns60_1 := NB199_200.out
            have hms60_0 := NB200_198.out
            have hms60_1 := NB200_199.out
            have hs61 : w58.cell? ⟨gb200, 2, none⟩ = some (.int .i64 0) := (blk_cell BK200.out 2).trans rfl
            have hfs61 := blk_frozen BK200.out 2
            have hns61_0 := NB198_200.out
            have hns61_1 := NB199_200.out
            have hms61_0 := NB200_198.out
            have hms61_1 := NB200_199.out
            have hs62 : w58.cell? ⟨gb200, 3, none⟩ = some (.int .i64 0) := (blk_cell BK200.out 3).trans rfl
            have hfs62 := blk_frozen BK200.out 3
            have hns62_0 := NB198_200.out
            have hns62_1 := NB199_200.out
            have hms62_0 := NB200_198.out
            have hms62_1 := NB200_199.out
            have hs63 : w58.cell? ⟨gb200, 4, none⟩ = some (.int .i64 0) := (blk_cell BK200.out 4).trans rfl
            have hfs63 := blk_frozen BK200.out 4
            have hns63_0 := NB198_200.out
            have hns63_1 := NB199_200.out
            have hms63_0 := NB200_198.out
            have hms63_1 := NB200_199.out
            have hs64 : w58.cell? ⟨gb200, 5, none⟩ = some (.int .i64 0) := (blk_cell BK200.out 5).trans rfl
            have hfs64 := blk_frozen BK200.out 5
            have hns64_0 := NB198_200.out
            have hns64_1 := NB199_200.out
            have hms64_0 := NB200_198.out
            have hms64_1 := NB200_199.out
            have hs65 : w58.cell? ⟨gb200, 6, none⟩ = some (.bool false) := (blk_cell BK200.out 6).trans rfl
            have hfs65 := blk_frozen BK200.out 6
            have hns65_0 := NB198_200.out
            have hns65_1 := NB199_200.out
            have hms65_0 := NB200_198.out
            have hms65_1 := NB200_199.out
            have hs67 : w58.cell? ⟨gb200, 7, none⟩ = some (.slice none 0 0) := (blk_cell BK200.out 7).trans rfl
            have hfs67 := blk_frozen BK200.out 7
            have hns67_0 := NB198_200.out
            have hns67_1 := NB199_200.out
            have hms67_0 := NB200_198.out
            have hms67_1 := NB200_199.out
            have hs68 : w58.cell? ⟨gb200, 8, none⟩ = some (.int .i64 0) := (blk_cell BK200.out 8).trans rfl
            have hfs68 := blk_frozen BK200.out 8
            have hns68_0 := NB198_200.out
            have hns68_1 := NB199_200.out
            have hms68_0 := NB200_198.out
            have hms68_1 := NB200_199.out
            have hs69 : w58.cell? ⟨gb200, 9, none⟩ = some (.int .i64 0) := (blk_cell BK200.out 9).trans rfl
            have hfs69 := blk_frozen BK200.out 9
            have hns69_0 := NB198_200.out
            have hns69_1 := NB199_200.out
            have hms69_0 := NB200_198.out
            have hms69_1 := NB200_199.out
            have hs70 : w58.cell? ⟨gb200, 10, none⟩ = some (.int .i64 0) := (blk_cell BK200.out 10).trans rfl
            have hfs70 := blk_frozen BK200.out 10
            have hns70_0 := NB198_200.out
            have hns70_1 := NB199_200.out
            have hms70_0 := NB200_198.out
            have hms70_1 := NB200_199.out
            have hs71 : w58.cell? ⟨gb200, 11, none⟩ = some (.int .i64 0) := (blk_cell BK200.out 11).trans rfl
            have hfs71 := blk_frozen BK200.out 11
            have hns71_0 := NB198_200.out
            have hns71_1 := NB199_200.out
            have hms71_0 := NB200_198.out
            have hms71_1 := NB200_199.out
            have hs72 : w58.cell? ⟨gb200, 12, none⟩ = some (.int .i64 0) := (blk_cell BK200.out 12).trans rfl
            have hfs72 := blk_frozen BK200.out 12
            have hns72_0 := NB198_200.out
            have hns72_1 := NB199_200.out
            have hms72_0 := NB200_198.out
            have hms72_1 := NB200_199.out
            refine skip_ (w1 := ?_) (by rfl) rfl ?_ ?_
            rotate_left
            · go_simp
              rfl
            refine hK.out _ _ ⟨((cf_account_begin gb200 NB198_200.out _).trans (((cf_account_begin gb200 NB198_200.out _).trans (((cf_account_begin gb200 NB198_200.out _).trans (((cf_account_begin gb200 NB198_200.out _).trans (((cf_account_begin gb200 NB198_200.out _).trans (((cf_account_begin gb200 NB198_200.out _).trans (((cf_account_begin gb200 NB198_200.out _).trans (((cf_account_begin gb200 NB198_200.out _).trans (((cf_account_begin gb200 NB198_200.out _).trans (((cf_account_begin gb200 NB198_200.out _).trans (((cf_account_begin gb200 NB198_200.out _).trans (((cf_account_begin gb200 NB198_200.out _).trans (((cf_account_begin gb200 NB198_200.out _).trans (hHeld.1)))))))))))))))))))))))))), ((cf_account_begin gb200 NB198_200.out _).trans (((cf_account_begin gb200 NB198_200.out _).trans (((cf_account_begin gb200 NB198_200.out _).trans (((cf_account_begin gb200 NB198_200.out _).trans (((cf_account_begin gb200 NB198_200.out _).trans (((cf_account_begin gb200 NB198_200.out _).trans (((cf_account_begin gb200 NB198_200.out _).trans (((cf_account_begin gb200 NB198_200.out _).trans (((cf_account_begin gb200 NB198_200.out _).trans (((cf_account_begin gb200 NB198_200.out _).trans (((cf_account_begin gb200 NB198_200.out _).trans (((cf_account_begin gb200 NB198_200.out _).trans (((cf_account_begin gb200 NB198_200.out _).trans (hHeld.2.1)))))))))))))))))))))))))), ((cf_account_begin gb200 NB198_200.out _).trans (((cf_account_begin gb200 NB198_200.out _).trans (((cf_account_begin gb200 NB198_200.out _).trans (((cf_account_begin gb200 NB198_200.out _).trans (((cf_account_begin gb200 NB198_200.out _).trans (((cf_account_begin gb200 NB198_200.out _).trans (((cf_account_begin gb200 NB198_200.out _).trans (((cf_account_begin gb200 NB198_200.out _).trans (((cf_account_begin gb200 NB198_200.out _).trans (((cf_account_begin gb200 NB198_200.out _).trans (((cf_account_begin gb200 NB198_200.out _).trans (((cf_account_begin gb200 NB198_200.out _).trans (((cf_account_begin gb200 NB198_200.out _).trans (hHeld.2.2.1)))))))))))))))))))))))))), ((cf_account_begin gb200 NB198_200.out _).trans (((cf_account_begin gb200 NB198_200.out _).trans (((cf_account_begin gb200 NB198_200.out _).trans (((cf_account_begin gb200 NB198_200.out _).trans (((cf_account_begin gb200 NB198_200.out _).trans (((cf_account_begin gb200 NB198_200.out _).trans (((cf_account_begin gb200 NB198_200.out _).trans (((cf_account_begin gb200 NB198_200.out _).trans (((cf_account_begin gb200 NB198_200.out _).trans (((cf_account_begin gb200 NB198_200.out _).trans (((cf_account_begin gb200 NB198_200.out _).trans (((cf_account_begin gb200 NB198_200.out _).trans (((cf_account_begin gb200 NB198_200.out _).trans (hHeld.2.2.2.1)))))))))))))))))))))))))), ((cf_account_begin gb200 NB198_200.out _).trans (((cf_account_begin gb200 NB198_200.out _).trans (((cf_account_begin gb200 NB198_200.out _).trans (((cf_account_begin gb200 NB198_200.out _).trans (((cf_account_begin gb200 NB198_200.out _).trans (((cf_account_begin gb200 NB198_200.out _).trans (((cf_account_begin gb200 NB198_200.out _).trans (((cf_account_begin gb200 NB198_200.out _).trans (((cf_account_begin gb200 NB198_200.out _).trans (((cf_account_begin gb200 NB198_200.out _).trans (((cf_account_begin gb200 NB198_200.out _).trans (((cf_account_begin gb200 NB198_200.out _).trans (((cf_account_begin gb200 NB198_200.out _).trans (hHeld.2.2.2.2.1)))))))))))))))))))))))))), ((cf_account_begin gb200 NB198_200.out _).trans (((cf_account_begin gb200 NB198_200.out _).trans (((cf_account_begin gb200 NB198_200.out _).trans (((cf_account_begin gb200 NB198_200.out _).trans (((cf_account_begin gb200 NB198_200.out _).trans (((cf_account_begin gb200 NB198_200.out _).trans (((cf_account_begin gb200 NB198_200.out _).trans (((cf_account_begin gb200 NB198_200.out _).trans (((cf_account_begin gb200 NB198_200.out _).trans (((cf_account_begin gb200 NB198_200.out _).trans (((cf_account_begin gb200 NB198_200.out _).trans (((cf_account_begin gb200 NB198_200.out _).trans (((cf_account_begin gb200 NB198_200.out _).trans (hHeld.2.2.2.2.2.1)))))))))))))))))))))))))), ((cf_account_begin gb200 NB198_200.out _).trans (((cf_account_begin gb200 NB198_200.out _).trans (((cf_account_begin gb200 NB198_200.out _).trans (((cf_account_begin gb200 NB198_200.out _).trans (((cf_account_begin gb200 NB198_200.out _).trans (((cf_account_begin gb200 NB198_200.out _).trans (((cf_account_begin gb200 NB198_200.out _).trans (((cf_account_begin gb200 NB198_200.out _).trans (((cf_account_begin gb200 NB198_200.out _).trans (((cf_account_begin gb200 NB198_200.out _).trans (((cf_account_begin gb200 NB198_200.out _).trans (((cf_account_begin gb200 NB198_200.out _).trans (((cf_account_begin gb200 NB198_200.out _).trans (hHeld.2.2.2.2.2.2.1)))))))))))))))))))))))))), ((cf_account_begin gb200 NB198_200.out _).trans (((cf_account_begin gb200 NB198_200.out _).trans (((cf_account_begin gb200 NB198_200.out _).trans (((cf_account_begin gb200 NB198_200.out _).trans (((cf_account_begin gb200 NB198_200.out _).trans (((cf_account_begin gb200 NB198_200.out _).trans (((cf_account_begin gb200 NB198_200.out _).trans (((cf_account_begin gb200 NB198_200.out _).trans (((cf_account_begin gb200 NB198_200.out _).trans (((cf_account_begin gb200 NB198_200.out _).trans (((cf_account_begin gb200 NB198_200.out _).trans (((cf_account_begin gb200 NB198_200.out _).trans (((cf_account_begin gb200 NB198_200.out _).trans (hHeld.2.2.2.2.2.2.2.1)))))))))))))))))))))))))), ((cf_account_begin gb200 NB198_200.out _).trans (((cf_account_begin gb200 NB198_200.out _).trans (((cf_account_begin gb200 NB198_200.out _).trans (((cf_account_begin gb200 NB198_200.out _).trans (((cf_account_begin gb200 NB198_200.out _).trans (((cf_account_begin gb200 NB198_200.out _).trans (((cf_account_begin gb200 NB198_200.out _).trans (((cf_account_begin gb200 NB198_200.out _).trans (((cf_account_begin gb200 NB198_200.out _).trans (((cf_account_begin gb200 NB198_200.out _).trans (((cf_account_begin gb200 NB198_200.out _).trans (((cf_account_begin gb200 NB198_200.out _).trans (((cf_account_begin gb200 NB198_200.out _).trans (hHeld.2.2.2.2.2.2.2.2.1)))))))))))))))))))))))))), ((cf_account_begin gb200 NB198_200.out _).trans (((cf_account_begin gb200 NB198_200.out _).trans (((cf_account_begin gb200 NB198_200.out _).trans (((cf_account_begin gb200 NB198_200.out _).trans (((cf_account_begin gb200 NB198_200.out _).trans (((cf_account_begin gb200 NB198_200.out _).trans (((cf_account_begin gb200 NB198_200.out _).trans (((cf_account_begin gb200 NB198_200.out _).trans (((cf_account_begin gb200 NB198_200.out _).trans (((cf_account_begin gb200 NB198_200.out _).trans (((cf_account_begin gb200 NB198_200.out _).trans (((cf_account_begin gb200 NB198_200.out _).trans (((cf_account_begin gb200 NB198_200.out _).trans (hHeld.2.2.2.2.2.2.2.2.2.1)))))))))))))))))))))))))), ((cf_account_begin gb200 NB198_200.out _).trans (((cf_account_begin gb200 NB198_200.out _).trans (((cf_account_begin gb200 NB198_200.out _).trans (((cf_account_begin gb200 NB198_200.out _).trans (((cf_account_begin gb200 NB198_200.out _).trans (((cf_account_begin gb200 NB198_200.out _).trans (((cf_account_begin gb200 NB198_200.out _).trans (((cf_account_begin gb200 NB198_200.out _).trans (((cf_account_begin gb200 NB198_200.out _).trans (((cf_account_begin gb200 NB198_200.out _).trans (((cf_account_begin gb200 NB198_200.out _).trans (((cf_account_begin gb200 NB198_200.out _).trans (((cf_account_begin gb200 NB198_200.out _).trans (hHeld.2.2.2.2.2.2.2.2.2.2.1)))))))))))))))))))))))))), ((cf_account_begin gb200 NB198_200.out _).trans (((cf_account_begin gb200 NB198_200.out _).trans (((cf_account_begin gb200 NB198_200.out _).trans (((cf_account_begin gb200 NB198_200.out _).trans (((cf_account_begin gb200 NB198_200.out _).trans (((cf_account_begin gb200 NB198_200.out _).trans (((cf_account_begin gb200 NB198_200.out _).trans (((cf_account_begin gb200 NB198_200.out _).trans (((cf_account_begin gb200 NB198_200.out _).trans (((cf_account_begin gb200 NB198_200.out _).trans (((cf_account_begin gb200 NB198_200.out _).trans (((cf_account_begin gb200 NB198_200.out _).trans (((cf_account_begin gb200 NB198_200.out _).trans (hHeld.2.2.2.2.2.2.2.2.2.2.2.1)))))))))))))))))))))))))), ((cf_account_begin gb200 NB198_200.out _).trans (((cf_account_begin gb200 NB198_200.out _).trans (((cf_account_begin gb200 NB198_200.out _).trans (((cf_account_begin gb200 NB198_200.out _).trans (((cf_account_begin gb200 NB198_200.out _).trans (((cf_account_begin gb200 NB198_200.out _).trans (((cf_account_begin gb200 NB198_200.out _).trans (((cf_account_begin gb200 NB198_200.out _).trans (((cf_account_begin gb200 NB198_200.out _).trans (((cf_account_begin gb200 NB198_200.out _).trans (((cf_account_begin gb200 NB198_200.out _).trans (((cf_account_begin gb200 NB198_200.out _).trans (((cf_account_begin gb200 NB198_200.out _).trans (hHeld.2.2.2.2.2.2.2.2.2.2.2.2))))))))))))))))))))))))))⟩ (fun hHeld => ?_)
            clear hK K
            refine pure_ (i := 8) (N := some 9) (v := ?_) (a' := ?_) #[true, true, true, true, true, true, true, true, true] rfl rfl (any_of HT_.out (by kernel_rfl)) (fun _ _ _ h => h) (Or.inl ⟨by rfl, ?_⟩) ?_ ?_
            rotate_left
            · intro w'
              go_simp
              with_reducible rfl
            rotate_left
            · simp only [Act.put, List.setIfInBounds_toArray, List.set_cons_zero, List.set_cons_succ, i64_w, i32_w]
              rfl
            refine done_ (done_of HT_.out (by kernel_rfl)) ?_
            try go_wp2
            refine bodyPost_ret (results_ct rfl _ _ gb200 31 #[.int .u8 t233, .int .i64 t234, .int .i64 t235, .int .i64 t236, .int .i64 t237, .int .i64 t238, .bool t239, .slice Ao66 t240.length co66, .int .i64 t243, .int .i64 t244, .int .i64 t245, .int .i64 t246, .int .i64 t247] (0, 0) _ rfl (by (with_reducible repeat (first | refine blk_drewN ?_ _ | refine blk_drew ?_ | refine blk_alloc ?_ _)); refine bp13 (.int .u8 0) (.int .i64 0) (.int .i64 0) (.int .i64 0) (.int .i64 0) (.int .i64 0) (.bool false) (.slice none 0 0) (.int .i64 0) (.int .i64 0) (.int .i64 0) (.int .i64 0) (.int .i64 0) ?_; (with_reducible repeat (first | refine blk_drewN ?_ _ | refine blk_drew ?_ | refine blk_alloc ?_ _)); exact BK200.out) Try.underlying31 rfl (by kernel_rfl)) rfl ?_
            exact ⟨_, by first | rfl | (simp [errW_none, errW_some] <;> rfl) | (simp [*, errW_none, errW_some] <;> rfl), by (with_reducible repeat (first | apply Kd.R_alloc | apply Kd.R_drewN | apply Kd.R_drew)); exact Kd.R_mono (Kd.R_step (Kd.R_types HO242.out BK200.out (by decide)) (fun _ hk _ => by (with_reducible repeat (first | refine (hst (g := gb200) hk.2 _ _).trans ?_ | refine (hdn _ _ _).trans ?_ | refine (hd1 _ _).trans ?_)); rfl)) (fun _ hk => hk.1), by repeat (first | (with_reducible first | exact HB.out | apply below_alloc | apply pw_below_drewN | apply below_drew1 | refine below_set ?_ GE198.out | refine below_set ?_ GE199.out | refine below_set ?_ GE200.out) | exact HB.out), by repeat (first | (with_reducible first | exact HK.out | apply Kept.alloc | apply Kept.drewN | apply Kept.drew | refine Kept.setCell ?_ (.inr GW198.out) _ | refine Kept.setCell ?_ (.inr GW199.out) _ | refine Kept.setCell ?_ (.inr GW200.out) _) | exact HK.out)⟩
        · replace c25 := Bool.eq_false_iff.mpr c25
          subst c25
          have H1 : ((cycle_Pass.f a0_4 a2).bind fun bt249 => ((account_close.f a0_0 a0_1 a0_2 a0_3 (wrap64 (a0_4 + 1)) a0_5 false l0_7 a0_8 a0_9 a0_10 a0_11 a0_12 bt249.1 bt249.2.1 bt249.2.2.1 bt249.2.2.2.1 bt249.2.2.2.2.1 bt249.2.2.2.2.2.1 bt249.2.2.2.2.2.2.1 bt249.2.2.2.2.2.2.2).bind fun bt257 => (some (bt257.1, bt257.2.1, bt257.2.2.1, bt257.2.2.2.1, bt257.2.2.2.2.1, bt257.2.2.2.2.2.1, bt257.2.2.2.2.2.2.1, bt257.2.2.2.2.2.2.2.1, bt257.2.2.2.2.2.2.2.2.1, bt257.2.2.2.2.2.2.2.2.2.1, bt257.2.2.2.2.2.2.2.2.2.2.1, bt257.2.2.2.2.2.2.2.2.2.2.2.1, bt257.2.2.2.2.2.2.2.2.2.2.2.2.1, bt257.2.2.2.2.2.2.2.2.2.2.2.2.2)))) = some (r1, r2, r3, r4, r5, r6, r7, r8, r9, r10, r11, r12, r13, r14) := by rw [if_neg (show ¬ (false = true) by decide)] at H; exact H
          clear H
          have H := H1
          clear H1
          replace H := Option.bind_eq_some_iff.mp H
          obtain ⟨⟨t249, t250, t251, t252, t253, t254, t255, t256⟩, A730, H⟩ := H
          replace H : ((account_close.f a0_0 a0_1 a0_2 a0_3 (wrap64 (a0_4 + 1)) a0_5 false l0_7 a0_8 a0_9 a0_10 a0_11 a0_12 t249 t250 t251 t252 t253 t254 t255 t256).bind fun bt257 => (some (bt257.1, bt257.2.1, bt257.2.2.1, bt257.2.2.2.1, bt257.2.2.2.2.1, bt257.2.2.2.2.2.1, bt257.2.2.2.2.2.2.1, bt257.2.2.2.2.2.2.2.1, bt257.2.2.2.2.2.2.2.2.1, bt257.2.2.2.2.2.2.2.2.2.1, bt257.2.2.2.2.2.2.2.2.2.2.1, bt257.2.2.2.2.2.2.2.2.2.2.2.1, bt257.2.2.2.2.2.2.2.2.2.2.2.2.1, bt257.2.2.2.2.2.2.2.2.2.2.2.2.2))) = some (r1, r2, r3, r4, r5, r6, r7, r8, r9, r10, r11, r12, r13, r14) := H
          have A73 := Aside0.mk A730
          clear A730
          replace H := Option.bind_eq_some_iff.mp H
          obtain ⟨⟨t257, t258, t259, t260, t261, t262, t263, t264, t267, t268, t269, t270, t271, t272⟩, A740, H⟩ := H
          replace H : (some (t257, t258, t259, t260, t261, t262, t263, t264, t267, t268, t269, t270, t271, t272)) = some (r1, r2, r3, r4, r5, r6, r7, r8, r9, r10, r11, r12, r13, r14) := H
          have A74 := Aside0.mk A740
          clear A740
          simp only [Option.some.injEq, Prod.mk.injEq] at H
          obtain ⟨rfl, rfl, rfl, rfl, rfl, rfl, rfl, rfl, rfl, rfl, rfl, rfl, rfl, rfl⟩ := H
          have hnb75 := NB198_199.out
          have hnc75 := NB199_198.out
          have hnb76 := NB198_200.out
          have hnc76 := NB200_198.out
          obtain ⟨hcz77_0, hcz77_1, hcz77_2, hcz77_3, hcz77_4, hcz77_5, hcz77_6, hcz77_7, hcz77_8, hcz77_9, hcz77_10, hcz77_11, hcz77_12⟩ := bc13 BK198.out
          obtain ⟨hfz77_0, hfz77_1, hfz77_2, hfz77_3, hfz77_4, hfz77_5, hfz77_6, hfz77_7, hfz77_8, hfz77_9, hfz77_10, hfz77_11, hfz77_12⟩ := bf13 BK198.out
          try go_wp2
          have n0_ : Aside0 (Kd.R k37 37 (wc.setCell ⟨gb198, 6, none⟩ (.bool false)) w0.heap.size (fun k_ => (P0_7_ k_ ∨ w.heap.size ≤ k_)) (.slice Ao6 l0_7.length co6) l0_7) := ⟨by (with_reducible repeat (first | apply Kd.R_alloc | apply Kd.R_drewN | apply Kd.R_drew)); exact Kd.R_mono (Kd.R_step (Kd.R_types HO_199007.out BK198.out (by decide)) (fun _ hk _ => by (with_reducible repeat (first | refine (hst (g := gb198) hk.2 _ _).trans ?_ | refine (hdn _ _ _).trans ?_ | refine (hd1 _ _).trans ?_)); rfl)) (fun _ hk => hk.1)⟩
          have n1_ : Aside0 ((wc.setCell ⟨gb198, 6, none⟩ (.bool false)).heap[gb198]? = some (.cells #[.int .u8 a0_0, .int .i64 a0_1, .int .i64 a0_2, .int .i64 a0_3, .int .i64 (wrap64 (a0_4 + 1)), .int .i64 a0_5, .bool false, .slice Ao6 l0_7.length co6, .int .i64 a0_8, .int .i64 a0_9, .int .i64 a0_10, .int .i64 a0_11, .int .i64 a0_12] 31 (0, 0))) := ⟨by (with_reducible repeat (first | refine blk_drewN ?_ _ | refine blk_drew ?_ | refine blk_alloc ?_ _)); refine blk_put (cs := #[.int .u8 a0_0, .int .i64 a0_1, .int .i64 a0_2, .int .i64 a0_3, .int .i64 (wrap64 (a0_4 + 1)), .int .i64 a0_5, .bool false, .slice Ao6 l0_7.length co6, .int .i64 a0_8, .int .i64 a0_9, .int .i64 a0_10, .int .i64 a0_11, .int .i64 a0_12]) ?_ 6 _ rfl; (with_reducible repeat (first | refine blk_drewN ?_ _ | refine blk_drew ?_ | refine blk_alloc ?_ _)); exact BK198.out⟩
          have n2_ : Aside0 ((wc.setCell ⟨gb198, 6, none⟩ (.bool false)).heap[gb199]? = some (.cells #[.int .i64 a1_0, .int .u8 a1_1, .int .i64 a1_2, .int .i64 a1_3, .bool a1_4, .bool a1_5] 25 (0, 0))) := ⟨by (with_reducible repeat (first | refine blk_drewN ?_ _ | refine blk_drew ?_ | refine blk_alloc ?_ _)); refine blk_far ?_ NB199_198.out _; (with_reducible repeat (first | refine blk_drewN ?_ _ | refine blk_drew ?_ | refine blk_alloc ?_ _)); exact BK199.out⟩
          have n3_ : Aside0 ((wc.setCell ⟨gb198, 6, none⟩ (.bool false)).heap[gb200]? = some (.cells #[.int .u8 0, .int .i64 0, .int .i64 0, .int .i64 0, .int .i64 0, .int .i64 0, .bool false, .slice none 0 0, .int .i64 0, .int .i64 0, .int .i64 0, .int .i64 0, .int .i64 0] 31 (0, 0))) := ⟨by (with_reducible repeat (first | refine blk_drewN ?_ _ | refine blk_drew ?_ | refine blk_alloc ?_ _)); refine blk_far ?_ NB200_198.out _; (with_reducible repeat (first | refine blk_drewN ?_ _ | refine blk_drew ?_ | refine blk_alloc ?_ _)); exact BK200.out⟩
          have n4_ : Aside0 (Kept w (wc.setCell ⟨gb198, 6, none⟩ (.bool false)) (fun k_ => P0_7_ k_)) := ⟨by repeat (first | (with_reducible first | exact HK.out | apply Kept.alloc | apply Kept.drewN | apply Kept.drew | refine Kept.setCell ?_ (.inr GW198.out) _ | refine Kept.setCell ?_ (.inr GW199.out) _ | refine Kept.setCell ?_ (.inr GW200.out) _) | exact HK.out)⟩
          have n5_ : Aside0 (Below w0.heap.size w0 (wc.setCell ⟨gb198, 6, none⟩ (.bool false))) := ⟨by repeat (first | (with_reducible first | exact HB.out | apply below_alloc | apply pw_below_drewN | apply below_drew1 | refine below_set ?_ GE198.out | refine below_set ?_ GE199.out | refine below_set ?_ GE200.out) | exact HB.out)⟩
          (try clear HO_199007)
          (try clear BK198)
          (try clear BK199)
          (try clear BK200)
          (try clear HK)
          (try clear HB)
          generalize (wc.setCell ⟨gb198, 6, none⟩ (.bool false)) = w78 at n0_ n1_ n2_ n3_ n4_ n5_ ⊢
          have HO_199007 := n0_
          have BK198 := n1_
          have BK199 := n2_
          have BK200 := n3_
          have HK := n4_
          have HB := n5_
          clear n0_ n1_ n2_ n3_ n4_ n5_
          have n0_ := Aside0.mk (Kd.R_drew HO_199007.out)
          have n1_ := Aside0.mk (blk_drew BK198.out)
          have n2_ := Aside0.mk (blk_drew BK199.out)
          have n3_ := Aside0.mk (blk_drew BK200.out)
          have n4_ := Aside0.mk (Kept.drew HK.out)
          have n5_ := Aside0.mk (below_drew1 HB.out)
          clear HO_199007
          clear BK198
          clear BK199
          clear BK200
          clear HK
          clear HB
          have HO_199007 := n0_
          have BK198 := n1_
          have BK199 := n2_
          have BK200 := n3_
          have HK := n4_
          have HB := n5_
          clear n0_ n1_ n2_ n3_ n4_ n5_
          refine start_ (n := 9) (S := fun w' => w'.cell? ⟨gb198, 0, none⟩ = some (.int .u8 a0_0) ∧ w'.cell? ⟨gb198, 1, none⟩ = some (.int .i64 a0_1) ∧ w'.cell? ⟨gb198, 2, none⟩ = some (.int .i64 a0_2) ∧ w'.cell? ⟨gb198, 3, none⟩ = some (.int .i64 a0_3) ∧ w'.cell? ⟨gb198, 4, none⟩ = some (.int .i64 (wrap64 (a0_4 + 1))) ∧ w'.cell? ⟨gb198, 5, none⟩ = some (.int .i64 a0_5) ∧ w'.cell? ⟨gb198, 6, none⟩ = some (.bool false) ∧ w'.cell? ⟨gb198, 7, none⟩ = some (.slice Ao6 l0_7.length co6) ∧ w'.cell? ⟨gb198, 8, none⟩ = some (.int .i64 a0_8) ∧ w'.cell? ⟨gb198, 9, none⟩ = some (.int .i64 a0_9) ∧ w'.cell? ⟨gb198, 10, none⟩ = some (.int .i64 a0_10) ∧ w'.cell? ⟨gb198, 11, none⟩ = some (.int .i64 a0_11) ∧ w'.cell? ⟨gb198, 12, none⟩ = some (.int .i64 a0_12)) (ds := []) #[false, false, false, false, false, false, false, false, false] (by kernel_rfl) rfl rfl ⟨(blk_cell BK198.out 0).trans rfl, (blk_cell BK198.out 1).trans rfl, (blk_cell BK198.out 2).trans rfl, (blk_cell BK198.out 3).trans rfl, (blk_cell BK198.out 4).trans rfl, (blk_cell BK198.out 5).trans rfl, (blk_cell BK198.out 6).trans rfl, (blk_cell BK198.out 7).trans rfl, (blk_cell BK198.out 8).trans rfl, (blk_cell BK198.out 9).trans rfl, (blk_cell BK198.out 10).trans rfl, (blk_cell BK198.out 11).trans rfl, (blk_cell BK198.out 12).trans rfl⟩ (fun hHeld => ?_); refine with_tabW account_begin.tab5 account_begin.bits5 (fun HT_ HW_ => ?_)
          generalize w78.drew = w79 at HO_199007 BK198 BK199 BK200 HK HB hHeld ⊢
          refine pure_ (i := 1) (N := some 42) (v := ?_) (a' := ?_) #[false, true, false, false, false, false, false, false, false] rfl rfl (any_of HT_.out (by kernel_rfl)) (fun _ _ _ h => h) (Or.inl ⟨by rfl, ?_⟩) ?_ ?_
          rotate_left
          · intro w'
            go_simp
            with_reducible rfl
          rotate_left
          · simp only [Act.put, List.setIfInBounds_toArray, List.set_cons_zero, List.set_cons_succ, i64_w, i32_w]
            rfl
          refine pure_ (i := 2) (N := some 43) (v := ?_) (a' := ?_) #[false, true, true, false, false, false, false, false, false] rfl rfl (any_of HT_.out (by kernel_rfl)) (fun _ _ _ h => h) (Or.inl ⟨by rfl, ?_⟩) ?_ ?_
          rotate_left
          · intro w'
            go_simp
            with_reducible rfl
          rotate_left
          · simp only [Act.put, List.setIfInBounds_toArray, List.set_cons_zero, List.set_cons_succ, i64_w, i32_w]
            rfl
          refine take_ (i := 0) (N := some 41) (v := ?_) (a' := ?_) #[true, true, true, false, false, false, false, false, false] rfl rfl (take_ofW HT_.out HW_.out (by kernel_rfl)) (fun _ _ _ h => h) (Or.inl ⟨by rfl, ?_⟩) hHeld ?_ ?_
          rotate_left
          · rintro w' ⟨s0, s1, s2, s3, s4, s5, s6, s7, s8, s9, s10, s11, s12⟩
            go_simp
            with_reducible rfl
          rotate_left
          · simp only [Act.put, List.setIfInBounds_toArray, List.set_cons_zero, List.set_cons_succ, i64_w, i32_w]
            rfl
          refine one_ (i := 3) (N := some 44) #[true, true, true, true, false, false, false, false, false] rfl rfl (one_of HT_.out (by kernel_rfl)) (by decide) (fun K hK => ?_)
          refine goes_ Try.func38 (by kernel_rfl) rfl #[.int .i64 a0_4, .int .i64 a2] (by rfl) rfl rfl (by (try simp only [List.map_toArray, List.map_cons, List.map_nil]); first | done | rfl | (simp only [List.length_drop, List.length_take]; rfl)) ?_
          with_reducible refine (cycle_Pass.calls a0_4 a2 t249 t250 t251 t252 t253 t254 t255 t256 _ A73.out).mono ?_
          rintro e w80 ⟨rfl, hb⟩
          refine ⟨_, rfl, ?_⟩
          have n0_ := Aside0.mk (Kd.R_below (by (with_reducible repeat (first | apply Kd.R_alloc | apply Kd.R_drewN | apply Kd.R_drew)); exact HO_199007.out) hb)
          have n1_ := Aside0.mk (blk_below (g := gb198) (o := .cells #[.int .u8 a0_0, .int .i64 a0_1, .int .i64 a0_2, .int .i64 a0_3, .int .i64 (wrap64 (a0_4 + 1)), .int .i64 a0_5, .bool false, .slice Ao6 l0_7.length co6, .int .i64 a0_8, .int .i64 a0_9, .int .i64 a0_10, .int .i64 a0_11, .int .i64 a0_12] 31 (0, 0)) (by (with_reducible repeat (first | refine blk_drewN ?_ _ | refine blk_drew ?_ | refine blk_alloc ?_ _)); exact BK198.out) hb)
          have n2_ := Aside0.mk (blk_below (g := gb199) (o := .cells #[.int .i64 a1_0, .int .u8 a1_1, .int .i64 a1_2, .int .i64 a1_3, .bool a1_4, .bool a1_5] 25 (0, 0)) (by (with_reducible repeat (first | refine blk_drewN ?_ _ | refine blk_drew ?_ | refine blk_alloc ?_ _)); exact BK199.out) hb)
          have n3_ := Aside0.mk (blk_below (g := gb200) (o := .cells #[.int .u8 0, .int .i64 0, .int .i64 0, .int .i64 0, .int .i64 0, .int .i64 0, .bool false, .slice none 0 0, .int .i64 0, .int .i64 0, .int .i64 0, .int .i64 0, .int .i64 0] 31 (0, 0)) (by (with_reducible repeat (first | refine blk_drewN ?_ _ | refine blk_drew ?_ | refine blk_alloc ?_ _)); exact BK200.out) hb)
          have n4_ := Aside0.mk (Kept.below (S := (fun k_ => P0_7_ k_)) (by repeat (first | (with_reducible first | exact HK.out | apply Kept.alloc | apply Kept.drewN | apply Kept.drew | refine Kept.setCell ?_ (.inr GW198.out) _ | refine Kept.setCell ?_ (.inr GW199.out) _ | refine Kept.setCell ?_ (.inr GW200.out) _) | exact HK.out)) hb)
          have n5_ := Aside0.mk (below_step (by repeat (first | (with_reducible first | exact HB.out | apply below_alloc | apply pw_below_drewN | apply below_drew1 | refine below_set ?_ GE198.out | refine below_set ?_ GE199.out | refine below_set ?_ GE200.out) | exact HB.out)) hb)
          clear HO_199007
          clear BK198
          clear BK199
          clear BK200
          clear HK
          clear HB
          have HO_199007 := n0_
          have BK198 := n1_
          have BK199 := n2_
          have BK200 := n3_
          have HK := n4_
          have HB := n5_
          clear n0_ n1_ n2_ n3_ n4_ n5_
          (try clear hb)
          (try clear hb2)
          (try clear hk)
          (try clear hi)
          refine hK.out _ _ ⟨(blk_cell BK198.out 0).trans rfl, (blk_cell BK198.out 1).trans rfl, (blk_cell BK198.out 2).trans rfl, (blk_cell BK198.out 3).trans rfl, (blk_cell BK198.out 4).trans rfl, (blk_cell BK198.out 5).trans rfl, (blk_cell BK198.out 6).trans rfl, (blk_cell BK198.out 7).trans rfl, (blk_cell BK198.out 8).trans rfl, (blk_cell BK198.out 9).trans rfl, (blk_cell BK198.out 10).trans rfl, (blk_cell BK198.out 11).trans rfl, (blk_cell BK198.out 12).trans rfl⟩ (fun hHeld => ?_)
          clear hK K
          refine norm_ (a' := ?_) ?_ ?_
          rotate_left
          · show Act.put _ (some 44) _ = _
            simp only [Act.put, List.setIfInBounds_toArray, List.set_cons_zero, List.set_cons_succ, i64_w, i32_w]
            rfl
          refine one_ (i := 4) (N := some 45) #[true, true, true, true, true, false, false, false, false] rfl rfl (one_of HT_.out (by kernel_rfl)) (by decide) (fun K hK => ?_)
          refine goes_ Try.func37 (by kernel_rfl) rfl #[.agg #[.int .u8 a0_0, .int .i64 a0_1, .int .i64 a0_2, .int .i64 a0_3, .int .i64 (wrap64 (a0_4 + 1)), .int .i64 a0_5, .bool false, .slice Ao6 l0_7.length co6, .int .i64 a0_8, .int .i64 a0_9, .int .i64 a0_10, .int .i64 a0_11, .int .i64 a0_12], .agg #[.int .i64 t249, .int .i64 t250, .int .u8 t251, .int .i64 t252, .int .i64 t253, .int .i64 t254, .int .i64 t255, .bool t256]] (by rfl) rfl rfl (by (try simp only [List.map_toArray, List.map_cons, List.map_nil]); first | done | rfl | (simp only [List.length_drop, List.length_take]; rfl)) ?_
          with_reducible refine (account_close.calls a0_0 a0_1 a0_2 a0_3 (wrap64 (a0_4 + 1)) a0_5 false (fun k_ => some k_ = (.slice Ao6 l0_7.length co6 : Value).ownBlock) (.slice Ao6 l0_7.length co6) l0_7 a0_8 a0_9 a0_10 a0_11 a0_12 t249 t250 t251 t252 t253 t254 t255 t256 t257 t258 t259 t260 t261 t262 t263 t264 t267 t268 t269 t270 t271 t272 w0 _ ?side1 ?side2 A74.out).mono ?_
          (case side1 => repeat (first | (with_reducible first | exact HB.out | apply below_alloc | apply pw_below_drewN | apply below_drew1 | refine below_set ?_ GE198.out | refine below_set ?_ GE199.out | refine below_set ?_ GE200.out) | exact HB.out))
          (case side2 => exact Kd.R_tight rfl HO_199007.out)
          rintro e w81 ⟨v265, rfl, ho0, hb, hkp⟩
          refine ⟨_, rfl, ?_⟩
          have n0_ := Aside0.mk (blk_kept (by (with_reducible repeat (first | refine blk_drewN ?_ _ | refine blk_drew ?_ | refine blk_alloc ?_ _)); exact BK198.out) hkp (fun hs_ => (fun e_ => (Kd.R_ne HO_199007.out BK198.out (by decide)) e_) hs_))
          have n1_ := Aside0.mk (blk_kept (by (with_reducible repeat (first | refine blk_drewN ?_ _ | refine blk_drew ?_ | refine blk_alloc ?_ _)); exact BK199.out) hkp (fun hs_ => (fun e_ => (Kd.R_ne HO_199007.out BK199.out (by decide)) e_) hs_))
          have n2_ := Aside0.mk (blk_kept (by (with_reducible repeat (first | refine blk_drewN ?_ _ | refine blk_drew ?_ | refine blk_alloc ?_ _)); exact BK200.out) hkp (fun hs_ => (fun e_ => (Kd.R_ne HO_199007.out BK200.out (by decide)) e_) hs_))
          have n3_ := Aside0.mk (Kd.R_mono (ok' := fun k_ => (P0_7_ k_ ∨ w.heap.size ≤ k_)) ho0 (fun k_ hk_ => Or.elim hk_ (fun hs_ => (HO_199007.out.1 k_ (hs_).symm)) (fun hn_ => (.inr (Nat.le_trans (by first | exact HK.out.1 | exact (show Kept w _ (fun k_ => P0_7_ k_) from by repeat (first | (with_reducible first | exact HK.out | apply Kept.alloc | apply Kept.drewN | apply Kept.drew | refine Kept.setCell ?_ (.inr GW198.out) _ | refine Kept.setCell ?_ (.inr GW199.out) _ | refine Kept.setCell ?_ (.inr GW200.out) _) | exact HK.out)).1) hn_)))))
          have n4_ := Aside0.mk (Kept.then_ (S := (fun k_ => P0_7_ k_)) (by repeat (first | (with_reducible first | exact HK.out | apply Kept.alloc | apply Kept.drewN | apply Kept.drew | refine Kept.setCell ?_ (.inr GW198.out) _ | refine Kept.setCell ?_ (.inr GW199.out) _ | refine Kept.setCell ?_ (.inr GW200.out) _) | exact HK.out)) hkp (fun k_ hs_ => (fun e_ => (HO_199007.out.1 k_ e_.symm)) hs_))
          have n5_ := Aside0.mk (hb)
          clear BK198
          clear BK199
          clear BK200
          clear HK
          clear HB
          clear HO_199007
          have BK198 := n0_
          have BK199 := n1_
          have BK200 := n2_
          have HO266 := n3_
          have HK := n4_
          have HB := n5_
          clear n0_ n1_ n2_ n3_ n4_ n5_
          (try clear hb)
          (try clear hkp)
          (try clear ho0)
          obtain ⟨Ao89, co89, eo89⟩ := Kd.R_slice HO266.out
          (first | subst eo89 | (injection eo89 with f1_ f2_ f3_; have f4_ := f1_.symm; have f5_ := f3_.symm; clear f1_ f2_ f3_; subst f4_; subst f5_))
          refine hK.out _ _ ⟨(blk_cell BK198.out 0).trans rfl, (blk_cell BK198.out 1).trans rfl, (blk_cell BK198.out 2).trans rfl, (blk_cell BK198.out 3).trans rfl, (blk_cell BK198.out 4).trans rfl, (blk_cell BK198.out 5).trans rfl, (blk_cell BK198.out 6).trans rfl, (blk_cell BK198.out 7).trans rfl, (blk_cell BK198.out 8).trans rfl, (blk_cell BK198.out 9).trans rfl, (blk_cell BK198.out 10).trans rfl, (blk_cell BK198.out 11).trans rfl, (blk_cell BK198.out 12).trans rfl⟩ (fun hHeld => ?_)
          clear hK K
          refine norm_ (a' := ?_) ?_ ?_
          rotate_left
          · show Act.put _ (some 45) _ = _
            simp only [Act.put, List.setIfInBounds_toArray, List.set_cons_zero, List.set_cons_succ, i64_w, i32_w]
            rfl
          refine pure_ (i := 5) (N := some 46) (v := ?_) (a' := ?_) #[true, true, true, true, true, true, false, false, false] rfl rfl (any_of HT_.out (by kernel_rfl)) (fun _ _ _ h => h) (Or.inl ⟨by rfl, ?_⟩) ?_ ?_
          rotate_left
          · intro w'
            go_simp
            with_reducible rfl
          rotate_left
          · simp only [Act.put, List.setIfInBounds_toArray, List.set_cons_zero, List.set_cons_succ, i64_w, i32_w]
            rfl
          refine pure_ (i := 6) (N := some 47) (v := ?_) (a' := ?_) #[true, true, true, true, true, true, true, false, false] rfl rfl (any_of HT_.out (by kernel_rfl)) (fun _ _ _ h => h) (Or.inl ⟨by rfl, ?_⟩) ?_ ?_
          rotate_left
          · intro w'
            go_simp
            with_reducible rfl
          rotate_left
          · simp only [Act.put, List.setIfInBounds_toArray, List.set_cons_zero, List.set_cons_succ, i64_w, i32_w]
            rfl
          refine one_ (i := 7) (N := none) #[true, true, true, true, true, true, true, true, false] rfl rfl (one_of HT_.out (by kernel_rfl)) (by decide) (fun K hK => ?_)
          have hs82 : w81.cell? ⟨gb200, 0, none⟩ = some (.int .u8 0) := (blk_cell BK200.out 0).trans rfl
          have hfs82 := blk_frozen BK200.out 0
          have hns82_0 := NB198_200.out
          have hns82_1 := NB199_200.out
          have hms82_0 := NB200_198.out
          have hms82_1 := NB200_199.out
          have hs83 : w81.cell? ⟨gb200, 1, none⟩ = some (.int .i64 0) := (blk_cell BK200.out 1).trans rfl
          have hfs83 := blk_frozen BK200.out 1
          have hns83_0 := NB198_200.out
          have hns83_1 := NB199_200.out
          have hms83_0 := NB200_198.out
          have hms83_1 := NB200_199.out
          have hs84 : w81.cell? ⟨gb200, 2, none⟩ = some (.int .i64 0) := (blk_cell BK200.out 2).trans rfl
          have hfs84 := blk_frozen BK200.out 2
          have hns84_0 := NB198_200.out
          have hns84_1 := NB199_200.out
          have hms84_0 := NB200_198.out
          have hms84_1 := NB200_199.out
          have hs85 : w81.cell? ⟨gb200, 3, none⟩ = some (.int .i64 0) := (blk_cell BK200.out 3).trans rfl
          have hfs85 := blk_frozen BK200.out 3
          have hns85_0 := NB198_200.out
          have hns85_1 := NB199_200.out
          have hms85_0 := NB200_198.out
          have hms85_1 := NB200_199.out
          have hs86 : w81.cell? ⟨gb200, 4, none⟩ = some (.int .i64 0) := (blk_cell BK200.out 4).trans rfl
          have hfs86 := blk_frozen BK200.out 4
          have hns86_0 := NB198_200.out
          have hns86_1 := NB199_200.out
          have hms86_0 := NB200_198.out
          have hms86_1 := NB200_199.out
          have hs87 : w81.cell? ⟨gb200, 5, none⟩ = some (.int .i64 0) := (blk_cell BK200.out 5).trans rfl
          have hfs87 := blk_frozen BK200.out 5
          have hns87_0 := NB198_200.out
          have hns87_1 := NB199_200.out
          have hms87_0 := NB200_198.out
          have hms87_1 := NB200_199.out
          have hs88 : w81.cell? ⟨gb200, 6, none⟩ = some (.bool false) := (blk_cell BK200.out 6).trans rfl
          have hfs88 := blk_frozen BK200.out 6
          have hns88_0 := NB198_200.out
          have hns88_1 := NB199_200.out
          have hms88_0 := NB200_198.out
          have hms88_1 := NB200_199.out
          have hs90 : w81.cell? ⟨gb200, 7, none⟩ = some (.slice none 0 0) := (blk_cell BK200.out 7).trans rfl
          have hfs90 := blk_frozen BK200.out 7
          have hns90_0 := NB198_200.out
          have hns90_1 := NB199_200.out
          have hms90_0 := NB200_198.out
          have hms90_1 := NB200_199.out
          have hs91 : w81.cell? ⟨gb200, 8, none⟩ = some (.int .i64 0) := (blk_cell BK200.out 8).trans rfl
          have hfs91 := blk_frozen BK200.out 8
          have hns91_0 := NB198_200.out
          have hns91_1 := NB199_200.out
          have hms91_0 := NB200_198.out
          have hms91_1 := NB200_199.out
          have hs92 : w81.cell? ⟨gb200, 9, none⟩ = some (.int .i64 0) := (blk_cell BK200.out 9).trans rfl
          have hfs92 := blk_frozen BK200.out 9
          have hns92_0 := NB198_200.out
          have hns92_1 := NB199_200.out
          have hms92_0 := NB200_198.out
          have hms92_1 := NB200_199.out
          have hs93 : w81.cell? ⟨gb200, 10, none⟩ = some (.int .i64 0) := (blk_cell BK200.out 10).trans rfl
          have hfs93 := blk_frozen BK200.out 10
          have hns93_0 := NB198_200.out
          have hns93_1 := NB199_200.out
          have hms93_0 := NB200_198.out
          have hms93_1 := NB200_199.out
          have hs94 : w81.cell? ⟨gb200, 11, none⟩ = some (.int .i64 0) := (blk_cell BK200.out 11).trans rfl
          have hfs94 := blk_frozen BK200.out 11
          have hns94_0 := NB198_200.out
          have hns94_1 := NB199_200.out
          have hms94_0 := NB200_198.out
          have hms94_1 := NB200_199.out
          have hs95 : w81.cell? ⟨gb200, 12, none⟩ = some (.int .i64 0) := (blk_cell BK200.out 12).trans rfl
          have hfs95 := blk_frozen BK200.out 12
          have hns95_0 := NB198_200.out
          have hns95_1 := NB199_200.out
          have hms95_0 := NB200_198.out
          have hms95_1 := NB200_199.out
          refine skip_ (w1 := ?_) (by rfl) rfl ?_ ?_
          rotate_left
          · go_simp
            rfl
          refine hK.out _ _ ⟨((cf_account_begin gb200 NB198_200.out _).trans (((cf_account_begin gb200 NB198_200.out _).trans (((cf_account_begin gb200 NB198_200.out _).trans (((cf_account_begin gb200 NB198_200.out _).trans (((cf_account_begin gb200 NB198_200.out _).trans (((cf_account_begin gb200 NB198_200.out _).trans (((cf_account_begin gb200 NB198_200.out _).trans (((cf_account_begin gb200 NB198_200.out _).trans (((cf_account_begin gb200 NB198_200.out _).trans (((cf_account_begin gb200 NB198_200.out _).trans (((cf_account_begin gb200 NB198_200.out _).trans (((cf_account_begin gb200 NB198_200.out _).trans (((cf_account_begin gb200 NB198_200.out _).trans (hHeld.1)))))))))))))))))))))))))), ((cf_account_begin gb200 NB198_200.out _).trans (((cf_account_begin gb200 NB198_200.out _).trans (((cf_account_begin gb200 NB198_200.out _).trans (((cf_account_begin gb200 NB198_200.out _).trans (((cf_account_begin gb200 NB198_200.out _).trans (((cf_account_begin gb200 NB198_200.out _).trans (((cf_account_begin gb200 NB198_200.out _).trans (((cf_account_begin gb200 NB198_200.out _).trans (((cf_account_begin gb200 NB198_200.out _).trans (((cf_account_begin gb200 NB198_200.out _).trans (((cf_account_begin gb200 NB198_200.out _).trans (((cf_account_begin gb200 NB198_200.out _).trans (((cf_account_begin gb200 NB198_200.out _).trans (hHeld.2.1)))))))))))))))))))))))))), ((cf_account_begin gb200 NB198_200.out _).trans (((cf_account_begin gb200 NB198_200.out _).trans (((cf_account_begin gb200 NB198_200.out _).trans (((cf_account_begin gb200 NB198_200.out _).trans (((cf_account_begin gb200 NB198_200.out _).trans (((cf_account_begin gb200 NB198_200.out _).trans (((cf_account_begin gb200 NB198_200.out _).trans (((cf_account_begin gb200 NB198_200.out _).trans (((cf_account_begin gb200 NB198_200.out _).trans (((cf_account_begin gb200 NB198_200.out _).trans (((cf_account_begin gb200 NB198_200.out _).trans (((cf_account_begin gb200 NB198_200.out _).trans (((cf_account_begin gb200 NB198_200.out _).trans (hHeld.2.2.1)))))))))))))))))))))))))), ((cf_account_begin gb200 NB198_200.out _).trans (((cf_account_begin gb200 NB198_200.out _).trans (((cf_account_begin gb200 NB198_200.out _).trans (((cf_account_begin gb200 NB198_200.out _).trans (((cf_account_begin gb200 NB198_200.out _).trans (((cf_account_begin gb200 NB198_200.out _).trans (((cf_account_begin gb200 NB198_200.out _).trans (((cf_account_begin gb200 NB198_200.out _).trans (((cf_account_begin gb200 NB198_200.out _).trans (((cf_account_begin gb200 NB198_200.out _).trans (((cf_account_begin gb200 NB198_200.out _).trans (((cf_account_begin gb200 NB198_200.out _).trans (((cf_account_begin gb200 NB198_200.out _).trans (hHeld.2.2.2.1)))))))))))))))))))))))))), ((cf_account_begin gb200 NB198_200.out _).trans (((cf_account_begin gb200 NB198_200.out _).trans (((cf_account_begin gb200 NB198_200.out _).trans (((cf_account_begin gb200 NB198_200.out _).trans (((cf_account_begin gb200 NB198_200.out _).trans (((cf_account_begin gb200 NB198_200.out _).trans (((cf_account_begin gb200 NB198_200.out _).trans (((cf_account_begin gb200 NB198_200.out _).trans (((cf_account_begin gb200 NB198_200.out _).trans (((cf_account_begin gb200 NB198_200.out _).trans (((cf_account_begin gb200 NB198_200.out _).trans (((cf_account_begin gb200 NB198_200.out _).trans (((cf_account_begin gb200 NB198_200.out _).trans (hHeld.2.2.2.2.1)))))))))))))))))))))))))), ((cf_account_begin gb200 NB198_200.out _).trans (((cf_account_begin gb200 NB198_200.out _).trans (((cf_account_begin gb200 NB198_200.out _).trans (((cf_account_begin gb200 NB198_200.out _).trans (((cf_account_begin gb200 NB198_200.out _).trans (((cf_account_begin gb200 NB198_200.out _).trans (((cf_account_begin gb200 NB198_200.out _).trans (((cf_account_begin gb200 NB198_200.out _).trans (((cf_account_begin gb200 NB198_200.out _).trans (((cf_account_begin gb200 NB198_200.out _).trans (((cf_account_begin gb200 NB198_200.out _).trans (((cf_account_begin gb200 NB198_200.out _).trans (((cf_account_begin gb200 NB198_200.out _).trans (hHeld.2.2.2.2.2.1)))))))))))))))))))))))))), ((cf_account_begin gb200 NB198_200.out _).trans (((cf_account_begin gb200 NB198_200.out _).trans (((cf_account_begin gb200 NB198_200.out _).trans (((cf_account_begin gb200 NB198_200.out _).trans (((cf_account_begin gb200 NB198_200.out _).trans (((cf_account_begin gb200 NB198_200.out _).trans (((cf_account_begin gb200 NB198_200.out _).trans (((cf_account_begin gb200 NB198_200.out _).trans (((cf_account_begin gb200 NB198_200.out _).trans (((cf_account_begin gb200 NB198_200.out _).trans (((cf_account_begin gb200 NB198_200.out _).trans (((cf_account_begin gb200 NB198_200.out _).trans (((cf_account_begin gb200 NB198_200.out _).trans (hHeld.2.2.2.2.2.2.1)))))))))))))))))))))))))), ((cf_account_begin gb200 NB198_200.out _).trans (((cf_account_begin gb200 NB198_200.out _).trans (((cf_account_begin gb200 NB198_200.out _).trans (((cf_account_begin gb200 NB198_200.out _).trans (((cf_account_begin gb200 NB198_200.out _).trans (((cf_account_begin gb200 NB198_200.out _).trans (((cf_account_begin gb200 NB198_200.out _).trans (((cf_account_begin gb200 NB198_200.out _).trans (((cf_account_begin gb200 NB198_200.out _).trans (((cf_account_begin gb200 NB198_200.out _).trans (((cf_account_begin gb200 NB198_200.out _).trans (((cf_account_begin gb200 NB198_200.out _).trans (((cf_account_begin gb200 NB198_200.out _).trans (hHeld.2.2.2.2.2.2.2.1)))))))))))))))))))))))))), ((cf_account_begin gb200 NB198_200.out _).trans (((cf_account_begin gb200 NB198_200.out _).trans (((cf_account_begin gb200 NB198_200.out _).trans (((cf_account_begin gb200 NB198_200.out _).trans (((cf_account_begin gb200 NB198_200.out _).trans (((cf_account_begin gb200 NB198_200.out _).trans (((cf_account_begin gb200 NB198_200.out _).trans (((cf_account_begin gb200 NB198_200.out _).trans (((cf_account_begin gb200 NB198_200.out _).trans (((cf_account_begin gb200 NB198_200.out _).trans (((cf_account_begin gb200 NB198_200.out _).trans (((cf_account_begin gb200 NB198_200.out _).trans (((cf_account_begin gb200 NB198_200.out _).trans (hHeld.2.2.2.2.2.2.2.2.1)))))))))))))))))))))))))), ((cf_account_begin gb200 NB198_200.out _).trans (((cf_account_begin gb200 NB198_200.out _).trans (((cf_account_begin gb200 NB198_200.out _).trans (((cf_account_begin gb200 NB198_200.out _).trans (((cf_account_begin gb200 NB198_200.out _).trans (((cf_account_begin gb200 NB198_200.out _).trans (((cf_account_begin gb200 NB198_200.out _).trans (((cf_account_begin gb200 NB198_200.out _).trans (((cf_account_begin gb200 NB198_200.out _).trans (((cf_account_begin gb200 NB198_200.out _).trans (((cf_account_begin gb200 NB198_200.out _).trans (((cf_account_begin gb200 NB198_200.out _).trans (((cf_account_begin gb200 NB198_200.out _).trans (hHeld.2.2.2.2.2.2.2.2.2.1)))))))))))))))))))))))))), ((cf_account_begin gb200 NB198_200.out _).trans (((cf_account_begin gb200 NB198_200.out _).trans (((cf_account_begin gb200 NB198_200.out _).trans (((cf_account_begin gb200 NB198_200.out _).trans (((cf_account_begin gb200 NB198_200.out _).trans (((cf_account_begin gb200 NB198_200.out _).trans (((cf_account_begin gb200 NB198_200.out _).trans (((cf_account_begin gb200 NB198_200.out _).trans (((cf_account_begin gb200 NB198_200.out _).trans (((cf_account_begin gb200 NB198_200.out _).trans (((cf_account_begin gb200 NB198_200.out _).trans (((cf_account_begin gb200 NB198_200.out _).trans (((cf_account_begin gb200 NB198_200.out _).trans (hHeld.2.2.2.2.2.2.2.2.2.2.1)))))))))))))))))))))))))), ((cf_account_begin gb200 NB198_200.out _).trans (((cf_account_begin gb200 NB198_200.out _).trans (((cf_account_begin gb200 NB198_200.out _).trans (((cf_account_begin gb200 NB198_200.out _).trans (((cf_account_begin gb200 NB198_200.out _).trans (((cf_account_begin gb200 NB198_200.out _).trans (((cf_account_begin gb200 NB198_200.out _).trans (((cf_account_begin gb200 NB198_200.out _).trans (((cf_account_begin gb200 NB198_200.out _).trans (((cf_account_begin gb200 NB198_200.out _).trans (((cf_account_begin gb200 NB198_200.out _).trans (((cf_account_begin gb200 NB198_200.out _).trans (((cf_account_begin gb200 NB198_200.out _).trans (hHeld.2.2.2.2.2.2.2.2.2.2.2.1)))))))))))))))))))))))))), ((cf_account_begin gb200 NB198_200.out _).trans (((cf_account_begin gb200 NB198_200.out _).trans (((cf_account_begin gb200 NB198_200.out _).trans (((cf_account_begin gb200 NB198_200.out _).trans (((cf_account_begin gb200 NB198_200.out _).trans (((cf_account_begin gb200 NB198_200.out _).trans (((cf_account_begin gb200 NB198_200.out _).trans (((cf_account_begin gb200 NB198_200.out _).trans (((cf_account_begin gb200 NB198_200.out _).trans (((cf_account_begin gb200 NB198_200.out _).trans (((cf_account_begin gb200 NB198_200.out _).trans (((cf_account_begin gb200 NB198_200.out _).trans (((cf_account_begin gb200 NB198_200.out _).trans (hHeld.2.2.2.2.2.2.2.2.2.2.2.2))))))))))))))))))))))))))⟩ (fun hHeld => ?_)
          clear hK K
          refine pure_ (i := 8) (N := some 9) (v := ?_) (a' := ?_) #[true, true, true, true, true, true, true, true, true] rfl rfl (any_of HT_.out (by kernel_rfl)) (fun _ _ _ h => h) (Or.inl ⟨by rfl, ?_⟩) ?_ ?_
          rotate_left
          · intro w'
            go_simp
            with_reducible rfl
          rotate_left
          · simp only [Act.put, List.setIfInBounds_toArray, List.set_cons_zero, List.set_cons_succ, i64_w, i32_w]
            rfl
          refine done_ (done_of HT_.out (by kernel_rfl)) ?_
          try go_wp2
          refine bodyPost_ret (results_ct rfl _ _ gb200 31 #[.int .u8 t257, .int .i64 t258, .int .i64 t259, .int .i64 t260, .int .i64 t261, .int .i64 t262, .bool t263, .slice Ao89 t264.length co89, .int .i64 t267, .int .i64 t268, .int .i64 t269, .int .i64 t270, .int .i64 t271] (0, 0) _ rfl (by (with_reducible repeat (first | refine blk_drewN ?_ _ | refine blk_drew ?_ | refine blk_alloc ?_ _)); refine bp13 (.int .u8 0) (.int .i64 0) (.int .i64 0) (.int .i64 0) (.int .i64 0) (.int .i64 0) (.bool false) (.slice none 0 0) (.int .i64 0) (.int .i64 0) (.int .i64 0) (.int .i64 0) (.int .i64 0) ?_; (with_reducible repeat (first | refine blk_drewN ?_ _ | refine blk_drew ?_ | refine blk_alloc ?_ _)); exact BK200.out) Try.underlying31 rfl (by kernel_rfl)) rfl ?_
          exact ⟨_, by first | rfl | (simp [errW_none, errW_some] <;> rfl) | (simp [*, errW_none, errW_some] <;> rfl), by (with_reducible repeat (first | apply Kd.R_alloc | apply Kd.R_drewN | apply Kd.R_drew)); exact Kd.R_mono (Kd.R_step (Kd.R_types HO266.out BK200.out (by decide)) (fun _ hk _ => by (with_reducible repeat (first | refine (hst (g := gb200) hk.2 _ _).trans ?_ | refine (hdn _ _ _).trans ?_ | refine (hd1 _ _).trans ?_)); rfl)) (fun _ hk => hk.1), by repeat (first | (with_reducible first | exact HB.out | apply below_alloc | apply pw_below_drewN | apply below_drew1 | refine below_set ?_ GE198.out | refine below_set ?_ GE199.out | refine below_set ?_ GE200.out) | exact HB.out), by repeat (first | (with_reducible first | exact HK.out | apply Kept.alloc | apply Kept.drewN | apply Kept.drew | refine Kept.setCell ?_ (.inr GW198.out) _ | refine Kept.setCell ?_ (.inr GW199.out) _ | refine Kept.setCell ?_ (.inr GW200.out) _) | exact HK.out)⟩
      · replace c24 := Bool.eq_false_iff.mpr c24
        subst c24
        have H1 : ((purse_Less.f a1_0 a0_5).bind fun bt273 => (if bt273.2 = 0 then (if bt273.1 < 0 then ((cycle_Begin.f a0_4 a2 0 a1_0 a1_4).bind fun bt275 => ((account_close.f a0_0 a0_1 a0_2 a0_3 (wrap64 (a0_4 + 1)) (wrap64 (-bt273.1)) a0_6 l0_7 a0_8 a0_9 a0_10 a0_11 a0_12 bt275.1 bt275.2.1 bt275.2.2.1 bt275.2.2.2.1 bt275.2.2.2.2.1 bt275.2.2.2.2.2.1 bt275.2.2.2.2.2.2.1 bt275.2.2.2.2.2.2.2).bind fun bt283 => (some (bt283.1, bt283.2.1, bt283.2.2.1, bt283.2.2.2.1, bt283.2.2.2.2.1, bt283.2.2.2.2.2.1, bt283.2.2.2.2.2.2.1, bt283.2.2.2.2.2.2.2.1, bt283.2.2.2.2.2.2.2.2.1, bt283.2.2.2.2.2.2.2.2.2.1, bt283.2.2.2.2.2.2.2.2.2.2.1, bt283.2.2.2.2.2.2.2.2.2.2.2.1, bt283.2.2.2.2.2.2.2.2.2.2.2.2.1, bt283.2.2.2.2.2.2.2.2.2.2.2.2.2)))) else ((cycle_Begin.f a0_4 a2 bt273.1 a0_5 a1_4).bind fun bt299 => ((account_close.f a0_0 a0_1 a0_2 a0_3 (wrap64 (a0_4 + 1)) 0 a0_6 l0_7 a0_8 a0_9 a0_10 a0_11 a0_12 bt299.1 bt299.2.1 bt299.2.2.1 bt299.2.2.2.1 bt299.2.2.2.2.1 bt299.2.2.2.2.2.1 bt299.2.2.2.2.2.2.1 bt299.2.2.2.2.2.2.2).bind fun bt307 => (some (bt307.1, bt307.2.1, bt307.2.2.1, bt307.2.2.2.1, bt307.2.2.2.2.1, bt307.2.2.2.2.2.1, bt307.2.2.2.2.2.2.1, bt307.2.2.2.2.2.2.2.1, bt307.2.2.2.2.2.2.2.2.1, bt307.2.2.2.2.2.2.2.2.2.1, bt307.2.2.2.2.2.2.2.2.2.2.1, bt307.2.2.2.2.2.2.2.2.2.2.2.1, bt307.2.2.2.2.2.2.2.2.2.2.2.2.1, bt307.2.2.2.2.2.2.2.2.2.2.2.2.2))))) else (none))) = some (r1, r2, r3, r4, r5, r6, r7, r8, r9, r10, r11, r12, r13, r14) := by rw [if_neg (show ¬ (false = true) by decide)] at H; exact H
        clear H
        have H := H1
        clear H1
        replace H := Option.bind_eq_some_iff.mp H
        obtain ⟨⟨t273, t274⟩, A960, H⟩ := H
        replace H : (if t274 = 0 then (if t273 < 0 then ((cycle_Begin.f a0_4 a2 0 a1_0 a1_4).bind fun bt275 => ((account_close.f a0_0 a0_1 a0_2 a0_3 (wrap64 (a0_4 + 1)) (wrap64 (-t273)) a0_6 l0_7 a0_8 a0_9 a0_10 a0_11 a0_12 bt275.1 bt275.2.1 bt275.2.2.1 bt275.2.2.2.1 bt275.2.2.2.2.1 bt275.2.2.2.2.2.1 bt275.2.2.2.2.2.2.1 bt275.2.2.2.2.2.2.2).bind fun bt283 => (some (bt283.1, bt283.2.1, bt283.2.2.1, bt283.2.2.2.1, bt283.2.2.2.2.1, bt283.2.2.2.2.2.1, bt283.2.2.2.2.2.2.1, bt283.2.2.2.2.2.2.2.1, bt283.2.2.2.2.2.2.2.2.1, bt283.2.2.2.2.2.2.2.2.2.1, bt283.2.2.2.2.2.2.2.2.2.2.1, bt283.2.2.2.2.2.2.2.2.2.2.2.1, bt283.2.2.2.2.2.2.2.2.2.2.2.2.1, bt283.2.2.2.2.2.2.2.2.2.2.2.2.2)))) else ((cycle_Begin.f a0_4 a2 t273 a0_5 a1_4).bind fun bt299 => ((account_close.f a0_0 a0_1 a0_2 a0_3 (wrap64 (a0_4 + 1)) 0 a0_6 l0_7 a0_8 a0_9 a0_10 a0_11 a0_12 bt299.1 bt299.2.1 bt299.2.2.1 bt299.2.2.2.1 bt299.2.2.2.2.1 bt299.2.2.2.2.2.1 bt299.2.2.2.2.2.2.1 bt299.2.2.2.2.2.2.2).bind fun bt307 => (some (bt307.1, bt307.2.1, bt307.2.2.1, bt307.2.2.2.1, bt307.2.2.2.2.1, bt307.2.2.2.2.2.1, bt307.2.2.2.2.2.2.1, bt307.2.2.2.2.2.2.2.1, bt307.2.2.2.2.2.2.2.2.1, bt307.2.2.2.2.2.2.2.2.2.1, bt307.2.2.2.2.2.2.2.2.2.2.1, bt307.2.2.2.2.2.2.2.2.2.2.2.1, bt307.2.2.2.2.2.2.2.2.2.2.2.2.1, bt307.2.2.2.2.2.2.2.2.2.2.2.2.2))))) else (none)) = some (r1, r2, r3, r4, r5, r6, r7, r8, r9, r10, r11, r12, r13, r14) := H
        have A96 := Aside0.mk A960
        clear A960
        by_cases c97 : t274 = 0
        · rw [if_pos c97] at H
          have c97b0 : (t274 == 0) = true := beq_iff_eq.mpr c97
          have c97b1 : (t274 != 0) = false := bne_eq_false_iff_eq.mpr c97
          clear c97
          by_cases c98 : t273 < 0
          · rw [if_pos c98] at H
            have c98b0 : decide (t273 < 0) = true := decide_eq_true c98
            clear c98
            replace H := Option.bind_eq_some_iff.mp H
            obtain ⟨⟨t275, t276, t277, t278, t279, t280, t281, t282⟩, A990, H⟩ := H
            replace H : ((account_close.f a0_0 a0_1 a0_2 a0_3 (wrap64 (a0_4 + 1)) (wrap64 (-t273)) a0_6 l0_7 a0_8 a0_9 a0_10 a0_11 a0_12 t275 t276 t277 t278 t279 t280 t281 t282).bind fun bt283 => (some (bt283.1, bt283.2.1, bt283.2.2.1, bt283.2.2.2.1, bt283.2.2.2.2.1, bt283.2.2.2.2.2.1, bt283.2.2.2.2.2.2.1, bt283.2.2.2.2.2.2.2.1, bt283.2.2.2.2.2.2.2.2.1, bt283.2.2.2.2.2.2.2.2.2.1, bt283.2.2.2.2.2.2.2.2.2.2.1, bt283.2.2.2.2.2.2.2.2.2.2.2.1, bt283.2.2.2.2.2.2.2.2.2.2.2.2.1, bt283.2.2.2.2.2.2.2.2.2.2.2.2.2))) = some (r1, r2, r3, r4, r5, r6, r7, r8, r9, r10, r11, r12, r13, r14) := H
            have A99 := Aside0.mk A990
            clear A990
            replace H := Option.bind_eq_some_iff.mp H
            obtain ⟨⟨t283, t284, t285, t286, t287, t288, t289, t290, t293, t294, t295, t296, t297, t298⟩, A1000, H⟩ := H
            replace H : (some (t283, t284, t285, t286, t287, t288, t289, t290, t293, t294, t295, t296, t297, t298)) = some (r1, r2, r3, r4, r5, r6, r7, r8, r9, r10, r11, r12, r13, r14) := H
            have A100 := Aside0.mk A1000
            clear A1000
            simp only [Option.some.injEq, Prod.mk.injEq] at H
            obtain ⟨rfl, rfl, rfl, rfl, rfl, rfl, rfl, rfl, rfl, rfl, rfl, rfl, rfl, rfl⟩ := H
            have hnb101 := NB199_198.out
            have hnc101 := NB198_199.out
            have hnb102 := NB199_200.out
            have hnc102 := NB200_199.out
            obtain ⟨hcz103_0, hcz103_1, hcz103_2, hcz103_3, hcz103_4, hcz103_5⟩ := bc6 BK199.out
            obtain ⟨hfz103_0, hfz103_1, hfz103_2, hfz103_3, hfz103_4, hfz103_5⟩ := bf6 BK199.out
            have hnb104 := NB198_200.out
            have hnc104 := NB200_198.out
            obtain ⟨hcz105_0, hcz105_1, hcz105_2, hcz105_3, hcz105_4, hcz105_5, hcz105_6, hcz105_7, hcz105_8, hcz105_9, hcz105_10, hcz105_11, hcz105_12⟩ := bc13 BK198.out
            obtain ⟨hfz105_0, hfz105_1, hfz105_2, hfz105_3, hfz105_4, hfz105_5, hfz105_6, hfz105_7, hfz105_8, hfz105_9, hfz105_10, hfz105_11, hfz105_12⟩ := bf13 BK198.out
            try go_wp2_with (first | ((with_reducible refine gate_callee (f := 39) rfl ?_); refine goesL_ (some 53) rfl rfl Try.func39 (by kernel_rfl) rfl #[.int .i64 a1_0, .int .i64 a0_5] rfl (by (try simp only [List.map_toArray, List.map_cons, List.map_nil]); first | done | rfl | (simp only [List.length_drop, List.length_take]; rfl)) ?_; (with_reducible refine (purse_Less.calls a1_0 a0_5 t273 t274 _ A96.out).mono ?_); rintro e w' ⟨rfl, ⟨nd, rfl⟩⟩; refine ⟨_, rfl, ?_⟩; (try (rw [drewN_self wc]; generalize hq_ : World.drewN wc _ = wc; have n0_ : Aside0 (Kd.R k37 37 wc w0.heap.size (fun k_ => (P0_7_ k_ ∨ w.heap.size ≤ k_)) (.slice Ao6 l0_7.length co6) l0_7) := ⟨by rw [← hq_]; exact (by (with_reducible repeat (first | apply Kd.R_alloc | apply Kd.R_drewN | apply Kd.R_drew)); exact HO_199007.out)⟩; have n1_ : Aside0 (wc.heap[gb198]? = some (.cells #[.int .u8 a0_0, .int .i64 a0_1, .int .i64 a0_2, .int .i64 a0_3, .int .i64 (wrap64 (a0_4 + 1)), .int .i64 a0_5, .bool a0_6, .slice Ao6 l0_7.length co6, .int .i64 a0_8, .int .i64 a0_9, .int .i64 a0_10, .int .i64 a0_11, .int .i64 a0_12] 31 (0, 0))) := ⟨by rw [← hq_]; exact (by (with_reducible repeat (first | refine blk_drewN ?_ _ | refine blk_drew ?_ | refine blk_alloc ?_ _)); exact BK198.out)⟩; have n2_ : Aside0 (wc.heap[gb199]? = some (.cells #[.int .i64 a1_0, .int .u8 a1_1, .int .i64 a1_2, .int .i64 a1_3, .bool a1_4, .bool a1_5] 25 (0, 0))) := ⟨by rw [← hq_]; exact (by (with_reducible repeat (first | refine blk_drewN ?_ _ | refine blk_drew ?_ | refine blk_alloc ?_ _)); exact BK199.out)⟩; have n3_ : Aside0 (wc.heap[gb200]? = some (.cells #[.int .u8 0, .int .i64 0, .int .i64 0, .int .i64 0, .int .i64 0, .int .i64 0, .bool false, .slice none 0 0, .int .i64 0, .int .i64 0, .int .i64 0, .int .i64 0, .int .i64 0] 31 (0, 0))) := ⟨by rw [← hq_]; exact (by (with_reducible repeat (first | refine blk_drewN ?_ _ | refine blk_drew ?_ | refine blk_alloc ?_ _)); exact BK200.out)⟩; have n4_ : Aside0 (Kept w wc (fun k_ => P0_7_ k_)) := ⟨by rw [← hq_]; exact (by repeat (first | (with_reducible first | exact HK.out | apply Kept.alloc | apply Kept.drewN | apply Kept.drew | refine Kept.setCell ?_ (.inr GW198.out) _ | refine Kept.setCell ?_ (.inr GW199.out) _ | refine Kept.setCell ?_ (.inr GW200.out) _) | exact HK.out))⟩; have n5_ : Aside0 (Below w0.heap.size w0 wc) := ⟨by rw [← hq_]; exact (by repeat (first | (with_reducible first | exact HB.out | apply below_alloc | apply pw_below_drewN | apply below_drew1 | refine below_set ?_ GE198.out | refine below_set ?_ GE199.out | refine below_set ?_ GE200.out) | exact HB.out))⟩; clear HO_199007 BK198 BK199 BK200 HK HB hq_; have HO_199007 := n0_; have BK198 := n1_; have BK199 := n2_; have BK200 := n3_; have HK := n4_; have HB := n5_; clear n0_ n1_ n2_ n3_ n4_ n5_; obtain ⟨hcz103_0, hcz103_1, hcz103_2, hcz103_3, hcz103_4, hcz103_5⟩ := bc6 BK199.out; obtain ⟨hfz103_0, hfz103_1, hfz103_2, hfz103_3, hfz103_4, hfz103_5⟩ := bf6 BK199.out; obtain ⟨hcz105_0, hcz105_1, hcz105_2, hcz105_3, hcz105_4, hcz105_5, hcz105_6, hcz105_7, hcz105_8, hcz105_9, hcz105_10, hcz105_11, hcz105_12⟩ := bc13 BK198.out; obtain ⟨hfz105_0, hfz105_1, hfz105_2, hfz105_3, hfz105_4, hfz105_5, hfz105_6, hfz105_7, hfz105_8, hfz105_9, hfz105_10, hfz105_11, hfz105_12⟩ := bf13 BK198.out))))
            have n0_ : Aside0 (Kd.R k37 37 ((wc.setCell ⟨gb198, 5, none⟩ (.int .i64 0)).setCell ⟨gb198, 5, none⟩ (.int .i64 (wrap64 (-t273)))) w0.heap.size (fun k_ => (P0_7_ k_ ∨ w.heap.size ≤ k_)) (.slice Ao6 l0_7.length co6) l0_7) := ⟨by (with_reducible repeat (first | apply Kd.R_alloc | apply Kd.R_drewN | apply Kd.R_drew)); exact Kd.R_mono (Kd.R_step (Kd.R_types HO_199007.out BK198.out (by decide)) (fun _ hk _ => by (with_reducible repeat (first | refine (hst (g := gb198) hk.2 _ _).trans ?_ | refine (hdn _ _ _).trans ?_ | refine (hd1 _ _).trans ?_)); rfl)) (fun _ hk => hk.1)⟩
            have n1_ : Aside0 (((wc.setCell ⟨gb198, 5, none⟩ (.int .i64 0)).setCell ⟨gb198, 5, none⟩ (.int .i64 (wrap64 (-t273)))).heap[gb198]? = some (.cells #[.int .u8 a0_0, .int .i64 a0_1, .int .i64 a0_2, .int .i64 a0_3, .int .i64 (wrap64 (a0_4 + 1)), .int .i64 (wrap64 (-t273)), .bool a0_6, .slice Ao6 l0_7.length co6, .int .i64 a0_8, .int .i64 a0_9, .int .i64 a0_10, .int .i64 a0_11, .int .i64 a0_12] 31 (0, 0))) := ⟨by (with_reducible repeat (first | refine blk_drewN ?_ _ | refine blk_drew ?_ | refine blk_alloc ?_ _)); refine blk_put (cs := #[.int .u8 a0_0, .int .i64 a0_1, .int .i64 a0_2, .int .i64 a0_3, .int .i64 (wrap64 (a0_4 + 1)), .int .i64 0, .bool a0_6, .slice Ao6 l0_7.length co6, .int .i64 a0_8, .int .i64 a0_9, .int .i64 a0_10, .int .i64 a0_11, .int .i64 a0_12]) ?_ 5 _ rfl; (with_reducible repeat (first | refine blk_drewN ?_ _ | refine blk_drew ?_ | refine blk_alloc ?_ _)); refine blk_put (cs := #[.int .u8 a0_0, .int .i64 a0_1, .int .i64 a0_2, .int .i64 a0_3, .int .i64 (wrap64 (a0_4 + 1)), .int .i64 a0_5, .bool a0_6, .slice Ao6 l0_7.length co6, .int .i64 a0_8, .int .i64 a0_9, .int .i64 a0_10, .int .i64 a0_11, .int .i64 a0_12]) ?_ 5 _ rfl; (with_reducible repeat (first | refine blk_drewN ?_ _ | refine blk_drew ?_ | refine blk_alloc ?_ _)); exact BK198.out⟩
            have n2_ : Aside0 (((wc.setCell ⟨gb198, 5, none⟩ (.int .i64 0)).setCell ⟨gb198, 5, none⟩ (.int .i64 (wrap64 (-t273)))).heap[gb199]? = some (.cells #[.int .i64 a1_0, .int .u8 a1_1, .int .i64 a1_2, .int .i64 a1_3, .bool a1_4, .bool a1_5] 25 (0, 0))) := ⟨by (with_reducible repeat (first | refine blk_drewN ?_ _ | refine blk_drew ?_ | refine blk_alloc ?_ _ | refine blk_far ?_ NB199_198.out _)); exact BK199.out⟩
            have n3_ : Aside0 (((wc.setCell ⟨gb198, 5, none⟩ (.int .i64 0)).setCell ⟨gb198, 5, none⟩ (.int .i64 (wrap64 (-t273)))).heap[gb200]? = some (.cells #[.int .u8 0, .int .i64 0, .int .i64 0, .int .i64 0, .int .i64 0, .int .i64 0, .bool false, .slice none 0 0, .int .i64 0, .int .i64 0, .int .i64 0, .int .i64 0, .int .i64 0] 31 (0, 0))) := ⟨by (with_reducible repeat (first | refine blk_drewN ?_ _ | refine blk_drew ?_ | refine blk_alloc ?_ _ | refine blk_far ?_ NB200_198.out _)); exact BK200.out⟩
            have n4_ : Aside0 (Kept w ((wc.setCell ⟨gb198, 5, none⟩ (.int .i64 0)).setCell ⟨gb198, 5, none⟩ (.int .i64 (wrap64 (-t273)))) (fun k_ => P0_7_ k_)) := ⟨by repeat (first | (with_reducible first | exact HK.out | apply Kept.alloc | apply Kept.drewN | apply Kept.drew | refine Kept.setCell ?_ (.inr GW198.out) _ | refine Kept.setCell ?_ (.inr GW199.out) _ | refine Kept.setCell ?_ (.inr GW200.out) _) | exact HK.out)⟩
            have n5_ : Aside0 (Below w0.heap.size w0 ((wc.setCell ⟨gb198, 5, none⟩ (.int .i64 0)).setCell ⟨gb198, 5, none⟩ (.int .i64 (wrap64 (-t273))))) := ⟨by repeat (first | (with_reducible first | exact HB.out | apply below_alloc | apply pw_below_drewN | apply below_drew1 | refine below_set ?_ GE198.out | refine below_set ?_ GE199.out | refine below_set ?_ GE200.out) | exact HB.out)⟩
            (try clear HO_199007)
            (try clear BK198)
            (try clear BK199)
            (try clear BK200)
            (try clear HK)
            (try clear HB)
            generalize ((wc.setCell ⟨gb198, 5, none⟩ (.int .i64 0)).setCell ⟨gb198, 5, none⟩ (.int .i64 (wrap64 (-t273)))) = w106 at n0_ n1_ n2_ n3_ n4_ n5_ ⊢
            have HO_199007 := n0_
            have BK198 := n1_
            have BK199 := n2_
            have BK200 := n3_
            have HK := n4_
            have HB := n5_
            clear n0_ n1_ n2_ n3_ n4_ n5_
            have n0_ := Aside0.mk (Kd.R_drew HO_199007.out)
            have n1_ := Aside0.mk (blk_drew BK198.out)
            have n2_ := Aside0.mk (blk_drew BK199.out)
            have n3_ := Aside0.mk (blk_drew BK200.out)
            have n4_ := Aside0.mk (Kept.drew HK.out)
            have n5_ := Aside0.mk (below_drew1 HB.out)
            clear HO_199007
            clear BK198
            clear BK199
            clear BK200
            clear HK
            clear HB
            have HO_199007 := n0_
            have BK198 := n1_
            have BK199 := n2_
            have BK200 := n3_
            have HK := n4_
            have HB := n5_
            clear n0_ n1_ n2_ n3_ n4_ n5_
            refine start_ (n := 13) (S := fun w' => w'.cell? ⟨gb198, 0, none⟩ = some (.int .u8 a0_0) ∧ w'.cell? ⟨gb198, 1, none⟩ = some (.int .i64 a0_1) ∧ w'.cell? ⟨gb198, 2, none⟩ = some (.int .i64 a0_2) ∧ w'.cell? ⟨gb198, 3, none⟩ = some (.int .i64 a0_3) ∧ w'.cell? ⟨gb198, 4, none⟩ = some (.int .i64 (wrap64 (a0_4 + 1))) ∧ w'.cell? ⟨gb198, 5, none⟩ = some (.int .i64 (wrap64 (-t273))) ∧ w'.cell? ⟨gb198, 6, none⟩ = some (.bool a0_6) ∧ w'.cell? ⟨gb198, 7, none⟩ = some (.slice Ao6 l0_7.length co6) ∧ w'.cell? ⟨gb198, 8, none⟩ = some (.int .i64 a0_8) ∧ w'.cell? ⟨gb198, 9, none⟩ = some (.int .i64 a0_9) ∧ w'.cell? ⟨gb198, 10, none⟩ = some (.int .i64 a0_10) ∧ w'.cell? ⟨gb198, 11, none⟩ = some (.int .i64 a0_11) ∧ w'.cell? ⟨gb198, 12, none⟩ = some (.int .i64 a0_12) ∧ w'.cell? ⟨gb199, 0, none⟩ = some (.int .i64 a1_0) ∧ w'.cell? ⟨gb199, 1, none⟩ = some (.int .u8 a1_1) ∧ w'.cell? ⟨gb199, 2, none⟩ = some (.int .i64 a1_2) ∧ w'.cell? ⟨gb199, 3, none⟩ = some (.int .i64 a1_3) ∧ w'.cell? ⟨gb199, 4, none⟩ = some (.bool a1_4) ∧ w'.cell? ⟨gb199, 5, none⟩ = some (.bool a1_5)) (ds := []) #[false, false, false, false, false, false, false, false, false, false, false, false, false] (by kernel_rfl) rfl rfl ⟨(blk_cell BK198.out 0).trans rfl, (blk_cell BK198.out 1).trans rfl, (blk_cell BK198.out 2).trans rfl, (blk_cell BK198.out 3).trans rfl, (blk_cell BK198.out 4).trans rfl, (blk_cell BK198.out 5).trans rfl, (blk_cell BK198.out 6).trans rfl, (blk_cell BK198.out 7).trans rfl, (blk_cell BK198.out 8).trans rfl, (blk_cell BK198.out 9).trans rfl, (blk_cell BK198.out 10).trans rfl, (blk_cell BK198.out 11).trans rfl, (blk_cell BK198.out 12).trans rfl, (blk_cell BK199.out 0).trans rfl, (blk_cell BK199.out 1).trans rfl, (blk_cell BK199.out 2).trans rfl, (blk_cell BK199.out 3).trans rfl, (blk_cell BK199.out 4).trans rfl, (blk_cell BK199.out 5).trans rfl⟩ (fun hHeld => ?_); refine with_tabW account_begin.tab13 account_begin.bits13 (fun HT_ HW_ => ?_)
            generalize w106.drew = w107 at HO_199007 BK198 BK199 BK200 HK HB hHeld ⊢
            refine pure_ (i := 1) (N := some 71) (v := ?_) (a' := ?_) #[false, true, false, false, false, false, false, false, false, false, false, false, false] rfl rfl (any_of HT_.out (by kernel_rfl)) (fun _ _ _ h => h) (Or.inl ⟨by rfl, ?_⟩) ?_ ?_
            rotate_left
            · intro w'
              go_simp
              with_reducible rfl
            rotate_left
            · simp only [Act.put, List.setIfInBounds_toArray, List.set_cons_zero, List.set_cons_succ, i64_w, i32_w]
              rfl
            refine pure_ (i := 2) (N := some 72) (v := ?_) (a' := ?_) #[false, true, true, false, false, false, false, false, false, false, false, false, false] rfl rfl (any_of HT_.out (by kernel_rfl)) (fun _ _ _ h => h) (Or.inl ⟨by rfl, ?_⟩) ?_ ?_
            rotate_left
            · intro w'
              go_simp
              with_reducible rfl
            rotate_left
            · simp only [Act.put, List.setIfInBounds_toArray, List.set_cons_zero, List.set_cons_succ, i64_w, i32_w]
              rfl
            refine pure_ (i := 3) (N := some 73) (v := ?_) (a' := ?_) #[false, true, true, true, false, false, false, false, false, false, false, false, false] rfl rfl (any_of HT_.out (by kernel_rfl)) (fun _ _ _ h => h) (Or.inl ⟨by rfl, ?_⟩) ?_ ?_
            rotate_left
            · intro w'
              go_simp
              with_reducible rfl
            rotate_left
            · simp only [Act.put, List.setIfInBounds_toArray, List.set_cons_zero, List.set_cons_succ, i64_w, i32_w]
              rfl
            refine pure_ (i := 4) (N := some 74) (v := ?_) (a' := ?_) #[false, true, true, true, true, false, false, false, false, false, false, false, false] rfl rfl (any_of HT_.out (by kernel_rfl)) (fun _ _ _ h => h) (Or.inl ⟨by rfl, ?_⟩) ?_ ?_
            rotate_left
            · intro w'
              go_simp
              with_reducible rfl
            rotate_left
            · simp only [Act.put, List.setIfInBounds_toArray, List.set_cons_zero, List.set_cons_succ, i64_w, i32_w]
              rfl
            refine pure_ (i := 5) (N := some 75) (v := ?_) (a' := ?_) #[false, true, true, true, true, true, false, false, false, false, false, false, false] rfl rfl (any_of HT_.out (by kernel_rfl)) (fun _ _ _ h => h) (Or.inl ⟨by rfl, ?_⟩) ?_ ?_
            rotate_left
            · intro w'
              go_simp
              with_reducible rfl
            rotate_left
            · simp only [Act.put, List.setIfInBounds_toArray, List.set_cons_zero, List.set_cons_succ, i64_w, i32_w]
              rfl
            refine take_ (i := 0) (N := some 70) (v := ?_) (a' := ?_) #[true, true, true, true, true, true, false, false, false, false, false, false, false] rfl rfl (take_ofW HT_.out HW_.out (by kernel_rfl)) (fun _ _ _ h => h) (Or.inl ⟨by rfl, ?_⟩) hHeld ?_ ?_
            rotate_left
            · rintro w' ⟨s0, s1, s2, s3, s4, s5, s6, s7, s8, s9, s10, s11, s12, s13, s14, s15, s16, s17, s18⟩
              go_simp
              with_reducible rfl
            rotate_left
            · simp only [Act.put, List.setIfInBounds_toArray, List.set_cons_zero, List.set_cons_succ, i64_w, i32_w]
              rfl
            refine take_ (i := 6) (N := some 76) (v := ?_) (a' := ?_) #[true, true, true, true, true, true, true, false, false, false, false, false, false] rfl rfl (take_ofW HT_.out HW_.out (by kernel_rfl)) (fun _ _ _ h => h) (Or.inl ⟨by rfl, ?_⟩) hHeld ?_ ?_
            rotate_left
            · rintro w' ⟨s0, s1, s2, s3, s4, s5, s6, s7, s8, s9, s10, s11, s12, s13, s14, s15, s16, s17, s18⟩
              go_simp
              with_reducible rfl
            rotate_left
            · simp only [Act.put, List.setIfInBounds_toArray, List.set_cons_zero, List.set_cons_succ, i64_w, i32_w]
              rfl
            refine one_ (i := 7) (N := some 77) #[true, true, true, true, true, true, true, true, false, false, false, false, false] rfl rfl (one_of HT_.out (by kernel_rfl)) (by decide) (fun K hK => ?_)
            refine goes_ Try.func40 (by kernel_rfl) rfl #[.int .i64 a0_4, .int .i64 a2, .int .i64 0, .int .i64 a1_0, .bool a1_4] (by rfl) rfl rfl (by (try simp only [List.map_toArray, List.map_cons, List.map_nil]); first | done | rfl | (simp only [List.length_drop, List.length_take]; rfl)) ?_
            with_reducible refine (cycle_Begin.calls a0_4 a2 0 a1_0 a1_4 t275 t276 t277 t278 t279 t280 t281 t282 _ A99.out).mono ?_
            rintro e w108 ⟨rfl, hb⟩
            refine ⟨_, rfl, ?_⟩
            have n0_ := Aside0.mk (Kd.R_below (by (with_reducible repeat (first | apply Kd.R_alloc | apply Kd.R_drewN | apply Kd.R_drew)); exact HO_199007.out) hb)
            have n1_ := Aside0.mk (blk_below (g := gb198) (o := .cells #[.int .u8 a0_0, .int .i64 a0_1, .int .i64 a0_2, .int .i64 a0_3, .int .i64 (wrap64 (a0_4 + 1)), .int .i64 (wrap64 (-t273)), .bool a0_6, .slice Ao6 l0_7.length co6, .int .i64 a0_8, .int .i64 a0_9, .int .i64 a0_10, .int .i64 a0_11, .int .i64 a0_12] 31 (0, 0)) (by (with_reducible repeat (first | refine blk_drewN ?_ _ | refine blk_drew ?_ | refine blk_alloc ?_ _)); exact BK198.out) hb)
            have n2_ := Aside0.mk (blk_below (g := gb199) (o := .cells #[.int .i64 a1_0, .int .u8 a1_1, .int .i64 a1_2, .int .i64 a1_3, .bool a1_4, .bool a1_5] 25 (0, 0)) (by (with_reducible repeat (first | refine blk_drewN ?_ _ | refine blk_drew ?_ | refine blk_alloc ?_ _)); exact BK199.out) hb)
            have n3_ := Aside0.mk (blk_below (g := gb200) (o := .cells #[.int .u8 0, .int .i64 0, .int .i64 0, .int .i64 0, .int .i64 0, .int .i64 0, .bool false, .slice none 0 0, .int .i64 0, .int .i64 0, .int .i64 0, .int .i64 0, .int .i64 0] 31 (0, 0)) (by (with_reducible repeat (first | refine blk_drewN ?_ _ | refine blk_drew ?_ | refine blk_alloc ?_ _)); exact BK200.out) hb)
            have n4_ := Aside0.mk (Kept.below (S := (fun k_ => P0_7_ k_)) (by repeat (first | (with_reducible first | exact HK.out | apply Kept.alloc | apply Kept.drewN | apply Kept.drew | refine Kept.setCell ?_ (.inr GW198.out) _ | refine Kept.setCell ?_ (.inr GW199.out) _ | refine Kept.setCell ?_ (.inr GW200.out) _) | exact HK.out)) hb)
            have n5_ := Aside0.mk (below_step (by repeat (first | (with_reducible first | exact HB.out | apply below_alloc | apply pw_below_drewN | apply below_drew1 | refine below_set ?_ GE198.out | refine below_set ?_ GE199.out | refine below_set ?_ GE200.out) | exact HB.out)) hb)
            clear HO_199007
            clear BK198
            clear BK199
            clear BK200
            clear HK
            clear HB
            have HO_199007 := n0_
            have BK198 := n1_
            have BK199 := n2_
            have BK200 := n3_
            have HK := n4_
            have HB := n5_
            clear n0_ n1_ n2_ n3_ n4_ n5_
            (try clear hb)
            (try clear hb2)
            (try clear hk)
            (try clear hi)
            refine hK.out _ _ ⟨(blk_cell BK198.out 0).trans rfl, (blk_cell BK198.out 1).trans rfl, (blk_cell BK198.out 2).trans rfl, (blk_cell BK198.out 3).trans rfl, (blk_cell BK198.out 4).trans rfl, (blk_cell BK198.out 5).trans rfl, (blk_cell BK198.out 6).trans rfl, (blk_cell BK198.out 7).trans rfl, (blk_cell BK198.out 8).trans rfl, (blk_cell BK198.out 9).trans rfl, (blk_cell BK198.out 10).trans rfl, (blk_cell BK198.out 11).trans rfl, (blk_cell BK198.out 12).trans rfl, (blk_cell BK199.out 0).trans rfl, (blk_cell BK199.out 1).trans rfl, (blk_cell BK199.out 2).trans rfl, (blk_cell BK199.out 3).trans rfl, (blk_cell BK199.out 4).trans rfl, (blk_cell BK199.out 5).trans rfl⟩ (fun hHeld => ?_)
            clear hK K
            refine norm_ (a' := ?_) ?_ ?_
            rotate_left
            · show Act.put _ (some 77) _ = _
              simp only [Act.put, List.setIfInBounds_toArray, List.set_cons_zero, List.set_cons_succ, i64_w, i32_w]
              rfl
            refine one_ (i := 8) (N := some 78) #[true, true, true, true, true, true, true, true, true, false, false, false, false] rfl rfl (one_of HT_.out (by kernel_rfl)) (by decide) (fun K hK => ?_)
            refine goes_ Try.func37 (by kernel_rfl) rfl #[.agg #[.int .u8 a0_0, .int .i64 a0_1, .int .i64 a0_2, .int .i64 a0_3, .int .i64 (wrap64 (a0_4 + 1)), .int .i64 (wrap64 (-t273)), .bool a0_6, .slice Ao6 l0_7.length co6, .int .i64 a0_8, .int .i64 a0_9, .int .i64 a0_10, .int .i64 a0_11, .int .i64 a0_12], .agg #[.int .i64 t275, .int .i64 t276, .int .u8 t277, .int .i64 t278, .int .i64 t279, .int .i64 t280, .int .i64 t281, .bool t282]] (by rfl) rfl rfl (by (try simp only [List.map_toArray, List.map_cons, List.map_nil]); first | done | rfl | (simp only [List.length_drop, List.length_take]; rfl)) ?_
            with_reducible refine (account_close.calls a0_0 a0_1 a0_2 a0_3 (wrap64 (a0_4 + 1)) (wrap64 (-t273)) a0_6 (fun k_ => some k_ = (.slice Ao6 l0_7.length co6 : Value).ownBlock) (.slice Ao6 l0_7.length co6) l0_7 a0_8 a0_9 a0_10 a0_11 a0_12 t275 t276 t277 t278 t279 t280 t281 t282 t283 t284 t285 t286 t287 t288 t289 t290 t293 t294 t295 t296 t297 t298 w0 _ ?side1 ?side2 A100.out).mono ?_
            (case side1 => repeat (first | (with_reducible first | exact HB.out | apply below_alloc | apply pw_below_drewN | apply below_drew1 | refine below_set ?_ GE198.out | refine below_set ?_ GE199.out | refine below_set ?_ GE200.out) | exact HB.out))
            (case side2 => exact Kd.R_tight rfl HO_199007.out)
            rintro e w109 ⟨v291, rfl, ho0, hb, hkp⟩
            refine ⟨_, rfl, ?_⟩
            have n0_ := Aside0.mk (blk_kept (by (with_reducible repeat (first | refine blk_drewN ?_ _ | refine blk_drew ?_ | refine blk_alloc ?_ _)); exact BK198.out) hkp (fun hs_ => (fun e_ => (Kd.R_ne HO_199007.out BK198.out (by decide)) e_) hs_))
            have n1_ := Aside0.mk (blk_kept (by (with_reducible repeat (first | refine blk_drewN ?_ _ | refine blk_drew ?_ | refine blk_alloc ?_ _)); exact BK199.out) hkp (fun hs_ => (fun e_ => (Kd.R_ne HO_199007.out BK199.out (by decide)) e_) hs_))
            have n2_ := Aside0.mk (blk_kept (by (with_reducible repeat (first | refine blk_drewN ?_ _ | refine blk_drew ?_ | refine blk_alloc ?_ _)); exact BK200.out) hkp (fun hs_ => (fun e_ => (Kd.R_ne HO_199007.out BK200.out (by decide)) e_) hs_))
            have n3_ := Aside0.mk (Kd.R_mono (ok' := fun k_ => (P0_7_ k_ ∨ w.heap.size ≤ k_)) ho0 (fun k_ hk_ => Or.elim hk_ (fun hs_ => (HO_199007.out.1 k_ (hs_).symm)) (fun hn_ => (.inr (Nat.le_trans (by first | exact HK.out.1 | exact (show Kept w _ (fun k_ => P0_7_ k_) from by repeat (first | (with_reducible first | exact HK.out | apply Kept.alloc | apply Kept.drewN | apply Kept.drew | refine Kept.setCell ?_ (.inr GW198.out) _ | refine Kept.setCell ?_ (.inr GW199.out) _ | refine Kept.setCell ?_ (.inr GW200.out) _) | exact HK.out)).1) hn_)))))
            have n4_ := Aside0.mk (Kept.then_ (S := (fun k_ => P0_7_ k_)) (by repeat (first | (with_reducible first | exact HK.out | apply Kept.alloc | apply Kept.drewN | apply Kept.drew | refine Kept.setCell ?_ (.inr GW198.out) _ | refine Kept.setCell ?_ (.inr GW199.out) _ | refine Kept.setCell ?_ (.inr GW200.out) _) | exact HK.out)) hkp (fun k_ hs_ => (fun e_ => (HO_199007.out.1 k_ e_.symm)) hs_))
            have n5_ := Aside0.mk (hb)
            clear BK198
            clear BK199
            clear BK200
            clear HK
            clear HB
            clear HO_199007
            have BK198 := n0_
            have BK199 := n1_
            have BK200 := n2_
            have HO292 := n3_
            have HK := n4_
            have HB := n5_
            clear n0_ n1_ n2_ n3_ n4_ n5_
            (try clear hb)
            (try clear hkp)
            (try clear ho0)
            obtain ⟨Ao117, co117, eo117⟩ := Kd.R_slice HO292.out
            (first | subst eo117 | (injection eo117 with f1_ f2_ f3_; have f4_ := f1_.symm; have f5_ := f3_.symm; clear f1_ f2_ f3_; subst f4_; subst f5_))
            refine hK.out _ _ ⟨(blk_cell BK198.out 0).trans rfl, (blk_cell BK198.out 1).trans rfl, (blk_cell BK198.out 2).trans rfl, (blk_cell BK198.out 3).trans rfl, (blk_cell BK198.out 4).trans rfl, (blk_cell BK198.out 5).trans rfl, (blk_cell BK198.out 6).trans rfl, (blk_cell BK198.out 7).trans rfl, (blk_cell BK198.out 8).trans rfl, (blk_cell BK198.out 9).trans rfl, (blk_cell BK198.out 10).trans rfl, (blk_cell BK198.out 11).trans rfl, (blk_cell BK198.out 12).trans rfl, (blk_cell BK199.out 0).trans rfl, (blk_cell BK199.out 1).trans rfl, (blk_cell BK199.out 2).trans rfl, (blk_cell BK199.out 3).trans rfl, (blk_cell BK199.out 4).trans rfl, (blk_cell BK199.out 5).trans rfl⟩ (fun hHeld => ?_)
            clear hK K
            refine norm_ (a' := ?_) ?_ ?_
            rotate_left
            · show Act.put _ (some 78) _ = _
              simp only [Act.put, List.setIfInBounds_toArray, List.set_cons_zero, List.set_cons_succ, i64_w, i32_w]
              rfl
            refine pure_ (i := 9) (N := some 79) (v := ?_) (a' := ?_) #[true, true, true, true, true, true, true, true, true, true, false, false, false] rfl rfl (any_of HT_.out (by kernel_rfl)) (fun _ _ _ h => h) (Or.inl ⟨by rfl, ?_⟩) ?_ ?_
            rotate_left
            · intro w'
              go_simp
              with_reducible rfl
            rotate_left
            · simp only [Act.put, List.setIfInBounds_toArray, List.set_cons_zero, List.set_cons_succ, i64_w, i32_w]
              rfl
            refine pure_ (i := 10) (N := some 80) (v := ?_) (a' := ?_) #[true, true, true, true, true, true, true, true, true, true, true, false, false] rfl rfl (any_of HT_.out (by kernel_rfl)) (fun _ _ _ h => h) (Or.inl ⟨by rfl, ?_⟩) ?_ ?_
            rotate_left
            · intro w'
              go_simp
              with_reducible rfl
            rotate_left
            · simp only [Act.put, List.setIfInBounds_toArray, List.set_cons_zero, List.set_cons_succ, i64_w, i32_w]
              rfl
            refine one_ (i := 11) (N := none) #[true, true, true, true, true, true, true, true, true, true, true, true, false] rfl rfl (one_of HT_.out (by kernel_rfl)) (by decide) (fun K hK => ?_)
            have hs110 : w109.cell? ⟨gb200, 0, none⟩ = some (.int .u8 0) := (blk_cell BK200.out 0).trans rfl
            have hfs110 := blk_frozen BK200.out 0
            have hns110_0 := NB198_200.out
            have hns110_1 := NB199_200.out
            have hms110_0 := NB200_198.out
            have hms110_1 := NB200_199.out
            have hs111 : w109.cell? ⟨gb200, 1, none⟩ = some (.int .i64 0) := (blk_cell BK200.out 1).trans rfl
            have hfs111 := blk_frozen BK200.out 1
            have hns111_0 := NB198_200.out
            have hns111_1 := NB199_200.out
            have hms111_0 := NB200_198.out
            have hms111_1 := NB200_199.out
            have hs112 : w109.cell? ⟨gb200, 2, none⟩ = some (.int .i64 0) := (blk_cell BK200.out 2).trans rfl
            have hfs112 := blk_frozen BK200.out 2
            have hns112_0 := NB198_200.out
            have hns112_1 := NB199_200.out
            have hms112_0 := NB200_198.out
            have hms112_1 := NB200_199.out
            have hs113 : w109.cell? ⟨gb200, 3, none⟩ = some (.int .i64 0) := (blk_cell BK200.out 3).trans rfl
            have hfs113 := blk_frozen BK200.out 3
            have hns113_0 := NB198_200.out
            have hns113_1 := NB199_200.out
            have hms113_0 := NB200_198.out
            have hms113_1 := NB200_199.out
            have hs114 : w109.cell? ⟨gb200, 4, none⟩ = some (.int .i64 0) := (blk_cell BK200.out 4).trans rfl
            have hfs114 := blk_frozen BK200.out 4
            have hns114_0 := NB198_200.out
            have hns114_1 := NB199_200.out
            have hms114_0 := NB200_198.out
            have hms114_1 := NB200_199.out
            have hs115 : w109.cell? ⟨gb200, 5, none⟩ = some (.int .i64 0) := (blk_cell BK200.out 5).trans rfl
            have hfs115 := blk_frozen BK200.out 5
            have hns115_0 := NB198_200.out
            have hns115_1 := NB199_200.out
            have hms115_0 := NB200_198.out
            have hms115_1 := NB200_199.out
            have hs116 : w109.cell? ⟨gb200, 6, none⟩ = some (.bool false) := (blk_cell BK200.out 6).trans rfl
            have hfs116 := blk_frozen BK200.out 6
            have hns116_0 := NB198_200.out
            have hns116_1 := NB199_200.out
            have hms116_0 := NB200_198.out
            have hms116_1 := NB200_199.out
            have hs118 : w109.cell? ⟨gb200, 7, none⟩ = some (.slice none 0 0) := (blk_cell BK200.out 7).trans rfl
            have hfs118 := blk_frozen BK200.out 7
            have hns118_0 := NB198_200.out
            have hns118_1 := NB199_200.out
            have hms118_0 := NB200_198.out
            have hms118_1 := NB200_199.out
            have hs119 : w109.cell? ⟨gb200, 8, none⟩ = some (.int .i64 0) := (blk_cell BK200.out 8).trans rfl
            have hfs119 := blk_frozen BK200.out 8
            have hns119_0 := NB198_200.out
            have hns119_1 := NB199_200.out
            have hms119_0 := NB200_198.out
            have hms119_1 := NB200_199.out
            have hs120 : w109.cell? ⟨gb200, 9, none⟩ = some (.int .i64 0) := (blk_cell BK200.out 9).trans rfl
            have hfs120 := blk_frozen BK200.out 9
            have hns120_0 := NB198_200.out
            have hns120_1 := NB199_200.out
            have hms120_0 := NB200_198.out
            have hms120_1 := NB200_199.out
            have hs121 : w109.cell? ⟨gb200, 10, none⟩ = some (.int .i64 0) := (blk_cell BK200.out 10).trans rfl
            have hfs121 := blk_frozen BK200.out 10
            have hns121_0 := NB198_200.out
            have hns121_1 := NB199_200.out
            have hms121_0 := NB200_198.out
            have hms121_1 := NB200_199.out
            have hs122 : w109.cell? ⟨gb200, 11, none⟩ = some (.int .i64 0) := (blk_cell BK200.out 11).trans rfl
            have hfs122 := blk_frozen BK200.out 11
            have hns122_0 := NB198_200.out
            have hns122_1 := NB199_200.out
            have hms122_0 := NB200_198.out
            have hms122_1 := NB200_199.out
            have hs123 : w109.cell? ⟨gb200, 12, none⟩ = some (.int .i64 0) := (blk_cell BK200.out 12).trans rfl
            have hfs123 := blk_frozen BK200.out 12
            have hns123_0 := NB198_200.out
            have hns123_1 := NB199_200.out
            have hms123_0 := NB200_198.out
            have hms123_1 := NB200_199.out
            refine skip_ (w1 := ?_) (by rfl) rfl ?_ ?_
            rotate_left
            · go_simp
              rfl
            refine hK.out _ _ ⟨((cf_account_begin gb200 NB198_200.out _).trans (((cf_account_begin gb200 NB198_200.out _).trans (((cf_account_begin gb200 NB198_200.out _).trans (((cf_account_begin gb200 NB198_200.out _).trans (((cf_account_begin gb200 NB198_200.out _).trans (((cf_account_begin gb200 NB198_200.out _).trans (((cf_account_begin gb200 NB198_200.out _).trans (((cf_account_begin gb200 NB198_200.out _).trans (((cf_account_begin gb200 NB198_200.out _).trans (((cf_account_begin gb200 NB198_200.out _).trans (((cf_account_begin gb200 NB198_200.out _).trans (((cf_account_begin gb200 NB198_200.out _).trans (((cf_account_begin gb200 NB198_200.out _).trans (hHeld.1)))))))))))))))))))))))))), ((cf_account_begin gb200 NB198_200.out _).trans (((cf_account_begin gb200 NB198_200.out _).trans (((cf_account_begin gb200 NB198_200.out _).trans (((cf_account_begin gb200 NB198_200.out _).trans (((cf_account_begin gb200 NB198_200.out _).trans (((cf_account_begin gb200 NB198_200.out _).trans (((cf_account_begin gb200 NB198_200.out _).trans (((cf_account_begin gb200 NB198_200.out _).trans (((cf_account_begin gb200 NB198_200.out _).trans (((cf_account_begin gb200 NB198_200.out _).trans (((cf_account_begin gb200 NB198_200.out _).trans (((cf_account_begin gb200 NB198_200.out _).trans (((cf_account_begin gb200 NB198_200.out _).trans (hHeld.2.1)))))))))))))))))))))))))), ((cf_account_begin gb200 NB198_200.out _).trans (((cf_account_begin gb200 NB198_200.out _).trans (((cf_account_begin gb200 NB198_200.out _).trans (((cf_account_begin gb200 NB198_200.out _).trans (((cf_account_begin gb200 NB198_200.out _).trans (((cf_account_begin gb200 NB198_200.out _).trans (((cf_account_begin gb200 NB198_200.out _).trans (((cf_account_begin gb200 NB198_200.out _).trans (((cf_account_begin gb200 NB198_200.out _).trans (((cf_account_begin gb200 NB198_200.out _).trans (((cf_account_begin gb200 NB198_200.out _).trans (((cf_account_begin gb200 NB198_200.out _).trans (((cf_account_begin gb200 NB198_200.out _).trans (hHeld.2.2.1)))))))))))))))))))))))))), ((cf_account_begin gb200 NB198_200.out _).trans (((cf_account_begin gb200 NB198_200.out _).trans (((cf_account_begin gb200 NB198_200.out _).trans (((cf_account_begin gb200 NB198_200.out _).trans (((cf_account_begin gb200 NB198_200.out _).trans (((cf_account_begin gb200 NB198_200.out _).trans (((cf_account_begin gb200 NB198_200.out _).trans (((cf_account_begin gb200 NB198_200.out _).trans (((cf_account_begin gb200 NB198_200.out _).trans (((cf_account_begin gb200 NB198_200.out _).trans (((cf_account_begin gb200 NB198_200.out _).trans (((cf_account_begin gb200 NB198_200.out _).trans (((cf_account_begin gb200 NB198_200.out _).trans (hHeld.2.2.2.1)))))))))))))))))))))))))), ((cf_account_begin gb200 NB198_200.out _).trans (((cf_account_begin gb200 NB198_200.out _).trans (((cf_account_begin gb200 NB198_200.out _).trans (((cf_account_begin gb200 NB198_200.out _).trans (((cf_account_begin gb200 NB198_200.out _).trans (((cf_account_begin gb200 NB198_200.out _).trans (((cf_account_begin gb200 NB198_200.out _).trans (((cf_account_begin gb200 NB198_200.out _).trans (((cf_account_begin gb200 NB198_200.out _).trans (((cf_account_begin gb200 NB198_200.out _).trans (((cf_account_begin gb200 NB198_200.out _).trans (((cf_account_begin gb200 NB198_200.out _).trans (((cf_account_begin gb200 NB198_200.out _).trans (hHeld.2.2.2.2.1)))))))))))))))))))))))))), ((cf_account_begin gb200 NB198_200.out _).trans (((cf_account_begin gb200 NB198_200.out _).trans (((cf_account_begin gb200 NB198_200.out _).trans (((cf_account_begin gb200 NB198_200.out _).trans (((cf_account_begin gb200 NB198_200.out _).trans (((cf_account_begin gb200 NB198_200.out _).trans (((cf_account_begin gb200 NB198_200.out _).trans (((cf_account_begin gb200 NB198_200.out _).trans (((cf_account_begin gb200 NB198_200.out _).trans (((cf_account_begin gb200 NB198_200.out _).trans (((cf_account_begin gb200 NB198_200.out _).trans (((cf_account_begin gb200 NB198_200.out _).trans (((cf_account_begin gb200 NB198_200.out _).trans (hHeld.2.2.2.2.2.1)))))))))))))))))))))))))), ((cf_account_begin gb200 NB198_200.out _).trans (((cf_account_begin gb200 NB198_200.out _).trans (((cf_account_begin gb200 NB198_200.out _).trans (((cf_account_begin gb200 NB198_200.out _).trans (((cf_account_begin gb200 NB198_200.out _).trans (((cf_account_begin gb200 NB198_200.out _).trans (((cf_account_begin gb200 NB198_200.out _).trans (((cf_account_begin gb200 NB198_200.out _).trans (((cf_account_begin gb200 NB198_200.out _).trans (((cf_account_begin gb200 NB198_200.out _).trans (((cf_account_begin gb200 NB198_200.out _).trans (((cf_account_begin gb200 NB198_200.out _).trans (((cf_account_begin gb200 NB198_200.out _).trans (hHeld.2.2.2.2.2.2.1)))))))))))))))))))))))))), ((cf_account_begin gb200 NB198_200.out _).trans (((cf_account_begin gb200 NB198_200.out _).trans (((cf_account_begin gb200 NB198_200.out _).trans (((cf_account_begin gb200 NB198_200.out _).trans (((cf_account_begin gb200 NB198_200.out _).trans (((cf_account_begin gb200 NB198_200.out _).trans (((cf_account_begin gb200 NB198_200.out _).trans (((cf_account_begin gb200 NB198_200.out _).trans (((cf_account_begin gb200 NB198_200.out _).trans (((cf_account_begin gb200 NB198_200.out _).trans (((cf_account_begin gb200 NB198_200.out _).trans (((cf_account_begin gb200 NB198_200.out _).trans (((cf_account_begin gb200 NB198_200.out _).trans (hHeld.2.2.2.2.2.2.2.1)))))))))))))))))))))))))), ((cf_account_begin gb200 NB198_200.out _).trans (((cf_account_begin gb200 NB198_200.out _).trans (((cf_account_begin gb200 NB198_200.out _).trans (((cf_account_begin gb200 NB198_200.out _).trans (((cf_account_begin gb200 NB198_200.out _).trans (((cf_account_begin gb200 NB198_200.out _).trans (((cf_account_begin gb200 NB198_200.out _).trans (((cf_account_begin gb200 NB198_200.out _).trans (((cf_account_begin gb200 NB198_200.out _).trans (((cf_account_begin gb200 NB198_200.out _).trans (((cf_account_begin gb200 NB198_200.out _).trans (((cf_account_begin gb200 NB198_200.out _).trans (((cf_account_begin gb200 NB198_200.out _).trans (hHeld.2.2.2.2.2.2.2.2.1)))))))))))))))))))))))))), ((cf_account_begin gb200 NB198_200.out _).trans (((cf_account_begin gb200 NB198_200.out _).trans (((cf_account_begin gb200 NB198_200.out _).trans (((cf_account_begin gb200 NB198_200.out _).trans (((cf_account_begin gb200 NB198_200.out _).trans (((cf_account_begin gb200 NB198_200.out _).trans (((cf_account_begin gb200 NB198_200.out _).trans (((cf_account_begin gb200 NB198_200.out _).trans (((cf_account_begin gb200 NB198_200.out _).trans (((cf_account_begin gb200 NB198_200.out _).trans (((cf_account_begin gb200 NB198_200.out _).trans (((cf_account_begin gb200 NB198_200.out _).trans (((cf_account_begin gb200 NB198_200.out _).trans (hHeld.2.2.2.2.2.2.2.2.2.1)))))))))))))))))))))))))), ((cf_account_begin gb200 NB198_200.out _).trans (((cf_account_begin gb200 NB198_200.out _).trans (((cf_account_begin gb200 NB198_200.out _).trans (((cf_account_begin gb200 NB198_200.out _).trans (((cf_account_begin gb200 NB198_200.out _).trans (((cf_account_begin gb200 NB198_200.out _).trans (((cf_account_begin gb200 NB198_200.out _).trans (((cf_account_begin gb200 NB198_200.out _).trans (((cf_account_begin gb200 NB198_200.out _).trans (((cf_account_begin gb200 NB198_200.out _).trans (((cf_account_begin gb200 NB198_200.out _).trans (((cf_account_begin gb200 NB198_200.out _).trans (((cf_account_begin gb200 NB198_200.out _).trans (hHeld.2.2.2.2.2.2.2.2.2.2.1)))))))))))))))))))))))))), ((cf_account_begin gb200 NB198_200.out _).trans (((cf_account_begin gb200 NB198_200.out _).trans (((cf_account_begin gb200 NB198_200.out _).trans (((cf_account_begin gb200 NB198_200.out _).trans (((cf_account_begin gb200 NB198_200.out _).trans (((cf_account_begin gb200 NB198_200.out _).trans (((cf_account_begin gb200 NB198_200.out _).trans (((cf_account_begin gb200 NB198_200.out _).trans (((cf_account_begin gb200 NB198_200.out _).trans (((cf_account_begin gb200 NB198_200.out _).trans (((cf_account_begin gb200 NB198_200.out _).trans (((cf_account_begin gb200 NB198_200.out _).trans (((cf_account_begin gb200 NB198_200.out _).trans (hHeld.2.2.2.2.2.2.2.2.2.2.2.1)))))))))))))))))))))))))), ((cf_account_begin gb200 NB198_200.out _).trans (((cf_account_begin gb200 NB198_200.out _).trans (((cf_account_begin gb200 NB198_200.out _).trans (((cf_account_begin gb200 NB198_200.out _).trans (((cf_account_begin gb200 NB198_200.out _).trans (((cf_account_begin gb200 NB198_200.out _).trans (((cf_account_begin gb200 NB198_200.out _).trans (((cf_account_begin gb200 NB198_200.out _).trans (((cf_account_begin gb200 NB198_200.out _).trans (((cf_account_begin gb200 NB198_200.out _).trans (((cf_account_begin gb200 NB198_200.out _).trans (((cf_account_begin gb200 NB198_200.out _).trans (((cf_account_begin gb200 NB198_200.out _).trans (hHeld.2.2.2.2.2.2.2.2.2.2.2.2.1)))))))))))))))))))))))))), ((cf_account_begin gb200 NB199_200.out _).trans (((cf_account_begin gb200 NB199_200.out _).trans (((cf_account_begin gb200 NB199_200.out _).trans (((cf_account_begin gb200 NB199_200.out _).trans (((cf_account_begin gb200 NB199_200.out _).trans (((cf_account_begin gb200 NB199_200.out _).trans (((cf_account_begin gb200 NB199_200.out _).trans (((cf_account_begin gb200 NB199_200.out _).trans (((cf_account_begin gb200 NB199_200.out _).trans (((cf_account_begin gb200 NB199_200.out _).trans (((cf_account_begin gb200 NB199_200.out _).trans (((cf_account_begin gb200 NB199_200.out _).trans (((cf_account_begin gb200 NB199_200.out _).trans (hHeld.2.2.2.2.2.2.2.2.2.2.2.2.2.1)))))))))))))))))))))))))), ((cf_account_begin gb200 NB199_200.out _).trans (((cf_account_begin gb200 NB199_200.out _).trans (((cf_account_begin gb200 NB199_200.out _).trans (((cf_account_begin gb200 NB199_200.out _).trans (((cf_account_begin gb200 NB199_200.out _).trans (((cf_account_begin gb200 NB199_200.out _).trans (((cf_account_begin gb200 NB199_200.out _).trans (((cf_account_begin gb200 NB199_200.out _).trans (((cf_account_begin gb200 NB199_200.out _).trans (((cf_account_begin gb200 NB199_200.out _).trans (((cf_account_begin gb200 NB199_200.out _).trans (((cf_account_begin gb200 NB199_200.out _).trans (((cf_account_begin gb200 NB199_200.out _).trans (hHeld.2.2.2.2.2.2.2.2.2.2.2.2.2.2.1)))))))))))))))))))))))))), ((cf_account_begin gb200 NB199_200.out _).trans (((cf_account_begin gb200 NB199_200.out _).trans (((cf_account_begin gb200 NB199_200.out _).trans (((cf_account_begin gb200 NB199_200.out _).trans (((cf_account_begin gb200 NB199_200.out _).trans (((cf_account_begin gb200 NB199_200.out _).trans (((cf_account_begin gb200 NB199_200.out _).trans (((cf_account_begin gb200 NB199_200.out _).trans (((cf_account_begin gb200 NB199_200.out _).trans (((cf_account_begin gb200 NB199_200.out _).trans (((cf_account_begin gb200 NB199_200.out _).trans (((cf_account_begin gb200 NB199_200.out _).trans (((cf_account_begin gb200 NB199_200.out _).trans (hHeld.2.2.2.2.2.2.2.2.2.2.2.2.2.2.2.1)))))))))))))))))))))))))), ((cf_account_begin gb200 NB199_200.out _).trans (((cf_account_begin gb200 NB199_200.out _).trans (((cf_account_begin gb200 NB199_200.out _).trans (((cf_account_begin gb200 NB199_200.out _).trans (((cf_account_begin gb200 NB199_200.out _).trans (((cf_account_begin gb200 NB199_200.out _).trans (((cf_account_begin gb200 NB199_200.out _).trans (((cf_account_begin gb200 NB199_200.out _).trans (((cf_account_begin gb200 NB199_200.out _).trans (((cf_account_begin gb200 NB199_200.out _).trans (((cf_account_begin gb200 NB199_200.out _).trans (((cf_account_begin gb200 NB199_200.out _).trans (((cf_account_begin gb200 NB199_200.out _).trans (hHeld.2.2.2.2.2.2.2.2.2.2.2.2.2.2.2.2.1)))))))))))))))))))))))))), ((cf_account_begin gb200 NB199_200.out _).trans (((cf_account_begin gb200 NB199_200.out _).trans (((cf_account_begin gb200 NB199_200.out _).trans (((cf_account_begin gb200 NB199_200.out _).trans (((cf_account_begin gb200 NB199_200.out _).trans (((cf_account_begin gb200 NB199_200.out _).trans (((cf_account_begin gb200 NB199_200.out _).trans (((cf_account_begin gb200 NB199_200.out _).trans (((cf_account_begin gb200 NB199_200.out _).trans (((cf_account_begin gb200 NB199_200.out _).trans (((cf_account_begin gb200 NB199_200.out _).trans (((cf_account_begin gb200 NB199_200.out _).trans (((cf_account_begin gb200 NB199_200.out _).trans (hHeld.2.2.2.2.2.2.2.2.2.2.2.2.2.2.2.2.2.1)))))))))))))))))))))))))), ((cf_account_begin gb200 NB199_200.out _).trans (((cf_account_begin gb200 NB199_200.out _).trans (((cf_account_begin gb200 NB199_200.out _).trans (((cf_account_begin gb200 NB199_200.out _).trans (((cf_account_begin gb200 NB199_200.out _).trans (((cf_account_begin gb200 NB199_200.out _).trans (((cf_account_begin gb200 NB199_200.out _).trans (((cf_account_begin gb200 NB199_200.out _).trans (((cf_account_begin gb200 NB199_200.out _).trans (((cf_account_begin gb200 NB199_200.out _).trans (((cf_account_begin gb200 NB199_200.out _).trans (((cf_account_begin gb200 NB199_200.out _).trans (((cf_account_begin gb200 NB199_200.out _).trans (hHeld.2.2.2.2.2.2.2.2.2.2.2.2.2.2.2.2.2.2))))))))))))))))))))))))))⟩ (fun hHeld => ?_)
            clear hK K
            refine pure_ (i := 12) (N := some 9) (v := ?_) (a' := ?_) #[true, true, true, true, true, true, true, true, true, true, true, true, true] rfl rfl (any_of HT_.out (by kernel_rfl)) (fun _ _ _ h => h) (Or.inl ⟨by rfl, ?_⟩) ?_ ?_
            rotate_left
            · intro w'
              go_simp
              with_reducible rfl
            rotate_left
            · simp only [Act.put, List.setIfInBounds_toArray, List.set_cons_zero, List.set_cons_succ, i64_w, i32_w]
              rfl
            refine done_ (done_of HT_.out (by kernel_rfl)) ?_
            try go_wp2
            refine bodyPost_ret (results_ct rfl _ _ gb200 31 #[.int .u8 t283, .int .i64 t284, .int .i64 t285, .int .i64 t286, .int .i64 t287, .int .i64 t288, .bool t289, .slice Ao117 t290.length co117, .int .i64 t293, .int .i64 t294, .int .i64 t295, .int .i64 t296, .int .i64 t297] (0, 0) _ rfl (by (with_reducible repeat (first | refine blk_drewN ?_ _ | refine blk_drew ?_ | refine blk_alloc ?_ _)); refine bp13 (.int .u8 0) (.int .i64 0) (.int .i64 0) (.int .i64 0) (.int .i64 0) (.int .i64 0) (.bool false) (.slice none 0 0) (.int .i64 0) (.int .i64 0) (.int .i64 0) (.int .i64 0) (.int .i64 0) ?_; (with_reducible repeat (first | refine blk_drewN ?_ _ | refine blk_drew ?_ | refine blk_alloc ?_ _)); exact BK200.out) Try.underlying31 rfl (by kernel_rfl)) rfl ?_
            exact ⟨_, by first | rfl | (simp [errW_none, errW_some] <;> rfl) | (simp [*, errW_none, errW_some] <;> rfl), by (with_reducible repeat (first | apply Kd.R_alloc | apply Kd.R_drewN | apply Kd.R_drew)); exact Kd.R_mono (Kd.R_step (Kd.R_types HO292.out BK200.out (by decide)) (fun _ hk _ => by (with_reducible repeat (first | refine (hst (g := gb200) hk.2 _ _).trans ?_ | refine (hdn _ _ _).trans ?_ | refine (hd1 _ _).trans ?_)); rfl)) (fun _ hk => hk.1), by repeat (first | (with_reducible first | exact HB.out | apply below_alloc | apply pw_below_drewN | apply below_drew1 | refine below_set ?_ GE198.out | refine below_set ?_ GE199.out | refine below_set ?_ GE200.out) | exact HB.out), by repeat (first | (with_reducible first | exact HK.out | apply Kept.alloc | apply Kept.drewN | apply Kept.drew | refine Kept.setCell ?_ (.inr GW198.out) _ | refine Kept.setCell ?_ (.inr GW199.out) _ | refine Kept.setCell ?_ (.inr GW200.out) _) | exact HK.out)⟩
          · rw [if_neg c98] at H
            have c98b0 : decide (t273 < 0) = false := decide_eq_false c98
            clear c98
            replace H := Option.bind_eq_some_iff.mp H
            obtain ⟨⟨t299, t300, t301, t302, t303, t304, t305, t306⟩, A1240, H⟩ := H
            replace H : ((account_close.f a0_0 a0_1 a0_2 a0_3 (wrap64 (a0_4 + 1)) 0 a0_6 l0_7 a0_8 a0_9 a0_10 a0_11 a0_12 t299 t300 t301 t302 t303 t304 t305 t306).bind fun bt307 => (some (bt307.1, bt307.2.1, bt307.2.2.1, bt307.2.2.2.1, bt307.2.2.2.2.1, bt307.2.2.2.2.2.1, bt307.2.2.2.2.2.2.1, bt307.2.2.2.2.2.2.2.1, bt307.2.2.2.2.2.2.2.2.1, bt307.2.2.2.2.2.2.2.2.2.1, bt307.2.2.2.2.2.2.2.2.2.2.1, bt307.2.2.2.2.2.2.2.2.2.2.2.1, bt307.2.2.2.2.2.2.2.2.2.2.2.2.1, bt307.2.2.2.2.2.2.2.2.2.2.2.2.2))) = some (r1, r2, r3, r4, r5, r6, r7, r8, r9, r10, r11, r12, r13, r14) := H
            have A124 := Aside0.mk A1240
            clear A1240
            replace H := Option.bind_eq_some_iff.mp H
            obtain ⟨⟨t307, t308, t309, t310, t311, t312, t313, t314, t317, t318, t319, t320, t321, t322⟩, A1250, H⟩ := H
            replace H : (some (t307, t308, t309, t310, t311, t312, t313, t314, t317, t318, t319, t320, t321, t322)) = some (r1, r2, r3, r4, r5, r6, r7, r8, r9, r10, r11, r12, r13, r14) := H
            have A125 := Aside0.mk A1250
            clear A1250
            simp only [Option.some.injEq, Prod.mk.injEq] at H
            obtain ⟨rfl, rfl, rfl, rfl, rfl, rfl, rfl, rfl, rfl, rfl, rfl, rfl, rfl, rfl⟩ := H
            have hnb126 := NB199_198.out
            have hnc126 := NB198_199.out
            have hnb127 := NB199_200.out
            have hnc127 := NB200_199.out
            obtain ⟨hcz128_0, hcz128_1, hcz128_2, hcz128_3, hcz128_4, hcz128_5⟩ := bc6 BK199.out
            obtain ⟨hfz128_0, hfz128_1, hfz128_2, hfz128_3, hfz128_4, hfz128_5⟩ := bf6 BK199.out
            have hnb129 := NB198_200.out
            have hnc129 := NB200_198.out
            obtain ⟨hcz130_0, hcz130_1, hcz130_2, hcz130_3, hcz130_4, hcz130_5, hcz130_6, hcz130_7, hcz130_8, hcz130_9, hcz130_10, hcz130_11, hcz130_12⟩ := bc13 BK198.out
            obtain ⟨hfz130_0, hfz130_1, hfz130_2, hfz130_3, hfz130_4, hfz130_5, hfz130_6, hfz130_7, hfz130_8, hfz130_9, hfz130_10, hfz130_11, hfz130_12⟩ := bf13 BK198.out
            try go_wp2_with (first | ((with_reducible refine gate_callee (f := 39) rfl ?_); refine goesL_ (some 53) rfl rfl Try.func39 (by kernel_rfl) rfl #[.int .i64 a1_0, .int .i64 a0_5] rfl (by (try simp only [List.map_toArray, List.map_cons, List.map_nil]); first | done | rfl | (simp only [List.length_drop, List.length_take]; rfl)) ?_; (with_reducible refine (purse_Less.calls a1_0 a0_5 t273 t274 _ A96.out).mono ?_); rintro e w' ⟨rfl, ⟨nd, rfl⟩⟩; refine ⟨_, rfl, ?_⟩; (try (rw [drewN_self wc]; generalize hq_ : World.drewN wc _ = wc; have n0_ : Aside0 (Kd.R k37 37 wc w0.heap.size (fun k_ => (P0_7_ k_ ∨ w.heap.size ≤ k_)) (.slice Ao6 l0_7.length co6) l0_7) := ⟨by rw [← hq_]; exact (by (with_reducible repeat (first | apply Kd.R_alloc | apply Kd.R_drewN | apply Kd.R_drew)); exact HO_199007.out)⟩; have n1_ : Aside0 (wc.heap[gb198]? = some (.cells #[.int .u8 a0_0, .int .i64 a0_1, .int .i64 a0_2, .int .i64 a0_3, .int .i64 (wrap64 (a0_4 + 1)), .int .i64 a0_5, .bool a0_6, .slice Ao6 l0_7.length co6, .int .i64 a0_8, .int .i64 a0_9, .int .i64 a0_10, .int .i64 a0_11, .int .i64 a0_12] 31 (0, 0))) := ⟨by rw [← hq_]; exact (by (with_reducible repeat (first | refine blk_drewN ?_ _ | refine blk_drew ?_ | refine blk_alloc ?_ _)); exact BK198.out)⟩; have n2_ : Aside0 (wc.heap[gb199]? = some (.cells #[.int .i64 a1_0, .int .u8 a1_1, .int .i64 a1_2, .int .i64 a1_3, .bool a1_4, .bool a1_5] 25 (0, 0))) := ⟨by rw [← hq_]; exact (by (with_reducible repeat (first | refine blk_drewN ?_ _ | refine blk_drew ?_ | refine blk_alloc ?_ _)); exact BK199.out)⟩; have n3_ : Aside0 (wc.heap[gb200]? = some (.cells #[.int .u8 0, .int .i64 0, .int .i64 0, .int .i64 0, .int .i64 0, .int .i64 0, .bool false, .slice none 0 0, .int .i64 0, .int .i64 0, .int .i64 0, .int .i64 0, .int .i64 0] 31 (0, 0))) := ⟨by rw [← hq_]; exact (by (with_reducible repeat (first | refine blk_drewN ?_ _ | refine blk_drew ?_ | refine blk_alloc ?_ _)); exact BK200.out)⟩; have n4_ : Aside0 (Kept w wc (fun k_ => P0_7_ k_)) := ⟨by rw [← hq_]; exact (by repeat (first | (with_reducible first | exact HK.out | apply Kept.alloc | apply Kept.drewN | apply Kept.drew | refine Kept.setCell ?_ (.inr GW198.out) _ | refine Kept.setCell ?_ (.inr GW199.out) _ | refine Kept.setCell ?_ (.inr GW200.out) _) | exact HK.out))⟩; have n5_ : Aside0 (Below w0.heap.size w0 wc) := ⟨by rw [← hq_]; exact (by repeat (first | (with_reducible first | exact HB.out | apply below_alloc | apply pw_below_drewN | apply below_drew1 | refine below_set ?_ GE198.out | refine below_set ?_ GE199.out | refine below_set ?_ GE200.out) | exact HB.out))⟩; clear HO_199007 BK198 BK199 BK200 HK HB hq_; have HO_199007 := n0_; have BK198 := n1_; have BK199 := n2_; have BK200 := n3_; have HK := n4_; have HB := n5_; clear n0_ n1_ n2_ n3_ n4_ n5_; obtain ⟨hcz128_0, hcz128_1, hcz128_2, hcz128_3, hcz128_4, hcz128_5⟩ := bc6 BK199.out; obtain ⟨hfz128_0, hfz128_1, hfz128_2, hfz128_3, hfz128_4, hfz128_5⟩ := bf6 BK199.out; obtain ⟨hcz130_0, hcz130_1, hcz130_2, hcz130_3, hcz130_4, hcz130_5, hcz130_6, hcz130_7, hcz130_8, hcz130_9, hcz130_10, hcz130_11, hcz130_12⟩ := bc13 BK198.out; obtain ⟨hfz130_0, hfz130_1, hfz130_2, hfz130_3, hfz130_4, hfz130_5, hfz130_6, hfz130_7, hfz130_8, hfz130_9, hfz130_10, hfz130_11, hfz130_12⟩ := bf13 BK198.out))))
            have n0_ : Aside0 (Kd.R k37 37 (wc.setCell ⟨gb198, 5, none⟩ (.int .i64 0)) w0.heap.size (fun k_ => (P0_7_ k_ ∨ w.heap.size ≤ k_)) (.slice Ao6 l0_7.length co6) l0_7) := ⟨by (with_reducible repeat (first | apply Kd.R_alloc | apply Kd.R_drewN | apply Kd.R_drew)); exact Kd.R_mono (Kd.R_step (Kd.R_types HO_199007.out BK198.out (by decide)) (fun _ hk _ => by (with_reducible repeat (first | refine (hst (g := gb198) hk.2 _ _).trans ?_ | refine (hdn _ _ _).trans ?_ | refine (hd1 _ _).trans ?_)); rfl)) (fun _ hk => hk.1)⟩
            have n1_ : Aside0 ((wc.setCell ⟨gb198, 5, none⟩ (.int .i64 0)).heap[gb198]? = some (.cells #[.int .u8 a0_0, .int .i64 a0_1, .int .i64 a0_2, .int .i64 a0_3, .int .i64 (wrap64 (a0_4 + 1)), .int .i64 0, .bool a0_6, .slice Ao6 l0_7.length co6, .int .i64 a0_8, .int .i64 a0_9, .int .i64 a0_10, .int .i64 a0_11, .int .i64 a0_12] 31 (0, 0))) := ⟨by (with_reducible repeat (first | refine blk_drewN ?_ _ | refine blk_drew ?_ | refine blk_alloc ?_ _)); refine blk_put (cs := #[.int .u8 a0_0, .int .i64 a0_1, .int .i64 a0_2, .int .i64 a0_3, .int .i64 (wrap64 (a0_4 + 1)), .int .i64 a0_5, .bool a0_6, .slice Ao6 l0_7.length co6, .int .i64 a0_8, .int .i64 a0_9, .int .i64 a0_10, .int .i64 a0_11, .int .i64 a0_12]) ?_ 5 _ rfl; (with_reducible repeat (first | refine blk_drewN ?_ _ | refine blk_drew ?_ | refine blk_alloc ?_ _)); exact BK198.out⟩
            have n2_ : Aside0 ((wc.setCell ⟨gb198, 5, none⟩ (.int .i64 0)).heap[gb199]? = some (.cells #[.int .i64 a1_0, .int .u8 a1_1, .int .i64 a1_2, .int .i64 a1_3, .bool a1_4, .bool a1_5] 25 (0, 0))) := ⟨by (with_reducible repeat (first | refine blk_drewN ?_ _ | refine blk_drew ?_ | refine blk_alloc ?_ _)); refine blk_far ?_ NB199_198.out _; (with_reducible repeat (first | refine blk_drewN ?_ _ | refine blk_drew ?_ | refine blk_alloc ?_ _)); exact BK199.out⟩
            have n3_ : Aside0 ((wc.setCell ⟨gb198, 5, none⟩ (.int .i64 0)).heap[gb200]? = some (.cells #[.int .u8 0, .int .i64 0, .int .i64 0, .int .i64 0, .int .i64 0, .int .i64 0, .bool false, .slice none 0 0, .int .i64 0, .int .i64 0, .int .i64 0, .int .i64 0, .int .i64 0] 31 (0, 0))) := ⟨by (with_reducible repeat (first | refine blk_drewN ?_ _ | refine blk_drew ?_ | refine blk_alloc ?_ _)); refine blk_far ?_ NB200_198.out _; (with_reducible repeat (first | refine blk_drewN ?_ _ | refine blk_drew ?_ | refine blk_alloc ?_ _)); exact BK200.out⟩
            have n4_ : Aside0 (Kept w (wc.setCell ⟨gb198, 5, none⟩ (.int .i64 0)) (fun k_ => P0_7_ k_)) := ⟨by repeat (first | (with_reducible first | exact HK.out | apply Kept.alloc | apply Kept.drewN | apply Kept.drew | refine Kept.setCell ?_ (.inr GW198.out) _ | refine Kept.setCell ?_ (.inr GW199.out) _ | refine Kept.setCell ?_ (.inr GW200.out) _) | exact HK.out)⟩
            have n5_ : Aside0 (Below w0.heap.size w0 (wc.setCell ⟨gb198, 5, none⟩ (.int .i64 0))) := ⟨by repeat (first | (with_reducible first | exact HB.out | apply below_alloc | apply pw_below_drewN | apply below_drew1 | refine below_set ?_ GE198.out | refine below_set ?_ GE199.out | refine below_set ?_ GE200.out) | exact HB.out)⟩
            (try clear HO_199007)
            (try clear BK198)
            (try clear BK199)
            (try clear BK200)
            (try clear HK)
            (try clear HB)
            generalize (wc.setCell ⟨gb198, 5, none⟩ (.int .i64 0)) = w131 at n0_ n1_ n2_ n3_ n4_ n5_ ⊢
            have HO_199007 := n0_
            have BK198 := n1_
            have BK199 := n2_
            have BK200 := n3_
            have HK := n4_
            have HB := n5_
            clear n0_ n1_ n2_ n3_ n4_ n5_
            have n0_ := Aside0.mk (Kd.R_drew HO_199007.out)
            have n1_ := Aside0.mk (blk_drew BK198.out)
            have n2_ := Aside0.mk (blk_drew BK199.out)
            have n3_ := Aside0.mk (blk_drew BK200.out)
            have n4_ := Aside0.mk (Kept.drew HK.out)
            have n5_ := Aside0.mk (below_drew1 HB.out)
            clear HO_199007
            clear BK198
            clear BK199
            clear BK200
            clear HK
            clear HB
            have HO_199007 := n0_
            have BK198 := n1_
            have BK199 := n2_
            have BK200 := n3_
            have HK := n4_
            have HB := n5_
            clear n0_ n1_ n2_ n3_ n4_ n5_
            refine start_ (n := 13) (S := fun w' => w'.cell? ⟨gb198, 0, none⟩ = some (.int .u8 a0_0) ∧ w'.cell? ⟨gb198, 1, none⟩ = some (.int .i64 a0_1) ∧ w'.cell? ⟨gb198, 2, none⟩ = some (.int .i64 a0_2) ∧ w'.cell? ⟨gb198, 3, none⟩ = some (.int .i64 a0_3) ∧ w'.cell? ⟨gb198, 4, none⟩ = some (.int .i64 (wrap64 (a0_4 + 1))) ∧ w'.cell? ⟨gb198, 5, none⟩ = some (.int .i64 0) ∧ w'.cell? ⟨gb198, 6, none⟩ = some (.bool a0_6) ∧ w'.cell? ⟨gb198, 7, none⟩ = some (.slice Ao6 l0_7.length co6) ∧ w'.cell? ⟨gb198, 8, none⟩ = some (.int .i64 a0_8) ∧ w'.cell? ⟨gb198, 9, none⟩ = some (.int .i64 a0_9) ∧ w'.cell? ⟨gb198, 10, none⟩ = some (.int .i64 a0_10) ∧ w'.cell? ⟨gb198, 11, none⟩ = some (.int .i64 a0_11) ∧ w'.cell? ⟨gb198, 12, none⟩ = some (.int .i64 a0_12) ∧ w'.cell? ⟨gb199, 0, none⟩ = some (.int .i64 a1_0) ∧ w'.cell? ⟨gb199, 1, none⟩ = some (.int .u8 a1_1) ∧ w'.cell? ⟨gb199, 2, none⟩ = some (.int .i64 a1_2) ∧ w'.cell? ⟨gb199, 3, none⟩ = some (.int .i64 a1_3) ∧ w'.cell? ⟨gb199, 4, none⟩ = some (.bool a1_4) ∧ w'.cell? ⟨gb199, 5, none⟩ = some (.bool a1_5)) (ds := []) #[false, false, false, false, false, false, false, false, false, false, false, false, false] (by kernel_rfl) rfl rfl ⟨(blk_cell BK198.out 0).trans rfl, (blk_cell BK198.out 1).trans rfl, (blk_cell BK198.out 2).trans rfl, (blk_cell BK198.out 3).trans rfl, (blk_cell BK198.out 4).trans rfl, (blk_cell BK198.out 5).trans rfl, (blk_cell BK198.out 6).trans rfl, (blk_cell BK198.out 7).trans rfl, (blk_cell BK198.out 8).trans rfl, (blk_cell BK198.out 9).trans rfl, (blk_cell BK198.out 10).trans rfl, (blk_cell BK198.out 11).trans rfl, (blk_cell BK198.out 12).trans rfl, (blk_cell BK199.out 0).trans rfl, (blk_cell BK199.out 1).trans rfl, (blk_cell BK199.out 2).trans rfl, (blk_cell BK199.out 3).trans rfl, (blk_cell BK199.out 4).trans rfl, (blk_cell BK199.out 5).trans rfl⟩ (fun hHeld => ?_); refine with_tabW account_begin.tab13 account_begin.bits13 (fun HT_ HW_ => ?_)
            generalize w131.drew = w132 at HO_199007 BK198 BK199 BK200 HK HB hHeld ⊢
            refine pure_ (i := 1) (N := some 71) (v := ?_) (a' := ?_) #[false, true, false, false, false, false, false, false, false, false, false, false, false] rfl rfl (any_of HT_.out (by kernel_rfl)) (fun _ _ _ h => h) (Or.inl ⟨by rfl, ?_⟩) ?_ ?_
            rotate_left
            · intro w'
              go_simp
              with_reducible rfl
            rotate_left
            · simp only [Act.put, List.setIfInBounds_toArray, List.set_cons_zero, List.set_cons_succ, i64_w, i32_w]
              rfl
            refine pure_ (i := 2) (N := some 72) (v := ?_) (a' := ?_) #[false, true, true, false, false, false, false, false, false, false, false, false, false] rfl rfl (any_of HT_.out (by kernel_rfl)) (fun _ _ _ h => h) (Or.inl ⟨by rfl, ?_⟩) ?_ ?_
            rotate_left
            · intro w'
              go_simp
              with_reducible rfl
            rotate_left
            · simp only [Act.put, List.setIfInBounds_toArray, List.set_cons_zero, List.set_cons_succ, i64_w, i32_w]
              rfl
            refine pure_ (i := 3) (N := some 73) (v := ?_) (a' := ?_) #[false, true, true, true, false, false, false, false, false, false, false, false, false] rfl rfl (any_of HT_.out (by kernel_rfl)) (fun _ _ _ h => h) (Or.inl ⟨by rfl, ?_⟩) ?_ ?_
            rotate_left
            · intro w'
              go_simp
              with_reducible rfl
            rotate_left
            · simp only [Act.put, List.setIfInBounds_toArray, List.set_cons_zero, List.set_cons_succ, i64_w, i32_w]
              rfl
            refine pure_ (i := 4) (N := some 74) (v := ?_) (a' := ?_) #[false, true, true, true, true, false, false, false, false, false, false, false, false] rfl rfl (any_of HT_.out (by kernel_rfl)) (fun _ _ _ h => h) (Or.inl ⟨by rfl, ?_⟩) ?_ ?_
            rotate_left
            · intro w'
              go_simp
              with_reducible rfl
            rotate_left
            · simp only [Act.put, List.setIfInBounds_toArray, List.set_cons_zero, List.set_cons_succ, i64_w, i32_w]
              rfl
            refine pure_ (i := 5) (N := some 75) (v := ?_) (a' := ?_) #[false, true, true, true, true, true, false, false, false, false, false, false, false] rfl rfl (any_of HT_.out (by kernel_rfl)) (fun _ _ _ h => h) (Or.inl ⟨by rfl, ?_⟩) ?_ ?_
            rotate_left
            · intro w'
              go_simp
              with_reducible rfl
            rotate_left
            · simp only [Act.put, List.setIfInBounds_toArray, List.set_cons_zero, List.set_cons_succ, i64_w, i32_w]
              rfl
            refine take_ (i := 0) (N := some 70) (v := ?_) (a' := ?_) #[true, true, true, true, true, true, false, false, false, false, false, false, false] rfl rfl (take_ofW HT_.out HW_.out (by kernel_rfl)) (fun _ _ _ h => h) (Or.inl ⟨by rfl, ?_⟩) hHeld ?_ ?_
            rotate_left
            · rintro w' ⟨s0, s1, s2, s3, s4, s5, s6, s7, s8, s9, s10, s11, s12, s13, s14, s15, s16, s17, s18⟩
              go_simp
              with_reducible rfl
            rotate_left
            · simp only [Act.put, List.setIfInBounds_toArray, List.set_cons_zero, List.set_cons_succ, i64_w, i32_w]
              rfl
            refine take_ (i := 6) (N := some 76) (v := ?_) (a' := ?_) #[true, true, true, true, true, true, true, false, false, false, false, false, false] rfl rfl (take_ofW HT_.out HW_.out (by kernel_rfl)) (fun _ _ _ h => h) (Or.inl ⟨by rfl, ?_⟩) hHeld ?_ ?_
            rotate_left
            · rintro w' ⟨s0, s1, s2, s3, s4, s5, s6, s7, s8, s9, s10, s11, s12, s13, s14, s15, s16, s17, s18⟩
              go_simp
              with_reducible rfl
            rotate_left
            · simp only [Act.put, List.setIfInBounds_toArray, List.set_cons_zero, List.set_cons_succ, i64_w, i32_w]
              rfl
            refine one_ (i := 7) (N := some 77) #[true, true, true, true, true, true, true, true, false, false, false, false, false] rfl rfl (one_of HT_.out (by kernel_rfl)) (by decide) (fun K hK => ?_)
            refine goes_ Try.func40 (by kernel_rfl) rfl #[.int .i64 a0_4, .int .i64 a2, .int .i64 t273, .int .i64 a0_5, .bool a1_4] (by rfl) rfl rfl (by (try simp only [List.map_toArray, List.map_cons, List.map_nil]); first | done | rfl | (simp only [List.length_drop, List.length_take]; rfl)) ?_
            with_reducible refine (cycle_Begin.calls a0_4 a2 t273 a0_5 a1_4 t299 t300 t301 t302 t303 t304 t305 t306 _ A124.out).mono ?_
            rintro e w133 ⟨rfl, hb⟩
            refine ⟨_, rfl, ?_⟩
            have n0_ := Aside0.mk (Kd.R_below (by (with_reducible repeat (first | apply Kd.R_alloc | apply Kd.R_drewN | apply Kd.R_drew)); exact HO_199007.out) hb)
            have n1_ := Aside0.mk (blk_below (g := gb198) (o := .cells #[.int .u8 a0_0, .int .i64 a0_1, .int .i64 a0_2, .int .i64 a0_3, .int .i64 (wrap64 (a0_4 + 1)), .int .i64 0, .bool a0_6, .slice Ao6 l0_7.length co6, .int .i64 a0_8, .int .i64 a0_9, .int .i64 a0_10, .int .i64 a0_11, .int .i64 a0_12] 31 (0, 0)) (by (with_reducible repeat (first | refine blk_drewN ?_ _ | refine blk_drew ?_ | refine blk_alloc ?_ _)); exact BK198.out) hb)
            have n2_ := Aside0.mk (blk_below (g := gb199) (o := .cells #[.int .i64 a1_0, .int .u8 a1_1, .int .i64 a1_2, .int .i64 a1_3, .bool a1_4, .bool a1_5] 25 (0, 0)) (by (with_reducible repeat (first | refine blk_drewN ?_ _ | refine blk_drew ?_ | refine blk_alloc ?_ _)); exact BK199.out) hb)
            have n3_ := Aside0.mk (blk_below (g := gb200) (o := .cells #[.int .u8 0, .int .i64 0, .int .i64 0, .int .i64 0, .int .i64 0, .int .i64 0, .bool false, .slice none 0 0, .int .i64 0, .int .i64 0, .int .i64 0, .int .i64 0, .int .i64 0] 31 (0, 0)) (by (with_reducible repeat (first | refine blk_drewN ?_ _ | refine blk_drew ?_ | refine blk_alloc ?_ _)); exact BK200.out) hb)
            have n4_ := Aside0.mk (Kept.below (S := (fun k_ => P0_7_ k_)) (by repeat (first | (with_reducible first | exact HK.out | apply Kept.alloc | apply Kept.drewN | apply Kept.drew | refine Kept.setCell ?_ (.inr GW198.out) _ | refine Kept.setCell ?_ (.inr GW199.out) _ | refine Kept.setCell ?_ (.inr GW200.out) _) | exact HK.out)) hb)
            have n5_ := Aside0.mk (below_step (by repeat (first | (with_reducible first | exact HB.out | apply below_alloc | apply pw_below_drewN | apply below_drew1 | refine below_set ?_ GE198.out | refine below_set ?_ GE199.out | refine below_set ?_ GE200.out) | exact HB.out)) hb)
            clear HO_199007
            clear BK198
            clear BK199
            clear BK200
            clear HK
            clear HB
            have HO_199007 := n0_
            have BK198 := n1_
            have BK199 := n2_
            have BK200 := n3_
            have HK := n4_
            have HB := n5_
            clear n0_ n1_ n2_ n3_ n4_ n5_
            (try clear hb)
            (try clear hb2)
            (try clear hk)
            (try clear hi)
            refine hK.out _ _ ⟨(blk_cell BK198.out 0).trans rfl, (blk_cell BK198.out 1).trans rfl, (blk_cell BK198.out 2).trans rfl, (blk_cell BK198.out 3).trans rfl, (blk_cell BK198.out 4).trans rfl, (blk_cell BK198.out 5).trans rfl, (blk_cell BK198.out 6).trans rfl, (blk_cell BK198.out 7).trans rfl, (blk_cell BK198.out 8).trans rfl, (blk_cell BK198.out 9).trans rfl, (blk_cell BK198.out 10).trans rfl, (blk_cell BK198.out 11).trans rfl, (blk_cell BK198.out 12).trans rfl, (blk_cell BK199.out 0).trans rfl, (blk_cell BK199.out 1).trans rfl, (blk_cell BK199.out 2).trans rfl, (blk_cell BK199.out 3).trans rfl, (blk_cell BK199.out 4).trans rfl, (blk_cell BK199.out 5).trans rfl⟩ (fun hHeld => ?_)
            clear hK K
            refine norm_ (a' := ?_) ?_ ?_
            rotate_left
            · show Act.put _ (some 77) _ = _
              simp only [Act.put, List.setIfInBounds_toArray, List.set_cons_zero, List.set_cons_succ, i64_w, i32_w]
              rfl
            refine one_ (i := 8) (N := some 78) #[true, true, true, true, true, true, true, true, true, false, false, false, false] rfl rfl (one_of HT_.out (by kernel_rfl)) (by decide) (fun K hK => ?_)
            refine goes_ Try.func37 (by kernel_rfl) rfl #[.agg #[.int .u8 a0_0, .int .i64 a0_1, .int .i64 a0_2, .int .i64 a0_3, .int .i64 (wrap64 (a0_4 + 1)), .int .i64 0, .bool a0_6, .slice Ao6 l0_7.length co6, .int .i64 a0_8, .int .i64 a0_9, .int .i64 a0_10, .int .i64 a0_11, .int .i64 a0_12], .agg #[.int .i64 t299, .int .i64 t300, .int .u8 t301, .int .i64 t302, .int .i64 t303, .int .i64 t304, .int .i64 t305, .bool t306]] (by rfl) rfl rfl (by (try simp only [List.map_toArray, List.map_cons, List.map_nil]); first | done | rfl | (simp only [List.length_drop, List.length_take]; rfl)) ?_
            with_reducible refine (account_close.calls a0_0 a0_1 a0_2 a0_3 (wrap64 (a0_4 + 1)) 0 a0_6 (fun k_ => some k_ = (.slice Ao6 l0_7.length co6 : Value).ownBlock) (.slice Ao6 l0_7.length co6) l0_7 a0_8 a0_9 a0_10 a0_11 a0_12 t299 t300 t301 t302 t303 t304 t305 t306 t307 t308 t309 t310 t311 t312 t313 t314 t317 t318 t319 t320 t321 t322 w0 _ ?side1 ?side2 A125.out).mono ?_
            (case side1 => repeat (first | (with_reducible first | exact HB.out | apply below_alloc | apply pw_below_drewN | apply below_drew1 | refine below_set ?_ GE198.out | refine below_set ?_ GE199.out | refine below_set ?_ GE200.out) | exact HB.out))
            (case side2 => exact Kd.R_tight rfl HO_199007.out)
            rintro e w134 ⟨v315, rfl, ho0, hb, hkp⟩
            refine ⟨_, rfl, ?_⟩
            have n0_ := Aside0.mk (blk_kept (by (with_reducible repeat (first | refine blk_drewN ?_ _ | refine blk_drew ?_ | refine blk_alloc ?_ _)); exact BK198.out) hkp (fun hs_ => (fun e_ => (Kd.R_ne HO_199007.out BK198.out (by decide)) e_) hs_))
            have n1_ := Aside0.mk (blk_kept (by (with_reducible repeat (first | refine blk_drewN ?_ _ | refine blk_drew ?_ | refine blk_alloc ?_ _)); exact BK199.out) hkp (fun hs_ => (fun e_ => (Kd.R_ne HO_199007.out BK199.out (by decide)) e_) hs_))
            have n2_ := Aside0.mk (blk_kept (by (with_reducible repeat (first | refine blk_drewN ?_ _ | refine blk_drew ?_ | refine blk_alloc ?_ _)); exact BK200.out) hkp (fun hs_ => (fun e_ => (Kd.R_ne HO_199007.out BK200.out (by decide)) e_) hs_))
            have n3_ := Aside0.mk (Kd.R_mono (ok' := fun k_ => (P0_7_ k_ ∨ w.heap.size ≤ k_)) ho0 (fun k_ hk_ => Or.elim hk_ (fun hs_ => (HO_199007.out.1 k_ (hs_).symm)) (fun hn_ => (.inr (Nat.le_trans (by first | exact HK.out.1 | exact (show Kept w _ (fun k_ => P0_7_ k_) from by repeat (first | (with_reducible first | exact HK.out | apply Kept.alloc | apply Kept.drewN | apply Kept.drew | refine Kept.setCell ?_ (.inr GW198.out) _ | refine Kept.setCell ?_ (.inr GW199.out) _ | refine Kept.setCell ?_ (.inr GW200.out) _) | exact HK.out)).1) hn_)))))
            have n4_ := Aside0.mk (Kept.then_ (S := (fun k_ => P0_7_ k_)) (by repeat (first | (with_reducible first | exact HK.out | apply Kept.alloc | apply Kept.drewN | apply Kept.drew | refine Kept.setCell ?_ (.inr GW198.out) _ | refine Kept.setCell ?_ (.inr GW199.out) _ | refine Kept.setCell ?_ (.inr GW200.out) _) | exact HK.out)) hkp (fun k_ hs_ => (fun e_ => (HO_199007.out.1 k_ e_.symm)) hs_))
            have n5_ := Aside0.mk (hb)
            clear BK198
            clear BK199
            clear BK200
            clear HK
            clear HB
            clear HO_199007
            have BK198 := n0_
            have BK199 := n1_
            have BK200 := n2_
            have HO316 := n3_
            have HK := n4_
            have HB := n5_
            clear n0_ n1_ n2_ n3_ n4_ n5_
            (try clear hb)
            (try clear hkp)
            (try clear ho0)
            obtain ⟨Ao142, co142, eo142⟩ := Kd.R_slice HO316.out
            (first | subst eo142 | (injection eo142 with f1_ f2_ f3_; have f4_ := f1_.symm; have f5_ := f3_.symm; clear f1_ f2_ f3_; subst f4_; subst f5_))
            refine hK.out _ _ ⟨(blk_cell BK198.out 0).trans rfl, (blk_cell BK198.out 1).trans rfl, (blk_cell BK198.out 2).trans rfl, (blk_cell BK198.out 3).trans rfl, (blk_cell BK198.out 4).trans rfl, (blk_cell BK198.out 5).trans rfl, (blk_cell BK198.out 6).trans rfl, (blk_cell BK198.out 7).trans rfl, (blk_cell BK198.out 8).trans rfl, (blk_cell BK198.out 9).trans rfl, (blk_cell BK198.out 10).trans rfl, (blk_cell BK198.out 11).trans rfl, (blk_cell BK198.out 12).trans rfl, (blk_cell BK199.out 0).trans rfl, (blk_cell BK199.out 1).trans rfl, (blk_cell BK199.out 2).trans rfl, (blk_cell BK199.out 3).trans rfl, (blk_cell BK199.out 4).trans rfl, (blk_cell BK199.out 5).trans rfl⟩ (fun hHeld => ?_)
            clear hK K
            refine norm_ (a' := ?_) ?_ ?_
            rotate_left
            · show Act.put _ (some 78) _ = _
              simp only [Act.put, List.setIfInBounds_toArray, List.set_cons_zero, List.set_cons_succ, i64_w, i32_w]
              rfl
            refine pure_ (i := 9) (N := some 79) (v := ?_) (a' := ?_) #[true, true, true, true, true, true, true, true, true, true, false, false, false] rfl rfl (any_of HT_.out (by kernel_rfl)) (fun _ _ _ h => h) (Or.inl ⟨by rfl, ?_⟩) ?_ ?_
            rotate_left
            · intro w'
              go_simp
              with_reducible rfl
            rotate_left
            · simp only [Act.put, List.setIfInBounds_toArray, List.set_cons_zero, List.set_cons_succ, i64_w, i32_w]
              rfl
            refine pure_ (i := 10) (N := some 80) (v := ?_) (a' := ?_) #[true, true, true, true, true, true, true, true, true, true, true, false, false] rfl rfl (any_of HT_.out (by kernel_rfl)) (fun _ _ _ h => h) (Or.inl ⟨by rfl, ?_⟩) ?_ ?_
            rotate_left
            · intro w'
              go_simp
              with_reducible rfl
            rotate_left
            · simp only [Act.put, List.setIfInBounds_toArray, List.set_cons_zero, List.set_cons_succ, i64_w, i32_w]
              rfl
            refine one_ (i := 11) (N := none) #[true, true, true, true, true, true, true, true, true, true, true, true, false] rfl rfl (one_of HT_.out (by kernel_rfl)) (by decide) (fun K hK => ?_)
            have hs135 : w134.cell? ⟨gb200, 0, none⟩ = some (.int .u8 0) := (blk_cell BK200.out 0).trans rfl
            have hfs135 := blk_frozen BK200.out 0
            have hns135_0 := NB198_200.out
            have hns135_1 := NB199_200.out
            have hms135_0 := NB200_198.out
            have hms135_1 := NB200_199.out
            have hs136 : w134.cell? ⟨gb200, 1, none⟩ = some (.int .i64 0) := (blk_cell BK200.out 1).trans rfl
            have hfs136 := blk_frozen BK200.out 1
            have hns136_0 := NB198_200.out
            have hns136_1 := NB199_200.out
            have hms136_0 := NB200_198.out
            have hms136_1 := NB200_199.out
            have hs137 : w134.cell? ⟨gb200, 2, none⟩ = some (.int .i64 0) := (blk_cell BK200.out 2).trans rfl
            have hfs137 := blk_frozen BK200.out 2
            have hns137_0 := NB198_200.out
            have hns137_1 := NB199_200.out
            have hms137_0 := NB200_198.out
            have hms137_1 := NB200_199.out
            have hs138 : w134.cell? ⟨gb200, 3, none⟩ = some (.int .i64 0) := (blk_cell BK200.out 3).trans rfl
            have hfs138 := blk_frozen BK200.out 3
            have hns138_0 := NB198_200.out
            have hns138_1 := NB199_200.out
            have hms138_0 := NB200_198.out
            have hms138_1 := NB200_199.out
            have hs139 : w134.cell? ⟨gb200, 4, none⟩ = some (.int .i64 0) := (blk_cell BK200.out 4).trans rfl
            have hfs139 := blk_frozen BK200.out 4
            have hns139_0 := NB198_200.out
            have hns139_1 := NB199_200.out
            have hms139_0 := NB200_198.out
            have hms139_1 := NB200_199.out
            have hs140 : w134.cell? ⟨gb200, 5, none⟩ = some (.int .i64 0) := (blk_cell BK200.out 5).trans rfl
            have hfs140 := blk_frozen BK200.out 5
            have hns140_0 := NB198_200.out
            have hns140_1 := NB199_200.out
            have hms140_0 := NB200_198.out
            have hms140_1 := NB200_199.out
            have hs141 : w134.cell? ⟨gb200, 6, none⟩ = some (.bool false) := (blk_cell BK200.out 6).trans rfl
            have hfs141 := blk_frozen BK200.out 6
            have hns141_0 := NB198_200.out
            have hns141_1 := NB199_200.out
            have hms141_0 := NB200_198.out
            have hms141_1 := NB200_199.out
            have hs143 : w134.cell? ⟨gb200, 7, none⟩ = some (.slice none 0 0) := (blk_cell BK200.out 7).trans rfl
            have hfs143 := blk_frozen BK200.out 7
            have hns143_0 := NB198_200.out
            have hns143_1 := NB199_200.out
            have hms143_0 := NB200_198.out
            have hms143_1 := NB200_199.out
            have hs144 : w134.cell? ⟨gb200, 8, none⟩ = some (.int .i64 0) := (blk_cell BK200.out 8).trans rfl
            have hfs144 := blk_frozen BK200.out 8
            have hns144_0 := NB198_200.out
            have hns144_1 := NB199_200.out
            have hms144_0 := NB200_198.out
            have hms144_1 := NB200_199.out
            have hs145 : w134.cell? ⟨gb200, 9, none⟩ = some (.int .i64 0) := (blk_cell BK200.out 9).trans rfl
            have hfs145 := blk_frozen BK200.out 9
            have hns145_0 := NB198_200.out
            have hns145_1 := NB199_200.out
            have hms145_0 := NB200_198.out
            have hms145_1 := NB200_199.out
            have hs146 : w134.cell? ⟨gb200, 10, none⟩ = some (.int .i64 0) := (blk_cell BK200.out 10).trans rfl
            have hfs146 := blk_frozen BK200.out 10
            have hns146_0 := NB198_200.out
            have hns146_1 := NB199_200.out
            have hms146_0 := NB200_198.out
            have hms146_1 := NB200_199.out
            have hs147 : w134.cell? ⟨gb200, 11, none⟩ = some (.int .i64 0) := (blk_cell BK200.out 11).trans rfl
            have hfs147 := blk_frozen BK200.out 11
            have hns147_0 := NB198_200.out
            have hns147_1 := NB199_200.out
            have hms147_0 := NB200_198.out
            have hms147_1 := NB200_199.out
            have hs148 : w134.cell? ⟨gb200, 12, none⟩ = some (.int .i64 0) := (blk_cell BK200.out 12).trans rfl
            have hfs148 := blk_frozen BK200.out 12
            have hns148_0 := NB198_200.out
            have hns148_1 := NB199_200.out
            have hms148_0 := NB200_198.out
            have hms148_1 := NB200_199.out
            refine skip_ (w1 := ?_) (by rfl) rfl ?_ ?_
            rotate_left
            · go_simp
              rfl
            refine hK.out _ _ ⟨((cf_account_begin gb200 NB198_200.out _).trans (((cf_account_begin gb200 NB198_200.out _).trans (((cf_account_begin gb200 NB198_200.out _).trans (((cf_account_begin gb200 NB198_200.out _).trans (((cf_account_begin gb200 NB198_200.out _).trans (((cf_account_begin gb200 NB198_200.out _).trans (((cf_account_begin gb200 NB198_200.out _).trans (((cf_account_begin gb200 NB198_200.out _).trans (((cf_account_begin gb200 NB198_200.out _).trans (((cf_account_begin gb200 NB198_200.out _).trans (((cf_account_begin gb200 NB198_200.out _).trans (((cf_account_begin gb200 NB198_200.out _).trans (((cf_account_begin gb200 NB198_200.out _).trans (hHeld.1)))))))))))))))))))))))))), ((cf_account_begin gb200 NB198_200.out _).trans (((cf_account_begin gb200 NB198_200.out _).trans (((cf_account_begin gb200 NB198_200.out _).trans (((cf_account_begin gb200 NB198_200.out _).trans (((cf_account_begin gb200 NB198_200.out _).trans (((cf_account_begin gb200 NB198_200.out _).trans (((cf_account_begin gb200 NB198_200.out _).trans (((cf_account_begin gb200 NB198_200.out _).trans (((cf_account_begin gb200 NB198_200.out _).trans (((cf_account_begin gb200 NB198_200.out _).trans (((cf_account_begin gb200 NB198_200.out _).trans (((cf_account_begin gb200 NB198_200.out _).trans (((cf_account_begin gb200 NB198_200.out _).trans (hHeld.2.1)))))))))))))))))))))))))), ((cf_account_begin gb200 NB198_200.out _).trans (((cf_account_begin gb200 NB198_200.out _).trans (((cf_account_begin gb200 NB198_200.out _).trans (((cf_account_begin gb200 NB198_200.out _).trans (((cf_account_begin gb200 NB198_200.out _).trans (((cf_account_begin gb200 NB198_200.out _).trans (((cf_account_begin gb200 NB198_200.out _).trans (((cf_account_begin gb200 NB198_200.out _).trans (((cf_account_begin gb200 NB198_200.out _).trans (((cf_account_begin gb200 NB198_200.out _).trans (((cf_account_begin gb200 NB198_200.out _).trans (((cf_account_begin gb200 NB198_200.out _).trans (((cf_account_begin gb200 NB198_200.out _).trans (hHeld.2.2.1)))))))))))))))))))))))))), ((cf_account_begin gb200 NB198_200.out _).trans (((cf_account_begin gb200 NB198_200.out _).trans (((cf_account_begin gb200 NB198_200.out _).trans (((cf_account_begin gb200 NB198_200.out _).trans (((cf_account_begin gb200 NB198_200.out _).trans (((cf_account_begin gb200 NB198_200.out _).trans (((cf_account_begin gb200 NB198_200.out _).trans (((cf_account_begin gb200 NB198_200.out _).trans (((cf_account_begin gb200 NB198_200.out _).trans (((cf_account_begin gb200 NB198_200.out _).trans (((cf_account_begin gb200 NB198_200.out _).trans (((cf_account_begin gb200 NB198_200.out _).trans (((cf_account_begin gb200 NB198_200.out _).trans (hHeld.2.2.2.1)))))))))))))))))))))))))), ((cf_account_begin gb200 NB198_200.out _).trans (((cf_account_begin gb200 NB198_200.out _).trans (((cf_account_begin gb200 NB198_200.out _).trans (((cf_account_begin gb200 NB198_200.out _).trans (((cf_account_begin gb200 NB198_200.out _).trans (((cf_account_begin gb200 NB198_200.out _).trans (((cf_account_begin gb200 NB198_200.out _).trans (((cf_account_begin gb200 NB198_200.out _).trans (((cf_account_begin gb200 NB198_200.out _).trans (((cf_account_begin gb200 NB198_200.out _).trans (((cf_account_begin gb200 NB198_200.out _).trans (((cf_account_begin gb200 NB198_200.out _).trans (((cf_account_begin gb200 NB198_200.out _).trans (hHeld.2.2.2.2.1)))))))))))))))))))))))))), ((cf_account_begin gb200 NB198_200.out _).trans (((cf_account_begin gb200 NB198_200.out _).trans (((cf_account_begin gb200 NB198_200.out _).trans (((cf_account_begin gb200 NB198_200.out _).trans (((cf_account_begin gb200 NB198_200.out _).trans (((cf_account_begin gb200 NB198_200.out _).trans (((cf_account_begin gb200 NB198_200.out _).trans (((cf_account_begin gb200 NB198_200.out _).trans (((cf_account_begin gb200 NB198_200.out _).trans (((cf_account_begin gb200 NB198_200.out _).trans (((cf_account_begin gb200 NB198_200.out _).trans (((cf_account_begin gb200 NB198_200.out _).trans (((cf_account_begin gb200 NB198_200.out _).trans (hHeld.2.2.2.2.2.1)))))))))))))))))))))))))), ((cf_account_begin gb200 NB198_200.out _).trans (((cf_account_begin gb200 NB198_200.out _).trans (((cf_account_begin gb200 NB198_200.out _).trans (((cf_account_begin gb200 NB198_200.out _).trans (((cf_account_begin gb200 NB198_200.out _).trans (((cf_account_begin gb200 NB198_200.out _).trans (((cf_account_begin gb200 NB198_200.out _).trans (((cf_account_begin gb200 NB198_200.out _).trans (((cf_account_begin gb200 NB198_200.out _).trans (((cf_account_begin gb200 NB198_200.out _).trans (((cf_account_begin gb200 NB198_200.out _).trans (((cf_account_begin gb200 NB198_200.out _).trans (((cf_account_begin gb200 NB198_200.out _).trans (hHeld.2.2.2.2.2.2.1)))))))))))))))))))))))))), ((cf_account_begin gb200 NB198_200.out _).trans (((cf_account_begin gb200 NB198_200.out _).trans (((cf_account_begin gb200 NB198_200.out _).trans (((cf_account_begin gb200 NB198_200.out _).trans (((cf_account_begin gb200 NB198_200.out _).trans (((cf_account_begin gb200 NB198_200.out _).trans (((cf_account_begin gb200 NB198_200.out _).trans (((cf_account_begin gb200 NB198_200.out _).trans (((cf_account_begin gb200 NB198_200.out _).trans (((cf_account_begin gb200 NB198_200.out _).trans (((cf_account_begin gb200 NB198_200.out _).trans (((cf_account_begin gb200 NB198_200.out _).trans (((cf_account_begin gb200 NB198_200.out _).trans (hHeld.2.2.2.2.2.2.2.1)))))))))))))))))))))))))), ((cf_account_begin gb200 NB198_200.out _).trans (((cf_account_begin gb200 NB198_200.out _).trans (((cf_account_begin gb200 NB198_200.out _).trans (((cf_account_begin gb200 NB198_200.out _).trans (((cf_account_begin gb200 NB198_200.out _).trans (((cf_account_begin gb200 NB198_200.out _).trans (((cf_account_begin gb200 NB198_200.out _).trans (((cf_account_begin gb200 NB198_200.out _).trans (((cf_account_begin gb200 NB198_200.out _).trans (((cf_account_begin gb200 NB198_200.out _).trans (((cf_account_begin gb200 NB198_200.out _).trans (((cf_account_begin gb200 NB198_200.out _).trans (((cf_account_begin gb200 NB198_200.out _).trans (hHeld.2.2.2.2.2.2.2.2.1)))))))))))))))))))))))))), ((cf_account_begin gb200 NB198_200.out _).trans (((cf_account_begin gb200 NB198_200.out _).trans (((cf_account_begin gb200 NB198_200.out _).trans (((cf_account_begin gb200 NB198_200.out _).trans (((cf_account_begin gb200 NB198_200.out _).trans (((cf_account_begin gb200 NB198_200.out _).trans (((cf_account_begin gb200 NB198_200.out _).trans (((cf_account_begin gb200 NB198_200.out _).trans (((cf_account_begin gb200 NB198_200.out _).trans (((cf_account_begin gb200 NB198_200.out _).trans (((cf_account_begin gb200 NB198_200.out _).trans (((cf_account_begin gb200 NB198_200.out _).trans (((cf_account_begin gb200 NB198_200.out _).trans (hHeld.2.2.2.2.2.2.2.2.2.1)))))))))))))))))))))))))), ((cf_account_begin gb200 NB198_200.out _).trans (((cf_account_begin gb200 NB198_200.out _).trans (((cf_account_begin gb200 NB198_200.out _).trans (((cf_account_begin gb200 NB198_200.out _).trans (((cf_account_begin gb200 NB198_200.out _).trans (((cf_account_begin gb200 NB198_200.out _).trans (((cf_account_begin gb200 NB198_200.out _).trans (((cf_account_begin gb200 NB198_200.out _).trans (((cf_account_begin gb200 NB198_200.out _).trans (((cf_account_begin gb200 NB198_200.out _).trans (((cf_account_begin gb200 NB198_200.out _).trans (((cf_account_begin gb200 NB198_200.out _).trans (((cf_account_begin gb200 NB198_200.out _).trans (hHeld.2.2.2.2.2.2.2.2.2.2.1)))))))))))))))))))))))))), ((cf_account_begin gb200 NB198_200.out _).trans (((cf_account_begin gb200 NB198_200.out _).trans (((cf_account_begin gb200 NB198_200.out _).trans (((cf_account_begin gb200 NB198_200.out _).trans (((cf_account_begin gb200 NB198_200.out _).trans (((cf_account_begin gb200 NB198_200.out _).trans (((cf_account_begin gb200 NB198_200.out _).trans (((cf_account_begin gb200 NB198_200.out _).trans (((cf_account_begin gb200 NB198_200.out _).trans (((cf_account_begin gb200 NB198_200.out _).trans (((cf_account_begin gb200 NB198_200.out _).trans (((cf_account_begin gb200 NB198_200.out _).trans (((cf_account_begin gb200 NB198_200.out _).trans (hHeld.2.2.2.2.2.2.2.2.2.2.2.1)))))))))))))))))))))))))), ((cf_account_begin gb200 NB198_200.out _).trans (((cf_account_begin gb200 NB198_200.out _).trans (((cf_account_begin gb200 NB198_200.out _).trans (((cf_account_begin gb200 NB198_200.out _).trans (((cf_account_begin gb200 NB198_200.out _).trans (((cf_account_begin gb200 NB198_200.out _).trans (((cf_account_begin gb200 NB198_200.out _).trans (((cf_account_begin gb200 NB198_200.out _).trans (((cf_account_begin gb200 NB198_200.out _).trans (((cf_account_begin gb200 NB198_200.out _).trans (((cf_account_begin gb200 NB198_200.out _).trans (((cf_account_begin gb200 NB198_200.out _).trans (((cf_account_begin gb200 NB198_200.out _).trans (hHeld.2.2.2.2.2.2.2.2.2.2.2.2.1)))))))))))))))))))))))))), ((cf_account_begin gb200 NB199_200.out _).trans (((cf_account_begin gb200 NB199_200.out _).trans (((cf_account_begin gb200 NB199_200.out _).trans (((cf_account_begin gb200 NB199_200.out _).trans (((cf_account_begin gb200 NB199_200.out _).trans (((cf_account_begin gb200 NB199_200.out _).trans (((cf_account_begin gb200 NB199_200.out _).trans (((cf_account_begin gb200 NB199_200.out _).trans (((cf_account_begin gb200 NB199_200.out _).trans (((cf_account_begin gb200 NB199_200.out _).trans (((cf_account_begin gb200 NB199_200.out _).trans (((cf_account_begin gb200 NB199_200.out _).trans (((cf_account_begin gb200 NB199_200.out _).trans (hHeld.2.2.2.2.2.2.2.2.2.2.2.2.2.1)))))))))))))))))))))))))), ((cf_account_begin gb200 NB199_200.out _).trans (((cf_account_begin gb200 NB199_200.out _).trans (((cf_account_begin gb200 NB199_200.out _).trans (((cf_account_begin gb200 NB199_200.out _).trans (((cf_account_begin gb200 NB199_200.out _).trans (((cf_account_begin gb200 NB199_200.out _).trans (((cf_account_begin gb200 NB199_200.out _).trans (((cf_account_begin gb200 NB199_200.out _).trans (((cf_account_begin gb200 NB199_200.out _).trans (((cf_account_begin gb200 NB199_200.out _).trans (((cf_account_begin gb200 NB199_200.out _).trans (((cf_account_begin gb200 NB199_200.out _).trans (((cf_account_begin gb200 NB199_200.out _).trans (hHeld.2.2.2.2.2.2.2.2.2.2.2.2.2.2.1)))))))))))))))))))))))))), ((cf_account_begin gb200 NB199_200.out _).trans (((cf_account_begin gb200 NB199_200.out _).trans (((cf_account_begin gb200 NB199_200.out _).trans (((cf_account_begin gb200 NB199_200.out _).trans (((cf_account_begin gb200 NB199_200.out _).trans (((cf_account_begin gb200 NB199_200.out _).trans (((cf_account_begin gb200 NB199_200.out _).trans (((cf_account_begin gb200 NB199_200.out _).trans (((cf_account_begin gb200 NB199_200.out _).trans (((cf_account_begin gb200 NB199_200.out _).trans (((cf_account_begin gb200 NB199_200.out _).trans (((cf_account_begin gb200 NB199_200.out _).trans (((cf_account_begin gb200 NB199_200.out _).trans (hHeld.2.2.2.2.2.2.2.2.2.2.2.2.2.2.2.1)))))))))))))))))))))))))), ((cf_account_begin gb200 NB199_200.out _).trans (((cf_account_begin gb200 NB199_200.out _).trans (((cf_account_begin gb200 NB199_200.out _).trans (((cf_account_begin gb200 NB199_200.out _).trans (((cf_account_begin gb200 NB199_200.out _).trans (((cf_account_begin gb200 NB199_200.out _).trans (((cf_account_begin gb200 NB199_200.out _).trans (((cf_account_begin gb200 NB199_200.out _).trans (((cf_account_begin gb200 NB199_200.out _).trans (((cf_account_begin gb200 NB199_200.out _).trans (((cf_account_begin gb200 NB199_200.out _).trans (((cf_account_begin gb200 NB199_200.out _).trans (((cf_account_begin gb200 NB199_200.out _).trans (hHeld.2.2.2.2.2.2.2.2.2.2.2.2.2.2.2.2.1)))))))))))))))))))))))))), ((cf_account_begin gb200 NB199_200.out _).trans (((cf_account_begin gb200 NB199_200.out _).trans (((cf_account_begin gb200 NB199_200.out _).trans (((cf_account_begin gb200 NB199_200.out _).trans (((cf_account_begin gb200 NB199_200.out _).trans (((cf_account_begin gb200 NB199_200.out _).trans (((cf_account_begin gb200 NB199_200.out _).trans (((cf_account_begin gb200 NB199_200.out _).trans (((cf_account_begin gb200 NB199_200.out _).trans (((cf_account_begin gb200 NB199_200.out _).trans (((cf_account_begin gb200 NB199_200.out _).trans (((cf_account_begin gb200 NB199_200.out _).trans (((cf_account_begin gb200 NB199_200.out _).trans (hHeld.2.2.2.2.2.2.2.2.2.2.2.2.2.2.2.2.2.1)))))))))))))))))))))))))), ((cf_account_begin gb200 NB199_200.out _).trans (((cf_account_begin gb200 NB199_200.out _).trans (((cf_account_begin gb200 NB199_200.out _).trans (((cf_account_begin gb200 NB199_200.out _).trans (((cf_account_begin gb200 NB199_200.out _).trans (((cf_account_begin gb200 NB199_200.out _).trans (((cf_account_begin gb200 NB199_200.out _).trans (((cf_account_begin gb200 NB199_200.out _).trans (((cf_account_begin gb200 NB199_200.out _).trans (((cf_account_begin gb200 NB199_200.out _).trans (((cf_account_begin gb200 NB199_200.out _).trans (((cf_account_begin gb200 NB199_200.out _).trans (((cf_account_begin gb200 NB199_200.out _).trans (hHeld.2.2.2.2.2.2.2.2.2.2.2.2.2.2.2.2.2.2))))))))))))))))))))))))))⟩ (fun hHeld => ?_)
            clear hK K
            refine pure_ (i := 12) (N := some 9) (v := ?_) (a' := ?_) #[true, true, true, true, true, true, true, true, true, true, true, true, true] rfl rfl (any_of HT_.out (by kernel_rfl)) (fun _ _ _ h => h) (Or.inl ⟨by rfl, ?_⟩) ?_ ?_
            rotate_left
            · intro w'
              go_simp
              with_reducible rfl
            rotate_left
            · simp only [Act.put, List.setIfInBounds_toArray, List.set_cons_zero, List.set_cons_succ, i64_w, i32_w]
              rfl
            refine done_ (done_of HT_.out (by kernel_rfl)) ?_
            try go_wp2
            refine bodyPost_ret (results_ct rfl _ _ gb200 31 #[.int .u8 t307, .int .i64 t308, .int .i64 t309, .int .i64 t310, .int .i64 t311, .int .i64 t312, .bool t313, .slice Ao142 t314.length co142, .int .i64 t317, .int .i64 t318, .int .i64 t319, .int .i64 t320, .int .i64 t321] (0, 0) _ rfl (by (with_reducible repeat (first | refine blk_drewN ?_ _ | refine blk_drew ?_ | refine blk_alloc ?_ _)); refine bp13 (.int .u8 0) (.int .i64 0) (.int .i64 0) (.int .i64 0) (.int .i64 0) (.int .i64 0) (.bool false) (.slice none 0 0) (.int .i64 0) (.int .i64 0) (.int .i64 0) (.int .i64 0) (.int .i64 0) ?_; (with_reducible repeat (first | refine blk_drewN ?_ _ | refine blk_drew ?_ | refine blk_alloc ?_ _)); exact BK200.out) Try.underlying31 rfl (by kernel_rfl)) rfl ?_
            exact ⟨_, by first | rfl | (simp [errW_none, errW_some] <;> rfl) | (simp [*, errW_none, errW_some] <;> rfl), by (with_reducible repeat (first | apply Kd.R_alloc | apply Kd.R_drewN | apply Kd.R_drew)); exact Kd.R_mono (Kd.R_step (Kd.R_types HO316.out BK200.out (by decide)) (fun _ hk _ => by (with_reducible repeat (first | refine (hst (g := gb200) hk.2 _ _).trans ?_ | refine (hdn _ _ _).trans ?_ | refine (hd1 _ _).trans ?_)); rfl)) (fun _ hk => hk.1), by repeat (first | (with_reducible first | exact HB.out | apply below_alloc | apply pw_below_drewN | apply below_drew1 | refine below_set ?_ GE198.out | refine below_set ?_ GE199.out | refine below_set ?_ GE200.out) | exact HB.out), by repeat (first | (with_reducible first | exact HK.out | apply Kept.alloc | apply Kept.drewN | apply Kept.drew | refine Kept.setCell ?_ (.inr GW198.out) _ | refine Kept.setCell ?_ (.inr GW199.out) _ | refine Kept.setCell ?_ (.inr GW200.out) _) | exact HK.out)⟩
        · rw [if_neg c97] at H
          exact absurd H (by simp)

end Go.Proofs.Ytnpcodfeggcdbaa.PAcc
