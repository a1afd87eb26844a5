/- Till. -/
import Derived.Test.YtljfmfkgpnabaaaTillHear
set_option linter.unusedVariables false
set_option linter.unusedSimpArgs false
namespace Go.Proofs.Ytljfmfkgpnabaaa.Pure
open Go.RowKit  Go.Proofs.YtljfmfkgpnabaaaW.PrintWords Go.Proofs.YtljfmfkgpnabaaaW.PrintLast
open Go.Maps Go.ChangeShapes Go.WideShapes Go.Joins
open Go.Proofs.Ytljfmfkgpnabaaa
attribute [local go_sem] setCell_map

theorem not_foot {w : World} {M : Nat} {sv : Value} {n : Nat} {f : TF} {L : List TE} (h : TillAt w M sv n f L) {g : Nat} {cs : Array Value} {t : TypeId} (hg : w.heap[g]? = some (.cells cs t (0, 0))) (h1 : t ≠ 77) (h2 : t ≠ 64) : ¬ tfoot M sv g := by
  rintro (rfl | rfl | e)
  · obtain ⟨D, ⟨es, clock, hm, _⟩, _⟩ := h.map
    rw [hm] at hg
    simp at hg
  · rw [h.blk] at hg
    simp only [Option.some.injEq, Obj.cells.injEq] at hg
    exact h1 hg.2.1.symm
  · rcases h.row.2 with ⟨rfl, _⟩ | ⟨g', cap, cur, rfl, _, hgg, _⟩
    · simp [Value.ownBlock] at e
    · simp [Value.ownBlock] at e
      subst e
      rw [hgg] at hg
      simp only [Option.some.injEq, Obj.cells.injEq] at hg
      exact h2 hg.2.1.symm
theorem hear_blk {w w' : World} {M : Nat} {sv : Value} {n : Nat} {f : TF} {L : List TE} (h : TillAt w M sv n f L) (hb : But (tfoot M sv) w w') {g : Nat} {cs : Array Value} {t : TypeId} (hg : w.heap[g]? = some (.cells cs t (0, 0))) (h1 : t ≠ 77) (h2 : t ≠ 64) : w'.heap[g]? = some (.cells cs t (0, 0)) :=
  (hb.block g (blk_lt hg) (not_foot h hg h1 h2)).trans hg
theorem foot_ge {w : World} {M : Nat} {sv : Value} {n : Nat} {f : TF} {L : List TE} (h : TillAt w M sv n f L) {k : Nat} (hk : tfoot M sv k) : M ≤ k := by
  rcases hk with e | e | e
  · omega
  · omega
  · have := own_ge h.row k e; omega
theorem hear_below {W w w' : World} {M : Nat} {sv : Value} {n : Nat} {f : TF} {L : List TE} (h : TillAt w M sv n f L) (hB : Below W.heap.size W w) (hM : W.heap.size ≤ M) (hb : But (tfoot M sv) w w') : Below W.heap.size W w' :=
  ⟨hb.os.trans hB.os, hb.tape.trans hB.tape, hb.output.trans hB.output, Nat.le_trans hB.size hb.size, fun k hk => (hb.block k (Nat.lt_of_lt_of_le hk hB.size) (fun e => by have := foot_ge h e; omega)).trans (hB.block k hk)⟩
theorem till_same {w w' : World} {M : Nat} {sv : Value} {n : Nat} {f : TF} {L : List TE} (h : TillAt w M sv n f L) (hb : Below w.heap.size w w') : TillAt w' M sv n f L := h.kept (F := fun _ => False) (But.of_below hb) (fun _ _ e => e)
theorem till_alloc {w : World} {M : Nat} {sv : Value} {n : Nat} {f : TF} {L : List TE} (h : TillAt w M sv n f L) (o : Obj) : TillAt (w.alloc o) M sv n f L := till_same h (below_alloc (Below.refl _ _) o)
theorem till_set {w : World} {M : Nat} {sv : Value} {n : Nat} {f : TF} {L : List TE} (h : TillAt w M sv n f L) {g : Nat} {cs : Array Value} {t : TypeId} (hg : w.heap[g]? = some (.cells cs t (0, 0))) (h1 : t ≠ 77) (h2 : t ≠ 64) (j : Nat) (u : Value) : TillAt (w.setCell ⟨g, j, none⟩ u) M sv n f L :=
  h.kept (F := fun k => k = g) (But.setCell (p := ⟨g, j, none⟩) (But.refl (fun k => k = g) w) (Or.inr rfl) u) (fun k hk e => by subst e; exact not_foot h hg h1 h2 hk)
theorem tentries_calls (W : World) (M : Nat) (sv : Value) (n : Nat) (f : TF) (L : List TE) (h : TillAt W M sv n f L) (ok : TOk L) (hL : 0 < L.length) :
    Calls Try.prog 32 #[.pointer (some ⟨M + 1, 0, none⟩)] W fun x w' => ∃ g cap, x = .returned (.slice (some ⟨g, 0, none⟩) L.length cap) ∧ w'.ownsRow W.heap.size 64 4 (.slice (some ⟨g, 0, none⟩) L.length cap) L.length (tflat L) ∧ Below W.heap.size W w' := by
  obtain ⟨c0, c1, ao, cap, rfl⟩ := h.cells
  obtain ⟨g0, rfl, _⟩ := h.entry 0 hL
  have HC := Aside0.mk (h.row.cells (g := g0) rfl)
  have HL := Aside0.mk h.row.1
  have HO : Aside0 (∀ u ∈ tflat L, u.oneCell' = true) := ⟨by
    intro u hu
    simp only [tflat, List.mem_flatMap] at hu
    obtain ⟨e, _, hu⟩ := hu
    simp at hu
    rcases hu with rfl | rfl | rfl | rfl <;> rfl⟩
  have hlen : L.length ≤ 1000 := ok.1
  clear h ok
  obtain ⟨i0, hi, hz0, hz1, hz2⟩ := info_parts tinfo
  go_enter Try.func32, Try.ntmps32
  go_wp2_with (at_builtin; refine wpList_append_lies _ rfl _ _ 51 rfl W.heap.size 64 i0 (.agg #[.int .i64 0, .int .i64 0, .int .i64 0, .int .i64 0]) 4 32 Try.underlying51 hi hz0 hz1 hz2 rfl (by decide) (.slice none 0 0) 0 [] rfl (World.ownsRow_nil _ _ _ _) ⟨g0, 0, none⟩ L.length cap (tflat L) rfl HL.out HC.out HO.out hL (by unfold maxLen; omega) (by omega) (by simp) _ rfl ?_; intro g cap1 w1 hown hgrow hat hlt)
  rw [Nat.zero_add] at hown
  go_ret
  exact ⟨g, cap1, rfl, by simpa using hown, (Below.refl _ W).grown hgrow (Nat.le_refl _) (fun k e => by simp [Value.ownBlock] at e)⟩
theorem aw_e1 : thear (fun _ _ _ => none) [] 1 1 2 1 100 1 = (1, (upd (fun _ _ _ => none) 1 2 1 1), [(1, 2, 1, 100)]) := by simp [thear, tfirst, tk]
theorem aw_e2 : thear (upd (fun _ _ _ => none) 1 2 1 1) [(1, 2, 1, 100)] 1 1 2 1 100 3 = (1, (upd (fun _ _ _ => none) 1 2 1 1), [(1, 2, 1, 100)]) := by simp [thear, tfirst, tk, upd]
theorem aw_e3 : thear (upd (fun _ _ _ => none) 1 2 1 1) [(1, 2, 1, 100)] 2 1 2 1 100 3 = (1, (upd (upd (fun _ _ _ => none) 1 2 1 1) 1 2 0 1), [(1, 2, 1, 100), (1, 2, 0, 100)]) := by simp [thear, tfirst, tk, upd, tsum, pT, tsg]
theorem aw_ok1 : TOk [(1, 2, 1, 100)] := ⟨by decide, by simp⟩
theorem aw_ok2 : TOk [(1, 2, 1, 100), (1, 2, 0, 100)] := ⟨by decide, by simp⟩
theorem aw_ok0 : TOk [] := ⟨by decide, by simp⟩
set_option maxHeartbeats 2000000 in
set_option maxRecDepth 20000 in
theorem tawake_calls (W : World) : Calls Try.prog 28 #[] W fun x w' => x = .returned (.bool true) ∧ Below W.heap.size W w' := by
  go_enter Try.func28, Try.ntmps28
  go_wp2_with fail
  with_reducible refine (tnew_calls W).mono ?_
  rintro x w1 ⟨rfl, ht, hb⟩
  have HT0 := Aside0.mk ht
  have HB0 := Aside0.mk hb
  have HG0 := Aside0.mk hb.size
  clear ht hb
  have N0 : Aside0 ((w1.alloc (.cells #[.int .u8 1, .int .i64 1, .int .i64 2, .int .i64 1, .int .i64 100, .int .u8 0] 56)).heap[w1.heap.size]? = some (.cells #[.int .u8 1, .int .i64 1, .int .i64 2, .int .i64 1, .int .i64 100, .int .u8 0] 56 (0, 0))) := ⟨blk_new w1 _⟩
  have HT1 := Aside0.mk (till_alloc HT0.out (.cells #[.int .u8 1, .int .i64 1, .int .i64 2, .int .i64 1, .int .i64 100, .int .u8 0] 56))
  have HB1 := Aside0.mk (below_alloc HB0.out (.cells #[.int .u8 1, .int .i64 1, .int .i64 2, .int .i64 1, .int .i64 100, .int .u8 0] 56))
  clear HT0 HB0
  go_wp2_with fail
  generalize (w1.alloc (.cells #[.int .u8 1, .int .i64 1, .int .i64 2, .int .i64 1, .int .i64 100, .int .u8 0] 56)) = w2 at N0 HT1 HB1 ⊢
  have HG := Aside0.mk (show W.heap.size ≤ w1.heap.size from HG0.out)
  clear HG0
  generalize w1.heap.size = g1 at N0 HG ⊢
  have KH := Aside0.mk (thear_calls w2 (W.heap.size) _ _ _ _ HT1.out aw_ok0 (by decide) 1 1 2 1 100 1 (by decide) (by decide) (by decide) (by decide) (by decide))
  rw [aw_e1] at KH
  with_reducible refine KH.out.mono ?_
  rintro x w3 ⟨rfl, sv_w3, ht, hb, ho⟩
  have HT3 := Aside0.mk ht
  have HB3 := Aside0.mk (hear_below HT1.out HB1.out (by first | exact Nat.le_refl _ | omega) hb)
  have N3 := Aside0.mk (hear_blk HT1.out hb N0.out (by decide) (by decide))
  clear KH ht hb ho HT1 HB1 N0
  have m0 := blk_cell N3.out 0
  have m1 := blk_cell N3.out 1
  have m2 := blk_cell N3.out 2
  have m3 := blk_cell N3.out 3
  have m4 := blk_cell N3.out 4
  have m5 := blk_cell N3.out 5
  simp only [List.getElem?_toArray, List.getElem?_cons_succ, List.getElem?_cons_zero] at m0 m1 m2 m3 m4 m5
  go_wp2_with fail
  clear m0 m1 m2 m3 m4 m5
  have KH := Aside0.mk (thear_calls w3 (W.heap.size) _ _ _ _ HT3.out aw_ok1 (by decide) 1 1 2 1 100 3 (by decide) (by decide) (by decide) (by decide) (by decide))
  rw [aw_e2] at KH
  with_reducible refine KH.out.mono ?_
  rintro x w4 ⟨rfl, sv_w4, ht, hb, ho⟩
  have HT4 := Aside0.mk ht
  have HB4 := Aside0.mk (hear_below HT3.out HB3.out (by first | exact Nat.le_refl _ | omega) hb)
  have N4 := Aside0.mk (hear_blk HT3.out hb N3.out (by decide) (by decide))
  clear KH ht hb ho HT3 HB3 N3
  have m0 := blk_cell N4.out 0
  have m1 := blk_cell N4.out 1
  have m2 := blk_cell N4.out 2
  have m3 := blk_cell N4.out 3
  have m4 := blk_cell N4.out 4
  have m5 := blk_cell N4.out 5
  simp only [List.getElem?_toArray, List.getElem?_cons_succ, List.getElem?_cons_zero] at m0 m1 m2 m3 m4 m5
  have f0 := blk_frozen N4.out 0
  have hl := blk_lt N4.out
  go_wp2_with fail
  clear m0 m1 m2 m3 m4 m5 f0 hl
  have HT4s := Aside0.mk (till_set HT4.out N4.out (by decide) (by decide) 0 (.int .u8 2))
  have HB4s := Aside0.mk (below_set (j := 0) (v := .int .u8 2) HB4.out HG.out)
  have N4s : Aside0 ((w4.setCell ⟨g1, 0, none⟩ (.int .u8 2)).heap[g1]? = some (.cells #[.int .u8 2, .int .i64 1, .int .i64 2, .int .i64 1, .int .i64 100, .int .u8 0] 56 (0, 0))) := ⟨blk_put N4.out 0 _ rfl⟩
  have hsz : (w4.setCell ⟨g1, 0, none⟩ (.int .u8 2)).heap.size = w4.heap.size := by simp
  rw [← hsz]
  clear HT4 HB4 N4 hsz
  generalize w4.setCell ⟨g1, 0, none⟩ (.int .u8 2) = w5 at HT4s HB4s N4s ⊢
  have HT5 := Aside0.mk (till_alloc HT4s.out (.cells #[.int .u8 1, .int .i64 1, .int .i64 2, .int .i64 1, .int .i64 100, .int .u8 1] 56))
  have HB5 := Aside0.mk (below_alloc HB4s.out (.cells #[.int .u8 1, .int .i64 1, .int .i64 2, .int .i64 1, .int .i64 100, .int .u8 1] 56))
  have N5 := Aside0.mk (blk_alloc N4s.out (.cells #[.int .u8 1, .int .i64 1, .int .i64 2, .int .i64 1, .int .i64 100, .int .u8 1] 56))
  have A5 : Aside0 ((w5.alloc (.cells #[.int .u8 1, .int .i64 1, .int .i64 2, .int .i64 1, .int .i64 100, .int .u8 1] 56)).heap[w5.heap.size]? = some (.cells #[.int .u8 1, .int .i64 1, .int .i64 2, .int .i64 1, .int .i64 100, .int .u8 1] 56 (0, 0))) := ⟨blk_new w5 _⟩
  clear HT4s HB4s N4s
  generalize w5.alloc (.cells #[.int .u8 1, .int .i64 1, .int .i64 2, .int .i64 1, .int .i64 100, .int .u8 1] 56) = w6 at HT5 HB5 N5 A5 ⊢
  generalize w5.heap.size = g2 at A5 ⊢
  have KH := Aside0.mk (thear_calls w6 (W.heap.size) _ _ _ _ HT5.out aw_ok1 (by decide) 2 1 2 1 100 3 (by decide) (by decide) (by decide) (by decide) (by decide))
  rw [aw_e3] at KH
  with_reducible refine KH.out.mono ?_
  rintro x w7 ⟨rfl, sv_w7, ht, hb, ho⟩
  have HT7 := Aside0.mk ht
  have HB7 := Aside0.mk (hear_below HT5.out HB5.out (by first | exact Nat.le_refl _ | omega) hb)
  have N7 := Aside0.mk (hear_blk HT5.out hb N5.out (by decide) (by decide))
  have A7 := Aside0.mk (hear_blk HT5.out hb A5.out (by decide) (by decide))
  clear KH ht hb ho HT5 HB5 N5 A5
  have HT8 := Aside0.mk (till_alloc HT7.out (.cells #[.int .u8 2, .int .i64 1, .int .i64 2, .int .i64 1, .int .i64 100, .int .u8 1] 56))
  have HB8 := Aside0.mk (below_alloc HB7.out (.cells #[.int .u8 2, .int .i64 1, .int .i64 2, .int .i64 1, .int .i64 100, .int .u8 1] 56))
  have N8 := Aside0.mk (blk_alloc N7.out (.cells #[.int .u8 2, .int .i64 1, .int .i64 2, .int .i64 1, .int .i64 100, .int .u8 1] 56))
  have A8 := Aside0.mk (blk_alloc A7.out (.cells #[.int .u8 2, .int .i64 1, .int .i64 2, .int .i64 1, .int .i64 100, .int .u8 1] 56))
  have D8 : Aside0 ((w7.alloc (.cells #[.int .u8 2, .int .i64 1, .int .i64 2, .int .i64 1, .int .i64 100, .int .u8 1] 56)).heap[w7.heap.size]? = some (.cells #[.int .u8 2, .int .i64 1, .int .i64 2, .int .i64 1, .int .i64 100, .int .u8 1] 56 (0, 0))) := ⟨blk_new w7 _⟩
  have m0 := blk_cell A7.out 0
  have m1 := blk_cell A7.out 1
  have m2 := blk_cell A7.out 2
  have m3 := blk_cell A7.out 3
  have m4 := blk_cell A7.out 4
  have m5 := blk_cell A7.out 5
  simp only [List.getElem?_toArray, List.getElem?_cons_succ, List.getElem?_cons_zero] at m0 m1 m2 m3 m4 m5
  have hl := blk_lt A7.out
  go_wp2_with fail
  clear m0 m1 m2 m3 m4 m5 hl HT7 HB7 N7 A7
  have KE := Aside0.mk (tentries_calls _ _ _ _ _ _ HT8.out aw_ok2 (by decide))
  with_reducible refine KE.out.mono ?_
  rintro x w9 ⟨ge, ce, rfl, _, hb⟩
  have HT9 := Aside0.mk (till_same HT8.out hb)
  have HB9 := Aside0.mk (below_step HB8.out hb)
  have D9 := Aside0.mk (blk_below D8.out hb)
  clear KE hb HT8 HB8 D8 N8 A8
  generalize w7.heap.size = g3 at D9 ⊢
  have m0 := blk_cell D9.out 0
  have m1 := blk_cell D9.out 1
  have m2 := blk_cell D9.out 2
  have m3 := blk_cell D9.out 3
  have m4 := blk_cell D9.out 4
  have m5 := blk_cell D9.out 5
  simp only [List.getElem?_toArray, List.getElem?_cons_succ, List.getElem?_cons_zero] at m0 m1 m2 m3 m4 m5
  go_wp2_with fail
  clear m0 m1 m2 m3 m4 m5
  have KN := Aside0.mk (tnet_calls _ _ _ _ _ _ HT9.out aw_ok2 1)
  have e0 : tsum (pN 1) [(1, 2, 1, 100), (1, 2, 0, 100)] = 0 := by simp [tsum, pN, tsg]
  rw [e0] at KN
  with_reducible refine KN.out.mono ?_
  rintro x w10 ⟨rfl, hb⟩
  have HB10 := Aside0.mk (below_step HB9.out hb)
  clear KN hb e0
  go_wp2
  go_ret
  exact ⟨rfl, HB10.out⟩
end Go.Proofs.Ytljfmfkgpnabaaa.Pure
