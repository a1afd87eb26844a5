/- Till. -/
import Derived.Test.YtljfmfkgpnabaaaTillFirst
set_option linter.unusedVariables false
set_option linter.unusedSimpArgs false
namespace Go.Proofs.Ytljfmfkgpnabaaa.Pure
open Go.RowKit  Go.Proofs.YtljfmfkgpnabaaaW.PrintWords Go.Proofs.YtljfmfkgpnabaaaW.PrintLast
open Go.Maps Go.ChangeShapes Go.WideShapes Go.Joins
open Go.Proofs.Ytljfmfkgpnabaaa
attribute [local go_sem] setCell_map

open Go.Maps Go.ChangeShapes Go.WideShapes Go.Joins
theorem tfirst_calls (W : World) (M : Nat) (sv : Value) (n : Nat) (f : TF) (L : List TE) (h : TillAt W M sv n f L) (ok : TOk L) (kind s c t am ve v : Int) (hk : kind = 1 ∨ kind = 2) :
    Calls Try.prog 37 #[.pointer (some ⟨M + 1, 0, none⟩), .agg #[.int .u8 kind, .int .i64 s, .int .i64 c, .int .i64 t, .int .i64 am, .int .u8 ve], .int .u8 v] W fun x w' => x = .returned (.int .u8 (tfirst L kind s c t am v).1) ∧
      ∃ sv', TillAt w' M sv' n f (tfirst L kind s c t am v).2 ∧ But (tfoot M sv) W w' ∧ ∀ k, sv'.ownBlock = some k → sv.ownBlock = some k ∨ W.heap.size ≤ k := by
  rcases hk with rfl | rfl
  · by_cases hv : v = 1
    · subst hv
      exact tfirst_yes W M sv n f L h ok s c t am ve
    · refine (tfirst_no W M s c t am ve v hv).mono ?_
      rintro x w' ⟨rfl, hb⟩
      simp only [tfirst, if_true, if_neg hv]
      exact ⟨trivial, sv, h.kept (F := fun _ => False) (But.of_below hb) (fun _ _ e => e), But.of_below hb, fun k hk => Or.inl hk⟩
  · by_cases h0 : tsum (pT s c) L = 0
    · refine (tfirst_back0 W M sv n f L h ok s c t am ve v h0).mono ?_
      rintro x w' ⟨rfl, hb⟩
      simp only [tfirst, if_pos h0]
      exact ⟨by simp, sv, h.kept (F := fun _ => False) (But.of_below hb) (fun _ _ e => e), But.of_below hb, fun k hk => Or.inl hk⟩
    · refine (tfirst_back W M sv n f L h ok s c t am ve v h0).mono ?_
      rintro x w' ⟨rfl, hb⟩
      simp only [tfirst, if_neg h0]
      exact ⟨by simp, by simpa using hb⟩
theorem TillAt.look {w : World} {M : Nat} {sv : Value} {n : Nat} {f : TF} {L : List TE} (h : TillAt w M sv n f L) (s c k : Int) (hs : (Lit.int .i64 s).wf = true) (hc : (Lit.int .i64 c).wf = true) (hk : (Lit.int .i64 k).wf = true) :
    (Instr.lookup 75 (.map (some M)) (.agg #[.int .i64 s, .int .i64 c, .int .i64 k]) true).run Try.prog w = .ok (.tuple #[.int .u8 ((f s c k).getD 0), .bool (f s c k).isSome]) w := by
  obtain ⟨D, hD, hS⟩ := h.map
  obtain ⟨l, hl⟩ := tkey_of s c k hs hc hk
  obtain ⟨v, ps, hrun, hv⟩ := hD.look_ok tlaw Try.underlying75 (tzero w) (plainElem_int Try.underlying5 (by decide)) hl
  obtain ⟨g1, g2⟩ := hS s c k hs hc hk l hl
  obtain ⟨a, rfl, hz, _⟩ := plainElem_int_inv Try.underlying5 hv
  rw [g2] at hz
  simp only [Prod.mk.injEq, DataW.lit.injEq, Lit.int.injEq, true_and] at hz
  rw [g1] at hrun
  rw [hz.1]
  exact hrun
theorem TillAt.put {w : World} {M : Nat} {sv : Value} {n : Nat} {f : TF} {L : List TE} (h : TillAt w M sv n f L) (hn : n < maxLen) (s c k r : Int) (hs : (Lit.int .i64 s).wf = true) (hc : (Lit.int .i64 c).wf = true) (hk : (Lit.int .i64 k).wf = true) (hr : (Lit.int .u8 r).wf = true) :
    ∃ w', (Instr.mapUpdate 75 (.map (some M)) (.agg #[.int .i64 s, .int .i64 c, .int .i64 k]) (.int .u8 r)).run Try.prog w = .ok () w' ∧ TillAt w' M sv (n + 1) (upd f s c k r) L ∧ But (tfoot M sv) w w' ∧ w.grownBy w' (some M) := by
  obtain ⟨D, hD, hS⟩ := h.map
  obtain ⟨l, hl⟩ := tkey_of s c k hs hc hk
  obtain ⟨w', hrun, hD', hT⟩ := hD.store tlaw Try.underlying75 hn hl (plainElem_int Try.underlying5 hr)
  have hg := hT.grown
  have hge := own_ge h.row
  refine ⟨w', hrun, ⟨blk_grown h.blk hg (by simp), ⟨_, hD', says_put hD.isMap hS s c k r l hl⟩, h.row.kept hg ?_⟩, But.of_grown hg (fun k hk => Or.inl (by simpa using hk.symm)), hg⟩
  cases ho : sv.ownBlock with
  | none => exact Or.inl rfl
  | some q => exact Or.inr (fun e => by have := hge q ho; simp only [Option.some.injEq] at e; omega)
/-- What is answered, what is known behind it, the list behind it. -/
theorem blk_six {w : World} {g : Nat} {t : TypeId} {a0 a1 a2 a3 a4 a5 : Value} (h : w.heap[g]? = some (.cells #[a0, a1, a2, a3, a4, a5] t (0, 0))) (b0 b1 b2 b3 b4 b5 : Value) :
    ((((((w.setCell ⟨g, 0, none⟩ b0).setCell ⟨g, 1, none⟩ b1).setCell ⟨g, 2, none⟩ b2).setCell ⟨g, 3, none⟩ b3).setCell ⟨g, 4, none⟩ b4).setCell ⟨g, 5, none⟩ b5).heap[g]? = some (.cells #[b0, b1, b2, b3, b4, b5] t (0, 0)) := by
  have := blk_set (blk_set (blk_set (blk_set (blk_set (blk_set h 0 b0) 1 b1) 2 b2) 3 b3) 4 b4) 5 b5
  simpa using this
def tk (kind t : Int) : Int := if kind = 2 then 0 else t
def thear (f : TF) (L : List TE) (kind s c t am v : Int) : Int × TF × List TE :=
  match f s c (tk kind t) with
  | some v0 => (v0, f, L)
  | none => ((tfirst L kind s c t am v).1, upd f s c (tk kind t) (tfirst L kind s c t am v).1, (tfirst L kind s c t am v).2)

set_option maxHeartbeats 2000000 in
set_option maxRecDepth 20000 in
theorem thear_old1 (W : World) (M : Nat) (sv : Value) (n : Nat) (f : TF) (L : List TE) (h : TillAt W M sv n f L) (ok : TOk L) (hn : n < maxLen) (s c t am v : Int) (hs : (Lit.int .i64 s).wf = true) (hc : (Lit.int .i64 c).wf = true) (ht : (Lit.int .i64 t).wf = true) (v0 : Int) (hf : f s c t = some v0) :
    Calls Try.prog 31 #[.pointer (some ⟨M + 1, 0, none⟩), .agg #[.int .u8 1, .int .i64 s, .int .i64 c, .int .i64 t, .int .i64 am, .int .u8 0], .int .u8 v] W fun x w' => x = .returned (.tuple #[.agg #[.int .u8 1, .int .i64 s, .int .i64 c, .int .i64 t, .int .i64 am, .int .u8 v0], .bool true]) ∧ Below W.heap.size W w' := by
  have hM := h.lt
  have HT0 := Aside0.mk h
  have HO := Aside0.mk ok
  have HN := Aside0.mk hn
  have HF := Aside0.mk hf
  have HW := Aside0.mk (And.intro hs (And.intro hc ht))
  have B0 := Aside0.mk (below_alloc (below_alloc (below_alloc (Below.refl W.heap.size W) (.cells #[.int .u8 1, .int .i64 s, .int .i64 c, .int .i64 t, .int .i64 am, .int .u8 0] 56)) (.cells #[.int .u8 0, .int .i64 0, .int .i64 0, .int .i64 0, .int .i64 0, .int .u8 0] 56)) (.cells #[.int .i64 s, .int .i64 c, .int .i64 t] 79))
  have N0 : Aside0 ((((W.alloc (.cells #[.int .u8 1, .int .i64 s, .int .i64 c, .int .i64 t, .int .i64 am, .int .u8 0] 56)).alloc (.cells #[.int .u8 0, .int .i64 0, .int .i64 0, .int .i64 0, .int .i64 0, .int .u8 0] 56)).alloc (.cells #[.int .i64 s, .int .i64 c, .int .i64 t] 79)).heap[W.heap.size]? = some (.cells #[.int .u8 1, .int .i64 s, .int .i64 c, .int .i64 t, .int .i64 am, .int .u8 0] 56 (0, 0))) := ⟨blk_alloc (blk_alloc (blk_new W _) _) _⟩
  have R0 : Aside0 ((((W.alloc (.cells #[.int .u8 1, .int .i64 s, .int .i64 c, .int .i64 t, .int .i64 am, .int .u8 0] 56)).alloc (.cells #[.int .u8 0, .int .i64 0, .int .i64 0, .int .i64 0, .int .i64 0, .int .u8 0] 56)).alloc (.cells #[.int .i64 s, .int .i64 c, .int .i64 t] 79)).heap[W.heap.size + 1]? = some (.cells #[.int .u8 0, .int .i64 0, .int .i64 0, .int .i64 0, .int .i64 0, .int .u8 0] 56 (0, 0))) := ⟨blk_alloc (by simpa using blk_new (W.alloc (.cells #[.int .u8 1, .int .i64 s, .int .i64 c, .int .i64 t, .int .i64 am, .int .u8 0] 56)) (.cells #[.int .u8 0, .int .i64 0, .int .i64 0, .int .i64 0, .int .i64 0, .int .u8 0] 56)) _⟩
  have K0 : Aside0 ((((W.alloc (.cells #[.int .u8 1, .int .i64 s, .int .i64 c, .int .i64 t, .int .i64 am, .int .u8 0] 56)).alloc (.cells #[.int .u8 0, .int .i64 0, .int .i64 0, .int .i64 0, .int .i64 0, .int .u8 0] 56)).alloc (.cells #[.int .i64 s, .int .i64 c, .int .i64 t] 79)).heap[W.heap.size + 2]? = some (.cells #[.int .i64 s, .int .i64 c, .int .i64 t] 79 (0, 0))) := ⟨by simpa using blk_new ((W.alloc (.cells #[.int .u8 1, .int .i64 s, .int .i64 c, .int .i64 t, .int .i64 am, .int .u8 0] 56)).alloc (.cells #[.int .u8 0, .int .i64 0, .int .i64 0, .int .i64 0, .int .i64 0, .int .u8 0] 56)) (.cells #[.int .i64 s, .int .i64 c, .int .i64 t] 79)⟩
  have c0 := h.cells.1
  clear h ok hn hf hs hc ht
  go_enter Try.func31, Try.ntmps31
  go_wp2_with fail
  have B1 := B0
  have N1 := N0
  have R1 := R0
  have K1 := K0
  clear B0 N0 R0 K0
  generalize (((W.alloc (.cells #[.int .u8 1, .int .i64 s, .int .i64 c, .int .i64 t, .int .i64 am, .int .u8 0] 56)).alloc (.cells #[.int .u8 0, .int .i64 0, .int .i64 0, .int .i64 0, .int .i64 0, .int .u8 0] 56)).alloc (.cells #[.int .i64 s, .int .i64 c, .int .i64 t] 79)) = W1 at B1 N1 R1 K1 ⊢
  have HT1 := Aside0.mk (HT0.out.kept (F := fun _ => False) (But.of_below B1.out) (fun _ _ e => e))
  have u0 : W1.drew.cell? ⟨M + 1, 0, none⟩ = some (.map (some M)) := HT1.out.cells.1
  have u1 : W1.drew.cell? ⟨W.heap.size + 2, 0, none⟩ = some (.int .i64 s) := blk_cell K1.out 0
  have u2 : W1.drew.cell? ⟨W.heap.size + 2, 1, none⟩ = some (.int .i64 c) := blk_cell K1.out 1
  have u3 : W1.drew.cell? ⟨W.heap.size + 2, 2, none⟩ = some (.int .i64 t) := blk_cell K1.out 2
  have u4 : (Instr.lookup 75 (.map (some M)) (.agg #[.int .i64 s, .int .i64 c, .int .i64 t]) true).run Try.prog W1.drew = .ok (.tuple #[.int .u8 v0, .bool true]) W1.drew := by
    have := (show TillAt W1.drew M sv n f L from HT1.out.kept (F := fun _ => False) (But.refl _ W1).drew (fun _ _ e => e)).look s c t HW.out.1 HW.out.2.1 HW.out.2.2
    rw [HF.out] at this
    exact this
  refine start_ (n := 11) (S := fun w' => w'.cell? ⟨M + 1, 0, none⟩ = some (.map (some M)) ∧ w'.cell? ⟨W.heap.size + 2, 0, none⟩ = some (.int .i64 s) ∧ w'.cell? ⟨W.heap.size + 2, 1, none⟩ = some (.int .i64 c) ∧ w'.cell? ⟨W.heap.size + 2, 2, none⟩ = some (.int .i64 t) ∧ (Instr.lookup 75 (.map (some M)) (.agg #[.int .i64 s, .int .i64 c, .int .i64 t]) true).run Try.prog w' = .ok (.tuple #[.int .u8 v0, .bool true]) w') (ds := []) #[false, false, false, false, false, false, false, false, false, false, false] (by kernel_rfl) rfl rfl ⟨u0, u1, u2, u3, u4⟩ (fun hHeld => ?_)
  refine pure_ (i := 0) (N := some 41) (v := ?_) (a' := ?_) #[true, false, false, false, false, false, false, false, false, false, false] rfl rfl (by kernel_rfl) (fun _ _ _ h => h) (Or.inl ⟨by rfl, ?_⟩) ?_ ?_
  rotate_left
  · intro w'
    go_simp
    with_reducible rfl
  rotate_left
  · simp only [Act.put, List.setIfInBounds_toArray, List.set_cons_zero, List.set_cons_succ, i64_w, i32_w]
    rfl
  refine pure_ (i := 1) (N := some 42) (v := ?_) (a' := ?_) #[true, true, false, false, false, false, false, false, false, false, false] rfl rfl (by kernel_rfl) (fun _ _ _ h => h) (Or.inl ⟨by rfl, ?_⟩) ?_ ?_
  rotate_left
  · intro w'
    go_simp
    with_reducible rfl
  rotate_left
  · simp only [Act.put, List.setIfInBounds_toArray, List.set_cons_zero, List.set_cons_succ, i64_w, i32_w]
    rfl
  refine pure_ (i := 2) (N := some 43) (v := ?_) (a' := ?_) #[true, true, true, false, false, false, false, false, false, false, false] rfl rfl (by kernel_rfl) (fun _ _ _ h => h) (Or.inl ⟨by rfl, ?_⟩) ?_ ?_
  rotate_left
  · intro w'
    go_simp
    with_reducible rfl
  rotate_left
  · simp only [Act.put, List.setIfInBounds_toArray, List.set_cons_zero, List.set_cons_succ, i64_w, i32_w]
    rfl
  refine take_ (i := 3) (N := some 44) (v := ?_) (a' := ?_) #[true, true, true, true, false, false, false, false, false, false, false] rfl rfl (by kernel_rfl) (fun _ _ _ h => h) (Or.inl ⟨by rfl, ?_⟩) hHeld ?_ ?_
  rotate_left
  · rintro w' ⟨s0, s1, s2, s3, s4⟩
    go_simp
    with_reducible rfl
  rotate_left
  · simp only [Act.put, List.setIfInBounds_toArray, List.set_cons_zero, List.set_cons_succ, i64_w, i32_w]
    rfl
  refine take_ (i := 4) (N := some 45) (v := ?_) (a' := ?_) #[true, true, true, true, true, false, false, false, false, false, false] rfl rfl (by kernel_rfl) (fun _ _ _ h => h) (Or.inl ⟨by rfl, ?_⟩) hHeld ?_ ?_
  rotate_left
  · rintro w' ⟨s0, s1, s2, s3, s4⟩
    go_simp
    with_reducible rfl
  rotate_left
  · simp only [Act.put, List.setIfInBounds_toArray, List.set_cons_zero, List.set_cons_succ, i64_w, i32_w]
    rfl
  refine take_ (i := 5) (N := some 46) (v := ?_) (a' := ?_) #[true, true, true, true, true, true, false, false, false, false, false] rfl rfl (by kernel_rfl) (fun _ _ _ h => h) (Or.inl ⟨by rfl, ?_⟩) hHeld ?_ ?_
  rotate_left
  · rintro w' ⟨s0, s1, s2, s3, s4⟩
    go_simp
    with_reducible rfl
  rotate_left
  · simp only [Act.put, List.setIfInBounds_toArray, List.set_cons_zero, List.set_cons_succ, i64_w, i32_w]
    rfl
  refine pure_ (i := 6) (N := some 40) (v := ?_) (a' := ?_) #[true, true, true, true, true, true, true, false, false, false, false] rfl rfl (by kernel_rfl) (fun _ _ _ h => h) (Or.inl ⟨by rfl, ?_⟩) ?_ ?_
  rotate_left
  · intro w'
    go_simp
    with_reducible rfl
  rotate_left
  · simp only [Act.put, List.setIfInBounds_toArray, List.set_cons_zero, List.set_cons_succ, i64_w, i32_w]
    rfl
  refine pure_ (i := 7) (N := some 47) (v := ?_) (a' := ?_) #[true, true, true, true, true, true, true, true, false, false, false] rfl rfl (by kernel_rfl) (fun _ _ _ h => h) (Or.inl ⟨by rfl, ?_⟩) ?_ ?_
  rotate_left
  · intro w'
    go_simp
    with_reducible rfl
  rotate_left
  · simp only [Act.put, List.setIfInBounds_toArray, List.set_cons_zero, List.set_cons_succ, i64_w, i32_w]
    rfl
  refine pure_ (i := 8) (N := some 48) (v := ?_) (a' := ?_) #[true, true, true, true, true, true, true, true, true, false, false] rfl rfl (by kernel_rfl) (fun _ _ _ h => h) (Or.inl ⟨by rfl, ?_⟩) ?_ ?_
  rotate_left
  · intro w'
    go_simp
    with_reducible rfl
  rotate_left
  · simp only [Act.put, List.setIfInBounds_toArray, List.set_cons_zero, List.set_cons_succ, i64_w, i32_w]
    rfl
  refine pure_ (i := 9) (N := some 9) (v := ?_) (a' := ?_) #[true, true, true, true, true, true, true, true, true, true, false] rfl rfl (by kernel_rfl) (fun _ _ _ h => h) (Or.inl ⟨by rfl, ?_⟩) ?_ ?_
  rotate_left
  · intro w'
    go_simp
    with_reducible rfl
  rotate_left
  · simp only [Act.put, List.setIfInBounds_toArray, List.set_cons_zero, List.set_cons_succ, i64_w, i32_w]
    rfl
  refine pure_ (i := 10) (N := some 10) (v := ?_) (a' := ?_) #[true, true, true, true, true, true, true, true, true, true, true] rfl rfl (by kernel_rfl) (fun _ _ _ h => h) (Or.inl ⟨by rfl, ?_⟩) ?_ ?_
  rotate_left
  · intro w'
    go_simp
    with_reducible rfl
  rotate_left
  · simp only [Act.put, List.setIfInBounds_toArray, List.set_cons_zero, List.set_cons_succ, i64_w, i32_w]
    rfl
  refine done_ (by kernel_rfl) ?_
  clear u0 u1 u2 u3 u4
  have n0 := N1.out
  have r0 := R1.out
  have N5 := Aside0.mk n0
  have R5 := Aside0.mk r0
  have m0 := blk_cell n0 0
  have m1 := blk_cell n0 1
  have m2 := blk_cell n0 2
  have m3 := blk_cell n0 3
  have m4 := blk_cell n0 4
  have m5 := blk_cell n0 5
  have y0 := blk_cell r0 0
  have f0 := blk_frozen r0 0
  have y1 := blk_cell r0 1
  have f1 := blk_frozen r0 1
  have y2 := blk_cell r0 2
  have f2 := blk_frozen r0 2
  have y3 := blk_cell r0 3
  have f3 := blk_frozen r0 3
  have y4 := blk_cell r0 4
  have f4 := blk_frozen r0 4
  have y5 := blk_cell r0 5
  have f5 := blk_frozen r0 5
  have f6 := blk_frozen n0 5
  simp only [List.getElem?_toArray, List.getElem?_cons_succ, List.getElem?_cons_zero] at m0 m1 m2 m3 m4 m5 y0 y1 y2 y3 y4 y5
  clear n0 r0
  go_wp2_with fail
  refine bodyPost_ret (v := .tuple #[.agg #[.int .u8 1, .int .i64 s, .int .i64 c, .int .i64 t, .int .i64 am, .int .u8 v0], .bool true]) (results_list (rs := [.cell 6 56, .tmp 7]) rfl (by simp) (.cell (W.heap.size + 1) 56 #[.int .u8 1, .int .i64 s, .int .i64 c, .int .i64 t, .int .i64 am, .int .u8 v0] (0, 0) _ rfl (blk_drew (blk_six (blk_far R5.out (by simp) _) _ _ _ _ _ _)) Try.underlying56 rfl (by kernel_rfl) (.tmp .nil))) rfl ⟨rfl, ?_⟩
  exact below_drew (below_set (below_set (below_set (below_set (below_set (below_set (below_set B1.out (Nat.le_refl _)) (g := W.heap.size + 1) (by omega)) (g := W.heap.size + 1) (by omega)) (g := W.heap.size + 1) (by omega)) (g := W.heap.size + 1) (by omega)) (g := W.heap.size + 1) (by omega)) (g := W.heap.size + 1) (by omega))

set_option maxHeartbeats 2000000 in
set_option maxRecDepth 20000 in
theorem thear_old2 (W : World) (M : Nat) (sv : Value) (n : Nat) (f : TF) (L : List TE) (h : TillAt W M sv n f L) (ok : TOk L) (hn : n < maxLen) (s c t am v : Int) (hs : (Lit.int .i64 s).wf = true) (hc : (Lit.int .i64 c).wf = true) (ht : (Lit.int .i64 t).wf = true) (v0 : Int) (hf : f s c 0 = some v0) :
    Calls Try.prog 31 #[.pointer (some ⟨M + 1, 0, none⟩), .agg #[.int .u8 2, .int .i64 s, .int .i64 c, .int .i64 t, .int .i64 am, .int .u8 0], .int .u8 v] W fun x w' => x = .returned (.tuple #[.agg #[.int .u8 2, .int .i64 s, .int .i64 c, .int .i64 t, .int .i64 am, .int .u8 v0], .bool true]) ∧ Below W.heap.size W w' := by
  have hz0 : (Lit.int .i64 0).wf = true := by decide
  have hM := h.lt
  have HT0 := Aside0.mk h
  have HO := Aside0.mk ok
  have HN := Aside0.mk hn
  have HF := Aside0.mk hf
  have HW := Aside0.mk (And.intro hs (And.intro hc hz0))
  have B0 := Aside0.mk (below_alloc (below_alloc (below_alloc (Below.refl W.heap.size W) (.cells #[.int .u8 2, .int .i64 s, .int .i64 c, .int .i64 t, .int .i64 am, .int .u8 0] 56)) (.cells #[.int .u8 0, .int .i64 0, .int .i64 0, .int .i64 0, .int .i64 0, .int .u8 0] 56)) (.cells #[.int .i64 s, .int .i64 c, .int .i64 0] 79))
  have N0 : Aside0 ((((W.alloc (.cells #[.int .u8 2, .int .i64 s, .int .i64 c, .int .i64 t, .int .i64 am, .int .u8 0] 56)).alloc (.cells #[.int .u8 0, .int .i64 0, .int .i64 0, .int .i64 0, .int .i64 0, .int .u8 0] 56)).alloc (.cells #[.int .i64 s, .int .i64 c, .int .i64 0] 79)).heap[W.heap.size]? = some (.cells #[.int .u8 2, .int .i64 s, .int .i64 c, .int .i64 t, .int .i64 am, .int .u8 0] 56 (0, 0))) := ⟨blk_alloc (blk_alloc (blk_new W _) _) _⟩
  have R0 : Aside0 ((((W.alloc (.cells #[.int .u8 2, .int .i64 s, .int .i64 c, .int .i64 t, .int .i64 am, .int .u8 0] 56)).alloc (.cells #[.int .u8 0, .int .i64 0, .int .i64 0, .int .i64 0, .int .i64 0, .int .u8 0] 56)).alloc (.cells #[.int .i64 s, .int .i64 c, .int .i64 0] 79)).heap[W.heap.size + 1]? = some (.cells #[.int .u8 0, .int .i64 0, .int .i64 0, .int .i64 0, .int .i64 0, .int .u8 0] 56 (0, 0))) := ⟨blk_alloc (by simpa using blk_new (W.alloc (.cells #[.int .u8 2, .int .i64 s, .int .i64 c, .int .i64 t, .int .i64 am, .int .u8 0] 56)) (.cells #[.int .u8 0, .int .i64 0, .int .i64 0, .int .i64 0, .int .i64 0, .int .u8 0] 56)) _⟩
  have K0 : Aside0 ((((W.alloc (.cells #[.int .u8 2, .int .i64 s, .int .i64 c, .int .i64 t, .int .i64 am, .int .u8 0] 56)).alloc (.cells #[.int .u8 0, .int .i64 0, .int .i64 0, .int .i64 0, .int .i64 0, .int .u8 0] 56)).alloc (.cells #[.int .i64 s, .int .i64 c, .int .i64 0] 79)).heap[W.heap.size + 2]? = some (.cells #[.int .i64 s, .int .i64 c, .int .i64 0] 79 (0, 0))) := ⟨by simpa using blk_new ((W.alloc (.cells #[.int .u8 2, .int .i64 s, .int .i64 c, .int .i64 t, .int .i64 am, .int .u8 0] 56)).alloc (.cells #[.int .u8 0, .int .i64 0, .int .i64 0, .int .i64 0, .int .i64 0, .int .u8 0] 56)) (.cells #[.int .i64 s, .int .i64 c, .int .i64 0] 79)⟩
  have c0 := h.cells.1
  clear h ok hn hf hs hc ht hz0
  go_enter Try.func31, Try.ntmps31
  go_wp2_with fail
  have B1 := B0
  have N1 := N0
  have R1 := R0
  have K1 := K0
  clear B0 N0 R0 K0
  generalize (((W.alloc (.cells #[.int .u8 2, .int .i64 s, .int .i64 c, .int .i64 t, .int .i64 am, .int .u8 0] 56)).alloc (.cells #[.int .u8 0, .int .i64 0, .int .i64 0, .int .i64 0, .int .i64 0, .int .u8 0] 56)).alloc (.cells #[.int .i64 s, .int .i64 c, .int .i64 0] 79)) = W1 at B1 N1 R1 K1 ⊢
  have HT1 := Aside0.mk (HT0.out.kept (F := fun _ => False) (But.of_below B1.out) (fun _ _ e => e))
  have u0 : W1.drew.cell? ⟨M + 1, 0, none⟩ = some (.map (some M)) := HT1.out.cells.1
  have u1 : W1.drew.cell? ⟨W.heap.size + 2, 0, none⟩ = some (.int .i64 s) := blk_cell K1.out 0
  have u2 : W1.drew.cell? ⟨W.heap.size + 2, 1, none⟩ = some (.int .i64 c) := blk_cell K1.out 1
  have u3 : W1.drew.cell? ⟨W.heap.size + 2, 2, none⟩ = some (.int .i64 0) := blk_cell K1.out 2
  have u4 : (Instr.lookup 75 (.map (some M)) (.agg #[.int .i64 s, .int .i64 c, .int .i64 0]) true).run Try.prog W1.drew = .ok (.tuple #[.int .u8 v0, .bool true]) W1.drew := by
    have := (show TillAt W1.drew M sv n f L from HT1.out.kept (F := fun _ => False) (But.refl _ W1).drew (fun _ _ e => e)).look s c 0 HW.out.1 HW.out.2.1 HW.out.2.2
    rw [HF.out] at this
    exact this
  refine start_ (n := 11) (S := fun w' => w'.cell? ⟨M + 1, 0, none⟩ = some (.map (some M)) ∧ w'.cell? ⟨W.heap.size + 2, 0, none⟩ = some (.int .i64 s) ∧ w'.cell? ⟨W.heap.size + 2, 1, none⟩ = some (.int .i64 c) ∧ w'.cell? ⟨W.heap.size + 2, 2, none⟩ = some (.int .i64 0) ∧ (Instr.lookup 75 (.map (some M)) (.agg #[.int .i64 s, .int .i64 c, .int .i64 0]) true).run Try.prog w' = .ok (.tuple #[.int .u8 v0, .bool true]) w') (ds := []) #[false, false, false, false, false, false, false, false, false, false, false] (by kernel_rfl) rfl rfl ⟨u0, u1, u2, u3, u4⟩ (fun hHeld => ?_)
  refine pure_ (i := 0) (N := some 41) (v := ?_) (a' := ?_) #[true, false, false, false, false, false, false, false, false, false, false] rfl rfl (by kernel_rfl) (fun _ _ _ h => h) (Or.inl ⟨by rfl, ?_⟩) ?_ ?_
  rotate_left
  · intro w'
    go_simp
    with_reducible rfl
  rotate_left
  · simp only [Act.put, List.setIfInBounds_toArray, List.set_cons_zero, List.set_cons_succ, i64_w, i32_w]
    rfl
  refine pure_ (i := 1) (N := some 42) (v := ?_) (a' := ?_) #[true, true, false, false, false, false, false, false, false, false, false] rfl rfl (by kernel_rfl) (fun _ _ _ h => h) (Or.inl ⟨by rfl, ?_⟩) ?_ ?_
  rotate_left
  · intro w'
    go_simp
    with_reducible rfl
  rotate_left
  · simp only [Act.put, List.setIfInBounds_toArray, List.set_cons_zero, List.set_cons_succ, i64_w, i32_w]
    rfl
  refine pure_ (i := 2) (N := some 43) (v := ?_) (a' := ?_) #[true, true, true, false, false, false, false, false, false, false, false] rfl rfl (by kernel_rfl) (fun _ _ _ h => h) (Or.inl ⟨by rfl, ?_⟩) ?_ ?_
  rotate_left
  · intro w'
    go_simp
    with_reducible rfl
  rotate_left
  · simp only [Act.put, List.setIfInBounds_toArray, List.set_cons_zero, List.set_cons_succ, i64_w, i32_w]
    rfl
  refine take_ (i := 3) (N := some 44) (v := ?_) (a' := ?_) #[true, true, true, true, false, false, false, false, false, false, false] rfl rfl (by kernel_rfl) (fun _ _ _ h => h) (Or.inl ⟨by rfl, ?_⟩) hHeld ?_ ?_
  rotate_left
  · rintro w' ⟨s0, s1, s2, s3, s4⟩
    go_simp
    with_reducible rfl
  rotate_left
  · simp only [Act.put, List.setIfInBounds_toArray, List.set_cons_zero, List.set_cons_succ, i64_w, i32_w]
    rfl
  refine take_ (i := 4) (N := some 45) (v := ?_) (a' := ?_) #[true, true, true, true, true, false, false, false, false, false, false] rfl rfl (by kernel_rfl) (fun _ _ _ h => h) (Or.inl ⟨by rfl, ?_⟩) hHeld ?_ ?_
  rotate_left
  · rintro w' ⟨s0, s1, s2, s3, s4⟩
    go_simp
    with_reducible rfl
  rotate_left
  · simp only [Act.put, List.setIfInBounds_toArray, List.set_cons_zero, List.set_cons_succ, i64_w, i32_w]
    rfl
  refine take_ (i := 5) (N := some 46) (v := ?_) (a' := ?_) #[true, true, true, true, true, true, false, false, false, false, false] rfl rfl (by kernel_rfl) (fun _ _ _ h => h) (Or.inl ⟨by rfl, ?_⟩) hHeld ?_ ?_
  rotate_left
  · rintro w' ⟨s0, s1, s2, s3, s4⟩
    go_simp
    with_reducible rfl
  rotate_left
  · simp only [Act.put, List.setIfInBounds_toArray, List.set_cons_zero, List.set_cons_succ, i64_w, i32_w]
    rfl
  refine pure_ (i := 6) (N := some 40) (v := ?_) (a' := ?_) #[true, true, true, true, true, true, true, false, false, false, false] rfl rfl (by kernel_rfl) (fun _ _ _ h => h) (Or.inl ⟨by rfl, ?_⟩) ?_ ?_
  rotate_left
  · intro w'
    go_simp
    with_reducible rfl
  rotate_left
  · simp only [Act.put, List.setIfInBounds_toArray, List.set_cons_zero, List.set_cons_succ, i64_w, i32_w]
    rfl
  refine pure_ (i := 7) (N := some 47) (v := ?_) (a' := ?_) #[true, true, true, true, true, true, true, true, false, false, false] rfl rfl (by kernel_rfl) (fun _ _ _ h => h) (Or.inl ⟨by rfl, ?_⟩) ?_ ?_
  rotate_left
  · intro w'
    go_simp
    with_reducible rfl
  rotate_left
  · simp only [Act.put, List.setIfInBounds_toArray, List.set_cons_zero, List.set_cons_succ, i64_w, i32_w]
    rfl
  refine pure_ (i := 8) (N := some 48) (v := ?_) (a' := ?_) #[true, true, true, true, true, true, true, true, true, false, false] rfl rfl (by kernel_rfl) (fun _ _ _ h => h) (Or.inl ⟨by rfl, ?_⟩) ?_ ?_
  rotate_left
  · intro w'
    go_simp
    with_reducible rfl
  rotate_left
  · simp only [Act.put, List.setIfInBounds_toArray, List.set_cons_zero, List.set_cons_succ, i64_w, i32_w]
    rfl
  refine pure_ (i := 9) (N := some 9) (v := ?_) (a' := ?_) #[true, true, true, true, true, true, true, true, true, true, false] rfl rfl (by kernel_rfl) (fun _ _ _ h => h) (Or.inl ⟨by rfl, ?_⟩) ?_ ?_
  rotate_left
  · intro w'
    go_simp
    with_reducible rfl
  rotate_left
  · simp only [Act.put, List.setIfInBounds_toArray, List.set_cons_zero, List.set_cons_succ, i64_w, i32_w]
    rfl
  refine pure_ (i := 10) (N := some 10) (v := ?_) (a' := ?_) #[true, true, true, true, true, true, true, true, true, true, true] rfl rfl (by kernel_rfl) (fun _ _ _ h => h) (Or.inl ⟨by rfl, ?_⟩) ?_ ?_
  rotate_left
  · intro w'
    go_simp
    with_reducible rfl
  rotate_left
  · simp only [Act.put, List.setIfInBounds_toArray, List.set_cons_zero, List.set_cons_succ, i64_w, i32_w]
    rfl
  refine done_ (by kernel_rfl) ?_
  clear u0 u1 u2 u3 u4
  have n0 := N1.out
  have r0 := R1.out
  have N5 := Aside0.mk n0
  have R5 := Aside0.mk r0
  have m0 := blk_cell n0 0
  have m1 := blk_cell n0 1
  have m2 := blk_cell n0 2
  have m3 := blk_cell n0 3
  have m4 := blk_cell n0 4
  have m5 := blk_cell n0 5
  have y0 := blk_cell r0 0
  have f0 := blk_frozen r0 0
  have y1 := blk_cell r0 1
  have f1 := blk_frozen r0 1
  have y2 := blk_cell r0 2
  have f2 := blk_frozen r0 2
  have y3 := blk_cell r0 3
  have f3 := blk_frozen r0 3
  have y4 := blk_cell r0 4
  have f4 := blk_frozen r0 4
  have y5 := blk_cell r0 5
  have f5 := blk_frozen r0 5
  have f6 := blk_frozen n0 5
  simp only [List.getElem?_toArray, List.getElem?_cons_succ, List.getElem?_cons_zero] at m0 m1 m2 m3 m4 m5 y0 y1 y2 y3 y4 y5
  clear n0 r0
  go_wp2_with fail
  refine bodyPost_ret (v := .tuple #[.agg #[.int .u8 2, .int .i64 s, .int .i64 c, .int .i64 t, .int .i64 am, .int .u8 v0], .bool true]) (results_list (rs := [.cell 6 56, .tmp 7]) rfl (by simp) (.cell (W.heap.size + 1) 56 #[.int .u8 2, .int .i64 s, .int .i64 c, .int .i64 t, .int .i64 am, .int .u8 v0] (0, 0) _ rfl (blk_drew (blk_six (blk_far R5.out (by simp) _) _ _ _ _ _ _)) Try.underlying56 rfl (by kernel_rfl) (.tmp .nil))) rfl ⟨rfl, ?_⟩
  exact below_drew (below_set (below_set (below_set (below_set (below_set (below_set (below_set B1.out (Nat.le_refl _)) (g := W.heap.size + 1) (by omega)) (g := W.heap.size + 1) (by omega)) (g := W.heap.size + 1) (by omega)) (g := W.heap.size + 1) (by omega)) (g := W.heap.size + 1) (by omega)) (g := W.heap.size + 1) (by omega))

set_option maxHeartbeats 2000000 in
set_option maxRecDepth 20000 in
theorem thear_new1 (W : World) (M : Nat) (sv : Value) (n : Nat) (f : TF) (L : List TE) (h : TillAt W M sv n f L) (ok : TOk L) (hn : n < maxLen) (s c t am v : Int) (hs : (Lit.int .i64 s).wf = true) (hc : (Lit.int .i64 c).wf = true) (ht : (Lit.int .i64 t).wf = true) (hf : f s c t = none) (r : Int) (L1 : List TE) (hr : tfirst L 1 s c t am v = (r, L1)) (hrw : (Lit.int .u8 r).wf = true) :
    Calls Try.prog 31 #[.pointer (some ⟨M + 1, 0, none⟩), .agg #[.int .u8 1, .int .i64 s, .int .i64 c, .int .i64 t, .int .i64 am, .int .u8 0], .int .u8 v] W fun x w' => x = .returned (.tuple #[.agg #[.int .u8 1, .int .i64 s, .int .i64 c, .int .i64 t, .int .i64 am, .int .u8 r], .bool true]) ∧ 
      ∃ sv', TillAt w' M sv' (n + 1) (upd f s c t r) L1 ∧ But (tfoot M sv) W w' ∧ ∀ k, sv'.ownBlock = some k → sv.ownBlock = some k ∨ W.heap.size ≤ k := by
  have hM := h.lt
  have HT0 := Aside0.mk h
  have HO := Aside0.mk ok
  have HN := Aside0.mk hn
  have HF := Aside0.mk hf
  have HW := Aside0.mk (And.intro hs (And.intro hc ht))
  have B0 := Aside0.mk (below_alloc (below_alloc (below_alloc (Below.refl W.heap.size W) (.cells #[.int .u8 1, .int .i64 s, .int .i64 c, .int .i64 t, .int .i64 am, .int .u8 0] 56)) (.cells #[.int .u8 0, .int .i64 0, .int .i64 0, .int .i64 0, .int .i64 0, .int .u8 0] 56)) (.cells #[.int .i64 s, .int .i64 c, .int .i64 t] 79))
  have N0 : Aside0 ((((W.alloc (.cells #[.int .u8 1, .int .i64 s, .int .i64 c, .int .i64 t, .int .i64 am, .int .u8 0] 56)).alloc (.cells #[.int .u8 0, .int .i64 0, .int .i64 0, .int .i64 0, .int .i64 0, .int .u8 0] 56)).alloc (.cells #[.int .i64 s, .int .i64 c, .int .i64 t] 79)).heap[W.heap.size]? = some (.cells #[.int .u8 1, .int .i64 s, .int .i64 c, .int .i64 t, .int .i64 am, .int .u8 0] 56 (0, 0))) := ⟨blk_alloc (blk_alloc (blk_new W _) _) _⟩
  have R0 : Aside0 ((((W.alloc (.cells #[.int .u8 1, .int .i64 s, .int .i64 c, .int .i64 t, .int .i64 am, .int .u8 0] 56)).alloc (.cells #[.int .u8 0, .int .i64 0, .int .i64 0, .int .i64 0, .int .i64 0, .int .u8 0] 56)).alloc (.cells #[.int .i64 s, .int .i64 c, .int .i64 t] 79)).heap[W.heap.size + 1]? = some (.cells #[.int .u8 0, .int .i64 0, .int .i64 0, .int .i64 0, .int .i64 0, .int .u8 0] 56 (0, 0))) := ⟨blk_alloc (by simpa using blk_new (W.alloc (.cells #[.int .u8 1, .int .i64 s, .int .i64 c, .int .i64 t, .int .i64 am, .int .u8 0] 56)) (.cells #[.int .u8 0, .int .i64 0, .int .i64 0, .int .i64 0, .int .i64 0, .int .u8 0] 56)) _⟩
  have K0 : Aside0 ((((W.alloc (.cells #[.int .u8 1, .int .i64 s, .int .i64 c, .int .i64 t, .int .i64 am, .int .u8 0] 56)).alloc (.cells #[.int .u8 0, .int .i64 0, .int .i64 0, .int .i64 0, .int .i64 0, .int .u8 0] 56)).alloc (.cells #[.int .i64 s, .int .i64 c, .int .i64 t] 79)).heap[W.heap.size + 2]? = some (.cells #[.int .i64 s, .int .i64 c, .int .i64 t] 79 (0, 0))) := ⟨by simpa using blk_new ((W.alloc (.cells #[.int .u8 1, .int .i64 s, .int .i64 c, .int .i64 t, .int .i64 am, .int .u8 0] 56)).alloc (.cells #[.int .u8 0, .int .i64 0, .int .i64 0, .int .i64 0, .int .i64 0, .int .u8 0] 56)) (.cells #[.int .i64 s, .int .i64 c, .int .i64 t] 79)⟩
  have HR := Aside0.mk hr
  have HRW := Aside0.mk hrw
  clear hr hrw
  have c0 := h.cells.1
  clear h ok hn hf hs hc ht
  go_enter Try.func31, Try.ntmps31
  go_wp2_with fail
  have B1 := B0
  have N1 := N0
  have R1 := R0
  have K1 := K0
  clear B0 N0 R0 K0
  generalize (((W.alloc (.cells #[.int .u8 1, .int .i64 s, .int .i64 c, .int .i64 t, .int .i64 am, .int .u8 0] 56)).alloc (.cells #[.int .u8 0, .int .i64 0, .int .i64 0, .int .i64 0, .int .i64 0, .int .u8 0] 56)).alloc (.cells #[.int .i64 s, .int .i64 c, .int .i64 t] 79)) = W1 at B1 N1 R1 K1 ⊢
  have HT1 := Aside0.mk (HT0.out.kept (F := fun _ => False) (But.of_below B1.out) (fun _ _ e => e))
  have u0 : W1.drew.cell? ⟨M + 1, 0, none⟩ = some (.map (some M)) := HT1.out.cells.1
  have u1 : W1.drew.cell? ⟨W.heap.size + 2, 0, none⟩ = some (.int .i64 s) := blk_cell K1.out 0
  have u2 : W1.drew.cell? ⟨W.heap.size + 2, 1, none⟩ = some (.int .i64 c) := blk_cell K1.out 1
  have u3 : W1.drew.cell? ⟨W.heap.size + 2, 2, none⟩ = some (.int .i64 t) := blk_cell K1.out 2
  have u4 : (Instr.lookup 75 (.map (some M)) (.agg #[.int .i64 s, .int .i64 c, .int .i64 t]) true).run Try.prog W1.drew = .ok (.tuple #[.int .u8 0, .bool false]) W1.drew := by
    have := (show TillAt W1.drew M sv n f L from HT1.out.kept (F := fun _ => False) (But.refl _ W1).drew (fun _ _ e => e)).look s c t HW.out.1 HW.out.2.1 HW.out.2.2
    rw [HF.out] at this
    exact this
  refine start_ (n := 11) (S := fun w' => w'.cell? ⟨M + 1, 0, none⟩ = some (.map (some M)) ∧ w'.cell? ⟨W.heap.size + 2, 0, none⟩ = some (.int .i64 s) ∧ w'.cell? ⟨W.heap.size + 2, 1, none⟩ = some (.int .i64 c) ∧ w'.cell? ⟨W.heap.size + 2, 2, none⟩ = some (.int .i64 t) ∧ (Instr.lookup 75 (.map (some M)) (.agg #[.int .i64 s, .int .i64 c, .int .i64 t]) true).run Try.prog w' = .ok (.tuple #[.int .u8 0, .bool false]) w') (ds := []) #[false, false, false, false, false, false, false, false, false, false, false] (by kernel_rfl) rfl rfl ⟨u0, u1, u2, u3, u4⟩ (fun hHeld => ?_)
  refine pure_ (i := 0) (N := some 41) (v := ?_) (a' := ?_) #[true, false, false, false, false, false, false, false, false, false, false] rfl rfl (by kernel_rfl) (fun _ _ _ h => h) (Or.inl ⟨by rfl, ?_⟩) ?_ ?_
  rotate_left
  · intro w'
    go_simp
    with_reducible rfl
  rotate_left
  · simp only [Act.put, List.setIfInBounds_toArray, List.set_cons_zero, List.set_cons_succ, i64_w, i32_w]
    rfl
  refine pure_ (i := 1) (N := some 42) (v := ?_) (a' := ?_) #[true, true, false, false, false, false, false, false, false, false, false] rfl rfl (by kernel_rfl) (fun _ _ _ h => h) (Or.inl ⟨by rfl, ?_⟩) ?_ ?_
  rotate_left
  · intro w'
    go_simp
    with_reducible rfl
  rotate_left
  · simp only [Act.put, List.setIfInBounds_toArray, List.set_cons_zero, List.set_cons_succ, i64_w, i32_w]
    rfl
  refine pure_ (i := 2) (N := some 43) (v := ?_) (a' := ?_) #[true, true, true, false, false, false, false, false, false, false, false] rfl rfl (by kernel_rfl) (fun _ _ _ h => h) (Or.inl ⟨by rfl, ?_⟩) ?_ ?_
  rotate_left
  · intro w'
    go_simp
    with_reducible rfl
  rotate_left
  · simp only [Act.put, List.setIfInBounds_toArray, List.set_cons_zero, List.set_cons_succ, i64_w, i32_w]
    rfl
  refine take_ (i := 3) (N := some 44) (v := ?_) (a' := ?_) #[true, true, true, true, false, false, false, false, false, false, false] rfl rfl (by kernel_rfl) (fun _ _ _ h => h) (Or.inl ⟨by rfl, ?_⟩) hHeld ?_ ?_
  rotate_left
  · rintro w' ⟨s0, s1, s2, s3, s4⟩
    go_simp
    with_reducible rfl
  rotate_left
  · simp only [Act.put, List.setIfInBounds_toArray, List.set_cons_zero, List.set_cons_succ, i64_w, i32_w]
    rfl
  refine take_ (i := 4) (N := some 45) (v := ?_) (a' := ?_) #[true, true, true, true, true, false, false, false, false, false, false] rfl rfl (by kernel_rfl) (fun _ _ _ h => h) (Or.inl ⟨by rfl, ?_⟩) hHeld ?_ ?_
  rotate_left
  · rintro w' ⟨s0, s1, s2, s3, s4⟩
    go_simp
    with_reducible rfl
  rotate_left
  · simp only [Act.put, List.setIfInBounds_toArray, List.set_cons_zero, List.set_cons_succ, i64_w, i32_w]
    rfl
  refine take_ (i := 5) (N := some 46) (v := ?_) (a' := ?_) #[true, true, true, true, true, true, false, false, false, false, false] rfl rfl (by kernel_rfl) (fun _ _ _ h => h) (Or.inl ⟨by rfl, ?_⟩) hHeld ?_ ?_
  rotate_left
  · rintro w' ⟨s0, s1, s2, s3, s4⟩
    go_simp
    with_reducible rfl
  rotate_left
  · simp only [Act.put, List.setIfInBounds_toArray, List.set_cons_zero, List.set_cons_succ, i64_w, i32_w]
    rfl
  refine pure_ (i := 6) (N := some 40) (v := ?_) (a' := ?_) #[true, true, true, true, true, true, true, false, false, false, false] rfl rfl (by kernel_rfl) (fun _ _ _ h => h) (Or.inl ⟨by rfl, ?_⟩) ?_ ?_
  rotate_left
  · intro w'
    go_simp
    with_reducible rfl
  rotate_left
  · simp only [Act.put, List.setIfInBounds_toArray, List.set_cons_zero, List.set_cons_succ, i64_w, i32_w]
    rfl
  refine pure_ (i := 7) (N := some 47) (v := ?_) (a' := ?_) #[true, true, true, true, true, true, true, true, false, false, false] rfl rfl (by kernel_rfl) (fun _ _ _ h => h) (Or.inl ⟨by rfl, ?_⟩) ?_ ?_
  rotate_left
  · intro w'
    go_simp
    with_reducible rfl
  rotate_left
  · simp only [Act.put, List.setIfInBounds_toArray, List.set_cons_zero, List.set_cons_succ, i64_w, i32_w]
    rfl
  refine pure_ (i := 8) (N := some 48) (v := ?_) (a' := ?_) #[true, true, true, true, true, true, true, true, true, false, false] rfl rfl (by kernel_rfl) (fun _ _ _ h => h) (Or.inl ⟨by rfl, ?_⟩) ?_ ?_
  rotate_left
  · intro w'
    go_simp
    with_reducible rfl
  rotate_left
  · simp only [Act.put, List.setIfInBounds_toArray, List.set_cons_zero, List.set_cons_succ, i64_w, i32_w]
    rfl
  refine pure_ (i := 9) (N := some 9) (v := ?_) (a' := ?_) #[true, true, true, true, true, true, true, true, true, true, false] rfl rfl (by kernel_rfl) (fun _ _ _ h => h) (Or.inl ⟨by rfl, ?_⟩) ?_ ?_
  rotate_left
  · intro w'
    go_simp
    with_reducible rfl
  rotate_left
  · simp only [Act.put, List.setIfInBounds_toArray, List.set_cons_zero, List.set_cons_succ, i64_w, i32_w]
    rfl
  refine pure_ (i := 10) (N := some 10) (v := ?_) (a' := ?_) #[true, true, true, true, true, true, true, true, true, true, true] rfl rfl (by kernel_rfl) (fun _ _ _ h => h) (Or.inl ⟨by rfl, ?_⟩) ?_ ?_
  rotate_left
  · intro w'
    go_simp
    with_reducible rfl
  rotate_left
  · simp only [Act.put, List.setIfInBounds_toArray, List.set_cons_zero, List.set_cons_succ, i64_w, i32_w]
    rfl
  refine done_ (by kernel_rfl) ?_
  clear u0 u1 u2 u3 u4

  have m0 := blk_cell N1.out 0
  have m1 := blk_cell N1.out 1
  have m2 := blk_cell N1.out 2
  have m3 := blk_cell N1.out 3
  have m4 := blk_cell N1.out 4
  have m5 := blk_cell N1.out 5
  simp only [List.getElem?_toArray, List.getElem?_cons_succ, List.getElem?_cons_zero] at m0 m1 m2 m3 m4 m5
  go_wp2_with fail
  clear m0 m1 m2 m3 m4 m5
  have KF := tfirst_calls W1.drew M sv n f L (HT1.out.kept (F := fun _ => False) (But.refl _ W1).drew (fun _ _ e => e)) HO.out 1 s c t am 0 v (by omega)
  rw [HR.out] at KF
  with_reducible refine KF.mono ?_
  rintro x W7 ⟨rfl, sv', hT7, hb7, ho7⟩
  have HNF : Aside0 (∀ k, W.heap.size ≤ k → ¬ tfoot M sv k) := ⟨fun k hk e => by
    rcases e with e | e | e
    · omega
    · omega
    · have := (HT0.out.row.lt k e).2; omega⟩
  have B7 := Aside0.mk ((But.of_below B1.out).drew.trans hb7)
  have N7 := Aside0.mk ((hb7.block _ (blk_lt N1.out) (HNF.out _ (Nat.le_refl _))).trans N1.out)
  have R7 := Aside0.mk ((hb7.block _ (blk_lt R1.out) (HNF.out _ (by omega))).trans R1.out)
  have K7 := Aside0.mk ((hb7.block _ (blk_lt K1.out) (HNF.out _ (by omega))).trans K1.out)
  have HT7 := Aside0.mk (hT7.kept (F := fun _ => False) (But.refl _ W7).drew (fun _ _ e => e))
  have HO7 := Aside0.mk ho7
  have HSZ := Aside0.mk (blk_lt R1.out)
  clear KF hT7 hb7 ho7 N1 R1 K1
  obtain ⟨W8, hput, hT8, hb8, hg8⟩ := HT7.out.put HN.out s c t r HW.out.1 HW.out.2.1 HW.out.2.2 HRW.out
  have HT8 := Aside0.mk hT8
  have HB8 := Aside0.mk hb8
  have HG8 := Aside0.mk hg8
  clear hT8 hb8 hg8
  go_wp2_with fail
  have u0 : W7.drew.cell? ⟨M + 1, 0, none⟩ = some (.map (some M)) := HT7.out.cells.1
  have u1 : W7.drew.cell? ⟨W.heap.size + 2, 0, none⟩ = some (.int .i64 s) := blk_cell K7.out 0
  have u2 : W7.drew.cell? ⟨W.heap.size + 2, 1, none⟩ = some (.int .i64 c) := blk_cell K7.out 1
  have u3 : W7.drew.cell? ⟨W.heap.size + 2, 2, none⟩ = some (.int .i64 t) := blk_cell K7.out 2
  refine start_ (n := 7) (S := fun w' => w'.cell? ⟨M + 1, 0, none⟩ = some (.map (some M)) ∧ w'.cell? ⟨W.heap.size + 2, 0, none⟩ = some (.int .i64 s) ∧ w'.cell? ⟨W.heap.size + 2, 1, none⟩ = some (.int .i64 c) ∧ w'.cell? ⟨W.heap.size + 2, 2, none⟩ = some (.int .i64 t)) (ds := [6]) #[false, false, false, false, false, false, false] (by kernel_rfl) rfl rfl ⟨u0, u1, u2, u3⟩ (fun hHeld => ?_)
  refine pure_ (i := 0) (N := some 55) (v := ?_) (a' := ?_) #[true, false, false, false, false, false, false] rfl rfl (by kernel_rfl) (fun _ _ _ h => h) (Or.inl ⟨by rfl, ?_⟩) ?_ ?_
  rotate_left
  · intro w'
    go_simp
    with_reducible rfl
  rotate_left
  · simp only [Act.put, List.setIfInBounds_toArray, List.set_cons_zero, List.set_cons_succ, i64_w, i32_w]
    rfl
  refine pure_ (i := 1) (N := some 56) (v := ?_) (a' := ?_) #[true, true, false, false, false, false, false] rfl rfl (by kernel_rfl) (fun _ _ _ h => h) (Or.inl ⟨by rfl, ?_⟩) ?_ ?_
  rotate_left
  · intro w'
    go_simp
    with_reducible rfl
  rotate_left
  · simp only [Act.put, List.setIfInBounds_toArray, List.set_cons_zero, List.set_cons_succ, i64_w, i32_w]
    rfl
  refine pure_ (i := 2) (N := some 57) (v := ?_) (a' := ?_) #[true, true, true, false, false, false, false] rfl rfl (by kernel_rfl) (fun _ _ _ h => h) (Or.inl ⟨by rfl, ?_⟩) ?_ ?_
  rotate_left
  · intro w'
    go_simp
    with_reducible rfl
  rotate_left
  · simp only [Act.put, List.setIfInBounds_toArray, List.set_cons_zero, List.set_cons_succ, i64_w, i32_w]
    rfl
  refine pure_ (i := 5) (N := some 60) (v := ?_) (a' := ?_) #[true, true, true, false, false, true, false] rfl rfl (by kernel_rfl) (fun _ _ _ h => h) (Or.inl ⟨by rfl, ?_⟩) ?_ ?_
  rotate_left
  · intro w'
    go_simp
    with_reducible rfl
  rotate_left
  · simp only [Act.put, List.setIfInBounds_toArray, List.set_cons_zero, List.set_cons_succ, i64_w, i32_w]
    rfl
  refine take_ (i := 3) (N := some 58) (v := ?_) (a' := ?_) #[true, true, true, true, false, true, false] rfl rfl (by kernel_rfl) (fun _ _ _ h => h) (Or.inl ⟨by rfl, ?_⟩) hHeld ?_ ?_
  rotate_left
  · rintro w' ⟨s0, s1, s2, s3⟩
    go_simp
    with_reducible rfl
  rotate_left
  · simp only [Act.put, List.setIfInBounds_toArray, List.set_cons_zero, List.set_cons_succ, i64_w, i32_w]
    rfl
  refine take_ (i := 4) (N := some 59) (v := ?_) (a' := ?_) #[true, true, true, true, true, true, false] rfl rfl (by kernel_rfl) (fun _ _ _ h => h) (Or.inl ⟨by rfl, ?_⟩) hHeld ?_ ?_
  rotate_left
  · rintro w' ⟨s0, s1, s2, s3⟩
    go_simp
    with_reducible rfl
  rotate_left
  · simp only [Act.put, List.setIfInBounds_toArray, List.set_cons_zero, List.set_cons_succ, i64_w, i32_w]
    rfl
  refine last_ (i := 6) (N := none) #[true, true, true, true, true, true, true] rfl rfl (by kernel_rfl) (by decide) (fun K hK => ?_)
  refine skip_ (w1 := ?_) (by rfl) rfl ?_ ?_
  rotate_left
  · go_simp
    rfl
  refine hK.out _ _ ?_
  clear hK K
  refine done_ (by kernel_rfl) ?_

  have B8 := Aside0.mk (B7.out.drew.trans (But.of_grown HG8.out (F := tfoot M sv) (fun k hk => Or.inl (by simpa using hk.symm))))
  have n0 := blk_grown (blk_drew N7.out) HG8.out (by simp; omega)
  have r0 := blk_grown (blk_drew R7.out) HG8.out (by simp; omega)
  clear B7 HG8 HB8 HT7 N7 R7 K7 u0 u1 u2 u3 HT1 hput
  have N5 := Aside0.mk n0
  have R5 := Aside0.mk r0
  have m0 := blk_cell n0 0
  have m1 := blk_cell n0 1
  have m2 := blk_cell n0 2
  have m3 := blk_cell n0 3
  have m4 := blk_cell n0 4
  have m5 := blk_cell n0 5
  have y0 := blk_cell r0 0
  have f0 := blk_frozen r0 0
  have y1 := blk_cell r0 1
  have f1 := blk_frozen r0 1
  have y2 := blk_cell r0 2
  have f2 := blk_frozen r0 2
  have y3 := blk_cell r0 3
  have f3 := blk_frozen r0 3
  have y4 := blk_cell r0 4
  have f4 := blk_frozen r0 4
  have y5 := blk_cell r0 5
  have f5 := blk_frozen r0 5
  have f6 := blk_frozen n0 5
  simp only [List.getElem?_toArray, List.getElem?_cons_succ, List.getElem?_cons_zero] at m0 m1 m2 m3 m4 m5 y0 y1 y2 y3 y4 y5
  clear n0 r0
  go_wp2_with fail
  refine bodyPost_ret (v := .tuple #[.agg #[.int .u8 1, .int .i64 s, .int .i64 c, .int .i64 t, .int .i64 am, .int .u8 r], .bool true]) (results_list (rs := [.cell 6 56, .tmp 7]) rfl (by simp) (.cell (W.heap.size + 1) 56 #[.int .u8 1, .int .i64 s, .int .i64 c, .int .i64 t, .int .i64 am, .int .u8 r] (0, 0) _ rfl (blk_six (blk_far R5.out (by simp) _) _ _ _ _ _ _) Try.underlying56 rfl (by kernel_rfl) (.tmp .nil))) rfl ⟨rfl, ?_⟩
  refine ⟨sv', HT8.out.kept (But.setCell (But.setCell (But.setCell (But.setCell (But.setCell (But.setCell (But.setCell (But.refl (fun k => k = W.heap.size ∨ k = W.heap.size + 1) W8) (Or.inr (by simp)) _) (Or.inr (by simp)) _) (Or.inr (by simp)) _) (Or.inr (by simp)) _) (Or.inr (by simp)) _) (Or.inr (by simp)) _) (Or.inr (by simp)) _) ?_, But.setCell (But.setCell (But.setCell (But.setCell (But.setCell (But.setCell (But.setCell (B8.out) (Or.inl (by simp)) _) (Or.inl (by simp)) _) (Or.inl (by simp)) _) (Or.inl (by simp)) _) (Or.inl (by simp)) _) (Or.inl (by simp)) _) (Or.inl (by simp)) _, fun k hk => (HO7.out k hk).imp id (fun h => Nat.le_trans (Nat.le_of_lt (Nat.lt_of_succ_lt HSZ.out)) h)⟩
  intro k hk hk2
  have hsz := HSZ.out
  rcases hk with e | e | e
  · omega
  · omega
  · rcases HO7.out k e with e' | e'
    · exact HNF.out k (by omega) (Or.inr (Or.inr e'))
    · have e2 : W1.heap.size ≤ k := e'
      omega

set_option maxHeartbeats 2000000 in
set_option maxRecDepth 20000 in
theorem thear_new2 (W : World) (M : Nat) (sv : Value) (n : Nat) (f : TF) (L : List TE) (h : TillAt W M sv n f L) (ok : TOk L) (hn : n < maxLen) (s c t am v : Int) (hs : (Lit.int .i64 s).wf = true) (hc : (Lit.int .i64 c).wf = true) (ht : (Lit.int .i64 t).wf = true) (hf : f s c 0 = none) (r : Int) (L1 : List TE) (hr : tfirst L 2 s c t am v = (r, L1)) (hrw : (Lit.int .u8 r).wf = true) :
    Calls Try.prog 31 #[.pointer (some ⟨M + 1, 0, none⟩), .agg #[.int .u8 2, .int .i64 s, .int .i64 c, .int .i64 t, .int .i64 am, .int .u8 0], .int .u8 v] W fun x w' => x = .returned (.tuple #[.agg #[.int .u8 2, .int .i64 s, .int .i64 c, .int .i64 t, .int .i64 am, .int .u8 r], .bool true]) ∧ 
      ∃ sv', TillAt w' M sv' (n + 1) (upd f s c 0 r) L1 ∧ But (tfoot M sv) W w' ∧ ∀ k, sv'.ownBlock = some k → sv.ownBlock = some k ∨ W.heap.size ≤ k := by
  have hz0 : (Lit.int .i64 0).wf = true := by decide
  have hM := h.lt
  have HT0 := Aside0.mk h
  have HO := Aside0.mk ok
  have HN := Aside0.mk hn
  have HF := Aside0.mk hf
  have HW := Aside0.mk (And.intro hs (And.intro hc hz0))
  have B0 := Aside0.mk (below_alloc (below_alloc (below_alloc (Below.refl W.heap.size W) (.cells #[.int .u8 2, .int .i64 s, .int .i64 c, .int .i64 t, .int .i64 am, .int .u8 0] 56)) (.cells #[.int .u8 0, .int .i64 0, .int .i64 0, .int .i64 0, .int .i64 0, .int .u8 0] 56)) (.cells #[.int .i64 s, .int .i64 c, .int .i64 0] 79))
  have N0 : Aside0 ((((W.alloc (.cells #[.int .u8 2, .int .i64 s, .int .i64 c, .int .i64 t, .int .i64 am, .int .u8 0] 56)).alloc (.cells #[.int .u8 0, .int .i64 0, .int .i64 0, .int .i64 0, .int .i64 0, .int .u8 0] 56)).alloc (.cells #[.int .i64 s, .int .i64 c, .int .i64 0] 79)).heap[W.heap.size]? = some (.cells #[.int .u8 2, .int .i64 s, .int .i64 c, .int .i64 t, .int .i64 am, .int .u8 0] 56 (0, 0))) := ⟨blk_alloc (blk_alloc (blk_new W _) _) _⟩
  have R0 : Aside0 ((((W.alloc (.cells #[.int .u8 2, .int .i64 s, .int .i64 c, .int .i64 t, .int .i64 am, .int .u8 0] 56)).alloc (.cells #[.int .u8 0, .int .i64 0, .int .i64 0, .int .i64 0, .int .i64 0, .int .u8 0] 56)).alloc (.cells #[.int .i64 s, .int .i64 c, .int .i64 0] 79)).heap[W.heap.size + 1]? = some (.cells #[.int .u8 0, .int .i64 0, .int .i64 0, .int .i64 0, .int .i64 0, .int .u8 0] 56 (0, 0))) := ⟨blk_alloc (by simpa using blk_new (W.alloc (.cells #[.int .u8 2, .int .i64 s, .int .i64 c, .int .i64 t, .int .i64 am, .int .u8 0] 56)) (.cells #[.int .u8 0, .int .i64 0, .int .i64 0, .int .i64 0, .int .i64 0, .int .u8 0] 56)) _⟩
  have K0 : Aside0 ((((W.alloc (.cells #[.int .u8 2, .int .i64 s, .int .i64 c, .int .i64 t, .int .i64 am, .int .u8 0] 56)).alloc (.cells #[.int .u8 0, .int .i64 0, .int .i64 0, .int .i64 0, .int .i64 0, .int .u8 0] 56)).alloc (.cells #[.int .i64 s, .int .i64 c, .int .i64 0] 79)).heap[W.heap.size + 2]? = some (.cells #[.int .i64 s, .int .i64 c, .int .i64 0] 79 (0, 0))) := ⟨by simpa using blk_new ((W.alloc (.cells #[.int .u8 2, .int .i64 s, .int .i64 c, .int .i64 t, .int .i64 am, .int .u8 0] 56)).alloc (.cells #[.int .u8 0, .int .i64 0, .int .i64 0, .int .i64 0, .int .i64 0, .int .u8 0] 56)) (.cells #[.int .i64 s, .int .i64 c, .int .i64 0] 79)⟩
  have HR := Aside0.mk hr
  have HRW := Aside0.mk hrw
  clear hr hrw
  have c0 := h.cells.1
  clear h ok hn hf hs hc ht hz0
  go_enter Try.func31, Try.ntmps31
  go_wp2_with fail
  have B1 := B0
  have N1 := N0
  have R1 := R0
  have K1 := K0
  clear B0 N0 R0 K0
  generalize (((W.alloc (.cells #[.int .u8 2, .int .i64 s, .int .i64 c, .int .i64 t, .int .i64 am, .int .u8 0] 56)).alloc (.cells #[.int .u8 0, .int .i64 0, .int .i64 0, .int .i64 0, .int .i64 0, .int .u8 0] 56)).alloc (.cells #[.int .i64 s, .int .i64 c, .int .i64 0] 79)) = W1 at B1 N1 R1 K1 ⊢
  have HT1 := Aside0.mk (HT0.out.kept (F := fun _ => False) (But.of_below B1.out) (fun _ _ e => e))
  have u0 : W1.drew.cell? ⟨M + 1, 0, none⟩ = some (.map (some M)) := HT1.out.cells.1
  have u1 : W1.drew.cell? ⟨W.heap.size + 2, 0, none⟩ = some (.int .i64 s) := blk_cell K1.out 0
  have u2 : W1.drew.cell? ⟨W.heap.size + 2, 1, none⟩ = some (.int .i64 c) := blk_cell K1.out 1
  have u3 : W1.drew.cell? ⟨W.heap.size + 2, 2, none⟩ = some (.int .i64 0) := blk_cell K1.out 2
  have u4 : (Instr.lookup 75 (.map (some M)) (.agg #[.int .i64 s, .int .i64 c, .int .i64 0]) true).run Try.prog W1.drew = .ok (.tuple #[.int .u8 0, .bool false]) W1.drew := by
    have := (show TillAt W1.drew M sv n f L from HT1.out.kept (F := fun _ => False) (But.refl _ W1).drew (fun _ _ e => e)).look s c 0 HW.out.1 HW.out.2.1 HW.out.2.2
    rw [HF.out] at this
    exact this
  refine start_ (n := 11) (S := fun w' => w'.cell? ⟨M + 1, 0, none⟩ = some (.map (some M)) ∧ w'.cell? ⟨W.heap.size + 2, 0, none⟩ = some (.int .i64 s) ∧ w'.cell? ⟨W.heap.size + 2, 1, none⟩ = some (.int .i64 c) ∧ w'.cell? ⟨W.heap.size + 2, 2, none⟩ = some (.int .i64 0) ∧ (Instr.lookup 75 (.map (some M)) (.agg #[.int .i64 s, .int .i64 c, .int .i64 0]) true).run Try.prog w' = .ok (.tuple #[.int .u8 0, .bool false]) w') (ds := []) #[false, false, false, false, false, false, false, false, false, false, false] (by kernel_rfl) rfl rfl ⟨u0, u1, u2, u3, u4⟩ (fun hHeld => ?_)
  refine pure_ (i := 0) (N := some 41) (v := ?_) (a' := ?_) #[true, false, false, false, false, false, false, false, false, false, false] rfl rfl (by kernel_rfl) (fun _ _ _ h => h) (Or.inl ⟨by rfl, ?_⟩) ?_ ?_
  rotate_left
  · intro w'
    go_simp
    with_reducible rfl
  rotate_left
  · simp only [Act.put, List.setIfInBounds_toArray, List.set_cons_zero, List.set_cons_succ, i64_w, i32_w]
    rfl
  refine pure_ (i := 1) (N := some 42) (v := ?_) (a' := ?_) #[true, true, false, false, false, false, false, false, false, false, false] rfl rfl (by kernel_rfl) (fun _ _ _ h => h) (Or.inl ⟨by rfl, ?_⟩) ?_ ?_
  rotate_left
  · intro w'
    go_simp
    with_reducible rfl
  rotate_left
  · simp only [Act.put, List.setIfInBounds_toArray, List.set_cons_zero, List.set_cons_succ, i64_w, i32_w]
    rfl
  refine pure_ (i := 2) (N := some 43) (v := ?_) (a' := ?_) #[true, true, true, false, false, false, false, false, false, false, false] rfl rfl (by kernel_rfl) (fun _ _ _ h => h) (Or.inl ⟨by rfl, ?_⟩) ?_ ?_
  rotate_left
  · intro w'
    go_simp
    with_reducible rfl
  rotate_left
  · simp only [Act.put, List.setIfInBounds_toArray, List.set_cons_zero, List.set_cons_succ, i64_w, i32_w]
    rfl
  refine take_ (i := 3) (N := some 44) (v := ?_) (a' := ?_) #[true, true, true, true, false, false, false, false, false, false, false] rfl rfl (by kernel_rfl) (fun _ _ _ h => h) (Or.inl ⟨by rfl, ?_⟩) hHeld ?_ ?_
  rotate_left
  · rintro w' ⟨s0, s1, s2, s3, s4⟩
    go_simp
    with_reducible rfl
  rotate_left
  · simp only [Act.put, List.setIfInBounds_toArray, List.set_cons_zero, List.set_cons_succ, i64_w, i32_w]
    rfl
  refine take_ (i := 4) (N := some 45) (v := ?_) (a' := ?_) #[true, true, true, true, true, false, false, false, false, false, false] rfl rfl (by kernel_rfl) (fun _ _ _ h => h) (Or.inl ⟨by rfl, ?_⟩) hHeld ?_ ?_
  rotate_left
  · rintro w' ⟨s0, s1, s2, s3, s4⟩
    go_simp
    with_reducible rfl
  rotate_left
  · simp only [Act.put, List.setIfInBounds_toArray, List.set_cons_zero, List.set_cons_succ, i64_w, i32_w]
    rfl
  refine take_ (i := 5) (N := some 46) (v := ?_) (a' := ?_) #[true, true, true, true, true, true, false, false, false, false, false] rfl rfl (by kernel_rfl) (fun _ _ _ h => h) (Or.inl ⟨by rfl, ?_⟩) hHeld ?_ ?_
  rotate_left
  · rintro w' ⟨s0, s1, s2, s3, s4⟩
    go_simp
    with_reducible rfl
  rotate_left
  · simp only [Act.put, List.setIfInBounds_toArray, List.set_cons_zero, List.set_cons_succ, i64_w, i32_w]
    rfl
  refine pure_ (i := 6) (N := some 40) (v := ?_) (a' := ?_) #[true, true, true, true, true, true, true, false, false, false, false] rfl rfl (by kernel_rfl) (fun _ _ _ h => h) (Or.inl ⟨by rfl, ?_⟩) ?_ ?_
  rotate_left
  · intro w'
    go_simp
    with_reducible rfl
  rotate_left
  · simp only [Act.put, List.setIfInBounds_toArray, List.set_cons_zero, List.set_cons_succ, i64_w, i32_w]
    rfl
  refine pure_ (i := 7) (N := some 47) (v := ?_) (a' := ?_) #[true, true, true, true, true, true, true, true, false, false, false] rfl rfl (by kernel_rfl) (fun _ _ _ h => h) (Or.inl ⟨by rfl, ?_⟩) ?_ ?_
  rotate_left
  · intro w'
    go_simp
    with_reducible rfl
  rotate_left
  · simp only [Act.put, List.setIfInBounds_toArray, List.set_cons_zero, List.set_cons_succ, i64_w, i32_w]
    rfl
  refine pure_ (i := 8) (N := some 48) (v := ?_) (a' := ?_) #[true, true, true, true, true, true, true, true, true, false, false] rfl rfl (by kernel_rfl) (fun _ _ _ h => h) (Or.inl ⟨by rfl, ?_⟩) ?_ ?_
  rotate_left
  · intro w'
    go_simp
    with_reducible rfl
  rotate_left
  · simp only [Act.put, List.setIfInBounds_toArray, List.set_cons_zero, List.set_cons_succ, i64_w, i32_w]
    rfl
  refine pure_ (i := 9) (N := some 9) (v := ?_) (a' := ?_) #[true, true, true, true, true, true, true, true, true, true, false] rfl rfl (by kernel_rfl) (fun _ _ _ h => h) (Or.inl ⟨by rfl, ?_⟩) ?_ ?_
  rotate_left
  · intro w'
    go_simp
    with_reducible rfl
  rotate_left
  · simp only [Act.put, List.setIfInBounds_toArray, List.set_cons_zero, List.set_cons_succ, i64_w, i32_w]
    rfl
  refine pure_ (i := 10) (N := some 10) (v := ?_) (a' := ?_) #[true, true, true, true, true, true, true, true, true, true, true] rfl rfl (by kernel_rfl) (fun _ _ _ h => h) (Or.inl ⟨by rfl, ?_⟩) ?_ ?_
  rotate_left
  · intro w'
    go_simp
    with_reducible rfl
  rotate_left
  · simp only [Act.put, List.setIfInBounds_toArray, List.set_cons_zero, List.set_cons_succ, i64_w, i32_w]
    rfl
  refine done_ (by kernel_rfl) ?_
  clear u0 u1 u2 u3 u4

  have m0 := blk_cell N1.out 0
  have m1 := blk_cell N1.out 1
  have m2 := blk_cell N1.out 2
  have m3 := blk_cell N1.out 3
  have m4 := blk_cell N1.out 4
  have m5 := blk_cell N1.out 5
  simp only [List.getElem?_toArray, List.getElem?_cons_succ, List.getElem?_cons_zero] at m0 m1 m2 m3 m4 m5
  go_wp2_with fail
  clear m0 m1 m2 m3 m4 m5
  have KF := tfirst_calls W1.drew M sv n f L (HT1.out.kept (F := fun _ => False) (But.refl _ W1).drew (fun _ _ e => e)) HO.out 2 s c t am 0 v (by omega)
  rw [HR.out] at KF
  with_reducible refine KF.mono ?_
  rintro x W7 ⟨rfl, sv', hT7, hb7, ho7⟩
  have HNF : Aside0 (∀ k, W.heap.size ≤ k → ¬ tfoot M sv k) := ⟨fun k hk e => by
    rcases e with e | e | e
    · omega
    · omega
    · have := (HT0.out.row.lt k e).2; omega⟩
  have B7 := Aside0.mk ((But.of_below B1.out).drew.trans hb7)
  have N7 := Aside0.mk ((hb7.block _ (blk_lt N1.out) (HNF.out _ (Nat.le_refl _))).trans N1.out)
  have R7 := Aside0.mk ((hb7.block _ (blk_lt R1.out) (HNF.out _ (by omega))).trans R1.out)
  have K7 := Aside0.mk ((hb7.block _ (blk_lt K1.out) (HNF.out _ (by omega))).trans K1.out)
  have HT7 := Aside0.mk (hT7.kept (F := fun _ => False) (But.refl _ W7).drew (fun _ _ e => e))
  have HO7 := Aside0.mk ho7
  have HSZ := Aside0.mk (blk_lt R1.out)
  clear KF hT7 hb7 ho7 N1 R1 K1
  obtain ⟨W8, hput, hT8, hb8, hg8⟩ := HT7.out.put HN.out s c 0 r HW.out.1 HW.out.2.1 HW.out.2.2 HRW.out
  have HT8 := Aside0.mk hT8
  have HB8 := Aside0.mk hb8
  have HG8 := Aside0.mk hg8
  clear hT8 hb8 hg8
  go_wp2_with fail
  have u0 : W7.drew.cell? ⟨M + 1, 0, none⟩ = some (.map (some M)) := HT7.out.cells.1
  have u1 : W7.drew.cell? ⟨W.heap.size + 2, 0, none⟩ = some (.int .i64 s) := blk_cell K7.out 0
  have u2 : W7.drew.cell? ⟨W.heap.size + 2, 1, none⟩ = some (.int .i64 c) := blk_cell K7.out 1
  have u3 : W7.drew.cell? ⟨W.heap.size + 2, 2, none⟩ = some (.int .i64 0) := blk_cell K7.out 2
  refine start_ (n := 7) (S := fun w' => w'.cell? ⟨M + 1, 0, none⟩ = some (.map (some M)) ∧ w'.cell? ⟨W.heap.size + 2, 0, none⟩ = some (.int .i64 s) ∧ w'.cell? ⟨W.heap.size + 2, 1, none⟩ = some (.int .i64 c) ∧ w'.cell? ⟨W.heap.size + 2, 2, none⟩ = some (.int .i64 0)) (ds := [6]) #[false, false, false, false, false, false, false] (by kernel_rfl) rfl rfl ⟨u0, u1, u2, u3⟩ (fun hHeld => ?_)
  refine pure_ (i := 0) (N := some 55) (v := ?_) (a' := ?_) #[true, false, false, false, false, false, false] rfl rfl (by kernel_rfl) (fun _ _ _ h => h) (Or.inl ⟨by rfl, ?_⟩) ?_ ?_
  rotate_left
  · intro w'
    go_simp
    with_reducible rfl
  rotate_left
  · simp only [Act.put, List.setIfInBounds_toArray, List.set_cons_zero, List.set_cons_succ, i64_w, i32_w]
    rfl
  refine pure_ (i := 1) (N := some 56) (v := ?_) (a' := ?_) #[true, true, false, false, false, false, false] rfl rfl (by kernel_rfl) (fun _ _ _ h => h) (Or.inl ⟨by rfl, ?_⟩) ?_ ?_
  rotate_left
  · intro w'
    go_simp
    with_reducible rfl
  rotate_left
  · simp only [Act.put, List.setIfInBounds_toArray, List.set_cons_zero, List.set_cons_succ, i64_w, i32_w]
    rfl
  refine pure_ (i := 2) (N := some 57) (v := ?_) (a' := ?_) #[true, true, true, false, false, false, false] rfl rfl (by kernel_rfl) (fun _ _ _ h => h) (Or.inl ⟨by rfl, ?_⟩) ?_ ?_
  rotate_left
  · intro w'
    go_simp
    with_reducible rfl
  rotate_left
  · simp only [Act.put, List.setIfInBounds_toArray, List.set_cons_zero, List.set_cons_succ, i64_w, i32_w]
    rfl
  refine pure_ (i := 5) (N := some 60) (v := ?_) (a' := ?_) #[true, true, true, false, false, true, false] rfl rfl (by kernel_rfl) (fun _ _ _ h => h) (Or.inl ⟨by rfl, ?_⟩) ?_ ?_
  rotate_left
  · intro w'
    go_simp
    with_reducible rfl
  rotate_left
  · simp only [Act.put, List.setIfInBounds_toArray, List.set_cons_zero, List.set_cons_succ, i64_w, i32_w]
    rfl
  refine take_ (i := 3) (N := some 58) (v := ?_) (a' := ?_) #[true, true, true, true, false, true, false] rfl rfl (by kernel_rfl) (fun _ _ _ h => h) (Or.inl ⟨by rfl, ?_⟩) hHeld ?_ ?_
  rotate_left
  · rintro w' ⟨s0, s1, s2, s3⟩
    go_simp
    with_reducible rfl
  rotate_left
  · simp only [Act.put, List.setIfInBounds_toArray, List.set_cons_zero, List.set_cons_succ, i64_w, i32_w]
    rfl
  refine take_ (i := 4) (N := some 59) (v := ?_) (a' := ?_) #[true, true, true, true, true, true, false] rfl rfl (by kernel_rfl) (fun _ _ _ h => h) (Or.inl ⟨by rfl, ?_⟩) hHeld ?_ ?_
  rotate_left
  · rintro w' ⟨s0, s1, s2, s3⟩
    go_simp
    with_reducible rfl
  rotate_left
  · simp only [Act.put, List.setIfInBounds_toArray, List.set_cons_zero, List.set_cons_succ, i64_w, i32_w]
    rfl
  refine last_ (i := 6) (N := none) #[true, true, true, true, true, true, true] rfl rfl (by kernel_rfl) (by decide) (fun K hK => ?_)
  refine skip_ (w1 := ?_) (by rfl) rfl ?_ ?_
  rotate_left
  · go_simp
    rfl
  refine hK.out _ _ ?_
  clear hK K
  refine done_ (by kernel_rfl) ?_

  have B8 := Aside0.mk (B7.out.drew.trans (But.of_grown HG8.out (F := tfoot M sv) (fun k hk => Or.inl (by simpa using hk.symm))))
  have n0 := blk_grown (blk_drew N7.out) HG8.out (by simp; omega)
  have r0 := blk_grown (blk_drew R7.out) HG8.out (by simp; omega)
  clear B7 HG8 HB8 HT7 N7 R7 K7 u0 u1 u2 u3 HT1 hput
  have N5 := Aside0.mk n0
  have R5 := Aside0.mk r0
  have m0 := blk_cell n0 0
  have m1 := blk_cell n0 1
  have m2 := blk_cell n0 2
  have m3 := blk_cell n0 3
  have m4 := blk_cell n0 4
  have m5 := blk_cell n0 5
  have y0 := blk_cell r0 0
  have f0 := blk_frozen r0 0
  have y1 := blk_cell r0 1
  have f1 := blk_frozen r0 1
  have y2 := blk_cell r0 2
  have f2 := blk_frozen r0 2
  have y3 := blk_cell r0 3
  have f3 := blk_frozen r0 3
  have y4 := blk_cell r0 4
  have f4 := blk_frozen r0 4
  have y5 := blk_cell r0 5
  have f5 := blk_frozen r0 5
  have f6 := blk_frozen n0 5
  simp only [List.getElem?_toArray, List.getElem?_cons_succ, List.getElem?_cons_zero] at m0 m1 m2 m3 m4 m5 y0 y1 y2 y3 y4 y5
  clear n0 r0
  go_wp2_with fail
  refine bodyPost_ret (v := .tuple #[.agg #[.int .u8 2, .int .i64 s, .int .i64 c, .int .i64 t, .int .i64 am, .int .u8 r], .bool true]) (results_list (rs := [.cell 6 56, .tmp 7]) rfl (by simp) (.cell (W.heap.size + 1) 56 #[.int .u8 2, .int .i64 s, .int .i64 c, .int .i64 t, .int .i64 am, .int .u8 r] (0, 0) _ rfl (blk_six (blk_far R5.out (by simp) _) _ _ _ _ _ _) Try.underlying56 rfl (by kernel_rfl) (.tmp .nil))) rfl ⟨rfl, ?_⟩
  refine ⟨sv', HT8.out.kept (But.setCell (But.setCell (But.setCell (But.setCell (But.setCell (But.setCell (But.setCell (But.refl (fun k => k = W.heap.size ∨ k = W.heap.size + 1) W8) (Or.inr (by simp)) _) (Or.inr (by simp)) _) (Or.inr (by simp)) _) (Or.inr (by simp)) _) (Or.inr (by simp)) _) (Or.inr (by simp)) _) (Or.inr (by simp)) _) ?_, But.setCell (But.setCell (But.setCell (But.setCell (But.setCell (But.setCell (But.setCell (B8.out) (Or.inl (by simp)) _) (Or.inl (by simp)) _) (Or.inl (by simp)) _) (Or.inl (by simp)) _) (Or.inl (by simp)) _) (Or.inl (by simp)) _) (Or.inl (by simp)) _, fun k hk => (HO7.out k hk).imp id (fun h => Nat.le_trans (Nat.le_of_lt (Nat.lt_of_succ_lt HSZ.out)) h)⟩
  intro k hk hk2
  have hsz := HSZ.out
  rcases hk with e | e | e
  · omega
  · omega
  · rcases HO7.out k e with e' | e'
    · exact HNF.out k (by omega) (Or.inr (Or.inr e'))
    · have e2 : W1.heap.size ≤ k := e'
      omega

theorem tfirst_wf (L : List TE) (kind s c t am v : Int) (hv : (Lit.int .u8 v).wf = true) : (Lit.int .u8 (tfirst L kind s c t am v).1).wf = true := by
  unfold tfirst
  repeat' split
  all_goals first | exact hv | exact (by decide : (Lit.int .u8 1).wf = true) | exact (by decide : (Lit.int .u8 3).wf = true)
theorem thear_calls (W : World) (M : Nat) (sv : Value) (n : Nat) (f : TF) (L : List TE) (h : TillAt W M sv n f L) (ok : TOk L) (hn : n < maxLen) (kind s c t am v : Int) (hk : kind = 1 ∨ kind = 2) (hs : (Lit.int .i64 s).wf = true) (hc : (Lit.int .i64 c).wf = true) (ht : (Lit.int .i64 t).wf = true) (hv : (Lit.int .u8 v).wf = true) :
    Calls Try.prog 31 #[.pointer (some ⟨M + 1, 0, none⟩), .agg #[.int .u8 kind, .int .i64 s, .int .i64 c, .int .i64 t, .int .i64 am, .int .u8 0], .int .u8 v] W fun x w' =>
      x = .returned (.tuple #[.agg #[.int .u8 kind, .int .i64 s, .int .i64 c, .int .i64 t, .int .i64 am, .int .u8 (thear f L kind s c t am v).1], .bool true]) ∧
      ∃ sv', TillAt w' M sv' (n + 1) (thear f L kind s c t am v).2.1 (thear f L kind s c t am v).2.2 ∧ But (tfoot M sv) W w' ∧ ∀ k, sv'.ownBlock = some k → sv.ownBlock = some k ∨ W.heap.size ≤ k := by
  cases hf : f s c (tk kind t) with
  | some v0 =>
    simp only [thear, hf]
    have key : ∀ x w', x = Ending.returned (.tuple #[.agg #[.int .u8 kind, .int .i64 s, .int .i64 c, .int .i64 t, .int .i64 am, .int .u8 v0], .bool true]) ∧ Below W.heap.size W w' → x = .returned (.tuple #[.agg #[.int .u8 kind, .int .i64 s, .int .i64 c, .int .i64 t, .int .i64 am, .int .u8 v0], .bool true]) ∧
      ∃ sv', TillAt w' M sv' (n + 1) f L ∧ But (tfoot M sv) W w' ∧ ∀ k, sv'.ownBlock = some k → sv.ownBlock = some k ∨ W.heap.size ≤ k := by
      rintro x w' ⟨rfl, hb⟩
      have h' := h.kept (F := fun _ => False) (But.of_below hb) (fun _ _ e => e)
      exact ⟨rfl, sv, ⟨h'.blk, (by obtain ⟨D, h1, h2⟩ := h'.map; exact ⟨D, h1.mono (Nat.le_succ _), h2⟩), h'.row⟩, But.of_below hb, fun k hk => Or.inl hk⟩
    rcases hk with rfl | rfl
    · exact (thear_old1 W M sv n f L h ok hn s c t am v hs hc ht v0 hf).mono key
    · exact (thear_old2 W M sv n f L h ok hn s c t am v hs hc ht v0 hf).mono key
  | none =>
    simp only [thear, hf]
    rcases hk with rfl | rfl
    · exact thear_new1 W M sv n f L h ok hn s c t am v hs hc ht hf _ _ rfl (tfirst_wf _ _ _ _ _ _ _ hv)
    · exact thear_new2 W M sv n f L h ok hn s c t am v hs hc ht hf _ _ rfl (tfirst_wf _ _ _ _ _ _ _ hv)
theorem thear_pass (W : World) (M : Nat) (kind s c t am v : Int) (h1 : kind ≠ 1) (h2 : kind ≠ 2) :
    Calls Try.prog 31 #[.pointer (some ⟨M + 1, 0, none⟩), .agg #[.int .u8 kind, .int .i64 s, .int .i64 c, .int .i64 t, .int .i64 am, .int .u8 0], .int .u8 v] W fun x w' =>
      x = .returned (.tuple #[.agg #[.int .u8 0, .int .i64 0, .int .i64 0, .int .i64 0, .int .i64 0, .int .u8 0], .bool false]) ∧ Below W.heap.size W w' := by
  have e1 : (kind == 1) = false := by simpa using h1
  have e2 : (kind == 2) = false := by simpa using h2
  have e3 : (kind != 1) = true := by simpa using h1
  have e4 : (kind != 2) = true := by simpa using h2
  have B0 := Aside0.mk (below_alloc (below_alloc (Below.refl W.heap.size W) (.cells #[.int .u8 kind, .int .i64 s, .int .i64 c, .int .i64 t, .int .i64 am, .int .u8 0] 56)) (.cells #[.int .u8 0, .int .i64 0, .int .i64 0, .int .i64 0, .int .i64 0, .int .u8 0] 56))
  have R0 : Aside0 (((W.alloc (.cells #[.int .u8 kind, .int .i64 s, .int .i64 c, .int .i64 t, .int .i64 am, .int .u8 0] 56)).alloc (.cells #[.int .u8 0, .int .i64 0, .int .i64 0, .int .i64 0, .int .i64 0, .int .u8 0] 56)).heap[W.heap.size + 1]? = some (.cells #[.int .u8 0, .int .i64 0, .int .i64 0, .int .i64 0, .int .i64 0, .int .u8 0] 56 (0, 0))) := ⟨by simpa using blk_new (W.alloc (.cells #[.int .u8 kind, .int .i64 s, .int .i64 c, .int .i64 t, .int .i64 am, .int .u8 0] 56)) (.cells #[.int .u8 0, .int .i64 0, .int .i64 0, .int .i64 0, .int .i64 0, .int .u8 0] 56)⟩
  clear h1 h2
  go_enter Try.func31, Try.ntmps31
  go_wp2_with fail
  refine bodyPost_ret (v := .tuple #[.agg #[.int .u8 0, .int .i64 0, .int .i64 0, .int .i64 0, .int .i64 0, .int .u8 0], .bool false]) (results_list (rs := [.cell 6 56, .tmp 7]) rfl (by simp) (.cell (W.heap.size + 1) 56 #[.int .u8 0, .int .i64 0, .int .i64 0, .int .i64 0, .int .i64 0, .int .u8 0] (0, 0) _ rfl R0.out Try.underlying56 rfl (by kernel_rfl) (.tmp .nil))) rfl ⟨rfl, B0.out⟩
end Go.Proofs.Ytljfmfkgpnabaaa.Pure
