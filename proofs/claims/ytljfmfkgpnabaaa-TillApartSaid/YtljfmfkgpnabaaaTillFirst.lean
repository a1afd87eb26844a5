/- Till. -/
import Derived.Test.YtljfmfkgpnabaaaTillBase
set_option linter.unusedVariables false
set_option linter.unusedSimpArgs false
namespace Go.Proofs.Ytljfmfkgpnabaaa.Pure
open Go.RowKit  Go.Proofs.YtljfmfkgpnabaaaW.PrintWords Go.Proofs.YtljfmfkgpnabaaaW.PrintLast
open Go.Maps Go.ChangeShapes Go.WideShapes Go.Joins
open Go.Proofs.Ytljfmfkgpnabaaa
attribute [local go_sem] setCell_map

theorem own_ge {w : World} {base : Nat} {e : TypeId} {size : Nat} {v : Value} {n : Nat} {xs : List Value} (h : w.ownsRow base e size v n xs) : ∀ k, v.ownBlock = some k → base ≤ k := fun k hk => (h.lt k hk).1
theorem till_push {w W2 w3 : World} {M : Nat} {sv : Value} {n : Nat} {f : TF} {L : List TE} (e : TE) (g cap : Nat) (h : TillAt w M sv n f L) (B2 : Below w.heap.size w W2)
    (hown : w3.ownsRow (M + 2) 64 4 (.slice (some ⟨g, 0, none⟩) (L.length + 1) cap) (L.length + 1) (tflat L ++ [.int .i64 e.1, .int .i64 e.2.1, .int .i64 e.2.2.1, .int .i64 e.2.2.2]))
    (hgrow : W2.grownBy w3 sv.ownBlock) (hat : sv.ownBlock = some g ∨ g = W2.heap.size) :
    TillAt (w3.setCell ⟨M + 1, 1, none⟩ (.slice (some ⟨g, 0, none⟩) (L.length + 1) cap)) M (.slice (some ⟨g, 0, none⟩) (L.length + 1) cap) n f (L ++ [e]) ∧
      But (tfoot M sv) w (w3.setCell ⟨M + 1, 1, none⟩ (.slice (some ⟨g, 0, none⟩) (L.length + 1) cap)) ∧ (sv.ownBlock = some g ∨ w.heap.size ≤ g) := by
  have h2 := h.kept (F := fun _ => False) (But.of_below B2) (fun _ _ e => e)
  have hge := own_ge h.row
  have n0 : some M ≠ sv.ownBlock := fun e' => by have := hge M e'.symm; omega
  have n1 : some (M + 1) ≠ sv.ownBlock := fun e' => by have := hge (M + 1) e'.symm; omega
  have hgb : M + 2 ≤ g := by
    have := own_ge hown g rfl
    exact this
  have b3 := blk_grown h2.blk hgrow n1
  have b4 := blk_put b3 1 (.slice (some ⟨g, 0, none⟩) (L.length + 1) cap) (cs' := #[.map (some M), .slice (some ⟨g, 0, none⟩) (L.length + 1) cap]) rfl
  refine ⟨⟨b4, ?_, ?_⟩, ?_, ?_⟩
  · obtain ⟨D, hD, hs⟩ := h2.map
    exact ⟨D, (hD.kept hgrow n0).setCell (by show M ≠ M + 1; omega) _, hs⟩
  · have := ownsRow_setCell_below hown (a := ⟨M + 1, 1, none⟩) (by show M + 1 < M + 2; omega) (.slice (some ⟨g, 0, none⟩) (L.length + 1) cap)
    rw [tflat_snoc, List.length_append]
    exact this
  · refine But.setCell (But.trans (But.of_below B2) ?_) (Or.inr (Or.inr (Or.inl rfl))) _
    exact But.of_grown hgrow (fun k hk => Or.inr (Or.inr hk))
  · rcases hat with h' | rfl
    · exact Or.inl h'
    · exact Or.inr B2.size
/-- What is said the first time, and the list behind it. -/
def tfirst (L : List TE) (kind s c t am v : Int) : Int × List TE :=
  if kind = 1 then (if v = 1 then (1, L ++ [(s, c, t, am)]) else (if v < 1 ∨ 3 < v then 3 else v, L))
  else if tsum (pT s c) L = 0 then (3, L) else (1, L ++ [(s, c, 0, tsum (pT s c) L)])

set_option maxHeartbeats 1000000 in
theorem tfirst_yes (W : World) (M : Nat) (sv : Value) (n : Nat) (f : TF) (L : List TE) (h : TillAt W M sv n f L) (ok : TOk L) (s c t am ve : Int) :
    Calls Try.prog 37 #[.pointer (some ⟨M + 1, 0, none⟩), .agg #[.int .u8 1, .int .i64 s, .int .i64 c, .int .i64 t, .int .i64 am, .int .u8 ve], .int .u8 1] W fun x w' => x = .returned (.int .u8 1) ∧
      ∃ sv', TillAt w' M sv' n f (L ++ [(s, c, t, am)]) ∧ But (tfoot M sv) W w' ∧ ∀ k, sv'.ownBlock = some k → sv.ownBlock = some k ∨ W.heap.size ≤ k := by
  obtain ⟨c0, c1, ao, cap, rfl⟩ := h.cells
  have HT0 := Aside0.mk h
  have HNE : Aside0 (some (M + 1) ≠ (Value.slice ao L.length cap).ownBlock) := ⟨fun e' => by have := own_ge h.row (M + 1) e'.symm; omega⟩
  have HNN : Aside0 (some W.heap.size ≠ (Value.slice ao L.length cap).ownBlock) := ⟨fun e' => by have := (h.row.lt W.heap.size e'.symm).2; omega⟩
  have hlen : L.length ≤ 1000 := ok.1
  have HO := Aside0.mk ok
  have hM := h.lt
  clear h ok
  obtain ⟨i0, hi, hz0, hz1, hz2⟩ := info_parts tinfo

  have B1 := Aside0.mk ((below_alloc (Below.refl W.heap.size W) (.cells #[.int .u8 1, .int .i64 s, .int .i64 c, .int .i64 t, .int .i64 am, .int .u8 ve] 56)))
  have N1 : Aside0 ((W.alloc (.cells #[.int .u8 1, .int .i64 s, .int .i64 c, .int .i64 t, .int .i64 am, .int .u8 ve] 56)).heap[W.heap.size]? = some (.cells #[.int .u8 1, .int .i64 s, .int .i64 c, .int .i64 t, .int .i64 am, .int .u8 ve] 56 (0, 0))) := ⟨blk_new W _⟩
  go_enter Try.func37, Try.ntmps37
  go_wp2_with fail
  have B0 := B1
  have N0 := N1
  have HT := Aside0.mk (HT0.out.kept (F := fun _ => False) (But.of_below B0.out) (fun _ _ e => e))
  clear B1 N1
  generalize W.alloc (.cells #[.int .u8 1, .int .i64 s, .int .i64 c, .int .i64 t, .int .i64 am, .int .u8 ve] 56) = W1 at B0 N0 HT ⊢
  have p0 := HT.out.cells.2.1
  have p1 : W1.drew.cell? ⟨W.heap.size, 1, none⟩ = some (.int .i64 s) := blk_cell N0.out 1
  have p2 : W1.drew.cell? ⟨W.heap.size, 2, none⟩ = some (.int .i64 c) := blk_cell N0.out 2
  have p3 : W1.drew.cell? ⟨W.heap.size, 3, none⟩ = some (.int .i64 t) := blk_cell N0.out 3
  have p4 : W1.drew.cell? ⟨W.heap.size, 4, none⟩ = some (.int .i64 am) := blk_cell N0.out 4
  refine start_ (n := 19) (S := fun w' => w'.cell? ⟨M + 1, 1, none⟩ = some (.slice ao L.length cap) ∧ w'.cell? ⟨W.heap.size, 1, none⟩ = some (.int .i64 s) ∧ w'.cell? ⟨W.heap.size, 2, none⟩ = some (.int .i64 c) ∧ w'.cell? ⟨W.heap.size, 3, none⟩ = some (.int .i64 t) ∧ w'.cell? ⟨W.heap.size, 4, none⟩ = some (.int .i64 am)) (ds := [18]) #[false, false, false, false, false, false, false, false, false, false, false, false, false, false, false, false, false, false, false] (by kernel_rfl) rfl rfl ⟨p0, p1, p2, p3, p4⟩ (fun hHeld => ?_)
  refine pure_ (i := 0) (N := some 19) (v := ?_) (a' := ?_) #[true, false, false, false, false, false, false, false, false, false, false, false, false, false, false, false, false, false, false] rfl rfl (by kernel_rfl) (fun _ _ _ h => h) (Or.inl ⟨by rfl, ?_⟩) ?_ ?_
  rotate_left
  · intro w'
    go_simp
    with_reducible rfl
  rotate_left
  · simp only [Act.put, List.setIfInBounds_toArray, List.set_cons_zero, List.set_cons_succ, i64_w, i32_w]
    rfl
  refine pure_ (i := 1) (N := some 20) (v := ?_) (a' := ?_) #[true, true, false, false, false, false, false, false, false, false, false, false, false, false, false, false, false, false, false] rfl rfl (by kernel_rfl) (fun _ _ _ h => h) (Or.inl ⟨by rfl, ?_⟩) ?_ ?_
  rotate_left
  · intro w'
    go_simp
    with_reducible rfl
  rotate_left
  · simp only [Act.put, List.setIfInBounds_toArray, List.set_cons_zero, List.set_cons_succ, i64_w, i32_w]
    rfl
  refine pure_ (i := 2) (N := some 21) (v := ?_) (a' := ?_) #[true, true, true, false, false, false, false, false, false, false, false, false, false, false, false, false, false, false, false] rfl rfl (by kernel_rfl) (fun _ _ _ h => h) (Or.inl ⟨by rfl, ?_⟩) ?_ ?_
  rotate_left
  · intro w'
    go_simp
    with_reducible rfl
  rotate_left
  · simp only [Act.put, List.setIfInBounds_toArray, List.set_cons_zero, List.set_cons_succ, i64_w, i32_w]
    rfl
  refine pure_ (i := 3) (N := some 22) (v := ?_) (a' := ?_) #[true, true, true, true, false, false, false, false, false, false, false, false, false, false, false, false, false, false, false] rfl rfl (by kernel_rfl) (fun _ _ _ h => h) (Or.inl ⟨by rfl, ?_⟩) ?_ ?_
  rotate_left
  · intro w'
    go_simp
    with_reducible rfl
  rotate_left
  · simp only [Act.put, List.setIfInBounds_toArray, List.set_cons_zero, List.set_cons_succ, i64_w, i32_w]
    rfl
  refine pure_ (i := 5) (N := some 24) (v := ?_) (a' := ?_) #[true, true, true, true, false, true, false, false, false, false, false, false, false, false, false, false, false, false, false] rfl rfl (by kernel_rfl) (fun _ _ _ h => h) (Or.inl ⟨by rfl, ?_⟩) ?_ ?_
  rotate_left
  · intro w'
    go_simp
    with_reducible rfl
  rotate_left
  · simp only [Act.put, List.setIfInBounds_toArray, List.set_cons_zero, List.set_cons_succ, i64_w, i32_w]
    rfl
  refine pure_ (i := 7) (N := some 26) (v := ?_) (a' := ?_) #[true, true, true, true, false, true, false, true, false, false, false, false, false, false, false, false, false, false, false] rfl rfl (by kernel_rfl) (fun _ _ _ h => h) (Or.inl ⟨by rfl, ?_⟩) ?_ ?_
  rotate_left
  · intro w'
    go_simp
    with_reducible rfl
  rotate_left
  · simp only [Act.put, List.setIfInBounds_toArray, List.set_cons_zero, List.set_cons_succ, i64_w, i32_w]
    rfl
  refine pure_ (i := 9) (N := some 28) (v := ?_) (a' := ?_) #[true, true, true, true, false, true, false, true, false, true, false, false, false, false, false, false, false, false, false] rfl rfl (by kernel_rfl) (fun _ _ _ h => h) (Or.inl ⟨by rfl, ?_⟩) ?_ ?_
  rotate_left
  · intro w'
    go_simp
    with_reducible rfl
  rotate_left
  · simp only [Act.put, List.setIfInBounds_toArray, List.set_cons_zero, List.set_cons_succ, i64_w, i32_w]
    rfl
  refine pure_ (i := 11) (N := some 30) (v := ?_) (a' := ?_) #[true, true, true, true, false, true, false, true, false, true, false, true, false, false, false, false, false, false, false] rfl rfl (by kernel_rfl) (fun _ _ _ h => h) (Or.inl ⟨by rfl, ?_⟩) ?_ ?_
  rotate_left
  · intro w'
    go_simp
    with_reducible rfl
  rotate_left
  · simp only [Act.put, List.setIfInBounds_toArray, List.set_cons_zero, List.set_cons_succ, i64_w, i32_w]
    rfl
  refine take_ (i := 4) (N := some 23) (v := ?_) (a' := ?_) #[true, true, true, true, true, true, false, true, false, true, false, true, false, false, false, false, false, false, false] rfl rfl (by kernel_rfl) (fun _ _ _ h => h) (Or.inl ⟨by rfl, ?_⟩) hHeld ?_ ?_
  rotate_left
  · rintro w' ⟨s0, s1, s2, s3, s4⟩
    go_simp
    with_reducible rfl
  rotate_left
  · simp only [Act.put, List.setIfInBounds_toArray, List.set_cons_zero, List.set_cons_succ, i64_w, i32_w]
    rfl
  refine take_ (i := 6) (N := some 25) (v := ?_) (a' := ?_) #[true, true, true, true, true, true, true, true, false, true, false, true, false, false, false, false, false, false, false] rfl rfl (by kernel_rfl) (fun _ _ _ h => h) (Or.inl ⟨by rfl, ?_⟩) hHeld ?_ ?_
  rotate_left
  · rintro w' ⟨s0, s1, s2, s3, s4⟩
    go_simp
    with_reducible rfl
  rotate_left
  · simp only [Act.put, List.setIfInBounds_toArray, List.set_cons_zero, List.set_cons_succ, i64_w, i32_w]
    rfl
  refine take_ (i := 8) (N := some 27) (v := ?_) (a' := ?_) #[true, true, true, true, true, true, true, true, true, true, false, true, false, false, false, false, false, false, false] rfl rfl (by kernel_rfl) (fun _ _ _ h => h) (Or.inl ⟨by rfl, ?_⟩) hHeld ?_ ?_
  rotate_left
  · rintro w' ⟨s0, s1, s2, s3, s4⟩
    go_simp
    with_reducible rfl
  rotate_left
  · simp only [Act.put, List.setIfInBounds_toArray, List.set_cons_zero, List.set_cons_succ, i64_w, i32_w]
    rfl
  refine take_ (i := 10) (N := some 29) (v := ?_) (a' := ?_) #[true, true, true, true, true, true, true, true, true, true, true, true, false, false, false, false, false, false, false] rfl rfl (by kernel_rfl) (fun _ _ _ h => h) (Or.inl ⟨by rfl, ?_⟩) hHeld ?_ ?_
  rotate_left
  · rintro w' ⟨s0, s1, s2, s3, s4⟩
    go_simp
    with_reducible rfl
  rotate_left
  · simp only [Act.put, List.setIfInBounds_toArray, List.set_cons_zero, List.set_cons_succ, i64_w, i32_w]
    rfl
  refine take_ (i := 12) (N := some 31) (v := ?_) (a' := ?_) #[true, true, true, true, true, true, true, true, true, true, true, true, true, false, false, false, false, false, false] rfl rfl (by kernel_rfl) (fun _ _ _ h => h) (Or.inl ⟨by rfl, ?_⟩) hHeld ?_ ?_
  rotate_left
  · rintro w' ⟨s0, s1, s2, s3, s4⟩
    go_simp
    with_reducible rfl
  rotate_left
  · simp only [Act.put, List.setIfInBounds_toArray, List.set_cons_zero, List.set_cons_succ, i64_w, i32_w]
    rfl
  refine pure_ (i := 13) (N := some 32) (v := ?_) (a' := ?_) #[true, true, true, true, true, true, true, true, true, true, true, true, true, true, false, false, false, false, false] rfl rfl (by kernel_rfl) (fun _ _ _ h => h) (Or.inl ⟨by rfl, ?_⟩) ?_ ?_
  rotate_left
  · intro w'
    go_simp
    with_reducible rfl
  rotate_left
  · simp only [Act.put, List.setIfInBounds_toArray, List.set_cons_zero, List.set_cons_succ, i64_w, i32_w]
    rfl
  refine one_ (i := 14) (N := some 33) #[true, true, true, true, true, true, true, true, true, true, true, true, true, true, true, false, false, false, false] rfl rfl (by kernel_rfl) (by decide) (fun K hK => ?_)
  refine value_ (w1 := ?_) (v := ?_) (by rfl) rfl ?_ ?_
  rotate_left 2
  · go_simp
    constructor
    · rfl
    · rfl
  have WB : Aside0 (((W1.alloc (.cells #[.int .i64 s, .int .i64 c, .int .i64 t, .int .i64 am] 64)).drew).heap[W1.heap.size]? = some (.cells #[.int .i64 s, .int .i64 c, .int .i64 t, .int .i64 am] 64 (0, 0))) := ⟨blk_drew (blk_new W1 _)⟩
  have q0 : ((W1.alloc (.cells #[.int .i64 s, .int .i64 c, .int .i64 t, .int .i64 am] 64)).drew).cell? ⟨M + 1, 1, none⟩ = some (.slice ao L.length cap) := (below_drew (below_alloc (Below.refl _ W1) (.cells #[.int .i64 s, .int .i64 c, .int .i64 t, .int .i64 am] 64))).cell (p := ⟨M + 1, 1, none⟩) (World.block_lt_of_cell? W1 _ p0) |>.trans p0
  have q1 : ((W1.alloc (.cells #[.int .i64 s, .int .i64 c, .int .i64 t, .int .i64 am] 64)).drew).cell? ⟨W.heap.size, 1, none⟩ = some (.int .i64 s) := (below_drew (below_alloc (Below.refl _ W1) (.cells #[.int .i64 s, .int .i64 c, .int .i64 t, .int .i64 am] 64))).cell (p := ⟨W.heap.size, 1, none⟩) (World.block_lt_of_cell? W1 _ p1) |>.trans p1
  have q2 : ((W1.alloc (.cells #[.int .i64 s, .int .i64 c, .int .i64 t, .int .i64 am] 64)).drew).cell? ⟨W.heap.size, 2, none⟩ = some (.int .i64 c) := (below_drew (below_alloc (Below.refl _ W1) (.cells #[.int .i64 s, .int .i64 c, .int .i64 t, .int .i64 am] 64))).cell (p := ⟨W.heap.size, 2, none⟩) (World.block_lt_of_cell? W1 _ p2) |>.trans p2
  have q3 : ((W1.alloc (.cells #[.int .i64 s, .int .i64 c, .int .i64 t, .int .i64 am] 64)).drew).cell? ⟨W.heap.size, 3, none⟩ = some (.int .i64 t) := (below_drew (below_alloc (Below.refl _ W1) (.cells #[.int .i64 s, .int .i64 c, .int .i64 t, .int .i64 am] 64))).cell (p := ⟨W.heap.size, 3, none⟩) (World.block_lt_of_cell? W1 _ p3) |>.trans p3
  have q4 : ((W1.alloc (.cells #[.int .i64 s, .int .i64 c, .int .i64 t, .int .i64 am] 64)).drew).cell? ⟨W.heap.size, 4, none⟩ = some (.int .i64 am) := (below_drew (below_alloc (Below.refl _ W1) (.cells #[.int .i64 s, .int .i64 c, .int .i64 t, .int .i64 am] 64))).cell (p := ⟨W.heap.size, 4, none⟩) (World.block_lt_of_cell? W1 _ p4) |>.trans p4
  have BB := Aside0.mk (below_drew (below_alloc B0.out (.cells #[.int .i64 s, .int .i64 c, .int .i64 t, .int .i64 am] 64)))
  generalize hW2 : (W1.alloc (.cells #[.int .i64 s, .int .i64 c, .int .i64 t, .int .i64 am] 64)).drew = W2 at WB BB q0 q1 q2 q3 q4 ⊢
  generalize W1.heap.size = H2 at WB ⊢
  have HT2 := Aside0.mk (HT0.out.kept (F := fun _ => False) (But.of_below BB.out) (fun _ _ e => e))
  refine hK.out _ _ ⟨q0, q1, q2, q3, q4⟩ (fun hHeld => ?_)
  clear hK K
  refine norm_ (a' := ?_) ?_ ?_
  rotate_left
  · show Act.put _ (some 33) _ = _
    simp only [Act.put, List.setIfInBounds_toArray, List.set_cons_zero, List.set_cons_succ, i64_w, i32_w]
    rfl
  refine one_ (i := 15) (N := some 34) #[true, true, true, true, true, true, true, true, true, true, true, true, true, true, true, true, false, false, false] rfl rfl (by kernel_rfl) (by decide) (fun K hK => ?_)
  refine step_append_lies _ rfl (.tmp 23) (.tmp 33) 51 rfl (M + 2) 64 i0 (.agg #[.int .i64 0, .int .i64 0, .int .i64 0, .int .i64 0]) 4 32 Try.underlying51 hi hz0 hz1 hz2 rfl (by decide) (.slice ao L.length cap) L.length (tflat L) rfl HT2.out.row ⟨H2, 0, none⟩ 1 1 [.int .i64 s, .int .i64 c, .int .i64 t, .int .i64 am] rfl rfl (World.news_of_block WB.out) (by intro u hu; simp at hu; rcases hu with rfl | rfl | rfl | rfl <;> rfl) (by decide) (by unfold maxLen; omega) (by omega) (by have := HT2.out.lt; omega) _ rfl ?_
  intro g3 cap3 w3 hown3 hgrow3 hat3 hlt3
  have hP := Aside0.mk (till_push (w := W) (s, c, t, am) g3 cap3 HT0.out BB.out hown3 hgrow3 hat3)
  have r0 : w3.cell? ⟨M + 1, 1, none⟩ = some (.slice ao L.length cap) := (hgrow3.cell_far ⟨M + 1, 1, none⟩ (World.block_lt_of_cell? W2 _ q0) HNE.out).trans q0
  have z0 : w3.frozen? ⟨M + 1, 1, none⟩ = false := (hgrow3.frozen_far ⟨M + 1, 1, none⟩ (World.block_lt_of_cell? W2 _ q0) HNE.out).trans (blk_frozen HT2.out.blk 1)
  have r1 : w3.cell? ⟨W.heap.size, 1, none⟩ = some (.int .i64 s) := (hgrow3.cell_far ⟨W.heap.size, 1, none⟩ (World.block_lt_of_cell? W2 _ q1) HNN.out).trans q1
  have r2 : w3.cell? ⟨W.heap.size, 2, none⟩ = some (.int .i64 c) := (hgrow3.cell_far ⟨W.heap.size, 2, none⟩ (World.block_lt_of_cell? W2 _ q2) HNN.out).trans q2
  have r3 : w3.cell? ⟨W.heap.size, 3, none⟩ = some (.int .i64 t) := (hgrow3.cell_far ⟨W.heap.size, 3, none⟩ (World.block_lt_of_cell? W2 _ q3) HNN.out).trans q3
  have r4 : w3.cell? ⟨W.heap.size, 4, none⟩ = some (.int .i64 am) := (hgrow3.cell_far ⟨W.heap.size, 4, none⟩ (World.block_lt_of_cell? W2 _ q4) HNN.out).trans q4
  clear hown3 hgrow3 hat3 hlt3 HT2 WB
  refine hK.out _ _ ⟨r0, r1, r2, r3, r4⟩ (fun hHeld => ?_)
  clear hK K
  refine norm_ (a' := ?_) ?_ ?_
  rotate_left
  · show Act.put _ (some 34) _ = _
    simp only [Act.put, List.setIfInBounds_toArray, List.set_cons_zero, List.set_cons_succ, i64_w, i32_w]
    rfl
  refine pure_ (i := 16) (N := some 35) (v := ?_) (a' := ?_) #[true, true, true, true, true, true, true, true, true, true, true, true, true, true, true, true, true, false, false] rfl rfl (by kernel_rfl) (fun _ _ _ h => h) (Or.inl ⟨by rfl, ?_⟩) ?_ ?_
  rotate_left
  · intro w'
    go_simp
    with_reducible rfl
  rotate_left
  · simp only [Act.put, List.setIfInBounds_toArray, List.set_cons_zero, List.set_cons_succ, i64_w, i32_w]
    rfl
  refine pure_ (i := 17) (N := some 36) (v := ?_) (a' := ?_) #[true, true, true, true, true, true, true, true, true, true, true, true, true, true, true, true, true, true, false] rfl rfl (by kernel_rfl) (fun _ _ _ h => h) (Or.inl ⟨by rfl, ?_⟩) ?_ ?_
  rotate_left
  · intro w'
    go_simp
    with_reducible rfl
  rotate_left
  · simp only [Act.put, List.setIfInBounds_toArray, List.set_cons_zero, List.set_cons_succ, i64_w, i32_w]
    rfl
  refine last_ (i := 18) (N := none) #[true, true, true, true, true, true, true, true, true, true, true, true, true, true, true, true, true, true, true] rfl rfl (by kernel_rfl) (by decide) (fun K hK => ?_)
  refine skip_ (w1 := ?_) (by rfl) rfl ?_ ?_
  rotate_left
  · go_simp
    rfl
  refine hK.out _ _ ?_
  clear hK K
  refine done_ (by kernel_rfl) ?_
  go_wp2
  go_ret
  exact ⟨rfl, _, hP.out.1, hP.out.2.1, fun k hk => by have h9 : g3 = k := by simpa [Value.ownBlock] using hk
                                                      subst h9; exact hP.out.2.2⟩
theorem tfirst_no (W : World) (M : Nat) (s c t am ve v : Int) (hv : v ≠ 1) :
    Calls Try.prog 37 #[.pointer (some ⟨M + 1, 0, none⟩), .agg #[.int .u8 1, .int .i64 s, .int .i64 c, .int .i64 t, .int .i64 am, .int .u8 ve], .int .u8 v] W fun x w' => x = .returned (.int .u8 (if v < 1 ∨ 3 < v then 3 else v)) ∧ Below W.heap.size W w' := by
  have B1 := Aside0.mk ((below_alloc (Below.refl W.heap.size W) (.cells #[.int .u8 1, .int .i64 s, .int .i64 c, .int .i64 t, .int .i64 am, .int .u8 ve] 56)))
  have e0 : (v == 1) = false := by simpa using hv
  have HV := Aside0.mk hv
  clear hv
  by_cases h1 : v < 1
  · have R : Aside0 ((if v < 1 ∨ 3 < v then 3 else v) = 3) := ⟨if_pos (Or.inl h1)⟩
    rw [R.out]
    have e1 : decide (v < 1) = true := decide_eq_true h1
    clear h1
    go_enter Try.func37, Try.ntmps37
    go_wp2
    go_ret
    exact ⟨rfl, B1.out⟩
  · have e1 : decide (v < 1) = false := decide_eq_false h1
    by_cases h3 : 3 < v
    · have R : Aside0 ((if v < 1 ∨ 3 < v then 3 else v) = 3) := ⟨if_pos (Or.inr h3)⟩
      rw [R.out]
      have e3 : decide (3 < v) = true := decide_eq_true h3
      clear h1 h3
      go_enter Try.func37, Try.ntmps37
      go_wp2
      go_ret
      exact ⟨rfl, B1.out⟩
    · have R : Aside0 ((if v < 1 ∨ 3 < v then 3 else v) = v) := ⟨if_neg (by omega)⟩
      rw [R.out]
      have e3 : decide (3 < v) = false := decide_eq_false h3
      clear h1 h3
      go_enter Try.func37, Try.ntmps37
      go_wp2
      go_ret
      exact ⟨rfl, B1.out⟩
theorem tfirst_back0 (W : World) (M : Nat) (sv : Value) (n : Nat) (f : TF) (L : List TE) (h : TillAt W M sv n f L) (ok : TOk L) (s c t am ve v : Int) (h0 : tsum (pT s c) L = 0) :
    Calls Try.prog 37 #[.pointer (some ⟨M + 1, 0, none⟩), .agg #[.int .u8 2, .int .i64 s, .int .i64 c, .int .i64 t, .int .i64 am, .int .u8 ve], .int .u8 v] W fun x w' => x = .returned (.int .u8 3) ∧ Below W.heap.size W w' := by
  have B1 := Aside0.mk ((below_alloc (Below.refl W.heap.size W) (.cells #[.int .u8 2, .int .i64 s, .int .i64 c, .int .i64 t, .int .i64 am, .int .u8 ve] 56)))
  have K := Aside0.mk (ttaken_calls (W.alloc (.cells #[.int .u8 2, .int .i64 s, .int .i64 c, .int .i64 t, .int .i64 am, .int .u8 ve] 56)) M sv n f L (h.kept (F := fun _ => False) (But.of_below B1.out) (fun _ _ e => e)) ok s c)
  rw [h0] at K
  clear h h0
  go_enter Try.func37, Try.ntmps37
  go_wp2_with fail
  with_reducible refine K.out.mono ?_
  rintro x w7 ⟨rfl, hb7⟩
  have B7 := Aside0.mk (below_step B1.out hb7)
  clear hb7 K B1
  go_wp2
  go_ret
  exact ⟨rfl, B7.out⟩
set_option maxHeartbeats 1000000 in
theorem tfirst_back (W : World) (M : Nat) (sv : Value) (n : Nat) (f : TF) (L : List TE) (h : TillAt W M sv n f L) (ok : TOk L) (s c t am ve v : Int) (h0 : tsum (pT s c) L ≠ 0) :
    Calls Try.prog 37 #[.pointer (some ⟨M + 1, 0, none⟩), .agg #[.int .u8 2, .int .i64 s, .int .i64 c, .int .i64 t, .int .i64 am, .int .u8 ve], .int .u8 v] W fun x w' => x = .returned (.int .u8 1) ∧
      ∃ sv', TillAt w' M sv' n f (L ++ [(s, c, 0, tsum (pT s c) L)]) ∧ But (tfoot M sv) W w' ∧ ∀ k, sv'.ownBlock = some k → sv.ownBlock = some k ∨ W.heap.size ≤ k := by
  have B1 := Aside0.mk ((below_alloc (Below.refl W.heap.size W) (.cells #[.int .u8 2, .int .i64 s, .int .i64 c, .int .i64 t, .int .i64 am, .int .u8 ve] 56)))
  have N1 : Aside0 ((W.alloc (.cells #[.int .u8 2, .int .i64 s, .int .i64 c, .int .i64 t, .int .i64 am, .int .u8 ve] 56)).heap[W.heap.size]? = some (.cells #[.int .u8 2, .int .i64 s, .int .i64 c, .int .i64 t, .int .i64 am, .int .u8 ve] 56 (0, 0))) := ⟨blk_new W _⟩
  have K := Aside0.mk (ttaken_calls (W.alloc (.cells #[.int .u8 2, .int .i64 s, .int .i64 c, .int .i64 t, .int .i64 am, .int .u8 ve] 56)) M sv n f L (h.kept (F := fun _ => False) (But.of_below B1.out) (fun _ _ e => e)) ok s c)
  obtain ⟨T, hT⟩ : ∃ T, tsum (pT s c) L = T := ⟨_, rfl⟩
  rw [hT] at K h0 ⊢
  clear hT
  have e0 : (T == 0) = false := by simpa using h0
  clear h0
  obtain ⟨c0, c1, ao, cap, rfl⟩ := h.cells
  have HT0 := Aside0.mk h
  have HNE : Aside0 (some (M + 1) ≠ (Value.slice ao L.length cap).ownBlock) := ⟨fun e' => by have := own_ge h.row (M + 1) e'.symm; omega⟩
  have HNN : Aside0 (some W.heap.size ≠ (Value.slice ao L.length cap).ownBlock) := ⟨fun e' => by have := (h.row.lt W.heap.size e'.symm).2; omega⟩
  have hlen : L.length ≤ 1000 := ok.1
  have HO := Aside0.mk ok
  have hM := h.lt
  clear h ok
  obtain ⟨i0, hi, hz0, hz1, hz2⟩ := info_parts tinfo

  go_enter Try.func37, Try.ntmps37
  go_wp2_with fail
  with_reducible refine K.out.mono ?_
  rintro x W1 ⟨rfl, hb7⟩
  have B0 := Aside0.mk (below_step B1.out hb7)
  have N0 := Aside0.mk (blk_below N1.out hb7)
  clear hb7 K B1 N1
  have HT := Aside0.mk (HT0.out.kept (F := fun _ => False) (But.of_below B0.out) (fun _ _ e => e))
  go_wp2_with fail
  have p0 := HT.out.cells.2.1
  have p1 : W1.drew.cell? ⟨W.heap.size, 1, none⟩ = some (.int .i64 s) := blk_cell N0.out 1
  have p2 : W1.drew.cell? ⟨W.heap.size, 2, none⟩ = some (.int .i64 c) := blk_cell N0.out 2
  refine start_ (n := 16) (S := fun w' => w'.cell? ⟨M + 1, 1, none⟩ = some (.slice ao L.length cap) ∧ w'.cell? ⟨W.heap.size, 1, none⟩ = some (.int .i64 s) ∧ w'.cell? ⟨W.heap.size, 2, none⟩ = some (.int .i64 c)) (ds := [15]) #[false, false, false, false, false, false, false, false, false, false, false, false, false, false, false, false] (by kernel_rfl) rfl rfl ⟨p0, p1, p2⟩ (fun hHeld => ?_)
  refine pure_ (i := 0) (N := some 46) (v := ?_) (a' := ?_) #[true, false, false, false, false, false, false, false, false, false, false, false, false, false, false, false] rfl rfl (by kernel_rfl) (fun _ _ _ h => h) (Or.inl ⟨by rfl, ?_⟩) ?_ ?_
  rotate_left
  · intro w'
    go_simp
    with_reducible rfl
  rotate_left
  · simp only [Act.put, List.setIfInBounds_toArray, List.set_cons_zero, List.set_cons_succ, i64_w, i32_w]
    rfl
  refine pure_ (i := 1) (N := some 47) (v := ?_) (a' := ?_) #[true, true, false, false, false, false, false, false, false, false, false, false, false, false, false, false] rfl rfl (by kernel_rfl) (fun _ _ _ h => h) (Or.inl ⟨by rfl, ?_⟩) ?_ ?_
  rotate_left
  · intro w'
    go_simp
    with_reducible rfl
  rotate_left
  · simp only [Act.put, List.setIfInBounds_toArray, List.set_cons_zero, List.set_cons_succ, i64_w, i32_w]
    rfl
  refine pure_ (i := 2) (N := some 48) (v := ?_) (a' := ?_) #[true, true, true, false, false, false, false, false, false, false, false, false, false, false, false, false] rfl rfl (by kernel_rfl) (fun _ _ _ h => h) (Or.inl ⟨by rfl, ?_⟩) ?_ ?_
  rotate_left
  · intro w'
    go_simp
    with_reducible rfl
  rotate_left
  · simp only [Act.put, List.setIfInBounds_toArray, List.set_cons_zero, List.set_cons_succ, i64_w, i32_w]
    rfl
  refine pure_ (i := 3) (N := some 49) (v := ?_) (a' := ?_) #[true, true, true, true, false, false, false, false, false, false, false, false, false, false, false, false] rfl rfl (by kernel_rfl) (fun _ _ _ h => h) (Or.inl ⟨by rfl, ?_⟩) ?_ ?_
  rotate_left
  · intro w'
    go_simp
    with_reducible rfl
  rotate_left
  · simp only [Act.put, List.setIfInBounds_toArray, List.set_cons_zero, List.set_cons_succ, i64_w, i32_w]
    rfl
  refine pure_ (i := 5) (N := some 51) (v := ?_) (a' := ?_) #[true, true, true, true, false, true, false, false, false, false, false, false, false, false, false, false] rfl rfl (by kernel_rfl) (fun _ _ _ h => h) (Or.inl ⟨by rfl, ?_⟩) ?_ ?_
  rotate_left
  · intro w'
    go_simp
    with_reducible rfl
  rotate_left
  · simp only [Act.put, List.setIfInBounds_toArray, List.set_cons_zero, List.set_cons_succ, i64_w, i32_w]
    rfl
  refine pure_ (i := 7) (N := some 53) (v := ?_) (a' := ?_) #[true, true, true, true, false, true, false, true, false, false, false, false, false, false, false, false] rfl rfl (by kernel_rfl) (fun _ _ _ h => h) (Or.inl ⟨by rfl, ?_⟩) ?_ ?_
  rotate_left
  · intro w'
    go_simp
    with_reducible rfl
  rotate_left
  · simp only [Act.put, List.setIfInBounds_toArray, List.set_cons_zero, List.set_cons_succ, i64_w, i32_w]
    rfl
  refine pure_ (i := 9) (N := some 55) (v := ?_) (a' := ?_) #[true, true, true, true, false, true, false, true, false, true, false, false, false, false, false, false] rfl rfl (by kernel_rfl) (fun _ _ _ h => h) (Or.inl ⟨by rfl, ?_⟩) ?_ ?_
  rotate_left
  · intro w'
    go_simp
    with_reducible rfl
  rotate_left
  · simp only [Act.put, List.setIfInBounds_toArray, List.set_cons_zero, List.set_cons_succ, i64_w, i32_w]
    rfl
  refine take_ (i := 4) (N := some 50) (v := ?_) (a' := ?_) #[true, true, true, true, true, true, false, true, false, true, false, false, false, false, false, false] rfl rfl (by kernel_rfl) (fun _ _ _ h => h) (Or.inl ⟨by rfl, ?_⟩) hHeld ?_ ?_
  rotate_left
  · rintro w' ⟨s0, s1, s2⟩
    go_simp
    with_reducible rfl
  rotate_left
  · simp only [Act.put, List.setIfInBounds_toArray, List.set_cons_zero, List.set_cons_succ, i64_w, i32_w]
    rfl
  refine take_ (i := 6) (N := some 52) (v := ?_) (a' := ?_) #[true, true, true, true, true, true, true, true, false, true, false, false, false, false, false, false] rfl rfl (by kernel_rfl) (fun _ _ _ h => h) (Or.inl ⟨by rfl, ?_⟩) hHeld ?_ ?_
  rotate_left
  · rintro w' ⟨s0, s1, s2⟩
    go_simp
    with_reducible rfl
  rotate_left
  · simp only [Act.put, List.setIfInBounds_toArray, List.set_cons_zero, List.set_cons_succ, i64_w, i32_w]
    rfl
  refine take_ (i := 8) (N := some 54) (v := ?_) (a' := ?_) #[true, true, true, true, true, true, true, true, true, true, false, false, false, false, false, false] rfl rfl (by kernel_rfl) (fun _ _ _ h => h) (Or.inl ⟨by rfl, ?_⟩) hHeld ?_ ?_
  rotate_left
  · rintro w' ⟨s0, s1, s2⟩
    go_simp
    with_reducible rfl
  rotate_left
  · simp only [Act.put, List.setIfInBounds_toArray, List.set_cons_zero, List.set_cons_succ, i64_w, i32_w]
    rfl
  refine pure_ (i := 10) (N := some 56) (v := ?_) (a' := ?_) #[true, true, true, true, true, true, true, true, true, true, true, false, false, false, false, false] rfl rfl (by kernel_rfl) (fun _ _ _ h => h) (Or.inl ⟨by rfl, ?_⟩) ?_ ?_
  rotate_left
  · intro w'
    go_simp
    with_reducible rfl
  rotate_left
  · simp only [Act.put, List.setIfInBounds_toArray, List.set_cons_zero, List.set_cons_succ, i64_w, i32_w]
    rfl
  refine one_ (i := 11) (N := some 57) #[true, true, true, true, true, true, true, true, true, true, true, true, false, false, false, false] rfl rfl (by kernel_rfl) (by decide) (fun K hK => ?_)
  refine value_ (w1 := ?_) (v := ?_) (by rfl) rfl ?_ ?_
  rotate_left 2
  · go_simp
    constructor
    · rfl
    · rfl
  have WB : Aside0 (((W1.alloc (.cells #[.int .i64 s, .int .i64 c, .int .i64 0, .int .i64 T] 64)).drew).heap[W1.heap.size]? = some (.cells #[.int .i64 s, .int .i64 c, .int .i64 0, .int .i64 T] 64 (0, 0))) := ⟨blk_drew (blk_new W1 _)⟩
  have q0 : ((W1.alloc (.cells #[.int .i64 s, .int .i64 c, .int .i64 0, .int .i64 T] 64)).drew).cell? ⟨M + 1, 1, none⟩ = some (.slice ao L.length cap) := (below_drew (below_alloc (Below.refl _ W1) (.cells #[.int .i64 s, .int .i64 c, .int .i64 0, .int .i64 T] 64))).cell (p := ⟨M + 1, 1, none⟩) (World.block_lt_of_cell? W1 _ p0) |>.trans p0
  have q1 : ((W1.alloc (.cells #[.int .i64 s, .int .i64 c, .int .i64 0, .int .i64 T] 64)).drew).cell? ⟨W.heap.size, 1, none⟩ = some (.int .i64 s) := (below_drew (below_alloc (Below.refl _ W1) (.cells #[.int .i64 s, .int .i64 c, .int .i64 0, .int .i64 T] 64))).cell (p := ⟨W.heap.size, 1, none⟩) (World.block_lt_of_cell? W1 _ p1) |>.trans p1
  have q2 : ((W1.alloc (.cells #[.int .i64 s, .int .i64 c, .int .i64 0, .int .i64 T] 64)).drew).cell? ⟨W.heap.size, 2, none⟩ = some (.int .i64 c) := (below_drew (below_alloc (Below.refl _ W1) (.cells #[.int .i64 s, .int .i64 c, .int .i64 0, .int .i64 T] 64))).cell (p := ⟨W.heap.size, 2, none⟩) (World.block_lt_of_cell? W1 _ p2) |>.trans p2
  have BB := Aside0.mk (below_drew (below_alloc B0.out (.cells #[.int .i64 s, .int .i64 c, .int .i64 0, .int .i64 T] 64)))
  generalize hW2 : (W1.alloc (.cells #[.int .i64 s, .int .i64 c, .int .i64 0, .int .i64 T] 64)).drew = W2 at WB BB q0 q1 q2 ⊢
  generalize W1.heap.size = H2 at WB ⊢
  have HT2 := Aside0.mk (HT0.out.kept (F := fun _ => False) (But.of_below BB.out) (fun _ _ e => e))
  refine hK.out _ _ ⟨q0, q1, q2⟩ (fun hHeld => ?_)
  clear hK K
  refine norm_ (a' := ?_) ?_ ?_
  rotate_left
  · show Act.put _ (some 57) _ = _
    simp only [Act.put, List.setIfInBounds_toArray, List.set_cons_zero, List.set_cons_succ, i64_w, i32_w]
    rfl
  refine one_ (i := 12) (N := some 58) #[true, true, true, true, true, true, true, true, true, true, true, true, true, false, false, false] rfl rfl (by kernel_rfl) (by decide) (fun K hK => ?_)
  refine step_append_lies _ rfl (.tmp 50) (.tmp 57) 51 rfl (M + 2) 64 i0 (.agg #[.int .i64 0, .int .i64 0, .int .i64 0, .int .i64 0]) 4 32 Try.underlying51 hi hz0 hz1 hz2 rfl (by decide) (.slice ao L.length cap) L.length (tflat L) rfl HT2.out.row ⟨H2, 0, none⟩ 1 1 [.int .i64 s, .int .i64 c, .int .i64 0, .int .i64 T] rfl rfl (World.news_of_block WB.out) (by intro u hu; simp at hu; rcases hu with rfl | rfl | rfl | rfl <;> rfl) (by decide) (by unfold maxLen; omega) (by omega) (by have := HT2.out.lt; omega) _ rfl ?_
  intro g3 cap3 w3 hown3 hgrow3 hat3 hlt3
  have hP := Aside0.mk (till_push (w := W) (s, c, 0, T) g3 cap3 HT0.out BB.out hown3 hgrow3 hat3)
  have r0 : w3.cell? ⟨M + 1, 1, none⟩ = some (.slice ao L.length cap) := (hgrow3.cell_far ⟨M + 1, 1, none⟩ (World.block_lt_of_cell? W2 _ q0) HNE.out).trans q0
  have z0 : w3.frozen? ⟨M + 1, 1, none⟩ = false := (hgrow3.frozen_far ⟨M + 1, 1, none⟩ (World.block_lt_of_cell? W2 _ q0) HNE.out).trans (blk_frozen HT2.out.blk 1)
  have r1 : w3.cell? ⟨W.heap.size, 1, none⟩ = some (.int .i64 s) := (hgrow3.cell_far ⟨W.heap.size, 1, none⟩ (World.block_lt_of_cell? W2 _ q1) HNN.out).trans q1
  have r2 : w3.cell? ⟨W.heap.size, 2, none⟩ = some (.int .i64 c) := (hgrow3.cell_far ⟨W.heap.size, 2, none⟩ (World.block_lt_of_cell? W2 _ q2) HNN.out).trans q2
  clear hown3 hgrow3 hat3 hlt3 HT2 WB
  refine hK.out _ _ ⟨r0, r1, r2⟩ (fun hHeld => ?_)
  clear hK K
  refine norm_ (a' := ?_) ?_ ?_
  rotate_left
  · show Act.put _ (some 58) _ = _
    simp only [Act.put, List.setIfInBounds_toArray, List.set_cons_zero, List.set_cons_succ, i64_w, i32_w]
    rfl
  refine pure_ (i := 13) (N := some 59) (v := ?_) (a' := ?_) #[true, true, true, true, true, true, true, true, true, true, true, true, true, true, false, false] rfl rfl (by kernel_rfl) (fun _ _ _ h => h) (Or.inl ⟨by rfl, ?_⟩) ?_ ?_
  rotate_left
  · intro w'
    go_simp
    with_reducible rfl
  rotate_left
  · simp only [Act.put, List.setIfInBounds_toArray, List.set_cons_zero, List.set_cons_succ, i64_w, i32_w]
    rfl
  refine pure_ (i := 14) (N := some 60) (v := ?_) (a' := ?_) #[true, true, true, true, true, true, true, true, true, true, true, true, true, true, true, false] rfl rfl (by kernel_rfl) (fun _ _ _ h => h) (Or.inl ⟨by rfl, ?_⟩) ?_ ?_
  rotate_left
  · intro w'
    go_simp
    with_reducible rfl
  rotate_left
  · simp only [Act.put, List.setIfInBounds_toArray, List.set_cons_zero, List.set_cons_succ, i64_w, i32_w]
    rfl
  refine last_ (i := 15) (N := none) #[true, true, true, true, true, true, true, true, true, true, true, true, true, true, true, true] rfl rfl (by kernel_rfl) (by decide) (fun K hK => ?_)
  refine skip_ (w1 := ?_) (by rfl) rfl ?_ ?_
  rotate_left
  · go_simp
    rfl
  refine hK.out _ _ ?_
  clear hK K
  refine done_ (by kernel_rfl) ?_
  go_wp2
  go_ret
  exact ⟨rfl, _, hP.out.1, hP.out.2.1, fun k hk => by have h9 : g3 = k := by simpa [Value.ownBlock] using hk
                                                      subst h9; exact hP.out.2.2⟩
end Go.Proofs.Ytljfmfkgpnabaaa.Pure
