/- Till. -/
import Derived.Test.YtljfmfkgpnabaaaTillAsk
import Derived.Deep.Slices
set_option linter.unusedVariables false
set_option linter.unusedSimpArgs false
namespace Go.Proofs.Ytljfmfkgpnabaaa.Pure
open Go.RowKit  Go.Proofs.YtljfmfkgpnabaaaW.PrintWords Go.Proofs.YtljfmfkgpnabaaaW.PrintLast
open Go.Maps Go.ChangeShapes Go.WideShapes Go.Joins Go.Proofs.Ytljfmfkgpnabaaa.Pask
open Go.Proofs.Ytljfmfkgpnabaaa
attribute [local go_sem] setCell_map

/-- The acts lie where the argument points. -/
def ActsAt (W : World) (ao : Option Addr) (len : Nat) (act : Nat → TAct) : Prop :=
  ∀ i, i < len → (act i).Ok ∧ ∃ b off, ao = some ⟨b, off, none⟩ ∧ b < W.heap.size ∧ W.cell? ⟨b, off + i * 6, none⟩ = some (.int .u8 (act i).k) ∧ W.cell? ⟨b, off + i * 6 + 1, none⟩ = some (.int .u8 (act i).s) ∧ W.cell? ⟨b, off + i * 6 + 2, none⟩ = some (.int .u8 (act i).c) ∧
    W.cell? ⟨b, off + i * 6 + 3, none⟩ = some (.int .u8 (act i).t) ∧ W.cell? ⟨b, off + i * 6 + 4, none⟩ = some (.int .u16 (act i).a) ∧ W.cell? ⟨b, off + i * 6 + 5, none⟩ = some (.int .u8 (act i).v)
/-- Two tills of which the other one hears of one cycle alone. -/
structure AInv (S C : Int) (m : Nat) (f : TF) (L : List TE) (g : TF) (K : List TE) : Prop where
  l : TInv L m
  k : TInv K m
  said : ∀ x, f S C x = g S C x
  sum : tsum (pT S C) L = tsum (pT S C) K
  own : ∀ e ∈ K, e.1 = S ∧ e.2.1 = C
theorem AInv.nil (S C : Int) : AInv S C 0 (fun _ _ _ => none) [] (fun _ _ _ => none) [] := ⟨TInv.nil, TInv.nil, fun _ => rfl, rfl, by simp⟩
theorem tsum_congr (p q : TE → Bool) : ∀ L : List TE, (∀ e ∈ L, p e = q e) → tsum p L = tsum q L
  | [], _ => rfl
  | e :: r, h => by simp only [tsum, h e (by simp), tsum_congr p q r (fun x hx => h x (by simp [hx]))]
theorem AInv.net {S C : Int} {m : Nat} {f : TF} {L : List TE} {g : TF} {K : List TE} (h : AInv S C m f L g K) : tsum (pN S) K = tsum (pT S C) K :=
  tsum_congr _ _ K (fun e he => by have := h.own e he; simp [pN, pT, this.1, this.2])
theorem AInv.far {S C : Int} {m : Nat} {f : TF} {L : List TE} {g : TF} {K : List TE} (h : AInv S C m f L g K) (kind s c t am v : Int) (ht : 1 ≤ t) (ha : 1 ≤ am) (ha2 : am ≤ 65536) (hne : ¬ (s = S ∧ c = C)) :
    AInv S C (m + 1) (hstep f L kind s c t am v).1 (hstep f L kind s c t am v).2 g K := by
  refine ⟨h.l.hear f kind s c t am v ht ha ha2, h.k.succ, ?_, ?_, h.own⟩
  · intro x
    unfold hstep
    split
    · unfold thear
      split
      · exact h.said x
      · simp only [upd]
        rw [if_neg (fun e => hne ⟨e.1.symm, e.2.1.symm⟩)]
        exact h.said x
    · exact h.said x
  · have np : ∀ x a, pT S C (s, c, x, a) = false := fun x a => by
      cases hp : pT S C (s, c, x, a) with
      | false => rfl
      | true => exact absurd ((pT_eq _ _ _ _ _ _).1 hp) hne
    unfold hstep
    split
    · unfold thear
      split
      · exact h.sum
      · simp only [tfirst]
        split
        · split
          · rw [tsum_snoc, np]; simpa using h.sum
          · exact h.sum
        · split
          · exact h.sum
          · rw [tsum_snoc, np]; simpa using h.sum
    · exact h.sum
theorem AInv.near {S C : Int} {m : Nat} {f : TF} {L : List TE} {g : TF} {K : List TE} (h : AInv S C m f L g K) (kind t am v : Int) (ht : 1 ≤ t) (ha : 1 ≤ am) (ha2 : am ≤ 65536) :
    AInv S C (m + 1) (hstep f L kind S C t am v).1 (hstep f L kind S C t am v).2 (hstep g K kind S C t am v).1 (hstep g K kind S C t am v).2 := by
  have hfst : (tfirst L kind S C t am v).1 = (tfirst K kind S C t am v).1 ∧ tsum (pT S C) (tfirst L kind S C t am v).2 = tsum (pT S C) (tfirst K kind S C t am v).2 := by
    unfold tfirst
    rw [← h.sum]
    split
    · split
      · rw [tsum_snoc, tsum_snoc, h.sum]; exact ⟨rfl, rfl⟩
      · exact ⟨rfl, h.sum⟩
    · split
      · exact ⟨rfl, h.sum⟩
      · rw [tsum_snoc, tsum_snoc, h.sum]; exact ⟨rfl, rfl⟩
  refine ⟨h.l.hear f kind S C t am v ht ha ha2, h.k.hear g kind S C t am v ht ha ha2, ?_, ?_, ?_⟩
  · intro x
    unfold hstep
    split
    · unfold thear
      rw [← h.said (tk kind t)]
      split
      · exact h.said x
      · simp only [upd]
        rw [hfst.1]
        split
        · rfl
        · exact h.said x
    · exact h.said x
  · unfold hstep
    split
    · unfold thear
      rw [← h.said (tk kind t)]
      split
      · exact h.sum
      · exact hfst.2
    · exact h.sum
  · have push : ∀ x a, ∀ e ∈ K ++ [(S, C, x, a)], e.1 = S ∧ e.2.1 = C := fun x a e he => by
      rcases List.mem_append.1 he with he | he
      · exact h.own e he
      · simp only [List.mem_singleton] at he
        subst he
        exact ⟨rfl, rfl⟩
    unfold hstep
    split
    · unfold thear
      split
      · exact h.own
      · simp only [tfirst]
        split
        · split
          · exact push _ _
          · exact h.own
        · split
          · exact h.own
          · exact push _ _
    · exact h.own
theorem foot_apart {w : World} {M N : Nat} {sv su : Value} {n m : Nat} {f g : TF} {L K : List TE} (h : TillAt w M sv n f L) (k : TillAt w N su m g K) (hMN : M + 1 < N) (hd : ∀ x, sv.ownBlock = some x → su.ownBlock ≠ some x) : ∀ x, tfoot M sv x → ¬ tfoot N su x := by
  intro x hx hy
  rcases hx with rfl | rfl | hx
  · have := foot_ge k hy; omega
  · have := foot_ge k hy; omega
  · rcases hy with rfl | rfl | hy
    · rcases h.row.2 with ⟨rfl, _⟩ | ⟨g', cap, cur, rfl, _, hgg, _⟩
      · simp [Value.ownBlock] at hx
      · simp [Value.ownBlock] at hx
        subst hx
        obtain ⟨D, ⟨es, clock, hm, _⟩, _⟩ := k.map
        rw [hm] at hgg
        simp at hgg
    · rcases h.row.2 with ⟨rfl, _⟩ | ⟨g', cap, cur, rfl, _, hgg, _⟩
      · simp [Value.ownBlock] at hx
      · simp [Value.ownBlock] at hx
        subst hx
        rw [k.blk] at hgg
        simp only [Option.some.injEq, Obj.cells.injEq] at hgg
        exact absurd hgg.2.1 (by decide)
    · exact hd x hx hy
theorem apart_big (ao : Option Addr) (len cap : Nat) (a1 a2 : Int) (W : World) (h : 50 < len) : Calls Try.prog 11 #[.slice ao len cap, .int .u8 a1, .int .u8 a2] W fun x w' => x = .returned (.bool true) ∧ Below W.heap.size W w' := by
  have e1 : decide (50 < (len : Int)) = true := decide_eq_true (by omega)
  clear h

  go_enter Try.func11, Try.ntmps11
  go_wp2_with fail
  with_reducible refine (tawake_calls _).mono ?_
  rintro x w1 ⟨rfl, hb⟩
  have HB1 := Aside0.mk hb
  clear hb
  go_wp2_with fail

  with_reducible refine (tawake_calls _).mono ?_
  rintro x w2 ⟨rfl, hb⟩
  have HB2 := Aside0.mk (below_step HB1.out hb)
  clear hb
  go_wp2
  go_ret
  exact ⟨rfl, HB2.out⟩
set_option maxHeartbeats 4000000 in
set_option maxRecDepth 20000 in
theorem apart_main (ao : Option Addr) (len cap : Nat) (act : Nat → TAct) (a1 a2 : Int) (W : World) (h : len ≤ 50) (HA : Aside0 (ActsAt W ao len act)) (b1 : 0 ≤ a1) (b2 : a1 ≤ 255) (b3 : 0 ≤ a2) (b4 : a2 ≤ 255) : Calls Try.prog 11 #[.slice ao len cap, .int .u8 a1, .int .u8 a2] W fun x w' => x = .returned (.bool true) ∧ Below W.heap.size W w' := by
  have e1 : decide (50 < (len : Int)) = false := decide_eq_false (by omega)

  go_enter Try.func11, Try.ntmps11
  go_wp2_with fail
  with_reducible refine (tawake_calls _).mono ?_
  rintro x w1 ⟨rfl, hb⟩
  have HB1 := Aside0.mk hb
  clear hb
  go_wp2_with fail

  clear e1
  with_reducible refine (tnew_calls _).mono ?_
  rintro x w2 ⟨rfl, ht, hb⟩
  have HT2 := Aside0.mk ht
  have HB2 := Aside0.mk (below_step HB1.out hb)
  have HM := Aside0.mk HB1.out.size
  clear ht hb HB1
  generalize w1.heap.size = M at HT2 HM ⊢
  go_wp2_with fail
  with_reducible refine (tnew_calls _).mono ?_
  rintro x w3 ⟨rfl, hu, hb⟩
  have HT3 := Aside0.mk (till_same HT2.out hb)
  have HU3 := Aside0.mk hu
  have HB3 := Aside0.mk (below_step HB2.out hb)
  have HMN := Aside0.mk HT2.out.lt
  clear hu hb HB2 HT2
  generalize w2.heap.size = N at HU3 HMN ⊢
  go_wp2_with fail
  go_loopg [9] 60 (fun kq t9 wr => ∃ (i n m : Nat) (sv su : Value) (f g : TF) (L Lu : List TE), t9 = .int .i64 i ∧ i ≤ len ∧ Aside0 (60 - i ≤ kq) ∧ Aside0 (n ≤ i) ∧ Aside0 (m ≤ i) ∧ Aside0 (TillAt wr M sv n f L) ∧ Aside0 (TillAt wr N su m g Lu) ∧ Aside0 (∀ x, sv.ownBlock = some x → su.ownBlock ≠ some x) ∧ Aside0 (Below W.heap.size W wr) ∧ Aside0 (AInv (a1 % 3) (a2 % 3) i f L g Lu))
  case atStart => exact ⟨0, _, _, _, _, _, _, _, _, rfl, by omega, ⟨by omega⟩, ⟨Nat.le_refl _⟩, ⟨Nat.le_refl _⟩, HT3, HU3, ⟨by simp [Value.ownBlock]⟩, HB3, ⟨AInv.nil _ _⟩⟩
  case round =>
    obtain ⟨i, n, m, sv, su, f, g, L, Lu, rfl, hi, HQ, Hn, Hm, HT, HU, HD, HB, HI⟩ := hrel
    clear HT3 HU3 HB3
    by_cases hc : i < len
    · have c1 : decide ((i : Int) < (len : Int)) = true := decide_eq_true (by omega)
      obtain ⟨hok, b, off, rfl, hb, q0, q1, q2, q3, q4, q5⟩ := HA.out i hc
      generalize act i = x at hok q0 q1 q2 q3 q4 q5
      have HX := Aside0.mk hok
      have p0 := (HB.out.cell (p := ⟨b, off + i * 6, none⟩) hb).trans q0
      have p1 := (HB.out.cell (p := ⟨b, off + i * 6 + 1, none⟩) hb).trans q1
      have p2 := (HB.out.cell (p := ⟨b, off + i * 6 + 2, none⟩) hb).trans q2
      have p3 := (HB.out.cell (p := ⟨b, off + i * 6 + 3, none⟩) hb).trans q3
      have p4 := (HB.out.cell (p := ⟨b, off + i * 6 + 4, none⟩) hb).trans q4
      have p5 := (HB.out.cell (p := ⟨b, off + i * 6 + 5, none⟩) hb).trans q5
      have hi0 : (0 : Int) ≤ (i : Int) := by omega
      have hi1 : (i : Int) < (len : Int) := by omega
      clear hok q0 q1 q2 q3 q4 hc
      have Q5 := Aside0.mk q5
      go_wp2_with fail
      with_reducible refine (ask_calls x HX.out wr).mono ?_
      rintro y w4 ⟨rfl, hb4⟩

      have HT4 := Aside0.mk (till_same HT.out hb4)
      have HU4 := Aside0.mk (till_same HU.out hb4)
      have HB4 := Aside0.mk (below_step HB.out hb4)
      have z5 := (hb4.cell (p := ⟨b, off + i * 6 + 5, none⟩) (World.block_lt_of_cell? wr _ p5)).trans p5
      clear hb4 HT HU HB p0 p1 p2 p3 p4 p5 q5
      have hx := HX.out
      have HW := Aside0.mk (And.intro (show (Lit.int .i64 (x.s % 3)).wf = true from WalkArith.wf_i64 (by omega)) (And.intro (show (Lit.int .i64 (x.c % 3)).wf = true from WalkArith.wf_i64 (by omega)) (And.intro (show (Lit.int .i64 (1 + x.t % 3)).wf = true from WalkArith.wf_i64 (by omega)) (show (Lit.int .u8 x.v).wf = true from WalkArith.wf_u8 hx.v))))
      have HR := Aside0.mk (show 1 ≤ 1 + x.t % 3 ∧ 1 ≤ 1 + x.a ∧ 1 + x.a ≤ 65536 from ⟨by omega, by have := hx.a; omega, by have := hx.a; omega⟩)
      clear hx HX
      generalize x.s % 3 = sn at HW ⊢
      generalize x.c % 3 = cn at HW ⊢
      generalize 1 + x.t % 3 = tn at HW HR ⊢
      generalize 1 + x.a = an at HR ⊢
      generalize akind x = ks
      generalize x.v = vv at HW z5 Q5 ⊢
      have HT5 := Aside0.mk (till_alloc HT4.out (.cells #[.int .u8 ks, .int .i64 sn, .int .i64 cn, .int .i64 tn, .int .i64 an, .int .u8 0] 56))
      have HU5 := Aside0.mk (till_alloc HU4.out (.cells #[.int .u8 ks, .int .i64 sn, .int .i64 cn, .int .i64 tn, .int .i64 an, .int .u8 0] 56))
      have HB5 := Aside0.mk (below_alloc HB4.out (.cells #[.int .u8 ks, .int .i64 sn, .int .i64 cn, .int .i64 tn, .int .i64 an, .int .u8 0] 56))
      have N5 : Aside0 ((w4.alloc (.cells #[.int .u8 ks, .int .i64 sn, .int .i64 cn, .int .i64 tn, .int .i64 an, .int .u8 0] 56)).heap[w4.heap.size]? = some (.cells #[.int .u8 ks, .int .i64 sn, .int .i64 cn, .int .i64 tn, .int .i64 an, .int .u8 0] 56 (0, 0))) := ⟨blk_new w4 _⟩
      have r6 := ((below_alloc (Below.refl _ w4) (.cells #[.int .u8 ks, .int .i64 sn, .int .i64 cn, .int .i64 tn, .int .i64 an, .int .u8 0] 56)).cell (p := ⟨b, off + i * 6 + 5, none⟩) (World.block_lt_of_cell? w4 _ z5)).trans z5
      go_wp2_with fail
      clear HT4 HU4 HB4 z5
      generalize (w4.alloc (.cells #[.int .u8 ks, .int .i64 sn, .int .i64 cn, .int .i64 tn, .int .i64 an, .int .u8 0] 56)) = w5 at HT5 HU5 HB5 N5 r6 ⊢
      generalize w4.heap.size = g5 at N5 ⊢
      have r0 : w5.drew.cell? ⟨g5, 0, none⟩ = some (.int .u8 ks) := blk_cell N5.out 0
      have r1 : w5.drew.cell? ⟨g5, 1, none⟩ = some (.int .i64 sn) := blk_cell N5.out 1
      have r2 : w5.drew.cell? ⟨g5, 2, none⟩ = some (.int .i64 cn) := blk_cell N5.out 2
      have r3 : w5.drew.cell? ⟨g5, 3, none⟩ = some (.int .i64 tn) := blk_cell N5.out 3
      have r4 : w5.drew.cell? ⟨g5, 4, none⟩ = some (.int .i64 an) := blk_cell N5.out 4
      have r5 : w5.drew.cell? ⟨g5, 5, none⟩ = some (.int .u8 0) := blk_cell N5.out 5
      have HT6 := Aside0.mk (show TillAt w5.drew M sv n f L from HT5.out.kept (F := fun _ => False) (But.refl _ w5).drew (fun _ _ e => e))
      have HU6 := Aside0.mk (show TillAt w5.drew N su m g Lu from HU5.out.kept (F := fun _ => False) (But.refl _ w5).drew (fun _ _ e => e))
      have HB6 := Aside0.mk (below_drew HB5.out)
      have N6 := Aside0.mk (blk_drew N5.out)
      have OK1 := Aside0.mk (HI.out.l.ok (by omega))
      have OK2 := Aside0.mk (HI.out.k.ok (by omega))
      clear HT5 HU5 HB5 N5
      refine start_ (n := 8) (S := fun w' => w'.cell? ⟨g5, 0, none⟩ = some (.int .u8 ks) ∧ w'.cell? ⟨g5, 1, none⟩ = some (.int .i64 sn) ∧ w'.cell? ⟨g5, 2, none⟩ = some (.int .i64 cn) ∧ w'.cell? ⟨g5, 3, none⟩ = some (.int .i64 tn) ∧ w'.cell? ⟨g5, 4, none⟩ = some (.int .i64 an) ∧ w'.cell? ⟨g5, 5, none⟩ = some (.int .u8 0) ∧ w'.cell? ⟨b, off + i * 6 + 5, none⟩ = some (.int .u8 vv)) (ds := [7]) #[false, false, false, false, false, false, false, false] (by kernel_rfl) rfl rfl ⟨r0, r1, r2, r3, r4, r5, r6⟩ (fun hHeld => ?_)
      refine pure_ (i := 0) (N := some 32) (v := ?_) (a' := ?_) #[true, false, false, false, false, false, false, false] rfl rfl (by kernel_rfl) (fun _ _ _ h => h) (Or.inl ⟨by rfl, ?_⟩) ?_ ?_
      rotate_left
      · intro w'
        go_simp
        with_reducible rfl
      rotate_left
      · simp only [Act.put, List.setIfInBounds_toArray, List.set_cons_zero, List.set_cons_succ, i64_w, i32_w]
        rfl
      refine pure_ (i := 2) (N := some 34) (v := ?_) (a' := ?_) #[true, false, true, false, false, false, false, false] rfl rfl (by kernel_rfl) (fun _ _ _ h => h) (Or.inl ⟨by rfl, ?_⟩) ?_ ?_
      rotate_left
      · intro w'
        go_simp
        with_reducible rfl
      rotate_left
      · simp only [Act.put, List.setIfInBounds_toArray, List.set_cons_zero, List.set_cons_succ, i64_w, i32_w]
        rfl
      refine pure_ (i := 3) (N := some 35) (v := ?_) (a' := ?_) #[true, false, true, true, false, false, false, false] rfl rfl (by kernel_rfl) (fun _ _ _ h => h) (Or.inl ⟨by rfl, ?_⟩) ?_ ?_
      rotate_left
      · intro w'
        go_simp
        with_reducible rfl
      rotate_left
      · simp only [Act.put, List.setIfInBounds_toArray, List.set_cons_zero, List.set_cons_succ, i64_w, i32_w]
        rfl
      refine pure_ (i := 4) (N := some 36) (v := ?_) (a' := ?_) #[true, false, true, true, true, false, false, false] rfl rfl (by kernel_rfl) (fun _ _ _ h => h) (Or.inl ⟨by rfl, ?_⟩) ?_ ?_
      rotate_left
      · intro w'
        go_simp
        with_reducible rfl
      rotate_left
      · simp only [Act.put, List.setIfInBounds_toArray, List.set_cons_zero, List.set_cons_succ, i64_w, i32_w]
        rfl
      refine pure_ (i := 5) (N := some 37) (v := ?_) (a' := ?_) #[true, false, true, true, true, true, false, false] rfl rfl (by kernel_rfl) (fun _ _ _ h => h) (Or.inl ⟨by rfl, ?_⟩) ?_ ?_
      rotate_left
      · intro w'
        go_simp
        with_reducible rfl
      rotate_left
      · simp only [Act.put, List.setIfInBounds_toArray, List.set_cons_zero, List.set_cons_succ, i64_w, i32_w]
        rfl
      refine take_ (i := 1) (N := some 33) (v := ?_) (a' := ?_) #[true, true, true, true, true, true, false, false] rfl rfl (by kernel_rfl) (fun _ _ _ h => h) (Or.inl ⟨by rfl, ?_⟩) hHeld ?_ ?_
      rotate_left
      · rintro w' ⟨s0, s1, s2, s3, s4, s5, s6⟩
        go_simp
        with_reducible rfl
      rotate_left
      · simp only [Act.put, List.setIfInBounds_toArray, List.set_cons_zero, List.set_cons_succ, i64_w, i32_w]
        rfl
      refine take_ (i := 6) (N := some 38) (v := ?_) (a' := ?_) #[true, true, true, true, true, true, true, false] rfl rfl (by kernel_rfl) (fun _ _ _ h => h) (Or.inl ⟨by rfl, ?_⟩) hHeld ?_ ?_
      rotate_left
      · rintro w' ⟨s0, s1, s2, s3, s4, s5, s6⟩
        go_simp
        with_reducible rfl
      rotate_left
      · simp only [Act.put, List.setIfInBounds_toArray, List.set_cons_zero, List.set_cons_succ, i64_w, i32_w]
        rfl
      refine last_ (i := 7) (N := some 39) #[true, true, true, true, true, true, true, true] rfl rfl (by kernel_rfl) (by decide) (fun K hK => ?_)
      refine goes_ Try.func31 (by kernel_rfl) rfl #[.pointer (some ⟨M + 1, 0, none⟩), .agg #[.int .u8 ks, .int .i64 sn, .int .i64 cn, .int .i64 tn, .int .i64 an, .int .u8 0], .int .u8 vv] (by rfl) rfl rfl (by (try simp only [List.map_toArray, List.map_cons, List.map_nil]); first | done | rfl) ?_
      with_reducible refine (thear_any w5.drew M sv n f L HT6.out OK1.out (by have := Hn.out; unfold maxLen; omega) ks sn cn tn an vv HW.out.1 HW.out.2.1 HW.out.2.2.1 HW.out.2.2.2).mono ?_
      rintro e w6 ⟨r, sv6, rfl, ht6, hb6, ho6⟩
      refine ⟨_, rfl, ?_⟩
      refine hK.out _ _ ?_
      clear hK K
      refine norm_ (a' := ?_) ?_ ?_
      rotate_left
      · show Act.put _ (some 39) _ = _
        simp only [Act.put, List.setIfInBounds_toArray, List.set_cons_zero, List.set_cons_succ, i64_w, i32_w]
        rfl
      refine done_ (by kernel_rfl) ?_
      clear r0 r1 r2 r3 r4 r5 r6
      have HT7 := Aside0.mk ht6
      have HU7 := Aside0.mk (HU6.out.kept hb6 (fun k hk e => foot_apart HT6.out HU6.out HMN.out HD.out k e hk))
      have HB7 := Aside0.mk (hear_below HT6.out HB6.out HM.out hb6)
      have N7 := Aside0.mk (hear_blk HT6.out hb6 N6.out (by decide) (by decide))
      have HD7 : Aside0 (∀ x, sv6.ownBlock = some x → su.ownBlock ≠ some x) := ⟨fun x hx hy => by
        rcases ho6 x hx with e | e
        · exact HD.out x e hy
        · have := (HU6.out.row.lt x hy).2
          omega⟩
      clear ht6 hb6 ho6 HT6 HU6 HB6 N6 HD
      have m1 := blk_cell N7.out 1
      have m2 := blk_cell N7.out 2
      simp only [List.getElem?_toArray, List.getElem?_cons_succ, List.getElem?_cons_zero] at m1 m2
      by_cases hs : sn = a1 % 3 ∧ cn = a2 % 3
      · obtain ⟨hs1, hs2⟩ := hs
        have d1 : (sn == a1 % 3) = true := by simpa using hs1
        have d2 : (cn == a2 % 3) = true := by simpa using hs2
        have HS := Aside0.mk (And.intro hs1 hs2)
        have HI9 := Aside0.mk (show AInv (a1 % 3) (a2 % 3) (i + 1) _ _ _ _ from by
          have h9 : AInv sn cn i f L g Lu := by rw [hs1, hs2]; exact HI.out
          rw [← hs1, ← hs2]
          exact h9.near ks tn an vv HR.out.1 HR.out.2.1 HR.out.2.2)
        clear hs1 hs2
        go_wp2_with fail
        clear m1 m2
        have r0 : w6.drew.cell? ⟨g5, 0, none⟩ = some (.int .u8 ks) := blk_cell N7.out 0
        have r1 : w6.drew.cell? ⟨g5, 1, none⟩ = some (.int .i64 sn) := blk_cell N7.out 1
        have r2 : w6.drew.cell? ⟨g5, 2, none⟩ = some (.int .i64 cn) := blk_cell N7.out 2
        have r3 : w6.drew.cell? ⟨g5, 3, none⟩ = some (.int .i64 tn) := blk_cell N7.out 3
        have r4 : w6.drew.cell? ⟨g5, 4, none⟩ = some (.int .i64 an) := blk_cell N7.out 4
        have r5 : w6.drew.cell? ⟨g5, 5, none⟩ = some (.int .u8 0) := blk_cell N7.out 5
        have r6 : w6.drew.cell? ⟨b, off + i * 6 + 5, none⟩ = some (.int .u8 vv) := (HB7.out.cell (p := ⟨b, off + i * 6 + 5, none⟩) hb).trans Q5.out
        have HT8 := Aside0.mk (show TillAt w6.drew M sv6 (n + 1) _ _ from HT7.out.kept (F := fun _ => False) (But.refl _ w6).drew (fun _ _ e => e))
        have HU8 := Aside0.mk (show TillAt w6.drew N su m g Lu from HU7.out.kept (F := fun _ => False) (But.refl _ w6).drew (fun _ _ e => e))
        have HB8 := Aside0.mk (below_drew HB7.out)
        clear HT7 HU7 HB7 N7
        refine start_ (n := 8) (S := fun w' => w'.cell? ⟨g5, 0, none⟩ = some (.int .u8 ks) ∧ w'.cell? ⟨g5, 1, none⟩ = some (.int .i64 sn) ∧ w'.cell? ⟨g5, 2, none⟩ = some (.int .i64 cn) ∧ w'.cell? ⟨g5, 3, none⟩ = some (.int .i64 tn) ∧ w'.cell? ⟨g5, 4, none⟩ = some (.int .i64 an) ∧ w'.cell? ⟨g5, 5, none⟩ = some (.int .u8 0) ∧ w'.cell? ⟨b, off + i * 6 + 5, none⟩ = some (.int .u8 vv)) (ds := [7]) #[false, false, false, false, false, false, false, false] (by kernel_rfl) rfl rfl ⟨r0, r1, r2, r3, r4, r5, r6⟩ (fun hHeld => ?_)
        refine pure_ (i := 0) (N := some 54) (v := ?_) (a' := ?_) #[true, false, false, false, false, false, false, false] rfl rfl (by kernel_rfl) (fun _ _ _ h => h) (Or.inl ⟨by rfl, ?_⟩) ?_ ?_
        rotate_left
        · intro w'
          go_simp
          with_reducible rfl
        rotate_left
        · simp only [Act.put, List.setIfInBounds_toArray, List.set_cons_zero, List.set_cons_succ, i64_w, i32_w]
          rfl
        refine pure_ (i := 2) (N := some 56) (v := ?_) (a' := ?_) #[true, false, true, false, false, false, false, false] rfl rfl (by kernel_rfl) (fun _ _ _ h => h) (Or.inl ⟨by rfl, ?_⟩) ?_ ?_
        rotate_left
        · intro w'
          go_simp
          with_reducible rfl
        rotate_left
        · simp only [Act.put, List.setIfInBounds_toArray, List.set_cons_zero, List.set_cons_succ, i64_w, i32_w]
          rfl
        refine pure_ (i := 3) (N := some 57) (v := ?_) (a' := ?_) #[true, false, true, true, false, false, false, false] rfl rfl (by kernel_rfl) (fun _ _ _ h => h) (Or.inl ⟨by rfl, ?_⟩) ?_ ?_
        rotate_left
        · intro w'
          go_simp
          with_reducible rfl
        rotate_left
        · simp only [Act.put, List.setIfInBounds_toArray, List.set_cons_zero, List.set_cons_succ, i64_w, i32_w]
          rfl
        refine pure_ (i := 4) (N := some 58) (v := ?_) (a' := ?_) #[true, false, true, true, true, false, false, false] rfl rfl (by kernel_rfl) (fun _ _ _ h => h) (Or.inl ⟨by rfl, ?_⟩) ?_ ?_
        rotate_left
        · intro w'
          go_simp
          with_reducible rfl
        rotate_left
        · simp only [Act.put, List.setIfInBounds_toArray, List.set_cons_zero, List.set_cons_succ, i64_w, i32_w]
          rfl
        refine pure_ (i := 5) (N := some 59) (v := ?_) (a' := ?_) #[true, false, true, true, true, true, false, false] rfl rfl (by kernel_rfl) (fun _ _ _ h => h) (Or.inl ⟨by rfl, ?_⟩) ?_ ?_
        rotate_left
        · intro w'
          go_simp
          with_reducible rfl
        rotate_left
        · simp only [Act.put, List.setIfInBounds_toArray, List.set_cons_zero, List.set_cons_succ, i64_w, i32_w]
          rfl
        refine take_ (i := 1) (N := some 55) (v := ?_) (a' := ?_) #[true, true, true, true, true, true, false, false] rfl rfl (by kernel_rfl) (fun _ _ _ h => h) (Or.inl ⟨by rfl, ?_⟩) hHeld ?_ ?_
        rotate_left
        · rintro w' ⟨s0, s1, s2, s3, s4, s5, s6⟩
          go_simp
          with_reducible rfl
        rotate_left
        · simp only [Act.put, List.setIfInBounds_toArray, List.set_cons_zero, List.set_cons_succ, i64_w, i32_w]
          rfl
        refine take_ (i := 6) (N := some 60) (v := ?_) (a' := ?_) #[true, true, true, true, true, true, true, false] rfl rfl (by kernel_rfl) (fun _ _ _ h => h) (Or.inl ⟨by rfl, ?_⟩) hHeld ?_ ?_
        rotate_left
        · rintro w' ⟨s0, s1, s2, s3, s4, s5, s6⟩
          go_simp
          with_reducible rfl
        rotate_left
        · simp only [Act.put, List.setIfInBounds_toArray, List.set_cons_zero, List.set_cons_succ, i64_w, i32_w]
          rfl
        refine last_ (i := 7) (N := some 61) #[true, true, true, true, true, true, true, true] rfl rfl (by kernel_rfl) (by decide) (fun K hK => ?_)
        refine goes_ Try.func31 (by kernel_rfl) rfl #[.pointer (some ⟨N + 1, 0, none⟩), .agg #[.int .u8 ks, .int .i64 sn, .int .i64 cn, .int .i64 tn, .int .i64 an, .int .u8 0], .int .u8 vv] (by rfl) rfl rfl (by (try simp only [List.map_toArray, List.map_cons, List.map_nil]); first | done | rfl) ?_
        with_reducible refine (thear_any w6.drew N su m g Lu HU8.out OK2.out (by have := Hm.out; unfold maxLen; omega) ks sn cn tn an vv HW.out.1 HW.out.2.1 HW.out.2.2.1 HW.out.2.2.2).mono ?_
        rintro e w9 ⟨r9, su9, rfl, hu9, hb9, ho9⟩
        refine ⟨_, rfl, ?_⟩
        refine hK.out _ _ ?_
        clear hK K
        refine norm_ (a' := ?_) ?_ ?_
        rotate_left
        · show Act.put _ (some 61) _ = _
          simp only [Act.put, List.setIfInBounds_toArray, List.set_cons_zero, List.set_cons_succ, i64_w, i32_w]
          rfl
        refine done_ (by kernel_rfl) ?_
        clear r0 r1 r2 r3 r4 r5 r6
        have HU9 := Aside0.mk hu9
        have HT9 := Aside0.mk (HT8.out.kept hb9 (foot_apart HT8.out HU8.out HMN.out HD7.out))
        have HB9 := Aside0.mk (hear_below HU8.out HB8.out (by have := HM.out; have := HMN.out; omega) hb9)
        have HD9 : Aside0 (∀ x, sv6.ownBlock = some x → su9.ownBlock ≠ some x) := ⟨fun x hx hy => by
          rcases ho9 x hy with e | e
          · exact HD7.out x hx e
          · have := (HT8.out.row.lt x hx).2
            omega⟩
        clear hu9 hb9 ho9 HT8 HU8 HB8 HD7
        go_wp2_with fail
        go_roundg (60 - (i + 1))
        case measure => have := HQ.out; omega
        case rel => exact ⟨i + 1, _, _, _, _, _, _, _, _, by first | rfl | simp, by omega, ⟨Nat.le_refl _⟩, ⟨by have := Hn.out; omega⟩, ⟨by have := Hm.out; omega⟩, HT9, HU9, HD9, HB9, HI9⟩
      · have HI8 := Aside0.mk (HI.out.far ks sn cn tn an vv HR.out.1 HR.out.2.1 HR.out.2.2 hs)
        cases d1 : (sn == a1 % 3) with
        | false =>
          clear hs
          go_wp2_with fail
          go_roundg (60 - (i + 1))
          case measure => have := HQ.out; omega
          case rel => exact ⟨i + 1, _, _, _, _, _, _, _, _, by first | rfl | simp, by omega, ⟨Nat.le_refl _⟩, ⟨by have := Hn.out; omega⟩, ⟨by have := Hm.out; omega⟩, HT7, HU7, HD7, HB7, HI8⟩
        | true =>
          have d2 : (cn == a2 % 3) = false := by
            cases d2 : (cn == a2 % 3) with
            | false => rfl
            | true => exact absurd ⟨by simpa using d1, by simpa using d2⟩ hs
          clear hs
          go_wp2_with fail
          go_roundg (60 - (i + 1))
          case measure => have := HQ.out; omega
          case rel => exact ⟨i + 1, _, _, _, _, _, _, _, _, by first | rfl | simp, by omega, ⟨Nat.le_refl _⟩, ⟨by have := Hn.out; omega⟩, ⟨by have := Hm.out; omega⟩, HT7, HU7, HD7, HB7, HI8⟩
    · obtain rfl : i = len := by omega
      have c1 : decide ((i : Int) < (i : Int)) = false := by simp
      have HTk := HI.out.l.ok (by omega)
      have HUk := HI.out.k.ok (by omega)
      have OKL := Aside0.mk HTk
      have OKK := Aside0.mk HUk
      clear HTk HUk
      go_wp2_with fail
      have KT := Aside0.mk (ttaken_calls wr M _ _ _ _ HT.out OKL.out (a1 % 3) (a2 % 3))
      rw [HI.out.sum] at KT
      obtain ⟨T, hT⟩ : ∃ T, tsum (pT (a1 % 3) (a2 % 3)) Lu = T := ⟨_, rfl⟩
      rw [hT] at KT
      with_reducible refine KT.out.mono ?_
      rintro x w4 ⟨rfl, hb⟩
      have HU4 := Aside0.mk (till_same HU.out hb)
      have HB4 := Aside0.mk (below_step HB.out hb)
      clear KT hb HT HU HB
      go_wp2_with fail
      have KT := Aside0.mk (ttaken_calls w4 N _ _ _ _ HU4.out OKK.out (a1 % 3) (a2 % 3))
      rw [hT] at KT
      with_reducible refine KT.out.mono ?_
      rintro x w5 ⟨rfl, hb⟩
      have HU5 := Aside0.mk (till_same HU4.out hb)
      have HB5 := Aside0.mk (below_step HB4.out hb)
      clear KT hb HU4 HB4
      go_wp2_with fail
      have KT := Aside0.mk (tnet_calls w5 N _ _ _ _ HU5.out OKK.out (a1 % 3))
      rw [HI.out.net, hT] at KT
      with_reducible refine KT.out.mono ?_
      rintro x w6 ⟨rfl, hb⟩
      have HU6 := Aside0.mk (till_same HU5.out hb)
      have HB6 := Aside0.mk (below_step HB5.out hb)
      clear KT hb HU5 HB5
      go_wp2_with fail
      have KT := Aside0.mk (ttaken_calls w6 N _ _ _ _ HU6.out OKK.out (a1 % 3) (a2 % 3))
      rw [hT] at KT
      with_reducible refine KT.out.mono ?_
      rintro x w7 ⟨rfl, hb⟩
      have HB7 := Aside0.mk (below_step HB6.out hb)
      clear KT hb HU6 HB6
      go_wp2
      go_ret
      exact ⟨rfl, HB7.out⟩
theorem tillApart_calls (ao : Option Addr) (len cap : Nat) (act : Nat → TAct) (a1 a2 : Int) (W : World) (HA : ActsAt W ao len act) (w1 : (Lit.int .u8 a1).wf = true) (w2 : (Lit.int .u8 a2).wf = true) : Calls Try.prog 11 #[.slice ao len cap, .int .u8 a1, .int .u8 a2] W fun x w' => x = .returned (.bool true) ∧ Below W.heap.size W w' := by
  have b1 := bounds_u8 w1
  have b2 := bounds_u8 w2
  by_cases h : 50 < len
  · exact apart_big ao len cap a1 a2 W h
  · exact apart_main ao len cap act a1 a2 W (by omega) ⟨HA⟩ b1.1 b1.2 b2.1 b2.2
open Go.Deep
theorem acells60 : Try.prog.cellsOf 60 = 6 := by kernel_rfl
theorem acts_of {H : Type} {enc : TypeId × Value → H} {W : World} {ao : Option Addr} {len cap : Nat} {d : DataW H} {p : List MemPlace} (h : DataW.Trod enc Try.prog W 0 (fun _ => true) true 48 (.slice ao len cap) d p) : ∃ act, ActsAt W ao len act := by
  obtain ⟨fuel, hf⟩ := h
  rcases open_slice Try.underlying48 hf with ⟨hcs, _⟩ | ⟨a, len', cap', m, n, D, Pl, hcs, hb, hl, hm, hmm, hx, hel⟩
  · simp [Value.cells] at hcs
    obtain ⟨_, rfl, _⟩ := hcs
    exact ⟨fun _ => ⟨0, 0, 0, 0, 0, 0⟩, fun i hi => by omega⟩
  · simp [Value.cells] at hcs
    obtain ⟨rfl, rfl, rfl⟩ := hcs
    simp only [if_true] at hmm
    have each : ∀ i, i < len → ∃ x : TAct, x.Ok ∧ ∃ b off, some a = some ⟨b, off, none⟩ ∧ b < W.heap.size ∧ W.cell? ⟨b, off + i * 6, none⟩ = some (.int .u8 x.k) ∧ W.cell? ⟨b, off + i * 6 + 1, none⟩ = some (.int .u8 x.s) ∧ W.cell? ⟨b, off + i * 6 + 2, none⟩ = some (.int .u8 x.c) ∧
        W.cell? ⟨b, off + i * 6 + 3, none⟩ = some (.int .u8 x.t) ∧ W.cell? ⟨b, off + i * 6 + 4, none⟩ = some (.int .u16 x.a) ∧ W.cell? ⟨b, off + i * 6 + 5, none⟩ = some (.int .u8 x.v) := by
      intro i hi
      obtain ⟨cs', h1, h2⟩ := hel i (by omega)
      rw [acells60] at h1
      obtain ⟨_, hlen, hcell⟩ := World.cells?_some h1
      obtain ⟨xs, k, hk, hxy, _, hxl, hfl⟩ := DataW.trod_struct Try.underlying60 h2
      have g0 := hfl 0 _ rfl
      have g1 := hfl 1 _ rfl
      have g2 := hfl 2 _ rfl
      have g3 := hfl 3 _ rfl
      have g4 := hfl 4 _ rfl
      have g5 := hfl 5 _ rfl
      have c1 : Try.prog.cellsOf 5 = 1 := by kernel_rfl
      have c2 : Try.prog.cellsOf 58 = 1 := by kernel_rfl
      match cs', hlen with
      | [v0, v1, v2, v3, v4, v5], _ =>
        simp [c1, c2] at g0 g1 g2 g3 g4 g5
        have e0 := hcell 0 (by omega)
        have e1 := hcell 1 (by omega)
        have e2 := hcell 2 (by omega)
        have e3 := hcell 3 (by omega)
        have e4 := hcell 4 (by omega)
        have e5 := hcell 5 (by omega)
        obtain ⟨y0, hy0⟩ : ∃ y, xs[0]? = some y := ⟨_, List.getElem?_eq_getElem (by rw [hxl]; simp)⟩
        rw [hy0] at g0
        obtain ⟨a0, q0, _, w0⟩ := DataW.trod_int Try.underlying5 g0
        obtain ⟨y1, hy1⟩ : ∃ y, xs[1]? = some y := ⟨_, List.getElem?_eq_getElem (by rw [hxl]; simp)⟩
        rw [hy1] at g1
        obtain ⟨a1, q1, _, w1⟩ := DataW.trod_int Try.underlying5 g1
        obtain ⟨y2, hy2⟩ : ∃ y, xs[2]? = some y := ⟨_, List.getElem?_eq_getElem (by rw [hxl]; simp)⟩
        rw [hy2] at g2
        obtain ⟨a2, q2, _, w2⟩ := DataW.trod_int Try.underlying5 g2
        obtain ⟨y3, hy3⟩ : ∃ y, xs[3]? = some y := ⟨_, List.getElem?_eq_getElem (by rw [hxl]; simp)⟩
        rw [hy3] at g3
        obtain ⟨a3, q3, _, w3⟩ := DataW.trod_int Try.underlying5 g3
        obtain ⟨y4, hy4⟩ : ∃ y, xs[4]? = some y := ⟨_, List.getElem?_eq_getElem (by rw [hxl]; simp)⟩
        rw [hy4] at g4
        obtain ⟨a4, q4, _, w4⟩ := DataW.trod_int Try.underlying58 g4
        obtain ⟨y5, hy5⟩ : ∃ y, xs[5]? = some y := ⟨_, List.getElem?_eq_getElem (by rw [hxl]; simp)⟩
        rw [hy5] at g5
        obtain ⟨a5, q5, _, w5⟩ := DataW.trod_int Try.underlying5 g5
        simp only [List.cons.injEq, and_true] at q0 q1 q2 q3 q4 q5
        subst q0 q1 q2 q3 q4 q5
        obtain ⟨b, off, spot⟩ := a
        have hspot : spot = none := by
          obtain ⟨cs0, k1, _⟩ := hel 0 (by omega)
          rw [acells60] at k1
          obtain ⟨_, hl0, hc0⟩ := World.cells?_some k1
          have k0 := hc0 0 (by omega)
          match cs0, hl0 with
          | u0 :: _, _ =>
            have := World.cell?_spot k0
            simpa [Addr.add] using this
        subst hspot
        have ad : ∀ x y, ((⟨b, off, none⟩ : Addr).add x).add y = ⟨b, off + x + y, none⟩ := fun x y => by rw [Go.Deep.add_add]; unfold Addr.add; split <;> simp_all <;> omega
        rw [ad] at e0 e1 e2 e3 e4 e5
        try simp only [acells60] at e0 e1 e2 e3 e4 e5
        exact ⟨⟨a0, a1, a2, a3, a4, a5⟩, ⟨bounds_u8 w0, bounds_u8 w1, bounds_u8 w2, bounds_u8 w3, bounds_u16 w4, bounds_u8 w5⟩, b, off, rfl, World.block_lt_of_cell? W _ e0, e0, e1, e2, e3, e4, e5⟩
    haveI : Inhabited TAct := ⟨⟨0, 0, 0, 0, 0, 0⟩⟩
    obtain ⟨act, hact⟩ := choose_lt each
    exact ⟨act, hact⟩
end Go.Proofs.Ytljfmfkgpnabaaa.Pure
