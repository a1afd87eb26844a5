/- A part of the proof. -/
import Derived.Deep.Slices
import Derived.WideShapes
import Derived.RowKit
import Derived.OpenShut
import Derived.Lib.SmallJoins
import Derived.ChangeOld
import Derived.ProofKit
import Derived.LaidMore
import Derived.Laws.LoneSync
import Derived.DeepKeys4
import Derived.Lib.LaidTab
import Derived.Test.YteclckfcniigjaaDoorA5
set_option linter.all false
namespace Go.Den
open Go Go.Proofs
set_option maxRecDepth 100000
set_option maxHeartbeats 8000000
set_option linter.all false
attribute [local simp] evOps evOp absOp absBox absLoad absStore absField absCells absBinOp absBin absInt absShift absUn absPick absNil absExtract absPlaces Instr.fill absBuiltin absMinMax plainV plainT allA flat cells_agg cells_int cells_bool cells_str cells_ptr cells_sl cells_map one_int one_bool one_str one_ptr one_sl one_map Act.eval Act.put Region.wanted yielded absCall TypeDesc.isRow
attribute [local simp high] bk_t bk_p bk_take bk_row BkL_len sp_bk sp_t sp_p
attribute [local simp] sp_nil sp_0 sp_s List.length_set
theorem ix23 (H : Mem) (n q len c : Nat) (k : IntKind) (i : Int) : absIndexAddr Tryd.prog H 23 (.slice (some ⟨n, q, none⟩) len c) (.int k i) = if 0 ≤ i ∧ i < len then some (.pointer (some ⟨n, q + i.toNat * 4, none⟩)) else none := by
  simp [absIndexAddr, Tryd.underlying23]
theorem ix52 (H : Mem) (n q len c : Nat) (k : IntKind) (i : Int) : absIndexAddr Tryd.prog H 52 (.slice (some ⟨n, q, none⟩) len c) (.int k i) = if 0 ≤ i ∧ i < len then some (.pointer (some ⟨n, q + i.toNat * 6, none⟩)) else none := by
  simp [absIndexAddr, Tryd.underlying52]
theorem ixB (H : Mem) (n q : Nat) (k : IntKind) (i : Int) : absIndexAddr Tryd.prog H 33 (.pointer (some ⟨n, q, none⟩)) (.int k i) = if 0 ≤ i ∧ i < 32 then some (.pointer (some ⟨n, q + i.toNat * 13, none⟩)) else none := by
  simp [absIndexAddr, Tryd.underlying33]
attribute [local simp] ix23 ix52 ixB
theorem rasks_g (su : Int) (c : Cy) (H : Mem) : FSem Tryd.prog [0] 19 #[.int .i64 su, c.v] H fun v H' => ∃ n ok, v = .tuple #[Nt.v n, .bool ok] ∧ asksC su c = (n, ok) ∧ H = H' := by
  refine FSem.mono (rasks_s su c H) ?_
  rintro v H' ⟨rfl, rfl⟩; exact ⟨_, _, rfl, rfl, rfl⟩
theorem asks_pre {b : Bk} {s k : Nat} (hs : s < b.subs.length) (hk : k < b.subs[s].op.length) {n : Nt} (h : asksC s b.subs[s].op[k] = (n, true)) :
    ∃ h : (asksFrom 0 (b.subs.take s)).length + (asksL s (b.subs[s].op.take k)).length < b.asks.length, b.asks[(asksFrom 0 (b.subs.take s)).length + (asksL s (b.subs[s].op.take k)).length] = n := by
  have e : b.asks = (asksFrom 0 (b.subs.take s) ++ asksL s (b.subs[s].op.take k)) ++ ([n] ++ (asksL s (b.subs[s].op.drop (k + 1)) ++ asksFrom (s + 1) (b.subs.drop (s + 1)))) := by
    unfold Bk.asks
    conv => lhs; rw [← List.take_append_drop s b.subs, asksFrom_app, List.drop_eq_getElem_cons hs]
    simp only [asksFrom]
    have ea : asksA s b.subs[s] = asksL s (b.subs[s].op.take k) ++ ([n] ++ asksL s (b.subs[s].op.drop (k + 1))) := by
      show asksL s b.subs[s].op = _
      conv => lhs; rw [← List.take_append_drop k b.subs[s].op, List.drop_eq_getElem_cons hk]
      unfold asksL
      rw [List.filterMap_append, List.filterMap_cons, h]
      simp
    rw [show 0 + (b.subs.take s).length = s by simp; omega, ea]
    simp
  have hlen : (asksFrom 0 (b.subs.take s)).length + (asksL s (b.subs[s].op.take k)).length = (asksFrom 0 (b.subs.take s) ++ asksL s (b.subs[s].op.take k)).length := by simp
  refine ⟨by rw [e, List.length_append, ← hlen]; simp, ?_⟩
  simp only [e, hlen]
  rw [List.getElem_append_right (Nat.le_refl _)]
  simp
theorem basks_law (t : Int) (ht0 : 0 ≤ t) (ht1 : t < 65536) (acts : List At4) (hao : ∀ a ∈ acts, a.ok) {sa : Value} {H : Mem} (hL : Lad H) (hA : RowAt H sa acts) : FSem Tryd.prog [0] 4 #[.int .u16 t, sa] H fun v H' => v = .bool true ∧ H' = H := by
  refine FSem.plainT ?_
  refine FSem.ofK Tryd.func4 rfl ?_
  refine DK.from (b' := ⟨#[.int .u16 t, sa, undef, undef, undef, undef, undef, undef, undef, undef, undef, undef, undef, undef, undef, undef, undef, undef, undef, undef, undef, undef, undef, undef, undef, undef, undef, undef, undef, undef, undef, undef, undef, undef, undef, undef, undef, undef, undef, undef, undef, undef, undef, undef, undef, undef, undef, undef, undef, undef, undef, undef, undef, undef, undef, undef, undef, undef, undef, undef, undef, undef, undef, undef, undef, undef, undef, undef, undef, undef, undef, undef, undef, undef, undef, undef, undef, undef, undef, undef, undef, undef, undef, undef, undef, undef, undef, undef, undef, undef, undef, undef, undef, undef, undef, undef, undef, undef, undef, undef, undef, undef, undef, undef, undef, undef, undef, undef, undef, undef, undef, undef, undef, undef, undef, undef, undef, undef, undef, undef, undef, undef, undef, undef, undef, undef, undef, undef, undef, undef, undef, undef], []⟩) (by kernel_rfl) ?_
  have cb := True.intro
  have cbr := True.intro
  have c9 := True.intro
  have hone := True.intro
  have hs0 := True.intro
  have hs1 := True.intro
  have hl32 := True.intro
  have hone2 := True.intro
  have hs20 := True.intro
  have hs21 := True.intro
  have hl2 := True.intro
  have hw1 := True.intro
  have hw2 := True.intro
  have hwr := True.intro
  have hi9 := True.intro
  have hlt := True.intro
  have hlnA := True.intro
  have hbA := True.intro
  have hbAr := True.intro
  have hleA := True.intro
  have hgeA := True.intro
  have hset := True.intro
  have hsm := True.intro
  have z1 := True.intro
  have z2 := True.intro
  have hln := True.intro
  have hidx := True.intro
  have hidn := True.intro
  have hgn := True.intro
  have hlen := True.intro
  have hgl := True.intro
  have hleL := True.intro
  have hbL := True.intro
  have cn := True.intro
  have cnr := True.intro
  have hk9 := True.intro
  have hklt := True.intro
  have hwk := True.intro
  have hwn := True.intro
  have hws := True.intro
  have hno := True.intro
  have hcy := True.intro
  have hley := True.intro
  have hgey := True.intro
  have hbz := True.intro
  have cc := True.intro
  have hlc := True.intro
  have hc0 := True.intro
  have hc1 := True.intro
  have honec := True.intro
  have hsmc := True.intro
  have hn9 := True.intro
  have hnlt := True.intro
  have hu1 := True.intro
  have hs9 := True.intro
  have hslt := True.intro
  have hLn := True.intro
  have hL2 := hL
  have hlnA := lenAt hA
  have hBk := True.intro
  have hBk3 := True.intro
  have hL3 := True.intro
  have hk3 := True.intro
  have hkM := True.intro
  have hw1 : IntKind.i64.wrap t = t := wrap_in _ (by omega) (by omega)
  have hw2 : IntKind.i64.wrap (700000 + t) = 700000 + t := wrap_in _ (by omega) (by omega)
  have hkE := True.intro
  refine DK.seq ?_
  refine DK.region (is := [0]) (by kernel_rfl) rfl ?_
  refine WK.run (rest := []) [0] (by simp [cb, cbr, c9, hone, hs0, hs1, hl32, hone2, hs20, hs21, hl2, hw1, hw2, hwr, hi9, hlt, hlnA, hbA, hbAr, hleA, hgeA, hset, hsm, z1, z2, hln, hidx, hidn, hgn, hlen, hgl, hleL, hbL, cn, cnr, hk9, hklt, hwk, hwn, hws, hno, hcy, hley, hgey, hbz, cc, hlc, hc0, hc1, honec, hsmc, hn9, hnlt, hu1, hs9, hslt, hLn]; constructor <;> rfl) ?_
  refine WK.nil ?_
  have hk0 := Keep.refl H
  have hkM := Keep.refl H
  refine DK.seq ?_
  refine DK.seq ?_
  refine DK.region (is := [0, 1, 2, 3, 4, 5, 6]) (by kernel_rfl) rfl ?_
  refine WK.call rfl (by simp [cb, cbr, c9, hone, hs0, hs1, hl32, hone2, hs20, hs21, hl2, hw1, hw2, hwr, hi9, hlt, hlnA, hbA, hbAr, hleA, hgeA, hset, hsm, z1, z2, hln, hidx, hidn, hgn, hlen, hgl, hleL, hbL, cn, cnr, hk9, hklt, hwk, hwn, hws, hno, hcy, hley, hgey, hbz, cc, hlc, hc0, hc1, honec, hsmc, hn9, hnlt, hu1, hs9, hslt, hLn]) (by simp [Tryd.func11, Tryd.f11, cb, cbr, c9, hone, hs0, hs1, hl32, hone2, hs20, hs21, hl2, hw1, hw2, hwr, hi9, hlt, hlnA, hbA, hbAr, hleA, hgeA, hset, hsm, z1, z2, hln, hidx, hidn, hgn, hlen, hgl, hleL, hbL, cn, cnr, hk9, hklt, hwk, hwn, hws, hno, hcy, hley, hgey, hbz, cc, hlc, hc0, hc1, honec, hsmc, hn9, hnlt, hu1, hs9, hslt, hLn]; constructor <;> rfl) ?_
  refine FSem.mono (awake_s hL2) ?_
  rintro _ Hq ⟨rfl, hq⟩
  replace hq := hq.symm
  subst hq
  refine WK.run (rest := [3, 4, 5, 6]) [1, 2] (by simp [cb, cbr, c9, hone, hs0, hs1, hl32, hone2, hs20, hs21, hl2, hw1, hw2, hwr, hi9, hlt, hlnA, hbA, hbAr, hleA, hgeA, hset, hsm, z1, z2, hln, hidx, hidn, hgn, hlen, hgl, hleL, hbL, cn, cnr, hk9, hklt, hwk, hwn, hws, hno, hcy, hley, hgey, hbz, cc, hlc, hc0, hc1, honec, hsmc, hn9, hnlt, hu1, hs9, hslt, hLn]; constructor <;> rfl) ?_
  refine WK.run (rest := [5, 6]) [3, 4] (by simp [cb, cbr, c9, hone, hs0, hs1, hl32, hone2, hs20, hs21, hl2, hw1, hw2, hwr, hi9, hlt, hlnA, hbA, hbAr, hleA, hgeA, hset, hsm, z1, z2, hln, hidx, hidn, hgn, hlen, hgl, hleL, hbL, cn, cnr, hk9, hklt, hwk, hwn, hws, hno, hcy, hley, hgey, hbz, cc, hlc, hc0, hc1, honec, hsmc, hn9, hnlt, hu1, hs9, hslt, hLn]; constructor <;> rfl) ?_
  refine WK.run (rest := []) [5, 6] (by simp [cb, cbr, c9, hone, hs0, hs1, hl32, hone2, hs20, hs21, hl2, hw1, hw2, hwr, hi9, hlt, hlnA, hbA, hbAr, hleA, hgeA, hset, hsm, z1, z2, hln, hidx, hidn, hgn, hlen, hgl, hleL, hbL, cn, cnr, hk9, hklt, hwk, hwn, hws, hno, hcy, hley, hgey, hbz, cc, hlc, hc0, hc1, honec, hsmc, hn9, hnlt, hu1, hs9, hslt, hLn]; constructor <;> rfl) ?_
  refine WK.nil ?_
  refine DK.test rfl rfl (fun h => ?_) (fun h => ?_)
  · try simp only [h]
    replace h := Tr.out h
    refine DK.seq ?_
    refine DK.region (is := [0, 1]) (by kernel_rfl) rfl ?_
    refine WK.call rfl (by simp [cb, cbr, c9, hone, hs0, hs1, hl32, hone2, hs20, hs21, hl2, hw1, hw2, hwr, hi9, hlt, hlnA, hbA, hbAr, hleA, hgeA, hset, hsm, z1, z2, hln, hidx, hidn, hgn, hlen, hgl, hleL, hbL, cn, cnr, hk9, hklt, hwk, hwn, hws, hno, hcy, hley, hgey, hbz, cc, hlc, hc0, hc1, honec, hsmc, hn9, hnlt, hu1, hs9, hslt, hLn]) (by simp [Tryd.func11, Tryd.f11, cb, cbr, c9, hone, hs0, hs1, hl32, hone2, hs20, hs21, hl2, hw1, hw2, hwr, hi9, hlt, hlnA, hbA, hbAr, hleA, hgeA, hset, hsm, z1, z2, hln, hidx, hidn, hgn, hlen, hgl, hleL, hbL, cn, cnr, hk9, hklt, hwk, hwn, hws, hno, hcy, hley, hgey, hbz, cc, hlc, hc0, hc1, honec, hsmc, hn9, hnlt, hu1, hs9, hslt, hLn]; constructor <;> rfl) ?_
    refine FSem.mono (awake_s hL2) ?_
    rintro _ Hq ⟨rfl, hq⟩
    replace hq := hq.symm
    subst hq
    refine WK.run (rest := []) [1] (by simp [cb, cbr, c9, hone, hs0, hs1, hl32, hone2, hs20, hs21, hl2, hw1, hw2, hwr, hi9, hlt, hlnA, hbA, hbAr, hleA, hgeA, hset, hsm, z1, z2, hln, hidx, hidn, hgn, hlen, hgl, hleL, hbL, cn, cnr, hk9, hklt, hwk, hwn, hws, hno, hcy, hley, hgey, hbz, cc, hlc, hc0, hc1, honec, hsmc, hn9, hnlt, hu1, hs9, hslt, hLn]; constructor <;> rfl) ?_
    refine WK.nil ?_
    refine DK.ret ?_
    refine And.intro (Or.inr rfl) ?_
    refine ⟨_, by simp [absAnswer, absResults, absResult, Tryd.f4]; rfl, ?_⟩
    exact ⟨(hk0.trans hkM).ext, by simp, by simp⟩
  try simp only [h]
  replace h := Fa.out h
  refine DK.skip ?_
  refine DK.seq ?_
  refine DK.region (is := [0, 1, 2, 3, 4, 5]) (by kernel_rfl) rfl ?_
  refine WK.run (rest := [2, 3, 4, 5]) [0, 1] (by simp [cb, cbr, c9, hone, hs0, hs1, hl32, hone2, hs20, hs21, hl2, hw1, hw2, hwr, hi9, hlt, hlnA, hbA, hbAr, hleA, hgeA, hset, hsm, z1, z2, hln, hidx, hidn, hgn, hlen, hgl, hleL, hbL, cn, cnr, hk9, hklt, hwk, hwn, hws, hno, hcy, hley, hgey, hbz, cc, hlc, hc0, hc1, honec, hsmc, hn9, hnlt, hu1, hs9, hslt, hLn]; constructor <;> rfl) ?_
  refine WK.run (rest := [3, 4, 5]) [2] (by simp [cb, cbr, c9, hone, hs0, hs1, hl32, hone2, hs20, hs21, hl2, hw1, hw2, hwr, hi9, hlt, hlnA, hbA, hbAr, hleA, hgeA, hset, hsm, z1, z2, hln, hidx, hidn, hgn, hlen, hgl, hleL, hbL, cn, cnr, hk9, hklt, hwk, hwn, hws, hno, hcy, hley, hgey, hbz, cc, hlc, hc0, hc1, honec, hsmc, hn9, hnlt, hu1, hs9, hslt, hLn]; constructor <;> rfl) ?_
  refine WK.call rfl (by simp [cb, cbr, c9, hone, hs0, hs1, hl32, hone2, hs20, hs21, hl2, hw1, hw2, hwr, hi9, hlt, hlnA, hbA, hbAr, hleA, hgeA, hset, hsm, z1, z2, hln, hidx, hidn, hgn, hlen, hgl, hleL, hbL, cn, cnr, hk9, hklt, hwk, hwn, hws, hno, hcy, hley, hgey, hbz, cc, hlc, hc0, hc1, honec, hsmc, hn9, hnlt, hu1, hs9, hslt, hLn]) (by simp [Tryd.func12, Tryd.f12, cb, cbr, c9, hone, hs0, hs1, hl32, hone2, hs20, hs21, hl2, hw1, hw2, hwr, hi9, hlt, hlnA, hbA, hbAr, hleA, hgeA, hset, hsm, z1, z2, hln, hidx, hidn, hgn, hlen, hgl, hleL, hbL, cn, cnr, hk9, hklt, hwk, hwn, hws, hno, hcy, hley, hgey, hbz, cc, hlc, hc0, hc1, honec, hsmc, hn9, hnlt, hu1, hs9, hslt, hLn]; constructor <;> rfl) ?_
  refine FSem.mono (newb_g (700000 + t) _) ?_
  rintro _ Hq ⟨rfl, hq⟩
  subst hq
  refine WK.run (rest := []) [4, 5] (by simp [cb, cbr, c9, hone, hs0, hs1, hl32, hone2, hs20, hs21, hl2, hw1, hw2, hwr, hi9, hlt, hlnA, hbA, hbAr, hleA, hgeA, hset, hsm, z1, z2, hln, hidx, hidn, hgn, hlen, hgl, hleL, hbL, cn, cnr, hk9, hklt, hwk, hwn, hws, hno, hcy, hley, hgey, hbz, cc, hlc, hc0, hc1, honec, hsmc, hn9, hnlt, hu1, hs9, hslt, hLn]; constructor <;> rfl) ?_
  refine WK.nil ?_
  refine DK.abs (fun M1 => Keep H M1 ∧ M1[H.length]? = some (.cells false (BkL (700000 + t) (.slice none 0 0) zL))) ⟨Keep.app _ _, mem_app _ _⟩ ?_
  rintro M1 ⟨hkk, h_cb⟩
  replace cb := h_cb
  replace hL2 := hL2.keep hkk
  have hkM := hkk
  replace hBk := BkAt.new M1 (700000 + t)
  refine DK.seq ?_
  refine DK.seq ?_
  refine DK.region (is := [0]) (by kernel_rfl) rfl ?_
  refine WK.run (rest := []) [0] (by simp [cb, cbr, c9, hone, hs0, hs1, hl32, hone2, hs20, hs21, hl2, hw1, hw2, hwr, hi9, hlt, hlnA, hbA, hbAr, hleA, hgeA, hset, hsm, z1, z2, hln, hidx, hidn, hgn, hlen, hgl, hleL, hbL, cn, cnr, hk9, hklt, hwk, hwn, hws, hno, hcy, hley, hgey, hbz, cc, hlc, hc0, hc1, honec, hsmc, hn9, hnlt, hu1, hs9, hslt, hLn]; constructor <;> rfl) ?_
  refine WK.nil ?_
  refine DK.block ?_
  refine DK.loopF [6, 7, 8, 33, 34, 35, 36, 37, 38, 39, 40, 41, 42, 43, 44, 45, 46, 47, 48, 49, 50, 51, 52, 53] [6] (fun fl vs H' => ∃ (i : Int) (b : Bk) (sp : Value) (l : List As), vs = [.int .i64 i] ∧ (Keep H H' ∧ H'[H.length]? = some (.cells false (BkL b.today sp l)) ∧ BkAt H' sp l b ∧ Lad H') ∧ 0 ≤ i ∧ i ≤ acts.length ∧ (∀ c, blkOf sp = some c → H.length < c) ∧ b = playB (acts.take i.toNat) (newB (700000 + t)) ∧ fl = (acts.length - i).toNat) (acts.length) (by kernel_rfl) ?_ ?_
  · refine ⟨_, newB (700000 + t), .slice none 0 0, zL, rfl, ?_⟩
    exact ⟨⟨hkM, cb, hBk, hL2⟩, by omega, by omega, fun c hc => (by cases hc), rfl, by omega⟩
  rintro fl f1j M ⟨i, b, sp, l, hv, hf⟩
  clear hkM hBk hL2
  obtain ⟨⟨hkM, cb0, hBk, hL2⟩, hj0, hj1, hspn, hpb, hfl⟩ := hf
  have hP : PlayOk i.toNat b := by rw [hpb]; exact play_ok hao _ _ (by omega)
  replace cb := cb0
  replace cbr : ∀ r : Mem, (M ++ r)[H.length]? = some (.cells false (BkL b.today sp l)) := fun r => (Keep.app _ _).cell cb0
  replace hs0 := hBk.pls.cells.1
  replace hs1 := hBk.pls.cells.2
  replace hl32 := hBk.len
  replace hone := bk_ones hs1
  replace hsm := bk_same hBk
  simp only [List.map_cons, List.map_nil, List.cons.injEq, and_true] at hv
  have hv1_0 := hv
  refine DK.from ((setL_S (by decide) _ _).trans (by simp [setS, hv1_0]; exact rfl)) ?_
  refine DK.seq ?_
  refine DK.seq ?_
  refine DK.region (is := [0, 1, 2, 3]) (by kernel_rfl) rfl ?_
  refine WK.run (rest := [2, 3]) [0, 1] (by simp [cb, cbr, c9, hone, hs0, hs1, hl32, hone2, hs20, hs21, hl2, hw1, hw2, hwr, hi9, hlt, hlnA, hbA, hbAr, hleA, hgeA, hset, hsm, z1, z2, hln, hidx, hidn, hgn, hlen, hgl, hleL, hbL, cn, cnr, hk9, hklt, hwk, hwn, hws, hno, hcy, hley, hgey, hbz, cc, hlc, hc0, hc1, honec, hsmc, hn9, hnlt, hu1, hs9, hslt, hLn]; constructor <;> rfl) ?_
  refine WK.run (rest := []) [2, 3] (by simp [cb, cbr, c9, hone, hs0, hs1, hl32, hone2, hs20, hs21, hl2, hw1, hw2, hwr, hi9, hlt, hlnA, hbA, hbAr, hleA, hgeA, hset, hsm, z1, z2, hln, hidx, hidn, hgn, hlen, hgl, hleL, hbL, cn, cnr, hk9, hklt, hwk, hwn, hws, hno, hcy, hley, hgey, hbz, cc, hlc, hc0, hc1, honec, hsmc, hn9, hnlt, hu1, hs9, hslt, hLn]; constructor <;> rfl) ?_
  refine WK.nil ?_
  refine DK.test rfl rfl (fun h => ?_) (fun h => ?_)
  · try simp only [h]
    replace h := Tr.out h
    replace hi9 : 0 ≤ i := hj0
    replace hlt : i < acts.length := h
    have hil : i.toNat < acts.length := by omega
    have hwr1 : IntKind.i64.wrap (i + 1) = i + 1 := wrap_in _ (by omega) (by omega)
    replace hwr := hwr1
    obtain ⟨bA, oA, roA, vsA, hsaE, hbA0, hle0, hge0⟩ := hA.blk hil
    subst hsaE
    replace hbA := (hk0.trans hkM).cell hbA0
    replace hbAr : ∀ r : Mem, (M ++ r)[bA]? = some (.cells roA vsA) := fun r => (Keep.app _ _).cell hbA
    replace hleA : oA + i.toNat * 4 + 4 ≤ vsA.length := hle0
    replace hgeA : List.take 4 (List.drop (oA + i.toNat * 4) vsA) = (acts[i.toNat]).l := hge0
    refine DK.skip ?_
    refine DK.seq ?_
    refine DK.block ?_
    refine DK.seq ?_
    refine DK.draw rfl (POk.of (ord := [0, 1, 2, 3, 4, 5, 12, 6, 7, 8, 9, 10, 11, 13, 14]) (by kernel_rfl)) ?_
    refine XK.run (rest := [2, 3, 4, 5, 12, 6, 7, 8, 9, 10, 11, 13, 14]) [0, 1] (by kernel_rfl) (by simp [cb, cbr, c9, hone, hs0, hs1, hl32, hone2, hs20, hs21, hl2, hw1, hw2, hwr, hi9, hlt, hlnA, hbA, hbAr, hleA, hgeA, hset, hsm, z1, z2, hln, hidx, hidn, hgn, hlen, hgl, hleL, hbL, cn, cnr, hk9, hklt, hwk, hwn, hws, hno, hcy, hley, hgey, hbz, cc, hlc, hc0, hc1, honec, hsmc, hn9, hnlt, hu1, hs9, hslt, hLn]; constructor <;> rfl) ?_
    refine XK.run (rest := [4, 5, 12, 6, 7, 8, 9, 10, 11, 13, 14]) [2, 3] (by kernel_rfl) (by simp [cb, cbr, c9, hone, hs0, hs1, hl32, hone2, hs20, hs21, hl2, hw1, hw2, hwr, hi9, hlt, hlnA, hbA, hbAr, hleA, hgeA, hset, hsm, z1, z2, hln, hidx, hidn, hgn, hlen, hgl, hleL, hbL, cn, cnr, hk9, hklt, hwk, hwn, hws, hno, hcy, hley, hgey, hbz, cc, hlc, hc0, hc1, honec, hsmc, hn9, hnlt, hu1, hs9, hslt, hLn]; constructor <;> rfl) ?_
    refine XK.run (rest := [12, 6, 7, 8, 9, 10, 11, 13, 14]) [4, 5] (by kernel_rfl) (by simp [cb, cbr, c9, hone, hs0, hs1, hl32, hone2, hs20, hs21, hl2, hw1, hw2, hwr, hi9, hlt, hlnA, hbA, hbAr, hleA, hgeA, hset, hsm, z1, z2, hln, hidx, hidn, hgn, hlen, hgl, hleL, hbL, cn, cnr, hk9, hklt, hwk, hwn, hws, hno, hcy, hley, hgey, hbz, cc, hlc, hc0, hc1, honec, hsmc, hn9, hnlt, hu1, hs9, hslt, hLn]; constructor <;> rfl) ?_
    refine XK.run (rest := [6, 7, 8, 9, 10, 11, 13, 14]) [12] (by kernel_rfl) (by simp [cb, cbr, c9, hone, hs0, hs1, hl32, hone2, hs20, hs21, hl2, hw1, hw2, hwr, hi9, hlt, hlnA, hbA, hbAr, hleA, hgeA, hset, hsm, z1, z2, hln, hidx, hidn, hgn, hlen, hgl, hleL, hbL, cn, cnr, hk9, hklt, hwk, hwn, hws, hno, hcy, hley, hgey, hbz, cc, hlc, hc0, hc1, honec, hsmc, hn9, hnlt, hu1, hs9, hslt, hLn]; constructor <;> rfl) ?_
    refine XK.call rfl (by simp [cb, cbr, c9, hone, hs0, hs1, hl32, hone2, hs20, hs21, hl2, hw1, hw2, hwr, hi9, hlt, hlnA, hbA, hbAr, hleA, hgeA, hset, hsm, z1, z2, hln, hidx, hidn, hgn, hlen, hgl, hleL, hbL, cn, cnr, hk9, hklt, hwk, hwn, hws, hno, hcy, hley, hgey, hbz, cc, hlc, hc0, hc1, honec, hsmc, hn9, hnlt, hu1, hs9, hslt, hLn]) rfl (by simp [Tryd.func14, Tryd.f14, cb, cbr, c9, hone, hs0, hs1, hl32, hone2, hs20, hs21, hl2, hw1, hw2, hwr, hi9, hlt, hlnA, hbA, hbAr, hleA, hgeA, hset, hsm, z1, z2, hln, hidx, hidn, hgn, hlen, hgl, hleL, hbL, cn, cnr, hk9, hklt, hwk, hwn, hws, hno, hcy, hley, hgey, hbz, cc, hlc, hc0, hc1, honec, hsmc, hn9, hnlt, hu1, hs9, hslt, hLn]; constructor <;> rfl) ?_
    refine FSem.mono (basks_s (i.toNat * 3652060) b (hBk.keep (Keep.app _ _)) hP.ok (by omega)) ?_
    rintro _s5 M3 ⟨hA3, hR3, hW3, hN3⟩
    have hkk := Keep.of hA3
    replace cb := hkk.cell (cbr _)
    replace c9 := hkk.cell (mem_app _ _)
    have hM3 : M.length < M3.length := (List.getElem?_eq_some_iff.1 c9).1
    replace hBk3 := (hBk.keep (Keep.app _ _)).keep hkk
    replace hL3 := (hL2.keep (Keep.app _ _)).keep hkk
    replace hk3 := (hkM.trans (Keep.app _ _)).trans hkk
    replace hbA := hkk.cell (hbAr _)
    have hlen3 : b.asks.length ≤ 100000000000 := by have := asks_bound (k := (i.toNat * 3652060)) 0 b.subs (fun a ha => (hP.ok.subs a ha).2); rw [hP.ok.len] at this; unfold Bk.asks; omega
    refine And.intro (lag_list (l := [0, 4]) (by kernel_rfl) (lag_cons (lag_one rfl (by simp [cb, cbr, c9, hone, hs0, hs1, hl32, hone2, hs20, hs21, hl2, hw1, hw2, hwr, hi9, hlt, hlnA, hbA, hbAr, hleA, hgeA, hset, hsm, z1, z2, hln, hidx, hidn, hgn, hlen, hgl, hleL, hbL, cn, cnr, hk9, hklt, hwk, hwn, hws, hno, hcy, hley, hgey, hbz, cc, hlc, hc0, hc1, honec, hsmc, hn9, hnlt, hu1, hs9, hslt, hLn]; constructor <;> rfl) rfl (by simp [cb, cbr, c9, hone, hs0, hs1, hl32, hone2, hs20, hs21, hl2, hw1, hw2, hwr, hi9, hlt, hlnA, hbA, hbAr, hleA, hgeA, hset, hsm, z1, z2, hln, hidx, hidn, hgn, hlen, hgl, hleL, hbL, cn, cnr, hk9, hklt, hwk, hwn, hws, hno, hcy, hley, hgey, hbz, cc, hlc, hc0, hc1, honec, hsmc, hn9, hnlt, hu1, hs9, hslt, hLn]) (by simp [sameL, sameV_agg, sameV_int, sameV_bool, sameV_str, sameV_ptr, sameV_sl, sameV_map, same1_int, same1_bool, same1_str, same1_ptr, same1_sl, same1_map, cb, cbr, c9, hone, hs0, hs1, hl32, hone2, hs20, hs21, hl2, hw1, hw2, hwr, hi9, hlt, hlnA, hbA, hbAr, hleA, hgeA, hset, hsm, z1, z2, hln, hidx, hidn, hgn, hlen, hgl, hleL, hbL, cn, cnr, hk9, hklt, hwk, hwn, hws, hno, hcy, hley, hgey, hbz, cc, hlc, hc0, hc1, honec, hsmc, hn9, hnlt, hu1, hs9, hslt, hLn]) rfl) (lag_cons (lag_one rfl (by simp [cb, cbr, c9, hone, hs0, hs1, hl32, hone2, hs20, hs21, hl2, hw1, hw2, hwr, hi9, hlt, hlnA, hbA, hbAr, hleA, hgeA, hset, hsm, z1, z2, hln, hidx, hidn, hgn, hlen, hgl, hleL, hbL, cn, cnr, hk9, hklt, hwk, hwn, hws, hno, hcy, hley, hgey, hbz, cc, hlc, hc0, hc1, honec, hsmc, hn9, hnlt, hu1, hs9, hslt, hLn]; constructor <;> rfl) rfl (by simp [cb, cbr, c9, hone, hs0, hs1, hl32, hone2, hs20, hs21, hl2, hw1, hw2, hwr, hi9, hlt, hlnA, hbA, hbAr, hleA, hgeA, hset, hsm, z1, z2, hln, hidx, hidn, hgn, hlen, hgl, hleL, hbL, cn, cnr, hk9, hklt, hwk, hwn, hws, hno, hcy, hley, hgey, hbz, cc, hlc, hc0, hc1, honec, hsmc, hn9, hnlt, hu1, hs9, hslt, hLn]) (by simp [sameL, sameV_agg, sameV_int, sameV_bool, sameV_str, sameV_ptr, sameV_sl, sameV_map, same1_int, same1_bool, same1_str, same1_ptr, same1_sl, same1_map, cb, cbr, c9, hone, hs0, hs1, hl32, hone2, hs20, hs21, hl2, hw1, hw2, hwr, hi9, hlt, hlnA, hbA, hbAr, hleA, hgeA, hset, hsm, z1, z2, hln, hidx, hidn, hgn, hlen, hgl, hleL, hbL, cn, cnr, hk9, hklt, hwk, hwn, hws, hno, hcy, hley, hgey, hbz, cc, hlc, hc0, hc1, honec, hsmc, hn9, hnlt, hu1, hs9, hslt, hLn]) rfl) rfl))) ?_
    refine XK.call rfl (by simp [cb, cbr, c9, hone, hs0, hs1, hl32, hone2, hs20, hs21, hl2, hw1, hw2, hwr, hi9, hlt, hlnA, hbA, hbAr, hleA, hgeA, hset, hsm, z1, z2, hln, hidx, hidn, hgn, hlen, hgl, hleL, hbL, cn, cnr, hk9, hklt, hwk, hwn, hws, hno, hcy, hley, hgey, hbz, cc, hlc, hc0, hc1, honec, hsmc, hn9, hnlt, hu1, hs9, hslt, hLn]) rfl (by simp [Tryd.func13, Tryd.f13, cb, cbr, c9, hone, hs0, hs1, hl32, hone2, hs20, hs21, hl2, hw1, hw2, hwr, hi9, hlt, hlnA, hbA, hbAr, hleA, hgeA, hset, hsm, z1, z2, hln, hidx, hidn, hgn, hlen, hgl, hleL, hbL, cn, cnr, hk9, hklt, hwk, hwn, hws, hno, hcy, hley, hgey, hbz, cc, hlc, hc0, hc1, honec, hsmc, hn9, hnlt, hu1, hs9, hslt, hLn]; constructor <;> rfl) ?_
    refine FSem.mono (rorder_g acts[i.toNat] (hao _ (List.getElem_mem hil)) b.asks hlen3 hR3) ?_
    rintro _ Hq ⟨od, rfl, hod, hq⟩
    subst hq
    refine And.intro (lag_list (l := [0]) (by kernel_rfl) (lag_cons (lag_one rfl (by simp [cb, cbr, c9, hone, hs0, hs1, hl32, hone2, hs20, hs21, hl2, hw1, hw2, hwr, hi9, hlt, hlnA, hbA, hbAr, hleA, hgeA, hset, hsm, z1, z2, hln, hidx, hidn, hgn, hlen, hgl, hleL, hbL, cn, cnr, hk9, hklt, hwk, hwn, hws, hno, hcy, hley, hgey, hbz, cc, hlc, hc0, hc1, honec, hsmc, hn9, hnlt, hu1, hs9, hslt, hLn]; constructor <;> rfl) rfl (by simp [cb, cbr, c9, hone, hs0, hs1, hl32, hone2, hs20, hs21, hl2, hw1, hw2, hwr, hi9, hlt, hlnA, hbA, hbAr, hleA, hgeA, hset, hsm, z1, z2, hln, hidx, hidn, hgn, hlen, hgl, hleL, hbL, cn, cnr, hk9, hklt, hwk, hwn, hws, hno, hcy, hley, hgey, hbz, cc, hlc, hc0, hc1, honec, hsmc, hn9, hnlt, hu1, hs9, hslt, hLn]) (by simp [sameL, sameV_agg, sameV_int, sameV_bool, sameV_str, sameV_ptr, sameV_sl, sameV_map, same1_int, same1_bool, same1_str, same1_ptr, same1_sl, same1_map, cb, cbr, c9, hone, hs0, hs1, hl32, hone2, hs20, hs21, hl2, hw1, hw2, hwr, hi9, hlt, hlnA, hbA, hbAr, hleA, hgeA, hset, hsm, z1, z2, hln, hidx, hidn, hgn, hlen, hgl, hleL, hbL, cn, cnr, hk9, hklt, hwk, hwn, hws, hno, hcy, hley, hgey, hbz, cc, hlc, hc0, hc1, honec, hsmc, hn9, hnlt, hu1, hs9, hslt, hLn]) rfl) rfl)) ?_
    refine XK.call rfl (by simp [cb, cbr, c9, hone, hs0, hs1, hl32, hone2, hs20, hs21, hl2, hw1, hw2, hwr, hi9, hlt, hlnA, hbA, hbAr, hleA, hgeA, hset, hsm, z1, z2, hln, hidx, hidn, hgn, hlen, hgl, hleL, hbL, cn, cnr, hk9, hklt, hwk, hwn, hws, hno, hcy, hley, hgey, hbz, cc, hlc, hc0, hc1, honec, hsmc, hn9, hnlt, hu1, hs9, hslt, hLn]) rfl (by simp [Tryd.func16, Tryd.f16, cb, cbr, c9, hone, hs0, hs1, hl32, hone2, hs20, hs21, hl2, hw1, hw2, hwr, hi9, hlt, hlnA, hbA, hbAr, hleA, hgeA, hset, hsm, z1, z2, hln, hidx, hidn, hgn, hlen, hgl, hleL, hbL, cn, cnr, hk9, hklt, hwk, hwn, hws, hno, hcy, hley, hgey, hbz, cc, hlc, hc0, hc1, honec, hsmc, hn9, hnlt, hu1, hs9, hslt, hLn]; constructor <;> rfl) ?_
    refine FSem.mono (step_g (i.toNat * 3652060) b od hBk3 hL3 hP.ok (by omega) hP.un) ?_
    rintro _ M4 ⟨b2, e2, sp2, l2, rfl, hst, hBk2, hl, hs, hs', hkk, hsb2⟩
    replace hl2 := hl
    replace hs20 := hs
    replace hs21 := hs'
    replace hone2 := bk_ones hs'
    replace cb := hkk.cell cb
    replace c9 := hkk.cell c9
    replace hBk3 := hBk3.keep hkk
    replace hk3 := hk3.trans hkk
    replace hbA := hkk.cell hbA
    replace hset := List.getElem?_set_self (a := Blk.cells false (BkL b2.today sp2 l2)) (List.getElem?_eq_some_iff.1 c9).1
    refine And.intro (lag_list (l := []) (by kernel_rfl) rfl) ?_
    refine XK.run (rest := [11, 13, 14]) [9, 10] (by kernel_rfl) (by simp [cb, cbr, c9, hone, hs0, hs1, hl32, hone2, hs20, hs21, hl2, hw1, hw2, hwr, hi9, hlt, hlnA, hbA, hbAr, hleA, hgeA, hset, hsm, z1, z2, hln, hidx, hidn, hgn, hlen, hgl, hleL, hbL, cn, cnr, hk9, hklt, hwk, hwn, hws, hno, hcy, hley, hgey, hbz, cc, hlc, hc0, hc1, honec, hsmc, hn9, hnlt, hu1, hs9, hslt, hLn]; constructor <;> rfl) ?_
    refine XK.run (rest := [13, 14]) [11] (by kernel_rfl) (by simp [cb, cbr, c9, hone, hs0, hs1, hl32, hone2, hs20, hs21, hl2, hw1, hw2, hwr, hi9, hlt, hlnA, hbA, hbAr, hleA, hgeA, hset, hsm, z1, z2, hln, hidx, hidn, hgn, hlen, hgl, hleL, hbL, cn, cnr, hk9, hklt, hwk, hwn, hws, hno, hcy, hley, hgey, hbz, cc, hlc, hc0, hc1, honec, hsmc, hn9, hnlt, hu1, hs9, hslt, hLn]; constructor <;> rfl) ?_
    refine XK.one rfl (by simp [cb, cbr, c9, hone, hs0, hs1, hl32, hone2, hs20, hs21, hl2, hw1, hw2, hwr, hi9, hlt, hlnA, hbA, hbAr, hleA, hgeA, hset, hsm, z1, z2, hln, hidx, hidn, hgn, hlen, hgl, hleL, hbL, cn, cnr, hk9, hklt, hwk, hwn, hws, hno, hcy, hley, hgey, hbz, cc, hlc, hc0, hc1, honec, hsmc, hn9, hnlt, hu1, hs9, hslt, hLn]) rfl (by simp [cb, cbr, c9, hone, hs0, hs1, hl32, hone2, hs20, hs21, hl2, hw1, hw2, hwr, hi9, hlt, hlnA, hbA, hbAr, hleA, hgeA, hset, hsm, z1, z2, hln, hidx, hidn, hgn, hlen, hgl, hleL, hbL, cn, cnr, hk9, hklt, hwk, hwn, hws, hno, hcy, hley, hgey, hbz, cc, hlc, hc0, hc1, honec, hsmc, hn9, hnlt, hu1, hs9, hslt, hLn]; constructor <;> rfl) (lag_list (l := []) (by kernel_rfl) rfl) ?_
    refine XK.one rfl (by simp [cb, cbr, c9, hone, hs0, hs1, hl32, hone2, hs20, hs21, hl2, hw1, hw2, hwr, hi9, hlt, hlnA, hbA, hbAr, hleA, hgeA, hset, hsm, z1, z2, hln, hidx, hidn, hgn, hlen, hgl, hleL, hbL, cn, cnr, hk9, hklt, hwk, hwn, hws, hno, hcy, hley, hgey, hbz, cc, hlc, hc0, hc1, honec, hsmc, hn9, hnlt, hu1, hs9, hslt, hLn]) rfl (by simp [cb, cbr, c9, hone, hs0, hs1, hl32, hone2, hs20, hs21, hl2, hw1, hw2, hwr, hi9, hlt, hlnA, hbA, hbAr, hleA, hgeA, hset, hsm, z1, z2, hln, hidx, hidn, hgn, hlen, hgl, hleL, hbL, cn, cnr, hk9, hklt, hwk, hwn, hws, hno, hcy, hley, hgey, hbz, cc, hlc, hc0, hc1, honec, hsmc, hn9, hnlt, hu1, hs9, hslt, hLn]; constructor <;> rfl) (lag_list (l := []) (by kernel_rfl) rfl) ?_
    refine XK.nil ?_
    refine DK.abs (fun M5 => Keep H M5 ∧ M5[H.length]? = some (.cells false (BkL b.today sp l)) ∧ M5[M.length]? = some (.cells false (BkL b2.today sp2 l2)) ∧ BkAt M5 sp l b ∧ BkAt M5 sp2 l2 b2) ⟨hk3.set hkM.1 _, (List.getElem?_set_ne (by have := (List.getElem?_eq_some_iff.1 cb0).1; omega)).trans cb, hset, hBk3.set (hBk.free (Nat.le_refl _)) _, hBk2.set (hBk2.fre c9 (by rw [BkL_len (by simp)]; decide) (fun e => (hsb2 _ e).elim (fun q => by have := hBk.pls.lt q; omega) (fun q => by have := hM3; omega))) _⟩ ?_
    rintro M5 ⟨hk5, cb5, c95, hBk5, hBk25⟩
    replace c9 := c95
    replace cb := cb5
    replace hset := List.getElem?_set_self (a := Blk.cells false (BkL b2.today sp2 l2)) (List.getElem?_eq_some_iff.1 cb).1
    refine DK.seq ?_
    refine DK.region (is := [0, 1]) (by kernel_rfl) rfl ?_
    refine WK.run (rest := []) [0, 1] (by simp [cb, cbr, c9, hone, hs0, hs1, hl32, hone2, hs20, hs21, hl2, hw1, hw2, hwr, hi9, hlt, hlnA, hbA, hbAr, hleA, hgeA, hset, hsm, z1, z2, hln, hidx, hidn, hgn, hlen, hgl, hleL, hbL, cn, cnr, hk9, hklt, hwk, hwn, hws, hno, hcy, hley, hgey, hbz, cc, hlc, hc0, hc1, honec, hsmc, hn9, hnlt, hu1, hs9, hslt, hLn]; constructor <;> rfl) ?_
    refine WK.nil ?_
    refine DK.test rfl rfl (fun h => ?_) (fun h => ?_)
    · try simp only [h]
      replace h := Tr.out h
      refine DK.region (is := [0, 1]) (by kernel_rfl) rfl ?_
      refine WK.run (rest := []) [0, 1] (by simp [cb, cbr, c9, hone, hs0, hs1, hl32, hone2, hs20, hs21, hl2, hw1, hw2, hwr, hi9, hlt, hlnA, hbA, hbAr, hleA, hgeA, hset, hsm, z1, z2, hln, hidx, hidn, hgn, hlen, hgl, hleL, hbL, cn, cnr, hk9, hklt, hwk, hwn, hws, hno, hcy, hley, hgey, hbz, cc, hlc, hc0, hc1, honec, hsmc, hn9, hnlt, hu1, hs9, hslt, hLn]; constructor <;> rfl) ?_
      refine WK.nil ?_
      refine DK.abs (fun M6 => Keep H M6 ∧ M6[H.length]? = some (.cells false (BkL b2.today sp2 l2)) ∧ BkAt M6 sp2 l2 b2) ⟨hk5.set (Nat.le_refl _) _, hset, hBk25.set (hBk25.fre cb (by rw [BkL_len hl32]; decide) (fun e => (hsb2 _ e).elim (fun q => by have := hspn _ q; omega) (fun q => by have := hM3; have := (List.getElem?_eq_some_iff.1 cb0).1; omega))) _⟩ ?_
      rintro M6 ⟨hk6, cb6, hBk6⟩
      refine DK.region (is := [0, 1, 2]) (by kernel_rfl) rfl ?_
      refine WK.run (rest := [2]) [0, 1] (by simp [cb, cbr, c9, hone, hs0, hs1, hl32, hone2, hs20, hs21, hl2, hw1, hw2, hwr, hi9, hlt, hlnA, hbA, hbAr, hleA, hgeA, hset, hsm, z1, z2, hln, hidx, hidn, hgn, hlen, hgl, hleL, hbL, cn, cnr, hk9, hklt, hwk, hwn, hws, hno, hcy, hley, hgey, hbz, cc, hlc, hc0, hc1, honec, hsmc, hn9, hnlt, hu1, hs9, hslt, hLn]; constructor <;> rfl) ?_
      refine WK.run (rest := []) [2] (by simp [cb, cbr, c9, hone, hs0, hs1, hl32, hone2, hs20, hs21, hl2, hw1, hw2, hwr, hi9, hlt, hlnA, hbA, hbAr, hleA, hgeA, hset, hsm, z1, z2, hln, hidx, hidn, hgn, hlen, hgl, hleL, hbL, cn, cnr, hk9, hklt, hwk, hwn, hws, hno, hcy, hley, hgey, hbz, cc, hlc, hc0, hc1, honec, hsmc, hn9, hnlt, hu1, hs9, hslt, hLn]; constructor <;> rfl) ?_
      refine WK.nil ?_
      refine ⟨by kernel_rfl, (acts.length - (i + 1)).toNat, ?_, _, b2, sp2, l2, rfl, ?_⟩
      · omega
      · rw [show (i + 1).toNat = i.toNat + 1 by omega, play_snoc hil, ← hpb, act_yes hod hst (by assumption)]
        exact ⟨⟨hk6, cb6, hBk6, (hL.keep hk0).keep hk6⟩, by omega, by omega, fun c hc => (hsb2 c hc).elim (fun q => hspn c q) (fun q => by have := hM3; have := (List.getElem?_eq_some_iff.1 cb0).1; omega), rfl, rfl⟩
    try simp only [h]
    replace h := Fa.out h
    refine DK.skip ?_
    refine DK.region (is := [0, 1, 2]) (by kernel_rfl) rfl ?_
    refine WK.run (rest := [2]) [0, 1] (by simp [cb, cbr, c9, hone, hs0, hs1, hl32, hone2, hs20, hs21, hl2, hw1, hw2, hwr, hi9, hlt, hlnA, hbA, hbAr, hleA, hgeA, hset, hsm, z1, z2, hln, hidx, hidn, hgn, hlen, hgl, hleL, hbL, cn, cnr, hk9, hklt, hwk, hwn, hws, hno, hcy, hley, hgey, hbz, cc, hlc, hc0, hc1, honec, hsmc, hn9, hnlt, hu1, hs9, hslt, hLn]; constructor <;> rfl) ?_
    refine WK.run (rest := []) [2] (by simp [cb, cbr, c9, hone, hs0, hs1, hl32, hone2, hs20, hs21, hl2, hw1, hw2, hwr, hi9, hlt, hlnA, hbA, hbAr, hleA, hgeA, hset, hsm, z1, z2, hln, hidx, hidn, hgn, hlen, hgl, hleL, hbL, cn, cnr, hk9, hklt, hwk, hwn, hws, hno, hcy, hley, hgey, hbz, cc, hlc, hc0, hc1, honec, hsmc, hn9, hnlt, hu1, hs9, hslt, hLn]; constructor <;> rfl) ?_
    refine WK.nil ?_
    refine ⟨by kernel_rfl, (acts.length - (i + 1)).toNat, ?_, _, b, sp, l, rfl, ?_⟩
    · omega
    · rw [show (i + 1).toNat = i.toNat + 1 by omega, play_snoc hil, ← hpb, act_no hod hst (by assumption)]
      exact ⟨⟨hk5, cb5, hBk5, (hL.keep hk0).keep hk5⟩, by omega, by omega, hspn, rfl, rfl⟩
  try simp only [h]
  replace h := Fa.out h
  have hiE : i = acts.length := by omega
  subst hiE
  rw [List.take_of_length_le (show acts.length ≤ ((acts.length : Int)).toNat by simp)] at hpb
  have hP := True.intro
  have hP : PlayOk acts.length b := by rw [hpb]; have := play_ok hao (700000 + t) acts.length (Nat.le_refl _); rwa [List.take_length] at this
  have hok2 : BOk 147000000 b := hP.ok.le (by omega)
  have hbi0 := play_bi hao (by omega) (show (0 : Int) ≤ 700000 + t by omega) (by omega) acts.length (Nat.le_refl _)
  rw [List.take_length, ← hpb] at hbi0
  have hBI : BI (700000 + t) 2999 (60 * 2999) 200000 b := hbi0.1.mono (by omega)
  have hbt := hbi0.2
  refine DK.exit ?_
  refine DK.seq ?_
  refine DK.region (is := [0, 1, 2]) (by kernel_rfl) rfl ?_
  refine WK.run (rest := [1, 2]) [0] (by simp [cb, cbr, c9, hone, hs0, hs1, hl32, hone2, hs20, hs21, hl2, hw1, hw2, hwr, hi9, hlt, hlnA, hbA, hbAr, hleA, hgeA, hset, hsm, z1, z2, hln, hidx, hidn, hgn, hlen, hgl, hleL, hbL, cn, cnr, hk9, hklt, hwk, hwn, hws, hno, hcy, hley, hgey, hbz, cc, hlc, hc0, hc1, honec, hsmc, hn9, hnlt, hu1, hs9, hslt, hLn]; constructor <;> rfl) ?_
  refine WK.call rfl (by simp [cb, cbr, c9, hone, hs0, hs1, hl32, hone2, hs20, hs21, hl2, hw1, hw2, hwr, hi9, hlt, hlnA, hbA, hbAr, hleA, hgeA, hset, hsm, z1, z2, hln, hidx, hidn, hgn, hlen, hgl, hleL, hbL, cn, cnr, hk9, hklt, hwk, hwn, hws, hno, hcy, hley, hgey, hbz, cc, hlc, hc0, hc1, honec, hsmc, hn9, hnlt, hu1, hs9, hslt, hLn]) (by simp [Tryd.func14, Tryd.f14, cb, cbr, c9, hone, hs0, hs1, hl32, hone2, hs20, hs21, hl2, hw1, hw2, hwr, hi9, hlt, hlnA, hbA, hbAr, hleA, hgeA, hset, hsm, z1, z2, hln, hidx, hidn, hgn, hlen, hgl, hleL, hbL, cn, cnr, hk9, hklt, hwk, hwn, hws, hno, hcy, hley, hgey, hbz, cc, hlc, hc0, hc1, honec, hsmc, hn9, hnlt, hu1, hs9, hslt, hLn]; constructor <;> rfl) ?_
  refine FSem.mono (basks_s 147000000 b hBk hok2 (by decide)) ?_
  rintro _ls ME ⟨hA3, hR3, hW3, hN3⟩
  have hkk := Keep.of hA3
  replace cb := hkk.cell cb
  replace hBk := hBk.keep hkk
  replace hkM := hkM.keep hkk
  have hlenA : b.asks.length ≤ 100000000000 := by have := asks_bound (k := 147000000) 0 b.subs (fun a ha => (hok2.subs a ha).2); rw [hok2.len] at this; unfold Bk.asks; omega
  refine WK.run (rest := []) [2] (by simp [cb, cbr, c9, hone, hs0, hs1, hl32, hone2, hs20, hs21, hl2, hw1, hw2, hwr, hi9, hlt, hlnA, hbA, hbAr, hleA, hgeA, hset, hsm, z1, z2, hln, hidx, hidn, hgn, hlen, hgl, hleL, hbL, cn, cnr, hk9, hklt, hwk, hwn, hws, hno, hcy, hley, hgey, hbz, cc, hlc, hc0, hc1, honec, hsmc, hn9, hnlt, hu1, hs9, hslt, hLn]; constructor <;> rfl) ?_
  refine WK.nil ?_
  have hkE := Keep.refl ME
  have cbE := cb
  have hBkE := hBk
  have hkME := hkM
  replace hlen := hR3.len (T := 52) Tryd.underlying52
  refine DK.seq ?_
  refine DK.region (is := [0]) (by kernel_rfl) rfl ?_
  refine WK.run (rest := []) [0] (by simp [cb, cbr, c9, hone, hs0, hs1, hl32, hone2, hs20, hs21, hl2, hw1, hw2, hwr, hi9, hlt, hlnA, hbA, hbAr, hleA, hgeA, hset, hsm, z1, z2, hln, hidx, hidn, hgn, hlen, hgl, hleL, hbL, cn, cnr, hk9, hklt, hwk, hwn, hws, hno, hcy, hley, hgey, hbz, cc, hlc, hc0, hc1, honec, hsmc, hn9, hnlt, hu1, hs9, hslt, hLn]; constructor <;> rfl) ?_
  refine WK.nil ?_
  refine DK.seq ?_
  refine DK.seq ?_
  refine DK.region (is := [0]) (by kernel_rfl) rfl ?_
  refine WK.run (rest := []) [0] (by simp [cb, cbr, c9, hone, hs0, hs1, hl32, hone2, hs20, hs21, hl2, hw1, hw2, hwr, hi9, hlt, hlnA, hbA, hbAr, hleA, hgeA, hset, hsm, z1, z2, hln, hidx, hidn, hgn, hlen, hgl, hleL, hbL, cn, cnr, hk9, hklt, hwk, hwn, hws, hno, hcy, hley, hgey, hbz, cc, hlc, hc0, hc1, honec, hsmc, hn9, hnlt, hu1, hs9, hslt, hLn]; constructor <;> rfl) ?_
  refine WK.nil ?_
  refine DK.block ?_
  refine DK.loopF [4, 10, 11, 12, 13, 14, 56, 57, 58, 59, 60, 61, 62, 63, 64, 65, 66, 67, 68, 69, 70, 71, 72, 73, 74, 75, 76, 77, 78, 79, 80, 81, 82, 83, 84, 85, 86, 87, 88, 89, 90, 91, 92, 93, 94, 95, 96, 97, 98] [10, 11] (fun fl vs H' => ∃ (s : Int) (n : Int), vs = [.int .i64 n, .int .i64 s] ∧ Keep ME H' ∧ 0 ≤ s ∧ s ≤ 32 ∧ n = ((asksFrom 0 (b.subs.take s.toNat)).length : Int) ∧ fl = (32 - s).toNat) (32) (by kernel_rfl) ?_ ?_
  · refine ⟨_, _, rfl, ?_⟩
    exact ⟨hkE, by omega, by omega, by simp [asksFrom], by omega⟩
  rintro fl f2j M6 ⟨s, n, hv, hf⟩
  clear hkE
  obtain ⟨hkE, hj0, hj1, hnn, hfl⟩ := hf
  have cbQ := hkE.cell cbE
  replace cb := cbQ
  have hBkQ := hBkE.keep hkE
  clear hBk
  have hBk := hBkQ
  have hkMQ := hkME.trans hkE
  clear hkM
  have hkM := hkMQ
  simp only [List.map_cons, List.map_nil, List.cons.injEq, and_true] at hv
  obtain ⟨hv2_0, hv2_1⟩ := hv
  refine DK.from ((setL_S (by decide) _ _).trans (by simp [setS, hv2_0, hv2_1]; exact rfl)) ?_
  refine DK.seq ?_
  refine DK.seq ?_
  refine DK.region (is := [0, 1]) (by kernel_rfl) rfl ?_
  refine WK.run (rest := []) [0, 1] (by simp [cb, cbr, c9, hone, hs0, hs1, hl32, hone2, hs20, hs21, hl2, hw1, hw2, hwr, hi9, hlt, hlnA, hbA, hbAr, hleA, hgeA, hset, hsm, z1, z2, hln, hidx, hidn, hgn, hlen, hgl, hleL, hbL, cn, cnr, hk9, hklt, hwk, hwn, hws, hno, hcy, hley, hgey, hbz, cc, hlc, hc0, hc1, honec, hsmc, hn9, hnlt, hu1, hs9, hslt, hLn]; constructor <;> rfl) ?_
  refine WK.nil ?_
  refine DK.test rfl rfl (fun h => ?_) (fun h => ?_)
  · try simp only [h]
    replace h := Tr.out h
    replace hs9 : 0 ≤ s := hj0
    replace hslt : s < 32 := h
    have hwsv : IntKind.i64.wrap (s + 1) = s + 1 := wrap_in _ (by omega) (by omega)
    obtain ⟨x, hxs, _, hxo0, htk, _, _⟩ := hBkE.sub (i := s) (by omega) (by omega)
    have hxo := hxo0.keep hkE
    replace z1 : List.take 1 (List.drop (2 + s.toNat * 13 + 7) (BkL b.today sp l)) = [x.s] := by have := take_sub (f := 7) (k := 1) (htk b.today) (by decide); simpa using this
    replace z2 : 2 + s.toNat * 13 ≤ 410 := by omega
    replace hln := hxo.lenK
    have hs32 : s.toNat < b.subs.length := by rw [hok2.len]; omega
    have hxe : x.a = b.subs[s.toNat] := by rw [hxs]; unfold Bk.sub; rw [List.getD_eq_getElem?_getD, List.getElem?_eq_getElem hs32]; rfl
    replace hs20 := hxo.cells.1
    replace hs21 := hxo.cells.2
    have hss : ((s.toNat : Nat) : Int) = s := by omega
    have hxk := (hok2.subs _ (List.getElem_mem hs32)).2
    rw [← hxe] at hxk
    refine DK.skip ?_
    refine DK.seq ?_
    refine DK.block ?_
    refine DK.seq ?_
    refine DK.region (is := [0]) (by kernel_rfl) rfl ?_
    refine WK.run (rest := []) [0] (by simp [cb, cbr, c9, hone, hs0, hs1, hl32, hone2, hs20, hs21, hl2, hw1, hw2, hwr, hi9, hlt, hlnA, hbA, hbAr, hleA, hgeA, hset, hsm, z1, z2, hln, hidx, hidn, hgn, hlen, hgl, hleL, hbL, cn, cnr, hk9, hklt, hwk, hwn, hws, hno, hcy, hley, hgey, hbz, cc, hlc, hc0, hc1, honec, hsmc, hn9, hnlt, hu1, hs9, hslt, hLn]; constructor <;> rfl) ?_
    refine WK.nil ?_
    refine DK.block ?_
    refine DK.loopF [4, 10, 12, 13, 14, 60, 61, 62, 63, 64, 65, 66, 67, 68, 69, 70, 71, 72, 73, 74, 75, 76, 77, 78, 79, 80, 81, 82, 83, 84, 85, 86, 87, 88, 89, 90, 91, 92, 93, 94, 95, 96, 97, 98] [10, 12] (fun fl vs H' => ∃ (k : Int) (n2 : Int), vs = [.int .i64 n2, .int .i64 k] ∧ Keep ME H' ∧ 0 ≤ k ∧ k ≤ x.a.op.length ∧ n2 = n + ((asksL s (x.a.op.take k.toNat)).length : Int) ∧ fl = (x.a.op.length - k).toNat) (x.a.op.length) (by kernel_rfl) ?_ ?_
    · refine ⟨_, _, rfl, ?_⟩
      exact ⟨hkE, by omega, by omega, by simp [asksL], by omega⟩
    rintro fl f3j M6 ⟨k, n2, hv, hf⟩
    clear hkE hBk hkM
    obtain ⟨hkE, hk0k, hk1k, hn2, hfl2⟩ := hf
    replace cb := hkE.cell cbE
    have hBk := hBkE.keep hkE
    have hkM := hkME.trans hkE
    have hxo := hxo0.keep hkE
    simp only [List.map_cons, List.map_nil, List.cons.injEq, and_true] at hv
    obtain ⟨hv3_0, hv3_1⟩ := hv
    refine DK.from ((setL_S (by decide) _ _).trans (by simp [setS, hv3_0, hv3_1]; exact rfl)) ?_
    refine DK.seq ?_
    refine DK.seq ?_
    refine DK.region (is := [0, 1, 2, 3, 4, 5, 6, 7]) (by kernel_rfl) rfl ?_
    refine WK.run (rest := [2, 3, 4, 5, 6, 7]) [0, 1] (by simp [cb, cbr, c9, hone, hs0, hs1, hl32, hone2, hs20, hs21, hl2, hw1, hw2, hwr, hi9, hlt, hlnA, hbA, hbAr, hleA, hgeA, hset, hsm, z1, z2, hln, hidx, hidn, hgn, hlen, hgl, hleL, hbL, cn, cnr, hk9, hklt, hwk, hwn, hws, hno, hcy, hley, hgey, hbz, cc, hlc, hc0, hc1, honec, hsmc, hn9, hnlt, hu1, hs9, hslt, hLn]; constructor <;> rfl) ?_
    refine WK.run (rest := [4, 5, 6, 7]) [2, 3] (by simp [cb, cbr, c9, hone, hs0, hs1, hl32, hone2, hs20, hs21, hl2, hw1, hw2, hwr, hi9, hlt, hlnA, hbA, hbAr, hleA, hgeA, hset, hsm, z1, z2, hln, hidx, hidn, hgn, hlen, hgl, hleL, hbL, cn, cnr, hk9, hklt, hwk, hwn, hws, hno, hcy, hley, hgey, hbz, cc, hlc, hc0, hc1, honec, hsmc, hn9, hnlt, hu1, hs9, hslt, hLn]; constructor <;> rfl) ?_
    refine WK.run (rest := [6, 7]) [4, 5] (by simp [cb, cbr, c9, hone, hs0, hs1, hl32, hone2, hs20, hs21, hl2, hw1, hw2, hwr, hi9, hlt, hlnA, hbA, hbAr, hleA, hgeA, hset, hsm, z1, z2, hln, hidx, hidn, hgn, hlen, hgl, hleL, hbL, cn, cnr, hk9, hklt, hwk, hwn, hws, hno, hcy, hley, hgey, hbz, cc, hlc, hc0, hc1, honec, hsmc, hn9, hnlt, hu1, hs9, hslt, hLn]; constructor <;> rfl) ?_
    refine WK.run (rest := []) [6, 7] (by simp [cb, cbr, c9, hone, hs0, hs1, hl32, hone2, hs20, hs21, hl2, hw1, hw2, hwr, hi9, hlt, hlnA, hbA, hbAr, hleA, hgeA, hset, hsm, z1, z2, hln, hidx, hidn, hgn, hlen, hgl, hleL, hbL, cn, cnr, hk9, hklt, hwk, hwn, hws, hno, hcy, hley, hgey, hbz, cc, hlc, hc0, hc1, honec, hsmc, hn9, hnlt, hu1, hs9, hslt, hLn]; constructor <;> rfl) ?_
    refine WK.nil ?_
    refine DK.test rfl rfl (fun h => ?_) (fun h => ?_)
    · try simp only [h]
      replace h := Tr.out h
      replace hk9 : 0 ≤ k := hk0k
      replace hklt : k < x.a.op.length := h
      have hkl : k.toNat < x.a.op.length := by omega
      replace hwk : IntKind.i64.wrap (k + 1) = k + 1 := wrap_in _ (by omega) (by omega)
      obtain ⟨bz, hidz, hbz0⟩ := idx_cy hxo hk9 hkl
      replace hidx := hidz
      replace hbz := hbz0
      replace hgey := cys_get hkl
      replace hley : k.toNat * 8 + 8 ≤ x.a.op.length * 8 := by omega
      refine DK.skip ?_
      refine DK.seq ?_
      refine DK.block ?_
      refine DK.seq ?_
      refine DK.region (is := [0, 1, 2, 3, 4, 5, 6, 7, 8, 9, 10, 11, 12, 13, 14, 15]) (by kernel_rfl) rfl ?_
      refine WK.run (rest := [2, 3, 4, 5, 6, 7, 8, 9, 10, 11, 12, 13, 14, 15]) [0, 1] (by simp [cb, cbr, c9, hone, hs0, hs1, hl32, hone2, hs20, hs21, hl2, hw1, hw2, hwr, hi9, hlt, hlnA, hbA, hbAr, hleA, hgeA, hset, hsm, z1, z2, hln, hidx, hidn, hgn, hlen, hgl, hleL, hbL, cn, cnr, hk9, hklt, hwk, hwn, hws, hno, hcy, hley, hgey, hbz, cc, hlc, hc0, hc1, honec, hsmc, hn9, hnlt, hu1, hs9, hslt, hLn]; constructor <;> rfl) ?_
      refine WK.run (rest := [4, 5, 6, 7, 8, 9, 10, 11, 12, 13, 14, 15]) [2, 3] (by simp [cb, cbr, c9, hone, hs0, hs1, hl32, hone2, hs20, hs21, hl2, hw1, hw2, hwr, hi9, hlt, hlnA, hbA, hbAr, hleA, hgeA, hset, hsm, z1, z2, hln, hidx, hidn, hgn, hlen, hgl, hleL, hbL, cn, cnr, hk9, hklt, hwk, hwn, hws, hno, hcy, hley, hgey, hbz, cc, hlc, hc0, hc1, honec, hsmc, hn9, hnlt, hu1, hs9, hslt, hLn]; constructor <;> rfl) ?_
      refine WK.run (rest := [6, 7, 8, 9, 10, 11, 12, 13, 14, 15]) [4, 5] (by simp [cb, cbr, c9, hone, hs0, hs1, hl32, hone2, hs20, hs21, hl2, hw1, hw2, hwr, hi9, hlt, hlnA, hbA, hbAr, hleA, hgeA, hset, hsm, z1, z2, hln, hidx, hidn, hgn, hlen, hgl, hleL, hbL, cn, cnr, hk9, hklt, hwk, hwn, hws, hno, hcy, hley, hgey, hbz, cc, hlc, hc0, hc1, honec, hsmc, hn9, hnlt, hu1, hs9, hslt, hLn]; constructor <;> rfl) ?_
      refine WK.run (rest := [8, 9, 10, 11, 12, 13, 14, 15]) [6, 7] (by simp [cb, cbr, c9, hone, hs0, hs1, hl32, hone2, hs20, hs21, hl2, hw1, hw2, hwr, hi9, hlt, hlnA, hbA, hbAr, hleA, hgeA, hset, hsm, z1, z2, hln, hidx, hidn, hgn, hlen, hgl, hleL, hbL, cn, cnr, hk9, hklt, hwk, hwn, hws, hno, hcy, hley, hgey, hbz, cc, hlc, hc0, hc1, honec, hsmc, hn9, hnlt, hu1, hs9, hslt, hLn]; constructor <;> rfl) ?_
      refine WK.run (rest := [9, 10, 11, 12, 13, 14, 15]) [8] (by simp [cb, cbr, c9, hone, hs0, hs1, hl32, hone2, hs20, hs21, hl2, hw1, hw2, hwr, hi9, hlt, hlnA, hbA, hbAr, hleA, hgeA, hset, hsm, z1, z2, hln, hidx, hidn, hgn, hlen, hgl, hleL, hbL, cn, cnr, hk9, hklt, hwk, hwn, hws, hno, hcy, hley, hgey, hbz, cc, hlc, hc0, hc1, honec, hsmc, hn9, hnlt, hu1, hs9, hslt, hLn]; constructor <;> rfl) ?_
      refine WK.call rfl (by simp [cb, cbr, c9, hone, hs0, hs1, hl32, hone2, hs20, hs21, hl2, hw1, hw2, hwr, hi9, hlt, hlnA, hbA, hbAr, hleA, hgeA, hset, hsm, z1, z2, hln, hidx, hidn, hgn, hlen, hgl, hleL, hbL, cn, cnr, hk9, hklt, hwk, hwn, hws, hno, hcy, hley, hgey, hbz, cc, hlc, hc0, hc1, honec, hsmc, hn9, hnlt, hu1, hs9, hslt, hLn]) (by simp [Tryd.func19, Tryd.f19, cb, cbr, c9, hone, hs0, hs1, hl32, hone2, hs20, hs21, hl2, hw1, hw2, hwr, hi9, hlt, hlnA, hbA, hbAr, hleA, hgeA, hset, hsm, z1, z2, hln, hidx, hidn, hgn, hlen, hgl, hleL, hbL, cn, cnr, hk9, hklt, hwk, hwn, hws, hno, hcy, hley, hgey, hbz, cc, hlc, hc0, hc1, honec, hsmc, hn9, hnlt, hu1, hs9, hslt, hLn]; constructor <;> rfl) ?_
      refine FSem.mono (rasks_g s (x.a.op[k.toNat]) _) ?_
      rintro _ Hq ⟨nt, ok, rfl, hac, hq⟩
      subst hq
      refine WK.run (rest := [12, 13, 14, 15]) [10, 11] (by simp [cb, cbr, c9, hone, hs0, hs1, hl32, hone2, hs20, hs21, hl2, hw1, hw2, hwr, hi9, hlt, hlnA, hbA, hbAr, hleA, hgeA, hset, hsm, z1, z2, hln, hidx, hidn, hgn, hlen, hgl, hleL, hbL, cn, cnr, hk9, hklt, hwk, hwn, hws, hno, hcy, hley, hgey, hbz, cc, hlc, hc0, hc1, honec, hsmc, hn9, hnlt, hu1, hs9, hslt, hLn]; constructor <;> rfl) ?_
      refine WK.run (rest := [14, 15]) [12, 13] (by simp [cb, cbr, c9, hone, hs0, hs1, hl32, hone2, hs20, hs21, hl2, hw1, hw2, hwr, hi9, hlt, hlnA, hbA, hbAr, hleA, hgeA, hset, hsm, z1, z2, hln, hidx, hidn, hgn, hlen, hgl, hleL, hbL, cn, cnr, hk9, hklt, hwk, hwn, hws, hno, hcy, hley, hgey, hbz, cc, hlc, hc0, hc1, honec, hsmc, hn9, hnlt, hu1, hs9, hslt, hLn]; constructor <;> rfl) ?_
      refine WK.run (rest := []) [14, 15] (by simp [cb, cbr, c9, hone, hs0, hs1, hl32, hone2, hs20, hs21, hl2, hw1, hw2, hwr, hi9, hlt, hlnA, hbA, hbAr, hleA, hgeA, hset, hsm, z1, z2, hln, hidx, hidn, hgn, hlen, hgl, hleL, hbL, cn, cnr, hk9, hklt, hwk, hwn, hws, hno, hcy, hley, hgey, hbz, cc, hlc, hc0, hc1, honec, hsmc, hn9, hnlt, hu1, hs9, hslt, hLn]; constructor <;> rfl) ?_
      refine WK.nil ?_
      refine DK.abs (fun M8 => Keep M6 M8 ∧ M8[M6.length]? = some (.cells false nt.l)) ⟨Keep.app _ _, by simp⟩ ?_
      rintro M8 ⟨hkk, q8⟩
      replace cn := q8
      replace cb := hkk.cell cb
      replace hBk := hBk.keep hkk
      replace hkE := hkE.keep hkk
      replace hkM := hkM.keep hkk
      refine DK.seq ?_
      refine DK.seq ?_
      refine DK.region (is := [0, 1]) (by kernel_rfl) rfl ?_
      refine WK.run (rest := []) [0, 1] (by simp [cb, cbr, c9, hone, hs0, hs1, hl32, hone2, hs20, hs21, hl2, hw1, hw2, hwr, hi9, hlt, hlnA, hbA, hbAr, hleA, hgeA, hset, hsm, z1, z2, hln, hidx, hidn, hgn, hlen, hgl, hleL, hbL, cn, cnr, hk9, hklt, hwk, hwn, hws, hno, hcy, hley, hgey, hbz, cc, hlc, hc0, hc1, honec, hsmc, hn9, hnlt, hu1, hs9, hslt, hLn]; constructor <;> rfl) ?_
      refine WK.nil ?_
      refine DK.test rfl rfl (fun h => ?_) (fun h => ?_)
      · try simp only [h]
        replace h := Tr.out h
        have hokE : ok = false := by simpa using h
        subst hokE
        replace hwk := hwk
        refine DK.exit ?_
        refine DK.region (is := [0, 1, 2]) (by kernel_rfl) rfl ?_
        refine WK.run (rest := [2]) [0, 1] (by simp [cb, cbr, c9, hone, hs0, hs1, hl32, hone2, hs20, hs21, hl2, hw1, hw2, hwr, hi9, hlt, hlnA, hbA, hbAr, hleA, hgeA, hset, hsm, z1, z2, hln, hidx, hidn, hgn, hlen, hgl, hleL, hbL, cn, cnr, hk9, hklt, hwk, hwn, hws, hno, hcy, hley, hgey, hbz, cc, hlc, hc0, hc1, honec, hsmc, hn9, hnlt, hu1, hs9, hslt, hLn]; constructor <;> rfl) ?_
        refine WK.run (rest := []) [2] (by simp [cb, cbr, c9, hone, hs0, hs1, hl32, hone2, hs20, hs21, hl2, hw1, hw2, hwr, hi9, hlt, hlnA, hbA, hbAr, hleA, hgeA, hset, hsm, z1, z2, hln, hidx, hidn, hgn, hlen, hgl, hleL, hbL, cn, cnr, hk9, hklt, hwk, hwn, hws, hno, hcy, hley, hgey, hbz, cc, hlc, hc0, hc1, honec, hsmc, hn9, hnlt, hu1, hs9, hslt, hLn]; constructor <;> rfl) ?_
        refine WK.nil ?_
        refine ⟨by kernel_rfl, (x.a.op.length - (k + 1)).toNat, ?_, _, _, rfl, ?_⟩
        · omega
        · refine ⟨hkE, by omega, by omega, ?_, rfl⟩
          rw [show (k + 1).toNat = k.toNat + 1 by omega, asksL_take hkl hac]; simpa using hn2
      try simp only [h]
      replace h := Fa.out h
      have hokE : ok = true := by simpa using h
      subst hokE
      obtain ⟨hnl, hne⟩ := asks_pre (b := b) hs32 (by rw [← hxe]; exact hkl) (n := nt) (by simp only [hss, ← hxe]; exact hac)
      simp only [hss, ← hxe] at hnl hne
      have hn2e : n2.toNat = (asksFrom 0 (b.subs.take s.toNat)).length + (asksL s (x.a.op.take k.toNat)).length := by omega
      have hn2l : n2.toNat < b.asks.length := by omega
      have hn2n : b.asks[n2.toNat] = nt := by simp only [hn2e]; exact hne
      replace hnlt : ¬ ((b.asks.length : Int) ≤ n2) := by omega
      replace hwn : IntKind.i64.wrap (n2 + 1) = n2 + 1 := wrap_in _ (by omega) (by omega)
      obtain ⟨bn, onn, ron, vsn, hidn0, hbn0, hlen0, hgen0⟩ := (hR3.keep hkE).idx (T := 52) (e := 46) (i := n2) (by omega) hn2l Tryd.underlying52 inf46 sz46
      replace hidn : absIndexAddr Tryd.prog M8 52 _ls (.int .i64 n2) = some (.pointer (some ⟨bn, onn + n2.toNat * 6, none⟩)) := hidn0
      replace hgn := hbn0
      replace hleL : onn + n2.toNat * 6 + 6 ≤ vsn.length := hlen0
      replace hbL : List.take 6 (List.drop (onn + n2.toNat * 6) vsn) = nt.l := by rw [hn2n] at hgen0; exact hgen0
      refine DK.skip ?_
      refine DK.seq ?_
      refine DK.seq ?_
      refine DK.draw rfl (POk.of (ord := [0, 1, 2, 3, 4, 5, 6, 7, 8, 9, 10, 11]) (by kernel_rfl)) ?_
      refine XK.run (rest := [2, 3, 4, 5, 6, 7, 8, 9, 10, 11]) [0, 1] (by kernel_rfl) (by simp [cb, cbr, c9, hone, hs0, hs1, hl32, hone2, hs20, hs21, hl2, hw1, hw2, hwr, hi9, hlt, hlnA, hbA, hbAr, hleA, hgeA, hset, hsm, z1, z2, hln, hidx, hidn, hgn, hlen, hgl, hleL, hbL, cn, cnr, hk9, hklt, hwk, hwn, hws, hno, hcy, hley, hgey, hbz, cc, hlc, hc0, hc1, honec, hsmc, hn9, hnlt, hu1, hs9, hslt, hLn]; constructor <;> rfl) ?_
      refine XK.run (rest := [4, 5, 6, 7, 8, 9, 10, 11]) [2, 3] (by kernel_rfl) (by simp [cb, cbr, c9, hone, hs0, hs1, hl32, hone2, hs20, hs21, hl2, hw1, hw2, hwr, hi9, hlt, hlnA, hbA, hbAr, hleA, hgeA, hset, hsm, z1, z2, hln, hidx, hidn, hgn, hlen, hgl, hleL, hbL, cn, cnr, hk9, hklt, hwk, hwn, hws, hno, hcy, hley, hgey, hbz, cc, hlc, hc0, hc1, honec, hsmc, hn9, hnlt, hu1, hs9, hslt, hLn]; constructor <;> rfl) ?_
      refine XK.run (rest := [5, 6, 7, 8, 9, 10, 11]) [4] (by kernel_rfl) (by simp [cb, cbr, c9, hone, hs0, hs1, hl32, hone2, hs20, hs21, hl2, hw1, hw2, hwr, hi9, hlt, hlnA, hbA, hbAr, hleA, hgeA, hset, hsm, z1, z2, hln, hidx, hidn, hgn, hlen, hgl, hleL, hbL, cn, cnr, hk9, hklt, hwk, hwn, hws, hno, hcy, hley, hgey, hbz, cc, hlc, hc0, hc1, honec, hsmc, hn9, hnlt, hu1, hs9, hslt, hLn]; constructor <;> rfl) ?_
      refine XK.split (t := 89) rfl (fun h => ?_) (fun h => ?_)
      · try simp only [h]
        replace h := Tr.out h
        cases h
      try simp only [h]
      replace h := Fa.out h
      refine XK.run (rest := [7, 8, 9, 10, 11]) [5, 6] (by kernel_rfl) (by simp [cb, cbr, c9, hone, hs0, hs1, hl32, hone2, hs20, hs21, hl2, hw1, hw2, hwr, hi9, hlt, hlnA, hbA, hbAr, hleA, hgeA, hset, hsm, z1, z2, hln, hidx, hidn, hgn, hlen, hgl, hleL, hbL, cn, cnr, hk9, hklt, hwk, hwn, hws, hno, hcy, hley, hgey, hbz, cc, hlc, hc0, hc1, honec, hsmc, hn9, hnlt, hu1, hs9, hslt, hLn]; constructor <;> rfl) ?_
      refine XK.run (rest := [9, 10, 11]) [7, 8] (by kernel_rfl) (by simp [cb, cbr, c9, hone, hs0, hs1, hl32, hone2, hs20, hs21, hl2, hw1, hw2, hwr, hi9, hlt, hlnA, hbA, hbAr, hleA, hgeA, hset, hsm, z1, z2, hln, hidx, hidn, hgn, hlen, hgl, hleL, hbL, cn, cnr, hk9, hklt, hwk, hwn, hws, hno, hcy, hley, hgey, hbz, cc, hlc, hc0, hc1, honec, hsmc, hn9, hnlt, hu1, hs9, hslt, hLn]; constructor <;> rfl) ?_
      refine XK.run (rest := [11]) [9, 10] (by kernel_rfl) (by simp [cb, cbr, c9, hone, hs0, hs1, hl32, hone2, hs20, hs21, hl2, hw1, hw2, hwr, hi9, hlt, hlnA, hbA, hbAr, hleA, hgeA, hset, hsm, z1, z2, hln, hidx, hidn, hgn, hlen, hgl, hleL, hbL, cn, cnr, hk9, hklt, hwk, hwn, hws, hno, hcy, hley, hgey, hbz, cc, hlc, hc0, hc1, honec, hsmc, hn9, hnlt, hu1, hs9, hslt, hLn]; constructor <;> rfl) ?_
      refine XK.run (rest := []) [11] (by kernel_rfl) (by simp [cb, cbr, c9, hone, hs0, hs1, hl32, hone2, hs20, hs21, hl2, hw1, hw2, hwr, hi9, hlt, hlnA, hbA, hbAr, hleA, hgeA, hset, hsm, z1, z2, hln, hidx, hidn, hgn, hlen, hgl, hleL, hbL, cn, cnr, hk9, hklt, hwk, hwn, hws, hno, hcy, hley, hgey, hbz, cc, hlc, hc0, hc1, honec, hsmc, hn9, hnlt, hu1, hs9, hslt, hLn]; constructor <;> rfl) ?_
      refine XK.nil ?_
      refine DK.test rfl rfl (fun h => ?_) (fun h => ?_)
      · try simp only [h]
        replace h := Tr.out h
        cases h
      try simp only [h]
      replace h := Fa.out h
      refine DK.skip ?_
      refine DK.region (is := [0, 1, 2]) (by kernel_rfl) rfl ?_
      refine WK.run (rest := [2]) [0, 1] (by simp [cb, cbr, c9, hone, hs0, hs1, hl32, hone2, hs20, hs21, hl2, hw1, hw2, hwr, hi9, hlt, hlnA, hbA, hbAr, hleA, hgeA, hset, hsm, z1, z2, hln, hidx, hidn, hgn, hlen, hgl, hleL, hbL, cn, cnr, hk9, hklt, hwk, hwn, hws, hno, hcy, hley, hgey, hbz, cc, hlc, hc0, hc1, honec, hsmc, hn9, hnlt, hu1, hs9, hslt, hLn]; constructor <;> rfl) ?_
      refine WK.run (rest := []) [2] (by simp [cb, cbr, c9, hone, hs0, hs1, hl32, hone2, hs20, hs21, hl2, hw1, hw2, hwr, hi9, hlt, hlnA, hbA, hbAr, hleA, hgeA, hset, hsm, z1, z2, hln, hidx, hidn, hgn, hlen, hgl, hleL, hbL, cn, cnr, hk9, hklt, hwk, hwn, hws, hno, hcy, hley, hgey, hbz, cc, hlc, hc0, hc1, honec, hsmc, hn9, hnlt, hu1, hs9, hslt, hLn]; constructor <;> rfl) ?_
      refine WK.nil ?_
      refine DK.region (is := [0, 1, 2]) (by kernel_rfl) rfl ?_
      refine WK.run (rest := [2]) [0, 1] (by simp [cb, cbr, c9, hone, hs0, hs1, hl32, hone2, hs20, hs21, hl2, hw1, hw2, hwr, hi9, hlt, hlnA, hbA, hbAr, hleA, hgeA, hset, hsm, z1, z2, hln, hidx, hidn, hgn, hlen, hgl, hleL, hbL, cn, cnr, hk9, hklt, hwk, hwn, hws, hno, hcy, hley, hgey, hbz, cc, hlc, hc0, hc1, honec, hsmc, hn9, hnlt, hu1, hs9, hslt, hLn]; constructor <;> rfl) ?_
      refine WK.run (rest := []) [2] (by simp [cb, cbr, c9, hone, hs0, hs1, hl32, hone2, hs20, hs21, hl2, hw1, hw2, hwr, hi9, hlt, hlnA, hbA, hbAr, hleA, hgeA, hset, hsm, z1, z2, hln, hidx, hidn, hgn, hlen, hgl, hleL, hbL, cn, cnr, hk9, hklt, hwk, hwn, hws, hno, hcy, hley, hgey, hbz, cc, hlc, hc0, hc1, honec, hsmc, hn9, hnlt, hu1, hs9, hslt, hLn]; constructor <;> rfl) ?_
      refine WK.nil ?_
      refine ⟨by kernel_rfl, (x.a.op.length - (k + 1)).toNat, ?_, _, _, rfl, ?_⟩
      · omega
      · refine ⟨hkE, by omega, by omega, ?_, rfl⟩
        rw [show (k + 1).toNat = k.toNat + 1 by omega, asksL_take hkl hac]; simp; omega
    try simp only [h]
    replace h := Fa.out h
    have hkE2 : k = x.a.op.length := by omega
    subst hkE2
    replace hws := hwsv
    refine DK.exit ?_
    refine DK.region (is := [0, 1, 2]) (by kernel_rfl) rfl ?_
    refine WK.run (rest := [2]) [0, 1] (by simp [cb, cbr, c9, hone, hs0, hs1, hl32, hone2, hs20, hs21, hl2, hw1, hw2, hwr, hi9, hlt, hlnA, hbA, hbAr, hleA, hgeA, hset, hsm, z1, z2, hln, hidx, hidn, hgn, hlen, hgl, hleL, hbL, cn, cnr, hk9, hklt, hwk, hwn, hws, hno, hcy, hley, hgey, hbz, cc, hlc, hc0, hc1, honec, hsmc, hn9, hnlt, hu1, hs9, hslt, hLn]; constructor <;> rfl) ?_
    refine WK.run (rest := []) [2] (by simp [cb, cbr, c9, hone, hs0, hs1, hl32, hone2, hs20, hs21, hl2, hw1, hw2, hwr, hi9, hlt, hlnA, hbA, hbAr, hleA, hgeA, hset, hsm, z1, z2, hln, hidx, hidn, hgn, hlen, hgl, hleL, hbL, cn, cnr, hk9, hklt, hwk, hwn, hws, hno, hcy, hley, hgey, hbz, cc, hlc, hc0, hc1, honec, hsmc, hn9, hnlt, hu1, hs9, hslt, hLn]; constructor <;> rfl) ?_
    refine WK.nil ?_
    refine ⟨by kernel_rfl, (32 - (s + 1)).toNat, ?_, _, _, rfl, ?_⟩
    · omega
    · refine ⟨hkE, by omega, by omega, ?_, rfl⟩
      rw [show (s + 1).toNat = s.toNat + 1 by omega, asks_take hs32, List.length_append, ← hxe]
      have ha3 : asksA s.toNat x.a = asksL s x.a.op := by rw [hss]; rfl
      rw [ha3]
      rw [List.take_of_length_le (by omega)] at hn2; omega
  try simp only [h]
  replace h := Fa.out h
  have hsE : s = 32 := by omega
  subst hsE
  have hnE : n = b.asks.length := by rw [hnn]; unfold Bk.asks; rw [List.take_of_length_le (by rw [hok2.len]; decide)]
  subst hnE
  refine DK.exit ?_
  refine DK.seq ?_
  refine DK.seq ?_
  refine DK.region (is := [0, 1, 2, 3]) (by kernel_rfl) rfl ?_
  refine WK.run (rest := [2, 3]) [0, 1] (by simp [cb, cbr, c9, hone, hs0, hs1, hl32, hone2, hs20, hs21, hl2, hw1, hw2, hwr, hi9, hlt, hlnA, hbA, hbAr, hleA, hgeA, hset, hsm, z1, z2, hln, hidx, hidn, hgn, hlen, hgl, hleL, hbL, cn, cnr, hk9, hklt, hwk, hwn, hws, hno, hcy, hley, hgey, hbz, cc, hlc, hc0, hc1, honec, hsmc, hn9, hnlt, hu1, hs9, hslt, hLn]; constructor <;> rfl) ?_
  refine WK.run (rest := []) [2, 3] (by simp [cb, cbr, c9, hone, hs0, hs1, hl32, hone2, hs20, hs21, hl2, hw1, hw2, hwr, hi9, hlt, hlnA, hbA, hbAr, hleA, hgeA, hset, hsm, z1, z2, hln, hidx, hidn, hgn, hlen, hgl, hleL, hbL, cn, cnr, hk9, hklt, hwk, hwn, hws, hno, hcy, hley, hgey, hbz, cc, hlc, hc0, hc1, honec, hsmc, hn9, hnlt, hu1, hs9, hslt, hLn]; constructor <;> rfl) ?_
  refine WK.nil ?_
  refine DK.test rfl rfl (fun h => ?_) (fun h => ?_)
  · try simp only [h]
    replace h := Tr.out h
    cases h
  try simp only [h]
  replace h := Fa.out h
  refine DK.skip ?_
  refine DK.seq ?_
  refine DK.seq ?_
  refine DK.region (is := [0]) (by kernel_rfl) rfl ?_
  refine WK.run (rest := []) [0] (by simp [cb, cbr, c9, hone, hs0, hs1, hl32, hone2, hs20, hs21, hl2, hw1, hw2, hwr, hi9, hlt, hlnA, hbA, hbAr, hleA, hgeA, hset, hsm, z1, z2, hln, hidx, hidn, hgn, hlen, hgl, hleL, hbL, cn, cnr, hk9, hklt, hwk, hwn, hws, hno, hcy, hley, hgey, hbz, cc, hlc, hc0, hc1, honec, hsmc, hn9, hnlt, hu1, hs9, hslt, hLn]; constructor <;> rfl) ?_
  refine WK.nil ?_
  refine DK.block ?_
  refine DK.loopF [4, 15, 16, 17, 18, 19, 20, 103, 104, 105, 106, 107, 108, 109, 110, 111, 112, 113, 114, 115, 116, 117, 118, 119, 120, 121, 122, 123, 124, 125, 126, 127, 128, 129, 130, 131] [15] (fun fl vs H' => ∃ (j : Int), vs = [.int .i64 j] ∧ Keep ME H' ∧ 0 ≤ j ∧ j ≤ b.asks.length ∧ fl = (b.asks.length - j).toNat) (b.asks.length) (by kernel_rfl) ?_ ?_
  · refine ⟨_, rfl, ?_⟩
    exact ⟨hkE, by omega, by omega, by omega⟩
  rintro fl f4j M6 ⟨j, hv, hf⟩
  clear hkE hBk hkM
  obtain ⟨hkE, hj0j, hj1j, hflj⟩ := hf
  replace cb := hkE.cell cbE
  have hBk := hBkE.keep hkE
  have hkM := hkME.trans hkE
  simp only [List.map_cons, List.map_nil, List.cons.injEq, and_true] at hv
  have hv4_0 := hv
  refine DK.from ((setL_S (by decide) _ _).trans (by simp [setS, hv4_0]; exact rfl)) ?_
  refine DK.seq ?_
  refine DK.seq ?_
  refine DK.region (is := [0, 1, 2, 3]) (by kernel_rfl) rfl ?_
  refine WK.run (rest := [2, 3]) [0, 1] (by simp [cb, cbr, c9, hone, hs0, hs1, hl32, hone2, hs20, hs21, hl2, hw1, hw2, hwr, hi9, hlt, hlnA, hbA, hbAr, hleA, hgeA, hset, hsm, z1, z2, hln, hidx, hidn, hgn, hlen, hgl, hleL, hbL, cn, cnr, hk9, hklt, hwk, hwn, hws, hno, hcy, hley, hgey, hbz, cc, hlc, hc0, hc1, honec, hsmc, hn9, hnlt, hu1, hs9, hslt, hLn]; constructor <;> rfl) ?_
  refine WK.run (rest := []) [2, 3] (by simp [cb, cbr, c9, hone, hs0, hs1, hl32, hone2, hs20, hs21, hl2, hw1, hw2, hwr, hi9, hlt, hlnA, hbA, hbAr, hleA, hgeA, hset, hsm, z1, z2, hln, hidx, hidn, hgn, hlen, hgl, hleL, hbL, cn, cnr, hk9, hklt, hwk, hwn, hws, hno, hcy, hley, hgey, hbz, cc, hlc, hc0, hc1, honec, hsmc, hn9, hnlt, hu1, hs9, hslt, hLn]; constructor <;> rfl) ?_
  refine WK.nil ?_
  refine DK.test rfl rfl (fun h => ?_) (fun h => ?_)
  · try simp only [h]
    replace h := Tr.out h
    have hjl : j.toNat < b.asks.length := by omega
    replace hwk : IntKind.i64.wrap (j + 1) = j + 1 := wrap_in _ (by omega) (by omega)
    replace hk9 : 0 ≤ j := hj0j
    replace hklt : j < b.asks.length := h
    obtain ⟨bn, onn, ron, vsn, hidn0, hbn0, hlen0, hgen0⟩ := (hR3.keep hkE).idx (T := 52) (e := 46) (i := j) (by omega) hjl Tryd.underlying52 inf46 sz46
    replace hidn : absIndexAddr Tryd.prog M6 52 _ls (.int .i64 j) = some (.pointer (some ⟨bn, onn + j.toNat * 6, none⟩)) := hidn0
    replace hgn := hbn0
    replace hleL : onn + j.toNat * 6 + 6 ≤ vsn.length := hlen0
    replace hbL : List.take 6 (List.drop (onn + j.toNat * 6) vsn) = b.asks[j.toNat].l := hgen0
    refine DK.skip ?_
    refine DK.seq ?_
    refine DK.block ?_
    refine DK.seq ?_
    refine DK.region (is := [0, 1, 2, 3, 4, 5]) (by kernel_rfl) rfl ?_
    refine WK.run (rest := [2, 3, 4, 5]) [0, 1] (by simp [cb, cbr, c9, hone, hs0, hs1, hl32, hone2, hs20, hs21, hl2, hw1, hw2, hwr, hi9, hlt, hlnA, hbA, hbAr, hleA, hgeA, hset, hsm, z1, z2, hln, hidx, hidn, hgn, hlen, hgl, hleL, hbL, cn, cnr, hk9, hklt, hwk, hwn, hws, hno, hcy, hley, hgey, hbz, cc, hlc, hc0, hc1, honec, hsmc, hn9, hnlt, hu1, hs9, hslt, hLn]; constructor <;> rfl) ?_
    refine WK.run (rest := [4, 5]) [2, 3] (by simp [cb, cbr, c9, hone, hs0, hs1, hl32, hone2, hs20, hs21, hl2, hw1, hw2, hwr, hi9, hlt, hlnA, hbA, hbAr, hleA, hgeA, hset, hsm, z1, z2, hln, hidx, hidn, hgn, hlen, hgl, hleL, hbL, cn, cnr, hk9, hklt, hwk, hwn, hws, hno, hcy, hley, hgey, hbz, cc, hlc, hc0, hc1, honec, hsmc, hn9, hnlt, hu1, hs9, hslt, hLn]; constructor <;> rfl) ?_
    refine WK.run (rest := []) [4, 5] (by simp [cb, cbr, c9, hone, hs0, hs1, hl32, hone2, hs20, hs21, hl2, hw1, hw2, hwr, hi9, hlt, hlnA, hbA, hbAr, hleA, hgeA, hset, hsm, z1, z2, hln, hidx, hidn, hgn, hlen, hgl, hleL, hbL, cn, cnr, hk9, hklt, hwk, hwn, hws, hno, hcy, hley, hgey, hbz, cc, hlc, hc0, hc1, honec, hsmc, hn9, hnlt, hu1, hs9, hslt, hLn]; constructor <;> rfl) ?_
    refine WK.nil ?_
    refine DK.abs (fun M8 => Keep M6 M8 ∧ M8[M6.length]? = some (.cells false (b.asks[j.toNat]).l)) ⟨Keep.app _ _, by simp⟩ ?_
    rintro M8 ⟨hK8, c8⟩
    replace cn := c8
    refine DK.seq ?_
    refine DK.region (is := [0, 1]) (by kernel_rfl) rfl ?_
    refine WK.run (rest := []) [0, 1] (by simp [cb, cbr, c9, hone, hs0, hs1, hl32, hone2, hs20, hs21, hl2, hw1, hw2, hwr, hi9, hlt, hlnA, hbA, hbAr, hleA, hgeA, hset, hsm, z1, z2, hln, hidx, hidn, hgn, hlen, hgl, hleL, hbL, cn, cnr, hk9, hklt, hwk, hwn, hws, hno, hcy, hley, hgey, hbz, cc, hlc, hc0, hc1, honec, hsmc, hn9, hnlt, hu1, hs9, hslt, hLn]; constructor <;> rfl) ?_
    refine WK.nil ?_
    refine DK.abs (fun M9 => Keep M6 M9 ∧ M9[M6.length]? = some (.cells false (yesN b.asks[j.toNat]).l)) ⟨hK8.set (Nat.le_refl _) _, List.getElem?_set_self (List.getElem?_eq_some_iff.1 c8).1⟩ ?_
    rintro M9 ⟨hkk, c9n⟩
    replace cn := c9n
    replace cb := hkk.cell cb
    replace hBk := hBk.keep hkk
    replace hkE := hkE.keep hkk
    replace hkM := hkM.keep hkk
    refine DK.seq ?_
    refine DK.region (is := [0, 1, 2, 3, 4, 5, 6, 7, 8, 9]) (by kernel_rfl) rfl ?_
    refine WK.run (rest := [2, 3, 4, 5, 6, 7, 8, 9]) [0, 1] (by simp [cb, cbr, c9, hone, hs0, hs1, hl32, hone2, hs20, hs21, hl2, hw1, hw2, hwr, hi9, hlt, hlnA, hbA, hbAr, hleA, hgeA, hset, hsm, z1, z2, hln, hidx, hidn, hgn, hlen, hgl, hleL, hbL, cn, cnr, hk9, hklt, hwk, hwn, hws, hno, hcy, hley, hgey, hbz, cc, hlc, hc0, hc1, honec, hsmc, hn9, hnlt, hu1, hs9, hslt, hLn]; constructor <;> rfl) ?_
    refine WK.run (rest := [3, 4, 5, 6, 7, 8, 9]) [2] (by simp [cb, cbr, c9, hone, hs0, hs1, hl32, hone2, hs20, hs21, hl2, hw1, hw2, hwr, hi9, hlt, hlnA, hbA, hbAr, hleA, hgeA, hset, hsm, z1, z2, hln, hidx, hidn, hgn, hlen, hgl, hleL, hbL, cn, cnr, hk9, hklt, hwk, hwn, hws, hno, hcy, hley, hgey, hbz, cc, hlc, hc0, hc1, honec, hsmc, hn9, hnlt, hu1, hs9, hslt, hLn]; constructor <;> rfl) ?_
    refine WK.call rfl (by simp [cb, cbr, c9, hone, hs0, hs1, hl32, hone2, hs20, hs21, hl2, hw1, hw2, hwr, hi9, hlt, hlnA, hbA, hbAr, hleA, hgeA, hset, hsm, z1, z2, hln, hidx, hidn, hgn, hlen, hgl, hleL, hbL, cn, cnr, hk9, hklt, hwk, hwn, hws, hno, hcy, hley, hgey, hbz, cc, hlc, hc0, hc1, honec, hsmc, hn9, hnlt, hu1, hs9, hslt, hLn]) (by simp [Tryd.func16, Tryd.f16, cb, cbr, c9, hone, hs0, hs1, hl32, hone2, hs20, hs21, hl2, hw1, hw2, hwr, hi9, hlt, hlnA, hbA, hbAr, hleA, hgeA, hset, hsm, z1, z2, hln, hidx, hidn, hgn, hlen, hgl, hleL, hbL, cn, cnr, hk9, hklt, hwk, hwn, hws, hno, hcy, hley, hgey, hbz, cc, hlc, hc0, hc1, honec, hsmc, hn9, hnlt, hu1, hs9, hslt, hLn]; constructor <;> rfl) ?_
    refine FSem.mono (step_g 147000000 b ⟨10, 0, 0, 0, zeroP, yesN b.asks[j.toNat]⟩ hBk (hL.keep (hk0.trans hkM)) hok2 (by decide) hP.un) ?_
    rintro _ MC ⟨c, e3, spc, lc, rfl, hst, hBk2, hl, hs, hs', hkk, hsb2⟩
    replace hl2 := hl
    replace hs20 := hs
    replace hs21 := hs'
    replace hone2 := bk_ones hs'
    replace cb := hkk.cell cb
    replace cn := hkk.cell cn
    replace hBk := hBk.keep hkk
    replace hkE := hkE.keep hkk
    replace hkM := hkM.keep hkk
    obtain ⟨c1, hs1, hs2⟩ := asks_law (bds_play 60 (by omega)) hBI hok2.len (by omega) (by omega) (by decide) (List.getElem_mem hjl)
    obtain ⟨rfl, rfl⟩ : c1 = c ∧ (0 : Int) = e3 := by rw [hst] at hs1; cases hs1; exact ⟨rfl, rfl⟩
    refine WK.run (rest := [6, 7, 8, 9]) [4, 5] (by simp [cb, cbr, c9, hone, hs0, hs1, hl32, hone2, hs20, hs21, hl2, hw1, hw2, hwr, hi9, hlt, hlnA, hbA, hbAr, hleA, hgeA, hset, hsm, z1, z2, hln, hidx, hidn, hgn, hlen, hgl, hleL, hbL, cn, cnr, hk9, hklt, hwk, hwn, hws, hno, hcy, hley, hgey, hbz, cc, hlc, hc0, hc1, honec, hsmc, hn9, hnlt, hu1, hs9, hslt, hLn]; constructor <;> rfl) ?_
    refine WK.run (rest := [8, 9]) [6, 7] (by simp [cb, cbr, c9, hone, hs0, hs1, hl32, hone2, hs20, hs21, hl2, hw1, hw2, hwr, hi9, hlt, hlnA, hbA, hbAr, hleA, hgeA, hset, hsm, z1, z2, hln, hidx, hidn, hgn, hlen, hgl, hleL, hbL, cn, cnr, hk9, hklt, hwk, hwn, hws, hno, hcy, hley, hgey, hbz, cc, hlc, hc0, hc1, honec, hsmc, hn9, hnlt, hu1, hs9, hslt, hLn]; constructor <;> rfl) ?_
    refine WK.run (rest := []) [8, 9] (by simp [cb, cbr, c9, hone, hs0, hs1, hl32, hone2, hs20, hs21, hl2, hw1, hw2, hwr, hi9, hlt, hlnA, hbA, hbAr, hleA, hgeA, hset, hsm, z1, z2, hln, hidx, hidn, hgn, hlen, hgl, hleL, hbL, cn, cnr, hk9, hklt, hwk, hwn, hws, hno, hcy, hley, hgey, hbz, cc, hlc, hc0, hc1, honec, hsmc, hn9, hnlt, hu1, hs9, hslt, hLn]; constructor <;> rfl) ?_
    refine WK.nil ?_
    refine DK.abs (fun M10 => Keep MC M10 ∧ M10[MC.length]? = some (.cells false (BkL c1.today spc lc))) ⟨Keep.app _ _, by simp⟩ ?_
    rintro M10 ⟨hkk, q10⟩
    replace cc := q10
    replace cn := hkk.cell cn
    replace hBk := hBk.keep hkk
    replace hkE := hkE.keep hkk
    replace hkM := hkM.keep hkk
    replace hBk2 := hBk2.keep hkk
    have hBc := hBk2
    replace hlc := hl2
    replace hc0 := hs20
    replace hc1 := hs21
    replace honec := hone2
    have hokc : BOk 151000000 c1 := by have := stepB_okA ⟨10, 0, 0, 0, zeroP, yesN b.asks[j.toNat]⟩ hok2; rw [hs1] at this; exact this.le (by decide)
    have hunc : UnOk c1.pls := by have := stepB_un (o := ⟨10, 0, 0, 0, zeroP, yesN b.asks[j.toNat]⟩) hP.un (Int.le_refl _); rw [hs1] at this; exact this
    refine DK.seq ?_
    refine DK.seq ?_
    refine DK.region (is := [0, 1]) (by kernel_rfl) rfl ?_
    refine WK.run (rest := []) [0, 1] (by simp [cb, cbr, c9, hone, hs0, hs1, hl32, hone2, hs20, hs21, hl2, hw1, hw2, hwr, hi9, hlt, hlnA, hbA, hbAr, hleA, hgeA, hset, hsm, z1, z2, hln, hidx, hidn, hgn, hlen, hgl, hleL, hbL, cn, cnr, hk9, hklt, hwk, hwn, hws, hno, hcy, hley, hgey, hbz, cc, hlc, hc0, hc1, honec, hsmc, hn9, hnlt, hu1, hs9, hslt, hLn]; constructor <;> rfl) ?_
    refine WK.nil ?_
    refine DK.test rfl rfl (fun h => ?_) (fun h => ?_)
    · try simp only [h]
      replace h := Tr.out h
      cases h
    try simp only [h]
    replace h := Fa.out h
    refine DK.skip ?_
    refine DK.seq ?_
    refine DK.region (is := [0, 1, 2, 3, 4, 5, 6, 7, 8, 9]) (by kernel_rfl) rfl ?_
    refine WK.run (rest := [2, 3, 4, 5, 6, 7, 8, 9]) [0, 1] (by simp [cb, cbr, c9, hone, hs0, hs1, hl32, hone2, hs20, hs21, hl2, hw1, hw2, hwr, hi9, hlt, hlnA, hbA, hbAr, hleA, hgeA, hset, hsm, z1, z2, hln, hidx, hidn, hgn, hlen, hgl, hleL, hbL, cn, cnr, hk9, hklt, hwk, hwn, hws, hno, hcy, hley, hgey, hbz, cc, hlc, hc0, hc1, honec, hsmc, hn9, hnlt, hu1, hs9, hslt, hLn]; constructor <;> rfl) ?_
    refine WK.run (rest := [3, 4, 5, 6, 7, 8, 9]) [2] (by simp [cb, cbr, c9, hone, hs0, hs1, hl32, hone2, hs20, hs21, hl2, hw1, hw2, hwr, hi9, hlt, hlnA, hbA, hbAr, hleA, hgeA, hset, hsm, z1, z2, hln, hidx, hidn, hgn, hlen, hgl, hleL, hbL, cn, cnr, hk9, hklt, hwk, hwn, hws, hno, hcy, hley, hgey, hbz, cc, hlc, hc0, hc1, honec, hsmc, hn9, hnlt, hu1, hs9, hslt, hLn]; constructor <;> rfl) ?_
    refine WK.call rfl (by simp [cb, cbr, c9, hone, hs0, hs1, hl32, hone2, hs20, hs21, hl2, hw1, hw2, hwr, hi9, hlt, hlnA, hbA, hbAr, hleA, hgeA, hset, hsm, z1, z2, hln, hidx, hidn, hgn, hlen, hgl, hleL, hbL, cn, cnr, hk9, hklt, hwk, hwn, hws, hno, hcy, hley, hgey, hbz, cc, hlc, hc0, hc1, honec, hsmc, hn9, hnlt, hu1, hs9, hslt, hLn]) (by simp [Tryd.func16, Tryd.f16, cb, cbr, c9, hone, hs0, hs1, hl32, hone2, hs20, hs21, hl2, hw1, hw2, hwr, hi9, hlt, hlnA, hbA, hbAr, hleA, hgeA, hset, hsm, z1, z2, hln, hidx, hidn, hgn, hlen, hgl, hleL, hbL, cn, cnr, hk9, hklt, hwk, hwn, hws, hno, hcy, hley, hgey, hbz, cc, hlc, hc0, hc1, honec, hsmc, hn9, hnlt, hu1, hs9, hslt, hLn]; constructor <;> rfl) ?_
    refine FSem.mono (step_g 151000000 c1 ⟨10, 0, 0, 0, zeroP, yesN b.asks[j.toNat]⟩ hBc (hL.keep (hk0.trans hkM)) hokc (by decide) hunc) ?_
    rintro _ M4 ⟨d, e4, spd, ld, rfl, hst, hBk2, hl, hs, hs', hkk, hsb2⟩
    replace hl2 := hl
    replace hs20 := hs
    replace hs21 := hs'
    replace hone2 := bk_ones hs'
    replace hkE := hkE.keep hkk
    replace hkM := hkM.keep hkk
    replace hBk := hBk.keep hkk
    obtain rfl : e4 = 10 := by rw [hst] at hs2; exact hs2
    refine WK.run (rest := [6, 7, 8, 9]) [4, 5] (by simp [cb, cbr, c9, hone, hs0, hs1, hl32, hone2, hs20, hs21, hl2, hw1, hw2, hwr, hi9, hlt, hlnA, hbA, hbAr, hleA, hgeA, hset, hsm, z1, z2, hln, hidx, hidn, hgn, hlen, hgl, hleL, hbL, cn, cnr, hk9, hklt, hwk, hwn, hws, hno, hcy, hley, hgey, hbz, cc, hlc, hc0, hc1, honec, hsmc, hn9, hnlt, hu1, hs9, hslt, hLn]; constructor <;> rfl) ?_
    refine WK.run (rest := [8, 9]) [6, 7] (by simp [cb, cbr, c9, hone, hs0, hs1, hl32, hone2, hs20, hs21, hl2, hw1, hw2, hwr, hi9, hlt, hlnA, hbA, hbAr, hleA, hgeA, hset, hsm, z1, z2, hln, hidx, hidn, hgn, hlen, hgl, hleL, hbL, cn, cnr, hk9, hklt, hwk, hwn, hws, hno, hcy, hley, hgey, hbz, cc, hlc, hc0, hc1, honec, hsmc, hn9, hnlt, hu1, hs9, hslt, hLn]; constructor <;> rfl) ?_
    refine WK.run (rest := []) [8, 9] (by simp [cb, cbr, c9, hone, hs0, hs1, hl32, hone2, hs20, hs21, hl2, hw1, hw2, hwr, hi9, hlt, hlnA, hbA, hbAr, hleA, hgeA, hset, hsm, z1, z2, hln, hidx, hidn, hgn, hlen, hgl, hleL, hbL, cn, cnr, hk9, hklt, hwk, hwn, hws, hno, hcy, hley, hgey, hbz, cc, hlc, hc0, hc1, honec, hsmc, hn9, hnlt, hu1, hs9, hslt, hLn]; constructor <;> rfl) ?_
    refine WK.nil ?_
    refine DK.abs (fun M11 => Keep ME M11) (hkE.trans (Keep.app _ _)) ?_
    clear hkE
    rintro M11 hkE
    refine DK.seq ?_
    refine DK.region (is := [0, 1]) (by kernel_rfl) rfl ?_
    refine WK.run (rest := []) [0, 1] (by simp [cb, cbr, c9, hone, hs0, hs1, hl32, hone2, hs20, hs21, hl2, hw1, hw2, hwr, hi9, hlt, hlnA, hbA, hbAr, hleA, hgeA, hset, hsm, z1, z2, hln, hidx, hidn, hgn, hlen, hgl, hleL, hbL, cn, cnr, hk9, hklt, hwk, hwn, hws, hno, hcy, hley, hgey, hbz, cc, hlc, hc0, hc1, honec, hsmc, hn9, hnlt, hu1, hs9, hslt, hLn]; constructor <;> rfl) ?_
    refine WK.nil ?_
    refine DK.test rfl rfl (fun h => ?_) (fun h => ?_)
    · try simp only [h]
      replace h := Tr.out h
      cases h
    try simp only [h]
    replace h := Fa.out h
    refine DK.skip ?_
    refine DK.region (is := [0, 1, 2]) (by kernel_rfl) rfl ?_
    refine WK.run (rest := [2]) [0, 1] (by simp [cb, cbr, c9, hone, hs0, hs1, hl32, hone2, hs20, hs21, hl2, hw1, hw2, hwr, hi9, hlt, hlnA, hbA, hbAr, hleA, hgeA, hset, hsm, z1, z2, hln, hidx, hidn, hgn, hlen, hgl, hleL, hbL, cn, cnr, hk9, hklt, hwk, hwn, hws, hno, hcy, hley, hgey, hbz, cc, hlc, hc0, hc1, honec, hsmc, hn9, hnlt, hu1, hs9, hslt, hLn]; constructor <;> rfl) ?_
    refine WK.run (rest := []) [2] (by simp [cb, cbr, c9, hone, hs0, hs1, hl32, hone2, hs20, hs21, hl2, hw1, hw2, hwr, hi9, hlt, hlnA, hbA, hbAr, hleA, hgeA, hset, hsm, z1, z2, hln, hidx, hidn, hgn, hlen, hgl, hleL, hbL, cn, cnr, hk9, hklt, hwk, hwn, hws, hno, hcy, hley, hgey, hbz, cc, hlc, hc0, hc1, honec, hsmc, hn9, hnlt, hu1, hs9, hslt, hLn]; constructor <;> rfl) ?_
    refine WK.nil ?_
    refine ⟨by kernel_rfl, (b.asks.length - (j + 1)).toNat, ?_, _, rfl, ?_⟩
    · omega
    · exact ⟨hkE, by omega, by omega, rfl⟩
  try simp only [h]
  replace h := Fa.out h
  refine DK.exit ?_
  refine DK.seq ?_
  refine DK.region (is := [0]) (by kernel_rfl) rfl ?_
  refine WK.run (rest := []) [0] (by simp [cb, cbr, c9, hone, hs0, hs1, hl32, hone2, hs20, hs21, hl2, hw1, hw2, hwr, hi9, hlt, hlnA, hbA, hbAr, hleA, hgeA, hset, hsm, z1, z2, hln, hidx, hidn, hgn, hlen, hgl, hleL, hbL, cn, cnr, hk9, hklt, hwk, hwn, hws, hno, hcy, hley, hgey, hbz, cc, hlc, hc0, hc1, honec, hsmc, hn9, hnlt, hu1, hs9, hslt, hLn]; constructor <;> rfl) ?_
  refine WK.nil ?_
  refine DK.ret ?_
  refine And.intro (Or.inr rfl) ?_
  refine ⟨_, by simp [absAnswer, absResults, absResult, Tryd.f4]; rfl, ?_⟩
  exact ⟨(hk0.trans hkM).ext, by simp, by simp⟩
end Go.Den
set_option linter.unusedVariables false
set_option maxRecDepth 100000
namespace Go.Den
open Go Go.Proofs
theorem rowV_idx {α : Type} [Cel α] : ∀ (l : List α) (i : Nat) (v : Value), (rowV l)[i]? = some v → ∃ (j : Nat) (hj : j < l.length) (r : Nat), r < Cel.k α ∧ i = j * Cel.k α + r ∧ (Cel.f l[j])[r]? = some v
  | [], i, v, h => by simp at h
  | a :: l, i, v, h => by
    rw [rowV_cons] at h
    by_cases hi : i < Cel.k α
    · rw [List.getElem?_append_left (by rw [Cel.len]; exact hi)] at h
      exact ⟨0, by simp, i, hi, by simp, h⟩
    · rw [List.getElem?_append_right (by rw [Cel.len]; omega), Cel.len] at h
      obtain ⟨j, hj, r, h1, h2, h3⟩ := rowV_idx l _ v h
      exact ⟨j + 1, by simpa using hj, r, h1, by rw [Nat.succ_mul]; omega, by simpa using h3⟩
def ladCells : List Value := [.int .i64 1, .int .i64 3, .int .i64 7]
def phi1 (sl : Option (Nat × Nat)) : Ren := fun n => if n = 0 then some ⟨0, 0, 3, true⟩ else if n = 1 then sl.map (fun q => ⟨q.1, q.2, 0, true⟩) else none
def mem1 (row : List Value) : Mem := [.cells true ladCells, .cells true row]
theorem mrel1 {W : World} {sl : Option (Nat × Nat)} {row : List Value} (hl : ∀ (i : Nat) (v : Value), ladCells[i]? = some v → W.cell? ⟨0, i, none⟩ = some v)
    (hr : ∀ b o, sl = some (b, o) → b < W.heap.size ∧ ∀ (i : Nat) (v : Value), row[i]? = some v → W.cell? ⟨b, o + i, none⟩ = some v ∧ flat v = true) : SRel Tryd.prog [0] (phi1 sl) (mem1 row) W := by
  have h0 := hl 0 _ rfl
  refine ⟨⟨fun n l hn => ?_, fun n l k hn hk => ?_, fun n m l l' k k' hn hm hk hk' hw _ _ => ?_⟩, fun g hg => ?_⟩
  · unfold phi1 at hn
    split at hn
    · rename_i e; subst e; cases hn
      exact ⟨by simp [mem1], World.block_lt_of_cell? W _ h0⟩
    · split at hn
      · rename_i e; subst e
        cases sl with
        | none => cases hn
        | some q =>
          cases hn
          exact ⟨by simp [mem1], (hr q.1 q.2 rfl).1⟩
      · cases hn
  · unfold phi1 at hn
    split at hn
    · rename_i e; subst e; cases hn; cases hk
      refine ⟨rfl, fun i v hv => ⟨v, by simpa using hl i v hv, .flat ?_⟩, fun h => by cases h⟩
      match i, hv with
      | 0, hv => cases hv; rfl
      | 1, hv => cases hv; rfl
      | 2, hv => cases hv; rfl
      | n + 3, hv => simp [ladCells] at hv
    · split at hn
      · rename_i e; subst e
        cases sl with
        | none => cases hn
        | some q =>
          cases hn; cases hk
          exact ⟨rfl, fun i v hv => ⟨v, ((hr q.1 q.2 rfl).2 i v hv).1, .flat ((hr q.1 q.2 rfl).2 i v hv).2⟩, fun h => by cases h⟩
      · cases hn
  · have : k.wr = false := by
      unfold mem1 at hk
      match n, hk with
      | 0, hk => cases hk; rfl
      | 1, hk => cases hk; rfl
      | n + 2, hk => simp at hk
    rw [this] at hw; cases hw
  · have e : g = 0 := by simpa using hg
    subst e
    exact ⟨_, rfl, rfl, rfl⟩
theorem lad1 (row : List Value) : Lad (mem1 row) := ⟨true, rfl⟩
end Go.Den
set_option linter.unusedVariables false
set_option maxRecDepth 100000
namespace Go.Den
open Go Go.Proofs Go.Deep Go.Joins Go.ChangeShapes Go.WideShapes Go.ChangeAt Go.RowKit
theorem acells4 : Tryd.prog.cellsOf 51 = 4 := by kernel_rfl
def ActsIn (W : World) (v : Value) (acts : List At4) : Prop := (∀ a ∈ acts, a.ok) ∧
  ((v = .slice none 0 0 ∧ acts = []) ∨ ∃ b o cap, v = .slice (some ⟨b, o, none⟩) acts.length cap ∧ acts.length ≤ cap ∧ b < W.heap.size ∧ ∀ (i : Nat) (u : Value), (rowV acts)[i]? = some u → W.cell? ⟨b, o + i, none⟩ = some u ∧ flat u = true)
theorem acts_in {H : Type} {enc : TypeId × Value → H} {W : World} {base : Nat} {ao : Option Addr} {len cap : Nat} {d : DataW H} {p : List MemPlace} (hw : Value.okWide Tryd.prog W .any base 23 (.slice ao len cap))
    (h : DataW.Trod enc Tryd.prog W 0 (fun _ => true) true 23 (.slice ao len cap) d p) : ∃ acts, ActsIn W (.slice ao len cap) acts := by
  obtain ⟨fuel, hf⟩ := h
  rcases open_slice Tryd.underlying23 hf with ⟨hcs, _⟩ | ⟨a, len', cap', m, n, D, Pl, hcs, hb, hl, hm, hmm, hx, hel⟩
  · simp [Value.cells] at hcs
    obtain ⟨rfl, rfl, rfl⟩ := hcs
    exact ⟨[], fun a ha => by simp at ha, .inl ⟨rfl, rfl⟩⟩
  · simp [Value.cells] at hcs
    obtain ⟨rfl, rfl, rfl⟩ := hcs
    simp only [if_true] at hmm
    have hhas : W.has Tryd.prog .any base a 51 cap := by
      simp only [Value.okWide, Tryd.underlying23, Cell.okWide, Cell.ok] at hw
      exact hw.2.2
    obtain ⟨_, hspot, row, cells, hsh, _⟩ := hhas
    obtain ⟨b, off, spot⟩ := a
    simp only at hspot
    subst hspot
    have hbl : b < W.heap.size := by
      unfold World.shape? at hsh
      cases hq : W.heap[b]? with
      | none => rw [hq] at hsh; cases hsh
      | some _ => exact (Array.getElem?_eq_some_iff.1 hq).1
    have each : ∀ i, i < len → ∃ x : At4, x.ok ∧ W.cell? ⟨b, off + i * 4, none⟩ = some (.int .u8 x.k) ∧ W.cell? ⟨b, off + i * 4 + 1, none⟩ = some (.int .u8 x.a) ∧ W.cell? ⟨b, off + i * 4 + 2, none⟩ = some (.int .u8 x.b) ∧ W.cell? ⟨b, off + i * 4 + 3, none⟩ = some (.int .u8 x.c) := by
      intro i hi
      obtain ⟨cs', h1, h2⟩ := hel i (by omega)
      rw [acells4] at h1
      obtain ⟨_, hlen, hcell⟩ := World.cells?_some h1
      obtain ⟨xs, k, hk, hxy, _, hxl, hfl⟩ := DataW.trod_struct Tryd.underlying51 h2
      have g0 := hfl 0 _ rfl
      have g1 := hfl 1 _ rfl
      have g2 := hfl 2 _ rfl
      have g3 := hfl 3 _ rfl
      have c1 : Tryd.prog.cellsOf 5 = 1 := by kernel_rfl
      match cs', hlen with
      | [v0, v1, v2, v3], _ =>
        simp [c1] at g0 g1 g2 g3
        have e0 := hcell 0 (by omega)
        have e1 := hcell 1 (by omega)
        have e2 := hcell 2 (by omega)
        have e3 := hcell 3 (by omega)
        obtain ⟨y0, hy0⟩ : ∃ y, xs[0]? = some y := ⟨_, List.getElem?_eq_getElem (by rw [hxl]; simp)⟩
        rw [hy0] at g0
        obtain ⟨a0, q0, _, w0⟩ := DataW.trod_int Tryd.underlying5 g0
        obtain ⟨y1, hy1⟩ : ∃ y, xs[1]? = some y := ⟨_, List.getElem?_eq_getElem (by rw [hxl]; simp)⟩
        rw [hy1] at g1
        obtain ⟨a1, q1, _, w1⟩ := DataW.trod_int Tryd.underlying5 g1
        obtain ⟨y2, hy2⟩ : ∃ y, xs[2]? = some y := ⟨_, List.getElem?_eq_getElem (by rw [hxl]; simp)⟩
        rw [hy2] at g2
        obtain ⟨a2, q2, _, w2⟩ := DataW.trod_int Tryd.underlying5 g2
        obtain ⟨y3, hy3⟩ : ∃ y, xs[3]? = some y := ⟨_, List.getElem?_eq_getElem (by rw [hxl]; simp)⟩
        rw [hy3] at g3
        obtain ⟨a3, q3, _, w3⟩ := DataW.trod_int Tryd.underlying5 g3
        simp only [List.cons.injEq, and_true] at q0 q1 q2 q3
        subst q0 q1 q2 q3
        have ad : ∀ x y, ((⟨b, off, none⟩ : Addr).add x).add y = ⟨b, off + x + y, none⟩ := fun x y => by rw [Go.Deep.add_add]; unfold Addr.add; split <;> simp_all <;> omega
        rw [ad] at e0 e1 e2 e3
        try simp only [acells4] at e0 e1 e2 e3
        have r0 := bounds_u8 w0
        have r1 := bounds_u8 w1
        have r2 := bounds_u8 w2
        have r3 := bounds_u8 w3
        exact ⟨⟨a0, a1, a2, a3⟩, ⟨by dsimp only; omega, by dsimp only; omega, by dsimp only; omega, by dsimp only; omega⟩, e0, e1, e2, e3⟩
    haveI : Inhabited At4 := ⟨⟨0, 0, 0, 0⟩⟩
    obtain ⟨act, hact⟩ := choose_lt each
    refine ⟨(List.range len).map act, fun x hx => ?_, .inr ⟨b, off, cap, by simp, by simpa using hl, hbl, fun i u hu => ?_⟩⟩
    · simp at hx
      obtain ⟨j, hj, rfl⟩ := hx
      exact (hact j hj).1
    · obtain ⟨j, hj, r, hr, rfl, hc⟩ := rowV_idx _ _ _ hu
      simp at hj
      have hk : Cel.k At4 = 4 := rfl
      rw [hk] at hr ⊢
      obtain ⟨_, h0, h1, h2, h3⟩ := hact j hj
      simp only [List.getElem_map, List.getElem_range] at hc
      have hr4 : r = 0 ∨ r = 1 ∨ r = 2 ∨ r = 3 := by omega
      rcases hr4 with rfl | rfl | rfl | rfl
      · cases hc; exact ⟨by simpa [Nat.add_assoc] using h0, rfl⟩
      · cases hc; exact ⟨by simpa [Nat.add_assoc] using h1, rfl⟩
      · cases hc; exact ⟨by simpa [Nat.add_assoc] using h2, rfl⟩
      · cases hc; exact ⟨by simpa [Nat.add_assoc] using h3, rfl⟩
def placeOf : Value → Option (Nat × Nat)
  | .slice (some a) _ _ => some (a.block, a.off)
  | _ => none
def inAs (k : Nat) : Value → Value
  | .slice (some _) n _ => .slice (some ⟨1, 0, none⟩) n k
  | v => v
theorem acts_rel {W : World} {v : Value} {acts : List At4} (hl : ∀ (i : Nat) (v : Value), ladCells[i]? = some v → W.cell? ⟨0, i, none⟩ = some v) (h : ActsIn W v acts) :
    SRel Tryd.prog [0] (phi1 (placeOf v)) (mem1 (rowV acts)) W ∧ VRel (phi1 (placeOf v)) (inAs 4 v) v ∧ RowAt (mem1 (rowV acts)) (inAs 4 v) acts := by
  rcases h.2 with ⟨rfl, rfl⟩ | ⟨b, o, cap, rfl, h1, h2, h3⟩
  · exact ⟨mrel1 hl (fun b o e => by cases e), .flat rfl, RowAt.nil _⟩
  · refine ⟨mrel1 hl (fun b' o' e => by cases e; exact ⟨h2, h3⟩), ?_, RowAt.all (b := 1) (ro := true) rfl⟩
    exact VRel.slice (a := ⟨1, 0, none⟩) (l := ⟨b, o, 0, true⟩) rfl rfl h1 (.inl rfl) (.inl rfl) (fun e => by cases e)
end Go.Den
set_option linter.unusedVariables false
set_option maxRecDepth 100000
namespace Go.Den
open Go Go.Proofs Go.RowKit
def TB (W : World) : Prop := ∀ (i : Nat) (v : Value), ladCells[i]? = some v → W.cell? ⟨0, i, none⟩ = some v
theorem tb_of {W : World} (hT : Lib.TabIs Tryd.prog W "paybook/cycle.ladder" .i64 [1, 3, 7]) : TB W := by
  intro i v hv
  have hi : i < 3 := (List.getElem?_eq_some_iff.1 hv).1
  have hc := hT.cell (g := 0) (by kernel_rfl) i hi
  rw [hc]
  match i, hv with
  | 0, hv => cases hv; rfl
  | 1, hv => cases hv; rfl
  | 2, hv => cases hv; rfl
  | n + 3, hv => simp [ladCells] at hv
end Go.Den
set_option linter.unusedVariables false
set_option maxRecDepth 100000
namespace Go.Den
open Go Go.Proofs Go.RowKit
theorem basksCalls (a0 : Int) (ao : Option Addr) (len cap : Nat) (act : List At4) (W : World) (w0 : (Lit.int .u16 a0).wf = true) (w1 : ActsIn W (.slice ao len cap) act) (hT : TB W) :
    Calls Tryd.prog 4 #[.int .u16 a0, .slice ao len cap] W fun e W' => e = .returned (.bool true) ∧ RowKit.Below W.heap.size W W' := by
  have b0 := bounds_u16 w0
  obtain ⟨hS, hV, hR⟩ := acts_rel hT w1
  refine FSem.law (x := .bool true) (FSem.mono (basks_law a0 (by omega) (by omega) act w1.1 (lad1 _) hR) fun v H' h => h.1) rfl hS ?_ ?_
  · refine ⟨rfl, fun i v u hv hu => ?_⟩
    match i, hv, hu with
    | 0, hv, hu => cases hv; cases hu; exact .flat rfl
    | 1, hv, hu => cases hv; cases hu; exact hV
    | n + 2, hv, hu => simp at hv
  · intro n k hk
    match n, hk with
    | 0, hk => cases hk; rfl
    | 1, hk => cases hk; rfl
    | n + 2, hk => simp [mem1] at hk
end Go.Den
