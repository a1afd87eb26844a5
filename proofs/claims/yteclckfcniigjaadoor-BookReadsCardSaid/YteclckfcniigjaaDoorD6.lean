/- A part of the proof. -/
import Derived.KernelRfl
import Derived.Deep.Slices
import Derived.WideShapes
import Derived.RowKit
import Derived.OpenShut
import Derived.Lib.SmallJoins
import Derived.ChangeOld
import Derived.ProofKit
import Derived.LaidMore
import Derived.Laws.LoneSync
import Derived.DeepKeys4
import Derived.Lib.LaidTab
import Derived.Test.YteclckfcniigjaaDoorD5
set_option linter.all false
namespace Go.Den
open Go Go.Proofs
set_option maxRecDepth 100000
set_option maxHeartbeats 1000000
set_option linter.all false
attribute [local simp] evOps evOp absOp absBox absLoad absStore absField absIndexAddr absCells absBinOp absBin absInt absShift absUn absPick absNil absExtract absPlaces Instr.fill absBuiltin absMinMax plainV plainT allA flat cells_agg cells_int cells_bool cells_str cells_ptr cells_sl cells_map one_int one_bool one_str one_ptr one_sl one_map Act.eval Act.put Region.wanted yielded absCall TypeDesc.isRow
attribute [local simp high] bk_t bk_p bk_take bk_row BkL_len sp_bk sp_t sp_p
attribute [local simp] sp_nil sp_0 sp_s List.length_set
theorem step_s (k : Nat) (b : Bk) (o : Od) {sp : Value} {l : List As} {H : Mem} (hB : BkAt H sp l b) (hL : Lad H) (hk : BOk k b) (hk3 : k ≤ 300000000) (hu : UnOk b.pls) : FSem Tryd.prog [0] 16 #[bkv b.today sp l, o.v] H fun v H' => BkRes H sp (stepB b o) v H' := by
  refine FSem.ofK Tryd.func16 rfl ?_
  refine DK.from (b' := ⟨#[bkv b.today sp l, o.v, undef, undef, undef, undef, undef, undef, undef, undef, undef, undef, undef, undef, undef, undef, undef, undef, undef, undef, undef, undef, undef, undef, undef, undef, undef, undef, undef, undef, undef, undef, undef, undef, undef, undef, undef, undef, undef, undef, undef, undef, undef, undef, undef, undef, undef, undef, undef, undef, undef, undef, undef, undef, undef, undef, undef, undef, undef, undef, undef, undef, undef, undef, undef, undef, undef, undef, undef, undef, undef, undef, undef, undef, undef, undef, undef, undef, undef, undef, undef, undef, undef, undef, undef, undef, undef, undef, undef, undef, undef, undef, undef, undef, undef, undef, undef, undef], []⟩) (by kernel_rfl) ?_
  have D := trivial
  have E := trivial
  have C := trivial
  have F := trivial
  have r := trivial
  have m := trivial
  have u := trivial
  have w := trivial
  have y := trivial
  have z := trivial
  have A := trivial
  have t := trivial
  have j := trivial
  have B := trivial
  have f := trivial
  have e := trivial
  have g := trivial
  have d := trivial
  obtain ⟨hsp0, hsp1⟩ := hB.pls.cells
  have hone := bk_ones hsp1
  have hl32 := hB.len
  refine DK.seq ?_
  refine DK.region (is := [0, 1, 2, 3]) (by kernel_rfl) rfl ?_
  refine WK.run [0, 1, 2, 3] (by simp [D, E, C, F, r, m, hone, hsp0, hsp1, hl32, u, w, y, z, A, t, j, B, f, e, g, d]; constructor <;> rfl) ?_
  refine WK.nil ?_
  refine DK.abs (fun M0 => AtM H [BkL b.today sp l, o.l, BkL 0 (.slice none 0 0) zL] M0) (AtM.start H [] [_, _, _]) ?_
  try clear hM
  rintro M0 hM
  replace D := hM.own 0 (by simp)
  replace E := hM.own 1 (by simp)
  replace C := hM.own 2 (by simp)
  simp only [List.getElem_cons_zero, List.getElem_cons_succ, Nat.add_zero] at D E C
  replace F := hM.q3
  refine DK.seq ?_
  refine DK.seq ?_
  refine DK.region (is := [0, 1, 2]) (by kernel_rfl) rfl ?_
  refine WK.run [0] (by simp [D, E, C, F, r, m, hone, hsp0, hsp1, hl32, u, w, y, z, A, t, j, B, f, e, g, d]; constructor <;> rfl) ?_
  refine WK.call rfl (by simp [D, E, C, F, r, m, hone, hsp0, hsp1, hl32, u, w, y, z, A, t, j, B, f, e, g, d]) (by simp [Tryd.func15, Tryd.f15, D, E, C, F, r, m, hone, hsp0, hsp1, hl32, u, w, y, z, A, t, j, B, f, e, g, d]; constructor <;> rfl) ?_
  refine FSem.mono (oright_g o _) ?_
  rintro _ Hq ⟨rfl, hq⟩
  subst hq
  refine WK.run [2] (by simp [D, E, C, F, r, m, hone, hsp0, hsp1, hl32, u, w, y, z, A, t, j, B, f, e, g, d]; constructor <;> rfl) ?_
  refine WK.nil ?_
  refine DK.seq ?_
  refine DK.region (is := [0, 1]) (by kernel_rfl) rfl ?_
  refine WK.run [0, 1] (by simp [D, E, C, F, r, m, hone, hsp0, hsp1, hl32, u, w, y, z, A, t, j, B, f, e, g, d]; constructor <;> rfl) ?_
  refine WK.nil ?_
  refine DK.test rfl rfl (fun h => ?_) (fun h => ?_)
  · try simp only [h]
    replace h := Tr.out h
    refine DK.seq ?_
    refine DK.region (is := [0, 1, 2, 3]) (by kernel_rfl) rfl ?_
    refine WK.run [0, 1, 2, 3] (by simp [D, E, C, F, r, m, hone, hsp0, hsp1, hl32, u, w, y, z, A, t, j, B, f, e, g, d]; constructor <;> rfl) ?_
    refine WK.nil ?_
    refine DK.abs (fun MZ => AtM H [BkL b.today sp l, o.l, BkL 0 (.slice none 0 0) zL] MZ) (hM.set (i := 2) (by simp) _) ?_
    try clear hM
    rintro MZ hM
    replace D := hM.own 0 (by simp)
    replace E := hM.own 1 (by simp)
    replace C := hM.own 2 (by simp)
    simp only [List.getElem_cons_zero, List.getElem_cons_succ, Nat.add_zero] at D E C
    replace F := hM.q3
    have hres : stepB b o = (zeroB, rightO o) := if_pos ‹_›
    have hBk := BkAt.zero MZ
    have hsb : ∀ c, blkOf (.slice none 0 0) = some c → blkOf sp = some c ∨ H.length ≤ c := fun c hc => (by cases hc)
    refine DK.ret ?_
    refine And.intro (Or.inr rfl) ?_
    refine ⟨_, by simp [absAnswer, absResults, absResult, Tryd.f16, D, E, C, F, r, m, hsp0, hsp1, hl32, hone, f, e, g]; rfl, ?_⟩
    exact ⟨_, _, by rw [hres]; rfl, by rw [hres]; exact hBk, hM.keep, hsb⟩
  try simp only [h]
  replace h := Fa.out h
  have hr0 : rightO o = 0 := h
  obtain ⟨hsu1, hsu2⟩ := rightO_su hr0
  refine DK.skip ?_
  refine DK.seq ?_
  refine DK.region (is := [0]) (by kernel_rfl) rfl ?_
  refine WK.run [0] (by simp [D, E, C, F, r, m, hone, hsp0, hsp1, hl32, u, w, y, z, A, t, j, B, f, e, g, d]; constructor <;> rfl) ?_
  refine WK.nil ?_
  refine DK.seq ?_
  refine DK.seq ?_
  refine DK.region (is := [0, 1]) (by kernel_rfl) rfl ?_
  refine WK.run [0, 1] (by simp [D, E, C, F, r, m, hone, hsp0, hsp1, hl32, u, w, y, z, A, t, j, B, f, e, g, d]; constructor <;> rfl) ?_
  refine WK.nil ?_
  refine DK.block ?_
  refine DK.seq ?_
  refine DK.region (is := [0, 1]) (by kernel_rfl) rfl ?_
  refine WK.run [0, 1] (by simp [D, E, C, F, r, m, hone, hsp0, hsp1, hl32, u, w, y, z, A, t, j, B, f, e, g, d]; constructor <;> rfl) ?_
  refine WK.nil ?_
  refine DK.test rfl rfl (fun h => ?_) (fun h => ?_)
  · try simp only [h]
    replace h := Tr.out h
    refine DK.region (is := [0, 1, 2, 3, 4, 5, 6, 7, 8, 9, 10, 11]) (by kernel_rfl) rfl ?_
    refine WK.run [0, 1, 2, 3] (by simp [D, E, C, F, r, m, hone, hsp0, hsp1, hl32, u, w, y, z, A, t, j, B, f, e, g, d]; constructor <;> rfl) ?_
    refine WK.call rfl (by simp [D, E, C, F, r, m, hone, hsp0, hsp1, hl32, u, w, y, z, A, t, j, B, f, e, g, d]) (by simp [Tryd.func30, Tryd.f30, D, E, C, F, r, m, hone, hsp0, hsp1, hl32, u, w, y, z, A, t, j, B, f, e, g, d]; constructor <;> rfl) ?_
    refine FSem.mono (addp_g b.pls o.p (hB.pls.keep hM.keep)) ?_
    rintro _ M3 ⟨pl2, k2, e2, s2, rfl, hap, hA, hR2, hW2, hN2⟩
    have hM0 := hM
    have hF3 : blkOf s2 ≠ some H.length := hN2.ne (hM.lt (i := 0) (by simp))
    replace hM := hM.on (Keep.of hA)
    replace D := hM.own 0 (by simp)
    replace E := hM.own 1 (by simp)
    replace C := hM.own 2 (by simp)
    simp only [List.getElem_cons_zero, List.getElem_cons_succ, Nat.add_zero] at D E C
    replace F := hM.q3
    replace r := hR2.cells.1
    replace m := hR2.cells.2
    refine WK.run [5, 6, 7, 8, 9, 10, 11] (by simp [D, E, C, F, r, m, hone, hsp0, hsp1, hl32, u, w, y, z, A, t, j, B, f, e, g, d]; constructor <;> rfl) ?_
    refine WK.nil ?_
    refine DK.abs (fun M4 => AtM H [BkL b.today s2 l, _, _] M4 ∧ RowAt M4 s2 pl2) ⟨hM.set (i := 0) (by simp) _, hR2.set hF3 _⟩ ?_
    try clear hM
    try clear hR2
    rintro M4 ⟨hM, hR2⟩
    replace D := hM.own 0 (by simp)
    replace E := hM.own 1 (by simp)
    replace C := hM.own 2 (by simp)
    simp only [List.getElem_cons_zero, List.getElem_cons_succ, Nat.add_zero] at D E C
    replace F := hM.q3
    have hBk := hB.plsSet hM.keep hR2
    have hres1 : stepB b o = if e2 ≠ 0 then (zeroB, e2) else ({ b with pls := pl2 }, 0) := by
      unfold stepB
      rw [if_neg (by simp [hr0]), if_pos ‹o.kd = 1›, hap]
    have hsb : ∀ c, blkOf s2 = some c → blkOf sp = some c ∨ H.length ≤ c := fun c hc => .inr (Nat.le_trans hM0.keep.1 (hN2 c hc))
    have hfr2 : blkOf s2 ≠ some (H.length + 2) := hN2.ne (hM0.lt (i := 2) (by simp))
    replace hone := bk_ones m
    replace hsp1 := m
    replace hsp0 := r
    refine DK.seq ?_
    refine DK.seq ?_
    refine DK.region (is := [0, 1]) (by kernel_rfl) rfl ?_
    refine WK.run [0, 1] (by simp [D, E, C, F, r, m, hone, hsp0, hsp1, hl32, u, w, y, z, A, t, j, B, f, e, g, d]; constructor <;> rfl) ?_
    refine WK.nil ?_
    refine DK.test rfl rfl (fun h => ?_) (fun h => ?_)
    · try simp only [h]
      replace h := Tr.out h
      refine DK.seq ?_
      refine DK.region (is := [0, 1, 2, 3]) (by kernel_rfl) rfl ?_
      refine WK.run [0, 1, 2, 3] (by simp [D, E, C, F, r, m, hone, hsp0, hsp1, hl32, u, w, y, z, A, t, j, B, f, e, g, d]; constructor <;> rfl) ?_
      refine WK.nil ?_
      refine DK.abs (fun MZ => AtM H [_, _, BkL 0 (.slice none 0 0) zL] MZ) (hM.set (i := 2) (by simp) _) ?_
      try clear hM
      rintro MZ hM
      replace D := hM.own 0 (by simp)
      replace E := hM.own 1 (by simp)
      replace C := hM.own 2 (by simp)
      simp only [List.getElem_cons_zero, List.getElem_cons_succ, Nat.add_zero] at D E C
      replace F := hM.q3
      have hres : stepB b o = (zeroB, e2) := hres1.trans (if_pos ‹_›)
      replace hBk := BkAt.zero MZ
      replace hsb : ∀ c, blkOf (.slice none 0 0) = some c → blkOf sp = some c ∨ H.length ≤ c := fun c hc => (by cases hc)
      refine DK.ret ?_
      refine And.intro (Or.inr rfl) ?_
      refine ⟨_, by simp [absAnswer, absResults, absResult, Tryd.f16, D, E, C, F, r, m, hsp0, hsp1, hl32, hone, f, e, g]; rfl, ?_⟩
      exact ⟨_, _, by rw [hres]; rfl, by rw [hres]; exact hBk, hM.keep, hsb⟩
    try simp only [h]
    replace h := Fa.out h
    refine DK.skip ?_
    refine DK.seq ?_
    refine DK.region (is := [0, 1, 2]) (by kernel_rfl) rfl ?_
    refine WK.run [0, 1, 2] (by simp [D, E, C, F, r, m, hone, hsp0, hsp1, hl32, u, w, y, z, A, t, j, B, f, e, g, d]; constructor <;> rfl) ?_
    refine WK.nil ?_
    have hres := hres1.trans (if_neg (by simpa using ‹e2 = 0›))
    refine DK.abs (fun MF => AtM H [_, _, _] MF ∧ BkAt MF _ _ _) ⟨hM.set (i := 2) (by simp) _, hBk.set (hBk.fre C (by rw [BkL_len (by simp)]; decide) hfr2) _⟩ ?_
    try clear hM
    try clear hBk
    rintro MF ⟨hM, hBk⟩
    replace D := hM.own 0 (by simp)
    replace E := hM.own 1 (by simp)
    replace C := hM.own 2 (by simp)
    simp only [List.getElem_cons_zero, List.getElem_cons_succ, Nat.add_zero] at D E C
    replace F := hM.q3
    refine DK.ret ?_
    refine And.intro (Or.inr rfl) ?_
    refine ⟨_, by simp [absAnswer, absResults, absResult, Tryd.f16, D, E, C, F, r, m, hsp0, hsp1, hl32, hone, f, e, g]; rfl, ?_⟩
    exact ⟨_, _, by rw [hres]; rfl, by rw [hres]; exact hBk, hM.keep, hsb⟩
  try simp only [h]
  replace h := Fa.out h
  refine DK.seq ?_
  refine DK.region (is := [0, 1]) (by kernel_rfl) rfl ?_
  refine WK.run [0, 1] (by simp [D, E, C, F, r, m, hone, hsp0, hsp1, hl32, u, w, y, z, A, t, j, B, f, e, g, d]; constructor <;> rfl) ?_
  refine WK.nil ?_
  refine DK.test rfl rfl (fun h => ?_) (fun h => ?_)
  · try simp only [h]
    replace h := Tr.out h
    have hsu3 := hsu2 (by omega) (by omega) (by omega)
    obtain ⟨x, hxa, hxl, hxo, htk1, hst1, hpt1⟩ := hB.sub (i := o.su) (by omega) (by omega)
    replace u : 0 ≤ o.su := by omega
    replace w : o.su < 32 := by omega
    replace y : 2 + o.su.toNat * 13 ≤ 417 := by omega
    replace z : 2 + o.su.toNat * 13 ≤ 405 := by omega
    replace A := hst1 b.today
    replace t := htk1 b.today
    simp only [Ac.l] at t
    replace r := hxo.cells.1
    replace m := hxo.cells.2
    have hxn : x.a.op.length ≤ 1000000000000 := by rw [hxa]; have := (hk.subs _ (sub_mem hk.len (i := o.su) (by omega) (by omega))).2; omega
    refine DK.draw rfl (POk.of (ord := [0, 1, 2, 3, 8, 4, 5, 6, 7, 9, 10, 11]) (by kernel_rfl)) ?_
    refine XK.run [0, 1, 2, 3, 8] (by kernel_rfl) (by simp [D, E, C, F, r, m, hone, hsp0, hsp1, hl32, u, w, y, z, A, t, j, B, f, e, g, d]; constructor <;> rfl) ?_
    refine XK.call rfl (by simp [D, E, C, F, r, m, hone, hsp0, hsp1, hl32, u, w, y, z, A, t, j, B, f, e, g, d]) rfl (by simp [Tryd.func31, Tryd.f31, D, E, C, F, r, m, hone, hsp0, hsp1, hl32, u, w, y, z, A, t, j, B, f, e, g, d]; constructor <;> rfl) ?_
    refine FSem.mono (bopen_g k b o (hB.keep hM.keep) hk hu (by omega) (by omega)) ?_
    rintro _ M3 ⟨x2, e2, s2, rfl, hres0, hA, hO2, hF2⟩
    have hF3 : blkOf s2 ≠ some H.length := hF2.ne (hM.lt (i := 0) (by simp))
    replace hM := hM.on (Keep.of hA)
    replace D := hM.own 0 (by simp)
    replace E := hM.own 1 (by simp)
    replace C := hM.own 2 (by simp)
    simp only [List.getElem_cons_zero, List.getElem_cons_succ, Nat.add_zero] at D E C
    replace F := hM.q3
    replace r := hO2.cells.1
    replace m := hO2.cells.2
    have hspl1 := hB.sp (i := o.su) (by omega) (by omega) b.today ⟨x2, s2, m⟩
    replace j := hspl1
    simp only [Ac.l] at j
    refine And.intro (lag_list (l := [1]) (by kernel_rfl) (lag_cons (lag_one rfl (by simp [D, E, C, F, r, m, hone, hsp0, hsp1, hl32, u, w, y, z, A, t, j, B, f, e, g, d]; constructor <;> rfl) rfl (by simp [D, E, C, F, r, m, hone, hsp0, hsp1, hl32, u, w, y, z, A, t, j, B, f, e, g, d]) (by simp [sameL, sameV_agg, sameV_int, sameV_bool, sameV_str, sameV_ptr, sameV_sl, sameV_map, same1_int, same1_bool, same1_str, same1_ptr, same1_sl, same1_map, D, E, C, F, r, m, hone, hsp0, hsp1, hl32, u, w, y, z, A, t, j, B, f, e, g, d]) rfl) rfl)) ?_
    refine XK.run [5, 6, 7, 9] (by kernel_rfl) (by simp [D, E, C, F, r, m, hone, hsp0, hsp1, hl32, u, w, y, z, A, t, j, B, f, e, g, d]; constructor <;> rfl) ?_
    refine XK.one rfl (by simp [D, E, C, F, r, m, hone, hsp0, hsp1, hl32, u, w, y, z, A, t, j, B, f, e, g, d]) rfl (by simp [D, E, C, F, r, m, hone, hsp0, hsp1, hl32, u, w, y, z, A, t, j, B, f, e, g, d]; constructor <;> rfl) (lag_list (l := []) (by kernel_rfl) rfl) ?_
    refine XK.one rfl (by simp [D, E, C, F, r, m, hone, hsp0, hsp1, hl32, u, w, y, z, A, t, j, B, f, e, g, d]) rfl (by simp [D, E, C, F, r, m, hone, hsp0, hsp1, hl32, u, w, y, z, A, t, j, B, f, e, g, d]; constructor <;> rfl) (lag_list (l := []) (by kernel_rfl) rfl) ?_
    refine XK.nil ?_
    refine DK.abs (fun M4 => AtM H [BkL b.today sp (l.set o.su.toNat ⟨x2, s2, m⟩), _, _] M4 ∧ OpenAt M4 s2 x2.op) ⟨hM.set (i := 0) (by simp) _, hO2.set hF3 _⟩ ?_
    try clear hM
    try clear hO2
    rintro M4 ⟨hM, hO2⟩
    replace D := hM.own 0 (by simp)
    replace E := hM.own 1 (by simp)
    replace C := hM.own 2 (by simp)
    simp only [List.getElem_cons_zero, List.getElem_cons_succ, Nat.add_zero] at D E C
    replace F := hM.q3
    have hBk := (hB.keep hM.keep).put (i := o.su) (by omega) (by omega) (x := ⟨x2, s2, m⟩) hO2
    have hres1 : stepB b o = if e2 ≠ 0 then (zeroB, e2) else ({ b with subs := b.subs.set o.su.toNat x2 }, 0) := by
      unfold stepB
      rw [if_neg (by simp [hr0]), if_neg ‹¬o.kd = 1›, if_pos ‹o.kd = 2›, hres0, put_ok]
    replace hl32 : (l.set o.su.toNat ⟨x2, s2, m⟩).length = 32 := by rw [List.length_set]; exact hl32
    have hsb : ∀ c, blkOf sp = some c → blkOf sp = some c ∨ H.length ≤ c := fun c hc => .inl hc
    have hfr2 : blkOf sp ≠ some (H.length + 2) := fun hc => by have := hB.pls.lt hc; omega
    refine DK.seq ?_
    refine DK.seq ?_
    refine DK.region (is := [0, 1]) (by kernel_rfl) rfl ?_
    refine WK.run [0, 1] (by simp [D, E, C, F, r, m, hone, hsp0, hsp1, hl32, u, w, y, z, A, t, j, B, f, e, g, d]; constructor <;> rfl) ?_
    refine WK.nil ?_
    refine DK.test rfl rfl (fun h => ?_) (fun h => ?_)
    · try simp only [h]
      replace h := Tr.out h
      refine DK.seq ?_
      refine DK.region (is := [0, 1, 2, 3]) (by kernel_rfl) rfl ?_
      refine WK.run [0, 1, 2, 3] (by simp [D, E, C, F, r, m, hone, hsp0, hsp1, hl32, u, w, y, z, A, t, j, B, f, e, g, d]; constructor <;> rfl) ?_
      refine WK.nil ?_
      refine DK.abs (fun MZ => AtM H [_, _, BkL 0 (.slice none 0 0) zL] MZ) (hM.set (i := 2) (by simp) _) ?_
      try clear hM
      rintro MZ hM
      replace D := hM.own 0 (by simp)
      replace E := hM.own 1 (by simp)
      replace C := hM.own 2 (by simp)
      simp only [List.getElem_cons_zero, List.getElem_cons_succ, Nat.add_zero] at D E C
      replace F := hM.q3
      have hres : stepB b o = (zeroB, e2) := hres1.trans (if_pos ‹_›)
      replace hBk := BkAt.zero MZ
      replace hsb : ∀ c, blkOf (.slice none 0 0) = some c → blkOf sp = some c ∨ H.length ≤ c := fun c hc => (by cases hc)
      refine DK.ret ?_
      refine And.intro (Or.inr rfl) ?_
      refine ⟨_, by simp [absAnswer, absResults, absResult, Tryd.f16, D, E, C, F, r, m, hsp0, hsp1, hl32, hone, f, e, g]; rfl, ?_⟩
      exact ⟨_, _, by rw [hres]; rfl, by rw [hres]; exact hBk, hM.keep, hsb⟩
    try simp only [h]
    replace h := Fa.out h
    refine DK.skip ?_
    refine DK.seq ?_
    refine DK.region (is := [0, 1, 2]) (by kernel_rfl) rfl ?_
    refine WK.run [0, 1, 2] (by simp [D, E, C, F, r, m, hone, hsp0, hsp1, hl32, u, w, y, z, A, t, j, B, f, e, g, d]; constructor <;> rfl) ?_
    refine WK.nil ?_
    have hres := hres1.trans (if_neg (by simpa using ‹e2 = 0›))
    refine DK.abs (fun MF => AtM H [_, _, _] MF ∧ BkAt MF _ _ _) ⟨hM.set (i := 2) (by simp) _, hBk.set (hBk.fre C (by rw [BkL_len (by simp)]; decide) hfr2) _⟩ ?_
    try clear hM
    try clear hBk
    rintro MF ⟨hM, hBk⟩
    replace D := hM.own 0 (by simp)
    replace E := hM.own 1 (by simp)
    replace C := hM.own 2 (by simp)
    simp only [List.getElem_cons_zero, List.getElem_cons_succ, Nat.add_zero] at D E C
    replace F := hM.q3
    refine DK.ret ?_
    refine And.intro (Or.inr rfl) ?_
    refine ⟨_, by simp [absAnswer, absResults, absResult, Tryd.f16, D, E, C, F, r, m, hsp0, hsp1, hl32, hone, f, e, g]; rfl, ?_⟩
    exact ⟨_, _, by rw [hres]; rfl, by rw [hres]; exact hBk, hM.keep, hsb⟩
  try simp only [h]
  replace h := Fa.out h
  refine DK.seq ?_
  refine DK.region (is := [0, 1]) (by kernel_rfl) rfl ?_
  refine WK.run [0, 1] (by simp [D, E, C, F, r, m, hone, hsp0, hsp1, hl32, u, w, y, z, A, t, j, B, f, e, g, d]; constructor <;> rfl) ?_
  refine WK.nil ?_
  refine DK.test rfl rfl (fun h => ?_) (fun h => ?_)
  · try simp only [h]
    replace h := Tr.out h
    refine DK.seq ?_
    refine DK.region (is := [0, 1, 2, 3, 4, 5, 6, 7]) (by kernel_rfl) rfl ?_
    refine WK.run [0, 1, 2] (by simp [D, E, C, F, r, m, hone, hsp0, hsp1, hl32, u, w, y, z, A, t, j, B, f, e, g, d]; constructor <;> rfl) ?_
    refine WK.call rfl (by simp [D, E, C, F, r, m, hone, hsp0, hsp1, hl32, u, w, y, z, A, t, j, B, f, e, g, d]) (by simp [Tryd.func32, Tryd.f32, D, E, C, F, r, m, hone, hsp0, hsp1, hl32, u, w, y, z, A, t, j, B, f, e, g, d]; constructor <;> rfl) ?_
    refine FSem.mono (bpass_g k b o.n (hB.keep hM.keep) hk hk3 hu) ?_
    rintro _ M3 ⟨b2, e2, sp2, l2, rfl, hres0, hBk, hl2, e, g, hkk, hsb0⟩
    have hsb : ∀ c, blkOf sp2 = some c → blkOf sp = some c ∨ H.length ≤ c := fun c hc => (hsb0 c hc).imp id (fun q => Nat.le_trans hM.keep.1 q)
    have hfr2 : blkOf sp2 ≠ some (H.length + 2) := fun hc => (hsb0 _ hc).elim (fun q => by have := hB.pls.lt q; omega) (fun q => by have := hM.lt (i := 2) (by simp); omega)
    replace hM := hM.on hkk
    replace D := hM.own 0 (by simp)
    replace E := hM.own 1 (by simp)
    replace C := hM.own 2 (by simp)
    simp only [List.getElem_cons_zero, List.getElem_cons_succ, Nat.add_zero] at D E C
    replace F := hM.q3
    replace f := hl2
    have d := bk_ones e
    refine WK.run [4, 5, 6, 7] (by simp [D, E, C, F, r, m, hone, hsp0, hsp1, hl32, u, w, y, z, A, t, j, B, f, e, g, d]; constructor <;> rfl) ?_
    refine WK.nil ?_
    refine DK.abs (fun M5 => AtM H [_, _, BkL b2.today sp2 l2] M5 ∧ BkAt M5 sp2 l2 b2) ⟨hM.set (i := 2) (by simp) _, hBk.set (hBk.fre C (by rw [BkL_len (by simp)]; decide) hfr2) _⟩ ?_
    try clear hM
    try clear hBk
    rintro M5 ⟨hM, hBk⟩
    replace D := hM.own 0 (by simp)
    replace E := hM.own 1 (by simp)
    replace C := hM.own 2 (by simp)
    simp only [List.getElem_cons_zero, List.getElem_cons_succ, Nat.add_zero] at D E C
    replace F := hM.q3
    have hres : stepB b o = (b2, e2) := by
      unfold stepB
      rw [if_neg (by simp [hr0]), if_neg ‹¬o.kd = 1›, if_neg ‹¬o.kd = 2›, if_pos ‹o.kd = 9›, hres0]
    refine DK.ret ?_
    refine And.intro (Or.inr rfl) ?_
    refine ⟨_, by simp [absAnswer, absResults, absResult, Tryd.f16, D, E, C, F, r, m, hsp0, hsp1, hl32, hone, f, e, g]; rfl, ?_⟩
    exact ⟨_, _, by rw [hres]; rfl, by rw [hres]; exact hBk, hM.keep, hsb⟩
  try simp only [h]
  replace h := Fa.out h
  refine DK.seq ?_
  refine DK.region (is := [0, 1]) (by kernel_rfl) rfl ?_
  refine WK.run [0, 1] (by simp [D, E, C, F, r, m, hone, hsp0, hsp1, hl32, u, w, y, z, A, t, j, B, f, e, g, d]; constructor <;> rfl) ?_
  refine WK.nil ?_
  refine DK.test rfl rfl (fun h => ?_) (fun h => ?_)
  · try simp only [h]
    replace h := Tr.out h
    have hsu3 := hsu1 h
    obtain ⟨x, hxa, hxl, hxo, htk1, hst1, hpt1⟩ := hB.sub (i := o.a.su) (by omega) (by omega)
    replace u : 0 ≤ o.a.su := by omega
    replace w : o.a.su < 32 := by omega
    replace y : 2 + o.a.su.toNat * 13 ≤ 417 := by omega
    replace z : 2 + o.a.su.toNat * 13 ≤ 405 := by omega
    replace A := hst1 b.today
    replace t := htk1 b.today
    simp only [Ac.l] at t
    replace r := hxo.cells.1
    replace m := hxo.cells.2
    have hxn : x.a.op.length ≤ 1000000000000 := by rw [hxa]; have := (hk.subs _ (sub_mem hk.len (i := o.a.su) (by omega) (by omega))).2; omega
    refine DK.draw rfl (POk.of (ord := [0, 1, 2, 3, 4, 5, 6, 7, 8, 9, 10, 11, 12, 13, 14, 15, 20, 16, 17, 18, 19, 21, 22, 23]) (by kernel_rfl)) ?_
    refine XK.run [0, 1, 2, 3, 4, 5, 6, 7] (by kernel_rfl) (by simp [D, E, C, F, r, m, hone, hsp0, hsp1, hl32, u, w, y, z, A, t, j, B, f, e, g, d]; constructor <;> rfl) ?_
    refine XK.run [8, 9, 10, 11, 12, 13, 14, 15] (by kernel_rfl) (by simp [D, E, C, F, r, m, hone, hsp0, hsp1, hl32, u, w, y, z, A, t, j, B, f, e, g, d]; constructor <;> rfl) ?_
    refine XK.run [20] (by kernel_rfl) (by simp [D, E, C, F, r, m, hone, hsp0, hsp1, hl32, u, w, y, z, A, t, j, B, f, e, g, d]; constructor <;> rfl) ?_
    refine XK.call rfl (by simp [D, E, C, F, r, m, hone, hsp0, hsp1, hl32, u, w, y, z, A, t, j, B, f, e, g, d]) rfl (by simp [Tryd.func33, Tryd.f33, D, E, C, F, r, m, hone, hsp0, hsp1, hl32, u, w, y, z, A, t, j, B, f, e, g, d]; constructor <;> rfl) ?_
    refine FSem.mono (ahear_g o.a.su x.a o.a b.today (hL.keep hM.keep) (hxo.keep hM.keep) hxn) ?_
    rintro _ M3 ⟨x2, e2, s2, rfl, hres0, hA, hO2, hF2⟩
    have hF3 : blkOf s2 ≠ some H.length := hF2.ne (hM.lt (i := 0) (by simp))
    replace hM := hM.on (Keep.of hA)
    replace D := hM.own 0 (by simp)
    replace E := hM.own 1 (by simp)
    replace C := hM.own 2 (by simp)
    simp only [List.getElem_cons_zero, List.getElem_cons_succ, Nat.add_zero] at D E C
    replace F := hM.q3
    replace r := hO2.cells.1
    replace m := hO2.cells.2
    have hspl1 := hB.sp (i := o.a.su) (by omega) (by omega) b.today ⟨x2, s2, m⟩
    replace j := hspl1
    simp only [Ac.l] at j
    refine And.intro (lag_list (l := [2]) (by kernel_rfl) (lag_cons (lag_one rfl (by simp [D, E, C, F, r, m, hone, hsp0, hsp1, hl32, u, w, y, z, A, t, j, B, f, e, g, d]; constructor <;> rfl) rfl (by simp [D, E, C, F, r, m, hone, hsp0, hsp1, hl32, u, w, y, z, A, t, j, B, f, e, g, d]) (by simp [sameL, sameV_agg, sameV_int, sameV_bool, sameV_str, sameV_ptr, sameV_sl, sameV_map, same1_int, same1_bool, same1_str, same1_ptr, same1_sl, same1_map, D, E, C, F, r, m, hone, hsp0, hsp1, hl32, u, w, y, z, A, t, j, B, f, e, g, d]) rfl) rfl)) ?_
    refine XK.run [17, 18, 19, 21] (by kernel_rfl) (by simp [D, E, C, F, r, m, hone, hsp0, hsp1, hl32, u, w, y, z, A, t, j, B, f, e, g, d]; constructor <;> rfl) ?_
    refine XK.one rfl (by simp [D, E, C, F, r, m, hone, hsp0, hsp1, hl32, u, w, y, z, A, t, j, B, f, e, g, d]) rfl (by simp [D, E, C, F, r, m, hone, hsp0, hsp1, hl32, u, w, y, z, A, t, j, B, f, e, g, d]; constructor <;> rfl) (lag_list (l := []) (by kernel_rfl) rfl) ?_
    refine XK.one rfl (by simp [D, E, C, F, r, m, hone, hsp0, hsp1, hl32, u, w, y, z, A, t, j, B, f, e, g, d]) rfl (by simp [D, E, C, F, r, m, hone, hsp0, hsp1, hl32, u, w, y, z, A, t, j, B, f, e, g, d]; constructor <;> rfl) (lag_list (l := []) (by kernel_rfl) rfl) ?_
    refine XK.nil ?_
    refine DK.abs (fun M4 => AtM H [BkL b.today sp (l.set o.a.su.toNat ⟨x2, s2, m⟩), _, _] M4 ∧ OpenAt M4 s2 x2.op) ⟨hM.set (i := 0) (by simp) _, hO2.set hF3 _⟩ ?_
    try clear hM
    try clear hO2
    rintro M4 ⟨hM, hO2⟩
    replace D := hM.own 0 (by simp)
    replace E := hM.own 1 (by simp)
    replace C := hM.own 2 (by simp)
    simp only [List.getElem_cons_zero, List.getElem_cons_succ, Nat.add_zero] at D E C
    replace F := hM.q3
    have hBk := (hB.keep hM.keep).put (i := o.a.su) (by omega) (by omega) (x := ⟨x2, s2, m⟩) hO2
    have hres1 : stepB b o = if e2 ≠ 0 then (zeroB, e2) else ({ b with subs := b.subs.set o.a.su.toNat x2 }, 0) := by
      unfold stepB
      rw [if_neg (by simp [hr0]), if_neg ‹¬o.kd = 1›, if_neg ‹¬o.kd = 2›, if_neg ‹¬o.kd = 9›, if_pos ‹o.kd = 10›, ← hxa, hres0, put_ok]
    replace hl32 : (l.set o.a.su.toNat ⟨x2, s2, m⟩).length = 32 := by rw [List.length_set]; exact hl32
    have hsb : ∀ c, blkOf sp = some c → blkOf sp = some c ∨ H.length ≤ c := fun c hc => .inl hc
    have hfr2 : blkOf sp ≠ some (H.length + 2) := fun hc => by have := hB.pls.lt hc; omega
    refine DK.seq ?_
    refine DK.seq ?_
    refine DK.region (is := [0, 1]) (by kernel_rfl) rfl ?_
    refine WK.run [0, 1] (by simp [D, E, C, F, r, m, hone, hsp0, hsp1, hl32, u, w, y, z, A, t, j, B, f, e, g, d]; constructor <;> rfl) ?_
    refine WK.nil ?_
    refine DK.test rfl rfl (fun h => ?_) (fun h => ?_)
    · try simp only [h]
      replace h := Tr.out h
      refine DK.seq ?_
      refine DK.region (is := [0, 1, 2, 3]) (by kernel_rfl) rfl ?_
      refine WK.run [0, 1, 2, 3] (by simp [D, E, C, F, r, m, hone, hsp0, hsp1, hl32, u, w, y, z, A, t, j, B, f, e, g, d]; constructor <;> rfl) ?_
      refine WK.nil ?_
      refine DK.abs (fun MZ => AtM H [_, _, BkL 0 (.slice none 0 0) zL] MZ) (hM.set (i := 2) (by simp) _) ?_
      try clear hM
      rintro MZ hM
      replace D := hM.own 0 (by simp)
      replace E := hM.own 1 (by simp)
      replace C := hM.own 2 (by simp)
      simp only [List.getElem_cons_zero, List.getElem_cons_succ, Nat.add_zero] at D E C
      replace F := hM.q3
      have hres : stepB b o = (zeroB, e2) := hres1.trans (if_pos ‹_›)
      replace hBk := BkAt.zero MZ
      replace hsb : ∀ c, blkOf (.slice none 0 0) = some c → blkOf sp = some c ∨ H.length ≤ c := fun c hc => (by cases hc)
      refine DK.ret ?_
      refine And.intro (Or.inr rfl) ?_
      refine ⟨_, by simp [absAnswer, absResults, absResult, Tryd.f16, D, E, C, F, r, m, hsp0, hsp1, hl32, hone, f, e, g]; rfl, ?_⟩
      exact ⟨_, _, by rw [hres]; rfl, by rw [hres]; exact hBk, hM.keep, hsb⟩
    try simp only [h]
    replace h := Fa.out h
    refine DK.skip ?_
    refine DK.seq ?_
    refine DK.region (is := [0, 1, 2]) (by kernel_rfl) rfl ?_
    refine WK.run [0, 1, 2] (by simp [D, E, C, F, r, m, hone, hsp0, hsp1, hl32, u, w, y, z, A, t, j, B, f, e, g, d]; constructor <;> rfl) ?_
    refine WK.nil ?_
    have hres := hres1.trans (if_neg (by simpa using ‹e2 = 0›))
    refine DK.abs (fun MF => AtM H [_, _, _] MF ∧ BkAt MF _ _ _) ⟨hM.set (i := 2) (by simp) _, hBk.set (hBk.fre C (by rw [BkL_len (by simp)]; decide) hfr2) _⟩ ?_
    try clear hM
    try clear hBk
    rintro MF ⟨hM, hBk⟩
    replace D := hM.own 0 (by simp)
    replace E := hM.own 1 (by simp)
    replace C := hM.own 2 (by simp)
    simp only [List.getElem_cons_zero, List.getElem_cons_succ, Nat.add_zero] at D E C
    replace F := hM.q3
    refine DK.ret ?_
    refine And.intro (Or.inr rfl) ?_
    refine ⟨_, by simp [absAnswer, absResults, absResult, Tryd.f16, D, E, C, F, r, m, hsp0, hsp1, hl32, hone, f, e, g]; rfl, ?_⟩
    exact ⟨_, _, by rw [hres]; rfl, by rw [hres]; exact hBk, hM.keep, hsb⟩
  try simp only [h]
  replace h := Fa.out h
  have hsu3 := hsu2 (by omega) (by omega) (by omega)
  obtain ⟨x, hxa, hxl, hxo, htk1, hst1, hpt1⟩ := hB.sub (i := o.su) (by omega) (by omega)
  replace u : 0 ≤ o.su := by omega
  replace w : o.su < 32 := by omega
  replace y : 2 + o.su.toNat * 13 ≤ 417 := by omega
  replace z : 2 + o.su.toNat * 13 ≤ 405 := by omega
  replace A := hst1 b.today
  replace t := htk1 b.today
  simp only [Ac.l] at t
  replace r := hxo.cells.1
  replace m := hxo.cells.2
  have hxn : x.a.op.length ≤ 1000000000000 := by rw [hxa]; have := (hk.subs _ (sub_mem hk.len (i := o.su) (by omega) (by omega))).2; omega
  refine DK.seq ?_
  refine DK.region (is := [0, 1, 2, 3, 4, 5, 6]) (by kernel_rfl) rfl ?_
  refine WK.run [0, 1, 2, 3, 4, 5, 6] (by simp [D, E, C, F, r, m, hone, hsp0, hsp1, hl32, u, w, y, z, A, t, j, B, f, e, g, d]; constructor <;> rfl) ?_
  refine WK.nil ?_
  refine DK.abs (fun M1 => AtM H [BkL b.today sp l, o.l, BkL 0 (.slice none 0 0) zL] M1 ∧ M1[M0.length]? = some (.cells false (x.a.l x.s))) ⟨hM.on (Keep.app _ _), by simp⟩ ?_
  try clear hM
  try clear B
  rintro M1 ⟨hM, B⟩
  replace D := hM.own 0 (by simp)
  replace E := hM.own 1 (by simp)
  replace C := hM.own 2 (by simp)
  simp only [List.getElem_cons_zero, List.getElem_cons_succ, Nat.add_zero] at D E C
  replace F := hM.q3
  refine DK.seq ?_
  refine DK.seq ?_
  refine DK.region (is := [0, 1, 2]) (by kernel_rfl) rfl ?_
  refine WK.run [0, 1, 2] (by simp [D, E, C, F, r, m, hone, hsp0, hsp1, hl32, u, w, y, z, A, t, j, B, f, e, g, d]; constructor <;> rfl) ?_
  refine WK.nil ?_
  refine DK.test rfl rfl (fun h => ?_) (fun h => ?_)
  · try simp only [h]
    replace h := Tr.out h
    refine DK.seq ?_
    refine DK.region (is := [0, 1, 2]) (by kernel_rfl) rfl ?_
    refine WK.run [0, 1, 2] (by simp [D, E, C, F, r, m, hone, hsp0, hsp1, hl32, u, w, y, z, A, t, j, B, f, e, g, d]; constructor <;> rfl) ?_
    refine WK.nil ?_
    refine DK.abs (fun MZ => AtM H [BkL b.today sp l, o.l, BkL 0 (.slice none 0 0) zL] MZ) (hM.set (i := 2) (by simp) _) ?_
    try clear hM
    rintro MZ hM
    replace D := hM.own 0 (by simp)
    replace E := hM.own 1 (by simp)
    replace C := hM.own 2 (by simp)
    simp only [List.getElem_cons_zero, List.getElem_cons_succ, Nat.add_zero] at D E C
    replace F := hM.q3
    have hres : stepB b o = (zeroB, 2) := by
      unfold stepB
      rw [if_neg (by simp [hr0]), if_neg ‹¬o.kd = 1›, if_neg ‹¬o.kd = 2›, if_neg ‹¬o.kd = 9›, if_neg ‹¬o.kd = 10›, if_pos (by rw [← hxa]; assumption)]
    have hBk := BkAt.zero MZ
    have hsb : ∀ c, blkOf (.slice none 0 0) = some c → blkOf sp = some c ∨ H.length ≤ c := fun c hc => (by cases hc)
    refine DK.ret ?_
    refine And.intro (Or.inr rfl) ?_
    refine ⟨_, by simp [absAnswer, absResults, absResult, Tryd.f16, D, E, C, F, r, m, hsp0, hsp1, hl32, hone, f, e, g]; rfl, ?_⟩
    exact ⟨_, _, by rw [hres]; rfl, by rw [hres]; exact hBk, hM.keep, hsb⟩
  try simp only [h]
  replace h := Fa.out h
  refine DK.skip ?_
  refine DK.draw rfl (POk.of (ord := [0, 1, 2, 3, 4, 9, 5, 6, 7, 8, 10, 11, 12]) (by kernel_rfl)) ?_
  refine XK.run [0, 1, 2, 3, 4, 9] (by kernel_rfl) (by simp [D, E, C, F, r, m, hone, hsp0, hsp1, hl32, u, w, y, z, A, t, j, B, f, e, g, d]; constructor <;> rfl) ?_
  refine XK.call rfl (by simp [D, E, C, F, r, m, hone, hsp0, hsp1, hl32, u, w, y, z, A, t, j, B, f, e, g, d]) rfl (by simp [Tryd.func34, Tryd.f34, D, E, C, F, r, m, hone, hsp0, hsp1, hl32, u, w, y, z, A, t, j, B, f, e, g, d]; constructor <;> rfl) ?_
  refine FSem.mono (bturn_g k b x.a o (hB.keep hM.keep) hk hu (hxo.keep hM.keep) hxn) ?_
  rintro _ M3 ⟨x2, e2, s2, rfl, hres0, hA, hO2, hF2⟩
  have hF3 : blkOf s2 ≠ some H.length := hF2.ne (hM.lt (i := 0) (by simp))
  replace hM := hM.on (Keep.of hA)
  replace D := hM.own 0 (by simp)
  replace E := hM.own 1 (by simp)
  replace C := hM.own 2 (by simp)
  simp only [List.getElem_cons_zero, List.getElem_cons_succ, Nat.add_zero] at D E C
  replace F := hM.q3
  replace r := hO2.cells.1
  replace m := hO2.cells.2
  have hspl1 := hB.sp (i := o.su) (by omega) (by omega) b.today ⟨x2, s2, m⟩
  replace j := hspl1
  simp only [Ac.l] at j
  refine And.intro (lag_list (l := [1]) (by kernel_rfl) (lag_cons (lag_one rfl (by simp [D, E, C, F, r, m, hone, hsp0, hsp1, hl32, u, w, y, z, A, t, j, B, f, e, g, d]; constructor <;> rfl) rfl (by simp [D, E, C, F, r, m, hone, hsp0, hsp1, hl32, u, w, y, z, A, t, j, B, f, e, g, d]) (by simp [sameL, sameV_agg, sameV_int, sameV_bool, sameV_str, sameV_ptr, sameV_sl, sameV_map, same1_int, same1_bool, same1_str, same1_ptr, same1_sl, same1_map, D, E, C, F, r, m, hone, hsp0, hsp1, hl32, u, w, y, z, A, t, j, B, f, e, g, d]) rfl) rfl)) ?_
  refine XK.run [6, 7, 8, 10] (by kernel_rfl) (by simp [D, E, C, F, r, m, hone, hsp0, hsp1, hl32, u, w, y, z, A, t, j, B, f, e, g, d]; constructor <;> rfl) ?_
  refine XK.one rfl (by simp [D, E, C, F, r, m, hone, hsp0, hsp1, hl32, u, w, y, z, A, t, j, B, f, e, g, d]) rfl (by simp [D, E, C, F, r, m, hone, hsp0, hsp1, hl32, u, w, y, z, A, t, j, B, f, e, g, d]; constructor <;> rfl) (lag_list (l := []) (by kernel_rfl) rfl) ?_
  refine XK.one rfl (by simp [D, E, C, F, r, m, hone, hsp0, hsp1, hl32, u, w, y, z, A, t, j, B, f, e, g, d]) rfl (by simp [D, E, C, F, r, m, hone, hsp0, hsp1, hl32, u, w, y, z, A, t, j, B, f, e, g, d]; constructor <;> rfl) (lag_list (l := []) (by kernel_rfl) rfl) ?_
  refine XK.nil ?_
  refine DK.abs (fun M4 => AtM H [BkL b.today sp (l.set o.su.toNat ⟨x2, s2, m⟩), _, _] M4 ∧ OpenAt M4 s2 x2.op) ⟨hM.set (i := 0) (by simp) _, hO2.set hF3 _⟩ ?_
  try clear hM
  try clear hO2
  rintro M4 ⟨hM, hO2⟩
  replace D := hM.own 0 (by simp)
  replace E := hM.own 1 (by simp)
  replace C := hM.own 2 (by simp)
  simp only [List.getElem_cons_zero, List.getElem_cons_succ, Nat.add_zero] at D E C
  replace F := hM.q3
  have hBk := (hB.keep hM.keep).put (i := o.su) (by omega) (by omega) (x := ⟨x2, s2, m⟩) hO2
  have hres1 : stepB b o = if e2 ≠ 0 then (zeroB, e2) else ({ b with subs := b.subs.set o.su.toNat x2 }, 0) := by
    unfold stepB
    rw [if_neg (by simp [hr0]), if_neg ‹¬o.kd = 1›, if_neg ‹¬o.kd = 2›, if_neg ‹¬o.kd = 9›, if_neg ‹¬o.kd = 10›, if_neg (by rw [← hxa]; assumption), ← hxa, hres0, put_ok]
  replace hl32 : (l.set o.su.toNat ⟨x2, s2, m⟩).length = 32 := by rw [List.length_set]; exact hl32
  have hsb : ∀ c, blkOf sp = some c → blkOf sp = some c ∨ H.length ≤ c := fun c hc => .inl hc
  have hfr2 : blkOf sp ≠ some (H.length + 2) := fun hc => by have := hB.pls.lt hc; omega
  refine DK.seq ?_
  refine DK.seq ?_
  refine DK.region (is := [0, 1]) (by kernel_rfl) rfl ?_
  refine WK.run [0, 1] (by simp [D, E, C, F, r, m, hone, hsp0, hsp1, hl32, u, w, y, z, A, t, j, B, f, e, g, d]; constructor <;> rfl) ?_
  refine WK.nil ?_
  refine DK.test rfl rfl (fun h => ?_) (fun h => ?_)
  · try simp only [h]
    replace h := Tr.out h
    refine DK.seq ?_
    refine DK.region (is := [0, 1, 2, 3]) (by kernel_rfl) rfl ?_
    refine WK.run [0, 1, 2, 3] (by simp [D, E, C, F, r, m, hone, hsp0, hsp1, hl32, u, w, y, z, A, t, j, B, f, e, g, d]; constructor <;> rfl) ?_
    refine WK.nil ?_
    refine DK.abs (fun MZ => AtM H [_, _, BkL 0 (.slice none 0 0) zL] MZ) (hM.set (i := 2) (by simp) _) ?_
    try clear hM
    rintro MZ hM
    replace D := hM.own 0 (by simp)
    replace E := hM.own 1 (by simp)
    replace C := hM.own 2 (by simp)
    simp only [List.getElem_cons_zero, List.getElem_cons_succ, Nat.add_zero] at D E C
    replace F := hM.q3
    have hres : stepB b o = (zeroB, e2) := hres1.trans (if_pos ‹_›)
    replace hBk := BkAt.zero MZ
    replace hsb : ∀ c, blkOf (.slice none 0 0) = some c → blkOf sp = some c ∨ H.length ≤ c := fun c hc => (by cases hc)
    refine DK.ret ?_
    refine And.intro (Or.inr rfl) ?_
    refine ⟨_, by simp [absAnswer, absResults, absResult, Tryd.f16, D, E, C, F, r, m, hsp0, hsp1, hl32, hone, f, e, g]; rfl, ?_⟩
    exact ⟨_, _, by rw [hres]; rfl, by rw [hres]; exact hBk, hM.keep, hsb⟩
  try simp only [h]
  replace h := Fa.out h
  refine DK.skip ?_
  refine DK.seq ?_
  refine DK.region (is := [0, 1, 2]) (by kernel_rfl) rfl ?_
  refine WK.run [0, 1, 2] (by simp [D, E, C, F, r, m, hone, hsp0, hsp1, hl32, u, w, y, z, A, t, j, B, f, e, g, d]; constructor <;> rfl) ?_
  refine WK.nil ?_
  have hres := hres1.trans (if_neg (by simpa using ‹e2 = 0›))
  refine DK.abs (fun MF => AtM H [_, _, _] MF ∧ BkAt MF _ _ _) ⟨hM.set (i := 2) (by simp) _, hBk.set (hBk.fre C (by rw [BkL_len (by simp)]; decide) hfr2) _⟩ ?_
  try clear hM
  try clear hBk
  rintro MF ⟨hM, hBk⟩
  replace D := hM.own 0 (by simp)
  replace E := hM.own 1 (by simp)
  replace C := hM.own 2 (by simp)
  simp only [List.getElem_cons_zero, List.getElem_cons_succ, Nat.add_zero] at D E C
  replace F := hM.q3
  refine DK.ret ?_
  refine And.intro (Or.inr rfl) ?_
  refine ⟨_, by simp [absAnswer, absResults, absResult, Tryd.f16, D, E, C, F, r, m, hsp0, hsp1, hl32, hone, f, e, g]; rfl, ?_⟩
  exact ⟨_, _, by rw [hres]; rfl, by rw [hres]; exact hBk, hM.keep, hsb⟩
end Go.Den
set_option linter.unusedVariables false
set_option maxRecDepth 100000
namespace Go.Den
open Go Go.Proofs
structure At4 where
  (k a b c : Int)
def At4.ok (x : At4) : Prop := (0 ≤ x.k ∧ x.k < 256) ∧ (0 ≤ x.a ∧ x.a < 256) ∧ (0 ≤ x.b ∧ x.b < 256) ∧ (0 ≤ x.c ∧ x.c < 256)
@[simp] def At4.l (x : At4) : List Value := [.int .u8 x.k, .int .u8 x.a, .int .u8 x.b, .int .u8 x.c]
@[simp] def At4.v (x : At4) : Value := .agg #[.int .u8 x.k, .int .u8 x.a, .int .u8 x.b, .int .u8 x.c]
instance : Cel At4 := ⟨At4.l, 4, fun _ => rfl, fun _ => rfl, by decide⟩
def sel4 (i a b c d : Int) : Int := if i = 0 then a else if i = 1 then b else if i = 2 then c else d
def planR (n : Int) : Pl := ⟨sel4 (n % 4) 1000 0 2999 1, n / 4 % 4, 1 + n / 16 % 3, sel4 (n / 48 % 4) 0 0 10 3, decide (n % 3 = 1), decide (n % 7 = 3)⟩
def verR (c : Int) : Int := if c % 5 < 3 then 1 else if c % 5 = 3 then 2 else 3
def orderR (x : At4) (asks : List Nt) : Od :=
  if x.k % 14 = 0 then ⟨1, 0, 0, 0, planR x.b, zeroN⟩
  else if x.k % 14 = 1 ∨ x.k % 14 = 2 then ⟨2, x.a % 3, x.b % 3, 0, zeroP, zeroN⟩
  else if x.k % 14 = 3 then ⟨3, x.a % 3, x.b % 3, 0, zeroP, zeroN⟩
  else if x.k % 14 = 4 then ⟨4 + x.b % 5, x.a % 3, 0, 0, zeroP, zeroN⟩
  else if x.k % 14 = 5 then ⟨5, x.a % 3, 0, 0, zeroP, zeroN⟩
  else if x.k % 14 = 6 ∨ x.k % 14 = 7 ∨ x.k % 14 = 8 then ⟨9, 0, 0, 1 + x.c % 40, zeroP, zeroN⟩
  else if asks.length = 0 then ⟨9, 0, 0, 1 + x.c % 9, zeroP, zeroN⟩
  else
    let n := asks.getD (x.b % asks.length).toNat zeroN
    ⟨10, 0, 0, 0, zeroP, ⟨n.kd, n.su, n.cy, if x.a = 255 then IntKind.i64.wrap (n.tr + 1) else n.tr, n.am, verR x.c⟩⟩
theorem wrap_u8 (n : Int) (h0 : 0 ≤ n) (h1 : n < 256) : IntKind.u8.wrap n = n := by
  simp only [IntKind.wrap, IntKind.bits, IntKind.signed]; simp; omega
theorem tm (a b : Int) (h : 0 ≤ a) : a.tmod b = a % b := Int.tmod_eq_emod_of_nonneg h
theorem td (a b : Int) (h : 0 ≤ a) : a.tdiv b = a / b := Int.tdiv_eq_ediv_of_nonneg h
theorem sel_take (a b c d : Int) {i : Int} (h0 : 0 ≤ i) (h1 : i < 4) : List.take 1 (List.drop i.toNat [Value.int .i64 a, .int .i64 b, .int .i64 c, .int .i64 d]) = [.int .i64 (sel4 i a b c d)] := by
  have : i = 0 ∨ i = 1 ∨ i = 2 ∨ i = 3 := by omega
  rcases this with rfl | rfl | rfl | rfl <;> rfl
theorem ver_take {c : Int} : List.take 1 (List.drop (c % 5).toNat [Value.int .u8 1, .int .u8 1, .int .u8 1, .int .u8 2, .int .u8 3]) = [.int .u8 (verR c)] := by
  have : c % 5 = 0 ∨ c % 5 = 1 ∨ c % 5 = 2 ∨ c % 5 = 3 ∨ c % 5 = 4 := by omega
  unfold verR
  rcases this with h | h | h | h | h <;> rw [h] <;> rfl
theorem bsA (H : Mem) : absBuildSlice Tryd.prog H 103 4 [(0, .int .i64 1000), (1, .int .i64 0), (2, .int .i64 2999), (3, .int .i64 1)] = some (.slice (some ⟨H.length, 0, none⟩) 4 1, H ++ [.cells false [.int .i64 1000, .int .i64 0, .int .i64 2999, .int .i64 1]]) := by kernel_rfl
theorem bsB (H : Mem) : absBuildSlice Tryd.prog H 104 4 [(0, .int .i64 0), (1, .int .i64 0), (2, .int .i64 10), (3, .int .i64 3)] = some (.slice (some ⟨H.length, 0, none⟩) 4 1, H ++ [.cells false [.int .i64 0, .int .i64 0, .int .i64 10, .int .i64 3]]) := by kernel_rfl
theorem bsC (H : Mem) : absBuildSlice Tryd.prog H 72 5 [(0, .int .u8 1), (1, .int .u8 1), (2, .int .u8 1), (3, .int .u8 2), (4, .int .u8 3)] = some (.slice (some ⟨H.length, 0, none⟩) 5 1, H ++ [.cells false [.int .u8 1, .int .u8 1, .int .u8 1, .int .u8 2, .int .u8 3]]) := by kernel_rfl
attribute [simp] bsA bsB bsC
end Go.Den
set_option linter.unusedVariables false
set_option maxRecDepth 100000
namespace Go.Den
open Go Go.Proofs
def Sz (k : Nat) (a : Ac) : Prop := 0 ≤ a.ix ∧ a.op.length ≤ k
theorem Sz.zero (k : Nat) : Sz k zeroA := ⟨by decide, by simp [zeroA]⟩
theorem Sz.le {k m : Nat} {a : Ac} (h : Sz k a) (hm : k ≤ m) : Sz m a := ⟨h.1, Nat.le_trans h.2 hm⟩
theorem closeA_ix (a : Ac) (c : Cy) : (closeA a c).1.ix = a.ix := by unfold closeA; split <;> (try split) <;> (try split) <;> (try split) <;> rfl
theorem dayL_sz {p : Pl} {t : Int} {B : Nat} : ∀ (n : Nat) (a : Ac), Sz B a → Sz (B + n) (dayL p t n a).1
  | 0, a, h => h
  | n + 1, a, h => by
    unfold dayL
    split
    · exact h.le (by omega)
    · split
      · exact h.le (by omega)
      · rename_i h1 h2
        have hf := (nthF_ok (a := a.an) (u := p.un) (e := p.ev) (n := a.ix) (by have : ¬ ((dueA a p).2 ≠ 0) := fun q => h2 (.inl q); simpa [dueA] using this)).1.2.2
        dsimp only
        split
        · exact Sz.zero _
        · have e1 := beginA_ix { a with ix := IntKind.i64.wrap (a.ix + 1) } p (dueA a p).1 (p.la && (decide ((dueA { a with ix := IntKind.i64.wrap (a.ix + 1) } p).2 = 0) && decide ((dueA { a with ix := IntKind.i64.wrap (a.ix + 1) } p).1 ≤ t)))
          have e3 := beginA_op { a with ix := IntKind.i64.wrap (a.ix + 1) } p (dueA a p).1 (p.la && (decide ((dueA { a with ix := IntKind.i64.wrap (a.ix + 1) } p).2 = 0) && decide ((dueA { a with ix := IntKind.i64.wrap (a.ix + 1) } p).1 ≤ t)))
          refine Sz.le (k := B + 1 + n) (dayL_sz (B := B + 1) n _ ⟨?_, ?_⟩) (by omega)
          · rw [e1]; simp only; rw [wrap_in _ (by omega) (by omega)]; omega
          · have := h.2; simp only at e3; omega
theorem dayA_sz {a : Ac} {p : Pl} {t : Int} {k : Nat} (h : Sz k a) : Sz (k + 3652060) (dayA a p t).1 := by
  unfold dayA
  have := dayL_sz (p := p) (t := t) (dayN a) { a with op := a.op.map (fun c => wakeC c t) } (B := k) ⟨h.1, by simpa using h.2⟩
  exact this.le (by have := dayN_le h.1; omega)
theorem settleL_sz {k : Nat} : ∀ (l : List Cy) (a : Ac), 0 ≤ a.ix → a.op.length + l.length ≤ k → Sz k (settleL l a).1
  | [], a, h0, h1 => ⟨h0, by simpa [settleL] using h1⟩
  | c :: l, a, h0, h1 => by
    unfold settleL
    split
    · exact Sz.zero _
    · have := closeA_op a c
      exact settleL_sz l _ (by rw [closeA_ix]; exact h0) (by simp at h1; omega)
theorem settleA_sz {a : Ac} {k : Nat} (h : Sz k a) : Sz k (settleA a).1 := settleL_sz _ _ h.1 (by simpa using h.2)
theorem hearA_sz {su t : Int} {a : Ac} {n : Nt} {k : Nat} (h : Sz k a) : Sz k (hearA su a n t).1 := by
  unfold hearA
  split
  · exact Sz.zero _
  · dsimp only
    split
    · exact Sz.zero _
    · exact settleA_sz ⟨h.1, by simpa using h.2⟩
theorem turnA_sz {a : Ac} {f t : Int} {k : Nat} (h : Sz k a) : Sz k (turnA a f t).1 := by unfold turnA; split; exact Sz.zero _; exact h
theorem skipA_sz {a : Ac} {k : Nat} (h : Sz k a) : Sz k (skipA a).1 := by unfold skipA; split; exact Sz.zero _; exact h
theorem cancelA_sz {a : Ac} {k : Nat} (h : Sz k a) : Sz k (cancelA a).1 := by unfold cancelA; split; exact Sz.zero _; exact settleA_sz ⟨h.1, by simpa using h.2⟩
theorem cardA_sz {a : Ac} {k : Nat} (h : Sz k a) : Sz k (cardA a).1 := by unfold cardA; split; exact Sz.zero _; exact ⟨h.1, by simpa using h.2⟩
theorem changeA_sz {a : Ac} {f t : Pl} {n today : Int} {k : Nat} (h : Sz k a) : Sz k (changeA a f n t today).1 := by
  unfold changeA
  split
  · exact Sz.zero _
  · dsimp only
    split
    · split
      · exact Sz.zero _
      · split
        · exact Sz.zero _
        · exact ⟨by simp, h.2⟩
    · split
      · exact Sz.zero _
      · exact ⟨by simp, h.2⟩
theorem turnB_sz {b : Bk} {a : Ac} {o : Od} {k : Nat} (h : Sz k a) : Sz k (turnB b a o).1 := by
  unfold turnB
  split; exact turnA_sz h
  split; exact turnA_sz h
  split; exact skipA_sz h
  split; exact cancelA_sz h
  split; exact cardA_sz h
  split; exact Sz.zero _
  exact changeA_sz h
theorem openB_sz {b : Bk} {o : Od} {k : Nat} (hk : 3652060 ≤ k) : Sz k (openB b o).1 := by
  unfold openB
  dsimp only
  split; exact Sz.zero _
  split; exact Sz.zero _
  split; exact Sz.zero _
  exact (dayA_sz (k := 0) ⟨by simp [openAc], by simp [openAc]⟩).le (by omega)
theorem passL_sz {pls : List Pl} {t : Int} {k : Nat} : ∀ l : List Ac, (∀ a ∈ l, Sz k a) → (∀ a ∈ (passL pls t l).1, Sz (k + 3652060) a) ∧ ((passL pls t l).2 = 0 → (passL pls t l).1.length = l.length)
  | [], _ => by simp [passL]
  | a :: l, h => by
    have ih := passL_sz (pls := pls) (t := t) l (fun x hx => h x (by simp [hx]))
    have hr : Sz (k + 3652060) (if a.st = 0 then (a, (0 : Int)) else dayA a (getP pls a.pl).1 t).1 := by
      split
      · exact (h a (by simp)).le (by omega)
      · exact dayA_sz (h a (by simp))
    unfold passL
    dsimp only
    generalize (if a.st = 0 then (a, (0 : Int)) else dayA a (getP pls a.pl).1 t) = r at hr
    split
    · rename_i q0; exact ⟨fun x hx => by simp at hx, fun q => absurd q q0⟩
    · split
      · rename_i q0; exact ⟨fun x hx => by simp at hx, fun q => absurd q q0⟩
      · rename_i h1 h2
        refine ⟨fun x hx => ?_, fun _ => by simp [ih.2 (by simpa using h2)]⟩
        simp only [List.mem_cons] at hx
        rcases hx with rfl | hx
        · exact hr
        · exact ih.1 x hx
theorem put_sz {k m : Nat} {b : Bk} {i : Int} {r : Ac × Int} (h : BOk k b) (hm : k ≤ m) (hr : Sz m r.1) (hok : (b.put i r).2 = 0) : BOk m (b.put i r).1 := by
  unfold Bk.put at hok ⊢
  split
  · rename_i q; rw [if_pos q] at hok; exact absurd hok q
  · refine ⟨h.pls, fun a ha => ?_, by simp [h.len]⟩
    rcases List.mem_or_eq_of_mem_set ha with q | rfl
    · exact ⟨(h.subs a q).1, Nat.le_trans (h.subs a q).2 hm⟩
    · exact hr
theorem sub_sz {k : Nat} {b : Bk} (h : BOk k b) (i : Int) : Sz k (b.sub i) := by
  unfold Bk.sub
  rw [List.getD_eq_getElem?_getD]
  cases hc : b.subs[i.toNat]? with
  | none => exact Sz.zero _
  | some a => exact h.subs a (List.mem_of_getElem? hc)
theorem stepB_ok {k : Nat} {b : Bk} {o : Od} (h : BOk k b) (hok : (stepB b o).2 = 0) : BOk (k + 3652060) (stepB b o).1 := by
  unfold stepB at hok ⊢
  split
  · rename_i q; rw [if_pos q] at hok; exact absurd hok q
  · rename_i q0; rw [if_neg q0] at hok
    split
    · rename_i q; rw [if_pos q] at hok
      split
      · rename_i q2; rw [if_pos q2] at hok; exact absurd hok q2
      · rename_i q2
        refine ⟨fun p hp => ?_, fun a ha => ⟨(h.subs a ha).1, Nat.le_trans (h.subs a ha).2 (by omega)⟩, h.len⟩
        unfold addPl at q2 hp
        split at q2
        · rename_i q3; exact absurd q2 (by simpa using q3)
        · rename_i q3
          rw [if_neg q3] at hp
          split at q2
          · simp at q2
          · rename_i q4
            rw [if_neg q4] at hp
            simp only [List.mem_append, List.mem_singleton] at hp
            rcases hp with hp | rfl
            · exact h.pls p hp
            · simpa using q3
    · rename_i q; rw [if_neg q] at hok
      split
      · rename_i q2; rw [if_pos q2] at hok
        exact put_sz h (by omega) (openB_sz (by omega)) hok
      · rename_i q2; rw [if_neg q2] at hok
        split
        · rename_i q3; rw [if_pos q3] at hok
          unfold passB at hok ⊢
          split
          · rename_i q4; rw [if_pos q4] at hok; simp at hok
          · rename_i q4; rw [if_neg q4] at hok
            dsimp only at hok ⊢
            have hs := passL_sz (pls := b.pls) (t := IntKind.i64.wrap (b.today + o.n)) (k := k) b.subs (fun a ha => h.subs a ha)
            split
            · rename_i q5; rw [if_pos q5] at hok; exact absurd hok q5
            · rename_i q5
              exact ⟨h.pls, hs.1, by rw [hs.2 (by simpa using q5)]; exact h.len⟩
        · rename_i q3; rw [if_neg q3] at hok
          split
          · rename_i q4; rw [if_pos q4] at hok
            exact put_sz h (by omega) ((hearA_sz (sub_sz h _)).le (by omega)) hok
          · rename_i q4; rw [if_neg q4] at hok
            split
            · rename_i q5; rw [if_pos q5] at hok; simp at hok
            · rename_i q5; rw [if_neg q5] at hok
              exact put_sz h (by omega) ((turnB_sz (sub_sz h _)).le (by omega)) hok
theorem stepB_un {b : Bk} {o : Od} (h : UnOk b.pls) (ho : 0 ≤ o.p.un) : UnOk (stepB b o).1.pls := by
  have hz : UnOk zeroB.pls := fun p hp => by simp [zeroB] at hp
  have hput : ∀ (i : Int) (r : Ac × Int), UnOk (b.put i r).1.pls := fun i r => by unfold Bk.put; split; exact hz; exact h
  unfold stepB
  split; exact hz
  split
  · split; exact hz
    intro p hp
    unfold addPl at hp
    split at hp
    · simp at hp
    · split at hp
      · simp at hp
      · simp only [List.mem_append, List.mem_singleton] at hp
        rcases hp with hp | rfl
        · exact h p hp
        · exact ho
  split; exact hput _ _
  split
  · unfold passB; split; exact hz
    dsimp only; split; exact hz; exact h
  split; exact hput _ _
  split; exact hz
  exact hput _ _
noncomputable def actB (b : Bk) (x : At4) : Bk := if (stepB b (orderR x b.asks)).2 = 0 then (stepB b (orderR x b.asks)).1 else b
noncomputable def playB (l : List At4) (b : Bk) : Bk := l.foldl actB b
theorem orderR_un {x : At4} (hx : x.ok) (asks : List Nt) : 0 ≤ (orderR x asks).p.un := by
  obtain ⟨_, _, ⟨h1, h2⟩, _⟩ := hx
  have : 0 ≤ (planR x.b).un := by simp only [planR]; omega
  unfold orderR
  split; exact this
  split; simp [zeroP]
  split; simp [zeroP]
  split; simp [zeroP]
  split; simp [zeroP]
  split; simp [zeroP]
  split; simp [zeroP]
  simp [zeroP]
theorem actB_ok {k : Nat} {b : Bk} {x : At4} (hx : x.ok) (h : BOk k b) (hu : UnOk b.pls) : BOk (k + 3652060) (actB b x) ∧ UnOk (actB b x).pls := by
  unfold actB
  split
  · rename_i q; exact ⟨stepB_ok h q, stepB_un hu (orderR_un hx _)⟩
  · exact ⟨⟨h.pls, fun a ha => ⟨(h.subs a ha).1, Nat.le_trans (h.subs a ha).2 (by omega)⟩, h.len⟩, hu⟩
theorem newB_ok (t : Int) : BOk 0 (newB t) ∧ UnOk (newB t).pls := by
  refine ⟨⟨fun p hp => by simp [newB] at hp, fun a ha => ?_, by simp [newB]⟩, fun p hp => by simp [newB] at hp⟩
  rw [List.eq_of_mem_replicate ha]
  exact ⟨by decide, by simp [zeroA]⟩
end Go.Den
set_option linter.unusedVariables false
set_option maxRecDepth 100000
namespace Go.Den
open Go Go.Proofs
theorem put_pls (b : Bk) (i : Int) (r : Ac × Int) : (b.put i r).1.pls = [] ∨ (b.put i r).1.pls = b.pls := by
  unfold Bk.put; split
  · exact .inl rfl
  · exact .inr rfl
theorem stepB_p8 {b : Bk} {o : Od} (h : b.pls.length ≤ 8) : (stepB b o).1.pls.length ≤ 8 := by
  have hp : ∀ (i : Int) (r : Ac × Int), (b.put i r).1.pls.length ≤ 8 := fun i r => by rcases put_pls b i r with e | e <;> rw [e]; simp; exact h
  unfold stepB
  split
  · simp [zeroB]
  · split
    · split
      · simp [zeroB]
      · rename_i q
        unfold addPl at q ⊢
        split at q
        · rename_i q3; exact absurd q (by simpa using q3)
        · rename_i q3
          rw [if_neg q3]
          split at q
          · simp at q
          · rename_i q4; rw [if_neg q4]; simp; omega
    · split
      · exact hp _ _
      · split
        · unfold passB
          split
          · simp [zeroB]
          · dsimp only; split
            · simp [zeroB]
            · exact h
        · split
          · exact hp _ _
          · split
            · simp [zeroB]
            · exact hp _ _
structure PlayOk (n : Nat) (b : Bk) : Prop where
  ok : BOk (n * 3652060) b
  un : UnOk b.pls
  p8 : b.pls.length ≤ 8
theorem BOk.zero (k : Nat) : BOk k zeroB := ⟨fun p hp => by simp [zeroB] at hp, fun a ha => by rw [List.eq_of_mem_replicate (show a ∈ List.replicate 32 zeroA from ha)]; exact ⟨by decide, by simp [zeroA]⟩, by simp [zeroB]⟩
theorem BOk.le {k m : Nat} {b : Bk} (h : BOk k b) (hm : k ≤ m) : BOk m b := ⟨h.pls, fun a ha => ⟨(h.subs a ha).1, Nat.le_trans (h.subs a ha).2 hm⟩, h.len⟩
theorem PlayOk.act {n : Nat} {b : Bk} (h : PlayOk n b) {x : At4} (hx : x.ok) : PlayOk (n + 1) (actB b x) := by
  have h1 := actB_ok hx h.ok h.un
  refine ⟨by rw [Nat.succ_mul]; exact h1.1, h1.2, ?_⟩
  unfold actB
  split
  · exact stepB_p8 h.p8
  · exact h.p8
theorem PlayOk.new (t : Int) : PlayOk 0 (newB t) := ⟨by simpa using (newB_ok t).1, (newB_ok t).2, by simp [newB]⟩
theorem play_snoc {l : List At4} {i : Nat} (h : i < l.length) (b : Bk) : playB (l.take (i + 1)) b = actB (playB (l.take i) b) l[i] := by
  unfold playB; rw [List.take_succ_eq_append_getElem h, List.foldl_append]; rfl
theorem play_ok {l : List At4} (hl : ∀ a ∈ l, a.ok) (t : Int) : ∀ i, i ≤ l.length → PlayOk i (playB (l.take i) (newB t))
  | 0, _ => PlayOk.new t
  | i + 1, h => by rw [play_snoc (by omega)]; exact (play_ok hl t i (by omega)).act (hl _ (List.getElem_mem _))
theorem act_yes {b b2 : Bk} {x : At4} {o : Od} {e : Int} (ho : orderR x b.asks = o) (h : stepB b o = (b2, e)) (he : e = 0) : actB b x = b2 := by
  subst ho; unfold actB; rw [h]; simp [he]
theorem act_no {b b2 : Bk} {x : At4} {o : Od} {e : Int} (ho : orderR x b.asks = o) (h : stepB b o = (b2, e)) (he : e ≠ 0) : actB b x = b := by
  subst ho; unfold actB; rw [h]; simp [he]
def strB (l : List By) : ByteArray := bytesOf (l.map By.n)
theorem absU8_by : ∀ l : List By, absU8 (rowV l) = some (l.map By.n)
  | [] => rfl
  | b :: l => by rw [rowV_cons]; show absU8 (.int .u8 b.n :: rowV l) = _; simp [absU8, absU8_by l]
theorem conv_by {H : Mem} {s : Value} {l : List By} (h : RowAt H s l) (K : Mem) (hk : Keep H K) : absConv Tryd.prog K 72 9 s = some (.string (strB l), K) := by
  rcases h with ⟨rfl, rfl⟩ | ⟨b, o, ro, vs, rfl, h2, h3, h4⟩
  · unfold absConv; simp [Tryd.underlying72, Tryd.underlying5, Tryd.underlying9, strB, bytesOf]
  · have hk1 : Cel.k By = 1 := rfl
    rw [hk1, Nat.mul_one] at h3 h4
    have hb := (hk.2 b (List.getElem?_eq_some_iff.1 h2).1).trans h2
    have hc : absCells K b o l.length = some (rowV l) := by unfold absCells; rw [hb]; simp [h3, h4]
    unfold absConv; simp [Tryd.underlying72, Tryd.underlying5, Tryd.underlying9, hc, absU8_by, strB]
theorem lenAt {H : Mem} {s : Value} {l : List At4} (h : RowAt H s l) (K : Mem) : absLen Tryd.prog K 23 s = some (.int .i64 l.length) := h.len Tryd.underlying23 K
end Go.Den
set_option linter.unusedVariables false
set_option maxRecDepth 100000
namespace Go.Den
open Go Go.Proofs
def CI (D X m : Int) (c : Cy) : Prop := 0 ≤ c.no ∧ (0 ≤ c.due ∧ c.due ≤ D) ∧ (1 ≤ c.ph ∧ c.ph ≤ m) ∧ (0 ≤ c.am ∧ c.am ≤ X) ∧ (0 ≤ c.tr ∧ c.tr ≤ 4 ∧ (c.ph = 2 → c.tr ≤ 3)) ∧ (0 ≤ c.nx ∧ c.nx ≤ D + 7)
def usS (l : List Cy) : Nat := (l.map (fun c => c.us.natAbs)).sum
def nosP (l : List Cy) : Prop := (l.map Cy.no).Pairwise (· < ·)
structure SI (D : Int) (S : Nat) (X : Int) (a : Ac) (l : List Cy) : Prop where
  cy : ∀ c ∈ a.op, CI D X 6 c
  cl : ∀ c ∈ l, CI D X 10 c
  no : nosP (a.op ++ l)
  nc : ∀ c ∈ a.op ++ l, c.no < a.ct
  sm : 0 ≤ a.dn ∧ 0 ≤ a.up ∧ 0 ≤ a.rf ∧ 0 ≤ a.sp ∧ a.dn + a.up + a.rf + a.sp + a.op.length + l.length = a.ct
  mo : a.cr.natAbs + usS (a.op ++ l) ≤ S
  pd : 0 ≤ a.pd ∧ a.pd ≤ a.dn * X
structure Bds (C : Int) (S : Nat) (X : Int) : Prop where
  x0 : 0 ≤ X
  xs : (S : Int) ≤ 562949953421312
  xx : X ≤ 1125899906842624
  cx : C * X ≤ 1125899906842624
  c0 : C ≤ 4000000
def SameA (a x : Ac) : Prop := x.st = a.st ∧ x.pl = a.pl ∧ x.an = a.an ∧ x.ix = a.ix ∧ x.ct = a.ct ∧ x.sk = a.sk
theorem SameA.trans {a b c : Ac} (h : SameA a b) (g : SameA b c) : SameA a c := ⟨g.1.trans h.1, g.2.1.trans h.2.1, g.2.2.1.trans h.2.2.1, g.2.2.2.1.trans h.2.2.2.1, g.2.2.2.2.1.trans h.2.2.2.2.1, g.2.2.2.2.2.trans h.2.2.2.2.2⟩
structure AI (T D : Int) (S : Nat) (X : Int) (p : Pl) (a : Ac) : Prop where
  s : SI D S X a []
  st : 1 ≤ a.st ∧ a.st ≤ 3
  an : T ≤ a.an ∧ a.an ≤ 3652058
  ix : 0 ≤ a.ix
  up : a.ix ≠ 0 → (p.un ≤ 3 ∧ 1 ≤ p.ev ∧ p.ev ≤ 1000) ∧ Up a.an p.un p.ev (a.ix - 1) D
  c0 : 0 ≤ a.ct
  c1 : a.ct ≤ a.an + a.ix - T
  c2 : a.ct ≤ D - T + 1
end Go.Den
set_option linter.unusedVariables false
set_option maxRecDepth 100000
namespace Go.Den
open Go Go.Proofs
theorem CI.le {D D' X m m' : Int} {c : Cy} (h : CI D X m c) (hD : D ≤ D') (hm : m ≤ m') : CI D' X m' c := by
  obtain ⟨q1, q2, q3, q4, q5, q6⟩ := h
  exact ⟨q1, ⟨q2.1, by omega⟩, ⟨q3.1, by omega⟩, q4, q5, ⟨q6.1, by omega⟩⟩
theorem AI.mono {T D D' X : Int} {S S' : Nat} {p : Pl} {a : Ac} (h : AI T D S X p a) (hD : D ≤ D') (hS : S ≤ S') : AI T D' S' X p a :=
  ⟨⟨fun c hc => (h.s.cy c hc).le hD (Int.le_refl _), fun c hc => by simp at hc, h.s.no, h.s.nc, h.s.sm, Nat.le_trans h.s.mo hS, h.s.pd⟩, h.st, h.an, h.ix, fun q => by obtain ⟨k, v, h1, h2⟩ := h.up q; exact ⟨k, v, h1, by omega⟩, h.c0, h.c1, by have := h.c2; omega⟩
end Go.Den
set_option linter.unusedVariables false
set_option maxRecDepth 100000
namespace Go.Den
open Go Go.Proofs
def SubI (T D : Int) (S : Nat) (X : Int) (pls : List Pl) (a : Ac) : Prop := a = zeroA ∨ (AI T D S X (getP pls a.pl).1 a ∧ 0 ≤ a.pl ∧ a.pl < pls.length)
structure BI (T P : Int) (S : Nat) (X : Int) (b : Bk) : Prop where
  t0 : T ≤ b.today
  t1 : b.today ≤ 3652058
  pls : ∀ p ∈ b.pls, 0 ≤ p.pr ∧ p.pr ≤ P
  subs : ∀ a ∈ b.subs, SubI T b.today S X b.pls a
theorem SubI.mono {T D X : Int} {S S' : Nat} {pls : List Pl} {a : Ac} (h : SubI T D S X pls a) (hS : S ≤ S') : SubI T D S' X pls a := h.imp id fun ⟨g, q⟩ => ⟨g.mono (Int.le_refl _) hS, q⟩
theorem BI.put {T P X : Int} {S S' : Nat} {b : Bk} (h : BI T P S X b) (hS : S ≤ S') {i : Int} {x : Ac} (hx : SubI T b.today S' X b.pls x) : BI T P S' X (b.put i (x, 0)).1 := by
  unfold Bk.put
  rw [if_neg (by simp)]
  refine ⟨h.t0, h.t1, h.pls, fun a ha => ?_⟩
  rcases List.mem_or_eq_of_mem_set ha with q | rfl
  · exact (h.subs a q).mono hS
  · exact hx
theorem BI.mono {T P X : Int} {S S' : Nat} {b : Bk} (h : BI T P S X b) (hS : S ≤ S') : BI T P S' X b := ⟨h.t0, h.t1, h.pls, fun a ha => (h.subs a ha).mono hS⟩
theorem BI.sub {T P X : Int} {S : Nat} {b : Bk} (h : BI T P S X b) (i : Int) : SubI T b.today S X b.pls (b.sub i) := by
  unfold Bk.sub
  rw [List.getD_eq_getElem?_getD]
  cases hc : b.subs[i.toNat]? with
  | none => exact .inl rfl
  | some a => exact h.subs a (List.mem_of_getElem? hc)
def Okd (T D : Int) (S : Nat) (X : Int) (pls : List Pl) (r : Ac × Int) : Prop := (r.2 ≠ 0 ∧ r.2 ≠ 9) ∨ (r.2 = 0 ∧ AI T D S X (getP pls r.1.pl).1 r.1 ∧ 0 ≤ r.1.pl ∧ r.1.pl < pls.length)
theorem Okd.put {T P X : Int} {S S' : Nat} {b : Bk} (h : BI T P S X b) (hS : S ≤ S') {i : Int} {r : Ac × Int} (hr : Okd T b.today S' X b.pls r) : (b.put i r).2 ≠ 9 ∧ ((b.put i r).2 = 0 → BI T P S' X (b.put i r).1 ∧ (b.put i r).1.today = b.today) := by
  obtain ⟨x, e⟩ := r
  rcases hr with ⟨h1, h2⟩ | ⟨h1, h2⟩
  · refine ⟨?_, fun q => ?_⟩
    · unfold Bk.put; rw [if_pos h1]; exact h2
    · unfold Bk.put at q; rw [if_pos h1] at q; exact absurd q h1
  · simp only at h1; subst h1
    refine ⟨by simp [Bk.put], fun _ => ⟨h.put hS (.inr h2), by simp [Bk.put]⟩⟩
structure Room (T P C : Int) (S S' : Nat) (X : Int) (b : Bk) (o : Od) : Prop where
  B : Bds C S' X
  p0 : 0 ≤ P
  p1 : P ≤ 1073741824
  s : (S' : Int) = S + P
  px : P + S' ≤ X
  t0 : 0 ≤ T
  c0 : C ≤ 3652058
  c1 : b.today - T + 1 ≤ C
  pass : o.kd = 9 → b.today + o.n - T + 1 ≤ C
  def1 : o.kd = 1 → o.p.pr ≤ P
end Go.Den
set_option linter.unusedVariables false
set_option maxRecDepth 100000
namespace Go.Den
open Go Go.Proofs
structure Gd (a : Ac) : Prop where
  st : a.st = 1
  cr : a.cr = 0
  pd : a.pd = 0
  ix : 0 ≤ a.ix
  sk : a.sk = false
  op : ∀ c ∈ a.op, c.ph ≠ 2
def PlOk (p : Pl) : Prop := p.la = false ∧ 0 ≤ p.pr ∧ p.pr ≤ 1073741824
theorem rightP_b {n : Int} (h0 : 0 ≤ n) (h1 : n ≤ 1073741824) : rightP n = true := by simp [rightP]; omega
theorem lessP_0 {n : Int} (h0 : 0 ≤ n) (h1 : n ≤ 1073741824) : lessP n 0 = (n, 0) := by
  have e : IntKind.i64.wrap (-0) = 0 := by decide
  have e2 : IntKind.i64.wrap (n + 0) = n := by rw [Int.add_zero]; exact wrap_in _ (by omega) (by omega)
  unfold lessP
  rw [rightP_b (by decide) (by decide), if_pos rfl, e]
  unfold addP
  rw [e2, rightP_b h0 h1, rightP_b (by decide) (by decide)]; rfl
theorem addP_0 : addP 0 0 = (0, 0) := by decide
theorem begin_gd {a : Ac} {p : Pl} (hp : PlOk p) (g : Gd a) (d : Int) : ∃ x, beginA a p d false = (x, 0) ∧ Gd x ∧ x.ix = a.ix ∧ x.pl = a.pl := by
  have hl := lessP_0 hp.2.1 hp.2.2
  have h0 : ¬ (a.st = 2 ∨ a.sk = true ∨ false = true) := by rw [g.st, g.sk]; decide
  unfold beginA
  rw [if_neg h0, g.cr, hl, if_neg (by simp), if_neg (by simpa using hp.2.1)]
  by_cases hpr : p.pr = 0
  · by_cases hgo : p.go = true
    · refine ⟨_, closeA_keep (by simp [beginC, hpr, paidC, hgo, endC]), ⟨g.st, rfl, g.pd, g.ix, g.sk, ?_⟩, rfl, rfl⟩
      intro c hc
      simp only [List.mem_append, List.mem_singleton] at hc
      rcases hc with hc | rfl
      · exact g.op c hc
      · simp [beginC, hpr, paidC, hgo]
    · have e7 : (beginC a.ct d p.pr 0 p.go).ph = 7 := by simp [beginC, hpr, paidC, hgo]
      have em : (beginC a.ct d p.pr 0 p.go).am = 0 := by simp [beginC, hpr, paidC, hgo]
      refine ⟨⟨a.st, a.pl, a.an, a.ix, IntKind.i64.wrap (a.ct + 1), 0, a.sk, a.op, IntKind.i64.wrap (a.dn + 1), a.up, a.rf, a.sp, 0⟩, by rw [closeA_7 (by simp [endC, e7]) e7]; simp only [g.pd, em, addP_0], ⟨g.st, rfl, rfl, g.ix, g.sk, g.op⟩, rfl, rfl⟩
  · refine ⟨_, closeA_keep (by simp [beginC, hpr, endC]), ⟨g.st, rfl, g.pd, g.ix, g.sk, ?_⟩, rfl, rfl⟩
    intro c hc
    simp only [List.mem_append, List.mem_singleton] at hc
    rcases hc with hc | rfl
    · exact g.op c hc
    · simp [beginC, hpr]
theorem day_gd {a : Ac} {p : Pl} (hp : PlOk p) (g : Gd a) (h : (dueA a p).2 = 0) : ∃ x, Gd x ∧ x.pl = a.pl ∧ dayN a = dayN x + 1 ∧ ∀ t, (dueA a p).1 ≤ t → ∀ n, 0 < n → dayL p t n a = dayL p t (n - 1) x := by
  have hx := (nthF_ok (by simpa [dueA] using h)).1.2.2
  have g1 : Gd { a with ix := IntKind.i64.wrap (a.ix + 1) } := ⟨g.st, g.cr, g.pd, by simp only; rw [wrap_in _ (by omega) (by omega)]; omega, g.sk, g.op⟩
  obtain ⟨x, hb, gx, hix, hpl⟩ := begin_gd hp g1 (dueA a p).1
  refine ⟨x, gx, hpl, ?_, fun t ht n hn => ?_⟩
  · unfold dayN; rw [hix]; simp only; rw [wrap_in _ (by omega) (by omega)]; omega
  · have := dayL_go (t := t) hn (by rw [g.st]; decide) h ht false (by rw [hp.1]; rfl) hb
    rw [this]; simp
theorem days1 {p : Pl} (hp : PlOk p) : ∀ (N : Nat) (a : Ac), Gd a → dayN a ≤ N → ∀ t, ∃ x, Gd x ∧ x.pl = a.pl ∧ ∀ n, dayN a ≤ n → dayL p t n a = (x, 0) := by
  intro N
  induction N with
  | zero =>
    intro a g hN t
    have hs : (dueA a p).2 ≠ 0 := fun h => by obtain ⟨x, _, _, h1, _⟩ := day_gd hp g h; omega
    exact ⟨a, g, rfl, fun n _ => dayL_no n (.inl hs)⟩
  | succ N ih =>
    intro a g hN t
    by_cases hs : (dueA a p).2 ≠ 0 ∨ t < (dueA a p).1
    · exact ⟨a, g, rfl, fun n _ => dayL_no n hs⟩
    · obtain ⟨x, gx, hpl, h1, h2⟩ := day_gd hp g (by omega)
      obtain ⟨y, gy, hpy, h3⟩ := ih x gx (by omega) t
      exact ⟨y, gy, hpy.trans hpl, fun n hn => by rw [h2 t (by omega) n (by omega)]; exact h3 _ (by omega)⟩
theorem days2 {p : Pl} (hp : PlOk p) : ∀ (N : Nat) (a : Ac), Gd a → dayN a ≤ N → ∀ t t2, t ≤ t2 → ∀ x, dayL p t (dayN a) a = (x, 0) → ∀ m, dayN a ≤ m → dayL p t2 (dayN x) x = dayL p t2 m a := by
  intro N
  induction N with
  | zero =>
    intro a g hN t t2 ht x hx m hm
    have hs : (dueA a p).2 ≠ 0 := fun h => by obtain ⟨x, _, _, h1, _⟩ := day_gd hp g h; omega
    rw [dayL_no _ (.inl hs)] at hx
    cases hx
    rw [dayL_no _ (.inl hs), dayL_no _ (.inl hs)]
  | succ N ih =>
    intro a g hN t t2 ht x hx m hm
    by_cases hs : (dueA a p).2 ≠ 0 ∨ t < (dueA a p).1
    · rw [dayL_no _ hs] at hx
      cases hx
      obtain ⟨y, _, _, hy⟩ := days1 hp (N + 1) a g hN t2
      rw [hy _ (Nat.le_refl _), hy _ hm]
    · obtain ⟨y, gy, hpl, h1, h2⟩ := day_gd hp g (by omega)
      rw [h2 t (by omega) _ (by omega), h1, Nat.add_sub_cancel] at hx
      rw [h2 t2 (by omega) m (by omega)]
      exact ih y gy (by omega) t t2 ht x hx _ (by omega)
theorem wake_no {a : Ac} (g : Gd a) (t : Int) : ({ a with op := a.op.map (fun c => wakeC c t) } : Ac) = a := by
  have e : a.op.map (fun c => wakeC c t) = a.op := by
    rw [List.map_congr_left (g := id) fun c hc => by simp [wakeC, g.op c hc]]; simp
  rw [e]
theorem dayA_gd {a : Ac} {p : Pl} (hp : PlOk p) (g : Gd a) (t : Int) : ∃ x, dayA a p t = (x, 0) ∧ Gd x ∧ x.pl = a.pl ∧ ∀ t2, t ≤ t2 → dayA x p t2 = dayA a p t2 := by
  obtain ⟨x, gx, hpl, hx⟩ := days1 hp _ a g (Nat.le_refl _) t
  refine ⟨x, ?_, gx, hpl, fun t2 ht => ?_⟩
  · unfold dayA; rw [wake_no g]; exact hx _ (Nat.le_refl _)
  · unfold dayA; rw [wake_no g, wake_no gx]
    exact days2 hp _ a g (Nat.le_refl _) t t2 ht x (hx _ (Nat.le_refl _)) _ (Nat.le_refl _)
structure RI (T : Int) (i : Nat) (b : Bk) : Prop where
  today : b.today = T
  len : b.pls.length = i
  pls : ∀ p ∈ b.pls, PlOk p
  subs : ∀ a ∈ b.subs, a.st = 0 ∨ (Gd a ∧ 0 ≤ a.pl ∧ a.pl < b.pls.length)
  n32 : b.subs.length = 32
  free : ∀ j, i ≤ j → (b.subs.getD j zeroA).st = 0
theorem RI.new (T : Int) : RI T 0 (newB T) := ⟨rfl, rfl, fun p hp => by simp [newB] at hp, fun a ha => .inl (by rw [List.eq_of_mem_replicate ha]; rfl), by simp [newB], fun j _ => by
  simp only [newB, List.getD_eq_getElem?_getD, List.getElem?_replicate]; split <;> rfl⟩
def partO1 (n : Int) : Od := ⟨1, 0, 0, 0, { planR n with la := false }, zeroN⟩
def partO2 (i : Int) : Od := ⟨2, i, i, 0, zeroP, zeroN⟩
noncomputable def partB (b : Bk) (n i : Int) : Bk := (stepB (stepB b (partO1 n)).1 (partO2 i)).1
theorem rightPl_ok {p : Pl} (h1 : srB p.un p.ev = true) (h2 : 0 ≤ p.tr ∧ p.tr ≤ 1000) (h3 : 0 ≤ p.pr ∧ p.pr ≤ 1073741824) : rightPl p = 0 := by
  unfold rightPl
  rw [if_neg (by rw [h1]; simp; omega), if_neg (by omega)]
theorem planR_right {n : Int} (h0 : 0 ≤ n) (h1 : n < 256) : rightPl { planR n with la := false } = 0 ∧ PlOk { planR n with la := false } ∧ 0 ≤ (planR n).tr ∧ (planR n).tr ≤ 10 := by
  have s1 : 0 ≤ sel4 (n % 4) 1000 0 2999 1 ∧ sel4 (n % 4) 1000 0 2999 1 ≤ 2999 := by unfold sel4; split <;> (try split) <;> (try split) <;> omega
  have s2 : 0 ≤ sel4 (n / 48 % 4) 0 0 10 3 ∧ sel4 (n / 48 % 4) 0 0 10 3 ≤ 10 := by unfold sel4; split <;> (try split) <;> (try split) <;> omega
  refine ⟨?_, ⟨rfl, s1.1, by simp only [planR]; omega⟩, s2⟩
  exact rightPl_ok (by unfold srB; exact decide_eq_true (by simp only [planR]; omega)) (by simp only [planR]; omega) (by simp only [planR]; omega)
theorem RI.step {T : Int} {i : Nat} {b : Bk} (h : RI T i b) (hi : i < 3) (hT : 0 ≤ T) (hT2 : T + 60 ≤ 3652058) {n : Int} (h0 : 0 ≤ n) (h1 : n < 256) : RI T (i + 1) (partB b n i) := by
  obtain ⟨r1, r2, r3, r4⟩ := planR_right h0 h1
  have e1 : stepB b (partO1 n) = ({ b with pls := b.pls ++ [{ planR n with la := false }] }, 0) := by
    have hr : rightO (partO1 n) = 0 := by unfold rightO partO1; simp only; rw [if_neg (by decide), if_pos trivial, if_neg (by simp)]; exact r1
    unfold stepB
    rw [hr]
    simp only [ne_eq, not_true_eq_false, if_false]
    have ha : addPl b.pls (partO1 n).p = (b.pls ++ [{ planR n with la := false }], (b.pls.length : Int), 0) := by
      unfold addPl; rw [if_neg (by simp only [partO1]; rw [r1]; decide), if_neg (by rw [h.len]; omega)]; rfl
    rw [if_pos (show (partO1 n).kd = 1 from rfl), ha]; simp
  unfold partB
  rw [e1]
  simp only
  have hg : getP (b.pls ++ [{ planR n with la := false }]) i = ({ planR n with la := false }, 0) := by
    unfold getP
    rw [if_neg (by simp [h.len]; omega)]
    simp [List.getD_eq_getElem?_getD, ← h.len]
  have hr2 : rightO (partO2 i) = 0 := by
    unfold rightO partO2
    rw [if_pos (show subsK 2 = true by decide), if_neg (by simp [plansK]; omega)]
  have go : Gd (openAc i { planR n with la := false } T) := ⟨rfl, rfl, rfl, Int.le_refl _, rfl, fun c hc => by simp [openAc] at hc⟩
  obtain ⟨x, d1, gx, hpl, _⟩ := dayA_gd r2 go T
  have ho : openB { b with pls := b.pls ++ [{ planR n with la := false }] } (partO2 i) = (x, 0) := by
    unfold openB
    simp only [partO2, hg]
    rw [if_neg (by simp), if_neg (by have := h.free i (Nat.le_refl _); simp only [Bk.sub, Int.toNat_natCast]; rw [this]; decide), h.today, if_neg (by rw [wrap_in _ (by omega) (by omega)]; omega)]
    exact d1
  have e2 : stepB { b with pls := b.pls ++ [{ planR n with la := false }] } (partO2 i) = ({ b with pls := b.pls ++ [{ planR n with la := false }], subs := b.subs.set i x }, 0) := by
    unfold stepB
    rw [hr2]
    simp only [ne_eq, not_true_eq_false, if_false]
    rw [if_neg (by simp [partO2]), if_pos (by simp [partO2]), ho]
    simp [Bk.put, partO2]
  rw [e2]
  have hpx : x.pl = i := by rw [hpl]; rfl
  refine ⟨h.today, by simp [h.len], fun p hp => ?_, fun a ha => ?_, by simp [h.n32], fun j hj => ?_⟩
  · simp only [List.mem_append, List.mem_singleton] at hp
    rcases hp with hp | rfl
    · exact h.pls p hp
    · exact r2
  · rcases List.mem_or_eq_of_mem_set ha with q | rfl
    · refine (h.subs a q).imp id fun ⟨g, q0, q1⟩ => ⟨g, q0, by simp; omega⟩
    · exact .inr ⟨gx, by rw [hpx]; omega, by rw [hpx]; simp [h.len]; omega⟩
  · have := h.free j (by omega)
    simp only [List.getD_eq_getElem?_getD] at this ⊢
    rw [List.getElem?_set_ne (by omega)]; exact this
end Go.Den
set_option linter.unusedVariables false
set_option maxRecDepth 100000
namespace Go.Den
open Go Go.Proofs
theorem unz_zz {u : Nat} (hu : u < 18446744073709551616) : (zzI (unz u)).toNat = u ∧ -9223372036854775808 ≤ unz u ∧ unz u < 9223372036854775808 := by
  have hb : -9223372036854775808 ≤ unz u ∧ unz u < 9223372036854775808 := by unfold unz; split <;> omega
  refine ⟨?_, hb⟩
  rw [zzI_eq hb.1 hb.2]
  unfold unz
  split
  · rw [if_neg (by omega)]; omega
  · rw [if_pos (by omega)]; omega
theorem scan_inv : ∀ (l : List By) (i u u' : Nat) (r : List By), ByOk l → i ≤ 10 → u < 64 ^ i → scanB i u l = (0, u', r) → ∃ w, u' = u + w * 64 ^ i ∧ l = digB w ++ r ∧ (0 < i → w ≠ 0) ∧ u' < 18446744073709551616
  | [], i, u, u', r, _, _, _, h => by simp [scanB] at h
  | c :: l, i, u, u', r, hb, hi, hu, h => by
    obtain ⟨c0, c1⟩ := hb c (by simp)
    unfold scanB at h
    split at h
    · simp at h
    · rename_i hbad
      have hnb : badB i c.n = false := by simpa using hbad
      have h128 : c.n < 128 := by simp [badB] at hnb; omega
      have h10 : i = 10 → c.n < 16 := fun q => by simp [badB] at hnb; omega
      have h00 : 0 < i → c.n ≠ 0 := fun q => by simp [badB] at hnb; omega
      split at h
      · rename_i h64
        have hi2 : i + 1 ≤ 10 := by
          by_cases q : i = 10
          · have := h10 q; omega
          · omega
        obtain ⟨w, e1, e2, e3, e4⟩ := scan_inv l (i + 1) _ u' r (fun x hx => hb x (by simp [hx])) hi2 (next64 hu (by omega)) h
        have hw := e3 (by omega)
        refine ⟨(c.n % 64).toNat + 64 * w, ?_, ?_, fun _ => by omega, e4⟩
        · rw [e1, Nat.pow_succ, Nat.add_mul, Nat.mul_comm (64 ^ i) 64, ← Nat.mul_assoc, Nat.mul_comm w 64]; omega
        · rw [digB_s (by omega), e2]
          have k1 : ((c.n % 64).toNat + 64 * w) / 64 = w := by omega
          have k2 : (((c.n % 64).toNat + 64 * w : Nat) : Int) % 64 + 64 = c.n := by omega
          rw [k1, k2]; rfl
      · rename_i h64
        simp only [Prod.mk.injEq, true_and] at h
        obtain ⟨rfl, rfl⟩ := h
        refine ⟨(c.n % 64).toNat, rfl, ?_, fun q => by have := h00 q; omega, lim64 hi hu (by omega) (fun q => by have := h10 q; omega)⟩
        rw [digB_0 (by omega)]
        have k2 : (((c.n % 64).toNat : Nat) : Int) = c.n := by omega
        rw [k2]; rfl
structure Rd (b : Bx) (ns : List Int) (b' : Bx) : Prop where
  e0 : b.e = 0
  e1 : b'.e = 0
  p : b.p = numsB ns ++ b'.p
  ok : ByOk b'.p
theorem Rd.trans {a b c : Bx} {ns ms : List Int} (h : Rd a ns b) (g : Rd b ms c) : Rd a (ns ++ ms) c := ⟨h.e0, g.e1, by rw [h.p, g.p, numsB_app]; simp, g.ok⟩
theorem Rd.refl {a : Bx} (h : a.e = 0) (ho : ByOk a.p) : Rd a [] a := ⟨h, h, rfl, ho⟩
theorem get_inv {lo hi : Int} {b : Bx} (h : (getX lo hi b).2.e = 0) (hb : ByOk b.p) : Rd b [(getX lo hi b).1] (getX lo hi b).2 ∧ lo ≤ (getX lo hi b).1 ∧ (getX lo hi b).1 ≤ hi := by
  unfold getX at h ⊢
  split at h
  · rename_i q; exact absurd h q
  · rename_i q
    split at h
    · rename_i q2; exact absurd h q2
    · rename_i q2
      split at h
      · simp at h
      · rename_i q3
        rw [if_neg q, if_neg q2, if_neg q3]
        obtain ⟨w, e1, e2, _, e4⟩ := scan_inv b.p 0 0 (scanB 0 0 b.p).2.1 (scanB 0 0 b.p).2.2 hb (by decide) (by decide) (Prod.ext (by simpa using q2) rfl)
        have hz := unz_zz e4
        have hw : (scanB 0 0 b.p).2.1 = w := by simpa using e1
        refine ⟨⟨by simpa using q, rfl, ?_, fun c hc => hb c ?_⟩, by omega, by omega⟩
        · simp only [numsB, List.append_nil, numB]
          rw [hz.1, hw]; exact e2
        · rw [e2]; simp only [List.mem_append]; exact .inr hc
theorem flag_inv {b : Bx} (h : (flagX b).2.e = 0) (hb : ByOk b.p) : Rd b [flN (flagX b).1] (flagX b).2 := by
  obtain ⟨h1, h2, h3⟩ := get_inv (lo := 0) (hi := 1) (b := b) h hb
  have e : flN (flagX b).1 = (getX 0 1 b).1 := by
    unfold flN flagX
    simp only [decide_eq_true_eq]
    split <;> omega
  rw [e]; exact h1
theorem wr8 {n : Int} (h0 : 0 ≤ n) (h1 : n ≤ 200) : IntKind.u8.wrap n = n ∧ IntKind.i64.wrap n = n := ⟨wrap_b8 n h0 (by omega), wrap_in _ (by omega) (by omega)⟩
end Go.Den
set_option linter.unusedVariables false
set_option maxRecDepth 100000
namespace Go.Den
open Go Go.Proofs
theorem plan_inv {b : Bx} (h : (planX b).2.e = 0) (hb : ByOk b.p) : Rd b (plN (planX b).1) (planX b).2 ∧ rightPl (planX b).1 = 0 ∧ 0 ≤ (planX b).1.un := by
  unfold planX at h ⊢
  dsimp only at h ⊢
  split at h
  · rename_i q; exact absurd h q
  · rename_i q
    rw [if_neg q]
    have q' := Decidable.not_not.1 q
    have fit : ∀ {x : Bx} (lo hi : Int), ByOk x.p → ByOk (getX lo hi x).2.p := fun {x} lo hi hx => by
      obtain ⟨n, e | e⟩ := get_rest lo hi x
      · intro c hc; rw [e] at hc; exact hx c (List.mem_of_mem_drop hc)
      · intro c hc; rw [e] at hc; simp at hc
    have o1 := fit 0 1073741824 hb
    have o2 := fit 0 3 o1
    have o3 := fit 1 1000 o2
    have o4 := fit 0 1000 o3
    have o5 : ByOk (flagX (getX 0 1000 (getX 1 1000 (getX 0 3 (getX 0 1073741824 b).2).2).2).2).2.p := fit 0 1 o4
    have r6 := flag_inv q' o5
    have r5 := flag_inv r6.e0 o4
    obtain ⟨r4, a4⟩ := get_inv r5.e0 o3
    obtain ⟨r3, a3⟩ := get_inv r4.e0 o2
    obtain ⟨r2, a2⟩ := get_inv r3.e0 o1
    obtain ⟨r1, a1⟩ := get_inv r2.e0 hb
    obtain ⟨w1, w2⟩ := wr8 (n := (getX 0 3 (getX 0 1073741824 b).2).1) a2.1 (by omega)
    refine ⟨?_, rightPl_ok (by unfold srB; exact decide_eq_true (by simp only; rw [w1]; omega)) (by simp only; omega) (by simp only; omega), by simp only; rw [w1]; omega⟩
    have := ((((r1.trans r2).trans r3).trans r4).trans r5).trans r6
    simpa [plN, w1, w2] using this
theorem fitX {x : Bx} (lo hi : Int) (hx : ByOk x.p) : ByOk (getX lo hi x).2.p := by
  obtain ⟨n, e | e⟩ := get_rest lo hi x
  · intro c hc; rw [e] at hc; exact hx c (List.mem_of_mem_drop hc)
  · intro c hc; rw [e] at hc; simp at hc
theorem cy_inv {b : Bx} (h : (cyX b).2.e = 0) (hb : ByOk b.p) : Rd b (cyN (cyX b).1) (cyX b).2 := by
  unfold cyX at h ⊢
  unfold numX monX at h ⊢
  dsimp only at h ⊢
  have o1 := fitX 0 3652058 hb
  have o2 := fitX 0 3652058 o1
  have o3 := fitX 1 6 o2
  have o4 := fitX 0 1125899906842624 o3
  have o5 := fitX (-1125899906842624) 1125899906842624 o4
  have o6 := fitX 0 100 o5
  have o7 := fitX 0 3652158 o6
  have r8 := flag_inv h o7
  obtain ⟨r7, a7⟩ := get_inv r8.e0 o6
  obtain ⟨r6, a6⟩ := get_inv r7.e0 o5
  obtain ⟨r5, a5⟩ := get_inv r6.e0 o4
  obtain ⟨r4, a4⟩ := get_inv r5.e0 o3
  obtain ⟨r3, a3⟩ := get_inv r4.e0 o2
  obtain ⟨r2, a2⟩ := get_inv r3.e0 o1
  obtain ⟨r1, a1⟩ := get_inv r2.e0 hb
  have := ((((((r1.trans r2).trans r3).trans r4).trans r5).trans r6).trans r7).trans r8
  generalize hg : (getX 1 6 (getX 0 3652058 (getX 0 3652058 b).2).2).1 = x at *
  obtain ⟨w1, w2⟩ := wr8 (n := x) (by omega) (by omega)
  simpa [cyN, w1, w2] using this
theorem cys_inv : ∀ (n : Nat) (b : Bx), (cysX n b).2.e = 0 → ByOk b.p → Rd b ((cysX n b).1.flatMap cyN) (cysX n b).2 ∧ (cysX n b).1.length = n
  | 0, b, h, hb => ⟨Rd.refl h hb, rfl⟩
  | n + 1, b, h, hb => by
    unfold cysX at h ⊢
    split at h
    · rename_i q; exact absurd h q
    · rename_i q
      rw [if_neg q]
      simp only at h ⊢
      have ho : ByOk (cyX b).2.p := by unfold cyX; exact fitX 0 1 (fitX 0 3652158 (fitX 0 100 (fitX (-1125899906842624) 1125899906842624 (fitX 0 1125899906842624 (fitX 1 6 (fitX 0 3652058 (fitX 0 3652058 hb)))))))
      obtain ⟨r2, l2⟩ := cys_inv n _ h ho
      have r1 := cy_inv r2.e0 hb
      exact ⟨by simpa using r1.trans r2, by simp [l2]⟩
theorem ac_inv {q : Int} {b : Bx} (h : (acX q b).2.e = 0) (hb : ByOk b.p) : Rd b (acN (acX q b).1) (acX q b).2 ∧ 0 ≤ (acX q b).1.ix ∧ (acX q b).1.op.length ≤ 3652058 := by
  unfold acX at h ⊢
  unfold numX monX at h ⊢
  dsimp only at h ⊢
  have o1 := fitX 0 3 hb
  split at h
  · rename_i k
    rw [if_pos k]
    obtain ⟨r1, a1⟩ := get_inv h hb
    obtain ⟨w1, w2⟩ := wr8 (n := (getX 0 3 b).1) (by omega) (by omega)
    rw [w1] at k
    rw [k] at r1
    refine ⟨?_, by simp [zeroA], by simp [zeroA]⟩
    have e : acN zeroA = [0] := by simp only [acN, zeroA, if_pos]; rfl
    rw [e]; exact r1
  · rename_i k
    rw [if_neg k]
    have o2 := fitX 0 (IntKind.i64.wrap (q - 1)) o1
    have o3 := fitX 0 3652058 o2
    have o4 := fitX 0 3652058 o3
    have o5 := fitX 0 3652058 o4
    have o6 := fitX (-1125899906842624) 1125899906842624 o5
    have o7 := fitX 0 1 o6
    have o8 := fitX 0 3652058 o7
    have o9 := fitX 0 3652058 o8
    have o10 := fitX 0 3652058 o9
    have o11 := fitX 0 3652058 o10
    have o12 := fitX (-1125899906842624) 1125899906842624 o11
    have o13 := fitX 0 3652058 o12
    obtain ⟨r14, l14⟩ := cys_inv _ _ h o13
    obtain ⟨r13, a13⟩ := get_inv r14.e0 o12
    obtain ⟨r12, a12⟩ := get_inv r13.e0 o11
    obtain ⟨r11, a11⟩ := get_inv r12.e0 o10
    obtain ⟨r10, a10⟩ := get_inv r11.e0 o9
    obtain ⟨r9, a9⟩ := get_inv r10.e0 o8
    obtain ⟨r8, a8⟩ := get_inv r9.e0 o7
    have r7 := flag_inv r8.e0 o6
    obtain ⟨r6, a6⟩ := get_inv r7.e0 o5
    obtain ⟨r5, a5⟩ := get_inv r6.e0 o4
    obtain ⟨r4, a4⟩ := get_inv r5.e0 o3
    obtain ⟨r3, a3⟩ := get_inv r4.e0 o2
    obtain ⟨r2, a2⟩ := get_inv r3.e0 o1
    obtain ⟨r1, a1⟩ := get_inv r2.e0 hb
    have := ((((((((((((r1.trans r2).trans r3).trans r4).trans r5).trans r6).trans r7).trans r8).trans r9).trans r10).trans r11).trans r12).trans r13).trans r14
    generalize hg : (getX 0 3 b).1 = x at *
    obtain ⟨w1, w2⟩ := wr8 (n := x) (by omega) (by omega)
    refine ⟨?_, by simp only; omega, by simp only; omega⟩
    unfold acN
    simp only [w1, w2]
    rw [w1] at k
    rw [if_neg k, l14]
    have e : ∀ y : Int, 0 ≤ y → ((y.toNat : Nat) : Int) = y := fun y hy => by omega
    rw [e _ a13.1]
    simpa using this
theorem fit_plan {b : Bx} (hb : ByOk b.p) : ByOk (planX b).2.p := by
  have o6 : ByOk (flagX (flagX (getX 0 1000 (getX 1 1000 (getX 0 3 (getX 0 1073741824 b).2).2).2).2).2).2.p := fitX 0 1 (fitX 0 1 (fitX 0 1000 (fitX 1 1000 (fitX 0 3 (fitX 0 1073741824 hb)))))
  unfold planX; dsimp only; split <;> exact o6
theorem fit_cys : ∀ (n : Nat) (b : Bx), ByOk b.p → ByOk (cysX n b).2.p
  | 0, b, hb => hb
  | n + 1, b, hb => by
    unfold cysX; split
    · exact hb
    · exact fit_cys n _ (by unfold cyX; exact fitX 0 1 (fitX 0 3652158 (fitX 0 100 (fitX (-1125899906842624) 1125899906842624 (fitX 0 1125899906842624 (fitX 1 6 (fitX 0 3652058 (fitX 0 3652058 hb))))))))
theorem fit_ac {q : Int} {b : Bx} (hb : ByOk b.p) : ByOk (acX q b).2.p := by
  have o1 := fitX 0 3 hb
  unfold acX; dsimp only; split
  · exact o1
  · exact fit_cys _ _ (fitX 0 3652058 (fitX (-1125899906842624) 1125899906842624 (fitX 0 3652058 (fitX 0 3652058 (fitX 0 3652058 (fitX 0 3652058 (fitX 0 1 (fitX (-1125899906842624) 1125899906842624 (fitX 0 3652058 (fitX 0 3652058 (fitX 0 3652058 (fitX 0 (IntKind.i64.wrap (q - 1)) o1))))))))))))
theorem pls_inv : ∀ (n : Nat) (b : Bx), (plsX n b).2.e = 0 → ByOk b.p → Rd b ((plsX n b).1.flatMap plN) (plsX n b).2 ∧ (plsX n b).1.length = n ∧ ∀ p ∈ (plsX n b).1, rightPl p = 0 ∧ 0 ≤ p.un
  | 0, b, h, hb => ⟨Rd.refl h hb, rfl, fun p hp => by simp [plsX] at hp⟩
  | n + 1, b, h, hb => by
    unfold plsX at h ⊢
    simp only at h ⊢
    obtain ⟨r2, l2, k2⟩ := pls_inv n _ h (fit_plan hb)
    obtain ⟨r1, k1⟩ := plan_inv r2.e0 hb
    refine ⟨by simpa using r1.trans r2, by simp [l2], fun p hp => ?_⟩
    simp only [List.mem_cons] at hp
    rcases hp with rfl | hp
    · exact k1
    · exact k2 p hp
theorem subs_inv {q : Int} : ∀ (n : Nat) (b : Bx), (subsX q n b).2.e = 0 → ByOk b.p → Rd b ((subsX q n b).1.flatMap acN) (subsX q n b).2 ∧ (subsX q n b).1.length = n ∧ ∀ a ∈ (subsX q n b).1, 0 ≤ a.ix ∧ a.op.length ≤ 3652058
  | 0, b, h, hb => ⟨Rd.refl h hb, rfl, fun p hp => by simp [subsX] at hp⟩
  | n + 1, b, h, hb => by
    unfold subsX at h ⊢
    simp only at h ⊢
    obtain ⟨r2, l2, k2⟩ := subs_inv n _ h (fit_ac hb)
    obtain ⟨r1, k1⟩ := ac_inv r2.e0 hb
    refine ⟨by simpa using r1.trans r2, by simp [l2], fun p hp => ?_⟩
    simp only [List.mem_cons] at hp
    rcases hp with rfl | hp
    · exact k1
    · exact k2 p hp
theorem dec_inv {p : List By} (hp : ByOk p) : ((decX p).2 = 0 ∨ (decX p).2 = 4) ∧ ((decX p).2 = 0 → encB (decX p).1 = p ∧ BOk 3652058 (decX p).1 ∧ UnOk (decX p).1.pls ∧ (decX p).1.pls.length ≤ 8) := by
  unfold decX
  dsimp only
  split
  · exact ⟨.inr rfl, fun h => by simp at h⟩
  · rename_i q
    refine ⟨.inl rfl, fun _ => ?_⟩
    simp only
    have q' := Decidable.not_not.1 q
    have ho1 : ByOk (⟨p, 0⟩ : Bx).p := hp
    have o1 := fitX 0 3652058 ho1
    have o2 := fitX 0 8 o1
    have o3 : ByOk (plsX (getX 0 8 (getX 0 3652058 ⟨p, 0⟩).2).1.toNat (getX 0 8 (getX 0 3652058 ⟨p, 0⟩).2).2).2.p := by
      have : ∀ (n : Nat) (b : Bx), ByOk b.p → ByOk (plsX n b).2.p := by
        intro n
        induction n with
        | zero => intro b h; exact h
        | succ n ih => intro b h; unfold plsX; exact ih _ (fit_plan h)
      exact this _ _ o2
    generalize hs : subsX (plsX (getX 0 8 (getX 0 3652058 ⟨p, 0⟩).2).1.toNat (getX 0 8 (getX 0 3652058 ⟨p, 0⟩).2).2).1.length 32 (plsX (getX 0 8 (getX 0 3652058 ⟨p, 0⟩).2).1.toNat (getX 0 8 (getX 0 3652058 ⟨p, 0⟩).2).2).2 = s at *
    have he : s.2.e = 0 := by unfold endX at q'; split at q'; exact absurd q' (by decide); exact q'
    have hnil : s.2.p = [] := by
      unfold endX at q'
      split at q'
      · simp at q'
      · rename_i k
        cases hc : s.2.p with
        | nil => rfl
        | cons a l => exact absurd ⟨he, by rw [hc]; simp⟩ k
    obtain ⟨r4, l4, k4⟩ := subs_inv (q := (plsX (getX 0 8 (getX 0 3652058 ⟨p, 0⟩).2).1.toNat (getX 0 8 (getX 0 3652058 ⟨p, 0⟩).2).2).1.length) 32 _ (by rw [hs]; exact he) o3
    rw [hs] at r4 l4 k4
    obtain ⟨r3, l3, k3⟩ := pls_inv _ _ r4.e0 o2
    obtain ⟨r2, a2⟩ := get_inv r3.e0 o1
    obtain ⟨r1, a1⟩ := get_inv r2.e0 ho1
    have hr := ((r1.trans r2).trans r3).trans r4
    refine ⟨?_, ⟨fun x hx => (k3 x hx).1, k4, l4⟩, fun x hx => (k3 x hx).2, by rw [l3]; omega⟩
    have hpp := hr.p
    rw [hnil, List.append_nil] at hpp
    have e : ∀ y : Int, 0 ≤ y → ((y.toNat : Nat) : Int) = y := fun y hy => by omega
    unfold encB bkN
    simp only [l3, e _ a2.1]
    refine Eq.trans ?_ hpp.symm
    simp
end Go.Den
set_option linter.unusedVariables false
set_option maxRecDepth 100000
namespace Go.Den
open Go Go.Proofs
theorem digB_ok (n : Nat) : ∀ u : Nat, u < n → ByOk (digB u) := by
  induction n with
  | zero => intro u h; omega
  | succ n ih =>
    intro u h
    by_cases q : u < 64
    · rw [digB_0 q]; intro c hc; simp at hc; subst hc; exact ⟨by simp only; omega, by simp only; omega⟩
    · rw [digB_s q]; intro c hc
      simp only [List.mem_cons] at hc
      rcases hc with rfl | hc
      · exact ⟨by simp only; omega, by simp only; omega⟩
      · exact ih (u / 64) (by omega) c hc
theorem numsB_ok : ∀ l : List Int, ByOk (numsB l)
  | [] => fun c hc => by simp [numsB] at hc
  | n :: l => fun c hc => by
    simp only [numsB, List.mem_append] at hc
    rcases hc with hc | hc
    · exact digB_ok _ _ (Nat.lt_succ_self _) c hc
    · exact numsB_ok l c hc
theorem encB_pos (b : Bk) : 0 < (encB b).length := by
  unfold encB bkN
  rw [List.append_assoc]
  show 0 < (numsB (b.today :: _)).length
  simp only [numsB, List.length_append]
  have : 0 < (numB b.today).length := by
    unfold numB
    by_cases q : (zzI b.today).toNat < 64
    · rw [digB_0 q]; simp
    · rw [digB_s q]; simp
  omega
theorem u8_rng (n : Int) : 0 ≤ IntKind.u8.wrap n ∧ IntKind.u8.wrap n < 256 := by
  simp only [IntKind.wrap, IntKind.bits, IntKind.signed]; simp; omega
theorem flat_len {α β : Type} {f : α → List β} {m : Nat} : ∀ l : List α, (∀ a ∈ l, (f a).length ≤ m) → (l.flatMap f).length ≤ l.length * m
  | [], _ => by simp
  | a :: l, h => by
    have h1 := h a (by simp)
    have h2 := flat_len l (fun x hx => h x (by simp [hx]))
    simp only [List.flatMap_cons, List.length_append, List.length_cons, Nat.succ_mul]; omega
theorem encB_len {k : Nat} {b : Bk} (hk : BOk k b) (h8 : b.pls.length ≤ 8) (hk3 : k ≤ 300000000) : (encB b).length ≤ 1000000000000 := by
  have h1 := numsB_len (bkN b)
  have h2 : (b.pls.flatMap plN).length ≤ b.pls.length * 6 := flat_len _ (fun p _ => by simp [plN])
  have h3 : (b.subs.flatMap acN).length ≤ b.subs.length * (13 + k * 8) := flat_len _ (fun a ha => by
    unfold acN
    split
    · simp only [List.length_cons, List.length_nil]; omega
    · have h4 : (a.op.flatMap cyN).length ≤ a.op.length * 8 := flat_len _ (fun c _ => by simp [cyN])
      have h5 := (hk.subs a ha).2
      simp only [List.length_cons, List.length_append, List.length_nil]; omega)
  rw [hk.len] at h3
  unfold encB bkN at *
  simp only [List.length_append, List.length_cons, List.length_nil] at *
  omega
theorem splice1 {vs : List Value} {k : Nat} {y : Value} (h : k < vs.length) : splice vs k [y] = vs.set k y := by unfold splice; rw [List.set_eq_take_append_cons_drop, if_pos h]; simp
theorem RowAt.setBy {M : Mem} {s : Value} {l : List By} (h : RowAt M s l) (hw : Own M s) {i : Int} (h0 : 0 ≤ i) (h1 : i.toNat < l.length) :
    ∃ b o vs, absIndexAddr Tryd.prog M 72 s (.int .i64 i) = some (.pointer (some ⟨b, o + i.toNat, none⟩)) ∧ M[b]? = some (.cells false vs) ∧ o + i.toNat + 1 ≤ vs.length ∧ List.take 1 (List.drop (o + i.toNat) vs) = [.int .u8 (l[i.toNat]).n] ∧ blkOf s = some b ∧
      ∀ y : Int, RowAt (M.set b (.cells false (splice vs (o + i.toNat) [.int .u8 y]))) s (l.set i.toNat ⟨y⟩) := by
  rcases h with ⟨rfl, rfl⟩ | ⟨b, o, ro, vs, rfl, h2, h3, h4⟩
  · simp at h1
  · obtain ⟨vs', hv⟩ := hw b rfl
    rw [h2] at hv
    cases hv
    have hk : Cel.k By = 1 := rfl
    rw [hk, Nat.mul_one] at h3 h4
    have hlt := (List.getElem?_eq_some_iff.1 h2).1
    have hl : i < (l.length : Int) := by omega
    have hge : List.take 1 (List.drop (o + i.toNat) vs) = [.int .u8 (l[i.toNat]).n] := by
      have e := congrArg (fun q => List.take 1 (List.drop i.toNat q)) h4
      simp only [List.drop_take, List.drop_drop, List.take_take] at e
      rw [Nat.min_eq_left (by omega)] at e
      have := rowV_get (α := By) h1
      rw [hk, Nat.mul_one] at this
      rw [e, this]; rfl
    refine ⟨b, o, vs, by simp [absIndexAddr, Tryd.underlying72, h0, hl, hk], h2, by omega, hge, rfl, fun y => .inr ⟨b, o, false, splice vs (o + i.toNat) [.int .u8 y], by rw [hk]; simp, List.getElem?_set_self hlt, ?_, ?_⟩⟩
    · simp [hk, splice]; omega
    · rw [hk, Nat.mul_one]
      have e := rowV_set (α := By) h1 ⟨y⟩
      rw [hk, Nat.mul_one] at e
      rw [← e, ← h4]
      show _ = splice _ _ [.int .u8 y]
      have s1 : splice vs (o + i.toNat) [.int .u8 y] = vs.set (o + i.toNat) (.int .u8 y) := splice1 (by omega)
      have s2 : splice (List.take l.length (List.drop o vs)) i.toNat [.int .u8 y] = (List.take l.length (List.drop o vs)).set i.toNat (.int .u8 y) := splice1 (by simp; omega)
      rw [s1, s2, List.drop_set, if_neg (by omega), List.take_set, Nat.add_sub_cancel_left]
      simp
theorem bs2_row {α β : Type} [Cel α] [Cel β] {M1 M2 : Mem} {s1 s2 : Value} {l1 : List α} {l2 : List β} (h1 : RowAt M1 s1 l1) (h2 : RowAt M2 s2 l2) (H : Mem) :
    absBuildSlice Tryd.prog H 78 2 [(0, s1), (1, s2)] = some (.slice (some ⟨H.length, 0, none⟩) 2 1, H ++ [.cells false [s1, s2]]) := by
  rcases h1 with ⟨rfl, _⟩ | ⟨b, o, ro, vs, rfl, _⟩ <;> rcases h2 with ⟨rfl, _⟩ | ⟨b', o', ro', vs', rfl, _⟩ <;> kernel_rfl
end Go.Den
namespace Go.Den
open Go Go.Proofs
set_option maxRecDepth 100000
set_option maxHeartbeats 1000000
set_option linter.all false
attribute [local simp] evOps evOp absOp absBox absLoad absStore absField absIndexAddr absCells absBinOp absBin absInt absShift absUn absPick absNil absExtract absPlaces Instr.fill absBuiltin absMinMax plainV plainT allA flat cells_agg cells_int cells_bool cells_str cells_ptr cells_sl cells_map one_int one_bool one_str one_ptr one_sl one_map Act.eval Act.put Region.wanted yielded absCall TypeDesc.isRow
attribute [local simp high] bk_t bk_p bk_take bk_row BkL_len sp_bk sp_t sp_p
attribute [local simp] sp_nil sp_0 sp_s List.length_set
theorem rplan_s (n : Int) (h0 : 0 ≤ n) (h1 : n < 256) (H : Mem) : FSem Tryd.prog [0] 20 #[.int .u8 n] H fun v H' => v = (planR n).v ∧ H' = H := by
  refine FSem.plainT ?_
  refine FSem.ofK Tryd.func20 rfl ?_
  refine DK.from (b' := ⟨#[.int .u8 n, undef, undef, undef, undef, undef, undef, undef, undef, undef, undef, undef, undef, undef, undef, undef, undef, undef, undef, undef, undef, undef, undef, undef, undef, undef, undef, undef, undef], []⟩) (by kernel_rfl) ?_
  have f1 : n.tmod 4 = n % 4 := tm _ _ h0
  have f2 : n.tdiv 4 = n / 4 := td _ _ h0
  have f3 : IntKind.u8.wrap (n / 4) = n / 4 := wrap_u8 _ (by omega) (by omega)
  have f4 : (n / 4).tmod 4 = n / 4 % 4 := tm _ _ (by omega)
  have f5 : n.tdiv 16 = n / 16 := td _ _ h0
  have f6 : IntKind.u8.wrap (n / 16) = n / 16 := wrap_u8 _ (by omega) (by omega)
  have f7 : (n / 16).tmod 3 = n / 16 % 3 := tm _ _ (by omega)
  have f8 : IntKind.i64.wrap (n / 16 % 3) = n / 16 % 3 := wrap_in _ (by omega) (by omega)
  have f9 : IntKind.i64.wrap (1 + n / 16 % 3) = 1 + n / 16 % 3 := wrap_in _ (by omega) (by omega)
  have f10 : n.tdiv 48 = n / 48 := td _ _ h0
  have f11 : IntKind.u8.wrap (n / 48) = n / 48 := wrap_u8 _ (by omega) (by omega)
  have f12 : (n / 48).tmod 4 = n / 48 % 4 := tm _ _ (by omega)
  have f13 : n.tmod 3 = n % 3 := tm _ _ h0
  have f14 : n.tmod 7 = n % 7 := tm _ _ h0
  have f15 : 0 ≤ n % 4 := by omega
  have f16 : n % 4 < 4 := by omega
  have f17 : 0 ≤ n / 48 % 4 := by omega
  have f18 : n / 48 % 4 < 4 := by omega
  have f19 : (n % 4).toNat + 1 ≤ 4 := by omega
  have f20 : (n / 48 % 4).toNat + 1 ≤ 4 := by omega
  have f21 : List.take 1 (List.drop (n % 4).toNat [Value.int .i64 1000, .int .i64 0, .int .i64 2999, .int .i64 1]) = [.int .i64 (sel4 (n % 4) 1000 0 2999 1)] := sel_take _ _ _ _ f15 f16
  have f22 : List.take 1 (List.drop (n / 48 % 4).toNat [Value.int .i64 0, .int .i64 0, .int .i64 10, .int .i64 3]) = [.int .i64 (sel4 (n / 48 % 4) 0 0 10 3)] := sel_take _ _ _ _ f17 f18
  have f23 : (n % 4).toNat < 4 := by omega
  have f24 : (n / 48 % 4).toNat < 4 := by omega
  have f25 : (n % 4).toNat ≤ 3 := by omega
  have f26 : (n / 48 % 4).toNat ≤ 3 := by omega
  refine DK.seq ?_
  refine DK.region (is := [0]) (by kernel_rfl) rfl ?_
  refine WK.run [0] (by simp [f1, f2, f3, f4, f5, f6, f7, f8, f9, f10, f11, f12, f13, f14, f15, f16, f17, f18, f19, f20, f21, f22, f23, f24, f25, f26]; constructor <;> rfl) ?_
  refine WK.nil ?_
  refine DK.seq ?_
  refine DK.draw rfl (POk.of (ord := [0, 1, 2, 3, 4, 5, 6, 7, 8, 9, 10, 11, 12, 13, 14, 15, 16, 17, 18, 19, 20, 21, 22, 23, 24, 25, 26]) (by kernel_rfl)) ?_
  refine XK.run [0, 1, 2, 3, 4, 5, 6, 7, 8, 9] (by kernel_rfl) (by simp [f1, f2, f3, f4, f5, f6, f7, f8, f9, f10, f11, f12, f13, f14, f15, f16, f17, f18, f19, f20, f21, f22, f23, f24, f25, f26]; constructor <;> rfl) ?_
  refine XK.run [10, 11, 12, 13, 14, 15, 16, 17, 18, 19] (by kernel_rfl) (by simp [f1, f2, f3, f4, f5, f6, f7, f8, f9, f10, f11, f12, f13, f14, f15, f16, f17, f18, f19, f20, f21, f22, f23, f24, f25, f26]; constructor <;> rfl) ?_
  refine XK.run [20, 21, 22, 23, 24, 25] (by kernel_rfl) (by simp [f1, f2, f3, f4, f5, f6, f7, f8, f9, f10, f11, f12, f13, f14, f15, f16, f17, f18, f19, f20, f21, f22, f23, f24, f25, f26]; constructor <;> rfl) ?_
  refine XK.one rfl (by simp [f1, f2, f3, f4, f5, f6, f7, f8, f9, f10, f11, f12, f13, f14, f15, f16, f17, f18, f19, f20, f21, f22, f23, f24, f25, f26]) rfl (by simp [f1, f2, f3, f4, f5, f6, f7, f8, f9, f10, f11, f12, f13, f14, f15, f16, f17, f18, f19, f20, f21, f22, f23, f24, f25, f26]; constructor <;> rfl) (lag_list (l := []) (by kernel_rfl) rfl) ?_
  refine XK.nil ?_
  refine DK.ret ?_
  refine And.intro (Or.inr rfl) ?_
  refine ⟨_, by simp [absAnswer, absResults, absResult, Tryd.f20]; rfl, ?_⟩
  refine ⟨by first | exact ⟨[], (List.append_nil _).symm⟩ | exact ⟨_, rfl⟩, by simp, ?_⟩
  simp [planR]
  constructor <;> rfl
theorem rorder_s (x : At4) (hx : x.ok) (asks : List Nt) (hn : asks.length ≤ 100000000000) {s : Value} {H : Mem} (hR : RowAt H s asks) : FSem Tryd.prog [0] 13 #[x.v, s] H fun v H' => v = (orderR x asks).v ∧ H' = H := by
  refine FSem.plainT ?_
  refine FSem.ofK Tryd.func13 rfl ?_
  refine DK.from (b' := ⟨#[x.v, s, undef, undef, undef, undef, undef, undef, undef, undef, undef, undef, undef, undef, undef, undef, undef, undef, undef, undef, undef, undef, undef, undef, undef, undef, undef, undef, undef, undef, undef, undef, undef, undef, undef, undef, undef, undef, undef, undef, undef, undef, undef, undef, undef, undef, undef, undef, undef, undef, undef, undef, undef, undef, undef, undef, undef, undef, undef, undef, undef, undef, undef, undef, undef, undef, undef, undef, undef, undef, undef, undef, undef, undef, undef, undef, undef, undef, undef, undef, undef, undef, undef, undef, undef, undef, undef, undef, undef, undef, undef, undef, undef], []⟩) (by kernel_rfl) ?_
  obtain ⟨⟨k1, k2⟩, ⟨k3, k4⟩, ⟨k5, k6⟩, ⟨k7, k8⟩⟩ := hx
  have u1 : x.a.tmod 3 = x.a % 3 := tm _ _ (by omega)
  have u2 : x.k.tmod 14 = x.k % 14 := tm _ _ (by omega)
  have u3 : IntKind.i64.wrap (x.a % 3) = x.a % 3 := wrap_in _ (by omega) (by omega)
  have u4 : x.b.tmod 3 = x.b % 3 := tm _ _ (by omega)
  have u5 : IntKind.i64.wrap (x.b % 3) = x.b % 3 := wrap_in _ (by omega) (by omega)
  have u6 : x.b.tmod 5 = x.b % 5 := tm _ _ (by omega)
  have u7 : IntKind.u8.wrap (4 + x.b % 5) = 4 + x.b % 5 := wrap_u8 _ (by omega) (by omega)
  have u8 : x.c.tmod 40 = x.c % 40 := tm _ _ (by omega)
  have u9 : IntKind.i64.wrap (x.c % 40) = x.c % 40 := wrap_in _ (by omega) (by omega)
  have u10 : IntKind.i64.wrap (1 + x.c % 40) = 1 + x.c % 40 := wrap_in _ (by omega) (by omega)
  have u11 : x.c.tmod 9 = x.c % 9 := tm _ _ (by omega)
  have u12 : IntKind.i64.wrap (x.c % 9) = x.c % 9 := wrap_in _ (by omega) (by omega)
  have u13 : IntKind.i64.wrap (1 + x.c % 9) = 1 + x.c % 9 := wrap_in _ (by omega) (by omega)
  have u14 : IntKind.i64.wrap x.b = x.b := wrap_in _ (by omega) (by omega)
  have u15 : x.c.tmod 5 = x.c % 5 := tm _ _ (by omega)
  have u16 : 0 ≤ x.c % 5 := by omega
  have u17 : x.c % 5 < 5 := by omega
  have u18 : (x.c % 5).toNat + 1 ≤ 5 := by omega
  have u19 : List.take 1 (List.drop (x.c % 5).toNat [Value.int .u8 1, .int .u8 1, .int .u8 1, .int .u8 2, .int .u8 3]) = [.int .u8 (verR x.c)] := ver_take
  have u20 : (x.c % 5).toNat ≤ 4 := by omega
  have u21 : (x.c % 5).toNat < 5 := by omega
  have d := trivial
  have e := trivial
  have f := trivial
  have g := trivial
  have i := trivial
  have j := trivial
  have m := trivial
  have hln := lenNt hR
  refine DK.seq ?_
  refine DK.region (is := [0, 1]) (by kernel_rfl) rfl ?_
  refine WK.run [0, 1] (by simp [u1, u2, u3, u4, u5, u6, u7, u8, u9, u10, u11, u12, u13, u14, u15, u16, u17, u18, u19, u20, u21, d, e, f, g, i, j, m, hln]; constructor <;> rfl) ?_
  refine WK.nil ?_
  refine DK.seq ?_
  refine DK.region (is := [0, 1, 2, 3, 4]) (by kernel_rfl) rfl ?_
  refine WK.run [0, 1, 2, 3, 4] (by simp [u1, u2, u3, u4, u5, u6, u7, u8, u9, u10, u11, u12, u13, u14, u15, u16, u17, u18, u19, u20, u21, d, e, f, g, i, j, m, hln]; constructor <;> rfl) ?_
  refine WK.nil ?_
  refine DK.seq ?_
  refine DK.seq ?_
  refine DK.region (is := [0, 1, 2]) (by kernel_rfl) rfl ?_
  refine WK.run [0, 1, 2] (by simp [u1, u2, u3, u4, u5, u6, u7, u8, u9, u10, u11, u12, u13, u14, u15, u16, u17, u18, u19, u20, u21, d, e, f, g, i, j, m, hln]; constructor <;> rfl) ?_
  refine WK.nil ?_
  refine DK.block ?_
  refine DK.seq ?_
  refine DK.region (is := [0, 1]) (by kernel_rfl) rfl ?_
  refine WK.run [0, 1] (by simp [u1, u2, u3, u4, u5, u6, u7, u8, u9, u10, u11, u12, u13, u14, u15, u16, u17, u18, u19, u20, u21, d, e, f, g, i, j, m, hln]; constructor <;> rfl) ?_
  refine WK.nil ?_
  refine DK.test rfl rfl (fun h => ?_) (fun h => ?_)
  · try simp only [h]
    replace h := Tr.out h
    refine DK.seq ?_
    refine DK.region (is := [0, 1, 2, 3, 4]) (by kernel_rfl) rfl ?_
    refine WK.run [0, 1] (by simp [u1, u2, u3, u4, u5, u6, u7, u8, u9, u10, u11, u12, u13, u14, u15, u16, u17, u18, u19, u20, u21, d, e, f, g, i, j, m, hln]; constructor <;> rfl) ?_
    refine WK.call rfl (by simp [u1, u2, u3, u4, u5, u6, u7, u8, u9, u10, u11, u12, u13, u14, u15, u16, u17, u18, u19, u20, u21, d, e, f, g, i, j, m, hln]) (by simp [Tryd.func20, Tryd.f20, u1, u2, u3, u4, u5, u6, u7, u8, u9, u10, u11, u12, u13, u14, u15, u16, u17, u18, u19, u20, u21, d, e, f, g, i, j, m, hln]; constructor <;> rfl) ?_
    refine FSem.mono (rplan_s x.b (by omega) (by omega) _) ?_
    rintro _ _ ⟨rfl, rfl⟩
    refine WK.run [3, 4] (by simp [u1, u2, u3, u4, u5, u6, u7, u8, u9, u10, u11, u12, u13, u14, u15, u16, u17, u18, u19, u20, u21, d, e, f, g, i, j, m, hln]; constructor <;> rfl) ?_
    refine WK.nil ?_
    refine DK.ret ?_
    refine And.intro (Or.inr rfl) ?_
    refine ⟨_, by simp [absAnswer, absResults, absResult, Tryd.f13]; rfl, ?_⟩
    refine ⟨by first | exact ⟨[], (List.append_nil _).symm⟩ | exact ⟨_, rfl⟩, by simp, ?_⟩
    unfold orderR; simp_all [zeroP, zeroN]
  try simp only [h]
  replace h := Fa.out h
  refine DK.seq ?_
  refine DK.seq ?_
  refine DK.region (is := [0, 1]) (by kernel_rfl) rfl ?_
  refine WK.run [0, 1] (by simp [u1, u2, u3, u4, u5, u6, u7, u8, u9, u10, u11, u12, u13, u14, u15, u16, u17, u18, u19, u20, u21, d, e, f, g, i, j, m, hln]; constructor <;> rfl) ?_
  refine WK.nil ?_
  refine DK.test rfl rfl (fun h => ?_) (fun h => ?_)
  · try simp only [h]
    replace h := Tr.out h
    refine DK.skip ?_
    refine DK.yes rfl rfl ?_
    refine DK.seq ?_
    refine DK.region (is := [0, 1, 2, 3, 4, 5, 6]) (by kernel_rfl) rfl ?_
    refine WK.run [0, 1, 2, 3, 4, 5, 6] (by simp [u1, u2, u3, u4, u5, u6, u7, u8, u9, u10, u11, u12, u13, u14, u15, u16, u17, u18, u19, u20, u21, d, e, f, g, i, j, m, hln]; constructor <;> rfl) ?_
    refine WK.nil ?_
    refine DK.ret ?_
    refine And.intro (Or.inr rfl) ?_
    refine ⟨_, by simp [absAnswer, absResults, absResult, Tryd.f13]; rfl, ?_⟩
    refine ⟨by first | exact ⟨[], (List.append_nil _).symm⟩ | exact ⟨_, rfl⟩, by simp, ?_⟩
    unfold orderR; simp_all [zeroP, zeroN]
  try simp only [h]
  replace h := Fa.out h
  refine DK.region (is := [0, 1]) (by kernel_rfl) rfl ?_
  refine WK.run [0, 1] (by simp [u1, u2, u3, u4, u5, u6, u7, u8, u9, u10, u11, u12, u13, u14, u15, u16, u17, u18, u19, u20, u21, d, e, f, g, i, j, m, hln]; constructor <;> rfl) ?_
  refine WK.nil ?_
  refine DK.test rfl rfl (fun h => ?_) (fun h => ?_)
  · try simp only [h]
    replace h := Tr.out h
    refine DK.seq ?_
    refine DK.region (is := [0, 1, 2, 3, 4, 5, 6]) (by kernel_rfl) rfl ?_
    refine WK.run [0, 1, 2, 3, 4, 5, 6] (by simp [u1, u2, u3, u4, u5, u6, u7, u8, u9, u10, u11, u12, u13, u14, u15, u16, u17, u18, u19, u20, u21, d, e, f, g, i, j, m, hln]; constructor <;> rfl) ?_
    refine WK.nil ?_
    refine DK.ret ?_
    refine And.intro (Or.inr rfl) ?_
    refine ⟨_, by simp [absAnswer, absResults, absResult, Tryd.f13]; rfl, ?_⟩
    refine ⟨by first | exact ⟨[], (List.append_nil _).symm⟩ | exact ⟨_, rfl⟩, by simp, ?_⟩
    unfold orderR; simp_all [zeroP, zeroN]
  try simp only [h]
  replace h := Fa.out h
  refine DK.seq ?_
  refine DK.region (is := [0, 1]) (by kernel_rfl) rfl ?_
  refine WK.run [0, 1] (by simp [u1, u2, u3, u4, u5, u6, u7, u8, u9, u10, u11, u12, u13, u14, u15, u16, u17, u18, u19, u20, u21, d, e, f, g, i, j, m, hln]; constructor <;> rfl) ?_
  refine WK.nil ?_
  refine DK.test rfl rfl (fun h => ?_) (fun h => ?_)
  · try simp only [h]
    replace h := Tr.out h
    refine DK.seq ?_
    refine DK.region (is := [0, 1, 2, 3, 4, 5, 6]) (by kernel_rfl) rfl ?_
    refine WK.run [0, 1, 2, 3, 4, 5, 6] (by simp [u1, u2, u3, u4, u5, u6, u7, u8, u9, u10, u11, u12, u13, u14, u15, u16, u17, u18, u19, u20, u21, d, e, f, g, i, j, m, hln]; constructor <;> rfl) ?_
    refine WK.nil ?_
    refine DK.ret ?_
    refine And.intro (Or.inr rfl) ?_
    refine ⟨_, by simp [absAnswer, absResults, absResult, Tryd.f13]; rfl, ?_⟩
    refine ⟨by first | exact ⟨[], (List.append_nil _).symm⟩ | exact ⟨_, rfl⟩, by simp, ?_⟩
    unfold orderR; simp_all [zeroP, zeroN]
  try simp only [h]
  replace h := Fa.out h
  refine DK.seq ?_
  refine DK.region (is := [0, 1]) (by kernel_rfl) rfl ?_
  refine WK.run [0, 1] (by simp [u1, u2, u3, u4, u5, u6, u7, u8, u9, u10, u11, u12, u13, u14, u15, u16, u17, u18, u19, u20, u21, d, e, f, g, i, j, m, hln]; constructor <;> rfl) ?_
  refine WK.nil ?_
  refine DK.test rfl rfl (fun h => ?_) (fun h => ?_)
  · try simp only [h]
    replace h := Tr.out h
    refine DK.seq ?_
    refine DK.region (is := [0, 1, 2, 3, 4, 5, 6]) (by kernel_rfl) rfl ?_
    refine WK.run [0, 1, 2, 3, 4, 5, 6] (by simp [u1, u2, u3, u4, u5, u6, u7, u8, u9, u10, u11, u12, u13, u14, u15, u16, u17, u18, u19, u20, u21, d, e, f, g, i, j, m, hln]; constructor <;> rfl) ?_
    refine WK.nil ?_
    refine DK.ret ?_
    refine And.intro (Or.inr rfl) ?_
    refine ⟨_, by simp [absAnswer, absResults, absResult, Tryd.f13]; rfl, ?_⟩
    refine ⟨by first | exact ⟨[], (List.append_nil _).symm⟩ | exact ⟨_, rfl⟩, by simp, ?_⟩
    unfold orderR; simp_all [zeroP, zeroN]
  try simp only [h]
  replace h := Fa.out h
  refine DK.seq ?_
  refine DK.region (is := [0, 1]) (by kernel_rfl) rfl ?_
  refine WK.run [0, 1] (by simp [u1, u2, u3, u4, u5, u6, u7, u8, u9, u10, u11, u12, u13, u14, u15, u16, u17, u18, u19, u20, u21, d, e, f, g, i, j, m, hln]; constructor <;> rfl) ?_
  refine WK.nil ?_
  refine DK.test rfl rfl (fun h => ?_) (fun h => ?_)
  · try simp only [h]
    replace h := Tr.out h
    refine DK.seq ?_
    refine DK.region (is := [0, 1, 2]) (by kernel_rfl) rfl ?_
    refine WK.run [0, 1, 2] (by simp [u1, u2, u3, u4, u5, u6, u7, u8, u9, u10, u11, u12, u13, u14, u15, u16, u17, u18, u19, u20, u21, d, e, f, g, i, j, m, hln]; constructor <;> rfl) ?_
    refine WK.nil ?_
    refine DK.ret ?_
    refine And.intro (Or.inr rfl) ?_
    refine ⟨_, by simp [absAnswer, absResults, absResult, Tryd.f13]; rfl, ?_⟩
    refine ⟨by first | exact ⟨[], (List.append_nil _).symm⟩ | exact ⟨_, rfl⟩, by simp, ?_⟩
    unfold orderR; simp_all [zeroP, zeroN]
  try simp only [h]
  replace h := Fa.out h
  refine DK.seq ?_
  refine DK.seq ?_
  refine DK.region (is := [0, 1]) (by kernel_rfl) rfl ?_
  refine WK.run [0, 1] (by simp [u1, u2, u3, u4, u5, u6, u7, u8, u9, u10, u11, u12, u13, u14, u15, u16, u17, u18, u19, u20, u21, d, e, f, g, i, j, m, hln]; constructor <;> rfl) ?_
  refine WK.nil ?_
  refine DK.test rfl rfl (fun h => ?_) (fun h => ?_)
  · try simp only [h]
    replace h := Tr.out h
    refine DK.skip ?_
    refine DK.yes rfl rfl ?_
    refine DK.seq ?_
    refine DK.region (is := [0, 1, 2, 3, 4, 5, 6]) (by kernel_rfl) rfl ?_
    refine WK.run [0, 1, 2, 3, 4, 5, 6] (by simp [u1, u2, u3, u4, u5, u6, u7, u8, u9, u10, u11, u12, u13, u14, u15, u16, u17, u18, u19, u20, u21, d, e, f, g, i, j, m, hln]; constructor <;> rfl) ?_
    refine WK.nil ?_
    refine DK.ret ?_
    refine And.intro (Or.inr rfl) ?_
    refine ⟨_, by simp [absAnswer, absResults, absResult, Tryd.f13]; rfl, ?_⟩
    refine ⟨by first | exact ⟨[], (List.append_nil _).symm⟩ | exact ⟨_, rfl⟩, by simp, ?_⟩
    unfold orderR; simp_all [zeroP, zeroN]
  try simp only [h]
  replace h := Fa.out h
  refine DK.seq ?_
  refine DK.region (is := [0, 1]) (by kernel_rfl) rfl ?_
  refine WK.run [0, 1] (by simp [u1, u2, u3, u4, u5, u6, u7, u8, u9, u10, u11, u12, u13, u14, u15, u16, u17, u18, u19, u20, u21, d, e, f, g, i, j, m, hln]; constructor <;> rfl) ?_
  refine WK.nil ?_
  refine DK.test rfl rfl (fun h => ?_) (fun h => ?_)
  · try simp only [h]
    replace h := Tr.out h
    refine DK.skip ?_
    refine DK.yes rfl rfl ?_
    refine DK.seq ?_
    refine DK.region (is := [0, 1, 2, 3, 4, 5, 6]) (by kernel_rfl) rfl ?_
    refine WK.run [0, 1, 2, 3, 4, 5, 6] (by simp [u1, u2, u3, u4, u5, u6, u7, u8, u9, u10, u11, u12, u13, u14, u15, u16, u17, u18, u19, u20, u21, d, e, f, g, i, j, m, hln]; constructor <;> rfl) ?_
    refine WK.nil ?_
    refine DK.ret ?_
    refine And.intro (Or.inr rfl) ?_
    refine ⟨_, by simp [absAnswer, absResults, absResult, Tryd.f13]; rfl, ?_⟩
    refine ⟨by first | exact ⟨[], (List.append_nil _).symm⟩ | exact ⟨_, rfl⟩, by simp, ?_⟩
    unfold orderR; simp_all [zeroP, zeroN]
  try simp only [h]
  replace h := Fa.out h
  refine DK.region (is := [0, 1]) (by kernel_rfl) rfl ?_
  refine WK.run [0, 1] (by simp [u1, u2, u3, u4, u5, u6, u7, u8, u9, u10, u11, u12, u13, u14, u15, u16, u17, u18, u19, u20, u21, d, e, f, g, i, j, m, hln]; constructor <;> rfl) ?_
  refine WK.nil ?_
  refine DK.test rfl rfl (fun h => ?_) (fun h => ?_)
  · try simp only [h]
    replace h := Tr.out h
    refine DK.seq ?_
    refine DK.region (is := [0, 1, 2, 3, 4, 5, 6]) (by kernel_rfl) rfl ?_
    refine WK.run [0, 1, 2, 3, 4, 5, 6] (by simp [u1, u2, u3, u4, u5, u6, u7, u8, u9, u10, u11, u12, u13, u14, u15, u16, u17, u18, u19, u20, u21, d, e, f, g, i, j, m, hln]; constructor <;> rfl) ?_
    refine WK.nil ?_
    refine DK.ret ?_
    refine And.intro (Or.inr rfl) ?_
    refine ⟨_, by simp [absAnswer, absResults, absResult, Tryd.f13]; rfl, ?_⟩
    refine ⟨by first | exact ⟨[], (List.append_nil _).symm⟩ | exact ⟨_, rfl⟩, by simp, ?_⟩
    unfold orderR; simp_all [zeroP, zeroN]
  try simp only [h]
  replace h := Fa.out h
  refine DK.skip ?_
  refine DK.seq ?_
  refine DK.seq ?_
  refine DK.region (is := [0, 1, 2]) (by kernel_rfl) rfl ?_
  refine WK.run [0, 1, 2] (by simp [u1, u2, u3, u4, u5, u6, u7, u8, u9, u10, u11, u12, u13, u14, u15, u16, u17, u18, u19, u20, u21, d, e, f, g, i, j, m, hln]; constructor <;> rfl) ?_
  refine WK.nil ?_
  refine DK.test rfl rfl (fun h => ?_) (fun h => ?_)
  · try simp only [h]
    replace h := Tr.out h
    refine DK.seq ?_
    refine DK.region (is := [0, 1, 2, 3, 4, 5, 6]) (by kernel_rfl) rfl ?_
    refine WK.run [0, 1, 2, 3, 4, 5, 6] (by simp [u1, u2, u3, u4, u5, u6, u7, u8, u9, u10, u11, u12, u13, u14, u15, u16, u17, u18, u19, u20, u21, d, e, f, g, i, j, m, hln]; constructor <;> rfl) ?_
    refine WK.nil ?_
    refine DK.ret ?_
    refine And.intro (Or.inr rfl) ?_
    refine ⟨_, by simp [absAnswer, absResults, absResult, Tryd.f13]; rfl, ?_⟩
    refine ⟨by first | exact ⟨[], (List.append_nil _).symm⟩ | exact ⟨_, rfl⟩, by simp, ?_⟩
    unfold orderR; simp_all [zeroP, zeroN]
  try simp only [h]
  replace h := Fa.out h
  have hl0 : 0 < asks.length := by omega
  replace g : 0 ≤ x.b % asks.length := Int.emod_nonneg _ (by omega)
  replace i : x.b % asks.length < asks.length := Int.emod_lt_of_pos _ (by omega)
  replace j : x.b.tmod asks.length = x.b % asks.length := tm _ _ (by omega)
  replace m : ¬ (asks = []) := by rintro rfl; simp at hl0
  have hil : (x.b % asks.length).toNat < asks.length := by omega
  obtain ⟨b, o, ro, vs, rfl, hb, hle1, hge1⟩ := hR.blk hil
  replace d : ∀ r : Mem, (H ++ r)[b]? = some (.cells ro vs) := fun r => by rw [List.getElem?_append_left (List.getElem?_eq_some_iff.1 hb).1]; exact hb
  replace e : o + (x.b % asks.length).toNat * 6 + 6 ≤ vs.length := hle1
  replace f : List.take 6 (List.drop (o + (x.b % asks.length).toNat * 6) vs) = (asks[(x.b % asks.length).toNat]).l := hge1
  have hgd : asks.getD (x.b % asks.length).toNat zeroN = asks[(x.b % asks.length).toNat] := by simp [List.getD_eq_getElem?_getD, List.getElem?_eq_getElem hil]
  refine DK.skip ?_
  refine DK.seq ?_
  refine DK.region (is := [0, 1, 2, 3, 4, 5, 6, 7, 8, 9, 10]) (by kernel_rfl) rfl ?_
  refine WK.run [0, 1, 2, 3, 4, 5, 6, 7, 8, 9] (by simp [u1, u2, u3, u4, u5, u6, u7, u8, u9, u10, u11, u12, u13, u14, u15, u16, u17, u18, u19, u20, u21, d, e, f, g, i, j, m, hln]; constructor <;> rfl) ?_
  refine WK.run [10] (by simp [u1, u2, u3, u4, u5, u6, u7, u8, u9, u10, u11, u12, u13, u14, u15, u16, u17, u18, u19, u20, u21, d, e, f, g, i, j, m, hln]; constructor <;> rfl) ?_
  refine WK.nil ?_
  refine DK.seq ?_
  refine DK.region (is := [0, 1, 2, 3, 4, 5, 6, 7]) (by kernel_rfl) rfl ?_
  refine WK.run [0, 1, 2, 3, 4, 5, 6, 7] (by simp [u1, u2, u3, u4, u5, u6, u7, u8, u9, u10, u11, u12, u13, u14, u15, u16, u17, u18, u19, u20, u21, d, e, f, g, i, j, m, hln]; constructor <;> rfl) ?_
  refine WK.nil ?_
  refine DK.seq ?_
  refine DK.seq ?_
  refine DK.region (is := [0, 1, 2]) (by kernel_rfl) rfl ?_
  refine WK.run [0, 1, 2] (by simp [u1, u2, u3, u4, u5, u6, u7, u8, u9, u10, u11, u12, u13, u14, u15, u16, u17, u18, u19, u20, u21, d, e, f, g, i, j, m, hln]; constructor <;> rfl) ?_
  refine WK.nil ?_
  refine DK.test rfl rfl (fun h => ?_) (fun h => ?_)
  · try simp only [h]
    replace h := Tr.out h
    refine DK.region (is := [0, 1, 2, 3, 4]) (by kernel_rfl) rfl ?_
    refine WK.run [0, 1, 2, 3, 4] (by simp [u1, u2, u3, u4, u5, u6, u7, u8, u9, u10, u11, u12, u13, u14, u15, u16, u17, u18, u19, u20, u21, d, e, f, g, i, j, m, hln]; constructor <;> rfl) ?_
    refine WK.nil ?_
    refine DK.seq ?_
    refine DK.region (is := [0, 1, 2]) (by kernel_rfl) rfl ?_
    refine WK.run [0, 1, 2] (by simp [u1, u2, u3, u4, u5, u6, u7, u8, u9, u10, u11, u12, u13, u14, u15, u16, u17, u18, u19, u20, u21, d, e, f, g, i, j, m, hln]; constructor <;> rfl) ?_
    refine WK.nil ?_
    refine DK.ret ?_
    refine And.intro (Or.inr rfl) ?_
    refine ⟨_, by simp [absAnswer, absResults, absResult, Tryd.f13]; rfl, ?_⟩
    refine ⟨by first | exact ⟨[], (List.append_nil _).symm⟩ | exact ⟨_, rfl⟩, by simp, ?_⟩
    unfold orderR; simp_all [zeroP, zeroN]
  try simp only [h]
  replace h := Fa.out h
  refine DK.skip ?_
  refine DK.seq ?_
  refine DK.region (is := [0, 1, 2]) (by kernel_rfl) rfl ?_
  refine WK.run [0, 1, 2] (by simp [u1, u2, u3, u4, u5, u6, u7, u8, u9, u10, u11, u12, u13, u14, u15, u16, u17, u18, u19, u20, u21, d, e, f, g, i, j, m, hln]; constructor <;> rfl) ?_
  refine WK.nil ?_
  refine DK.ret ?_
  refine And.intro (Or.inr rfl) ?_
  refine ⟨_, by simp [absAnswer, absResults, absResult, Tryd.f13]; rfl, ?_⟩
  refine ⟨by first | exact ⟨[], (List.append_nil _).symm⟩ | exact ⟨_, rfl⟩, by simp, ?_⟩
  unfold orderR; simp_all [zeroP, zeroN]
end Go.Den
set_option linter.unusedVariables false
set_option maxRecDepth 100000
namespace Go.Den
open Go Go.Proofs
theorem step_g (k : Nat) (b : Bk) (o : Od) {sp : Value} {l : List As} {H : Mem} (hB : BkAt H sp l b) (hL : Lad H) (hk : BOk k b) (hk3 : k ≤ 300000000) (hu : UnOk b.pls) : FSem Tryd.prog [0] 16 #[bkv b.today sp l, o.v] H fun v H' => ∃ b' e sp' l', v = .tuple #[bkv b'.today sp' l', .int .i64 e] ∧ stepB b o = (b', e) ∧ BkAt H' sp' l' b' ∧ l'.length = 32 ∧ sp'.cells = #[sp'] ∧ sp'.oneCell' = true ∧ Keep H H' ∧ ∀ c, blkOf sp' = some c → blkOf sp = some c ∨ H.length ≤ c := by
  refine FSem.mono (step_s k b o hB hL hk hk3 hu) ?_
  rintro v H' ⟨sp', l', rfl, h, hk, hs⟩
  exact ⟨_, _, sp', l', rfl, rfl, h, h.len, h.pls.cells.1, h.pls.cells.2, hk, hs⟩
theorem plain_bk0 (t : Int) : plainV (bkv t (.slice none 0 0) zL) = true := by kernel_rfl
theorem newb_g (t : Int) (H : Mem) : FSem Tryd.prog [0] 12 #[.int .i64 t] H fun v H' => v = bkv t (.slice none 0 0) zL ∧ H = H' := by
  refine FSem.mono (FSem.plainT (K := fun v => v = bkv t (.slice none 0 0) zL) (FSem.mono (newb_s t H) ?_)) ?_
  · rintro v H' ⟨rfl, h⟩
    exact ⟨h, plain_bk0 t, rfl⟩
  · rintro v H' ⟨h1, h2⟩
    exact ⟨h1, h2.symm⟩
theorem rorder_g (x : At4) (hx : x.ok) (asks : List Nt) (hn : asks.length ≤ 100000000000) {s : Value} {H : Mem} (hR : RowAt H s asks) : FSem Tryd.prog [0] 13 #[x.v, s] H fun v H' => ∃ o : Od, v = o.v ∧ orderR x asks = o ∧ H = H' := by
  refine FSem.mono (rorder_s x hx asks hn hR) ?_
  rintro v H' ⟨rfl, rfl⟩
  exact ⟨_, rfl, rfl, rfl⟩
theorem take_sub {m f k n : Nat} {L X : List Value} (h : List.take m (List.drop n L) = X) (hfk : f + k ≤ m) : List.take k (List.drop (n + f) L) = List.take k (List.drop f X) := by
  rw [← h, List.drop_take, List.take_take, Nat.min_eq_left (by omega), List.drop_drop]
theorem sameL_app : ∀ (xs ys : List Value), sameL xs xs = true → sameL ys ys = true → sameL (xs ++ ys) (xs ++ ys) = true
  | [], ys, _, h => h
  | x :: xs, ys, h1, h2 => by
    simp only [sameL, Bool.and_eq_true, List.cons_append] at h1 ⊢
    exact ⟨h1.1, sameL_app xs ys h1.2 h2⟩
theorem rows_same {H : Mem} : ∀ l : List As, (∀ x ∈ l, OpenAt H x.s x.a.op) → sameL (rowV l) (rowV l) = true
  | [], _ => rfl
  | x :: l, h => by
    rw [rowV_cons]
    refine sameL_app _ _ ?_ (rows_same l fun y hy => h y (by simp [hy]))
    show sameL (x.a.l x.s) (x.a.l x.s) = true
    have := (h x (by simp)).same.1
    simp [sameL, this, same1_int, same1_bool]
theorem bk_same {H : Mem} {sp : Value} {l : List As} {b : Bk} (h : BkAt H sp l b) (t : Int) : sameL (BkL t sp l) (BkL t sp l) = true := by
  unfold BkL
  simp only [sameL, same1_int, h.pls.same.1, decide_true, Bool.true_and]
  exact rows_same l h.op
def p0 : Pl := ⟨100, 0, 30, 0, false, false⟩
def b1 : Bk := ⟨0, [p0], List.replicate 32 zeroA⟩
def a2 : Ac := ⟨1, 0, 0, 1, 1, 0, false, [⟨0, 0, 1, 100, 0, 1, 0, false⟩], 0, 0, 0, 0, 0⟩
def b2 : Bk := ⟨0, [p0], (List.replicate 32 zeroA).set 0 a2⟩
theorem awk1 : stepB (newB 0) ⟨1, 0, 0, 0, p0, zeroN⟩ = (b1, 0) := by
  unfold stepB
  rw [if_neg (by decide), if_pos rfl, if_neg (by decide)]
  rfl
theorem nth00 : nthF 0 0 30 0 = (0, 0) := by
  unfold nthF; rw [if_pos (by decide), nthO_zero (by decide) (by decide)]; rfl
theorem nth01 : nthF 0 0 30 1 = (30, 0) := by
  unfold nthF; rw [if_pos (by decide)]
  simp [nthO, Sea.nth, Sea.off, Sea.dayAdd, Sea.out]
theorem awkd : dayA (openAc 0 p0 0) p0 0 = (a2, 0) := by
  unfold dayA
  have e0 : dueA { openAc 0 p0 0 with op := (openAc 0 p0 0).op.map (fun c => wakeC c 0) } p0 = (0, 0) := nth00
  have hb : beginA { { openAc 0 p0 0 with op := (openAc 0 p0 0).op.map (fun c => wakeC c 0) } with ix := IntKind.i64.wrap ((openAc 0 p0 0).ix + 1) } p0 0 false = (a2, 0) := by decide +kernel
  rw [dayL_go (x := { openAc 0 p0 0 with op := (openAc 0 p0 0).op.map (fun c => wakeC c 0) }) (x2 := a2) (e2 := 0) (by decide) (by decide) (by rw [e0]) (by rw [e0]; decide) false (by simp [p0]) (by rw [e0]; exact hb)]
  simp only [ne_eq, not_true_eq_false, if_false]
  exact dayL_no _ (.inr (by show 0 < (nthF 0 0 30 1).1; rw [nth01]; decide))
theorem awk2 : stepB b1 ⟨2, 0, 0, 0, zeroP, zeroN⟩ = (b2, 0) := by
  unfold stepB
  rw [if_neg (by decide), if_neg (by decide), if_pos rfl]
  have : openB b1 ⟨2, 0, 0, 0, zeroP, zeroN⟩ = (a2, 0) := by
    unfold openB
    dsimp only
    rw [if_neg (by decide), if_neg (by decide), if_neg (by decide)]
    exact awkd
  rw [this]; rfl
theorem awk3 : b2.asks = [⟨1, 0, 0, 1, 100, 0⟩] := by decide +kernel
theorem hok0 : BOk 8000000 (newB 0) := ⟨(newB_ok 0).1.pls, fun a ha => ⟨((newB_ok 0).1.subs a ha).1, Nat.le_trans ((newB_ok 0).1.subs a ha).2 (by decide)⟩, (newB_ok 0).1.len⟩
theorem hok1 : BOk 8000000 b1 := ⟨by decide, fun a ha => by rw [List.eq_of_mem_replicate ha]; exact ⟨by decide, by simp [zeroA]⟩, by decide⟩
theorem hun1 : UnOk b1.pls := by intro p hp; simp [b1] at hp; subst hp; decide
theorem hok2 : BOk 12000000 b2 := by
  have := stepB_ok hok1 (show (stepB b1 ⟨2, 0, 0, 0, zeroP, zeroN⟩).2 = 0 by rw [awk2])
  rw [awk2] at this
  exact ⟨this.pls, fun a ha => ⟨(this.subs a ha).1, Nat.le_trans (this.subs a ha).2 (by decide)⟩, this.len⟩
end Go.Den
namespace Go.Den
open Go Go.Proofs
set_option maxRecDepth 100000
set_option maxHeartbeats 1000000
set_option linter.all false
attribute [local simp] evOps evOp absOp absBox absLoad absStore absField absIndexAddr absCells absBinOp absBin absInt absShift absUn absPick absNil absExtract absPlaces Instr.fill absBuiltin absMinMax plainV plainT allA flat cells_agg cells_int cells_bool cells_str cells_ptr cells_sl cells_map one_int one_bool one_str one_ptr one_sl one_map Act.eval Act.put Region.wanted yielded absCall TypeDesc.isRow
attribute [local simp high] bk_t bk_p bk_take bk_row BkL_len sp_bk sp_t sp_p
attribute [local simp] sp_nil sp_0 sp_s List.length_set
theorem awake_s {H : Mem} (hL : Lad H) : FSem Tryd.prog [0] 11 #[] H fun v H' => v = .bool true ∧ H' = H := by
  refine FSem.plainT ?_
  refine FSem.ofK Tryd.func11 rfl ?_
  refine DK.from (b' := ⟨#[undef, undef, undef, undef, undef, undef, undef, undef, undef, undef, undef, undef, undef, undef, undef, undef, undef, undef, undef, undef, undef, undef, undef, undef, undef, undef, undef, undef, undef, undef, undef, undef, undef, undef, undef, undef, undef, undef, undef, undef, undef, undef, undef, undef, undef, undef, undef, undef, undef, undef, undef, undef, undef, undef, undef, undef], []⟩) (by kernel_rfl) ?_
  have m := trivial
  have n := trivial
  have o := trivial
  have p := trivial
  have q := trivial
  have L := trivial
  have N := trivial
  have S := trivial
  have a := trivial
  have c := trivial
  have d := trivial
  have e := trivial
  have r := trivial
  have g := trivial
  have j := trivial
  have u := trivial
  have w := trivial
  have y := trivial
  have D := trivial
  have l := trivial
  have z := trivial
  have A := trivial
  have E := trivial
  have B := trivial
  have F := trivial
  have C := trivial
  have O := trivial
  have hL2 := hL
  have hkH := Keep.refl H
  refine DK.seq ?_
  refine DK.region (is := [0]) (by kernel_rfl) rfl ?_
  refine WK.run [0] (by simp [m, n, o, p, q, L, N, S, a, c, d, e, r, g, j, u, w, y, D, l, z, A, E, B, F, C, p0, zeroN, zeroP]; constructor <;> rfl) ?_
  refine WK.nil ?_
  refine DK.seq ?_
  refine DK.region (is := [0, 1, 2]) (by kernel_rfl) rfl ?_
  refine WK.call rfl (by simp [m, n, o, p, q, L, N, S, a, c, d, e, r, g, j, u, w, y, D, l, z, A, E, B, F, C, p0, zeroN, zeroP]) (by simp [Tryd.func12, Tryd.f12, m, n, o, p, q, L, N, S, a, c, d, e, r, g, j, u, w, y, D, l, z, A, E, B, F, C, p0, zeroN, zeroP]; constructor <;> rfl) ?_
  refine FSem.mono (newb_g 0 _) ?_
  rintro _ Hq ⟨rfl, hq⟩
  subst hq
  refine WK.run [1, 2] (by simp [m, n, o, p, q, L, N, S, a, c, d, e, r, g, j, u, w, y, D, l, z, A, E, B, F, C, p0, zeroN, zeroP]; constructor <;> rfl) ?_
  refine WK.nil ?_
  refine DK.abs (fun M0 => Keep H M0 ∧ M0[H.length]? = some (.cells false (BkL 0 (.slice none 0 0) zL))) ⟨Keep.app _ _, mem_app _ _⟩ ?_
  rintro M0 ⟨hkk, h_c1⟩
  replace L := h_c1
  replace hL2 := hL2.keep hkk
  replace hkH := hkH.keep hkk
  replace O := BkAt.new M0 0
  refine DK.seq ?_
  refine DK.region (is := [0, 1, 2, 3, 4, 5, 6, 7, 8, 9]) (by kernel_rfl) rfl ?_
  refine WK.run [0, 1, 2] (by simp [m, n, o, p, q, L, N, S, a, c, d, e, r, g, j, u, w, y, D, l, z, A, E, B, F, C, p0, zeroN, zeroP]; constructor <;> rfl) ?_
  refine WK.call rfl (by simp [m, n, o, p, q, L, N, S, a, c, d, e, r, g, j, u, w, y, D, l, z, A, E, B, F, C, p0, zeroN, zeroP]) (by simp [Tryd.func16, Tryd.f16, m, n, o, p, q, L, N, S, a, c, d, e, r, g, j, u, w, y, D, l, z, A, E, B, F, C, p0, zeroN, zeroP]; constructor <;> rfl) ?_
  refine FSem.mono (step_g 8000000 (newB 0) ⟨1, 0, 0, 0, p0, zeroN⟩ O hL2 hok0 (by decide) (newB_ok 0).2) ?_
  rintro _ M1 ⟨b', e', sp1, l1, rfl, hres, O, hl, hs0, hs1, hkk, hsb⟩
  rw [awk1] at hres
  obtain ⟨rfl, rfl⟩ := Prod.mk.inj hres
  replace r := hl
  replace d := hs0
  replace e := hs1
  replace a := bk_ones hs1
  replace L := hkk.cell L
  replace hL2 := hL2.keep hkk
  replace hkH := hkH.keep hkk
  refine WK.run [4, 5, 6, 7, 8, 9] (by simp [m, n, o, p, q, L, N, S, a, c, d, e, r, g, j, u, w, y, D, l, z, A, E, B, F, C, p0, zeroN, zeroP]; constructor <;> rfl) ?_
  refine WK.nil ?_
  refine DK.abs (fun M2 => Keep M1 M2 ∧ M2[M1.length]? = some (.cells false (BkL b1.today sp1 l1))) ⟨Keep.app _ _, mem_app _ _⟩ ?_
  rintro M2 ⟨hkk, h_c2⟩
  replace N := h_c2
  replace L := hkk.cell L
  replace hL2 := hL2.keep hkk
  replace O := O.keep hkk
  replace hkH := hkH.keep hkk
  refine DK.seq ?_
  refine DK.region (is := [0, 1, 2, 3, 4, 5, 6, 7, 8]) (by kernel_rfl) rfl ?_
  refine WK.run [0, 1] (by simp [m, n, o, p, q, L, N, S, a, c, d, e, r, g, j, u, w, y, D, l, z, A, E, B, F, C, p0, zeroN, zeroP]; constructor <;> rfl) ?_
  refine WK.call rfl (by simp [m, n, o, p, q, L, N, S, a, c, d, e, r, g, j, u, w, y, D, l, z, A, E, B, F, C, p0, zeroN, zeroP]) (by simp [Tryd.func16, Tryd.f16, m, n, o, p, q, L, N, S, a, c, d, e, r, g, j, u, w, y, D, l, z, A, E, B, F, C, p0, zeroN, zeroP]; constructor <;> rfl) ?_
  refine FSem.mono (step_g 8000000 b1 ⟨2, 0, 0, 0, zeroP, zeroN⟩ O hL2 hok1 (by decide) hun1) ?_
  rintro _ M3 ⟨b', e', sp2, l2, rfl, hres, O, hl, hs0, hs1, hkk, hsb⟩
  rw [awk2] at hres
  obtain ⟨rfl, rfl⟩ := Prod.mk.inj hres
  replace u := hl
  replace g := hs0
  replace j := hs1
  replace c := bk_ones hs1
  replace L := hkk.cell L
  replace N := hkk.cell N
  replace hL2 := hL2.keep hkk
  replace hkH := hkH.keep hkk
  refine WK.run [3, 4, 5, 6, 7, 8] (by simp [m, n, o, p, q, L, N, S, a, c, d, e, r, g, j, u, w, y, D, l, z, A, E, B, F, C, p0, zeroN, zeroP]; constructor <;> rfl) ?_
  refine WK.nil ?_
  refine DK.abs (fun M4 => Keep M3 M4 ∧ M4[M3.length]? = some (.cells false (BkL b2.today sp2 l2))) ⟨Keep.app _ _, mem_app _ _⟩ ?_
  rintro M4 ⟨hkk, h_c3⟩
  replace S := h_c3
  replace L := hkk.cell L
  replace N := hkk.cell N
  replace hL2 := hL2.keep hkk
  replace O := O.keep hkk
  replace hkH := hkH.keep hkk
  refine DK.seq ?_
  refine DK.region (is := [0, 1, 2]) (by kernel_rfl) rfl ?_
  refine WK.run [0] (by simp [m, n, o, p, q, L, N, S, a, c, d, e, r, g, j, u, w, y, D, l, z, A, E, B, F, C, p0, zeroN, zeroP]; constructor <;> rfl) ?_
  refine WK.call rfl (by simp [m, n, o, p, q, L, N, S, a, c, d, e, r, g, j, u, w, y, D, l, z, A, E, B, F, C, p0, zeroN, zeroP]) (by simp [Tryd.func14, Tryd.f14, m, n, o, p, q, L, N, S, a, c, d, e, r, g, j, u, w, y, D, l, z, A, E, B, F, C, p0, zeroN, zeroP]; constructor <;> rfl) ?_
  refine FSem.mono (basks_s 12000000 b2 O hok2 (by decide)) ?_
  rintro _s5 M5 ⟨hA, hR, hW, hN⟩
  have hkk := Keep.of hA
  replace L := hkk.cell L
  replace N := hkk.cell N
  replace S := hkk.cell S
  replace hL2 := hL2.keep hkk
  replace O := O.keep hkk
  replace hkH := hkH.keep hkk
  rw [awk3] at hR
  replace z := hR.cells.1
  replace A := hR.cells.2
  replace C := lenNt hR
  obtain ⟨b, of, ro, vs, rfl, hb, hle, hge⟩ := hR.blk (i := 0) (by decide)
  replace y := hb
  replace l : of + 6 ≤ vs.length := hle
  replace m : List.take 1 (List.drop of vs) = [.int .u8 1] := take_sub (f := 0) (k := 1) hge (by decide)
  replace o : List.take 1 (List.drop (of + 4) vs) = [.int .i64 100] := take_sub (f := 4) (k := 1) hge (by decide)
  replace n : of + 1 ≤ vs.length := by omega
  replace p : of + 5 ≤ vs.length := by omega
  replace q : of + 4 + 1 ≤ vs.length := by omega
  obtain ⟨x, hxa, hxl, hxo, htk1, hst, hpt⟩ := O.sub (i := 0) (by decide) (by decide)
  replace w : List.take 1 (List.drop 9 (BkL b2.today sp2 l2)) = [x.s] := take_sub (f := 7) (k := 1) (htk1 b2.today) (by decide)
  replace B : ∀ K, absLen Tryd.prog K 28 x.s = some (.int .i64 1) := fun K => by rw [hxo.lenK K, hxa]; rfl
  refine WK.run [2] (by simp [m, n, o, p, q, L, N, S, a, c, d, e, r, g, j, u, w, y, D, l, z, A, E, B, F, C, p0, zeroN, zeroP]; constructor <;> rfl) ?_
  refine WK.nil ?_
  refine DK.seq ?_
  refine DK.region (is := [0, 1, 2, 3, 4, 5, 6, 7, 8, 9, 10, 11, 12, 13, 14, 15, 16, 17, 18, 19, 20, 21, 22, 23, 24, 25, 26, 27, 28, 29, 30, 31, 32, 33]) (by kernel_rfl) rfl ?_
  refine WK.run [0, 1, 2] (by simp [m, n, o, p, q, L, N, S, a, c, d, e, r, g, j, u, w, y, D, l, z, A, E, B, F, C, p0, zeroN, zeroP]; constructor <;> rfl) ?_
  refine WK.split (t := 25) rfl (fun h => ?_) (fun h => ?_)
  · try simp only [h]
    replace h := Tr.out h
    refine WK.run [3, 4, 5, 6] (by simp [m, n, o, p, q, L, N, S, a, c, d, e, r, g, j, u, w, y, D, l, z, A, E, B, F, C, p0, zeroN, zeroP]; constructor <;> rfl) ?_
    refine WK.split (t := 29) rfl (fun h => ?_) (fun h => ?_)
    · try simp only [h]
      replace h := Tr.out h
      refine WK.run [7, 8, 9, 10, 11, 12, 13, 14] (by simp [m, n, o, p, q, L, N, S, a, c, d, e, r, g, j, u, w, y, D, l, z, A, E, B, F, C, p0, zeroN, zeroP]; constructor <;> rfl) ?_
      refine WK.split (t := 37) rfl (fun h => ?_) (fun h => ?_)
      · try simp only [h]
        replace h := Tr.out h
        refine WK.run [15, 16, 17, 18, 19] (by simp [m, n, o, p, q, L, N, S, a, c, d, e, r, g, j, u, w, y, D, l, z, A, E, B, F, C, p0, zeroN, zeroP]; constructor <;> rfl) ?_
        refine WK.split (t := 42) rfl (fun h => ?_) (fun h => ?_)
        · try simp only [h]
          replace h := Tr.out h
          refine WK.run [20, 21, 22, 23, 24, 25, 26] (by simp [m, n, o, p, q, L, N, S, a, c, d, e, r, g, j, u, w, y, D, l, z, A, E, B, F, C, p0, zeroN, zeroP]; constructor <;> rfl) ?_
          refine WK.split (t := 49) rfl (fun h => ?_) (fun h => ?_)
          · try simp only [h]
            replace h := Tr.out h
            refine WK.run [27, 28, 29, 30, 31, 32, 33] (by simp [m, n, o, p, q, L, N, S, a, c, d, e, r, g, j, u, w, y, D, l, z, A, E, B, F, C, p0, zeroN, zeroP]; constructor <;> rfl) ?_
            refine WK.nil ?_
            refine DK.ret ?_
            refine And.intro (Or.inr rfl) ?_
            refine ⟨_, by simp [absAnswer, absResults, absResult, Tryd.f11]; rfl, ?_⟩
            exact ⟨hkH.ext, by simp, by simp⟩
          try simp only [h]
          replace h := Fa.out h
          cases h
        try simp only [h]
        replace h := Fa.out h
        cases h
      try simp only [h]
      replace h := Fa.out h
      cases h
    try simp only [h]
    replace h := Fa.out h
    cases h
  try simp only [h]
  replace h := Fa.out h
  cases h
end Go.Den
namespace Go.Den
open Go Go.Proofs
set_option maxRecDepth 100000
set_option maxHeartbeats 8000000
set_option linter.all false
attribute [local simp] evOps evOp absOp absBox absLoad absStore absField absCells absBinOp absBin absInt absShift absUn absPick absNil absExtract absPlaces Instr.fill absBuiltin absMinMax plainV plainT allA flat cells_agg cells_int cells_bool cells_str cells_ptr cells_sl cells_map one_int one_bool one_str one_ptr one_sl one_map Act.eval Act.put Region.wanted yielded absCall TypeDesc.isRow
attribute [local simp high] bk_t bk_p bk_take bk_row BkL_len sp_bk sp_t sp_p
attribute [local simp] sp_nil sp_0 sp_s List.length_set
theorem iy23 (H : Mem) (n q len c : Nat) (k : IntKind) (i : Int) : absIndexAddr Tryd.prog H 23 (.slice (some ⟨n, q, none⟩) len c) (.int k i) = if 0 ≤ i ∧ i < len then some (.pointer (some ⟨n, q + i.toNat * 4, none⟩)) else none := by
  simp [absIndexAddr, Tryd.underlying23]
theorem iy78 (H : Mem) (n q len c : Nat) (k : IntKind) (i : Int) : absIndexAddr Tryd.prog H 78 (.slice (some ⟨n, q, none⟩) len c) (.int k i) = if 0 ≤ i ∧ i < len then some (.pointer (some ⟨n, q + i.toNat * 1, none⟩)) else none := by
  simp [absIndexAddr, Tryd.underlying78]
attribute [local simp] iy23 iy78
theorem pleft_s {k : Nat} {s : Value} {p : List By} {e : Int} {H : Mem} (hB : BoxAt H k s p e) : FSem Tryd.prog [0] 24 #[.pointer (some ⟨k, 0, none⟩)] H fun v H' => v = .int .i64 p.length ∧ H' = H := by
  refine FSem.plainT ?_
  refine FSem.ofK Tryd.func24 rfl ?_
  refine DK.from (b' := ⟨#[.pointer (some ⟨k, 0, none⟩), undef, undef, undef, undef, undef, undef, undef, undef, undef], []⟩) (by kernel_rfl) ?_
  have d := trivial
  have a := trivial
  have b := trivial
  have c := trivial
  replace d := hB.cell
  replace a := hB.row.cells.1
  replace b := hB.row.cells.2
  replace c := lenBy hB.row
  refine DK.seq ?_
  refine DK.region (is := [0]) (by kernel_rfl) rfl ?_
  refine WK.run [0] (by simp [d, a, b, c]; constructor <;> rfl) ?_
  refine WK.nil ?_
  refine DK.seq ?_
  refine DK.seq ?_
  refine DK.region (is := [0, 1]) (by kernel_rfl) rfl ?_
  refine WK.run [0, 1] (by simp [d, a, b, c]; constructor <;> rfl) ?_
  refine WK.nil ?_
  refine DK.test rfl rfl (fun h => ?_) (fun h => ?_)
  · try simp only [h]
    replace h := Tr.out h
    cases h
  try simp only [h]
  replace h := Fa.out h
  refine DK.skip ?_
  refine DK.seq ?_
  refine DK.region (is := [0, 1, 2, 3, 4, 5]) (by kernel_rfl) rfl ?_
  refine WK.run [0, 1, 2] (by simp [d, a, b, c]; constructor <;> rfl) ?_
  refine WK.run [3, 4, 5] (by simp [d, a, b, c]; constructor <;> rfl) ?_
  refine WK.nil ?_
  refine DK.ret ?_
  refine And.intro (Or.inr rfl) ?_
  refine ⟨_, by simp [absAnswer, absResults, absResult, Tryd.f24]; rfl, ?_⟩
  exact ⟨⟨[], (List.append_nil _).symm⟩, by simp, by simp⟩
theorem reads_law (p : List By) (hp : ByOk p) (acts : List At4) (hao : ∀ a ∈ acts, a.ok) (a : Int) (ha0 : 0 ≤ a) (ha1 : a < 65536) (tn : Int) {wp sa : Value} {H : Mem} (hL : Lad H) (hP0 : RowAt H wp p) (hA : RowAt H sa acts) : FSem Tryd.prog [0] 10 #[wp, sa, .int .u16 a, .int .u8 tn] H fun v H' => v = .bool true ∧ H' = H := by
  refine FSem.plainT ?_
  refine FSem.ofK Tryd.func10 rfl ?_
  refine DK.from (b' := ⟨#[wp, sa, .int .u16 a, .int .u8 tn, undef, undef, undef, undef, undef, undef, undef, undef, undef, undef, undef, undef, undef, undef, undef, undef, undef, undef, undef, undef, undef, undef, undef, undef, undef, undef, undef, undef, undef, undef, undef, undef, undef, undef, undef, undef, undef, undef, undef, undef, undef, undef, undef, undef, undef, undef, undef, undef, undef, undef, undef, undef, undef, undef, undef, undef, undef, undef, undef, undef, undef, undef, undef, undef, undef, undef, undef, undef, undef, undef, undef, undef, undef, undef, undef, undef, undef, undef, undef, undef, undef, undef, undef, undef, undef, undef, undef, undef, undef, undef, undef, undef, undef, undef, undef, undef, undef], []⟩) (by kernel_rfl) ?_
  have cb := trivial
  have O := trivial
  have c9 := trivial
  have s := trivial
  have V := trivial
  have S := trivial
  have m := trivial
  have f := trivial
  have u := trivial
  have w := trivial
  have W := trivial
  have b8 := trivial
  have b9 := trivial
  have K := trivial
  have X := trivial
  have Y := trivial
  have x := trivial
  have F := trivial
  have n := trivial
  have z := trivial
  have A := trivial
  have j := trivial
  have Z := trivial
  have a0 := trivial
  have a1 := trivial
  have U := trivial
  have a2 := trivial
  have B := trivial
  have a3 := trivial
  have C := trivial
  have D := trivial
  have a4 := trivial
  have a5 := trivial
  have a6 := trivial
  have o := trivial
  have a7 := trivial
  have a8 := trivial
  have a9 := trivial
  have L := trivial
  have N := trivial
  have cl := trivial
  have b0 := trivial
  have b1 := trivial
  have b3 := trivial
  have g := trivial
  have cd := trivial
  have E := trivial
  have b4 := trivial
  have b5 := trivial
  have b6 := trivial
  have h3 := trivial
  have b7 := trivial
  have hL2 := hL
  have x := lenAt hA
  have c2 := trivial
  have c3 := trivial
  have c5 := trivial
  have c4 := trivial
  have c0 := trivial
  replace a0 := lenBy hP0
  have c1 := trivial
  have c6 := trivial
  refine DK.seq ?_
  refine DK.region (is := [0]) (by kernel_rfl) rfl ?_
  refine WK.run [0] (by simp [cb, O, c9, s, V, S, m, f, u, w, W, b8, b9, K, X, Y, x, F, n, z, A, j, Z, a0, a1, U, a2, B, a3, C, D, a4, a5, a6, o, a7, a8, a9, L, N, cl, b0, b1, b3, g, cd, E, b4, b5, b6, h3, b7]; constructor <;> rfl) ?_
  refine WK.nil ?_
  have hk0 := Keep.refl H
  have c0 := Keep.refl H
  refine DK.seq ?_
  refine DK.seq ?_
  refine DK.region (is := [0, 1, 2, 3, 4, 5, 6, 7, 8, 9, 10, 11]) (by kernel_rfl) rfl ?_
  refine WK.call rfl (by simp [cb, O, c9, s, V, S, m, f, u, w, W, b8, b9, K, X, Y, x, F, n, z, A, j, Z, a0, a1, U, a2, B, a3, C, D, a4, a5, a6, o, a7, a8, a9, L, N, cl, b0, b1, b3, g, cd, E, b4, b5, b6, h3, b7]) (by simp [Tryd.func11, Tryd.f11, cb, O, c9, s, V, S, m, f, u, w, W, b8, b9, K, X, Y, x, F, n, z, A, j, Z, a0, a1, U, a2, B, a3, C, D, a4, a5, a6, o, a7, a8, a9, L, N, cl, b0, b1, b3, g, cd, E, b4, b5, b6, h3, b7]; constructor <;> rfl) ?_
  refine FSem.mono (awake_s hL2) ?_
  rintro _ Hq ⟨rfl, hq⟩
  replace hq := hq.symm
  subst hq
  refine WK.run [1, 2, 3] (by simp [cb, O, c9, s, V, S, m, f, u, w, W, b8, b9, K, X, Y, x, F, n, z, A, j, Z, a0, a1, U, a2, B, a3, C, D, a4, a5, a6, o, a7, a8, a9, L, N, cl, b0, b1, b3, g, cd, E, b4, b5, b6, h3, b7]; constructor <;> rfl) ?_
  refine WK.run [4, 5, 6] (by simp [cb, O, c9, s, V, S, m, f, u, w, W, b8, b9, K, X, Y, x, F, n, z, A, j, Z, a0, a1, U, a2, B, a3, C, D, a4, a5, a6, o, a7, a8, a9, L, N, cl, b0, b1, b3, g, cd, E, b4, b5, b6, h3, b7]; constructor <;> rfl) ?_
  refine WK.run [7] (by simp [cb, O, c9, s, V, S, m, f, u, w, W, b8, b9, K, X, Y, x, F, n, z, A, j, Z, a0, a1, U, a2, B, a3, C, D, a4, a5, a6, o, a7, a8, a9, L, N, cl, b0, b1, b3, g, cd, E, b4, b5, b6, h3, b7]; constructor <;> rfl) ?_
  refine WK.split (t := 25) rfl (fun h => ?_) (fun h => ?_)
  · try simp only [h]
    replace h := Tr.out h
    refine WK.run [8, 9, 10] (by simp [cb, O, c9, s, V, S, m, f, u, w, W, b8, b9, K, X, Y, x, F, n, z, A, j, Z, a0, a1, U, a2, B, a3, C, D, a4, a5, a6, o, a7, a8, a9, L, N, cl, b0, b1, b3, g, cd, E, b4, b5, b6, h3, b7]; constructor <;> rfl) ?_
    refine WK.run [11] (by simp [cb, O, c9, s, V, S, m, f, u, w, W, b8, b9, K, X, Y, x, F, n, z, A, j, Z, a0, a1, U, a2, B, a3, C, D, a4, a5, a6, o, a7, a8, a9, L, N, cl, b0, b1, b3, g, cd, E, b4, b5, b6, h3, b7]; constructor <;> rfl) ?_
    refine WK.nil ?_
    refine DK.yes rfl rfl ?_
    refine DK.seq ?_
    refine DK.region (is := [0, 1]) (by kernel_rfl) rfl ?_
    refine WK.call rfl (by simp [cb, O, c9, s, V, S, m, f, u, w, W, b8, b9, K, X, Y, x, F, n, z, A, j, Z, a0, a1, U, a2, B, a3, C, D, a4, a5, a6, o, a7, a8, a9, L, N, cl, b0, b1, b3, g, cd, E, b4, b5, b6, h3, b7]) (by simp [Tryd.func11, Tryd.f11, cb, O, c9, s, V, S, m, f, u, w, W, b8, b9, K, X, Y, x, F, n, z, A, j, Z, a0, a1, U, a2, B, a3, C, D, a4, a5, a6, o, a7, a8, a9, L, N, cl, b0, b1, b3, g, cd, E, b4, b5, b6, h3, b7]; constructor <;> rfl) ?_
    refine FSem.mono (awake_s hL2) ?_
    rintro _ Hq ⟨rfl, hq⟩
    replace hq := hq.symm
    subst hq
    refine WK.run [1] (by simp [cb, O, c9, s, V, S, m, f, u, w, W, b8, b9, K, X, Y, x, F, n, z, A, j, Z, a0, a1, U, a2, B, a3, C, D, a4, a5, a6, o, a7, a8, a9, L, N, cl, b0, b1, b3, g, cd, E, b4, b5, b6, h3, b7]; constructor <;> rfl) ?_
    refine WK.nil ?_
    refine DK.ret ?_
    refine And.intro (Or.inr rfl) ?_
    refine ⟨_, by simp [absAnswer, absResults, absResult, Tryd.f10]; rfl, ?_⟩
    first | exact ⟨((hk0.trans c0).trans (c1.trans hKO9)).ext, by simp, by simp⟩ | exact ⟨⟨[], (List.append_nil _).symm⟩, by simp, by simp⟩
  try simp only [h]
  replace h := Fa.out h
  have hlp100 : p.length ≤ 100 := by omega
  refine WK.run [8, 9, 10] (by simp [cb, O, c9, s, V, S, m, f, u, w, W, b8, b9, K, X, Y, x, F, n, z, A, j, Z, a0, a1, U, a2, B, a3, C, D, a4, a5, a6, o, a7, a8, a9, L, N, cl, b0, b1, b3, g, cd, E, b4, b5, b6, h3, b7]; constructor <;> rfl) ?_
  refine WK.run [11] (by simp [cb, O, c9, s, V, S, m, f, u, w, W, b8, b9, K, X, Y, x, F, n, z, A, j, Z, a0, a1, U, a2, B, a3, C, D, a4, a5, a6, o, a7, a8, a9, L, N, cl, b0, b1, b3, g, cd, E, b4, b5, b6, h3, b7]; constructor <;> rfl) ?_
  refine WK.nil ?_
  refine DK.test rfl rfl (fun h => ?_) (fun h => ?_)
  · try simp only [h]
    replace h := Tr.out h
    refine DK.seq ?_
    refine DK.region (is := [0, 1]) (by kernel_rfl) rfl ?_
    refine WK.call rfl (by simp [cb, O, c9, s, V, S, m, f, u, w, W, b8, b9, K, X, Y, x, F, n, z, A, j, Z, a0, a1, U, a2, B, a3, C, D, a4, a5, a6, o, a7, a8, a9, L, N, cl, b0, b1, b3, g, cd, E, b4, b5, b6, h3, b7]) (by simp [Tryd.func11, Tryd.f11, cb, O, c9, s, V, S, m, f, u, w, W, b8, b9, K, X, Y, x, F, n, z, A, j, Z, a0, a1, U, a2, B, a3, C, D, a4, a5, a6, o, a7, a8, a9, L, N, cl, b0, b1, b3, g, cd, E, b4, b5, b6, h3, b7]; constructor <;> rfl) ?_
    refine FSem.mono (awake_s hL2) ?_
    rintro _ Hq ⟨rfl, hq⟩
    replace hq := hq.symm
    subst hq
    refine WK.run [1] (by simp [cb, O, c9, s, V, S, m, f, u, w, W, b8, b9, K, X, Y, x, F, n, z, A, j, Z, a0, a1, U, a2, B, a3, C, D, a4, a5, a6, o, a7, a8, a9, L, N, cl, b0, b1, b3, g, cd, E, b4, b5, b6, h3, b7]; constructor <;> rfl) ?_
    refine WK.nil ?_
    refine DK.ret ?_
    refine And.intro (Or.inr rfl) ?_
    refine ⟨_, by simp [absAnswer, absResults, absResult, Tryd.f10]; rfl, ?_⟩
    first | exact ⟨((hk0.trans c0).trans (c1.trans hKO9)).ext, by simp, by simp⟩ | exact ⟨⟨[], (List.append_nil _).symm⟩, by simp, by simp⟩
  try simp only [h]
  replace h := Fa.out h
  refine DK.skip ?_
  refine DK.seq ?_
  refine DK.region (is := [0, 1, 2]) (by kernel_rfl) rfl ?_
  refine WK.call rfl (by simp [cb, O, c9, s, V, S, m, f, u, w, W, b8, b9, K, X, Y, x, F, n, z, A, j, Z, a0, a1, U, a2, B, a3, C, D, a4, a5, a6, o, a7, a8, a9, L, N, cl, b0, b1, b3, g, cd, E, b4, b5, b6, h3, b7]) (by simp [Tryd.func12, Tryd.f12, cb, O, c9, s, V, S, m, f, u, w, W, b8, b9, K, X, Y, x, F, n, z, A, j, Z, a0, a1, U, a2, B, a3, C, D, a4, a5, a6, o, a7, a8, a9, L, N, cl, b0, b1, b3, g, cd, E, b4, b5, b6, h3, b7]; constructor <;> rfl) ?_
  refine FSem.mono (newb_g (700000) _) ?_
  rintro _ Hq ⟨rfl, hq⟩
  subst hq
  refine WK.run [1, 2] (by simp [cb, O, c9, s, V, S, m, f, u, w, W, b8, b9, K, X, Y, x, F, n, z, A, j, Z, a0, a1, U, a2, B, a3, C, D, a4, a5, a6, o, a7, a8, a9, L, N, cl, b0, b1, b3, g, cd, E, b4, b5, b6, h3, b7]; constructor <;> rfl) ?_
  refine WK.nil ?_
  refine DK.abs (fun M1 => Keep H M1 ∧ M1[H.length]? = some (.cells false (BkL (700000) (.slice none 0 0) zL))) ⟨Keep.app _ _, mem_app _ _⟩ ?_
  rintro M1 ⟨hkk, h_cb⟩
  replace cb := h_cb
  replace hL2 := hL2.keep hkk
  have c0 := hkk
  replace c2 := BkAt.new M1 (700000)
  refine DK.seq ?_
  refine DK.seq ?_
  refine DK.region (is := [0]) (by kernel_rfl) rfl ?_
  refine WK.run [0] (by simp [cb, O, c9, s, V, S, m, f, u, w, W, b8, b9, K, X, Y, x, F, n, z, A, j, Z, a0, a1, U, a2, B, a3, C, D, a4, a5, a6, o, a7, a8, a9, L, N, cl, b0, b1, b3, g, cd, E, b4, b5, b6, h3, b7]; constructor <;> rfl) ?_
  refine WK.nil ?_
  refine DK.block ?_
  refine DK.loopF [10, 11, 12, 32, 33, 34, 35, 36, 37, 38, 39, 40, 41, 42, 43, 44, 45, 46, 47, 48, 49, 50, 51, 52] [10] (fun fl vs H' => ∃ (i : Int) (b : Bk) (sp : Value) (l : List As), vs = [.int .i64 i] ∧ (Keep H H' ∧ H'[H.length]? = some (.cells false (BkL b.today sp l)) ∧ BkAt H' sp l b ∧ Lad H') ∧ 0 ≤ i ∧ i ≤ acts.length ∧ (∀ c, blkOf sp = some c → H.length < c) ∧ b = playB (acts.take i.toNat) (newB (700000)) ∧ fl = (acts.length - i).toNat) (acts.length) (by kernel_rfl) ?_ ?_
  · refine ⟨_, newB (700000), .slice none 0 0, zL, rfl, ?_⟩
    exact ⟨⟨c0, cb, c2, hL2⟩, by omega, by omega, fun c hc => (by cases hc), rfl, by omega⟩
  rintro fl f1j M ⟨i, b, sp, l, hv, hf⟩
  clear c0 c2 hL2
  obtain ⟨⟨c0, cb0, c2, hL2⟩, hj0, hj1, hspn, hpb, hfl⟩ := hf
  have hP : PlayOk i.toNat b := by rw [hpb]; exact play_ok hao _ _ (by omega)
  replace cb := cb0
  replace O : ∀ r : Mem, (M ++ r)[H.length]? = some (.cells false (BkL b.today sp l)) := fun r => (Keep.app _ _).cell cb0
  replace V := c2.pls.cells.1
  replace S := c2.pls.cells.2
  replace m := c2.len
  replace s := bk_ones S
  replace Z := bk_same c2
  simp only [List.map_cons, List.map_nil, List.cons.injEq, and_true] at hv
  have hv1_0 := hv
  refine DK.from ((setL_S (by decide) _ _).trans (by simp [setS, hv1_0]; exact rfl)) ?_
  refine DK.seq ?_
  refine DK.seq ?_
  refine DK.region (is := [0, 1, 2, 3]) (by kernel_rfl) rfl ?_
  refine WK.run [0, 1, 2] (by simp [cb, O, c9, s, V, S, m, f, u, w, W, b8, b9, K, X, Y, x, F, n, z, A, j, Z, a0, a1, U, a2, B, a3, C, D, a4, a5, a6, o, a7, a8, a9, L, N, cl, b0, b1, b3, g, cd, E, b4, b5, b6, h3, b7]; constructor <;> rfl) ?_
  refine WK.run [3] (by simp [cb, O, c9, s, V, S, m, f, u, w, W, b8, b9, K, X, Y, x, F, n, z, A, j, Z, a0, a1, U, a2, B, a3, C, D, a4, a5, a6, o, a7, a8, a9, L, N, cl, b0, b1, b3, g, cd, E, b4, b5, b6, h3, b7]; constructor <;> rfl) ?_
  refine WK.nil ?_
  refine DK.test rfl rfl (fun h => ?_) (fun h => ?_)
  · try simp only [h]
    replace h := Tr.out h
    replace X : 0 ≤ i := hj0
    replace Y : i < acts.length := h
    have hil : i.toNat < acts.length := by omega
    have hwr1 : IntKind.i64.wrap (i + 1) = i + 1 := wrap_in _ (by omega) (by omega)
    replace K := hwr1
    obtain ⟨bA, oA, roA, vsA, hsaE, hbA0, hle0, hge0⟩ := hA.blk hil
    subst hsaE
    replace F := (hk0.trans c0).cell hbA0
    replace n : ∀ r : Mem, (M ++ r)[bA]? = some (.cells roA vsA) := fun r => (Keep.app _ _).cell F
    replace z : oA + i.toNat * 4 + 4 ≤ vsA.length := hle0
    replace A : List.take 4 (List.drop (oA + i.toNat * 4) vsA) = (acts[i.toNat]).l := hge0
    refine DK.skip ?_
    refine DK.seq ?_
    refine DK.block ?_
    refine DK.seq ?_
    refine DK.draw rfl (POk.of (ord := [0, 1, 2, 3, 4, 5, 12, 6, 7, 8, 9, 10, 11, 13, 14]) (by kernel_rfl)) ?_
    refine XK.run [0, 1, 2] (by kernel_rfl) (by simp [cb, O, c9, s, V, S, m, f, u, w, W, b8, b9, K, X, Y, x, F, n, z, A, j, Z, a0, a1, U, a2, B, a3, C, D, a4, a5, a6, o, a7, a8, a9, L, N, cl, b0, b1, b3, g, cd, E, b4, b5, b6, h3, b7]; constructor <;> rfl) ?_
    refine XK.run [3, 4, 5] (by kernel_rfl) (by simp [cb, O, c9, s, V, S, m, f, u, w, W, b8, b9, K, X, Y, x, F, n, z, A, j, Z, a0, a1, U, a2, B, a3, C, D, a4, a5, a6, o, a7, a8, a9, L, N, cl, b0, b1, b3, g, cd, E, b4, b5, b6, h3, b7]; constructor <;> rfl) ?_
    refine XK.run [12] (by kernel_rfl) (by simp [cb, O, c9, s, V, S, m, f, u, w, W, b8, b9, K, X, Y, x, F, n, z, A, j, Z, a0, a1, U, a2, B, a3, C, D, a4, a5, a6, o, a7, a8, a9, L, N, cl, b0, b1, b3, g, cd, E, b4, b5, b6, h3, b7]; constructor <;> rfl) ?_
    refine XK.call rfl (by simp [cb, O, c9, s, V, S, m, f, u, w, W, b8, b9, K, X, Y, x, F, n, z, A, j, Z, a0, a1, U, a2, B, a3, C, D, a4, a5, a6, o, a7, a8, a9, L, N, cl, b0, b1, b3, g, cd, E, b4, b5, b6, h3, b7]) rfl (by simp [Tryd.func14, Tryd.f14, cb, O, c9, s, V, S, m, f, u, w, W, b8, b9, K, X, Y, x, F, n, z, A, j, Z, a0, a1, U, a2, B, a3, C, D, a4, a5, a6, o, a7, a8, a9, L, N, cl, b0, b1, b3, g, cd, E, b4, b5, b6, h3, b7]; constructor <;> rfl) ?_
    refine FSem.mono (basks_s (i.toNat * 3652060) b (c2.keep (Keep.app _ _)) hP.ok (by omega)) ?_
    rintro _s5 M3 ⟨hA3, hR3, hW3, hN3⟩
    have hkk := Keep.of hA3
    replace cb := hkk.cell (O _)
    replace c9 := hkk.cell (mem_app _ _)
    have hM3 : M.length < M3.length := (List.getElem?_eq_some_iff.1 c9).1
    replace c3 := (c2.keep (Keep.app _ _)).keep hkk
    replace c5 := (hL2.keep (Keep.app _ _)).keep hkk
    replace c4 := (c0.trans (Keep.app _ _)).trans hkk
    replace F := hkk.cell (n _)
    have hlen3 : b.asks.length ≤ 100000000000 := by have := asks_bound (k := (i.toNat * 3652060)) 0 b.subs (fun a ha => (hP.ok.subs a ha).2); rw [hP.ok.len] at this; unfold Bk.asks; omega
    refine And.intro (lag_list (l := [0, 4]) (by kernel_rfl) (lag_cons (lag_one rfl (by simp [cb, O, c9, s, V, S, m, f, u, w, W, b8, b9, K, X, Y, x, F, n, z, A, j, Z, a0, a1, U, a2, B, a3, C, D, a4, a5, a6, o, a7, a8, a9, L, N, cl, b0, b1, b3, g, cd, E, b4, b5, b6, h3, b7]; constructor <;> rfl) rfl (by simp [cb, O, c9, s, V, S, m, f, u, w, W, b8, b9, K, X, Y, x, F, n, z, A, j, Z, a0, a1, U, a2, B, a3, C, D, a4, a5, a6, o, a7, a8, a9, L, N, cl, b0, b1, b3, g, cd, E, b4, b5, b6, h3, b7]) (by simp [sameL, sameV_agg, sameV_int, sameV_bool, sameV_str, sameV_ptr, sameV_sl, sameV_map, same1_int, same1_bool, same1_str, same1_ptr, same1_sl, same1_map, cb, O, c9, s, V, S, m, f, u, w, W, b8, b9, K, X, Y, x, F, n, z, A, j, Z, a0, a1, U, a2, B, a3, C, D, a4, a5, a6, o, a7, a8, a9, L, N, cl, b0, b1, b3, g, cd, E, b4, b5, b6, h3, b7]) rfl) (lag_cons (lag_one rfl (by simp [cb, O, c9, s, V, S, m, f, u, w, W, b8, b9, K, X, Y, x, F, n, z, A, j, Z, a0, a1, U, a2, B, a3, C, D, a4, a5, a6, o, a7, a8, a9, L, N, cl, b0, b1, b3, g, cd, E, b4, b5, b6, h3, b7]; constructor <;> rfl) rfl (by simp [cb, O, c9, s, V, S, m, f, u, w, W, b8, b9, K, X, Y, x, F, n, z, A, j, Z, a0, a1, U, a2, B, a3, C, D, a4, a5, a6, o, a7, a8, a9, L, N, cl, b0, b1, b3, g, cd, E, b4, b5, b6, h3, b7]) (by simp [sameL, sameV_agg, sameV_int, sameV_bool, sameV_str, sameV_ptr, sameV_sl, sameV_map, same1_int, same1_bool, same1_str, same1_ptr, same1_sl, same1_map, cb, O, c9, s, V, S, m, f, u, w, W, b8, b9, K, X, Y, x, F, n, z, A, j, Z, a0, a1, U, a2, B, a3, C, D, a4, a5, a6, o, a7, a8, a9, L, N, cl, b0, b1, b3, g, cd, E, b4, b5, b6, h3, b7]) rfl) rfl))) ?_
    refine XK.call rfl (by simp [cb, O, c9, s, V, S, m, f, u, w, W, b8, b9, K, X, Y, x, F, n, z, A, j, Z, a0, a1, U, a2, B, a3, C, D, a4, a5, a6, o, a7, a8, a9, L, N, cl, b0, b1, b3, g, cd, E, b4, b5, b6, h3, b7]) rfl (by simp [Tryd.func13, Tryd.f13, cb, O, c9, s, V, S, m, f, u, w, W, b8, b9, K, X, Y, x, F, n, z, A, j, Z, a0, a1, U, a2, B, a3, C, D, a4, a5, a6, o, a7, a8, a9, L, N, cl, b0, b1, b3, g, cd, E, b4, b5, b6, h3, b7]; constructor <;> rfl) ?_
    refine FSem.mono (rorder_g acts[i.toNat] (hao _ (List.getElem_mem hil)) b.asks hlen3 hR3) ?_
    rintro _ Hq ⟨od, rfl, hod, hq⟩
    subst hq
    refine And.intro (lag_list (l := [0]) (by kernel_rfl) (lag_cons (lag_one rfl (by simp [cb, O, c9, s, V, S, m, f, u, w, W, b8, b9, K, X, Y, x, F, n, z, A, j, Z, a0, a1, U, a2, B, a3, C, D, a4, a5, a6, o, a7, a8, a9, L, N, cl, b0, b1, b3, g, cd, E, b4, b5, b6, h3, b7]; constructor <;> rfl) rfl (by simp [cb, O, c9, s, V, S, m, f, u, w, W, b8, b9, K, X, Y, x, F, n, z, A, j, Z, a0, a1, U, a2, B, a3, C, D, a4, a5, a6, o, a7, a8, a9, L, N, cl, b0, b1, b3, g, cd, E, b4, b5, b6, h3, b7]) (by simp [sameL, sameV_agg, sameV_int, sameV_bool, sameV_str, sameV_ptr, sameV_sl, sameV_map, same1_int, same1_bool, same1_str, same1_ptr, same1_sl, same1_map, cb, O, c9, s, V, S, m, f, u, w, W, b8, b9, K, X, Y, x, F, n, z, A, j, Z, a0, a1, U, a2, B, a3, C, D, a4, a5, a6, o, a7, a8, a9, L, N, cl, b0, b1, b3, g, cd, E, b4, b5, b6, h3, b7]) rfl) rfl)) ?_
    refine XK.call rfl (by simp [cb, O, c9, s, V, S, m, f, u, w, W, b8, b9, K, X, Y, x, F, n, z, A, j, Z, a0, a1, U, a2, B, a3, C, D, a4, a5, a6, o, a7, a8, a9, L, N, cl, b0, b1, b3, g, cd, E, b4, b5, b6, h3, b7]) rfl (by simp [Tryd.func16, Tryd.f16, cb, O, c9, s, V, S, m, f, u, w, W, b8, b9, K, X, Y, x, F, n, z, A, j, Z, a0, a1, U, a2, B, a3, C, D, a4, a5, a6, o, a7, a8, a9, L, N, cl, b0, b1, b3, g, cd, E, b4, b5, b6, h3, b7]; constructor <;> rfl) ?_
    refine FSem.mono (step_g (i.toNat * 3652060) b od c3 c5 hP.ok (by omega) hP.un) ?_
    rintro _ M4 ⟨b2, e2, sp2, l2, rfl, hst, hBk2, hl, hs, hs', hkk, hsb2⟩
    replace W := hl
    replace u := hs
    replace w := hs'
    replace f := bk_ones hs'
    replace cb := hkk.cell cb
    replace c9 := hkk.cell c9
    replace c3 := c3.keep hkk
    replace c4 := c4.trans hkk
    replace F := hkk.cell F
    replace j := List.getElem?_set_self (a := Blk.cells false (BkL b2.today sp2 l2)) (List.getElem?_eq_some_iff.1 c9).1
    refine And.intro (lag_list (l := []) (by kernel_rfl) rfl) ?_
    refine XK.run [9, 10, 11] (by kernel_rfl) (by simp [cb, O, c9, s, V, S, m, f, u, w, W, b8, b9, K, X, Y, x, F, n, z, A, j, Z, a0, a1, U, a2, B, a3, C, D, a4, a5, a6, o, a7, a8, a9, L, N, cl, b0, b1, b3, g, cd, E, b4, b5, b6, h3, b7]; constructor <;> rfl) ?_
    refine XK.one rfl (by simp [cb, O, c9, s, V, S, m, f, u, w, W, b8, b9, K, X, Y, x, F, n, z, A, j, Z, a0, a1, U, a2, B, a3, C, D, a4, a5, a6, o, a7, a8, a9, L, N, cl, b0, b1, b3, g, cd, E, b4, b5, b6, h3, b7]) rfl (by simp [cb, O, c9, s, V, S, m, f, u, w, W, b8, b9, K, X, Y, x, F, n, z, A, j, Z, a0, a1, U, a2, B, a3, C, D, a4, a5, a6, o, a7, a8, a9, L, N, cl, b0, b1, b3, g, cd, E, b4, b5, b6, h3, b7]; constructor <;> rfl) (lag_list (l := []) (by kernel_rfl) rfl) ?_
    refine XK.one rfl (by simp [cb, O, c9, s, V, S, m, f, u, w, W, b8, b9, K, X, Y, x, F, n, z, A, j, Z, a0, a1, U, a2, B, a3, C, D, a4, a5, a6, o, a7, a8, a9, L, N, cl, b0, b1, b3, g, cd, E, b4, b5, b6, h3, b7]) rfl (by simp [cb, O, c9, s, V, S, m, f, u, w, W, b8, b9, K, X, Y, x, F, n, z, A, j, Z, a0, a1, U, a2, B, a3, C, D, a4, a5, a6, o, a7, a8, a9, L, N, cl, b0, b1, b3, g, cd, E, b4, b5, b6, h3, b7]; constructor <;> rfl) (lag_list (l := []) (by kernel_rfl) rfl) ?_
    refine XK.nil ?_
    refine DK.abs (fun M5 => Keep H M5 ∧ M5[H.length]? = some (.cells false (BkL b.today sp l)) ∧ M5[M.length]? = some (.cells false (BkL b2.today sp2 l2)) ∧ BkAt M5 sp l b ∧ BkAt M5 sp2 l2 b2) ⟨c4.set c0.1 _, (List.getElem?_set_ne (by have := (List.getElem?_eq_some_iff.1 cb0).1; omega)).trans cb, j, c3.set (c2.free (Nat.le_refl _)) _, hBk2.set (hBk2.fre c9 (by rw [BkL_len (by simp)]; decide) (fun e => (hsb2 _ e).elim (fun q => by have := c2.pls.lt q; omega) (fun q => by have := hM3; omega))) _⟩ ?_
    rintro M5 ⟨hk5, cb5, c95, hBk5, hBk25⟩
    replace c9 := c95
    replace cb := cb5
    replace j := List.getElem?_set_self (a := Blk.cells false (BkL b2.today sp2 l2)) (List.getElem?_eq_some_iff.1 cb).1
    refine DK.seq ?_
    refine DK.region (is := [0, 1]) (by kernel_rfl) rfl ?_
    refine WK.run [0, 1] (by simp [cb, O, c9, s, V, S, m, f, u, w, W, b8, b9, K, X, Y, x, F, n, z, A, j, Z, a0, a1, U, a2, B, a3, C, D, a4, a5, a6, o, a7, a8, a9, L, N, cl, b0, b1, b3, g, cd, E, b4, b5, b6, h3, b7]; constructor <;> rfl) ?_
    refine WK.nil ?_
    refine DK.test rfl rfl (fun h => ?_) (fun h => ?_)
    · try simp only [h]
      replace h := Tr.out h
      refine DK.region (is := [0, 1]) (by kernel_rfl) rfl ?_
      refine WK.run [0, 1] (by simp [cb, O, c9, s, V, S, m, f, u, w, W, b8, b9, K, X, Y, x, F, n, z, A, j, Z, a0, a1, U, a2, B, a3, C, D, a4, a5, a6, o, a7, a8, a9, L, N, cl, b0, b1, b3, g, cd, E, b4, b5, b6, h3, b7]; constructor <;> rfl) ?_
      refine WK.nil ?_
      refine DK.abs (fun M6 => Keep H M6 ∧ M6[H.length]? = some (.cells false (BkL b2.today sp2 l2)) ∧ BkAt M6 sp2 l2 b2) ⟨hk5.set (Nat.le_refl _) _, j, hBk25.set (hBk25.fre cb (by rw [BkL_len m]; decide) (fun e => (hsb2 _ e).elim (fun q => by have := hspn _ q; omega) (fun q => by have := hM3; have := (List.getElem?_eq_some_iff.1 cb0).1; omega))) _⟩ ?_
      rintro M6 ⟨hk6, cb6, hBk6⟩
      refine DK.region (is := [0, 1, 2]) (by kernel_rfl) rfl ?_
      refine WK.run [0, 1, 2] (by simp [cb, O, c9, s, V, S, m, f, u, w, W, b8, b9, K, X, Y, x, F, n, z, A, j, Z, a0, a1, U, a2, B, a3, C, D, a4, a5, a6, o, a7, a8, a9, L, N, cl, b0, b1, b3, g, cd, E, b4, b5, b6, h3, b7]; constructor <;> rfl) ?_
      refine WK.nil ?_
      refine ⟨by kernel_rfl, (acts.length - (i + 1)).toNat, ?_, _, b2, sp2, l2, rfl, ?_⟩
      · omega
      · rw [show (i + 1).toNat = i.toNat + 1 by omega, play_snoc hil, ← hpb, act_yes hod hst (by assumption)]
        exact ⟨⟨hk6, cb6, hBk6, (hL.keep hk0).keep hk6⟩, by omega, by omega, fun c hc => (hsb2 c hc).elim (fun q => hspn c q) (fun q => by have := hM3; have := (List.getElem?_eq_some_iff.1 cb0).1; omega), rfl, rfl⟩
    try simp only [h]
    replace h := Fa.out h
    refine DK.skip ?_
    refine DK.region (is := [0, 1, 2]) (by kernel_rfl) rfl ?_
    refine WK.run [0, 1, 2] (by simp [cb, O, c9, s, V, S, m, f, u, w, W, b8, b9, K, X, Y, x, F, n, z, A, j, Z, a0, a1, U, a2, B, a3, C, D, a4, a5, a6, o, a7, a8, a9, L, N, cl, b0, b1, b3, g, cd, E, b4, b5, b6, h3, b7]; constructor <;> rfl) ?_
    refine WK.nil ?_
    refine ⟨by kernel_rfl, (acts.length - (i + 1)).toNat, ?_, _, b, sp, l, rfl, ?_⟩
    · omega
    · rw [show (i + 1).toNat = i.toNat + 1 by omega, play_snoc hil, ← hpb, act_no hod hst (by assumption)]
      exact ⟨⟨hk5, cb5, hBk5, (hL.keep hk0).keep hk5⟩, by omega, by omega, hspn, rfl, rfl⟩
  try simp only [h]
  replace h := Fa.out h
  have hiE : i = acts.length := by omega
  subst hiE
  rw [List.take_of_length_le (show acts.length ≤ ((acts.length : Int)).toNat by simp)] at hpb
  have hP := trivial
  have hP : PlayOk acts.length b := by rw [hpb]; have := play_ok hao (700000) acts.length (Nat.le_refl _); rwa [List.take_length] at this
  have hok2 : BOk 92000000 b := hP.ok.le (by omega)
  refine DK.exit ?_
  refine DK.seq ?_
  refine DK.region (is := [0, 1, 2]) (by kernel_rfl) rfl ?_
  refine WK.run [0] (by simp [cb, O, c9, s, V, S, m, f, u, w, W, b8, b9, K, X, Y, x, F, n, z, A, j, Z, a0, a1, U, a2, B, a3, C, D, a4, a5, a6, o, a7, a8, a9, L, N, cl, b0, b1, b3, g, cd, E, b4, b5, b6, h3, b7]; constructor <;> rfl) ?_
  refine WK.call rfl (by simp [cb, O, c9, s, V, S, m, f, u, w, W, b8, b9, K, X, Y, x, F, n, z, A, j, Z, a0, a1, U, a2, B, a3, C, D, a4, a5, a6, o, a7, a8, a9, L, N, cl, b0, b1, b3, g, cd, E, b4, b5, b6, h3, b7]) (by simp [Tryd.func21, Tryd.f21, cb, O, c9, s, V, S, m, f, u, w, W, b8, b9, K, X, Y, x, F, n, z, A, j, Z, a0, a1, U, a2, B, a3, C, D, a4, a5, a6, o, a7, a8, a9, L, N, cl, b0, b1, b3, g, cd, E, b4, b5, b6, h3, b7]; constructor <;> rfl) ?_
  refine FSem.mono (encode_s 92000000 b c2 hok2 (by decide) hP.p8) ?_
  rintro _q ME ⟨hA3, hR3, hW3, hN3⟩
  have hkk := Keep.of hA3
  have hkL := (hk0.trans c0).1
  replace c0 := c0.keep hkk
  replace L := hR3.cells.1
  replace N := hR3.cells.2
  replace a1 := lenBy hR3
  refine WK.run [2] (by simp [cb, O, c9, s, V, S, m, f, u, w, W, b8, b9, K, X, Y, x, F, n, z, A, j, Z, a0, a1, U, a2, B, a3, C, D, a4, a5, a6, o, a7, a8, a9, L, N, cl, b0, b1, b3, g, cd, E, b4, b5, b6, h3, b7]; constructor <;> rfl) ?_
  refine WK.nil ?_
  have hLp := encB_pos b
  have hlen := hR3.len (T := 72) Tryd.underlying72
  have hbd := encB_len hok2 hP.p8 (by decide)
  replace b7 : ¬ (encB b = []) := fun q => by rw [q] at hLp; simp at hLp
  replace U : ¬ (((encB b).length : Int) = 0) := by omega
  replace a2 : IntKind.i64.wrap a = a := wrap_in _ (by omega) (by omega)
  have hte : a.tmod ((encB b).length : Int) = a % ((encB b).length : Int) := Int.tmod_eq_emod_of_nonneg ha0
  have hm0 : 0 ≤ a.tmod ((encB b).length : Int) := by rw [hte]; exact Int.emod_nonneg _ U
  have hm1 : (a.tmod ((encB b).length : Int)).toNat < (encB b).length := by rw [hte]; have := Int.emod_lt_of_pos a (show (0 : Int) < (encB b).length by omega); omega
  obtain ⟨bq, oq, vq, hiq, hcq0, hlq0, hgq0, hbq, hsetq⟩ := hR3.setBy hW3 hm0 hm1
  replace B := hiq
  replace a3 := hcq0
  replace C := hlq0
  replace D := hgq0
  refine DK.seq ?_
  refine DK.region (is := [0, 1, 2, 3, 4, 5, 6, 7, 8, 9, 10, 11]) (by kernel_rfl) rfl ?_
  refine WK.run [0, 1, 2] (by simp [cb, O, c9, s, V, S, m, f, u, w, W, b8, b9, K, X, Y, x, F, n, z, A, j, Z, a0, a1, U, a2, B, a3, C, D, a4, a5, a6, o, a7, a8, a9, L, N, cl, b0, b1, b3, g, cd, E, b4, b5, b6, h3, b7]; constructor <;> rfl) ?_
  refine WK.run [3, 4, 5] (by simp [cb, O, c9, s, V, S, m, f, u, w, W, b8, b9, K, X, Y, x, F, n, z, A, j, Z, a0, a1, U, a2, B, a3, C, D, a4, a5, a6, o, a7, a8, a9, L, N, cl, b0, b1, b3, g, cd, E, b4, b5, b6, h3, b7]; constructor <;> rfl) ?_
  refine WK.run [6, 7, 8] (by simp [cb, O, c9, s, V, S, m, f, u, w, W, b8, b9, K, X, Y, x, F, n, z, A, j, Z, a0, a1, U, a2, B, a3, C, D, a4, a5, a6, o, a7, a8, a9, L, N, cl, b0, b1, b3, g, cd, E, b4, b5, b6, h3, b7]; constructor <;> rfl) ?_
  refine WK.run [9, 10, 11] (by simp [cb, O, c9, s, V, S, m, f, u, w, W, b8, b9, K, X, Y, x, F, n, z, A, j, Z, a0, a1, U, a2, B, a3, C, D, a4, a5, a6, o, a7, a8, a9, L, N, cl, b0, b1, b3, g, cd, E, b4, b5, b6, h3, b7]; constructor <;> rfl) ?_
  refine WK.nil ?_
  have hbq2 := hN3 bq hbq
  refine DK.abs (fun M11 => ∃ y : Int, (0 ≤ y ∧ y < 256) ∧ Keep H M11 ∧ RowAt M11 _q ((encB b).set (a.tmod ((encB b).length : Int)).toNat ⟨y⟩) ∧ RowAt M11 wp p) ⟨_, u8_rng _, (hk0.trans c0).set (by omega) _, hsetq _, (hP0.keep (hk0.trans c0)).set (fun q => by have := hP0.lt q; omega) _⟩ ?_
  clear c0
  rintro M11 ⟨y, hy, c0, hRq1, hRp1⟩
  replace a9 := bs2_row hRp1 hRq1
  refine DK.seq ?_
  refine DK.seq ?_
  refine DK.region (is := [0, 1, 2, 3, 4]) (by kernel_rfl) rfl ?_
  refine WK.run [0, 1, 2] (by simp [cb, O, c9, s, V, S, m, f, u, w, W, b8, b9, K, X, Y, x, F, n, z, A, j, Z, a0, a1, U, a2, B, a3, C, D, a4, a5, a6, o, a7, a8, a9, L, N, cl, b0, b1, b3, g, cd, E, b4, b5, b6, h3, b7]; constructor <;> rfl) ?_
  refine WK.run [3, 4] (by simp [cb, O, c9, s, V, S, m, f, u, w, W, b8, b9, K, X, Y, x, F, n, z, A, j, Z, a0, a1, U, a2, B, a3, C, D, a4, a5, a6, o, a7, a8, a9, L, N, cl, b0, b1, b3, g, cd, E, b4, b5, b6, h3, b7]; constructor <;> rfl) ?_
  refine WK.nil ?_
  refine DK.abs (fun MQ => Keep M11 MQ ∧ MQ[M11.length]? = some (.cells false [wp, _q])) ⟨Keep.app _ _, by simp⟩ ?_
  rintro MQ ⟨hkk, qQ⟩
  have hRp := hRp1.keep hkk
  have hRq := hRq1.keep hkk
  have clQ := qQ
  replace cl := qQ
  have c0 := c0.trans hkk
  replace c1 := Keep.refl MQ
  have hOq : ByOk ((encB b).set (a.tmod ((encB b).length : Int)).toNat ⟨y⟩) := fun c hc => by
    rcases List.mem_or_eq_of_mem_set hc with q | rfl
    · exact numsB_ok _ c q
    · exact hy
  have hnq : ((encB b).set (a.tmod ((encB b).length : Int)).toNat ⟨y⟩).length ≤ 1000000000000 := by simpa using hbd
  clear L N
  have L := trivial
  have N := trivial
  refine DK.block ?_
  refine DK.loopF [8, 15, 16, 17, 70, 71, 72, 73, 74, 75, 76, 77, 78, 79, 80, 81, 82, 83, 84, 85, 86, 87, 88, 89, 90, 91, 92, 93, 94, 95, 96, 97] [70] (fun fl vs H' => ∃ (i : Int), vs = [.int .i64 i] ∧ Keep MQ H' ∧ 0 ≤ i ∧ i ≤ 2 ∧ fl = (2 - i).toNat) (2) (by kernel_rfl) ?_ ?_
  · refine ⟨_, rfl, ?_⟩
    exact ⟨c1, by omega, by omega, by omega⟩
  rintro fl f2j M6 ⟨i, hv, hf⟩
  clear c1
  obtain ⟨c1, hj0, hj1, hfl⟩ := hf
  replace cl := c1.cell clQ
  clear K
  have K := trivial
  simp only [List.map_cons, List.map_nil, List.cons.injEq, and_true] at hv
  have hv2_0 := hv
  refine DK.from ((setL_S (by decide) _ _).trans (by simp [setS, hv2_0]; exact rfl)) ?_
  refine DK.seq ?_
  refine DK.region (is := [0]) (by kernel_rfl) rfl ?_
  refine WK.run [0] (by simp [cb, O, c9, s, V, S, m, f, u, w, W, b8, b9, K, X, Y, x, F, n, z, A, j, Z, a0, a1, U, a2, B, a3, C, D, a4, a5, a6, o, a7, a8, a9, L, N, cl, b0, b1, b3, g, cd, E, b4, b5, b6, h3, b7]; constructor <;> rfl) ?_
  refine WK.nil ?_
  refine DK.seq ?_
  refine DK.test rfl rfl (fun h => ?_) (fun h => ?_)
  · try simp only [h]
    replace h := Tr.out h
    obtain ⟨wx, lx, hwx0, hRx, hOx, hnx⟩ : ∃ wx lx, List.take 1 (List.drop i.toNat [wp, _q]) = [wx] ∧ RowAt MQ wx lx ∧ ByOk lx ∧ lx.length ≤ 1000000000000 := by
      have : i = 0 ∨ i = 1 := by omega
      rcases this with rfl | rfl
      · exact ⟨wp, p, rfl, hRp, hp, by omega⟩
      · exact ⟨_q, _, rfl, hRq, hOq, hnq⟩
    replace a5 := hwx0
    replace a4 : 0 ≤ i := hj0
    replace a6 : i < 2 := h
    replace h3 : i.toNat + 1 ≤ 2 := by omega
    replace K : IntKind.i64.wrap (i + 1) = i + 1 := wrap_in _ (by omega) (by omega)
    replace b4 := hRx.cells.1
    replace b5 := hRx.cells.2
    replace b6 := hRx.same.2
    refine DK.skip ?_
    refine DK.seq ?_
    refine DK.block ?_
    refine DK.seq ?_
    refine DK.region (is := [0, 1, 2]) (by kernel_rfl) rfl ?_
    refine WK.run [0, 1, 2] (by simp [cb, O, c9, s, V, S, m, f, u, w, W, b8, b9, K, X, Y, x, F, n, z, A, j, Z, a0, a1, U, a2, B, a3, C, D, a4, a5, a6, o, a7, a8, a9, L, N, cl, b0, b1, b3, g, cd, E, b4, b5, b6, h3, b7]; constructor <;> rfl) ?_
    refine WK.nil ?_
    refine DK.seq ?_
    refine DK.region (is := [0, 1, 2, 3, 4, 5, 6, 7]) (by kernel_rfl) rfl ?_
    refine WK.run [0] (by simp [cb, O, c9, s, V, S, m, f, u, w, W, b8, b9, K, X, Y, x, F, n, z, A, j, Z, a0, a1, U, a2, B, a3, C, D, a4, a5, a6, o, a7, a8, a9, L, N, cl, b0, b1, b3, g, cd, E, b4, b5, b6, h3, b7]; constructor <;> rfl) ?_
    refine WK.call rfl (by simp [cb, O, c9, s, V, S, m, f, u, w, W, b8, b9, K, X, Y, x, F, n, z, A, j, Z, a0, a1, U, a2, B, a3, C, D, a4, a5, a6, o, a7, a8, a9, L, N, cl, b0, b1, b3, g, cd, E, b4, b5, b6, h3, b7]) (by simp [Tryd.func22, Tryd.f22, cb, O, c9, s, V, S, m, f, u, w, W, b8, b9, K, X, Y, x, F, n, z, A, j, Z, a0, a1, U, a2, B, a3, C, D, a4, a5, a6, o, a7, a8, a9, L, N, cl, b0, b1, b3, g, cd, E, b4, b5, b6, h3, b7]; constructor <;> rfl) ?_
    refine FSem.mono (decode_s (hRx.keep c1) hOx hnx) ?_
    rintro _ M4 ⟨d, e, spd, ld, rfl, hdec, hBd, hld9, hd09, hd19, hkk, hspd⟩
    replace c1 := c1.trans hkk
    replace b0 := hld9
    replace b1 := hd09
    replace b3 := hd19
    replace g := bk_ones hd19
    obtain ⟨hde1, hde2⟩ := dec_inv hOx
    rw [hdec] at hde1 hde2
    refine WK.run [2, 3, 4] (by simp [cb, O, c9, s, V, S, m, f, u, w, W, b8, b9, K, X, Y, x, F, n, z, A, j, Z, a0, a1, U, a2, B, a3, C, D, a4, a5, a6, o, a7, a8, a9, L, N, cl, b0, b1, b3, g, cd, E, b4, b5, b6, h3, b7]; constructor <;> rfl) ?_
    refine WK.run [5, 6, 7] (by simp [cb, O, c9, s, V, S, m, f, u, w, W, b8, b9, K, X, Y, x, F, n, z, A, j, Z, a0, a1, U, a2, B, a3, C, D, a4, a5, a6, o, a7, a8, a9, L, N, cl, b0, b1, b3, g, cd, E, b4, b5, b6, h3, b7]; constructor <;> rfl) ?_
    refine WK.nil ?_
    refine DK.abs (fun MD => Keep M4 MD ∧ MD[M4.length]? = some (.cells false (BkL d.today spd ld))) ⟨Keep.app _ _, by simp⟩ ?_
    rintro MD ⟨hkk, qD⟩
    replace cd := qD
    replace c1 := c1.keep hkk
    replace hBd := hBd.keep hkk
    replace E := bk_same hBd
    replace o := conv_by (hRx.keep c1) _ (Keep.refl _)
    refine DK.seq ?_
    refine DK.draw rfl (POk.of (ord := [0, 1, 2, 3, 6, 7, 4, 5, 8, 9, 10, 11, 12, 13, 14, 15, 16, 17]) (by kernel_rfl)) ?_
    refine XK.run [0, 1, 2] (by kernel_rfl) (by simp [cb, O, c9, s, V, S, m, f, u, w, W, b8, b9, K, X, Y, x, F, n, z, A, j, Z, a0, a1, U, a2, B, a3, C, D, a4, a5, a6, o, a7, a8, a9, L, N, cl, b0, b1, b3, g, cd, E, b4, b5, b6, h3, b7]; constructor <;> rfl) ?_
    refine XK.split (t := 81) rfl (fun h => ?_) (fun h => ?_)
    · try simp only [h]
      replace h := Tr.out h
      have he0 : e = 0 := by simpa using h
      subst he0
      obtain ⟨hen0, hokd, hund, hp8d⟩ := hde2 rfl
      replace a8 := hen0
      refine XK.run [3, 6, 7] (by kernel_rfl) (by simp [cb, O, c9, s, V, S, m, f, u, w, W, b8, b9, K, X, Y, x, F, n, z, A, j, Z, a0, a1, U, a2, B, a3, C, D, a4, a5, a6, o, a7, a8, a9, L, N, cl, b0, b1, b3, g, cd, E, b4, b5, b6, h3, b7]; constructor <;> rfl) ?_
      refine XK.call rfl (by simp [cb, O, c9, s, V, S, m, f, u, w, W, b8, b9, K, X, Y, x, F, n, z, A, j, Z, a0, a1, U, a2, B, a3, C, D, a4, a5, a6, o, a7, a8, a9, L, N, cl, b0, b1, b3, g, cd, E, b4, b5, b6, h3, b7]) rfl (by simp [Tryd.func21, Tryd.f21, cb, O, c9, s, V, S, m, f, u, w, W, b8, b9, K, X, Y, x, F, n, z, A, j, Z, a0, a1, U, a2, B, a3, C, D, a4, a5, a6, o, a7, a8, a9, L, N, cl, b0, b1, b3, g, cd, E, b4, b5, b6, h3, b7]; constructor <;> rfl) ?_
      refine FSem.mono (encode_s 3652058 d hBd hokd (by decide) hp8d) ?_
      rintro _q2 M7 ⟨hA7, hR7, hW7, hN7⟩
      have hkk := Keep.of hA7
      replace cd := hkk.cell cd
      replace c1 := c1.keep hkk
      replace o := conv_by (hRx.keep c1) _ (Keep.refl _)
      replace a7 := conv_by hR7 _ (Keep.refl _)
      refine And.intro (lag_list (l := [7]) (by kernel_rfl) (lag_cons (lag_one rfl (by simp [cb, O, c9, s, V, S, m, f, u, w, W, b8, b9, K, X, Y, x, F, n, z, A, j, Z, a0, a1, U, a2, B, a3, C, D, a4, a5, a6, o, a7, a8, a9, L, N, cl, b0, b1, b3, g, cd, E, b4, b5, b6, h3, b7]; constructor <;> rfl) rfl (by simp [cb, O, c9, s, V, S, m, f, u, w, W, b8, b9, K, X, Y, x, F, n, z, A, j, Z, a0, a1, U, a2, B, a3, C, D, a4, a5, a6, o, a7, a8, a9, L, N, cl, b0, b1, b3, g, cd, E, b4, b5, b6, h3, b7]) (by simp [sameL, sameV_agg, sameV_int, sameV_bool, sameV_str, sameV_ptr, sameV_sl, sameV_map, same1_int, same1_bool, same1_str, same1_ptr, same1_sl, same1_map, cb, O, c9, s, V, S, m, f, u, w, W, b8, b9, K, X, Y, x, F, n, z, A, j, Z, a0, a1, U, a2, B, a3, C, D, a4, a5, a6, o, a7, a8, a9, L, N, cl, b0, b1, b3, g, cd, E, b4, b5, b6, h3, b7]) rfl) rfl)) ?_
      refine XK.run [5, 8, 9] (by kernel_rfl) (by simp [cb, O, c9, s, V, S, m, f, u, w, W, b8, b9, K, X, Y, x, F, n, z, A, j, Z, a0, a1, U, a2, B, a3, C, D, a4, a5, a6, o, a7, a8, a9, L, N, cl, b0, b1, b3, g, cd, E, b4, b5, b6, h3, b7]; constructor <;> rfl) ?_
      refine XK.run [10] (by kernel_rfl) (by simp [cb, O, c9, s, V, S, m, f, u, w, W, b8, b9, K, X, Y, x, F, n, z, A, j, Z, a0, a1, U, a2, B, a3, C, D, a4, a5, a6, o, a7, a8, a9, L, N, cl, b0, b1, b3, g, cd, E, b4, b5, b6, h3, b7]; constructor <;> rfl) ?_
      refine XK.split (t := 89) rfl (fun h => ?_) (fun h => ?_)
      · try simp only [h]
        replace h := Tr.out h
        cases h
      try simp only [h]
      replace h := Fa.out h
      refine XK.run [11, 12, 13] (by kernel_rfl) (by simp [cb, O, c9, s, V, S, m, f, u, w, W, b8, b9, K, X, Y, x, F, n, z, A, j, Z, a0, a1, U, a2, B, a3, C, D, a4, a5, a6, o, a7, a8, a9, L, N, cl, b0, b1, b3, g, cd, E, b4, b5, b6, h3, b7]; constructor <;> rfl) ?_
      refine XK.split (t := 92) rfl (fun h => ?_) (fun h => ?_)
      · try simp only [h]
        replace h := Tr.out h
        cases h
      try simp only [h]
      replace h := Fa.out h
      refine XK.run [14, 15, 16] (by kernel_rfl) (by simp [cb, O, c9, s, V, S, m, f, u, w, W, b8, b9, K, X, Y, x, F, n, z, A, j, Z, a0, a1, U, a2, B, a3, C, D, a4, a5, a6, o, a7, a8, a9, L, N, cl, b0, b1, b3, g, cd, E, b4, b5, b6, h3, b7]; constructor <;> rfl) ?_
      refine XK.run [17] (by kernel_rfl) (by simp [cb, O, c9, s, V, S, m, f, u, w, W, b8, b9, K, X, Y, x, F, n, z, A, j, Z, a0, a1, U, a2, B, a3, C, D, a4, a5, a6, o, a7, a8, a9, L, N, cl, b0, b1, b3, g, cd, E, b4, b5, b6, h3, b7]; constructor <;> rfl) ?_
      refine XK.nil ?_
      refine DK.no rfl rfl ?_
      refine DK.skip ?_
      refine DK.region (is := [0, 1]) (by kernel_rfl) rfl ?_
      refine WK.run [0, 1] (by simp [cb, O, c9, s, V, S, m, f, u, w, W, b8, b9, K, X, Y, x, F, n, z, A, j, Z, a0, a1, U, a2, B, a3, C, D, a4, a5, a6, o, a7, a8, a9, L, N, cl, b0, b1, b3, g, cd, E, b4, b5, b6, h3, b7]; constructor <;> rfl) ?_
      refine WK.nil ?_
      refine ⟨by kernel_rfl, (2 - (i + 1)).toNat, ?_, _, rfl, ?_⟩
      · omega
      · exact ⟨c1, by omega, by omega, rfl⟩
    try simp only [h]
    replace h := Fa.out h
    have he4 : e = 4 := by rcases hde1 with q | q; exact absurd q (by simpa using h); exact q
    subst he4
    refine XK.run [3, 6, 7] (by kernel_rfl) (by simp [cb, O, c9, s, V, S, m, f, u, w, W, b8, b9, K, X, Y, x, F, n, z, A, j, Z, a0, a1, U, a2, B, a3, C, D, a4, a5, a6, o, a7, a8, a9, L, N, cl, b0, b1, b3, g, cd, E, b4, b5, b6, h3, b7]; constructor <;> rfl) ?_
    refine XK.pass rfl (by simp [cb, O, c9, s, V, S, m, f, u, w, W, b8, b9, K, X, Y, x, F, n, z, A, j, Z, a0, a1, U, a2, B, a3, C, D, a4, a5, a6, o, a7, a8, a9, L, N, cl, b0, b1, b3, g, cd, E, b4, b5, b6, h3, b7]) (by simp [cb, O, c9, s, V, S, m, f, u, w, W, b8, b9, K, X, Y, x, F, n, z, A, j, Z, a0, a1, U, a2, B, a3, C, D, a4, a5, a6, o, a7, a8, a9, L, N, cl, b0, b1, b3, g, cd, E, b4, b5, b6, h3, b7]; exact rfl) ?_
    refine XK.run [5, 8, 9] (by kernel_rfl) (by simp [cb, O, c9, s, V, S, m, f, u, w, W, b8, b9, K, X, Y, x, F, n, z, A, j, Z, a0, a1, U, a2, B, a3, C, D, a4, a5, a6, o, a7, a8, a9, L, N, cl, b0, b1, b3, g, cd, E, b4, b5, b6, h3, b7]; constructor <;> rfl) ?_
    refine XK.run [10, 11, 12] (by kernel_rfl) (by simp [cb, O, c9, s, V, S, m, f, u, w, W, b8, b9, K, X, Y, x, F, n, z, A, j, Z, a0, a1, U, a2, B, a3, C, D, a4, a5, a6, o, a7, a8, a9, L, N, cl, b0, b1, b3, g, cd, E, b4, b5, b6, h3, b7]; constructor <;> rfl) ?_
    refine XK.run [13] (by kernel_rfl) (by simp [cb, O, c9, s, V, S, m, f, u, w, W, b8, b9, K, X, Y, x, F, n, z, A, j, Z, a0, a1, U, a2, B, a3, C, D, a4, a5, a6, o, a7, a8, a9, L, N, cl, b0, b1, b3, g, cd, E, b4, b5, b6, h3, b7]; constructor <;> rfl) ?_
    refine XK.split (t := 92) rfl (fun h => ?_) (fun h => ?_)
    · try simp only [h]
      replace h := Tr.out h
      refine XK.run [14, 15, 16] (by kernel_rfl) (by simp [cb, O, c9, s, V, S, m, f, u, w, W, b8, b9, K, X, Y, x, F, n, z, A, j, Z, a0, a1, U, a2, B, a3, C, D, a4, a5, a6, o, a7, a8, a9, L, N, cl, b0, b1, b3, g, cd, E, b4, b5, b6, h3, b7]; constructor <;> rfl) ?_
      refine XK.run [17] (by kernel_rfl) (by simp [cb, O, c9, s, V, S, m, f, u, w, W, b8, b9, K, X, Y, x, F, n, z, A, j, Z, a0, a1, U, a2, B, a3, C, D, a4, a5, a6, o, a7, a8, a9, L, N, cl, b0, b1, b3, g, cd, E, b4, b5, b6, h3, b7]; constructor <;> rfl) ?_
      refine XK.nil ?_
      refine DK.test rfl rfl (fun h => ?_) (fun h => ?_)
      · try simp only [h]
        replace h := Tr.out h
        cases h
      try simp only [h]
      replace h := Fa.out h
      refine DK.skip ?_
      refine DK.region (is := [0, 1]) (by kernel_rfl) rfl ?_
      refine WK.run [0, 1] (by simp [cb, O, c9, s, V, S, m, f, u, w, W, b8, b9, K, X, Y, x, F, n, z, A, j, Z, a0, a1, U, a2, B, a3, C, D, a4, a5, a6, o, a7, a8, a9, L, N, cl, b0, b1, b3, g, cd, E, b4, b5, b6, h3, b7]; constructor <;> rfl) ?_
      refine WK.nil ?_
      refine ⟨by kernel_rfl, (2 - (i + 1)).toNat, ?_, _, rfl, ?_⟩
      · omega
      · exact ⟨c1, by omega, by omega, rfl⟩
    try simp only [h]
    replace h := Fa.out h
    cases h
  try simp only [h]
  replace h := Fa.out h
  have hiE : i = 2 := by omega
  subst hiE
  refine DK.exit ?_
  refine DK.seq ?_
  refine DK.region (is := [0, 1, 2, 3]) (by kernel_rfl) rfl ?_
  refine WK.call rfl (by simp [cb, O, c9, s, V, S, m, f, u, w, W, b8, b9, K, X, Y, x, F, n, z, A, j, Z, a0, a1, U, a2, B, a3, C, D, a4, a5, a6, o, a7, a8, a9, L, N, cl, b0, b1, b3, g, cd, E, b4, b5, b6, h3, b7]) (by simp [Tryd.func23, Tryd.f23, cb, O, c9, s, V, S, m, f, u, w, W, b8, b9, K, X, Y, x, F, n, z, A, j, Z, a0, a1, U, a2, B, a3, C, D, a4, a5, a6, o, a7, a8, a9, L, N, cl, b0, b1, b3, g, cd, E, b4, b5, b6, h3, b7]; constructor <;> rfl) ?_
  refine FSem.mono (pof_s (RowAt.nil _) (by decide)) ?_
  rintro _ M9 ⟨k9, s9, rfl, hk09, hKO9, hB9, hN9⟩
  refine WK.call rfl (by simp [cb, O, c9, s, V, S, m, f, u, w, W, b8, b9, K, X, Y, x, F, n, z, A, j, Z, a0, a1, U, a2, B, a3, C, D, a4, a5, a6, o, a7, a8, a9, L, N, cl, b0, b1, b3, g, cd, E, b4, b5, b6, h3, b7]) (by simp [Tryd.func24, Tryd.f24, cb, O, c9, s, V, S, m, f, u, w, W, b8, b9, K, X, Y, x, F, n, z, A, j, Z, a0, a1, U, a2, B, a3, C, D, a4, a5, a6, o, a7, a8, a9, L, N, cl, b0, b1, b3, g, cd, E, b4, b5, b6, h3, b7]; constructor <;> rfl) ?_
  refine FSem.mono (pleft_s hB9) ?_
  rintro _ Hq ⟨rfl, hq⟩
  replace hq := hq.symm
  subst hq
  refine WK.run [2, 3] (by simp [cb, O, c9, s, V, S, m, f, u, w, W, b8, b9, K, X, Y, x, F, n, z, A, j, Z, a0, a1, U, a2, B, a3, C, D, a4, a5, a6, o, a7, a8, a9, L, N, cl, b0, b1, b3, g, cd, E, b4, b5, b6, h3, b7]; constructor <;> rfl) ?_
  refine WK.nil ?_
  refine DK.ret ?_
  refine And.intro (Or.inr rfl) ?_
  refine ⟨_, by simp [absAnswer, absResults, absResult, Tryd.f10]; rfl, ?_⟩
  first | exact ⟨((hk0.trans c0).trans (c1.trans hKO9)).ext, by simp, by simp⟩ | exact ⟨⟨[], (List.append_nil _).symm⟩, by simp, by simp⟩
end Go.Den
set_option linter.unusedVariables false
set_option maxRecDepth 100000
namespace Go.Den
open Go Go.Proofs
theorem rowV_idx {α : Type} [Cel α] : ∀ (l : List α) (i : Nat) (v : Value), (rowV l)[i]? = some v → ∃ (j : Nat) (hj : j < l.length) (r : Nat), r < Cel.k α ∧ i = j * Cel.k α + r ∧ (Cel.f l[j])[r]? = some v
  | [], i, v, h => by simp at h
  | a :: l, i, v, h => by
    rw [rowV_cons] at h
    by_cases hi : i < Cel.k α
    · rw [List.getElem?_append_left (by rw [Cel.len]; exact hi)] at h
      exact ⟨0, by simp, i, hi, by simp, h⟩
    · rw [List.getElem?_append_right (by rw [Cel.len]; omega), Cel.len] at h
      obtain ⟨j, hj, r, h1, h2, h3⟩ := rowV_idx l _ v h
      exact ⟨j + 1, by simpa using hj, r, h1, by rw [Nat.succ_mul]; omega, by simpa using h3⟩
def ladCells : List Value := [.int .i64 1, .int .i64 3, .int .i64 7]
end Go.Den
set_option linter.unusedVariables false
set_option maxRecDepth 100000
namespace Go.Den
open Go Go.Proofs Go.Deep Go.Joins Go.ChangeShapes Go.WideShapes Go.ChangeAt Go.RowKit
theorem acells4 : Tryd.prog.cellsOf 51 = 4 := by kernel_rfl
def ActsIn (W : World) (v : Value) (acts : List At4) : Prop := (∀ a ∈ acts, a.ok) ∧
  ((v = .slice none 0 0 ∧ acts = []) ∨ ∃ b o cap, v = .slice (some ⟨b, o, none⟩) acts.length cap ∧ acts.length ≤ cap ∧ b < W.heap.size ∧ ∀ (i : Nat) (u : Value), (rowV acts)[i]? = some u → W.cell? ⟨b, o + i, none⟩ = some u ∧ flat u = true)
theorem acts_in {H : Type} {enc : TypeId × Value → H} {W : World} {base : Nat} {ao : Option Addr} {len cap : Nat} {d : DataW H} {p : List MemPlace} (hw : Value.okWide Tryd.prog W .any base 23 (.slice ao len cap))
    (h : DataW.Trod enc Tryd.prog W 0 (fun _ => true) true 23 (.slice ao len cap) d p) : ∃ acts, ActsIn W (.slice ao len cap) acts := by
  obtain ⟨fuel, hf⟩ := h
  rcases open_slice Tryd.underlying23 hf with ⟨hcs, _⟩ | ⟨a, len', cap', m, n, D, Pl, hcs, hb, hl, hm, hmm, hx, hel⟩
  · simp [Value.cells] at hcs
    obtain ⟨rfl, rfl, rfl⟩ := hcs
    exact ⟨[], fun a ha => by simp at ha, .inl ⟨rfl, rfl⟩⟩
  · simp [Value.cells] at hcs
    obtain ⟨rfl, rfl, rfl⟩ := hcs
    simp only [if_true] at hmm
    have hhas : W.has Tryd.prog .any base a 51 cap := by
      simp only [Value.okWide, Tryd.underlying23, Cell.okWide, Cell.ok] at hw
      exact hw.2.2
    obtain ⟨_, hspot, row, cells, hsh, _⟩ := hhas
    obtain ⟨b, off, spot⟩ := a
    simp only at hspot
    subst hspot
    have hbl : b < W.heap.size := by
      unfold World.shape? at hsh
      cases hq : W.heap[b]? with
      | none => rw [hq] at hsh; cases hsh
      | some _ => exact (Array.getElem?_eq_some_iff.1 hq).1
    have each : ∀ i, i < len → ∃ x : At4, x.ok ∧ W.cell? ⟨b, off + i * 4, none⟩ = some (.int .u8 x.k) ∧ W.cell? ⟨b, off + i * 4 + 1, none⟩ = some (.int .u8 x.a) ∧ W.cell? ⟨b, off + i * 4 + 2, none⟩ = some (.int .u8 x.b) ∧ W.cell? ⟨b, off + i * 4 + 3, none⟩ = some (.int .u8 x.c) := by
      intro i hi
      obtain ⟨cs', h1, h2⟩ := hel i (by omega)
      rw [acells4] at h1
      obtain ⟨_, hlen, hcell⟩ := World.cells?_some h1
      obtain ⟨xs, k, hk, hxy, _, hxl, hfl⟩ := DataW.trod_struct Tryd.underlying51 h2
      have g0 := hfl 0 _ rfl
      have g1 := hfl 1 _ rfl
      have g2 := hfl 2 _ rfl
      have g3 := hfl 3 _ rfl
      have c1 : Tryd.prog.cellsOf 5 = 1 := by kernel_rfl
      match cs', hlen with
      | [v0, v1, v2, v3], _ =>
        simp [c1] at g0 g1 g2 g3
        have e0 := hcell 0 (by omega)
        have e1 := hcell 1 (by omega)
        have e2 := hcell 2 (by omega)
        have e3 := hcell 3 (by omega)
        obtain ⟨y0, hy0⟩ : ∃ y, xs[0]? = some y := ⟨_, List.getElem?_eq_getElem (by rw [hxl]; simp)⟩
        rw [hy0] at g0
        obtain ⟨a0, q0, _, w0⟩ := DataW.trod_int Tryd.underlying5 g0
        obtain ⟨y1, hy1⟩ : ∃ y, xs[1]? = some y := ⟨_, List.getElem?_eq_getElem (by rw [hxl]; simp)⟩
        rw [hy1] at g1
        obtain ⟨a1, q1, _, w1⟩ := DataW.trod_int Tryd.underlying5 g1
        obtain ⟨y2, hy2⟩ : ∃ y, xs[2]? = some y := ⟨_, List.getElem?_eq_getElem (by rw [hxl]; simp)⟩
        rw [hy2] at g2
        obtain ⟨a2, q2, _, w2⟩ := DataW.trod_int Tryd.underlying5 g2
        obtain ⟨y3, hy3⟩ : ∃ y, xs[3]? = some y := ⟨_, List.getElem?_eq_getElem (by rw [hxl]; simp)⟩
        rw [hy3] at g3
        obtain ⟨a3, q3, _, w3⟩ := DataW.trod_int Tryd.underlying5 g3
        simp only [List.cons.injEq, and_true] at q0 q1 q2 q3
        subst q0 q1 q2 q3
        have ad : ∀ x y, ((⟨b, off, none⟩ : Addr).add x).add y = ⟨b, off + x + y, none⟩ := fun x y => by rw [Go.Deep.add_add]; unfold Addr.add; split <;> simp_all <;> omega
        rw [ad] at e0 e1 e2 e3
        try simp only [acells4] at e0 e1 e2 e3
        have r0 := bounds_u8 w0
        have r1 := bounds_u8 w1
        have r2 := bounds_u8 w2
        have r3 := bounds_u8 w3
        exact ⟨⟨a0, a1, a2, a3⟩, ⟨by dsimp only; omega, by dsimp only; omega, by dsimp only; omega, by dsimp only; omega⟩, e0, e1, e2, e3⟩
    haveI : Inhabited At4 := ⟨⟨0, 0, 0, 0⟩⟩
    obtain ⟨act, hact⟩ := choose_lt each
    refine ⟨(List.range len).map act, fun x hx => ?_, .inr ⟨b, off, cap, by simp, by simpa using hl, hbl, fun i u hu => ?_⟩⟩
    · simp at hx
      obtain ⟨j, hj, rfl⟩ := hx
      exact (hact j hj).1
    · obtain ⟨j, hj, r, hr, rfl, hc⟩ := rowV_idx _ _ _ hu
      simp at hj
      have hk : Cel.k At4 = 4 := rfl
      rw [hk] at hr ⊢
      obtain ⟨_, h0, h1, h2, h3⟩ := hact j hj
      simp only [List.getElem_map, List.getElem_range] at hc
      have hr4 : r = 0 ∨ r = 1 ∨ r = 2 ∨ r = 3 := by omega
      rcases hr4 with rfl | rfl | rfl | rfl
      · cases hc; exact ⟨by simpa [Nat.add_assoc] using h0, rfl⟩
      · cases hc; exact ⟨by simpa [Nat.add_assoc] using h1, rfl⟩
      · cases hc; exact ⟨by simpa [Nat.add_assoc] using h2, rfl⟩
      · cases hc; exact ⟨by simpa [Nat.add_assoc] using h3, rfl⟩
def placeOf : Value → Option (Nat × Nat)
  | .slice (some a) _ _ => some (a.block, a.off)
  | _ => none
end Go.Den
set_option linter.unusedVariables false
set_option maxRecDepth 100000
namespace Go.Den
open Go Go.Proofs Go.RowKit
def TB (W : World) : Prop := ∀ (i : Nat) (v : Value), ladCells[i]? = some v → W.cell? ⟨0, i, none⟩ = some v
theorem tb_of {W : World} (hT : Lib.TabIs Tryd.prog W "paybook/cycle.ladder" .i64 [1, 3, 7]) : TB W := by
  intro i v hv
  have hi : i < 3 := (List.getElem?_eq_some_iff.1 hv).1
  have hc := hT.cell (g := 0) (by kernel_rfl) i hi
  rw [hc]
  match i, hv with
  | 0, hv => cases hv; rfl
  | 1, hv => cases hv; rfl
  | 2, hv => cases hv; rfl
  | n + 3, hv => simp [ladCells] at hv
end Go.Den
set_option linter.unusedVariables false
set_option maxRecDepth 100000
namespace Go.Den
open Go Go.Proofs Go.Deep Go.Joins Go.ChangeShapes Go.WideShapes Go.ChangeAt Go.RowKit
def phi2 (s1 s2 : Option (Nat × Nat)) : Ren := fun n => if n = 0 then some ⟨0, 0, 3, true⟩ else if n = 1 then s1.map (fun q => ⟨q.1, q.2, 0, true⟩) else if n = 2 then s2.map (fun q => ⟨q.1, q.2, 0, true⟩) else none
def mem2 (r1 r2 : List Value) : Mem := [.cells true ladCells, .cells true r1, .cells true r2]
theorem lad2 (r1 r2 : List Value) : Lad (mem2 r1 r2) := ⟨true, rfl⟩
def RowIn (W : World) (s : Option (Nat × Nat)) (row : List Value) : Prop := ∀ b o, s = some (b, o) → b < W.heap.size ∧ ∀ (i : Nat) (v : Value), row[i]? = some v → W.cell? ⟨b, o + i, none⟩ = some v ∧ flat v = true
theorem mrel2 {W : World} {s1 s2 : Option (Nat × Nat)} {r1 r2 : List Value} (hl : TB W) (h1 : RowIn W s1 r1) (h2 : RowIn W s2 r2) : SRel Tryd.prog [0] (phi2 s1 s2) (mem2 r1 r2) W := by
  have h0 := hl 0 _ rfl
  have row : ∀ (n : Nat) (s : Option (Nat × Nat)) (r : List Value) (l : Loc) (k : Blk), RowIn W s r → s.map (fun q => (⟨q.1, q.2, 0, true⟩ : Loc)) = some l → some (Blk.cells true r) = some k → BRel (phi2 s1 s2) W l k := by
    intro n s r l k hr hn hk
    cases s with
    | none => cases hn
    | some q =>
      cases hn; cases hk
      exact ⟨rfl, fun i v hv => ⟨v, ((hr q.1 q.2 rfl).2 i v hv).1, .flat ((hr q.1 q.2 rfl).2 i v hv).2⟩, fun h => by cases h⟩
  refine ⟨⟨fun n l hn => ?_, fun n l k hn hk => ?_, fun n m l l' k k' hn hm hk hk' hw _ _ => ?_⟩, fun g hg => ?_⟩
  · unfold phi2 at hn
    split at hn
    · rename_i e; subst e; cases hn
      exact ⟨by simp [mem2], World.block_lt_of_cell? W _ h0⟩
    · split at hn
      · rename_i e; subst e
        cases s1 with
        | none => cases hn
        | some q => cases hn; exact ⟨by simp [mem2], (h1 q.1 q.2 rfl).1⟩
      · split at hn
        · rename_i e; subst e
          cases s2 with
          | none => cases hn
          | some q => cases hn; exact ⟨by simp [mem2], (h2 q.1 q.2 rfl).1⟩
        · cases hn
  · unfold phi2 at hn
    split at hn
    · rename_i e; subst e; cases hn; cases hk
      refine ⟨rfl, fun i v hv => ⟨v, by simpa using hl i v hv, .flat ?_⟩, fun h => by cases h⟩
      match i, hv with
      | 0, hv => cases hv; rfl
      | 1, hv => cases hv; rfl
      | 2, hv => cases hv; rfl
      | n + 3, hv => simp [ladCells] at hv
    · split at hn
      · rename_i e; subst e; exact row 1 s1 r1 l k h1 hn hk
      · split at hn
        · rename_i e; subst e; exact row 2 s2 r2 l k h2 hn hk
        · cases hn
  · have : k.wr = false := by
      unfold mem2 at hk
      match n, hk with
      | 0, hk => cases hk; rfl
      | 1, hk => cases hk; rfl
      | 2, hk => cases hk; rfl
      | n + 3, hk => simp at hk
    rw [this] at hw; cases hw
  · have e : g = 0 := by simpa using hg
    subst e
    exact ⟨_, rfl, rfl, rfl⟩
def inB (n k : Nat) : Value → Value
  | .slice (some _) m _ => .slice (some ⟨n, 0, none⟩) m k
  | v => v
def RowsIn {α : Type} [Cel α] (W : World) (v : Value) (l : List α) : Prop :=
  (v = .slice none 0 0 ∧ l = []) ∨ ∃ b o cap, v = .slice (some ⟨b, o, none⟩) l.length cap ∧ l.length ≤ cap ∧ b < W.heap.size ∧ ∀ (i : Nat) (u : Value), (rowV l)[i]? = some u → W.cell? ⟨b, o + i, none⟩ = some u ∧ flat u = true
theorem RowsIn.in_ {α : Type} [Cel α] {W : World} {v : Value} {l : List α} (h : RowsIn W v l) : RowIn W (placeOf v) (rowV l) := by
  rcases h with ⟨rfl, rfl⟩ | ⟨b, o, cap, rfl, h1, h2, h3⟩
  · intro b o e; cases e
  · intro b' o' e; cases e; exact ⟨h2, h3⟩
theorem RowsIn.rel {α : Type} [Cel α] {W : World} {v : Value} {l : List α} (h : RowsIn W v l) {φ : Ren} {n k : Nat} (hk : k ≠ 0) (hφ : φ n = (placeOf v).map (fun q => ⟨q.1, q.2, 0, true⟩)) : VRel φ (inB n k v) v := by
  rcases h with ⟨rfl, rfl⟩ | ⟨b, o, cap, rfl, h1, h2, h3⟩
  · exact .flat rfl
  · exact VRel.slice (a := ⟨n, 0, none⟩) (l := ⟨b, o, 0, true⟩) (by simpa [placeOf] using hφ) rfl h1 (.inl rfl) (.inl rfl) (fun e => by omega)
theorem RowsIn.row {α : Type} [Cel α] {W : World} {v : Value} {l : List α} (h : RowsIn W v l) {M : Mem} {n : Nat} (hM : M[n]? = some (.cells true (rowV l))) : RowAt M (inB n (Cel.k α) v) l := by
  rcases h with ⟨rfl, rfl⟩ | ⟨b, o, cap, rfl, h1, h2, h3⟩
  · exact RowAt.nil _
  · exact RowAt.all (b := n) (ro := true) hM
theorem bcells1 : Tryd.prog.cellsOf 5 = 1 := by kernel_rfl
theorem bytes_in {H : Type} {enc : TypeId × Value → H} {W : World} {base : Nat} {ao : Option Addr} {len cap : Nat} {d : DataW H} {p : List MemPlace} (hw : Value.okWide Tryd.prog W .any base 72 (.slice ao len cap))
    (h : DataW.Trod enc Tryd.prog W 0 (fun _ => true) true 72 (.slice ao len cap) d p) : ∃ l : List By, ByOk l ∧ RowsIn W (.slice ao len cap) l := by
  obtain ⟨fuel, hf⟩ := h
  rcases open_slice Tryd.underlying72 hf with ⟨hcs, _⟩ | ⟨a, len', cap', m, n, D, Pl, hcs, hb, hl, hm, hmm, hx, hel⟩
  · simp [Value.cells] at hcs
    obtain ⟨rfl, rfl, rfl⟩ := hcs
    exact ⟨[], fun a ha => by simp at ha, .inl ⟨rfl, rfl⟩⟩
  · simp [Value.cells] at hcs
    obtain ⟨rfl, rfl, rfl⟩ := hcs
    simp only [if_true] at hmm
    have hhas : W.has Tryd.prog .any base a 5 cap := by
      simp only [Value.okWide, Tryd.underlying72, Cell.okWide, Cell.ok] at hw
      exact hw.2.2
    obtain ⟨_, hspot, row, cells, hsh, _⟩ := hhas
    obtain ⟨b, off, spot⟩ := a
    simp only at hspot
    subst hspot
    have hbl : b < W.heap.size := by
      unfold World.shape? at hsh
      cases hq : W.heap[b]? with
      | none => rw [hq] at hsh; cases hsh
      | some _ => exact (Array.getElem?_eq_some_iff.1 hq).1
    have each : ∀ i, i < len → ∃ x : By, (0 ≤ x.n ∧ x.n < 256) ∧ W.cell? ⟨b, off + i, none⟩ = some (.int .u8 x.n) := by
      intro i hi
      obtain ⟨cs', h1, h2⟩ := hel i (by omega)
      rw [bcells1] at h1
      obtain ⟨_, hlen, hcell⟩ := World.cells?_some h1
      obtain ⟨a0, q0, _, w0⟩ := DataW.trod_int Tryd.underlying5 h2
      subst q0
      have r0 := bounds_u8 w0
      have e0 := hcell 0 (by omega)
      have ad : ∀ x y, ((⟨b, off, none⟩ : Addr).add x).add y = ⟨b, off + x + y, none⟩ := fun x y => by rw [Go.Deep.add_add]; unfold Addr.add; split <;> simp_all <;> omega
      rw [ad] at e0
      exact ⟨⟨a0⟩, ⟨by dsimp only; omega, by dsimp only; omega⟩, by simpa [bcells1] using e0⟩
    haveI : Inhabited By := ⟨⟨0⟩⟩
    obtain ⟨act, hact⟩ := choose_lt each
    refine ⟨(List.range len).map act, fun x hx => ?_, .inr ⟨b, off, cap, by simp, by simpa using hl, hbl, fun i u hu => ?_⟩⟩
    · simp at hx
      obtain ⟨j, hj, rfl⟩ := hx
      exact (hact j hj).1
    · obtain ⟨j, hj, r, hr, rfl, hc⟩ := rowV_idx _ _ _ hu
      simp at hj
      have hk : Cel.k By = 1 := rfl
      rw [hk] at hr ⊢
      have hr0 : r = 0 := by omega
      subst hr0
      simp only [List.getElem_map, List.getElem_range] at hc
      cases hc
      exact ⟨by simpa using (hact j hj).2, rfl⟩
end Go.Den
set_option linter.unusedVariables false
set_option maxRecDepth 100000
namespace Go.Den
open Go Go.Proofs Go.RowKit
theorem readsCalls (ao0 : Option Addr) (len0 cap0 : Nat) (act0 : List By) (ao1 : Option Addr) (len1 cap1 : Nat) (act1 : List At4) (a2 : Int) (a3 : Int) (W : World) (w0 : ByOk act0 ∧ RowsIn W (.slice ao0 len0 cap0) act0) (w1 : ActsIn W (.slice ao1 len1 cap1) act1) (w2 : (Lit.int .u16 a2).wf = true) (w3 : (Lit.int .u8 a3).wf = true) (hT : TB W) :
    Calls Tryd.prog 10 #[.slice ao0 len0 cap0, .slice ao1 len1 cap1, .int .u16 a2, .int .u8 a3] W fun e W' => e = .returned (.bool true) ∧ RowKit.Below W.heap.size W W' := by
  have q0 : RowsIn W (.slice ao0 len0 cap0) act0 := w0.2
  have q1 : RowsIn W (.slice ao1 len1 cap1) act1 := w1.2
  have b2 := bounds_u16 w2
  have b3 := bounds_u8 w3
  have hS := mrel2 hT q0.in_ q1.in_
  have hR1 := q0.row (M := mem2 (rowV act0) (rowV act1)) (n := 1) rfl
  have hR2 := q1.row (M := mem2 (rowV act0) (rowV act1)) (n := 2) rfl
  refine FSem.law (x := .bool true) (FSem.mono (reads_law act0 w0.1 act1 w1.1 a2 (by omega) (by omega) a3 (lad2 _ _) hR1 hR2) fun v H' h => h.1) rfl hS ?_ ?_
  · refine ⟨rfl, fun i v u hv hu => ?_⟩
    match i, hv, hu with
    | 0, hv, hu => cases hv; cases hu; exact q0.rel (by decide) rfl
    | 1, hv, hu => cases hv; cases hu; exact q1.rel (by decide) rfl
    | 2, hv, hu => cases hv; cases hu; exact .flat rfl
    | 3, hv, hu => cases hv; cases hu; exact .flat rfl
    | n + 4, hv, hu => simp at hv
  · intro n k hk
    match n, hk with
    | 0, hk => cases hk; rfl
    | 1, hk => cases hk; rfl
    | 2, hk => cases hk; rfl
    | n + 3, hk => simp [mem2] at hk
end Go.Den
