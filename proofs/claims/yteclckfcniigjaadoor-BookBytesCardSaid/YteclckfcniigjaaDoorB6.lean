/- A part of the proof. -/
import Derived.KernelRfl
import Derived.Deep.Slices
import Derived.WideShapes
import Derived.RowKit
import Derived.OpenShut
import Derived.Lib.SmallJoins
import Derived.ChangeOld
import Derived.ProofKit
import Derived.LaidMore
import Derived.Laws.LoneSync
import Derived.DeepKeys4
import Derived.Lib.LaidTab
import Derived.Test.YteclckfcniigjaaDoorD5
set_option linter.all false
namespace Go.Den
open Go Go.Proofs
set_option maxRecDepth 100000
set_option maxHeartbeats 1000000
set_option linter.all false
attribute [local simp] evOps evOp absOp absBox absLoad absStore absField absIndexAddr absCells absBinOp absBin absInt absShift absUn absPick absNil absExtract absPlaces Instr.fill absBuiltin absMinMax plainV plainT allA flat cells_agg cells_int cells_bool cells_str cells_ptr cells_sl cells_map one_int one_bool one_str one_ptr one_sl one_map Act.eval Act.put Region.wanted yielded absCall TypeDesc.isRow
attribute [local simp high] bk_t bk_p bk_take bk_row BkL_len sp_bk sp_t sp_p
attribute [local simp] sp_nil sp_0 sp_s List.length_set
theorem step_s (k : Nat) (b : Bk) (o : Od) {sp : Value} {l : List As} {H : Mem} (hB : BkAt H sp l b) (hL : Lad H) (hk : BOk k b) (hk3 : k ≤ 300000000) (hu : UnOk b.pls) : FSem Tryd.prog [0] 16 #[bkv b.today sp l, o.v] H fun v H' => BkRes H sp (stepB b o) v H' := by
  refine FSem.ofK Tryd.func16 rfl ?_
  refine DK.from (b' := ⟨#[bkv b.today sp l, o.v, undef, undef, undef, undef, undef, undef, undef, undef, undef, undef, undef, undef, undef, undef, undef, undef, undef, undef, undef, undef, undef, undef, undef, undef, undef, undef, undef, undef, undef, undef, undef, undef, undef, undef, undef, undef, undef, undef, undef, undef, undef, undef, undef, undef, undef, undef, undef, undef, undef, undef, undef, undef, undef, undef, undef, undef, undef, undef, undef, undef, undef, undef, undef, undef, undef, undef, undef, undef, undef, undef, undef, undef, undef, undef, undef, undef, undef, undef, undef, undef, undef, undef, undef, undef, undef, undef, undef, undef, undef, undef, undef, undef, undef, undef, undef, undef], []⟩) (by kernel_rfl) ?_
  have u := trivial
  have w := trivial
  have t := trivial
  have E := trivial
  have j := trivial
  have g := trivial
  have z := trivial
  have A := trivial
  have B := trivial
  have C := trivial
  have D := trivial
  have y := trivial
  have m := trivial
  have F := trivial
  have e := trivial
  have d := trivial
  have f := trivial
  have r := trivial
  obtain ⟨hsp0, hsp1⟩ := hB.pls.cells
  have hone := bk_ones hsp1
  have hl32 := hB.len
  refine DK.seq ?_
  refine DK.region (is := [0, 1, 2, 3]) (by kernel_rfl) rfl ?_
  refine WK.run [0, 1, 2, 3] (by simp [hone, hsp0, hsp1, hl32]; constructor <;> rfl) ?_
  refine WK.nil ?_
  refine DK.abs (fun M0 => AtM H [BkL b.today sp l, o.l, BkL 0 (.slice none 0 0) zL] M0) (AtM.start H [] [_, _, _]) ?_
  try clear hM
  rintro M0 hM
  replace u := hM.own 0 (by simp)
  replace w := hM.own 1 (by simp)
  replace t := hM.own 2 (by simp)
  simp only [List.getElem_cons_zero, List.getElem_cons_succ, Nat.add_zero] at u w t
  replace E := hM.q3
  refine DK.seq ?_
  refine DK.seq ?_
  refine DK.region (is := [0, 1, 2]) (by kernel_rfl) rfl ?_
  refine WK.run [0] (by simp [u, w, t, E, hone, hsp0, hsp1, hl32]; constructor <;> rfl) ?_
  refine WK.call rfl (by simp [u, w, t, E, hone, hsp0, hsp1, hl32]) (by simp [Tryd.func15, Tryd.f15, u, w, t, E, hone, hsp0, hsp1, hl32]; constructor <;> rfl) ?_
  refine FSem.mono (oright_g o _) ?_
  rintro _ Hq ⟨rfl, hq⟩
  subst hq
  refine WK.run [2] (by simp [u, w, t, E, hone, hsp0, hsp1, hl32]; constructor <;> rfl) ?_
  refine WK.nil ?_
  refine DK.seq ?_
  refine DK.region (is := [0, 1]) (by kernel_rfl) rfl ?_
  refine WK.run [0, 1] (by simp [u, w, t, E, hone, hsp0, hsp1, hl32]; constructor <;> rfl) ?_
  refine WK.nil ?_
  refine DK.test rfl rfl (fun h => ?_) (fun h => ?_)
  · try simp only [h]
    replace h := Tr.out h
    refine DK.seq ?_
    refine DK.region (is := [0, 1, 2, 3]) (by kernel_rfl) rfl ?_
    refine WK.run [0, 1, 2, 3] (by simp [u, w, t, E, hone, hsp0, hsp1, hl32]; constructor <;> rfl) ?_
    refine WK.nil ?_
    refine DK.abs (fun MZ => AtM H [BkL b.today sp l, o.l, BkL 0 (.slice none 0 0) zL] MZ) (hM.set (i := 2) (by simp) _) ?_
    try clear hM
    rintro MZ hM
    replace u := hM.own 0 (by simp)
    replace w := hM.own 1 (by simp)
    replace t := hM.own 2 (by simp)
    simp only [List.getElem_cons_zero, List.getElem_cons_succ, Nat.add_zero] at u w t
    replace E := hM.q3
    have hres : stepB b o = (zeroB, rightO o) := if_pos ‹_›
    have hBk := BkAt.zero MZ
    have hsb : ∀ c, blkOf (.slice none 0 0) = some c → blkOf sp = some c ∨ H.length ≤ c := fun c hc => (by cases hc)
    refine DK.ret ?_
    refine And.intro (Or.inr rfl) ?_
    refine ⟨_, by simp [absAnswer, absResults, absResult, Tryd.f16, u, w, t, E, j, g, hsp0, hsp1, hl32, hone, e, d, f]; rfl, ?_⟩
    exact ⟨_, _, by rw [hres]; rfl, by rw [hres]; exact hBk, hM.keep, hsb⟩
  try simp only [h]
  replace h := Fa.out h
  have hr0 : rightO o = 0 := h
  obtain ⟨hsu1, hsu2⟩ := rightO_su hr0
  refine DK.skip ?_
  refine DK.seq ?_
  refine DK.region (is := [0]) (by kernel_rfl) rfl ?_
  refine WK.run [0] (by simp [u, w, t, E, j, g, hone, hsp0, hsp1, hl32, e, d, f]; constructor <;> rfl) ?_
  refine WK.nil ?_
  refine DK.seq ?_
  refine DK.seq ?_
  refine DK.region (is := [0, 1]) (by kernel_rfl) rfl ?_
  refine WK.run [0, 1] (by simp [u, w, t, E, j, g, hone, hsp0, hsp1, hl32, e, d, f]; constructor <;> rfl) ?_
  refine WK.nil ?_
  refine DK.block ?_
  refine DK.seq ?_
  refine DK.region (is := [0, 1]) (by kernel_rfl) rfl ?_
  refine WK.run [0, 1] (by simp [u, w, t, E, j, g, hone, hsp0, hsp1, hl32, e, d, f]; constructor <;> rfl) ?_
  refine WK.nil ?_
  refine DK.test rfl rfl (fun h => ?_) (fun h => ?_)
  · try simp only [h]
    replace h := Tr.out h
    refine DK.region (is := [0, 1, 2, 3, 4, 5, 6, 7, 8, 9, 10, 11]) (by kernel_rfl) rfl ?_
    refine WK.run [0, 1, 2, 3] (by simp [u, w, t, E, j, g, hone, hsp0, hsp1, hl32, e, d, f]; constructor <;> rfl) ?_
    refine WK.call rfl (by simp [u, w, t, E, j, g, hone, hsp0, hsp1, hl32, e, d, f]) (by simp [Tryd.func30, Tryd.f30, u, w, t, E, j, g, hone, hsp0, hsp1, hl32, e, d, f]; constructor <;> rfl) ?_
    refine FSem.mono (addp_g b.pls o.p (hB.pls.keep hM.keep)) ?_
    rintro _ M3 ⟨pl2, k2, e2, s2, rfl, hap, hA, hR2, hW2, hN2⟩
    have hM0 := hM
    have hF3 : blkOf s2 ≠ some H.length := hN2.ne (hM.lt (i := 0) (by simp))
    replace hM := hM.on (Keep.of hA)
    replace u := hM.own 0 (by simp)
    replace w := hM.own 1 (by simp)
    replace t := hM.own 2 (by simp)
    simp only [List.getElem_cons_zero, List.getElem_cons_succ, Nat.add_zero] at u w t
    replace E := hM.q3
    replace j := hR2.cells.1
    replace g := hR2.cells.2
    refine WK.run [5, 6, 7, 8, 9, 10, 11] (by simp [u, w, t, E, j, g, hone, hsp0, hsp1, hl32, e, d, f]; constructor <;> rfl) ?_
    refine WK.nil ?_
    refine DK.abs (fun M4 => AtM H [BkL b.today s2 l, _, _] M4 ∧ RowAt M4 s2 pl2) ⟨hM.set (i := 0) (by simp) _, hR2.set hF3 _⟩ ?_
    try clear hM
    try clear hR2
    rintro M4 ⟨hM, hR2⟩
    replace u := hM.own 0 (by simp)
    replace w := hM.own 1 (by simp)
    replace t := hM.own 2 (by simp)
    simp only [List.getElem_cons_zero, List.getElem_cons_succ, Nat.add_zero] at u w t
    replace E := hM.q3
    have hBk := hB.plsSet hM.keep hR2
    have hres1 : stepB b o = if e2 ≠ 0 then (zeroB, e2) else ({ b with pls := pl2 }, 0) := by
      unfold stepB
      rw [if_neg (by simp [hr0]), if_pos ‹o.kd = 1›, hap]
    have hsb : ∀ c, blkOf s2 = some c → blkOf sp = some c ∨ H.length ≤ c := fun c hc => .inr (Nat.le_trans hM0.keep.1 (hN2 c hc))
    have hfr2 : blkOf s2 ≠ some (H.length + 2) := hN2.ne (hM0.lt (i := 2) (by simp))
    replace hone := bk_ones g
    replace hsp1 := g
    replace hsp0 := j
    refine DK.seq ?_
    refine DK.seq ?_
    refine DK.region (is := [0, 1]) (by kernel_rfl) rfl ?_
    refine WK.run [0, 1] (by simp [u, w, t, E, j, g, hone, hsp0, hsp1, hl32, e, d, f]; constructor <;> rfl) ?_
    refine WK.nil ?_
    refine DK.test rfl rfl (fun h => ?_) (fun h => ?_)
    · try simp only [h]
      replace h := Tr.out h
      refine DK.seq ?_
      refine DK.region (is := [0, 1, 2, 3]) (by kernel_rfl) rfl ?_
      refine WK.run [0, 1, 2, 3] (by simp [u, w, t, E, j, g, hone, hsp0, hsp1, hl32, e, d, f]; constructor <;> rfl) ?_
      refine WK.nil ?_
      refine DK.abs (fun MZ => AtM H [_, _, BkL 0 (.slice none 0 0) zL] MZ) (hM.set (i := 2) (by simp) _) ?_
      try clear hM
      rintro MZ hM
      replace u := hM.own 0 (by simp)
      replace w := hM.own 1 (by simp)
      replace t := hM.own 2 (by simp)
      simp only [List.getElem_cons_zero, List.getElem_cons_succ, Nat.add_zero] at u w t
      replace E := hM.q3
      have hres : stepB b o = (zeroB, e2) := hres1.trans (if_pos ‹_›)
      replace hBk := BkAt.zero MZ
      replace hsb : ∀ c, blkOf (.slice none 0 0) = some c → blkOf sp = some c ∨ H.length ≤ c := fun c hc => (by cases hc)
      refine DK.ret ?_
      refine And.intro (Or.inr rfl) ?_
      refine ⟨_, by simp [absAnswer, absResults, absResult, Tryd.f16, u, w, t, E, j, g, hsp0, hsp1, hl32, hone, e, d, f]; rfl, ?_⟩
      exact ⟨_, _, by rw [hres]; rfl, by rw [hres]; exact hBk, hM.keep, hsb⟩
    try simp only [h]
    replace h := Fa.out h
    refine DK.skip ?_
    refine DK.seq ?_
    refine DK.region (is := [0, 1, 2]) (by kernel_rfl) rfl ?_
    refine WK.run [0, 1, 2] (by simp [u, w, t, E, j, g, hone, hsp0, hsp1, hl32, e, d, f]; constructor <;> rfl) ?_
    refine WK.nil ?_
    have hres := hres1.trans (if_neg (by simpa using ‹e2 = 0›))
    refine DK.abs (fun MF => AtM H [_, _, _] MF ∧ BkAt MF _ _ _) ⟨hM.set (i := 2) (by simp) _, hBk.set (hBk.fre t (by rw [BkL_len (by simp)]; decide) hfr2) _⟩ ?_
    try clear hM
    try clear hBk
    rintro MF ⟨hM, hBk⟩
    replace u := hM.own 0 (by simp)
    replace w := hM.own 1 (by simp)
    replace t := hM.own 2 (by simp)
    simp only [List.getElem_cons_zero, List.getElem_cons_succ, Nat.add_zero] at u w t
    replace E := hM.q3
    refine DK.ret ?_
    refine And.intro (Or.inr rfl) ?_
    refine ⟨_, by simp [absAnswer, absResults, absResult, Tryd.f16, u, w, t, E, j, g, hsp0, hsp1, hl32, hone, e, d, f]; rfl, ?_⟩
    exact ⟨_, _, by rw [hres]; rfl, by rw [hres]; exact hBk, hM.keep, hsb⟩
  try simp only [h]
  replace h := Fa.out h
  refine DK.seq ?_
  refine DK.region (is := [0, 1]) (by kernel_rfl) rfl ?_
  refine WK.run [0, 1] (by simp [u, w, t, E, j, g, hone, hsp0, hsp1, hl32, e, d, f]; constructor <;> rfl) ?_
  refine WK.nil ?_
  refine DK.test rfl rfl (fun h => ?_) (fun h => ?_)
  · try simp only [h]
    replace h := Tr.out h
    have hsu3 := hsu2 (by omega) (by omega) (by omega)
    obtain ⟨x, hxa, hxl, hxo, htk1, hst1, hpt1⟩ := hB.sub (i := o.su) (by omega) (by omega)
    replace z : 0 ≤ o.su := by omega
    replace A : o.su < 32 := by omega
    replace B : 2 + o.su.toNat * 13 ≤ 417 := by omega
    replace C : 2 + o.su.toNat * 13 ≤ 405 := by omega
    replace D := hst1 b.today
    replace y := htk1 b.today
    simp only [Ac.l] at y
    replace j := hxo.cells.1
    replace g := hxo.cells.2
    have hxn : x.a.op.length ≤ 1000000000000 := by rw [hxa]; have := (hk.subs _ (sub_mem hk.len (i := o.su) (by omega) (by omega))).2; omega
    refine DK.draw rfl (POk.of (ord := [0, 1, 2, 3, 8, 4, 5, 6, 7, 9, 10, 11]) (by kernel_rfl)) ?_
    refine XK.run [0, 1, 2, 3, 8] (by kernel_rfl) (by simp [u, w, t, E, j, g, hone, hsp0, hsp1, hl32, z, A, B, C, D, y, e, d, f]; constructor <;> rfl) ?_
    refine XK.call rfl (by simp [u, w, t, E, j, g, hone, hsp0, hsp1, hl32, z, A, B, C, D, y, e, d, f]) rfl (by simp [Tryd.func31, Tryd.f31, u, w, t, E, j, g, hone, hsp0, hsp1, hl32, z, A, B, C, D, y, e, d, f]; constructor <;> rfl) ?_
    refine FSem.mono (bopen_g k b o (hB.keep hM.keep) hk hu (by omega) (by omega)) ?_
    rintro _ M3 ⟨x2, e2, s2, rfl, hres0, hA, hO2, hF2⟩
    have hF3 : blkOf s2 ≠ some H.length := hF2.ne (hM.lt (i := 0) (by simp))
    replace hM := hM.on (Keep.of hA)
    replace u := hM.own 0 (by simp)
    replace w := hM.own 1 (by simp)
    replace t := hM.own 2 (by simp)
    simp only [List.getElem_cons_zero, List.getElem_cons_succ, Nat.add_zero] at u w t
    replace E := hM.q3
    replace j := hO2.cells.1
    replace g := hO2.cells.2
    have hspl1 := hB.sp (i := o.su) (by omega) (by omega) b.today ⟨x2, s2, g⟩
    replace m := hspl1
    simp only [Ac.l] at m
    refine And.intro (lag_list (l := [1]) (by kernel_rfl) (lag_cons (lag_one rfl (by simp [u, w, t, E, j, g, hone, hsp0, hsp1, hl32, z, A, B, C, D, y, e, d, f]; constructor <;> rfl) rfl (by simp [u, w, t, E, j, g, hone, hsp0, hsp1, hl32, z, A, B, C, D, y, e, d, f]) (by simp [sameL, sameV_agg, sameV_int, sameV_bool, sameV_str, sameV_ptr, sameV_sl, sameV_map, same1_int, same1_bool, same1_str, same1_ptr, same1_sl, same1_map, u, w, t, E, j, g, hone, hsp0, hsp1, hl32, z, A, B, C, D, y, e, d, f]) rfl) rfl)) ?_
    refine XK.run [5, 6, 7, 9] (by kernel_rfl) (by simp [u, w, t, E, j, g, hone, hsp0, hsp1, hl32, z, A, B, C, D, y, m, e, d, f]; constructor <;> rfl) ?_
    refine XK.one rfl (by simp [u, w, t, E, j, g, hone, hsp0, hsp1, hl32, z, A, B, C, D, y, m, e, d, f]) rfl (by simp [u, w, t, E, j, g, hone, hsp0, hsp1, hl32, z, A, B, C, D, y, m, e, d, f]; constructor <;> rfl) (lag_list (l := []) (by kernel_rfl) rfl) ?_
    refine XK.one rfl (by simp [u, w, t, E, j, g, hone, hsp0, hsp1, hl32, z, A, B, C, D, y, m, e, d, f]) rfl (by simp [u, w, t, E, j, g, hone, hsp0, hsp1, hl32, z, A, B, C, D, y, m, e, d, f]; constructor <;> rfl) (lag_list (l := []) (by kernel_rfl) rfl) ?_
    refine XK.nil ?_
    refine DK.abs (fun M4 => AtM H [BkL b.today sp (l.set o.su.toNat ⟨x2, s2, g⟩), _, _] M4 ∧ OpenAt M4 s2 x2.op) ⟨hM.set (i := 0) (by simp) _, hO2.set hF3 _⟩ ?_
    try clear hM
    try clear hO2
    rintro M4 ⟨hM, hO2⟩
    replace u := hM.own 0 (by simp)
    replace w := hM.own 1 (by simp)
    replace t := hM.own 2 (by simp)
    simp only [List.getElem_cons_zero, List.getElem_cons_succ, Nat.add_zero] at u w t
    replace E := hM.q3
    have hBk := (hB.keep hM.keep).put (i := o.su) (by omega) (by omega) (x := ⟨x2, s2, g⟩) hO2
    have hres1 : stepB b o = if e2 ≠ 0 then (zeroB, e2) else ({ b with subs := b.subs.set o.su.toNat x2 }, 0) := by
      unfold stepB
      rw [if_neg (by simp [hr0]), if_neg ‹¬o.kd = 1›, if_pos ‹o.kd = 2›, hres0, put_ok]
    replace hl32 : (l.set o.su.toNat ⟨x2, s2, g⟩).length = 32 := by rw [List.length_set]; exact hl32
    have hsb : ∀ c, blkOf sp = some c → blkOf sp = some c ∨ H.length ≤ c := fun c hc => .inl hc
    have hfr2 : blkOf sp ≠ some (H.length + 2) := fun hc => by have := hB.pls.lt hc; omega
    refine DK.seq ?_
    refine DK.seq ?_
    refine DK.region (is := [0, 1]) (by kernel_rfl) rfl ?_
    refine WK.run [0, 1] (by simp [u, w, t, E, j, g, hone, hsp0, hsp1, hl32, z, A, B, C, D, y, m, e, d, f]; constructor <;> rfl) ?_
    refine WK.nil ?_
    refine DK.test rfl rfl (fun h => ?_) (fun h => ?_)
    · try simp only [h]
      replace h := Tr.out h
      refine DK.seq ?_
      refine DK.region (is := [0, 1, 2, 3]) (by kernel_rfl) rfl ?_
      refine WK.run [0, 1, 2, 3] (by simp [u, w, t, E, j, g, hone, hsp0, hsp1, hl32, z, A, B, C, D, y, m, e, d, f]; constructor <;> rfl) ?_
      refine WK.nil ?_
      refine DK.abs (fun MZ => AtM H [_, _, BkL 0 (.slice none 0 0) zL] MZ) (hM.set (i := 2) (by simp) _) ?_
      try clear hM
      rintro MZ hM
      replace u := hM.own 0 (by simp)
      replace w := hM.own 1 (by simp)
      replace t := hM.own 2 (by simp)
      simp only [List.getElem_cons_zero, List.getElem_cons_succ, Nat.add_zero] at u w t
      replace E := hM.q3
      have hres : stepB b o = (zeroB, e2) := hres1.trans (if_pos ‹_›)
      replace hBk := BkAt.zero MZ
      replace hsb : ∀ c, blkOf (.slice none 0 0) = some c → blkOf sp = some c ∨ H.length ≤ c := fun c hc => (by cases hc)
      refine DK.ret ?_
      refine And.intro (Or.inr rfl) ?_
      refine ⟨_, by simp [absAnswer, absResults, absResult, Tryd.f16, u, w, t, E, j, g, hsp0, hsp1, hl32, hone, e, d, f]; rfl, ?_⟩
      exact ⟨_, _, by rw [hres]; rfl, by rw [hres]; exact hBk, hM.keep, hsb⟩
    try simp only [h]
    replace h := Fa.out h
    refine DK.skip ?_
    refine DK.seq ?_
    refine DK.region (is := [0, 1, 2]) (by kernel_rfl) rfl ?_
    refine WK.run [0, 1, 2] (by simp [u, w, t, E, j, g, hone, hsp0, hsp1, hl32, z, A, B, C, D, y, m, e, d, f]; constructor <;> rfl) ?_
    refine WK.nil ?_
    have hres := hres1.trans (if_neg (by simpa using ‹e2 = 0›))
    refine DK.abs (fun MF => AtM H [_, _, _] MF ∧ BkAt MF _ _ _) ⟨hM.set (i := 2) (by simp) _, hBk.set (hBk.fre t (by rw [BkL_len (by simp)]; decide) hfr2) _⟩ ?_
    try clear hM
    try clear hBk
    rintro MF ⟨hM, hBk⟩
    replace u := hM.own 0 (by simp)
    replace w := hM.own 1 (by simp)
    replace t := hM.own 2 (by simp)
    simp only [List.getElem_cons_zero, List.getElem_cons_succ, Nat.add_zero] at u w t
    replace E := hM.q3
    refine DK.ret ?_
    refine And.intro (Or.inr rfl) ?_
    refine ⟨_, by simp [absAnswer, absResults, absResult, Tryd.f16, u, w, t, E, j, g, hsp0, hsp1, hl32, hone, e, d, f]; rfl, ?_⟩
    exact ⟨_, _, by rw [hres]; rfl, by rw [hres]; exact hBk, hM.keep, hsb⟩
  try simp only [h]
  replace h := Fa.out h
  refine DK.seq ?_
  refine DK.region (is := [0, 1]) (by kernel_rfl) rfl ?_
  refine WK.run [0, 1] (by simp [u, w, t, E, j, g, hone, hsp0, hsp1, hl32, z, A, B, C, D, y, m, e, d, f]; constructor <;> rfl) ?_
  refine WK.nil ?_
  refine DK.test rfl rfl (fun h => ?_) (fun h => ?_)
  · try simp only [h]
    replace h := Tr.out h
    refine DK.seq ?_
    refine DK.region (is := [0, 1, 2, 3, 4, 5, 6, 7]) (by kernel_rfl) rfl ?_
    refine WK.run [0, 1, 2] (by simp [u, w, t, E, j, g, hone, hsp0, hsp1, hl32, z, A, B, C, D, y, m, e, d, f]; constructor <;> rfl) ?_
    refine WK.call rfl (by simp [u, w, t, E, j, g, hone, hsp0, hsp1, hl32, z, A, B, C, D, y, m, e, d, f]) (by simp [Tryd.func32, Tryd.f32, u, w, t, E, j, g, hone, hsp0, hsp1, hl32, z, A, B, C, D, y, m, e, d, f]; constructor <;> rfl) ?_
    refine FSem.mono (bpass_g k b o.n (hB.keep hM.keep) hk hk3 hu) ?_
    rintro _ M3 ⟨b2, e2, sp2, l2, rfl, hres0, hBk, hl2, d, f, hkk, hsb0⟩
    have hsb : ∀ c, blkOf sp2 = some c → blkOf sp = some c ∨ H.length ≤ c := fun c hc => (hsb0 c hc).imp id (fun q => Nat.le_trans hM.keep.1 q)
    have hfr2 : blkOf sp2 ≠ some (H.length + 2) := fun hc => (hsb0 _ hc).elim (fun q => by have := hB.pls.lt q; omega) (fun q => by have := hM.lt (i := 2) (by simp); omega)
    replace hM := hM.on hkk
    replace u := hM.own 0 (by simp)
    replace w := hM.own 1 (by simp)
    replace t := hM.own 2 (by simp)
    simp only [List.getElem_cons_zero, List.getElem_cons_succ, Nat.add_zero] at u w t
    replace E := hM.q3
    replace e := hl2
    have r := bk_ones d
    refine WK.run [4, 5, 6, 7] (by simp [u, w, t, E, j, g, hone, hsp0, hsp1, hl32, z, A, B, C, D, y, m, e, d, f, r]; constructor <;> rfl) ?_
    refine WK.nil ?_
    refine DK.abs (fun M5 => AtM H [_, _, BkL b2.today sp2 l2] M5 ∧ BkAt M5 sp2 l2 b2) ⟨hM.set (i := 2) (by simp) _, hBk.set (hBk.fre t (by rw [BkL_len (by simp)]; decide) hfr2) _⟩ ?_
    try clear hM
    try clear hBk
    rintro M5 ⟨hM, hBk⟩
    replace u := hM.own 0 (by simp)
    replace w := hM.own 1 (by simp)
    replace t := hM.own 2 (by simp)
    simp only [List.getElem_cons_zero, List.getElem_cons_succ, Nat.add_zero] at u w t
    replace E := hM.q3
    have hres : stepB b o = (b2, e2) := by
      unfold stepB
      rw [if_neg (by simp [hr0]), if_neg ‹¬o.kd = 1›, if_neg ‹¬o.kd = 2›, if_pos ‹o.kd = 9›, hres0]
    refine DK.ret ?_
    refine And.intro (Or.inr rfl) ?_
    refine ⟨_, by simp [absAnswer, absResults, absResult, Tryd.f16, u, w, t, E, j, g, hsp0, hsp1, hl32, hone, e, d, f]; rfl, ?_⟩
    exact ⟨_, _, by rw [hres]; rfl, by rw [hres]; exact hBk, hM.keep, hsb⟩
  try simp only [h]
  replace h := Fa.out h
  refine DK.seq ?_
  refine DK.region (is := [0, 1]) (by kernel_rfl) rfl ?_
  refine WK.run [0, 1] (by simp [u, w, t, E, j, g, hone, hsp0, hsp1, hl32, z, A, B, C, D, y, m, e, d, f, r]; constructor <;> rfl) ?_
  refine WK.nil ?_
  refine DK.test rfl rfl (fun h => ?_) (fun h => ?_)
  · try simp only [h]
    replace h := Tr.out h
    have hsu3 := hsu1 h
    obtain ⟨x, hxa, hxl, hxo, htk1, hst1, hpt1⟩ := hB.sub (i := o.a.su) (by omega) (by omega)
    replace z : 0 ≤ o.a.su := by omega
    replace A : o.a.su < 32 := by omega
    replace B : 2 + o.a.su.toNat * 13 ≤ 417 := by omega
    replace C : 2 + o.a.su.toNat * 13 ≤ 405 := by omega
    replace D := hst1 b.today
    replace y := htk1 b.today
    simp only [Ac.l] at y
    replace j := hxo.cells.1
    replace g := hxo.cells.2
    have hxn : x.a.op.length ≤ 1000000000000 := by rw [hxa]; have := (hk.subs _ (sub_mem hk.len (i := o.a.su) (by omega) (by omega))).2; omega
    refine DK.draw rfl (POk.of (ord := [0, 1, 2, 3, 4, 5, 6, 7, 8, 9, 10, 11, 12, 13, 14, 15, 20, 16, 17, 18, 19, 21, 22, 23]) (by kernel_rfl)) ?_
    refine XK.run [0, 1, 2, 3, 4, 5, 6, 7] (by kernel_rfl) (by simp [u, w, t, E, j, g, hone, hsp0, hsp1, hl32, z, A, B, C, D, y, m, e, d, f, r]; constructor <;> rfl) ?_
    refine XK.run [8, 9, 10, 11, 12, 13, 14, 15] (by kernel_rfl) (by simp [u, w, t, E, j, g, hone, hsp0, hsp1, hl32, z, A, B, C, D, y, m, e, d, f, r]; constructor <;> rfl) ?_
    refine XK.run [20] (by kernel_rfl) (by simp [u, w, t, E, j, g, hone, hsp0, hsp1, hl32, z, A, B, C, D, y, m, e, d, f, r]; constructor <;> rfl) ?_
    refine XK.call rfl (by simp [u, w, t, E, j, g, hone, hsp0, hsp1, hl32, z, A, B, C, D, y, m, e, d, f, r]) rfl (by simp [Tryd.func33, Tryd.f33, u, w, t, E, j, g, hone, hsp0, hsp1, hl32, z, A, B, C, D, y, m, e, d, f, r]; constructor <;> rfl) ?_
    refine FSem.mono (ahear_g o.a.su x.a o.a b.today (hL.keep hM.keep) (hxo.keep hM.keep) hxn) ?_
    rintro _ M3 ⟨x2, e2, s2, rfl, hres0, hA, hO2, hF2⟩
    have hF3 : blkOf s2 ≠ some H.length := hF2.ne (hM.lt (i := 0) (by simp))
    replace hM := hM.on (Keep.of hA)
    replace u := hM.own 0 (by simp)
    replace w := hM.own 1 (by simp)
    replace t := hM.own 2 (by simp)
    simp only [List.getElem_cons_zero, List.getElem_cons_succ, Nat.add_zero] at u w t
    replace E := hM.q3
    replace j := hO2.cells.1
    replace g := hO2.cells.2
    have hspl1 := hB.sp (i := o.a.su) (by omega) (by omega) b.today ⟨x2, s2, g⟩
    replace m := hspl1
    simp only [Ac.l] at m
    refine And.intro (lag_list (l := [2]) (by kernel_rfl) (lag_cons (lag_one rfl (by simp [u, w, t, E, j, g, hone, hsp0, hsp1, hl32, z, A, B, C, D, y, m, e, d, f, r]; constructor <;> rfl) rfl (by simp [u, w, t, E, j, g, hone, hsp0, hsp1, hl32, z, A, B, C, D, y, m, e, d, f, r]) (by simp [sameL, sameV_agg, sameV_int, sameV_bool, sameV_str, sameV_ptr, sameV_sl, sameV_map, same1_int, same1_bool, same1_str, same1_ptr, same1_sl, same1_map, u, w, t, E, j, g, hone, hsp0, hsp1, hl32, z, A, B, C, D, y, m, e, d, f, r]) rfl) rfl)) ?_
    refine XK.run [17, 18, 19, 21] (by kernel_rfl) (by simp [u, w, t, E, j, g, hone, hsp0, hsp1, hl32, z, A, B, C, D, y, m, e, d, f, r]; constructor <;> rfl) ?_
    refine XK.one rfl (by simp [u, w, t, E, j, g, hone, hsp0, hsp1, hl32, z, A, B, C, D, y, m, e, d, f, r]) rfl (by simp [u, w, t, E, j, g, hone, hsp0, hsp1, hl32, z, A, B, C, D, y, m, e, d, f, r]; constructor <;> rfl) (lag_list (l := []) (by kernel_rfl) rfl) ?_
    refine XK.one rfl (by simp [u, w, t, E, j, g, hone, hsp0, hsp1, hl32, z, A, B, C, D, y, m, e, d, f, r]) rfl (by simp [u, w, t, E, j, g, hone, hsp0, hsp1, hl32, z, A, B, C, D, y, m, e, d, f, r]; constructor <;> rfl) (lag_list (l := []) (by kernel_rfl) rfl) ?_
    refine XK.nil ?_
    refine DK.abs (fun M4 => AtM H [BkL b.today sp (l.set o.a.su.toNat ⟨x2, s2, g⟩), _, _] M4 ∧ OpenAt M4 s2 x2.op) ⟨hM.set (i := 0) (by simp) _, hO2.set hF3 _⟩ ?_
    try clear hM
    try clear hO2
    rintro M4 ⟨hM, hO2⟩
    replace u := hM.own 0 (by simp)
    replace w := hM.own 1 (by simp)
    replace t := hM.own 2 (by simp)
    simp only [List.getElem_cons_zero, List.getElem_cons_succ, Nat.add_zero] at u w t
    replace E := hM.q3
    have hBk := (hB.keep hM.keep).put (i := o.a.su) (by omega) (by omega) (x := ⟨x2, s2, g⟩) hO2
    have hres1 : stepB b o = if e2 ≠ 0 then (zeroB, e2) else ({ b with subs := b.subs.set o.a.su.toNat x2 }, 0) := by
      unfold stepB
      rw [if_neg (by simp [hr0]), if_neg ‹¬o.kd = 1›, if_neg ‹¬o.kd = 2›, if_neg ‹¬o.kd = 9›, if_pos ‹o.kd = 10›, ← hxa, hres0, put_ok]
    replace hl32 : (l.set o.a.su.toNat ⟨x2, s2, g⟩).length = 32 := by rw [List.length_set]; exact hl32
    have hsb : ∀ c, blkOf sp = some c → blkOf sp = some c ∨ H.length ≤ c := fun c hc => .inl hc
    have hfr2 : blkOf sp ≠ some (H.length + 2) := fun hc => by have := hB.pls.lt hc; omega
    refine DK.seq ?_
    refine DK.seq ?_
    refine DK.region (is := [0, 1]) (by kernel_rfl) rfl ?_
    refine WK.run [0, 1] (by simp [u, w, t, E, j, g, hone, hsp0, hsp1, hl32, z, A, B, C, D, y, m, e, d, f, r]; constructor <;> rfl) ?_
    refine WK.nil ?_
    refine DK.test rfl rfl (fun h => ?_) (fun h => ?_)
    · try simp only [h]
      replace h := Tr.out h
      refine DK.seq ?_
      refine DK.region (is := [0, 1, 2, 3]) (by kernel_rfl) rfl ?_
      refine WK.run [0, 1, 2, 3] (by simp [u, w, t, E, j, g, hone, hsp0, hsp1, hl32, z, A, B, C, D, y, m, e, d, f, r]; constructor <;> rfl) ?_
      refine WK.nil ?_
      refine DK.abs (fun MZ => AtM H [_, _, BkL 0 (.slice none 0 0) zL] MZ) (hM.set (i := 2) (by simp) _) ?_
      try clear hM
      rintro MZ hM
      replace u := hM.own 0 (by simp)
      replace w := hM.own 1 (by simp)
      replace t := hM.own 2 (by simp)
      simp only [List.getElem_cons_zero, List.getElem_cons_succ, Nat.add_zero] at u w t
      replace E := hM.q3
      have hres : stepB b o = (zeroB, e2) := hres1.trans (if_pos ‹_›)
      replace hBk := BkAt.zero MZ
      replace hsb : ∀ c, blkOf (.slice none 0 0) = some c → blkOf sp = some c ∨ H.length ≤ c := fun c hc => (by cases hc)
      refine DK.ret ?_
      refine And.intro (Or.inr rfl) ?_
      refine ⟨_, by simp [absAnswer, absResults, absResult, Tryd.f16, u, w, t, E, j, g, hsp0, hsp1, hl32, hone, e, d, f]; rfl, ?_⟩
      exact ⟨_, _, by rw [hres]; rfl, by rw [hres]; exact hBk, hM.keep, hsb⟩
    try simp only [h]
    replace h := Fa.out h
    refine DK.skip ?_
    refine DK.seq ?_
    refine DK.region (is := [0, 1, 2]) (by kernel_rfl) rfl ?_
    refine WK.run [0, 1, 2] (by simp [u, w, t, E, j, g, hone, hsp0, hsp1, hl32, z, A, B, C, D, y, m, e, d, f, r]; constructor <;> rfl) ?_
    refine WK.nil ?_
    have hres := hres1.trans (if_neg (by simpa using ‹e2 = 0›))
    refine DK.abs (fun MF => AtM H [_, _, _] MF ∧ BkAt MF _ _ _) ⟨hM.set (i := 2) (by simp) _, hBk.set (hBk.fre t (by rw [BkL_len (by simp)]; decide) hfr2) _⟩ ?_
    try clear hM
    try clear hBk
    rintro MF ⟨hM, hBk⟩
    replace u := hM.own 0 (by simp)
    replace w := hM.own 1 (by simp)
    replace t := hM.own 2 (by simp)
    simp only [List.getElem_cons_zero, List.getElem_cons_succ, Nat.add_zero] at u w t
    replace E := hM.q3
    refine DK.ret ?_
    refine And.intro (Or.inr rfl) ?_
    refine ⟨_, by simp [absAnswer, absResults, absResult, Tryd.f16, u, w, t, E, j, g, hsp0, hsp1, hl32, hone, e, d, f]; rfl, ?_⟩
    exact ⟨_, _, by rw [hres]; rfl, by rw [hres]; exact hBk, hM.keep, hsb⟩
  try simp only [h]
  replace h := Fa.out h
  have hsu3 := hsu2 (by omega) (by omega) (by omega)
  obtain ⟨x, hxa, hxl, hxo, htk1, hst1, hpt1⟩ := hB.sub (i := o.su) (by omega) (by omega)
  replace z : 0 ≤ o.su := by omega
  replace A : o.su < 32 := by omega
  replace B : 2 + o.su.toNat * 13 ≤ 417 := by omega
  replace C : 2 + o.su.toNat * 13 ≤ 405 := by omega
  replace D := hst1 b.today
  replace y := htk1 b.today
  simp only [Ac.l] at y
  replace j := hxo.cells.1
  replace g := hxo.cells.2
  have hxn : x.a.op.length ≤ 1000000000000 := by rw [hxa]; have := (hk.subs _ (sub_mem hk.len (i := o.su) (by omega) (by omega))).2; omega
  refine DK.seq ?_
  refine DK.region (is := [0, 1, 2, 3, 4, 5, 6]) (by kernel_rfl) rfl ?_
  refine WK.run [0, 1, 2, 3, 4, 5, 6] (by simp [u, w, t, E, j, g, hone, hsp0, hsp1, hl32, z, A, B, C, D, y, m, e, d, f, r]; constructor <;> rfl) ?_
  refine WK.nil ?_
  refine DK.abs (fun M1 => AtM H [BkL b.today sp l, o.l, BkL 0 (.slice none 0 0) zL] M1 ∧ M1[M0.length]? = some (.cells false (x.a.l x.s))) ⟨hM.on (Keep.app _ _), by simp⟩ ?_
  try clear hM
  try clear F
  rintro M1 ⟨hM, F⟩
  replace u := hM.own 0 (by simp)
  replace w := hM.own 1 (by simp)
  replace t := hM.own 2 (by simp)
  simp only [List.getElem_cons_zero, List.getElem_cons_succ, Nat.add_zero] at u w t
  replace E := hM.q3
  refine DK.seq ?_
  refine DK.seq ?_
  refine DK.region (is := [0, 1, 2]) (by kernel_rfl) rfl ?_
  refine WK.run [0, 1, 2] (by simp [u, w, t, E, j, g, hone, hsp0, hsp1, hl32, z, A, B, C, D, y, m, F, e, d, f, r]; constructor <;> rfl) ?_
  refine WK.nil ?_
  refine DK.test rfl rfl (fun h => ?_) (fun h => ?_)
  · try simp only [h]
    replace h := Tr.out h
    refine DK.seq ?_
    refine DK.region (is := [0, 1, 2]) (by kernel_rfl) rfl ?_
    refine WK.run [0, 1, 2] (by simp [u, w, t, E, j, g, hone, hsp0, hsp1, hl32, z, A, B, C, D, y, m, F, e, d, f, r]; constructor <;> rfl) ?_
    refine WK.nil ?_
    refine DK.abs (fun MZ => AtM H [BkL b.today sp l, o.l, BkL 0 (.slice none 0 0) zL] MZ) (hM.set (i := 2) (by simp) _) ?_
    try clear hM
    rintro MZ hM
    replace u := hM.own 0 (by simp)
    replace w := hM.own 1 (by simp)
    replace t := hM.own 2 (by simp)
    simp only [List.getElem_cons_zero, List.getElem_cons_succ, Nat.add_zero] at u w t
    replace E := hM.q3
    have hres : stepB b o = (zeroB, 2) := by
      unfold stepB
      rw [if_neg (by simp [hr0]), if_neg ‹¬o.kd = 1›, if_neg ‹¬o.kd = 2›, if_neg ‹¬o.kd = 9›, if_neg ‹¬o.kd = 10›, if_pos (by rw [← hxa]; assumption)]
    have hBk := BkAt.zero MZ
    have hsb : ∀ c, blkOf (.slice none 0 0) = some c → blkOf sp = some c ∨ H.length ≤ c := fun c hc => (by cases hc)
    refine DK.ret ?_
    refine And.intro (Or.inr rfl) ?_
    refine ⟨_, by simp [absAnswer, absResults, absResult, Tryd.f16, u, w, t, E, j, g, hsp0, hsp1, hl32, hone, e, d, f]; rfl, ?_⟩
    exact ⟨_, _, by rw [hres]; rfl, by rw [hres]; exact hBk, hM.keep, hsb⟩
  try simp only [h]
  replace h := Fa.out h
  refine DK.skip ?_
  refine DK.draw rfl (POk.of (ord := [0, 1, 2, 3, 4, 9, 5, 6, 7, 8, 10, 11, 12]) (by kernel_rfl)) ?_
  refine XK.run [0, 1, 2, 3, 4, 9] (by kernel_rfl) (by simp [u, w, t, E, j, g, hone, hsp0, hsp1, hl32, z, A, B, C, D, y, m, F, e, d, f, r]; constructor <;> rfl) ?_
  refine XK.call rfl (by simp [u, w, t, E, j, g, hone, hsp0, hsp1, hl32, z, A, B, C, D, y, m, F, e, d, f, r]) rfl (by simp [Tryd.func34, Tryd.f34, u, w, t, E, j, g, hone, hsp0, hsp1, hl32, z, A, B, C, D, y, m, F, e, d, f, r]; constructor <;> rfl) ?_
  refine FSem.mono (bturn_g k b x.a o (hB.keep hM.keep) hk hu (hxo.keep hM.keep) hxn) ?_
  rintro _ M3 ⟨x2, e2, s2, rfl, hres0, hA, hO2, hF2⟩
  have hF3 : blkOf s2 ≠ some H.length := hF2.ne (hM.lt (i := 0) (by simp))
  replace hM := hM.on (Keep.of hA)
  replace u := hM.own 0 (by simp)
  replace w := hM.own 1 (by simp)
  replace t := hM.own 2 (by simp)
  simp only [List.getElem_cons_zero, List.getElem_cons_succ, Nat.add_zero] at u w t
  replace E := hM.q3
  replace j := hO2.cells.1
  replace g := hO2.cells.2
  have hspl1 := hB.sp (i := o.su) (by omega) (by omega) b.today ⟨x2, s2, g⟩
  replace m := hspl1
  simp only [Ac.l] at m
  refine And.intro (lag_list (l := [1]) (by kernel_rfl) (lag_cons (lag_one rfl (by simp [u, w, t, E, j, g, hone, hsp0, hsp1, hl32, z, A, B, C, D, y, m, F, e, d, f, r]; constructor <;> rfl) rfl (by simp [u, w, t, E, j, g, hone, hsp0, hsp1, hl32, z, A, B, C, D, y, m, F, e, d, f, r]) (by simp [sameL, sameV_agg, sameV_int, sameV_bool, sameV_str, sameV_ptr, sameV_sl, sameV_map, same1_int, same1_bool, same1_str, same1_ptr, same1_sl, same1_map, u, w, t, E, j, g, hone, hsp0, hsp1, hl32, z, A, B, C, D, y, m, F, e, d, f, r]) rfl) rfl)) ?_
  refine XK.run [6, 7, 8, 10] (by kernel_rfl) (by simp [u, w, t, E, j, g, hone, hsp0, hsp1, hl32, z, A, B, C, D, y, m, F, e, d, f, r]; constructor <;> rfl) ?_
  refine XK.one rfl (by simp [u, w, t, E, j, g, hone, hsp0, hsp1, hl32, z, A, B, C, D, y, m, F, e, d, f, r]) rfl (by simp [u, w, t, E, j, g, hone, hsp0, hsp1, hl32, z, A, B, C, D, y, m, F, e, d, f, r]; constructor <;> rfl) (lag_list (l := []) (by kernel_rfl) rfl) ?_
  refine XK.one rfl (by simp [u, w, t, E, j, g, hone, hsp0, hsp1, hl32, z, A, B, C, D, y, m, F, e, d, f, r]) rfl (by simp [u, w, t, E, j, g, hone, hsp0, hsp1, hl32, z, A, B, C, D, y, m, F, e, d, f, r]; constructor <;> rfl) (lag_list (l := []) (by kernel_rfl) rfl) ?_
  refine XK.nil ?_
  refine DK.abs (fun M4 => AtM H [BkL b.today sp (l.set o.su.toNat ⟨x2, s2, g⟩), _, _] M4 ∧ OpenAt M4 s2 x2.op) ⟨hM.set (i := 0) (by simp) _, hO2.set hF3 _⟩ ?_
  try clear hM
  try clear hO2
  rintro M4 ⟨hM, hO2⟩
  replace u := hM.own 0 (by simp)
  replace w := hM.own 1 (by simp)
  replace t := hM.own 2 (by simp)
  simp only [List.getElem_cons_zero, List.getElem_cons_succ, Nat.add_zero] at u w t
  replace E := hM.q3
  have hBk := (hB.keep hM.keep).put (i := o.su) (by omega) (by omega) (x := ⟨x2, s2, g⟩) hO2
  have hres1 : stepB b o = if e2 ≠ 0 then (zeroB, e2) else ({ b with subs := b.subs.set o.su.toNat x2 }, 0) := by
    unfold stepB
    rw [if_neg (by simp [hr0]), if_neg ‹¬o.kd = 1›, if_neg ‹¬o.kd = 2›, if_neg ‹¬o.kd = 9›, if_neg ‹¬o.kd = 10›, if_neg (by rw [← hxa]; assumption), ← hxa, hres0, put_ok]
  replace hl32 : (l.set o.su.toNat ⟨x2, s2, g⟩).length = 32 := by rw [List.length_set]; exact hl32
  have hsb : ∀ c, blkOf sp = some c → blkOf sp = some c ∨ H.length ≤ c := fun c hc => .inl hc
  have hfr2 : blkOf sp ≠ some (H.length + 2) := fun hc => by have := hB.pls.lt hc; omega
  refine DK.seq ?_
  refine DK.seq ?_
  refine DK.region (is := [0, 1]) (by kernel_rfl) rfl ?_
  refine WK.run [0, 1] (by simp [u, w, t, E, j, g, hone, hsp0, hsp1, hl32, z, A, B, C, D, y, m, F, e, d, f, r]; constructor <;> rfl) ?_
  refine WK.nil ?_
  refine DK.test rfl rfl (fun h => ?_) (fun h => ?_)
  · try simp only [h]
    replace h := Tr.out h
    refine DK.seq ?_
    refine DK.region (is := [0, 1, 2, 3]) (by kernel_rfl) rfl ?_
    refine WK.run [0, 1, 2, 3] (by simp [u, w, t, E, j, g, hone, hsp0, hsp1, hl32, z, A, B, C, D, y, m, F, e, d, f, r]; constructor <;> rfl) ?_
    refine WK.nil ?_
    refine DK.abs (fun MZ => AtM H [_, _, BkL 0 (.slice none 0 0) zL] MZ) (hM.set (i := 2) (by simp) _) ?_
    try clear hM
    rintro MZ hM
    replace u := hM.own 0 (by simp)
    replace w := hM.own 1 (by simp)
    replace t := hM.own 2 (by simp)
    simp only [List.getElem_cons_zero, List.getElem_cons_succ, Nat.add_zero] at u w t
    replace E := hM.q3
    have hres : stepB b o = (zeroB, e2) := hres1.trans (if_pos ‹_›)
    replace hBk := BkAt.zero MZ
    replace hsb : ∀ c, blkOf (.slice none 0 0) = some c → blkOf sp = some c ∨ H.length ≤ c := fun c hc => (by cases hc)
    refine DK.ret ?_
    refine And.intro (Or.inr rfl) ?_
    refine ⟨_, by simp [absAnswer, absResults, absResult, Tryd.f16, u, w, t, E, j, g, hsp0, hsp1, hl32, hone, e, d, f]; rfl, ?_⟩
    exact ⟨_, _, by rw [hres]; rfl, by rw [hres]; exact hBk, hM.keep, hsb⟩
  try simp only [h]
  replace h := Fa.out h
  refine DK.skip ?_
  refine DK.seq ?_
  refine DK.region (is := [0, 1, 2]) (by kernel_rfl) rfl ?_
  refine WK.run [0, 1, 2] (by simp [u, w, t, E, j, g, hone, hsp0, hsp1, hl32, z, A, B, C, D, y, m, F, e, d, f, r]; constructor <;> rfl) ?_
  refine WK.nil ?_
  have hres := hres1.trans (if_neg (by simpa using ‹e2 = 0›))
  refine DK.abs (fun MF => AtM H [_, _, _] MF ∧ BkAt MF _ _ _) ⟨hM.set (i := 2) (by simp) _, hBk.set (hBk.fre t (by rw [BkL_len (by simp)]; decide) hfr2) _⟩ ?_
  try clear hM
  try clear hBk
  rintro MF ⟨hM, hBk⟩
  replace u := hM.own 0 (by simp)
  replace w := hM.own 1 (by simp)
  replace t := hM.own 2 (by simp)
  simp only [List.getElem_cons_zero, List.getElem_cons_succ, Nat.add_zero] at u w t
  replace E := hM.q3
  refine DK.ret ?_
  refine And.intro (Or.inr rfl) ?_
  refine ⟨_, by simp [absAnswer, absResults, absResult, Tryd.f16, u, w, t, E, j, g, hsp0, hsp1, hl32, hone, e, d, f]; rfl, ?_⟩
  exact ⟨_, _, by rw [hres]; rfl, by rw [hres]; exact hBk, hM.keep, hsb⟩
end Go.Den
set_option linter.unusedVariables false
set_option maxRecDepth 100000
namespace Go.Den
open Go Go.Proofs
structure At4 where
  (k a b c : Int)
def At4.ok (x : At4) : Prop := (0 ≤ x.k ∧ x.k < 256) ∧ (0 ≤ x.a ∧ x.a < 256) ∧ (0 ≤ x.b ∧ x.b < 256) ∧ (0 ≤ x.c ∧ x.c < 256)
@[simp] def At4.l (x : At4) : List Value := [.int .u8 x.k, .int .u8 x.a, .int .u8 x.b, .int .u8 x.c]
@[simp] def At4.v (x : At4) : Value := .agg #[.int .u8 x.k, .int .u8 x.a, .int .u8 x.b, .int .u8 x.c]
instance : Cel At4 := ⟨At4.l, 4, fun _ => rfl, fun _ => rfl, by decide⟩
def sel4 (i a b c d : Int) : Int := if i = 0 then a else if i = 1 then b else if i = 2 then c else d
def planR (n : Int) : Pl := ⟨sel4 (n % 4) 1000 0 2999 1, n / 4 % 4, 1 + n / 16 % 3, sel4 (n / 48 % 4) 0 0 10 3, decide (n % 3 = 1), decide (n % 7 = 3)⟩
def verR (c : Int) : Int := if c % 5 < 3 then 1 else if c % 5 = 3 then 2 else 3
def orderR (x : At4) (asks : List Nt) : Od :=
  if x.k % 14 = 0 then ⟨1, 0, 0, 0, planR x.b, zeroN⟩
  else if x.k % 14 = 1 ∨ x.k % 14 = 2 then ⟨2, x.a % 3, x.b % 3, 0, zeroP, zeroN⟩
  else if x.k % 14 = 3 then ⟨3, x.a % 3, x.b % 3, 0, zeroP, zeroN⟩
  else if x.k % 14 = 4 then ⟨4 + x.b % 5, x.a % 3, 0, 0, zeroP, zeroN⟩
  else if x.k % 14 = 5 then ⟨5, x.a % 3, 0, 0, zeroP, zeroN⟩
  else if x.k % 14 = 6 ∨ x.k % 14 = 7 ∨ x.k % 14 = 8 then ⟨9, 0, 0, 1 + x.c % 40, zeroP, zeroN⟩
  else if asks.length = 0 then ⟨9, 0, 0, 1 + x.c % 9, zeroP, zeroN⟩
  else
    let n := asks.getD (x.b % asks.length).toNat zeroN
    ⟨10, 0, 0, 0, zeroP, ⟨n.kd, n.su, n.cy, if x.a = 255 then IntKind.i64.wrap (n.tr + 1) else n.tr, n.am, verR x.c⟩⟩
theorem wrap_u8 (n : Int) (h0 : 0 ≤ n) (h1 : n < 256) : IntKind.u8.wrap n = n := by
  simp only [IntKind.wrap, IntKind.bits, IntKind.signed]; simp; omega
theorem tm (a b : Int) (h : 0 ≤ a) : a.tmod b = a % b := Int.tmod_eq_emod_of_nonneg h
theorem td (a b : Int) (h : 0 ≤ a) : a.tdiv b = a / b := Int.tdiv_eq_ediv_of_nonneg h
theorem sel_take (a b c d : Int) {i : Int} (h0 : 0 ≤ i) (h1 : i < 4) : List.take 1 (List.drop i.toNat [Value.int .i64 a, .int .i64 b, .int .i64 c, .int .i64 d]) = [.int .i64 (sel4 i a b c d)] := by
  have : i = 0 ∨ i = 1 ∨ i = 2 ∨ i = 3 := by omega
  rcases this with rfl | rfl | rfl | rfl <;> rfl
theorem ver_take {c : Int} : List.take 1 (List.drop (c % 5).toNat [Value.int .u8 1, .int .u8 1, .int .u8 1, .int .u8 2, .int .u8 3]) = [.int .u8 (verR c)] := by
  have : c % 5 = 0 ∨ c % 5 = 1 ∨ c % 5 = 2 ∨ c % 5 = 3 ∨ c % 5 = 4 := by omega
  unfold verR
  rcases this with h | h | h | h | h <;> rw [h] <;> rfl
theorem bsA (H : Mem) : absBuildSlice Tryd.prog H 103 4 [(0, .int .i64 1000), (1, .int .i64 0), (2, .int .i64 2999), (3, .int .i64 1)] = some (.slice (some ⟨H.length, 0, none⟩) 4 1, H ++ [.cells false [.int .i64 1000, .int .i64 0, .int .i64 2999, .int .i64 1]]) := by kernel_rfl
theorem bsB (H : Mem) : absBuildSlice Tryd.prog H 104 4 [(0, .int .i64 0), (1, .int .i64 0), (2, .int .i64 10), (3, .int .i64 3)] = some (.slice (some ⟨H.length, 0, none⟩) 4 1, H ++ [.cells false [.int .i64 0, .int .i64 0, .int .i64 10, .int .i64 3]]) := by kernel_rfl
theorem bsC (H : Mem) : absBuildSlice Tryd.prog H 72 5 [(0, .int .u8 1), (1, .int .u8 1), (2, .int .u8 1), (3, .int .u8 2), (4, .int .u8 3)] = some (.slice (some ⟨H.length, 0, none⟩) 5 1, H ++ [.cells false [.int .u8 1, .int .u8 1, .int .u8 1, .int .u8 2, .int .u8 3]]) := by kernel_rfl
attribute [simp] bsA bsB bsC
end Go.Den
set_option linter.unusedVariables false
set_option maxRecDepth 100000
namespace Go.Den
open Go Go.Proofs
def Sz (k : Nat) (a : Ac) : Prop := 0 ≤ a.ix ∧ a.op.length ≤ k
theorem Sz.zero (k : Nat) : Sz k zeroA := ⟨by decide, by simp [zeroA]⟩
theorem Sz.le {k m : Nat} {a : Ac} (h : Sz k a) (hm : k ≤ m) : Sz m a := ⟨h.1, Nat.le_trans h.2 hm⟩
theorem closeA_ix (a : Ac) (c : Cy) : (closeA a c).1.ix = a.ix := by unfold closeA; split <;> (try split) <;> (try split) <;> (try split) <;> rfl
theorem dayL_sz {p : Pl} {t : Int} {B : Nat} : ∀ (n : Nat) (a : Ac), Sz B a → Sz (B + n) (dayL p t n a).1
  | 0, a, h => h
  | n + 1, a, h => by
    unfold dayL
    split
    · exact h.le (by omega)
    · split
      · exact h.le (by omega)
      · rename_i h1 h2
        have hf := (nthF_ok (a := a.an) (u := p.un) (e := p.ev) (n := a.ix) (by have : ¬ ((dueA a p).2 ≠ 0) := fun q => h2 (.inl q); simpa [dueA] using this)).1.2.2
        dsimp only
        split
        · exact Sz.zero _
        · have e1 := beginA_ix { a with ix := IntKind.i64.wrap (a.ix + 1) } p (dueA a p).1 (p.la && (decide ((dueA { a with ix := IntKind.i64.wrap (a.ix + 1) } p).2 = 0) && decide ((dueA { a with ix := IntKind.i64.wrap (a.ix + 1) } p).1 ≤ t)))
          have e3 := beginA_op { a with ix := IntKind.i64.wrap (a.ix + 1) } p (dueA a p).1 (p.la && (decide ((dueA { a with ix := IntKind.i64.wrap (a.ix + 1) } p).2 = 0) && decide ((dueA { a with ix := IntKind.i64.wrap (a.ix + 1) } p).1 ≤ t)))
          refine Sz.le (k := B + 1 + n) (dayL_sz (B := B + 1) n _ ⟨?_, ?_⟩) (by omega)
          · rw [e1]; simp only; rw [wrap_in _ (by omega) (by omega)]; omega
          · have := h.2; simp only at e3; omega
theorem dayA_sz {a : Ac} {p : Pl} {t : Int} {k : Nat} (h : Sz k a) : Sz (k + 3652060) (dayA a p t).1 := by
  unfold dayA
  have := dayL_sz (p := p) (t := t) (dayN a) { a with op := a.op.map (fun c => wakeC c t) } (B := k) ⟨h.1, by simpa using h.2⟩
  exact this.le (by have := dayN_le h.1; omega)
theorem settleL_sz {k : Nat} : ∀ (l : List Cy) (a : Ac), 0 ≤ a.ix → a.op.length + l.length ≤ k → Sz k (settleL l a).1
  | [], a, h0, h1 => ⟨h0, by simpa [settleL] using h1⟩
  | c :: l, a, h0, h1 => by
    unfold settleL
    split
    · exact Sz.zero _
    · have := closeA_op a c
      exact settleL_sz l _ (by rw [closeA_ix]; exact h0) (by simp at h1; omega)
theorem settleA_sz {a : Ac} {k : Nat} (h : Sz k a) : Sz k (settleA a).1 := settleL_sz _ _ h.1 (by simpa using h.2)
theorem hearA_sz {su t : Int} {a : Ac} {n : Nt} {k : Nat} (h : Sz k a) : Sz k (hearA su a n t).1 := by
  unfold hearA
  split
  · exact Sz.zero _
  · dsimp only
    split
    · exact Sz.zero _
    · exact settleA_sz ⟨h.1, by simpa using h.2⟩
theorem turnA_sz {a : Ac} {f t : Int} {k : Nat} (h : Sz k a) : Sz k (turnA a f t).1 := by unfold turnA; split; exact Sz.zero _; exact h
theorem skipA_sz {a : Ac} {k : Nat} (h : Sz k a) : Sz k (skipA a).1 := by unfold skipA; split; exact Sz.zero _; exact h
theorem cancelA_sz {a : Ac} {k : Nat} (h : Sz k a) : Sz k (cancelA a).1 := by unfold cancelA; split; exact Sz.zero _; exact settleA_sz ⟨h.1, by simpa using h.2⟩
theorem cardA_sz {a : Ac} {k : Nat} (h : Sz k a) : Sz k (cardA a).1 := by unfold cardA; split; exact Sz.zero _; exact ⟨h.1, by simpa using h.2⟩
theorem changeA_sz {a : Ac} {f t : Pl} {n today : Int} {k : Nat} (h : Sz k a) : Sz k (changeA a f n t today).1 := by
  unfold changeA
  split
  · exact Sz.zero _
  · dsimp only
    split
    · split
      · exact Sz.zero _
      · split
        · exact Sz.zero _
        · exact ⟨by simp, h.2⟩
    · split
      · exact Sz.zero _
      · exact ⟨by simp, h.2⟩
theorem turnB_sz {b : Bk} {a : Ac} {o : Od} {k : Nat} (h : Sz k a) : Sz k (turnB b a o).1 := by
  unfold turnB
  split; exact turnA_sz h
  split; exact turnA_sz h
  split; exact skipA_sz h
  split; exact cancelA_sz h
  split; exact cardA_sz h
  split; exact Sz.zero _
  exact changeA_sz h
theorem openB_sz {b : Bk} {o : Od} {k : Nat} (hk : 3652060 ≤ k) : Sz k (openB b o).1 := by
  unfold openB
  dsimp only
  split; exact Sz.zero _
  split; exact Sz.zero _
  split; exact Sz.zero _
  exact (dayA_sz (k := 0) ⟨by simp [openAc], by simp [openAc]⟩).le (by omega)
theorem passL_sz {pls : List Pl} {t : Int} {k : Nat} : ∀ l : List Ac, (∀ a ∈ l, Sz k a) → (∀ a ∈ (passL pls t l).1, Sz (k + 3652060) a) ∧ ((passL pls t l).2 = 0 → (passL pls t l).1.length = l.length)
  | [], _ => by simp [passL]
  | a :: l, h => by
    have ih := passL_sz (pls := pls) (t := t) l (fun x hx => h x (by simp [hx]))
    have hr : Sz (k + 3652060) (if a.st = 0 then (a, (0 : Int)) else dayA a (getP pls a.pl).1 t).1 := by
      split
      · exact (h a (by simp)).le (by omega)
      · exact dayA_sz (h a (by simp))
    unfold passL
    dsimp only
    generalize (if a.st = 0 then (a, (0 : Int)) else dayA a (getP pls a.pl).1 t) = r at hr
    split
    · rename_i q0; exact ⟨fun x hx => by simp at hx, fun q => absurd q q0⟩
    · split
      · rename_i q0; exact ⟨fun x hx => by simp at hx, fun q => absurd q q0⟩
      · rename_i h1 h2
        refine ⟨fun x hx => ?_, fun _ => by simp [ih.2 (by simpa using h2)]⟩
        simp only [List.mem_cons] at hx
        rcases hx with rfl | hx
        · exact hr
        · exact ih.1 x hx
theorem put_sz {k m : Nat} {b : Bk} {i : Int} {r : Ac × Int} (h : BOk k b) (hm : k ≤ m) (hr : Sz m r.1) (hok : (b.put i r).2 = 0) : BOk m (b.put i r).1 := by
  unfold Bk.put at hok ⊢
  split
  · rename_i q; rw [if_pos q] at hok; exact absurd hok q
  · refine ⟨h.pls, fun a ha => ?_, by simp [h.len]⟩
    rcases List.mem_or_eq_of_mem_set ha with q | rfl
    · exact ⟨(h.subs a q).1, Nat.le_trans (h.subs a q).2 hm⟩
    · exact hr
theorem sub_sz {k : Nat} {b : Bk} (h : BOk k b) (i : Int) : Sz k (b.sub i) := by
  unfold Bk.sub
  rw [List.getD_eq_getElem?_getD]
  cases hc : b.subs[i.toNat]? with
  | none => exact Sz.zero _
  | some a => exact h.subs a (List.mem_of_getElem? hc)
theorem stepB_ok {k : Nat} {b : Bk} {o : Od} (h : BOk k b) (hok : (stepB b o).2 = 0) : BOk (k + 3652060) (stepB b o).1 := by
  unfold stepB at hok ⊢
  split
  · rename_i q; rw [if_pos q] at hok; exact absurd hok q
  · rename_i q0; rw [if_neg q0] at hok
    split
    · rename_i q; rw [if_pos q] at hok
      split
      · rename_i q2; rw [if_pos q2] at hok; exact absurd hok q2
      · rename_i q2
        refine ⟨fun p hp => ?_, fun a ha => ⟨(h.subs a ha).1, Nat.le_trans (h.subs a ha).2 (by omega)⟩, h.len⟩
        unfold addPl at q2 hp
        split at q2
        · rename_i q3; exact absurd q2 (by simpa using q3)
        · rename_i q3
          rw [if_neg q3] at hp
          split at q2
          · simp at q2
          · rename_i q4
            rw [if_neg q4] at hp
            simp only [List.mem_append, List.mem_singleton] at hp
            rcases hp with hp | rfl
            · exact h.pls p hp
            · simpa using q3
    · rename_i q; rw [if_neg q] at hok
      split
      · rename_i q2; rw [if_pos q2] at hok
        exact put_sz h (by omega) (openB_sz (by omega)) hok
      · rename_i q2; rw [if_neg q2] at hok
        split
        · rename_i q3; rw [if_pos q3] at hok
          unfold passB at hok ⊢
          split
          · rename_i q4; rw [if_pos q4] at hok; simp at hok
          · rename_i q4; rw [if_neg q4] at hok
            dsimp only at hok ⊢
            have hs := passL_sz (pls := b.pls) (t := IntKind.i64.wrap (b.today + o.n)) (k := k) b.subs (fun a ha => h.subs a ha)
            split
            · rename_i q5; rw [if_pos q5] at hok; exact absurd hok q5
            · rename_i q5
              exact ⟨h.pls, hs.1, by rw [hs.2 (by simpa using q5)]; exact h.len⟩
        · rename_i q3; rw [if_neg q3] at hok
          split
          · rename_i q4; rw [if_pos q4] at hok
            exact put_sz h (by omega) ((hearA_sz (sub_sz h _)).le (by omega)) hok
          · rename_i q4; rw [if_neg q4] at hok
            split
            · rename_i q5; rw [if_pos q5] at hok; simp at hok
            · rename_i q5; rw [if_neg q5] at hok
              exact put_sz h (by omega) ((turnB_sz (sub_sz h _)).le (by omega)) hok
theorem stepB_un {b : Bk} {o : Od} (h : UnOk b.pls) (ho : 0 ≤ o.p.un) : UnOk (stepB b o).1.pls := by
  have hz : UnOk zeroB.pls := fun p hp => by simp [zeroB] at hp
  have hput : ∀ (i : Int) (r : Ac × Int), UnOk (b.put i r).1.pls := fun i r => by unfold Bk.put; split; exact hz; exact h
  unfold stepB
  split; exact hz
  split
  · split; exact hz
    intro p hp
    unfold addPl at hp
    split at hp
    · simp at hp
    · split at hp
      · simp at hp
      · simp only [List.mem_append, List.mem_singleton] at hp
        rcases hp with hp | rfl
        · exact h p hp
        · exact ho
  split; exact hput _ _
  split
  · unfold passB; split; exact hz
    dsimp only; split; exact hz; exact h
  split; exact hput _ _
  split; exact hz
  exact hput _ _
noncomputable def actB (b : Bk) (x : At4) : Bk := if (stepB b (orderR x b.asks)).2 = 0 then (stepB b (orderR x b.asks)).1 else b
noncomputable def playB (l : List At4) (b : Bk) : Bk := l.foldl actB b
theorem orderR_un {x : At4} (hx : x.ok) (asks : List Nt) : 0 ≤ (orderR x asks).p.un := by
  obtain ⟨_, _, ⟨h1, h2⟩, _⟩ := hx
  have : 0 ≤ (planR x.b).un := by simp only [planR]; omega
  unfold orderR
  split; exact this
  split; simp [zeroP]
  split; simp [zeroP]
  split; simp [zeroP]
  split; simp [zeroP]
  split; simp [zeroP]
  split; simp [zeroP]
  simp [zeroP]
theorem actB_ok {k : Nat} {b : Bk} {x : At4} (hx : x.ok) (h : BOk k b) (hu : UnOk b.pls) : BOk (k + 3652060) (actB b x) ∧ UnOk (actB b x).pls := by
  unfold actB
  split
  · rename_i q; exact ⟨stepB_ok h q, stepB_un hu (orderR_un hx _)⟩
  · exact ⟨⟨h.pls, fun a ha => ⟨(h.subs a ha).1, Nat.le_trans (h.subs a ha).2 (by omega)⟩, h.len⟩, hu⟩
theorem newB_ok (t : Int) : BOk 0 (newB t) ∧ UnOk (newB t).pls := by
  refine ⟨⟨fun p hp => by simp [newB] at hp, fun a ha => ?_, by simp [newB]⟩, fun p hp => by simp [newB] at hp⟩
  rw [List.eq_of_mem_replicate ha]
  exact ⟨by decide, by simp [zeroA]⟩
end Go.Den
set_option linter.unusedVariables false
set_option maxRecDepth 100000
namespace Go.Den
open Go Go.Proofs
theorem put_pls (b : Bk) (i : Int) (r : Ac × Int) : (b.put i r).1.pls = [] ∨ (b.put i r).1.pls = b.pls := by
  unfold Bk.put; split
  · exact .inl rfl
  · exact .inr rfl
theorem stepB_p8 {b : Bk} {o : Od} (h : b.pls.length ≤ 8) : (stepB b o).1.pls.length ≤ 8 := by
  have hp : ∀ (i : Int) (r : Ac × Int), (b.put i r).1.pls.length ≤ 8 := fun i r => by rcases put_pls b i r with e | e <;> rw [e]; simp; exact h
  unfold stepB
  split
  · simp [zeroB]
  · split
    · split
      · simp [zeroB]
      · rename_i q
        unfold addPl at q ⊢
        split at q
        · rename_i q3; exact absurd q (by simpa using q3)
        · rename_i q3
          rw [if_neg q3]
          split at q
          · simp at q
          · rename_i q4; rw [if_neg q4]; simp; omega
    · split
      · exact hp _ _
      · split
        · unfold passB
          split
          · simp [zeroB]
          · dsimp only; split
            · simp [zeroB]
            · exact h
        · split
          · exact hp _ _
          · split
            · simp [zeroB]
            · exact hp _ _
structure PlayOk (n : Nat) (b : Bk) : Prop where
  ok : BOk (n * 3652060) b
  un : UnOk b.pls
  p8 : b.pls.length ≤ 8
theorem BOk.zero (k : Nat) : BOk k zeroB := ⟨fun p hp => by simp [zeroB] at hp, fun a ha => by rw [List.eq_of_mem_replicate (show a ∈ List.replicate 32 zeroA from ha)]; exact ⟨by decide, by simp [zeroA]⟩, by simp [zeroB]⟩
theorem BOk.le {k m : Nat} {b : Bk} (h : BOk k b) (hm : k ≤ m) : BOk m b := ⟨h.pls, fun a ha => ⟨(h.subs a ha).1, Nat.le_trans (h.subs a ha).2 hm⟩, h.len⟩
theorem PlayOk.act {n : Nat} {b : Bk} (h : PlayOk n b) {x : At4} (hx : x.ok) : PlayOk (n + 1) (actB b x) := by
  have h1 := actB_ok hx h.ok h.un
  refine ⟨by rw [Nat.succ_mul]; exact h1.1, h1.2, ?_⟩
  unfold actB
  split
  · exact stepB_p8 h.p8
  · exact h.p8
theorem PlayOk.new (t : Int) : PlayOk 0 (newB t) := ⟨by simpa using (newB_ok t).1, (newB_ok t).2, by simp [newB]⟩
theorem play_snoc {l : List At4} {i : Nat} (h : i < l.length) (b : Bk) : playB (l.take (i + 1)) b = actB (playB (l.take i) b) l[i] := by
  unfold playB; rw [List.take_succ_eq_append_getElem h, List.foldl_append]; rfl
theorem play_ok {l : List At4} (hl : ∀ a ∈ l, a.ok) (t : Int) : ∀ i, i ≤ l.length → PlayOk i (playB (l.take i) (newB t))
  | 0, _ => PlayOk.new t
  | i + 1, h => by rw [play_snoc (by omega)]; exact (play_ok hl t i (by omega)).act (hl _ (List.getElem_mem _))
theorem act_yes {b b2 : Bk} {x : At4} {o : Od} {e : Int} (ho : orderR x b.asks = o) (h : stepB b o = (b2, e)) (he : e = 0) : actB b x = b2 := by
  subst ho; unfold actB; rw [h]; simp [he]
theorem act_no {b b2 : Bk} {x : At4} {o : Od} {e : Int} (ho : orderR x b.asks = o) (h : stepB b o = (b2, e)) (he : e ≠ 0) : actB b x = b := by
  subst ho; unfold actB; rw [h]; simp [he]
def strB (l : List By) : ByteArray := bytesOf (l.map By.n)
theorem absU8_by : ∀ l : List By, absU8 (rowV l) = some (l.map By.n)
  | [] => rfl
  | b :: l => by rw [rowV_cons]; show absU8 (.int .u8 b.n :: rowV l) = _; simp [absU8, absU8_by l]
theorem conv_by {H : Mem} {s : Value} {l : List By} (h : RowAt H s l) (K : Mem) (hk : Keep H K) : absConv Tryd.prog K 72 9 s = some (.string (strB l), K) := by
  rcases h with ⟨rfl, rfl⟩ | ⟨b, o, ro, vs, rfl, h2, h3, h4⟩
  · unfold absConv; simp [Tryd.underlying72, Tryd.underlying5, Tryd.underlying9, strB, bytesOf]
  · have hk1 : Cel.k By = 1 := rfl
    rw [hk1, Nat.mul_one] at h3 h4
    have hb := (hk.2 b (List.getElem?_eq_some_iff.1 h2).1).trans h2
    have hc : absCells K b o l.length = some (rowV l) := by unfold absCells; rw [hb]; simp [h3, h4]
    unfold absConv; simp [Tryd.underlying72, Tryd.underlying5, Tryd.underlying9, hc, absU8_by, strB]
theorem lenAt {H : Mem} {s : Value} {l : List At4} (h : RowAt H s l) (K : Mem) : absLen Tryd.prog K 23 s = some (.int .i64 l.length) := h.len Tryd.underlying23 K
end Go.Den
set_option linter.unusedVariables false
set_option maxRecDepth 100000
namespace Go.Den
open Go Go.Proofs
def CI (D X m : Int) (c : Cy) : Prop := 0 ≤ c.no ∧ (0 ≤ c.due ∧ c.due ≤ D) ∧ (1 ≤ c.ph ∧ c.ph ≤ m) ∧ (0 ≤ c.am ∧ c.am ≤ X) ∧ (0 ≤ c.tr ∧ c.tr ≤ 4 ∧ (c.ph = 2 → c.tr ≤ 3)) ∧ (0 ≤ c.nx ∧ c.nx ≤ D + 7)
def usS (l : List Cy) : Nat := (l.map (fun c => c.us.natAbs)).sum
def nosP (l : List Cy) : Prop := (l.map Cy.no).Pairwise (· < ·)
theorem usS_app (l r : List Cy) : usS (l ++ r) = usS l + usS r := by simp [usS]
theorem usS_cons (c : Cy) (r : List Cy) : usS (c :: r) = c.us.natAbs + usS r := by simp [usS]
structure SI (D : Int) (S : Nat) (X : Int) (a : Ac) (l : List Cy) : Prop where
  cy : ∀ c ∈ a.op, CI D X 6 c
  cl : ∀ c ∈ l, CI D X 10 c
  no : nosP (a.op ++ l)
  nc : ∀ c ∈ a.op ++ l, c.no < a.ct
  sm : 0 ≤ a.dn ∧ 0 ≤ a.up ∧ 0 ≤ a.rf ∧ 0 ≤ a.sp ∧ a.dn + a.up + a.rf + a.sp + a.op.length + l.length = a.ct
  mo : a.cr.natAbs + usS (a.op ++ l) ≤ S
  pd : 0 ≤ a.pd ∧ a.pd ≤ a.dn * X
structure Bds (C : Int) (S : Nat) (X : Int) : Prop where
  x0 : 0 ≤ X
  xs : (S : Int) ≤ 562949953421312
  xx : X ≤ 1125899906842624
  cx : C * X ≤ 1125899906842624
  c0 : C ≤ 4000000
theorem addP_ok {a b : Int} (h1 : a.natAbs ≤ 1125899906842624) (h2 : b.natAbs ≤ 1125899906842624) (h3 : (a + b).natAbs ≤ 1125899906842624) : addP a b = (a + b, 0) := by
  have hw : IntKind.i64.wrap (a + b) = a + b := wrap_in _ (by omega) (by omega)
  unfold addP
  rw [hw]
  have e : ∀ n : Int, n.natAbs ≤ 1125899906842624 → rightP n = true := fun n hn => by simp [rightP]; omega
  rw [e a h1, e b h2, e _ h3]; rfl
theorem mulX {C X d : Int} (h0 : 0 ≤ X) (hd : d ≤ C) : d * X ≤ C * X := Int.mul_le_mul_of_nonneg_right hd h0
def SameA (a x : Ac) : Prop := x.st = a.st ∧ x.pl = a.pl ∧ x.an = a.an ∧ x.ix = a.ix ∧ x.ct = a.ct ∧ x.sk = a.sk
theorem SameA.trans {a b c : Ac} (h : SameA a b) (g : SameA b c) : SameA a c := ⟨g.1.trans h.1, g.2.1.trans h.2.1, g.2.2.1.trans h.2.2.1, g.2.2.2.1.trans h.2.2.2.1, g.2.2.2.2.1.trans h.2.2.2.2.1, g.2.2.2.2.2.trans h.2.2.2.2.2⟩
theorem close_si {C D X : Int} {S : Nat} (B : Bds C S X) {a : Ac} {c : Cy} {l : List Cy} (h : SI D S X a (c :: l)) (hC : a.ct ≤ C) : ∃ x, closeA a c = (x, 0) ∧ SI D S X x l ∧ SameA a x := by
  obtain ⟨hcy, hcl, hno, hnc, ⟨m1, m2, m3, m4, m5⟩, hmo, p0, p1⟩ := h
  obtain ⟨q1, q2, q3, q4, q5, q6⟩ := hcl c (by simp)
  have hus : a.cr.natAbs + (usS a.op + (c.us.natAbs + usS l)) ≤ S := by rw [← usS_cons, ← usS_app]; exact hmo
  have hS := B.xs
  simp only [List.length_cons] at m5
  have hsub : (a.op ++ l).Sublist (a.op ++ c :: l) := List.Sublist.append (List.Sublist.refl _) (List.sublist_cons_self _ _)
  have no2 : nosP (a.op ++ l) := List.Pairwise.sublist (hsub.map _) hno
  have nc2 : ∀ x ∈ a.op ++ l, x.no < a.ct := fun x hx => hnc x (hsub.subset hx)
  have cl2 : ∀ x ∈ l, CI D X 10 x := fun x hx => hcl x (by simp [hx])
  have hcr : addP a.cr c.us = (a.cr + c.us, 0) := addP_ok (by omega) (by omega) (by omega)
  have mo2 : ∀ r : Int, r.natAbs ≤ a.cr.natAbs + c.us.natAbs → r.natAbs + usS (a.op ++ l) ≤ S := fun r hr => by rw [usS_app]; omega
  have wr : ∀ n : Int, 0 ≤ n → n ≤ C → IntKind.i64.wrap (n + 1) = n + 1 := fun n h0 h1 => wrap_in _ (by have := B.c0; omega) (by have := B.c0; omega)
  have hl0 : (0 : Int) ≤ a.op.length := by omega
  have hl1 : (0 : Int) ≤ l.length := by omega
  by_cases he : endC c = false
  · refine ⟨_, closeA_keep he, ⟨fun x hx => ?_, cl2, by simpa using hno, by simpa using hnc, ⟨m1, m2, m3, m4, by simp; omega⟩, by simpa using hmo, p0, p1⟩, rfl, rfl, rfl, rfl, rfl, rfl⟩
    simp only [List.mem_append, List.mem_singleton] at hx
    rcases hx with hx | rfl
    · exact hcy x hx
    · exact ⟨q1, q2, ⟨q3.1, by simp [endC] at he; omega⟩, q4, q5, q6⟩
  · have he' : endC c = true := by simpa using he
    by_cases h7 : c.ph = 7
    · have hp : addP a.pd c.am = (a.pd + c.am, 0) := by
        have e1 : a.pd + c.am ≤ (a.dn + 1) * X := by rw [Int.add_mul, Int.one_mul]; omega
        have e2 := mulX (d := a.dn + 1) B.x0 (show a.dn + 1 ≤ C by omega)
        have e3 := B.cx
        have e4 := B.xx
        exact addP_ok (by omega) (by omega) (by omega)
      refine ⟨{ a with dn := IntKind.i64.wrap (a.dn + 1), pd := a.pd + c.am }, by rw [closeA_7 he' h7, hp], ⟨hcy, cl2, no2, nc2, ⟨by simp only; rw [wr _ m1 (by omega)]; omega, m2, m3, m4, by simp only; rw [wr _ m1 (by omega)]; omega⟩, mo2 _ (by simp only; omega), by simp only; omega, ?_⟩, rfl, rfl, rfl, rfl, rfl, rfl⟩
      simp only; rw [wr _ m1 (by omega), Int.add_mul, Int.one_mul]; omega
    · by_cases h8 : c.ph = 8
      · refine ⟨{ a with up := IntKind.i64.wrap (a.up + 1), cr := a.cr + c.us }, by rw [closeA_8 he' h7 h8, hcr], ⟨hcy, cl2, no2, nc2, ⟨m1, by simp only; rw [wr _ m2 (by omega)]; omega, m3, m4, by simp only; rw [wr _ m2 (by omega)]; omega⟩, mo2 _ (by simp only; omega), p0, p1⟩, rfl, rfl, rfl, rfl, rfl, rfl⟩
      · by_cases h9 : c.ph = 9
        · refine ⟨{ a with rf := IntKind.i64.wrap (a.rf + 1), cr := a.cr + c.us }, by rw [closeA_9 he' h7 h8 h9, hcr], ⟨hcy, cl2, no2, nc2, ⟨m1, m2, by simp only; rw [wr _ m3 (by omega)]; omega, m4, by simp only; rw [wr _ m3 (by omega)]; omega⟩, mo2 _ (by simp only; omega), p0, p1⟩, rfl, rfl, rfl, rfl, rfl, rfl⟩
        · refine ⟨{ a with sp := IntKind.i64.wrap (a.sp + 1) }, closeA_d he' h7 h8 h9, ⟨hcy, cl2, no2, nc2, ⟨m1, m2, m3, by simp only; rw [wr _ m4 (by omega)]; omega, by simp only; rw [wr _ m4 (by omega)]; omega⟩, mo2 _ (by simp only; omega), p0, p1⟩, rfl, rfl, rfl, rfl, rfl, rfl⟩
theorem settle_si {C D X : Int} {S : Nat} (B : Bds C S X) : ∀ (l : List Cy) (a : Ac), SI D S X a l → a.ct ≤ C → ∃ x, settleL l a = (x, 0) ∧ SI D S X x [] ∧ SameA a x
  | [], a, h, _ => ⟨a, rfl, h, rfl, rfl, rfl, rfl, rfl, rfl⟩
  | c :: l, a, h, hC => by
    obtain ⟨x, h1, h2, h3⟩ := close_si B h hC
    obtain ⟨y, g1, g2, g3⟩ := settle_si B l x h2 (by rw [h3.2.2.2.2.1]; exact hC)
    exact ⟨y, by rw [settleL, h1]; simpa using g1, g2, h3.trans g3⟩
structure AI (T D : Int) (S : Nat) (X : Int) (p : Pl) (a : Ac) : Prop where
  s : SI D S X a []
  st : 1 ≤ a.st ∧ a.st ≤ 3
  an : T ≤ a.an ∧ a.an ≤ 3652058
  ix : 0 ≤ a.ix
  up : a.ix ≠ 0 → (p.un ≤ 3 ∧ 1 ≤ p.ev ∧ p.ev ≤ 1000) ∧ Up a.an p.un p.ev (a.ix - 1) D
  c0 : 0 ≤ a.ct
  c1 : a.ct ≤ a.an + a.ix - T
  c2 : a.ct ≤ D - T + 1
end Go.Den
set_option linter.unusedVariables false
set_option maxRecDepth 100000
namespace Go.Den
open Go Go.Proofs
theorem CI.le {D D' X m m' : Int} {c : Cy} (h : CI D X m c) (hD : D ≤ D') (hm : m ≤ m') : CI D' X m' c := by
  obtain ⟨q1, q2, q3, q4, q5, q6⟩ := h
  exact ⟨q1, ⟨q2.1, by omega⟩, ⟨q3.1, by omega⟩, q4, q5, ⟨q6.1, by omega⟩⟩
theorem AI.mono {T D D' X : Int} {S S' : Nat} {p : Pl} {a : Ac} (h : AI T D S X p a) (hD : D ≤ D') (hS : S ≤ S') : AI T D' S' X p a :=
  ⟨⟨fun c hc => (h.s.cy c hc).le hD (Int.le_refl _), fun c hc => by simp at hc, h.s.no, h.s.nc, h.s.sm, Nat.le_trans h.s.mo hS, h.s.pd⟩, h.st, h.an, h.ix, fun q => by obtain ⟨k, v, h1, h2⟩ := h.up q; exact ⟨k, v, h1, by omega⟩, h.c0, h.c1, by have := h.c2; omega⟩
theorem lay_si {C D X : Int} {S : Nat} (B : Bds C S X) {a a' : Ac} {c : Cy} (h : SI D S X a []) (ho : a'.op = a.op) (hct : a'.ct = a.ct + 1) (h0 : 0 ≤ a.ct) (hs : a'.dn = a.dn ∧ a'.up = a.up ∧ a'.rf = a.rf ∧ a'.sp = a.sp ∧ a'.pd = a.pd)
    (hc : CI D X 10 c) (hn : c.no = a.ct) (hm : a'.cr.natAbs + c.us.natAbs ≤ a.cr.natAbs) : SI D S X a' [c] := by
  obtain ⟨e1, e2, e3, e4, e5⟩ := hs
  have hmo := h.mo
  have hno := h.no
  have hnc := h.nc
  have hsm := h.sm
  simp only [List.append_nil, List.length_nil] at hmo hno hnc hsm
  refine ⟨by rw [ho]; exact h.cy, fun x hx => by simp at hx; subst hx; exact hc, ?_, ?_, by rw [e1, e2, e3, e4, ho, hct]; simp; omega, ?_, by rw [e5, e1]; exact h.pd⟩
  · unfold nosP; rw [ho, List.map_append, List.pairwise_append]
    refine ⟨hno, by simp, fun x hx y hy => ?_⟩
    simp at hy
    obtain ⟨z, hz, rfl⟩ := List.mem_map.1 hx
    have := hnc z hz; omega
  · intro x hx
    rw [ho] at hx
    simp only [List.mem_append, List.mem_singleton] at hx
    rcases hx with hx | rfl
    · have := hnc x hx; omega
    · omega
  · rw [ho, usS_app, usS_cons]; simp [usS] at hmo ⊢; omega
theorem beginC_ci {D X no due am us : Int} {gd : Bool} (h0 : 0 ≤ no) (h1 : 0 ≤ due) (h2 : due ≤ D) (h3 : 0 ≤ am) (h4 : am ≤ X) : CI D X 10 (beginC no due am us gd) ∧ (beginC no due am us gd).no = no ∧ (beginC no due am us gd).us = us := by
  unfold beginC
  split
  · unfold paidC; simp only [Bool.false_eq_true, if_false]
    split <;> exact ⟨⟨h0, ⟨h1, h2⟩, by simp only; omega, by simp only; omega, by simp only; omega, by simp only; omega⟩, rfl, rfl⟩
  · exact ⟨⟨h0, ⟨h1, h2⟩, by simp only; omega, ⟨h3, h4⟩, by simp only; omega, by simp only; omega⟩, rfl, rfl⟩
theorem begin_ai {C T D X P : Int} {S : Nat} (B : Bds C S X) {p : Pl} (hp : 0 ≤ p.pr ∧ p.pr ≤ P) (hP : P ≤ 1073741824) (hPX : P + S ≤ X) (hT : 0 ≤ T) (hC : D - T + 1 ≤ C) (hD : D ≤ 3652058) {a : Ac} (h : AI T D S X p a) (hd : (dueA a p).2 = 0) (ht : (dueA a p).1 ≤ D) (m : Bool) :
    ∃ x, beginA { a with ix := IntKind.i64.wrap (a.ix + 1) } p (dueA a p).1 m = (x, 0) ∧ AI T D S X p x ∧ x.pl = a.pl ∧ x.ix = a.ix + 1 := by
  obtain ⟨hf, hv⟩ := nthF_ok (a := a.an) (u := p.un) (e := p.ev) (n := a.ix) (by simpa [dueA] using hd)
  have hr := nthO_range hf hv
  have hdd : (nthF a.an p.un p.ev a.ix).1 = (dueA a p).1 := rfl
  rw [hdd] at hr hv
  have hfi := hf.2.2
  have hix : IntKind.i64.wrap (a.ix + 1) = a.ix + 1 := wrap_in _ (by omega) (by omega)
  have hc1 := h.c1
  have hc2 := h.c2
  have hc0 := h.c0
  have hB0 := B.c0
  have hBS := B.xs
  have hBX := B.x0
  have han := h.an
  have hct : IntKind.i64.wrap (a.ct + 1) = a.ct + 1 := wrap_in _ (by omega) (by omega)
  have hcr : a.cr.natAbs ≤ S := by have := h.s.mo; omega
  -- what comes behind a closing
  have fin : ∀ (a' : Ac) (c : Cy), a'.op = a.op → a'.ct = a.ct + 1 → (a'.dn = a.dn ∧ a'.up = a.up ∧ a'.rf = a.rf ∧ a'.sp = a.sp ∧ a'.pd = a.pd) → (a'.st = a.st ∧ a'.pl = a.pl ∧ a'.an = a.an ∧ a'.ix = a.ix + 1) → CI D X 10 c → c.no = a.ct → a'.cr.natAbs + c.us.natAbs ≤ a.cr.natAbs →
      ∃ x, closeA a' c = (x, 0) ∧ AI T D S X p x ∧ x.pl = a.pl ∧ x.ix = a.ix + 1 := by
    intro a' c ho hct' hs hk hc hn hm
    obtain ⟨x, h1, h2, k1, k2, k3, k4, k5, k6⟩ := close_si B (lay_si B h.s ho hct' hc0 hs hc hn hm) (by omega)
    refine ⟨x, h1, ⟨h2, by rw [k1, hk.1]; exact h.st, by rw [k3, hk.2.2.1]; exact h.an, by rw [k4, hk.2.2.2]; omega, fun _ => ?_, by rw [k5, hct']; omega, by rw [k5, hct', k3, k4, hk.2.2.1, hk.2.2.2]; omega, by rw [k5, hct']; omega⟩, by rw [k2, hk.2.1], by rw [k4, hk.2.2.2]⟩
    rw [k3, k4, hk.2.2.1, hk.2.2.2, Int.add_sub_cancel]
    exact ⟨hf.2.1, _, hv, ht⟩
  unfold beginA
  rw [hix, hct]
  split
  · exact fin _ _ rfl rfl ⟨rfl, rfl, rfl, rfl, rfl⟩ ⟨rfl, rfl, rfl, rfl⟩ ⟨hc0, ⟨by simp only [passC]; omega, ht⟩, by simp only [passC]; omega, by simp only [passC]; omega, by simp only [passC]; omega, by simp only [passC]; omega⟩ rfl (by simp [passC])
  · have hneg : IntKind.i64.wrap (-a.cr) = -a.cr := wrap_in _ (by omega) (by omega)
    have hl : lessP p.pr a.cr = (p.pr - a.cr, 0) := by
      unfold lessP
      rw [if_pos (by simp [rightP]; omega), hneg, addP_ok (by omega) (by omega) (by omega)]; rfl
    simp only [hl]
    rw [if_neg (by simp)]
    split
    · rename_i hlt
      have hw2 : IntKind.i64.wrap (-(p.pr - a.cr)) = a.cr - p.pr := by rw [wrap_in _ (by omega) (by omega)]; omega
      obtain ⟨b1, b2, b3⟩ := beginC_ci (D := D) (X := X) (us := p.pr) (gd := p.go) hc0 (show 0 ≤ (dueA a p).1 by omega) ht (Int.le_refl 0) hBX
      exact fin _ _ rfl rfl ⟨rfl, rfl, rfl, rfl, rfl⟩ ⟨rfl, rfl, rfl, rfl⟩ b1 b2 (by rw [b3]; simp only [hw2]; omega)
    · rename_i hlt
      obtain ⟨b1, b2, b3⟩ := beginC_ci (D := D) (X := X) (us := a.cr) (gd := p.go) hc0 (show 0 ≤ (dueA a p).1 by omega) ht (show 0 ≤ p.pr - a.cr by omega) (by omega)
      exact fin _ _ rfl rfl ⟨rfl, rfl, rfl, rfl, rfl⟩ ⟨rfl, rfl, rfl, rfl⟩ b1 b2 (by rw [b3]; simp)
theorem days_ai {C T D X P : Int} {S : Nat} (B : Bds C S X) {p : Pl} (hp : 0 ≤ p.pr ∧ p.pr ≤ P) (hP : P ≤ 1073741824) (hPX : P + S ≤ X) (hT : 0 ≤ T) (hC : D - T + 1 ≤ C) (hD : D ≤ 3652058) : ∀ (n : Nat) (a : Ac), AI T D S X p a → ∃ x, dayL p D n a = (x, 0) ∧ AI T D S X p x ∧ x.pl = a.pl
  | 0, a, h => ⟨a, rfl, h, rfl⟩
  | n + 1, a, h => by
    unfold dayL
    split
    · exact ⟨a, rfl, h, rfl⟩
    · split
      · exact ⟨a, rfl, h, rfl⟩
      · rename_i q
        obtain ⟨x, h1, h2, h3, _⟩ := begin_ai B hp hP hPX hT hC hD h (by omega) (by omega) (p.la && (decide ((dueA { a with ix := IntKind.i64.wrap (a.ix + 1) } p).2 = 0) && decide ((dueA { a with ix := IntKind.i64.wrap (a.ix + 1) } p).1 ≤ D)))
        obtain ⟨y, g1, g2, g3⟩ := days_ai B hp hP hPX hT hC hD n x h2
        refine ⟨y, ?_, g2, g3.trans h3⟩
        dsimp only
        rw [h1]; simpa using g1
theorem map_ai {T D D' X : Int} {S : Nat} {p : Pl} {a : Ac} (h : AI T D S X p a) (hD : D ≤ D') (f : Cy → Cy) (h1 : ∀ c, (f c).no = c.no) (h2 : ∀ c, (f c).us = c.us) (h3 : ∀ c, CI D X 6 c → CI D' X 6 (f c)) : AI T D' S X p { a with op := a.op.map f } := by
  have h' := h.mono hD (Nat.le_refl S)
  have hno := h.s.no
  have hnc := h.s.nc
  have hmo := h.s.mo
  have hsm := h.s.sm
  simp only [List.append_nil] at hno hnc hmo
  refine ⟨⟨?_, fun c hc => by simp at hc, ?_, ?_, by simpa using hsm, ?_, h.s.pd⟩, h'.st, h'.an, h'.ix, h'.up, h'.c0, h'.c1, h'.c2⟩
  · intro c hc
    obtain ⟨z, hz, rfl⟩ := List.mem_map.1 hc
    exact h3 z (h.s.cy z hz)
  · simp only [List.append_nil, nosP, List.map_map]
    rw [show Cy.no ∘ f = Cy.no from funext h1]; exact hno
  · intro c hc
    simp only [List.append_nil] at hc
    obtain ⟨z, hz, rfl⟩ := List.mem_map.1 hc
    rw [h1]; exact hnc z hz
  · simp only [List.append_nil, usS, List.map_map]
    rw [show (fun c : Cy => c.us.natAbs) ∘ f = (fun c : Cy => c.us.natAbs) from funext fun c => by simp [h2]]; exact hmo
theorem cardC_ci {D D' X : Int} {c : Cy} (h : CI D X 6 c) (hD : D ≤ D') (h0 : 0 ≤ D) : CI D' X 6 (cardC c) := by
  have h' := h.le (m' := 6) hD (Int.le_refl _)
  unfold cardC
  split
  · rename_i q
    obtain ⟨q1, q2, q3, q4, q5, q6⟩ := h'
    have := q5.2.2 q
    have hw : IntKind.i64.wrap (c.tr + 1) = c.tr + 1 := wrap_in _ (by omega) (by omega)
    exact ⟨q1, q2, by simp only; omega, q4, by simp only; rw [hw]; omega, by simp only; omega⟩
  · exact h'
theorem cardC_no (c : Cy) : (cardC c).no = c.no ∧ (cardC c).us = c.us := by unfold cardC; split <;> exact ⟨rfl, rfl⟩
theorem wakeC_no (c : Cy) (t : Int) : (wakeC c t).no = c.no ∧ (wakeC c t).us = c.us := by unfold wakeC; split; exact cardC_no c; exact ⟨rfl, rfl⟩
theorem day_ai {C T D D' X P : Int} {S : Nat} (B : Bds C S X) {p : Pl} (hp : 0 ≤ p.pr ∧ p.pr ≤ P) (hP : P ≤ 1073741824) (hPX : P + S ≤ X) (hT : 0 ≤ T) (hDD : D ≤ D') (h0 : 0 ≤ D) (hC : D' - T + 1 ≤ C) (hD : D' ≤ 3652058) {a : Ac} (h : AI T D S X p a) : ∃ x, dayA a p D' = (x, 0) ∧ AI T D' S X p x ∧ x.pl = a.pl := by
  have h1 := map_ai h hDD (fun c => wakeC c D') (fun c => (wakeC_no c D').1) (fun c => (wakeC_no c D').2) (fun c hc => by
    unfold wakeC; split
    · exact cardC_ci hc hDD h0
    · exact hc.le hDD (Int.le_refl _))
  obtain ⟨x, g1, g2, g3⟩ := days_ai B hp hP hPX hT hC hD (dayN a) _ h1
  exact ⟨x, g1, g2, g3⟩
theorem relay_ai {C T D X : Int} {S : Nat} (B : Bds C S X) {p : Pl} {a : Ac} (h : AI T D S X p a) (hC : D - T + 1 ≤ C) (st : Int) (hst : 1 ≤ st ∧ st ≤ 3) (l : List Cy) (h1 : l.map Cy.no = a.op.map Cy.no) (h2 : l.map (fun c => c.us.natAbs) = a.op.map (fun c => c.us.natAbs)) (h3 : ∀ c ∈ l, CI D X 10 c) :
    ∃ x, settleA { a with st := st, op := l } = (x, 0) ∧ AI T D S X p x ∧ x.pl = a.pl := by
  have hno := h.s.no
  have hnc := h.s.nc
  have hmo := h.s.mo
  have hsm := h.s.sm
  simp only [List.append_nil, List.length_nil] at hno hnc hmo hsm
  have hlen : l.length = a.op.length := by have := congrArg List.length h1; simpa using this
  have hs : SI D S X { a with st := st, op := [] } l := by
    refine ⟨fun c hc => by simp at hc, h3, ?_, ?_, by simp only [List.length_nil]; omega, ?_, h.s.pd⟩
    · simp only [List.nil_append, nosP]; rw [h1]; exact hno
    · intro c hc
      simp only [List.nil_append] at hc
      have hm : c.no ∈ a.op.map Cy.no := by rw [← h1]; exact List.mem_map.2 ⟨c, hc, rfl⟩
      obtain ⟨z, hz, e⟩ := List.mem_map.1 hm
      rw [← e]; exact hnc z hz
    · simp only [List.nil_append, usS]; rw [h2]; exact hmo
  obtain ⟨x, g1, g2, k1, k2, k3, k4, k5, k6⟩ := settle_si B l _ hs (by simp only; have := h.c2; omega)
  exact ⟨x, g1, ⟨g2, by rw [k1]; exact hst, by rw [k3]; exact h.an, by rw [k4]; exact h.ix, fun q => by rw [k3, k4]; rw [k4] at q; exact h.up q, by rw [k5]; exact h.c0, by rw [k5, k3, k4]; exact h.c1, by rw [k5]; exact h.c2⟩, k2⟩
theorem overC_ci {D X : Int} {c : Cy} (h : CI D X 6 c) (h0 : 0 ≤ D) : CI D X 10 (overC c) ∧ (overC c).no = c.no ∧ (overC c).us = c.us := by
  unfold overC
  split
  · obtain ⟨q1, q2, q3, q4, q5, q6⟩ := h
    exact ⟨⟨q1, q2, by simp only; omega, q4, by simp only; omega, by simp only; omega⟩, rfl, rfl⟩
  · exact ⟨h.le (Int.le_refl _) (by decide), rfl, rfl⟩
theorem cancel_ai {C T D X : Int} {S : Nat} (B : Bds C S X) {p : Pl} {a : Ac} (h : AI T D S X p a) (h0 : 0 ≤ D) (hC : D - T + 1 ≤ C) : ((a.st = 1 ∨ a.st = 2) → ∃ x, cancelA a = (x, 0) ∧ AI T D S X p x ∧ x.pl = a.pl) ∧ (¬ (a.st = 1 ∨ a.st = 2) → cancelA a = (zeroA, 8)) := by
  unfold cancelA
  refine ⟨fun q => ?_, fun q => by rw [if_pos (by omega)]⟩
  rw [if_neg (by omega)]
  refine relay_ai B h hC 3 (by decide) _ (by rw [List.map_map]; exact List.map_congr_left fun c hc => (overC_ci (h.s.cy c hc) h0).2.1) (by rw [List.map_map]; exact List.map_congr_left fun c hc => by simp [(overC_ci (h.s.cy c hc) h0).2.2]) (fun c hc => ?_)
  obtain ⟨z, hz, rfl⟩ := List.mem_map.1 hc
  exact (overC_ci (h.s.cy z hz) h0).1
theorem card_ai {T D X : Int} {S : Nat} {p : Pl} {a : Ac} (h : AI T D S X p a) (h0 : 0 ≤ D) : AI T D S X p { a with op := a.op.map cardC } := map_ai h (Int.le_refl _) cardC (fun c => (cardC_no c).1) (fun c => (cardC_no c).2) (fun c hc => cardC_ci hc (Int.le_refl _) h0)
theorem back_ci {D X : Int} {c : Cy} (h : CI D X 6 c) : CI D X 10 (backC c) ∧ (backC c).no = c.no ∧ (backC c).us = c.us := by
  obtain ⟨q1, q2, q3, q4, q5, q6⟩ := h
  unfold backC
  split <;> exact ⟨⟨q1, q2, by simp only; omega, q4, by simp only; omega, q6⟩, rfl, rfl⟩
theorem ph_ci {D X : Int} {c : Cy} (h : CI D X 6 c) {f : Int} (hf : 3 ≤ f ∧ f ≤ 10) : CI D X 10 { c with ph := f } := by
  obtain ⟨q1, q2, q3, q4, q5, q6⟩ := h
  exact ⟨q1, q2, by simp only; omega, q4, by simp only; omega, q6⟩
theorem paid_ci {D X : Int} {c : Cy} (h : CI D X 6 c) (o : Bool) : CI D X 10 (paidC c o) ∧ (paidC c o).no = c.no ∧ (paidC c o).us = c.us := by
  unfold paidC
  split
  · exact back_ci h
  · split <;> exact ⟨ph_ci h (by decide), rfl, rfl⟩
theorem hear_ci {D X su : Int} {c x : Cy} {n : Nt} {o : Bool} (h : CI D X 6 c) (h0 : 0 ≤ D) (hD : D ≤ 4000000) (hx : hearC su c n D o = (x, 0)) : CI D X 10 x ∧ x.no = c.no ∧ x.us = c.us := by
  unfold hearC at hx
  split at hx
  · simp at hx
  · split at hx
    · simp only [Prod.mk.injEq, and_true] at hx
      subst hx
      unfold chargedC
      split
      · exact paid_ci h o
      · split
        · rename_i q
          obtain ⟨q1, q2, q3, q4, q5, q6⟩ := h
          have hl : 1 ≤ ladC c.tr ∧ ladC c.tr ≤ 7 := by unfold ladC; split <;> (try split) <;> omega
          have hw : IntKind.i64.wrap (D + ladC c.tr) = D + ladC c.tr := wrap_in _ (by omega) (by omega)
          exact ⟨⟨q1, q2, by simp only; omega, q4, by simp only; omega, by simp only; rw [hw]; omega⟩, rfl, rfl⟩
        · exact ⟨ph_ci h (by decide), rfl, rfl⟩
    · split at hx
      · simp only [Prod.mk.injEq, and_true] at hx
        subst hx
        split
        · exact back_ci h
        · split <;> exact ⟨ph_ci h (by decide), rfl, rfl⟩
      · split at hx
        · simp only [Prod.mk.injEq, and_true] at hx
          subst hx
          split <;> exact ⟨ph_ci h (by decide), rfl, rfl⟩
        · split at hx
          · simp only [Prod.mk.injEq, and_true] at hx
            subst hx
            exact back_ci h
          · simp only [Prod.mk.injEq, and_true] at hx
            subst hx
            exact ⟨ph_ci h (by decide), rfl, rfl⟩
theorem set_same {α β : Type} (f : α → β) {l : List α} {i : Nat} (hi : i < l.length) {x : α} (h : f x = f l[i]) : (l.set i x).map f = l.map f := by
  rw [List.map_set, h]
  apply List.ext_getElem?
  intro j
  by_cases e : i = j
  · subst e; rw [List.getElem?_set_self (by simpa using hi)]; simp [hi]
  · rw [List.getElem?_set_ne e]
theorem hear_ai {C T D X su : Int} {S : Nat} (B : Bds C S X) {p : Pl} {a : Ac} (h : AI T D S X p a) (h0 : 0 ≤ D) (hD : D ≤ 3652058) (hC : D - T + 1 ≤ C) (n : Nt) : (hearA su a n D = (zeroA, 10)) ∨ ∃ x, hearA su a n D = (x, 0) ∧ AI T D S X p x ∧ x.pl = a.pl := by
  cases hf : a.op.findIdx? (fun c => decide (c.no = n.cy)) with
  | none => left; unfold hearA; rw [hf]
  | some i =>
    obtain ⟨hi, _⟩ := List.findIdx?_eq_some_iff_getElem.1 hf
    have hg : a.op.getD i ⟨0, 0, 0, 0, 0, 0, 0, false⟩ = a.op[i] := by rw [List.getD_eq_getElem?_getD, List.getElem?_eq_getElem hi]; rfl
    have he : (hearC su a.op[i] n D (decide (a.st = 3))).2 = 0 ∨ (hearC su a.op[i] n D (decide (a.st = 3))).2 = 10 := by
      unfold hearC
      split; exact .inr rfl
      split; exact .inl rfl
      split; exact .inl rfl
      split; exact .inl rfl
      split <;> exact .inl rfl
    unfold hearA
    rw [hf]
    simp only [hg]
    generalize hx : hearC su a.op[i] n D (decide (a.st = 3)) = r at he
    obtain ⟨x, e⟩ := r
    rcases he with he | he <;> simp only at he <;> subst he
    · right
      rw [if_neg (by simp)]
      obtain ⟨c1, c2, c3⟩ := hear_ci (h.s.cy _ (List.getElem_mem hi)) h0 (by omega) hx
      refine relay_ai B h hC a.st h.st _ (set_same Cy.no hi c2) (set_same _ hi (by simp [c3])) (fun c hc => ?_)
      rcases List.mem_or_eq_of_mem_set hc with q | rfl
      · exact (h.s.cy c q).le (Int.le_refl _) (by decide)
      · exact c1
    · left; rw [if_pos (by simp)]
theorem cnt_ex {a u e day : Int} (h1 : 0 ≤ a) (h2 : a ≤ 3652058) (he : 1 ≤ e) : ∃ c, Cnt a u e day c := by
  have key : ∀ N : Nat, (∃ c, Cnt a u e day c) ∨ (∀ i : Int, 0 ≤ i → i < N → Up a u e i day) := by
    intro N
    induction N with
    | zero => right; intro i h0 h1; omega
    | succ N ih =>
      rcases ih with q | q
      · exact .inl q
      · by_cases hu : Up a u e N day
        · right; intro i h0 h1
          by_cases e : i = N
          · rw [e]; exact hu
          · exact q i h0 (by omega)
        · left; exact ⟨N, by omega, q, hu⟩
  rcases key ((day - a).toNat + 2) with q | q
  · exact q
  · exact absurd (q ((day - a).toNat + 1) (by omega) (by omega)) (up_not h1 h2 he (by omega) (by omega))
theorem change_ai {T D X P : Int} {S S' : Nat} {p t p2 : Pl} (hp : 0 ≤ p.pr ∧ p.pr ≤ P) (hp2 : 0 ≤ t.pr ∧ t.pr ≤ P) (hP : P ≤ 1073741824) (hS : (S' : Int) = S + P) (hSb : (S' : Int) ≤ 562949953421312) (hT : 0 ≤ T) {a : Ac} (h : AI T D S X p a) (hD0 : 0 ≤ D) (hD : D ≤ 3652058) (hDT : D - T + 1 ≤ 3652058) (n : Int) :
    (changeA a p n t D = (zeroA, 8) ) ∨ ∃ x, changeA a p n t D = (x, 0) ∧ AI T D S' X p2 x ∧ x.pl = n := by
  have hSS : S ≤ S' := by omega
  have h' := h.mono (Int.le_refl D) hSS
  unfold changeA
  split
  · exact .inl rfl
  · dsimp only
    split
    · rename_i q0 q
      right
      obtain ⟨q1, q2⟩ := q
      have hup := h.up (by omega)
      have han := h.an
      have hb : Cntb a.an p.un p.ev D := by
        refine Classical.byContradiction fun hc => ?_
        unfold spanF at q1
        rw [if_neg hc] at q1; simp at q1
      have hfe := hb.1.2.1
      obtain ⟨c, hc⟩ := cnt_ex (u := p.un) (day := D) hb.1.1.1 hb.1.1.2 hfe.2.1
      have ec := cntF_eq hc
      unfold spanF at q1
      rw [if_pos hb, ec] at q1
      by_cases hc0 : c = 0
      · rw [if_pos hc0] at q1; simp at q1
      rw [if_neg hc0] at q1
      have hn : (nthF a.an p.un p.ev c).2 = 0 := by
        refine Classical.byContradiction fun hn => ?_
        rw [if_neg hn] at q1; exact hn q1
      have es : spanF a.an p.un p.ev D = ((nthF a.an p.un p.ev (c - 1)).1, (nthF a.an p.un p.ev c).1, 0) := by
        unfold spanF; rw [if_pos hb, ec, if_neg hc0, if_pos hn]
      have hcx : a.ix ≤ c := by
        refine Classical.byContradiction fun q => hc.2.2 (up_down hb.1.1.1 hb.1.1.2 hfe.2.1 hc.1 (show c ≤ a.ix - 1 by omega) hup.2)
      obtain ⟨f1, f2⟩ := nthF_ok hn
      have r1 := nthO_range f1 f2
      have hu1 := hc.2.1 (c - 1) (by have := hc.1; omega) (by omega)
      have hlo : (nthF a.an p.un p.ev (c - 1)).1 ≤ D := by
        have := (up_iff (day := D) (show Fine a.an p.un p.ev (c - 1) from ⟨f1.1, f1.2.1, by have := hc.1; have := f1.2.2; omega⟩)).1 hu1
        exact this.2
      have hb2 := nthF_bd a.an p.un p.ev (c - 1)
      have hhi : D < (nthF a.an p.un p.ev c).1 := by
        refine Classical.byContradiction fun q => hc.2.2 ⟨_, f2, by omega⟩
      rw [es]
      simp only
      generalize (nthF a.an p.un p.ev c).1 = nx at *
      generalize (nthF a.an p.un p.ev (c - 1)).1 = fs at *
      rw [wrap_in (nx - D) (by omega) (by omega), wrap_in (nx - fs) (by omega) (by omega)]
      have part : ∀ r : Int, 0 ≤ r ∧ r ≤ P → partP r (nx - D) (nx - fs) = (r * (nx - D) / (nx - fs), 0) ∧ 0 ≤ r * (nx - D) / (nx - fs) ∧ r * (nx - D) / (nx - fs) ≤ P := by
        intro r hr
        have e1 : 0 ≤ r * (nx - D) := Int.mul_nonneg hr.1 (by omega)
        have e2 : r * (nx - D) ≤ r * (nx - fs) := Int.mul_le_mul_of_nonneg_left (by omega) hr.1
        refine ⟨?_, Int.ediv_nonneg e1 (by omega), ?_⟩
        · unfold partP
          rw [if_neg (by simp [rightP]; omega), if_neg (by omega)]
        · have e3 : r * (nx - D) / (nx - fs) ≤ r := by
            apply Int.le_of_lt_add_one
            apply Int.ediv_lt_of_lt_mul (by omega)
            rw [Int.add_mul]; omega
          omega
      obtain ⟨a1, a2, a3⟩ := part p.pr hp
      obtain ⟨b1, b2, b3⟩ := part t.pr hp2
      have em : planChg p t (nx - D) (nx - fs) = (p.pr * (nx - D) / (nx - fs), t.pr * (nx - D) / (nx - fs), 0) := by
        unfold planChg; rw [a1, b1]; simp
      rw [em]
      simp only
      generalize p.pr * (nx - D) / (nx - fs) = u at *
      generalize t.pr * (nx - D) / (nx - fs) = v at *
      rw [wrap_in (u - v) (by omega) (by omega)]
      have hmo := h.s.mo
      simp only [List.append_nil] at hmo
      have ea : addP a.cr (u - v) = (a.cr + (u - v), 0) := addP_ok (by omega) (by omega) (by omega)
      rw [ea]
      refine ⟨{ a with cr := a.cr + (u - v), an := nx, pl := n, ix := 0 }, by simp, ⟨⟨h.s.cy, fun c hc => by simp at hc, h.s.no, h.s.nc, h.s.sm, ?_, h.s.pd⟩, h.st, by simp only; omega, Int.le_refl _, fun q => absurd rfl q, h.c0, by simp only; have := h.c1; omega, h.c2⟩, rfl⟩
      simp only [List.append_nil]; omega
    · split
      · exact .inl rfl
      · rename_i q0 q1 q2
        right
        refine ⟨{ a with pl := n, ix := 0 }, rfl, ⟨⟨h'.s.cy, h'.s.cl, h'.s.no, h'.s.nc, h'.s.sm, h'.s.mo, h'.s.pd⟩, h'.st, h'.an, Int.le_refl _, fun q => absurd rfl q, h'.c0, ?_, h'.c2⟩, rfl⟩
        simp only
        -- where no anchor is set, no period has begun
        by_cases hix : a.ix = 0
        · have := h.c1; omega
        · exfalso
          obtain ⟨k, hup⟩ := h.up hix
          have han := h.an
          have hi := h.ix
          have hb : Cntb a.an p.un p.ev D := ⟨⟨by omega, k, by omega⟩, hD0, hD⟩
          obtain ⟨c, hc⟩ := cnt_ex (u := p.un) (day := D) hb.1.1.1 hb.1.1.2 k.2.1
          have hcx : a.ix ≤ c := by
            refine Classical.byContradiction fun q => hc.2.2 (up_down hb.1.1.1 hb.1.1.2 k.2.1 hc.1 (show c ≤ a.ix - 1 by omega) hup)
          have hce : a.an + (c - 1) ≤ D := by
            refine Classical.byContradiction fun q => up_not hb.1.1.1 hb.1.1.2 k.2.1 (show 0 ≤ c - 1 by omega) (by omega) (hc.2.1 (c - 1) (by omega) (by omega))
          have es : (spanF a.an p.un p.ev D).2.2 = (nthF a.an p.un p.ev c).2 := by
            unfold spanF; rw [if_pos hb, cntF_eq hc, if_neg (by omega)]
            split
            · rename_i q; exact q.symm
            · rfl
          have hfc : Fine a.an p.un p.ev c := ⟨hb.1.1, k, by omega, by omega⟩
          have e2 : (nthF a.an p.un p.ev c).2 = 0 ∨ (nthF a.an p.un p.ev c).2 = 6 := by
            unfold nthF; rw [if_pos hfc]
            cases nthO a.an p.un p.ev c with
            | none => exact .inr rfl
            | some v => exact .inl rfl
          rcases e2 with e2 | e2
          · exact q1 ⟨es.trans e2, by omega⟩
          · exact q2 (es.trans e2)
end Go.Den
set_option linter.unusedVariables false
set_option maxRecDepth 100000
namespace Go.Den
open Go Go.Proofs
def SubI (T D : Int) (S : Nat) (X : Int) (pls : List Pl) (a : Ac) : Prop := a = zeroA ∨ (AI T D S X (getP pls a.pl).1 a ∧ 0 ≤ a.pl ∧ a.pl < pls.length)
structure BI (T P : Int) (S : Nat) (X : Int) (b : Bk) : Prop where
  t0 : T ≤ b.today
  t1 : b.today ≤ 3652058
  pls : ∀ p ∈ b.pls, 0 ≤ p.pr ∧ p.pr ≤ P
  subs : ∀ a ∈ b.subs, SubI T b.today S X b.pls a
theorem SubI.mono {T D X : Int} {S S' : Nat} {pls : List Pl} {a : Ac} (h : SubI T D S X pls a) (hS : S ≤ S') : SubI T D S' X pls a := h.imp id fun ⟨g, q⟩ => ⟨g.mono (Int.le_refl _) hS, q⟩
theorem getP_app {l r : List Pl} {n : Int} (h0 : 0 ≤ n) (h1 : n < l.length) : getP (l ++ r) n = getP l n := by
  unfold getP
  rw [if_neg (by simp; omega), if_neg (by omega)]
  simp only [List.getD_eq_getElem?_getD]
  rw [List.getElem?_append_left (by omega)]
theorem getP_in {l : List Pl} {n : Int} (h : (getP l n).2 = 0) : 0 ≤ n ∧ n < l.length := by
  unfold getP at h
  split at h
  · simp at h
  · omega
theorem getP_bd {P : Int} {l : List Pl} (hP : 0 ≤ P) (h : ∀ p ∈ l, 0 ≤ p.pr ∧ p.pr ≤ P) (n : Int) : 0 ≤ (getP l n).1.pr ∧ (getP l n).1.pr ≤ P := by
  rcases getP_mem (l := l) (n := n) with e | e
  · rw [e]; exact ⟨Int.le_refl _, hP⟩
  · exact h _ e
theorem BI.put {T P X : Int} {S S' : Nat} {b : Bk} (h : BI T P S X b) (hS : S ≤ S') {i : Int} {x : Ac} (hx : SubI T b.today S' X b.pls x) : BI T P S' X (b.put i (x, 0)).1 := by
  unfold Bk.put
  rw [if_neg (by simp)]
  refine ⟨h.t0, h.t1, h.pls, fun a ha => ?_⟩
  rcases List.mem_or_eq_of_mem_set ha with q | rfl
  · exact (h.subs a q).mono hS
  · exact hx
theorem BI.mono {T P X : Int} {S S' : Nat} {b : Bk} (h : BI T P S X b) (hS : S ≤ S') : BI T P S' X b := ⟨h.t0, h.t1, h.pls, fun a ha => (h.subs a ha).mono hS⟩
theorem BI.sub {T P X : Int} {S : Nat} {b : Bk} (h : BI T P S X b) (i : Int) : SubI T b.today S X b.pls (b.sub i) := by
  unfold Bk.sub
  rw [List.getD_eq_getElem?_getD]
  cases hc : b.subs[i.toNat]? with
  | none => exact .inl rfl
  | some a => exact h.subs a (List.mem_of_getElem? hc)
def Okd (T D : Int) (S : Nat) (X : Int) (pls : List Pl) (r : Ac × Int) : Prop := (r.2 ≠ 0 ∧ r.2 ≠ 9) ∨ (r.2 = 0 ∧ AI T D S X (getP pls r.1.pl).1 r.1 ∧ 0 ≤ r.1.pl ∧ r.1.pl < pls.length)
theorem Okd.put {T P X : Int} {S S' : Nat} {b : Bk} (h : BI T P S X b) (hS : S ≤ S') {i : Int} {r : Ac × Int} (hr : Okd T b.today S' X b.pls r) : (b.put i r).2 ≠ 9 ∧ ((b.put i r).2 = 0 → BI T P S' X (b.put i r).1 ∧ (b.put i r).1.today = b.today) := by
  obtain ⟨x, e⟩ := r
  rcases hr with ⟨h1, h2⟩ | ⟨h1, h2⟩
  · refine ⟨?_, fun q => ?_⟩
    · unfold Bk.put; rw [if_pos h1]; exact h2
    · unfold Bk.put at q; rw [if_pos h1] at q; exact absurd q h1
  · simp only at h1; subst h1
    refine ⟨by simp [Bk.put], fun _ => ⟨h.put hS (.inr h2), by simp [Bk.put]⟩⟩
theorem st_ai {T D X : Int} {S : Nat} {p : Pl} {a : Ac} (h : AI T D S X p a) {t : Int} (ht : 1 ≤ t ∧ t ≤ 3) : AI T D S X p { a with st := t } := ⟨⟨h.s.cy, h.s.cl, h.s.no, h.s.nc, h.s.sm, h.s.mo, h.s.pd⟩, ht, h.an, h.ix, h.up, h.c0, h.c1, h.c2⟩
theorem sk_ai {T D X : Int} {S : Nat} {p : Pl} {a : Ac} (h : AI T D S X p a) (k : Bool) : AI T D S X p { a with sk := k } := ⟨⟨h.s.cy, h.s.cl, h.s.no, h.s.nc, h.s.sm, h.s.mo, h.s.pd⟩, h.st, h.an, h.ix, h.up, h.c0, h.c1, h.c2⟩
theorem getP_c (l : List Pl) (n : Int) : (getP l n).2 = 0 ∨ (getP l n).2 = 2 := by unfold getP; split; exact .inr rfl; exact .inl rfl
structure Room (T P C : Int) (S S' : Nat) (X : Int) (b : Bk) (o : Od) : Prop where
  B : Bds C S' X
  p0 : 0 ≤ P
  p1 : P ≤ 1073741824
  s : (S' : Int) = S + P
  px : P + S' ≤ X
  t0 : 0 ≤ T
  c0 : C ≤ 3652058
  c1 : b.today - T + 1 ≤ C
  pass : o.kd = 9 → b.today + o.n - T + 1 ≤ C
  def1 : o.kd = 1 → o.p.pr ≤ P
theorem turn_okd {T P C X : Int} {S S' : Nat} {b : Bk} {o : Od} (R : Room T P C S S' X b o) (h : BI T P S X b) {a : Ac} (ha : AI T b.today S X (getP b.pls a.pl).1 a) (hp0 : 0 ≤ a.pl) (hp1 : a.pl < b.pls.length) : Okd T b.today S' X b.pls (turnB b a o) := by
  have hS : S ≤ S' := by have := R.s; have := R.p0; omega
  have ha' := ha.mono (Int.le_refl _) hS
  have h0 := h.t0
  have hT := R.t0
  have hC := R.c1
  have hd : (0 : Int) ≤ b.today := by omega
  have e8 : ∀ r : Ac × Int, r = (zeroA, 8) → Okd T b.today S' X b.pls r := fun r e => .inl (by rw [e]; decide)
  unfold turnB
  split
  · unfold turnA; split
    · exact e8 _ rfl
    · exact .inr ⟨rfl, st_ai ha' (by decide), hp0, hp1⟩
  · split
    · unfold turnA; split
      · exact e8 _ rfl
      · exact .inr ⟨rfl, st_ai ha' (by decide), hp0, hp1⟩
    · split
      · unfold skipA; split
        · exact e8 _ rfl
        · exact .inr ⟨rfl, sk_ai ha' true, hp0, hp1⟩
      · split
        · obtain ⟨k1, k2⟩ := cancel_ai R.B ha' hd hC
          by_cases q : a.st = 1 ∨ a.st = 2
          · obtain ⟨x, g1, g2, g3⟩ := k1 q
            rw [g1]; exact .inr ⟨rfl, by simp only; rw [g3]; exact g2, by simp only; omega, by simp only; omega⟩
          · exact e8 _ (k2 q)
        · split
          · unfold cardA; split
            · exact e8 _ rfl
            · exact .inr ⟨rfl, card_ai ha' hd, hp0, hp1⟩
          · split
            · rename_i q
              refine .inl ?_
              rcases getP_c b.pls o.pl with e | e
              · exact absurd e q
              · simp [e]
            · rename_i q
              have hin := getP_in (l := b.pls) (n := o.pl) (by simpa using q)
              rcases change_ai (p2 := (getP b.pls o.pl).1) (getP_bd R.p0 h.pls a.pl) (getP_bd R.p0 h.pls o.pl) R.p1 R.s R.B.xs hT ha hd h.t1 (by have := R.c0; omega) o.pl with e | ⟨x, g1, g2, g3⟩
              · exact e8 _ e
              · rw [g1]; exact .inr ⟨rfl, by simp only; rw [g3]; exact g2, by simp only; omega, by simp only; omega⟩
theorem open_okd {T P C X : Int} {S S' : Nat} {b : Bk} {o : Od} (R : Room T P C S S' X b o) (h : BI T P S X b) (hr : ∀ p ∈ b.pls, rightPl p = 0) : Okd T b.today S' X b.pls (openB b o) := by
  have hT := R.t0
  have h0 := h.t0
  unfold openB
  dsimp only
  split
  · rename_i q
    refine .inl ?_
    rcases getP_c b.pls o.pl with e | e
    · exact absurd e q
    · simp [e]
  · rename_i q
    have hin := getP_in (l := b.pls) (n := o.pl) (by simpa using q)
    split
    · exact .inl (by decide)
    · split
      · exact .inl (by decide)
      · rename_i q2
        have htr : 0 ≤ (getP b.pls o.pl).1.tr ∧ (getP b.pls o.pl).1.tr ≤ 1000 := by
          rcases getP_mem (l := b.pls) (n := o.pl) with e | e
          · rw [e]; decide
          · have := right_bd (hr _ e); omega
        have h1 := h.t1
        have hw : IntKind.i64.wrap (b.today + (getP b.pls o.pl).1.tr) = b.today + (getP b.pls o.pl).1.tr := wrap_in _ (by omega) (by omega)
        rw [hw] at q2
        have hx0 := R.B.x0
        have ha : AI T b.today S' X (getP b.pls o.pl).1 (openAc o.pl (getP b.pls o.pl).1 b.today) := by
          refine ⟨⟨fun c hc => by simp [openAc] at hc, fun c hc => by simp at hc, by simp [openAc, nosP], fun c hc => by simp [openAc] at hc, by simp [openAc], by simp [openAc, usS], by simp [openAc]⟩, by simp [openAc], ?_, Int.le_refl _, fun q => absurd rfl q, Int.le_refl _, ?_, ?_⟩
          · simp only [openAc, hw]; omega
          · simp only [openAc, hw]; omega
          · simp only [openAc]; omega
        obtain ⟨x, g1, g2, g3⟩ := day_ai R.B (getP_bd R.p0 h.pls o.pl) R.p1 R.px hT (Int.le_refl b.today) (by omega) R.c1 h1 ha
        rw [g1]
        have e : x.pl = o.pl := g3
        exact .inr ⟨rfl, by simp only; rw [e]; exact g2, by simp only; omega, by simp only; omega⟩
theorem pass_okd {T P C X D' : Int} {S : Nat} {pls : List Pl} {D : Int} (B : Bds C S X) (hp : 0 ≤ P) (hP : P ≤ 1073741824) (hPX : P + S ≤ X) (hpl : ∀ p ∈ pls, 0 ≤ p.pr ∧ p.pr ≤ P) (hT : 0 ≤ T) (hTD : T ≤ D) (hDD : D ≤ D') (hC : D' - T + 1 ≤ C) (hD : D' ≤ 3652058) :
    ∀ l : List Ac, (∀ a ∈ l, SubI T D S X pls a) → ∃ l', passL pls D' l = (l', 0) ∧ ∀ a ∈ l', SubI T D' S X pls a
  | [], _ => ⟨[], rfl, fun a ha => by simp at ha⟩
  | a :: l, h => by
    obtain ⟨l', h1, h2⟩ := pass_okd B hp hP hPX hpl hT hTD hDD hC hD l (fun x hx => h x (by simp [hx]))
    rcases h a (by simp) with rfl | ⟨ha, p0, p1⟩
    · refine ⟨zeroA :: l', by simp [passL, h1, zeroA], fun x hx => ?_⟩
      simp only [List.mem_cons] at hx
      rcases hx with rfl | hx
      · exact .inl rfl
      · exact h2 x hx
    · obtain ⟨x, g1, g2, g3⟩ := day_ai B (getP_bd hp hpl a.pl) hP hPX hT hDD (by omega) hC hD ha
      have hst : ¬ a.st = 0 := by have := ha.st; omega
      refine ⟨x :: l', by simp [passL, h1, hst, g1], fun y hy => ?_⟩
      simp only [List.mem_cons] at hy
      rcases hy with rfl | hy
      · exact .inr ⟨by rw [g3]; exact g2, by omega, by omega⟩
      · exact h2 y hy
theorem step_bi {T P C X : Int} {S S' : Nat} {b : Bk} {o : Od} (R : Room T P C S S' X b o) (h : BI T P S X b) (hr : ∀ p ∈ b.pls, rightPl p = 0) (ho : rightO o = 0) :
    (stepB b o).2 ≠ 9 ∧ ((stepB b o).2 = 0 → BI T P S' X (stepB b o).1 ∧ (stepB b o).1.today = if o.kd = 9 then b.today + o.n else b.today) := by
  have hS : S ≤ S' := by have := R.s; have := R.p0; omega
  have h0 := h.t0
  have h1 := h.t1
  have hT := R.t0
  unfold stepB
  rw [if_neg (by simpa using ho)]
  split
  · rename_i k1
    have hp : rightPl o.p = 0 := by
      unfold rightO at ho
      rw [if_neg (by rw [k1]; decide), if_pos k1] at ho
      split at ho
      · simp at ho
      · exact ho
    have hb := right_bd hp
    split
    · rename_i q
      refine ⟨?_, fun e => absurd e q⟩
      unfold addPl; rw [if_neg (by simpa using hp)]; split <;> simp
    · rename_i q
      have hadd : addPl b.pls o.p = (b.pls ++ [o.p], (b.pls.length : Int), 0) := by
        unfold addPl at q ⊢
        rw [if_neg (by simpa using hp)] at q ⊢
        by_cases q8 : 8 ≤ b.pls.length
        · rw [if_pos q8] at q; simp at q
        · rw [if_neg q8]
      rw [hadd]
      refine ⟨by simp, fun _ => ⟨⟨h0, h1, ?_, ?_⟩, by rw [if_neg (by omega)]⟩⟩
      · intro p hp2
        simp only [List.mem_append, List.mem_singleton] at hp2
        rcases hp2 with hp2 | rfl
        · exact h.pls p hp2
        · exact ⟨hb.1, R.def1 k1⟩
      · intro a ha
        refine ((h.subs a ha).mono hS).imp id fun ⟨g, p0, p1⟩ => ⟨?_, p0, by simp; omega⟩
        rw [getP_app p0 p1]; exact g
  · rename_i k1
    split
    · rename_i k2
      obtain ⟨g1, g2⟩ := (open_okd R h hr).put h hS (i := o.su)
      exact ⟨g1, fun e => by rw [if_neg (by omega)]; exact g2 e⟩
    · rename_i k2
      split
      · rename_i k9
        have hn : 1 ≤ o.n ∧ o.n ≤ 60 := by
          unfold rightO at ho
          rw [if_neg (by rw [k9]; decide), if_neg k1, if_pos k9] at ho
          split at ho
          · simp at ho
          · omega
        have hw : IntKind.i64.wrap (b.today + o.n) = b.today + o.n := wrap_in _ (by omega) (by omega)
        have hpc := R.pass k9
        unfold passB
        rw [hw]
        split
        · exact ⟨by simp, fun e => by simp at e⟩
        · rename_i q
          obtain ⟨l', g1, g2⟩ := pass_okd R.B R.p0 R.p1 R.px h.pls hT h0 (show b.today ≤ b.today + o.n by omega) hpc (by omega) b.subs (fun a ha => (h.subs a ha).mono hS)
          dsimp only
          rw [g1]
          simp only
          refine ⟨by simp, fun _ => ⟨⟨by simp; omega, by simp; omega, h.pls, g2⟩, by simp [k9]⟩⟩
      · rename_i k9
        split
        · rename_i k10
          have hk : Okd T b.today S' X b.pls (hearA o.a.su (b.sub o.a.su) o.a b.today) := by
            rcases h.sub o.a.su with e | ⟨g, p0, p1⟩
            · rw [e, hearA_none (a := zeroA) (n := o.a) (fun j hj => by simp [zeroA] at hj)]; exact .inl (by decide)
            · rcases hear_ai (su := o.a.su) R.B (g.mono (Int.le_refl _) hS) (by omega) h1 R.c1 o.a with e | ⟨x, g1, g2, g3⟩
              · rw [e]; exact .inl (by decide)
              · rw [g1]; exact .inr ⟨rfl, by simp only; rw [g3]; exact g2, by simp only; omega, by simp only; omega⟩
          obtain ⟨g1, g2⟩ := hk.put h hS (i := o.a.su)
          exact ⟨g1, fun e => g2 e⟩
        · rename_i k10
          split
          · exact ⟨by simp, fun e => by simp at e⟩
          · rename_i q
            rcases h.sub o.su with e | ⟨g, p0, p1⟩
            · rw [e] at q; exact absurd rfl q
            · obtain ⟨g1, g2⟩ := (turn_okd R h g p0 p1).put h hS (i := o.su)
              exact ⟨g1, fun e => g2 e⟩
end Go.Den
set_option linter.unusedVariables false
set_option maxRecDepth 100000
namespace Go.Den
open Go Go.Proofs
structure Gd (a : Ac) : Prop where
  st : a.st = 1
  cr : a.cr = 0
  pd : a.pd = 0
  ix : 0 ≤ a.ix
  sk : a.sk = false
  op : ∀ c ∈ a.op, c.ph ≠ 2
def PlOk (p : Pl) : Prop := p.la = false ∧ 0 ≤ p.pr ∧ p.pr ≤ 1073741824
theorem rightP_b {n : Int} (h0 : 0 ≤ n) (h1 : n ≤ 1073741824) : rightP n = true := by simp [rightP]; omega
theorem lessP_0 {n : Int} (h0 : 0 ≤ n) (h1 : n ≤ 1073741824) : lessP n 0 = (n, 0) := by
  have e : IntKind.i64.wrap (-0) = 0 := by decide
  have e2 : IntKind.i64.wrap (n + 0) = n := by rw [Int.add_zero]; exact wrap_in _ (by omega) (by omega)
  unfold lessP
  rw [rightP_b (by decide) (by decide), if_pos rfl, e]
  unfold addP
  rw [e2, rightP_b h0 h1, rightP_b (by decide) (by decide)]; rfl
theorem addP_0 : addP 0 0 = (0, 0) := by decide
theorem begin_gd {a : Ac} {p : Pl} (hp : PlOk p) (g : Gd a) (d : Int) : ∃ x, beginA a p d false = (x, 0) ∧ Gd x ∧ x.ix = a.ix ∧ x.pl = a.pl := by
  have hl := lessP_0 hp.2.1 hp.2.2
  have h0 : ¬ (a.st = 2 ∨ a.sk = true ∨ false = true) := by rw [g.st, g.sk]; decide
  unfold beginA
  rw [if_neg h0, g.cr, hl, if_neg (by simp), if_neg (by simpa using hp.2.1)]
  by_cases hpr : p.pr = 0
  · by_cases hgo : p.go = true
    · refine ⟨_, closeA_keep (by simp [beginC, hpr, paidC, hgo, endC]), ⟨g.st, rfl, g.pd, g.ix, g.sk, ?_⟩, rfl, rfl⟩
      intro c hc
      simp only [List.mem_append, List.mem_singleton] at hc
      rcases hc with hc | rfl
      · exact g.op c hc
      · simp [beginC, hpr, paidC, hgo]
    · have e7 : (beginC a.ct d p.pr 0 p.go).ph = 7 := by simp [beginC, hpr, paidC, hgo]
      have em : (beginC a.ct d p.pr 0 p.go).am = 0 := by simp [beginC, hpr, paidC, hgo]
      refine ⟨⟨a.st, a.pl, a.an, a.ix, IntKind.i64.wrap (a.ct + 1), 0, a.sk, a.op, IntKind.i64.wrap (a.dn + 1), a.up, a.rf, a.sp, 0⟩, by rw [closeA_7 (by simp [endC, e7]) e7]; simp only [g.pd, em, addP_0], ⟨g.st, rfl, rfl, g.ix, g.sk, g.op⟩, rfl, rfl⟩
  · refine ⟨_, closeA_keep (by simp [beginC, hpr, endC]), ⟨g.st, rfl, g.pd, g.ix, g.sk, ?_⟩, rfl, rfl⟩
    intro c hc
    simp only [List.mem_append, List.mem_singleton] at hc
    rcases hc with hc | rfl
    · exact g.op c hc
    · simp [beginC, hpr]
theorem day_gd {a : Ac} {p : Pl} (hp : PlOk p) (g : Gd a) (h : (dueA a p).2 = 0) : ∃ x, Gd x ∧ x.pl = a.pl ∧ dayN a = dayN x + 1 ∧ ∀ t, (dueA a p).1 ≤ t → ∀ n, 0 < n → dayL p t n a = dayL p t (n - 1) x := by
  have hx := (nthF_ok (by simpa [dueA] using h)).1.2.2
  have g1 : Gd { a with ix := IntKind.i64.wrap (a.ix + 1) } := ⟨g.st, g.cr, g.pd, by simp only; rw [wrap_in _ (by omega) (by omega)]; omega, g.sk, g.op⟩
  obtain ⟨x, hb, gx, hix, hpl⟩ := begin_gd hp g1 (dueA a p).1
  refine ⟨x, gx, hpl, ?_, fun t ht n hn => ?_⟩
  · unfold dayN; rw [hix]; simp only; rw [wrap_in _ (by omega) (by omega)]; omega
  · have := dayL_go (t := t) hn (by rw [g.st]; decide) h ht false (by rw [hp.1]; rfl) hb
    rw [this]; simp
theorem days1 {p : Pl} (hp : PlOk p) : ∀ (N : Nat) (a : Ac), Gd a → dayN a ≤ N → ∀ t, ∃ x, Gd x ∧ x.pl = a.pl ∧ ∀ n, dayN a ≤ n → dayL p t n a = (x, 0) := by
  intro N
  induction N with
  | zero =>
    intro a g hN t
    have hs : (dueA a p).2 ≠ 0 := fun h => by obtain ⟨x, _, _, h1, _⟩ := day_gd hp g h; omega
    exact ⟨a, g, rfl, fun n _ => dayL_no n (.inl hs)⟩
  | succ N ih =>
    intro a g hN t
    by_cases hs : (dueA a p).2 ≠ 0 ∨ t < (dueA a p).1
    · exact ⟨a, g, rfl, fun n _ => dayL_no n hs⟩
    · obtain ⟨x, gx, hpl, h1, h2⟩ := day_gd hp g (by omega)
      obtain ⟨y, gy, hpy, h3⟩ := ih x gx (by omega) t
      exact ⟨y, gy, hpy.trans hpl, fun n hn => by rw [h2 t (by omega) n (by omega)]; exact h3 _ (by omega)⟩
theorem days2 {p : Pl} (hp : PlOk p) : ∀ (N : Nat) (a : Ac), Gd a → dayN a ≤ N → ∀ t t2, t ≤ t2 → ∀ x, dayL p t (dayN a) a = (x, 0) → ∀ m, dayN a ≤ m → dayL p t2 (dayN x) x = dayL p t2 m a := by
  intro N
  induction N with
  | zero =>
    intro a g hN t t2 ht x hx m hm
    have hs : (dueA a p).2 ≠ 0 := fun h => by obtain ⟨x, _, _, h1, _⟩ := day_gd hp g h; omega
    rw [dayL_no _ (.inl hs)] at hx
    cases hx
    rw [dayL_no _ (.inl hs), dayL_no _ (.inl hs)]
  | succ N ih =>
    intro a g hN t t2 ht x hx m hm
    by_cases hs : (dueA a p).2 ≠ 0 ∨ t < (dueA a p).1
    · rw [dayL_no _ hs] at hx
      cases hx
      obtain ⟨y, _, _, hy⟩ := days1 hp (N + 1) a g hN t2
      rw [hy _ (Nat.le_refl _), hy _ hm]
    · obtain ⟨y, gy, hpl, h1, h2⟩ := day_gd hp g (by omega)
      rw [h2 t (by omega) _ (by omega), h1, Nat.add_sub_cancel] at hx
      rw [h2 t2 (by omega) m (by omega)]
      exact ih y gy (by omega) t t2 ht x hx _ (by omega)
theorem wake_no {a : Ac} (g : Gd a) (t : Int) : ({ a with op := a.op.map (fun c => wakeC c t) } : Ac) = a := by
  have e : a.op.map (fun c => wakeC c t) = a.op := by
    rw [List.map_congr_left (g := id) fun c hc => by simp [wakeC, g.op c hc]]; simp
  rw [e]
theorem dayA_gd {a : Ac} {p : Pl} (hp : PlOk p) (g : Gd a) (t : Int) : ∃ x, dayA a p t = (x, 0) ∧ Gd x ∧ x.pl = a.pl ∧ ∀ t2, t ≤ t2 → dayA x p t2 = dayA a p t2 := by
  obtain ⟨x, gx, hpl, hx⟩ := days1 hp _ a g (Nat.le_refl _) t
  refine ⟨x, ?_, gx, hpl, fun t2 ht => ?_⟩
  · unfold dayA; rw [wake_no g]; exact hx _ (Nat.le_refl _)
  · unfold dayA; rw [wake_no g, wake_no gx]
    exact days2 hp _ a g (Nat.le_refl _) t t2 ht x (hx _ (Nat.le_refl _)) _ (Nat.le_refl _)
structure RI (T : Int) (i : Nat) (b : Bk) : Prop where
  today : b.today = T
  len : b.pls.length = i
  pls : ∀ p ∈ b.pls, PlOk p
  subs : ∀ a ∈ b.subs, a.st = 0 ∨ (Gd a ∧ 0 ≤ a.pl ∧ a.pl < b.pls.length)
  n32 : b.subs.length = 32
  free : ∀ j, i ≤ j → (b.subs.getD j zeroA).st = 0
theorem RI.new (T : Int) : RI T 0 (newB T) := ⟨rfl, rfl, fun p hp => by simp [newB] at hp, fun a ha => .inl (by rw [List.eq_of_mem_replicate ha]; rfl), by simp [newB], fun j _ => by
  simp only [newB, List.getD_eq_getElem?_getD, List.getElem?_replicate]; split <;> rfl⟩
def partO1 (n : Int) : Od := ⟨1, 0, 0, 0, { planR n with la := false }, zeroN⟩
def partO2 (i : Int) : Od := ⟨2, i, i, 0, zeroP, zeroN⟩
noncomputable def partB (b : Bk) (n i : Int) : Bk := (stepB (stepB b (partO1 n)).1 (partO2 i)).1
theorem rightPl_ok {p : Pl} (h1 : srB p.un p.ev = true) (h2 : 0 ≤ p.tr ∧ p.tr ≤ 1000) (h3 : 0 ≤ p.pr ∧ p.pr ≤ 1073741824) : rightPl p = 0 := by
  unfold rightPl
  rw [if_neg (by rw [h1]; simp; omega), if_neg (by omega)]
theorem planR_right {n : Int} (h0 : 0 ≤ n) (h1 : n < 256) : rightPl { planR n with la := false } = 0 ∧ PlOk { planR n with la := false } ∧ 0 ≤ (planR n).tr ∧ (planR n).tr ≤ 10 := by
  have s1 : 0 ≤ sel4 (n % 4) 1000 0 2999 1 ∧ sel4 (n % 4) 1000 0 2999 1 ≤ 2999 := by unfold sel4; split <;> (try split) <;> (try split) <;> omega
  have s2 : 0 ≤ sel4 (n / 48 % 4) 0 0 10 3 ∧ sel4 (n / 48 % 4) 0 0 10 3 ≤ 10 := by unfold sel4; split <;> (try split) <;> (try split) <;> omega
  refine ⟨?_, ⟨rfl, s1.1, by simp only [planR]; omega⟩, s2⟩
  exact rightPl_ok (by unfold srB; exact decide_eq_true (by simp only [planR]; omega)) (by simp only [planR]; omega) (by simp only [planR]; omega)
theorem RI.step {T : Int} {i : Nat} {b : Bk} (h : RI T i b) (hi : i < 3) (hT : 0 ≤ T) (hT2 : T + 60 ≤ 3652058) {n : Int} (h0 : 0 ≤ n) (h1 : n < 256) : RI T (i + 1) (partB b n i) := by
  obtain ⟨r1, r2, r3, r4⟩ := planR_right h0 h1
  have e1 : stepB b (partO1 n) = ({ b with pls := b.pls ++ [{ planR n with la := false }] }, 0) := by
    have hr : rightO (partO1 n) = 0 := by unfold rightO partO1; simp only; rw [if_neg (by decide), if_pos trivial, if_neg (by simp)]; exact r1
    unfold stepB
    rw [hr]
    simp only [ne_eq, not_true_eq_false, if_false]
    have ha : addPl b.pls (partO1 n).p = (b.pls ++ [{ planR n with la := false }], (b.pls.length : Int), 0) := by
      unfold addPl; rw [if_neg (by simp only [partO1]; rw [r1]; decide), if_neg (by rw [h.len]; omega)]; rfl
    rw [if_pos (show (partO1 n).kd = 1 from rfl), ha]; simp
  unfold partB
  rw [e1]
  simp only
  have hg : getP (b.pls ++ [{ planR n with la := false }]) i = ({ planR n with la := false }, 0) := by
    unfold getP
    rw [if_neg (by simp [h.len]; omega)]
    simp [List.getD_eq_getElem?_getD, ← h.len]
  have hr2 : rightO (partO2 i) = 0 := by
    unfold rightO partO2
    rw [if_pos (show subsK 2 = true by decide), if_neg (by simp [plansK]; omega)]
  have go : Gd (openAc i { planR n with la := false } T) := ⟨rfl, rfl, rfl, Int.le_refl _, rfl, fun c hc => by simp [openAc] at hc⟩
  obtain ⟨x, d1, gx, hpl, _⟩ := dayA_gd r2 go T
  have ho : openB { b with pls := b.pls ++ [{ planR n with la := false }] } (partO2 i) = (x, 0) := by
    unfold openB
    simp only [partO2, hg]
    rw [if_neg (by simp), if_neg (by have := h.free i (Nat.le_refl _); simp only [Bk.sub, Int.toNat_natCast]; rw [this]; decide), h.today, if_neg (by rw [wrap_in _ (by omega) (by omega)]; omega)]
    exact d1
  have e2 : stepB { b with pls := b.pls ++ [{ planR n with la := false }] } (partO2 i) = ({ b with pls := b.pls ++ [{ planR n with la := false }], subs := b.subs.set i x }, 0) := by
    unfold stepB
    rw [hr2]
    simp only [ne_eq, not_true_eq_false, if_false]
    rw [if_neg (by simp [partO2]), if_pos (by simp [partO2]), ho]
    simp [Bk.put, partO2]
  rw [e2]
  have hpx : x.pl = i := by rw [hpl]; rfl
  refine ⟨h.today, by simp [h.len], fun p hp => ?_, fun a ha => ?_, by simp [h.n32], fun j hj => ?_⟩
  · simp only [List.mem_append, List.mem_singleton] at hp
    rcases hp with hp | rfl
    · exact h.pls p hp
    · exact r2
  · rcases List.mem_or_eq_of_mem_set ha with q | rfl
    · refine (h.subs a q).imp id fun ⟨g, q0, q1⟩ => ⟨g, q0, by simp; omega⟩
    · exact .inr ⟨gx, by rw [hpx]; omega, by rw [hpx]; simp [h.len]; omega⟩
  · have := h.free j (by omega)
    simp only [List.getD_eq_getElem?_getD] at this ⊢
    rw [List.getElem?_set_ne (by omega)]; exact this
end Go.Den
set_option linter.unusedVariables false
set_option maxRecDepth 100000
namespace Go.Den
open Go Go.Proofs
theorem zz_unz {n : Int} (h0 : -9223372036854775808 ≤ n) (h1 : n < 9223372036854775808) : unz (zzI n).toNat = n := by
  rw [zzI_eq h0 h1]
  unfold unz
  split
  · rw [if_neg (by omega)]; omega
  · rw [if_pos (by omega)]; omega
theorem scan_fwd : ∀ (n w : Nat), w < n → ∀ (i u : Nat) (r : List By), (0 < i → w ≠ 0) → u + w * 64 ^ i < 18446744073709551616 → scanB i u (digB w ++ r) = (0, u + w * 64 ^ i, r)
  | 0, w, hn, _, _, _, _, _ => by omega
  | n + 1, w, hn, i, u, r, h0, hl => by
    have hi : w = 0 ∨ i ≤ 10 := by
      by_cases q : w = 0
      · exact .inl q
      · right
        refine Classical.byContradiction fun q2 => ?_
        have h1 : 64 ^ 11 ≤ 64 ^ i := Nat.pow_le_pow_right (by decide) (by omega)
        have h2 : 1 * 64 ^ i ≤ w * 64 ^ i := Nat.mul_le_mul_right _ (by omega)
        omega
    have h10 : i = 10 → w < 16 := fun q => by
      subst q
      refine Classical.byContradiction fun q2 => ?_
      have h2 : 16 * 64 ^ 10 ≤ w * 64 ^ 10 := Nat.mul_le_mul_right _ (by omega)
      omega
    by_cases hw : w < 64
    · rw [digB_0 hw]
      show scanB i u (⟨(w : Int)⟩ :: r) = _
      have hnb : badB i (w : Int) = false := by simp [badB]; omega
      rw [scanB, if_neg (by simp [hnb]), if_neg (by simp only; omega)]
      have : ((w : Int) % 64).toNat = w := by omega
      simp only [this]
    · rw [digB_s hw]
      show scanB i u (⟨(w : Int) % 64 + 64⟩ :: (digB (w / 64) ++ r)) = _
      have hi9 : i ≤ 9 := by
        by_cases q : i = 10
        · have := h10 q; omega
        · rcases hi with q2 | q2 <;> omega
      have hnb : badB i ((w : Int) % 64 + 64) = false := by simp [badB]; omega
      rw [scanB, if_neg (by simp [hnb]), if_pos (by simp only; omega)]
      have e : (((w : Int) % 64 + 64) % 64).toNat = w % 64 := by omega
      have e2 : u + w % 64 * 64 ^ i + w / 64 * 64 ^ (i + 1) = u + w * 64 ^ i := by
        have e3 : w / 64 * 64 ^ (i + 1) = (64 * (w / 64)) * 64 ^ i := by rw [Nat.pow_succ, Nat.mul_comm 64 (w / 64), Nat.mul_assoc, Nat.mul_comm (64 ^ i) 64]
        rw [e3, Nat.add_assoc, ← Nat.add_mul]
        congr 2; omega
      simp only [e]
      rw [scan_fwd n (w / 64) (by omega) (i + 1) _ r (fun _ => by omega) (by rw [e2]; exact hl), e2]
structure Rd (b : Bx) (ns : List Int) (b' : Bx) : Prop where
  e0 : b.e = 0
  e1 : b'.e = 0
  p : b.p = numsB ns ++ b'.p
  ok : ByOk b'.p
theorem Rd.trans {a b c : Bx} {ns ms : List Int} (h : Rd a ns b) (g : Rd b ms c) : Rd a (ns ++ ms) c := ⟨h.e0, g.e1, by rw [h.p, g.p, numsB_app]; simp, g.ok⟩
theorem Rd.refl {a : Bx} (h : a.e = 0) (ho : ByOk a.p) : Rd a [] a := ⟨h, h, rfl, ho⟩
theorem get_fwd {lo hi n : Int} (h0 : lo ≤ n) (h1 : n ≤ hi) (hl : -9223372036854775808 ≤ n) (hh : n < 9223372036854775808) (r : List By) : getX lo hi ⟨numB n ++ r, 0⟩ = (n, ⟨r, 0⟩) := by
  have hb := zzI_b n
  have hs : scanB 0 0 (numB n ++ r) = (0, (zzI n).toNat, r) := by
    unfold numB
    rw [scan_fwd ((zzI n).toNat + 1) _ (by omega) 0 0 r (fun q => by omega) (by simp; omega)]
    simp
  rw [get_ok hs (by rw [zz_unz hl hh]; omega), zz_unz hl hh]
theorem flag_fwd (o : Bool) (r : List By) : flagX ⟨numB (flN o) ++ r, 0⟩ = (o, ⟨r, 0⟩) := by
  unfold flagX
  have : 0 ≤ flN o ∧ flN o ≤ 1 := by unfold flN; split <;> omega
  rw [get_fwd this.1 this.2 (by omega) (by omega)]
  cases o <;> rfl
theorem wr8 {n : Int} (h0 : 0 ≤ n) (h1 : n ≤ 200) : IntKind.u8.wrap n = n ∧ IntKind.i64.wrap n = n := ⟨wrap_b8 n h0 (by omega), wrap_in _ (by omega) (by omega)⟩
end Go.Den
set_option linter.unusedVariables false
set_option maxRecDepth 100000
namespace Go.Den
open Go Go.Proofs
def CyR (c : Cy) : Prop := (0 ≤ c.no ∧ c.no ≤ 3652058) ∧ (0 ≤ c.due ∧ c.due ≤ 3652058) ∧ (1 ≤ c.ph ∧ c.ph ≤ 6) ∧ (0 ≤ c.am ∧ c.am ≤ 1125899906842624) ∧ (-1125899906842624 ≤ c.us ∧ c.us ≤ 1125899906842624) ∧ (0 ≤ c.tr ∧ c.tr ≤ 100) ∧ (0 ≤ c.nx ∧ c.nx ≤ 3652158)
end Go.Den
set_option linter.unusedVariables false
set_option maxRecDepth 100000
namespace Go.Den
open Go Go.Proofs
theorem digB_ok (n : Nat) : ∀ u : Nat, u < n → ByOk (digB u) := by
  induction n with
  | zero => intro u h; omega
  | succ n ih =>
    intro u h
    by_cases q : u < 64
    · rw [digB_0 q]; intro c hc; simp at hc; subst hc; exact ⟨by simp only; omega, by simp only; omega⟩
    · rw [digB_s q]; intro c hc
      simp only [List.mem_cons] at hc
      rcases hc with rfl | hc
      · exact ⟨by simp only; omega, by simp only; omega⟩
      · exact ih (u / 64) (by omega) c hc
theorem numsB_ok : ∀ l : List Int, ByOk (numsB l)
  | [] => fun c hc => by simp [numsB] at hc
  | n :: l => fun c hc => by
    simp only [numsB, List.mem_append] at hc
    rcases hc with hc | hc
    · exact digB_ok _ _ (Nat.lt_succ_self _) c hc
    · exact numsB_ok l c hc
theorem flat_len {α β : Type} {f : α → List β} {m : Nat} : ∀ l : List α, (∀ a ∈ l, (f a).length ≤ m) → (l.flatMap f).length ≤ l.length * m
  | [], _ => by simp
  | a :: l, h => by
    have h1 := h a (by simp)
    have h2 := flat_len l (fun x hx => h x (by simp [hx]))
    simp only [List.flatMap_cons, List.length_append, List.length_cons, Nat.succ_mul]; omega
theorem encB_len {k : Nat} {b : Bk} (hk : BOk k b) (h8 : b.pls.length ≤ 8) (hk3 : k ≤ 300000000) : (encB b).length ≤ 1000000000000 := by
  have h1 := numsB_len (bkN b)
  have h2 : (b.pls.flatMap plN).length ≤ b.pls.length * 6 := flat_len _ (fun p _ => by simp [plN])
  have h3 : (b.subs.flatMap acN).length ≤ b.subs.length * (13 + k * 8) := flat_len _ (fun a ha => by
    unfold acN
    split
    · simp only [List.length_cons, List.length_nil]; omega
    · have h4 : (a.op.flatMap cyN).length ≤ a.op.length * 8 := flat_len _ (fun c _ => by simp [cyN])
      have h5 := (hk.subs a ha).2
      simp only [List.length_cons, List.length_append, List.length_nil]; omega)
  rw [hk.len] at h3
  unfold encB bkN at *
  simp only [List.length_append, List.length_cons, List.length_nil] at *
  omega
end Go.Den
set_option linter.unusedVariables false
set_option maxRecDepth 100000
namespace Go.Den
open Go Go.Proofs
theorem bds_play : ∀ n : Nat, n ≤ 60 → Bds 2500 (n * 2999) 200000 := fun n hn => ⟨by decide, by omega, by decide, by decide, by decide⟩
theorem orderR_p {x : At4} (hx : x.ok) (asks : List Nt) : ((orderR x asks).kd = 9 → (orderR x asks).n ≤ 40) ∧ ((orderR x asks).kd = 1 → (orderR x asks).p.pr ≤ 2999) := by
  obtain ⟨_, _, ⟨h1, h2⟩, h3, h4⟩ := hx
  have hs : sel4 (x.b % 4) 1000 0 2999 1 ≤ 2999 := by unfold sel4; split <;> (try split) <;> (try split) <;> omega
  unfold orderR
  repeat' split
  all_goals (simp only; first | exact ⟨fun q => by omega, fun q => by first | exact hs | omega⟩ | exact ⟨fun q => by omega, fun q => by simp only [planR]; exact hs⟩ | exact ⟨fun q => by omega, fun q => by omega⟩)
theorem play_bi {l : List At4} (hl : ∀ a ∈ l, a.ok) (h60 : l.length ≤ 60) {T : Int} (hT : 0 ≤ T) (hT2 : T ≤ 3600000) : ∀ i, i ≤ l.length → BI T 2999 (i * 2999) 200000 (playB (l.take i) (newB T)) ∧ (playB (l.take i) (newB T)).today ≤ T + 40 * i
  | 0, _ => ⟨⟨by simp [playB, newB], by simp [playB, newB]; omega, fun p hp => by simp [playB, newB] at hp, fun a ha => .inl (by simp [playB, newB] at ha; exact ha)⟩, by simp [playB, newB]⟩
  | i + 1, hi => by
    obtain ⟨hb, ht⟩ := play_bi hl h60 hT hT2 i (by omega)
    have hok := play_ok hl T i (by omega)
    rw [play_snoc (by omega)]
    have hx := hl _ (List.getElem_mem (show i < l.length by omega))
    obtain ⟨p9, p1⟩ := orderR_p hx (playB (l.take i) (newB T)).asks
    unfold actB
    split
    · rename_i q
      have ho : rightO (orderR l[i] (playB (l.take i) (newB T)).asks) = 0 := by
        refine Classical.byContradiction fun hne => ?_
        unfold stepB at q; rw [if_pos hne] at q; exact hne q
      have R : Room T 2999 2500 (i * 2999) ((i + 1) * 2999) 200000 (playB (l.take i) (newB T)) (orderR l[i] (playB (l.take i) (newB T)).asks) := ⟨bds_play _ (by omega), by decide, by decide, by omega, by omega, hT, by decide, by omega, fun k => by have := p9 k; omega, p1⟩
      obtain ⟨_, h2⟩ := step_bi R hb hok.ok.pls ho
      obtain ⟨g1, g2⟩ := h2 q
      refine ⟨g1, ?_⟩
      rw [g2]; split
      · rename_i k; have := p9 k; omega
      · omega
    · exact ⟨hb.mono (by omega), by omega⟩
end Go.Den
set_option linter.unusedVariables false
set_option maxRecDepth 100000
namespace Go.Den
open Go Go.Proofs
theorem getF {lo hi n : Int} (h : lo ≤ n ∧ n ≤ hi) (hl : -9000000000000000000 ≤ lo) (hh : hi ≤ 9000000000000000000) (l : List Int) (r : List By) : getX lo hi ⟨numsB (n :: l) ++ r, 0⟩ = (n, ⟨numsB l ++ r, 0⟩) := by
  rw [numsB, List.append_assoc]
  exact get_fwd h.1 h.2 (by omega) (by omega) _
theorem flagF (o : Bool) (l : List Int) (r : List By) : flagX ⟨numsB (flN o :: l) ++ r, 0⟩ = (o, ⟨numsB l ++ r, 0⟩) := by
  rw [numsB, List.append_assoc]
  exact flag_fwd o _
theorem plan_fwd {p : Pl} (h : rightPl p = 0) (hu : 0 ≤ p.un) (r : List By) : planX ⟨numsB (plN p) ++ r, 0⟩ = (p, ⟨r, 0⟩) := by
  have hb := right_bd h
  obtain ⟨w1, w2⟩ := wr8 (n := p.un) hu (by omega)
  have e : plN p = [p.pr, p.un, p.ev, p.tr, flN p.go, flN p.la] := by simp [plN, w2]
  rw [e]
  unfold planX
  rw [getF (n := p.pr) (by omega) (by decide) (by decide)]
  dsimp only
  rw [getF (n := p.un) (by omega) (by decide) (by decide)]
  dsimp only
  rw [getF (n := p.ev) (by omega) (by decide) (by decide)]
  dsimp only
  rw [getF (n := p.tr) (by omega) (by decide) (by decide)]
  dsimp only
  rw [flagF]
  dsimp only
  rw [flagF]
  dsimp only
  rw [if_neg (by simp), w1]; rfl
theorem cy_fwd {c : Cy} (h : CyR c) (r : List By) : cyX ⟨numsB (cyN c) ++ r, 0⟩ = (c, ⟨r, 0⟩) := by
  obtain ⟨h1, h2, h3, h4, h5, h6, h7⟩ := h
  obtain ⟨w1, w2⟩ := wr8 (n := c.ph) (by omega) (by omega)
  have e : cyN c = [c.no, c.due, c.ph, c.am, c.us, c.tr, c.nx, flN c.gd] := by simp [cyN, w2]
  rw [e]
  unfold cyX numX monX
  rw [getF (n := c.no) h1 (by decide) (by decide)]
  dsimp only
  rw [getF (n := c.due) h2 (by decide) (by decide)]
  dsimp only
  rw [getF (n := c.ph) h3 (by decide) (by decide)]
  dsimp only
  rw [getF (n := c.am) h4 (by decide) (by decide)]
  dsimp only
  rw [getF (n := c.us) h5 (by decide) (by decide)]
  dsimp only
  rw [getF (n := c.tr) h6 (by decide) (by decide)]
  dsimp only
  rw [getF (n := c.nx) h7 (by decide) (by decide)]
  dsimp only
  rw [flagF]
  simp only [w1, numsB, List.nil_append]
theorem cys_fwd : ∀ (l : List Cy), (∀ c ∈ l, CyR c) → ∀ r, cysX l.length ⟨numsB (l.flatMap cyN) ++ r, 0⟩ = (l, ⟨r, 0⟩)
  | [], _, r => rfl
  | c :: l, h, r => by
    rw [List.flatMap_cons, numsB_app, List.append_assoc, List.length_cons, cysX_go rfl (cy_fwd (h c (by simp)) _), cys_fwd l (fun x hx => h x (by simp [hx])) r]
def AcR (q : Int) (a : Ac) : Prop := a = zeroA ∨ ((1 ≤ a.st ∧ a.st ≤ 3) ∧ (0 ≤ a.pl ∧ a.pl < q ∧ q ≤ 8) ∧ (0 ≤ a.an ∧ a.an ≤ 3652058) ∧ (0 ≤ a.ix ∧ a.ix ≤ 3652058) ∧ (0 ≤ a.ct ∧ a.ct ≤ 3652058) ∧ (-1125899906842624 ≤ a.cr ∧ a.cr ≤ 1125899906842624) ∧ (0 ≤ a.dn ∧ a.dn ≤ 3652058) ∧ (0 ≤ a.up ∧ a.up ≤ 3652058) ∧ (0 ≤ a.rf ∧ a.rf ≤ 3652058) ∧ (0 ≤ a.sp ∧ a.sp ≤ 3652058) ∧ (-1125899906842624 ≤ a.pd ∧ a.pd ≤ 1125899906842624) ∧ a.op.length ≤ 3652058 ∧ ∀ c ∈ a.op, CyR c)
theorem ac_fwd {q : Int} {a : Ac} (h : AcR q a) (r : List By) : acX q ⟨numsB (acN a) ++ r, 0⟩ = (a, ⟨r, 0⟩) := by
  rcases h with rfl | ⟨h1, h2, h3, h4, h5, h6, h7, h8, h9, h10, h11, h12, h13⟩
  · have e : acN zeroA = [0] := by simp only [acN, zeroA, if_pos]; rfl
    rw [e]
    unfold acX
    rw [getF (n := 0) (by decide) (by decide) (by decide)]
    dsimp only
    rw [if_pos (by decide)]
    simp [numsB]
  · obtain ⟨w1, w2⟩ := wr8 (n := a.st) (by omega) (by omega)
    have e : acN a = [a.st, a.pl, a.an, a.ix, a.ct, a.cr, flN a.sk, a.dn, a.up, a.rf, a.sp, a.pd, (a.op.length : Int)] ++ a.op.flatMap cyN := by
      unfold acN; rw [if_neg (by omega), w2]; rfl
    have hq : IntKind.i64.wrap (q - 1) = q - 1 := wrap_in _ (by omega) (by omega)
    rw [e, numsB_app, List.append_assoc]
    unfold acX numX monX
    rw [getF (n := a.st) (by omega) (by decide) (by decide)]
    dsimp only
    rw [if_neg (by rw [w1]; omega), hq, getF (n := a.pl) (by omega) (by omega) (by omega)]
    dsimp only
    rw [getF (n := a.an) h3 (by decide) (by decide)]
    dsimp only
    rw [getF (n := a.ix) h4 (by decide) (by decide)]
    dsimp only
    rw [getF (n := a.ct) h5 (by decide) (by decide)]
    dsimp only
    rw [getF (n := a.cr) h6 (by decide) (by decide)]
    dsimp only
    rw [flagF]
    dsimp only
    rw [getF (n := a.dn) h7 (by decide) (by decide)]
    dsimp only
    rw [getF (n := a.up) h8 (by decide) (by decide)]
    dsimp only
    rw [getF (n := a.rf) h9 (by decide) (by decide)]
    dsimp only
    rw [getF (n := a.sp) h10 (by decide) (by decide)]
    dsimp only
    rw [getF (n := a.pd) h11 (by decide) (by decide)]
    dsimp only
    rw [getF (n := (a.op.length : Int)) (by omega) (by decide) (by decide)]
    dsimp only
    rw [Int.toNat_natCast]
    simp only [numsB, List.nil_append]
    rw [cys_fwd _ h13, w1]
theorem pls_fwd : ∀ (l : List Pl), (∀ p ∈ l, rightPl p = 0 ∧ 0 ≤ p.un) → ∀ r, plsX l.length ⟨numsB (l.flatMap plN) ++ r, 0⟩ = (l, ⟨r, 0⟩)
  | [], _, r => rfl
  | p :: l, h, r => by
    rw [List.flatMap_cons, numsB_app, List.append_assoc, List.length_cons, plsX_go (plan_fwd (h p (by simp)).1 (h p (by simp)).2 _), pls_fwd l (fun x hx => h x (by simp [hx])) r]
theorem subs_fwd {q : Int} : ∀ (l : List Ac), (∀ a ∈ l, AcR q a) → ∀ r, subsX q l.length ⟨numsB (l.flatMap acN) ++ r, 0⟩ = (l, ⟨r, 0⟩)
  | [], _, r => rfl
  | a :: l, h, r => by
    rw [List.flatMap_cons, numsB_app, List.append_assoc, List.length_cons, subsX_go (ac_fwd (h a (by simp)) _), subs_fwd l (fun x hx => h x (by simp [hx])) r]
theorem dec_fwd {b : Bk} (ht : 0 ≤ b.today ∧ b.today ≤ 3652058) (hp : ∀ p ∈ b.pls, rightPl p = 0 ∧ 0 ≤ p.un) (h8 : b.pls.length ≤ 8) (hl : b.subs.length = 32) (hs : ∀ a ∈ b.subs, AcR b.pls.length a) : decX (encB b) = (b, 0) := by
  have e : encB b = numsB (b.today :: [(b.pls.length : Int)]) ++ (numsB (b.pls.flatMap plN) ++ (numsB (b.subs.flatMap acN) ++ [])) := by
    unfold encB bkN; rw [numsB_app, numsB_app]; simp
  have g1 := getF (lo := 0) (hi := 3652058) ht (by decide) (by decide) [(b.pls.length : Int)] (numsB (b.pls.flatMap plN) ++ (numsB (b.subs.flatMap acN) ++ []))
  have g2 := getF (lo := 0) (hi := 8) (n := (b.pls.length : Int)) (by omega) (by decide) (by decide) [] (numsB (b.pls.flatMap plN) ++ (numsB (b.subs.flatMap acN) ++ []))
  rw [show numsB ([] : List Int) ++ (numsB (b.pls.flatMap plN) ++ (numsB (b.subs.flatMap acN) ++ [])) = numsB (b.pls.flatMap plN) ++ (numsB (b.subs.flatMap acN) ++ []) from rfl] at g2
  have g3 := pls_fwd b.pls hp (numsB (b.subs.flatMap acN) ++ [])
  have g4 := subs_fwd (q := b.pls.length) b.subs hs []
  rw [hl] at g4
  have h5 : endX ⟨[], 0⟩ = 0 := by decide
  rw [e]
  generalize numsB (b.subs.flatMap acN) ++ [] = R4 at *
  generalize numsB (b.pls.flatMap plN) ++ R4 = R3 at *
  generalize numsB [(b.pls.length : Int)] ++ R3 = R2 at *
  generalize numsB (b.today :: [(b.pls.length : Int)]) ++ R3 = R1 at *
  unfold decX
  simp only [g1, g2, Int.toNat_natCast, g3, g4, h5]
  rfl
theorem usS_mem : ∀ (l : List Cy) (c : Cy), c ∈ l → c.us.natAbs ≤ usS l
  | a :: l, c, h => by
    rw [usS_cons]
    simp only [List.mem_cons] at h
    rcases h with rfl | h
    · omega
    · have := usS_mem l c h; omega
theorem play_dec {l : List At4} (hl : ∀ a ∈ l, a.ok) (h60 : l.length ≤ 60) {T : Int} (hT : 0 ≤ T) (hT2 : T ≤ 3600000) : decX (encB (playB l (newB T))) = (playB l (newB T), 0) := by
  obtain ⟨hb, ht⟩ := play_bi hl h60 hT hT2 l.length (Nat.le_refl _)
  have hok := play_ok hl T l.length (Nat.le_refl _)
  rw [List.take_length] at hb ht hok
  generalize playB l (newB T) = b at *
  have h0 := hb.t0
  refine dec_fwd ⟨by omega, hb.t1⟩ (fun p hp => ⟨hok.ok.pls p hp, hok.un p hp⟩) hok.p8 hok.ok.len (fun a ha => ?_)
  rcases hb.subs a ha with e | ⟨g, p0, p1⟩
  · exact .inl e
  · right
    have hmo := g.s.mo
    have hsm := g.s.sm
    have hct := g.c2
    have hpd := g.s.pd
    have h8 := hok.p8
    have hst := g.st
    have han := g.an
    have hix0 := g.ix
    simp only [List.append_nil, List.length_nil] at hmo hsm
    have hix : a.ix ≤ 3652058 := by
      by_cases q : a.ix = 0
      · omega
      · obtain ⟨k, hu⟩ := g.up q
        have : ¬ b.today < a.an + (a.ix - 1) := fun q2 => up_not (by omega) (by omega) k.2.1 (by omega) q2 hu
        omega
    have hdx : a.dn * 200000 ≤ 2500 * 200000 := Int.mul_le_mul_of_nonneg_right (by omega) (by decide)
    refine ⟨hst, ⟨p0, p1, by omega⟩, ⟨by omega, han.2⟩, ⟨hix0, hix⟩, ⟨by omega, by omega⟩, by omega, by omega, by omega, by omega, by omega, by omega, by omega, fun c hc => ?_⟩
    obtain ⟨q1, q2, q3, q4, q5, q6⟩ := g.s.cy c hc
    have hn := g.s.nc c (by simp [hc])
    have hu := usS_mem a.op c hc
    exact ⟨by omega, by omega, by omega, by omega, by omega, by omega, by omega⟩
end Go.Den
namespace Go.Den
open Go Go.Proofs
set_option maxRecDepth 100000
set_option maxHeartbeats 1000000
set_option linter.all false
attribute [local simp] evOps evOp absOp absBox absLoad absStore absField absIndexAddr absCells absBinOp absBin absInt absShift absUn absPick absNil absExtract absPlaces Instr.fill absBuiltin absMinMax plainV plainT allA flat cells_agg cells_int cells_bool cells_str cells_ptr cells_sl cells_map one_int one_bool one_str one_ptr one_sl one_map Act.eval Act.put Region.wanted yielded absCall TypeDesc.isRow
attribute [local simp high] bk_t bk_p bk_take bk_row BkL_len sp_bk sp_t sp_p
attribute [local simp] sp_nil sp_0 sp_s List.length_set
theorem rplan_s (n : Int) (h0 : 0 ≤ n) (h1 : n < 256) (H : Mem) : FSem Tryd.prog [0] 20 #[.int .u8 n] H fun v H' => v = (planR n).v ∧ H' = H := by
  refine FSem.plainT ?_
  refine FSem.ofK Tryd.func20 rfl ?_
  refine DK.from (b' := ⟨#[.int .u8 n, undef, undef, undef, undef, undef, undef, undef, undef, undef, undef, undef, undef, undef, undef, undef, undef, undef, undef, undef, undef, undef, undef, undef, undef, undef, undef, undef, undef], []⟩) (by kernel_rfl) ?_
  have f1 : n.tmod 4 = n % 4 := tm _ _ h0
  have f2 : n.tdiv 4 = n / 4 := td _ _ h0
  have f3 : IntKind.u8.wrap (n / 4) = n / 4 := wrap_u8 _ (by omega) (by omega)
  have f4 : (n / 4).tmod 4 = n / 4 % 4 := tm _ _ (by omega)
  have f5 : n.tdiv 16 = n / 16 := td _ _ h0
  have f6 : IntKind.u8.wrap (n / 16) = n / 16 := wrap_u8 _ (by omega) (by omega)
  have f7 : (n / 16).tmod 3 = n / 16 % 3 := tm _ _ (by omega)
  have f8 : IntKind.i64.wrap (n / 16 % 3) = n / 16 % 3 := wrap_in _ (by omega) (by omega)
  have f9 : IntKind.i64.wrap (1 + n / 16 % 3) = 1 + n / 16 % 3 := wrap_in _ (by omega) (by omega)
  have f10 : n.tdiv 48 = n / 48 := td _ _ h0
  have f11 : IntKind.u8.wrap (n / 48) = n / 48 := wrap_u8 _ (by omega) (by omega)
  have f12 : (n / 48).tmod 4 = n / 48 % 4 := tm _ _ (by omega)
  have f13 : n.tmod 3 = n % 3 := tm _ _ h0
  have f14 : n.tmod 7 = n % 7 := tm _ _ h0
  have f15 : 0 ≤ n % 4 := by omega
  have f16 : n % 4 < 4 := by omega
  have f17 : 0 ≤ n / 48 % 4 := by omega
  have f18 : n / 48 % 4 < 4 := by omega
  have f19 : (n % 4).toNat + 1 ≤ 4 := by omega
  have f20 : (n / 48 % 4).toNat + 1 ≤ 4 := by omega
  have f21 : List.take 1 (List.drop (n % 4).toNat [Value.int .i64 1000, .int .i64 0, .int .i64 2999, .int .i64 1]) = [.int .i64 (sel4 (n % 4) 1000 0 2999 1)] := sel_take _ _ _ _ f15 f16
  have f22 : List.take 1 (List.drop (n / 48 % 4).toNat [Value.int .i64 0, .int .i64 0, .int .i64 10, .int .i64 3]) = [.int .i64 (sel4 (n / 48 % 4) 0 0 10 3)] := sel_take _ _ _ _ f17 f18
  have f23 : (n % 4).toNat < 4 := by omega
  have f24 : (n / 48 % 4).toNat < 4 := by omega
  have f25 : (n % 4).toNat ≤ 3 := by omega
  have f26 : (n / 48 % 4).toNat ≤ 3 := by omega
  refine DK.seq ?_
  refine DK.region (is := [0]) (by kernel_rfl) rfl ?_
  refine WK.run [0] (by simp [f1, f2, f3, f4, f5, f6, f7, f8, f9, f10, f11, f12, f13, f14, f15, f16, f17, f18, f19, f20, f21, f22, f23, f24, f25, f26]; constructor <;> rfl) ?_
  refine WK.nil ?_
  refine DK.seq ?_
  refine DK.draw rfl (POk.of (ord := [0, 1, 2, 3, 4, 5, 6, 7, 8, 9, 10, 11, 12, 13, 14, 15, 16, 17, 18, 19, 20, 21, 22, 23, 24, 25, 26]) (by kernel_rfl)) ?_
  refine XK.run [0, 1, 2, 3, 4, 5, 6, 7, 8, 9] (by kernel_rfl) (by simp [f1, f2, f3, f4, f5, f6, f7, f8, f9, f10, f11, f12, f13, f14, f15, f16, f17, f18, f19, f20, f21, f22, f23, f24, f25, f26]; constructor <;> rfl) ?_
  refine XK.run [10, 11, 12, 13, 14, 15, 16, 17, 18, 19] (by kernel_rfl) (by simp [f1, f2, f3, f4, f5, f6, f7, f8, f9, f10, f11, f12, f13, f14, f15, f16, f17, f18, f19, f20, f21, f22, f23, f24, f25, f26]; constructor <;> rfl) ?_
  refine XK.run [20, 21, 22, 23, 24, 25] (by kernel_rfl) (by simp [f1, f2, f3, f4, f5, f6, f7, f8, f9, f10, f11, f12, f13, f14, f15, f16, f17, f18, f19, f20, f21, f22, f23, f24, f25, f26]; constructor <;> rfl) ?_
  refine XK.one rfl (by simp [f1, f2, f3, f4, f5, f6, f7, f8, f9, f10, f11, f12, f13, f14, f15, f16, f17, f18, f19, f20, f21, f22, f23, f24, f25, f26]) rfl (by simp [f1, f2, f3, f4, f5, f6, f7, f8, f9, f10, f11, f12, f13, f14, f15, f16, f17, f18, f19, f20, f21, f22, f23, f24, f25, f26]; constructor <;> rfl) (lag_list (l := []) (by kernel_rfl) rfl) ?_
  refine XK.nil ?_
  refine DK.ret ?_
  refine And.intro (Or.inr rfl) ?_
  refine ⟨_, by simp [absAnswer, absResults, absResult, Tryd.f20]; rfl, ?_⟩
  refine ⟨by first | exact ⟨[], (List.append_nil _).symm⟩ | exact ⟨_, rfl⟩, by simp, ?_⟩
  simp [planR]
  constructor <;> rfl
theorem rorder_s (x : At4) (hx : x.ok) (asks : List Nt) (hn : asks.length ≤ 100000000000) {s : Value} {H : Mem} (hR : RowAt H s asks) : FSem Tryd.prog [0] 13 #[x.v, s] H fun v H' => v = (orderR x asks).v ∧ H' = H := by
  refine FSem.plainT ?_
  refine FSem.ofK Tryd.func13 rfl ?_
  refine DK.from (b' := ⟨#[x.v, s, undef, undef, undef, undef, undef, undef, undef, undef, undef, undef, undef, undef, undef, undef, undef, undef, undef, undef, undef, undef, undef, undef, undef, undef, undef, undef, undef, undef, undef, undef, undef, undef, undef, undef, undef, undef, undef, undef, undef, undef, undef, undef, undef, undef, undef, undef, undef, undef, undef, undef, undef, undef, undef, undef, undef, undef, undef, undef, undef, undef, undef, undef, undef, undef, undef, undef, undef, undef, undef, undef, undef, undef, undef, undef, undef, undef, undef, undef, undef, undef, undef, undef, undef, undef, undef, undef, undef, undef, undef, undef, undef], []⟩) (by kernel_rfl) ?_
  obtain ⟨⟨k1, k2⟩, ⟨k3, k4⟩, ⟨k5, k6⟩, ⟨k7, k8⟩⟩ := hx
  have u1 : x.a.tmod 3 = x.a % 3 := tm _ _ (by omega)
  have u2 : x.k.tmod 14 = x.k % 14 := tm _ _ (by omega)
  have u3 : IntKind.i64.wrap (x.a % 3) = x.a % 3 := wrap_in _ (by omega) (by omega)
  have u4 : x.b.tmod 3 = x.b % 3 := tm _ _ (by omega)
  have u5 : IntKind.i64.wrap (x.b % 3) = x.b % 3 := wrap_in _ (by omega) (by omega)
  have u6 : x.b.tmod 5 = x.b % 5 := tm _ _ (by omega)
  have u7 : IntKind.u8.wrap (4 + x.b % 5) = 4 + x.b % 5 := wrap_u8 _ (by omega) (by omega)
  have u8 : x.c.tmod 40 = x.c % 40 := tm _ _ (by omega)
  have u9 : IntKind.i64.wrap (x.c % 40) = x.c % 40 := wrap_in _ (by omega) (by omega)
  have u10 : IntKind.i64.wrap (1 + x.c % 40) = 1 + x.c % 40 := wrap_in _ (by omega) (by omega)
  have u11 : x.c.tmod 9 = x.c % 9 := tm _ _ (by omega)
  have u12 : IntKind.i64.wrap (x.c % 9) = x.c % 9 := wrap_in _ (by omega) (by omega)
  have u13 : IntKind.i64.wrap (1 + x.c % 9) = 1 + x.c % 9 := wrap_in _ (by omega) (by omega)
  have u14 : IntKind.i64.wrap x.b = x.b := wrap_in _ (by omega) (by omega)
  have u15 : x.c.tmod 5 = x.c % 5 := tm _ _ (by omega)
  have u16 : 0 ≤ x.c % 5 := by omega
  have u17 : x.c % 5 < 5 := by omega
  have u18 : (x.c % 5).toNat + 1 ≤ 5 := by omega
  have u19 : List.take 1 (List.drop (x.c % 5).toNat [Value.int .u8 1, .int .u8 1, .int .u8 1, .int .u8 2, .int .u8 3]) = [.int .u8 (verR x.c)] := ver_take
  have u20 : (x.c % 5).toNat ≤ 4 := by omega
  have u21 : (x.c % 5).toNat < 5 := by omega
  have d := trivial
  have e := trivial
  have f := trivial
  have g := trivial
  have i := trivial
  have j := trivial
  have m := trivial
  have hln := lenNt hR
  refine DK.seq ?_
  refine DK.region (is := [0, 1]) (by kernel_rfl) rfl ?_
  refine WK.run [0, 1] (by simp [u1, u2, u3, u4, u5, u6, u7, u8, u9, u10, u11, u12, u13, u14, u15, u16, u17, u18, u19, u20, u21, hln]; constructor <;> rfl) ?_
  refine WK.nil ?_
  refine DK.seq ?_
  refine DK.region (is := [0, 1, 2, 3, 4]) (by kernel_rfl) rfl ?_
  refine WK.run [0, 1, 2, 3, 4] (by simp [u1, u2, u3, u4, u5, u6, u7, u8, u9, u10, u11, u12, u13, u14, u15, u16, u17, u18, u19, u20, u21, hln]; constructor <;> rfl) ?_
  refine WK.nil ?_
  refine DK.seq ?_
  refine DK.seq ?_
  refine DK.region (is := [0, 1, 2]) (by kernel_rfl) rfl ?_
  refine WK.run [0, 1, 2] (by simp [u1, u2, u3, u4, u5, u6, u7, u8, u9, u10, u11, u12, u13, u14, u15, u16, u17, u18, u19, u20, u21, hln]; constructor <;> rfl) ?_
  refine WK.nil ?_
  refine DK.block ?_
  refine DK.seq ?_
  refine DK.region (is := [0, 1]) (by kernel_rfl) rfl ?_
  refine WK.run [0, 1] (by simp [u1, u2, u3, u4, u5, u6, u7, u8, u9, u10, u11, u12, u13, u14, u15, u16, u17, u18, u19, u20, u21, hln]; constructor <;> rfl) ?_
  refine WK.nil ?_
  refine DK.test rfl rfl (fun h => ?_) (fun h => ?_)
  · try simp only [h]
    replace h := Tr.out h
    refine DK.seq ?_
    refine DK.region (is := [0, 1, 2, 3, 4]) (by kernel_rfl) rfl ?_
    refine WK.run [0, 1] (by simp [u1, u2, u3, u4, u5, u6, u7, u8, u9, u10, u11, u12, u13, u14, u15, u16, u17, u18, u19, u20, u21, hln]; constructor <;> rfl) ?_
    refine WK.call rfl (by simp [u1, u2, u3, u4, u5, u6, u7, u8, u9, u10, u11, u12, u13, u14, u15, u16, u17, u18, u19, u20, u21, hln]) (by simp [Tryd.func20, Tryd.f20, u1, u2, u3, u4, u5, u6, u7, u8, u9, u10, u11, u12, u13, u14, u15, u16, u17, u18, u19, u20, u21, hln]; constructor <;> rfl) ?_
    refine FSem.mono (rplan_s x.b (by omega) (by omega) _) ?_
    rintro _ _ ⟨rfl, rfl⟩
    refine WK.run [3, 4] (by simp [u1, u2, u3, u4, u5, u6, u7, u8, u9, u10, u11, u12, u13, u14, u15, u16, u17, u18, u19, u20, u21, hln]; constructor <;> rfl) ?_
    refine WK.nil ?_
    refine DK.ret ?_
    refine And.intro (Or.inr rfl) ?_
    refine ⟨_, by simp [absAnswer, absResults, absResult, Tryd.f13]; rfl, ?_⟩
    refine ⟨by first | exact ⟨[], (List.append_nil _).symm⟩ | exact ⟨_, rfl⟩, by simp, ?_⟩
    unfold orderR; simp_all [zeroP, zeroN]
  try simp only [h]
  replace h := Fa.out h
  refine DK.seq ?_
  refine DK.seq ?_
  refine DK.region (is := [0, 1]) (by kernel_rfl) rfl ?_
  refine WK.run [0, 1] (by simp [u1, u2, u3, u4, u5, u6, u7, u8, u9, u10, u11, u12, u13, u14, u15, u16, u17, u18, u19, u20, u21, hln]; constructor <;> rfl) ?_
  refine WK.nil ?_
  refine DK.test rfl rfl (fun h => ?_) (fun h => ?_)
  · try simp only [h]
    replace h := Tr.out h
    refine DK.skip ?_
    refine DK.yes rfl rfl ?_
    refine DK.seq ?_
    refine DK.region (is := [0, 1, 2, 3, 4, 5, 6]) (by kernel_rfl) rfl ?_
    refine WK.run [0, 1, 2, 3, 4, 5, 6] (by simp [u1, u2, u3, u4, u5, u6, u7, u8, u9, u10, u11, u12, u13, u14, u15, u16, u17, u18, u19, u20, u21, hln]; constructor <;> rfl) ?_
    refine WK.nil ?_
    refine DK.ret ?_
    refine And.intro (Or.inr rfl) ?_
    refine ⟨_, by simp [absAnswer, absResults, absResult, Tryd.f13]; rfl, ?_⟩
    refine ⟨by first | exact ⟨[], (List.append_nil _).symm⟩ | exact ⟨_, rfl⟩, by simp, ?_⟩
    unfold orderR; simp_all [zeroP, zeroN]
  try simp only [h]
  replace h := Fa.out h
  refine DK.region (is := [0, 1]) (by kernel_rfl) rfl ?_
  refine WK.run [0, 1] (by simp [u1, u2, u3, u4, u5, u6, u7, u8, u9, u10, u11, u12, u13, u14, u15, u16, u17, u18, u19, u20, u21, hln]; constructor <;> rfl) ?_
  refine WK.nil ?_
  refine DK.test rfl rfl (fun h => ?_) (fun h => ?_)
  · try simp only [h]
    replace h := Tr.out h
    refine DK.seq ?_
    refine DK.region (is := [0, 1, 2, 3, 4, 5, 6]) (by kernel_rfl) rfl ?_
    refine WK.run [0, 1, 2, 3, 4, 5, 6] (by simp [u1, u2, u3, u4, u5, u6, u7, u8, u9, u10, u11, u12, u13, u14, u15, u16, u17, u18, u19, u20, u21, hln]; constructor <;> rfl) ?_
    refine WK.nil ?_
    refine DK.ret ?_
    refine And.intro (Or.inr rfl) ?_
    refine ⟨_, by simp [absAnswer, absResults, absResult, Tryd.f13]; rfl, ?_⟩
    refine ⟨by first | exact ⟨[], (List.append_nil _).symm⟩ | exact ⟨_, rfl⟩, by simp, ?_⟩
    unfold orderR; simp_all [zeroP, zeroN]
  try simp only [h]
  replace h := Fa.out h
  refine DK.seq ?_
  refine DK.region (is := [0, 1]) (by kernel_rfl) rfl ?_
  refine WK.run [0, 1] (by simp [u1, u2, u3, u4, u5, u6, u7, u8, u9, u10, u11, u12, u13, u14, u15, u16, u17, u18, u19, u20, u21, hln]; constructor <;> rfl) ?_
  refine WK.nil ?_
  refine DK.test rfl rfl (fun h => ?_) (fun h => ?_)
  · try simp only [h]
    replace h := Tr.out h
    refine DK.seq ?_
    refine DK.region (is := [0, 1, 2, 3, 4, 5, 6]) (by kernel_rfl) rfl ?_
    refine WK.run [0, 1, 2, 3, 4, 5, 6] (by simp [u1, u2, u3, u4, u5, u6, u7, u8, u9, u10, u11, u12, u13, u14, u15, u16, u17, u18, u19, u20, u21, hln]; constructor <;> rfl) ?_
    refine WK.nil ?_
    refine DK.ret ?_
    refine And.intro (Or.inr rfl) ?_
    refine ⟨_, by simp [absAnswer, absResults, absResult, Tryd.f13]; rfl, ?_⟩
    refine ⟨by first | exact ⟨[], (List.append_nil _).symm⟩ | exact ⟨_, rfl⟩, by simp, ?_⟩
    unfold orderR; simp_all [zeroP, zeroN]
  try simp only [h]
  replace h := Fa.out h
  refine DK.seq ?_
  refine DK.region (is := [0, 1]) (by kernel_rfl) rfl ?_
  refine WK.run [0, 1] (by simp [u1, u2, u3, u4, u5, u6, u7, u8, u9, u10, u11, u12, u13, u14, u15, u16, u17, u18, u19, u20, u21, hln]; constructor <;> rfl) ?_
  refine WK.nil ?_
  refine DK.test rfl rfl (fun h => ?_) (fun h => ?_)
  · try simp only [h]
    replace h := Tr.out h
    refine DK.seq ?_
    refine DK.region (is := [0, 1, 2, 3, 4, 5, 6]) (by kernel_rfl) rfl ?_
    refine WK.run [0, 1, 2, 3, 4, 5, 6] (by simp [u1, u2, u3, u4, u5, u6, u7, u8, u9, u10, u11, u12, u13, u14, u15, u16, u17, u18, u19, u20, u21, hln]; constructor <;> rfl) ?_
    refine WK.nil ?_
    refine DK.ret ?_
    refine And.intro (Or.inr rfl) ?_
    refine ⟨_, by simp [absAnswer, absResults, absResult, Tryd.f13]; rfl, ?_⟩
    refine ⟨by first | exact ⟨[], (List.append_nil _).symm⟩ | exact ⟨_, rfl⟩, by simp, ?_⟩
    unfold orderR; simp_all [zeroP, zeroN]
  try simp only [h]
  replace h := Fa.out h
  refine DK.seq ?_
  refine DK.region (is := [0, 1]) (by kernel_rfl) rfl ?_
  refine WK.run [0, 1] (by simp [u1, u2, u3, u4, u5, u6, u7, u8, u9, u10, u11, u12, u13, u14, u15, u16, u17, u18, u19, u20, u21, hln]; constructor <;> rfl) ?_
  refine WK.nil ?_
  refine DK.test rfl rfl (fun h => ?_) (fun h => ?_)
  · try simp only [h]
    replace h := Tr.out h
    refine DK.seq ?_
    refine DK.region (is := [0, 1, 2]) (by kernel_rfl) rfl ?_
    refine WK.run [0, 1, 2] (by simp [u1, u2, u3, u4, u5, u6, u7, u8, u9, u10, u11, u12, u13, u14, u15, u16, u17, u18, u19, u20, u21, hln]; constructor <;> rfl) ?_
    refine WK.nil ?_
    refine DK.ret ?_
    refine And.intro (Or.inr rfl) ?_
    refine ⟨_, by simp [absAnswer, absResults, absResult, Tryd.f13]; rfl, ?_⟩
    refine ⟨by first | exact ⟨[], (List.append_nil _).symm⟩ | exact ⟨_, rfl⟩, by simp, ?_⟩
    unfold orderR; simp_all [zeroP, zeroN]
  try simp only [h]
  replace h := Fa.out h
  refine DK.seq ?_
  refine DK.seq ?_
  refine DK.region (is := [0, 1]) (by kernel_rfl) rfl ?_
  refine WK.run [0, 1] (by simp [u1, u2, u3, u4, u5, u6, u7, u8, u9, u10, u11, u12, u13, u14, u15, u16, u17, u18, u19, u20, u21, hln]; constructor <;> rfl) ?_
  refine WK.nil ?_
  refine DK.test rfl rfl (fun h => ?_) (fun h => ?_)
  · try simp only [h]
    replace h := Tr.out h
    refine DK.skip ?_
    refine DK.yes rfl rfl ?_
    refine DK.seq ?_
    refine DK.region (is := [0, 1, 2, 3, 4, 5, 6]) (by kernel_rfl) rfl ?_
    refine WK.run [0, 1, 2, 3, 4, 5, 6] (by simp [u1, u2, u3, u4, u5, u6, u7, u8, u9, u10, u11, u12, u13, u14, u15, u16, u17, u18, u19, u20, u21, hln]; constructor <;> rfl) ?_
    refine WK.nil ?_
    refine DK.ret ?_
    refine And.intro (Or.inr rfl) ?_
    refine ⟨_, by simp [absAnswer, absResults, absResult, Tryd.f13]; rfl, ?_⟩
    refine ⟨by first | exact ⟨[], (List.append_nil _).symm⟩ | exact ⟨_, rfl⟩, by simp, ?_⟩
    unfold orderR; simp_all [zeroP, zeroN]
  try simp only [h]
  replace h := Fa.out h
  refine DK.seq ?_
  refine DK.region (is := [0, 1]) (by kernel_rfl) rfl ?_
  refine WK.run [0, 1] (by simp [u1, u2, u3, u4, u5, u6, u7, u8, u9, u10, u11, u12, u13, u14, u15, u16, u17, u18, u19, u20, u21, hln]; constructor <;> rfl) ?_
  refine WK.nil ?_
  refine DK.test rfl rfl (fun h => ?_) (fun h => ?_)
  · try simp only [h]
    replace h := Tr.out h
    refine DK.skip ?_
    refine DK.yes rfl rfl ?_
    refine DK.seq ?_
    refine DK.region (is := [0, 1, 2, 3, 4, 5, 6]) (by kernel_rfl) rfl ?_
    refine WK.run [0, 1, 2, 3, 4, 5, 6] (by simp [u1, u2, u3, u4, u5, u6, u7, u8, u9, u10, u11, u12, u13, u14, u15, u16, u17, u18, u19, u20, u21, hln]; constructor <;> rfl) ?_
    refine WK.nil ?_
    refine DK.ret ?_
    refine And.intro (Or.inr rfl) ?_
    refine ⟨_, by simp [absAnswer, absResults, absResult, Tryd.f13]; rfl, ?_⟩
    refine ⟨by first | exact ⟨[], (List.append_nil _).symm⟩ | exact ⟨_, rfl⟩, by simp, ?_⟩
    unfold orderR; simp_all [zeroP, zeroN]
  try simp only [h]
  replace h := Fa.out h
  refine DK.region (is := [0, 1]) (by kernel_rfl) rfl ?_
  refine WK.run [0, 1] (by simp [u1, u2, u3, u4, u5, u6, u7, u8, u9, u10, u11, u12, u13, u14, u15, u16, u17, u18, u19, u20, u21, hln]; constructor <;> rfl) ?_
  refine WK.nil ?_
  refine DK.test rfl rfl (fun h => ?_) (fun h => ?_)
  · try simp only [h]
    replace h := Tr.out h
    refine DK.seq ?_
    refine DK.region (is := [0, 1, 2, 3, 4, 5, 6]) (by kernel_rfl) rfl ?_
    refine WK.run [0, 1, 2, 3, 4, 5, 6] (by simp [u1, u2, u3, u4, u5, u6, u7, u8, u9, u10, u11, u12, u13, u14, u15, u16, u17, u18, u19, u20, u21, hln]; constructor <;> rfl) ?_
    refine WK.nil ?_
    refine DK.ret ?_
    refine And.intro (Or.inr rfl) ?_
    refine ⟨_, by simp [absAnswer, absResults, absResult, Tryd.f13]; rfl, ?_⟩
    refine ⟨by first | exact ⟨[], (List.append_nil _).symm⟩ | exact ⟨_, rfl⟩, by simp, ?_⟩
    unfold orderR; simp_all [zeroP, zeroN]
  try simp only [h]
  replace h := Fa.out h
  refine DK.skip ?_
  refine DK.seq ?_
  refine DK.seq ?_
  refine DK.region (is := [0, 1, 2]) (by kernel_rfl) rfl ?_
  refine WK.run [0, 1, 2] (by simp [u1, u2, u3, u4, u5, u6, u7, u8, u9, u10, u11, u12, u13, u14, u15, u16, u17, u18, u19, u20, u21, hln]; constructor <;> rfl) ?_
  refine WK.nil ?_
  refine DK.test rfl rfl (fun h => ?_) (fun h => ?_)
  · try simp only [h]
    replace h := Tr.out h
    refine DK.seq ?_
    refine DK.region (is := [0, 1, 2, 3, 4, 5, 6]) (by kernel_rfl) rfl ?_
    refine WK.run [0, 1, 2, 3, 4, 5, 6] (by simp [u1, u2, u3, u4, u5, u6, u7, u8, u9, u10, u11, u12, u13, u14, u15, u16, u17, u18, u19, u20, u21, hln]; constructor <;> rfl) ?_
    refine WK.nil ?_
    refine DK.ret ?_
    refine And.intro (Or.inr rfl) ?_
    refine ⟨_, by simp [absAnswer, absResults, absResult, Tryd.f13]; rfl, ?_⟩
    refine ⟨by first | exact ⟨[], (List.append_nil _).symm⟩ | exact ⟨_, rfl⟩, by simp, ?_⟩
    unfold orderR; simp_all [zeroP, zeroN]
  try simp only [h]
  replace h := Fa.out h
  have hl0 : 0 < asks.length := by omega
  replace g : 0 ≤ x.b % asks.length := Int.emod_nonneg _ (by omega)
  replace i : x.b % asks.length < asks.length := Int.emod_lt_of_pos _ (by omega)
  replace j : x.b.tmod asks.length = x.b % asks.length := tm _ _ (by omega)
  replace m : ¬ (asks = []) := by rintro rfl; simp at hl0
  have hil : (x.b % asks.length).toNat < asks.length := by omega
  obtain ⟨b, o, ro, vs, rfl, hb, hle1, hge1⟩ := hR.blk hil
  replace d : ∀ r : Mem, (H ++ r)[b]? = some (.cells ro vs) := fun r => by rw [List.getElem?_append_left (List.getElem?_eq_some_iff.1 hb).1]; exact hb
  replace e : o + (x.b % asks.length).toNat * 6 + 6 ≤ vs.length := hle1
  replace f : List.take 6 (List.drop (o + (x.b % asks.length).toNat * 6) vs) = (asks[(x.b % asks.length).toNat]).l := hge1
  have hgd : asks.getD (x.b % asks.length).toNat zeroN = asks[(x.b % asks.length).toNat] := by simp [List.getD_eq_getElem?_getD, List.getElem?_eq_getElem hil]
  refine DK.skip ?_
  refine DK.seq ?_
  refine DK.region (is := [0, 1, 2, 3, 4, 5, 6, 7, 8, 9, 10]) (by kernel_rfl) rfl ?_
  refine WK.run [0, 1, 2, 3, 4, 5, 6, 7, 8, 9] (by simp [u1, u2, u3, u4, u5, u6, u7, u8, u9, u10, u11, u12, u13, u14, u15, u16, u17, u18, u19, u20, u21, d, e, f, g, i, j, m, hln]; constructor <;> rfl) ?_
  refine WK.run [10] (by simp [u1, u2, u3, u4, u5, u6, u7, u8, u9, u10, u11, u12, u13, u14, u15, u16, u17, u18, u19, u20, u21, d, e, f, g, i, j, m, hln]; constructor <;> rfl) ?_
  refine WK.nil ?_
  refine DK.seq ?_
  refine DK.region (is := [0, 1, 2, 3, 4, 5, 6, 7]) (by kernel_rfl) rfl ?_
  refine WK.run [0, 1, 2, 3, 4, 5, 6, 7] (by simp [u1, u2, u3, u4, u5, u6, u7, u8, u9, u10, u11, u12, u13, u14, u15, u16, u17, u18, u19, u20, u21, d, e, f, g, i, j, m, hln]; constructor <;> rfl) ?_
  refine WK.nil ?_
  refine DK.seq ?_
  refine DK.seq ?_
  refine DK.region (is := [0, 1, 2]) (by kernel_rfl) rfl ?_
  refine WK.run [0, 1, 2] (by simp [u1, u2, u3, u4, u5, u6, u7, u8, u9, u10, u11, u12, u13, u14, u15, u16, u17, u18, u19, u20, u21, d, e, f, g, i, j, m, hln]; constructor <;> rfl) ?_
  refine WK.nil ?_
  refine DK.test rfl rfl (fun h => ?_) (fun h => ?_)
  · try simp only [h]
    replace h := Tr.out h
    refine DK.region (is := [0, 1, 2, 3, 4]) (by kernel_rfl) rfl ?_
    refine WK.run [0, 1, 2, 3, 4] (by simp [u1, u2, u3, u4, u5, u6, u7, u8, u9, u10, u11, u12, u13, u14, u15, u16, u17, u18, u19, u20, u21, d, e, f, g, i, j, m, hln]; constructor <;> rfl) ?_
    refine WK.nil ?_
    refine DK.seq ?_
    refine DK.region (is := [0, 1, 2]) (by kernel_rfl) rfl ?_
    refine WK.run [0, 1, 2] (by simp [u1, u2, u3, u4, u5, u6, u7, u8, u9, u10, u11, u12, u13, u14, u15, u16, u17, u18, u19, u20, u21, d, e, f, g, i, j, m, hln]; constructor <;> rfl) ?_
    refine WK.nil ?_
    refine DK.ret ?_
    refine And.intro (Or.inr rfl) ?_
    refine ⟨_, by simp [absAnswer, absResults, absResult, Tryd.f13]; rfl, ?_⟩
    refine ⟨by first | exact ⟨[], (List.append_nil _).symm⟩ | exact ⟨_, rfl⟩, by simp, ?_⟩
    unfold orderR; simp_all [zeroP, zeroN]
  try simp only [h]
  replace h := Fa.out h
  refine DK.skip ?_
  refine DK.seq ?_
  refine DK.region (is := [0, 1, 2]) (by kernel_rfl) rfl ?_
  refine WK.run [0, 1, 2] (by simp [u1, u2, u3, u4, u5, u6, u7, u8, u9, u10, u11, u12, u13, u14, u15, u16, u17, u18, u19, u20, u21, d, e, f, g, i, j, m, hln]; constructor <;> rfl) ?_
  refine WK.nil ?_
  refine DK.ret ?_
  refine And.intro (Or.inr rfl) ?_
  refine ⟨_, by simp [absAnswer, absResults, absResult, Tryd.f13]; rfl, ?_⟩
  refine ⟨by first | exact ⟨[], (List.append_nil _).symm⟩ | exact ⟨_, rfl⟩, by simp, ?_⟩
  unfold orderR; simp_all [zeroP, zeroN]
end Go.Den
set_option linter.unusedVariables false
set_option maxRecDepth 100000
namespace Go.Den
open Go Go.Proofs
theorem step_g (k : Nat) (b : Bk) (o : Od) {sp : Value} {l : List As} {H : Mem} (hB : BkAt H sp l b) (hL : Lad H) (hk : BOk k b) (hk3 : k ≤ 300000000) (hu : UnOk b.pls) : FSem Tryd.prog [0] 16 #[bkv b.today sp l, o.v] H fun v H' => ∃ b' e sp' l', v = .tuple #[bkv b'.today sp' l', .int .i64 e] ∧ stepB b o = (b', e) ∧ BkAt H' sp' l' b' ∧ l'.length = 32 ∧ sp'.cells = #[sp'] ∧ sp'.oneCell' = true ∧ Keep H H' ∧ ∀ c, blkOf sp' = some c → blkOf sp = some c ∨ H.length ≤ c := by
  refine FSem.mono (step_s k b o hB hL hk hk3 hu) ?_
  rintro v H' ⟨sp', l', rfl, h, hk, hs⟩
  exact ⟨_, _, sp', l', rfl, rfl, h, h.len, h.pls.cells.1, h.pls.cells.2, hk, hs⟩
theorem plain_bk0 (t : Int) : plainV (bkv t (.slice none 0 0) zL) = true := by kernel_rfl
theorem newb_g (t : Int) (H : Mem) : FSem Tryd.prog [0] 12 #[.int .i64 t] H fun v H' => v = bkv t (.slice none 0 0) zL ∧ H = H' := by
  refine FSem.mono (FSem.plainT (K := fun v => v = bkv t (.slice none 0 0) zL) (FSem.mono (newb_s t H) ?_)) ?_
  · rintro v H' ⟨rfl, h⟩
    exact ⟨h, plain_bk0 t, rfl⟩
  · rintro v H' ⟨h1, h2⟩
    exact ⟨h1, h2.symm⟩
theorem rorder_g (x : At4) (hx : x.ok) (asks : List Nt) (hn : asks.length ≤ 100000000000) {s : Value} {H : Mem} (hR : RowAt H s asks) : FSem Tryd.prog [0] 13 #[x.v, s] H fun v H' => ∃ o : Od, v = o.v ∧ orderR x asks = o ∧ H = H' := by
  refine FSem.mono (rorder_s x hx asks hn hR) ?_
  rintro v H' ⟨rfl, rfl⟩
  exact ⟨_, rfl, rfl, rfl⟩
theorem take_sub {m f k n : Nat} {L X : List Value} (h : List.take m (List.drop n L) = X) (hfk : f + k ≤ m) : List.take k (List.drop (n + f) L) = List.take k (List.drop f X) := by
  rw [← h, List.drop_take, List.take_take, Nat.min_eq_left (by omega), List.drop_drop]
theorem sameL_app : ∀ (xs ys : List Value), sameL xs xs = true → sameL ys ys = true → sameL (xs ++ ys) (xs ++ ys) = true
  | [], ys, _, h => h
  | x :: xs, ys, h1, h2 => by
    simp only [sameL, Bool.and_eq_true, List.cons_append] at h1 ⊢
    exact ⟨h1.1, sameL_app xs ys h1.2 h2⟩
theorem rows_same {H : Mem} : ∀ l : List As, (∀ x ∈ l, OpenAt H x.s x.a.op) → sameL (rowV l) (rowV l) = true
  | [], _ => rfl
  | x :: l, h => by
    rw [rowV_cons]
    refine sameL_app _ _ ?_ (rows_same l fun y hy => h y (by simp [hy]))
    show sameL (x.a.l x.s) (x.a.l x.s) = true
    have := (h x (by simp)).same.1
    simp [sameL, this, same1_int, same1_bool]
theorem bk_same {H : Mem} {sp : Value} {l : List As} {b : Bk} (h : BkAt H sp l b) (t : Int) : sameL (BkL t sp l) (BkL t sp l) = true := by
  unfold BkL
  simp only [sameL, same1_int, h.pls.same.1, decide_true, Bool.true_and]
  exact rows_same l h.op
def p0 : Pl := ⟨100, 0, 30, 0, false, false⟩
def b1 : Bk := ⟨0, [p0], List.replicate 32 zeroA⟩
def a2 : Ac := ⟨1, 0, 0, 1, 1, 0, false, [⟨0, 0, 1, 100, 0, 1, 0, false⟩], 0, 0, 0, 0, 0⟩
def b2 : Bk := ⟨0, [p0], (List.replicate 32 zeroA).set 0 a2⟩
theorem awk1 : stepB (newB 0) ⟨1, 0, 0, 0, p0, zeroN⟩ = (b1, 0) := by
  unfold stepB
  rw [if_neg (by decide), if_pos rfl, if_neg (by decide)]
  rfl
theorem nth00 : nthF 0 0 30 0 = (0, 0) := by
  unfold nthF; rw [if_pos (by decide), nthO_zero (by decide) (by decide)]; rfl
theorem nth01 : nthF 0 0 30 1 = (30, 0) := by
  unfold nthF; rw [if_pos (by decide)]
  simp [nthO, Sea.nth, Sea.off, Sea.dayAdd, Sea.out]
theorem awkd : dayA (openAc 0 p0 0) p0 0 = (a2, 0) := by
  unfold dayA
  have e0 : dueA { openAc 0 p0 0 with op := (openAc 0 p0 0).op.map (fun c => wakeC c 0) } p0 = (0, 0) := nth00
  have hb : beginA { { openAc 0 p0 0 with op := (openAc 0 p0 0).op.map (fun c => wakeC c 0) } with ix := IntKind.i64.wrap ((openAc 0 p0 0).ix + 1) } p0 0 false = (a2, 0) := by decide +kernel
  rw [dayL_go (x := { openAc 0 p0 0 with op := (openAc 0 p0 0).op.map (fun c => wakeC c 0) }) (x2 := a2) (e2 := 0) (by decide) (by decide) (by rw [e0]) (by rw [e0]; decide) false (by simp [p0]) (by rw [e0]; exact hb)]
  simp only [ne_eq, not_true_eq_false, if_false]
  exact dayL_no _ (.inr (by show 0 < (nthF 0 0 30 1).1; rw [nth01]; decide))
theorem awk2 : stepB b1 ⟨2, 0, 0, 0, zeroP, zeroN⟩ = (b2, 0) := by
  unfold stepB
  rw [if_neg (by decide), if_neg (by decide), if_pos rfl]
  have : openB b1 ⟨2, 0, 0, 0, zeroP, zeroN⟩ = (a2, 0) := by
    unfold openB
    dsimp only
    rw [if_neg (by decide), if_neg (by decide), if_neg (by decide)]
    exact awkd
  rw [this]; rfl
theorem awk3 : b2.asks = [⟨1, 0, 0, 1, 100, 0⟩] := by decide +kernel
theorem hok0 : BOk 8000000 (newB 0) := ⟨(newB_ok 0).1.pls, fun a ha => ⟨((newB_ok 0).1.subs a ha).1, Nat.le_trans ((newB_ok 0).1.subs a ha).2 (by decide)⟩, (newB_ok 0).1.len⟩
theorem hok1 : BOk 8000000 b1 := ⟨by decide, fun a ha => by rw [List.eq_of_mem_replicate ha]; exact ⟨by decide, by simp [zeroA]⟩, by decide⟩
theorem hun1 : UnOk b1.pls := by intro p hp; simp [b1] at hp; subst hp; decide
theorem hok2 : BOk 12000000 b2 := by
  have := stepB_ok hok1 (show (stepB b1 ⟨2, 0, 0, 0, zeroP, zeroN⟩).2 = 0 by rw [awk2])
  rw [awk2] at this
  exact ⟨this.pls, fun a ha => ⟨(this.subs a ha).1, Nat.le_trans (this.subs a ha).2 (by decide)⟩, this.len⟩
end Go.Den
namespace Go.Den
open Go Go.Proofs
set_option maxRecDepth 100000
set_option maxHeartbeats 1000000
set_option linter.all false
attribute [local simp] evOps evOp absOp absBox absLoad absStore absField absIndexAddr absCells absBinOp absBin absInt absShift absUn absPick absNil absExtract absPlaces Instr.fill absBuiltin absMinMax plainV plainT allA flat cells_agg cells_int cells_bool cells_str cells_ptr cells_sl cells_map one_int one_bool one_str one_ptr one_sl one_map Act.eval Act.put Region.wanted yielded absCall TypeDesc.isRow
attribute [local simp high] bk_t bk_p bk_take bk_row BkL_len sp_bk sp_t sp_p
attribute [local simp] sp_nil sp_0 sp_s List.length_set
theorem awake_s {H : Mem} (hL : Lad H) : FSem Tryd.prog [0] 11 #[] H fun v H' => v = .bool true ∧ H' = H := by
  refine FSem.plainT ?_
  refine FSem.ofK Tryd.func11 rfl ?_
  refine DK.from (b' := ⟨#[undef, undef, undef, undef, undef, undef, undef, undef, undef, undef, undef, undef, undef, undef, undef, undef, undef, undef, undef, undef, undef, undef, undef, undef, undef, undef, undef, undef, undef, undef, undef, undef, undef, undef, undef, undef, undef, undef, undef, undef, undef, undef, undef, undef, undef, undef, undef, undef, undef, undef, undef, undef, undef, undef, undef, undef], []⟩) (by kernel_rfl) ?_
  have r := trivial
  have u := trivial
  have w := trivial
  have y := trivial
  have z := trivial
  have m := trivial
  have q := trivial
  have L := trivial
  have a := trivial
  have c := trivial
  have d := trivial
  have e := trivial
  have l := trivial
  have g := trivial
  have j := trivial
  have p := trivial
  have A := trivial
  have B := trivial
  have N := trivial
  have o := trivial
  have C := trivial
  have D := trivial
  have O := trivial
  have E := trivial
  have S := trivial
  have F := trivial
  have n := trivial
  have hL2 := hL
  have hkH := Keep.refl H
  refine DK.seq ?_
  refine DK.region (is := [0]) (by kernel_rfl) rfl ?_
  refine WK.run [0] (by simp [p0, zeroN, zeroP]; constructor <;> rfl) ?_
  refine WK.nil ?_
  refine DK.seq ?_
  refine DK.region (is := [0, 1, 2]) (by kernel_rfl) rfl ?_
  refine WK.call rfl (by simp [p0, zeroN, zeroP]) (by simp [Tryd.func12, Tryd.f12, p0, zeroN, zeroP]; constructor <;> rfl) ?_
  refine FSem.mono (newb_g 0 _) ?_
  rintro _ Hq ⟨rfl, hq⟩
  subst hq
  refine WK.run [1, 2] (by simp [p0, zeroN, zeroP]; constructor <;> rfl) ?_
  refine WK.nil ?_
  refine DK.abs (fun M0 => Keep H M0 ∧ M0[H.length]? = some (.cells false (BkL 0 (.slice none 0 0) zL))) ⟨Keep.app _ _, mem_app _ _⟩ ?_
  rintro M0 ⟨hkk, h_c1⟩
  replace m := h_c1
  replace hL2 := hL2.keep hkk
  replace hkH := hkH.keep hkk
  replace n := BkAt.new M0 0
  refine DK.seq ?_
  refine DK.region (is := [0, 1, 2, 3, 4, 5, 6, 7, 8, 9]) (by kernel_rfl) rfl ?_
  refine WK.run [0, 1, 2] (by simp [m, p0, zeroN, zeroP]; constructor <;> rfl) ?_
  refine WK.call rfl (by simp [m, p0, zeroN, zeroP]) (by simp [Tryd.func16, Tryd.f16, m, p0, zeroN, zeroP]; constructor <;> rfl) ?_
  refine FSem.mono (step_g 8000000 (newB 0) ⟨1, 0, 0, 0, p0, zeroN⟩ n hL2 hok0 (by decide) (newB_ok 0).2) ?_
  rintro _ M1 ⟨b', e', sp1, l1, rfl, hres, n, hl, hs0, hs1, hkk, hsb⟩
  rw [awk1] at hres
  obtain ⟨rfl, rfl⟩ := Prod.mk.inj hres
  replace l := hl
  replace d := hs0
  replace e := hs1
  replace a := bk_ones hs1
  replace m := hkk.cell m
  replace hL2 := hL2.keep hkk
  replace hkH := hkH.keep hkk
  refine WK.run [4, 5, 6, 7, 8, 9] (by simp [m, a, d, e, l, p0, zeroN, zeroP]; constructor <;> rfl) ?_
  refine WK.nil ?_
  refine DK.abs (fun M2 => Keep M1 M2 ∧ M2[M1.length]? = some (.cells false (BkL b1.today sp1 l1))) ⟨Keep.app _ _, mem_app _ _⟩ ?_
  rintro M2 ⟨hkk, h_c2⟩
  replace q := h_c2
  replace m := hkk.cell m
  replace hL2 := hL2.keep hkk
  replace n := n.keep hkk
  replace hkH := hkH.keep hkk
  refine DK.seq ?_
  refine DK.region (is := [0, 1, 2, 3, 4, 5, 6, 7, 8]) (by kernel_rfl) rfl ?_
  refine WK.run [0, 1] (by simp [m, q, a, d, e, l, p0, zeroN, zeroP]; constructor <;> rfl) ?_
  refine WK.call rfl (by simp [m, q, a, d, e, l, p0, zeroN, zeroP]) (by simp [Tryd.func16, Tryd.f16, m, q, a, d, e, l, p0, zeroN, zeroP]; constructor <;> rfl) ?_
  refine FSem.mono (step_g 8000000 b1 ⟨2, 0, 0, 0, zeroP, zeroN⟩ n hL2 hok1 (by decide) hun1) ?_
  rintro _ M3 ⟨b', e', sp2, l2, rfl, hres, n, hl, hs0, hs1, hkk, hsb⟩
  rw [awk2] at hres
  obtain ⟨rfl, rfl⟩ := Prod.mk.inj hres
  replace p := hl
  replace g := hs0
  replace j := hs1
  replace c := bk_ones hs1
  replace m := hkk.cell m
  replace q := hkk.cell q
  replace hL2 := hL2.keep hkk
  replace hkH := hkH.keep hkk
  refine WK.run [3, 4, 5, 6, 7, 8] (by simp [m, q, a, c, d, e, l, g, j, p, p0, zeroN, zeroP]; constructor <;> rfl) ?_
  refine WK.nil ?_
  refine DK.abs (fun M4 => Keep M3 M4 ∧ M4[M3.length]? = some (.cells false (BkL b2.today sp2 l2))) ⟨Keep.app _ _, mem_app _ _⟩ ?_
  rintro M4 ⟨hkk, h_c3⟩
  replace L := h_c3
  replace m := hkk.cell m
  replace q := hkk.cell q
  replace hL2 := hL2.keep hkk
  replace n := n.keep hkk
  replace hkH := hkH.keep hkk
  refine DK.seq ?_
  refine DK.region (is := [0, 1, 2]) (by kernel_rfl) rfl ?_
  refine WK.run [0] (by simp [m, q, L, a, c, d, e, l, g, j, p, p0, zeroN, zeroP]; constructor <;> rfl) ?_
  refine WK.call rfl (by simp [m, q, L, a, c, d, e, l, g, j, p, p0, zeroN, zeroP]) (by simp [Tryd.func14, Tryd.f14, m, q, L, a, c, d, e, l, g, j, p, p0, zeroN, zeroP]; constructor <;> rfl) ?_
  refine FSem.mono (basks_s 12000000 b2 n hok2 (by decide)) ?_
  rintro _s5 M5 ⟨hA, hR, hW, hN⟩
  have hkk := Keep.of hA
  replace m := hkk.cell m
  replace q := hkk.cell q
  replace L := hkk.cell L
  replace hL2 := hL2.keep hkk
  replace n := n.keep hkk
  replace hkH := hkH.keep hkk
  rw [awk3] at hR
  replace C := hR.cells.1
  replace D := hR.cells.2
  replace F := lenNt hR
  obtain ⟨b, of, ro, vs, rfl, hb, hle, hge⟩ := hR.blk (i := 0) (by decide)
  replace B := hb
  replace o : of + 6 ≤ vs.length := hle
  replace r : List.take 1 (List.drop of vs) = [.int .u8 1] := take_sub (f := 0) (k := 1) hge (by decide)
  replace w : List.take 1 (List.drop (of + 4) vs) = [.int .i64 100] := take_sub (f := 4) (k := 1) hge (by decide)
  replace u : of + 1 ≤ vs.length := by omega
  replace y : of + 5 ≤ vs.length := by omega
  replace z : of + 4 + 1 ≤ vs.length := by omega
  obtain ⟨x, hxa, hxl, hxo, htk1, hst, hpt⟩ := n.sub (i := 0) (by decide) (by decide)
  replace A : List.take 1 (List.drop 9 (BkL b2.today sp2 l2)) = [x.s] := take_sub (f := 7) (k := 1) (htk1 b2.today) (by decide)
  replace E : ∀ K, absLen Tryd.prog K 28 x.s = some (.int .i64 1) := fun K => by rw [hxo.lenK K, hxa]; rfl
  refine WK.run [2] (by simp [r, u, w, y, z, m, q, L, a, c, d, e, l, g, j, p, A, B, o, C, D, E, F, p0, zeroN, zeroP]; constructor <;> rfl) ?_
  refine WK.nil ?_
  refine DK.seq ?_
  refine DK.region (is := [0, 1, 2, 3, 4, 5, 6, 7, 8, 9, 10, 11, 12, 13, 14, 15, 16, 17, 18, 19, 20, 21, 22, 23, 24, 25, 26, 27, 28, 29, 30, 31, 32, 33]) (by kernel_rfl) rfl ?_
  refine WK.run [0, 1, 2] (by simp [r, u, w, y, z, m, q, L, a, c, d, e, l, g, j, p, A, B, o, C, D, E, F, p0, zeroN, zeroP]; constructor <;> rfl) ?_
  refine WK.split (t := 25) rfl (fun h => ?_) (fun h => ?_)
  · try simp only [h]
    replace h := Tr.out h
    refine WK.run [3, 4, 5, 6] (by simp [r, u, w, y, z, m, q, L, a, c, d, e, l, g, j, p, A, B, o, C, D, E, F, p0, zeroN, zeroP]; constructor <;> rfl) ?_
    refine WK.split (t := 29) rfl (fun h => ?_) (fun h => ?_)
    · try simp only [h]
      replace h := Tr.out h
      refine WK.run [7, 8, 9, 10, 11, 12, 13, 14] (by simp [r, u, w, y, z, m, q, L, a, c, d, e, l, g, j, p, A, B, o, C, D, E, F, p0, zeroN, zeroP]; constructor <;> rfl) ?_
      refine WK.split (t := 37) rfl (fun h => ?_) (fun h => ?_)
      · try simp only [h]
        replace h := Tr.out h
        refine WK.run [15, 16, 17, 18, 19] (by simp [r, u, w, y, z, m, q, L, a, c, d, e, l, g, j, p, A, B, o, C, D, E, F, p0, zeroN, zeroP]; constructor <;> rfl) ?_
        refine WK.split (t := 42) rfl (fun h => ?_) (fun h => ?_)
        · try simp only [h]
          replace h := Tr.out h
          refine WK.run [20, 21, 22, 23, 24, 25, 26] (by simp [r, u, w, y, z, m, q, L, a, c, d, e, l, g, j, p, A, B, o, C, D, E, F, p0, zeroN, zeroP]; constructor <;> rfl) ?_
          refine WK.split (t := 49) rfl (fun h => ?_) (fun h => ?_)
          · try simp only [h]
            replace h := Tr.out h
            refine WK.run [27, 28, 29, 30, 31, 32, 33] (by simp [r, u, w, y, z, m, q, L, a, c, d, e, l, g, j, p, A, B, o, C, D, E, F, p0, zeroN, zeroP]; constructor <;> rfl) ?_
            refine WK.nil ?_
            refine DK.ret ?_
            refine And.intro (Or.inr rfl) ?_
            refine ⟨_, by simp [absAnswer, absResults, absResult, Tryd.f11]; rfl, ?_⟩
            exact ⟨hkH.ext, by simp, by simp⟩
          try simp only [h]
          replace h := Fa.out h
          cases h
        try simp only [h]
        replace h := Fa.out h
        cases h
      try simp only [h]
      replace h := Fa.out h
      cases h
    try simp only [h]
    replace h := Fa.out h
    cases h
  try simp only [h]
  replace h := Fa.out h
  cases h
end Go.Den
namespace Go.Den
open Go Go.Proofs
set_option maxRecDepth 100000
set_option maxHeartbeats 8000000
set_option linter.all false
attribute [local simp] evOps evOp absOp absBox absLoad absStore absField absCells absBinOp absBin absInt absShift absUn absPick absNil absExtract absPlaces Instr.fill absBuiltin absMinMax plainV plainT allA flat cells_agg cells_int cells_bool cells_str cells_ptr cells_sl cells_map one_int one_bool one_str one_ptr one_sl one_map Act.eval Act.put Region.wanted yielded absCall TypeDesc.isRow
attribute [local simp high] bk_t bk_p bk_take bk_row BkL_len sp_bk sp_t sp_p
attribute [local simp] sp_nil sp_0 sp_s List.length_set
theorem iz23 (H : Mem) (n q len c : Nat) (k : IntKind) (i : Int) : absIndexAddr Tryd.prog H 23 (.slice (some ⟨n, q, none⟩) len c) (.int k i) = if 0 ≤ i ∧ i < len then some (.pointer (some ⟨n, q + i.toNat * 4, none⟩)) else none := by
  simp [absIndexAddr, Tryd.underlying23]
theorem beqS (l : List UInt8) : l.beq l = true := beq_self_eq_true l
attribute [local simp] iz23 beqS absStr
theorem bytes_law (t : Int) (ht0 : 0 ≤ t) (ht1 : t < 65536) (acts : List At4) (hao : ∀ a ∈ acts, a.ok) (more : List At4) (hmo : ∀ a ∈ more, a.ok) {sa sm : Value} {H : Mem} (hL : Lad H) (hA : RowAt H sa acts) (hM0 : RowAt H sm more) : FSem Tryd.prog [0] 9 #[.int .u16 t, sa, sm] H fun v H' => v = .bool true ∧ H' = H := by
  refine FSem.plainT ?_
  refine FSem.ofK Tryd.func9 rfl ?_
  refine DK.from (b' := ⟨#[.int .u16 t, sa, sm, undef, undef, undef, undef, undef, undef, undef, undef, undef, undef, undef, undef, undef, undef, undef, undef, undef, undef, undef, undef, undef, undef, undef, undef, undef, undef, undef, undef, undef, undef, undef, undef, undef, undef, undef, undef, undef, undef, undef, undef, undef, undef, undef, undef, undef, undef, undef, undef, undef, undef, undef, undef, undef, undef, undef, undef, undef, undef, undef, undef, undef, undef, undef, undef, undef, undef, undef, undef, undef, undef, undef, undef, undef, undef, undef, undef, undef, undef, undef, undef, undef, undef, undef, undef, undef, undef, undef, undef, undef, undef, undef, undef, undef, undef, undef, undef, undef, undef, undef, undef, undef, undef, undef, undef, undef, undef, undef, undef, undef, undef, undef], []⟩) (by kernel_rfl) ?_
  have S := trivial
  have A := trivial
  have c9 := trivial
  have j := trivial
  have E := trivial
  have B := trivial
  have g := trivial
  have f := trivial
  have y := trivial
  have z := trivial
  have O := trivial
  have u := trivial
  have w := trivial
  have F := trivial
  have K := trivial
  have L := trivial
  have d := trivial
  have C := trivial
  have m := trivial
  have n := trivial
  have o := trivial
  have p := trivial
  have D := trivial
  have x := trivial
  have cd := trivial
  have a8 := trivial
  have Z := trivial
  have a4 := trivial
  have a2 := trivial
  have s := trivial
  have N := trivial
  have a3 := trivial
  have a7 := trivial
  have a0 := trivial
  have a1 := trivial
  have U := trivial
  have a9 := trivial
  have V := trivial
  have W := trivial
  have cq := trivial
  have cx := trivial
  have b0 := trivial
  have b1 := trivial
  have b4 := trivial
  have Y := trivial
  have b5 := trivial
  have b6 := trivial
  have b7 := trivial
  have b8 := trivial
  have a6 := trivial
  have hL2 := hL
  have d := lenAt hA
  have X := trivial
  have b9 := trivial
  have c1 := trivial
  have c0 := trivial
  have a5 := trivial
  replace x := lenAt hM0
  have u : IntKind.i64.wrap t = t := wrap_in _ (by omega) (by omega)
  have w : IntKind.i64.wrap (700000 + t) = 700000 + t := wrap_in _ (by omega) (by omega)
  refine DK.seq ?_
  refine DK.region (is := [0]) (by kernel_rfl) rfl ?_
  refine WK.run [0] (by simp [u, w, d, x]; constructor <;> rfl) ?_
  refine WK.nil ?_
  have hk0 := Keep.refl H
  have a5 := Keep.refl H
  refine DK.seq ?_
  refine DK.seq ?_
  refine DK.region (is := [0, 1, 2, 3, 4, 5, 6, 7, 8, 9, 10, 11]) (by kernel_rfl) rfl ?_
  refine WK.call rfl (by simp [u, w, d, x]) (by simp [Tryd.func11, Tryd.f11, u, w, d, x]; constructor <;> rfl) ?_
  refine FSem.mono (awake_s hL2) ?_
  rintro _ Hq ⟨rfl, hq⟩
  replace hq := hq.symm
  subst hq
  refine WK.run [1, 2, 3, 4, 5, 6] (by simp [u, w, d, x]; constructor <;> rfl) ?_
  refine WK.run [7] (by simp [u, w, d, x]; constructor <;> rfl) ?_
  refine WK.split (t := 27) rfl (fun h => ?_) (fun h => ?_)
  · try simp only [h]
    replace h := Tr.out h
    refine WK.run [8, 9, 10, 11] (by simp [u, w, d, x]; constructor <;> rfl) ?_
    refine WK.nil ?_
    refine DK.yes rfl rfl ?_
    refine DK.seq ?_
    refine DK.region (is := [0, 1]) (by kernel_rfl) rfl ?_
    refine WK.call rfl (by simp [u, w, d, x]) (by simp [Tryd.func11, Tryd.f11, u, w, d, x]; constructor <;> rfl) ?_
    refine FSem.mono (awake_s hL2) ?_
    rintro _ Hq ⟨rfl, hq⟩
    replace hq := hq.symm
    subst hq
    refine WK.run [1] (by simp [u, w, d, x]; constructor <;> rfl) ?_
    refine WK.nil ?_
    refine DK.ret ?_
    refine And.intro (Or.inr rfl) ?_
    refine ⟨_, by simp [absAnswer, absResults, absResult, Tryd.f9]; rfl, ?_⟩
    first | exact ⟨(hk0.trans a5).ext, by simp, by simp⟩ | exact ⟨⟨[], (List.append_nil _).symm⟩, by simp, by simp⟩
  try simp only [h]
  replace h := Fa.out h
  refine WK.run [8, 9, 10, 11] (by simp [u, w, d, x]; constructor <;> rfl) ?_
  refine WK.nil ?_
  refine DK.test rfl rfl (fun h => ?_) (fun h => ?_)
  · try simp only [h]
    replace h := Tr.out h
    refine DK.seq ?_
    refine DK.region (is := [0, 1]) (by kernel_rfl) rfl ?_
    refine WK.call rfl (by simp [u, w, d, x]) (by simp [Tryd.func11, Tryd.f11, u, w, d, x]; constructor <;> rfl) ?_
    refine FSem.mono (awake_s hL2) ?_
    rintro _ Hq ⟨rfl, hq⟩
    replace hq := hq.symm
    subst hq
    refine WK.run [1] (by simp [u, w, d, x]; constructor <;> rfl) ?_
    refine WK.nil ?_
    refine DK.ret ?_
    refine And.intro (Or.inr rfl) ?_
    refine ⟨_, by simp [absAnswer, absResults, absResult, Tryd.f9]; rfl, ?_⟩
    first | exact ⟨(hk0.trans a5).ext, by simp, by simp⟩ | exact ⟨⟨[], (List.append_nil _).symm⟩, by simp, by simp⟩
  try simp only [h]
  replace h := Fa.out h
  refine DK.skip ?_
  refine DK.seq ?_
  refine DK.region (is := [0, 1, 2, 3, 4, 5]) (by kernel_rfl) rfl ?_
  refine WK.run [0, 1, 2] (by simp [u, w, d, x]; constructor <;> rfl) ?_
  refine WK.call rfl (by simp [u, w, d, x]) (by simp [Tryd.func12, Tryd.f12, u, w, d, x]; constructor <;> rfl) ?_
  refine FSem.mono (newb_g (700000 + t) _) ?_
  rintro _ Hq ⟨rfl, hq⟩
  subst hq
  refine WK.run [4, 5] (by simp [u, w, d, x]; constructor <;> rfl) ?_
  refine WK.nil ?_
  refine DK.abs (fun M1 => Keep H M1 ∧ M1[H.length]? = some (.cells false (BkL (700000 + t) (.slice none 0 0) zL))) ⟨Keep.app _ _, mem_app _ _⟩ ?_
  rintro M1 ⟨hkk, h_cb⟩
  replace S := h_cb
  replace hL2 := hL2.keep hkk
  have a5 := hkk
  replace X := BkAt.new M1 (700000 + t)
  refine DK.seq ?_
  refine DK.seq ?_
  refine DK.region (is := [0]) (by kernel_rfl) rfl ?_
  refine WK.run [0] (by simp [S, u, w, d, x]; constructor <;> rfl) ?_
  refine WK.nil ?_
  refine DK.block ?_
  refine DK.loopF [8, 9, 10, 37, 38, 39, 40, 41, 42, 43, 44, 45, 46, 47, 48, 49, 50, 51, 52, 53, 54, 55, 56, 57] [8] (fun fl vs H' => ∃ (i : Int) (b : Bk) (sp : Value) (l : List As), vs = [.int .i64 i] ∧ (Keep H H' ∧ H'[H.length]? = some (.cells false (BkL b.today sp l)) ∧ BkAt H' sp l b ∧ Lad H') ∧ 0 ≤ i ∧ i ≤ acts.length ∧ (∀ c, blkOf sp = some c → H.length < c) ∧ b = playB (acts.take i.toNat) (newB (700000 + t)) ∧ fl = (acts.length - i).toNat) (acts.length) (by kernel_rfl) ?_ ?_
  · refine ⟨_, newB (700000 + t), .slice none 0 0, zL, rfl, ?_⟩
    exact ⟨⟨a5, S, X, hL2⟩, by omega, by omega, fun c hc => (by cases hc), rfl, by omega⟩
  rintro fl f1j M ⟨i, b, sp, l, hv, hf⟩
  clear a5 X hL2
  obtain ⟨⟨a5, cb0, X, hL2⟩, hj0, hj1, hspn, hpb, hfl⟩ := hf
  have hP : PlayOk i.toNat b := by rw [hpb]; exact play_ok hao _ _ (by omega)
  replace S := cb0
  replace A : ∀ r : Mem, (M ++ r)[H.length]? = some (.cells false (BkL b.today sp l)) := fun r => (Keep.app _ _).cell cb0
  replace E := X.pls.cells.1
  replace B := X.pls.cells.2
  replace g := X.len
  replace j := bk_ones B
  replace D := bk_same X
  simp only [List.map_cons, List.map_nil, List.cons.injEq, and_true] at hv
  have hv1_0 := hv
  refine DK.from ((setL_S (by decide) _ _).trans (by simp [setS, hv1_0]; exact rfl)) ?_
  refine DK.seq ?_
  refine DK.seq ?_
  refine DK.region (is := [0, 1, 2, 3]) (by kernel_rfl) rfl ?_
  refine WK.run [0, 1, 2, 3] (by simp [S, A, j, E, B, g, u, w, d, D, x]; constructor <;> rfl) ?_
  refine WK.nil ?_
  refine DK.test rfl rfl (fun h => ?_) (fun h => ?_)
  · try simp only [h]
    replace h := Tr.out h
    replace K : 0 ≤ i := hj0
    replace L : i < acts.length := h
    have hil : i.toNat < acts.length := by omega
    have hwr1 : IntKind.i64.wrap (i + 1) = i + 1 := wrap_in _ (by omega) (by omega)
    replace F := hwr1
    obtain ⟨bA, oA, roA, vsA, hsaE, hbA0, hle0, hge0⟩ := hA.blk hil
    subst hsaE
    replace C := (hk0.trans a5).cell hbA0
    replace m : ∀ r : Mem, (M ++ r)[bA]? = some (.cells roA vsA) := fun r => (Keep.app _ _).cell C
    replace n : oA + i.toNat * 4 + 4 ≤ vsA.length := hle0
    replace o : List.take 4 (List.drop (oA + i.toNat * 4) vsA) = (acts[i.toNat]).l := hge0
    refine DK.skip ?_
    refine DK.seq ?_
    refine DK.block ?_
    refine DK.seq ?_
    refine DK.draw rfl (POk.of (ord := [0, 1, 2, 3, 4, 5, 12, 6, 7, 8, 9, 10, 11, 13, 14]) (by kernel_rfl)) ?_
    refine XK.run [0, 1, 2, 3, 4, 5] (by kernel_rfl) (by simp [S, A, j, E, B, g, u, w, F, K, L, d, C, m, n, o, D, x]; constructor <;> rfl) ?_
    refine XK.run [12] (by kernel_rfl) (by simp [S, A, j, E, B, g, u, w, F, K, L, d, C, m, n, o, D, x]; constructor <;> rfl) ?_
    refine XK.call rfl (by simp [S, A, j, E, B, g, u, w, F, K, L, d, C, m, n, o, D, x]) rfl (by simp [Tryd.func14, Tryd.f14, S, A, j, E, B, g, u, w, F, K, L, d, C, m, n, o, D, x]; constructor <;> rfl) ?_
    refine FSem.mono (basks_s (i.toNat * 3652060) b (X.keep (Keep.app _ _)) hP.ok (by omega)) ?_
    rintro _s5 M3 ⟨hA3, hR3, hW3, hN3⟩
    have hkk := Keep.of hA3
    replace S := hkk.cell (A _)
    replace c9 := hkk.cell (mem_app _ _)
    have hM3 : M.length < M3.length := (List.getElem?_eq_some_iff.1 c9).1
    replace b9 := (X.keep (Keep.app _ _)).keep hkk
    replace c1 := (hL2.keep (Keep.app _ _)).keep hkk
    replace c0 := (a5.trans (Keep.app _ _)).trans hkk
    replace C := hkk.cell (m _)
    have hlen3 : b.asks.length ≤ 100000000000 := by have := asks_bound (k := (i.toNat * 3652060)) 0 b.subs (fun a ha => (hP.ok.subs a ha).2); rw [hP.ok.len] at this; unfold Bk.asks; omega
    refine And.intro (lag_list (l := [0, 4]) (by kernel_rfl) (lag_cons (lag_one rfl (by simp [S, A, j, E, B, g, u, w, F, K, L, d, C, m, n, o, D, x]; constructor <;> rfl) rfl (by simp [S, A, j, E, B, g, u, w, F, K, L, d, C, m, n, o, D, x]) (by simp [sameL, sameV_agg, sameV_int, sameV_bool, sameV_str, sameV_ptr, sameV_sl, sameV_map, same1_int, same1_bool, same1_str, same1_ptr, same1_sl, same1_map, S, A, j, E, B, g, u, w, F, K, L, d, C, m, n, o, D, x]) rfl) (lag_cons (lag_one rfl (by simp [S, A, j, E, B, g, u, w, F, K, L, d, C, m, n, o, D, x]; constructor <;> rfl) rfl (by simp [S, A, j, E, B, g, u, w, F, K, L, d, C, m, n, o, D, x]) (by simp [sameL, sameV_agg, sameV_int, sameV_bool, sameV_str, sameV_ptr, sameV_sl, sameV_map, same1_int, same1_bool, same1_str, same1_ptr, same1_sl, same1_map, S, A, j, E, B, g, u, w, F, K, L, d, C, m, n, o, D, x]) rfl) rfl))) ?_
    refine XK.call rfl (by simp [S, A, c9, j, E, B, g, u, w, F, K, L, d, C, m, n, o, D, x]) rfl (by simp [Tryd.func13, Tryd.f13, S, A, c9, j, E, B, g, u, w, F, K, L, d, C, m, n, o, D, x]; constructor <;> rfl) ?_
    refine FSem.mono (rorder_g acts[i.toNat] (hao _ (List.getElem_mem hil)) b.asks hlen3 hR3) ?_
    rintro _ Hq ⟨od, rfl, hod, hq⟩
    subst hq
    refine And.intro (lag_list (l := [0]) (by kernel_rfl) (lag_cons (lag_one rfl (by simp [S, A, c9, j, E, B, g, u, w, F, K, L, d, C, m, n, o, D, x]; constructor <;> rfl) rfl (by simp [S, A, c9, j, E, B, g, u, w, F, K, L, d, C, m, n, o, D, x]) (by simp [sameL, sameV_agg, sameV_int, sameV_bool, sameV_str, sameV_ptr, sameV_sl, sameV_map, same1_int, same1_bool, same1_str, same1_ptr, same1_sl, same1_map, S, A, c9, j, E, B, g, u, w, F, K, L, d, C, m, n, o, D, x]) rfl) rfl)) ?_
    refine XK.call rfl (by simp [S, A, c9, j, E, B, g, u, w, F, K, L, d, C, m, n, o, D, x]) rfl (by simp [Tryd.func16, Tryd.f16, S, A, c9, j, E, B, g, u, w, F, K, L, d, C, m, n, o, D, x]; constructor <;> rfl) ?_
    refine FSem.mono (step_g (i.toNat * 3652060) b od b9 c1 hP.ok (by omega) hP.un) ?_
    rintro _ M4 ⟨b2, e2, sp2, l2, rfl, hst, hBk2, hl, hs, hs', hkk, hsb2⟩
    replace O := hl
    replace y := hs
    replace z := hs'
    replace f := bk_ones hs'
    replace S := hkk.cell S
    replace c9 := hkk.cell c9
    replace b9 := b9.keep hkk
    replace c0 := c0.trans hkk
    replace C := hkk.cell C
    replace p := List.getElem?_set_self (a := Blk.cells false (BkL b2.today sp2 l2)) (List.getElem?_eq_some_iff.1 c9).1
    refine And.intro (lag_list (l := []) (by kernel_rfl) rfl) ?_
    refine XK.run [9, 10, 11] (by kernel_rfl) (by simp [S, A, c9, j, E, B, g, f, y, z, O, u, w, F, K, L, d, C, m, n, o, p, D, x]; constructor <;> rfl) ?_
    refine XK.one rfl (by simp [S, A, c9, j, E, B, g, f, y, z, O, u, w, F, K, L, d, C, m, n, o, p, D, x]) rfl (by simp [S, A, c9, j, E, B, g, f, y, z, O, u, w, F, K, L, d, C, m, n, o, p, D, x]; constructor <;> rfl) (lag_list (l := []) (by kernel_rfl) rfl) ?_
    refine XK.one rfl (by simp [S, A, c9, j, E, B, g, f, y, z, O, u, w, F, K, L, d, C, m, n, o, p, D, x]) rfl (by simp [S, A, c9, j, E, B, g, f, y, z, O, u, w, F, K, L, d, C, m, n, o, p, D, x]; constructor <;> rfl) (lag_list (l := []) (by kernel_rfl) rfl) ?_
    refine XK.nil ?_
    refine DK.abs (fun M5 => Keep H M5 ∧ M5[H.length]? = some (.cells false (BkL b.today sp l)) ∧ M5[M.length]? = some (.cells false (BkL b2.today sp2 l2)) ∧ BkAt M5 sp l b ∧ BkAt M5 sp2 l2 b2) ⟨c0.set a5.1 _, (List.getElem?_set_ne (by have := (List.getElem?_eq_some_iff.1 cb0).1; omega)).trans S, p, b9.set (X.free (Nat.le_refl _)) _, hBk2.set (hBk2.fre c9 (by rw [BkL_len (by simp)]; decide) (fun e => (hsb2 _ e).elim (fun q => by have := X.pls.lt q; omega) (fun q => by have := hM3; omega))) _⟩ ?_
    rintro M5 ⟨hk5, cb5, c95, hBk5, hBk25⟩
    replace c9 := c95
    replace S := cb5
    replace p := List.getElem?_set_self (a := Blk.cells false (BkL b2.today sp2 l2)) (List.getElem?_eq_some_iff.1 S).1
    refine DK.seq ?_
    refine DK.region (is := [0, 1]) (by kernel_rfl) rfl ?_
    refine WK.run [0, 1] (by simp [S, A, c9, j, E, B, g, f, y, z, O, u, w, F, K, L, d, C, m, n, o, p, D, x]; constructor <;> rfl) ?_
    refine WK.nil ?_
    refine DK.test rfl rfl (fun h => ?_) (fun h => ?_)
    · try simp only [h]
      replace h := Tr.out h
      refine DK.region (is := [0, 1]) (by kernel_rfl) rfl ?_
      refine WK.run [0, 1] (by simp [S, A, c9, j, E, B, g, f, y, z, O, u, w, F, K, L, d, C, m, n, o, p, D, x]; constructor <;> rfl) ?_
      refine WK.nil ?_
      refine DK.abs (fun M6 => Keep H M6 ∧ M6[H.length]? = some (.cells false (BkL b2.today sp2 l2)) ∧ BkAt M6 sp2 l2 b2) ⟨hk5.set (Nat.le_refl _) _, p, hBk25.set (hBk25.fre S (by rw [BkL_len g]; decide) (fun e => (hsb2 _ e).elim (fun q => by have := hspn _ q; omega) (fun q => by have := hM3; have := (List.getElem?_eq_some_iff.1 cb0).1; omega))) _⟩ ?_
      rintro M6 ⟨hk6, cb6, hBk6⟩
      refine DK.region (is := [0, 1, 2]) (by kernel_rfl) rfl ?_
      refine WK.run [0, 1, 2] (by simp [S, A, c9, j, E, B, g, f, y, z, O, u, w, F, K, L, d, C, m, n, o, p, D, x]; constructor <;> rfl) ?_
      refine WK.nil ?_
      refine ⟨by kernel_rfl, (acts.length - (i + 1)).toNat, ?_, _, b2, sp2, l2, rfl, ?_⟩
      · omega
      · rw [show (i + 1).toNat = i.toNat + 1 by omega, play_snoc hil, ← hpb, act_yes hod hst (by assumption)]
        exact ⟨⟨hk6, cb6, hBk6, (hL.keep hk0).keep hk6⟩, by omega, by omega, fun c hc => (hsb2 c hc).elim (fun q => hspn c q) (fun q => by have := hM3; have := (List.getElem?_eq_some_iff.1 cb0).1; omega), rfl, rfl⟩
    try simp only [h]
    replace h := Fa.out h
    refine DK.skip ?_
    refine DK.region (is := [0, 1, 2]) (by kernel_rfl) rfl ?_
    refine WK.run [0, 1, 2] (by simp [S, A, c9, j, E, B, g, f, y, z, O, u, w, F, K, L, d, C, m, n, o, p, D, x]; constructor <;> rfl) ?_
    refine WK.nil ?_
    refine ⟨by kernel_rfl, (acts.length - (i + 1)).toNat, ?_, _, b, sp, l, rfl, ?_⟩
    · omega
    · rw [show (i + 1).toNat = i.toNat + 1 by omega, play_snoc hil, ← hpb, act_no hod hst (by assumption)]
      exact ⟨⟨hk5, cb5, hBk5, (hL.keep hk0).keep hk5⟩, by omega, by omega, hspn, rfl, rfl⟩
  try simp only [h]
  replace h := Fa.out h
  have hiE : i = acts.length := by omega
  subst hiE
  rw [List.take_of_length_le (show acts.length ≤ ((acts.length : Int)).toNat by simp)] at hpb
  have hP := trivial
  have hP : PlayOk acts.length b := by rw [hpb]; have := play_ok hao (700000 + t) acts.length (Nat.le_refl _); rwa [List.take_length] at this
  have hok2 : BOk 147000000 b := hP.ok.le (by omega)
  have hpd : decX (encB b) = (b, 0) := by rw [hpb]; exact play_dec hao (by omega) (by omega) (by omega)
  refine DK.exit ?_
  refine DK.seq ?_
  refine DK.region (is := [0, 1, 2]) (by kernel_rfl) rfl ?_
  refine WK.run [0] (by simp [S, A, c9, j, E, B, g, f, y, z, O, u, w, F, K, L, d, C, m, n, o, p, D, x]; constructor <;> rfl) ?_
  refine WK.call rfl (by simp [S, A, c9, j, E, B, g, f, y, z, O, u, w, F, K, L, d, C, m, n, o, p, D, x]) (by simp [Tryd.func21, Tryd.f21, S, A, c9, j, E, B, g, f, y, z, O, u, w, F, K, L, d, C, m, n, o, p, D, x]; constructor <;> rfl) ?_
  refine FSem.mono (encode_s 147000000 b X hok2 (by decide) hP.p8) ?_
  rintro _q ME ⟨hA3, hR3, hW3, hN3⟩
  have hkk := Keep.of hA3
  replace S := hkk.cell S
  replace X := X.keep hkk
  replace a5 := a5.keep hkk
  refine WK.run [2] (by simp [S, A, c9, j, E, B, g, f, y, z, O, u, w, F, K, L, d, C, m, n, o, p, D, x]; constructor <;> rfl) ?_
  refine WK.nil ?_
  have hBkE := X
  replace a0 := hR3.cells.1
  replace a1 := hR3.cells.2
  have hltH : H.length < ME.length := (List.getElem?_eq_some_iff.1 S).1
  refine DK.seq ?_
  refine DK.region (is := [0, 1, 2, 3, 4, 5, 6, 7]) (by kernel_rfl) rfl ?_
  refine WK.run [0] (by simp [S, A, c9, j, E, B, g, f, y, z, O, u, w, F, K, L, d, C, m, n, o, p, D, x, a0, a1]; constructor <;> rfl) ?_
  refine WK.call rfl (by simp [S, A, c9, j, E, B, g, f, y, z, O, u, w, F, K, L, d, C, m, n, o, p, D, x, a0, a1]) (by simp [Tryd.func22, Tryd.f22, S, A, c9, j, E, B, g, f, y, z, O, u, w, F, K, L, d, C, m, n, o, p, D, x, a0, a1]; constructor <;> rfl) ?_
  refine FSem.mono (decode_s hR3 (numsB_ok _) (encB_len hok2 hP.p8 (by decide))) ?_
  rintro _ MZ ⟨d0, e0, spd, ld, rfl, hdec, hBd, hld9, hd09, hd19, hkk, hspd⟩
  obtain ⟨rfl, rfl⟩ : b = d0 ∧ (0 : Int) = e0 := by rw [hpd] at hdec; cases hdec; exact ⟨rfl, rfl⟩
  have hleEZ := hkk.1
  replace S := hkk.cell S
  replace X := X.keep hkk
  replace a5 := a5.keep hkk
  have hRq := hR3.keep hkk
  replace Z := hld9
  replace a4 := hd09
  replace a2 := hd19
  replace s := bk_ones hd19
  refine WK.run [2, 3, 4, 5, 6, 7] (by simp [S, A, c9, j, E, B, g, f, y, z, O, u, w, F, K, L, d, C, m, n, o, p, D, x, Z, a4, a2, s, a0, a1]; constructor <;> rfl) ?_
  refine WK.nil ?_
  refine DK.abs (fun M11 => Keep MZ M11 ∧ M11[MZ.length]? = some (.cells false (BkL b.today spd ld))) ⟨Keep.app _ _, by simp⟩ ?_
  rintro M11 ⟨hkk, qd⟩
  have hltZ := hkk
  have hzz : H.length < MZ.length := (List.getElem?_eq_some_iff.1 S).1
  have hBkZ := X
  have hBdZ := hBd
  replace cd := qd
  replace S := hkk.cell S
  replace X := X.keep hkk
  replace hBd := hBd.keep hkk
  replace a5 := a5.keep hkk
  have hRq := hRq.keep hkk
  replace a3 := conv_by hRq _ (Keep.refl _)
  replace D := bk_same X
  replace N := bk_same hBd
  have hP2 : PlayOk 40 b := ⟨hP.ok.le (Nat.mul_le_mul_right _ (by omega)), hP.un, hP.p8⟩
  refine DK.seq ?_
  refine DK.seq ?_
  refine DK.draw rfl (POk.of (ord := [0, 1, 2, 3, 6, 7, 4, 5, 8, 9]) (by kernel_rfl)) ?_
  refine XK.run [0, 1, 2] (by kernel_rfl) (by simp [S, A, c9, j, E, B, g, f, y, z, O, u, w, F, K, L, d, C, m, n, o, p, D, x, cd, Z, a4, a2, s, N, a3, a0, a1]; constructor <;> rfl) ?_
  refine XK.split (t := 67) rfl (fun h => ?_) (fun h => ?_)
  · try simp only [h]
    replace h := Tr.out h
    cases h
  try simp only [h]
  replace h := Fa.out h
  refine XK.run [3, 6, 7] (by kernel_rfl) (by simp [S, A, c9, j, E, B, g, f, y, z, O, u, w, F, K, L, d, C, m, n, o, p, D, x, cd, Z, a4, a2, s, N, a3, a0, a1]; constructor <;> rfl) ?_
  refine XK.call rfl (by simp [S, A, c9, j, E, B, g, f, y, z, O, u, w, F, K, L, d, C, m, n, o, p, D, x, cd, Z, a4, a2, s, N, a3, a0, a1]) rfl (by simp [Tryd.func21, Tryd.f21, S, A, c9, j, E, B, g, f, y, z, O, u, w, F, K, L, d, C, m, n, o, p, D, x, cd, Z, a4, a2, s, N, a3, a0, a1]; constructor <;> rfl) ?_
  refine FSem.mono (encode_s 147000000 b hBd hok2 (by decide) hP.p8) ?_
  rintro _q2 M7 ⟨hA7, hR7, hW7, hN7⟩
  have hkk := Keep.of hA7
  replace S := hkk.cell S
  replace cd := hkk.cell cd
  replace X := X.keep hkk
  replace hBd := hBd.keep hkk
  replace a5 := a5.keep hkk
  replace a3 := conv_by (hRq.keep hkk) _ (Keep.refl _)
  replace a7 := conv_by hR7 _ (Keep.refl _)
  refine And.intro (lag_list (l := [7]) (by kernel_rfl) (lag_cons (lag_one rfl (by simp [S, A, c9, j, E, B, g, f, y, z, O, u, w, F, K, L, d, C, m, n, o, p, D, x, cd, Z, a4, a2, s, N, a3, a0, a1]; constructor <;> rfl) rfl (by simp [S, A, c9, j, E, B, g, f, y, z, O, u, w, F, K, L, d, C, m, n, o, p, D, x, cd, Z, a4, a2, s, N, a3, a0, a1]) (by simp [sameL, sameV_agg, sameV_int, sameV_bool, sameV_str, sameV_ptr, sameV_sl, sameV_map, same1_int, same1_bool, same1_str, same1_ptr, same1_sl, same1_map, S, A, c9, j, E, B, g, f, y, z, O, u, w, F, K, L, d, C, m, n, o, p, D, x, cd, Z, a4, a2, s, N, a3, a0, a1]) rfl) rfl)) ?_
  refine XK.run [5, 8, 9] (by kernel_rfl) (by simp [S, A, c9, j, E, B, g, f, y, z, O, u, w, F, K, L, d, C, m, n, o, p, D, x, cd, Z, a4, a2, s, N, a3, a7, a0, a1]; constructor <;> rfl) ?_
  refine XK.nil ?_
  refine DK.test rfl rfl (fun h => ?_) (fun h => ?_)
  · try simp only [h]
    replace h := Tr.out h
    cases h
  try simp only [h]
  replace h := Fa.out h
  refine DK.skip ?_
  refine DK.seq ?_
  refine DK.seq ?_
  refine DK.region (is := [0]) (by kernel_rfl) rfl ?_
  refine WK.run [0] (by simp [S, A, c9, j, E, B, g, f, y, z, O, u, w, F, K, L, d, C, m, n, o, p, D, x, cd, Z, a4, a2, s, N, a3, a7, a0, a1]; constructor <;> rfl) ?_
  refine WK.nil ?_
  refine DK.block ?_
  refine DK.loopF [6, 14, 15, 16, 17, 18, 19, 75, 76, 77, 78, 79, 80, 81, 82, 83, 84, 85, 86, 87, 88, 89, 90, 91, 92, 93, 94, 95, 96, 97, 98, 99, 100, 101, 102, 103, 104, 105, 106] [14] (fun fl vs H' => ∃ (i : Int) (bb : Bk) (sp : Value) (l : List As) (spd : Value) (ld : List As), vs = [.int .i64 i] ∧ (Keep H H' ∧ H'[H.length]? = some (.cells false (BkL bb.today sp l)) ∧ H'[MZ.length]? = some (.cells false (BkL bb.today spd ld)) ∧ BkAt H' sp l bb ∧ BkAt H' spd ld bb) ∧ 0 ≤ i ∧ i ≤ more.length ∧ (∀ c, blkOf sp = some c → c ≠ H.length ∧ c ≠ MZ.length) ∧ (∀ c, blkOf spd = some c → c ≠ H.length ∧ c ≠ MZ.length) ∧ PlayOk (40 + i.toNat) bb ∧ fl = (more.length - i).toNat) (more.length) (by kernel_rfl) ?_ ?_
  · refine ⟨_, b, sp, l, spd, ld, rfl, ?_⟩
    exact ⟨⟨a5, S, cd, X, hBd⟩, by omega, by omega, fun c hc => by have h1 := hBkE.pls.lt hc; have := hspn c hc; omega, fun c hc => by have := hspd c hc; have := hBdZ.pls.lt hc; omega, hP2, by omega⟩
  rintro fl f2j M ⟨i, bb, sp, l, spd, ld, hv, hf⟩
  clear a5 X hBd hP2
  clear cb0 hpb
  obtain ⟨⟨a5, cb1, cd1, X, hBd⟩, hj0, hj1, hn1, hn2, hP2, hfl⟩ := hf
  have hBkM := X
  have hBdM := hBd
  have hokb : BOk 185000000 bb := hP2.ok.le (by omega)
  replace S := cb1
  replace A := cellr S
  replace cd := cd1
  replace a8 := cellr cd
  replace E := X.pls.cells.1
  replace B := X.pls.cells.2
  replace g := X.len
  replace j := bk_ones B
  replace D := bk_same X
  replace a4 := hBd.pls.cells.1
  replace a2 := hBd.pls.cells.2
  replace Z := hBd.len
  replace s := bk_ones a2
  replace N := bk_same hBd
  have hltZM : MZ.length < M.length := (List.getElem?_eq_some_iff.1 cd).1
  simp only [List.map_cons, List.map_nil, List.cons.injEq, and_true] at hv
  have hv2_0 := hv
  refine DK.from ((setL_S (by decide) _ _).trans (by simp [setS, hv2_0]; exact rfl)) ?_
  refine DK.seq ?_
  refine DK.seq ?_
  refine DK.region (is := [0, 1, 2, 3]) (by kernel_rfl) rfl ?_
  refine WK.run [0, 1, 2, 3] (by simp [S, A, c9, j, E, B, g, f, y, z, O, u, w, F, K, L, d, C, m, n, o, p, D, x, cd, a8, Z, a4, a2, s, N, a3, a7, a0, a1]; constructor <;> rfl) ?_
  refine WK.nil ?_
  refine DK.test rfl rfl (fun h => ?_) (fun h => ?_)
  · try simp only [h]
    replace h := Tr.out h
    replace K : 0 ≤ i := hj0
    replace L : i < more.length := h
    have hil : i.toNat < more.length := by omega
    replace F : IntKind.i64.wrap (i + 1) = i + 1 := wrap_in _ (by omega) (by omega)
    obtain ⟨bm, om, rom, vm, hidx0, hbm0, hlem0, hgem0⟩ := (hM0.keep (hk0.trans a5)).idx (T := 23) (e := 51) (i := i) hj0 hil Tryd.underlying23 inf51 sz51
    replace U : absIndexAddr Tryd.prog M 23 sm (.int .i64 i) = some (.pointer (some ⟨bm, om + i.toNat * 4, none⟩)) := hidx0
    replace a9 := hbm0
    replace V : om + i.toNat * 4 + 4 ≤ vm.length := hlem0
    replace W : List.take 4 (List.drop (om + i.toNat * 4) vm) = (more[i.toNat]).l := hgem0
    refine DK.skip ?_
    refine DK.seq ?_
    refine DK.block ?_
    refine DK.seq ?_
    refine DK.draw rfl (POk.of (ord := [0, 1, 2, 3, 4, 7, 5, 6, 8]) (by kernel_rfl)) ?_
    refine XK.run [0, 1, 2, 3, 4, 7] (by kernel_rfl) (by simp [S, A, c9, j, E, B, g, f, y, z, O, u, w, F, K, L, d, C, m, n, o, p, D, x, cd, a8, Z, a4, a2, s, N, a3, a7, a0, a1, U, a9, V, W]; constructor <;> rfl) ?_
    refine XK.call rfl (by simp [S, A, c9, j, E, B, g, f, y, z, O, u, w, F, K, L, d, C, m, n, o, p, D, x, cd, a8, Z, a4, a2, s, N, a3, a7, a0, a1, U, a9, V, W]) rfl (by simp [Tryd.func14, Tryd.f14, S, A, c9, j, E, B, g, f, y, z, O, u, w, F, K, L, d, C, m, n, o, p, D, x, cd, a8, Z, a4, a2, s, N, a3, a7, a0, a1, U, a9, V, W]; constructor <;> rfl) ?_
    refine FSem.mono (basks_s 185000000 bb (X.keep (Keep.app _ _)) hokb (by decide)) ?_
    rintro _s5 M3 ⟨hA3, hR3, hW3, hN3⟩
    have hkk := Keep.of hA3
    replace S := hkk.cell (A _)
    replace cd := hkk.cell (a8 _)
    replace cq := hkk.cell (mem_app _ _)
    replace a9 := hkk.cell ((Keep.app _ _).cell a9)
    replace X := (X.keep (Keep.app _ _)).keep hkk
    replace hBd := (hBd.keep (Keep.app _ _)).keep hkk
    replace a5 := (a5.trans (Keep.app _ _)).trans hkk
    have hlen3 : bb.asks.length ≤ 100000000000 := by have := asks_bound (k := 185000000) 0 bb.subs (fun a ha => (hokb.subs a ha).2); rw [hokb.len] at this; unfold Bk.asks; omega
    refine And.intro (lag_list (l := [3]) (by kernel_rfl) (lag_cons (lag_one rfl (by simp [S, A, c9, j, E, B, g, f, y, z, O, u, w, F, K, L, d, C, m, n, o, p, D, x, cd, a8, Z, a4, a2, s, N, a3, a7, a0, a1, U, a9, V, W]; constructor <;> rfl) rfl (by simp [S, A, c9, j, E, B, g, f, y, z, O, u, w, F, K, L, d, C, m, n, o, p, D, x, cd, a8, Z, a4, a2, s, N, a3, a7, a0, a1, U, a9, V, W]) (by simp [sameL, sameV_agg, sameV_int, sameV_bool, sameV_str, sameV_ptr, sameV_sl, sameV_map, same1_int, same1_bool, same1_str, same1_ptr, same1_sl, same1_map, S, A, c9, j, E, B, g, f, y, z, O, u, w, F, K, L, d, C, m, n, o, p, D, x, cd, a8, Z, a4, a2, s, N, a3, a7, a0, a1, U, a9, V, W]) rfl) rfl)) ?_
    refine XK.call rfl (by simp [S, A, c9, j, E, B, g, f, y, z, O, u, w, F, K, L, d, C, m, n, o, p, D, x, cd, a8, Z, a4, a2, s, N, a3, a7, a0, a1, U, a9, V, W, cq]) rfl (by simp [Tryd.func13, Tryd.f13, S, A, c9, j, E, B, g, f, y, z, O, u, w, F, K, L, d, C, m, n, o, p, D, x, cd, a8, Z, a4, a2, s, N, a3, a7, a0, a1, U, a9, V, W, cq]; constructor <;> rfl) ?_
    refine FSem.mono (rorder_g more[i.toNat] (hmo _ (List.getElem_mem hil)) bb.asks hlen3 hR3) ?_
    rintro _ Hq ⟨od, rfl, hod, hq⟩
    subst hq
    refine And.intro (lag_list (l := []) (by kernel_rfl) rfl) ?_
    refine XK.one rfl (by simp [S, A, c9, j, E, B, g, f, y, z, O, u, w, F, K, L, d, C, m, n, o, p, D, x, cd, a8, Z, a4, a2, s, N, a3, a7, a0, a1, U, a9, V, W, cq]) rfl (by simp [S, A, c9, j, E, B, g, f, y, z, O, u, w, F, K, L, d, C, m, n, o, p, D, x, cd, a8, Z, a4, a2, s, N, a3, a7, a0, a1, U, a9, V, W, cq]; constructor <;> rfl) (lag_list (l := []) (by kernel_rfl) rfl) ?_
    refine XK.nil ?_
    refine DK.abs (fun M12 => Keep H M12 ∧ M12[H.length]? = some (.cells false (BkL bb.today sp l)) ∧ M12[MZ.length]? = some (.cells false (BkL bb.today spd ld)) ∧ M12[M.length]? = some (.cells false od.l) ∧ BkAt M12 sp l bb ∧ BkAt M12 spd ld bb) ⟨a5.set (by omega) _, (List.getElem?_set_ne (by omega)).trans S, (List.getElem?_set_ne (by omega)).trans cd, List.getElem?_set_self (List.getElem?_eq_some_iff.1 cq).1, X.set (hBkM.free (Nat.le_refl _)) _, hBd.set (hBdM.free (Nat.le_refl _)) _⟩ ?_
    clear a5 X hBd
    rintro M12 ⟨a5, cb5, cd5, cq5, X, hBd⟩
    replace S := cb5
    replace cd := cd5
    replace cq := cq5
    have hlt12 : M.length < M12.length := (List.getElem?_eq_some_iff.1 cq).1
    refine DK.seq ?_
    refine DK.region (is := [0, 1, 2, 3, 4, 5, 6, 7, 8]) (by kernel_rfl) rfl ?_
    refine WK.run [0, 1] (by simp [S, A, c9, j, E, B, g, f, y, z, O, u, w, F, K, L, d, C, m, n, o, p, D, x, cd, a8, Z, a4, a2, s, N, a3, a7, a0, a1, U, a9, V, W, cq]; constructor <;> rfl) ?_
    refine WK.call rfl (by simp [S, A, c9, j, E, B, g, f, y, z, O, u, w, F, K, L, d, C, m, n, o, p, D, x, cd, a8, Z, a4, a2, s, N, a3, a7, a0, a1, U, a9, V, W, cq]) (by simp [Tryd.func16, Tryd.f16, S, A, c9, j, E, B, g, f, y, z, O, u, w, F, K, L, d, C, m, n, o, p, D, x, cd, a8, Z, a4, a2, s, N, a3, a7, a0, a1, U, a9, V, W, cq]; constructor <;> rfl) ?_
    refine FSem.mono (step_g 185000000 bb od X (hL.keep (hk0.trans a5)) hokb (by decide) hP2.un) ?_
    rintro _ MX ⟨b2, e2, sp2, l2, rfl, hst, hBx, hl, hs, hs', hkk, hsb2⟩
    have hltX := hkk.1
    replace S := hkk.cell S
    replace cd := hkk.cell cd
    replace cq := hkk.cell cq
    replace X := X.keep hkk
    replace hBd := hBd.keep hkk
    replace a5 := a5.keep hkk
    replace b0 := hl
    replace b1 := hs
    replace b4 := hs'
    replace Y := bk_ones hs'
    refine WK.run [3, 4, 5, 6, 7, 8] (by simp [S, A, c9, j, E, B, g, f, y, z, O, u, w, F, K, L, d, C, m, n, o, p, D, x, cd, a8, Z, a4, a2, s, N, a3, a7, a0, a1, U, a9, V, W, cq, b0, b1, b4, Y]; constructor <;> rfl) ?_
    refine WK.nil ?_
    refine DK.abs (fun M13 => Keep MX M13 ∧ M13[MX.length]? = some (.cells false (BkL b2.today sp2 l2))) ⟨Keep.app _ _, by simp⟩ ?_
    rintro M13 ⟨hkk, q13⟩
    replace cx := q13
    replace S := hkk.cell S
    replace cd := hkk.cell cd
    replace cq := hkk.cell cq
    replace X := X.keep hkk
    replace hBd := hBd.keep hkk
    replace a5 := a5.keep hkk
    replace hBx := hBx.keep hkk
    have hltX2 : MX.length < M13.length := (List.getElem?_eq_some_iff.1 cx).1
    refine DK.seq ?_
    refine DK.region (is := [0, 1, 2, 3, 4, 5, 6, 7, 8]) (by kernel_rfl) rfl ?_
    refine WK.run [0, 1] (by simp [S, A, c9, j, E, B, g, f, y, z, O, u, w, F, K, L, d, C, m, n, o, p, D, x, cd, a8, Z, a4, a2, s, N, a3, a7, a0, a1, U, a9, V, W, cq, cx, b0, b1, b4, Y]; constructor <;> rfl) ?_
    refine WK.call rfl (by simp [S, A, c9, j, E, B, g, f, y, z, O, u, w, F, K, L, d, C, m, n, o, p, D, x, cd, a8, Z, a4, a2, s, N, a3, a7, a0, a1, U, a9, V, W, cq, cx, b0, b1, b4, Y]) (by simp [Tryd.func16, Tryd.f16, S, A, c9, j, E, B, g, f, y, z, O, u, w, F, K, L, d, C, m, n, o, p, D, x, cd, a8, Z, a4, a2, s, N, a3, a7, a0, a1, U, a9, V, W, cq, cx, b0, b1, b4, Y]; constructor <;> rfl) ?_
    refine FSem.mono (step_g 185000000 bb od hBd (hL.keep (hk0.trans a5)) hokb (by decide) hP2.un) ?_
    rintro _ MY ⟨b3, e3, sp3, l3, rfl, hst3, hBy, hl3, hs3, hs3', hkk, hsb3⟩
    obtain ⟨rfl, rfl⟩ : b2 = b3 ∧ e2 = e3 := by rw [hst] at hst3; cases hst3; exact ⟨rfl, rfl⟩
    replace S := hkk.cell S
    replace cd := hkk.cell cd
    replace cx := hkk.cell cx
    replace X := X.keep hkk
    replace hBd := hBd.keep hkk
    replace a5 := a5.keep hkk
    replace hBx := hBx.keep hkk
    replace b6 := hl3
    replace b7 := hs3
    replace b8 := hs3'
    replace a6 := bk_ones hs3'
    refine WK.run [3, 4, 5, 6, 7, 8] (by simp [S, A, c9, j, E, B, g, f, y, z, O, u, w, F, K, L, d, C, m, n, o, p, D, x, cd, a8, Z, a4, a2, s, N, a3, a7, a0, a1, U, a9, V, W, cq, cx, b0, b1, b4, Y, b6, b7, b8, a6]; constructor <;> rfl) ?_
    refine WK.nil ?_
    refine DK.abs (fun M14 => Keep MY M14 ∧ M14[MY.length]? = some (.cells false (BkL b2.today sp3 l3))) ⟨Keep.app _ _, by simp⟩ ?_
    rintro M14 ⟨hkk, q14⟩
    have hltY : MX.length < MY.length := (List.getElem?_eq_some_iff.1 cx).1
    replace b5 := q14
    replace S := hkk.cell S
    replace cd := hkk.cell cd
    replace cx := hkk.cell cx
    replace X := X.keep hkk
    replace hBd := hBd.keep hkk
    replace a5 := a5.keep hkk
    replace hBx := hBx.keep hkk
    replace hBy := hBy.keep hkk
    have hs2n : ∀ c, blkOf sp2 = some c → c ≠ H.length ∧ c ≠ MZ.length := fun c hc => (hsb2 c hc).elim (hn1 c) (fun q => by omega)
    have hs3n : ∀ c, blkOf sp3 = some c → c ≠ H.length ∧ c ≠ MZ.length := fun c hc => (hsb3 c hc).elim (hn2 c) (fun q => by omega)
    refine DK.seq ?_
    refine DK.seq ?_
    refine DK.region (is := [0, 1, 2]) (by kernel_rfl) rfl ?_
    refine WK.run [0, 1, 2] (by simp [S, A, c9, j, E, B, g, f, y, z, O, u, w, F, K, L, d, C, m, n, o, p, D, x, cd, a8, Z, a4, a2, s, N, a3, a7, a0, a1, U, a9, V, W, cq, cx, b0, b1, b4, Y, b5, b6, b7, b8, a6]; constructor <;> rfl) ?_
    refine WK.nil ?_
    refine DK.test rfl rfl (fun h => ?_) (fun h => ?_)
    · try simp only [h]
      replace h := Tr.out h
      cases h
    try simp only [h]
    replace h := Fa.out h
    refine DK.skip ?_
    refine DK.seq ?_
    refine DK.region (is := [0, 1]) (by kernel_rfl) rfl ?_
    refine WK.run [0, 1] (by simp [S, A, c9, j, E, B, g, f, y, z, O, u, w, F, K, L, d, C, m, n, o, p, D, x, cd, a8, Z, a4, a2, s, N, a3, a7, a0, a1, U, a9, V, W, cq, cx, b0, b1, b4, Y, b5, b6, b7, b8, a6]; constructor <;> rfl) ?_
    refine WK.nil ?_
    refine DK.test rfl rfl (fun h => ?_) (fun h => ?_)
    · try simp only [h]
      replace h := Tr.out h
      have he20 : e2 = 0 := by simpa using h
      refine DK.seq ?_
      refine DK.region (is := [0, 1]) (by kernel_rfl) rfl ?_
      refine WK.run [0, 1] (by simp [S, A, c9, j, E, B, g, f, y, z, O, u, w, F, K, L, d, C, m, n, o, p, D, x, cd, a8, Z, a4, a2, s, N, a3, a7, a0, a1, U, a9, V, W, cq, cx, b0, b1, b4, Y, b5, b6, b7, b8, a6]; constructor <;> rfl) ?_
      refine WK.nil ?_
      refine DK.abs (fun M15 => Keep H M15 ∧ M15[H.length]? = some (.cells false (BkL b2.today sp2 l2)) ∧ M15[MZ.length]? = some (.cells false (BkL bb.today spd ld)) ∧ M15[MY.length]? = some (.cells false (BkL b2.today sp3 l3)) ∧ BkAt M15 sp2 l2 b2 ∧ BkAt M15 sp3 l3 b2) ⟨a5.set (Nat.le_refl _) _, List.getElem?_set_self (List.getElem?_eq_some_iff.1 S).1, (List.getElem?_set_ne (by omega)).trans cd, (List.getElem?_set_ne (by omega)).trans b5, hBx.set (hBx.fre S (by rw [BkL_len g]; decide) (fun q => (hs2n _ q).1 rfl)) _, hBy.set (hBy.fre S (by rw [BkL_len g]; decide) (fun q => (hs3n _ q).1 rfl)) _⟩ ?_
      clear a5 X hBx hBy
      rintro M15 ⟨a5, cb5, cd5, cy5, X, hBy⟩
      replace S := cb5
      replace cd := cd5
      replace b5 := cy5
      refine DK.region (is := [0, 1]) (by kernel_rfl) rfl ?_
      refine WK.run [0, 1] (by simp [S, A, c9, j, E, B, g, f, y, z, O, u, w, F, K, L, d, C, m, n, o, p, D, x, cd, a8, Z, a4, a2, s, N, a3, a7, a0, a1, U, a9, V, W, cq, cx, b0, b1, b4, Y, b5, b6, b7, b8, a6]; constructor <;> rfl) ?_
      refine WK.nil ?_
      refine DK.abs (fun M16 => Keep H M16 ∧ M16[H.length]? = some (.cells false (BkL b2.today sp2 l2)) ∧ M16[MZ.length]? = some (.cells false (BkL b2.today sp3 l3)) ∧ BkAt M16 sp2 l2 b2 ∧ BkAt M16 sp3 l3 b2) ⟨a5.set (by omega) _, (List.getElem?_set_ne (by omega)).trans S, List.getElem?_set_self (List.getElem?_eq_some_iff.1 cd).1, X.set (X.fre cd (by rw [BkL_len Z]; decide) (fun q => (hs2n _ q).2 rfl)) _, hBy.set (hBy.fre cd (by rw [BkL_len Z]; decide) (fun q => (hs3n _ q).2 rfl)) _⟩ ?_
      clear a5 X hBd
      rintro M16 ⟨a5, cb5, cd5, X, hBd⟩
      have hP3 : PlayOk (40 + (i.toNat + 1)) b2 := by have := hP2.act (hmo _ (List.getElem_mem hil)); rw [act_yes hod hst he20] at this; exact this
      refine DK.region (is := [0, 1, 2]) (by kernel_rfl) rfl ?_
      refine WK.run [0, 1, 2] (by simp [S, A, c9, j, E, B, g, f, y, z, O, u, w, F, K, L, d, C, m, n, o, p, D, x, cd, a8, Z, a4, a2, s, N, a3, a7, a0, a1, U, a9, V, W, cq, cx, b0, b1, b4, Y, b5, b6, b7, b8, a6]; constructor <;> rfl) ?_
      refine WK.nil ?_
      refine ⟨by kernel_rfl, (more.length - (i + 1)).toNat, ?_, _, b2, sp2, l2, sp3, l3, rfl, ?_⟩
      · omega
      · rw [show (i + 1).toNat = i.toNat + 1 by omega]
        exact ⟨⟨a5, cb5, cd5, X, hBd⟩, by omega, by omega, hs2n, hs3n, hP3, rfl⟩
    try simp only [h]
    replace h := Fa.out h
    have he21 : ¬ e2 = 0 := by simpa using h
    refine DK.skip ?_
    refine DK.region (is := [0, 1, 2]) (by kernel_rfl) rfl ?_
    refine WK.run [0, 1, 2] (by simp [S, A, c9, j, E, B, g, f, y, z, O, u, w, F, K, L, d, C, m, n, o, p, D, x, cd, a8, Z, a4, a2, s, N, a3, a7, a0, a1, U, a9, V, W, cq, cx, b0, b1, b4, Y, b5, b6, b7, b8, a6]; constructor <;> rfl) ?_
    refine WK.nil ?_
    refine ⟨by kernel_rfl, (more.length - (i + 1)).toNat, ?_, _, bb, sp, l, spd, ld, rfl, ?_⟩
    · omega
    · rw [show (i + 1).toNat = i.toNat + 1 by omega]
      exact ⟨⟨a5, S, cd, X, hBd⟩, by omega, by omega, hn1, hn2, ⟨hP2.ok.le (Nat.mul_le_mul_right _ (by omega)), hP2.un, hP2.p8⟩, rfl⟩
  try simp only [h]
  replace h := Fa.out h
  refine DK.exit ?_
  refine DK.seq ?_
  refine DK.draw rfl (POk.of (ord := [0, 3, 1, 2, 4, 5, 6, 7]) (by kernel_rfl)) ?_
  refine XK.run [0, 3] (by kernel_rfl) (by simp [S, A, c9, j, E, B, g, f, y, z, O, u, w, F, K, L, d, C, m, n, o, p, D, x, cd, a8, Z, a4, a2, s, N, a3, a7, a0, a1, U, a9, V, W, cq, cx, b0, b1, b4, Y, b5, b6, b7, b8, a6]; constructor <;> rfl) ?_
  refine XK.call rfl (by simp [S, A, c9, j, E, B, g, f, y, z, O, u, w, F, K, L, d, C, m, n, o, p, D, x, cd, a8, Z, a4, a2, s, N, a3, a7, a0, a1, U, a9, V, W, cq, cx, b0, b1, b4, Y, b5, b6, b7, b8, a6]) rfl (by simp [Tryd.func21, Tryd.f21, S, A, c9, j, E, B, g, f, y, z, O, u, w, F, K, L, d, C, m, n, o, p, D, x, cd, a8, Z, a4, a2, s, N, a3, a7, a0, a1, U, a9, V, W, cq, cx, b0, b1, b4, Y, b5, b6, b7, b8, a6]; constructor <;> rfl) ?_
  refine FSem.mono (encode_s 185000000 bb X hokb (by decide) hP2.p8) ?_
  rintro _q3 M7 ⟨hA7, hR7, hW7, hN7⟩
  have hkk := Keep.of hA7
  replace S := hkk.cell S
  replace cd := hkk.cell cd
  replace X := X.keep hkk
  replace hBd := hBd.keep hkk
  replace a5 := a5.keep hkk
  replace a3 := conv_by hR7 _ (Keep.refl _)
  refine And.intro (lag_list (l := [3]) (by kernel_rfl) (lag_cons (lag_one rfl (by simp [S, A, c9, j, E, B, g, f, y, z, O, u, w, F, K, L, d, C, m, n, o, p, D, x, cd, a8, Z, a4, a2, s, N, a3, a7, a0, a1, U, a9, V, W, cq, cx, b0, b1, b4, Y, b5, b6, b7, b8, a6]; constructor <;> rfl) rfl (by simp [S, A, c9, j, E, B, g, f, y, z, O, u, w, F, K, L, d, C, m, n, o, p, D, x, cd, a8, Z, a4, a2, s, N, a3, a7, a0, a1, U, a9, V, W, cq, cx, b0, b1, b4, Y, b5, b6, b7, b8, a6]) (by simp [sameL, sameV_agg, sameV_int, sameV_bool, sameV_str, sameV_ptr, sameV_sl, sameV_map, same1_int, same1_bool, same1_str, same1_ptr, same1_sl, same1_map, S, A, c9, j, E, B, g, f, y, z, O, u, w, F, K, L, d, C, m, n, o, p, D, x, cd, a8, Z, a4, a2, s, N, a3, a7, a0, a1, U, a9, V, W, cq, cx, b0, b1, b4, Y, b5, b6, b7, b8, a6]) rfl) rfl)) ?_
  refine XK.run [2] (by kernel_rfl) (by simp [S, A, c9, j, E, B, g, f, y, z, O, u, w, F, K, L, d, C, m, n, o, p, D, x, cd, a8, Z, a4, a2, s, N, a3, a7, a0, a1, U, a9, V, W, cq, cx, b0, b1, b4, Y, b5, b6, b7, b8, a6]; constructor <;> rfl) ?_
  refine XK.call rfl (by simp [S, A, c9, j, E, B, g, f, y, z, O, u, w, F, K, L, d, C, m, n, o, p, D, x, cd, a8, Z, a4, a2, s, N, a3, a7, a0, a1, U, a9, V, W, cq, cx, b0, b1, b4, Y, b5, b6, b7, b8, a6]) rfl (by simp [Tryd.func21, Tryd.f21, S, A, c9, j, E, B, g, f, y, z, O, u, w, F, K, L, d, C, m, n, o, p, D, x, cd, a8, Z, a4, a2, s, N, a3, a7, a0, a1, U, a9, V, W, cq, cx, b0, b1, b4, Y, b5, b6, b7, b8, a6]; constructor <;> rfl) ?_
  refine FSem.mono (encode_s 185000000 bb hBd hokb (by decide) hP2.p8) ?_
  rintro _q4 M8 ⟨hA8, hR8, hW8, hN8⟩
  have hkk := Keep.of hA8
  replace a5 := a5.keep hkk
  replace a3 := conv_by (hR7.keep hkk) _ (Keep.refl _)
  replace a7 := conv_by hR8 _ (Keep.refl _)
  refine And.intro (lag_list (l := [2]) (by kernel_rfl) (lag_cons (lag_one rfl (by simp [S, A, c9, j, E, B, g, f, y, z, O, u, w, F, K, L, d, C, m, n, o, p, D, x, cd, a8, Z, a4, a2, s, N, a3, a7, a0, a1, U, a9, V, W, cq, cx, b0, b1, b4, Y, b5, b6, b7, b8, a6]; constructor <;> rfl) rfl (by simp [S, A, c9, j, E, B, g, f, y, z, O, u, w, F, K, L, d, C, m, n, o, p, D, x, cd, a8, Z, a4, a2, s, N, a3, a7, a0, a1, U, a9, V, W, cq, cx, b0, b1, b4, Y, b5, b6, b7, b8, a6]) (by simp [sameL, sameV_agg, sameV_int, sameV_bool, sameV_str, sameV_ptr, sameV_sl, sameV_map, same1_int, same1_bool, same1_str, same1_ptr, same1_sl, same1_map, S, A, c9, j, E, B, g, f, y, z, O, u, w, F, K, L, d, C, m, n, o, p, D, x, cd, a8, Z, a4, a2, s, N, a3, a7, a0, a1, U, a9, V, W, cq, cx, b0, b1, b4, Y, b5, b6, b7, b8, a6]) rfl) rfl)) ?_
  refine XK.run [5, 6] (by kernel_rfl) (by simp [S, A, c9, j, E, B, g, f, y, z, O, u, w, F, K, L, d, C, m, n, o, p, D, x, cd, a8, Z, a4, a2, s, N, a3, a7, a0, a1, U, a9, V, W, cq, cx, b0, b1, b4, Y, b5, b6, b7, b8, a6]; constructor <;> rfl) ?_
  refine XK.one rfl (by simp [S, A, c9, j, E, B, g, f, y, z, O, u, w, F, K, L, d, C, m, n, o, p, D, x, cd, a8, Z, a4, a2, s, N, a3, a7, a0, a1, U, a9, V, W, cq, cx, b0, b1, b4, Y, b5, b6, b7, b8, a6]) rfl (by simp [S, A, c9, j, E, B, g, f, y, z, O, u, w, F, K, L, d, C, m, n, o, p, D, x, cd, a8, Z, a4, a2, s, N, a3, a7, a0, a1, U, a9, V, W, cq, cx, b0, b1, b4, Y, b5, b6, b7, b8, a6]; constructor <;> rfl) (lag_list (l := []) (by kernel_rfl) rfl) ?_
  refine XK.nil ?_
  refine DK.ret ?_
  refine And.intro (Or.inr rfl) ?_
  refine ⟨_, by simp [absAnswer, absResults, absResult, Tryd.f9]; rfl, ?_⟩
  first | exact ⟨(hk0.trans a5).ext, by simp, by simp⟩ | exact ⟨⟨[], (List.append_nil _).symm⟩, by simp, by simp⟩
end Go.Den
set_option linter.unusedVariables false
set_option maxRecDepth 100000
namespace Go.Den
open Go Go.Proofs
theorem rowV_idx {α : Type} [Cel α] : ∀ (l : List α) (i : Nat) (v : Value), (rowV l)[i]? = some v → ∃ (j : Nat) (hj : j < l.length) (r : Nat), r < Cel.k α ∧ i = j * Cel.k α + r ∧ (Cel.f l[j])[r]? = some v
  | [], i, v, h => by simp at h
  | a :: l, i, v, h => by
    rw [rowV_cons] at h
    by_cases hi : i < Cel.k α
    · rw [List.getElem?_append_left (by rw [Cel.len]; exact hi)] at h
      exact ⟨0, by simp, i, hi, by simp, h⟩
    · rw [List.getElem?_append_right (by rw [Cel.len]; omega), Cel.len] at h
      obtain ⟨j, hj, r, h1, h2, h3⟩ := rowV_idx l _ v h
      exact ⟨j + 1, by simpa using hj, r, h1, by rw [Nat.succ_mul]; omega, by simpa using h3⟩
def ladCells : List Value := [.int .i64 1, .int .i64 3, .int .i64 7]
end Go.Den
set_option linter.unusedVariables false
set_option maxRecDepth 100000
namespace Go.Den
open Go Go.Proofs Go.Deep Go.Joins Go.ChangeShapes Go.WideShapes Go.ChangeAt Go.RowKit
theorem acells4 : Tryd.prog.cellsOf 51 = 4 := by kernel_rfl
def ActsIn (W : World) (v : Value) (acts : List At4) : Prop := (∀ a ∈ acts, a.ok) ∧
  ((v = .slice none 0 0 ∧ acts = []) ∨ ∃ b o cap, v = .slice (some ⟨b, o, none⟩) acts.length cap ∧ acts.length ≤ cap ∧ b < W.heap.size ∧ ∀ (i : Nat) (u : Value), (rowV acts)[i]? = some u → W.cell? ⟨b, o + i, none⟩ = some u ∧ flat u = true)
theorem acts_in {H : Type} {enc : TypeId × Value → H} {W : World} {base : Nat} {ao : Option Addr} {len cap : Nat} {d : DataW H} {p : List MemPlace} (hw : Value.okWide Tryd.prog W .any base 23 (.slice ao len cap))
    (h : DataW.Trod enc Tryd.prog W 0 (fun _ => true) true 23 (.slice ao len cap) d p) : ∃ acts, ActsIn W (.slice ao len cap) acts := by
  obtain ⟨fuel, hf⟩ := h
  rcases open_slice Tryd.underlying23 hf with ⟨hcs, _⟩ | ⟨a, len', cap', m, n, D, Pl, hcs, hb, hl, hm, hmm, hx, hel⟩
  · simp [Value.cells] at hcs
    obtain ⟨rfl, rfl, rfl⟩ := hcs
    exact ⟨[], fun a ha => by simp at ha, .inl ⟨rfl, rfl⟩⟩
  · simp [Value.cells] at hcs
    obtain ⟨rfl, rfl, rfl⟩ := hcs
    simp only [if_true] at hmm
    have hhas : W.has Tryd.prog .any base a 51 cap := by
      simp only [Value.okWide, Tryd.underlying23, Cell.okWide, Cell.ok] at hw
      exact hw.2.2
    obtain ⟨_, hspot, row, cells, hsh, _⟩ := hhas
    obtain ⟨b, off, spot⟩ := a
    simp only at hspot
    subst hspot
    have hbl : b < W.heap.size := by
      unfold World.shape? at hsh
      cases hq : W.heap[b]? with
      | none => rw [hq] at hsh; cases hsh
      | some _ => exact (Array.getElem?_eq_some_iff.1 hq).1
    have each : ∀ i, i < len → ∃ x : At4, x.ok ∧ W.cell? ⟨b, off + i * 4, none⟩ = some (.int .u8 x.k) ∧ W.cell? ⟨b, off + i * 4 + 1, none⟩ = some (.int .u8 x.a) ∧ W.cell? ⟨b, off + i * 4 + 2, none⟩ = some (.int .u8 x.b) ∧ W.cell? ⟨b, off + i * 4 + 3, none⟩ = some (.int .u8 x.c) := by
      intro i hi
      obtain ⟨cs', h1, h2⟩ := hel i (by omega)
      rw [acells4] at h1
      obtain ⟨_, hlen, hcell⟩ := World.cells?_some h1
      obtain ⟨xs, k, hk, hxy, _, hxl, hfl⟩ := DataW.trod_struct Tryd.underlying51 h2
      have g0 := hfl 0 _ rfl
      have g1 := hfl 1 _ rfl
      have g2 := hfl 2 _ rfl
      have g3 := hfl 3 _ rfl
      have c1 : Tryd.prog.cellsOf 5 = 1 := by kernel_rfl
      match cs', hlen with
      | [v0, v1, v2, v3], _ =>
        simp [c1] at g0 g1 g2 g3
        have e0 := hcell 0 (by omega)
        have e1 := hcell 1 (by omega)
        have e2 := hcell 2 (by omega)
        have e3 := hcell 3 (by omega)
        obtain ⟨y0, hy0⟩ : ∃ y, xs[0]? = some y := ⟨_, List.getElem?_eq_getElem (by rw [hxl]; simp)⟩
        rw [hy0] at g0
        obtain ⟨a0, q0, _, w0⟩ := DataW.trod_int Tryd.underlying5 g0
        obtain ⟨y1, hy1⟩ : ∃ y, xs[1]? = some y := ⟨_, List.getElem?_eq_getElem (by rw [hxl]; simp)⟩
        rw [hy1] at g1
        obtain ⟨a1, q1, _, w1⟩ := DataW.trod_int Tryd.underlying5 g1
        obtain ⟨y2, hy2⟩ : ∃ y, xs[2]? = some y := ⟨_, List.getElem?_eq_getElem (by rw [hxl]; simp)⟩
        rw [hy2] at g2
        obtain ⟨a2, q2, _, w2⟩ := DataW.trod_int Tryd.underlying5 g2
        obtain ⟨y3, hy3⟩ : ∃ y, xs[3]? = some y := ⟨_, List.getElem?_eq_getElem (by rw [hxl]; simp)⟩
        rw [hy3] at g3
        obtain ⟨a3, q3, _, w3⟩ := DataW.trod_int Tryd.underlying5 g3
        simp only [List.cons.injEq, and_true] at q0 q1 q2 q3
        subst q0 q1 q2 q3
        have ad : ∀ x y, ((⟨b, off, none⟩ : Addr).add x).add y = ⟨b, off + x + y, none⟩ := fun x y => by rw [Go.Deep.add_add]; unfold Addr.add; split <;> simp_all <;> omega
        rw [ad] at e0 e1 e2 e3
        try simp only [acells4] at e0 e1 e2 e3
        have r0 := bounds_u8 w0
        have r1 := bounds_u8 w1
        have r2 := bounds_u8 w2
        have r3 := bounds_u8 w3
        exact ⟨⟨a0, a1, a2, a3⟩, ⟨by dsimp only; omega, by dsimp only; omega, by dsimp only; omega, by dsimp only; omega⟩, e0, e1, e2, e3⟩
    haveI : Inhabited At4 := ⟨⟨0, 0, 0, 0⟩⟩
    obtain ⟨act, hact⟩ := choose_lt each
    refine ⟨(List.range len).map act, fun x hx => ?_, .inr ⟨b, off, cap, by simp, by simpa using hl, hbl, fun i u hu => ?_⟩⟩
    · simp at hx
      obtain ⟨j, hj, rfl⟩ := hx
      exact (hact j hj).1
    · obtain ⟨j, hj, r, hr, rfl, hc⟩ := rowV_idx _ _ _ hu
      simp at hj
      have hk : Cel.k At4 = 4 := rfl
      rw [hk] at hr ⊢
      obtain ⟨_, h0, h1, h2, h3⟩ := hact j hj
      simp only [List.getElem_map, List.getElem_range] at hc
      have hr4 : r = 0 ∨ r = 1 ∨ r = 2 ∨ r = 3 := by omega
      rcases hr4 with rfl | rfl | rfl | rfl
      · cases hc; exact ⟨by simpa [Nat.add_assoc] using h0, rfl⟩
      · cases hc; exact ⟨by simpa [Nat.add_assoc] using h1, rfl⟩
      · cases hc; exact ⟨by simpa [Nat.add_assoc] using h2, rfl⟩
      · cases hc; exact ⟨by simpa [Nat.add_assoc] using h3, rfl⟩
def placeOf : Value → Option (Nat × Nat)
  | .slice (some a) _ _ => some (a.block, a.off)
  | _ => none
end Go.Den
set_option linter.unusedVariables false
set_option maxRecDepth 100000
namespace Go.Den
open Go Go.Proofs Go.RowKit
def TB (W : World) : Prop := ∀ (i : Nat) (v : Value), ladCells[i]? = some v → W.cell? ⟨0, i, none⟩ = some v
theorem tb_of {W : World} (hT : Lib.TabIs Tryd.prog W "paybook/cycle.ladder" .i64 [1, 3, 7]) : TB W := by
  intro i v hv
  have hi : i < 3 := (List.getElem?_eq_some_iff.1 hv).1
  have hc := hT.cell (g := 0) (by kernel_rfl) i hi
  rw [hc]
  match i, hv with
  | 0, hv => cases hv; rfl
  | 1, hv => cases hv; rfl
  | 2, hv => cases hv; rfl
  | n + 3, hv => simp [ladCells] at hv
end Go.Den
set_option linter.unusedVariables false
set_option maxRecDepth 100000
namespace Go.Den
open Go Go.Proofs Go.Deep Go.Joins Go.ChangeShapes Go.WideShapes Go.ChangeAt Go.RowKit
def phi2 (s1 s2 : Option (Nat × Nat)) : Ren := fun n => if n = 0 then some ⟨0, 0, 3, true⟩ else if n = 1 then s1.map (fun q => ⟨q.1, q.2, 0, true⟩) else if n = 2 then s2.map (fun q => ⟨q.1, q.2, 0, true⟩) else none
def mem2 (r1 r2 : List Value) : Mem := [.cells true ladCells, .cells true r1, .cells true r2]
theorem lad2 (r1 r2 : List Value) : Lad (mem2 r1 r2) := ⟨true, rfl⟩
def RowIn (W : World) (s : Option (Nat × Nat)) (row : List Value) : Prop := ∀ b o, s = some (b, o) → b < W.heap.size ∧ ∀ (i : Nat) (v : Value), row[i]? = some v → W.cell? ⟨b, o + i, none⟩ = some v ∧ flat v = true
theorem mrel2 {W : World} {s1 s2 : Option (Nat × Nat)} {r1 r2 : List Value} (hl : TB W) (h1 : RowIn W s1 r1) (h2 : RowIn W s2 r2) : SRel Tryd.prog [0] (phi2 s1 s2) (mem2 r1 r2) W := by
  have h0 := hl 0 _ rfl
  have row : ∀ (n : Nat) (s : Option (Nat × Nat)) (r : List Value) (l : Loc) (k : Blk), RowIn W s r → s.map (fun q => (⟨q.1, q.2, 0, true⟩ : Loc)) = some l → some (Blk.cells true r) = some k → BRel (phi2 s1 s2) W l k := by
    intro n s r l k hr hn hk
    cases s with
    | none => cases hn
    | some q =>
      cases hn; cases hk
      exact ⟨rfl, fun i v hv => ⟨v, ((hr q.1 q.2 rfl).2 i v hv).1, .flat ((hr q.1 q.2 rfl).2 i v hv).2⟩, fun h => by cases h⟩
  refine ⟨⟨fun n l hn => ?_, fun n l k hn hk => ?_, fun n m l l' k k' hn hm hk hk' hw _ _ => ?_⟩, fun g hg => ?_⟩
  · unfold phi2 at hn
    split at hn
    · rename_i e; subst e; cases hn
      exact ⟨by simp [mem2], World.block_lt_of_cell? W _ h0⟩
    · split at hn
      · rename_i e; subst e
        cases s1 with
        | none => cases hn
        | some q => cases hn; exact ⟨by simp [mem2], (h1 q.1 q.2 rfl).1⟩
      · split at hn
        · rename_i e; subst e
          cases s2 with
          | none => cases hn
          | some q => cases hn; exact ⟨by simp [mem2], (h2 q.1 q.2 rfl).1⟩
        · cases hn
  · unfold phi2 at hn
    split at hn
    · rename_i e; subst e; cases hn; cases hk
      refine ⟨rfl, fun i v hv => ⟨v, by simpa using hl i v hv, .flat ?_⟩, fun h => by cases h⟩
      match i, hv with
      | 0, hv => cases hv; rfl
      | 1, hv => cases hv; rfl
      | 2, hv => cases hv; rfl
      | n + 3, hv => simp [ladCells] at hv
    · split at hn
      · rename_i e; subst e; exact row 1 s1 r1 l k h1 hn hk
      · split at hn
        · rename_i e; subst e; exact row 2 s2 r2 l k h2 hn hk
        · cases hn
  · have : k.wr = false := by
      unfold mem2 at hk
      match n, hk with
      | 0, hk => cases hk; rfl
      | 1, hk => cases hk; rfl
      | 2, hk => cases hk; rfl
      | n + 3, hk => simp at hk
    rw [this] at hw; cases hw
  · have e : g = 0 := by simpa using hg
    subst e
    exact ⟨_, rfl, rfl, rfl⟩
def inB (n k : Nat) : Value → Value
  | .slice (some _) m _ => .slice (some ⟨n, 0, none⟩) m k
  | v => v
def RowsIn {α : Type} [Cel α] (W : World) (v : Value) (l : List α) : Prop :=
  (v = .slice none 0 0 ∧ l = []) ∨ ∃ b o cap, v = .slice (some ⟨b, o, none⟩) l.length cap ∧ l.length ≤ cap ∧ b < W.heap.size ∧ ∀ (i : Nat) (u : Value), (rowV l)[i]? = some u → W.cell? ⟨b, o + i, none⟩ = some u ∧ flat u = true
theorem RowsIn.in_ {α : Type} [Cel α] {W : World} {v : Value} {l : List α} (h : RowsIn W v l) : RowIn W (placeOf v) (rowV l) := by
  rcases h with ⟨rfl, rfl⟩ | ⟨b, o, cap, rfl, h1, h2, h3⟩
  · intro b o e; cases e
  · intro b' o' e; cases e; exact ⟨h2, h3⟩
theorem RowsIn.rel {α : Type} [Cel α] {W : World} {v : Value} {l : List α} (h : RowsIn W v l) {φ : Ren} {n k : Nat} (hk : k ≠ 0) (hφ : φ n = (placeOf v).map (fun q => ⟨q.1, q.2, 0, true⟩)) : VRel φ (inB n k v) v := by
  rcases h with ⟨rfl, rfl⟩ | ⟨b, o, cap, rfl, h1, h2, h3⟩
  · exact .flat rfl
  · exact VRel.slice (a := ⟨n, 0, none⟩) (l := ⟨b, o, 0, true⟩) (by simpa [placeOf] using hφ) rfl h1 (.inl rfl) (.inl rfl) (fun e => by omega)
theorem RowsIn.row {α : Type} [Cel α] {W : World} {v : Value} {l : List α} (h : RowsIn W v l) {M : Mem} {n : Nat} (hM : M[n]? = some (.cells true (rowV l))) : RowAt M (inB n (Cel.k α) v) l := by
  rcases h with ⟨rfl, rfl⟩ | ⟨b, o, cap, rfl, h1, h2, h3⟩
  · exact RowAt.nil _
  · exact RowAt.all (b := n) (ro := true) hM
end Go.Den
set_option linter.unusedVariables false
set_option maxRecDepth 100000
namespace Go.Den
open Go Go.Proofs Go.RowKit
theorem bytesCalls (a0 : Int) (ao1 : Option Addr) (len1 cap1 : Nat) (act1 : List At4) (ao2 : Option Addr) (len2 cap2 : Nat) (act2 : List At4) (W : World) (w0 : (Lit.int .u16 a0).wf = true) (w1 : ActsIn W (.slice ao1 len1 cap1) act1) (w2 : ActsIn W (.slice ao2 len2 cap2) act2) (hT : TB W) :
    Calls Tryd.prog 9 #[.int .u16 a0, .slice ao1 len1 cap1, .slice ao2 len2 cap2] W fun e W' => e = .returned (.bool true) ∧ RowKit.Below W.heap.size W W' := by
  have b0 := bounds_u16 w0
  have q1 : RowsIn W (.slice ao1 len1 cap1) act1 := w1.2
  have q2 : RowsIn W (.slice ao2 len2 cap2) act2 := w2.2
  have hS := mrel2 hT q1.in_ q2.in_
  have hR1 := q1.row (M := mem2 (rowV act1) (rowV act2)) (n := 1) rfl
  have hR2 := q2.row (M := mem2 (rowV act1) (rowV act2)) (n := 2) rfl
  refine FSem.law (x := .bool true) (FSem.mono (bytes_law a0 (by omega) (by omega) act1 w1.1 act2 w2.1 (lad2 _ _) hR1 hR2) fun v H' h => h.1) rfl hS ?_ ?_
  · refine ⟨rfl, fun i v u hv hu => ?_⟩
    match i, hv, hu with
    | 0, hv, hu => cases hv; cases hu; exact .flat rfl
    | 1, hv, hu => cases hv; cases hu; exact q1.rel (by decide) rfl
    | 2, hv, hu => cases hv; cases hu; exact q2.rel (by decide) rfl
    | n + 3, hv, hu => simp at hv
  · intro n k hk
    match n, hk with
    | 0, hk => cases hk; rfl
    | 1, hk => cases hk; rfl
    | 2, hk => cases hk; rfl
    | n + 3, hk => simp [mem2] at hk
end Go.Den
