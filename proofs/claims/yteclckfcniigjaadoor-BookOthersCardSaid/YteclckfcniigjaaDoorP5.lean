/- A part of the proof. -/
import Derived.KernelRfl
import Derived.Deep.Slices
import Derived.WideShapes
import Derived.RowKit
import Derived.OpenShut
import Derived.Lib.SmallJoins
import Derived.ChangeOld
import Derived.ProofKit
import Derived.LaidMore
import Derived.Laws.LoneSync
import Derived.DeepKeys4
import Derived.Lib.LaidTab
import Derived.Test.YteclckfcniigjaaDoorP4
namespace Go.Den
open Go Go.Proofs
set_option maxRecDepth 100000
set_option maxHeartbeats 1000000
set_option linter.all false
attribute [local simp] evOps evOp absOp absBox absLoad absStore absField absIndexAddr absCells absBinOp absBin absInt absShift absUn absPick absNil absExtract absPlaces Instr.fill absBuiltin absMinMax plainV plainT allA flat cells_agg cells_int cells_bool cells_str cells_ptr cells_sl cells_map one_int one_bool one_str one_ptr one_sl one_map Act.eval Act.put Region.wanted yielded absCall TypeDesc.isRow
attribute [local simp high] bk_t bk_p bk_take bk_row BkL_len sp_bk sp_t sp_p
attribute [local simp] sp_nil sp_0 sp_s List.length_set
theorem bpass_s (k : Nat) (b : Bk) (n : Int) {sp : Value} {l : List As} {H : Mem} (hB : BkAt H sp l b) (hk : BOk k b) (hk3 : k ≤ 300000000) (hu : UnOk b.pls) : FSem Tryd.prog [0] 32 #[bkv b.today sp l, .int .i64 n] H fun v H' => BkRes H sp (passB b n) v H' := by
  refine FSem.ofK Tryd.func32 rfl ?_
  refine DK.from (b' := ⟨#[bkv b.today sp l, .int .i64 n, undef, undef, undef, undef, undef, undef, undef, undef, undef, undef, undef, undef, undef, undef, undef, undef, undef, undef, undef, undef, undef, undef, undef, undef, undef, undef, undef, undef, undef, undef, undef, undef, undef, undef, undef, undef, undef, undef, undef, undef, undef, undef, undef, undef, undef, undef, undef, undef, undef, undef, undef, undef, undef, undef, undef, undef], []⟩) (by kernel_rfl) ?_
  have m0 := True.intro
  have m1 := True.intro
  have qq := True.intro
  have hs0 := True.intro
  have hs1 := True.intro
  have hli := True.intro
  have hi0 := True.intro
  have hi1 := True.intro
  have hi3 := True.intro
  have hpt := True.intro
  have hcc := True.intro
  have hcd := True.intro
  have hce := True.intro
  have hwr := True.intro
  have hspl := True.intro
  obtain ⟨hsp0, hsp1⟩ := hB.pls.cells
  have hone := bk_ones hsp1
  have hl32 := hB.len
  have hB32 := hk.len
  refine DK.seq ?_
  refine DK.region (is := [0, 1, 2]) (by kernel_rfl) rfl ?_
  refine WK.run (rest := []) [0, 1, 2] (by simp [m0, m1, qq, hs0, hs1, hone, hsp0, hsp1, hl32, hli, hi0, hi1, hi3, hpt, hcc, hcd, hce, hwr, hspl, absIndex]; constructor <;> rfl) ?_
  refine WK.nil ?_
  refine DK.abs (fun M0 => AtM H [BkL b.today sp l, BkL 0 (.slice none 0 0) zL] M0) (AtM.start H [] [_, _]) ?_
  try clear hM
  rintro M0 hM
  replace m0 := hM.own 0 (by simp)
  replace m1 := hM.own 1 (by simp)
  simp only [List.getElem_cons_zero, List.getElem_cons_succ, Nat.add_zero] at m0 m1
  replace qq := hM.q2
  refine DK.scope ?_
  refine DK.seq ?_
  refine DK.seq ?_
  refine DK.region (is := [0, 1, 2, 3, 4]) (by kernel_rfl) rfl ?_
  refine WK.run (rest := []) [0, 1, 2, 3, 4] (by simp [m0, m1, qq, hs0, hs1, hone, hsp0, hsp1, hl32, hli, hi0, hi1, hi3, hpt, hcc, hcd, hce, hwr, hspl, absIndex]; constructor <;> rfl) ?_
  refine WK.nil ?_
  refine DK.test rfl rfl (fun h => ?_) (fun h => ?_)
  · try simp only [h]
    replace h := Tr.out h
    refine DK.seq ?_
    refine DK.region (is := [0, 1, 2]) (by kernel_rfl) rfl ?_
    refine WK.run (rest := []) [0, 1, 2] (by simp [m0, m1, qq, hs0, hs1, hone, hsp0, hsp1, hl32, hli, hi0, hi1, hi3, hpt, hcc, hcd, hce, hwr, hspl, absIndex]; constructor <;> rfl) ?_
    refine WK.nil ?_
    refine DK.abs (fun MZ => AtM H [BkL b.today sp l, BkL 0 (.slice none 0 0) zL] MZ) (hM.set (i := 1) (by simp) _) ?_
    try clear hM
    rintro MZ hM
    replace m0 := hM.own 0 (by simp)
    replace m1 := hM.own 1 (by simp)
    simp only [List.getElem_cons_zero, List.getElem_cons_succ, Nat.add_zero] at m0 m1
    replace qq := hM.q2
    have hres : passB b n = (zeroB, 6) := if_pos ‹_›
    have hBk := BkAt.zero MZ
    refine DK.ret ?_
    refine And.intro (Or.inr rfl) ?_
    refine ⟨_, by simp [absAnswer, absResults, absResult, Tryd.f32, m0, m1, qq, hs0, hs1, hsp0, hsp1, hl32, hli, hone]; rfl, ?_⟩
    exact ⟨_, _, by rw [hres]; rfl, by rw [hres]; exact hBk, hM.keep, by intro c hc; first | exact .inl hc | cases hc⟩
  try simp only [h]
  replace h := Fa.out h
  refine DK.skip ?_
  refine DK.seq ?_
  refine DK.region (is := [0, 1, 2, 3, 4, 5]) (by kernel_rfl) rfl ?_
  refine WK.run (rest := []) [0, 1, 2, 3, 4, 5] (by simp [m0, m1, qq, hs0, hs1, hone, hsp0, hsp1, hl32, hli, hi0, hi1, hi3, hpt, hcc, hcd, hce, hwr, hspl, absIndex]; constructor <;> rfl) ?_
  refine WK.nil ?_
  refine DK.abs (fun M1 => AtM H [BkL (IntKind.i64.wrap (b.today + n)) sp l, BkL 0 (.slice none 0 0) zL] M1) (hM.set (i := 0) (by simp) _) ?_
  try clear hM
  rintro M1 hM
  replace m0 := hM.own 0 (by simp)
  replace m1 := hM.own 1 (by simp)
  simp only [List.getElem_cons_zero, List.getElem_cons_succ, Nat.add_zero] at m0 m1
  replace qq := hM.q2
  refine DK.seq ?_
  refine DK.label ?_
  refine DK.seq ?_
  refine DK.seq ?_
  refine DK.region (is := [0, 1, 2]) (by kernel_rfl) rfl ?_
  refine WK.run (rest := []) [0, 1, 2] (by simp [m0, m1, qq, hs0, hs1, hone, hsp0, hsp1, hl32, hli, hi0, hi1, hi3, hpt, hcc, hcd, hce, hwr, hspl, absIndex]; constructor <;> rfl) ?_
  refine WK.nil ?_
  refine DK.block ?_
  refine DK.loopG [5, 6, 7, 8, 9, 10, 11, 25, 26, 27, 28, 29, 30, 31, 32, 33, 34, 35, 36, 37, 38, 39, 40, 41, 42, 43, 44, 45, 46, 47, 48, 49, 50, 51, 52, 53, 54, 55, 56] (fun fl vs H' => ∃ (i : Int) (li : List As) (dn : List Ac) (j5 j6 j7 j8 j9 j10 j11 j26 j27 j28 j29 j30 j31 j32 j33 j34 j35 j36 j37 j38 j39 j40 j41 j42 j43 j44 j45 j46 j47 j48 j49 j50 j51 j52 j53 j54 j55 j56 : Value), vs = [j5, j6, j7, j8, j9, j10, j11, .int .i64 i, j26, j27, j28, j29, j30, j31, j32, j33, j34, j35, j36, j37, j38, j39, j40, j41, j42, j43, j44, j45, j46, j47, j48, j49, j50, j51, j52, j53, j54, j55, j56] ∧ (AtM H [BkL (IntKind.i64.wrap (b.today + n)) sp li, BkL 0 (.slice none 0 0) zL] H' ∧ ∀ y ∈ li, OpenAt H' y.s y.a.op) ∧ 0 ≤ i ∧ i ≤ 32 ∧ li.length = 32 ∧ li.map As.a = dn ++ b.subs.drop i.toNat ∧ dn.length = i.toNat ∧ passL b.pls (IntKind.i64.wrap (b.today + n)) b.subs = passJ dn (passL b.pls (IntKind.i64.wrap (b.today + n)) (b.subs.drop i.toNat)) ∧ (∀ y ∈ li, blkOf y.s ≠ some H.length ∧ blkOf y.s ≠ some (H.length + 1)) ∧ fl = (32 - i).toNat) (32) (by kernel_rfl) ?_ ?_
  · refine ⟨_, l, [], _, _, _, _, _, _, _, _, _, _, _, _, _, _, _, _, _, _, _, _, _, _, _, _, _, _, _, _, _, _, _, _, _, _, _, _, _, _, rfl, ?_⟩
    exact ⟨⟨hM, fun y hy => (hB.op y hy).keep hM.keep⟩, by omega, by omega, hl32, by simpa using hB.map, rfl, passJ_0 _ _ _, fun y hy => ⟨(hB.op y hy).ne (Nat.le_refl _), (hB.op y hy).ne (by omega)⟩, by omega⟩
  rintro fl _ M ⟨i, li, dn, j5, j6, j7, j8, j9, j10, j11, j26, j27, j28, j29, j30, j31, j32, j33, j34, j35, j36, j37, j38, j39, j40, j41, j42, j43, j44, j45, j46, j47, j48, j49, j50, j51, j52, j53, j54, j55, j56, rfl, hf⟩
  try clear hM
  obtain ⟨⟨hM, hop⟩, hj0, hj1, hli1, hmp, hdn, hpj, hnn, hfl⟩ := hf
  replace hli := hli1
  replace m0 := hM.own 0 (by simp)
  replace m1 := hM.own 1 (by simp)
  simp only [List.getElem_cons_zero, List.getElem_cons_succ, Nat.add_zero] at m0 m1
  replace qq := hM.q2
  refine DK.from (by simp [setL]; exact rfl) ?_
  refine DK.seq ?_
  refine DK.region (is := [0]) (by kernel_rfl) rfl ?_
  refine WK.run (rest := []) [0] (by simp [m0, m1, qq, hs0, hs1, hone, hsp0, hsp1, hl32, hli, hi0, hi1, hi3, hpt, hcc, hcd, hce, hwr, hspl, absIndex]; constructor <;> rfl) ?_
  refine WK.nil ?_
  refine DK.seq ?_
  refine DK.test rfl rfl (fun h => ?_) (fun h => ?_)
  · try simp only [h]
    replace h := Tr.out h
    replace hi0 : 0 ≤ i := hj0
    replace hi1 : i < 32 := h
    replace hi3 : 2 + i.toNat * 13 ≤ 405 := by omega
    replace hwr : IntKind.i64.wrap (i + 1) = i + 1 := wrap_in _ (by omega) (by omega)
    obtain ⟨x, hx1, hxa, hxb, hxl, hxo, hpt1⟩ := hB.nth (i := i.toNat) (by omega)
    replace hpt := hpt1
    replace hs0 := hxo.cells.1
    replace hs1 := hxo.cells.2
    have hdr : b.subs.drop i.toNat = x.a :: b.subs.drop (i.toNat + 1) := by rw [List.drop_eq_getElem_cons hx1, hxa]
    refine DK.skip ?_
    refine DK.seq ?_
    refine DK.block ?_
    refine DK.seq ?_
    refine DK.region (is := [0, 1, 2, 3, 4]) (by kernel_rfl) rfl ?_
    refine WK.run (rest := []) [0, 1, 2, 3, 4] (by simp [m0, m1, qq, hs0, hs1, hone, hsp0, hsp1, hl32, hli, hi0, hi1, hi3, hpt, hcc, hcd, hce, hwr, hspl, absIndex]; constructor <;> rfl) ?_
    refine WK.nil ?_
    refine DK.abs (fun MA => AtM H [BkL (IntKind.i64.wrap (b.today + n)) sp li, BkL 0 (.slice none 0 0) zL] MA ∧ MA[M.length]? = some (.cells false (x.a.l x.s)) ∧ (∀ y ∈ li, OpenAt MA y.s y.a.op)) ⟨hM.on (Keep.app _ _), by simp, fun y hy => (hop y hy).app _⟩ ?_
    try clear hM
    try clear hcc
    try clear hop
    rintro MA ⟨hM, hcc, hop⟩
    replace m0 := hM.own 0 (by simp)
    replace m1 := hM.own 1 (by simp)
    simp only [List.getElem_cons_zero, List.getElem_cons_succ, Nat.add_zero] at m0 m1
    replace qq := hM.q2
    refine DK.seq ?_
    refine DK.seq ?_
    refine DK.region (is := [0, 1, 2]) (by kernel_rfl) rfl ?_
    refine WK.run (rest := []) [0, 1, 2] (by simp [m0, m1, qq, hs0, hs1, hone, hsp0, hsp1, hl32, hli, hi0, hi1, hi3, hpt, hcc, hcd, hce, hwr, hspl, absIndex]; constructor <;> rfl) ?_
    refine WK.nil ?_
    refine DK.test rfl rfl (fun h => ?_) (fun h => ?_)
    · try simp only [h]
      replace h := Tr.out h
      refine DK.exit ?_
      refine DK.region (is := [0, 1]) (by kernel_rfl) rfl ?_
      refine WK.run (rest := []) [0, 1] (by simp [m0, m1, qq, hs0, hs1, hone, hsp0, hsp1, hl32, hli, hi0, hi1, hi3, hpt, hcc, hcd, hce, hwr, hspl, absIndex]; constructor <;> rfl) ?_
      refine WK.nil ?_
      refine ⟨by kernel_rfl, (32 - (i + 1)).toNat, ?_, _, li, dn ++ [x.a], _, _, _, _, _, _, _, _, _, _, _, _, _, _, _, _, _, _, _, _, _, _, _, _, _, _, _, _, _, _, _, _, _, _, _, _, _, _, rfl, ?_⟩
      · omega
      · rw [hdr, passJ_skip ‹_›] at hpj
        rw [show (i + 1).toNat = i.toNat + 1 by omega]
        exact ⟨⟨hM, hop⟩, by omega, by omega, hli, by rw [hmp, hdr]; simp, by simp [hdn], hpj, hnn, rfl⟩
    try simp only [h]
    replace h := Fa.out h
    refine DK.skip ?_
    refine DK.seq ?_
    refine DK.region (is := [0, 1, 2, 3, 4, 5, 6, 7, 8, 9, 10]) (by kernel_rfl) rfl ?_
    refine WK.run (rest := [4, 5, 6, 7, 8, 9, 10]) [0, 1, 2, 3] (by simp [m0, m1, qq, hs0, hs1, hone, hsp0, hsp1, hl32, hli, hi0, hi1, hi3, hpt, hcc, hcd, hce, hwr, hspl, absIndex]; constructor <;> rfl) ?_
    refine WK.call rfl (by simp [m0, m1, qq, hs0, hs1, hone, hsp0, hsp1, hl32, hli, hi0, hi1, hi3, hpt, hcc, hcd, hce, hwr, hspl, absIndex]) (by simp [Tryd.func55, Tryd.f55, m0, m1, qq, hs0, hs1, hone, hsp0, hsp1, hl32, hli, hi0, hi1, hi3, hpt, hcc, hcd, hce, hwr, hspl, absIndex]; constructor <;> rfl) ?_
    refine FSem.mono (getp_g b.pls x.a.pl (hB.pls.keep hM.keep)) ?_
    rintro _ Hq ⟨p, e1, rfl, hgp, hq⟩
    subst hq
    refine WK.run (rest := []) [5, 6, 7, 8, 9, 10] (by simp [m0, m1, qq, hs0, hs1, hone, hsp0, hsp1, hl32, hli, hi0, hi1, hi3, hpt, hcc, hcd, hce, hwr, hspl, absIndex]; constructor <;> rfl) ?_
    refine WK.nil ?_
    refine DK.abs (fun MB => AtM H [BkL (IntKind.i64.wrap (b.today + n)) sp li, BkL 0 (.slice none 0 0) zL] MB ∧ MB[MA.length]? = some (.cells false p.l) ∧ MB[M.length]? = some (.cells false (x.a.l x.s)) ∧ (∀ y ∈ li, OpenAt MB y.s y.a.op)) ⟨hM.on (Keep.app _ _), by simp, by rw [List.getElem?_append_left (List.getElem?_eq_some_iff.1 hcc).1]; exact hcc, fun y hy => (hop y hy).app _⟩ ?_
    try clear hM
    try clear hcd
    try clear hcc
    try clear hop
    rintro MB ⟨hM, hcd, hcc, hop⟩
    replace m0 := hM.own 0 (by simp)
    replace m1 := hM.own 1 (by simp)
    simp only [List.getElem_cons_zero, List.getElem_cons_succ, Nat.add_zero] at m0 m1
    replace qq := hM.q2
    replace hs0 := hxo.cells.1
    replace hs1 := hxo.cells.2
    refine DK.seq ?_
    refine DK.region (is := [0, 1, 2, 3, 4, 5, 6, 7, 8, 9, 10]) (by kernel_rfl) rfl ?_
    refine WK.run (rest := [4, 5, 6, 7, 8, 9, 10]) [0, 1, 2, 3] (by simp [m0, m1, qq, hs0, hs1, hone, hsp0, hsp1, hl32, hli, hi0, hi1, hi3, hpt, hcc, hcd, hce, hwr, hspl, absIndex]; constructor <;> rfl) ?_
    refine WK.call rfl (by simp [m0, m1, qq, hs0, hs1, hone, hsp0, hsp1, hl32, hli, hi0, hi1, hi3, hpt, hcc, hcd, hce, hwr, hspl, absIndex]) (by simp [Tryd.func56, Tryd.f56, m0, m1, qq, hs0, hs1, hone, hsp0, hsp1, hl32, hli, hi0, hi1, hi3, hpt, hcc, hcd, hce, hwr, hspl, absIndex]; constructor <;> rfl) ?_
    refine FSem.mono (day_g x.a p (IntKind.i64.wrap (b.today + n)) (by have := getP_un hu x.a.pl; rw [hgp] at this; exact this) (hxo.keep hM.keep) (by have := hk.subs _ (hxa ▸ List.getElem_mem hx1); have := dayN_le this.1; omega)) ?_
    rintro _ M3 ⟨x2, e2, s2, rfl, hdy, hA, hO2, hF2⟩
    have hMB := hM
    replace hM := hM.on (Keep.of hA)
    replace hop := fun y hy => (hop y hy).keep (Keep.of hA)
    replace m0 := hM.own 0 (by simp)
    replace m1 := hM.own 1 (by simp)
    simp only [List.getElem_cons_zero, List.getElem_cons_succ, Nat.add_zero] at m0 m1
    replace qq := hM.q2
    replace hs0 := hO2.cells.1
    replace hs1 := hO2.cells.2
    have hspl1 := sp_at (t := (IntKind.i64.wrap (b.today + n))) (sp := sp) (l := li) (i := i.toNat) (by omega) ⟨x2, s2, hs1⟩
    replace hspl := hspl1
    simp only [Ac.l] at hspl
    refine WK.run (rest := []) [5, 6, 7, 8, 9, 10] (by simp [m0, m1, qq, hs0, hs1, hone, hsp0, hsp1, hl32, hli, hi0, hi1, hi3, hpt, hcc, hcd, hce, hwr, hspl, absIndex]; constructor <;> rfl) ?_
    refine WK.nil ?_
    refine DK.abs (fun MC => AtM H [BkL (IntKind.i64.wrap (b.today + n)) sp li, BkL 0 (.slice none 0 0) zL] MC ∧ MC[M3.length]? = some (.cells false (x2.l s2)) ∧ OpenAt MC s2 x2.op ∧ (∀ y ∈ li, OpenAt MC y.s y.a.op)) ⟨hM.on (Keep.app _ _), by simp, hO2.app _, fun y hy => (hop y hy).app _⟩ ?_
    try clear hM
    try clear hce
    try clear hO2
    try clear hop
    rintro MC ⟨hM, hce, hO2, hop⟩
    replace m0 := hM.own 0 (by simp)
    replace m1 := hM.own 1 (by simp)
    simp only [List.getElem_cons_zero, List.getElem_cons_succ, Nat.add_zero] at m0 m1
    replace qq := hM.q2
    refine DK.seq ?_
    refine DK.seq ?_
    refine DK.region (is := [0, 1]) (by kernel_rfl) rfl ?_
    refine WK.run (rest := []) [0, 1] (by simp [m0, m1, qq, hs0, hs1, hone, hsp0, hsp1, hl32, hli, hi0, hi1, hi3, hpt, hcc, hcd, hce, hwr, hspl, absIndex]; constructor <;> rfl) ?_
    refine WK.nil ?_
    refine DK.test rfl rfl (fun h => ?_) (fun h => ?_)
    · try simp only [h]
      replace h := Tr.out h
      refine DK.seq ?_
      refine DK.region (is := [0, 1, 2, 3]) (by kernel_rfl) rfl ?_
      refine WK.run (rest := []) [0, 1, 2, 3] (by simp [m0, m1, qq, hs0, hs1, hone, hsp0, hsp1, hl32, hli, hi0, hi1, hi3, hpt, hcc, hcd, hce, hwr, hspl, absIndex]; constructor <;> rfl) ?_
      refine WK.nil ?_
      refine DK.abs (fun MZ => AtM H [BkL (IntKind.i64.wrap (b.today + n)) sp li, BkL 0 (.slice none 0 0) zL] MZ) (hM.set (i := 1) (by simp) _) ?_
      try clear hM
      rintro MZ hM
      replace m0 := hM.own 0 (by simp)
      replace m1 := hM.own 1 (by simp)
      simp only [List.getElem_cons_zero, List.getElem_cons_succ, Nat.add_zero] at m0 m1
      replace qq := hM.q2
      have hres : passB b n = (zeroB, e2) := by
        have e := passJ_err (done := dn) (rest := b.subs.drop (i.toNat + 1)) ‹¬x.a.st = 0› (by rw [hgp]; exact hdy) ‹e2 ≠ 0›
        rw [hdr, e] at hpj
        unfold passB; rw [if_neg ‹_›]; simp only [hpj]; rw [if_pos ‹_›]
      have hBk := BkAt.zero MZ
      refine DK.ret ?_
      refine And.intro (Or.inr rfl) ?_
      refine ⟨_, by simp [absAnswer, absResults, absResult, Tryd.f32, m0, m1, qq, hs0, hs1, hsp0, hsp1, hl32, hli, hone]; rfl, ?_⟩
      exact ⟨_, _, by rw [hres]; rfl, by rw [hres]; exact hBk, hM.keep, by intro c hc; first | exact .inl hc | cases hc⟩
    try simp only [h]
    replace h := Fa.out h
    refine DK.skip ?_
    refine DK.region (is := [0, 1, 2, 3, 4]) (by kernel_rfl) rfl ?_
    refine WK.run (rest := []) [0, 1, 2, 3, 4] (by simp [m0, m1, qq, hs0, hs1, hone, hsp0, hsp1, hl32, hli, hi0, hi1, hi3, hpt, hcc, hcd, hce, hwr, hspl, absIndex]; constructor <;> rfl) ?_
    refine WK.nil ?_
    refine DK.region (is := [0, 1]) (by kernel_rfl) rfl ?_
    refine WK.run (rest := []) [0, 1] (by simp [m0, m1, qq, hs0, hs1, hone, hsp0, hsp1, hl32, hli, hi0, hi1, hi3, hpt, hcc, hcd, hce, hwr, hspl, absIndex]; constructor <;> rfl) ?_
    refine WK.nil ?_
    refine ⟨by kernel_rfl, (32 - (i + 1)).toNat, ?_, _, li.set i.toNat ⟨x2, s2, hs1⟩, dn ++ [x2], _, _, _, _, _, _, _, _, _, _, _, _, _, _, _, _, _, _, _, _, _, _, _, _, _, _, _, _, _, _, _, _, _, _, _, _, _, _, rfl, ?_⟩
    · omega
    · rw [hdr, passJ_go ‹¬x.a.st = 0› (by rw [hgp]; exact hdy) ‹e2 = 0›] at hpj
      rw [hdr] at hmp
      rw [show (i + 1).toNat = i.toNat + 1 by omega]
      have hs2n : blkOf s2 ≠ some H.length ∧ blkOf s2 ≠ some (H.length + 1) := ⟨hF2.ne (hMB.lt (i := 0) (by simp)), hF2.ne (hMB.lt (i := 1) (by simp))⟩
      refine ⟨⟨hM.set (i := 0) (by simp) _, fun y hy => ?_⟩, by omega, by omega, by rw [List.length_set]; exact hli, map_set_mid hmp hdn, by simp [hdn], hpj, fun y hy => ?_, rfl⟩
      · rcases List.mem_or_eq_of_mem_set hy with q | rfl
        · exact (hop y q).set (hnn y q).1 _
        · exact hO2.set hs2n.1 _
      · rcases List.mem_or_eq_of_mem_set hy with q | rfl
        · exact hnn y q
        · exact hs2n
  try simp only [h]
  replace h := Fa.out h
  refine DK.exit ?_
  refine DK.seq ?_
  refine DK.region (is := [0, 1, 2]) (by kernel_rfl) rfl ?_
  refine WK.run (rest := []) [0, 1, 2] (by simp [m0, m1, qq, hs0, hs1, hone, hsp0, hsp1, hl32, hli, hi0, hi1, hi3, hpt, hcc, hcd, hce, hwr, hspl, absIndex]; constructor <;> rfl) ?_
  refine WK.nil ?_
  refine DK.abs (fun MF => AtM H [BkL (IntKind.i64.wrap (b.today + n)) sp li, BkL (IntKind.i64.wrap (b.today + n)) sp li] MF ∧ (∀ y ∈ li, OpenAt MF y.s y.a.op)) ⟨hM.set (i := 1) (by simp) _, fun y hy => ((hop y hy).set (hnn y hy).2 _)⟩ ?_
  try clear hM
  try clear hop
  rintro MF ⟨hM, hop⟩
  replace m0 := hM.own 0 (by simp)
  replace m1 := hM.own 1 (by simp)
  simp only [List.getElem_cons_zero, List.getElem_cons_succ, Nat.add_zero] at m0 m1
  replace qq := hM.q2
  have hi : i = 32 := by omega
  subst hi
  have hres : passB b n = (⟨(IntKind.i64.wrap (b.today + n)), b.pls, dn⟩, 0) := by
    rw [show b.subs.drop (32 : Int).toNat = [] from List.drop_of_length_le (by rw [hB32]; decide), passJ_nil] at hpj
    unfold passB; rw [if_neg ‹_›]; simp only [hpj]; rw [if_neg (by simp)]
  have hBk : BkAt MF sp li ⟨(IntKind.i64.wrap (b.today + n)), b.pls, dn⟩ := ⟨hB.pls.keep hM.keep, by rw [hmp, List.drop_of_length_le (by rw [hB32]; decide), List.append_nil], hli, hop⟩
  refine DK.ret ?_
  refine And.intro (Or.inr rfl) ?_
  refine ⟨_, by simp [absAnswer, absResults, absResult, Tryd.f32, m0, m1, qq, hs0, hs1, hsp0, hsp1, hl32, hli, hone]; rfl, ?_⟩
  exact ⟨_, _, by rw [hres]; rfl, by rw [hres]; exact hBk, hM.keep, by intro c hc; first | exact .inl hc | cases hc⟩
end Go.Den
set_option linter.unusedVariables false
set_option maxRecDepth 100000
namespace Go.Den
open Go Go.Proofs
theorem addp_g (l : List Pl) (p : Pl) {s : Value} {H : Mem} (hR : RowAt H s l) : FSem Tryd.prog [0] 30 #[s, p.v] H fun v H' => ∃ pl k e s', v = .tuple #[s', .int .i64 k, .int .i64 e] ∧ addPl l p = (pl, k, e) ∧ RowOut H pl s' H' := by
  refine FSem.mono (addp_s l p hR) ?_
  rintro v H' ⟨s', rfl, h⟩
  exact ⟨_, _, _, s', rfl, rfl, h⟩
theorem bopen_g (k : Nat) (b : Bk) (o : Od) {sp : Value} {l : List As} {H : Mem} (hB : BkAt H sp l b) (hk : BOk k b) (hu : UnOk b.pls) (h0 : 0 ≤ o.su) (h1 : o.su < 32) : FSem Tryd.prog [0] 31 #[bkv b.today sp l, o.v] H fun v H' => ∃ x e s', v = .tuple #[Ac.v x s', .int .i64 e] ∧ openB b o = (x, e) ∧ AcOut H x H' s' := by
  refine FSem.mono (bopen_s k b o hB hk hu h0 h1) ?_
  rintro v H' ⟨s', rfl, h⟩
  exact ⟨_, _, s', rfl, rfl, h⟩
theorem bturn_g (k : Nat) (b : Bk) (a : Ac) (o : Od) {sp : Value} {l : List As} {H : Mem} (hB : BkAt H sp l b) (hk : BOk k b) (hu : UnOk b.pls) {s : Value} (hO : OpenAt H s a.op) (hn : a.op.length ≤ 1000000000000) : FSem Tryd.prog [0] 34 #[bkv b.today sp l, a.v s, o.v] H fun v H' => ∃ x e s', v = .tuple #[Ac.v x s', .int .i64 e] ∧ turnB b a o = (x, e) ∧ AcOut H x H' s' := by
  refine FSem.mono (bturn_s k b a o hB hk hu hO hn) ?_
  rintro v H' ⟨s', rfl, h⟩
  exact ⟨_, _, s', rfl, rfl, h⟩
theorem ahear_g (su : Int) (a : Ac) (n : Nt) (today : Int) {s : Value} {H : Mem} (hL : Lad H) (hO : OpenAt H s a.op) (hn : a.op.length ≤ 1000000000000) : FSem Tryd.prog [0] 33 #[.int .i64 su, a.v s, n.v, .int .i64 today] H fun v H' => ∃ x e s', v = .tuple #[Ac.v x s', .int .i64 e] ∧ hearA su a n today = (x, e) ∧ AcOut H x H' s' := by
  refine FSem.mono (ahear_s su a n today hL hO hn) ?_
  rintro v H' ⟨s', rfl, h⟩
  exact ⟨_, _, s', rfl, rfl, h⟩
theorem bpass_g (k : Nat) (b : Bk) (n : Int) {sp : Value} {l : List As} {H : Mem} (hB : BkAt H sp l b) (hk : BOk k b) (hk3 : k ≤ 300000000) (hu : UnOk b.pls) : FSem Tryd.prog [0] 32 #[bkv b.today sp l, .int .i64 n] H fun v H' => ∃ b' e sp' l', v = .tuple #[bkv b'.today sp' l', .int .i64 e] ∧ passB b n = (b', e) ∧ BkAt H' sp' l' b' ∧ l'.length = 32 ∧ sp'.oneCell' = true ∧ sp'.cells = #[sp'] ∧ Keep H H' ∧ ∀ c, blkOf sp' = some c → blkOf sp = some c ∨ H.length ≤ c := by
  refine FSem.mono (bpass_s k b n hB hk hk3 hu) ?_
  rintro v H' ⟨sp', l', rfl, h, hk, hsb⟩
  exact ⟨_, _, sp', l', rfl, rfl, h, h.len, h.pls.cells.2, h.pls.cells.1, hk, hsb⟩
def BkFree (sp : Value) (l : List As) (k : Nat) : Prop := blkOf sp ≠ some k ∧ ∀ x ∈ l, blkOf x.s ≠ some k
theorem BkAt.set {H : Mem} {sp : Value} {l : List As} {b : Bk} (h : BkAt H sp l b) {k : Nat} (hf : BkFree sp l k) (x : Blk) : BkAt (H.set k x) sp l b := ⟨h.pls.set hf.1 _, h.map, h.len, fun y hy => (h.op y hy).set (hf.2 y hy) _⟩
theorem BkAt.free {H : Mem} {sp : Value} {l : List As} {b : Bk} (h : BkAt H sp l b) {k : Nat} (hk : H.length ≤ k) : BkFree sp l k := ⟨fun e => by have := h.pls.lt e; omega, fun y hy => (h.op y hy).ne hk⟩
theorem BkFree.put {sp : Value} {l : List As} {k i : Nat} {x : As} (h : BkFree sp l k) (hx : blkOf x.s ≠ some k) : BkFree sp (l.set i x) k := ⟨h.1, fun y hy => by
  rcases List.mem_or_eq_of_mem_set hy with q | rfl
  · exact h.2 y q
  · exact hx⟩
theorem BkAt.fre {H : Mem} {sp : Value} {l : List As} {b : Bk} (h : BkAt H sp l b) {k : Nat} {ro : Bool} {vs : List Value} (hk : H[k]? = some (.cells ro vs)) (hv : vs.length % 8 ≠ 0) (hs : blkOf sp ≠ some k) : BkFree sp l k := ⟨hs, fun y hy => (h.op y hy).far hk hv⟩
theorem put_ok {b : Bk} {i : Int} {x : Ac} {e : Int} : b.put i (x, e) = if e ≠ 0 then (zeroB, e) else ({ b with subs := b.subs.set i.toNat x }, 0) := rfl
end Go.Den
namespace Go.Den
open Go Go.Proofs
set_option maxRecDepth 100000
set_option maxHeartbeats 1000000
set_option linter.all false
attribute [local simp] evOps evOp absOp absBox absLoad absStore absField absIndexAddr absCells absBinOp absBin absInt absShift absUn absPick absNil absExtract absPlaces Instr.fill absBuiltin absMinMax plainV plainT allA flat cells_agg cells_int cells_bool cells_str cells_ptr cells_sl cells_map one_int one_bool one_str one_ptr one_sl one_map Act.eval Act.put Region.wanted yielded absCall TypeDesc.isRow
attribute [local simp high] bk_t bk_p bk_take bk_row BkL_len sp_bk sp_t sp_p
attribute [local simp] sp_nil sp_0 sp_s List.length_set
theorem step_s (k : Nat) (b : Bk) (o : Od) {sp : Value} {l : List As} {H : Mem} (hB : BkAt H sp l b) (hL : Lad H) (hk : BOk k b) (hk3 : k ≤ 300000000) (hu : UnOk b.pls) : FSem Tryd.prog [0] 16 #[bkv b.today sp l, o.v] H fun v H' => BkRes H sp (stepB b o) v H' := by
  refine FSem.ofK Tryd.func16 rfl ?_
  refine DK.from (b' := ⟨#[bkv b.today sp l, o.v, undef, undef, undef, undef, undef, undef, undef, undef, undef, undef, undef, undef, undef, undef, undef, undef, undef, undef, undef, undef, undef, undef, undef, undef, undef, undef, undef, undef, undef, undef, undef, undef, undef, undef, undef, undef, undef, undef, undef, undef, undef, undef, undef, undef, undef, undef, undef, undef, undef, undef, undef, undef, undef, undef, undef, undef, undef, undef, undef, undef, undef, undef, undef, undef, undef, undef, undef, undef, undef, undef, undef, undef, undef, undef, undef, undef, undef, undef, undef, undef, undef, undef, undef, undef, undef, undef, undef, undef, undef, undef, undef, undef, undef, undef, undef, undef], []⟩) (by kernel_rfl) ?_
  have m0 := True.intro
  have m1 := True.intro
  have m2 := True.intro
  have qq := True.intro
  have hs0 := True.intro
  have hs1 := True.intro
  have hi0 := True.intro
  have hi1 := True.intro
  have hi2 := True.intro
  have hi3 := True.intro
  have hst := True.intro
  have htk := True.intro
  have hspl := True.intro
  have hcc := True.intro
  have hst2 := True.intro
  have hsp2 := True.intro
  have hsp3 := True.intro
  have hone2 := True.intro
  obtain ⟨hsp0, hsp1⟩ := hB.pls.cells
  have hone := bk_ones hsp1
  have hl32 := hB.len
  refine DK.seq ?_
  refine DK.region (is := [0, 1, 2, 3]) (by kernel_rfl) rfl ?_
  refine WK.run (rest := []) [0, 1, 2, 3] (by simp [m0, m1, m2, qq, hs0, hs1, hone, hsp0, hsp1, hl32, hi0, hi1, hi2, hi3, hst, htk, hspl, hcc, hst2, hsp2, hsp3, hone2]; constructor <;> rfl) ?_
  refine WK.nil ?_
  refine DK.abs (fun M0 => AtM H [BkL b.today sp l, o.l, BkL 0 (.slice none 0 0) zL] M0) (AtM.start H [] [_, _, _]) ?_
  try clear hM
  rintro M0 hM
  replace m0 := hM.own 0 (by simp)
  replace m1 := hM.own 1 (by simp)
  replace m2 := hM.own 2 (by simp)
  simp only [List.getElem_cons_zero, List.getElem_cons_succ, Nat.add_zero] at m0 m1 m2
  replace qq := hM.q3
  refine DK.seq ?_
  refine DK.seq ?_
  refine DK.region (is := [0, 1, 2]) (by kernel_rfl) rfl ?_
  refine WK.run (rest := [1, 2]) [0] (by simp [m0, m1, m2, qq, hs0, hs1, hone, hsp0, hsp1, hl32, hi0, hi1, hi2, hi3, hst, htk, hspl, hcc, hst2, hsp2, hsp3, hone2]; constructor <;> rfl) ?_
  refine WK.call rfl (by simp [m0, m1, m2, qq, hs0, hs1, hone, hsp0, hsp1, hl32, hi0, hi1, hi2, hi3, hst, htk, hspl, hcc, hst2, hsp2, hsp3, hone2]) (by simp [Tryd.func15, Tryd.f15, m0, m1, m2, qq, hs0, hs1, hone, hsp0, hsp1, hl32, hi0, hi1, hi2, hi3, hst, htk, hspl, hcc, hst2, hsp2, hsp3, hone2]; constructor <;> rfl) ?_
  refine FSem.mono (oright_g o _) ?_
  rintro _ Hq ⟨rfl, hq⟩
  subst hq
  refine WK.run (rest := []) [2] (by simp [m0, m1, m2, qq, hs0, hs1, hone, hsp0, hsp1, hl32, hi0, hi1, hi2, hi3, hst, htk, hspl, hcc, hst2, hsp2, hsp3, hone2]; constructor <;> rfl) ?_
  refine WK.nil ?_
  refine DK.seq ?_
  refine DK.region (is := [0, 1]) (by kernel_rfl) rfl ?_
  refine WK.run (rest := []) [0, 1] (by simp [m0, m1, m2, qq, hs0, hs1, hone, hsp0, hsp1, hl32, hi0, hi1, hi2, hi3, hst, htk, hspl, hcc, hst2, hsp2, hsp3, hone2]; constructor <;> rfl) ?_
  refine WK.nil ?_
  refine DK.test rfl rfl (fun h => ?_) (fun h => ?_)
  · try simp only [h]
    replace h := Tr.out h
    refine DK.seq ?_
    refine DK.region (is := [0, 1, 2, 3]) (by kernel_rfl) rfl ?_
    refine WK.run (rest := []) [0, 1, 2, 3] (by simp [m0, m1, m2, qq, hs0, hs1, hone, hsp0, hsp1, hl32, hi0, hi1, hi2, hi3, hst, htk, hspl, hcc, hst2, hsp2, hsp3, hone2]; constructor <;> rfl) ?_
    refine WK.nil ?_
    refine DK.abs (fun MZ => AtM H [BkL b.today sp l, o.l, BkL 0 (.slice none 0 0) zL] MZ) (hM.set (i := 2) (by simp) _) ?_
    try clear hM
    rintro MZ hM
    replace m0 := hM.own 0 (by simp)
    replace m1 := hM.own 1 (by simp)
    replace m2 := hM.own 2 (by simp)
    simp only [List.getElem_cons_zero, List.getElem_cons_succ, Nat.add_zero] at m0 m1 m2
    replace qq := hM.q3
    have hres : stepB b o = (zeroB, rightO o) := if_pos ‹_›
    have hBk := BkAt.zero MZ
    have hsb : ∀ c, blkOf (.slice none 0 0) = some c → blkOf sp = some c ∨ H.length ≤ c := fun c hc => (by cases hc)
    refine DK.ret ?_
    refine And.intro (Or.inr rfl) ?_
    refine ⟨_, by simp [absAnswer, absResults, absResult, Tryd.f16, m0, m1, m2, qq, hs0, hs1, hsp0, hsp1, hl32, hone, hst2, hsp2, hsp3]; rfl, ?_⟩
    exact ⟨_, _, by rw [hres]; rfl, by rw [hres]; exact hBk, hM.keep, hsb⟩
  try simp only [h]
  replace h := Fa.out h
  have hr0 : rightO o = 0 := h
  obtain ⟨hsu1, hsu2⟩ := rightO_su hr0
  refine DK.skip ?_
  refine DK.seq ?_
  refine DK.region (is := [0]) (by kernel_rfl) rfl ?_
  refine WK.run (rest := []) [0] (by simp [m0, m1, m2, qq, hs0, hs1, hone, hsp0, hsp1, hl32, hi0, hi1, hi2, hi3, hst, htk, hspl, hcc, hst2, hsp2, hsp3, hone2]; constructor <;> rfl) ?_
  refine WK.nil ?_
  refine DK.seq ?_
  refine DK.seq ?_
  refine DK.region (is := [0, 1]) (by kernel_rfl) rfl ?_
  refine WK.run (rest := []) [0, 1] (by simp [m0, m1, m2, qq, hs0, hs1, hone, hsp0, hsp1, hl32, hi0, hi1, hi2, hi3, hst, htk, hspl, hcc, hst2, hsp2, hsp3, hone2]; constructor <;> rfl) ?_
  refine WK.nil ?_
  refine DK.block ?_
  refine DK.seq ?_
  refine DK.region (is := [0, 1]) (by kernel_rfl) rfl ?_
  refine WK.run (rest := []) [0, 1] (by simp [m0, m1, m2, qq, hs0, hs1, hone, hsp0, hsp1, hl32, hi0, hi1, hi2, hi3, hst, htk, hspl, hcc, hst2, hsp2, hsp3, hone2]; constructor <;> rfl) ?_
  refine WK.nil ?_
  refine DK.test rfl rfl (fun h => ?_) (fun h => ?_)
  · try simp only [h]
    replace h := Tr.out h
    refine DK.region (is := [0, 1, 2, 3, 4, 5, 6, 7, 8, 9, 10, 11]) (by kernel_rfl) rfl ?_
    refine WK.run (rest := [4, 5, 6, 7, 8, 9, 10, 11]) [0, 1, 2, 3] (by simp [m0, m1, m2, qq, hs0, hs1, hone, hsp0, hsp1, hl32, hi0, hi1, hi2, hi3, hst, htk, hspl, hcc, hst2, hsp2, hsp3, hone2]; constructor <;> rfl) ?_
    refine WK.call rfl (by simp [m0, m1, m2, qq, hs0, hs1, hone, hsp0, hsp1, hl32, hi0, hi1, hi2, hi3, hst, htk, hspl, hcc, hst2, hsp2, hsp3, hone2]) (by simp [Tryd.func30, Tryd.f30, m0, m1, m2, qq, hs0, hs1, hone, hsp0, hsp1, hl32, hi0, hi1, hi2, hi3, hst, htk, hspl, hcc, hst2, hsp2, hsp3, hone2]; constructor <;> rfl) ?_
    refine FSem.mono (addp_g b.pls o.p (hB.pls.keep hM.keep)) ?_
    rintro _ M3 ⟨pl2, k2, e2, s2, rfl, hap, hA, hR2, hW2, hN2⟩
    have hM0 := hM
    have hF3 : blkOf s2 ≠ some H.length := hN2.ne (hM.lt (i := 0) (by simp))
    replace hM := hM.on (Keep.of hA)
    replace m0 := hM.own 0 (by simp)
    replace m1 := hM.own 1 (by simp)
    replace m2 := hM.own 2 (by simp)
    simp only [List.getElem_cons_zero, List.getElem_cons_succ, Nat.add_zero] at m0 m1 m2
    replace qq := hM.q3
    replace hs0 := hR2.cells.1
    replace hs1 := hR2.cells.2
    refine WK.run (rest := []) [5, 6, 7, 8, 9, 10, 11] (by simp [m0, m1, m2, qq, hs0, hs1, hone, hsp0, hsp1, hl32, hi0, hi1, hi2, hi3, hst, htk, hspl, hcc, hst2, hsp2, hsp3, hone2]; constructor <;> rfl) ?_
    refine WK.nil ?_
    refine DK.abs (fun M4 => AtM H [BkL b.today s2 l, _, _] M4 ∧ RowAt M4 s2 pl2) ⟨hM.set (i := 0) (by simp) _, hR2.set hF3 _⟩ ?_
    try clear hM
    try clear hR2
    rintro M4 ⟨hM, hR2⟩
    replace m0 := hM.own 0 (by simp)
    replace m1 := hM.own 1 (by simp)
    replace m2 := hM.own 2 (by simp)
    simp only [List.getElem_cons_zero, List.getElem_cons_succ, Nat.add_zero] at m0 m1 m2
    replace qq := hM.q3
    have hBk := hB.plsSet hM.keep hR2
    have hres1 : stepB b o = if e2 ≠ 0 then (zeroB, e2) else ({ b with pls := pl2 }, 0) := by
      unfold stepB
      rw [if_neg (by simp [hr0]), if_pos ‹o.kd = 1›, hap]
    have hsb : ∀ c, blkOf s2 = some c → blkOf sp = some c ∨ H.length ≤ c := fun c hc => .inr (Nat.le_trans hM0.keep.1 (hN2 c hc))
    have hfr2 : blkOf s2 ≠ some (H.length + 2) := hN2.ne (hM0.lt (i := 2) (by simp))
    replace hone := bk_ones hs1
    replace hsp1 := hs1
    replace hsp0 := hs0
    refine DK.seq ?_
    refine DK.seq ?_
    refine DK.region (is := [0, 1]) (by kernel_rfl) rfl ?_
    refine WK.run (rest := []) [0, 1] (by simp [m0, m1, m2, qq, hs0, hs1, hone, hsp0, hsp1, hl32, hi0, hi1, hi2, hi3, hst, htk, hspl, hcc, hst2, hsp2, hsp3, hone2]; constructor <;> rfl) ?_
    refine WK.nil ?_
    refine DK.test rfl rfl (fun h => ?_) (fun h => ?_)
    · try simp only [h]
      replace h := Tr.out h
      refine DK.seq ?_
      refine DK.region (is := [0, 1, 2, 3]) (by kernel_rfl) rfl ?_
      refine WK.run (rest := []) [0, 1, 2, 3] (by simp [m0, m1, m2, qq, hs0, hs1, hone, hsp0, hsp1, hl32, hi0, hi1, hi2, hi3, hst, htk, hspl, hcc, hst2, hsp2, hsp3, hone2]; constructor <;> rfl) ?_
      refine WK.nil ?_
      refine DK.abs (fun MZ => AtM H [_, _, BkL 0 (.slice none 0 0) zL] MZ) (hM.set (i := 2) (by simp) _) ?_
      try clear hM
      rintro MZ hM
      replace m0 := hM.own 0 (by simp)
      replace m1 := hM.own 1 (by simp)
      replace m2 := hM.own 2 (by simp)
      simp only [List.getElem_cons_zero, List.getElem_cons_succ, Nat.add_zero] at m0 m1 m2
      replace qq := hM.q3
      have hres : stepB b o = (zeroB, e2) := hres1.trans (if_pos ‹_›)
      replace hBk := BkAt.zero MZ
      replace hsb : ∀ c, blkOf (.slice none 0 0) = some c → blkOf sp = some c ∨ H.length ≤ c := fun c hc => (by cases hc)
      refine DK.ret ?_
      refine And.intro (Or.inr rfl) ?_
      refine ⟨_, by simp [absAnswer, absResults, absResult, Tryd.f16, m0, m1, m2, qq, hs0, hs1, hsp0, hsp1, hl32, hone, hst2, hsp2, hsp3]; rfl, ?_⟩
      exact ⟨_, _, by rw [hres]; rfl, by rw [hres]; exact hBk, hM.keep, hsb⟩
    try simp only [h]
    replace h := Fa.out h
    refine DK.skip ?_
    refine DK.seq ?_
    refine DK.region (is := [0, 1, 2]) (by kernel_rfl) rfl ?_
    refine WK.run (rest := []) [0, 1, 2] (by simp [m0, m1, m2, qq, hs0, hs1, hone, hsp0, hsp1, hl32, hi0, hi1, hi2, hi3, hst, htk, hspl, hcc, hst2, hsp2, hsp3, hone2]; constructor <;> rfl) ?_
    refine WK.nil ?_
    have hres := hres1.trans (if_neg (by simpa using ‹e2 = 0›))
    refine DK.abs (fun MF => AtM H [_, _, _] MF ∧ BkAt MF _ _ _) ⟨hM.set (i := 2) (by simp) _, hBk.set (hBk.fre m2 (by rw [BkL_len (by simp)]; decide) hfr2) _⟩ ?_
    try clear hM
    try clear hBk
    rintro MF ⟨hM, hBk⟩
    replace m0 := hM.own 0 (by simp)
    replace m1 := hM.own 1 (by simp)
    replace m2 := hM.own 2 (by simp)
    simp only [List.getElem_cons_zero, List.getElem_cons_succ, Nat.add_zero] at m0 m1 m2
    replace qq := hM.q3
    refine DK.ret ?_
    refine And.intro (Or.inr rfl) ?_
    refine ⟨_, by simp [absAnswer, absResults, absResult, Tryd.f16, m0, m1, m2, qq, hs0, hs1, hsp0, hsp1, hl32, hone, hst2, hsp2, hsp3]; rfl, ?_⟩
    exact ⟨_, _, by rw [hres]; rfl, by rw [hres]; exact hBk, hM.keep, hsb⟩
  try simp only [h]
  replace h := Fa.out h
  refine DK.seq ?_
  refine DK.region (is := [0, 1]) (by kernel_rfl) rfl ?_
  refine WK.run (rest := []) [0, 1] (by simp [m0, m1, m2, qq, hs0, hs1, hone, hsp0, hsp1, hl32, hi0, hi1, hi2, hi3, hst, htk, hspl, hcc, hst2, hsp2, hsp3, hone2]; constructor <;> rfl) ?_
  refine WK.nil ?_
  refine DK.test rfl rfl (fun h => ?_) (fun h => ?_)
  · try simp only [h]
    replace h := Tr.out h
    have hsu3 := hsu2 (by omega) (by omega) (by omega)
    obtain ⟨x, hxa, hxl, hxo, htk1, hst1, hpt1⟩ := hB.sub (i := o.su) (by omega) (by omega)
    replace hi0 : 0 ≤ o.su := by omega
    replace hi1 : o.su < 32 := by omega
    replace hi2 : 2 + o.su.toNat * 13 ≤ 417 := by omega
    replace hi3 : 2 + o.su.toNat * 13 ≤ 405 := by omega
    replace hst := hst1 b.today
    replace htk := htk1 b.today
    simp only [Ac.l] at htk
    replace hs0 := hxo.cells.1
    replace hs1 := hxo.cells.2
    have hxn : x.a.op.length ≤ 1000000000000 := by rw [hxa]; have := (hk.subs _ (sub_mem hk.len (i := o.su) (by omega) (by omega))).2; omega
    refine DK.draw rfl (POk.of (ord := [0, 1, 2, 3, 8, 4, 5, 6, 7, 9, 10, 11]) (by kernel_rfl)) ?_
    refine XK.run (rest := [4, 5, 6, 7, 9, 10, 11]) [0, 1, 2, 3, 8] (by kernel_rfl) (by simp [m0, m1, m2, qq, hs0, hs1, hone, hsp0, hsp1, hl32, hi0, hi1, hi2, hi3, hst, htk, hspl, hcc, hst2, hsp2, hsp3, hone2]; constructor <;> rfl) ?_
    refine XK.call rfl (by simp [m0, m1, m2, qq, hs0, hs1, hone, hsp0, hsp1, hl32, hi0, hi1, hi2, hi3, hst, htk, hspl, hcc, hst2, hsp2, hsp3, hone2]) rfl (by simp [Tryd.func31, Tryd.f31, m0, m1, m2, qq, hs0, hs1, hone, hsp0, hsp1, hl32, hi0, hi1, hi2, hi3, hst, htk, hspl, hcc, hst2, hsp2, hsp3, hone2]; constructor <;> rfl) ?_
    refine FSem.mono (bopen_g k b o (hB.keep hM.keep) hk hu (by omega) (by omega)) ?_
    rintro _ M3 ⟨x2, e2, s2, rfl, hres0, hA, hO2, hF2⟩
    have hF3 : blkOf s2 ≠ some H.length := hF2.ne (hM.lt (i := 0) (by simp))
    replace hM := hM.on (Keep.of hA)
    replace m0 := hM.own 0 (by simp)
    replace m1 := hM.own 1 (by simp)
    replace m2 := hM.own 2 (by simp)
    simp only [List.getElem_cons_zero, List.getElem_cons_succ, Nat.add_zero] at m0 m1 m2
    replace qq := hM.q3
    replace hs0 := hO2.cells.1
    replace hs1 := hO2.cells.2
    have hspl1 := hB.sp (i := o.su) (by omega) (by omega) b.today ⟨x2, s2, hs1⟩
    replace hspl := hspl1
    simp only [Ac.l] at hspl
    refine And.intro (lag_list (l := [1]) (by kernel_rfl) (lag_cons (lag_one rfl (by simp [m0, m1, m2, qq, hs0, hs1, hone, hsp0, hsp1, hl32, hi0, hi1, hi2, hi3, hst, htk, hspl, hcc, hst2, hsp2, hsp3, hone2]; constructor <;> rfl) rfl (by simp [m0, m1, m2, qq, hs0, hs1, hone, hsp0, hsp1, hl32, hi0, hi1, hi2, hi3, hst, htk, hspl, hcc, hst2, hsp2, hsp3, hone2]) (by simp [sameL, sameV_agg, sameV_int, sameV_bool, sameV_str, sameV_ptr, sameV_sl, sameV_map, same1_int, same1_bool, same1_str, same1_ptr, same1_sl, same1_map, m0, m1, m2, qq, hs0, hs1, hone, hsp0, hsp1, hl32, hi0, hi1, hi2, hi3, hst, htk, hspl, hcc, hst2, hsp2, hsp3, hone2]) rfl) rfl)) ?_
    refine XK.run (rest := [10, 11]) [5, 6, 7, 9] (by kernel_rfl) (by simp [m0, m1, m2, qq, hs0, hs1, hone, hsp0, hsp1, hl32, hi0, hi1, hi2, hi3, hst, htk, hspl, hcc, hst2, hsp2, hsp3, hone2]; constructor <;> rfl) ?_
    refine XK.one rfl (by simp [m0, m1, m2, qq, hs0, hs1, hone, hsp0, hsp1, hl32, hi0, hi1, hi2, hi3, hst, htk, hspl, hcc, hst2, hsp2, hsp3, hone2]) rfl (by simp [m0, m1, m2, qq, hs0, hs1, hone, hsp0, hsp1, hl32, hi0, hi1, hi2, hi3, hst, htk, hspl, hcc, hst2, hsp2, hsp3, hone2]; constructor <;> rfl) (lag_list (l := []) (by kernel_rfl) rfl) ?_
    refine XK.one rfl (by simp [m0, m1, m2, qq, hs0, hs1, hone, hsp0, hsp1, hl32, hi0, hi1, hi2, hi3, hst, htk, hspl, hcc, hst2, hsp2, hsp3, hone2]) rfl (by simp [m0, m1, m2, qq, hs0, hs1, hone, hsp0, hsp1, hl32, hi0, hi1, hi2, hi3, hst, htk, hspl, hcc, hst2, hsp2, hsp3, hone2]; constructor <;> rfl) (lag_list (l := []) (by kernel_rfl) rfl) ?_
    refine XK.nil ?_
    refine DK.abs (fun M4 => AtM H [BkL b.today sp (l.set o.su.toNat ⟨x2, s2, hs1⟩), _, _] M4 ∧ OpenAt M4 s2 x2.op) ⟨hM.set (i := 0) (by simp) _, hO2.set hF3 _⟩ ?_
    try clear hM
    try clear hO2
    rintro M4 ⟨hM, hO2⟩
    replace m0 := hM.own 0 (by simp)
    replace m1 := hM.own 1 (by simp)
    replace m2 := hM.own 2 (by simp)
    simp only [List.getElem_cons_zero, List.getElem_cons_succ, Nat.add_zero] at m0 m1 m2
    replace qq := hM.q3
    have hBk := (hB.keep hM.keep).put (i := o.su) (by omega) (by omega) (x := ⟨x2, s2, hs1⟩) hO2
    have hres1 : stepB b o = if e2 ≠ 0 then (zeroB, e2) else ({ b with subs := b.subs.set o.su.toNat x2 }, 0) := by
      unfold stepB
      rw [if_neg (by simp [hr0]), if_neg ‹¬o.kd = 1›, if_pos ‹o.kd = 2›, hres0, put_ok]
    replace hl32 : (l.set o.su.toNat ⟨x2, s2, hs1⟩).length = 32 := by rw [List.length_set]; exact hl32
    have hsb : ∀ c, blkOf sp = some c → blkOf sp = some c ∨ H.length ≤ c := fun c hc => .inl hc
    have hfr2 : blkOf sp ≠ some (H.length + 2) := fun hc => by have := hB.pls.lt hc; omega
    refine DK.seq ?_
    refine DK.seq ?_
    refine DK.region (is := [0, 1]) (by kernel_rfl) rfl ?_
    refine WK.run (rest := []) [0, 1] (by simp [m0, m1, m2, qq, hs0, hs1, hone, hsp0, hsp1, hl32, hi0, hi1, hi2, hi3, hst, htk, hspl, hcc, hst2, hsp2, hsp3, hone2]; constructor <;> rfl) ?_
    refine WK.nil ?_
    refine DK.test rfl rfl (fun h => ?_) (fun h => ?_)
    · try simp only [h]
      replace h := Tr.out h
      refine DK.seq ?_
      refine DK.region (is := [0, 1, 2, 3]) (by kernel_rfl) rfl ?_
      refine WK.run (rest := []) [0, 1, 2, 3] (by simp [m0, m1, m2, qq, hs0, hs1, hone, hsp0, hsp1, hl32, hi0, hi1, hi2, hi3, hst, htk, hspl, hcc, hst2, hsp2, hsp3, hone2]; constructor <;> rfl) ?_
      refine WK.nil ?_
      refine DK.abs (fun MZ => AtM H [_, _, BkL 0 (.slice none 0 0) zL] MZ) (hM.set (i := 2) (by simp) _) ?_
      try clear hM
      rintro MZ hM
      replace m0 := hM.own 0 (by simp)
      replace m1 := hM.own 1 (by simp)
      replace m2 := hM.own 2 (by simp)
      simp only [List.getElem_cons_zero, List.getElem_cons_succ, Nat.add_zero] at m0 m1 m2
      replace qq := hM.q3
      have hres : stepB b o = (zeroB, e2) := hres1.trans (if_pos ‹_›)
      replace hBk := BkAt.zero MZ
      replace hsb : ∀ c, blkOf (.slice none 0 0) = some c → blkOf sp = some c ∨ H.length ≤ c := fun c hc => (by cases hc)
      refine DK.ret ?_
      refine And.intro (Or.inr rfl) ?_
      refine ⟨_, by simp [absAnswer, absResults, absResult, Tryd.f16, m0, m1, m2, qq, hs0, hs1, hsp0, hsp1, hl32, hone, hst2, hsp2, hsp3]; rfl, ?_⟩
      exact ⟨_, _, by rw [hres]; rfl, by rw [hres]; exact hBk, hM.keep, hsb⟩
    try simp only [h]
    replace h := Fa.out h
    refine DK.skip ?_
    refine DK.seq ?_
    refine DK.region (is := [0, 1, 2]) (by kernel_rfl) rfl ?_
    refine WK.run (rest := []) [0, 1, 2] (by simp [m0, m1, m2, qq, hs0, hs1, hone, hsp0, hsp1, hl32, hi0, hi1, hi2, hi3, hst, htk, hspl, hcc, hst2, hsp2, hsp3, hone2]; constructor <;> rfl) ?_
    refine WK.nil ?_
    have hres := hres1.trans (if_neg (by simpa using ‹e2 = 0›))
    refine DK.abs (fun MF => AtM H [_, _, _] MF ∧ BkAt MF _ _ _) ⟨hM.set (i := 2) (by simp) _, hBk.set (hBk.fre m2 (by rw [BkL_len (by simp)]; decide) hfr2) _⟩ ?_
    try clear hM
    try clear hBk
    rintro MF ⟨hM, hBk⟩
    replace m0 := hM.own 0 (by simp)
    replace m1 := hM.own 1 (by simp)
    replace m2 := hM.own 2 (by simp)
    simp only [List.getElem_cons_zero, List.getElem_cons_succ, Nat.add_zero] at m0 m1 m2
    replace qq := hM.q3
    refine DK.ret ?_
    refine And.intro (Or.inr rfl) ?_
    refine ⟨_, by simp [absAnswer, absResults, absResult, Tryd.f16, m0, m1, m2, qq, hs0, hs1, hsp0, hsp1, hl32, hone, hst2, hsp2, hsp3]; rfl, ?_⟩
    exact ⟨_, _, by rw [hres]; rfl, by rw [hres]; exact hBk, hM.keep, hsb⟩
  try simp only [h]
  replace h := Fa.out h
  refine DK.seq ?_
  refine DK.region (is := [0, 1]) (by kernel_rfl) rfl ?_
  refine WK.run (rest := []) [0, 1] (by simp [m0, m1, m2, qq, hs0, hs1, hone, hsp0, hsp1, hl32, hi0, hi1, hi2, hi3, hst, htk, hspl, hcc, hst2, hsp2, hsp3, hone2]; constructor <;> rfl) ?_
  refine WK.nil ?_
  refine DK.test rfl rfl (fun h => ?_) (fun h => ?_)
  · try simp only [h]
    replace h := Tr.out h
    refine DK.seq ?_
    refine DK.region (is := [0, 1, 2, 3, 4, 5, 6, 7]) (by kernel_rfl) rfl ?_
    refine WK.run (rest := [3, 4, 5, 6, 7]) [0, 1, 2] (by simp [m0, m1, m2, qq, hs0, hs1, hone, hsp0, hsp1, hl32, hi0, hi1, hi2, hi3, hst, htk, hspl, hcc, hst2, hsp2, hsp3, hone2]; constructor <;> rfl) ?_
    refine WK.call rfl (by simp [m0, m1, m2, qq, hs0, hs1, hone, hsp0, hsp1, hl32, hi0, hi1, hi2, hi3, hst, htk, hspl, hcc, hst2, hsp2, hsp3, hone2]) (by simp [Tryd.func32, Tryd.f32, m0, m1, m2, qq, hs0, hs1, hone, hsp0, hsp1, hl32, hi0, hi1, hi2, hi3, hst, htk, hspl, hcc, hst2, hsp2, hsp3, hone2]; constructor <;> rfl) ?_
    refine FSem.mono (bpass_g k b o.n (hB.keep hM.keep) hk hk3 hu) ?_
    rintro _ M3 ⟨b2, e2, sp2, l2, rfl, hres0, hBk, hl2, hsp2, hsp3, hkk, hsb0⟩
    have hsb : ∀ c, blkOf sp2 = some c → blkOf sp = some c ∨ H.length ≤ c := fun c hc => (hsb0 c hc).imp id (fun q => Nat.le_trans hM.keep.1 q)
    have hfr2 : blkOf sp2 ≠ some (H.length + 2) := fun hc => (hsb0 _ hc).elim (fun q => by have := hB.pls.lt q; omega) (fun q => by have := hM.lt (i := 2) (by simp); omega)
    replace hM := hM.on hkk
    replace m0 := hM.own 0 (by simp)
    replace m1 := hM.own 1 (by simp)
    replace m2 := hM.own 2 (by simp)
    simp only [List.getElem_cons_zero, List.getElem_cons_succ, Nat.add_zero] at m0 m1 m2
    replace qq := hM.q3
    replace hst2 := hl2
    have hone2 := bk_ones hsp2
    refine WK.run (rest := []) [4, 5, 6, 7] (by simp [m0, m1, m2, qq, hs0, hs1, hone, hsp0, hsp1, hl32, hi0, hi1, hi2, hi3, hst, htk, hspl, hcc, hst2, hsp2, hsp3, hone2]; constructor <;> rfl) ?_
    refine WK.nil ?_
    refine DK.abs (fun M5 => AtM H [_, _, BkL b2.today sp2 l2] M5 ∧ BkAt M5 sp2 l2 b2) ⟨hM.set (i := 2) (by simp) _, hBk.set (hBk.fre m2 (by rw [BkL_len (by simp)]; decide) hfr2) _⟩ ?_
    try clear hM
    try clear hBk
    rintro M5 ⟨hM, hBk⟩
    replace m0 := hM.own 0 (by simp)
    replace m1 := hM.own 1 (by simp)
    replace m2 := hM.own 2 (by simp)
    simp only [List.getElem_cons_zero, List.getElem_cons_succ, Nat.add_zero] at m0 m1 m2
    replace qq := hM.q3
    have hres : stepB b o = (b2, e2) := by
      unfold stepB
      rw [if_neg (by simp [hr0]), if_neg ‹¬o.kd = 1›, if_neg ‹¬o.kd = 2›, if_pos ‹o.kd = 9›, hres0]
    refine DK.ret ?_
    refine And.intro (Or.inr rfl) ?_
    refine ⟨_, by simp [absAnswer, absResults, absResult, Tryd.f16, m0, m1, m2, qq, hs0, hs1, hsp0, hsp1, hl32, hone, hst2, hsp2, hsp3]; rfl, ?_⟩
    exact ⟨_, _, by rw [hres]; rfl, by rw [hres]; exact hBk, hM.keep, hsb⟩
  try simp only [h]
  replace h := Fa.out h
  refine DK.seq ?_
  refine DK.region (is := [0, 1]) (by kernel_rfl) rfl ?_
  refine WK.run (rest := []) [0, 1] (by simp [m0, m1, m2, qq, hs0, hs1, hone, hsp0, hsp1, hl32, hi0, hi1, hi2, hi3, hst, htk, hspl, hcc, hst2, hsp2, hsp3, hone2]; constructor <;> rfl) ?_
  refine WK.nil ?_
  refine DK.test rfl rfl (fun h => ?_) (fun h => ?_)
  · try simp only [h]
    replace h := Tr.out h
    have hsu3 := hsu1 h
    obtain ⟨x, hxa, hxl, hxo, htk1, hst1, hpt1⟩ := hB.sub (i := o.a.su) (by omega) (by omega)
    replace hi0 : 0 ≤ o.a.su := by omega
    replace hi1 : o.a.su < 32 := by omega
    replace hi2 : 2 + o.a.su.toNat * 13 ≤ 417 := by omega
    replace hi3 : 2 + o.a.su.toNat * 13 ≤ 405 := by omega
    replace hst := hst1 b.today
    replace htk := htk1 b.today
    simp only [Ac.l] at htk
    replace hs0 := hxo.cells.1
    replace hs1 := hxo.cells.2
    have hxn : x.a.op.length ≤ 1000000000000 := by rw [hxa]; have := (hk.subs _ (sub_mem hk.len (i := o.a.su) (by omega) (by omega))).2; omega
    refine DK.draw rfl (POk.of (ord := [0, 1, 2, 3, 4, 5, 6, 7, 8, 9, 10, 11, 12, 13, 14, 15, 20, 16, 17, 18, 19, 21, 22, 23]) (by kernel_rfl)) ?_
    refine XK.run (rest := [8, 9, 10, 11, 12, 13, 14, 15, 20, 16, 17, 18, 19, 21, 22, 23]) [0, 1, 2, 3, 4, 5, 6, 7] (by kernel_rfl) (by simp [m0, m1, m2, qq, hs0, hs1, hone, hsp0, hsp1, hl32, hi0, hi1, hi2, hi3, hst, htk, hspl, hcc, hst2, hsp2, hsp3, hone2]; constructor <;> rfl) ?_
    refine XK.run (rest := [20, 16, 17, 18, 19, 21, 22, 23]) [8, 9, 10, 11, 12, 13, 14, 15] (by kernel_rfl) (by simp [m0, m1, m2, qq, hs0, hs1, hone, hsp0, hsp1, hl32, hi0, hi1, hi2, hi3, hst, htk, hspl, hcc, hst2, hsp2, hsp3, hone2]; constructor <;> rfl) ?_
    refine XK.run (rest := [16, 17, 18, 19, 21, 22, 23]) [20] (by kernel_rfl) (by simp [m0, m1, m2, qq, hs0, hs1, hone, hsp0, hsp1, hl32, hi0, hi1, hi2, hi3, hst, htk, hspl, hcc, hst2, hsp2, hsp3, hone2]; constructor <;> rfl) ?_
    refine XK.call rfl (by simp [m0, m1, m2, qq, hs0, hs1, hone, hsp0, hsp1, hl32, hi0, hi1, hi2, hi3, hst, htk, hspl, hcc, hst2, hsp2, hsp3, hone2]) rfl (by simp [Tryd.func33, Tryd.f33, m0, m1, m2, qq, hs0, hs1, hone, hsp0, hsp1, hl32, hi0, hi1, hi2, hi3, hst, htk, hspl, hcc, hst2, hsp2, hsp3, hone2]; constructor <;> rfl) ?_
    refine FSem.mono (ahear_g o.a.su x.a o.a b.today (hL.keep hM.keep) (hxo.keep hM.keep) hxn) ?_
    rintro _ M3 ⟨x2, e2, s2, rfl, hres0, hA, hO2, hF2⟩
    have hF3 : blkOf s2 ≠ some H.length := hF2.ne (hM.lt (i := 0) (by simp))
    replace hM := hM.on (Keep.of hA)
    replace m0 := hM.own 0 (by simp)
    replace m1 := hM.own 1 (by simp)
    replace m2 := hM.own 2 (by simp)
    simp only [List.getElem_cons_zero, List.getElem_cons_succ, Nat.add_zero] at m0 m1 m2
    replace qq := hM.q3
    replace hs0 := hO2.cells.1
    replace hs1 := hO2.cells.2
    have hspl1 := hB.sp (i := o.a.su) (by omega) (by omega) b.today ⟨x2, s2, hs1⟩
    replace hspl := hspl1
    simp only [Ac.l] at hspl
    refine And.intro (lag_list (l := [2]) (by kernel_rfl) (lag_cons (lag_one rfl (by simp [m0, m1, m2, qq, hs0, hs1, hone, hsp0, hsp1, hl32, hi0, hi1, hi2, hi3, hst, htk, hspl, hcc, hst2, hsp2, hsp3, hone2]; constructor <;> rfl) rfl (by simp [m0, m1, m2, qq, hs0, hs1, hone, hsp0, hsp1, hl32, hi0, hi1, hi2, hi3, hst, htk, hspl, hcc, hst2, hsp2, hsp3, hone2]) (by simp [sameL, sameV_agg, sameV_int, sameV_bool, sameV_str, sameV_ptr, sameV_sl, sameV_map, same1_int, same1_bool, same1_str, same1_ptr, same1_sl, same1_map, m0, m1, m2, qq, hs0, hs1, hone, hsp0, hsp1, hl32, hi0, hi1, hi2, hi3, hst, htk, hspl, hcc, hst2, hsp2, hsp3, hone2]) rfl) rfl)) ?_
    refine XK.run (rest := [22, 23]) [17, 18, 19, 21] (by kernel_rfl) (by simp [m0, m1, m2, qq, hs0, hs1, hone, hsp0, hsp1, hl32, hi0, hi1, hi2, hi3, hst, htk, hspl, hcc, hst2, hsp2, hsp3, hone2]; constructor <;> rfl) ?_
    refine XK.one rfl (by simp [m0, m1, m2, qq, hs0, hs1, hone, hsp0, hsp1, hl32, hi0, hi1, hi2, hi3, hst, htk, hspl, hcc, hst2, hsp2, hsp3, hone2]) rfl (by simp [m0, m1, m2, qq, hs0, hs1, hone, hsp0, hsp1, hl32, hi0, hi1, hi2, hi3, hst, htk, hspl, hcc, hst2, hsp2, hsp3, hone2]; constructor <;> rfl) (lag_list (l := []) (by kernel_rfl) rfl) ?_
    refine XK.one rfl (by simp [m0, m1, m2, qq, hs0, hs1, hone, hsp0, hsp1, hl32, hi0, hi1, hi2, hi3, hst, htk, hspl, hcc, hst2, hsp2, hsp3, hone2]) rfl (by simp [m0, m1, m2, qq, hs0, hs1, hone, hsp0, hsp1, hl32, hi0, hi1, hi2, hi3, hst, htk, hspl, hcc, hst2, hsp2, hsp3, hone2]; constructor <;> rfl) (lag_list (l := []) (by kernel_rfl) rfl) ?_
    refine XK.nil ?_
    refine DK.abs (fun M4 => AtM H [BkL b.today sp (l.set o.a.su.toNat ⟨x2, s2, hs1⟩), _, _] M4 ∧ OpenAt M4 s2 x2.op) ⟨hM.set (i := 0) (by simp) _, hO2.set hF3 _⟩ ?_
    try clear hM
    try clear hO2
    rintro M4 ⟨hM, hO2⟩
    replace m0 := hM.own 0 (by simp)
    replace m1 := hM.own 1 (by simp)
    replace m2 := hM.own 2 (by simp)
    simp only [List.getElem_cons_zero, List.getElem_cons_succ, Nat.add_zero] at m0 m1 m2
    replace qq := hM.q3
    have hBk := (hB.keep hM.keep).put (i := o.a.su) (by omega) (by omega) (x := ⟨x2, s2, hs1⟩) hO2
    have hres1 : stepB b o = if e2 ≠ 0 then (zeroB, e2) else ({ b with subs := b.subs.set o.a.su.toNat x2 }, 0) := by
      unfold stepB
      rw [if_neg (by simp [hr0]), if_neg ‹¬o.kd = 1›, if_neg ‹¬o.kd = 2›, if_neg ‹¬o.kd = 9›, if_pos ‹o.kd = 10›, ← hxa, hres0, put_ok]
    replace hl32 : (l.set o.a.su.toNat ⟨x2, s2, hs1⟩).length = 32 := by rw [List.length_set]; exact hl32
    have hsb : ∀ c, blkOf sp = some c → blkOf sp = some c ∨ H.length ≤ c := fun c hc => .inl hc
    have hfr2 : blkOf sp ≠ some (H.length + 2) := fun hc => by have := hB.pls.lt hc; omega
    refine DK.seq ?_
    refine DK.seq ?_
    refine DK.region (is := [0, 1]) (by kernel_rfl) rfl ?_
    refine WK.run (rest := []) [0, 1] (by simp [m0, m1, m2, qq, hs0, hs1, hone, hsp0, hsp1, hl32, hi0, hi1, hi2, hi3, hst, htk, hspl, hcc, hst2, hsp2, hsp3, hone2]; constructor <;> rfl) ?_
    refine WK.nil ?_
    refine DK.test rfl rfl (fun h => ?_) (fun h => ?_)
    · try simp only [h]
      replace h := Tr.out h
      refine DK.seq ?_
      refine DK.region (is := [0, 1, 2, 3]) (by kernel_rfl) rfl ?_
      refine WK.run (rest := []) [0, 1, 2, 3] (by simp [m0, m1, m2, qq, hs0, hs1, hone, hsp0, hsp1, hl32, hi0, hi1, hi2, hi3, hst, htk, hspl, hcc, hst2, hsp2, hsp3, hone2]; constructor <;> rfl) ?_
      refine WK.nil ?_
      refine DK.abs (fun MZ => AtM H [_, _, BkL 0 (.slice none 0 0) zL] MZ) (hM.set (i := 2) (by simp) _) ?_
      try clear hM
      rintro MZ hM
      replace m0 := hM.own 0 (by simp)
      replace m1 := hM.own 1 (by simp)
      replace m2 := hM.own 2 (by simp)
      simp only [List.getElem_cons_zero, List.getElem_cons_succ, Nat.add_zero] at m0 m1 m2
      replace qq := hM.q3
      have hres : stepB b o = (zeroB, e2) := hres1.trans (if_pos ‹_›)
      replace hBk := BkAt.zero MZ
      replace hsb : ∀ c, blkOf (.slice none 0 0) = some c → blkOf sp = some c ∨ H.length ≤ c := fun c hc => (by cases hc)
      refine DK.ret ?_
      refine And.intro (Or.inr rfl) ?_
      refine ⟨_, by simp [absAnswer, absResults, absResult, Tryd.f16, m0, m1, m2, qq, hs0, hs1, hsp0, hsp1, hl32, hone, hst2, hsp2, hsp3]; rfl, ?_⟩
      exact ⟨_, _, by rw [hres]; rfl, by rw [hres]; exact hBk, hM.keep, hsb⟩
    try simp only [h]
    replace h := Fa.out h
    refine DK.skip ?_
    refine DK.seq ?_
    refine DK.region (is := [0, 1, 2]) (by kernel_rfl) rfl ?_
    refine WK.run (rest := []) [0, 1, 2] (by simp [m0, m1, m2, qq, hs0, hs1, hone, hsp0, hsp1, hl32, hi0, hi1, hi2, hi3, hst, htk, hspl, hcc, hst2, hsp2, hsp3, hone2]; constructor <;> rfl) ?_
    refine WK.nil ?_
    have hres := hres1.trans (if_neg (by simpa using ‹e2 = 0›))
    refine DK.abs (fun MF => AtM H [_, _, _] MF ∧ BkAt MF _ _ _) ⟨hM.set (i := 2) (by simp) _, hBk.set (hBk.fre m2 (by rw [BkL_len (by simp)]; decide) hfr2) _⟩ ?_
    try clear hM
    try clear hBk
    rintro MF ⟨hM, hBk⟩
    replace m0 := hM.own 0 (by simp)
    replace m1 := hM.own 1 (by simp)
    replace m2 := hM.own 2 (by simp)
    simp only [List.getElem_cons_zero, List.getElem_cons_succ, Nat.add_zero] at m0 m1 m2
    replace qq := hM.q3
    refine DK.ret ?_
    refine And.intro (Or.inr rfl) ?_
    refine ⟨_, by simp [absAnswer, absResults, absResult, Tryd.f16, m0, m1, m2, qq, hs0, hs1, hsp0, hsp1, hl32, hone, hst2, hsp2, hsp3]; rfl, ?_⟩
    exact ⟨_, _, by rw [hres]; rfl, by rw [hres]; exact hBk, hM.keep, hsb⟩
  try simp only [h]
  replace h := Fa.out h
  have hsu3 := hsu2 (by omega) (by omega) (by omega)
  obtain ⟨x, hxa, hxl, hxo, htk1, hst1, hpt1⟩ := hB.sub (i := o.su) (by omega) (by omega)
  replace hi0 : 0 ≤ o.su := by omega
  replace hi1 : o.su < 32 := by omega
  replace hi2 : 2 + o.su.toNat * 13 ≤ 417 := by omega
  replace hi3 : 2 + o.su.toNat * 13 ≤ 405 := by omega
  replace hst := hst1 b.today
  replace htk := htk1 b.today
  simp only [Ac.l] at htk
  replace hs0 := hxo.cells.1
  replace hs1 := hxo.cells.2
  have hxn : x.a.op.length ≤ 1000000000000 := by rw [hxa]; have := (hk.subs _ (sub_mem hk.len (i := o.su) (by omega) (by omega))).2; omega
  refine DK.seq ?_
  refine DK.region (is := [0, 1, 2, 3, 4, 5, 6]) (by kernel_rfl) rfl ?_
  refine WK.run (rest := []) [0, 1, 2, 3, 4, 5, 6] (by simp [m0, m1, m2, qq, hs0, hs1, hone, hsp0, hsp1, hl32, hi0, hi1, hi2, hi3, hst, htk, hspl, hcc, hst2, hsp2, hsp3, hone2]; constructor <;> rfl) ?_
  refine WK.nil ?_
  refine DK.abs (fun M1 => AtM H [BkL b.today sp l, o.l, BkL 0 (.slice none 0 0) zL] M1 ∧ M1[M0.length]? = some (.cells false (x.a.l x.s))) ⟨hM.on (Keep.app _ _), by simp⟩ ?_
  try clear hM
  try clear hcc
  rintro M1 ⟨hM, hcc⟩
  replace m0 := hM.own 0 (by simp)
  replace m1 := hM.own 1 (by simp)
  replace m2 := hM.own 2 (by simp)
  simp only [List.getElem_cons_zero, List.getElem_cons_succ, Nat.add_zero] at m0 m1 m2
  replace qq := hM.q3
  refine DK.seq ?_
  refine DK.seq ?_
  refine DK.region (is := [0, 1, 2]) (by kernel_rfl) rfl ?_
  refine WK.run (rest := []) [0, 1, 2] (by simp [m0, m1, m2, qq, hs0, hs1, hone, hsp0, hsp1, hl32, hi0, hi1, hi2, hi3, hst, htk, hspl, hcc, hst2, hsp2, hsp3, hone2]; constructor <;> rfl) ?_
  refine WK.nil ?_
  refine DK.test rfl rfl (fun h => ?_) (fun h => ?_)
  · try simp only [h]
    replace h := Tr.out h
    refine DK.seq ?_
    refine DK.region (is := [0, 1, 2]) (by kernel_rfl) rfl ?_
    refine WK.run (rest := []) [0, 1, 2] (by simp [m0, m1, m2, qq, hs0, hs1, hone, hsp0, hsp1, hl32, hi0, hi1, hi2, hi3, hst, htk, hspl, hcc, hst2, hsp2, hsp3, hone2]; constructor <;> rfl) ?_
    refine WK.nil ?_
    refine DK.abs (fun MZ => AtM H [BkL b.today sp l, o.l, BkL 0 (.slice none 0 0) zL] MZ) (hM.set (i := 2) (by simp) _) ?_
    try clear hM
    rintro MZ hM
    replace m0 := hM.own 0 (by simp)
    replace m1 := hM.own 1 (by simp)
    replace m2 := hM.own 2 (by simp)
    simp only [List.getElem_cons_zero, List.getElem_cons_succ, Nat.add_zero] at m0 m1 m2
    replace qq := hM.q3
    have hres : stepB b o = (zeroB, 2) := by
      unfold stepB
      rw [if_neg (by simp [hr0]), if_neg ‹¬o.kd = 1›, if_neg ‹¬o.kd = 2›, if_neg ‹¬o.kd = 9›, if_neg ‹¬o.kd = 10›, if_pos (by rw [← hxa]; assumption)]
    have hBk := BkAt.zero MZ
    have hsb : ∀ c, blkOf (.slice none 0 0) = some c → blkOf sp = some c ∨ H.length ≤ c := fun c hc => (by cases hc)
    refine DK.ret ?_
    refine And.intro (Or.inr rfl) ?_
    refine ⟨_, by simp [absAnswer, absResults, absResult, Tryd.f16, m0, m1, m2, qq, hs0, hs1, hsp0, hsp1, hl32, hone, hst2, hsp2, hsp3]; rfl, ?_⟩
    exact ⟨_, _, by rw [hres]; rfl, by rw [hres]; exact hBk, hM.keep, hsb⟩
  try simp only [h]
  replace h := Fa.out h
  refine DK.skip ?_
  refine DK.draw rfl (POk.of (ord := [0, 1, 2, 3, 4, 9, 5, 6, 7, 8, 10, 11, 12]) (by kernel_rfl)) ?_
  refine XK.run (rest := [5, 6, 7, 8, 10, 11, 12]) [0, 1, 2, 3, 4, 9] (by kernel_rfl) (by simp [m0, m1, m2, qq, hs0, hs1, hone, hsp0, hsp1, hl32, hi0, hi1, hi2, hi3, hst, htk, hspl, hcc, hst2, hsp2, hsp3, hone2]; constructor <;> rfl) ?_
  refine XK.call rfl (by simp [m0, m1, m2, qq, hs0, hs1, hone, hsp0, hsp1, hl32, hi0, hi1, hi2, hi3, hst, htk, hspl, hcc, hst2, hsp2, hsp3, hone2]) rfl (by simp [Tryd.func34, Tryd.f34, m0, m1, m2, qq, hs0, hs1, hone, hsp0, hsp1, hl32, hi0, hi1, hi2, hi3, hst, htk, hspl, hcc, hst2, hsp2, hsp3, hone2]; constructor <;> rfl) ?_
  refine FSem.mono (bturn_g k b x.a o (hB.keep hM.keep) hk hu (hxo.keep hM.keep) hxn) ?_
  rintro _ M3 ⟨x2, e2, s2, rfl, hres0, hA, hO2, hF2⟩
  have hF3 : blkOf s2 ≠ some H.length := hF2.ne (hM.lt (i := 0) (by simp))
  replace hM := hM.on (Keep.of hA)
  replace m0 := hM.own 0 (by simp)
  replace m1 := hM.own 1 (by simp)
  replace m2 := hM.own 2 (by simp)
  simp only [List.getElem_cons_zero, List.getElem_cons_succ, Nat.add_zero] at m0 m1 m2
  replace qq := hM.q3
  replace hs0 := hO2.cells.1
  replace hs1 := hO2.cells.2
  have hspl1 := hB.sp (i := o.su) (by omega) (by omega) b.today ⟨x2, s2, hs1⟩
  replace hspl := hspl1
  simp only [Ac.l] at hspl
  refine And.intro (lag_list (l := [1]) (by kernel_rfl) (lag_cons (lag_one rfl (by simp [m0, m1, m2, qq, hs0, hs1, hone, hsp0, hsp1, hl32, hi0, hi1, hi2, hi3, hst, htk, hspl, hcc, hst2, hsp2, hsp3, hone2]; constructor <;> rfl) rfl (by simp [m0, m1, m2, qq, hs0, hs1, hone, hsp0, hsp1, hl32, hi0, hi1, hi2, hi3, hst, htk, hspl, hcc, hst2, hsp2, hsp3, hone2]) (by simp [sameL, sameV_agg, sameV_int, sameV_bool, sameV_str, sameV_ptr, sameV_sl, sameV_map, same1_int, same1_bool, same1_str, same1_ptr, same1_sl, same1_map, m0, m1, m2, qq, hs0, hs1, hone, hsp0, hsp1, hl32, hi0, hi1, hi2, hi3, hst, htk, hspl, hcc, hst2, hsp2, hsp3, hone2]) rfl) rfl)) ?_
  refine XK.run (rest := [11, 12]) [6, 7, 8, 10] (by kernel_rfl) (by simp [m0, m1, m2, qq, hs0, hs1, hone, hsp0, hsp1, hl32, hi0, hi1, hi2, hi3, hst, htk, hspl, hcc, hst2, hsp2, hsp3, hone2]; constructor <;> rfl) ?_
  refine XK.one rfl (by simp [m0, m1, m2, qq, hs0, hs1, hone, hsp0, hsp1, hl32, hi0, hi1, hi2, hi3, hst, htk, hspl, hcc, hst2, hsp2, hsp3, hone2]) rfl (by simp [m0, m1, m2, qq, hs0, hs1, hone, hsp0, hsp1, hl32, hi0, hi1, hi2, hi3, hst, htk, hspl, hcc, hst2, hsp2, hsp3, hone2]; constructor <;> rfl) (lag_list (l := []) (by kernel_rfl) rfl) ?_
  refine XK.one rfl (by simp [m0, m1, m2, qq, hs0, hs1, hone, hsp0, hsp1, hl32, hi0, hi1, hi2, hi3, hst, htk, hspl, hcc, hst2, hsp2, hsp3, hone2]) rfl (by simp [m0, m1, m2, qq, hs0, hs1, hone, hsp0, hsp1, hl32, hi0, hi1, hi2, hi3, hst, htk, hspl, hcc, hst2, hsp2, hsp3, hone2]; constructor <;> rfl) (lag_list (l := []) (by kernel_rfl) rfl) ?_
  refine XK.nil ?_
  refine DK.abs (fun M4 => AtM H [BkL b.today sp (l.set o.su.toNat ⟨x2, s2, hs1⟩), _, _] M4 ∧ OpenAt M4 s2 x2.op) ⟨hM.set (i := 0) (by simp) _, hO2.set hF3 _⟩ ?_
  try clear hM
  try clear hO2
  rintro M4 ⟨hM, hO2⟩
  replace m0 := hM.own 0 (by simp)
  replace m1 := hM.own 1 (by simp)
  replace m2 := hM.own 2 (by simp)
  simp only [List.getElem_cons_zero, List.getElem_cons_succ, Nat.add_zero] at m0 m1 m2
  replace qq := hM.q3
  have hBk := (hB.keep hM.keep).put (i := o.su) (by omega) (by omega) (x := ⟨x2, s2, hs1⟩) hO2
  have hres1 : stepB b o = if e2 ≠ 0 then (zeroB, e2) else ({ b with subs := b.subs.set o.su.toNat x2 }, 0) := by
    unfold stepB
    rw [if_neg (by simp [hr0]), if_neg ‹¬o.kd = 1›, if_neg ‹¬o.kd = 2›, if_neg ‹¬o.kd = 9›, if_neg ‹¬o.kd = 10›, if_neg (by rw [← hxa]; assumption), ← hxa, hres0, put_ok]
  replace hl32 : (l.set o.su.toNat ⟨x2, s2, hs1⟩).length = 32 := by rw [List.length_set]; exact hl32
  have hsb : ∀ c, blkOf sp = some c → blkOf sp = some c ∨ H.length ≤ c := fun c hc => .inl hc
  have hfr2 : blkOf sp ≠ some (H.length + 2) := fun hc => by have := hB.pls.lt hc; omega
  refine DK.seq ?_
  refine DK.seq ?_
  refine DK.region (is := [0, 1]) (by kernel_rfl) rfl ?_
  refine WK.run (rest := []) [0, 1] (by simp [m0, m1, m2, qq, hs0, hs1, hone, hsp0, hsp1, hl32, hi0, hi1, hi2, hi3, hst, htk, hspl, hcc, hst2, hsp2, hsp3, hone2]; constructor <;> rfl) ?_
  refine WK.nil ?_
  refine DK.test rfl rfl (fun h => ?_) (fun h => ?_)
  · try simp only [h]
    replace h := Tr.out h
    refine DK.seq ?_
    refine DK.region (is := [0, 1, 2, 3]) (by kernel_rfl) rfl ?_
    refine WK.run (rest := []) [0, 1, 2, 3] (by simp [m0, m1, m2, qq, hs0, hs1, hone, hsp0, hsp1, hl32, hi0, hi1, hi2, hi3, hst, htk, hspl, hcc, hst2, hsp2, hsp3, hone2]; constructor <;> rfl) ?_
    refine WK.nil ?_
    refine DK.abs (fun MZ => AtM H [_, _, BkL 0 (.slice none 0 0) zL] MZ) (hM.set (i := 2) (by simp) _) ?_
    try clear hM
    rintro MZ hM
    replace m0 := hM.own 0 (by simp)
    replace m1 := hM.own 1 (by simp)
    replace m2 := hM.own 2 (by simp)
    simp only [List.getElem_cons_zero, List.getElem_cons_succ, Nat.add_zero] at m0 m1 m2
    replace qq := hM.q3
    have hres : stepB b o = (zeroB, e2) := hres1.trans (if_pos ‹_›)
    replace hBk := BkAt.zero MZ
    replace hsb : ∀ c, blkOf (.slice none 0 0) = some c → blkOf sp = some c ∨ H.length ≤ c := fun c hc => (by cases hc)
    refine DK.ret ?_
    refine And.intro (Or.inr rfl) ?_
    refine ⟨_, by simp [absAnswer, absResults, absResult, Tryd.f16, m0, m1, m2, qq, hs0, hs1, hsp0, hsp1, hl32, hone, hst2, hsp2, hsp3]; rfl, ?_⟩
    exact ⟨_, _, by rw [hres]; rfl, by rw [hres]; exact hBk, hM.keep, hsb⟩
  try simp only [h]
  replace h := Fa.out h
  refine DK.skip ?_
  refine DK.seq ?_
  refine DK.region (is := [0, 1, 2]) (by kernel_rfl) rfl ?_
  refine WK.run (rest := []) [0, 1, 2] (by simp [m0, m1, m2, qq, hs0, hs1, hone, hsp0, hsp1, hl32, hi0, hi1, hi2, hi3, hst, htk, hspl, hcc, hst2, hsp2, hsp3, hone2]; constructor <;> rfl) ?_
  refine WK.nil ?_
  have hres := hres1.trans (if_neg (by simpa using ‹e2 = 0›))
  refine DK.abs (fun MF => AtM H [_, _, _] MF ∧ BkAt MF _ _ _) ⟨hM.set (i := 2) (by simp) _, hBk.set (hBk.fre m2 (by rw [BkL_len (by simp)]; decide) hfr2) _⟩ ?_
  try clear hM
  try clear hBk
  rintro MF ⟨hM, hBk⟩
  replace m0 := hM.own 0 (by simp)
  replace m1 := hM.own 1 (by simp)
  replace m2 := hM.own 2 (by simp)
  simp only [List.getElem_cons_zero, List.getElem_cons_succ, Nat.add_zero] at m0 m1 m2
  replace qq := hM.q3
  refine DK.ret ?_
  refine And.intro (Or.inr rfl) ?_
  refine ⟨_, by simp [absAnswer, absResults, absResult, Tryd.f16, m0, m1, m2, qq, hs0, hs1, hsp0, hsp1, hl32, hone, hst2, hsp2, hsp3]; rfl, ?_⟩
  exact ⟨_, _, by rw [hres]; rfl, by rw [hres]; exact hBk, hM.keep, hsb⟩
end Go.Den
set_option linter.unusedVariables false
set_option maxRecDepth 100000
namespace Go.Den
open Go Go.Proofs
structure At4 where
  (k a b c : Int)
def At4.ok (x : At4) : Prop := (0 ≤ x.k ∧ x.k < 256) ∧ (0 ≤ x.a ∧ x.a < 256) ∧ (0 ≤ x.b ∧ x.b < 256) ∧ (0 ≤ x.c ∧ x.c < 256)
@[simp] def At4.l (x : At4) : List Value := [.int .u8 x.k, .int .u8 x.a, .int .u8 x.b, .int .u8 x.c]
@[simp] def At4.v (x : At4) : Value := .agg #[.int .u8 x.k, .int .u8 x.a, .int .u8 x.b, .int .u8 x.c]
instance : Cel At4 := ⟨At4.l, 4, fun _ => rfl, fun _ => rfl, by decide⟩
def sel4 (i a b c d : Int) : Int := if i = 0 then a else if i = 1 then b else if i = 2 then c else d
def planR (n : Int) : Pl := ⟨sel4 (n % 4) 1000 0 2999 1, n / 4 % 4, 1 + n / 16 % 3, sel4 (n / 48 % 4) 0 0 10 3, decide (n % 3 = 1), decide (n % 7 = 3)⟩
def verR (c : Int) : Int := if c % 5 < 3 then 1 else if c % 5 = 3 then 2 else 3
def orderR (x : At4) (asks : List Nt) : Od :=
  if x.k % 14 = 0 then ⟨1, 0, 0, 0, planR x.b, zeroN⟩
  else if x.k % 14 = 1 ∨ x.k % 14 = 2 then ⟨2, x.a % 3, x.b % 3, 0, zeroP, zeroN⟩
  else if x.k % 14 = 3 then ⟨3, x.a % 3, x.b % 3, 0, zeroP, zeroN⟩
  else if x.k % 14 = 4 then ⟨4 + x.b % 5, x.a % 3, 0, 0, zeroP, zeroN⟩
  else if x.k % 14 = 5 then ⟨5, x.a % 3, 0, 0, zeroP, zeroN⟩
  else if x.k % 14 = 6 ∨ x.k % 14 = 7 ∨ x.k % 14 = 8 then ⟨9, 0, 0, 1 + x.c % 40, zeroP, zeroN⟩
  else if asks.length = 0 then ⟨9, 0, 0, 1 + x.c % 9, zeroP, zeroN⟩
  else
    let n := asks.getD (x.b % asks.length).toNat zeroN
    ⟨10, 0, 0, 0, zeroP, ⟨n.kd, n.su, n.cy, if x.a = 255 then IntKind.i64.wrap (n.tr + 1) else n.tr, n.am, verR x.c⟩⟩
theorem wrap_u8 (n : Int) (h0 : 0 ≤ n) (h1 : n < 256) : IntKind.u8.wrap n = n := by
  simp only [IntKind.wrap, IntKind.bits, IntKind.signed]; simp; omega
theorem tm (a b : Int) (h : 0 ≤ a) : a.tmod b = a % b := Int.tmod_eq_emod_of_nonneg h
theorem td (a b : Int) (h : 0 ≤ a) : a.tdiv b = a / b := Int.tdiv_eq_ediv_of_nonneg h
theorem sel_take (a b c d : Int) {i : Int} (h0 : 0 ≤ i) (h1 : i < 4) : List.take 1 (List.drop i.toNat [Value.int .i64 a, .int .i64 b, .int .i64 c, .int .i64 d]) = [.int .i64 (sel4 i a b c d)] := by
  have : i = 0 ∨ i = 1 ∨ i = 2 ∨ i = 3 := by omega
  rcases this with rfl | rfl | rfl | rfl <;> rfl
theorem ver_take {c : Int} : List.take 1 (List.drop (c % 5).toNat [Value.int .u8 1, .int .u8 1, .int .u8 1, .int .u8 2, .int .u8 3]) = [.int .u8 (verR c)] := by
  have : c % 5 = 0 ∨ c % 5 = 1 ∨ c % 5 = 2 ∨ c % 5 = 3 ∨ c % 5 = 4 := by omega
  unfold verR
  rcases this with h | h | h | h | h <;> rw [h] <;> rfl
theorem bsA (H : Mem) : absBuildSlice Tryd.prog H 103 4 [(0, .int .i64 1000), (1, .int .i64 0), (2, .int .i64 2999), (3, .int .i64 1)] = some (.slice (some ⟨H.length, 0, none⟩) 4 1, H ++ [.cells false [.int .i64 1000, .int .i64 0, .int .i64 2999, .int .i64 1]]) := by kernel_rfl
theorem bsB (H : Mem) : absBuildSlice Tryd.prog H 104 4 [(0, .int .i64 0), (1, .int .i64 0), (2, .int .i64 10), (3, .int .i64 3)] = some (.slice (some ⟨H.length, 0, none⟩) 4 1, H ++ [.cells false [.int .i64 0, .int .i64 0, .int .i64 10, .int .i64 3]]) := by kernel_rfl
theorem bsC (H : Mem) : absBuildSlice Tryd.prog H 72 5 [(0, .int .u8 1), (1, .int .u8 1), (2, .int .u8 1), (3, .int .u8 2), (4, .int .u8 3)] = some (.slice (some ⟨H.length, 0, none⟩) 5 1, H ++ [.cells false [.int .u8 1, .int .u8 1, .int .u8 1, .int .u8 2, .int .u8 3]]) := by kernel_rfl
attribute [simp] bsA bsB bsC
end Go.Den
namespace Go.Den
open Go Go.Proofs
set_option maxRecDepth 100000
set_option maxHeartbeats 1000000
set_option linter.all false
attribute [local simp] evOps evOp absOp absBox absLoad absStore absField absIndexAddr absCells absBinOp absBin absInt absShift absUn absPick absNil absExtract absPlaces Instr.fill absBuiltin absMinMax plainV plainT allA flat cells_agg cells_int cells_bool cells_str cells_ptr cells_sl cells_map one_int one_bool one_str one_ptr one_sl one_map Act.eval Act.put Region.wanted yielded absCall TypeDesc.isRow
attribute [local simp high] bk_t bk_p bk_take bk_row BkL_len sp_bk sp_t sp_p
attribute [local simp] sp_nil sp_0 sp_s List.length_set
theorem rplan_s (n : Int) (h0 : 0 ≤ n) (h1 : n < 256) (H : Mem) : FSem Tryd.prog [0] 20 #[.int .u8 n] H fun v H' => v = (planR n).v ∧ H' = H := by
  refine FSem.plainT ?_
  refine FSem.ofK Tryd.func20 rfl ?_
  refine DK.from (b' := ⟨#[.int .u8 n, undef, undef, undef, undef, undef, undef, undef, undef, undef, undef, undef, undef, undef, undef, undef, undef, undef, undef, undef, undef, undef, undef, undef, undef, undef, undef, undef, undef], []⟩) (by kernel_rfl) ?_
  have f1 : n.tmod 4 = n % 4 := tm _ _ h0
  have f2 : n.tdiv 4 = n / 4 := td _ _ h0
  have f3 : IntKind.u8.wrap (n / 4) = n / 4 := wrap_u8 _ (by omega) (by omega)
  have f4 : (n / 4).tmod 4 = n / 4 % 4 := tm _ _ (by omega)
  have f5 : n.tdiv 16 = n / 16 := td _ _ h0
  have f6 : IntKind.u8.wrap (n / 16) = n / 16 := wrap_u8 _ (by omega) (by omega)
  have f7 : (n / 16).tmod 3 = n / 16 % 3 := tm _ _ (by omega)
  have f8 : IntKind.i64.wrap (n / 16 % 3) = n / 16 % 3 := wrap_in _ (by omega) (by omega)
  have f9 : IntKind.i64.wrap (1 + n / 16 % 3) = 1 + n / 16 % 3 := wrap_in _ (by omega) (by omega)
  have f10 : n.tdiv 48 = n / 48 := td _ _ h0
  have f11 : IntKind.u8.wrap (n / 48) = n / 48 := wrap_u8 _ (by omega) (by omega)
  have f12 : (n / 48).tmod 4 = n / 48 % 4 := tm _ _ (by omega)
  have f13 : n.tmod 3 = n % 3 := tm _ _ h0
  have f14 : n.tmod 7 = n % 7 := tm _ _ h0
  have f15 : 0 ≤ n % 4 := by omega
  have f16 : n % 4 < 4 := by omega
  have f17 : 0 ≤ n / 48 % 4 := by omega
  have f18 : n / 48 % 4 < 4 := by omega
  have f19 : (n % 4).toNat + 1 ≤ 4 := by omega
  have f20 : (n / 48 % 4).toNat + 1 ≤ 4 := by omega
  have f21 : List.take 1 (List.drop (n % 4).toNat [Value.int .i64 1000, .int .i64 0, .int .i64 2999, .int .i64 1]) = [.int .i64 (sel4 (n % 4) 1000 0 2999 1)] := sel_take _ _ _ _ f15 f16
  have f22 : List.take 1 (List.drop (n / 48 % 4).toNat [Value.int .i64 0, .int .i64 0, .int .i64 10, .int .i64 3]) = [.int .i64 (sel4 (n / 48 % 4) 0 0 10 3)] := sel_take _ _ _ _ f17 f18
  have f23 : (n % 4).toNat < 4 := by omega
  have f24 : (n / 48 % 4).toNat < 4 := by omega
  have f25 : (n % 4).toNat ≤ 3 := by omega
  have f26 : (n / 48 % 4).toNat ≤ 3 := by omega
  refine DK.seq ?_
  refine DK.region (is := [0]) (by kernel_rfl) rfl ?_
  refine WK.run (rest := []) [0] (by simp [f1, f2, f3, f4, f5, f6, f7, f8, f9, f10, f11, f12, f13, f14, f15, f16, f17, f18, f19, f20, f21, f22, f23, f24, f25, f26]; constructor <;> rfl) ?_
  refine WK.nil ?_
  refine DK.seq ?_
  refine DK.draw rfl (POk.of (ord := [0, 1, 2, 3, 4, 5, 6, 7, 8, 9, 10, 11, 12, 13, 14, 15, 16, 17, 18, 19, 20, 21, 22, 23, 24, 25, 26]) (by kernel_rfl)) ?_
  refine XK.run (rest := [10, 11, 12, 13, 14, 15, 16, 17, 18, 19, 20, 21, 22, 23, 24, 25, 26]) [0, 1, 2, 3, 4, 5, 6, 7, 8, 9] (by kernel_rfl) (by simp [f1, f2, f3, f4, f5, f6, f7, f8, f9, f10, f11, f12, f13, f14, f15, f16, f17, f18, f19, f20, f21, f22, f23, f24, f25, f26]; constructor <;> rfl) ?_
  refine XK.run (rest := [20, 21, 22, 23, 24, 25, 26]) [10, 11, 12, 13, 14, 15, 16, 17, 18, 19] (by kernel_rfl) (by simp [f1, f2, f3, f4, f5, f6, f7, f8, f9, f10, f11, f12, f13, f14, f15, f16, f17, f18, f19, f20, f21, f22, f23, f24, f25, f26]; constructor <;> rfl) ?_
  refine XK.run (rest := [26]) [20, 21, 22, 23, 24, 25] (by kernel_rfl) (by simp [f1, f2, f3, f4, f5, f6, f7, f8, f9, f10, f11, f12, f13, f14, f15, f16, f17, f18, f19, f20, f21, f22, f23, f24, f25, f26]; constructor <;> rfl) ?_
  refine XK.one rfl (by simp [f1, f2, f3, f4, f5, f6, f7, f8, f9, f10, f11, f12, f13, f14, f15, f16, f17, f18, f19, f20, f21, f22, f23, f24, f25, f26]) rfl (by simp [f1, f2, f3, f4, f5, f6, f7, f8, f9, f10, f11, f12, f13, f14, f15, f16, f17, f18, f19, f20, f21, f22, f23, f24, f25, f26]; constructor <;> rfl) (lag_list (l := []) (by kernel_rfl) rfl) ?_
  refine XK.nil ?_
  refine DK.ret ?_
  refine And.intro (Or.inr rfl) ?_
  refine ⟨_, by simp [absAnswer, absResults, absResult, Tryd.f20]; rfl, ?_⟩
  refine ⟨by first | exact ⟨[], (List.append_nil _).symm⟩ | exact ⟨_, rfl⟩, by simp, ?_⟩
  simp [planR]
  constructor <;> rfl
theorem rorder_s (x : At4) (hx : x.ok) (asks : List Nt) (hn : asks.length ≤ 100000000000) {s : Value} {H : Mem} (hR : RowAt H s asks) : FSem Tryd.prog [0] 13 #[x.v, s] H fun v H' => v = (orderR x asks).v ∧ H' = H := by
  refine FSem.plainT ?_
  refine FSem.ofK Tryd.func13 rfl ?_
  refine DK.from (b' := ⟨#[x.v, s, undef, undef, undef, undef, undef, undef, undef, undef, undef, undef, undef, undef, undef, undef, undef, undef, undef, undef, undef, undef, undef, undef, undef, undef, undef, undef, undef, undef, undef, undef, undef, undef, undef, undef, undef, undef, undef, undef, undef, undef, undef, undef, undef, undef, undef, undef, undef, undef, undef, undef, undef, undef, undef, undef, undef, undef, undef, undef, undef, undef, undef, undef, undef, undef, undef, undef, undef, undef, undef, undef, undef, undef, undef, undef, undef, undef, undef, undef, undef, undef, undef, undef, undef, undef, undef, undef, undef, undef, undef, undef, undef], []⟩) (by kernel_rfl) ?_
  obtain ⟨⟨k1, k2⟩, ⟨k3, k4⟩, ⟨k5, k6⟩, ⟨k7, k8⟩⟩ := hx
  have u1 : x.a.tmod 3 = x.a % 3 := tm _ _ (by omega)
  have u2 : x.k.tmod 14 = x.k % 14 := tm _ _ (by omega)
  have u3 : IntKind.i64.wrap (x.a % 3) = x.a % 3 := wrap_in _ (by omega) (by omega)
  have u4 : x.b.tmod 3 = x.b % 3 := tm _ _ (by omega)
  have u5 : IntKind.i64.wrap (x.b % 3) = x.b % 3 := wrap_in _ (by omega) (by omega)
  have u6 : x.b.tmod 5 = x.b % 5 := tm _ _ (by omega)
  have u7 : IntKind.u8.wrap (4 + x.b % 5) = 4 + x.b % 5 := wrap_u8 _ (by omega) (by omega)
  have u8 : x.c.tmod 40 = x.c % 40 := tm _ _ (by omega)
  have u9 : IntKind.i64.wrap (x.c % 40) = x.c % 40 := wrap_in _ (by omega) (by omega)
  have u10 : IntKind.i64.wrap (1 + x.c % 40) = 1 + x.c % 40 := wrap_in _ (by omega) (by omega)
  have u11 : x.c.tmod 9 = x.c % 9 := tm _ _ (by omega)
  have u12 : IntKind.i64.wrap (x.c % 9) = x.c % 9 := wrap_in _ (by omega) (by omega)
  have u13 : IntKind.i64.wrap (1 + x.c % 9) = 1 + x.c % 9 := wrap_in _ (by omega) (by omega)
  have u14 : IntKind.i64.wrap x.b = x.b := wrap_in _ (by omega) (by omega)
  have u15 : x.c.tmod 5 = x.c % 5 := tm _ _ (by omega)
  have u16 : 0 ≤ x.c % 5 := by omega
  have u17 : x.c % 5 < 5 := by omega
  have u18 : (x.c % 5).toNat + 1 ≤ 5 := by omega
  have u19 : List.take 1 (List.drop (x.c % 5).toNat [Value.int .u8 1, .int .u8 1, .int .u8 1, .int .u8 2, .int .u8 3]) = [.int .u8 (verR x.c)] := ver_take
  have u20 : (x.c % 5).toNat ≤ 4 := by omega
  have u21 : (x.c % 5).toNat < 5 := by omega
  have hb1 := True.intro
  have hle := True.intro
  have hge := True.intro
  have hg0 := True.intro
  have hg1 := True.intro
  have hbm := True.intro
  have hne := True.intro
  have hln := lenNt hR
  refine DK.seq ?_
  refine DK.region (is := [0, 1]) (by kernel_rfl) rfl ?_
  refine WK.run (rest := []) [0, 1] (by simp [u1, u2, u3, u4, u5, u6, u7, u8, u9, u10, u11, u12, u13, u14, u15, u16, u17, u18, u19, u20, u21, hb1, hle, hge, hg0, hg1, hbm, hne, hln]; constructor <;> rfl) ?_
  refine WK.nil ?_
  refine DK.seq ?_
  refine DK.region (is := [0, 1, 2, 3, 4]) (by kernel_rfl) rfl ?_
  refine WK.run (rest := []) [0, 1, 2, 3, 4] (by simp [u1, u2, u3, u4, u5, u6, u7, u8, u9, u10, u11, u12, u13, u14, u15, u16, u17, u18, u19, u20, u21, hb1, hle, hge, hg0, hg1, hbm, hne, hln]; constructor <;> rfl) ?_
  refine WK.nil ?_
  refine DK.seq ?_
  refine DK.seq ?_
  refine DK.region (is := [0, 1, 2]) (by kernel_rfl) rfl ?_
  refine WK.run (rest := []) [0, 1, 2] (by simp [u1, u2, u3, u4, u5, u6, u7, u8, u9, u10, u11, u12, u13, u14, u15, u16, u17, u18, u19, u20, u21, hb1, hle, hge, hg0, hg1, hbm, hne, hln]; constructor <;> rfl) ?_
  refine WK.nil ?_
  refine DK.block ?_
  refine DK.seq ?_
  refine DK.region (is := [0, 1]) (by kernel_rfl) rfl ?_
  refine WK.run (rest := []) [0, 1] (by simp [u1, u2, u3, u4, u5, u6, u7, u8, u9, u10, u11, u12, u13, u14, u15, u16, u17, u18, u19, u20, u21, hb1, hle, hge, hg0, hg1, hbm, hne, hln]; constructor <;> rfl) ?_
  refine WK.nil ?_
  refine DK.test rfl rfl (fun h => ?_) (fun h => ?_)
  · try simp only [h]
    replace h := Tr.out h
    refine DK.seq ?_
    refine DK.region (is := [0, 1, 2, 3, 4]) (by kernel_rfl) rfl ?_
    refine WK.run (rest := [2, 3, 4]) [0, 1] (by simp [u1, u2, u3, u4, u5, u6, u7, u8, u9, u10, u11, u12, u13, u14, u15, u16, u17, u18, u19, u20, u21, hb1, hle, hge, hg0, hg1, hbm, hne, hln]; constructor <;> rfl) ?_
    refine WK.call rfl (by simp [u1, u2, u3, u4, u5, u6, u7, u8, u9, u10, u11, u12, u13, u14, u15, u16, u17, u18, u19, u20, u21, hb1, hle, hge, hg0, hg1, hbm, hne, hln]) (by simp [Tryd.func20, Tryd.f20, u1, u2, u3, u4, u5, u6, u7, u8, u9, u10, u11, u12, u13, u14, u15, u16, u17, u18, u19, u20, u21, hb1, hle, hge, hg0, hg1, hbm, hne, hln]; constructor <;> rfl) ?_
    refine FSem.mono (rplan_s x.b (by omega) (by omega) _) ?_
    rintro _ _ ⟨rfl, rfl⟩
    refine WK.run (rest := []) [3, 4] (by simp [u1, u2, u3, u4, u5, u6, u7, u8, u9, u10, u11, u12, u13, u14, u15, u16, u17, u18, u19, u20, u21, hb1, hle, hge, hg0, hg1, hbm, hne, hln]; constructor <;> rfl) ?_
    refine WK.nil ?_
    refine DK.ret ?_
    refine And.intro (Or.inr rfl) ?_
    refine ⟨_, by simp [absAnswer, absResults, absResult, Tryd.f13]; rfl, ?_⟩
    refine ⟨by first | exact ⟨[], (List.append_nil _).symm⟩ | exact ⟨_, rfl⟩, by simp, ?_⟩
    unfold orderR; simp_all [zeroP, zeroN]
  try simp only [h]
  replace h := Fa.out h
  refine DK.seq ?_
  refine DK.seq ?_
  refine DK.region (is := [0, 1]) (by kernel_rfl) rfl ?_
  refine WK.run (rest := []) [0, 1] (by simp [u1, u2, u3, u4, u5, u6, u7, u8, u9, u10, u11, u12, u13, u14, u15, u16, u17, u18, u19, u20, u21, hb1, hle, hge, hg0, hg1, hbm, hne, hln]; constructor <;> rfl) ?_
  refine WK.nil ?_
  refine DK.test rfl rfl (fun h => ?_) (fun h => ?_)
  · try simp only [h]
    replace h := Tr.out h
    refine DK.skip ?_
    refine DK.yes rfl rfl ?_
    refine DK.seq ?_
    refine DK.region (is := [0, 1, 2, 3, 4, 5, 6]) (by kernel_rfl) rfl ?_
    refine WK.run (rest := []) [0, 1, 2, 3, 4, 5, 6] (by simp [u1, u2, u3, u4, u5, u6, u7, u8, u9, u10, u11, u12, u13, u14, u15, u16, u17, u18, u19, u20, u21, hb1, hle, hge, hg0, hg1, hbm, hne, hln]; constructor <;> rfl) ?_
    refine WK.nil ?_
    refine DK.ret ?_
    refine And.intro (Or.inr rfl) ?_
    refine ⟨_, by simp [absAnswer, absResults, absResult, Tryd.f13]; rfl, ?_⟩
    refine ⟨by first | exact ⟨[], (List.append_nil _).symm⟩ | exact ⟨_, rfl⟩, by simp, ?_⟩
    unfold orderR; simp_all [zeroP, zeroN]
  try simp only [h]
  replace h := Fa.out h
  refine DK.region (is := [0, 1]) (by kernel_rfl) rfl ?_
  refine WK.run (rest := []) [0, 1] (by simp [u1, u2, u3, u4, u5, u6, u7, u8, u9, u10, u11, u12, u13, u14, u15, u16, u17, u18, u19, u20, u21, hb1, hle, hge, hg0, hg1, hbm, hne, hln]; constructor <;> rfl) ?_
  refine WK.nil ?_
  refine DK.test rfl rfl (fun h => ?_) (fun h => ?_)
  · try simp only [h]
    replace h := Tr.out h
    refine DK.seq ?_
    refine DK.region (is := [0, 1, 2, 3, 4, 5, 6]) (by kernel_rfl) rfl ?_
    refine WK.run (rest := []) [0, 1, 2, 3, 4, 5, 6] (by simp [u1, u2, u3, u4, u5, u6, u7, u8, u9, u10, u11, u12, u13, u14, u15, u16, u17, u18, u19, u20, u21, hb1, hle, hge, hg0, hg1, hbm, hne, hln]; constructor <;> rfl) ?_
    refine WK.nil ?_
    refine DK.ret ?_
    refine And.intro (Or.inr rfl) ?_
    refine ⟨_, by simp [absAnswer, absResults, absResult, Tryd.f13]; rfl, ?_⟩
    refine ⟨by first | exact ⟨[], (List.append_nil _).symm⟩ | exact ⟨_, rfl⟩, by simp, ?_⟩
    unfold orderR; simp_all [zeroP, zeroN]
  try simp only [h]
  replace h := Fa.out h
  refine DK.seq ?_
  refine DK.region (is := [0, 1]) (by kernel_rfl) rfl ?_
  refine WK.run (rest := []) [0, 1] (by simp [u1, u2, u3, u4, u5, u6, u7, u8, u9, u10, u11, u12, u13, u14, u15, u16, u17, u18, u19, u20, u21, hb1, hle, hge, hg0, hg1, hbm, hne, hln]; constructor <;> rfl) ?_
  refine WK.nil ?_
  refine DK.test rfl rfl (fun h => ?_) (fun h => ?_)
  · try simp only [h]
    replace h := Tr.out h
    refine DK.seq ?_
    refine DK.region (is := [0, 1, 2, 3, 4, 5, 6]) (by kernel_rfl) rfl ?_
    refine WK.run (rest := []) [0, 1, 2, 3, 4, 5, 6] (by simp [u1, u2, u3, u4, u5, u6, u7, u8, u9, u10, u11, u12, u13, u14, u15, u16, u17, u18, u19, u20, u21, hb1, hle, hge, hg0, hg1, hbm, hne, hln]; constructor <;> rfl) ?_
    refine WK.nil ?_
    refine DK.ret ?_
    refine And.intro (Or.inr rfl) ?_
    refine ⟨_, by simp [absAnswer, absResults, absResult, Tryd.f13]; rfl, ?_⟩
    refine ⟨by first | exact ⟨[], (List.append_nil _).symm⟩ | exact ⟨_, rfl⟩, by simp, ?_⟩
    unfold orderR; simp_all [zeroP, zeroN]
  try simp only [h]
  replace h := Fa.out h
  refine DK.seq ?_
  refine DK.region (is := [0, 1]) (by kernel_rfl) rfl ?_
  refine WK.run (rest := []) [0, 1] (by simp [u1, u2, u3, u4, u5, u6, u7, u8, u9, u10, u11, u12, u13, u14, u15, u16, u17, u18, u19, u20, u21, hb1, hle, hge, hg0, hg1, hbm, hne, hln]; constructor <;> rfl) ?_
  refine WK.nil ?_
  refine DK.test rfl rfl (fun h => ?_) (fun h => ?_)
  · try simp only [h]
    replace h := Tr.out h
    refine DK.seq ?_
    refine DK.region (is := [0, 1, 2, 3, 4, 5, 6]) (by kernel_rfl) rfl ?_
    refine WK.run (rest := []) [0, 1, 2, 3, 4, 5, 6] (by simp [u1, u2, u3, u4, u5, u6, u7, u8, u9, u10, u11, u12, u13, u14, u15, u16, u17, u18, u19, u20, u21, hb1, hle, hge, hg0, hg1, hbm, hne, hln]; constructor <;> rfl) ?_
    refine WK.nil ?_
    refine DK.ret ?_
    refine And.intro (Or.inr rfl) ?_
    refine ⟨_, by simp [absAnswer, absResults, absResult, Tryd.f13]; rfl, ?_⟩
    refine ⟨by first | exact ⟨[], (List.append_nil _).symm⟩ | exact ⟨_, rfl⟩, by simp, ?_⟩
    unfold orderR; simp_all [zeroP, zeroN]
  try simp only [h]
  replace h := Fa.out h
  refine DK.seq ?_
  refine DK.region (is := [0, 1]) (by kernel_rfl) rfl ?_
  refine WK.run (rest := []) [0, 1] (by simp [u1, u2, u3, u4, u5, u6, u7, u8, u9, u10, u11, u12, u13, u14, u15, u16, u17, u18, u19, u20, u21, hb1, hle, hge, hg0, hg1, hbm, hne, hln]; constructor <;> rfl) ?_
  refine WK.nil ?_
  refine DK.test rfl rfl (fun h => ?_) (fun h => ?_)
  · try simp only [h]
    replace h := Tr.out h
    refine DK.seq ?_
    refine DK.region (is := [0, 1, 2]) (by kernel_rfl) rfl ?_
    refine WK.run (rest := []) [0, 1, 2] (by simp [u1, u2, u3, u4, u5, u6, u7, u8, u9, u10, u11, u12, u13, u14, u15, u16, u17, u18, u19, u20, u21, hb1, hle, hge, hg0, hg1, hbm, hne, hln]; constructor <;> rfl) ?_
    refine WK.nil ?_
    refine DK.ret ?_
    refine And.intro (Or.inr rfl) ?_
    refine ⟨_, by simp [absAnswer, absResults, absResult, Tryd.f13]; rfl, ?_⟩
    refine ⟨by first | exact ⟨[], (List.append_nil _).symm⟩ | exact ⟨_, rfl⟩, by simp, ?_⟩
    unfold orderR; simp_all [zeroP, zeroN]
  try simp only [h]
  replace h := Fa.out h
  refine DK.seq ?_
  refine DK.seq ?_
  refine DK.region (is := [0, 1]) (by kernel_rfl) rfl ?_
  refine WK.run (rest := []) [0, 1] (by simp [u1, u2, u3, u4, u5, u6, u7, u8, u9, u10, u11, u12, u13, u14, u15, u16, u17, u18, u19, u20, u21, hb1, hle, hge, hg0, hg1, hbm, hne, hln]; constructor <;> rfl) ?_
  refine WK.nil ?_
  refine DK.test rfl rfl (fun h => ?_) (fun h => ?_)
  · try simp only [h]
    replace h := Tr.out h
    refine DK.skip ?_
    refine DK.yes rfl rfl ?_
    refine DK.seq ?_
    refine DK.region (is := [0, 1, 2, 3, 4, 5, 6]) (by kernel_rfl) rfl ?_
    refine WK.run (rest := []) [0, 1, 2, 3, 4, 5, 6] (by simp [u1, u2, u3, u4, u5, u6, u7, u8, u9, u10, u11, u12, u13, u14, u15, u16, u17, u18, u19, u20, u21, hb1, hle, hge, hg0, hg1, hbm, hne, hln]; constructor <;> rfl) ?_
    refine WK.nil ?_
    refine DK.ret ?_
    refine And.intro (Or.inr rfl) ?_
    refine ⟨_, by simp [absAnswer, absResults, absResult, Tryd.f13]; rfl, ?_⟩
    refine ⟨by first | exact ⟨[], (List.append_nil _).symm⟩ | exact ⟨_, rfl⟩, by simp, ?_⟩
    unfold orderR; simp_all [zeroP, zeroN]
  try simp only [h]
  replace h := Fa.out h
  refine DK.seq ?_
  refine DK.region (is := [0, 1]) (by kernel_rfl) rfl ?_
  refine WK.run (rest := []) [0, 1] (by simp [u1, u2, u3, u4, u5, u6, u7, u8, u9, u10, u11, u12, u13, u14, u15, u16, u17, u18, u19, u20, u21, hb1, hle, hge, hg0, hg1, hbm, hne, hln]; constructor <;> rfl) ?_
  refine WK.nil ?_
  refine DK.test rfl rfl (fun h => ?_) (fun h => ?_)
  · try simp only [h]
    replace h := Tr.out h
    refine DK.skip ?_
    refine DK.yes rfl rfl ?_
    refine DK.seq ?_
    refine DK.region (is := [0, 1, 2, 3, 4, 5, 6]) (by kernel_rfl) rfl ?_
    refine WK.run (rest := []) [0, 1, 2, 3, 4, 5, 6] (by simp [u1, u2, u3, u4, u5, u6, u7, u8, u9, u10, u11, u12, u13, u14, u15, u16, u17, u18, u19, u20, u21, hb1, hle, hge, hg0, hg1, hbm, hne, hln]; constructor <;> rfl) ?_
    refine WK.nil ?_
    refine DK.ret ?_
    refine And.intro (Or.inr rfl) ?_
    refine ⟨_, by simp [absAnswer, absResults, absResult, Tryd.f13]; rfl, ?_⟩
    refine ⟨by first | exact ⟨[], (List.append_nil _).symm⟩ | exact ⟨_, rfl⟩, by simp, ?_⟩
    unfold orderR; simp_all [zeroP, zeroN]
  try simp only [h]
  replace h := Fa.out h
  refine DK.region (is := [0, 1]) (by kernel_rfl) rfl ?_
  refine WK.run (rest := []) [0, 1] (by simp [u1, u2, u3, u4, u5, u6, u7, u8, u9, u10, u11, u12, u13, u14, u15, u16, u17, u18, u19, u20, u21, hb1, hle, hge, hg0, hg1, hbm, hne, hln]; constructor <;> rfl) ?_
  refine WK.nil ?_
  refine DK.test rfl rfl (fun h => ?_) (fun h => ?_)
  · try simp only [h]
    replace h := Tr.out h
    refine DK.seq ?_
    refine DK.region (is := [0, 1, 2, 3, 4, 5, 6]) (by kernel_rfl) rfl ?_
    refine WK.run (rest := []) [0, 1, 2, 3, 4, 5, 6] (by simp [u1, u2, u3, u4, u5, u6, u7, u8, u9, u10, u11, u12, u13, u14, u15, u16, u17, u18, u19, u20, u21, hb1, hle, hge, hg0, hg1, hbm, hne, hln]; constructor <;> rfl) ?_
    refine WK.nil ?_
    refine DK.ret ?_
    refine And.intro (Or.inr rfl) ?_
    refine ⟨_, by simp [absAnswer, absResults, absResult, Tryd.f13]; rfl, ?_⟩
    refine ⟨by first | exact ⟨[], (List.append_nil _).symm⟩ | exact ⟨_, rfl⟩, by simp, ?_⟩
    unfold orderR; simp_all [zeroP, zeroN]
  try simp only [h]
  replace h := Fa.out h
  refine DK.skip ?_
  refine DK.seq ?_
  refine DK.seq ?_
  refine DK.region (is := [0, 1, 2]) (by kernel_rfl) rfl ?_
  refine WK.run (rest := []) [0, 1, 2] (by simp [u1, u2, u3, u4, u5, u6, u7, u8, u9, u10, u11, u12, u13, u14, u15, u16, u17, u18, u19, u20, u21, hb1, hle, hge, hg0, hg1, hbm, hne, hln]; constructor <;> rfl) ?_
  refine WK.nil ?_
  refine DK.test rfl rfl (fun h => ?_) (fun h => ?_)
  · try simp only [h]
    replace h := Tr.out h
    refine DK.seq ?_
    refine DK.region (is := [0, 1, 2, 3, 4, 5, 6]) (by kernel_rfl) rfl ?_
    refine WK.run (rest := []) [0, 1, 2, 3, 4, 5, 6] (by simp [u1, u2, u3, u4, u5, u6, u7, u8, u9, u10, u11, u12, u13, u14, u15, u16, u17, u18, u19, u20, u21, hb1, hle, hge, hg0, hg1, hbm, hne, hln]; constructor <;> rfl) ?_
    refine WK.nil ?_
    refine DK.ret ?_
    refine And.intro (Or.inr rfl) ?_
    refine ⟨_, by simp [absAnswer, absResults, absResult, Tryd.f13]; rfl, ?_⟩
    refine ⟨by first | exact ⟨[], (List.append_nil _).symm⟩ | exact ⟨_, rfl⟩, by simp, ?_⟩
    unfold orderR; simp_all [zeroP, zeroN]
  try simp only [h]
  replace h := Fa.out h
  have hl0 : 0 < asks.length := by omega
  replace hg0 : 0 ≤ x.b % asks.length := Int.emod_nonneg _ (by omega)
  replace hg1 : x.b % asks.length < asks.length := Int.emod_lt_of_pos _ (by omega)
  replace hbm : x.b.tmod asks.length = x.b % asks.length := tm _ _ (by omega)
  replace hne : ¬ (asks = []) := by rintro rfl; simp at hl0
  have hil : (x.b % asks.length).toNat < asks.length := by omega
  obtain ⟨b, o, ro, vs, rfl, hb, hle1, hge1⟩ := hR.blk hil
  replace hb1 : ∀ r : Mem, (H ++ r)[b]? = some (.cells ro vs) := fun r => by rw [List.getElem?_append_left (List.getElem?_eq_some_iff.1 hb).1]; exact hb
  replace hle : o + (x.b % asks.length).toNat * 6 + 6 ≤ vs.length := hle1
  replace hge : List.take 6 (List.drop (o + (x.b % asks.length).toNat * 6) vs) = (asks[(x.b % asks.length).toNat]).l := hge1
  have hgd : asks.getD (x.b % asks.length).toNat zeroN = asks[(x.b % asks.length).toNat] := by simp [List.getD_eq_getElem?_getD, List.getElem?_eq_getElem hil]
  refine DK.skip ?_
  refine DK.seq ?_
  refine DK.region (is := [0, 1, 2, 3, 4, 5, 6, 7, 8, 9, 10]) (by kernel_rfl) rfl ?_
  refine WK.run (rest := [10]) [0, 1, 2, 3, 4, 5, 6, 7, 8, 9] (by simp [u1, u2, u3, u4, u5, u6, u7, u8, u9, u10, u11, u12, u13, u14, u15, u16, u17, u18, u19, u20, u21, hb1, hle, hge, hg0, hg1, hbm, hne, hln]; constructor <;> rfl) ?_
  refine WK.run (rest := []) [10] (by simp [u1, u2, u3, u4, u5, u6, u7, u8, u9, u10, u11, u12, u13, u14, u15, u16, u17, u18, u19, u20, u21, hb1, hle, hge, hg0, hg1, hbm, hne, hln]; constructor <;> rfl) ?_
  refine WK.nil ?_
  refine DK.seq ?_
  refine DK.region (is := [0, 1, 2, 3, 4, 5, 6, 7]) (by kernel_rfl) rfl ?_
  refine WK.run (rest := []) [0, 1, 2, 3, 4, 5, 6, 7] (by simp [u1, u2, u3, u4, u5, u6, u7, u8, u9, u10, u11, u12, u13, u14, u15, u16, u17, u18, u19, u20, u21, hb1, hle, hge, hg0, hg1, hbm, hne, hln]; constructor <;> rfl) ?_
  refine WK.nil ?_
  refine DK.seq ?_
  refine DK.seq ?_
  refine DK.region (is := [0, 1, 2]) (by kernel_rfl) rfl ?_
  refine WK.run (rest := []) [0, 1, 2] (by simp [u1, u2, u3, u4, u5, u6, u7, u8, u9, u10, u11, u12, u13, u14, u15, u16, u17, u18, u19, u20, u21, hb1, hle, hge, hg0, hg1, hbm, hne, hln]; constructor <;> rfl) ?_
  refine WK.nil ?_
  refine DK.test rfl rfl (fun h => ?_) (fun h => ?_)
  · try simp only [h]
    replace h := Tr.out h
    refine DK.region (is := [0, 1, 2, 3, 4]) (by kernel_rfl) rfl ?_
    refine WK.run (rest := []) [0, 1, 2, 3, 4] (by simp [u1, u2, u3, u4, u5, u6, u7, u8, u9, u10, u11, u12, u13, u14, u15, u16, u17, u18, u19, u20, u21, hb1, hle, hge, hg0, hg1, hbm, hne, hln]; constructor <;> rfl) ?_
    refine WK.nil ?_
    refine DK.seq ?_
    refine DK.region (is := [0, 1, 2]) (by kernel_rfl) rfl ?_
    refine WK.run (rest := []) [0, 1, 2] (by simp [u1, u2, u3, u4, u5, u6, u7, u8, u9, u10, u11, u12, u13, u14, u15, u16, u17, u18, u19, u20, u21, hb1, hle, hge, hg0, hg1, hbm, hne, hln]; constructor <;> rfl) ?_
    refine WK.nil ?_
    refine DK.ret ?_
    refine And.intro (Or.inr rfl) ?_
    refine ⟨_, by simp [absAnswer, absResults, absResult, Tryd.f13]; rfl, ?_⟩
    refine ⟨by first | exact ⟨[], (List.append_nil _).symm⟩ | exact ⟨_, rfl⟩, by simp, ?_⟩
    unfold orderR; simp_all [zeroP, zeroN]
  try simp only [h]
  replace h := Fa.out h
  refine DK.skip ?_
  refine DK.seq ?_
  refine DK.region (is := [0, 1, 2]) (by kernel_rfl) rfl ?_
  refine WK.run (rest := []) [0, 1, 2] (by simp [u1, u2, u3, u4, u5, u6, u7, u8, u9, u10, u11, u12, u13, u14, u15, u16, u17, u18, u19, u20, u21, hb1, hle, hge, hg0, hg1, hbm, hne, hln]; constructor <;> rfl) ?_
  refine WK.nil ?_
  refine DK.ret ?_
  refine And.intro (Or.inr rfl) ?_
  refine ⟨_, by simp [absAnswer, absResults, absResult, Tryd.f13]; rfl, ?_⟩
  refine ⟨by first | exact ⟨[], (List.append_nil _).symm⟩ | exact ⟨_, rfl⟩, by simp, ?_⟩
  unfold orderR; simp_all [zeroP, zeroN]
end Go.Den
set_option linter.unusedVariables false
set_option maxRecDepth 100000
namespace Go.Den
open Go Go.Proofs
def Sz (k : Nat) (a : Ac) : Prop := 0 ≤ a.ix ∧ a.op.length ≤ k
theorem Sz.zero (k : Nat) : Sz k zeroA := ⟨by decide, by simp [zeroA]⟩
theorem Sz.le {k m : Nat} {a : Ac} (h : Sz k a) (hm : k ≤ m) : Sz m a := ⟨h.1, Nat.le_trans h.2 hm⟩
theorem closeA_ix (a : Ac) (c : Cy) : (closeA a c).1.ix = a.ix := by unfold closeA; split <;> (try split) <;> (try split) <;> (try split) <;> rfl
theorem dayL_sz {p : Pl} {t : Int} {B : Nat} : ∀ (n : Nat) (a : Ac), Sz B a → Sz (B + n) (dayL p t n a).1
  | 0, a, h => h
  | n + 1, a, h => by
    unfold dayL
    split
    · exact h.le (by omega)
    · split
      · exact h.le (by omega)
      · rename_i h1 h2
        have hf := (nthF_ok (a := a.an) (u := p.un) (e := p.ev) (n := a.ix) (by have : ¬ ((dueA a p).2 ≠ 0) := fun q => h2 (.inl q); simpa [dueA] using this)).1.2.2
        dsimp only
        split
        · exact Sz.zero _
        · have e1 := beginA_ix { a with ix := IntKind.i64.wrap (a.ix + 1) } p (dueA a p).1 (p.la && (decide ((dueA { a with ix := IntKind.i64.wrap (a.ix + 1) } p).2 = 0) && decide ((dueA { a with ix := IntKind.i64.wrap (a.ix + 1) } p).1 ≤ t)))
          have e3 := beginA_op { a with ix := IntKind.i64.wrap (a.ix + 1) } p (dueA a p).1 (p.la && (decide ((dueA { a with ix := IntKind.i64.wrap (a.ix + 1) } p).2 = 0) && decide ((dueA { a with ix := IntKind.i64.wrap (a.ix + 1) } p).1 ≤ t)))
          refine Sz.le (k := B + 1 + n) (dayL_sz (B := B + 1) n _ ⟨?_, ?_⟩) (by omega)
          · rw [e1]; simp only; rw [wrap_in _ (by omega) (by omega)]; omega
          · have := h.2; simp only at e3; omega
theorem dayA_sz {a : Ac} {p : Pl} {t : Int} {k : Nat} (h : Sz k a) : Sz (k + 3652060) (dayA a p t).1 := by
  unfold dayA
  have := dayL_sz (p := p) (t := t) (dayN a) { a with op := a.op.map (fun c => wakeC c t) } (B := k) ⟨h.1, by simpa using h.2⟩
  exact this.le (by have := dayN_le h.1; omega)
theorem settleL_sz {k : Nat} : ∀ (l : List Cy) (a : Ac), 0 ≤ a.ix → a.op.length + l.length ≤ k → Sz k (settleL l a).1
  | [], a, h0, h1 => ⟨h0, by simpa [settleL] using h1⟩
  | c :: l, a, h0, h1 => by
    unfold settleL
    split
    · exact Sz.zero _
    · have := closeA_op a c
      exact settleL_sz l _ (by rw [closeA_ix]; exact h0) (by simp at h1; omega)
theorem settleA_sz {a : Ac} {k : Nat} (h : Sz k a) : Sz k (settleA a).1 := settleL_sz _ _ h.1 (by simpa using h.2)
theorem hearA_sz {su t : Int} {a : Ac} {n : Nt} {k : Nat} (h : Sz k a) : Sz k (hearA su a n t).1 := by
  unfold hearA
  split
  · exact Sz.zero _
  · dsimp only
    split
    · exact Sz.zero _
    · exact settleA_sz ⟨h.1, by simpa using h.2⟩
theorem turnA_sz {a : Ac} {f t : Int} {k : Nat} (h : Sz k a) : Sz k (turnA a f t).1 := by unfold turnA; split; exact Sz.zero _; exact h
theorem skipA_sz {a : Ac} {k : Nat} (h : Sz k a) : Sz k (skipA a).1 := by unfold skipA; split; exact Sz.zero _; exact h
theorem cancelA_sz {a : Ac} {k : Nat} (h : Sz k a) : Sz k (cancelA a).1 := by unfold cancelA; split; exact Sz.zero _; exact settleA_sz ⟨h.1, by simpa using h.2⟩
theorem cardA_sz {a : Ac} {k : Nat} (h : Sz k a) : Sz k (cardA a).1 := by unfold cardA; split; exact Sz.zero _; exact ⟨h.1, by simpa using h.2⟩
theorem changeA_sz {a : Ac} {f t : Pl} {n today : Int} {k : Nat} (h : Sz k a) : Sz k (changeA a f n t today).1 := by
  unfold changeA
  split
  · exact Sz.zero _
  · dsimp only
    split
    · split
      · exact Sz.zero _
      · split
        · exact Sz.zero _
        · exact ⟨by simp, h.2⟩
    · split
      · exact Sz.zero _
      · exact ⟨by simp, h.2⟩
theorem turnB_sz {b : Bk} {a : Ac} {o : Od} {k : Nat} (h : Sz k a) : Sz k (turnB b a o).1 := by
  unfold turnB
  split; exact turnA_sz h
  split; exact turnA_sz h
  split; exact skipA_sz h
  split; exact cancelA_sz h
  split; exact cardA_sz h
  split; exact Sz.zero _
  exact changeA_sz h
theorem openB_sz {b : Bk} {o : Od} {k : Nat} (hk : 3652060 ≤ k) : Sz k (openB b o).1 := by
  unfold openB
  dsimp only
  split; exact Sz.zero _
  split; exact Sz.zero _
  split; exact Sz.zero _
  exact (dayA_sz (k := 0) ⟨by simp [openAc], by simp [openAc]⟩).le (by omega)
theorem passL_sz {pls : List Pl} {t : Int} {k : Nat} : ∀ l : List Ac, (∀ a ∈ l, Sz k a) → (∀ a ∈ (passL pls t l).1, Sz (k + 3652060) a) ∧ ((passL pls t l).2 = 0 → (passL pls t l).1.length = l.length)
  | [], _ => by simp [passL]
  | a :: l, h => by
    have ih := passL_sz (pls := pls) (t := t) l (fun x hx => h x (by simp [hx]))
    have hr : Sz (k + 3652060) (if a.st = 0 then (a, (0 : Int)) else dayA a (getP pls a.pl).1 t).1 := by
      split
      · exact (h a (by simp)).le (by omega)
      · exact dayA_sz (h a (by simp))
    unfold passL
    dsimp only
    generalize (if a.st = 0 then (a, (0 : Int)) else dayA a (getP pls a.pl).1 t) = r at hr
    split
    · rename_i q0; exact ⟨fun x hx => by simp at hx, fun q => absurd q q0⟩
    · split
      · rename_i q0; exact ⟨fun x hx => by simp at hx, fun q => absurd q q0⟩
      · rename_i h1 h2
        refine ⟨fun x hx => ?_, fun _ => by simp [ih.2 (by simpa using h2)]⟩
        simp only [List.mem_cons] at hx
        rcases hx with rfl | hx
        · exact hr
        · exact ih.1 x hx
theorem put_sz {k m : Nat} {b : Bk} {i : Int} {r : Ac × Int} (h : BOk k b) (hm : k ≤ m) (hr : Sz m r.1) (hok : (b.put i r).2 = 0) : BOk m (b.put i r).1 := by
  unfold Bk.put at hok ⊢
  split
  · rename_i q; rw [if_pos q] at hok; exact absurd hok q
  · refine ⟨h.pls, fun a ha => ?_, by simp [h.len]⟩
    rcases List.mem_or_eq_of_mem_set ha with q | rfl
    · exact ⟨(h.subs a q).1, Nat.le_trans (h.subs a q).2 hm⟩
    · exact hr
theorem sub_sz {k : Nat} {b : Bk} (h : BOk k b) (i : Int) : Sz k (b.sub i) := by
  unfold Bk.sub
  rw [List.getD_eq_getElem?_getD]
  cases hc : b.subs[i.toNat]? with
  | none => exact Sz.zero _
  | some a => exact h.subs a (List.mem_of_getElem? hc)
theorem stepB_ok {k : Nat} {b : Bk} {o : Od} (h : BOk k b) (hok : (stepB b o).2 = 0) : BOk (k + 3652060) (stepB b o).1 := by
  unfold stepB at hok ⊢
  split
  · rename_i q; rw [if_pos q] at hok; exact absurd hok q
  · rename_i q0; rw [if_neg q0] at hok
    split
    · rename_i q; rw [if_pos q] at hok
      split
      · rename_i q2; rw [if_pos q2] at hok; exact absurd hok q2
      · rename_i q2
        refine ⟨fun p hp => ?_, fun a ha => ⟨(h.subs a ha).1, Nat.le_trans (h.subs a ha).2 (by omega)⟩, h.len⟩
        unfold addPl at q2 hp
        split at q2
        · rename_i q3; exact absurd q2 (by simpa using q3)
        · rename_i q3
          rw [if_neg q3] at hp
          split at q2
          · simp at q2
          · rename_i q4
            rw [if_neg q4] at hp
            simp only [List.mem_append, List.mem_singleton] at hp
            rcases hp with hp | rfl
            · exact h.pls p hp
            · simpa using q3
    · rename_i q; rw [if_neg q] at hok
      split
      · rename_i q2; rw [if_pos q2] at hok
        exact put_sz h (by omega) (openB_sz (by omega)) hok
      · rename_i q2; rw [if_neg q2] at hok
        split
        · rename_i q3; rw [if_pos q3] at hok
          unfold passB at hok ⊢
          split
          · rename_i q4; rw [if_pos q4] at hok; simp at hok
          · rename_i q4; rw [if_neg q4] at hok
            dsimp only at hok ⊢
            have hs := passL_sz (pls := b.pls) (t := IntKind.i64.wrap (b.today + o.n)) (k := k) b.subs (fun a ha => h.subs a ha)
            split
            · rename_i q5; rw [if_pos q5] at hok; exact absurd hok q5
            · rename_i q5
              exact ⟨h.pls, hs.1, by rw [hs.2 (by simpa using q5)]; exact h.len⟩
        · rename_i q3; rw [if_neg q3] at hok
          split
          · rename_i q4; rw [if_pos q4] at hok
            exact put_sz h (by omega) ((hearA_sz (sub_sz h _)).le (by omega)) hok
          · rename_i q4; rw [if_neg q4] at hok
            split
            · rename_i q5; rw [if_pos q5] at hok; simp at hok
            · rename_i q5; rw [if_neg q5] at hok
              exact put_sz h (by omega) ((turnB_sz (sub_sz h _)).le (by omega)) hok
theorem stepB_un {b : Bk} {o : Od} (h : UnOk b.pls) (ho : 0 ≤ o.p.un) : UnOk (stepB b o).1.pls := by
  have hz : UnOk zeroB.pls := fun p hp => by simp [zeroB] at hp
  have hput : ∀ (i : Int) (r : Ac × Int), UnOk (b.put i r).1.pls := fun i r => by unfold Bk.put; split; exact hz; exact h
  unfold stepB
  split; exact hz
  split
  · split; exact hz
    intro p hp
    unfold addPl at hp
    split at hp
    · simp at hp
    · split at hp
      · simp at hp
      · simp only [List.mem_append, List.mem_singleton] at hp
        rcases hp with hp | rfl
        · exact h p hp
        · exact ho
  split; exact hput _ _
  split
  · unfold passB; split; exact hz
    dsimp only; split; exact hz; exact h
  split; exact hput _ _
  split; exact hz
  exact hput _ _
theorem stepB_others {b : Bk} {o : Od} (hok : (stepB b o).2 = 0) (h9 : o.kd ≠ 9) : (stepB b o).1.today = b.today ∧ ∀ i : Int, 0 ≤ i → ¬ (i = o.su ∧ o.kd ≠ 10 ∧ o.kd ≠ 1) → ¬ (i = o.a.su ∧ o.kd = 10) → (stepB b o).1.sub i = b.sub i := by
  have hput : ∀ (j : Int) (r : Ac × Int), 0 ≤ j → (b.put j r).2 = 0 → (b.put j r).1.today = b.today ∧ ∀ i : Int, 0 ≤ i → i ≠ j → (b.put j r).1.sub i = b.sub i := by
    intro j r hj hok
    unfold Bk.put at hok ⊢
    split
    · rename_i q; rw [if_pos q] at hok; exact absurd hok q
    · refine ⟨rfl, fun i hi hne => ?_⟩
      unfold Bk.sub
      simp only [List.getD_eq_getElem?_getD]
      rw [List.getElem?_set_ne (by omega)]
  have hr : rightO o = 0 := by
    unfold stepB at hok
    split at hok
    · rename_i q; exact absurd hok q
    · simp_all
  obtain ⟨h10, hsu⟩ := rightO_su hr
  unfold stepB at hok ⊢
  simp only [hr, ne_eq, not_true_eq_false, if_false] at hok ⊢
  split
  · rename_i q; rw [if_pos q] at hok
    split
    · rename_i q2; rw [if_pos q2] at hok; exact absurd hok q2
    · exact ⟨rfl, fun _ _ _ _ => rfl⟩
  · rename_i q; rw [if_neg q] at hok
    split
    · rename_i q2; rw [if_pos q2] at hok
      have := hput o.su _ (hsu (by omega) (by omega) (by omega)).1 hok
      exact ⟨this.1, fun i h0 h1 _ => this.2 i h0 fun e => h1 ⟨e, by omega, by omega⟩⟩
    · rename_i q2; rw [if_neg q2, if_neg h9] at hok
      try rw [if_neg h9]
      split
      · rename_i q4; rw [if_pos q4] at hok
        have := hput o.a.su _ (h10 q4).1 hok
        exact ⟨this.1, fun i h0 _ h1 => this.2 i h0 fun e => h1 ⟨e, q4⟩⟩
      · rename_i q4; rw [if_neg q4] at hok
        split
        · rename_i q5; rw [if_pos q5] at hok; simp at hok
        · rename_i q5; rw [if_neg q5] at hok
          have := hput o.su _ (hsu (by omega) (by omega) (by omega)).1 hok
          exact ⟨this.1, fun i h0 h1 _ => this.2 i h0 fun e => h1 ⟨e, q4, q⟩⟩
theorem orderR_un {x : At4} (hx : x.ok) (asks : List Nt) : 0 ≤ (orderR x asks).p.un := by
  obtain ⟨_, _, ⟨h1, h2⟩, _⟩ := hx
  have : 0 ≤ (planR x.b).un := by simp only [planR]; omega
  unfold orderR
  split; exact this
  split; simp [zeroP]
  split; simp [zeroP]
  split; simp [zeroP]
  split; simp [zeroP]
  split; simp [zeroP]
  split; simp [zeroP]
  simp [zeroP]
theorem newB_ok (t : Int) : BOk 0 (newB t) ∧ UnOk (newB t).pls := by
  refine ⟨⟨fun p hp => by simp [newB] at hp, fun a ha => ?_, by simp [newB]⟩, fun p hp => by simp [newB] at hp⟩
  rw [List.eq_of_mem_replicate ha]
  exact ⟨by decide, by simp [zeroA]⟩
end Go.Den
set_option linter.unusedVariables false
set_option maxRecDepth 100000
namespace Go.Den
open Go Go.Proofs
theorem step_g (k : Nat) (b : Bk) (o : Od) {sp : Value} {l : List As} {H : Mem} (hB : BkAt H sp l b) (hL : Lad H) (hk : BOk k b) (hk3 : k ≤ 300000000) (hu : UnOk b.pls) : FSem Tryd.prog [0] 16 #[bkv b.today sp l, o.v] H fun v H' => ∃ b' e sp' l', v = .tuple #[bkv b'.today sp' l', .int .i64 e] ∧ stepB b o = (b', e) ∧ BkAt H' sp' l' b' ∧ l'.length = 32 ∧ sp'.cells = #[sp'] ∧ sp'.oneCell' = true ∧ Keep H H' ∧ ∀ c, blkOf sp' = some c → blkOf sp = some c ∨ H.length ≤ c := by
  refine FSem.mono (step_s k b o hB hL hk hk3 hu) ?_
  rintro v H' ⟨sp', l', rfl, h, hk, hs⟩
  exact ⟨_, _, sp', l', rfl, rfl, h, h.len, h.pls.cells.1, h.pls.cells.2, hk, hs⟩
theorem plain_bk0 (t : Int) : plainV (bkv t (.slice none 0 0) zL) = true := by kernel_rfl
theorem newb_g (t : Int) (H : Mem) : FSem Tryd.prog [0] 12 #[.int .i64 t] H fun v H' => v = bkv t (.slice none 0 0) zL ∧ H = H' := by
  refine FSem.mono (FSem.plainT (K := fun v => v = bkv t (.slice none 0 0) zL) (FSem.mono (newb_s t H) ?_)) ?_
  · rintro v H' ⟨rfl, h⟩
    exact ⟨h, plain_bk0 t, rfl⟩
  · rintro v H' ⟨h1, h2⟩
    exact ⟨h1, h2.symm⟩
theorem rorder_g (x : At4) (hx : x.ok) (asks : List Nt) (hn : asks.length ≤ 100000000000) {s : Value} {H : Mem} (hR : RowAt H s asks) : FSem Tryd.prog [0] 13 #[x.v, s] H fun v H' => ∃ o : Od, v = o.v ∧ orderR x asks = o ∧ H = H' := by
  refine FSem.mono (rorder_s x hx asks hn hR) ?_
  rintro v H' ⟨rfl, rfl⟩
  exact ⟨_, rfl, rfl, rfl⟩
theorem take_sub {m f k n : Nat} {L X : List Value} (h : List.take m (List.drop n L) = X) (hfk : f + k ≤ m) : List.take k (List.drop (n + f) L) = List.take k (List.drop f X) := by
  rw [← h, List.drop_take, List.take_take, Nat.min_eq_left (by omega), List.drop_drop]
theorem sameL_app : ∀ (xs ys : List Value), sameL xs xs = true → sameL ys ys = true → sameL (xs ++ ys) (xs ++ ys) = true
  | [], ys, _, h => h
  | x :: xs, ys, h1, h2 => by
    simp only [sameL, Bool.and_eq_true, List.cons_append] at h1 ⊢
    exact ⟨h1.1, sameL_app xs ys h1.2 h2⟩
theorem rows_same {H : Mem} : ∀ l : List As, (∀ x ∈ l, OpenAt H x.s x.a.op) → sameL (rowV l) (rowV l) = true
  | [], _ => rfl
  | x :: l, h => by
    rw [rowV_cons]
    refine sameL_app _ _ ?_ (rows_same l fun y hy => h y (by simp [hy]))
    show sameL (x.a.l x.s) (x.a.l x.s) = true
    have := (h x (by simp)).same.1
    simp [sameL, this, same1_int, same1_bool]
theorem bk_same {H : Mem} {sp : Value} {l : List As} {b : Bk} (h : BkAt H sp l b) (t : Int) : sameL (BkL t sp l) (BkL t sp l) = true := by
  unfold BkL
  simp only [sameL, same1_int, h.pls.same.1, decide_true, Bool.true_and]
  exact rows_same l h.op
def p0 : Pl := ⟨100, 0, 30, 0, false, false⟩
def b1 : Bk := ⟨0, [p0], List.replicate 32 zeroA⟩
def a2 : Ac := ⟨1, 0, 0, 1, 1, 0, false, [⟨0, 0, 1, 100, 0, 1, 0, false⟩], 0, 0, 0, 0, 0⟩
def b2 : Bk := ⟨0, [p0], (List.replicate 32 zeroA).set 0 a2⟩
theorem awk1 : stepB (newB 0) ⟨1, 0, 0, 0, p0, zeroN⟩ = (b1, 0) := by
  unfold stepB
  rw [if_neg (by decide), if_pos rfl, if_neg (by decide)]
  rfl
theorem nth00 : nthF 0 0 30 0 = (0, 0) := by
  unfold nthF; rw [if_pos (by decide), nthO_zero (by decide) (by decide)]; rfl
theorem nth01 : nthF 0 0 30 1 = (30, 0) := by
  unfold nthF; rw [if_pos (by decide)]
  simp [nthO, Sea.nth, Sea.off, Sea.dayAdd, Sea.out]
theorem awkd : dayA (openAc 0 p0 0) p0 0 = (a2, 0) := by
  unfold dayA
  have e0 : dueA { openAc 0 p0 0 with op := (openAc 0 p0 0).op.map (fun c => wakeC c 0) } p0 = (0, 0) := nth00
  have hb : beginA { { openAc 0 p0 0 with op := (openAc 0 p0 0).op.map (fun c => wakeC c 0) } with ix := IntKind.i64.wrap ((openAc 0 p0 0).ix + 1) } p0 0 false = (a2, 0) := by decide +kernel
  rw [dayL_go (x := { openAc 0 p0 0 with op := (openAc 0 p0 0).op.map (fun c => wakeC c 0) }) (x2 := a2) (e2 := 0) (by decide) (by decide) (by rw [e0]) (by rw [e0]; decide) false (by simp [p0]) (by rw [e0]; exact hb)]
  simp only [ne_eq, not_true_eq_false, if_false]
  exact dayL_no _ (.inr (by show 0 < (nthF 0 0 30 1).1; rw [nth01]; decide))
theorem awk2 : stepB b1 ⟨2, 0, 0, 0, zeroP, zeroN⟩ = (b2, 0) := by
  unfold stepB
  rw [if_neg (by decide), if_neg (by decide), if_pos rfl]
  have : openB b1 ⟨2, 0, 0, 0, zeroP, zeroN⟩ = (a2, 0) := by
    unfold openB
    dsimp only
    rw [if_neg (by decide), if_neg (by decide), if_neg (by decide)]
    exact awkd
  rw [this]; rfl
theorem awk3 : b2.asks = [⟨1, 0, 0, 1, 100, 0⟩] := by decide +kernel
theorem hok0 : BOk 8000000 (newB 0) := ⟨(newB_ok 0).1.pls, fun a ha => ⟨((newB_ok 0).1.subs a ha).1, Nat.le_trans ((newB_ok 0).1.subs a ha).2 (by decide)⟩, (newB_ok 0).1.len⟩
theorem hok1 : BOk 8000000 b1 := ⟨by decide, fun a ha => by rw [List.eq_of_mem_replicate ha]; exact ⟨by decide, by simp [zeroA]⟩, by decide⟩
theorem hun1 : UnOk b1.pls := by intro p hp; simp [b1] at hp; subst hp; decide
theorem hok2 : BOk 12000000 b2 := by
  have := stepB_ok hok1 (show (stepB b1 ⟨2, 0, 0, 0, zeroP, zeroN⟩).2 = 0 by rw [awk2])
  rw [awk2] at this
  exact ⟨this.pls, fun a ha => ⟨(this.subs a ha).1, Nat.le_trans (this.subs a ha).2 (by decide)⟩, this.len⟩
end Go.Den
namespace Go.Den
open Go Go.Proofs
set_option maxRecDepth 100000
set_option maxHeartbeats 1000000
set_option linter.all false
attribute [local simp] evOps evOp absOp absBox absLoad absStore absField absIndexAddr absCells absBinOp absBin absInt absShift absUn absPick absNil absExtract absPlaces Instr.fill absBuiltin absMinMax plainV plainT allA flat cells_agg cells_int cells_bool cells_str cells_ptr cells_sl cells_map one_int one_bool one_str one_ptr one_sl one_map Act.eval Act.put Region.wanted yielded absCall TypeDesc.isRow
attribute [local simp high] bk_t bk_p bk_take bk_row BkL_len sp_bk sp_t sp_p
attribute [local simp] sp_nil sp_0 sp_s List.length_set
theorem awake_s {H : Mem} (hL : Lad H) : FSem Tryd.prog [0] 11 #[] H fun v H' => v = .bool true ∧ H' = H := by
  refine FSem.plainT ?_
  refine FSem.ofK Tryd.func11 rfl ?_
  refine DK.from (b' := ⟨#[undef, undef, undef, undef, undef, undef, undef, undef, undef, undef, undef, undef, undef, undef, undef, undef, undef, undef, undef, undef, undef, undef, undef, undef, undef, undef, undef, undef, undef, undef, undef, undef, undef, undef, undef, undef, undef, undef, undef, undef, undef, undef, undef, undef, undef, undef, undef, undef, undef, undef, undef, undef, undef, undef, undef, undef], []⟩) (by kernel_rfl) ?_
  have hq0 := True.intro
  have hq1 := True.intro
  have hq4 := True.intro
  have hq5 := True.intro
  have hq6 := True.intro
  have c1 := True.intro
  have c2 := True.intro
  have c3 := True.intro
  have hone1 := True.intro
  have hone2 := True.intro
  have hs10 := True.intro
  have hs11 := True.intro
  have hl1 := True.intro
  have hs20 := True.intro
  have hs21 := True.intro
  have hl2 := True.intro
  have hal := True.intro
  have hb0 := True.intro
  have hbg := True.intro
  have hble := True.intro
  have hr0 := True.intro
  have hr1 := True.intro
  have htk := True.intro
  have hsl := True.intro
  have hbq := True.intro
  have hln := True.intro
  have hBk := True.intro
  have hL2 := hL
  have hkH := Keep.refl H
  refine DK.seq ?_
  refine DK.region (is := [0]) (by kernel_rfl) rfl ?_
  refine WK.run (rest := []) [0] (by simp [hq0, hq1, hq4, hq5, hq6, c1, c2, c3, hone1, hone2, hs10, hs11, hl1, hs20, hs21, hl2, hal, hb0, hbg, hble, hr0, hr1, htk, hsl, hbq, hln, p0, zeroN, zeroP]; constructor <;> rfl) ?_
  refine WK.nil ?_
  refine DK.seq ?_
  refine DK.region (is := [0, 1, 2]) (by kernel_rfl) rfl ?_
  refine WK.call rfl (by simp [hq0, hq1, hq4, hq5, hq6, c1, c2, c3, hone1, hone2, hs10, hs11, hl1, hs20, hs21, hl2, hal, hb0, hbg, hble, hr0, hr1, htk, hsl, hbq, hln, p0, zeroN, zeroP]) (by simp [Tryd.func12, Tryd.f12, hq0, hq1, hq4, hq5, hq6, c1, c2, c3, hone1, hone2, hs10, hs11, hl1, hs20, hs21, hl2, hal, hb0, hbg, hble, hr0, hr1, htk, hsl, hbq, hln, p0, zeroN, zeroP]; constructor <;> rfl) ?_
  refine FSem.mono (newb_g 0 _) ?_
  rintro _ Hq ⟨rfl, hq⟩
  subst hq
  refine WK.run (rest := []) [1, 2] (by simp [hq0, hq1, hq4, hq5, hq6, c1, c2, c3, hone1, hone2, hs10, hs11, hl1, hs20, hs21, hl2, hal, hb0, hbg, hble, hr0, hr1, htk, hsl, hbq, hln, p0, zeroN, zeroP]; constructor <;> rfl) ?_
  refine WK.nil ?_
  refine DK.abs (fun M0 => Keep H M0 ∧ M0[H.length]? = some (.cells false (BkL 0 (.slice none 0 0) zL))) ⟨Keep.app _ _, mem_app _ _⟩ ?_
  rintro M0 ⟨hkk, h_c1⟩
  replace c1 := h_c1
  replace hL2 := hL2.keep hkk
  replace hkH := hkH.keep hkk
  replace hBk := BkAt.new M0 0
  refine DK.seq ?_
  refine DK.region (is := [0, 1, 2, 3, 4, 5, 6, 7, 8, 9]) (by kernel_rfl) rfl ?_
  refine WK.run (rest := [3, 4, 5, 6, 7, 8, 9]) [0, 1, 2] (by simp [hq0, hq1, hq4, hq5, hq6, c1, c2, c3, hone1, hone2, hs10, hs11, hl1, hs20, hs21, hl2, hal, hb0, hbg, hble, hr0, hr1, htk, hsl, hbq, hln, p0, zeroN, zeroP]; constructor <;> rfl) ?_
  refine WK.call rfl (by simp [hq0, hq1, hq4, hq5, hq6, c1, c2, c3, hone1, hone2, hs10, hs11, hl1, hs20, hs21, hl2, hal, hb0, hbg, hble, hr0, hr1, htk, hsl, hbq, hln, p0, zeroN, zeroP]) (by simp [Tryd.func16, Tryd.f16, hq0, hq1, hq4, hq5, hq6, c1, c2, c3, hone1, hone2, hs10, hs11, hl1, hs20, hs21, hl2, hal, hb0, hbg, hble, hr0, hr1, htk, hsl, hbq, hln, p0, zeroN, zeroP]; constructor <;> rfl) ?_
  refine FSem.mono (step_g 8000000 (newB 0) ⟨1, 0, 0, 0, p0, zeroN⟩ hBk hL2 hok0 (by decide) (newB_ok 0).2) ?_
  rintro _ M1 ⟨b', e', sp1, l1, rfl, hres, hBk, hl, hs0, hs1, hkk, hsb⟩
  rw [awk1] at hres
  obtain ⟨rfl, rfl⟩ := Prod.mk.inj hres
  replace hl1 := hl
  replace hs10 := hs0
  replace hs11 := hs1
  replace hone1 := bk_ones hs1
  replace c1 := hkk.cell c1
  replace hL2 := hL2.keep hkk
  replace hkH := hkH.keep hkk
  refine WK.run (rest := []) [4, 5, 6, 7, 8, 9] (by simp [hq0, hq1, hq4, hq5, hq6, c1, c2, c3, hone1, hone2, hs10, hs11, hl1, hs20, hs21, hl2, hal, hb0, hbg, hble, hr0, hr1, htk, hsl, hbq, hln, p0, zeroN, zeroP]; constructor <;> rfl) ?_
  refine WK.nil ?_
  refine DK.abs (fun M2 => Keep M1 M2 ∧ M2[M1.length]? = some (.cells false (BkL b1.today sp1 l1))) ⟨Keep.app _ _, mem_app _ _⟩ ?_
  rintro M2 ⟨hkk, h_c2⟩
  replace c2 := h_c2
  replace c1 := hkk.cell c1
  replace hL2 := hL2.keep hkk
  replace hBk := hBk.keep hkk
  replace hkH := hkH.keep hkk
  refine DK.seq ?_
  refine DK.region (is := [0, 1, 2, 3, 4, 5, 6, 7, 8]) (by kernel_rfl) rfl ?_
  refine WK.run (rest := [2, 3, 4, 5, 6, 7, 8]) [0, 1] (by simp [hq0, hq1, hq4, hq5, hq6, c1, c2, c3, hone1, hone2, hs10, hs11, hl1, hs20, hs21, hl2, hal, hb0, hbg, hble, hr0, hr1, htk, hsl, hbq, hln, p0, zeroN, zeroP]; constructor <;> rfl) ?_
  refine WK.call rfl (by simp [hq0, hq1, hq4, hq5, hq6, c1, c2, c3, hone1, hone2, hs10, hs11, hl1, hs20, hs21, hl2, hal, hb0, hbg, hble, hr0, hr1, htk, hsl, hbq, hln, p0, zeroN, zeroP]) (by simp [Tryd.func16, Tryd.f16, hq0, hq1, hq4, hq5, hq6, c1, c2, c3, hone1, hone2, hs10, hs11, hl1, hs20, hs21, hl2, hal, hb0, hbg, hble, hr0, hr1, htk, hsl, hbq, hln, p0, zeroN, zeroP]; constructor <;> rfl) ?_
  refine FSem.mono (step_g 8000000 b1 ⟨2, 0, 0, 0, zeroP, zeroN⟩ hBk hL2 hok1 (by decide) hun1) ?_
  rintro _ M3 ⟨b', e', sp2, l2, rfl, hres, hBk, hl, hs0, hs1, hkk, hsb⟩
  rw [awk2] at hres
  obtain ⟨rfl, rfl⟩ := Prod.mk.inj hres
  replace hl2 := hl
  replace hs20 := hs0
  replace hs21 := hs1
  replace hone2 := bk_ones hs1
  replace c1 := hkk.cell c1
  replace c2 := hkk.cell c2
  replace hL2 := hL2.keep hkk
  replace hkH := hkH.keep hkk
  refine WK.run (rest := []) [3, 4, 5, 6, 7, 8] (by simp [hq0, hq1, hq4, hq5, hq6, c1, c2, c3, hone1, hone2, hs10, hs11, hl1, hs20, hs21, hl2, hal, hb0, hbg, hble, hr0, hr1, htk, hsl, hbq, hln, p0, zeroN, zeroP]; constructor <;> rfl) ?_
  refine WK.nil ?_
  refine DK.abs (fun M4 => Keep M3 M4 ∧ M4[M3.length]? = some (.cells false (BkL b2.today sp2 l2))) ⟨Keep.app _ _, mem_app _ _⟩ ?_
  rintro M4 ⟨hkk, h_c3⟩
  replace c3 := h_c3
  replace c1 := hkk.cell c1
  replace c2 := hkk.cell c2
  replace hL2 := hL2.keep hkk
  replace hBk := hBk.keep hkk
  replace hkH := hkH.keep hkk
  refine DK.seq ?_
  refine DK.region (is := [0, 1, 2]) (by kernel_rfl) rfl ?_
  refine WK.run (rest := [1, 2]) [0] (by simp [hq0, hq1, hq4, hq5, hq6, c1, c2, c3, hone1, hone2, hs10, hs11, hl1, hs20, hs21, hl2, hal, hb0, hbg, hble, hr0, hr1, htk, hsl, hbq, hln, p0, zeroN, zeroP]; constructor <;> rfl) ?_
  refine WK.call rfl (by simp [hq0, hq1, hq4, hq5, hq6, c1, c2, c3, hone1, hone2, hs10, hs11, hl1, hs20, hs21, hl2, hal, hb0, hbg, hble, hr0, hr1, htk, hsl, hbq, hln, p0, zeroN, zeroP]) (by simp [Tryd.func14, Tryd.f14, hq0, hq1, hq4, hq5, hq6, c1, c2, c3, hone1, hone2, hs10, hs11, hl1, hs20, hs21, hl2, hal, hb0, hbg, hble, hr0, hr1, htk, hsl, hbq, hln, p0, zeroN, zeroP]; constructor <;> rfl) ?_
  refine FSem.mono (basks_s 12000000 b2 hBk hok2 (by decide)) ?_
  rintro _s5 M5 ⟨hA, hR, hW, hN⟩
  have hkk := Keep.of hA
  replace c1 := hkk.cell c1
  replace c2 := hkk.cell c2
  replace c3 := hkk.cell c3
  replace hL2 := hL2.keep hkk
  replace hBk := hBk.keep hkk
  replace hkH := hkH.keep hkk
  rw [awk3] at hR
  replace hr0 := hR.cells.1
  replace hr1 := hR.cells.2
  replace hln := lenNt hR
  obtain ⟨b, of, ro, vs, rfl, hb, hle, hge⟩ := hR.blk (i := 0) (by decide)
  replace hb0 := hb
  replace hble : of + 6 ≤ vs.length := hle
  replace hq0 : List.take 1 (List.drop of vs) = [.int .u8 1] := take_sub (f := 0) (k := 1) hge (by decide)
  replace hq4 : List.take 1 (List.drop (of + 4) vs) = [.int .i64 100] := take_sub (f := 4) (k := 1) hge (by decide)
  replace hq1 : of + 1 ≤ vs.length := by omega
  replace hq5 : of + 5 ≤ vs.length := by omega
  replace hq6 : of + 4 + 1 ≤ vs.length := by omega
  obtain ⟨x, hxa, hxl, hxo, htk1, hst, hpt⟩ := hBk.sub (i := 0) (by decide) (by decide)
  replace hal : List.take 1 (List.drop 9 (BkL b2.today sp2 l2)) = [x.s] := take_sub (f := 7) (k := 1) (htk1 b2.today) (by decide)
  replace hsl : ∀ K, absLen Tryd.prog K 28 x.s = some (.int .i64 1) := fun K => by rw [hxo.lenK K, hxa]; rfl
  refine WK.run (rest := []) [2] (by simp [hq0, hq1, hq4, hq5, hq6, c1, c2, c3, hone1, hone2, hs10, hs11, hl1, hs20, hs21, hl2, hal, hb0, hbg, hble, hr0, hr1, htk, hsl, hbq, hln, p0, zeroN, zeroP]; constructor <;> rfl) ?_
  refine WK.nil ?_
  refine DK.seq ?_
  refine DK.region (is := [0, 1, 2, 3, 4, 5, 6, 7, 8, 9, 10, 11, 12, 13, 14, 15, 16, 17, 18, 19, 20, 21, 22, 23, 24, 25, 26, 27, 28, 29, 30, 31, 32, 33]) (by kernel_rfl) rfl ?_
  refine WK.run (rest := [3, 4, 5, 6, 7, 8, 9, 10, 11, 12, 13, 14, 15, 16, 17, 18, 19, 20, 21, 22, 23, 24, 25, 26, 27, 28, 29, 30, 31, 32, 33]) [0, 1, 2] (by simp [hq0, hq1, hq4, hq5, hq6, c1, c2, c3, hone1, hone2, hs10, hs11, hl1, hs20, hs21, hl2, hal, hb0, hbg, hble, hr0, hr1, htk, hsl, hbq, hln, p0, zeroN, zeroP]; constructor <;> rfl) ?_
  refine WK.split (t := 25) rfl (fun h => ?_) (fun h => ?_)
  · try simp only [h]
    replace h := Tr.out h
    refine WK.run (rest := [7, 8, 9, 10, 11, 12, 13, 14, 15, 16, 17, 18, 19, 20, 21, 22, 23, 24, 25, 26, 27, 28, 29, 30, 31, 32, 33]) [3, 4, 5, 6] (by simp [hq0, hq1, hq4, hq5, hq6, c1, c2, c3, hone1, hone2, hs10, hs11, hl1, hs20, hs21, hl2, hal, hb0, hbg, hble, hr0, hr1, htk, hsl, hbq, hln, p0, zeroN, zeroP]; constructor <;> rfl) ?_
    refine WK.split (t := 29) rfl (fun h => ?_) (fun h => ?_)
    · try simp only [h]
      replace h := Tr.out h
      refine WK.run (rest := [15, 16, 17, 18, 19, 20, 21, 22, 23, 24, 25, 26, 27, 28, 29, 30, 31, 32, 33]) [7, 8, 9, 10, 11, 12, 13, 14] (by simp [hq0, hq1, hq4, hq5, hq6, c1, c2, c3, hone1, hone2, hs10, hs11, hl1, hs20, hs21, hl2, hal, hb0, hbg, hble, hr0, hr1, htk, hsl, hbq, hln, p0, zeroN, zeroP]; constructor <;> rfl) ?_
      refine WK.split (t := 37) rfl (fun h => ?_) (fun h => ?_)
      · try simp only [h]
        replace h := Tr.out h
        refine WK.run (rest := [20, 21, 22, 23, 24, 25, 26, 27, 28, 29, 30, 31, 32, 33]) [15, 16, 17, 18, 19] (by simp [hq0, hq1, hq4, hq5, hq6, c1, c2, c3, hone1, hone2, hs10, hs11, hl1, hs20, hs21, hl2, hal, hb0, hbg, hble, hr0, hr1, htk, hsl, hbq, hln, p0, zeroN, zeroP]; constructor <;> rfl) ?_
        refine WK.split (t := 42) rfl (fun h => ?_) (fun h => ?_)
        · try simp only [h]
          replace h := Tr.out h
          refine WK.run (rest := [27, 28, 29, 30, 31, 32, 33]) [20, 21, 22, 23, 24, 25, 26] (by simp [hq0, hq1, hq4, hq5, hq6, c1, c2, c3, hone1, hone2, hs10, hs11, hl1, hs20, hs21, hl2, hal, hb0, hbg, hble, hr0, hr1, htk, hsl, hbq, hln, p0, zeroN, zeroP]; constructor <;> rfl) ?_
          refine WK.split (t := 49) rfl (fun h => ?_) (fun h => ?_)
          · try simp only [h]
            replace h := Tr.out h
            refine WK.run (rest := []) [27, 28, 29, 30, 31, 32, 33] (by simp [hq0, hq1, hq4, hq5, hq6, c1, c2, c3, hone1, hone2, hs10, hs11, hl1, hs20, hs21, hl2, hal, hb0, hbg, hble, hr0, hr1, htk, hsl, hbq, hln, p0, zeroN, zeroP]; constructor <;> rfl) ?_
            refine WK.nil ?_
            refine DK.ret ?_
            refine And.intro (Or.inr rfl) ?_
            refine ⟨_, by simp [absAnswer, absResults, absResult, Tryd.f11]; rfl, ?_⟩
            exact ⟨hkH.ext, by simp, by simp⟩
          try simp only [h]
          replace h := Fa.out h
          cases h
        try simp only [h]
        replace h := Fa.out h
        cases h
      try simp only [h]
      replace h := Fa.out h
      cases h
    try simp only [h]
    replace h := Fa.out h
    cases h
  try simp only [h]
  replace h := Fa.out h
  cases h
end Go.Den
namespace Go.Den
open Go Go.Proofs
set_option maxRecDepth 100000
set_option maxHeartbeats 1000000
set_option linter.all false
noncomputable def zrb : List Value := ((I42.zero.getD undef).cells).toList
theorem al_rb (H : Mem) : absAlloc Tryd.prog H 42 = some (.pointer (some ⟨H.length, 0, none⟩), H ++ [.cells false zrb]) := by kernel_rfl
theorem bu_rb : absBuild Tryd.prog 42 [] = some (.agg zrb.toArray) := by kernel_rfl
theorem zrb_len : zrb.length = 226 := by kernel_rfl
theorem zrb_one : (∀ x, x ∈ zrb → x.oneCell' = true) = True := by
  have h : zrb.all (fun x => x.oneCell') = true := by kernel_rfl
  exact eq_true (fun x hx => List.all_eq_true.1 h x hx)
theorem zrb_sp : splice zrb 0 zrb = zrb := sp_all rfl
theorem zrb_0 : List.take 1 zrb = [.int .i64 0] := by kernel_rfl
theorem lenAt {H : Mem} {s : Value} {l : List At4} (h : RowAt H s l) (K : Mem) : absLen Tryd.prog K 23 s = some (.int .i64 l.length) := h.len Tryd.underlying23 K
attribute [simp] al_rb bu_rb zrb_len zrb_one zrb_sp zrb_0
end Go.Den
namespace Go.Den
open Go Go.Proofs
set_option maxRecDepth 100000
set_option maxHeartbeats 8000000
set_option linter.all false
attribute [local simp] evOps evOp absOp absBox absLoad absStore absField absIndexAddr absCells absBinOp absBin absInt absShift absUn absPick absNil absExtract absPlaces Instr.fill absBuiltin absMinMax plainV plainT allA flat cells_agg cells_int cells_bool cells_str cells_ptr cells_sl cells_map one_int one_bool one_str one_ptr one_sl one_map Act.eval Act.put Region.wanted yielded absCall TypeDesc.isRow
attribute [local simp high] bk_t bk_p bk_take bk_row BkL_len sp_bk sp_t sp_p
attribute [local simp] sp_nil sp_0 sp_s List.length_set
theorem others_s (t : Int) (ht0 : 0 ≤ t) (ht1 : t < 65536) (acts : List At4) (hao : ∀ a ∈ acts, a.ok) (x : At4) (hx : x.ok) {sa : Value} {H : Mem} (hL : Lad H) (hA : RowAt H sa acts) : FSem Tryd.prog [0] 6 #[.int .u16 t, sa, x.v] H fun v H' => v = .bool true ∧ H' = H := by
  refine FSem.plainT ?_
  refine FSem.ofK Tryd.func6 rfl ?_
  refine DK.from (b' := ⟨#[.int .u16 t, sa, x.v, undef, undef, undef, undef, undef, undef, undef, undef, undef, undef, undef, undef, undef, undef, undef, undef, undef, undef, undef, undef, undef, undef, undef, undef, undef, undef, undef, undef, undef, undef, undef, undef, undef, undef, undef, undef, undef, undef, undef, undef, undef, undef, undef, undef, undef, undef, undef, undef, undef, undef, undef, undef, undef, undef, undef, undef, undef, undef, undef, undef, undef, undef, undef, undef, undef, undef, undef, undef, undef, undef, undef, undef, undef, undef, undef, undef, undef, undef, undef, undef, undef, undef, undef, undef, undef, undef, undef, undef, undef, undef, undef, undef, undef, undef, undef, undef, undef, undef, undef, undef, undef, undef, undef, undef, undef, undef, undef, undef, undef, undef, undef, undef, undef, undef, undef, undef, undef, undef, undef, undef, undef, undef, undef, undef, undef, undef, undef, undef, undef, undef, undef, undef, undef, undef, undef, undef, undef, undef, undef, undef, undef, undef, undef, undef, undef, undef, undef, undef, undef, undef, undef, undef, undef, undef, undef, undef, undef, undef, undef, undef, undef, undef, undef, undef, undef, undef, undef, undef, undef], []⟩) (by kernel_rfl) ?_
  have cb := True.intro
  have cbr := True.intro
  have c9 := True.intro
  have hone := True.intro
  have hs0 := True.intro
  have hs1 := True.intro
  have hl32 := True.intro
  have hone2 := True.intro
  have hs20 := True.intro
  have hs21 := True.intro
  have hl2 := True.intro
  have hw1 := True.intro
  have hw2 := True.intro
  have hwr := True.intro
  have hi9 := True.intro
  have hlt := True.intro
  have hlnA := True.intro
  have hbA := True.intro
  have hbAr := True.intro
  have hleA := True.intro
  have hgeA := True.intro
  have hset := True.intro
  have cxr := True.intro
  have cx := True.intro
  have hsm := True.intro
  have u1 := True.intro
  have u2 := True.intro
  have u3 := True.intro
  have cq := True.intro
  have cqr := True.intro
  have cc := True.intro
  have ccr := True.intro
  have cd := True.intro
  have cdr := True.intro
  have z0 := True.intro
  have z1 := True.intro
  have z2 := True.intro
  have z3 := True.intro
  have z4 := True.intro
  have z5 := True.intro
  have z6 := True.intro
  have z7 := True.intro
  have z8 := True.intro
  have z9 := True.intro
  have z10 := True.intro
  have z11 := True.intro
  have z12 := True.intro
  have z13 := True.intro
  have z14 := True.intro
  have z15 := True.intro
  have z16 := True.intro
  have z17 := True.intro
  have z18 := True.intro
  have z19 := True.intro
  have z20 := True.intro
  have z21 := True.intro
  have z22 := True.intro
  have z23 := True.intro
  have z24 := True.intro
  have z25 := True.intro
  have z26 := True.intro
  have z27 := True.intro
  have z28 := True.intro
  have z29 := True.intro
  have z30 := True.intro
  have z31 := True.intro
  have z32 := True.intro
  have z33 := True.intro
  have z34 := True.intro
  have z35 := True.intro
  have z36 := True.intro
  have z37 := True.intro
  have z38 := True.intro
  have z39 := True.intro
  have hL2 := hL
  have hlnA := lenAt hA
  have hw1 : IntKind.i64.wrap t = t := wrap_in _ (by omega) (by omega)
  have hw2 : IntKind.i64.wrap (700000 + t) = 700000 + t := wrap_in _ (by omega) (by omega)
  have hBk := True.intro
  have hBk3 := True.intro
  have hL3 := True.intro
  have hk3 := True.intro
  refine DK.seq ?_
  refine DK.region (is := [0, 1]) (by kernel_rfl) rfl ?_
  refine WK.run (rest := []) [0, 1] (by simp [cb, cbr, c9, hone, hs0, hs1, hl32, hone2, hs20, hs21, hl2, hw1, hw2, hwr, hi9, hlt, hlnA, hbA, hbAr, hleA, hgeA, hset, cxr, cx, hsm, u1, u2, u3, cq, cqr, cc, ccr, cd, cdr, z0, z1, z2, z3, z4, z5, z6, z7, z8, z9, z10, z11, z12, z13, z14, z15, z16, z17, z18, z19, z20, z21, z22, z23, z24, z25, z26, z27, z28, z29, z30, z31, z32, z33, z34, z35, z36, z37, z38, z39]; constructor <;> rfl) ?_
  refine WK.nil ?_
  refine DK.abs (fun M0 => Keep H M0 ∧ M0[H.length]? = some (.cells false (x.l))) ⟨Keep.app _ _, mem_app _ _⟩ ?_
  rintro M0 ⟨hkk, h_cx⟩
  replace cx := h_cx
  replace hL2 := hL2.keep hkk
  have hk0 := hkk
  have cx0 := cx
  have hkM := Keep.refl M0
  refine DK.seq ?_
  refine DK.seq ?_
  refine DK.region (is := [0, 1, 2, 3, 4, 5, 6]) (by kernel_rfl) rfl ?_
  refine WK.call rfl (by simp [cb, cbr, c9, hone, hs0, hs1, hl32, hone2, hs20, hs21, hl2, hw1, hw2, hwr, hi9, hlt, hlnA, hbA, hbAr, hleA, hgeA, hset, cxr, cx, hsm, u1, u2, u3, cq, cqr, cc, ccr, cd, cdr, z0, z1, z2, z3, z4, z5, z6, z7, z8, z9, z10, z11, z12, z13, z14, z15, z16, z17, z18, z19, z20, z21, z22, z23, z24, z25, z26, z27, z28, z29, z30, z31, z32, z33, z34, z35, z36, z37, z38, z39]) (by simp [Tryd.func11, Tryd.f11, cb, cbr, c9, hone, hs0, hs1, hl32, hone2, hs20, hs21, hl2, hw1, hw2, hwr, hi9, hlt, hlnA, hbA, hbAr, hleA, hgeA, hset, cxr, cx, hsm, u1, u2, u3, cq, cqr, cc, ccr, cd, cdr, z0, z1, z2, z3, z4, z5, z6, z7, z8, z9, z10, z11, z12, z13, z14, z15, z16, z17, z18, z19, z20, z21, z22, z23, z24, z25, z26, z27, z28, z29, z30, z31, z32, z33, z34, z35, z36, z37, z38, z39]; constructor <;> rfl) ?_
  refine FSem.mono (awake_s hL2) ?_
  rintro _ Hq ⟨rfl, hq⟩
  replace hq := hq.symm
  subst hq
  refine WK.run (rest := [3, 4, 5, 6]) [1, 2] (by simp [cb, cbr, c9, hone, hs0, hs1, hl32, hone2, hs20, hs21, hl2, hw1, hw2, hwr, hi9, hlt, hlnA, hbA, hbAr, hleA, hgeA, hset, cxr, cx, hsm, u1, u2, u3, cq, cqr, cc, ccr, cd, cdr, z0, z1, z2, z3, z4, z5, z6, z7, z8, z9, z10, z11, z12, z13, z14, z15, z16, z17, z18, z19, z20, z21, z22, z23, z24, z25, z26, z27, z28, z29, z30, z31, z32, z33, z34, z35, z36, z37, z38, z39]; constructor <;> rfl) ?_
  refine WK.run (rest := [5, 6]) [3, 4] (by simp [cb, cbr, c9, hone, hs0, hs1, hl32, hone2, hs20, hs21, hl2, hw1, hw2, hwr, hi9, hlt, hlnA, hbA, hbAr, hleA, hgeA, hset, cxr, cx, hsm, u1, u2, u3, cq, cqr, cc, ccr, cd, cdr, z0, z1, z2, z3, z4, z5, z6, z7, z8, z9, z10, z11, z12, z13, z14, z15, z16, z17, z18, z19, z20, z21, z22, z23, z24, z25, z26, z27, z28, z29, z30, z31, z32, z33, z34, z35, z36, z37, z38, z39]; constructor <;> rfl) ?_
  refine WK.run (rest := []) [5, 6] (by simp [cb, cbr, c9, hone, hs0, hs1, hl32, hone2, hs20, hs21, hl2, hw1, hw2, hwr, hi9, hlt, hlnA, hbA, hbAr, hleA, hgeA, hset, cxr, cx, hsm, u1, u2, u3, cq, cqr, cc, ccr, cd, cdr, z0, z1, z2, z3, z4, z5, z6, z7, z8, z9, z10, z11, z12, z13, z14, z15, z16, z17, z18, z19, z20, z21, z22, z23, z24, z25, z26, z27, z28, z29, z30, z31, z32, z33, z34, z35, z36, z37, z38, z39]; constructor <;> rfl) ?_
  refine WK.nil ?_
  refine DK.test rfl rfl (fun h => ?_) (fun h => ?_)
  · try simp only [h]
    replace h := Tr.out h
    refine DK.seq ?_
    refine DK.region (is := [0, 1]) (by kernel_rfl) rfl ?_
    refine WK.call rfl (by simp [cb, cbr, c9, hone, hs0, hs1, hl32, hone2, hs20, hs21, hl2, hw1, hw2, hwr, hi9, hlt, hlnA, hbA, hbAr, hleA, hgeA, hset, cxr, cx, hsm, u1, u2, u3, cq, cqr, cc, ccr, cd, cdr, z0, z1, z2, z3, z4, z5, z6, z7, z8, z9, z10, z11, z12, z13, z14, z15, z16, z17, z18, z19, z20, z21, z22, z23, z24, z25, z26, z27, z28, z29, z30, z31, z32, z33, z34, z35, z36, z37, z38, z39]) (by simp [Tryd.func11, Tryd.f11, cb, cbr, c9, hone, hs0, hs1, hl32, hone2, hs20, hs21, hl2, hw1, hw2, hwr, hi9, hlt, hlnA, hbA, hbAr, hleA, hgeA, hset, cxr, cx, hsm, u1, u2, u3, cq, cqr, cc, ccr, cd, cdr, z0, z1, z2, z3, z4, z5, z6, z7, z8, z9, z10, z11, z12, z13, z14, z15, z16, z17, z18, z19, z20, z21, z22, z23, z24, z25, z26, z27, z28, z29, z30, z31, z32, z33, z34, z35, z36, z37, z38, z39]; constructor <;> rfl) ?_
    refine FSem.mono (awake_s hL2) ?_
    rintro _ Hq ⟨rfl, hq⟩
    replace hq := hq.symm
    subst hq
    refine WK.run (rest := []) [1] (by simp [cb, cbr, c9, hone, hs0, hs1, hl32, hone2, hs20, hs21, hl2, hw1, hw2, hwr, hi9, hlt, hlnA, hbA, hbAr, hleA, hgeA, hset, cxr, cx, hsm, u1, u2, u3, cq, cqr, cc, ccr, cd, cdr, z0, z1, z2, z3, z4, z5, z6, z7, z8, z9, z10, z11, z12, z13, z14, z15, z16, z17, z18, z19, z20, z21, z22, z23, z24, z25, z26, z27, z28, z29, z30, z31, z32, z33, z34, z35, z36, z37, z38, z39]; constructor <;> rfl) ?_
    refine WK.nil ?_
    refine DK.ret ?_
    refine And.intro (Or.inr rfl) ?_
    refine ⟨_, by simp [absAnswer, absResults, absResult, Tryd.f6]; rfl, ?_⟩
    exact ⟨(hk0.trans hkM).ext, by simp, by simp [u1]⟩
  try simp only [h]
  replace h := Fa.out h
  refine DK.skip ?_
  refine DK.seq ?_
  refine DK.region (is := [0, 1, 2, 3, 4, 5]) (by kernel_rfl) rfl ?_
  refine WK.run (rest := [2, 3, 4, 5]) [0, 1] (by simp [cb, cbr, c9, hone, hs0, hs1, hl32, hone2, hs20, hs21, hl2, hw1, hw2, hwr, hi9, hlt, hlnA, hbA, hbAr, hleA, hgeA, hset, cxr, cx, hsm, u1, u2, u3, cq, cqr, cc, ccr, cd, cdr, z0, z1, z2, z3, z4, z5, z6, z7, z8, z9, z10, z11, z12, z13, z14, z15, z16, z17, z18, z19, z20, z21, z22, z23, z24, z25, z26, z27, z28, z29, z30, z31, z32, z33, z34, z35, z36, z37, z38, z39]; constructor <;> rfl) ?_
  refine WK.run (rest := [3, 4, 5]) [2] (by simp [cb, cbr, c9, hone, hs0, hs1, hl32, hone2, hs20, hs21, hl2, hw1, hw2, hwr, hi9, hlt, hlnA, hbA, hbAr, hleA, hgeA, hset, cxr, cx, hsm, u1, u2, u3, cq, cqr, cc, ccr, cd, cdr, z0, z1, z2, z3, z4, z5, z6, z7, z8, z9, z10, z11, z12, z13, z14, z15, z16, z17, z18, z19, z20, z21, z22, z23, z24, z25, z26, z27, z28, z29, z30, z31, z32, z33, z34, z35, z36, z37, z38, z39]; constructor <;> rfl) ?_
  refine WK.call rfl (by simp [cb, cbr, c9, hone, hs0, hs1, hl32, hone2, hs20, hs21, hl2, hw1, hw2, hwr, hi9, hlt, hlnA, hbA, hbAr, hleA, hgeA, hset, cxr, cx, hsm, u1, u2, u3, cq, cqr, cc, ccr, cd, cdr, z0, z1, z2, z3, z4, z5, z6, z7, z8, z9, z10, z11, z12, z13, z14, z15, z16, z17, z18, z19, z20, z21, z22, z23, z24, z25, z26, z27, z28, z29, z30, z31, z32, z33, z34, z35, z36, z37, z38, z39]) (by simp [Tryd.func12, Tryd.f12, cb, cbr, c9, hone, hs0, hs1, hl32, hone2, hs20, hs21, hl2, hw1, hw2, hwr, hi9, hlt, hlnA, hbA, hbAr, hleA, hgeA, hset, cxr, cx, hsm, u1, u2, u3, cq, cqr, cc, ccr, cd, cdr, z0, z1, z2, z3, z4, z5, z6, z7, z8, z9, z10, z11, z12, z13, z14, z15, z16, z17, z18, z19, z20, z21, z22, z23, z24, z25, z26, z27, z28, z29, z30, z31, z32, z33, z34, z35, z36, z37, z38, z39]; constructor <;> rfl) ?_
  refine FSem.mono (newb_g (700000 + t) _) ?_
  rintro _ Hq ⟨rfl, hq⟩
  subst hq
  refine WK.run (rest := []) [4, 5] (by simp [cb, cbr, c9, hone, hs0, hs1, hl32, hone2, hs20, hs21, hl2, hw1, hw2, hwr, hi9, hlt, hlnA, hbA, hbAr, hleA, hgeA, hset, cxr, cx, hsm, u1, u2, u3, cq, cqr, cc, ccr, cd, cdr, z0, z1, z2, z3, z4, z5, z6, z7, z8, z9, z10, z11, z12, z13, z14, z15, z16, z17, z18, z19, z20, z21, z22, z23, z24, z25, z26, z27, z28, z29, z30, z31, z32, z33, z34, z35, z36, z37, z38, z39]; constructor <;> rfl) ?_
  refine WK.nil ?_
  refine DK.abs (fun M1 => Keep M0 M1 ∧ M1[M0.length]? = some (.cells false (BkL (700000 + t) (.slice none 0 0) zL))) ⟨Keep.app _ _, mem_app _ _⟩ ?_
  rintro M1 ⟨hkk, h_cb⟩
  replace cb := h_cb
  replace hL2 := hL2.keep hkk
  have hkM := hkk
  replace hBk := BkAt.new M1 (700000 + t)
  refine DK.seq ?_
  refine DK.seq ?_
  refine DK.region (is := [0]) (by kernel_rfl) rfl ?_
  refine WK.run (rest := []) [0] (by simp [cb, cbr, c9, hone, hs0, hs1, hl32, hone2, hs20, hs21, hl2, hw1, hw2, hwr, hi9, hlt, hlnA, hbA, hbAr, hleA, hgeA, hset, cxr, cx, hsm, u1, u2, u3, cq, cqr, cc, ccr, cd, cdr, z0, z1, z2, z3, z4, z5, z6, z7, z8, z9, z10, z11, z12, z13, z14, z15, z16, z17, z18, z19, z20, z21, z22, z23, z24, z25, z26, z27, z28, z29, z30, z31, z32, z33, z34, z35, z36, z37, z38, z39]; constructor <;> rfl) ?_
  refine WK.nil ?_
  refine DK.block ?_
  refine DK.loopF [8, 9, 10, 28, 29, 30, 31, 32, 33, 34, 35, 36, 37, 38, 39, 40, 41, 42, 43, 44, 45, 46, 47, 48] [8] (fun fl vs H' => ∃ (i : Int) (b : Bk) (sp : Value) (l : List As), vs = [.int .i64 i] ∧ (Keep M0 H' ∧ H'[M0.length]? = some (.cells false (BkL b.today sp l)) ∧ BkAt H' sp l b ∧ Lad H') ∧ 0 ≤ i ∧ i ≤ acts.length ∧ (∀ c, blkOf sp = some c → M0.length < c) ∧ BOk (i.toNat * 3652060) b ∧ UnOk b.pls ∧ fl = (acts.length - i).toNat) (acts.length) (by kernel_rfl) ?_ ?_
  · refine ⟨_, newB (700000 + t), .slice none 0 0, zL, rfl, ?_⟩
    exact ⟨⟨hkM, cb, hBk, hL2⟩, by omega, by omega, fun c hc => (by cases hc), (newB_ok _).1, (newB_ok _).2, by omega⟩
  rintro fl f1j M ⟨i, b, sp, l, hv, hf⟩
  clear hkM hBk hL2
  obtain ⟨⟨hkM, cb0, hBk, hL2⟩, hj0, hj1, hspn, hok, hun, hfl⟩ := hf
  replace cb := cb0
  replace cbr : ∀ r : Mem, (M ++ r)[M0.length]? = some (.cells false (BkL b.today sp l)) := fun r => (Keep.app _ _).cell cb0
  replace hs0 := hBk.pls.cells.1
  replace hs1 := hBk.pls.cells.2
  replace hl32 := hBk.len
  replace hone := bk_ones hs1
  replace hsm := bk_same hBk
  simp only [List.map_cons, List.map_nil, List.cons.injEq, and_true] at hv
  have hv1_0 := hv
  refine DK.from ((setL_S (by decide) _ _).trans (by simp [setS, hv1_0]; exact rfl)) ?_
  refine DK.seq ?_
  refine DK.seq ?_
  refine DK.region (is := [0, 1, 2, 3]) (by kernel_rfl) rfl ?_
  refine WK.run (rest := [2, 3]) [0, 1] (by simp [cb, cbr, c9, hone, hs0, hs1, hl32, hone2, hs20, hs21, hl2, hw1, hw2, hwr, hi9, hlt, hlnA, hbA, hbAr, hleA, hgeA, hset, cxr, cx, hsm, u1, u2, u3, cq, cqr, cc, ccr, cd, cdr, z0, z1, z2, z3, z4, z5, z6, z7, z8, z9, z10, z11, z12, z13, z14, z15, z16, z17, z18, z19, z20, z21, z22, z23, z24, z25, z26, z27, z28, z29, z30, z31, z32, z33, z34, z35, z36, z37, z38, z39]; constructor <;> rfl) ?_
  refine WK.run (rest := []) [2, 3] (by simp [cb, cbr, c9, hone, hs0, hs1, hl32, hone2, hs20, hs21, hl2, hw1, hw2, hwr, hi9, hlt, hlnA, hbA, hbAr, hleA, hgeA, hset, cxr, cx, hsm, u1, u2, u3, cq, cqr, cc, ccr, cd, cdr, z0, z1, z2, z3, z4, z5, z6, z7, z8, z9, z10, z11, z12, z13, z14, z15, z16, z17, z18, z19, z20, z21, z22, z23, z24, z25, z26, z27, z28, z29, z30, z31, z32, z33, z34, z35, z36, z37, z38, z39]; constructor <;> rfl) ?_
  refine WK.nil ?_
  refine DK.test rfl rfl (fun h => ?_) (fun h => ?_)
  · try simp only [h]
    replace h := Tr.out h
    replace hi9 : 0 ≤ i := hj0
    replace hlt : i < acts.length := h
    have hil : i.toNat < acts.length := by omega
    have hwr1 : IntKind.i64.wrap (i + 1) = i + 1 := wrap_in _ (by omega) (by omega)
    replace hwr := hwr1
    obtain ⟨bA, oA, roA, vsA, rfl, hbA0, hle0, hge0⟩ := hA.blk hil
    replace hbA := (hk0.trans hkM).cell hbA0
    replace hbAr : ∀ r : Mem, (M ++ r)[bA]? = some (.cells roA vsA) := fun r => (Keep.app _ _).cell hbA
    replace hleA : oA + i.toNat * 4 + 4 ≤ vsA.length := hle0
    replace hgeA : List.take 4 (List.drop (oA + i.toNat * 4) vsA) = (acts[i.toNat]).l := hge0
    refine DK.skip ?_
    refine DK.seq ?_
    refine DK.block ?_
    refine DK.seq ?_
    refine DK.draw rfl (POk.of (ord := [0, 1, 2, 3, 4, 5, 12, 6, 7, 8, 9, 10, 11, 13, 14]) (by kernel_rfl)) ?_
    refine XK.run (rest := [2, 3, 4, 5, 12, 6, 7, 8, 9, 10, 11, 13, 14]) [0, 1] (by kernel_rfl) (by simp [cb, cbr, c9, hone, hs0, hs1, hl32, hone2, hs20, hs21, hl2, hw1, hw2, hwr, hi9, hlt, hlnA, hbA, hbAr, hleA, hgeA, hset, cxr, cx, hsm, u1, u2, u3, cq, cqr, cc, ccr, cd, cdr, z0, z1, z2, z3, z4, z5, z6, z7, z8, z9, z10, z11, z12, z13, z14, z15, z16, z17, z18, z19, z20, z21, z22, z23, z24, z25, z26, z27, z28, z29, z30, z31, z32, z33, z34, z35, z36, z37, z38, z39]; constructor <;> rfl) ?_
    refine XK.run (rest := [4, 5, 12, 6, 7, 8, 9, 10, 11, 13, 14]) [2, 3] (by kernel_rfl) (by simp [cb, cbr, c9, hone, hs0, hs1, hl32, hone2, hs20, hs21, hl2, hw1, hw2, hwr, hi9, hlt, hlnA, hbA, hbAr, hleA, hgeA, hset, cxr, cx, hsm, u1, u2, u3, cq, cqr, cc, ccr, cd, cdr, z0, z1, z2, z3, z4, z5, z6, z7, z8, z9, z10, z11, z12, z13, z14, z15, z16, z17, z18, z19, z20, z21, z22, z23, z24, z25, z26, z27, z28, z29, z30, z31, z32, z33, z34, z35, z36, z37, z38, z39]; constructor <;> rfl) ?_
    refine XK.run (rest := [12, 6, 7, 8, 9, 10, 11, 13, 14]) [4, 5] (by kernel_rfl) (by simp [cb, cbr, c9, hone, hs0, hs1, hl32, hone2, hs20, hs21, hl2, hw1, hw2, hwr, hi9, hlt, hlnA, hbA, hbAr, hleA, hgeA, hset, cxr, cx, hsm, u1, u2, u3, cq, cqr, cc, ccr, cd, cdr, z0, z1, z2, z3, z4, z5, z6, z7, z8, z9, z10, z11, z12, z13, z14, z15, z16, z17, z18, z19, z20, z21, z22, z23, z24, z25, z26, z27, z28, z29, z30, z31, z32, z33, z34, z35, z36, z37, z38, z39]; constructor <;> rfl) ?_
    refine XK.run (rest := [6, 7, 8, 9, 10, 11, 13, 14]) [12] (by kernel_rfl) (by simp [cb, cbr, c9, hone, hs0, hs1, hl32, hone2, hs20, hs21, hl2, hw1, hw2, hwr, hi9, hlt, hlnA, hbA, hbAr, hleA, hgeA, hset, cxr, cx, hsm, u1, u2, u3, cq, cqr, cc, ccr, cd, cdr, z0, z1, z2, z3, z4, z5, z6, z7, z8, z9, z10, z11, z12, z13, z14, z15, z16, z17, z18, z19, z20, z21, z22, z23, z24, z25, z26, z27, z28, z29, z30, z31, z32, z33, z34, z35, z36, z37, z38, z39]; constructor <;> rfl) ?_
    refine XK.call rfl (by simp [cb, cbr, c9, hone, hs0, hs1, hl32, hone2, hs20, hs21, hl2, hw1, hw2, hwr, hi9, hlt, hlnA, hbA, hbAr, hleA, hgeA, hset, cxr, cx, hsm, u1, u2, u3, cq, cqr, cc, ccr, cd, cdr, z0, z1, z2, z3, z4, z5, z6, z7, z8, z9, z10, z11, z12, z13, z14, z15, z16, z17, z18, z19, z20, z21, z22, z23, z24, z25, z26, z27, z28, z29, z30, z31, z32, z33, z34, z35, z36, z37, z38, z39]) rfl (by simp [Tryd.func14, Tryd.f14, cb, cbr, c9, hone, hs0, hs1, hl32, hone2, hs20, hs21, hl2, hw1, hw2, hwr, hi9, hlt, hlnA, hbA, hbAr, hleA, hgeA, hset, cxr, cx, hsm, u1, u2, u3, cq, cqr, cc, ccr, cd, cdr, z0, z1, z2, z3, z4, z5, z6, z7, z8, z9, z10, z11, z12, z13, z14, z15, z16, z17, z18, z19, z20, z21, z22, z23, z24, z25, z26, z27, z28, z29, z30, z31, z32, z33, z34, z35, z36, z37, z38, z39]; constructor <;> rfl) ?_
    refine FSem.mono (basks_s (i.toNat * 3652060) b (hBk.keep (Keep.app _ _)) hok (by omega)) ?_
    rintro _s5 M3 ⟨hA3, hR3, hW3, hN3⟩
    have hkk := Keep.of hA3
    replace cb := hkk.cell (cbr _)
    replace c9 := hkk.cell (mem_app _ _)
    have hM3 : M.length < M3.length := (List.getElem?_eq_some_iff.1 c9).1
    replace hBk3 := (hBk.keep (Keep.app _ _)).keep hkk
    replace hL3 := (hL2.keep (Keep.app _ _)).keep hkk
    replace hk3 := (hkM.trans (Keep.app _ _)).trans hkk
    replace hbA := hkk.cell (hbAr _)
    have hlen3 : b.asks.length ≤ 100000000000 := by have := asks_bound (k := (i.toNat * 3652060)) 0 b.subs (fun a ha => (hok.subs a ha).2); rw [hok.len] at this; unfold Bk.asks; omega
    refine And.intro (lag_list (l := [0, 4]) (by kernel_rfl) (lag_cons (lag_one rfl (by simp [cb, cbr, c9, hone, hs0, hs1, hl32, hone2, hs20, hs21, hl2, hw1, hw2, hwr, hi9, hlt, hlnA, hbA, hbAr, hleA, hgeA, hset, cxr, cx, hsm, u1, u2, u3, cq, cqr, cc, ccr, cd, cdr, z0, z1, z2, z3, z4, z5, z6, z7, z8, z9, z10, z11, z12, z13, z14, z15, z16, z17, z18, z19, z20, z21, z22, z23, z24, z25, z26, z27, z28, z29, z30, z31, z32, z33, z34, z35, z36, z37, z38, z39]; constructor <;> rfl) rfl (by simp [cb, cbr, c9, hone, hs0, hs1, hl32, hone2, hs20, hs21, hl2, hw1, hw2, hwr, hi9, hlt, hlnA, hbA, hbAr, hleA, hgeA, hset, cxr, cx, hsm, u1, u2, u3, cq, cqr, cc, ccr, cd, cdr, z0, z1, z2, z3, z4, z5, z6, z7, z8, z9, z10, z11, z12, z13, z14, z15, z16, z17, z18, z19, z20, z21, z22, z23, z24, z25, z26, z27, z28, z29, z30, z31, z32, z33, z34, z35, z36, z37, z38, z39]) (by simp [sameL, sameV_agg, sameV_int, sameV_bool, sameV_str, sameV_ptr, sameV_sl, sameV_map, same1_int, same1_bool, same1_str, same1_ptr, same1_sl, same1_map, cb, cbr, c9, hone, hs0, hs1, hl32, hone2, hs20, hs21, hl2, hw1, hw2, hwr, hi9, hlt, hlnA, hbA, hbAr, hleA, hgeA, hset, cxr, cx, hsm, u1, u2, u3, cq, cqr, cc, ccr, cd, cdr, z0, z1, z2, z3, z4, z5, z6, z7, z8, z9, z10, z11, z12, z13, z14, z15, z16, z17, z18, z19, z20, z21, z22, z23, z24, z25, z26, z27, z28, z29, z30, z31, z32, z33, z34, z35, z36, z37, z38, z39]) rfl) (lag_cons (lag_one rfl (by simp [cb, cbr, c9, hone, hs0, hs1, hl32, hone2, hs20, hs21, hl2, hw1, hw2, hwr, hi9, hlt, hlnA, hbA, hbAr, hleA, hgeA, hset, cxr, cx, hsm, u1, u2, u3, cq, cqr, cc, ccr, cd, cdr, z0, z1, z2, z3, z4, z5, z6, z7, z8, z9, z10, z11, z12, z13, z14, z15, z16, z17, z18, z19, z20, z21, z22, z23, z24, z25, z26, z27, z28, z29, z30, z31, z32, z33, z34, z35, z36, z37, z38, z39]; constructor <;> rfl) rfl (by simp [cb, cbr, c9, hone, hs0, hs1, hl32, hone2, hs20, hs21, hl2, hw1, hw2, hwr, hi9, hlt, hlnA, hbA, hbAr, hleA, hgeA, hset, cxr, cx, hsm, u1, u2, u3, cq, cqr, cc, ccr, cd, cdr, z0, z1, z2, z3, z4, z5, z6, z7, z8, z9, z10, z11, z12, z13, z14, z15, z16, z17, z18, z19, z20, z21, z22, z23, z24, z25, z26, z27, z28, z29, z30, z31, z32, z33, z34, z35, z36, z37, z38, z39]) (by simp [sameL, sameV_agg, sameV_int, sameV_bool, sameV_str, sameV_ptr, sameV_sl, sameV_map, same1_int, same1_bool, same1_str, same1_ptr, same1_sl, same1_map, cb, cbr, c9, hone, hs0, hs1, hl32, hone2, hs20, hs21, hl2, hw1, hw2, hwr, hi9, hlt, hlnA, hbA, hbAr, hleA, hgeA, hset, cxr, cx, hsm, u1, u2, u3, cq, cqr, cc, ccr, cd, cdr, z0, z1, z2, z3, z4, z5, z6, z7, z8, z9, z10, z11, z12, z13, z14, z15, z16, z17, z18, z19, z20, z21, z22, z23, z24, z25, z26, z27, z28, z29, z30, z31, z32, z33, z34, z35, z36, z37, z38, z39]) rfl) rfl))) ?_
    refine XK.call rfl (by simp [cb, cbr, c9, hone, hs0, hs1, hl32, hone2, hs20, hs21, hl2, hw1, hw2, hwr, hi9, hlt, hlnA, hbA, hbAr, hleA, hgeA, hset, cxr, cx, hsm, u1, u2, u3, cq, cqr, cc, ccr, cd, cdr, z0, z1, z2, z3, z4, z5, z6, z7, z8, z9, z10, z11, z12, z13, z14, z15, z16, z17, z18, z19, z20, z21, z22, z23, z24, z25, z26, z27, z28, z29, z30, z31, z32, z33, z34, z35, z36, z37, z38, z39]) rfl (by simp [Tryd.func13, Tryd.f13, cb, cbr, c9, hone, hs0, hs1, hl32, hone2, hs20, hs21, hl2, hw1, hw2, hwr, hi9, hlt, hlnA, hbA, hbAr, hleA, hgeA, hset, cxr, cx, hsm, u1, u2, u3, cq, cqr, cc, ccr, cd, cdr, z0, z1, z2, z3, z4, z5, z6, z7, z8, z9, z10, z11, z12, z13, z14, z15, z16, z17, z18, z19, z20, z21, z22, z23, z24, z25, z26, z27, z28, z29, z30, z31, z32, z33, z34, z35, z36, z37, z38, z39]; constructor <;> rfl) ?_
    refine FSem.mono (rorder_g acts[i.toNat] (hao _ (List.getElem_mem hil)) b.asks hlen3 hR3) ?_
    rintro _ Hq ⟨od, rfl, hod, hq⟩
    subst hq
    refine And.intro (lag_list (l := [0]) (by kernel_rfl) (lag_cons (lag_one rfl (by simp [cb, cbr, c9, hone, hs0, hs1, hl32, hone2, hs20, hs21, hl2, hw1, hw2, hwr, hi9, hlt, hlnA, hbA, hbAr, hleA, hgeA, hset, cxr, cx, hsm, u1, u2, u3, cq, cqr, cc, ccr, cd, cdr, z0, z1, z2, z3, z4, z5, z6, z7, z8, z9, z10, z11, z12, z13, z14, z15, z16, z17, z18, z19, z20, z21, z22, z23, z24, z25, z26, z27, z28, z29, z30, z31, z32, z33, z34, z35, z36, z37, z38, z39]; constructor <;> rfl) rfl (by simp [cb, cbr, c9, hone, hs0, hs1, hl32, hone2, hs20, hs21, hl2, hw1, hw2, hwr, hi9, hlt, hlnA, hbA, hbAr, hleA, hgeA, hset, cxr, cx, hsm, u1, u2, u3, cq, cqr, cc, ccr, cd, cdr, z0, z1, z2, z3, z4, z5, z6, z7, z8, z9, z10, z11, z12, z13, z14, z15, z16, z17, z18, z19, z20, z21, z22, z23, z24, z25, z26, z27, z28, z29, z30, z31, z32, z33, z34, z35, z36, z37, z38, z39]) (by simp [sameL, sameV_agg, sameV_int, sameV_bool, sameV_str, sameV_ptr, sameV_sl, sameV_map, same1_int, same1_bool, same1_str, same1_ptr, same1_sl, same1_map, cb, cbr, c9, hone, hs0, hs1, hl32, hone2, hs20, hs21, hl2, hw1, hw2, hwr, hi9, hlt, hlnA, hbA, hbAr, hleA, hgeA, hset, cxr, cx, hsm, u1, u2, u3, cq, cqr, cc, ccr, cd, cdr, z0, z1, z2, z3, z4, z5, z6, z7, z8, z9, z10, z11, z12, z13, z14, z15, z16, z17, z18, z19, z20, z21, z22, z23, z24, z25, z26, z27, z28, z29, z30, z31, z32, z33, z34, z35, z36, z37, z38, z39]) rfl) rfl)) ?_
    refine XK.call rfl (by simp [cb, cbr, c9, hone, hs0, hs1, hl32, hone2, hs20, hs21, hl2, hw1, hw2, hwr, hi9, hlt, hlnA, hbA, hbAr, hleA, hgeA, hset, cxr, cx, hsm, u1, u2, u3, cq, cqr, cc, ccr, cd, cdr, z0, z1, z2, z3, z4, z5, z6, z7, z8, z9, z10, z11, z12, z13, z14, z15, z16, z17, z18, z19, z20, z21, z22, z23, z24, z25, z26, z27, z28, z29, z30, z31, z32, z33, z34, z35, z36, z37, z38, z39]) rfl (by simp [Tryd.func16, Tryd.f16, cb, cbr, c9, hone, hs0, hs1, hl32, hone2, hs20, hs21, hl2, hw1, hw2, hwr, hi9, hlt, hlnA, hbA, hbAr, hleA, hgeA, hset, cxr, cx, hsm, u1, u2, u3, cq, cqr, cc, ccr, cd, cdr, z0, z1, z2, z3, z4, z5, z6, z7, z8, z9, z10, z11, z12, z13, z14, z15, z16, z17, z18, z19, z20, z21, z22, z23, z24, z25, z26, z27, z28, z29, z30, z31, z32, z33, z34, z35, z36, z37, z38, z39]; constructor <;> rfl) ?_
    refine FSem.mono (step_g (i.toNat * 3652060) b od hBk3 hL3 hok (by omega) hun) ?_
    rintro _ M4 ⟨b2, e2, sp2, l2, rfl, hst, hBk2, hl, hs, hs', hkk, hsb2⟩
    replace hl2 := hl
    replace hs20 := hs
    replace hs21 := hs'
    replace hone2 := bk_ones hs'
    replace cb := hkk.cell cb
    replace c9 := hkk.cell c9
    replace hBk3 := hBk3.keep hkk
    replace hk3 := hk3.trans hkk
    replace hbA := hkk.cell hbA
    replace hset := List.getElem?_set_self (a := Blk.cells false (BkL b2.today sp2 l2)) (List.getElem?_eq_some_iff.1 c9).1
    refine And.intro (lag_list (l := []) (by kernel_rfl) rfl) ?_
    refine XK.run (rest := [11, 13, 14]) [9, 10] (by kernel_rfl) (by simp [cb, cbr, c9, hone, hs0, hs1, hl32, hone2, hs20, hs21, hl2, hw1, hw2, hwr, hi9, hlt, hlnA, hbA, hbAr, hleA, hgeA, hset, cxr, cx, hsm, u1, u2, u3, cq, cqr, cc, ccr, cd, cdr, z0, z1, z2, z3, z4, z5, z6, z7, z8, z9, z10, z11, z12, z13, z14, z15, z16, z17, z18, z19, z20, z21, z22, z23, z24, z25, z26, z27, z28, z29, z30, z31, z32, z33, z34, z35, z36, z37, z38, z39]; constructor <;> rfl) ?_
    refine XK.run (rest := [13, 14]) [11] (by kernel_rfl) (by simp [cb, cbr, c9, hone, hs0, hs1, hl32, hone2, hs20, hs21, hl2, hw1, hw2, hwr, hi9, hlt, hlnA, hbA, hbAr, hleA, hgeA, hset, cxr, cx, hsm, u1, u2, u3, cq, cqr, cc, ccr, cd, cdr, z0, z1, z2, z3, z4, z5, z6, z7, z8, z9, z10, z11, z12, z13, z14, z15, z16, z17, z18, z19, z20, z21, z22, z23, z24, z25, z26, z27, z28, z29, z30, z31, z32, z33, z34, z35, z36, z37, z38, z39]; constructor <;> rfl) ?_
    refine XK.one rfl (by simp [cb, cbr, c9, hone, hs0, hs1, hl32, hone2, hs20, hs21, hl2, hw1, hw2, hwr, hi9, hlt, hlnA, hbA, hbAr, hleA, hgeA, hset, cxr, cx, hsm, u1, u2, u3, cq, cqr, cc, ccr, cd, cdr, z0, z1, z2, z3, z4, z5, z6, z7, z8, z9, z10, z11, z12, z13, z14, z15, z16, z17, z18, z19, z20, z21, z22, z23, z24, z25, z26, z27, z28, z29, z30, z31, z32, z33, z34, z35, z36, z37, z38, z39]) rfl (by simp [cb, cbr, c9, hone, hs0, hs1, hl32, hone2, hs20, hs21, hl2, hw1, hw2, hwr, hi9, hlt, hlnA, hbA, hbAr, hleA, hgeA, hset, cxr, cx, hsm, u1, u2, u3, cq, cqr, cc, ccr, cd, cdr, z0, z1, z2, z3, z4, z5, z6, z7, z8, z9, z10, z11, z12, z13, z14, z15, z16, z17, z18, z19, z20, z21, z22, z23, z24, z25, z26, z27, z28, z29, z30, z31, z32, z33, z34, z35, z36, z37, z38, z39]; constructor <;> rfl) (lag_list (l := []) (by kernel_rfl) rfl) ?_
    refine XK.one rfl (by simp [cb, cbr, c9, hone, hs0, hs1, hl32, hone2, hs20, hs21, hl2, hw1, hw2, hwr, hi9, hlt, hlnA, hbA, hbAr, hleA, hgeA, hset, cxr, cx, hsm, u1, u2, u3, cq, cqr, cc, ccr, cd, cdr, z0, z1, z2, z3, z4, z5, z6, z7, z8, z9, z10, z11, z12, z13, z14, z15, z16, z17, z18, z19, z20, z21, z22, z23, z24, z25, z26, z27, z28, z29, z30, z31, z32, z33, z34, z35, z36, z37, z38, z39]) rfl (by simp [cb, cbr, c9, hone, hs0, hs1, hl32, hone2, hs20, hs21, hl2, hw1, hw2, hwr, hi9, hlt, hlnA, hbA, hbAr, hleA, hgeA, hset, cxr, cx, hsm, u1, u2, u3, cq, cqr, cc, ccr, cd, cdr, z0, z1, z2, z3, z4, z5, z6, z7, z8, z9, z10, z11, z12, z13, z14, z15, z16, z17, z18, z19, z20, z21, z22, z23, z24, z25, z26, z27, z28, z29, z30, z31, z32, z33, z34, z35, z36, z37, z38, z39]; constructor <;> rfl) (lag_list (l := []) (by kernel_rfl) rfl) ?_
    refine XK.nil ?_
    refine DK.abs (fun M5 => Keep M0 M5 ∧ M5[M0.length]? = some (.cells false (BkL b.today sp l)) ∧ M5[M.length]? = some (.cells false (BkL b2.today sp2 l2)) ∧ BkAt M5 sp l b ∧ BkAt M5 sp2 l2 b2) ⟨hk3.set hkM.1 _, (List.getElem?_set_ne (by have := (List.getElem?_eq_some_iff.1 cb0).1; omega)).trans cb, hset, hBk3.set (hBk.free (Nat.le_refl _)) _, hBk2.set (hBk2.fre c9 (by rw [BkL_len (by simp)]; decide) (fun e => (hsb2 _ e).elim (fun q => by have := hBk.pls.lt q; omega) (fun q => by have := hM3; omega))) _⟩ ?_
    rintro M5 ⟨hk5, cb5, c95, hBk5, hBk25⟩
    replace c9 := c95
    replace cb := cb5
    replace hset := List.getElem?_set_self (a := Blk.cells false (BkL b2.today sp2 l2)) (List.getElem?_eq_some_iff.1 cb).1
    refine DK.seq ?_
    refine DK.region (is := [0, 1]) (by kernel_rfl) rfl ?_
    refine WK.run (rest := []) [0, 1] (by simp [cb, cbr, c9, hone, hs0, hs1, hl32, hone2, hs20, hs21, hl2, hw1, hw2, hwr, hi9, hlt, hlnA, hbA, hbAr, hleA, hgeA, hset, cxr, cx, hsm, u1, u2, u3, cq, cqr, cc, ccr, cd, cdr, z0, z1, z2, z3, z4, z5, z6, z7, z8, z9, z10, z11, z12, z13, z14, z15, z16, z17, z18, z19, z20, z21, z22, z23, z24, z25, z26, z27, z28, z29, z30, z31, z32, z33, z34, z35, z36, z37, z38, z39]; constructor <;> rfl) ?_
    refine WK.nil ?_
    refine DK.test rfl rfl (fun h => ?_) (fun h => ?_)
    · try simp only [h]
      replace h := Tr.out h
      refine DK.region (is := [0, 1]) (by kernel_rfl) rfl ?_
      refine WK.run (rest := []) [0, 1] (by simp [cb, cbr, c9, hone, hs0, hs1, hl32, hone2, hs20, hs21, hl2, hw1, hw2, hwr, hi9, hlt, hlnA, hbA, hbAr, hleA, hgeA, hset, cxr, cx, hsm, u1, u2, u3, cq, cqr, cc, ccr, cd, cdr, z0, z1, z2, z3, z4, z5, z6, z7, z8, z9, z10, z11, z12, z13, z14, z15, z16, z17, z18, z19, z20, z21, z22, z23, z24, z25, z26, z27, z28, z29, z30, z31, z32, z33, z34, z35, z36, z37, z38, z39]; constructor <;> rfl) ?_
      refine WK.nil ?_
      refine DK.abs (fun M6 => Keep M0 M6 ∧ M6[M0.length]? = some (.cells false (BkL b2.today sp2 l2)) ∧ BkAt M6 sp2 l2 b2) ⟨hk5.set (Nat.le_refl _) _, hset, hBk25.set (hBk25.fre cb (by rw [BkL_len hl32]; decide) (fun e => (hsb2 _ e).elim (fun q => by have := hspn _ q; omega) (fun q => by have := hM3; have := (List.getElem?_eq_some_iff.1 cb0).1; omega))) _⟩ ?_
      rintro M6 ⟨hk6, cb6, hBk6⟩
      refine DK.region (is := [0, 1, 2]) (by kernel_rfl) rfl ?_
      refine WK.run (rest := [2]) [0, 1] (by simp [cb, cbr, c9, hone, hs0, hs1, hl32, hone2, hs20, hs21, hl2, hw1, hw2, hwr, hi9, hlt, hlnA, hbA, hbAr, hleA, hgeA, hset, cxr, cx, hsm, u1, u2, u3, cq, cqr, cc, ccr, cd, cdr, z0, z1, z2, z3, z4, z5, z6, z7, z8, z9, z10, z11, z12, z13, z14, z15, z16, z17, z18, z19, z20, z21, z22, z23, z24, z25, z26, z27, z28, z29, z30, z31, z32, z33, z34, z35, z36, z37, z38, z39]; constructor <;> rfl) ?_
      refine WK.run (rest := []) [2] (by simp [cb, cbr, c9, hone, hs0, hs1, hl32, hone2, hs20, hs21, hl2, hw1, hw2, hwr, hi9, hlt, hlnA, hbA, hbAr, hleA, hgeA, hset, cxr, cx, hsm, u1, u2, u3, cq, cqr, cc, ccr, cd, cdr, z0, z1, z2, z3, z4, z5, z6, z7, z8, z9, z10, z11, z12, z13, z14, z15, z16, z17, z18, z19, z20, z21, z22, z23, z24, z25, z26, z27, z28, z29, z30, z31, z32, z33, z34, z35, z36, z37, z38, z39]; constructor <;> rfl) ?_
      refine WK.nil ?_
      refine ⟨by kernel_rfl, (acts.length - (i + 1)).toNat, ?_, _, b2, sp2, l2, rfl, ?_⟩
      · omega
      · rw [show (i + 1).toNat = i.toNat + 1 by omega]
        have hok3 := stepB_ok hok (show (stepB b od).2 = 0 by rw [hst]; assumption)
        have hun3 := stepB_un hun (show 0 ≤ od.p.un by rw [← hod]; exact orderR_un (hao _ (List.getElem_mem hil)) _)
        rw [hst] at hok3 hun3
        exact ⟨⟨hk6, cb6, hBk6, (hL.keep hk0).keep hk6⟩, by omega, by omega, fun c hc => (hsb2 c hc).elim (fun q => hspn c q) (fun q => by have := hM3; have := (List.getElem?_eq_some_iff.1 cb0).1; omega), ⟨hok3.pls, fun a ha => ⟨(hok3.subs a ha).1, by rw [Nat.succ_mul]; exact (hok3.subs a ha).2⟩, hok3.len⟩, hun3, rfl⟩
    try simp only [h]
    replace h := Fa.out h
    refine DK.skip ?_
    refine DK.region (is := [0, 1, 2]) (by kernel_rfl) rfl ?_
    refine WK.run (rest := [2]) [0, 1] (by simp [cb, cbr, c9, hone, hs0, hs1, hl32, hone2, hs20, hs21, hl2, hw1, hw2, hwr, hi9, hlt, hlnA, hbA, hbAr, hleA, hgeA, hset, cxr, cx, hsm, u1, u2, u3, cq, cqr, cc, ccr, cd, cdr, z0, z1, z2, z3, z4, z5, z6, z7, z8, z9, z10, z11, z12, z13, z14, z15, z16, z17, z18, z19, z20, z21, z22, z23, z24, z25, z26, z27, z28, z29, z30, z31, z32, z33, z34, z35, z36, z37, z38, z39]; constructor <;> rfl) ?_
    refine WK.run (rest := []) [2] (by simp [cb, cbr, c9, hone, hs0, hs1, hl32, hone2, hs20, hs21, hl2, hw1, hw2, hwr, hi9, hlt, hlnA, hbA, hbAr, hleA, hgeA, hset, cxr, cx, hsm, u1, u2, u3, cq, cqr, cc, ccr, cd, cdr, z0, z1, z2, z3, z4, z5, z6, z7, z8, z9, z10, z11, z12, z13, z14, z15, z16, z17, z18, z19, z20, z21, z22, z23, z24, z25, z26, z27, z28, z29, z30, z31, z32, z33, z34, z35, z36, z37, z38, z39]; constructor <;> rfl) ?_
    refine WK.nil ?_
    refine ⟨by kernel_rfl, (acts.length - (i + 1)).toNat, ?_, _, b, sp, l, rfl, ?_⟩
    · omega
    · rw [show (i + 1).toNat = i.toNat + 1 by omega]
      exact ⟨⟨hk5, cb5, hBk5, (hL.keep hk0).keep hk5⟩, by omega, by omega, hspn, ⟨hok.pls, fun a ha => ⟨(hok.subs a ha).1, Nat.le_trans (hok.subs a ha).2 (Nat.mul_le_mul_right _ (Nat.le_succ _))⟩, hok.len⟩, hun, rfl⟩
  try simp only [h]
  replace h := Fa.out h
  have hi : i = acts.length := by omega
  subst hi
  have hkM0 := hkM
  have hBkM := hBk
  have hok2 : BOk 110000000 b := ⟨hok.pls, fun a ha => ⟨(hok.subs a ha).1, Nat.le_trans (hok.subs a ha).2 (by omega)⟩, hok.len⟩
  replace cx := hkM.cell cx0
  replace cxr : ∀ r : Mem, (M ++ r)[H.length]? = some (.cells false x.l) := fun r => (Keep.app _ _).cell cx
  refine DK.exit ?_
  refine DK.seq ?_
  refine DK.draw rfl (POk.of (ord := [0, 1, 4, 2, 3, 5]) (by kernel_rfl)) ?_
  refine XK.run (rest := [4, 2, 3, 5]) [0, 1] (by kernel_rfl) (by simp [cb, cbr, c9, hone, hs0, hs1, hl32, hone2, hs20, hs21, hl2, hw1, hw2, hwr, hi9, hlt, hlnA, hbA, hbAr, hleA, hgeA, hset, cxr, cx, hsm, u1, u2, u3, cq, cqr, cc, ccr, cd, cdr, z0, z1, z2, z3, z4, z5, z6, z7, z8, z9, z10, z11, z12, z13, z14, z15, z16, z17, z18, z19, z20, z21, z22, z23, z24, z25, z26, z27, z28, z29, z30, z31, z32, z33, z34, z35, z36, z37, z38, z39]; constructor <;> rfl) ?_
  refine XK.run (rest := [2, 3, 5]) [4] (by kernel_rfl) (by simp [cb, cbr, c9, hone, hs0, hs1, hl32, hone2, hs20, hs21, hl2, hw1, hw2, hwr, hi9, hlt, hlnA, hbA, hbAr, hleA, hgeA, hset, cxr, cx, hsm, u1, u2, u3, cq, cqr, cc, ccr, cd, cdr, z0, z1, z2, z3, z4, z5, z6, z7, z8, z9, z10, z11, z12, z13, z14, z15, z16, z17, z18, z19, z20, z21, z22, z23, z24, z25, z26, z27, z28, z29, z30, z31, z32, z33, z34, z35, z36, z37, z38, z39]; constructor <;> rfl) ?_
  refine XK.call rfl (by simp [cb, cbr, c9, hone, hs0, hs1, hl32, hone2, hs20, hs21, hl2, hw1, hw2, hwr, hi9, hlt, hlnA, hbA, hbAr, hleA, hgeA, hset, cxr, cx, hsm, u1, u2, u3, cq, cqr, cc, ccr, cd, cdr, z0, z1, z2, z3, z4, z5, z6, z7, z8, z9, z10, z11, z12, z13, z14, z15, z16, z17, z18, z19, z20, z21, z22, z23, z24, z25, z26, z27, z28, z29, z30, z31, z32, z33, z34, z35, z36, z37, z38, z39]) rfl (by simp [Tryd.func14, Tryd.f14, cb, cbr, c9, hone, hs0, hs1, hl32, hone2, hs20, hs21, hl2, hw1, hw2, hwr, hi9, hlt, hlnA, hbA, hbAr, hleA, hgeA, hset, cxr, cx, hsm, u1, u2, u3, cq, cqr, cc, ccr, cd, cdr, z0, z1, z2, z3, z4, z5, z6, z7, z8, z9, z10, z11, z12, z13, z14, z15, z16, z17, z18, z19, z20, z21, z22, z23, z24, z25, z26, z27, z28, z29, z30, z31, z32, z33, z34, z35, z36, z37, z38, z39]; constructor <;> rfl) ?_
  refine FSem.mono (basks_s 110000000 b (hBk.keep (Keep.app _ _)) hok2 (by omega)) ?_
  rintro _s5 M3 ⟨hA3, hR3, hW3, hN3⟩
  have hkk := Keep.of hA3
  replace cb := hkk.cell (cbr _)
  replace cx := hkk.cell (cxr _)
  replace cq := hkk.cell (mem_app _ _)
  replace hBk := (hBk.keep (Keep.app _ _)).keep hkk
  replace hL2 := (hL2.keep (Keep.app _ _)).keep hkk
  replace hkM := (hkM.trans (Keep.app _ _)).trans hkk
  have hlen3 : b.asks.length ≤ 100000000000 := by have := asks_bound (k := 110000000) 0 b.subs (fun a ha => (hok2.subs a ha).2); rw [hok2.len] at this; unfold Bk.asks; omega
  refine And.intro (lag_list (l := [0]) (by kernel_rfl) (lag_cons (lag_one rfl (by simp [cb, cbr, c9, hone, hs0, hs1, hl32, hone2, hs20, hs21, hl2, hw1, hw2, hwr, hi9, hlt, hlnA, hbA, hbAr, hleA, hgeA, hset, cxr, cx, hsm, u1, u2, u3, cq, cqr, cc, ccr, cd, cdr, z0, z1, z2, z3, z4, z5, z6, z7, z8, z9, z10, z11, z12, z13, z14, z15, z16, z17, z18, z19, z20, z21, z22, z23, z24, z25, z26, z27, z28, z29, z30, z31, z32, z33, z34, z35, z36, z37, z38, z39]; constructor <;> rfl) rfl (by simp [cb, cbr, c9, hone, hs0, hs1, hl32, hone2, hs20, hs21, hl2, hw1, hw2, hwr, hi9, hlt, hlnA, hbA, hbAr, hleA, hgeA, hset, cxr, cx, hsm, u1, u2, u3, cq, cqr, cc, ccr, cd, cdr, z0, z1, z2, z3, z4, z5, z6, z7, z8, z9, z10, z11, z12, z13, z14, z15, z16, z17, z18, z19, z20, z21, z22, z23, z24, z25, z26, z27, z28, z29, z30, z31, z32, z33, z34, z35, z36, z37, z38, z39]) (by simp [sameL, sameV_agg, sameV_int, sameV_bool, sameV_str, sameV_ptr, sameV_sl, sameV_map, same1_int, same1_bool, same1_str, same1_ptr, same1_sl, same1_map, cb, cbr, c9, hone, hs0, hs1, hl32, hone2, hs20, hs21, hl2, hw1, hw2, hwr, hi9, hlt, hlnA, hbA, hbAr, hleA, hgeA, hset, cxr, cx, hsm, u1, u2, u3, cq, cqr, cc, ccr, cd, cdr, z0, z1, z2, z3, z4, z5, z6, z7, z8, z9, z10, z11, z12, z13, z14, z15, z16, z17, z18, z19, z20, z21, z22, z23, z24, z25, z26, z27, z28, z29, z30, z31, z32, z33, z34, z35, z36, z37, z38, z39]) rfl) rfl)) ?_
  refine XK.call rfl (by simp [cb, cbr, c9, hone, hs0, hs1, hl32, hone2, hs20, hs21, hl2, hw1, hw2, hwr, hi9, hlt, hlnA, hbA, hbAr, hleA, hgeA, hset, cxr, cx, hsm, u1, u2, u3, cq, cqr, cc, ccr, cd, cdr, z0, z1, z2, z3, z4, z5, z6, z7, z8, z9, z10, z11, z12, z13, z14, z15, z16, z17, z18, z19, z20, z21, z22, z23, z24, z25, z26, z27, z28, z29, z30, z31, z32, z33, z34, z35, z36, z37, z38, z39]) rfl (by simp [Tryd.func13, Tryd.f13, cb, cbr, c9, hone, hs0, hs1, hl32, hone2, hs20, hs21, hl2, hw1, hw2, hwr, hi9, hlt, hlnA, hbA, hbAr, hleA, hgeA, hset, cxr, cx, hsm, u1, u2, u3, cq, cqr, cc, ccr, cd, cdr, z0, z1, z2, z3, z4, z5, z6, z7, z8, z9, z10, z11, z12, z13, z14, z15, z16, z17, z18, z19, z20, z21, z22, z23, z24, z25, z26, z27, z28, z29, z30, z31, z32, z33, z34, z35, z36, z37, z38, z39]; constructor <;> rfl) ?_
  refine FSem.mono (rorder_g x hx b.asks hlen3 hR3) ?_
  rintro _ Hq ⟨od, rfl, hod, hq⟩
  subst hq
  refine And.intro (lag_list (l := []) (by kernel_rfl) rfl) ?_
  refine XK.one rfl (by simp [cb, cbr, c9, hone, hs0, hs1, hl32, hone2, hs20, hs21, hl2, hw1, hw2, hwr, hi9, hlt, hlnA, hbA, hbAr, hleA, hgeA, hset, cxr, cx, hsm, u1, u2, u3, cq, cqr, cc, ccr, cd, cdr, z0, z1, z2, z3, z4, z5, z6, z7, z8, z9, z10, z11, z12, z13, z14, z15, z16, z17, z18, z19, z20, z21, z22, z23, z24, z25, z26, z27, z28, z29, z30, z31, z32, z33, z34, z35, z36, z37, z38, z39]) rfl (by simp [cb, cbr, c9, hone, hs0, hs1, hl32, hone2, hs20, hs21, hl2, hw1, hw2, hwr, hi9, hlt, hlnA, hbA, hbAr, hleA, hgeA, hset, cxr, cx, hsm, u1, u2, u3, cq, cqr, cc, ccr, cd, cdr, z0, z1, z2, z3, z4, z5, z6, z7, z8, z9, z10, z11, z12, z13, z14, z15, z16, z17, z18, z19, z20, z21, z22, z23, z24, z25, z26, z27, z28, z29, z30, z31, z32, z33, z34, z35, z36, z37, z38, z39]; constructor <;> rfl) (lag_list (l := []) (by kernel_rfl) rfl) ?_
  refine XK.nil ?_
  refine DK.abs (fun M5 => Keep M0 M5 ∧ M5[M0.length]? = some (.cells false (BkL b.today sp l)) ∧ M5[M.length]? = some (.cells false od.l) ∧ BkAt M5 sp l b ∧ Lad M5) ⟨hkM.set hkM0.1 _, (List.getElem?_set_ne (by have := (List.getElem?_eq_some_iff.1 cb0).1; omega)).trans cb, List.getElem?_set_self (List.getElem?_eq_some_iff.1 cq).1, hBk.set (hBkM.free (Nat.le_refl _)) _, (hL.keep hk0).keep (hkM.set hkM0.1 _)⟩ ?_
  rintro M5 ⟨hkM, cb5, cq5, hBk, hL2⟩
  replace cb := cb5
  replace cq := cq5
  refine DK.seq ?_
  refine DK.region (is := [0, 1, 2, 3, 4, 5, 6, 7, 8]) (by kernel_rfl) rfl ?_
  refine WK.run (rest := [2, 3, 4, 5, 6, 7, 8]) [0, 1] (by simp [cb, cbr, c9, hone, hs0, hs1, hl32, hone2, hs20, hs21, hl2, hw1, hw2, hwr, hi9, hlt, hlnA, hbA, hbAr, hleA, hgeA, hset, cxr, cx, hsm, u1, u2, u3, cq, cqr, cc, ccr, cd, cdr, z0, z1, z2, z3, z4, z5, z6, z7, z8, z9, z10, z11, z12, z13, z14, z15, z16, z17, z18, z19, z20, z21, z22, z23, z24, z25, z26, z27, z28, z29, z30, z31, z32, z33, z34, z35, z36, z37, z38, z39]; constructor <;> rfl) ?_
  refine WK.call rfl (by simp [cb, cbr, c9, hone, hs0, hs1, hl32, hone2, hs20, hs21, hl2, hw1, hw2, hwr, hi9, hlt, hlnA, hbA, hbAr, hleA, hgeA, hset, cxr, cx, hsm, u1, u2, u3, cq, cqr, cc, ccr, cd, cdr, z0, z1, z2, z3, z4, z5, z6, z7, z8, z9, z10, z11, z12, z13, z14, z15, z16, z17, z18, z19, z20, z21, z22, z23, z24, z25, z26, z27, z28, z29, z30, z31, z32, z33, z34, z35, z36, z37, z38, z39]) (by simp [Tryd.func16, Tryd.f16, cb, cbr, c9, hone, hs0, hs1, hl32, hone2, hs20, hs21, hl2, hw1, hw2, hwr, hi9, hlt, hlnA, hbA, hbAr, hleA, hgeA, hset, cxr, cx, hsm, u1, u2, u3, cq, cqr, cc, ccr, cd, cdr, z0, z1, z2, z3, z4, z5, z6, z7, z8, z9, z10, z11, z12, z13, z14, z15, z16, z17, z18, z19, z20, z21, z22, z23, z24, z25, z26, z27, z28, z29, z30, z31, z32, z33, z34, z35, z36, z37, z38, z39]; constructor <;> rfl) ?_
  refine FSem.mono (step_g 110000000 b od hBk hL2 hok2 (by omega) hun) ?_
  rintro _ M4 ⟨b2, e2, sp2, l2, rfl, hst, hBk2, hl, hs, hs', hkk, hsb2⟩
  replace hl2 := hl
  replace hs20 := hs
  replace hs21 := hs'
  replace hone2 := bk_ones hs'
  replace cb := hkk.cell cb
  replace cq := hkk.cell cq
  replace hBk := hBk.keep hkk
  replace hkM := hkM.trans hkk
  refine WK.run (rest := [5, 6, 7, 8]) [3, 4] (by simp [cb, cbr, c9, hone, hs0, hs1, hl32, hone2, hs20, hs21, hl2, hw1, hw2, hwr, hi9, hlt, hlnA, hbA, hbAr, hleA, hgeA, hset, cxr, cx, hsm, u1, u2, u3, cq, cqr, cc, ccr, cd, cdr, z0, z1, z2, z3, z4, z5, z6, z7, z8, z9, z10, z11, z12, z13, z14, z15, z16, z17, z18, z19, z20, z21, z22, z23, z24, z25, z26, z27, z28, z29, z30, z31, z32, z33, z34, z35, z36, z37, z38, z39]; constructor <;> rfl) ?_
  refine WK.run (rest := [7, 8]) [5, 6] (by simp [cb, cbr, c9, hone, hs0, hs1, hl32, hone2, hs20, hs21, hl2, hw1, hw2, hwr, hi9, hlt, hlnA, hbA, hbAr, hleA, hgeA, hset, cxr, cx, hsm, u1, u2, u3, cq, cqr, cc, ccr, cd, cdr, z0, z1, z2, z3, z4, z5, z6, z7, z8, z9, z10, z11, z12, z13, z14, z15, z16, z17, z18, z19, z20, z21, z22, z23, z24, z25, z26, z27, z28, z29, z30, z31, z32, z33, z34, z35, z36, z37, z38, z39]; constructor <;> rfl) ?_
  refine WK.run (rest := []) [7, 8] (by simp [cb, cbr, c9, hone, hs0, hs1, hl32, hone2, hs20, hs21, hl2, hw1, hw2, hwr, hi9, hlt, hlnA, hbA, hbAr, hleA, hgeA, hset, cxr, cx, hsm, u1, u2, u3, cq, cqr, cc, ccr, cd, cdr, z0, z1, z2, z3, z4, z5, z6, z7, z8, z9, z10, z11, z12, z13, z14, z15, z16, z17, z18, z19, z20, z21, z22, z23, z24, z25, z26, z27, z28, z29, z30, z31, z32, z33, z34, z35, z36, z37, z38, z39]; constructor <;> rfl) ?_
  refine WK.nil ?_
  refine DK.abs (fun M7 => Keep M4 M7 ∧ M7[M4.length]? = some (.cells false (BkL b2.today sp2 l2))) ⟨Keep.app _ _, mem_app _ _⟩ ?_
  rintro M7 ⟨hkk, h_cc⟩
  replace cc := h_cc
  replace cb := hkk.cell cb
  replace cq := hkk.cell cq
  replace hBk := hBk.keep hkk
  replace hBk2 := hBk2.keep hkk
  replace hkM := hkM.keep hkk
  refine DK.seq ?_
  refine DK.seq ?_
  refine DK.region (is := [0, 1, 2, 3, 4, 5, 6]) (by kernel_rfl) rfl ?_
  refine WK.run (rest := [2, 3, 4, 5, 6]) [0, 1] (by simp [cb, cbr, c9, hone, hs0, hs1, hl32, hone2, hs20, hs21, hl2, hw1, hw2, hwr, hi9, hlt, hlnA, hbA, hbAr, hleA, hgeA, hset, cxr, cx, hsm, u1, u2, u3, cq, cqr, cc, ccr, cd, cdr, z0, z1, z2, z3, z4, z5, z6, z7, z8, z9, z10, z11, z12, z13, z14, z15, z16, z17, z18, z19, z20, z21, z22, z23, z24, z25, z26, z27, z28, z29, z30, z31, z32, z33, z34, z35, z36, z37, z38, z39]; constructor <;> rfl) ?_
  refine WK.run (rest := [3, 4, 5, 6]) [2] (by simp [cb, cbr, c9, hone, hs0, hs1, hl32, hone2, hs20, hs21, hl2, hw1, hw2, hwr, hi9, hlt, hlnA, hbA, hbAr, hleA, hgeA, hset, cxr, cx, hsm, u1, u2, u3, cq, cqr, cc, ccr, cd, cdr, z0, z1, z2, z3, z4, z5, z6, z7, z8, z9, z10, z11, z12, z13, z14, z15, z16, z17, z18, z19, z20, z21, z22, z23, z24, z25, z26, z27, z28, z29, z30, z31, z32, z33, z34, z35, z36, z37, z38, z39]; constructor <;> rfl) ?_
  refine WK.split (t := 61) rfl (fun h => ?_) (fun h => ?_)
  · try simp only [h]
    replace h := Tr.out h
    refine WK.run (rest := [5, 6]) [3, 4] (by simp [cb, cbr, c9, hone, hs0, hs1, hl32, hone2, hs20, hs21, hl2, hw1, hw2, hwr, hi9, hlt, hlnA, hbA, hbAr, hleA, hgeA, hset, cxr, cx, hsm, u1, u2, u3, cq, cqr, cc, ccr, cd, cdr, z0, z1, z2, z3, z4, z5, z6, z7, z8, z9, z10, z11, z12, z13, z14, z15, z16, z17, z18, z19, z20, z21, z22, z23, z24, z25, z26, z27, z28, z29, z30, z31, z32, z33, z34, z35, z36, z37, z38, z39]; constructor <;> rfl) ?_
    refine WK.run (rest := []) [5, 6] (by simp [cb, cbr, c9, hone, hs0, hs1, hl32, hone2, hs20, hs21, hl2, hw1, hw2, hwr, hi9, hlt, hlnA, hbA, hbAr, hleA, hgeA, hset, cxr, cx, hsm, u1, u2, u3, cq, cqr, cc, ccr, cd, cdr, z0, z1, z2, z3, z4, z5, z6, z7, z8, z9, z10, z11, z12, z13, z14, z15, z16, z17, z18, z19, z20, z21, z22, z23, z24, z25, z26, z27, z28, z29, z30, z31, z32, z33, z34, z35, z36, z37, z38, z39]; constructor <;> rfl) ?_
    refine WK.nil ?_
    refine DK.yes rfl rfl ?_
    refine DK.seq ?_
    refine DK.region (is := [0]) (by kernel_rfl) rfl ?_
    refine WK.run (rest := []) [0] (by simp [cb, cbr, c9, hone, hs0, hs1, hl32, hone2, hs20, hs21, hl2, hw1, hw2, hwr, hi9, hlt, hlnA, hbA, hbAr, hleA, hgeA, hset, cxr, cx, hsm, u1, u2, u3, cq, cqr, cc, ccr, cd, cdr, z0, z1, z2, z3, z4, z5, z6, z7, z8, z9, z10, z11, z12, z13, z14, z15, z16, z17, z18, z19, z20, z21, z22, z23, z24, z25, z26, z27, z28, z29, z30, z31, z32, z33, z34, z35, z36, z37, z38, z39]; constructor <;> rfl) ?_
    refine WK.nil ?_
    refine DK.ret ?_
    refine And.intro (Or.inr rfl) ?_
    refine ⟨_, by simp [absAnswer, absResults, absResult, Tryd.f6]; rfl, ?_⟩
    exact ⟨(hk0.trans hkM).ext, by simp, by simp [u1]⟩
  try simp only [h]
  replace h := Fa.out h
  have he2 : e2 = 0 := by simpa using h
  refine WK.run (rest := [5, 6]) [3, 4] (by simp [cb, cbr, c9, hone, hs0, hs1, hl32, hone2, hs20, hs21, hl2, hw1, hw2, hwr, hi9, hlt, hlnA, hbA, hbAr, hleA, hgeA, hset, cxr, cx, hsm, u1, u2, u3, cq, cqr, cc, ccr, cd, cdr, z0, z1, z2, z3, z4, z5, z6, z7, z8, z9, z10, z11, z12, z13, z14, z15, z16, z17, z18, z19, z20, z21, z22, z23, z24, z25, z26, z27, z28, z29, z30, z31, z32, z33, z34, z35, z36, z37, z38, z39]; constructor <;> rfl) ?_
  refine WK.run (rest := []) [5, 6] (by simp [cb, cbr, c9, hone, hs0, hs1, hl32, hone2, hs20, hs21, hl2, hw1, hw2, hwr, hi9, hlt, hlnA, hbA, hbAr, hleA, hgeA, hset, cxr, cx, hsm, u1, u2, u3, cq, cqr, cc, ccr, cd, cdr, z0, z1, z2, z3, z4, z5, z6, z7, z8, z9, z10, z11, z12, z13, z14, z15, z16, z17, z18, z19, z20, z21, z22, z23, z24, z25, z26, z27, z28, z29, z30, z31, z32, z33, z34, z35, z36, z37, z38, z39]; constructor <;> rfl) ?_
  refine WK.nil ?_
  refine DK.test rfl rfl (fun h => ?_) (fun h => ?_)
  · try simp only [h]
    replace h := Tr.out h
    refine DK.seq ?_
    refine DK.region (is := [0]) (by kernel_rfl) rfl ?_
    refine WK.run (rest := []) [0] (by simp [cb, cbr, c9, hone, hs0, hs1, hl32, hone2, hs20, hs21, hl2, hw1, hw2, hwr, hi9, hlt, hlnA, hbA, hbAr, hleA, hgeA, hset, cxr, cx, hsm, u1, u2, u3, cq, cqr, cc, ccr, cd, cdr, z0, z1, z2, z3, z4, z5, z6, z7, z8, z9, z10, z11, z12, z13, z14, z15, z16, z17, z18, z19, z20, z21, z22, z23, z24, z25, z26, z27, z28, z29, z30, z31, z32, z33, z34, z35, z36, z37, z38, z39]; constructor <;> rfl) ?_
    refine WK.nil ?_
    refine DK.ret ?_
    refine And.intro (Or.inr rfl) ?_
    refine ⟨_, by simp [absAnswer, absResults, absResult, Tryd.f6]; rfl, ?_⟩
    exact ⟨(hk0.trans hkM).ext, by simp, by simp [u1]⟩
  try simp only [h]
  replace h := Fa.out h
  have h9 : od.kd ≠ 9 := h
  refine DK.skip ?_
  refine DK.seq ?_
  refine DK.region (is := [0, 1, 2]) (by kernel_rfl) rfl ?_
  refine WK.run (rest := [2]) [0, 1] (by simp [cb, cbr, c9, hone, hs0, hs1, hl32, hone2, hs20, hs21, hl2, hw1, hw2, hwr, hi9, hlt, hlnA, hbA, hbAr, hleA, hgeA, hset, cxr, cx, hsm, u1, u2, u3, cq, cqr, cc, ccr, cd, cdr, z0, z1, z2, z3, z4, z5, z6, z7, z8, z9, z10, z11, z12, z13, z14, z15, z16, z17, z18, z19, z20, z21, z22, z23, z24, z25, z26, z27, z28, z29, z30, z31, z32, z33, z34, z35, z36, z37, z38, z39]; constructor <;> rfl) ?_
  refine WK.run (rest := []) [2] (by simp [cb, cbr, c9, hone, hs0, hs1, hl32, hone2, hs20, hs21, hl2, hw1, hw2, hwr, hi9, hlt, hlnA, hbA, hbAr, hleA, hgeA, hset, cxr, cx, hsm, u1, u2, u3, cq, cqr, cc, ccr, cd, cdr, z0, z1, z2, z3, z4, z5, z6, z7, z8, z9, z10, z11, z12, z13, z14, z15, z16, z17, z18, z19, z20, z21, z22, z23, z24, z25, z26, z27, z28, z29, z30, z31, z32, z33, z34, z35, z36, z37, z38, z39]; constructor <;> rfl) ?_
  refine WK.nil ?_
  refine DK.abs (fun M8 => Keep M7 M8 ∧ M8[M7.length]? = some (.cells false (zrb))) ⟨Keep.app _ _, mem_app _ _⟩ ?_
  rintro M8 ⟨hkk, h_cd⟩
  replace cd := h_cd
  replace cb := hkk.cell cb
  replace cq := hkk.cell cq
  replace cc := hkk.cell cc
  replace hBk := hBk.keep hkk
  replace hBk2 := hBk2.keep hkk
  replace hkM := hkM.keep hkk
  refine DK.seq ?_
  refine DK.seq ?_
  refine DK.region (is := [0]) (by kernel_rfl) rfl ?_
  refine WK.run (rest := []) [0] (by simp [cb, cbr, c9, hone, hs0, hs1, hl32, hone2, hs20, hs21, hl2, hw1, hw2, hwr, hi9, hlt, hlnA, hbA, hbAr, hleA, hgeA, hset, cxr, cx, hsm, u1, u2, u3, cq, cqr, cc, ccr, cd, cdr, z0, z1, z2, z3, z4, z5, z6, z7, z8, z9, z10, z11, z12, z13, z14, z15, z16, z17, z18, z19, z20, z21, z22, z23, z24, z25, z26, z27, z28, z29, z30, z31, z32, z33, z34, z35, z36, z37, z38, z39]; constructor <;> rfl) ?_
  refine WK.nil ?_
  refine DK.block ?_
  refine DK.loopFM [6, 15, 67, 68, 69, 70, 71, 72, 73, 74, 75, 76, 77, 78, 79, 80, 81, 82, 83, 84, 85, 86, 87, 88, 89, 90, 91, 92, 93, 94, 95, 96, 97, 98, 99, 100, 101, 102, 103, 104, 105, 106, 107, 108, 109, 110, 111, 112, 113, 114, 115, 116, 117, 118, 119, 120, 121, 122, 123, 124, 125, 126, 127, 128, 129, 130, 131, 132, 133, 134, 135, 136, 137, 138, 139, 140, 141, 142, 143, 144, 145, 146, 147, 148, 149, 150, 151, 152, 153, 154, 155, 156, 157, 158, 159, 160, 161] [15] (fun fl vs => ∃ (i : Int), vs = [.int .i64 i] ∧ 0 ≤ i ∧ i ≤ 32 ∧ fl = (32 - i).toNat) (32) (by kernel_rfl) ?_ ?_
  · refine ⟨_, rfl, ?_⟩
    exact ⟨by omega, by omega, by omega⟩
  rintro fl f2j ⟨i, hv, hf⟩
  obtain ⟨hj0, hj1, hfl⟩ := hf
  clear hwr
  have hwr := True.intro
  clear hi9 hlt
  have hi9 := True.intro
  have hlt := True.intro
  simp only [List.map_cons, List.map_nil, List.cons.injEq, and_true] at hv
  have hv2_0 := hv
  refine DK.from ((setL_S (by decide) _ _).trans (by simp [setS, hv2_0]; exact rfl)) ?_
  refine DK.seq ?_
  refine DK.seq ?_
  refine DK.region (is := [0, 1]) (by kernel_rfl) rfl ?_
  refine WK.run (rest := []) [0, 1] (by simp [cb, cbr, c9, hone, hs0, hs1, hl32, hone2, hs20, hs21, hl2, hw1, hw2, hwr, hi9, hlt, hlnA, hbA, hbAr, hleA, hgeA, hset, cxr, cx, hsm, u1, u2, u3, cq, cqr, cc, ccr, cd, cdr, z0, z1, z2, z3, z4, z5, z6, z7, z8, z9, z10, z11, z12, z13, z14, z15, z16, z17, z18, z19, z20, z21, z22, z23, z24, z25, z26, z27, z28, z29, z30, z31, z32, z33, z34, z35, z36, z37, z38, z39]; constructor <;> rfl) ?_
  refine WK.nil ?_
  refine DK.test rfl rfl (fun h => ?_) (fun h => ?_)
  · try simp only [h]
    replace h := Tr.out h
    replace hi9 : 0 ≤ i := hj0
    replace hlt : i < 32 := h
    have hwr1 : IntKind.i64.wrap (i + 1) = i + 1 := wrap_in _ (by omega) (by omega)
    replace hwr := hwr1
    refine DK.skip ?_
    refine DK.seq ?_
    refine DK.block ?_
    refine DK.meetF [71, 72, 73, 74, 75, 76, 77, 78, 79, 80, 81, 82, 83, 84, 85, 86, 87, 88, 89, 90, 91, 92, 93, 94, 95, 96] [] (fun vs => vs = [] ∧ b2.sub i = b.sub i) ?_ ?_
    · skip
      refine DK.seq ?_
      refine DK.region (is := [0, 1, 2, 3, 4, 5, 6, 7, 8, 9, 10, 11, 12, 13, 14, 15, 16, 17, 18, 19, 20, 21, 22, 23, 24, 25]) (by kernel_rfl) rfl ?_
      refine WK.run (rest := [2, 3, 4, 5, 6, 7, 8, 9, 10, 11, 12, 13, 14, 15, 16, 17, 18, 19, 20, 21, 22, 23, 24, 25]) [0, 1] (by simp [cb, cbr, c9, hone, hs0, hs1, hl32, hone2, hs20, hs21, hl2, hw1, hw2, hwr, hi9, hlt, hlnA, hbA, hbAr, hleA, hgeA, hset, cxr, cx, hsm, u1, u2, u3, cq, cqr, cc, ccr, cd, cdr, z0, z1, z2, z3, z4, z5, z6, z7, z8, z9, z10, z11, z12, z13, z14, z15, z16, z17, z18, z19, z20, z21, z22, z23, z24, z25, z26, z27, z28, z29, z30, z31, z32, z33, z34, z35, z36, z37, z38, z39]; constructor <;> rfl) ?_
      refine WK.run (rest := [4, 5, 6, 7, 8, 9, 10, 11, 12, 13, 14, 15, 16, 17, 18, 19, 20, 21, 22, 23, 24, 25]) [2, 3] (by simp [cb, cbr, c9, hone, hs0, hs1, hl32, hone2, hs20, hs21, hl2, hw1, hw2, hwr, hi9, hlt, hlnA, hbA, hbAr, hleA, hgeA, hset, cxr, cx, hsm, u1, u2, u3, cq, cqr, cc, ccr, cd, cdr, z0, z1, z2, z3, z4, z5, z6, z7, z8, z9, z10, z11, z12, z13, z14, z15, z16, z17, z18, z19, z20, z21, z22, z23, z24, z25, z26, z27, z28, z29, z30, z31, z32, z33, z34, z35, z36, z37, z38, z39]; constructor <;> rfl) ?_
      refine WK.run (rest := [5, 6, 7, 8, 9, 10, 11, 12, 13, 14, 15, 16, 17, 18, 19, 20, 21, 22, 23, 24, 25]) [4] (by simp [cb, cbr, c9, hone, hs0, hs1, hl32, hone2, hs20, hs21, hl2, hw1, hw2, hwr, hi9, hlt, hlnA, hbA, hbAr, hleA, hgeA, hset, cxr, cx, hsm, u1, u2, u3, cq, cqr, cc, ccr, cd, cdr, z0, z1, z2, z3, z4, z5, z6, z7, z8, z9, z10, z11, z12, z13, z14, z15, z16, z17, z18, z19, z20, z21, z22, z23, z24, z25, z26, z27, z28, z29, z30, z31, z32, z33, z34, z35, z36, z37, z38, z39]; constructor <;> rfl) ?_
      refine WK.split (t := 75) rfl (fun h => ?_) (fun h => ?_)
      · try simp only [h]
        replace h := Tr.out h
        refine WK.run (rest := [7, 8, 9, 10, 11, 12, 13, 14, 15, 16, 17, 18, 19, 20, 21, 22, 23, 24, 25]) [5, 6] (by simp [cb, cbr, c9, hone, hs0, hs1, hl32, hone2, hs20, hs21, hl2, hw1, hw2, hwr, hi9, hlt, hlnA, hbA, hbAr, hleA, hgeA, hset, cxr, cx, hsm, u1, u2, u3, cq, cqr, cc, ccr, cd, cdr, z0, z1, z2, z3, z4, z5, z6, z7, z8, z9, z10, z11, z12, z13, z14, z15, z16, z17, z18, z19, z20, z21, z22, z23, z24, z25, z26, z27, z28, z29, z30, z31, z32, z33, z34, z35, z36, z37, z38, z39]; constructor <;> rfl) ?_
        refine WK.run (rest := [9, 10, 11, 12, 13, 14, 15, 16, 17, 18, 19, 20, 21, 22, 23, 24, 25]) [7, 8] (by simp [cb, cbr, c9, hone, hs0, hs1, hl32, hone2, hs20, hs21, hl2, hw1, hw2, hwr, hi9, hlt, hlnA, hbA, hbAr, hleA, hgeA, hset, cxr, cx, hsm, u1, u2, u3, cq, cqr, cc, ccr, cd, cdr, z0, z1, z2, z3, z4, z5, z6, z7, z8, z9, z10, z11, z12, z13, z14, z15, z16, z17, z18, z19, z20, z21, z22, z23, z24, z25, z26, z27, z28, z29, z30, z31, z32, z33, z34, z35, z36, z37, z38, z39]; constructor <;> rfl) ?_
        refine WK.run (rest := [10, 11, 12, 13, 14, 15, 16, 17, 18, 19, 20, 21, 22, 23, 24, 25]) [9] (by simp [cb, cbr, c9, hone, hs0, hs1, hl32, hone2, hs20, hs21, hl2, hw1, hw2, hwr, hi9, hlt, hlnA, hbA, hbAr, hleA, hgeA, hset, cxr, cx, hsm, u1, u2, u3, cq, cqr, cc, ccr, cd, cdr, z0, z1, z2, z3, z4, z5, z6, z7, z8, z9, z10, z11, z12, z13, z14, z15, z16, z17, z18, z19, z20, z21, z22, z23, z24, z25, z26, z27, z28, z29, z30, z31, z32, z33, z34, z35, z36, z37, z38, z39]; constructor <;> rfl) ?_
        refine WK.split (t := 80) rfl (fun h => ?_) (fun h => ?_)
        · try simp only [h]
          replace h := Tr.out h
          refine WK.run (rest := [12, 13, 14, 15, 16, 17, 18, 19, 20, 21, 22, 23, 24, 25]) [10, 11] (by simp [cb, cbr, c9, hone, hs0, hs1, hl32, hone2, hs20, hs21, hl2, hw1, hw2, hwr, hi9, hlt, hlnA, hbA, hbAr, hleA, hgeA, hset, cxr, cx, hsm, u1, u2, u3, cq, cqr, cc, ccr, cd, cdr, z0, z1, z2, z3, z4, z5, z6, z7, z8, z9, z10, z11, z12, z13, z14, z15, z16, z17, z18, z19, z20, z21, z22, z23, z24, z25, z26, z27, z28, z29, z30, z31, z32, z33, z34, z35, z36, z37, z38, z39]; constructor <;> rfl) ?_
          refine WK.run (rest := [14, 15, 16, 17, 18, 19, 20, 21, 22, 23, 24, 25]) [12, 13] (by simp [cb, cbr, c9, hone, hs0, hs1, hl32, hone2, hs20, hs21, hl2, hw1, hw2, hwr, hi9, hlt, hlnA, hbA, hbAr, hleA, hgeA, hset, cxr, cx, hsm, u1, u2, u3, cq, cqr, cc, ccr, cd, cdr, z0, z1, z2, z3, z4, z5, z6, z7, z8, z9, z10, z11, z12, z13, z14, z15, z16, z17, z18, z19, z20, z21, z22, z23, z24, z25, z26, z27, z28, z29, z30, z31, z32, z33, z34, z35, z36, z37, z38, z39]; constructor <;> rfl) ?_
          refine WK.run (rest := [15, 16, 17, 18, 19, 20, 21, 22, 23, 24, 25]) [14] (by simp [cb, cbr, c9, hone, hs0, hs1, hl32, hone2, hs20, hs21, hl2, hw1, hw2, hwr, hi9, hlt, hlnA, hbA, hbAr, hleA, hgeA, hset, cxr, cx, hsm, u1, u2, u3, cq, cqr, cc, ccr, cd, cdr, z0, z1, z2, z3, z4, z5, z6, z7, z8, z9, z10, z11, z12, z13, z14, z15, z16, z17, z18, z19, z20, z21, z22, z23, z24, z25, z26, z27, z28, z29, z30, z31, z32, z33, z34, z35, z36, z37, z38, z39]; constructor <;> rfl) ?_
          refine WK.split (t := 85) rfl (fun h => ?_) (fun h => ?_)
          · try simp only [h]
            replace h := Tr.out h
            refine WK.run (rest := [17, 18, 19, 20, 21, 22, 23, 24, 25]) [15, 16] (by simp [cb, cbr, c9, hone, hs0, hs1, hl32, hone2, hs20, hs21, hl2, hw1, hw2, hwr, hi9, hlt, hlnA, hbA, hbAr, hleA, hgeA, hset, cxr, cx, hsm, u1, u2, u3, cq, cqr, cc, ccr, cd, cdr, z0, z1, z2, z3, z4, z5, z6, z7, z8, z9, z10, z11, z12, z13, z14, z15, z16, z17, z18, z19, z20, z21, z22, z23, z24, z25, z26, z27, z28, z29, z30, z31, z32, z33, z34, z35, z36, z37, z38, z39]; constructor <;> rfl) ?_
            refine WK.run (rest := [19, 20, 21, 22, 23, 24, 25]) [17, 18] (by simp [cb, cbr, c9, hone, hs0, hs1, hl32, hone2, hs20, hs21, hl2, hw1, hw2, hwr, hi9, hlt, hlnA, hbA, hbAr, hleA, hgeA, hset, cxr, cx, hsm, u1, u2, u3, cq, cqr, cc, ccr, cd, cdr, z0, z1, z2, z3, z4, z5, z6, z7, z8, z9, z10, z11, z12, z13, z14, z15, z16, z17, z18, z19, z20, z21, z22, z23, z24, z25, z26, z27, z28, z29, z30, z31, z32, z33, z34, z35, z36, z37, z38, z39]; constructor <;> rfl) ?_
            refine WK.run (rest := [21, 22, 23, 24, 25]) [19, 20] (by simp [cb, cbr, c9, hone, hs0, hs1, hl32, hone2, hs20, hs21, hl2, hw1, hw2, hwr, hi9, hlt, hlnA, hbA, hbAr, hleA, hgeA, hset, cxr, cx, hsm, u1, u2, u3, cq, cqr, cc, ccr, cd, cdr, z0, z1, z2, z3, z4, z5, z6, z7, z8, z9, z10, z11, z12, z13, z14, z15, z16, z17, z18, z19, z20, z21, z22, z23, z24, z25, z26, z27, z28, z29, z30, z31, z32, z33, z34, z35, z36, z37, z38, z39]; constructor <;> rfl) ?_
            refine WK.run (rest := [23, 24, 25]) [21, 22] (by simp [cb, cbr, c9, hone, hs0, hs1, hl32, hone2, hs20, hs21, hl2, hw1, hw2, hwr, hi9, hlt, hlnA, hbA, hbAr, hleA, hgeA, hset, cxr, cx, hsm, u1, u2, u3, cq, cqr, cc, ccr, cd, cdr, z0, z1, z2, z3, z4, z5, z6, z7, z8, z9, z10, z11, z12, z13, z14, z15, z16, z17, z18, z19, z20, z21, z22, z23, z24, z25, z26, z27, z28, z29, z30, z31, z32, z33, z34, z35, z36, z37, z38, z39]; constructor <;> rfl) ?_
            refine WK.run (rest := [25]) [23, 24] (by simp [cb, cbr, c9, hone, hs0, hs1, hl32, hone2, hs20, hs21, hl2, hw1, hw2, hwr, hi9, hlt, hlnA, hbA, hbAr, hleA, hgeA, hset, cxr, cx, hsm, u1, u2, u3, cq, cqr, cc, ccr, cd, cdr, z0, z1, z2, z3, z4, z5, z6, z7, z8, z9, z10, z11, z12, z13, z14, z15, z16, z17, z18, z19, z20, z21, z22, z23, z24, z25, z26, z27, z28, z29, z30, z31, z32, z33, z34, z35, z36, z37, z38, z39]; constructor <;> rfl) ?_
            refine WK.run (rest := []) [25] (by simp [cb, cbr, c9, hone, hs0, hs1, hl32, hone2, hs20, hs21, hl2, hw1, hw2, hwr, hi9, hlt, hlnA, hbA, hbAr, hleA, hgeA, hset, cxr, cx, hsm, u1, u2, u3, cq, cqr, cc, ccr, cd, cdr, z0, z1, z2, z3, z4, z5, z6, z7, z8, z9, z10, z11, z12, z13, z14, z15, z16, z17, z18, z19, z20, z21, z22, z23, z24, z25, z26, z27, z28, z29, z30, z31, z32, z33, z34, z35, z36, z37, z38, z39]; constructor <;> rfl) ?_
            refine WK.nil ?_
            refine DK.yes rfl rfl ?_
            refine DK.exit ?_
            refine DK.region (is := [0, 1, 2]) (by kernel_rfl) rfl ?_
            refine WK.run (rest := [2]) [0, 1] (by simp [cb, cbr, c9, hone, hs0, hs1, hl32, hone2, hs20, hs21, hl2, hw1, hw2, hwr, hi9, hlt, hlnA, hbA, hbAr, hleA, hgeA, hset, cxr, cx, hsm, u1, u2, u3, cq, cqr, cc, ccr, cd, cdr, z0, z1, z2, z3, z4, z5, z6, z7, z8, z9, z10, z11, z12, z13, z14, z15, z16, z17, z18, z19, z20, z21, z22, z23, z24, z25, z26, z27, z28, z29, z30, z31, z32, z33, z34, z35, z36, z37, z38, z39]; constructor <;> rfl) ?_
            refine WK.run (rest := []) [2] (by simp [cb, cbr, c9, hone, hs0, hs1, hl32, hone2, hs20, hs21, hl2, hw1, hw2, hwr, hi9, hlt, hlnA, hbA, hbAr, hleA, hgeA, hset, cxr, cx, hsm, u1, u2, u3, cq, cqr, cc, ccr, cd, cdr, z0, z1, z2, z3, z4, z5, z6, z7, z8, z9, z10, z11, z12, z13, z14, z15, z16, z17, z18, z19, z20, z21, z22, z23, z24, z25, z26, z27, z28, z29, z30, z31, z32, z33, z34, z35, z36, z37, z38, z39]; constructor <;> rfl) ?_
            refine WK.nil ?_
            refine ⟨by kernel_rfl, rfl, (32 - (i + 1)).toNat, ?_, _, rfl, ?_⟩
            · omega
            · exact ⟨by omega, by omega, rfl⟩
          try simp only [h]
          replace h := Fa.out h
          refine WK.run (rest := [17, 18, 19, 20, 21, 22, 23, 24, 25]) [15, 16] (by simp [cb, cbr, c9, hone, hs0, hs1, hl32, hone2, hs20, hs21, hl2, hw1, hw2, hwr, hi9, hlt, hlnA, hbA, hbAr, hleA, hgeA, hset, cxr, cx, hsm, u1, u2, u3, cq, cqr, cc, ccr, cd, cdr, z0, z1, z2, z3, z4, z5, z6, z7, z8, z9, z10, z11, z12, z13, z14, z15, z16, z17, z18, z19, z20, z21, z22, z23, z24, z25, z26, z27, z28, z29, z30, z31, z32, z33, z34, z35, z36, z37, z38, z39]; constructor <;> rfl) ?_
          refine WK.run (rest := [19, 20, 21, 22, 23, 24, 25]) [17, 18] (by simp [cb, cbr, c9, hone, hs0, hs1, hl32, hone2, hs20, hs21, hl2, hw1, hw2, hwr, hi9, hlt, hlnA, hbA, hbAr, hleA, hgeA, hset, cxr, cx, hsm, u1, u2, u3, cq, cqr, cc, ccr, cd, cdr, z0, z1, z2, z3, z4, z5, z6, z7, z8, z9, z10, z11, z12, z13, z14, z15, z16, z17, z18, z19, z20, z21, z22, z23, z24, z25, z26, z27, z28, z29, z30, z31, z32, z33, z34, z35, z36, z37, z38, z39]; constructor <;> rfl) ?_
          refine WK.run (rest := [21, 22, 23, 24, 25]) [19, 20] (by simp [cb, cbr, c9, hone, hs0, hs1, hl32, hone2, hs20, hs21, hl2, hw1, hw2, hwr, hi9, hlt, hlnA, hbA, hbAr, hleA, hgeA, hset, cxr, cx, hsm, u1, u2, u3, cq, cqr, cc, ccr, cd, cdr, z0, z1, z2, z3, z4, z5, z6, z7, z8, z9, z10, z11, z12, z13, z14, z15, z16, z17, z18, z19, z20, z21, z22, z23, z24, z25, z26, z27, z28, z29, z30, z31, z32, z33, z34, z35, z36, z37, z38, z39]; constructor <;> rfl) ?_
          refine WK.split (t := 91) rfl (fun h => ?_) (fun h => ?_)
          · try simp only [h]
            replace h := Tr.out h
            refine WK.run (rest := [23, 24, 25]) [21, 22] (by simp [cb, cbr, c9, hone, hs0, hs1, hl32, hone2, hs20, hs21, hl2, hw1, hw2, hwr, hi9, hlt, hlnA, hbA, hbAr, hleA, hgeA, hset, cxr, cx, hsm, u1, u2, u3, cq, cqr, cc, ccr, cd, cdr, z0, z1, z2, z3, z4, z5, z6, z7, z8, z9, z10, z11, z12, z13, z14, z15, z16, z17, z18, z19, z20, z21, z22, z23, z24, z25, z26, z27, z28, z29, z30, z31, z32, z33, z34, z35, z36, z37, z38, z39]; constructor <;> rfl) ?_
            refine WK.run (rest := [25]) [23, 24] (by simp [cb, cbr, c9, hone, hs0, hs1, hl32, hone2, hs20, hs21, hl2, hw1, hw2, hwr, hi9, hlt, hlnA, hbA, hbAr, hleA, hgeA, hset, cxr, cx, hsm, u1, u2, u3, cq, cqr, cc, ccr, cd, cdr, z0, z1, z2, z3, z4, z5, z6, z7, z8, z9, z10, z11, z12, z13, z14, z15, z16, z17, z18, z19, z20, z21, z22, z23, z24, z25, z26, z27, z28, z29, z30, z31, z32, z33, z34, z35, z36, z37, z38, z39]; constructor <;> rfl) ?_
            refine WK.run (rest := []) [25] (by simp [cb, cbr, c9, hone, hs0, hs1, hl32, hone2, hs20, hs21, hl2, hw1, hw2, hwr, hi9, hlt, hlnA, hbA, hbAr, hleA, hgeA, hset, cxr, cx, hsm, u1, u2, u3, cq, cqr, cc, ccr, cd, cdr, z0, z1, z2, z3, z4, z5, z6, z7, z8, z9, z10, z11, z12, z13, z14, z15, z16, z17, z18, z19, z20, z21, z22, z23, z24, z25, z26, z27, z28, z29, z30, z31, z32, z33, z34, z35, z36, z37, z38, z39]; constructor <;> rfl) ?_
            refine WK.nil ?_
            refine DK.test rfl rfl (fun h => ?_) (fun h => ?_)
            · try simp only [h]
              replace h := Tr.out h
              refine DK.exit ?_
              refine DK.region (is := [0, 1, 2]) (by kernel_rfl) rfl ?_
              refine WK.run (rest := [2]) [0, 1] (by simp [cb, cbr, c9, hone, hs0, hs1, hl32, hone2, hs20, hs21, hl2, hw1, hw2, hwr, hi9, hlt, hlnA, hbA, hbAr, hleA, hgeA, hset, cxr, cx, hsm, u1, u2, u3, cq, cqr, cc, ccr, cd, cdr, z0, z1, z2, z3, z4, z5, z6, z7, z8, z9, z10, z11, z12, z13, z14, z15, z16, z17, z18, z19, z20, z21, z22, z23, z24, z25, z26, z27, z28, z29, z30, z31, z32, z33, z34, z35, z36, z37, z38, z39]; constructor <;> rfl) ?_
              refine WK.run (rest := []) [2] (by simp [cb, cbr, c9, hone, hs0, hs1, hl32, hone2, hs20, hs21, hl2, hw1, hw2, hwr, hi9, hlt, hlnA, hbA, hbAr, hleA, hgeA, hset, cxr, cx, hsm, u1, u2, u3, cq, cqr, cc, ccr, cd, cdr, z0, z1, z2, z3, z4, z5, z6, z7, z8, z9, z10, z11, z12, z13, z14, z15, z16, z17, z18, z19, z20, z21, z22, z23, z24, z25, z26, z27, z28, z29, z30, z31, z32, z33, z34, z35, z36, z37, z38, z39]; constructor <;> rfl) ?_
              refine WK.nil ?_
              refine ⟨by kernel_rfl, rfl, (32 - (i + 1)).toNat, ?_, _, rfl, ?_⟩
              · omega
              · exact ⟨by omega, by omega, rfl⟩
            try simp only [h]
            replace h := Fa.out h
            refine DK.skip ?_
            refine ⟨by kernel_rfl, rfl, rfl, ?_⟩
            have hstep : (stepB b od).2 = 0 := by rw [hst]; exact he2
            have hoth := stepB_others hstep h9
            rw [hst] at hoth
            exact hoth.2 i (by omega) (by omega) (by omega)
          try simp only [h]
          replace h := Fa.out h
          refine WK.run (rest := [23, 24, 25]) [21, 22] (by simp [cb, cbr, c9, hone, hs0, hs1, hl32, hone2, hs20, hs21, hl2, hw1, hw2, hwr, hi9, hlt, hlnA, hbA, hbAr, hleA, hgeA, hset, cxr, cx, hsm, u1, u2, u3, cq, cqr, cc, ccr, cd, cdr, z0, z1, z2, z3, z4, z5, z6, z7, z8, z9, z10, z11, z12, z13, z14, z15, z16, z17, z18, z19, z20, z21, z22, z23, z24, z25, z26, z27, z28, z29, z30, z31, z32, z33, z34, z35, z36, z37, z38, z39]; constructor <;> rfl) ?_
          refine WK.run (rest := [25]) [23, 24] (by simp [cb, cbr, c9, hone, hs0, hs1, hl32, hone2, hs20, hs21, hl2, hw1, hw2, hwr, hi9, hlt, hlnA, hbA, hbAr, hleA, hgeA, hset, cxr, cx, hsm, u1, u2, u3, cq, cqr, cc, ccr, cd, cdr, z0, z1, z2, z3, z4, z5, z6, z7, z8, z9, z10, z11, z12, z13, z14, z15, z16, z17, z18, z19, z20, z21, z22, z23, z24, z25, z26, z27, z28, z29, z30, z31, z32, z33, z34, z35, z36, z37, z38, z39]; constructor <;> rfl) ?_
          refine WK.run (rest := []) [25] (by simp [cb, cbr, c9, hone, hs0, hs1, hl32, hone2, hs20, hs21, hl2, hw1, hw2, hwr, hi9, hlt, hlnA, hbA, hbAr, hleA, hgeA, hset, cxr, cx, hsm, u1, u2, u3, cq, cqr, cc, ccr, cd, cdr, z0, z1, z2, z3, z4, z5, z6, z7, z8, z9, z10, z11, z12, z13, z14, z15, z16, z17, z18, z19, z20, z21, z22, z23, z24, z25, z26, z27, z28, z29, z30, z31, z32, z33, z34, z35, z36, z37, z38, z39]; constructor <;> rfl) ?_
          refine WK.nil ?_
          refine DK.no rfl rfl ?_
          refine DK.skip ?_
          refine ⟨by kernel_rfl, rfl, rfl, ?_⟩
          have hstep : (stepB b od).2 = 0 := by rw [hst]; exact he2
          have hoth := stepB_others hstep h9
          rw [hst] at hoth
          exact hoth.2 i (by omega) (by omega) (by omega)
        try simp only [h]
        replace h := Fa.out h
        refine WK.run (rest := [12, 13, 14, 15, 16, 17, 18, 19, 20, 21, 22, 23, 24, 25]) [10, 11] (by simp [cb, cbr, c9, hone, hs0, hs1, hl32, hone2, hs20, hs21, hl2, hw1, hw2, hwr, hi9, hlt, hlnA, hbA, hbAr, hleA, hgeA, hset, cxr, cx, hsm, u1, u2, u3, cq, cqr, cc, ccr, cd, cdr, z0, z1, z2, z3, z4, z5, z6, z7, z8, z9, z10, z11, z12, z13, z14, z15, z16, z17, z18, z19, z20, z21, z22, z23, z24, z25, z26, z27, z28, z29, z30, z31, z32, z33, z34, z35, z36, z37, z38, z39]; constructor <;> rfl) ?_
        refine WK.run (rest := [14, 15, 16, 17, 18, 19, 20, 21, 22, 23, 24, 25]) [12, 13] (by simp [cb, cbr, c9, hone, hs0, hs1, hl32, hone2, hs20, hs21, hl2, hw1, hw2, hwr, hi9, hlt, hlnA, hbA, hbAr, hleA, hgeA, hset, cxr, cx, hsm, u1, u2, u3, cq, cqr, cc, ccr, cd, cdr, z0, z1, z2, z3, z4, z5, z6, z7, z8, z9, z10, z11, z12, z13, z14, z15, z16, z17, z18, z19, z20, z21, z22, z23, z24, z25, z26, z27, z28, z29, z30, z31, z32, z33, z34, z35, z36, z37, z38, z39]; constructor <;> rfl) ?_
        refine WK.run (rest := [16, 17, 18, 19, 20, 21, 22, 23, 24, 25]) [14, 15] (by simp [cb, cbr, c9, hone, hs0, hs1, hl32, hone2, hs20, hs21, hl2, hw1, hw2, hwr, hi9, hlt, hlnA, hbA, hbAr, hleA, hgeA, hset, cxr, cx, hsm, u1, u2, u3, cq, cqr, cc, ccr, cd, cdr, z0, z1, z2, z3, z4, z5, z6, z7, z8, z9, z10, z11, z12, z13, z14, z15, z16, z17, z18, z19, z20, z21, z22, z23, z24, z25, z26, z27, z28, z29, z30, z31, z32, z33, z34, z35, z36, z37, z38, z39]; constructor <;> rfl) ?_
        refine WK.run (rest := [18, 19, 20, 21, 22, 23, 24, 25]) [16, 17] (by simp [cb, cbr, c9, hone, hs0, hs1, hl32, hone2, hs20, hs21, hl2, hw1, hw2, hwr, hi9, hlt, hlnA, hbA, hbAr, hleA, hgeA, hset, cxr, cx, hsm, u1, u2, u3, cq, cqr, cc, ccr, cd, cdr, z0, z1, z2, z3, z4, z5, z6, z7, z8, z9, z10, z11, z12, z13, z14, z15, z16, z17, z18, z19, z20, z21, z22, z23, z24, z25, z26, z27, z28, z29, z30, z31, z32, z33, z34, z35, z36, z37, z38, z39]; constructor <;> rfl) ?_
        refine WK.run (rest := [20, 21, 22, 23, 24, 25]) [18, 19] (by simp [cb, cbr, c9, hone, hs0, hs1, hl32, hone2, hs20, hs21, hl2, hw1, hw2, hwr, hi9, hlt, hlnA, hbA, hbAr, hleA, hgeA, hset, cxr, cx, hsm, u1, u2, u3, cq, cqr, cc, ccr, cd, cdr, z0, z1, z2, z3, z4, z5, z6, z7, z8, z9, z10, z11, z12, z13, z14, z15, z16, z17, z18, z19, z20, z21, z22, z23, z24, z25, z26, z27, z28, z29, z30, z31, z32, z33, z34, z35, z36, z37, z38, z39]; constructor <;> rfl) ?_
        refine WK.run (rest := [21, 22, 23, 24, 25]) [20] (by simp [cb, cbr, c9, hone, hs0, hs1, hl32, hone2, hs20, hs21, hl2, hw1, hw2, hwr, hi9, hlt, hlnA, hbA, hbAr, hleA, hgeA, hset, cxr, cx, hsm, u1, u2, u3, cq, cqr, cc, ccr, cd, cdr, z0, z1, z2, z3, z4, z5, z6, z7, z8, z9, z10, z11, z12, z13, z14, z15, z16, z17, z18, z19, z20, z21, z22, z23, z24, z25, z26, z27, z28, z29, z30, z31, z32, z33, z34, z35, z36, z37, z38, z39]; constructor <;> rfl) ?_
        refine WK.split (t := 91) rfl (fun h => ?_) (fun h => ?_)
        · try simp only [h]
          replace h := Tr.out h
          refine WK.run (rest := [23, 24, 25]) [21, 22] (by simp [cb, cbr, c9, hone, hs0, hs1, hl32, hone2, hs20, hs21, hl2, hw1, hw2, hwr, hi9, hlt, hlnA, hbA, hbAr, hleA, hgeA, hset, cxr, cx, hsm, u1, u2, u3, cq, cqr, cc, ccr, cd, cdr, z0, z1, z2, z3, z4, z5, z6, z7, z8, z9, z10, z11, z12, z13, z14, z15, z16, z17, z18, z19, z20, z21, z22, z23, z24, z25, z26, z27, z28, z29, z30, z31, z32, z33, z34, z35, z36, z37, z38, z39]; constructor <;> rfl) ?_
          refine WK.run (rest := [25]) [23, 24] (by simp [cb, cbr, c9, hone, hs0, hs1, hl32, hone2, hs20, hs21, hl2, hw1, hw2, hwr, hi9, hlt, hlnA, hbA, hbAr, hleA, hgeA, hset, cxr, cx, hsm, u1, u2, u3, cq, cqr, cc, ccr, cd, cdr, z0, z1, z2, z3, z4, z5, z6, z7, z8, z9, z10, z11, z12, z13, z14, z15, z16, z17, z18, z19, z20, z21, z22, z23, z24, z25, z26, z27, z28, z29, z30, z31, z32, z33, z34, z35, z36, z37, z38, z39]; constructor <;> rfl) ?_
          refine WK.run (rest := []) [25] (by simp [cb, cbr, c9, hone, hs0, hs1, hl32, hone2, hs20, hs21, hl2, hw1, hw2, hwr, hi9, hlt, hlnA, hbA, hbAr, hleA, hgeA, hset, cxr, cx, hsm, u1, u2, u3, cq, cqr, cc, ccr, cd, cdr, z0, z1, z2, z3, z4, z5, z6, z7, z8, z9, z10, z11, z12, z13, z14, z15, z16, z17, z18, z19, z20, z21, z22, z23, z24, z25, z26, z27, z28, z29, z30, z31, z32, z33, z34, z35, z36, z37, z38, z39]; constructor <;> rfl) ?_
          refine WK.nil ?_
          refine DK.test rfl rfl (fun h => ?_) (fun h => ?_)
          · try simp only [h]
            replace h := Tr.out h
            refine DK.exit ?_
            refine DK.region (is := [0, 1, 2]) (by kernel_rfl) rfl ?_
            refine WK.run (rest := [2]) [0, 1] (by simp [cb, cbr, c9, hone, hs0, hs1, hl32, hone2, hs20, hs21, hl2, hw1, hw2, hwr, hi9, hlt, hlnA, hbA, hbAr, hleA, hgeA, hset, cxr, cx, hsm, u1, u2, u3, cq, cqr, cc, ccr, cd, cdr, z0, z1, z2, z3, z4, z5, z6, z7, z8, z9, z10, z11, z12, z13, z14, z15, z16, z17, z18, z19, z20, z21, z22, z23, z24, z25, z26, z27, z28, z29, z30, z31, z32, z33, z34, z35, z36, z37, z38, z39]; constructor <;> rfl) ?_
            refine WK.run (rest := []) [2] (by simp [cb, cbr, c9, hone, hs0, hs1, hl32, hone2, hs20, hs21, hl2, hw1, hw2, hwr, hi9, hlt, hlnA, hbA, hbAr, hleA, hgeA, hset, cxr, cx, hsm, u1, u2, u3, cq, cqr, cc, ccr, cd, cdr, z0, z1, z2, z3, z4, z5, z6, z7, z8, z9, z10, z11, z12, z13, z14, z15, z16, z17, z18, z19, z20, z21, z22, z23, z24, z25, z26, z27, z28, z29, z30, z31, z32, z33, z34, z35, z36, z37, z38, z39]; constructor <;> rfl) ?_
            refine WK.nil ?_
            refine ⟨by kernel_rfl, rfl, (32 - (i + 1)).toNat, ?_, _, rfl, ?_⟩
            · omega
            · exact ⟨by omega, by omega, rfl⟩
          try simp only [h]
          replace h := Fa.out h
          refine DK.skip ?_
          refine ⟨by kernel_rfl, rfl, rfl, ?_⟩
          have hstep : (stepB b od).2 = 0 := by rw [hst]; exact he2
          have hoth := stepB_others hstep h9
          rw [hst] at hoth
          exact hoth.2 i (by omega) (by omega) (by omega)
        try simp only [h]
        replace h := Fa.out h
        refine WK.run (rest := [23, 24, 25]) [21, 22] (by simp [cb, cbr, c9, hone, hs0, hs1, hl32, hone2, hs20, hs21, hl2, hw1, hw2, hwr, hi9, hlt, hlnA, hbA, hbAr, hleA, hgeA, hset, cxr, cx, hsm, u1, u2, u3, cq, cqr, cc, ccr, cd, cdr, z0, z1, z2, z3, z4, z5, z6, z7, z8, z9, z10, z11, z12, z13, z14, z15, z16, z17, z18, z19, z20, z21, z22, z23, z24, z25, z26, z27, z28, z29, z30, z31, z32, z33, z34, z35, z36, z37, z38, z39]; constructor <;> rfl) ?_
        refine WK.run (rest := [25]) [23, 24] (by simp [cb, cbr, c9, hone, hs0, hs1, hl32, hone2, hs20, hs21, hl2, hw1, hw2, hwr, hi9, hlt, hlnA, hbA, hbAr, hleA, hgeA, hset, cxr, cx, hsm, u1, u2, u3, cq, cqr, cc, ccr, cd, cdr, z0, z1, z2, z3, z4, z5, z6, z7, z8, z9, z10, z11, z12, z13, z14, z15, z16, z17, z18, z19, z20, z21, z22, z23, z24, z25, z26, z27, z28, z29, z30, z31, z32, z33, z34, z35, z36, z37, z38, z39]; constructor <;> rfl) ?_
        refine WK.run (rest := []) [25] (by simp [cb, cbr, c9, hone, hs0, hs1, hl32, hone2, hs20, hs21, hl2, hw1, hw2, hwr, hi9, hlt, hlnA, hbA, hbAr, hleA, hgeA, hset, cxr, cx, hsm, u1, u2, u3, cq, cqr, cc, ccr, cd, cdr, z0, z1, z2, z3, z4, z5, z6, z7, z8, z9, z10, z11, z12, z13, z14, z15, z16, z17, z18, z19, z20, z21, z22, z23, z24, z25, z26, z27, z28, z29, z30, z31, z32, z33, z34, z35, z36, z37, z38, z39]; constructor <;> rfl) ?_
        refine WK.nil ?_
        refine DK.no rfl rfl ?_
        refine DK.skip ?_
        refine ⟨by kernel_rfl, rfl, rfl, ?_⟩
        have hstep : (stepB b od).2 = 0 := by rw [hst]; exact he2
        have hoth := stepB_others hstep h9
        rw [hst] at hoth
        exact hoth.2 i (by omega) (by omega) (by omega)
      try simp only [h]
      replace h := Fa.out h
      refine WK.run (rest := [7, 8, 9, 10, 11, 12, 13, 14, 15, 16, 17, 18, 19, 20, 21, 22, 23, 24, 25]) [5, 6] (by simp [cb, cbr, c9, hone, hs0, hs1, hl32, hone2, hs20, hs21, hl2, hw1, hw2, hwr, hi9, hlt, hlnA, hbA, hbAr, hleA, hgeA, hset, cxr, cx, hsm, u1, u2, u3, cq, cqr, cc, ccr, cd, cdr, z0, z1, z2, z3, z4, z5, z6, z7, z8, z9, z10, z11, z12, z13, z14, z15, z16, z17, z18, z19, z20, z21, z22, z23, z24, z25, z26, z27, z28, z29, z30, z31, z32, z33, z34, z35, z36, z37, z38, z39]; constructor <;> rfl) ?_
      refine WK.run (rest := [9, 10, 11, 12, 13, 14, 15, 16, 17, 18, 19, 20, 21, 22, 23, 24, 25]) [7, 8] (by simp [cb, cbr, c9, hone, hs0, hs1, hl32, hone2, hs20, hs21, hl2, hw1, hw2, hwr, hi9, hlt, hlnA, hbA, hbAr, hleA, hgeA, hset, cxr, cx, hsm, u1, u2, u3, cq, cqr, cc, ccr, cd, cdr, z0, z1, z2, z3, z4, z5, z6, z7, z8, z9, z10, z11, z12, z13, z14, z15, z16, z17, z18, z19, z20, z21, z22, z23, z24, z25, z26, z27, z28, z29, z30, z31, z32, z33, z34, z35, z36, z37, z38, z39]; constructor <;> rfl) ?_
      refine WK.run (rest := [11, 12, 13, 14, 15, 16, 17, 18, 19, 20, 21, 22, 23, 24, 25]) [9, 10] (by simp [cb, cbr, c9, hone, hs0, hs1, hl32, hone2, hs20, hs21, hl2, hw1, hw2, hwr, hi9, hlt, hlnA, hbA, hbAr, hleA, hgeA, hset, cxr, cx, hsm, u1, u2, u3, cq, cqr, cc, ccr, cd, cdr, z0, z1, z2, z3, z4, z5, z6, z7, z8, z9, z10, z11, z12, z13, z14, z15, z16, z17, z18, z19, z20, z21, z22, z23, z24, z25, z26, z27, z28, z29, z30, z31, z32, z33, z34, z35, z36, z37, z38, z39]; constructor <;> rfl) ?_
      refine WK.run (rest := [13, 14, 15, 16, 17, 18, 19, 20, 21, 22, 23, 24, 25]) [11, 12] (by simp [cb, cbr, c9, hone, hs0, hs1, hl32, hone2, hs20, hs21, hl2, hw1, hw2, hwr, hi9, hlt, hlnA, hbA, hbAr, hleA, hgeA, hset, cxr, cx, hsm, u1, u2, u3, cq, cqr, cc, ccr, cd, cdr, z0, z1, z2, z3, z4, z5, z6, z7, z8, z9, z10, z11, z12, z13, z14, z15, z16, z17, z18, z19, z20, z21, z22, z23, z24, z25, z26, z27, z28, z29, z30, z31, z32, z33, z34, z35, z36, z37, z38, z39]; constructor <;> rfl) ?_
      refine WK.run (rest := [15, 16, 17, 18, 19, 20, 21, 22, 23, 24, 25]) [13, 14] (by simp [cb, cbr, c9, hone, hs0, hs1, hl32, hone2, hs20, hs21, hl2, hw1, hw2, hwr, hi9, hlt, hlnA, hbA, hbAr, hleA, hgeA, hset, cxr, cx, hsm, u1, u2, u3, cq, cqr, cc, ccr, cd, cdr, z0, z1, z2, z3, z4, z5, z6, z7, z8, z9, z10, z11, z12, z13, z14, z15, z16, z17, z18, z19, z20, z21, z22, z23, z24, z25, z26, z27, z28, z29, z30, z31, z32, z33, z34, z35, z36, z37, z38, z39]; constructor <;> rfl) ?_
      refine WK.run (rest := [17, 18, 19, 20, 21, 22, 23, 24, 25]) [15, 16] (by simp [cb, cbr, c9, hone, hs0, hs1, hl32, hone2, hs20, hs21, hl2, hw1, hw2, hwr, hi9, hlt, hlnA, hbA, hbAr, hleA, hgeA, hset, cxr, cx, hsm, u1, u2, u3, cq, cqr, cc, ccr, cd, cdr, z0, z1, z2, z3, z4, z5, z6, z7, z8, z9, z10, z11, z12, z13, z14, z15, z16, z17, z18, z19, z20, z21, z22, z23, z24, z25, z26, z27, z28, z29, z30, z31, z32, z33, z34, z35, z36, z37, z38, z39]; constructor <;> rfl) ?_
      refine WK.run (rest := [19, 20, 21, 22, 23, 24, 25]) [17, 18] (by simp [cb, cbr, c9, hone, hs0, hs1, hl32, hone2, hs20, hs21, hl2, hw1, hw2, hwr, hi9, hlt, hlnA, hbA, hbAr, hleA, hgeA, hset, cxr, cx, hsm, u1, u2, u3, cq, cqr, cc, ccr, cd, cdr, z0, z1, z2, z3, z4, z5, z6, z7, z8, z9, z10, z11, z12, z13, z14, z15, z16, z17, z18, z19, z20, z21, z22, z23, z24, z25, z26, z27, z28, z29, z30, z31, z32, z33, z34, z35, z36, z37, z38, z39]; constructor <;> rfl) ?_
      refine WK.run (rest := [21, 22, 23, 24, 25]) [19, 20] (by simp [cb, cbr, c9, hone, hs0, hs1, hl32, hone2, hs20, hs21, hl2, hw1, hw2, hwr, hi9, hlt, hlnA, hbA, hbAr, hleA, hgeA, hset, cxr, cx, hsm, u1, u2, u3, cq, cqr, cc, ccr, cd, cdr, z0, z1, z2, z3, z4, z5, z6, z7, z8, z9, z10, z11, z12, z13, z14, z15, z16, z17, z18, z19, z20, z21, z22, z23, z24, z25, z26, z27, z28, z29, z30, z31, z32, z33, z34, z35, z36, z37, z38, z39]; constructor <;> rfl) ?_
      refine WK.split (t := 91) rfl (fun h => ?_) (fun h => ?_)
      · try simp only [h]
        replace h := Tr.out h
        refine WK.run (rest := [23, 24, 25]) [21, 22] (by simp [cb, cbr, c9, hone, hs0, hs1, hl32, hone2, hs20, hs21, hl2, hw1, hw2, hwr, hi9, hlt, hlnA, hbA, hbAr, hleA, hgeA, hset, cxr, cx, hsm, u1, u2, u3, cq, cqr, cc, ccr, cd, cdr, z0, z1, z2, z3, z4, z5, z6, z7, z8, z9, z10, z11, z12, z13, z14, z15, z16, z17, z18, z19, z20, z21, z22, z23, z24, z25, z26, z27, z28, z29, z30, z31, z32, z33, z34, z35, z36, z37, z38, z39]; constructor <;> rfl) ?_
        refine WK.run (rest := [25]) [23, 24] (by simp [cb, cbr, c9, hone, hs0, hs1, hl32, hone2, hs20, hs21, hl2, hw1, hw2, hwr, hi9, hlt, hlnA, hbA, hbAr, hleA, hgeA, hset, cxr, cx, hsm, u1, u2, u3, cq, cqr, cc, ccr, cd, cdr, z0, z1, z2, z3, z4, z5, z6, z7, z8, z9, z10, z11, z12, z13, z14, z15, z16, z17, z18, z19, z20, z21, z22, z23, z24, z25, z26, z27, z28, z29, z30, z31, z32, z33, z34, z35, z36, z37, z38, z39]; constructor <;> rfl) ?_
        refine WK.run (rest := []) [25] (by simp [cb, cbr, c9, hone, hs0, hs1, hl32, hone2, hs20, hs21, hl2, hw1, hw2, hwr, hi9, hlt, hlnA, hbA, hbAr, hleA, hgeA, hset, cxr, cx, hsm, u1, u2, u3, cq, cqr, cc, ccr, cd, cdr, z0, z1, z2, z3, z4, z5, z6, z7, z8, z9, z10, z11, z12, z13, z14, z15, z16, z17, z18, z19, z20, z21, z22, z23, z24, z25, z26, z27, z28, z29, z30, z31, z32, z33, z34, z35, z36, z37, z38, z39]; constructor <;> rfl) ?_
        refine WK.nil ?_
        refine DK.test rfl rfl (fun h => ?_) (fun h => ?_)
        · try simp only [h]
          replace h := Tr.out h
          refine DK.exit ?_
          refine DK.region (is := [0, 1, 2]) (by kernel_rfl) rfl ?_
          refine WK.run (rest := [2]) [0, 1] (by simp [cb, cbr, c9, hone, hs0, hs1, hl32, hone2, hs20, hs21, hl2, hw1, hw2, hwr, hi9, hlt, hlnA, hbA, hbAr, hleA, hgeA, hset, cxr, cx, hsm, u1, u2, u3, cq, cqr, cc, ccr, cd, cdr, z0, z1, z2, z3, z4, z5, z6, z7, z8, z9, z10, z11, z12, z13, z14, z15, z16, z17, z18, z19, z20, z21, z22, z23, z24, z25, z26, z27, z28, z29, z30, z31, z32, z33, z34, z35, z36, z37, z38, z39]; constructor <;> rfl) ?_
          refine WK.run (rest := []) [2] (by simp [cb, cbr, c9, hone, hs0, hs1, hl32, hone2, hs20, hs21, hl2, hw1, hw2, hwr, hi9, hlt, hlnA, hbA, hbAr, hleA, hgeA, hset, cxr, cx, hsm, u1, u2, u3, cq, cqr, cc, ccr, cd, cdr, z0, z1, z2, z3, z4, z5, z6, z7, z8, z9, z10, z11, z12, z13, z14, z15, z16, z17, z18, z19, z20, z21, z22, z23, z24, z25, z26, z27, z28, z29, z30, z31, z32, z33, z34, z35, z36, z37, z38, z39]; constructor <;> rfl) ?_
          refine WK.nil ?_
          refine ⟨by kernel_rfl, rfl, (32 - (i + 1)).toNat, ?_, _, rfl, ?_⟩
          · omega
          · exact ⟨by omega, by omega, rfl⟩
        try simp only [h]
        replace h := Fa.out h
        refine DK.skip ?_
        refine ⟨by kernel_rfl, rfl, rfl, ?_⟩
        have hstep : (stepB b od).2 = 0 := by rw [hst]; exact he2
        have hoth := stepB_others hstep h9
        rw [hst] at hoth
        exact hoth.2 i (by omega) (by omega) (by omega)
      try simp only [h]
      replace h := Fa.out h
      refine WK.run (rest := [23, 24, 25]) [21, 22] (by simp [cb, cbr, c9, hone, hs0, hs1, hl32, hone2, hs20, hs21, hl2, hw1, hw2, hwr, hi9, hlt, hlnA, hbA, hbAr, hleA, hgeA, hset, cxr, cx, hsm, u1, u2, u3, cq, cqr, cc, ccr, cd, cdr, z0, z1, z2, z3, z4, z5, z6, z7, z8, z9, z10, z11, z12, z13, z14, z15, z16, z17, z18, z19, z20, z21, z22, z23, z24, z25, z26, z27, z28, z29, z30, z31, z32, z33, z34, z35, z36, z37, z38, z39]; constructor <;> rfl) ?_
      refine WK.run (rest := [25]) [23, 24] (by simp [cb, cbr, c9, hone, hs0, hs1, hl32, hone2, hs20, hs21, hl2, hw1, hw2, hwr, hi9, hlt, hlnA, hbA, hbAr, hleA, hgeA, hset, cxr, cx, hsm, u1, u2, u3, cq, cqr, cc, ccr, cd, cdr, z0, z1, z2, z3, z4, z5, z6, z7, z8, z9, z10, z11, z12, z13, z14, z15, z16, z17, z18, z19, z20, z21, z22, z23, z24, z25, z26, z27, z28, z29, z30, z31, z32, z33, z34, z35, z36, z37, z38, z39]; constructor <;> rfl) ?_
      refine WK.run (rest := []) [25] (by simp [cb, cbr, c9, hone, hs0, hs1, hl32, hone2, hs20, hs21, hl2, hw1, hw2, hwr, hi9, hlt, hlnA, hbA, hbAr, hleA, hgeA, hset, cxr, cx, hsm, u1, u2, u3, cq, cqr, cc, ccr, cd, cdr, z0, z1, z2, z3, z4, z5, z6, z7, z8, z9, z10, z11, z12, z13, z14, z15, z16, z17, z18, z19, z20, z21, z22, z23, z24, z25, z26, z27, z28, z29, z30, z31, z32, z33, z34, z35, z36, z37, z38, z39]; constructor <;> rfl) ?_
      refine WK.nil ?_
      refine DK.no rfl rfl ?_
      refine DK.skip ?_
      refine ⟨by kernel_rfl, rfl, rfl, ?_⟩
      have hstep : (stepB b od).2 = 0 := by rw [hst]; exact he2
      have hoth := stepB_others hstep h9
      rw [hst] at hoth
      exact hoth.2 i (by omega) (by omega) (by omega)
    rintro f3j ⟨hv, hf⟩
    obtain ⟨xc, hxc, _, hoc, htkc, _, _⟩ := hBk2.sub (i := i) (by omega) (by omega)
    obtain ⟨xb, hxb, _, hob, htkb, _, _⟩ := hBk.sub (i := i) (by omega) (by omega)
    have hxy : xc.a = xb.a := by rw [hxc, hxb]; exact hf
    replace z0 : List.take 1 (List.drop (2 + i.toNat * 13) (BkL b2.today sp2 l2)) = [.int .u8 xb.a.st] := by have := take_sub (f := 0) (k := 1) (htkc b2.today) (by decide); rw [hxy] at this; simpa using this
    replace z1 : List.take 1 (List.drop (2 + i.toNat * 13 + 4) (BkL b2.today sp2 l2)) = [.int .i64 xb.a.ct] := by have := take_sub (f := 4) (k := 1) (htkc b2.today) (by decide); rw [hxy] at this; simpa using this
    replace z2 : List.take 1 (List.drop (2 + i.toNat * 13 + 5) (BkL b2.today sp2 l2)) = [.int .i64 xb.a.cr] := by have := take_sub (f := 5) (k := 1) (htkc b2.today) (by decide); rw [hxy] at this; simpa using this
    replace z3 : List.take 1 (List.drop (2 + i.toNat * 13 + 7) (BkL b2.today sp2 l2)) = [xc.s] := by have := take_sub (f := 7) (k := 1) (htkc b2.today) (by decide); simpa using this
    replace z4 : List.take 5 (List.drop (2 + i.toNat * 13 + 8) (BkL b2.today sp2 l2)) = [.int .i64 xb.a.dn, .int .i64 xb.a.up, .int .i64 xb.a.rf, .int .i64 xb.a.sp, .int .i64 xb.a.pd] := by have := take_sub (f := 8) (k := 5) (htkc b2.today) (by decide); rw [hxy] at this; simpa using this
    replace z5 : List.take 1 (List.drop (2 + i.toNat * 13) (BkL b.today sp l)) = [.int .u8 xb.a.st] := by have := take_sub (f := 0) (k := 1) (htkb b.today) (by decide); simpa using this
    replace z6 : List.take 1 (List.drop (2 + i.toNat * 13 + 4) (BkL b.today sp l)) = [.int .i64 xb.a.ct] := by have := take_sub (f := 4) (k := 1) (htkb b.today) (by decide); simpa using this
    replace z7 : List.take 1 (List.drop (2 + i.toNat * 13 + 5) (BkL b.today sp l)) = [.int .i64 xb.a.cr] := by have := take_sub (f := 5) (k := 1) (htkb b.today) (by decide); simpa using this
    replace z8 : List.take 1 (List.drop (2 + i.toNat * 13 + 7) (BkL b.today sp l)) = [xb.s] := by have := take_sub (f := 7) (k := 1) (htkb b.today) (by decide); simpa using this
    replace z9 : List.take 5 (List.drop (2 + i.toNat * 13 + 8) (BkL b.today sp l)) = [.int .i64 xb.a.dn, .int .i64 xb.a.up, .int .i64 xb.a.rf, .int .i64 xb.a.sp, .int .i64 xb.a.pd] := by have := take_sub (f := 8) (k := 5) (htkb b.today) (by decide); simpa using this
    replace z10 : 2 + i.toNat * 13 ≤ 417 := by omega
    replace z11 : 2 + i.toNat * 13 ≤ 413 := by omega
    replace z12 : 2 + i.toNat * 13 ≤ 412 := by omega
    replace z13 : 2 + i.toNat * 13 ≤ 410 := by omega
    replace z14 : 2 + i.toNat * 13 ≤ 405 := by omega
    replace z15 := hoc.lenK
    rw [hxy] at z15
    replace z16 := hob.lenK
    refine DK.from ((setL_S (by decide) _ _).trans (by simp [setS]; exact rfl)) ?_
    refine DK.seq ?_
    refine DK.draw rfl (POk.of (ord := [0, 1, 2, 3, 4, 5, 6, 7, 8, 9, 10, 11, 12, 13, 14, 15, 16, 17, 18, 19, 20, 21, 22, 23, 24, 25, 26, 27, 28, 29, 30, 31, 32, 33, 34, 35, 36, 37, 38, 39, 40, 41, 42, 43, 44, 45, 46, 47, 48, 49, 50, 51, 52, 53, 54, 55, 56, 57, 58, 59, 60, 61, 62, 63, 64]) (by kernel_rfl)) ?_
    refine XK.run (rest := [2, 3, 4, 5, 6, 7, 8, 9, 10, 11, 12, 13, 14, 15, 16, 17, 18, 19, 20, 21, 22, 23, 24, 25, 26, 27, 28, 29, 30, 31, 32, 33, 34, 35, 36, 37, 38, 39, 40, 41, 42, 43, 44, 45, 46, 47, 48, 49, 50, 51, 52, 53, 54, 55, 56, 57, 58, 59, 60, 61, 62, 63, 64]) [0, 1] (by kernel_rfl) (by simp [cb, cbr, c9, hone, hs0, hs1, hl32, hone2, hs20, hs21, hl2, hw1, hw2, hwr, hi9, hlt, hlnA, hbA, hbAr, hleA, hgeA, hset, cxr, cx, hsm, u1, u2, u3, cq, cqr, cc, ccr, cd, cdr, z0, z1, z2, z3, z4, z5, z6, z7, z8, z9, z10, z11, z12, z13, z14, z15, z16, z17, z18, z19, z20, z21, z22, z23, z24, z25, z26, z27, z28, z29, z30, z31, z32, z33, z34, z35, z36, z37, z38, z39]; constructor <;> rfl) ?_
    refine XK.run (rest := [4, 5, 6, 7, 8, 9, 10, 11, 12, 13, 14, 15, 16, 17, 18, 19, 20, 21, 22, 23, 24, 25, 26, 27, 28, 29, 30, 31, 32, 33, 34, 35, 36, 37, 38, 39, 40, 41, 42, 43, 44, 45, 46, 47, 48, 49, 50, 51, 52, 53, 54, 55, 56, 57, 58, 59, 60, 61, 62, 63, 64]) [2, 3] (by kernel_rfl) (by simp [cb, cbr, c9, hone, hs0, hs1, hl32, hone2, hs20, hs21, hl2, hw1, hw2, hwr, hi9, hlt, hlnA, hbA, hbAr, hleA, hgeA, hset, cxr, cx, hsm, u1, u2, u3, cq, cqr, cc, ccr, cd, cdr, z0, z1, z2, z3, z4, z5, z6, z7, z8, z9, z10, z11, z12, z13, z14, z15, z16, z17, z18, z19, z20, z21, z22, z23, z24, z25, z26, z27, z28, z29, z30, z31, z32, z33, z34, z35, z36, z37, z38, z39]; constructor <;> rfl) ?_
    refine XK.run (rest := [6, 7, 8, 9, 10, 11, 12, 13, 14, 15, 16, 17, 18, 19, 20, 21, 22, 23, 24, 25, 26, 27, 28, 29, 30, 31, 32, 33, 34, 35, 36, 37, 38, 39, 40, 41, 42, 43, 44, 45, 46, 47, 48, 49, 50, 51, 52, 53, 54, 55, 56, 57, 58, 59, 60, 61, 62, 63, 64]) [4, 5] (by kernel_rfl) (by simp [cb, cbr, c9, hone, hs0, hs1, hl32, hone2, hs20, hs21, hl2, hw1, hw2, hwr, hi9, hlt, hlnA, hbA, hbAr, hleA, hgeA, hset, cxr, cx, hsm, u1, u2, u3, cq, cqr, cc, ccr, cd, cdr, z0, z1, z2, z3, z4, z5, z6, z7, z8, z9, z10, z11, z12, z13, z14, z15, z16, z17, z18, z19, z20, z21, z22, z23, z24, z25, z26, z27, z28, z29, z30, z31, z32, z33, z34, z35, z36, z37, z38, z39]; constructor <;> rfl) ?_
    refine XK.run (rest := [8, 9, 10, 11, 12, 13, 14, 15, 16, 17, 18, 19, 20, 21, 22, 23, 24, 25, 26, 27, 28, 29, 30, 31, 32, 33, 34, 35, 36, 37, 38, 39, 40, 41, 42, 43, 44, 45, 46, 47, 48, 49, 50, 51, 52, 53, 54, 55, 56, 57, 58, 59, 60, 61, 62, 63, 64]) [6, 7] (by kernel_rfl) (by simp [cb, cbr, c9, hone, hs0, hs1, hl32, hone2, hs20, hs21, hl2, hw1, hw2, hwr, hi9, hlt, hlnA, hbA, hbAr, hleA, hgeA, hset, cxr, cx, hsm, u1, u2, u3, cq, cqr, cc, ccr, cd, cdr, z0, z1, z2, z3, z4, z5, z6, z7, z8, z9, z10, z11, z12, z13, z14, z15, z16, z17, z18, z19, z20, z21, z22, z23, z24, z25, z26, z27, z28, z29, z30, z31, z32, z33, z34, z35, z36, z37, z38, z39]; constructor <;> rfl) ?_
    refine XK.run (rest := [10, 11, 12, 13, 14, 15, 16, 17, 18, 19, 20, 21, 22, 23, 24, 25, 26, 27, 28, 29, 30, 31, 32, 33, 34, 35, 36, 37, 38, 39, 40, 41, 42, 43, 44, 45, 46, 47, 48, 49, 50, 51, 52, 53, 54, 55, 56, 57, 58, 59, 60, 61, 62, 63, 64]) [8, 9] (by kernel_rfl) (by simp [cb, cbr, c9, hone, hs0, hs1, hl32, hone2, hs20, hs21, hl2, hw1, hw2, hwr, hi9, hlt, hlnA, hbA, hbAr, hleA, hgeA, hset, cxr, cx, hsm, u1, u2, u3, cq, cqr, cc, ccr, cd, cdr, z0, z1, z2, z3, z4, z5, z6, z7, z8, z9, z10, z11, z12, z13, z14, z15, z16, z17, z18, z19, z20, z21, z22, z23, z24, z25, z26, z27, z28, z29, z30, z31, z32, z33, z34, z35, z36, z37, z38, z39]; constructor <;> rfl) ?_
    refine XK.run (rest := [12, 13, 14, 15, 16, 17, 18, 19, 20, 21, 22, 23, 24, 25, 26, 27, 28, 29, 30, 31, 32, 33, 34, 35, 36, 37, 38, 39, 40, 41, 42, 43, 44, 45, 46, 47, 48, 49, 50, 51, 52, 53, 54, 55, 56, 57, 58, 59, 60, 61, 62, 63, 64]) [10, 11] (by kernel_rfl) (by simp [cb, cbr, c9, hone, hs0, hs1, hl32, hone2, hs20, hs21, hl2, hw1, hw2, hwr, hi9, hlt, hlnA, hbA, hbAr, hleA, hgeA, hset, cxr, cx, hsm, u1, u2, u3, cq, cqr, cc, ccr, cd, cdr, z0, z1, z2, z3, z4, z5, z6, z7, z8, z9, z10, z11, z12, z13, z14, z15, z16, z17, z18, z19, z20, z21, z22, z23, z24, z25, z26, z27, z28, z29, z30, z31, z32, z33, z34, z35, z36, z37, z38, z39]; constructor <;> rfl) ?_
    refine XK.split (t := 108) rfl (fun h => ?_) (fun h => ?_)
    · try simp only [h]
      replace h := Tr.out h
      cases h
    try simp only [h]
    replace h := Fa.out h
    refine XK.run (rest := [14, 15, 16, 17, 18, 19, 20, 21, 22, 23, 24, 25, 26, 27, 28, 29, 30, 31, 32, 33, 34, 35, 36, 37, 38, 39, 40, 41, 42, 43, 44, 45, 46, 47, 48, 49, 50, 51, 52, 53, 54, 55, 56, 57, 58, 59, 60, 61, 62, 63, 64]) [12, 13] (by kernel_rfl) (by simp [cb, cbr, c9, hone, hs0, hs1, hl32, hone2, hs20, hs21, hl2, hw1, hw2, hwr, hi9, hlt, hlnA, hbA, hbAr, hleA, hgeA, hset, cxr, cx, hsm, u1, u2, u3, cq, cqr, cc, ccr, cd, cdr, z0, z1, z2, z3, z4, z5, z6, z7, z8, z9, z10, z11, z12, z13, z14, z15, z16, z17, z18, z19, z20, z21, z22, z23, z24, z25, z26, z27, z28, z29, z30, z31, z32, z33, z34, z35, z36, z37, z38, z39]; constructor <;> rfl) ?_
    refine XK.run (rest := [16, 17, 18, 19, 20, 21, 22, 23, 24, 25, 26, 27, 28, 29, 30, 31, 32, 33, 34, 35, 36, 37, 38, 39, 40, 41, 42, 43, 44, 45, 46, 47, 48, 49, 50, 51, 52, 53, 54, 55, 56, 57, 58, 59, 60, 61, 62, 63, 64]) [14, 15] (by kernel_rfl) (by simp [cb, cbr, c9, hone, hs0, hs1, hl32, hone2, hs20, hs21, hl2, hw1, hw2, hwr, hi9, hlt, hlnA, hbA, hbAr, hleA, hgeA, hset, cxr, cx, hsm, u1, u2, u3, cq, cqr, cc, ccr, cd, cdr, z0, z1, z2, z3, z4, z5, z6, z7, z8, z9, z10, z11, z12, z13, z14, z15, z16, z17, z18, z19, z20, z21, z22, z23, z24, z25, z26, z27, z28, z29, z30, z31, z32, z33, z34, z35, z36, z37, z38, z39]; constructor <;> rfl) ?_
    refine XK.run (rest := [18, 19, 20, 21, 22, 23, 24, 25, 26, 27, 28, 29, 30, 31, 32, 33, 34, 35, 36, 37, 38, 39, 40, 41, 42, 43, 44, 45, 46, 47, 48, 49, 50, 51, 52, 53, 54, 55, 56, 57, 58, 59, 60, 61, 62, 63, 64]) [16, 17] (by kernel_rfl) (by simp [cb, cbr, c9, hone, hs0, hs1, hl32, hone2, hs20, hs21, hl2, hw1, hw2, hwr, hi9, hlt, hlnA, hbA, hbAr, hleA, hgeA, hset, cxr, cx, hsm, u1, u2, u3, cq, cqr, cc, ccr, cd, cdr, z0, z1, z2, z3, z4, z5, z6, z7, z8, z9, z10, z11, z12, z13, z14, z15, z16, z17, z18, z19, z20, z21, z22, z23, z24, z25, z26, z27, z28, z29, z30, z31, z32, z33, z34, z35, z36, z37, z38, z39]; constructor <;> rfl) ?_
    refine XK.run (rest := [20, 21, 22, 23, 24, 25, 26, 27, 28, 29, 30, 31, 32, 33, 34, 35, 36, 37, 38, 39, 40, 41, 42, 43, 44, 45, 46, 47, 48, 49, 50, 51, 52, 53, 54, 55, 56, 57, 58, 59, 60, 61, 62, 63, 64]) [18, 19] (by kernel_rfl) (by simp [cb, cbr, c9, hone, hs0, hs1, hl32, hone2, hs20, hs21, hl2, hw1, hw2, hwr, hi9, hlt, hlnA, hbA, hbAr, hleA, hgeA, hset, cxr, cx, hsm, u1, u2, u3, cq, cqr, cc, ccr, cd, cdr, z0, z1, z2, z3, z4, z5, z6, z7, z8, z9, z10, z11, z12, z13, z14, z15, z16, z17, z18, z19, z20, z21, z22, z23, z24, z25, z26, z27, z28, z29, z30, z31, z32, z33, z34, z35, z36, z37, z38, z39]; constructor <;> rfl) ?_
    refine XK.run (rest := [22, 23, 24, 25, 26, 27, 28, 29, 30, 31, 32, 33, 34, 35, 36, 37, 38, 39, 40, 41, 42, 43, 44, 45, 46, 47, 48, 49, 50, 51, 52, 53, 54, 55, 56, 57, 58, 59, 60, 61, 62, 63, 64]) [20, 21] (by kernel_rfl) (by simp [cb, cbr, c9, hone, hs0, hs1, hl32, hone2, hs20, hs21, hl2, hw1, hw2, hwr, hi9, hlt, hlnA, hbA, hbAr, hleA, hgeA, hset, cxr, cx, hsm, u1, u2, u3, cq, cqr, cc, ccr, cd, cdr, z0, z1, z2, z3, z4, z5, z6, z7, z8, z9, z10, z11, z12, z13, z14, z15, z16, z17, z18, z19, z20, z21, z22, z23, z24, z25, z26, z27, z28, z29, z30, z31, z32, z33, z34, z35, z36, z37, z38, z39]; constructor <;> rfl) ?_
    refine XK.run (rest := [24, 25, 26, 27, 28, 29, 30, 31, 32, 33, 34, 35, 36, 37, 38, 39, 40, 41, 42, 43, 44, 45, 46, 47, 48, 49, 50, 51, 52, 53, 54, 55, 56, 57, 58, 59, 60, 61, 62, 63, 64]) [22, 23] (by kernel_rfl) (by simp [cb, cbr, c9, hone, hs0, hs1, hl32, hone2, hs20, hs21, hl2, hw1, hw2, hwr, hi9, hlt, hlnA, hbA, hbAr, hleA, hgeA, hset, cxr, cx, hsm, u1, u2, u3, cq, cqr, cc, ccr, cd, cdr, z0, z1, z2, z3, z4, z5, z6, z7, z8, z9, z10, z11, z12, z13, z14, z15, z16, z17, z18, z19, z20, z21, z22, z23, z24, z25, z26, z27, z28, z29, z30, z31, z32, z33, z34, z35, z36, z37, z38, z39]; constructor <;> rfl) ?_
    refine XK.run (rest := [25, 26, 27, 28, 29, 30, 31, 32, 33, 34, 35, 36, 37, 38, 39, 40, 41, 42, 43, 44, 45, 46, 47, 48, 49, 50, 51, 52, 53, 54, 55, 56, 57, 58, 59, 60, 61, 62, 63, 64]) [24] (by kernel_rfl) (by simp [cb, cbr, c9, hone, hs0, hs1, hl32, hone2, hs20, hs21, hl2, hw1, hw2, hwr, hi9, hlt, hlnA, hbA, hbAr, hleA, hgeA, hset, cxr, cx, hsm, u1, u2, u3, cq, cqr, cc, ccr, cd, cdr, z0, z1, z2, z3, z4, z5, z6, z7, z8, z9, z10, z11, z12, z13, z14, z15, z16, z17, z18, z19, z20, z21, z22, z23, z24, z25, z26, z27, z28, z29, z30, z31, z32, z33, z34, z35, z36, z37, z38, z39]; constructor <;> rfl) ?_
    refine XK.split (t := 121) rfl (fun h => ?_) (fun h => ?_)
    · try simp only [h]
      replace h := Tr.out h
      cases h
    try simp only [h]
    replace h := Fa.out h
    refine XK.run (rest := [27, 28, 29, 30, 31, 32, 33, 34, 35, 36, 37, 38, 39, 40, 41, 42, 43, 44, 45, 46, 47, 48, 49, 50, 51, 52, 53, 54, 55, 56, 57, 58, 59, 60, 61, 62, 63, 64]) [25, 26] (by kernel_rfl) (by simp [cb, cbr, c9, hone, hs0, hs1, hl32, hone2, hs20, hs21, hl2, hw1, hw2, hwr, hi9, hlt, hlnA, hbA, hbAr, hleA, hgeA, hset, cxr, cx, hsm, u1, u2, u3, cq, cqr, cc, ccr, cd, cdr, z0, z1, z2, z3, z4, z5, z6, z7, z8, z9, z10, z11, z12, z13, z14, z15, z16, z17, z18, z19, z20, z21, z22, z23, z24, z25, z26, z27, z28, z29, z30, z31, z32, z33, z34, z35, z36, z37, z38, z39]; constructor <;> rfl) ?_
    refine XK.run (rest := [29, 30, 31, 32, 33, 34, 35, 36, 37, 38, 39, 40, 41, 42, 43, 44, 45, 46, 47, 48, 49, 50, 51, 52, 53, 54, 55, 56, 57, 58, 59, 60, 61, 62, 63, 64]) [27, 28] (by kernel_rfl) (by simp [cb, cbr, c9, hone, hs0, hs1, hl32, hone2, hs20, hs21, hl2, hw1, hw2, hwr, hi9, hlt, hlnA, hbA, hbAr, hleA, hgeA, hset, cxr, cx, hsm, u1, u2, u3, cq, cqr, cc, ccr, cd, cdr, z0, z1, z2, z3, z4, z5, z6, z7, z8, z9, z10, z11, z12, z13, z14, z15, z16, z17, z18, z19, z20, z21, z22, z23, z24, z25, z26, z27, z28, z29, z30, z31, z32, z33, z34, z35, z36, z37, z38, z39]; constructor <;> rfl) ?_
    refine XK.run (rest := [31, 32, 33, 34, 35, 36, 37, 38, 39, 40, 41, 42, 43, 44, 45, 46, 47, 48, 49, 50, 51, 52, 53, 54, 55, 56, 57, 58, 59, 60, 61, 62, 63, 64]) [29, 30] (by kernel_rfl) (by simp [cb, cbr, c9, hone, hs0, hs1, hl32, hone2, hs20, hs21, hl2, hw1, hw2, hwr, hi9, hlt, hlnA, hbA, hbAr, hleA, hgeA, hset, cxr, cx, hsm, u1, u2, u3, cq, cqr, cc, ccr, cd, cdr, z0, z1, z2, z3, z4, z5, z6, z7, z8, z9, z10, z11, z12, z13, z14, z15, z16, z17, z18, z19, z20, z21, z22, z23, z24, z25, z26, z27, z28, z29, z30, z31, z32, z33, z34, z35, z36, z37, z38, z39]; constructor <;> rfl) ?_
    refine XK.run (rest := [33, 34, 35, 36, 37, 38, 39, 40, 41, 42, 43, 44, 45, 46, 47, 48, 49, 50, 51, 52, 53, 54, 55, 56, 57, 58, 59, 60, 61, 62, 63, 64]) [31, 32] (by kernel_rfl) (by simp [cb, cbr, c9, hone, hs0, hs1, hl32, hone2, hs20, hs21, hl2, hw1, hw2, hwr, hi9, hlt, hlnA, hbA, hbAr, hleA, hgeA, hset, cxr, cx, hsm, u1, u2, u3, cq, cqr, cc, ccr, cd, cdr, z0, z1, z2, z3, z4, z5, z6, z7, z8, z9, z10, z11, z12, z13, z14, z15, z16, z17, z18, z19, z20, z21, z22, z23, z24, z25, z26, z27, z28, z29, z30, z31, z32, z33, z34, z35, z36, z37, z38, z39]; constructor <;> rfl) ?_
    refine XK.run (rest := [35, 36, 37, 38, 39, 40, 41, 42, 43, 44, 45, 46, 47, 48, 49, 50, 51, 52, 53, 54, 55, 56, 57, 58, 59, 60, 61, 62, 63, 64]) [33, 34] (by kernel_rfl) (by simp [cb, cbr, c9, hone, hs0, hs1, hl32, hone2, hs20, hs21, hl2, hw1, hw2, hwr, hi9, hlt, hlnA, hbA, hbAr, hleA, hgeA, hset, cxr, cx, hsm, u1, u2, u3, cq, cqr, cc, ccr, cd, cdr, z0, z1, z2, z3, z4, z5, z6, z7, z8, z9, z10, z11, z12, z13, z14, z15, z16, z17, z18, z19, z20, z21, z22, z23, z24, z25, z26, z27, z28, z29, z30, z31, z32, z33, z34, z35, z36, z37, z38, z39]; constructor <;> rfl) ?_
    refine XK.run (rest := [37, 38, 39, 40, 41, 42, 43, 44, 45, 46, 47, 48, 49, 50, 51, 52, 53, 54, 55, 56, 57, 58, 59, 60, 61, 62, 63, 64]) [35, 36] (by kernel_rfl) (by simp [cb, cbr, c9, hone, hs0, hs1, hl32, hone2, hs20, hs21, hl2, hw1, hw2, hwr, hi9, hlt, hlnA, hbA, hbAr, hleA, hgeA, hset, cxr, cx, hsm, u1, u2, u3, cq, cqr, cc, ccr, cd, cdr, z0, z1, z2, z3, z4, z5, z6, z7, z8, z9, z10, z11, z12, z13, z14, z15, z16, z17, z18, z19, z20, z21, z22, z23, z24, z25, z26, z27, z28, z29, z30, z31, z32, z33, z34, z35, z36, z37, z38, z39]; constructor <;> rfl) ?_
    refine XK.run (rest := [38, 39, 40, 41, 42, 43, 44, 45, 46, 47, 48, 49, 50, 51, 52, 53, 54, 55, 56, 57, 58, 59, 60, 61, 62, 63, 64]) [37] (by kernel_rfl) (by simp [cb, cbr, c9, hone, hs0, hs1, hl32, hone2, hs20, hs21, hl2, hw1, hw2, hwr, hi9, hlt, hlnA, hbA, hbAr, hleA, hgeA, hset, cxr, cx, hsm, u1, u2, u3, cq, cqr, cc, ccr, cd, cdr, z0, z1, z2, z3, z4, z5, z6, z7, z8, z9, z10, z11, z12, z13, z14, z15, z16, z17, z18, z19, z20, z21, z22, z23, z24, z25, z26, z27, z28, z29, z30, z31, z32, z33, z34, z35, z36, z37, z38, z39]; constructor <;> rfl) ?_
    refine XK.split (t := 134) rfl (fun h => ?_) (fun h => ?_)
    · try simp only [h]
      replace h := Tr.out h
      cases h
    try simp only [h]
    replace h := Fa.out h
    refine XK.run (rest := [40, 41, 42, 43, 44, 45, 46, 47, 48, 49, 50, 51, 52, 53, 54, 55, 56, 57, 58, 59, 60, 61, 62, 63, 64]) [38, 39] (by kernel_rfl) (by simp [cb, cbr, c9, hone, hs0, hs1, hl32, hone2, hs20, hs21, hl2, hw1, hw2, hwr, hi9, hlt, hlnA, hbA, hbAr, hleA, hgeA, hset, cxr, cx, hsm, u1, u2, u3, cq, cqr, cc, ccr, cd, cdr, z0, z1, z2, z3, z4, z5, z6, z7, z8, z9, z10, z11, z12, z13, z14, z15, z16, z17, z18, z19, z20, z21, z22, z23, z24, z25, z26, z27, z28, z29, z30, z31, z32, z33, z34, z35, z36, z37, z38, z39]; constructor <;> rfl) ?_
    refine XK.run (rest := [42, 43, 44, 45, 46, 47, 48, 49, 50, 51, 52, 53, 54, 55, 56, 57, 58, 59, 60, 61, 62, 63, 64]) [40, 41] (by kernel_rfl) (by simp [cb, cbr, c9, hone, hs0, hs1, hl32, hone2, hs20, hs21, hl2, hw1, hw2, hwr, hi9, hlt, hlnA, hbA, hbAr, hleA, hgeA, hset, cxr, cx, hsm, u1, u2, u3, cq, cqr, cc, ccr, cd, cdr, z0, z1, z2, z3, z4, z5, z6, z7, z8, z9, z10, z11, z12, z13, z14, z15, z16, z17, z18, z19, z20, z21, z22, z23, z24, z25, z26, z27, z28, z29, z30, z31, z32, z33, z34, z35, z36, z37, z38, z39]; constructor <;> rfl) ?_
    refine XK.run (rest := [44, 45, 46, 47, 48, 49, 50, 51, 52, 53, 54, 55, 56, 57, 58, 59, 60, 61, 62, 63, 64]) [42, 43] (by kernel_rfl) (by simp [cb, cbr, c9, hone, hs0, hs1, hl32, hone2, hs20, hs21, hl2, hw1, hw2, hwr, hi9, hlt, hlnA, hbA, hbAr, hleA, hgeA, hset, cxr, cx, hsm, u1, u2, u3, cq, cqr, cc, ccr, cd, cdr, z0, z1, z2, z3, z4, z5, z6, z7, z8, z9, z10, z11, z12, z13, z14, z15, z16, z17, z18, z19, z20, z21, z22, z23, z24, z25, z26, z27, z28, z29, z30, z31, z32, z33, z34, z35, z36, z37, z38, z39]; constructor <;> rfl) ?_
    refine XK.run (rest := [46, 47, 48, 49, 50, 51, 52, 53, 54, 55, 56, 57, 58, 59, 60, 61, 62, 63, 64]) [44, 45] (by kernel_rfl) (by simp [cb, cbr, c9, hone, hs0, hs1, hl32, hone2, hs20, hs21, hl2, hw1, hw2, hwr, hi9, hlt, hlnA, hbA, hbAr, hleA, hgeA, hset, cxr, cx, hsm, u1, u2, u3, cq, cqr, cc, ccr, cd, cdr, z0, z1, z2, z3, z4, z5, z6, z7, z8, z9, z10, z11, z12, z13, z14, z15, z16, z17, z18, z19, z20, z21, z22, z23, z24, z25, z26, z27, z28, z29, z30, z31, z32, z33, z34, z35, z36, z37, z38, z39]; constructor <;> rfl) ?_
    refine XK.run (rest := [48, 49, 50, 51, 52, 53, 54, 55, 56, 57, 58, 59, 60, 61, 62, 63, 64]) [46, 47] (by kernel_rfl) (by simp [cb, cbr, c9, hone, hs0, hs1, hl32, hone2, hs20, hs21, hl2, hw1, hw2, hwr, hi9, hlt, hlnA, hbA, hbAr, hleA, hgeA, hset, cxr, cx, hsm, u1, u2, u3, cq, cqr, cc, ccr, cd, cdr, z0, z1, z2, z3, z4, z5, z6, z7, z8, z9, z10, z11, z12, z13, z14, z15, z16, z17, z18, z19, z20, z21, z22, z23, z24, z25, z26, z27, z28, z29, z30, z31, z32, z33, z34, z35, z36, z37, z38, z39]; constructor <;> rfl) ?_
    refine XK.run (rest := [50, 51, 52, 53, 54, 55, 56, 57, 58, 59, 60, 61, 62, 63, 64]) [48, 49] (by kernel_rfl) (by simp [cb, cbr, c9, hone, hs0, hs1, hl32, hone2, hs20, hs21, hl2, hw1, hw2, hwr, hi9, hlt, hlnA, hbA, hbAr, hleA, hgeA, hset, cxr, cx, hsm, u1, u2, u3, cq, cqr, cc, ccr, cd, cdr, z0, z1, z2, z3, z4, z5, z6, z7, z8, z9, z10, z11, z12, z13, z14, z15, z16, z17, z18, z19, z20, z21, z22, z23, z24, z25, z26, z27, z28, z29, z30, z31, z32, z33, z34, z35, z36, z37, z38, z39]; constructor <;> rfl) ?_
    refine XK.run (rest := [52, 53, 54, 55, 56, 57, 58, 59, 60, 61, 62, 63, 64]) [50, 51] (by kernel_rfl) (by simp [cb, cbr, c9, hone, hs0, hs1, hl32, hone2, hs20, hs21, hl2, hw1, hw2, hwr, hi9, hlt, hlnA, hbA, hbAr, hleA, hgeA, hset, cxr, cx, hsm, u1, u2, u3, cq, cqr, cc, ccr, cd, cdr, z0, z1, z2, z3, z4, z5, z6, z7, z8, z9, z10, z11, z12, z13, z14, z15, z16, z17, z18, z19, z20, z21, z22, z23, z24, z25, z26, z27, z28, z29, z30, z31, z32, z33, z34, z35, z36, z37, z38, z39]; constructor <;> rfl) ?_
    refine XK.run (rest := [53, 54, 55, 56, 57, 58, 59, 60, 61, 62, 63, 64]) [52] (by kernel_rfl) (by simp [cb, cbr, c9, hone, hs0, hs1, hl32, hone2, hs20, hs21, hl2, hw1, hw2, hwr, hi9, hlt, hlnA, hbA, hbAr, hleA, hgeA, hset, cxr, cx, hsm, u1, u2, u3, cq, cqr, cc, ccr, cd, cdr, z0, z1, z2, z3, z4, z5, z6, z7, z8, z9, z10, z11, z12, z13, z14, z15, z16, z17, z18, z19, z20, z21, z22, z23, z24, z25, z26, z27, z28, z29, z30, z31, z32, z33, z34, z35, z36, z37, z38, z39]; constructor <;> rfl) ?_
    refine XK.split (t := 149) rfl (fun h => ?_) (fun h => ?_)
    · try simp only [h]
      replace h := Tr.out h
      cases h
    try simp only [h]
    replace h := Fa.out h
    refine XK.run (rest := [55, 56, 57, 58, 59, 60, 61, 62, 63, 64]) [53, 54] (by kernel_rfl) (by simp [cb, cbr, c9, hone, hs0, hs1, hl32, hone2, hs20, hs21, hl2, hw1, hw2, hwr, hi9, hlt, hlnA, hbA, hbAr, hleA, hgeA, hset, cxr, cx, hsm, u1, u2, u3, cq, cqr, cc, ccr, cd, cdr, z0, z1, z2, z3, z4, z5, z6, z7, z8, z9, z10, z11, z12, z13, z14, z15, z16, z17, z18, z19, z20, z21, z22, z23, z24, z25, z26, z27, z28, z29, z30, z31, z32, z33, z34, z35, z36, z37, z38, z39]; constructor <;> rfl) ?_
    refine XK.run (rest := [57, 58, 59, 60, 61, 62, 63, 64]) [55, 56] (by kernel_rfl) (by simp [cb, cbr, c9, hone, hs0, hs1, hl32, hone2, hs20, hs21, hl2, hw1, hw2, hwr, hi9, hlt, hlnA, hbA, hbAr, hleA, hgeA, hset, cxr, cx, hsm, u1, u2, u3, cq, cqr, cc, ccr, cd, cdr, z0, z1, z2, z3, z4, z5, z6, z7, z8, z9, z10, z11, z12, z13, z14, z15, z16, z17, z18, z19, z20, z21, z22, z23, z24, z25, z26, z27, z28, z29, z30, z31, z32, z33, z34, z35, z36, z37, z38, z39]; constructor <;> rfl) ?_
    refine XK.run (rest := [59, 60, 61, 62, 63, 64]) [57, 58] (by kernel_rfl) (by simp [cb, cbr, c9, hone, hs0, hs1, hl32, hone2, hs20, hs21, hl2, hw1, hw2, hwr, hi9, hlt, hlnA, hbA, hbAr, hleA, hgeA, hset, cxr, cx, hsm, u1, u2, u3, cq, cqr, cc, ccr, cd, cdr, z0, z1, z2, z3, z4, z5, z6, z7, z8, z9, z10, z11, z12, z13, z14, z15, z16, z17, z18, z19, z20, z21, z22, z23, z24, z25, z26, z27, z28, z29, z30, z31, z32, z33, z34, z35, z36, z37, z38, z39]; constructor <;> rfl) ?_
    refine XK.run (rest := [61, 62, 63, 64]) [59, 60] (by kernel_rfl) (by simp [cb, cbr, c9, hone, hs0, hs1, hl32, hone2, hs20, hs21, hl2, hw1, hw2, hwr, hi9, hlt, hlnA, hbA, hbAr, hleA, hgeA, hset, cxr, cx, hsm, u1, u2, u3, cq, cqr, cc, ccr, cd, cdr, z0, z1, z2, z3, z4, z5, z6, z7, z8, z9, z10, z11, z12, z13, z14, z15, z16, z17, z18, z19, z20, z21, z22, z23, z24, z25, z26, z27, z28, z29, z30, z31, z32, z33, z34, z35, z36, z37, z38, z39]; constructor <;> rfl) ?_
    refine XK.run (rest := [63, 64]) [61, 62] (by kernel_rfl) (by simp [cb, cbr, c9, hone, hs0, hs1, hl32, hone2, hs20, hs21, hl2, hw1, hw2, hwr, hi9, hlt, hlnA, hbA, hbAr, hleA, hgeA, hset, cxr, cx, hsm, u1, u2, u3, cq, cqr, cc, ccr, cd, cdr, z0, z1, z2, z3, z4, z5, z6, z7, z8, z9, z10, z11, z12, z13, z14, z15, z16, z17, z18, z19, z20, z21, z22, z23, z24, z25, z26, z27, z28, z29, z30, z31, z32, z33, z34, z35, z36, z37, z38, z39]; constructor <;> rfl) ?_
    refine XK.run (rest := []) [63, 64] (by kernel_rfl) (by simp [cb, cbr, c9, hone, hs0, hs1, hl32, hone2, hs20, hs21, hl2, hw1, hw2, hwr, hi9, hlt, hlnA, hbA, hbAr, hleA, hgeA, hset, cxr, cx, hsm, u1, u2, u3, cq, cqr, cc, ccr, cd, cdr, z0, z1, z2, z3, z4, z5, z6, z7, z8, z9, z10, z11, z12, z13, z14, z15, z16, z17, z18, z19, z20, z21, z22, z23, z24, z25, z26, z27, z28, z29, z30, z31, z32, z33, z34, z35, z36, z37, z38, z39]; constructor <;> rfl) ?_
    refine XK.nil ?_
    refine DK.test rfl rfl (fun h => ?_) (fun h => ?_)
    · try simp only [h]
      replace h := Tr.out h
      cases h
    try simp only [h]
    replace h := Fa.out h
    refine DK.skip ?_
    refine DK.region (is := [0, 1, 2]) (by kernel_rfl) rfl ?_
    refine WK.run (rest := [2]) [0, 1] (by simp [cb, cbr, c9, hone, hs0, hs1, hl32, hone2, hs20, hs21, hl2, hw1, hw2, hwr, hi9, hlt, hlnA, hbA, hbAr, hleA, hgeA, hset, cxr, cx, hsm, u1, u2, u3, cq, cqr, cc, ccr, cd, cdr, z0, z1, z2, z3, z4, z5, z6, z7, z8, z9, z10, z11, z12, z13, z14, z15, z16, z17, z18, z19, z20, z21, z22, z23, z24, z25, z26, z27, z28, z29, z30, z31, z32, z33, z34, z35, z36, z37, z38, z39]; constructor <;> rfl) ?_
    refine WK.run (rest := []) [2] (by simp [cb, cbr, c9, hone, hs0, hs1, hl32, hone2, hs20, hs21, hl2, hw1, hw2, hwr, hi9, hlt, hlnA, hbA, hbAr, hleA, hgeA, hset, cxr, cx, hsm, u1, u2, u3, cq, cqr, cc, ccr, cd, cdr, z0, z1, z2, z3, z4, z5, z6, z7, z8, z9, z10, z11, z12, z13, z14, z15, z16, z17, z18, z19, z20, z21, z22, z23, z24, z25, z26, z27, z28, z29, z30, z31, z32, z33, z34, z35, z36, z37, z38, z39]; constructor <;> rfl) ?_
    refine WK.nil ?_
    refine ⟨by kernel_rfl, rfl, (32 - (i + 1)).toNat, ?_, _, rfl, ?_⟩
    · omega
    · exact ⟨by omega, by omega, rfl⟩
  try simp only [h]
  replace h := Fa.out h
  have hst0 := (stepB_others (show (stepB b od).2 = 0 by rw [hst]; exact he2) h9).1
  rw [hst] at hst0
  replace u1 : b2.today = b.today := hst0
  refine DK.exit ?_
  refine DK.seq ?_
  refine DK.region (is := [0, 1, 2, 3, 4, 5, 6, 7, 8, 9, 10]) (by kernel_rfl) rfl ?_
  refine WK.run (rest := [2, 3, 4, 5, 6, 7, 8, 9, 10]) [0, 1] (by simp [cb, cbr, c9, hone, hs0, hs1, hl32, hone2, hs20, hs21, hl2, hw1, hw2, hwr, hi9, hlt, hlnA, hbA, hbAr, hleA, hgeA, hset, cxr, cx, hsm, u1, u2, u3, cq, cqr, cc, ccr, cd, cdr, z0, z1, z2, z3, z4, z5, z6, z7, z8, z9, z10, z11, z12, z13, z14, z15, z16, z17, z18, z19, z20, z21, z22, z23, z24, z25, z26, z27, z28, z29, z30, z31, z32, z33, z34, z35, z36, z37, z38, z39]; constructor <;> rfl) ?_
  refine WK.run (rest := [4, 5, 6, 7, 8, 9, 10]) [2, 3] (by simp [cb, cbr, c9, hone, hs0, hs1, hl32, hone2, hs20, hs21, hl2, hw1, hw2, hwr, hi9, hlt, hlnA, hbA, hbAr, hleA, hgeA, hset, cxr, cx, hsm, u1, u2, u3, cq, cqr, cc, ccr, cd, cdr, z0, z1, z2, z3, z4, z5, z6, z7, z8, z9, z10, z11, z12, z13, z14, z15, z16, z17, z18, z19, z20, z21, z22, z23, z24, z25, z26, z27, z28, z29, z30, z31, z32, z33, z34, z35, z36, z37, z38, z39]; constructor <;> rfl) ?_
  refine WK.split (t := 165) rfl (fun h => ?_) (fun h => ?_)
  · try simp only [h]
    replace h := Tr.out h
    refine WK.run (rest := [6, 7, 8, 9, 10]) [4, 5] (by simp [cb, cbr, c9, hone, hs0, hs1, hl32, hone2, hs20, hs21, hl2, hw1, hw2, hwr, hi9, hlt, hlnA, hbA, hbAr, hleA, hgeA, hset, cxr, cx, hsm, u1, u2, u3, cq, cqr, cc, ccr, cd, cdr, z0, z1, z2, z3, z4, z5, z6, z7, z8, z9, z10, z11, z12, z13, z14, z15, z16, z17, z18, z19, z20, z21, z22, z23, z24, z25, z26, z27, z28, z29, z30, z31, z32, z33, z34, z35, z36, z37, z38, z39]; constructor <;> rfl) ?_
    refine WK.run (rest := [8, 9, 10]) [6, 7] (by simp [cb, cbr, c9, hone, hs0, hs1, hl32, hone2, hs20, hs21, hl2, hw1, hw2, hwr, hi9, hlt, hlnA, hbA, hbAr, hleA, hgeA, hset, cxr, cx, hsm, u1, u2, u3, cq, cqr, cc, ccr, cd, cdr, z0, z1, z2, z3, z4, z5, z6, z7, z8, z9, z10, z11, z12, z13, z14, z15, z16, z17, z18, z19, z20, z21, z22, z23, z24, z25, z26, z27, z28, z29, z30, z31, z32, z33, z34, z35, z36, z37, z38, z39]; constructor <;> rfl) ?_
    refine WK.run (rest := [10]) [8, 9] (by simp [cb, cbr, c9, hone, hs0, hs1, hl32, hone2, hs20, hs21, hl2, hw1, hw2, hwr, hi9, hlt, hlnA, hbA, hbAr, hleA, hgeA, hset, cxr, cx, hsm, u1, u2, u3, cq, cqr, cc, ccr, cd, cdr, z0, z1, z2, z3, z4, z5, z6, z7, z8, z9, z10, z11, z12, z13, z14, z15, z16, z17, z18, z19, z20, z21, z22, z23, z24, z25, z26, z27, z28, z29, z30, z31, z32, z33, z34, z35, z36, z37, z38, z39]; constructor <;> rfl) ?_
    refine WK.run (rest := []) [10] (by simp [cb, cbr, c9, hone, hs0, hs1, hl32, hone2, hs20, hs21, hl2, hw1, hw2, hwr, hi9, hlt, hlnA, hbA, hbAr, hleA, hgeA, hset, cxr, cx, hsm, u1, u2, u3, cq, cqr, cc, ccr, cd, cdr, z0, z1, z2, z3, z4, z5, z6, z7, z8, z9, z10, z11, z12, z13, z14, z15, z16, z17, z18, z19, z20, z21, z22, z23, z24, z25, z26, z27, z28, z29, z30, z31, z32, z33, z34, z35, z36, z37, z38, z39]; constructor <;> rfl) ?_
    refine WK.nil ?_
    refine DK.ret ?_
    refine And.intro (Or.inr rfl) ?_
    refine ⟨_, by simp [absAnswer, absResults, absResult, Tryd.f6]; rfl, ?_⟩
    exact ⟨(hk0.trans hkM).ext, by simp, by simp [u1]⟩
  try simp only [h]
  replace h := Fa.out h
  cases h
end Go.Den
set_option linter.unusedVariables false
set_option maxRecDepth 100000
namespace Go.Den
open Go Go.Proofs
theorem rowV_idx {α : Type} [Cel α] : ∀ (l : List α) (i : Nat) (v : Value), (rowV l)[i]? = some v → ∃ (j : Nat) (hj : j < l.length) (r : Nat), r < Cel.k α ∧ i = j * Cel.k α + r ∧ (Cel.f l[j])[r]? = some v
  | [], i, v, h => by simp at h
  | a :: l, i, v, h => by
    rw [rowV_cons] at h
    by_cases hi : i < Cel.k α
    · rw [List.getElem?_append_left (by rw [Cel.len]; exact hi)] at h
      exact ⟨0, by simp, i, hi, by simp, h⟩
    · rw [List.getElem?_append_right (by rw [Cel.len]; omega), Cel.len] at h
      obtain ⟨j, hj, r, h1, h2, h3⟩ := rowV_idx l _ v h
      exact ⟨j + 1, by simpa using hj, r, h1, by rw [Nat.succ_mul]; omega, by simpa using h3⟩
def ladCells : List Value := [.int .i64 1, .int .i64 3, .int .i64 7]
def phi1 (sl : Option (Nat × Nat)) : Ren := fun n => if n = 0 then some ⟨0, 0, 3, true⟩ else if n = 1 then sl.map (fun q => ⟨q.1, q.2, 0, true⟩) else none
def mem1 (row : List Value) : Mem := [.cells true ladCells, .cells true row]
theorem mrel1 {W : World} {sl : Option (Nat × Nat)} {row : List Value} (hl : ∀ (i : Nat) (v : Value), ladCells[i]? = some v → W.cell? ⟨0, i, none⟩ = some v)
    (hr : ∀ b o, sl = some (b, o) → b < W.heap.size ∧ ∀ (i : Nat) (v : Value), row[i]? = some v → W.cell? ⟨b, o + i, none⟩ = some v ∧ flat v = true) : SRel Tryd.prog [0] (phi1 sl) (mem1 row) W := by
  have h0 := hl 0 _ rfl
  refine ⟨⟨fun n l hn => ?_, fun n l k hn hk => ?_, fun n m l l' k k' hn hm hk hk' hw _ _ => ?_⟩, fun g hg => ?_⟩
  · unfold phi1 at hn
    split at hn
    · rename_i e; subst e; cases hn
      exact ⟨by simp [mem1], World.block_lt_of_cell? W _ h0⟩
    · split at hn
      · rename_i e; subst e
        cases sl with
        | none => cases hn
        | some q =>
          cases hn
          exact ⟨by simp [mem1], (hr q.1 q.2 rfl).1⟩
      · cases hn
  · unfold phi1 at hn
    split at hn
    · rename_i e; subst e; cases hn; cases hk
      refine ⟨rfl, fun i v hv => ⟨v, by simpa using hl i v hv, .flat ?_⟩, fun h => by cases h⟩
      match i, hv with
      | 0, hv => cases hv; rfl
      | 1, hv => cases hv; rfl
      | 2, hv => cases hv; rfl
      | n + 3, hv => simp [ladCells] at hv
    · split at hn
      · rename_i e; subst e
        cases sl with
        | none => cases hn
        | some q =>
          cases hn; cases hk
          exact ⟨rfl, fun i v hv => ⟨v, ((hr q.1 q.2 rfl).2 i v hv).1, .flat ((hr q.1 q.2 rfl).2 i v hv).2⟩, fun h => by cases h⟩
      · cases hn
  · have : k.wr = false := by
      unfold mem1 at hk
      match n, hk with
      | 0, hk => cases hk; rfl
      | 1, hk => cases hk; rfl
      | n + 2, hk => simp at hk
    rw [this] at hw; cases hw
  · have e : g = 0 := by simpa using hg
    subst e
    exact ⟨_, rfl, rfl, rfl⟩
theorem lad1 (row : List Value) : Lad (mem1 row) := ⟨true, rfl⟩
end Go.Den
set_option linter.unusedVariables false
set_option maxRecDepth 100000
namespace Go.Den
open Go Go.Proofs Go.Deep Go.Joins Go.ChangeShapes Go.WideShapes Go.ChangeAt Go.RowKit
theorem acells4 : Tryd.prog.cellsOf 51 = 4 := by kernel_rfl
def ActsIn (W : World) (v : Value) (acts : List At4) : Prop := (∀ a ∈ acts, a.ok) ∧
  ((v = .slice none 0 0 ∧ acts = []) ∨ ∃ b o cap, v = .slice (some ⟨b, o, none⟩) acts.length cap ∧ acts.length ≤ cap ∧ b < W.heap.size ∧ ∀ (i : Nat) (u : Value), (rowV acts)[i]? = some u → W.cell? ⟨b, o + i, none⟩ = some u ∧ flat u = true)
theorem acts_in {H : Type} {enc : TypeId × Value → H} {W : World} {base : Nat} {ao : Option Addr} {len cap : Nat} {d : DataW H} {p : List MemPlace} (hw : Value.okWide Tryd.prog W .any base 23 (.slice ao len cap))
    (h : DataW.Trod enc Tryd.prog W 0 (fun _ => true) true 23 (.slice ao len cap) d p) : ∃ acts, ActsIn W (.slice ao len cap) acts := by
  obtain ⟨fuel, hf⟩ := h
  rcases open_slice Tryd.underlying23 hf with ⟨hcs, _⟩ | ⟨a, len', cap', m, n, D, Pl, hcs, hb, hl, hm, hmm, hx, hel⟩
  · simp [Value.cells] at hcs
    obtain ⟨rfl, rfl, rfl⟩ := hcs
    exact ⟨[], fun a ha => by simp at ha, .inl ⟨rfl, rfl⟩⟩
  · simp [Value.cells] at hcs
    obtain ⟨rfl, rfl, rfl⟩ := hcs
    simp only [if_true] at hmm
    have hhas : W.has Tryd.prog .any base a 51 cap := by
      simp only [Value.okWide, Tryd.underlying23, Cell.okWide, Cell.ok] at hw
      exact hw.2.2
    obtain ⟨_, hspot, row, cells, hsh, _⟩ := hhas
    obtain ⟨b, off, spot⟩ := a
    simp only at hspot
    subst hspot
    have hbl : b < W.heap.size := by
      unfold World.shape? at hsh
      cases hq : W.heap[b]? with
      | none => rw [hq] at hsh; cases hsh
      | some _ => exact (Array.getElem?_eq_some_iff.1 hq).1
    have each : ∀ i, i < len → ∃ x : At4, x.ok ∧ W.cell? ⟨b, off + i * 4, none⟩ = some (.int .u8 x.k) ∧ W.cell? ⟨b, off + i * 4 + 1, none⟩ = some (.int .u8 x.a) ∧ W.cell? ⟨b, off + i * 4 + 2, none⟩ = some (.int .u8 x.b) ∧ W.cell? ⟨b, off + i * 4 + 3, none⟩ = some (.int .u8 x.c) := by
      intro i hi
      obtain ⟨cs', h1, h2⟩ := hel i (by omega)
      rw [acells4] at h1
      obtain ⟨_, hlen, hcell⟩ := World.cells?_some h1
      obtain ⟨xs, k, hk, hxy, _, hxl, hfl⟩ := DataW.trod_struct Tryd.underlying51 h2
      have g0 := hfl 0 _ rfl
      have g1 := hfl 1 _ rfl
      have g2 := hfl 2 _ rfl
      have g3 := hfl 3 _ rfl
      have c1 : Tryd.prog.cellsOf 5 = 1 := by kernel_rfl
      match cs', hlen with
      | [v0, v1, v2, v3], _ =>
        simp [c1] at g0 g1 g2 g3
        have e0 := hcell 0 (by omega)
        have e1 := hcell 1 (by omega)
        have e2 := hcell 2 (by omega)
        have e3 := hcell 3 (by omega)
        obtain ⟨y0, hy0⟩ : ∃ y, xs[0]? = some y := ⟨_, List.getElem?_eq_getElem (by rw [hxl]; simp)⟩
        rw [hy0] at g0
        obtain ⟨a0, q0, _, w0⟩ := DataW.trod_int Tryd.underlying5 g0
        obtain ⟨y1, hy1⟩ : ∃ y, xs[1]? = some y := ⟨_, List.getElem?_eq_getElem (by rw [hxl]; simp)⟩
        rw [hy1] at g1
        obtain ⟨a1, q1, _, w1⟩ := DataW.trod_int Tryd.underlying5 g1
        obtain ⟨y2, hy2⟩ : ∃ y, xs[2]? = some y := ⟨_, List.getElem?_eq_getElem (by rw [hxl]; simp)⟩
        rw [hy2] at g2
        obtain ⟨a2, q2, _, w2⟩ := DataW.trod_int Tryd.underlying5 g2
        obtain ⟨y3, hy3⟩ : ∃ y, xs[3]? = some y := ⟨_, List.getElem?_eq_getElem (by rw [hxl]; simp)⟩
        rw [hy3] at g3
        obtain ⟨a3, q3, _, w3⟩ := DataW.trod_int Tryd.underlying5 g3
        simp only [List.cons.injEq, and_true] at q0 q1 q2 q3
        subst q0 q1 q2 q3
        have ad : ∀ x y, ((⟨b, off, none⟩ : Addr).add x).add y = ⟨b, off + x + y, none⟩ := fun x y => by rw [Go.Deep.add_add]; unfold Addr.add; split <;> simp_all <;> omega
        rw [ad] at e0 e1 e2 e3
        try simp only [acells4] at e0 e1 e2 e3
        have r0 := bounds_u8 w0
        have r1 := bounds_u8 w1
        have r2 := bounds_u8 w2
        have r3 := bounds_u8 w3
        exact ⟨⟨a0, a1, a2, a3⟩, ⟨by dsimp only; omega, by dsimp only; omega, by dsimp only; omega, by dsimp only; omega⟩, e0, e1, e2, e3⟩
    haveI : Inhabited At4 := ⟨⟨0, 0, 0, 0⟩⟩
    obtain ⟨act, hact⟩ := choose_lt each
    refine ⟨(List.range len).map act, fun x hx => ?_, .inr ⟨b, off, cap, by simp, by simpa using hl, hbl, fun i u hu => ?_⟩⟩
    · simp at hx
      obtain ⟨j, hj, rfl⟩ := hx
      exact (hact j hj).1
    · obtain ⟨j, hj, r, hr, rfl, hc⟩ := rowV_idx _ _ _ hu
      simp at hj
      have hk : Cel.k At4 = 4 := rfl
      rw [hk] at hr ⊢
      obtain ⟨_, h0, h1, h2, h3⟩ := hact j hj
      simp only [List.getElem_map, List.getElem_range] at hc
      have hr4 : r = 0 ∨ r = 1 ∨ r = 2 ∨ r = 3 := by omega
      rcases hr4 with rfl | rfl | rfl | rfl
      · cases hc; exact ⟨by simpa [Nat.add_assoc] using h0, rfl⟩
      · cases hc; exact ⟨by simpa [Nat.add_assoc] using h1, rfl⟩
      · cases hc; exact ⟨by simpa [Nat.add_assoc] using h2, rfl⟩
      · cases hc; exact ⟨by simpa [Nat.add_assoc] using h3, rfl⟩
def placeOf : Value → Option (Nat × Nat)
  | .slice (some a) _ _ => some (a.block, a.off)
  | _ => none
def inAs (k : Nat) : Value → Value
  | .slice (some _) n _ => .slice (some ⟨1, 0, none⟩) n k
  | v => v
theorem acts_rel {W : World} {v : Value} {acts : List At4} (hl : ∀ (i : Nat) (v : Value), ladCells[i]? = some v → W.cell? ⟨0, i, none⟩ = some v) (h : ActsIn W v acts) :
    SRel Tryd.prog [0] (phi1 (placeOf v)) (mem1 (rowV acts)) W ∧ VRel (phi1 (placeOf v)) (inAs 4 v) v ∧ RowAt (mem1 (rowV acts)) (inAs 4 v) acts := by
  rcases h.2 with ⟨rfl, rfl⟩ | ⟨b, o, cap, rfl, h1, h2, h3⟩
  · exact ⟨mrel1 hl (fun b o e => by cases e), .flat rfl, RowAt.nil _⟩
  · refine ⟨mrel1 hl (fun b' o' e => by cases e; exact ⟨h2, h3⟩), ?_, RowAt.all (b := 1) (ro := true) rfl⟩
    exact VRel.slice (a := ⟨1, 0, none⟩) (l := ⟨b, o, 0, true⟩) rfl rfl h1 (.inl rfl) (.inl rfl) (fun e => by cases e)
end Go.Den
set_option linter.unusedVariables false
set_option maxRecDepth 100000
namespace Go.Den
open Go Go.Proofs Go.RowKit
def TB (W : World) : Prop := ∀ (i : Nat) (v : Value), ladCells[i]? = some v → W.cell? ⟨0, i, none⟩ = some v
theorem tb_of {W : World} (hT : Lib.TabIs Tryd.prog W "paybook/cycle.ladder" .i64 [1, 3, 7]) : TB W := by
  intro i v hv
  have hi : i < 3 := (List.getElem?_eq_some_iff.1 hv).1
  have hc := hT.cell (g := 0) (by kernel_rfl) i hi
  rw [hc]
  match i, hv with
  | 0, hv => cases hv; rfl
  | 1, hv => cases hv; rfl
  | 2, hv => cases hv; rfl
  | n + 3, hv => simp [ladCells] at hv
theorem othersCalls (a0 : Int) (ao : Option Addr) (len cap : Nat) (act : List At4) (c0 c1 c2 c3 : Int) (W : World) (w0 : (Lit.int .u16 a0).wf = true) (w1 : ActsIn W (.slice ao len cap) act)
    (w20 : (Lit.int .u8 c0).wf = true) (w21 : (Lit.int .u8 c1).wf = true) (w22 : (Lit.int .u8 c2).wf = true) (w23 : (Lit.int .u8 c3).wf = true) (hT : TB W) :
    Calls Tryd.prog 6 #[.int .u16 a0, .slice ao len cap, .agg #[.int .u8 c0, .int .u8 c1, .int .u8 c2, .int .u8 c3]] W fun e W' => e = .returned (.bool true) ∧ RowKit.Below W.heap.size W W' := by
  have b0 := bounds_u16 w0
  have r0 := bounds_u8 w20
  have r1 := bounds_u8 w21
  have r2 := bounds_u8 w22
  have r3 := bounds_u8 w23
  obtain ⟨hS, hV, hR⟩ := acts_rel hT w1
  refine FSem.law (x := .bool true) (FSem.mono (others_s a0 (by omega) (by omega) act w1.1 ⟨c0, c1, c2, c3⟩ ⟨by dsimp only; omega, by dsimp only; omega, by dsimp only; omega, by dsimp only; omega⟩ (lad1 _) hR) fun v H' h => h.1) rfl hS ?_ ?_
  · refine ⟨rfl, fun i v u hv hu => ?_⟩
    match i, hv, hu with
    | 0, hv, hu => cases hv; cases hu; exact .flat rfl
    | 1, hv, hu => cases hv; cases hu; exact hV
    | 2, hv, hu =>
      cases hv; cases hu
      refine .agg rfl fun j v u hv hu => ?_
      match j, hv, hu with
      | 0, hv, hu => cases hv; cases hu; exact .flat rfl
      | 1, hv, hu => cases hv; cases hu; exact .flat rfl
      | 2, hv, hu => cases hv; cases hu; exact .flat rfl
      | 3, hv, hu => cases hv; cases hu; exact .flat rfl
      | n + 4, hv, hu => simp at hv
    | n + 3, hv, hu => simp at hv
  · intro n k hk
    match n, hk with
    | 0, hk => cases hk; rfl
    | 1, hk => cases hk; rfl
    | n + 2, hk => simp [mem1] at hk
end Go.Den
