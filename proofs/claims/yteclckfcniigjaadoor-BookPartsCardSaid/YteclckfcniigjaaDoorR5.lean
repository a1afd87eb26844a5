/- A part of the proof. -/
import Derived.KernelRfl
import Derived.Deep.Slices
import Derived.WideShapes
import Derived.RowKit
import Derived.OpenShut
import Derived.Lib.SmallJoins
import Derived.ChangeOld
import Derived.ProofKit
import Derived.LaidMore
import Derived.Laws.LoneSync
import Derived.DeepKeys4
import Derived.Lib.LaidTab
import Derived.Test.YteclckfcniigjaaDoorK4
set_option linter.all false
namespace Go.Den
open Go Go.Proofs
set_option maxRecDepth 100000
set_option maxHeartbeats 1000000
set_option linter.all false
attribute [local simp] evOps evOp absOp absBox absLoad absStore absField absIndexAddr absCells absBinOp absBin absInt absShift absUn absPick absNil absExtract absPlaces Instr.fill absBuiltin absMinMax plainV plainT allA flat cells_agg cells_int cells_bool cells_str cells_ptr cells_sl cells_map one_int one_bool one_str one_ptr one_sl one_map Act.eval Act.put Region.wanted yielded absCall TypeDesc.isRow
attribute [local simp high] bk_t bk_p bk_take bk_row BkL_len sp_bk sp_t sp_p
attribute [local simp] sp_nil sp_0 sp_s List.length_set
theorem bpass_s (k : Nat) (b : Bk) (n : Int) {sp : Value} {l : List As} {H : Mem} (hB : BkAt H sp l b) (hk : BOk k b) (hk3 : k ≤ 300000000) (hu : UnOk b.pls) : FSem Tryd.prog [0] 32 #[bkv b.today sp l, .int .i64 n] H fun v H' => BkRes H sp (passB b n) v H' := by
  refine FSem.ofK Tryd.func32 rfl ?_
  refine DK.from (b' := ⟨#[bkv b.today sp l, .int .i64 n, undef, undef, undef, undef, undef, undef, undef, undef, undef, undef, undef, undef, undef, undef, undef, undef, undef, undef, undef, undef, undef, undef, undef, undef, undef, undef, undef, undef, undef, undef, undef, undef, undef, undef, undef, undef, undef, undef, undef, undef, undef, undef, undef, undef, undef, undef, undef, undef, undef, undef, undef, undef, undef, undef, undef, undef], []⟩) (by kernel_rfl) ?_
  have m0 := True.intro
  have m1 := True.intro
  have qq := True.intro
  have hs0 := True.intro
  have hs1 := True.intro
  have hli := True.intro
  have hi0 := True.intro
  have hi1 := True.intro
  have hi3 := True.intro
  have hpt := True.intro
  have hcc := True.intro
  have hcd := True.intro
  have hce := True.intro
  have hwr := True.intro
  have hspl := True.intro
  obtain ⟨hsp0, hsp1⟩ := hB.pls.cells
  have hone := bk_ones hsp1
  have hl32 := hB.len
  have hB32 := hk.len
  refine DK.seq ?_
  refine DK.region (is := [0, 1, 2]) (by kernel_rfl) rfl ?_
  refine WK.run (rest := []) [0, 1, 2] (by simp [m0, m1, qq, hs0, hs1, hone, hsp0, hsp1, hl32, hli, hi0, hi1, hi3, hpt, hcc, hcd, hce, hwr, hspl, absIndex]; constructor <;> rfl) ?_
  refine WK.nil ?_
  refine DK.abs (fun M0 => AtM H [BkL b.today sp l, BkL 0 (.slice none 0 0) zL] M0) (AtM.start H [] [_, _]) ?_
  try clear hM
  rintro M0 hM
  replace m0 := hM.own 0 (by simp)
  replace m1 := hM.own 1 (by simp)
  simp only [List.getElem_cons_zero, List.getElem_cons_succ, Nat.add_zero] at m0 m1
  replace qq := hM.q2
  refine DK.scope ?_
  refine DK.seq ?_
  refine DK.seq ?_
  refine DK.region (is := [0, 1, 2, 3, 4]) (by kernel_rfl) rfl ?_
  refine WK.run (rest := []) [0, 1, 2, 3, 4] (by simp [m0, m1, qq, hs0, hs1, hone, hsp0, hsp1, hl32, hli, hi0, hi1, hi3, hpt, hcc, hcd, hce, hwr, hspl, absIndex]; constructor <;> rfl) ?_
  refine WK.nil ?_
  refine DK.test rfl rfl (fun h => ?_) (fun h => ?_)
  · try simp only [h]
    replace h := Tr.out h
    refine DK.seq ?_
    refine DK.region (is := [0, 1, 2]) (by kernel_rfl) rfl ?_
    refine WK.run (rest := []) [0, 1, 2] (by simp [m0, m1, qq, hs0, hs1, hone, hsp0, hsp1, hl32, hli, hi0, hi1, hi3, hpt, hcc, hcd, hce, hwr, hspl, absIndex]; constructor <;> rfl) ?_
    refine WK.nil ?_
    refine DK.abs (fun MZ => AtM H [BkL b.today sp l, BkL 0 (.slice none 0 0) zL] MZ) (hM.set (i := 1) (by simp) _) ?_
    try clear hM
    rintro MZ hM
    replace m0 := hM.own 0 (by simp)
    replace m1 := hM.own 1 (by simp)
    simp only [List.getElem_cons_zero, List.getElem_cons_succ, Nat.add_zero] at m0 m1
    replace qq := hM.q2
    have hres : passB b n = (zeroB, 6) := if_pos ‹_›
    have hBk := BkAt.zero MZ
    refine DK.ret ?_
    refine And.intro (Or.inr rfl) ?_
    refine ⟨_, by simp [absAnswer, absResults, absResult, Tryd.f32, m0, m1, qq, hs0, hs1, hsp0, hsp1, hl32, hli, hone]; rfl, ?_⟩
    exact ⟨_, _, by rw [hres]; rfl, by rw [hres]; exact hBk, hM.keep, by intro c hc; first | exact .inl hc | cases hc⟩
  try simp only [h]
  replace h := Fa.out h
  refine DK.skip ?_
  refine DK.seq ?_
  refine DK.region (is := [0, 1, 2, 3, 4, 5]) (by kernel_rfl) rfl ?_
  refine WK.run (rest := []) [0, 1, 2, 3, 4, 5] (by simp [m0, m1, qq, hs0, hs1, hone, hsp0, hsp1, hl32, hli, hi0, hi1, hi3, hpt, hcc, hcd, hce, hwr, hspl, absIndex]; constructor <;> rfl) ?_
  refine WK.nil ?_
  refine DK.abs (fun M1 => AtM H [BkL (IntKind.i64.wrap (b.today + n)) sp l, BkL 0 (.slice none 0 0) zL] M1) (hM.set (i := 0) (by simp) _) ?_
  try clear hM
  rintro M1 hM
  replace m0 := hM.own 0 (by simp)
  replace m1 := hM.own 1 (by simp)
  simp only [List.getElem_cons_zero, List.getElem_cons_succ, Nat.add_zero] at m0 m1
  replace qq := hM.q2
  refine DK.seq ?_
  refine DK.label ?_
  refine DK.seq ?_
  refine DK.seq ?_
  refine DK.region (is := [0, 1, 2]) (by kernel_rfl) rfl ?_
  refine WK.run (rest := []) [0, 1, 2] (by simp [m0, m1, qq, hs0, hs1, hone, hsp0, hsp1, hl32, hli, hi0, hi1, hi3, hpt, hcc, hcd, hce, hwr, hspl, absIndex]; constructor <;> rfl) ?_
  refine WK.nil ?_
  refine DK.block ?_
  refine DK.loopG [5, 6, 7, 8, 9, 10, 11, 25, 26, 27, 28, 29, 30, 31, 32, 33, 34, 35, 36, 37, 38, 39, 40, 41, 42, 43, 44, 45, 46, 47, 48, 49, 50, 51, 52, 53, 54, 55, 56] (fun fl vs H' => ∃ (i : Int) (li : List As) (dn : List Ac) (j5 j6 j7 j8 j9 j10 j11 j26 j27 j28 j29 j30 j31 j32 j33 j34 j35 j36 j37 j38 j39 j40 j41 j42 j43 j44 j45 j46 j47 j48 j49 j50 j51 j52 j53 j54 j55 j56 : Value), vs = [j5, j6, j7, j8, j9, j10, j11, .int .i64 i, j26, j27, j28, j29, j30, j31, j32, j33, j34, j35, j36, j37, j38, j39, j40, j41, j42, j43, j44, j45, j46, j47, j48, j49, j50, j51, j52, j53, j54, j55, j56] ∧ (AtM H [BkL (IntKind.i64.wrap (b.today + n)) sp li, BkL 0 (.slice none 0 0) zL] H' ∧ ∀ y ∈ li, OpenAt H' y.s y.a.op) ∧ 0 ≤ i ∧ i ≤ 32 ∧ li.length = 32 ∧ li.map As.a = dn ++ b.subs.drop i.toNat ∧ dn.length = i.toNat ∧ passL b.pls (IntKind.i64.wrap (b.today + n)) b.subs = passJ dn (passL b.pls (IntKind.i64.wrap (b.today + n)) (b.subs.drop i.toNat)) ∧ (∀ y ∈ li, blkOf y.s ≠ some H.length ∧ blkOf y.s ≠ some (H.length + 1)) ∧ fl = (32 - i).toNat) (32) (by kernel_rfl) ?_ ?_
  · refine ⟨_, l, [], _, _, _, _, _, _, _, _, _, _, _, _, _, _, _, _, _, _, _, _, _, _, _, _, _, _, _, _, _, _, _, _, _, _, _, _, _, _, rfl, ?_⟩
    exact ⟨⟨hM, fun y hy => (hB.op y hy).keep hM.keep⟩, by omega, by omega, hl32, by simpa using hB.map, rfl, passJ_0 _ _ _, fun y hy => ⟨(hB.op y hy).ne (Nat.le_refl _), (hB.op y hy).ne (by omega)⟩, by omega⟩
  rintro fl _ M ⟨i, li, dn, j5, j6, j7, j8, j9, j10, j11, j26, j27, j28, j29, j30, j31, j32, j33, j34, j35, j36, j37, j38, j39, j40, j41, j42, j43, j44, j45, j46, j47, j48, j49, j50, j51, j52, j53, j54, j55, j56, rfl, hf⟩
  try clear hM
  obtain ⟨⟨hM, hop⟩, hj0, hj1, hli1, hmp, hdn, hpj, hnn, hfl⟩ := hf
  replace hli := hli1
  replace m0 := hM.own 0 (by simp)
  replace m1 := hM.own 1 (by simp)
  simp only [List.getElem_cons_zero, List.getElem_cons_succ, Nat.add_zero] at m0 m1
  replace qq := hM.q2
  refine DK.from (by simp [setL]; exact rfl) ?_
  refine DK.seq ?_
  refine DK.region (is := [0]) (by kernel_rfl) rfl ?_
  refine WK.run (rest := []) [0] (by simp [m0, m1, qq, hs0, hs1, hone, hsp0, hsp1, hl32, hli, hi0, hi1, hi3, hpt, hcc, hcd, hce, hwr, hspl, absIndex]; constructor <;> rfl) ?_
  refine WK.nil ?_
  refine DK.seq ?_
  refine DK.test rfl rfl (fun h => ?_) (fun h => ?_)
  · try simp only [h]
    replace h := Tr.out h
    replace hi0 : 0 ≤ i := hj0
    replace hi1 : i < 32 := h
    replace hi3 : 2 + i.toNat * 13 ≤ 405 := by omega
    replace hwr : IntKind.i64.wrap (i + 1) = i + 1 := wrap_in _ (by omega) (by omega)
    obtain ⟨x, hx1, hxa, hxb, hxl, hxo, hpt1⟩ := hB.nth (i := i.toNat) (by omega)
    replace hpt := hpt1
    replace hs0 := hxo.cells.1
    replace hs1 := hxo.cells.2
    have hdr : b.subs.drop i.toNat = x.a :: b.subs.drop (i.toNat + 1) := by rw [List.drop_eq_getElem_cons hx1, hxa]
    refine DK.skip ?_
    refine DK.seq ?_
    refine DK.block ?_
    refine DK.seq ?_
    refine DK.region (is := [0, 1, 2, 3, 4]) (by kernel_rfl) rfl ?_
    refine WK.run (rest := []) [0, 1, 2, 3, 4] (by simp [m0, m1, qq, hs0, hs1, hone, hsp0, hsp1, hl32, hli, hi0, hi1, hi3, hpt, hcc, hcd, hce, hwr, hspl, absIndex]; constructor <;> rfl) ?_
    refine WK.nil ?_
    refine DK.abs (fun MA => AtM H [BkL (IntKind.i64.wrap (b.today + n)) sp li, BkL 0 (.slice none 0 0) zL] MA ∧ MA[M.length]? = some (.cells false (x.a.l x.s)) ∧ (∀ y ∈ li, OpenAt MA y.s y.a.op)) ⟨hM.on (Keep.app _ _), by simp, fun y hy => (hop y hy).app _⟩ ?_
    try clear hM
    try clear hcc
    try clear hop
    rintro MA ⟨hM, hcc, hop⟩
    replace m0 := hM.own 0 (by simp)
    replace m1 := hM.own 1 (by simp)
    simp only [List.getElem_cons_zero, List.getElem_cons_succ, Nat.add_zero] at m0 m1
    replace qq := hM.q2
    refine DK.seq ?_
    refine DK.seq ?_
    refine DK.region (is := [0, 1, 2]) (by kernel_rfl) rfl ?_
    refine WK.run (rest := []) [0, 1, 2] (by simp [m0, m1, qq, hs0, hs1, hone, hsp0, hsp1, hl32, hli, hi0, hi1, hi3, hpt, hcc, hcd, hce, hwr, hspl, absIndex]; constructor <;> rfl) ?_
    refine WK.nil ?_
    refine DK.test rfl rfl (fun h => ?_) (fun h => ?_)
    · try simp only [h]
      replace h := Tr.out h
      refine DK.exit ?_
      refine DK.region (is := [0, 1]) (by kernel_rfl) rfl ?_
      refine WK.run (rest := []) [0, 1] (by simp [m0, m1, qq, hs0, hs1, hone, hsp0, hsp1, hl32, hli, hi0, hi1, hi3, hpt, hcc, hcd, hce, hwr, hspl, absIndex]; constructor <;> rfl) ?_
      refine WK.nil ?_
      refine ⟨by kernel_rfl, (32 - (i + 1)).toNat, ?_, _, li, dn ++ [x.a], _, _, _, _, _, _, _, _, _, _, _, _, _, _, _, _, _, _, _, _, _, _, _, _, _, _, _, _, _, _, _, _, _, _, _, _, _, _, rfl, ?_⟩
      · omega
      · rw [hdr, passJ_skip ‹_›] at hpj
        rw [show (i + 1).toNat = i.toNat + 1 by omega]
        exact ⟨⟨hM, hop⟩, by omega, by omega, hli, by rw [hmp, hdr]; simp, by simp [hdn], hpj, hnn, rfl⟩
    try simp only [h]
    replace h := Fa.out h
    refine DK.skip ?_
    refine DK.seq ?_
    refine DK.region (is := [0, 1, 2, 3, 4, 5, 6, 7, 8, 9, 10]) (by kernel_rfl) rfl ?_
    refine WK.run (rest := [4, 5, 6, 7, 8, 9, 10]) [0, 1, 2, 3] (by simp [m0, m1, qq, hs0, hs1, hone, hsp0, hsp1, hl32, hli, hi0, hi1, hi3, hpt, hcc, hcd, hce, hwr, hspl, absIndex]; constructor <;> rfl) ?_
    refine WK.call rfl (by simp [m0, m1, qq, hs0, hs1, hone, hsp0, hsp1, hl32, hli, hi0, hi1, hi3, hpt, hcc, hcd, hce, hwr, hspl, absIndex]) (by simp [Tryd.func55, Tryd.f55, m0, m1, qq, hs0, hs1, hone, hsp0, hsp1, hl32, hli, hi0, hi1, hi3, hpt, hcc, hcd, hce, hwr, hspl, absIndex]; constructor <;> rfl) ?_
    refine FSem.mono (getp_g b.pls x.a.pl (hB.pls.keep hM.keep)) ?_
    rintro _ Hq ⟨p, e1, rfl, hgp, hq⟩
    subst hq
    refine WK.run (rest := []) [5, 6, 7, 8, 9, 10] (by simp [m0, m1, qq, hs0, hs1, hone, hsp0, hsp1, hl32, hli, hi0, hi1, hi3, hpt, hcc, hcd, hce, hwr, hspl, absIndex]; constructor <;> rfl) ?_
    refine WK.nil ?_
    refine DK.abs (fun MB => AtM H [BkL (IntKind.i64.wrap (b.today + n)) sp li, BkL 0 (.slice none 0 0) zL] MB ∧ MB[MA.length]? = some (.cells false p.l) ∧ MB[M.length]? = some (.cells false (x.a.l x.s)) ∧ (∀ y ∈ li, OpenAt MB y.s y.a.op)) ⟨hM.on (Keep.app _ _), by simp, by rw [List.getElem?_append_left (List.getElem?_eq_some_iff.1 hcc).1]; exact hcc, fun y hy => (hop y hy).app _⟩ ?_
    try clear hM
    try clear hcd
    try clear hcc
    try clear hop
    rintro MB ⟨hM, hcd, hcc, hop⟩
    replace m0 := hM.own 0 (by simp)
    replace m1 := hM.own 1 (by simp)
    simp only [List.getElem_cons_zero, List.getElem_cons_succ, Nat.add_zero] at m0 m1
    replace qq := hM.q2
    replace hs0 := hxo.cells.1
    replace hs1 := hxo.cells.2
    refine DK.seq ?_
    refine DK.region (is := [0, 1, 2, 3, 4, 5, 6, 7, 8, 9, 10]) (by kernel_rfl) rfl ?_
    refine WK.run (rest := [4, 5, 6, 7, 8, 9, 10]) [0, 1, 2, 3] (by simp [m0, m1, qq, hs0, hs1, hone, hsp0, hsp1, hl32, hli, hi0, hi1, hi3, hpt, hcc, hcd, hce, hwr, hspl, absIndex]; constructor <;> rfl) ?_
    refine WK.call rfl (by simp [m0, m1, qq, hs0, hs1, hone, hsp0, hsp1, hl32, hli, hi0, hi1, hi3, hpt, hcc, hcd, hce, hwr, hspl, absIndex]) (by simp [Tryd.func56, Tryd.f56, m0, m1, qq, hs0, hs1, hone, hsp0, hsp1, hl32, hli, hi0, hi1, hi3, hpt, hcc, hcd, hce, hwr, hspl, absIndex]; constructor <;> rfl) ?_
    refine FSem.mono (day_g x.a p (IntKind.i64.wrap (b.today + n)) (by have := getP_un hu x.a.pl; rw [hgp] at this; exact this) (hxo.keep hM.keep) (by have := hk.subs _ (hxa ▸ List.getElem_mem hx1); have := dayN_le this.1; omega)) ?_
    rintro _ M3 ⟨x2, e2, s2, rfl, hdy, hA, hO2, hF2⟩
    have hMB := hM
    replace hM := hM.on (Keep.of hA)
    replace hop := fun y hy => (hop y hy).keep (Keep.of hA)
    replace m0 := hM.own 0 (by simp)
    replace m1 := hM.own 1 (by simp)
    simp only [List.getElem_cons_zero, List.getElem_cons_succ, Nat.add_zero] at m0 m1
    replace qq := hM.q2
    replace hs0 := hO2.cells.1
    replace hs1 := hO2.cells.2
    have hspl1 := sp_at (t := (IntKind.i64.wrap (b.today + n))) (sp := sp) (l := li) (i := i.toNat) (by omega) ⟨x2, s2, hs1⟩
    replace hspl := hspl1
    simp only [Ac.l] at hspl
    refine WK.run (rest := []) [5, 6, 7, 8, 9, 10] (by simp [m0, m1, qq, hs0, hs1, hone, hsp0, hsp1, hl32, hli, hi0, hi1, hi3, hpt, hcc, hcd, hce, hwr, hspl, absIndex]; constructor <;> rfl) ?_
    refine WK.nil ?_
    refine DK.abs (fun MC => AtM H [BkL (IntKind.i64.wrap (b.today + n)) sp li, BkL 0 (.slice none 0 0) zL] MC ∧ MC[M3.length]? = some (.cells false (x2.l s2)) ∧ OpenAt MC s2 x2.op ∧ (∀ y ∈ li, OpenAt MC y.s y.a.op)) ⟨hM.on (Keep.app _ _), by simp, hO2.app _, fun y hy => (hop y hy).app _⟩ ?_
    try clear hM
    try clear hce
    try clear hO2
    try clear hop
    rintro MC ⟨hM, hce, hO2, hop⟩
    replace m0 := hM.own 0 (by simp)
    replace m1 := hM.own 1 (by simp)
    simp only [List.getElem_cons_zero, List.getElem_cons_succ, Nat.add_zero] at m0 m1
    replace qq := hM.q2
    refine DK.seq ?_
    refine DK.seq ?_
    refine DK.region (is := [0, 1]) (by kernel_rfl) rfl ?_
    refine WK.run (rest := []) [0, 1] (by simp [m0, m1, qq, hs0, hs1, hone, hsp0, hsp1, hl32, hli, hi0, hi1, hi3, hpt, hcc, hcd, hce, hwr, hspl, absIndex]; constructor <;> rfl) ?_
    refine WK.nil ?_
    refine DK.test rfl rfl (fun h => ?_) (fun h => ?_)
    · try simp only [h]
      replace h := Tr.out h
      refine DK.seq ?_
      refine DK.region (is := [0, 1, 2, 3]) (by kernel_rfl) rfl ?_
      refine WK.run (rest := []) [0, 1, 2, 3] (by simp [m0, m1, qq, hs0, hs1, hone, hsp0, hsp1, hl32, hli, hi0, hi1, hi3, hpt, hcc, hcd, hce, hwr, hspl, absIndex]; constructor <;> rfl) ?_
      refine WK.nil ?_
      refine DK.abs (fun MZ => AtM H [BkL (IntKind.i64.wrap (b.today + n)) sp li, BkL 0 (.slice none 0 0) zL] MZ) (hM.set (i := 1) (by simp) _) ?_
      try clear hM
      rintro MZ hM
      replace m0 := hM.own 0 (by simp)
      replace m1 := hM.own 1 (by simp)
      simp only [List.getElem_cons_zero, List.getElem_cons_succ, Nat.add_zero] at m0 m1
      replace qq := hM.q2
      have hres : passB b n = (zeroB, e2) := by
        have e := passJ_err (done := dn) (rest := b.subs.drop (i.toNat + 1)) ‹¬x.a.st = 0› (by rw [hgp]; exact hdy) ‹e2 ≠ 0›
        rw [hdr, e] at hpj
        unfold passB; rw [if_neg ‹_›]; simp only [hpj]; rw [if_pos ‹_›]
      have hBk := BkAt.zero MZ
      refine DK.ret ?_
      refine And.intro (Or.inr rfl) ?_
      refine ⟨_, by simp [absAnswer, absResults, absResult, Tryd.f32, m0, m1, qq, hs0, hs1, hsp0, hsp1, hl32, hli, hone]; rfl, ?_⟩
      exact ⟨_, _, by rw [hres]; rfl, by rw [hres]; exact hBk, hM.keep, by intro c hc; first | exact .inl hc | cases hc⟩
    try simp only [h]
    replace h := Fa.out h
    refine DK.skip ?_
    refine DK.region (is := [0, 1, 2, 3, 4]) (by kernel_rfl) rfl ?_
    refine WK.run (rest := []) [0, 1, 2, 3, 4] (by simp [m0, m1, qq, hs0, hs1, hone, hsp0, hsp1, hl32, hli, hi0, hi1, hi3, hpt, hcc, hcd, hce, hwr, hspl, absIndex]; constructor <;> rfl) ?_
    refine WK.nil ?_
    refine DK.region (is := [0, 1]) (by kernel_rfl) rfl ?_
    refine WK.run (rest := []) [0, 1] (by simp [m0, m1, qq, hs0, hs1, hone, hsp0, hsp1, hl32, hli, hi0, hi1, hi3, hpt, hcc, hcd, hce, hwr, hspl, absIndex]; constructor <;> rfl) ?_
    refine WK.nil ?_
    refine ⟨by kernel_rfl, (32 - (i + 1)).toNat, ?_, _, li.set i.toNat ⟨x2, s2, hs1⟩, dn ++ [x2], _, _, _, _, _, _, _, _, _, _, _, _, _, _, _, _, _, _, _, _, _, _, _, _, _, _, _, _, _, _, _, _, _, _, _, _, _, _, rfl, ?_⟩
    · omega
    · rw [hdr, passJ_go ‹¬x.a.st = 0› (by rw [hgp]; exact hdy) ‹e2 = 0›] at hpj
      rw [hdr] at hmp
      rw [show (i + 1).toNat = i.toNat + 1 by omega]
      have hs2n : blkOf s2 ≠ some H.length ∧ blkOf s2 ≠ some (H.length + 1) := ⟨hF2.ne (hMB.lt (i := 0) (by simp)), hF2.ne (hMB.lt (i := 1) (by simp))⟩
      refine ⟨⟨hM.set (i := 0) (by simp) _, fun y hy => ?_⟩, by omega, by omega, by rw [List.length_set]; exact hli, map_set_mid hmp hdn, by simp [hdn], hpj, fun y hy => ?_, rfl⟩
      · rcases List.mem_or_eq_of_mem_set hy with q | rfl
        · exact (hop y q).set (hnn y q).1 _
        · exact hO2.set hs2n.1 _
      · rcases List.mem_or_eq_of_mem_set hy with q | rfl
        · exact hnn y q
        · exact hs2n
  try simp only [h]
  replace h := Fa.out h
  refine DK.exit ?_
  refine DK.seq ?_
  refine DK.region (is := [0, 1, 2]) (by kernel_rfl) rfl ?_
  refine WK.run (rest := []) [0, 1, 2] (by simp [m0, m1, qq, hs0, hs1, hone, hsp0, hsp1, hl32, hli, hi0, hi1, hi3, hpt, hcc, hcd, hce, hwr, hspl, absIndex]; constructor <;> rfl) ?_
  refine WK.nil ?_
  refine DK.abs (fun MF => AtM H [BkL (IntKind.i64.wrap (b.today + n)) sp li, BkL (IntKind.i64.wrap (b.today + n)) sp li] MF ∧ (∀ y ∈ li, OpenAt MF y.s y.a.op)) ⟨hM.set (i := 1) (by simp) _, fun y hy => ((hop y hy).set (hnn y hy).2 _)⟩ ?_
  try clear hM
  try clear hop
  rintro MF ⟨hM, hop⟩
  replace m0 := hM.own 0 (by simp)
  replace m1 := hM.own 1 (by simp)
  simp only [List.getElem_cons_zero, List.getElem_cons_succ, Nat.add_zero] at m0 m1
  replace qq := hM.q2
  have hi : i = 32 := by omega
  subst hi
  have hres : passB b n = (⟨(IntKind.i64.wrap (b.today + n)), b.pls, dn⟩, 0) := by
    rw [show b.subs.drop (32 : Int).toNat = [] from List.drop_of_length_le (by rw [hB32]; decide), passJ_nil] at hpj
    unfold passB; rw [if_neg ‹_›]; simp only [hpj]; rw [if_neg (by simp)]
  have hBk : BkAt MF sp li ⟨(IntKind.i64.wrap (b.today + n)), b.pls, dn⟩ := ⟨hB.pls.keep hM.keep, by rw [hmp, List.drop_of_length_le (by rw [hB32]; decide), List.append_nil], hli, hop⟩
  refine DK.ret ?_
  refine And.intro (Or.inr rfl) ?_
  refine ⟨_, by simp [absAnswer, absResults, absResult, Tryd.f32, m0, m1, qq, hs0, hs1, hsp0, hsp1, hl32, hli, hone]; rfl, ?_⟩
  exact ⟨_, _, by rw [hres]; rfl, by rw [hres]; exact hBk, hM.keep, by intro c hc; first | exact .inl hc | cases hc⟩
end Go.Den
set_option linter.unusedVariables false
set_option maxRecDepth 100000
namespace Go.Den
open Go Go.Proofs
theorem addp_g (l : List Pl) (p : Pl) {s : Value} {H : Mem} (hR : RowAt H s l) : FSem Tryd.prog [0] 30 #[s, p.v] H fun v H' => ∃ pl k e s', v = .tuple #[s', .int .i64 k, .int .i64 e] ∧ addPl l p = (pl, k, e) ∧ RowOut H pl s' H' := by
  refine FSem.mono (addp_s l p hR) ?_
  rintro v H' ⟨s', rfl, h⟩
  exact ⟨_, _, _, s', rfl, rfl, h⟩
theorem bopen_g (k : Nat) (b : Bk) (o : Od) {sp : Value} {l : List As} {H : Mem} (hB : BkAt H sp l b) (hk : BOk k b) (hu : UnOk b.pls) (h0 : 0 ≤ o.su) (h1 : o.su < 32) : FSem Tryd.prog [0] 31 #[bkv b.today sp l, o.v] H fun v H' => ∃ x e s', v = .tuple #[Ac.v x s', .int .i64 e] ∧ openB b o = (x, e) ∧ AcOut H x H' s' := by
  refine FSem.mono (bopen_s k b o hB hk hu h0 h1) ?_
  rintro v H' ⟨s', rfl, h⟩
  exact ⟨_, _, s', rfl, rfl, h⟩
theorem bturn_g (k : Nat) (b : Bk) (a : Ac) (o : Od) {sp : Value} {l : List As} {H : Mem} (hB : BkAt H sp l b) (hk : BOk k b) (hu : UnOk b.pls) {s : Value} (hO : OpenAt H s a.op) (hn : a.op.length ≤ 1000000000000) : FSem Tryd.prog [0] 34 #[bkv b.today sp l, a.v s, o.v] H fun v H' => ∃ x e s', v = .tuple #[Ac.v x s', .int .i64 e] ∧ turnB b a o = (x, e) ∧ AcOut H x H' s' := by
  refine FSem.mono (bturn_s k b a o hB hk hu hO hn) ?_
  rintro v H' ⟨s', rfl, h⟩
  exact ⟨_, _, s', rfl, rfl, h⟩
theorem ahear_g (su : Int) (a : Ac) (n : Nt) (today : Int) {s : Value} {H : Mem} (hL : Lad H) (hO : OpenAt H s a.op) (hn : a.op.length ≤ 1000000000000) : FSem Tryd.prog [0] 33 #[.int .i64 su, a.v s, n.v, .int .i64 today] H fun v H' => ∃ x e s', v = .tuple #[Ac.v x s', .int .i64 e] ∧ hearA su a n today = (x, e) ∧ AcOut H x H' s' := by
  refine FSem.mono (ahear_s su a n today hL hO hn) ?_
  rintro v H' ⟨s', rfl, h⟩
  exact ⟨_, _, s', rfl, rfl, h⟩
theorem bpass_g (k : Nat) (b : Bk) (n : Int) {sp : Value} {l : List As} {H : Mem} (hB : BkAt H sp l b) (hk : BOk k b) (hk3 : k ≤ 300000000) (hu : UnOk b.pls) : FSem Tryd.prog [0] 32 #[bkv b.today sp l, .int .i64 n] H fun v H' => ∃ b' e sp' l', v = .tuple #[bkv b'.today sp' l', .int .i64 e] ∧ passB b n = (b', e) ∧ BkAt H' sp' l' b' ∧ l'.length = 32 ∧ sp'.oneCell' = true ∧ sp'.cells = #[sp'] ∧ Keep H H' ∧ ∀ c, blkOf sp' = some c → blkOf sp = some c ∨ H.length ≤ c := by
  refine FSem.mono (bpass_s k b n hB hk hk3 hu) ?_
  rintro v H' ⟨sp', l', rfl, h, hk, hsb⟩
  exact ⟨_, _, sp', l', rfl, rfl, h, h.len, h.pls.cells.2, h.pls.cells.1, hk, hsb⟩
def BkFree (sp : Value) (l : List As) (k : Nat) : Prop := blkOf sp ≠ some k ∧ ∀ x ∈ l, blkOf x.s ≠ some k
theorem BkAt.set {H : Mem} {sp : Value} {l : List As} {b : Bk} (h : BkAt H sp l b) {k : Nat} (hf : BkFree sp l k) (x : Blk) : BkAt (H.set k x) sp l b := ⟨h.pls.set hf.1 _, h.map, h.len, fun y hy => (h.op y hy).set (hf.2 y hy) _⟩
theorem BkAt.free {H : Mem} {sp : Value} {l : List As} {b : Bk} (h : BkAt H sp l b) {k : Nat} (hk : H.length ≤ k) : BkFree sp l k := ⟨fun e => by have := h.pls.lt e; omega, fun y hy => (h.op y hy).ne hk⟩
theorem BkFree.put {sp : Value} {l : List As} {k i : Nat} {x : As} (h : BkFree sp l k) (hx : blkOf x.s ≠ some k) : BkFree sp (l.set i x) k := ⟨h.1, fun y hy => by
  rcases List.mem_or_eq_of_mem_set hy with q | rfl
  · exact h.2 y q
  · exact hx⟩
theorem BkAt.fre {H : Mem} {sp : Value} {l : List As} {b : Bk} (h : BkAt H sp l b) {k : Nat} {ro : Bool} {vs : List Value} (hk : H[k]? = some (.cells ro vs)) (hv : vs.length % 8 ≠ 0) (hs : blkOf sp ≠ some k) : BkFree sp l k := ⟨hs, fun y hy => (h.op y hy).far hk hv⟩
theorem put_ok {b : Bk} {i : Int} {x : Ac} {e : Int} : b.put i (x, e) = if e ≠ 0 then (zeroB, e) else ({ b with subs := b.subs.set i.toNat x }, 0) := rfl
end Go.Den
namespace Go.Den
open Go Go.Proofs
set_option maxRecDepth 100000
set_option maxHeartbeats 1000000
set_option linter.all false
attribute [local simp] evOps evOp absOp absBox absLoad absStore absField absIndexAddr absCells absBinOp absBin absInt absShift absUn absPick absNil absExtract absPlaces Instr.fill absBuiltin absMinMax plainV plainT allA flat cells_agg cells_int cells_bool cells_str cells_ptr cells_sl cells_map one_int one_bool one_str one_ptr one_sl one_map Act.eval Act.put Region.wanted yielded absCall TypeDesc.isRow
attribute [local simp high] bk_t bk_p bk_take bk_row BkL_len sp_bk sp_t sp_p
attribute [local simp] sp_nil sp_0 sp_s List.length_set
theorem step_s (k : Nat) (b : Bk) (o : Od) {sp : Value} {l : List As} {H : Mem} (hB : BkAt H sp l b) (hL : Lad H) (hk : BOk k b) (hk3 : k ≤ 300000000) (hu : UnOk b.pls) : FSem Tryd.prog [0] 16 #[bkv b.today sp l, o.v] H fun v H' => BkRes H sp (stepB b o) v H' := by
  refine FSem.ofK Tryd.func16 rfl ?_
  refine DK.from (b' := ⟨#[bkv b.today sp l, o.v, undef, undef, undef, undef, undef, undef, undef, undef, undef, undef, undef, undef, undef, undef, undef, undef, undef, undef, undef, undef, undef, undef, undef, undef, undef, undef, undef, undef, undef, undef, undef, undef, undef, undef, undef, undef, undef, undef, undef, undef, undef, undef, undef, undef, undef, undef, undef, undef, undef, undef, undef, undef, undef, undef, undef, undef, undef, undef, undef, undef, undef, undef, undef, undef, undef, undef, undef, undef, undef, undef, undef, undef, undef, undef, undef, undef, undef, undef, undef, undef, undef, undef, undef, undef, undef, undef, undef, undef, undef, undef, undef, undef, undef, undef, undef, undef], []⟩) (by kernel_rfl) ?_
  have m0 := True.intro
  have m1 := True.intro
  have m2 := True.intro
  have qq := True.intro
  have hs0 := True.intro
  have hs1 := True.intro
  have hi0 := True.intro
  have hi1 := True.intro
  have hi2 := True.intro
  have hi3 := True.intro
  have hst := True.intro
  have htk := True.intro
  have hspl := True.intro
  have hcc := True.intro
  have hst2 := True.intro
  have hsp2 := True.intro
  have hsp3 := True.intro
  have hone2 := True.intro
  obtain ⟨hsp0, hsp1⟩ := hB.pls.cells
  have hone := bk_ones hsp1
  have hl32 := hB.len
  refine DK.seq ?_
  refine DK.region (is := [0, 1, 2, 3]) (by kernel_rfl) rfl ?_
  refine WK.run (rest := []) [0, 1, 2, 3] (by simp [m0, m1, m2, qq, hs0, hs1, hone, hsp0, hsp1, hl32, hi0, hi1, hi2, hi3, hst, htk, hspl, hcc, hst2, hsp2, hsp3, hone2]; constructor <;> rfl) ?_
  refine WK.nil ?_
  refine DK.abs (fun M0 => AtM H [BkL b.today sp l, o.l, BkL 0 (.slice none 0 0) zL] M0) (AtM.start H [] [_, _, _]) ?_
  try clear hM
  rintro M0 hM
  replace m0 := hM.own 0 (by simp)
  replace m1 := hM.own 1 (by simp)
  replace m2 := hM.own 2 (by simp)
  simp only [List.getElem_cons_zero, List.getElem_cons_succ, Nat.add_zero] at m0 m1 m2
  replace qq := hM.q3
  refine DK.seq ?_
  refine DK.seq ?_
  refine DK.region (is := [0, 1, 2]) (by kernel_rfl) rfl ?_
  refine WK.run (rest := [1, 2]) [0] (by simp [m0, m1, m2, qq, hs0, hs1, hone, hsp0, hsp1, hl32, hi0, hi1, hi2, hi3, hst, htk, hspl, hcc, hst2, hsp2, hsp3, hone2]; constructor <;> rfl) ?_
  refine WK.call rfl (by simp [m0, m1, m2, qq, hs0, hs1, hone, hsp0, hsp1, hl32, hi0, hi1, hi2, hi3, hst, htk, hspl, hcc, hst2, hsp2, hsp3, hone2]) (by simp [Tryd.func15, Tryd.f15, m0, m1, m2, qq, hs0, hs1, hone, hsp0, hsp1, hl32, hi0, hi1, hi2, hi3, hst, htk, hspl, hcc, hst2, hsp2, hsp3, hone2]; constructor <;> rfl) ?_
  refine FSem.mono (oright_g o _) ?_
  rintro _ Hq ⟨rfl, hq⟩
  subst hq
  refine WK.run (rest := []) [2] (by simp [m0, m1, m2, qq, hs0, hs1, hone, hsp0, hsp1, hl32, hi0, hi1, hi2, hi3, hst, htk, hspl, hcc, hst2, hsp2, hsp3, hone2]; constructor <;> rfl) ?_
  refine WK.nil ?_
  refine DK.seq ?_
  refine DK.region (is := [0, 1]) (by kernel_rfl) rfl ?_
  refine WK.run (rest := []) [0, 1] (by simp [m0, m1, m2, qq, hs0, hs1, hone, hsp0, hsp1, hl32, hi0, hi1, hi2, hi3, hst, htk, hspl, hcc, hst2, hsp2, hsp3, hone2]; constructor <;> rfl) ?_
  refine WK.nil ?_
  refine DK.test rfl rfl (fun h => ?_) (fun h => ?_)
  · try simp only [h]
    replace h := Tr.out h
    refine DK.seq ?_
    refine DK.region (is := [0, 1, 2, 3]) (by kernel_rfl) rfl ?_
    refine WK.run (rest := []) [0, 1, 2, 3] (by simp [m0, m1, m2, qq, hs0, hs1, hone, hsp0, hsp1, hl32, hi0, hi1, hi2, hi3, hst, htk, hspl, hcc, hst2, hsp2, hsp3, hone2]; constructor <;> rfl) ?_
    refine WK.nil ?_
    refine DK.abs (fun MZ => AtM H [BkL b.today sp l, o.l, BkL 0 (.slice none 0 0) zL] MZ) (hM.set (i := 2) (by simp) _) ?_
    try clear hM
    rintro MZ hM
    replace m0 := hM.own 0 (by simp)
    replace m1 := hM.own 1 (by simp)
    replace m2 := hM.own 2 (by simp)
    simp only [List.getElem_cons_zero, List.getElem_cons_succ, Nat.add_zero] at m0 m1 m2
    replace qq := hM.q3
    have hres : stepB b o = (zeroB, rightO o) := if_pos ‹_›
    have hBk := BkAt.zero MZ
    have hsb : ∀ c, blkOf (.slice none 0 0) = some c → blkOf sp = some c ∨ H.length ≤ c := fun c hc => (by cases hc)
    refine DK.ret ?_
    refine And.intro (Or.inr rfl) ?_
    refine ⟨_, by simp [absAnswer, absResults, absResult, Tryd.f16, m0, m1, m2, qq, hs0, hs1, hsp0, hsp1, hl32, hone, hst2, hsp2, hsp3]; rfl, ?_⟩
    exact ⟨_, _, by rw [hres]; rfl, by rw [hres]; exact hBk, hM.keep, hsb⟩
  try simp only [h]
  replace h := Fa.out h
  have hr0 : rightO o = 0 := h
  obtain ⟨hsu1, hsu2⟩ := rightO_su hr0
  refine DK.skip ?_
  refine DK.seq ?_
  refine DK.region (is := [0]) (by kernel_rfl) rfl ?_
  refine WK.run (rest := []) [0] (by simp [m0, m1, m2, qq, hs0, hs1, hone, hsp0, hsp1, hl32, hi0, hi1, hi2, hi3, hst, htk, hspl, hcc, hst2, hsp2, hsp3, hone2]; constructor <;> rfl) ?_
  refine WK.nil ?_
  refine DK.seq ?_
  refine DK.seq ?_
  refine DK.region (is := [0, 1]) (by kernel_rfl) rfl ?_
  refine WK.run (rest := []) [0, 1] (by simp [m0, m1, m2, qq, hs0, hs1, hone, hsp0, hsp1, hl32, hi0, hi1, hi2, hi3, hst, htk, hspl, hcc, hst2, hsp2, hsp3, hone2]; constructor <;> rfl) ?_
  refine WK.nil ?_
  refine DK.block ?_
  refine DK.seq ?_
  refine DK.region (is := [0, 1]) (by kernel_rfl) rfl ?_
  refine WK.run (rest := []) [0, 1] (by simp [m0, m1, m2, qq, hs0, hs1, hone, hsp0, hsp1, hl32, hi0, hi1, hi2, hi3, hst, htk, hspl, hcc, hst2, hsp2, hsp3, hone2]; constructor <;> rfl) ?_
  refine WK.nil ?_
  refine DK.test rfl rfl (fun h => ?_) (fun h => ?_)
  · try simp only [h]
    replace h := Tr.out h
    refine DK.region (is := [0, 1, 2, 3, 4, 5, 6, 7, 8, 9, 10, 11]) (by kernel_rfl) rfl ?_
    refine WK.run (rest := [4, 5, 6, 7, 8, 9, 10, 11]) [0, 1, 2, 3] (by simp [m0, m1, m2, qq, hs0, hs1, hone, hsp0, hsp1, hl32, hi0, hi1, hi2, hi3, hst, htk, hspl, hcc, hst2, hsp2, hsp3, hone2]; constructor <;> rfl) ?_
    refine WK.call rfl (by simp [m0, m1, m2, qq, hs0, hs1, hone, hsp0, hsp1, hl32, hi0, hi1, hi2, hi3, hst, htk, hspl, hcc, hst2, hsp2, hsp3, hone2]) (by simp [Tryd.func30, Tryd.f30, m0, m1, m2, qq, hs0, hs1, hone, hsp0, hsp1, hl32, hi0, hi1, hi2, hi3, hst, htk, hspl, hcc, hst2, hsp2, hsp3, hone2]; constructor <;> rfl) ?_
    refine FSem.mono (addp_g b.pls o.p (hB.pls.keep hM.keep)) ?_
    rintro _ M3 ⟨pl2, k2, e2, s2, rfl, hap, hA, hR2, hW2, hN2⟩
    have hM0 := hM
    have hF3 : blkOf s2 ≠ some H.length := hN2.ne (hM.lt (i := 0) (by simp))
    replace hM := hM.on (Keep.of hA)
    replace m0 := hM.own 0 (by simp)
    replace m1 := hM.own 1 (by simp)
    replace m2 := hM.own 2 (by simp)
    simp only [List.getElem_cons_zero, List.getElem_cons_succ, Nat.add_zero] at m0 m1 m2
    replace qq := hM.q3
    replace hs0 := hR2.cells.1
    replace hs1 := hR2.cells.2
    refine WK.run (rest := []) [5, 6, 7, 8, 9, 10, 11] (by simp [m0, m1, m2, qq, hs0, hs1, hone, hsp0, hsp1, hl32, hi0, hi1, hi2, hi3, hst, htk, hspl, hcc, hst2, hsp2, hsp3, hone2]; constructor <;> rfl) ?_
    refine WK.nil ?_
    refine DK.abs (fun M4 => AtM H [BkL b.today s2 l, _, _] M4 ∧ RowAt M4 s2 pl2) ⟨hM.set (i := 0) (by simp) _, hR2.set hF3 _⟩ ?_
    try clear hM
    try clear hR2
    rintro M4 ⟨hM, hR2⟩
    replace m0 := hM.own 0 (by simp)
    replace m1 := hM.own 1 (by simp)
    replace m2 := hM.own 2 (by simp)
    simp only [List.getElem_cons_zero, List.getElem_cons_succ, Nat.add_zero] at m0 m1 m2
    replace qq := hM.q3
    have hBk := hB.plsSet hM.keep hR2
    have hres1 : stepB b o = if e2 ≠ 0 then (zeroB, e2) else ({ b with pls := pl2 }, 0) := by
      unfold stepB
      rw [if_neg (by simp [hr0]), if_pos ‹o.kd = 1›, hap]
    have hsb : ∀ c, blkOf s2 = some c → blkOf sp = some c ∨ H.length ≤ c := fun c hc => .inr (Nat.le_trans hM0.keep.1 (hN2 c hc))
    have hfr2 : blkOf s2 ≠ some (H.length + 2) := hN2.ne (hM0.lt (i := 2) (by simp))
    replace hone := bk_ones hs1
    replace hsp1 := hs1
    replace hsp0 := hs0
    refine DK.seq ?_
    refine DK.seq ?_
    refine DK.region (is := [0, 1]) (by kernel_rfl) rfl ?_
    refine WK.run (rest := []) [0, 1] (by simp [m0, m1, m2, qq, hs0, hs1, hone, hsp0, hsp1, hl32, hi0, hi1, hi2, hi3, hst, htk, hspl, hcc, hst2, hsp2, hsp3, hone2]; constructor <;> rfl) ?_
    refine WK.nil ?_
    refine DK.test rfl rfl (fun h => ?_) (fun h => ?_)
    · try simp only [h]
      replace h := Tr.out h
      refine DK.seq ?_
      refine DK.region (is := [0, 1, 2, 3]) (by kernel_rfl) rfl ?_
      refine WK.run (rest := []) [0, 1, 2, 3] (by simp [m0, m1, m2, qq, hs0, hs1, hone, hsp0, hsp1, hl32, hi0, hi1, hi2, hi3, hst, htk, hspl, hcc, hst2, hsp2, hsp3, hone2]; constructor <;> rfl) ?_
      refine WK.nil ?_
      refine DK.abs (fun MZ => AtM H [_, _, BkL 0 (.slice none 0 0) zL] MZ) (hM.set (i := 2) (by simp) _) ?_
      try clear hM
      rintro MZ hM
      replace m0 := hM.own 0 (by simp)
      replace m1 := hM.own 1 (by simp)
      replace m2 := hM.own 2 (by simp)
      simp only [List.getElem_cons_zero, List.getElem_cons_succ, Nat.add_zero] at m0 m1 m2
      replace qq := hM.q3
      have hres : stepB b o = (zeroB, e2) := hres1.trans (if_pos ‹_›)
      replace hBk := BkAt.zero MZ
      replace hsb : ∀ c, blkOf (.slice none 0 0) = some c → blkOf sp = some c ∨ H.length ≤ c := fun c hc => (by cases hc)
      refine DK.ret ?_
      refine And.intro (Or.inr rfl) ?_
      refine ⟨_, by simp [absAnswer, absResults, absResult, Tryd.f16, m0, m1, m2, qq, hs0, hs1, hsp0, hsp1, hl32, hone, hst2, hsp2, hsp3]; rfl, ?_⟩
      exact ⟨_, _, by rw [hres]; rfl, by rw [hres]; exact hBk, hM.keep, hsb⟩
    try simp only [h]
    replace h := Fa.out h
    refine DK.skip ?_
    refine DK.seq ?_
    refine DK.region (is := [0, 1, 2]) (by kernel_rfl) rfl ?_
    refine WK.run (rest := []) [0, 1, 2] (by simp [m0, m1, m2, qq, hs0, hs1, hone, hsp0, hsp1, hl32, hi0, hi1, hi2, hi3, hst, htk, hspl, hcc, hst2, hsp2, hsp3, hone2]; constructor <;> rfl) ?_
    refine WK.nil ?_
    have hres := hres1.trans (if_neg (by simpa using ‹e2 = 0›))
    refine DK.abs (fun MF => AtM H [_, _, _] MF ∧ BkAt MF _ _ _) ⟨hM.set (i := 2) (by simp) _, hBk.set (hBk.fre m2 (by rw [BkL_len (by simp)]; decide) hfr2) _⟩ ?_
    try clear hM
    try clear hBk
    rintro MF ⟨hM, hBk⟩
    replace m0 := hM.own 0 (by simp)
    replace m1 := hM.own 1 (by simp)
    replace m2 := hM.own 2 (by simp)
    simp only [List.getElem_cons_zero, List.getElem_cons_succ, Nat.add_zero] at m0 m1 m2
    replace qq := hM.q3
    refine DK.ret ?_
    refine And.intro (Or.inr rfl) ?_
    refine ⟨_, by simp [absAnswer, absResults, absResult, Tryd.f16, m0, m1, m2, qq, hs0, hs1, hsp0, hsp1, hl32, hone, hst2, hsp2, hsp3]; rfl, ?_⟩
    exact ⟨_, _, by rw [hres]; rfl, by rw [hres]; exact hBk, hM.keep, hsb⟩
  try simp only [h]
  replace h := Fa.out h
  refine DK.seq ?_
  refine DK.region (is := [0, 1]) (by kernel_rfl) rfl ?_
  refine WK.run (rest := []) [0, 1] (by simp [m0, m1, m2, qq, hs0, hs1, hone, hsp0, hsp1, hl32, hi0, hi1, hi2, hi3, hst, htk, hspl, hcc, hst2, hsp2, hsp3, hone2]; constructor <;> rfl) ?_
  refine WK.nil ?_
  refine DK.test rfl rfl (fun h => ?_) (fun h => ?_)
  · try simp only [h]
    replace h := Tr.out h
    have hsu3 := hsu2 (by omega) (by omega) (by omega)
    obtain ⟨x, hxa, hxl, hxo, htk1, hst1, hpt1⟩ := hB.sub (i := o.su) (by omega) (by omega)
    replace hi0 : 0 ≤ o.su := by omega
    replace hi1 : o.su < 32 := by omega
    replace hi2 : 2 + o.su.toNat * 13 ≤ 417 := by omega
    replace hi3 : 2 + o.su.toNat * 13 ≤ 405 := by omega
    replace hst := hst1 b.today
    replace htk := htk1 b.today
    simp only [Ac.l] at htk
    replace hs0 := hxo.cells.1
    replace hs1 := hxo.cells.2
    have hxn : x.a.op.length ≤ 1000000000000 := by rw [hxa]; have := (hk.subs _ (sub_mem hk.len (i := o.su) (by omega) (by omega))).2; omega
    refine DK.draw rfl (POk.of (ord := [0, 1, 2, 3, 8, 4, 5, 6, 7, 9, 10, 11]) (by kernel_rfl)) ?_
    refine XK.run (rest := [4, 5, 6, 7, 9, 10, 11]) [0, 1, 2, 3, 8] (by kernel_rfl) (by simp [m0, m1, m2, qq, hs0, hs1, hone, hsp0, hsp1, hl32, hi0, hi1, hi2, hi3, hst, htk, hspl, hcc, hst2, hsp2, hsp3, hone2]; constructor <;> rfl) ?_
    refine XK.call rfl (by simp [m0, m1, m2, qq, hs0, hs1, hone, hsp0, hsp1, hl32, hi0, hi1, hi2, hi3, hst, htk, hspl, hcc, hst2, hsp2, hsp3, hone2]) rfl (by simp [Tryd.func31, Tryd.f31, m0, m1, m2, qq, hs0, hs1, hone, hsp0, hsp1, hl32, hi0, hi1, hi2, hi3, hst, htk, hspl, hcc, hst2, hsp2, hsp3, hone2]; constructor <;> rfl) ?_
    refine FSem.mono (bopen_g k b o (hB.keep hM.keep) hk hu (by omega) (by omega)) ?_
    rintro _ M3 ⟨x2, e2, s2, rfl, hres0, hA, hO2, hF2⟩
    have hF3 : blkOf s2 ≠ some H.length := hF2.ne (hM.lt (i := 0) (by simp))
    replace hM := hM.on (Keep.of hA)
    replace m0 := hM.own 0 (by simp)
    replace m1 := hM.own 1 (by simp)
    replace m2 := hM.own 2 (by simp)
    simp only [List.getElem_cons_zero, List.getElem_cons_succ, Nat.add_zero] at m0 m1 m2
    replace qq := hM.q3
    replace hs0 := hO2.cells.1
    replace hs1 := hO2.cells.2
    have hspl1 := hB.sp (i := o.su) (by omega) (by omega) b.today ⟨x2, s2, hs1⟩
    replace hspl := hspl1
    simp only [Ac.l] at hspl
    refine And.intro (lag_list (l := [1]) (by kernel_rfl) (lag_cons (lag_one rfl (by simp [m0, m1, m2, qq, hs0, hs1, hone, hsp0, hsp1, hl32, hi0, hi1, hi2, hi3, hst, htk, hspl, hcc, hst2, hsp2, hsp3, hone2]; constructor <;> rfl) rfl (by simp [m0, m1, m2, qq, hs0, hs1, hone, hsp0, hsp1, hl32, hi0, hi1, hi2, hi3, hst, htk, hspl, hcc, hst2, hsp2, hsp3, hone2]) (by simp [sameL, sameV_agg, sameV_int, sameV_bool, sameV_str, sameV_ptr, sameV_sl, sameV_map, same1_int, same1_bool, same1_str, same1_ptr, same1_sl, same1_map, m0, m1, m2, qq, hs0, hs1, hone, hsp0, hsp1, hl32, hi0, hi1, hi2, hi3, hst, htk, hspl, hcc, hst2, hsp2, hsp3, hone2]) rfl) rfl)) ?_
    refine XK.run (rest := [10, 11]) [5, 6, 7, 9] (by kernel_rfl) (by simp [m0, m1, m2, qq, hs0, hs1, hone, hsp0, hsp1, hl32, hi0, hi1, hi2, hi3, hst, htk, hspl, hcc, hst2, hsp2, hsp3, hone2]; constructor <;> rfl) ?_
    refine XK.one rfl (by simp [m0, m1, m2, qq, hs0, hs1, hone, hsp0, hsp1, hl32, hi0, hi1, hi2, hi3, hst, htk, hspl, hcc, hst2, hsp2, hsp3, hone2]) rfl (by simp [m0, m1, m2, qq, hs0, hs1, hone, hsp0, hsp1, hl32, hi0, hi1, hi2, hi3, hst, htk, hspl, hcc, hst2, hsp2, hsp3, hone2]; constructor <;> rfl) (lag_list (l := []) (by kernel_rfl) rfl) ?_
    refine XK.one rfl (by simp [m0, m1, m2, qq, hs0, hs1, hone, hsp0, hsp1, hl32, hi0, hi1, hi2, hi3, hst, htk, hspl, hcc, hst2, hsp2, hsp3, hone2]) rfl (by simp [m0, m1, m2, qq, hs0, hs1, hone, hsp0, hsp1, hl32, hi0, hi1, hi2, hi3, hst, htk, hspl, hcc, hst2, hsp2, hsp3, hone2]; constructor <;> rfl) (lag_list (l := []) (by kernel_rfl) rfl) ?_
    refine XK.nil ?_
    refine DK.abs (fun M4 => AtM H [BkL b.today sp (l.set o.su.toNat ⟨x2, s2, hs1⟩), _, _] M4 ∧ OpenAt M4 s2 x2.op) ⟨hM.set (i := 0) (by simp) _, hO2.set hF3 _⟩ ?_
    try clear hM
    try clear hO2
    rintro M4 ⟨hM, hO2⟩
    replace m0 := hM.own 0 (by simp)
    replace m1 := hM.own 1 (by simp)
    replace m2 := hM.own 2 (by simp)
    simp only [List.getElem_cons_zero, List.getElem_cons_succ, Nat.add_zero] at m0 m1 m2
    replace qq := hM.q3
    have hBk := (hB.keep hM.keep).put (i := o.su) (by omega) (by omega) (x := ⟨x2, s2, hs1⟩) hO2
    have hres1 : stepB b o = if e2 ≠ 0 then (zeroB, e2) else ({ b with subs := b.subs.set o.su.toNat x2 }, 0) := by
      unfold stepB
      rw [if_neg (by simp [hr0]), if_neg ‹¬o.kd = 1›, if_pos ‹o.kd = 2›, hres0, put_ok]
    replace hl32 : (l.set o.su.toNat ⟨x2, s2, hs1⟩).length = 32 := by rw [List.length_set]; exact hl32
    have hsb : ∀ c, blkOf sp = some c → blkOf sp = some c ∨ H.length ≤ c := fun c hc => .inl hc
    have hfr2 : blkOf sp ≠ some (H.length + 2) := fun hc => by have := hB.pls.lt hc; omega
    refine DK.seq ?_
    refine DK.seq ?_
    refine DK.region (is := [0, 1]) (by kernel_rfl) rfl ?_
    refine WK.run (rest := []) [0, 1] (by simp [m0, m1, m2, qq, hs0, hs1, hone, hsp0, hsp1, hl32, hi0, hi1, hi2, hi3, hst, htk, hspl, hcc, hst2, hsp2, hsp3, hone2]; constructor <;> rfl) ?_
    refine WK.nil ?_
    refine DK.test rfl rfl (fun h => ?_) (fun h => ?_)
    · try simp only [h]
      replace h := Tr.out h
      refine DK.seq ?_
      refine DK.region (is := [0, 1, 2, 3]) (by kernel_rfl) rfl ?_
      refine WK.run (rest := []) [0, 1, 2, 3] (by simp [m0, m1, m2, qq, hs0, hs1, hone, hsp0, hsp1, hl32, hi0, hi1, hi2, hi3, hst, htk, hspl, hcc, hst2, hsp2, hsp3, hone2]; constructor <;> rfl) ?_
      refine WK.nil ?_
      refine DK.abs (fun MZ => AtM H [_, _, BkL 0 (.slice none 0 0) zL] MZ) (hM.set (i := 2) (by simp) _) ?_
      try clear hM
      rintro MZ hM
      replace m0 := hM.own 0 (by simp)
      replace m1 := hM.own 1 (by simp)
      replace m2 := hM.own 2 (by simp)
      simp only [List.getElem_cons_zero, List.getElem_cons_succ, Nat.add_zero] at m0 m1 m2
      replace qq := hM.q3
      have hres : stepB b o = (zeroB, e2) := hres1.trans (if_pos ‹_›)
      replace hBk := BkAt.zero MZ
      replace hsb : ∀ c, blkOf (.slice none 0 0) = some c → blkOf sp = some c ∨ H.length ≤ c := fun c hc => (by cases hc)
      refine DK.ret ?_
      refine And.intro (Or.inr rfl) ?_
      refine ⟨_, by simp [absAnswer, absResults, absResult, Tryd.f16, m0, m1, m2, qq, hs0, hs1, hsp0, hsp1, hl32, hone, hst2, hsp2, hsp3]; rfl, ?_⟩
      exact ⟨_, _, by rw [hres]; rfl, by rw [hres]; exact hBk, hM.keep, hsb⟩
    try simp only [h]
    replace h := Fa.out h
    refine DK.skip ?_
    refine DK.seq ?_
    refine DK.region (is := [0, 1, 2]) (by kernel_rfl) rfl ?_
    refine WK.run (rest := []) [0, 1, 2] (by simp [m0, m1, m2, qq, hs0, hs1, hone, hsp0, hsp1, hl32, hi0, hi1, hi2, hi3, hst, htk, hspl, hcc, hst2, hsp2, hsp3, hone2]; constructor <;> rfl) ?_
    refine WK.nil ?_
    have hres := hres1.trans (if_neg (by simpa using ‹e2 = 0›))
    refine DK.abs (fun MF => AtM H [_, _, _] MF ∧ BkAt MF _ _ _) ⟨hM.set (i := 2) (by simp) _, hBk.set (hBk.fre m2 (by rw [BkL_len (by simp)]; decide) hfr2) _⟩ ?_
    try clear hM
    try clear hBk
    rintro MF ⟨hM, hBk⟩
    replace m0 := hM.own 0 (by simp)
    replace m1 := hM.own 1 (by simp)
    replace m2 := hM.own 2 (by simp)
    simp only [List.getElem_cons_zero, List.getElem_cons_succ, Nat.add_zero] at m0 m1 m2
    replace qq := hM.q3
    refine DK.ret ?_
    refine And.intro (Or.inr rfl) ?_
    refine ⟨_, by simp [absAnswer, absResults, absResult, Tryd.f16, m0, m1, m2, qq, hs0, hs1, hsp0, hsp1, hl32, hone, hst2, hsp2, hsp3]; rfl, ?_⟩
    exact ⟨_, _, by rw [hres]; rfl, by rw [hres]; exact hBk, hM.keep, hsb⟩
  try simp only [h]
  replace h := Fa.out h
  refine DK.seq ?_
  refine DK.region (is := [0, 1]) (by kernel_rfl) rfl ?_
  refine WK.run (rest := []) [0, 1] (by simp [m0, m1, m2, qq, hs0, hs1, hone, hsp0, hsp1, hl32, hi0, hi1, hi2, hi3, hst, htk, hspl, hcc, hst2, hsp2, hsp3, hone2]; constructor <;> rfl) ?_
  refine WK.nil ?_
  refine DK.test rfl rfl (fun h => ?_) (fun h => ?_)
  · try simp only [h]
    replace h := Tr.out h
    refine DK.seq ?_
    refine DK.region (is := [0, 1, 2, 3, 4, 5, 6, 7]) (by kernel_rfl) rfl ?_
    refine WK.run (rest := [3, 4, 5, 6, 7]) [0, 1, 2] (by simp [m0, m1, m2, qq, hs0, hs1, hone, hsp0, hsp1, hl32, hi0, hi1, hi2, hi3, hst, htk, hspl, hcc, hst2, hsp2, hsp3, hone2]; constructor <;> rfl) ?_
    refine WK.call rfl (by simp [m0, m1, m2, qq, hs0, hs1, hone, hsp0, hsp1, hl32, hi0, hi1, hi2, hi3, hst, htk, hspl, hcc, hst2, hsp2, hsp3, hone2]) (by simp [Tryd.func32, Tryd.f32, m0, m1, m2, qq, hs0, hs1, hone, hsp0, hsp1, hl32, hi0, hi1, hi2, hi3, hst, htk, hspl, hcc, hst2, hsp2, hsp3, hone2]; constructor <;> rfl) ?_
    refine FSem.mono (bpass_g k b o.n (hB.keep hM.keep) hk hk3 hu) ?_
    rintro _ M3 ⟨b2, e2, sp2, l2, rfl, hres0, hBk, hl2, hsp2, hsp3, hkk, hsb0⟩
    have hsb : ∀ c, blkOf sp2 = some c → blkOf sp = some c ∨ H.length ≤ c := fun c hc => (hsb0 c hc).imp id (fun q => Nat.le_trans hM.keep.1 q)
    have hfr2 : blkOf sp2 ≠ some (H.length + 2) := fun hc => (hsb0 _ hc).elim (fun q => by have := hB.pls.lt q; omega) (fun q => by have := hM.lt (i := 2) (by simp); omega)
    replace hM := hM.on hkk
    replace m0 := hM.own 0 (by simp)
    replace m1 := hM.own 1 (by simp)
    replace m2 := hM.own 2 (by simp)
    simp only [List.getElem_cons_zero, List.getElem_cons_succ, Nat.add_zero] at m0 m1 m2
    replace qq := hM.q3
    replace hst2 := hl2
    have hone2 := bk_ones hsp2
    refine WK.run (rest := []) [4, 5, 6, 7] (by simp [m0, m1, m2, qq, hs0, hs1, hone, hsp0, hsp1, hl32, hi0, hi1, hi2, hi3, hst, htk, hspl, hcc, hst2, hsp2, hsp3, hone2]; constructor <;> rfl) ?_
    refine WK.nil ?_
    refine DK.abs (fun M5 => AtM H [_, _, BkL b2.today sp2 l2] M5 ∧ BkAt M5 sp2 l2 b2) ⟨hM.set (i := 2) (by simp) _, hBk.set (hBk.fre m2 (by rw [BkL_len (by simp)]; decide) hfr2) _⟩ ?_
    try clear hM
    try clear hBk
    rintro M5 ⟨hM, hBk⟩
    replace m0 := hM.own 0 (by simp)
    replace m1 := hM.own 1 (by simp)
    replace m2 := hM.own 2 (by simp)
    simp only [List.getElem_cons_zero, List.getElem_cons_succ, Nat.add_zero] at m0 m1 m2
    replace qq := hM.q3
    have hres : stepB b o = (b2, e2) := by
      unfold stepB
      rw [if_neg (by simp [hr0]), if_neg ‹¬o.kd = 1›, if_neg ‹¬o.kd = 2›, if_pos ‹o.kd = 9›, hres0]
    refine DK.ret ?_
    refine And.intro (Or.inr rfl) ?_
    refine ⟨_, by simp [absAnswer, absResults, absResult, Tryd.f16, m0, m1, m2, qq, hs0, hs1, hsp0, hsp1, hl32, hone, hst2, hsp2, hsp3]; rfl, ?_⟩
    exact ⟨_, _, by rw [hres]; rfl, by rw [hres]; exact hBk, hM.keep, hsb⟩
  try simp only [h]
  replace h := Fa.out h
  refine DK.seq ?_
  refine DK.region (is := [0, 1]) (by kernel_rfl) rfl ?_
  refine WK.run (rest := []) [0, 1] (by simp [m0, m1, m2, qq, hs0, hs1, hone, hsp0, hsp1, hl32, hi0, hi1, hi2, hi3, hst, htk, hspl, hcc, hst2, hsp2, hsp3, hone2]; constructor <;> rfl) ?_
  refine WK.nil ?_
  refine DK.test rfl rfl (fun h => ?_) (fun h => ?_)
  · try simp only [h]
    replace h := Tr.out h
    have hsu3 := hsu1 h
    obtain ⟨x, hxa, hxl, hxo, htk1, hst1, hpt1⟩ := hB.sub (i := o.a.su) (by omega) (by omega)
    replace hi0 : 0 ≤ o.a.su := by omega
    replace hi1 : o.a.su < 32 := by omega
    replace hi2 : 2 + o.a.su.toNat * 13 ≤ 417 := by omega
    replace hi3 : 2 + o.a.su.toNat * 13 ≤ 405 := by omega
    replace hst := hst1 b.today
    replace htk := htk1 b.today
    simp only [Ac.l] at htk
    replace hs0 := hxo.cells.1
    replace hs1 := hxo.cells.2
    have hxn : x.a.op.length ≤ 1000000000000 := by rw [hxa]; have := (hk.subs _ (sub_mem hk.len (i := o.a.su) (by omega) (by omega))).2; omega
    refine DK.draw rfl (POk.of (ord := [0, 1, 2, 3, 4, 5, 6, 7, 8, 9, 10, 11, 12, 13, 14, 15, 20, 16, 17, 18, 19, 21, 22, 23]) (by kernel_rfl)) ?_
    refine XK.run (rest := [8, 9, 10, 11, 12, 13, 14, 15, 20, 16, 17, 18, 19, 21, 22, 23]) [0, 1, 2, 3, 4, 5, 6, 7] (by kernel_rfl) (by simp [m0, m1, m2, qq, hs0, hs1, hone, hsp0, hsp1, hl32, hi0, hi1, hi2, hi3, hst, htk, hspl, hcc, hst2, hsp2, hsp3, hone2]; constructor <;> rfl) ?_
    refine XK.run (rest := [20, 16, 17, 18, 19, 21, 22, 23]) [8, 9, 10, 11, 12, 13, 14, 15] (by kernel_rfl) (by simp [m0, m1, m2, qq, hs0, hs1, hone, hsp0, hsp1, hl32, hi0, hi1, hi2, hi3, hst, htk, hspl, hcc, hst2, hsp2, hsp3, hone2]; constructor <;> rfl) ?_
    refine XK.run (rest := [16, 17, 18, 19, 21, 22, 23]) [20] (by kernel_rfl) (by simp [m0, m1, m2, qq, hs0, hs1, hone, hsp0, hsp1, hl32, hi0, hi1, hi2, hi3, hst, htk, hspl, hcc, hst2, hsp2, hsp3, hone2]; constructor <;> rfl) ?_
    refine XK.call rfl (by simp [m0, m1, m2, qq, hs0, hs1, hone, hsp0, hsp1, hl32, hi0, hi1, hi2, hi3, hst, htk, hspl, hcc, hst2, hsp2, hsp3, hone2]) rfl (by simp [Tryd.func33, Tryd.f33, m0, m1, m2, qq, hs0, hs1, hone, hsp0, hsp1, hl32, hi0, hi1, hi2, hi3, hst, htk, hspl, hcc, hst2, hsp2, hsp3, hone2]; constructor <;> rfl) ?_
    refine FSem.mono (ahear_g o.a.su x.a o.a b.today (hL.keep hM.keep) (hxo.keep hM.keep) hxn) ?_
    rintro _ M3 ⟨x2, e2, s2, rfl, hres0, hA, hO2, hF2⟩
    have hF3 : blkOf s2 ≠ some H.length := hF2.ne (hM.lt (i := 0) (by simp))
    replace hM := hM.on (Keep.of hA)
    replace m0 := hM.own 0 (by simp)
    replace m1 := hM.own 1 (by simp)
    replace m2 := hM.own 2 (by simp)
    simp only [List.getElem_cons_zero, List.getElem_cons_succ, Nat.add_zero] at m0 m1 m2
    replace qq := hM.q3
    replace hs0 := hO2.cells.1
    replace hs1 := hO2.cells.2
    have hspl1 := hB.sp (i := o.a.su) (by omega) (by omega) b.today ⟨x2, s2, hs1⟩
    replace hspl := hspl1
    simp only [Ac.l] at hspl
    refine And.intro (lag_list (l := [2]) (by kernel_rfl) (lag_cons (lag_one rfl (by simp [m0, m1, m2, qq, hs0, hs1, hone, hsp0, hsp1, hl32, hi0, hi1, hi2, hi3, hst, htk, hspl, hcc, hst2, hsp2, hsp3, hone2]; constructor <;> rfl) rfl (by simp [m0, m1, m2, qq, hs0, hs1, hone, hsp0, hsp1, hl32, hi0, hi1, hi2, hi3, hst, htk, hspl, hcc, hst2, hsp2, hsp3, hone2]) (by simp [sameL, sameV_agg, sameV_int, sameV_bool, sameV_str, sameV_ptr, sameV_sl, sameV_map, same1_int, same1_bool, same1_str, same1_ptr, same1_sl, same1_map, m0, m1, m2, qq, hs0, hs1, hone, hsp0, hsp1, hl32, hi0, hi1, hi2, hi3, hst, htk, hspl, hcc, hst2, hsp2, hsp3, hone2]) rfl) rfl)) ?_
    refine XK.run (rest := [22, 23]) [17, 18, 19, 21] (by kernel_rfl) (by simp [m0, m1, m2, qq, hs0, hs1, hone, hsp0, hsp1, hl32, hi0, hi1, hi2, hi3, hst, htk, hspl, hcc, hst2, hsp2, hsp3, hone2]; constructor <;> rfl) ?_
    refine XK.one rfl (by simp [m0, m1, m2, qq, hs0, hs1, hone, hsp0, hsp1, hl32, hi0, hi1, hi2, hi3, hst, htk, hspl, hcc, hst2, hsp2, hsp3, hone2]) rfl (by simp [m0, m1, m2, qq, hs0, hs1, hone, hsp0, hsp1, hl32, hi0, hi1, hi2, hi3, hst, htk, hspl, hcc, hst2, hsp2, hsp3, hone2]; constructor <;> rfl) (lag_list (l := []) (by kernel_rfl) rfl) ?_
    refine XK.one rfl (by simp [m0, m1, m2, qq, hs0, hs1, hone, hsp0, hsp1, hl32, hi0, hi1, hi2, hi3, hst, htk, hspl, hcc, hst2, hsp2, hsp3, hone2]) rfl (by simp [m0, m1, m2, qq, hs0, hs1, hone, hsp0, hsp1, hl32, hi0, hi1, hi2, hi3, hst, htk, hspl, hcc, hst2, hsp2, hsp3, hone2]; constructor <;> rfl) (lag_list (l := []) (by kernel_rfl) rfl) ?_
    refine XK.nil ?_
    refine DK.abs (fun M4 => AtM H [BkL b.today sp (l.set o.a.su.toNat ⟨x2, s2, hs1⟩), _, _] M4 ∧ OpenAt M4 s2 x2.op) ⟨hM.set (i := 0) (by simp) _, hO2.set hF3 _⟩ ?_
    try clear hM
    try clear hO2
    rintro M4 ⟨hM, hO2⟩
    replace m0 := hM.own 0 (by simp)
    replace m1 := hM.own 1 (by simp)
    replace m2 := hM.own 2 (by simp)
    simp only [List.getElem_cons_zero, List.getElem_cons_succ, Nat.add_zero] at m0 m1 m2
    replace qq := hM.q3
    have hBk := (hB.keep hM.keep).put (i := o.a.su) (by omega) (by omega) (x := ⟨x2, s2, hs1⟩) hO2
    have hres1 : stepB b o = if e2 ≠ 0 then (zeroB, e2) else ({ b with subs := b.subs.set o.a.su.toNat x2 }, 0) := by
      unfold stepB
      rw [if_neg (by simp [hr0]), if_neg ‹¬o.kd = 1›, if_neg ‹¬o.kd = 2›, if_neg ‹¬o.kd = 9›, if_pos ‹o.kd = 10›, ← hxa, hres0, put_ok]
    replace hl32 : (l.set o.a.su.toNat ⟨x2, s2, hs1⟩).length = 32 := by rw [List.length_set]; exact hl32
    have hsb : ∀ c, blkOf sp = some c → blkOf sp = some c ∨ H.length ≤ c := fun c hc => .inl hc
    have hfr2 : blkOf sp ≠ some (H.length + 2) := fun hc => by have := hB.pls.lt hc; omega
    refine DK.seq ?_
    refine DK.seq ?_
    refine DK.region (is := [0, 1]) (by kernel_rfl) rfl ?_
    refine WK.run (rest := []) [0, 1] (by simp [m0, m1, m2, qq, hs0, hs1, hone, hsp0, hsp1, hl32, hi0, hi1, hi2, hi3, hst, htk, hspl, hcc, hst2, hsp2, hsp3, hone2]; constructor <;> rfl) ?_
    refine WK.nil ?_
    refine DK.test rfl rfl (fun h => ?_) (fun h => ?_)
    · try simp only [h]
      replace h := Tr.out h
      refine DK.seq ?_
      refine DK.region (is := [0, 1, 2, 3]) (by kernel_rfl) rfl ?_
      refine WK.run (rest := []) [0, 1, 2, 3] (by simp [m0, m1, m2, qq, hs0, hs1, hone, hsp0, hsp1, hl32, hi0, hi1, hi2, hi3, hst, htk, hspl, hcc, hst2, hsp2, hsp3, hone2]; constructor <;> rfl) ?_
      refine WK.nil ?_
      refine DK.abs (fun MZ => AtM H [_, _, BkL 0 (.slice none 0 0) zL] MZ) (hM.set (i := 2) (by simp) _) ?_
      try clear hM
      rintro MZ hM
      replace m0 := hM.own 0 (by simp)
      replace m1 := hM.own 1 (by simp)
      replace m2 := hM.own 2 (by simp)
      simp only [List.getElem_cons_zero, List.getElem_cons_succ, Nat.add_zero] at m0 m1 m2
      replace qq := hM.q3
      have hres : stepB b o = (zeroB, e2) := hres1.trans (if_pos ‹_›)
      replace hBk := BkAt.zero MZ
      replace hsb : ∀ c, blkOf (.slice none 0 0) = some c → blkOf sp = some c ∨ H.length ≤ c := fun c hc => (by cases hc)
      refine DK.ret ?_
      refine And.intro (Or.inr rfl) ?_
      refine ⟨_, by simp [absAnswer, absResults, absResult, Tryd.f16, m0, m1, m2, qq, hs0, hs1, hsp0, hsp1, hl32, hone, hst2, hsp2, hsp3]; rfl, ?_⟩
      exact ⟨_, _, by rw [hres]; rfl, by rw [hres]; exact hBk, hM.keep, hsb⟩
    try simp only [h]
    replace h := Fa.out h
    refine DK.skip ?_
    refine DK.seq ?_
    refine DK.region (is := [0, 1, 2]) (by kernel_rfl) rfl ?_
    refine WK.run (rest := []) [0, 1, 2] (by simp [m0, m1, m2, qq, hs0, hs1, hone, hsp0, hsp1, hl32, hi0, hi1, hi2, hi3, hst, htk, hspl, hcc, hst2, hsp2, hsp3, hone2]; constructor <;> rfl) ?_
    refine WK.nil ?_
    have hres := hres1.trans (if_neg (by simpa using ‹e2 = 0›))
    refine DK.abs (fun MF => AtM H [_, _, _] MF ∧ BkAt MF _ _ _) ⟨hM.set (i := 2) (by simp) _, hBk.set (hBk.fre m2 (by rw [BkL_len (by simp)]; decide) hfr2) _⟩ ?_
    try clear hM
    try clear hBk
    rintro MF ⟨hM, hBk⟩
    replace m0 := hM.own 0 (by simp)
    replace m1 := hM.own 1 (by simp)
    replace m2 := hM.own 2 (by simp)
    simp only [List.getElem_cons_zero, List.getElem_cons_succ, Nat.add_zero] at m0 m1 m2
    replace qq := hM.q3
    refine DK.ret ?_
    refine And.intro (Or.inr rfl) ?_
    refine ⟨_, by simp [absAnswer, absResults, absResult, Tryd.f16, m0, m1, m2, qq, hs0, hs1, hsp0, hsp1, hl32, hone, hst2, hsp2, hsp3]; rfl, ?_⟩
    exact ⟨_, _, by rw [hres]; rfl, by rw [hres]; exact hBk, hM.keep, hsb⟩
  try simp only [h]
  replace h := Fa.out h
  have hsu3 := hsu2 (by omega) (by omega) (by omega)
  obtain ⟨x, hxa, hxl, hxo, htk1, hst1, hpt1⟩ := hB.sub (i := o.su) (by omega) (by omega)
  replace hi0 : 0 ≤ o.su := by omega
  replace hi1 : o.su < 32 := by omega
  replace hi2 : 2 + o.su.toNat * 13 ≤ 417 := by omega
  replace hi3 : 2 + o.su.toNat * 13 ≤ 405 := by omega
  replace hst := hst1 b.today
  replace htk := htk1 b.today
  simp only [Ac.l] at htk
  replace hs0 := hxo.cells.1
  replace hs1 := hxo.cells.2
  have hxn : x.a.op.length ≤ 1000000000000 := by rw [hxa]; have := (hk.subs _ (sub_mem hk.len (i := o.su) (by omega) (by omega))).2; omega
  refine DK.seq ?_
  refine DK.region (is := [0, 1, 2, 3, 4, 5, 6]) (by kernel_rfl) rfl ?_
  refine WK.run (rest := []) [0, 1, 2, 3, 4, 5, 6] (by simp [m0, m1, m2, qq, hs0, hs1, hone, hsp0, hsp1, hl32, hi0, hi1, hi2, hi3, hst, htk, hspl, hcc, hst2, hsp2, hsp3, hone2]; constructor <;> rfl) ?_
  refine WK.nil ?_
  refine DK.abs (fun M1 => AtM H [BkL b.today sp l, o.l, BkL 0 (.slice none 0 0) zL] M1 ∧ M1[M0.length]? = some (.cells false (x.a.l x.s))) ⟨hM.on (Keep.app _ _), by simp⟩ ?_
  try clear hM
  try clear hcc
  rintro M1 ⟨hM, hcc⟩
  replace m0 := hM.own 0 (by simp)
  replace m1 := hM.own 1 (by simp)
  replace m2 := hM.own 2 (by simp)
  simp only [List.getElem_cons_zero, List.getElem_cons_succ, Nat.add_zero] at m0 m1 m2
  replace qq := hM.q3
  refine DK.seq ?_
  refine DK.seq ?_
  refine DK.region (is := [0, 1, 2]) (by kernel_rfl) rfl ?_
  refine WK.run (rest := []) [0, 1, 2] (by simp [m0, m1, m2, qq, hs0, hs1, hone, hsp0, hsp1, hl32, hi0, hi1, hi2, hi3, hst, htk, hspl, hcc, hst2, hsp2, hsp3, hone2]; constructor <;> rfl) ?_
  refine WK.nil ?_
  refine DK.test rfl rfl (fun h => ?_) (fun h => ?_)
  · try simp only [h]
    replace h := Tr.out h
    refine DK.seq ?_
    refine DK.region (is := [0, 1, 2]) (by kernel_rfl) rfl ?_
    refine WK.run (rest := []) [0, 1, 2] (by simp [m0, m1, m2, qq, hs0, hs1, hone, hsp0, hsp1, hl32, hi0, hi1, hi2, hi3, hst, htk, hspl, hcc, hst2, hsp2, hsp3, hone2]; constructor <;> rfl) ?_
    refine WK.nil ?_
    refine DK.abs (fun MZ => AtM H [BkL b.today sp l, o.l, BkL 0 (.slice none 0 0) zL] MZ) (hM.set (i := 2) (by simp) _) ?_
    try clear hM
    rintro MZ hM
    replace m0 := hM.own 0 (by simp)
    replace m1 := hM.own 1 (by simp)
    replace m2 := hM.own 2 (by simp)
    simp only [List.getElem_cons_zero, List.getElem_cons_succ, Nat.add_zero] at m0 m1 m2
    replace qq := hM.q3
    have hres : stepB b o = (zeroB, 2) := by
      unfold stepB
      rw [if_neg (by simp [hr0]), if_neg ‹¬o.kd = 1›, if_neg ‹¬o.kd = 2›, if_neg ‹¬o.kd = 9›, if_neg ‹¬o.kd = 10›, if_pos (by rw [← hxa]; assumption)]
    have hBk := BkAt.zero MZ
    have hsb : ∀ c, blkOf (.slice none 0 0) = some c → blkOf sp = some c ∨ H.length ≤ c := fun c hc => (by cases hc)
    refine DK.ret ?_
    refine And.intro (Or.inr rfl) ?_
    refine ⟨_, by simp [absAnswer, absResults, absResult, Tryd.f16, m0, m1, m2, qq, hs0, hs1, hsp0, hsp1, hl32, hone, hst2, hsp2, hsp3]; rfl, ?_⟩
    exact ⟨_, _, by rw [hres]; rfl, by rw [hres]; exact hBk, hM.keep, hsb⟩
  try simp only [h]
  replace h := Fa.out h
  refine DK.skip ?_
  refine DK.draw rfl (POk.of (ord := [0, 1, 2, 3, 4, 9, 5, 6, 7, 8, 10, 11, 12]) (by kernel_rfl)) ?_
  refine XK.run (rest := [5, 6, 7, 8, 10, 11, 12]) [0, 1, 2, 3, 4, 9] (by kernel_rfl) (by simp [m0, m1, m2, qq, hs0, hs1, hone, hsp0, hsp1, hl32, hi0, hi1, hi2, hi3, hst, htk, hspl, hcc, hst2, hsp2, hsp3, hone2]; constructor <;> rfl) ?_
  refine XK.call rfl (by simp [m0, m1, m2, qq, hs0, hs1, hone, hsp0, hsp1, hl32, hi0, hi1, hi2, hi3, hst, htk, hspl, hcc, hst2, hsp2, hsp3, hone2]) rfl (by simp [Tryd.func34, Tryd.f34, m0, m1, m2, qq, hs0, hs1, hone, hsp0, hsp1, hl32, hi0, hi1, hi2, hi3, hst, htk, hspl, hcc, hst2, hsp2, hsp3, hone2]; constructor <;> rfl) ?_
  refine FSem.mono (bturn_g k b x.a o (hB.keep hM.keep) hk hu (hxo.keep hM.keep) hxn) ?_
  rintro _ M3 ⟨x2, e2, s2, rfl, hres0, hA, hO2, hF2⟩
  have hF3 : blkOf s2 ≠ some H.length := hF2.ne (hM.lt (i := 0) (by simp))
  replace hM := hM.on (Keep.of hA)
  replace m0 := hM.own 0 (by simp)
  replace m1 := hM.own 1 (by simp)
  replace m2 := hM.own 2 (by simp)
  simp only [List.getElem_cons_zero, List.getElem_cons_succ, Nat.add_zero] at m0 m1 m2
  replace qq := hM.q3
  replace hs0 := hO2.cells.1
  replace hs1 := hO2.cells.2
  have hspl1 := hB.sp (i := o.su) (by omega) (by omega) b.today ⟨x2, s2, hs1⟩
  replace hspl := hspl1
  simp only [Ac.l] at hspl
  refine And.intro (lag_list (l := [1]) (by kernel_rfl) (lag_cons (lag_one rfl (by simp [m0, m1, m2, qq, hs0, hs1, hone, hsp0, hsp1, hl32, hi0, hi1, hi2, hi3, hst, htk, hspl, hcc, hst2, hsp2, hsp3, hone2]; constructor <;> rfl) rfl (by simp [m0, m1, m2, qq, hs0, hs1, hone, hsp0, hsp1, hl32, hi0, hi1, hi2, hi3, hst, htk, hspl, hcc, hst2, hsp2, hsp3, hone2]) (by simp [sameL, sameV_agg, sameV_int, sameV_bool, sameV_str, sameV_ptr, sameV_sl, sameV_map, same1_int, same1_bool, same1_str, same1_ptr, same1_sl, same1_map, m0, m1, m2, qq, hs0, hs1, hone, hsp0, hsp1, hl32, hi0, hi1, hi2, hi3, hst, htk, hspl, hcc, hst2, hsp2, hsp3, hone2]) rfl) rfl)) ?_
  refine XK.run (rest := [11, 12]) [6, 7, 8, 10] (by kernel_rfl) (by simp [m0, m1, m2, qq, hs0, hs1, hone, hsp0, hsp1, hl32, hi0, hi1, hi2, hi3, hst, htk, hspl, hcc, hst2, hsp2, hsp3, hone2]; constructor <;> rfl) ?_
  refine XK.one rfl (by simp [m0, m1, m2, qq, hs0, hs1, hone, hsp0, hsp1, hl32, hi0, hi1, hi2, hi3, hst, htk, hspl, hcc, hst2, hsp2, hsp3, hone2]) rfl (by simp [m0, m1, m2, qq, hs0, hs1, hone, hsp0, hsp1, hl32, hi0, hi1, hi2, hi3, hst, htk, hspl, hcc, hst2, hsp2, hsp3, hone2]; constructor <;> rfl) (lag_list (l := []) (by kernel_rfl) rfl) ?_
  refine XK.one rfl (by simp [m0, m1, m2, qq, hs0, hs1, hone, hsp0, hsp1, hl32, hi0, hi1, hi2, hi3, hst, htk, hspl, hcc, hst2, hsp2, hsp3, hone2]) rfl (by simp [m0, m1, m2, qq, hs0, hs1, hone, hsp0, hsp1, hl32, hi0, hi1, hi2, hi3, hst, htk, hspl, hcc, hst2, hsp2, hsp3, hone2]; constructor <;> rfl) (lag_list (l := []) (by kernel_rfl) rfl) ?_
  refine XK.nil ?_
  refine DK.abs (fun M4 => AtM H [BkL b.today sp (l.set o.su.toNat ⟨x2, s2, hs1⟩), _, _] M4 ∧ OpenAt M4 s2 x2.op) ⟨hM.set (i := 0) (by simp) _, hO2.set hF3 _⟩ ?_
  try clear hM
  try clear hO2
  rintro M4 ⟨hM, hO2⟩
  replace m0 := hM.own 0 (by simp)
  replace m1 := hM.own 1 (by simp)
  replace m2 := hM.own 2 (by simp)
  simp only [List.getElem_cons_zero, List.getElem_cons_succ, Nat.add_zero] at m0 m1 m2
  replace qq := hM.q3
  have hBk := (hB.keep hM.keep).put (i := o.su) (by omega) (by omega) (x := ⟨x2, s2, hs1⟩) hO2
  have hres1 : stepB b o = if e2 ≠ 0 then (zeroB, e2) else ({ b with subs := b.subs.set o.su.toNat x2 }, 0) := by
    unfold stepB
    rw [if_neg (by simp [hr0]), if_neg ‹¬o.kd = 1›, if_neg ‹¬o.kd = 2›, if_neg ‹¬o.kd = 9›, if_neg ‹¬o.kd = 10›, if_neg (by rw [← hxa]; assumption), ← hxa, hres0, put_ok]
  replace hl32 : (l.set o.su.toNat ⟨x2, s2, hs1⟩).length = 32 := by rw [List.length_set]; exact hl32
  have hsb : ∀ c, blkOf sp = some c → blkOf sp = some c ∨ H.length ≤ c := fun c hc => .inl hc
  have hfr2 : blkOf sp ≠ some (H.length + 2) := fun hc => by have := hB.pls.lt hc; omega
  refine DK.seq ?_
  refine DK.seq ?_
  refine DK.region (is := [0, 1]) (by kernel_rfl) rfl ?_
  refine WK.run (rest := []) [0, 1] (by simp [m0, m1, m2, qq, hs0, hs1, hone, hsp0, hsp1, hl32, hi0, hi1, hi2, hi3, hst, htk, hspl, hcc, hst2, hsp2, hsp3, hone2]; constructor <;> rfl) ?_
  refine WK.nil ?_
  refine DK.test rfl rfl (fun h => ?_) (fun h => ?_)
  · try simp only [h]
    replace h := Tr.out h
    refine DK.seq ?_
    refine DK.region (is := [0, 1, 2, 3]) (by kernel_rfl) rfl ?_
    refine WK.run (rest := []) [0, 1, 2, 3] (by simp [m0, m1, m2, qq, hs0, hs1, hone, hsp0, hsp1, hl32, hi0, hi1, hi2, hi3, hst, htk, hspl, hcc, hst2, hsp2, hsp3, hone2]; constructor <;> rfl) ?_
    refine WK.nil ?_
    refine DK.abs (fun MZ => AtM H [_, _, BkL 0 (.slice none 0 0) zL] MZ) (hM.set (i := 2) (by simp) _) ?_
    try clear hM
    rintro MZ hM
    replace m0 := hM.own 0 (by simp)
    replace m1 := hM.own 1 (by simp)
    replace m2 := hM.own 2 (by simp)
    simp only [List.getElem_cons_zero, List.getElem_cons_succ, Nat.add_zero] at m0 m1 m2
    replace qq := hM.q3
    have hres : stepB b o = (zeroB, e2) := hres1.trans (if_pos ‹_›)
    replace hBk := BkAt.zero MZ
    replace hsb : ∀ c, blkOf (.slice none 0 0) = some c → blkOf sp = some c ∨ H.length ≤ c := fun c hc => (by cases hc)
    refine DK.ret ?_
    refine And.intro (Or.inr rfl) ?_
    refine ⟨_, by simp [absAnswer, absResults, absResult, Tryd.f16, m0, m1, m2, qq, hs0, hs1, hsp0, hsp1, hl32, hone, hst2, hsp2, hsp3]; rfl, ?_⟩
    exact ⟨_, _, by rw [hres]; rfl, by rw [hres]; exact hBk, hM.keep, hsb⟩
  try simp only [h]
  replace h := Fa.out h
  refine DK.skip ?_
  refine DK.seq ?_
  refine DK.region (is := [0, 1, 2]) (by kernel_rfl) rfl ?_
  refine WK.run (rest := []) [0, 1, 2] (by simp [m0, m1, m2, qq, hs0, hs1, hone, hsp0, hsp1, hl32, hi0, hi1, hi2, hi3, hst, htk, hspl, hcc, hst2, hsp2, hsp3, hone2]; constructor <;> rfl) ?_
  refine WK.nil ?_
  have hres := hres1.trans (if_neg (by simpa using ‹e2 = 0›))
  refine DK.abs (fun MF => AtM H [_, _, _] MF ∧ BkAt MF _ _ _) ⟨hM.set (i := 2) (by simp) _, hBk.set (hBk.fre m2 (by rw [BkL_len (by simp)]; decide) hfr2) _⟩ ?_
  try clear hM
  try clear hBk
  rintro MF ⟨hM, hBk⟩
  replace m0 := hM.own 0 (by simp)
  replace m1 := hM.own 1 (by simp)
  replace m2 := hM.own 2 (by simp)
  simp only [List.getElem_cons_zero, List.getElem_cons_succ, Nat.add_zero] at m0 m1 m2
  replace qq := hM.q3
  refine DK.ret ?_
  refine And.intro (Or.inr rfl) ?_
  refine ⟨_, by simp [absAnswer, absResults, absResult, Tryd.f16, m0, m1, m2, qq, hs0, hs1, hsp0, hsp1, hl32, hone, hst2, hsp2, hsp3]; rfl, ?_⟩
  exact ⟨_, _, by rw [hres]; rfl, by rw [hres]; exact hBk, hM.keep, hsb⟩
end Go.Den
set_option linter.unusedVariables false
set_option maxRecDepth 100000
namespace Go.Den
open Go Go.Proofs
structure At4 where
  (k a b c : Int)
def At4.ok (x : At4) : Prop := (0 ≤ x.k ∧ x.k < 256) ∧ (0 ≤ x.a ∧ x.a < 256) ∧ (0 ≤ x.b ∧ x.b < 256) ∧ (0 ≤ x.c ∧ x.c < 256)
@[simp] def At4.l (x : At4) : List Value := [.int .u8 x.k, .int .u8 x.a, .int .u8 x.b, .int .u8 x.c]
@[simp] def At4.v (x : At4) : Value := .agg #[.int .u8 x.k, .int .u8 x.a, .int .u8 x.b, .int .u8 x.c]
instance : Cel At4 := ⟨At4.l, 4, fun _ => rfl, fun _ => rfl, by decide⟩
def sel4 (i a b c d : Int) : Int := if i = 0 then a else if i = 1 then b else if i = 2 then c else d
def planR (n : Int) : Pl := ⟨sel4 (n % 4) 1000 0 2999 1, n / 4 % 4, 1 + n / 16 % 3, sel4 (n / 48 % 4) 0 0 10 3, decide (n % 3 = 1), decide (n % 7 = 3)⟩
theorem wrap_u8 (n : Int) (h0 : 0 ≤ n) (h1 : n < 256) : IntKind.u8.wrap n = n := by
  simp only [IntKind.wrap, IntKind.bits, IntKind.signed]; simp; omega
theorem tm (a b : Int) (h : 0 ≤ a) : a.tmod b = a % b := Int.tmod_eq_emod_of_nonneg h
theorem td (a b : Int) (h : 0 ≤ a) : a.tdiv b = a / b := Int.tdiv_eq_ediv_of_nonneg h
theorem sel_take (a b c d : Int) {i : Int} (h0 : 0 ≤ i) (h1 : i < 4) : List.take 1 (List.drop i.toNat [Value.int .i64 a, .int .i64 b, .int .i64 c, .int .i64 d]) = [.int .i64 (sel4 i a b c d)] := by
  have : i = 0 ∨ i = 1 ∨ i = 2 ∨ i = 3 := by omega
  rcases this with rfl | rfl | rfl | rfl <;> rfl
theorem bsA (H : Mem) : absBuildSlice Tryd.prog H 103 4 [(0, .int .i64 1000), (1, .int .i64 0), (2, .int .i64 2999), (3, .int .i64 1)] = some (.slice (some ⟨H.length, 0, none⟩) 4 1, H ++ [.cells false [.int .i64 1000, .int .i64 0, .int .i64 2999, .int .i64 1]]) := by kernel_rfl
theorem bsB (H : Mem) : absBuildSlice Tryd.prog H 104 4 [(0, .int .i64 0), (1, .int .i64 0), (2, .int .i64 10), (3, .int .i64 3)] = some (.slice (some ⟨H.length, 0, none⟩) 4 1, H ++ [.cells false [.int .i64 0, .int .i64 0, .int .i64 10, .int .i64 3]]) := by kernel_rfl
theorem bsC (H : Mem) : absBuildSlice Tryd.prog H 72 5 [(0, .int .u8 1), (1, .int .u8 1), (2, .int .u8 1), (3, .int .u8 2), (4, .int .u8 3)] = some (.slice (some ⟨H.length, 0, none⟩) 5 1, H ++ [.cells false [.int .u8 1, .int .u8 1, .int .u8 1, .int .u8 2, .int .u8 3]]) := by kernel_rfl
attribute [simp] bsA bsB bsC
end Go.Den
set_option linter.unusedVariables false
set_option maxRecDepth 100000
namespace Go.Den
open Go Go.Proofs
def Sz (k : Nat) (a : Ac) : Prop := 0 ≤ a.ix ∧ a.op.length ≤ k
theorem Sz.zero (k : Nat) : Sz k zeroA := ⟨by decide, by simp [zeroA]⟩
theorem Sz.le {k m : Nat} {a : Ac} (h : Sz k a) (hm : k ≤ m) : Sz m a := ⟨h.1, Nat.le_trans h.2 hm⟩
theorem closeA_ix (a : Ac) (c : Cy) : (closeA a c).1.ix = a.ix := by unfold closeA; split <;> (try split) <;> (try split) <;> (try split) <;> rfl
theorem dayL_sz {p : Pl} {t : Int} {B : Nat} : ∀ (n : Nat) (a : Ac), Sz B a → Sz (B + n) (dayL p t n a).1
  | 0, a, h => h
  | n + 1, a, h => by
    unfold dayL
    split
    · exact h.le (by omega)
    · split
      · exact h.le (by omega)
      · rename_i h1 h2
        have hf := (nthF_ok (a := a.an) (u := p.un) (e := p.ev) (n := a.ix) (by have : ¬ ((dueA a p).2 ≠ 0) := fun q => h2 (.inl q); simpa [dueA] using this)).1.2.2
        dsimp only
        split
        · exact Sz.zero _
        · have e1 := beginA_ix { a with ix := IntKind.i64.wrap (a.ix + 1) } p (dueA a p).1 (p.la && (decide ((dueA { a with ix := IntKind.i64.wrap (a.ix + 1) } p).2 = 0) && decide ((dueA { a with ix := IntKind.i64.wrap (a.ix + 1) } p).1 ≤ t)))
          have e3 := beginA_op { a with ix := IntKind.i64.wrap (a.ix + 1) } p (dueA a p).1 (p.la && (decide ((dueA { a with ix := IntKind.i64.wrap (a.ix + 1) } p).2 = 0) && decide ((dueA { a with ix := IntKind.i64.wrap (a.ix + 1) } p).1 ≤ t)))
          refine Sz.le (k := B + 1 + n) (dayL_sz (B := B + 1) n _ ⟨?_, ?_⟩) (by omega)
          · rw [e1]; simp only; rw [wrap_in _ (by omega) (by omega)]; omega
          · have := h.2; simp only at e3; omega
theorem dayA_sz {a : Ac} {p : Pl} {t : Int} {k : Nat} (h : Sz k a) : Sz (k + 3652060) (dayA a p t).1 := by
  unfold dayA
  have := dayL_sz (p := p) (t := t) (dayN a) { a with op := a.op.map (fun c => wakeC c t) } (B := k) ⟨h.1, by simpa using h.2⟩
  exact this.le (by have := dayN_le h.1; omega)
theorem settleL_sz {k : Nat} : ∀ (l : List Cy) (a : Ac), 0 ≤ a.ix → a.op.length + l.length ≤ k → Sz k (settleL l a).1
  | [], a, h0, h1 => ⟨h0, by simpa [settleL] using h1⟩
  | c :: l, a, h0, h1 => by
    unfold settleL
    split
    · exact Sz.zero _
    · have := closeA_op a c
      exact settleL_sz l _ (by rw [closeA_ix]; exact h0) (by simp at h1; omega)
theorem settleA_sz {a : Ac} {k : Nat} (h : Sz k a) : Sz k (settleA a).1 := settleL_sz _ _ h.1 (by simpa using h.2)
theorem hearA_sz {su t : Int} {a : Ac} {n : Nt} {k : Nat} (h : Sz k a) : Sz k (hearA su a n t).1 := by
  unfold hearA
  split
  · exact Sz.zero _
  · dsimp only
    split
    · exact Sz.zero _
    · exact settleA_sz ⟨h.1, by simpa using h.2⟩
theorem turnA_sz {a : Ac} {f t : Int} {k : Nat} (h : Sz k a) : Sz k (turnA a f t).1 := by unfold turnA; split; exact Sz.zero _; exact h
theorem skipA_sz {a : Ac} {k : Nat} (h : Sz k a) : Sz k (skipA a).1 := by unfold skipA; split; exact Sz.zero _; exact h
theorem cancelA_sz {a : Ac} {k : Nat} (h : Sz k a) : Sz k (cancelA a).1 := by unfold cancelA; split; exact Sz.zero _; exact settleA_sz ⟨h.1, by simpa using h.2⟩
theorem cardA_sz {a : Ac} {k : Nat} (h : Sz k a) : Sz k (cardA a).1 := by unfold cardA; split; exact Sz.zero _; exact ⟨h.1, by simpa using h.2⟩
theorem changeA_sz {a : Ac} {f t : Pl} {n today : Int} {k : Nat} (h : Sz k a) : Sz k (changeA a f n t today).1 := by
  unfold changeA
  split
  · exact Sz.zero _
  · dsimp only
    split
    · split
      · exact Sz.zero _
      · split
        · exact Sz.zero _
        · exact ⟨by simp, h.2⟩
    · split
      · exact Sz.zero _
      · exact ⟨by simp, h.2⟩
theorem turnB_sz {b : Bk} {a : Ac} {o : Od} {k : Nat} (h : Sz k a) : Sz k (turnB b a o).1 := by
  unfold turnB
  split; exact turnA_sz h
  split; exact turnA_sz h
  split; exact skipA_sz h
  split; exact cancelA_sz h
  split; exact cardA_sz h
  split; exact Sz.zero _
  exact changeA_sz h
theorem openB_sz {b : Bk} {o : Od} {k : Nat} (hk : 3652060 ≤ k) : Sz k (openB b o).1 := by
  unfold openB
  dsimp only
  split; exact Sz.zero _
  split; exact Sz.zero _
  split; exact Sz.zero _
  exact (dayA_sz (k := 0) ⟨by simp [openAc], by simp [openAc]⟩).le (by omega)
theorem passL_sz {pls : List Pl} {t : Int} {k : Nat} : ∀ l : List Ac, (∀ a ∈ l, Sz k a) → (∀ a ∈ (passL pls t l).1, Sz (k + 3652060) a) ∧ ((passL pls t l).2 = 0 → (passL pls t l).1.length = l.length)
  | [], _ => by simp [passL]
  | a :: l, h => by
    have ih := passL_sz (pls := pls) (t := t) l (fun x hx => h x (by simp [hx]))
    have hr : Sz (k + 3652060) (if a.st = 0 then (a, (0 : Int)) else dayA a (getP pls a.pl).1 t).1 := by
      split
      · exact (h a (by simp)).le (by omega)
      · exact dayA_sz (h a (by simp))
    unfold passL
    dsimp only
    generalize (if a.st = 0 then (a, (0 : Int)) else dayA a (getP pls a.pl).1 t) = r at hr
    split
    · rename_i q0; exact ⟨fun x hx => by simp at hx, fun q => absurd q q0⟩
    · split
      · rename_i q0; exact ⟨fun x hx => by simp at hx, fun q => absurd q q0⟩
      · rename_i h1 h2
        refine ⟨fun x hx => ?_, fun _ => by simp [ih.2 (by simpa using h2)]⟩
        simp only [List.mem_cons] at hx
        rcases hx with rfl | hx
        · exact hr
        · exact ih.1 x hx
theorem put_sz {k m : Nat} {b : Bk} {i : Int} {r : Ac × Int} (h : BOk k b) (hm : k ≤ m) (hr : Sz m r.1) (hok : (b.put i r).2 = 0) : BOk m (b.put i r).1 := by
  unfold Bk.put at hok ⊢
  split
  · rename_i q; rw [if_pos q] at hok; exact absurd hok q
  · refine ⟨h.pls, fun a ha => ?_, by simp [h.len]⟩
    rcases List.mem_or_eq_of_mem_set ha with q | rfl
    · exact ⟨(h.subs a q).1, Nat.le_trans (h.subs a q).2 hm⟩
    · exact hr
theorem sub_sz {k : Nat} {b : Bk} (h : BOk k b) (i : Int) : Sz k (b.sub i) := by
  unfold Bk.sub
  rw [List.getD_eq_getElem?_getD]
  cases hc : b.subs[i.toNat]? with
  | none => exact Sz.zero _
  | some a => exact h.subs a (List.mem_of_getElem? hc)
theorem stepB_ok {k : Nat} {b : Bk} {o : Od} (h : BOk k b) (hok : (stepB b o).2 = 0) : BOk (k + 3652060) (stepB b o).1 := by
  unfold stepB at hok ⊢
  split
  · rename_i q; rw [if_pos q] at hok; exact absurd hok q
  · rename_i q0; rw [if_neg q0] at hok
    split
    · rename_i q; rw [if_pos q] at hok
      split
      · rename_i q2; rw [if_pos q2] at hok; exact absurd hok q2
      · rename_i q2
        refine ⟨fun p hp => ?_, fun a ha => ⟨(h.subs a ha).1, Nat.le_trans (h.subs a ha).2 (by omega)⟩, h.len⟩
        unfold addPl at q2 hp
        split at q2
        · rename_i q3; exact absurd q2 (by simpa using q3)
        · rename_i q3
          rw [if_neg q3] at hp
          split at q2
          · simp at q2
          · rename_i q4
            rw [if_neg q4] at hp
            simp only [List.mem_append, List.mem_singleton] at hp
            rcases hp with hp | rfl
            · exact h.pls p hp
            · simpa using q3
    · rename_i q; rw [if_neg q] at hok
      split
      · rename_i q2; rw [if_pos q2] at hok
        exact put_sz h (by omega) (openB_sz (by omega)) hok
      · rename_i q2; rw [if_neg q2] at hok
        split
        · rename_i q3; rw [if_pos q3] at hok
          unfold passB at hok ⊢
          split
          · rename_i q4; rw [if_pos q4] at hok; simp at hok
          · rename_i q4; rw [if_neg q4] at hok
            dsimp only at hok ⊢
            have hs := passL_sz (pls := b.pls) (t := IntKind.i64.wrap (b.today + o.n)) (k := k) b.subs (fun a ha => h.subs a ha)
            split
            · rename_i q5; rw [if_pos q5] at hok; exact absurd hok q5
            · rename_i q5
              exact ⟨h.pls, hs.1, by rw [hs.2 (by simpa using q5)]; exact h.len⟩
        · rename_i q3; rw [if_neg q3] at hok
          split
          · rename_i q4; rw [if_pos q4] at hok
            exact put_sz h (by omega) ((hearA_sz (sub_sz h _)).le (by omega)) hok
          · rename_i q4; rw [if_neg q4] at hok
            split
            · rename_i q5; rw [if_pos q5] at hok; simp at hok
            · rename_i q5; rw [if_neg q5] at hok
              exact put_sz h (by omega) ((turnB_sz (sub_sz h _)).le (by omega)) hok
theorem stepB_un {b : Bk} {o : Od} (h : UnOk b.pls) (ho : 0 ≤ o.p.un) : UnOk (stepB b o).1.pls := by
  have hz : UnOk zeroB.pls := fun p hp => by simp [zeroB] at hp
  have hput : ∀ (i : Int) (r : Ac × Int), UnOk (b.put i r).1.pls := fun i r => by unfold Bk.put; split; exact hz; exact h
  unfold stepB
  split; exact hz
  split
  · split; exact hz
    intro p hp
    unfold addPl at hp
    split at hp
    · simp at hp
    · split at hp
      · simp at hp
      · simp only [List.mem_append, List.mem_singleton] at hp
        rcases hp with hp | rfl
        · exact h p hp
        · exact ho
  split; exact hput _ _
  split
  · unfold passB; split; exact hz
    dsimp only; split; exact hz; exact h
  split; exact hput _ _
  split; exact hz
  exact hput _ _
theorem newB_ok (t : Int) : BOk 0 (newB t) ∧ UnOk (newB t).pls := by
  refine ⟨⟨fun p hp => by simp [newB] at hp, fun a ha => ?_, by simp [newB]⟩, fun p hp => by simp [newB] at hp⟩
  rw [List.eq_of_mem_replicate ha]
  exact ⟨by decide, by simp [zeroA]⟩
end Go.Den
set_option linter.unusedVariables false
set_option maxRecDepth 100000
namespace Go.Den
open Go Go.Proofs
theorem put_err {b : Bk} {i : Int} {r : Ac × Int} (h : (b.put i r).2 ≠ 0) : (b.put i r).1 = zeroB := by
  unfold Bk.put at h ⊢
  split at h
  · rename_i q; rw [if_pos q]
  · exact absurd rfl h
theorem stepB_err {b : Bk} {o : Od} (h : (stepB b o).2 ≠ 0) : (stepB b o).1 = zeroB := by
  unfold stepB at h ⊢
  split
  · rfl
  · rename_i q0; rw [if_neg q0] at h
    split
    · rename_i q; rw [if_pos q] at h
      split
      · rfl
      · rename_i q2; rw [if_neg q2] at h; exact absurd rfl h
    · rename_i q; rw [if_neg q] at h
      split
      · rename_i q2; rw [if_pos q2] at h; exact put_err h
      · rename_i q2; rw [if_neg q2] at h
        split
        · rename_i q3; rw [if_pos q3] at h
          unfold passB at h ⊢
          split
          · rfl
          · rename_i q4; rw [if_neg q4] at h
            dsimp only at h ⊢
            split
            · rfl
            · rename_i q5; rw [if_neg q5] at h; exact absurd rfl h
        · rename_i q3; rw [if_neg q3] at h
          split
          · rename_i q4; rw [if_pos q4] at h; exact put_err h
          · rename_i q4; rw [if_neg q4] at h
            split
            · rfl
            · rename_i q5; rw [if_neg q5] at h; exact put_err h
theorem put_pls (b : Bk) (i : Int) (r : Ac × Int) : (b.put i r).1.pls = [] ∨ (b.put i r).1.pls = b.pls := by
  unfold Bk.put; split
  · exact .inl rfl
  · exact .inr rfl
theorem stepB_p8 {b : Bk} {o : Od} (h : b.pls.length ≤ 8) : (stepB b o).1.pls.length ≤ 8 := by
  have hp : ∀ (i : Int) (r : Ac × Int), (b.put i r).1.pls.length ≤ 8 := fun i r => by rcases put_pls b i r with e | e <;> rw [e]; simp; exact h
  unfold stepB
  split
  · simp [zeroB]
  · split
    · split
      · simp [zeroB]
      · rename_i q
        unfold addPl at q ⊢
        split at q
        · rename_i q3; exact absurd q (by simpa using q3)
        · rename_i q3
          rw [if_neg q3]
          split at q
          · simp at q
          · rename_i q4; rw [if_neg q4]; simp; omega
    · split
      · exact hp _ _
      · split
        · unfold passB
          split
          · simp [zeroB]
          · dsimp only; split
            · simp [zeroB]
            · exact h
        · split
          · exact hp _ _
          · split
            · simp [zeroB]
            · exact hp _ _
structure PlayOk (n : Nat) (b : Bk) : Prop where
  ok : BOk (n * 3652060) b
  un : UnOk b.pls
  p8 : b.pls.length ≤ 8
theorem BOk.zero (k : Nat) : BOk k zeroB := ⟨fun p hp => by simp [zeroB] at hp, fun a ha => by rw [List.eq_of_mem_replicate (show a ∈ List.replicate 32 zeroA from ha)]; exact ⟨by decide, by simp [zeroA]⟩, by simp [zeroB]⟩
theorem BOk.le {k m : Nat} {b : Bk} (h : BOk k b) (hm : k ≤ m) : BOk m b := ⟨h.pls, fun a ha => ⟨(h.subs a ha).1, Nat.le_trans (h.subs a ha).2 hm⟩, h.len⟩
theorem stepB_okA {k : Nat} {b : Bk} (o : Od) (h : BOk k b) : BOk (k + 3652060) (stepB b o).1 := by
  by_cases q : (stepB b o).2 = 0
  · exact stepB_ok h q
  · rw [stepB_err q]; exact BOk.zero _
theorem PlayOk.new (t : Int) : PlayOk 0 (newB t) := ⟨by simpa using (newB_ok t).1, (newB_ok t).2, by simp [newB]⟩
def strB (l : List By) : ByteArray := bytesOf (l.map By.n)
theorem absU8_by : ∀ l : List By, absU8 (rowV l) = some (l.map By.n)
  | [] => rfl
  | b :: l => by rw [rowV_cons]; show absU8 (.int .u8 b.n :: rowV l) = _; simp [absU8, absU8_by l]
theorem conv_by {H : Mem} {s : Value} {l : List By} (h : RowAt H s l) (K : Mem) (hk : Keep H K) : absConv Tryd.prog K 72 9 s = some (.string (strB l), K) := by
  rcases h with ⟨rfl, rfl⟩ | ⟨b, o, ro, vs, rfl, h2, h3, h4⟩
  · unfold absConv; simp [Tryd.underlying72, Tryd.underlying5, Tryd.underlying9, strB, bytesOf]
  · have hk1 : Cel.k By = 1 := rfl
    rw [hk1, Nat.mul_one] at h3 h4
    have hb := (hk.2 b (List.getElem?_eq_some_iff.1 h2).1).trans h2
    have hc : absCells K b o l.length = some (rowV l) := by unfold absCells; rw [hb]; simp [h3, h4]
    unfold absConv; simp [Tryd.underlying72, Tryd.underlying5, Tryd.underlying9, hc, absU8_by, strB]
end Go.Den
set_option linter.unusedVariables false
set_option maxRecDepth 100000
namespace Go.Den
open Go Go.Proofs
structure Gd (a : Ac) : Prop where
  st : a.st = 1
  cr : a.cr = 0
  pd : a.pd = 0
  ix : 0 ≤ a.ix
  sk : a.sk = false
  op : ∀ c ∈ a.op, c.ph ≠ 2
def PlOk (p : Pl) : Prop := p.la = false ∧ 0 ≤ p.pr ∧ p.pr ≤ 1073741824
theorem rightP_b {n : Int} (h0 : 0 ≤ n) (h1 : n ≤ 1073741824) : rightP n = true := by simp [rightP]; omega
theorem lessP_0 {n : Int} (h0 : 0 ≤ n) (h1 : n ≤ 1073741824) : lessP n 0 = (n, 0) := by
  have e : IntKind.i64.wrap (-0) = 0 := by decide
  have e2 : IntKind.i64.wrap (n + 0) = n := by rw [Int.add_zero]; exact wrap_in _ (by omega) (by omega)
  unfold lessP
  rw [rightP_b (by decide) (by decide), if_pos rfl, e]
  unfold addP
  rw [e2, rightP_b h0 h1, rightP_b (by decide) (by decide)]; rfl
theorem addP_0 : addP 0 0 = (0, 0) := by decide
theorem begin_gd {a : Ac} {p : Pl} (hp : PlOk p) (g : Gd a) (d : Int) : ∃ x, beginA a p d false = (x, 0) ∧ Gd x ∧ x.ix = a.ix ∧ x.pl = a.pl := by
  have hl := lessP_0 hp.2.1 hp.2.2
  have h0 : ¬ (a.st = 2 ∨ a.sk = true ∨ false = true) := by rw [g.st, g.sk]; decide
  unfold beginA
  rw [if_neg h0, g.cr, hl, if_neg (by simp), if_neg (by simpa using hp.2.1)]
  by_cases hpr : p.pr = 0
  · by_cases hgo : p.go = true
    · refine ⟨_, closeA_keep (by simp [beginC, hpr, paidC, hgo, endC]), ⟨g.st, rfl, g.pd, g.ix, g.sk, ?_⟩, rfl, rfl⟩
      intro c hc
      simp only [List.mem_append, List.mem_singleton] at hc
      rcases hc with hc | rfl
      · exact g.op c hc
      · simp [beginC, hpr, paidC, hgo]
    · have e7 : (beginC a.ct d p.pr 0 p.go).ph = 7 := by simp [beginC, hpr, paidC, hgo]
      have em : (beginC a.ct d p.pr 0 p.go).am = 0 := by simp [beginC, hpr, paidC, hgo]
      refine ⟨⟨a.st, a.pl, a.an, a.ix, IntKind.i64.wrap (a.ct + 1), 0, a.sk, a.op, IntKind.i64.wrap (a.dn + 1), a.up, a.rf, a.sp, 0⟩, by rw [closeA_7 (by simp [endC, e7]) e7]; simp only [g.pd, em, addP_0], ⟨g.st, rfl, rfl, g.ix, g.sk, g.op⟩, rfl, rfl⟩
  · refine ⟨_, closeA_keep (by simp [beginC, hpr, endC]), ⟨g.st, rfl, g.pd, g.ix, g.sk, ?_⟩, rfl, rfl⟩
    intro c hc
    simp only [List.mem_append, List.mem_singleton] at hc
    rcases hc with hc | rfl
    · exact g.op c hc
    · simp [beginC, hpr]
theorem day_gd {a : Ac} {p : Pl} (hp : PlOk p) (g : Gd a) (h : (dueA a p).2 = 0) : ∃ x, Gd x ∧ x.pl = a.pl ∧ dayN a = dayN x + 1 ∧ ∀ t, (dueA a p).1 ≤ t → ∀ n, 0 < n → dayL p t n a = dayL p t (n - 1) x := by
  have hx := (nthF_ok (by simpa [dueA] using h)).1.2.2
  have g1 : Gd { a with ix := IntKind.i64.wrap (a.ix + 1) } := ⟨g.st, g.cr, g.pd, by simp only; rw [wrap_in _ (by omega) (by omega)]; omega, g.sk, g.op⟩
  obtain ⟨x, hb, gx, hix, hpl⟩ := begin_gd hp g1 (dueA a p).1
  refine ⟨x, gx, hpl, ?_, fun t ht n hn => ?_⟩
  · unfold dayN; rw [hix]; simp only; rw [wrap_in _ (by omega) (by omega)]; omega
  · have := dayL_go (t := t) hn (by rw [g.st]; decide) h ht false (by rw [hp.1]; rfl) hb
    rw [this]; simp
theorem days1 {p : Pl} (hp : PlOk p) : ∀ (N : Nat) (a : Ac), Gd a → dayN a ≤ N → ∀ t, ∃ x, Gd x ∧ x.pl = a.pl ∧ ∀ n, dayN a ≤ n → dayL p t n a = (x, 0) := by
  intro N
  induction N with
  | zero =>
    intro a g hN t
    have hs : (dueA a p).2 ≠ 0 := fun h => by obtain ⟨x, _, _, h1, _⟩ := day_gd hp g h; omega
    exact ⟨a, g, rfl, fun n _ => dayL_no n (.inl hs)⟩
  | succ N ih =>
    intro a g hN t
    by_cases hs : (dueA a p).2 ≠ 0 ∨ t < (dueA a p).1
    · exact ⟨a, g, rfl, fun n _ => dayL_no n hs⟩
    · obtain ⟨x, gx, hpl, h1, h2⟩ := day_gd hp g (by omega)
      obtain ⟨y, gy, hpy, h3⟩ := ih x gx (by omega) t
      exact ⟨y, gy, hpy.trans hpl, fun n hn => by rw [h2 t (by omega) n (by omega)]; exact h3 _ (by omega)⟩
theorem days2 {p : Pl} (hp : PlOk p) : ∀ (N : Nat) (a : Ac), Gd a → dayN a ≤ N → ∀ t t2, t ≤ t2 → ∀ x, dayL p t (dayN a) a = (x, 0) → ∀ m, dayN a ≤ m → dayL p t2 (dayN x) x = dayL p t2 m a := by
  intro N
  induction N with
  | zero =>
    intro a g hN t t2 ht x hx m hm
    have hs : (dueA a p).2 ≠ 0 := fun h => by obtain ⟨x, _, _, h1, _⟩ := day_gd hp g h; omega
    rw [dayL_no _ (.inl hs)] at hx
    cases hx
    rw [dayL_no _ (.inl hs), dayL_no _ (.inl hs)]
  | succ N ih =>
    intro a g hN t t2 ht x hx m hm
    by_cases hs : (dueA a p).2 ≠ 0 ∨ t < (dueA a p).1
    · rw [dayL_no _ hs] at hx
      cases hx
      obtain ⟨y, _, _, hy⟩ := days1 hp (N + 1) a g hN t2
      rw [hy _ (Nat.le_refl _), hy _ hm]
    · obtain ⟨y, gy, hpl, h1, h2⟩ := day_gd hp g (by omega)
      rw [h2 t (by omega) _ (by omega), h1, Nat.add_sub_cancel] at hx
      rw [h2 t2 (by omega) m (by omega)]
      exact ih y gy (by omega) t t2 ht x hx _ (by omega)
theorem wake_no {a : Ac} (g : Gd a) (t : Int) : ({ a with op := a.op.map (fun c => wakeC c t) } : Ac) = a := by
  have e : a.op.map (fun c => wakeC c t) = a.op := by
    rw [List.map_congr_left (g := id) fun c hc => by simp [wakeC, g.op c hc]]; simp
  rw [e]
theorem dayA_gd {a : Ac} {p : Pl} (hp : PlOk p) (g : Gd a) (t : Int) : ∃ x, dayA a p t = (x, 0) ∧ Gd x ∧ x.pl = a.pl ∧ ∀ t2, t ≤ t2 → dayA x p t2 = dayA a p t2 := by
  obtain ⟨x, gx, hpl, hx⟩ := days1 hp _ a g (Nat.le_refl _) t
  refine ⟨x, ?_, gx, hpl, fun t2 ht => ?_⟩
  · unfold dayA; rw [wake_no g]; exact hx _ (Nat.le_refl _)
  · unfold dayA; rw [wake_no g, wake_no gx]
    exact days2 hp _ a g (Nat.le_refl _) t t2 ht x (hx _ (Nat.le_refl _)) _ (Nat.le_refl _)
def GL (pls : List Pl) (l : List Ac) : Prop := ∀ a ∈ l, a.st = 0 ∨ (Gd a ∧ PlOk (getP pls a.pl).1)
theorem pass_gd {pls : List Pl} {t : Int} : ∀ l : List Ac, GL pls l → ∃ l', passL pls t l = (l', 0) ∧ GL pls l' ∧ ∀ t2, t ≤ t2 → passL pls t2 l' = passL pls t2 l
  | [], _ => ⟨[], rfl, fun a ha => by simp at ha, fun _ _ => rfl⟩
  | a :: l, h => by
    obtain ⟨l', h1, h2, h3⟩ := pass_gd (t := t) l (fun x hx => h x (by simp [hx]))
    rcases h a (by simp) with hs | ⟨g, hp⟩
    · refine ⟨a :: l', by simp [passL, hs, h1], fun x hx => ?_, fun t2 ht => by simp [passL, hs, h3 t2 ht]⟩
      simp only [List.mem_cons] at hx
      rcases hx with rfl | hx
      · exact .inl hs
      · exact h2 x hx
    · obtain ⟨x, d1, gx, hpl, d2⟩ := dayA_gd hp g t
      have s1 : ¬ a.st = 0 := by rw [g.st]; decide
      have s2 : ¬ x.st = 0 := by rw [gx.st]; decide
      refine ⟨x :: l', by simp [passL, s1, d1, h1], fun y hy => ?_, fun t2 ht => by simp [passL, s1, s2, hpl, d2 t2 ht, h3 t2 ht]⟩
      simp only [List.mem_cons] at hy
      rcases hy with rfl | hy
      · exact .inr ⟨gx, by rw [hpl]; exact hp⟩
      · exact h2 y hy
theorem step_pass {b : Bk} {n : Int} (h0 : 1 ≤ n) (h1 : n ≤ 60) (ht : 0 ≤ b.today) (ht2 : b.today + n ≤ 3652058) {l' : List Ac} (hl : passL b.pls (b.today + n) b.subs = (l', 0)) : stepB b ⟨9, 0, 0, n, zeroP, zeroN⟩ = (⟨b.today + n, b.pls, l'⟩, 0) := by
  have hr : rightO ⟨9, 0, 0, n, zeroP, zeroN⟩ = 0 := by simp [rightO, subsK]; omega
  have hw : IntKind.i64.wrap (b.today + n) = b.today + n := wrap_in _ (by omega) (by omega)
  unfold stepB
  rw [hr]
  simp only [ne_eq, not_true_eq_false, if_false]
  rw [if_neg (by decide), if_neg (by decide), if_pos trivial]
  unfold passB
  simp only [hw]
  rw [if_neg (by omega), hl]
  simp
theorem parts_law {b : Bk} {j k : Int} (hg : GL b.pls b.subs) (ht : 0 ≤ b.today) (ht2 : b.today + 60 ≤ 3652058) (hj : 1 ≤ j ∧ j ≤ 30) (hk : 1 ≤ k ∧ k ≤ 30) :
    ∃ y z, stepB b ⟨9, 0, 0, j, zeroP, zeroN⟩ = (y, 0) ∧ stepB y ⟨9, 0, 0, k, zeroP, zeroN⟩ = (z, 0) ∧ stepB b ⟨9, 0, 0, j + k, zeroP, zeroN⟩ = (z, 0) := by
  obtain ⟨l1, h1, g1, c1⟩ := pass_gd (t := b.today + j) b.subs hg
  obtain ⟨l2, h2, _, _⟩ := pass_gd (t := b.today + j + k) l1 g1
  refine ⟨⟨b.today + j, b.pls, l1⟩, ⟨b.today + j + k, b.pls, l2⟩, step_pass hj.1 (by omega) ht (by omega) h1, step_pass hk.1 (by omega) (by simp only; omega) (by simp only; omega) h2, ?_⟩
  rw [step_pass (l' := l2) (by omega) (by omega) ht (by omega) (by rw [← Int.add_assoc, ← c1 _ (by omega)]; exact h2), Int.add_assoc]
structure RI (T : Int) (i : Nat) (b : Bk) : Prop where
  today : b.today = T
  len : b.pls.length = i
  pls : ∀ p ∈ b.pls, PlOk p
  subs : ∀ a ∈ b.subs, a.st = 0 ∨ (Gd a ∧ 0 ≤ a.pl ∧ a.pl < b.pls.length)
  n32 : b.subs.length = 32
  free : ∀ j, i ≤ j → (b.subs.getD j zeroA).st = 0
theorem RI.gl {T : Int} {i : Nat} {b : Bk} (h : RI T i b) : GL b.pls b.subs := fun a ha => (h.subs a ha).imp id fun ⟨g, h0, h1⟩ => ⟨g, by
  unfold getP
  rw [if_neg (by omega)]
  have hn : a.pl.toNat < b.pls.length := by omega
  simp only [List.getD_eq_getElem?_getD, List.getElem?_eq_getElem hn, Option.getD_some]
  exact h.pls _ (List.getElem_mem _)⟩
theorem RI.new (T : Int) : RI T 0 (newB T) := ⟨rfl, rfl, fun p hp => by simp [newB] at hp, fun a ha => .inl (by rw [List.eq_of_mem_replicate ha]; rfl), by simp [newB], fun j _ => by
  simp only [newB, List.getD_eq_getElem?_getD, List.getElem?_replicate]; split <;> rfl⟩
def partO1 (n : Int) : Od := ⟨1, 0, 0, 0, { planR n with la := false }, zeroN⟩
def partO2 (i : Int) : Od := ⟨2, i, i, 0, zeroP, zeroN⟩
noncomputable def partB (b : Bk) (n i : Int) : Bk := (stepB (stepB b (partO1 n)).1 (partO2 i)).1
theorem rightPl_ok {p : Pl} (h1 : srB p.un p.ev = true) (h2 : 0 ≤ p.tr ∧ p.tr ≤ 1000) (h3 : 0 ≤ p.pr ∧ p.pr ≤ 1073741824) : rightPl p = 0 := by
  unfold rightPl
  rw [if_neg (by rw [h1]; simp; omega), if_neg (by omega)]
theorem planR_right {n : Int} (h0 : 0 ≤ n) (h1 : n < 256) : rightPl { planR n with la := false } = 0 ∧ PlOk { planR n with la := false } ∧ 0 ≤ (planR n).tr ∧ (planR n).tr ≤ 10 := by
  have s1 : 0 ≤ sel4 (n % 4) 1000 0 2999 1 ∧ sel4 (n % 4) 1000 0 2999 1 ≤ 2999 := by unfold sel4; split <;> (try split) <;> (try split) <;> omega
  have s2 : 0 ≤ sel4 (n / 48 % 4) 0 0 10 3 ∧ sel4 (n / 48 % 4) 0 0 10 3 ≤ 10 := by unfold sel4; split <;> (try split) <;> (try split) <;> omega
  refine ⟨?_, ⟨rfl, s1.1, by simp only [planR]; omega⟩, s2⟩
  exact rightPl_ok (by unfold srB; exact decide_eq_true (by simp only [planR]; omega)) (by simp only [planR]; omega) (by simp only [planR]; omega)
theorem RI.step {T : Int} {i : Nat} {b : Bk} (h : RI T i b) (hi : i < 3) (hT : 0 ≤ T) (hT2 : T + 60 ≤ 3652058) {n : Int} (h0 : 0 ≤ n) (h1 : n < 256) : RI T (i + 1) (partB b n i) := by
  obtain ⟨r1, r2, r3, r4⟩ := planR_right h0 h1
  have e1 : stepB b (partO1 n) = ({ b with pls := b.pls ++ [{ planR n with la := false }] }, 0) := by
    have hr : rightO (partO1 n) = 0 := by unfold rightO partO1; simp only; rw [if_neg (by decide), if_pos trivial, if_neg (by simp)]; exact r1
    unfold stepB
    rw [hr]
    simp only [ne_eq, not_true_eq_false, if_false]
    have ha : addPl b.pls (partO1 n).p = (b.pls ++ [{ planR n with la := false }], (b.pls.length : Int), 0) := by
      unfold addPl; rw [if_neg (by simp only [partO1]; rw [r1]; decide), if_neg (by rw [h.len]; omega)]; rfl
    rw [if_pos (show (partO1 n).kd = 1 from rfl), ha]; simp
  unfold partB
  rw [e1]
  simp only
  have hg : getP (b.pls ++ [{ planR n with la := false }]) i = ({ planR n with la := false }, 0) := by
    unfold getP
    rw [if_neg (by simp [h.len]; omega)]
    simp [List.getD_eq_getElem?_getD, ← h.len]
  have hr2 : rightO (partO2 i) = 0 := by
    unfold rightO partO2
    rw [if_pos (show subsK 2 = true by decide), if_neg (by simp [plansK]; omega)]
  have go : Gd (openAc i { planR n with la := false } T) := ⟨rfl, rfl, rfl, Int.le_refl _, rfl, fun c hc => by simp [openAc] at hc⟩
  obtain ⟨x, d1, gx, hpl, _⟩ := dayA_gd r2 go T
  have ho : openB { b with pls := b.pls ++ [{ planR n with la := false }] } (partO2 i) = (x, 0) := by
    unfold openB
    simp only [partO2, hg]
    rw [if_neg (by simp), if_neg (by have := h.free i (Nat.le_refl _); simp only [Bk.sub, Int.toNat_natCast]; rw [this]; decide), h.today, if_neg (by rw [wrap_in _ (by omega) (by omega)]; omega)]
    exact d1
  have e2 : stepB { b with pls := b.pls ++ [{ planR n with la := false }] } (partO2 i) = ({ b with pls := b.pls ++ [{ planR n with la := false }], subs := b.subs.set i x }, 0) := by
    unfold stepB
    rw [hr2]
    simp only [ne_eq, not_true_eq_false, if_false]
    rw [if_neg (by simp [partO2]), if_pos (by simp [partO2]), ho]
    simp [Bk.put, partO2]
  rw [e2]
  have hpx : x.pl = i := by rw [hpl]; rfl
  refine ⟨h.today, by simp [h.len], fun p hp => ?_, fun a ha => ?_, by simp [h.n32], fun j hj => ?_⟩
  · simp only [List.mem_append, List.mem_singleton] at hp
    rcases hp with hp | rfl
    · exact h.pls p hp
    · exact r2
  · rcases List.mem_or_eq_of_mem_set ha with q | rfl
    · refine (h.subs a q).imp id fun ⟨g, q0, q1⟩ => ⟨g, q0, by simp; omega⟩
    · exact .inr ⟨gx, by rw [hpx]; omega, by rw [hpx]; simp [h.len]; omega⟩
  · have := h.free j (by omega)
    simp only [List.getD_eq_getElem?_getD] at this ⊢
    rw [List.getElem?_set_ne (by omega)]; exact this
end Go.Den
set_option linter.unusedVariables false
set_option maxRecDepth 100000
namespace Go.Den
open Go Go.Proofs
theorem wrap_u64 (n : Int) : IntKind.u64.wrap n = n % 18446744073709551616 := by
  simp only [IntKind.wrap, IntKind.bits, IntKind.signed]; simp
theorem wrap_b8 (n : Int) (h0 : 0 ≤ n) (h1 : n < 256) : IntKind.u8.wrap n = n := by
  simp only [IntKind.wrap, IntKind.bits, IntKind.signed]; simp; omega
def zzI (n : Int) : Int := IntKind.u64.wrap ((BitVec.ofInt 64 (IntKind.u64.wrap (IntKind.u64.wrap n * 2)) ^^^ BitVec.ofInt 64 (IntKind.u64.wrap (n.fdiv 9223372036854775808))).toNat : Int)
theorem zzI_b (n : Int) : 0 ≤ zzI n ∧ zzI n < 18446744073709551616 := by unfold zzI; rw [wrap_u64]; omega
theorem or64 (n : Int) (h0 : 0 ≤ n) (h1 : n < 64) : IntKind.u8.wrap ((BitVec.ofInt 8 n ||| BitVec.ofInt 8 64).toNat : Int) = n + 64 := by
  have : ∀ m : Fin 64, IntKind.u8.wrap ((BitVec.ofInt 8 (m.1 : Int) ||| BitVec.ofInt 8 64).toNat : Int) = m.1 + 64 := by decide
  have e := this ⟨n.toNat, by omega⟩
  simp only at e
  rw [show ((n.toNat : Nat) : Int) = n by omega] at e
  exact e
def digB (u : Nat) : List By := if h : u < 64 then [⟨u⟩] else ⟨(u : Int) % 64 + 64⟩ :: digB (u / 64)
termination_by u
theorem digB_0 {u : Nat} (h : u < 64) : digB u = [⟨u⟩] := by rw [digB, dif_pos h]
theorem digB_s {u : Nat} (h : ¬ u < 64) : digB u = ⟨(u : Int) % 64 + 64⟩ :: digB (u / 64) := by rw [digB, dif_neg h]
theorem digB_len : ∀ (n : Nat) (u : Nat), u < 64 ^ (n + 1) → (digB u).length ≤ n + 1
  | 0, u, h => by rw [digB_0 (by simpa using h)]; simp
  | n + 1, u, h => by
    by_cases q : u < 64
    · rw [digB_0 q]; simp
    · rw [digB_s q]
      have := digB_len n (u / 64) (by rw [Nat.pow_succ] at h; omega)
      simp; omega
def numB (n : Int) : List By := digB (zzI n).toNat
def numsB : List Int → List By
  | [] => []
  | n :: l => numB n ++ numsB l
theorem numsB_app : ∀ l r : List Int, numsB (l ++ r) = numsB l ++ numsB r
  | [], r => rfl
  | n :: l, r => by simp [numsB, numsB_app l r]
theorem numB_len (n : Int) : (numB n).length ≤ 11 := digB_len 10 _ (by have := zzI_b n; omega)
theorem numsB_len : ∀ l : List Int, (numsB l).length ≤ 11 * l.length
  | [] => by simp [numsB]
  | n :: l => by have := numsB_len l; have := numB_len n; simp [numsB]; omega
def flN (b : Bool) : Int := if b = true then 1 else 0
def plN (p : Pl) : List Int := [p.pr, IntKind.i64.wrap p.un, p.ev, p.tr, flN p.go, flN p.la]
def cyN (c : Cy) : List Int := [c.no, c.due, IntKind.i64.wrap c.ph, c.am, c.us, c.tr, c.nx, flN c.gd]
def acN (a : Ac) : List Int := IntKind.i64.wrap a.st :: if a.st = 0 then [] else [a.pl, a.an, a.ix, a.ct, a.cr, flN a.sk, a.dn, a.up, a.rf, a.sp, a.pd, a.op.length] ++ a.op.flatMap cyN
def bkN (b : Bk) : List Int := [b.today, b.pls.length] ++ b.pls.flatMap plN ++ b.subs.flatMap acN
def encB (b : Bk) : List By := numsB (bkN b)
structure BoxAt (H : Mem) (k : Nat) (s : Value) (bs : List By) (e : Int) : Prop where
  cell : H[k]? = some (.cells false [s, .int .i64 e])
  row : RowAt H s bs
  own : Own H s
  ne : blkOf s ≠ some k
def Fr2 (H : Mem) (k : Nat) (s : Value) (H' : Mem) : Prop := H.length ≤ H'.length ∧ ∀ i, i < H.length → i ≠ k → blkOf s ≠ some i → H'[i]? = H[i]?
def Src (H : Mem) (s s' : Value) : Prop := ∀ c, blkOf s' = some c → blkOf s = some c ∨ H.length ≤ c
theorem Fr2.refl (H : Mem) (k : Nat) (s : Value) : Fr2 H k s H := ⟨Nat.le_refl _, fun _ _ _ _ => rfl⟩
theorem Src.refl (H : Mem) (s : Value) : Src H s s := fun _ h => .inl h
theorem Fr2.trans {H H1 H2 : Mem} {k : Nat} {s s1 : Value} (h : Fr2 H k s H1) (hs : Src H s s1) (h2 : Fr2 H1 k s1 H2) : Fr2 H k s H2 :=
  ⟨Nat.le_trans h.1 h2.1, fun i hi hk hb => (h2.2 i (Nat.lt_of_lt_of_le hi h.1) hk (fun e => (hs i e).elim hb (fun q => by omega))).trans (h.2 i hi hk hb)⟩
theorem Src.trans {H H1 : Mem} {s s1 s2 : Value} (h : Src H s s1) (hl : H.length ≤ H1.length) (h2 : Src H1 s1 s2) : Src H s s2 := fun c hc => (h2 c hc).elim (h c) (fun q => .inr (by omega))
theorem Fr2.cut {H r H' : Mem} {k : Nat} {s : Value} (h : Fr2 (H ++ r) k s H') : Fr2 H k s H' :=
  ⟨by have := h.1; simp at this; omega, fun i hi hk hb => (h.2 i (by simp; omega) hk hb).trans (List.getElem?_append_left hi)⟩
theorem Src.cut {H r : Mem} {s s' : Value} (h : Src (H ++ r) s s') : Src H s s' := fun c hc => (h c hc).imp id (fun q => by simp at q; omega)
theorem Fr2.kp {H M H' : Mem} {k : Nat} {s : Value} (hk : Keep H M) (h : Fr2 M k s H') : Fr2 H k s H' := ⟨Nat.le_trans hk.1 h.1, fun i hi hn hb => (h.2 i (Nat.lt_of_lt_of_le hi hk.1) hn hb).trans (hk.2 i hi)⟩
theorem Src.kp {H M : Mem} {s s' : Value} (hk : Keep H M) (h : Src M s s') : Src H s s' := fun c hc => (h c hc).imp id (fun q => Nat.le_trans hk.1 q)
theorem BoxAt.app {H : Mem} {k : Nat} {s : Value} {bs : List By} {e : Int} (h : BoxAt H k s bs e) (r : Mem) : BoxAt (H ++ r) k s bs e :=
  ⟨by rw [List.getElem?_append_left (List.getElem?_eq_some_iff.1 h.cell).1]; exact h.cell, h.row.apps r, h.own.app r, h.ne⟩
theorem BoxAt.keep {H H' : Mem} {k : Nat} {s : Value} {bs : List By} {e : Int} (h : BoxAt H k s bs e) (hk : Keep H H') : BoxAt H' k s bs e :=
  ⟨(hk.2 _ (List.getElem?_eq_some_iff.1 h.cell).1).trans h.cell, h.row.keep hk, h.own.keep hk, h.ne⟩
theorem BoxAt.lt {H : Mem} {k : Nat} {s : Value} {bs : List By} {e : Int} (h : BoxAt H k s bs e) : k < H.length := (List.getElem?_eq_some_iff.1 h.cell).1
theorem BoxAt.lts {H : Mem} {k : Nat} {s : Value} {bs : List By} {e : Int} (h : BoxAt H k s bs e) {c : Nat} (hc : blkOf s = some c) : c < H.length := h.row.lt hc
theorem BoxAt.put {H M : Mem} {k : Nat} {s s2 : Value} {bs bs2 : List By} {e : Int} (h : BoxAt H k s bs e) (hR : RowAt M s2 bs2) (hW : Own M s2) (hf : Fr H s M) (hN : New H.length s2) :
    M[k]? = some (.cells false [s, .int .i64 e]) ∧ BoxAt (M.set k (.cells false [s2, .int .i64 e])) k s2 bs2 e ∧ Fr2 H k s (M.set k (.cells false [s2, .int .i64 e])) ∧ Src H s s2 := by
  have hk := h.lt
  have hc := (hf.2 k hk h.ne).trans h.cell
  have hne : blkOf s2 ≠ some k := hN.ne hk
  refine ⟨hc, ⟨List.getElem?_set_self (List.getElem?_eq_some_iff.1 hc).1, hR.set hne _, hW.set hne _, hne⟩, ⟨by simpa using hf.1, fun i hi hk' hb => (List.getElem?_set_ne (Ne.symm hk')).trans (hf.2 i hi hb)⟩, fun c hc => .inr (hN c hc)⟩
def ptr (k : Nat) : Value := .pointer (some ⟨k, 0, none⟩)
def wds (l : List Int) : List Wd := l.map Wd.mk
@[simp] theorem wds_len (l : List Int) : (wds l).length = l.length := by simp [wds]
theorem rowV_wds : ∀ l : List Int, rowV (wds l) = l.map (fun n => Value.int .i64 n)
  | [] => rfl
  | n :: l => by rw [wds, List.map_cons, rowV_cons]; show _ ++ rowV (wds l) = _; rw [rowV_wds l]; rfl
theorem wds_row {H : Mem} (l : List Int) {vs : List Value} (hv : vs = l.map (fun n => Value.int .i64 n)) : RowAt (H ++ [.cells false vs]) (.slice (some ⟨H.length, 0, none⟩) l.length 1) (wds l) := by
  have := RowAt.all (H := H ++ [.cells false vs]) (b := H.length) (l := wds l) (ro := false) (by rw [rowV_wds, ← hv]; simp)
  rw [show (wds l).length = l.length by simp [wds]] at this
  exact this
theorem RowAt.fr2 {α : Type} [Cel α] {H H' : Mem} {k : Nat} {s w : Value} {l : List α} (h : RowAt H w l) (hf : Fr2 H k s H') (h1 : blkOf w ≠ some k) (h2 : ∀ c, blkOf w = some c → blkOf s ≠ some c) : RowAt H' w l :=
  h.of fun b hb hl => hf.2 b hl (fun e => h1 (e ▸ hb)) (h2 b hb)
theorem numsB_take {l : List Int} {i : Nat} (h : i < l.length) : numsB (l.take (i + 1)) = numsB (l.take i) ++ numB l[i] := by
  rw [List.take_succ_eq_append_getElem h, numsB_app]; simp [numsB]
theorem zz_form (n : Int) : IntKind.u64.wrap (((IntKind.u64.wrap (IntKind.u64.wrap n * 2 ^ min 1 IntKind.u64.bits) % 2 ^ IntKind.u64.bits).toNat ^^^ (IntKind.u64.wrap (n.fdiv (2 ^ min 63 IntKind.i64.bits)) % 2 ^ IntKind.u64.bits).toNat : Nat) : Int) = zzI n := by
  unfold zzI
  rw [BitVec.toNat_xor, BitVec.toNat_ofInt, BitVec.toNat_ofInt]
  rfl
theorem or_form (u : Nat) : IntKind.u8.wrap (((IntKind.u8.wrap ((u : Int).tmod 64) % 2 ^ IntKind.u8.bits).toNat ||| 64 % 2 ^ IntKind.u8.bits : Nat) : Int) = (u : Int) % 64 + 64 := by
  have h := or64 ((u : Int) % 64) (by omega) (by omega)
  rw [Int.tmod_eq_emod_of_nonneg (by omega), wrap_b8 ((u : Int) % 64) (by omega) (by omega), ← h, BitVec.toNat_or, BitVec.toNat_ofInt, BitVec.toNat_ofInt]
  rfl
theorem idx_wd {M : Mem} {w : Value} {ns : List Int} {i : Int} (hw : RowAt M w (wds ns)) (h0 : 0 ≤ i) (h1 : i.toNat < ns.length) : ∃ b o ro vs, absIndexAddr Tryd.prog M 103 w (.int .i64 i) = some (.pointer (some ⟨b, o + i.toNat, none⟩)) ∧ M[b]? = some (.cells ro vs) ∧ o + i.toNat + 1 ≤ vs.length ∧ List.take 1 (List.drop (o + i.toNat) vs) = [.int .i64 ns[i.toNat]] := by
  obtain ⟨b, o, ro, vs, rfl, hb, hle, hge⟩ := hw.blk (i := i.toNat) (by simpa using h1)
  have hk : Cel.k Wd = 1 := rfl
  refine ⟨b, o, ro, vs, ?_, hb, by rw [hk] at hle; omega, ?_⟩
  · have hl : i < (ns.length : Int) := by omega
    simp [absIndexAddr, Tryd.underlying103, h0, hl]
  · rw [show (wds ns)[i.toNat]'(by simpa using h1) = ⟨ns[i.toNat]⟩ by simp [wds], hk, Nat.mul_one] at hge
    exact hge
end Go.Den
set_option linter.unusedVariables false
set_option maxRecDepth 100000
namespace Go.Den
open Go Go.Proofs
theorem Keep.cell {M M2 : Mem} (hk : Keep M M2) {n : Nat} {k : Blk} (h : M[n]? = some k) : M2[n]? = some k := (hk.2 n (List.getElem?_eq_some_iff.1 h).1).trans h
theorem Keep.keep {H M M2 : Mem} (h : Keep H M) (hk : Keep M M2) : Keep H M2 := h.trans hk
def setS : Nat → List Value → List (Nat × Value) → List Value
  | k, x :: xs, (m, v) :: ps => if k = m then v :: setS (k + 1) xs ps else x :: setS (k + 1) xs ((m, v) :: ps)
  | _, xs, [] => xs
  | _, [], _ => []
def up : Nat → List Nat → Bool
  | _, [] => true
  | k, m :: ms => decide (k ≤ m) && up (m + 1) ms
theorem setS_nil (k : Nat) (xs : List Value) : setS k xs [] = xs := by cases xs <;> rfl
theorem setS_get : ∀ (xs : List Value) (k : Nat) (m : Nat) (v : Value) (ps : List (Nat × Value)), k ≤ m → (∀ q ∈ ps, m < q.1) → setS k xs ((m, v) :: ps) = setS k (xs.set (m - k) v) ps
  | [], k, m, v, ps, _, _ => by cases ps <;> simp [setS]
  | x :: xs, k, m, v, ps, h, hp => by
    by_cases e : k = m
    · subst e
      simp only [setS, if_true, Nat.sub_self, List.set_cons_zero]
      cases ps with
      | nil => simp [setS_nil]
      | cons q ps =>
        have := hp q (by simp)
        simp only [setS]
        rw [if_neg (by omega)]
    · simp only [setS, if_neg e]
      rw [show m - k = (m - (k + 1)) + 1 by omega, List.set_cons_succ, setS_get xs (k + 1) m v ps (by omega) hp]
      cases ps with
      | nil => simp [setS_nil]
      | cons q ps =>
        have := hp q (by simp)
        simp only [setS]
        rw [if_neg (by omega)]
theorem up_lt : ∀ (ms : List Nat) (k : Nat), up k ms = true → ∀ m ∈ ms, k ≤ m
  | [], _, _, _, h => by cases h
  | a :: ms, k, h, m, hm => by
    simp only [up, Bool.and_eq_true, decide_eq_true_eq] at h
    rcases List.mem_cons.1 hm with rfl | q
    · exact h.1
    · have := up_lt ms (a + 1) h.2 m q; omega
theorem setL_S' : ∀ (ms : List Nat) (vs : List Value) (b : Act), up 0 ms = true → setL b ms vs = ⟨(setS 0 b.tmps.toList (ms.zip vs)).toArray, b.defers⟩
  | [], vs, b, _ => by simp [setL, setS_nil]
  | m :: ms, [], b, _ => by simp [setL, setS_nil]
  | m :: ms, v :: vs, b, h => by
    simp only [up, Bool.and_eq_true, decide_eq_true_eq] at h
    have h0 : up 0 ms = true := by
      cases ms with
      | nil => rfl
      | cons a ms =>
        have h2 := h.2
        simp only [up, Bool.and_eq_true, decide_eq_true_eq] at h2 ⊢
        exact ⟨Nat.zero_le _, h2.2⟩
    rw [setL, setL_S' ms vs _ h0, List.zip_cons_cons, setS_get _ 0 m v _ (Nat.zero_le _) (fun q hq => up_lt ms (m + 1) h.2 q.1 (List.of_mem_zip hq).1)]
    simp
theorem setL_S {ms : List Nat} (h : up 0 ms = true) (vs : List Value) (b : Act) : setL b ms vs = ⟨(setS 0 b.tmps.toList (ms.zip vs)).toArray, b.defers⟩ := setL_S' ms vs b h
theorem getL_map (b : Act) : ∀ ks : List Nat, getL b ks = ks.map fun k => b.tmps.getD k undef
  | [] => rfl
  | k :: ks => by rw [getL, getL_map b ks]; rfl
theorem DK.loopF {P : Program} {G : List Nat} {R : Exit → Act → Mem → Prop} {b : Act} {H : Mem} {c : Code} (ms ks : List Nat) (J : Nat → List Value → Mem → Prop) (n : Nat) (hb : b = setL b ms (getL b ms)) (h : J n (getL b ks) H)
    (round : ∀ n (f : Nat → Value) H', J n (ks.map f) H' → DK P G c (thenD (fun b' H'' => b' = setL b ms (getL b' ms) ∧ ∃ m, m < n ∧ J m (getL b' ks) H'') R) (setL b ms (ms.map f)) H') : DK P G (.loop c) R b H := by
  refine DK.loopG ms (fun n vs H' => ∃ f : Nat → Value, vs = ms.map f ∧ J n (ks.map f) H') n hb ⟨_, getL_map b ms, by rw [← getL_map]; exact h⟩ ?_
  rintro n _ H' ⟨f, rfl, hJ⟩
  have k := round n f H' hJ
  refine ⟨fun φ a w hS hT Q' hQ => k.out φ a w hS hT Q' fun e b' H'' φ' a' w' q1 q2 q3 q4 => hQ e b' H'' φ' a' w' ?_ q2 q3 q4⟩
  cases e with
  | normal => obtain ⟨q, m, hm, hj⟩ := q1; exact ⟨q, m, hm, _, getL_map b' ms, by rw [← getL_map]; exact hj⟩
  | _ => exact q1
theorem mem_app (M : Mem) (x : Blk) : (M ++ [x])[M.length]? = some x := by simp
end Go.Den
namespace Go.Den
open Go Go.Proofs
set_option maxRecDepth 100000
set_option maxHeartbeats 1000000
set_option linter.all false
attribute [local simp] evOps evOp absOp absBox absAlloc absLoad absStore absField absCells absBinOp absBin absInt absShift absUn absPick absNil absExtract absBuild absPlaces Instr.fill absBuiltin absMinMax plainV plainT allA flat cells_agg cells_int cells_bool cells_str cells_ptr cells_sl cells_map one_int one_bool one_str one_ptr one_sl one_map Act.eval Act.put Region.wanted yielded splice absCall TypeDesc.isRow
theorem bput_s (ns : List Int) {k : Nat} {s0 : Value} {bs : List By} {e : Int} {w : Value} {H : Mem} (hB0 : BoxAt H k s0 bs e) (hw0 : RowAt H w (wds ns)) (h1 : blkOf w ≠ some k) (h2 : ∀ c, blkOf w = some c → blkOf s0 ≠ some c) (hn : bs.length + 11 * ns.length ≤ 5000000000000) : FSem Tryd.prog [0] 44 #[.pointer (some ⟨k, 0, none⟩), w] H fun v H' => ∃ s', v = .pointer (some ⟨k, 0, none⟩) ∧ BoxAt H' k s' (bs ++ numsB ns) e ∧ Fr2 H k s0 H' ∧ Src H s0 s' := by
  refine FSem.ofK Tryd.func44 rfl ?_
  refine DK.from (b' := ⟨#[.pointer (some ⟨k, 0, none⟩), w, undef, undef, undef, undef, undef, undef, undef, undef, undef, undef, undef, undef, undef, undef, undef, undef, undef, undef, undef, undef, undef, undef, undef, undef, undef, undef, undef, undef, undef, undef, undef, undef, undef, undef, undef, undef, undef, undef, undef, undef, undef, undef, undef, undef, undef, undef, undef, undef, undef, undef, undef], []⟩) (by kernel_rfl) ?_
  have cb := True.intro
  have cbr := True.intro
  have hs0 := True.intro
  have hs1 := True.intro
  have hi9 := True.intro
  have hlt := True.intro
  have hlw := True.intro
  have hbw := True.intro
  have hle := True.intro
  have hge := True.intro
  have happ := True.intro
  have c2 := True.intro
  have hx1 := True.intro
  have hx2 := True.intro
  have hwr := True.intro
  have hc0 := True.intro
  have hc1 := True.intro
  have hidx := True.intro
  have hx3 := True.intro
  have hzz := True.intro
  replace hlw := lenWd hw0
  simp only [wds_len] at hlw
  have hB := True.intro
  refine DK.seq ?_
  refine DK.region (is := [0]) (by kernel_rfl) rfl ?_
  refine WK.run (rest := []) [0] (by simp [cb, cbr, hs0, hs1, hi9, hlt, hlw, hbw, hle, hge, happ, c2, hx1, hx2, hwr, hc0, hc1, hidx, hx3, hzz]; constructor <;> rfl) ?_
  refine WK.nil ?_
  refine DK.seq ?_
  refine DK.seq ?_
  refine DK.region (is := [0, 1]) (by kernel_rfl) rfl ?_
  refine WK.run (rest := []) [0, 1] (by simp [cb, cbr, hs0, hs1, hi9, hlt, hlw, hbw, hle, hge, happ, c2, hx1, hx2, hwr, hc0, hc1, hidx, hx3, hzz]; constructor <;> rfl) ?_
  refine WK.nil ?_
  refine DK.test rfl rfl (fun h => ?_) (fun h => ?_)
  · try simp only [h]
    replace h := Tr.out h
    cases h
  try simp only [h]
  replace h := Fa.out h
  refine DK.skip ?_
  refine DK.seq ?_
  refine DK.seq ?_
  refine DK.region (is := [0, 1, 2]) (by kernel_rfl) rfl ?_
  refine WK.run (rest := []) [0, 1, 2] (by simp [cb, cbr, hs0, hs1, hi9, hlt, hlw, hbw, hle, hge, happ, c2, hx1, hx2, hwr, hc0, hc1, hidx, hx3, hzz]; constructor <;> rfl) ?_
  refine WK.nil ?_
  refine DK.block ?_
  refine DK.loopF [6, 7, 12, 13, 14, 15, 16, 17, 18, 19, 20, 21, 22, 23, 24, 25, 26, 27, 28, 29, 30, 31, 32, 33, 34, 35, 36, 37, 38, 39, 40, 41, 42, 43, 44, 45, 46, 47, 48, 49, 50, 51] [12] (fun fl vs H' => ∃ (i : Int) (s : Value), vs = [.int .i64 i] ∧ (BoxAt H' k s (bs ++ numsB (ns.take i.toNat)) e ∧ Fr2 H k s0 H' ∧ Src H s0 s) ∧ 0 ≤ i ∧ i ≤ ns.length ∧ fl = (ns.length - i).toNat) (ns.length) (by kernel_rfl) ?_ ?_
  · refine ⟨_, s0, rfl, ?_⟩
    exact ⟨⟨by simpa [numsB] using hB0, Fr2.refl _ _ _, Src.refl _ _⟩, by omega, by omega, by omega⟩
  rintro fl f1j M ⟨i, s, hv, hf⟩
  clear hB
  obtain ⟨⟨hBx, hF, hS⟩, hi0, hi1, hfl⟩ := hf
  have hw := hw0.fr2 hF h1 h2
  replace cb := hBx.cell
  replace cbr : ∀ r : Mem, (M ++ r)[k]? = some (.cells false [s, .int .i64 e]) := fun r => (hBx.app r).cell
  replace hs0 := hBx.row.cells.1
  replace hs1 := hBx.row.cells.2
  have hq1 := numsB_len (ns.take i.toNat)
  have hq3 : (ns.take i.toNat).length ≤ ns.length := by simp; omega
  simp only [List.map_cons, List.map_nil, List.cons.injEq, and_true] at hv
  have hv1_0 := hv
  refine DK.from ((setL_S (by decide) _ _).trans (by simp [setS, hv1_0]; exact rfl)) ?_
  refine DK.seq ?_
  refine DK.region (is := [0]) (by kernel_rfl) rfl ?_
  refine WK.run (rest := []) [0] (by simp [cb, cbr, hs0, hs1, hi9, hlt, hlw, hbw, hle, hge, happ, c2, hx1, hx2, hwr, hc0, hc1, hidx, hx3, hzz]; constructor <;> rfl) ?_
  refine WK.nil ?_
  refine DK.seq ?_
  refine DK.test rfl rfl (fun h => ?_) (fun h => ?_)
  · try simp only [h]
    replace h := Tr.out h
    replace hi9 : 0 ≤ i := hi0
    replace hlt : i < ns.length := h
    have hil : i.toNat < ns.length := by omega
    replace hwr : IntKind.i64.wrap (i + 1) = i + 1 := wrap_in _ (by omega) (by omega)
    obtain ⟨b, ob, rob, vs, hidx0, hb0, hle0, hge0⟩ := idx_wd hw hi0 hil
    replace hidx := hidx0
    obtain ⟨z, hz⟩ := Int.eq_ofNat_of_zero_le (zzI_b ns[i.toNat]).1
    replace hzz := (zz_form ns[i.toNat]).trans hz
    replace hbw := hb0
    replace hle := hle0
    replace hge := hge0
    refine DK.skip ?_
    refine DK.seq ?_
    refine DK.block ?_
    refine DK.seq ?_
    refine DK.region (is := [0, 1, 2]) (by kernel_rfl) rfl ?_
    refine WK.run (rest := []) [0, 1, 2] (by simp [cb, cbr, hs0, hs1, hi9, hlt, hlw, hbw, hle, hge, happ, c2, hx1, hx2, hwr, hc0, hc1, hidx, hx3, hzz]; constructor <;> rfl) ?_
    refine WK.nil ?_
    refine DK.seq ?_
    refine DK.region (is := [0, 1, 2, 3, 4, 5, 6, 7]) (by kernel_rfl) rfl ?_
    refine WK.run (rest := []) [0, 1, 2, 3, 4, 5, 6, 7] (by simp [cb, cbr, hs0, hs1, hi9, hlt, hlw, hbw, hle, hge, happ, c2, hx1, hx2, hwr, hc0, hc1, hidx, hx3, hzz]; constructor <;> rfl) ?_
    refine WK.nil ?_
    refine DK.seq ?_
    refine DK.block ?_
    refine DK.loopF [7, 23, 24, 25, 26, 27, 28, 29, 30, 31, 32, 33, 34, 35, 36, 37, 38, 39] [7] (fun fl vs H' => ∃ (u : Nat) (s' : Value) (dn : List By), vs = [.int .u64 (u : Int)] ∧ (BoxAt H' k s' (bs ++ numsB (ns.take i.toNat) ++ dn) e ∧ Fr2 H k s0 H' ∧ Src H s0 s') ∧ dn ++ digB u = numB ns[i.toNat] ∧ (u : Int) < 18446744073709551616 ∧ fl = u) (z) (by kernel_rfl) ?_ ?_
    · refine ⟨z, s, [], rfl, ?_⟩
      exact ⟨⟨by simpa using hBx, hF, hS⟩, by simp [numB, hz], by have := zzI_b ns[i.toNat]; omega, rfl⟩
    rintro fl f2j M' ⟨u, s', dn, hv, hf⟩
    clear hBx hw hF hS
    obtain ⟨⟨hBx, hF, hS⟩, hdn, hu1, hfl⟩ := hf
    replace cb := hBx.cell
    replace cbr : ∀ r : Mem, (M' ++ r)[k]? = some (.cells false [s', .int .i64 e]) := fun r => (hBx.app r).cell
    replace hs0 := hBx.row.cells.1
    replace hs1 := hBx.row.cells.2
    have hq2 : dn.length ≤ 11 := by have := numB_len ns[i.toNat]; rw [← hdn] at this; simp at this; omega
    simp only [List.map_cons, List.map_nil, List.cons.injEq, and_true] at hv
    have hv2_0 := hv
    refine DK.from ((setL_S (by decide) _ _).trans (by simp [setS, hv2_0]; exact rfl)) ?_
    refine DK.seq ?_
    refine DK.seq ?_
    refine DK.region (is := [0, 1]) (by kernel_rfl) rfl ?_
    refine WK.run (rest := []) [0, 1] (by simp [cb, cbr, hs0, hs1, hi9, hlt, hlw, hbw, hle, hge, happ, c2, hx1, hx2, hwr, hc0, hc1, hidx, hx3, hzz]; constructor <;> rfl) ?_
    refine WK.nil ?_
    refine DK.test rfl rfl (fun h => ?_) (fun h => ?_)
    · try simp only [h]
      replace h := Tr.out h
      replace hx1 := or_form u
      replace hx3 : IntKind.u64.wrap ((u : Int) / 64) = ((u / 64 : Nat) : Int) := by rw [wrap_u64]; omega
      obtain ⟨s2, M2, ha2, hR2, hW2, hf2, hN2⟩ := app1By hBx.row hBx.own (⟨(u : Int) % 64 + 64⟩ : By) (by simp; omega)
      replace happ := ha2
      simp only [Cel.f] at happ
      obtain ⟨c2a, hB2, hF2, hS2⟩ := hBx.put hR2 hW2 hf2 hN2
      replace c2 := c2a
      replace hc0 := hR2.cells.1
      replace hc1 := hR2.cells.2
      refine DK.skip ?_
      refine DK.block ?_
      refine DK.seq ?_
      refine DK.region (is := [0, 1, 2, 3, 4, 5, 6, 7, 8, 9, 10, 11, 12, 13]) (by kernel_rfl) rfl ?_
      refine WK.run (rest := []) [0, 1, 2, 3, 4, 5, 6, 7, 8, 9, 10, 11, 12, 13] (by simp [cb, cbr, hs0, hs1, hi9, hlt, hlw, hbw, hle, hge, happ, c2, hx1, hx2, hwr, hc0, hc1, hidx, hx3, hzz]; constructor <;> rfl) ?_
      refine WK.nil ?_
      refine DK.region (is := [0, 1, 2]) (by kernel_rfl) rfl ?_
      refine WK.run (rest := []) [0, 1, 2] (by simp [cb, cbr, hs0, hs1, hi9, hlt, hlw, hbw, hle, hge, happ, c2, hx1, hx2, hwr, hc0, hc1, hidx, hx3, hzz]; constructor <;> rfl) ?_
      refine WK.nil ?_
      refine ⟨by kernel_rfl, u / 64, ?_, u / 64, s2, dn ++ [⟨(u : Int) % 64 + 64⟩], rfl, ?_⟩
      · omega
      · exact ⟨⟨by simpa using hB2, hF.trans hS hF2, hS.trans hF.1 hS2⟩, by rw [← hdn, digB_s (u := u) (by omega)]; simp, by omega, rfl⟩
    try simp only [h]
    replace h := Fa.out h
    have hu64 : u < 64 := by omega
    replace hx2 := wrap_b8 (u : Int) (by omega) (by omega)
    obtain ⟨s2, M2, ha2, hR2, hW2, hf2, hN2⟩ := app1By hBx.row hBx.own (⟨(u : Int)⟩ : By) (by simp; omega)
    replace happ := ha2
    simp only [Cel.f] at happ
    obtain ⟨c2a, hB2, hF2, hS2⟩ := hBx.put hR2 hW2 hf2 hN2
    replace c2 := c2a
    replace hc0 := hR2.cells.1
    replace hc1 := hR2.cells.2
    refine DK.exit ?_
    refine DK.region (is := [0, 1, 2, 3, 4, 5, 6, 7, 8, 9, 10, 11]) (by kernel_rfl) rfl ?_
    refine WK.run (rest := []) [0, 1, 2, 3, 4, 5, 6, 7, 8, 9, 10, 11] (by simp [cb, cbr, hs0, hs1, hi9, hlt, hlw, hbw, hle, hge, happ, c2, hx1, hx2, hwr, hc0, hc1, hidx, hx3, hzz]; constructor <;> rfl) ?_
    refine WK.nil ?_
    refine DK.region (is := [0, 1]) (by kernel_rfl) rfl ?_
    refine WK.run (rest := []) [0, 1] (by simp [cb, cbr, hs0, hs1, hi9, hlt, hlw, hbw, hle, hge, happ, c2, hx1, hx2, hwr, hc0, hc1, hidx, hx3, hzz]; constructor <;> rfl) ?_
    refine WK.nil ?_
    refine ⟨by kernel_rfl, (ns.length - (i + 1)).toNat, ?_, _, s2, rfl, ?_⟩
    · omega
    · rw [show (i + 1).toNat = i.toNat + 1 by omega, numsB_take hil, ← hdn, digB_0 hu64]
      exact ⟨⟨by simpa using hB2, hF.trans hS hF2, hS.trans hF.1 hS2⟩, by omega, by omega, rfl⟩
  try simp only [h]
  replace h := Fa.out h
  refine DK.exit ?_
  refine DK.seq ?_
  refine DK.region (is := [0, 1]) (by kernel_rfl) rfl ?_
  refine WK.run (rest := []) [0, 1] (by simp [cb, cbr, hs0, hs1, hi9, hlt, hlw, hbw, hle, hge, happ, c2, hx1, hx2, hwr, hc0, hc1, hidx, hx3, hzz]; constructor <;> rfl) ?_
  refine WK.nil ?_
  refine DK.ret ?_
  refine And.intro (Or.inr rfl) ?_
  refine ⟨_, by simp [absAnswer, absResults, absResult, Tryd.f44]; rfl, ?_⟩
  have hi : i = ns.length := by omega
  subst hi
  exact ⟨s, rfl, by simpa using hBx, hF, hS⟩
end Go.Den
set_option linter.unusedVariables false
set_option maxRecDepth 100000
namespace Go.Den
open Go Go.Proofs
theorem Fr2.cell {H H' : Mem} {k i : Nat} {s : Value} {x : Blk} (h : Fr2 H k s H') (hx : H[i]? = some x) (hk : i ≠ k) (hs : blkOf s ≠ some i) : H'[i]? = some x := (h.2 i (List.getElem?_eq_some_iff.1 hx).1 hk hs).trans hx
theorem cellr {M : Mem} {i : Nat} {x : Blk} (h : M[i]? = some x) : ∀ r : Mem, (M ++ r)[i]? = some x := fun r => by rw [List.getElem?_append_left (List.getElem?_eq_some_iff.1 h).1]; exact h
def Boxed (H : Mem) (k : Nat) (s : Value) (c : List By) (e : Int) (more : List By) (n : Nat) (v : Value) (H' : Mem) : Prop :=
  ∃ s' c', v = .pointer (some ⟨k, 0, none⟩) ∧ c' = c ++ more ∧ c'.length ≤ c.length + n ∧ BoxAt H' k s' c' e ∧ Fr2 H k s H' ∧ Src H s s'
theorem putl_g (ns : List Int) {M : Mem} {k n : Nat} {s : Value} {c : List By} {e : Int} (hB : BoxAt M k s c e) {vs : List Value} (hv : vs = ns.map (fun n => Value.int .i64 n)) (hn : n = ns.length) (hl : c.length + 11 * n ≤ 4000000000000) :
    FSem Tryd.prog [0] 44 #[.pointer (some ⟨k, 0, none⟩), .slice (some ⟨M.length, 0, none⟩) n 1] (M ++ [.cells false vs]) (Boxed M k s c e (numsB ns) (11 * n)) := by
  subst hn
  refine FSem.mono (bput_s ns (hB.app _) (wds_row ns hv) (fun q => ?_) (fun q hq => ?_) (by omega)) ?_
  · have e : M.length = k := Option.some.inj q
    have := hB.lt; omega
  · have e : M.length = q := Option.some.inj hq
    intro q2; have := hB.lts q2; omega
  · rintro v H' ⟨s', rfl, h1, h2, h3⟩
    exact ⟨s', _, rfl, rfl, by have := numsB_len ns; simp; omega, h1, h2.cut, h3.cut⟩
theorem Boxed.row {H : Mem} {k n : Nat} {s : Value} {c : List By} {e : Int} {more : List By} {v : Value} {H' : Mem} (h : Boxed H k s c e more n v H') {more' : List By} (hm : more = more') : Boxed H k s c e more' n v H' := hm ▸ h
structure OwnB (M : Mem) (k : Nat) (s : Value) (i : Nat) (x : Blk) : Prop where
  cell : M[i]? = some x
  nk : i ≠ k
  ns : blkOf s ≠ some i
theorem OwnB.go {M M' : Mem} {k i : Nat} {s s' : Value} {x : Blk} (h : OwnB M k s i x) (hF : Fr2 M k s M') (hS : Src M s s') : OwnB M' k s' i x :=
  ⟨hF.cell h.cell h.nk h.ns, h.nk, fun q => (hS i q).elim h.ns (fun q2 => by have := (List.getElem?_eq_some_iff.1 h.cell).1; omega)⟩
theorem OwnB.kp {M M' : Mem} {k i : Nat} {s : Value} {x : Blk} (h : OwnB M k s i x) (hK : Keep M M') : OwnB M' k s i x := ⟨(hK.2 i (List.getElem?_eq_some_iff.1 h.cell).1).trans h.cell, h.nk, h.ns⟩
theorem OwnB.new {M M' : Mem} {k : Nat} {s : Value} {c : List By} {e : Int} {x : Blk} (hB : BoxAt M k s c e) (h : M'[M.length]? = some x) : OwnB M' k s M.length x :=
  ⟨h, by have := hB.lt; omega, fun q => by have := hB.lts q; omega⟩
theorem Fr2.of {M M' : Mem} (h : Keep M M') (k : Nat) (s : Value) : Fr2 M k s M' := ⟨h.1, fun i hi _ _ => h.2 i hi⟩
theorem OpenAt.fr2 {H H' : Mem} {k : Nat} {s w : Value} {l : List Cy} (h : OpenAt H w l) (hf : Fr2 H k s H') (h1 : blkOf w ≠ some k) (h2 : ∀ c, blkOf w = some c → blkOf s ≠ some c) : OpenAt H' w l := by
  rcases h with h | ⟨b, h3, h4⟩
  · exact .inl h
  · exact .inr ⟨b, h3, hf.cell h4 (fun e => h1 (by rw [h3, ← e]; rfl)) (h2 b (by rw [h3]; rfl))⟩
theorem idx_cy {M : Mem} {w : Value} {l : List Cy} {i : Int} (hw : OpenAt M w l) (h0 : 0 ≤ i) (h1 : i.toNat < l.length) : ∃ b, absIndexAddr Tryd.prog M 28 w (.int .i64 i) = some (.pointer (some ⟨b, i.toNat * 8, none⟩)) ∧ M[b]? = some (.cells false (cysV l)) := by
  obtain ⟨b, rfl, hb⟩ := hw.blk (by omega)
  have hl : i < (l.length : Int) := by omega
  exact ⟨b, by simp [absIndexAddr, Tryd.underlying28, h0, hl], hb⟩
theorem fm_take {α β : Type} (f : α → List β) {l : List α} {i : Nat} (h : i < l.length) : (l.take (i + 1)).flatMap f = (l.take i).flatMap f ++ f l[i] := by rw [List.take_succ_eq_append_getElem h, List.flatMap_append]; simp only [List.flatMap_cons, List.flatMap_nil, List.append_nil]
theorem numsB_1 (n : Int) : numsB [n] = numB n := by simp [numsB]
theorem bsW2 (H : Mem) (a0 a1 : Int) : absBuildSlice Tryd.prog H 103 2 [(0, .int .i64 a0), (1, .int .i64 a1)] = some (.slice (some ⟨H.length, 0, none⟩) 2 1, H ++ [.cells false [.int .i64 a0, .int .i64 a1]]) := by kernel_rfl
theorem bsW4 (H : Mem) (a0 a1 a2 a3 : Int) : absBuildSlice Tryd.prog H 103 4 [(0, .int .i64 a0), (1, .int .i64 a1), (2, .int .i64 a2), (3, .int .i64 a3)] = some (.slice (some ⟨H.length, 0, none⟩) 4 1, H ++ [.cells false [.int .i64 a0, .int .i64 a1, .int .i64 a2, .int .i64 a3]]) := by kernel_rfl
theorem bsW5 (H : Mem) (a0 a1 a2 a3 a4 : Int) : absBuildSlice Tryd.prog H 103 5 [(0, .int .i64 a0), (1, .int .i64 a1), (2, .int .i64 a2), (3, .int .i64 a3), (4, .int .i64 a4)] = some (.slice (some ⟨H.length, 0, none⟩) 5 1, H ++ [.cells false [.int .i64 a0, .int .i64 a1, .int .i64 a2, .int .i64 a3, .int .i64 a4]]) := by kernel_rfl
theorem bsW6 (H : Mem) (a0 a1 a2 a3 a4 a5 : Int) : absBuildSlice Tryd.prog H 103 6 [(0, .int .i64 a0), (1, .int .i64 a1), (2, .int .i64 a2), (3, .int .i64 a3), (4, .int .i64 a4), (5, .int .i64 a5)] = some (.slice (some ⟨H.length, 0, none⟩) 6 1, H ++ [.cells false [.int .i64 a0, .int .i64 a1, .int .i64 a2, .int .i64 a3, .int .i64 a4, .int .i64 a5]]) := by kernel_rfl
theorem bsW7 (H : Mem) (a0 a1 a2 a3 a4 a5 a6 : Int) : absBuildSlice Tryd.prog H 103 7 [(0, .int .i64 a0), (1, .int .i64 a1), (2, .int .i64 a2), (3, .int .i64 a3), (4, .int .i64 a4), (5, .int .i64 a5), (6, .int .i64 a6)] = some (.slice (some ⟨H.length, 0, none⟩) 7 1, H ++ [.cells false [.int .i64 a0, .int .i64 a1, .int .i64 a2, .int .i64 a3, .int .i64 a4, .int .i64 a5, .int .i64 a6]]) := by kernel_rfl
attribute [simp] bsW2 bsW4 bsW5 bsW6 bsW7
end Go.Den
namespace Go.Den
open Go Go.Proofs
set_option maxRecDepth 100000
set_option maxHeartbeats 1000000
set_option linter.all false
attribute [local simp] evOps evOp absOp absBox absAlloc absLoad absStore absField absIndexAddr absCells absBinOp absBin absInt absShift absUn absPick absNil absExtract absBuild absPlaces Instr.fill absBuiltin absMinMax plainV plainT allA flat cells_agg cells_int cells_bool cells_str cells_ptr cells_sl cells_map one_int one_bool one_str one_ptr one_sl one_map Act.eval Act.put Region.wanted yielded splice absCall TypeDesc.isRow
theorem bflag_s (on : Bool) {k : Nat} {s : Value} {c : List By} {e : Int} {H : Mem} (hB : BoxAt H k s c e) (hn : c.length ≤ 3900000000000) : FSem Tryd.prog [0] 72 #[.pointer (some ⟨k, 0, none⟩), .bool on] H fun v H' => Boxed H k s c e (numB (flN on)) 11 v H' := by
  refine FSem.ofK Tryd.func72 rfl ?_
  refine DK.from (b' := ⟨#[.pointer (some ⟨k, 0, none⟩), .bool on, undef, undef, undef, undef, undef, undef, undef, undef, undef, undef], []⟩) (by kernel_rfl) ?_
  refine DK.seq ?_
  refine DK.region (is := [0]) (by kernel_rfl) rfl ?_
  refine WK.run (rest := []) [0] (by simp; constructor <;> rfl) ?_
  refine WK.nil ?_
  refine DK.seq ?_
  refine DK.seq ?_
  refine DK.region (is := [0]) (by kernel_rfl) rfl ?_
  refine WK.run (rest := []) [0] (by simp; constructor <;> rfl) ?_
  refine WK.nil ?_
  refine DK.test rfl rfl (fun h => ?_) (fun h => ?_)
  · try simp only [h]
    replace h := Tr.out h
    have hon := h
    refine DK.seq ?_
    refine DK.region (is := [0, 1, 2, 3]) (by kernel_rfl) rfl ?_
    refine WK.run (rest := [2, 3]) [0, 1] (by simp; constructor <;> rfl) ?_
    refine WK.call rfl (by simp) (by simp [Tryd.func44, Tryd.f44]; constructor <;> rfl) ?_
    refine FSem.mono (putl_g [1] hB rfl rfl (by omega)) ?_
    rintro _ M1 hX
    replace hX := hX.row (numsB_1 _)
    obtain ⟨s1, c1, rfl, hX⟩ := hX
    refine WK.run (rest := []) [3] (by simp; constructor <;> rfl) ?_
    refine WK.nil ?_
    refine DK.ret ?_
    refine And.intro (Or.inr rfl) ?_
    refine ⟨_, by simp [absAnswer, absResults, absResult, Tryd.f72]; rfl, ?_⟩
    subst hon
    exact ⟨s1, c1, rfl, hX⟩
  try simp only [h]
  replace h := Fa.out h
  have hon := h
  refine DK.skip ?_
  refine DK.seq ?_
  refine DK.region (is := [0, 1, 2, 3]) (by kernel_rfl) rfl ?_
  refine WK.run (rest := [2, 3]) [0, 1] (by simp; constructor <;> rfl) ?_
  refine WK.call rfl (by simp) (by simp [Tryd.func44, Tryd.f44]; constructor <;> rfl) ?_
  refine FSem.mono (putl_g [0] hB rfl rfl (by omega)) ?_
  rintro _ M1 hX
  replace hX := hX.row (numsB_1 _)
  obtain ⟨s1, c1, rfl, hX⟩ := hX
  refine WK.run (rest := []) [3] (by simp; constructor <;> rfl) ?_
  refine WK.nil ?_
  refine DK.ret ?_
  refine And.intro (Or.inr rfl) ?_
  refine ⟨_, by simp [absAnswer, absResults, absResult, Tryd.f72]; rfl, ?_⟩
  subst hon
  exact ⟨s1, c1, rfl, hX⟩
theorem plput_s (p : Pl) {k : Nat} {s : Value} {c : List By} {e : Int} {H : Mem} (hB0 : BoxAt H k s c e) (hn : c.length ≤ 3800000000000) : FSem Tryd.prog [0] 45 #[.pointer (some ⟨k, 0, none⟩), p.v] H fun v H' => ∃ s' c', c' = c ++ numsB (plN p) ∧ c'.length ≤ c.length + 66 ∧ BoxAt H' k s' c' e ∧ Fr2 H k s H' ∧ Src H s s' := by
  refine FSem.ofK Tryd.func45 rfl ?_
  refine DK.from (b' := ⟨#[.pointer (some ⟨k, 0, none⟩), p.v, undef, undef, undef, undef, undef, undef, undef, undef, undef, undef, undef, undef, undef, undef, undef, undef, undef, undef, undef, undef], []⟩) (by kernel_rfl) ?_
  have cp := True.intro
  have cpr := True.intro
  refine DK.seq ?_
  refine DK.region (is := [0]) (by kernel_rfl) rfl ?_
  refine WK.run (rest := []) [0] (by simp [cp, cpr]; constructor <;> rfl) ?_
  refine WK.nil ?_
  refine DK.abs (fun M0 => Keep H M0 ∧ M0[H.length]? = some (.cells false (p.l))) ⟨Keep.app _ _, by simp⟩ ?_
  rintro M0 ⟨hK, q0⟩
  have o_cp := OwnB.new hB0 q0
  have hB := hB0.keep hK
  have hFH := Fr2.of hK k s
  have hSH : Src _ s s := Src.refl H s
  have hSO := hSH
  replace cp := o_cp.cell
  replace cpr := cellr cp
  refine DK.draw rfl (POk.of (ord := [0, 1, 2, 3, 4, 5, 6, 7, 8, 9, 10, 12, 13, 15, 16, 11, 14, 17]) (by kernel_rfl)) ?_
  refine XK.run (rest := [11, 14, 17]) [0, 1, 2, 3, 4, 5, 6, 7, 8, 9, 10, 12, 13, 15, 16] (by kernel_rfl) (by simp [cp, cpr]; constructor <;> rfl) ?_
  refine XK.call rfl (by simp [cp, cpr]) rfl (by simp [Tryd.func44, Tryd.f44, cp, cpr]; constructor <;> rfl) ?_
  refine FSem.mono (putl_g [p.pr, IntKind.i64.wrap p.un, p.ev, p.tr] hB rfl rfl (by omega)) ?_
  rintro _ M1 ⟨s1, c1, rfl, hc1, hl1, hB, hF1, hS1⟩
  replace hSH := hSH.trans hFH.1 hS1
  replace hFH := hFH.trans hSO hF1
  replace hSO := hSH
  replace o_cp := o_cp.go hF1 hS1
  replace cp := o_cp.cell
  replace cpr := cellr cp
  refine And.intro (lag_list (l := [13, 16]) (by kernel_rfl) (lag_cons (lag_one rfl (by simp [cp, cpr]; constructor <;> rfl) rfl (by simp [cp, cpr]) (by simp [sameL, sameV_agg, sameV_int, sameV_bool, sameV_str, sameV_ptr, sameV_sl, sameV_map, same1_int, same1_bool, same1_str, same1_ptr, same1_sl, same1_map, cp, cpr]) rfl) (lag_cons (lag_one rfl (by simp [cp, cpr]; constructor <;> rfl) rfl (by simp [cp, cpr]) (by simp [sameL, sameV_agg, sameV_int, sameV_bool, sameV_str, sameV_ptr, sameV_sl, sameV_map, same1_int, same1_bool, same1_str, same1_ptr, same1_sl, same1_map, cp, cpr]) rfl) rfl))) ?_
  refine XK.call rfl (by simp [cp, cpr]) rfl (by simp [Tryd.func72, Tryd.f72, cp, cpr]; constructor <;> rfl) ?_
  refine FSem.mono (bflag_s (p.go) hB (by omega)) ?_
  rintro _ M2 ⟨s2, c2, rfl, hc2, hl2, hB, hF2, hS2⟩
  replace hSH := hSH.trans hFH.1 hS2
  replace hFH := hFH.trans hSO hF2
  replace hSO := hSH
  replace o_cp := o_cp.go hF2 hS2
  replace cp := o_cp.cell
  replace cpr := cellr cp
  refine And.intro (lag_list (l := [16]) (by kernel_rfl) (lag_cons (lag_one rfl (by simp [cp, cpr]; constructor <;> rfl) rfl (by simp [cp, cpr]) (by simp [sameL, sameV_agg, sameV_int, sameV_bool, sameV_str, sameV_ptr, sameV_sl, sameV_map, same1_int, same1_bool, same1_str, same1_ptr, same1_sl, same1_map, cp, cpr]) rfl) rfl)) ?_
  refine XK.call rfl (by simp [cp, cpr]) rfl (by simp [Tryd.func72, Tryd.f72, cp, cpr]; constructor <;> rfl) ?_
  refine FSem.mono (bflag_s (p.la) hB (by omega)) ?_
  rintro _ M3 ⟨s3, c3, rfl, hc3, hl3, hB, hF3, hS3⟩
  replace hSH := hSH.trans hFH.1 hS3
  replace hFH := hFH.trans hSO hF3
  replace hSO := hSH
  replace o_cp := o_cp.go hF3 hS3
  replace cp := o_cp.cell
  replace cpr := cellr cp
  refine And.intro (lag_list (l := []) (by kernel_rfl) rfl) ?_
  refine XK.nil ?_
  refine And.intro (Or.inl rfl) ?_
  refine ⟨_, by simp [absAnswer, absResults, absResult, Tryd.f45]; rfl, ?_⟩
  exact ⟨_, _, by rw [hc3, hc2, hc1]; simp [plN, numsB], by omega, hB, hFH, hSH⟩
end Go.Den
namespace Go.Den
open Go Go.Proofs
set_option maxRecDepth 100000
set_option maxHeartbeats 1000000
set_option linter.all false
attribute [local simp] evOps evOp absOp absBox absAlloc absLoad absStore absField absCells absBinOp absBin absInt absShift absUn absPick absNil absExtract absBuild absPlaces Instr.fill absBuiltin absMinMax plainV plainT allA flat cells_agg cells_int cells_bool cells_str cells_ptr cells_sl cells_map one_int one_bool one_str one_ptr one_sl one_map Act.eval Act.put Region.wanted yielded splice absCall TypeDesc.isRow
theorem aput_s (a : Ac) {sa : Value} {k : Nat} {s : Value} {c : List By} {e : Int} {H : Mem} (hB0 : BoxAt H k s c e) (hO0 : OpenAt H sa a.op) (h1 : blkOf sa ≠ some k) (h2 : ∀ c, blkOf sa = some c → blkOf s ≠ some c) (hn : c.length + 88 * a.op.length ≤ 3700000000000) : FSem Tryd.prog [0] 46 #[.pointer (some ⟨k, 0, none⟩), a.v sa] H fun v H' => ∃ s' c', c' = c ++ numsB (acN a) ∧ c'.length ≤ c.length + 200 + 88 * a.op.length ∧ BoxAt H' k s' c' e ∧ Fr2 H k s H' ∧ Src H s s' := by
  refine FSem.ofK Tryd.func46 rfl ?_
  refine DK.from (b' := ⟨#[.pointer (some ⟨k, 0, none⟩), a.v sa, undef, undef, undef, undef, undef, undef, undef, undef, undef, undef, undef, undef, undef, undef, undef, undef, undef, undef, undef, undef, undef, undef, undef, undef, undef, undef, undef, undef, undef, undef, undef, undef, undef, undef, undef, undef, undef, undef, undef, undef, undef, undef, undef, undef, undef, undef, undef, undef, undef, undef, undef, undef, undef, undef, undef, undef, undef, undef, undef, undef, undef, undef, undef, undef, undef, undef, undef, undef, undef, undef, undef, undef, undef, undef, undef, undef, undef], []⟩) (by kernel_rfl) ?_
  have ca := True.intro
  have car := True.intro
  have cq := True.intro
  have cqr := True.intro
  have cy := True.intro
  have cyr := True.intro
  have hwr := True.intro
  have hi9 := True.intro
  have hlt := True.intro
  have hln := True.intro
  have hidx := True.intro
  have hb := True.intro
  have hge := True.intro
  have hle := True.intro
  have hs0 := True.intro
  have hs1 := True.intro
  replace hs0 := hO0.cells.1
  replace hs1 := hO0.cells.2
  replace hln := hO0.lenK
  refine DK.seq ?_
  refine DK.region (is := [0]) (by kernel_rfl) rfl ?_
  refine WK.run (rest := []) [0] (by simp [ca, car, cq, cqr, cy, cyr, hwr, hi9, hlt, hln, hidx, hb, hge, hle, hs0, hs1, Cy.cells]; constructor <;> rfl) ?_
  refine WK.nil ?_
  refine DK.abs (fun M0 => Keep H M0 ∧ M0[H.length]? = some (.cells false (a.l sa))) ⟨Keep.app _ _, by simp⟩ ?_
  rintro M0 ⟨hK, q0⟩
  have o_ca := OwnB.new hB0 q0
  have hB := hB0.keep hK
  have hFH := Fr2.of hK k s
  have hSH : Src _ s s := Src.refl H s
  have hSO := hSH
  replace ca := o_ca.cell
  replace car := cellr ca
  refine DK.seq ?_
  refine DK.region (is := [0, 1, 2, 3, 4, 5]) (by kernel_rfl) rfl ?_
  refine WK.run (rest := [4, 5]) [0, 1, 2, 3] (by simp [ca, car, cq, cqr, cy, cyr, hwr, hi9, hlt, hln, hidx, hb, hge, hle, hs0, hs1, Cy.cells]; constructor <;> rfl) ?_
  refine WK.run (rest := [5]) [4] (by simp [ca, car, cq, cqr, cy, cyr, hwr, hi9, hlt, hln, hidx, hb, hge, hle, hs0, hs1, Cy.cells]; constructor <;> rfl) ?_
  refine WK.call rfl (by simp [ca, car, cq, cqr, cy, cyr, hwr, hi9, hlt, hln, hidx, hb, hge, hle, hs0, hs1, Cy.cells]) (by simp [Tryd.func44, Tryd.f44, ca, car, cq, cqr, cy, cyr, hwr, hi9, hlt, hln, hidx, hb, hge, hle, hs0, hs1, Cy.cells]; constructor <;> rfl) ?_
  refine FSem.mono (putl_g [IntKind.i64.wrap a.st] hB rfl rfl (by omega)) ?_
  rintro _ M1 ⟨s1, c1, rfl, hc1, hl1, hB, hF1, hS1⟩
  replace hSH := hSH.trans hFH.1 hS1
  replace hFH := hFH.trans hSO hF1
  replace hSO := hSH
  replace o_ca := o_ca.go hF1 hS1
  replace ca := o_ca.cell
  replace car := cellr ca
  refine WK.nil ?_
  refine DK.seq ?_
  refine DK.seq ?_
  refine DK.region (is := [0, 1, 2]) (by kernel_rfl) rfl ?_
  refine WK.run (rest := []) [0, 1, 2] (by simp [ca, car, cq, cqr, cy, cyr, hwr, hi9, hlt, hln, hidx, hb, hge, hle, hs0, hs1, Cy.cells]; constructor <;> rfl) ?_
  refine WK.nil ?_
  refine DK.test rfl rfl (fun h => ?_) (fun h => ?_)
  · try simp only [h]
    replace h := Tr.out h
    have hst := h
    refine DK.ret ?_
    refine And.intro (Or.inr rfl) ?_
    refine ⟨_, by simp [absAnswer, absResults, absResult, Tryd.f46]; rfl, ?_⟩
    first
      | exact ⟨_, _, by rw [hc1]; simp [acN, numsB, hst], by omega, hB, hFH, hSH⟩
      | (have hi : i = a.op.length := by omega
         subst hi
         exact ⟨_, _, by rw [hcc, hc4, hc3, hc2, hc1]; simp [acN, numsB, numsB_app, hst], by omega, hB, hFH, hSH⟩)
  try simp only [h]
  replace h := Fa.out h
  have hst := h
  refine DK.skip ?_
  refine DK.seq ?_
  refine DK.region (is := [0, 1, 2, 3]) (by kernel_rfl) rfl ?_
  refine WK.run (rest := []) [0, 1, 2, 3] (by simp [ca, car, cq, cqr, cy, cyr, hwr, hi9, hlt, hln, hidx, hb, hge, hle, hs0, hs1, Cy.cells]; constructor <;> rfl) ?_
  refine WK.nil ?_
  refine DK.abs (fun M2 => Keep M1 M2 ∧ M2[M1.length]? = some (.cells false ([.int .i64 a.dn, .int .i64 a.up, .int .i64 a.rf, .int .i64 a.sp, .int .i64 a.pd]))) ⟨Keep.app _ _, by simp⟩ ?_
  rintro M2 ⟨hK, q0⟩
  have o_cq := OwnB.new hB q0
  replace hB := hB.keep hK
  replace hFH := hFH.trans hSO (Fr2.of hK k _)
  replace o_ca := o_ca.kp hK
  replace ca := o_ca.cell
  replace car := cellr ca
  replace cq := o_cq.cell
  replace cqr := cellr cq
  refine DK.seq ?_
  refine DK.draw rfl (POk.of (ord := [0, 1, 2, 3, 4, 5, 6, 7, 8, 9, 10, 11, 13, 14, 12, 15]) (by kernel_rfl)) ?_
  refine XK.run (rest := [4, 5, 6, 7, 8, 9, 10, 11, 13, 14, 12, 15]) [0, 1, 2, 3] (by kernel_rfl) (by simp [ca, car, cq, cqr, cy, cyr, hwr, hi9, hlt, hln, hidx, hb, hge, hle, hs0, hs1, Cy.cells]; constructor <;> rfl) ?_
  refine XK.run (rest := [8, 9, 10, 11, 13, 14, 12, 15]) [4, 5, 6, 7] (by kernel_rfl) (by simp [ca, car, cq, cqr, cy, cyr, hwr, hi9, hlt, hln, hidx, hb, hge, hle, hs0, hs1, Cy.cells]; constructor <;> rfl) ?_
  refine XK.run (rest := [13, 14, 12, 15]) [8, 9, 10, 11] (by kernel_rfl) (by simp [ca, car, cq, cqr, cy, cyr, hwr, hi9, hlt, hln, hidx, hb, hge, hle, hs0, hs1, Cy.cells]; constructor <;> rfl) ?_
  refine XK.run (rest := [12, 15]) [13, 14] (by kernel_rfl) (by simp [ca, car, cq, cqr, cy, cyr, hwr, hi9, hlt, hln, hidx, hb, hge, hle, hs0, hs1, Cy.cells]; constructor <;> rfl) ?_
  refine XK.call rfl (by simp [ca, car, cq, cqr, cy, cyr, hwr, hi9, hlt, hln, hidx, hb, hge, hle, hs0, hs1, Cy.cells]) rfl (by simp [Tryd.func44, Tryd.f44, ca, car, cq, cqr, cy, cyr, hwr, hi9, hlt, hln, hidx, hb, hge, hle, hs0, hs1, Cy.cells]; constructor <;> rfl) ?_
  refine FSem.mono (putl_g [a.pl, a.an, a.ix, a.ct, a.cr] hB rfl rfl (by omega)) ?_
  rintro _ M2 ⟨s2, c2, rfl, hc2, hl2, hB, hF2, hS2⟩
  replace hSH := hSH.trans hFH.1 hS2
  replace hFH := hFH.trans hSO hF2
  replace hSO := hSH
  replace o_ca := o_ca.go hF2 hS2
  replace ca := o_ca.cell
  replace car := cellr ca
  replace o_cq := o_cq.go hF2 hS2
  replace cq := o_cq.cell
  replace cqr := cellr cq
  refine And.intro (lag_list (l := [14]) (by kernel_rfl) (lag_cons (lag_one rfl (by simp [ca, car, cq, cqr, cy, cyr, hwr, hi9, hlt, hln, hidx, hb, hge, hle, hs0, hs1, Cy.cells]; constructor <;> rfl) rfl (by simp [ca, car, cq, cqr, cy, cyr, hwr, hi9, hlt, hln, hidx, hb, hge, hle, hs0, hs1, Cy.cells]) (by simp [sameL, sameV_agg, sameV_int, sameV_bool, sameV_str, sameV_ptr, sameV_sl, sameV_map, same1_int, same1_bool, same1_str, same1_ptr, same1_sl, same1_map, ca, car, cq, cqr, cy, cyr, hwr, hi9, hlt, hln, hidx, hb, hge, hle, hs0, hs1, Cy.cells]) rfl) rfl)) ?_
  refine XK.call rfl (by simp [ca, car, cq, cqr, cy, cyr, hwr, hi9, hlt, hln, hidx, hb, hge, hle, hs0, hs1, Cy.cells]) rfl (by simp [Tryd.func72, Tryd.f72, ca, car, cq, cqr, cy, cyr, hwr, hi9, hlt, hln, hidx, hb, hge, hle, hs0, hs1, Cy.cells]; constructor <;> rfl) ?_
  refine FSem.mono (bflag_s (a.sk) hB (by omega)) ?_
  rintro _ M3 ⟨s3, c3, rfl, hc3, hl3, hB, hF3, hS3⟩
  replace hSH := hSH.trans hFH.1 hS3
  replace hFH := hFH.trans hSO hF3
  replace hSO := hSH
  replace o_ca := o_ca.go hF3 hS3
  replace ca := o_ca.cell
  replace car := cellr ca
  replace o_cq := o_cq.go hF3 hS3
  replace cq := o_cq.cell
  replace cqr := cellr cq
  refine And.intro (lag_list (l := []) (by kernel_rfl) rfl) ?_
  refine XK.nil ?_
  refine DK.seq ?_
  refine DK.region (is := [0, 1, 2, 3, 4, 5, 6, 7, 8, 9, 10, 11, 12, 13, 14, 15]) (by kernel_rfl) rfl ?_
  refine WK.run (rest := [4, 5, 6, 7, 8, 9, 10, 11, 12, 13, 14, 15]) [0, 1, 2, 3] (by simp [ca, car, cq, cqr, cy, cyr, hwr, hi9, hlt, hln, hidx, hb, hge, hle, hs0, hs1, Cy.cells]; constructor <;> rfl) ?_
  refine WK.run (rest := [8, 9, 10, 11, 12, 13, 14, 15]) [4, 5, 6, 7] (by simp [ca, car, cq, cqr, cy, cyr, hwr, hi9, hlt, hln, hidx, hb, hge, hle, hs0, hs1, Cy.cells]; constructor <;> rfl) ?_
  refine WK.run (rest := [12, 13, 14, 15]) [8, 9, 10, 11] (by simp [ca, car, cq, cqr, cy, cyr, hwr, hi9, hlt, hln, hidx, hb, hge, hle, hs0, hs1, Cy.cells]; constructor <;> rfl) ?_
  refine WK.run (rest := [15]) [12, 13, 14] (by simp [ca, car, cq, cqr, cy, cyr, hwr, hi9, hlt, hln, hidx, hb, hge, hle, hs0, hs1, Cy.cells]; constructor <;> rfl) ?_
  refine WK.call rfl (by simp [ca, car, cq, cqr, cy, cyr, hwr, hi9, hlt, hln, hidx, hb, hge, hle, hs0, hs1, Cy.cells]) (by simp [Tryd.func44, Tryd.f44, ca, car, cq, cqr, cy, cyr, hwr, hi9, hlt, hln, hidx, hb, hge, hle, hs0, hs1, Cy.cells]; constructor <;> rfl) ?_
  refine FSem.mono (putl_g [a.dn, a.up, a.rf, a.sp, a.pd, a.op.length] hB rfl rfl (by omega)) ?_
  rintro _ M4 ⟨s4, c4, rfl, hc4, hl4, hB, hF4, hS4⟩
  replace hSH := hSH.trans hFH.1 hS4
  replace hFH := hFH.trans hSO hF4
  replace hSO := hSH
  replace o_ca := o_ca.go hF4 hS4
  replace ca := o_ca.cell
  replace car := cellr ca
  replace o_cq := o_cq.go hF4 hS4
  replace cq := o_cq.cell
  replace cqr := cellr cq
  refine WK.nil ?_
  refine DK.seq ?_
  refine DK.region (is := [0, 1, 2, 3]) (by kernel_rfl) rfl ?_
  refine WK.run (rest := []) [0, 1, 2, 3] (by simp [ca, car, cq, cqr, cy, cyr, hwr, hi9, hlt, hln, hidx, hb, hge, hle, hs0, hs1, Cy.cells]; constructor <;> rfl) ?_
  refine WK.nil ?_
  have hO := hO0.fr2 hFH h1 h2
  refine DK.block ?_
  refine DK.loopF [6, 53, 54, 55, 56, 57, 58, 59, 60, 61, 62, 63, 64, 65, 66, 67, 68, 69, 70, 71, 72, 73, 74, 75, 76, 77, 78] [53] (fun fl vs H' => ∃ (i : Int) (s5 : Value) (c5 : List By), vs = [.int .i64 i] ∧ (c5 = c4 ++ numsB ((a.op.take i.toNat).flatMap cyN) ∧ c5.length ≤ c4.length + 88 * i.toNat ∧ BoxAt H' k s5 c5 e ∧ Fr2 H k s H' ∧ Src H s s5) ∧ 0 ≤ i ∧ i ≤ a.op.length ∧ fl = (a.op.length - i).toNat) (a.op.length) (by kernel_rfl) ?_ ?_
  · refine ⟨_, s4, c4, rfl, ?_⟩
    exact ⟨⟨by simp [numsB], by simp, hB, hFH, hSH⟩, by omega, by omega, by omega⟩
  rintro fl f1j M ⟨i, s5, c5, hv, hf⟩
  clear hB hFH hSH hSO hO
  obtain ⟨⟨hcc, hcl, hB, hFH, hSH⟩, hi0, hi1, hfl⟩ := hf
  have hSO := hSH
  have hO := hO0.fr2 hFH h1 h2
  simp only [List.map_cons, List.map_nil, List.cons.injEq, and_true] at hv
  have hv1_0 := hv
  refine DK.from ((setL_S (by decide) _ _).trans (by simp [setS, hv1_0]; exact rfl)) ?_
  refine DK.seq ?_
  refine DK.region (is := [0]) (by kernel_rfl) rfl ?_
  refine WK.run (rest := []) [0] (by simp [ca, car, cq, cqr, cy, cyr, hwr, hi9, hlt, hln, hidx, hb, hge, hle, hs0, hs1, Cy.cells]; constructor <;> rfl) ?_
  refine WK.nil ?_
  refine DK.seq ?_
  refine DK.test rfl rfl (fun h => ?_) (fun h => ?_)
  · try simp only [h]
    replace h := Tr.out h
    replace hi9 : 0 ≤ i := hi0
    replace hwr : IntKind.i64.wrap (i + 1) = i + 1 := wrap_in _ (by omega) (by omega)
    replace hlt : i < a.op.length := h
    have hil : i.toNat < a.op.length := by omega
    obtain ⟨b, hidx0, hb0⟩ := idx_cy hO hi0 hil
    replace hidx := hidx0
    replace hb := hb0
    replace hge := cys_get hil
    replace hle : i.toNat * 8 + 8 ≤ a.op.length * 8 := by omega
    refine DK.skip ?_
    refine DK.seq ?_
    refine DK.block ?_
    refine DK.seq ?_
    refine DK.region (is := [0, 1, 2, 3]) (by kernel_rfl) rfl ?_
    refine WK.run (rest := []) [0, 1, 2, 3] (by simp [ca, car, cq, cqr, cy, cyr, hwr, hi9, hlt, hln, hidx, hb, hge, hle, hs0, hs1, Cy.cells]; constructor <;> rfl) ?_
    refine WK.nil ?_
    refine DK.abs (fun MC => Keep M MC ∧ MC[M.length]? = some (.cells false (a.op[i.toNat].l))) ⟨Keep.app _ _, by simp⟩ ?_
    rintro MC ⟨hK, q0⟩
    have o_cy := OwnB.new hB q0
    replace hB := hB.keep hK
    replace hFH := hFH.trans hSO (Fr2.of hK k _)
    replace cy := o_cy.cell
    replace cyr := cellr cy
    refine DK.draw rfl (POk.of (ord := [0, 1, 2, 3, 4, 5, 6, 7, 8, 9, 10, 11, 12, 13, 14, 15, 16, 18, 19, 17, 20]) (by kernel_rfl)) ?_
    refine XK.run (rest := [4, 5, 6, 7, 8, 9, 10, 11, 12, 13, 14, 15, 16, 18, 19, 17, 20]) [0, 1, 2, 3] (by kernel_rfl) (by simp [ca, car, cq, cqr, cy, cyr, hwr, hi9, hlt, hln, hidx, hb, hge, hle, hs0, hs1, Cy.cells]; constructor <;> rfl) ?_
    refine XK.run (rest := [8, 9, 10, 11, 12, 13, 14, 15, 16, 18, 19, 17, 20]) [4, 5, 6, 7] (by kernel_rfl) (by simp [ca, car, cq, cqr, cy, cyr, hwr, hi9, hlt, hln, hidx, hb, hge, hle, hs0, hs1, Cy.cells]; constructor <;> rfl) ?_
    refine XK.run (rest := [12, 13, 14, 15, 16, 18, 19, 17, 20]) [8, 9, 10, 11] (by kernel_rfl) (by simp [ca, car, cq, cqr, cy, cyr, hwr, hi9, hlt, hln, hidx, hb, hge, hle, hs0, hs1, Cy.cells]; constructor <;> rfl) ?_
    refine XK.run (rest := [16, 18, 19, 17, 20]) [12, 13, 14, 15] (by kernel_rfl) (by simp [ca, car, cq, cqr, cy, cyr, hwr, hi9, hlt, hln, hidx, hb, hge, hle, hs0, hs1, Cy.cells]; constructor <;> rfl) ?_
    refine XK.run (rest := [17, 20]) [16, 18, 19] (by kernel_rfl) (by simp [ca, car, cq, cqr, cy, cyr, hwr, hi9, hlt, hln, hidx, hb, hge, hle, hs0, hs1, Cy.cells]; constructor <;> rfl) ?_
    refine XK.call rfl (by simp [ca, car, cq, cqr, cy, cyr, hwr, hi9, hlt, hln, hidx, hb, hge, hle, hs0, hs1, Cy.cells]) rfl (by simp [Tryd.func44, Tryd.f44, ca, car, cq, cqr, cy, cyr, hwr, hi9, hlt, hln, hidx, hb, hge, hle, hs0, hs1, Cy.cells]; constructor <;> rfl) ?_
    refine FSem.mono (putl_g [a.op[i.toNat].no, a.op[i.toNat].due, IntKind.i64.wrap a.op[i.toNat].ph, a.op[i.toNat].am, a.op[i.toNat].us, a.op[i.toNat].tr, a.op[i.toNat].nx] hB rfl rfl (by omega)) ?_
    rintro _ M5 ⟨s5, c5, rfl, hc5, hl5, hB, hF5, hS5⟩
    replace hSH := hSH.trans hFH.1 hS5
    replace hFH := hFH.trans hSO hF5
    replace hSO := hSH
    replace o_cy := o_cy.go hF5 hS5
    replace cy := o_cy.cell
    replace cyr := cellr cy
    refine And.intro (lag_list (l := [19]) (by kernel_rfl) (lag_cons (lag_one rfl (by simp [ca, car, cq, cqr, cy, cyr, hwr, hi9, hlt, hln, hidx, hb, hge, hle, hs0, hs1, Cy.cells]; constructor <;> rfl) rfl (by simp [ca, car, cq, cqr, cy, cyr, hwr, hi9, hlt, hln, hidx, hb, hge, hle, hs0, hs1, Cy.cells]) (by simp [sameL, sameV_agg, sameV_int, sameV_bool, sameV_str, sameV_ptr, sameV_sl, sameV_map, same1_int, same1_bool, same1_str, same1_ptr, same1_sl, same1_map, ca, car, cq, cqr, cy, cyr, hwr, hi9, hlt, hln, hidx, hb, hge, hle, hs0, hs1, Cy.cells]) rfl) rfl)) ?_
    refine XK.call rfl (by simp [ca, car, cq, cqr, cy, cyr, hwr, hi9, hlt, hln, hidx, hb, hge, hle, hs0, hs1, Cy.cells]) rfl (by simp [Tryd.func72, Tryd.f72, ca, car, cq, cqr, cy, cyr, hwr, hi9, hlt, hln, hidx, hb, hge, hle, hs0, hs1, Cy.cells]; constructor <;> rfl) ?_
    refine FSem.mono (bflag_s (a.op[i.toNat].gd) hB (by omega)) ?_
    rintro _ M6 ⟨s6, c6, rfl, hc6, hl6, hB, hF6, hS6⟩
    replace hSH := hSH.trans hFH.1 hS6
    replace hFH := hFH.trans hSO hF6
    replace hSO := hSH
    replace o_cy := o_cy.go hF6 hS6
    replace cy := o_cy.cell
    replace cyr := cellr cy
    refine And.intro (lag_list (l := []) (by kernel_rfl) rfl) ?_
    refine XK.nil ?_
    refine DK.region (is := [0, 1]) (by kernel_rfl) rfl ?_
    refine WK.run (rest := []) [0, 1] (by simp [ca, car, cq, cqr, cy, cyr, hwr, hi9, hlt, hln, hidx, hb, hge, hle, hs0, hs1, Cy.cells]; constructor <;> rfl) ?_
    refine WK.nil ?_
    refine ⟨by kernel_rfl, (a.op.length - (i + 1)).toNat, ?_, _, s6, c6, rfl, ?_⟩
    · omega
    · rw [show (i + 1).toNat = i.toNat + 1 by omega]
      exact ⟨⟨by rw [hc6, hc5, hcc, fm_take cyN hil, numsB_app]; simp [cyN, numsB], by omega, hB, hFH, hSH⟩, by omega, by omega, rfl⟩
  try simp only [h]
  replace h := Fa.out h
  refine DK.exit ?_
  refine And.intro (Or.inl rfl) ?_
  refine ⟨_, by simp [absAnswer, absResults, absResult, Tryd.f46]; rfl, ?_⟩
  first
    | exact ⟨_, _, by rw [hc1]; simp [acN, numsB, hst], by omega, hB, hFH, hSH⟩
    | (have hi : i = a.op.length := by omega
       subst hi
       exact ⟨_, _, by rw [hcc, hc4, hc3, hc2, hc1]; simp [acN, numsB, numsB_app, hst], by omega, hB, hFH, hSH⟩)
end Go.Den
set_option linter.unusedVariables false
set_option maxRecDepth 100000
namespace Go.Den
open Go Go.Proofs
theorem RowAt.idx {α : Type} [Cel α] {P : Program} {M : Mem} {w : Value} {l : List α} {i : Int} (hw : RowAt M w l) (h0 : 0 ≤ i) (h1 : i.toNat < l.length) {T e : Nat} {f : TypeInfo} (hu : P.underlying T = some (.slice e)) (hi : P.info? e = some f) (hk : f.size = Cel.k α) :
    ∃ b o ro vs, absIndexAddr P M T w (.int .i64 i) = some (.pointer (some ⟨b, o + i.toNat * Cel.k α, none⟩)) ∧ M[b]? = some (.cells ro vs) ∧ o + i.toNat * Cel.k α + Cel.k α ≤ vs.length ∧ List.take (Cel.k α) (List.drop (o + i.toNat * Cel.k α) vs) = Cel.f l[i.toNat] := by
  obtain ⟨b, o, ro, vs, rfl, hb, hle, hge⟩ := hw.blk h1
  have hl : i < (l.length : Int) := by omega
  exact ⟨b, o, ro, vs, by simp [absIndexAddr, hu, hi, hk, h0, hl], hb, hle, hge⟩
theorem appBy2 {H : Mem} {s x : Value} {l r : List By} (hs : RowAt H s l) (hw : Own H s) (hx : RowAt H x r) (hn : l.length + r.length ≤ 10000000000000) :
    ∃ s' H', absAppend Tryd.prog H #[72, 72] s x = some (s', H') ∧ RowAt H' s' (l ++ r) ∧ Own H' s' ∧ Fr H s H' ∧ (s' = s ∨ New H.length s') ∧ (r ≠ [] → New H.length s') :=
  RowAt.appB hs hw hx Tryd.underlying72 inf5 sz5 ze5 rfl (by omega) (by rw [show I5.bytes = 1 by kernel_rfl]; omega)
theorem enc_step {M0 M M' : Mem} {k : Nat} {s s' : Value} (hK : Keep M0 M) (hk : M0.length ≤ k) (hN : New M0.length s) (hF : Fr2 M k s M') (hS : Src M s s') : Keep M0 M' ∧ New M0.length s' :=
  ⟨⟨Nat.le_trans hK.1 hF.1, fun i hi => (hF.2 i (Nat.lt_of_lt_of_le hi hK.1) (by omega) (fun q => by have := hN i q; omega)).trans (hK.2 i hi)⟩, fun c hc => (hS c hc).elim (hN c) (fun q => Nat.le_trans hK.1 q)⟩
end Go.Den
namespace Go.Den
open Go Go.Proofs
set_option maxRecDepth 100000
set_option maxHeartbeats 1000000
set_option linter.all false
attribute [local simp] evOps evOp absOp absBox absAlloc absLoad absStore absField absIndexAddr absCells absBinOp absBin absInt absShift absUn absPick absNil absExtract absBuild absPlaces Instr.fill absBuiltin absMinMax plainV plainT allA flat cells_agg cells_int cells_bool cells_str cells_ptr cells_sl cells_map one_int one_bool one_str one_ptr one_sl one_map Act.eval Act.put Region.wanted yielded splice absCall TypeDesc.isRow
theorem pnew_s  (H : Mem) : FSem Tryd.prog [0] 43 #[] H fun v H' => ∃ k, v = .pointer (some ⟨k, 0, none⟩) ∧ H.length ≤ k ∧ Keep H H' ∧ BoxAt H' k (.slice none 0 0) [] 0 := by
  refine FSem.ofK Tryd.func43 rfl ?_
  refine DK.from (b' := ⟨#[undef, undef, undef], []⟩) (by kernel_rfl) ?_
  refine DK.seq ?_
  refine DK.region (is := [0]) (by kernel_rfl) rfl ?_
  refine WK.run (rest := []) [0] (by simp; constructor <;> rfl) ?_
  refine WK.nil ?_
  refine DK.seq ?_
  refine DK.region (is := [0, 1, 2]) (by kernel_rfl) rfl ?_
  refine WK.run (rest := []) [0, 1, 2] (by simp; constructor <;> rfl) ?_
  refine WK.nil ?_
  refine DK.ret ?_
  refine And.intro (Or.inr rfl) ?_
  refine ⟨_, by simp [absAnswer, absResults, absResult, Tryd.f43]; rfl, ?_⟩
  exact ⟨_, rfl, Nat.le_refl _, Keep.app _ _, by simp, RowAt.nil _, Own.nil _ _ _, by intro q; cases q⟩
theorem pdone_s {k : Nat} {s : Value} {c : List By} {e : Int} {H : Mem} (hB : BoxAt H k s c e) (hn : c.length ≤ 10000000000000) : FSem Tryd.prog [0] 47 #[.pointer (some ⟨k, 0, none⟩)] H fun v H' => RowOut H c v H' := by
  refine FSem.ofK Tryd.func47 rfl ?_
  refine DK.from (b' := ⟨#[.pointer (some ⟨k, 0, none⟩), undef, undef, undef, undef, undef, undef, undef, undef, undef], []⟩) (by kernel_rfl) ?_
  have cb := True.intro
  have cbr := True.intro
  have happ := True.intro
  replace cb := hB.cell
  replace cbr := cellr cb
  obtain ⟨s2, M2, ha2, hR2, hW2, hf2, hN2, _⟩ := appBy2 (RowAt.nil H) (Own.nil H 0 0) hB.row (by simpa using hn)
  replace happ := ha2
  refine DK.seq ?_
  refine DK.region (is := [0]) (by kernel_rfl) rfl ?_
  refine WK.run (rest := []) [0] (by simp [cb, cbr, happ]; constructor <;> rfl) ?_
  refine WK.nil ?_
  refine DK.seq ?_
  refine DK.seq ?_
  refine DK.region (is := [0, 1]) (by kernel_rfl) rfl ?_
  refine WK.run (rest := []) [0, 1] (by simp [cb, cbr, happ]; constructor <;> rfl) ?_
  refine WK.nil ?_
  refine DK.test rfl rfl (fun h => ?_) (fun h => ?_)
  · try simp only [h]
    replace h := Tr.out h
    cases h
  try simp only [h]
  replace h := Fa.out h
  refine DK.skip ?_
  refine DK.seq ?_
  refine DK.region (is := [0, 1, 2, 3, 4, 5]) (by kernel_rfl) rfl ?_
  refine WK.run (rest := [4, 5]) [0, 1, 2, 3] (by simp [cb, cbr, happ]; constructor <;> rfl) ?_
  refine WK.run (rest := []) [4, 5] (by simp [cb, cbr, happ]; constructor <;> rfl) ?_
  refine WK.nil ?_
  refine DK.ret ?_
  refine And.intro (Or.inr rfl) ?_
  refine ⟨_, by simp [absAnswer, absResults, absResult, Tryd.f47]; rfl, ?_⟩
  exact ⟨(Keep.frn (Keep.refl H) hf2 (New.nil _ _ _)).ext, hR2, hW2, by rcases hN2 with q | q; rw [q]; exact New.nil _ _ _; exact q⟩
end Go.Den
namespace Go.Den
open Go Go.Proofs
set_option maxRecDepth 100000
set_option maxHeartbeats 1000000
set_option linter.all false
attribute [local simp] evOps evOp absOp absBox absLoad absStore absField absCells absBinOp absBin absInt absShift absUn absPick absNil absExtract absPlaces Instr.fill absBuiltin absMinMax plainV plainT allA flat cells_agg cells_int cells_bool cells_str cells_ptr cells_sl cells_map one_int one_bool one_str one_ptr one_sl one_map Act.eval Act.put Region.wanted yielded absCall TypeDesc.isRow
attribute [local simp high] bk_t bk_p bk_take bk_row BkL_len sp_bk sp_t sp_p
attribute [local simp] sp_nil sp_0 sp_s List.length_set
theorem encode_s (kk : Nat) (b : Bk) {sp : Value} {l : List As} {H : Mem} (hB : BkAt H sp l b) (hk : BOk kk b) (hk3 : kk ≤ 1000000000) (hp8 : b.pls.length ≤ 8) : FSem Tryd.prog [0] 21 #[bkv b.today sp l] H fun v H' => RowOut H (encB b) v H' := by
  refine FSem.ofK Tryd.func21 rfl ?_
  refine DK.from (b' := ⟨#[bkv b.today sp l, undef, undef, undef, undef, undef, undef, undef, undef, undef, undef, undef, undef, undef, undef, undef, undef, undef, undef, undef, undef, undef, undef, undef, undef, undef, undef, undef, undef, undef, undef, undef, undef, undef, undef, undef, undef, undef], []⟩) (by kernel_rfl) ?_
  have cb := True.intro
  have cbr := True.intro
  have hsp0 := True.intro
  have hsp1 := True.intro
  have hl32 := True.intro
  have hln := True.intro
  have hidx := True.intro
  have hbp := True.intro
  have hge := True.intro
  have hle := True.intro
  have cp := True.intro
  have cpr := True.intro
  have hi0 := True.intro
  have hi1 := True.intro
  have hwr := True.intro
  have hpt := True.intro
  have hcc := True.intro
  have hccr := True.intro
  have hs0 := True.intro
  have hs1 := True.intro
  have hss := True.intro
  obtain ⟨hsp0, hsp1⟩ := hB.pls.cells
  have hl32 := hB.len
  have hB32 := hk.len
  replace hln := lenPl hB.pls
  replace hss := hB.pls.same.2
  have hKM := True.intro
  have hN := True.intro
  have hBx := True.intro
  refine DK.seq ?_
  refine DK.region (is := [0, 1]) (by kernel_rfl) rfl ?_
  refine WK.run (rest := []) [0, 1] (by simp [cb, cbr, hsp0, hsp1, hl32, hln, hidx, hbp, hge, hle, cp, cpr, hi0, hi1, hwr, hpt, hcc, hccr, hs0, hs1, hss, absIndex]; constructor <;> rfl) ?_
  refine WK.nil ?_
  refine DK.abs (fun M0 => Keep H M0 ∧ M0[H.length]? = some (.cells false (BkL b.today sp l))) ⟨Keep.app _ _, mem_app _ _⟩ ?_
  rintro M0 ⟨hkk, h_cb⟩
  replace cb := h_cb
  have hkH := hkk
  have cb0 := cb
  replace cbr := cellr cb
  refine DK.seq ?_
  refine DK.draw rfl (POk.of (ord := [1, 2, 3, 4, 5, 6, 0, 7, 8]) (by kernel_rfl)) ?_
  refine XK.run (rest := [5, 6, 0, 7, 8]) [1, 2, 3, 4] (by kernel_rfl) (by simp [cb, cbr, hsp0, hsp1, hl32, hln, hidx, hbp, hge, hle, cp, cpr, hi0, hi1, hwr, hpt, hcc, hccr, hs0, hs1, hss, absIndex]; constructor <;> rfl) ?_
  refine XK.run (rest := [0, 7, 8]) [5, 6] (by kernel_rfl) (by simp [cb, cbr, hsp0, hsp1, hl32, hln, hidx, hbp, hge, hle, cp, cpr, hi0, hi1, hwr, hpt, hcc, hccr, hs0, hs1, hss, absIndex]; constructor <;> rfl) ?_
  refine XK.call rfl (by simp [cb, cbr, hsp0, hsp1, hl32, hln, hidx, hbp, hge, hle, cp, cpr, hi0, hi1, hwr, hpt, hcc, hccr, hs0, hs1, hss, absIndex]) rfl (by simp [Tryd.func43, Tryd.f43, cb, cbr, hsp0, hsp1, hl32, hln, hidx, hbp, hge, hle, cp, cpr, hi0, hi1, hwr, hpt, hcc, hccr, hs0, hs1, hss, absIndex]; constructor <;> rfl) ?_
  refine FSem.mono (pnew_s _) ?_
  rintro _ M1 ⟨k, rfl, hk0, hKN, hB0⟩
  have hKM : Keep M0 M1 := (Keep.app _ _).trans hKN
  have hk2 : M0.length + 1 ≤ k := by have := hk0; simp at this; omega
  have hlit := (wds_row (H := M0) [b.today, (b.pls.length : Int)] rfl).keep hKN
  replace cb := hKM.cell cb0
  replace cbr := cellr cb
  refine And.intro (lag_list (l := [2, 4, 5]) (by kernel_rfl) (lag_cons (lag_one rfl (by simp [cb, cbr, hsp0, hsp1, hl32, hln, hidx, hbp, hge, hle, cp, cpr, hi0, hi1, hwr, hpt, hcc, hccr, hs0, hs1, hss, absIndex]; constructor <;> rfl) rfl (by simp [cb, cbr, hsp0, hsp1, hl32, hln, hidx, hbp, hge, hle, cp, cpr, hi0, hi1, hwr, hpt, hcc, hccr, hs0, hs1, hss, absIndex]) (by simp [sameL, sameV_agg, sameV_int, sameV_bool, sameV_str, sameV_ptr, sameV_sl, sameV_map, same1_int, same1_bool, same1_str, same1_ptr, same1_sl, same1_map, cb, cbr, hsp0, hsp1, hl32, hln, hidx, hbp, hge, hle, cp, cpr, hi0, hi1, hwr, hpt, hcc, hccr, hs0, hs1, hss, absIndex]) rfl) (lag_cons (lag_one rfl (by simp [cb, cbr, hsp0, hsp1, hl32, hln, hidx, hbp, hge, hle, cp, cpr, hi0, hi1, hwr, hpt, hcc, hccr, hs0, hs1, hss, absIndex]; constructor <;> rfl) rfl (by simp [cb, cbr, hsp0, hsp1, hl32, hln, hidx, hbp, hge, hle, cp, cpr, hi0, hi1, hwr, hpt, hcc, hccr, hs0, hs1, hss, absIndex]) (by simp [sameL, sameV_agg, sameV_int, sameV_bool, sameV_str, sameV_ptr, sameV_sl, sameV_map, same1_int, same1_bool, same1_str, same1_ptr, same1_sl, same1_map, cb, cbr, hsp0, hsp1, hl32, hln, hidx, hbp, hge, hle, cp, cpr, hi0, hi1, hwr, hpt, hcc, hccr, hs0, hs1, hss, absIndex]) rfl) (lag_cons (lag_one rfl (by simp [cb, cbr, hsp0, hsp1, hl32, hln, hidx, hbp, hge, hle, cp, cpr, hi0, hi1, hwr, hpt, hcc, hccr, hs0, hs1, hss, absIndex]; constructor <;> rfl) rfl (by simp [cb, cbr, hsp0, hsp1, hl32, hln, hidx, hbp, hge, hle, cp, cpr, hi0, hi1, hwr, hpt, hcc, hccr, hs0, hs1, hss, absIndex]) (by simp [sameL, sameV_agg, sameV_int, sameV_bool, sameV_str, sameV_ptr, sameV_sl, sameV_map, same1_int, same1_bool, same1_str, same1_ptr, same1_sl, same1_map, cb, cbr, hsp0, hsp1, hl32, hln, hidx, hbp, hge, hle, cp, cpr, hi0, hi1, hwr, hpt, hcc, hccr, hs0, hs1, hss, absIndex]) rfl) rfl)))) ?_
  refine XK.call rfl (by simp [cb, cbr, hsp0, hsp1, hl32, hln, hidx, hbp, hge, hle, cp, cpr, hi0, hi1, hwr, hpt, hcc, hccr, hs0, hs1, hss, absIndex]) rfl (by simp [Tryd.func44, Tryd.f44, cb, cbr, hsp0, hsp1, hl32, hln, hidx, hbp, hge, hle, cp, cpr, hi0, hi1, hwr, hpt, hcc, hccr, hs0, hs1, hss, absIndex]; constructor <;> rfl) ?_
  refine FSem.mono (bput_s [b.today, (b.pls.length : Int)] hB0 hlit (fun q => by have e : M0.length = k := Option.some.inj q; omega) (fun c _ q => by cases q) (by simp)) ?_
  rintro _ M2 ⟨s2, rfl, hB2, hF2, hS2⟩
  obtain ⟨hKM2, hN2⟩ := enc_step hKM (by omega) (New.nil _ 0 0) hF2 hS2
  replace hKM := hKM2
  have hc2 := numsB_len [b.today, (b.pls.length : Int)]
  replace cb := hKM.cell cb0
  replace cbr := cellr cb
  refine And.intro (lag_list (l := []) (by kernel_rfl) rfl) ?_
  refine XK.one rfl (by simp [cb, cbr, hsp0, hsp1, hl32, hln, hidx, hbp, hge, hle, cp, cpr, hi0, hi1, hwr, hpt, hcc, hccr, hs0, hs1, hss, absIndex]) rfl (by simp [cb, cbr, hsp0, hsp1, hl32, hln, hidx, hbp, hge, hle, cp, cpr, hi0, hi1, hwr, hpt, hcc, hccr, hs0, hs1, hss, absIndex]; constructor <;> rfl) (lag_list (l := []) (by kernel_rfl) rfl) ?_
  refine XK.nil ?_
  refine DK.seq ?_
  refine DK.seq ?_
  refine DK.region (is := [0, 1, 2, 3]) (by kernel_rfl) rfl ?_
  refine WK.run (rest := []) [0, 1, 2, 3] (by simp [cb, cbr, hsp0, hsp1, hl32, hln, hidx, hbp, hge, hle, cp, cpr, hi0, hi1, hwr, hpt, hcc, hccr, hs0, hs1, hss, absIndex]; constructor <;> rfl) ?_
  refine WK.nil ?_
  refine DK.block ?_
  refine DK.loopF [5, 19, 20, 21, 22, 23, 24, 25, 26] [19] (fun fl vs H' => ∃ (i : Int) (s3 : Value) (c3 : List By), vs = [.int .i64 i] ∧ (c3 = numsB [b.today, (b.pls.length : Int)] ++ numsB ((b.pls.take i.toNat).flatMap plN) ∧ c3.length ≤ 22 + 66 * i.toNat ∧ BoxAt H' k s3 c3 0 ∧ Keep M0 H' ∧ New M0.length s3) ∧ 0 ≤ i ∧ i ≤ b.pls.length ∧ fl = (b.pls.length - i).toNat) (b.pls.length) (by kernel_rfl) ?_ ?_
  · refine ⟨_, s2, numsB [b.today, (b.pls.length : Int)], rfl, ?_⟩
    exact ⟨⟨by simp [numsB], by simpa using hc2, by simpa using hB2, hKM, hN2⟩, by omega, by omega, by omega⟩
  rintro fl f1j M ⟨i, s3, c3, hv, hf⟩
  clear hBx hN hKM
  obtain ⟨⟨hcc3, hcl, hBx, hKM, hN⟩, hj0, hj1, hfl⟩ := hf
  replace cb := hKM.cell cb0
  replace cbr := cellr cb
  simp only [List.map_cons, List.map_nil, List.cons.injEq, and_true] at hv
  have hv1_0 := hv
  refine DK.from ((setL_S (by decide) _ _).trans (by simp [setS, hv1_0]; exact rfl)) ?_
  refine DK.seq ?_
  refine DK.region (is := [0]) (by kernel_rfl) rfl ?_
  refine WK.run (rest := []) [0] (by simp [cb, cbr, hsp0, hsp1, hl32, hln, hidx, hbp, hge, hle, cp, cpr, hi0, hi1, hwr, hpt, hcc, hccr, hs0, hs1, hss, absIndex]; constructor <;> rfl) ?_
  refine WK.nil ?_
  refine DK.seq ?_
  refine DK.test rfl rfl (fun h => ?_) (fun h => ?_)
  · try simp only [h]
    replace h := Tr.out h
    replace hi0 : 0 ≤ i := hj0
    have hlt : i < b.pls.length := h
    have hil : i.toNat < b.pls.length := by omega
    replace hwr : IntKind.i64.wrap (i + 1) = i + 1 := wrap_in _ (by omega) (by omega)
    obtain ⟨bp, op, rop, vsp, hidx0, hbp0, hle0, hge0⟩ := (hB.pls.keep (hkH.trans hKM)).idx (T := 27) (e := 44) (i := i) hj0 hil Tryd.underlying27 inf44 sz44
    replace hidx : absIndexAddr Tryd.prog M 27 sp (.int .i64 i) = some (.pointer (some ⟨bp, op + i.toNat * 6, none⟩)) := hidx0
    replace hbp := hbp0
    replace hle : op + i.toNat * 6 + 6 ≤ vsp.length := hle0
    replace hge : List.take 6 (List.drop (op + i.toNat * 6) vsp) = b.pls[i.toNat].l := hge0
    refine DK.skip ?_
    refine DK.seq ?_
    refine DK.block ?_
    refine DK.seq ?_
    refine DK.region (is := [0, 1, 2, 3]) (by kernel_rfl) rfl ?_
    refine WK.run (rest := []) [0, 1, 2, 3] (by simp [cb, cbr, hsp0, hsp1, hl32, hln, hidx, hbp, hge, hle, cp, cpr, hi0, hi1, hwr, hpt, hcc, hccr, hs0, hs1, hss, absIndex]; constructor <;> rfl) ?_
    refine WK.nil ?_
    refine DK.abs (fun MC => Keep M MC ∧ MC[M.length]? = some (.cells false (b.pls[i.toNat].l))) ⟨Keep.app _ _, by simp⟩ ?_
    rintro MC ⟨hK, q0⟩
    replace hBx := hBx.keep hK
    replace hKM := hKM.trans hK
    replace cp := q0
    refine DK.region (is := [0, 1, 2]) (by kernel_rfl) rfl ?_
    refine WK.run (rest := [2]) [0, 1] (by simp [cb, cbr, hsp0, hsp1, hl32, hln, hidx, hbp, hge, hle, cp, cpr, hi0, hi1, hwr, hpt, hcc, hccr, hs0, hs1, hss, absIndex]; constructor <;> rfl) ?_
    refine WK.call rfl (by simp [cb, cbr, hsp0, hsp1, hl32, hln, hidx, hbp, hge, hle, cp, cpr, hi0, hi1, hwr, hpt, hcc, hccr, hs0, hs1, hss, absIndex]) (by simp [Tryd.func45, Tryd.f45, cb, cbr, hsp0, hsp1, hl32, hln, hidx, hbp, hge, hle, cp, cpr, hi0, hi1, hwr, hpt, hcc, hccr, hs0, hs1, hss, absIndex]; constructor <;> rfl) ?_
    refine FSem.mono (plput_s b.pls[i.toNat] hBx (by omega)) ?_
    rintro _ M5 ⟨s5, c5, hc5, hl5, hB5, hF5, hS5⟩
    obtain ⟨hKM5, hN5⟩ := enc_step hKM (by omega) hN hF5 hS5
    replace hKM := hKM5
    refine WK.nil ?_
    refine DK.region (is := [0, 1]) (by kernel_rfl) rfl ?_
    refine WK.run (rest := []) [0, 1] (by simp [cb, cbr, hsp0, hsp1, hl32, hln, hidx, hbp, hge, hle, cp, cpr, hi0, hi1, hwr, hpt, hcc, hccr, hs0, hs1, hss, absIndex]; constructor <;> rfl) ?_
    refine WK.nil ?_
    refine ⟨by kernel_rfl, (b.pls.length - (i + 1)).toNat, ?_, _, s5, c5, rfl, ?_⟩
    · omega
    · rw [show (i + 1).toNat = i.toNat + 1 by omega]
      exact ⟨⟨by rw [hc5, hcc3, fm_take plN hil, numsB_app]; simp, by omega, hB5, hKM, hN5⟩, by omega, by omega, rfl⟩
  try simp only [h]
  replace h := Fa.out h
  have hiE : i = b.pls.length := by omega
  subst hiE
  refine DK.exit ?_
  refine DK.seq ?_
  refine DK.seq ?_
  refine DK.region (is := [0, 1, 2]) (by kernel_rfl) rfl ?_
  refine WK.run (rest := []) [0, 1, 2] (by simp [cb, cbr, hsp0, hsp1, hl32, hln, hidx, hbp, hge, hle, cp, cpr, hi0, hi1, hwr, hpt, hcc, hccr, hs0, hs1, hss, absIndex]; constructor <;> rfl) ?_
  refine WK.nil ?_
  refine DK.block ?_
  refine DK.loopF [7, 29, 30, 31, 32, 33, 34, 35] [29] (fun fl vs H' => ∃ (j : Int) (s6 : Value) (c6 : List By), vs = [.int .i64 j] ∧ (c6 = numsB [b.today, (b.pls.length : Int)] ++ numsB (b.pls.flatMap plN) ++ numsB ((b.subs.take j.toNat).flatMap acN) ∧ c6.length ≤ 550 + j.toNat * (200 + 88 * kk) ∧ BoxAt H' k s6 c6 0 ∧ Keep M0 H' ∧ New M0.length s6) ∧ 0 ≤ j ∧ j ≤ 32 ∧ fl = (32 - j).toNat) (32) (by kernel_rfl) ?_ ?_
  · refine ⟨_, s3, c3, rfl, ?_⟩
    exact ⟨⟨by rw [hcc3]; simp [numsB], by simp at hcl ⊢; omega, hBx, hKM, hN⟩, by omega, by omega, by omega⟩
  rintro fl f2j M6 ⟨j, s6, c6, hv, hf⟩
  clear hBx hN hKM
  clear hi0 hwr
  have hi0 := True.intro
  have hwr := True.intro
  obtain ⟨⟨hcc6, hcl6, hBx, hKM, hN⟩, hj0, hj1, hfl⟩ := hf
  simp only [List.map_cons, List.map_nil, List.cons.injEq, and_true] at hv
  have hv2_0 := hv
  refine DK.from ((setL_S (by decide) _ _).trans (by simp [setS, hv2_0]; exact rfl)) ?_
  refine DK.seq ?_
  refine DK.region (is := [0]) (by kernel_rfl) rfl ?_
  refine WK.run (rest := []) [0] (by simp [cb, cbr, hsp0, hsp1, hl32, hln, hidx, hbp, hge, hle, cp, cpr, hi0, hi1, hwr, hpt, hcc, hccr, hs0, hs1, hss, absIndex]; constructor <;> rfl) ?_
  refine WK.nil ?_
  refine DK.seq ?_
  refine DK.test rfl rfl (fun h => ?_) (fun h => ?_)
  · try simp only [h]
    replace h := Tr.out h
    replace hi0 : 0 ≤ j := hj0
    replace hi1 : j < 32 := h
    replace hwr : IntKind.i64.wrap (j + 1) = j + 1 := wrap_in _ (by omega) (by omega)
    obtain ⟨x, hx1, hxa, hxb, hxl, hxo, hpt1⟩ := hB.nth (i := j.toNat) (by omega)
    replace hpt := hpt1
    replace hs0 := hxo.cells.1
    replace hs1 := hxo.cells.2
    have hjj : ((j.toNat : Nat) : Int) = j := by omega
    have hxk : x.a.op.length ≤ kk := by rw [hxa]; exact (hk.subs _ (List.getElem_mem hx1)).2
    have hjk : j.toNat * (200 + 88 * kk) ≤ 31 * (200 + 88 * kk) := Nat.mul_le_mul_right _ (by omega)
    refine DK.skip ?_
    refine DK.seq ?_
    refine DK.block ?_
    refine DK.seq ?_
    refine DK.region (is := [0, 1, 2]) (by kernel_rfl) rfl ?_
    refine WK.run (rest := []) [0, 1, 2] (by simp [cb, cbr, hsp0, hsp1, hl32, hln, hidx, hbp, hge, hle, cp, cpr, hi0, hi1, hwr, hpt, hcc, hccr, hs0, hs1, hss, absIndex]; constructor <;> rfl) ?_
    refine WK.nil ?_
    refine DK.abs (fun MC => Keep M6 MC ∧ MC[M6.length]? = some (.cells false (x.a.l x.s))) ⟨Keep.app _ _, by simp⟩ ?_
    rintro MC ⟨hK, q0⟩
    replace hBx := hBx.keep hK
    replace hKM := hKM.trans hK
    replace hcc := q0
    refine DK.region (is := [0, 1, 2]) (by kernel_rfl) rfl ?_
    refine WK.run (rest := [2]) [0, 1] (by simp [cb, cbr, hsp0, hsp1, hl32, hln, hidx, hbp, hge, hle, cp, cpr, hi0, hi1, hwr, hpt, hcc, hccr, hs0, hs1, hss, absIndex]; constructor <;> rfl) ?_
    refine WK.call rfl (by simp [cb, cbr, hsp0, hsp1, hl32, hln, hidx, hbp, hge, hle, cp, cpr, hi0, hi1, hwr, hpt, hcc, hccr, hs0, hs1, hss, absIndex]) (by simp [Tryd.func46, Tryd.f46, cb, cbr, hsp0, hsp1, hl32, hln, hidx, hbp, hge, hle, cp, cpr, hi0, hi1, hwr, hpt, hcc, hccr, hs0, hs1, hss, absIndex]; constructor <;> rfl) ?_
    refine FSem.mono (aput_s x.a hBx (hxo.keep (hkH.trans hKM)) (hxo.ne (by have := hkH.1; omega)) (fun c hc q => by have := hxo.lt hc; have := hN c q; have := hkH.1; omega) (by omega)) ?_
    rintro _ M7 ⟨s7, c7, hc7, hl7, hB7, hF7, hS7⟩
    obtain ⟨hKM7, hN7⟩ := enc_step hKM (by omega) hN hF7 hS7
    replace hKM := hKM7
    refine WK.nil ?_
    refine DK.region (is := [0, 1]) (by kernel_rfl) rfl ?_
    refine WK.run (rest := []) [0, 1] (by simp [cb, cbr, hsp0, hsp1, hl32, hln, hidx, hbp, hge, hle, cp, cpr, hi0, hi1, hwr, hpt, hcc, hccr, hs0, hs1, hss, absIndex]; constructor <;> rfl) ?_
    refine WK.nil ?_
    refine ⟨by kernel_rfl, (32 - (j + 1)).toNat, ?_, _, s7, c7, rfl, ?_⟩
    · omega
    · rw [show (j + 1).toNat = j.toNat + 1 by omega]
      exact ⟨⟨by rw [hc7, hcc6, fm_take acN hx1, numsB_app, hxa]; simp, by rw [Nat.succ_mul]; omega, hB7, hKM, hN7⟩, by omega, by omega, rfl⟩
  try simp only [h]
  replace h := Fa.out h
  have hjk : j.toNat * (200 + 88 * kk) ≤ 32 * (200 + 88 * kk) := Nat.mul_le_mul_right _ (by omega)
  refine DK.exit ?_
  refine DK.seq ?_
  refine DK.region (is := [0, 1, 2]) (by kernel_rfl) rfl ?_
  refine WK.run (rest := [1, 2]) [0] (by simp [cb, cbr, hsp0, hsp1, hl32, hln, hidx, hbp, hge, hle, cp, cpr, hi0, hi1, hwr, hpt, hcc, hccr, hs0, hs1, hss, absIndex]; constructor <;> rfl) ?_
  refine WK.call rfl (by simp [cb, cbr, hsp0, hsp1, hl32, hln, hidx, hbp, hge, hle, cp, cpr, hi0, hi1, hwr, hpt, hcc, hccr, hs0, hs1, hss, absIndex]) (by simp [Tryd.func47, Tryd.f47, cb, cbr, hsp0, hsp1, hl32, hln, hidx, hbp, hge, hle, cp, cpr, hi0, hi1, hwr, hpt, hcc, hccr, hs0, hs1, hss, absIndex]; constructor <;> rfl) ?_
  refine FSem.mono (pdone_s hBx (by omega)) ?_
  rintro _s9 M9 ⟨hA9, hR9, hW9, hN9⟩
  replace hs0 := hR9.cells.1
  replace hs1 := hR9.cells.2
  refine WK.run (rest := []) [2] (by simp [cb, cbr, hsp0, hsp1, hl32, hln, hidx, hbp, hge, hle, cp, cpr, hi0, hi1, hwr, hpt, hcc, hccr, hs0, hs1, hss, absIndex]; constructor <;> rfl) ?_
  refine WK.nil ?_
  refine DK.ret ?_
  refine And.intro (Or.inr rfl) ?_
  refine ⟨_, by simp [absAnswer, absResults, absResult, Tryd.f21]; rfl, ?_⟩
  have hi : j = 32 := by omega
  subst hi
  refine ⟨((hkH.trans hKM).trans (Keep.of hA9)).ext, ?_, hW9, hN9.le (hkH.trans hKM).1⟩
  rw [hcc6, List.take_of_length_le (by rw [hk.len]; decide)] at hR9; unfold encB bkN; rw [numsB_app, numsB_app]; exact hR9
end Go.Den
namespace Go.Den
open Go Go.Proofs
set_option maxRecDepth 100000
set_option maxHeartbeats 1000000
set_option linter.all false
attribute [local simp] evOps evOp absOp absBox absLoad absStore absField absIndexAddr absCells absBinOp absBin absInt absShift absUn absPick absNil absExtract absPlaces Instr.fill absBuiltin absMinMax plainV plainT allA flat cells_agg cells_int cells_bool cells_str cells_ptr cells_sl cells_map one_int one_bool one_str one_ptr one_sl one_map Act.eval Act.put Region.wanted yielded absCall TypeDesc.isRow
attribute [local simp high] bk_t bk_p bk_take bk_row BkL_len sp_bk sp_t sp_p
attribute [local simp] sp_nil sp_0 sp_s List.length_set
theorem rplan_s (n : Int) (h0 : 0 ≤ n) (h1 : n < 256) (H : Mem) : FSem Tryd.prog [0] 20 #[.int .u8 n] H fun v H' => v = (planR n).v ∧ H' = H := by
  refine FSem.plainT ?_
  refine FSem.ofK Tryd.func20 rfl ?_
  refine DK.from (b' := ⟨#[.int .u8 n, undef, undef, undef, undef, undef, undef, undef, undef, undef, undef, undef, undef, undef, undef, undef, undef, undef, undef, undef, undef, undef, undef, undef, undef, undef, undef, undef, undef], []⟩) (by kernel_rfl) ?_
  have f1 : n.tmod 4 = n % 4 := tm _ _ h0
  have f2 : n.tdiv 4 = n / 4 := td _ _ h0
  have f3 : IntKind.u8.wrap (n / 4) = n / 4 := wrap_u8 _ (by omega) (by omega)
  have f4 : (n / 4).tmod 4 = n / 4 % 4 := tm _ _ (by omega)
  have f5 : n.tdiv 16 = n / 16 := td _ _ h0
  have f6 : IntKind.u8.wrap (n / 16) = n / 16 := wrap_u8 _ (by omega) (by omega)
  have f7 : (n / 16).tmod 3 = n / 16 % 3 := tm _ _ (by omega)
  have f8 : IntKind.i64.wrap (n / 16 % 3) = n / 16 % 3 := wrap_in _ (by omega) (by omega)
  have f9 : IntKind.i64.wrap (1 + n / 16 % 3) = 1 + n / 16 % 3 := wrap_in _ (by omega) (by omega)
  have f10 : n.tdiv 48 = n / 48 := td _ _ h0
  have f11 : IntKind.u8.wrap (n / 48) = n / 48 := wrap_u8 _ (by omega) (by omega)
  have f12 : (n / 48).tmod 4 = n / 48 % 4 := tm _ _ (by omega)
  have f13 : n.tmod 3 = n % 3 := tm _ _ h0
  have f14 : n.tmod 7 = n % 7 := tm _ _ h0
  have f15 : 0 ≤ n % 4 := by omega
  have f16 : n % 4 < 4 := by omega
  have f17 : 0 ≤ n / 48 % 4 := by omega
  have f18 : n / 48 % 4 < 4 := by omega
  have f19 : (n % 4).toNat + 1 ≤ 4 := by omega
  have f20 : (n / 48 % 4).toNat + 1 ≤ 4 := by omega
  have f21 : List.take 1 (List.drop (n % 4).toNat [Value.int .i64 1000, .int .i64 0, .int .i64 2999, .int .i64 1]) = [.int .i64 (sel4 (n % 4) 1000 0 2999 1)] := sel_take _ _ _ _ f15 f16
  have f22 : List.take 1 (List.drop (n / 48 % 4).toNat [Value.int .i64 0, .int .i64 0, .int .i64 10, .int .i64 3]) = [.int .i64 (sel4 (n / 48 % 4) 0 0 10 3)] := sel_take _ _ _ _ f17 f18
  have f23 : (n % 4).toNat < 4 := by omega
  have f24 : (n / 48 % 4).toNat < 4 := by omega
  have f25 : (n % 4).toNat ≤ 3 := by omega
  have f26 : (n / 48 % 4).toNat ≤ 3 := by omega
  refine DK.seq ?_
  refine DK.region (is := [0]) (by kernel_rfl) rfl ?_
  refine WK.run (rest := []) [0] (by simp [f1, f2, f3, f4, f5, f6, f7, f8, f9, f10, f11, f12, f13, f14, f15, f16, f17, f18, f19, f20, f21, f22, f23, f24, f25, f26]; constructor <;> rfl) ?_
  refine WK.nil ?_
  refine DK.seq ?_
  refine DK.draw rfl (POk.of (ord := [0, 1, 2, 3, 4, 5, 6, 7, 8, 9, 10, 11, 12, 13, 14, 15, 16, 17, 18, 19, 20, 21, 22, 23, 24, 25, 26]) (by kernel_rfl)) ?_
  refine XK.run (rest := [10, 11, 12, 13, 14, 15, 16, 17, 18, 19, 20, 21, 22, 23, 24, 25, 26]) [0, 1, 2, 3, 4, 5, 6, 7, 8, 9] (by kernel_rfl) (by simp [f1, f2, f3, f4, f5, f6, f7, f8, f9, f10, f11, f12, f13, f14, f15, f16, f17, f18, f19, f20, f21, f22, f23, f24, f25, f26]; constructor <;> rfl) ?_
  refine XK.run (rest := [20, 21, 22, 23, 24, 25, 26]) [10, 11, 12, 13, 14, 15, 16, 17, 18, 19] (by kernel_rfl) (by simp [f1, f2, f3, f4, f5, f6, f7, f8, f9, f10, f11, f12, f13, f14, f15, f16, f17, f18, f19, f20, f21, f22, f23, f24, f25, f26]; constructor <;> rfl) ?_
  refine XK.run (rest := [26]) [20, 21, 22, 23, 24, 25] (by kernel_rfl) (by simp [f1, f2, f3, f4, f5, f6, f7, f8, f9, f10, f11, f12, f13, f14, f15, f16, f17, f18, f19, f20, f21, f22, f23, f24, f25, f26]; constructor <;> rfl) ?_
  refine XK.one rfl (by simp [f1, f2, f3, f4, f5, f6, f7, f8, f9, f10, f11, f12, f13, f14, f15, f16, f17, f18, f19, f20, f21, f22, f23, f24, f25, f26]) rfl (by simp [f1, f2, f3, f4, f5, f6, f7, f8, f9, f10, f11, f12, f13, f14, f15, f16, f17, f18, f19, f20, f21, f22, f23, f24, f25, f26]; constructor <;> rfl) (lag_list (l := []) (by kernel_rfl) rfl) ?_
  refine XK.nil ?_
  refine DK.ret ?_
  refine And.intro (Or.inr rfl) ?_
  refine ⟨_, by simp [absAnswer, absResults, absResult, Tryd.f20]; rfl, ?_⟩
  refine ⟨by first | exact ⟨[], (List.append_nil _).symm⟩ | exact ⟨_, rfl⟩, by simp, ?_⟩
  simp [planR]
  constructor <;> rfl
end Go.Den
set_option linter.unusedVariables false
set_option maxRecDepth 100000
namespace Go.Den
open Go Go.Proofs
theorem step_g (k : Nat) (b : Bk) (o : Od) {sp : Value} {l : List As} {H : Mem} (hB : BkAt H sp l b) (hL : Lad H) (hk : BOk k b) (hk3 : k ≤ 300000000) (hu : UnOk b.pls) : FSem Tryd.prog [0] 16 #[bkv b.today sp l, o.v] H fun v H' => ∃ b' e sp' l', v = .tuple #[bkv b'.today sp' l', .int .i64 e] ∧ stepB b o = (b', e) ∧ BkAt H' sp' l' b' ∧ l'.length = 32 ∧ sp'.cells = #[sp'] ∧ sp'.oneCell' = true ∧ Keep H H' ∧ ∀ c, blkOf sp' = some c → blkOf sp = some c ∨ H.length ≤ c := by
  refine FSem.mono (step_s k b o hB hL hk hk3 hu) ?_
  rintro v H' ⟨sp', l', rfl, h, hk, hs⟩
  exact ⟨_, _, sp', l', rfl, rfl, h, h.len, h.pls.cells.1, h.pls.cells.2, hk, hs⟩
theorem plain_bk0 (t : Int) : plainV (bkv t (.slice none 0 0) zL) = true := by kernel_rfl
theorem newb_g (t : Int) (H : Mem) : FSem Tryd.prog [0] 12 #[.int .i64 t] H fun v H' => v = bkv t (.slice none 0 0) zL ∧ H = H' := by
  refine FSem.mono (FSem.plainT (K := fun v => v = bkv t (.slice none 0 0) zL) (FSem.mono (newb_s t H) ?_)) ?_
  · rintro v H' ⟨rfl, h⟩
    exact ⟨h, plain_bk0 t, rfl⟩
  · rintro v H' ⟨h1, h2⟩
    exact ⟨h1, h2.symm⟩
theorem take_sub {m f k n : Nat} {L X : List Value} (h : List.take m (List.drop n L) = X) (hfk : f + k ≤ m) : List.take k (List.drop (n + f) L) = List.take k (List.drop f X) := by
  rw [← h, List.drop_take, List.take_take, Nat.min_eq_left (by omega), List.drop_drop]
theorem sameL_app : ∀ (xs ys : List Value), sameL xs xs = true → sameL ys ys = true → sameL (xs ++ ys) (xs ++ ys) = true
  | [], ys, _, h => h
  | x :: xs, ys, h1, h2 => by
    simp only [sameL, Bool.and_eq_true, List.cons_append] at h1 ⊢
    exact ⟨h1.1, sameL_app xs ys h1.2 h2⟩
theorem rows_same {H : Mem} : ∀ l : List As, (∀ x ∈ l, OpenAt H x.s x.a.op) → sameL (rowV l) (rowV l) = true
  | [], _ => rfl
  | x :: l, h => by
    rw [rowV_cons]
    refine sameL_app _ _ ?_ (rows_same l fun y hy => h y (by simp [hy]))
    show sameL (x.a.l x.s) (x.a.l x.s) = true
    have := (h x (by simp)).same.1
    simp [sameL, this, same1_int, same1_bool]
theorem bk_same {H : Mem} {sp : Value} {l : List As} {b : Bk} (h : BkAt H sp l b) (t : Int) : sameL (BkL t sp l) (BkL t sp l) = true := by
  unfold BkL
  simp only [sameL, same1_int, h.pls.same.1, decide_true, Bool.true_and]
  exact rows_same l h.op
def p0 : Pl := ⟨100, 0, 30, 0, false, false⟩
def b1 : Bk := ⟨0, [p0], List.replicate 32 zeroA⟩
def a2 : Ac := ⟨1, 0, 0, 1, 1, 0, false, [⟨0, 0, 1, 100, 0, 1, 0, false⟩], 0, 0, 0, 0, 0⟩
def b2 : Bk := ⟨0, [p0], (List.replicate 32 zeroA).set 0 a2⟩
theorem awk1 : stepB (newB 0) ⟨1, 0, 0, 0, p0, zeroN⟩ = (b1, 0) := by
  unfold stepB
  rw [if_neg (by decide), if_pos rfl, if_neg (by decide)]
  rfl
theorem nth00 : nthF 0 0 30 0 = (0, 0) := by
  unfold nthF; rw [if_pos (by decide), nthO_zero (by decide) (by decide)]; rfl
theorem nth01 : nthF 0 0 30 1 = (30, 0) := by
  unfold nthF; rw [if_pos (by decide)]
  simp [nthO, Sea.nth, Sea.off, Sea.dayAdd, Sea.out]
theorem awkd : dayA (openAc 0 p0 0) p0 0 = (a2, 0) := by
  unfold dayA
  have e0 : dueA { openAc 0 p0 0 with op := (openAc 0 p0 0).op.map (fun c => wakeC c 0) } p0 = (0, 0) := nth00
  have hb : beginA { { openAc 0 p0 0 with op := (openAc 0 p0 0).op.map (fun c => wakeC c 0) } with ix := IntKind.i64.wrap ((openAc 0 p0 0).ix + 1) } p0 0 false = (a2, 0) := by decide +kernel
  rw [dayL_go (x := { openAc 0 p0 0 with op := (openAc 0 p0 0).op.map (fun c => wakeC c 0) }) (x2 := a2) (e2 := 0) (by decide) (by decide) (by rw [e0]) (by rw [e0]; decide) false (by simp [p0]) (by rw [e0]; exact hb)]
  simp only [ne_eq, not_true_eq_false, if_false]
  exact dayL_no _ (.inr (by show 0 < (nthF 0 0 30 1).1; rw [nth01]; decide))
theorem awk2 : stepB b1 ⟨2, 0, 0, 0, zeroP, zeroN⟩ = (b2, 0) := by
  unfold stepB
  rw [if_neg (by decide), if_neg (by decide), if_pos rfl]
  have : openB b1 ⟨2, 0, 0, 0, zeroP, zeroN⟩ = (a2, 0) := by
    unfold openB
    dsimp only
    rw [if_neg (by decide), if_neg (by decide), if_neg (by decide)]
    exact awkd
  rw [this]; rfl
theorem awk3 : b2.asks = [⟨1, 0, 0, 1, 100, 0⟩] := by decide +kernel
theorem hok0 : BOk 8000000 (newB 0) := ⟨(newB_ok 0).1.pls, fun a ha => ⟨((newB_ok 0).1.subs a ha).1, Nat.le_trans ((newB_ok 0).1.subs a ha).2 (by decide)⟩, (newB_ok 0).1.len⟩
theorem hok1 : BOk 8000000 b1 := ⟨by decide, fun a ha => by rw [List.eq_of_mem_replicate ha]; exact ⟨by decide, by simp [zeroA]⟩, by decide⟩
theorem hun1 : UnOk b1.pls := by intro p hp; simp [b1] at hp; subst hp; decide
theorem hok2 : BOk 12000000 b2 := by
  have := stepB_ok hok1 (show (stepB b1 ⟨2, 0, 0, 0, zeroP, zeroN⟩).2 = 0 by rw [awk2])
  rw [awk2] at this
  exact ⟨this.pls, fun a ha => ⟨(this.subs a ha).1, Nat.le_trans (this.subs a ha).2 (by decide)⟩, this.len⟩
end Go.Den
namespace Go.Den
open Go Go.Proofs
set_option maxRecDepth 100000
set_option maxHeartbeats 1000000
set_option linter.all false
attribute [local simp] evOps evOp absOp absBox absLoad absStore absField absIndexAddr absCells absBinOp absBin absInt absShift absUn absPick absNil absExtract absPlaces Instr.fill absBuiltin absMinMax plainV plainT allA flat cells_agg cells_int cells_bool cells_str cells_ptr cells_sl cells_map one_int one_bool one_str one_ptr one_sl one_map Act.eval Act.put Region.wanted yielded absCall TypeDesc.isRow
attribute [local simp high] bk_t bk_p bk_take bk_row BkL_len sp_bk sp_t sp_p
attribute [local simp] sp_nil sp_0 sp_s List.length_set
theorem awake_s {H : Mem} (hL : Lad H) : FSem Tryd.prog [0] 11 #[] H fun v H' => v = .bool true ∧ H' = H := by
  refine FSem.plainT ?_
  refine FSem.ofK Tryd.func11 rfl ?_
  refine DK.from (b' := ⟨#[undef, undef, undef, undef, undef, undef, undef, undef, undef, undef, undef, undef, undef, undef, undef, undef, undef, undef, undef, undef, undef, undef, undef, undef, undef, undef, undef, undef, undef, undef, undef, undef, undef, undef, undef, undef, undef, undef, undef, undef, undef, undef, undef, undef, undef, undef, undef, undef, undef, undef, undef, undef, undef, undef, undef, undef], []⟩) (by kernel_rfl) ?_
  have hq0 := True.intro
  have hq1 := True.intro
  have hq4 := True.intro
  have hq5 := True.intro
  have hq6 := True.intro
  have c1 := True.intro
  have c2 := True.intro
  have c3 := True.intro
  have hone1 := True.intro
  have hone2 := True.intro
  have hs10 := True.intro
  have hs11 := True.intro
  have hl1 := True.intro
  have hs20 := True.intro
  have hs21 := True.intro
  have hl2 := True.intro
  have hal := True.intro
  have hb0 := True.intro
  have hbg := True.intro
  have hble := True.intro
  have hr0 := True.intro
  have hr1 := True.intro
  have htk := True.intro
  have hsl := True.intro
  have hbq := True.intro
  have hln := True.intro
  have hBk := True.intro
  have hL2 := hL
  have hkH := Keep.refl H
  refine DK.seq ?_
  refine DK.region (is := [0]) (by kernel_rfl) rfl ?_
  refine WK.run (rest := []) [0] (by simp [hq0, hq1, hq4, hq5, hq6, c1, c2, c3, hone1, hone2, hs10, hs11, hl1, hs20, hs21, hl2, hal, hb0, hbg, hble, hr0, hr1, htk, hsl, hbq, hln, p0, zeroN, zeroP]; constructor <;> rfl) ?_
  refine WK.nil ?_
  refine DK.seq ?_
  refine DK.region (is := [0, 1, 2]) (by kernel_rfl) rfl ?_
  refine WK.call rfl (by simp [hq0, hq1, hq4, hq5, hq6, c1, c2, c3, hone1, hone2, hs10, hs11, hl1, hs20, hs21, hl2, hal, hb0, hbg, hble, hr0, hr1, htk, hsl, hbq, hln, p0, zeroN, zeroP]) (by simp [Tryd.func12, Tryd.f12, hq0, hq1, hq4, hq5, hq6, c1, c2, c3, hone1, hone2, hs10, hs11, hl1, hs20, hs21, hl2, hal, hb0, hbg, hble, hr0, hr1, htk, hsl, hbq, hln, p0, zeroN, zeroP]; constructor <;> rfl) ?_
  refine FSem.mono (newb_g 0 _) ?_
  rintro _ Hq ⟨rfl, hq⟩
  subst hq
  refine WK.run (rest := []) [1, 2] (by simp [hq0, hq1, hq4, hq5, hq6, c1, c2, c3, hone1, hone2, hs10, hs11, hl1, hs20, hs21, hl2, hal, hb0, hbg, hble, hr0, hr1, htk, hsl, hbq, hln, p0, zeroN, zeroP]; constructor <;> rfl) ?_
  refine WK.nil ?_
  refine DK.abs (fun M0 => Keep H M0 ∧ M0[H.length]? = some (.cells false (BkL 0 (.slice none 0 0) zL))) ⟨Keep.app _ _, mem_app _ _⟩ ?_
  rintro M0 ⟨hkk, h_c1⟩
  replace c1 := h_c1
  replace hL2 := hL2.keep hkk
  replace hkH := hkH.keep hkk
  replace hBk := BkAt.new M0 0
  refine DK.seq ?_
  refine DK.region (is := [0, 1, 2, 3, 4, 5, 6, 7, 8, 9]) (by kernel_rfl) rfl ?_
  refine WK.run (rest := [3, 4, 5, 6, 7, 8, 9]) [0, 1, 2] (by simp [hq0, hq1, hq4, hq5, hq6, c1, c2, c3, hone1, hone2, hs10, hs11, hl1, hs20, hs21, hl2, hal, hb0, hbg, hble, hr0, hr1, htk, hsl, hbq, hln, p0, zeroN, zeroP]; constructor <;> rfl) ?_
  refine WK.call rfl (by simp [hq0, hq1, hq4, hq5, hq6, c1, c2, c3, hone1, hone2, hs10, hs11, hl1, hs20, hs21, hl2, hal, hb0, hbg, hble, hr0, hr1, htk, hsl, hbq, hln, p0, zeroN, zeroP]) (by simp [Tryd.func16, Tryd.f16, hq0, hq1, hq4, hq5, hq6, c1, c2, c3, hone1, hone2, hs10, hs11, hl1, hs20, hs21, hl2, hal, hb0, hbg, hble, hr0, hr1, htk, hsl, hbq, hln, p0, zeroN, zeroP]; constructor <;> rfl) ?_
  refine FSem.mono (step_g 8000000 (newB 0) ⟨1, 0, 0, 0, p0, zeroN⟩ hBk hL2 hok0 (by decide) (newB_ok 0).2) ?_
  rintro _ M1 ⟨b', e', sp1, l1, rfl, hres, hBk, hl, hs0, hs1, hkk, hsb⟩
  rw [awk1] at hres
  obtain ⟨rfl, rfl⟩ := Prod.mk.inj hres
  replace hl1 := hl
  replace hs10 := hs0
  replace hs11 := hs1
  replace hone1 := bk_ones hs1
  replace c1 := hkk.cell c1
  replace hL2 := hL2.keep hkk
  replace hkH := hkH.keep hkk
  refine WK.run (rest := []) [4, 5, 6, 7, 8, 9] (by simp [hq0, hq1, hq4, hq5, hq6, c1, c2, c3, hone1, hone2, hs10, hs11, hl1, hs20, hs21, hl2, hal, hb0, hbg, hble, hr0, hr1, htk, hsl, hbq, hln, p0, zeroN, zeroP]; constructor <;> rfl) ?_
  refine WK.nil ?_
  refine DK.abs (fun M2 => Keep M1 M2 ∧ M2[M1.length]? = some (.cells false (BkL b1.today sp1 l1))) ⟨Keep.app _ _, mem_app _ _⟩ ?_
  rintro M2 ⟨hkk, h_c2⟩
  replace c2 := h_c2
  replace c1 := hkk.cell c1
  replace hL2 := hL2.keep hkk
  replace hBk := hBk.keep hkk
  replace hkH := hkH.keep hkk
  refine DK.seq ?_
  refine DK.region (is := [0, 1, 2, 3, 4, 5, 6, 7, 8]) (by kernel_rfl) rfl ?_
  refine WK.run (rest := [2, 3, 4, 5, 6, 7, 8]) [0, 1] (by simp [hq0, hq1, hq4, hq5, hq6, c1, c2, c3, hone1, hone2, hs10, hs11, hl1, hs20, hs21, hl2, hal, hb0, hbg, hble, hr0, hr1, htk, hsl, hbq, hln, p0, zeroN, zeroP]; constructor <;> rfl) ?_
  refine WK.call rfl (by simp [hq0, hq1, hq4, hq5, hq6, c1, c2, c3, hone1, hone2, hs10, hs11, hl1, hs20, hs21, hl2, hal, hb0, hbg, hble, hr0, hr1, htk, hsl, hbq, hln, p0, zeroN, zeroP]) (by simp [Tryd.func16, Tryd.f16, hq0, hq1, hq4, hq5, hq6, c1, c2, c3, hone1, hone2, hs10, hs11, hl1, hs20, hs21, hl2, hal, hb0, hbg, hble, hr0, hr1, htk, hsl, hbq, hln, p0, zeroN, zeroP]; constructor <;> rfl) ?_
  refine FSem.mono (step_g 8000000 b1 ⟨2, 0, 0, 0, zeroP, zeroN⟩ hBk hL2 hok1 (by decide) hun1) ?_
  rintro _ M3 ⟨b', e', sp2, l2, rfl, hres, hBk, hl, hs0, hs1, hkk, hsb⟩
  rw [awk2] at hres
  obtain ⟨rfl, rfl⟩ := Prod.mk.inj hres
  replace hl2 := hl
  replace hs20 := hs0
  replace hs21 := hs1
  replace hone2 := bk_ones hs1
  replace c1 := hkk.cell c1
  replace c2 := hkk.cell c2
  replace hL2 := hL2.keep hkk
  replace hkH := hkH.keep hkk
  refine WK.run (rest := []) [3, 4, 5, 6, 7, 8] (by simp [hq0, hq1, hq4, hq5, hq6, c1, c2, c3, hone1, hone2, hs10, hs11, hl1, hs20, hs21, hl2, hal, hb0, hbg, hble, hr0, hr1, htk, hsl, hbq, hln, p0, zeroN, zeroP]; constructor <;> rfl) ?_
  refine WK.nil ?_
  refine DK.abs (fun M4 => Keep M3 M4 ∧ M4[M3.length]? = some (.cells false (BkL b2.today sp2 l2))) ⟨Keep.app _ _, mem_app _ _⟩ ?_
  rintro M4 ⟨hkk, h_c3⟩
  replace c3 := h_c3
  replace c1 := hkk.cell c1
  replace c2 := hkk.cell c2
  replace hL2 := hL2.keep hkk
  replace hBk := hBk.keep hkk
  replace hkH := hkH.keep hkk
  refine DK.seq ?_
  refine DK.region (is := [0, 1, 2]) (by kernel_rfl) rfl ?_
  refine WK.run (rest := [1, 2]) [0] (by simp [hq0, hq1, hq4, hq5, hq6, c1, c2, c3, hone1, hone2, hs10, hs11, hl1, hs20, hs21, hl2, hal, hb0, hbg, hble, hr0, hr1, htk, hsl, hbq, hln, p0, zeroN, zeroP]; constructor <;> rfl) ?_
  refine WK.call rfl (by simp [hq0, hq1, hq4, hq5, hq6, c1, c2, c3, hone1, hone2, hs10, hs11, hl1, hs20, hs21, hl2, hal, hb0, hbg, hble, hr0, hr1, htk, hsl, hbq, hln, p0, zeroN, zeroP]) (by simp [Tryd.func14, Tryd.f14, hq0, hq1, hq4, hq5, hq6, c1, c2, c3, hone1, hone2, hs10, hs11, hl1, hs20, hs21, hl2, hal, hb0, hbg, hble, hr0, hr1, htk, hsl, hbq, hln, p0, zeroN, zeroP]; constructor <;> rfl) ?_
  refine FSem.mono (basks_s 12000000 b2 hBk hok2 (by decide)) ?_
  rintro _s5 M5 ⟨hA, hR, hW, hN⟩
  have hkk := Keep.of hA
  replace c1 := hkk.cell c1
  replace c2 := hkk.cell c2
  replace c3 := hkk.cell c3
  replace hL2 := hL2.keep hkk
  replace hBk := hBk.keep hkk
  replace hkH := hkH.keep hkk
  rw [awk3] at hR
  replace hr0 := hR.cells.1
  replace hr1 := hR.cells.2
  replace hln := lenNt hR
  obtain ⟨b, of, ro, vs, rfl, hb, hle, hge⟩ := hR.blk (i := 0) (by decide)
  replace hb0 := hb
  replace hble : of + 6 ≤ vs.length := hle
  replace hq0 : List.take 1 (List.drop of vs) = [.int .u8 1] := take_sub (f := 0) (k := 1) hge (by decide)
  replace hq4 : List.take 1 (List.drop (of + 4) vs) = [.int .i64 100] := take_sub (f := 4) (k := 1) hge (by decide)
  replace hq1 : of + 1 ≤ vs.length := by omega
  replace hq5 : of + 5 ≤ vs.length := by omega
  replace hq6 : of + 4 + 1 ≤ vs.length := by omega
  obtain ⟨x, hxa, hxl, hxo, htk1, hst, hpt⟩ := hBk.sub (i := 0) (by decide) (by decide)
  replace hal : List.take 1 (List.drop 9 (BkL b2.today sp2 l2)) = [x.s] := take_sub (f := 7) (k := 1) (htk1 b2.today) (by decide)
  replace hsl : ∀ K, absLen Tryd.prog K 28 x.s = some (.int .i64 1) := fun K => by rw [hxo.lenK K, hxa]; rfl
  refine WK.run (rest := []) [2] (by simp [hq0, hq1, hq4, hq5, hq6, c1, c2, c3, hone1, hone2, hs10, hs11, hl1, hs20, hs21, hl2, hal, hb0, hbg, hble, hr0, hr1, htk, hsl, hbq, hln, p0, zeroN, zeroP]; constructor <;> rfl) ?_
  refine WK.nil ?_
  refine DK.seq ?_
  refine DK.region (is := [0, 1, 2, 3, 4, 5, 6, 7, 8, 9, 10, 11, 12, 13, 14, 15, 16, 17, 18, 19, 20, 21, 22, 23, 24, 25, 26, 27, 28, 29, 30, 31, 32, 33]) (by kernel_rfl) rfl ?_
  refine WK.run (rest := [3, 4, 5, 6, 7, 8, 9, 10, 11, 12, 13, 14, 15, 16, 17, 18, 19, 20, 21, 22, 23, 24, 25, 26, 27, 28, 29, 30, 31, 32, 33]) [0, 1, 2] (by simp [hq0, hq1, hq4, hq5, hq6, c1, c2, c3, hone1, hone2, hs10, hs11, hl1, hs20, hs21, hl2, hal, hb0, hbg, hble, hr0, hr1, htk, hsl, hbq, hln, p0, zeroN, zeroP]; constructor <;> rfl) ?_
  refine WK.split (t := 25) rfl (fun h => ?_) (fun h => ?_)
  · try simp only [h]
    replace h := Tr.out h
    refine WK.run (rest := [7, 8, 9, 10, 11, 12, 13, 14, 15, 16, 17, 18, 19, 20, 21, 22, 23, 24, 25, 26, 27, 28, 29, 30, 31, 32, 33]) [3, 4, 5, 6] (by simp [hq0, hq1, hq4, hq5, hq6, c1, c2, c3, hone1, hone2, hs10, hs11, hl1, hs20, hs21, hl2, hal, hb0, hbg, hble, hr0, hr1, htk, hsl, hbq, hln, p0, zeroN, zeroP]; constructor <;> rfl) ?_
    refine WK.split (t := 29) rfl (fun h => ?_) (fun h => ?_)
    · try simp only [h]
      replace h := Tr.out h
      refine WK.run (rest := [15, 16, 17, 18, 19, 20, 21, 22, 23, 24, 25, 26, 27, 28, 29, 30, 31, 32, 33]) [7, 8, 9, 10, 11, 12, 13, 14] (by simp [hq0, hq1, hq4, hq5, hq6, c1, c2, c3, hone1, hone2, hs10, hs11, hl1, hs20, hs21, hl2, hal, hb0, hbg, hble, hr0, hr1, htk, hsl, hbq, hln, p0, zeroN, zeroP]; constructor <;> rfl) ?_
      refine WK.split (t := 37) rfl (fun h => ?_) (fun h => ?_)
      · try simp only [h]
        replace h := Tr.out h
        refine WK.run (rest := [20, 21, 22, 23, 24, 25, 26, 27, 28, 29, 30, 31, 32, 33]) [15, 16, 17, 18, 19] (by simp [hq0, hq1, hq4, hq5, hq6, c1, c2, c3, hone1, hone2, hs10, hs11, hl1, hs20, hs21, hl2, hal, hb0, hbg, hble, hr0, hr1, htk, hsl, hbq, hln, p0, zeroN, zeroP]; constructor <;> rfl) ?_
        refine WK.split (t := 42) rfl (fun h => ?_) (fun h => ?_)
        · try simp only [h]
          replace h := Tr.out h
          refine WK.run (rest := [27, 28, 29, 30, 31, 32, 33]) [20, 21, 22, 23, 24, 25, 26] (by simp [hq0, hq1, hq4, hq5, hq6, c1, c2, c3, hone1, hone2, hs10, hs11, hl1, hs20, hs21, hl2, hal, hb0, hbg, hble, hr0, hr1, htk, hsl, hbq, hln, p0, zeroN, zeroP]; constructor <;> rfl) ?_
          refine WK.split (t := 49) rfl (fun h => ?_) (fun h => ?_)
          · try simp only [h]
            replace h := Tr.out h
            refine WK.run (rest := []) [27, 28, 29, 30, 31, 32, 33] (by simp [hq0, hq1, hq4, hq5, hq6, c1, c2, c3, hone1, hone2, hs10, hs11, hl1, hs20, hs21, hl2, hal, hb0, hbg, hble, hr0, hr1, htk, hsl, hbq, hln, p0, zeroN, zeroP]; constructor <;> rfl) ?_
            refine WK.nil ?_
            refine DK.ret ?_
            refine And.intro (Or.inr rfl) ?_
            refine ⟨_, by simp [absAnswer, absResults, absResult, Tryd.f11]; rfl, ?_⟩
            exact ⟨hkH.ext, by simp, by simp⟩
          try simp only [h]
          replace h := Fa.out h
          cases h
        try simp only [h]
        replace h := Fa.out h
        cases h
      try simp only [h]
      replace h := Fa.out h
      cases h
    try simp only [h]
    replace h := Fa.out h
    cases h
  try simp only [h]
  replace h := Fa.out h
  cases h
end Go.Den
namespace Go.Den
open Go Go.Proofs
set_option maxRecDepth 100000
set_option maxHeartbeats 8000000
set_option linter.all false
attribute [local simp] evOps evOp absOp absBox absLoad absStore absField absIndexAddr absCells absBinOp absBin absInt absShift absUn absPick absNil absExtract absPlaces Instr.fill absBuiltin absMinMax plainV plainT allA flat cells_agg cells_int cells_bool cells_str cells_ptr cells_sl cells_map one_int one_bool one_str one_ptr one_sl one_map Act.eval Act.put Region.wanted yielded absCall TypeDesc.isRow
attribute [local simp high] bk_t bk_p bk_take bk_row BkL_len sp_bk sp_t sp_p
attribute [local simp] sp_nil sp_0 sp_s List.length_set
theorem bsB3 (H : Mem) (a b c : Int) : absBuildSlice Tryd.prog H 72 3 [(0, .int .u8 a), (1, .int .u8 b), (2, .int .u8 c)] = some (.slice (some ⟨H.length, 0, none⟩) 3 1, H ++ [.cells false [.int .u8 a, .int .u8 b, .int .u8 c]]) := by kernel_rfl
attribute [local simp] bsB3
theorem sel3_take (a b c : Int) {i : Int} (h0 : 0 ≤ i) (h1 : i < 3) : List.take 1 (List.drop i.toNat [Value.int .u8 a, .int .u8 b, .int .u8 c]) = [.int .u8 (sel4 i a b c 0)] := by
  have : i = 0 ∨ i = 1 ∨ i = 2 := by omega
  rcases this with rfl | rfl | rfl <;> rfl
theorem rplan_g (n : Int) (h0 : 0 ≤ n) (h1 : n < 256) (H : Mem) : FSem Tryd.prog [0] 20 #[.int .u8 n] H fun v H' => v = (planR n).v ∧ H = H' := by
  refine FSem.mono (rplan_s n h0 h1 H) ?_
  rintro v H' ⟨rfl, rfl⟩; exact ⟨rfl, rfl⟩
theorem parts_s (t a b c n m : Int) (ht0 : 0 ≤ t) (ht1 : t < 65536) (ha0 : 0 ≤ a) (ha1 : a < 256) (hb0 : 0 ≤ b) (hb1 : b < 256) (hc0 : 0 ≤ c) (hc1 : c < 256) (hn0 : 0 ≤ n) (hn1 : n < 256) (hm0 : 0 ≤ m) (hm1 : m < 256) {H : Mem} (hL : Lad H) : FSem Tryd.prog [0] 8 #[.int .u16 t, .int .u8 a, .int .u8 b, .int .u8 c, .int .u8 n, .int .u8 m] H fun v H' => v = .bool true ∧ H' = H := by
  refine FSem.plainT ?_
  refine FSem.ofK Tryd.func8 rfl ?_
  refine DK.from (b' := ⟨#[.int .u16 t, .int .u8 a, .int .u8 b, .int .u8 c, .int .u8 n, .int .u8 m, undef, undef, undef, undef, undef, undef, undef, undef, undef, undef, undef, undef, undef, undef, undef, undef, undef, undef, undef, undef, undef, undef, undef, undef, undef, undef, undef, undef, undef, undef, undef, undef, undef, undef, undef, undef, undef, undef, undef, undef, undef, undef, undef, undef, undef, undef, undef, undef, undef, undef, undef, undef, undef, undef, undef, undef, undef, undef, undef, undef, undef, undef, undef, undef, undef, undef, undef, undef, undef, undef, undef, undef, undef, undef, undef, undef, undef, undef, undef, undef, undef, undef, undef, undef, undef, undef, undef, undef, undef, undef, undef, undef, undef, undef, undef, undef, undef, undef, undef, undef, undef, undef, undef], []⟩) (by kernel_rfl) ?_
  have cb := True.intro
  have cbr := True.intro
  have cw := True.intro
  have hs0 := True.intro
  have hs1 := True.intro
  have hl32 := True.intro
  have hone := True.intro
  have hs20 := True.intro
  have hs21 := True.intro
  have hl2 := True.intro
  have hone2 := True.intro
  have hw1 := True.intro
  have hw2 := True.intro
  have hwr := True.intro
  have hi9 := True.intro
  have hlt := True.intro
  have hsel := True.intro
  have cp := True.intro
  have cpr := True.intro
  have htn := True.intro
  have htm := True.intro
  have hwn := True.intro
  have hwn1 := True.intro
  have hwm := True.intro
  have hwm1 := True.intro
  have hwnm := True.intro
  have cy := True.intro
  have cz := True.intro
  have hcv := True.intro
  have hsmY := True.intro
  have hsmZ := True.intro
  have hly := True.intro
  have hsy0 := True.intro
  have hsy1 := True.intro
  have honey := True.intro
  have hle := True.intro
  have hcw := True.intro
  have hw1 : IntKind.i64.wrap t = t := wrap_in _ (by omega) (by omega)
  have hw2 : IntKind.i64.wrap (700000 + t) = 700000 + t := wrap_in _ (by omega) (by omega)
  have htn : n.tmod 30 = n % 30 := tm _ _ hn0
  have htm : m.tmod 30 = m % 30 := tm _ _ hm0
  have hwn : IntKind.i64.wrap (n % 30) = n % 30 := wrap_in _ (by omega) (by omega)
  have hwm : IntKind.i64.wrap (m % 30) = m % 30 := wrap_in _ (by omega) (by omega)
  have hwn1 : IntKind.i64.wrap (1 + n % 30) = 1 + n % 30 := wrap_in _ (by omega) (by omega)
  have hwm1 : IntKind.i64.wrap (1 + m % 30) = 1 + m % 30 := wrap_in _ (by omega) (by omega)
  have hwnm : IntKind.i64.wrap (1 + n % 30 + (1 + m % 30)) = 1 + n % 30 + (1 + m % 30) := wrap_in _ (by omega) (by omega)
  have hBk := True.intro
  have hspn := True.intro
  refine DK.seq ?_
  refine DK.region (is := [0]) (by kernel_rfl) rfl ?_
  refine WK.run (rest := []) [0] (by simp [cb, cbr, cw, hs0, hs1, hl32, hone, hs20, hs21, hl2, hone2, hw1, hw2, hwr, hi9, hlt, hsel, cp, cpr, htn, htm, hwn, hwn1, hwm, hwm1, hwnm, cy, cz, hcv, hsmY, hsmZ, hly, hsy0, hsy1, honey, hle, hcw]; constructor <;> rfl) ?_
  refine WK.nil ?_
  refine DK.seq ?_
  refine DK.seq ?_
  refine DK.region (is := [0, 1]) (by kernel_rfl) rfl ?_
  refine WK.call rfl (by simp [cb, cbr, cw, hs0, hs1, hl32, hone, hs20, hs21, hl2, hone2, hw1, hw2, hwr, hi9, hlt, hsel, cp, cpr, htn, htm, hwn, hwn1, hwm, hwm1, hwnm, cy, cz, hcv, hsmY, hsmZ, hly, hsy0, hsy1, honey, hle, hcw]) (by simp [Tryd.func11, Tryd.f11, cb, cbr, cw, hs0, hs1, hl32, hone, hs20, hs21, hl2, hone2, hw1, hw2, hwr, hi9, hlt, hsel, cp, cpr, htn, htm, hwn, hwn1, hwm, hwm1, hwnm, cy, cz, hcv, hsmY, hsmZ, hly, hsy0, hsy1, honey, hle, hcw]; constructor <;> rfl) ?_
  refine FSem.mono (awake_s hL) ?_
  rintro _ Hq ⟨rfl, hq⟩
  replace hq := hq.symm
  subst hq
  refine WK.run (rest := []) [1] (by simp [cb, cbr, cw, hs0, hs1, hl32, hone, hs20, hs21, hl2, hone2, hw1, hw2, hwr, hi9, hlt, hsel, cp, cpr, htn, htm, hwn, hwn1, hwm, hwm1, hwnm, cy, cz, hcv, hsmY, hsmZ, hly, hsy0, hsy1, honey, hle, hcw]; constructor <;> rfl) ?_
  refine WK.nil ?_
  refine DK.no rfl rfl ?_
  refine DK.skip ?_
  refine DK.seq ?_
  refine DK.region (is := [0, 1, 2, 3, 4, 5]) (by kernel_rfl) rfl ?_
  refine WK.run (rest := [2, 3, 4, 5]) [0, 1] (by simp [cb, cbr, cw, hs0, hs1, hl32, hone, hs20, hs21, hl2, hone2, hw1, hw2, hwr, hi9, hlt, hsel, cp, cpr, htn, htm, hwn, hwn1, hwm, hwm1, hwnm, cy, cz, hcv, hsmY, hsmZ, hly, hsy0, hsy1, honey, hle, hcw]; constructor <;> rfl) ?_
  refine WK.run (rest := [3, 4, 5]) [2] (by simp [cb, cbr, cw, hs0, hs1, hl32, hone, hs20, hs21, hl2, hone2, hw1, hw2, hwr, hi9, hlt, hsel, cp, cpr, htn, htm, hwn, hwn1, hwm, hwm1, hwnm, cy, cz, hcv, hsmY, hsmZ, hly, hsy0, hsy1, honey, hle, hcw]; constructor <;> rfl) ?_
  refine WK.call rfl (by simp [cb, cbr, cw, hs0, hs1, hl32, hone, hs20, hs21, hl2, hone2, hw1, hw2, hwr, hi9, hlt, hsel, cp, cpr, htn, htm, hwn, hwn1, hwm, hwm1, hwnm, cy, cz, hcv, hsmY, hsmZ, hly, hsy0, hsy1, honey, hle, hcw]) (by simp [Tryd.func12, Tryd.f12, cb, cbr, cw, hs0, hs1, hl32, hone, hs20, hs21, hl2, hone2, hw1, hw2, hwr, hi9, hlt, hsel, cp, cpr, htn, htm, hwn, hwn1, hwm, hwm1, hwnm, cy, cz, hcv, hsmY, hsmZ, hly, hsy0, hsy1, honey, hle, hcw]; constructor <;> rfl) ?_
  refine FSem.mono (newb_g (700000 + t) _) ?_
  rintro _ Hq ⟨rfl, hq⟩
  subst hq
  refine WK.run (rest := []) [4, 5] (by simp [cb, cbr, cw, hs0, hs1, hl32, hone, hs20, hs21, hl2, hone2, hw1, hw2, hwr, hi9, hlt, hsel, cp, cpr, htn, htm, hwn, hwn1, hwm, hwm1, hwnm, cy, cz, hcv, hsmY, hsmZ, hly, hsy0, hsy1, honey, hle, hcw]; constructor <;> rfl) ?_
  refine WK.nil ?_
  refine DK.abs (fun M1 => Keep H M1 ∧ M1[H.length]? = some (.cells false (BkL (700000 + t) (.slice none 0 0) zL))) ⟨Keep.app _ _, mem_app _ _⟩ ?_
  rintro M1 ⟨hkk, h_cb⟩
  replace cb := h_cb
  have hkM := hkk
  replace hBk := BkAt.new M1 (700000 + t)
  have hlt1 : H.length < M1.length := (List.getElem?_eq_some_iff.1 cb).1
  refine DK.seq ?_
  refine DK.region (is := [0, 1, 2, 3, 4]) (by kernel_rfl) rfl ?_
  refine WK.run (rest := [2, 3, 4]) [0, 1] (by simp [cb, cbr, cw, hs0, hs1, hl32, hone, hs20, hs21, hl2, hone2, hw1, hw2, hwr, hi9, hlt, hsel, cp, cpr, htn, htm, hwn, hwn1, hwm, hwm1, hwnm, cy, cz, hcv, hsmY, hsmZ, hly, hsy0, hsy1, honey, hle, hcw]; constructor <;> rfl) ?_
  refine WK.run (rest := [4]) [2, 3] (by simp [cb, cbr, cw, hs0, hs1, hl32, hone, hs20, hs21, hl2, hone2, hw1, hw2, hwr, hi9, hlt, hsel, cp, cpr, htn, htm, hwn, hwn1, hwm, hwm1, hwnm, cy, cz, hcv, hsmY, hsmZ, hly, hsy0, hsy1, honey, hle, hcw]; constructor <;> rfl) ?_
  refine WK.run (rest := []) [4] (by simp [cb, cbr, cw, hs0, hs1, hl32, hone, hs20, hs21, hl2, hone2, hw1, hw2, hwr, hi9, hlt, hsel, cp, cpr, htn, htm, hwn, hwn1, hwm, hwm1, hwnm, cy, cz, hcv, hsmY, hsmZ, hly, hsy0, hsy1, honey, hle, hcw]; constructor <;> rfl) ?_
  refine WK.nil ?_
  refine DK.abs (fun M2 => Keep M1 M2 ∧ M2[M1.length]? = some (.cells false ([.int .u8 a, .int .u8 b, .int .u8 c]))) ⟨Keep.app _ _, mem_app _ _⟩ ?_
  rintro M2 ⟨hkk, h_cw⟩
  replace cw := h_cw
  replace cb := hkk.cell cb
  replace hBk := hBk.keep hkk
  replace hkM := hkM.keep hkk
  refine DK.seq ?_
  refine DK.seq ?_
  refine DK.region (is := [0]) (by kernel_rfl) rfl ?_
  refine WK.run (rest := []) [0] (by simp [cb, cbr, cw, hs0, hs1, hl32, hone, hs20, hs21, hl2, hone2, hw1, hw2, hwr, hi9, hlt, hsel, cp, cpr, htn, htm, hwn, hwn1, hwm, hwm1, hwnm, cy, cz, hcv, hsmY, hsmZ, hly, hsy0, hsy1, honey, hle, hcw]; constructor <;> rfl) ?_
  refine WK.nil ?_
  refine DK.block ?_
  refine DK.loopF [15, 16, 34, 35, 36, 37, 38, 39, 40, 41, 42, 43, 44, 45, 46, 47, 48, 49, 50, 51, 52, 53, 54, 55, 56, 57, 58] [15] (fun fl vs H' => ∃ (i : Int) (bb : Bk) (sp : Value) (l : List As), vs = [.int .i64 i] ∧ (Keep H H' ∧ H'[H.length]? = some (.cells false (BkL bb.today sp l)) ∧ H'[M1.length]? = some (.cells false [.int .u8 a, .int .u8 b, .int .u8 c]) ∧ BkAt H' sp l bb) ∧ 0 ≤ i ∧ i ≤ 3 ∧ (∀ c, blkOf sp = some c → H.length < c) ∧ RI (700000 + t) i.toNat bb ∧ BOk (i.toNat * 7304120) bb ∧ UnOk bb.pls ∧ fl = (3 - i).toNat) (3) (by kernel_rfl) ?_ ?_
  · refine ⟨_, newB (700000 + t), .slice none 0 0, zL, rfl, ?_⟩
    exact ⟨⟨hkM, cb, cw, hBk⟩, by omega, by omega, fun c hc => (by cases hc), RI.new _, (newB_ok _).1, (newB_ok _).2, by omega⟩
  rintro fl f1j M ⟨i, bb, sp, l, hv, hf⟩
  clear hkM hBk hspn
  obtain ⟨⟨hkM, cb0, cw0, hBk⟩, hj0, hj1, hspn, hri, hok, hun, hfl⟩ := hf
  replace cb := cb0
  replace cw := cw0
  replace hs0 := hBk.pls.cells.1
  replace hs1 := hBk.pls.cells.2
  replace hl32 := hBk.len
  replace hone := bk_ones hs1
  simp only [List.map_cons, List.map_nil, List.cons.injEq, and_true] at hv
  have hv1_0 := hv
  refine DK.from ((setL_S (by decide) _ _).trans (by simp [setS, hv1_0]; exact rfl)) ?_
  refine DK.seq ?_
  refine DK.seq ?_
  refine DK.region (is := [0, 1]) (by kernel_rfl) rfl ?_
  refine WK.run (rest := []) [0, 1] (by simp [cb, cbr, cw, hs0, hs1, hl32, hone, hs20, hs21, hl2, hone2, hw1, hw2, hwr, hi9, hlt, hsel, cp, cpr, htn, htm, hwn, hwn1, hwm, hwm1, hwnm, cy, cz, hcv, hsmY, hsmZ, hly, hsy0, hsy1, honey, hle, hcw]; constructor <;> rfl) ?_
  refine WK.nil ?_
  refine DK.test rfl rfl (fun h => ?_) (fun h => ?_)
  · try simp only [h]
    replace h := Tr.out h
    replace hi9 : 0 ≤ i := hj0
    replace hlt : i < 3 := h
    replace hwr : IntKind.i64.wrap (i + 1) = i + 1 := wrap_in _ (by omega) (by omega)
    replace hsel := sel3_take a b c hj0 h
    have hse : 0 ≤ sel4 i a b c 0 ∧ sel4 i a b c 0 < 256 := by unfold sel4; split <;> (try split) <;> (try split) <;> omega
    replace hle : i.toNat + 1 ≤ 3 := by omega
    have hii : ((i.toNat : Nat) : Int) = i := by omega
    refine DK.skip ?_
    refine DK.seq ?_
    refine DK.block ?_
    refine DK.seq ?_
    refine DK.region (is := [0, 1, 2, 3, 4, 5, 6]) (by kernel_rfl) rfl ?_
    refine WK.run (rest := [2, 3, 4, 5, 6]) [0, 1] (by simp [cb, cbr, cw, hs0, hs1, hl32, hone, hs20, hs21, hl2, hone2, hw1, hw2, hwr, hi9, hlt, hsel, cp, cpr, htn, htm, hwn, hwn1, hwm, hwm1, hwnm, cy, cz, hcv, hsmY, hsmZ, hly, hsy0, hsy1, honey, hle, hcw]; constructor <;> rfl) ?_
    refine WK.run (rest := [4, 5, 6]) [2, 3] (by simp [cb, cbr, cw, hs0, hs1, hl32, hone, hs20, hs21, hl2, hone2, hw1, hw2, hwr, hi9, hlt, hsel, cp, cpr, htn, htm, hwn, hwn1, hwm, hwm1, hwnm, cy, cz, hcv, hsmY, hsmZ, hly, hsy0, hsy1, honey, hle, hcw]; constructor <;> rfl) ?_
    refine WK.call rfl (by simp [cb, cbr, cw, hs0, hs1, hl32, hone, hs20, hs21, hl2, hone2, hw1, hw2, hwr, hi9, hlt, hsel, cp, cpr, htn, htm, hwn, hwn1, hwm, hwm1, hwnm, cy, cz, hcv, hsmY, hsmZ, hly, hsy0, hsy1, honey, hle, hcw]) (by simp [Tryd.func20, Tryd.f20, cb, cbr, cw, hs0, hs1, hl32, hone, hs20, hs21, hl2, hone2, hw1, hw2, hwr, hi9, hlt, hsel, cp, cpr, htn, htm, hwn, hwn1, hwm, hwm1, hwnm, cy, cz, hcv, hsmY, hsmZ, hly, hsy0, hsy1, honey, hle, hcw]; constructor <;> rfl) ?_
    refine FSem.mono (rplan_g (sel4 i a b c 0) hse.1 hse.2 _) ?_
    rintro _ Hq ⟨rfl, hq⟩
    subst hq
    refine WK.run (rest := []) [5, 6] (by simp [cb, cbr, cw, hs0, hs1, hl32, hone, hs20, hs21, hl2, hone2, hw1, hw2, hwr, hi9, hlt, hsel, cp, cpr, htn, htm, hwn, hwn1, hwm, hwm1, hwnm, cy, cz, hcv, hsmY, hsmZ, hly, hsy0, hsy1, honey, hle, hcw]; constructor <;> rfl) ?_
    refine WK.nil ?_
    refine DK.abs (fun M8 => Keep M M8 ∧ M8[M.length]? = some (.cells false (planR (sel4 i a b c 0)).l)) ⟨Keep.app _ _, by simp⟩ ?_
    rintro M8 ⟨hK8, c8⟩
    replace cp := c8
    refine DK.seq ?_
    refine DK.region (is := [0, 1]) (by kernel_rfl) rfl ?_
    refine WK.run (rest := []) [0, 1] (by simp [cb, cbr, cw, hs0, hs1, hl32, hone, hs20, hs21, hl2, hone2, hw1, hw2, hwr, hi9, hlt, hsel, cp, cpr, htn, htm, hwn, hwn1, hwm, hwm1, hwnm, cy, cz, hcv, hsmY, hsmZ, hly, hsy0, hsy1, honey, hle, hcw]; constructor <;> rfl) ?_
    refine WK.nil ?_
    refine DK.abs (fun M9 => Keep M M9 ∧ M9[M.length]? = some (.cells false (Pl.l { planR (sel4 i a b c 0) with la := false }))) ⟨hK8.set (Nat.le_refl _) _, List.getElem?_set_self (List.getElem?_eq_some_iff.1 c8).1⟩ ?_
    rintro M9 ⟨hkk, c9⟩
    replace cp := c9
    replace cb := hkk.cell cb
    replace cw := hkk.cell cw
    replace hBk := hBk.keep hkk
    replace hkM := hkM.keep hkk
    have hltq : H.length < M9.length := (List.getElem?_eq_some_iff.1 cb).1
    refine DK.seq ?_
    refine DK.region (is := [0, 1, 2, 3, 4, 5, 6, 7]) (by kernel_rfl) rfl ?_
    refine WK.run (rest := [2, 3, 4, 5, 6, 7]) [0, 1] (by simp [cb, cbr, cw, hs0, hs1, hl32, hone, hs20, hs21, hl2, hone2, hw1, hw2, hwr, hi9, hlt, hsel, cp, cpr, htn, htm, hwn, hwn1, hwm, hwm1, hwnm, cy, cz, hcv, hsmY, hsmZ, hly, hsy0, hsy1, honey, hle, hcw]; constructor <;> rfl) ?_
    refine WK.run (rest := [3, 4, 5, 6, 7]) [2] (by simp [cb, cbr, cw, hs0, hs1, hl32, hone, hs20, hs21, hl2, hone2, hw1, hw2, hwr, hi9, hlt, hsel, cp, cpr, htn, htm, hwn, hwn1, hwm, hwm1, hwnm, cy, cz, hcv, hsmY, hsmZ, hly, hsy0, hsy1, honey, hle, hcw]; constructor <;> rfl) ?_
    refine WK.call rfl (by simp [cb, cbr, cw, hs0, hs1, hl32, hone, hs20, hs21, hl2, hone2, hw1, hw2, hwr, hi9, hlt, hsel, cp, cpr, htn, htm, hwn, hwn1, hwm, hwm1, hwnm, cy, cz, hcv, hsmY, hsmZ, hly, hsy0, hsy1, honey, hle, hcw]) (by simp [Tryd.func16, Tryd.f16, cb, cbr, cw, hs0, hs1, hl32, hone, hs20, hs21, hl2, hone2, hw1, hw2, hwr, hi9, hlt, hsel, cp, cpr, htn, htm, hwn, hwn1, hwm, hwm1, hwnm, cy, cz, hcv, hsmY, hsmZ, hly, hsy0, hsy1, honey, hle, hcw]; constructor <;> rfl) ?_
    refine FSem.mono (step_g (i.toNat * 7304120) bb (partO1 (sel4 i a b c 0)) hBk (hL.keep hkM) hok (by omega) hun) ?_
    rintro _ M4 ⟨b2, e2, sp2, l2, rfl, hst, hBk2, hl, hs, hs', hkk, hsb2⟩
    replace hl2 := hl
    replace hs20 := hs
    replace hs21 := hs'
    replace hone2 := bk_ones hs'
    replace cb := hkk.cell cb
    replace cw := hkk.cell cw
    replace hBk := hBk.keep hkk
    replace hkM := hkM.keep hkk
    refine WK.run (rest := [6, 7]) [4, 5] (by simp [cb, cbr, cw, hs0, hs1, hl32, hone, hs20, hs21, hl2, hone2, hw1, hw2, hwr, hi9, hlt, hsel, cp, cpr, htn, htm, hwn, hwn1, hwm, hwm1, hwnm, cy, cz, hcv, hsmY, hsmZ, hly, hsy0, hsy1, honey, hle, hcw]; constructor <;> rfl) ?_
    refine WK.run (rest := []) [6, 7] (by simp [cb, cbr, cw, hs0, hs1, hl32, hone, hs20, hs21, hl2, hone2, hw1, hw2, hwr, hi9, hlt, hsel, cp, cpr, htn, htm, hwn, hwn1, hwm, hwm1, hwnm, cy, cz, hcv, hsmY, hsmZ, hly, hsy0, hsy1, honey, hle, hcw]; constructor <;> rfl) ?_
    refine WK.nil ?_
    refine DK.abs (fun M10 => Keep H M10 ∧ M10[H.length]? = some (.cells false (BkL b2.today sp2 l2)) ∧ M10[M1.length]? = some (.cells false [.int .u8 a, .int .u8 b, .int .u8 c]) ∧ BkAt M10 sp2 l2 b2 ∧ (∀ c, blkOf sp2 = some c → H.length < c)) ⟨hkM.set (Nat.le_refl _) _, List.getElem?_set_self (List.getElem?_eq_some_iff.1 cb).1, (List.getElem?_set_ne (by omega)).trans cw, hBk2.set (hBk2.fre cb (by rw [BkL_len hl32]; decide) (fun e => (hsb2 _ e).elim (fun q => by have := hspn _ q; omega) (fun q => by omega))) _, fun c hc => (hsb2 c hc).elim (fun q => hspn c q) (fun q => by omega)⟩ ?_
    clear hBk hkM hspn
    rintro M10 ⟨hkM, cb5, cw5, hBk, hspn⟩
    replace cb := cb5
    replace cw := cw5
    replace hs0 := hBk.pls.cells.1
    replace hs1 := hBk.pls.cells.2
    replace hl32 := hBk.len
    replace hone := bk_ones hs1
    have hltq : H.length < M10.length := (List.getElem?_eq_some_iff.1 cb).1
    have hst1 := hst
    have hok2 : BOk ((i.toNat * 7304120) + 3652060) b2 := by have := stepB_okA (partO1 (sel4 i a b c 0)) hok; rw [hst] at this; exact this
    have hun2 : UnOk b2.pls := by have := stepB_un hun (show 0 ≤ (partO1 (sel4 i a b c 0)).p.un by have := hse.1; simp only [partO1, planR]; omega); rw [hst] at this; exact this
    refine DK.region (is := [0, 1, 2, 3, 4, 5, 6, 7, 8]) (by kernel_rfl) rfl ?_
    refine WK.run (rest := [2, 3, 4, 5, 6, 7, 8]) [0, 1] (by simp [cb, cbr, cw, hs0, hs1, hl32, hone, hs20, hs21, hl2, hone2, hw1, hw2, hwr, hi9, hlt, hsel, cp, cpr, htn, htm, hwn, hwn1, hwm, hwm1, hwnm, cy, cz, hcv, hsmY, hsmZ, hly, hsy0, hsy1, honey, hle, hcw]; constructor <;> rfl) ?_
    refine WK.run (rest := [4, 5, 6, 7, 8]) [2, 3] (by simp [cb, cbr, cw, hs0, hs1, hl32, hone, hs20, hs21, hl2, hone2, hw1, hw2, hwr, hi9, hlt, hsel, cp, cpr, htn, htm, hwn, hwn1, hwm, hwm1, hwnm, cy, cz, hcv, hsmY, hsmZ, hly, hsy0, hsy1, honey, hle, hcw]; constructor <;> rfl) ?_
    refine WK.call rfl (by simp [cb, cbr, cw, hs0, hs1, hl32, hone, hs20, hs21, hl2, hone2, hw1, hw2, hwr, hi9, hlt, hsel, cp, cpr, htn, htm, hwn, hwn1, hwm, hwm1, hwnm, cy, cz, hcv, hsmY, hsmZ, hly, hsy0, hsy1, honey, hle, hcw]) (by simp [Tryd.func16, Tryd.f16, cb, cbr, cw, hs0, hs1, hl32, hone, hs20, hs21, hl2, hone2, hw1, hw2, hwr, hi9, hlt, hsel, cp, cpr, htn, htm, hwn, hwn1, hwm, hwm1, hwnm, cy, cz, hcv, hsmY, hsmZ, hly, hsy0, hsy1, honey, hle, hcw]; constructor <;> rfl) ?_
    refine FSem.mono (step_g ((i.toNat * 7304120) + 3652060) b2 (partO2 i) hBk (hL.keep hkM) hok2 (by omega) hun2) ?_
    rintro _ M4 ⟨b3, e3, sp3, l3, rfl, hst, hBk2, hl, hs, hs', hkk, hsb2⟩
    replace hl2 := hl
    replace hs20 := hs
    replace hs21 := hs'
    replace hone2 := bk_ones hs'
    replace cb := hkk.cell cb
    replace cw := hkk.cell cw
    replace hBk := hBk.keep hkk
    replace hkM := hkM.keep hkk
    refine WK.run (rest := [7, 8]) [5, 6] (by simp [cb, cbr, cw, hs0, hs1, hl32, hone, hs20, hs21, hl2, hone2, hw1, hw2, hwr, hi9, hlt, hsel, cp, cpr, htn, htm, hwn, hwn1, hwm, hwm1, hwnm, cy, cz, hcv, hsmY, hsmZ, hly, hsy0, hsy1, honey, hle, hcw]; constructor <;> rfl) ?_
    refine WK.run (rest := []) [7, 8] (by simp [cb, cbr, cw, hs0, hs1, hl32, hone, hs20, hs21, hl2, hone2, hw1, hw2, hwr, hi9, hlt, hsel, cp, cpr, htn, htm, hwn, hwn1, hwm, hwm1, hwnm, cy, cz, hcv, hsmY, hsmZ, hly, hsy0, hsy1, honey, hle, hcw]; constructor <;> rfl) ?_
    refine WK.nil ?_
    refine DK.abs (fun M11 => Keep H M11 ∧ M11[H.length]? = some (.cells false (BkL b3.today sp3 l3)) ∧ M11[M1.length]? = some (.cells false [.int .u8 a, .int .u8 b, .int .u8 c]) ∧ BkAt M11 sp3 l3 b3 ∧ (∀ c, blkOf sp3 = some c → H.length < c)) ⟨hkM.set (Nat.le_refl _) _, List.getElem?_set_self (List.getElem?_eq_some_iff.1 cb).1, (List.getElem?_set_ne (by omega)).trans cw, hBk2.set (hBk2.fre cb (by rw [BkL_len hl32]; decide) (fun e => (hsb2 _ e).elim (fun q => by have := hspn _ q; omega) (fun q => by omega))) _, fun c hc => (hsb2 c hc).elim (fun q => hspn c q) (fun q => by omega)⟩ ?_
    clear hBk hkM hspn
    rintro M11 ⟨hkM, cb5, cw5, hBk, hspn⟩
    replace cb := cb5
    replace cw := cw5
    replace hs0 := hBk.pls.cells.1
    replace hs1 := hBk.pls.cells.2
    replace hl32 := hBk.len
    replace hone := bk_ones hs1
    have hltq : H.length < M11.length := (List.getElem?_eq_some_iff.1 cb).1
    have hok3 : BOk ((i.toNat * 7304120) + 7304120) b3 := by have := stepB_okA (partO2 i) hok2; rw [hst] at this; exact this.le (by omega)
    have hun3 : UnOk b3.pls := by have := stepB_un hun2 (show 0 ≤ (partO2 i).p.un from Int.le_refl _); rw [hst] at this; exact this
    have hri3 : RI (700000 + t) (i.toNat + 1) b3 := by have := hri.step (by omega) (by omega) (by omega) hse.1 hse.2; unfold partB at this; rw [hst1] at this; simp only [hii] at this; rw [hst] at this; exact this
    refine DK.region (is := [0, 1, 2]) (by kernel_rfl) rfl ?_
    refine WK.run (rest := [2]) [0, 1] (by simp [cb, cbr, cw, hs0, hs1, hl32, hone, hs20, hs21, hl2, hone2, hw1, hw2, hwr, hi9, hlt, hsel, cp, cpr, htn, htm, hwn, hwn1, hwm, hwm1, hwnm, cy, cz, hcv, hsmY, hsmZ, hly, hsy0, hsy1, honey, hle, hcw]; constructor <;> rfl) ?_
    refine WK.run (rest := []) [2] (by simp [cb, cbr, cw, hs0, hs1, hl32, hone, hs20, hs21, hl2, hone2, hw1, hw2, hwr, hi9, hlt, hsel, cp, cpr, htn, htm, hwn, hwn1, hwm, hwm1, hwnm, cy, cz, hcv, hsmY, hsmZ, hly, hsy0, hsy1, honey, hle, hcw]; constructor <;> rfl) ?_
    refine WK.nil ?_
    refine ⟨by kernel_rfl, (3 - (i + 1)).toNat, ?_, _, b3, sp3, l3, rfl, ?_⟩
    · omega
    · rw [show (i + 1).toNat = i.toNat + 1 by omega]
      exact ⟨⟨hkM, cb, cw, hBk⟩, by omega, by omega, hspn, hri3, hok3.le (by omega), hun3, rfl⟩
  try simp only [h]
  replace h := Fa.out h
  have hiE : i = 3 := by omega
  subst hiE
  have hokT : BOk 21912360 bb := hok.le (by decide)
  replace hok := hokT
  obtain ⟨yb, zb, hp1, hp2, hp3⟩ := parts_law (j := 1 + n % 30) (k := 1 + m % 30) hri.gl (by rw [hri.today]; omega) (by rw [hri.today]; omega) (by omega) (by omega)
  refine DK.exit ?_
  refine DK.seq ?_
  refine DK.region (is := [0, 1, 2, 3, 4]) (by kernel_rfl) rfl ?_
  refine WK.run (rest := [2, 3, 4]) [0, 1] (by simp [cb, cbr, cw, hs0, hs1, hl32, hone, hs20, hs21, hl2, hone2, hw1, hw2, hwr, hi9, hlt, hsel, cp, cpr, htn, htm, hwn, hwn1, hwm, hwm1, hwnm, cy, cz, hcv, hsmY, hsmZ, hly, hsy0, hsy1, honey, hle, hcw]; constructor <;> rfl) ?_
  refine WK.run (rest := [4]) [2, 3] (by simp [cb, cbr, cw, hs0, hs1, hl32, hone, hs20, hs21, hl2, hone2, hw1, hw2, hwr, hi9, hlt, hsel, cp, cpr, htn, htm, hwn, hwn1, hwm, hwm1, hwnm, cy, cz, hcv, hsmY, hsmZ, hly, hsy0, hsy1, honey, hle, hcw]; constructor <;> rfl) ?_
  refine WK.run (rest := []) [4] (by simp [cb, cbr, cw, hs0, hs1, hl32, hone, hs20, hs21, hl2, hone2, hw1, hw2, hwr, hi9, hlt, hsel, cp, cpr, htn, htm, hwn, hwn1, hwm, hwm1, hwnm, cy, cz, hcv, hsmY, hsmZ, hly, hsy0, hsy1, honey, hle, hcw]; constructor <;> rfl) ?_
  refine WK.nil ?_
  refine DK.seq ?_
  refine DK.region (is := [0, 1, 2, 3, 4]) (by kernel_rfl) rfl ?_
  refine WK.run (rest := [2, 3, 4]) [0, 1] (by simp [cb, cbr, cw, hs0, hs1, hl32, hone, hs20, hs21, hl2, hone2, hw1, hw2, hwr, hi9, hlt, hsel, cp, cpr, htn, htm, hwn, hwn1, hwm, hwm1, hwnm, cy, cz, hcv, hsmY, hsmZ, hly, hsy0, hsy1, honey, hle, hcw]; constructor <;> rfl) ?_
  refine WK.run (rest := [4]) [2, 3] (by simp [cb, cbr, cw, hs0, hs1, hl32, hone, hs20, hs21, hl2, hone2, hw1, hw2, hwr, hi9, hlt, hsel, cp, cpr, htn, htm, hwn, hwn1, hwm, hwm1, hwnm, cy, cz, hcv, hsmY, hsmZ, hly, hsy0, hsy1, honey, hle, hcw]; constructor <;> rfl) ?_
  refine WK.run (rest := []) [4] (by simp [cb, cbr, cw, hs0, hs1, hl32, hone, hs20, hs21, hl2, hone2, hw1, hw2, hwr, hi9, hlt, hsel, cp, cpr, htn, htm, hwn, hwn1, hwm, hwm1, hwnm, cy, cz, hcv, hsmY, hsmZ, hly, hsy0, hsy1, honey, hle, hcw]; constructor <;> rfl) ?_
  refine WK.nil ?_
  refine DK.seq ?_
  refine DK.region (is := [0, 1, 2, 3, 4, 5, 6, 7, 8, 9]) (by kernel_rfl) rfl ?_
  refine WK.run (rest := [2, 3, 4, 5, 6, 7, 8, 9]) [0, 1] (by simp [cb, cbr, cw, hs0, hs1, hl32, hone, hs20, hs21, hl2, hone2, hw1, hw2, hwr, hi9, hlt, hsel, cp, cpr, htn, htm, hwn, hwn1, hwm, hwm1, hwnm, cy, cz, hcv, hsmY, hsmZ, hly, hsy0, hsy1, honey, hle, hcw]; constructor <;> rfl) ?_
  refine WK.run (rest := [3, 4, 5, 6, 7, 8, 9]) [2] (by simp [cb, cbr, cw, hs0, hs1, hl32, hone, hs20, hs21, hl2, hone2, hw1, hw2, hwr, hi9, hlt, hsel, cp, cpr, htn, htm, hwn, hwn1, hwm, hwm1, hwnm, cy, cz, hcv, hsmY, hsmZ, hly, hsy0, hsy1, honey, hle, hcw]; constructor <;> rfl) ?_
  refine WK.call rfl (by simp [cb, cbr, cw, hs0, hs1, hl32, hone, hs20, hs21, hl2, hone2, hw1, hw2, hwr, hi9, hlt, hsel, cp, cpr, htn, htm, hwn, hwn1, hwm, hwm1, hwnm, cy, cz, hcv, hsmY, hsmZ, hly, hsy0, hsy1, honey, hle, hcw]) (by simp [Tryd.func16, Tryd.f16, cb, cbr, cw, hs0, hs1, hl32, hone, hs20, hs21, hl2, hone2, hw1, hw2, hwr, hi9, hlt, hsel, cp, cpr, htn, htm, hwn, hwn1, hwm, hwm1, hwnm, cy, cz, hcv, hsmY, hsmZ, hly, hsy0, hsy1, honey, hle, hcw]; constructor <;> rfl) ?_
  refine FSem.mono (step_g 21912360 bb ⟨9, 0, 0, 1 + n % 30, zeroP, zeroN⟩ hBk (hL.keep hkM) hok (by omega) hun) ?_
  rintro _ MY ⟨y1, ey, spy, ly, rfl, hst, hBk2, hl, hs, hs', hkk, hsb2⟩
  replace hl2 := hl
  replace hs20 := hs
  replace hs21 := hs'
  replace hone2 := bk_ones hs'
  replace cb := hkk.cell cb
  replace hBk := hBk.keep hkk
  replace hkM := hkM.keep hkk
  obtain ⟨rfl, rfl⟩ : yb = y1 ∧ (0 : Int) = ey := by rw [hp1] at hst; cases hst; exact ⟨rfl, rfl⟩
  have hBkY := hBk
  have hByY := hBk2
  have hltY : H.length < MY.length := (List.getElem?_eq_some_iff.1 cb).1
  refine WK.run (rest := [6, 7, 8, 9]) [4, 5] (by simp [cb, cbr, cw, hs0, hs1, hl32, hone, hs20, hs21, hl2, hone2, hw1, hw2, hwr, hi9, hlt, hsel, cp, cpr, htn, htm, hwn, hwn1, hwm, hwm1, hwnm, cy, cz, hcv, hsmY, hsmZ, hly, hsy0, hsy1, honey, hle, hcw]; constructor <;> rfl) ?_
  refine WK.run (rest := [8, 9]) [6, 7] (by simp [cb, cbr, cw, hs0, hs1, hl32, hone, hs20, hs21, hl2, hone2, hw1, hw2, hwr, hi9, hlt, hsel, cp, cpr, htn, htm, hwn, hwn1, hwm, hwm1, hwnm, cy, cz, hcv, hsmY, hsmZ, hly, hsy0, hsy1, honey, hle, hcw]; constructor <;> rfl) ?_
  refine WK.run (rest := []) [8, 9] (by simp [cb, cbr, cw, hs0, hs1, hl32, hone, hs20, hs21, hl2, hone2, hw1, hw2, hwr, hi9, hlt, hsel, cp, cpr, htn, htm, hwn, hwn1, hwm, hwm1, hwnm, cy, cz, hcv, hsmY, hsmZ, hly, hsy0, hsy1, honey, hle, hcw]; constructor <;> rfl) ?_
  refine WK.nil ?_
  refine DK.abs (fun M14 => Keep MY M14 ∧ M14[MY.length]? = some (.cells false (BkL yb.today spy ly))) ⟨Keep.app _ _, by simp⟩ ?_
  rintro M14 ⟨hkk, q14⟩
  replace cy := q14
  replace cb := hkk.cell cb
  replace hBk := hBk.keep hkk
  replace hkM := hkM.keep hkk
  replace hBk2 := hBk2.keep hkk
  have hBy := hBk2
  replace hly := hl2
  replace hsy0 := hs20
  replace hsy1 := hs21
  replace honey := hone2
  have hltq : MY.length < M14.length := (List.getElem?_eq_some_iff.1 cy).1
  have hoky : BOk 25564420 yb := by have := stepB_okA ⟨9, 0, 0, 1 + n % 30, zeroP, zeroN⟩ hok; rw [hp1] at this; exact this
  have huny : UnOk yb.pls := by have := stepB_un (o := ⟨9, 0, 0, 1 + n % 30, zeroP, zeroN⟩) hun (Int.le_refl _); rw [hp1] at this; exact this
  refine DK.seq ?_
  refine DK.region (is := [0, 1, 2, 3, 4, 5, 6, 7, 8]) (by kernel_rfl) rfl ?_
  refine WK.run (rest := [2, 3, 4, 5, 6, 7, 8]) [0, 1] (by simp [cb, cbr, cw, hs0, hs1, hl32, hone, hs20, hs21, hl2, hone2, hw1, hw2, hwr, hi9, hlt, hsel, cp, cpr, htn, htm, hwn, hwn1, hwm, hwm1, hwnm, cy, cz, hcv, hsmY, hsmZ, hly, hsy0, hsy1, honey, hle, hcw]; constructor <;> rfl) ?_
  refine WK.run (rest := [3, 4, 5, 6, 7, 8]) [2] (by simp [cb, cbr, cw, hs0, hs1, hl32, hone, hs20, hs21, hl2, hone2, hw1, hw2, hwr, hi9, hlt, hsel, cp, cpr, htn, htm, hwn, hwn1, hwm, hwm1, hwnm, cy, cz, hcv, hsmY, hsmZ, hly, hsy0, hsy1, honey, hle, hcw]; constructor <;> rfl) ?_
  refine WK.call rfl (by simp [cb, cbr, cw, hs0, hs1, hl32, hone, hs20, hs21, hl2, hone2, hw1, hw2, hwr, hi9, hlt, hsel, cp, cpr, htn, htm, hwn, hwn1, hwm, hwm1, hwnm, cy, cz, hcv, hsmY, hsmZ, hly, hsy0, hsy1, honey, hle, hcw]) (by simp [Tryd.func16, Tryd.f16, cb, cbr, cw, hs0, hs1, hl32, hone, hs20, hs21, hl2, hone2, hw1, hw2, hwr, hi9, hlt, hsel, cp, cpr, htn, htm, hwn, hwn1, hwm, hwm1, hwnm, cy, cz, hcv, hsmY, hsmZ, hly, hsy0, hsy1, honey, hle, hcw]; constructor <;> rfl) ?_
  refine FSem.mono (step_g 25564420 yb ⟨9, 0, 0, 1 + m % 30, zeroP, zeroN⟩ hBy (hL.keep hkM) hoky (by omega) huny) ?_
  rintro _ MZ ⟨z1, ez, spz, lz, rfl, hst, hBk2, hl, hs, hs', hkk, hsb2⟩
  replace hl2 := hl
  replace hs20 := hs
  replace hs21 := hs'
  replace hone2 := bk_ones hs'
  replace cb := hkk.cell cb
  replace cy := hkk.cell cy
  replace hBk := hBk.keep hkk
  replace hkM := hkM.keep hkk
  obtain ⟨rfl, rfl⟩ : zb = z1 ∧ (0 : Int) = ez := by rw [hp2] at hst; cases hst; exact ⟨rfl, rfl⟩
  refine WK.run (rest := [6, 7, 8]) [4, 5] (by simp [cb, cbr, cw, hs0, hs1, hl32, hone, hs20, hs21, hl2, hone2, hw1, hw2, hwr, hi9, hlt, hsel, cp, cpr, htn, htm, hwn, hwn1, hwm, hwm1, hwnm, cy, cz, hcv, hsmY, hsmZ, hly, hsy0, hsy1, honey, hle, hcw]; constructor <;> rfl) ?_
  refine WK.run (rest := [8]) [6, 7] (by simp [cb, cbr, cw, hs0, hs1, hl32, hone, hs20, hs21, hl2, hone2, hw1, hw2, hwr, hi9, hlt, hsel, cp, cpr, htn, htm, hwn, hwn1, hwm, hwm1, hwnm, cy, cz, hcv, hsmY, hsmZ, hly, hsy0, hsy1, honey, hle, hcw]; constructor <;> rfl) ?_
  refine WK.run (rest := []) [8] (by simp [cb, cbr, cw, hs0, hs1, hl32, hone, hs20, hs21, hl2, hone2, hw1, hw2, hwr, hi9, hlt, hsel, cp, cpr, htn, htm, hwn, hwn1, hwm, hwm1, hwnm, cy, cz, hcv, hsmY, hsmZ, hly, hsy0, hsy1, honey, hle, hcw]; constructor <;> rfl) ?_
  refine WK.nil ?_
  refine DK.abs (fun M15 => Keep H M15 ∧ M15[H.length]? = some (.cells false (BkL bb.today sp l)) ∧ M15[MY.length]? = some (.cells false (BkL zb.today spz lz)) ∧ BkAt M15 sp l bb ∧ BkAt M15 spz lz zb) ⟨hkM.set (by omega) _, (List.getElem?_set_ne (by omega)).trans cb, List.getElem?_set_self (List.getElem?_eq_some_iff.1 cy).1, hBk.set (hBkY.free (Nat.le_refl _)) _, hBk2.set (hBk2.fre cy (by rw [BkL_len hly]; decide) (fun e => (hsb2 _ e).elim (fun q => by have := hByY.pls.lt q; omega) (fun q => by omega))) _⟩ ?_
  clear hBk hkM
  rintro M15 ⟨hkM, cb5, cy5, hBk, hBz⟩
  replace cb := cb5
  replace cy := cy5
  replace hly := hl2
  replace hsy0 := hs20
  replace hsy1 := hs21
  replace honey := hone2
  have hokz : BOk 29216480 zb := by have := stepB_okA ⟨9, 0, 0, 1 + m % 30, zeroP, zeroN⟩ hoky; rw [hp2] at this; exact this
  have hp8 : zb.pls.length ≤ 8 := by have := stepB_p8 (o := ⟨9, 0, 0, 1 + n % 30 + (1 + m % 30), zeroP, zeroN⟩) (show bb.pls.length ≤ 8 by rw [hri.len]; decide); rw [hp3] at this; exact this
  refine DK.seq ?_
  refine DK.region (is := [0, 1, 2, 3, 4, 5, 6, 7, 8, 9, 10, 11]) (by kernel_rfl) rfl ?_
  refine WK.run (rest := [2, 3, 4, 5, 6, 7, 8, 9, 10, 11]) [0, 1] (by simp [cb, cbr, cw, hs0, hs1, hl32, hone, hs20, hs21, hl2, hone2, hw1, hw2, hwr, hi9, hlt, hsel, cp, cpr, htn, htm, hwn, hwn1, hwm, hwm1, hwnm, cy, cz, hcv, hsmY, hsmZ, hly, hsy0, hsy1, honey, hle, hcw]; constructor <;> rfl) ?_
  refine WK.run (rest := [4, 5, 6, 7, 8, 9, 10, 11]) [2, 3] (by simp [cb, cbr, cw, hs0, hs1, hl32, hone, hs20, hs21, hl2, hone2, hw1, hw2, hwr, hi9, hlt, hsel, cp, cpr, htn, htm, hwn, hwn1, hwm, hwm1, hwnm, cy, cz, hcv, hsmY, hsmZ, hly, hsy0, hsy1, honey, hle, hcw]; constructor <;> rfl) ?_
  refine WK.run (rest := [5, 6, 7, 8, 9, 10, 11]) [4] (by simp [cb, cbr, cw, hs0, hs1, hl32, hone, hs20, hs21, hl2, hone2, hw1, hw2, hwr, hi9, hlt, hsel, cp, cpr, htn, htm, hwn, hwn1, hwm, hwm1, hwnm, cy, cz, hcv, hsmY, hsmZ, hly, hsy0, hsy1, honey, hle, hcw]; constructor <;> rfl) ?_
  refine WK.call rfl (by simp [cb, cbr, cw, hs0, hs1, hl32, hone, hs20, hs21, hl2, hone2, hw1, hw2, hwr, hi9, hlt, hsel, cp, cpr, htn, htm, hwn, hwn1, hwm, hwm1, hwnm, cy, cz, hcv, hsmY, hsmZ, hly, hsy0, hsy1, honey, hle, hcw]) (by simp [Tryd.func16, Tryd.f16, cb, cbr, cw, hs0, hs1, hl32, hone, hs20, hs21, hl2, hone2, hw1, hw2, hwr, hi9, hlt, hsel, cp, cpr, htn, htm, hwn, hwn1, hwm, hwm1, hwnm, cy, cz, hcv, hsmY, hsmZ, hly, hsy0, hsy1, honey, hle, hcw]; constructor <;> rfl) ?_
  refine FSem.mono (step_g 21912360 bb ⟨9, 0, 0, 1 + n % 30 + (1 + m % 30), zeroP, zeroN⟩ hBk (hL.keep hkM) hok (by omega) hun) ?_
  rintro _ MW ⟨w1, ew, spw, lw, rfl, hst, hBk2, hl, hs, hs', hkk, hsb2⟩
  replace hl2 := hl
  replace hs20 := hs
  replace hs21 := hs'
  replace hone2 := bk_ones hs'
  replace cy := hkk.cell cy
  replace hBz := hBz.keep hkk
  replace hkM := hkM.keep hkk
  obtain ⟨rfl, rfl⟩ : zb = w1 ∧ (0 : Int) = ew := by rw [hp3] at hst; cases hst; exact ⟨rfl, rfl⟩
  refine WK.run (rest := [8, 9, 10, 11]) [6, 7] (by simp [cb, cbr, cw, hs0, hs1, hl32, hone, hs20, hs21, hl2, hone2, hw1, hw2, hwr, hi9, hlt, hsel, cp, cpr, htn, htm, hwn, hwn1, hwm, hwm1, hwnm, cy, cz, hcv, hsmY, hsmZ, hly, hsy0, hsy1, honey, hle, hcw]; constructor <;> rfl) ?_
  refine WK.run (rest := [10, 11]) [8, 9] (by simp [cb, cbr, cw, hs0, hs1, hl32, hone, hs20, hs21, hl2, hone2, hw1, hw2, hwr, hi9, hlt, hsel, cp, cpr, htn, htm, hwn, hwn1, hwm, hwm1, hwnm, cy, cz, hcv, hsmY, hsmZ, hly, hsy0, hsy1, honey, hle, hcw]; constructor <;> rfl) ?_
  refine WK.run (rest := []) [10, 11] (by simp [cb, cbr, cw, hs0, hs1, hl32, hone, hs20, hs21, hl2, hone2, hw1, hw2, hwr, hi9, hlt, hsel, cp, cpr, htn, htm, hwn, hwn1, hwm, hwm1, hwnm, cy, cz, hcv, hsmY, hsmZ, hly, hsy0, hsy1, honey, hle, hcw]; constructor <;> rfl) ?_
  refine WK.nil ?_
  refine DK.abs (fun M16 => Keep MW M16 ∧ M16[MW.length]? = some (.cells false (BkL zb.today spw lw))) ⟨Keep.app _ _, by simp⟩ ?_
  rintro M16 ⟨hkk, q16⟩
  replace cz := q16
  replace cy := hkk.cell cy
  replace hBz := hBz.keep hkk
  replace hkM := hkM.keep hkk
  replace hBk2 := hBk2.keep hkk
  have hBw := hBk2
  replace hsmY := bk_same hBz
  replace hsmZ := bk_same hBw
  refine DK.seq ?_
  refine DK.draw rfl (POk.of (ord := [0, 1, 2, 3, 4, 5, 6, 7, 8, 9, 10, 11, 14, 12, 13, 15, 16, 17, 18, 19]) (by kernel_rfl)) ?_
  refine XK.run (rest := [2, 3, 4, 5, 6, 7, 8, 9, 10, 11, 14, 12, 13, 15, 16, 17, 18, 19]) [0, 1] (by kernel_rfl) (by simp [cb, cbr, cw, hs0, hs1, hl32, hone, hs20, hs21, hl2, hone2, hw1, hw2, hwr, hi9, hlt, hsel, cp, cpr, htn, htm, hwn, hwn1, hwm, hwm1, hwnm, cy, cz, hcv, hsmY, hsmZ, hly, hsy0, hsy1, honey, hle, hcw]; constructor <;> rfl) ?_
  refine XK.run (rest := [3, 4, 5, 6, 7, 8, 9, 10, 11, 14, 12, 13, 15, 16, 17, 18, 19]) [2] (by kernel_rfl) (by simp [cb, cbr, cw, hs0, hs1, hl32, hone, hs20, hs21, hl2, hone2, hw1, hw2, hwr, hi9, hlt, hsel, cp, cpr, htn, htm, hwn, hwn1, hwm, hwm1, hwnm, cy, cz, hcv, hsmY, hsmZ, hly, hsy0, hsy1, honey, hle, hcw]; constructor <;> rfl) ?_
  refine XK.split (t := 92) rfl (fun h => ?_) (fun h => ?_)
  · try simp only [h]
    replace h := Tr.out h
    refine XK.run (rest := [5, 6, 7, 8, 9, 10, 11, 14, 12, 13, 15, 16, 17, 18, 19]) [3, 4] (by kernel_rfl) (by simp [cb, cbr, cw, hs0, hs1, hl32, hone, hs20, hs21, hl2, hone2, hw1, hw2, hwr, hi9, hlt, hsel, cp, cpr, htn, htm, hwn, hwn1, hwm, hwm1, hwnm, cy, cz, hcv, hsmY, hsmZ, hly, hsy0, hsy1, honey, hle, hcw]; constructor <;> rfl) ?_
    refine XK.run (rest := [7, 8, 9, 10, 11, 14, 12, 13, 15, 16, 17, 18, 19]) [5, 6] (by kernel_rfl) (by simp [cb, cbr, cw, hs0, hs1, hl32, hone, hs20, hs21, hl2, hone2, hw1, hw2, hwr, hi9, hlt, hsel, cp, cpr, htn, htm, hwn, hwn1, hwm, hwm1, hwnm, cy, cz, hcv, hsmY, hsmZ, hly, hsy0, hsy1, honey, hle, hcw]; constructor <;> rfl) ?_
    refine XK.split (t := 96) rfl (fun h => ?_) (fun h => ?_)
    · try simp only [h]
      replace h := Tr.out h
      refine XK.run (rest := [9, 10, 11, 14, 12, 13, 15, 16, 17, 18, 19]) [7, 8] (by kernel_rfl) (by simp [cb, cbr, cw, hs0, hs1, hl32, hone, hs20, hs21, hl2, hone2, hw1, hw2, hwr, hi9, hlt, hsel, cp, cpr, htn, htm, hwn, hwn1, hwm, hwm1, hwnm, cy, cz, hcv, hsmY, hsmZ, hly, hsy0, hsy1, honey, hle, hcw]; constructor <;> rfl) ?_
      refine XK.run (rest := [11, 14, 12, 13, 15, 16, 17, 18, 19]) [9, 10] (by kernel_rfl) (by simp [cb, cbr, cw, hs0, hs1, hl32, hone, hs20, hs21, hl2, hone2, hw1, hw2, hwr, hi9, hlt, hsel, cp, cpr, htn, htm, hwn, hwn1, hwm, hwm1, hwnm, cy, cz, hcv, hsmY, hsmZ, hly, hsy0, hsy1, honey, hle, hcw]; constructor <;> rfl) ?_
      refine XK.split (t := 100) rfl (fun h => ?_) (fun h => ?_)
      · try simp only [h]
        replace h := Tr.out h
        refine XK.run (rest := [12, 13, 15, 16, 17, 18, 19]) [11, 14] (by kernel_rfl) (by simp [cb, cbr, cw, hs0, hs1, hl32, hone, hs20, hs21, hl2, hone2, hw1, hw2, hwr, hi9, hlt, hsel, cp, cpr, htn, htm, hwn, hwn1, hwm, hwm1, hwnm, cy, cz, hcv, hsmY, hsmZ, hly, hsy0, hsy1, honey, hle, hcw]; constructor <;> rfl) ?_
        refine XK.call rfl (by simp [cb, cbr, cw, hs0, hs1, hl32, hone, hs20, hs21, hl2, hone2, hw1, hw2, hwr, hi9, hlt, hsel, cp, cpr, htn, htm, hwn, hwn1, hwm, hwm1, hwnm, cy, cz, hcv, hsmY, hsmZ, hly, hsy0, hsy1, honey, hle, hcw]) rfl (by simp [Tryd.func21, Tryd.f21, cb, cbr, cw, hs0, hs1, hl32, hone, hs20, hs21, hl2, hone2, hw1, hw2, hwr, hi9, hlt, hsel, cp, cpr, htn, htm, hwn, hwn1, hwm, hwm1, hwnm, cy, cz, hcv, hsmY, hsmZ, hly, hsy0, hsy1, honey, hle, hcw]; constructor <;> rfl) ?_
        refine FSem.mono (encode_s 29216480 zb hBz hokz (by decide) hp8) ?_
        rintro _s5 M7 ⟨hA3, hR3, hW3, hN3⟩
        have hkk := Keep.of hA3
        replace cy := hkk.cell cy
        replace cz := hkk.cell cz
        replace hBz := hBz.keep hkk
        replace hBw := hBw.keep hkk
        replace hkM := hkM.keep hkk
        have hRa := hR3
        replace hcv := conv_by hR3 _ (Keep.refl _)
        refine And.intro (lag_list (l := [14]) (by kernel_rfl) (lag_cons (lag_one rfl (by simp [cb, cbr, cw, hs0, hs1, hl32, hone, hs20, hs21, hl2, hone2, hw1, hw2, hwr, hi9, hlt, hsel, cp, cpr, htn, htm, hwn, hwn1, hwm, hwm1, hwnm, cy, cz, hcv, hsmY, hsmZ, hly, hsy0, hsy1, honey, hle, hcw]; constructor <;> rfl) rfl (by simp [cb, cbr, cw, hs0, hs1, hl32, hone, hs20, hs21, hl2, hone2, hw1, hw2, hwr, hi9, hlt, hsel, cp, cpr, htn, htm, hwn, hwn1, hwm, hwm1, hwnm, cy, cz, hcv, hsmY, hsmZ, hly, hsy0, hsy1, honey, hle, hcw]) (by simp [sameL, sameV_agg, sameV_int, sameV_bool, sameV_str, sameV_ptr, sameV_sl, sameV_map, same1_int, same1_bool, same1_str, same1_ptr, same1_sl, same1_map, cb, cbr, cw, hs0, hs1, hl32, hone, hs20, hs21, hl2, hone2, hw1, hw2, hwr, hi9, hlt, hsel, cp, cpr, htn, htm, hwn, hwn1, hwm, hwm1, hwnm, cy, cz, hcv, hsmY, hsmZ, hly, hsy0, hsy1, honey, hle, hcw]) rfl) rfl)) ?_
        refine XK.run (rest := [15, 16, 17, 18, 19]) [13] (by kernel_rfl) (by simp [cb, cbr, cw, hs0, hs1, hl32, hone, hs20, hs21, hl2, hone2, hw1, hw2, hwr, hi9, hlt, hsel, cp, cpr, htn, htm, hwn, hwn1, hwm, hwm1, hwnm, cy, cz, hcv, hsmY, hsmZ, hly, hsy0, hsy1, honey, hle, hcw]; constructor <;> rfl) ?_
        refine XK.call rfl (by simp [cb, cbr, cw, hs0, hs1, hl32, hone, hs20, hs21, hl2, hone2, hw1, hw2, hwr, hi9, hlt, hsel, cp, cpr, htn, htm, hwn, hwn1, hwm, hwm1, hwnm, cy, cz, hcv, hsmY, hsmZ, hly, hsy0, hsy1, honey, hle, hcw]) rfl (by simp [Tryd.func21, Tryd.f21, cb, cbr, cw, hs0, hs1, hl32, hone, hs20, hs21, hl2, hone2, hw1, hw2, hwr, hi9, hlt, hsel, cp, cpr, htn, htm, hwn, hwn1, hwm, hwm1, hwnm, cy, cz, hcv, hsmY, hsmZ, hly, hsy0, hsy1, honey, hle, hcw]; constructor <;> rfl) ?_
        refine FSem.mono (encode_s 29216480 zb hBw hokz (by decide) hp8) ?_
        rintro _s5 M7 ⟨hA3, hR3, hW3, hN3⟩
        have hkk := Keep.of hA3
        replace hkM := hkM.keep hkk
        replace hcv := conv_by hRa _ hkk
        replace hcw := conv_by hR3 _ (Keep.refl _)
        refine And.intro (lag_list (l := [13]) (by kernel_rfl) (lag_cons (lag_one rfl (by simp [cb, cbr, cw, hs0, hs1, hl32, hone, hs20, hs21, hl2, hone2, hw1, hw2, hwr, hi9, hlt, hsel, cp, cpr, htn, htm, hwn, hwn1, hwm, hwm1, hwnm, cy, cz, hcv, hsmY, hsmZ, hly, hsy0, hsy1, honey, hle, hcw]; constructor <;> rfl) rfl (by simp [cb, cbr, cw, hs0, hs1, hl32, hone, hs20, hs21, hl2, hone2, hw1, hw2, hwr, hi9, hlt, hsel, cp, cpr, htn, htm, hwn, hwn1, hwm, hwm1, hwnm, cy, cz, hcv, hsmY, hsmZ, hly, hsy0, hsy1, honey, hle, hcw]) (by simp [sameL, sameV_agg, sameV_int, sameV_bool, sameV_str, sameV_ptr, sameV_sl, sameV_map, same1_int, same1_bool, same1_str, same1_ptr, same1_sl, same1_map, cb, cbr, cw, hs0, hs1, hl32, hone, hs20, hs21, hl2, hone2, hw1, hw2, hwr, hi9, hlt, hsel, cp, cpr, htn, htm, hwn, hwn1, hwm, hwm1, hwnm, cy, cz, hcv, hsmY, hsmZ, hly, hsy0, hsy1, honey, hle, hcw]) rfl) rfl)) ?_
        refine XK.run (rest := [18, 19]) [16, 17] (by kernel_rfl) (by simp [cb, cbr, cw, hs0, hs1, hl32, hone, hs20, hs21, hl2, hone2, hw1, hw2, hwr, hi9, hlt, hsel, cp, cpr, htn, htm, hwn, hwn1, hwm, hwm1, hwnm, cy, cz, hcv, hsmY, hsmZ, hly, hsy0, hsy1, honey, hle, hcw]; constructor <;> rfl) ?_
        refine XK.run (rest := [19]) [18] (by kernel_rfl) (by simp [cb, cbr, cw, hs0, hs1, hl32, hone, hs20, hs21, hl2, hone2, hw1, hw2, hwr, hi9, hlt, hsel, cp, cpr, htn, htm, hwn, hwn1, hwm, hwm1, hwnm, cy, cz, hcv, hsmY, hsmZ, hly, hsy0, hsy1, honey, hle, hcw]; constructor <;> rfl) ?_
        refine XK.one rfl (by simp [cb, cbr, cw, hs0, hs1, hl32, hone, hs20, hs21, hl2, hone2, hw1, hw2, hwr, hi9, hlt, hsel, cp, cpr, htn, htm, hwn, hwn1, hwm, hwm1, hwnm, cy, cz, hcv, hsmY, hsmZ, hly, hsy0, hsy1, honey, hle, hcw]) rfl (by simp [cb, cbr, cw, hs0, hs1, hl32, hone, hs20, hs21, hl2, hone2, hw1, hw2, hwr, hi9, hlt, hsel, cp, cpr, htn, htm, hwn, hwn1, hwm, hwm1, hwnm, cy, cz, hcv, hsmY, hsmZ, hly, hsy0, hsy1, honey, hle, hcw]; constructor <;> rfl) (lag_list (l := []) (by kernel_rfl) rfl) ?_
        refine XK.nil ?_
        refine DK.ret ?_
        refine And.intro (Or.inr rfl) ?_
        refine ⟨_, by simp [absAnswer, absResults, absResult, Tryd.f8]; rfl, ?_⟩
        exact ⟨hkM.ext, by simp, by simp⟩
      try simp only [h]
      replace h := Fa.out h
      cases h
    try simp only [h]
    replace h := Fa.out h
    cases h
  try simp only [h]
  replace h := Fa.out h
  cases h
end Go.Den
set_option linter.unusedVariables false
set_option maxRecDepth 100000
namespace Go.Den
open Go Go.Proofs
def ladCells : List Value := [.int .i64 1, .int .i64 3, .int .i64 7]
def phi1 (sl : Option (Nat × Nat)) : Ren := fun n => if n = 0 then some ⟨0, 0, 3, true⟩ else if n = 1 then sl.map (fun q => ⟨q.1, q.2, 0, true⟩) else none
def mem1 (row : List Value) : Mem := [.cells true ladCells, .cells true row]
theorem mrel1 {W : World} {sl : Option (Nat × Nat)} {row : List Value} (hl : ∀ (i : Nat) (v : Value), ladCells[i]? = some v → W.cell? ⟨0, i, none⟩ = some v)
    (hr : ∀ b o, sl = some (b, o) → b < W.heap.size ∧ ∀ (i : Nat) (v : Value), row[i]? = some v → W.cell? ⟨b, o + i, none⟩ = some v ∧ flat v = true) : SRel Tryd.prog [0] (phi1 sl) (mem1 row) W := by
  have h0 := hl 0 _ rfl
  refine ⟨⟨fun n l hn => ?_, fun n l k hn hk => ?_, fun n m l l' k k' hn hm hk hk' hw _ _ => ?_⟩, fun g hg => ?_⟩
  · unfold phi1 at hn
    split at hn
    · rename_i e; subst e; cases hn
      exact ⟨by simp [mem1], World.block_lt_of_cell? W _ h0⟩
    · split at hn
      · rename_i e; subst e
        cases sl with
        | none => cases hn
        | some q =>
          cases hn
          exact ⟨by simp [mem1], (hr q.1 q.2 rfl).1⟩
      · cases hn
  · unfold phi1 at hn
    split at hn
    · rename_i e; subst e; cases hn; cases hk
      refine ⟨rfl, fun i v hv => ⟨v, by simpa using hl i v hv, .flat ?_⟩, fun h => by cases h⟩
      match i, hv with
      | 0, hv => cases hv; rfl
      | 1, hv => cases hv; rfl
      | 2, hv => cases hv; rfl
      | n + 3, hv => simp [ladCells] at hv
    · split at hn
      · rename_i e; subst e
        cases sl with
        | none => cases hn
        | some q =>
          cases hn; cases hk
          exact ⟨rfl, fun i v hv => ⟨v, ((hr q.1 q.2 rfl).2 i v hv).1, .flat ((hr q.1 q.2 rfl).2 i v hv).2⟩, fun h => by cases h⟩
      · cases hn
  · have : k.wr = false := by
      unfold mem1 at hk
      match n, hk with
      | 0, hk => cases hk; rfl
      | 1, hk => cases hk; rfl
      | n + 2, hk => simp at hk
    rw [this] at hw; cases hw
  · have e : g = 0 := by simpa using hg
    subst e
    exact ⟨_, rfl, rfl, rfl⟩
theorem lad1 (row : List Value) : Lad (mem1 row) := ⟨true, rfl⟩
end Go.Den
set_option linter.unusedVariables false
set_option maxRecDepth 100000
namespace Go.Den
open Go Go.Proofs Go.Deep Go.Joins Go.ChangeShapes Go.WideShapes Go.ChangeAt Go.RowKit
end Go.Den
set_option linter.unusedVariables false
set_option maxRecDepth 100000
namespace Go.Den
open Go Go.Proofs Go.RowKit
def TB (W : World) : Prop := ∀ (i : Nat) (v : Value), ladCells[i]? = some v → W.cell? ⟨0, i, none⟩ = some v
theorem tb_of {W : World} (hT : Lib.TabIs Tryd.prog W "paybook/cycle.ladder" .i64 [1, 3, 7]) : TB W := by
  intro i v hv
  have hi : i < 3 := (List.getElem?_eq_some_iff.1 hv).1
  have hc := hT.cell (g := 0) (by kernel_rfl) i hi
  rw [hc]
  match i, hv with
  | 0, hv => cases hv; rfl
  | 1, hv => cases hv; rfl
  | 2, hv => cases hv; rfl
  | n + 3, hv => simp [ladCells] at hv
end Go.Den
set_option linter.unusedVariables false
set_option maxRecDepth 100000
namespace Go.Den
open Go Go.Proofs Go.RowKit
theorem partsCalls (a0 : Int) (a1 : Int) (a2 : Int) (a3 : Int) (a4 : Int) (a5 : Int) (W : World) (w0 : (Lit.int .u16 a0).wf = true) (w1 : (Lit.int .u8 a1).wf = true) (w2 : (Lit.int .u8 a2).wf = true) (w3 : (Lit.int .u8 a3).wf = true) (w4 : (Lit.int .u8 a4).wf = true) (w5 : (Lit.int .u8 a5).wf = true) (hT : TB W) :
    Calls Tryd.prog 8 #[.int .u16 a0, .int .u8 a1, .int .u8 a2, .int .u8 a3, .int .u8 a4, .int .u8 a5] W fun e W' => e = .returned (.bool true) ∧ RowKit.Below W.heap.size W W' := by
  have b0 := bounds_u16 w0
  have b1 := bounds_u8 w1
  have b2 := bounds_u8 w2
  have b3 := bounds_u8 w3
  have b4 := bounds_u8 w4
  have b5 := bounds_u8 w5
  have hS := mrel1 (sl := none) (row := []) hT (fun b o e => by cases e)
  refine FSem.law (x := .bool true) (FSem.mono (parts_s a0 a1 a2 a3 a4 a5 (by omega) (by omega) (by omega) (by omega) (by omega) (by omega) (by omega) (by omega) (by omega) (by omega) (by omega) (by omega) (lad1 _)) fun v H' h => h.1) rfl hS ?_ ?_
  · refine ⟨rfl, fun i v u hv hu => ?_⟩
    match i, hv, hu with
    | 0, hv, hu => cases hv; cases hu; exact .flat rfl
    | 1, hv, hu => cases hv; cases hu; exact .flat rfl
    | 2, hv, hu => cases hv; cases hu; exact .flat rfl
    | 3, hv, hu => cases hv; cases hu; exact .flat rfl
    | 4, hv, hu => cases hv; cases hu; exact .flat rfl
    | 5, hv, hu => cases hv; cases hu; exact .flat rfl
    | n + 6, hv, hu => simp at hv
  · intro n k hk
    match n, hk with
    | 0, hk => cases hk; rfl
    | 1, hk => cases hk; rfl
    | n + 2, hk => simp [mem1] at hk
end Go.Den
