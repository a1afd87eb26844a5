/- A part of the proof. -/
import Derived.KernelRfl
import Derived.Test.YteclckfcniigjaaDoorA4
set_option linter.all false
namespace Go.Den
open Go Go.Proofs
set_option maxRecDepth 100000
set_option maxHeartbeats 1000000
set_option linter.all false
attribute [local simp] evOps evOp absOp absBox absLoad absStore absField absIndexAddr absCells absBinOp absBin absInt absShift absUn absPick absNil absExtract absPlaces Instr.fill absBuiltin absMinMax plainV plainT allA flat cells_agg cells_int cells_bool cells_str cells_ptr cells_sl cells_map one_int one_bool one_str one_ptr one_sl one_map Act.eval Act.put Region.wanted yielded absCall TypeDesc.isRow
attribute [local simp high] bk_t bk_p bk_take bk_row BkL_len sp_bk sp_t sp_p
attribute [local simp] sp_nil sp_0 sp_s List.length_set
theorem bpass_s (k : Nat) (b : Bk) (n : Int) {sp : Value} {l : List As} {H : Mem} (hB : BkAt H sp l b) (hk : BOk k b) (hk3 : k ≤ 300000000) (hu : UnOk b.pls) : FSem Tryd.prog [0] 32 #[bkv b.today sp l, .int .i64 n] H fun v H' => BkRes H sp (passB b n) v H' := by
  refine FSem.ofK Tryd.func32 rfl ?_
  refine DK.from (b' := ⟨#[bkv b.today sp l, .int .i64 n, undef, undef, undef, undef, undef, undef, undef, undef, undef, undef, undef, undef, undef, undef, undef, undef, undef, undef, undef, undef, undef, undef, undef, undef, undef, undef, undef, undef, undef, undef, undef, undef, undef, undef, undef, undef, undef, undef, undef, undef, undef, undef, undef, undef, undef, undef, undef, undef, undef, undef, undef, undef, undef, undef, undef, undef], []⟩) (by kernel_rfl) ?_
  have m0 := True.intro
  have m1 := True.intro
  have qq := True.intro
  have hs0 := True.intro
  have hs1 := True.intro
  have hli := True.intro
  have hi0 := True.intro
  have hi1 := True.intro
  have hi3 := True.intro
  have hpt := True.intro
  have hcc := True.intro
  have hcd := True.intro
  have hce := True.intro
  have hwr := True.intro
  have hspl := True.intro
  obtain ⟨hsp0, hsp1⟩ := hB.pls.cells
  have hone := bk_ones hsp1
  have hl32 := hB.len
  have hB32 := hk.len
  refine DK.seq ?_
  refine DK.region (is := [0, 1, 2]) (by kernel_rfl) rfl ?_
  refine WK.run (rest := []) [0, 1, 2] (by simp [m0, m1, qq, hs0, hs1, hone, hsp0, hsp1, hl32, hli, hi0, hi1, hi3, hpt, hcc, hcd, hce, hwr, hspl, absIndex]; constructor <;> rfl) ?_
  refine WK.nil ?_
  refine DK.abs (fun M0 => AtM H [BkL b.today sp l, BkL 0 (.slice none 0 0) zL] M0) (AtM.start H [] [_, _]) ?_
  try clear hM
  rintro M0 hM
  replace m0 := hM.own 0 (by simp)
  replace m1 := hM.own 1 (by simp)
  simp only [List.getElem_cons_zero, List.getElem_cons_succ, Nat.add_zero] at m0 m1
  replace qq := hM.q2
  refine DK.scope ?_
  refine DK.seq ?_
  refine DK.seq ?_
  refine DK.region (is := [0, 1, 2, 3, 4]) (by kernel_rfl) rfl ?_
  refine WK.run (rest := []) [0, 1, 2, 3, 4] (by simp [m0, m1, qq, hs0, hs1, hone, hsp0, hsp1, hl32, hli, hi0, hi1, hi3, hpt, hcc, hcd, hce, hwr, hspl, absIndex]; constructor <;> rfl) ?_
  refine WK.nil ?_
  refine DK.test rfl rfl (fun h => ?_) (fun h => ?_)
  · try simp only [h]
    replace h := Tr.out h
    refine DK.seq ?_
    refine DK.region (is := [0, 1, 2]) (by kernel_rfl) rfl ?_
    refine WK.run (rest := []) [0, 1, 2] (by simp [m0, m1, qq, hs0, hs1, hone, hsp0, hsp1, hl32, hli, hi0, hi1, hi3, hpt, hcc, hcd, hce, hwr, hspl, absIndex]; constructor <;> rfl) ?_
    refine WK.nil ?_
    refine DK.abs (fun MZ => AtM H [BkL b.today sp l, BkL 0 (.slice none 0 0) zL] MZ) (hM.set (i := 1) (by simp) _) ?_
    try clear hM
    rintro MZ hM
    replace m0 := hM.own 0 (by simp)
    replace m1 := hM.own 1 (by simp)
    simp only [List.getElem_cons_zero, List.getElem_cons_succ, Nat.add_zero] at m0 m1
    replace qq := hM.q2
    have hres : passB b n = (zeroB, 6) := if_pos ‹_›
    have hBk := BkAt.zero MZ
    refine DK.ret ?_
    refine And.intro (Or.inr rfl) ?_
    refine ⟨_, by simp [absAnswer, absResults, absResult, Tryd.f32, m0, m1, qq, hs0, hs1, hsp0, hsp1, hl32, hli, hone]; rfl, ?_⟩
    exact ⟨_, _, by rw [hres]; rfl, by rw [hres]; exact hBk, hM.keep, by intro c hc; first | exact .inl hc | cases hc⟩
  try simp only [h]
  replace h := Fa.out h
  refine DK.skip ?_
  refine DK.seq ?_
  refine DK.region (is := [0, 1, 2, 3, 4, 5]) (by kernel_rfl) rfl ?_
  refine WK.run (rest := []) [0, 1, 2, 3, 4, 5] (by simp [m0, m1, qq, hs0, hs1, hone, hsp0, hsp1, hl32, hli, hi0, hi1, hi3, hpt, hcc, hcd, hce, hwr, hspl, absIndex]; constructor <;> rfl) ?_
  refine WK.nil ?_
  refine DK.abs (fun M1 => AtM H [BkL (IntKind.i64.wrap (b.today + n)) sp l, BkL 0 (.slice none 0 0) zL] M1) (hM.set (i := 0) (by simp) _) ?_
  try clear hM
  rintro M1 hM
  replace m0 := hM.own 0 (by simp)
  replace m1 := hM.own 1 (by simp)
  simp only [List.getElem_cons_zero, List.getElem_cons_succ, Nat.add_zero] at m0 m1
  replace qq := hM.q2
  refine DK.seq ?_
  refine DK.label ?_
  refine DK.seq ?_
  refine DK.seq ?_
  refine DK.region (is := [0, 1, 2]) (by kernel_rfl) rfl ?_
  refine WK.run (rest := []) [0, 1, 2] (by simp [m0, m1, qq, hs0, hs1, hone, hsp0, hsp1, hl32, hli, hi0, hi1, hi3, hpt, hcc, hcd, hce, hwr, hspl, absIndex]; constructor <;> rfl) ?_
  refine WK.nil ?_
  refine DK.block ?_
  refine DK.loopG [5, 6, 7, 8, 9, 10, 11, 25, 26, 27, 28, 29, 30, 31, 32, 33, 34, 35, 36, 37, 38, 39, 40, 41, 42, 43, 44, 45, 46, 47, 48, 49, 50, 51, 52, 53, 54, 55, 56] (fun fl vs H' => ∃ (i : Int) (li : List As) (dn : List Ac) (j5 j6 j7 j8 j9 j10 j11 j26 j27 j28 j29 j30 j31 j32 j33 j34 j35 j36 j37 j38 j39 j40 j41 j42 j43 j44 j45 j46 j47 j48 j49 j50 j51 j52 j53 j54 j55 j56 : Value), vs = [j5, j6, j7, j8, j9, j10, j11, .int .i64 i, j26, j27, j28, j29, j30, j31, j32, j33, j34, j35, j36, j37, j38, j39, j40, j41, j42, j43, j44, j45, j46, j47, j48, j49, j50, j51, j52, j53, j54, j55, j56] ∧ (AtM H [BkL (IntKind.i64.wrap (b.today + n)) sp li, BkL 0 (.slice none 0 0) zL] H' ∧ ∀ y ∈ li, OpenAt H' y.s y.a.op) ∧ 0 ≤ i ∧ i ≤ 32 ∧ li.length = 32 ∧ li.map As.a = dn ++ b.subs.drop i.toNat ∧ dn.length = i.toNat ∧ passL b.pls (IntKind.i64.wrap (b.today + n)) b.subs = passJ dn (passL b.pls (IntKind.i64.wrap (b.today + n)) (b.subs.drop i.toNat)) ∧ (∀ y ∈ li, blkOf y.s ≠ some H.length ∧ blkOf y.s ≠ some (H.length + 1)) ∧ fl = (32 - i).toNat) (32) (by kernel_rfl) ?_ ?_
  · refine ⟨_, l, [], _, _, _, _, _, _, _, _, _, _, _, _, _, _, _, _, _, _, _, _, _, _, _, _, _, _, _, _, _, _, _, _, _, _, _, _, _, _, rfl, ?_⟩
    exact ⟨⟨hM, fun y hy => (hB.op y hy).keep hM.keep⟩, by omega, by omega, hl32, by simpa using hB.map, rfl, passJ_0 _ _ _, fun y hy => ⟨(hB.op y hy).ne (Nat.le_refl _), (hB.op y hy).ne (by omega)⟩, by omega⟩
  rintro fl _ M ⟨i, li, dn, j5, j6, j7, j8, j9, j10, j11, j26, j27, j28, j29, j30, j31, j32, j33, j34, j35, j36, j37, j38, j39, j40, j41, j42, j43, j44, j45, j46, j47, j48, j49, j50, j51, j52, j53, j54, j55, j56, rfl, hf⟩
  try clear hM
  obtain ⟨⟨hM, hop⟩, hj0, hj1, hli1, hmp, hdn, hpj, hnn, hfl⟩ := hf
  replace hli := hli1
  replace m0 := hM.own 0 (by simp)
  replace m1 := hM.own 1 (by simp)
  simp only [List.getElem_cons_zero, List.getElem_cons_succ, Nat.add_zero] at m0 m1
  replace qq := hM.q2
  refine DK.from (by simp [setL]; exact rfl) ?_
  refine DK.seq ?_
  refine DK.region (is := [0]) (by kernel_rfl) rfl ?_
  refine WK.run (rest := []) [0] (by simp [m0, m1, qq, hs0, hs1, hone, hsp0, hsp1, hl32, hli, hi0, hi1, hi3, hpt, hcc, hcd, hce, hwr, hspl, absIndex]; constructor <;> rfl) ?_
  refine WK.nil ?_
  refine DK.seq ?_
  refine DK.test rfl rfl (fun h => ?_) (fun h => ?_)
  · try simp only [h]
    replace h := Tr.out h
    replace hi0 : 0 ≤ i := hj0
    replace hi1 : i < 32 := h
    replace hi3 : 2 + i.toNat * 13 ≤ 405 := by omega
    replace hwr : IntKind.i64.wrap (i + 1) = i + 1 := wrap_in _ (by omega) (by omega)
    obtain ⟨x, hx1, hxa, hxb, hxl, hxo, hpt1⟩ := hB.nth (i := i.toNat) (by omega)
    replace hpt := hpt1
    replace hs0 := hxo.cells.1
    replace hs1 := hxo.cells.2
    have hdr : b.subs.drop i.toNat = x.a :: b.subs.drop (i.toNat + 1) := by rw [List.drop_eq_getElem_cons hx1, hxa]
    refine DK.skip ?_
    refine DK.seq ?_
    refine DK.block ?_
    refine DK.seq ?_
    refine DK.region (is := [0, 1, 2, 3, 4]) (by kernel_rfl) rfl ?_
    refine WK.run (rest := []) [0, 1, 2, 3, 4] (by simp [m0, m1, qq, hs0, hs1, hone, hsp0, hsp1, hl32, hli, hi0, hi1, hi3, hpt, hcc, hcd, hce, hwr, hspl, absIndex]; constructor <;> rfl) ?_
    refine WK.nil ?_
    refine DK.abs (fun MA => AtM H [BkL (IntKind.i64.wrap (b.today + n)) sp li, BkL 0 (.slice none 0 0) zL] MA ∧ MA[M.length]? = some (.cells false (x.a.l x.s)) ∧ (∀ y ∈ li, OpenAt MA y.s y.a.op)) ⟨hM.on (Keep.app _ _), by simp, fun y hy => (hop y hy).app _⟩ ?_
    try clear hM
    try clear hcc
    try clear hop
    rintro MA ⟨hM, hcc, hop⟩
    replace m0 := hM.own 0 (by simp)
    replace m1 := hM.own 1 (by simp)
    simp only [List.getElem_cons_zero, List.getElem_cons_succ, Nat.add_zero] at m0 m1
    replace qq := hM.q2
    refine DK.seq ?_
    refine DK.seq ?_
    refine DK.region (is := [0, 1, 2]) (by kernel_rfl) rfl ?_
    refine WK.run (rest := []) [0, 1, 2] (by simp [m0, m1, qq, hs0, hs1, hone, hsp0, hsp1, hl32, hli, hi0, hi1, hi3, hpt, hcc, hcd, hce, hwr, hspl, absIndex]; constructor <;> rfl) ?_
    refine WK.nil ?_
    refine DK.test rfl rfl (fun h => ?_) (fun h => ?_)
    · try simp only [h]
      replace h := Tr.out h
      refine DK.exit ?_
      refine DK.region (is := [0, 1]) (by kernel_rfl) rfl ?_
      refine WK.run (rest := []) [0, 1] (by simp [m0, m1, qq, hs0, hs1, hone, hsp0, hsp1, hl32, hli, hi0, hi1, hi3, hpt, hcc, hcd, hce, hwr, hspl, absIndex]; constructor <;> rfl) ?_
      refine WK.nil ?_
      refine ⟨by kernel_rfl, (32 - (i + 1)).toNat, ?_, _, li, dn ++ [x.a], _, _, _, _, _, _, _, _, _, _, _, _, _, _, _, _, _, _, _, _, _, _, _, _, _, _, _, _, _, _, _, _, _, _, _, _, _, _, rfl, ?_⟩
      · omega
      · rw [hdr, passJ_skip ‹_›] at hpj
        rw [show (i + 1).toNat = i.toNat + 1 by omega]
        exact ⟨⟨hM, hop⟩, by omega, by omega, hli, by rw [hmp, hdr]; simp, by simp [hdn], hpj, hnn, rfl⟩
    try simp only [h]
    replace h := Fa.out h
    refine DK.skip ?_
    refine DK.seq ?_
    refine DK.region (is := [0, 1, 2, 3, 4, 5, 6, 7, 8, 9, 10]) (by kernel_rfl) rfl ?_
    refine WK.run (rest := [4, 5, 6, 7, 8, 9, 10]) [0, 1, 2, 3] (by simp [m0, m1, qq, hs0, hs1, hone, hsp0, hsp1, hl32, hli, hi0, hi1, hi3, hpt, hcc, hcd, hce, hwr, hspl, absIndex]; constructor <;> rfl) ?_
    refine WK.call rfl (by simp [m0, m1, qq, hs0, hs1, hone, hsp0, hsp1, hl32, hli, hi0, hi1, hi3, hpt, hcc, hcd, hce, hwr, hspl, absIndex]) (by simp [Tryd.func55, Tryd.f55, m0, m1, qq, hs0, hs1, hone, hsp0, hsp1, hl32, hli, hi0, hi1, hi3, hpt, hcc, hcd, hce, hwr, hspl, absIndex]; constructor <;> rfl) ?_
    refine FSem.mono (getp_g b.pls x.a.pl (hB.pls.keep hM.keep)) ?_
    rintro _ Hq ⟨p, e1, rfl, hgp, hq⟩
    subst hq
    refine WK.run (rest := []) [5, 6, 7, 8, 9, 10] (by simp [m0, m1, qq, hs0, hs1, hone, hsp0, hsp1, hl32, hli, hi0, hi1, hi3, hpt, hcc, hcd, hce, hwr, hspl, absIndex]; constructor <;> rfl) ?_
    refine WK.nil ?_
    refine DK.abs (fun MB => AtM H [BkL (IntKind.i64.wrap (b.today + n)) sp li, BkL 0 (.slice none 0 0) zL] MB ∧ MB[MA.length]? = some (.cells false p.l) ∧ MB[M.length]? = some (.cells false (x.a.l x.s)) ∧ (∀ y ∈ li, OpenAt MB y.s y.a.op)) ⟨hM.on (Keep.app _ _), by simp, by rw [List.getElem?_append_left (List.getElem?_eq_some_iff.1 hcc).1]; exact hcc, fun y hy => (hop y hy).app _⟩ ?_
    try clear hM
    try clear hcd
    try clear hcc
    try clear hop
    rintro MB ⟨hM, hcd, hcc, hop⟩
    replace m0 := hM.own 0 (by simp)
    replace m1 := hM.own 1 (by simp)
    simp only [List.getElem_cons_zero, List.getElem_cons_succ, Nat.add_zero] at m0 m1
    replace qq := hM.q2
    replace hs0 := hxo.cells.1
    replace hs1 := hxo.cells.2
    refine DK.seq ?_
    refine DK.region (is := [0, 1, 2, 3, 4, 5, 6, 7, 8, 9, 10]) (by kernel_rfl) rfl ?_
    refine WK.run (rest := [4, 5, 6, 7, 8, 9, 10]) [0, 1, 2, 3] (by simp [m0, m1, qq, hs0, hs1, hone, hsp0, hsp1, hl32, hli, hi0, hi1, hi3, hpt, hcc, hcd, hce, hwr, hspl, absIndex]; constructor <;> rfl) ?_
    refine WK.call rfl (by simp [m0, m1, qq, hs0, hs1, hone, hsp0, hsp1, hl32, hli, hi0, hi1, hi3, hpt, hcc, hcd, hce, hwr, hspl, absIndex]) (by simp [Tryd.func56, Tryd.f56, m0, m1, qq, hs0, hs1, hone, hsp0, hsp1, hl32, hli, hi0, hi1, hi3, hpt, hcc, hcd, hce, hwr, hspl, absIndex]; constructor <;> rfl) ?_
    refine FSem.mono (day_g x.a p (IntKind.i64.wrap (b.today + n)) (by have := getP_un hu x.a.pl; rw [hgp] at this; exact this) (hxo.keep hM.keep) (by have := hk.subs _ (hxa ▸ List.getElem_mem hx1); have := dayN_le this.1; omega)) ?_
    rintro _ M3 ⟨x2, e2, s2, rfl, hdy, hA, hO2, hF2⟩
    have hMB := hM
    replace hM := hM.on (Keep.of hA)
    replace hop := fun y hy => (hop y hy).keep (Keep.of hA)
    replace m0 := hM.own 0 (by simp)
    replace m1 := hM.own 1 (by simp)
    simp only [List.getElem_cons_zero, List.getElem_cons_succ, Nat.add_zero] at m0 m1
    replace qq := hM.q2
    replace hs0 := hO2.cells.1
    replace hs1 := hO2.cells.2
    have hspl1 := sp_at (t := (IntKind.i64.wrap (b.today + n))) (sp := sp) (l := li) (i := i.toNat) (by omega) ⟨x2, s2, hs1⟩
    replace hspl := hspl1
    simp only [Ac.l] at hspl
    refine WK.run (rest := []) [5, 6, 7, 8, 9, 10] (by simp [m0, m1, qq, hs0, hs1, hone, hsp0, hsp1, hl32, hli, hi0, hi1, hi3, hpt, hcc, hcd, hce, hwr, hspl, absIndex]; constructor <;> rfl) ?_
    refine WK.nil ?_
    refine DK.abs (fun MC => AtM H [BkL (IntKind.i64.wrap (b.today + n)) sp li, BkL 0 (.slice none 0 0) zL] MC ∧ MC[M3.length]? = some (.cells false (x2.l s2)) ∧ OpenAt MC s2 x2.op ∧ (∀ y ∈ li, OpenAt MC y.s y.a.op)) ⟨hM.on (Keep.app _ _), by simp, hO2.app _, fun y hy => (hop y hy).app _⟩ ?_
    try clear hM
    try clear hce
    try clear hO2
    try clear hop
    rintro MC ⟨hM, hce, hO2, hop⟩
    replace m0 := hM.own 0 (by simp)
    replace m1 := hM.own 1 (by simp)
    simp only [List.getElem_cons_zero, List.getElem_cons_succ, Nat.add_zero] at m0 m1
    replace qq := hM.q2
    refine DK.seq ?_
    refine DK.seq ?_
    refine DK.region (is := [0, 1]) (by kernel_rfl) rfl ?_
    refine WK.run (rest := []) [0, 1] (by simp [m0, m1, qq, hs0, hs1, hone, hsp0, hsp1, hl32, hli, hi0, hi1, hi3, hpt, hcc, hcd, hce, hwr, hspl, absIndex]; constructor <;> rfl) ?_
    refine WK.nil ?_
    refine DK.test rfl rfl (fun h => ?_) (fun h => ?_)
    · try simp only [h]
      replace h := Tr.out h
      refine DK.seq ?_
      refine DK.region (is := [0, 1, 2, 3]) (by kernel_rfl) rfl ?_
      refine WK.run (rest := []) [0, 1, 2, 3] (by simp [m0, m1, qq, hs0, hs1, hone, hsp0, hsp1, hl32, hli, hi0, hi1, hi3, hpt, hcc, hcd, hce, hwr, hspl, absIndex]; constructor <;> rfl) ?_
      refine WK.nil ?_
      refine DK.abs (fun MZ => AtM H [BkL (IntKind.i64.wrap (b.today + n)) sp li, BkL 0 (.slice none 0 0) zL] MZ) (hM.set (i := 1) (by simp) _) ?_
      try clear hM
      rintro MZ hM
      replace m0 := hM.own 0 (by simp)
      replace m1 := hM.own 1 (by simp)
      simp only [List.getElem_cons_zero, List.getElem_cons_succ, Nat.add_zero] at m0 m1
      replace qq := hM.q2
      have hres : passB b n = (zeroB, e2) := by
        have e := passJ_err (done := dn) (rest := b.subs.drop (i.toNat + 1)) ‹¬x.a.st = 0› (by rw [hgp]; exact hdy) ‹e2 ≠ 0›
        rw [hdr, e] at hpj
        unfold passB; rw [if_neg ‹_›]; simp only [hpj]; rw [if_pos ‹_›]
      have hBk := BkAt.zero MZ
      refine DK.ret ?_
      refine And.intro (Or.inr rfl) ?_
      refine ⟨_, by simp [absAnswer, absResults, absResult, Tryd.f32, m0, m1, qq, hs0, hs1, hsp0, hsp1, hl32, hli, hone]; rfl, ?_⟩
      exact ⟨_, _, by rw [hres]; rfl, by rw [hres]; exact hBk, hM.keep, by intro c hc; first | exact .inl hc | cases hc⟩
    try simp only [h]
    replace h := Fa.out h
    refine DK.skip ?_
    refine DK.region (is := [0, 1, 2, 3, 4]) (by kernel_rfl) rfl ?_
    refine WK.run (rest := []) [0, 1, 2, 3, 4] (by simp [m0, m1, qq, hs0, hs1, hone, hsp0, hsp1, hl32, hli, hi0, hi1, hi3, hpt, hcc, hcd, hce, hwr, hspl, absIndex]; constructor <;> rfl) ?_
    refine WK.nil ?_
    refine DK.region (is := [0, 1]) (by kernel_rfl) rfl ?_
    refine WK.run (rest := []) [0, 1] (by simp [m0, m1, qq, hs0, hs1, hone, hsp0, hsp1, hl32, hli, hi0, hi1, hi3, hpt, hcc, hcd, hce, hwr, hspl, absIndex]; constructor <;> rfl) ?_
    refine WK.nil ?_
    refine ⟨by kernel_rfl, (32 - (i + 1)).toNat, ?_, _, li.set i.toNat ⟨x2, s2, hs1⟩, dn ++ [x2], _, _, _, _, _, _, _, _, _, _, _, _, _, _, _, _, _, _, _, _, _, _, _, _, _, _, _, _, _, _, _, _, _, _, _, _, _, _, rfl, ?_⟩
    · omega
    · rw [hdr, passJ_go ‹¬x.a.st = 0› (by rw [hgp]; exact hdy) ‹e2 = 0›] at hpj
      rw [hdr] at hmp
      rw [show (i + 1).toNat = i.toNat + 1 by omega]
      have hs2n : blkOf s2 ≠ some H.length ∧ blkOf s2 ≠ some (H.length + 1) := ⟨hF2.ne (hMB.lt (i := 0) (by simp)), hF2.ne (hMB.lt (i := 1) (by simp))⟩
      refine ⟨⟨hM.set (i := 0) (by simp) _, fun y hy => ?_⟩, by omega, by omega, by rw [List.length_set]; exact hli, map_set_mid hmp hdn, by simp [hdn], hpj, fun y hy => ?_, rfl⟩
      · rcases List.mem_or_eq_of_mem_set hy with q | rfl
        · exact (hop y q).set (hnn y q).1 _
        · exact hO2.set hs2n.1 _
      · rcases List.mem_or_eq_of_mem_set hy with q | rfl
        · exact hnn y q
        · exact hs2n
  try simp only [h]
  replace h := Fa.out h
  refine DK.exit ?_
  refine DK.seq ?_
  refine DK.region (is := [0, 1, 2]) (by kernel_rfl) rfl ?_
  refine WK.run (rest := []) [0, 1, 2] (by simp [m0, m1, qq, hs0, hs1, hone, hsp0, hsp1, hl32, hli, hi0, hi1, hi3, hpt, hcc, hcd, hce, hwr, hspl, absIndex]; constructor <;> rfl) ?_
  refine WK.nil ?_
  refine DK.abs (fun MF => AtM H [BkL (IntKind.i64.wrap (b.today + n)) sp li, BkL (IntKind.i64.wrap (b.today + n)) sp li] MF ∧ (∀ y ∈ li, OpenAt MF y.s y.a.op)) ⟨hM.set (i := 1) (by simp) _, fun y hy => ((hop y hy).set (hnn y hy).2 _)⟩ ?_
  try clear hM
  try clear hop
  rintro MF ⟨hM, hop⟩
  replace m0 := hM.own 0 (by simp)
  replace m1 := hM.own 1 (by simp)
  simp only [List.getElem_cons_zero, List.getElem_cons_succ, Nat.add_zero] at m0 m1
  replace qq := hM.q2
  have hi : i = 32 := by omega
  subst hi
  have hres : passB b n = (⟨(IntKind.i64.wrap (b.today + n)), b.pls, dn⟩, 0) := by
    rw [show b.subs.drop (32 : Int).toNat = [] from List.drop_of_length_le (by rw [hB32]; decide), passJ_nil] at hpj
    unfold passB; rw [if_neg ‹_›]; simp only [hpj]; rw [if_neg (by simp)]
  have hBk : BkAt MF sp li ⟨(IntKind.i64.wrap (b.today + n)), b.pls, dn⟩ := ⟨hB.pls.keep hM.keep, by rw [hmp, List.drop_of_length_le (by rw [hB32]; decide), List.append_nil], hli, hop⟩
  refine DK.ret ?_
  refine And.intro (Or.inr rfl) ?_
  refine ⟨_, by simp [absAnswer, absResults, absResult, Tryd.f32, m0, m1, qq, hs0, hs1, hsp0, hsp1, hl32, hli, hone]; rfl, ?_⟩
  exact ⟨_, _, by rw [hres]; rfl, by rw [hres]; exact hBk, hM.keep, by intro c hc; first | exact .inl hc | cases hc⟩
end Go.Den
set_option linter.unusedVariables false
set_option maxRecDepth 100000
namespace Go.Den
open Go Go.Proofs
theorem addp_g (l : List Pl) (p : Pl) {s : Value} {H : Mem} (hR : RowAt H s l) : FSem Tryd.prog [0] 30 #[s, p.v] H fun v H' => ∃ pl k e s', v = .tuple #[s', .int .i64 k, .int .i64 e] ∧ addPl l p = (pl, k, e) ∧ RowOut H pl s' H' := by
  refine FSem.mono (addp_s l p hR) ?_
  rintro v H' ⟨s', rfl, h⟩
  exact ⟨_, _, _, s', rfl, rfl, h⟩
theorem bopen_g (k : Nat) (b : Bk) (o : Od) {sp : Value} {l : List As} {H : Mem} (hB : BkAt H sp l b) (hk : BOk k b) (hu : UnOk b.pls) (h0 : 0 ≤ o.su) (h1 : o.su < 32) : FSem Tryd.prog [0] 31 #[bkv b.today sp l, o.v] H fun v H' => ∃ x e s', v = .tuple #[Ac.v x s', .int .i64 e] ∧ openB b o = (x, e) ∧ AcOut H x H' s' := by
  refine FSem.mono (bopen_s k b o hB hk hu h0 h1) ?_
  rintro v H' ⟨s', rfl, h⟩
  exact ⟨_, _, s', rfl, rfl, h⟩
theorem bturn_g (k : Nat) (b : Bk) (a : Ac) (o : Od) {sp : Value} {l : List As} {H : Mem} (hB : BkAt H sp l b) (hk : BOk k b) (hu : UnOk b.pls) {s : Value} (hO : OpenAt H s a.op) (hn : a.op.length ≤ 1000000000000) : FSem Tryd.prog [0] 34 #[bkv b.today sp l, a.v s, o.v] H fun v H' => ∃ x e s', v = .tuple #[Ac.v x s', .int .i64 e] ∧ turnB b a o = (x, e) ∧ AcOut H x H' s' := by
  refine FSem.mono (bturn_s k b a o hB hk hu hO hn) ?_
  rintro v H' ⟨s', rfl, h⟩
  exact ⟨_, _, s', rfl, rfl, h⟩
theorem ahear_g (su : Int) (a : Ac) (n : Nt) (today : Int) {s : Value} {H : Mem} (hL : Lad H) (hO : OpenAt H s a.op) (hn : a.op.length ≤ 1000000000000) : FSem Tryd.prog [0] 33 #[.int .i64 su, a.v s, n.v, .int .i64 today] H fun v H' => ∃ x e s', v = .tuple #[Ac.v x s', .int .i64 e] ∧ hearA su a n today = (x, e) ∧ AcOut H x H' s' := by
  refine FSem.mono (ahear_s su a n today hL hO hn) ?_
  rintro v H' ⟨s', rfl, h⟩
  exact ⟨_, _, s', rfl, rfl, h⟩
theorem bpass_g (k : Nat) (b : Bk) (n : Int) {sp : Value} {l : List As} {H : Mem} (hB : BkAt H sp l b) (hk : BOk k b) (hk3 : k ≤ 300000000) (hu : UnOk b.pls) : FSem Tryd.prog [0] 32 #[bkv b.today sp l, .int .i64 n] H fun v H' => ∃ b' e sp' l', v = .tuple #[bkv b'.today sp' l', .int .i64 e] ∧ passB b n = (b', e) ∧ BkAt H' sp' l' b' ∧ l'.length = 32 ∧ sp'.oneCell' = true ∧ sp'.cells = #[sp'] ∧ Keep H H' ∧ ∀ c, blkOf sp' = some c → blkOf sp = some c ∨ H.length ≤ c := by
  refine FSem.mono (bpass_s k b n hB hk hk3 hu) ?_
  rintro v H' ⟨sp', l', rfl, h, hk, hsb⟩
  exact ⟨_, _, sp', l', rfl, rfl, h, h.len, h.pls.cells.2, h.pls.cells.1, hk, hsb⟩
def BkFree (sp : Value) (l : List As) (k : Nat) : Prop := blkOf sp ≠ some k ∧ ∀ x ∈ l, blkOf x.s ≠ some k
theorem BkAt.set {H : Mem} {sp : Value} {l : List As} {b : Bk} (h : BkAt H sp l b) {k : Nat} (hf : BkFree sp l k) (x : Blk) : BkAt (H.set k x) sp l b := ⟨h.pls.set hf.1 _, h.map, h.len, fun y hy => (h.op y hy).set (hf.2 y hy) _⟩
theorem BkAt.free {H : Mem} {sp : Value} {l : List As} {b : Bk} (h : BkAt H sp l b) {k : Nat} (hk : H.length ≤ k) : BkFree sp l k := ⟨fun e => by have := h.pls.lt e; omega, fun y hy => (h.op y hy).ne hk⟩
theorem BkFree.put {sp : Value} {l : List As} {k i : Nat} {x : As} (h : BkFree sp l k) (hx : blkOf x.s ≠ some k) : BkFree sp (l.set i x) k := ⟨h.1, fun y hy => by
  rcases List.mem_or_eq_of_mem_set hy with q | rfl
  · exact h.2 y q
  · exact hx⟩
theorem BkAt.fre {H : Mem} {sp : Value} {l : List As} {b : Bk} (h : BkAt H sp l b) {k : Nat} {ro : Bool} {vs : List Value} (hk : H[k]? = some (.cells ro vs)) (hv : vs.length % 8 ≠ 0) (hs : blkOf sp ≠ some k) : BkFree sp l k := ⟨hs, fun y hy => (h.op y hy).far hk hv⟩
theorem put_ok {b : Bk} {i : Int} {x : Ac} {e : Int} : b.put i (x, e) = if e ≠ 0 then (zeroB, e) else ({ b with subs := b.subs.set i.toNat x }, 0) := rfl
end Go.Den
namespace Go.Den
open Go Go.Proofs
set_option maxRecDepth 100000
set_option maxHeartbeats 1000000
set_option linter.all false
attribute [local simp] evOps evOp absOp absBox absLoad absStore absField absIndexAddr absCells absBinOp absBin absInt absShift absUn absPick absNil absExtract absPlaces Instr.fill absBuiltin absMinMax plainV plainT allA flat cells_agg cells_int cells_bool cells_str cells_ptr cells_sl cells_map one_int one_bool one_str one_ptr one_sl one_map Act.eval Act.put Region.wanted yielded absCall TypeDesc.isRow
attribute [local simp high] bk_t bk_p bk_take bk_row BkL_len sp_bk sp_t sp_p
attribute [local simp] sp_nil sp_0 sp_s List.length_set
theorem step_s (k : Nat) (b : Bk) (o : Od) {sp : Value} {l : List As} {H : Mem} (hB : BkAt H sp l b) (hL : Lad H) (hk : BOk k b) (hk3 : k ≤ 300000000) (hu : UnOk b.pls) : FSem Tryd.prog [0] 16 #[bkv b.today sp l, o.v] H fun v H' => BkRes H sp (stepB b o) v H' := by
  refine FSem.ofK Tryd.func16 rfl ?_
  refine DK.from (b' := ⟨#[bkv b.today sp l, o.v, undef, undef, undef, undef, undef, undef, undef, undef, undef, undef, undef, undef, undef, undef, undef, undef, undef, undef, undef, undef, undef, undef, undef, undef, undef, undef, undef, undef, undef, undef, undef, undef, undef, undef, undef, undef, undef, undef, undef, undef, undef, undef, undef, undef, undef, undef, undef, undef, undef, undef, undef, undef, undef, undef, undef, undef, undef, undef, undef, undef, undef, undef, undef, undef, undef, undef, undef, undef, undef, undef, undef, undef, undef, undef, undef, undef, undef, undef, undef, undef, undef, undef, undef, undef, undef, undef, undef, undef, undef, undef, undef, undef, undef, undef, undef, undef], []⟩) (by kernel_rfl) ?_
  have m0 := True.intro
  have m1 := True.intro
  have m2 := True.intro
  have qq := True.intro
  have hs0 := True.intro
  have hs1 := True.intro
  have hi0 := True.intro
  have hi1 := True.intro
  have hi2 := True.intro
  have hi3 := True.intro
  have hst := True.intro
  have htk := True.intro
  have hspl := True.intro
  have hcc := True.intro
  have hst2 := True.intro
  have hsp2 := True.intro
  have hsp3 := True.intro
  have hone2 := True.intro
  obtain ⟨hsp0, hsp1⟩ := hB.pls.cells
  have hone := bk_ones hsp1
  have hl32 := hB.len
  refine DK.seq ?_
  refine DK.region (is := [0, 1, 2, 3]) (by kernel_rfl) rfl ?_
  refine WK.run (rest := []) [0, 1, 2, 3] (by simp [m0, m1, m2, qq, hs0, hs1, hone, hsp0, hsp1, hl32, hi0, hi1, hi2, hi3, hst, htk, hspl, hcc, hst2, hsp2, hsp3, hone2]; constructor <;> rfl) ?_
  refine WK.nil ?_
  refine DK.abs (fun M0 => AtM H [BkL b.today sp l, o.l, BkL 0 (.slice none 0 0) zL] M0) (AtM.start H [] [_, _, _]) ?_
  try clear hM
  rintro M0 hM
  replace m0 := hM.own 0 (by simp)
  replace m1 := hM.own 1 (by simp)
  replace m2 := hM.own 2 (by simp)
  simp only [List.getElem_cons_zero, List.getElem_cons_succ, Nat.add_zero] at m0 m1 m2
  replace qq := hM.q3
  refine DK.seq ?_
  refine DK.seq ?_
  refine DK.region (is := [0, 1, 2]) (by kernel_rfl) rfl ?_
  refine WK.run (rest := [1, 2]) [0] (by simp [m0, m1, m2, qq, hs0, hs1, hone, hsp0, hsp1, hl32, hi0, hi1, hi2, hi3, hst, htk, hspl, hcc, hst2, hsp2, hsp3, hone2]; constructor <;> rfl) ?_
  refine WK.call rfl (by simp [m0, m1, m2, qq, hs0, hs1, hone, hsp0, hsp1, hl32, hi0, hi1, hi2, hi3, hst, htk, hspl, hcc, hst2, hsp2, hsp3, hone2]) (by simp [Tryd.func15, Tryd.f15, m0, m1, m2, qq, hs0, hs1, hone, hsp0, hsp1, hl32, hi0, hi1, hi2, hi3, hst, htk, hspl, hcc, hst2, hsp2, hsp3, hone2]; constructor <;> rfl) ?_
  refine FSem.mono (oright_g o _) ?_
  rintro _ Hq ⟨rfl, hq⟩
  subst hq
  refine WK.run (rest := []) [2] (by simp [m0, m1, m2, qq, hs0, hs1, hone, hsp0, hsp1, hl32, hi0, hi1, hi2, hi3, hst, htk, hspl, hcc, hst2, hsp2, hsp3, hone2]; constructor <;> rfl) ?_
  refine WK.nil ?_
  refine DK.seq ?_
  refine DK.region (is := [0, 1]) (by kernel_rfl) rfl ?_
  refine WK.run (rest := []) [0, 1] (by simp [m0, m1, m2, qq, hs0, hs1, hone, hsp0, hsp1, hl32, hi0, hi1, hi2, hi3, hst, htk, hspl, hcc, hst2, hsp2, hsp3, hone2]; constructor <;> rfl) ?_
  refine WK.nil ?_
  refine DK.test rfl rfl (fun h => ?_) (fun h => ?_)
  · try simp only [h]
    replace h := Tr.out h
    refine DK.seq ?_
    refine DK.region (is := [0, 1, 2, 3]) (by kernel_rfl) rfl ?_
    refine WK.run (rest := []) [0, 1, 2, 3] (by simp [m0, m1, m2, qq, hs0, hs1, hone, hsp0, hsp1, hl32, hi0, hi1, hi2, hi3, hst, htk, hspl, hcc, hst2, hsp2, hsp3, hone2]; constructor <;> rfl) ?_
    refine WK.nil ?_
    refine DK.abs (fun MZ => AtM H [BkL b.today sp l, o.l, BkL 0 (.slice none 0 0) zL] MZ) (hM.set (i := 2) (by simp) _) ?_
    try clear hM
    rintro MZ hM
    replace m0 := hM.own 0 (by simp)
    replace m1 := hM.own 1 (by simp)
    replace m2 := hM.own 2 (by simp)
    simp only [List.getElem_cons_zero, List.getElem_cons_succ, Nat.add_zero] at m0 m1 m2
    replace qq := hM.q3
    have hres : stepB b o = (zeroB, rightO o) := if_pos ‹_›
    have hBk := BkAt.zero MZ
    have hsb : ∀ c, blkOf (.slice none 0 0) = some c → blkOf sp = some c ∨ H.length ≤ c := fun c hc => (by cases hc)
    refine DK.ret ?_
    refine And.intro (Or.inr rfl) ?_
    refine ⟨_, by simp [absAnswer, absResults, absResult, Tryd.f16, m0, m1, m2, qq, hs0, hs1, hsp0, hsp1, hl32, hone, hst2, hsp2, hsp3]; rfl, ?_⟩
    exact ⟨_, _, by rw [hres]; rfl, by rw [hres]; exact hBk, hM.keep, hsb⟩
  try simp only [h]
  replace h := Fa.out h
  have hr0 : rightO o = 0 := h
  obtain ⟨hsu1, hsu2⟩ := rightO_su hr0
  refine DK.skip ?_
  refine DK.seq ?_
  refine DK.region (is := [0]) (by kernel_rfl) rfl ?_
  refine WK.run (rest := []) [0] (by simp [m0, m1, m2, qq, hs0, hs1, hone, hsp0, hsp1, hl32, hi0, hi1, hi2, hi3, hst, htk, hspl, hcc, hst2, hsp2, hsp3, hone2]; constructor <;> rfl) ?_
  refine WK.nil ?_
  refine DK.seq ?_
  refine DK.seq ?_
  refine DK.region (is := [0, 1]) (by kernel_rfl) rfl ?_
  refine WK.run (rest := []) [0, 1] (by simp [m0, m1, m2, qq, hs0, hs1, hone, hsp0, hsp1, hl32, hi0, hi1, hi2, hi3, hst, htk, hspl, hcc, hst2, hsp2, hsp3, hone2]; constructor <;> rfl) ?_
  refine WK.nil ?_
  refine DK.block ?_
  refine DK.seq ?_
  refine DK.region (is := [0, 1]) (by kernel_rfl) rfl ?_
  refine WK.run (rest := []) [0, 1] (by simp [m0, m1, m2, qq, hs0, hs1, hone, hsp0, hsp1, hl32, hi0, hi1, hi2, hi3, hst, htk, hspl, hcc, hst2, hsp2, hsp3, hone2]; constructor <;> rfl) ?_
  refine WK.nil ?_
  refine DK.test rfl rfl (fun h => ?_) (fun h => ?_)
  · try simp only [h]
    replace h := Tr.out h
    refine DK.region (is := [0, 1, 2, 3, 4, 5, 6, 7, 8, 9, 10, 11]) (by kernel_rfl) rfl ?_
    refine WK.run (rest := [4, 5, 6, 7, 8, 9, 10, 11]) [0, 1, 2, 3] (by simp [m0, m1, m2, qq, hs0, hs1, hone, hsp0, hsp1, hl32, hi0, hi1, hi2, hi3, hst, htk, hspl, hcc, hst2, hsp2, hsp3, hone2]; constructor <;> rfl) ?_
    refine WK.call rfl (by simp [m0, m1, m2, qq, hs0, hs1, hone, hsp0, hsp1, hl32, hi0, hi1, hi2, hi3, hst, htk, hspl, hcc, hst2, hsp2, hsp3, hone2]) (by simp [Tryd.func30, Tryd.f30, m0, m1, m2, qq, hs0, hs1, hone, hsp0, hsp1, hl32, hi0, hi1, hi2, hi3, hst, htk, hspl, hcc, hst2, hsp2, hsp3, hone2]; constructor <;> rfl) ?_
    refine FSem.mono (addp_g b.pls o.p (hB.pls.keep hM.keep)) ?_
    rintro _ M3 ⟨pl2, k2, e2, s2, rfl, hap, hA, hR2, hW2, hN2⟩
    have hM0 := hM
    have hF3 : blkOf s2 ≠ some H.length := hN2.ne (hM.lt (i := 0) (by simp))
    replace hM := hM.on (Keep.of hA)
    replace m0 := hM.own 0 (by simp)
    replace m1 := hM.own 1 (by simp)
    replace m2 := hM.own 2 (by simp)
    simp only [List.getElem_cons_zero, List.getElem_cons_succ, Nat.add_zero] at m0 m1 m2
    replace qq := hM.q3
    replace hs0 := hR2.cells.1
    replace hs1 := hR2.cells.2
    refine WK.run (rest := []) [5, 6, 7, 8, 9, 10, 11] (by simp [m0, m1, m2, qq, hs0, hs1, hone, hsp0, hsp1, hl32, hi0, hi1, hi2, hi3, hst, htk, hspl, hcc, hst2, hsp2, hsp3, hone2]; constructor <;> rfl) ?_
    refine WK.nil ?_
    refine DK.abs (fun M4 => AtM H [BkL b.today s2 l, _, _] M4 ∧ RowAt M4 s2 pl2) ⟨hM.set (i := 0) (by simp) _, hR2.set hF3 _⟩ ?_
    try clear hM
    try clear hR2
    rintro M4 ⟨hM, hR2⟩
    replace m0 := hM.own 0 (by simp)
    replace m1 := hM.own 1 (by simp)
    replace m2 := hM.own 2 (by simp)
    simp only [List.getElem_cons_zero, List.getElem_cons_succ, Nat.add_zero] at m0 m1 m2
    replace qq := hM.q3
    have hBk := hB.plsSet hM.keep hR2
    have hres1 : stepB b o = if e2 ≠ 0 then (zeroB, e2) else ({ b with pls := pl2 }, 0) := by
      unfold stepB
      rw [if_neg (by simp [hr0]), if_pos ‹o.kd = 1›, hap]
    have hsb : ∀ c, blkOf s2 = some c → blkOf sp = some c ∨ H.length ≤ c := fun c hc => .inr (Nat.le_trans hM0.keep.1 (hN2 c hc))
    have hfr2 : blkOf s2 ≠ some (H.length + 2) := hN2.ne (hM0.lt (i := 2) (by simp))
    replace hone := bk_ones hs1
    replace hsp1 := hs1
    replace hsp0 := hs0
    refine DK.seq ?_
    refine DK.seq ?_
    refine DK.region (is := [0, 1]) (by kernel_rfl) rfl ?_
    refine WK.run (rest := []) [0, 1] (by simp [m0, m1, m2, qq, hs0, hs1, hone, hsp0, hsp1, hl32, hi0, hi1, hi2, hi3, hst, htk, hspl, hcc, hst2, hsp2, hsp3, hone2]; constructor <;> rfl) ?_
    refine WK.nil ?_
    refine DK.test rfl rfl (fun h => ?_) (fun h => ?_)
    · try simp only [h]
      replace h := Tr.out h
      refine DK.seq ?_
      refine DK.region (is := [0, 1, 2, 3]) (by kernel_rfl) rfl ?_
      refine WK.run (rest := []) [0, 1, 2, 3] (by simp [m0, m1, m2, qq, hs0, hs1, hone, hsp0, hsp1, hl32, hi0, hi1, hi2, hi3, hst, htk, hspl, hcc, hst2, hsp2, hsp3, hone2]; constructor <;> rfl) ?_
      refine WK.nil ?_
      refine DK.abs (fun MZ => AtM H [_, _, BkL 0 (.slice none 0 0) zL] MZ) (hM.set (i := 2) (by simp) _) ?_
      try clear hM
      rintro MZ hM
      replace m0 := hM.own 0 (by simp)
      replace m1 := hM.own 1 (by simp)
      replace m2 := hM.own 2 (by simp)
      simp only [List.getElem_cons_zero, List.getElem_cons_succ, Nat.add_zero] at m0 m1 m2
      replace qq := hM.q3
      have hres : stepB b o = (zeroB, e2) := hres1.trans (if_pos ‹_›)
      replace hBk := BkAt.zero MZ
      replace hsb : ∀ c, blkOf (.slice none 0 0) = some c → blkOf sp = some c ∨ H.length ≤ c := fun c hc => (by cases hc)
      refine DK.ret ?_
      refine And.intro (Or.inr rfl) ?_
      refine ⟨_, by simp [absAnswer, absResults, absResult, Tryd.f16, m0, m1, m2, qq, hs0, hs1, hsp0, hsp1, hl32, hone, hst2, hsp2, hsp3]; rfl, ?_⟩
      exact ⟨_, _, by rw [hres]; rfl, by rw [hres]; exact hBk, hM.keep, hsb⟩
    try simp only [h]
    replace h := Fa.out h
    refine DK.skip ?_
    refine DK.seq ?_
    refine DK.region (is := [0, 1, 2]) (by kernel_rfl) rfl ?_
    refine WK.run (rest := []) [0, 1, 2] (by simp [m0, m1, m2, qq, hs0, hs1, hone, hsp0, hsp1, hl32, hi0, hi1, hi2, hi3, hst, htk, hspl, hcc, hst2, hsp2, hsp3, hone2]; constructor <;> rfl) ?_
    refine WK.nil ?_
    have hres := hres1.trans (if_neg (by simpa using ‹e2 = 0›))
    refine DK.abs (fun MF => AtM H [_, _, _] MF ∧ BkAt MF _ _ _) ⟨hM.set (i := 2) (by simp) _, hBk.set (hBk.fre m2 (by rw [BkL_len (by simp)]; decide) hfr2) _⟩ ?_
    try clear hM
    try clear hBk
    rintro MF ⟨hM, hBk⟩
    replace m0 := hM.own 0 (by simp)
    replace m1 := hM.own 1 (by simp)
    replace m2 := hM.own 2 (by simp)
    simp only [List.getElem_cons_zero, List.getElem_cons_succ, Nat.add_zero] at m0 m1 m2
    replace qq := hM.q3
    refine DK.ret ?_
    refine And.intro (Or.inr rfl) ?_
    refine ⟨_, by simp [absAnswer, absResults, absResult, Tryd.f16, m0, m1, m2, qq, hs0, hs1, hsp0, hsp1, hl32, hone, hst2, hsp2, hsp3]; rfl, ?_⟩
    exact ⟨_, _, by rw [hres]; rfl, by rw [hres]; exact hBk, hM.keep, hsb⟩
  try simp only [h]
  replace h := Fa.out h
  refine DK.seq ?_
  refine DK.region (is := [0, 1]) (by kernel_rfl) rfl ?_
  refine WK.run (rest := []) [0, 1] (by simp [m0, m1, m2, qq, hs0, hs1, hone, hsp0, hsp1, hl32, hi0, hi1, hi2, hi3, hst, htk, hspl, hcc, hst2, hsp2, hsp3, hone2]; constructor <;> rfl) ?_
  refine WK.nil ?_
  refine DK.test rfl rfl (fun h => ?_) (fun h => ?_)
  · try simp only [h]
    replace h := Tr.out h
    have hsu3 := hsu2 (by omega) (by omega) (by omega)
    obtain ⟨x, hxa, hxl, hxo, htk1, hst1, hpt1⟩ := hB.sub (i := o.su) (by omega) (by omega)
    replace hi0 : 0 ≤ o.su := by omega
    replace hi1 : o.su < 32 := by omega
    replace hi2 : 2 + o.su.toNat * 13 ≤ 417 := by omega
    replace hi3 : 2 + o.su.toNat * 13 ≤ 405 := by omega
    replace hst := hst1 b.today
    replace htk := htk1 b.today
    simp only [Ac.l] at htk
    replace hs0 := hxo.cells.1
    replace hs1 := hxo.cells.2
    have hxn : x.a.op.length ≤ 1000000000000 := by rw [hxa]; have := (hk.subs _ (sub_mem hk.len (i := o.su) (by omega) (by omega))).2; omega
    refine DK.draw rfl (POk.of (ord := [0, 1, 2, 3, 8, 4, 5, 6, 7, 9, 10, 11]) (by kernel_rfl)) ?_
    refine XK.run (rest := [4, 5, 6, 7, 9, 10, 11]) [0, 1, 2, 3, 8] (by kernel_rfl) (by simp [m0, m1, m2, qq, hs0, hs1, hone, hsp0, hsp1, hl32, hi0, hi1, hi2, hi3, hst, htk, hspl, hcc, hst2, hsp2, hsp3, hone2]; constructor <;> rfl) ?_
    refine XK.call rfl (by simp [m0, m1, m2, qq, hs0, hs1, hone, hsp0, hsp1, hl32, hi0, hi1, hi2, hi3, hst, htk, hspl, hcc, hst2, hsp2, hsp3, hone2]) rfl (by simp [Tryd.func31, Tryd.f31, m0, m1, m2, qq, hs0, hs1, hone, hsp0, hsp1, hl32, hi0, hi1, hi2, hi3, hst, htk, hspl, hcc, hst2, hsp2, hsp3, hone2]; constructor <;> rfl) ?_
    refine FSem.mono (bopen_g k b o (hB.keep hM.keep) hk hu (by omega) (by omega)) ?_
    rintro _ M3 ⟨x2, e2, s2, rfl, hres0, hA, hO2, hF2⟩
    have hF3 : blkOf s2 ≠ some H.length := hF2.ne (hM.lt (i := 0) (by simp))
    replace hM := hM.on (Keep.of hA)
    replace m0 := hM.own 0 (by simp)
    replace m1 := hM.own 1 (by simp)
    replace m2 := hM.own 2 (by simp)
    simp only [List.getElem_cons_zero, List.getElem_cons_succ, Nat.add_zero] at m0 m1 m2
    replace qq := hM.q3
    replace hs0 := hO2.cells.1
    replace hs1 := hO2.cells.2
    have hspl1 := hB.sp (i := o.su) (by omega) (by omega) b.today ⟨x2, s2, hs1⟩
    replace hspl := hspl1
    simp only [Ac.l] at hspl
    refine And.intro (lag_list (l := [1]) (by kernel_rfl) (lag_cons (lag_one rfl (by simp [m0, m1, m2, qq, hs0, hs1, hone, hsp0, hsp1, hl32, hi0, hi1, hi2, hi3, hst, htk, hspl, hcc, hst2, hsp2, hsp3, hone2]; constructor <;> rfl) rfl (by simp [m0, m1, m2, qq, hs0, hs1, hone, hsp0, hsp1, hl32, hi0, hi1, hi2, hi3, hst, htk, hspl, hcc, hst2, hsp2, hsp3, hone2]) (by simp [sameL, sameV_agg, sameV_int, sameV_bool, sameV_str, sameV_ptr, sameV_sl, sameV_map, same1_int, same1_bool, same1_str, same1_ptr, same1_sl, same1_map, m0, m1, m2, qq, hs0, hs1, hone, hsp0, hsp1, hl32, hi0, hi1, hi2, hi3, hst, htk, hspl, hcc, hst2, hsp2, hsp3, hone2]) rfl) rfl)) ?_
    refine XK.run (rest := [10, 11]) [5, 6, 7, 9] (by kernel_rfl) (by simp [m0, m1, m2, qq, hs0, hs1, hone, hsp0, hsp1, hl32, hi0, hi1, hi2, hi3, hst, htk, hspl, hcc, hst2, hsp2, hsp3, hone2]; constructor <;> rfl) ?_
    refine XK.one rfl (by simp [m0, m1, m2, qq, hs0, hs1, hone, hsp0, hsp1, hl32, hi0, hi1, hi2, hi3, hst, htk, hspl, hcc, hst2, hsp2, hsp3, hone2]) rfl (by simp [m0, m1, m2, qq, hs0, hs1, hone, hsp0, hsp1, hl32, hi0, hi1, hi2, hi3, hst, htk, hspl, hcc, hst2, hsp2, hsp3, hone2]; constructor <;> rfl) (lag_list (l := []) (by kernel_rfl) rfl) ?_
    refine XK.one rfl (by simp [m0, m1, m2, qq, hs0, hs1, hone, hsp0, hsp1, hl32, hi0, hi1, hi2, hi3, hst, htk, hspl, hcc, hst2, hsp2, hsp3, hone2]) rfl (by simp [m0, m1, m2, qq, hs0, hs1, hone, hsp0, hsp1, hl32, hi0, hi1, hi2, hi3, hst, htk, hspl, hcc, hst2, hsp2, hsp3, hone2]; constructor <;> rfl) (lag_list (l := []) (by kernel_rfl) rfl) ?_
    refine XK.nil ?_
    refine DK.abs (fun M4 => AtM H [BkL b.today sp (l.set o.su.toNat ⟨x2, s2, hs1⟩), _, _] M4 ∧ OpenAt M4 s2 x2.op) ⟨hM.set (i := 0) (by simp) _, hO2.set hF3 _⟩ ?_
    try clear hM
    try clear hO2
    rintro M4 ⟨hM, hO2⟩
    replace m0 := hM.own 0 (by simp)
    replace m1 := hM.own 1 (by simp)
    replace m2 := hM.own 2 (by simp)
    simp only [List.getElem_cons_zero, List.getElem_cons_succ, Nat.add_zero] at m0 m1 m2
    replace qq := hM.q3
    have hBk := (hB.keep hM.keep).put (i := o.su) (by omega) (by omega) (x := ⟨x2, s2, hs1⟩) hO2
    have hres1 : stepB b o = if e2 ≠ 0 then (zeroB, e2) else ({ b with subs := b.subs.set o.su.toNat x2 }, 0) := by
      unfold stepB
      rw [if_neg (by simp [hr0]), if_neg ‹¬o.kd = 1›, if_pos ‹o.kd = 2›, hres0, put_ok]
    replace hl32 : (l.set o.su.toNat ⟨x2, s2, hs1⟩).length = 32 := by rw [List.length_set]; exact hl32
    have hsb : ∀ c, blkOf sp = some c → blkOf sp = some c ∨ H.length ≤ c := fun c hc => .inl hc
    have hfr2 : blkOf sp ≠ some (H.length + 2) := fun hc => by have := hB.pls.lt hc; omega
    refine DK.seq ?_
    refine DK.seq ?_
    refine DK.region (is := [0, 1]) (by kernel_rfl) rfl ?_
    refine WK.run (rest := []) [0, 1] (by simp [m0, m1, m2, qq, hs0, hs1, hone, hsp0, hsp1, hl32, hi0, hi1, hi2, hi3, hst, htk, hspl, hcc, hst2, hsp2, hsp3, hone2]; constructor <;> rfl) ?_
    refine WK.nil ?_
    refine DK.test rfl rfl (fun h => ?_) (fun h => ?_)
    · try simp only [h]
      replace h := Tr.out h
      refine DK.seq ?_
      refine DK.region (is := [0, 1, 2, 3]) (by kernel_rfl) rfl ?_
      refine WK.run (rest := []) [0, 1, 2, 3] (by simp [m0, m1, m2, qq, hs0, hs1, hone, hsp0, hsp1, hl32, hi0, hi1, hi2, hi3, hst, htk, hspl, hcc, hst2, hsp2, hsp3, hone2]; constructor <;> rfl) ?_
      refine WK.nil ?_
      refine DK.abs (fun MZ => AtM H [_, _, BkL 0 (.slice none 0 0) zL] MZ) (hM.set (i := 2) (by simp) _) ?_
      try clear hM
      rintro MZ hM
      replace m0 := hM.own 0 (by simp)
      replace m1 := hM.own 1 (by simp)
      replace m2 := hM.own 2 (by simp)
      simp only [List.getElem_cons_zero, List.getElem_cons_succ, Nat.add_zero] at m0 m1 m2
      replace qq := hM.q3
      have hres : stepB b o = (zeroB, e2) := hres1.trans (if_pos ‹_›)
      replace hBk := BkAt.zero MZ
      replace hsb : ∀ c, blkOf (.slice none 0 0) = some c → blkOf sp = some c ∨ H.length ≤ c := fun c hc => (by cases hc)
      refine DK.ret ?_
      refine And.intro (Or.inr rfl) ?_
      refine ⟨_, by simp [absAnswer, absResults, absResult, Tryd.f16, m0, m1, m2, qq, hs0, hs1, hsp0, hsp1, hl32, hone, hst2, hsp2, hsp3]; rfl, ?_⟩
      exact ⟨_, _, by rw [hres]; rfl, by rw [hres]; exact hBk, hM.keep, hsb⟩
    try simp only [h]
    replace h := Fa.out h
    refine DK.skip ?_
    refine DK.seq ?_
    refine DK.region (is := [0, 1, 2]) (by kernel_rfl) rfl ?_
    refine WK.run (rest := []) [0, 1, 2] (by simp [m0, m1, m2, qq, hs0, hs1, hone, hsp0, hsp1, hl32, hi0, hi1, hi2, hi3, hst, htk, hspl, hcc, hst2, hsp2, hsp3, hone2]; constructor <;> rfl) ?_
    refine WK.nil ?_
    have hres := hres1.trans (if_neg (by simpa using ‹e2 = 0›))
    refine DK.abs (fun MF => AtM H [_, _, _] MF ∧ BkAt MF _ _ _) ⟨hM.set (i := 2) (by simp) _, hBk.set (hBk.fre m2 (by rw [BkL_len (by simp)]; decide) hfr2) _⟩ ?_
    try clear hM
    try clear hBk
    rintro MF ⟨hM, hBk⟩
    replace m0 := hM.own 0 (by simp)
    replace m1 := hM.own 1 (by simp)
    replace m2 := hM.own 2 (by simp)
    simp only [List.getElem_cons_zero, List.getElem_cons_succ, Nat.add_zero] at m0 m1 m2
    replace qq := hM.q3
    refine DK.ret ?_
    refine And.intro (Or.inr rfl) ?_
    refine ⟨_, by simp [absAnswer, absResults, absResult, Tryd.f16, m0, m1, m2, qq, hs0, hs1, hsp0, hsp1, hl32, hone, hst2, hsp2, hsp3]; rfl, ?_⟩
    exact ⟨_, _, by rw [hres]; rfl, by rw [hres]; exact hBk, hM.keep, hsb⟩
  try simp only [h]
  replace h := Fa.out h
  refine DK.seq ?_
  refine DK.region (is := [0, 1]) (by kernel_rfl) rfl ?_
  refine WK.run (rest := []) [0, 1] (by simp [m0, m1, m2, qq, hs0, hs1, hone, hsp0, hsp1, hl32, hi0, hi1, hi2, hi3, hst, htk, hspl, hcc, hst2, hsp2, hsp3, hone2]; constructor <;> rfl) ?_
  refine WK.nil ?_
  refine DK.test rfl rfl (fun h => ?_) (fun h => ?_)
  · try simp only [h]
    replace h := Tr.out h
    refine DK.seq ?_
    refine DK.region (is := [0, 1, 2, 3, 4, 5, 6, 7]) (by kernel_rfl) rfl ?_
    refine WK.run (rest := [3, 4, 5, 6, 7]) [0, 1, 2] (by simp [m0, m1, m2, qq, hs0, hs1, hone, hsp0, hsp1, hl32, hi0, hi1, hi2, hi3, hst, htk, hspl, hcc, hst2, hsp2, hsp3, hone2]; constructor <;> rfl) ?_
    refine WK.call rfl (by simp [m0, m1, m2, qq, hs0, hs1, hone, hsp0, hsp1, hl32, hi0, hi1, hi2, hi3, hst, htk, hspl, hcc, hst2, hsp2, hsp3, hone2]) (by simp [Tryd.func32, Tryd.f32, m0, m1, m2, qq, hs0, hs1, hone, hsp0, hsp1, hl32, hi0, hi1, hi2, hi3, hst, htk, hspl, hcc, hst2, hsp2, hsp3, hone2]; constructor <;> rfl) ?_
    refine FSem.mono (bpass_g k b o.n (hB.keep hM.keep) hk hk3 hu) ?_
    rintro _ M3 ⟨b2, e2, sp2, l2, rfl, hres0, hBk, hl2, hsp2, hsp3, hkk, hsb0⟩
    have hsb : ∀ c, blkOf sp2 = some c → blkOf sp = some c ∨ H.length ≤ c := fun c hc => (hsb0 c hc).imp id (fun q => Nat.le_trans hM.keep.1 q)
    have hfr2 : blkOf sp2 ≠ some (H.length + 2) := fun hc => (hsb0 _ hc).elim (fun q => by have := hB.pls.lt q; omega) (fun q => by have := hM.lt (i := 2) (by simp); omega)
    replace hM := hM.on hkk
    replace m0 := hM.own 0 (by simp)
    replace m1 := hM.own 1 (by simp)
    replace m2 := hM.own 2 (by simp)
    simp only [List.getElem_cons_zero, List.getElem_cons_succ, Nat.add_zero] at m0 m1 m2
    replace qq := hM.q3
    replace hst2 := hl2
    have hone2 := bk_ones hsp2
    refine WK.run (rest := []) [4, 5, 6, 7] (by simp [m0, m1, m2, qq, hs0, hs1, hone, hsp0, hsp1, hl32, hi0, hi1, hi2, hi3, hst, htk, hspl, hcc, hst2, hsp2, hsp3, hone2]; constructor <;> rfl) ?_
    refine WK.nil ?_
    refine DK.abs (fun M5 => AtM H [_, _, BkL b2.today sp2 l2] M5 ∧ BkAt M5 sp2 l2 b2) ⟨hM.set (i := 2) (by simp) _, hBk.set (hBk.fre m2 (by rw [BkL_len (by simp)]; decide) hfr2) _⟩ ?_
    try clear hM
    try clear hBk
    rintro M5 ⟨hM, hBk⟩
    replace m0 := hM.own 0 (by simp)
    replace m1 := hM.own 1 (by simp)
    replace m2 := hM.own 2 (by simp)
    simp only [List.getElem_cons_zero, List.getElem_cons_succ, Nat.add_zero] at m0 m1 m2
    replace qq := hM.q3
    have hres : stepB b o = (b2, e2) := by
      unfold stepB
      rw [if_neg (by simp [hr0]), if_neg ‹¬o.kd = 1›, if_neg ‹¬o.kd = 2›, if_pos ‹o.kd = 9›, hres0]
    refine DK.ret ?_
    refine And.intro (Or.inr rfl) ?_
    refine ⟨_, by simp [absAnswer, absResults, absResult, Tryd.f16, m0, m1, m2, qq, hs0, hs1, hsp0, hsp1, hl32, hone, hst2, hsp2, hsp3]; rfl, ?_⟩
    exact ⟨_, _, by rw [hres]; rfl, by rw [hres]; exact hBk, hM.keep, hsb⟩
  try simp only [h]
  replace h := Fa.out h
  refine DK.seq ?_
  refine DK.region (is := [0, 1]) (by kernel_rfl) rfl ?_
  refine WK.run (rest := []) [0, 1] (by simp [m0, m1, m2, qq, hs0, hs1, hone, hsp0, hsp1, hl32, hi0, hi1, hi2, hi3, hst, htk, hspl, hcc, hst2, hsp2, hsp3, hone2]; constructor <;> rfl) ?_
  refine WK.nil ?_
  refine DK.test rfl rfl (fun h => ?_) (fun h => ?_)
  · try simp only [h]
    replace h := Tr.out h
    have hsu3 := hsu1 h
    obtain ⟨x, hxa, hxl, hxo, htk1, hst1, hpt1⟩ := hB.sub (i := o.a.su) (by omega) (by omega)
    replace hi0 : 0 ≤ o.a.su := by omega
    replace hi1 : o.a.su < 32 := by omega
    replace hi2 : 2 + o.a.su.toNat * 13 ≤ 417 := by omega
    replace hi3 : 2 + o.a.su.toNat * 13 ≤ 405 := by omega
    replace hst := hst1 b.today
    replace htk := htk1 b.today
    simp only [Ac.l] at htk
    replace hs0 := hxo.cells.1
    replace hs1 := hxo.cells.2
    have hxn : x.a.op.length ≤ 1000000000000 := by rw [hxa]; have := (hk.subs _ (sub_mem hk.len (i := o.a.su) (by omega) (by omega))).2; omega
    refine DK.draw rfl (POk.of (ord := [0, 1, 2, 3, 4, 5, 6, 7, 8, 9, 10, 11, 12, 13, 14, 15, 20, 16, 17, 18, 19, 21, 22, 23]) (by kernel_rfl)) ?_
    refine XK.run (rest := [8, 9, 10, 11, 12, 13, 14, 15, 20, 16, 17, 18, 19, 21, 22, 23]) [0, 1, 2, 3, 4, 5, 6, 7] (by kernel_rfl) (by simp [m0, m1, m2, qq, hs0, hs1, hone, hsp0, hsp1, hl32, hi0, hi1, hi2, hi3, hst, htk, hspl, hcc, hst2, hsp2, hsp3, hone2]; constructor <;> rfl) ?_
    refine XK.run (rest := [20, 16, 17, 18, 19, 21, 22, 23]) [8, 9, 10, 11, 12, 13, 14, 15] (by kernel_rfl) (by simp [m0, m1, m2, qq, hs0, hs1, hone, hsp0, hsp1, hl32, hi0, hi1, hi2, hi3, hst, htk, hspl, hcc, hst2, hsp2, hsp3, hone2]; constructor <;> rfl) ?_
    refine XK.run (rest := [16, 17, 18, 19, 21, 22, 23]) [20] (by kernel_rfl) (by simp [m0, m1, m2, qq, hs0, hs1, hone, hsp0, hsp1, hl32, hi0, hi1, hi2, hi3, hst, htk, hspl, hcc, hst2, hsp2, hsp3, hone2]; constructor <;> rfl) ?_
    refine XK.call rfl (by simp [m0, m1, m2, qq, hs0, hs1, hone, hsp0, hsp1, hl32, hi0, hi1, hi2, hi3, hst, htk, hspl, hcc, hst2, hsp2, hsp3, hone2]) rfl (by simp [Tryd.func33, Tryd.f33, m0, m1, m2, qq, hs0, hs1, hone, hsp0, hsp1, hl32, hi0, hi1, hi2, hi3, hst, htk, hspl, hcc, hst2, hsp2, hsp3, hone2]; constructor <;> rfl) ?_
    refine FSem.mono (ahear_g o.a.su x.a o.a b.today (hL.keep hM.keep) (hxo.keep hM.keep) hxn) ?_
    rintro _ M3 ⟨x2, e2, s2, rfl, hres0, hA, hO2, hF2⟩
    have hF3 : blkOf s2 ≠ some H.length := hF2.ne (hM.lt (i := 0) (by simp))
    replace hM := hM.on (Keep.of hA)
    replace m0 := hM.own 0 (by simp)
    replace m1 := hM.own 1 (by simp)
    replace m2 := hM.own 2 (by simp)
    simp only [List.getElem_cons_zero, List.getElem_cons_succ, Nat.add_zero] at m0 m1 m2
    replace qq := hM.q3
    replace hs0 := hO2.cells.1
    replace hs1 := hO2.cells.2
    have hspl1 := hB.sp (i := o.a.su) (by omega) (by omega) b.today ⟨x2, s2, hs1⟩
    replace hspl := hspl1
    simp only [Ac.l] at hspl
    refine And.intro (lag_list (l := [2]) (by kernel_rfl) (lag_cons (lag_one rfl (by simp [m0, m1, m2, qq, hs0, hs1, hone, hsp0, hsp1, hl32, hi0, hi1, hi2, hi3, hst, htk, hspl, hcc, hst2, hsp2, hsp3, hone2]; constructor <;> rfl) rfl (by simp [m0, m1, m2, qq, hs0, hs1, hone, hsp0, hsp1, hl32, hi0, hi1, hi2, hi3, hst, htk, hspl, hcc, hst2, hsp2, hsp3, hone2]) (by simp [sameL, sameV_agg, sameV_int, sameV_bool, sameV_str, sameV_ptr, sameV_sl, sameV_map, same1_int, same1_bool, same1_str, same1_ptr, same1_sl, same1_map, m0, m1, m2, qq, hs0, hs1, hone, hsp0, hsp1, hl32, hi0, hi1, hi2, hi3, hst, htk, hspl, hcc, hst2, hsp2, hsp3, hone2]) rfl) rfl)) ?_
    refine XK.run (rest := [22, 23]) [17, 18, 19, 21] (by kernel_rfl) (by simp [m0, m1, m2, qq, hs0, hs1, hone, hsp0, hsp1, hl32, hi0, hi1, hi2, hi3, hst, htk, hspl, hcc, hst2, hsp2, hsp3, hone2]; constructor <;> rfl) ?_
    refine XK.one rfl (by simp [m0, m1, m2, qq, hs0, hs1, hone, hsp0, hsp1, hl32, hi0, hi1, hi2, hi3, hst, htk, hspl, hcc, hst2, hsp2, hsp3, hone2]) rfl (by simp [m0, m1, m2, qq, hs0, hs1, hone, hsp0, hsp1, hl32, hi0, hi1, hi2, hi3, hst, htk, hspl, hcc, hst2, hsp2, hsp3, hone2]; constructor <;> rfl) (lag_list (l := []) (by kernel_rfl) rfl) ?_
    refine XK.one rfl (by simp [m0, m1, m2, qq, hs0, hs1, hone, hsp0, hsp1, hl32, hi0, hi1, hi2, hi3, hst, htk, hspl, hcc, hst2, hsp2, hsp3, hone2]) rfl (by simp [m0, m1, m2, qq, hs0, hs1, hone, hsp0, hsp1, hl32, hi0, hi1, hi2, hi3, hst, htk, hspl, hcc, hst2, hsp2, hsp3, hone2]; constructor <;> rfl) (lag_list (l := []) (by kernel_rfl) rfl) ?_
    refine XK.nil ?_
    refine DK.abs (fun M4 => AtM H [BkL b.today sp (l.set o.a.su.toNat ⟨x2, s2, hs1⟩), _, _] M4 ∧ OpenAt M4 s2 x2.op) ⟨hM.set (i := 0) (by simp) _, hO2.set hF3 _⟩ ?_
    try clear hM
    try clear hO2
    rintro M4 ⟨hM, hO2⟩
    replace m0 := hM.own 0 (by simp)
    replace m1 := hM.own 1 (by simp)
    replace m2 := hM.own 2 (by simp)
    simp only [List.getElem_cons_zero, List.getElem_cons_succ, Nat.add_zero] at m0 m1 m2
    replace qq := hM.q3
    have hBk := (hB.keep hM.keep).put (i := o.a.su) (by omega) (by omega) (x := ⟨x2, s2, hs1⟩) hO2
    have hres1 : stepB b o = if e2 ≠ 0 then (zeroB, e2) else ({ b with subs := b.subs.set o.a.su.toNat x2 }, 0) := by
      unfold stepB
      rw [if_neg (by simp [hr0]), if_neg ‹¬o.kd = 1›, if_neg ‹¬o.kd = 2›, if_neg ‹¬o.kd = 9›, if_pos ‹o.kd = 10›, ← hxa, hres0, put_ok]
    replace hl32 : (l.set o.a.su.toNat ⟨x2, s2, hs1⟩).length = 32 := by rw [List.length_set]; exact hl32
    have hsb : ∀ c, blkOf sp = some c → blkOf sp = some c ∨ H.length ≤ c := fun c hc => .inl hc
    have hfr2 : blkOf sp ≠ some (H.length + 2) := fun hc => by have := hB.pls.lt hc; omega
    refine DK.seq ?_
    refine DK.seq ?_
    refine DK.region (is := [0, 1]) (by kernel_rfl) rfl ?_
    refine WK.run (rest := []) [0, 1] (by simp [m0, m1, m2, qq, hs0, hs1, hone, hsp0, hsp1, hl32, hi0, hi1, hi2, hi3, hst, htk, hspl, hcc, hst2, hsp2, hsp3, hone2]; constructor <;> rfl) ?_
    refine WK.nil ?_
    refine DK.test rfl rfl (fun h => ?_) (fun h => ?_)
    · try simp only [h]
      replace h := Tr.out h
      refine DK.seq ?_
      refine DK.region (is := [0, 1, 2, 3]) (by kernel_rfl) rfl ?_
      refine WK.run (rest := []) [0, 1, 2, 3] (by simp [m0, m1, m2, qq, hs0, hs1, hone, hsp0, hsp1, hl32, hi0, hi1, hi2, hi3, hst, htk, hspl, hcc, hst2, hsp2, hsp3, hone2]; constructor <;> rfl) ?_
      refine WK.nil ?_
      refine DK.abs (fun MZ => AtM H [_, _, BkL 0 (.slice none 0 0) zL] MZ) (hM.set (i := 2) (by simp) _) ?_
      try clear hM
      rintro MZ hM
      replace m0 := hM.own 0 (by simp)
      replace m1 := hM.own 1 (by simp)
      replace m2 := hM.own 2 (by simp)
      simp only [List.getElem_cons_zero, List.getElem_cons_succ, Nat.add_zero] at m0 m1 m2
      replace qq := hM.q3
      have hres : stepB b o = (zeroB, e2) := hres1.trans (if_pos ‹_›)
      replace hBk := BkAt.zero MZ
      replace hsb : ∀ c, blkOf (.slice none 0 0) = some c → blkOf sp = some c ∨ H.length ≤ c := fun c hc => (by cases hc)
      refine DK.ret ?_
      refine And.intro (Or.inr rfl) ?_
      refine ⟨_, by simp [absAnswer, absResults, absResult, Tryd.f16, m0, m1, m2, qq, hs0, hs1, hsp0, hsp1, hl32, hone, hst2, hsp2, hsp3]; rfl, ?_⟩
      exact ⟨_, _, by rw [hres]; rfl, by rw [hres]; exact hBk, hM.keep, hsb⟩
    try simp only [h]
    replace h := Fa.out h
    refine DK.skip ?_
    refine DK.seq ?_
    refine DK.region (is := [0, 1, 2]) (by kernel_rfl) rfl ?_
    refine WK.run (rest := []) [0, 1, 2] (by simp [m0, m1, m2, qq, hs0, hs1, hone, hsp0, hsp1, hl32, hi0, hi1, hi2, hi3, hst, htk, hspl, hcc, hst2, hsp2, hsp3, hone2]; constructor <;> rfl) ?_
    refine WK.nil ?_
    have hres := hres1.trans (if_neg (by simpa using ‹e2 = 0›))
    refine DK.abs (fun MF => AtM H [_, _, _] MF ∧ BkAt MF _ _ _) ⟨hM.set (i := 2) (by simp) _, hBk.set (hBk.fre m2 (by rw [BkL_len (by simp)]; decide) hfr2) _⟩ ?_
    try clear hM
    try clear hBk
    rintro MF ⟨hM, hBk⟩
    replace m0 := hM.own 0 (by simp)
    replace m1 := hM.own 1 (by simp)
    replace m2 := hM.own 2 (by simp)
    simp only [List.getElem_cons_zero, List.getElem_cons_succ, Nat.add_zero] at m0 m1 m2
    replace qq := hM.q3
    refine DK.ret ?_
    refine And.intro (Or.inr rfl) ?_
    refine ⟨_, by simp [absAnswer, absResults, absResult, Tryd.f16, m0, m1, m2, qq, hs0, hs1, hsp0, hsp1, hl32, hone, hst2, hsp2, hsp3]; rfl, ?_⟩
    exact ⟨_, _, by rw [hres]; rfl, by rw [hres]; exact hBk, hM.keep, hsb⟩
  try simp only [h]
  replace h := Fa.out h
  have hsu3 := hsu2 (by omega) (by omega) (by omega)
  obtain ⟨x, hxa, hxl, hxo, htk1, hst1, hpt1⟩ := hB.sub (i := o.su) (by omega) (by omega)
  replace hi0 : 0 ≤ o.su := by omega
  replace hi1 : o.su < 32 := by omega
  replace hi2 : 2 + o.su.toNat * 13 ≤ 417 := by omega
  replace hi3 : 2 + o.su.toNat * 13 ≤ 405 := by omega
  replace hst := hst1 b.today
  replace htk := htk1 b.today
  simp only [Ac.l] at htk
  replace hs0 := hxo.cells.1
  replace hs1 := hxo.cells.2
  have hxn : x.a.op.length ≤ 1000000000000 := by rw [hxa]; have := (hk.subs _ (sub_mem hk.len (i := o.su) (by omega) (by omega))).2; omega
  refine DK.seq ?_
  refine DK.region (is := [0, 1, 2, 3, 4, 5, 6]) (by kernel_rfl) rfl ?_
  refine WK.run (rest := []) [0, 1, 2, 3, 4, 5, 6] (by simp [m0, m1, m2, qq, hs0, hs1, hone, hsp0, hsp1, hl32, hi0, hi1, hi2, hi3, hst, htk, hspl, hcc, hst2, hsp2, hsp3, hone2]; constructor <;> rfl) ?_
  refine WK.nil ?_
  refine DK.abs (fun M1 => AtM H [BkL b.today sp l, o.l, BkL 0 (.slice none 0 0) zL] M1 ∧ M1[M0.length]? = some (.cells false (x.a.l x.s))) ⟨hM.on (Keep.app _ _), by simp⟩ ?_
  try clear hM
  try clear hcc
  rintro M1 ⟨hM, hcc⟩
  replace m0 := hM.own 0 (by simp)
  replace m1 := hM.own 1 (by simp)
  replace m2 := hM.own 2 (by simp)
  simp only [List.getElem_cons_zero, List.getElem_cons_succ, Nat.add_zero] at m0 m1 m2
  replace qq := hM.q3
  refine DK.seq ?_
  refine DK.seq ?_
  refine DK.region (is := [0, 1, 2]) (by kernel_rfl) rfl ?_
  refine WK.run (rest := []) [0, 1, 2] (by simp [m0, m1, m2, qq, hs0, hs1, hone, hsp0, hsp1, hl32, hi0, hi1, hi2, hi3, hst, htk, hspl, hcc, hst2, hsp2, hsp3, hone2]; constructor <;> rfl) ?_
  refine WK.nil ?_
  refine DK.test rfl rfl (fun h => ?_) (fun h => ?_)
  · try simp only [h]
    replace h := Tr.out h
    refine DK.seq ?_
    refine DK.region (is := [0, 1, 2]) (by kernel_rfl) rfl ?_
    refine WK.run (rest := []) [0, 1, 2] (by simp [m0, m1, m2, qq, hs0, hs1, hone, hsp0, hsp1, hl32, hi0, hi1, hi2, hi3, hst, htk, hspl, hcc, hst2, hsp2, hsp3, hone2]; constructor <;> rfl) ?_
    refine WK.nil ?_
    refine DK.abs (fun MZ => AtM H [BkL b.today sp l, o.l, BkL 0 (.slice none 0 0) zL] MZ) (hM.set (i := 2) (by simp) _) ?_
    try clear hM
    rintro MZ hM
    replace m0 := hM.own 0 (by simp)
    replace m1 := hM.own 1 (by simp)
    replace m2 := hM.own 2 (by simp)
    simp only [List.getElem_cons_zero, List.getElem_cons_succ, Nat.add_zero] at m0 m1 m2
    replace qq := hM.q3
    have hres : stepB b o = (zeroB, 2) := by
      unfold stepB
      rw [if_neg (by simp [hr0]), if_neg ‹¬o.kd = 1›, if_neg ‹¬o.kd = 2›, if_neg ‹¬o.kd = 9›, if_neg ‹¬o.kd = 10›, if_pos (by rw [← hxa]; assumption)]
    have hBk := BkAt.zero MZ
    have hsb : ∀ c, blkOf (.slice none 0 0) = some c → blkOf sp = some c ∨ H.length ≤ c := fun c hc => (by cases hc)
    refine DK.ret ?_
    refine And.intro (Or.inr rfl) ?_
    refine ⟨_, by simp [absAnswer, absResults, absResult, Tryd.f16, m0, m1, m2, qq, hs0, hs1, hsp0, hsp1, hl32, hone, hst2, hsp2, hsp3]; rfl, ?_⟩
    exact ⟨_, _, by rw [hres]; rfl, by rw [hres]; exact hBk, hM.keep, hsb⟩
  try simp only [h]
  replace h := Fa.out h
  refine DK.skip ?_
  refine DK.draw rfl (POk.of (ord := [0, 1, 2, 3, 4, 9, 5, 6, 7, 8, 10, 11, 12]) (by kernel_rfl)) ?_
  refine XK.run (rest := [5, 6, 7, 8, 10, 11, 12]) [0, 1, 2, 3, 4, 9] (by kernel_rfl) (by simp [m0, m1, m2, qq, hs0, hs1, hone, hsp0, hsp1, hl32, hi0, hi1, hi2, hi3, hst, htk, hspl, hcc, hst2, hsp2, hsp3, hone2]; constructor <;> rfl) ?_
  refine XK.call rfl (by simp [m0, m1, m2, qq, hs0, hs1, hone, hsp0, hsp1, hl32, hi0, hi1, hi2, hi3, hst, htk, hspl, hcc, hst2, hsp2, hsp3, hone2]) rfl (by simp [Tryd.func34, Tryd.f34, m0, m1, m2, qq, hs0, hs1, hone, hsp0, hsp1, hl32, hi0, hi1, hi2, hi3, hst, htk, hspl, hcc, hst2, hsp2, hsp3, hone2]; constructor <;> rfl) ?_
  refine FSem.mono (bturn_g k b x.a o (hB.keep hM.keep) hk hu (hxo.keep hM.keep) hxn) ?_
  rintro _ M3 ⟨x2, e2, s2, rfl, hres0, hA, hO2, hF2⟩
  have hF3 : blkOf s2 ≠ some H.length := hF2.ne (hM.lt (i := 0) (by simp))
  replace hM := hM.on (Keep.of hA)
  replace m0 := hM.own 0 (by simp)
  replace m1 := hM.own 1 (by simp)
  replace m2 := hM.own 2 (by simp)
  simp only [List.getElem_cons_zero, List.getElem_cons_succ, Nat.add_zero] at m0 m1 m2
  replace qq := hM.q3
  replace hs0 := hO2.cells.1
  replace hs1 := hO2.cells.2
  have hspl1 := hB.sp (i := o.su) (by omega) (by omega) b.today ⟨x2, s2, hs1⟩
  replace hspl := hspl1
  simp only [Ac.l] at hspl
  refine And.intro (lag_list (l := [1]) (by kernel_rfl) (lag_cons (lag_one rfl (by simp [m0, m1, m2, qq, hs0, hs1, hone, hsp0, hsp1, hl32, hi0, hi1, hi2, hi3, hst, htk, hspl, hcc, hst2, hsp2, hsp3, hone2]; constructor <;> rfl) rfl (by simp [m0, m1, m2, qq, hs0, hs1, hone, hsp0, hsp1, hl32, hi0, hi1, hi2, hi3, hst, htk, hspl, hcc, hst2, hsp2, hsp3, hone2]) (by simp [sameL, sameV_agg, sameV_int, sameV_bool, sameV_str, sameV_ptr, sameV_sl, sameV_map, same1_int, same1_bool, same1_str, same1_ptr, same1_sl, same1_map, m0, m1, m2, qq, hs0, hs1, hone, hsp0, hsp1, hl32, hi0, hi1, hi2, hi3, hst, htk, hspl, hcc, hst2, hsp2, hsp3, hone2]) rfl) rfl)) ?_
  refine XK.run (rest := [11, 12]) [6, 7, 8, 10] (by kernel_rfl) (by simp [m0, m1, m2, qq, hs0, hs1, hone, hsp0, hsp1, hl32, hi0, hi1, hi2, hi3, hst, htk, hspl, hcc, hst2, hsp2, hsp3, hone2]; constructor <;> rfl) ?_
  refine XK.one rfl (by simp [m0, m1, m2, qq, hs0, hs1, hone, hsp0, hsp1, hl32, hi0, hi1, hi2, hi3, hst, htk, hspl, hcc, hst2, hsp2, hsp3, hone2]) rfl (by simp [m0, m1, m2, qq, hs0, hs1, hone, hsp0, hsp1, hl32, hi0, hi1, hi2, hi3, hst, htk, hspl, hcc, hst2, hsp2, hsp3, hone2]; constructor <;> rfl) (lag_list (l := []) (by kernel_rfl) rfl) ?_
  refine XK.one rfl (by simp [m0, m1, m2, qq, hs0, hs1, hone, hsp0, hsp1, hl32, hi0, hi1, hi2, hi3, hst, htk, hspl, hcc, hst2, hsp2, hsp3, hone2]) rfl (by simp [m0, m1, m2, qq, hs0, hs1, hone, hsp0, hsp1, hl32, hi0, hi1, hi2, hi3, hst, htk, hspl, hcc, hst2, hsp2, hsp3, hone2]; constructor <;> rfl) (lag_list (l := []) (by kernel_rfl) rfl) ?_
  refine XK.nil ?_
  refine DK.abs (fun M4 => AtM H [BkL b.today sp (l.set o.su.toNat ⟨x2, s2, hs1⟩), _, _] M4 ∧ OpenAt M4 s2 x2.op) ⟨hM.set (i := 0) (by simp) _, hO2.set hF3 _⟩ ?_
  try clear hM
  try clear hO2
  rintro M4 ⟨hM, hO2⟩
  replace m0 := hM.own 0 (by simp)
  replace m1 := hM.own 1 (by simp)
  replace m2 := hM.own 2 (by simp)
  simp only [List.getElem_cons_zero, List.getElem_cons_succ, Nat.add_zero] at m0 m1 m2
  replace qq := hM.q3
  have hBk := (hB.keep hM.keep).put (i := o.su) (by omega) (by omega) (x := ⟨x2, s2, hs1⟩) hO2
  have hres1 : stepB b o = if e2 ≠ 0 then (zeroB, e2) else ({ b with subs := b.subs.set o.su.toNat x2 }, 0) := by
    unfold stepB
    rw [if_neg (by simp [hr0]), if_neg ‹¬o.kd = 1›, if_neg ‹¬o.kd = 2›, if_neg ‹¬o.kd = 9›, if_neg ‹¬o.kd = 10›, if_neg (by rw [← hxa]; assumption), ← hxa, hres0, put_ok]
  replace hl32 : (l.set o.su.toNat ⟨x2, s2, hs1⟩).length = 32 := by rw [List.length_set]; exact hl32
  have hsb : ∀ c, blkOf sp = some c → blkOf sp = some c ∨ H.length ≤ c := fun c hc => .inl hc
  have hfr2 : blkOf sp ≠ some (H.length + 2) := fun hc => by have := hB.pls.lt hc; omega
  refine DK.seq ?_
  refine DK.seq ?_
  refine DK.region (is := [0, 1]) (by kernel_rfl) rfl ?_
  refine WK.run (rest := []) [0, 1] (by simp [m0, m1, m2, qq, hs0, hs1, hone, hsp0, hsp1, hl32, hi0, hi1, hi2, hi3, hst, htk, hspl, hcc, hst2, hsp2, hsp3, hone2]; constructor <;> rfl) ?_
  refine WK.nil ?_
  refine DK.test rfl rfl (fun h => ?_) (fun h => ?_)
  · try simp only [h]
    replace h := Tr.out h
    refine DK.seq ?_
    refine DK.region (is := [0, 1, 2, 3]) (by kernel_rfl) rfl ?_
    refine WK.run (rest := []) [0, 1, 2, 3] (by simp [m0, m1, m2, qq, hs0, hs1, hone, hsp0, hsp1, hl32, hi0, hi1, hi2, hi3, hst, htk, hspl, hcc, hst2, hsp2, hsp3, hone2]; constructor <;> rfl) ?_
    refine WK.nil ?_
    refine DK.abs (fun MZ => AtM H [_, _, BkL 0 (.slice none 0 0) zL] MZ) (hM.set (i := 2) (by simp) _) ?_
    try clear hM
    rintro MZ hM
    replace m0 := hM.own 0 (by simp)
    replace m1 := hM.own 1 (by simp)
    replace m2 := hM.own 2 (by simp)
    simp only [List.getElem_cons_zero, List.getElem_cons_succ, Nat.add_zero] at m0 m1 m2
    replace qq := hM.q3
    have hres : stepB b o = (zeroB, e2) := hres1.trans (if_pos ‹_›)
    replace hBk := BkAt.zero MZ
    replace hsb : ∀ c, blkOf (.slice none 0 0) = some c → blkOf sp = some c ∨ H.length ≤ c := fun c hc => (by cases hc)
    refine DK.ret ?_
    refine And.intro (Or.inr rfl) ?_
    refine ⟨_, by simp [absAnswer, absResults, absResult, Tryd.f16, m0, m1, m2, qq, hs0, hs1, hsp0, hsp1, hl32, hone, hst2, hsp2, hsp3]; rfl, ?_⟩
    exact ⟨_, _, by rw [hres]; rfl, by rw [hres]; exact hBk, hM.keep, hsb⟩
  try simp only [h]
  replace h := Fa.out h
  refine DK.skip ?_
  refine DK.seq ?_
  refine DK.region (is := [0, 1, 2]) (by kernel_rfl) rfl ?_
  refine WK.run (rest := []) [0, 1, 2] (by simp [m0, m1, m2, qq, hs0, hs1, hone, hsp0, hsp1, hl32, hi0, hi1, hi2, hi3, hst, htk, hspl, hcc, hst2, hsp2, hsp3, hone2]; constructor <;> rfl) ?_
  refine WK.nil ?_
  have hres := hres1.trans (if_neg (by simpa using ‹e2 = 0›))
  refine DK.abs (fun MF => AtM H [_, _, _] MF ∧ BkAt MF _ _ _) ⟨hM.set (i := 2) (by simp) _, hBk.set (hBk.fre m2 (by rw [BkL_len (by simp)]; decide) hfr2) _⟩ ?_
  try clear hM
  try clear hBk
  rintro MF ⟨hM, hBk⟩
  replace m0 := hM.own 0 (by simp)
  replace m1 := hM.own 1 (by simp)
  replace m2 := hM.own 2 (by simp)
  simp only [List.getElem_cons_zero, List.getElem_cons_succ, Nat.add_zero] at m0 m1 m2
  replace qq := hM.q3
  refine DK.ret ?_
  refine And.intro (Or.inr rfl) ?_
  refine ⟨_, by simp [absAnswer, absResults, absResult, Tryd.f16, m0, m1, m2, qq, hs0, hs1, hsp0, hsp1, hl32, hone, hst2, hsp2, hsp3]; rfl, ?_⟩
  exact ⟨_, _, by rw [hres]; rfl, by rw [hres]; exact hBk, hM.keep, hsb⟩
end Go.Den
set_option linter.unusedVariables false
set_option maxRecDepth 100000
namespace Go.Den
open Go Go.Proofs
structure At4 where
  (k a b c : Int)
def At4.ok (x : At4) : Prop := (0 ≤ x.k ∧ x.k < 256) ∧ (0 ≤ x.a ∧ x.a < 256) ∧ (0 ≤ x.b ∧ x.b < 256) ∧ (0 ≤ x.c ∧ x.c < 256)
@[simp] def At4.l (x : At4) : List Value := [.int .u8 x.k, .int .u8 x.a, .int .u8 x.b, .int .u8 x.c]
@[simp] def At4.v (x : At4) : Value := .agg #[.int .u8 x.k, .int .u8 x.a, .int .u8 x.b, .int .u8 x.c]
instance : Cel At4 := ⟨At4.l, 4, fun _ => rfl, fun _ => rfl, by decide⟩
def sel4 (i a b c d : Int) : Int := if i = 0 then a else if i = 1 then b else if i = 2 then c else d
def planR (n : Int) : Pl := ⟨sel4 (n % 4) 1000 0 2999 1, n / 4 % 4, 1 + n / 16 % 3, sel4 (n / 48 % 4) 0 0 10 3, decide (n % 3 = 1), decide (n % 7 = 3)⟩
def verR (c : Int) : Int := if c % 5 < 3 then 1 else if c % 5 = 3 then 2 else 3
def orderR (x : At4) (asks : List Nt) : Od :=
  if x.k % 14 = 0 then ⟨1, 0, 0, 0, planR x.b, zeroN⟩
  else if x.k % 14 = 1 ∨ x.k % 14 = 2 then ⟨2, x.a % 3, x.b % 3, 0, zeroP, zeroN⟩
  else if x.k % 14 = 3 then ⟨3, x.a % 3, x.b % 3, 0, zeroP, zeroN⟩
  else if x.k % 14 = 4 then ⟨4 + x.b % 5, x.a % 3, 0, 0, zeroP, zeroN⟩
  else if x.k % 14 = 5 then ⟨5, x.a % 3, 0, 0, zeroP, zeroN⟩
  else if x.k % 14 = 6 ∨ x.k % 14 = 7 ∨ x.k % 14 = 8 then ⟨9, 0, 0, 1 + x.c % 40, zeroP, zeroN⟩
  else if asks.length = 0 then ⟨9, 0, 0, 1 + x.c % 9, zeroP, zeroN⟩
  else
    let n := asks.getD (x.b % asks.length).toNat zeroN
    ⟨10, 0, 0, 0, zeroP, ⟨n.kd, n.su, n.cy, if x.a = 255 then IntKind.i64.wrap (n.tr + 1) else n.tr, n.am, verR x.c⟩⟩
theorem wrap_u8 (n : Int) (h0 : 0 ≤ n) (h1 : n < 256) : IntKind.u8.wrap n = n := by
  simp only [IntKind.wrap, IntKind.bits, IntKind.signed]; simp; omega
theorem tm (a b : Int) (h : 0 ≤ a) : a.tmod b = a % b := Int.tmod_eq_emod_of_nonneg h
theorem td (a b : Int) (h : 0 ≤ a) : a.tdiv b = a / b := Int.tdiv_eq_ediv_of_nonneg h
theorem sel_take (a b c d : Int) {i : Int} (h0 : 0 ≤ i) (h1 : i < 4) : List.take 1 (List.drop i.toNat [Value.int .i64 a, .int .i64 b, .int .i64 c, .int .i64 d]) = [.int .i64 (sel4 i a b c d)] := by
  have : i = 0 ∨ i = 1 ∨ i = 2 ∨ i = 3 := by omega
  rcases this with rfl | rfl | rfl | rfl <;> rfl
theorem ver_take {c : Int} : List.take 1 (List.drop (c % 5).toNat [Value.int .u8 1, .int .u8 1, .int .u8 1, .int .u8 2, .int .u8 3]) = [.int .u8 (verR c)] := by
  have : c % 5 = 0 ∨ c % 5 = 1 ∨ c % 5 = 2 ∨ c % 5 = 3 ∨ c % 5 = 4 := by omega
  unfold verR
  rcases this with h | h | h | h | h <;> rw [h] <;> rfl
theorem bsA (H : Mem) : absBuildSlice Tryd.prog H 103 4 [(0, .int .i64 1000), (1, .int .i64 0), (2, .int .i64 2999), (3, .int .i64 1)] = some (.slice (some ⟨H.length, 0, none⟩) 4 1, H ++ [.cells false [.int .i64 1000, .int .i64 0, .int .i64 2999, .int .i64 1]]) := by kernel_rfl
theorem bsB (H : Mem) : absBuildSlice Tryd.prog H 104 4 [(0, .int .i64 0), (1, .int .i64 0), (2, .int .i64 10), (3, .int .i64 3)] = some (.slice (some ⟨H.length, 0, none⟩) 4 1, H ++ [.cells false [.int .i64 0, .int .i64 0, .int .i64 10, .int .i64 3]]) := by kernel_rfl
theorem bsC (H : Mem) : absBuildSlice Tryd.prog H 72 5 [(0, .int .u8 1), (1, .int .u8 1), (2, .int .u8 1), (3, .int .u8 2), (4, .int .u8 3)] = some (.slice (some ⟨H.length, 0, none⟩) 5 1, H ++ [.cells false [.int .u8 1, .int .u8 1, .int .u8 1, .int .u8 2, .int .u8 3]]) := by kernel_rfl
attribute [simp] bsA bsB bsC
end Go.Den
set_option linter.unusedVariables false
set_option maxRecDepth 100000
namespace Go.Den
open Go Go.Proofs
def Sz (k : Nat) (a : Ac) : Prop := 0 ≤ a.ix ∧ a.op.length ≤ k
theorem Sz.zero (k : Nat) : Sz k zeroA := ⟨by decide, by simp [zeroA]⟩
theorem Sz.le {k m : Nat} {a : Ac} (h : Sz k a) (hm : k ≤ m) : Sz m a := ⟨h.1, Nat.le_trans h.2 hm⟩
theorem closeA_ix (a : Ac) (c : Cy) : (closeA a c).1.ix = a.ix := by unfold closeA; split <;> (try split) <;> (try split) <;> (try split) <;> rfl
theorem dayL_sz {p : Pl} {t : Int} {B : Nat} : ∀ (n : Nat) (a : Ac), Sz B a → Sz (B + n) (dayL p t n a).1
  | 0, a, h => h
  | n + 1, a, h => by
    unfold dayL
    split
    · exact h.le (by omega)
    · split
      · exact h.le (by omega)
      · rename_i h1 h2
        have hf := (nthF_ok (a := a.an) (u := p.un) (e := p.ev) (n := a.ix) (by have : ¬ ((dueA a p).2 ≠ 0) := fun q => h2 (.inl q); simpa [dueA] using this)).1.2.2
        dsimp only
        split
        · exact Sz.zero _
        · have e1 := beginA_ix { a with ix := IntKind.i64.wrap (a.ix + 1) } p (dueA a p).1 (p.la && (decide ((dueA { a with ix := IntKind.i64.wrap (a.ix + 1) } p).2 = 0) && decide ((dueA { a with ix := IntKind.i64.wrap (a.ix + 1) } p).1 ≤ t)))
          have e3 := beginA_op { a with ix := IntKind.i64.wrap (a.ix + 1) } p (dueA a p).1 (p.la && (decide ((dueA { a with ix := IntKind.i64.wrap (a.ix + 1) } p).2 = 0) && decide ((dueA { a with ix := IntKind.i64.wrap (a.ix + 1) } p).1 ≤ t)))
          refine Sz.le (k := B + 1 + n) (dayL_sz (B := B + 1) n _ ⟨?_, ?_⟩) (by omega)
          · rw [e1]; simp only; rw [wrap_in _ (by omega) (by omega)]; omega
          · have := h.2; simp only at e3; omega
theorem dayA_sz {a : Ac} {p : Pl} {t : Int} {k : Nat} (h : Sz k a) : Sz (k + 3652060) (dayA a p t).1 := by
  unfold dayA
  have := dayL_sz (p := p) (t := t) (dayN a) { a with op := a.op.map (fun c => wakeC c t) } (B := k) ⟨h.1, by simpa using h.2⟩
  exact this.le (by have := dayN_le h.1; omega)
theorem settleL_sz {k : Nat} : ∀ (l : List Cy) (a : Ac), 0 ≤ a.ix → a.op.length + l.length ≤ k → Sz k (settleL l a).1
  | [], a, h0, h1 => ⟨h0, by simpa [settleL] using h1⟩
  | c :: l, a, h0, h1 => by
    unfold settleL
    split
    · exact Sz.zero _
    · have := closeA_op a c
      exact settleL_sz l _ (by rw [closeA_ix]; exact h0) (by simp at h1; omega)
theorem settleA_sz {a : Ac} {k : Nat} (h : Sz k a) : Sz k (settleA a).1 := settleL_sz _ _ h.1 (by simpa using h.2)
theorem hearA_sz {su t : Int} {a : Ac} {n : Nt} {k : Nat} (h : Sz k a) : Sz k (hearA su a n t).1 := by
  unfold hearA
  split
  · exact Sz.zero _
  · dsimp only
    split
    · exact Sz.zero _
    · exact settleA_sz ⟨h.1, by simpa using h.2⟩
theorem turnA_sz {a : Ac} {f t : Int} {k : Nat} (h : Sz k a) : Sz k (turnA a f t).1 := by unfold turnA; split; exact Sz.zero _; exact h
theorem skipA_sz {a : Ac} {k : Nat} (h : Sz k a) : Sz k (skipA a).1 := by unfold skipA; split; exact Sz.zero _; exact h
theorem cancelA_sz {a : Ac} {k : Nat} (h : Sz k a) : Sz k (cancelA a).1 := by unfold cancelA; split; exact Sz.zero _; exact settleA_sz ⟨h.1, by simpa using h.2⟩
theorem cardA_sz {a : Ac} {k : Nat} (h : Sz k a) : Sz k (cardA a).1 := by unfold cardA; split; exact Sz.zero _; exact ⟨h.1, by simpa using h.2⟩
theorem changeA_sz {a : Ac} {f t : Pl} {n today : Int} {k : Nat} (h : Sz k a) : Sz k (changeA a f n t today).1 := by
  unfold changeA
  split
  · exact Sz.zero _
  · dsimp only
    split
    · split
      · exact Sz.zero _
      · split
        · exact Sz.zero _
        · exact ⟨by simp, h.2⟩
    · split
      · exact Sz.zero _
      · exact ⟨by simp, h.2⟩
theorem turnB_sz {b : Bk} {a : Ac} {o : Od} {k : Nat} (h : Sz k a) : Sz k (turnB b a o).1 := by
  unfold turnB
  split; exact turnA_sz h
  split; exact turnA_sz h
  split; exact skipA_sz h
  split; exact cancelA_sz h
  split; exact cardA_sz h
  split; exact Sz.zero _
  exact changeA_sz h
theorem openB_sz {b : Bk} {o : Od} {k : Nat} (hk : 3652060 ≤ k) : Sz k (openB b o).1 := by
  unfold openB
  dsimp only
  split; exact Sz.zero _
  split; exact Sz.zero _
  split; exact Sz.zero _
  exact (dayA_sz (k := 0) ⟨by simp [openAc], by simp [openAc]⟩).le (by omega)
theorem passL_sz {pls : List Pl} {t : Int} {k : Nat} : ∀ l : List Ac, (∀ a ∈ l, Sz k a) → (∀ a ∈ (passL pls t l).1, Sz (k + 3652060) a) ∧ ((passL pls t l).2 = 0 → (passL pls t l).1.length = l.length)
  | [], _ => by simp [passL]
  | a :: l, h => by
    have ih := passL_sz (pls := pls) (t := t) l (fun x hx => h x (by simp [hx]))
    have hr : Sz (k + 3652060) (if a.st = 0 then (a, (0 : Int)) else dayA a (getP pls a.pl).1 t).1 := by
      split
      · exact (h a (by simp)).le (by omega)
      · exact dayA_sz (h a (by simp))
    unfold passL
    dsimp only
    generalize (if a.st = 0 then (a, (0 : Int)) else dayA a (getP pls a.pl).1 t) = r at hr
    split
    · rename_i q0; exact ⟨fun x hx => by simp at hx, fun q => absurd q q0⟩
    · split
      · rename_i q0; exact ⟨fun x hx => by simp at hx, fun q => absurd q q0⟩
      · rename_i h1 h2
        refine ⟨fun x hx => ?_, fun _ => by simp [ih.2 (by simpa using h2)]⟩
        simp only [List.mem_cons] at hx
        rcases hx with rfl | hx
        · exact hr
        · exact ih.1 x hx
theorem put_sz {k m : Nat} {b : Bk} {i : Int} {r : Ac × Int} (h : BOk k b) (hm : k ≤ m) (hr : Sz m r.1) (hok : (b.put i r).2 = 0) : BOk m (b.put i r).1 := by
  unfold Bk.put at hok ⊢
  split
  · rename_i q; rw [if_pos q] at hok; exact absurd hok q
  · refine ⟨h.pls, fun a ha => ?_, by simp [h.len]⟩
    rcases List.mem_or_eq_of_mem_set ha with q | rfl
    · exact ⟨(h.subs a q).1, Nat.le_trans (h.subs a q).2 hm⟩
    · exact hr
theorem sub_sz {k : Nat} {b : Bk} (h : BOk k b) (i : Int) : Sz k (b.sub i) := by
  unfold Bk.sub
  rw [List.getD_eq_getElem?_getD]
  cases hc : b.subs[i.toNat]? with
  | none => exact Sz.zero _
  | some a => exact h.subs a (List.mem_of_getElem? hc)
theorem stepB_ok {k : Nat} {b : Bk} {o : Od} (h : BOk k b) (hok : (stepB b o).2 = 0) : BOk (k + 3652060) (stepB b o).1 := by
  unfold stepB at hok ⊢
  split
  · rename_i q; rw [if_pos q] at hok; exact absurd hok q
  · rename_i q0; rw [if_neg q0] at hok
    split
    · rename_i q; rw [if_pos q] at hok
      split
      · rename_i q2; rw [if_pos q2] at hok; exact absurd hok q2
      · rename_i q2
        refine ⟨fun p hp => ?_, fun a ha => ⟨(h.subs a ha).1, Nat.le_trans (h.subs a ha).2 (by omega)⟩, h.len⟩
        unfold addPl at q2 hp
        split at q2
        · rename_i q3; exact absurd q2 (by simpa using q3)
        · rename_i q3
          rw [if_neg q3] at hp
          split at q2
          · simp at q2
          · rename_i q4
            rw [if_neg q4] at hp
            simp only [List.mem_append, List.mem_singleton] at hp
            rcases hp with hp | rfl
            · exact h.pls p hp
            · simpa using q3
    · rename_i q; rw [if_neg q] at hok
      split
      · rename_i q2; rw [if_pos q2] at hok
        exact put_sz h (by omega) (openB_sz (by omega)) hok
      · rename_i q2; rw [if_neg q2] at hok
        split
        · rename_i q3; rw [if_pos q3] at hok
          unfold passB at hok ⊢
          split
          · rename_i q4; rw [if_pos q4] at hok; simp at hok
          · rename_i q4; rw [if_neg q4] at hok
            dsimp only at hok ⊢
            have hs := passL_sz (pls := b.pls) (t := IntKind.i64.wrap (b.today + o.n)) (k := k) b.subs (fun a ha => h.subs a ha)
            split
            · rename_i q5; rw [if_pos q5] at hok; exact absurd hok q5
            · rename_i q5
              exact ⟨h.pls, hs.1, by rw [hs.2 (by simpa using q5)]; exact h.len⟩
        · rename_i q3; rw [if_neg q3] at hok
          split
          · rename_i q4; rw [if_pos q4] at hok
            exact put_sz h (by omega) ((hearA_sz (sub_sz h _)).le (by omega)) hok
          · rename_i q4; rw [if_neg q4] at hok
            split
            · rename_i q5; rw [if_pos q5] at hok; simp at hok
            · rename_i q5; rw [if_neg q5] at hok
              exact put_sz h (by omega) ((turnB_sz (sub_sz h _)).le (by omega)) hok
theorem stepB_un {b : Bk} {o : Od} (h : UnOk b.pls) (ho : 0 ≤ o.p.un) : UnOk (stepB b o).1.pls := by
  have hz : UnOk zeroB.pls := fun p hp => by simp [zeroB] at hp
  have hput : ∀ (i : Int) (r : Ac × Int), UnOk (b.put i r).1.pls := fun i r => by unfold Bk.put; split; exact hz; exact h
  unfold stepB
  split; exact hz
  split
  · split; exact hz
    intro p hp
    unfold addPl at hp
    split at hp
    · simp at hp
    · split at hp
      · simp at hp
      · simp only [List.mem_append, List.mem_singleton] at hp
        rcases hp with hp | rfl
        · exact h p hp
        · exact ho
  split; exact hput _ _
  split
  · unfold passB; split; exact hz
    dsimp only; split; exact hz; exact h
  split; exact hput _ _
  split; exact hz
  exact hput _ _
noncomputable def actB (b : Bk) (x : At4) : Bk := if (stepB b (orderR x b.asks)).2 = 0 then (stepB b (orderR x b.asks)).1 else b
noncomputable def playB (l : List At4) (b : Bk) : Bk := l.foldl actB b
theorem orderR_un {x : At4} (hx : x.ok) (asks : List Nt) : 0 ≤ (orderR x asks).p.un := by
  obtain ⟨_, _, ⟨h1, h2⟩, _⟩ := hx
  have : 0 ≤ (planR x.b).un := by simp only [planR]; omega
  unfold orderR
  split; exact this
  split; simp [zeroP]
  split; simp [zeroP]
  split; simp [zeroP]
  split; simp [zeroP]
  split; simp [zeroP]
  split; simp [zeroP]
  simp [zeroP]
theorem actB_ok {k : Nat} {b : Bk} {x : At4} (hx : x.ok) (h : BOk k b) (hu : UnOk b.pls) : BOk (k + 3652060) (actB b x) ∧ UnOk (actB b x).pls := by
  unfold actB
  split
  · rename_i q; exact ⟨stepB_ok h q, stepB_un hu (orderR_un hx _)⟩
  · exact ⟨⟨h.pls, fun a ha => ⟨(h.subs a ha).1, Nat.le_trans (h.subs a ha).2 (by omega)⟩, h.len⟩, hu⟩
theorem newB_ok (t : Int) : BOk 0 (newB t) ∧ UnOk (newB t).pls := by
  refine ⟨⟨fun p hp => by simp [newB] at hp, fun a ha => ?_, by simp [newB]⟩, fun p hp => by simp [newB] at hp⟩
  rw [List.eq_of_mem_replicate ha]
  exact ⟨by decide, by simp [zeroA]⟩
end Go.Den
set_option linter.unusedVariables false
set_option maxRecDepth 100000
namespace Go.Den
open Go Go.Proofs
theorem put_err {b : Bk} {i : Int} {r : Ac × Int} (h : (b.put i r).2 ≠ 0) : (b.put i r).1 = zeroB := by
  unfold Bk.put at h ⊢
  split at h
  · rename_i q; rw [if_pos q]
  · exact absurd rfl h
theorem stepB_err {b : Bk} {o : Od} (h : (stepB b o).2 ≠ 0) : (stepB b o).1 = zeroB := by
  unfold stepB at h ⊢
  split
  · rfl
  · rename_i q0; rw [if_neg q0] at h
    split
    · rename_i q; rw [if_pos q] at h
      split
      · rfl
      · rename_i q2; rw [if_neg q2] at h; exact absurd rfl h
    · rename_i q; rw [if_neg q] at h
      split
      · rename_i q2; rw [if_pos q2] at h; exact put_err h
      · rename_i q2; rw [if_neg q2] at h
        split
        · rename_i q3; rw [if_pos q3] at h
          unfold passB at h ⊢
          split
          · rfl
          · rename_i q4; rw [if_neg q4] at h
            dsimp only at h ⊢
            split
            · rfl
            · rename_i q5; rw [if_neg q5] at h; exact absurd rfl h
        · rename_i q3; rw [if_neg q3] at h
          split
          · rename_i q4; rw [if_pos q4] at h; exact put_err h
          · rename_i q4; rw [if_neg q4] at h
            split
            · rfl
            · rename_i q5; rw [if_neg q5] at h; exact put_err h
theorem put_pls (b : Bk) (i : Int) (r : Ac × Int) : (b.put i r).1.pls = [] ∨ (b.put i r).1.pls = b.pls := by
  unfold Bk.put; split
  · exact .inl rfl
  · exact .inr rfl
theorem stepB_p8 {b : Bk} {o : Od} (h : b.pls.length ≤ 8) : (stepB b o).1.pls.length ≤ 8 := by
  have hp : ∀ (i : Int) (r : Ac × Int), (b.put i r).1.pls.length ≤ 8 := fun i r => by rcases put_pls b i r with e | e <;> rw [e]; simp; exact h
  unfold stepB
  split
  · simp [zeroB]
  · split
    · split
      · simp [zeroB]
      · rename_i q
        unfold addPl at q ⊢
        split at q
        · rename_i q3; exact absurd q (by simpa using q3)
        · rename_i q3
          rw [if_neg q3]
          split at q
          · simp at q
          · rename_i q4; rw [if_neg q4]; simp; omega
    · split
      · exact hp _ _
      · split
        · unfold passB
          split
          · simp [zeroB]
          · dsimp only; split
            · simp [zeroB]
            · exact h
        · split
          · exact hp _ _
          · split
            · simp [zeroB]
            · exact hp _ _
structure PlayOk (n : Nat) (b : Bk) : Prop where
  ok : BOk (n * 3652060) b
  un : UnOk b.pls
  p8 : b.pls.length ≤ 8
theorem BOk.zero (k : Nat) : BOk k zeroB := ⟨fun p hp => by simp [zeroB] at hp, fun a ha => by rw [List.eq_of_mem_replicate (show a ∈ List.replicate 32 zeroA from ha)]; exact ⟨by decide, by simp [zeroA]⟩, by simp [zeroB]⟩
theorem BOk.le {k m : Nat} {b : Bk} (h : BOk k b) (hm : k ≤ m) : BOk m b := ⟨h.pls, fun a ha => ⟨(h.subs a ha).1, Nat.le_trans (h.subs a ha).2 hm⟩, h.len⟩
theorem stepB_okA {k : Nat} {b : Bk} (o : Od) (h : BOk k b) : BOk (k + 3652060) (stepB b o).1 := by
  by_cases q : (stepB b o).2 = 0
  · exact stepB_ok h q
  · rw [stepB_err q]; exact BOk.zero _
theorem PlayOk.act {n : Nat} {b : Bk} (h : PlayOk n b) {x : At4} (hx : x.ok) : PlayOk (n + 1) (actB b x) := by
  have h1 := actB_ok hx h.ok h.un
  refine ⟨by rw [Nat.succ_mul]; exact h1.1, h1.2, ?_⟩
  unfold actB
  split
  · exact stepB_p8 h.p8
  · exact h.p8
theorem PlayOk.new (t : Int) : PlayOk 0 (newB t) := ⟨by simpa using (newB_ok t).1, (newB_ok t).2, by simp [newB]⟩
theorem play_snoc {l : List At4} {i : Nat} (h : i < l.length) (b : Bk) : playB (l.take (i + 1)) b = actB (playB (l.take i) b) l[i] := by
  unfold playB; rw [List.take_succ_eq_append_getElem h, List.foldl_append]; rfl
theorem play_ok {l : List At4} (hl : ∀ a ∈ l, a.ok) (t : Int) : ∀ i, i ≤ l.length → PlayOk i (playB (l.take i) (newB t))
  | 0, _ => PlayOk.new t
  | i + 1, h => by rw [play_snoc (by omega)]; exact (play_ok hl t i (by omega)).act (hl _ (List.getElem_mem _))
theorem act_yes {b b2 : Bk} {x : At4} {o : Od} {e : Int} (ho : orderR x b.asks = o) (h : stepB b o = (b2, e)) (he : e = 0) : actB b x = b2 := by
  subst ho; unfold actB; rw [h]; simp [he]
theorem act_no {b b2 : Bk} {x : At4} {o : Od} {e : Int} (ho : orderR x b.asks = o) (h : stepB b o = (b2, e)) (he : e ≠ 0) : actB b x = b := by
  subst ho; unfold actB; rw [h]; simp [he]
theorem lenAt {H : Mem} {s : Value} {l : List At4} (h : RowAt H s l) (K : Mem) : absLen Tryd.prog K 23 s = some (.int .i64 l.length) := h.len Tryd.underlying23 K
end Go.Den
set_option linter.unusedVariables false
set_option maxRecDepth 100000
namespace Go.Den
open Go Go.Proofs
def CI (D X m : Int) (c : Cy) : Prop := 0 ≤ c.no ∧ (0 ≤ c.due ∧ c.due ≤ D) ∧ (1 ≤ c.ph ∧ c.ph ≤ m) ∧ (0 ≤ c.am ∧ c.am ≤ X) ∧ (0 ≤ c.tr ∧ c.tr ≤ 4 ∧ (c.ph = 2 → c.tr ≤ 3)) ∧ (0 ≤ c.nx ∧ c.nx ≤ D + 7)
def usS (l : List Cy) : Nat := (l.map (fun c => c.us.natAbs)).sum
def nosP (l : List Cy) : Prop := (l.map Cy.no).Pairwise (· < ·)
theorem usS_app (l r : List Cy) : usS (l ++ r) = usS l + usS r := by simp [usS]
theorem usS_cons (c : Cy) (r : List Cy) : usS (c :: r) = c.us.natAbs + usS r := by simp [usS]
structure SI (D : Int) (S : Nat) (X : Int) (a : Ac) (l : List Cy) : Prop where
  cy : ∀ c ∈ a.op, CI D X 6 c
  cl : ∀ c ∈ l, CI D X 10 c
  no : nosP (a.op ++ l)
  nc : ∀ c ∈ a.op ++ l, c.no < a.ct
  sm : 0 ≤ a.dn ∧ 0 ≤ a.up ∧ 0 ≤ a.rf ∧ 0 ≤ a.sp ∧ a.dn + a.up + a.rf + a.sp + a.op.length + l.length = a.ct
  mo : a.cr.natAbs + usS (a.op ++ l) ≤ S
  pd : 0 ≤ a.pd ∧ a.pd ≤ a.dn * X
structure Bds (C : Int) (S : Nat) (X : Int) : Prop where
  x0 : 0 ≤ X
  xs : (S : Int) ≤ 562949953421312
  xx : X ≤ 1125899906842624
  cx : C * X ≤ 1125899906842624
  c0 : C ≤ 4000000
theorem addP_ok {a b : Int} (h1 : a.natAbs ≤ 1125899906842624) (h2 : b.natAbs ≤ 1125899906842624) (h3 : (a + b).natAbs ≤ 1125899906842624) : addP a b = (a + b, 0) := by
  have hw : IntKind.i64.wrap (a + b) = a + b := wrap_in _ (by omega) (by omega)
  unfold addP
  rw [hw]
  have e : ∀ n : Int, n.natAbs ≤ 1125899906842624 → rightP n = true := fun n hn => by simp [rightP]; omega
  rw [e a h1, e b h2, e _ h3]; rfl
theorem mulX {C X d : Int} (h0 : 0 ≤ X) (hd : d ≤ C) : d * X ≤ C * X := Int.mul_le_mul_of_nonneg_right hd h0
def SameA (a x : Ac) : Prop := x.st = a.st ∧ x.pl = a.pl ∧ x.an = a.an ∧ x.ix = a.ix ∧ x.ct = a.ct ∧ x.sk = a.sk
theorem SameA.trans {a b c : Ac} (h : SameA a b) (g : SameA b c) : SameA a c := ⟨g.1.trans h.1, g.2.1.trans h.2.1, g.2.2.1.trans h.2.2.1, g.2.2.2.1.trans h.2.2.2.1, g.2.2.2.2.1.trans h.2.2.2.2.1, g.2.2.2.2.2.trans h.2.2.2.2.2⟩
theorem close_si {C D X : Int} {S : Nat} (B : Bds C S X) {a : Ac} {c : Cy} {l : List Cy} (h : SI D S X a (c :: l)) (hC : a.ct ≤ C) : ∃ x, closeA a c = (x, 0) ∧ SI D S X x l ∧ SameA a x := by
  obtain ⟨hcy, hcl, hno, hnc, ⟨m1, m2, m3, m4, m5⟩, hmo, p0, p1⟩ := h
  obtain ⟨q1, q2, q3, q4, q5, q6⟩ := hcl c (by simp)
  have hus : a.cr.natAbs + (usS a.op + (c.us.natAbs + usS l)) ≤ S := by rw [← usS_cons, ← usS_app]; exact hmo
  have hS := B.xs
  simp only [List.length_cons] at m5
  have hsub : (a.op ++ l).Sublist (a.op ++ c :: l) := List.Sublist.append (List.Sublist.refl _) (List.sublist_cons_self _ _)
  have no2 : nosP (a.op ++ l) := List.Pairwise.sublist (hsub.map _) hno
  have nc2 : ∀ x ∈ a.op ++ l, x.no < a.ct := fun x hx => hnc x (hsub.subset hx)
  have cl2 : ∀ x ∈ l, CI D X 10 x := fun x hx => hcl x (by simp [hx])
  have hcr : addP a.cr c.us = (a.cr + c.us, 0) := addP_ok (by omega) (by omega) (by omega)
  have mo2 : ∀ r : Int, r.natAbs ≤ a.cr.natAbs + c.us.natAbs → r.natAbs + usS (a.op ++ l) ≤ S := fun r hr => by rw [usS_app]; omega
  have wr : ∀ n : Int, 0 ≤ n → n ≤ C → IntKind.i64.wrap (n + 1) = n + 1 := fun n h0 h1 => wrap_in _ (by have := B.c0; omega) (by have := B.c0; omega)
  have hl0 : (0 : Int) ≤ a.op.length := by omega
  have hl1 : (0 : Int) ≤ l.length := by omega
  by_cases he : endC c = false
  · refine ⟨_, closeA_keep he, ⟨fun x hx => ?_, cl2, by simpa using hno, by simpa using hnc, ⟨m1, m2, m3, m4, by simp; omega⟩, by simpa using hmo, p0, p1⟩, rfl, rfl, rfl, rfl, rfl, rfl⟩
    simp only [List.mem_append, List.mem_singleton] at hx
    rcases hx with hx | rfl
    · exact hcy x hx
    · exact ⟨q1, q2, ⟨q3.1, by simp [endC] at he; omega⟩, q4, q5, q6⟩
  · have he' : endC c = true := by simpa using he
    by_cases h7 : c.ph = 7
    · have hp : addP a.pd c.am = (a.pd + c.am, 0) := by
        have e1 : a.pd + c.am ≤ (a.dn + 1) * X := by rw [Int.add_mul, Int.one_mul]; omega
        have e2 := mulX (d := a.dn + 1) B.x0 (show a.dn + 1 ≤ C by omega)
        have e3 := B.cx
        have e4 := B.xx
        exact addP_ok (by omega) (by omega) (by omega)
      refine ⟨{ a with dn := IntKind.i64.wrap (a.dn + 1), pd := a.pd + c.am }, by rw [closeA_7 he' h7, hp], ⟨hcy, cl2, no2, nc2, ⟨by simp only; rw [wr _ m1 (by omega)]; omega, m2, m3, m4, by simp only; rw [wr _ m1 (by omega)]; omega⟩, mo2 _ (by simp only; omega), by simp only; omega, ?_⟩, rfl, rfl, rfl, rfl, rfl, rfl⟩
      simp only; rw [wr _ m1 (by omega), Int.add_mul, Int.one_mul]; omega
    · by_cases h8 : c.ph = 8
      · refine ⟨{ a with up := IntKind.i64.wrap (a.up + 1), cr := a.cr + c.us }, by rw [closeA_8 he' h7 h8, hcr], ⟨hcy, cl2, no2, nc2, ⟨m1, by simp only; rw [wr _ m2 (by omega)]; omega, m3, m4, by simp only; rw [wr _ m2 (by omega)]; omega⟩, mo2 _ (by simp only; omega), p0, p1⟩, rfl, rfl, rfl, rfl, rfl, rfl⟩
      · by_cases h9 : c.ph = 9
        · refine ⟨{ a with rf := IntKind.i64.wrap (a.rf + 1), cr := a.cr + c.us }, by rw [closeA_9 he' h7 h8 h9, hcr], ⟨hcy, cl2, no2, nc2, ⟨m1, m2, by simp only; rw [wr _ m3 (by omega)]; omega, m4, by simp only; rw [wr _ m3 (by omega)]; omega⟩, mo2 _ (by simp only; omega), p0, p1⟩, rfl, rfl, rfl, rfl, rfl, rfl⟩
        · refine ⟨{ a with sp := IntKind.i64.wrap (a.sp + 1) }, closeA_d he' h7 h8 h9, ⟨hcy, cl2, no2, nc2, ⟨m1, m2, m3, by simp only; rw [wr _ m4 (by omega)]; omega, by simp only; rw [wr _ m4 (by omega)]; omega⟩, mo2 _ (by simp only; omega), p0, p1⟩, rfl, rfl, rfl, rfl, rfl, rfl⟩
theorem settle_si {C D X : Int} {S : Nat} (B : Bds C S X) : ∀ (l : List Cy) (a : Ac), SI D S X a l → a.ct ≤ C → ∃ x, settleL l a = (x, 0) ∧ SI D S X x [] ∧ SameA a x
  | [], a, h, _ => ⟨a, rfl, h, rfl, rfl, rfl, rfl, rfl, rfl⟩
  | c :: l, a, h, hC => by
    obtain ⟨x, h1, h2, h3⟩ := close_si B h hC
    obtain ⟨y, g1, g2, g3⟩ := settle_si B l x h2 (by rw [h3.2.2.2.2.1]; exact hC)
    exact ⟨y, by rw [settleL, h1]; simpa using g1, g2, h3.trans g3⟩
structure AI (T D : Int) (S : Nat) (X : Int) (p : Pl) (a : Ac) : Prop where
  s : SI D S X a []
  st : 1 ≤ a.st ∧ a.st ≤ 3
  an : T ≤ a.an ∧ a.an ≤ 3652058
  ix : 0 ≤ a.ix
  up : a.ix ≠ 0 → (p.un ≤ 3 ∧ 1 ≤ p.ev ∧ p.ev ≤ 1000) ∧ Up a.an p.un p.ev (a.ix - 1) D
  c0 : 0 ≤ a.ct
  c1 : a.ct ≤ a.an + a.ix - T
  c2 : a.ct ≤ D - T + 1
end Go.Den
set_option linter.unusedVariables false
set_option maxRecDepth 100000
namespace Go.Den
open Go Go.Proofs
theorem CI.le {D D' X m m' : Int} {c : Cy} (h : CI D X m c) (hD : D ≤ D') (hm : m ≤ m') : CI D' X m' c := by
  obtain ⟨q1, q2, q3, q4, q5, q6⟩ := h
  exact ⟨q1, ⟨q2.1, by omega⟩, ⟨q3.1, by omega⟩, q4, q5, ⟨q6.1, by omega⟩⟩
theorem AI.mono {T D D' X : Int} {S S' : Nat} {p : Pl} {a : Ac} (h : AI T D S X p a) (hD : D ≤ D') (hS : S ≤ S') : AI T D' S' X p a :=
  ⟨⟨fun c hc => (h.s.cy c hc).le hD (Int.le_refl _), fun c hc => by simp at hc, h.s.no, h.s.nc, h.s.sm, Nat.le_trans h.s.mo hS, h.s.pd⟩, h.st, h.an, h.ix, fun q => by obtain ⟨k, v, h1, h2⟩ := h.up q; exact ⟨k, v, h1, by omega⟩, h.c0, h.c1, by have := h.c2; omega⟩
theorem lay_si {C D X : Int} {S : Nat} (B : Bds C S X) {a a' : Ac} {c : Cy} (h : SI D S X a []) (ho : a'.op = a.op) (hct : a'.ct = a.ct + 1) (h0 : 0 ≤ a.ct) (hs : a'.dn = a.dn ∧ a'.up = a.up ∧ a'.rf = a.rf ∧ a'.sp = a.sp ∧ a'.pd = a.pd)
    (hc : CI D X 10 c) (hn : c.no = a.ct) (hm : a'.cr.natAbs + c.us.natAbs ≤ a.cr.natAbs) : SI D S X a' [c] := by
  obtain ⟨e1, e2, e3, e4, e5⟩ := hs
  have hmo := h.mo
  have hno := h.no
  have hnc := h.nc
  have hsm := h.sm
  simp only [List.append_nil, List.length_nil] at hmo hno hnc hsm
  refine ⟨by rw [ho]; exact h.cy, fun x hx => by simp at hx; subst hx; exact hc, ?_, ?_, by rw [e1, e2, e3, e4, ho, hct]; simp; omega, ?_, by rw [e5, e1]; exact h.pd⟩
  · unfold nosP; rw [ho, List.map_append, List.pairwise_append]
    refine ⟨hno, by simp, fun x hx y hy => ?_⟩
    simp at hy
    obtain ⟨z, hz, rfl⟩ := List.mem_map.1 hx
    have := hnc z hz; omega
  · intro x hx
    rw [ho] at hx
    simp only [List.mem_append, List.mem_singleton] at hx
    rcases hx with hx | rfl
    · have := hnc x hx; omega
    · omega
  · rw [ho, usS_app, usS_cons]; simp [usS] at hmo ⊢; omega
theorem beginC_ci {D X no due am us : Int} {gd : Bool} (h0 : 0 ≤ no) (h1 : 0 ≤ due) (h2 : due ≤ D) (h3 : 0 ≤ am) (h4 : am ≤ X) : CI D X 10 (beginC no due am us gd) ∧ (beginC no due am us gd).no = no ∧ (beginC no due am us gd).us = us := by
  unfold beginC
  split
  · unfold paidC; simp only [Bool.false_eq_true, if_false]
    split <;> exact ⟨⟨h0, ⟨h1, h2⟩, by simp only; omega, by simp only; omega, by simp only; omega, by simp only; omega⟩, rfl, rfl⟩
  · exact ⟨⟨h0, ⟨h1, h2⟩, by simp only; omega, ⟨h3, h4⟩, by simp only; omega, by simp only; omega⟩, rfl, rfl⟩
theorem begin_ai {C T D X P : Int} {S : Nat} (B : Bds C S X) {p : Pl} (hp : 0 ≤ p.pr ∧ p.pr ≤ P) (hP : P ≤ 1073741824) (hPX : P + S ≤ X) (hT : 0 ≤ T) (hC : D - T + 1 ≤ C) (hD : D ≤ 3652058) {a : Ac} (h : AI T D S X p a) (hd : (dueA a p).2 = 0) (ht : (dueA a p).1 ≤ D) (m : Bool) :
    ∃ x, beginA { a with ix := IntKind.i64.wrap (a.ix + 1) } p (dueA a p).1 m = (x, 0) ∧ AI T D S X p x ∧ x.pl = a.pl ∧ x.ix = a.ix + 1 := by
  obtain ⟨hf, hv⟩ := nthF_ok (a := a.an) (u := p.un) (e := p.ev) (n := a.ix) (by simpa [dueA] using hd)
  have hr := nthO_range hf hv
  have hdd : (nthF a.an p.un p.ev a.ix).1 = (dueA a p).1 := rfl
  rw [hdd] at hr hv
  have hfi := hf.2.2
  have hix : IntKind.i64.wrap (a.ix + 1) = a.ix + 1 := wrap_in _ (by omega) (by omega)
  have hc1 := h.c1
  have hc2 := h.c2
  have hc0 := h.c0
  have hB0 := B.c0
  have hBS := B.xs
  have hBX := B.x0
  have han := h.an
  have hct : IntKind.i64.wrap (a.ct + 1) = a.ct + 1 := wrap_in _ (by omega) (by omega)
  have hcr : a.cr.natAbs ≤ S := by have := h.s.mo; omega
  -- what comes behind a closing
  have fin : ∀ (a' : Ac) (c : Cy), a'.op = a.op → a'.ct = a.ct + 1 → (a'.dn = a.dn ∧ a'.up = a.up ∧ a'.rf = a.rf ∧ a'.sp = a.sp ∧ a'.pd = a.pd) → (a'.st = a.st ∧ a'.pl = a.pl ∧ a'.an = a.an ∧ a'.ix = a.ix + 1) → CI D X 10 c → c.no = a.ct → a'.cr.natAbs + c.us.natAbs ≤ a.cr.natAbs →
      ∃ x, closeA a' c = (x, 0) ∧ AI T D S X p x ∧ x.pl = a.pl ∧ x.ix = a.ix + 1 := by
    intro a' c ho hct' hs hk hc hn hm
    obtain ⟨x, h1, h2, k1, k2, k3, k4, k5, k6⟩ := close_si B (lay_si B h.s ho hct' hc0 hs hc hn hm) (by omega)
    refine ⟨x, h1, ⟨h2, by rw [k1, hk.1]; exact h.st, by rw [k3, hk.2.2.1]; exact h.an, by rw [k4, hk.2.2.2]; omega, fun _ => ?_, by rw [k5, hct']; omega, by rw [k5, hct', k3, k4, hk.2.2.1, hk.2.2.2]; omega, by rw [k5, hct']; omega⟩, by rw [k2, hk.2.1], by rw [k4, hk.2.2.2]⟩
    rw [k3, k4, hk.2.2.1, hk.2.2.2, Int.add_sub_cancel]
    exact ⟨hf.2.1, _, hv, ht⟩
  unfold beginA
  rw [hix, hct]
  split
  · exact fin _ _ rfl rfl ⟨rfl, rfl, rfl, rfl, rfl⟩ ⟨rfl, rfl, rfl, rfl⟩ ⟨hc0, ⟨by simp only [passC]; omega, ht⟩, by simp only [passC]; omega, by simp only [passC]; omega, by simp only [passC]; omega, by simp only [passC]; omega⟩ rfl (by simp [passC])
  · have hneg : IntKind.i64.wrap (-a.cr) = -a.cr := wrap_in _ (by omega) (by omega)
    have hl : lessP p.pr a.cr = (p.pr - a.cr, 0) := by
      unfold lessP
      rw [if_pos (by simp [rightP]; omega), hneg, addP_ok (by omega) (by omega) (by omega)]; rfl
    simp only [hl]
    rw [if_neg (by simp)]
    split
    · rename_i hlt
      have hw2 : IntKind.i64.wrap (-(p.pr - a.cr)) = a.cr - p.pr := by rw [wrap_in _ (by omega) (by omega)]; omega
      obtain ⟨b1, b2, b3⟩ := beginC_ci (D := D) (X := X) (us := p.pr) (gd := p.go) hc0 (show 0 ≤ (dueA a p).1 by omega) ht (Int.le_refl 0) hBX
      exact fin _ _ rfl rfl ⟨rfl, rfl, rfl, rfl, rfl⟩ ⟨rfl, rfl, rfl, rfl⟩ b1 b2 (by rw [b3]; simp only [hw2]; omega)
    · rename_i hlt
      obtain ⟨b1, b2, b3⟩ := beginC_ci (D := D) (X := X) (us := a.cr) (gd := p.go) hc0 (show 0 ≤ (dueA a p).1 by omega) ht (show 0 ≤ p.pr - a.cr by omega) (by omega)
      exact fin _ _ rfl rfl ⟨rfl, rfl, rfl, rfl, rfl⟩ ⟨rfl, rfl, rfl, rfl⟩ b1 b2 (by rw [b3]; simp)
theorem days_ai {C T D X P : Int} {S : Nat} (B : Bds C S X) {p : Pl} (hp : 0 ≤ p.pr ∧ p.pr ≤ P) (hP : P ≤ 1073741824) (hPX : P + S ≤ X) (hT : 0 ≤ T) (hC : D - T + 1 ≤ C) (hD : D ≤ 3652058) : ∀ (n : Nat) (a : Ac), AI T D S X p a → ∃ x, dayL p D n a = (x, 0) ∧ AI T D S X p x ∧ x.pl = a.pl
  | 0, a, h => ⟨a, rfl, h, rfl⟩
  | n + 1, a, h => by
    unfold dayL
    split
    · exact ⟨a, rfl, h, rfl⟩
    · split
      · exact ⟨a, rfl, h, rfl⟩
      · rename_i q
        obtain ⟨x, h1, h2, h3, _⟩ := begin_ai B hp hP hPX hT hC hD h (by omega) (by omega) (p.la && (decide ((dueA { a with ix := IntKind.i64.wrap (a.ix + 1) } p).2 = 0) && decide ((dueA { a with ix := IntKind.i64.wrap (a.ix + 1) } p).1 ≤ D)))
        obtain ⟨y, g1, g2, g3⟩ := days_ai B hp hP hPX hT hC hD n x h2
        refine ⟨y, ?_, g2, g3.trans h3⟩
        dsimp only
        rw [h1]; simpa using g1
theorem map_ai {T D D' X : Int} {S : Nat} {p : Pl} {a : Ac} (h : AI T D S X p a) (hD : D ≤ D') (f : Cy → Cy) (h1 : ∀ c, (f c).no = c.no) (h2 : ∀ c, (f c).us = c.us) (h3 : ∀ c, CI D X 6 c → CI D' X 6 (f c)) : AI T D' S X p { a with op := a.op.map f } := by
  have h' := h.mono hD (Nat.le_refl S)
  have hno := h.s.no
  have hnc := h.s.nc
  have hmo := h.s.mo
  have hsm := h.s.sm
  simp only [List.append_nil] at hno hnc hmo
  refine ⟨⟨?_, fun c hc => by simp at hc, ?_, ?_, by simpa using hsm, ?_, h.s.pd⟩, h'.st, h'.an, h'.ix, h'.up, h'.c0, h'.c1, h'.c2⟩
  · intro c hc
    obtain ⟨z, hz, rfl⟩ := List.mem_map.1 hc
    exact h3 z (h.s.cy z hz)
  · simp only [List.append_nil, nosP, List.map_map]
    rw [show Cy.no ∘ f = Cy.no from funext h1]; exact hno
  · intro c hc
    simp only [List.append_nil] at hc
    obtain ⟨z, hz, rfl⟩ := List.mem_map.1 hc
    rw [h1]; exact hnc z hz
  · simp only [List.append_nil, usS, List.map_map]
    rw [show (fun c : Cy => c.us.natAbs) ∘ f = (fun c : Cy => c.us.natAbs) from funext fun c => by simp [h2]]; exact hmo
theorem cardC_ci {D D' X : Int} {c : Cy} (h : CI D X 6 c) (hD : D ≤ D') (h0 : 0 ≤ D) : CI D' X 6 (cardC c) := by
  have h' := h.le (m' := 6) hD (Int.le_refl _)
  unfold cardC
  split
  · rename_i q
    obtain ⟨q1, q2, q3, q4, q5, q6⟩ := h'
    have := q5.2.2 q
    have hw : IntKind.i64.wrap (c.tr + 1) = c.tr + 1 := wrap_in _ (by omega) (by omega)
    exact ⟨q1, q2, by simp only; omega, q4, by simp only; rw [hw]; omega, by simp only; omega⟩
  · exact h'
theorem cardC_no (c : Cy) : (cardC c).no = c.no ∧ (cardC c).us = c.us := by unfold cardC; split <;> exact ⟨rfl, rfl⟩
theorem wakeC_no (c : Cy) (t : Int) : (wakeC c t).no = c.no ∧ (wakeC c t).us = c.us := by unfold wakeC; split; exact cardC_no c; exact ⟨rfl, rfl⟩
theorem day_ai {C T D D' X P : Int} {S : Nat} (B : Bds C S X) {p : Pl} (hp : 0 ≤ p.pr ∧ p.pr ≤ P) (hP : P ≤ 1073741824) (hPX : P + S ≤ X) (hT : 0 ≤ T) (hDD : D ≤ D') (h0 : 0 ≤ D) (hC : D' - T + 1 ≤ C) (hD : D' ≤ 3652058) {a : Ac} (h : AI T D S X p a) : ∃ x, dayA a p D' = (x, 0) ∧ AI T D' S X p x ∧ x.pl = a.pl := by
  have h1 := map_ai h hDD (fun c => wakeC c D') (fun c => (wakeC_no c D').1) (fun c => (wakeC_no c D').2) (fun c hc => by
    unfold wakeC; split
    · exact cardC_ci hc hDD h0
    · exact hc.le hDD (Int.le_refl _))
  obtain ⟨x, g1, g2, g3⟩ := days_ai B hp hP hPX hT hC hD (dayN a) _ h1
  exact ⟨x, g1, g2, g3⟩
theorem relay_ai {C T D X : Int} {S : Nat} (B : Bds C S X) {p : Pl} {a : Ac} (h : AI T D S X p a) (hC : D - T + 1 ≤ C) (st : Int) (hst : 1 ≤ st ∧ st ≤ 3) (l : List Cy) (h1 : l.map Cy.no = a.op.map Cy.no) (h2 : l.map (fun c => c.us.natAbs) = a.op.map (fun c => c.us.natAbs)) (h3 : ∀ c ∈ l, CI D X 10 c) :
    ∃ x, settleA { a with st := st, op := l } = (x, 0) ∧ AI T D S X p x ∧ x.pl = a.pl := by
  have hno := h.s.no
  have hnc := h.s.nc
  have hmo := h.s.mo
  have hsm := h.s.sm
  simp only [List.append_nil, List.length_nil] at hno hnc hmo hsm
  have hlen : l.length = a.op.length := by have := congrArg List.length h1; simpa using this
  have hs : SI D S X { a with st := st, op := [] } l := by
    refine ⟨fun c hc => by simp at hc, h3, ?_, ?_, by simp only [List.length_nil]; omega, ?_, h.s.pd⟩
    · simp only [List.nil_append, nosP]; rw [h1]; exact hno
    · intro c hc
      simp only [List.nil_append] at hc
      have hm : c.no ∈ a.op.map Cy.no := by rw [← h1]; exact List.mem_map.2 ⟨c, hc, rfl⟩
      obtain ⟨z, hz, e⟩ := List.mem_map.1 hm
      rw [← e]; exact hnc z hz
    · simp only [List.nil_append, usS]; rw [h2]; exact hmo
  obtain ⟨x, g1, g2, k1, k2, k3, k4, k5, k6⟩ := settle_si B l _ hs (by simp only; have := h.c2; omega)
  exact ⟨x, g1, ⟨g2, by rw [k1]; exact hst, by rw [k3]; exact h.an, by rw [k4]; exact h.ix, fun q => by rw [k3, k4]; rw [k4] at q; exact h.up q, by rw [k5]; exact h.c0, by rw [k5, k3, k4]; exact h.c1, by rw [k5]; exact h.c2⟩, k2⟩
theorem overC_ci {D X : Int} {c : Cy} (h : CI D X 6 c) (h0 : 0 ≤ D) : CI D X 10 (overC c) ∧ (overC c).no = c.no ∧ (overC c).us = c.us := by
  unfold overC
  split
  · obtain ⟨q1, q2, q3, q4, q5, q6⟩ := h
    exact ⟨⟨q1, q2, by simp only; omega, q4, by simp only; omega, by simp only; omega⟩, rfl, rfl⟩
  · exact ⟨h.le (Int.le_refl _) (by decide), rfl, rfl⟩
theorem cancel_ai {C T D X : Int} {S : Nat} (B : Bds C S X) {p : Pl} {a : Ac} (h : AI T D S X p a) (h0 : 0 ≤ D) (hC : D - T + 1 ≤ C) : ((a.st = 1 ∨ a.st = 2) → ∃ x, cancelA a = (x, 0) ∧ AI T D S X p x ∧ x.pl = a.pl) ∧ (¬ (a.st = 1 ∨ a.st = 2) → cancelA a = (zeroA, 8)) := by
  unfold cancelA
  refine ⟨fun q => ?_, fun q => by rw [if_pos (by omega)]⟩
  rw [if_neg (by omega)]
  refine relay_ai B h hC 3 (by decide) _ (by rw [List.map_map]; exact List.map_congr_left fun c hc => (overC_ci (h.s.cy c hc) h0).2.1) (by rw [List.map_map]; exact List.map_congr_left fun c hc => by simp [(overC_ci (h.s.cy c hc) h0).2.2]) (fun c hc => ?_)
  obtain ⟨z, hz, rfl⟩ := List.mem_map.1 hc
  exact (overC_ci (h.s.cy z hz) h0).1
theorem card_ai {T D X : Int} {S : Nat} {p : Pl} {a : Ac} (h : AI T D S X p a) (h0 : 0 ≤ D) : AI T D S X p { a with op := a.op.map cardC } := map_ai h (Int.le_refl _) cardC (fun c => (cardC_no c).1) (fun c => (cardC_no c).2) (fun c hc => cardC_ci hc (Int.le_refl _) h0)
theorem back_ci {D X : Int} {c : Cy} (h : CI D X 6 c) : CI D X 10 (backC c) ∧ (backC c).no = c.no ∧ (backC c).us = c.us := by
  obtain ⟨q1, q2, q3, q4, q5, q6⟩ := h
  unfold backC
  split <;> exact ⟨⟨q1, q2, by simp only; omega, q4, by simp only; omega, q6⟩, rfl, rfl⟩
theorem ph_ci {D X : Int} {c : Cy} (h : CI D X 6 c) {f : Int} (hf : 3 ≤ f ∧ f ≤ 10) : CI D X 10 { c with ph := f } := by
  obtain ⟨q1, q2, q3, q4, q5, q6⟩ := h
  exact ⟨q1, q2, by simp only; omega, q4, by simp only; omega, q6⟩
theorem paid_ci {D X : Int} {c : Cy} (h : CI D X 6 c) (o : Bool) : CI D X 10 (paidC c o) ∧ (paidC c o).no = c.no ∧ (paidC c o).us = c.us := by
  unfold paidC
  split
  · exact back_ci h
  · split <;> exact ⟨ph_ci h (by decide), rfl, rfl⟩
theorem hear_ci {D X su : Int} {c x : Cy} {n : Nt} {o : Bool} (h : CI D X 6 c) (h0 : 0 ≤ D) (hD : D ≤ 4000000) (hx : hearC su c n D o = (x, 0)) : CI D X 10 x ∧ x.no = c.no ∧ x.us = c.us := by
  unfold hearC at hx
  split at hx
  · simp at hx
  · split at hx
    · simp only [Prod.mk.injEq, and_true] at hx
      subst hx
      unfold chargedC
      split
      · exact paid_ci h o
      · split
        · rename_i q
          obtain ⟨q1, q2, q3, q4, q5, q6⟩ := h
          have hl : 1 ≤ ladC c.tr ∧ ladC c.tr ≤ 7 := by unfold ladC; split <;> (try split) <;> omega
          have hw : IntKind.i64.wrap (D + ladC c.tr) = D + ladC c.tr := wrap_in _ (by omega) (by omega)
          exact ⟨⟨q1, q2, by simp only; omega, q4, by simp only; omega, by simp only; rw [hw]; omega⟩, rfl, rfl⟩
        · exact ⟨ph_ci h (by decide), rfl, rfl⟩
    · split at hx
      · simp only [Prod.mk.injEq, and_true] at hx
        subst hx
        split
        · exact back_ci h
        · split <;> exact ⟨ph_ci h (by decide), rfl, rfl⟩
      · split at hx
        · simp only [Prod.mk.injEq, and_true] at hx
          subst hx
          split <;> exact ⟨ph_ci h (by decide), rfl, rfl⟩
        · split at hx
          · simp only [Prod.mk.injEq, and_true] at hx
            subst hx
            exact back_ci h
          · simp only [Prod.mk.injEq, and_true] at hx
            subst hx
            exact ⟨ph_ci h (by decide), rfl, rfl⟩
theorem set_same {α β : Type} (f : α → β) {l : List α} {i : Nat} (hi : i < l.length) {x : α} (h : f x = f l[i]) : (l.set i x).map f = l.map f := by
  rw [List.map_set, h]
  apply List.ext_getElem?
  intro j
  by_cases e : i = j
  · subst e; rw [List.getElem?_set_self (by simpa using hi)]; simp [hi]
  · rw [List.getElem?_set_ne e]
theorem hear_ai {C T D X su : Int} {S : Nat} (B : Bds C S X) {p : Pl} {a : Ac} (h : AI T D S X p a) (h0 : 0 ≤ D) (hD : D ≤ 3652058) (hC : D - T + 1 ≤ C) (n : Nt) : (hearA su a n D = (zeroA, 10)) ∨ ∃ x, hearA su a n D = (x, 0) ∧ AI T D S X p x ∧ x.pl = a.pl := by
  cases hf : a.op.findIdx? (fun c => decide (c.no = n.cy)) with
  | none => left; unfold hearA; rw [hf]
  | some i =>
    obtain ⟨hi, _⟩ := List.findIdx?_eq_some_iff_getElem.1 hf
    have hg : a.op.getD i ⟨0, 0, 0, 0, 0, 0, 0, false⟩ = a.op[i] := by rw [List.getD_eq_getElem?_getD, List.getElem?_eq_getElem hi]; rfl
    have he : (hearC su a.op[i] n D (decide (a.st = 3))).2 = 0 ∨ (hearC su a.op[i] n D (decide (a.st = 3))).2 = 10 := by
      unfold hearC
      split; exact .inr rfl
      split; exact .inl rfl
      split; exact .inl rfl
      split; exact .inl rfl
      split <;> exact .inl rfl
    unfold hearA
    rw [hf]
    simp only [hg]
    generalize hx : hearC su a.op[i] n D (decide (a.st = 3)) = r at he
    obtain ⟨x, e⟩ := r
    rcases he with he | he <;> simp only at he <;> subst he
    · right
      rw [if_neg (by simp)]
      obtain ⟨c1, c2, c3⟩ := hear_ci (h.s.cy _ (List.getElem_mem hi)) h0 (by omega) hx
      refine relay_ai B h hC a.st h.st _ (set_same Cy.no hi c2) (set_same _ hi (by simp [c3])) (fun c hc => ?_)
      rcases List.mem_or_eq_of_mem_set hc with q | rfl
      · exact (h.s.cy c q).le (Int.le_refl _) (by decide)
      · exact c1
    · left; rw [if_pos (by simp)]
theorem cnt_ex {a u e day : Int} (h1 : 0 ≤ a) (h2 : a ≤ 3652058) (he : 1 ≤ e) : ∃ c, Cnt a u e day c := by
  have key : ∀ N : Nat, (∃ c, Cnt a u e day c) ∨ (∀ i : Int, 0 ≤ i → i < N → Up a u e i day) := by
    intro N
    induction N with
    | zero => right; intro i h0 h1; omega
    | succ N ih =>
      rcases ih with q | q
      · exact .inl q
      · by_cases hu : Up a u e N day
        · right; intro i h0 h1
          by_cases e : i = N
          · rw [e]; exact hu
          · exact q i h0 (by omega)
        · left; exact ⟨N, by omega, q, hu⟩
  rcases key ((day - a).toNat + 2) with q | q
  · exact q
  · exact absurd (q ((day - a).toNat + 1) (by omega) (by omega)) (up_not h1 h2 he (by omega) (by omega))
theorem change_ai {T D X P : Int} {S S' : Nat} {p t p2 : Pl} (hp : 0 ≤ p.pr ∧ p.pr ≤ P) (hp2 : 0 ≤ t.pr ∧ t.pr ≤ P) (hP : P ≤ 1073741824) (hS : (S' : Int) = S + P) (hSb : (S' : Int) ≤ 562949953421312) (hT : 0 ≤ T) {a : Ac} (h : AI T D S X p a) (hD0 : 0 ≤ D) (hD : D ≤ 3652058) (hDT : D - T + 1 ≤ 3652058) (n : Int) :
    (changeA a p n t D = (zeroA, 8) ) ∨ ∃ x, changeA a p n t D = (x, 0) ∧ AI T D S' X p2 x ∧ x.pl = n := by
  have hSS : S ≤ S' := by omega
  have h' := h.mono (Int.le_refl D) hSS
  unfold changeA
  split
  · exact .inl rfl
  · dsimp only
    split
    · rename_i q0 q
      right
      obtain ⟨q1, q2⟩ := q
      have hup := h.up (by omega)
      have han := h.an
      have hb : Cntb a.an p.un p.ev D := by
        refine Classical.byContradiction fun hc => ?_
        unfold spanF at q1
        rw [if_neg hc] at q1; simp at q1
      have hfe := hb.1.2.1
      obtain ⟨c, hc⟩ := cnt_ex (u := p.un) (day := D) hb.1.1.1 hb.1.1.2 hfe.2.1
      have ec := cntF_eq hc
      unfold spanF at q1
      rw [if_pos hb, ec] at q1
      by_cases hc0 : c = 0
      · rw [if_pos hc0] at q1; simp at q1
      rw [if_neg hc0] at q1
      have hn : (nthF a.an p.un p.ev c).2 = 0 := by
        refine Classical.byContradiction fun hn => ?_
        rw [if_neg hn] at q1; exact hn q1
      have es : spanF a.an p.un p.ev D = ((nthF a.an p.un p.ev (c - 1)).1, (nthF a.an p.un p.ev c).1, 0) := by
        unfold spanF; rw [if_pos hb, ec, if_neg hc0, if_pos hn]
      have hcx : a.ix ≤ c := by
        refine Classical.byContradiction fun q => hc.2.2 (up_down hb.1.1.1 hb.1.1.2 hfe.2.1 hc.1 (show c ≤ a.ix - 1 by omega) hup.2)
      obtain ⟨f1, f2⟩ := nthF_ok hn
      have r1 := nthO_range f1 f2
      have hu1 := hc.2.1 (c - 1) (by have := hc.1; omega) (by omega)
      have hlo : (nthF a.an p.un p.ev (c - 1)).1 ≤ D := by
        have := (up_iff (day := D) (show Fine a.an p.un p.ev (c - 1) from ⟨f1.1, f1.2.1, by have := hc.1; have := f1.2.2; omega⟩)).1 hu1
        exact this.2
      have hb2 := nthF_bd a.an p.un p.ev (c - 1)
      have hhi : D < (nthF a.an p.un p.ev c).1 := by
        refine Classical.byContradiction fun q => hc.2.2 ⟨_, f2, by omega⟩
      rw [es]
      simp only
      generalize (nthF a.an p.un p.ev c).1 = nx at *
      generalize (nthF a.an p.un p.ev (c - 1)).1 = fs at *
      rw [wrap_in (nx - D) (by omega) (by omega), wrap_in (nx - fs) (by omega) (by omega)]
      have part : ∀ r : Int, 0 ≤ r ∧ r ≤ P → partP r (nx - D) (nx - fs) = (r * (nx - D) / (nx - fs), 0) ∧ 0 ≤ r * (nx - D) / (nx - fs) ∧ r * (nx - D) / (nx - fs) ≤ P := by
        intro r hr
        have e1 : 0 ≤ r * (nx - D) := Int.mul_nonneg hr.1 (by omega)
        have e2 : r * (nx - D) ≤ r * (nx - fs) := Int.mul_le_mul_of_nonneg_left (by omega) hr.1
        refine ⟨?_, Int.ediv_nonneg e1 (by omega), ?_⟩
        · unfold partP
          rw [if_neg (by simp [rightP]; omega), if_neg (by omega)]
        · have e3 : r * (nx - D) / (nx - fs) ≤ r := by
            apply Int.le_of_lt_add_one
            apply Int.ediv_lt_of_lt_mul (by omega)
            rw [Int.add_mul]; omega
          omega
      obtain ⟨a1, a2, a3⟩ := part p.pr hp
      obtain ⟨b1, b2, b3⟩ := part t.pr hp2
      have em : planChg p t (nx - D) (nx - fs) = (p.pr * (nx - D) / (nx - fs), t.pr * (nx - D) / (nx - fs), 0) := by
        unfold planChg; rw [a1, b1]; simp
      rw [em]
      simp only
      generalize p.pr * (nx - D) / (nx - fs) = u at *
      generalize t.pr * (nx - D) / (nx - fs) = v at *
      rw [wrap_in (u - v) (by omega) (by omega)]
      have hmo := h.s.mo
      simp only [List.append_nil] at hmo
      have ea : addP a.cr (u - v) = (a.cr + (u - v), 0) := addP_ok (by omega) (by omega) (by omega)
      rw [ea]
      refine ⟨{ a with cr := a.cr + (u - v), an := nx, pl := n, ix := 0 }, by simp, ⟨⟨h.s.cy, fun c hc => by simp at hc, h.s.no, h.s.nc, h.s.sm, ?_, h.s.pd⟩, h.st, by simp only; omega, Int.le_refl _, fun q => absurd rfl q, h.c0, by simp only; have := h.c1; omega, h.c2⟩, rfl⟩
      simp only [List.append_nil]; omega
    · split
      · exact .inl rfl
      · rename_i q0 q1 q2
        right
        refine ⟨{ a with pl := n, ix := 0 }, rfl, ⟨⟨h'.s.cy, h'.s.cl, h'.s.no, h'.s.nc, h'.s.sm, h'.s.mo, h'.s.pd⟩, h'.st, h'.an, Int.le_refl _, fun q => absurd rfl q, h'.c0, ?_, h'.c2⟩, rfl⟩
        simp only
        -- where no anchor is set, no period has begun
        by_cases hix : a.ix = 0
        · have := h.c1; omega
        · exfalso
          obtain ⟨k, hup⟩ := h.up hix
          have han := h.an
          have hi := h.ix
          have hb : Cntb a.an p.un p.ev D := ⟨⟨by omega, k, by omega⟩, hD0, hD⟩
          obtain ⟨c, hc⟩ := cnt_ex (u := p.un) (day := D) hb.1.1.1 hb.1.1.2 k.2.1
          have hcx : a.ix ≤ c := by
            refine Classical.byContradiction fun q => hc.2.2 (up_down hb.1.1.1 hb.1.1.2 k.2.1 hc.1 (show c ≤ a.ix - 1 by omega) hup)
          have hce : a.an + (c - 1) ≤ D := by
            refine Classical.byContradiction fun q => up_not hb.1.1.1 hb.1.1.2 k.2.1 (show 0 ≤ c - 1 by omega) (by omega) (hc.2.1 (c - 1) (by omega) (by omega))
          have es : (spanF a.an p.un p.ev D).2.2 = (nthF a.an p.un p.ev c).2 := by
            unfold spanF; rw [if_pos hb, cntF_eq hc, if_neg (by omega)]
            split
            · rename_i q; exact q.symm
            · rfl
          have hfc : Fine a.an p.un p.ev c := ⟨hb.1.1, k, by omega, by omega⟩
          have e2 : (nthF a.an p.un p.ev c).2 = 0 ∨ (nthF a.an p.un p.ev c).2 = 6 := by
            unfold nthF; rw [if_pos hfc]
            cases nthO a.an p.un p.ev c with
            | none => exact .inr rfl
            | some v => exact .inl rfl
          rcases e2 with e2 | e2
          · exact q1 ⟨es.trans e2, by omega⟩
          · exact q2 (es.trans e2)
end Go.Den
set_option linter.unusedVariables false
set_option maxRecDepth 100000
namespace Go.Den
open Go Go.Proofs
def SubI (T D : Int) (S : Nat) (X : Int) (pls : List Pl) (a : Ac) : Prop := a = zeroA ∨ (AI T D S X (getP pls a.pl).1 a ∧ 0 ≤ a.pl ∧ a.pl < pls.length)
structure BI (T P : Int) (S : Nat) (X : Int) (b : Bk) : Prop where
  t0 : T ≤ b.today
  t1 : b.today ≤ 3652058
  pls : ∀ p ∈ b.pls, 0 ≤ p.pr ∧ p.pr ≤ P
  subs : ∀ a ∈ b.subs, SubI T b.today S X b.pls a
theorem SubI.mono {T D X : Int} {S S' : Nat} {pls : List Pl} {a : Ac} (h : SubI T D S X pls a) (hS : S ≤ S') : SubI T D S' X pls a := h.imp id fun ⟨g, q⟩ => ⟨g.mono (Int.le_refl _) hS, q⟩
theorem getP_app {l r : List Pl} {n : Int} (h0 : 0 ≤ n) (h1 : n < l.length) : getP (l ++ r) n = getP l n := by
  unfold getP
  rw [if_neg (by simp; omega), if_neg (by omega)]
  simp only [List.getD_eq_getElem?_getD]
  rw [List.getElem?_append_left (by omega)]
theorem getP_in {l : List Pl} {n : Int} (h : (getP l n).2 = 0) : 0 ≤ n ∧ n < l.length := by
  unfold getP at h
  split at h
  · simp at h
  · omega
theorem getP_bd {P : Int} {l : List Pl} (hP : 0 ≤ P) (h : ∀ p ∈ l, 0 ≤ p.pr ∧ p.pr ≤ P) (n : Int) : 0 ≤ (getP l n).1.pr ∧ (getP l n).1.pr ≤ P := by
  rcases getP_mem (l := l) (n := n) with e | e
  · rw [e]; exact ⟨Int.le_refl _, hP⟩
  · exact h _ e
theorem BI.put {T P X : Int} {S S' : Nat} {b : Bk} (h : BI T P S X b) (hS : S ≤ S') {i : Int} {x : Ac} (hx : SubI T b.today S' X b.pls x) : BI T P S' X (b.put i (x, 0)).1 := by
  unfold Bk.put
  rw [if_neg (by simp)]
  refine ⟨h.t0, h.t1, h.pls, fun a ha => ?_⟩
  rcases List.mem_or_eq_of_mem_set ha with q | rfl
  · exact (h.subs a q).mono hS
  · exact hx
theorem BI.mono {T P X : Int} {S S' : Nat} {b : Bk} (h : BI T P S X b) (hS : S ≤ S') : BI T P S' X b := ⟨h.t0, h.t1, h.pls, fun a ha => (h.subs a ha).mono hS⟩
theorem BI.sub {T P X : Int} {S : Nat} {b : Bk} (h : BI T P S X b) (i : Int) : SubI T b.today S X b.pls (b.sub i) := by
  unfold Bk.sub
  rw [List.getD_eq_getElem?_getD]
  cases hc : b.subs[i.toNat]? with
  | none => exact .inl rfl
  | some a => exact h.subs a (List.mem_of_getElem? hc)
def Okd (T D : Int) (S : Nat) (X : Int) (pls : List Pl) (r : Ac × Int) : Prop := (r.2 ≠ 0 ∧ r.2 ≠ 9) ∨ (r.2 = 0 ∧ AI T D S X (getP pls r.1.pl).1 r.1 ∧ 0 ≤ r.1.pl ∧ r.1.pl < pls.length)
theorem Okd.put {T P X : Int} {S S' : Nat} {b : Bk} (h : BI T P S X b) (hS : S ≤ S') {i : Int} {r : Ac × Int} (hr : Okd T b.today S' X b.pls r) : (b.put i r).2 ≠ 9 ∧ ((b.put i r).2 = 0 → BI T P S' X (b.put i r).1 ∧ (b.put i r).1.today = b.today) := by
  obtain ⟨x, e⟩ := r
  rcases hr with ⟨h1, h2⟩ | ⟨h1, h2⟩
  · refine ⟨?_, fun q => ?_⟩
    · unfold Bk.put; rw [if_pos h1]; exact h2
    · unfold Bk.put at q; rw [if_pos h1] at q; exact absurd q h1
  · simp only at h1; subst h1
    refine ⟨by simp [Bk.put], fun _ => ⟨h.put hS (.inr h2), by simp [Bk.put]⟩⟩
theorem st_ai {T D X : Int} {S : Nat} {p : Pl} {a : Ac} (h : AI T D S X p a) {t : Int} (ht : 1 ≤ t ∧ t ≤ 3) : AI T D S X p { a with st := t } := ⟨⟨h.s.cy, h.s.cl, h.s.no, h.s.nc, h.s.sm, h.s.mo, h.s.pd⟩, ht, h.an, h.ix, h.up, h.c0, h.c1, h.c2⟩
theorem sk_ai {T D X : Int} {S : Nat} {p : Pl} {a : Ac} (h : AI T D S X p a) (k : Bool) : AI T D S X p { a with sk := k } := ⟨⟨h.s.cy, h.s.cl, h.s.no, h.s.nc, h.s.sm, h.s.mo, h.s.pd⟩, h.st, h.an, h.ix, h.up, h.c0, h.c1, h.c2⟩
theorem getP_c (l : List Pl) (n : Int) : (getP l n).2 = 0 ∨ (getP l n).2 = 2 := by unfold getP; split; exact .inr rfl; exact .inl rfl
structure Room (T P C : Int) (S S' : Nat) (X : Int) (b : Bk) (o : Od) : Prop where
  B : Bds C S' X
  p0 : 0 ≤ P
  p1 : P ≤ 1073741824
  s : (S' : Int) = S + P
  px : P + S' ≤ X
  t0 : 0 ≤ T
  c0 : C ≤ 3652058
  c1 : b.today - T + 1 ≤ C
  pass : o.kd = 9 → b.today + o.n - T + 1 ≤ C
  def1 : o.kd = 1 → o.p.pr ≤ P
theorem turn_okd {T P C X : Int} {S S' : Nat} {b : Bk} {o : Od} (R : Room T P C S S' X b o) (h : BI T P S X b) {a : Ac} (ha : AI T b.today S X (getP b.pls a.pl).1 a) (hp0 : 0 ≤ a.pl) (hp1 : a.pl < b.pls.length) : Okd T b.today S' X b.pls (turnB b a o) := by
  have hS : S ≤ S' := by have := R.s; have := R.p0; omega
  have ha' := ha.mono (Int.le_refl _) hS
  have h0 := h.t0
  have hT := R.t0
  have hC := R.c1
  have hd : (0 : Int) ≤ b.today := by omega
  have e8 : ∀ r : Ac × Int, r = (zeroA, 8) → Okd T b.today S' X b.pls r := fun r e => .inl (by rw [e]; decide)
  unfold turnB
  split
  · unfold turnA; split
    · exact e8 _ rfl
    · exact .inr ⟨rfl, st_ai ha' (by decide), hp0, hp1⟩
  · split
    · unfold turnA; split
      · exact e8 _ rfl
      · exact .inr ⟨rfl, st_ai ha' (by decide), hp0, hp1⟩
    · split
      · unfold skipA; split
        · exact e8 _ rfl
        · exact .inr ⟨rfl, sk_ai ha' true, hp0, hp1⟩
      · split
        · obtain ⟨k1, k2⟩ := cancel_ai R.B ha' hd hC
          by_cases q : a.st = 1 ∨ a.st = 2
          · obtain ⟨x, g1, g2, g3⟩ := k1 q
            rw [g1]; exact .inr ⟨rfl, by simp only; rw [g3]; exact g2, by simp only; omega, by simp only; omega⟩
          · exact e8 _ (k2 q)
        · split
          · unfold cardA; split
            · exact e8 _ rfl
            · exact .inr ⟨rfl, card_ai ha' hd, hp0, hp1⟩
          · split
            · rename_i q
              refine .inl ?_
              rcases getP_c b.pls o.pl with e | e
              · exact absurd e q
              · simp [e]
            · rename_i q
              have hin := getP_in (l := b.pls) (n := o.pl) (by simpa using q)
              rcases change_ai (p2 := (getP b.pls o.pl).1) (getP_bd R.p0 h.pls a.pl) (getP_bd R.p0 h.pls o.pl) R.p1 R.s R.B.xs hT ha hd h.t1 (by have := R.c0; omega) o.pl with e | ⟨x, g1, g2, g3⟩
              · exact e8 _ e
              · rw [g1]; exact .inr ⟨rfl, by simp only; rw [g3]; exact g2, by simp only; omega, by simp only; omega⟩
theorem open_okd {T P C X : Int} {S S' : Nat} {b : Bk} {o : Od} (R : Room T P C S S' X b o) (h : BI T P S X b) (hr : ∀ p ∈ b.pls, rightPl p = 0) : Okd T b.today S' X b.pls (openB b o) := by
  have hT := R.t0
  have h0 := h.t0
  unfold openB
  dsimp only
  split
  · rename_i q
    refine .inl ?_
    rcases getP_c b.pls o.pl with e | e
    · exact absurd e q
    · simp [e]
  · rename_i q
    have hin := getP_in (l := b.pls) (n := o.pl) (by simpa using q)
    split
    · exact .inl (by decide)
    · split
      · exact .inl (by decide)
      · rename_i q2
        have htr : 0 ≤ (getP b.pls o.pl).1.tr ∧ (getP b.pls o.pl).1.tr ≤ 1000 := by
          rcases getP_mem (l := b.pls) (n := o.pl) with e | e
          · rw [e]; decide
          · have := right_bd (hr _ e); omega
        have h1 := h.t1
        have hw : IntKind.i64.wrap (b.today + (getP b.pls o.pl).1.tr) = b.today + (getP b.pls o.pl).1.tr := wrap_in _ (by omega) (by omega)
        rw [hw] at q2
        have hx0 := R.B.x0
        have ha : AI T b.today S' X (getP b.pls o.pl).1 (openAc o.pl (getP b.pls o.pl).1 b.today) := by
          refine ⟨⟨fun c hc => by simp [openAc] at hc, fun c hc => by simp at hc, by simp [openAc, nosP], fun c hc => by simp [openAc] at hc, by simp [openAc], by simp [openAc, usS], by simp [openAc]⟩, by simp [openAc], ?_, Int.le_refl _, fun q => absurd rfl q, Int.le_refl _, ?_, ?_⟩
          · simp only [openAc, hw]; omega
          · simp only [openAc, hw]; omega
          · simp only [openAc]; omega
        obtain ⟨x, g1, g2, g3⟩ := day_ai R.B (getP_bd R.p0 h.pls o.pl) R.p1 R.px hT (Int.le_refl b.today) (by omega) R.c1 h1 ha
        rw [g1]
        have e : x.pl = o.pl := g3
        exact .inr ⟨rfl, by simp only; rw [e]; exact g2, by simp only; omega, by simp only; omega⟩
theorem pass_okd {T P C X D' : Int} {S : Nat} {pls : List Pl} {D : Int} (B : Bds C S X) (hp : 0 ≤ P) (hP : P ≤ 1073741824) (hPX : P + S ≤ X) (hpl : ∀ p ∈ pls, 0 ≤ p.pr ∧ p.pr ≤ P) (hT : 0 ≤ T) (hTD : T ≤ D) (hDD : D ≤ D') (hC : D' - T + 1 ≤ C) (hD : D' ≤ 3652058) :
    ∀ l : List Ac, (∀ a ∈ l, SubI T D S X pls a) → ∃ l', passL pls D' l = (l', 0) ∧ ∀ a ∈ l', SubI T D' S X pls a
  | [], _ => ⟨[], rfl, fun a ha => by simp at ha⟩
  | a :: l, h => by
    obtain ⟨l', h1, h2⟩ := pass_okd B hp hP hPX hpl hT hTD hDD hC hD l (fun x hx => h x (by simp [hx]))
    rcases h a (by simp) with rfl | ⟨ha, p0, p1⟩
    · refine ⟨zeroA :: l', by simp [passL, h1, zeroA], fun x hx => ?_⟩
      simp only [List.mem_cons] at hx
      rcases hx with rfl | hx
      · exact .inl rfl
      · exact h2 x hx
    · obtain ⟨x, g1, g2, g3⟩ := day_ai B (getP_bd hp hpl a.pl) hP hPX hT hDD (by omega) hC hD ha
      have hst : ¬ a.st = 0 := by have := ha.st; omega
      refine ⟨x :: l', by simp [passL, h1, hst, g1], fun y hy => ?_⟩
      simp only [List.mem_cons] at hy
      rcases hy with rfl | hy
      · exact .inr ⟨by rw [g3]; exact g2, by omega, by omega⟩
      · exact h2 y hy
theorem step_bi {T P C X : Int} {S S' : Nat} {b : Bk} {o : Od} (R : Room T P C S S' X b o) (h : BI T P S X b) (hr : ∀ p ∈ b.pls, rightPl p = 0) (ho : rightO o = 0) :
    (stepB b o).2 ≠ 9 ∧ ((stepB b o).2 = 0 → BI T P S' X (stepB b o).1 ∧ (stepB b o).1.today = if o.kd = 9 then b.today + o.n else b.today) := by
  have hS : S ≤ S' := by have := R.s; have := R.p0; omega
  have h0 := h.t0
  have h1 := h.t1
  have hT := R.t0
  unfold stepB
  rw [if_neg (by simpa using ho)]
  split
  · rename_i k1
    have hp : rightPl o.p = 0 := by
      unfold rightO at ho
      rw [if_neg (by rw [k1]; decide), if_pos k1] at ho
      split at ho
      · simp at ho
      · exact ho
    have hb := right_bd hp
    split
    · rename_i q
      refine ⟨?_, fun e => absurd e q⟩
      unfold addPl; rw [if_neg (by simpa using hp)]; split <;> simp
    · rename_i q
      have hadd : addPl b.pls o.p = (b.pls ++ [o.p], (b.pls.length : Int), 0) := by
        unfold addPl at q ⊢
        rw [if_neg (by simpa using hp)] at q ⊢
        by_cases q8 : 8 ≤ b.pls.length
        · rw [if_pos q8] at q; simp at q
        · rw [if_neg q8]
      rw [hadd]
      refine ⟨by simp, fun _ => ⟨⟨h0, h1, ?_, ?_⟩, by rw [if_neg (by omega)]⟩⟩
      · intro p hp2
        simp only [List.mem_append, List.mem_singleton] at hp2
        rcases hp2 with hp2 | rfl
        · exact h.pls p hp2
        · exact ⟨hb.1, R.def1 k1⟩
      · intro a ha
        refine ((h.subs a ha).mono hS).imp id fun ⟨g, p0, p1⟩ => ⟨?_, p0, by simp; omega⟩
        rw [getP_app p0 p1]; exact g
  · rename_i k1
    split
    · rename_i k2
      obtain ⟨g1, g2⟩ := (open_okd R h hr).put h hS (i := o.su)
      exact ⟨g1, fun e => by rw [if_neg (by omega)]; exact g2 e⟩
    · rename_i k2
      split
      · rename_i k9
        have hn : 1 ≤ o.n ∧ o.n ≤ 60 := by
          unfold rightO at ho
          rw [if_neg (by rw [k9]; decide), if_neg k1, if_pos k9] at ho
          split at ho
          · simp at ho
          · omega
        have hw : IntKind.i64.wrap (b.today + o.n) = b.today + o.n := wrap_in _ (by omega) (by omega)
        have hpc := R.pass k9
        unfold passB
        rw [hw]
        split
        · exact ⟨by simp, fun e => by simp at e⟩
        · rename_i q
          obtain ⟨l', g1, g2⟩ := pass_okd R.B R.p0 R.p1 R.px h.pls hT h0 (show b.today ≤ b.today + o.n by omega) hpc (by omega) b.subs (fun a ha => (h.subs a ha).mono hS)
          dsimp only
          rw [g1]
          simp only
          refine ⟨by simp, fun _ => ⟨⟨by simp; omega, by simp; omega, h.pls, g2⟩, by simp [k9]⟩⟩
      · rename_i k9
        split
        · rename_i k10
          have hk : Okd T b.today S' X b.pls (hearA o.a.su (b.sub o.a.su) o.a b.today) := by
            rcases h.sub o.a.su with e | ⟨g, p0, p1⟩
            · rw [e, hearA_none (a := zeroA) (n := o.a) (fun j hj => by simp [zeroA] at hj)]; exact .inl (by decide)
            · rcases hear_ai (su := o.a.su) R.B (g.mono (Int.le_refl _) hS) (by omega) h1 R.c1 o.a with e | ⟨x, g1, g2, g3⟩
              · rw [e]; exact .inl (by decide)
              · rw [g1]; exact .inr ⟨rfl, by simp only; rw [g3]; exact g2, by simp only; omega, by simp only; omega⟩
          obtain ⟨g1, g2⟩ := hk.put h hS (i := o.a.su)
          exact ⟨g1, fun e => g2 e⟩
        · rename_i k10
          split
          · exact ⟨by simp, fun e => by simp at e⟩
          · rename_i q
            rcases h.sub o.su with e | ⟨g, p0, p1⟩
            · rw [e] at q; exact absurd rfl q
            · obtain ⟨g1, g2⟩ := (turn_okd R h g p0 p1).put h hS (i := o.su)
              exact ⟨g1, fun e => g2 e⟩
end Go.Den
set_option linter.unusedVariables false
set_option maxRecDepth 100000
namespace Go.Den
open Go Go.Proofs
theorem close_op {a x : Ac} {c : Cy} (h : closeA a c = (x, 0)) : x.op = a.op ++ [c].filter (fun c => !endC c) := by
  unfold closeA at h
  split at h
  · rename_i q; cases h; simp [q]
  · rename_i q
    have q' : endC c = true := by simpa using q
    have : [c].filter (fun c => !endC c) = [] := by simp [q']
    rw [this, List.append_nil]
    have e := congrArg (fun r : Ac × Int => r.1.op) h
    simp only at e
    rw [← e]
    split <;> (try split) <;> (try split) <;> rfl
theorem settle_op : ∀ (l : List Cy) (a x : Ac), settleL l a = (x, 0) → x.op = a.op ++ l.filter (fun c => !endC c)
  | [], a, x, h => by cases h; simp
  | c :: l, a, x, h => by
    unfold settleL at h
    split at h
    · rename_i q; exact absurd (congrArg Prod.snd h) q
    · rename_i q
      have h1 : closeA a c = ((closeA a c).1, 0) := Prod.ext rfl (by simpa using q)
      rw [settle_op l _ x h, close_op h1, List.append_assoc, ← List.filter_append]; rfl
theorem nos_uniq {l : List Cy} (h : nosP l) {i j : Nat} (hi : i < l.length) (hj : j < l.length) (e : l[i].no = l[j].no) : i = j := by
  unfold nosP at h
  rw [List.pairwise_iff_getElem] at h
  rcases Nat.lt_trichotomy i j with q | q | q
  · have := h i j (by simpa using hi) (by simpa using hj) q; simp at this; omega
  · exact q
  · have := h j i (by simpa using hj) (by simpa using hi) q; simp at this; omega
def yesN (n : Nt) : Nt := { n with ve := 1 }
theorem asks_no {su : Int} {c : Cy} (h : (asksC su c).2 = true) : (asksC su c).1.cy = c.no ∧ (asksC su c).1.su = su ∧ (asksC su c).1.ve = 0 ∧ (1 ≤ (asksC su c).1.kd ∧ (asksC su c).1.kd ≤ 5) ∧ ((asksC su c).1.tr = 0 ∨ (asksC su c).1.tr = c.tr) ∧ ((asksC su c).1.am = 0 ∨ (asksC su c).1.am = c.am) := by
  unfold asksC at h ⊢
  repeat' split
  all_goals first | (simp_all; done) | (simp; omega)
theorem yes_c {su D : Int} {c : Cy} {o : Bool} (h : (asksC su c).2 = true) : ∃ x, hearC su c (yesN (asksC su c).1) D o = (x, 0) ∧ ((asksC su x).2 = false ∨ (asksC su x).1 ≠ (asksC su c).1) := by
  have h0 := (asks_no h).2.2.1
  have e : ({ yesN (asksC su c).1 with ve := 0 } : Nt) = (asksC su c).1 := by
    unfold yesN; cases hq : (asksC su c).1; rw [hq] at h0; simp only at h0; subst h0; rfl
  unfold hearC
  rw [e, if_neg (by simp [h, yesN])]
  have v1 : (yesN (asksC su c).1).ve = 1 := rfl
  split
  · rename_i q
    refine ⟨_, rfl, ?_⟩
    have e1 : (asksC su c).1.kd = 1 := by simp [asksC, q]
    rw [v1]
    unfold chargedC
    rw [if_pos rfl]
    unfold paidC backC
    split
    · split
      · left; simp [asksC]
      · right; intro q2; have := congrArg Nt.kd q2; rw [e1] at this; simp [asksC] at this
    · split
      · right; intro q2; have := congrArg Nt.kd q2; rw [e1] at this; simp [asksC] at this
      · left; simp [asksC]
  · split
    · rename_i q1 q
      refine ⟨_, rfl, ?_⟩
      have e1 : (asksC su c).1.kd = 3 := by simp [asksC, q]
      rw [v1, if_neg (by simp)]
      right; intro q2; have := congrArg Nt.kd q2; rw [e1] at this
      split at this <;> simp [asksC] at this
    · split
      · rename_i q1 q3 q
        refine ⟨_, rfl, ?_⟩
        rw [v1, if_neg (by simp)]
        left; simp [asksC]
      · split
        · rename_i q1 q3 q4 q
          refine ⟨_, rfl, ?_⟩
          have e1 : (asksC su c).1.kd = 4 := by simp [asksC, q]
          unfold backC
          split
          · left; simp [asksC]
          · right; intro q2; have := congrArg Nt.kd q2; rw [e1] at this; simp [asksC] at this
        · refine ⟨_, rfl, ?_⟩
          left; simp [asksC]
theorem hear_old {su D : Int} {c : Cy} {n : Nt} {o : Bool} (h : (asksC su c).2 = false ∨ (asksC su c).1 ≠ { n with ve := 0 }) : hearC su c n D o = (c, 10) := by
  unfold hearC
  rw [if_pos (by rcases h with h | h; exact .inl h; exact .inr (.inl h))]
theorem ask_once {C T D X su : Int} {S : Nat} (B : Bds C S X) {p : Pl} {a : Ac} (h : AI T D S X p a) (h0 : 0 ≤ D) (hD : D ≤ 3652058) (hC : D - T + 1 ≤ C) {i : Nat} (hi : i < a.op.length) (hq : (asksC su a.op[i]).2 = true) :
    ∃ x, hearA su a (yesN (asksC su a.op[i]).1) D = (x, 0) ∧ hearA su x (yesN (asksC su a.op[i]).1) D = (zeroA, 10) ∧ AI T D S X p x ∧ x.pl = a.pl := by
  have hno := h.s.no
  simp only [List.append_nil] at hno
  have hcy := (asks_no hq).1
  have hve := (asks_no hq).2.2.1
  obtain ⟨c', hc, hne⟩ := yes_c (D := D) (o := decide (a.st = 3)) hq
  have hs := hearA_some (su := su) (today := D) (n := yesN (asksC su a.op[i]).1) hi hcy.symm (fun j hj e => by
    have := nos_uniq hno (show j < a.op.length by omega) hi (e.trans hcy); omega) hc
  rw [if_neg (by simp)] at hs
  obtain ⟨g1, g2, g3⟩ := hear_ci (h.s.cy _ (List.getElem_mem hi)) h0 (by omega) hc
  obtain ⟨x, r1, r2, r3⟩ := relay_ai B h hC a.st h.st (a.op.set i c') (set_same Cy.no hi g2) (set_same _ hi (by simp [g3])) (fun c hc => by
    rcases List.mem_or_eq_of_mem_set hc with q | rfl
    · exact (h.s.cy c q).le (Int.le_refl _) (by decide)
    · exact g1)
  have r1' : settleA { a with op := a.op.set i c' } = (x, 0) := r1
  refine ⟨x, hs.trans r1', ?_, r2, r3⟩
  have hxo : x.op = (a.op.set i c').filter (fun c => !endC c) := by
    have := settle_op _ _ _ r1'; simpa using this
  cases hf : x.op.findIdx? (fun c => decide (c.no = (yesN (asksC su a.op[i]).1).cy)) with
  | none => unfold hearA; rw [hf]
  | some j =>
    obtain ⟨hj, hj1, _⟩ := List.findIdx?_eq_some_iff_getElem.1 hf
    have hy : x.op[j] = c' := by
      have hm : x.op[j] ∈ a.op.set i c' := (List.mem_filter.1 (hxo.subst (motive := fun l => x.op[j] ∈ l) (List.getElem_mem hj))).1
      obtain ⟨k, hk, ek⟩ := List.getElem_of_mem hm
      have hk' : k < a.op.length := by simpa using hk
      have hn : x.op[j].no = a.op[i].no := (of_decide_eq_true hj1).trans hcy
      by_cases e : i = k
      · subst e; rw [← ek]; simp
      · rw [List.getElem_set_ne e] at ek
        rw [← ek] at hn
        exact absurd (nos_uniq hno hk' hi hn).symm e
    have hg : x.op.getD j ⟨0, 0, 0, 0, 0, 0, 0, false⟩ = c' := by rw [List.getD_eq_getElem?_getD, List.getElem?_eq_getElem hj, ← hy]; rfl
    unfold hearA
    rw [hf]
    have e : ({ yesN (asksC su a.op[i]).1 with ve := 0 } : Nt) = (asksC su a.op[i]).1 := by
      unfold yesN; cases hq : (asksC su a.op[i]).1; rw [hq] at hve; simp only at hve; subst hve; rfl
    simp only [hg]
    rw [hear_old (by rw [e]; exact hne)]
    rfl
theorem mem_asksFrom {n : Nt} : ∀ (l : List Ac) (k : Nat), n ∈ asksFrom k l → ∃ (i : Nat) (hi : i < l.length) (j : Nat) (hj : j < l[i].op.length), (asksC ((k + i : Nat) : Int) l[i].op[j]).2 = true ∧ n = (asksC ((k + i : Nat) : Int) l[i].op[j]).1
  | [], k, h => by simp [asksFrom] at h
  | a :: l, k, h => by
    simp only [asksFrom, List.mem_append] at h
    rcases h with h | h
    · unfold asksA at h
      obtain ⟨c, hc, e⟩ := List.mem_filterMap.1 h
      obtain ⟨j, hj, rfl⟩ := List.getElem_of_mem hc
      split at e
      · rename_i q
        exact ⟨0, by simp, j, hj, by simpa using q, by simpa using (Option.some.inj e).symm⟩
      · cases e
    · obtain ⟨i, hi, j, hj, h1, h2⟩ := mem_asksFrom l (k + 1) h
      refine ⟨i + 1, by simpa using hi, j, by simpa using hj, ?_, ?_⟩
      · rw [show k + (i + 1) = k + 1 + i by omega]; simpa using h1
      · rw [show k + (i + 1) = k + 1 + i by omega]; simpa using h2
theorem asks_law {T P C X : Int} {S : Nat} {b : Bk} (B : Bds C S X) (h : BI T P S X b) (hl : b.subs.length = 32) (hT : 0 ≤ T) (hC : b.today - T + 1 ≤ C) (hC2 : C ≤ 3652058) {n : Nt} (hn : n ∈ b.asks) :
    ∃ c, stepB b ⟨10, 0, 0, 0, zeroP, yesN n⟩ = (c, 0) ∧ (stepB c ⟨10, 0, 0, 0, zeroP, yesN n⟩).2 = 10 := by
  obtain ⟨i, hi, j, hj, hq, rfl⟩ := mem_asksFrom _ _ hn
  rw [Nat.zero_add] at hq ⊢
  have h0 := h.t0
  have h1 := h.t1
  obtain ⟨k1, k2, k3, k4, k5, k6⟩ := asks_no hq
  rcases h.subs _ (List.getElem_mem hi) with e | ⟨ha, p0, p1⟩
  · rw [e] at hj; simp [zeroA] at hj
  · have hsub : b.sub i = b.subs[i] := by unfold Bk.sub; rw [List.getD_eq_getElem?_getD, Int.toNat_natCast, List.getElem?_eq_getElem hi]; rfl
    obtain ⟨q1, q2, q3, q4, q5, q6⟩ := ha.s.cy _ (List.getElem_mem hj)
    have hnc := ha.s.nc b.subs[i].op[j] (by simp)
    have hc2 := ha.c2
    have hxx := B.xx
    have hr : rightO ⟨10, 0, 0, 0, zeroP, yesN (asksC i b.subs[i].op[j]).1⟩ = 0 := by
      unfold rightO
      rw [if_neg (by simp [subsK]), if_neg (by simp), if_neg (by simp), if_pos rfl, if_neg]
      rintro (q | q)
      · exact q rfl
      · have : noticeB (yesN (asksC i b.subs[i].op[j]).1) = true := by
          unfold noticeB keyB yesN
          simp only [k1, k2, Bool.and_eq_true, decide_eq_true_eq]
          refine ⟨⟨k4.1, k4.2, by decide, by decide⟩, by omega, by omega, q1, by omega, ?_, ?_, ?_, ?_⟩
          · rcases k5 with e | e <;> omega
          · rcases k5 with e | e <;> omega
          · rcases k6 with e | e <;> omega
          · rcases k6 with e | e <;> omega
        rw [this] at q; cases q
    obtain ⟨x, g1, g2, g3, g4⟩ := ask_once B ha (by omega) h1 hC hj hq
    have hsu : (yesN (asksC i b.subs[i].op[j]).1).su = i := k2
    have e1 : stepB b ⟨10, 0, 0, 0, zeroP, yesN (asksC i b.subs[i].op[j]).1⟩ = ({ b with subs := b.subs.set i x }, 0) := by
      unfold stepB
      rw [if_neg (by simpa using hr), if_neg (by simp), if_neg (by simp), if_neg (by simp), if_pos rfl]
      simp only [hsu, hsub, g1, Bk.put]
      simp
    refine ⟨_, e1, ?_⟩
    unfold stepB
    rw [if_neg (by simpa using hr), if_neg (by simp), if_neg (by simp), if_neg (by simp), if_pos rfl]
    have hs2 : ({ b with subs := b.subs.set i x } : Bk).sub i = x := by
      unfold Bk.sub; simp [List.getD_eq_getElem?_getD, hi]
    simp only [hsu, hs2, g2, Bk.put]
    simp
theorem bds_play : ∀ n : Nat, n ≤ 60 → Bds 2500 (n * 2999) 200000 := fun n hn => ⟨by decide, by omega, by decide, by decide, by decide⟩
theorem orderR_p {x : At4} (hx : x.ok) (asks : List Nt) : ((orderR x asks).kd = 9 → (orderR x asks).n ≤ 40) ∧ ((orderR x asks).kd = 1 → (orderR x asks).p.pr ≤ 2999) := by
  obtain ⟨_, _, ⟨h1, h2⟩, h3, h4⟩ := hx
  have hs : sel4 (x.b % 4) 1000 0 2999 1 ≤ 2999 := by unfold sel4; split <;> (try split) <;> (try split) <;> omega
  unfold orderR
  repeat' split
  all_goals (simp only; first | exact ⟨fun q => by omega, fun q => by first | exact hs | omega⟩ | exact ⟨fun q => by omega, fun q => by simp only [planR]; exact hs⟩ | exact ⟨fun q => by omega, fun q => by omega⟩)
theorem play_bi {l : List At4} (hl : ∀ a ∈ l, a.ok) (h60 : l.length ≤ 60) {T : Int} (hT : 0 ≤ T) (hT2 : T ≤ 3600000) : ∀ i, i ≤ l.length → BI T 2999 (i * 2999) 200000 (playB (l.take i) (newB T)) ∧ (playB (l.take i) (newB T)).today ≤ T + 40 * i
  | 0, _ => ⟨⟨by simp [playB, newB], by simp [playB, newB]; omega, fun p hp => by simp [playB, newB] at hp, fun a ha => .inl (by simp [playB, newB] at ha; exact ha)⟩, by simp [playB, newB]⟩
  | i + 1, hi => by
    obtain ⟨hb, ht⟩ := play_bi hl h60 hT hT2 i (by omega)
    have hok := play_ok hl T i (by omega)
    rw [play_snoc (by omega)]
    have hx := hl _ (List.getElem_mem (show i < l.length by omega))
    obtain ⟨p9, p1⟩ := orderR_p hx (playB (l.take i) (newB T)).asks
    unfold actB
    split
    · rename_i q
      have ho : rightO (orderR l[i] (playB (l.take i) (newB T)).asks) = 0 := by
        refine Classical.byContradiction fun hne => ?_
        unfold stepB at q; rw [if_pos hne] at q; exact hne q
      have R : Room T 2999 2500 (i * 2999) ((i + 1) * 2999) 200000 (playB (l.take i) (newB T)) (orderR l[i] (playB (l.take i) (newB T)).asks) := ⟨bds_play _ (by omega), by decide, by decide, by omega, by omega, hT, by decide, by omega, fun k => by have := p9 k; omega, p1⟩
      obtain ⟨_, h2⟩ := step_bi R hb hok.ok.pls ho
      obtain ⟨g1, g2⟩ := h2 q
      refine ⟨g1, ?_⟩
      rw [g2]; split
      · rename_i k; have := p9 k; omega
      · omega
    · exact ⟨hb.mono (by omega), by omega⟩
end Go.Den
set_option linter.unusedVariables false
set_option maxRecDepth 100000
namespace Go.Den
open Go Go.Proofs
structure BoxAt (H : Mem) (k : Nat) (s : Value) (bs : List By) (e : Int) : Prop where
  cell : H[k]? = some (.cells false [s, .int .i64 e])
  row : RowAt H s bs
  own : Own H s
  ne : blkOf s ≠ some k
def Fr2 (H : Mem) (k : Nat) (s : Value) (H' : Mem) : Prop := H.length ≤ H'.length ∧ ∀ i, i < H.length → i ≠ k → blkOf s ≠ some i → H'[i]? = H[i]?
def Src (H : Mem) (s s' : Value) : Prop := ∀ c, blkOf s' = some c → blkOf s = some c ∨ H.length ≤ c
theorem Fr2.refl (H : Mem) (k : Nat) (s : Value) : Fr2 H k s H := ⟨Nat.le_refl _, fun _ _ _ _ => rfl⟩
theorem Src.refl (H : Mem) (s : Value) : Src H s s := fun _ h => .inl h
theorem Fr2.trans {H H1 H2 : Mem} {k : Nat} {s s1 : Value} (h : Fr2 H k s H1) (hs : Src H s s1) (h2 : Fr2 H1 k s1 H2) : Fr2 H k s H2 :=
  ⟨Nat.le_trans h.1 h2.1, fun i hi hk hb => (h2.2 i (Nat.lt_of_lt_of_le hi h.1) hk (fun e => (hs i e).elim hb (fun q => by omega))).trans (h.2 i hi hk hb)⟩
theorem Src.trans {H H1 : Mem} {s s1 s2 : Value} (h : Src H s s1) (hl : H.length ≤ H1.length) (h2 : Src H1 s1 s2) : Src H s s2 := fun c hc => (h2 c hc).elim (h c) (fun q => .inr (by omega))
theorem Fr2.cut {H r H' : Mem} {k : Nat} {s : Value} (h : Fr2 (H ++ r) k s H') : Fr2 H k s H' :=
  ⟨by have := h.1; simp at this; omega, fun i hi hk hb => (h.2 i (by simp; omega) hk hb).trans (List.getElem?_append_left hi)⟩
theorem Src.cut {H r : Mem} {s s' : Value} (h : Src (H ++ r) s s') : Src H s s' := fun c hc => (h c hc).imp id (fun q => by simp at q; omega)
theorem Fr2.kp {H M H' : Mem} {k : Nat} {s : Value} (hk : Keep H M) (h : Fr2 M k s H') : Fr2 H k s H' := ⟨Nat.le_trans hk.1 h.1, fun i hi hn hb => (h.2 i (Nat.lt_of_lt_of_le hi hk.1) hn hb).trans (hk.2 i hi)⟩
theorem Src.kp {H M : Mem} {s s' : Value} (hk : Keep H M) (h : Src M s s') : Src H s s' := fun c hc => (h c hc).imp id (fun q => Nat.le_trans hk.1 q)
theorem BoxAt.app {H : Mem} {k : Nat} {s : Value} {bs : List By} {e : Int} (h : BoxAt H k s bs e) (r : Mem) : BoxAt (H ++ r) k s bs e :=
  ⟨by rw [List.getElem?_append_left (List.getElem?_eq_some_iff.1 h.cell).1]; exact h.cell, h.row.apps r, h.own.app r, h.ne⟩
theorem BoxAt.keep {H H' : Mem} {k : Nat} {s : Value} {bs : List By} {e : Int} (h : BoxAt H k s bs e) (hk : Keep H H') : BoxAt H' k s bs e :=
  ⟨(hk.2 _ (List.getElem?_eq_some_iff.1 h.cell).1).trans h.cell, h.row.keep hk, h.own.keep hk, h.ne⟩
theorem BoxAt.lt {H : Mem} {k : Nat} {s : Value} {bs : List By} {e : Int} (h : BoxAt H k s bs e) : k < H.length := (List.getElem?_eq_some_iff.1 h.cell).1
theorem BoxAt.lts {H : Mem} {k : Nat} {s : Value} {bs : List By} {e : Int} (h : BoxAt H k s bs e) {c : Nat} (hc : blkOf s = some c) : c < H.length := h.row.lt hc
theorem BoxAt.put {H M : Mem} {k : Nat} {s s2 : Value} {bs bs2 : List By} {e : Int} (h : BoxAt H k s bs e) (hR : RowAt M s2 bs2) (hW : Own M s2) (hf : Fr H s M) (hN : New H.length s2) :
    M[k]? = some (.cells false [s, .int .i64 e]) ∧ BoxAt (M.set k (.cells false [s2, .int .i64 e])) k s2 bs2 e ∧ Fr2 H k s (M.set k (.cells false [s2, .int .i64 e])) ∧ Src H s s2 := by
  have hk := h.lt
  have hc := (hf.2 k hk h.ne).trans h.cell
  have hne : blkOf s2 ≠ some k := hN.ne hk
  refine ⟨hc, ⟨List.getElem?_set_self (List.getElem?_eq_some_iff.1 hc).1, hR.set hne _, hW.set hne _, hne⟩, ⟨by simpa using hf.1, fun i hi hk' hb => (List.getElem?_set_ne (Ne.symm hk')).trans (hf.2 i hi hb)⟩, fun c hc => .inr (hN c hc)⟩
def ptr (k : Nat) : Value := .pointer (some ⟨k, 0, none⟩)
def wds (l : List Int) : List Wd := l.map Wd.mk
@[simp] theorem wds_len (l : List Int) : (wds l).length = l.length := by simp [wds]
theorem RowAt.fr2 {α : Type} [Cel α] {H H' : Mem} {k : Nat} {s w : Value} {l : List α} (h : RowAt H w l) (hf : Fr2 H k s H') (h1 : blkOf w ≠ some k) (h2 : ∀ c, blkOf w = some c → blkOf s ≠ some c) : RowAt H' w l :=
  h.of fun b hb hl => hf.2 b hl (fun e => h1 (e ▸ hb)) (h2 b hb)
end Go.Den
set_option linter.unusedVariables false
set_option maxRecDepth 100000
namespace Go.Den
open Go Go.Proofs
theorem Keep.cell {M M2 : Mem} (hk : Keep M M2) {n : Nat} {k : Blk} (h : M[n]? = some k) : M2[n]? = some k := (hk.2 n (List.getElem?_eq_some_iff.1 h).1).trans h
theorem Keep.keep {H M M2 : Mem} (h : Keep H M) (hk : Keep M M2) : Keep H M2 := h.trans hk
def setS : Nat → List Value → List (Nat × Value) → List Value
  | k, x :: xs, (m, v) :: ps => if k = m then v :: setS (k + 1) xs ps else x :: setS (k + 1) xs ((m, v) :: ps)
  | _, xs, [] => xs
  | _, [], _ => []
def up : Nat → List Nat → Bool
  | _, [] => true
  | k, m :: ms => decide (k ≤ m) && up (m + 1) ms
theorem setS_nil (k : Nat) (xs : List Value) : setS k xs [] = xs := by cases xs <;> rfl
theorem setS_get : ∀ (xs : List Value) (k : Nat) (m : Nat) (v : Value) (ps : List (Nat × Value)), k ≤ m → (∀ q ∈ ps, m < q.1) → setS k xs ((m, v) :: ps) = setS k (xs.set (m - k) v) ps
  | [], k, m, v, ps, _, _ => by cases ps <;> simp [setS]
  | x :: xs, k, m, v, ps, h, hp => by
    by_cases e : k = m
    · subst e
      simp only [setS, if_true, Nat.sub_self, List.set_cons_zero]
      cases ps with
      | nil => simp [setS_nil]
      | cons q ps =>
        have := hp q (by simp)
        simp only [setS]
        rw [if_neg (by omega)]
    · simp only [setS, if_neg e]
      rw [show m - k = (m - (k + 1)) + 1 by omega, List.set_cons_succ, setS_get xs (k + 1) m v ps (by omega) hp]
      cases ps with
      | nil => simp [setS_nil]
      | cons q ps =>
        have := hp q (by simp)
        simp only [setS]
        rw [if_neg (by omega)]
theorem up_lt : ∀ (ms : List Nat) (k : Nat), up k ms = true → ∀ m ∈ ms, k ≤ m
  | [], _, _, _, h => by cases h
  | a :: ms, k, h, m, hm => by
    simp only [up, Bool.and_eq_true, decide_eq_true_eq] at h
    rcases List.mem_cons.1 hm with rfl | q
    · exact h.1
    · have := up_lt ms (a + 1) h.2 m q; omega
theorem setL_S' : ∀ (ms : List Nat) (vs : List Value) (b : Act), up 0 ms = true → setL b ms vs = ⟨(setS 0 b.tmps.toList (ms.zip vs)).toArray, b.defers⟩
  | [], vs, b, _ => by simp [setL, setS_nil]
  | m :: ms, [], b, _ => by simp [setL, setS_nil]
  | m :: ms, v :: vs, b, h => by
    simp only [up, Bool.and_eq_true, decide_eq_true_eq] at h
    have h0 : up 0 ms = true := by
      cases ms with
      | nil => rfl
      | cons a ms =>
        have h2 := h.2
        simp only [up, Bool.and_eq_true, decide_eq_true_eq] at h2 ⊢
        exact ⟨Nat.zero_le _, h2.2⟩
    rw [setL, setL_S' ms vs _ h0, List.zip_cons_cons, setS_get _ 0 m v _ (Nat.zero_le _) (fun q hq => up_lt ms (m + 1) h.2 q.1 (List.of_mem_zip hq).1)]
    simp
theorem setL_S {ms : List Nat} (h : up 0 ms = true) (vs : List Value) (b : Act) : setL b ms vs = ⟨(setS 0 b.tmps.toList (ms.zip vs)).toArray, b.defers⟩ := setL_S' ms vs b h
theorem getL_map (b : Act) : ∀ ks : List Nat, getL b ks = ks.map fun k => b.tmps.getD k undef
  | [] => rfl
  | k :: ks => by rw [getL, getL_map b ks]; rfl
theorem DK.loopF {P : Program} {G : List Nat} {R : Exit → Act → Mem → Prop} {b : Act} {H : Mem} {c : Code} (ms ks : List Nat) (J : Nat → List Value → Mem → Prop) (n : Nat) (hb : b = setL b ms (getL b ms)) (h : J n (getL b ks) H)
    (round : ∀ n (f : Nat → Value) H', J n (ks.map f) H' → DK P G c (thenD (fun b' H'' => b' = setL b ms (getL b' ms) ∧ ∃ m, m < n ∧ J m (getL b' ks) H'') R) (setL b ms (ms.map f)) H') : DK P G (.loop c) R b H := by
  refine DK.loopG ms (fun n vs H' => ∃ f : Nat → Value, vs = ms.map f ∧ J n (ks.map f) H') n hb ⟨_, getL_map b ms, by rw [← getL_map]; exact h⟩ ?_
  rintro n _ H' ⟨f, rfl, hJ⟩
  have k := round n f H' hJ
  refine ⟨fun φ a w hS hT Q' hQ => k.out φ a w hS hT Q' fun e b' H'' φ' a' w' q1 q2 q3 q4 => hQ e b' H'' φ' a' w' ?_ q2 q3 q4⟩
  cases e with
  | normal => obtain ⟨q, m, hm, hj⟩ := q1; exact ⟨q, m, hm, _, getL_map b' ms, by rw [← getL_map]; exact hj⟩
  | _ => exact q1
theorem mem_app (M : Mem) (x : Blk) : (M ++ [x])[M.length]? = some x := by simp
end Go.Den
namespace Go.Den
open Go Go.Proofs
set_option maxRecDepth 100000
set_option maxHeartbeats 1000000
set_option linter.all false
attribute [local simp] evOps evOp absOp absBox absAlloc absLoad absStore absField absCells absBinOp absBin absInt absShift absUn absPick absNil absExtract absBuild absPlaces Instr.fill absBuiltin absMinMax plainV plainT allA flat cells_agg cells_int cells_bool cells_str cells_ptr cells_sl cells_map one_int one_bool one_str one_ptr one_sl one_map Act.eval Act.put Region.wanted yielded splice absCall TypeDesc.isRow
end Go.Den
set_option linter.unusedVariables false
set_option maxRecDepth 100000
namespace Go.Den
open Go Go.Proofs
theorem Fr2.cell {H H' : Mem} {k i : Nat} {s : Value} {x : Blk} (h : Fr2 H k s H') (hx : H[i]? = some x) (hk : i ≠ k) (hs : blkOf s ≠ some i) : H'[i]? = some x := (h.2 i (List.getElem?_eq_some_iff.1 hx).1 hk hs).trans hx
def Boxed (H : Mem) (k : Nat) (s : Value) (c : List By) (e : Int) (more : List By) (n : Nat) (v : Value) (H' : Mem) : Prop :=
  ∃ s' c', v = .pointer (some ⟨k, 0, none⟩) ∧ c' = c ++ more ∧ c'.length ≤ c.length + n ∧ BoxAt H' k s' c' e ∧ Fr2 H k s H' ∧ Src H s s'
theorem Boxed.row {H : Mem} {k n : Nat} {s : Value} {c : List By} {e : Int} {more : List By} {v : Value} {H' : Mem} (h : Boxed H k s c e more n v H') {more' : List By} (hm : more = more') : Boxed H k s c e more' n v H' := hm ▸ h
structure OwnB (M : Mem) (k : Nat) (s : Value) (i : Nat) (x : Blk) : Prop where
  cell : M[i]? = some x
  nk : i ≠ k
  ns : blkOf s ≠ some i
theorem OwnB.go {M M' : Mem} {k i : Nat} {s s' : Value} {x : Blk} (h : OwnB M k s i x) (hF : Fr2 M k s M') (hS : Src M s s') : OwnB M' k s' i x :=
  ⟨hF.cell h.cell h.nk h.ns, h.nk, fun q => (hS i q).elim h.ns (fun q2 => by have := (List.getElem?_eq_some_iff.1 h.cell).1; omega)⟩
theorem OwnB.kp {M M' : Mem} {k i : Nat} {s : Value} {x : Blk} (h : OwnB M k s i x) (hK : Keep M M') : OwnB M' k s i x := ⟨(hK.2 i (List.getElem?_eq_some_iff.1 h.cell).1).trans h.cell, h.nk, h.ns⟩
theorem OwnB.new {M M' : Mem} {k : Nat} {s : Value} {c : List By} {e : Int} {x : Blk} (hB : BoxAt M k s c e) (h : M'[M.length]? = some x) : OwnB M' k s M.length x :=
  ⟨h, by have := hB.lt; omega, fun q => by have := hB.lts q; omega⟩
theorem Fr2.of {M M' : Mem} (h : Keep M M') (k : Nat) (s : Value) : Fr2 M k s M' := ⟨h.1, fun i hi _ _ => h.2 i hi⟩
theorem OpenAt.fr2 {H H' : Mem} {k : Nat} {s w : Value} {l : List Cy} (h : OpenAt H w l) (hf : Fr2 H k s H') (h1 : blkOf w ≠ some k) (h2 : ∀ c, blkOf w = some c → blkOf s ≠ some c) : OpenAt H' w l := by
  rcases h with h | ⟨b, h3, h4⟩
  · exact .inl h
  · exact .inr ⟨b, h3, hf.cell h4 (fun e => h1 (by rw [h3, ← e]; rfl)) (h2 b (by rw [h3]; rfl))⟩
theorem idx_cy {M : Mem} {w : Value} {l : List Cy} {i : Int} (hw : OpenAt M w l) (h0 : 0 ≤ i) (h1 : i.toNat < l.length) : ∃ b, absIndexAddr Tryd.prog M 28 w (.int .i64 i) = some (.pointer (some ⟨b, i.toNat * 8, none⟩)) ∧ M[b]? = some (.cells false (cysV l)) := by
  obtain ⟨b, rfl, hb⟩ := hw.blk (by omega)
  have hl : i < (l.length : Int) := by omega
  exact ⟨b, by simp [absIndexAddr, Tryd.underlying28, h0, hl], hb⟩
theorem bsW2 (H : Mem) (a0 a1 : Int) : absBuildSlice Tryd.prog H 103 2 [(0, .int .i64 a0), (1, .int .i64 a1)] = some (.slice (some ⟨H.length, 0, none⟩) 2 1, H ++ [.cells false [.int .i64 a0, .int .i64 a1]]) := by kernel_rfl
theorem bsW4 (H : Mem) (a0 a1 a2 a3 : Int) : absBuildSlice Tryd.prog H 103 4 [(0, .int .i64 a0), (1, .int .i64 a1), (2, .int .i64 a2), (3, .int .i64 a3)] = some (.slice (some ⟨H.length, 0, none⟩) 4 1, H ++ [.cells false [.int .i64 a0, .int .i64 a1, .int .i64 a2, .int .i64 a3]]) := by kernel_rfl
theorem bsW5 (H : Mem) (a0 a1 a2 a3 a4 : Int) : absBuildSlice Tryd.prog H 103 5 [(0, .int .i64 a0), (1, .int .i64 a1), (2, .int .i64 a2), (3, .int .i64 a3), (4, .int .i64 a4)] = some (.slice (some ⟨H.length, 0, none⟩) 5 1, H ++ [.cells false [.int .i64 a0, .int .i64 a1, .int .i64 a2, .int .i64 a3, .int .i64 a4]]) := by kernel_rfl
theorem bsW6 (H : Mem) (a0 a1 a2 a3 a4 a5 : Int) : absBuildSlice Tryd.prog H 103 6 [(0, .int .i64 a0), (1, .int .i64 a1), (2, .int .i64 a2), (3, .int .i64 a3), (4, .int .i64 a4), (5, .int .i64 a5)] = some (.slice (some ⟨H.length, 0, none⟩) 6 1, H ++ [.cells false [.int .i64 a0, .int .i64 a1, .int .i64 a2, .int .i64 a3, .int .i64 a4, .int .i64 a5]]) := by kernel_rfl
theorem bsW7 (H : Mem) (a0 a1 a2 a3 a4 a5 a6 : Int) : absBuildSlice Tryd.prog H 103 7 [(0, .int .i64 a0), (1, .int .i64 a1), (2, .int .i64 a2), (3, .int .i64 a3), (4, .int .i64 a4), (5, .int .i64 a5), (6, .int .i64 a6)] = some (.slice (some ⟨H.length, 0, none⟩) 7 1, H ++ [.cells false [.int .i64 a0, .int .i64 a1, .int .i64 a2, .int .i64 a3, .int .i64 a4, .int .i64 a5, .int .i64 a6]]) := by kernel_rfl
attribute [simp] bsW2 bsW4 bsW5 bsW6 bsW7
end Go.Den
namespace Go.Den
open Go Go.Proofs
set_option maxRecDepth 100000
set_option maxHeartbeats 1000000
set_option linter.all false
attribute [local simp] evOps evOp absOp absBox absAlloc absLoad absStore absField absIndexAddr absCells absBinOp absBin absInt absShift absUn absPick absNil absExtract absBuild absPlaces Instr.fill absBuiltin absMinMax plainV plainT allA flat cells_agg cells_int cells_bool cells_str cells_ptr cells_sl cells_map one_int one_bool one_str one_ptr one_sl one_map Act.eval Act.put Region.wanted yielded splice absCall TypeDesc.isRow
end Go.Den
namespace Go.Den
open Go Go.Proofs
set_option maxRecDepth 100000
set_option maxHeartbeats 1000000
set_option linter.all false
attribute [local simp] evOps evOp absOp absBox absAlloc absLoad absStore absField absCells absBinOp absBin absInt absShift absUn absPick absNil absExtract absBuild absPlaces Instr.fill absBuiltin absMinMax plainV plainT allA flat cells_agg cells_int cells_bool cells_str cells_ptr cells_sl cells_map one_int one_bool one_str one_ptr one_sl one_map Act.eval Act.put Region.wanted yielded splice absCall TypeDesc.isRow
end Go.Den
set_option linter.unusedVariables false
set_option maxRecDepth 100000
namespace Go.Den
open Go Go.Proofs
theorem RowAt.idx {α : Type} [Cel α] {P : Program} {M : Mem} {w : Value} {l : List α} {i : Int} (hw : RowAt M w l) (h0 : 0 ≤ i) (h1 : i.toNat < l.length) {T e : Nat} {f : TypeInfo} (hu : P.underlying T = some (.slice e)) (hi : P.info? e = some f) (hk : f.size = Cel.k α) :
    ∃ b o ro vs, absIndexAddr P M T w (.int .i64 i) = some (.pointer (some ⟨b, o + i.toNat * Cel.k α, none⟩)) ∧ M[b]? = some (.cells ro vs) ∧ o + i.toNat * Cel.k α + Cel.k α ≤ vs.length ∧ List.take (Cel.k α) (List.drop (o + i.toNat * Cel.k α) vs) = Cel.f l[i.toNat] := by
  obtain ⟨b, o, ro, vs, rfl, hb, hle, hge⟩ := hw.blk h1
  have hl : i < (l.length : Int) := by omega
  exact ⟨b, o, ro, vs, by simp [absIndexAddr, hu, hi, hk, h0, hl], hb, hle, hge⟩
end Go.Den
namespace Go.Den
open Go Go.Proofs
set_option maxRecDepth 100000
set_option maxHeartbeats 1000000
set_option linter.all false
attribute [local simp] evOps evOp absOp absBox absLoad absStore absField absIndexAddr absCells absBinOp absBin absInt absShift absUn absPick absNil absExtract absPlaces Instr.fill absBuiltin absMinMax plainV plainT allA flat cells_agg cells_int cells_bool cells_str cells_ptr cells_sl cells_map one_int one_bool one_str one_ptr one_sl one_map Act.eval Act.put Region.wanted yielded absCall TypeDesc.isRow
attribute [local simp high] bk_t bk_p bk_take bk_row BkL_len sp_bk sp_t sp_p
attribute [local simp] sp_nil sp_0 sp_s List.length_set
theorem rplan_s (n : Int) (h0 : 0 ≤ n) (h1 : n < 256) (H : Mem) : FSem Tryd.prog [0] 20 #[.int .u8 n] H fun v H' => v = (planR n).v ∧ H' = H := by
  refine FSem.plainT ?_
  refine FSem.ofK Tryd.func20 rfl ?_
  refine DK.from (b' := ⟨#[.int .u8 n, undef, undef, undef, undef, undef, undef, undef, undef, undef, undef, undef, undef, undef, undef, undef, undef, undef, undef, undef, undef, undef, undef, undef, undef, undef, undef, undef, undef], []⟩) (by kernel_rfl) ?_
  have f1 : n.tmod 4 = n % 4 := tm _ _ h0
  have f2 : n.tdiv 4 = n / 4 := td _ _ h0
  have f3 : IntKind.u8.wrap (n / 4) = n / 4 := wrap_u8 _ (by omega) (by omega)
  have f4 : (n / 4).tmod 4 = n / 4 % 4 := tm _ _ (by omega)
  have f5 : n.tdiv 16 = n / 16 := td _ _ h0
  have f6 : IntKind.u8.wrap (n / 16) = n / 16 := wrap_u8 _ (by omega) (by omega)
  have f7 : (n / 16).tmod 3 = n / 16 % 3 := tm _ _ (by omega)
  have f8 : IntKind.i64.wrap (n / 16 % 3) = n / 16 % 3 := wrap_in _ (by omega) (by omega)
  have f9 : IntKind.i64.wrap (1 + n / 16 % 3) = 1 + n / 16 % 3 := wrap_in _ (by omega) (by omega)
  have f10 : n.tdiv 48 = n / 48 := td _ _ h0
  have f11 : IntKind.u8.wrap (n / 48) = n / 48 := wrap_u8 _ (by omega) (by omega)
  have f12 : (n / 48).tmod 4 = n / 48 % 4 := tm _ _ (by omega)
  have f13 : n.tmod 3 = n % 3 := tm _ _ h0
  have f14 : n.tmod 7 = n % 7 := tm _ _ h0
  have f15 : 0 ≤ n % 4 := by omega
  have f16 : n % 4 < 4 := by omega
  have f17 : 0 ≤ n / 48 % 4 := by omega
  have f18 : n / 48 % 4 < 4 := by omega
  have f19 : (n % 4).toNat + 1 ≤ 4 := by omega
  have f20 : (n / 48 % 4).toNat + 1 ≤ 4 := by omega
  have f21 : List.take 1 (List.drop (n % 4).toNat [Value.int .i64 1000, .int .i64 0, .int .i64 2999, .int .i64 1]) = [.int .i64 (sel4 (n % 4) 1000 0 2999 1)] := sel_take _ _ _ _ f15 f16
  have f22 : List.take 1 (List.drop (n / 48 % 4).toNat [Value.int .i64 0, .int .i64 0, .int .i64 10, .int .i64 3]) = [.int .i64 (sel4 (n / 48 % 4) 0 0 10 3)] := sel_take _ _ _ _ f17 f18
  have f23 : (n % 4).toNat < 4 := by omega
  have f24 : (n / 48 % 4).toNat < 4 := by omega
  have f25 : (n % 4).toNat ≤ 3 := by omega
  have f26 : (n / 48 % 4).toNat ≤ 3 := by omega
  refine DK.seq ?_
  refine DK.region (is := [0]) (by kernel_rfl) rfl ?_
  refine WK.run (rest := []) [0] (by simp [f1, f2, f3, f4, f5, f6, f7, f8, f9, f10, f11, f12, f13, f14, f15, f16, f17, f18, f19, f20, f21, f22, f23, f24, f25, f26]; constructor <;> rfl) ?_
  refine WK.nil ?_
  refine DK.seq ?_
  refine DK.draw rfl (POk.of (ord := [0, 1, 2, 3, 4, 5, 6, 7, 8, 9, 10, 11, 12, 13, 14, 15, 16, 17, 18, 19, 20, 21, 22, 23, 24, 25, 26]) (by kernel_rfl)) ?_
  refine XK.run (rest := [10, 11, 12, 13, 14, 15, 16, 17, 18, 19, 20, 21, 22, 23, 24, 25, 26]) [0, 1, 2, 3, 4, 5, 6, 7, 8, 9] (by kernel_rfl) (by simp [f1, f2, f3, f4, f5, f6, f7, f8, f9, f10, f11, f12, f13, f14, f15, f16, f17, f18, f19, f20, f21, f22, f23, f24, f25, f26]; constructor <;> rfl) ?_
  refine XK.run (rest := [20, 21, 22, 23, 24, 25, 26]) [10, 11, 12, 13, 14, 15, 16, 17, 18, 19] (by kernel_rfl) (by simp [f1, f2, f3, f4, f5, f6, f7, f8, f9, f10, f11, f12, f13, f14, f15, f16, f17, f18, f19, f20, f21, f22, f23, f24, f25, f26]; constructor <;> rfl) ?_
  refine XK.run (rest := [26]) [20, 21, 22, 23, 24, 25] (by kernel_rfl) (by simp [f1, f2, f3, f4, f5, f6, f7, f8, f9, f10, f11, f12, f13, f14, f15, f16, f17, f18, f19, f20, f21, f22, f23, f24, f25, f26]; constructor <;> rfl) ?_
  refine XK.one rfl (by simp [f1, f2, f3, f4, f5, f6, f7, f8, f9, f10, f11, f12, f13, f14, f15, f16, f17, f18, f19, f20, f21, f22, f23, f24, f25, f26]) rfl (by simp [f1, f2, f3, f4, f5, f6, f7, f8, f9, f10, f11, f12, f13, f14, f15, f16, f17, f18, f19, f20, f21, f22, f23, f24, f25, f26]; constructor <;> rfl) (lag_list (l := []) (by kernel_rfl) rfl) ?_
  refine XK.nil ?_
  refine DK.ret ?_
  refine And.intro (Or.inr rfl) ?_
  refine ⟨_, by simp [absAnswer, absResults, absResult, Tryd.f20]; rfl, ?_⟩
  refine ⟨by first | exact ⟨[], (List.append_nil _).symm⟩ | exact ⟨_, rfl⟩, by simp, ?_⟩
  simp [planR]
  constructor <;> rfl
def kindR (p : Int) : Int := if p = 1 then 1 else if p = 3 then 3 else if p = 4 then 5 else if p = 5 then 4 else if p = 6 then 2 else 0
theorem asksC_kind (su : Int) (c : Cy) : asksC su c = if kindR c.ph = 0 then (⟨0, 0, 0, 0, 0, 0⟩, false) else (⟨kindR c.ph, su, c.no, if kindR c.ph = 1 then c.tr else 0, if kindR c.ph = 1 ∨ kindR c.ph = 2 then c.am else 0, 0⟩, true) := by
  unfold asksC kindR
  by_cases h1 : c.ph = 1
  · simp [h1]
  · by_cases h3 : c.ph = 3
    · simp [h3]
    · by_cases h4 : c.ph = 4
      · simp [h4]
      · by_cases h5 : c.ph = 5
        · simp [h5]
        · by_cases h6 : c.ph = 6
          · simp [h6]
          · simp [h1, h3, h4, h5, h6]
theorem rkind_s (p : Int) (H : Mem) : FSem Tryd.prog [0] 42 #[.int .u8 p] H fun v H' => v = .int .u8 (kindR p) ∧ H' = H := by
  refine FSem.plainT ?_
  refine FSem.ofK Tryd.func42 rfl ?_
  refine DK.from (b' := ⟨#[.int .u8 p, undef, undef, undef, undef, undef, undef, undef, undef, undef, undef, undef, undef], []⟩) (by kernel_rfl) ?_
  refine DK.seq ?_
  refine DK.region (is := [0]) (by kernel_rfl) rfl ?_
  refine WK.run (rest := []) [0] (by simp; constructor <;> rfl) ?_
  refine WK.nil ?_
  refine DK.seq ?_
  refine DK.seq ?_
  refine DK.region (is := [0, 1]) (by kernel_rfl) rfl ?_
  refine WK.run (rest := []) [0, 1] (by simp; constructor <;> rfl) ?_
  refine WK.nil ?_
  refine DK.test rfl rfl (fun h => ?_) (fun h => ?_)
  · try simp only [h]
    replace h := Tr.out h
    refine DK.seq ?_
    refine DK.region (is := [0]) (by kernel_rfl) rfl ?_
    refine WK.run (rest := []) [0] (by simp; constructor <;> rfl) ?_
    refine WK.nil ?_
    refine DK.ret ?_
    refine And.intro (Or.inr rfl) ?_
    refine ⟨_, by simp [absAnswer, absResults, absResult, Tryd.f42]; rfl, ?_⟩
    refine ⟨by first | exact ⟨[], (List.append_nil _).symm⟩ | exact ⟨_, rfl⟩, by simp, ?_⟩
    simp_all [kindR]
  try simp only [h]
  replace h := Fa.out h
  refine DK.skip ?_
  refine DK.seq ?_
  refine DK.seq ?_
  refine DK.region (is := [0, 1]) (by kernel_rfl) rfl ?_
  refine WK.run (rest := []) [0, 1] (by simp; constructor <;> rfl) ?_
  refine WK.nil ?_
  refine DK.test rfl rfl (fun h => ?_) (fun h => ?_)
  · try simp only [h]
    replace h := Tr.out h
    refine DK.seq ?_
    refine DK.region (is := [0]) (by kernel_rfl) rfl ?_
    refine WK.run (rest := []) [0] (by simp; constructor <;> rfl) ?_
    refine WK.nil ?_
    refine DK.ret ?_
    refine And.intro (Or.inr rfl) ?_
    refine ⟨_, by simp [absAnswer, absResults, absResult, Tryd.f42]; rfl, ?_⟩
    refine ⟨by first | exact ⟨[], (List.append_nil _).symm⟩ | exact ⟨_, rfl⟩, by simp, ?_⟩
    simp_all [kindR]
  try simp only [h]
  replace h := Fa.out h
  refine DK.skip ?_
  refine DK.seq ?_
  refine DK.seq ?_
  refine DK.region (is := [0, 1]) (by kernel_rfl) rfl ?_
  refine WK.run (rest := []) [0, 1] (by simp; constructor <;> rfl) ?_
  refine WK.nil ?_
  refine DK.test rfl rfl (fun h => ?_) (fun h => ?_)
  · try simp only [h]
    replace h := Tr.out h
    refine DK.seq ?_
    refine DK.region (is := [0]) (by kernel_rfl) rfl ?_
    refine WK.run (rest := []) [0] (by simp; constructor <;> rfl) ?_
    refine WK.nil ?_
    refine DK.ret ?_
    refine And.intro (Or.inr rfl) ?_
    refine ⟨_, by simp [absAnswer, absResults, absResult, Tryd.f42]; rfl, ?_⟩
    refine ⟨by first | exact ⟨[], (List.append_nil _).symm⟩ | exact ⟨_, rfl⟩, by simp, ?_⟩
    simp_all [kindR]
  try simp only [h]
  replace h := Fa.out h
  refine DK.skip ?_
  refine DK.seq ?_
  refine DK.seq ?_
  refine DK.region (is := [0, 1]) (by kernel_rfl) rfl ?_
  refine WK.run (rest := []) [0, 1] (by simp; constructor <;> rfl) ?_
  refine WK.nil ?_
  refine DK.test rfl rfl (fun h => ?_) (fun h => ?_)
  · try simp only [h]
    replace h := Tr.out h
    refine DK.seq ?_
    refine DK.region (is := [0]) (by kernel_rfl) rfl ?_
    refine WK.run (rest := []) [0] (by simp; constructor <;> rfl) ?_
    refine WK.nil ?_
    refine DK.ret ?_
    refine And.intro (Or.inr rfl) ?_
    refine ⟨_, by simp [absAnswer, absResults, absResult, Tryd.f42]; rfl, ?_⟩
    refine ⟨by first | exact ⟨[], (List.append_nil _).symm⟩ | exact ⟨_, rfl⟩, by simp, ?_⟩
    simp_all [kindR]
  try simp only [h]
  replace h := Fa.out h
  refine DK.skip ?_
  refine DK.seq ?_
  refine DK.seq ?_
  refine DK.region (is := [0, 1]) (by kernel_rfl) rfl ?_
  refine WK.run (rest := []) [0, 1] (by simp; constructor <;> rfl) ?_
  refine WK.nil ?_
  refine DK.test rfl rfl (fun h => ?_) (fun h => ?_)
  · try simp only [h]
    replace h := Tr.out h
    refine DK.seq ?_
    refine DK.region (is := [0]) (by kernel_rfl) rfl ?_
    refine WK.run (rest := []) [0] (by simp; constructor <;> rfl) ?_
    refine WK.nil ?_
    refine DK.ret ?_
    refine And.intro (Or.inr rfl) ?_
    refine ⟨_, by simp [absAnswer, absResults, absResult, Tryd.f42]; rfl, ?_⟩
    refine ⟨by first | exact ⟨[], (List.append_nil _).symm⟩ | exact ⟨_, rfl⟩, by simp, ?_⟩
    simp_all [kindR]
  try simp only [h]
  replace h := Fa.out h
  refine DK.skip ?_
  refine DK.seq ?_
  refine DK.region (is := [0]) (by kernel_rfl) rfl ?_
  refine WK.run (rest := []) [0] (by simp; constructor <;> rfl) ?_
  refine WK.nil ?_
  refine DK.ret ?_
  refine And.intro (Or.inr rfl) ?_
  refine ⟨_, by simp [absAnswer, absResults, absResult, Tryd.f42]; rfl, ?_⟩
  refine ⟨by first | exact ⟨[], (List.append_nil _).symm⟩ | exact ⟨_, rfl⟩, by simp, ?_⟩
  simp_all [kindR]
theorem rasks_s (su : Int) (c : Cy) (H : Mem) : FSem Tryd.prog [0] 19 #[.int .i64 su, c.v] H fun v H' => v = .tuple #[(asksC su c).1.v, .bool (asksC su c).2] ∧ H' = H := by
  refine FSem.plainT ?_
  refine FSem.ofK Tryd.func19 rfl ?_
  refine DK.from (b' := ⟨#[.int .i64 su, c.v, undef, undef, undef, undef, undef, undef, undef, undef, undef, undef, undef, undef, undef, undef, undef, undef, undef, undef, undef, undef, undef, undef, undef, undef, undef, undef, undef, undef, undef, undef, undef, undef, undef, undef], []⟩) (by kernel_rfl) ?_
  refine DK.seq ?_
  refine DK.region (is := [0, 1, 2]) (by kernel_rfl) rfl ?_
  refine WK.run (rest := []) [0, 1, 2] (by simp; constructor <;> rfl) ?_
  refine WK.nil ?_
  refine DK.seq ?_
  refine DK.draw rfl (POk.of (ord := [0, 1, 3, 4, 5, 7, 2, 6, 8]) (by kernel_rfl)) ?_
  refine XK.run (rest := [2, 6, 8]) [0, 1, 3, 4, 5, 7] (by kernel_rfl) (by simp; constructor <;> rfl) ?_
  refine XK.call rfl (by simp) rfl (by simp [Tryd.func42, Tryd.f42]; constructor <;> rfl) ?_
  refine FSem.mono (rkind_s _ _) ?_
  rintro _ _ ⟨rfl, rfl⟩
  refine And.intro (lag_list (l := [5]) (by kernel_rfl) (lag_cons (lag_one rfl (by simp; constructor <;> rfl) rfl (by simp) (by simp [sameL, sameV_agg, sameV_int, sameV_bool, sameV_str, sameV_ptr, sameV_sl, sameV_map, same1_int, same1_bool, same1_str, same1_ptr, same1_sl, same1_map]) rfl) rfl)) ?_
  refine XK.run (rest := [8]) [6] (by kernel_rfl) (by simp; constructor <;> rfl) ?_
  refine XK.one rfl (by simp) rfl (by simp; constructor <;> rfl) (lag_list (l := []) (by kernel_rfl) rfl) ?_
  refine XK.nil ?_
  refine DK.seq ?_
  refine DK.seq ?_
  refine DK.region (is := [0, 1, 2]) (by kernel_rfl) rfl ?_
  refine WK.run (rest := []) [0, 1, 2] (by simp; constructor <;> rfl) ?_
  refine WK.nil ?_
  refine DK.test rfl rfl (fun h => ?_) (fun h => ?_)
  · try simp only [h]
    replace h := Tr.out h
    refine DK.seq ?_
    refine DK.region (is := [0, 1, 2]) (by kernel_rfl) rfl ?_
    refine WK.run (rest := []) [0, 1, 2] (by simp; constructor <;> rfl) ?_
    refine WK.nil ?_
    refine DK.ret ?_
    refine And.intro (Or.inr rfl) ?_
    refine ⟨_, by simp [absAnswer, absResults, absResult, Tryd.f19]; rfl, ?_⟩
    refine ⟨by first | exact ⟨[], (List.append_nil _).symm⟩ | exact ⟨_, rfl⟩, by simp, ?_⟩
    rw [asksC_kind]; simp_all
  try simp only [h]
  replace h := Fa.out h
  refine DK.skip ?_
  refine DK.seq ?_
  refine DK.seq ?_
  refine DK.region (is := [0, 1, 2]) (by kernel_rfl) rfl ?_
  refine WK.run (rest := []) [0, 1, 2] (by simp; constructor <;> rfl) ?_
  refine WK.nil ?_
  refine DK.test rfl rfl (fun h => ?_) (fun h => ?_)
  · try simp only [h]
    replace h := Tr.out h
    refine DK.region (is := [0, 1, 2, 3]) (by kernel_rfl) rfl ?_
    refine WK.run (rest := []) [0, 1, 2, 3] (by simp; constructor <;> rfl) ?_
    refine WK.nil ?_
    refine DK.seq ?_
    refine DK.seq ?_
    refine DK.region (is := [0, 1, 2, 3, 4, 5, 6, 7]) (by kernel_rfl) rfl ?_
    refine WK.run (rest := [4, 5, 6, 7]) [0, 1, 2, 3] (by simp; constructor <;> rfl) ?_
    refine WK.split (t := 27) rfl (fun h => ?_) (fun h => ?_)
    · try simp only [h]
      replace h := Tr.out h
      refine WK.run (rest := []) [4, 5, 6, 7] (by simp; constructor <;> rfl) ?_
      refine WK.nil ?_
      refine DK.yes rfl rfl ?_
      refine DK.region (is := [0, 1, 2, 3]) (by kernel_rfl) rfl ?_
      refine WK.run (rest := []) [0, 1, 2, 3] (by simp; constructor <;> rfl) ?_
      refine WK.nil ?_
      refine DK.seq ?_
      refine DK.region (is := [0, 1, 2]) (by kernel_rfl) rfl ?_
      refine WK.run (rest := []) [0, 1, 2] (by simp; constructor <;> rfl) ?_
      refine WK.nil ?_
      refine DK.ret ?_
      refine And.intro (Or.inr rfl) ?_
      refine ⟨_, by simp [absAnswer, absResults, absResult, Tryd.f19]; rfl, ?_⟩
      refine ⟨by first | exact ⟨[], (List.append_nil _).symm⟩ | exact ⟨_, rfl⟩, by simp, ?_⟩
      rw [asksC_kind]; simp_all
    try simp only [h]
    replace h := Fa.out h
    refine WK.run (rest := []) [4, 5, 6, 7] (by simp; constructor <;> rfl) ?_
    refine WK.nil ?_
    refine DK.test rfl rfl (fun h => ?_) (fun h => ?_)
    · try simp only [h]
      replace h := Tr.out h
      refine DK.region (is := [0, 1, 2, 3]) (by kernel_rfl) rfl ?_
      refine WK.run (rest := []) [0, 1, 2, 3] (by simp; constructor <;> rfl) ?_
      refine WK.nil ?_
      refine DK.seq ?_
      refine DK.region (is := [0, 1, 2]) (by kernel_rfl) rfl ?_
      refine WK.run (rest := []) [0, 1, 2] (by simp; constructor <;> rfl) ?_
      refine WK.nil ?_
      refine DK.ret ?_
      refine And.intro (Or.inr rfl) ?_
      refine ⟨_, by simp [absAnswer, absResults, absResult, Tryd.f19]; rfl, ?_⟩
      refine ⟨by first | exact ⟨[], (List.append_nil _).symm⟩ | exact ⟨_, rfl⟩, by simp, ?_⟩
      rw [asksC_kind]; simp_all
    try simp only [h]
    replace h := Fa.out h
    refine DK.skip ?_
    refine DK.seq ?_
    refine DK.region (is := [0, 1, 2]) (by kernel_rfl) rfl ?_
    refine WK.run (rest := []) [0, 1, 2] (by simp; constructor <;> rfl) ?_
    refine WK.nil ?_
    refine DK.ret ?_
    refine And.intro (Or.inr rfl) ?_
    refine ⟨_, by simp [absAnswer, absResults, absResult, Tryd.f19]; rfl, ?_⟩
    refine ⟨by first | exact ⟨[], (List.append_nil _).symm⟩ | exact ⟨_, rfl⟩, by simp, ?_⟩
    rw [asksC_kind]; simp_all
  try simp only [h]
  replace h := Fa.out h
  refine DK.skip ?_
  refine DK.seq ?_
  refine DK.seq ?_
  refine DK.region (is := [0, 1, 2, 3, 4, 5, 6, 7]) (by kernel_rfl) rfl ?_
  refine WK.run (rest := [4, 5, 6, 7]) [0, 1, 2, 3] (by simp; constructor <;> rfl) ?_
  refine WK.split (t := 27) rfl (fun h => ?_) (fun h => ?_)
  · try simp only [h]
    replace h := Tr.out h
    refine WK.run (rest := []) [4, 5, 6, 7] (by simp; constructor <;> rfl) ?_
    refine WK.nil ?_
    refine DK.yes rfl rfl ?_
    refine DK.region (is := [0, 1, 2, 3]) (by kernel_rfl) rfl ?_
    refine WK.run (rest := []) [0, 1, 2, 3] (by simp; constructor <;> rfl) ?_
    refine WK.nil ?_
    refine DK.seq ?_
    refine DK.region (is := [0, 1, 2]) (by kernel_rfl) rfl ?_
    refine WK.run (rest := []) [0, 1, 2] (by simp; constructor <;> rfl) ?_
    refine WK.nil ?_
    refine DK.ret ?_
    refine And.intro (Or.inr rfl) ?_
    refine ⟨_, by simp [absAnswer, absResults, absResult, Tryd.f19]; rfl, ?_⟩
    refine ⟨by first | exact ⟨[], (List.append_nil _).symm⟩ | exact ⟨_, rfl⟩, by simp, ?_⟩
    rw [asksC_kind]; simp_all
  try simp only [h]
  replace h := Fa.out h
  refine WK.run (rest := []) [4, 5, 6, 7] (by simp; constructor <;> rfl) ?_
  refine WK.nil ?_
  refine DK.test rfl rfl (fun h => ?_) (fun h => ?_)
  · try simp only [h]
    replace h := Tr.out h
    refine DK.region (is := [0, 1, 2, 3]) (by kernel_rfl) rfl ?_
    refine WK.run (rest := []) [0, 1, 2, 3] (by simp; constructor <;> rfl) ?_
    refine WK.nil ?_
    refine DK.seq ?_
    refine DK.region (is := [0, 1, 2]) (by kernel_rfl) rfl ?_
    refine WK.run (rest := []) [0, 1, 2] (by simp; constructor <;> rfl) ?_
    refine WK.nil ?_
    refine DK.ret ?_
    refine And.intro (Or.inr rfl) ?_
    refine ⟨_, by simp [absAnswer, absResults, absResult, Tryd.f19]; rfl, ?_⟩
    refine ⟨by first | exact ⟨[], (List.append_nil _).symm⟩ | exact ⟨_, rfl⟩, by simp, ?_⟩
    rw [asksC_kind]; simp_all
  try simp only [h]
  replace h := Fa.out h
  refine DK.skip ?_
  refine DK.seq ?_
  refine DK.region (is := [0, 1, 2]) (by kernel_rfl) rfl ?_
  refine WK.run (rest := []) [0, 1, 2] (by simp; constructor <;> rfl) ?_
  refine WK.nil ?_
  refine DK.ret ?_
  refine And.intro (Or.inr rfl) ?_
  refine ⟨_, by simp [absAnswer, absResults, absResult, Tryd.f19]; rfl, ?_⟩
  refine ⟨by first | exact ⟨[], (List.append_nil _).symm⟩ | exact ⟨_, rfl⟩, by simp, ?_⟩
  rw [asksC_kind]; simp_all
theorem rorder_s (x : At4) (hx : x.ok) (asks : List Nt) (hn : asks.length ≤ 100000000000) {s : Value} {H : Mem} (hR : RowAt H s asks) : FSem Tryd.prog [0] 13 #[x.v, s] H fun v H' => v = (orderR x asks).v ∧ H' = H := by
  refine FSem.plainT ?_
  refine FSem.ofK Tryd.func13 rfl ?_
  refine DK.from (b' := ⟨#[x.v, s, undef, undef, undef, undef, undef, undef, undef, undef, undef, undef, undef, undef, undef, undef, undef, undef, undef, undef, undef, undef, undef, undef, undef, undef, undef, undef, undef, undef, undef, undef, undef, undef, undef, undef, undef, undef, undef, undef, undef, undef, undef, undef, undef, undef, undef, undef, undef, undef, undef, undef, undef, undef, undef, undef, undef, undef, undef, undef, undef, undef, undef, undef, undef, undef, undef, undef, undef, undef, undef, undef, undef, undef, undef, undef, undef, undef, undef, undef, undef, undef, undef, undef, undef, undef, undef, undef, undef, undef, undef, undef, undef], []⟩) (by kernel_rfl) ?_
  obtain ⟨⟨k1, k2⟩, ⟨k3, k4⟩, ⟨k5, k6⟩, ⟨k7, k8⟩⟩ := hx
  have u1 : x.a.tmod 3 = x.a % 3 := tm _ _ (by omega)
  have u2 : x.k.tmod 14 = x.k % 14 := tm _ _ (by omega)
  have u3 : IntKind.i64.wrap (x.a % 3) = x.a % 3 := wrap_in _ (by omega) (by omega)
  have u4 : x.b.tmod 3 = x.b % 3 := tm _ _ (by omega)
  have u5 : IntKind.i64.wrap (x.b % 3) = x.b % 3 := wrap_in _ (by omega) (by omega)
  have u6 : x.b.tmod 5 = x.b % 5 := tm _ _ (by omega)
  have u7 : IntKind.u8.wrap (4 + x.b % 5) = 4 + x.b % 5 := wrap_u8 _ (by omega) (by omega)
  have u8 : x.c.tmod 40 = x.c % 40 := tm _ _ (by omega)
  have u9 : IntKind.i64.wrap (x.c % 40) = x.c % 40 := wrap_in _ (by omega) (by omega)
  have u10 : IntKind.i64.wrap (1 + x.c % 40) = 1 + x.c % 40 := wrap_in _ (by omega) (by omega)
  have u11 : x.c.tmod 9 = x.c % 9 := tm _ _ (by omega)
  have u12 : IntKind.i64.wrap (x.c % 9) = x.c % 9 := wrap_in _ (by omega) (by omega)
  have u13 : IntKind.i64.wrap (1 + x.c % 9) = 1 + x.c % 9 := wrap_in _ (by omega) (by omega)
  have u14 : IntKind.i64.wrap x.b = x.b := wrap_in _ (by omega) (by omega)
  have u15 : x.c.tmod 5 = x.c % 5 := tm _ _ (by omega)
  have u16 : 0 ≤ x.c % 5 := by omega
  have u17 : x.c % 5 < 5 := by omega
  have u18 : (x.c % 5).toNat + 1 ≤ 5 := by omega
  have u19 : List.take 1 (List.drop (x.c % 5).toNat [Value.int .u8 1, .int .u8 1, .int .u8 1, .int .u8 2, .int .u8 3]) = [.int .u8 (verR x.c)] := ver_take
  have u20 : (x.c % 5).toNat ≤ 4 := by omega
  have u21 : (x.c % 5).toNat < 5 := by omega
  have hb1 := True.intro
  have hle := True.intro
  have hge := True.intro
  have hg0 := True.intro
  have hg1 := True.intro
  have hbm := True.intro
  have hne := True.intro
  have hln := lenNt hR
  refine DK.seq ?_
  refine DK.region (is := [0, 1]) (by kernel_rfl) rfl ?_
  refine WK.run (rest := []) [0, 1] (by simp [u1, u2, u3, u4, u5, u6, u7, u8, u9, u10, u11, u12, u13, u14, u15, u16, u17, u18, u19, u20, u21, hb1, hle, hge, hg0, hg1, hbm, hne, hln]; constructor <;> rfl) ?_
  refine WK.nil ?_
  refine DK.seq ?_
  refine DK.region (is := [0, 1, 2, 3, 4]) (by kernel_rfl) rfl ?_
  refine WK.run (rest := []) [0, 1, 2, 3, 4] (by simp [u1, u2, u3, u4, u5, u6, u7, u8, u9, u10, u11, u12, u13, u14, u15, u16, u17, u18, u19, u20, u21, hb1, hle, hge, hg0, hg1, hbm, hne, hln]; constructor <;> rfl) ?_
  refine WK.nil ?_
  refine DK.seq ?_
  refine DK.seq ?_
  refine DK.region (is := [0, 1, 2]) (by kernel_rfl) rfl ?_
  refine WK.run (rest := []) [0, 1, 2] (by simp [u1, u2, u3, u4, u5, u6, u7, u8, u9, u10, u11, u12, u13, u14, u15, u16, u17, u18, u19, u20, u21, hb1, hle, hge, hg0, hg1, hbm, hne, hln]; constructor <;> rfl) ?_
  refine WK.nil ?_
  refine DK.block ?_
  refine DK.seq ?_
  refine DK.region (is := [0, 1]) (by kernel_rfl) rfl ?_
  refine WK.run (rest := []) [0, 1] (by simp [u1, u2, u3, u4, u5, u6, u7, u8, u9, u10, u11, u12, u13, u14, u15, u16, u17, u18, u19, u20, u21, hb1, hle, hge, hg0, hg1, hbm, hne, hln]; constructor <;> rfl) ?_
  refine WK.nil ?_
  refine DK.test rfl rfl (fun h => ?_) (fun h => ?_)
  · try simp only [h]
    replace h := Tr.out h
    refine DK.seq ?_
    refine DK.region (is := [0, 1, 2, 3, 4]) (by kernel_rfl) rfl ?_
    refine WK.run (rest := [2, 3, 4]) [0, 1] (by simp [u1, u2, u3, u4, u5, u6, u7, u8, u9, u10, u11, u12, u13, u14, u15, u16, u17, u18, u19, u20, u21, hb1, hle, hge, hg0, hg1, hbm, hne, hln]; constructor <;> rfl) ?_
    refine WK.call rfl (by simp [u1, u2, u3, u4, u5, u6, u7, u8, u9, u10, u11, u12, u13, u14, u15, u16, u17, u18, u19, u20, u21, hb1, hle, hge, hg0, hg1, hbm, hne, hln]) (by simp [Tryd.func20, Tryd.f20, u1, u2, u3, u4, u5, u6, u7, u8, u9, u10, u11, u12, u13, u14, u15, u16, u17, u18, u19, u20, u21, hb1, hle, hge, hg0, hg1, hbm, hne, hln]; constructor <;> rfl) ?_
    refine FSem.mono (rplan_s x.b (by omega) (by omega) _) ?_
    rintro _ _ ⟨rfl, rfl⟩
    refine WK.run (rest := []) [3, 4] (by simp [u1, u2, u3, u4, u5, u6, u7, u8, u9, u10, u11, u12, u13, u14, u15, u16, u17, u18, u19, u20, u21, hb1, hle, hge, hg0, hg1, hbm, hne, hln]; constructor <;> rfl) ?_
    refine WK.nil ?_
    refine DK.ret ?_
    refine And.intro (Or.inr rfl) ?_
    refine ⟨_, by simp [absAnswer, absResults, absResult, Tryd.f13]; rfl, ?_⟩
    refine ⟨by first | exact ⟨[], (List.append_nil _).symm⟩ | exact ⟨_, rfl⟩, by simp, ?_⟩
    unfold orderR; simp_all [zeroP, zeroN]
  try simp only [h]
  replace h := Fa.out h
  refine DK.seq ?_
  refine DK.seq ?_
  refine DK.region (is := [0, 1]) (by kernel_rfl) rfl ?_
  refine WK.run (rest := []) [0, 1] (by simp [u1, u2, u3, u4, u5, u6, u7, u8, u9, u10, u11, u12, u13, u14, u15, u16, u17, u18, u19, u20, u21, hb1, hle, hge, hg0, hg1, hbm, hne, hln]; constructor <;> rfl) ?_
  refine WK.nil ?_
  refine DK.test rfl rfl (fun h => ?_) (fun h => ?_)
  · try simp only [h]
    replace h := Tr.out h
    refine DK.skip ?_
    refine DK.yes rfl rfl ?_
    refine DK.seq ?_
    refine DK.region (is := [0, 1, 2, 3, 4, 5, 6]) (by kernel_rfl) rfl ?_
    refine WK.run (rest := []) [0, 1, 2, 3, 4, 5, 6] (by simp [u1, u2, u3, u4, u5, u6, u7, u8, u9, u10, u11, u12, u13, u14, u15, u16, u17, u18, u19, u20, u21, hb1, hle, hge, hg0, hg1, hbm, hne, hln]; constructor <;> rfl) ?_
    refine WK.nil ?_
    refine DK.ret ?_
    refine And.intro (Or.inr rfl) ?_
    refine ⟨_, by simp [absAnswer, absResults, absResult, Tryd.f13]; rfl, ?_⟩
    refine ⟨by first | exact ⟨[], (List.append_nil _).symm⟩ | exact ⟨_, rfl⟩, by simp, ?_⟩
    unfold orderR; simp_all [zeroP, zeroN]
  try simp only [h]
  replace h := Fa.out h
  refine DK.region (is := [0, 1]) (by kernel_rfl) rfl ?_
  refine WK.run (rest := []) [0, 1] (by simp [u1, u2, u3, u4, u5, u6, u7, u8, u9, u10, u11, u12, u13, u14, u15, u16, u17, u18, u19, u20, u21, hb1, hle, hge, hg0, hg1, hbm, hne, hln]; constructor <;> rfl) ?_
  refine WK.nil ?_
  refine DK.test rfl rfl (fun h => ?_) (fun h => ?_)
  · try simp only [h]
    replace h := Tr.out h
    refine DK.seq ?_
    refine DK.region (is := [0, 1, 2, 3, 4, 5, 6]) (by kernel_rfl) rfl ?_
    refine WK.run (rest := []) [0, 1, 2, 3, 4, 5, 6] (by simp [u1, u2, u3, u4, u5, u6, u7, u8, u9, u10, u11, u12, u13, u14, u15, u16, u17, u18, u19, u20, u21, hb1, hle, hge, hg0, hg1, hbm, hne, hln]; constructor <;> rfl) ?_
    refine WK.nil ?_
    refine DK.ret ?_
    refine And.intro (Or.inr rfl) ?_
    refine ⟨_, by simp [absAnswer, absResults, absResult, Tryd.f13]; rfl, ?_⟩
    refine ⟨by first | exact ⟨[], (List.append_nil _).symm⟩ | exact ⟨_, rfl⟩, by simp, ?_⟩
    unfold orderR; simp_all [zeroP, zeroN]
  try simp only [h]
  replace h := Fa.out h
  refine DK.seq ?_
  refine DK.region (is := [0, 1]) (by kernel_rfl) rfl ?_
  refine WK.run (rest := []) [0, 1] (by simp [u1, u2, u3, u4, u5, u6, u7, u8, u9, u10, u11, u12, u13, u14, u15, u16, u17, u18, u19, u20, u21, hb1, hle, hge, hg0, hg1, hbm, hne, hln]; constructor <;> rfl) ?_
  refine WK.nil ?_
  refine DK.test rfl rfl (fun h => ?_) (fun h => ?_)
  · try simp only [h]
    replace h := Tr.out h
    refine DK.seq ?_
    refine DK.region (is := [0, 1, 2, 3, 4, 5, 6]) (by kernel_rfl) rfl ?_
    refine WK.run (rest := []) [0, 1, 2, 3, 4, 5, 6] (by simp [u1, u2, u3, u4, u5, u6, u7, u8, u9, u10, u11, u12, u13, u14, u15, u16, u17, u18, u19, u20, u21, hb1, hle, hge, hg0, hg1, hbm, hne, hln]; constructor <;> rfl) ?_
    refine WK.nil ?_
    refine DK.ret ?_
    refine And.intro (Or.inr rfl) ?_
    refine ⟨_, by simp [absAnswer, absResults, absResult, Tryd.f13]; rfl, ?_⟩
    refine ⟨by first | exact ⟨[], (List.append_nil _).symm⟩ | exact ⟨_, rfl⟩, by simp, ?_⟩
    unfold orderR; simp_all [zeroP, zeroN]
  try simp only [h]
  replace h := Fa.out h
  refine DK.seq ?_
  refine DK.region (is := [0, 1]) (by kernel_rfl) rfl ?_
  refine WK.run (rest := []) [0, 1] (by simp [u1, u2, u3, u4, u5, u6, u7, u8, u9, u10, u11, u12, u13, u14, u15, u16, u17, u18, u19, u20, u21, hb1, hle, hge, hg0, hg1, hbm, hne, hln]; constructor <;> rfl) ?_
  refine WK.nil ?_
  refine DK.test rfl rfl (fun h => ?_) (fun h => ?_)
  · try simp only [h]
    replace h := Tr.out h
    refine DK.seq ?_
    refine DK.region (is := [0, 1, 2, 3, 4, 5, 6]) (by kernel_rfl) rfl ?_
    refine WK.run (rest := []) [0, 1, 2, 3, 4, 5, 6] (by simp [u1, u2, u3, u4, u5, u6, u7, u8, u9, u10, u11, u12, u13, u14, u15, u16, u17, u18, u19, u20, u21, hb1, hle, hge, hg0, hg1, hbm, hne, hln]; constructor <;> rfl) ?_
    refine WK.nil ?_
    refine DK.ret ?_
    refine And.intro (Or.inr rfl) ?_
    refine ⟨_, by simp [absAnswer, absResults, absResult, Tryd.f13]; rfl, ?_⟩
    refine ⟨by first | exact ⟨[], (List.append_nil _).symm⟩ | exact ⟨_, rfl⟩, by simp, ?_⟩
    unfold orderR; simp_all [zeroP, zeroN]
  try simp only [h]
  replace h := Fa.out h
  refine DK.seq ?_
  refine DK.region (is := [0, 1]) (by kernel_rfl) rfl ?_
  refine WK.run (rest := []) [0, 1] (by simp [u1, u2, u3, u4, u5, u6, u7, u8, u9, u10, u11, u12, u13, u14, u15, u16, u17, u18, u19, u20, u21, hb1, hle, hge, hg0, hg1, hbm, hne, hln]; constructor <;> rfl) ?_
  refine WK.nil ?_
  refine DK.test rfl rfl (fun h => ?_) (fun h => ?_)
  · try simp only [h]
    replace h := Tr.out h
    refine DK.seq ?_
    refine DK.region (is := [0, 1, 2]) (by kernel_rfl) rfl ?_
    refine WK.run (rest := []) [0, 1, 2] (by simp [u1, u2, u3, u4, u5, u6, u7, u8, u9, u10, u11, u12, u13, u14, u15, u16, u17, u18, u19, u20, u21, hb1, hle, hge, hg0, hg1, hbm, hne, hln]; constructor <;> rfl) ?_
    refine WK.nil ?_
    refine DK.ret ?_
    refine And.intro (Or.inr rfl) ?_
    refine ⟨_, by simp [absAnswer, absResults, absResult, Tryd.f13]; rfl, ?_⟩
    refine ⟨by first | exact ⟨[], (List.append_nil _).symm⟩ | exact ⟨_, rfl⟩, by simp, ?_⟩
    unfold orderR; simp_all [zeroP, zeroN]
  try simp only [h]
  replace h := Fa.out h
  refine DK.seq ?_
  refine DK.seq ?_
  refine DK.region (is := [0, 1]) (by kernel_rfl) rfl ?_
  refine WK.run (rest := []) [0, 1] (by simp [u1, u2, u3, u4, u5, u6, u7, u8, u9, u10, u11, u12, u13, u14, u15, u16, u17, u18, u19, u20, u21, hb1, hle, hge, hg0, hg1, hbm, hne, hln]; constructor <;> rfl) ?_
  refine WK.nil ?_
  refine DK.test rfl rfl (fun h => ?_) (fun h => ?_)
  · try simp only [h]
    replace h := Tr.out h
    refine DK.skip ?_
    refine DK.yes rfl rfl ?_
    refine DK.seq ?_
    refine DK.region (is := [0, 1, 2, 3, 4, 5, 6]) (by kernel_rfl) rfl ?_
    refine WK.run (rest := []) [0, 1, 2, 3, 4, 5, 6] (by simp [u1, u2, u3, u4, u5, u6, u7, u8, u9, u10, u11, u12, u13, u14, u15, u16, u17, u18, u19, u20, u21, hb1, hle, hge, hg0, hg1, hbm, hne, hln]; constructor <;> rfl) ?_
    refine WK.nil ?_
    refine DK.ret ?_
    refine And.intro (Or.inr rfl) ?_
    refine ⟨_, by simp [absAnswer, absResults, absResult, Tryd.f13]; rfl, ?_⟩
    refine ⟨by first | exact ⟨[], (List.append_nil _).symm⟩ | exact ⟨_, rfl⟩, by simp, ?_⟩
    unfold orderR; simp_all [zeroP, zeroN]
  try simp only [h]
  replace h := Fa.out h
  refine DK.seq ?_
  refine DK.region (is := [0, 1]) (by kernel_rfl) rfl ?_
  refine WK.run (rest := []) [0, 1] (by simp [u1, u2, u3, u4, u5, u6, u7, u8, u9, u10, u11, u12, u13, u14, u15, u16, u17, u18, u19, u20, u21, hb1, hle, hge, hg0, hg1, hbm, hne, hln]; constructor <;> rfl) ?_
  refine WK.nil ?_
  refine DK.test rfl rfl (fun h => ?_) (fun h => ?_)
  · try simp only [h]
    replace h := Tr.out h
    refine DK.skip ?_
    refine DK.yes rfl rfl ?_
    refine DK.seq ?_
    refine DK.region (is := [0, 1, 2, 3, 4, 5, 6]) (by kernel_rfl) rfl ?_
    refine WK.run (rest := []) [0, 1, 2, 3, 4, 5, 6] (by simp [u1, u2, u3, u4, u5, u6, u7, u8, u9, u10, u11, u12, u13, u14, u15, u16, u17, u18, u19, u20, u21, hb1, hle, hge, hg0, hg1, hbm, hne, hln]; constructor <;> rfl) ?_
    refine WK.nil ?_
    refine DK.ret ?_
    refine And.intro (Or.inr rfl) ?_
    refine ⟨_, by simp [absAnswer, absResults, absResult, Tryd.f13]; rfl, ?_⟩
    refine ⟨by first | exact ⟨[], (List.append_nil _).symm⟩ | exact ⟨_, rfl⟩, by simp, ?_⟩
    unfold orderR; simp_all [zeroP, zeroN]
  try simp only [h]
  replace h := Fa.out h
  refine DK.region (is := [0, 1]) (by kernel_rfl) rfl ?_
  refine WK.run (rest := []) [0, 1] (by simp [u1, u2, u3, u4, u5, u6, u7, u8, u9, u10, u11, u12, u13, u14, u15, u16, u17, u18, u19, u20, u21, hb1, hle, hge, hg0, hg1, hbm, hne, hln]; constructor <;> rfl) ?_
  refine WK.nil ?_
  refine DK.test rfl rfl (fun h => ?_) (fun h => ?_)
  · try simp only [h]
    replace h := Tr.out h
    refine DK.seq ?_
    refine DK.region (is := [0, 1, 2, 3, 4, 5, 6]) (by kernel_rfl) rfl ?_
    refine WK.run (rest := []) [0, 1, 2, 3, 4, 5, 6] (by simp [u1, u2, u3, u4, u5, u6, u7, u8, u9, u10, u11, u12, u13, u14, u15, u16, u17, u18, u19, u20, u21, hb1, hle, hge, hg0, hg1, hbm, hne, hln]; constructor <;> rfl) ?_
    refine WK.nil ?_
    refine DK.ret ?_
    refine And.intro (Or.inr rfl) ?_
    refine ⟨_, by simp [absAnswer, absResults, absResult, Tryd.f13]; rfl, ?_⟩
    refine ⟨by first | exact ⟨[], (List.append_nil _).symm⟩ | exact ⟨_, rfl⟩, by simp, ?_⟩
    unfold orderR; simp_all [zeroP, zeroN]
  try simp only [h]
  replace h := Fa.out h
  refine DK.skip ?_
  refine DK.seq ?_
  refine DK.seq ?_
  refine DK.region (is := [0, 1, 2]) (by kernel_rfl) rfl ?_
  refine WK.run (rest := []) [0, 1, 2] (by simp [u1, u2, u3, u4, u5, u6, u7, u8, u9, u10, u11, u12, u13, u14, u15, u16, u17, u18, u19, u20, u21, hb1, hle, hge, hg0, hg1, hbm, hne, hln]; constructor <;> rfl) ?_
  refine WK.nil ?_
  refine DK.test rfl rfl (fun h => ?_) (fun h => ?_)
  · try simp only [h]
    replace h := Tr.out h
    refine DK.seq ?_
    refine DK.region (is := [0, 1, 2, 3, 4, 5, 6]) (by kernel_rfl) rfl ?_
    refine WK.run (rest := []) [0, 1, 2, 3, 4, 5, 6] (by simp [u1, u2, u3, u4, u5, u6, u7, u8, u9, u10, u11, u12, u13, u14, u15, u16, u17, u18, u19, u20, u21, hb1, hle, hge, hg0, hg1, hbm, hne, hln]; constructor <;> rfl) ?_
    refine WK.nil ?_
    refine DK.ret ?_
    refine And.intro (Or.inr rfl) ?_
    refine ⟨_, by simp [absAnswer, absResults, absResult, Tryd.f13]; rfl, ?_⟩
    refine ⟨by first | exact ⟨[], (List.append_nil _).symm⟩ | exact ⟨_, rfl⟩, by simp, ?_⟩
    unfold orderR; simp_all [zeroP, zeroN]
  try simp only [h]
  replace h := Fa.out h
  have hl0 : 0 < asks.length := by omega
  replace hg0 : 0 ≤ x.b % asks.length := Int.emod_nonneg _ (by omega)
  replace hg1 : x.b % asks.length < asks.length := Int.emod_lt_of_pos _ (by omega)
  replace hbm : x.b.tmod asks.length = x.b % asks.length := tm _ _ (by omega)
  replace hne : ¬ (asks = []) := by rintro rfl; simp at hl0
  have hil : (x.b % asks.length).toNat < asks.length := by omega
  obtain ⟨b, o, ro, vs, rfl, hb, hle1, hge1⟩ := hR.blk hil
  replace hb1 : ∀ r : Mem, (H ++ r)[b]? = some (.cells ro vs) := fun r => by rw [List.getElem?_append_left (List.getElem?_eq_some_iff.1 hb).1]; exact hb
  replace hle : o + (x.b % asks.length).toNat * 6 + 6 ≤ vs.length := hle1
  replace hge : List.take 6 (List.drop (o + (x.b % asks.length).toNat * 6) vs) = (asks[(x.b % asks.length).toNat]).l := hge1
  have hgd : asks.getD (x.b % asks.length).toNat zeroN = asks[(x.b % asks.length).toNat] := by simp [List.getD_eq_getElem?_getD, List.getElem?_eq_getElem hil]
  refine DK.skip ?_
  refine DK.seq ?_
  refine DK.region (is := [0, 1, 2, 3, 4, 5, 6, 7, 8, 9, 10]) (by kernel_rfl) rfl ?_
  refine WK.run (rest := [10]) [0, 1, 2, 3, 4, 5, 6, 7, 8, 9] (by simp [u1, u2, u3, u4, u5, u6, u7, u8, u9, u10, u11, u12, u13, u14, u15, u16, u17, u18, u19, u20, u21, hb1, hle, hge, hg0, hg1, hbm, hne, hln]; constructor <;> rfl) ?_
  refine WK.run (rest := []) [10] (by simp [u1, u2, u3, u4, u5, u6, u7, u8, u9, u10, u11, u12, u13, u14, u15, u16, u17, u18, u19, u20, u21, hb1, hle, hge, hg0, hg1, hbm, hne, hln]; constructor <;> rfl) ?_
  refine WK.nil ?_
  refine DK.seq ?_
  refine DK.region (is := [0, 1, 2, 3, 4, 5, 6, 7]) (by kernel_rfl) rfl ?_
  refine WK.run (rest := []) [0, 1, 2, 3, 4, 5, 6, 7] (by simp [u1, u2, u3, u4, u5, u6, u7, u8, u9, u10, u11, u12, u13, u14, u15, u16, u17, u18, u19, u20, u21, hb1, hle, hge, hg0, hg1, hbm, hne, hln]; constructor <;> rfl) ?_
  refine WK.nil ?_
  refine DK.seq ?_
  refine DK.seq ?_
  refine DK.region (is := [0, 1, 2]) (by kernel_rfl) rfl ?_
  refine WK.run (rest := []) [0, 1, 2] (by simp [u1, u2, u3, u4, u5, u6, u7, u8, u9, u10, u11, u12, u13, u14, u15, u16, u17, u18, u19, u20, u21, hb1, hle, hge, hg0, hg1, hbm, hne, hln]; constructor <;> rfl) ?_
  refine WK.nil ?_
  refine DK.test rfl rfl (fun h => ?_) (fun h => ?_)
  · try simp only [h]
    replace h := Tr.out h
    refine DK.region (is := [0, 1, 2, 3, 4]) (by kernel_rfl) rfl ?_
    refine WK.run (rest := []) [0, 1, 2, 3, 4] (by simp [u1, u2, u3, u4, u5, u6, u7, u8, u9, u10, u11, u12, u13, u14, u15, u16, u17, u18, u19, u20, u21, hb1, hle, hge, hg0, hg1, hbm, hne, hln]; constructor <;> rfl) ?_
    refine WK.nil ?_
    refine DK.seq ?_
    refine DK.region (is := [0, 1, 2]) (by kernel_rfl) rfl ?_
    refine WK.run (rest := []) [0, 1, 2] (by simp [u1, u2, u3, u4, u5, u6, u7, u8, u9, u10, u11, u12, u13, u14, u15, u16, u17, u18, u19, u20, u21, hb1, hle, hge, hg0, hg1, hbm, hne, hln]; constructor <;> rfl) ?_
    refine WK.nil ?_
    refine DK.ret ?_
    refine And.intro (Or.inr rfl) ?_
    refine ⟨_, by simp [absAnswer, absResults, absResult, Tryd.f13]; rfl, ?_⟩
    refine ⟨by first | exact ⟨[], (List.append_nil _).symm⟩ | exact ⟨_, rfl⟩, by simp, ?_⟩
    unfold orderR; simp_all [zeroP, zeroN]
  try simp only [h]
  replace h := Fa.out h
  refine DK.skip ?_
  refine DK.seq ?_
  refine DK.region (is := [0, 1, 2]) (by kernel_rfl) rfl ?_
  refine WK.run (rest := []) [0, 1, 2] (by simp [u1, u2, u3, u4, u5, u6, u7, u8, u9, u10, u11, u12, u13, u14, u15, u16, u17, u18, u19, u20, u21, hb1, hle, hge, hg0, hg1, hbm, hne, hln]; constructor <;> rfl) ?_
  refine WK.nil ?_
  refine DK.ret ?_
  refine And.intro (Or.inr rfl) ?_
  refine ⟨_, by simp [absAnswer, absResults, absResult, Tryd.f13]; rfl, ?_⟩
  refine ⟨by first | exact ⟨[], (List.append_nil _).symm⟩ | exact ⟨_, rfl⟩, by simp, ?_⟩
  unfold orderR; simp_all [zeroP, zeroN]
end Go.Den
set_option linter.unusedVariables false
set_option maxRecDepth 100000
namespace Go.Den
open Go Go.Proofs
theorem step_g (k : Nat) (b : Bk) (o : Od) {sp : Value} {l : List As} {H : Mem} (hB : BkAt H sp l b) (hL : Lad H) (hk : BOk k b) (hk3 : k ≤ 300000000) (hu : UnOk b.pls) : FSem Tryd.prog [0] 16 #[bkv b.today sp l, o.v] H fun v H' => ∃ b' e sp' l', v = .tuple #[bkv b'.today sp' l', .int .i64 e] ∧ stepB b o = (b', e) ∧ BkAt H' sp' l' b' ∧ l'.length = 32 ∧ sp'.cells = #[sp'] ∧ sp'.oneCell' = true ∧ Keep H H' ∧ ∀ c, blkOf sp' = some c → blkOf sp = some c ∨ H.length ≤ c := by
  refine FSem.mono (step_s k b o hB hL hk hk3 hu) ?_
  rintro v H' ⟨sp', l', rfl, h, hk, hs⟩
  exact ⟨_, _, sp', l', rfl, rfl, h, h.len, h.pls.cells.1, h.pls.cells.2, hk, hs⟩
theorem plain_bk0 (t : Int) : plainV (bkv t (.slice none 0 0) zL) = true := by kernel_rfl
theorem newb_g (t : Int) (H : Mem) : FSem Tryd.prog [0] 12 #[.int .i64 t] H fun v H' => v = bkv t (.slice none 0 0) zL ∧ H = H' := by
  refine FSem.mono (FSem.plainT (K := fun v => v = bkv t (.slice none 0 0) zL) (FSem.mono (newb_s t H) ?_)) ?_
  · rintro v H' ⟨rfl, h⟩
    exact ⟨h, plain_bk0 t, rfl⟩
  · rintro v H' ⟨h1, h2⟩
    exact ⟨h1, h2.symm⟩
theorem rorder_g (x : At4) (hx : x.ok) (asks : List Nt) (hn : asks.length ≤ 100000000000) {s : Value} {H : Mem} (hR : RowAt H s asks) : FSem Tryd.prog [0] 13 #[x.v, s] H fun v H' => ∃ o : Od, v = o.v ∧ orderR x asks = o ∧ H = H' := by
  refine FSem.mono (rorder_s x hx asks hn hR) ?_
  rintro v H' ⟨rfl, rfl⟩
  exact ⟨_, rfl, rfl, rfl⟩
theorem take_sub {m f k n : Nat} {L X : List Value} (h : List.take m (List.drop n L) = X) (hfk : f + k ≤ m) : List.take k (List.drop (n + f) L) = List.take k (List.drop f X) := by
  rw [← h, List.drop_take, List.take_take, Nat.min_eq_left (by omega), List.drop_drop]
theorem sameL_app : ∀ (xs ys : List Value), sameL xs xs = true → sameL ys ys = true → sameL (xs ++ ys) (xs ++ ys) = true
  | [], ys, _, h => h
  | x :: xs, ys, h1, h2 => by
    simp only [sameL, Bool.and_eq_true, List.cons_append] at h1 ⊢
    exact ⟨h1.1, sameL_app xs ys h1.2 h2⟩
theorem rows_same {H : Mem} : ∀ l : List As, (∀ x ∈ l, OpenAt H x.s x.a.op) → sameL (rowV l) (rowV l) = true
  | [], _ => rfl
  | x :: l, h => by
    rw [rowV_cons]
    refine sameL_app _ _ ?_ (rows_same l fun y hy => h y (by simp [hy]))
    show sameL (x.a.l x.s) (x.a.l x.s) = true
    have := (h x (by simp)).same.1
    simp [sameL, this, same1_int, same1_bool]
theorem bk_same {H : Mem} {sp : Value} {l : List As} {b : Bk} (h : BkAt H sp l b) (t : Int) : sameL (BkL t sp l) (BkL t sp l) = true := by
  unfold BkL
  simp only [sameL, same1_int, h.pls.same.1, decide_true, Bool.true_and]
  exact rows_same l h.op
def p0 : Pl := ⟨100, 0, 30, 0, false, false⟩
def b1 : Bk := ⟨0, [p0], List.replicate 32 zeroA⟩
def a2 : Ac := ⟨1, 0, 0, 1, 1, 0, false, [⟨0, 0, 1, 100, 0, 1, 0, false⟩], 0, 0, 0, 0, 0⟩
def b2 : Bk := ⟨0, [p0], (List.replicate 32 zeroA).set 0 a2⟩
theorem awk1 : stepB (newB 0) ⟨1, 0, 0, 0, p0, zeroN⟩ = (b1, 0) := by
  unfold stepB
  rw [if_neg (by decide), if_pos rfl, if_neg (by decide)]
  rfl
theorem nth00 : nthF 0 0 30 0 = (0, 0) := by
  unfold nthF; rw [if_pos (by decide), nthO_zero (by decide) (by decide)]; rfl
theorem nth01 : nthF 0 0 30 1 = (30, 0) := by
  unfold nthF; rw [if_pos (by decide)]
  simp [nthO, Sea.nth, Sea.off, Sea.dayAdd, Sea.out]
theorem awkd : dayA (openAc 0 p0 0) p0 0 = (a2, 0) := by
  unfold dayA
  have e0 : dueA { openAc 0 p0 0 with op := (openAc 0 p0 0).op.map (fun c => wakeC c 0) } p0 = (0, 0) := nth00
  have hb : beginA { { openAc 0 p0 0 with op := (openAc 0 p0 0).op.map (fun c => wakeC c 0) } with ix := IntKind.i64.wrap ((openAc 0 p0 0).ix + 1) } p0 0 false = (a2, 0) := by decide +kernel
  rw [dayL_go (x := { openAc 0 p0 0 with op := (openAc 0 p0 0).op.map (fun c => wakeC c 0) }) (x2 := a2) (e2 := 0) (by decide) (by decide) (by rw [e0]) (by rw [e0]; decide) false (by simp [p0]) (by rw [e0]; exact hb)]
  simp only [ne_eq, not_true_eq_false, if_false]
  exact dayL_no _ (.inr (by show 0 < (nthF 0 0 30 1).1; rw [nth01]; decide))
theorem awk2 : stepB b1 ⟨2, 0, 0, 0, zeroP, zeroN⟩ = (b2, 0) := by
  unfold stepB
  rw [if_neg (by decide), if_neg (by decide), if_pos rfl]
  have : openB b1 ⟨2, 0, 0, 0, zeroP, zeroN⟩ = (a2, 0) := by
    unfold openB
    dsimp only
    rw [if_neg (by decide), if_neg (by decide), if_neg (by decide)]
    exact awkd
  rw [this]; rfl
theorem awk3 : b2.asks = [⟨1, 0, 0, 1, 100, 0⟩] := by decide +kernel
theorem hok0 : BOk 8000000 (newB 0) := ⟨(newB_ok 0).1.pls, fun a ha => ⟨((newB_ok 0).1.subs a ha).1, Nat.le_trans ((newB_ok 0).1.subs a ha).2 (by decide)⟩, (newB_ok 0).1.len⟩
theorem hok1 : BOk 8000000 b1 := ⟨by decide, fun a ha => by rw [List.eq_of_mem_replicate ha]; exact ⟨by decide, by simp [zeroA]⟩, by decide⟩
theorem hun1 : UnOk b1.pls := by intro p hp; simp [b1] at hp; subst hp; decide
theorem hok2 : BOk 12000000 b2 := by
  have := stepB_ok hok1 (show (stepB b1 ⟨2, 0, 0, 0, zeroP, zeroN⟩).2 = 0 by rw [awk2])
  rw [awk2] at this
  exact ⟨this.pls, fun a ha => ⟨(this.subs a ha).1, Nat.le_trans (this.subs a ha).2 (by decide)⟩, this.len⟩
end Go.Den
namespace Go.Den
open Go Go.Proofs
set_option maxRecDepth 100000
set_option maxHeartbeats 1000000
set_option linter.all false
attribute [local simp] evOps evOp absOp absBox absLoad absStore absField absIndexAddr absCells absBinOp absBin absInt absShift absUn absPick absNil absExtract absPlaces Instr.fill absBuiltin absMinMax plainV plainT allA flat cells_agg cells_int cells_bool cells_str cells_ptr cells_sl cells_map one_int one_bool one_str one_ptr one_sl one_map Act.eval Act.put Region.wanted yielded absCall TypeDesc.isRow
attribute [local simp high] bk_t bk_p bk_take bk_row BkL_len sp_bk sp_t sp_p
attribute [local simp] sp_nil sp_0 sp_s List.length_set
theorem awake_s {H : Mem} (hL : Lad H) : FSem Tryd.prog [0] 11 #[] H fun v H' => v = .bool true ∧ H' = H := by
  refine FSem.plainT ?_
  refine FSem.ofK Tryd.func11 rfl ?_
  refine DK.from (b' := ⟨#[undef, undef, undef, undef, undef, undef, undef, undef, undef, undef, undef, undef, undef, undef, undef, undef, undef, undef, undef, undef, undef, undef, undef, undef, undef, undef, undef, undef, undef, undef, undef, undef, undef, undef, undef, undef, undef, undef, undef, undef, undef, undef, undef, undef, undef, undef, undef, undef, undef, undef, undef, undef, undef, undef, undef, undef], []⟩) (by kernel_rfl) ?_
  have hq0 := True.intro
  have hq1 := True.intro
  have hq4 := True.intro
  have hq5 := True.intro
  have hq6 := True.intro
  have c1 := True.intro
  have c2 := True.intro
  have c3 := True.intro
  have hone1 := True.intro
  have hone2 := True.intro
  have hs10 := True.intro
  have hs11 := True.intro
  have hl1 := True.intro
  have hs20 := True.intro
  have hs21 := True.intro
  have hl2 := True.intro
  have hal := True.intro
  have hb0 := True.intro
  have hbg := True.intro
  have hble := True.intro
  have hr0 := True.intro
  have hr1 := True.intro
  have htk := True.intro
  have hsl := True.intro
  have hbq := True.intro
  have hln := True.intro
  have hBk := True.intro
  have hL2 := hL
  have hkH := Keep.refl H
  refine DK.seq ?_
  refine DK.region (is := [0]) (by kernel_rfl) rfl ?_
  refine WK.run (rest := []) [0] (by simp [hq0, hq1, hq4, hq5, hq6, c1, c2, c3, hone1, hone2, hs10, hs11, hl1, hs20, hs21, hl2, hal, hb0, hbg, hble, hr0, hr1, htk, hsl, hbq, hln, p0, zeroN, zeroP]; constructor <;> rfl) ?_
  refine WK.nil ?_
  refine DK.seq ?_
  refine DK.region (is := [0, 1, 2]) (by kernel_rfl) rfl ?_
  refine WK.call rfl (by simp [hq0, hq1, hq4, hq5, hq6, c1, c2, c3, hone1, hone2, hs10, hs11, hl1, hs20, hs21, hl2, hal, hb0, hbg, hble, hr0, hr1, htk, hsl, hbq, hln, p0, zeroN, zeroP]) (by simp [Tryd.func12, Tryd.f12, hq0, hq1, hq4, hq5, hq6, c1, c2, c3, hone1, hone2, hs10, hs11, hl1, hs20, hs21, hl2, hal, hb0, hbg, hble, hr0, hr1, htk, hsl, hbq, hln, p0, zeroN, zeroP]; constructor <;> rfl) ?_
  refine FSem.mono (newb_g 0 _) ?_
  rintro _ Hq ⟨rfl, hq⟩
  subst hq
  refine WK.run (rest := []) [1, 2] (by simp [hq0, hq1, hq4, hq5, hq6, c1, c2, c3, hone1, hone2, hs10, hs11, hl1, hs20, hs21, hl2, hal, hb0, hbg, hble, hr0, hr1, htk, hsl, hbq, hln, p0, zeroN, zeroP]; constructor <;> rfl) ?_
  refine WK.nil ?_
  refine DK.abs (fun M0 => Keep H M0 ∧ M0[H.length]? = some (.cells false (BkL 0 (.slice none 0 0) zL))) ⟨Keep.app _ _, mem_app _ _⟩ ?_
  rintro M0 ⟨hkk, h_c1⟩
  replace c1 := h_c1
  replace hL2 := hL2.keep hkk
  replace hkH := hkH.keep hkk
  replace hBk := BkAt.new M0 0
  refine DK.seq ?_
  refine DK.region (is := [0, 1, 2, 3, 4, 5, 6, 7, 8, 9]) (by kernel_rfl) rfl ?_
  refine WK.run (rest := [3, 4, 5, 6, 7, 8, 9]) [0, 1, 2] (by simp [hq0, hq1, hq4, hq5, hq6, c1, c2, c3, hone1, hone2, hs10, hs11, hl1, hs20, hs21, hl2, hal, hb0, hbg, hble, hr0, hr1, htk, hsl, hbq, hln, p0, zeroN, zeroP]; constructor <;> rfl) ?_
  refine WK.call rfl (by simp [hq0, hq1, hq4, hq5, hq6, c1, c2, c3, hone1, hone2, hs10, hs11, hl1, hs20, hs21, hl2, hal, hb0, hbg, hble, hr0, hr1, htk, hsl, hbq, hln, p0, zeroN, zeroP]) (by simp [Tryd.func16, Tryd.f16, hq0, hq1, hq4, hq5, hq6, c1, c2, c3, hone1, hone2, hs10, hs11, hl1, hs20, hs21, hl2, hal, hb0, hbg, hble, hr0, hr1, htk, hsl, hbq, hln, p0, zeroN, zeroP]; constructor <;> rfl) ?_
  refine FSem.mono (step_g 8000000 (newB 0) ⟨1, 0, 0, 0, p0, zeroN⟩ hBk hL2 hok0 (by decide) (newB_ok 0).2) ?_
  rintro _ M1 ⟨b', e', sp1, l1, rfl, hres, hBk, hl, hs0, hs1, hkk, hsb⟩
  rw [awk1] at hres
  obtain ⟨rfl, rfl⟩ := Prod.mk.inj hres
  replace hl1 := hl
  replace hs10 := hs0
  replace hs11 := hs1
  replace hone1 := bk_ones hs1
  replace c1 := hkk.cell c1
  replace hL2 := hL2.keep hkk
  replace hkH := hkH.keep hkk
  refine WK.run (rest := []) [4, 5, 6, 7, 8, 9] (by simp [hq0, hq1, hq4, hq5, hq6, c1, c2, c3, hone1, hone2, hs10, hs11, hl1, hs20, hs21, hl2, hal, hb0, hbg, hble, hr0, hr1, htk, hsl, hbq, hln, p0, zeroN, zeroP]; constructor <;> rfl) ?_
  refine WK.nil ?_
  refine DK.abs (fun M2 => Keep M1 M2 ∧ M2[M1.length]? = some (.cells false (BkL b1.today sp1 l1))) ⟨Keep.app _ _, mem_app _ _⟩ ?_
  rintro M2 ⟨hkk, h_c2⟩
  replace c2 := h_c2
  replace c1 := hkk.cell c1
  replace hL2 := hL2.keep hkk
  replace hBk := hBk.keep hkk
  replace hkH := hkH.keep hkk
  refine DK.seq ?_
  refine DK.region (is := [0, 1, 2, 3, 4, 5, 6, 7, 8]) (by kernel_rfl) rfl ?_
  refine WK.run (rest := [2, 3, 4, 5, 6, 7, 8]) [0, 1] (by simp [hq0, hq1, hq4, hq5, hq6, c1, c2, c3, hone1, hone2, hs10, hs11, hl1, hs20, hs21, hl2, hal, hb0, hbg, hble, hr0, hr1, htk, hsl, hbq, hln, p0, zeroN, zeroP]; constructor <;> rfl) ?_
  refine WK.call rfl (by simp [hq0, hq1, hq4, hq5, hq6, c1, c2, c3, hone1, hone2, hs10, hs11, hl1, hs20, hs21, hl2, hal, hb0, hbg, hble, hr0, hr1, htk, hsl, hbq, hln, p0, zeroN, zeroP]) (by simp [Tryd.func16, Tryd.f16, hq0, hq1, hq4, hq5, hq6, c1, c2, c3, hone1, hone2, hs10, hs11, hl1, hs20, hs21, hl2, hal, hb0, hbg, hble, hr0, hr1, htk, hsl, hbq, hln, p0, zeroN, zeroP]; constructor <;> rfl) ?_
  refine FSem.mono (step_g 8000000 b1 ⟨2, 0, 0, 0, zeroP, zeroN⟩ hBk hL2 hok1 (by decide) hun1) ?_
  rintro _ M3 ⟨b', e', sp2, l2, rfl, hres, hBk, hl, hs0, hs1, hkk, hsb⟩
  rw [awk2] at hres
  obtain ⟨rfl, rfl⟩ := Prod.mk.inj hres
  replace hl2 := hl
  replace hs20 := hs0
  replace hs21 := hs1
  replace hone2 := bk_ones hs1
  replace c1 := hkk.cell c1
  replace c2 := hkk.cell c2
  replace hL2 := hL2.keep hkk
  replace hkH := hkH.keep hkk
  refine WK.run (rest := []) [3, 4, 5, 6, 7, 8] (by simp [hq0, hq1, hq4, hq5, hq6, c1, c2, c3, hone1, hone2, hs10, hs11, hl1, hs20, hs21, hl2, hal, hb0, hbg, hble, hr0, hr1, htk, hsl, hbq, hln, p0, zeroN, zeroP]; constructor <;> rfl) ?_
  refine WK.nil ?_
  refine DK.abs (fun M4 => Keep M3 M4 ∧ M4[M3.length]? = some (.cells false (BkL b2.today sp2 l2))) ⟨Keep.app _ _, mem_app _ _⟩ ?_
  rintro M4 ⟨hkk, h_c3⟩
  replace c3 := h_c3
  replace c1 := hkk.cell c1
  replace c2 := hkk.cell c2
  replace hL2 := hL2.keep hkk
  replace hBk := hBk.keep hkk
  replace hkH := hkH.keep hkk
  refine DK.seq ?_
  refine DK.region (is := [0, 1, 2]) (by kernel_rfl) rfl ?_
  refine WK.run (rest := [1, 2]) [0] (by simp [hq0, hq1, hq4, hq5, hq6, c1, c2, c3, hone1, hone2, hs10, hs11, hl1, hs20, hs21, hl2, hal, hb0, hbg, hble, hr0, hr1, htk, hsl, hbq, hln, p0, zeroN, zeroP]; constructor <;> rfl) ?_
  refine WK.call rfl (by simp [hq0, hq1, hq4, hq5, hq6, c1, c2, c3, hone1, hone2, hs10, hs11, hl1, hs20, hs21, hl2, hal, hb0, hbg, hble, hr0, hr1, htk, hsl, hbq, hln, p0, zeroN, zeroP]) (by simp [Tryd.func14, Tryd.f14, hq0, hq1, hq4, hq5, hq6, c1, c2, c3, hone1, hone2, hs10, hs11, hl1, hs20, hs21, hl2, hal, hb0, hbg, hble, hr0, hr1, htk, hsl, hbq, hln, p0, zeroN, zeroP]; constructor <;> rfl) ?_
  refine FSem.mono (basks_s 12000000 b2 hBk hok2 (by decide)) ?_
  rintro _s5 M5 ⟨hA, hR, hW, hN⟩
  have hkk := Keep.of hA
  replace c1 := hkk.cell c1
  replace c2 := hkk.cell c2
  replace c3 := hkk.cell c3
  replace hL2 := hL2.keep hkk
  replace hBk := hBk.keep hkk
  replace hkH := hkH.keep hkk
  rw [awk3] at hR
  replace hr0 := hR.cells.1
  replace hr1 := hR.cells.2
  replace hln := lenNt hR
  obtain ⟨b, of, ro, vs, rfl, hb, hle, hge⟩ := hR.blk (i := 0) (by decide)
  replace hb0 := hb
  replace hble : of + 6 ≤ vs.length := hle
  replace hq0 : List.take 1 (List.drop of vs) = [.int .u8 1] := take_sub (f := 0) (k := 1) hge (by decide)
  replace hq4 : List.take 1 (List.drop (of + 4) vs) = [.int .i64 100] := take_sub (f := 4) (k := 1) hge (by decide)
  replace hq1 : of + 1 ≤ vs.length := by omega
  replace hq5 : of + 5 ≤ vs.length := by omega
  replace hq6 : of + 4 + 1 ≤ vs.length := by omega
  obtain ⟨x, hxa, hxl, hxo, htk1, hst, hpt⟩ := hBk.sub (i := 0) (by decide) (by decide)
  replace hal : List.take 1 (List.drop 9 (BkL b2.today sp2 l2)) = [x.s] := take_sub (f := 7) (k := 1) (htk1 b2.today) (by decide)
  replace hsl : ∀ K, absLen Tryd.prog K 28 x.s = some (.int .i64 1) := fun K => by rw [hxo.lenK K, hxa]; rfl
  refine WK.run (rest := []) [2] (by simp [hq0, hq1, hq4, hq5, hq6, c1, c2, c3, hone1, hone2, hs10, hs11, hl1, hs20, hs21, hl2, hal, hb0, hbg, hble, hr0, hr1, htk, hsl, hbq, hln, p0, zeroN, zeroP]; constructor <;> rfl) ?_
  refine WK.nil ?_
  refine DK.seq ?_
  refine DK.region (is := [0, 1, 2, 3, 4, 5, 6, 7, 8, 9, 10, 11, 12, 13, 14, 15, 16, 17, 18, 19, 20, 21, 22, 23, 24, 25, 26, 27, 28, 29, 30, 31, 32, 33]) (by kernel_rfl) rfl ?_
  refine WK.run (rest := [3, 4, 5, 6, 7, 8, 9, 10, 11, 12, 13, 14, 15, 16, 17, 18, 19, 20, 21, 22, 23, 24, 25, 26, 27, 28, 29, 30, 31, 32, 33]) [0, 1, 2] (by simp [hq0, hq1, hq4, hq5, hq6, c1, c2, c3, hone1, hone2, hs10, hs11, hl1, hs20, hs21, hl2, hal, hb0, hbg, hble, hr0, hr1, htk, hsl, hbq, hln, p0, zeroN, zeroP]; constructor <;> rfl) ?_
  refine WK.split (t := 25) rfl (fun h => ?_) (fun h => ?_)
  · try simp only [h]
    replace h := Tr.out h
    refine WK.run (rest := [7, 8, 9, 10, 11, 12, 13, 14, 15, 16, 17, 18, 19, 20, 21, 22, 23, 24, 25, 26, 27, 28, 29, 30, 31, 32, 33]) [3, 4, 5, 6] (by simp [hq0, hq1, hq4, hq5, hq6, c1, c2, c3, hone1, hone2, hs10, hs11, hl1, hs20, hs21, hl2, hal, hb0, hbg, hble, hr0, hr1, htk, hsl, hbq, hln, p0, zeroN, zeroP]; constructor <;> rfl) ?_
    refine WK.split (t := 29) rfl (fun h => ?_) (fun h => ?_)
    · try simp only [h]
      replace h := Tr.out h
      refine WK.run (rest := [15, 16, 17, 18, 19, 20, 21, 22, 23, 24, 25, 26, 27, 28, 29, 30, 31, 32, 33]) [7, 8, 9, 10, 11, 12, 13, 14] (by simp [hq0, hq1, hq4, hq5, hq6, c1, c2, c3, hone1, hone2, hs10, hs11, hl1, hs20, hs21, hl2, hal, hb0, hbg, hble, hr0, hr1, htk, hsl, hbq, hln, p0, zeroN, zeroP]; constructor <;> rfl) ?_
      refine WK.split (t := 37) rfl (fun h => ?_) (fun h => ?_)
      · try simp only [h]
        replace h := Tr.out h
        refine WK.run (rest := [20, 21, 22, 23, 24, 25, 26, 27, 28, 29, 30, 31, 32, 33]) [15, 16, 17, 18, 19] (by simp [hq0, hq1, hq4, hq5, hq6, c1, c2, c3, hone1, hone2, hs10, hs11, hl1, hs20, hs21, hl2, hal, hb0, hbg, hble, hr0, hr1, htk, hsl, hbq, hln, p0, zeroN, zeroP]; constructor <;> rfl) ?_
        refine WK.split (t := 42) rfl (fun h => ?_) (fun h => ?_)
        · try simp only [h]
          replace h := Tr.out h
          refine WK.run (rest := [27, 28, 29, 30, 31, 32, 33]) [20, 21, 22, 23, 24, 25, 26] (by simp [hq0, hq1, hq4, hq5, hq6, c1, c2, c3, hone1, hone2, hs10, hs11, hl1, hs20, hs21, hl2, hal, hb0, hbg, hble, hr0, hr1, htk, hsl, hbq, hln, p0, zeroN, zeroP]; constructor <;> rfl) ?_
          refine WK.split (t := 49) rfl (fun h => ?_) (fun h => ?_)
          · try simp only [h]
            replace h := Tr.out h
            refine WK.run (rest := []) [27, 28, 29, 30, 31, 32, 33] (by simp [hq0, hq1, hq4, hq5, hq6, c1, c2, c3, hone1, hone2, hs10, hs11, hl1, hs20, hs21, hl2, hal, hb0, hbg, hble, hr0, hr1, htk, hsl, hbq, hln, p0, zeroN, zeroP]; constructor <;> rfl) ?_
            refine WK.nil ?_
            refine DK.ret ?_
            refine And.intro (Or.inr rfl) ?_
            refine ⟨_, by simp [absAnswer, absResults, absResult, Tryd.f11]; rfl, ?_⟩
            exact ⟨hkH.ext, by simp, by simp⟩
          try simp only [h]
          replace h := Fa.out h
          cases h
        try simp only [h]
        replace h := Fa.out h
        cases h
      try simp only [h]
      replace h := Fa.out h
      cases h
    try simp only [h]
    replace h := Fa.out h
    cases h
  try simp only [h]
  replace h := Fa.out h
  cases h
end Go.Den
