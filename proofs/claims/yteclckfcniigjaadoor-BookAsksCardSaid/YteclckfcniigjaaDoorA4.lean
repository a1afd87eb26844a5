/- A part of the proof. -/
import Derived.KernelRfl
import Derived.Scope
import Derived.Test.YteclckfcniigjaaDoorK3
set_option linter.all false
namespace Go.Den
open Go Go.Proofs
set_option maxRecDepth 100000
set_option maxHeartbeats 1000000
set_option linter.all false
attribute [local simp] evOps evOp absOp absBox absAlloc absLoad absStore absField absIndexAddr absCells absBinOp absBin absInt absShift absUn absPick absNil absExtract absBuild absPlaces Instr.fill absBuiltin absMinMax plainV plainT allA flat cells_agg cells_int cells_bool cells_str cells_ptr cells_sl cells_map one_int one_bool one_str one_ptr one_sl one_map Act.eval Act.put Region.wanted yielded splice absCall TypeDesc.isRow
theorem settle_s (a : Ac) {s : Value} {H : Mem} (hO : OpenAt H s a.op) (hn : a.op.length ≤ 1000000000000) : FSem Tryd.prog [0] 60 #[a.v s] H fun v H' => AcRes H (settleA a) v H' := by
  refine FSem.ofK Tryd.func60 rfl ?_
  refine DK.from (b' := ⟨#[a.v s, undef, undef, undef, undef, undef, undef, undef, undef, undef, undef, undef, undef, undef, undef, undef, undef, undef, undef, undef, undef, undef, undef, undef, undef, undef, undef, undef, undef], []⟩) (by kernel_rfl) ?_
  have m0 := True.intro
  have m1 := True.intro
  have qq := True.intro
  have hs0 := True.intro
  have hs1 := True.intro
  have hll := True.intro
  have hb := True.intro
  have hwr := True.intro
  have hi9 := True.intro
  have hlt := True.intro
  have hge := True.intro
  have hle := True.intro
  have hcc := True.intro
  have hls := True.intro
  have hF := True.intro
  have hOs := hO
  refine DK.seq ?_
  refine DK.region (is := [0, 1, 2]) (by kernel_rfl) rfl ?_
  refine WK.run (rest := []) [0, 1, 2] (by simp [m0, m1, qq, hs0, hs1, hll, hb, hwr, hi9, hlt, hge, hle, hcc, hls, Cy.cells]; constructor <;> rfl) ?_
  refine WK.nil ?_
  refine DK.abs (fun M0 => AtM H [a.l s, zeroA.l (.slice none 0 0)] M0 ∧ OpenAt M0 s a.op) ⟨AtM.start H [] [_, _], hO.app _⟩ ?_
  try clear hM
  try clear hO
  rintro M0 ⟨hM, hO⟩
  replace m0 := hM.own 0 (by simp)
  replace m1 := hM.own 1 (by simp)
  simp only [List.getElem_cons_zero, List.getElem_cons_succ, Nat.add_zero] at m0 m1
  replace qq := hM.q2
  replace hs0 := hO.cells.1
  replace hs1 := hO.cells.2
  replace hls := hO.lenK
  refine DK.seq ?_
  refine DK.region (is := [0, 1, 2]) (by kernel_rfl) rfl ?_
  refine WK.run (rest := []) [0, 1, 2] (by simp [m0, m1, qq, hs0, hs1, hll, hb, hwr, hi9, hlt, hge, hle, hcc, hls, Cy.cells]; constructor <;> rfl) ?_
  refine WK.nil ?_
  refine DK.seq ?_
  refine DK.region (is := [0, 1]) (by kernel_rfl) rfl ?_
  refine WK.run (rest := []) [0, 1] (by simp [m0, m1, qq, hs0, hs1, hll, hb, hwr, hi9, hlt, hge, hle, hcc, hls, Cy.cells]; constructor <;> rfl) ?_
  refine WK.nil ?_
  refine DK.abs (fun M2 => AtM H [({ a with op := [] } : Ac).l (.slice none 0 0), zeroA.l (.slice none 0 0)] M2 ∧ OpenAt M2 (.slice none 0 0) []) ⟨hM.set (i := 0) (by simp) _, .inl ⟨rfl, rfl⟩⟩ ?_
  try clear hM
  try clear hO
  rintro M2 ⟨hM, hO⟩
  replace m0 := hM.own 0 (by simp)
  replace m1 := hM.own 1 (by simp)
  simp only [List.getElem_cons_zero, List.getElem_cons_succ, Nat.add_zero] at m0 m1
  replace qq := hM.q2
  replace hs0 := hO.cells.1
  replace hs1 := hO.cells.2
  replace hF : Fresh (H.length + 2) (.slice none 0 0) := .inl rfl
  refine DK.seq ?_
  refine DK.seq ?_
  refine DK.region (is := [0, 1, 2]) (by kernel_rfl) rfl ?_
  refine WK.run (rest := []) [0, 1, 2] (by simp [m0, m1, qq, hs0, hs1, hll, hb, hwr, hi9, hlt, hge, hle, hcc, hls, Cy.cells]; constructor <;> rfl) ?_
  refine WK.nil ?_
  refine DK.block ?_
  refine DK.loopG [3, 6, 7, 13, 14, 15, 16, 17, 18, 19, 20, 21, 22, 23, 24, 25, 26, 27] (fun fl vs H' => ∃ (i : Int) (x : Ac) (s' : Value) (j3 j6 j7 j14 j15 j16 j17 j18 j19 j20 j21 j22 j23 j24 j25 j26 j27 : Value), vs = [j3, j6, j7, .int .i64 i, j14, j15, j16, j17, j18, j19, j20, j21, j22, j23, j24, j25, j26, j27] ∧ (AtM H [x.l s', zeroA.l (.slice none 0 0)] H' ∧ OpenAt H' s' x.op ∧ Fresh (H.length + 2) s') ∧ 0 ≤ i ∧ i ≤ a.op.length ∧ settleL (a.op.drop i.toNat) x = settleA a ∧ x.op.length ≤ i ∧ fl = (a.op.length - i).toNat) (a.op.length) (by kernel_rfl) ?_ ?_
  · refine ⟨_, ({ a with op := [] } : Ac), (.slice none 0 0), _, _, _, _, _, _, _, _, _, _, _, _, _, _, _, _, _, rfl, ?_⟩
    exact ⟨⟨hM, hO, hF⟩, by omega, by omega, rfl, by simp, by omega⟩
  rintro fl _ M ⟨i, x, s', j3, j6, j7, j14, j15, j16, j17, j18, j19, j20, j21, j22, j23, j24, j25, j26, j27, rfl, hf⟩
  try clear hM
  try clear hO
  try clear hF
  obtain ⟨⟨hM, hO, hF⟩, hi0, hi1, hx1, hx2, hfl⟩ := hf
  replace m0 := hM.own 0 (by simp)
  replace m1 := hM.own 1 (by simp)
  simp only [List.getElem_cons_zero, List.getElem_cons_succ, Nat.add_zero] at m0 m1
  replace qq := hM.q2
  replace hs0 := hO.cells.1
  replace hs1 := hO.cells.2
  refine DK.from (by simp [setL]; exact rfl) ?_
  refine DK.seq ?_
  refine DK.region (is := [0]) (by kernel_rfl) rfl ?_
  refine WK.run (rest := []) [0] (by simp [m0, m1, qq, hs0, hs1, hll, hb, hwr, hi9, hlt, hge, hle, hcc, hls, Cy.cells]; constructor <;> rfl) ?_
  refine WK.nil ?_
  refine DK.seq ?_
  refine DK.test rfl rfl (fun h => ?_) (fun h => ?_)
  · try simp only [h]
    replace h := Tr.out h
    replace hi9 : 0 ≤ i := hi0
    replace hwr : IntKind.i64.wrap (i + 1) = i + 1 := wrap_in _ (by omega) (by omega)
    replace hlt : i < a.op.length := h
    have hil : i.toNat < a.op.length := by omega
    clear hb; obtain ⟨b, rfl, hb⟩ := (hOs.keep hM.keep).blk (by omega)
    replace hge := cys_get hil
    replace hle : i.toNat * 8 + 8 ≤ a.op.length * 8 := by omega
    refine DK.skip ?_
    refine DK.seq ?_
    refine DK.block ?_
    refine DK.seq ?_
    refine DK.region (is := [0, 1, 2, 3]) (by kernel_rfl) rfl ?_
    refine WK.run (rest := []) [0, 1, 2, 3] (by simp [m0, m1, qq, hs0, hs1, hll, hb, hwr, hi9, hlt, hge, hle, hcc, hls, Cy.cells]; constructor <;> rfl) ?_
    refine WK.nil ?_
    refine DK.abs (fun MA => AtM H [x.l s', zeroA.l (.slice none 0 0)] MA ∧ OpenAt MA s' x.op ∧ MA[M.length]? = some (.cells false a.op[i.toNat].l)) ⟨hM.on (Keep.app _ _), hO.app _, by simp⟩ ?_
    try clear hM
    try clear hO
    rintro MA ⟨hM, hO, hcc⟩
    replace m0 := hM.own 0 (by simp)
    replace m1 := hM.own 1 (by simp)
    simp only [List.getElem_cons_zero, List.getElem_cons_succ, Nat.add_zero] at m0 m1
    replace qq := hM.q2
    replace hs0 := hO.cells.1
    replace hs1 := hO.cells.2
    replace hcc : MA[M.length]? = some (.cells false a.op[i.toNat].l) := hcc
    refine DK.seq ?_
    refine DK.region (is := [0]) (by kernel_rfl) rfl ?_
    refine WK.run (rest := []) [0] (by simp [m0, m1, qq, hs0, hs1, hll, hb, hwr, hi9, hlt, hge, hle, hcc, hls, Cy.cells]; constructor <;> rfl) ?_
    refine WK.nil ?_
    refine DK.seq ?_
    refine DK.region (is := [0, 1, 2, 3, 4, 5, 6, 7]) (by kernel_rfl) rfl ?_
    refine WK.run (rest := [2, 3, 4, 5, 6, 7]) [0, 1] (by simp [m0, m1, qq, hs0, hs1, hll, hb, hwr, hi9, hlt, hge, hle, hcc, hls, Cy.cells]; constructor <;> rfl) ?_
    refine WK.call rfl (by simp [m0, m1, qq, hs0, hs1, hll, hb, hwr, hi9, hlt, hge, hle, hcc, hls, Cy.cells]) (by simp [Tryd.func84, Tryd.f84, m0, m1, qq, hs0, hs1, hll, hb, hwr, hi9, hlt, hge, hle, hcc, hls, Cy.cells]; constructor <;> rfl) ?_
    refine FSem.mono (close_g x (a.op[i.toNat]) hO (by omega)) ?_
    rintro _ M5 ⟨x2, e2, s2, rfl, hcl, hfr, hO, hs2⟩
    have hF2 : Fresh (H.length + 2) s2 := by
      rcases hs2 with rfl | q
      · exact hF
      · exact q.le (hM.lt (i := 1) (by simp))
    replace hM := hM.fr hfr hF
    have hF0 := hF
    replace hF := hF2
    replace m0 := hM.own 0 (by simp)
    replace m1 := hM.own 1 (by simp)
    simp only [List.getElem_cons_zero, List.getElem_cons_succ, Nat.add_zero] at m0 m1
    replace qq := hM.q2
    replace hs0 := hO.cells.1
    replace hs1 := hO.cells.2
    refine WK.run (rest := []) [3, 4, 5, 6, 7] (by simp [m0, m1, qq, hs0, hs1, hll, hb, hwr, hi9, hlt, hge, hle, hcc, hls, Cy.cells]; constructor <;> rfl) ?_
    refine WK.nil ?_
    refine DK.abs (fun M6 => AtM H [x2.l s2, zeroA.l (.slice none 0 0)] M6 ∧ OpenAt M6 s2 x2.op) ⟨hM.set (i := 0) (by simp) _, hO.set (hF.ne (by omega)) _⟩ ?_
    try clear hM
    try clear hO
    rintro M6 ⟨hM, hO⟩
    replace m0 := hM.own 0 (by simp)
    replace m1 := hM.own 1 (by simp)
    simp only [List.getElem_cons_zero, List.getElem_cons_succ, Nat.add_zero] at m0 m1
    replace qq := hM.q2
    replace hs0 := hO.cells.1
    replace hs1 := hO.cells.2
    have hro := settle_round hil hx1 hcl
    refine DK.seq ?_
    refine DK.region (is := [0, 1]) (by kernel_rfl) rfl ?_
    refine WK.run (rest := []) [0, 1] (by simp [m0, m1, qq, hs0, hs1, hll, hb, hwr, hi9, hlt, hge, hle, hcc, hls, Cy.cells]; constructor <;> rfl) ?_
    refine WK.nil ?_
    refine DK.test rfl rfl (fun h => ?_) (fun h => ?_)
    · try simp only [h]
      replace h := Tr.out h
      refine DK.seq ?_
      refine DK.region (is := [0, 1, 2, 3]) (by kernel_rfl) rfl ?_
      refine WK.run (rest := []) [0, 1, 2, 3] (by simp [m0, m1, qq, hs0, hs1, hll, hb, hwr, hi9, hlt, hge, hle, hcc, hls, Cy.cells]; constructor <;> rfl) ?_
      refine WK.nil ?_
      refine DK.abs (fun MZ => AtM H [x2.l s2, zeroA.l (.slice none 0 0)] MZ ∧ OpenAt MZ (.slice none 0 0) zeroA.op) ⟨hM.set (i := 1) (by simp) _, .inl ⟨rfl, rfl⟩⟩ ?_
      try clear hM
      try clear hO
      rintro MZ ⟨hM, hO⟩
      replace m0 := hM.own 0 (by simp)
      replace m1 := hM.own 1 (by simp)
      simp only [List.getElem_cons_zero, List.getElem_cons_succ, Nat.add_zero] at m0 m1
      replace qq := hM.q2
      replace hs0 := hO.cells.1
      replace hs1 := hO.cells.2
      replace hF : Fresh (H.length + 2) (.slice none 0 0) := .inl rfl
      have hres : settleA a = (zeroA, e2) := hro.1 ‹_›
      refine DK.ret ?_
      refine And.intro (Or.inr rfl) ?_
      refine ⟨_, by simp [absAnswer, absResults, absResult, Tryd.f60, m0, m1, qq, hs0, hs1]; rfl, ?_⟩
      exact ⟨_, by rw [hres]; rfl, hM.keep.ext, by rw [hres]; exact hO, hF.le (by omega)⟩
    try simp only [h]
    replace h := Fa.out h
    refine DK.skip ?_
    refine DK.region (is := [0, 1]) (by kernel_rfl) rfl ?_
    refine WK.run (rest := []) [0, 1] (by simp [m0, m1, qq, hs0, hs1, hll, hb, hwr, hi9, hlt, hge, hle, hcc, hls, Cy.cells]; constructor <;> rfl) ?_
    refine WK.nil ?_
    refine ⟨by kernel_rfl, (a.op.length - (i + 1)).toNat, ?_, _, x2, s2, _, _, _, _, _, _, _, _, _, _, _, _, _, _, _, _, _, rfl, ?_⟩
    · omega
    · obtain ⟨r1, r2⟩ := hro.2 ‹_›
      rw [show (i + 1).toNat = i.toNat + 1 by omega]
      exact ⟨⟨hM, hO, hF⟩, by omega, by omega, r1, by omega, rfl⟩
  try simp only [h]
  replace h := Fa.out h
  refine DK.exit ?_
  refine DK.seq ?_
  refine DK.region (is := [0, 1, 2]) (by kernel_rfl) rfl ?_
  refine WK.run (rest := []) [0, 1, 2] (by simp [m0, m1, qq, hs0, hs1, hll, hb, hwr, hi9, hlt, hge, hle, hcc, hls, Cy.cells]; constructor <;> rfl) ?_
  refine WK.nil ?_
  refine DK.abs (fun M8 => AtM H [x.l s', x.l s'] M8 ∧ OpenAt M8 s' x.op) ⟨hM.set (i := 1) (by simp) _, hO.set (hF.ne (by omega)) _⟩ ?_
  try clear hM
  try clear hO
  rintro M8 ⟨hM, hO⟩
  replace m0 := hM.own 0 (by simp)
  replace m1 := hM.own 1 (by simp)
  simp only [List.getElem_cons_zero, List.getElem_cons_succ, Nat.add_zero] at m0 m1
  replace qq := hM.q2
  replace hs0 := hO.cells.1
  replace hs1 := hO.cells.2
  have hres : settleA a = (x, 0) := by
    rw [← hx1, List.drop_of_length_le (by omega)]; rfl
  refine DK.ret ?_
  refine And.intro (Or.inr rfl) ?_
  refine ⟨_, by simp [absAnswer, absResults, absResult, Tryd.f60, m0, m1, qq, hs0, hs1]; rfl, ?_⟩
  exact ⟨_, by rw [hres]; rfl, hM.keep.ext, by rw [hres]; exact hO, hF.le (by omega)⟩
theorem acard_s (a : Ac) {s : Value} {H : Mem} (hO : OpenAt H s a.op) (hn : a.op.length ≤ 1000000000000) : FSem Tryd.prog [0] 65 #[a.v s] H fun v H' => AcRes H (cardA a) v H' := by
  refine FSem.ofK Tryd.func65 rfl ?_
  refine DK.from (b' := ⟨#[a.v s, undef, undef, undef, undef, undef, undef, undef, undef, undef, undef, undef, undef, undef, undef, undef, undef, undef, undef, undef, undef, undef, undef, undef, undef, undef, undef, undef, undef, undef, undef, undef, undef, undef], []⟩) (by kernel_rfl) ?_
  have m0 := True.intro
  have m1 := True.intro
  have qq := True.intro
  have hs0 := True.intro
  have hs1 := True.intro
  have hll := True.intro
  have hb := True.intro
  have hwr := True.intro
  have hi9 := True.intro
  have hlt := True.intro
  have hge := True.intro
  have hle := True.intro
  have hls := True.intro
  have hF := True.intro
  refine DK.seq ?_
  refine DK.region (is := [0, 1, 2]) (by kernel_rfl) rfl ?_
  refine WK.run (rest := []) [0, 1, 2] (by simp [m0, m1, qq, hs0, hs1, hll, hb, hwr, hi9, hlt, hge, hle, hls, Cy.cells]; constructor <;> rfl) ?_
  refine WK.nil ?_
  refine DK.abs (fun M0 => AtM H [a.l s, zeroA.l (.slice none 0 0)] M0 ∧ OpenAt M0 s a.op) ⟨AtM.start H [] [_, _], hO.app _⟩ ?_
  try clear hM
  try clear hO
  rintro M0 ⟨hM, hO⟩
  replace m0 := hM.own 0 (by simp)
  replace m1 := hM.own 1 (by simp)
  simp only [List.getElem_cons_zero, List.getElem_cons_succ, Nat.add_zero] at m0 m1
  replace qq := hM.q2
  replace hs0 := hO.cells.1
  replace hs1 := hO.cells.2
  refine DK.seq ?_
  refine DK.seq ?_
  refine DK.region (is := [0, 1, 2, 3, 4, 5, 6, 7]) (by kernel_rfl) rfl ?_
  refine WK.run (rest := [4, 5, 6, 7]) [0, 1, 2, 3] (by simp [m0, m1, qq, hs0, hs1, hll, hb, hwr, hi9, hlt, hge, hle, hls, Cy.cells]; constructor <;> rfl) ?_
  refine WK.split (t := 8) rfl (fun h => ?_) (fun h => ?_)
  · try simp only [h]
    replace h := Tr.out h
    refine WK.run (rest := []) [4, 5, 6, 7] (by simp [m0, m1, qq, hs0, hs1, hll, hb, hwr, hi9, hlt, hge, hle, hls, Cy.cells]; constructor <;> rfl) ?_
    refine WK.nil ?_
    refine DK.test rfl rfl (fun h => ?_) (fun h => ?_)
    · try simp only [h]
      replace h := Tr.out h
      refine DK.seq ?_
      refine DK.region (is := [0, 1, 2]) (by kernel_rfl) rfl ?_
      refine WK.run (rest := []) [0, 1, 2] (by simp [m0, m1, qq, hs0, hs1, hll, hb, hwr, hi9, hlt, hge, hle, hls, Cy.cells]; constructor <;> rfl) ?_
      refine WK.nil ?_
      refine DK.abs (fun MZ => AtM H [a.l s, zeroA.l (.slice none 0 0)] MZ ∧ OpenAt MZ (.slice none 0 0) zeroA.op) ⟨hM.set (i := 1) (by simp) _, .inl ⟨rfl, rfl⟩⟩ ?_
      try clear hM
      try clear hO
      rintro MZ ⟨hM, hO⟩
      replace m0 := hM.own 0 (by simp)
      replace m1 := hM.own 1 (by simp)
      simp only [List.getElem_cons_zero, List.getElem_cons_succ, Nat.add_zero] at m0 m1
      replace qq := hM.q2
      replace hs0 := hO.cells.1
      replace hs1 := hO.cells.2
      replace hF : Fresh (H.length + 2) (.slice none 0 0) := .inl rfl
      have hres : cardA a = (zeroA, 8) := by unfold cardA; simp_all
      refine DK.ret ?_
      refine And.intro (Or.inr rfl) ?_
      refine ⟨_, by simp [absAnswer, absResults, absResult, Tryd.f65, m0, m1, qq, hs0, hs1]; rfl, ?_⟩
      exact ⟨_, by rw [hres]; rfl, hM.keep.ext, by rw [hres]; exact hO, hF.le (by omega)⟩
    try simp only [h]
    replace h := Fa.out h
    refine DK.skip ?_
    refine DK.seq ?_
    refine DK.region (is := [0, 1, 2]) (by kernel_rfl) rfl ?_
    refine WK.run (rest := [1, 2]) [0] (by simp [m0, m1, qq, hs0, hs1, hll, hb, hwr, hi9, hlt, hge, hle, hls, Cy.cells]; constructor <;> rfl) ?_
    refine WK.call rfl (by simp [m0, m1, qq, hs0, hs1, hll, hb, hwr, hi9, hlt, hge, hle, hls, Cy.cells]) (by simp [Tryd.func58, Tryd.f58, m0, m1, qq, hs0, hs1, hll, hb, hwr, hi9, hlt, hge, hle, hls, Cy.cells]; constructor <;> rfl) ?_
    refine FSem.mono (copy_s a hO (by omega)) ?_
    rintro _ M1 ⟨s1, rfl, hA, hO, hF⟩
    replace hF : Fresh (H.length + 2) s1 := hF.le (hM.lt (i := 1) (by simp))
    replace hM := hM.on (Keep.of hA)
    replace m0 := hM.own 0 (by simp)
    replace m1 := hM.own 1 (by simp)
    simp only [List.getElem_cons_zero, List.getElem_cons_succ, Nat.add_zero] at m0 m1
    replace qq := hM.q2
    replace hs0 := hO.cells.1
    replace hs1 := hO.cells.2
    refine WK.run (rest := []) [2] (by simp [m0, m1, qq, hs0, hs1, hll, hb, hwr, hi9, hlt, hge, hle, hls, Cy.cells]; constructor <;> rfl) ?_
    refine WK.nil ?_
    refine DK.abs (fun M2 => AtM H [a.l s1, zeroA.l (.slice none 0 0)] M2 ∧ OpenAt M2 s1 a.op) ⟨hM.set (i := 0) (by simp) _, hO.set (hF.ne (by omega)) _⟩ ?_
    try clear hM
    try clear hO
    rintro M2 ⟨hM, hO⟩
    replace m0 := hM.own 0 (by simp)
    replace m1 := hM.own 1 (by simp)
    simp only [List.getElem_cons_zero, List.getElem_cons_succ, Nat.add_zero] at m0 m1
    replace qq := hM.q2
    replace hs0 := hO.cells.1
    replace hs1 := hO.cells.2
    replace hls := hO.lenK
    refine DK.seq ?_
    refine DK.seq ?_
    refine DK.region (is := [0, 1, 2, 3]) (by kernel_rfl) rfl ?_
    refine WK.run (rest := []) [0, 1, 2, 3] (by simp [m0, m1, qq, hs0, hs1, hll, hb, hwr, hi9, hlt, hge, hle, hls, Cy.cells]; constructor <;> rfl) ?_
    refine WK.nil ?_
    refine DK.block ?_
    refine DK.loopG [4, 19, 20, 21, 22, 23, 24, 25, 26, 27, 28, 29, 30, 31, 32] (fun fl vs H' => ∃ (i : Int) (s : Value) (j4 j20 j21 j22 j23 j24 j25 j26 j27 j28 j29 j30 j31 j32 : Value), vs = [j4, .int .i64 i, j20, j21, j22, j23, j24, j25, j26, j27, j28, j29, j30, j31, j32] ∧ (AtM H [a.l s, zeroA.l (.slice none 0 0)] H' ∧ OpenAt H' s (mixL cardC a.op i.toNat) ∧ Fresh (H.length + 2) s) ∧ 0 ≤ i ∧ i ≤ a.op.length ∧ fl = (a.op.length - i).toNat) (a.op.length) (by kernel_rfl) ?_ ?_
    · refine ⟨_, s1, _, _, _, _, _, _, _, _, _, _, _, _, _, _, rfl, ?_⟩
      exact ⟨⟨hM, by simpa [mixL_0] using hO, hF⟩, by omega, by omega, by omega⟩
    rintro fl _ M ⟨i, s, j4, j20, j21, j22, j23, j24, j25, j26, j27, j28, j29, j30, j31, j32, rfl, hf⟩
    try clear hM
    try clear hO
    try clear hF
    obtain ⟨⟨hM, hO, hF⟩, hi0, hi1, hfl⟩ := hf
    replace m0 := hM.own 0 (by simp)
    replace m1 := hM.own 1 (by simp)
    simp only [List.getElem_cons_zero, List.getElem_cons_succ, Nat.add_zero] at m0 m1
    replace qq := hM.q2
    replace hs0 := hO.cells.1
    replace hs1 := hO.cells.2
    refine DK.from (by simp [setL]; exact rfl) ?_
    refine DK.seq ?_
    refine DK.region (is := [0]) (by kernel_rfl) rfl ?_
    refine WK.run (rest := []) [0] (by simp [m0, m1, qq, hs0, hs1, hll, hb, hwr, hi9, hlt, hge, hle, hls, Cy.cells]; constructor <;> rfl) ?_
    refine WK.nil ?_
    refine DK.seq ?_
    refine DK.test rfl rfl (fun h => ?_) (fun h => ?_)
    · try simp only [h]
      replace h := Tr.out h
      replace hi9 : 0 ≤ i := hi0
      replace hwr : IntKind.i64.wrap (i + 1) = i + 1 := wrap_in _ (by omega) (by omega)
      replace hlt : i < a.op.length := h
      have hil : i.toNat < a.op.length := by omega
      replace hll := mixL_len (f := cardC) (Nat.le_of_lt hil)
      clear hb; obtain ⟨b, rfl, hb⟩ := hO.blk (by omega)
      have hnb : H.length + 2 ≤ b := hF.blk
      replace hge := mix_cells (f := cardC) hil
      replace hle : i.toNat * 8 + 8 ≤ a.op.length * 8 := by omega
      refine DK.skip ?_
      refine DK.seq ?_
      refine DK.block ?_
      refine DK.seq ?_
      refine DK.region (is := [0, 1]) (by kernel_rfl) rfl ?_
      refine WK.run (rest := []) [0, 1] (by simp [m0, m1, qq, hs0, hs1, hll, hb, hwr, hi9, hlt, hge, hle, hls, Cy.cells]; constructor <;> rfl) ?_
      refine WK.nil ?_
      refine DK.draw rfl (POk.of (ord := [0, 1, 2, 3, 4, 5, 6, 7, 8, 9, 10]) (by kernel_rfl)) ?_
      refine XK.run (rest := [8, 9, 10]) [0, 1, 2, 3, 4, 5, 6, 7] (by kernel_rfl) (by simp [m0, m1, qq, hs0, hs1, hll, hb, hwr, hi9, hlt, hge, hle, hls, Cy.cells]; constructor <;> rfl) ?_
      refine XK.call rfl (by simp [m0, m1, qq, hs0, hs1, hll, hb, hwr, hi9, hlt, hge, hle, hls, Cy.cells]) rfl (by simp [Tryd.func87, Tryd.f87, m0, m1, qq, hs0, hs1, hll, hb, hwr, hi9, hlt, hge, hle, hls, Cy.cells]; constructor <;> rfl) ?_
      refine FSem.mono (card_s ⟨_, _, _, _, _, _, _, _⟩ _) ?_
      rintro _ _ ⟨rfl, rfl⟩
      refine And.intro (lag_list (l := [1]) (by kernel_rfl) (lag_cons (lag_one rfl (by simp [m0, m1, qq, hs0, hs1, hll, hb, hwr, hi9, hlt, hge, hle, hls, Cy.cells]; constructor <;> rfl) rfl (by simp [m0, m1, qq, hs0, hs1, hll, hb, hwr, hi9, hlt, hge, hle, hls, Cy.cells]) (by simp [sameL, sameV_agg, sameV_int, sameV_bool, sameV_str, sameV_ptr, sameV_sl, sameV_map, same1_int, same1_bool, same1_str, same1_ptr, same1_sl, same1_map, m0, m1, qq, hs0, hs1, hll, hb, hwr, hi9, hlt, hge, hle, hls, Cy.cells]) rfl) rfl)) ?_
      refine XK.run (rest := [10]) [9] (by kernel_rfl) (by simp [m0, m1, qq, hs0, hs1, hll, hb, hwr, hi9, hlt, hge, hle, hls, Cy.cells]; constructor <;> rfl) ?_
      refine XK.one rfl (by simp [m0, m1, qq, hs0, hs1, hll, hb, hwr, hi9, hlt, hge, hle, hls, Cy.cells]) rfl (by simp [m0, m1, qq, hs0, hs1, hll, hb, hwr, hi9, hlt, hge, hle, hls, Cy.cells]; constructor <;> rfl) (lag_list (l := []) (by kernel_rfl) rfl) ?_
      refine XK.nil ?_
      refine DK.region (is := [0, 1]) (by kernel_rfl) rfl ?_
      refine WK.run (rest := []) [0, 1] (by simp [m0, m1, qq, hs0, hs1, hll, hb, hwr, hi9, hlt, hge, hle, hls, Cy.cells]; constructor <;> rfl) ?_
      refine WK.nil ?_
      refine ⟨by kernel_rfl, (a.op.length - (i + 1)).toNat, ?_, _, .slice (some ⟨b, 0, none⟩) (mixL cardC a.op i.toNat).length 8, _, _, _, _, _, _, _, _, _, _, _, _, _, _, rfl, ?_⟩
      · omega
      · have hpu := OpenAt.put hb (i := i.toNat) (by rw [hll]; exact hil) (cardC a.op[i.toNat])
        rw [mixL_set (f := cardC) hil] at hpu
        rw [show (i + 1).toNat = i.toNat + 1 by omega]
        exact ⟨⟨hM.far hnb _, by simpa [splice, Cy.cells, mixL_len (f := cardC) (Nat.le_of_lt hil)] using hpu, hF⟩, by omega, by omega, rfl⟩
    try simp only [h]
    replace h := Fa.out h
    replace hO : OpenAt M s (a.op.map cardC) := by
      have hi : i = a.op.length := by omega
      subst hi; simpa [mixL_end] using hO
    refine DK.exit ?_
    refine DK.seq ?_
    refine DK.region (is := [0, 1, 2]) (by kernel_rfl) rfl ?_
    refine WK.run (rest := []) [0, 1, 2] (by simp [m0, m1, qq, hs0, hs1, hll, hb, hwr, hi9, hlt, hge, hle, hls, Cy.cells]; constructor <;> rfl) ?_
    refine WK.nil ?_
    refine DK.abs (fun M8 => AtM H [a.l s, a.l s] M8 ∧ OpenAt M8 s (a.op.map cardC)) ⟨hM.set (i := 1) (by simp) _, hO.set (hF.ne (by omega)) _⟩ ?_
    try clear hM
    try clear hO
    rintro M8 ⟨hM, hO⟩
    replace m0 := hM.own 0 (by simp)
    replace m1 := hM.own 1 (by simp)
    simp only [List.getElem_cons_zero, List.getElem_cons_succ, Nat.add_zero] at m0 m1
    replace qq := hM.q2
    replace hs0 := hO.cells.1
    replace hs1 := hO.cells.2
    have hres : cardA a = ({ a with op := a.op.map cardC }, 0) := by unfold cardA; simp_all
    refine DK.ret ?_
    refine And.intro (Or.inr rfl) ?_
    refine ⟨_, by simp [absAnswer, absResults, absResult, Tryd.f65, m0, m1, qq, hs0, hs1]; rfl, ?_⟩
    exact ⟨_, by rw [hres]; rfl, hM.keep.ext, by rw [hres]; exact hO, hF.le (by omega)⟩
  try simp only [h]
  replace h := Fa.out h
  refine WK.run (rest := []) [4, 5, 6, 7] (by simp [m0, m1, qq, hs0, hs1, hll, hb, hwr, hi9, hlt, hge, hle, hls, Cy.cells]; constructor <;> rfl) ?_
  refine WK.nil ?_
  refine DK.no rfl rfl ?_
  refine DK.skip ?_
  refine DK.seq ?_
  refine DK.region (is := [0, 1, 2]) (by kernel_rfl) rfl ?_
  refine WK.run (rest := [1, 2]) [0] (by simp [m0, m1, qq, hs0, hs1, hll, hb, hwr, hi9, hlt, hge, hle, hls, Cy.cells]; constructor <;> rfl) ?_
  refine WK.call rfl (by simp [m0, m1, qq, hs0, hs1, hll, hb, hwr, hi9, hlt, hge, hle, hls, Cy.cells]) (by simp [Tryd.func58, Tryd.f58, m0, m1, qq, hs0, hs1, hll, hb, hwr, hi9, hlt, hge, hle, hls, Cy.cells]; constructor <;> rfl) ?_
  refine FSem.mono (copy_s a hO (by omega)) ?_
  rintro _ M1 ⟨s1, rfl, hA, hO, hF⟩
  replace hF : Fresh (H.length + 2) s1 := hF.le (hM.lt (i := 1) (by simp))
  replace hM := hM.on (Keep.of hA)
  replace m0 := hM.own 0 (by simp)
  replace m1 := hM.own 1 (by simp)
  simp only [List.getElem_cons_zero, List.getElem_cons_succ, Nat.add_zero] at m0 m1
  replace qq := hM.q2
  replace hs0 := hO.cells.1
  replace hs1 := hO.cells.2
  refine WK.run (rest := []) [2] (by simp [m0, m1, qq, hs0, hs1, hll, hb, hwr, hi9, hlt, hge, hle, hls, Cy.cells]; constructor <;> rfl) ?_
  refine WK.nil ?_
  refine DK.abs (fun M2 => AtM H [a.l s1, zeroA.l (.slice none 0 0)] M2 ∧ OpenAt M2 s1 a.op) ⟨hM.set (i := 0) (by simp) _, hO.set (hF.ne (by omega)) _⟩ ?_
  try clear hM
  try clear hO
  rintro M2 ⟨hM, hO⟩
  replace m0 := hM.own 0 (by simp)
  replace m1 := hM.own 1 (by simp)
  simp only [List.getElem_cons_zero, List.getElem_cons_succ, Nat.add_zero] at m0 m1
  replace qq := hM.q2
  replace hs0 := hO.cells.1
  replace hs1 := hO.cells.2
  replace hls := hO.lenK
  refine DK.seq ?_
  refine DK.seq ?_
  refine DK.region (is := [0, 1, 2, 3]) (by kernel_rfl) rfl ?_
  refine WK.run (rest := []) [0, 1, 2, 3] (by simp [m0, m1, qq, hs0, hs1, hll, hb, hwr, hi9, hlt, hge, hle, hls, Cy.cells]; constructor <;> rfl) ?_
  refine WK.nil ?_
  refine DK.block ?_
  refine DK.loopG [4, 19, 20, 21, 22, 23, 24, 25, 26, 27, 28, 29, 30, 31, 32] (fun fl vs H' => ∃ (i : Int) (s : Value) (j4 j20 j21 j22 j23 j24 j25 j26 j27 j28 j29 j30 j31 j32 : Value), vs = [j4, .int .i64 i, j20, j21, j22, j23, j24, j25, j26, j27, j28, j29, j30, j31, j32] ∧ (AtM H [a.l s, zeroA.l (.slice none 0 0)] H' ∧ OpenAt H' s (mixL cardC a.op i.toNat) ∧ Fresh (H.length + 2) s) ∧ 0 ≤ i ∧ i ≤ a.op.length ∧ fl = (a.op.length - i).toNat) (a.op.length) (by kernel_rfl) ?_ ?_
  · refine ⟨_, s1, _, _, _, _, _, _, _, _, _, _, _, _, _, _, rfl, ?_⟩
    exact ⟨⟨hM, by simpa [mixL_0] using hO, hF⟩, by omega, by omega, by omega⟩
  rintro fl _ M ⟨i, s, j4, j20, j21, j22, j23, j24, j25, j26, j27, j28, j29, j30, j31, j32, rfl, hf⟩
  try clear hM
  try clear hO
  try clear hF
  obtain ⟨⟨hM, hO, hF⟩, hi0, hi1, hfl⟩ := hf
  replace m0 := hM.own 0 (by simp)
  replace m1 := hM.own 1 (by simp)
  simp only [List.getElem_cons_zero, List.getElem_cons_succ, Nat.add_zero] at m0 m1
  replace qq := hM.q2
  replace hs0 := hO.cells.1
  replace hs1 := hO.cells.2
  refine DK.from (by simp [setL]; exact rfl) ?_
  refine DK.seq ?_
  refine DK.region (is := [0]) (by kernel_rfl) rfl ?_
  refine WK.run (rest := []) [0] (by simp [m0, m1, qq, hs0, hs1, hll, hb, hwr, hi9, hlt, hge, hle, hls, Cy.cells]; constructor <;> rfl) ?_
  refine WK.nil ?_
  refine DK.seq ?_
  refine DK.test rfl rfl (fun h => ?_) (fun h => ?_)
  · try simp only [h]
    replace h := Tr.out h
    replace hi9 : 0 ≤ i := hi0
    replace hwr : IntKind.i64.wrap (i + 1) = i + 1 := wrap_in _ (by omega) (by omega)
    replace hlt : i < a.op.length := h
    have hil : i.toNat < a.op.length := by omega
    replace hll := mixL_len (f := cardC) (Nat.le_of_lt hil)
    clear hb; obtain ⟨b, rfl, hb⟩ := hO.blk (by omega)
    have hnb : H.length + 2 ≤ b := hF.blk
    replace hge := mix_cells (f := cardC) hil
    replace hle : i.toNat * 8 + 8 ≤ a.op.length * 8 := by omega
    refine DK.skip ?_
    refine DK.seq ?_
    refine DK.block ?_
    refine DK.seq ?_
    refine DK.region (is := [0, 1]) (by kernel_rfl) rfl ?_
    refine WK.run (rest := []) [0, 1] (by simp [m0, m1, qq, hs0, hs1, hll, hb, hwr, hi9, hlt, hge, hle, hls, Cy.cells]; constructor <;> rfl) ?_
    refine WK.nil ?_
    refine DK.draw rfl (POk.of (ord := [0, 1, 2, 3, 4, 5, 6, 7, 8, 9, 10]) (by kernel_rfl)) ?_
    refine XK.run (rest := [8, 9, 10]) [0, 1, 2, 3, 4, 5, 6, 7] (by kernel_rfl) (by simp [m0, m1, qq, hs0, hs1, hll, hb, hwr, hi9, hlt, hge, hle, hls, Cy.cells]; constructor <;> rfl) ?_
    refine XK.call rfl (by simp [m0, m1, qq, hs0, hs1, hll, hb, hwr, hi9, hlt, hge, hle, hls, Cy.cells]) rfl (by simp [Tryd.func87, Tryd.f87, m0, m1, qq, hs0, hs1, hll, hb, hwr, hi9, hlt, hge, hle, hls, Cy.cells]; constructor <;> rfl) ?_
    refine FSem.mono (card_s ⟨_, _, _, _, _, _, _, _⟩ _) ?_
    rintro _ _ ⟨rfl, rfl⟩
    refine And.intro (lag_list (l := [1]) (by kernel_rfl) (lag_cons (lag_one rfl (by simp [m0, m1, qq, hs0, hs1, hll, hb, hwr, hi9, hlt, hge, hle, hls, Cy.cells]; constructor <;> rfl) rfl (by simp [m0, m1, qq, hs0, hs1, hll, hb, hwr, hi9, hlt, hge, hle, hls, Cy.cells]) (by simp [sameL, sameV_agg, sameV_int, sameV_bool, sameV_str, sameV_ptr, sameV_sl, sameV_map, same1_int, same1_bool, same1_str, same1_ptr, same1_sl, same1_map, m0, m1, qq, hs0, hs1, hll, hb, hwr, hi9, hlt, hge, hle, hls, Cy.cells]) rfl) rfl)) ?_
    refine XK.run (rest := [10]) [9] (by kernel_rfl) (by simp [m0, m1, qq, hs0, hs1, hll, hb, hwr, hi9, hlt, hge, hle, hls, Cy.cells]; constructor <;> rfl) ?_
    refine XK.one rfl (by simp [m0, m1, qq, hs0, hs1, hll, hb, hwr, hi9, hlt, hge, hle, hls, Cy.cells]) rfl (by simp [m0, m1, qq, hs0, hs1, hll, hb, hwr, hi9, hlt, hge, hle, hls, Cy.cells]; constructor <;> rfl) (lag_list (l := []) (by kernel_rfl) rfl) ?_
    refine XK.nil ?_
    refine DK.region (is := [0, 1]) (by kernel_rfl) rfl ?_
    refine WK.run (rest := []) [0, 1] (by simp [m0, m1, qq, hs0, hs1, hll, hb, hwr, hi9, hlt, hge, hle, hls, Cy.cells]; constructor <;> rfl) ?_
    refine WK.nil ?_
    refine ⟨by kernel_rfl, (a.op.length - (i + 1)).toNat, ?_, _, .slice (some ⟨b, 0, none⟩) (mixL cardC a.op i.toNat).length 8, _, _, _, _, _, _, _, _, _, _, _, _, _, _, rfl, ?_⟩
    · omega
    · have hpu := OpenAt.put hb (i := i.toNat) (by rw [hll]; exact hil) (cardC a.op[i.toNat])
      rw [mixL_set (f := cardC) hil] at hpu
      rw [show (i + 1).toNat = i.toNat + 1 by omega]
      exact ⟨⟨hM.far hnb _, by simpa [splice, Cy.cells, mixL_len (f := cardC) (Nat.le_of_lt hil)] using hpu, hF⟩, by omega, by omega, rfl⟩
  try simp only [h]
  replace h := Fa.out h
  replace hO : OpenAt M s (a.op.map cardC) := by
    have hi : i = a.op.length := by omega
    subst hi; simpa [mixL_end] using hO
  refine DK.exit ?_
  refine DK.seq ?_
  refine DK.region (is := [0, 1, 2]) (by kernel_rfl) rfl ?_
  refine WK.run (rest := []) [0, 1, 2] (by simp [m0, m1, qq, hs0, hs1, hll, hb, hwr, hi9, hlt, hge, hle, hls, Cy.cells]; constructor <;> rfl) ?_
  refine WK.nil ?_
  refine DK.abs (fun M8 => AtM H [a.l s, a.l s] M8 ∧ OpenAt M8 s (a.op.map cardC)) ⟨hM.set (i := 1) (by simp) _, hO.set (hF.ne (by omega)) _⟩ ?_
  try clear hM
  try clear hO
  rintro M8 ⟨hM, hO⟩
  replace m0 := hM.own 0 (by simp)
  replace m1 := hM.own 1 (by simp)
  simp only [List.getElem_cons_zero, List.getElem_cons_succ, Nat.add_zero] at m0 m1
  replace qq := hM.q2
  replace hs0 := hO.cells.1
  replace hs1 := hO.cells.2
  have hres : cardA a = ({ a with op := a.op.map cardC }, 0) := by unfold cardA; simp_all
  refine DK.ret ?_
  refine And.intro (Or.inr rfl) ?_
  refine ⟨_, by simp [absAnswer, absResults, absResult, Tryd.f65, m0, m1, qq, hs0, hs1]; rfl, ?_⟩
  exact ⟨_, by rw [hres]; rfl, hM.keep.ext, by rw [hres]; exact hO, hF.le (by omega)⟩
theorem cancel_s (a : Ac) {s : Value} {H : Mem} (hO : OpenAt H s a.op) (hn : a.op.length ≤ 1000000000000) : FSem Tryd.prog [0] 64 #[a.v s] H fun v H' => AcRes H (cancelA a) v H' := by
  refine FSem.ofK Tryd.func64 rfl ?_
  refine DK.from (b' := ⟨#[a.v s, undef, undef, undef, undef, undef, undef, undef, undef, undef, undef, undef, undef, undef, undef, undef, undef, undef, undef, undef, undef, undef, undef, undef, undef, undef, undef, undef, undef, undef, undef, undef, undef, undef, undef, undef, undef, undef], []⟩) (by kernel_rfl) ?_
  have m0 := True.intro
  have m1 := True.intro
  have qq := True.intro
  have hs0 := True.intro
  have hs1 := True.intro
  have hll := True.intro
  have hb := True.intro
  have hwr := True.intro
  have hi9 := True.intro
  have hlt := True.intro
  have hge := True.intro
  have hle := True.intro
  have hls := True.intro
  have hF := True.intro
  refine DK.seq ?_
  refine DK.region (is := [0, 1, 2]) (by kernel_rfl) rfl ?_
  refine WK.run (rest := []) [0, 1, 2] (by simp [m0, m1, qq, hs0, hs1, hll, hb, hwr, hi9, hlt, hge, hle, hls, Cy.cells]; constructor <;> rfl) ?_
  refine WK.nil ?_
  refine DK.abs (fun M0 => AtM H [a.l s, zeroA.l (.slice none 0 0)] M0 ∧ OpenAt M0 s a.op) ⟨AtM.start H [] [_, _], hO.app _⟩ ?_
  try clear hM
  try clear hO
  rintro M0 ⟨hM, hO⟩
  replace m0 := hM.own 0 (by simp)
  replace m1 := hM.own 1 (by simp)
  simp only [List.getElem_cons_zero, List.getElem_cons_succ, Nat.add_zero] at m0 m1
  replace qq := hM.q2
  replace hs0 := hO.cells.1
  replace hs1 := hO.cells.2
  refine DK.seq ?_
  refine DK.seq ?_
  refine DK.region (is := [0, 1, 2, 3, 4, 5, 6, 7]) (by kernel_rfl) rfl ?_
  refine WK.run (rest := [4, 5, 6, 7]) [0, 1, 2, 3] (by simp [m0, m1, qq, hs0, hs1, hll, hb, hwr, hi9, hlt, hge, hle, hls, Cy.cells]; constructor <;> rfl) ?_
  refine WK.split (t := 8) rfl (fun h => ?_) (fun h => ?_)
  · try simp only [h]
    replace h := Tr.out h
    refine WK.run (rest := []) [4, 5, 6, 7] (by simp [m0, m1, qq, hs0, hs1, hll, hb, hwr, hi9, hlt, hge, hle, hls, Cy.cells]; constructor <;> rfl) ?_
    refine WK.nil ?_
    refine DK.test rfl rfl (fun h => ?_) (fun h => ?_)
    · try simp only [h]
      replace h := Tr.out h
      refine DK.seq ?_
      refine DK.region (is := [0, 1, 2]) (by kernel_rfl) rfl ?_
      refine WK.run (rest := []) [0, 1, 2] (by simp [m0, m1, qq, hs0, hs1, hll, hb, hwr, hi9, hlt, hge, hle, hls, Cy.cells]; constructor <;> rfl) ?_
      refine WK.nil ?_
      refine DK.abs (fun MZ => AtM H [a.l s, zeroA.l (.slice none 0 0)] MZ ∧ OpenAt MZ (.slice none 0 0) zeroA.op) ⟨hM.set (i := 1) (by simp) _, .inl ⟨rfl, rfl⟩⟩ ?_
      try clear hM
      try clear hO
      rintro MZ ⟨hM, hO⟩
      replace m0 := hM.own 0 (by simp)
      replace m1 := hM.own 1 (by simp)
      simp only [List.getElem_cons_zero, List.getElem_cons_succ, Nat.add_zero] at m0 m1
      replace qq := hM.q2
      replace hs0 := hO.cells.1
      replace hs1 := hO.cells.2
      replace hF : Fresh (H.length + 2) (.slice none 0 0) := .inl rfl
      have hres : cancelA a = (zeroA, 8) := by unfold cancelA; simp_all
      refine DK.ret ?_
      refine And.intro (Or.inr rfl) ?_
      refine ⟨_, by simp [absAnswer, absResults, absResult, Tryd.f64, m0, m1, qq, hs0, hs1]; rfl, ?_⟩
      exact ⟨_, by rw [hres]; rfl, hM.keep.ext, by rw [hres]; exact hO, hF.le (by omega)⟩
    try simp only [h]
    replace h := Fa.out h
    refine DK.skip ?_
    refine DK.seq ?_
    refine DK.region (is := [0, 1, 2]) (by kernel_rfl) rfl ?_
    refine WK.run (rest := [1, 2]) [0] (by simp [m0, m1, qq, hs0, hs1, hll, hb, hwr, hi9, hlt, hge, hle, hls, Cy.cells]; constructor <;> rfl) ?_
    refine WK.call rfl (by simp [m0, m1, qq, hs0, hs1, hll, hb, hwr, hi9, hlt, hge, hle, hls, Cy.cells]) (by simp [Tryd.func58, Tryd.f58, m0, m1, qq, hs0, hs1, hll, hb, hwr, hi9, hlt, hge, hle, hls, Cy.cells]; constructor <;> rfl) ?_
    refine FSem.mono (copy_s a hO (by omega)) ?_
    rintro _ M1 ⟨s1, rfl, hA, hO, hF⟩
    replace hF : Fresh (H.length + 2) s1 := hF.le (hM.lt (i := 1) (by simp))
    replace hM := hM.on (Keep.of hA)
    replace m0 := hM.own 0 (by simp)
    replace m1 := hM.own 1 (by simp)
    simp only [List.getElem_cons_zero, List.getElem_cons_succ, Nat.add_zero] at m0 m1
    replace qq := hM.q2
    replace hs0 := hO.cells.1
    replace hs1 := hO.cells.2
    refine WK.run (rest := []) [2] (by simp [m0, m1, qq, hs0, hs1, hll, hb, hwr, hi9, hlt, hge, hle, hls, Cy.cells]; constructor <;> rfl) ?_
    refine WK.nil ?_
    refine DK.abs (fun M2 => AtM H [a.l s1, zeroA.l (.slice none 0 0)] M2 ∧ OpenAt M2 s1 a.op) ⟨hM.set (i := 0) (by simp) _, hO.set (hF.ne (by omega)) _⟩ ?_
    try clear hM
    try clear hO
    rintro M2 ⟨hM, hO⟩
    replace m0 := hM.own 0 (by simp)
    replace m1 := hM.own 1 (by simp)
    simp only [List.getElem_cons_zero, List.getElem_cons_succ, Nat.add_zero] at m0 m1
    replace qq := hM.q2
    replace hs0 := hO.cells.1
    replace hs1 := hO.cells.2
    refine DK.seq ?_
    refine DK.region (is := [0, 1]) (by kernel_rfl) rfl ?_
    refine WK.run (rest := []) [0, 1] (by simp [m0, m1, qq, hs0, hs1, hll, hb, hwr, hi9, hlt, hge, hle, hls, Cy.cells]; constructor <;> rfl) ?_
    refine WK.nil ?_
    refine DK.abs (fun M3 => AtM H [({ a with st := 3 } : Ac).l s1, zeroA.l (.slice none 0 0)] M3 ∧ OpenAt M3 s1 a.op) ⟨hM.set (i := 0) (by simp) _, hO.set (hF.ne (by omega)) _⟩ ?_
    try clear hM
    try clear hO
    rintro M3 ⟨hM, hO⟩
    replace m0 := hM.own 0 (by simp)
    replace m1 := hM.own 1 (by simp)
    simp only [List.getElem_cons_zero, List.getElem_cons_succ, Nat.add_zero] at m0 m1
    replace qq := hM.q2
    replace hs0 := hO.cells.1
    replace hs1 := hO.cells.2
    replace hls := hO.lenK
    refine DK.seq ?_
    refine DK.seq ?_
    refine DK.region (is := [0, 1, 2, 3]) (by kernel_rfl) rfl ?_
    refine WK.run (rest := []) [0, 1, 2, 3] (by simp [m0, m1, qq, hs0, hs1, hll, hb, hwr, hi9, hlt, hge, hle, hls, Cy.cells]; constructor <;> rfl) ?_
    refine WK.nil ?_
    refine DK.block ?_
    refine DK.loopG [4, 20, 21, 22, 23, 24, 25, 26, 27, 28, 29, 30, 31, 32, 33] (fun fl vs H' => ∃ (i : Int) (s : Value) (j4 j21 j22 j23 j24 j25 j26 j27 j28 j29 j30 j31 j32 j33 : Value), vs = [j4, .int .i64 i, j21, j22, j23, j24, j25, j26, j27, j28, j29, j30, j31, j32, j33] ∧ (AtM H [({ a with st := 3 } : Ac).l s, zeroA.l (.slice none 0 0)] H' ∧ OpenAt H' s (mixL overC a.op i.toNat) ∧ Fresh (H.length + 2) s) ∧ 0 ≤ i ∧ i ≤ a.op.length ∧ fl = (a.op.length - i).toNat) (a.op.length) (by kernel_rfl) ?_ ?_
    · refine ⟨_, s1, _, _, _, _, _, _, _, _, _, _, _, _, _, _, rfl, ?_⟩
      exact ⟨⟨hM, by simpa [mixL_0] using hO, hF⟩, by omega, by omega, by omega⟩
    rintro fl _ M ⟨i, s, j4, j21, j22, j23, j24, j25, j26, j27, j28, j29, j30, j31, j32, j33, rfl, hf⟩
    try clear hM
    try clear hO
    try clear hF
    obtain ⟨⟨hM, hO, hF⟩, hi0, hi1, hfl⟩ := hf
    replace m0 := hM.own 0 (by simp)
    replace m1 := hM.own 1 (by simp)
    simp only [List.getElem_cons_zero, List.getElem_cons_succ, Nat.add_zero] at m0 m1
    replace qq := hM.q2
    replace hs0 := hO.cells.1
    replace hs1 := hO.cells.2
    refine DK.from (by simp [setL]; exact rfl) ?_
    refine DK.seq ?_
    refine DK.region (is := [0]) (by kernel_rfl) rfl ?_
    refine WK.run (rest := []) [0] (by simp [m0, m1, qq, hs0, hs1, hll, hb, hwr, hi9, hlt, hge, hle, hls, Cy.cells]; constructor <;> rfl) ?_
    refine WK.nil ?_
    refine DK.seq ?_
    refine DK.test rfl rfl (fun h => ?_) (fun h => ?_)
    · try simp only [h]
      replace h := Tr.out h
      replace hi9 : 0 ≤ i := hi0
      replace hwr : IntKind.i64.wrap (i + 1) = i + 1 := wrap_in _ (by omega) (by omega)
      replace hlt : i < a.op.length := h
      have hil : i.toNat < a.op.length := by omega
      replace hll := mixL_len (f := overC) (Nat.le_of_lt hil)
      clear hb; obtain ⟨b, rfl, hb⟩ := hO.blk (by omega)
      have hnb : H.length + 2 ≤ b := hF.blk
      replace hge := mix_cells (f := overC) hil
      replace hle : i.toNat * 8 + 8 ≤ a.op.length * 8 := by omega
      refine DK.skip ?_
      refine DK.seq ?_
      refine DK.block ?_
      refine DK.seq ?_
      refine DK.region (is := [0, 1]) (by kernel_rfl) rfl ?_
      refine WK.run (rest := []) [0, 1] (by simp [m0, m1, qq, hs0, hs1, hll, hb, hwr, hi9, hlt, hge, hle, hls, Cy.cells]; constructor <;> rfl) ?_
      refine WK.nil ?_
      refine DK.draw rfl (POk.of (ord := [0, 1, 2, 3, 4, 5, 6, 7, 8, 9, 10]) (by kernel_rfl)) ?_
      refine XK.run (rest := [8, 9, 10]) [0, 1, 2, 3, 4, 5, 6, 7] (by kernel_rfl) (by simp [m0, m1, qq, hs0, hs1, hll, hb, hwr, hi9, hlt, hge, hle, hls, Cy.cells]; constructor <;> rfl) ?_
      refine XK.call rfl (by simp [m0, m1, qq, hs0, hs1, hll, hb, hwr, hi9, hlt, hge, hle, hls, Cy.cells]) rfl (by simp [Tryd.func86, Tryd.f86, m0, m1, qq, hs0, hs1, hll, hb, hwr, hi9, hlt, hge, hle, hls, Cy.cells]; constructor <;> rfl) ?_
      refine FSem.mono (over_s ⟨_, _, _, _, _, _, _, _⟩ _) ?_
      rintro _ _ ⟨rfl, rfl⟩
      refine And.intro (lag_list (l := [1]) (by kernel_rfl) (lag_cons (lag_one rfl (by simp [m0, m1, qq, hs0, hs1, hll, hb, hwr, hi9, hlt, hge, hle, hls, Cy.cells]; constructor <;> rfl) rfl (by simp [m0, m1, qq, hs0, hs1, hll, hb, hwr, hi9, hlt, hge, hle, hls, Cy.cells]) (by simp [sameL, sameV_agg, sameV_int, sameV_bool, sameV_str, sameV_ptr, sameV_sl, sameV_map, same1_int, same1_bool, same1_str, same1_ptr, same1_sl, same1_map, m0, m1, qq, hs0, hs1, hll, hb, hwr, hi9, hlt, hge, hle, hls, Cy.cells]) rfl) rfl)) ?_
      refine XK.run (rest := [10]) [9] (by kernel_rfl) (by simp [m0, m1, qq, hs0, hs1, hll, hb, hwr, hi9, hlt, hge, hle, hls, Cy.cells]; constructor <;> rfl) ?_
      refine XK.one rfl (by simp [m0, m1, qq, hs0, hs1, hll, hb, hwr, hi9, hlt, hge, hle, hls, Cy.cells]) rfl (by simp [m0, m1, qq, hs0, hs1, hll, hb, hwr, hi9, hlt, hge, hle, hls, Cy.cells]; constructor <;> rfl) (lag_list (l := []) (by kernel_rfl) rfl) ?_
      refine XK.nil ?_
      refine DK.region (is := [0, 1]) (by kernel_rfl) rfl ?_
      refine WK.run (rest := []) [0, 1] (by simp [m0, m1, qq, hs0, hs1, hll, hb, hwr, hi9, hlt, hge, hle, hls, Cy.cells]; constructor <;> rfl) ?_
      refine WK.nil ?_
      refine ⟨by kernel_rfl, (a.op.length - (i + 1)).toNat, ?_, _, .slice (some ⟨b, 0, none⟩) (mixL overC a.op i.toNat).length 8, _, _, _, _, _, _, _, _, _, _, _, _, _, _, rfl, ?_⟩
      · omega
      · have hpu := OpenAt.put hb (i := i.toNat) (by rw [hll]; exact hil) (overC a.op[i.toNat])
        rw [mixL_set (f := overC) hil] at hpu
        rw [show (i + 1).toNat = i.toNat + 1 by omega]
        exact ⟨⟨hM.far hnb _, by simpa [splice, Cy.cells, mixL_len (f := overC) (Nat.le_of_lt hil)] using hpu, hF⟩, by omega, by omega, rfl⟩
    try simp only [h]
    replace h := Fa.out h
    replace hO : OpenAt M s (a.op.map overC) := by
      have hi : i = a.op.length := by omega
      subst hi; simpa [mixL_end] using hO
    refine DK.exit ?_
    refine DK.seq ?_
    refine DK.region (is := [0, 1, 2, 3, 4, 5]) (by kernel_rfl) rfl ?_
    refine WK.run (rest := [1, 2, 3, 4, 5]) [0] (by simp [m0, m1, qq, hs0, hs1, hll, hb, hwr, hi9, hlt, hge, hle, hls, Cy.cells]; constructor <;> rfl) ?_
    refine WK.call rfl (by simp [m0, m1, qq, hs0, hs1, hll, hb, hwr, hi9, hlt, hge, hle, hls, Cy.cells]) (by simp [Tryd.func60, Tryd.f60, m0, m1, qq, hs0, hs1, hll, hb, hwr, hi9, hlt, hge, hle, hls, Cy.cells]; constructor <;> rfl) ?_
    refine FSem.mono (settle_s ({ a with st := 3, op := a.op.map overC } : Ac) hO (by simpa using hn)) ?_
    rintro _ R ⟨s2, rfl, hA, hO, hF⟩
    replace hF : Fresh (H.length + 2) s2 := hF.le (hM.lt (i := 1) (by simp))
    replace hM := hM.on (Keep.of hA)
    replace m0 := hM.own 0 (by simp)
    replace m1 := hM.own 1 (by simp)
    simp only [List.getElem_cons_zero, List.getElem_cons_succ, Nat.add_zero] at m0 m1
    replace qq := hM.q2
    replace hs0 := hO.cells.1
    replace hs1 := hO.cells.2
    refine WK.run (rest := []) [2, 3, 4, 5] (by simp [m0, m1, qq, hs0, hs1, hll, hb, hwr, hi9, hlt, hge, hle, hls, Cy.cells]; constructor <;> rfl) ?_
    refine WK.nil ?_
    refine DK.abs (fun M8 => AtM H [({ a with st := 3, op := a.op.map overC } : Ac).l s, (settleA ({ a with st := 3, op := a.op.map overC } : Ac)).1.l s2] M8 ∧ OpenAt M8 s2 (settleA ({ a with st := 3, op := a.op.map overC } : Ac)).1.op) ⟨hM.set (i := 1) (by simp) _, hO.set (hF.ne (by omega)) _⟩ ?_
    try clear hM
    try clear hO
    rintro M8 ⟨hM, hO⟩
    replace m0 := hM.own 0 (by simp)
    replace m1 := hM.own 1 (by simp)
    simp only [List.getElem_cons_zero, List.getElem_cons_succ, Nat.add_zero] at m0 m1
    replace qq := hM.q2
    replace hs0 := hO.cells.1
    replace hs1 := hO.cells.2
    have hres : cancelA a = ((settleA ({ a with st := 3, op := a.op.map overC } : Ac)).1, (settleA ({ a with st := 3, op := a.op.map overC } : Ac)).2) := by unfold cancelA; simp_all
    refine DK.ret ?_
    refine And.intro (Or.inr rfl) ?_
    refine ⟨_, by simp [absAnswer, absResults, absResult, Tryd.f64, m0, m1, qq, hs0, hs1]; rfl, ?_⟩
    exact ⟨_, by rw [hres]; rfl, hM.keep.ext, by rw [hres]; exact hO, hF.le (by omega)⟩
  try simp only [h]
  replace h := Fa.out h
  refine WK.run (rest := []) [4, 5, 6, 7] (by simp [m0, m1, qq, hs0, hs1, hll, hb, hwr, hi9, hlt, hge, hle, hls, Cy.cells]; constructor <;> rfl) ?_
  refine WK.nil ?_
  refine DK.no rfl rfl ?_
  refine DK.skip ?_
  refine DK.seq ?_
  refine DK.region (is := [0, 1, 2]) (by kernel_rfl) rfl ?_
  refine WK.run (rest := [1, 2]) [0] (by simp [m0, m1, qq, hs0, hs1, hll, hb, hwr, hi9, hlt, hge, hle, hls, Cy.cells]; constructor <;> rfl) ?_
  refine WK.call rfl (by simp [m0, m1, qq, hs0, hs1, hll, hb, hwr, hi9, hlt, hge, hle, hls, Cy.cells]) (by simp [Tryd.func58, Tryd.f58, m0, m1, qq, hs0, hs1, hll, hb, hwr, hi9, hlt, hge, hle, hls, Cy.cells]; constructor <;> rfl) ?_
  refine FSem.mono (copy_s a hO (by omega)) ?_
  rintro _ M1 ⟨s1, rfl, hA, hO, hF⟩
  replace hF : Fresh (H.length + 2) s1 := hF.le (hM.lt (i := 1) (by simp))
  replace hM := hM.on (Keep.of hA)
  replace m0 := hM.own 0 (by simp)
  replace m1 := hM.own 1 (by simp)
  simp only [List.getElem_cons_zero, List.getElem_cons_succ, Nat.add_zero] at m0 m1
  replace qq := hM.q2
  replace hs0 := hO.cells.1
  replace hs1 := hO.cells.2
  refine WK.run (rest := []) [2] (by simp [m0, m1, qq, hs0, hs1, hll, hb, hwr, hi9, hlt, hge, hle, hls, Cy.cells]; constructor <;> rfl) ?_
  refine WK.nil ?_
  refine DK.abs (fun M2 => AtM H [a.l s1, zeroA.l (.slice none 0 0)] M2 ∧ OpenAt M2 s1 a.op) ⟨hM.set (i := 0) (by simp) _, hO.set (hF.ne (by omega)) _⟩ ?_
  try clear hM
  try clear hO
  rintro M2 ⟨hM, hO⟩
  replace m0 := hM.own 0 (by simp)
  replace m1 := hM.own 1 (by simp)
  simp only [List.getElem_cons_zero, List.getElem_cons_succ, Nat.add_zero] at m0 m1
  replace qq := hM.q2
  replace hs0 := hO.cells.1
  replace hs1 := hO.cells.2
  refine DK.seq ?_
  refine DK.region (is := [0, 1]) (by kernel_rfl) rfl ?_
  refine WK.run (rest := []) [0, 1] (by simp [m0, m1, qq, hs0, hs1, hll, hb, hwr, hi9, hlt, hge, hle, hls, Cy.cells]; constructor <;> rfl) ?_
  refine WK.nil ?_
  refine DK.abs (fun M3 => AtM H [({ a with st := 3 } : Ac).l s1, zeroA.l (.slice none 0 0)] M3 ∧ OpenAt M3 s1 a.op) ⟨hM.set (i := 0) (by simp) _, hO.set (hF.ne (by omega)) _⟩ ?_
  try clear hM
  try clear hO
  rintro M3 ⟨hM, hO⟩
  replace m0 := hM.own 0 (by simp)
  replace m1 := hM.own 1 (by simp)
  simp only [List.getElem_cons_zero, List.getElem_cons_succ, Nat.add_zero] at m0 m1
  replace qq := hM.q2
  replace hs0 := hO.cells.1
  replace hs1 := hO.cells.2
  replace hls := hO.lenK
  refine DK.seq ?_
  refine DK.seq ?_
  refine DK.region (is := [0, 1, 2, 3]) (by kernel_rfl) rfl ?_
  refine WK.run (rest := []) [0, 1, 2, 3] (by simp [m0, m1, qq, hs0, hs1, hll, hb, hwr, hi9, hlt, hge, hle, hls, Cy.cells]; constructor <;> rfl) ?_
  refine WK.nil ?_
  refine DK.block ?_
  refine DK.loopG [4, 20, 21, 22, 23, 24, 25, 26, 27, 28, 29, 30, 31, 32, 33] (fun fl vs H' => ∃ (i : Int) (s : Value) (j4 j21 j22 j23 j24 j25 j26 j27 j28 j29 j30 j31 j32 j33 : Value), vs = [j4, .int .i64 i, j21, j22, j23, j24, j25, j26, j27, j28, j29, j30, j31, j32, j33] ∧ (AtM H [({ a with st := 3 } : Ac).l s, zeroA.l (.slice none 0 0)] H' ∧ OpenAt H' s (mixL overC a.op i.toNat) ∧ Fresh (H.length + 2) s) ∧ 0 ≤ i ∧ i ≤ a.op.length ∧ fl = (a.op.length - i).toNat) (a.op.length) (by kernel_rfl) ?_ ?_
  · refine ⟨_, s1, _, _, _, _, _, _, _, _, _, _, _, _, _, _, rfl, ?_⟩
    exact ⟨⟨hM, by simpa [mixL_0] using hO, hF⟩, by omega, by omega, by omega⟩
  rintro fl _ M ⟨i, s, j4, j21, j22, j23, j24, j25, j26, j27, j28, j29, j30, j31, j32, j33, rfl, hf⟩
  try clear hM
  try clear hO
  try clear hF
  obtain ⟨⟨hM, hO, hF⟩, hi0, hi1, hfl⟩ := hf
  replace m0 := hM.own 0 (by simp)
  replace m1 := hM.own 1 (by simp)
  simp only [List.getElem_cons_zero, List.getElem_cons_succ, Nat.add_zero] at m0 m1
  replace qq := hM.q2
  replace hs0 := hO.cells.1
  replace hs1 := hO.cells.2
  refine DK.from (by simp [setL]; exact rfl) ?_
  refine DK.seq ?_
  refine DK.region (is := [0]) (by kernel_rfl) rfl ?_
  refine WK.run (rest := []) [0] (by simp [m0, m1, qq, hs0, hs1, hll, hb, hwr, hi9, hlt, hge, hle, hls, Cy.cells]; constructor <;> rfl) ?_
  refine WK.nil ?_
  refine DK.seq ?_
  refine DK.test rfl rfl (fun h => ?_) (fun h => ?_)
  · try simp only [h]
    replace h := Tr.out h
    replace hi9 : 0 ≤ i := hi0
    replace hwr : IntKind.i64.wrap (i + 1) = i + 1 := wrap_in _ (by omega) (by omega)
    replace hlt : i < a.op.length := h
    have hil : i.toNat < a.op.length := by omega
    replace hll := mixL_len (f := overC) (Nat.le_of_lt hil)
    clear hb; obtain ⟨b, rfl, hb⟩ := hO.blk (by omega)
    have hnb : H.length + 2 ≤ b := hF.blk
    replace hge := mix_cells (f := overC) hil
    replace hle : i.toNat * 8 + 8 ≤ a.op.length * 8 := by omega
    refine DK.skip ?_
    refine DK.seq ?_
    refine DK.block ?_
    refine DK.seq ?_
    refine DK.region (is := [0, 1]) (by kernel_rfl) rfl ?_
    refine WK.run (rest := []) [0, 1] (by simp [m0, m1, qq, hs0, hs1, hll, hb, hwr, hi9, hlt, hge, hle, hls, Cy.cells]; constructor <;> rfl) ?_
    refine WK.nil ?_
    refine DK.draw rfl (POk.of (ord := [0, 1, 2, 3, 4, 5, 6, 7, 8, 9, 10]) (by kernel_rfl)) ?_
    refine XK.run (rest := [8, 9, 10]) [0, 1, 2, 3, 4, 5, 6, 7] (by kernel_rfl) (by simp [m0, m1, qq, hs0, hs1, hll, hb, hwr, hi9, hlt, hge, hle, hls, Cy.cells]; constructor <;> rfl) ?_
    refine XK.call rfl (by simp [m0, m1, qq, hs0, hs1, hll, hb, hwr, hi9, hlt, hge, hle, hls, Cy.cells]) rfl (by simp [Tryd.func86, Tryd.f86, m0, m1, qq, hs0, hs1, hll, hb, hwr, hi9, hlt, hge, hle, hls, Cy.cells]; constructor <;> rfl) ?_
    refine FSem.mono (over_s ⟨_, _, _, _, _, _, _, _⟩ _) ?_
    rintro _ _ ⟨rfl, rfl⟩
    refine And.intro (lag_list (l := [1]) (by kernel_rfl) (lag_cons (lag_one rfl (by simp [m0, m1, qq, hs0, hs1, hll, hb, hwr, hi9, hlt, hge, hle, hls, Cy.cells]; constructor <;> rfl) rfl (by simp [m0, m1, qq, hs0, hs1, hll, hb, hwr, hi9, hlt, hge, hle, hls, Cy.cells]) (by simp [sameL, sameV_agg, sameV_int, sameV_bool, sameV_str, sameV_ptr, sameV_sl, sameV_map, same1_int, same1_bool, same1_str, same1_ptr, same1_sl, same1_map, m0, m1, qq, hs0, hs1, hll, hb, hwr, hi9, hlt, hge, hle, hls, Cy.cells]) rfl) rfl)) ?_
    refine XK.run (rest := [10]) [9] (by kernel_rfl) (by simp [m0, m1, qq, hs0, hs1, hll, hb, hwr, hi9, hlt, hge, hle, hls, Cy.cells]; constructor <;> rfl) ?_
    refine XK.one rfl (by simp [m0, m1, qq, hs0, hs1, hll, hb, hwr, hi9, hlt, hge, hle, hls, Cy.cells]) rfl (by simp [m0, m1, qq, hs0, hs1, hll, hb, hwr, hi9, hlt, hge, hle, hls, Cy.cells]; constructor <;> rfl) (lag_list (l := []) (by kernel_rfl) rfl) ?_
    refine XK.nil ?_
    refine DK.region (is := [0, 1]) (by kernel_rfl) rfl ?_
    refine WK.run (rest := []) [0, 1] (by simp [m0, m1, qq, hs0, hs1, hll, hb, hwr, hi9, hlt, hge, hle, hls, Cy.cells]; constructor <;> rfl) ?_
    refine WK.nil ?_
    refine ⟨by kernel_rfl, (a.op.length - (i + 1)).toNat, ?_, _, .slice (some ⟨b, 0, none⟩) (mixL overC a.op i.toNat).length 8, _, _, _, _, _, _, _, _, _, _, _, _, _, _, rfl, ?_⟩
    · omega
    · have hpu := OpenAt.put hb (i := i.toNat) (by rw [hll]; exact hil) (overC a.op[i.toNat])
      rw [mixL_set (f := overC) hil] at hpu
      rw [show (i + 1).toNat = i.toNat + 1 by omega]
      exact ⟨⟨hM.far hnb _, by simpa [splice, Cy.cells, mixL_len (f := overC) (Nat.le_of_lt hil)] using hpu, hF⟩, by omega, by omega, rfl⟩
  try simp only [h]
  replace h := Fa.out h
  replace hO : OpenAt M s (a.op.map overC) := by
    have hi : i = a.op.length := by omega
    subst hi; simpa [mixL_end] using hO
  refine DK.exit ?_
  refine DK.seq ?_
  refine DK.region (is := [0, 1, 2, 3, 4, 5]) (by kernel_rfl) rfl ?_
  refine WK.run (rest := [1, 2, 3, 4, 5]) [0] (by simp [m0, m1, qq, hs0, hs1, hll, hb, hwr, hi9, hlt, hge, hle, hls, Cy.cells]; constructor <;> rfl) ?_
  refine WK.call rfl (by simp [m0, m1, qq, hs0, hs1, hll, hb, hwr, hi9, hlt, hge, hle, hls, Cy.cells]) (by simp [Tryd.func60, Tryd.f60, m0, m1, qq, hs0, hs1, hll, hb, hwr, hi9, hlt, hge, hle, hls, Cy.cells]; constructor <;> rfl) ?_
  refine FSem.mono (settle_s ({ a with st := 3, op := a.op.map overC } : Ac) hO (by simpa using hn)) ?_
  rintro _ R ⟨s2, rfl, hA, hO, hF⟩
  replace hF : Fresh (H.length + 2) s2 := hF.le (hM.lt (i := 1) (by simp))
  replace hM := hM.on (Keep.of hA)
  replace m0 := hM.own 0 (by simp)
  replace m1 := hM.own 1 (by simp)
  simp only [List.getElem_cons_zero, List.getElem_cons_succ, Nat.add_zero] at m0 m1
  replace qq := hM.q2
  replace hs0 := hO.cells.1
  replace hs1 := hO.cells.2
  refine WK.run (rest := []) [2, 3, 4, 5] (by simp [m0, m1, qq, hs0, hs1, hll, hb, hwr, hi9, hlt, hge, hle, hls, Cy.cells]; constructor <;> rfl) ?_
  refine WK.nil ?_
  refine DK.abs (fun M8 => AtM H [({ a with st := 3, op := a.op.map overC } : Ac).l s, (settleA ({ a with st := 3, op := a.op.map overC } : Ac)).1.l s2] M8 ∧ OpenAt M8 s2 (settleA ({ a with st := 3, op := a.op.map overC } : Ac)).1.op) ⟨hM.set (i := 1) (by simp) _, hO.set (hF.ne (by omega)) _⟩ ?_
  try clear hM
  try clear hO
  rintro M8 ⟨hM, hO⟩
  replace m0 := hM.own 0 (by simp)
  replace m1 := hM.own 1 (by simp)
  simp only [List.getElem_cons_zero, List.getElem_cons_succ, Nat.add_zero] at m0 m1
  replace qq := hM.q2
  replace hs0 := hO.cells.1
  replace hs1 := hO.cells.2
  have hres : cancelA a = ((settleA ({ a with st := 3, op := a.op.map overC } : Ac)).1, (settleA ({ a with st := 3, op := a.op.map overC } : Ac)).2) := by unfold cancelA; simp_all
  refine DK.ret ?_
  refine And.intro (Or.inr rfl) ?_
  refine ⟨_, by simp [absAnswer, absResults, absResult, Tryd.f64, m0, m1, qq, hs0, hs1]; rfl, ?_⟩
  exact ⟨_, by rw [hres]; rfl, hM.keep.ext, by rw [hres]; exact hO, hF.le (by omega)⟩
end Go.Den
set_option linter.unusedVariables false
set_option maxRecDepth 100000
namespace Go.Den
open Go Go.Proofs
theorem Lad.keep {H H' : Mem} (h : Lad H) (hk : Keep H H') : Lad H' := by
  obtain ⟨ro, h⟩ := h
  exact ⟨ro, (hk.2 _ (List.getElem?_eq_some_iff.1 h).1).trans h⟩
theorem OpenAt.get {H : Mem} {b n : Nat} {l : List Cy} (h : OpenAt H (.slice (some ⟨b, 0, none⟩) n 8) l) : H[b]? = some (.cells false (cysV l)) := by
  rcases h with ⟨h, _⟩ | ⟨b', h1, h2⟩
  · cases h
  · cases h1; exact h2
theorem hear_g (su : Int) (c : Cy) (a : Nt) (today : Int) (over : Bool) {H : Mem} (hL : Lad H) :
    FSem Tryd.prog [0] 59 #[.int .i64 su, c.v, a.v, .int .i64 today, .bool over] H fun v H' => ∃ x e, v = .tuple #[Cy.v x, .int .i64 e] ∧ hearC su c a today over = (x, e) ∧ H' = H := by
  refine FSem.mono (hear_s su c a today over hL) ?_
  rintro v H' ⟨rfl, rfl⟩
  exact ⟨_, _, rfl, rfl, rfl⟩
theorem hearA_none {su today : Int} {a : Ac} {n : Nt} (h : ∀ j (hj : j < a.op.length), a.op[j].no ≠ n.cy) : hearA su a n today = (zeroA, 10) := by
  have e : a.op.findIdx? (fun c => decide (c.no = n.cy)) = none := by
    rw [List.findIdx?_eq_none_iff]
    intro x hx
    obtain ⟨j, hj, rfl⟩ := List.getElem_of_mem hx
    simp [h j hj]
  unfold hearA; rw [e]
theorem hearA_some {su today : Int} {a : Ac} {n : Nt} {i : Nat} (hi : i < a.op.length) (h0 : a.op[i].no = n.cy) (h : ∀ j (hj : j < i), a.op[j].no ≠ n.cy) {x : Cy} {e : Int} (hx : hearC su a.op[i] n today (decide (a.st = 3)) = (x, e)) :
    hearA su a n today = if e ≠ 0 then (zeroA, e) else settleA { a with op := a.op.set i x } := by
  have e1 : a.op.findIdx? (fun c => decide (c.no = n.cy)) = some i := by
    rw [List.findIdx?_eq_some_iff_getElem]
    exact ⟨hi, by simp [h0], fun j hj => by simp [h j hj]⟩
  unfold hearA; rw [e1]
  simp only [List.getD_eq_getElem?_getD, List.getElem?_eq_getElem hi, Option.getD_some, hx]
end Go.Den
namespace Go.Den
open Go Go.Proofs
set_option maxRecDepth 100000
set_option maxHeartbeats 1000000
set_option linter.all false
attribute [local simp] evOps evOp absOp absBox absAlloc absLoad absStore absField absIndexAddr absCells absBinOp absBin absInt absShift absUn absPick absNil absExtract absBuild absPlaces Instr.fill absBuiltin absMinMax plainV plainT allA flat cells_agg cells_int cells_bool cells_str cells_ptr cells_sl cells_map one_int one_bool one_str one_ptr one_sl one_map Act.eval Act.put Region.wanted yielded splice absCall TypeDesc.isRow
theorem ahear_s (su : Int) (a : Ac) (n : Nt) (today : Int) {s : Value} {H : Mem} (hL : Lad H) (hO : OpenAt H s a.op) (hn : a.op.length ≤ 1000000000000) : FSem Tryd.prog [0] 33 #[.int .i64 su, a.v s, n.v, .int .i64 today] H fun v H' => AcRes H (hearA su a n today) v H' := by
  refine FSem.ofK Tryd.func33 rfl ?_
  refine DK.from (b' := ⟨#[.int .i64 su, a.v s, n.v, .int .i64 today, undef, undef, undef, undef, undef, undef, undef, undef, undef, undef, undef, undef, undef, undef, undef, undef, undef, undef, undef, undef, undef, undef, undef, undef, undef, undef, undef, undef, undef, undef, undef, undef, undef, undef, undef, undef, undef, undef, undef, undef, undef, undef, undef, undef, undef, undef, undef, undef, undef, undef, undef], []⟩) (by kernel_rfl) ?_
  have m0 := True.intro
  have m1 := True.intro
  have m2 := True.intro
  have qq := True.intro
  have hs0 := True.intro
  have hs1 := True.intro
  have hll := True.intro
  have hb := True.intro
  have hwr := True.intro
  have hi9 := True.intro
  have hlt := True.intro
  have hge := True.intro
  have hle := True.intro
  have hcc := True.intro
  have hcx := True.intro
  have hls := True.intro
  have hF := True.intro
  refine DK.seq ?_
  refine DK.region (is := [0, 1, 2, 3]) (by kernel_rfl) rfl ?_
  refine WK.run (rest := []) [0, 1, 2, 3] (by simp [m0, m1, m2, qq, hs0, hs1, hll, hb, hwr, hi9, hlt, hge, hle, hcc, hcx, hls, Cy.cells]; constructor <;> rfl) ?_
  refine WK.nil ?_
  refine DK.abs (fun M0 => AtM H [a.l s, n.l, zeroA.l (.slice none 0 0)] M0 ∧ OpenAt M0 s a.op) ⟨AtM.start H [] [_, _, _], hO.app _⟩ ?_
  try clear hM
  try clear hO
  rintro M0 ⟨hM, hO⟩
  replace m0 := hM.own 0 (by simp)
  replace m1 := hM.own 1 (by simp)
  replace m2 := hM.own 2 (by simp)
  simp only [List.getElem_cons_zero, List.getElem_cons_succ, Nat.add_zero] at m0 m1 m2
  replace qq := hM.q3
  replace hs0 := hO.cells.1
  replace hs1 := hO.cells.2
  refine DK.seq ?_
  refine DK.region (is := [0, 1, 2]) (by kernel_rfl) rfl ?_
  refine WK.run (rest := [1, 2]) [0] (by simp [m0, m1, m2, qq, hs0, hs1, hll, hb, hwr, hi9, hlt, hge, hle, hcc, hcx, hls, Cy.cells]; constructor <;> rfl) ?_
  refine WK.call rfl (by simp [m0, m1, m2, qq, hs0, hs1, hll, hb, hwr, hi9, hlt, hge, hle, hcc, hcx, hls, Cy.cells]) (by simp [Tryd.func58, Tryd.f58, m0, m1, m2, qq, hs0, hs1, hll, hb, hwr, hi9, hlt, hge, hle, hcc, hcx, hls, Cy.cells]; constructor <;> rfl) ?_
  refine FSem.mono (copy_s a hO (by omega)) ?_
  rintro _ M1 ⟨s1, rfl, hA, hO, hF⟩
  replace hF : Fresh (H.length + 3) s1 := hF.le (hM.lt (i := 2) (by simp))
  replace hM := hM.on (Keep.of hA)
  replace m0 := hM.own 0 (by simp)
  replace m1 := hM.own 1 (by simp)
  replace m2 := hM.own 2 (by simp)
  simp only [List.getElem_cons_zero, List.getElem_cons_succ, Nat.add_zero] at m0 m1 m2
  replace qq := hM.q3
  replace hs0 := hO.cells.1
  replace hs1 := hO.cells.2
  refine WK.run (rest := []) [2] (by simp [m0, m1, m2, qq, hs0, hs1, hll, hb, hwr, hi9, hlt, hge, hle, hcc, hcx, hls, Cy.cells]; constructor <;> rfl) ?_
  refine WK.nil ?_
  refine DK.abs (fun M2 => AtM H [a.l s1, n.l, zeroA.l (.slice none 0 0)] M2 ∧ OpenAt M2 s1 a.op) ⟨hM.set (i := 0) (by simp) _, hO.set (hF.ne (by omega)) _⟩ ?_
  try clear hM
  try clear hO
  rintro M2 ⟨hM, hO⟩
  replace m0 := hM.own 0 (by simp)
  replace m1 := hM.own 1 (by simp)
  replace m2 := hM.own 2 (by simp)
  simp only [List.getElem_cons_zero, List.getElem_cons_succ, Nat.add_zero] at m0 m1 m2
  replace qq := hM.q3
  replace hs0 := hO.cells.1
  replace hs1 := hO.cells.2
  replace hls := hO.lenK
  refine DK.seq ?_
  refine DK.seq ?_
  refine DK.region (is := [0, 1, 2, 3]) (by kernel_rfl) rfl ?_
  refine WK.run (rest := []) [0, 1, 2, 3] (by simp [m0, m1, m2, qq, hs0, hs1, hll, hb, hwr, hi9, hlt, hge, hle, hcc, hcx, hls, Cy.cells]; constructor <;> rfl) ?_
  refine WK.nil ?_
  refine DK.block ?_
  refine DK.loopG [9, 10, 11, 12, 13, 19, 20, 21, 22, 23, 24, 25, 26, 27, 28, 29, 30, 31, 32, 33, 34, 35, 36, 37, 38, 39, 40, 41, 42, 43, 44, 45, 46, 47, 48, 49, 50, 51, 52, 53] (fun fl vs H' => ∃ (i : Int) (j9 j10 j11 j12 j13 j20 j21 j22 j23 j24 j25 j26 j27 j28 j29 j30 j31 j32 j33 j34 j35 j36 j37 j38 j39 j40 j41 j42 j43 j44 j45 j46 j47 j48 j49 j50 j51 j52 j53 : Value), vs = [j9, j10, j11, j12, j13, .int .i64 i, j20, j21, j22, j23, j24, j25, j26, j27, j28, j29, j30, j31, j32, j33, j34, j35, j36, j37, j38, j39, j40, j41, j42, j43, j44, j45, j46, j47, j48, j49, j50, j51, j52, j53] ∧ (AtM H [a.l s1, n.l, zeroA.l (.slice none 0 0)] H' ∧ OpenAt H' s1 a.op ∧ Fresh (H.length + 3) s1) ∧ 0 ≤ i ∧ i ≤ a.op.length ∧ (∀ j (hj : j < i.toNat) (hl : j < a.op.length), a.op[j].no ≠ n.cy) ∧ fl = (a.op.length - i).toNat) (a.op.length) (by kernel_rfl) ?_ ?_
  · refine ⟨_, _, _, _, _, _, _, _, _, _, _, _, _, _, _, _, _, _, _, _, _, _, _, _, _, _, _, _, _, _, _, _, _, _, _, _, _, _, _, _, rfl, ?_⟩
    exact ⟨⟨hM, hO, hF⟩, by omega, by omega, fun j hj => by omega, by omega⟩
  rintro fl _ M ⟨i, j9, j10, j11, j12, j13, j20, j21, j22, j23, j24, j25, j26, j27, j28, j29, j30, j31, j32, j33, j34, j35, j36, j37, j38, j39, j40, j41, j42, j43, j44, j45, j46, j47, j48, j49, j50, j51, j52, j53, rfl, hf⟩
  try clear hM
  try clear hO
  try clear hF
  obtain ⟨⟨hM, hO, hF⟩, hi0, hi1, hnn, hfl⟩ := hf
  replace m0 := hM.own 0 (by simp)
  replace m1 := hM.own 1 (by simp)
  replace m2 := hM.own 2 (by simp)
  simp only [List.getElem_cons_zero, List.getElem_cons_succ, Nat.add_zero] at m0 m1 m2
  replace qq := hM.q3
  replace hs0 := hO.cells.1
  replace hs1 := hO.cells.2
  refine DK.from (by simp [setL]; exact rfl) ?_
  refine DK.seq ?_
  refine DK.region (is := [0]) (by kernel_rfl) rfl ?_
  refine WK.run (rest := []) [0] (by simp [m0, m1, m2, qq, hs0, hs1, hll, hb, hwr, hi9, hlt, hge, hle, hcc, hcx, hls, Cy.cells]; constructor <;> rfl) ?_
  refine WK.nil ?_
  refine DK.seq ?_
  refine DK.test rfl rfl (fun h => ?_) (fun h => ?_)
  · try simp only [h]
    replace h := Tr.out h
    replace hi9 : 0 ≤ i := hi0
    replace hwr : IntKind.i64.wrap (i + 1) = i + 1 := wrap_in _ (by omega) (by omega)
    replace hlt : i < a.op.length := h
    have hil : i.toNat < a.op.length := by omega
    clear hb; obtain ⟨b, rfl, hb⟩ := hO.blk (by omega)
    have hnb : H.length + 3 ≤ b := hF.blk
    replace hge := cys_get hil
    replace hle : i.toNat * 8 + 8 ≤ a.op.length * 8 := by omega
    have hno : ∀ j (hj : j < i.toNat), a.op[j].no ≠ n.cy := fun j hj => hnn j hj (by omega)
    refine DK.skip ?_
    refine DK.seq ?_
    refine DK.block ?_
    refine DK.seq ?_
    refine DK.region (is := [0, 1, 2, 3, 4, 5]) (by kernel_rfl) rfl ?_
    refine WK.run (rest := []) [0, 1, 2, 3, 4, 5] (by simp [m0, m1, m2, qq, hs0, hs1, hll, hb, hwr, hi9, hlt, hge, hle, hcc, hcx, hls, Cy.cells]; constructor <;> rfl) ?_
    refine WK.nil ?_
    refine DK.abs (fun MA => AtM H [a.l (.slice (some ⟨b, 0, none⟩) a.op.length 8), n.l, zeroA.l (.slice none 0 0)] MA ∧ OpenAt MA (.slice (some ⟨b, 0, none⟩) a.op.length 8) a.op ∧ MA[M.length]? = some (.cells false a.op[i.toNat].l)) ⟨hM.on (Keep.app _ _), hO.app _, by simp⟩ ?_
    try clear hM
    try clear hO
    rintro MA ⟨hM, hO, hcc⟩
    replace m0 := hM.own 0 (by simp)
    replace m1 := hM.own 1 (by simp)
    replace m2 := hM.own 2 (by simp)
    simp only [List.getElem_cons_zero, List.getElem_cons_succ, Nat.add_zero] at m0 m1 m2
    replace qq := hM.q3
    replace hs0 := hO.cells.1
    replace hs1 := hO.cells.2
    replace hb := hO.get
    refine DK.seq ?_
    refine DK.seq ?_
    refine DK.region (is := [0, 1, 2, 3, 4]) (by kernel_rfl) rfl ?_
    refine WK.run (rest := []) [0, 1, 2, 3, 4] (by simp [m0, m1, m2, qq, hs0, hs1, hll, hb, hwr, hi9, hlt, hge, hle, hcc, hcx, hls, Cy.cells]; constructor <;> rfl) ?_
    refine WK.nil ?_
    refine DK.test rfl rfl (fun h => ?_) (fun h => ?_)
    · try simp only [h]
      replace h := Tr.out h
      refine DK.exit ?_
      refine DK.region (is := [0, 1]) (by kernel_rfl) rfl ?_
      refine WK.run (rest := []) [0, 1] (by simp [m0, m1, m2, qq, hs0, hs1, hll, hb, hwr, hi9, hlt, hge, hle, hcc, hcx, hls, Cy.cells]; constructor <;> rfl) ?_
      refine WK.nil ?_
      refine ⟨by kernel_rfl, (a.op.length - (i + 1)).toNat, ?_, _, _, _, _, _, _, _, _, _, _, _, _, _, _, _, _, _, _, _, _, _, _, _, _, _, _, _, _, _, _, _, _, _, _, _, _, _, _, _, _, rfl, ?_⟩
      · omega
      · refine ⟨⟨hM, hO, hF⟩, by omega, by omega, fun j hj hl => ?_, rfl⟩
        by_cases hji : j < i.toNat
        · exact hnn j hji hl
        · have : j = i.toNat := by omega
          subst this; assumption
    try simp only [h]
    replace h := Fa.out h
    refine DK.skip ?_
    refine DK.seq ?_
    refine DK.region (is := [0, 1, 2, 3, 4, 5, 6, 7, 8, 9, 10, 11, 12, 13]) (by kernel_rfl) rfl ?_
    refine WK.run (rest := [7, 8, 9, 10, 11, 12, 13]) [0, 1, 2, 3, 4, 5, 6] (by simp [m0, m1, m2, qq, hs0, hs1, hll, hb, hwr, hi9, hlt, hge, hle, hcc, hcx, hls, Cy.cells]; constructor <;> rfl) ?_
    refine WK.call rfl (by simp [m0, m1, m2, qq, hs0, hs1, hll, hb, hwr, hi9, hlt, hge, hle, hcc, hcx, hls, Cy.cells]) (by simp [Tryd.func59, Tryd.f59, m0, m1, m2, qq, hs0, hs1, hll, hb, hwr, hi9, hlt, hge, hle, hcc, hcx, hls, Cy.cells]; constructor <;> rfl) ?_
    refine FSem.mono (hear_g su (a.op[i.toNat]) n today _ (hL.keep hM.keep)) ?_
    rintro _ Hq ⟨x, e2, rfl, hhr, hq⟩
    replace hq := hq.symm
    subst hq
    refine WK.run (rest := []) [8, 9, 10, 11, 12, 13] (by simp [m0, m1, m2, qq, hs0, hs1, hll, hb, hwr, hi9, hlt, hge, hle, hcc, hcx, hls, Cy.cells]; constructor <;> rfl) ?_
    refine WK.nil ?_
    refine DK.abs (fun MB => AtM H [a.l (.slice (some ⟨b, 0, none⟩) a.op.length 8), n.l, zeroA.l (.slice none 0 0)] MB ∧ OpenAt MB (.slice (some ⟨b, 0, none⟩) a.op.length 8) a.op ∧ MB[MA.length]? = some (.cells false x.l)) ⟨hM.on (Keep.app _ _), hO.app _, by simp⟩ ?_
    try clear hM
    try clear hO
    rintro MB ⟨hM, hO, hcx⟩
    replace m0 := hM.own 0 (by simp)
    replace m1 := hM.own 1 (by simp)
    replace m2 := hM.own 2 (by simp)
    simp only [List.getElem_cons_zero, List.getElem_cons_succ, Nat.add_zero] at m0 m1 m2
    replace qq := hM.q3
    replace hs0 := hO.cells.1
    replace hs1 := hO.cells.2
    replace hb := hO.get
    have hro := hearA_some hil (by assumption) hno hhr
    refine DK.seq ?_
    refine DK.seq ?_
    refine DK.region (is := [0, 1]) (by kernel_rfl) rfl ?_
    refine WK.run (rest := []) [0, 1] (by simp [m0, m1, m2, qq, hs0, hs1, hll, hb, hwr, hi9, hlt, hge, hle, hcc, hcx, hls, Cy.cells]; constructor <;> rfl) ?_
    refine WK.nil ?_
    refine DK.test rfl rfl (fun h => ?_) (fun h => ?_)
    · try simp only [h]
      replace h := Tr.out h
      refine DK.seq ?_
      refine DK.region (is := [0, 1, 2, 3]) (by kernel_rfl) rfl ?_
      refine WK.run (rest := []) [0, 1, 2, 3] (by simp [m0, m1, m2, qq, hs0, hs1, hll, hb, hwr, hi9, hlt, hge, hle, hcc, hcx, hls, Cy.cells]; constructor <;> rfl) ?_
      refine WK.nil ?_
      refine DK.abs (fun MZ => AtM H [a.l (.slice (some ⟨b, 0, none⟩) a.op.length 8), n.l, zeroA.l (.slice none 0 0)] MZ ∧ OpenAt MZ (.slice none 0 0) zeroA.op) ⟨hM.set (i := 2) (by simp) _, .inl ⟨rfl, rfl⟩⟩ ?_
      try clear hM
      try clear hO
      rintro MZ ⟨hM, hO⟩
      replace m0 := hM.own 0 (by simp)
      replace m1 := hM.own 1 (by simp)
      replace m2 := hM.own 2 (by simp)
      simp only [List.getElem_cons_zero, List.getElem_cons_succ, Nat.add_zero] at m0 m1 m2
      replace qq := hM.q3
      replace hs0 := hO.cells.1
      replace hs1 := hO.cells.2
      replace hF : Fresh (H.length + 3) (.slice none 0 0) := .inl rfl
      have hres : hearA su a n today = (zeroA, e2) := by rw [hro, if_pos (by assumption)]
      refine DK.ret ?_
      refine And.intro (Or.inr rfl) ?_
      refine ⟨_, by simp [absAnswer, absResults, absResult, Tryd.f33, m0, m1, m2, qq, hs0, hs1]; rfl, ?_⟩
      exact ⟨_, by rw [hres]; rfl, hM.keep.ext, by rw [hres]; exact hO, hF.le (by omega)⟩
    try simp only [h]
    replace h := Fa.out h
    refine DK.skip ?_
    refine DK.seq ?_
    refine DK.region (is := [0, 1, 2, 3, 4, 5]) (by kernel_rfl) rfl ?_
    refine WK.run (rest := []) [0, 1, 2, 3, 4, 5] (by simp [m0, m1, m2, qq, hs0, hs1, hll, hb, hwr, hi9, hlt, hge, hle, hcc, hcx, hls, Cy.cells]; constructor <;> rfl) ?_
    refine WK.nil ?_
    refine DK.abs (fun MC => AtM H [({ a with op := a.op.set i.toNat x } : Ac).l (.slice (some ⟨b, 0, none⟩) a.op.length 8), n.l, zeroA.l (.slice none 0 0)] MC ∧ OpenAt MC (.slice (some ⟨b, 0, none⟩) a.op.length 8) (a.op.set i.toNat x)) ⟨hM.far hnb _, by have hpu := OpenAt.put hb hil x; simpa [splice, Cy.cells] using hpu⟩ ?_
    try clear hM
    try clear hO
    rintro MC ⟨hM, hO⟩
    replace m0 := hM.own 0 (by simp)
    replace m1 := hM.own 1 (by simp)
    replace m2 := hM.own 2 (by simp)
    simp only [List.getElem_cons_zero, List.getElem_cons_succ, Nat.add_zero] at m0 m1 m2
    replace qq := hM.q3
    replace hs0 := hO.cells.1
    replace hs1 := hO.cells.2
    refine DK.seq ?_
    refine DK.region (is := [0, 1, 2, 3, 4, 5]) (by kernel_rfl) rfl ?_
    refine WK.run (rest := [1, 2, 3, 4, 5]) [0] (by simp [m0, m1, m2, qq, hs0, hs1, hll, hb, hwr, hi9, hlt, hge, hle, hcc, hcx, hls, Cy.cells]; constructor <;> rfl) ?_
    refine WK.call rfl (by simp [m0, m1, m2, qq, hs0, hs1, hll, hb, hwr, hi9, hlt, hge, hle, hcc, hcx, hls, Cy.cells]) (by simp [Tryd.func60, Tryd.f60, m0, m1, m2, qq, hs0, hs1, hll, hb, hwr, hi9, hlt, hge, hle, hcc, hcx, hls, Cy.cells]; constructor <;> rfl) ?_
    refine FSem.mono (settle_s ({ a with op := a.op.set i.toNat x } : Ac) hO (by simpa using hn)) ?_
    rintro _ R ⟨s2, rfl, hA, hO, hF⟩
    replace hF : Fresh (H.length + 3) s2 := hF.le (hM.lt (i := 2) (by simp))
    replace hM := hM.on (Keep.of hA)
    replace m0 := hM.own 0 (by simp)
    replace m1 := hM.own 1 (by simp)
    replace m2 := hM.own 2 (by simp)
    simp only [List.getElem_cons_zero, List.getElem_cons_succ, Nat.add_zero] at m0 m1 m2
    replace qq := hM.q3
    replace hs0 := hO.cells.1
    replace hs1 := hO.cells.2
    refine WK.run (rest := []) [2, 3, 4, 5] (by simp [m0, m1, m2, qq, hs0, hs1, hll, hb, hwr, hi9, hlt, hge, hle, hcc, hcx, hls, Cy.cells]; constructor <;> rfl) ?_
    refine WK.nil ?_
    refine DK.abs (fun M8 => AtM H [({ a with op := a.op.set i.toNat x } : Ac).l (.slice (some ⟨b, 0, none⟩) a.op.length 8), n.l, (settleA ({ a with op := a.op.set i.toNat x } : Ac)).1.l s2] M8 ∧ OpenAt M8 s2 (settleA ({ a with op := a.op.set i.toNat x } : Ac)).1.op) ⟨hM.set (i := 2) (by simp) _, hO.set (hF.ne (by omega)) _⟩ ?_
    try clear hM
    try clear hO
    rintro M8 ⟨hM, hO⟩
    replace m0 := hM.own 0 (by simp)
    replace m1 := hM.own 1 (by simp)
    replace m2 := hM.own 2 (by simp)
    simp only [List.getElem_cons_zero, List.getElem_cons_succ, Nat.add_zero] at m0 m1 m2
    replace qq := hM.q3
    replace hs0 := hO.cells.1
    replace hs1 := hO.cells.2
    have hres : hearA su a n today = ((settleA ({ a with op := a.op.set i.toNat x } : Ac)).1, (settleA ({ a with op := a.op.set i.toNat x } : Ac)).2) := by rw [hro, if_neg (by simpa using ‹_›)]
    refine DK.ret ?_
    refine And.intro (Or.inr rfl) ?_
    refine ⟨_, by simp [absAnswer, absResults, absResult, Tryd.f33, m0, m1, m2, qq, hs0, hs1]; rfl, ?_⟩
    exact ⟨_, by rw [hres]; rfl, hM.keep.ext, by rw [hres]; exact hO, hF.le (by omega)⟩
  try simp only [h]
  replace h := Fa.out h
  have hno : ∀ j (hj : j < a.op.length), a.op[j].no ≠ n.cy := fun j hj => hnn j (by omega) hj
  refine DK.exit ?_
  refine DK.seq ?_
  refine DK.region (is := [0, 1, 2]) (by kernel_rfl) rfl ?_
  refine WK.run (rest := []) [0, 1, 2] (by simp [m0, m1, m2, qq, hs0, hs1, hll, hb, hwr, hi9, hlt, hge, hle, hcc, hcx, hls, Cy.cells]; constructor <;> rfl) ?_
  refine WK.nil ?_
  refine DK.abs (fun MZ => AtM H [a.l s1, n.l, zeroA.l (.slice none 0 0)] MZ ∧ OpenAt MZ (.slice none 0 0) zeroA.op) ⟨hM.set (i := 2) (by simp) _, .inl ⟨rfl, rfl⟩⟩ ?_
  try clear hM
  try clear hO
  rintro MZ ⟨hM, hO⟩
  replace m0 := hM.own 0 (by simp)
  replace m1 := hM.own 1 (by simp)
  replace m2 := hM.own 2 (by simp)
  simp only [List.getElem_cons_zero, List.getElem_cons_succ, Nat.add_zero] at m0 m1 m2
  replace qq := hM.q3
  replace hs0 := hO.cells.1
  replace hs1 := hO.cells.2
  replace hF : Fresh (H.length + 3) (.slice none 0 0) := .inl rfl
  have hres : hearA su a n today = (zeroA, 10) := hearA_none fun j hj => hno j (by omega)
  refine DK.ret ?_
  refine And.intro (Or.inr rfl) ?_
  refine ⟨_, by simp [absAnswer, absResults, absResult, Tryd.f33, m0, m1, m2, qq, hs0, hs1]; rfl, ?_⟩
  exact ⟨_, by rw [hres]; rfl, hM.keep.ext, by rw [hres]; exact hO, hF.le (by omega)⟩
end Go.Den
set_option linter.unusedVariables false
set_option maxRecDepth 100000
namespace Go.Den
open Go Go.Proofs
theorem nthF_bd (a u e n : Int) : 0 ≤ (nthF a u e n).1 ∧ (nthF a u e n).1 ≤ 3652058 := by
  unfold nthF
  split
  · rename_i h
    cases hc : nthO a u e n with
    | none => simp [Sea.out]
    | some v =>
      have := nthO_range h hc
      obtain ⟨⟨h1, h2⟩, _, h6, h7⟩ := h
      simp only [Sea.out]; omega
  · simp
theorem spanF_bd (a u e day : Int) : (0 ≤ (spanF a u e day).1 ∧ (spanF a u e day).1 ≤ 3652058) ∧ (0 ≤ (spanF a u e day).2.1 ∧ (spanF a u e day).2.1 ≤ 3652058) ∧ ((spanF a u e day).2.2 = 0 → 0 ≤ day ∧ day ≤ 3652058) := by
  unfold spanF
  split
  · rename_i h
    split
    · simp
    · split
      · exact ⟨nthF_bd _ _ _ _, nthF_bd _ _ _ _, fun _ => h.2⟩
      · exact ⟨by simp, by simp, fun _ => h.2⟩
  · simp
theorem span_g (a u e day : Int) (hu : 0 ≤ u) (H : Mem) : FSem Tryd.prog [0] 88 #[.int .i64 a, .int .u8 u, .int .i64 e, .int .i64 day] H fun v H' =>
    ∃ f t er, v = .tuple #[.int .i64 f, .int .i64 t, .int .i64 er] ∧ spanF a u e day = (f, t, er) ∧ ((0 ≤ f ∧ f ≤ 3652058) ∧ (0 ≤ t ∧ t ≤ 3652058) ∧ (er = 0 → 0 ≤ day ∧ day ≤ 3652058)) ∧ H' = H := by
  refine FSem.mono (span_s a u e day hu H) ?_
  rintro v H' ⟨⟨f, t, er, rfl, h1, h2⟩, rfl⟩
  have e1 := spanF_of h1 h2
  have e2 := spanF_bd a u e day
  rw [← e1] at e2
  exact ⟨f, t, er, rfl, e1.symm, e2, rfl⟩
theorem pchange_g (f t : Pl) (left days : Int) (hf : f.pr ≤ 1073741824) (ht : t.pr ≤ 1073741824) (hl : left ≤ 4000000) (hd : days ≤ 4000000) (H : Mem) :
    FSem Tryd.prog [0] 89 #[f.v, t.v, .int .i64 left, .int .i64 days] H fun v H' => ∃ x y er, v = .tuple #[.int .i64 x, .int .i64 y, .int .i64 er] ∧ planChg f t left days = (x, y, er) ∧ H' = H := by
  refine FSem.mono (pchange_s f t left days hf ht hl hd H) ?_
  rintro v H' ⟨rfl, rfl⟩
  exact ⟨_, _, _, rfl, rfl, rfl⟩
theorem add_g (a b : Int) (H : Mem) : FSem Tryd.prog [0] 90 #[.int .i64 a, .int .i64 b] H fun v H' => ∃ x er, v = .tuple #[.int .i64 x, .int .i64 er] ∧ addP a b = (x, er) ∧ H' = H := by
  refine FSem.mono (add_s a b H) ?_
  rintro v H' ⟨rfl, rfl⟩
  exact ⟨_, _, rfl, rfl, rfl⟩
theorem changeA_8 {a : Ac} {f : Pl} {n : Int} {t : Pl} {today : Int} (h : a.st ≠ 1 ∨ n = a.pl) : changeA a f n t today = (zeroA, 8) := by unfold changeA; rw [if_pos h]
theorem changeA_y {a : Ac} {f : Pl} {n : Int} {t : Pl} {today fi nx er : Int} (h : ¬ (a.st ≠ 1 ∨ n = a.pl)) (hs : spanF a.an f.un f.ev today = (fi, nx, er)) (he : er = 0) (hi : 0 < a.ix) {x y e : Int} (hp : planChg f t (IntKind.i64.wrap (nx - today)) (IntKind.i64.wrap (nx - fi)) = (x, y, e)) :
    changeA a f n t today = if e ≠ 0 then (zeroA, e) else if (addP a.cr (IntKind.i64.wrap (x - y))).2 ≠ 0 then (zeroA, (addP a.cr (IntKind.i64.wrap (x - y))).2) else ({ a with cr := (addP a.cr (IntKind.i64.wrap (x - y))).1, an := nx, pl := n, ix := 0 }, 0) := by
  unfold changeA; rw [if_neg h]; simp only [hs]; rw [if_pos ⟨he, hi⟩]; simp only [hp]
theorem changeA_n {a : Ac} {f : Pl} {n : Int} {t : Pl} {today fi nx er : Int} (h : ¬ (a.st ≠ 1 ∨ n = a.pl)) (hs : spanF a.an f.un f.ev today = (fi, nx, er)) (hi : ¬ (er = 0 ∧ 0 < a.ix)) :
    changeA a f n t today = if er = 6 then (zeroA, 8) else ({ a with pl := n, ix := 0 }, 0) := by
  unfold changeA; rw [if_neg h]; simp only [hs]; rw [if_neg hi]
end Go.Den
namespace Go.Den
open Go Go.Proofs
set_option maxRecDepth 100000
set_option maxHeartbeats 1000000
set_option linter.all false
attribute [local simp] evOps evOp absOp absBox absAlloc absLoad absStore absField absIndexAddr absCells absBinOp absBin absInt absShift absUn absPick absNil absExtract absBuild absPlaces Instr.fill absBuiltin absMinMax plainV plainT allA flat cells_agg cells_int cells_bool cells_str cells_ptr cells_sl cells_map one_int one_bool one_str one_ptr one_sl one_map Act.eval Act.put Region.wanted yielded splice absCall TypeDesc.isRow
theorem achange_s (a : Ac) (f : Pl) (n : Int) (t : Pl) (today : Int) (hu : 0 ≤ f.un) (hf : f.pr ≤ 1073741824) (ht : t.pr ≤ 1073741824) {s : Value} {H : Mem} (hO : OpenAt H s a.op) (hn : a.op.length ≤ 1000000000000) : FSem Tryd.prog [0] 66 #[a.v s, f.v, .int .i64 n, t.v, .int .i64 today] H fun v H' => AcRes H (changeA a f n t today) v H' := by
  refine FSem.ofK Tryd.func66 rfl ?_
  refine DK.from (b' := ⟨#[a.v s, f.v, .int .i64 n, t.v, .int .i64 today, undef, undef, undef, undef, undef, undef, undef, undef, undef, undef, undef, undef, undef, undef, undef, undef, undef, undef, undef, undef, undef, undef, undef, undef, undef, undef, undef, undef, undef, undef, undef, undef, undef, undef, undef, undef, undef, undef, undef, undef, undef, undef, undef, undef, undef, undef, undef, undef, undef, undef, undef, undef, undef, undef, undef, undef, undef, undef, undef, undef, undef, undef, undef, undef, undef, undef, undef, undef, undef, undef, undef, undef, undef, undef, undef, undef, undef, undef, undef, undef, undef, undef, undef, undef], []⟩) (by kernel_rfl) ?_
  have m0 := True.intro
  have m1 := True.intro
  have m2 := True.intro
  have m3 := True.intro
  have qq := True.intro
  have hs0 := True.intro
  have hs1 := True.intro
  have hF := True.intro
  refine DK.seq ?_
  refine DK.region (is := [0, 1, 2, 3, 4]) (by kernel_rfl) rfl ?_
  refine WK.run (rest := []) [0, 1, 2, 3, 4] (by simp [m0, m1, m2, m3, qq, hs0, hs1]; constructor <;> rfl) ?_
  refine WK.nil ?_
  refine DK.abs (fun M0 => AtM H [a.l s, f.l, t.l, zeroA.l (.slice none 0 0)] M0 ∧ OpenAt M0 s a.op) ⟨AtM.start H [] [_, _, _, _], hO.app _⟩ ?_
  try clear hM
  try clear hO
  rintro M0 ⟨hM, hO⟩
  replace m0 := hM.own 0 (by simp)
  replace m1 := hM.own 1 (by simp)
  replace m2 := hM.own 2 (by simp)
  replace m3 := hM.own 3 (by simp)
  simp only [List.getElem_cons_zero, List.getElem_cons_succ, Nat.add_zero] at m0 m1 m2 m3
  replace qq := hM.q4
  replace hs0 := hO.cells.1
  replace hs1 := hO.cells.2
  refine DK.seq ?_
  refine DK.seq ?_
  refine DK.region (is := [0, 1, 2, 3, 4, 5, 6, 7, 8]) (by kernel_rfl) rfl ?_
  refine WK.run (rest := [4, 5, 6, 7, 8]) [0, 1, 2, 3] (by simp [m0, m1, m2, m3, qq, hs0, hs1]; constructor <;> rfl) ?_
  refine WK.split (t := 21) rfl (fun h => ?_) (fun h => ?_)
  · try simp only [h]
    replace h := Tr.out h
    refine WK.run (rest := []) [4, 5, 6, 7, 8] (by simp [m0, m1, m2, m3, qq, hs0, hs1]; constructor <;> rfl) ?_
    refine WK.nil ?_
    refine DK.yes rfl rfl ?_
    refine DK.seq ?_
    refine DK.region (is := [0, 1, 2]) (by kernel_rfl) rfl ?_
    refine WK.run (rest := []) [0, 1, 2] (by simp [m0, m1, m2, m3, qq, hs0, hs1]; constructor <;> rfl) ?_
    refine WK.nil ?_
    refine DK.abs (fun MZ => AtM H [a.l s, f.l, t.l, zeroA.l (.slice none 0 0)] MZ ∧ OpenAt MZ (.slice none 0 0) zeroA.op) ⟨hM.set (i := 3) (by simp) _, .inl ⟨rfl, rfl⟩⟩ ?_
    try clear hM
    try clear hO
    rintro MZ ⟨hM, hO⟩
    replace m0 := hM.own 0 (by simp)
    replace m1 := hM.own 1 (by simp)
    replace m2 := hM.own 2 (by simp)
    replace m3 := hM.own 3 (by simp)
    simp only [List.getElem_cons_zero, List.getElem_cons_succ, Nat.add_zero] at m0 m1 m2 m3
    replace qq := hM.q4
    replace hs0 := hO.cells.1
    replace hs1 := hO.cells.2
    replace hF : Fresh (H.length + 4) (.slice none 0 0) := .inl rfl
    have hres : changeA a f n t today = (zeroA, 8) := changeA_8 (by simp_all)
    refine DK.ret ?_
    refine And.intro (Or.inr rfl) ?_
    refine ⟨_, by simp [absAnswer, absResults, absResult, Tryd.f66, m0, m1, m2, m3, qq, hs0, hs1]; rfl, ?_⟩
    exact ⟨_, by rw [hres]; rfl, hM.keep.ext, by rw [hres]; exact hO, hF.le (by omega)⟩
  try simp only [h]
  replace h := Fa.out h
  refine WK.run (rest := []) [4, 5, 6, 7, 8] (by simp [m0, m1, m2, m3, qq, hs0, hs1]; constructor <;> rfl) ?_
  refine WK.nil ?_
  refine DK.test rfl rfl (fun h => ?_) (fun h => ?_)
  · try simp only [h]
    replace h := Tr.out h
    refine DK.seq ?_
    refine DK.region (is := [0, 1, 2]) (by kernel_rfl) rfl ?_
    refine WK.run (rest := []) [0, 1, 2] (by simp [m0, m1, m2, m3, qq, hs0, hs1]; constructor <;> rfl) ?_
    refine WK.nil ?_
    refine DK.abs (fun MZ => AtM H [a.l s, f.l, t.l, zeroA.l (.slice none 0 0)] MZ ∧ OpenAt MZ (.slice none 0 0) zeroA.op) ⟨hM.set (i := 3) (by simp) _, .inl ⟨rfl, rfl⟩⟩ ?_
    try clear hM
    try clear hO
    rintro MZ ⟨hM, hO⟩
    replace m0 := hM.own 0 (by simp)
    replace m1 := hM.own 1 (by simp)
    replace m2 := hM.own 2 (by simp)
    replace m3 := hM.own 3 (by simp)
    simp only [List.getElem_cons_zero, List.getElem_cons_succ, Nat.add_zero] at m0 m1 m2 m3
    replace qq := hM.q4
    replace hs0 := hO.cells.1
    replace hs1 := hO.cells.2
    replace hF : Fresh (H.length + 4) (.slice none 0 0) := .inl rfl
    have hres : changeA a f n t today = (zeroA, 8) := changeA_8 (by simp_all)
    refine DK.ret ?_
    refine And.intro (Or.inr rfl) ?_
    refine ⟨_, by simp [absAnswer, absResults, absResult, Tryd.f66, m0, m1, m2, m3, qq, hs0, hs1]; rfl, ?_⟩
    exact ⟨_, by rw [hres]; rfl, hM.keep.ext, by rw [hres]; exact hO, hF.le (by omega)⟩
  try simp only [h]
  replace h := Fa.out h
  refine DK.skip ?_
  refine DK.seq ?_
  refine DK.region (is := [0, 1, 2]) (by kernel_rfl) rfl ?_
  refine WK.run (rest := [1, 2]) [0] (by simp [m0, m1, m2, m3, qq, hs0, hs1]; constructor <;> rfl) ?_
  refine WK.call rfl (by simp [m0, m1, m2, m3, qq, hs0, hs1]) (by simp [Tryd.func58, Tryd.f58, m0, m1, m2, m3, qq, hs0, hs1]; constructor <;> rfl) ?_
  refine FSem.mono (copy_s a hO (by omega)) ?_
  rintro _ M1 ⟨s1, rfl, hA, hO, hF⟩
  replace hF : Fresh (H.length + 4) s1 := hF.le (hM.lt (i := 3) (by simp))
  replace hM := hM.on (Keep.of hA)
  replace m0 := hM.own 0 (by simp)
  replace m1 := hM.own 1 (by simp)
  replace m2 := hM.own 2 (by simp)
  replace m3 := hM.own 3 (by simp)
  simp only [List.getElem_cons_zero, List.getElem_cons_succ, Nat.add_zero] at m0 m1 m2 m3
  replace qq := hM.q4
  replace hs0 := hO.cells.1
  replace hs1 := hO.cells.2
  refine WK.run (rest := []) [2] (by simp [m0, m1, m2, m3, qq, hs0, hs1]; constructor <;> rfl) ?_
  refine WK.nil ?_
  refine DK.abs (fun M2 => AtM H [a.l s1, f.l, t.l, zeroA.l (.slice none 0 0)] M2 ∧ OpenAt M2 s1 a.op) ⟨hM.set (i := 0) (by simp) _, hO.set (hF.ne (by omega)) _⟩ ?_
  try clear hM
  try clear hO
  rintro M2 ⟨hM, hO⟩
  replace m0 := hM.own 0 (by simp)
  replace m1 := hM.own 1 (by simp)
  replace m2 := hM.own 2 (by simp)
  replace m3 := hM.own 3 (by simp)
  simp only [List.getElem_cons_zero, List.getElem_cons_succ, Nat.add_zero] at m0 m1 m2 m3
  replace qq := hM.q4
  replace hs0 := hO.cells.1
  replace hs1 := hO.cells.2
  have hw : ¬ (a.st ≠ 1 ∨ n = a.pl) := by simp_all
  refine DK.seq ?_
  refine DK.seq ?_
  refine DK.region (is := [0, 1, 2, 3, 4, 5, 6, 7, 8, 9, 10, 11, 12, 13, 14]) (by kernel_rfl) rfl ?_
  refine WK.run (rest := [7, 8, 9, 10, 11, 12, 13, 14]) [0, 1, 2, 3, 4, 5, 6] (by simp [m0, m1, m2, m3, qq, hs0, hs1]; constructor <;> rfl) ?_
  refine WK.call rfl (by simp [m0, m1, m2, m3, qq, hs0, hs1]) (by simp [Tryd.func88, Tryd.f88, m0, m1, m2, m3, qq, hs0, hs1]; constructor <;> rfl) ?_
  refine FSem.mono (span_g _ _ _ _ hu _) ?_
  rintro _ Hq ⟨fi, nx, er, rfl, hsp, ⟨⟨hb1, hb2⟩, ⟨hb3, hb4⟩, hb5⟩, hq⟩
  replace hq := hq.symm
  subst hq
  refine WK.run (rest := []) [8, 9, 10, 11, 12, 13, 14] (by simp [m0, m1, m2, m3, qq, hs0, hs1]; constructor <;> rfl) ?_
  refine WK.nil ?_
  refine DK.seq ?_
  refine DK.region (is := [0, 1, 2, 3, 4, 5, 6]) (by kernel_rfl) rfl ?_
  refine WK.run (rest := [3, 4, 5, 6]) [0, 1, 2] (by simp [m0, m1, m2, m3, qq, hs0, hs1]; constructor <;> rfl) ?_
  refine WK.split (t := 44) rfl (fun h => ?_) (fun h => ?_)
  · try simp only [h]
    replace h := Tr.out h
    refine WK.run (rest := []) [3, 4, 5, 6] (by simp [m0, m1, m2, m3, qq, hs0, hs1]; constructor <;> rfl) ?_
    refine WK.nil ?_
    refine DK.test rfl rfl (fun h => ?_) (fun h => ?_)
    · try simp only [h]
      replace h := Tr.out h
      refine DK.seq ?_
      refine DK.region (is := [0, 1, 2, 3, 4, 5, 6, 7, 8, 9, 10, 11, 12, 13, 14, 15]) (by kernel_rfl) rfl ?_
      refine WK.run (rest := [8, 9, 10, 11, 12, 13, 14, 15]) [0, 1, 2, 3, 4, 5, 6, 7] (by simp [m0, m1, m2, m3, qq, hs0, hs1]; constructor <;> rfl) ?_
      refine WK.call rfl (by simp [m0, m1, m2, m3, qq, hs0, hs1]) (by simp [Tryd.func89, Tryd.f89, m0, m1, m2, m3, qq, hs0, hs1]; constructor <;> rfl) ?_
      refine FSem.mono (pchange_g f t _ _ hf ht (by rw [wrap_in _ (by omega) (by omega)]; omega) (by rw [wrap_in _ (by omega) (by omega)]; omega) _) ?_
      rintro _ Hq ⟨px, py, pe, rfl, hpc, hq⟩
      replace hq := hq.symm
      subst hq
      have hro := changeA_y hw hsp ‹er = 0› ‹_› hpc
      refine WK.run (rest := []) [9, 10, 11, 12, 13, 14, 15] (by simp [m0, m1, m2, m3, qq, hs0, hs1]; constructor <;> rfl) ?_
      refine WK.nil ?_
      refine DK.seq ?_
      refine DK.seq ?_
      refine DK.region (is := [0, 1]) (by kernel_rfl) rfl ?_
      refine WK.run (rest := []) [0, 1] (by simp [m0, m1, m2, m3, qq, hs0, hs1]; constructor <;> rfl) ?_
      refine WK.nil ?_
      refine DK.test rfl rfl (fun h => ?_) (fun h => ?_)
      · try simp only [h]
        replace h := Tr.out h
        refine DK.seq ?_
        refine DK.region (is := [0, 1, 2, 3]) (by kernel_rfl) rfl ?_
        refine WK.run (rest := []) [0, 1, 2, 3] (by simp [m0, m1, m2, m3, qq, hs0, hs1]; constructor <;> rfl) ?_
        refine WK.nil ?_
        refine DK.abs (fun MZ => AtM H [a.l s1, f.l, t.l, zeroA.l (.slice none 0 0)] MZ ∧ OpenAt MZ (.slice none 0 0) zeroA.op) ⟨hM.set (i := 3) (by simp) _, .inl ⟨rfl, rfl⟩⟩ ?_
        try clear hM
        try clear hO
        rintro MZ ⟨hM, hO⟩
        replace m0 := hM.own 0 (by simp)
        replace m1 := hM.own 1 (by simp)
        replace m2 := hM.own 2 (by simp)
        replace m3 := hM.own 3 (by simp)
        simp only [List.getElem_cons_zero, List.getElem_cons_succ, Nat.add_zero] at m0 m1 m2 m3
        replace qq := hM.q4
        replace hs0 := hO.cells.1
        replace hs1 := hO.cells.2
        replace hF : Fresh (H.length + 4) (.slice none 0 0) := .inl rfl
        have hres : changeA a f n t today = (zeroA, pe) := by rw [hro, if_pos ‹_›]
        refine DK.ret ?_
        refine And.intro (Or.inr rfl) ?_
        refine ⟨_, by simp [absAnswer, absResults, absResult, Tryd.f66, m0, m1, m2, m3, qq, hs0, hs1]; rfl, ?_⟩
        exact ⟨_, by rw [hres]; rfl, hM.keep.ext, by rw [hres]; exact hO, hF.le (by omega)⟩
      try simp only [h]
      replace h := Fa.out h
      refine DK.skip ?_
      refine DK.seq ?_
      refine DK.seq ?_
      refine DK.region (is := [0, 1, 2, 3, 4, 5, 6, 7, 8, 9, 10, 11]) (by kernel_rfl) rfl ?_
      refine WK.run (rest := [5, 6, 7, 8, 9, 10, 11]) [0, 1, 2, 3, 4] (by simp [m0, m1, m2, m3, qq, hs0, hs1]; constructor <;> rfl) ?_
      refine WK.call rfl (by simp [m0, m1, m2, m3, qq, hs0, hs1]) (by simp [Tryd.func90, Tryd.f90, m0, m1, m2, m3, qq, hs0, hs1]; constructor <;> rfl) ?_
      refine FSem.mono (add_g _ _ _) ?_
      rintro _ Hq ⟨cx, ce, rfl, had, hq⟩
      replace hq := hq.symm
      subst hq
      refine WK.run (rest := []) [6, 7, 8, 9, 10, 11] (by simp [m0, m1, m2, m3, qq, hs0, hs1]; constructor <;> rfl) ?_
      refine WK.nil ?_
      refine DK.abs (fun M3 => AtM H [({ a with cr := cx } : Ac).l s1, f.l, t.l, zeroA.l (.slice none 0 0)] M3 ∧ OpenAt M3 s1 a.op) ⟨hM.set (i := 0) (by simp) _, hO.set (hF.ne (by omega)) _⟩ ?_
      try clear hM
      try clear hO
      rintro M3 ⟨hM, hO⟩
      replace m0 := hM.own 0 (by simp)
      replace m1 := hM.own 1 (by simp)
      replace m2 := hM.own 2 (by simp)
      replace m3 := hM.own 3 (by simp)
      simp only [List.getElem_cons_zero, List.getElem_cons_succ, Nat.add_zero] at m0 m1 m2 m3
      replace qq := hM.q4
      replace hs0 := hO.cells.1
      replace hs1 := hO.cells.2
      refine DK.seq ?_
      refine DK.region (is := [0, 1]) (by kernel_rfl) rfl ?_
      refine WK.run (rest := []) [0, 1] (by simp [m0, m1, m2, m3, qq, hs0, hs1]; constructor <;> rfl) ?_
      refine WK.nil ?_
      refine DK.test rfl rfl (fun h => ?_) (fun h => ?_)
      · try simp only [h]
        replace h := Tr.out h
        refine DK.seq ?_
        refine DK.region (is := [0, 1, 2, 3]) (by kernel_rfl) rfl ?_
        refine WK.run (rest := []) [0, 1, 2, 3] (by simp [m0, m1, m2, m3, qq, hs0, hs1]; constructor <;> rfl) ?_
        refine WK.nil ?_
        refine DK.abs (fun MZ => AtM H [({ a with cr := cx } : Ac).l s1, f.l, t.l, zeroA.l (.slice none 0 0)] MZ ∧ OpenAt MZ (.slice none 0 0) zeroA.op) ⟨hM.set (i := 3) (by simp) _, .inl ⟨rfl, rfl⟩⟩ ?_
        try clear hM
        try clear hO
        rintro MZ ⟨hM, hO⟩
        replace m0 := hM.own 0 (by simp)
        replace m1 := hM.own 1 (by simp)
        replace m2 := hM.own 2 (by simp)
        replace m3 := hM.own 3 (by simp)
        simp only [List.getElem_cons_zero, List.getElem_cons_succ, Nat.add_zero] at m0 m1 m2 m3
        replace qq := hM.q4
        replace hs0 := hO.cells.1
        replace hs1 := hO.cells.2
        replace hF : Fresh (H.length + 4) (.slice none 0 0) := .inl rfl
        have hres : changeA a f n t today = (zeroA, ce) := by rw [hro, if_neg (by simpa using ‹_›), had, if_pos ‹_›]
        refine DK.ret ?_
        refine And.intro (Or.inr rfl) ?_
        refine ⟨_, by simp [absAnswer, absResults, absResult, Tryd.f66, m0, m1, m2, m3, qq, hs0, hs1]; rfl, ?_⟩
        exact ⟨_, by rw [hres]; rfl, hM.keep.ext, by rw [hres]; exact hO, hF.le (by omega)⟩
      try simp only [h]
      replace h := Fa.out h
      refine DK.skip ?_
      refine DK.region (is := [0, 1, 2]) (by kernel_rfl) rfl ?_
      refine WK.run (rest := []) [0, 1, 2] (by simp [m0, m1, m2, m3, qq, hs0, hs1]; constructor <;> rfl) ?_
      refine WK.nil ?_
      refine DK.abs (fun M4 => AtM H [({ a with cr := cx, an := nx } : Ac).l s1, f.l, t.l, zeroA.l (.slice none 0 0)] M4 ∧ OpenAt M4 s1 a.op) ⟨hM.set (i := 0) (by simp) _, hO.set (hF.ne (by omega)) _⟩ ?_
      try clear hM
      try clear hO
      rintro M4 ⟨hM, hO⟩
      replace m0 := hM.own 0 (by simp)
      replace m1 := hM.own 1 (by simp)
      replace m2 := hM.own 2 (by simp)
      replace m3 := hM.own 3 (by simp)
      simp only [List.getElem_cons_zero, List.getElem_cons_succ, Nat.add_zero] at m0 m1 m2 m3
      replace qq := hM.q4
      replace hs0 := hO.cells.1
      replace hs1 := hO.cells.2
      have hres0 : changeA a f n t today = (({ a with cr := cx, an := nx, pl := n, ix := 0 } : Ac), 0) := by rw [hro, if_neg (by simpa using ‹_›), had, if_neg (by simpa using ‹_›)]
      refine DK.seq ?_
      refine DK.region (is := [0, 1, 2, 3, 4]) (by kernel_rfl) rfl ?_
      refine WK.run (rest := []) [0, 1, 2, 3, 4] (by simp [m0, m1, m2, m3, qq, hs0, hs1]; constructor <;> rfl) ?_
      refine WK.nil ?_
      first
        | (refine DK.abs (fun M5 => AtM H [({ a with cr := cx, an := nx, pl := n, ix := 0 } : Ac).l s1, f.l, t.l, zeroA.l (.slice none 0 0)] M5 ∧ OpenAt M5 s1 a.op) ⟨hM.set (i := 0) (by simp) _, hO.set (hF.ne (by omega)) _⟩ ?_
           try clear hM
           try clear hO
           rintro M5 ⟨hM, hO⟩
           replace m0 := hM.own 0 (by simp)
           replace m1 := hM.own 1 (by simp)
           replace m2 := hM.own 2 (by simp)
           replace m3 := hM.own 3 (by simp)
           simp only [List.getElem_cons_zero, List.getElem_cons_succ, Nat.add_zero] at m0 m1 m2 m3
           replace qq := hM.q4
           replace hs0 := hO.cells.1
           replace hs1 := hO.cells.2
           have hres := hres0)
        | (refine DK.abs (fun M5 => AtM H [({ a with pl := n, ix := 0 } : Ac).l s1, f.l, t.l, zeroA.l (.slice none 0 0)] M5 ∧ OpenAt M5 s1 a.op) ⟨hM.set (i := 0) (by simp) _, hO.set (hF.ne (by omega)) _⟩ ?_
           try clear hM
           try clear hO
           rintro M5 ⟨hM, hO⟩
           replace m0 := hM.own 0 (by simp)
           replace m1 := hM.own 1 (by simp)
           replace m2 := hM.own 2 (by simp)
           replace m3 := hM.own 3 (by simp)
           simp only [List.getElem_cons_zero, List.getElem_cons_succ, Nat.add_zero] at m0 m1 m2 m3
           replace qq := hM.q4
           replace hs0 := hO.cells.1
           replace hs1 := hO.cells.2
           have hres : changeA a f n t today = (({ a with pl := n, ix := 0 } : Ac), 0) := by rw [hrn, if_neg ‹_›])
      refine DK.seq ?_
      refine DK.region (is := [0, 1, 2]) (by kernel_rfl) rfl ?_
      refine WK.run (rest := []) [0, 1, 2] (by simp [m0, m1, m2, m3, qq, hs0, hs1]; constructor <;> rfl) ?_
      refine WK.nil ?_
      first
        | (refine DK.abs (fun M6 => AtM H [({ a with cr := cx, an := nx, pl := n, ix := 0 } : Ac).l s1, f.l, t.l, ({ a with cr := cx, an := nx, pl := n, ix := 0 } : Ac).l s1] M6 ∧ OpenAt M6 s1 a.op) ⟨hM.set (i := 3) (by simp) _, hO.set (hF.ne (by omega)) _⟩ ?_
           try clear hM
           try clear hO
           rintro M6 ⟨hM, hO⟩
           replace m0 := hM.own 0 (by simp)
           replace m1 := hM.own 1 (by simp)
           replace m2 := hM.own 2 (by simp)
           replace m3 := hM.own 3 (by simp)
           simp only [List.getElem_cons_zero, List.getElem_cons_succ, Nat.add_zero] at m0 m1 m2 m3
           replace qq := hM.q4
           replace hs0 := hO.cells.1
           replace hs1 := hO.cells.2)
        | (refine DK.abs (fun M6 => AtM H [({ a with pl := n, ix := 0 } : Ac).l s1, f.l, t.l, ({ a with pl := n, ix := 0 } : Ac).l s1] M6 ∧ OpenAt M6 s1 a.op) ⟨hM.set (i := 3) (by simp) _, hO.set (hF.ne (by omega)) _⟩ ?_
           try clear hM
           try clear hO
           rintro M6 ⟨hM, hO⟩
           replace m0 := hM.own 0 (by simp)
           replace m1 := hM.own 1 (by simp)
           replace m2 := hM.own 2 (by simp)
           replace m3 := hM.own 3 (by simp)
           simp only [List.getElem_cons_zero, List.getElem_cons_succ, Nat.add_zero] at m0 m1 m2 m3
           replace qq := hM.q4
           replace hs0 := hO.cells.1
           replace hs1 := hO.cells.2)
      refine DK.ret ?_
      refine And.intro (Or.inr rfl) ?_
      refine ⟨_, by simp [absAnswer, absResults, absResult, Tryd.f66, m0, m1, m2, m3, qq, hs0, hs1]; rfl, ?_⟩
      exact ⟨_, by rw [hres]; rfl, hM.keep.ext, by rw [hres]; exact hO, hF.le (by omega)⟩
    try simp only [h]
    replace h := Fa.out h
    refine DK.seq ?_
    refine DK.region (is := [0, 1]) (by kernel_rfl) rfl ?_
    refine WK.run (rest := []) [0, 1] (by simp [m0, m1, m2, m3, qq, hs0, hs1]; constructor <;> rfl) ?_
    refine WK.nil ?_
    have hrn := changeA_n (t := t) hw hsp (by simp_all)
    refine DK.test rfl rfl (fun h => ?_) (fun h => ?_)
    · try simp only [h]
      replace h := Tr.out h
      refine DK.seq ?_
      refine DK.region (is := [0, 1, 2]) (by kernel_rfl) rfl ?_
      refine WK.run (rest := []) [0, 1, 2] (by simp [m0, m1, m2, m3, qq, hs0, hs1]; constructor <;> rfl) ?_
      refine WK.nil ?_
      refine DK.abs (fun MZ => AtM H [a.l s1, f.l, t.l, zeroA.l (.slice none 0 0)] MZ ∧ OpenAt MZ (.slice none 0 0) zeroA.op) ⟨hM.set (i := 3) (by simp) _, .inl ⟨rfl, rfl⟩⟩ ?_
      try clear hM
      try clear hO
      rintro MZ ⟨hM, hO⟩
      replace m0 := hM.own 0 (by simp)
      replace m1 := hM.own 1 (by simp)
      replace m2 := hM.own 2 (by simp)
      replace m3 := hM.own 3 (by simp)
      simp only [List.getElem_cons_zero, List.getElem_cons_succ, Nat.add_zero] at m0 m1 m2 m3
      replace qq := hM.q4
      replace hs0 := hO.cells.1
      replace hs1 := hO.cells.2
      replace hF : Fresh (H.length + 4) (.slice none 0 0) := .inl rfl
      have hres : changeA a f n t today = (zeroA, 8) := by rw [hrn, if_pos ‹_›]
      refine DK.ret ?_
      refine And.intro (Or.inr rfl) ?_
      refine ⟨_, by simp [absAnswer, absResults, absResult, Tryd.f66, m0, m1, m2, m3, qq, hs0, hs1]; rfl, ?_⟩
      exact ⟨_, by rw [hres]; rfl, hM.keep.ext, by rw [hres]; exact hO, hF.le (by omega)⟩
    try simp only [h]
    replace h := Fa.out h
    refine DK.skip ?_
    refine DK.seq ?_
    refine DK.region (is := [0, 1, 2, 3, 4]) (by kernel_rfl) rfl ?_
    refine WK.run (rest := []) [0, 1, 2, 3, 4] (by simp [m0, m1, m2, m3, qq, hs0, hs1]; constructor <;> rfl) ?_
    refine WK.nil ?_
    first
      | (refine DK.abs (fun M5 => AtM H [({ a with cr := cx, an := nx, pl := n, ix := 0 } : Ac).l s1, f.l, t.l, zeroA.l (.slice none 0 0)] M5 ∧ OpenAt M5 s1 a.op) ⟨hM.set (i := 0) (by simp) _, hO.set (hF.ne (by omega)) _⟩ ?_
         try clear hM
         try clear hO
         rintro M5 ⟨hM, hO⟩
         replace m0 := hM.own 0 (by simp)
         replace m1 := hM.own 1 (by simp)
         replace m2 := hM.own 2 (by simp)
         replace m3 := hM.own 3 (by simp)
         simp only [List.getElem_cons_zero, List.getElem_cons_succ, Nat.add_zero] at m0 m1 m2 m3
         replace qq := hM.q4
         replace hs0 := hO.cells.1
         replace hs1 := hO.cells.2
         have hres := hres0)
      | (refine DK.abs (fun M5 => AtM H [({ a with pl := n, ix := 0 } : Ac).l s1, f.l, t.l, zeroA.l (.slice none 0 0)] M5 ∧ OpenAt M5 s1 a.op) ⟨hM.set (i := 0) (by simp) _, hO.set (hF.ne (by omega)) _⟩ ?_
         try clear hM
         try clear hO
         rintro M5 ⟨hM, hO⟩
         replace m0 := hM.own 0 (by simp)
         replace m1 := hM.own 1 (by simp)
         replace m2 := hM.own 2 (by simp)
         replace m3 := hM.own 3 (by simp)
         simp only [List.getElem_cons_zero, List.getElem_cons_succ, Nat.add_zero] at m0 m1 m2 m3
         replace qq := hM.q4
         replace hs0 := hO.cells.1
         replace hs1 := hO.cells.2
         have hres : changeA a f n t today = (({ a with pl := n, ix := 0 } : Ac), 0) := by rw [hrn, if_neg ‹_›])
    refine DK.seq ?_
    refine DK.region (is := [0, 1, 2]) (by kernel_rfl) rfl ?_
    refine WK.run (rest := []) [0, 1, 2] (by simp [m0, m1, m2, m3, qq, hs0, hs1]; constructor <;> rfl) ?_
    refine WK.nil ?_
    first
      | (refine DK.abs (fun M6 => AtM H [({ a with cr := cx, an := nx, pl := n, ix := 0 } : Ac).l s1, f.l, t.l, ({ a with cr := cx, an := nx, pl := n, ix := 0 } : Ac).l s1] M6 ∧ OpenAt M6 s1 a.op) ⟨hM.set (i := 3) (by simp) _, hO.set (hF.ne (by omega)) _⟩ ?_
         try clear hM
         try clear hO
         rintro M6 ⟨hM, hO⟩
         replace m0 := hM.own 0 (by simp)
         replace m1 := hM.own 1 (by simp)
         replace m2 := hM.own 2 (by simp)
         replace m3 := hM.own 3 (by simp)
         simp only [List.getElem_cons_zero, List.getElem_cons_succ, Nat.add_zero] at m0 m1 m2 m3
         replace qq := hM.q4
         replace hs0 := hO.cells.1
         replace hs1 := hO.cells.2)
      | (refine DK.abs (fun M6 => AtM H [({ a with pl := n, ix := 0 } : Ac).l s1, f.l, t.l, ({ a with pl := n, ix := 0 } : Ac).l s1] M6 ∧ OpenAt M6 s1 a.op) ⟨hM.set (i := 3) (by simp) _, hO.set (hF.ne (by omega)) _⟩ ?_
         try clear hM
         try clear hO
         rintro M6 ⟨hM, hO⟩
         replace m0 := hM.own 0 (by simp)
         replace m1 := hM.own 1 (by simp)
         replace m2 := hM.own 2 (by simp)
         replace m3 := hM.own 3 (by simp)
         simp only [List.getElem_cons_zero, List.getElem_cons_succ, Nat.add_zero] at m0 m1 m2 m3
         replace qq := hM.q4
         replace hs0 := hO.cells.1
         replace hs1 := hO.cells.2)
    refine DK.ret ?_
    refine And.intro (Or.inr rfl) ?_
    refine ⟨_, by simp [absAnswer, absResults, absResult, Tryd.f66, m0, m1, m2, m3, qq, hs0, hs1]; rfl, ?_⟩
    exact ⟨_, by rw [hres]; rfl, hM.keep.ext, by rw [hres]; exact hO, hF.le (by omega)⟩
  try simp only [h]
  replace h := Fa.out h
  refine WK.run (rest := []) [3, 4, 5, 6] (by simp [m0, m1, m2, m3, qq, hs0, hs1]; constructor <;> rfl) ?_
  refine WK.nil ?_
  refine DK.no rfl rfl ?_
  refine DK.seq ?_
  refine DK.region (is := [0, 1]) (by kernel_rfl) rfl ?_
  refine WK.run (rest := []) [0, 1] (by simp [m0, m1, m2, m3, qq, hs0, hs1]; constructor <;> rfl) ?_
  refine WK.nil ?_
  have hrn := changeA_n (t := t) hw hsp (by simp_all)
  refine DK.test rfl rfl (fun h => ?_) (fun h => ?_)
  · try simp only [h]
    replace h := Tr.out h
    refine DK.seq ?_
    refine DK.region (is := [0, 1, 2]) (by kernel_rfl) rfl ?_
    refine WK.run (rest := []) [0, 1, 2] (by simp [m0, m1, m2, m3, qq, hs0, hs1]; constructor <;> rfl) ?_
    refine WK.nil ?_
    refine DK.abs (fun MZ => AtM H [a.l s1, f.l, t.l, zeroA.l (.slice none 0 0)] MZ ∧ OpenAt MZ (.slice none 0 0) zeroA.op) ⟨hM.set (i := 3) (by simp) _, .inl ⟨rfl, rfl⟩⟩ ?_
    try clear hM
    try clear hO
    rintro MZ ⟨hM, hO⟩
    replace m0 := hM.own 0 (by simp)
    replace m1 := hM.own 1 (by simp)
    replace m2 := hM.own 2 (by simp)
    replace m3 := hM.own 3 (by simp)
    simp only [List.getElem_cons_zero, List.getElem_cons_succ, Nat.add_zero] at m0 m1 m2 m3
    replace qq := hM.q4
    replace hs0 := hO.cells.1
    replace hs1 := hO.cells.2
    replace hF : Fresh (H.length + 4) (.slice none 0 0) := .inl rfl
    have hres : changeA a f n t today = (zeroA, 8) := by rw [hrn, if_pos ‹_›]
    refine DK.ret ?_
    refine And.intro (Or.inr rfl) ?_
    refine ⟨_, by simp [absAnswer, absResults, absResult, Tryd.f66, m0, m1, m2, m3, qq, hs0, hs1]; rfl, ?_⟩
    exact ⟨_, by rw [hres]; rfl, hM.keep.ext, by rw [hres]; exact hO, hF.le (by omega)⟩
  try simp only [h]
  replace h := Fa.out h
  refine DK.skip ?_
  refine DK.seq ?_
  refine DK.region (is := [0, 1, 2, 3, 4]) (by kernel_rfl) rfl ?_
  refine WK.run (rest := []) [0, 1, 2, 3, 4] (by simp [m0, m1, m2, m3, qq, hs0, hs1]; constructor <;> rfl) ?_
  refine WK.nil ?_
  first
    | (refine DK.abs (fun M5 => AtM H [({ a with cr := cx, an := nx, pl := n, ix := 0 } : Ac).l s1, f.l, t.l, zeroA.l (.slice none 0 0)] M5 ∧ OpenAt M5 s1 a.op) ⟨hM.set (i := 0) (by simp) _, hO.set (hF.ne (by omega)) _⟩ ?_
       try clear hM
       try clear hO
       rintro M5 ⟨hM, hO⟩
       replace m0 := hM.own 0 (by simp)
       replace m1 := hM.own 1 (by simp)
       replace m2 := hM.own 2 (by simp)
       replace m3 := hM.own 3 (by simp)
       simp only [List.getElem_cons_zero, List.getElem_cons_succ, Nat.add_zero] at m0 m1 m2 m3
       replace qq := hM.q4
       replace hs0 := hO.cells.1
       replace hs1 := hO.cells.2
       have hres := hres0)
    | (refine DK.abs (fun M5 => AtM H [({ a with pl := n, ix := 0 } : Ac).l s1, f.l, t.l, zeroA.l (.slice none 0 0)] M5 ∧ OpenAt M5 s1 a.op) ⟨hM.set (i := 0) (by simp) _, hO.set (hF.ne (by omega)) _⟩ ?_
       try clear hM
       try clear hO
       rintro M5 ⟨hM, hO⟩
       replace m0 := hM.own 0 (by simp)
       replace m1 := hM.own 1 (by simp)
       replace m2 := hM.own 2 (by simp)
       replace m3 := hM.own 3 (by simp)
       simp only [List.getElem_cons_zero, List.getElem_cons_succ, Nat.add_zero] at m0 m1 m2 m3
       replace qq := hM.q4
       replace hs0 := hO.cells.1
       replace hs1 := hO.cells.2
       have hres : changeA a f n t today = (({ a with pl := n, ix := 0 } : Ac), 0) := by rw [hrn, if_neg ‹_›])
  refine DK.seq ?_
  refine DK.region (is := [0, 1, 2]) (by kernel_rfl) rfl ?_
  refine WK.run (rest := []) [0, 1, 2] (by simp [m0, m1, m2, m3, qq, hs0, hs1]; constructor <;> rfl) ?_
  refine WK.nil ?_
  first
    | (refine DK.abs (fun M6 => AtM H [({ a with cr := cx, an := nx, pl := n, ix := 0 } : Ac).l s1, f.l, t.l, ({ a with cr := cx, an := nx, pl := n, ix := 0 } : Ac).l s1] M6 ∧ OpenAt M6 s1 a.op) ⟨hM.set (i := 3) (by simp) _, hO.set (hF.ne (by omega)) _⟩ ?_
       try clear hM
       try clear hO
       rintro M6 ⟨hM, hO⟩
       replace m0 := hM.own 0 (by simp)
       replace m1 := hM.own 1 (by simp)
       replace m2 := hM.own 2 (by simp)
       replace m3 := hM.own 3 (by simp)
       simp only [List.getElem_cons_zero, List.getElem_cons_succ, Nat.add_zero] at m0 m1 m2 m3
       replace qq := hM.q4
       replace hs0 := hO.cells.1
       replace hs1 := hO.cells.2)
    | (refine DK.abs (fun M6 => AtM H [({ a with pl := n, ix := 0 } : Ac).l s1, f.l, t.l, ({ a with pl := n, ix := 0 } : Ac).l s1] M6 ∧ OpenAt M6 s1 a.op) ⟨hM.set (i := 3) (by simp) _, hO.set (hF.ne (by omega)) _⟩ ?_
       try clear hM
       try clear hO
       rintro M6 ⟨hM, hO⟩
       replace m0 := hM.own 0 (by simp)
       replace m1 := hM.own 1 (by simp)
       replace m2 := hM.own 2 (by simp)
       replace m3 := hM.own 3 (by simp)
       simp only [List.getElem_cons_zero, List.getElem_cons_succ, Nat.add_zero] at m0 m1 m2 m3
       replace qq := hM.q4
       replace hs0 := hO.cells.1
       replace hs1 := hO.cells.2)
  refine DK.ret ?_
  refine And.intro (Or.inr rfl) ?_
  refine ⟨_, by simp [absAnswer, absResults, absResult, Tryd.f66, m0, m1, m2, m3, qq, hs0, hs1]; rfl, ?_⟩
  exact ⟨_, by rw [hres]; rfl, hM.keep.ext, by rw [hres]; exact hO, hF.le (by omega)⟩
end Go.Den
set_option linter.unusedVariables false
set_option maxRecDepth 100000
namespace Go.Den
open Go Go.Proofs
variable {α : Type} [Cel α]
theorem Own.app {H : Mem} {s : Value} (h : Own H s) (r : Mem) : Own (H ++ r) s := h.keep (Keep.app _ _)
theorem RowAt.apps {H : Mem} {s : Value} {l : List α} (h : RowAt H s l) (r : Mem) : RowAt (H ++ r) s l := h.keep (Keep.app _ _)
theorem AtM.frn {H M M2 : Mem} {bs : List (List Value)} {s : Value} (h : AtM H bs M) (hf : Fr M s M2) (hs : New (H.length + bs.length) s) : AtM H bs M2 :=
  ⟨⟨Nat.le_trans h.keep.1 hf.1, fun k hk => (hf.2 k (Nat.lt_of_lt_of_le hk h.keep.1) (hs.ne (by omega))).trans (h.keep.2 k hk)⟩, fun j hj => (hf.2 _ (h.lt hj) (hs.ne (by omega))).trans (h.own j hj)⟩
theorem Keep.frn {H H' H'' : Mem} {s : Value} (h : Keep H H') (hf : Fr H' s H'') (hs : New H.length s) : Keep H H'' :=
  ⟨Nat.le_trans h.1 hf.1, fun k hk => (hf.2 k (Nat.lt_of_lt_of_le hk h.1) (hs.ne hk)).trans (h.2 k hk)⟩
theorem OpenAt.frn {H H' : Mem} {s s2 : Value} {l : List Cy} (h : OpenAt H s l) (hf : Fr H s2 H') (hs : ∀ b, blkOf s = some b → blkOf s2 ≠ some b) : OpenAt H' s l := by
  rcases h with h | ⟨b, h1, h2⟩
  · exact .inl h
  · exact .inr ⟨b, h1, (hf.2 b (List.getElem?_eq_some_iff.1 h2).1 (hs b (by rw [h1]; rfl))).trans h2⟩
theorem RowAt.app1 {P : Program} {H : Mem} {s : Value} {l : List α} (hs : RowAt H s l) (hw : Own H s) (a : α) {T e : Nat} {i : TypeInfo} {z : Value} (hu : P.underlying T = some (.slice e)) (hi : P.info? e = some i) (hk : i.size = Cel.k α) (hz : i.zero = some z) (hzc : z.cells.size = Cel.k α) (hb : i.bytes ≤ 10000) (hn : l.length ≤ 1000000000 ∨ i.bytes ≤ 1 ∧ l.length ≤ 10000000000000) :
    ∃ s' H', absAppend P (H ++ [.cells false (Cel.f a)]) #[T, T] s (.slice (some ⟨H.length, 0, none⟩) 1 (Cel.k α)) = some (s', H') ∧ RowAt H' s' (l ++ [a]) ∧ Own H' s' ∧ Fr H s H' ∧ New H.length s' := by
  have hx : RowAt (H ++ [.cells false (Cel.f a)]) (.slice (some ⟨H.length, 0, none⟩) 1 (Cel.k α)) [a] := RowAt.all (l := [a]) (ro := false) (by simp [rowV_one])
  obtain ⟨s', H', h1, h2, h3, h4, _, h6⟩ := RowAt.appB (hs.apps _) (hw.app _) hx hu hi hk hz hzc (by simp; omega) (by
    rcases hn with q | ⟨q, q'⟩
    · exact Nat.le_trans (Nat.mul_le_mul (show _ ≤ 1000000001 by simp; omega) hb) (by decide)
    · exact Nat.le_trans (Nat.mul_le_mul (show _ ≤ 10000000000001 by simp; omega) q) (by decide))
  exact ⟨s', H', h1, h2, h3, h4.of_app, (h6 (by simp)).le (by simp)⟩
end Go.Den
namespace Go.Den
open Go Go.Proofs
set_option maxRecDepth 100000
set_option maxHeartbeats 1000000
set_option linter.all false
attribute [local simp] evOps evOp absOp absBox absAlloc absLoad absStore absField absIndexAddr absCells absBinOp absBin absInt absShift absUn absPick absNil absExtract absBuild absPlaces Instr.fill absBuiltin absMinMax plainV plainT allA flat cells_agg cells_int cells_bool cells_str cells_ptr cells_sl cells_map one_int one_bool one_str one_ptr one_sl one_map Act.eval Act.put Region.wanted yielded splice absCall TypeDesc.isRow
theorem byt46 : I46.bytes ≤ 10000 := by
  have e : I46.bytes = 48 := by kernel_rfl
  rw [e]; decide
@[simp] theorem bsNt (H : Mem) (a0 a1 a2 a3 a4 a5 : Value) : absBuildSlice Tryd.prog H 52 1 [(0, .agg #[a0, a1, a2, a3, a4, a5])] = some (.slice (some ⟨H.length, 0, none⟩) 1 6, H ++ [.cells false [a0, a1, a2, a3, a4, a5]]) := by
  unfold absBuildSlice
  simp only [Tryd.underlying52, inf46, ze46, sz46]
  simp [allA, flat, cells_agg, madeCells, Instr.fill]
  rfl
theorem app1Nt {H : Mem} {s : Value} {l : List Nt} (hs : RowAt H s l) (hw : Own H s) (a : Nt) (hn : l.length ≤ 1000000000) :
    ∃ s' H', absAppend Tryd.prog (H ++ [.cells false (Cel.f a)]) #[52, 52] s (.slice (some ⟨H.length, 0, none⟩) 1 6) = some (s', H') ∧ RowAt H' s' (l ++ [a]) ∧ Own H' s' ∧ Fr H s H' ∧ New H.length s' :=
  RowAt.app1 hs hw a Tryd.underlying52 inf46 sz46 ze46 rfl byt46 (.inl hn)
theorem appNt {H : Mem} {s x : Value} {l r : List Nt} (hs : RowAt H s l) (hw : Own H s) (hx : RowAt H x r) (hn : l.length + r.length ≤ 10000000000) :
    ∃ s' H', absAppend Tryd.prog H #[52, 52] s x = some (s', H') ∧ RowAt H' s' (l ++ r) ∧ Own H' s' ∧ Fr H s H' ∧ (s' = s ∨ New H.length s') ∧ (r ≠ [] → New H.length s') :=
  RowAt.app hs hw hx Tryd.underlying52 inf46 sz46 ze46 rfl byt46 hn
theorem lenNt {H : Mem} {s : Value} {l : List Nt} (h : RowAt H s l) (K : Mem) : absLen Tryd.prog K 52 s = some (.int .i64 l.length) := h.len Tryd.underlying52 K
theorem byt44 : I44.bytes ≤ 10000 := by
  have e : I44.bytes = 40 := by kernel_rfl
  rw [e]; decide
@[simp] theorem bsPl (H : Mem) (a0 a1 a2 a3 a4 a5 : Value) : absBuildSlice Tryd.prog H 27 1 [(0, .agg #[a0, a1, a2, a3, a4, a5])] = some (.slice (some ⟨H.length, 0, none⟩) 1 6, H ++ [.cells false [a0, a1, a2, a3, a4, a5]]) := by
  unfold absBuildSlice
  simp only [Tryd.underlying27, inf44, ze44, sz44]
  simp [allA, flat, cells_agg, madeCells, Instr.fill]
  rfl
theorem appPl {H : Mem} {s x : Value} {l r : List Pl} (hs : RowAt H s l) (hw : Own H s) (hx : RowAt H x r) (hn : l.length + r.length ≤ 10000000000) :
    ∃ s' H', absAppend Tryd.prog H #[27, 27] s x = some (s', H') ∧ RowAt H' s' (l ++ r) ∧ Own H' s' ∧ Fr H s H' ∧ (s' = s ∨ New H.length s') ∧ (r ≠ [] → New H.length s') :=
  RowAt.app hs hw hx Tryd.underlying27 inf44 sz44 ze44 rfl byt44 hn
theorem lenPl {H : Mem} {s : Value} {l : List Pl} (h : RowAt H s l) (K : Mem) : absLen Tryd.prog K 27 s = some (.int .i64 l.length) := h.len Tryd.underlying27 K
@[simp] theorem bsPlL (H : Mem) (a0 a1 a2 a3 a4 a5 : Value) : absBuildSlice Tryd.prog H 26 1 [(0, .agg #[a0, a1, a2, a3, a4, a5])] = some (.slice (some ⟨H.length, 0, none⟩) 1 6, H ++ [.cells false [a0, a1, a2, a3, a4, a5]]) := by
  unfold absBuildSlice
  simp only [Tryd.underlying26, inf44, ze44, sz44]
  simp [allA, flat, cells_agg, madeCells, Instr.fill]
  rfl
@[simp] theorem bsBy (H : Mem) (a : Int) : absBuildSlice Tryd.prog H 72 1 [(0, .int .u8 a)] = some (.slice (some ⟨H.length, 0, none⟩) 1 1, H ++ [.cells false [.int .u8 a]]) := by
  unfold absBuildSlice
  simp only [Tryd.underlying72, inf5, ze5, sz5]
  simp [allA, flat, cells_agg, madeCells, Instr.fill]
  try rfl
@[simp] theorem bsCy (H : Mem) (a0 a1 a2 a3 a4 a5 a6 a7 : Value) : absBuildSlice Tryd.prog H 28 1 [(0, .agg #[a0, a1, a2, a3, a4, a5, a6, a7])] = some (.slice (some ⟨H.length, 0, none⟩) 1 8, H ++ [.cells false [a0, a1, a2, a3, a4, a5, a6, a7]]) := by
  unfold absBuildSlice
  simp only [Tryd.underlying28, inf67, ze67, sz67]
  simp [allA, flat, cells_agg, madeCells, Instr.fill]
  rfl
@[simp] theorem bsPe (H : Mem) (a0 a1 a2 a3 a4 a5 a6 a7 : Value) : absBuildSlice Tryd.prog H 37 1 [(0, .agg #[a0, a1, a2, a3, a4, a5, a6, a7])] = some (.slice (some ⟨H.length, 0, none⟩) 1 8, H ++ [.cells false [a0, a1, a2, a3, a4, a5, a6, a7]]) := by
  unfold absBuildSlice
  simp only [Tryd.underlying37, inf66, ze66, sz66]
  simp [allA, flat, cells_agg, madeCells, Instr.fill]
  rfl
@[simp] theorem bsWd (H : Mem) (a : Int) : absBuildSlice Tryd.prog H 103 1 [(0, .int .i64 a)] = some (.slice (some ⟨H.length, 0, none⟩) 1 1, H ++ [.cells false [.int .i64 a]]) := by
  unfold absBuildSlice
  simp only [Tryd.underlying103, inf2, ze2, sz2]
  simp [allA, flat, cells_agg, madeCells, Instr.fill]
  try rfl
end Go.Den
set_option linter.unusedVariables false
set_option maxRecDepth 100000
namespace Go.Den
open Go Go.Proofs
theorem asks_g (su : Int) (c : Cy) (H : Mem) : FSem Tryd.prog [0] 52 #[.int .i64 su, c.v] H fun v H' => ∃ n ok, v = .tuple #[Nt.v n, .bool ok] ∧ asksC su c = (n, ok) ∧ H' = H := by
  refine FSem.mono (asks_s su c H) ?_
  rintro v H' ⟨rfl, rfl⟩
  exact ⟨_, _, rfl, rfl, rfl⟩
def asksL (su : Int) (l : List Cy) : List Nt := l.filterMap (fun c => if (asksC su c).2 then some (asksC su c).1 else none)
theorem asksL_take {su : Int} {l : List Cy} {i : Nat} (h : i < l.length) {n : Nt} {ok : Bool} (hc : asksC su l[i] = (n, ok)) : asksL su (l.take (i + 1)) = asksL su (l.take i) ++ (if ok then [n] else []) := by
  unfold asksL
  rw [List.take_succ_eq_append_getElem h, List.filterMap_append]
  congr 1
  simp only [List.filterMap_cons, hc, List.filterMap_nil]
  cases ok <;> rfl
theorem asksL_len (su : Int) (l : List Cy) : (asksL su l).length ≤ l.length := List.length_filterMap_le _ _
theorem asksA_eq (su : Int) (a : Ac) : asksA su a = asksL su a.op := rfl
theorem OpenAt.lt {H : Mem} {s : Value} {l : List Cy} (h : OpenAt H s l) {b : Nat} (hb : blkOf s = some b) : b < H.length := by
  rcases h with ⟨rfl, _⟩ | ⟨b', rfl, h2⟩
  · cases hb
  · cases hb; exact (List.getElem?_eq_some_iff.1 h2).1
theorem RowAt.lt {α : Type} [Cel α] {H : Mem} {s : Value} {l : List α} (h : RowAt H s l) {b : Nat} (hb : blkOf s = some b) : b < H.length := by
  rcases h with ⟨rfl, _⟩ | ⟨b', o, ro, vs, rfl, h2, _⟩
  · cases hb
  · cases hb; exact (List.getElem?_eq_some_iff.1 h2).1
def RowOut {α : Type} [Cel α] (H : Mem) (l : List α) (v : Value) (H' : Mem) : Prop := (∃ r, H' = H ++ r) ∧ RowAt H' v l ∧ Own H' v ∧ New H.length v
end Go.Den
namespace Go.Den
open Go Go.Proofs
set_option maxRecDepth 100000
set_option maxHeartbeats 1000000
set_option linter.all false
attribute [local simp] evOps evOp absOp absBox absAlloc absLoad absStore absField absIndexAddr absCells absBinOp absBin absInt absShift absUn absPick absNil absExtract absBuild absPlaces Instr.fill absBuiltin absMinMax plainV plainT allA flat cells_agg cells_int cells_bool cells_str cells_ptr cells_sl cells_map one_int one_bool one_str one_ptr one_sl one_map Act.eval Act.put Region.wanted yielded splice absCall TypeDesc.isRow
theorem aasks_s (su : Int) (a : Ac) {s : Value} {H : Mem} (hO : OpenAt H s a.op) (hn : a.op.length ≤ 1000000000) : FSem Tryd.prog [0] 25 #[.int .i64 su, a.v s] H fun v H' => RowOut H (asksA su a) v H' := by
  refine FSem.ofK Tryd.func25 rfl ?_
  refine DK.from (b' := ⟨#[.int .i64 su, a.v s, undef, undef, undef, undef, undef, undef, undef, undef, undef, undef, undef, undef, undef, undef, undef, undef, undef, undef, undef, undef, undef, undef, undef, undef, undef, undef, undef, undef], []⟩) (by kernel_rfl) ?_
  have m0 := True.intro
  have qq := True.intro
  have hs0 := True.intro
  have hs1 := True.intro
  have hll := True.intro
  have hb := True.intro
  have hwr := True.intro
  have hi9 := True.intro
  have hlt := True.intro
  have hge := True.intro
  have hle := True.intro
  have hcc := True.intro
  have hcx := True.intro
  have hls := True.intro
  have happ := True.intro
  have hr0 := True.intro
  have hr1 := True.intro
  have hOs := hO
  refine DK.seq ?_
  refine DK.region (is := [0, 1]) (by kernel_rfl) rfl ?_
  refine WK.run (rest := []) [0, 1] (by simp [m0, qq, hs0, hs1, hll, hb, hwr, hi9, hlt, hge, hle, hcc, hcx, hls, happ, hr0, hr1, Cy.cells]; constructor <;> rfl) ?_
  refine WK.nil ?_
  refine DK.abs (fun M0 => AtM H [a.l s] M0 ∧ OpenAt M0 s a.op) ⟨AtM.start H [] [_], hO.app _⟩ ?_
  try clear hM
  try clear hO
  rintro M0 ⟨hM, hO⟩
  replace m0 := hM.own 0 (by simp)
  simp only [List.getElem_cons_zero, List.getElem_cons_succ, Nat.add_zero] at m0
  replace qq := hM.q1
  replace hs0 := hO.cells.1
  replace hs1 := hO.cells.2
  replace hls := hO.lenK
  refine DK.seq ?_
  refine DK.region (is := [0]) (by kernel_rfl) rfl ?_
  refine WK.run (rest := []) [0] (by simp [m0, qq, hs0, hs1, hll, hb, hwr, hi9, hlt, hge, hle, hcc, hcx, hls, happ, hr0, hr1, Cy.cells]; constructor <;> rfl) ?_
  refine WK.nil ?_
  refine DK.seq ?_
  refine DK.seq ?_
  refine DK.region (is := [0, 1, 2, 3]) (by kernel_rfl) rfl ?_
  refine WK.run (rest := []) [0, 1, 2, 3] (by simp [m0, qq, hs0, hs1, hll, hb, hwr, hi9, hlt, hge, hle, hcc, hcx, hls, happ, hr0, hr1, Cy.cells]; constructor <;> rfl) ?_
  refine WK.nil ?_
  refine DK.block ?_
  refine DK.loopG [5, 7, 8, 9, 13, 14, 15, 16, 17, 18, 19, 20, 21, 22, 23, 24, 25, 26, 27, 28] (fun fl vs H' => ∃ (i : Int) (l5 : Value) (j7 j8 j9 j14 j15 j16 j17 j18 j19 j20 j21 j22 j23 j24 j25 j26 j27 j28 : Value), vs = [l5, j7, j8, j9, .int .i64 i, j14, j15, j16, j17, j18, j19, j20, j21, j22, j23, j24, j25, j26, j27, j28] ∧ (AtM H [a.l s] H' ∧ OpenAt H' s a.op ∧ RowAt H' l5 (asksL su (a.op.take i.toNat)) ∧ Own H' l5 ∧ New (H.length + 1) l5) ∧ 0 ≤ i ∧ i ≤ a.op.length ∧ fl = (a.op.length - i).toNat) (a.op.length) (by kernel_rfl) ?_ ?_
  · refine ⟨_, _, _, _, _, _, _, _, _, _, _, _, _, _, _, _, _, _, _, _, rfl, ?_⟩
    exact ⟨⟨hM, hO, RowAt.nil _, Own.nil _ _ _, New.nil _ _ _⟩, by omega, by omega, by omega⟩
  rintro fl _ M ⟨i, l5, j7, j8, j9, j14, j15, j16, j17, j18, j19, j20, j21, j22, j23, j24, j25, j26, j27, j28, rfl, hf⟩
  try clear hM
  try clear hO
  obtain ⟨⟨hM, hO, hR, hW, hN⟩, hi0, hi1, hfl⟩ := hf
  replace m0 := hM.own 0 (by simp)
  simp only [List.getElem_cons_zero, List.getElem_cons_succ, Nat.add_zero] at m0
  replace qq := hM.q1
  replace hs0 := hO.cells.1
  replace hs1 := hO.cells.2
  replace hr0 := hR.cells.1
  replace hr1 := hR.cells.2
  refine DK.from (by simp [setL]; exact rfl) ?_
  refine DK.seq ?_
  refine DK.region (is := [0]) (by kernel_rfl) rfl ?_
  refine WK.run (rest := []) [0] (by simp [m0, qq, hs0, hs1, hll, hb, hwr, hi9, hlt, hge, hle, hcc, hcx, hls, happ, hr0, hr1, Cy.cells]; constructor <;> rfl) ?_
  refine WK.nil ?_
  refine DK.seq ?_
  refine DK.test rfl rfl (fun h => ?_) (fun h => ?_)
  · try simp only [h]
    replace h := Tr.out h
    replace hi9 : 0 ≤ i := hi0
    replace hwr : IntKind.i64.wrap (i + 1) = i + 1 := wrap_in _ (by omega) (by omega)
    replace hlt : i < a.op.length := h
    have hil : i.toNat < a.op.length := by omega
    clear hb; obtain ⟨b, rfl, hb⟩ := hO.blk (by omega)
    replace hge := cys_get hil
    replace hle : i.toNat * 8 + 8 ≤ a.op.length * 8 := by omega
    refine DK.skip ?_
    refine DK.seq ?_
    refine DK.block ?_
    refine DK.seq ?_
    refine DK.region (is := [0, 1, 2, 3]) (by kernel_rfl) rfl ?_
    refine WK.run (rest := []) [0, 1, 2, 3] (by simp [m0, qq, hs0, hs1, hll, hb, hwr, hi9, hlt, hge, hle, hcc, hcx, hls, happ, hr0, hr1, Cy.cells]; constructor <;> rfl) ?_
    refine WK.nil ?_
    refine DK.abs (fun MA => AtM H [a.l (.slice (some ⟨b, 0, none⟩) a.op.length 8)] MA ∧ OpenAt MA (.slice (some ⟨b, 0, none⟩) a.op.length 8) a.op ∧ MA[M.length]? = some (.cells false a.op[i.toNat].l) ∧ RowAt MA l5 (asksL su (a.op.take i.toNat)) ∧ Own MA l5) ⟨hM.on (Keep.app _ _), hO.app _, by simp, hR.apps _, hW.app _⟩ ?_
    try clear hM
    try clear hO
    rintro MA ⟨hM, hO, hcc, hR, hW⟩
    replace m0 := hM.own 0 (by simp)
    simp only [List.getElem_cons_zero, List.getElem_cons_succ, Nat.add_zero] at m0
    replace qq := hM.q1
    replace hs0 := hO.cells.1
    replace hs1 := hO.cells.2
    refine DK.seq ?_
    refine DK.region (is := [0, 1, 2, 3, 4, 5, 6, 7, 8]) (by kernel_rfl) rfl ?_
    refine WK.run (rest := [2, 3, 4, 5, 6, 7, 8]) [0, 1] (by simp [m0, qq, hs0, hs1, hll, hb, hwr, hi9, hlt, hge, hle, hcc, hcx, hls, happ, hr0, hr1, Cy.cells]; constructor <;> rfl) ?_
    refine WK.call rfl (by simp [m0, qq, hs0, hs1, hll, hb, hwr, hi9, hlt, hge, hle, hcc, hcx, hls, happ, hr0, hr1, Cy.cells]) (by simp [Tryd.func52, Tryd.f52, m0, qq, hs0, hs1, hll, hb, hwr, hi9, hlt, hge, hle, hcc, hcx, hls, happ, hr0, hr1, Cy.cells]; constructor <;> rfl) ?_
    refine FSem.mono (asks_g su (a.op[i.toNat]) _) ?_
    rintro _ Hq ⟨n, ok, rfl, hac, hq⟩
    replace hq := hq.symm
    subst hq
    refine WK.run (rest := []) [3, 4, 5, 6, 7, 8] (by simp [m0, qq, hs0, hs1, hll, hb, hwr, hi9, hlt, hge, hle, hcc, hcx, hls, happ, hr0, hr1, Cy.cells]; constructor <;> rfl) ?_
    refine WK.nil ?_
    refine DK.abs (fun MB => AtM H [a.l (.slice (some ⟨b, 0, none⟩) a.op.length 8)] MB ∧ OpenAt MB (.slice (some ⟨b, 0, none⟩) a.op.length 8) a.op ∧ MB[MA.length]? = some (.cells false n.l) ∧ RowAt MB l5 (asksL su (a.op.take i.toNat)) ∧ Own MB l5) ⟨hM.on (Keep.app _ _), hO.app _, by simp, hR.apps _, hW.app _⟩ ?_
    try clear hM
    try clear hO
    rintro MB ⟨hM, hO, hcx, hR, hW⟩
    replace m0 := hM.own 0 (by simp)
    simp only [List.getElem_cons_zero, List.getElem_cons_succ, Nat.add_zero] at m0
    replace qq := hM.q1
    replace hs0 := hO.cells.1
    replace hs1 := hO.cells.2
    have hlen := asksL_len su (a.op.take i.toNat)
    simp at hlen
    have htk := asksL_take hil hac
    refine DK.seq ?_
    refine DK.region (is := [0]) (by kernel_rfl) rfl ?_
    refine WK.run (rest := []) [0] (by simp [m0, qq, hs0, hs1, hll, hb, hwr, hi9, hlt, hge, hle, hcc, hcx, hls, happ, hr0, hr1, Cy.cells]; constructor <;> rfl) ?_
    refine WK.nil ?_
    refine DK.test rfl rfl (fun h => ?_) (fun h => ?_)
    · try simp only [h]
      replace h := Tr.out h
      have hok := h
      obtain ⟨l6, MC, ha6, hR6, hW6, hf6, hN6⟩ := app1Nt hR hW n (by omega)
      replace happ := ha6
      simp only [Cel.f, Nt.l] at happ
      refine DK.region (is := [0, 1, 2, 3, 4]) (by kernel_rfl) rfl ?_
      refine WK.run (rest := []) [0, 1, 2, 3, 4] (by simp [m0, qq, hs0, hs1, hll, hb, hwr, hi9, hlt, hge, hle, hcc, hcx, hls, happ, hr0, hr1, Cy.cells]; constructor <;> rfl) ?_
      refine WK.nil ?_
      refine DK.region (is := [0, 1]) (by kernel_rfl) rfl ?_
      refine WK.run (rest := []) [0, 1] (by simp [m0, qq, hs0, hs1, hll, hb, hwr, hi9, hlt, hge, hle, hcc, hcx, hls, happ, hr0, hr1, Cy.cells]; constructor <;> rfl) ?_
      refine WK.nil ?_
      refine ⟨by kernel_rfl, (a.op.length - (i + 1)).toNat, ?_, _, _, _, _, _, _, _, _, _, _, _, _, _, _, _, _, _, _, _, _, rfl, ?_⟩
      · omega
      · rw [show (i + 1).toNat = i.toNat + 1 by omega, htk]
        refine ⟨⟨hM.frn hf6 hN, hO.frn hf6 (fun c hc e => ?_), by simpa [hok] using hR6, hW6, hN6.le (hM.lt (i := 0) (by simp))⟩, by omega, by omega, rfl⟩
        have := hOs.lt hc; have := hN c e; omega
    try simp only [h]
    replace h := Fa.out h
    have hok := h
    refine DK.skip ?_
    refine DK.region (is := [0, 1]) (by kernel_rfl) rfl ?_
    refine WK.run (rest := []) [0, 1] (by simp [m0, qq, hs0, hs1, hll, hb, hwr, hi9, hlt, hge, hle, hcc, hcx, hls, happ, hr0, hr1, Cy.cells]; constructor <;> rfl) ?_
    refine WK.nil ?_
    refine ⟨by kernel_rfl, (a.op.length - (i + 1)).toNat, ?_, _, _, _, _, _, _, _, _, _, _, _, _, _, _, _, _, _, _, _, _, rfl, ?_⟩
    · omega
    · rw [show (i + 1).toNat = i.toNat + 1 by omega, htk]
      exact ⟨⟨hM, hO, by simpa [hok] using hR, hW, hN⟩, by omega, by omega, rfl⟩
  try simp only [h]
  replace h := Fa.out h
  refine DK.exit ?_
  refine DK.seq ?_
  refine DK.region (is := [0, 1]) (by kernel_rfl) rfl ?_
  refine WK.run (rest := []) [0, 1] (by simp [m0, qq, hs0, hs1, hll, hb, hwr, hi9, hlt, hge, hle, hcc, hcx, hls, happ, hr0, hr1, Cy.cells]; constructor <;> rfl) ?_
  refine WK.nil ?_
  refine DK.ret ?_
  refine And.intro (Or.inr rfl) ?_
  refine ⟨_, by simp [absAnswer, absResults, absResult, Tryd.f25]; rfl, ?_⟩
  have hi : i = a.op.length := by omega
  subst hi
  refine ⟨hM.keep.ext, ?_, hW, hN.le (by omega)⟩
  rw [asksA_eq]; simpa using hR
end Go.Den
namespace Go.Den
open Go Go.Proofs
set_option maxRecDepth 100000
set_option maxHeartbeats 1000000
set_option linter.all false
structure Od where
  (kd su pl n : Int) (p : Pl) (a : Nt)
deriving DecidableEq
@[simp] def Od.l (o : Od) : List Value := [.int .u8 o.kd, .int .i64 o.su, .int .i64 o.pl, .int .i64 o.n, .int .i64 o.p.pr, .int .u8 o.p.un, .int .i64 o.p.ev, .int .i64 o.p.tr, .bool o.p.go, .bool o.p.la, .int .u8 o.a.kd, .int .i64 o.a.su, .int .i64 o.a.cy, .int .i64 o.a.tr, .int .i64 o.a.am, .int .u8 o.a.ve]
@[simp] def Od.v (o : Od) : Value := .agg #[.int .u8 o.kd, .int .i64 o.su, .int .i64 o.pl, .int .i64 o.n, .int .i64 o.p.pr, .int .u8 o.p.un, .int .i64 o.p.ev, .int .i64 o.p.tr, .bool o.p.go, .bool o.p.la, .int .u8 o.a.kd, .int .i64 o.a.su, .int .i64 o.a.cy, .int .i64 o.a.tr, .int .i64 o.a.am, .int .u8 o.a.ve]
instance : Cel Od := ⟨Od.l, 16, fun _ => rfl, fun _ => rfl, by decide⟩
structure Sm where
  (dn up rf sp pd : Int)
deriving DecidableEq
@[simp] def Sm.v (s : Sm) : Value := .agg #[.int .i64 s.dn, .int .i64 s.up, .int .i64 s.rf, .int .i64 s.sp, .int .i64 s.pd]
theorem stiPl : Tryd.prog.stoodInHeld 44 = false := by kernel_rfl
@[simp] theorem egiPl : Tryd.prog.eqGuardType Tryd.prog.depth 44 = false := by kernel_rfl
theorem eqdPl (d : Nat) (x y : Pl) : absEq Tryd.prog (d + 3) 44 x.v y.v = some (decide (x = y)) := by
  obtain ⟨a0, a1, a2, a3, a4, a5⟩ := x
  obtain ⟨b0, b1, b2, b3, b4, b5⟩ := y
  simp only [Pl.v]
  rw [show d + 3 = (d + 2) + 1 from rfl, absEq_s Tryd.underlying44 stiPl]
  have e1 : ∀ (x y : Int), absEq Tryd.prog (d + 2) 5 (.int .u8 x) (.int .u8 y) = some (decide (x = y)) := fun x y => absEq_i (d := d + 1) Tryd.underlying5
  have e2 : ∀ (x y : Int), absEq Tryd.prog (d + 2) 3 (.int .i64 x) (.int .i64 y) = some (decide (x = y)) := fun x y => absEq_i (d := d + 1) Tryd.underlying3
  have e3 : ∀ (x y : Int), absEq Tryd.prog (d + 2) 2 (.int .i64 x) (.int .i64 y) = some (decide (x = y)) := fun x y => absEq_i (d := d + 1) Tryd.underlying2
  have e4 : ∀ (x y : Bool), absEq Tryd.prog (d + 2) 4 (.bool x) (.bool y) = some (decide (x = y)) := fun x y => absEq_b (d := d + 1) Tryd.underlying4
  simp only [absEqFields, absPart, inf2, sz2, Tryd.underlying2, inf3, sz3, Tryd.underlying3, inf4, sz4, Tryd.underlying4, inf5, sz5, Tryd.underlying5, TypeDesc.isRow]
  by_cases h : a0 = b0
  rotate_left
  · simp [e1, e2, e3, e4, h]
  subst h
  by_cases h : a1 = b1
  rotate_left
  · simp [e1, e2, e3, e4, h]
  subst h
  by_cases h : a2 = b2
  rotate_left
  · simp [e1, e2, e3, e4, h]
  subst h
  by_cases h : a3 = b3
  rotate_left
  · simp [e1, e2, e3, e4, h]
  subst h
  by_cases h : a4 = b4
  rotate_left
  · simp [e1, e2, e3, e4, h]
  subst h
  by_cases h : a5 = b5
  rotate_left
  · simp [e1, e2, e3, e4, h]
  subst h
  simp [e1, e2, e3, e4]
@[simp] theorem eqiPl (x1 x2 x3 x4 y1 y2 y3 y4 : Int) (x5 x6 y5 y6 : Bool) : absEq Tryd.prog 10000 44 (.agg #[.int .i64 x1, .int .u8 x2, .int .i64 x3, .int .i64 x4, .bool x5, .bool x6]) (.agg #[.int .i64 y1, .int .u8 y2, .int .i64 y3, .int .i64 y4, .bool y5, .bool y6]) = some (decide ((⟨x1, x2, x3, x4, x5, x6⟩ : Pl) = ⟨y1, y2, y3, y4, y5, y6⟩)) := eqdPl 9997 ⟨x1, x2, x3, x4, x5, x6⟩ ⟨y1, y2, y3, y4, y5, y6⟩
theorem stiNt : Tryd.prog.stoodInHeld 46 = false := by kernel_rfl
theorem eqdNt (d : Nat) (x y : Nt) : absEq Tryd.prog (d + 3) 46 x.v y.v = some (decide (x = y)) := by
  obtain ⟨a0, a1, a2, a3, a4, a5⟩ := x
  obtain ⟨b0, b1, b2, b3, b4, b5⟩ := y
  simp only [Nt.v]
  rw [show d + 3 = (d + 2) + 1 from rfl, absEq_s Tryd.underlying46 stiNt]
  have e1 : ∀ (x y : Int), absEq Tryd.prog (d + 2) 5 (.int .u8 x) (.int .u8 y) = some (decide (x = y)) := fun x y => absEq_i (d := d + 1) Tryd.underlying5
  have e2 : ∀ (x y : Int), absEq Tryd.prog (d + 2) 3 (.int .i64 x) (.int .i64 y) = some (decide (x = y)) := fun x y => absEq_i (d := d + 1) Tryd.underlying3
  have e3 : ∀ (x y : Int), absEq Tryd.prog (d + 2) 2 (.int .i64 x) (.int .i64 y) = some (decide (x = y)) := fun x y => absEq_i (d := d + 1) Tryd.underlying2
  have e4 : ∀ (x y : Bool), absEq Tryd.prog (d + 2) 4 (.bool x) (.bool y) = some (decide (x = y)) := fun x y => absEq_b (d := d + 1) Tryd.underlying4
  simp only [absEqFields, absPart, inf2, sz2, Tryd.underlying2, inf3, sz3, Tryd.underlying3, inf5, sz5, Tryd.underlying5, TypeDesc.isRow]
  by_cases h : a0 = b0
  rotate_left
  · simp [e1, e2, e3, e4, h]
  subst h
  by_cases h : a1 = b1
  rotate_left
  · simp [e1, e2, e3, e4, h]
  subst h
  by_cases h : a2 = b2
  rotate_left
  · simp [e1, e2, e3, e4, h]
  subst h
  by_cases h : a3 = b3
  rotate_left
  · simp [e1, e2, e3, e4, h]
  subst h
  by_cases h : a4 = b4
  rotate_left
  · simp [e1, e2, e3, e4, h]
  subst h
  by_cases h : a5 = b5
  rotate_left
  · simp [e1, e2, e3, e4, h]
  subst h
  simp [e1, e2, e3, e4]
theorem stiCy : Tryd.prog.stoodInHeld 67 = false := by kernel_rfl
@[simp] theorem egiCy : Tryd.prog.eqGuardType Tryd.prog.depth 67 = false := by kernel_rfl
theorem eqdCy (d : Nat) (x y : Cy) : absEq Tryd.prog (d + 3) 67 x.v y.v = some (decide (x = y)) := by
  obtain ⟨a0, a1, a2, a3, a4, a5, a6, a7⟩ := x
  obtain ⟨b0, b1, b2, b3, b4, b5, b6, b7⟩ := y
  simp only [Cy.v]
  rw [show d + 3 = (d + 2) + 1 from rfl, absEq_s Tryd.underlying67 stiCy]
  have e1 : ∀ (x y : Int), absEq Tryd.prog (d + 2) 5 (.int .u8 x) (.int .u8 y) = some (decide (x = y)) := fun x y => absEq_i (d := d + 1) Tryd.underlying5
  have e2 : ∀ (x y : Int), absEq Tryd.prog (d + 2) 3 (.int .i64 x) (.int .i64 y) = some (decide (x = y)) := fun x y => absEq_i (d := d + 1) Tryd.underlying3
  have e3 : ∀ (x y : Int), absEq Tryd.prog (d + 2) 2 (.int .i64 x) (.int .i64 y) = some (decide (x = y)) := fun x y => absEq_i (d := d + 1) Tryd.underlying2
  have e4 : ∀ (x y : Bool), absEq Tryd.prog (d + 2) 4 (.bool x) (.bool y) = some (decide (x = y)) := fun x y => absEq_b (d := d + 1) Tryd.underlying4
  simp only [absEqFields, absPart, inf2, sz2, Tryd.underlying2, inf3, sz3, Tryd.underlying3, inf4, sz4, Tryd.underlying4, inf5, sz5, Tryd.underlying5, TypeDesc.isRow]
  by_cases h : a0 = b0
  rotate_left
  · simp [e1, e2, e3, e4, h]
  subst h
  by_cases h : a1 = b1
  rotate_left
  · simp [e1, e2, e3, e4, h]
  subst h
  by_cases h : a2 = b2
  rotate_left
  · simp [e1, e2, e3, e4, h]
  subst h
  by_cases h : a3 = b3
  rotate_left
  · simp [e1, e2, e3, e4, h]
  subst h
  by_cases h : a4 = b4
  rotate_left
  · simp [e1, e2, e3, e4, h]
  subst h
  by_cases h : a5 = b5
  rotate_left
  · simp [e1, e2, e3, e4, h]
  subst h
  by_cases h : a6 = b6
  rotate_left
  · simp [e1, e2, e3, e4, h]
  subst h
  by_cases h : a7 = b7
  rotate_left
  · simp [e1, e2, e3, e4, h]
  subst h
  simp [e1, e2, e3, e4]
@[simp] theorem eqiCy (x1 x2 x3 x4 x5 x6 x7 y1 y2 y3 y4 y5 y6 y7 : Int) (x8 y8 : Bool) : absEq Tryd.prog 10000 67 (.agg #[.int .i64 x1, .int .i64 x2, .int .u8 x3, .int .i64 x4, .int .i64 x5, .int .i64 x6, .int .i64 x7, .bool x8]) (.agg #[.int .i64 y1, .int .i64 y2, .int .u8 y3, .int .i64 y4, .int .i64 y5, .int .i64 y6, .int .i64 y7, .bool y8]) = some (decide ((⟨x1, x2, x3, x4, x5, x6, x7, x8⟩ : Cy) = ⟨y1, y2, y3, y4, y5, y6, y7, y8⟩)) := eqdCy 9997 ⟨x1, x2, x3, x4, x5, x6, x7, x8⟩ ⟨y1, y2, y3, y4, y5, y6, y7, y8⟩
theorem stiSm : Tryd.prog.stoodInHeld 30 = false := by kernel_rfl
@[simp] theorem egiSm : Tryd.prog.eqGuardType Tryd.prog.depth 30 = false := by kernel_rfl
theorem eqdSm (d : Nat) (x y : Sm) : absEq Tryd.prog (d + 3) 30 x.v y.v = some (decide (x = y)) := by
  obtain ⟨a0, a1, a2, a3, a4⟩ := x
  obtain ⟨b0, b1, b2, b3, b4⟩ := y
  simp only [Sm.v]
  rw [show d + 3 = (d + 2) + 1 from rfl, absEq_s Tryd.underlying30 stiSm]
  have e1 : ∀ (x y : Int), absEq Tryd.prog (d + 2) 5 (.int .u8 x) (.int .u8 y) = some (decide (x = y)) := fun x y => absEq_i (d := d + 1) Tryd.underlying5
  have e2 : ∀ (x y : Int), absEq Tryd.prog (d + 2) 3 (.int .i64 x) (.int .i64 y) = some (decide (x = y)) := fun x y => absEq_i (d := d + 1) Tryd.underlying3
  have e3 : ∀ (x y : Int), absEq Tryd.prog (d + 2) 2 (.int .i64 x) (.int .i64 y) = some (decide (x = y)) := fun x y => absEq_i (d := d + 1) Tryd.underlying2
  have e4 : ∀ (x y : Bool), absEq Tryd.prog (d + 2) 4 (.bool x) (.bool y) = some (decide (x = y)) := fun x y => absEq_b (d := d + 1) Tryd.underlying4
  simp only [absEqFields, absPart, inf2, sz2, Tryd.underlying2, inf3, sz3, Tryd.underlying3, TypeDesc.isRow]
  by_cases h : a0 = b0
  rotate_left
  · simp [e1, e2, e3, e4, h]
  subst h
  by_cases h : a1 = b1
  rotate_left
  · simp [e1, e2, e3, e4, h]
  subst h
  by_cases h : a2 = b2
  rotate_left
  · simp [e1, e2, e3, e4, h]
  subst h
  by_cases h : a3 = b3
  rotate_left
  · simp [e1, e2, e3, e4, h]
  subst h
  by_cases h : a4 = b4
  rotate_left
  · simp [e1, e2, e3, e4, h]
  subst h
  simp [e1, e2, e3, e4]
@[simp] theorem eqiSm (x1 x2 x3 x4 x5 y1 y2 y3 y4 y5 : Int) : absEq Tryd.prog 10000 30 (.agg #[.int .i64 x1, .int .i64 x2, .int .i64 x3, .int .i64 x4, .int .i64 x5]) (.agg #[.int .i64 y1, .int .i64 y2, .int .i64 y3, .int .i64 y4, .int .i64 y5]) = some (decide ((⟨x1, x2, x3, x4, x5⟩ : Sm) = ⟨y1, y2, y3, y4, y5⟩)) := eqdSm 9997 ⟨x1, x2, x3, x4, x5⟩ ⟨y1, y2, y3, y4, y5⟩
theorem stiOd : Tryd.prog.stoodInHeld 48 = false := by kernel_rfl
@[simp] theorem egiOd : Tryd.prog.eqGuardType Tryd.prog.depth 48 = false := by kernel_rfl
theorem eqdOd (d : Nat) (x y : Od) : absEq Tryd.prog (d + 4) 48 x.v y.v = some (decide (x = y)) := by
  obtain ⟨a0, a1, a2, a3, a4, a5⟩ := x
  obtain ⟨b0, b1, b2, b3, b4, b5⟩ := y
  simp only [Od.v]
  rw [show d + 4 = (d + 3) + 1 from rfl, absEq_s Tryd.underlying48 stiOd]
  have e1 : ∀ (x y : Int), absEq Tryd.prog (d + 3) 5 (.int .u8 x) (.int .u8 y) = some (decide (x = y)) := fun x y => absEq_i (d := d + 2) Tryd.underlying5
  have e2 : ∀ (x y : Int), absEq Tryd.prog (d + 3) 3 (.int .i64 x) (.int .i64 y) = some (decide (x = y)) := fun x y => absEq_i (d := d + 2) Tryd.underlying3
  have e3 : ∀ (x y : Int), absEq Tryd.prog (d + 3) 2 (.int .i64 x) (.int .i64 y) = some (decide (x = y)) := fun x y => absEq_i (d := d + 2) Tryd.underlying2
  have e4 : ∀ (x y : Bool), absEq Tryd.prog (d + 3) 4 (.bool x) (.bool y) = some (decide (x = y)) := fun x y => absEq_b (d := d + 2) Tryd.underlying4
  have fNt := fun x y => eqdNt d x y
  simp only [Nt.v] at fNt
  have fPl := fun x y => eqdPl d x y
  simp only [Pl.v] at fPl
  simp only [absEqFields, absPart, inf3, sz3, Tryd.underlying3, inf5, sz5, Tryd.underlying5, inf44, sz44, Tryd.underlying44, inf46, sz46, Tryd.underlying46, TypeDesc.isRow]
  by_cases h : a0 = b0
  rotate_left
  · simp [e1, e2, e3, e4, fNt, fPl, h]
  subst h
  by_cases h : a1 = b1
  rotate_left
  · simp [e1, e2, e3, e4, fNt, fPl, h]
  subst h
  by_cases h : a2 = b2
  rotate_left
  · simp [e1, e2, e3, e4, fNt, fPl, h]
  subst h
  by_cases h : a3 = b3
  rotate_left
  · simp [e1, e2, e3, e4, fNt, fPl, h]
  subst h
  by_cases h : a4 = b4
  rotate_left
  · simp [e1, e2, e3, e4, fNt, fPl, h]
  subst h
  by_cases h : a5 = b5
  rotate_left
  · simp [e1, e2, e3, e4, fNt, fPl, h]
  subst h
  simp [e1, e2, e3, e4, fNt, fPl]
@[simp] theorem eqiOd (x1 x2 x3 x4 x5 x6 x7 x8 x11 x12 x13 x14 x15 x16 y1 y2 y3 y4 y5 y6 y7 y8 y11 y12 y13 y14 y15 y16 : Int) (x9 x10 y9 y10 : Bool) : absEq Tryd.prog 10000 48 (.agg #[.int .u8 x1, .int .i64 x2, .int .i64 x3, .int .i64 x4, .int .i64 x5, .int .u8 x6, .int .i64 x7, .int .i64 x8, .bool x9, .bool x10, .int .u8 x11, .int .i64 x12, .int .i64 x13, .int .i64 x14, .int .i64 x15, .int .u8 x16]) (.agg #[.int .u8 y1, .int .i64 y2, .int .i64 y3, .int .i64 y4, .int .i64 y5, .int .u8 y6, .int .i64 y7, .int .i64 y8, .bool y9, .bool y10, .int .u8 y11, .int .i64 y12, .int .i64 y13, .int .i64 y14, .int .i64 y15, .int .u8 y16]) = some (decide ((⟨x1, x2, x3, x4, ⟨x5, x6, x7, x8, x9, x10⟩, ⟨x11, x12, x13, x14, x15, x16⟩⟩ : Od) = ⟨y1, y2, y3, y4, ⟨y5, y6, y7, y8, y9, y10⟩, ⟨y11, y12, y13, y14, y15, y16⟩⟩)) := eqdOd 9996 ⟨x1, x2, x3, x4, ⟨x5, x6, x7, x8, x9, x10⟩, ⟨x11, x12, x13, x14, x15, x16⟩⟩ ⟨y1, y2, y3, y4, ⟨y5, y6, y7, y8, y9, y10⟩, ⟨y11, y12, y13, y14, y15, y16⟩⟩
end Go.Den
set_option linter.unusedVariables false
set_option maxRecDepth 100000
namespace Go.Den
open Go Go.Proofs
def zeroP : Pl := ⟨0, 0, 0, 0, false, false⟩
def zeroN : Nt := ⟨0, 0, 0, 0, 0, 0⟩
def keyB (n : Nt) : Bool := decide (0 ≤ n.su ∧ n.su < 32 ∧ 0 ≤ n.cy ∧ n.cy ≤ 3652058 ∧ 0 ≤ n.tr ∧ n.tr ≤ 100 ∧ 0 ≤ n.am ∧ n.am ≤ 1125899906842624)
def noticeB (n : Nt) : Bool := decide (1 ≤ n.kd ∧ n.kd ≤ 5 ∧ 1 ≤ n.ve ∧ n.ve ≤ 3) && keyB n
def rightPl (p : Pl) : Int := if srB p.un p.ev = false ∨ p.tr < 0 ∨ 1000 < p.tr then 1 else if p.pr < 0 ∨ 1073741824 < p.pr then 9 else 0
def subsK (k : Int) : Bool := decide (2 ≤ k ∧ k ≤ 8)
def plansK (k : Int) : Bool := decide (k = 2 ∨ k = 3)
def rightO (o : Od) : Int :=
  if subsK o.kd then
    if o ≠ ⟨o.kd, o.su, if plansK o.kd then o.pl else 0, 0, zeroP, zeroN⟩ ∨ o.su < 0 ∨ 32 ≤ o.su ∨ o.pl < 0 ∨ 8 ≤ o.pl then 1 else 0
  else if o.kd = 1 then (if o ≠ ⟨o.kd, 0, 0, 0, o.p, zeroN⟩ then 1 else rightPl o.p)
  else if o.kd = 9 then (if o ≠ ⟨o.kd, 0, 0, o.n, zeroP, zeroN⟩ ∨ o.n < 1 ∨ 60 < o.n then 1 else 0)
  else if o.kd = 10 then (if o ≠ ⟨o.kd, 0, 0, 0, zeroP, o.a⟩ ∨ noticeB o.a = false then 1 else 0)
  else 1
def getP (l : List Pl) (n : Int) : Pl × Int := if n < 0 ∨ (l.length : Int) ≤ n then (zeroP, 2) else (l.getD n.toNat zeroP, 0)
def addPl (l : List Pl) (p : Pl) : List Pl × Int × Int := if rightPl p ≠ 0 then ([], 0, rightPl p) else if 8 ≤ l.length then ([], 0, 3) else (l ++ [p], l.length, 0)
def openAc (n : Int) (p : Pl) (today : Int) : Ac := ⟨1, n, IntKind.i64.wrap (today + p.tr), 0, 0, 0, false, [], 0, 0, 0, 0, 0⟩
structure Bk where
  (today : Int) (pls : List Pl) (subs : List Ac)
def zeroB : Bk := ⟨0, [], List.replicate 32 zeroA⟩
def newB (t : Int) : Bk := ⟨t, [], List.replicate 32 zeroA⟩
def Bk.sub (b : Bk) (i : Int) : Ac := b.subs.getD i.toNat zeroA
noncomputable def openB (b : Bk) (o : Od) : Ac × Int :=
  let g := getP b.pls o.pl
  if g.2 ≠ 0 then (zeroA, g.2) else if (b.sub o.su).st ≠ 0 then (zeroA, 11) else if 3652058 < IntKind.i64.wrap (b.today + g.1.tr) then (zeroA, 6) else dayA (openAc o.pl g.1 b.today) g.1 b.today
noncomputable def turnB (b : Bk) (a : Ac) (o : Od) : Ac × Int :=
  if o.kd = 4 then turnA a 1 2 else if o.kd = 5 then turnA a 2 1 else if o.kd = 6 then skipA a else if o.kd = 7 then cancelA a else if o.kd = 8 then cardA a
  else if (getP b.pls o.pl).2 ≠ 0 then (zeroA, (getP b.pls o.pl).2) else changeA a (getP b.pls a.pl).1 o.pl (getP b.pls o.pl).1 b.today
noncomputable def passL (pls : List Pl) (today : Int) : List Ac → List Ac × Int
  | [] => ([], 0)
  | a :: l =>
    let r := if a.st = 0 then (a, 0) else dayA a (getP pls a.pl).1 today
    if r.2 ≠ 0 then ([], r.2) else if (passL pls today l).2 ≠ 0 then ([], (passL pls today l).2) else (r.1 :: (passL pls today l).1, 0)
noncomputable def passB (b : Bk) (n : Int) : Bk × Int :=
  if 3652058 < IntKind.i64.wrap (b.today + n) then (zeroB, 6)
  else
    let r := passL b.pls (IntKind.i64.wrap (b.today + n)) b.subs
    if r.2 ≠ 0 then (zeroB, r.2) else (⟨IntKind.i64.wrap (b.today + n), b.pls, r.1⟩, 0)
def Bk.put (b : Bk) (i : Int) (r : Ac × Int) : Bk × Int := if r.2 ≠ 0 then (zeroB, r.2) else ({ b with subs := b.subs.set i.toNat r.1 }, 0)
noncomputable def stepB (b : Bk) (o : Od) : Bk × Int :=
  if rightO o ≠ 0 then (zeroB, rightO o)
  else if o.kd = 1 then (if (addPl b.pls o.p).2.2 ≠ 0 then (zeroB, (addPl b.pls o.p).2.2) else ({ b with pls := (addPl b.pls o.p).1 }, 0))
  else if o.kd = 2 then b.put o.su (openB b o)
  else if o.kd = 9 then passB b o.n
  else if o.kd = 10 then b.put o.a.su (hearA o.a.su (b.sub o.a.su) o.a b.today)
  else if (b.sub o.su).st = 0 then (zeroB, 2)
  else b.put o.su (turnB b (b.sub o.su) o)
def asksFrom (k : Nat) : List Ac → List Nt
  | [] => []
  | a :: l => asksA k a ++ asksFrom (k + 1) l
def Bk.asks (b : Bk) : List Nt := asksFrom 0 b.subs
structure As where
  (a : Ac) (s : Value) (one : s.oneCell' = true)
instance : Cel As := ⟨fun x => x.a.l x.s, 13, fun _ => rfl, fun x => by simp [x.one]; exact ⟨rfl, rfl, rfl, rfl, rfl, rfl, rfl, rfl, rfl, rfl, rfl, rfl⟩, by decide⟩
def BkL (t : Int) (sp : Value) (l : List As) : List Value := .int .i64 t :: sp :: rowV l
def bkv (t : Int) (sp : Value) (l : List As) : Value := .agg (BkL t sp l).toArray
structure BkAt (H : Mem) (sp : Value) (l : List As) (b : Bk) : Prop where
  pls : RowAt H sp b.pls
  map : l.map As.a = b.subs
  len : l.length = 32
  op : ∀ x ∈ l, OpenAt H x.s x.a.op
theorem BkAt.keep {H H' : Mem} {sp : Value} {l : List As} {b : Bk} (h : BkAt H sp l b) (hk : Keep H H') : BkAt H' sp l b := ⟨h.pls.keep hk, h.map, h.len, fun x hx => (h.op x hx).keep hk⟩
theorem BkL_len {t : Int} {sp : Value} {l : List As} (h : l.length = 32) : (BkL t sp l).length = 418 := by
  simp only [BkL, List.length_cons, rowV_len, h]; rfl
def zAs : As := ⟨zeroA, .slice none 0 0, rfl⟩
def zL : List As := List.replicate 32 zAs
@[simp] theorem zL_len : zL.length = 32 := by unfold zL; exact List.length_replicate
end Go.Den
namespace Go.Den
open Go Go.Proofs
set_option maxRecDepth 100000
set_option maxHeartbeats 1000000
set_option linter.all false
attribute [local simp] evOps evOp absOp absBox absAlloc absLoad absStore absField absIndexAddr absCells absBinOp absBin absInt absShift absUn absPick absNil absExtract absBuild absPlaces Instr.fill absBuiltin absMinMax plainV plainT allA flat cells_agg cells_int cells_bool cells_str cells_ptr cells_sl cells_map one_int one_bool one_str one_ptr one_sl one_map Act.eval Act.put Region.wanted yielded splice absCall TypeDesc.isRow
theorem subs_s (k : Int) (H : Mem) : FSem Tryd.prog [0] 26 #[.int .u8 k] H fun v H' => v = .bool (subsK k) ∧ H' = H := by
  refine FSem.plainT ?_
  refine FSem.ofK Tryd.func26 rfl ?_
  refine DK.from (b' := ⟨#[.int .u8 k, undef, undef, undef, undef, undef, undef, undef, undef], []⟩) (by kernel_rfl) ?_
  refine DK.seq ?_
  refine DK.region (is := [0]) (by kernel_rfl) rfl ?_
  refine WK.run (rest := []) [0] (by simp; constructor <;> rfl) ?_
  refine WK.nil ?_
  refine DK.seq ?_
  refine DK.region (is := [0, 1, 2, 3, 4, 5, 6]) (by kernel_rfl) rfl ?_
  refine WK.run (rest := [3, 4, 5, 6]) [0, 1, 2] (by simp; constructor <;> rfl) ?_
  refine WK.split (t := 5) rfl (fun h => ?_) (fun h => ?_)
  · try simp only [h]
    replace h := Tr.out h
    refine WK.run (rest := []) [3, 4, 5, 6] (by simp; constructor <;> rfl) ?_
    refine WK.nil ?_
    refine DK.ret ?_
    refine And.intro (Or.inr rfl) ?_
    refine ⟨_, by simp [absAnswer, absResults, absResult, Tryd.f26]; rfl, ?_⟩
    refine ⟨by first | exact ⟨[], (List.append_nil _).symm⟩ | exact ⟨_, rfl⟩, by simp, ?_⟩
    simp_all [subsK] <;> omega
  try simp only [h]
  replace h := Fa.out h
  refine WK.run (rest := []) [3, 4, 5, 6] (by simp; constructor <;> rfl) ?_
  refine WK.nil ?_
  refine DK.ret ?_
  refine And.intro (Or.inr rfl) ?_
  refine ⟨_, by simp [absAnswer, absResults, absResult, Tryd.f26]; rfl, ?_⟩
  refine ⟨by first | exact ⟨[], (List.append_nil _).symm⟩ | exact ⟨_, rfl⟩, by simp, ?_⟩
  simp_all [subsK] <;> omega
theorem plans_s (k : Int) (H : Mem) : FSem Tryd.prog [0] 27 #[.int .u8 k] H fun v H' => v = .bool (plansK k) ∧ H' = H := by
  refine FSem.plainT ?_
  refine FSem.ofK Tryd.func27 rfl ?_
  refine DK.from (b' := ⟨#[.int .u8 k, undef, undef, undef, undef, undef, undef, undef, undef], []⟩) (by kernel_rfl) ?_
  refine DK.seq ?_
  refine DK.region (is := [0]) (by kernel_rfl) rfl ?_
  refine WK.run (rest := []) [0] (by simp; constructor <;> rfl) ?_
  refine WK.nil ?_
  refine DK.seq ?_
  refine DK.region (is := [0, 1, 2, 3, 4, 5, 6]) (by kernel_rfl) rfl ?_
  refine WK.run (rest := [3, 4, 5, 6]) [0, 1, 2] (by simp; constructor <;> rfl) ?_
  refine WK.split (t := 5) rfl (fun h => ?_) (fun h => ?_)
  · try simp only [h]
    replace h := Tr.out h
    refine WK.run (rest := []) [3, 4, 5, 6] (by simp; constructor <;> rfl) ?_
    refine WK.nil ?_
    refine DK.ret ?_
    refine And.intro (Or.inr rfl) ?_
    refine ⟨_, by simp [absAnswer, absResults, absResult, Tryd.f27]; rfl, ?_⟩
    refine ⟨by first | exact ⟨[], (List.append_nil _).symm⟩ | exact ⟨_, rfl⟩, by simp, ?_⟩
    simp_all [plansK] <;> rfl
  try simp only [h]
  replace h := Fa.out h
  refine WK.run (rest := []) [3, 4, 5, 6] (by simp; constructor <;> rfl) ?_
  refine WK.nil ?_
  refine DK.ret ?_
  refine And.intro (Or.inr rfl) ?_
  refine ⟨_, by simp [absAnswer, absResults, absResult, Tryd.f27]; rfl, ?_⟩
  refine ⟨by first | exact ⟨[], (List.append_nil _).symm⟩ | exact ⟨_, rfl⟩, by simp, ?_⟩
  simp_all [plansK] <;> rfl
theorem key_s (n : Nt) (H : Mem) : FSem Tryd.prog [0] 54 #[n.v] H fun v H' => v = .bool (keyB n) ∧ H' = H := by
  refine FSem.plainT ?_
  refine FSem.ofK Tryd.func54 rfl ?_
  refine DK.from (b' := ⟨#[n.v, undef, undef, undef, undef, undef, undef, undef, undef, undef, undef, undef, undef, undef, undef, undef, undef, undef, undef, undef, undef, undef, undef, undef, undef, undef, undef, undef, undef, undef, undef, undef, undef, undef, undef, undef, undef, undef, undef, undef, undef], []⟩) (by kernel_rfl) ?_
  refine DK.seq ?_
  refine DK.region (is := [0, 1]) (by kernel_rfl) rfl ?_
  refine WK.run (rest := []) [0, 1] (by simp; constructor <;> rfl) ?_
  refine WK.nil ?_
  refine DK.seq ?_
  refine DK.region (is := [0, 1, 2, 3, 4, 5, 6, 7, 8, 9, 10, 11, 12, 13, 14, 15, 16, 17, 18, 19, 20, 21, 22, 23, 24, 25, 26, 27, 28, 29, 30, 31, 32, 33, 34, 35, 36, 37, 38]) (by kernel_rfl) rfl ?_
  refine WK.run (rest := [4, 5, 6, 7, 8, 9, 10, 11, 12, 13, 14, 15, 16, 17, 18, 19, 20, 21, 22, 23, 24, 25, 26, 27, 28, 29, 30, 31, 32, 33, 34, 35, 36, 37, 38]) [0, 1, 2, 3] (by simp; constructor <;> rfl) ?_
  refine WK.split (t := 6) rfl (fun h => ?_) (fun h => ?_)
  · try simp only [h]
    replace h := Tr.out h
    refine WK.run (rest := [9, 10, 11, 12, 13, 14, 15, 16, 17, 18, 19, 20, 21, 22, 23, 24, 25, 26, 27, 28, 29, 30, 31, 32, 33, 34, 35, 36, 37, 38]) [4, 5, 6, 7, 8] (by simp; constructor <;> rfl) ?_
    refine WK.split (t := 11) rfl (fun h => ?_) (fun h => ?_)
    · try simp only [h]
      replace h := Tr.out h
      refine WK.run (rest := [14, 15, 16, 17, 18, 19, 20, 21, 22, 23, 24, 25, 26, 27, 28, 29, 30, 31, 32, 33, 34, 35, 36, 37, 38]) [9, 10, 11, 12, 13] (by simp; constructor <;> rfl) ?_
      refine WK.split (t := 16) rfl (fun h => ?_) (fun h => ?_)
      · try simp only [h]
        replace h := Tr.out h
        refine WK.run (rest := [19, 20, 21, 22, 23, 24, 25, 26, 27, 28, 29, 30, 31, 32, 33, 34, 35, 36, 37, 38]) [14, 15, 16, 17, 18] (by simp; constructor <;> rfl) ?_
        refine WK.split (t := 21) rfl (fun h => ?_) (fun h => ?_)
        · try simp only [h]
          replace h := Tr.out h
          refine WK.run (rest := [24, 25, 26, 27, 28, 29, 30, 31, 32, 33, 34, 35, 36, 37, 38]) [19, 20, 21, 22, 23] (by simp; constructor <;> rfl) ?_
          refine WK.split (t := 26) rfl (fun h => ?_) (fun h => ?_)
          · try simp only [h]
            replace h := Tr.out h
            refine WK.run (rest := [29, 30, 31, 32, 33, 34, 35, 36, 37, 38]) [24, 25, 26, 27, 28] (by simp; constructor <;> rfl) ?_
            refine WK.split (t := 31) rfl (fun h => ?_) (fun h => ?_)
            · try simp only [h]
              replace h := Tr.out h
              refine WK.run (rest := [34, 35, 36, 37, 38]) [29, 30, 31, 32, 33] (by simp; constructor <;> rfl) ?_
              refine WK.split (t := 36) rfl (fun h => ?_) (fun h => ?_)
              · try simp only [h]
                replace h := Tr.out h
                refine WK.run (rest := []) [34, 35, 36, 37, 38] (by simp; constructor <;> rfl) ?_
                refine WK.nil ?_
                refine DK.ret ?_
                refine And.intro (Or.inr rfl) ?_
                refine ⟨_, by simp [absAnswer, absResults, absResult, Tryd.f54]; rfl, ?_⟩
                refine ⟨by first | exact ⟨[], (List.append_nil _).symm⟩ | exact ⟨_, rfl⟩, by simp, ?_⟩
                simp_all [keyB] <;> omega
              try simp only [h]
              replace h := Fa.out h
              refine WK.run (rest := []) [34, 35, 36, 37, 38] (by simp; constructor <;> rfl) ?_
              refine WK.nil ?_
              refine DK.ret ?_
              refine And.intro (Or.inr rfl) ?_
              refine ⟨_, by simp [absAnswer, absResults, absResult, Tryd.f54]; rfl, ?_⟩
              refine ⟨by first | exact ⟨[], (List.append_nil _).symm⟩ | exact ⟨_, rfl⟩, by simp, ?_⟩
              simp_all [keyB] <;> omega
            try simp only [h]
            replace h := Fa.out h
            refine WK.run (rest := []) [29, 30, 31, 32, 33, 34, 35, 36, 37, 38] (by simp; constructor <;> rfl) ?_
            refine WK.nil ?_
            refine DK.ret ?_
            refine And.intro (Or.inr rfl) ?_
            refine ⟨_, by simp [absAnswer, absResults, absResult, Tryd.f54]; rfl, ?_⟩
            refine ⟨by first | exact ⟨[], (List.append_nil _).symm⟩ | exact ⟨_, rfl⟩, by simp, ?_⟩
            simp_all [keyB] <;> omega
          try simp only [h]
          replace h := Fa.out h
          refine WK.run (rest := []) [24, 25, 26, 27, 28, 29, 30, 31, 32, 33, 34, 35, 36, 37, 38] (by simp; constructor <;> rfl) ?_
          refine WK.nil ?_
          refine DK.ret ?_
          refine And.intro (Or.inr rfl) ?_
          refine ⟨_, by simp [absAnswer, absResults, absResult, Tryd.f54]; rfl, ?_⟩
          refine ⟨by first | exact ⟨[], (List.append_nil _).symm⟩ | exact ⟨_, rfl⟩, by simp, ?_⟩
          simp_all [keyB] <;> omega
        try simp only [h]
        replace h := Fa.out h
        refine WK.run (rest := []) [19, 20, 21, 22, 23, 24, 25, 26, 27, 28, 29, 30, 31, 32, 33, 34, 35, 36, 37, 38] (by simp; constructor <;> rfl) ?_
        refine WK.nil ?_
        refine DK.ret ?_
        refine And.intro (Or.inr rfl) ?_
        refine ⟨_, by simp [absAnswer, absResults, absResult, Tryd.f54]; rfl, ?_⟩
        refine ⟨by first | exact ⟨[], (List.append_nil _).symm⟩ | exact ⟨_, rfl⟩, by simp, ?_⟩
        simp_all [keyB] <;> omega
      try simp only [h]
      replace h := Fa.out h
      refine WK.run (rest := []) [14, 15, 16, 17, 18, 19, 20, 21, 22, 23, 24, 25, 26, 27, 28, 29, 30, 31, 32, 33, 34, 35, 36, 37, 38] (by simp; constructor <;> rfl) ?_
      refine WK.nil ?_
      refine DK.ret ?_
      refine And.intro (Or.inr rfl) ?_
      refine ⟨_, by simp [absAnswer, absResults, absResult, Tryd.f54]; rfl, ?_⟩
      refine ⟨by first | exact ⟨[], (List.append_nil _).symm⟩ | exact ⟨_, rfl⟩, by simp, ?_⟩
      simp_all [keyB] <;> omega
    try simp only [h]
    replace h := Fa.out h
    refine WK.run (rest := []) [9, 10, 11, 12, 13, 14, 15, 16, 17, 18, 19, 20, 21, 22, 23, 24, 25, 26, 27, 28, 29, 30, 31, 32, 33, 34, 35, 36, 37, 38] (by simp; constructor <;> rfl) ?_
    refine WK.nil ?_
    refine DK.ret ?_
    refine And.intro (Or.inr rfl) ?_
    refine ⟨_, by simp [absAnswer, absResults, absResult, Tryd.f54]; rfl, ?_⟩
    refine ⟨by first | exact ⟨[], (List.append_nil _).symm⟩ | exact ⟨_, rfl⟩, by simp, ?_⟩
    simp_all [keyB] <;> omega
  try simp only [h]
  replace h := Fa.out h
  refine WK.run (rest := []) [4, 5, 6, 7, 8, 9, 10, 11, 12, 13, 14, 15, 16, 17, 18, 19, 20, 21, 22, 23, 24, 25, 26, 27, 28, 29, 30, 31, 32, 33, 34, 35, 36, 37, 38] (by simp; constructor <;> rfl) ?_
  refine WK.nil ?_
  refine DK.ret ?_
  refine And.intro (Or.inr rfl) ?_
  refine ⟨_, by simp [absAnswer, absResults, absResult, Tryd.f54]; rfl, ?_⟩
  refine ⟨by first | exact ⟨[], (List.append_nil _).symm⟩ | exact ⟨_, rfl⟩, by simp, ?_⟩
  simp_all [keyB] <;> omega
theorem notice_s (n : Nt) (H : Mem) : FSem Tryd.prog [0] 29 #[n.v] H fun v H' => v = .bool (noticeB n) ∧ H' = H := by
  refine FSem.plainT ?_
  refine FSem.ofK Tryd.func29 rfl ?_
  refine DK.from (b' := ⟨#[n.v, undef, undef, undef, undef, undef, undef, undef, undef, undef, undef, undef, undef, undef, undef, undef, undef, undef, undef, undef, undef, undef, undef, undef, undef], []⟩) (by kernel_rfl) ?_
  refine DK.seq ?_
  refine DK.region (is := [0, 1]) (by kernel_rfl) rfl ?_
  refine WK.run (rest := []) [0, 1] (by simp; constructor <;> rfl) ?_
  refine WK.nil ?_
  refine DK.seq ?_
  refine DK.region (is := [0, 1, 2, 3, 4, 5, 6, 7, 8, 9, 10, 11, 12, 13, 14, 15, 16, 17, 18, 19, 20, 21, 22]) (by kernel_rfl) rfl ?_
  refine WK.run (rest := [4, 5, 6, 7, 8, 9, 10, 11, 12, 13, 14, 15, 16, 17, 18, 19, 20, 21, 22]) [0, 1, 2, 3] (by simp; constructor <;> rfl) ?_
  refine WK.split (t := 6) rfl (fun h => ?_) (fun h => ?_)
  · try simp only [h]
    replace h := Tr.out h
    refine WK.run (rest := [9, 10, 11, 12, 13, 14, 15, 16, 17, 18, 19, 20, 21, 22]) [4, 5, 6, 7, 8] (by simp; constructor <;> rfl) ?_
    refine WK.split (t := 11) rfl (fun h => ?_) (fun h => ?_)
    · try simp only [h]
      replace h := Tr.out h
      refine WK.run (rest := [14, 15, 16, 17, 18, 19, 20, 21, 22]) [9, 10, 11, 12, 13] (by simp; constructor <;> rfl) ?_
      refine WK.split (t := 16) rfl (fun h => ?_) (fun h => ?_)
      · try simp only [h]
        replace h := Tr.out h
        refine WK.run (rest := [19, 20, 21, 22]) [14, 15, 16, 17, 18] (by simp; constructor <;> rfl) ?_
        refine WK.split (t := 21) rfl (fun h => ?_) (fun h => ?_)
        · try simp only [h]
          replace h := Tr.out h
          refine WK.run (rest := [20, 21, 22]) [19] (by simp; constructor <;> rfl) ?_
          refine WK.call rfl (by simp) (by simp [Tryd.func54, Tryd.f54]; constructor <;> rfl) ?_
          refine FSem.mono (key_s ⟨_, _, _, _, _, _⟩ _) ?_
          rintro _ _ ⟨rfl, rfl⟩
          refine WK.run (rest := []) [21, 22] (by simp; constructor <;> rfl) ?_
          refine WK.nil ?_
          refine DK.ret ?_
          refine And.intro (Or.inr rfl) ?_
          refine ⟨_, by simp [absAnswer, absResults, absResult, Tryd.f29]; rfl, ?_⟩
          refine ⟨by first | exact ⟨[], (List.append_nil _).symm⟩ | exact ⟨_, rfl⟩, by simp, ?_⟩
          simp_all [noticeB] <;> omega
        try simp only [h]
        replace h := Fa.out h
        refine WK.run (rest := []) [19, 20, 21, 22] (by simp; constructor <;> rfl) ?_
        refine WK.nil ?_
        refine DK.ret ?_
        refine And.intro (Or.inr rfl) ?_
        refine ⟨_, by simp [absAnswer, absResults, absResult, Tryd.f29]; rfl, ?_⟩
        refine ⟨by first | exact ⟨[], (List.append_nil _).symm⟩ | exact ⟨_, rfl⟩, by simp, ?_⟩
        simp_all [noticeB] <;> omega
      try simp only [h]
      replace h := Fa.out h
      refine WK.run (rest := []) [14, 15, 16, 17, 18, 19, 20, 21, 22] (by simp; constructor <;> rfl) ?_
      refine WK.nil ?_
      refine DK.ret ?_
      refine And.intro (Or.inr rfl) ?_
      refine ⟨_, by simp [absAnswer, absResults, absResult, Tryd.f29]; rfl, ?_⟩
      refine ⟨by first | exact ⟨[], (List.append_nil _).symm⟩ | exact ⟨_, rfl⟩, by simp, ?_⟩
      simp_all [noticeB] <;> omega
    try simp only [h]
    replace h := Fa.out h
    refine WK.run (rest := []) [9, 10, 11, 12, 13, 14, 15, 16, 17, 18, 19, 20, 21, 22] (by simp; constructor <;> rfl) ?_
    refine WK.nil ?_
    refine DK.ret ?_
    refine And.intro (Or.inr rfl) ?_
    refine ⟨_, by simp [absAnswer, absResults, absResult, Tryd.f29]; rfl, ?_⟩
    refine ⟨by first | exact ⟨[], (List.append_nil _).symm⟩ | exact ⟨_, rfl⟩, by simp, ?_⟩
    simp_all [noticeB] <;> omega
  try simp only [h]
  replace h := Fa.out h
  refine WK.run (rest := []) [4, 5, 6, 7, 8, 9, 10, 11, 12, 13, 14, 15, 16, 17, 18, 19, 20, 21, 22] (by simp; constructor <;> rfl) ?_
  refine WK.nil ?_
  refine DK.ret ?_
  refine And.intro (Or.inr rfl) ?_
  refine ⟨_, by simp [absAnswer, absResults, absResult, Tryd.f29]; rfl, ?_⟩
  refine ⟨by first | exact ⟨[], (List.append_nil _).symm⟩ | exact ⟨_, rfl⟩, by simp, ?_⟩
  simp_all [noticeB] <;> omega
theorem pright_s (p : Pl) (H : Mem) : FSem Tryd.prog [0] 28 #[p.v] H fun v H' => v = .int .i64 (rightPl p) ∧ H' = H := by
  refine FSem.plainT ?_
  refine FSem.ofK Tryd.func28 rfl ?_
  refine DK.from (b' := ⟨#[p.v, undef, undef, undef, undef, undef, undef, undef, undef, undef, undef, undef, undef, undef, undef, undef, undef, undef, undef, undef, undef, undef, undef, undef, undef, undef, undef, undef, undef], []⟩) (by kernel_rfl) ?_
  refine DK.seq ?_
  refine DK.region (is := [0, 1]) (by kernel_rfl) rfl ?_
  refine WK.run (rest := []) [0, 1] (by simp; constructor <;> rfl) ?_
  refine WK.nil ?_
  refine DK.seq ?_
  refine DK.block ?_
  refine DK.seq ?_
  refine DK.region (is := [0, 1, 2, 3, 4, 5, 6, 7, 8, 9, 10, 11, 12, 13, 14, 15, 16]) (by kernel_rfl) rfl ?_
  refine WK.run (rest := [4, 5, 6, 7, 8, 9, 10, 11, 12, 13, 14, 15, 16]) [0, 1, 2, 3] (by simp; constructor <;> rfl) ?_
  refine WK.call rfl (by simp) (by simp [Tryd.func53, Tryd.f53]; constructor <;> rfl) ?_
  refine FSem.mono (sright_s _ _ _) ?_
  rintro _ _ ⟨rfl, rfl⟩
  refine WK.run (rest := [7, 8, 9, 10, 11, 12, 13, 14, 15, 16]) [5, 6] (by simp; constructor <;> rfl) ?_
  refine WK.split (t := 10) rfl (fun h => ?_) (fun h => ?_)
  · try simp only [h]
    replace h := Tr.out h
    refine WK.run (rest := []) [7, 8, 9, 10, 11, 12, 13, 14, 15, 16] (by simp; constructor <;> rfl) ?_
    refine WK.nil ?_
    refine DK.yes rfl rfl ?_
    refine DK.seq ?_
    refine DK.region (is := [0]) (by kernel_rfl) rfl ?_
    refine WK.run (rest := []) [0] (by simp; constructor <;> rfl) ?_
    refine WK.nil ?_
    refine DK.ret ?_
    refine And.intro (Or.inr rfl) ?_
    refine ⟨_, by simp [absAnswer, absResults, absResult, Tryd.f28]; rfl, ?_⟩
    refine ⟨by first | exact ⟨[], (List.append_nil _).symm⟩ | exact ⟨_, rfl⟩, by simp, ?_⟩
    simp_all [rightPl] <;> (try split) <;> first | rfl | omega | (simp_all <;> omega)
  try simp only [h]
  replace h := Fa.out h
  refine WK.run (rest := [12, 13, 14, 15, 16]) [7, 8, 9, 10, 11] (by simp; constructor <;> rfl) ?_
  refine WK.split (t := 15) rfl (fun h => ?_) (fun h => ?_)
  · try simp only [h]
    replace h := Tr.out h
    refine WK.run (rest := []) [12, 13, 14, 15, 16] (by simp; constructor <;> rfl) ?_
    refine WK.nil ?_
    refine DK.yes rfl rfl ?_
    refine DK.seq ?_
    refine DK.region (is := [0]) (by kernel_rfl) rfl ?_
    refine WK.run (rest := []) [0] (by simp; constructor <;> rfl) ?_
    refine WK.nil ?_
    refine DK.ret ?_
    refine And.intro (Or.inr rfl) ?_
    refine ⟨_, by simp [absAnswer, absResults, absResult, Tryd.f28]; rfl, ?_⟩
    refine ⟨by first | exact ⟨[], (List.append_nil _).symm⟩ | exact ⟨_, rfl⟩, by simp, ?_⟩
    simp_all [rightPl] <;> (try split) <;> first | rfl | omega | (simp_all <;> omega)
  try simp only [h]
  replace h := Fa.out h
  refine WK.run (rest := []) [12, 13, 14, 15, 16] (by simp; constructor <;> rfl) ?_
  refine WK.nil ?_
  refine DK.test rfl rfl (fun h => ?_) (fun h => ?_)
  · try simp only [h]
    replace h := Tr.out h
    refine DK.seq ?_
    refine DK.region (is := [0]) (by kernel_rfl) rfl ?_
    refine WK.run (rest := []) [0] (by simp; constructor <;> rfl) ?_
    refine WK.nil ?_
    refine DK.ret ?_
    refine And.intro (Or.inr rfl) ?_
    refine ⟨_, by simp [absAnswer, absResults, absResult, Tryd.f28]; rfl, ?_⟩
    refine ⟨by first | exact ⟨[], (List.append_nil _).symm⟩ | exact ⟨_, rfl⟩, by simp, ?_⟩
    simp_all [rightPl] <;> (try split) <;> first | rfl | omega | (simp_all <;> omega)
  try simp only [h]
  replace h := Fa.out h
  refine DK.seq ?_
  refine DK.region (is := [0, 1, 2, 3, 4, 5, 6, 7, 8]) (by kernel_rfl) rfl ?_
  refine WK.run (rest := [4, 5, 6, 7, 8]) [0, 1, 2, 3] (by simp; constructor <;> rfl) ?_
  refine WK.split (t := 24) rfl (fun h => ?_) (fun h => ?_)
  · try simp only [h]
    replace h := Tr.out h
    refine WK.run (rest := []) [4, 5, 6, 7, 8] (by simp; constructor <;> rfl) ?_
    refine WK.nil ?_
    refine DK.yes rfl rfl ?_
    refine DK.seq ?_
    refine DK.region (is := [0]) (by kernel_rfl) rfl ?_
    refine WK.run (rest := []) [0] (by simp; constructor <;> rfl) ?_
    refine WK.nil ?_
    refine DK.ret ?_
    refine And.intro (Or.inr rfl) ?_
    refine ⟨_, by simp [absAnswer, absResults, absResult, Tryd.f28]; rfl, ?_⟩
    refine ⟨by first | exact ⟨[], (List.append_nil _).symm⟩ | exact ⟨_, rfl⟩, by simp, ?_⟩
    simp_all [rightPl] <;> (try split) <;> first | rfl | omega | (simp_all <;> omega)
  try simp only [h]
  replace h := Fa.out h
  refine WK.run (rest := []) [4, 5, 6, 7, 8] (by simp; constructor <;> rfl) ?_
  refine WK.nil ?_
  refine DK.test rfl rfl (fun h => ?_) (fun h => ?_)
  · try simp only [h]
    replace h := Tr.out h
    refine DK.seq ?_
    refine DK.region (is := [0]) (by kernel_rfl) rfl ?_
    refine WK.run (rest := []) [0] (by simp; constructor <;> rfl) ?_
    refine WK.nil ?_
    refine DK.ret ?_
    refine And.intro (Or.inr rfl) ?_
    refine ⟨_, by simp [absAnswer, absResults, absResult, Tryd.f28]; rfl, ?_⟩
    refine ⟨by first | exact ⟨[], (List.append_nil _).symm⟩ | exact ⟨_, rfl⟩, by simp, ?_⟩
    simp_all [rightPl] <;> (try split) <;> first | rfl | omega | (simp_all <;> omega)
  try simp only [h]
  replace h := Fa.out h
  refine DK.skip ?_
  refine DK.seq ?_
  refine DK.region (is := [0]) (by kernel_rfl) rfl ?_
  refine WK.run (rest := []) [0] (by simp; constructor <;> rfl) ?_
  refine WK.nil ?_
  refine DK.ret ?_
  refine And.intro (Or.inr rfl) ?_
  refine ⟨_, by simp [absAnswer, absResults, absResult, Tryd.f28]; rfl, ?_⟩
  refine ⟨by first | exact ⟨[], (List.append_nil _).symm⟩ | exact ⟨_, rfl⟩, by simp, ?_⟩
  simp_all [rightPl] <;> (try split) <;> first | rfl | omega | (simp_all <;> omega)
theorem oright_s (o : Od) (H : Mem) : FSem Tryd.prog [0] 15 #[o.v] H fun v H' => v = .int .i64 (rightO o) ∧ H' = H := by
  refine FSem.plainT ?_
  refine FSem.ofK Tryd.func15 rfl ?_
  refine DK.from (b' := ⟨#[o.v, undef, undef, undef, undef, undef, undef, undef, undef, undef, undef, undef, undef, undef, undef, undef, undef, undef, undef, undef, undef, undef, undef, undef, undef, undef, undef, undef, undef, undef, undef, undef, undef, undef, undef, undef, undef, undef, undef, undef, undef, undef, undef, undef, undef, undef, undef, undef, undef, undef, undef, undef, undef, undef, undef, undef, undef, undef, undef, undef, undef, undef, undef, undef, undef, undef, undef, undef, undef, undef, undef, undef, undef, undef, undef, undef, undef, undef, undef, undef, undef, undef, undef, undef, undef, undef, undef, undef, undef, undef, undef, undef], []⟩) (by kernel_rfl) ?_
  refine DK.seq ?_
  refine DK.region (is := [0, 1]) (by kernel_rfl) rfl ?_
  refine WK.run (rest := []) [0, 1] (by simp; constructor <;> rfl) ?_
  refine WK.nil ?_
  refine DK.seq ?_
  refine DK.region (is := [0, 1, 2, 3, 4]) (by kernel_rfl) rfl ?_
  refine WK.run (rest := []) [0, 1, 2, 3, 4] (by simp; constructor <;> rfl) ?_
  refine WK.nil ?_
  refine DK.seq ?_
  refine DK.block ?_
  refine DK.seq ?_
  refine DK.region (is := [0, 1, 2, 3]) (by kernel_rfl) rfl ?_
  refine WK.run (rest := [2, 3]) [0, 1] (by simp; constructor <;> rfl) ?_
  refine WK.call rfl (by simp) (by simp [Tryd.func26, Tryd.f26]; constructor <;> rfl) ?_
  refine FSem.mono (subs_s _ _) ?_
  rintro _ _ ⟨rfl, rfl⟩
  refine WK.run (rest := []) [3] (by simp; constructor <;> rfl) ?_
  refine WK.nil ?_
  refine DK.test rfl rfl (fun h => ?_) (fun h => ?_)
  · try simp only [h]
    replace h := Tr.out h
    refine DK.seq ?_
    refine DK.region (is := [0, 1, 2, 3]) (by kernel_rfl) rfl ?_
    refine WK.run (rest := []) [0, 1, 2, 3] (by simp; constructor <;> rfl) ?_
    refine WK.nil ?_
    refine DK.seq ?_
    refine DK.seq ?_
    refine DK.region (is := [0, 1, 2]) (by kernel_rfl) rfl ?_
    refine WK.run (rest := [2]) [0, 1] (by simp; constructor <;> rfl) ?_
    refine WK.call rfl (by simp) (by simp [Tryd.func27, Tryd.f27]; constructor <;> rfl) ?_
    refine FSem.mono (plans_s _ _) ?_
    rintro _ _ ⟨rfl, rfl⟩
    refine WK.nil ?_
    refine DK.test rfl rfl (fun h => ?_) (fun h => ?_)
    · try simp only [h]
      replace h := Tr.out h
      refine DK.region (is := [0, 1, 2, 3]) (by kernel_rfl) rfl ?_
      refine WK.run (rest := []) [0, 1, 2, 3] (by simp; constructor <;> rfl) ?_
      refine WK.nil ?_
      refine DK.seq ?_
      refine DK.seq ?_
      refine DK.region (is := [0, 1, 2, 3, 4, 5, 6, 7, 8, 9, 10, 11, 12, 13, 14, 15, 16, 17, 18, 19, 20, 21, 22]) (by kernel_rfl) rfl ?_
      refine WK.run (rest := [4, 5, 6, 7, 8, 9, 10, 11, 12, 13, 14, 15, 16, 17, 18, 19, 20, 21, 22]) [0, 1, 2, 3] (by simp; constructor <;> rfl) ?_
      refine WK.split (t := 23) rfl (fun h => ?_) (fun h => ?_)
      · try simp only [h]
        replace h := Tr.out h
        refine WK.run (rest := []) [4, 5, 6, 7, 8, 9, 10, 11, 12, 13, 14, 15, 16, 17, 18, 19, 20, 21, 22] (by simp; constructor <;> rfl) ?_
        refine WK.nil ?_
        refine DK.yes rfl rfl ?_
        refine DK.seq ?_
        refine DK.region (is := [0]) (by kernel_rfl) rfl ?_
        refine WK.run (rest := []) [0] (by simp; constructor <;> rfl) ?_
        refine WK.nil ?_
        refine DK.ret ?_
        refine And.intro (Or.inr rfl) ?_
        refine ⟨_, by simp [absAnswer, absResults, absResult, Tryd.f15]; rfl, ?_⟩
        refine ⟨by first | exact ⟨[], (List.append_nil _).symm⟩ | exact ⟨_, rfl⟩, by simp, ?_⟩
        obtain ⟨kd, su, pl, n, p, a⟩ := o
        simp_all [rightO, zeroP, zeroN, Pl.eta, Nt.eta] <;> (intros; simp_all)
      try simp only [h]
      replace h := Fa.out h
      refine WK.run (rest := [9, 10, 11, 12, 13, 14, 15, 16, 17, 18, 19, 20, 21, 22]) [4, 5, 6, 7, 8] (by simp; constructor <;> rfl) ?_
      refine WK.split (t := 28) rfl (fun h => ?_) (fun h => ?_)
      · try simp only [h]
        replace h := Tr.out h
        refine WK.run (rest := []) [9, 10, 11, 12, 13, 14, 15, 16, 17, 18, 19, 20, 21, 22] (by simp; constructor <;> rfl) ?_
        refine WK.nil ?_
        refine DK.yes rfl rfl ?_
        refine DK.seq ?_
        refine DK.region (is := [0]) (by kernel_rfl) rfl ?_
        refine WK.run (rest := []) [0] (by simp; constructor <;> rfl) ?_
        refine WK.nil ?_
        refine DK.ret ?_
        refine And.intro (Or.inr rfl) ?_
        refine ⟨_, by simp [absAnswer, absResults, absResult, Tryd.f15]; rfl, ?_⟩
        refine ⟨by first | exact ⟨[], (List.append_nil _).symm⟩ | exact ⟨_, rfl⟩, by simp, ?_⟩
        obtain ⟨kd, su, pl, n, p, a⟩ := o
        simp_all [rightO, zeroP, zeroN, Pl.eta, Nt.eta] <;> (intros; simp_all)
      try simp only [h]
      replace h := Fa.out h
      refine WK.run (rest := [14, 15, 16, 17, 18, 19, 20, 21, 22]) [9, 10, 11, 12, 13] (by simp; constructor <;> rfl) ?_
      refine WK.split (t := 33) rfl (fun h => ?_) (fun h => ?_)
      · try simp only [h]
        replace h := Tr.out h
        refine WK.run (rest := []) [14, 15, 16, 17, 18, 19, 20, 21, 22] (by simp; constructor <;> rfl) ?_
        refine WK.nil ?_
        refine DK.yes rfl rfl ?_
        refine DK.seq ?_
        refine DK.region (is := [0]) (by kernel_rfl) rfl ?_
        refine WK.run (rest := []) [0] (by simp; constructor <;> rfl) ?_
        refine WK.nil ?_
        refine DK.ret ?_
        refine And.intro (Or.inr rfl) ?_
        refine ⟨_, by simp [absAnswer, absResults, absResult, Tryd.f15]; rfl, ?_⟩
        refine ⟨by first | exact ⟨[], (List.append_nil _).symm⟩ | exact ⟨_, rfl⟩, by simp, ?_⟩
        obtain ⟨kd, su, pl, n, p, a⟩ := o
        simp_all [rightO, zeroP, zeroN, Pl.eta, Nt.eta] <;> (intros; simp_all)
      try simp only [h]
      replace h := Fa.out h
      refine WK.run (rest := [19, 20, 21, 22]) [14, 15, 16, 17, 18] (by simp; constructor <;> rfl) ?_
      refine WK.split (t := 38) rfl (fun h => ?_) (fun h => ?_)
      · try simp only [h]
        replace h := Tr.out h
        refine WK.run (rest := []) [19, 20, 21, 22] (by simp; constructor <;> rfl) ?_
        refine WK.nil ?_
        refine DK.yes rfl rfl ?_
        refine DK.seq ?_
        refine DK.region (is := [0]) (by kernel_rfl) rfl ?_
        refine WK.run (rest := []) [0] (by simp; constructor <;> rfl) ?_
        refine WK.nil ?_
        refine DK.ret ?_
        refine And.intro (Or.inr rfl) ?_
        refine ⟨_, by simp [absAnswer, absResults, absResult, Tryd.f15]; rfl, ?_⟩
        refine ⟨by first | exact ⟨[], (List.append_nil _).symm⟩ | exact ⟨_, rfl⟩, by simp, ?_⟩
        obtain ⟨kd, su, pl, n, p, a⟩ := o
        simp_all [rightO, zeroP, zeroN, Pl.eta, Nt.eta] <;> (intros; simp_all)
      try simp only [h]
      replace h := Fa.out h
      refine WK.run (rest := []) [19, 20, 21, 22] (by simp; constructor <;> rfl) ?_
      refine WK.nil ?_
      refine DK.test rfl rfl (fun h => ?_) (fun h => ?_)
      · try simp only [h]
        replace h := Tr.out h
        refine DK.seq ?_
        refine DK.region (is := [0]) (by kernel_rfl) rfl ?_
        refine WK.run (rest := []) [0] (by simp; constructor <;> rfl) ?_
        refine WK.nil ?_
        refine DK.ret ?_
        refine And.intro (Or.inr rfl) ?_
        refine ⟨_, by simp [absAnswer, absResults, absResult, Tryd.f15]; rfl, ?_⟩
        refine ⟨by first | exact ⟨[], (List.append_nil _).symm⟩ | exact ⟨_, rfl⟩, by simp, ?_⟩
        obtain ⟨kd, su, pl, n, p, a⟩ := o
        simp_all [rightO, zeroP, zeroN, Pl.eta, Nt.eta] <;> (intros; simp_all)
      try simp only [h]
      replace h := Fa.out h
      refine DK.skip ?_
      refine DK.seq ?_
      refine DK.region (is := [0]) (by kernel_rfl) rfl ?_
      refine WK.run (rest := []) [0] (by simp; constructor <;> rfl) ?_
      refine WK.nil ?_
      refine DK.ret ?_
      refine And.intro (Or.inr rfl) ?_
      refine ⟨_, by simp [absAnswer, absResults, absResult, Tryd.f15]; rfl, ?_⟩
      refine ⟨by first | exact ⟨[], (List.append_nil _).symm⟩ | exact ⟨_, rfl⟩, by simp, ?_⟩
      obtain ⟨kd, su, pl, n, p, a⟩ := o
      simp_all [rightO, zeroP, zeroN, Pl.eta, Nt.eta] <;> (intros; simp_all)
    try simp only [h]
    replace h := Fa.out h
    refine DK.skip ?_
    refine DK.seq ?_
    refine DK.seq ?_
    refine DK.region (is := [0, 1, 2, 3, 4, 5, 6, 7, 8, 9, 10, 11, 12, 13, 14, 15, 16, 17, 18, 19, 20, 21, 22]) (by kernel_rfl) rfl ?_
    refine WK.run (rest := [4, 5, 6, 7, 8, 9, 10, 11, 12, 13, 14, 15, 16, 17, 18, 19, 20, 21, 22]) [0, 1, 2, 3] (by simp; constructor <;> rfl) ?_
    refine WK.split (t := 23) rfl (fun h => ?_) (fun h => ?_)
    · try simp only [h]
      replace h := Tr.out h
      refine WK.run (rest := []) [4, 5, 6, 7, 8, 9, 10, 11, 12, 13, 14, 15, 16, 17, 18, 19, 20, 21, 22] (by simp; constructor <;> rfl) ?_
      refine WK.nil ?_
      refine DK.yes rfl rfl ?_
      refine DK.seq ?_
      refine DK.region (is := [0]) (by kernel_rfl) rfl ?_
      refine WK.run (rest := []) [0] (by simp; constructor <;> rfl) ?_
      refine WK.nil ?_
      refine DK.ret ?_
      refine And.intro (Or.inr rfl) ?_
      refine ⟨_, by simp [absAnswer, absResults, absResult, Tryd.f15]; rfl, ?_⟩
      refine ⟨by first | exact ⟨[], (List.append_nil _).symm⟩ | exact ⟨_, rfl⟩, by simp, ?_⟩
      obtain ⟨kd, su, pl, n, p, a⟩ := o
      simp_all [rightO, zeroP, zeroN, Pl.eta, Nt.eta] <;> (intros; simp_all)
    try simp only [h]
    replace h := Fa.out h
    refine WK.run (rest := [9, 10, 11, 12, 13, 14, 15, 16, 17, 18, 19, 20, 21, 22]) [4, 5, 6, 7, 8] (by simp; constructor <;> rfl) ?_
    refine WK.split (t := 28) rfl (fun h => ?_) (fun h => ?_)
    · try simp only [h]
      replace h := Tr.out h
      refine WK.run (rest := []) [9, 10, 11, 12, 13, 14, 15, 16, 17, 18, 19, 20, 21, 22] (by simp; constructor <;> rfl) ?_
      refine WK.nil ?_
      refine DK.yes rfl rfl ?_
      refine DK.seq ?_
      refine DK.region (is := [0]) (by kernel_rfl) rfl ?_
      refine WK.run (rest := []) [0] (by simp; constructor <;> rfl) ?_
      refine WK.nil ?_
      refine DK.ret ?_
      refine And.intro (Or.inr rfl) ?_
      refine ⟨_, by simp [absAnswer, absResults, absResult, Tryd.f15]; rfl, ?_⟩
      refine ⟨by first | exact ⟨[], (List.append_nil _).symm⟩ | exact ⟨_, rfl⟩, by simp, ?_⟩
      obtain ⟨kd, su, pl, n, p, a⟩ := o
      simp_all [rightO, zeroP, zeroN, Pl.eta, Nt.eta] <;> (intros; simp_all)
    try simp only [h]
    replace h := Fa.out h
    refine WK.run (rest := [14, 15, 16, 17, 18, 19, 20, 21, 22]) [9, 10, 11, 12, 13] (by simp; constructor <;> rfl) ?_
    refine WK.split (t := 33) rfl (fun h => ?_) (fun h => ?_)
    · try simp only [h]
      replace h := Tr.out h
      refine WK.run (rest := []) [14, 15, 16, 17, 18, 19, 20, 21, 22] (by simp; constructor <;> rfl) ?_
      refine WK.nil ?_
      refine DK.yes rfl rfl ?_
      refine DK.seq ?_
      refine DK.region (is := [0]) (by kernel_rfl) rfl ?_
      refine WK.run (rest := []) [0] (by simp; constructor <;> rfl) ?_
      refine WK.nil ?_
      refine DK.ret ?_
      refine And.intro (Or.inr rfl) ?_
      refine ⟨_, by simp [absAnswer, absResults, absResult, Tryd.f15]; rfl, ?_⟩
      refine ⟨by first | exact ⟨[], (List.append_nil _).symm⟩ | exact ⟨_, rfl⟩, by simp, ?_⟩
      obtain ⟨kd, su, pl, n, p, a⟩ := o
      simp_all [rightO, zeroP, zeroN, Pl.eta, Nt.eta] <;> (intros; simp_all)
    try simp only [h]
    replace h := Fa.out h
    refine WK.run (rest := [19, 20, 21, 22]) [14, 15, 16, 17, 18] (by simp; constructor <;> rfl) ?_
    refine WK.split (t := 38) rfl (fun h => ?_) (fun h => ?_)
    · try simp only [h]
      replace h := Tr.out h
      refine WK.run (rest := []) [19, 20, 21, 22] (by simp; constructor <;> rfl) ?_
      refine WK.nil ?_
      refine DK.yes rfl rfl ?_
      refine DK.seq ?_
      refine DK.region (is := [0]) (by kernel_rfl) rfl ?_
      refine WK.run (rest := []) [0] (by simp; constructor <;> rfl) ?_
      refine WK.nil ?_
      refine DK.ret ?_
      refine And.intro (Or.inr rfl) ?_
      refine ⟨_, by simp [absAnswer, absResults, absResult, Tryd.f15]; rfl, ?_⟩
      refine ⟨by first | exact ⟨[], (List.append_nil _).symm⟩ | exact ⟨_, rfl⟩, by simp, ?_⟩
      obtain ⟨kd, su, pl, n, p, a⟩ := o
      simp_all [rightO, zeroP, zeroN, Pl.eta, Nt.eta] <;> (intros; simp_all)
    try simp only [h]
    replace h := Fa.out h
    refine WK.run (rest := []) [19, 20, 21, 22] (by simp; constructor <;> rfl) ?_
    refine WK.nil ?_
    refine DK.test rfl rfl (fun h => ?_) (fun h => ?_)
    · try simp only [h]
      replace h := Tr.out h
      refine DK.seq ?_
      refine DK.region (is := [0]) (by kernel_rfl) rfl ?_
      refine WK.run (rest := []) [0] (by simp; constructor <;> rfl) ?_
      refine WK.nil ?_
      refine DK.ret ?_
      refine And.intro (Or.inr rfl) ?_
      refine ⟨_, by simp [absAnswer, absResults, absResult, Tryd.f15]; rfl, ?_⟩
      refine ⟨by first | exact ⟨[], (List.append_nil _).symm⟩ | exact ⟨_, rfl⟩, by simp, ?_⟩
      obtain ⟨kd, su, pl, n, p, a⟩ := o
      simp_all [rightO, zeroP, zeroN, Pl.eta, Nt.eta] <;> (intros; simp_all)
    try simp only [h]
    replace h := Fa.out h
    refine DK.skip ?_
    refine DK.seq ?_
    refine DK.region (is := [0]) (by kernel_rfl) rfl ?_
    refine WK.run (rest := []) [0] (by simp; constructor <;> rfl) ?_
    refine WK.nil ?_
    refine DK.ret ?_
    refine And.intro (Or.inr rfl) ?_
    refine ⟨_, by simp [absAnswer, absResults, absResult, Tryd.f15]; rfl, ?_⟩
    refine ⟨by first | exact ⟨[], (List.append_nil _).symm⟩ | exact ⟨_, rfl⟩, by simp, ?_⟩
    obtain ⟨kd, su, pl, n, p, a⟩ := o
    simp_all [rightO, zeroP, zeroN, Pl.eta, Nt.eta] <;> (intros; simp_all)
  try simp only [h]
  replace h := Fa.out h
  refine DK.seq ?_
  refine DK.region (is := [0, 1, 2, 3]) (by kernel_rfl) rfl ?_
  refine WK.run (rest := []) [0, 1, 2, 3] (by simp; constructor <;> rfl) ?_
  refine WK.nil ?_
  refine DK.test rfl rfl (fun h => ?_) (fun h => ?_)
  · try simp only [h]
    replace h := Tr.out h
    refine DK.seq ?_
    refine DK.region (is := [0, 1, 2, 3]) (by kernel_rfl) rfl ?_
    refine WK.run (rest := []) [0, 1, 2, 3] (by simp; constructor <;> rfl) ?_
    refine WK.nil ?_
    refine DK.seq ?_
    refine DK.seq ?_
    refine DK.region (is := [0, 1, 2]) (by kernel_rfl) rfl ?_
    refine WK.run (rest := []) [0, 1, 2] (by simp; constructor <;> rfl) ?_
    refine WK.nil ?_
    refine DK.test rfl rfl (fun h => ?_) (fun h => ?_)
    · try simp only [h]
      replace h := Tr.out h
      refine DK.seq ?_
      refine DK.region (is := [0]) (by kernel_rfl) rfl ?_
      refine WK.run (rest := []) [0] (by simp; constructor <;> rfl) ?_
      refine WK.nil ?_
      refine DK.ret ?_
      refine And.intro (Or.inr rfl) ?_
      refine ⟨_, by simp [absAnswer, absResults, absResult, Tryd.f15]; rfl, ?_⟩
      refine ⟨by first | exact ⟨[], (List.append_nil _).symm⟩ | exact ⟨_, rfl⟩, by simp, ?_⟩
      obtain ⟨kd, su, pl, n, p, a⟩ := o
      simp_all [rightO, zeroP, zeroN, Pl.eta, Nt.eta] <;> (intros; simp_all)
    try simp only [h]
    replace h := Fa.out h
    refine DK.skip ?_
    refine DK.seq ?_
    refine DK.region (is := [0, 1, 2, 3]) (by kernel_rfl) rfl ?_
    refine WK.run (rest := [2, 3]) [0, 1] (by simp; constructor <;> rfl) ?_
    refine WK.call rfl (by simp) (by simp [Tryd.func28, Tryd.f28]; constructor <;> rfl) ?_
    refine FSem.mono (pright_s ⟨_, _, _, _, _, _⟩ _) ?_
    rintro _ _ ⟨rfl, rfl⟩
    refine WK.run (rest := []) [3] (by simp; constructor <;> rfl) ?_
    refine WK.nil ?_
    refine DK.ret ?_
    refine And.intro (Or.inr rfl) ?_
    refine ⟨_, by simp [absAnswer, absResults, absResult, Tryd.f15]; rfl, ?_⟩
    refine ⟨by first | exact ⟨[], (List.append_nil _).symm⟩ | exact ⟨_, rfl⟩, by simp, ?_⟩
    obtain ⟨kd, su, pl, n, p, a⟩ := o
    simp_all [rightO, zeroP, zeroN, Pl.eta, Nt.eta] <;> (intros; simp_all)
  try simp only [h]
  replace h := Fa.out h
  refine DK.seq ?_
  refine DK.region (is := [0, 1, 2, 3]) (by kernel_rfl) rfl ?_
  refine WK.run (rest := []) [0, 1, 2, 3] (by simp; constructor <;> rfl) ?_
  refine WK.nil ?_
  refine DK.test rfl rfl (fun h => ?_) (fun h => ?_)
  · try simp only [h]
    replace h := Tr.out h
    refine DK.seq ?_
    refine DK.region (is := [0, 1, 2, 3]) (by kernel_rfl) rfl ?_
    refine WK.run (rest := []) [0, 1, 2, 3] (by simp; constructor <;> rfl) ?_
    refine WK.nil ?_
    refine DK.seq ?_
    refine DK.seq ?_
    refine DK.region (is := [0, 1, 2, 3, 4, 5, 6, 7, 8, 9, 10, 11, 12]) (by kernel_rfl) rfl ?_
    refine WK.run (rest := [4, 5, 6, 7, 8, 9, 10, 11, 12]) [0, 1, 2, 3] (by simp; constructor <;> rfl) ?_
    refine WK.split (t := 66) rfl (fun h => ?_) (fun h => ?_)
    · try simp only [h]
      replace h := Tr.out h
      refine WK.run (rest := []) [4, 5, 6, 7, 8, 9, 10, 11, 12] (by simp; constructor <;> rfl) ?_
      refine WK.nil ?_
      refine DK.yes rfl rfl ?_
      refine DK.seq ?_
      refine DK.region (is := [0]) (by kernel_rfl) rfl ?_
      refine WK.run (rest := []) [0] (by simp; constructor <;> rfl) ?_
      refine WK.nil ?_
      refine DK.ret ?_
      refine And.intro (Or.inr rfl) ?_
      refine ⟨_, by simp [absAnswer, absResults, absResult, Tryd.f15]; rfl, ?_⟩
      refine ⟨by first | exact ⟨[], (List.append_nil _).symm⟩ | exact ⟨_, rfl⟩, by simp, ?_⟩
      obtain ⟨kd, su, pl, n, p, a⟩ := o
      simp_all [rightO, zeroP, zeroN, Pl.eta, Nt.eta] <;> (intros; simp_all)
    try simp only [h]
    replace h := Fa.out h
    refine WK.run (rest := [9, 10, 11, 12]) [4, 5, 6, 7, 8] (by simp; constructor <;> rfl) ?_
    refine WK.split (t := 71) rfl (fun h => ?_) (fun h => ?_)
    · try simp only [h]
      replace h := Tr.out h
      refine WK.run (rest := []) [9, 10, 11, 12] (by simp; constructor <;> rfl) ?_
      refine WK.nil ?_
      refine DK.yes rfl rfl ?_
      refine DK.seq ?_
      refine DK.region (is := [0]) (by kernel_rfl) rfl ?_
      refine WK.run (rest := []) [0] (by simp; constructor <;> rfl) ?_
      refine WK.nil ?_
      refine DK.ret ?_
      refine And.intro (Or.inr rfl) ?_
      refine ⟨_, by simp [absAnswer, absResults, absResult, Tryd.f15]; rfl, ?_⟩
      refine ⟨by first | exact ⟨[], (List.append_nil _).symm⟩ | exact ⟨_, rfl⟩, by simp, ?_⟩
      obtain ⟨kd, su, pl, n, p, a⟩ := o
      simp_all [rightO, zeroP, zeroN, Pl.eta, Nt.eta] <;> (intros; simp_all)
    try simp only [h]
    replace h := Fa.out h
    refine WK.run (rest := []) [9, 10, 11, 12] (by simp; constructor <;> rfl) ?_
    refine WK.nil ?_
    refine DK.test rfl rfl (fun h => ?_) (fun h => ?_)
    · try simp only [h]
      replace h := Tr.out h
      refine DK.seq ?_
      refine DK.region (is := [0]) (by kernel_rfl) rfl ?_
      refine WK.run (rest := []) [0] (by simp; constructor <;> rfl) ?_
      refine WK.nil ?_
      refine DK.ret ?_
      refine And.intro (Or.inr rfl) ?_
      refine ⟨_, by simp [absAnswer, absResults, absResult, Tryd.f15]; rfl, ?_⟩
      refine ⟨by first | exact ⟨[], (List.append_nil _).symm⟩ | exact ⟨_, rfl⟩, by simp, ?_⟩
      obtain ⟨kd, su, pl, n, p, a⟩ := o
      simp_all [rightO, zeroP, zeroN, Pl.eta, Nt.eta] <;> (intros; simp_all)
    try simp only [h]
    replace h := Fa.out h
    refine DK.skip ?_
    refine DK.seq ?_
    refine DK.region (is := [0]) (by kernel_rfl) rfl ?_
    refine WK.run (rest := []) [0] (by simp; constructor <;> rfl) ?_
    refine WK.nil ?_
    refine DK.ret ?_
    refine And.intro (Or.inr rfl) ?_
    refine ⟨_, by simp [absAnswer, absResults, absResult, Tryd.f15]; rfl, ?_⟩
    refine ⟨by first | exact ⟨[], (List.append_nil _).symm⟩ | exact ⟨_, rfl⟩, by simp, ?_⟩
    obtain ⟨kd, su, pl, n, p, a⟩ := o
    simp_all [rightO, zeroP, zeroN, Pl.eta, Nt.eta] <;> (intros; simp_all)
  try simp only [h]
  replace h := Fa.out h
  refine DK.seq ?_
  refine DK.region (is := [0, 1, 2, 3]) (by kernel_rfl) rfl ?_
  refine WK.run (rest := []) [0, 1, 2, 3] (by simp; constructor <;> rfl) ?_
  refine WK.nil ?_
  refine DK.test rfl rfl (fun h => ?_) (fun h => ?_)
  · try simp only [h]
    replace h := Tr.out h
    refine DK.seq ?_
    refine DK.region (is := [0, 1, 2, 3]) (by kernel_rfl) rfl ?_
    refine WK.run (rest := []) [0, 1, 2, 3] (by simp; constructor <;> rfl) ?_
    refine WK.nil ?_
    refine DK.seq ?_
    refine DK.seq ?_
    refine DK.region (is := [0, 1, 2, 3, 4, 5, 6, 7, 8]) (by kernel_rfl) rfl ?_
    refine WK.run (rest := [4, 5, 6, 7, 8]) [0, 1, 2, 3] (by simp; constructor <;> rfl) ?_
    refine WK.split (t := 86) rfl (fun h => ?_) (fun h => ?_)
    · try simp only [h]
      replace h := Tr.out h
      refine WK.run (rest := []) [4, 5, 6, 7, 8] (by simp; constructor <;> rfl) ?_
      refine WK.nil ?_
      refine DK.yes rfl rfl ?_
      refine DK.seq ?_
      refine DK.region (is := [0]) (by kernel_rfl) rfl ?_
      refine WK.run (rest := []) [0] (by simp; constructor <;> rfl) ?_
      refine WK.nil ?_
      refine DK.ret ?_
      refine And.intro (Or.inr rfl) ?_
      refine ⟨_, by simp [absAnswer, absResults, absResult, Tryd.f15]; rfl, ?_⟩
      refine ⟨by first | exact ⟨[], (List.append_nil _).symm⟩ | exact ⟨_, rfl⟩, by simp, ?_⟩
      obtain ⟨kd, su, pl, n, p, a⟩ := o
      simp_all [rightO, zeroP, zeroN, Pl.eta, Nt.eta] <;> (intros; simp_all)
    try simp only [h]
    replace h := Fa.out h
    refine WK.run (rest := [6, 7, 8]) [4, 5] (by simp; constructor <;> rfl) ?_
    refine WK.call rfl (by simp) (by simp [Tryd.func29, Tryd.f29]; constructor <;> rfl) ?_
    refine FSem.mono (notice_s ⟨_, _, _, _, _, _⟩ _) ?_
    rintro _ _ ⟨rfl, rfl⟩
    refine WK.run (rest := []) [7, 8] (by simp; constructor <;> rfl) ?_
    refine WK.nil ?_
    refine DK.test rfl rfl (fun h => ?_) (fun h => ?_)
    · try simp only [h]
      replace h := Tr.out h
      refine DK.seq ?_
      refine DK.region (is := [0]) (by kernel_rfl) rfl ?_
      refine WK.run (rest := []) [0] (by simp; constructor <;> rfl) ?_
      refine WK.nil ?_
      refine DK.ret ?_
      refine And.intro (Or.inr rfl) ?_
      refine ⟨_, by simp [absAnswer, absResults, absResult, Tryd.f15]; rfl, ?_⟩
      refine ⟨by first | exact ⟨[], (List.append_nil _).symm⟩ | exact ⟨_, rfl⟩, by simp, ?_⟩
      obtain ⟨kd, su, pl, n, p, a⟩ := o
      simp_all [rightO, zeroP, zeroN, Pl.eta, Nt.eta] <;> (intros; simp_all)
    try simp only [h]
    replace h := Fa.out h
    refine DK.skip ?_
    refine DK.seq ?_
    refine DK.region (is := [0]) (by kernel_rfl) rfl ?_
    refine WK.run (rest := []) [0] (by simp; constructor <;> rfl) ?_
    refine WK.nil ?_
    refine DK.ret ?_
    refine And.intro (Or.inr rfl) ?_
    refine ⟨_, by simp [absAnswer, absResults, absResult, Tryd.f15]; rfl, ?_⟩
    refine ⟨by first | exact ⟨[], (List.append_nil _).symm⟩ | exact ⟨_, rfl⟩, by simp, ?_⟩
    obtain ⟨kd, su, pl, n, p, a⟩ := o
    simp_all [rightO, zeroP, zeroN, Pl.eta, Nt.eta] <;> (intros; simp_all)
  try simp only [h]
  replace h := Fa.out h
  refine DK.skip ?_
  refine DK.seq ?_
  refine DK.region (is := [0]) (by kernel_rfl) rfl ?_
  refine WK.run (rest := []) [0] (by simp; constructor <;> rfl) ?_
  refine WK.nil ?_
  refine DK.ret ?_
  refine And.intro (Or.inr rfl) ?_
  refine ⟨_, by simp [absAnswer, absResults, absResult, Tryd.f15]; rfl, ?_⟩
  refine ⟨by first | exact ⟨[], (List.append_nil _).symm⟩ | exact ⟨_, rfl⟩, by simp, ?_⟩
  obtain ⟨kd, su, pl, n, p, a⟩ := o
  simp_all [rightO, zeroP, zeroN, Pl.eta, Nt.eta] <;> (intros; simp_all)
end Go.Den
set_option linter.unusedVariables false
set_option maxRecDepth 100000
namespace Go.Den
open Go Go.Proofs
attribute [simp] bkv
theorem alloc_bk (H : Mem) : absAlloc Tryd.prog H 35 = some (.pointer (some ⟨H.length, 0, none⟩), H ++ [.cells false (BkL 0 (.slice none 0 0) zL)]) := by kernel_rfl
theorem build_bk : absBuild Tryd.prog 35 [] = some (.agg (BkL 0 (.slice none 0 0) zL).toArray) := by kernel_rfl
theorem build_bkt (t : Int) : absBuild Tryd.prog 35 [(0, .int .i64 t)] = some (.agg (BkL t (.slice none 0 0) zL).toArray) := by kernel_rfl
section
variable {t : Int} {sp : Value} {l : List As}
theorem bk_take (h : l.length = 32) : List.take 418 (BkL t sp l) = BkL t sp l := List.take_of_length_le (by rw [BkL_len h]; decide)
theorem bk_t : List.take 1 (BkL t sp l) = [.int .i64 t] := rfl
theorem bk_p : List.take 1 (BkL t sp l).tail = [sp] := rfl
theorem bk_row (h : l.length = 32) : List.take 416 (List.drop 2 (BkL t sp l)) = rowV l := by
  show List.take 416 (rowV l) = rowV l
  exact List.take_of_length_le (by rw [rowV_len, h]; decide)
theorem bk_one (h : sp.oneCell' = true) : allA (BkL t sp l).toArray (fun x => x.oneCell') = true := by
  unfold allA BkL
  simp [h]
  exact ⟨rfl, by simpa using rowV_flat l⟩
theorem bk_at {i : Nat} (h : i < l.length) : List.take 13 (List.drop (2 + i * 13) (BkL t sp l)) = (l[i]).a.l (l[i]).s := by
  have := rowV_get h
  rw [show 2 + i * 13 = (i * 13) + 1 + 1 by omega]
  exact this
theorem bk_st {i : Nat} (h : i < l.length) : List.take 1 (List.drop (2 + i * 13) (BkL t sp l)) = [.int .u8 (l[i]).a.st] := by
  have := congrArg (List.take 1) (bk_at (t := t) (sp := sp) h)
  rw [List.take_take] at this
  exact this
theorem sp_all {us vs : List Value} (h : us.length = vs.length) : splice us 0 vs = vs := by
  unfold splice; simp [h]
theorem sp_nil (us : List Value) : splice us 0 [] = us := by simp [splice]
theorem sp_0 (u v : Value) (us vs : List Value) : splice (u :: us) 0 (v :: vs) = v :: splice us 0 vs := by simp [splice]
theorem sp_s (u : Value) (us vs : List Value) (n : Nat) : splice (u :: us) (n + 1) vs = u :: splice us n vs := by
  unfold splice
  rw [show n + 1 + vs.length = (n + vs.length) + 1 by omega]; simp
theorem sp_bk {t' : Int} {sp' : Value} {l' : List As} (h : l.length = 32) (h' : l'.length = 32) : splice (BkL t sp l) 0 (BkL t' sp' l') = BkL t' sp' l' := sp_all (by rw [BkL_len h, BkL_len h'])
theorem sp_t (t' : Int) : splice (BkL t sp l) 0 [.int .i64 t'] = BkL t' sp l := by simp [splice, BkL]
theorem sp_p (sp' : Value) : splice (BkL t sp l) 1 [sp'] = BkL t sp' l := by simp [splice, BkL]
theorem sp_at {i : Nat} (h : i < l.length) (x : As) : splice (BkL t sp l) (2 + i * 13) (x.a.l x.s) = BkL t sp (l.set i x) := by
  have := rowV_set h x
  rw [show 2 + i * 13 = (i * 13) + 1 + 1 by omega]
  unfold BkL
  rw [sp_s, sp_s]
  exact congrArg _ (congrArg _ this)
theorem part_at {i : Nat} (h : i < l.length) : absPart Tryd.prog 32 (rowV l).toArray (i * 13) = some ((l[i]).a.v (l[i]).s) := by
  have := rowV_get h
  have hl : i * 13 + 13 ≤ (rowV l).length := by
    rw [rowV_len]
    have : (i + 1) * 13 ≤ l.length * 13 := Nat.mul_le_mul_right _ h
    show _ ≤ l.length * 13
    omega
  unfold absPart
  simp only [Tryd.underlying32, inf32, sz32, TypeDesc.isRow]
  have e : ((rowV l).toArray.extract (i * 13) (i * 13 + 13)) = ((l[i]).a.l (l[i]).s).toArray := by
    rw [List.extract_toArray, List.extract_eq_take_drop, Nat.add_sub_cancel_left]
    exact congrArg _ this
  simp only [if_true, e]
  rfl
end
end Go.Den
namespace Go.Den
open Go Go.Proofs
set_option maxRecDepth 100000
set_option maxHeartbeats 1000000
set_option linter.all false
theorem al32 (H : Mem) : absAlloc Tryd.prog H 32 = some (.pointer (some ⟨H.length, 0, none⟩), H ++ [.cells false [.int .u8 0, .int .i64 0, .int .i64 0, .int .i64 0, .int .i64 0, .int .i64 0, .bool false, .slice none 0 0, .int .i64 0, .int .i64 0, .int .i64 0, .int .i64 0, .int .i64 0]]) := by kernel_rfl
theorem bu32 (ps : List (Nat × Value)) : absBuild Tryd.prog 32 ps = (Instr.fill (fun i => (#[(0, 1), (1, 1), (2, 1), (3, 1), (4, 1), (5, 1), (6, 1), (7, 1), (8, 5)] : Array (Nat × Nat))[i]?) #[.int .u8 0, .int .i64 0, .int .i64 0, .int .i64 0, .int .i64 0, .int .i64 0, .bool false, .slice none 0 0, .int .i64 0, .int .i64 0, .int .i64 0, .int .i64 0, .int .i64 0] ps).map .agg := by kernel_rfl
theorem al44 (H : Mem) : absAlloc Tryd.prog H 44 = some (.pointer (some ⟨H.length, 0, none⟩), H ++ [.cells false [.int .i64 0, .int .u8 0, .int .i64 0, .int .i64 0, .bool false, .bool false]]) := by kernel_rfl
theorem bu44 (ps : List (Nat × Value)) : absBuild Tryd.prog 44 ps = (Instr.fill (fun i => (#[(0, 1), (1, 1), (2, 1), (3, 1), (4, 1), (5, 1)] : Array (Nat × Nat))[i]?) #[.int .i64 0, .int .u8 0, .int .i64 0, .int .i64 0, .bool false, .bool false] ps).map .agg := by kernel_rfl
theorem al46 (H : Mem) : absAlloc Tryd.prog H 46 = some (.pointer (some ⟨H.length, 0, none⟩), H ++ [.cells false [.int .u8 0, .int .i64 0, .int .i64 0, .int .i64 0, .int .i64 0, .int .u8 0]]) := by kernel_rfl
theorem bu46 (ps : List (Nat × Value)) : absBuild Tryd.prog 46 ps = (Instr.fill (fun i => (#[(0, 1), (1, 1), (2, 1), (3, 1), (4, 1), (5, 1)] : Array (Nat × Nat))[i]?) #[.int .u8 0, .int .i64 0, .int .i64 0, .int .i64 0, .int .i64 0, .int .u8 0] ps).map .agg := by kernel_rfl
theorem al67 (H : Mem) : absAlloc Tryd.prog H 67 = some (.pointer (some ⟨H.length, 0, none⟩), H ++ [.cells false [.int .i64 0, .int .i64 0, .int .u8 0, .int .i64 0, .int .i64 0, .int .i64 0, .int .i64 0, .bool false]]) := by kernel_rfl
theorem bu67 (ps : List (Nat × Value)) : absBuild Tryd.prog 67 ps = (Instr.fill (fun i => (#[(0, 1), (1, 1), (2, 1), (3, 1), (4, 1), (5, 1), (6, 1), (7, 1)] : Array (Nat × Nat))[i]?) #[.int .i64 0, .int .i64 0, .int .u8 0, .int .i64 0, .int .i64 0, .int .i64 0, .int .i64 0, .bool false] ps).map .agg := by kernel_rfl
theorem al48 (H : Mem) : absAlloc Tryd.prog H 48 = some (.pointer (some ⟨H.length, 0, none⟩), H ++ [.cells false [.int .u8 0, .int .i64 0, .int .i64 0, .int .i64 0, .int .i64 0, .int .u8 0, .int .i64 0, .int .i64 0, .bool false, .bool false, .int .u8 0, .int .i64 0, .int .i64 0, .int .i64 0, .int .i64 0, .int .u8 0]]) := by kernel_rfl
theorem bu48 (ps : List (Nat × Value)) : absBuild Tryd.prog 48 ps = (Instr.fill (fun i => (#[(0, 1), (1, 1), (2, 1), (3, 1), (4, 6), (10, 6)] : Array (Nat × Nat))[i]?) #[.int .u8 0, .int .i64 0, .int .i64 0, .int .i64 0, .int .i64 0, .int .u8 0, .int .i64 0, .int .i64 0, .bool false, .bool false, .int .u8 0, .int .i64 0, .int .i64 0, .int .i64 0, .int .i64 0, .int .u8 0] ps).map .agg := by kernel_rfl
theorem al30 (H : Mem) : absAlloc Tryd.prog H 30 = some (.pointer (some ⟨H.length, 0, none⟩), H ++ [.cells false [.int .i64 0, .int .i64 0, .int .i64 0, .int .i64 0, .int .i64 0]]) := by kernel_rfl
theorem bu30 (ps : List (Nat × Value)) : absBuild Tryd.prog 30 ps = (Instr.fill (fun i => (#[(0, 1), (1, 1), (2, 1), (3, 1), (4, 1)] : Array (Nat × Nat))[i]?) #[.int .i64 0, .int .i64 0, .int .i64 0, .int .i64 0, .int .i64 0] ps).map .agg := by kernel_rfl
theorem al66 (H : Mem) : absAlloc Tryd.prog H 66 = some (.pointer (some ⟨H.length, 0, none⟩), H ++ [.cells false [.int .i64 0, .int .i64 0, .int .u8 0, .int .i64 0, .int .i64 0, .int .i64 0, .int .i64 0, .bool false]]) := by kernel_rfl
theorem bu66 (ps : List (Nat × Value)) : absBuild Tryd.prog 66 ps = (Instr.fill (fun i => (#[(0, 1), (1, 1), (2, 1), (3, 1), (4, 1), (5, 1), (6, 1), (7, 1)] : Array (Nat × Nat))[i]?) #[.int .i64 0, .int .i64 0, .int .u8 0, .int .i64 0, .int .i64 0, .int .i64 0, .int .i64 0, .bool false] ps).map .agg := by kernel_rfl
theorem al39 (H : Mem) : absAlloc Tryd.prog H 39 = some (.pointer (some ⟨H.length, 0, none⟩), H ++ [.cells false [.int .u8 0, .int .i64 0, .int .i64 0, .int .i64 0, .int .i64 0, .bool false, .slice none 0 0]]) := by kernel_rfl
theorem bu39 (ps : List (Nat × Value)) : absBuild Tryd.prog 39 ps = (Instr.fill (fun i => (#[(0, 1), (1, 1), (2, 1), (3, 1), (4, 1), (5, 1), (6, 1)] : Array (Nat × Nat))[i]?) #[.int .u8 0, .int .i64 0, .int .i64 0, .int .i64 0, .int .i64 0, .bool false, .slice none 0 0] ps).map .agg := by kernel_rfl
theorem al114 (H : Mem) : absAlloc Tryd.prog H 114 = some (.pointer (some ⟨H.length, 0, none⟩), H ++ [.cells false [.slice none 0 0, .int .i64 0]]) := by kernel_rfl
theorem bu114 (ps : List (Nat × Value)) : absBuild Tryd.prog 114 ps = (Instr.fill (fun i => (#[(0, 1), (1, 1)] : Array (Nat × Nat))[i]?) #[.slice none 0 0, .int .i64 0] ps).map .agg := by kernel_rfl
theorem al151 (H : Mem) : absAlloc Tryd.prog H 151 = some (.pointer (some ⟨H.length, 0, none⟩), H ++ [.cells false [.int .i64 0, .int .i64 0, .int .i64 0]]) := by kernel_rfl
theorem bu151 (ps : List (Nat × Value)) : absBuild Tryd.prog 151 ps = (Instr.fill (fun i => (#[(0, 1), (1, 1), (2, 1)] : Array (Nat × Nat))[i]?) #[.int .i64 0, .int .i64 0, .int .i64 0] ps).map .agg := by kernel_rfl
theorem al3 (H : Mem) : absAlloc Tryd.prog H 3 = some (.pointer (some ⟨H.length, 0, none⟩), H ++ [.cells false [.int .i64 0]]) := by kernel_rfl
theorem al2 (H : Mem) : absAlloc Tryd.prog H 2 = some (.pointer (some ⟨H.length, 0, none⟩), H ++ [.cells false [.int .i64 0]]) := by kernel_rfl
theorem al5 (H : Mem) : absAlloc Tryd.prog H 5 = some (.pointer (some ⟨H.length, 0, none⟩), H ++ [.cells false [.int .u8 0]]) := by kernel_rfl
theorem al4 (H : Mem) : absAlloc Tryd.prog H 4 = some (.pointer (some ⟨H.length, 0, none⟩), H ++ [.cells false [.bool false]]) := by kernel_rfl
theorem al131 (H : Mem) : absAlloc Tryd.prog H 131 = some (.pointer (some ⟨H.length, 0, none⟩), H ++ [.cells false [.int .u64 0]]) := by kernel_rfl
theorem cv2_5 (H : Mem) (k : IntKind) (n : Int) : absConv Tryd.prog H 2 5 (.int k n) = some (.int .u8 (IntKind.u8.wrap n), H) := by kernel_rfl
theorem cv2_131 (H : Mem) (k : IntKind) (n : Int) : absConv Tryd.prog H 2 131 (.int k n) = some (.int .u64 (IntKind.u64.wrap n), H) := by kernel_rfl
theorem cv3_132 (H : Mem) (k : IntKind) (n : Int) : absConv Tryd.prog H 3 132 (.int k n) = some (.int .u64 (IntKind.u64.wrap n), H) := by kernel_rfl
theorem cv5_2 (H : Mem) (k : IntKind) (n : Int) : absConv Tryd.prog H 5 2 (.int k n) = some (.int .i64 (IntKind.i64.wrap n), H) := by kernel_rfl
theorem cv5_3 (H : Mem) (k : IntKind) (n : Int) : absConv Tryd.prog H 5 3 (.int k n) = some (.int .i64 (IntKind.i64.wrap n), H) := by kernel_rfl
theorem cv5_131 (H : Mem) (k : IntKind) (n : Int) : absConv Tryd.prog H 5 131 (.int k n) = some (.int .u64 (IntKind.u64.wrap n), H) := by kernel_rfl
theorem cv22_3 (H : Mem) (k : IntKind) (n : Int) : absConv Tryd.prog H 22 3 (.int k n) = some (.int .i64 (IntKind.i64.wrap n), H) := by kernel_rfl
theorem cv62_3 (H : Mem) (k : IntKind) (n : Int) : absConv Tryd.prog H 62 3 (.int k n) = some (.int .i64 (IntKind.i64.wrap n), H) := by kernel_rfl
theorem cv131_2 (H : Mem) (k : IntKind) (n : Int) : absConv Tryd.prog H 131 2 (.int k n) = some (.int .i64 (IntKind.i64.wrap n), H) := by kernel_rfl
theorem cv131_5 (H : Mem) (k : IntKind) (n : Int) : absConv Tryd.prog H 131 5 (.int k n) = some (.int .u8 (IntKind.u8.wrap n), H) := by kernel_rfl
attribute [simp] al32 bu32 al44 bu44 al46 bu46 al67 bu67 al48 bu48 al30 bu30 al66 bu66 al39 bu39 al114 bu114 al151 bu151 al3 al2 al5 al4 al131 cv2_5 cv2_131 cv3_132 cv5_2 cv5_3 cv5_131 cv22_3 cv62_3 cv131_2 cv131_5 alloc_bk build_bk build_bkt
end Go.Den
namespace Go.Den
open Go Go.Proofs
set_option maxRecDepth 100000
set_option maxHeartbeats 1000000
set_option linter.all false
attribute [local simp] evOps evOp absOp absBox absLoad absStore absField absIndexAddr absCells absBinOp absBin absInt absShift absUn absPick absNil absExtract absPlaces Instr.fill absBuiltin absMinMax plainV plainT allA flat cells_agg cells_int cells_bool cells_str cells_ptr cells_sl cells_map one_int one_bool one_str one_ptr one_sl one_map Act.eval Act.put Region.wanted yielded absCall TypeDesc.isRow
attribute [local simp high] bk_t bk_p bk_take bk_row BkL_len sp_bk sp_t sp_p
attribute [local simp] sp_nil sp_0 sp_s List.length_set
theorem getp_s (l : List Pl) (n : Int) {s : Value} {H : Mem} (hR : RowAt H s l) : FSem Tryd.prog [0] 55 #[s, .int .i64 n] H fun v H' => v = .tuple #[(getP l n).1.v, .int .i64 (getP l n).2] ∧ H' = H := by
  refine FSem.plainT ?_
  refine FSem.ofK Tryd.func55 rfl ?_
  refine DK.from (b' := ⟨#[s, .int .i64 n, undef, undef, undef, undef, undef, undef, undef, undef, undef, undef, undef, undef, undef, undef, undef, undef, undef], []⟩) (by kernel_rfl) ?_
  have hb1 := True.intro
  have hle := True.intro
  have hge := True.intro
  have hg0 := True.intro
  have hg1 := True.intro
  have hln := lenPl hR
  refine DK.seq ?_
  refine DK.region (is := [0, 1]) (by kernel_rfl) rfl ?_
  refine WK.run (rest := []) [0, 1] (by simp [hb1, hle, hge, hg0, hg1, hln]; constructor <;> rfl) ?_
  refine WK.nil ?_
  refine DK.seq ?_
  refine DK.seq ?_
  refine DK.region (is := [0, 1, 2, 3, 4, 5, 6, 7]) (by kernel_rfl) rfl ?_
  refine WK.run (rest := [3, 4, 5, 6, 7]) [0, 1, 2] (by simp [hb1, hle, hge, hg0, hg1, hln]; constructor <;> rfl) ?_
  refine WK.split (t := 8) rfl (fun h => ?_) (fun h => ?_)
  · try simp only [h]
    replace h := Tr.out h
    refine WK.run (rest := []) [3, 4, 5, 6, 7] (by simp [hb1, hle, hge, hg0, hg1, hln]; constructor <;> rfl) ?_
    refine WK.nil ?_
    refine DK.yes rfl rfl ?_
    refine DK.seq ?_
    refine DK.region (is := [0, 1, 2]) (by kernel_rfl) rfl ?_
    refine WK.run (rest := []) [0, 1, 2] (by simp [hb1, hle, hge, hg0, hg1, hln]; constructor <;> rfl) ?_
    refine WK.nil ?_
    refine DK.ret ?_
    refine And.intro (Or.inr rfl) ?_
    refine ⟨_, by simp [absAnswer, absResults, absResult, Tryd.f55]; rfl, ?_⟩
    refine ⟨by first | exact ⟨[], (List.append_nil _).symm⟩ | exact ⟨_, rfl⟩, by simp, ?_⟩
    first
      | (rw [hgd]; done)
      | (rw [hgd]; simp; done)
      | (simp_all [getP, zeroP] <;> (try omega))
  try simp only [h]
  replace h := Fa.out h
  refine WK.run (rest := []) [3, 4, 5, 6, 7] (by simp [hb1, hle, hge, hg0, hg1, hln]; constructor <;> rfl) ?_
  refine WK.nil ?_
  refine DK.test rfl rfl (fun h => ?_) (fun h => ?_)
  · try simp only [h]
    replace h := Tr.out h
    refine DK.seq ?_
    refine DK.region (is := [0, 1, 2]) (by kernel_rfl) rfl ?_
    refine WK.run (rest := []) [0, 1, 2] (by simp [hb1, hle, hge, hg0, hg1, hln]; constructor <;> rfl) ?_
    refine WK.nil ?_
    refine DK.ret ?_
    refine And.intro (Or.inr rfl) ?_
    refine ⟨_, by simp [absAnswer, absResults, absResult, Tryd.f55]; rfl, ?_⟩
    refine ⟨by first | exact ⟨[], (List.append_nil _).symm⟩ | exact ⟨_, rfl⟩, by simp, ?_⟩
    first
      | (rw [hgd]; done)
      | (rw [hgd]; simp; done)
      | (simp_all [getP, zeroP] <;> (try omega))
  try simp only [h]
  replace h := Fa.out h
  have hg0 : 0 ≤ n := by omega
  have hil : n.toNat < l.length := by omega
  have hg1 : n < (l.length : Int) := by omega
  obtain ⟨b, o, ro, vs, rfl, hb, hle, hge⟩ := hR.blk hil
  replace hb1 : ∀ r : Mem, (H ++ r)[b]? = some (.cells ro vs) := fun r => by rw [List.getElem?_append_left (List.getElem?_eq_some_iff.1 hb).1]; exact hb
  replace hle : o + n.toNat * 6 + 6 ≤ vs.length := hle
  replace hge : List.take 6 (List.drop (o + n.toNat * 6) vs) = l[n.toNat].l := hge
  have hgd : getP l n = (l[n.toNat], 0) := by unfold getP; rw [if_neg (by omega)]; simp [List.getD_eq_getElem?_getD, List.getElem?_eq_getElem hil]
  refine DK.skip ?_
  refine DK.seq ?_
  refine DK.region (is := [0, 1, 2, 3, 4, 5]) (by kernel_rfl) rfl ?_
  refine WK.run (rest := []) [0, 1, 2, 3, 4, 5] (by simp [hb1, hle, hge, hg0, hg1, hln]; constructor <;> rfl) ?_
  refine WK.nil ?_
  refine DK.ret ?_
  refine And.intro (Or.inr rfl) ?_
  refine ⟨_, by simp [absAnswer, absResults, absResult, Tryd.f55]; rfl, ?_⟩
  refine ⟨by first | exact ⟨[], (List.append_nil _).symm⟩ | exact ⟨_, rfl⟩, by simp, ?_⟩
  first
    | (rw [hgd]; done)
    | (rw [hgd]; simp; done)
    | (simp_all [getP, zeroP] <;> (try omega))
theorem addp_s (l : List Pl) (p : Pl) {s : Value} {H : Mem} (hR : RowAt H s l) : FSem Tryd.prog [0] 30 #[s, p.v] H fun v H' => ∃ s', v = .tuple #[s', .int .i64 (addPl l p).2.1, .int .i64 (addPl l p).2.2] ∧ RowOut H (addPl l p).1 s' H' := by
  refine FSem.ofK Tryd.func30 rfl ?_
  refine DK.from (b' := ⟨#[s, p.v, undef, undef, undef, undef, undef, undef, undef, undef, undef, undef, undef, undef, undef, undef, undef, undef, undef, undef, undef, undef, undef], []⟩) (by kernel_rfl) ?_
  have happ1 := True.intro
  have happ2 := True.intro
  have hp1 := True.intro
  have hln := lenPl hR
  refine DK.seq ?_
  refine DK.region (is := [0, 1, 2, 3]) (by kernel_rfl) rfl ?_
  refine WK.run (rest := []) [0, 1, 2, 3] (by simp [hln, happ1, happ2, hp1]; constructor <;> rfl) ?_
  refine WK.nil ?_
  refine DK.seq ?_
  refine DK.seq ?_
  refine DK.region (is := [0, 1, 2]) (by kernel_rfl) rfl ?_
  refine WK.run (rest := [1, 2]) [0] (by simp [hln, happ1, happ2, hp1]; constructor <;> rfl) ?_
  refine WK.call rfl (by simp [hln, happ1, happ2, hp1]) (by simp [Tryd.func28, Tryd.f28, hln, happ1, happ2, hp1]; constructor <;> rfl) ?_
  refine FSem.mono (pright_s ⟨_, _, _, _, _, _⟩ _) ?_
  rintro _ _ ⟨rfl, rfl⟩
  refine WK.run (rest := []) [2] (by simp [hln, happ1, happ2, hp1]; constructor <;> rfl) ?_
  refine WK.nil ?_
  refine DK.seq ?_
  refine DK.region (is := [0, 1]) (by kernel_rfl) rfl ?_
  refine WK.run (rest := []) [0, 1] (by simp [hln, happ1, happ2, hp1]; constructor <;> rfl) ?_
  refine WK.nil ?_
  refine DK.test rfl rfl (fun h => ?_) (fun h => ?_)
  · try simp only [h]
    replace h := Tr.out h
    refine DK.seq ?_
    refine DK.region (is := [0, 1, 2, 3]) (by kernel_rfl) rfl ?_
    refine WK.run (rest := []) [0, 1, 2, 3] (by simp [hln, happ1, happ2, hp1]; constructor <;> rfl) ?_
    refine WK.nil ?_
    refine DK.ret ?_
    refine And.intro (Or.inr rfl) ?_
    refine ⟨_, by simp [absAnswer, absResults, absResult, Tryd.f30]; rfl, ?_⟩
    first
      | (have hres : addPl l p = ([], 0, rightPl p) := if_pos ‹_›
         exact ⟨_, by rw [hres], ⟨_, rfl⟩, by rw [hres]; exact RowAt.nil _, Own.nil _ _ _, New.nil _ _ _⟩)
      | (have hres : addPl l p = ([], 0, 3) := by unfold addPl; rw [if_neg (by simp [*]), if_pos (by omega)]
         exact ⟨_, by rw [hres], ⟨_, rfl⟩, by rw [hres]; exact RowAt.nil _, Own.nil _ _ _, New.nil _ _ _⟩)
      | (have hres : addPl l p = (l ++ [p], (l.length : Int), 0) := by unfold addPl; rw [if_neg (by simp [*]), if_neg (by omega)]
         exact ⟨_, by rw [hres], hkp.ext, by rw [hres]; exact hR2, hW2, hN2⟩)
  try simp only [h]
  replace h := Fa.out h
  refine DK.skip ?_
  refine DK.seq ?_
  refine DK.seq ?_
  refine DK.region (is := [0, 1, 2]) (by kernel_rfl) rfl ?_
  refine WK.run (rest := []) [0, 1, 2] (by simp [hln, happ1, happ2, hp1]; constructor <;> rfl) ?_
  refine WK.nil ?_
  refine DK.test rfl rfl (fun h => ?_) (fun h => ?_)
  · try simp only [h]
    replace h := Tr.out h
    refine DK.seq ?_
    refine DK.region (is := [0, 1, 2]) (by kernel_rfl) rfl ?_
    refine WK.run (rest := []) [0, 1, 2] (by simp [hln, happ1, happ2, hp1]; constructor <;> rfl) ?_
    refine WK.nil ?_
    refine DK.ret ?_
    refine And.intro (Or.inr rfl) ?_
    refine ⟨_, by simp [absAnswer, absResults, absResult, Tryd.f30]; rfl, ?_⟩
    first
      | (have hres : addPl l p = ([], 0, rightPl p) := if_pos ‹_›
         exact ⟨_, by rw [hres], ⟨_, rfl⟩, by rw [hres]; exact RowAt.nil _, Own.nil _ _ _, New.nil _ _ _⟩)
      | (have hres : addPl l p = ([], 0, 3) := by unfold addPl; rw [if_neg (by simp [*]), if_pos (by omega)]
         exact ⟨_, by rw [hres], ⟨_, rfl⟩, by rw [hres]; exact RowAt.nil _, Own.nil _ _ _, New.nil _ _ _⟩)
      | (have hres : addPl l p = (l ++ [p], (l.length : Int), 0) := by unfold addPl; rw [if_neg (by simp [*]), if_neg (by omega)]
         exact ⟨_, by rw [hres], hkp.ext, by rw [hres]; exact hR2, hW2, hN2⟩)
  try simp only [h]
  replace h := Fa.out h
  obtain ⟨s1, H1, ha1, hR1, hW1, hf1, hn1, _⟩ := appPl (H := H ++ [.cells false p.l, .cells false p.l]) (RowAt.nil _) (Own.nil _ _ _) (hR.apps _) (by simp; omega)
  have hk1 : Keep H H1 := (Keep.app _ _).trans ⟨hf1.1, fun k hk => hf1.2 k hk (by intro e; cases e)⟩
  replace hn1 : New (H.length + 2) s1 := by rcases hn1 with rfl | q; exact New.nil _ _ _; exact q.le (by simp)
  replace hp1 : H1[H.length]? = some (.cells false p.l) := by rw [hf1.2 _ (by simp) (by intro e; cases e)]; simp
  have hx1 : RowAt H1 (.slice (some ⟨H.length + 1, 0, none⟩) 1 6) [p] := RowAt.all (l := [p]) (ro := false) (by rw [hf1.2 _ (by simp) (by intro e; cases e)]; simp [rowV_one]; rfl)
  obtain ⟨s2, H2, ha2, hR2, hW2, hf2, _, hn2⟩ := appPl (by simpa using hR1) hW1 hx1 (by simp; omega)
  have hkp : Keep H H2 := hk1.frn hf2 (hn1.le (by omega))
  have hN2 : New H.length s2 := (hn2 (by simp)).le hk1.1
  replace happ1 := ha1
  replace happ2 := ha2
  simp only [Pl.l] at happ1
  try simp at happ2
  refine DK.skip ?_
  refine DK.seq ?_
  refine DK.draw rfl (POk.of (ord := [0, 2, 3, 5, 6, 1, 4, 7, 8, 9]) (by kernel_rfl)) ?_
  refine XK.run (rest := [1, 4, 7, 8, 9]) [0, 2, 3, 5, 6] (by kernel_rfl) (by simp [hln, happ1, happ2, hp1]; constructor <;> rfl) ?_
  refine XK.one rfl (by simp [hln, happ1, happ2, hp1]) rfl (by simp [hln, happ1, happ2, hp1]; constructor <;> rfl) (lag_list (l := [2, 6]) (by kernel_rfl) (lag_cons (lag_one rfl (by simp [hln, happ1, happ2, hp1]; constructor <;> rfl) rfl (by simp [hln, happ1, happ2, hp1]) (by simp [sameL, sameV_agg, sameV_int, sameV_bool, sameV_str, sameV_ptr, sameV_sl, sameV_map, same1_int, same1_bool, same1_str, same1_ptr, same1_sl, same1_map, hln, happ1, happ2, hp1]) rfl) (lag_cons (lag_one rfl (by simp [hln, happ1, happ2, hp1]; constructor <;> rfl) rfl (by simp [hln, happ1, happ2, hp1]) (by simp [sameL, sameV_agg, sameV_int, sameV_bool, sameV_str, sameV_ptr, sameV_sl, sameV_map, same1_int, same1_bool, same1_str, same1_ptr, same1_sl, same1_map, hln, happ1, happ2, hp1]) rfl) rfl))) ?_
  refine XK.one rfl (by simp [hln, happ1, happ2, hp1]) rfl (by simp [hln, happ1, happ2, hp1]; constructor <;> rfl) (lag_list (l := [6]) (by kernel_rfl) (lag_cons (lag_one rfl (by simp [hln, happ1, happ2, hp1]; constructor <;> rfl) rfl (by simp [hln, happ1, happ2, hp1]) (by simp [sameL, sameV_agg, sameV_int, sameV_bool, sameV_str, sameV_ptr, sameV_sl, sameV_map, same1_int, same1_bool, same1_str, same1_ptr, same1_sl, same1_map, hln, happ1, happ2, hp1]) rfl) rfl)) ?_
  refine XK.one rfl (by simp [hln, happ1, happ2, hp1]) rfl (by simp [hln, happ1, happ2, hp1]; constructor <;> rfl) (lag_list (l := [6]) (by kernel_rfl) (lag_cons (lag_one rfl (by simp [hln, happ1, happ2, hp1]; constructor <;> rfl) rfl (by simp [hln, happ1, happ2, hp1]) (by simp [sameL, sameV_agg, sameV_int, sameV_bool, sameV_str, sameV_ptr, sameV_sl, sameV_map, same1_int, same1_bool, same1_str, same1_ptr, same1_sl, same1_map, hln, happ1, happ2, hp1]) rfl) rfl)) ?_
  refine XK.one rfl (by simp [hln, happ1, happ2, hp1]) rfl (by simp [hln, happ1, happ2, hp1]; constructor <;> rfl) (lag_list (l := []) (by kernel_rfl) rfl) ?_
  refine XK.one rfl (by simp [hln, happ1, happ2, hp1]) rfl (by simp [hln, happ1, happ2, hp1]; constructor <;> rfl) (lag_list (l := []) (by kernel_rfl) rfl) ?_
  refine XK.nil ?_
  refine DK.ret ?_
  refine And.intro (Or.inr rfl) ?_
  refine ⟨_, by simp [absAnswer, absResults, absResult, Tryd.f30]; rfl, ?_⟩
  first
    | (have hres : addPl l p = ([], 0, rightPl p) := if_pos ‹_›
       exact ⟨_, by rw [hres], ⟨_, rfl⟩, by rw [hres]; exact RowAt.nil _, Own.nil _ _ _, New.nil _ _ _⟩)
    | (have hres : addPl l p = ([], 0, 3) := by unfold addPl; rw [if_neg (by simp [*]), if_pos (by omega)]
       exact ⟨_, by rw [hres], ⟨_, rfl⟩, by rw [hres]; exact RowAt.nil _, Own.nil _ _ _, New.nil _ _ _⟩)
    | (have hres : addPl l p = (l ++ [p], (l.length : Int), 0) := by unfold addPl; rw [if_neg (by simp [*]), if_neg (by omega)]
       exact ⟨_, by rw [hres], hkp.ext, by rw [hres]; exact hR2, hW2, hN2⟩)
theorem opena_s (n : Int) (p : Pl) (today : Int) (H : Mem) : FSem Tryd.prog [0] 57 #[.int .i64 n, p.v, .int .i64 today] H fun v H' => v = (openAc n p today).v (.slice none 0 0) ∧ H' = H := by
  refine FSem.plainT ?_
  refine FSem.ofK Tryd.func57 rfl ?_
  refine DK.from (b' := ⟨#[.int .i64 n, p.v, .int .i64 today, undef, undef, undef, undef, undef, undef, undef, undef, undef, undef], []⟩) (by kernel_rfl) ?_
  refine DK.seq ?_
  refine DK.region (is := [0, 1]) (by kernel_rfl) rfl ?_
  refine WK.run (rest := []) [0, 1] (by simp; constructor <;> rfl) ?_
  refine WK.nil ?_
  refine DK.seq ?_
  refine DK.region (is := [0, 1, 2, 3, 4, 5, 6]) (by kernel_rfl) rfl ?_
  refine WK.run (rest := []) [0, 1, 2, 3, 4, 5, 6] (by simp; constructor <;> rfl) ?_
  refine WK.nil ?_
  refine DK.ret ?_
  refine And.intro (Or.inr rfl) ?_
  refine ⟨_, by simp [absAnswer, absResults, absResult, Tryd.f57]; rfl, ?_⟩
  refine ⟨by first | exact ⟨[], (List.append_nil _).symm⟩ | exact ⟨_, rfl⟩, by simp, ?_⟩
  simp [openAc]
theorem newb_s (t : Int) (H : Mem) : FSem Tryd.prog [0] 12 #[.int .i64 t] H fun v H' => v = bkv t (.slice none 0 0) zL ∧ ∃ r, H' = H ++ r := by
  refine FSem.ofK Tryd.func12 rfl ?_
  refine DK.from (b' := ⟨#[.int .i64 t, undef, undef, undef, undef], []⟩) (by kernel_rfl) ?_
  refine DK.seq ?_
  refine DK.region (is := [0]) (by kernel_rfl) rfl ?_
  refine WK.run (rest := []) [0] (by simp; constructor <;> rfl) ?_
  refine WK.nil ?_
  refine DK.seq ?_
  refine DK.region (is := [0, 1, 2]) (by kernel_rfl) rfl ?_
  refine WK.run (rest := []) [0, 1, 2] (by simp; constructor <;> rfl) ?_
  refine WK.nil ?_
  refine DK.ret ?_
  refine And.intro (Or.inr rfl) ?_
  refine ⟨_, by simp [absAnswer, absResults, absResult, Tryd.f12]; rfl, ?_⟩
  exact ⟨by simp, _, rfl⟩
end Go.Den
set_option linter.unusedVariables false
set_option maxRecDepth 100000
namespace Go.Den
open Go Go.Proofs
structure BOk (k : Nat) (b : Bk) : Prop where
  pls : ∀ p ∈ b.pls, rightPl p = 0
  subs : ∀ a ∈ b.subs, 0 ≤ a.ix ∧ a.op.length ≤ k
  len : b.subs.length = 32
theorem right_bd {p : Pl} (h : rightPl p = 0) : 0 ≤ p.pr ∧ p.pr ≤ 1073741824 ∧ 1 ≤ p.ev ∧ p.ev ≤ 1000 ∧ p.un ≤ 3 ∧ 0 ≤ p.tr ∧ p.tr ≤ 1000 := by
  unfold rightPl at h
  split at h
  · omega
  · split at h
    · omega
    · rename_i h1 h2
      have h3 : srB p.un p.ev = true := by
        cases hc : srB p.un p.ev with
        | true => rfl
        | false => exact absurd (.inl hc) h1
      have h4 := of_decide_eq_true h3
      omega
def UnOk (l : List Pl) : Prop := ∀ p ∈ l, 0 ≤ p.un
theorem getP_mem {l : List Pl} {n : Int} : (getP l n).1 = zeroP ∨ (getP l n).1 ∈ l := by
  unfold getP
  split
  · exact .inl rfl
  · rename_i h
    right
    have hn : n.toNat < l.length := by omega
    simp only [List.getD_eq_getElem?_getD, List.getElem?_eq_getElem hn, Option.getD_some]
    exact List.getElem_mem hn
theorem getP_un {l : List Pl} (h : UnOk l) (n : Int) : 0 ≤ (getP l n).1.un := by
  rcases getP_mem (l := l) (n := n) with e | e
  · rw [e]; decide
  · exact h _ e
theorem getP_pr {l : List Pl} (h : ∀ p ∈ l, rightPl p = 0) (n : Int) : (getP l n).1.pr ≤ 1073741824 := by
  rcases getP_mem (l := l) (n := n) with e | e
  · rw [e]; decide
  · exact (right_bd (h _ e)).2.1
theorem getp_g (l : List Pl) (n : Int) {s : Value} {H : Mem} (hR : RowAt H s l) : FSem Tryd.prog [0] 55 #[s, .int .i64 n] H fun v H' => ∃ p e, v = .tuple #[Pl.v p, .int .i64 e] ∧ getP l n = (p, e) ∧ H = H' := by
  refine FSem.mono (getp_s l n hR) ?_
  rintro v H' ⟨rfl, rfl⟩
  exact ⟨_, _, rfl, rfl, rfl⟩
def BkRes (H : Mem) (sp0 : Value) (r : Bk × Int) (v : Value) (H' : Mem) : Prop := ∃ sp l, v = .tuple #[bkv r.1.today sp l, .int .i64 r.2] ∧ BkAt H' sp l r.1 ∧ Keep H H' ∧ ∀ c, blkOf sp = some c → blkOf sp0 = some c ∨ H.length ≤ c
theorem OpenAt.far {H : Mem} {s : Value} {l : List Cy} (h : OpenAt H s l) {k : Nat} {ro : Bool} {vs : List Value} (hk : H[k]? = some (.cells ro vs)) (hv : vs.length % 8 ≠ 0) : blkOf s ≠ some k := by
  rcases h with ⟨rfl, _⟩ | ⟨b, rfl, h2⟩
  · intro e; cases e
  · intro e
    have e1 : b = k := Option.some.inj e
    subst e1
    rw [h2] at hk
    cases hk
    rw [cysV_length] at hv; omega
theorem oright_g (o : Od) (H : Mem) : FSem Tryd.prog [0] 15 #[o.v] H fun v H' => v = .int .i64 (rightO o) ∧ H = H' := by
  refine FSem.mono (oright_s o H) ?_
  rintro v H' ⟨rfl, rfl⟩
  exact ⟨rfl, rfl⟩
theorem BkAt.sub {H : Mem} {sp : Value} {l : List As} {b : Bk} (h : BkAt H sp l b) {i : Int} (h0 : 0 ≤ i) (h1 : i < 32) : ∃ x : As, x.a = b.sub i ∧ l[i.toNat]? = some x ∧ OpenAt H x.s x.a.op ∧
    (∀ t, List.take 13 (List.drop (2 + i.toNat * 13) (BkL t sp l)) = x.a.l x.s) ∧ (∀ t, List.take 1 (List.drop (2 + i.toNat * 13) (BkL t sp l)) = [.int .u8 x.a.st]) ∧ absPart Tryd.prog 32 (rowV l).toArray (i.toNat * 13) = some (x.a.v x.s) := by
  have hi : i.toNat < l.length := by have := h.len; omega
  refine ⟨l[i.toNat], ?_, List.getElem?_eq_getElem hi, h.op _ (List.getElem_mem hi), fun t => bk_at hi, fun t => bk_st hi, part_at hi⟩
  have e : b.subs[i.toNat]? = some (l[i.toNat]).a := by rw [← h.map, List.getElem?_map, List.getElem?_eq_getElem hi]; rfl
  unfold Bk.sub
  rw [List.getD_eq_getElem?_getD, e]; rfl
theorem BkAt.put {H : Mem} {sp : Value} {l : List As} {b : Bk} (h : BkAt H sp l b) {i : Int} (h0 : 0 ≤ i) (h1 : i < 32) {x : As} (hx : OpenAt H x.s x.a.op) : BkAt H sp (l.set i.toNat x) { b with subs := b.subs.set i.toNat x.a } := by
  refine ⟨h.pls, by rw [List.map_set, h.map], by rw [List.length_set]; exact h.len, fun y hy => ?_⟩
  rcases List.mem_or_eq_of_mem_set hy with q | rfl
  · exact h.op y q
  · exact hx
theorem BkAt.sp {H : Mem} {sp : Value} {l : List As} {b : Bk} (h : BkAt H sp l b) {i : Int} (h0 : 0 ≤ i) (h1 : i < 32) (t : Int) (x : As) : splice (BkL t sp l) (2 + i.toNat * 13) (x.a.l x.s) = BkL t sp (l.set i.toNat x) := sp_at (by have := h.len; omega) x
theorem BkAt.zero (H : Mem) : BkAt H (.slice none 0 0) zL zeroB := ⟨RowAt.nil _, by simp [zeroB, zAs, zL], by simp, fun x hx => by rw [List.eq_of_mem_replicate (show x ∈ List.replicate 32 zAs from hx)]; exact .inl ⟨rfl, rfl⟩⟩
theorem BkAt.new (H : Mem) (t : Int) : BkAt H (.slice none 0 0) zL (newB t) := ⟨RowAt.nil _, by simp [newB, zAs, zL], by simp, fun x hx => by rw [List.eq_of_mem_replicate (show x ∈ List.replicate 32 zAs from hx)]; exact .inl ⟨rfl, rfl⟩⟩
theorem opena_g (n : Int) (p : Pl) (today : Int) (H : Mem) : FSem Tryd.prog [0] 57 #[.int .i64 n, p.v, .int .i64 today] H fun v H' => v = (openAc n p today).v (.slice none 0 0) ∧ H = H' := by
  refine FSem.mono (opena_s n p today H) ?_
  rintro v H' ⟨rfl, rfl⟩
  exact ⟨rfl, rfl⟩
theorem sub_mem {b : Bk} (h : b.subs.length = 32) {i : Int} (h0 : 0 ≤ i) (h1 : i < 32) : b.sub i ∈ b.subs := by
  have hi : i.toNat < b.subs.length := by omega
  unfold Bk.sub
  rw [List.getD_eq_getElem?_getD, List.getElem?_eq_getElem hi]
  exact List.getElem_mem hi
theorem dayN_le {a : Ac} (h : 0 ≤ a.ix) : dayN a ≤ 3652060 := by unfold dayN; omega
end Go.Den
namespace Go.Den
open Go Go.Proofs
set_option maxRecDepth 100000
set_option maxHeartbeats 1000000
set_option linter.all false
attribute [local simp] evOps evOp absOp absBox absLoad absStore absField absIndexAddr absCells absBinOp absBin absInt absShift absUn absPick absNil absExtract absPlaces Instr.fill absBuiltin absMinMax plainV plainT allA flat cells_agg cells_int cells_bool cells_str cells_ptr cells_sl cells_map one_int one_bool one_str one_ptr one_sl one_map Act.eval Act.put Region.wanted yielded absCall TypeDesc.isRow
attribute [local simp high] bk_t bk_p bk_take bk_row BkL_len sp_bk sp_t sp_p
attribute [local simp] sp_nil sp_0 sp_s List.length_set
theorem bopen_s (k : Nat) (b : Bk) (o : Od) {sp : Value} {l : List As} {H : Mem} (hB : BkAt H sp l b) (hk : BOk k b) (hu : UnOk b.pls) (h0 : 0 ≤ o.su) (h1 : o.su < 32) : FSem Tryd.prog [0] 31 #[bkv b.today sp l, o.v] H fun v H' => AcRes H (openB b o) v H' := by
  refine FSem.ofK Tryd.func31 rfl ?_
  refine DK.from (b' := ⟨#[bkv b.today sp l, o.v, undef, undef, undef, undef, undef, undef, undef, undef, undef, undef, undef, undef, undef, undef, undef, undef, undef, undef, undef, undef, undef, undef, undef, undef, undef, undef, undef, undef, undef, undef, undef, undef, undef, undef, undef, undef, undef, undef, undef, undef, undef, undef, undef, undef, undef, undef, undef, undef], []⟩) (by kernel_rfl) ?_
  have m0 := True.intro
  have m1 := True.intro
  have m2 := True.intro
  have qq := True.intro
  have hs0 := True.intro
  have hs1 := True.intro
  have hi0 := True.intro
  have hi1 := True.intro
  have hi2 := True.intro
  have hi3 := True.intro
  have hst := True.intro
  have htk := True.intro
  have hpt := True.intro
  have hcc := True.intro
  have hcd := True.intro
  obtain ⟨hsp0, hsp1⟩ := hB.pls.cells
  have hl32 := hB.len
  have hF := True.intro
  obtain ⟨x, hxa, hxl, hxo, htk1, hst1, hpt1⟩ := hB.sub h0 h1
  replace hi0 := h0
  replace hi1 := h1
  replace hi2 : 2 + o.su.toNat * 13 ≤ 417 := by omega
  replace hi3 : 2 + o.su.toNat * 13 ≤ 405 := by omega
  replace hst := hst1 b.today
  refine DK.seq ?_
  refine DK.region (is := [0, 1, 2, 3]) (by kernel_rfl) rfl ?_
  refine WK.run (rest := []) [0, 1, 2, 3] (by simp [m0, m1, m2, qq, hs0, hs1, hsp0, hsp1, hl32, hi0, hi1, hi2, hi3, hst, htk, hpt, hcc, hcd]; constructor <;> rfl) ?_
  refine WK.nil ?_
  refine DK.abs (fun M0 => AtM H [BkL b.today sp l, o.l, zeroA.l (.slice none 0 0)] M0 ∧ OpenAt M0 (.slice none 0 0) ([] : List Cy)) ⟨AtM.start H [] [_, _, _], .inl ⟨rfl, rfl⟩⟩ ?_
  try clear hM
  try clear hO
  rintro M0 ⟨hM, hO⟩
  replace m0 := hM.own 0 (by simp)
  replace m1 := hM.own 1 (by simp)
  replace m2 := hM.own 2 (by simp)
  simp only [List.getElem_cons_zero, List.getElem_cons_succ, Nat.add_zero] at m0 m1 m2
  replace qq := hM.q3
  replace hs0 := hO.cells.1
  replace hs1 := hO.cells.2
  refine DK.seq ?_
  refine DK.region (is := [0, 1, 2, 3, 4, 5, 6, 7, 8, 9, 10]) (by kernel_rfl) rfl ?_
  refine WK.run (rest := [4, 5, 6, 7, 8, 9, 10]) [0, 1, 2, 3] (by simp [m0, m1, m2, qq, hs0, hs1, hsp0, hsp1, hl32, hi0, hi1, hi2, hi3, hst, htk, hpt, hcc, hcd]; constructor <;> rfl) ?_
  refine WK.call rfl (by simp [m0, m1, m2, qq, hs0, hs1, hsp0, hsp1, hl32, hi0, hi1, hi2, hi3, hst, htk, hpt, hcc, hcd]) (by simp [Tryd.func55, Tryd.f55, m0, m1, m2, qq, hs0, hs1, hsp0, hsp1, hl32, hi0, hi1, hi2, hi3, hst, htk, hpt, hcc, hcd]; constructor <;> rfl) ?_
  refine FSem.mono (getp_g b.pls o.pl (hB.pls.keep hM.keep)) ?_
  rintro _ Hq ⟨p, e, rfl, hgp, hq⟩
  subst hq
  refine WK.run (rest := []) [5, 6, 7, 8, 9, 10] (by simp [m0, m1, m2, qq, hs0, hs1, hsp0, hsp1, hl32, hi0, hi1, hi2, hi3, hst, htk, hpt, hcc, hcd]; constructor <;> rfl) ?_
  refine WK.nil ?_
  refine DK.abs (fun M1 => AtM H [BkL b.today sp l, o.l, zeroA.l (.slice none 0 0)] M1 ∧ OpenAt M1 (.slice none 0 0) ([] : List Cy) ∧ M1[M0.length]? = some (.cells false p.l)) ⟨hM.on (Keep.app _ _), .inl ⟨rfl, rfl⟩, by simp⟩ ?_
  try clear hM
  try clear hO
  rintro M1 ⟨hM, hO, hcc⟩
  replace m0 := hM.own 0 (by simp)
  replace m1 := hM.own 1 (by simp)
  replace m2 := hM.own 2 (by simp)
  simp only [List.getElem_cons_zero, List.getElem_cons_succ, Nat.add_zero] at m0 m1 m2
  replace qq := hM.q3
  replace hs0 := hO.cells.1
  replace hs1 := hO.cells.2
  refine DK.seq ?_
  refine DK.block ?_
  refine DK.seq ?_
  refine DK.region (is := [0, 1, 2]) (by kernel_rfl) rfl ?_
  refine WK.run (rest := []) [0, 1, 2] (by simp [m0, m1, m2, qq, hs0, hs1, hsp0, hsp1, hl32, hi0, hi1, hi2, hi3, hst, htk, hpt, hcc, hcd]; constructor <;> rfl) ?_
  refine WK.nil ?_
  refine DK.test rfl rfl (fun h => ?_) (fun h => ?_)
  · try simp only [h]
    replace h := Tr.out h
    refine DK.seq ?_
    refine DK.region (is := [0, 1, 2, 3]) (by kernel_rfl) rfl ?_
    refine WK.run (rest := []) [0, 1, 2, 3] (by simp [m0, m1, m2, qq, hs0, hs1, hsp0, hsp1, hl32, hi0, hi1, hi2, hi3, hst, htk, hpt, hcc, hcd]; constructor <;> rfl) ?_
    refine WK.nil ?_
    refine DK.abs (fun MZ => AtM H [BkL b.today sp l, o.l, zeroA.l (.slice none 0 0)] MZ ∧ OpenAt MZ (.slice none 0 0) zeroA.op) ⟨hM.set (i := 2) (by simp) _, .inl ⟨rfl, rfl⟩⟩ ?_
    try clear hM
    try clear hO
    rintro MZ ⟨hM, hO⟩
    replace m0 := hM.own 0 (by simp)
    replace m1 := hM.own 1 (by simp)
    replace m2 := hM.own 2 (by simp)
    simp only [List.getElem_cons_zero, List.getElem_cons_succ, Nat.add_zero] at m0 m1 m2
    replace qq := hM.q3
    replace hs0 := hO.cells.1
    replace hs1 := hO.cells.2
    replace hF : Fresh (H.length + 3) (.slice none 0 0) := .inl rfl
    have hres : openB b o = (zeroA, e) := by unfold openB; simp only [hgp]; rw [if_pos ‹_›]
    refine DK.ret ?_
    refine And.intro (Or.inr rfl) ?_
    refine ⟨_, by simp [absAnswer, absResults, absResult, Tryd.f31, m0, m1, m2, qq, hs0, hs1]; rfl, ?_⟩
    exact ⟨_, by rw [hres]; rfl, hM.keep.ext, by rw [hres]; exact hO, hF.le (by omega)⟩
  try simp only [h]
  replace h := Fa.out h
  refine DK.seq ?_
  refine DK.region (is := [0, 1, 2, 3, 4, 5, 6, 7]) (by kernel_rfl) rfl ?_
  refine WK.run (rest := []) [0, 1, 2, 3, 4, 5, 6, 7] (by simp [m0, m1, m2, qq, hs0, hs1, hsp0, hsp1, hl32, hi0, hi1, hi2, hi3, hst, htk, hpt, hcc, hcd]; constructor <;> rfl) ?_
  refine WK.nil ?_
  refine DK.test rfl rfl (fun h => ?_) (fun h => ?_)
  · try simp only [h]
    replace h := Tr.out h
    refine DK.seq ?_
    refine DK.region (is := [0, 1, 2]) (by kernel_rfl) rfl ?_
    refine WK.run (rest := []) [0, 1, 2] (by simp [m0, m1, m2, qq, hs0, hs1, hsp0, hsp1, hl32, hi0, hi1, hi2, hi3, hst, htk, hpt, hcc, hcd]; constructor <;> rfl) ?_
    refine WK.nil ?_
    refine DK.abs (fun MZ => AtM H [BkL b.today sp l, o.l, zeroA.l (.slice none 0 0)] MZ ∧ OpenAt MZ (.slice none 0 0) zeroA.op) ⟨hM.set (i := 2) (by simp) _, .inl ⟨rfl, rfl⟩⟩ ?_
    try clear hM
    try clear hO
    rintro MZ ⟨hM, hO⟩
    replace m0 := hM.own 0 (by simp)
    replace m1 := hM.own 1 (by simp)
    replace m2 := hM.own 2 (by simp)
    simp only [List.getElem_cons_zero, List.getElem_cons_succ, Nat.add_zero] at m0 m1 m2
    replace qq := hM.q3
    replace hs0 := hO.cells.1
    replace hs1 := hO.cells.2
    replace hF : Fresh (H.length + 3) (.slice none 0 0) := .inl rfl
    have hres : openB b o = (zeroA, 11) := by unfold openB; simp only [hgp]; rw [if_neg (by simp [*]), if_pos (by rw [← hxa]; assumption)]
    refine DK.ret ?_
    refine And.intro (Or.inr rfl) ?_
    refine ⟨_, by simp [absAnswer, absResults, absResult, Tryd.f31, m0, m1, m2, qq, hs0, hs1]; rfl, ?_⟩
    exact ⟨_, by rw [hres]; rfl, hM.keep.ext, by rw [hres]; exact hO, hF.le (by omega)⟩
  try simp only [h]
  replace h := Fa.out h
  refine DK.seq ?_
  refine DK.region (is := [0, 1, 2, 3, 4, 5, 6]) (by kernel_rfl) rfl ?_
  refine WK.run (rest := []) [0, 1, 2, 3, 4, 5, 6] (by simp [m0, m1, m2, qq, hs0, hs1, hsp0, hsp1, hl32, hi0, hi1, hi2, hi3, hst, htk, hpt, hcc, hcd]; constructor <;> rfl) ?_
  refine WK.nil ?_
  refine DK.test rfl rfl (fun h => ?_) (fun h => ?_)
  · try simp only [h]
    replace h := Tr.out h
    refine DK.seq ?_
    refine DK.region (is := [0, 1, 2]) (by kernel_rfl) rfl ?_
    refine WK.run (rest := []) [0, 1, 2] (by simp [m0, m1, m2, qq, hs0, hs1, hsp0, hsp1, hl32, hi0, hi1, hi2, hi3, hst, htk, hpt, hcc, hcd]; constructor <;> rfl) ?_
    refine WK.nil ?_
    refine DK.abs (fun MZ => AtM H [BkL b.today sp l, o.l, zeroA.l (.slice none 0 0)] MZ ∧ OpenAt MZ (.slice none 0 0) zeroA.op) ⟨hM.set (i := 2) (by simp) _, .inl ⟨rfl, rfl⟩⟩ ?_
    try clear hM
    try clear hO
    rintro MZ ⟨hM, hO⟩
    replace m0 := hM.own 0 (by simp)
    replace m1 := hM.own 1 (by simp)
    replace m2 := hM.own 2 (by simp)
    simp only [List.getElem_cons_zero, List.getElem_cons_succ, Nat.add_zero] at m0 m1 m2
    replace qq := hM.q3
    replace hs0 := hO.cells.1
    replace hs1 := hO.cells.2
    replace hF : Fresh (H.length + 3) (.slice none 0 0) := .inl rfl
    have hres : openB b o = (zeroA, 6) := by unfold openB; simp only [hgp]; rw [if_neg (by simp [*]), if_neg (by rw [← hxa]; exact fun q => q ‹x.a.st = 0›), if_pos (by omega)]
    refine DK.ret ?_
    refine And.intro (Or.inr rfl) ?_
    refine ⟨_, by simp [absAnswer, absResults, absResult, Tryd.f31, m0, m1, m2, qq, hs0, hs1]; rfl, ?_⟩
    exact ⟨_, by rw [hres]; rfl, hM.keep.ext, by rw [hres]; exact hO, hF.le (by omega)⟩
  try simp only [h]
  replace h := Fa.out h
  refine DK.skip ?_
  refine DK.seq ?_
  refine DK.draw rfl (POk.of (ord := [0, 1, 2, 3, 4, 6, 7, 8, 5, 9, 10, 11, 12, 13]) (by kernel_rfl)) ?_
  refine XK.run (rest := [5, 9, 10, 11, 12, 13]) [0, 1, 2, 3, 4, 6, 7, 8] (by kernel_rfl) (by simp [m0, m1, m2, qq, hs0, hs1, hsp0, hsp1, hl32, hi0, hi1, hi2, hi3, hst, htk, hpt, hcc, hcd]; constructor <;> rfl) ?_
  refine XK.call rfl (by simp [m0, m1, m2, qq, hs0, hs1, hsp0, hsp1, hl32, hi0, hi1, hi2, hi3, hst, htk, hpt, hcc, hcd]) rfl (by simp [Tryd.func57, Tryd.f57, m0, m1, m2, qq, hs0, hs1, hsp0, hsp1, hl32, hi0, hi1, hi2, hi3, hst, htk, hpt, hcc, hcd]; constructor <;> rfl) ?_
  refine FSem.mono (opena_g o.pl p b.today _) ?_
  rintro _ Hq ⟨rfl, hq⟩
  subst hq
  refine And.intro (lag_list (l := [6, 8]) (by kernel_rfl) (lag_cons (lag_one rfl (by simp [m0, m1, m2, qq, hs0, hs1, hsp0, hsp1, hl32, hi0, hi1, hi2, hi3, hst, htk, hpt, hcc, hcd]; constructor <;> rfl) rfl (by simp [m0, m1, m2, qq, hs0, hs1, hsp0, hsp1, hl32, hi0, hi1, hi2, hi3, hst, htk, hpt, hcc, hcd]) (by simp [sameL, sameV_agg, sameV_int, sameV_bool, sameV_str, sameV_ptr, sameV_sl, sameV_map, same1_int, same1_bool, same1_str, same1_ptr, same1_sl, same1_map, m0, m1, m2, qq, hs0, hs1, hsp0, hsp1, hl32, hi0, hi1, hi2, hi3, hst, htk, hpt, hcc, hcd]) rfl) (lag_cons (lag_one rfl (by simp [m0, m1, m2, qq, hs0, hs1, hsp0, hsp1, hl32, hi0, hi1, hi2, hi3, hst, htk, hpt, hcc, hcd]; constructor <;> rfl) rfl (by simp [m0, m1, m2, qq, hs0, hs1, hsp0, hsp1, hl32, hi0, hi1, hi2, hi3, hst, htk, hpt, hcc, hcd]) (by simp [sameL, sameV_agg, sameV_int, sameV_bool, sameV_str, sameV_ptr, sameV_sl, sameV_map, same1_int, same1_bool, same1_str, same1_ptr, same1_sl, same1_map, m0, m1, m2, qq, hs0, hs1, hsp0, hsp1, hl32, hi0, hi1, hi2, hi3, hst, htk, hpt, hcc, hcd]) rfl) rfl))) ?_
  refine XK.call rfl (by simp [m0, m1, m2, qq, hs0, hs1, hsp0, hsp1, hl32, hi0, hi1, hi2, hi3, hst, htk, hpt, hcc, hcd]) rfl (by simp [Tryd.func56, Tryd.f56, m0, m1, m2, qq, hs0, hs1, hsp0, hsp1, hl32, hi0, hi1, hi2, hi3, hst, htk, hpt, hcc, hcd]; constructor <;> rfl) ?_
  refine FSem.mono (day_s (openAc o.pl p b.today) p b.today (by have := getP_un hu o.pl; rw [hgp] at this; exact this) (.inl ⟨rfl, rfl⟩) (by simp [openAc, dayN])) ?_
  rintro _ R ⟨s2, rfl, hA, hO, hF⟩
  replace hF : Fresh (H.length + 3) s2 := hF.le (hM.lt (i := 2) (by simp))
  replace hM := hM.on (Keep.of hA)
  replace m0 := hM.own 0 (by simp)
  replace m1 := hM.own 1 (by simp)
  replace m2 := hM.own 2 (by simp)
  simp only [List.getElem_cons_zero, List.getElem_cons_succ, Nat.add_zero] at m0 m1 m2
  replace qq := hM.q3
  replace hs0 := hO.cells.1
  replace hs1 := hO.cells.2
  refine And.intro (lag_list (l := []) (by kernel_rfl) rfl) ?_
  refine XK.run (rest := [12, 13]) [10, 11] (by kernel_rfl) (by simp [m0, m1, m2, qq, hs0, hs1, hsp0, hsp1, hl32, hi0, hi1, hi2, hi3, hst, htk, hpt, hcc, hcd]; constructor <;> rfl) ?_
  refine XK.one rfl (by simp [m0, m1, m2, qq, hs0, hs1, hsp0, hsp1, hl32, hi0, hi1, hi2, hi3, hst, htk, hpt, hcc, hcd]) rfl (by simp [m0, m1, m2, qq, hs0, hs1, hsp0, hsp1, hl32, hi0, hi1, hi2, hi3, hst, htk, hpt, hcc, hcd]; constructor <;> rfl) (lag_list (l := []) (by kernel_rfl) rfl) ?_
  refine XK.one rfl (by simp [m0, m1, m2, qq, hs0, hs1, hsp0, hsp1, hl32, hi0, hi1, hi2, hi3, hst, htk, hpt, hcc, hcd]) rfl (by simp [m0, m1, m2, qq, hs0, hs1, hsp0, hsp1, hl32, hi0, hi1, hi2, hi3, hst, htk, hpt, hcc, hcd]; constructor <;> rfl) (lag_list (l := []) (by kernel_rfl) rfl) ?_
  refine XK.nil ?_
  have hres : openB b o = dayA (openAc o.pl p b.today) p b.today := by unfold openB; simp only [hgp]; rw [if_neg (by simp [*]), if_neg (by rw [← hxa]; exact fun q => q ‹x.a.st = 0›), if_neg (by omega)]
  refine DK.abs (fun M5 => AtM H [BkL b.today sp l, o.l, (dayA (openAc o.pl p b.today) p b.today).1.l s2] M5 ∧ OpenAt M5 s2 (dayA (openAc o.pl p b.today) p b.today).1.op) ⟨hM.set (i := 2) (by simp) _, hO.set (hF.ne (by omega)) _⟩ ?_
  try clear hM
  try clear hO
  rintro M5 ⟨hM, hO⟩
  replace m0 := hM.own 0 (by simp)
  replace m1 := hM.own 1 (by simp)
  replace m2 := hM.own 2 (by simp)
  simp only [List.getElem_cons_zero, List.getElem_cons_succ, Nat.add_zero] at m0 m1 m2
  replace qq := hM.q3
  replace hs0 := hO.cells.1
  replace hs1 := hO.cells.2
  refine DK.ret ?_
  refine And.intro (Or.inr rfl) ?_
  refine ⟨_, by simp [absAnswer, absResults, absResult, Tryd.f31, m0, m1, m2, qq, hs0, hs1]; rfl, ?_⟩
  exact ⟨_, by rw [hres]; rfl, hM.keep.ext, by rw [hres]; exact hO, hF.le (by omega)⟩
end Go.Den
set_option linter.unusedVariables false
set_option maxRecDepth 100000
namespace Go.Den
open Go Go.Proofs
theorem asksFrom_app : ∀ (k : Nat) (l r : List Ac), asksFrom k (l ++ r) = asksFrom k l ++ asksFrom (k + l.length) r
  | k, [], r => by simp [asksFrom]
  | k, a :: l, r => by simp [asksFrom, asksFrom_app (k + 1) l r, Nat.add_assoc, Nat.add_comm 1]
theorem asks_take {b : Bk} {i : Nat} (h : i < b.subs.length) : asksFrom 0 (b.subs.take (i + 1)) = asksFrom 0 (b.subs.take i) ++ asksA i b.subs[i] := by
  rw [List.take_succ_eq_append_getElem h, asksFrom_app]
  simp [asksFrom, Nat.min_eq_left (Nat.le_of_lt h)]
theorem asks_bound {k : Nat} : ∀ (n : Nat) (l : List Ac), (∀ a ∈ l, a.op.length ≤ k) → (asksFrom n l).length ≤ l.length * k
  | n, [], _ => by simp [asksFrom]
  | n, a :: l, h => by
    simp only [asksFrom, List.length_append, List.length_cons]
    have h1 : (asksA n a).length ≤ a.op.length := asksL_len _ _
    have h2 := h a (by simp)
    have h3 := asks_bound (n + 1) l (fun x hx => h x (by simp [hx]))
    rw [Nat.succ_mul]; omega
theorem BkAt.nth {H : Mem} {sp : Value} {l : List As} {b : Bk} (h : BkAt H sp l b) {i : Nat} (hi : i < 32) : ∃ (x : As) (h1 : i < b.subs.length), x.a = b.subs[i] ∧ b.sub i = b.subs[i] ∧ l[i]? = some x ∧ OpenAt H x.s x.a.op ∧ absPart Tryd.prog 32 (rowV l).toArray (i * 13) = some (x.a.v x.s) := by
  have hl : i < l.length := by have := h.len; omega
  have h1 : i < b.subs.length := by rw [← h.map]; simpa using hl
  refine ⟨l[i], h1, ?_, ?_, List.getElem?_eq_getElem hl, h.op _ (List.getElem_mem hl), part_at hl⟩
  · have e : b.subs[i]? = some (l[i]).a := by rw [← h.map, List.getElem?_map, List.getElem?_eq_getElem hl]; rfl
    rw [List.getElem?_eq_getElem h1] at e
    exact (Option.some.inj e).symm
  · unfold Bk.sub
    rw [List.getD_eq_getElem?_getD, Int.toNat_natCast, List.getElem?_eq_getElem h1]; rfl
end Go.Den
namespace Go.Den
open Go Go.Proofs
set_option maxRecDepth 100000
set_option maxHeartbeats 1000000
set_option linter.all false
attribute [local simp] evOps evOp absOp absBox absLoad absStore absField absIndexAddr absCells absBinOp absBin absInt absShift absUn absPick absNil absExtract absPlaces Instr.fill absBuiltin absMinMax plainV plainT allA flat cells_agg cells_int cells_bool cells_str cells_ptr cells_sl cells_map one_int one_bool one_str one_ptr one_sl one_map Act.eval Act.put Region.wanted yielded absCall TypeDesc.isRow
attribute [local simp high] bk_t bk_p bk_take bk_row BkL_len sp_bk sp_t sp_p
attribute [local simp] sp_nil sp_0 sp_s List.length_set
theorem bturn_s (k : Nat) (b : Bk) (a : Ac) (o : Od) {sp : Value} {l : List As} {H : Mem} (hB : BkAt H sp l b) (hk : BOk k b) (hu : UnOk b.pls) {s : Value} (hO : OpenAt H s a.op) (hn : a.op.length ≤ 1000000000000) : FSem Tryd.prog [0] 34 #[bkv b.today sp l, a.v s, o.v] H fun v H' => AcRes H (turnB b a o) v H' := by
  refine FSem.ofK Tryd.func34 rfl ?_
  refine DK.from (b' := ⟨#[bkv b.today sp l, a.v s, o.v, undef, undef, undef, undef, undef, undef, undef, undef, undef, undef, undef, undef, undef, undef, undef, undef, undef, undef, undef, undef, undef, undef, undef, undef, undef, undef, undef, undef, undef, undef, undef, undef, undef, undef, undef, undef, undef, undef, undef, undef, undef, undef, undef, undef, undef, undef, undef, undef, undef, undef, undef, undef, undef, undef, undef, undef, undef, undef, undef, undef, undef, undef, undef, undef, undef, undef, undef, undef, undef, undef, undef], []⟩) (by kernel_rfl) ?_
  have m0 := True.intro
  have m1 := True.intro
  have m2 := True.intro
  have m3 := True.intro
  have qq := True.intro
  have hs0 := True.intro
  have hs1 := True.intro
  have hcc := True.intro
  have hcd := True.intro
  obtain ⟨hsp0, hsp1⟩ := hB.pls.cells
  have hl32 := hB.len
  have hF := True.intro
  refine DK.seq ?_
  refine DK.region (is := [0, 1, 2, 3, 4]) (by kernel_rfl) rfl ?_
  refine WK.run (rest := []) [0, 1, 2, 3, 4] (by simp [m0, m1, m2, m3, qq, hs0, hs1, hsp0, hsp1, hl32, hcc, hcd]; constructor <;> rfl) ?_
  refine WK.nil ?_
  refine DK.abs (fun M0 => AtM H [BkL b.today sp l, a.l s, o.l, zeroA.l (.slice none 0 0)] M0 ∧ OpenAt M0 s a.op) ⟨AtM.start H [] [_, _, _, _], hO.app _⟩ ?_
  try clear hM
  try clear hO
  rintro M0 ⟨hM, hO⟩
  replace m0 := hM.own 0 (by simp)
  replace m1 := hM.own 1 (by simp)
  replace m2 := hM.own 2 (by simp)
  replace m3 := hM.own 3 (by simp)
  simp only [List.getElem_cons_zero, List.getElem_cons_succ, Nat.add_zero] at m0 m1 m2 m3
  replace qq := hM.q4
  replace hs0 := hO.cells.1
  replace hs1 := hO.cells.2
  refine DK.seq ?_
  refine DK.seq ?_
  refine DK.region (is := [0, 1]) (by kernel_rfl) rfl ?_
  refine WK.run (rest := []) [0, 1] (by simp [m0, m1, m2, m3, qq, hs0, hs1, hsp0, hsp1, hl32, hcc, hcd]; constructor <;> rfl) ?_
  refine WK.nil ?_
  refine DK.block ?_
  refine DK.seq ?_
  refine DK.region (is := [0, 1]) (by kernel_rfl) rfl ?_
  refine WK.run (rest := []) [0, 1] (by simp [m0, m1, m2, m3, qq, hs0, hs1, hsp0, hsp1, hl32, hcc, hcd]; constructor <;> rfl) ?_
  refine WK.nil ?_
  refine DK.test rfl rfl (fun h => ?_) (fun h => ?_)
  · try simp only [h]
    replace h := Tr.out h
    refine DK.seq ?_
    refine DK.region (is := [0, 1, 2, 3, 4, 5]) (by kernel_rfl) rfl ?_
    refine WK.run (rest := [1, 2, 3, 4, 5]) [0] (by simp [m0, m1, m2, m3, qq, hs0, hs1, hsp0, hsp1, hl32, hcc, hcd]; constructor <;> rfl) ?_
    refine WK.call rfl (by simp [m0, m1, m2, m3, qq, hs0, hs1, hsp0, hsp1, hl32, hcc, hcd]) (by simp [Tryd.func61, Tryd.f61, m0, m1, m2, m3, qq, hs0, hs1, hsp0, hsp1, hl32, hcc, hcd]; constructor <;> rfl) ?_
    refine FSem.mono (pause_s a hO hn) ?_
    rintro _ R ⟨s2, rfl, hA, hO, hF⟩
    replace hF : Fresh (H.length + 4) s2 := hF.le (hM.lt (i := 3) (by simp))
    replace hM := hM.on (Keep.of hA)
    replace m0 := hM.own 0 (by simp)
    replace m1 := hM.own 1 (by simp)
    replace m2 := hM.own 2 (by simp)
    replace m3 := hM.own 3 (by simp)
    simp only [List.getElem_cons_zero, List.getElem_cons_succ, Nat.add_zero] at m0 m1 m2 m3
    replace qq := hM.q4
    replace hs0 := hO.cells.1
    replace hs1 := hO.cells.2
    refine WK.run (rest := []) [2, 3, 4, 5] (by simp [m0, m1, m2, m3, qq, hs0, hs1, hsp0, hsp1, hl32, hcc, hcd]; constructor <;> rfl) ?_
    refine WK.nil ?_
    refine DK.abs (fun M5 => AtM H [BkL b.today sp l, a.l s, o.l, (turnA a 1 2).1.l s2] M5 ∧ OpenAt M5 s2 (turnA a 1 2).1.op) ⟨hM.set (i := 3) (by simp) _, hO.set (hF.ne (by omega)) _⟩ ?_
    try clear hM
    try clear hO
    rintro M5 ⟨hM, hO⟩
    replace m0 := hM.own 0 (by simp)
    replace m1 := hM.own 1 (by simp)
    replace m2 := hM.own 2 (by simp)
    replace m3 := hM.own 3 (by simp)
    simp only [List.getElem_cons_zero, List.getElem_cons_succ, Nat.add_zero] at m0 m1 m2 m3
    replace qq := hM.q4
    replace hs0 := hO.cells.1
    replace hs1 := hO.cells.2
    have hres : turnB b a o = ((turnA a 1 2).1, (turnA a 1 2).2) := by
      unfold turnB
      rw [if_pos ‹o.kd = 4›]
    refine DK.ret ?_
    refine And.intro (Or.inr rfl) ?_
    refine ⟨_, by simp [absAnswer, absResults, absResult, Tryd.f34, m0, m1, m2, m3, qq, hs0, hs1]; rfl, ?_⟩
    exact ⟨_, by rw [hres]; rfl, hM.keep.ext, by rw [hres]; exact hO, hF.le (by omega)⟩
  try simp only [h]
  replace h := Fa.out h
  refine DK.seq ?_
  refine DK.region (is := [0, 1]) (by kernel_rfl) rfl ?_
  refine WK.run (rest := []) [0, 1] (by simp [m0, m1, m2, m3, qq, hs0, hs1, hsp0, hsp1, hl32, hcc, hcd]; constructor <;> rfl) ?_
  refine WK.nil ?_
  refine DK.test rfl rfl (fun h => ?_) (fun h => ?_)
  · try simp only [h]
    replace h := Tr.out h
    refine DK.seq ?_
    refine DK.region (is := [0, 1, 2, 3, 4, 5]) (by kernel_rfl) rfl ?_
    refine WK.run (rest := [1, 2, 3, 4, 5]) [0] (by simp [m0, m1, m2, m3, qq, hs0, hs1, hsp0, hsp1, hl32, hcc, hcd]; constructor <;> rfl) ?_
    refine WK.call rfl (by simp [m0, m1, m2, m3, qq, hs0, hs1, hsp0, hsp1, hl32, hcc, hcd]) (by simp [Tryd.func62, Tryd.f62, m0, m1, m2, m3, qq, hs0, hs1, hsp0, hsp1, hl32, hcc, hcd]; constructor <;> rfl) ?_
    refine FSem.mono (resume_s a hO hn) ?_
    rintro _ R ⟨s2, rfl, hA, hO, hF⟩
    replace hF : Fresh (H.length + 4) s2 := hF.le (hM.lt (i := 3) (by simp))
    replace hM := hM.on (Keep.of hA)
    replace m0 := hM.own 0 (by simp)
    replace m1 := hM.own 1 (by simp)
    replace m2 := hM.own 2 (by simp)
    replace m3 := hM.own 3 (by simp)
    simp only [List.getElem_cons_zero, List.getElem_cons_succ, Nat.add_zero] at m0 m1 m2 m3
    replace qq := hM.q4
    replace hs0 := hO.cells.1
    replace hs1 := hO.cells.2
    refine WK.run (rest := []) [2, 3, 4, 5] (by simp [m0, m1, m2, m3, qq, hs0, hs1, hsp0, hsp1, hl32, hcc, hcd]; constructor <;> rfl) ?_
    refine WK.nil ?_
    refine DK.abs (fun M5 => AtM H [BkL b.today sp l, a.l s, o.l, (turnA a 2 1).1.l s2] M5 ∧ OpenAt M5 s2 (turnA a 2 1).1.op) ⟨hM.set (i := 3) (by simp) _, hO.set (hF.ne (by omega)) _⟩ ?_
    try clear hM
    try clear hO
    rintro M5 ⟨hM, hO⟩
    replace m0 := hM.own 0 (by simp)
    replace m1 := hM.own 1 (by simp)
    replace m2 := hM.own 2 (by simp)
    replace m3 := hM.own 3 (by simp)
    simp only [List.getElem_cons_zero, List.getElem_cons_succ, Nat.add_zero] at m0 m1 m2 m3
    replace qq := hM.q4
    replace hs0 := hO.cells.1
    replace hs1 := hO.cells.2
    have hres : turnB b a o = ((turnA a 2 1).1, (turnA a 2 1).2) := by
      unfold turnB
      rw [if_neg ‹¬o.kd = 4›, if_pos ‹o.kd = 5›]
    refine DK.ret ?_
    refine And.intro (Or.inr rfl) ?_
    refine ⟨_, by simp [absAnswer, absResults, absResult, Tryd.f34, m0, m1, m2, m3, qq, hs0, hs1]; rfl, ?_⟩
    exact ⟨_, by rw [hres]; rfl, hM.keep.ext, by rw [hres]; exact hO, hF.le (by omega)⟩
  try simp only [h]
  replace h := Fa.out h
  refine DK.seq ?_
  refine DK.region (is := [0, 1]) (by kernel_rfl) rfl ?_
  refine WK.run (rest := []) [0, 1] (by simp [m0, m1, m2, m3, qq, hs0, hs1, hsp0, hsp1, hl32, hcc, hcd]; constructor <;> rfl) ?_
  refine WK.nil ?_
  refine DK.test rfl rfl (fun h => ?_) (fun h => ?_)
  · try simp only [h]
    replace h := Tr.out h
    refine DK.seq ?_
    refine DK.region (is := [0, 1, 2, 3, 4, 5]) (by kernel_rfl) rfl ?_
    refine WK.run (rest := [1, 2, 3, 4, 5]) [0] (by simp [m0, m1, m2, m3, qq, hs0, hs1, hsp0, hsp1, hl32, hcc, hcd]; constructor <;> rfl) ?_
    refine WK.call rfl (by simp [m0, m1, m2, m3, qq, hs0, hs1, hsp0, hsp1, hl32, hcc, hcd]) (by simp [Tryd.func63, Tryd.f63, m0, m1, m2, m3, qq, hs0, hs1, hsp0, hsp1, hl32, hcc, hcd]; constructor <;> rfl) ?_
    refine FSem.mono (skip_s a hO hn) ?_
    rintro _ R ⟨s2, rfl, hA, hO, hF⟩
    replace hF : Fresh (H.length + 4) s2 := hF.le (hM.lt (i := 3) (by simp))
    replace hM := hM.on (Keep.of hA)
    replace m0 := hM.own 0 (by simp)
    replace m1 := hM.own 1 (by simp)
    replace m2 := hM.own 2 (by simp)
    replace m3 := hM.own 3 (by simp)
    simp only [List.getElem_cons_zero, List.getElem_cons_succ, Nat.add_zero] at m0 m1 m2 m3
    replace qq := hM.q4
    replace hs0 := hO.cells.1
    replace hs1 := hO.cells.2
    refine WK.run (rest := []) [2, 3, 4, 5] (by simp [m0, m1, m2, m3, qq, hs0, hs1, hsp0, hsp1, hl32, hcc, hcd]; constructor <;> rfl) ?_
    refine WK.nil ?_
    refine DK.abs (fun M5 => AtM H [BkL b.today sp l, a.l s, o.l, (skipA a).1.l s2] M5 ∧ OpenAt M5 s2 (skipA a).1.op) ⟨hM.set (i := 3) (by simp) _, hO.set (hF.ne (by omega)) _⟩ ?_
    try clear hM
    try clear hO
    rintro M5 ⟨hM, hO⟩
    replace m0 := hM.own 0 (by simp)
    replace m1 := hM.own 1 (by simp)
    replace m2 := hM.own 2 (by simp)
    replace m3 := hM.own 3 (by simp)
    simp only [List.getElem_cons_zero, List.getElem_cons_succ, Nat.add_zero] at m0 m1 m2 m3
    replace qq := hM.q4
    replace hs0 := hO.cells.1
    replace hs1 := hO.cells.2
    have hres : turnB b a o = ((skipA a).1, (skipA a).2) := by
      unfold turnB
      rw [if_neg ‹¬o.kd = 4›, if_neg ‹¬o.kd = 5›, if_pos ‹o.kd = 6›]
    refine DK.ret ?_
    refine And.intro (Or.inr rfl) ?_
    refine ⟨_, by simp [absAnswer, absResults, absResult, Tryd.f34, m0, m1, m2, m3, qq, hs0, hs1]; rfl, ?_⟩
    exact ⟨_, by rw [hres]; rfl, hM.keep.ext, by rw [hres]; exact hO, hF.le (by omega)⟩
  try simp only [h]
  replace h := Fa.out h
  refine DK.seq ?_
  refine DK.region (is := [0, 1]) (by kernel_rfl) rfl ?_
  refine WK.run (rest := []) [0, 1] (by simp [m0, m1, m2, m3, qq, hs0, hs1, hsp0, hsp1, hl32, hcc, hcd]; constructor <;> rfl) ?_
  refine WK.nil ?_
  refine DK.test rfl rfl (fun h => ?_) (fun h => ?_)
  · try simp only [h]
    replace h := Tr.out h
    refine DK.seq ?_
    refine DK.region (is := [0, 1, 2, 3, 4, 5]) (by kernel_rfl) rfl ?_
    refine WK.run (rest := [1, 2, 3, 4, 5]) [0] (by simp [m0, m1, m2, m3, qq, hs0, hs1, hsp0, hsp1, hl32, hcc, hcd]; constructor <;> rfl) ?_
    refine WK.call rfl (by simp [m0, m1, m2, m3, qq, hs0, hs1, hsp0, hsp1, hl32, hcc, hcd]) (by simp [Tryd.func64, Tryd.f64, m0, m1, m2, m3, qq, hs0, hs1, hsp0, hsp1, hl32, hcc, hcd]; constructor <;> rfl) ?_
    refine FSem.mono (cancel_s a hO hn) ?_
    rintro _ R ⟨s2, rfl, hA, hO, hF⟩
    replace hF : Fresh (H.length + 4) s2 := hF.le (hM.lt (i := 3) (by simp))
    replace hM := hM.on (Keep.of hA)
    replace m0 := hM.own 0 (by simp)
    replace m1 := hM.own 1 (by simp)
    replace m2 := hM.own 2 (by simp)
    replace m3 := hM.own 3 (by simp)
    simp only [List.getElem_cons_zero, List.getElem_cons_succ, Nat.add_zero] at m0 m1 m2 m3
    replace qq := hM.q4
    replace hs0 := hO.cells.1
    replace hs1 := hO.cells.2
    refine WK.run (rest := []) [2, 3, 4, 5] (by simp [m0, m1, m2, m3, qq, hs0, hs1, hsp0, hsp1, hl32, hcc, hcd]; constructor <;> rfl) ?_
    refine WK.nil ?_
    refine DK.abs (fun M5 => AtM H [BkL b.today sp l, a.l s, o.l, (cancelA a).1.l s2] M5 ∧ OpenAt M5 s2 (cancelA a).1.op) ⟨hM.set (i := 3) (by simp) _, hO.set (hF.ne (by omega)) _⟩ ?_
    try clear hM
    try clear hO
    rintro M5 ⟨hM, hO⟩
    replace m0 := hM.own 0 (by simp)
    replace m1 := hM.own 1 (by simp)
    replace m2 := hM.own 2 (by simp)
    replace m3 := hM.own 3 (by simp)
    simp only [List.getElem_cons_zero, List.getElem_cons_succ, Nat.add_zero] at m0 m1 m2 m3
    replace qq := hM.q4
    replace hs0 := hO.cells.1
    replace hs1 := hO.cells.2
    have hres : turnB b a o = ((cancelA a).1, (cancelA a).2) := by
      unfold turnB
      rw [if_neg ‹¬o.kd = 4›, if_neg ‹¬o.kd = 5›, if_neg ‹¬o.kd = 6›, if_pos ‹o.kd = 7›]
    refine DK.ret ?_
    refine And.intro (Or.inr rfl) ?_
    refine ⟨_, by simp [absAnswer, absResults, absResult, Tryd.f34, m0, m1, m2, m3, qq, hs0, hs1]; rfl, ?_⟩
    exact ⟨_, by rw [hres]; rfl, hM.keep.ext, by rw [hres]; exact hO, hF.le (by omega)⟩
  try simp only [h]
  replace h := Fa.out h
  refine DK.seq ?_
  refine DK.region (is := [0, 1]) (by kernel_rfl) rfl ?_
  refine WK.run (rest := []) [0, 1] (by simp [m0, m1, m2, m3, qq, hs0, hs1, hsp0, hsp1, hl32, hcc, hcd]; constructor <;> rfl) ?_
  refine WK.nil ?_
  refine DK.test rfl rfl (fun h => ?_) (fun h => ?_)
  · try simp only [h]
    replace h := Tr.out h
    refine DK.seq ?_
    refine DK.region (is := [0, 1, 2, 3, 4, 5]) (by kernel_rfl) rfl ?_
    refine WK.run (rest := [1, 2, 3, 4, 5]) [0] (by simp [m0, m1, m2, m3, qq, hs0, hs1, hsp0, hsp1, hl32, hcc, hcd]; constructor <;> rfl) ?_
    refine WK.call rfl (by simp [m0, m1, m2, m3, qq, hs0, hs1, hsp0, hsp1, hl32, hcc, hcd]) (by simp [Tryd.func65, Tryd.f65, m0, m1, m2, m3, qq, hs0, hs1, hsp0, hsp1, hl32, hcc, hcd]; constructor <;> rfl) ?_
    refine FSem.mono (acard_s a hO hn) ?_
    rintro _ R ⟨s2, rfl, hA, hO, hF⟩
    replace hF : Fresh (H.length + 4) s2 := hF.le (hM.lt (i := 3) (by simp))
    replace hM := hM.on (Keep.of hA)
    replace m0 := hM.own 0 (by simp)
    replace m1 := hM.own 1 (by simp)
    replace m2 := hM.own 2 (by simp)
    replace m3 := hM.own 3 (by simp)
    simp only [List.getElem_cons_zero, List.getElem_cons_succ, Nat.add_zero] at m0 m1 m2 m3
    replace qq := hM.q4
    replace hs0 := hO.cells.1
    replace hs1 := hO.cells.2
    refine WK.run (rest := []) [2, 3, 4, 5] (by simp [m0, m1, m2, m3, qq, hs0, hs1, hsp0, hsp1, hl32, hcc, hcd]; constructor <;> rfl) ?_
    refine WK.nil ?_
    refine DK.abs (fun M5 => AtM H [BkL b.today sp l, a.l s, o.l, (cardA a).1.l s2] M5 ∧ OpenAt M5 s2 (cardA a).1.op) ⟨hM.set (i := 3) (by simp) _, hO.set (hF.ne (by omega)) _⟩ ?_
    try clear hM
    try clear hO
    rintro M5 ⟨hM, hO⟩
    replace m0 := hM.own 0 (by simp)
    replace m1 := hM.own 1 (by simp)
    replace m2 := hM.own 2 (by simp)
    replace m3 := hM.own 3 (by simp)
    simp only [List.getElem_cons_zero, List.getElem_cons_succ, Nat.add_zero] at m0 m1 m2 m3
    replace qq := hM.q4
    replace hs0 := hO.cells.1
    replace hs1 := hO.cells.2
    have hres : turnB b a o = ((cardA a).1, (cardA a).2) := by
      unfold turnB
      rw [if_neg ‹¬o.kd = 4›, if_neg ‹¬o.kd = 5›, if_neg ‹¬o.kd = 6›, if_neg ‹¬o.kd = 7›, if_pos ‹o.kd = 8›]
    refine DK.ret ?_
    refine And.intro (Or.inr rfl) ?_
    refine ⟨_, by simp [absAnswer, absResults, absResult, Tryd.f34, m0, m1, m2, m3, qq, hs0, hs1]; rfl, ?_⟩
    exact ⟨_, by rw [hres]; rfl, hM.keep.ext, by rw [hres]; exact hO, hF.le (by omega)⟩
  try simp only [h]
  replace h := Fa.out h
  refine DK.skip ?_
  refine DK.seq ?_
  refine DK.region (is := [0, 1, 2, 3, 4, 5, 6, 7, 8, 9, 10]) (by kernel_rfl) rfl ?_
  refine WK.run (rest := [4, 5, 6, 7, 8, 9, 10]) [0, 1, 2, 3] (by simp [m0, m1, m2, m3, qq, hs0, hs1, hsp0, hsp1, hl32, hcc, hcd]; constructor <;> rfl) ?_
  refine WK.call rfl (by simp [m0, m1, m2, m3, qq, hs0, hs1, hsp0, hsp1, hl32, hcc, hcd]) (by simp [Tryd.func55, Tryd.f55, m0, m1, m2, m3, qq, hs0, hs1, hsp0, hsp1, hl32, hcc, hcd]; constructor <;> rfl) ?_
  refine FSem.mono (getp_g b.pls a.pl (hB.pls.keep hM.keep)) ?_
  rintro _ Hq ⟨pf, e1, rfl, hgf, hq⟩
  subst hq
  refine WK.run (rest := []) [5, 6, 7, 8, 9, 10] (by simp [m0, m1, m2, m3, qq, hs0, hs1, hsp0, hsp1, hl32, hcc, hcd]; constructor <;> rfl) ?_
  refine WK.nil ?_
  refine DK.abs (fun M1 => AtM H [BkL b.today sp l, a.l s, o.l, zeroA.l (.slice none 0 0)] M1 ∧ OpenAt M1 s a.op ∧ M1[M0.length]? = some (.cells false pf.l)) ⟨hM.on (Keep.app _ _), hO.app _, by simp⟩ ?_
  try clear hM
  try clear hO
  rintro M1 ⟨hM, hO, hcc⟩
  replace m0 := hM.own 0 (by simp)
  replace m1 := hM.own 1 (by simp)
  replace m2 := hM.own 2 (by simp)
  replace m3 := hM.own 3 (by simp)
  simp only [List.getElem_cons_zero, List.getElem_cons_succ, Nat.add_zero] at m0 m1 m2 m3
  replace qq := hM.q4
  replace hs0 := hO.cells.1
  replace hs1 := hO.cells.2
  refine DK.seq ?_
  refine DK.region (is := [0, 1, 2, 3, 4, 5, 6, 7, 8, 9, 10]) (by kernel_rfl) rfl ?_
  refine WK.run (rest := [4, 5, 6, 7, 8, 9, 10]) [0, 1, 2, 3] (by simp [m0, m1, m2, m3, qq, hs0, hs1, hsp0, hsp1, hl32, hcc, hcd]; constructor <;> rfl) ?_
  refine WK.call rfl (by simp [m0, m1, m2, m3, qq, hs0, hs1, hsp0, hsp1, hl32, hcc, hcd]) (by simp [Tryd.func55, Tryd.f55, m0, m1, m2, m3, qq, hs0, hs1, hsp0, hsp1, hl32, hcc, hcd]; constructor <;> rfl) ?_
  refine FSem.mono (getp_g b.pls o.pl (hB.pls.keep hM.keep)) ?_
  rintro _ Hq ⟨pt, e2, rfl, hgt, hq⟩
  subst hq
  refine WK.run (rest := []) [5, 6, 7, 8, 9, 10] (by simp [m0, m1, m2, m3, qq, hs0, hs1, hsp0, hsp1, hl32, hcc, hcd]; constructor <;> rfl) ?_
  refine WK.nil ?_
  refine DK.abs (fun M2 => AtM H [BkL b.today sp l, a.l s, o.l, zeroA.l (.slice none 0 0)] M2 ∧ OpenAt M2 s a.op ∧ M2[M1.length]? = some (.cells false pt.l) ∧ M2[M0.length]? = some (.cells false pf.l)) ⟨hM.on (Keep.app _ _), hO.app _, by simp, by rw [List.getElem?_append_left (List.getElem?_eq_some_iff.1 hcc).1]; exact hcc⟩ ?_
  try clear hM
  try clear hO
  rintro M2 ⟨hM, hO, hcd, hcc⟩
  replace m0 := hM.own 0 (by simp)
  replace m1 := hM.own 1 (by simp)
  replace m2 := hM.own 2 (by simp)
  replace m3 := hM.own 3 (by simp)
  simp only [List.getElem_cons_zero, List.getElem_cons_succ, Nat.add_zero] at m0 m1 m2 m3
  replace qq := hM.q4
  replace hs0 := hO.cells.1
  replace hs1 := hO.cells.2
  refine DK.seq ?_
  refine DK.seq ?_
  refine DK.region (is := [0, 1]) (by kernel_rfl) rfl ?_
  refine WK.run (rest := []) [0, 1] (by simp [m0, m1, m2, m3, qq, hs0, hs1, hsp0, hsp1, hl32, hcc, hcd]; constructor <;> rfl) ?_
  refine WK.nil ?_
  refine DK.test rfl rfl (fun h => ?_) (fun h => ?_)
  · try simp only [h]
    replace h := Tr.out h
    refine DK.seq ?_
    refine DK.region (is := [0, 1, 2, 3]) (by kernel_rfl) rfl ?_
    refine WK.run (rest := []) [0, 1, 2, 3] (by simp [m0, m1, m2, m3, qq, hs0, hs1, hsp0, hsp1, hl32, hcc, hcd]; constructor <;> rfl) ?_
    refine WK.nil ?_
    refine DK.abs (fun MZ => AtM H [BkL b.today sp l, a.l s, o.l, zeroA.l (.slice none 0 0)] MZ ∧ OpenAt MZ (.slice none 0 0) zeroA.op) ⟨hM.set (i := 3) (by simp) _, .inl ⟨rfl, rfl⟩⟩ ?_
    try clear hM
    try clear hO
    rintro MZ ⟨hM, hO⟩
    replace m0 := hM.own 0 (by simp)
    replace m1 := hM.own 1 (by simp)
    replace m2 := hM.own 2 (by simp)
    replace m3 := hM.own 3 (by simp)
    simp only [List.getElem_cons_zero, List.getElem_cons_succ, Nat.add_zero] at m0 m1 m2 m3
    replace qq := hM.q4
    replace hs0 := hO.cells.1
    replace hs1 := hO.cells.2
    replace hF : Fresh (H.length + 4) (.slice none 0 0) := .inl rfl
    have hres : turnB b a o = (zeroA, e2) := by
      unfold turnB
      rw [if_neg ‹¬o.kd = 4›, if_neg ‹¬o.kd = 5›, if_neg ‹¬o.kd = 6›, if_neg ‹¬o.kd = 7›, if_neg ‹¬o.kd = 8›, hgt, if_pos ‹_›]
    refine DK.ret ?_
    refine And.intro (Or.inr rfl) ?_
    refine ⟨_, by simp [absAnswer, absResults, absResult, Tryd.f34, m0, m1, m2, m3, qq, hs0, hs1]; rfl, ?_⟩
    exact ⟨_, by rw [hres]; rfl, hM.keep.ext, by rw [hres]; exact hO, hF.le (by omega)⟩
  try simp only [h]
  replace h := Fa.out h
  refine DK.skip ?_
  refine DK.seq ?_
  refine DK.region (is := [0, 1, 2, 3, 4, 5, 6, 7, 8, 9, 10, 11]) (by kernel_rfl) rfl ?_
  refine WK.run (rest := [7, 8, 9, 10, 11]) [0, 1, 2, 3, 4, 5, 6] (by simp [m0, m1, m2, m3, qq, hs0, hs1, hsp0, hsp1, hl32, hcc, hcd]; constructor <;> rfl) ?_
  refine WK.call rfl (by simp [m0, m1, m2, m3, qq, hs0, hs1, hsp0, hsp1, hl32, hcc, hcd]) (by simp [Tryd.func66, Tryd.f66, m0, m1, m2, m3, qq, hs0, hs1, hsp0, hsp1, hl32, hcc, hcd]; constructor <;> rfl) ?_
  refine FSem.mono (achange_s a pf o.pl pt b.today (by have := getP_un hu a.pl; rw [hgf] at this; exact this) (by have := getP_pr hk.pls a.pl; rw [hgf] at this; exact this) (by have := getP_pr hk.pls o.pl; rw [hgt] at this; exact this) hO hn) ?_
  rintro _ R ⟨s2, rfl, hA, hO, hF⟩
  replace hF : Fresh (H.length + 4) s2 := hF.le (hM.lt (i := 3) (by simp))
  replace hM := hM.on (Keep.of hA)
  replace m0 := hM.own 0 (by simp)
  replace m1 := hM.own 1 (by simp)
  replace m2 := hM.own 2 (by simp)
  replace m3 := hM.own 3 (by simp)
  simp only [List.getElem_cons_zero, List.getElem_cons_succ, Nat.add_zero] at m0 m1 m2 m3
  replace qq := hM.q4
  replace hs0 := hO.cells.1
  replace hs1 := hO.cells.2
  refine WK.run (rest := []) [8, 9, 10, 11] (by simp [m0, m1, m2, m3, qq, hs0, hs1, hsp0, hsp1, hl32, hcc, hcd]; constructor <;> rfl) ?_
  refine WK.nil ?_
  refine DK.abs (fun M5 => AtM H [BkL b.today sp l, a.l s, o.l, (changeA a pf o.pl pt b.today).1.l s2] M5 ∧ OpenAt M5 s2 (changeA a pf o.pl pt b.today).1.op) ⟨hM.set (i := 3) (by simp) _, hO.set (hF.ne (by omega)) _⟩ ?_
  try clear hM
  try clear hO
  rintro M5 ⟨hM, hO⟩
  replace m0 := hM.own 0 (by simp)
  replace m1 := hM.own 1 (by simp)
  replace m2 := hM.own 2 (by simp)
  replace m3 := hM.own 3 (by simp)
  simp only [List.getElem_cons_zero, List.getElem_cons_succ, Nat.add_zero] at m0 m1 m2 m3
  replace qq := hM.q4
  replace hs0 := hO.cells.1
  replace hs1 := hO.cells.2
  have hres : turnB b a o = ((changeA a pf o.pl pt b.today).1, (changeA a pf o.pl pt b.today).2) := by
    unfold turnB
    rw [if_neg ‹¬o.kd = 4›, if_neg ‹¬o.kd = 5›, if_neg ‹¬o.kd = 6›, if_neg ‹¬o.kd = 7›, if_neg ‹¬o.kd = 8›, hgt, hgf, if_neg (by simp [*])]
  refine DK.ret ?_
  refine And.intro (Or.inr rfl) ?_
  refine ⟨_, by simp [absAnswer, absResults, absResult, Tryd.f34, m0, m1, m2, m3, qq, hs0, hs1]; rfl, ?_⟩
  exact ⟨_, by rw [hres]; rfl, hM.keep.ext, by rw [hres]; exact hO, hF.le (by omega)⟩
theorem basks_s (k : Nat) (b : Bk) {sp : Value} {l : List As} {H : Mem} (hB : BkAt H sp l b) (hk : BOk k b) (hk3 : k ≤ 300000000) : FSem Tryd.prog [0] 14 #[bkv b.today sp l] H fun v H' => RowOut H b.asks v H' := by
  refine FSem.ofK Tryd.func14 rfl ?_
  refine DK.from (b' := ⟨#[bkv b.today sp l, undef, undef, undef, undef, undef, undef, undef, undef, undef, undef, undef, undef, undef, undef, undef, undef, undef, undef], []⟩) (by kernel_rfl) ?_
  have m0 := True.intro
  have qq := True.intro
  have hs0 := True.intro
  have hs1 := True.intro
  have hi0 := True.intro
  have hi1 := True.intro
  have hpt := True.intro
  have happ := True.intro
  have hr0 := True.intro
  have hr1 := True.intro
  have hwr := True.intro
  have hcc := True.intro
  obtain ⟨hsp0, hsp1⟩ := hB.pls.cells
  have hl32 := hB.len
  have hB32 := hk.len
  refine DK.seq ?_
  refine DK.region (is := [0, 1]) (by kernel_rfl) rfl ?_
  refine WK.run (rest := []) [0, 1] (by simp [m0, qq, hs0, hs1, hsp0, hsp1, hl32, hi0, hi1, hpt, happ, hr0, hr1, hwr, hcc, absIndex]; constructor <;> rfl) ?_
  refine WK.nil ?_
  refine DK.abs (fun M0 => AtM H [BkL b.today sp l] M0) (AtM.start H [] [_]) ?_
  try clear hM
  rintro M0 hM
  replace m0 := hM.own 0 (by simp)
  simp only [List.getElem_cons_zero, List.getElem_cons_succ, Nat.add_zero] at m0
  replace qq := hM.q1
  refine DK.seq ?_
  refine DK.region (is := [0]) (by kernel_rfl) rfl ?_
  refine WK.run (rest := []) [0] (by simp [m0, qq, hs0, hs1, hsp0, hsp1, hl32, hi0, hi1, hpt, happ, hr0, hr1, hwr, hcc, absIndex]; constructor <;> rfl) ?_
  refine WK.nil ?_
  refine DK.seq ?_
  refine DK.seq ?_
  refine DK.region (is := [0, 1, 2]) (by kernel_rfl) rfl ?_
  refine WK.run (rest := []) [0, 1, 2] (by simp [m0, qq, hs0, hs1, hsp0, hsp1, hl32, hi0, hi1, hpt, happ, hr0, hr1, hwr, hcc, absIndex]; constructor <;> rfl) ?_
  refine WK.nil ?_
  refine DK.block ?_
  refine DK.loopG [3, 4, 5, 8, 9, 10, 11, 12, 13, 14, 15, 16, 17] (fun fl vs H' => ∃ (i : Int) (l5 : Value) (j4 j5 j9 j10 j11 j12 j13 j14 j15 j16 j17 : Value), vs = [l5, j4, j5, .int .i64 i, j9, j10, j11, j12, j13, j14, j15, j16, j17] ∧ (AtM H [BkL b.today sp l] H' ∧ RowAt H' l5 (asksFrom 0 (b.subs.take i.toNat)) ∧ Own H' l5 ∧ New (H.length + 1) l5) ∧ 0 ≤ i ∧ i ≤ 32 ∧ fl = (32 - i).toNat) (32) (by kernel_rfl) ?_ ?_
  · refine ⟨_, _, _, _, _, _, _, _, _, _, _, _, _, rfl, ?_⟩
    exact ⟨⟨hM, RowAt.nil _, Own.nil _ _ _, New.nil _ _ _⟩, by omega, by omega, by omega⟩
  rintro fl _ M ⟨i, l5, j4, j5, j9, j10, j11, j12, j13, j14, j15, j16, j17, rfl, hf⟩
  try clear hM
  obtain ⟨⟨hM, hR, hW, hN⟩, hj0, hj1, hfl⟩ := hf
  replace m0 := hM.own 0 (by simp)
  simp only [List.getElem_cons_zero, List.getElem_cons_succ, Nat.add_zero] at m0
  replace qq := hM.q1
  replace hr0 := hR.cells.1
  replace hr1 := hR.cells.2
  refine DK.from (by simp [setL]; exact rfl) ?_
  refine DK.seq ?_
  refine DK.region (is := [0]) (by kernel_rfl) rfl ?_
  refine WK.run (rest := []) [0] (by simp [m0, qq, hs0, hs1, hsp0, hsp1, hl32, hi0, hi1, hpt, happ, hr0, hr1, hwr, hcc, absIndex]; constructor <;> rfl) ?_
  refine WK.nil ?_
  refine DK.seq ?_
  refine DK.test rfl rfl (fun h => ?_) (fun h => ?_)
  · try simp only [h]
    replace h := Tr.out h
    replace hi0 : 0 ≤ i := hj0
    replace hi1 : i < 32 := h
    replace hwr : IntKind.i64.wrap (i + 1) = i + 1 := wrap_in _ (by omega) (by omega)
    obtain ⟨x, hx1, hxa, hxb, hxl, hxo, hpt1⟩ := hB.nth (i := i.toNat) (by omega)
    replace hpt := hpt1
    replace hs0 := hxo.cells.1
    replace hs1 := hxo.cells.2
    have hii : ((i.toNat : Nat) : Int) = i := by omega
    have hbd := asks_bound (k := k) 0 (b.subs.take i.toNat) (fun a ha => (hk.subs a (List.mem_of_mem_take ha)).2)
    have hbd2 : (b.subs.take i.toNat).length * k ≤ 32 * k := Nat.mul_le_mul_right _ (by simp; omega)
    have hbd3 : (asksA i b.subs[i.toNat]).length ≤ k := Nat.le_trans (asksL_len _ _) (hk.subs _ (List.getElem_mem hx1)).2
    refine DK.skip ?_
    refine DK.seq ?_
    refine DK.block ?_
    refine DK.seq ?_
    refine DK.region (is := [0, 1, 2, 3, 4]) (by kernel_rfl) rfl ?_
    refine WK.run (rest := []) [0, 1, 2, 3, 4] (by simp [m0, qq, hs0, hs1, hsp0, hsp1, hl32, hi0, hi1, hpt, happ, hr0, hr1, hwr, hcc, absIndex]; constructor <;> rfl) ?_
    refine WK.nil ?_
    refine DK.abs (fun MA => AtM H [BkL b.today sp l] MA ∧ MA[M.length]? = some (.cells false (x.a.l x.s)) ∧ RowAt MA l5 (asksFrom 0 (b.subs.take i.toNat)) ∧ Own MA l5) ⟨hM.on (Keep.app _ _), by simp, hR.apps _, hW.app _⟩ ?_
    try clear hM
    try clear hcc
    try clear hR
    try clear hW
    rintro MA ⟨hM, hcc, hR, hW⟩
    replace m0 := hM.own 0 (by simp)
    simp only [List.getElem_cons_zero, List.getElem_cons_succ, Nat.add_zero] at m0
    replace qq := hM.q1
    refine DK.region (is := [0, 1, 2, 3, 4, 5]) (by kernel_rfl) rfl ?_
    refine WK.run (rest := [3, 4, 5]) [0, 1, 2] (by simp [m0, qq, hs0, hs1, hsp0, hsp1, hl32, hi0, hi1, hpt, happ, hr0, hr1, hwr, hcc, absIndex]; constructor <;> rfl) ?_
    refine WK.call rfl (by simp [m0, qq, hs0, hs1, hsp0, hsp1, hl32, hi0, hi1, hpt, happ, hr0, hr1, hwr, hcc, absIndex]) (by simp [Tryd.func25, Tryd.f25, m0, qq, hs0, hs1, hsp0, hsp1, hl32, hi0, hi1, hpt, happ, hr0, hr1, hwr, hcc, absIndex]; constructor <;> rfl) ?_
    refine FSem.mono (aasks_s i x.a (hxo.keep hM.keep) (by have := (hk.subs _ (hxa ▸ List.getElem_mem hx1)).2; omega)) ?_
    rintro _ M3 ⟨hA, hR3, hW3, hN3⟩
    have hkk := Keep.of hA
    replace hM := hM.on hkk
    replace m0 := hM.own 0 (by simp)
    simp only [List.getElem_cons_zero, List.getElem_cons_succ, Nat.add_zero] at m0
    replace qq := hM.q1
    obtain ⟨l6, MC, ha6, hR6, hW6, hf6, hn6, hn6b⟩ := appNt (hR.keep hkk) (hW.keep hkk) hR3 (by rw [hxa]; omega)
    replace happ := ha6
    refine WK.run (rest := []) [4, 5] (by simp [m0, qq, hs0, hs1, hsp0, hsp1, hl32, hi0, hi1, hpt, happ, hr0, hr1, hwr, hcc, absIndex]; constructor <;> rfl) ?_
    refine WK.nil ?_
    refine DK.region (is := [0, 1]) (by kernel_rfl) rfl ?_
    refine WK.run (rest := []) [0, 1] (by simp [m0, qq, hs0, hs1, hsp0, hsp1, hl32, hi0, hi1, hpt, happ, hr0, hr1, hwr, hcc, absIndex]; constructor <;> rfl) ?_
    refine WK.nil ?_
    refine ⟨by kernel_rfl, (32 - (i + 1)).toNat, ?_, _, _, _, _, _, _, _, _, _, _, _, _, _, rfl, ?_⟩
    · omega
    · rw [show (i + 1).toNat = i.toNat + 1 by omega, asks_take hx1, ← hxa]
      refine ⟨⟨hM.frn hf6 hN, by simpa [hii] using hR6, hW6, ?_⟩, by omega, by omega, rfl⟩
      rcases hn6 with rfl | q
      · exact hN
      · exact q.le (hM.lt (i := 0) (by simp))
  try simp only [h]
  replace h := Fa.out h
  refine DK.exit ?_
  refine DK.seq ?_
  refine DK.region (is := [0, 1]) (by kernel_rfl) rfl ?_
  refine WK.run (rest := []) [0, 1] (by simp [m0, qq, hs0, hs1, hsp0, hsp1, hl32, hi0, hi1, hpt, happ, hr0, hr1, hwr, hcc, absIndex]; constructor <;> rfl) ?_
  refine WK.nil ?_
  refine DK.ret ?_
  refine And.intro (Or.inr rfl) ?_
  refine ⟨_, by simp [absAnswer, absResults, absResult, Tryd.f14]; rfl, ?_⟩
  have hi : i = 32 := by omega
  subst hi
  refine ⟨hM.keep.ext, ?_, hW, hN.le (by omega)⟩
  unfold Bk.asks; rw [List.take_of_length_le (by rw [hk.len]; decide)] at hR; exact hR
end Go.Den
set_option linter.unusedVariables false
set_option maxRecDepth 100000
namespace Go.Den
open Go Go.Proofs
def noGo (R : Exit → Act → Mem → Prop) : Exit → Act → Mem → Prop := fun e b H => match e with
  | .goto _ => False
  | e => R e b H
theorem DK.scope {P : Program} {G : List Nat} {R : Exit → Act → Mem → Prop} {b : Act} {H : Mem} {x : Code} (h : DK P G x (noGo R) b H) : DK P G (.scope x) R b H := by
  refine ⟨fun φ a w hS hT Q' hQ => wp_scope_straight (h.out φ a w hS hT _ fun e b' H' φ' a' w' q1 q2 q3 q4 => ?_)⟩
  cases e with
  | goto n => exact q1.elim
  | normal => exact hQ _ b' H' φ' a' w' q1 q2 q3 q4
  | exit n => exact hQ _ b' H' φ' a' w' q1 q2 q3 q4
  | ret => exact hQ _ b' H' φ' a' w' q1 q2 q3 q4
  | panic ch => exact hQ _ b' H' φ' a' w' q1 q2 q3 q4
  | outgrown => exact hQ _ b' H' φ' a' w' q1 q2 q3 q4
theorem day_g (a : Ac) (p : Pl) (today : Int) (hu : 0 ≤ p.un) {s : Value} {H : Mem} (hO : OpenAt H s a.op) (hn : a.op.length + dayN a ≤ 1000000000000) : FSem Tryd.prog [0] 56 #[a.v s, p.v, .int .i64 today] H fun v H' => ∃ x e s', v = .tuple #[Ac.v x s', .int .i64 e] ∧ dayA a p today = (x, e) ∧ AcOut H x H' s' := by
  refine FSem.mono (day_s a p today hu hO hn) ?_
  rintro v H' ⟨s', rfl, h⟩
  exact ⟨_, _, s', rfl, rfl, h⟩
def passJ (done : List Ac) (R : List Ac × Int) : List Ac × Int := if R.2 ≠ 0 then ([], R.2) else (done ++ R.1, 0)
theorem passJ_skip {pls : List Pl} {t : Int} {done rest : List Ac} {a : Ac} (h : a.st = 0) : passJ done (passL pls t (a :: rest)) = passJ (done ++ [a]) (passL pls t rest) := by
  unfold passJ
  rw [passL]
  simp only [h, if_true, ne_eq, not_true_eq_false, if_false]
  by_cases h2 : (passL pls t rest).2 = 0 <;> simp [h2]
theorem passJ_err {pls : List Pl} {t : Int} {done rest : List Ac} {a x : Ac} {e : Int} (h : ¬ a.st = 0) (hd : dayA a (getP pls a.pl).1 t = (x, e)) (he : e ≠ 0) : passJ done (passL pls t (a :: rest)) = ([], e) := by
  unfold passJ
  rw [passL]
  simp [h, hd, he]
theorem passJ_go {pls : List Pl} {t : Int} {done rest : List Ac} {a x : Ac} {e : Int} (h : ¬ a.st = 0) (hd : dayA a (getP pls a.pl).1 t = (x, e)) (he : e = 0) : passJ done (passL pls t (a :: rest)) = passJ (done ++ [x]) (passL pls t rest) := by
  subst he
  unfold passJ
  rw [passL]
  simp only [h, if_false, hd, ne_eq, not_true_eq_false]
  by_cases h2 : (passL pls t rest).2 = 0 <;> simp [h2]
theorem passJ_0 (pls : List Pl) (t : Int) : ∀ l, passL pls t l = passJ [] (passL pls t l)
  | [] => rfl
  | a :: l => by
    unfold passJ
    rw [passL]
    by_cases h2 : (passL pls t l).2 = 0
    · split
      · simp [h2]
      · split
        · simp [h2]
        · simp [h2]
    · split
      · simp [h2]
      · split
        · simp [h2]
        · simp [h2]
theorem bk_mem {t : Int} {sp : Value} {l : List As} (h : sp.oneCell' = true) : ∀ x, x ∈ BkL t sp l → x.oneCell' = true := by
  have := bk_one (t := t) (l := l) h
  rw [allA_mem] at this
  exact fun x hx => this x (by simpa using hx)
theorem bk_ones {sp : Value} (h : sp.oneCell' = true) (t : Int) (l : List As) : (∀ x, x ∈ BkL t sp l → x.oneCell' = true) = True := eq_true (bk_mem h)
theorem passJ_nil {pls : List Pl} {t : Int} {done : List Ac} : passJ done (passL pls t []) = (done, 0) := by simp [passJ, passL]
theorem map_set_mid {li : List As} {done rest : List Ac} {a : Ac} {y : As} {i : Nat} (h : li.map As.a = done ++ a :: rest) (hd : done.length = i) : (li.set i y).map As.a = (done ++ [y.a]) ++ rest := by
  rw [List.map_set, h, List.set_append_right _ _ (by omega), hd, Nat.sub_self, List.set_cons_zero]; simp
theorem rightO_su {o : Od} (h : rightO o = 0) : (o.kd = 10 → 0 ≤ o.a.su ∧ o.a.su < 32) ∧ (o.kd ≠ 1 → o.kd ≠ 9 → o.kd ≠ 10 → 0 ≤ o.su ∧ o.su < 32) := by
  unfold rightO at h
  split at h
  · rename_i h1
    have h1 := of_decide_eq_true h1
    split at h
    · omega
    · rename_i h2
      refine ⟨fun q => by omega, fun _ _ _ => by omega⟩
  · split at h
    · exact ⟨fun q => by omega, fun q => absurd ‹_› q⟩
    · split at h
      · exact ⟨fun q => by omega, fun _ q => absurd ‹_› q⟩
      · split at h
        · split at h
          · omega
          · rename_i h2
            have h3 : noticeB o.a = true := by
              cases hc : noticeB o.a with
              | true => rfl
              | false => exact absurd (.inr hc) h2
            unfold noticeB at h3
            have h4 := of_decide_eq_true (Bool.and_eq_true_iff.1 h3).2
            exact ⟨fun _ => by omega, fun _ _ q => absurd ‹_› q⟩
        · omega
theorem BkAt.plsSet {H H' : Mem} {sp sp' : Value} {l : List As} {b : Bk} (h : BkAt H sp l b) (hk : Keep H H') {pl : List Pl} (hp : RowAt H' sp' pl) : BkAt H' sp' l { b with pls := pl } := ⟨hp, h.map, h.len, fun x hx => (h.op x hx).keep hk⟩
end Go.Den
