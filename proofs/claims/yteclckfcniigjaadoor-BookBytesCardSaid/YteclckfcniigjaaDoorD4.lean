/- A part of the proof. -/
import Derived.KernelRfl
import Derived.Test.YteclckfcniigjaaDoorD3
set_option linter.all false
namespace Go.Den
open Go Go.Proofs
set_option maxRecDepth 100000
set_option maxHeartbeats 1000000
set_option linter.all false
attribute [local simp] evOps evOp absOp absBox absAlloc absLoad absStore absField absIndexAddr absCells absBinOp absBin absInt absShift absUn absPick absNil absExtract absBuild absPlaces Instr.fill absBuiltin absMinMax plainV plainT allA flat cells_agg cells_int cells_bool cells_str cells_ptr cells_sl cells_map one_int one_bool one_str one_ptr one_sl one_map Act.eval Act.put Region.wanted yielded splice absCall TypeDesc.isRow
theorem settle_s (a : Ac) {s : Value} {H : Mem} (hO : OpenAt H s a.op) (hn : a.op.length ≤ 1000000000000) : FSem Tryd.prog [0] 60 #[a.v s] H fun v H' => AcRes H (settleA a) v H' := by
  refine FSem.ofK Tryd.func60 rfl ?_
  refine DK.from (b' := ⟨#[a.v s, undef, undef, undef, undef, undef, undef, undef, undef, undef, undef, undef, undef, undef, undef, undef, undef, undef, undef, undef, undef, undef, undef, undef, undef, undef, undef, undef, undef], []⟩) (by kernel_rfl) ?_
  have f := trivial
  have g := trivial
  have t := trivial
  have c := trivial
  have d := trivial
  have r := trivial
  have u := trivial
  have j := trivial
  have k := trivial
  have m := trivial
  have n := trivial
  have o := trivial
  have e := trivial
  have p := trivial
  have w := trivial
  have hOs := hO
  refine DK.seq ?_
  refine DK.region (is := [0, 1, 2]) (by kernel_rfl) rfl ?_
  refine WK.run [0, 1, 2] (by simp [f, g, t, c, d, r, u, j, k, m, n, o, e, p, Cy.cells]; constructor <;> rfl) ?_
  refine WK.nil ?_
  refine DK.abs (fun M0 => AtM H [a.l s, zeroA.l (.slice none 0 0)] M0 ∧ OpenAt M0 s a.op) ⟨AtM.start H [] [_, _], hO.app _⟩ ?_
  try clear hM
  try clear hO
  rintro M0 ⟨hM, hO⟩
  replace f := hM.own 0 (by simp)
  replace g := hM.own 1 (by simp)
  simp only [List.getElem_cons_zero, List.getElem_cons_succ, Nat.add_zero] at f g
  replace t := hM.q2
  replace c := hO.cells.1
  replace d := hO.cells.2
  replace p := hO.lenK
  refine DK.seq ?_
  refine DK.region (is := [0, 1, 2]) (by kernel_rfl) rfl ?_
  refine WK.run [0, 1, 2] (by simp [f, g, t, c, d, r, u, j, k, m, n, o, e, p, Cy.cells]; constructor <;> rfl) ?_
  refine WK.nil ?_
  refine DK.seq ?_
  refine DK.region (is := [0, 1]) (by kernel_rfl) rfl ?_
  refine WK.run [0, 1] (by simp [f, g, t, c, d, r, u, j, k, m, n, o, e, p, Cy.cells]; constructor <;> rfl) ?_
  refine WK.nil ?_
  refine DK.abs (fun M2 => AtM H [({ a with op := [] } : Ac).l (.slice none 0 0), zeroA.l (.slice none 0 0)] M2 ∧ OpenAt M2 (.slice none 0 0) []) ⟨hM.set (i := 0) (by simp) _, .inl ⟨rfl, rfl⟩⟩ ?_
  try clear hM
  try clear hO
  rintro M2 ⟨hM, hO⟩
  replace f := hM.own 0 (by simp)
  replace g := hM.own 1 (by simp)
  simp only [List.getElem_cons_zero, List.getElem_cons_succ, Nat.add_zero] at f g
  replace t := hM.q2
  replace c := hO.cells.1
  replace d := hO.cells.2
  replace w : Fresh (H.length + 2) (.slice none 0 0) := .inl rfl
  refine DK.seq ?_
  refine DK.seq ?_
  refine DK.region (is := [0, 1, 2]) (by kernel_rfl) rfl ?_
  refine WK.run [0, 1, 2] (by simp [f, g, t, c, d, r, u, j, k, m, n, o, e, p, Cy.cells]; constructor <;> rfl) ?_
  refine WK.nil ?_
  refine DK.block ?_
  refine DK.loopG [3, 6, 7, 13, 14, 15, 16, 17, 18, 19, 20, 21, 22, 23, 24, 25, 26, 27] (fun fl vs H' => ∃ (i : Int) (x : Ac) (s' : Value) (j3 j6 j7 j14 j15 j16 j17 j18 j19 j20 j21 j22 j23 j24 j25 j26 j27 : Value), vs = [j3, j6, j7, .int .i64 i, j14, j15, j16, j17, j18, j19, j20, j21, j22, j23, j24, j25, j26, j27] ∧ (AtM H [x.l s', zeroA.l (.slice none 0 0)] H' ∧ OpenAt H' s' x.op ∧ Fresh (H.length + 2) s') ∧ 0 ≤ i ∧ i ≤ a.op.length ∧ settleL (a.op.drop i.toNat) x = settleA a ∧ x.op.length ≤ i ∧ fl = (a.op.length - i).toNat) (a.op.length) (by kernel_rfl) ?_ ?_
  · refine ⟨_, ({ a with op := [] } : Ac), (.slice none 0 0), _, _, _, _, _, _, _, _, _, _, _, _, _, _, _, _, _, rfl, ?_⟩
    exact ⟨⟨hM, hO, w⟩, by omega, by omega, rfl, by simp, by omega⟩
  rintro fl _ M ⟨i, x, s', j3, j6, j7, j14, j15, j16, j17, j18, j19, j20, j21, j22, j23, j24, j25, j26, j27, rfl, hf⟩
  try clear hM
  try clear hO
  try clear w
  obtain ⟨⟨hM, hO, w⟩, hi0, hi1, hx1, hx2, hfl⟩ := hf
  replace f := hM.own 0 (by simp)
  replace g := hM.own 1 (by simp)
  simp only [List.getElem_cons_zero, List.getElem_cons_succ, Nat.add_zero] at f g
  replace t := hM.q2
  replace c := hO.cells.1
  replace d := hO.cells.2
  refine DK.from (by simp [setL]; exact rfl) ?_
  refine DK.seq ?_
  refine DK.region (is := [0]) (by kernel_rfl) rfl ?_
  refine WK.run [0] (by simp [f, g, t, c, d, r, u, j, k, m, n, o, e, p, Cy.cells]; constructor <;> rfl) ?_
  refine WK.nil ?_
  refine DK.seq ?_
  refine DK.test rfl rfl (fun h => ?_) (fun h => ?_)
  · try simp only [h]
    replace h := Tr.out h
    replace k : 0 ≤ i := hi0
    replace j : IntKind.i64.wrap (i + 1) = i + 1 := wrap_in _ (by omega) (by omega)
    replace m : i < a.op.length := h
    have hil : i.toNat < a.op.length := by omega
    clear u; obtain ⟨b, rfl, u⟩ := (hOs.keep hM.keep).blk (by omega)
    replace n := cys_get hil
    replace o : i.toNat * 8 + 8 ≤ a.op.length * 8 := by omega
    refine DK.skip ?_
    refine DK.seq ?_
    refine DK.block ?_
    refine DK.seq ?_
    refine DK.region (is := [0, 1, 2, 3]) (by kernel_rfl) rfl ?_
    refine WK.run [0, 1, 2, 3] (by simp [f, g, t, c, d, r, u, j, k, m, n, o, e, p, Cy.cells]; constructor <;> rfl) ?_
    refine WK.nil ?_
    refine DK.abs (fun MA => AtM H [x.l s', zeroA.l (.slice none 0 0)] MA ∧ OpenAt MA s' x.op ∧ MA[M.length]? = some (.cells false a.op[i.toNat].l)) ⟨hM.on (Keep.app _ _), hO.app _, by simp⟩ ?_
    try clear hM
    try clear hO
    rintro MA ⟨hM, hO, e⟩
    replace f := hM.own 0 (by simp)
    replace g := hM.own 1 (by simp)
    simp only [List.getElem_cons_zero, List.getElem_cons_succ, Nat.add_zero] at f g
    replace t := hM.q2
    replace c := hO.cells.1
    replace d := hO.cells.2
    replace e : MA[M.length]? = some (.cells false a.op[i.toNat].l) := e
    refine DK.seq ?_
    refine DK.region (is := [0]) (by kernel_rfl) rfl ?_
    refine WK.run [0] (by simp [f, g, t, c, d, r, u, j, k, m, n, o, e, p, Cy.cells]; constructor <;> rfl) ?_
    refine WK.nil ?_
    refine DK.seq ?_
    refine DK.region (is := [0, 1, 2, 3, 4, 5, 6, 7]) (by kernel_rfl) rfl ?_
    refine WK.run [0, 1] (by simp [f, g, t, c, d, r, u, j, k, m, n, o, e, p, Cy.cells]; constructor <;> rfl) ?_
    refine WK.call rfl (by simp [f, g, t, c, d, r, u, j, k, m, n, o, e, p, Cy.cells]) (by simp [Tryd.func84, Tryd.f84, f, g, t, c, d, r, u, j, k, m, n, o, e, p, Cy.cells]; constructor <;> rfl) ?_
    refine FSem.mono (close_g x (a.op[i.toNat]) hO (by omega)) ?_
    rintro _ M5 ⟨x2, e2, s2, rfl, hcl, hfr, hO, hs2⟩
    have hF2 : Fresh (H.length + 2) s2 := by
      rcases hs2 with rfl | q
      · exact w
      · exact q.le (hM.lt (i := 1) (by simp))
    replace hM := hM.fr hfr w
    have hF0 := w
    replace w := hF2
    replace f := hM.own 0 (by simp)
    replace g := hM.own 1 (by simp)
    simp only [List.getElem_cons_zero, List.getElem_cons_succ, Nat.add_zero] at f g
    replace t := hM.q2
    replace c := hO.cells.1
    replace d := hO.cells.2
    refine WK.run [3, 4, 5, 6, 7] (by simp [f, g, t, c, d, r, u, j, k, m, n, o, e, p, Cy.cells]; constructor <;> rfl) ?_
    refine WK.nil ?_
    refine DK.abs (fun M6 => AtM H [x2.l s2, zeroA.l (.slice none 0 0)] M6 ∧ OpenAt M6 s2 x2.op) ⟨hM.set (i := 0) (by simp) _, hO.set (w.ne (by omega)) _⟩ ?_
    try clear hM
    try clear hO
    rintro M6 ⟨hM, hO⟩
    replace f := hM.own 0 (by simp)
    replace g := hM.own 1 (by simp)
    simp only [List.getElem_cons_zero, List.getElem_cons_succ, Nat.add_zero] at f g
    replace t := hM.q2
    replace c := hO.cells.1
    replace d := hO.cells.2
    have hro := settle_round hil hx1 hcl
    refine DK.seq ?_
    refine DK.region (is := [0, 1]) (by kernel_rfl) rfl ?_
    refine WK.run [0, 1] (by simp [f, g, t, c, d, r, u, j, k, m, n, o, e, p, Cy.cells]; constructor <;> rfl) ?_
    refine WK.nil ?_
    refine DK.test rfl rfl (fun h => ?_) (fun h => ?_)
    · try simp only [h]
      replace h := Tr.out h
      refine DK.seq ?_
      refine DK.region (is := [0, 1, 2, 3]) (by kernel_rfl) rfl ?_
      refine WK.run [0, 1, 2, 3] (by simp [f, g, t, c, d, r, u, j, k, m, n, o, e, p, Cy.cells]; constructor <;> rfl) ?_
      refine WK.nil ?_
      refine DK.abs (fun MZ => AtM H [x2.l s2, zeroA.l (.slice none 0 0)] MZ ∧ OpenAt MZ (.slice none 0 0) zeroA.op) ⟨hM.set (i := 1) (by simp) _, .inl ⟨rfl, rfl⟩⟩ ?_
      try clear hM
      try clear hO
      rintro MZ ⟨hM, hO⟩
      replace f := hM.own 0 (by simp)
      replace g := hM.own 1 (by simp)
      simp only [List.getElem_cons_zero, List.getElem_cons_succ, Nat.add_zero] at f g
      replace t := hM.q2
      replace c := hO.cells.1
      replace d := hO.cells.2
      replace w : Fresh (H.length + 2) (.slice none 0 0) := .inl rfl
      have hres : settleA a = (zeroA, e2) := hro.1 ‹_›
      refine DK.ret ?_
      refine And.intro (Or.inr rfl) ?_
      refine ⟨_, by simp [absAnswer, absResults, absResult, Tryd.f60, f, g, t, c, d]; rfl, ?_⟩
      exact ⟨_, by rw [hres]; rfl, hM.keep.ext, by rw [hres]; exact hO, w.le (by omega)⟩
    try simp only [h]
    replace h := Fa.out h
    refine DK.skip ?_
    refine DK.region (is := [0, 1]) (by kernel_rfl) rfl ?_
    refine WK.run [0, 1] (by simp [f, g, t, c, d, r, u, j, k, m, n, o, e, p, Cy.cells]; constructor <;> rfl) ?_
    refine WK.nil ?_
    refine ⟨by kernel_rfl, (a.op.length - (i + 1)).toNat, ?_, _, x2, s2, _, _, _, _, _, _, _, _, _, _, _, _, _, _, _, _, _, rfl, ?_⟩
    · omega
    · obtain ⟨r1, r2⟩ := hro.2 ‹_›
      rw [show (i + 1).toNat = i.toNat + 1 by omega]
      exact ⟨⟨hM, hO, w⟩, by omega, by omega, r1, by omega, rfl⟩
  try simp only [h]
  replace h := Fa.out h
  refine DK.exit ?_
  refine DK.seq ?_
  refine DK.region (is := [0, 1, 2]) (by kernel_rfl) rfl ?_
  refine WK.run [0, 1, 2] (by simp [f, g, t, c, d, r, u, j, k, m, n, o, e, p, Cy.cells]; constructor <;> rfl) ?_
  refine WK.nil ?_
  refine DK.abs (fun M8 => AtM H [x.l s', x.l s'] M8 ∧ OpenAt M8 s' x.op) ⟨hM.set (i := 1) (by simp) _, hO.set (w.ne (by omega)) _⟩ ?_
  try clear hM
  try clear hO
  rintro M8 ⟨hM, hO⟩
  replace f := hM.own 0 (by simp)
  replace g := hM.own 1 (by simp)
  simp only [List.getElem_cons_zero, List.getElem_cons_succ, Nat.add_zero] at f g
  replace t := hM.q2
  replace c := hO.cells.1
  replace d := hO.cells.2
  have hres : settleA a = (x, 0) := by
    rw [← hx1, List.drop_of_length_le (by omega)]; rfl
  refine DK.ret ?_
  refine And.intro (Or.inr rfl) ?_
  refine ⟨_, by simp [absAnswer, absResults, absResult, Tryd.f60, f, g, t, c, d]; rfl, ?_⟩
  exact ⟨_, by rw [hres]; rfl, hM.keep.ext, by rw [hres]; exact hO, w.le (by omega)⟩
theorem acard_s (a : Ac) {s : Value} {H : Mem} (hO : OpenAt H s a.op) (hn : a.op.length ≤ 1000000000000) : FSem Tryd.prog [0] 65 #[a.v s] H fun v H' => AcRes H (cardA a) v H' := by
  refine FSem.ofK Tryd.func65 rfl ?_
  refine DK.from (b' := ⟨#[a.v s, undef, undef, undef, undef, undef, undef, undef, undef, undef, undef, undef, undef, undef, undef, undef, undef, undef, undef, undef, undef, undef, undef, undef, undef, undef, undef, undef, undef, undef, undef, undef, undef, undef], []⟩) (by kernel_rfl) ?_
  have p := trivial
  have q := trivial
  have r := trivial
  have c := trivial
  have d := trivial
  have e := trivial
  have u := trivial
  have g := trivial
  have j := trivial
  have k := trivial
  have m := trivial
  have n := trivial
  have o := trivial
  have w := trivial
  refine DK.seq ?_
  refine DK.region (is := [0, 1, 2]) (by kernel_rfl) rfl ?_
  refine WK.run [0, 1, 2] (by simp [p, q, r, c, d, e, u, g, j, k, m, n, o, Cy.cells]; constructor <;> rfl) ?_
  refine WK.nil ?_
  refine DK.abs (fun M0 => AtM H [a.l s, zeroA.l (.slice none 0 0)] M0 ∧ OpenAt M0 s a.op) ⟨AtM.start H [] [_, _], hO.app _⟩ ?_
  try clear hM
  try clear hO
  rintro M0 ⟨hM, hO⟩
  replace p := hM.own 0 (by simp)
  replace q := hM.own 1 (by simp)
  simp only [List.getElem_cons_zero, List.getElem_cons_succ, Nat.add_zero] at p q
  replace r := hM.q2
  replace c := hO.cells.1
  replace d := hO.cells.2
  refine DK.seq ?_
  refine DK.seq ?_
  refine DK.region (is := [0, 1, 2, 3, 4, 5, 6, 7]) (by kernel_rfl) rfl ?_
  refine WK.run [0, 1, 2, 3] (by simp [p, q, r, c, d, e, u, g, j, k, m, n, o, Cy.cells]; constructor <;> rfl) ?_
  refine WK.split (t := 8) rfl (fun h => ?_) (fun h => ?_)
  · try simp only [h]
    replace h := Tr.out h
    refine WK.run [4, 5, 6, 7] (by simp [p, q, r, c, d, e, u, g, j, k, m, n, o, Cy.cells]; constructor <;> rfl) ?_
    refine WK.nil ?_
    refine DK.test rfl rfl (fun h => ?_) (fun h => ?_)
    · try simp only [h]
      replace h := Tr.out h
      refine DK.seq ?_
      refine DK.region (is := [0, 1, 2]) (by kernel_rfl) rfl ?_
      refine WK.run [0, 1, 2] (by simp [p, q, r, c, d, e, u, g, j, k, m, n, o, Cy.cells]; constructor <;> rfl) ?_
      refine WK.nil ?_
      refine DK.abs (fun MZ => AtM H [a.l s, zeroA.l (.slice none 0 0)] MZ ∧ OpenAt MZ (.slice none 0 0) zeroA.op) ⟨hM.set (i := 1) (by simp) _, .inl ⟨rfl, rfl⟩⟩ ?_
      try clear hM
      try clear hO
      rintro MZ ⟨hM, hO⟩
      replace p := hM.own 0 (by simp)
      replace q := hM.own 1 (by simp)
      simp only [List.getElem_cons_zero, List.getElem_cons_succ, Nat.add_zero] at p q
      replace r := hM.q2
      replace c := hO.cells.1
      replace d := hO.cells.2
      replace w : Fresh (H.length + 2) (.slice none 0 0) := .inl rfl
      have hres : cardA a = (zeroA, 8) := by unfold cardA; simp_all
      refine DK.ret ?_
      refine And.intro (Or.inr rfl) ?_
      refine ⟨_, by simp [absAnswer, absResults, absResult, Tryd.f65, p, q, r, c, d]; rfl, ?_⟩
      exact ⟨_, by rw [hres]; rfl, hM.keep.ext, by rw [hres]; exact hO, w.le (by omega)⟩
    try simp only [h]
    replace h := Fa.out h
    refine DK.skip ?_
    refine DK.seq ?_
    refine DK.region (is := [0, 1, 2]) (by kernel_rfl) rfl ?_
    refine WK.run [0] (by simp [p, q, r, c, d, e, u, g, j, k, m, n, o, Cy.cells]; constructor <;> rfl) ?_
    refine WK.call rfl (by simp [p, q, r, c, d, e, u, g, j, k, m, n, o, Cy.cells]) (by simp [Tryd.func58, Tryd.f58, p, q, r, c, d, e, u, g, j, k, m, n, o, Cy.cells]; constructor <;> rfl) ?_
    refine FSem.mono (copy_s a hO (by omega)) ?_
    rintro _ M1 ⟨s1, rfl, hA, hO, w⟩
    replace w : Fresh (H.length + 2) s1 := w.le (hM.lt (i := 1) (by simp))
    replace hM := hM.on (Keep.of hA)
    replace p := hM.own 0 (by simp)
    replace q := hM.own 1 (by simp)
    simp only [List.getElem_cons_zero, List.getElem_cons_succ, Nat.add_zero] at p q
    replace r := hM.q2
    replace c := hO.cells.1
    replace d := hO.cells.2
    refine WK.run [2] (by simp [p, q, r, c, d, e, u, g, j, k, m, n, o, Cy.cells]; constructor <;> rfl) ?_
    refine WK.nil ?_
    refine DK.abs (fun M2 => AtM H [a.l s1, zeroA.l (.slice none 0 0)] M2 ∧ OpenAt M2 s1 a.op) ⟨hM.set (i := 0) (by simp) _, hO.set (w.ne (by omega)) _⟩ ?_
    try clear hM
    try clear hO
    rintro M2 ⟨hM, hO⟩
    replace p := hM.own 0 (by simp)
    replace q := hM.own 1 (by simp)
    simp only [List.getElem_cons_zero, List.getElem_cons_succ, Nat.add_zero] at p q
    replace r := hM.q2
    replace c := hO.cells.1
    replace d := hO.cells.2
    replace o := hO.lenK
    refine DK.seq ?_
    refine DK.seq ?_
    refine DK.region (is := [0, 1, 2, 3]) (by kernel_rfl) rfl ?_
    refine WK.run [0, 1, 2, 3] (by simp [p, q, r, c, d, e, u, g, j, k, m, n, o, Cy.cells]; constructor <;> rfl) ?_
    refine WK.nil ?_
    refine DK.block ?_
    refine DK.loopG [4, 19, 20, 21, 22, 23, 24, 25, 26, 27, 28, 29, 30, 31, 32] (fun fl vs H' => ∃ (i : Int) (s : Value) (j4 j20 j21 j22 j23 j24 j25 j26 j27 j28 j29 j30 j31 j32 : Value), vs = [j4, .int .i64 i, j20, j21, j22, j23, j24, j25, j26, j27, j28, j29, j30, j31, j32] ∧ (AtM H [a.l s, zeroA.l (.slice none 0 0)] H' ∧ OpenAt H' s (mixL cardC a.op i.toNat) ∧ Fresh (H.length + 2) s) ∧ 0 ≤ i ∧ i ≤ a.op.length ∧ fl = (a.op.length - i).toNat) (a.op.length) (by kernel_rfl) ?_ ?_
    · refine ⟨_, s1, _, _, _, _, _, _, _, _, _, _, _, _, _, _, rfl, ?_⟩
      exact ⟨⟨hM, by simpa [mixL_0] using hO, w⟩, by omega, by omega, by omega⟩
    rintro fl _ M ⟨i, s, j4, j20, j21, j22, j23, j24, j25, j26, j27, j28, j29, j30, j31, j32, rfl, hf⟩
    try clear hM
    try clear hO
    try clear w
    obtain ⟨⟨hM, hO, w⟩, hi0, hi1, hfl⟩ := hf
    replace p := hM.own 0 (by simp)
    replace q := hM.own 1 (by simp)
    simp only [List.getElem_cons_zero, List.getElem_cons_succ, Nat.add_zero] at p q
    replace r := hM.q2
    replace c := hO.cells.1
    replace d := hO.cells.2
    refine DK.from (by simp [setL]; exact rfl) ?_
    refine DK.seq ?_
    refine DK.region (is := [0]) (by kernel_rfl) rfl ?_
    refine WK.run [0] (by simp [p, q, r, c, d, e, u, g, j, k, m, n, o, Cy.cells]; constructor <;> rfl) ?_
    refine WK.nil ?_
    refine DK.seq ?_
    refine DK.test rfl rfl (fun h => ?_) (fun h => ?_)
    · try simp only [h]
      replace h := Tr.out h
      replace j : 0 ≤ i := hi0
      replace g : IntKind.i64.wrap (i + 1) = i + 1 := wrap_in _ (by omega) (by omega)
      replace k : i < a.op.length := h
      have hil : i.toNat < a.op.length := by omega
      replace e := mixL_len (f := cardC) (Nat.le_of_lt hil)
      clear u; obtain ⟨b, rfl, u⟩ := hO.blk (by omega)
      have hnb : H.length + 2 ≤ b := w.blk
      replace m := mix_cells (f := cardC) hil
      replace n : i.toNat * 8 + 8 ≤ a.op.length * 8 := by omega
      refine DK.skip ?_
      refine DK.seq ?_
      refine DK.block ?_
      refine DK.seq ?_
      refine DK.region (is := [0, 1]) (by kernel_rfl) rfl ?_
      refine WK.run [0, 1] (by simp [p, q, r, c, d, e, u, g, j, k, m, n, o, Cy.cells]; constructor <;> rfl) ?_
      refine WK.nil ?_
      refine DK.draw rfl (POk.of (ord := [0, 1, 2, 3, 4, 5, 6, 7, 8, 9, 10]) (by kernel_rfl)) ?_
      refine XK.run [0, 1, 2, 3, 4, 5, 6, 7] (by kernel_rfl) (by simp [p, q, r, c, d, e, u, g, j, k, m, n, o, Cy.cells]; constructor <;> rfl) ?_
      refine XK.call rfl (by simp [p, q, r, c, d, e, u, g, j, k, m, n, o, Cy.cells]) rfl (by simp [Tryd.func87, Tryd.f87, p, q, r, c, d, e, u, g, j, k, m, n, o, Cy.cells]; constructor <;> rfl) ?_
      refine FSem.mono (card_s ⟨_, _, _, _, _, _, _, _⟩ _) ?_
      rintro _ _ ⟨rfl, rfl⟩
      refine And.intro (lag_list (l := [1]) (by kernel_rfl) (lag_cons (lag_one rfl (by simp [p, q, r, c, d, e, u, g, j, k, m, n, o, Cy.cells]; constructor <;> rfl) rfl (by simp [p, q, r, c, d, e, u, g, j, k, m, n, o, Cy.cells]) (by simp [sameL, sameV_agg, sameV_int, sameV_bool, sameV_str, sameV_ptr, sameV_sl, sameV_map, same1_int, same1_bool, same1_str, same1_ptr, same1_sl, same1_map, p, q, r, c, d, e, u, g, j, k, m, n, o, Cy.cells]) rfl) rfl)) ?_
      refine XK.run [9] (by kernel_rfl) (by simp [p, q, r, c, d, e, u, g, j, k, m, n, o, Cy.cells]; constructor <;> rfl) ?_
      refine XK.one rfl (by simp [p, q, r, c, d, e, u, g, j, k, m, n, o, Cy.cells]) rfl (by simp [p, q, r, c, d, e, u, g, j, k, m, n, o, Cy.cells]; constructor <;> rfl) (lag_list (l := []) (by kernel_rfl) rfl) ?_
      refine XK.nil ?_
      refine DK.region (is := [0, 1]) (by kernel_rfl) rfl ?_
      refine WK.run [0, 1] (by simp [p, q, r, c, d, e, u, g, j, k, m, n, o, Cy.cells]; constructor <;> rfl) ?_
      refine WK.nil ?_
      refine ⟨by kernel_rfl, (a.op.length - (i + 1)).toNat, ?_, _, .slice (some ⟨b, 0, none⟩) (mixL cardC a.op i.toNat).length 8, _, _, _, _, _, _, _, _, _, _, _, _, _, _, rfl, ?_⟩
      · omega
      · have hpu := OpenAt.put u (i := i.toNat) (by rw [e]; exact hil) (cardC a.op[i.toNat])
        rw [mixL_set (f := cardC) hil] at hpu
        rw [show (i + 1).toNat = i.toNat + 1 by omega]
        exact ⟨⟨hM.far hnb _, by simpa [splice, Cy.cells, mixL_len (f := cardC) (Nat.le_of_lt hil)] using hpu, w⟩, by omega, by omega, rfl⟩
    try simp only [h]
    replace h := Fa.out h
    replace hO : OpenAt M s (a.op.map cardC) := by
      have hi : i = a.op.length := by omega
      subst hi; simpa [mixL_end] using hO
    refine DK.exit ?_
    refine DK.seq ?_
    refine DK.region (is := [0, 1, 2]) (by kernel_rfl) rfl ?_
    refine WK.run [0, 1, 2] (by simp [p, q, r, c, d, e, u, g, j, k, m, n, o, Cy.cells]; constructor <;> rfl) ?_
    refine WK.nil ?_
    refine DK.abs (fun M8 => AtM H [a.l s, a.l s] M8 ∧ OpenAt M8 s (a.op.map cardC)) ⟨hM.set (i := 1) (by simp) _, hO.set (w.ne (by omega)) _⟩ ?_
    try clear hM
    try clear hO
    rintro M8 ⟨hM, hO⟩
    replace p := hM.own 0 (by simp)
    replace q := hM.own 1 (by simp)
    simp only [List.getElem_cons_zero, List.getElem_cons_succ, Nat.add_zero] at p q
    replace r := hM.q2
    replace c := hO.cells.1
    replace d := hO.cells.2
    have hres : cardA a = ({ a with op := a.op.map cardC }, 0) := by unfold cardA; simp_all
    refine DK.ret ?_
    refine And.intro (Or.inr rfl) ?_
    refine ⟨_, by simp [absAnswer, absResults, absResult, Tryd.f65, p, q, r, c, d]; rfl, ?_⟩
    exact ⟨_, by rw [hres]; rfl, hM.keep.ext, by rw [hres]; exact hO, w.le (by omega)⟩
  try simp only [h]
  replace h := Fa.out h
  refine WK.run [4, 5, 6, 7] (by simp [p, q, r, c, d, e, u, g, j, k, m, n, o, Cy.cells]; constructor <;> rfl) ?_
  refine WK.nil ?_
  refine DK.no rfl rfl ?_
  refine DK.skip ?_
  refine DK.seq ?_
  refine DK.region (is := [0, 1, 2]) (by kernel_rfl) rfl ?_
  refine WK.run [0] (by simp [p, q, r, c, d, e, u, g, j, k, m, n, o, Cy.cells]; constructor <;> rfl) ?_
  refine WK.call rfl (by simp [p, q, r, c, d, e, u, g, j, k, m, n, o, Cy.cells]) (by simp [Tryd.func58, Tryd.f58, p, q, r, c, d, e, u, g, j, k, m, n, o, Cy.cells]; constructor <;> rfl) ?_
  refine FSem.mono (copy_s a hO (by omega)) ?_
  rintro _ M1 ⟨s1, rfl, hA, hO, w⟩
  replace w : Fresh (H.length + 2) s1 := w.le (hM.lt (i := 1) (by simp))
  replace hM := hM.on (Keep.of hA)
  replace p := hM.own 0 (by simp)
  replace q := hM.own 1 (by simp)
  simp only [List.getElem_cons_zero, List.getElem_cons_succ, Nat.add_zero] at p q
  replace r := hM.q2
  replace c := hO.cells.1
  replace d := hO.cells.2
  refine WK.run [2] (by simp [p, q, r, c, d, e, u, g, j, k, m, n, o, Cy.cells]; constructor <;> rfl) ?_
  refine WK.nil ?_
  refine DK.abs (fun M2 => AtM H [a.l s1, zeroA.l (.slice none 0 0)] M2 ∧ OpenAt M2 s1 a.op) ⟨hM.set (i := 0) (by simp) _, hO.set (w.ne (by omega)) _⟩ ?_
  try clear hM
  try clear hO
  rintro M2 ⟨hM, hO⟩
  replace p := hM.own 0 (by simp)
  replace q := hM.own 1 (by simp)
  simp only [List.getElem_cons_zero, List.getElem_cons_succ, Nat.add_zero] at p q
  replace r := hM.q2
  replace c := hO.cells.1
  replace d := hO.cells.2
  replace o := hO.lenK
  refine DK.seq ?_
  refine DK.seq ?_
  refine DK.region (is := [0, 1, 2, 3]) (by kernel_rfl) rfl ?_
  refine WK.run [0, 1, 2, 3] (by simp [p, q, r, c, d, e, u, g, j, k, m, n, o, Cy.cells]; constructor <;> rfl) ?_
  refine WK.nil ?_
  refine DK.block ?_
  refine DK.loopG [4, 19, 20, 21, 22, 23, 24, 25, 26, 27, 28, 29, 30, 31, 32] (fun fl vs H' => ∃ (i : Int) (s : Value) (j4 j20 j21 j22 j23 j24 j25 j26 j27 j28 j29 j30 j31 j32 : Value), vs = [j4, .int .i64 i, j20, j21, j22, j23, j24, j25, j26, j27, j28, j29, j30, j31, j32] ∧ (AtM H [a.l s, zeroA.l (.slice none 0 0)] H' ∧ OpenAt H' s (mixL cardC a.op i.toNat) ∧ Fresh (H.length + 2) s) ∧ 0 ≤ i ∧ i ≤ a.op.length ∧ fl = (a.op.length - i).toNat) (a.op.length) (by kernel_rfl) ?_ ?_
  · refine ⟨_, s1, _, _, _, _, _, _, _, _, _, _, _, _, _, _, rfl, ?_⟩
    exact ⟨⟨hM, by simpa [mixL_0] using hO, w⟩, by omega, by omega, by omega⟩
  rintro fl _ M ⟨i, s, j4, j20, j21, j22, j23, j24, j25, j26, j27, j28, j29, j30, j31, j32, rfl, hf⟩
  try clear hM
  try clear hO
  try clear w
  obtain ⟨⟨hM, hO, w⟩, hi0, hi1, hfl⟩ := hf
  replace p := hM.own 0 (by simp)
  replace q := hM.own 1 (by simp)
  simp only [List.getElem_cons_zero, List.getElem_cons_succ, Nat.add_zero] at p q
  replace r := hM.q2
  replace c := hO.cells.1
  replace d := hO.cells.2
  refine DK.from (by simp [setL]; exact rfl) ?_
  refine DK.seq ?_
  refine DK.region (is := [0]) (by kernel_rfl) rfl ?_
  refine WK.run [0] (by simp [p, q, r, c, d, e, u, g, j, k, m, n, o, Cy.cells]; constructor <;> rfl) ?_
  refine WK.nil ?_
  refine DK.seq ?_
  refine DK.test rfl rfl (fun h => ?_) (fun h => ?_)
  · try simp only [h]
    replace h := Tr.out h
    replace j : 0 ≤ i := hi0
    replace g : IntKind.i64.wrap (i + 1) = i + 1 := wrap_in _ (by omega) (by omega)
    replace k : i < a.op.length := h
    have hil : i.toNat < a.op.length := by omega
    replace e := mixL_len (f := cardC) (Nat.le_of_lt hil)
    clear u; obtain ⟨b, rfl, u⟩ := hO.blk (by omega)
    have hnb : H.length + 2 ≤ b := w.blk
    replace m := mix_cells (f := cardC) hil
    replace n : i.toNat * 8 + 8 ≤ a.op.length * 8 := by omega
    refine DK.skip ?_
    refine DK.seq ?_
    refine DK.block ?_
    refine DK.seq ?_
    refine DK.region (is := [0, 1]) (by kernel_rfl) rfl ?_
    refine WK.run [0, 1] (by simp [p, q, r, c, d, e, u, g, j, k, m, n, o, Cy.cells]; constructor <;> rfl) ?_
    refine WK.nil ?_
    refine DK.draw rfl (POk.of (ord := [0, 1, 2, 3, 4, 5, 6, 7, 8, 9, 10]) (by kernel_rfl)) ?_
    refine XK.run [0, 1, 2, 3, 4, 5, 6, 7] (by kernel_rfl) (by simp [p, q, r, c, d, e, u, g, j, k, m, n, o, Cy.cells]; constructor <;> rfl) ?_
    refine XK.call rfl (by simp [p, q, r, c, d, e, u, g, j, k, m, n, o, Cy.cells]) rfl (by simp [Tryd.func87, Tryd.f87, p, q, r, c, d, e, u, g, j, k, m, n, o, Cy.cells]; constructor <;> rfl) ?_
    refine FSem.mono (card_s ⟨_, _, _, _, _, _, _, _⟩ _) ?_
    rintro _ _ ⟨rfl, rfl⟩
    refine And.intro (lag_list (l := [1]) (by kernel_rfl) (lag_cons (lag_one rfl (by simp [p, q, r, c, d, e, u, g, j, k, m, n, o, Cy.cells]; constructor <;> rfl) rfl (by simp [p, q, r, c, d, e, u, g, j, k, m, n, o, Cy.cells]) (by simp [sameL, sameV_agg, sameV_int, sameV_bool, sameV_str, sameV_ptr, sameV_sl, sameV_map, same1_int, same1_bool, same1_str, same1_ptr, same1_sl, same1_map, p, q, r, c, d, e, u, g, j, k, m, n, o, Cy.cells]) rfl) rfl)) ?_
    refine XK.run [9] (by kernel_rfl) (by simp [p, q, r, c, d, e, u, g, j, k, m, n, o, Cy.cells]; constructor <;> rfl) ?_
    refine XK.one rfl (by simp [p, q, r, c, d, e, u, g, j, k, m, n, o, Cy.cells]) rfl (by simp [p, q, r, c, d, e, u, g, j, k, m, n, o, Cy.cells]; constructor <;> rfl) (lag_list (l := []) (by kernel_rfl) rfl) ?_
    refine XK.nil ?_
    refine DK.region (is := [0, 1]) (by kernel_rfl) rfl ?_
    refine WK.run [0, 1] (by simp [p, q, r, c, d, e, u, g, j, k, m, n, o, Cy.cells]; constructor <;> rfl) ?_
    refine WK.nil ?_
    refine ⟨by kernel_rfl, (a.op.length - (i + 1)).toNat, ?_, _, .slice (some ⟨b, 0, none⟩) (mixL cardC a.op i.toNat).length 8, _, _, _, _, _, _, _, _, _, _, _, _, _, _, rfl, ?_⟩
    · omega
    · have hpu := OpenAt.put u (i := i.toNat) (by rw [e]; exact hil) (cardC a.op[i.toNat])
      rw [mixL_set (f := cardC) hil] at hpu
      rw [show (i + 1).toNat = i.toNat + 1 by omega]
      exact ⟨⟨hM.far hnb _, by simpa [splice, Cy.cells, mixL_len (f := cardC) (Nat.le_of_lt hil)] using hpu, w⟩, by omega, by omega, rfl⟩
  try simp only [h]
  replace h := Fa.out h
  replace hO : OpenAt M s (a.op.map cardC) := by
    have hi : i = a.op.length := by omega
    subst hi; simpa [mixL_end] using hO
  refine DK.exit ?_
  refine DK.seq ?_
  refine DK.region (is := [0, 1, 2]) (by kernel_rfl) rfl ?_
  refine WK.run [0, 1, 2] (by simp [p, q, r, c, d, e, u, g, j, k, m, n, o, Cy.cells]; constructor <;> rfl) ?_
  refine WK.nil ?_
  refine DK.abs (fun M8 => AtM H [a.l s, a.l s] M8 ∧ OpenAt M8 s (a.op.map cardC)) ⟨hM.set (i := 1) (by simp) _, hO.set (w.ne (by omega)) _⟩ ?_
  try clear hM
  try clear hO
  rintro M8 ⟨hM, hO⟩
  replace p := hM.own 0 (by simp)
  replace q := hM.own 1 (by simp)
  simp only [List.getElem_cons_zero, List.getElem_cons_succ, Nat.add_zero] at p q
  replace r := hM.q2
  replace c := hO.cells.1
  replace d := hO.cells.2
  have hres : cardA a = ({ a with op := a.op.map cardC }, 0) := by unfold cardA; simp_all
  refine DK.ret ?_
  refine And.intro (Or.inr rfl) ?_
  refine ⟨_, by simp [absAnswer, absResults, absResult, Tryd.f65, p, q, r, c, d]; rfl, ?_⟩
  exact ⟨_, by rw [hres]; rfl, hM.keep.ext, by rw [hres]; exact hO, w.le (by omega)⟩
theorem cancel_s (a : Ac) {s : Value} {H : Mem} (hO : OpenAt H s a.op) (hn : a.op.length ≤ 1000000000000) : FSem Tryd.prog [0] 64 #[a.v s] H fun v H' => AcRes H (cancelA a) v H' := by
  refine FSem.ofK Tryd.func64 rfl ?_
  refine DK.from (b' := ⟨#[a.v s, undef, undef, undef, undef, undef, undef, undef, undef, undef, undef, undef, undef, undef, undef, undef, undef, undef, undef, undef, undef, undef, undef, undef, undef, undef, undef, undef, undef, undef, undef, undef, undef, undef, undef, undef, undef, undef], []⟩) (by kernel_rfl) ?_
  have p := trivial
  have q := trivial
  have r := trivial
  have c := trivial
  have d := trivial
  have e := trivial
  have u := trivial
  have g := trivial
  have j := trivial
  have k := trivial
  have m := trivial
  have n := trivial
  have o := trivial
  have w := trivial
  refine DK.seq ?_
  refine DK.region (is := [0, 1, 2]) (by kernel_rfl) rfl ?_
  refine WK.run [0, 1, 2] (by simp [p, q, r, c, d, e, u, g, j, k, m, n, o, Cy.cells]; constructor <;> rfl) ?_
  refine WK.nil ?_
  refine DK.abs (fun M0 => AtM H [a.l s, zeroA.l (.slice none 0 0)] M0 ∧ OpenAt M0 s a.op) ⟨AtM.start H [] [_, _], hO.app _⟩ ?_
  try clear hM
  try clear hO
  rintro M0 ⟨hM, hO⟩
  replace p := hM.own 0 (by simp)
  replace q := hM.own 1 (by simp)
  simp only [List.getElem_cons_zero, List.getElem_cons_succ, Nat.add_zero] at p q
  replace r := hM.q2
  replace c := hO.cells.1
  replace d := hO.cells.2
  refine DK.seq ?_
  refine DK.seq ?_
  refine DK.region (is := [0, 1, 2, 3, 4, 5, 6, 7]) (by kernel_rfl) rfl ?_
  refine WK.run [0, 1, 2, 3] (by simp [p, q, r, c, d, e, u, g, j, k, m, n, o, Cy.cells]; constructor <;> rfl) ?_
  refine WK.split (t := 8) rfl (fun h => ?_) (fun h => ?_)
  · try simp only [h]
    replace h := Tr.out h
    refine WK.run [4, 5, 6, 7] (by simp [p, q, r, c, d, e, u, g, j, k, m, n, o, Cy.cells]; constructor <;> rfl) ?_
    refine WK.nil ?_
    refine DK.test rfl rfl (fun h => ?_) (fun h => ?_)
    · try simp only [h]
      replace h := Tr.out h
      refine DK.seq ?_
      refine DK.region (is := [0, 1, 2]) (by kernel_rfl) rfl ?_
      refine WK.run [0, 1, 2] (by simp [p, q, r, c, d, e, u, g, j, k, m, n, o, Cy.cells]; constructor <;> rfl) ?_
      refine WK.nil ?_
      refine DK.abs (fun MZ => AtM H [a.l s, zeroA.l (.slice none 0 0)] MZ ∧ OpenAt MZ (.slice none 0 0) zeroA.op) ⟨hM.set (i := 1) (by simp) _, .inl ⟨rfl, rfl⟩⟩ ?_
      try clear hM
      try clear hO
      rintro MZ ⟨hM, hO⟩
      replace p := hM.own 0 (by simp)
      replace q := hM.own 1 (by simp)
      simp only [List.getElem_cons_zero, List.getElem_cons_succ, Nat.add_zero] at p q
      replace r := hM.q2
      replace c := hO.cells.1
      replace d := hO.cells.2
      replace w : Fresh (H.length + 2) (.slice none 0 0) := .inl rfl
      have hres : cancelA a = (zeroA, 8) := by unfold cancelA; simp_all
      refine DK.ret ?_
      refine And.intro (Or.inr rfl) ?_
      refine ⟨_, by simp [absAnswer, absResults, absResult, Tryd.f64, p, q, r, c, d]; rfl, ?_⟩
      exact ⟨_, by rw [hres]; rfl, hM.keep.ext, by rw [hres]; exact hO, w.le (by omega)⟩
    try simp only [h]
    replace h := Fa.out h
    refine DK.skip ?_
    refine DK.seq ?_
    refine DK.region (is := [0, 1, 2]) (by kernel_rfl) rfl ?_
    refine WK.run [0] (by simp [p, q, r, c, d, e, u, g, j, k, m, n, o, Cy.cells]; constructor <;> rfl) ?_
    refine WK.call rfl (by simp [p, q, r, c, d, e, u, g, j, k, m, n, o, Cy.cells]) (by simp [Tryd.func58, Tryd.f58, p, q, r, c, d, e, u, g, j, k, m, n, o, Cy.cells]; constructor <;> rfl) ?_
    refine FSem.mono (copy_s a hO (by omega)) ?_
    rintro _ M1 ⟨s1, rfl, hA, hO, w⟩
    replace w : Fresh (H.length + 2) s1 := w.le (hM.lt (i := 1) (by simp))
    replace hM := hM.on (Keep.of hA)
    replace p := hM.own 0 (by simp)
    replace q := hM.own 1 (by simp)
    simp only [List.getElem_cons_zero, List.getElem_cons_succ, Nat.add_zero] at p q
    replace r := hM.q2
    replace c := hO.cells.1
    replace d := hO.cells.2
    refine WK.run [2] (by simp [p, q, r, c, d, e, u, g, j, k, m, n, o, Cy.cells]; constructor <;> rfl) ?_
    refine WK.nil ?_
    refine DK.abs (fun M2 => AtM H [a.l s1, zeroA.l (.slice none 0 0)] M2 ∧ OpenAt M2 s1 a.op) ⟨hM.set (i := 0) (by simp) _, hO.set (w.ne (by omega)) _⟩ ?_
    try clear hM
    try clear hO
    rintro M2 ⟨hM, hO⟩
    replace p := hM.own 0 (by simp)
    replace q := hM.own 1 (by simp)
    simp only [List.getElem_cons_zero, List.getElem_cons_succ, Nat.add_zero] at p q
    replace r := hM.q2
    replace c := hO.cells.1
    replace d := hO.cells.2
    refine DK.seq ?_
    refine DK.region (is := [0, 1]) (by kernel_rfl) rfl ?_
    refine WK.run [0, 1] (by simp [p, q, r, c, d, e, u, g, j, k, m, n, o, Cy.cells]; constructor <;> rfl) ?_
    refine WK.nil ?_
    refine DK.abs (fun M3 => AtM H [({ a with st := 3 } : Ac).l s1, zeroA.l (.slice none 0 0)] M3 ∧ OpenAt M3 s1 a.op) ⟨hM.set (i := 0) (by simp) _, hO.set (w.ne (by omega)) _⟩ ?_
    try clear hM
    try clear hO
    rintro M3 ⟨hM, hO⟩
    replace p := hM.own 0 (by simp)
    replace q := hM.own 1 (by simp)
    simp only [List.getElem_cons_zero, List.getElem_cons_succ, Nat.add_zero] at p q
    replace r := hM.q2
    replace c := hO.cells.1
    replace d := hO.cells.2
    replace o := hO.lenK
    refine DK.seq ?_
    refine DK.seq ?_
    refine DK.region (is := [0, 1, 2, 3]) (by kernel_rfl) rfl ?_
    refine WK.run [0, 1, 2, 3] (by simp [p, q, r, c, d, e, u, g, j, k, m, n, o, Cy.cells]; constructor <;> rfl) ?_
    refine WK.nil ?_
    refine DK.block ?_
    refine DK.loopG [4, 20, 21, 22, 23, 24, 25, 26, 27, 28, 29, 30, 31, 32, 33] (fun fl vs H' => ∃ (i : Int) (s : Value) (j4 j21 j22 j23 j24 j25 j26 j27 j28 j29 j30 j31 j32 j33 : Value), vs = [j4, .int .i64 i, j21, j22, j23, j24, j25, j26, j27, j28, j29, j30, j31, j32, j33] ∧ (AtM H [({ a with st := 3 } : Ac).l s, zeroA.l (.slice none 0 0)] H' ∧ OpenAt H' s (mixL overC a.op i.toNat) ∧ Fresh (H.length + 2) s) ∧ 0 ≤ i ∧ i ≤ a.op.length ∧ fl = (a.op.length - i).toNat) (a.op.length) (by kernel_rfl) ?_ ?_
    · refine ⟨_, s1, _, _, _, _, _, _, _, _, _, _, _, _, _, _, rfl, ?_⟩
      exact ⟨⟨hM, by simpa [mixL_0] using hO, w⟩, by omega, by omega, by omega⟩
    rintro fl _ M ⟨i, s, j4, j21, j22, j23, j24, j25, j26, j27, j28, j29, j30, j31, j32, j33, rfl, hf⟩
    try clear hM
    try clear hO
    try clear w
    obtain ⟨⟨hM, hO, w⟩, hi0, hi1, hfl⟩ := hf
    replace p := hM.own 0 (by simp)
    replace q := hM.own 1 (by simp)
    simp only [List.getElem_cons_zero, List.getElem_cons_succ, Nat.add_zero] at p q
    replace r := hM.q2
    replace c := hO.cells.1
    replace d := hO.cells.2
    refine DK.from (by simp [setL]; exact rfl) ?_
    refine DK.seq ?_
    refine DK.region (is := [0]) (by kernel_rfl) rfl ?_
    refine WK.run [0] (by simp [p, q, r, c, d, e, u, g, j, k, m, n, o, Cy.cells]; constructor <;> rfl) ?_
    refine WK.nil ?_
    refine DK.seq ?_
    refine DK.test rfl rfl (fun h => ?_) (fun h => ?_)
    · try simp only [h]
      replace h := Tr.out h
      replace j : 0 ≤ i := hi0
      replace g : IntKind.i64.wrap (i + 1) = i + 1 := wrap_in _ (by omega) (by omega)
      replace k : i < a.op.length := h
      have hil : i.toNat < a.op.length := by omega
      replace e := mixL_len (f := overC) (Nat.le_of_lt hil)
      clear u; obtain ⟨b, rfl, u⟩ := hO.blk (by omega)
      have hnb : H.length + 2 ≤ b := w.blk
      replace m := mix_cells (f := overC) hil
      replace n : i.toNat * 8 + 8 ≤ a.op.length * 8 := by omega
      refine DK.skip ?_
      refine DK.seq ?_
      refine DK.block ?_
      refine DK.seq ?_
      refine DK.region (is := [0, 1]) (by kernel_rfl) rfl ?_
      refine WK.run [0, 1] (by simp [p, q, r, c, d, e, u, g, j, k, m, n, o, Cy.cells]; constructor <;> rfl) ?_
      refine WK.nil ?_
      refine DK.draw rfl (POk.of (ord := [0, 1, 2, 3, 4, 5, 6, 7, 8, 9, 10]) (by kernel_rfl)) ?_
      refine XK.run [0, 1, 2, 3, 4, 5, 6, 7] (by kernel_rfl) (by simp [p, q, r, c, d, e, u, g, j, k, m, n, o, Cy.cells]; constructor <;> rfl) ?_
      refine XK.call rfl (by simp [p, q, r, c, d, e, u, g, j, k, m, n, o, Cy.cells]) rfl (by simp [Tryd.func86, Tryd.f86, p, q, r, c, d, e, u, g, j, k, m, n, o, Cy.cells]; constructor <;> rfl) ?_
      refine FSem.mono (over_s ⟨_, _, _, _, _, _, _, _⟩ _) ?_
      rintro _ _ ⟨rfl, rfl⟩
      refine And.intro (lag_list (l := [1]) (by kernel_rfl) (lag_cons (lag_one rfl (by simp [p, q, r, c, d, e, u, g, j, k, m, n, o, Cy.cells]; constructor <;> rfl) rfl (by simp [p, q, r, c, d, e, u, g, j, k, m, n, o, Cy.cells]) (by simp [sameL, sameV_agg, sameV_int, sameV_bool, sameV_str, sameV_ptr, sameV_sl, sameV_map, same1_int, same1_bool, same1_str, same1_ptr, same1_sl, same1_map, p, q, r, c, d, e, u, g, j, k, m, n, o, Cy.cells]) rfl) rfl)) ?_
      refine XK.run [9] (by kernel_rfl) (by simp [p, q, r, c, d, e, u, g, j, k, m, n, o, Cy.cells]; constructor <;> rfl) ?_
      refine XK.one rfl (by simp [p, q, r, c, d, e, u, g, j, k, m, n, o, Cy.cells]) rfl (by simp [p, q, r, c, d, e, u, g, j, k, m, n, o, Cy.cells]; constructor <;> rfl) (lag_list (l := []) (by kernel_rfl) rfl) ?_
      refine XK.nil ?_
      refine DK.region (is := [0, 1]) (by kernel_rfl) rfl ?_
      refine WK.run [0, 1] (by simp [p, q, r, c, d, e, u, g, j, k, m, n, o, Cy.cells]; constructor <;> rfl) ?_
      refine WK.nil ?_
      refine ⟨by kernel_rfl, (a.op.length - (i + 1)).toNat, ?_, _, .slice (some ⟨b, 0, none⟩) (mixL overC a.op i.toNat).length 8, _, _, _, _, _, _, _, _, _, _, _, _, _, _, rfl, ?_⟩
      · omega
      · have hpu := OpenAt.put u (i := i.toNat) (by rw [e]; exact hil) (overC a.op[i.toNat])
        rw [mixL_set (f := overC) hil] at hpu
        rw [show (i + 1).toNat = i.toNat + 1 by omega]
        exact ⟨⟨hM.far hnb _, by simpa [splice, Cy.cells, mixL_len (f := overC) (Nat.le_of_lt hil)] using hpu, w⟩, by omega, by omega, rfl⟩
    try simp only [h]
    replace h := Fa.out h
    replace hO : OpenAt M s (a.op.map overC) := by
      have hi : i = a.op.length := by omega
      subst hi; simpa [mixL_end] using hO
    refine DK.exit ?_
    refine DK.seq ?_
    refine DK.region (is := [0, 1, 2, 3, 4, 5]) (by kernel_rfl) rfl ?_
    refine WK.run [0] (by simp [p, q, r, c, d, e, u, g, j, k, m, n, o, Cy.cells]; constructor <;> rfl) ?_
    refine WK.call rfl (by simp [p, q, r, c, d, e, u, g, j, k, m, n, o, Cy.cells]) (by simp [Tryd.func60, Tryd.f60, p, q, r, c, d, e, u, g, j, k, m, n, o, Cy.cells]; constructor <;> rfl) ?_
    refine FSem.mono (settle_s ({ a with st := 3, op := a.op.map overC } : Ac) hO (by simpa using hn)) ?_
    rintro _ R ⟨s2, rfl, hA, hO, w⟩
    replace w : Fresh (H.length + 2) s2 := w.le (hM.lt (i := 1) (by simp))
    replace hM := hM.on (Keep.of hA)
    replace p := hM.own 0 (by simp)
    replace q := hM.own 1 (by simp)
    simp only [List.getElem_cons_zero, List.getElem_cons_succ, Nat.add_zero] at p q
    replace r := hM.q2
    replace c := hO.cells.1
    replace d := hO.cells.2
    refine WK.run [2, 3, 4, 5] (by simp [p, q, r, c, d, e, u, g, j, k, m, n, o, Cy.cells]; constructor <;> rfl) ?_
    refine WK.nil ?_
    refine DK.abs (fun M8 => AtM H [({ a with st := 3, op := a.op.map overC } : Ac).l s, (settleA ({ a with st := 3, op := a.op.map overC } : Ac)).1.l s2] M8 ∧ OpenAt M8 s2 (settleA ({ a with st := 3, op := a.op.map overC } : Ac)).1.op) ⟨hM.set (i := 1) (by simp) _, hO.set (w.ne (by omega)) _⟩ ?_
    try clear hM
    try clear hO
    rintro M8 ⟨hM, hO⟩
    replace p := hM.own 0 (by simp)
    replace q := hM.own 1 (by simp)
    simp only [List.getElem_cons_zero, List.getElem_cons_succ, Nat.add_zero] at p q
    replace r := hM.q2
    replace c := hO.cells.1
    replace d := hO.cells.2
    have hres : cancelA a = ((settleA ({ a with st := 3, op := a.op.map overC } : Ac)).1, (settleA ({ a with st := 3, op := a.op.map overC } : Ac)).2) := by unfold cancelA; simp_all
    refine DK.ret ?_
    refine And.intro (Or.inr rfl) ?_
    refine ⟨_, by simp [absAnswer, absResults, absResult, Tryd.f64, p, q, r, c, d]; rfl, ?_⟩
    exact ⟨_, by rw [hres]; rfl, hM.keep.ext, by rw [hres]; exact hO, w.le (by omega)⟩
  try simp only [h]
  replace h := Fa.out h
  refine WK.run [4, 5, 6, 7] (by simp [p, q, r, c, d, e, u, g, j, k, m, n, o, Cy.cells]; constructor <;> rfl) ?_
  refine WK.nil ?_
  refine DK.no rfl rfl ?_
  refine DK.skip ?_
  refine DK.seq ?_
  refine DK.region (is := [0, 1, 2]) (by kernel_rfl) rfl ?_
  refine WK.run [0] (by simp [p, q, r, c, d, e, u, g, j, k, m, n, o, Cy.cells]; constructor <;> rfl) ?_
  refine WK.call rfl (by simp [p, q, r, c, d, e, u, g, j, k, m, n, o, Cy.cells]) (by simp [Tryd.func58, Tryd.f58, p, q, r, c, d, e, u, g, j, k, m, n, o, Cy.cells]; constructor <;> rfl) ?_
  refine FSem.mono (copy_s a hO (by omega)) ?_
  rintro _ M1 ⟨s1, rfl, hA, hO, w⟩
  replace w : Fresh (H.length + 2) s1 := w.le (hM.lt (i := 1) (by simp))
  replace hM := hM.on (Keep.of hA)
  replace p := hM.own 0 (by simp)
  replace q := hM.own 1 (by simp)
  simp only [List.getElem_cons_zero, List.getElem_cons_succ, Nat.add_zero] at p q
  replace r := hM.q2
  replace c := hO.cells.1
  replace d := hO.cells.2
  refine WK.run [2] (by simp [p, q, r, c, d, e, u, g, j, k, m, n, o, Cy.cells]; constructor <;> rfl) ?_
  refine WK.nil ?_
  refine DK.abs (fun M2 => AtM H [a.l s1, zeroA.l (.slice none 0 0)] M2 ∧ OpenAt M2 s1 a.op) ⟨hM.set (i := 0) (by simp) _, hO.set (w.ne (by omega)) _⟩ ?_
  try clear hM
  try clear hO
  rintro M2 ⟨hM, hO⟩
  replace p := hM.own 0 (by simp)
  replace q := hM.own 1 (by simp)
  simp only [List.getElem_cons_zero, List.getElem_cons_succ, Nat.add_zero] at p q
  replace r := hM.q2
  replace c := hO.cells.1
  replace d := hO.cells.2
  refine DK.seq ?_
  refine DK.region (is := [0, 1]) (by kernel_rfl) rfl ?_
  refine WK.run [0, 1] (by simp [p, q, r, c, d, e, u, g, j, k, m, n, o, Cy.cells]; constructor <;> rfl) ?_
  refine WK.nil ?_
  refine DK.abs (fun M3 => AtM H [({ a with st := 3 } : Ac).l s1, zeroA.l (.slice none 0 0)] M3 ∧ OpenAt M3 s1 a.op) ⟨hM.set (i := 0) (by simp) _, hO.set (w.ne (by omega)) _⟩ ?_
  try clear hM
  try clear hO
  rintro M3 ⟨hM, hO⟩
  replace p := hM.own 0 (by simp)
  replace q := hM.own 1 (by simp)
  simp only [List.getElem_cons_zero, List.getElem_cons_succ, Nat.add_zero] at p q
  replace r := hM.q2
  replace c := hO.cells.1
  replace d := hO.cells.2
  replace o := hO.lenK
  refine DK.seq ?_
  refine DK.seq ?_
  refine DK.region (is := [0, 1, 2, 3]) (by kernel_rfl) rfl ?_
  refine WK.run [0, 1, 2, 3] (by simp [p, q, r, c, d, e, u, g, j, k, m, n, o, Cy.cells]; constructor <;> rfl) ?_
  refine WK.nil ?_
  refine DK.block ?_
  refine DK.loopG [4, 20, 21, 22, 23, 24, 25, 26, 27, 28, 29, 30, 31, 32, 33] (fun fl vs H' => ∃ (i : Int) (s : Value) (j4 j21 j22 j23 j24 j25 j26 j27 j28 j29 j30 j31 j32 j33 : Value), vs = [j4, .int .i64 i, j21, j22, j23, j24, j25, j26, j27, j28, j29, j30, j31, j32, j33] ∧ (AtM H [({ a with st := 3 } : Ac).l s, zeroA.l (.slice none 0 0)] H' ∧ OpenAt H' s (mixL overC a.op i.toNat) ∧ Fresh (H.length + 2) s) ∧ 0 ≤ i ∧ i ≤ a.op.length ∧ fl = (a.op.length - i).toNat) (a.op.length) (by kernel_rfl) ?_ ?_
  · refine ⟨_, s1, _, _, _, _, _, _, _, _, _, _, _, _, _, _, rfl, ?_⟩
    exact ⟨⟨hM, by simpa [mixL_0] using hO, w⟩, by omega, by omega, by omega⟩
  rintro fl _ M ⟨i, s, j4, j21, j22, j23, j24, j25, j26, j27, j28, j29, j30, j31, j32, j33, rfl, hf⟩
  try clear hM
  try clear hO
  try clear w
  obtain ⟨⟨hM, hO, w⟩, hi0, hi1, hfl⟩ := hf
  replace p := hM.own 0 (by simp)
  replace q := hM.own 1 (by simp)
  simp only [List.getElem_cons_zero, List.getElem_cons_succ, Nat.add_zero] at p q
  replace r := hM.q2
  replace c := hO.cells.1
  replace d := hO.cells.2
  refine DK.from (by simp [setL]; exact rfl) ?_
  refine DK.seq ?_
  refine DK.region (is := [0]) (by kernel_rfl) rfl ?_
  refine WK.run [0] (by simp [p, q, r, c, d, e, u, g, j, k, m, n, o, Cy.cells]; constructor <;> rfl) ?_
  refine WK.nil ?_
  refine DK.seq ?_
  refine DK.test rfl rfl (fun h => ?_) (fun h => ?_)
  · try simp only [h]
    replace h := Tr.out h
    replace j : 0 ≤ i := hi0
    replace g : IntKind.i64.wrap (i + 1) = i + 1 := wrap_in _ (by omega) (by omega)
    replace k : i < a.op.length := h
    have hil : i.toNat < a.op.length := by omega
    replace e := mixL_len (f := overC) (Nat.le_of_lt hil)
    clear u; obtain ⟨b, rfl, u⟩ := hO.blk (by omega)
    have hnb : H.length + 2 ≤ b := w.blk
    replace m := mix_cells (f := overC) hil
    replace n : i.toNat * 8 + 8 ≤ a.op.length * 8 := by omega
    refine DK.skip ?_
    refine DK.seq ?_
    refine DK.block ?_
    refine DK.seq ?_
    refine DK.region (is := [0, 1]) (by kernel_rfl) rfl ?_
    refine WK.run [0, 1] (by simp [p, q, r, c, d, e, u, g, j, k, m, n, o, Cy.cells]; constructor <;> rfl) ?_
    refine WK.nil ?_
    refine DK.draw rfl (POk.of (ord := [0, 1, 2, 3, 4, 5, 6, 7, 8, 9, 10]) (by kernel_rfl)) ?_
    refine XK.run [0, 1, 2, 3, 4, 5, 6, 7] (by kernel_rfl) (by simp [p, q, r, c, d, e, u, g, j, k, m, n, o, Cy.cells]; constructor <;> rfl) ?_
    refine XK.call rfl (by simp [p, q, r, c, d, e, u, g, j, k, m, n, o, Cy.cells]) rfl (by simp [Tryd.func86, Tryd.f86, p, q, r, c, d, e, u, g, j, k, m, n, o, Cy.cells]; constructor <;> rfl) ?_
    refine FSem.mono (over_s ⟨_, _, _, _, _, _, _, _⟩ _) ?_
    rintro _ _ ⟨rfl, rfl⟩
    refine And.intro (lag_list (l := [1]) (by kernel_rfl) (lag_cons (lag_one rfl (by simp [p, q, r, c, d, e, u, g, j, k, m, n, o, Cy.cells]; constructor <;> rfl) rfl (by simp [p, q, r, c, d, e, u, g, j, k, m, n, o, Cy.cells]) (by simp [sameL, sameV_agg, sameV_int, sameV_bool, sameV_str, sameV_ptr, sameV_sl, sameV_map, same1_int, same1_bool, same1_str, same1_ptr, same1_sl, same1_map, p, q, r, c, d, e, u, g, j, k, m, n, o, Cy.cells]) rfl) rfl)) ?_
    refine XK.run [9] (by kernel_rfl) (by simp [p, q, r, c, d, e, u, g, j, k, m, n, o, Cy.cells]; constructor <;> rfl) ?_
    refine XK.one rfl (by simp [p, q, r, c, d, e, u, g, j, k, m, n, o, Cy.cells]) rfl (by simp [p, q, r, c, d, e, u, g, j, k, m, n, o, Cy.cells]; constructor <;> rfl) (lag_list (l := []) (by kernel_rfl) rfl) ?_
    refine XK.nil ?_
    refine DK.region (is := [0, 1]) (by kernel_rfl) rfl ?_
    refine WK.run [0, 1] (by simp [p, q, r, c, d, e, u, g, j, k, m, n, o, Cy.cells]; constructor <;> rfl) ?_
    refine WK.nil ?_
    refine ⟨by kernel_rfl, (a.op.length - (i + 1)).toNat, ?_, _, .slice (some ⟨b, 0, none⟩) (mixL overC a.op i.toNat).length 8, _, _, _, _, _, _, _, _, _, _, _, _, _, _, rfl, ?_⟩
    · omega
    · have hpu := OpenAt.put u (i := i.toNat) (by rw [e]; exact hil) (overC a.op[i.toNat])
      rw [mixL_set (f := overC) hil] at hpu
      rw [show (i + 1).toNat = i.toNat + 1 by omega]
      exact ⟨⟨hM.far hnb _, by simpa [splice, Cy.cells, mixL_len (f := overC) (Nat.le_of_lt hil)] using hpu, w⟩, by omega, by omega, rfl⟩
  try simp only [h]
  replace h := Fa.out h
  replace hO : OpenAt M s (a.op.map overC) := by
    have hi : i = a.op.length := by omega
    subst hi; simpa [mixL_end] using hO
  refine DK.exit ?_
  refine DK.seq ?_
  refine DK.region (is := [0, 1, 2, 3, 4, 5]) (by kernel_rfl) rfl ?_
  refine WK.run [0] (by simp [p, q, r, c, d, e, u, g, j, k, m, n, o, Cy.cells]; constructor <;> rfl) ?_
  refine WK.call rfl (by simp [p, q, r, c, d, e, u, g, j, k, m, n, o, Cy.cells]) (by simp [Tryd.func60, Tryd.f60, p, q, r, c, d, e, u, g, j, k, m, n, o, Cy.cells]; constructor <;> rfl) ?_
  refine FSem.mono (settle_s ({ a with st := 3, op := a.op.map overC } : Ac) hO (by simpa using hn)) ?_
  rintro _ R ⟨s2, rfl, hA, hO, w⟩
  replace w : Fresh (H.length + 2) s2 := w.le (hM.lt (i := 1) (by simp))
  replace hM := hM.on (Keep.of hA)
  replace p := hM.own 0 (by simp)
  replace q := hM.own 1 (by simp)
  simp only [List.getElem_cons_zero, List.getElem_cons_succ, Nat.add_zero] at p q
  replace r := hM.q2
  replace c := hO.cells.1
  replace d := hO.cells.2
  refine WK.run [2, 3, 4, 5] (by simp [p, q, r, c, d, e, u, g, j, k, m, n, o, Cy.cells]; constructor <;> rfl) ?_
  refine WK.nil ?_
  refine DK.abs (fun M8 => AtM H [({ a with st := 3, op := a.op.map overC } : Ac).l s, (settleA ({ a with st := 3, op := a.op.map overC } : Ac)).1.l s2] M8 ∧ OpenAt M8 s2 (settleA ({ a with st := 3, op := a.op.map overC } : Ac)).1.op) ⟨hM.set (i := 1) (by simp) _, hO.set (w.ne (by omega)) _⟩ ?_
  try clear hM
  try clear hO
  rintro M8 ⟨hM, hO⟩
  replace p := hM.own 0 (by simp)
  replace q := hM.own 1 (by simp)
  simp only [List.getElem_cons_zero, List.getElem_cons_succ, Nat.add_zero] at p q
  replace r := hM.q2
  replace c := hO.cells.1
  replace d := hO.cells.2
  have hres : cancelA a = ((settleA ({ a with st := 3, op := a.op.map overC } : Ac)).1, (settleA ({ a with st := 3, op := a.op.map overC } : Ac)).2) := by unfold cancelA; simp_all
  refine DK.ret ?_
  refine And.intro (Or.inr rfl) ?_
  refine ⟨_, by simp [absAnswer, absResults, absResult, Tryd.f64, p, q, r, c, d]; rfl, ?_⟩
  exact ⟨_, by rw [hres]; rfl, hM.keep.ext, by rw [hres]; exact hO, w.le (by omega)⟩
end Go.Den
set_option linter.unusedVariables false
set_option maxRecDepth 100000
namespace Go.Den
open Go Go.Proofs
theorem Lad.keep {H H' : Mem} (h : Lad H) (hk : Keep H H') : Lad H' := by
  obtain ⟨ro, h⟩ := h
  exact ⟨ro, (hk.2 _ (List.getElem?_eq_some_iff.1 h).1).trans h⟩
theorem OpenAt.get {H : Mem} {b n : Nat} {l : List Cy} (h : OpenAt H (.slice (some ⟨b, 0, none⟩) n 8) l) : H[b]? = some (.cells false (cysV l)) := by
  rcases h with ⟨h, _⟩ | ⟨b', h1, h2⟩
  · cases h
  · cases h1; exact h2
theorem hear_g (su : Int) (c : Cy) (a : Nt) (today : Int) (over : Bool) {H : Mem} (hL : Lad H) :
    FSem Tryd.prog [0] 59 #[.int .i64 su, c.v, a.v, .int .i64 today, .bool over] H fun v H' => ∃ x e, v = .tuple #[Cy.v x, .int .i64 e] ∧ hearC su c a today over = (x, e) ∧ H' = H := by
  refine FSem.mono (hear_s su c a today over hL) ?_
  rintro v H' ⟨rfl, rfl⟩
  exact ⟨_, _, rfl, rfl, rfl⟩
theorem hearA_none {su today : Int} {a : Ac} {n : Nt} (h : ∀ j (hj : j < a.op.length), a.op[j].no ≠ n.cy) : hearA su a n today = (zeroA, 10) := by
  have e : a.op.findIdx? (fun c => decide (c.no = n.cy)) = none := by
    rw [List.findIdx?_eq_none_iff]
    intro x hx
    obtain ⟨j, hj, rfl⟩ := List.getElem_of_mem hx
    simp [h j hj]
  unfold hearA; rw [e]
theorem hearA_some {su today : Int} {a : Ac} {n : Nt} {i : Nat} (hi : i < a.op.length) (h0 : a.op[i].no = n.cy) (h : ∀ j (hj : j < i), a.op[j].no ≠ n.cy) {x : Cy} {e : Int} (hx : hearC su a.op[i] n today (decide (a.st = 3)) = (x, e)) :
    hearA su a n today = if e ≠ 0 then (zeroA, e) else settleA { a with op := a.op.set i x } := by
  have e1 : a.op.findIdx? (fun c => decide (c.no = n.cy)) = some i := by
    rw [List.findIdx?_eq_some_iff_getElem]
    exact ⟨hi, by simp [h0], fun j hj => by simp [h j hj]⟩
  unfold hearA; rw [e1]
  simp only [List.getD_eq_getElem?_getD, List.getElem?_eq_getElem hi, Option.getD_some, hx]
end Go.Den
namespace Go.Den
open Go Go.Proofs
set_option maxRecDepth 100000
set_option maxHeartbeats 1000000
set_option linter.all false
attribute [local simp] evOps evOp absOp absBox absAlloc absLoad absStore absField absIndexAddr absCells absBinOp absBin absInt absShift absUn absPick absNil absExtract absBuild absPlaces Instr.fill absBuiltin absMinMax plainV plainT allA flat cells_agg cells_int cells_bool cells_str cells_ptr cells_sl cells_map one_int one_bool one_str one_ptr one_sl one_map Act.eval Act.put Region.wanted yielded splice absCall TypeDesc.isRow
theorem ahear_s (su : Int) (a : Ac) (n : Nt) (today : Int) {s : Value} {H : Mem} (hL : Lad H) (hO : OpenAt H s a.op) (hn : a.op.length ≤ 1000000000000) : FSem Tryd.prog [0] 33 #[.int .i64 su, a.v s, n.v, .int .i64 today] H fun v H' => AcRes H (hearA su a n today) v H' := by
  refine FSem.ofK Tryd.func33 rfl ?_
  refine DK.from (b' := ⟨#[.int .i64 su, a.v s, n.v, .int .i64 today, undef, undef, undef, undef, undef, undef, undef, undef, undef, undef, undef, undef, undef, undef, undef, undef, undef, undef, undef, undef, undef, undef, undef, undef, undef, undef, undef, undef, undef, undef, undef, undef, undef, undef, undef, undef, undef, undef, undef, undef, undef, undef, undef, undef, undef, undef, undef, undef, undef, undef, undef], []⟩) (by kernel_rfl) ?_
  have e := trivial
  have f := trivial
  have g := trivial
  have y := trivial
  have c := trivial
  have d := trivial
  have w := trivial
  have z := trivial
  have k := trivial
  have m := trivial
  have o := trivial
  have p := trivial
  have q := trivial
  have r := trivial
  have t := trivial
  have u := trivial
  have A := trivial
  refine DK.seq ?_
  refine DK.region (is := [0, 1, 2, 3]) (by kernel_rfl) rfl ?_
  refine WK.run [0, 1, 2, 3] (by simp [e, f, g, y, c, d, w, z, k, m, o, p, q, r, t, u, Cy.cells]; constructor <;> rfl) ?_
  refine WK.nil ?_
  refine DK.abs (fun M0 => AtM H [a.l s, n.l, zeroA.l (.slice none 0 0)] M0 ∧ OpenAt M0 s a.op) ⟨AtM.start H [] [_, _, _], hO.app _⟩ ?_
  try clear hM
  try clear hO
  rintro M0 ⟨hM, hO⟩
  replace e := hM.own 0 (by simp)
  replace f := hM.own 1 (by simp)
  replace g := hM.own 2 (by simp)
  simp only [List.getElem_cons_zero, List.getElem_cons_succ, Nat.add_zero] at e f g
  replace y := hM.q3
  replace c := hO.cells.1
  replace d := hO.cells.2
  refine DK.seq ?_
  refine DK.region (is := [0, 1, 2]) (by kernel_rfl) rfl ?_
  refine WK.run [0] (by simp [e, f, g, y, c, d, w, z, k, m, o, p, q, r, t, u, Cy.cells]; constructor <;> rfl) ?_
  refine WK.call rfl (by simp [e, f, g, y, c, d, w, z, k, m, o, p, q, r, t, u, Cy.cells]) (by simp [Tryd.func58, Tryd.f58, e, f, g, y, c, d, w, z, k, m, o, p, q, r, t, u, Cy.cells]; constructor <;> rfl) ?_
  refine FSem.mono (copy_s a hO (by omega)) ?_
  rintro _ M1 ⟨s1, rfl, hA, hO, A⟩
  replace A : Fresh (H.length + 3) s1 := A.le (hM.lt (i := 2) (by simp))
  replace hM := hM.on (Keep.of hA)
  replace e := hM.own 0 (by simp)
  replace f := hM.own 1 (by simp)
  replace g := hM.own 2 (by simp)
  simp only [List.getElem_cons_zero, List.getElem_cons_succ, Nat.add_zero] at e f g
  replace y := hM.q3
  replace c := hO.cells.1
  replace d := hO.cells.2
  refine WK.run [2] (by simp [e, f, g, y, c, d, w, z, k, m, o, p, q, r, t, u, Cy.cells]; constructor <;> rfl) ?_
  refine WK.nil ?_
  refine DK.abs (fun M2 => AtM H [a.l s1, n.l, zeroA.l (.slice none 0 0)] M2 ∧ OpenAt M2 s1 a.op) ⟨hM.set (i := 0) (by simp) _, hO.set (A.ne (by omega)) _⟩ ?_
  try clear hM
  try clear hO
  rintro M2 ⟨hM, hO⟩
  replace e := hM.own 0 (by simp)
  replace f := hM.own 1 (by simp)
  replace g := hM.own 2 (by simp)
  simp only [List.getElem_cons_zero, List.getElem_cons_succ, Nat.add_zero] at e f g
  replace y := hM.q3
  replace c := hO.cells.1
  replace d := hO.cells.2
  replace u := hO.lenK
  refine DK.seq ?_
  refine DK.seq ?_
  refine DK.region (is := [0, 1, 2, 3]) (by kernel_rfl) rfl ?_
  refine WK.run [0, 1, 2, 3] (by simp [e, f, g, y, c, d, w, z, k, m, o, p, q, r, t, u, Cy.cells]; constructor <;> rfl) ?_
  refine WK.nil ?_
  refine DK.block ?_
  refine DK.loopG [9, 10, 11, 12, 13, 19, 20, 21, 22, 23, 24, 25, 26, 27, 28, 29, 30, 31, 32, 33, 34, 35, 36, 37, 38, 39, 40, 41, 42, 43, 44, 45, 46, 47, 48, 49, 50, 51, 52, 53] (fun fl vs H' => ∃ (i : Int) (j9 j10 j11 j12 j13 j20 j21 j22 j23 j24 j25 j26 j27 j28 j29 j30 j31 j32 j33 j34 j35 j36 j37 j38 j39 j40 j41 j42 j43 j44 j45 j46 j47 j48 j49 j50 j51 j52 j53 : Value), vs = [j9, j10, j11, j12, j13, .int .i64 i, j20, j21, j22, j23, j24, j25, j26, j27, j28, j29, j30, j31, j32, j33, j34, j35, j36, j37, j38, j39, j40, j41, j42, j43, j44, j45, j46, j47, j48, j49, j50, j51, j52, j53] ∧ (AtM H [a.l s1, n.l, zeroA.l (.slice none 0 0)] H' ∧ OpenAt H' s1 a.op ∧ Fresh (H.length + 3) s1) ∧ 0 ≤ i ∧ i ≤ a.op.length ∧ (∀ j (hj : j < i.toNat) (hl : j < a.op.length), a.op[j].no ≠ n.cy) ∧ fl = (a.op.length - i).toNat) (a.op.length) (by kernel_rfl) ?_ ?_
  · refine ⟨_, _, _, _, _, _, _, _, _, _, _, _, _, _, _, _, _, _, _, _, _, _, _, _, _, _, _, _, _, _, _, _, _, _, _, _, _, _, _, _, rfl, ?_⟩
    exact ⟨⟨hM, hO, A⟩, by omega, by omega, fun j hj => by omega, by omega⟩
  rintro fl _ M ⟨i, j9, j10, j11, j12, j13, j20, j21, j22, j23, j24, j25, j26, j27, j28, j29, j30, j31, j32, j33, j34, j35, j36, j37, j38, j39, j40, j41, j42, j43, j44, j45, j46, j47, j48, j49, j50, j51, j52, j53, rfl, hf⟩
  try clear hM
  try clear hO
  try clear A
  obtain ⟨⟨hM, hO, A⟩, hi0, hi1, hnn, hfl⟩ := hf
  replace e := hM.own 0 (by simp)
  replace f := hM.own 1 (by simp)
  replace g := hM.own 2 (by simp)
  simp only [List.getElem_cons_zero, List.getElem_cons_succ, Nat.add_zero] at e f g
  replace y := hM.q3
  replace c := hO.cells.1
  replace d := hO.cells.2
  refine DK.from (by simp [setL]; exact rfl) ?_
  refine DK.seq ?_
  refine DK.region (is := [0]) (by kernel_rfl) rfl ?_
  refine WK.run [0] (by simp [e, f, g, y, c, d, w, z, k, m, o, p, q, r, t, u, Cy.cells]; constructor <;> rfl) ?_
  refine WK.nil ?_
  refine DK.seq ?_
  refine DK.test rfl rfl (fun h => ?_) (fun h => ?_)
  · try simp only [h]
    replace h := Tr.out h
    replace m : 0 ≤ i := hi0
    replace k : IntKind.i64.wrap (i + 1) = i + 1 := wrap_in _ (by omega) (by omega)
    replace o : i < a.op.length := h
    have hil : i.toNat < a.op.length := by omega
    clear z; obtain ⟨b, rfl, z⟩ := hO.blk (by omega)
    have hnb : H.length + 3 ≤ b := A.blk
    replace p := cys_get hil
    replace q : i.toNat * 8 + 8 ≤ a.op.length * 8 := by omega
    have hno : ∀ j (hj : j < i.toNat), a.op[j].no ≠ n.cy := fun j hj => hnn j hj (by omega)
    refine DK.skip ?_
    refine DK.seq ?_
    refine DK.block ?_
    refine DK.seq ?_
    refine DK.region (is := [0, 1, 2, 3, 4, 5]) (by kernel_rfl) rfl ?_
    refine WK.run [0, 1, 2, 3, 4, 5] (by simp [e, f, g, y, c, d, w, z, k, m, o, p, q, r, t, u, Cy.cells]; constructor <;> rfl) ?_
    refine WK.nil ?_
    refine DK.abs (fun MA => AtM H [a.l (.slice (some ⟨b, 0, none⟩) a.op.length 8), n.l, zeroA.l (.slice none 0 0)] MA ∧ OpenAt MA (.slice (some ⟨b, 0, none⟩) a.op.length 8) a.op ∧ MA[M.length]? = some (.cells false a.op[i.toNat].l)) ⟨hM.on (Keep.app _ _), hO.app _, by simp⟩ ?_
    try clear hM
    try clear hO
    rintro MA ⟨hM, hO, r⟩
    replace e := hM.own 0 (by simp)
    replace f := hM.own 1 (by simp)
    replace g := hM.own 2 (by simp)
    simp only [List.getElem_cons_zero, List.getElem_cons_succ, Nat.add_zero] at e f g
    replace y := hM.q3
    replace c := hO.cells.1
    replace d := hO.cells.2
    replace z := hO.get
    refine DK.seq ?_
    refine DK.seq ?_
    refine DK.region (is := [0, 1, 2, 3, 4]) (by kernel_rfl) rfl ?_
    refine WK.run [0, 1, 2, 3, 4] (by simp [e, f, g, y, c, d, w, z, k, m, o, p, q, r, t, u, Cy.cells]; constructor <;> rfl) ?_
    refine WK.nil ?_
    refine DK.test rfl rfl (fun h => ?_) (fun h => ?_)
    · try simp only [h]
      replace h := Tr.out h
      refine DK.exit ?_
      refine DK.region (is := [0, 1]) (by kernel_rfl) rfl ?_
      refine WK.run [0, 1] (by simp [e, f, g, y, c, d, w, z, k, m, o, p, q, r, t, u, Cy.cells]; constructor <;> rfl) ?_
      refine WK.nil ?_
      refine ⟨by kernel_rfl, (a.op.length - (i + 1)).toNat, ?_, _, _, _, _, _, _, _, _, _, _, _, _, _, _, _, _, _, _, _, _, _, _, _, _, _, _, _, _, _, _, _, _, _, _, _, _, _, _, _, _, rfl, ?_⟩
      · omega
      · refine ⟨⟨hM, hO, A⟩, by omega, by omega, fun j hj hl => ?_, rfl⟩
        by_cases hji : j < i.toNat
        · exact hnn j hji hl
        · have : j = i.toNat := by omega
          subst this; assumption
    try simp only [h]
    replace h := Fa.out h
    refine DK.skip ?_
    refine DK.seq ?_
    refine DK.region (is := [0, 1, 2, 3, 4, 5, 6, 7, 8, 9, 10, 11, 12, 13]) (by kernel_rfl) rfl ?_
    refine WK.run [0, 1, 2, 3, 4, 5, 6] (by simp [e, f, g, y, c, d, w, z, k, m, o, p, q, r, t, u, Cy.cells]; constructor <;> rfl) ?_
    refine WK.call rfl (by simp [e, f, g, y, c, d, w, z, k, m, o, p, q, r, t, u, Cy.cells]) (by simp [Tryd.func59, Tryd.f59, e, f, g, y, c, d, w, z, k, m, o, p, q, r, t, u, Cy.cells]; constructor <;> rfl) ?_
    refine FSem.mono (hear_g su (a.op[i.toNat]) n today _ (hL.keep hM.keep)) ?_
    rintro _ Hq ⟨x, e2, rfl, hhr, hq⟩
    replace hq := hq.symm
    subst hq
    refine WK.run [8, 9, 10, 11, 12, 13] (by simp [e, f, g, y, c, d, w, z, k, m, o, p, q, r, t, u, Cy.cells]; constructor <;> rfl) ?_
    refine WK.nil ?_
    refine DK.abs (fun MB => AtM H [a.l (.slice (some ⟨b, 0, none⟩) a.op.length 8), n.l, zeroA.l (.slice none 0 0)] MB ∧ OpenAt MB (.slice (some ⟨b, 0, none⟩) a.op.length 8) a.op ∧ MB[MA.length]? = some (.cells false x.l)) ⟨hM.on (Keep.app _ _), hO.app _, by simp⟩ ?_
    try clear hM
    try clear hO
    rintro MB ⟨hM, hO, t⟩
    replace e := hM.own 0 (by simp)
    replace f := hM.own 1 (by simp)
    replace g := hM.own 2 (by simp)
    simp only [List.getElem_cons_zero, List.getElem_cons_succ, Nat.add_zero] at e f g
    replace y := hM.q3
    replace c := hO.cells.1
    replace d := hO.cells.2
    replace z := hO.get
    have hro := hearA_some hil (by assumption) hno hhr
    refine DK.seq ?_
    refine DK.seq ?_
    refine DK.region (is := [0, 1]) (by kernel_rfl) rfl ?_
    refine WK.run [0, 1] (by simp [e, f, g, y, c, d, w, z, k, m, o, p, q, r, t, u, Cy.cells]; constructor <;> rfl) ?_
    refine WK.nil ?_
    refine DK.test rfl rfl (fun h => ?_) (fun h => ?_)
    · try simp only [h]
      replace h := Tr.out h
      refine DK.seq ?_
      refine DK.region (is := [0, 1, 2, 3]) (by kernel_rfl) rfl ?_
      refine WK.run [0, 1, 2, 3] (by simp [e, f, g, y, c, d, w, z, k, m, o, p, q, r, t, u, Cy.cells]; constructor <;> rfl) ?_
      refine WK.nil ?_
      refine DK.abs (fun MZ => AtM H [a.l (.slice (some ⟨b, 0, none⟩) a.op.length 8), n.l, zeroA.l (.slice none 0 0)] MZ ∧ OpenAt MZ (.slice none 0 0) zeroA.op) ⟨hM.set (i := 2) (by simp) _, .inl ⟨rfl, rfl⟩⟩ ?_
      try clear hM
      try clear hO
      rintro MZ ⟨hM, hO⟩
      replace e := hM.own 0 (by simp)
      replace f := hM.own 1 (by simp)
      replace g := hM.own 2 (by simp)
      simp only [List.getElem_cons_zero, List.getElem_cons_succ, Nat.add_zero] at e f g
      replace y := hM.q3
      replace c := hO.cells.1
      replace d := hO.cells.2
      replace A : Fresh (H.length + 3) (.slice none 0 0) := .inl rfl
      have hres : hearA su a n today = (zeroA, e2) := by rw [hro, if_pos (by assumption)]
      refine DK.ret ?_
      refine And.intro (Or.inr rfl) ?_
      refine ⟨_, by simp [absAnswer, absResults, absResult, Tryd.f33, e, f, g, y, c, d]; rfl, ?_⟩
      exact ⟨_, by rw [hres]; rfl, hM.keep.ext, by rw [hres]; exact hO, A.le (by omega)⟩
    try simp only [h]
    replace h := Fa.out h
    refine DK.skip ?_
    refine DK.seq ?_
    refine DK.region (is := [0, 1, 2, 3, 4, 5]) (by kernel_rfl) rfl ?_
    refine WK.run [0, 1, 2, 3, 4, 5] (by simp [e, f, g, y, c, d, w, z, k, m, o, p, q, r, t, u, Cy.cells]; constructor <;> rfl) ?_
    refine WK.nil ?_
    refine DK.abs (fun MC => AtM H [({ a with op := a.op.set i.toNat x } : Ac).l (.slice (some ⟨b, 0, none⟩) a.op.length 8), n.l, zeroA.l (.slice none 0 0)] MC ∧ OpenAt MC (.slice (some ⟨b, 0, none⟩) a.op.length 8) (a.op.set i.toNat x)) ⟨hM.far hnb _, by have hpu := OpenAt.put z hil x; simpa [splice, Cy.cells] using hpu⟩ ?_
    try clear hM
    try clear hO
    rintro MC ⟨hM, hO⟩
    replace e := hM.own 0 (by simp)
    replace f := hM.own 1 (by simp)
    replace g := hM.own 2 (by simp)
    simp only [List.getElem_cons_zero, List.getElem_cons_succ, Nat.add_zero] at e f g
    replace y := hM.q3
    replace c := hO.cells.1
    replace d := hO.cells.2
    refine DK.seq ?_
    refine DK.region (is := [0, 1, 2, 3, 4, 5]) (by kernel_rfl) rfl ?_
    refine WK.run [0] (by simp [e, f, g, y, c, d, w, z, k, m, o, p, q, r, t, u, Cy.cells]; constructor <;> rfl) ?_
    refine WK.call rfl (by simp [e, f, g, y, c, d, w, z, k, m, o, p, q, r, t, u, Cy.cells]) (by simp [Tryd.func60, Tryd.f60, e, f, g, y, c, d, w, z, k, m, o, p, q, r, t, u, Cy.cells]; constructor <;> rfl) ?_
    refine FSem.mono (settle_s ({ a with op := a.op.set i.toNat x } : Ac) hO (by simpa using hn)) ?_
    rintro _ R ⟨s2, rfl, hA, hO, A⟩
    replace A : Fresh (H.length + 3) s2 := A.le (hM.lt (i := 2) (by simp))
    replace hM := hM.on (Keep.of hA)
    replace e := hM.own 0 (by simp)
    replace f := hM.own 1 (by simp)
    replace g := hM.own 2 (by simp)
    simp only [List.getElem_cons_zero, List.getElem_cons_succ, Nat.add_zero] at e f g
    replace y := hM.q3
    replace c := hO.cells.1
    replace d := hO.cells.2
    refine WK.run [2, 3, 4, 5] (by simp [e, f, g, y, c, d, w, z, k, m, o, p, q, r, t, u, Cy.cells]; constructor <;> rfl) ?_
    refine WK.nil ?_
    refine DK.abs (fun M8 => AtM H [({ a with op := a.op.set i.toNat x } : Ac).l (.slice (some ⟨b, 0, none⟩) a.op.length 8), n.l, (settleA ({ a with op := a.op.set i.toNat x } : Ac)).1.l s2] M8 ∧ OpenAt M8 s2 (settleA ({ a with op := a.op.set i.toNat x } : Ac)).1.op) ⟨hM.set (i := 2) (by simp) _, hO.set (A.ne (by omega)) _⟩ ?_
    try clear hM
    try clear hO
    rintro M8 ⟨hM, hO⟩
    replace e := hM.own 0 (by simp)
    replace f := hM.own 1 (by simp)
    replace g := hM.own 2 (by simp)
    simp only [List.getElem_cons_zero, List.getElem_cons_succ, Nat.add_zero] at e f g
    replace y := hM.q3
    replace c := hO.cells.1
    replace d := hO.cells.2
    have hres : hearA su a n today = ((settleA ({ a with op := a.op.set i.toNat x } : Ac)).1, (settleA ({ a with op := a.op.set i.toNat x } : Ac)).2) := by rw [hro, if_neg (by simpa using ‹_›)]
    refine DK.ret ?_
    refine And.intro (Or.inr rfl) ?_
    refine ⟨_, by simp [absAnswer, absResults, absResult, Tryd.f33, e, f, g, y, c, d]; rfl, ?_⟩
    exact ⟨_, by rw [hres]; rfl, hM.keep.ext, by rw [hres]; exact hO, A.le (by omega)⟩
  try simp only [h]
  replace h := Fa.out h
  have hno : ∀ j (hj : j < a.op.length), a.op[j].no ≠ n.cy := fun j hj => hnn j (by omega) hj
  refine DK.exit ?_
  refine DK.seq ?_
  refine DK.region (is := [0, 1, 2]) (by kernel_rfl) rfl ?_
  refine WK.run [0, 1, 2] (by simp [e, f, g, y, c, d, w, z, k, m, o, p, q, r, t, u, Cy.cells]; constructor <;> rfl) ?_
  refine WK.nil ?_
  refine DK.abs (fun MZ => AtM H [a.l s1, n.l, zeroA.l (.slice none 0 0)] MZ ∧ OpenAt MZ (.slice none 0 0) zeroA.op) ⟨hM.set (i := 2) (by simp) _, .inl ⟨rfl, rfl⟩⟩ ?_
  try clear hM
  try clear hO
  rintro MZ ⟨hM, hO⟩
  replace e := hM.own 0 (by simp)
  replace f := hM.own 1 (by simp)
  replace g := hM.own 2 (by simp)
  simp only [List.getElem_cons_zero, List.getElem_cons_succ, Nat.add_zero] at e f g
  replace y := hM.q3
  replace c := hO.cells.1
  replace d := hO.cells.2
  replace A : Fresh (H.length + 3) (.slice none 0 0) := .inl rfl
  have hres : hearA su a n today = (zeroA, 10) := hearA_none fun j hj => hno j (by omega)
  refine DK.ret ?_
  refine And.intro (Or.inr rfl) ?_
  refine ⟨_, by simp [absAnswer, absResults, absResult, Tryd.f33, e, f, g, y, c, d]; rfl, ?_⟩
  exact ⟨_, by rw [hres]; rfl, hM.keep.ext, by rw [hres]; exact hO, A.le (by omega)⟩
end Go.Den
set_option linter.unusedVariables false
set_option maxRecDepth 100000
namespace Go.Den
open Go Go.Proofs
theorem nthF_bd (a u e n : Int) : 0 ≤ (nthF a u e n).1 ∧ (nthF a u e n).1 ≤ 3652058 := by
  unfold nthF
  split
  · rename_i h
    cases hc : nthO a u e n with
    | none => simp [Sea.out]
    | some v =>
      have := nthO_range h hc
      obtain ⟨⟨h1, h2⟩, _, h6, h7⟩ := h
      simp only [Sea.out]; omega
  · simp
theorem spanF_bd (a u e day : Int) : (0 ≤ (spanF a u e day).1 ∧ (spanF a u e day).1 ≤ 3652058) ∧ (0 ≤ (spanF a u e day).2.1 ∧ (spanF a u e day).2.1 ≤ 3652058) ∧ ((spanF a u e day).2.2 = 0 → 0 ≤ day ∧ day ≤ 3652058) := by
  unfold spanF
  split
  · rename_i h
    split
    · simp
    · split
      · exact ⟨nthF_bd _ _ _ _, nthF_bd _ _ _ _, fun _ => h.2⟩
      · exact ⟨by simp, by simp, fun _ => h.2⟩
  · simp
theorem span_g (a u e day : Int) (hu : 0 ≤ u) (H : Mem) : FSem Tryd.prog [0] 88 #[.int .i64 a, .int .u8 u, .int .i64 e, .int .i64 day] H fun v H' =>
    ∃ f t er, v = .tuple #[.int .i64 f, .int .i64 t, .int .i64 er] ∧ spanF a u e day = (f, t, er) ∧ ((0 ≤ f ∧ f ≤ 3652058) ∧ (0 ≤ t ∧ t ≤ 3652058) ∧ (er = 0 → 0 ≤ day ∧ day ≤ 3652058)) ∧ H' = H := by
  refine FSem.mono (span_s a u e day hu H) ?_
  rintro v H' ⟨⟨f, t, er, rfl, h1, h2⟩, rfl⟩
  have e1 := spanF_of h1 h2
  have e2 := spanF_bd a u e day
  rw [← e1] at e2
  exact ⟨f, t, er, rfl, e1.symm, e2, rfl⟩
theorem pchange_g (f t : Pl) (left days : Int) (hf : f.pr ≤ 1073741824) (ht : t.pr ≤ 1073741824) (hl : left ≤ 4000000) (hd : days ≤ 4000000) (H : Mem) :
    FSem Tryd.prog [0] 89 #[f.v, t.v, .int .i64 left, .int .i64 days] H fun v H' => ∃ x y er, v = .tuple #[.int .i64 x, .int .i64 y, .int .i64 er] ∧ planChg f t left days = (x, y, er) ∧ H' = H := by
  refine FSem.mono (pchange_s f t left days hf ht hl hd H) ?_
  rintro v H' ⟨rfl, rfl⟩
  exact ⟨_, _, _, rfl, rfl, rfl⟩
theorem add_g (a b : Int) (H : Mem) : FSem Tryd.prog [0] 90 #[.int .i64 a, .int .i64 b] H fun v H' => ∃ x er, v = .tuple #[.int .i64 x, .int .i64 er] ∧ addP a b = (x, er) ∧ H' = H := by
  refine FSem.mono (add_s a b H) ?_
  rintro v H' ⟨rfl, rfl⟩
  exact ⟨_, _, rfl, rfl, rfl⟩
theorem changeA_8 {a : Ac} {f : Pl} {n : Int} {t : Pl} {today : Int} (h : a.st ≠ 1 ∨ n = a.pl) : changeA a f n t today = (zeroA, 8) := by unfold changeA; rw [if_pos h]
theorem changeA_y {a : Ac} {f : Pl} {n : Int} {t : Pl} {today fi nx er : Int} (h : ¬ (a.st ≠ 1 ∨ n = a.pl)) (hs : spanF a.an f.un f.ev today = (fi, nx, er)) (he : er = 0) (hi : 0 < a.ix) {x y e : Int} (hp : planChg f t (IntKind.i64.wrap (nx - today)) (IntKind.i64.wrap (nx - fi)) = (x, y, e)) :
    changeA a f n t today = if e ≠ 0 then (zeroA, e) else if (addP a.cr (IntKind.i64.wrap (x - y))).2 ≠ 0 then (zeroA, (addP a.cr (IntKind.i64.wrap (x - y))).2) else ({ a with cr := (addP a.cr (IntKind.i64.wrap (x - y))).1, an := nx, pl := n, ix := 0 }, 0) := by
  unfold changeA; rw [if_neg h]; simp only [hs]; rw [if_pos ⟨he, hi⟩]; simp only [hp]
theorem changeA_n {a : Ac} {f : Pl} {n : Int} {t : Pl} {today fi nx er : Int} (h : ¬ (a.st ≠ 1 ∨ n = a.pl)) (hs : spanF a.an f.un f.ev today = (fi, nx, er)) (hi : ¬ (er = 0 ∧ 0 < a.ix)) :
    changeA a f n t today = if er = 6 then (zeroA, 8) else ({ a with pl := n, ix := 0 }, 0) := by
  unfold changeA; rw [if_neg h]; simp only [hs]; rw [if_neg hi]
end Go.Den
namespace Go.Den
open Go Go.Proofs
set_option maxRecDepth 100000
set_option maxHeartbeats 1000000
set_option linter.all false
attribute [local simp] evOps evOp absOp absBox absAlloc absLoad absStore absField absIndexAddr absCells absBinOp absBin absInt absShift absUn absPick absNil absExtract absBuild absPlaces Instr.fill absBuiltin absMinMax plainV plainT allA flat cells_agg cells_int cells_bool cells_str cells_ptr cells_sl cells_map one_int one_bool one_str one_ptr one_sl one_map Act.eval Act.put Region.wanted yielded splice absCall TypeDesc.isRow
theorem achange_s (a : Ac) (f : Pl) (n : Int) (t : Pl) (today : Int) (hu : 0 ≤ f.un) (hf : f.pr ≤ 1073741824) (ht : t.pr ≤ 1073741824) {s : Value} {H : Mem} (hO : OpenAt H s a.op) (hn : a.op.length ≤ 1000000000000) : FSem Tryd.prog [0] 66 #[a.v s, f.v, .int .i64 n, t.v, .int .i64 today] H fun v H' => AcRes H (changeA a f n t today) v H' := by
  refine FSem.ofK Tryd.func66 rfl ?_
  refine DK.from (b' := ⟨#[a.v s, f.v, .int .i64 n, t.v, .int .i64 today, undef, undef, undef, undef, undef, undef, undef, undef, undef, undef, undef, undef, undef, undef, undef, undef, undef, undef, undef, undef, undef, undef, undef, undef, undef, undef, undef, undef, undef, undef, undef, undef, undef, undef, undef, undef, undef, undef, undef, undef, undef, undef, undef, undef, undef, undef, undef, undef, undef, undef, undef, undef, undef, undef, undef, undef, undef, undef, undef, undef, undef, undef, undef, undef, undef, undef, undef, undef, undef, undef, undef, undef, undef, undef, undef, undef, undef, undef, undef, undef, undef, undef, undef, undef], []⟩) (by kernel_rfl) ?_
  have d := trivial
  have e := trivial
  have g := trivial
  have j := trivial
  have k := trivial
  have b := trivial
  have c := trivial
  have m := trivial
  refine DK.seq ?_
  refine DK.region (is := [0, 1, 2, 3, 4]) (by kernel_rfl) rfl ?_
  refine WK.run [0, 1, 2, 3, 4] (by simp [d, e, g, j, k, b, c]; constructor <;> rfl) ?_
  refine WK.nil ?_
  refine DK.abs (fun M0 => AtM H [a.l s, f.l, t.l, zeroA.l (.slice none 0 0)] M0 ∧ OpenAt M0 s a.op) ⟨AtM.start H [] [_, _, _, _], hO.app _⟩ ?_
  try clear hM
  try clear hO
  rintro M0 ⟨hM, hO⟩
  replace d := hM.own 0 (by simp)
  replace e := hM.own 1 (by simp)
  replace g := hM.own 2 (by simp)
  replace j := hM.own 3 (by simp)
  simp only [List.getElem_cons_zero, List.getElem_cons_succ, Nat.add_zero] at d e g j
  replace k := hM.q4
  replace b := hO.cells.1
  replace c := hO.cells.2
  refine DK.seq ?_
  refine DK.seq ?_
  refine DK.region (is := [0, 1, 2, 3, 4, 5, 6, 7, 8]) (by kernel_rfl) rfl ?_
  refine WK.run [0, 1, 2, 3] (by simp [d, e, g, j, k, b, c]; constructor <;> rfl) ?_
  refine WK.split (t := 21) rfl (fun h => ?_) (fun h => ?_)
  · try simp only [h]
    replace h := Tr.out h
    refine WK.run [4, 5, 6, 7, 8] (by simp [d, e, g, j, k, b, c]; constructor <;> rfl) ?_
    refine WK.nil ?_
    refine DK.yes rfl rfl ?_
    refine DK.seq ?_
    refine DK.region (is := [0, 1, 2]) (by kernel_rfl) rfl ?_
    refine WK.run [0, 1, 2] (by simp [d, e, g, j, k, b, c]; constructor <;> rfl) ?_
    refine WK.nil ?_
    refine DK.abs (fun MZ => AtM H [a.l s, f.l, t.l, zeroA.l (.slice none 0 0)] MZ ∧ OpenAt MZ (.slice none 0 0) zeroA.op) ⟨hM.set (i := 3) (by simp) _, .inl ⟨rfl, rfl⟩⟩ ?_
    try clear hM
    try clear hO
    rintro MZ ⟨hM, hO⟩
    replace d := hM.own 0 (by simp)
    replace e := hM.own 1 (by simp)
    replace g := hM.own 2 (by simp)
    replace j := hM.own 3 (by simp)
    simp only [List.getElem_cons_zero, List.getElem_cons_succ, Nat.add_zero] at d e g j
    replace k := hM.q4
    replace b := hO.cells.1
    replace c := hO.cells.2
    replace m : Fresh (H.length + 4) (.slice none 0 0) := .inl rfl
    have hres : changeA a f n t today = (zeroA, 8) := changeA_8 (by simp_all)
    refine DK.ret ?_
    refine And.intro (Or.inr rfl) ?_
    refine ⟨_, by simp [absAnswer, absResults, absResult, Tryd.f66, d, e, g, j, k, b, c]; rfl, ?_⟩
    exact ⟨_, by rw [hres]; rfl, hM.keep.ext, by rw [hres]; exact hO, m.le (by omega)⟩
  try simp only [h]
  replace h := Fa.out h
  refine WK.run [4, 5, 6, 7, 8] (by simp [d, e, g, j, k, b, c]; constructor <;> rfl) ?_
  refine WK.nil ?_
  refine DK.test rfl rfl (fun h => ?_) (fun h => ?_)
  · try simp only [h]
    replace h := Tr.out h
    refine DK.seq ?_
    refine DK.region (is := [0, 1, 2]) (by kernel_rfl) rfl ?_
    refine WK.run [0, 1, 2] (by simp [d, e, g, j, k, b, c]; constructor <;> rfl) ?_
    refine WK.nil ?_
    refine DK.abs (fun MZ => AtM H [a.l s, f.l, t.l, zeroA.l (.slice none 0 0)] MZ ∧ OpenAt MZ (.slice none 0 0) zeroA.op) ⟨hM.set (i := 3) (by simp) _, .inl ⟨rfl, rfl⟩⟩ ?_
    try clear hM
    try clear hO
    rintro MZ ⟨hM, hO⟩
    replace d := hM.own 0 (by simp)
    replace e := hM.own 1 (by simp)
    replace g := hM.own 2 (by simp)
    replace j := hM.own 3 (by simp)
    simp only [List.getElem_cons_zero, List.getElem_cons_succ, Nat.add_zero] at d e g j
    replace k := hM.q4
    replace b := hO.cells.1
    replace c := hO.cells.2
    replace m : Fresh (H.length + 4) (.slice none 0 0) := .inl rfl
    have hres : changeA a f n t today = (zeroA, 8) := changeA_8 (by simp_all)
    refine DK.ret ?_
    refine And.intro (Or.inr rfl) ?_
    refine ⟨_, by simp [absAnswer, absResults, absResult, Tryd.f66, d, e, g, j, k, b, c]; rfl, ?_⟩
    exact ⟨_, by rw [hres]; rfl, hM.keep.ext, by rw [hres]; exact hO, m.le (by omega)⟩
  try simp only [h]
  replace h := Fa.out h
  refine DK.skip ?_
  refine DK.seq ?_
  refine DK.region (is := [0, 1, 2]) (by kernel_rfl) rfl ?_
  refine WK.run [0] (by simp [d, e, g, j, k, b, c]; constructor <;> rfl) ?_
  refine WK.call rfl (by simp [d, e, g, j, k, b, c]) (by simp [Tryd.func58, Tryd.f58, d, e, g, j, k, b, c]; constructor <;> rfl) ?_
  refine FSem.mono (copy_s a hO (by omega)) ?_
  rintro _ M1 ⟨s1, rfl, hA, hO, m⟩
  replace m : Fresh (H.length + 4) s1 := m.le (hM.lt (i := 3) (by simp))
  replace hM := hM.on (Keep.of hA)
  replace d := hM.own 0 (by simp)
  replace e := hM.own 1 (by simp)
  replace g := hM.own 2 (by simp)
  replace j := hM.own 3 (by simp)
  simp only [List.getElem_cons_zero, List.getElem_cons_succ, Nat.add_zero] at d e g j
  replace k := hM.q4
  replace b := hO.cells.1
  replace c := hO.cells.2
  refine WK.run [2] (by simp [d, e, g, j, k, b, c]; constructor <;> rfl) ?_
  refine WK.nil ?_
  refine DK.abs (fun M2 => AtM H [a.l s1, f.l, t.l, zeroA.l (.slice none 0 0)] M2 ∧ OpenAt M2 s1 a.op) ⟨hM.set (i := 0) (by simp) _, hO.set (m.ne (by omega)) _⟩ ?_
  try clear hM
  try clear hO
  rintro M2 ⟨hM, hO⟩
  replace d := hM.own 0 (by simp)
  replace e := hM.own 1 (by simp)
  replace g := hM.own 2 (by simp)
  replace j := hM.own 3 (by simp)
  simp only [List.getElem_cons_zero, List.getElem_cons_succ, Nat.add_zero] at d e g j
  replace k := hM.q4
  replace b := hO.cells.1
  replace c := hO.cells.2
  have hw : ¬ (a.st ≠ 1 ∨ n = a.pl) := by simp_all
  refine DK.seq ?_
  refine DK.seq ?_
  refine DK.region (is := [0, 1, 2, 3, 4, 5, 6, 7, 8, 9, 10, 11, 12, 13, 14]) (by kernel_rfl) rfl ?_
  refine WK.run [0, 1, 2, 3, 4, 5, 6] (by simp [d, e, g, j, k, b, c]; constructor <;> rfl) ?_
  refine WK.call rfl (by simp [d, e, g, j, k, b, c]) (by simp [Tryd.func88, Tryd.f88, d, e, g, j, k, b, c]; constructor <;> rfl) ?_
  refine FSem.mono (span_g _ _ _ _ hu _) ?_
  rintro _ Hq ⟨fi, nx, er, rfl, hsp, ⟨⟨hb1, hb2⟩, ⟨hb3, hb4⟩, hb5⟩, hq⟩
  replace hq := hq.symm
  subst hq
  refine WK.run [8, 9, 10, 11, 12, 13, 14] (by simp [d, e, g, j, k, b, c]; constructor <;> rfl) ?_
  refine WK.nil ?_
  refine DK.seq ?_
  refine DK.region (is := [0, 1, 2, 3, 4, 5, 6]) (by kernel_rfl) rfl ?_
  refine WK.run [0, 1, 2] (by simp [d, e, g, j, k, b, c]; constructor <;> rfl) ?_
  refine WK.split (t := 44) rfl (fun h => ?_) (fun h => ?_)
  · try simp only [h]
    replace h := Tr.out h
    refine WK.run [3, 4, 5, 6] (by simp [d, e, g, j, k, b, c]; constructor <;> rfl) ?_
    refine WK.nil ?_
    refine DK.test rfl rfl (fun h => ?_) (fun h => ?_)
    · try simp only [h]
      replace h := Tr.out h
      refine DK.seq ?_
      refine DK.region (is := [0, 1, 2, 3, 4, 5, 6, 7, 8, 9, 10, 11, 12, 13, 14, 15]) (by kernel_rfl) rfl ?_
      refine WK.run [0, 1, 2, 3, 4, 5, 6, 7] (by simp [d, e, g, j, k, b, c]; constructor <;> rfl) ?_
      refine WK.call rfl (by simp [d, e, g, j, k, b, c]) (by simp [Tryd.func89, Tryd.f89, d, e, g, j, k, b, c]; constructor <;> rfl) ?_
      refine FSem.mono (pchange_g f t _ _ hf ht (by rw [wrap_in _ (by omega) (by omega)]; omega) (by rw [wrap_in _ (by omega) (by omega)]; omega) _) ?_
      rintro _ Hq ⟨px, py, pe, rfl, hpc, hq⟩
      replace hq := hq.symm
      subst hq
      have hro := changeA_y hw hsp ‹er = 0› ‹_› hpc
      refine WK.run [9, 10, 11, 12, 13, 14, 15] (by simp [d, e, g, j, k, b, c]; constructor <;> rfl) ?_
      refine WK.nil ?_
      refine DK.seq ?_
      refine DK.seq ?_
      refine DK.region (is := [0, 1]) (by kernel_rfl) rfl ?_
      refine WK.run [0, 1] (by simp [d, e, g, j, k, b, c]; constructor <;> rfl) ?_
      refine WK.nil ?_
      refine DK.test rfl rfl (fun h => ?_) (fun h => ?_)
      · try simp only [h]
        replace h := Tr.out h
        refine DK.seq ?_
        refine DK.region (is := [0, 1, 2, 3]) (by kernel_rfl) rfl ?_
        refine WK.run [0, 1, 2, 3] (by simp [d, e, g, j, k, b, c]; constructor <;> rfl) ?_
        refine WK.nil ?_
        refine DK.abs (fun MZ => AtM H [a.l s1, f.l, t.l, zeroA.l (.slice none 0 0)] MZ ∧ OpenAt MZ (.slice none 0 0) zeroA.op) ⟨hM.set (i := 3) (by simp) _, .inl ⟨rfl, rfl⟩⟩ ?_
        try clear hM
        try clear hO
        rintro MZ ⟨hM, hO⟩
        replace d := hM.own 0 (by simp)
        replace e := hM.own 1 (by simp)
        replace g := hM.own 2 (by simp)
        replace j := hM.own 3 (by simp)
        simp only [List.getElem_cons_zero, List.getElem_cons_succ, Nat.add_zero] at d e g j
        replace k := hM.q4
        replace b := hO.cells.1
        replace c := hO.cells.2
        replace m : Fresh (H.length + 4) (.slice none 0 0) := .inl rfl
        have hres : changeA a f n t today = (zeroA, pe) := by rw [hro, if_pos ‹_›]
        refine DK.ret ?_
        refine And.intro (Or.inr rfl) ?_
        refine ⟨_, by simp [absAnswer, absResults, absResult, Tryd.f66, d, e, g, j, k, b, c]; rfl, ?_⟩
        exact ⟨_, by rw [hres]; rfl, hM.keep.ext, by rw [hres]; exact hO, m.le (by omega)⟩
      try simp only [h]
      replace h := Fa.out h
      refine DK.skip ?_
      refine DK.seq ?_
      refine DK.seq ?_
      refine DK.region (is := [0, 1, 2, 3, 4, 5, 6, 7, 8, 9, 10, 11]) (by kernel_rfl) rfl ?_
      refine WK.run [0, 1, 2, 3, 4] (by simp [d, e, g, j, k, b, c]; constructor <;> rfl) ?_
      refine WK.call rfl (by simp [d, e, g, j, k, b, c]) (by simp [Tryd.func90, Tryd.f90, d, e, g, j, k, b, c]; constructor <;> rfl) ?_
      refine FSem.mono (add_g _ _ _) ?_
      rintro _ Hq ⟨cx, ce, rfl, had, hq⟩
      replace hq := hq.symm
      subst hq
      refine WK.run [6, 7, 8, 9, 10, 11] (by simp [d, e, g, j, k, b, c]; constructor <;> rfl) ?_
      refine WK.nil ?_
      refine DK.abs (fun M3 => AtM H [({ a with cr := cx } : Ac).l s1, f.l, t.l, zeroA.l (.slice none 0 0)] M3 ∧ OpenAt M3 s1 a.op) ⟨hM.set (i := 0) (by simp) _, hO.set (m.ne (by omega)) _⟩ ?_
      try clear hM
      try clear hO
      rintro M3 ⟨hM, hO⟩
      replace d := hM.own 0 (by simp)
      replace e := hM.own 1 (by simp)
      replace g := hM.own 2 (by simp)
      replace j := hM.own 3 (by simp)
      simp only [List.getElem_cons_zero, List.getElem_cons_succ, Nat.add_zero] at d e g j
      replace k := hM.q4
      replace b := hO.cells.1
      replace c := hO.cells.2
      refine DK.seq ?_
      refine DK.region (is := [0, 1]) (by kernel_rfl) rfl ?_
      refine WK.run [0, 1] (by simp [d, e, g, j, k, b, c]; constructor <;> rfl) ?_
      refine WK.nil ?_
      refine DK.test rfl rfl (fun h => ?_) (fun h => ?_)
      · try simp only [h]
        replace h := Tr.out h
        refine DK.seq ?_
        refine DK.region (is := [0, 1, 2, 3]) (by kernel_rfl) rfl ?_
        refine WK.run [0, 1, 2, 3] (by simp [d, e, g, j, k, b, c]; constructor <;> rfl) ?_
        refine WK.nil ?_
        refine DK.abs (fun MZ => AtM H [({ a with cr := cx } : Ac).l s1, f.l, t.l, zeroA.l (.slice none 0 0)] MZ ∧ OpenAt MZ (.slice none 0 0) zeroA.op) ⟨hM.set (i := 3) (by simp) _, .inl ⟨rfl, rfl⟩⟩ ?_
        try clear hM
        try clear hO
        rintro MZ ⟨hM, hO⟩
        replace d := hM.own 0 (by simp)
        replace e := hM.own 1 (by simp)
        replace g := hM.own 2 (by simp)
        replace j := hM.own 3 (by simp)
        simp only [List.getElem_cons_zero, List.getElem_cons_succ, Nat.add_zero] at d e g j
        replace k := hM.q4
        replace b := hO.cells.1
        replace c := hO.cells.2
        replace m : Fresh (H.length + 4) (.slice none 0 0) := .inl rfl
        have hres : changeA a f n t today = (zeroA, ce) := by rw [hro, if_neg (by simpa using ‹_›), had, if_pos ‹_›]
        refine DK.ret ?_
        refine And.intro (Or.inr rfl) ?_
        refine ⟨_, by simp [absAnswer, absResults, absResult, Tryd.f66, d, e, g, j, k, b, c]; rfl, ?_⟩
        exact ⟨_, by rw [hres]; rfl, hM.keep.ext, by rw [hres]; exact hO, m.le (by omega)⟩
      try simp only [h]
      replace h := Fa.out h
      refine DK.skip ?_
      refine DK.region (is := [0, 1, 2]) (by kernel_rfl) rfl ?_
      refine WK.run [0, 1, 2] (by simp [d, e, g, j, k, b, c]; constructor <;> rfl) ?_
      refine WK.nil ?_
      refine DK.abs (fun M4 => AtM H [({ a with cr := cx, an := nx } : Ac).l s1, f.l, t.l, zeroA.l (.slice none 0 0)] M4 ∧ OpenAt M4 s1 a.op) ⟨hM.set (i := 0) (by simp) _, hO.set (m.ne (by omega)) _⟩ ?_
      try clear hM
      try clear hO
      rintro M4 ⟨hM, hO⟩
      replace d := hM.own 0 (by simp)
      replace e := hM.own 1 (by simp)
      replace g := hM.own 2 (by simp)
      replace j := hM.own 3 (by simp)
      simp only [List.getElem_cons_zero, List.getElem_cons_succ, Nat.add_zero] at d e g j
      replace k := hM.q4
      replace b := hO.cells.1
      replace c := hO.cells.2
      have hres0 : changeA a f n t today = (({ a with cr := cx, an := nx, pl := n, ix := 0 } : Ac), 0) := by rw [hro, if_neg (by simpa using ‹_›), had, if_neg (by simpa using ‹_›)]
      refine DK.seq ?_
      refine DK.region (is := [0, 1, 2, 3, 4]) (by kernel_rfl) rfl ?_
      refine WK.run [0, 1, 2, 3, 4] (by simp [d, e, g, j, k, b, c]; constructor <;> rfl) ?_
      refine WK.nil ?_
      first
        | (refine DK.abs (fun M5 => AtM H [({ a with cr := cx, an := nx, pl := n, ix := 0 } : Ac).l s1, f.l, t.l, zeroA.l (.slice none 0 0)] M5 ∧ OpenAt M5 s1 a.op) ⟨hM.set (i := 0) (by simp) _, hO.set (m.ne (by omega)) _⟩ ?_
           try clear hM
           try clear hO
           rintro M5 ⟨hM, hO⟩
           replace d := hM.own 0 (by simp)
           replace e := hM.own 1 (by simp)
           replace g := hM.own 2 (by simp)
           replace j := hM.own 3 (by simp)
           simp only [List.getElem_cons_zero, List.getElem_cons_succ, Nat.add_zero] at d e g j
           replace k := hM.q4
           replace b := hO.cells.1
           replace c := hO.cells.2
           have hres := hres0)
        | (refine DK.abs (fun M5 => AtM H [({ a with pl := n, ix := 0 } : Ac).l s1, f.l, t.l, zeroA.l (.slice none 0 0)] M5 ∧ OpenAt M5 s1 a.op) ⟨hM.set (i := 0) (by simp) _, hO.set (m.ne (by omega)) _⟩ ?_
           try clear hM
           try clear hO
           rintro M5 ⟨hM, hO⟩
           replace d := hM.own 0 (by simp)
           replace e := hM.own 1 (by simp)
           replace g := hM.own 2 (by simp)
           replace j := hM.own 3 (by simp)
           simp only [List.getElem_cons_zero, List.getElem_cons_succ, Nat.add_zero] at d e g j
           replace k := hM.q4
           replace b := hO.cells.1
           replace c := hO.cells.2
           have hres : changeA a f n t today = (({ a with pl := n, ix := 0 } : Ac), 0) := by rw [hrn, if_neg ‹_›])
      refine DK.seq ?_
      refine DK.region (is := [0, 1, 2]) (by kernel_rfl) rfl ?_
      refine WK.run [0, 1, 2] (by simp [d, e, g, j, k, b, c]; constructor <;> rfl) ?_
      refine WK.nil ?_
      first
        | (refine DK.abs (fun M6 => AtM H [({ a with cr := cx, an := nx, pl := n, ix := 0 } : Ac).l s1, f.l, t.l, ({ a with cr := cx, an := nx, pl := n, ix := 0 } : Ac).l s1] M6 ∧ OpenAt M6 s1 a.op) ⟨hM.set (i := 3) (by simp) _, hO.set (m.ne (by omega)) _⟩ ?_
           try clear hM
           try clear hO
           rintro M6 ⟨hM, hO⟩
           replace d := hM.own 0 (by simp)
           replace e := hM.own 1 (by simp)
           replace g := hM.own 2 (by simp)
           replace j := hM.own 3 (by simp)
           simp only [List.getElem_cons_zero, List.getElem_cons_succ, Nat.add_zero] at d e g j
           replace k := hM.q4
           replace b := hO.cells.1
           replace c := hO.cells.2)
        | (refine DK.abs (fun M6 => AtM H [({ a with pl := n, ix := 0 } : Ac).l s1, f.l, t.l, ({ a with pl := n, ix := 0 } : Ac).l s1] M6 ∧ OpenAt M6 s1 a.op) ⟨hM.set (i := 3) (by simp) _, hO.set (m.ne (by omega)) _⟩ ?_
           try clear hM
           try clear hO
           rintro M6 ⟨hM, hO⟩
           replace d := hM.own 0 (by simp)
           replace e := hM.own 1 (by simp)
           replace g := hM.own 2 (by simp)
           replace j := hM.own 3 (by simp)
           simp only [List.getElem_cons_zero, List.getElem_cons_succ, Nat.add_zero] at d e g j
           replace k := hM.q4
           replace b := hO.cells.1
           replace c := hO.cells.2)
      refine DK.ret ?_
      refine And.intro (Or.inr rfl) ?_
      refine ⟨_, by simp [absAnswer, absResults, absResult, Tryd.f66, d, e, g, j, k, b, c]; rfl, ?_⟩
      exact ⟨_, by rw [hres]; rfl, hM.keep.ext, by rw [hres]; exact hO, m.le (by omega)⟩
    try simp only [h]
    replace h := Fa.out h
    refine DK.seq ?_
    refine DK.region (is := [0, 1]) (by kernel_rfl) rfl ?_
    refine WK.run [0, 1] (by simp [d, e, g, j, k, b, c]; constructor <;> rfl) ?_
    refine WK.nil ?_
    have hrn := changeA_n (t := t) hw hsp (by simp_all)
    refine DK.test rfl rfl (fun h => ?_) (fun h => ?_)
    · try simp only [h]
      replace h := Tr.out h
      refine DK.seq ?_
      refine DK.region (is := [0, 1, 2]) (by kernel_rfl) rfl ?_
      refine WK.run [0, 1, 2] (by simp [d, e, g, j, k, b, c]; constructor <;> rfl) ?_
      refine WK.nil ?_
      refine DK.abs (fun MZ => AtM H [a.l s1, f.l, t.l, zeroA.l (.slice none 0 0)] MZ ∧ OpenAt MZ (.slice none 0 0) zeroA.op) ⟨hM.set (i := 3) (by simp) _, .inl ⟨rfl, rfl⟩⟩ ?_
      try clear hM
      try clear hO
      rintro MZ ⟨hM, hO⟩
      replace d := hM.own 0 (by simp)
      replace e := hM.own 1 (by simp)
      replace g := hM.own 2 (by simp)
      replace j := hM.own 3 (by simp)
      simp only [List.getElem_cons_zero, List.getElem_cons_succ, Nat.add_zero] at d e g j
      replace k := hM.q4
      replace b := hO.cells.1
      replace c := hO.cells.2
      replace m : Fresh (H.length + 4) (.slice none 0 0) := .inl rfl
      have hres : changeA a f n t today = (zeroA, 8) := by rw [hrn, if_pos ‹_›]
      refine DK.ret ?_
      refine And.intro (Or.inr rfl) ?_
      refine ⟨_, by simp [absAnswer, absResults, absResult, Tryd.f66, d, e, g, j, k, b, c]; rfl, ?_⟩
      exact ⟨_, by rw [hres]; rfl, hM.keep.ext, by rw [hres]; exact hO, m.le (by omega)⟩
    try simp only [h]
    replace h := Fa.out h
    refine DK.skip ?_
    refine DK.seq ?_
    refine DK.region (is := [0, 1, 2, 3, 4]) (by kernel_rfl) rfl ?_
    refine WK.run [0, 1, 2, 3, 4] (by simp [d, e, g, j, k, b, c]; constructor <;> rfl) ?_
    refine WK.nil ?_
    first
      | (refine DK.abs (fun M5 => AtM H [({ a with cr := cx, an := nx, pl := n, ix := 0 } : Ac).l s1, f.l, t.l, zeroA.l (.slice none 0 0)] M5 ∧ OpenAt M5 s1 a.op) ⟨hM.set (i := 0) (by simp) _, hO.set (m.ne (by omega)) _⟩ ?_
         try clear hM
         try clear hO
         rintro M5 ⟨hM, hO⟩
         replace d := hM.own 0 (by simp)
         replace e := hM.own 1 (by simp)
         replace g := hM.own 2 (by simp)
         replace j := hM.own 3 (by simp)
         simp only [List.getElem_cons_zero, List.getElem_cons_succ, Nat.add_zero] at d e g j
         replace k := hM.q4
         replace b := hO.cells.1
         replace c := hO.cells.2
         have hres := hres0)
      | (refine DK.abs (fun M5 => AtM H [({ a with pl := n, ix := 0 } : Ac).l s1, f.l, t.l, zeroA.l (.slice none 0 0)] M5 ∧ OpenAt M5 s1 a.op) ⟨hM.set (i := 0) (by simp) _, hO.set (m.ne (by omega)) _⟩ ?_
         try clear hM
         try clear hO
         rintro M5 ⟨hM, hO⟩
         replace d := hM.own 0 (by simp)
         replace e := hM.own 1 (by simp)
         replace g := hM.own 2 (by simp)
         replace j := hM.own 3 (by simp)
         simp only [List.getElem_cons_zero, List.getElem_cons_succ, Nat.add_zero] at d e g j
         replace k := hM.q4
         replace b := hO.cells.1
         replace c := hO.cells.2
         have hres : changeA a f n t today = (({ a with pl := n, ix := 0 } : Ac), 0) := by rw [hrn, if_neg ‹_›])
    refine DK.seq ?_
    refine DK.region (is := [0, 1, 2]) (by kernel_rfl) rfl ?_
    refine WK.run [0, 1, 2] (by simp [d, e, g, j, k, b, c]; constructor <;> rfl) ?_
    refine WK.nil ?_
    first
      | (refine DK.abs (fun M6 => AtM H [({ a with cr := cx, an := nx, pl := n, ix := 0 } : Ac).l s1, f.l, t.l, ({ a with cr := cx, an := nx, pl := n, ix := 0 } : Ac).l s1] M6 ∧ OpenAt M6 s1 a.op) ⟨hM.set (i := 3) (by simp) _, hO.set (m.ne (by omega)) _⟩ ?_
         try clear hM
         try clear hO
         rintro M6 ⟨hM, hO⟩
         replace d := hM.own 0 (by simp)
         replace e := hM.own 1 (by simp)
         replace g := hM.own 2 (by simp)
         replace j := hM.own 3 (by simp)
         simp only [List.getElem_cons_zero, List.getElem_cons_succ, Nat.add_zero] at d e g j
         replace k := hM.q4
         replace b := hO.cells.1
         replace c := hO.cells.2)
      | (refine DK.abs (fun M6 => AtM H [({ a with pl := n, ix := 0 } : Ac).l s1, f.l, t.l, ({ a with pl := n, ix := 0 } : Ac).l s1] M6 ∧ OpenAt M6 s1 a.op) ⟨hM.set (i := 3) (by simp) _, hO.set (m.ne (by omega)) _⟩ ?_
         try clear hM
         try clear hO
         rintro M6 ⟨hM, hO⟩
         replace d := hM.own 0 (by simp)
         replace e := hM.own 1 (by simp)
         replace g := hM.own 2 (by simp)
         replace j := hM.own 3 (by simp)
         simp only [List.getElem_cons_zero, List.getElem_cons_succ, Nat.add_zero] at d e g j
         replace k := hM.q4
         replace b := hO.cells.1
         replace c := hO.cells.2)
    refine DK.ret ?_
    refine And.intro (Or.inr rfl) ?_
    refine ⟨_, by simp [absAnswer, absResults, absResult, Tryd.f66, d, e, g, j, k, b, c]; rfl, ?_⟩
    exact ⟨_, by rw [hres]; rfl, hM.keep.ext, by rw [hres]; exact hO, m.le (by omega)⟩
  try simp only [h]
  replace h := Fa.out h
  refine WK.run [3, 4, 5, 6] (by simp [d, e, g, j, k, b, c]; constructor <;> rfl) ?_
  refine WK.nil ?_
  refine DK.no rfl rfl ?_
  refine DK.seq ?_
  refine DK.region (is := [0, 1]) (by kernel_rfl) rfl ?_
  refine WK.run [0, 1] (by simp [d, e, g, j, k, b, c]; constructor <;> rfl) ?_
  refine WK.nil ?_
  have hrn := changeA_n (t := t) hw hsp (by simp_all)
  refine DK.test rfl rfl (fun h => ?_) (fun h => ?_)
  · try simp only [h]
    replace h := Tr.out h
    refine DK.seq ?_
    refine DK.region (is := [0, 1, 2]) (by kernel_rfl) rfl ?_
    refine WK.run [0, 1, 2] (by simp [d, e, g, j, k, b, c]; constructor <;> rfl) ?_
    refine WK.nil ?_
    refine DK.abs (fun MZ => AtM H [a.l s1, f.l, t.l, zeroA.l (.slice none 0 0)] MZ ∧ OpenAt MZ (.slice none 0 0) zeroA.op) ⟨hM.set (i := 3) (by simp) _, .inl ⟨rfl, rfl⟩⟩ ?_
    try clear hM
    try clear hO
    rintro MZ ⟨hM, hO⟩
    replace d := hM.own 0 (by simp)
    replace e := hM.own 1 (by simp)
    replace g := hM.own 2 (by simp)
    replace j := hM.own 3 (by simp)
    simp only [List.getElem_cons_zero, List.getElem_cons_succ, Nat.add_zero] at d e g j
    replace k := hM.q4
    replace b := hO.cells.1
    replace c := hO.cells.2
    replace m : Fresh (H.length + 4) (.slice none 0 0) := .inl rfl
    have hres : changeA a f n t today = (zeroA, 8) := by rw [hrn, if_pos ‹_›]
    refine DK.ret ?_
    refine And.intro (Or.inr rfl) ?_
    refine ⟨_, by simp [absAnswer, absResults, absResult, Tryd.f66, d, e, g, j, k, b, c]; rfl, ?_⟩
    exact ⟨_, by rw [hres]; rfl, hM.keep.ext, by rw [hres]; exact hO, m.le (by omega)⟩
  try simp only [h]
  replace h := Fa.out h
  refine DK.skip ?_
  refine DK.seq ?_
  refine DK.region (is := [0, 1, 2, 3, 4]) (by kernel_rfl) rfl ?_
  refine WK.run [0, 1, 2, 3, 4] (by simp [d, e, g, j, k, b, c]; constructor <;> rfl) ?_
  refine WK.nil ?_
  first
    | (refine DK.abs (fun M5 => AtM H [({ a with cr := cx, an := nx, pl := n, ix := 0 } : Ac).l s1, f.l, t.l, zeroA.l (.slice none 0 0)] M5 ∧ OpenAt M5 s1 a.op) ⟨hM.set (i := 0) (by simp) _, hO.set (m.ne (by omega)) _⟩ ?_
       try clear hM
       try clear hO
       rintro M5 ⟨hM, hO⟩
       replace d := hM.own 0 (by simp)
       replace e := hM.own 1 (by simp)
       replace g := hM.own 2 (by simp)
       replace j := hM.own 3 (by simp)
       simp only [List.getElem_cons_zero, List.getElem_cons_succ, Nat.add_zero] at d e g j
       replace k := hM.q4
       replace b := hO.cells.1
       replace c := hO.cells.2
       have hres := hres0)
    | (refine DK.abs (fun M5 => AtM H [({ a with pl := n, ix := 0 } : Ac).l s1, f.l, t.l, zeroA.l (.slice none 0 0)] M5 ∧ OpenAt M5 s1 a.op) ⟨hM.set (i := 0) (by simp) _, hO.set (m.ne (by omega)) _⟩ ?_
       try clear hM
       try clear hO
       rintro M5 ⟨hM, hO⟩
       replace d := hM.own 0 (by simp)
       replace e := hM.own 1 (by simp)
       replace g := hM.own 2 (by simp)
       replace j := hM.own 3 (by simp)
       simp only [List.getElem_cons_zero, List.getElem_cons_succ, Nat.add_zero] at d e g j
       replace k := hM.q4
       replace b := hO.cells.1
       replace c := hO.cells.2
       have hres : changeA a f n t today = (({ a with pl := n, ix := 0 } : Ac), 0) := by rw [hrn, if_neg ‹_›])
  refine DK.seq ?_
  refine DK.region (is := [0, 1, 2]) (by kernel_rfl) rfl ?_
  refine WK.run [0, 1, 2] (by simp [d, e, g, j, k, b, c]; constructor <;> rfl) ?_
  refine WK.nil ?_
  first
    | (refine DK.abs (fun M6 => AtM H [({ a with cr := cx, an := nx, pl := n, ix := 0 } : Ac).l s1, f.l, t.l, ({ a with cr := cx, an := nx, pl := n, ix := 0 } : Ac).l s1] M6 ∧ OpenAt M6 s1 a.op) ⟨hM.set (i := 3) (by simp) _, hO.set (m.ne (by omega)) _⟩ ?_
       try clear hM
       try clear hO
       rintro M6 ⟨hM, hO⟩
       replace d := hM.own 0 (by simp)
       replace e := hM.own 1 (by simp)
       replace g := hM.own 2 (by simp)
       replace j := hM.own 3 (by simp)
       simp only [List.getElem_cons_zero, List.getElem_cons_succ, Nat.add_zero] at d e g j
       replace k := hM.q4
       replace b := hO.cells.1
       replace c := hO.cells.2)
    | (refine DK.abs (fun M6 => AtM H [({ a with pl := n, ix := 0 } : Ac).l s1, f.l, t.l, ({ a with pl := n, ix := 0 } : Ac).l s1] M6 ∧ OpenAt M6 s1 a.op) ⟨hM.set (i := 3) (by simp) _, hO.set (m.ne (by omega)) _⟩ ?_
       try clear hM
       try clear hO
       rintro M6 ⟨hM, hO⟩
       replace d := hM.own 0 (by simp)
       replace e := hM.own 1 (by simp)
       replace g := hM.own 2 (by simp)
       replace j := hM.own 3 (by simp)
       simp only [List.getElem_cons_zero, List.getElem_cons_succ, Nat.add_zero] at d e g j
       replace k := hM.q4
       replace b := hO.cells.1
       replace c := hO.cells.2)
  refine DK.ret ?_
  refine And.intro (Or.inr rfl) ?_
  refine ⟨_, by simp [absAnswer, absResults, absResult, Tryd.f66, d, e, g, j, k, b, c]; rfl, ?_⟩
  exact ⟨_, by rw [hres]; rfl, hM.keep.ext, by rw [hres]; exact hO, m.le (by omega)⟩
end Go.Den
set_option linter.unusedVariables false
set_option maxRecDepth 100000
namespace Go.Den
open Go Go.Proofs
variable {α : Type} [Cel α]
theorem Own.app {H : Mem} {s : Value} (h : Own H s) (r : Mem) : Own (H ++ r) s := h.keep (Keep.app _ _)
theorem RowAt.apps {H : Mem} {s : Value} {l : List α} (h : RowAt H s l) (r : Mem) : RowAt (H ++ r) s l := h.keep (Keep.app _ _)
theorem AtM.frn {H M M2 : Mem} {bs : List (List Value)} {s : Value} (h : AtM H bs M) (hf : Fr M s M2) (hs : New (H.length + bs.length) s) : AtM H bs M2 :=
  ⟨⟨Nat.le_trans h.keep.1 hf.1, fun k hk => (hf.2 k (Nat.lt_of_lt_of_le hk h.keep.1) (hs.ne (by omega))).trans (h.keep.2 k hk)⟩, fun j hj => (hf.2 _ (h.lt hj) (hs.ne (by omega))).trans (h.own j hj)⟩
theorem Keep.frn {H H' H'' : Mem} {s : Value} (h : Keep H H') (hf : Fr H' s H'') (hs : New H.length s) : Keep H H'' :=
  ⟨Nat.le_trans h.1 hf.1, fun k hk => (hf.2 k (Nat.lt_of_lt_of_le hk h.1) (hs.ne hk)).trans (h.2 k hk)⟩
theorem OpenAt.frn {H H' : Mem} {s s2 : Value} {l : List Cy} (h : OpenAt H s l) (hf : Fr H s2 H') (hs : ∀ b, blkOf s = some b → blkOf s2 ≠ some b) : OpenAt H' s l := by
  rcases h with h | ⟨b, h1, h2⟩
  · exact .inl h
  · exact .inr ⟨b, h1, (hf.2 b (List.getElem?_eq_some_iff.1 h2).1 (hs b (by rw [h1]; rfl))).trans h2⟩
theorem RowAt.app1 {P : Program} {H : Mem} {s : Value} {l : List α} (hs : RowAt H s l) (hw : Own H s) (a : α) {T e : Nat} {i : TypeInfo} {z : Value} (hu : P.underlying T = some (.slice e)) (hi : P.info? e = some i) (hk : i.size = Cel.k α) (hz : i.zero = some z) (hzc : z.cells.size = Cel.k α) (hb : i.bytes ≤ 10000) (hn : l.length ≤ 1000000000 ∨ i.bytes ≤ 1 ∧ l.length ≤ 10000000000000) :
    ∃ s' H', absAppend P (H ++ [.cells false (Cel.f a)]) #[T, T] s (.slice (some ⟨H.length, 0, none⟩) 1 (Cel.k α)) = some (s', H') ∧ RowAt H' s' (l ++ [a]) ∧ Own H' s' ∧ Fr H s H' ∧ New H.length s' := by
  have hx : RowAt (H ++ [.cells false (Cel.f a)]) (.slice (some ⟨H.length, 0, none⟩) 1 (Cel.k α)) [a] := RowAt.all (l := [a]) (ro := false) (by simp [rowV_one])
  obtain ⟨s', H', h1, h2, h3, h4, _, h6⟩ := RowAt.appB (hs.apps _) (hw.app _) hx hu hi hk hz hzc (by simp; omega) (by
    rcases hn with q | ⟨q, q'⟩
    · exact Nat.le_trans (Nat.mul_le_mul (show _ ≤ 1000000001 by simp; omega) hb) (by decide)
    · exact Nat.le_trans (Nat.mul_le_mul (show _ ≤ 10000000000001 by simp; omega) q) (by decide))
  exact ⟨s', H', h1, h2, h3, h4.of_app, (h6 (by simp)).le (by simp)⟩
end Go.Den
namespace Go.Den
open Go Go.Proofs
set_option maxRecDepth 100000
set_option maxHeartbeats 1000000
set_option linter.all false
attribute [local simp] evOps evOp absOp absBox absAlloc absLoad absStore absField absIndexAddr absCells absBinOp absBin absInt absShift absUn absPick absNil absExtract absBuild absPlaces Instr.fill absBuiltin absMinMax plainV plainT allA flat cells_agg cells_int cells_bool cells_str cells_ptr cells_sl cells_map one_int one_bool one_str one_ptr one_sl one_map Act.eval Act.put Region.wanted yielded splice absCall TypeDesc.isRow
theorem byt46 : I46.bytes ≤ 10000 := by
  have e : I46.bytes = 48 := by kernel_rfl
  rw [e]; decide
@[simp] theorem bsNt (H : Mem) (a0 a1 a2 a3 a4 a5 : Value) : absBuildSlice Tryd.prog H 52 1 [(0, .agg #[a0, a1, a2, a3, a4, a5])] = some (.slice (some ⟨H.length, 0, none⟩) 1 6, H ++ [.cells false [a0, a1, a2, a3, a4, a5]]) := by
  unfold absBuildSlice
  simp only [Tryd.underlying52, inf46, ze46, sz46]
  simp [allA, flat, cells_agg, madeCells, Instr.fill]
  rfl
theorem app1Nt {H : Mem} {s : Value} {l : List Nt} (hs : RowAt H s l) (hw : Own H s) (a : Nt) (hn : l.length ≤ 1000000000) :
    ∃ s' H', absAppend Tryd.prog (H ++ [.cells false (Cel.f a)]) #[52, 52] s (.slice (some ⟨H.length, 0, none⟩) 1 6) = some (s', H') ∧ RowAt H' s' (l ++ [a]) ∧ Own H' s' ∧ Fr H s H' ∧ New H.length s' :=
  RowAt.app1 hs hw a Tryd.underlying52 inf46 sz46 ze46 rfl byt46 (.inl hn)
theorem appNt {H : Mem} {s x : Value} {l r : List Nt} (hs : RowAt H s l) (hw : Own H s) (hx : RowAt H x r) (hn : l.length + r.length ≤ 10000000000) :
    ∃ s' H', absAppend Tryd.prog H #[52, 52] s x = some (s', H') ∧ RowAt H' s' (l ++ r) ∧ Own H' s' ∧ Fr H s H' ∧ (s' = s ∨ New H.length s') ∧ (r ≠ [] → New H.length s') :=
  RowAt.app hs hw hx Tryd.underlying52 inf46 sz46 ze46 rfl byt46 hn
theorem lenNt {H : Mem} {s : Value} {l : List Nt} (h : RowAt H s l) (K : Mem) : absLen Tryd.prog K 52 s = some (.int .i64 l.length) := h.len Tryd.underlying52 K
theorem byt44 : I44.bytes ≤ 10000 := by
  have e : I44.bytes = 40 := by kernel_rfl
  rw [e]; decide
@[simp] theorem bsPl (H : Mem) (a0 a1 a2 a3 a4 a5 : Value) : absBuildSlice Tryd.prog H 27 1 [(0, .agg #[a0, a1, a2, a3, a4, a5])] = some (.slice (some ⟨H.length, 0, none⟩) 1 6, H ++ [.cells false [a0, a1, a2, a3, a4, a5]]) := by
  unfold absBuildSlice
  simp only [Tryd.underlying27, inf44, ze44, sz44]
  simp [allA, flat, cells_agg, madeCells, Instr.fill]
  rfl
theorem app1Pl {H : Mem} {s : Value} {l : List Pl} (hs : RowAt H s l) (hw : Own H s) (a : Pl) (hn : l.length ≤ 1000000000) :
    ∃ s' H', absAppend Tryd.prog (H ++ [.cells false (Cel.f a)]) #[27, 27] s (.slice (some ⟨H.length, 0, none⟩) 1 6) = some (s', H') ∧ RowAt H' s' (l ++ [a]) ∧ Own H' s' ∧ Fr H s H' ∧ New H.length s' :=
  RowAt.app1 hs hw a Tryd.underlying27 inf44 sz44 ze44 rfl byt44 (.inl hn)
theorem appPl {H : Mem} {s x : Value} {l r : List Pl} (hs : RowAt H s l) (hw : Own H s) (hx : RowAt H x r) (hn : l.length + r.length ≤ 10000000000) :
    ∃ s' H', absAppend Tryd.prog H #[27, 27] s x = some (s', H') ∧ RowAt H' s' (l ++ r) ∧ Own H' s' ∧ Fr H s H' ∧ (s' = s ∨ New H.length s') ∧ (r ≠ [] → New H.length s') :=
  RowAt.app hs hw hx Tryd.underlying27 inf44 sz44 ze44 rfl byt44 hn
theorem lenPl {H : Mem} {s : Value} {l : List Pl} (h : RowAt H s l) (K : Mem) : absLen Tryd.prog K 27 s = some (.int .i64 l.length) := h.len Tryd.underlying27 K
@[simp] theorem bsPlL (H : Mem) (a0 a1 a2 a3 a4 a5 : Value) : absBuildSlice Tryd.prog H 26 1 [(0, .agg #[a0, a1, a2, a3, a4, a5])] = some (.slice (some ⟨H.length, 0, none⟩) 1 6, H ++ [.cells false [a0, a1, a2, a3, a4, a5]]) := by
  unfold absBuildSlice
  simp only [Tryd.underlying26, inf44, ze44, sz44]
  simp [allA, flat, cells_agg, madeCells, Instr.fill]
  rfl
theorem byt5 : I5.bytes ≤ 10000 := by
  have e : I5.bytes = 1 := by kernel_rfl
  rw [e]; decide
@[simp] theorem bsBy (H : Mem) (a : Int) : absBuildSlice Tryd.prog H 72 1 [(0, .int .u8 a)] = some (.slice (some ⟨H.length, 0, none⟩) 1 1, H ++ [.cells false [.int .u8 a]]) := by
  unfold absBuildSlice
  simp only [Tryd.underlying72, inf5, ze5, sz5]
  simp [allA, flat, cells_agg, madeCells, Instr.fill]
  try rfl
theorem app1By {H : Mem} {s : Value} {l : List By} (hs : RowAt H s l) (hw : Own H s) (a : By) (hn : l.length ≤ 10000000000000) :
    ∃ s' H', absAppend Tryd.prog (H ++ [.cells false (Cel.f a)]) #[72, 72] s (.slice (some ⟨H.length, 0, none⟩) 1 1) = some (s', H') ∧ RowAt H' s' (l ++ [a]) ∧ Own H' s' ∧ Fr H s H' ∧ New H.length s' :=
  RowAt.app1 hs hw a Tryd.underlying72 inf5 sz5 ze5 rfl byt5 (.inr ⟨Nat.le_of_eq (show I5.bytes = 1 by kernel_rfl), hn⟩)
theorem lenBy {H : Mem} {s : Value} {l : List By} (h : RowAt H s l) (K : Mem) : absLen Tryd.prog K 72 s = some (.int .i64 l.length) := h.len Tryd.underlying72 K
@[simp] theorem bsCy (H : Mem) (a0 a1 a2 a3 a4 a5 a6 a7 : Value) : absBuildSlice Tryd.prog H 28 1 [(0, .agg #[a0, a1, a2, a3, a4, a5, a6, a7])] = some (.slice (some ⟨H.length, 0, none⟩) 1 8, H ++ [.cells false [a0, a1, a2, a3, a4, a5, a6, a7]]) := by
  unfold absBuildSlice
  simp only [Tryd.underlying28, inf67, ze67, sz67]
  simp [allA, flat, cells_agg, madeCells, Instr.fill]
  rfl
@[simp] theorem bsPe (H : Mem) (a0 a1 a2 a3 a4 a5 a6 a7 : Value) : absBuildSlice Tryd.prog H 37 1 [(0, .agg #[a0, a1, a2, a3, a4, a5, a6, a7])] = some (.slice (some ⟨H.length, 0, none⟩) 1 8, H ++ [.cells false [a0, a1, a2, a3, a4, a5, a6, a7]]) := by
  unfold absBuildSlice
  simp only [Tryd.underlying37, inf66, ze66, sz66]
  simp [allA, flat, cells_agg, madeCells, Instr.fill]
  rfl
@[simp] theorem bsWd (H : Mem) (a : Int) : absBuildSlice Tryd.prog H 103 1 [(0, .int .i64 a)] = some (.slice (some ⟨H.length, 0, none⟩) 1 1, H ++ [.cells false [.int .i64 a]]) := by
  unfold absBuildSlice
  simp only [Tryd.underlying103, inf2, ze2, sz2]
  simp [allA, flat, cells_agg, madeCells, Instr.fill]
  try rfl
theorem lenWd {H : Mem} {s : Value} {l : List Wd} (h : RowAt H s l) (K : Mem) : absLen Tryd.prog K 103 s = some (.int .i64 l.length) := h.len Tryd.underlying103 K
end Go.Den
set_option linter.unusedVariables false
set_option maxRecDepth 100000
namespace Go.Den
open Go Go.Proofs
theorem asks_g (su : Int) (c : Cy) (H : Mem) : FSem Tryd.prog [0] 52 #[.int .i64 su, c.v] H fun v H' => ∃ n ok, v = .tuple #[Nt.v n, .bool ok] ∧ asksC su c = (n, ok) ∧ H' = H := by
  refine FSem.mono (asks_s su c H) ?_
  rintro v H' ⟨rfl, rfl⟩
  exact ⟨_, _, rfl, rfl, rfl⟩
def asksL (su : Int) (l : List Cy) : List Nt := l.filterMap (fun c => if (asksC su c).2 then some (asksC su c).1 else none)
theorem asksL_take {su : Int} {l : List Cy} {i : Nat} (h : i < l.length) {n : Nt} {ok : Bool} (hc : asksC su l[i] = (n, ok)) : asksL su (l.take (i + 1)) = asksL su (l.take i) ++ (if ok then [n] else []) := by
  unfold asksL
  rw [List.take_succ_eq_append_getElem h, List.filterMap_append]
  congr 1
  simp only [List.filterMap_cons, hc, List.filterMap_nil]
  cases ok <;> rfl
theorem asksL_len (su : Int) (l : List Cy) : (asksL su l).length ≤ l.length := List.length_filterMap_le _ _
theorem asksA_eq (su : Int) (a : Ac) : asksA su a = asksL su a.op := rfl
theorem OpenAt.lt {H : Mem} {s : Value} {l : List Cy} (h : OpenAt H s l) {b : Nat} (hb : blkOf s = some b) : b < H.length := by
  rcases h with ⟨rfl, _⟩ | ⟨b', rfl, h2⟩
  · cases hb
  · cases hb; exact (List.getElem?_eq_some_iff.1 h2).1
theorem RowAt.lt {α : Type} [Cel α] {H : Mem} {s : Value} {l : List α} (h : RowAt H s l) {b : Nat} (hb : blkOf s = some b) : b < H.length := by
  rcases h with ⟨rfl, _⟩ | ⟨b', o, ro, vs, rfl, h2, _⟩
  · cases hb
  · cases hb; exact (List.getElem?_eq_some_iff.1 h2).1
def RowOut {α : Type} [Cel α] (H : Mem) (l : List α) (v : Value) (H' : Mem) : Prop := (∃ r, H' = H ++ r) ∧ RowAt H' v l ∧ Own H' v ∧ New H.length v
end Go.Den
namespace Go.Den
open Go Go.Proofs
set_option maxRecDepth 100000
set_option maxHeartbeats 1000000
set_option linter.all false
attribute [local simp] evOps evOp absOp absBox absAlloc absLoad absStore absField absIndexAddr absCells absBinOp absBin absInt absShift absUn absPick absNil absExtract absBuild absPlaces Instr.fill absBuiltin absMinMax plainV plainT allA flat cells_agg cells_int cells_bool cells_str cells_ptr cells_sl cells_map one_int one_bool one_str one_ptr one_sl one_map Act.eval Act.put Region.wanted yielded splice absCall TypeDesc.isRow
theorem aasks_s (su : Int) (a : Ac) {s : Value} {H : Mem} (hO : OpenAt H s a.op) (hn : a.op.length ≤ 1000000000) : FSem Tryd.prog [0] 25 #[.int .i64 su, a.v s] H fun v H' => RowOut H (asksA su a) v H' := by
  refine FSem.ofK Tryd.func25 rfl ?_
  refine DK.from (b' := ⟨#[.int .i64 su, a.v s, undef, undef, undef, undef, undef, undef, undef, undef, undef, undef, undef, undef, undef, undef, undef, undef, undef, undef, undef, undef, undef, undef, undef, undef, undef, undef, undef, undef], []⟩) (by kernel_rfl) ?_
  have z := trivial
  have A := trivial
  have g := trivial
  have j := trivial
  have y := trivial
  have B := trivial
  have k := trivial
  have m := trivial
  have o := trivial
  have p := trivial
  have q := trivial
  have r := trivial
  have t := trivial
  have u := trivial
  have d := trivial
  have w := trivial
  have x := trivial
  have hOs := hO
  refine DK.seq ?_
  refine DK.region (is := [0, 1]) (by kernel_rfl) rfl ?_
  refine WK.run [0, 1] (by simp [z, A, g, j, y, B, k, m, o, p, q, r, t, u, d, w, x, Cy.cells]; constructor <;> rfl) ?_
  refine WK.nil ?_
  refine DK.abs (fun M0 => AtM H [a.l s] M0 ∧ OpenAt M0 s a.op) ⟨AtM.start H [] [_], hO.app _⟩ ?_
  try clear hM
  try clear hO
  rintro M0 ⟨hM, hO⟩
  replace z := hM.own 0 (by simp)
  simp only [List.getElem_cons_zero, List.getElem_cons_succ, Nat.add_zero] at z
  replace A := hM.q1
  replace g := hO.cells.1
  replace j := hO.cells.2
  replace u := hO.lenK
  refine DK.seq ?_
  refine DK.region (is := [0]) (by kernel_rfl) rfl ?_
  refine WK.run [0] (by simp [z, A, g, j, y, B, k, m, o, p, q, r, t, u, d, w, x, Cy.cells]; constructor <;> rfl) ?_
  refine WK.nil ?_
  refine DK.seq ?_
  refine DK.seq ?_
  refine DK.region (is := [0, 1, 2, 3]) (by kernel_rfl) rfl ?_
  refine WK.run [0, 1, 2, 3] (by simp [z, A, g, j, y, B, k, m, o, p, q, r, t, u, d, w, x, Cy.cells]; constructor <;> rfl) ?_
  refine WK.nil ?_
  refine DK.block ?_
  refine DK.loopG [5, 7, 8, 9, 13, 14, 15, 16, 17, 18, 19, 20, 21, 22, 23, 24, 25, 26, 27, 28] (fun fl vs H' => ∃ (i : Int) (l5 : Value) (j7 j8 j9 j14 j15 j16 j17 j18 j19 j20 j21 j22 j23 j24 j25 j26 j27 j28 : Value), vs = [l5, j7, j8, j9, .int .i64 i, j14, j15, j16, j17, j18, j19, j20, j21, j22, j23, j24, j25, j26, j27, j28] ∧ (AtM H [a.l s] H' ∧ OpenAt H' s a.op ∧ RowAt H' l5 (asksL su (a.op.take i.toNat)) ∧ Own H' l5 ∧ New (H.length + 1) l5) ∧ 0 ≤ i ∧ i ≤ a.op.length ∧ fl = (a.op.length - i).toNat) (a.op.length) (by kernel_rfl) ?_ ?_
  · refine ⟨_, _, _, _, _, _, _, _, _, _, _, _, _, _, _, _, _, _, _, _, rfl, ?_⟩
    exact ⟨⟨hM, hO, RowAt.nil _, Own.nil _ _ _, New.nil _ _ _⟩, by omega, by omega, by omega⟩
  rintro fl _ M ⟨i, l5, j7, j8, j9, j14, j15, j16, j17, j18, j19, j20, j21, j22, j23, j24, j25, j26, j27, j28, rfl, hf⟩
  try clear hM
  try clear hO
  obtain ⟨⟨hM, hO, hR, hW, hN⟩, hi0, hi1, hfl⟩ := hf
  replace z := hM.own 0 (by simp)
  simp only [List.getElem_cons_zero, List.getElem_cons_succ, Nat.add_zero] at z
  replace A := hM.q1
  replace g := hO.cells.1
  replace j := hO.cells.2
  replace w := hR.cells.1
  replace x := hR.cells.2
  refine DK.from (by simp [setL]; exact rfl) ?_
  refine DK.seq ?_
  refine DK.region (is := [0]) (by kernel_rfl) rfl ?_
  refine WK.run [0] (by simp [z, A, g, j, y, B, k, m, o, p, q, r, t, u, d, w, x, Cy.cells]; constructor <;> rfl) ?_
  refine WK.nil ?_
  refine DK.seq ?_
  refine DK.test rfl rfl (fun h => ?_) (fun h => ?_)
  · try simp only [h]
    replace h := Tr.out h
    replace m : 0 ≤ i := hi0
    replace k : IntKind.i64.wrap (i + 1) = i + 1 := wrap_in _ (by omega) (by omega)
    replace o : i < a.op.length := h
    have hil : i.toNat < a.op.length := by omega
    clear B; obtain ⟨b, rfl, B⟩ := hO.blk (by omega)
    replace p := cys_get hil
    replace q : i.toNat * 8 + 8 ≤ a.op.length * 8 := by omega
    refine DK.skip ?_
    refine DK.seq ?_
    refine DK.block ?_
    refine DK.seq ?_
    refine DK.region (is := [0, 1, 2, 3]) (by kernel_rfl) rfl ?_
    refine WK.run [0, 1, 2, 3] (by simp [z, A, g, j, y, B, k, m, o, p, q, r, t, u, d, w, x, Cy.cells]; constructor <;> rfl) ?_
    refine WK.nil ?_
    refine DK.abs (fun MA => AtM H [a.l (.slice (some ⟨b, 0, none⟩) a.op.length 8)] MA ∧ OpenAt MA (.slice (some ⟨b, 0, none⟩) a.op.length 8) a.op ∧ MA[M.length]? = some (.cells false a.op[i.toNat].l) ∧ RowAt MA l5 (asksL su (a.op.take i.toNat)) ∧ Own MA l5) ⟨hM.on (Keep.app _ _), hO.app _, by simp, hR.apps _, hW.app _⟩ ?_
    try clear hM
    try clear hO
    rintro MA ⟨hM, hO, r, hR, hW⟩
    replace z := hM.own 0 (by simp)
    simp only [List.getElem_cons_zero, List.getElem_cons_succ, Nat.add_zero] at z
    replace A := hM.q1
    replace g := hO.cells.1
    replace j := hO.cells.2
    refine DK.seq ?_
    refine DK.region (is := [0, 1, 2, 3, 4, 5, 6, 7, 8]) (by kernel_rfl) rfl ?_
    refine WK.run [0, 1] (by simp [z, A, g, j, y, B, k, m, o, p, q, r, t, u, d, w, x, Cy.cells]; constructor <;> rfl) ?_
    refine WK.call rfl (by simp [z, A, g, j, y, B, k, m, o, p, q, r, t, u, d, w, x, Cy.cells]) (by simp [Tryd.func52, Tryd.f52, z, A, g, j, y, B, k, m, o, p, q, r, t, u, d, w, x, Cy.cells]; constructor <;> rfl) ?_
    refine FSem.mono (asks_g su (a.op[i.toNat]) _) ?_
    rintro _ Hq ⟨n, ok, rfl, hac, hq⟩
    replace hq := hq.symm
    subst hq
    refine WK.run [3, 4, 5, 6, 7, 8] (by simp [z, A, g, j, y, B, k, m, o, p, q, r, t, u, d, w, x, Cy.cells]; constructor <;> rfl) ?_
    refine WK.nil ?_
    refine DK.abs (fun MB => AtM H [a.l (.slice (some ⟨b, 0, none⟩) a.op.length 8)] MB ∧ OpenAt MB (.slice (some ⟨b, 0, none⟩) a.op.length 8) a.op ∧ MB[MA.length]? = some (.cells false n.l) ∧ RowAt MB l5 (asksL su (a.op.take i.toNat)) ∧ Own MB l5) ⟨hM.on (Keep.app _ _), hO.app _, by simp, hR.apps _, hW.app _⟩ ?_
    try clear hM
    try clear hO
    rintro MB ⟨hM, hO, t, hR, hW⟩
    replace z := hM.own 0 (by simp)
    simp only [List.getElem_cons_zero, List.getElem_cons_succ, Nat.add_zero] at z
    replace A := hM.q1
    replace g := hO.cells.1
    replace j := hO.cells.2
    have hlen := asksL_len su (a.op.take i.toNat)
    simp at hlen
    have htk := asksL_take hil hac
    refine DK.seq ?_
    refine DK.region (is := [0]) (by kernel_rfl) rfl ?_
    refine WK.run [0] (by simp [z, A, g, j, y, B, k, m, o, p, q, r, t, u, d, w, x, Cy.cells]; constructor <;> rfl) ?_
    refine WK.nil ?_
    refine DK.test rfl rfl (fun h => ?_) (fun h => ?_)
    · try simp only [h]
      replace h := Tr.out h
      have hok := h
      obtain ⟨l6, MC, ha6, hR6, hW6, hf6, hN6⟩ := app1Nt hR hW n (by omega)
      replace d := ha6
      simp only [Cel.f, Nt.l] at d
      refine DK.region (is := [0, 1, 2, 3, 4]) (by kernel_rfl) rfl ?_
      refine WK.run [0, 1, 2, 3, 4] (by simp [z, A, g, j, y, B, k, m, o, p, q, r, t, u, d, w, x, Cy.cells]; constructor <;> rfl) ?_
      refine WK.nil ?_
      refine DK.region (is := [0, 1]) (by kernel_rfl) rfl ?_
      refine WK.run [0, 1] (by simp [z, A, g, j, y, B, k, m, o, p, q, r, t, u, d, w, x, Cy.cells]; constructor <;> rfl) ?_
      refine WK.nil ?_
      refine ⟨by kernel_rfl, (a.op.length - (i + 1)).toNat, ?_, _, _, _, _, _, _, _, _, _, _, _, _, _, _, _, _, _, _, _, _, rfl, ?_⟩
      · omega
      · rw [show (i + 1).toNat = i.toNat + 1 by omega, htk]
        refine ⟨⟨hM.frn hf6 hN, hO.frn hf6 (fun c hc e => ?_), by simpa [hok] using hR6, hW6, hN6.le (hM.lt (i := 0) (by simp))⟩, by omega, by omega, rfl⟩
        have := hOs.lt hc; have := hN c e; omega
    try simp only [h]
    replace h := Fa.out h
    have hok := h
    refine DK.skip ?_
    refine DK.region (is := [0, 1]) (by kernel_rfl) rfl ?_
    refine WK.run [0, 1] (by simp [z, A, g, j, y, B, k, m, o, p, q, r, t, u, d, w, x, Cy.cells]; constructor <;> rfl) ?_
    refine WK.nil ?_
    refine ⟨by kernel_rfl, (a.op.length - (i + 1)).toNat, ?_, _, _, _, _, _, _, _, _, _, _, _, _, _, _, _, _, _, _, _, _, rfl, ?_⟩
    · omega
    · rw [show (i + 1).toNat = i.toNat + 1 by omega, htk]
      exact ⟨⟨hM, hO, by simpa [hok] using hR, hW, hN⟩, by omega, by omega, rfl⟩
  try simp only [h]
  replace h := Fa.out h
  refine DK.exit ?_
  refine DK.seq ?_
  refine DK.region (is := [0, 1]) (by kernel_rfl) rfl ?_
  refine WK.run [0, 1] (by simp [z, A, g, j, y, B, k, m, o, p, q, r, t, u, d, w, x, Cy.cells]; constructor <;> rfl) ?_
  refine WK.nil ?_
  refine DK.ret ?_
  refine And.intro (Or.inr rfl) ?_
  refine ⟨_, by simp [absAnswer, absResults, absResult, Tryd.f25]; rfl, ?_⟩
  have hi : i = a.op.length := by omega
  subst hi
  refine ⟨hM.keep.ext, ?_, hW, hN.le (by omega)⟩
  rw [asksA_eq]; simpa using hR
end Go.Den
namespace Go.Den
open Go Go.Proofs
set_option maxRecDepth 100000
set_option maxHeartbeats 1000000
set_option linter.all false
structure Od where
  (kd su pl n : Int) (p : Pl) (a : Nt)
deriving DecidableEq
@[simp] def Od.l (o : Od) : List Value := [.int .u8 o.kd, .int .i64 o.su, .int .i64 o.pl, .int .i64 o.n, .int .i64 o.p.pr, .int .u8 o.p.un, .int .i64 o.p.ev, .int .i64 o.p.tr, .bool o.p.go, .bool o.p.la, .int .u8 o.a.kd, .int .i64 o.a.su, .int .i64 o.a.cy, .int .i64 o.a.tr, .int .i64 o.a.am, .int .u8 o.a.ve]
@[simp] def Od.v (o : Od) : Value := .agg #[.int .u8 o.kd, .int .i64 o.su, .int .i64 o.pl, .int .i64 o.n, .int .i64 o.p.pr, .int .u8 o.p.un, .int .i64 o.p.ev, .int .i64 o.p.tr, .bool o.p.go, .bool o.p.la, .int .u8 o.a.kd, .int .i64 o.a.su, .int .i64 o.a.cy, .int .i64 o.a.tr, .int .i64 o.a.am, .int .u8 o.a.ve]
instance : Cel Od := ⟨Od.l, 16, fun _ => rfl, fun _ => rfl, by decide⟩
structure Sm where
  (dn up rf sp pd : Int)
deriving DecidableEq
@[simp] def Sm.v (s : Sm) : Value := .agg #[.int .i64 s.dn, .int .i64 s.up, .int .i64 s.rf, .int .i64 s.sp, .int .i64 s.pd]
theorem stiPl : Tryd.prog.stoodInHeld 44 = false := by kernel_rfl
@[simp] theorem egiPl : Tryd.prog.eqGuardType Tryd.prog.depth 44 = false := by kernel_rfl
theorem eqdPl (d : Nat) (x y : Pl) : absEq Tryd.prog (d + 3) 44 x.v y.v = some (decide (x = y)) := by
  obtain ⟨a0, a1, a2, a3, a4, a5⟩ := x
  obtain ⟨b0, b1, b2, b3, b4, b5⟩ := y
  simp only [Pl.v]
  rw [show d + 3 = (d + 2) + 1 from rfl, absEq_s Tryd.underlying44 stiPl]
  have e1 : ∀ (x y : Int), absEq Tryd.prog (d + 2) 5 (.int .u8 x) (.int .u8 y) = some (decide (x = y)) := fun x y => absEq_i (d := d + 1) Tryd.underlying5
  have e2 : ∀ (x y : Int), absEq Tryd.prog (d + 2) 3 (.int .i64 x) (.int .i64 y) = some (decide (x = y)) := fun x y => absEq_i (d := d + 1) Tryd.underlying3
  have e3 : ∀ (x y : Int), absEq Tryd.prog (d + 2) 2 (.int .i64 x) (.int .i64 y) = some (decide (x = y)) := fun x y => absEq_i (d := d + 1) Tryd.underlying2
  have e4 : ∀ (x y : Bool), absEq Tryd.prog (d + 2) 4 (.bool x) (.bool y) = some (decide (x = y)) := fun x y => absEq_b (d := d + 1) Tryd.underlying4
  simp only [absEqFields, absPart, inf2, sz2, Tryd.underlying2, inf3, sz3, Tryd.underlying3, inf4, sz4, Tryd.underlying4, inf5, sz5, Tryd.underlying5, TypeDesc.isRow]
  by_cases h : a0 = b0
  rotate_left
  · simp [e1, e2, e3, e4, h]
  subst h
  by_cases h : a1 = b1
  rotate_left
  · simp [e1, e2, e3, e4, h]
  subst h
  by_cases h : a2 = b2
  rotate_left
  · simp [e1, e2, e3, e4, h]
  subst h
  by_cases h : a3 = b3
  rotate_left
  · simp [e1, e2, e3, e4, h]
  subst h
  by_cases h : a4 = b4
  rotate_left
  · simp [e1, e2, e3, e4, h]
  subst h
  by_cases h : a5 = b5
  rotate_left
  · simp [e1, e2, e3, e4, h]
  subst h
  simp [e1, e2, e3, e4]
@[simp] theorem eqiPl (x1 x2 x3 x4 y1 y2 y3 y4 : Int) (x5 x6 y5 y6 : Bool) : absEq Tryd.prog 10000 44 (.agg #[.int .i64 x1, .int .u8 x2, .int .i64 x3, .int .i64 x4, .bool x5, .bool x6]) (.agg #[.int .i64 y1, .int .u8 y2, .int .i64 y3, .int .i64 y4, .bool y5, .bool y6]) = some (decide ((⟨x1, x2, x3, x4, x5, x6⟩ : Pl) = ⟨y1, y2, y3, y4, y5, y6⟩)) := eqdPl 9997 ⟨x1, x2, x3, x4, x5, x6⟩ ⟨y1, y2, y3, y4, y5, y6⟩
theorem stiNt : Tryd.prog.stoodInHeld 46 = false := by kernel_rfl
theorem eqdNt (d : Nat) (x y : Nt) : absEq Tryd.prog (d + 3) 46 x.v y.v = some (decide (x = y)) := by
  obtain ⟨a0, a1, a2, a3, a4, a5⟩ := x
  obtain ⟨b0, b1, b2, b3, b4, b5⟩ := y
  simp only [Nt.v]
  rw [show d + 3 = (d + 2) + 1 from rfl, absEq_s Tryd.underlying46 stiNt]
  have e1 : ∀ (x y : Int), absEq Tryd.prog (d + 2) 5 (.int .u8 x) (.int .u8 y) = some (decide (x = y)) := fun x y => absEq_i (d := d + 1) Tryd.underlying5
  have e2 : ∀ (x y : Int), absEq Tryd.prog (d + 2) 3 (.int .i64 x) (.int .i64 y) = some (decide (x = y)) := fun x y => absEq_i (d := d + 1) Tryd.underlying3
  have e3 : ∀ (x y : Int), absEq Tryd.prog (d + 2) 2 (.int .i64 x) (.int .i64 y) = some (decide (x = y)) := fun x y => absEq_i (d := d + 1) Tryd.underlying2
  have e4 : ∀ (x y : Bool), absEq Tryd.prog (d + 2) 4 (.bool x) (.bool y) = some (decide (x = y)) := fun x y => absEq_b (d := d + 1) Tryd.underlying4
  simp only [absEqFields, absPart, inf2, sz2, Tryd.underlying2, inf3, sz3, Tryd.underlying3, inf5, sz5, Tryd.underlying5, TypeDesc.isRow]
  by_cases h : a0 = b0
  rotate_left
  · simp [e1, e2, e3, e4, h]
  subst h
  by_cases h : a1 = b1
  rotate_left
  · simp [e1, e2, e3, e4, h]
  subst h
  by_cases h : a2 = b2
  rotate_left
  · simp [e1, e2, e3, e4, h]
  subst h
  by_cases h : a3 = b3
  rotate_left
  · simp [e1, e2, e3, e4, h]
  subst h
  by_cases h : a4 = b4
  rotate_left
  · simp [e1, e2, e3, e4, h]
  subst h
  by_cases h : a5 = b5
  rotate_left
  · simp [e1, e2, e3, e4, h]
  subst h
  simp [e1, e2, e3, e4]
theorem stiCy : Tryd.prog.stoodInHeld 67 = false := by kernel_rfl
@[simp] theorem egiCy : Tryd.prog.eqGuardType Tryd.prog.depth 67 = false := by kernel_rfl
theorem eqdCy (d : Nat) (x y : Cy) : absEq Tryd.prog (d + 3) 67 x.v y.v = some (decide (x = y)) := by
  obtain ⟨a0, a1, a2, a3, a4, a5, a6, a7⟩ := x
  obtain ⟨b0, b1, b2, b3, b4, b5, b6, b7⟩ := y
  simp only [Cy.v]
  rw [show d + 3 = (d + 2) + 1 from rfl, absEq_s Tryd.underlying67 stiCy]
  have e1 : ∀ (x y : Int), absEq Tryd.prog (d + 2) 5 (.int .u8 x) (.int .u8 y) = some (decide (x = y)) := fun x y => absEq_i (d := d + 1) Tryd.underlying5
  have e2 : ∀ (x y : Int), absEq Tryd.prog (d + 2) 3 (.int .i64 x) (.int .i64 y) = some (decide (x = y)) := fun x y => absEq_i (d := d + 1) Tryd.underlying3
  have e3 : ∀ (x y : Int), absEq Tryd.prog (d + 2) 2 (.int .i64 x) (.int .i64 y) = some (decide (x = y)) := fun x y => absEq_i (d := d + 1) Tryd.underlying2
  have e4 : ∀ (x y : Bool), absEq Tryd.prog (d + 2) 4 (.bool x) (.bool y) = some (decide (x = y)) := fun x y => absEq_b (d := d + 1) Tryd.underlying4
  simp only [absEqFields, absPart, inf2, sz2, Tryd.underlying2, inf3, sz3, Tryd.underlying3, inf4, sz4, Tryd.underlying4, inf5, sz5, Tryd.underlying5, TypeDesc.isRow]
  by_cases h : a0 = b0
  rotate_left
  · simp [e1, e2, e3, e4, h]
  subst h
  by_cases h : a1 = b1
  rotate_left
  · simp [e1, e2, e3, e4, h]
  subst h
  by_cases h : a2 = b2
  rotate_left
  · simp [e1, e2, e3, e4, h]
  subst h
  by_cases h : a3 = b3
  rotate_left
  · simp [e1, e2, e3, e4, h]
  subst h
  by_cases h : a4 = b4
  rotate_left
  · simp [e1, e2, e3, e4, h]
  subst h
  by_cases h : a5 = b5
  rotate_left
  · simp [e1, e2, e3, e4, h]
  subst h
  by_cases h : a6 = b6
  rotate_left
  · simp [e1, e2, e3, e4, h]
  subst h
  by_cases h : a7 = b7
  rotate_left
  · simp [e1, e2, e3, e4, h]
  subst h
  simp [e1, e2, e3, e4]
@[simp] theorem eqiCy (x1 x2 x3 x4 x5 x6 x7 y1 y2 y3 y4 y5 y6 y7 : Int) (x8 y8 : Bool) : absEq Tryd.prog 10000 67 (.agg #[.int .i64 x1, .int .i64 x2, .int .u8 x3, .int .i64 x4, .int .i64 x5, .int .i64 x6, .int .i64 x7, .bool x8]) (.agg #[.int .i64 y1, .int .i64 y2, .int .u8 y3, .int .i64 y4, .int .i64 y5, .int .i64 y6, .int .i64 y7, .bool y8]) = some (decide ((⟨x1, x2, x3, x4, x5, x6, x7, x8⟩ : Cy) = ⟨y1, y2, y3, y4, y5, y6, y7, y8⟩)) := eqdCy 9997 ⟨x1, x2, x3, x4, x5, x6, x7, x8⟩ ⟨y1, y2, y3, y4, y5, y6, y7, y8⟩
theorem stiSm : Tryd.prog.stoodInHeld 30 = false := by kernel_rfl
@[simp] theorem egiSm : Tryd.prog.eqGuardType Tryd.prog.depth 30 = false := by kernel_rfl
theorem eqdSm (d : Nat) (x y : Sm) : absEq Tryd.prog (d + 3) 30 x.v y.v = some (decide (x = y)) := by
  obtain ⟨a0, a1, a2, a3, a4⟩ := x
  obtain ⟨b0, b1, b2, b3, b4⟩ := y
  simp only [Sm.v]
  rw [show d + 3 = (d + 2) + 1 from rfl, absEq_s Tryd.underlying30 stiSm]
  have e1 : ∀ (x y : Int), absEq Tryd.prog (d + 2) 5 (.int .u8 x) (.int .u8 y) = some (decide (x = y)) := fun x y => absEq_i (d := d + 1) Tryd.underlying5
  have e2 : ∀ (x y : Int), absEq Tryd.prog (d + 2) 3 (.int .i64 x) (.int .i64 y) = some (decide (x = y)) := fun x y => absEq_i (d := d + 1) Tryd.underlying3
  have e3 : ∀ (x y : Int), absEq Tryd.prog (d + 2) 2 (.int .i64 x) (.int .i64 y) = some (decide (x = y)) := fun x y => absEq_i (d := d + 1) Tryd.underlying2
  have e4 : ∀ (x y : Bool), absEq Tryd.prog (d + 2) 4 (.bool x) (.bool y) = some (decide (x = y)) := fun x y => absEq_b (d := d + 1) Tryd.underlying4
  simp only [absEqFields, absPart, inf2, sz2, Tryd.underlying2, inf3, sz3, Tryd.underlying3, TypeDesc.isRow]
  by_cases h : a0 = b0
  rotate_left
  · simp [e1, e2, e3, e4, h]
  subst h
  by_cases h : a1 = b1
  rotate_left
  · simp [e1, e2, e3, e4, h]
  subst h
  by_cases h : a2 = b2
  rotate_left
  · simp [e1, e2, e3, e4, h]
  subst h
  by_cases h : a3 = b3
  rotate_left
  · simp [e1, e2, e3, e4, h]
  subst h
  by_cases h : a4 = b4
  rotate_left
  · simp [e1, e2, e3, e4, h]
  subst h
  simp [e1, e2, e3, e4]
@[simp] theorem eqiSm (x1 x2 x3 x4 x5 y1 y2 y3 y4 y5 : Int) : absEq Tryd.prog 10000 30 (.agg #[.int .i64 x1, .int .i64 x2, .int .i64 x3, .int .i64 x4, .int .i64 x5]) (.agg #[.int .i64 y1, .int .i64 y2, .int .i64 y3, .int .i64 y4, .int .i64 y5]) = some (decide ((⟨x1, x2, x3, x4, x5⟩ : Sm) = ⟨y1, y2, y3, y4, y5⟩)) := eqdSm 9997 ⟨x1, x2, x3, x4, x5⟩ ⟨y1, y2, y3, y4, y5⟩
theorem stiOd : Tryd.prog.stoodInHeld 48 = false := by kernel_rfl
@[simp] theorem egiOd : Tryd.prog.eqGuardType Tryd.prog.depth 48 = false := by kernel_rfl
theorem eqdOd (d : Nat) (x y : Od) : absEq Tryd.prog (d + 4) 48 x.v y.v = some (decide (x = y)) := by
  obtain ⟨a0, a1, a2, a3, a4, a5⟩ := x
  obtain ⟨b0, b1, b2, b3, b4, b5⟩ := y
  simp only [Od.v]
  rw [show d + 4 = (d + 3) + 1 from rfl, absEq_s Tryd.underlying48 stiOd]
  have e1 : ∀ (x y : Int), absEq Tryd.prog (d + 3) 5 (.int .u8 x) (.int .u8 y) = some (decide (x = y)) := fun x y => absEq_i (d := d + 2) Tryd.underlying5
  have e2 : ∀ (x y : Int), absEq Tryd.prog (d + 3) 3 (.int .i64 x) (.int .i64 y) = some (decide (x = y)) := fun x y => absEq_i (d := d + 2) Tryd.underlying3
  have e3 : ∀ (x y : Int), absEq Tryd.prog (d + 3) 2 (.int .i64 x) (.int .i64 y) = some (decide (x = y)) := fun x y => absEq_i (d := d + 2) Tryd.underlying2
  have e4 : ∀ (x y : Bool), absEq Tryd.prog (d + 3) 4 (.bool x) (.bool y) = some (decide (x = y)) := fun x y => absEq_b (d := d + 2) Tryd.underlying4
  have fNt := fun x y => eqdNt d x y
  simp only [Nt.v] at fNt
  have fPl := fun x y => eqdPl d x y
  simp only [Pl.v] at fPl
  simp only [absEqFields, absPart, inf3, sz3, Tryd.underlying3, inf5, sz5, Tryd.underlying5, inf44, sz44, Tryd.underlying44, inf46, sz46, Tryd.underlying46, TypeDesc.isRow]
  by_cases h : a0 = b0
  rotate_left
  · simp [e1, e2, e3, e4, fNt, fPl, h]
  subst h
  by_cases h : a1 = b1
  rotate_left
  · simp [e1, e2, e3, e4, fNt, fPl, h]
  subst h
  by_cases h : a2 = b2
  rotate_left
  · simp [e1, e2, e3, e4, fNt, fPl, h]
  subst h
  by_cases h : a3 = b3
  rotate_left
  · simp [e1, e2, e3, e4, fNt, fPl, h]
  subst h
  by_cases h : a4 = b4
  rotate_left
  · simp [e1, e2, e3, e4, fNt, fPl, h]
  subst h
  by_cases h : a5 = b5
  rotate_left
  · simp [e1, e2, e3, e4, fNt, fPl, h]
  subst h
  simp [e1, e2, e3, e4, fNt, fPl]
@[simp] theorem eqiOd (x1 x2 x3 x4 x5 x6 x7 x8 x11 x12 x13 x14 x15 x16 y1 y2 y3 y4 y5 y6 y7 y8 y11 y12 y13 y14 y15 y16 : Int) (x9 x10 y9 y10 : Bool) : absEq Tryd.prog 10000 48 (.agg #[.int .u8 x1, .int .i64 x2, .int .i64 x3, .int .i64 x4, .int .i64 x5, .int .u8 x6, .int .i64 x7, .int .i64 x8, .bool x9, .bool x10, .int .u8 x11, .int .i64 x12, .int .i64 x13, .int .i64 x14, .int .i64 x15, .int .u8 x16]) (.agg #[.int .u8 y1, .int .i64 y2, .int .i64 y3, .int .i64 y4, .int .i64 y5, .int .u8 y6, .int .i64 y7, .int .i64 y8, .bool y9, .bool y10, .int .u8 y11, .int .i64 y12, .int .i64 y13, .int .i64 y14, .int .i64 y15, .int .u8 y16]) = some (decide ((⟨x1, x2, x3, x4, ⟨x5, x6, x7, x8, x9, x10⟩, ⟨x11, x12, x13, x14, x15, x16⟩⟩ : Od) = ⟨y1, y2, y3, y4, ⟨y5, y6, y7, y8, y9, y10⟩, ⟨y11, y12, y13, y14, y15, y16⟩⟩)) := eqdOd 9996 ⟨x1, x2, x3, x4, ⟨x5, x6, x7, x8, x9, x10⟩, ⟨x11, x12, x13, x14, x15, x16⟩⟩ ⟨y1, y2, y3, y4, ⟨y5, y6, y7, y8, y9, y10⟩, ⟨y11, y12, y13, y14, y15, y16⟩⟩
end Go.Den
set_option linter.unusedVariables false
set_option maxRecDepth 100000
namespace Go.Den
open Go Go.Proofs
def zeroP : Pl := ⟨0, 0, 0, 0, false, false⟩
def zeroN : Nt := ⟨0, 0, 0, 0, 0, 0⟩
def keyB (n : Nt) : Bool := decide (0 ≤ n.su ∧ n.su < 32 ∧ 0 ≤ n.cy ∧ n.cy ≤ 3652058 ∧ 0 ≤ n.tr ∧ n.tr ≤ 100 ∧ 0 ≤ n.am ∧ n.am ≤ 1125899906842624)
def noticeB (n : Nt) : Bool := decide (1 ≤ n.kd ∧ n.kd ≤ 5 ∧ 1 ≤ n.ve ∧ n.ve ≤ 3) && keyB n
def rightPl (p : Pl) : Int := if srB p.un p.ev = false ∨ p.tr < 0 ∨ 1000 < p.tr then 1 else if p.pr < 0 ∨ 1073741824 < p.pr then 9 else 0
def subsK (k : Int) : Bool := decide (2 ≤ k ∧ k ≤ 8)
def plansK (k : Int) : Bool := decide (k = 2 ∨ k = 3)
def rightO (o : Od) : Int :=
  if subsK o.kd then
    if o ≠ ⟨o.kd, o.su, if plansK o.kd then o.pl else 0, 0, zeroP, zeroN⟩ ∨ o.su < 0 ∨ 32 ≤ o.su ∨ o.pl < 0 ∨ 8 ≤ o.pl then 1 else 0
  else if o.kd = 1 then (if o ≠ ⟨o.kd, 0, 0, 0, o.p, zeroN⟩ then 1 else rightPl o.p)
  else if o.kd = 9 then (if o ≠ ⟨o.kd, 0, 0, o.n, zeroP, zeroN⟩ ∨ o.n < 1 ∨ 60 < o.n then 1 else 0)
  else if o.kd = 10 then (if o ≠ ⟨o.kd, 0, 0, 0, zeroP, o.a⟩ ∨ noticeB o.a = false then 1 else 0)
  else 1
def getP (l : List Pl) (n : Int) : Pl × Int := if n < 0 ∨ (l.length : Int) ≤ n then (zeroP, 2) else (l.getD n.toNat zeroP, 0)
def addPl (l : List Pl) (p : Pl) : List Pl × Int × Int := if rightPl p ≠ 0 then ([], 0, rightPl p) else if 8 ≤ l.length then ([], 0, 3) else (l ++ [p], l.length, 0)
def openAc (n : Int) (p : Pl) (today : Int) : Ac := ⟨1, n, IntKind.i64.wrap (today + p.tr), 0, 0, 0, false, [], 0, 0, 0, 0, 0⟩
structure Bk where
  (today : Int) (pls : List Pl) (subs : List Ac)
def zeroB : Bk := ⟨0, [], List.replicate 32 zeroA⟩
def newB (t : Int) : Bk := ⟨t, [], List.replicate 32 zeroA⟩
def Bk.sub (b : Bk) (i : Int) : Ac := b.subs.getD i.toNat zeroA
noncomputable def openB (b : Bk) (o : Od) : Ac × Int :=
  let g := getP b.pls o.pl
  if g.2 ≠ 0 then (zeroA, g.2) else if (b.sub o.su).st ≠ 0 then (zeroA, 11) else if 3652058 < IntKind.i64.wrap (b.today + g.1.tr) then (zeroA, 6) else dayA (openAc o.pl g.1 b.today) g.1 b.today
noncomputable def turnB (b : Bk) (a : Ac) (o : Od) : Ac × Int :=
  if o.kd = 4 then turnA a 1 2 else if o.kd = 5 then turnA a 2 1 else if o.kd = 6 then skipA a else if o.kd = 7 then cancelA a else if o.kd = 8 then cardA a
  else if (getP b.pls o.pl).2 ≠ 0 then (zeroA, (getP b.pls o.pl).2) else changeA a (getP b.pls a.pl).1 o.pl (getP b.pls o.pl).1 b.today
noncomputable def passL (pls : List Pl) (today : Int) : List Ac → List Ac × Int
  | [] => ([], 0)
  | a :: l =>
    let r := if a.st = 0 then (a, 0) else dayA a (getP pls a.pl).1 today
    if r.2 ≠ 0 then ([], r.2) else if (passL pls today l).2 ≠ 0 then ([], (passL pls today l).2) else (r.1 :: (passL pls today l).1, 0)
noncomputable def passB (b : Bk) (n : Int) : Bk × Int :=
  if 3652058 < IntKind.i64.wrap (b.today + n) then (zeroB, 6)
  else
    let r := passL b.pls (IntKind.i64.wrap (b.today + n)) b.subs
    if r.2 ≠ 0 then (zeroB, r.2) else (⟨IntKind.i64.wrap (b.today + n), b.pls, r.1⟩, 0)
def Bk.put (b : Bk) (i : Int) (r : Ac × Int) : Bk × Int := if r.2 ≠ 0 then (zeroB, r.2) else ({ b with subs := b.subs.set i.toNat r.1 }, 0)
noncomputable def stepB (b : Bk) (o : Od) : Bk × Int :=
  if rightO o ≠ 0 then (zeroB, rightO o)
  else if o.kd = 1 then (if (addPl b.pls o.p).2.2 ≠ 0 then (zeroB, (addPl b.pls o.p).2.2) else ({ b with pls := (addPl b.pls o.p).1 }, 0))
  else if o.kd = 2 then b.put o.su (openB b o)
  else if o.kd = 9 then passB b o.n
  else if o.kd = 10 then b.put o.a.su (hearA o.a.su (b.sub o.a.su) o.a b.today)
  else if (b.sub o.su).st = 0 then (zeroB, 2)
  else b.put o.su (turnB b (b.sub o.su) o)
def asksFrom (k : Nat) : List Ac → List Nt
  | [] => []
  | a :: l => asksA k a ++ asksFrom (k + 1) l
def Bk.asks (b : Bk) : List Nt := asksFrom 0 b.subs
structure As where
  (a : Ac) (s : Value) (one : s.oneCell' = true)
instance : Cel As := ⟨fun x => x.a.l x.s, 13, fun _ => rfl, fun x => by simp [x.one]; exact ⟨rfl, rfl, rfl, rfl, rfl, rfl, rfl, rfl, rfl, rfl, rfl, rfl⟩, by decide⟩
def BkL (t : Int) (sp : Value) (l : List As) : List Value := .int .i64 t :: sp :: rowV l
def bkv (t : Int) (sp : Value) (l : List As) : Value := .agg (BkL t sp l).toArray
structure BkAt (H : Mem) (sp : Value) (l : List As) (b : Bk) : Prop where
  pls : RowAt H sp b.pls
  map : l.map As.a = b.subs
  len : l.length = 32
  op : ∀ x ∈ l, OpenAt H x.s x.a.op
theorem BkAt.keep {H H' : Mem} {sp : Value} {l : List As} {b : Bk} (h : BkAt H sp l b) (hk : Keep H H') : BkAt H' sp l b := ⟨h.pls.keep hk, h.map, h.len, fun x hx => (h.op x hx).keep hk⟩
theorem BkL_len {t : Int} {sp : Value} {l : List As} (h : l.length = 32) : (BkL t sp l).length = 418 := by
  simp only [BkL, List.length_cons, rowV_len, h]; rfl
def zAs : As := ⟨zeroA, .slice none 0 0, rfl⟩
def zL : List As := List.replicate 32 zAs
@[simp] theorem zL_len : zL.length = 32 := by unfold zL; exact List.length_replicate
end Go.Den
set_option linter.unusedVariables false
set_option maxRecDepth 100000
namespace Go.Den
open Go Go.Proofs
theorem wrap_u64 (n : Int) : IntKind.u64.wrap n = n % 18446744073709551616 := by
  simp only [IntKind.wrap, IntKind.bits, IntKind.signed]; simp
theorem wrap_b8 (n : Int) (h0 : 0 ≤ n) (h1 : n < 256) : IntKind.u8.wrap n = n := by
  simp only [IntKind.wrap, IntKind.bits, IntKind.signed]; simp; omega
def zzI (n : Int) : Int := IntKind.u64.wrap ((BitVec.ofInt 64 (IntKind.u64.wrap (IntKind.u64.wrap n * 2)) ^^^ BitVec.ofInt 64 (IntKind.u64.wrap (n.fdiv 9223372036854775808))).toNat : Int)
theorem zzI_eq {n : Int} (h0 : -9223372036854775808 ≤ n) (h1 : n < 9223372036854775808) : zzI n = if n < 0 then -2 * n - 1 else 2 * n := by
  unfold zzI
  simp only [wrap_u64]
  rw [Int.fdiv_eq_ediv_of_nonneg _ (by decide)]
  split
  · have e : n / 9223372036854775808 % 18446744073709551616 = 18446744073709551615 := by omega
    rw [e, show BitVec.ofInt 64 18446744073709551615 = BitVec.allOnes 64 from rfl, BitVec.xor_allOnes, BitVec.toNat_not, BitVec.toNat_ofInt]
    omega
  · have e : n / 9223372036854775808 % 18446744073709551616 = 0 := by omega
    rw [e, show BitVec.ofInt 64 0 = 0#64 from rfl, BitVec.xor_zero, BitVec.toNat_ofInt]
    omega
theorem zzI_b (n : Int) : 0 ≤ zzI n ∧ zzI n < 18446744073709551616 := by unfold zzI; rw [wrap_u64]; omega
theorem or64 (n : Int) (h0 : 0 ≤ n) (h1 : n < 64) : IntKind.u8.wrap ((BitVec.ofInt 8 n ||| BitVec.ofInt 8 64).toNat : Int) = n + 64 := by
  have : ∀ m : Fin 64, IntKind.u8.wrap ((BitVec.ofInt 8 (m.1 : Int) ||| BitVec.ofInt 8 64).toNat : Int) = m.1 + 64 := by decide
  have e := this ⟨n.toNat, by omega⟩
  simp only at e
  rw [show ((n.toNat : Nat) : Int) = n by omega] at e
  exact e
def digB (u : Nat) : List By := if h : u < 64 then [⟨u⟩] else ⟨(u : Int) % 64 + 64⟩ :: digB (u / 64)
termination_by u
theorem digB_0 {u : Nat} (h : u < 64) : digB u = [⟨u⟩] := by rw [digB, dif_pos h]
theorem digB_s {u : Nat} (h : ¬ u < 64) : digB u = ⟨(u : Int) % 64 + 64⟩ :: digB (u / 64) := by rw [digB, dif_neg h]
theorem digB_len : ∀ (n : Nat) (u : Nat), u < 64 ^ (n + 1) → (digB u).length ≤ n + 1
  | 0, u, h => by rw [digB_0 (by simpa using h)]; simp
  | n + 1, u, h => by
    by_cases q : u < 64
    · rw [digB_0 q]; simp
    · rw [digB_s q]
      have := digB_len n (u / 64) (by rw [Nat.pow_succ] at h; omega)
      simp; omega
def numB (n : Int) : List By := digB (zzI n).toNat
def numsB : List Int → List By
  | [] => []
  | n :: l => numB n ++ numsB l
theorem numsB_app : ∀ l r : List Int, numsB (l ++ r) = numsB l ++ numsB r
  | [], r => rfl
  | n :: l, r => by simp [numsB, numsB_app l r]
theorem numB_len (n : Int) : (numB n).length ≤ 11 := digB_len 10 _ (by have := zzI_b n; omega)
theorem numsB_len : ∀ l : List Int, (numsB l).length ≤ 11 * l.length
  | [] => by simp [numsB]
  | n :: l => by have := numsB_len l; have := numB_len n; simp [numsB]; omega
def flN (b : Bool) : Int := if b = true then 1 else 0
def plN (p : Pl) : List Int := [p.pr, IntKind.i64.wrap p.un, p.ev, p.tr, flN p.go, flN p.la]
def cyN (c : Cy) : List Int := [c.no, c.due, IntKind.i64.wrap c.ph, c.am, c.us, c.tr, c.nx, flN c.gd]
def acN (a : Ac) : List Int := IntKind.i64.wrap a.st :: if a.st = 0 then [] else [a.pl, a.an, a.ix, a.ct, a.cr, flN a.sk, a.dn, a.up, a.rf, a.sp, a.pd, a.op.length] ++ a.op.flatMap cyN
def bkN (b : Bk) : List Int := [b.today, b.pls.length] ++ b.pls.flatMap plN ++ b.subs.flatMap acN
def encB (b : Bk) : List By := numsB (bkN b)
structure BoxAt (H : Mem) (k : Nat) (s : Value) (bs : List By) (e : Int) : Prop where
  cell : H[k]? = some (.cells false [s, .int .i64 e])
  row : RowAt H s bs
  own : Own H s
  ne : blkOf s ≠ some k
def Fr2 (H : Mem) (k : Nat) (s : Value) (H' : Mem) : Prop := H.length ≤ H'.length ∧ ∀ i, i < H.length → i ≠ k → blkOf s ≠ some i → H'[i]? = H[i]?
def Src (H : Mem) (s s' : Value) : Prop := ∀ c, blkOf s' = some c → blkOf s = some c ∨ H.length ≤ c
theorem Fr2.refl (H : Mem) (k : Nat) (s : Value) : Fr2 H k s H := ⟨Nat.le_refl _, fun _ _ _ _ => rfl⟩
theorem Src.refl (H : Mem) (s : Value) : Src H s s := fun _ h => .inl h
theorem Fr2.trans {H H1 H2 : Mem} {k : Nat} {s s1 : Value} (h : Fr2 H k s H1) (hs : Src H s s1) (h2 : Fr2 H1 k s1 H2) : Fr2 H k s H2 :=
  ⟨Nat.le_trans h.1 h2.1, fun i hi hk hb => (h2.2 i (Nat.lt_of_lt_of_le hi h.1) hk (fun e => (hs i e).elim hb (fun q => by omega))).trans (h.2 i hi hk hb)⟩
theorem Src.trans {H H1 : Mem} {s s1 s2 : Value} (h : Src H s s1) (hl : H.length ≤ H1.length) (h2 : Src H1 s1 s2) : Src H s s2 := fun c hc => (h2 c hc).elim (h c) (fun q => .inr (by omega))
theorem Fr2.cut {H r H' : Mem} {k : Nat} {s : Value} (h : Fr2 (H ++ r) k s H') : Fr2 H k s H' :=
  ⟨by have := h.1; simp at this; omega, fun i hi hk hb => (h.2 i (by simp; omega) hk hb).trans (List.getElem?_append_left hi)⟩
theorem Src.cut {H r : Mem} {s s' : Value} (h : Src (H ++ r) s s') : Src H s s' := fun c hc => (h c hc).imp id (fun q => by simp at q; omega)
theorem Fr2.kp {H M H' : Mem} {k : Nat} {s : Value} (hk : Keep H M) (h : Fr2 M k s H') : Fr2 H k s H' := ⟨Nat.le_trans hk.1 h.1, fun i hi hn hb => (h.2 i (Nat.lt_of_lt_of_le hi hk.1) hn hb).trans (hk.2 i hi)⟩
theorem Src.kp {H M : Mem} {s s' : Value} (hk : Keep H M) (h : Src M s s') : Src H s s' := fun c hc => (h c hc).imp id (fun q => Nat.le_trans hk.1 q)
theorem BoxAt.app {H : Mem} {k : Nat} {s : Value} {bs : List By} {e : Int} (h : BoxAt H k s bs e) (r : Mem) : BoxAt (H ++ r) k s bs e :=
  ⟨by rw [List.getElem?_append_left (List.getElem?_eq_some_iff.1 h.cell).1]; exact h.cell, h.row.apps r, h.own.app r, h.ne⟩
theorem BoxAt.keep {H H' : Mem} {k : Nat} {s : Value} {bs : List By} {e : Int} (h : BoxAt H k s bs e) (hk : Keep H H') : BoxAt H' k s bs e :=
  ⟨(hk.2 _ (List.getElem?_eq_some_iff.1 h.cell).1).trans h.cell, h.row.keep hk, h.own.keep hk, h.ne⟩
theorem BoxAt.lt {H : Mem} {k : Nat} {s : Value} {bs : List By} {e : Int} (h : BoxAt H k s bs e) : k < H.length := (List.getElem?_eq_some_iff.1 h.cell).1
theorem BoxAt.lts {H : Mem} {k : Nat} {s : Value} {bs : List By} {e : Int} (h : BoxAt H k s bs e) {c : Nat} (hc : blkOf s = some c) : c < H.length := h.row.lt hc
theorem BoxAt.put {H M : Mem} {k : Nat} {s s2 : Value} {bs bs2 : List By} {e : Int} (h : BoxAt H k s bs e) (hR : RowAt M s2 bs2) (hW : Own M s2) (hf : Fr H s M) (hN : New H.length s2) :
    M[k]? = some (.cells false [s, .int .i64 e]) ∧ BoxAt (M.set k (.cells false [s2, .int .i64 e])) k s2 bs2 e ∧ Fr2 H k s (M.set k (.cells false [s2, .int .i64 e])) ∧ Src H s s2 := by
  have hk := h.lt
  have hc := (hf.2 k hk h.ne).trans h.cell
  have hne : blkOf s2 ≠ some k := hN.ne hk
  refine ⟨hc, ⟨List.getElem?_set_self (List.getElem?_eq_some_iff.1 hc).1, hR.set hne _, hW.set hne _, hne⟩, ⟨by simpa using hf.1, fun i hi hk' hb => (List.getElem?_set_ne (Ne.symm hk')).trans (hf.2 i hi hb)⟩, fun c hc => .inr (hN c hc)⟩
def ptr (k : Nat) : Value := .pointer (some ⟨k, 0, none⟩)
def wds (l : List Int) : List Wd := l.map Wd.mk
@[simp] theorem wds_len (l : List Int) : (wds l).length = l.length := by simp [wds]
theorem rowV_wds : ∀ l : List Int, rowV (wds l) = l.map (fun n => Value.int .i64 n)
  | [] => rfl
  | n :: l => by rw [wds, List.map_cons, rowV_cons]; show _ ++ rowV (wds l) = _; rw [rowV_wds l]; rfl
theorem wds_row {H : Mem} (l : List Int) {vs : List Value} (hv : vs = l.map (fun n => Value.int .i64 n)) : RowAt (H ++ [.cells false vs]) (.slice (some ⟨H.length, 0, none⟩) l.length 1) (wds l) := by
  have := RowAt.all (H := H ++ [.cells false vs]) (b := H.length) (l := wds l) (ro := false) (by rw [rowV_wds, ← hv]; simp)
  rw [show (wds l).length = l.length by simp [wds]] at this
  exact this
theorem RowAt.fr2 {α : Type} [Cel α] {H H' : Mem} {k : Nat} {s w : Value} {l : List α} (h : RowAt H w l) (hf : Fr2 H k s H') (h1 : blkOf w ≠ some k) (h2 : ∀ c, blkOf w = some c → blkOf s ≠ some c) : RowAt H' w l :=
  h.of fun b hb hl => hf.2 b hl (fun e => h1 (e ▸ hb)) (h2 b hb)
theorem numsB_take {l : List Int} {i : Nat} (h : i < l.length) : numsB (l.take (i + 1)) = numsB (l.take i) ++ numB l[i] := by
  rw [List.take_succ_eq_append_getElem h, numsB_app]; simp [numsB]
theorem zz_form (n : Int) : IntKind.u64.wrap (((IntKind.u64.wrap (IntKind.u64.wrap n * 2 ^ min 1 IntKind.u64.bits) % 2 ^ IntKind.u64.bits).toNat ^^^ (IntKind.u64.wrap (n.fdiv (2 ^ min 63 IntKind.i64.bits)) % 2 ^ IntKind.u64.bits).toNat : Nat) : Int) = zzI n := by
  unfold zzI
  rw [BitVec.toNat_xor, BitVec.toNat_ofInt, BitVec.toNat_ofInt]
  rfl
theorem or_form (u : Nat) : IntKind.u8.wrap (((IntKind.u8.wrap ((u : Int).tmod 64) % 2 ^ IntKind.u8.bits).toNat ||| 64 % 2 ^ IntKind.u8.bits : Nat) : Int) = (u : Int) % 64 + 64 := by
  have h := or64 ((u : Int) % 64) (by omega) (by omega)
  rw [Int.tmod_eq_emod_of_nonneg (by omega), wrap_b8 ((u : Int) % 64) (by omega) (by omega), ← h, BitVec.toNat_or, BitVec.toNat_ofInt, BitVec.toNat_ofInt]
  rfl
theorem idx_wd {M : Mem} {w : Value} {ns : List Int} {i : Int} (hw : RowAt M w (wds ns)) (h0 : 0 ≤ i) (h1 : i.toNat < ns.length) : ∃ b o ro vs, absIndexAddr Tryd.prog M 103 w (.int .i64 i) = some (.pointer (some ⟨b, o + i.toNat, none⟩)) ∧ M[b]? = some (.cells ro vs) ∧ o + i.toNat + 1 ≤ vs.length ∧ List.take 1 (List.drop (o + i.toNat) vs) = [.int .i64 ns[i.toNat]] := by
  obtain ⟨b, o, ro, vs, rfl, hb, hle, hge⟩ := hw.blk (i := i.toNat) (by simpa using h1)
  have hk : Cel.k Wd = 1 := rfl
  refine ⟨b, o, ro, vs, ?_, hb, by rw [hk] at hle; omega, ?_⟩
  · have hl : i < (ns.length : Int) := by omega
    simp [absIndexAddr, Tryd.underlying103, h0, hl]
  · rw [show (wds ns)[i.toNat]'(by simpa using h1) = ⟨ns[i.toNat]⟩ by simp [wds], hk, Nat.mul_one] at hge
    exact hge
end Go.Den
set_option linter.unusedVariables false
set_option maxRecDepth 100000
namespace Go.Den
open Go Go.Proofs
theorem Keep.cell {M M2 : Mem} (hk : Keep M M2) {n : Nat} {k : Blk} (h : M[n]? = some k) : M2[n]? = some k := (hk.2 n (List.getElem?_eq_some_iff.1 h).1).trans h
theorem Keep.keep {H M M2 : Mem} (h : Keep H M) (hk : Keep M M2) : Keep H M2 := h.trans hk
def setS : Nat → List Value → List (Nat × Value) → List Value
  | k, x :: xs, (m, v) :: ps => if k = m then v :: setS (k + 1) xs ps else x :: setS (k + 1) xs ((m, v) :: ps)
  | _, xs, [] => xs
  | _, [], _ => []
def up : Nat → List Nat → Bool
  | _, [] => true
  | k, m :: ms => decide (k ≤ m) && up (m + 1) ms
theorem setS_nil (k : Nat) (xs : List Value) : setS k xs [] = xs := by cases xs <;> rfl
theorem setS_get : ∀ (xs : List Value) (k : Nat) (m : Nat) (v : Value) (ps : List (Nat × Value)), k ≤ m → (∀ q ∈ ps, m < q.1) → setS k xs ((m, v) :: ps) = setS k (xs.set (m - k) v) ps
  | [], k, m, v, ps, _, _ => by cases ps <;> simp [setS]
  | x :: xs, k, m, v, ps, h, hp => by
    by_cases e : k = m
    · subst e
      simp only [setS, if_true, Nat.sub_self, List.set_cons_zero]
      cases ps with
      | nil => simp [setS_nil]
      | cons q ps =>
        have := hp q (by simp)
        simp only [setS]
        rw [if_neg (by omega)]
    · simp only [setS, if_neg e]
      rw [show m - k = (m - (k + 1)) + 1 by omega, List.set_cons_succ, setS_get xs (k + 1) m v ps (by omega) hp]
      cases ps with
      | nil => simp [setS_nil]
      | cons q ps =>
        have := hp q (by simp)
        simp only [setS]
        rw [if_neg (by omega)]
theorem up_lt : ∀ (ms : List Nat) (k : Nat), up k ms = true → ∀ m ∈ ms, k ≤ m
  | [], _, _, _, h => by cases h
  | a :: ms, k, h, m, hm => by
    simp only [up, Bool.and_eq_true, decide_eq_true_eq] at h
    rcases List.mem_cons.1 hm with rfl | q
    · exact h.1
    · have := up_lt ms (a + 1) h.2 m q; omega
theorem setL_S' : ∀ (ms : List Nat) (vs : List Value) (b : Act), up 0 ms = true → setL b ms vs = ⟨(setS 0 b.tmps.toList (ms.zip vs)).toArray, b.defers⟩
  | [], vs, b, _ => by simp [setL, setS_nil]
  | m :: ms, [], b, _ => by simp [setL, setS_nil]
  | m :: ms, v :: vs, b, h => by
    simp only [up, Bool.and_eq_true, decide_eq_true_eq] at h
    have h0 : up 0 ms = true := by
      cases ms with
      | nil => rfl
      | cons a ms =>
        have h2 := h.2
        simp only [up, Bool.and_eq_true, decide_eq_true_eq] at h2 ⊢
        exact ⟨Nat.zero_le _, h2.2⟩
    rw [setL, setL_S' ms vs _ h0, List.zip_cons_cons, setS_get _ 0 m v _ (Nat.zero_le _) (fun q hq => up_lt ms (m + 1) h.2 q.1 (List.of_mem_zip hq).1)]
    simp
theorem setL_S {ms : List Nat} (h : up 0 ms = true) (vs : List Value) (b : Act) : setL b ms vs = ⟨(setS 0 b.tmps.toList (ms.zip vs)).toArray, b.defers⟩ := setL_S' ms vs b h
theorem getL_map (b : Act) : ∀ ks : List Nat, getL b ks = ks.map fun k => b.tmps.getD k undef
  | [] => rfl
  | k :: ks => by rw [getL, getL_map b ks]; rfl
theorem DK.loopF {P : Program} {G : List Nat} {R : Exit → Act → Mem → Prop} {b : Act} {H : Mem} {c : Code} (ms ks : List Nat) (J : Nat → List Value → Mem → Prop) (n : Nat) (hb : b = setL b ms (getL b ms)) (h : J n (getL b ks) H)
    (round : ∀ n (f : Nat → Value) H', J n (ks.map f) H' → DK P G c (thenD (fun b' H'' => b' = setL b ms (getL b' ms) ∧ ∃ m, m < n ∧ J m (getL b' ks) H'') R) (setL b ms (ms.map f)) H') : DK P G (.loop c) R b H := by
  refine DK.loopG ms (fun n vs H' => ∃ f : Nat → Value, vs = ms.map f ∧ J n (ks.map f) H') n hb ⟨_, getL_map b ms, by rw [← getL_map]; exact h⟩ ?_
  rintro n _ H' ⟨f, rfl, hJ⟩
  have k := round n f H' hJ
  refine ⟨fun φ a w hS hT Q' hQ => k.out φ a w hS hT Q' fun e b' H'' φ' a' w' q1 q2 q3 q4 => hQ e b' H'' φ' a' w' ?_ q2 q3 q4⟩
  cases e with
  | normal => obtain ⟨q, m, hm, hj⟩ := q1; exact ⟨q, m, hm, _, getL_map b' ms, by rw [← getL_map]; exact hj⟩
  | _ => exact q1
theorem DK.loopFM {P : Program} {G : List Nat} {R : Exit → Act → Mem → Prop} {b : Act} {H : Mem} {c : Code} (ms ks : List Nat) (J : Nat → List Value → Prop) (n : Nat) (hb : b = setL b ms (getL b ms)) (h : J n (getL b ks))
    (round : ∀ n (f : Nat → Value), J n (ks.map f) → DK P G c (thenD (fun b' H'' => b' = setL b ms (getL b' ms) ∧ H'' = H ∧ ∃ m, m < n ∧ J m (getL b' ks)) R) (setL b ms (ms.map f)) H) : DK P G (.loop c) R b H := by
  refine DK.loopF ms ks (fun n vs H' => H' = H ∧ J n vs) n hb ⟨rfl, h⟩ ?_
  rintro n f _ ⟨rfl, hJ⟩
  have k := round n f hJ
  refine ⟨fun φ a w hS hT Q' hQ => k.out φ a w hS hT Q' fun e b' H'' φ' a' w' q1 q2 q3 q4 => hQ e b' H'' φ' a' w' ?_ q2 q3 q4⟩
  cases e with
  | normal => obtain ⟨q, hH, m, hm, hj⟩ := q1; exact ⟨q, m, hm, hH, hj⟩
  | _ => exact q1
theorem DK.meetF {P : Program} {G : List Nat} {R : Exit → Act → Mem → Prop} {b : Act} {H : Mem} {x y : Code} (ms ks : List Nat) (J : List Value → Prop)
    (hx : DK P G x (thenD (fun b' H'' => b' = setL b ms (getL b' ms) ∧ H'' = H ∧ J (getL b' ks)) R) b H) (hy : ∀ f : Nat → Value, J (ks.map f) → DK P G y R (setL b ms (ms.map f)) H) : DK P G (.seq x y) R b H := by
  refine DK.seq ⟨fun φ a w hS hT Q' hQ => hx.out φ a w hS hT Q' fun e b' H'' φ' a' w' q1 q2 q3 q4 => hQ e b' H'' φ' a' w' ?_ q2 q3 q4⟩
  cases e with
  | normal =>
    obtain ⟨e1, rfl, hj⟩ := q1
    show DK P G y R b' H''
    rw [e1, getL_map b' ms]; exact hy _ (by rw [← getL_map]; exact hj)
  | _ => exact q1
theorem mem_app (M : Mem) (x : Blk) : (M ++ [x])[M.length]? = some x := by simp
end Go.Den
namespace Go.Den
open Go Go.Proofs
set_option maxRecDepth 100000
set_option maxHeartbeats 1000000
set_option linter.all false
attribute [local simp] evOps evOp absOp absBox absAlloc absLoad absStore absField absIndexAddr absCells absBinOp absBin absInt absShift absUn absPick absNil absExtract absBuild absPlaces Instr.fill absBuiltin absMinMax plainV plainT allA flat cells_agg cells_int cells_bool cells_str cells_ptr cells_sl cells_map one_int one_bool one_str one_ptr one_sl one_map Act.eval Act.put Region.wanted yielded splice absCall TypeDesc.isRow
theorem subs_s (k : Int) (H : Mem) : FSem Tryd.prog [0] 26 #[.int .u8 k] H fun v H' => v = .bool (subsK k) ∧ H' = H := by
  refine FSem.plainT ?_
  refine FSem.ofK Tryd.func26 rfl ?_
  refine DK.from (b' := ⟨#[.int .u8 k, undef, undef, undef, undef, undef, undef, undef, undef], []⟩) (by kernel_rfl) ?_
  refine DK.seq ?_
  refine DK.region (is := [0]) (by kernel_rfl) rfl ?_
  refine WK.run [0] (by simp; constructor <;> rfl) ?_
  refine WK.nil ?_
  refine DK.seq ?_
  refine DK.region (is := [0, 1, 2, 3, 4, 5, 6]) (by kernel_rfl) rfl ?_
  refine WK.run [0, 1, 2] (by simp; constructor <;> rfl) ?_
  refine WK.split (t := 5) rfl (fun h => ?_) (fun h => ?_)
  · try simp only [h]
    replace h := Tr.out h
    refine WK.run [3, 4, 5, 6] (by simp; constructor <;> rfl) ?_
    refine WK.nil ?_
    refine DK.ret ?_
    refine And.intro (Or.inr rfl) ?_
    refine ⟨_, by simp [absAnswer, absResults, absResult, Tryd.f26]; rfl, ?_⟩
    refine ⟨by first | exact ⟨[], (List.append_nil _).symm⟩ | exact ⟨_, rfl⟩, by simp, ?_⟩
    simp_all [subsK] <;> omega
  try simp only [h]
  replace h := Fa.out h
  refine WK.run [3, 4, 5, 6] (by simp; constructor <;> rfl) ?_
  refine WK.nil ?_
  refine DK.ret ?_
  refine And.intro (Or.inr rfl) ?_
  refine ⟨_, by simp [absAnswer, absResults, absResult, Tryd.f26]; rfl, ?_⟩
  refine ⟨by first | exact ⟨[], (List.append_nil _).symm⟩ | exact ⟨_, rfl⟩, by simp, ?_⟩
  simp_all [subsK] <;> omega
theorem plans_s (k : Int) (H : Mem) : FSem Tryd.prog [0] 27 #[.int .u8 k] H fun v H' => v = .bool (plansK k) ∧ H' = H := by
  refine FSem.plainT ?_
  refine FSem.ofK Tryd.func27 rfl ?_
  refine DK.from (b' := ⟨#[.int .u8 k, undef, undef, undef, undef, undef, undef, undef, undef], []⟩) (by kernel_rfl) ?_
  refine DK.seq ?_
  refine DK.region (is := [0]) (by kernel_rfl) rfl ?_
  refine WK.run [0] (by simp; constructor <;> rfl) ?_
  refine WK.nil ?_
  refine DK.seq ?_
  refine DK.region (is := [0, 1, 2, 3, 4, 5, 6]) (by kernel_rfl) rfl ?_
  refine WK.run [0, 1, 2] (by simp; constructor <;> rfl) ?_
  refine WK.split (t := 5) rfl (fun h => ?_) (fun h => ?_)
  · try simp only [h]
    replace h := Tr.out h
    refine WK.run [3, 4, 5, 6] (by simp; constructor <;> rfl) ?_
    refine WK.nil ?_
    refine DK.ret ?_
    refine And.intro (Or.inr rfl) ?_
    refine ⟨_, by simp [absAnswer, absResults, absResult, Tryd.f27]; rfl, ?_⟩
    refine ⟨by first | exact ⟨[], (List.append_nil _).symm⟩ | exact ⟨_, rfl⟩, by simp, ?_⟩
    simp_all [plansK] <;> rfl
  try simp only [h]
  replace h := Fa.out h
  refine WK.run [3, 4, 5, 6] (by simp; constructor <;> rfl) ?_
  refine WK.nil ?_
  refine DK.ret ?_
  refine And.intro (Or.inr rfl) ?_
  refine ⟨_, by simp [absAnswer, absResults, absResult, Tryd.f27]; rfl, ?_⟩
  refine ⟨by first | exact ⟨[], (List.append_nil _).symm⟩ | exact ⟨_, rfl⟩, by simp, ?_⟩
  simp_all [plansK] <;> rfl
theorem key_s (n : Nt) (H : Mem) : FSem Tryd.prog [0] 54 #[n.v] H fun v H' => v = .bool (keyB n) ∧ H' = H := by
  refine FSem.plainT ?_
  refine FSem.ofK Tryd.func54 rfl ?_
  refine DK.from (b' := ⟨#[n.v, undef, undef, undef, undef, undef, undef, undef, undef, undef, undef, undef, undef, undef, undef, undef, undef, undef, undef, undef, undef, undef, undef, undef, undef, undef, undef, undef, undef, undef, undef, undef, undef, undef, undef, undef, undef, undef, undef, undef, undef], []⟩) (by kernel_rfl) ?_
  refine DK.seq ?_
  refine DK.region (is := [0, 1]) (by kernel_rfl) rfl ?_
  refine WK.run [0, 1] (by simp; constructor <;> rfl) ?_
  refine WK.nil ?_
  refine DK.seq ?_
  refine DK.region (is := [0, 1, 2, 3, 4, 5, 6, 7, 8, 9, 10, 11, 12, 13, 14, 15, 16, 17, 18, 19, 20, 21, 22, 23, 24, 25, 26, 27, 28, 29, 30, 31, 32, 33, 34, 35, 36, 37, 38]) (by kernel_rfl) rfl ?_
  refine WK.run [0, 1, 2, 3] (by simp; constructor <;> rfl) ?_
  refine WK.split (t := 6) rfl (fun h => ?_) (fun h => ?_)
  · try simp only [h]
    replace h := Tr.out h
    refine WK.run [4, 5, 6, 7, 8] (by simp; constructor <;> rfl) ?_
    refine WK.split (t := 11) rfl (fun h => ?_) (fun h => ?_)
    · try simp only [h]
      replace h := Tr.out h
      refine WK.run [9, 10, 11, 12, 13] (by simp; constructor <;> rfl) ?_
      refine WK.split (t := 16) rfl (fun h => ?_) (fun h => ?_)
      · try simp only [h]
        replace h := Tr.out h
        refine WK.run [14, 15, 16, 17, 18] (by simp; constructor <;> rfl) ?_
        refine WK.split (t := 21) rfl (fun h => ?_) (fun h => ?_)
        · try simp only [h]
          replace h := Tr.out h
          refine WK.run [19, 20, 21, 22, 23] (by simp; constructor <;> rfl) ?_
          refine WK.split (t := 26) rfl (fun h => ?_) (fun h => ?_)
          · try simp only [h]
            replace h := Tr.out h
            refine WK.run [24, 25, 26, 27, 28] (by simp; constructor <;> rfl) ?_
            refine WK.split (t := 31) rfl (fun h => ?_) (fun h => ?_)
            · try simp only [h]
              replace h := Tr.out h
              refine WK.run [29, 30, 31, 32, 33] (by simp; constructor <;> rfl) ?_
              refine WK.split (t := 36) rfl (fun h => ?_) (fun h => ?_)
              · try simp only [h]
                replace h := Tr.out h
                refine WK.run [34, 35, 36, 37, 38] (by simp; constructor <;> rfl) ?_
                refine WK.nil ?_
                refine DK.ret ?_
                refine And.intro (Or.inr rfl) ?_
                refine ⟨_, by simp [absAnswer, absResults, absResult, Tryd.f54]; rfl, ?_⟩
                refine ⟨by first | exact ⟨[], (List.append_nil _).symm⟩ | exact ⟨_, rfl⟩, by simp, ?_⟩
                simp_all [keyB] <;> omega
              try simp only [h]
              replace h := Fa.out h
              refine WK.run [34, 35, 36, 37, 38] (by simp; constructor <;> rfl) ?_
              refine WK.nil ?_
              refine DK.ret ?_
              refine And.intro (Or.inr rfl) ?_
              refine ⟨_, by simp [absAnswer, absResults, absResult, Tryd.f54]; rfl, ?_⟩
              refine ⟨by first | exact ⟨[], (List.append_nil _).symm⟩ | exact ⟨_, rfl⟩, by simp, ?_⟩
              simp_all [keyB] <;> omega
            try simp only [h]
            replace h := Fa.out h
            refine WK.run [29, 30, 31, 32, 33, 34, 35, 36, 37, 38] (by simp; constructor <;> rfl) ?_
            refine WK.nil ?_
            refine DK.ret ?_
            refine And.intro (Or.inr rfl) ?_
            refine ⟨_, by simp [absAnswer, absResults, absResult, Tryd.f54]; rfl, ?_⟩
            refine ⟨by first | exact ⟨[], (List.append_nil _).symm⟩ | exact ⟨_, rfl⟩, by simp, ?_⟩
            simp_all [keyB] <;> omega
          try simp only [h]
          replace h := Fa.out h
          refine WK.run [24, 25, 26, 27, 28, 29, 30, 31, 32, 33, 34, 35, 36, 37, 38] (by simp; constructor <;> rfl) ?_
          refine WK.nil ?_
          refine DK.ret ?_
          refine And.intro (Or.inr rfl) ?_
          refine ⟨_, by simp [absAnswer, absResults, absResult, Tryd.f54]; rfl, ?_⟩
          refine ⟨by first | exact ⟨[], (List.append_nil _).symm⟩ | exact ⟨_, rfl⟩, by simp, ?_⟩
          simp_all [keyB] <;> omega
        try simp only [h]
        replace h := Fa.out h
        refine WK.run [19, 20, 21, 22, 23, 24, 25, 26, 27, 28, 29, 30, 31, 32, 33, 34, 35, 36, 37, 38] (by simp; constructor <;> rfl) ?_
        refine WK.nil ?_
        refine DK.ret ?_
        refine And.intro (Or.inr rfl) ?_
        refine ⟨_, by simp [absAnswer, absResults, absResult, Tryd.f54]; rfl, ?_⟩
        refine ⟨by first | exact ⟨[], (List.append_nil _).symm⟩ | exact ⟨_, rfl⟩, by simp, ?_⟩
        simp_all [keyB] <;> omega
      try simp only [h]
      replace h := Fa.out h
      refine WK.run [14, 15, 16, 17, 18, 19, 20, 21, 22, 23, 24, 25, 26, 27, 28, 29, 30, 31, 32, 33, 34, 35, 36, 37, 38] (by simp; constructor <;> rfl) ?_
      refine WK.nil ?_
      refine DK.ret ?_
      refine And.intro (Or.inr rfl) ?_
      refine ⟨_, by simp [absAnswer, absResults, absResult, Tryd.f54]; rfl, ?_⟩
      refine ⟨by first | exact ⟨[], (List.append_nil _).symm⟩ | exact ⟨_, rfl⟩, by simp, ?_⟩
      simp_all [keyB] <;> omega
    try simp only [h]
    replace h := Fa.out h
    refine WK.run [9, 10, 11, 12, 13, 14, 15, 16, 17, 18, 19, 20, 21, 22, 23, 24, 25, 26, 27, 28, 29, 30, 31, 32, 33, 34, 35, 36, 37, 38] (by simp; constructor <;> rfl) ?_
    refine WK.nil ?_
    refine DK.ret ?_
    refine And.intro (Or.inr rfl) ?_
    refine ⟨_, by simp [absAnswer, absResults, absResult, Tryd.f54]; rfl, ?_⟩
    refine ⟨by first | exact ⟨[], (List.append_nil _).symm⟩ | exact ⟨_, rfl⟩, by simp, ?_⟩
    simp_all [keyB] <;> omega
  try simp only [h]
  replace h := Fa.out h
  refine WK.run [4, 5, 6, 7, 8, 9, 10, 11, 12, 13, 14, 15, 16, 17, 18, 19, 20, 21, 22, 23, 24, 25, 26, 27, 28, 29, 30, 31, 32, 33, 34, 35, 36, 37, 38] (by simp; constructor <;> rfl) ?_
  refine WK.nil ?_
  refine DK.ret ?_
  refine And.intro (Or.inr rfl) ?_
  refine ⟨_, by simp [absAnswer, absResults, absResult, Tryd.f54]; rfl, ?_⟩
  refine ⟨by first | exact ⟨[], (List.append_nil _).symm⟩ | exact ⟨_, rfl⟩, by simp, ?_⟩
  simp_all [keyB] <;> omega
theorem notice_s (n : Nt) (H : Mem) : FSem Tryd.prog [0] 29 #[n.v] H fun v H' => v = .bool (noticeB n) ∧ H' = H := by
  refine FSem.plainT ?_
  refine FSem.ofK Tryd.func29 rfl ?_
  refine DK.from (b' := ⟨#[n.v, undef, undef, undef, undef, undef, undef, undef, undef, undef, undef, undef, undef, undef, undef, undef, undef, undef, undef, undef, undef, undef, undef, undef, undef], []⟩) (by kernel_rfl) ?_
  refine DK.seq ?_
  refine DK.region (is := [0, 1]) (by kernel_rfl) rfl ?_
  refine WK.run [0, 1] (by simp; constructor <;> rfl) ?_
  refine WK.nil ?_
  refine DK.seq ?_
  refine DK.region (is := [0, 1, 2, 3, 4, 5, 6, 7, 8, 9, 10, 11, 12, 13, 14, 15, 16, 17, 18, 19, 20, 21, 22]) (by kernel_rfl) rfl ?_
  refine WK.run [0, 1, 2, 3] (by simp; constructor <;> rfl) ?_
  refine WK.split (t := 6) rfl (fun h => ?_) (fun h => ?_)
  · try simp only [h]
    replace h := Tr.out h
    refine WK.run [4, 5, 6, 7, 8] (by simp; constructor <;> rfl) ?_
    refine WK.split (t := 11) rfl (fun h => ?_) (fun h => ?_)
    · try simp only [h]
      replace h := Tr.out h
      refine WK.run [9, 10, 11, 12, 13] (by simp; constructor <;> rfl) ?_
      refine WK.split (t := 16) rfl (fun h => ?_) (fun h => ?_)
      · try simp only [h]
        replace h := Tr.out h
        refine WK.run [14, 15, 16, 17, 18] (by simp; constructor <;> rfl) ?_
        refine WK.split (t := 21) rfl (fun h => ?_) (fun h => ?_)
        · try simp only [h]
          replace h := Tr.out h
          refine WK.run [19] (by simp; constructor <;> rfl) ?_
          refine WK.call rfl (by simp) (by simp [Tryd.func54, Tryd.f54]; constructor <;> rfl) ?_
          refine FSem.mono (key_s ⟨_, _, _, _, _, _⟩ _) ?_
          rintro _ _ ⟨rfl, rfl⟩
          refine WK.run [21, 22] (by simp; constructor <;> rfl) ?_
          refine WK.nil ?_
          refine DK.ret ?_
          refine And.intro (Or.inr rfl) ?_
          refine ⟨_, by simp [absAnswer, absResults, absResult, Tryd.f29]; rfl, ?_⟩
          refine ⟨by first | exact ⟨[], (List.append_nil _).symm⟩ | exact ⟨_, rfl⟩, by simp, ?_⟩
          simp_all [noticeB] <;> omega
        try simp only [h]
        replace h := Fa.out h
        refine WK.run [19, 20, 21, 22] (by simp; constructor <;> rfl) ?_
        refine WK.nil ?_
        refine DK.ret ?_
        refine And.intro (Or.inr rfl) ?_
        refine ⟨_, by simp [absAnswer, absResults, absResult, Tryd.f29]; rfl, ?_⟩
        refine ⟨by first | exact ⟨[], (List.append_nil _).symm⟩ | exact ⟨_, rfl⟩, by simp, ?_⟩
        simp_all [noticeB] <;> omega
      try simp only [h]
      replace h := Fa.out h
      refine WK.run [14, 15, 16, 17, 18, 19, 20, 21, 22] (by simp; constructor <;> rfl) ?_
      refine WK.nil ?_
      refine DK.ret ?_
      refine And.intro (Or.inr rfl) ?_
      refine ⟨_, by simp [absAnswer, absResults, absResult, Tryd.f29]; rfl, ?_⟩
      refine ⟨by first | exact ⟨[], (List.append_nil _).symm⟩ | exact ⟨_, rfl⟩, by simp, ?_⟩
      simp_all [noticeB] <;> omega
    try simp only [h]
    replace h := Fa.out h
    refine WK.run [9, 10, 11, 12, 13, 14, 15, 16, 17, 18, 19, 20, 21, 22] (by simp; constructor <;> rfl) ?_
    refine WK.nil ?_
    refine DK.ret ?_
    refine And.intro (Or.inr rfl) ?_
    refine ⟨_, by simp [absAnswer, absResults, absResult, Tryd.f29]; rfl, ?_⟩
    refine ⟨by first | exact ⟨[], (List.append_nil _).symm⟩ | exact ⟨_, rfl⟩, by simp, ?_⟩
    simp_all [noticeB] <;> omega
  try simp only [h]
  replace h := Fa.out h
  refine WK.run [4, 5, 6, 7, 8, 9, 10, 11, 12, 13, 14, 15, 16, 17, 18, 19, 20, 21, 22] (by simp; constructor <;> rfl) ?_
  refine WK.nil ?_
  refine DK.ret ?_
  refine And.intro (Or.inr rfl) ?_
  refine ⟨_, by simp [absAnswer, absResults, absResult, Tryd.f29]; rfl, ?_⟩
  refine ⟨by first | exact ⟨[], (List.append_nil _).symm⟩ | exact ⟨_, rfl⟩, by simp, ?_⟩
  simp_all [noticeB] <;> omega
theorem pright_s (p : Pl) (H : Mem) : FSem Tryd.prog [0] 28 #[p.v] H fun v H' => v = .int .i64 (rightPl p) ∧ H' = H := by
  refine FSem.plainT ?_
  refine FSem.ofK Tryd.func28 rfl ?_
  refine DK.from (b' := ⟨#[p.v, undef, undef, undef, undef, undef, undef, undef, undef, undef, undef, undef, undef, undef, undef, undef, undef, undef, undef, undef, undef, undef, undef, undef, undef, undef, undef, undef, undef], []⟩) (by kernel_rfl) ?_
  refine DK.seq ?_
  refine DK.region (is := [0, 1]) (by kernel_rfl) rfl ?_
  refine WK.run [0, 1] (by simp; constructor <;> rfl) ?_
  refine WK.nil ?_
  refine DK.seq ?_
  refine DK.block ?_
  refine DK.seq ?_
  refine DK.region (is := [0, 1, 2, 3, 4, 5, 6, 7, 8, 9, 10, 11, 12, 13, 14, 15, 16]) (by kernel_rfl) rfl ?_
  refine WK.run [0, 1, 2, 3] (by simp; constructor <;> rfl) ?_
  refine WK.call rfl (by simp) (by simp [Tryd.func53, Tryd.f53]; constructor <;> rfl) ?_
  refine FSem.mono (sright_s _ _ _) ?_
  rintro _ _ ⟨rfl, rfl⟩
  refine WK.run [5, 6] (by simp; constructor <;> rfl) ?_
  refine WK.split (t := 10) rfl (fun h => ?_) (fun h => ?_)
  · try simp only [h]
    replace h := Tr.out h
    refine WK.run [7, 8, 9, 10, 11, 12, 13, 14, 15, 16] (by simp; constructor <;> rfl) ?_
    refine WK.nil ?_
    refine DK.yes rfl rfl ?_
    refine DK.seq ?_
    refine DK.region (is := [0]) (by kernel_rfl) rfl ?_
    refine WK.run [0] (by simp; constructor <;> rfl) ?_
    refine WK.nil ?_
    refine DK.ret ?_
    refine And.intro (Or.inr rfl) ?_
    refine ⟨_, by simp [absAnswer, absResults, absResult, Tryd.f28]; rfl, ?_⟩
    refine ⟨by first | exact ⟨[], (List.append_nil _).symm⟩ | exact ⟨_, rfl⟩, by simp, ?_⟩
    simp_all [rightPl] <;> (try split) <;> first | rfl | omega | (simp_all <;> omega)
  try simp only [h]
  replace h := Fa.out h
  refine WK.run [7, 8, 9, 10, 11] (by simp; constructor <;> rfl) ?_
  refine WK.split (t := 15) rfl (fun h => ?_) (fun h => ?_)
  · try simp only [h]
    replace h := Tr.out h
    refine WK.run [12, 13, 14, 15, 16] (by simp; constructor <;> rfl) ?_
    refine WK.nil ?_
    refine DK.yes rfl rfl ?_
    refine DK.seq ?_
    refine DK.region (is := [0]) (by kernel_rfl) rfl ?_
    refine WK.run [0] (by simp; constructor <;> rfl) ?_
    refine WK.nil ?_
    refine DK.ret ?_
    refine And.intro (Or.inr rfl) ?_
    refine ⟨_, by simp [absAnswer, absResults, absResult, Tryd.f28]; rfl, ?_⟩
    refine ⟨by first | exact ⟨[], (List.append_nil _).symm⟩ | exact ⟨_, rfl⟩, by simp, ?_⟩
    simp_all [rightPl] <;> (try split) <;> first | rfl | omega | (simp_all <;> omega)
  try simp only [h]
  replace h := Fa.out h
  refine WK.run [12, 13, 14, 15, 16] (by simp; constructor <;> rfl) ?_
  refine WK.nil ?_
  refine DK.test rfl rfl (fun h => ?_) (fun h => ?_)
  · try simp only [h]
    replace h := Tr.out h
    refine DK.seq ?_
    refine DK.region (is := [0]) (by kernel_rfl) rfl ?_
    refine WK.run [0] (by simp; constructor <;> rfl) ?_
    refine WK.nil ?_
    refine DK.ret ?_
    refine And.intro (Or.inr rfl) ?_
    refine ⟨_, by simp [absAnswer, absResults, absResult, Tryd.f28]; rfl, ?_⟩
    refine ⟨by first | exact ⟨[], (List.append_nil _).symm⟩ | exact ⟨_, rfl⟩, by simp, ?_⟩
    simp_all [rightPl] <;> (try split) <;> first | rfl | omega | (simp_all <;> omega)
  try simp only [h]
  replace h := Fa.out h
  refine DK.seq ?_
  refine DK.region (is := [0, 1, 2, 3, 4, 5, 6, 7, 8]) (by kernel_rfl) rfl ?_
  refine WK.run [0, 1, 2, 3] (by simp; constructor <;> rfl) ?_
  refine WK.split (t := 24) rfl (fun h => ?_) (fun h => ?_)
  · try simp only [h]
    replace h := Tr.out h
    refine WK.run [4, 5, 6, 7, 8] (by simp; constructor <;> rfl) ?_
    refine WK.nil ?_
    refine DK.yes rfl rfl ?_
    refine DK.seq ?_
    refine DK.region (is := [0]) (by kernel_rfl) rfl ?_
    refine WK.run [0] (by simp; constructor <;> rfl) ?_
    refine WK.nil ?_
    refine DK.ret ?_
    refine And.intro (Or.inr rfl) ?_
    refine ⟨_, by simp [absAnswer, absResults, absResult, Tryd.f28]; rfl, ?_⟩
    refine ⟨by first | exact ⟨[], (List.append_nil _).symm⟩ | exact ⟨_, rfl⟩, by simp, ?_⟩
    simp_all [rightPl] <;> (try split) <;> first | rfl | omega | (simp_all <;> omega)
  try simp only [h]
  replace h := Fa.out h
  refine WK.run [4, 5, 6, 7, 8] (by simp; constructor <;> rfl) ?_
  refine WK.nil ?_
  refine DK.test rfl rfl (fun h => ?_) (fun h => ?_)
  · try simp only [h]
    replace h := Tr.out h
    refine DK.seq ?_
    refine DK.region (is := [0]) (by kernel_rfl) rfl ?_
    refine WK.run [0] (by simp; constructor <;> rfl) ?_
    refine WK.nil ?_
    refine DK.ret ?_
    refine And.intro (Or.inr rfl) ?_
    refine ⟨_, by simp [absAnswer, absResults, absResult, Tryd.f28]; rfl, ?_⟩
    refine ⟨by first | exact ⟨[], (List.append_nil _).symm⟩ | exact ⟨_, rfl⟩, by simp, ?_⟩
    simp_all [rightPl] <;> (try split) <;> first | rfl | omega | (simp_all <;> omega)
  try simp only [h]
  replace h := Fa.out h
  refine DK.skip ?_
  refine DK.seq ?_
  refine DK.region (is := [0]) (by kernel_rfl) rfl ?_
  refine WK.run [0] (by simp; constructor <;> rfl) ?_
  refine WK.nil ?_
  refine DK.ret ?_
  refine And.intro (Or.inr rfl) ?_
  refine ⟨_, by simp [absAnswer, absResults, absResult, Tryd.f28]; rfl, ?_⟩
  refine ⟨by first | exact ⟨[], (List.append_nil _).symm⟩ | exact ⟨_, rfl⟩, by simp, ?_⟩
  simp_all [rightPl] <;> (try split) <;> first | rfl | omega | (simp_all <;> omega)
theorem oright_s (o : Od) (H : Mem) : FSem Tryd.prog [0] 15 #[o.v] H fun v H' => v = .int .i64 (rightO o) ∧ H' = H := by
  refine FSem.plainT ?_
  refine FSem.ofK Tryd.func15 rfl ?_
  refine DK.from (b' := ⟨#[o.v, undef, undef, undef, undef, undef, undef, undef, undef, undef, undef, undef, undef, undef, undef, undef, undef, undef, undef, undef, undef, undef, undef, undef, undef, undef, undef, undef, undef, undef, undef, undef, undef, undef, undef, undef, undef, undef, undef, undef, undef, undef, undef, undef, undef, undef, undef, undef, undef, undef, undef, undef, undef, undef, undef, undef, undef, undef, undef, undef, undef, undef, undef, undef, undef, undef, undef, undef, undef, undef, undef, undef, undef, undef, undef, undef, undef, undef, undef, undef, undef, undef, undef, undef, undef, undef, undef, undef, undef, undef, undef, undef], []⟩) (by kernel_rfl) ?_
  refine DK.seq ?_
  refine DK.region (is := [0, 1]) (by kernel_rfl) rfl ?_
  refine WK.run [0, 1] (by simp; constructor <;> rfl) ?_
  refine WK.nil ?_
  refine DK.seq ?_
  refine DK.region (is := [0, 1, 2, 3, 4]) (by kernel_rfl) rfl ?_
  refine WK.run [0, 1, 2, 3, 4] (by simp; constructor <;> rfl) ?_
  refine WK.nil ?_
  refine DK.seq ?_
  refine DK.block ?_
  refine DK.seq ?_
  refine DK.region (is := [0, 1, 2, 3]) (by kernel_rfl) rfl ?_
  refine WK.run [0, 1] (by simp; constructor <;> rfl) ?_
  refine WK.call rfl (by simp) (by simp [Tryd.func26, Tryd.f26]; constructor <;> rfl) ?_
  refine FSem.mono (subs_s _ _) ?_
  rintro _ _ ⟨rfl, rfl⟩
  refine WK.run [3] (by simp; constructor <;> rfl) ?_
  refine WK.nil ?_
  refine DK.test rfl rfl (fun h => ?_) (fun h => ?_)
  · try simp only [h]
    replace h := Tr.out h
    refine DK.seq ?_
    refine DK.region (is := [0, 1, 2, 3]) (by kernel_rfl) rfl ?_
    refine WK.run [0, 1, 2, 3] (by simp; constructor <;> rfl) ?_
    refine WK.nil ?_
    refine DK.seq ?_
    refine DK.seq ?_
    refine DK.region (is := [0, 1, 2]) (by kernel_rfl) rfl ?_
    refine WK.run [0, 1] (by simp; constructor <;> rfl) ?_
    refine WK.call rfl (by simp) (by simp [Tryd.func27, Tryd.f27]; constructor <;> rfl) ?_
    refine FSem.mono (plans_s _ _) ?_
    rintro _ _ ⟨rfl, rfl⟩
    refine WK.nil ?_
    refine DK.test rfl rfl (fun h => ?_) (fun h => ?_)
    · try simp only [h]
      replace h := Tr.out h
      refine DK.region (is := [0, 1, 2, 3]) (by kernel_rfl) rfl ?_
      refine WK.run [0, 1, 2, 3] (by simp; constructor <;> rfl) ?_
      refine WK.nil ?_
      refine DK.seq ?_
      refine DK.seq ?_
      refine DK.region (is := [0, 1, 2, 3, 4, 5, 6, 7, 8, 9, 10, 11, 12, 13, 14, 15, 16, 17, 18, 19, 20, 21, 22]) (by kernel_rfl) rfl ?_
      refine WK.run [0, 1, 2, 3] (by simp; constructor <;> rfl) ?_
      refine WK.split (t := 23) rfl (fun h => ?_) (fun h => ?_)
      · try simp only [h]
        replace h := Tr.out h
        refine WK.run [4, 5, 6, 7, 8, 9, 10, 11, 12, 13, 14, 15, 16, 17, 18, 19, 20, 21, 22] (by simp; constructor <;> rfl) ?_
        refine WK.nil ?_
        refine DK.yes rfl rfl ?_
        refine DK.seq ?_
        refine DK.region (is := [0]) (by kernel_rfl) rfl ?_
        refine WK.run [0] (by simp; constructor <;> rfl) ?_
        refine WK.nil ?_
        refine DK.ret ?_
        refine And.intro (Or.inr rfl) ?_
        refine ⟨_, by simp [absAnswer, absResults, absResult, Tryd.f15]; rfl, ?_⟩
        refine ⟨by first | exact ⟨[], (List.append_nil _).symm⟩ | exact ⟨_, rfl⟩, by simp, ?_⟩
        obtain ⟨kd, su, pl, n, p, a⟩ := o
        simp_all [rightO, zeroP, zeroN, Pl.eta, Nt.eta] <;> (intros; simp_all)
      try simp only [h]
      replace h := Fa.out h
      refine WK.run [4, 5, 6, 7, 8] (by simp; constructor <;> rfl) ?_
      refine WK.split (t := 28) rfl (fun h => ?_) (fun h => ?_)
      · try simp only [h]
        replace h := Tr.out h
        refine WK.run [9, 10, 11, 12, 13, 14, 15, 16, 17, 18, 19, 20, 21, 22] (by simp; constructor <;> rfl) ?_
        refine WK.nil ?_
        refine DK.yes rfl rfl ?_
        refine DK.seq ?_
        refine DK.region (is := [0]) (by kernel_rfl) rfl ?_
        refine WK.run [0] (by simp; constructor <;> rfl) ?_
        refine WK.nil ?_
        refine DK.ret ?_
        refine And.intro (Or.inr rfl) ?_
        refine ⟨_, by simp [absAnswer, absResults, absResult, Tryd.f15]; rfl, ?_⟩
        refine ⟨by first | exact ⟨[], (List.append_nil _).symm⟩ | exact ⟨_, rfl⟩, by simp, ?_⟩
        obtain ⟨kd, su, pl, n, p, a⟩ := o
        simp_all [rightO, zeroP, zeroN, Pl.eta, Nt.eta] <;> (intros; simp_all)
      try simp only [h]
      replace h := Fa.out h
      refine WK.run [9, 10, 11, 12, 13] (by simp; constructor <;> rfl) ?_
      refine WK.split (t := 33) rfl (fun h => ?_) (fun h => ?_)
      · try simp only [h]
        replace h := Tr.out h
        refine WK.run [14, 15, 16, 17, 18, 19, 20, 21, 22] (by simp; constructor <;> rfl) ?_
        refine WK.nil ?_
        refine DK.yes rfl rfl ?_
        refine DK.seq ?_
        refine DK.region (is := [0]) (by kernel_rfl) rfl ?_
        refine WK.run [0] (by simp; constructor <;> rfl) ?_
        refine WK.nil ?_
        refine DK.ret ?_
        refine And.intro (Or.inr rfl) ?_
        refine ⟨_, by simp [absAnswer, absResults, absResult, Tryd.f15]; rfl, ?_⟩
        refine ⟨by first | exact ⟨[], (List.append_nil _).symm⟩ | exact ⟨_, rfl⟩, by simp, ?_⟩
        obtain ⟨kd, su, pl, n, p, a⟩ := o
        simp_all [rightO, zeroP, zeroN, Pl.eta, Nt.eta] <;> (intros; simp_all)
      try simp only [h]
      replace h := Fa.out h
      refine WK.run [14, 15, 16, 17, 18] (by simp; constructor <;> rfl) ?_
      refine WK.split (t := 38) rfl (fun h => ?_) (fun h => ?_)
      · try simp only [h]
        replace h := Tr.out h
        refine WK.run [19, 20, 21, 22] (by simp; constructor <;> rfl) ?_
        refine WK.nil ?_
        refine DK.yes rfl rfl ?_
        refine DK.seq ?_
        refine DK.region (is := [0]) (by kernel_rfl) rfl ?_
        refine WK.run [0] (by simp; constructor <;> rfl) ?_
        refine WK.nil ?_
        refine DK.ret ?_
        refine And.intro (Or.inr rfl) ?_
        refine ⟨_, by simp [absAnswer, absResults, absResult, Tryd.f15]; rfl, ?_⟩
        refine ⟨by first | exact ⟨[], (List.append_nil _).symm⟩ | exact ⟨_, rfl⟩, by simp, ?_⟩
        obtain ⟨kd, su, pl, n, p, a⟩ := o
        simp_all [rightO, zeroP, zeroN, Pl.eta, Nt.eta] <;> (intros; simp_all)
      try simp only [h]
      replace h := Fa.out h
      refine WK.run [19, 20, 21, 22] (by simp; constructor <;> rfl) ?_
      refine WK.nil ?_
      refine DK.test rfl rfl (fun h => ?_) (fun h => ?_)
      · try simp only [h]
        replace h := Tr.out h
        refine DK.seq ?_
        refine DK.region (is := [0]) (by kernel_rfl) rfl ?_
        refine WK.run [0] (by simp; constructor <;> rfl) ?_
        refine WK.nil ?_
        refine DK.ret ?_
        refine And.intro (Or.inr rfl) ?_
        refine ⟨_, by simp [absAnswer, absResults, absResult, Tryd.f15]; rfl, ?_⟩
        refine ⟨by first | exact ⟨[], (List.append_nil _).symm⟩ | exact ⟨_, rfl⟩, by simp, ?_⟩
        obtain ⟨kd, su, pl, n, p, a⟩ := o
        simp_all [rightO, zeroP, zeroN, Pl.eta, Nt.eta] <;> (intros; simp_all)
      try simp only [h]
      replace h := Fa.out h
      refine DK.skip ?_
      refine DK.seq ?_
      refine DK.region (is := [0]) (by kernel_rfl) rfl ?_
      refine WK.run [0] (by simp; constructor <;> rfl) ?_
      refine WK.nil ?_
      refine DK.ret ?_
      refine And.intro (Or.inr rfl) ?_
      refine ⟨_, by simp [absAnswer, absResults, absResult, Tryd.f15]; rfl, ?_⟩
      refine ⟨by first | exact ⟨[], (List.append_nil _).symm⟩ | exact ⟨_, rfl⟩, by simp, ?_⟩
      obtain ⟨kd, su, pl, n, p, a⟩ := o
      simp_all [rightO, zeroP, zeroN, Pl.eta, Nt.eta] <;> (intros; simp_all)
    try simp only [h]
    replace h := Fa.out h
    refine DK.skip ?_
    refine DK.seq ?_
    refine DK.seq ?_
    refine DK.region (is := [0, 1, 2, 3, 4, 5, 6, 7, 8, 9, 10, 11, 12, 13, 14, 15, 16, 17, 18, 19, 20, 21, 22]) (by kernel_rfl) rfl ?_
    refine WK.run [0, 1, 2, 3] (by simp; constructor <;> rfl) ?_
    refine WK.split (t := 23) rfl (fun h => ?_) (fun h => ?_)
    · try simp only [h]
      replace h := Tr.out h
      refine WK.run [4, 5, 6, 7, 8, 9, 10, 11, 12, 13, 14, 15, 16, 17, 18, 19, 20, 21, 22] (by simp; constructor <;> rfl) ?_
      refine WK.nil ?_
      refine DK.yes rfl rfl ?_
      refine DK.seq ?_
      refine DK.region (is := [0]) (by kernel_rfl) rfl ?_
      refine WK.run [0] (by simp; constructor <;> rfl) ?_
      refine WK.nil ?_
      refine DK.ret ?_
      refine And.intro (Or.inr rfl) ?_
      refine ⟨_, by simp [absAnswer, absResults, absResult, Tryd.f15]; rfl, ?_⟩
      refine ⟨by first | exact ⟨[], (List.append_nil _).symm⟩ | exact ⟨_, rfl⟩, by simp, ?_⟩
      obtain ⟨kd, su, pl, n, p, a⟩ := o
      simp_all [rightO, zeroP, zeroN, Pl.eta, Nt.eta] <;> (intros; simp_all)
    try simp only [h]
    replace h := Fa.out h
    refine WK.run [4, 5, 6, 7, 8] (by simp; constructor <;> rfl) ?_
    refine WK.split (t := 28) rfl (fun h => ?_) (fun h => ?_)
    · try simp only [h]
      replace h := Tr.out h
      refine WK.run [9, 10, 11, 12, 13, 14, 15, 16, 17, 18, 19, 20, 21, 22] (by simp; constructor <;> rfl) ?_
      refine WK.nil ?_
      refine DK.yes rfl rfl ?_
      refine DK.seq ?_
      refine DK.region (is := [0]) (by kernel_rfl) rfl ?_
      refine WK.run [0] (by simp; constructor <;> rfl) ?_
      refine WK.nil ?_
      refine DK.ret ?_
      refine And.intro (Or.inr rfl) ?_
      refine ⟨_, by simp [absAnswer, absResults, absResult, Tryd.f15]; rfl, ?_⟩
      refine ⟨by first | exact ⟨[], (List.append_nil _).symm⟩ | exact ⟨_, rfl⟩, by simp, ?_⟩
      obtain ⟨kd, su, pl, n, p, a⟩ := o
      simp_all [rightO, zeroP, zeroN, Pl.eta, Nt.eta] <;> (intros; simp_all)
    try simp only [h]
    replace h := Fa.out h
    refine WK.run [9, 10, 11, 12, 13] (by simp; constructor <;> rfl) ?_
    refine WK.split (t := 33) rfl (fun h => ?_) (fun h => ?_)
    · try simp only [h]
      replace h := Tr.out h
      refine WK.run [14, 15, 16, 17, 18, 19, 20, 21, 22] (by simp; constructor <;> rfl) ?_
      refine WK.nil ?_
      refine DK.yes rfl rfl ?_
      refine DK.seq ?_
      refine DK.region (is := [0]) (by kernel_rfl) rfl ?_
      refine WK.run [0] (by simp; constructor <;> rfl) ?_
      refine WK.nil ?_
      refine DK.ret ?_
      refine And.intro (Or.inr rfl) ?_
      refine ⟨_, by simp [absAnswer, absResults, absResult, Tryd.f15]; rfl, ?_⟩
      refine ⟨by first | exact ⟨[], (List.append_nil _).symm⟩ | exact ⟨_, rfl⟩, by simp, ?_⟩
      obtain ⟨kd, su, pl, n, p, a⟩ := o
      simp_all [rightO, zeroP, zeroN, Pl.eta, Nt.eta] <;> (intros; simp_all)
    try simp only [h]
    replace h := Fa.out h
    refine WK.run [14, 15, 16, 17, 18] (by simp; constructor <;> rfl) ?_
    refine WK.split (t := 38) rfl (fun h => ?_) (fun h => ?_)
    · try simp only [h]
      replace h := Tr.out h
      refine WK.run [19, 20, 21, 22] (by simp; constructor <;> rfl) ?_
      refine WK.nil ?_
      refine DK.yes rfl rfl ?_
      refine DK.seq ?_
      refine DK.region (is := [0]) (by kernel_rfl) rfl ?_
      refine WK.run [0] (by simp; constructor <;> rfl) ?_
      refine WK.nil ?_
      refine DK.ret ?_
      refine And.intro (Or.inr rfl) ?_
      refine ⟨_, by simp [absAnswer, absResults, absResult, Tryd.f15]; rfl, ?_⟩
      refine ⟨by first | exact ⟨[], (List.append_nil _).symm⟩ | exact ⟨_, rfl⟩, by simp, ?_⟩
      obtain ⟨kd, su, pl, n, p, a⟩ := o
      simp_all [rightO, zeroP, zeroN, Pl.eta, Nt.eta] <;> (intros; simp_all)
    try simp only [h]
    replace h := Fa.out h
    refine WK.run [19, 20, 21, 22] (by simp; constructor <;> rfl) ?_
    refine WK.nil ?_
    refine DK.test rfl rfl (fun h => ?_) (fun h => ?_)
    · try simp only [h]
      replace h := Tr.out h
      refine DK.seq ?_
      refine DK.region (is := [0]) (by kernel_rfl) rfl ?_
      refine WK.run [0] (by simp; constructor <;> rfl) ?_
      refine WK.nil ?_
      refine DK.ret ?_
      refine And.intro (Or.inr rfl) ?_
      refine ⟨_, by simp [absAnswer, absResults, absResult, Tryd.f15]; rfl, ?_⟩
      refine ⟨by first | exact ⟨[], (List.append_nil _).symm⟩ | exact ⟨_, rfl⟩, by simp, ?_⟩
      obtain ⟨kd, su, pl, n, p, a⟩ := o
      simp_all [rightO, zeroP, zeroN, Pl.eta, Nt.eta] <;> (intros; simp_all)
    try simp only [h]
    replace h := Fa.out h
    refine DK.skip ?_
    refine DK.seq ?_
    refine DK.region (is := [0]) (by kernel_rfl) rfl ?_
    refine WK.run [0] (by simp; constructor <;> rfl) ?_
    refine WK.nil ?_
    refine DK.ret ?_
    refine And.intro (Or.inr rfl) ?_
    refine ⟨_, by simp [absAnswer, absResults, absResult, Tryd.f15]; rfl, ?_⟩
    refine ⟨by first | exact ⟨[], (List.append_nil _).symm⟩ | exact ⟨_, rfl⟩, by simp, ?_⟩
    obtain ⟨kd, su, pl, n, p, a⟩ := o
    simp_all [rightO, zeroP, zeroN, Pl.eta, Nt.eta] <;> (intros; simp_all)
  try simp only [h]
  replace h := Fa.out h
  refine DK.seq ?_
  refine DK.region (is := [0, 1, 2, 3]) (by kernel_rfl) rfl ?_
  refine WK.run [0, 1, 2, 3] (by simp; constructor <;> rfl) ?_
  refine WK.nil ?_
  refine DK.test rfl rfl (fun h => ?_) (fun h => ?_)
  · try simp only [h]
    replace h := Tr.out h
    refine DK.seq ?_
    refine DK.region (is := [0, 1, 2, 3]) (by kernel_rfl) rfl ?_
    refine WK.run [0, 1, 2, 3] (by simp; constructor <;> rfl) ?_
    refine WK.nil ?_
    refine DK.seq ?_
    refine DK.seq ?_
    refine DK.region (is := [0, 1, 2]) (by kernel_rfl) rfl ?_
    refine WK.run [0, 1, 2] (by simp; constructor <;> rfl) ?_
    refine WK.nil ?_
    refine DK.test rfl rfl (fun h => ?_) (fun h => ?_)
    · try simp only [h]
      replace h := Tr.out h
      refine DK.seq ?_
      refine DK.region (is := [0]) (by kernel_rfl) rfl ?_
      refine WK.run [0] (by simp; constructor <;> rfl) ?_
      refine WK.nil ?_
      refine DK.ret ?_
      refine And.intro (Or.inr rfl) ?_
      refine ⟨_, by simp [absAnswer, absResults, absResult, Tryd.f15]; rfl, ?_⟩
      refine ⟨by first | exact ⟨[], (List.append_nil _).symm⟩ | exact ⟨_, rfl⟩, by simp, ?_⟩
      obtain ⟨kd, su, pl, n, p, a⟩ := o
      simp_all [rightO, zeroP, zeroN, Pl.eta, Nt.eta] <;> (intros; simp_all)
    try simp only [h]
    replace h := Fa.out h
    refine DK.skip ?_
    refine DK.seq ?_
    refine DK.region (is := [0, 1, 2, 3]) (by kernel_rfl) rfl ?_
    refine WK.run [0, 1] (by simp; constructor <;> rfl) ?_
    refine WK.call rfl (by simp) (by simp [Tryd.func28, Tryd.f28]; constructor <;> rfl) ?_
    refine FSem.mono (pright_s ⟨_, _, _, _, _, _⟩ _) ?_
    rintro _ _ ⟨rfl, rfl⟩
    refine WK.run [3] (by simp; constructor <;> rfl) ?_
    refine WK.nil ?_
    refine DK.ret ?_
    refine And.intro (Or.inr rfl) ?_
    refine ⟨_, by simp [absAnswer, absResults, absResult, Tryd.f15]; rfl, ?_⟩
    refine ⟨by first | exact ⟨[], (List.append_nil _).symm⟩ | exact ⟨_, rfl⟩, by simp, ?_⟩
    obtain ⟨kd, su, pl, n, p, a⟩ := o
    simp_all [rightO, zeroP, zeroN, Pl.eta, Nt.eta] <;> (intros; simp_all)
  try simp only [h]
  replace h := Fa.out h
  refine DK.seq ?_
  refine DK.region (is := [0, 1, 2, 3]) (by kernel_rfl) rfl ?_
  refine WK.run [0, 1, 2, 3] (by simp; constructor <;> rfl) ?_
  refine WK.nil ?_
  refine DK.test rfl rfl (fun h => ?_) (fun h => ?_)
  · try simp only [h]
    replace h := Tr.out h
    refine DK.seq ?_
    refine DK.region (is := [0, 1, 2, 3]) (by kernel_rfl) rfl ?_
    refine WK.run [0, 1, 2, 3] (by simp; constructor <;> rfl) ?_
    refine WK.nil ?_
    refine DK.seq ?_
    refine DK.seq ?_
    refine DK.region (is := [0, 1, 2, 3, 4, 5, 6, 7, 8, 9, 10, 11, 12]) (by kernel_rfl) rfl ?_
    refine WK.run [0, 1, 2, 3] (by simp; constructor <;> rfl) ?_
    refine WK.split (t := 66) rfl (fun h => ?_) (fun h => ?_)
    · try simp only [h]
      replace h := Tr.out h
      refine WK.run [4, 5, 6, 7, 8, 9, 10, 11, 12] (by simp; constructor <;> rfl) ?_
      refine WK.nil ?_
      refine DK.yes rfl rfl ?_
      refine DK.seq ?_
      refine DK.region (is := [0]) (by kernel_rfl) rfl ?_
      refine WK.run [0] (by simp; constructor <;> rfl) ?_
      refine WK.nil ?_
      refine DK.ret ?_
      refine And.intro (Or.inr rfl) ?_
      refine ⟨_, by simp [absAnswer, absResults, absResult, Tryd.f15]; rfl, ?_⟩
      refine ⟨by first | exact ⟨[], (List.append_nil _).symm⟩ | exact ⟨_, rfl⟩, by simp, ?_⟩
      obtain ⟨kd, su, pl, n, p, a⟩ := o
      simp_all [rightO, zeroP, zeroN, Pl.eta, Nt.eta] <;> (intros; simp_all)
    try simp only [h]
    replace h := Fa.out h
    refine WK.run [4, 5, 6, 7, 8] (by simp; constructor <;> rfl) ?_
    refine WK.split (t := 71) rfl (fun h => ?_) (fun h => ?_)
    · try simp only [h]
      replace h := Tr.out h
      refine WK.run [9, 10, 11, 12] (by simp; constructor <;> rfl) ?_
      refine WK.nil ?_
      refine DK.yes rfl rfl ?_
      refine DK.seq ?_
      refine DK.region (is := [0]) (by kernel_rfl) rfl ?_
      refine WK.run [0] (by simp; constructor <;> rfl) ?_
      refine WK.nil ?_
      refine DK.ret ?_
      refine And.intro (Or.inr rfl) ?_
      refine ⟨_, by simp [absAnswer, absResults, absResult, Tryd.f15]; rfl, ?_⟩
      refine ⟨by first | exact ⟨[], (List.append_nil _).symm⟩ | exact ⟨_, rfl⟩, by simp, ?_⟩
      obtain ⟨kd, su, pl, n, p, a⟩ := o
      simp_all [rightO, zeroP, zeroN, Pl.eta, Nt.eta] <;> (intros; simp_all)
    try simp only [h]
    replace h := Fa.out h
    refine WK.run [9, 10, 11, 12] (by simp; constructor <;> rfl) ?_
    refine WK.nil ?_
    refine DK.test rfl rfl (fun h => ?_) (fun h => ?_)
    · try simp only [h]
      replace h := Tr.out h
      refine DK.seq ?_
      refine DK.region (is := [0]) (by kernel_rfl) rfl ?_
      refine WK.run [0] (by simp; constructor <;> rfl) ?_
      refine WK.nil ?_
      refine DK.ret ?_
      refine And.intro (Or.inr rfl) ?_
      refine ⟨_, by simp [absAnswer, absResults, absResult, Tryd.f15]; rfl, ?_⟩
      refine ⟨by first | exact ⟨[], (List.append_nil _).symm⟩ | exact ⟨_, rfl⟩, by simp, ?_⟩
      obtain ⟨kd, su, pl, n, p, a⟩ := o
      simp_all [rightO, zeroP, zeroN, Pl.eta, Nt.eta] <;> (intros; simp_all)
    try simp only [h]
    replace h := Fa.out h
    refine DK.skip ?_
    refine DK.seq ?_
    refine DK.region (is := [0]) (by kernel_rfl) rfl ?_
    refine WK.run [0] (by simp; constructor <;> rfl) ?_
    refine WK.nil ?_
    refine DK.ret ?_
    refine And.intro (Or.inr rfl) ?_
    refine ⟨_, by simp [absAnswer, absResults, absResult, Tryd.f15]; rfl, ?_⟩
    refine ⟨by first | exact ⟨[], (List.append_nil _).symm⟩ | exact ⟨_, rfl⟩, by simp, ?_⟩
    obtain ⟨kd, su, pl, n, p, a⟩ := o
    simp_all [rightO, zeroP, zeroN, Pl.eta, Nt.eta] <;> (intros; simp_all)
  try simp only [h]
  replace h := Fa.out h
  refine DK.seq ?_
  refine DK.region (is := [0, 1, 2, 3]) (by kernel_rfl) rfl ?_
  refine WK.run [0, 1, 2, 3] (by simp; constructor <;> rfl) ?_
  refine WK.nil ?_
  refine DK.test rfl rfl (fun h => ?_) (fun h => ?_)
  · try simp only [h]
    replace h := Tr.out h
    refine DK.seq ?_
    refine DK.region (is := [0, 1, 2, 3]) (by kernel_rfl) rfl ?_
    refine WK.run [0, 1, 2, 3] (by simp; constructor <;> rfl) ?_
    refine WK.nil ?_
    refine DK.seq ?_
    refine DK.seq ?_
    refine DK.region (is := [0, 1, 2, 3, 4, 5, 6, 7, 8]) (by kernel_rfl) rfl ?_
    refine WK.run [0, 1, 2, 3] (by simp; constructor <;> rfl) ?_
    refine WK.split (t := 86) rfl (fun h => ?_) (fun h => ?_)
    · try simp only [h]
      replace h := Tr.out h
      refine WK.run [4, 5, 6, 7, 8] (by simp; constructor <;> rfl) ?_
      refine WK.nil ?_
      refine DK.yes rfl rfl ?_
      refine DK.seq ?_
      refine DK.region (is := [0]) (by kernel_rfl) rfl ?_
      refine WK.run [0] (by simp; constructor <;> rfl) ?_
      refine WK.nil ?_
      refine DK.ret ?_
      refine And.intro (Or.inr rfl) ?_
      refine ⟨_, by simp [absAnswer, absResults, absResult, Tryd.f15]; rfl, ?_⟩
      refine ⟨by first | exact ⟨[], (List.append_nil _).symm⟩ | exact ⟨_, rfl⟩, by simp, ?_⟩
      obtain ⟨kd, su, pl, n, p, a⟩ := o
      simp_all [rightO, zeroP, zeroN, Pl.eta, Nt.eta] <;> (intros; simp_all)
    try simp only [h]
    replace h := Fa.out h
    refine WK.run [4, 5] (by simp; constructor <;> rfl) ?_
    refine WK.call rfl (by simp) (by simp [Tryd.func29, Tryd.f29]; constructor <;> rfl) ?_
    refine FSem.mono (notice_s ⟨_, _, _, _, _, _⟩ _) ?_
    rintro _ _ ⟨rfl, rfl⟩
    refine WK.run [7, 8] (by simp; constructor <;> rfl) ?_
    refine WK.nil ?_
    refine DK.test rfl rfl (fun h => ?_) (fun h => ?_)
    · try simp only [h]
      replace h := Tr.out h
      refine DK.seq ?_
      refine DK.region (is := [0]) (by kernel_rfl) rfl ?_
      refine WK.run [0] (by simp; constructor <;> rfl) ?_
      refine WK.nil ?_
      refine DK.ret ?_
      refine And.intro (Or.inr rfl) ?_
      refine ⟨_, by simp [absAnswer, absResults, absResult, Tryd.f15]; rfl, ?_⟩
      refine ⟨by first | exact ⟨[], (List.append_nil _).symm⟩ | exact ⟨_, rfl⟩, by simp, ?_⟩
      obtain ⟨kd, su, pl, n, p, a⟩ := o
      simp_all [rightO, zeroP, zeroN, Pl.eta, Nt.eta] <;> (intros; simp_all)
    try simp only [h]
    replace h := Fa.out h
    refine DK.skip ?_
    refine DK.seq ?_
    refine DK.region (is := [0]) (by kernel_rfl) rfl ?_
    refine WK.run [0] (by simp; constructor <;> rfl) ?_
    refine WK.nil ?_
    refine DK.ret ?_
    refine And.intro (Or.inr rfl) ?_
    refine ⟨_, by simp [absAnswer, absResults, absResult, Tryd.f15]; rfl, ?_⟩
    refine ⟨by first | exact ⟨[], (List.append_nil _).symm⟩ | exact ⟨_, rfl⟩, by simp, ?_⟩
    obtain ⟨kd, su, pl, n, p, a⟩ := o
    simp_all [rightO, zeroP, zeroN, Pl.eta, Nt.eta] <;> (intros; simp_all)
  try simp only [h]
  replace h := Fa.out h
  refine DK.skip ?_
  refine DK.seq ?_
  refine DK.region (is := [0]) (by kernel_rfl) rfl ?_
  refine WK.run [0] (by simp; constructor <;> rfl) ?_
  refine WK.nil ?_
  refine DK.ret ?_
  refine And.intro (Or.inr rfl) ?_
  refine ⟨_, by simp [absAnswer, absResults, absResult, Tryd.f15]; rfl, ?_⟩
  refine ⟨by first | exact ⟨[], (List.append_nil _).symm⟩ | exact ⟨_, rfl⟩, by simp, ?_⟩
  obtain ⟨kd, su, pl, n, p, a⟩ := o
  simp_all [rightO, zeroP, zeroN, Pl.eta, Nt.eta] <;> (intros; simp_all)
end Go.Den
set_option linter.unusedVariables false
set_option maxRecDepth 100000
namespace Go.Den
open Go Go.Proofs
attribute [simp] bkv
theorem alloc_bk (H : Mem) : absAlloc Tryd.prog H 35 = some (.pointer (some ⟨H.length, 0, none⟩), H ++ [.cells false (BkL 0 (.slice none 0 0) zL)]) := by kernel_rfl
theorem build_bk : absBuild Tryd.prog 35 [] = some (.agg (BkL 0 (.slice none 0 0) zL).toArray) := by kernel_rfl
theorem build_bkt (t : Int) : absBuild Tryd.prog 35 [(0, .int .i64 t)] = some (.agg (BkL t (.slice none 0 0) zL).toArray) := by kernel_rfl
section
variable {t : Int} {sp : Value} {l : List As}
theorem bk_take (h : l.length = 32) : List.take 418 (BkL t sp l) = BkL t sp l := List.take_of_length_le (by rw [BkL_len h]; decide)
theorem bk_t : List.take 1 (BkL t sp l) = [.int .i64 t] := rfl
theorem bk_p : List.take 1 (BkL t sp l).tail = [sp] := rfl
theorem bk_row (h : l.length = 32) : List.take 416 (List.drop 2 (BkL t sp l)) = rowV l := by
  show List.take 416 (rowV l) = rowV l
  exact List.take_of_length_le (by rw [rowV_len, h]; decide)
theorem bk_one (h : sp.oneCell' = true) : allA (BkL t sp l).toArray (fun x => x.oneCell') = true := by
  unfold allA BkL
  simp [h]
  exact ⟨rfl, by simpa using rowV_flat l⟩
theorem bk_at {i : Nat} (h : i < l.length) : List.take 13 (List.drop (2 + i * 13) (BkL t sp l)) = (l[i]).a.l (l[i]).s := by
  have := rowV_get h
  rw [show 2 + i * 13 = (i * 13) + 1 + 1 by omega]
  exact this
theorem bk_st {i : Nat} (h : i < l.length) : List.take 1 (List.drop (2 + i * 13) (BkL t sp l)) = [.int .u8 (l[i]).a.st] := by
  have := congrArg (List.take 1) (bk_at (t := t) (sp := sp) h)
  rw [List.take_take] at this
  exact this
theorem sp_all {us vs : List Value} (h : us.length = vs.length) : splice us 0 vs = vs := by
  unfold splice; simp [h]
theorem sp_nil (us : List Value) : splice us 0 [] = us := by simp [splice]
theorem sp_0 (u v : Value) (us vs : List Value) : splice (u :: us) 0 (v :: vs) = v :: splice us 0 vs := by simp [splice]
theorem sp_s (u : Value) (us vs : List Value) (n : Nat) : splice (u :: us) (n + 1) vs = u :: splice us n vs := by
  unfold splice
  rw [show n + 1 + vs.length = (n + vs.length) + 1 by omega]; simp
theorem sp_bk {t' : Int} {sp' : Value} {l' : List As} (h : l.length = 32) (h' : l'.length = 32) : splice (BkL t sp l) 0 (BkL t' sp' l') = BkL t' sp' l' := sp_all (by rw [BkL_len h, BkL_len h'])
theorem sp_t (t' : Int) : splice (BkL t sp l) 0 [.int .i64 t'] = BkL t' sp l := by simp [splice, BkL]
theorem sp_p (sp' : Value) : splice (BkL t sp l) 1 [sp'] = BkL t sp' l := by simp [splice, BkL]
theorem sp_at {i : Nat} (h : i < l.length) (x : As) : splice (BkL t sp l) (2 + i * 13) (x.a.l x.s) = BkL t sp (l.set i x) := by
  have := rowV_set h x
  rw [show 2 + i * 13 = (i * 13) + 1 + 1 by omega]
  unfold BkL
  rw [sp_s, sp_s]
  exact congrArg _ (congrArg _ this)
theorem part_at {i : Nat} (h : i < l.length) : absPart Tryd.prog 32 (rowV l).toArray (i * 13) = some ((l[i]).a.v (l[i]).s) := by
  have := rowV_get h
  have hl : i * 13 + 13 ≤ (rowV l).length := by
    rw [rowV_len]
    have : (i + 1) * 13 ≤ l.length * 13 := Nat.mul_le_mul_right _ h
    show _ ≤ l.length * 13
    omega
  unfold absPart
  simp only [Tryd.underlying32, inf32, sz32, TypeDesc.isRow]
  have e : ((rowV l).toArray.extract (i * 13) (i * 13 + 13)) = ((l[i]).a.l (l[i]).s).toArray := by
    rw [List.extract_toArray, List.extract_eq_take_drop, Nat.add_sub_cancel_left]
    exact congrArg _ this
  simp only [if_true, e]
  rfl
end
end Go.Den
namespace Go.Den
open Go Go.Proofs
set_option maxRecDepth 100000
set_option maxHeartbeats 1000000
set_option linter.all false
theorem al32 (H : Mem) : absAlloc Tryd.prog H 32 = some (.pointer (some ⟨H.length, 0, none⟩), H ++ [.cells false [.int .u8 0, .int .i64 0, .int .i64 0, .int .i64 0, .int .i64 0, .int .i64 0, .bool false, .slice none 0 0, .int .i64 0, .int .i64 0, .int .i64 0, .int .i64 0, .int .i64 0]]) := by kernel_rfl
theorem bu32 (ps : List (Nat × Value)) : absBuild Tryd.prog 32 ps = (Instr.fill (fun i => (#[(0, 1), (1, 1), (2, 1), (3, 1), (4, 1), (5, 1), (6, 1), (7, 1), (8, 5)] : Array (Nat × Nat))[i]?) #[.int .u8 0, .int .i64 0, .int .i64 0, .int .i64 0, .int .i64 0, .int .i64 0, .bool false, .slice none 0 0, .int .i64 0, .int .i64 0, .int .i64 0, .int .i64 0, .int .i64 0] ps).map .agg := by kernel_rfl
theorem al44 (H : Mem) : absAlloc Tryd.prog H 44 = some (.pointer (some ⟨H.length, 0, none⟩), H ++ [.cells false [.int .i64 0, .int .u8 0, .int .i64 0, .int .i64 0, .bool false, .bool false]]) := by kernel_rfl
theorem bu44 (ps : List (Nat × Value)) : absBuild Tryd.prog 44 ps = (Instr.fill (fun i => (#[(0, 1), (1, 1), (2, 1), (3, 1), (4, 1), (5, 1)] : Array (Nat × Nat))[i]?) #[.int .i64 0, .int .u8 0, .int .i64 0, .int .i64 0, .bool false, .bool false] ps).map .agg := by kernel_rfl
theorem al46 (H : Mem) : absAlloc Tryd.prog H 46 = some (.pointer (some ⟨H.length, 0, none⟩), H ++ [.cells false [.int .u8 0, .int .i64 0, .int .i64 0, .int .i64 0, .int .i64 0, .int .u8 0]]) := by kernel_rfl
theorem bu46 (ps : List (Nat × Value)) : absBuild Tryd.prog 46 ps = (Instr.fill (fun i => (#[(0, 1), (1, 1), (2, 1), (3, 1), (4, 1), (5, 1)] : Array (Nat × Nat))[i]?) #[.int .u8 0, .int .i64 0, .int .i64 0, .int .i64 0, .int .i64 0, .int .u8 0] ps).map .agg := by kernel_rfl
theorem al67 (H : Mem) : absAlloc Tryd.prog H 67 = some (.pointer (some ⟨H.length, 0, none⟩), H ++ [.cells false [.int .i64 0, .int .i64 0, .int .u8 0, .int .i64 0, .int .i64 0, .int .i64 0, .int .i64 0, .bool false]]) := by kernel_rfl
theorem bu67 (ps : List (Nat × Value)) : absBuild Tryd.prog 67 ps = (Instr.fill (fun i => (#[(0, 1), (1, 1), (2, 1), (3, 1), (4, 1), (5, 1), (6, 1), (7, 1)] : Array (Nat × Nat))[i]?) #[.int .i64 0, .int .i64 0, .int .u8 0, .int .i64 0, .int .i64 0, .int .i64 0, .int .i64 0, .bool false] ps).map .agg := by kernel_rfl
theorem al48 (H : Mem) : absAlloc Tryd.prog H 48 = some (.pointer (some ⟨H.length, 0, none⟩), H ++ [.cells false [.int .u8 0, .int .i64 0, .int .i64 0, .int .i64 0, .int .i64 0, .int .u8 0, .int .i64 0, .int .i64 0, .bool false, .bool false, .int .u8 0, .int .i64 0, .int .i64 0, .int .i64 0, .int .i64 0, .int .u8 0]]) := by kernel_rfl
theorem bu48 (ps : List (Nat × Value)) : absBuild Tryd.prog 48 ps = (Instr.fill (fun i => (#[(0, 1), (1, 1), (2, 1), (3, 1), (4, 6), (10, 6)] : Array (Nat × Nat))[i]?) #[.int .u8 0, .int .i64 0, .int .i64 0, .int .i64 0, .int .i64 0, .int .u8 0, .int .i64 0, .int .i64 0, .bool false, .bool false, .int .u8 0, .int .i64 0, .int .i64 0, .int .i64 0, .int .i64 0, .int .u8 0] ps).map .agg := by kernel_rfl
theorem al30 (H : Mem) : absAlloc Tryd.prog H 30 = some (.pointer (some ⟨H.length, 0, none⟩), H ++ [.cells false [.int .i64 0, .int .i64 0, .int .i64 0, .int .i64 0, .int .i64 0]]) := by kernel_rfl
theorem bu30 (ps : List (Nat × Value)) : absBuild Tryd.prog 30 ps = (Instr.fill (fun i => (#[(0, 1), (1, 1), (2, 1), (3, 1), (4, 1)] : Array (Nat × Nat))[i]?) #[.int .i64 0, .int .i64 0, .int .i64 0, .int .i64 0, .int .i64 0] ps).map .agg := by kernel_rfl
theorem al66 (H : Mem) : absAlloc Tryd.prog H 66 = some (.pointer (some ⟨H.length, 0, none⟩), H ++ [.cells false [.int .i64 0, .int .i64 0, .int .u8 0, .int .i64 0, .int .i64 0, .int .i64 0, .int .i64 0, .bool false]]) := by kernel_rfl
theorem bu66 (ps : List (Nat × Value)) : absBuild Tryd.prog 66 ps = (Instr.fill (fun i => (#[(0, 1), (1, 1), (2, 1), (3, 1), (4, 1), (5, 1), (6, 1), (7, 1)] : Array (Nat × Nat))[i]?) #[.int .i64 0, .int .i64 0, .int .u8 0, .int .i64 0, .int .i64 0, .int .i64 0, .int .i64 0, .bool false] ps).map .agg := by kernel_rfl
theorem al39 (H : Mem) : absAlloc Tryd.prog H 39 = some (.pointer (some ⟨H.length, 0, none⟩), H ++ [.cells false [.int .u8 0, .int .i64 0, .int .i64 0, .int .i64 0, .int .i64 0, .bool false, .slice none 0 0]]) := by kernel_rfl
theorem bu39 (ps : List (Nat × Value)) : absBuild Tryd.prog 39 ps = (Instr.fill (fun i => (#[(0, 1), (1, 1), (2, 1), (3, 1), (4, 1), (5, 1), (6, 1)] : Array (Nat × Nat))[i]?) #[.int .u8 0, .int .i64 0, .int .i64 0, .int .i64 0, .int .i64 0, .bool false, .slice none 0 0] ps).map .agg := by kernel_rfl
theorem al114 (H : Mem) : absAlloc Tryd.prog H 114 = some (.pointer (some ⟨H.length, 0, none⟩), H ++ [.cells false [.slice none 0 0, .int .i64 0]]) := by kernel_rfl
theorem bu114 (ps : List (Nat × Value)) : absBuild Tryd.prog 114 ps = (Instr.fill (fun i => (#[(0, 1), (1, 1)] : Array (Nat × Nat))[i]?) #[.slice none 0 0, .int .i64 0] ps).map .agg := by kernel_rfl
theorem al151 (H : Mem) : absAlloc Tryd.prog H 151 = some (.pointer (some ⟨H.length, 0, none⟩), H ++ [.cells false [.int .i64 0, .int .i64 0, .int .i64 0]]) := by kernel_rfl
theorem bu151 (ps : List (Nat × Value)) : absBuild Tryd.prog 151 ps = (Instr.fill (fun i => (#[(0, 1), (1, 1), (2, 1)] : Array (Nat × Nat))[i]?) #[.int .i64 0, .int .i64 0, .int .i64 0] ps).map .agg := by kernel_rfl
theorem al3 (H : Mem) : absAlloc Tryd.prog H 3 = some (.pointer (some ⟨H.length, 0, none⟩), H ++ [.cells false [.int .i64 0]]) := by kernel_rfl
theorem al2 (H : Mem) : absAlloc Tryd.prog H 2 = some (.pointer (some ⟨H.length, 0, none⟩), H ++ [.cells false [.int .i64 0]]) := by kernel_rfl
theorem al5 (H : Mem) : absAlloc Tryd.prog H 5 = some (.pointer (some ⟨H.length, 0, none⟩), H ++ [.cells false [.int .u8 0]]) := by kernel_rfl
theorem al4 (H : Mem) : absAlloc Tryd.prog H 4 = some (.pointer (some ⟨H.length, 0, none⟩), H ++ [.cells false [.bool false]]) := by kernel_rfl
theorem al131 (H : Mem) : absAlloc Tryd.prog H 131 = some (.pointer (some ⟨H.length, 0, none⟩), H ++ [.cells false [.int .u64 0]]) := by kernel_rfl
theorem cv2_5 (H : Mem) (k : IntKind) (n : Int) : absConv Tryd.prog H 2 5 (.int k n) = some (.int .u8 (IntKind.u8.wrap n), H) := by kernel_rfl
theorem cv2_131 (H : Mem) (k : IntKind) (n : Int) : absConv Tryd.prog H 2 131 (.int k n) = some (.int .u64 (IntKind.u64.wrap n), H) := by kernel_rfl
theorem cv3_132 (H : Mem) (k : IntKind) (n : Int) : absConv Tryd.prog H 3 132 (.int k n) = some (.int .u64 (IntKind.u64.wrap n), H) := by kernel_rfl
theorem cv5_2 (H : Mem) (k : IntKind) (n : Int) : absConv Tryd.prog H 5 2 (.int k n) = some (.int .i64 (IntKind.i64.wrap n), H) := by kernel_rfl
theorem cv5_3 (H : Mem) (k : IntKind) (n : Int) : absConv Tryd.prog H 5 3 (.int k n) = some (.int .i64 (IntKind.i64.wrap n), H) := by kernel_rfl
theorem cv5_131 (H : Mem) (k : IntKind) (n : Int) : absConv Tryd.prog H 5 131 (.int k n) = some (.int .u64 (IntKind.u64.wrap n), H) := by kernel_rfl
theorem cv22_3 (H : Mem) (k : IntKind) (n : Int) : absConv Tryd.prog H 22 3 (.int k n) = some (.int .i64 (IntKind.i64.wrap n), H) := by kernel_rfl
theorem cv62_3 (H : Mem) (k : IntKind) (n : Int) : absConv Tryd.prog H 62 3 (.int k n) = some (.int .i64 (IntKind.i64.wrap n), H) := by kernel_rfl
theorem cv131_2 (H : Mem) (k : IntKind) (n : Int) : absConv Tryd.prog H 131 2 (.int k n) = some (.int .i64 (IntKind.i64.wrap n), H) := by kernel_rfl
theorem cv131_5 (H : Mem) (k : IntKind) (n : Int) : absConv Tryd.prog H 131 5 (.int k n) = some (.int .u8 (IntKind.u8.wrap n), H) := by kernel_rfl
attribute [simp] al32 bu32 al44 bu44 al46 bu46 al67 bu67 al48 bu48 al30 bu30 al66 bu66 al39 bu39 al114 bu114 al151 bu151 al3 al2 al5 al4 al131 cv2_5 cv2_131 cv3_132 cv5_2 cv5_3 cv5_131 cv22_3 cv62_3 cv131_2 cv131_5 alloc_bk build_bk build_bkt
end Go.Den
namespace Go.Den
open Go Go.Proofs
set_option maxRecDepth 100000
set_option maxHeartbeats 1000000
set_option linter.all false
attribute [local simp] evOps evOp absOp absBox absAlloc absLoad absStore absField absCells absBinOp absBin absInt absShift absUn absPick absNil absExtract absBuild absPlaces Instr.fill absBuiltin absMinMax plainV plainT allA flat cells_agg cells_int cells_bool cells_str cells_ptr cells_sl cells_map one_int one_bool one_str one_ptr one_sl one_map Act.eval Act.put Region.wanted yielded splice absCall TypeDesc.isRow
theorem bput_s (ns : List Int) {k : Nat} {s0 : Value} {bs : List By} {e : Int} {w : Value} {H : Mem} (hB0 : BoxAt H k s0 bs e) (hw0 : RowAt H w (wds ns)) (h1 : blkOf w ≠ some k) (h2 : ∀ c, blkOf w = some c → blkOf s0 ≠ some c) (hn : bs.length + 11 * ns.length ≤ 5000000000000) : FSem Tryd.prog [0] 44 #[.pointer (some ⟨k, 0, none⟩), w] H fun v H' => ∃ s', v = .pointer (some ⟨k, 0, none⟩) ∧ BoxAt H' k s' (bs ++ numsB ns) e ∧ Fr2 H k s0 H' ∧ Src H s0 s' := by
  refine FSem.ofK Tryd.func44 rfl ?_
  refine DK.from (b' := ⟨#[.pointer (some ⟨k, 0, none⟩), w, undef, undef, undef, undef, undef, undef, undef, undef, undef, undef, undef, undef, undef, undef, undef, undef, undef, undef, undef, undef, undef, undef, undef, undef, undef, undef, undef, undef, undef, undef, undef, undef, undef, undef, undef, undef, undef, undef, undef, undef, undef, undef, undef, undef, undef, undef, undef, undef, undef, undef, undef], []⟩) (by kernel_rfl) ?_
  have F := trivial
  have g := trivial
  have j := trivial
  have l := trivial
  have p := trivial
  have q := trivial
  have m := trivial
  have t := trivial
  have x := trivial
  have y := trivial
  have a := trivial
  have K := trivial
  have A := trivial
  have B := trivial
  have C := trivial
  have n := trivial
  have o := trivial
  have d := trivial
  have D := trivial
  have E := trivial
  replace m := lenWd hw0
  simp only [wds_len] at m
  have L := trivial
  refine DK.seq ?_
  refine DK.region (is := [0]) (by kernel_rfl) rfl ?_
  refine WK.run [0] (by simp [F, g, j, l, p, q, m, t, x, y, a, K, A, B, C, n, o, d, D, E]; constructor <;> rfl) ?_
  refine WK.nil ?_
  refine DK.seq ?_
  refine DK.seq ?_
  refine DK.region (is := [0, 1]) (by kernel_rfl) rfl ?_
  refine WK.run [0, 1] (by simp [F, g, j, l, p, q, m, t, x, y, a, K, A, B, C, n, o, d, D, E]; constructor <;> rfl) ?_
  refine WK.nil ?_
  refine DK.test rfl rfl (fun h => ?_) (fun h => ?_)
  · try simp only [h]
    replace h := Tr.out h
    cases h
  try simp only [h]
  replace h := Fa.out h
  refine DK.skip ?_
  refine DK.seq ?_
  refine DK.seq ?_
  refine DK.region (is := [0, 1, 2]) (by kernel_rfl) rfl ?_
  refine WK.run [0, 1, 2] (by simp [F, g, j, l, p, q, m, t, x, y, a, K, A, B, C, n, o, d, D, E]; constructor <;> rfl) ?_
  refine WK.nil ?_
  refine DK.block ?_
  refine DK.loopF [6, 7, 12, 13, 14, 15, 16, 17, 18, 19, 20, 21, 22, 23, 24, 25, 26, 27, 28, 29, 30, 31, 32, 33, 34, 35, 36, 37, 38, 39, 40, 41, 42, 43, 44, 45, 46, 47, 48, 49, 50, 51] [12] (fun fl vs H' => ∃ (i : Int) (s : Value), vs = [.int .i64 i] ∧ (BoxAt H' k s (bs ++ numsB (ns.take i.toNat)) e ∧ Fr2 H k s0 H' ∧ Src H s0 s) ∧ 0 ≤ i ∧ i ≤ ns.length ∧ fl = (ns.length - i).toNat) (ns.length) (by kernel_rfl) ?_ ?_
  · refine ⟨_, s0, rfl, ?_⟩
    exact ⟨⟨by simpa [numsB] using hB0, Fr2.refl _ _ _, Src.refl _ _⟩, by omega, by omega, by omega⟩
  rintro fl f1j M ⟨i, s, hv, hf⟩
  clear L
  obtain ⟨⟨hBx, hF, hS⟩, hi0, hi1, hfl⟩ := hf
  have hw := hw0.fr2 hF h1 h2
  replace F := hBx.cell
  replace g : ∀ r : Mem, (M ++ r)[k]? = some (.cells false [s, .int .i64 e]) := fun r => (hBx.app r).cell
  replace j := hBx.row.cells.1
  replace l := hBx.row.cells.2
  have hq1 := numsB_len (ns.take i.toNat)
  have hq3 : (ns.take i.toNat).length ≤ ns.length := by simp; omega
  simp only [List.map_cons, List.map_nil, List.cons.injEq, and_true] at hv
  have hv1_0 := hv
  refine DK.from ((setL_S (by decide) _ _).trans (by simp [setS, hv1_0]; exact rfl)) ?_
  refine DK.seq ?_
  refine DK.region (is := [0]) (by kernel_rfl) rfl ?_
  refine WK.run [0] (by simp [F, g, j, l, p, q, m, t, x, y, a, K, A, B, C, n, o, d, D, E]; constructor <;> rfl) ?_
  refine WK.nil ?_
  refine DK.seq ?_
  refine DK.test rfl rfl (fun h => ?_) (fun h => ?_)
  · try simp only [h]
    replace h := Tr.out h
    replace p : 0 ≤ i := hi0
    replace q : i < ns.length := h
    have hil : i.toNat < ns.length := by omega
    replace C : IntKind.i64.wrap (i + 1) = i + 1 := wrap_in _ (by omega) (by omega)
    obtain ⟨b, ob, rob, vs, hidx0, hb0, hle0, hge0⟩ := idx_wd hw hi0 hil
    replace d := hidx0
    obtain ⟨z, hz⟩ := Int.eq_ofNat_of_zero_le (zzI_b ns[i.toNat]).1
    replace E := (zz_form ns[i.toNat]).trans hz
    replace t := hb0
    replace x := hle0
    replace y := hge0
    refine DK.skip ?_
    refine DK.seq ?_
    refine DK.block ?_
    refine DK.seq ?_
    refine DK.region (is := [0, 1, 2]) (by kernel_rfl) rfl ?_
    refine WK.run [0, 1, 2] (by simp [F, g, j, l, p, q, m, t, x, y, a, K, A, B, C, n, o, d, D, E]; constructor <;> rfl) ?_
    refine WK.nil ?_
    refine DK.seq ?_
    refine DK.region (is := [0, 1, 2, 3, 4, 5, 6, 7]) (by kernel_rfl) rfl ?_
    refine WK.run [0, 1, 2, 3, 4, 5, 6, 7] (by simp [F, g, j, l, p, q, m, t, x, y, a, K, A, B, C, n, o, d, D, E]; constructor <;> rfl) ?_
    refine WK.nil ?_
    refine DK.seq ?_
    refine DK.block ?_
    refine DK.loopF [7, 23, 24, 25, 26, 27, 28, 29, 30, 31, 32, 33, 34, 35, 36, 37, 38, 39] [7] (fun fl vs H' => ∃ (u : Nat) (s' : Value) (dn : List By), vs = [.int .u64 (u : Int)] ∧ (BoxAt H' k s' (bs ++ numsB (ns.take i.toNat) ++ dn) e ∧ Fr2 H k s0 H' ∧ Src H s0 s') ∧ dn ++ digB u = numB ns[i.toNat] ∧ (u : Int) < 18446744073709551616 ∧ fl = u) (z) (by kernel_rfl) ?_ ?_
    · refine ⟨z, s, [], rfl, ?_⟩
      exact ⟨⟨by simpa using hBx, hF, hS⟩, by simp [numB, hz], by have := zzI_b ns[i.toNat]; omega, rfl⟩
    rintro fl f2j M' ⟨u, s', dn, hv, hf⟩
    clear hBx hw hF hS
    obtain ⟨⟨hBx, hF, hS⟩, hdn, hu1, hfl⟩ := hf
    replace F := hBx.cell
    replace g : ∀ r : Mem, (M' ++ r)[k]? = some (.cells false [s', .int .i64 e]) := fun r => (hBx.app r).cell
    replace j := hBx.row.cells.1
    replace l := hBx.row.cells.2
    have hq2 : dn.length ≤ 11 := by have := numB_len ns[i.toNat]; rw [← hdn] at this; simp at this; omega
    simp only [List.map_cons, List.map_nil, List.cons.injEq, and_true] at hv
    have hv2_0 := hv
    refine DK.from ((setL_S (by decide) _ _).trans (by simp [setS, hv2_0]; exact rfl)) ?_
    refine DK.seq ?_
    refine DK.seq ?_
    refine DK.region (is := [0, 1]) (by kernel_rfl) rfl ?_
    refine WK.run [0, 1] (by simp [F, g, j, l, p, q, m, t, x, y, a, K, A, B, C, n, o, d, D, E]; constructor <;> rfl) ?_
    refine WK.nil ?_
    refine DK.test rfl rfl (fun h => ?_) (fun h => ?_)
    · try simp only [h]
      replace h := Tr.out h
      replace A := or_form u
      replace D : IntKind.u64.wrap ((u : Int) / 64) = ((u / 64 : Nat) : Int) := by rw [wrap_u64]; omega
      obtain ⟨s2, M2, ha2, hR2, hW2, hf2, hN2⟩ := app1By hBx.row hBx.own (⟨(u : Int) % 64 + 64⟩ : By) (by simp; omega)
      replace a := ha2
      simp only [Cel.f] at a
      obtain ⟨c2a, hB2, hF2, hS2⟩ := hBx.put hR2 hW2 hf2 hN2
      replace K := c2a
      replace n := hR2.cells.1
      replace o := hR2.cells.2
      refine DK.skip ?_
      refine DK.block ?_
      refine DK.seq ?_
      refine DK.region (is := [0, 1, 2, 3, 4, 5, 6, 7, 8, 9, 10, 11, 12, 13]) (by kernel_rfl) rfl ?_
      refine WK.run [0, 1, 2, 3, 4, 5, 6, 7, 8, 9, 10, 11, 12, 13] (by simp [F, g, j, l, p, q, m, t, x, y, a, K, A, B, C, n, o, d, D, E]; constructor <;> rfl) ?_
      refine WK.nil ?_
      refine DK.region (is := [0, 1, 2]) (by kernel_rfl) rfl ?_
      refine WK.run [0, 1, 2] (by simp [F, g, j, l, p, q, m, t, x, y, a, K, A, B, C, n, o, d, D, E]; constructor <;> rfl) ?_
      refine WK.nil ?_
      refine ⟨by kernel_rfl, u / 64, ?_, u / 64, s2, dn ++ [⟨(u : Int) % 64 + 64⟩], rfl, ?_⟩
      · omega
      · exact ⟨⟨by simpa using hB2, hF.trans hS hF2, hS.trans hF.1 hS2⟩, by rw [← hdn, digB_s (u := u) (by omega)]; simp, by omega, rfl⟩
    try simp only [h]
    replace h := Fa.out h
    have hu64 : u < 64 := by omega
    replace B := wrap_b8 (u : Int) (by omega) (by omega)
    obtain ⟨s2, M2, ha2, hR2, hW2, hf2, hN2⟩ := app1By hBx.row hBx.own (⟨(u : Int)⟩ : By) (by simp; omega)
    replace a := ha2
    simp only [Cel.f] at a
    obtain ⟨c2a, hB2, hF2, hS2⟩ := hBx.put hR2 hW2 hf2 hN2
    replace K := c2a
    replace n := hR2.cells.1
    replace o := hR2.cells.2
    refine DK.exit ?_
    refine DK.region (is := [0, 1, 2, 3, 4, 5, 6, 7, 8, 9, 10, 11]) (by kernel_rfl) rfl ?_
    refine WK.run [0, 1, 2, 3, 4, 5, 6, 7, 8, 9, 10, 11] (by simp [F, g, j, l, p, q, m, t, x, y, a, K, A, B, C, n, o, d, D, E]; constructor <;> rfl) ?_
    refine WK.nil ?_
    refine DK.region (is := [0, 1]) (by kernel_rfl) rfl ?_
    refine WK.run [0, 1] (by simp [F, g, j, l, p, q, m, t, x, y, a, K, A, B, C, n, o, d, D, E]; constructor <;> rfl) ?_
    refine WK.nil ?_
    refine ⟨by kernel_rfl, (ns.length - (i + 1)).toNat, ?_, _, s2, rfl, ?_⟩
    · omega
    · rw [show (i + 1).toNat = i.toNat + 1 by omega, numsB_take hil, ← hdn, digB_0 hu64]
      exact ⟨⟨by simpa using hB2, hF.trans hS hF2, hS.trans hF.1 hS2⟩, by omega, by omega, rfl⟩
  try simp only [h]
  replace h := Fa.out h
  refine DK.exit ?_
  refine DK.seq ?_
  refine DK.region (is := [0, 1]) (by kernel_rfl) rfl ?_
  refine WK.run [0, 1] (by simp [F, g, j, l, p, q, m, t, x, y, a, K, A, B, C, n, o, d, D, E]; constructor <;> rfl) ?_
  refine WK.nil ?_
  refine DK.ret ?_
  refine And.intro (Or.inr rfl) ?_
  refine ⟨_, by simp [absAnswer, absResults, absResult, Tryd.f44]; rfl, ?_⟩
  have hi : i = ns.length := by omega
  subst hi
  exact ⟨s, rfl, by simpa using hBx, hF, hS⟩
end Go.Den
set_option linter.unusedVariables false
set_option maxRecDepth 100000
namespace Go.Den
open Go Go.Proofs
theorem Fr2.cell {H H' : Mem} {k i : Nat} {s : Value} {x : Blk} (h : Fr2 H k s H') (hx : H[i]? = some x) (hk : i ≠ k) (hs : blkOf s ≠ some i) : H'[i]? = some x := (h.2 i (List.getElem?_eq_some_iff.1 hx).1 hk hs).trans hx
theorem cellr {M : Mem} {i : Nat} {x : Blk} (h : M[i]? = some x) : ∀ r : Mem, (M ++ r)[i]? = some x := fun r => by rw [List.getElem?_append_left (List.getElem?_eq_some_iff.1 h).1]; exact h
def Boxed (H : Mem) (k : Nat) (s : Value) (c : List By) (e : Int) (more : List By) (n : Nat) (v : Value) (H' : Mem) : Prop :=
  ∃ s' c', v = .pointer (some ⟨k, 0, none⟩) ∧ c' = c ++ more ∧ c'.length ≤ c.length + n ∧ BoxAt H' k s' c' e ∧ Fr2 H k s H' ∧ Src H s s'
theorem putl_g (ns : List Int) {M : Mem} {k n : Nat} {s : Value} {c : List By} {e : Int} (hB : BoxAt M k s c e) {vs : List Value} (hv : vs = ns.map (fun n => Value.int .i64 n)) (hn : n = ns.length) (hl : c.length + 11 * n ≤ 4000000000000) :
    FSem Tryd.prog [0] 44 #[.pointer (some ⟨k, 0, none⟩), .slice (some ⟨M.length, 0, none⟩) n 1] (M ++ [.cells false vs]) (Boxed M k s c e (numsB ns) (11 * n)) := by
  subst hn
  refine FSem.mono (bput_s ns (hB.app _) (wds_row ns hv) (fun q => ?_) (fun q hq => ?_) (by omega)) ?_
  · have e : M.length = k := Option.some.inj q
    have := hB.lt; omega
  · have e : M.length = q := Option.some.inj hq
    intro q2; have := hB.lts q2; omega
  · rintro v H' ⟨s', rfl, h1, h2, h3⟩
    exact ⟨s', _, rfl, rfl, by have := numsB_len ns; simp; omega, h1, h2.cut, h3.cut⟩
theorem Boxed.row {H : Mem} {k n : Nat} {s : Value} {c : List By} {e : Int} {more : List By} {v : Value} {H' : Mem} (h : Boxed H k s c e more n v H') {more' : List By} (hm : more = more') : Boxed H k s c e more' n v H' := hm ▸ h
structure OwnB (M : Mem) (k : Nat) (s : Value) (i : Nat) (x : Blk) : Prop where
  cell : M[i]? = some x
  nk : i ≠ k
  ns : blkOf s ≠ some i
theorem OwnB.go {M M' : Mem} {k i : Nat} {s s' : Value} {x : Blk} (h : OwnB M k s i x) (hF : Fr2 M k s M') (hS : Src M s s') : OwnB M' k s' i x :=
  ⟨hF.cell h.cell h.nk h.ns, h.nk, fun q => (hS i q).elim h.ns (fun q2 => by have := (List.getElem?_eq_some_iff.1 h.cell).1; omega)⟩
theorem OwnB.kp {M M' : Mem} {k i : Nat} {s : Value} {x : Blk} (h : OwnB M k s i x) (hK : Keep M M') : OwnB M' k s i x := ⟨(hK.2 i (List.getElem?_eq_some_iff.1 h.cell).1).trans h.cell, h.nk, h.ns⟩
theorem OwnB.new {M M' : Mem} {k : Nat} {s : Value} {c : List By} {e : Int} {x : Blk} (hB : BoxAt M k s c e) (h : M'[M.length]? = some x) : OwnB M' k s M.length x :=
  ⟨h, by have := hB.lt; omega, fun q => by have := hB.lts q; omega⟩
theorem Fr2.of {M M' : Mem} (h : Keep M M') (k : Nat) (s : Value) : Fr2 M k s M' := ⟨h.1, fun i hi _ _ => h.2 i hi⟩
theorem OpenAt.fr2 {H H' : Mem} {k : Nat} {s w : Value} {l : List Cy} (h : OpenAt H w l) (hf : Fr2 H k s H') (h1 : blkOf w ≠ some k) (h2 : ∀ c, blkOf w = some c → blkOf s ≠ some c) : OpenAt H' w l := by
  rcases h with h | ⟨b, h3, h4⟩
  · exact .inl h
  · exact .inr ⟨b, h3, hf.cell h4 (fun e => h1 (by rw [h3, ← e]; rfl)) (h2 b (by rw [h3]; rfl))⟩
theorem idx_cy {M : Mem} {w : Value} {l : List Cy} {i : Int} (hw : OpenAt M w l) (h0 : 0 ≤ i) (h1 : i.toNat < l.length) : ∃ b, absIndexAddr Tryd.prog M 28 w (.int .i64 i) = some (.pointer (some ⟨b, i.toNat * 8, none⟩)) ∧ M[b]? = some (.cells false (cysV l)) := by
  obtain ⟨b, rfl, hb⟩ := hw.blk (by omega)
  have hl : i < (l.length : Int) := by omega
  exact ⟨b, by simp [absIndexAddr, Tryd.underlying28, h0, hl], hb⟩
theorem fm_take {α β : Type} (f : α → List β) {l : List α} {i : Nat} (h : i < l.length) : (l.take (i + 1)).flatMap f = (l.take i).flatMap f ++ f l[i] := by rw [List.take_succ_eq_append_getElem h, List.flatMap_append]; simp only [List.flatMap_cons, List.flatMap_nil, List.append_nil]
theorem numsB_1 (n : Int) : numsB [n] = numB n := by simp [numsB]
theorem bsW2 (H : Mem) (a0 a1 : Int) : absBuildSlice Tryd.prog H 103 2 [(0, .int .i64 a0), (1, .int .i64 a1)] = some (.slice (some ⟨H.length, 0, none⟩) 2 1, H ++ [.cells false [.int .i64 a0, .int .i64 a1]]) := by kernel_rfl
theorem bsW4 (H : Mem) (a0 a1 a2 a3 : Int) : absBuildSlice Tryd.prog H 103 4 [(0, .int .i64 a0), (1, .int .i64 a1), (2, .int .i64 a2), (3, .int .i64 a3)] = some (.slice (some ⟨H.length, 0, none⟩) 4 1, H ++ [.cells false [.int .i64 a0, .int .i64 a1, .int .i64 a2, .int .i64 a3]]) := by kernel_rfl
theorem bsW5 (H : Mem) (a0 a1 a2 a3 a4 : Int) : absBuildSlice Tryd.prog H 103 5 [(0, .int .i64 a0), (1, .int .i64 a1), (2, .int .i64 a2), (3, .int .i64 a3), (4, .int .i64 a4)] = some (.slice (some ⟨H.length, 0, none⟩) 5 1, H ++ [.cells false [.int .i64 a0, .int .i64 a1, .int .i64 a2, .int .i64 a3, .int .i64 a4]]) := by kernel_rfl
theorem bsW6 (H : Mem) (a0 a1 a2 a3 a4 a5 : Int) : absBuildSlice Tryd.prog H 103 6 [(0, .int .i64 a0), (1, .int .i64 a1), (2, .int .i64 a2), (3, .int .i64 a3), (4, .int .i64 a4), (5, .int .i64 a5)] = some (.slice (some ⟨H.length, 0, none⟩) 6 1, H ++ [.cells false [.int .i64 a0, .int .i64 a1, .int .i64 a2, .int .i64 a3, .int .i64 a4, .int .i64 a5]]) := by kernel_rfl
theorem bsW7 (H : Mem) (a0 a1 a2 a3 a4 a5 a6 : Int) : absBuildSlice Tryd.prog H 103 7 [(0, .int .i64 a0), (1, .int .i64 a1), (2, .int .i64 a2), (3, .int .i64 a3), (4, .int .i64 a4), (5, .int .i64 a5), (6, .int .i64 a6)] = some (.slice (some ⟨H.length, 0, none⟩) 7 1, H ++ [.cells false [.int .i64 a0, .int .i64 a1, .int .i64 a2, .int .i64 a3, .int .i64 a4, .int .i64 a5, .int .i64 a6]]) := by kernel_rfl
attribute [simp] bsW2 bsW4 bsW5 bsW6 bsW7
end Go.Den
namespace Go.Den
open Go Go.Proofs
set_option maxRecDepth 100000
set_option maxHeartbeats 1000000
set_option linter.all false
attribute [local simp] evOps evOp absOp absBox absAlloc absLoad absStore absField absIndexAddr absCells absBinOp absBin absInt absShift absUn absPick absNil absExtract absBuild absPlaces Instr.fill absBuiltin absMinMax plainV plainT allA flat cells_agg cells_int cells_bool cells_str cells_ptr cells_sl cells_map one_int one_bool one_str one_ptr one_sl one_map Act.eval Act.put Region.wanted yielded splice absCall TypeDesc.isRow
theorem bflag_s (on : Bool) {k : Nat} {s : Value} {c : List By} {e : Int} {H : Mem} (hB : BoxAt H k s c e) (hn : c.length ≤ 3900000000000) : FSem Tryd.prog [0] 72 #[.pointer (some ⟨k, 0, none⟩), .bool on] H fun v H' => Boxed H k s c e (numB (flN on)) 11 v H' := by
  refine FSem.ofK Tryd.func72 rfl ?_
  refine DK.from (b' := ⟨#[.pointer (some ⟨k, 0, none⟩), .bool on, undef, undef, undef, undef, undef, undef, undef, undef, undef, undef], []⟩) (by kernel_rfl) ?_
  refine DK.seq ?_
  refine DK.region (is := [0]) (by kernel_rfl) rfl ?_
  refine WK.run [0] (by simp; constructor <;> rfl) ?_
  refine WK.nil ?_
  refine DK.seq ?_
  refine DK.seq ?_
  refine DK.region (is := [0]) (by kernel_rfl) rfl ?_
  refine WK.run [0] (by simp; constructor <;> rfl) ?_
  refine WK.nil ?_
  refine DK.test rfl rfl (fun h => ?_) (fun h => ?_)
  · try simp only [h]
    replace h := Tr.out h
    have hon := h
    refine DK.seq ?_
    refine DK.region (is := [0, 1, 2, 3]) (by kernel_rfl) rfl ?_
    refine WK.run [0, 1] (by simp; constructor <;> rfl) ?_
    refine WK.call rfl (by simp) (by simp [Tryd.func44, Tryd.f44]; constructor <;> rfl) ?_
    refine FSem.mono (putl_g [1] hB rfl rfl (by omega)) ?_
    rintro _ M1 hX
    replace hX := hX.row (numsB_1 _)
    obtain ⟨s1, c1, rfl, hX⟩ := hX
    refine WK.run [3] (by simp; constructor <;> rfl) ?_
    refine WK.nil ?_
    refine DK.ret ?_
    refine And.intro (Or.inr rfl) ?_
    refine ⟨_, by simp [absAnswer, absResults, absResult, Tryd.f72]; rfl, ?_⟩
    subst hon
    exact ⟨s1, c1, rfl, hX⟩
  try simp only [h]
  replace h := Fa.out h
  have hon := h
  refine DK.skip ?_
  refine DK.seq ?_
  refine DK.region (is := [0, 1, 2, 3]) (by kernel_rfl) rfl ?_
  refine WK.run [0, 1] (by simp; constructor <;> rfl) ?_
  refine WK.call rfl (by simp) (by simp [Tryd.func44, Tryd.f44]; constructor <;> rfl) ?_
  refine FSem.mono (putl_g [0] hB rfl rfl (by omega)) ?_
  rintro _ M1 hX
  replace hX := hX.row (numsB_1 _)
  obtain ⟨s1, c1, rfl, hX⟩ := hX
  refine WK.run [3] (by simp; constructor <;> rfl) ?_
  refine WK.nil ?_
  refine DK.ret ?_
  refine And.intro (Or.inr rfl) ?_
  refine ⟨_, by simp [absAnswer, absResults, absResult, Tryd.f72]; rfl, ?_⟩
  subst hon
  exact ⟨s1, c1, rfl, hX⟩
theorem plput_s (p : Pl) {k : Nat} {s : Value} {c : List By} {e : Int} {H : Mem} (hB0 : BoxAt H k s c e) (hn : c.length ≤ 3800000000000) : FSem Tryd.prog [0] 45 #[.pointer (some ⟨k, 0, none⟩), p.v] H fun v H' => ∃ s' c', c' = c ++ numsB (plN p) ∧ c'.length ≤ c.length + 66 ∧ BoxAt H' k s' c' e ∧ Fr2 H k s H' ∧ Src H s s' := by
  refine FSem.ofK Tryd.func45 rfl ?_
  refine DK.from (b' := ⟨#[.pointer (some ⟨k, 0, none⟩), p.v, undef, undef, undef, undef, undef, undef, undef, undef, undef, undef, undef, undef, undef, undef, undef, undef, undef, undef, undef, undef], []⟩) (by kernel_rfl) ?_
  have b := trivial
  have a := trivial
  refine DK.seq ?_
  refine DK.region (is := [0]) (by kernel_rfl) rfl ?_
  refine WK.run [0] (by simp [b, a]; constructor <;> rfl) ?_
  refine WK.nil ?_
  refine DK.abs (fun M0 => Keep H M0 ∧ M0[H.length]? = some (.cells false (p.l))) ⟨Keep.app _ _, by simp⟩ ?_
  rintro M0 ⟨hK, q0⟩
  have o_cp := OwnB.new hB0 q0
  have hB := hB0.keep hK
  have hFH := Fr2.of hK k s
  have hSH : Src _ s s := Src.refl H s
  have hSO := hSH
  replace b := o_cp.cell
  replace a := cellr b
  refine DK.draw rfl (POk.of (ord := [0, 1, 2, 3, 4, 5, 6, 7, 8, 9, 10, 12, 13, 15, 16, 11, 14, 17]) (by kernel_rfl)) ?_
  refine XK.run [0, 1, 2, 3, 4, 5, 6, 7, 8, 9, 10, 12, 13, 15, 16] (by kernel_rfl) (by simp [b, a]; constructor <;> rfl) ?_
  refine XK.call rfl (by simp [b, a]) rfl (by simp [Tryd.func44, Tryd.f44, b, a]; constructor <;> rfl) ?_
  refine FSem.mono (putl_g [p.pr, IntKind.i64.wrap p.un, p.ev, p.tr] hB rfl rfl (by omega)) ?_
  rintro _ M1 ⟨s1, c1, rfl, hc1, hl1, hB, hF1, hS1⟩
  replace hSH := hSH.trans hFH.1 hS1
  replace hFH := hFH.trans hSO hF1
  replace hSO := hSH
  replace o_cp := o_cp.go hF1 hS1
  replace b := o_cp.cell
  replace a := cellr b
  refine And.intro (lag_list (l := [13, 16]) (by kernel_rfl) (lag_cons (lag_one rfl (by simp [b, a]; constructor <;> rfl) rfl (by simp [b, a]) (by simp [sameL, sameV_agg, sameV_int, sameV_bool, sameV_str, sameV_ptr, sameV_sl, sameV_map, same1_int, same1_bool, same1_str, same1_ptr, same1_sl, same1_map, b, a]) rfl) (lag_cons (lag_one rfl (by simp [b, a]; constructor <;> rfl) rfl (by simp [b, a]) (by simp [sameL, sameV_agg, sameV_int, sameV_bool, sameV_str, sameV_ptr, sameV_sl, sameV_map, same1_int, same1_bool, same1_str, same1_ptr, same1_sl, same1_map, b, a]) rfl) rfl))) ?_
  refine XK.call rfl (by simp [b, a]) rfl (by simp [Tryd.func72, Tryd.f72, b, a]; constructor <;> rfl) ?_
  refine FSem.mono (bflag_s (p.go) hB (by omega)) ?_
  rintro _ M2 ⟨s2, c2, rfl, hc2, hl2, hB, hF2, hS2⟩
  replace hSH := hSH.trans hFH.1 hS2
  replace hFH := hFH.trans hSO hF2
  replace hSO := hSH
  replace o_cp := o_cp.go hF2 hS2
  replace b := o_cp.cell
  replace a := cellr b
  refine And.intro (lag_list (l := [16]) (by kernel_rfl) (lag_cons (lag_one rfl (by simp [b, a]; constructor <;> rfl) rfl (by simp [b, a]) (by simp [sameL, sameV_agg, sameV_int, sameV_bool, sameV_str, sameV_ptr, sameV_sl, sameV_map, same1_int, same1_bool, same1_str, same1_ptr, same1_sl, same1_map, b, a]) rfl) rfl)) ?_
  refine XK.call rfl (by simp [b, a]) rfl (by simp [Tryd.func72, Tryd.f72, b, a]; constructor <;> rfl) ?_
  refine FSem.mono (bflag_s (p.la) hB (by omega)) ?_
  rintro _ M3 ⟨s3, c3, rfl, hc3, hl3, hB, hF3, hS3⟩
  replace hSH := hSH.trans hFH.1 hS3
  replace hFH := hFH.trans hSO hF3
  replace hSO := hSH
  replace o_cp := o_cp.go hF3 hS3
  replace b := o_cp.cell
  replace a := cellr b
  refine And.intro (lag_list (l := []) (by kernel_rfl) rfl) ?_
  refine XK.nil ?_
  refine And.intro (Or.inl rfl) ?_
  refine ⟨_, by simp [absAnswer, absResults, absResult, Tryd.f45]; rfl, ?_⟩
  exact ⟨_, _, by rw [hc3, hc2, hc1]; simp [plN, numsB], by omega, hB, hFH, hSH⟩
end Go.Den
namespace Go.Den
open Go Go.Proofs
set_option maxRecDepth 100000
set_option maxHeartbeats 1000000
set_option linter.all false
attribute [local simp] evOps evOp absOp absBox absAlloc absLoad absStore absField absCells absBinOp absBin absInt absShift absUn absPick absNil absExtract absBuild absPlaces Instr.fill absBuiltin absMinMax plainV plainT allA flat cells_agg cells_int cells_bool cells_str cells_ptr cells_sl cells_map one_int one_bool one_str one_ptr one_sl one_map Act.eval Act.put Region.wanted yielded splice absCall TypeDesc.isRow
theorem aput_s (a : Ac) {sa : Value} {k : Nat} {s : Value} {c : List By} {e : Int} {H : Mem} (hB0 : BoxAt H k s c e) (hO0 : OpenAt H sa a.op) (h1 : blkOf sa ≠ some k) (h2 : ∀ c, blkOf sa = some c → blkOf s ≠ some c) (hn : c.length + 88 * a.op.length ≤ 3700000000000) : FSem Tryd.prog [0] 46 #[.pointer (some ⟨k, 0, none⟩), a.v sa] H fun v H' => ∃ s' c', c' = c ++ numsB (acN a) ∧ c'.length ≤ c.length + 200 + 88 * a.op.length ∧ BoxAt H' k s' c' e ∧ Fr2 H k s H' ∧ Src H s s' := by
  refine FSem.ofK Tryd.func46 rfl ?_
  refine DK.from (b' := ⟨#[.pointer (some ⟨k, 0, none⟩), a.v sa, undef, undef, undef, undef, undef, undef, undef, undef, undef, undef, undef, undef, undef, undef, undef, undef, undef, undef, undef, undef, undef, undef, undef, undef, undef, undef, undef, undef, undef, undef, undef, undef, undef, undef, undef, undef, undef, undef, undef, undef, undef, undef, undef, undef, undef, undef, undef, undef, undef, undef, undef, undef, undef, undef, undef, undef, undef, undef, undef, undef, undef, undef, undef, undef, undef, undef, undef, undef, undef, undef, undef, undef, undef, undef, undef, undef, undef], []⟩) (by kernel_rfl) ?_
  have w := trivial
  have f := trivial
  have x := trivial
  have g := trivial
  have y := trivial
  have j := trivial
  have m := trivial
  have n := trivial
  have o := trivial
  have p := trivial
  have d := trivial
  have z := trivial
  have q := trivial
  have r := trivial
  have t := trivial
  have u := trivial
  replace t := hO0.cells.1
  replace u := hO0.cells.2
  replace p := hO0.lenK
  refine DK.seq ?_
  refine DK.region (is := [0]) (by kernel_rfl) rfl ?_
  refine WK.run [0] (by simp [w, f, x, g, y, j, m, n, o, p, d, z, q, r, t, u, Cy.cells]; constructor <;> rfl) ?_
  refine WK.nil ?_
  refine DK.abs (fun M0 => Keep H M0 ∧ M0[H.length]? = some (.cells false (a.l sa))) ⟨Keep.app _ _, by simp⟩ ?_
  rintro M0 ⟨hK, q0⟩
  have o_ca := OwnB.new hB0 q0
  have hB := hB0.keep hK
  have hFH := Fr2.of hK k s
  have hSH : Src _ s s := Src.refl H s
  have hSO := hSH
  replace w := o_ca.cell
  replace f := cellr w
  refine DK.seq ?_
  refine DK.region (is := [0, 1, 2, 3, 4, 5]) (by kernel_rfl) rfl ?_
  refine WK.run [0, 1, 2, 3] (by simp [w, f, x, g, y, j, m, n, o, p, d, z, q, r, t, u, Cy.cells]; constructor <;> rfl) ?_
  refine WK.run [4] (by simp [w, f, x, g, y, j, m, n, o, p, d, z, q, r, t, u, Cy.cells]; constructor <;> rfl) ?_
  refine WK.call rfl (by simp [w, f, x, g, y, j, m, n, o, p, d, z, q, r, t, u, Cy.cells]) (by simp [Tryd.func44, Tryd.f44, w, f, x, g, y, j, m, n, o, p, d, z, q, r, t, u, Cy.cells]; constructor <;> rfl) ?_
  refine FSem.mono (putl_g [IntKind.i64.wrap a.st] hB rfl rfl (by omega)) ?_
  rintro _ M1 ⟨s1, c1, rfl, hc1, hl1, hB, hF1, hS1⟩
  replace hSH := hSH.trans hFH.1 hS1
  replace hFH := hFH.trans hSO hF1
  replace hSO := hSH
  replace o_ca := o_ca.go hF1 hS1
  replace w := o_ca.cell
  replace f := cellr w
  refine WK.nil ?_
  refine DK.seq ?_
  refine DK.seq ?_
  refine DK.region (is := [0, 1, 2]) (by kernel_rfl) rfl ?_
  refine WK.run [0, 1, 2] (by simp [w, f, x, g, y, j, m, n, o, p, d, z, q, r, t, u, Cy.cells]; constructor <;> rfl) ?_
  refine WK.nil ?_
  refine DK.test rfl rfl (fun h => ?_) (fun h => ?_)
  · try simp only [h]
    replace h := Tr.out h
    have hst := h
    refine DK.ret ?_
    refine And.intro (Or.inr rfl) ?_
    refine ⟨_, by simp [absAnswer, absResults, absResult, Tryd.f46]; rfl, ?_⟩
    first
      | exact ⟨_, _, by rw [hc1]; simp [acN, numsB, hst], by omega, hB, hFH, hSH⟩
      | (have hi : i = a.op.length := by omega
         subst hi
         exact ⟨_, _, by rw [hcc, hc4, hc3, hc2, hc1]; simp [acN, numsB, numsB_app, hst], by omega, hB, hFH, hSH⟩)
  try simp only [h]
  replace h := Fa.out h
  have hst := h
  refine DK.skip ?_
  refine DK.seq ?_
  refine DK.region (is := [0, 1, 2, 3]) (by kernel_rfl) rfl ?_
  refine WK.run [0, 1, 2, 3] (by simp [w, f, x, g, y, j, m, n, o, p, d, z, q, r, t, u, Cy.cells]; constructor <;> rfl) ?_
  refine WK.nil ?_
  refine DK.abs (fun M2 => Keep M1 M2 ∧ M2[M1.length]? = some (.cells false ([.int .i64 a.dn, .int .i64 a.up, .int .i64 a.rf, .int .i64 a.sp, .int .i64 a.pd]))) ⟨Keep.app _ _, by simp⟩ ?_
  rintro M2 ⟨hK, q0⟩
  have o_cq := OwnB.new hB q0
  replace hB := hB.keep hK
  replace hFH := hFH.trans hSO (Fr2.of hK k _)
  replace o_ca := o_ca.kp hK
  replace w := o_ca.cell
  replace f := cellr w
  replace x := o_cq.cell
  replace g := cellr x
  refine DK.seq ?_
  refine DK.draw rfl (POk.of (ord := [0, 1, 2, 3, 4, 5, 6, 7, 8, 9, 10, 11, 13, 14, 12, 15]) (by kernel_rfl)) ?_
  refine XK.run [0, 1, 2, 3] (by kernel_rfl) (by simp [w, f, x, g, y, j, m, n, o, p, d, z, q, r, t, u, Cy.cells]; constructor <;> rfl) ?_
  refine XK.run [4, 5, 6, 7] (by kernel_rfl) (by simp [w, f, x, g, y, j, m, n, o, p, d, z, q, r, t, u, Cy.cells]; constructor <;> rfl) ?_
  refine XK.run [8, 9, 10, 11] (by kernel_rfl) (by simp [w, f, x, g, y, j, m, n, o, p, d, z, q, r, t, u, Cy.cells]; constructor <;> rfl) ?_
  refine XK.run [13, 14] (by kernel_rfl) (by simp [w, f, x, g, y, j, m, n, o, p, d, z, q, r, t, u, Cy.cells]; constructor <;> rfl) ?_
  refine XK.call rfl (by simp [w, f, x, g, y, j, m, n, o, p, d, z, q, r, t, u, Cy.cells]) rfl (by simp [Tryd.func44, Tryd.f44, w, f, x, g, y, j, m, n, o, p, d, z, q, r, t, u, Cy.cells]; constructor <;> rfl) ?_
  refine FSem.mono (putl_g [a.pl, a.an, a.ix, a.ct, a.cr] hB rfl rfl (by omega)) ?_
  rintro _ M2 ⟨s2, c2, rfl, hc2, hl2, hB, hF2, hS2⟩
  replace hSH := hSH.trans hFH.1 hS2
  replace hFH := hFH.trans hSO hF2
  replace hSO := hSH
  replace o_ca := o_ca.go hF2 hS2
  replace w := o_ca.cell
  replace f := cellr w
  replace o_cq := o_cq.go hF2 hS2
  replace x := o_cq.cell
  replace g := cellr x
  refine And.intro (lag_list (l := [14]) (by kernel_rfl) (lag_cons (lag_one rfl (by simp [w, f, x, g, y, j, m, n, o, p, d, z, q, r, t, u, Cy.cells]; constructor <;> rfl) rfl (by simp [w, f, x, g, y, j, m, n, o, p, d, z, q, r, t, u, Cy.cells]) (by simp [sameL, sameV_agg, sameV_int, sameV_bool, sameV_str, sameV_ptr, sameV_sl, sameV_map, same1_int, same1_bool, same1_str, same1_ptr, same1_sl, same1_map, w, f, x, g, y, j, m, n, o, p, d, z, q, r, t, u, Cy.cells]) rfl) rfl)) ?_
  refine XK.call rfl (by simp [w, f, x, g, y, j, m, n, o, p, d, z, q, r, t, u, Cy.cells]) rfl (by simp [Tryd.func72, Tryd.f72, w, f, x, g, y, j, m, n, o, p, d, z, q, r, t, u, Cy.cells]; constructor <;> rfl) ?_
  refine FSem.mono (bflag_s (a.sk) hB (by omega)) ?_
  rintro _ M3 ⟨s3, c3, rfl, hc3, hl3, hB, hF3, hS3⟩
  replace hSH := hSH.trans hFH.1 hS3
  replace hFH := hFH.trans hSO hF3
  replace hSO := hSH
  replace o_ca := o_ca.go hF3 hS3
  replace w := o_ca.cell
  replace f := cellr w
  replace o_cq := o_cq.go hF3 hS3
  replace x := o_cq.cell
  replace g := cellr x
  refine And.intro (lag_list (l := []) (by kernel_rfl) rfl) ?_
  refine XK.nil ?_
  refine DK.seq ?_
  refine DK.region (is := [0, 1, 2, 3, 4, 5, 6, 7, 8, 9, 10, 11, 12, 13, 14, 15]) (by kernel_rfl) rfl ?_
  refine WK.run [0, 1, 2, 3] (by simp [w, f, x, g, y, j, m, n, o, p, d, z, q, r, t, u, Cy.cells]; constructor <;> rfl) ?_
  refine WK.run [4, 5, 6, 7] (by simp [w, f, x, g, y, j, m, n, o, p, d, z, q, r, t, u, Cy.cells]; constructor <;> rfl) ?_
  refine WK.run [8, 9, 10, 11] (by simp [w, f, x, g, y, j, m, n, o, p, d, z, q, r, t, u, Cy.cells]; constructor <;> rfl) ?_
  refine WK.run [12, 13, 14] (by simp [w, f, x, g, y, j, m, n, o, p, d, z, q, r, t, u, Cy.cells]; constructor <;> rfl) ?_
  refine WK.call rfl (by simp [w, f, x, g, y, j, m, n, o, p, d, z, q, r, t, u, Cy.cells]) (by simp [Tryd.func44, Tryd.f44, w, f, x, g, y, j, m, n, o, p, d, z, q, r, t, u, Cy.cells]; constructor <;> rfl) ?_
  refine FSem.mono (putl_g [a.dn, a.up, a.rf, a.sp, a.pd, a.op.length] hB rfl rfl (by omega)) ?_
  rintro _ M4 ⟨s4, c4, rfl, hc4, hl4, hB, hF4, hS4⟩
  replace hSH := hSH.trans hFH.1 hS4
  replace hFH := hFH.trans hSO hF4
  replace hSO := hSH
  replace o_ca := o_ca.go hF4 hS4
  replace w := o_ca.cell
  replace f := cellr w
  replace o_cq := o_cq.go hF4 hS4
  replace x := o_cq.cell
  replace g := cellr x
  refine WK.nil ?_
  refine DK.seq ?_
  refine DK.region (is := [0, 1, 2, 3]) (by kernel_rfl) rfl ?_
  refine WK.run [0, 1, 2, 3] (by simp [w, f, x, g, y, j, m, n, o, p, d, z, q, r, t, u, Cy.cells]; constructor <;> rfl) ?_
  refine WK.nil ?_
  have hO := hO0.fr2 hFH h1 h2
  refine DK.block ?_
  refine DK.loopF [6, 53, 54, 55, 56, 57, 58, 59, 60, 61, 62, 63, 64, 65, 66, 67, 68, 69, 70, 71, 72, 73, 74, 75, 76, 77, 78] [53] (fun fl vs H' => ∃ (i : Int) (s5 : Value) (c5 : List By), vs = [.int .i64 i] ∧ (c5 = c4 ++ numsB ((a.op.take i.toNat).flatMap cyN) ∧ c5.length ≤ c4.length + 88 * i.toNat ∧ BoxAt H' k s5 c5 e ∧ Fr2 H k s H' ∧ Src H s s5) ∧ 0 ≤ i ∧ i ≤ a.op.length ∧ fl = (a.op.length - i).toNat) (a.op.length) (by kernel_rfl) ?_ ?_
  · refine ⟨_, s4, c4, rfl, ?_⟩
    exact ⟨⟨by simp [numsB], by simp, hB, hFH, hSH⟩, by omega, by omega, by omega⟩
  rintro fl f1j M ⟨i, s5, c5, hv, hf⟩
  clear hB hFH hSH hSO hO
  obtain ⟨⟨hcc, hcl, hB, hFH, hSH⟩, hi0, hi1, hfl⟩ := hf
  have hSO := hSH
  have hO := hO0.fr2 hFH h1 h2
  simp only [List.map_cons, List.map_nil, List.cons.injEq, and_true] at hv
  have hv1_0 := hv
  refine DK.from ((setL_S (by decide) _ _).trans (by simp [setS, hv1_0]; exact rfl)) ?_
  refine DK.seq ?_
  refine DK.region (is := [0]) (by kernel_rfl) rfl ?_
  refine WK.run [0] (by simp [w, f, x, g, y, j, m, n, o, p, d, z, q, r, t, u, Cy.cells]; constructor <;> rfl) ?_
  refine WK.nil ?_
  refine DK.seq ?_
  refine DK.test rfl rfl (fun h => ?_) (fun h => ?_)
  · try simp only [h]
    replace h := Tr.out h
    replace n : 0 ≤ i := hi0
    replace m : IntKind.i64.wrap (i + 1) = i + 1 := wrap_in _ (by omega) (by omega)
    replace o : i < a.op.length := h
    have hil : i.toNat < a.op.length := by omega
    obtain ⟨b, hidx0, hb0⟩ := idx_cy hO hi0 hil
    replace d := hidx0
    replace z := hb0
    replace q := cys_get hil
    replace r : i.toNat * 8 + 8 ≤ a.op.length * 8 := by omega
    refine DK.skip ?_
    refine DK.seq ?_
    refine DK.block ?_
    refine DK.seq ?_
    refine DK.region (is := [0, 1, 2, 3]) (by kernel_rfl) rfl ?_
    refine WK.run [0, 1, 2, 3] (by simp [w, f, x, g, y, j, m, n, o, p, d, z, q, r, t, u, Cy.cells]; constructor <;> rfl) ?_
    refine WK.nil ?_
    refine DK.abs (fun MC => Keep M MC ∧ MC[M.length]? = some (.cells false (a.op[i.toNat].l))) ⟨Keep.app _ _, by simp⟩ ?_
    rintro MC ⟨hK, q0⟩
    have o_cy := OwnB.new hB q0
    replace hB := hB.keep hK
    replace hFH := hFH.trans hSO (Fr2.of hK k _)
    replace y := o_cy.cell
    replace j := cellr y
    refine DK.draw rfl (POk.of (ord := [0, 1, 2, 3, 4, 5, 6, 7, 8, 9, 10, 11, 12, 13, 14, 15, 16, 18, 19, 17, 20]) (by kernel_rfl)) ?_
    refine XK.run [0, 1, 2, 3] (by kernel_rfl) (by simp [w, f, x, g, y, j, m, n, o, p, d, z, q, r, t, u, Cy.cells]; constructor <;> rfl) ?_
    refine XK.run [4, 5, 6, 7] (by kernel_rfl) (by simp [w, f, x, g, y, j, m, n, o, p, d, z, q, r, t, u, Cy.cells]; constructor <;> rfl) ?_
    refine XK.run [8, 9, 10, 11] (by kernel_rfl) (by simp [w, f, x, g, y, j, m, n, o, p, d, z, q, r, t, u, Cy.cells]; constructor <;> rfl) ?_
    refine XK.run [12, 13, 14, 15] (by kernel_rfl) (by simp [w, f, x, g, y, j, m, n, o, p, d, z, q, r, t, u, Cy.cells]; constructor <;> rfl) ?_
    refine XK.run [16, 18, 19] (by kernel_rfl) (by simp [w, f, x, g, y, j, m, n, o, p, d, z, q, r, t, u, Cy.cells]; constructor <;> rfl) ?_
    refine XK.call rfl (by simp [w, f, x, g, y, j, m, n, o, p, d, z, q, r, t, u, Cy.cells]) rfl (by simp [Tryd.func44, Tryd.f44, w, f, x, g, y, j, m, n, o, p, d, z, q, r, t, u, Cy.cells]; constructor <;> rfl) ?_
    refine FSem.mono (putl_g [a.op[i.toNat].no, a.op[i.toNat].due, IntKind.i64.wrap a.op[i.toNat].ph, a.op[i.toNat].am, a.op[i.toNat].us, a.op[i.toNat].tr, a.op[i.toNat].nx] hB rfl rfl (by omega)) ?_
    rintro _ M5 ⟨s5, c5, rfl, hc5, hl5, hB, hF5, hS5⟩
    replace hSH := hSH.trans hFH.1 hS5
    replace hFH := hFH.trans hSO hF5
    replace hSO := hSH
    replace o_cy := o_cy.go hF5 hS5
    replace y := o_cy.cell
    replace j := cellr y
    refine And.intro (lag_list (l := [19]) (by kernel_rfl) (lag_cons (lag_one rfl (by simp [w, f, x, g, y, j, m, n, o, p, d, z, q, r, t, u, Cy.cells]; constructor <;> rfl) rfl (by simp [w, f, x, g, y, j, m, n, o, p, d, z, q, r, t, u, Cy.cells]) (by simp [sameL, sameV_agg, sameV_int, sameV_bool, sameV_str, sameV_ptr, sameV_sl, sameV_map, same1_int, same1_bool, same1_str, same1_ptr, same1_sl, same1_map, w, f, x, g, y, j, m, n, o, p, d, z, q, r, t, u, Cy.cells]) rfl) rfl)) ?_
    refine XK.call rfl (by simp [w, f, x, g, y, j, m, n, o, p, d, z, q, r, t, u, Cy.cells]) rfl (by simp [Tryd.func72, Tryd.f72, w, f, x, g, y, j, m, n, o, p, d, z, q, r, t, u, Cy.cells]; constructor <;> rfl) ?_
    refine FSem.mono (bflag_s (a.op[i.toNat].gd) hB (by omega)) ?_
    rintro _ M6 ⟨s6, c6, rfl, hc6, hl6, hB, hF6, hS6⟩
    replace hSH := hSH.trans hFH.1 hS6
    replace hFH := hFH.trans hSO hF6
    replace hSO := hSH
    replace o_cy := o_cy.go hF6 hS6
    replace y := o_cy.cell
    replace j := cellr y
    refine And.intro (lag_list (l := []) (by kernel_rfl) rfl) ?_
    refine XK.nil ?_
    refine DK.region (is := [0, 1]) (by kernel_rfl) rfl ?_
    refine WK.run [0, 1] (by simp [w, f, x, g, y, j, m, n, o, p, d, z, q, r, t, u, Cy.cells]; constructor <;> rfl) ?_
    refine WK.nil ?_
    refine ⟨by kernel_rfl, (a.op.length - (i + 1)).toNat, ?_, _, s6, c6, rfl, ?_⟩
    · omega
    · rw [show (i + 1).toNat = i.toNat + 1 by omega]
      exact ⟨⟨by rw [hc6, hc5, hcc, fm_take cyN hil, numsB_app]; simp [cyN, numsB], by omega, hB, hFH, hSH⟩, by omega, by omega, rfl⟩
  try simp only [h]
  replace h := Fa.out h
  refine DK.exit ?_
  refine And.intro (Or.inl rfl) ?_
  refine ⟨_, by simp [absAnswer, absResults, absResult, Tryd.f46]; rfl, ?_⟩
  first
    | exact ⟨_, _, by rw [hc1]; simp [acN, numsB, hst], by omega, hB, hFH, hSH⟩
    | (have hi : i = a.op.length := by omega
       subst hi
       exact ⟨_, _, by rw [hcc, hc4, hc3, hc2, hc1]; simp [acN, numsB, numsB_app, hst], by omega, hB, hFH, hSH⟩)
end Go.Den
namespace Go.Den
open Go Go.Proofs
set_option maxRecDepth 100000
set_option maxHeartbeats 1000000
set_option linter.all false
attribute [local simp] evOps evOp absOp absBox absLoad absStore absField absIndexAddr absCells absBinOp absBin absInt absShift absUn absPick absNil absExtract absPlaces Instr.fill absBuiltin absMinMax plainV plainT allA flat cells_agg cells_int cells_bool cells_str cells_ptr cells_sl cells_map one_int one_bool one_str one_ptr one_sl one_map Act.eval Act.put Region.wanted yielded absCall TypeDesc.isRow
attribute [local simp high] bk_t bk_p bk_take bk_row BkL_len sp_bk sp_t sp_p
attribute [local simp] sp_nil sp_0 sp_s List.length_set
theorem getp_s (l : List Pl) (n : Int) {s : Value} {H : Mem} (hR : RowAt H s l) : FSem Tryd.prog [0] 55 #[s, .int .i64 n] H fun v H' => v = .tuple #[(getP l n).1.v, .int .i64 (getP l n).2] ∧ H' = H := by
  refine FSem.plainT ?_
  refine FSem.ofK Tryd.func55 rfl ?_
  refine DK.from (b' := ⟨#[s, .int .i64 n, undef, undef, undef, undef, undef, undef, undef, undef, undef, undef, undef, undef, undef, undef, undef, undef, undef], []⟩) (by kernel_rfl) ?_
  have d := trivial
  have a := trivial
  have c := trivial
  have e := trivial
  have f := trivial
  have hln := lenPl hR
  refine DK.seq ?_
  refine DK.region (is := [0, 1]) (by kernel_rfl) rfl ?_
  refine WK.run [0, 1] (by simp [d, a, c, e, f, hln]; constructor <;> rfl) ?_
  refine WK.nil ?_
  refine DK.seq ?_
  refine DK.seq ?_
  refine DK.region (is := [0, 1, 2, 3, 4, 5, 6, 7]) (by kernel_rfl) rfl ?_
  refine WK.run [0, 1, 2] (by simp [d, a, c, e, f, hln]; constructor <;> rfl) ?_
  refine WK.split (t := 8) rfl (fun h => ?_) (fun h => ?_)
  · try simp only [h]
    replace h := Tr.out h
    refine WK.run [3, 4, 5, 6, 7] (by simp [d, a, c, e, f, hln]; constructor <;> rfl) ?_
    refine WK.nil ?_
    refine DK.yes rfl rfl ?_
    refine DK.seq ?_
    refine DK.region (is := [0, 1, 2]) (by kernel_rfl) rfl ?_
    refine WK.run [0, 1, 2] (by simp [d, a, c, e, f, hln]; constructor <;> rfl) ?_
    refine WK.nil ?_
    refine DK.ret ?_
    refine And.intro (Or.inr rfl) ?_
    refine ⟨_, by simp [absAnswer, absResults, absResult, Tryd.f55]; rfl, ?_⟩
    refine ⟨by first | exact ⟨[], (List.append_nil _).symm⟩ | exact ⟨_, rfl⟩, by simp, ?_⟩
    first
      | (rw [hgd]; done)
      | (rw [hgd]; simp; done)
      | (simp_all [getP, zeroP] <;> (try omega))
  try simp only [h]
  replace h := Fa.out h
  refine WK.run [3, 4, 5, 6, 7] (by simp [d, a, c, e, f, hln]; constructor <;> rfl) ?_
  refine WK.nil ?_
  refine DK.test rfl rfl (fun h => ?_) (fun h => ?_)
  · try simp only [h]
    replace h := Tr.out h
    refine DK.seq ?_
    refine DK.region (is := [0, 1, 2]) (by kernel_rfl) rfl ?_
    refine WK.run [0, 1, 2] (by simp [d, a, c, e, f, hln]; constructor <;> rfl) ?_
    refine WK.nil ?_
    refine DK.ret ?_
    refine And.intro (Or.inr rfl) ?_
    refine ⟨_, by simp [absAnswer, absResults, absResult, Tryd.f55]; rfl, ?_⟩
    refine ⟨by first | exact ⟨[], (List.append_nil _).symm⟩ | exact ⟨_, rfl⟩, by simp, ?_⟩
    first
      | (rw [hgd]; done)
      | (rw [hgd]; simp; done)
      | (simp_all [getP, zeroP] <;> (try omega))
  try simp only [h]
  replace h := Fa.out h
  have e : 0 ≤ n := by omega
  have hil : n.toNat < l.length := by omega
  have f : n < (l.length : Int) := by omega
  obtain ⟨b, o, ro, vs, rfl, hb, a, c⟩ := hR.blk hil
  replace d : ∀ r : Mem, (H ++ r)[b]? = some (.cells ro vs) := fun r => by rw [List.getElem?_append_left (List.getElem?_eq_some_iff.1 hb).1]; exact hb
  replace a : o + n.toNat * 6 + 6 ≤ vs.length := a
  replace c : List.take 6 (List.drop (o + n.toNat * 6) vs) = l[n.toNat].l := c
  have hgd : getP l n = (l[n.toNat], 0) := by unfold getP; rw [if_neg (by omega)]; simp [List.getD_eq_getElem?_getD, List.getElem?_eq_getElem hil]
  refine DK.skip ?_
  refine DK.seq ?_
  refine DK.region (is := [0, 1, 2, 3, 4, 5]) (by kernel_rfl) rfl ?_
  refine WK.run [0, 1, 2, 3, 4, 5] (by simp [d, a, c, e, f, hln]; constructor <;> rfl) ?_
  refine WK.nil ?_
  refine DK.ret ?_
  refine And.intro (Or.inr rfl) ?_
  refine ⟨_, by simp [absAnswer, absResults, absResult, Tryd.f55]; rfl, ?_⟩
  refine ⟨by first | exact ⟨[], (List.append_nil _).symm⟩ | exact ⟨_, rfl⟩, by simp, ?_⟩
  first
    | (rw [hgd]; done)
    | (rw [hgd]; simp; done)
    | (simp_all [getP, zeroP] <;> (try omega))
theorem addp_s (l : List Pl) (p : Pl) {s : Value} {H : Mem} (hR : RowAt H s l) : FSem Tryd.prog [0] 30 #[s, p.v] H fun v H' => ∃ s', v = .tuple #[s', .int .i64 (addPl l p).2.1, .int .i64 (addPl l p).2.2] ∧ RowOut H (addPl l p).1 s' H' := by
  refine FSem.ofK Tryd.func30 rfl ?_
  refine DK.from (b' := ⟨#[s, p.v, undef, undef, undef, undef, undef, undef, undef, undef, undef, undef, undef, undef, undef, undef, undef, undef, undef, undef, undef, undef, undef], []⟩) (by kernel_rfl) ?_
  have a := trivial
  have b := trivial
  have c := trivial
  have hln := lenPl hR
  refine DK.seq ?_
  refine DK.region (is := [0, 1, 2, 3]) (by kernel_rfl) rfl ?_
  refine WK.run [0, 1, 2, 3] (by simp [hln, a, b, c]; constructor <;> rfl) ?_
  refine WK.nil ?_
  refine DK.seq ?_
  refine DK.seq ?_
  refine DK.region (is := [0, 1, 2]) (by kernel_rfl) rfl ?_
  refine WK.run [0] (by simp [hln, a, b, c]; constructor <;> rfl) ?_
  refine WK.call rfl (by simp [hln, a, b, c]) (by simp [Tryd.func28, Tryd.f28, hln, a, b, c]; constructor <;> rfl) ?_
  refine FSem.mono (pright_s ⟨_, _, _, _, _, _⟩ _) ?_
  rintro _ _ ⟨rfl, rfl⟩
  refine WK.run [2] (by simp [hln, a, b, c]; constructor <;> rfl) ?_
  refine WK.nil ?_
  refine DK.seq ?_
  refine DK.region (is := [0, 1]) (by kernel_rfl) rfl ?_
  refine WK.run [0, 1] (by simp [hln, a, b, c]; constructor <;> rfl) ?_
  refine WK.nil ?_
  refine DK.test rfl rfl (fun h => ?_) (fun h => ?_)
  · try simp only [h]
    replace h := Tr.out h
    refine DK.seq ?_
    refine DK.region (is := [0, 1, 2, 3]) (by kernel_rfl) rfl ?_
    refine WK.run [0, 1, 2, 3] (by simp [hln, a, b, c]; constructor <;> rfl) ?_
    refine WK.nil ?_
    refine DK.ret ?_
    refine And.intro (Or.inr rfl) ?_
    refine ⟨_, by simp [absAnswer, absResults, absResult, Tryd.f30]; rfl, ?_⟩
    first
      | (have hres : addPl l p = ([], 0, rightPl p) := if_pos ‹_›
         exact ⟨_, by rw [hres], ⟨_, rfl⟩, by rw [hres]; exact RowAt.nil _, Own.nil _ _ _, New.nil _ _ _⟩)
      | (have hres : addPl l p = ([], 0, 3) := by unfold addPl; rw [if_neg (by simp [*]), if_pos (by omega)]
         exact ⟨_, by rw [hres], ⟨_, rfl⟩, by rw [hres]; exact RowAt.nil _, Own.nil _ _ _, New.nil _ _ _⟩)
      | (have hres : addPl l p = (l ++ [p], (l.length : Int), 0) := by unfold addPl; rw [if_neg (by simp [*]), if_neg (by omega)]
         exact ⟨_, by rw [hres], hkp.ext, by rw [hres]; exact hR2, hW2, hN2⟩)
  try simp only [h]
  replace h := Fa.out h
  refine DK.skip ?_
  refine DK.seq ?_
  refine DK.seq ?_
  refine DK.region (is := [0, 1, 2]) (by kernel_rfl) rfl ?_
  refine WK.run [0, 1, 2] (by simp [hln, a, b, c]; constructor <;> rfl) ?_
  refine WK.nil ?_
  refine DK.test rfl rfl (fun h => ?_) (fun h => ?_)
  · try simp only [h]
    replace h := Tr.out h
    refine DK.seq ?_
    refine DK.region (is := [0, 1, 2]) (by kernel_rfl) rfl ?_
    refine WK.run [0, 1, 2] (by simp [hln, a, b, c]; constructor <;> rfl) ?_
    refine WK.nil ?_
    refine DK.ret ?_
    refine And.intro (Or.inr rfl) ?_
    refine ⟨_, by simp [absAnswer, absResults, absResult, Tryd.f30]; rfl, ?_⟩
    first
      | (have hres : addPl l p = ([], 0, rightPl p) := if_pos ‹_›
         exact ⟨_, by rw [hres], ⟨_, rfl⟩, by rw [hres]; exact RowAt.nil _, Own.nil _ _ _, New.nil _ _ _⟩)
      | (have hres : addPl l p = ([], 0, 3) := by unfold addPl; rw [if_neg (by simp [*]), if_pos (by omega)]
         exact ⟨_, by rw [hres], ⟨_, rfl⟩, by rw [hres]; exact RowAt.nil _, Own.nil _ _ _, New.nil _ _ _⟩)
      | (have hres : addPl l p = (l ++ [p], (l.length : Int), 0) := by unfold addPl; rw [if_neg (by simp [*]), if_neg (by omega)]
         exact ⟨_, by rw [hres], hkp.ext, by rw [hres]; exact hR2, hW2, hN2⟩)
  try simp only [h]
  replace h := Fa.out h
  obtain ⟨s1, H1, ha1, hR1, hW1, hf1, hn1, _⟩ := appPl (H := H ++ [.cells false p.l, .cells false p.l]) (RowAt.nil _) (Own.nil _ _ _) (hR.apps _) (by simp; omega)
  have hk1 : Keep H H1 := (Keep.app _ _).trans ⟨hf1.1, fun k hk => hf1.2 k hk (by intro e; cases e)⟩
  replace hn1 : New (H.length + 2) s1 := by rcases hn1 with rfl | q; exact New.nil _ _ _; exact q.le (by simp)
  replace c : H1[H.length]? = some (.cells false p.l) := by rw [hf1.2 _ (by simp) (by intro e; cases e)]; simp
  have hx1 : RowAt H1 (.slice (some ⟨H.length + 1, 0, none⟩) 1 6) [p] := RowAt.all (l := [p]) (ro := false) (by rw [hf1.2 _ (by simp) (by intro e; cases e)]; simp [rowV_one]; rfl)
  obtain ⟨s2, H2, ha2, hR2, hW2, hf2, _, hn2⟩ := appPl (by simpa using hR1) hW1 hx1 (by simp; omega)
  have hkp : Keep H H2 := hk1.frn hf2 (hn1.le (by omega))
  have hN2 : New H.length s2 := (hn2 (by simp)).le hk1.1
  replace a := ha1
  replace b := ha2
  simp only [Pl.l] at a
  try simp at b
  refine DK.skip ?_
  refine DK.seq ?_
  refine DK.draw rfl (POk.of (ord := [0, 2, 3, 5, 6, 1, 4, 7, 8, 9]) (by kernel_rfl)) ?_
  refine XK.run [0, 2, 3, 5, 6] (by kernel_rfl) (by simp [hln, a, b, c]; constructor <;> rfl) ?_
  refine XK.one rfl (by simp [hln, a, b, c]) rfl (by simp [hln, a, b, c]; constructor <;> rfl) (lag_list (l := [2, 6]) (by kernel_rfl) (lag_cons (lag_one rfl (by simp [hln, a, b, c]; constructor <;> rfl) rfl (by simp [hln, a, b, c]) (by simp [sameL, sameV_agg, sameV_int, sameV_bool, sameV_str, sameV_ptr, sameV_sl, sameV_map, same1_int, same1_bool, same1_str, same1_ptr, same1_sl, same1_map, hln, a, b, c]) rfl) (lag_cons (lag_one rfl (by simp [hln, a, b, c]; constructor <;> rfl) rfl (by simp [hln, a, b, c]) (by simp [sameL, sameV_agg, sameV_int, sameV_bool, sameV_str, sameV_ptr, sameV_sl, sameV_map, same1_int, same1_bool, same1_str, same1_ptr, same1_sl, same1_map, hln, a, b, c]) rfl) rfl))) ?_
  refine XK.one rfl (by simp [hln, a, b, c]) rfl (by simp [hln, a, b, c]; constructor <;> rfl) (lag_list (l := [6]) (by kernel_rfl) (lag_cons (lag_one rfl (by simp [hln, a, b, c]; constructor <;> rfl) rfl (by simp [hln, a, b, c]) (by simp [sameL, sameV_agg, sameV_int, sameV_bool, sameV_str, sameV_ptr, sameV_sl, sameV_map, same1_int, same1_bool, same1_str, same1_ptr, same1_sl, same1_map, hln, a, b, c]) rfl) rfl)) ?_
  refine XK.one rfl (by simp [hln, a, b, c]) rfl (by simp [hln, a, b, c]; constructor <;> rfl) (lag_list (l := [6]) (by kernel_rfl) (lag_cons (lag_one rfl (by simp [hln, a, b, c]; constructor <;> rfl) rfl (by simp [hln, a, b, c]) (by simp [sameL, sameV_agg, sameV_int, sameV_bool, sameV_str, sameV_ptr, sameV_sl, sameV_map, same1_int, same1_bool, same1_str, same1_ptr, same1_sl, same1_map, hln, a, b, c]) rfl) rfl)) ?_
  refine XK.one rfl (by simp [hln, a, b, c]) rfl (by simp [hln, a, b, c]; constructor <;> rfl) (lag_list (l := []) (by kernel_rfl) rfl) ?_
  refine XK.one rfl (by simp [hln, a, b, c]) rfl (by simp [hln, a, b, c]; constructor <;> rfl) (lag_list (l := []) (by kernel_rfl) rfl) ?_
  refine XK.nil ?_
  refine DK.ret ?_
  refine And.intro (Or.inr rfl) ?_
  refine ⟨_, by simp [absAnswer, absResults, absResult, Tryd.f30]; rfl, ?_⟩
  first
    | (have hres : addPl l p = ([], 0, rightPl p) := if_pos ‹_›
       exact ⟨_, by rw [hres], ⟨_, rfl⟩, by rw [hres]; exact RowAt.nil _, Own.nil _ _ _, New.nil _ _ _⟩)
    | (have hres : addPl l p = ([], 0, 3) := by unfold addPl; rw [if_neg (by simp [*]), if_pos (by omega)]
       exact ⟨_, by rw [hres], ⟨_, rfl⟩, by rw [hres]; exact RowAt.nil _, Own.nil _ _ _, New.nil _ _ _⟩)
    | (have hres : addPl l p = (l ++ [p], (l.length : Int), 0) := by unfold addPl; rw [if_neg (by simp [*]), if_neg (by omega)]
       exact ⟨_, by rw [hres], hkp.ext, by rw [hres]; exact hR2, hW2, hN2⟩)
theorem opena_s (n : Int) (p : Pl) (today : Int) (H : Mem) : FSem Tryd.prog [0] 57 #[.int .i64 n, p.v, .int .i64 today] H fun v H' => v = (openAc n p today).v (.slice none 0 0) ∧ H' = H := by
  refine FSem.plainT ?_
  refine FSem.ofK Tryd.func57 rfl ?_
  refine DK.from (b' := ⟨#[.int .i64 n, p.v, .int .i64 today, undef, undef, undef, undef, undef, undef, undef, undef, undef, undef], []⟩) (by kernel_rfl) ?_
  refine DK.seq ?_
  refine DK.region (is := [0, 1]) (by kernel_rfl) rfl ?_
  refine WK.run [0, 1] (by simp; constructor <;> rfl) ?_
  refine WK.nil ?_
  refine DK.seq ?_
  refine DK.region (is := [0, 1, 2, 3, 4, 5, 6]) (by kernel_rfl) rfl ?_
  refine WK.run [0, 1, 2, 3, 4, 5, 6] (by simp; constructor <;> rfl) ?_
  refine WK.nil ?_
  refine DK.ret ?_
  refine And.intro (Or.inr rfl) ?_
  refine ⟨_, by simp [absAnswer, absResults, absResult, Tryd.f57]; rfl, ?_⟩
  refine ⟨by first | exact ⟨[], (List.append_nil _).symm⟩ | exact ⟨_, rfl⟩, by simp, ?_⟩
  simp [openAc]
theorem newb_s (t : Int) (H : Mem) : FSem Tryd.prog [0] 12 #[.int .i64 t] H fun v H' => v = bkv t (.slice none 0 0) zL ∧ ∃ r, H' = H ++ r := by
  refine FSem.ofK Tryd.func12 rfl ?_
  refine DK.from (b' := ⟨#[.int .i64 t, undef, undef, undef, undef], []⟩) (by kernel_rfl) ?_
  refine DK.seq ?_
  refine DK.region (is := [0]) (by kernel_rfl) rfl ?_
  refine WK.run [0] (by simp; constructor <;> rfl) ?_
  refine WK.nil ?_
  refine DK.seq ?_
  refine DK.region (is := [0, 1, 2]) (by kernel_rfl) rfl ?_
  refine WK.run [0, 1, 2] (by simp; constructor <;> rfl) ?_
  refine WK.nil ?_
  refine DK.ret ?_
  refine And.intro (Or.inr rfl) ?_
  refine ⟨_, by simp [absAnswer, absResults, absResult, Tryd.f12]; rfl, ?_⟩
  exact ⟨by simp, _, rfl⟩
end Go.Den
set_option linter.unusedVariables false
set_option maxRecDepth 100000
namespace Go.Den
open Go Go.Proofs
structure BOk (k : Nat) (b : Bk) : Prop where
  pls : ∀ p ∈ b.pls, rightPl p = 0
  subs : ∀ a ∈ b.subs, 0 ≤ a.ix ∧ a.op.length ≤ k
  len : b.subs.length = 32
theorem right_bd {p : Pl} (h : rightPl p = 0) : 0 ≤ p.pr ∧ p.pr ≤ 1073741824 ∧ 1 ≤ p.ev ∧ p.ev ≤ 1000 ∧ p.un ≤ 3 ∧ 0 ≤ p.tr ∧ p.tr ≤ 1000 := by
  unfold rightPl at h
  split at h
  · omega
  · split at h
    · omega
    · rename_i h1 h2
      have h3 : srB p.un p.ev = true := by
        cases hc : srB p.un p.ev with
        | true => rfl
        | false => exact absurd (.inl hc) h1
      have h4 := of_decide_eq_true h3
      omega
def UnOk (l : List Pl) : Prop := ∀ p ∈ l, 0 ≤ p.un
theorem getP_mem {l : List Pl} {n : Int} : (getP l n).1 = zeroP ∨ (getP l n).1 ∈ l := by
  unfold getP
  split
  · exact .inl rfl
  · rename_i h
    right
    have hn : n.toNat < l.length := by omega
    simp only [List.getD_eq_getElem?_getD, List.getElem?_eq_getElem hn, Option.getD_some]
    exact List.getElem_mem hn
theorem getP_un {l : List Pl} (h : UnOk l) (n : Int) : 0 ≤ (getP l n).1.un := by
  rcases getP_mem (l := l) (n := n) with e | e
  · rw [e]; decide
  · exact h _ e
theorem getP_pr {l : List Pl} (h : ∀ p ∈ l, rightPl p = 0) (n : Int) : (getP l n).1.pr ≤ 1073741824 := by
  rcases getP_mem (l := l) (n := n) with e | e
  · rw [e]; decide
  · exact (right_bd (h _ e)).2.1
theorem getp_g (l : List Pl) (n : Int) {s : Value} {H : Mem} (hR : RowAt H s l) : FSem Tryd.prog [0] 55 #[s, .int .i64 n] H fun v H' => ∃ p e, v = .tuple #[Pl.v p, .int .i64 e] ∧ getP l n = (p, e) ∧ H = H' := by
  refine FSem.mono (getp_s l n hR) ?_
  rintro v H' ⟨rfl, rfl⟩
  exact ⟨_, _, rfl, rfl, rfl⟩
def BkRes (H : Mem) (sp0 : Value) (r : Bk × Int) (v : Value) (H' : Mem) : Prop := ∃ sp l, v = .tuple #[bkv r.1.today sp l, .int .i64 r.2] ∧ BkAt H' sp l r.1 ∧ Keep H H' ∧ ∀ c, blkOf sp = some c → blkOf sp0 = some c ∨ H.length ≤ c
theorem OpenAt.far {H : Mem} {s : Value} {l : List Cy} (h : OpenAt H s l) {k : Nat} {ro : Bool} {vs : List Value} (hk : H[k]? = some (.cells ro vs)) (hv : vs.length % 8 ≠ 0) : blkOf s ≠ some k := by
  rcases h with ⟨rfl, _⟩ | ⟨b, rfl, h2⟩
  · intro e; cases e
  · intro e
    have e1 : b = k := Option.some.inj e
    subst e1
    rw [h2] at hk
    cases hk
    rw [cysV_length] at hv; omega
theorem oright_g (o : Od) (H : Mem) : FSem Tryd.prog [0] 15 #[o.v] H fun v H' => v = .int .i64 (rightO o) ∧ H = H' := by
  refine FSem.mono (oright_s o H) ?_
  rintro v H' ⟨rfl, rfl⟩
  exact ⟨rfl, rfl⟩
theorem BkAt.sub {H : Mem} {sp : Value} {l : List As} {b : Bk} (h : BkAt H sp l b) {i : Int} (h0 : 0 ≤ i) (h1 : i < 32) : ∃ x : As, x.a = b.sub i ∧ l[i.toNat]? = some x ∧ OpenAt H x.s x.a.op ∧
    (∀ t, List.take 13 (List.drop (2 + i.toNat * 13) (BkL t sp l)) = x.a.l x.s) ∧ (∀ t, List.take 1 (List.drop (2 + i.toNat * 13) (BkL t sp l)) = [.int .u8 x.a.st]) ∧ absPart Tryd.prog 32 (rowV l).toArray (i.toNat * 13) = some (x.a.v x.s) := by
  have hi : i.toNat < l.length := by have := h.len; omega
  refine ⟨l[i.toNat], ?_, List.getElem?_eq_getElem hi, h.op _ (List.getElem_mem hi), fun t => bk_at hi, fun t => bk_st hi, part_at hi⟩
  have e : b.subs[i.toNat]? = some (l[i.toNat]).a := by rw [← h.map, List.getElem?_map, List.getElem?_eq_getElem hi]; rfl
  unfold Bk.sub
  rw [List.getD_eq_getElem?_getD, e]; rfl
theorem BkAt.put {H : Mem} {sp : Value} {l : List As} {b : Bk} (h : BkAt H sp l b) {i : Int} (h0 : 0 ≤ i) (h1 : i < 32) {x : As} (hx : OpenAt H x.s x.a.op) : BkAt H sp (l.set i.toNat x) { b with subs := b.subs.set i.toNat x.a } := by
  refine ⟨h.pls, by rw [List.map_set, h.map], by rw [List.length_set]; exact h.len, fun y hy => ?_⟩
  rcases List.mem_or_eq_of_mem_set hy with q | rfl
  · exact h.op y q
  · exact hx
theorem BkAt.sp {H : Mem} {sp : Value} {l : List As} {b : Bk} (h : BkAt H sp l b) {i : Int} (h0 : 0 ≤ i) (h1 : i < 32) (t : Int) (x : As) : splice (BkL t sp l) (2 + i.toNat * 13) (x.a.l x.s) = BkL t sp (l.set i.toNat x) := sp_at (by have := h.len; omega) x
theorem BkAt.zero (H : Mem) : BkAt H (.slice none 0 0) zL zeroB := ⟨RowAt.nil _, by simp [zeroB, zAs, zL], by simp, fun x hx => by rw [List.eq_of_mem_replicate (show x ∈ List.replicate 32 zAs from hx)]; exact .inl ⟨rfl, rfl⟩⟩
theorem BkAt.new (H : Mem) (t : Int) : BkAt H (.slice none 0 0) zL (newB t) := ⟨RowAt.nil _, by simp [newB, zAs, zL], by simp, fun x hx => by rw [List.eq_of_mem_replicate (show x ∈ List.replicate 32 zAs from hx)]; exact .inl ⟨rfl, rfl⟩⟩
theorem opena_g (n : Int) (p : Pl) (today : Int) (H : Mem) : FSem Tryd.prog [0] 57 #[.int .i64 n, p.v, .int .i64 today] H fun v H' => v = (openAc n p today).v (.slice none 0 0) ∧ H = H' := by
  refine FSem.mono (opena_s n p today H) ?_
  rintro v H' ⟨rfl, rfl⟩
  exact ⟨rfl, rfl⟩
theorem sub_mem {b : Bk} (h : b.subs.length = 32) {i : Int} (h0 : 0 ≤ i) (h1 : i < 32) : b.sub i ∈ b.subs := by
  have hi : i.toNat < b.subs.length := by omega
  unfold Bk.sub
  rw [List.getD_eq_getElem?_getD, List.getElem?_eq_getElem hi]
  exact List.getElem_mem hi
theorem dayN_le {a : Ac} (h : 0 ≤ a.ix) : dayN a ≤ 3652060 := by unfold dayN; omega
end Go.Den
