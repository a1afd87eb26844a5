/- AccountDues: cycles begin on the days of their periods, numbered as they come: the plain statement, for every plan that a number makes, every first day from 700000 on, and every number of days up to 255. -/
import Derived.Test.YtnpcodfeggcdbaaAccWorld
import Derived.Test.YtnpcodfeggcdbaaPAccx10
import Derived.OpenShut
set_option linter.unusedVariables false
namespace Go.Proofs.Ytnpcodfeggcdbaa.Pure
open Go.RowKit Go.Proofs.Ytnpcodfeggcdbaa Go.Proofs.Ytnpcodfeggcdbaa.PAcc Go.Proofs.YtnpcodfeggcdbaaW.PrintWords Go.Proofs.YtnpcodfeggcdbaaW.PrintLast
theorem dues_loop (b : Ac) (un ev tr fr a2 y m d : Int) (N : Nat) (h : Due b ⟨9, un, ev, tr, true, false⟩ y m d (fr + a2) 0 (fr + tr) N) (hp : Pl.Ok ⟨9, un, ev, tr, true, false⟩)
    (hv : Cal.valid y m d) (ha : Cal.num y m d = fr + tr) (hf : 0 ≤ fr ∧ fr ≤ 800000) (h2 : 0 ≤ a2 ∧ a2 ≤ 255) (ht : 0 ≤ tr ∧ tr ≤ 10) (hN : (N : Int) ≤ 400) (he3 : ev ≤ 3) (hs : ∀ v, Sea.nth (fr + tr) y m d un ev N = some v → fr + a2 < v) (g : Nat) :
    ∀ (k : Nat) (i : Int), 0 ≤ i → i + g = N → g + 20210 ≤ k → paybooklaw13_AccountDues.l0 k a2 fr i 9 un ev tr true false b.st b.pl b.an b.ix b.ct b.cr b.sk b.op b.dn b.up b.rf b.sp b.pd = some true := by
  have hw1 : wrap64 (fr + tr) = fr + tr := by unfold wrap64; omega
  have hw2 : wrap64 (fr + wrap64 a2) = fr + a2 := by rw [show wrap64 a2 = a2 from by unfold wrap64; omega]; unfold wrap64; omega
  induction g with
  | zero =>
    intro k i h0 hi hk
    obtain ⟨k, rfl⟩ : ∃ j, k = j + 1 := ⟨k - 1, by omega⟩
    obtain ⟨v, hx⟩ := nth_there (fr + tr) y m d un ev N hv ha hp.2.1 ⟨hp.2.2.1, he3⟩ (by omega) (by omega)
    have hlt := hs v hx
    simp only [paybooklaw13_AccountDues.l0]
    rw [if_neg (by rw [h.len]; omega), hw1, h.ct, rnthp_eq k (by omega) (fr + tr) y m d un ev N hv ha hp.2.1 hp.2.2 (by omega), hx, hw2]
    simp only [Option.bind_some, rnthv, if_true]
    rw [decide_eq_true (show v > fr + a2 from hlt)]
  | succ g ih =>
    intro k i h0 hi hk
    obtain ⟨k, rfl⟩ : ∃ j, k = j + 1 := ⟨k - 1, by omega⟩
    obtain ⟨v, e1, e2, e3, e4, e5, e6⟩ := h.each i h0 (by omega)
    have e1' : Sea.nth (fr + tr) y m d un ev i = some v := e1
    simp only [paybooklaw13_AccountDues.l0]
    rw [if_pos (by rw [h.len]; omega), hw1, rnthp_eq k (by omega) (fr + tr) y m d un ev i hv ha hp.2.1 hp.2.2 (by omega), e1', hw2]
    simp only [Option.bind_some, rnthv, if_true]
    rw [if_pos h0, if_pos e3, if_pos e4, if_neg (by omega), show wrap64 (i + 1) = i + 1 from by unfold wrap64; omega]
    exact ih k (i + 1) (by omega) (by omega) (by omega)
theorem AccountDues : paybooklaw13_AccountDues.Pure := by
  intro a0 a1 a2 w0 w1 w2
  have h0 := bounds_u8 w0
  have h1 := bounds_u16 w1
  have h2 := bounds_u8 w2
  obtain ⟨pr, un, ev, tr, go, la, hpl, hpr, hun, hev, htr⟩ := plan_some a0 h0.1 h0.2
  obtain ⟨fr, hfr⟩ : ∃ fr, 700000 + a1 = fr := ⟨_, rfl⟩
  have hfb : 700000 ≤ fr ∧ fr ≤ 765535 := by omega
  have e1 : wrap64 (700000 + wrap64 a1) = fr := by rw [show wrap64 a1 = a1 from by unfold wrap64; omega, hfr]; unfold wrap64; omega
  have e2 : wrap64 (fr + wrap64 a2) = fr + a2 := by rw [show wrap64 a2 = a2 from by unfold wrap64; omega]; unfold wrap64; omega
  have e3 : wrap64 (fr + tr) = fr + tr := by unfold wrap64; omega
  obtain ⟨y, m, d, hv, ha⟩ := day_of (fr + tr) (by omega) (by omega)
  have hp : Pl.Ok ⟨9, un, ev, tr, true, false⟩ := ⟨⟨show (0 : Int) ≤ 9 by omega, show (9 : Int) ≤ 1073741824 by omega⟩, hun, ⟨hev.1, by show ev ≤ 1000; omega⟩⟩
  obtain ⟨b, N, g1, g2, g3, _, g5⟩ := due_run ⟨9, un, ev, tr, true, false⟩ hp (show (0 : Int) < 9 by omega) rfl y m d (fr + a2) 0 (fr + tr) hv ha 300 0 (newA 0 (fr + tr)) 30000 (by omega) (due_new _ y m d _ _ _) (by omega) (by omega)
  have hday := (day_eq (30000 + 2 * 300 + 2) (newA 0 (fr + tr)) ⟨9, un, ev, tr, true, false⟩ (fr + a2) (by show (0 : Nat) ≤ _; omega)).trans g1
  have hday' : account_Day.f 30603 1 0 (fr + tr) 0 0 0 false [] 0 0 0 0 0 9 un ev tr true false (fr + a2) = some (b.t 0) := hday
  refine ⟨30603, ?_⟩
  unfold paybooklaw13_AccountDues.f
  rw [awake_some 30603 (by omega), hpl]
  simp only [Option.bind_some, if_true, account_Open.f, e1, e2, e3, hday', Ac.t]
  have hj : paybooklaw13_AccountDues.j0 30603 a2 fr (b.ix != b.ct) 9 un ev tr true false b.st b.pl b.an b.ix b.ct b.cr b.sk b.op b.dn b.up b.rf b.sp b.pd = some true := by
    simp only [paybooklaw13_AccountDues.j0]
    rw [if_neg (by rw [g2.ix, g2.ct]; simp)]
    exact dues_loop b un ev tr fr a2 y m d N g2 hp hv ha (by omega) h2 htr g3 hev.2 g5 N 30602 0 (by omega) (by omega) (by omega)
  rw [if_pos (by rw [g2.len, g2.ct])]
  exact hj
end Go.Proofs.Ytnpcodfeggcdbaa.Pure
