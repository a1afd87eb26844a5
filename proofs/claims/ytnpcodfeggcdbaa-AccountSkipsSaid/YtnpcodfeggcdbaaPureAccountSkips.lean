/- AccountSkips: just the next period is passed over, when that was asked for: the plain statement, for every plan that a number makes, every first day from 700000 on, and one to four periods. -/
import Derived.Test.YtnpcodfeggcdbaaAccWorld
import Derived.Test.YtnpcodfeggcdbaaPAccx12
import Derived.OpenShut
set_option linter.unusedVariables false
namespace Go.Proofs.Ytnpcodfeggcdbaa.Pure
open Go.RowKit Go.Proofs.Ytnpcodfeggcdbaa Go.Proofs.Ytnpcodfeggcdbaa.PAcc Go.Proofs.YtnpcodfeggcdbaaW.PrintWords Go.Proofs.YtnpcodfeggcdbaaW.PrintLast
/-- One cycle was passed over, the second one; all others are open. -/
structure Sk (a : Ac) (p : Pl) (an0 : Int) (j : Nat) : Prop where
  st : a.st = 1
  an : a.an = an0
  ix : a.ix = j
  ct : a.ct = j
  cr : a.cr = 0
  sk : a.sk = false
  two : 2 ≤ j
  len : a.op.length + 1 = j
  no : 3 ≤ j → (rd_T37 a.op 1).f0 = 2
  sums : a.dn = 0 ∧ a.up = 0 ∧ a.rf = 0 ∧ a.sp = 1 ∧ a.pd = 0
theorem Sk.ok {a : Ac} {p : Pl} {an : Int} {j : Nat} (h : Sk a p an j) (hj : j ≤ 1000) : a.Ok := by
  obtain ⟨_, _, h4, h5, h6, _, _, h8, _, h10⟩ := h
  exact ⟨by omega, by omega, by omega, by omega, by omega, by omega, by omega, by omega, by omega⟩
theorem Sk.step {a : Ac} {p : Pl} {an : Int} {j : Nat} (h : Sk a p an j) (hp : 0 < p.pr) (v : Int) : Sk (beginA { a with ix := a.ix + 1 } p v false) p an (j + 1) := by
  obtain ⟨h1, h3, h4, h5, h6, h7, h2, h8, h9, h10⟩ := h
  have e : beginA { a with ix := a.ix + 1 } p v false = { a with ix := a.ix + 1, ct := a.ct + 1, cr := 0, op := a.op ++ [⟨a.ct, v, 1, p.pr, 0, 1, 0, p.go⟩] } := by
    unfold beginA
    rw [if_neg (by simp [h1, h7])]
    simp only [h6]
    rw [if_neg (by omega), show p.pr - 0 = p.pr from by omega]
    have hm : mkc a.ct v p.pr 0 p.go = ⟨a.ct, v, 1, p.pr, 0, 1, 0, p.go⟩ := by unfold mkc; rw [if_neg (by omega)]
    rw [hm]
    unfold closeA
    rw [if_neg (show ¬ (7 : Int) ≤ 1 by omega)]
  rw [e]
  refine ⟨h1, h3, by show a.ix + 1 = _; omega, by show a.ct + 1 = _; omega, rfl, h7, by omega, by simp; omega, ?_, h10⟩
  intro hj
  show (rd_T37 (a.op ++ [_]) 1).f0 = 2
  by_cases hi : (1 : Int) < (a.op.length : Int)
  · rw [rd_old _ _ _ (by omega) hi]
    exact h9 (by omega)
  · rw [rd_new _ _ _ (by omega)]
    show a.ct = 2
    omega
theorem sk_run (p : Pl) (hp : p.Ok) (hpr : 0 < p.pr) (hla : p.la = false) (y m d t an : Int) (hv : Cal.valid y m d) (ha : Cal.num y m d = an) (n : Nat) (hn : n ≤ 10) (hs : ∀ i : Nat, i < n → ∃ v, Sea.nth an y m d p.un p.ev i = some v ∧ v ≤ t) (he : ∀ v, Sea.nth an y m d p.un p.ev n = some v → t < v) (g : Nat) :
    ∀ (j : Nat) (a : Ac) (k : Nat), 11000 ≤ k → Sk a p an j → j + g = n → ∃ b : Ac, dayL1 (k + 2 * g + 2) t a p = some (b.t 0) ∧ Sk b p an n := by
  induction g with
  | zero =>
    intro j a k hk h hj
    have : j = n := by omega
    subst this
    refine ⟨a, ?_, h⟩
    refine day_stop k hk t a p y m d hv (by rw [h.an]; exact ha) hp (by rw [h.ix]; omega) ?_
    unfold nthA
    rw [h.an, h.ix]
    exact he
  | succ g ih =>
    intro j a k hk h hj
    obtain ⟨v, h1, h2⟩ := hs j (by omega)
    obtain ⟨b, g1, g2⟩ := ih (j + 1) _ k hk (h.step hpr v) (by omega)
    refine ⟨b, ?_, g2⟩
    have hm : missedA a p y m d t = false := by unfold missedA; rw [hla]; rfl
    have := day_step (k + 2 * g + 2) (by omega) t a p y m d v hv (by rw [h.an]; exact ha) hp (by rw [h.ix]; omega) (h.ok (by omega)) (by rw [h.st]; omega) (by unfold nthA; rw [h.an, h.ix]; exact h1) h2
    rw [hm] at this
    rw [show k + 2 * (g + 1) + 2 = k + 2 * g + 2 + 2 from by omega, this]
    exact g1
theorem due_wake {a : Ac} {p : Pl} {y m d t pl an : Int} {j : Nat} (h : Due a p y m d t pl an j) (t' : Int) : a.op.map (wakeC t') = a.op := by
  rw [List.map_congr_left (g := id) (fun c hc => ?_), List.map_id]
  obtain ⟨i, hi, rfl⟩ := List.mem_iff_getElem.1 hc
  obtain ⟨v, _, _, _, _, e, _⟩ := h.each i (by omega) (by rw [← h.len]; omega)
  have hr : rd_T37 a.op (i : Int) = a.op[i] := by unfold rd_T37; rw [Int.toNat_natCast, List.getD_eq_getElem?_getD, List.getElem?_eq_getElem hi]; rfl
  rw [hr] at e
  unfold wakeC
  rw [if_neg (by omega)]
  rfl
theorem AccountSkips : paybooklaw13_AccountSkips.Pure := by
  intro a0 a1 a2 w0 w1 w2
  have h0 := bounds_u8 w0
  have h1 := bounds_u16 w1
  have h2 := bounds_u8 w2
  obtain ⟨pr, un, ev, tr, go, la, hpl, hpr, hun, hev, htr⟩ := plan_some a0 h0.1 h0.2
  obtain ⟨fr, hfr⟩ : ∃ fr, 700000 + a1 = fr := ⟨_, rfl⟩
  have hfb : 700000 ≤ fr ∧ fr ≤ 765535 := by omega
  have e1 : wrap64 (700000 + wrap64 a1) = fr := by rw [show wrap64 a1 = a1 from by unfold wrap64; omega, hfr]; unfold wrap64; omega
  have e3 : wrap64 (fr + 0) = fr := by unfold wrap64; omega
  obtain ⟨n, hn, hn1, hn4⟩ : ∃ n : Nat, 1 + a2 % 4 = (n : Int) ∧ 1 ≤ n ∧ n ≤ 4 := ⟨(1 + a2 % 4).toNat, by omega, by omega, by omega⟩
  have e4 : wrap64 (1 + wrap64 (Int.tmod a2 4)) = (n : Int) := by
    rw [Int.tmod_eq_emod_of_nonneg h2.1, show wrap64 (a2 % 4) = a2 % 4 from by unfold wrap64; omega, hn]; unfold wrap64; omega
  have e5 : wrap64 ((n : Int) + 1) = (n : Int) + 1 := by unfold wrap64; omega
  have E := fun _ : Unit => And.intro e1 (And.intro e3 (And.intro e4 e5))
  clear e1 e3 e4 e5
  obtain ⟨y, m, d, hv, ha⟩ := day_of fr (by omega) (by omega)
  have hp : Pl.Ok ⟨9, un, ev, 0, true, false⟩ := ⟨⟨show (0 : Int) ≤ 9 by omega, show (9 : Int) ≤ 1073741824 by omega⟩, hun, ⟨hev.1, by show ev ≤ 1000; omega⟩⟩
  -- the first day: one cycle
  obtain ⟨b, N, g1, g2, g3, _, g5⟩ := due_run ⟨9, un, ev, 0, true, false⟩ hp (show (0 : Int) < 9 by omega) rfl y m d fr 0 fr hv ha 300 0 (newA 0 fr) 30000 (by omega) (due_new _ y m d _ _ _) (by omega) (by omega)
  have hz := Sea.nth_zero fr y m d un ev hv ha
  obtain ⟨v1, hv1⟩ := nth_there fr y m d un ev 1 hv ha hun hev (by omega) (by omega)
  have hlt1 := Sea.nth_lt fr y m d un ev 0 1 hv hev.1 (by omega) (by omega) fr v1 hz hv1
  have hN : N = 1 := by
    by_cases c0 : N = 0
    · subst c0
      have := g5 fr hz
      omega
    · by_cases c2 : 2 ≤ N
      · obtain ⟨v, f1, f2, _⟩ := g2.each 1 (by omega) (by omega)
        have f1' : Sea.nth fr y m d un ev 1 = some v := f1
        rw [hv1] at f1'
        obtain rfl := Option.some.inj f1'
        omega
      · omega
  subst hN
  -- the day on which the n-th period begins
  obtain ⟨dn, hdn⟩ := nth_there fr y m d un ev n hv ha hun hev (by omega) (by omega)
  have hs : ∀ i : Nat, i < n + 1 → ∃ v, Sea.nth fr y m d un ev i = some v ∧ v ≤ dn := by
    intro i hi
    obtain ⟨v, hx⟩ := nth_there fr y m d un ev i hv ha hun hev (by omega) (by omega)
    refine ⟨v, hx, ?_⟩
    by_cases c : i = n
    · subst c
      rw [hdn] at hx
      obtain rfl := Option.some.inj hx
      exact Int.le_refl _
    · have := Sea.nth_lt fr y m d un ev i n hv hev.1 (by omega) (by omega) v dn hx hdn
      omega
  have he : ∀ v, Sea.nth fr y m d un ev ((n + 1 : Nat) : Int) = some v → dn < v := fun v hx => Sea.nth_lt fr y m d un ev n ((n + 1 : Nat) : Int) hv hev.1 (by omega) (by omega) dn v hdn hx
  have hd1 : v1 ≤ dn := by
    obtain ⟨v, hx, hle⟩ := hs 1 (by omega)
    have hx' : Sea.nth fr y m d un ev 1 = some v := hx
    rw [hv1] at hx'
    obtain rfl := Option.some.inj hx'
    exact hle
  obtain ⟨p, hpq⟩ : ∃ p : Pl, (⟨9, un, ev, 0, true, false⟩ : Pl) = p := ⟨_, rfl⟩
  have hpe : p.pr = 9 ∧ p.un = un ∧ p.ev = ev ∧ p.la = false := by rw [← hpq]; exact ⟨rfl, rfl, rfl, rfl⟩
  obtain ⟨y0, hy0⟩ : ∃ y0 : Ac, ({ b with sk := true } : Ac) = y0 := ⟨_, rfl⟩
  have hsk0 : Sk (beginA { y0 with ix := y0.ix + 1 } p v1 false) p fr 2 := by
    obtain ⟨q1, q2, q3, q4, q5, q6, q7, q8, q9, q10⟩ := g2
    subst hy0
    have e : beginA { ({ b with sk := true } : Ac) with ix := b.ix + 1 } p v1 false = { b with sk := false, ix := b.ix + 1, ct := b.ct + 1, sp := b.sp + 1 } := by
      unfold beginA
      rw [if_pos (by simp)]
      unfold closeA
      simp [q1]
    rw [e]
    exact ⟨q1, q3, by show b.ix + 1 = _; omega, by show b.ct + 1 = _; omega, q6, rfl, Nat.le_refl _, by show b.op.length + 1 = 2; omega, fun h => by omega, ⟨q10.1, q10.2.1, q10.2.2.1, by show b.sp + 1 = 1; omega, q10.2.2.2.2⟩⟩
  have hs' : ∀ i : Nat, i < n + 1 → ∃ v, Sea.nth fr y m d p.un p.ev i = some v ∧ v ≤ dn := by rw [hpe.2.1, hpe.2.2.1]; exact hs
  have he' : ∀ v, Sea.nth fr y m d p.un p.ev ((n + 1 : Nat) : Int) = some v → dn < v := by rw [hpe.2.1, hpe.2.2.1]; exact he
  have hp' : p.Ok := hpq ▸ hp
  obtain ⟨K, hK, hK1⟩ : ∃ K : Nat, K + 2 * (n - 1) + 2 + 2 + 1 + 1 = 30603 + 0 ∧ 11000 ≤ K := ⟨30597 - 2 * (n - 1), by omega, by omega⟩
  obtain ⟨c, k1, k2⟩ := sk_run p hp' (by omega) hpe.2.2.2 y m d dn fr hv ha (n + 1) (by omega) hs' he' (n - 1) 2 _ K (by omega) hsk0 (by omega)
  have hy1 : y0.st = 1 ∧ y0.an = fr ∧ y0.ix = 1 ∧ y0.op = b.op := by subst hy0; exact ⟨g2.st, g2.an, g2.ix, rfl⟩
  have hok : y0.Ok := by
    have := g2.ok (by omega)
    subst hy0
    exact ⟨this.ct, this.ix, this.cr, this.dn, this.up, this.rf, this.sp, this.pd, this.op⟩
  have hms : missedA y0 p y m d dn = false := by unfold missedA; rw [hpe.2.2.2]; rfl
  have hst := day_step (K + 2 * (n - 1) + 2) (by omega) dn y0 p y m d v1 hv (by rw [hy1.2.1]; exact ha) hp' (by rw [hy1.2.2.1]; omega) hok (by rw [hy1.1]; omega) (by unfold nthA; rw [hy1.2.1, hy1.2.2.1, hpe.2.1, hpe.2.2.1]; exact hv1) hd1
  rw [hms, k1] at hst
  have hwk : y0.op.map (wakeC dn) = y0.op := by rw [hy1.2.2.2]; exact due_wake g2 dn
  have hdy := day_eq (K + 2 * (n - 1) + 2 + 2) y0 p dn (by rw [hy1.2.2.2, g2.len]; omega)
  rw [hwk, show ({ y0 with op := y0.op } : Ac) = y0 from rfl, hst, hy1.2.2.2, g2.len, hK] at hdy
  have hday3 : account_Day.f 30603 b.st b.pl b.an b.ix b.ct b.cr true b.op b.dn b.up b.rf b.sp b.pd 9 un ev 0 true false dn = some (c.t 0) := by subst hpq; subst hy0; exact hdy
  have hday := (day_eq (30000 + 2 * 300 + 2) (newA 0 fr) ⟨9, un, ev, 0, true, false⟩ fr (by show (0 : Nat) ≤ _; omega)).trans g1
  have hday' : account_Day.f 30603 1 0 fr 0 0 0 false [] 0 0 0 0 0 9 un ev 0 true false fr = some (b.t 0) := hday
  -- it is asked to pass over the next one
  have hskip : account_Skip.f b.st b.pl b.an b.ix b.ct b.cr b.sk b.op b.dn b.up b.rf b.sp b.pd = some (Ac.t { b with sk := true } 0) := by
    unfold account_Skip.f
    rw [if_pos g2.st, if_neg (by rw [g2.sk]; simp), copy_eq b (by rw [g2.len]; omega)]
    rfl
  have hr := rnthp_eq 30603 (by omega) fr y m d un ev n hv ha hun ⟨hev.1, by omega⟩ (by omega)
  have hl := k2.len
  have haw := awake_some 30604 (by omega)
  obtain ⟨e1, e3, e4, e5⟩ := E ()
  refine ⟨30604, ?_⟩
  have hdayA : account_Day.f 30604 1 0 fr 0 0 0 false [] 0 0 0 0 0 9 un ev 0 true false fr = some (b.t 0) := account_Day.mono _ _ _ _ _ _ _ _ _ _ _ _ _ _ _ _ _ _ _ _ 30603 _ hday'
  unfold paybooklaw13_AccountSkips.f
  rw [haw, hpl]
  simp only [Option.bind_some, if_true, account_Open.f, e1, e3, hdayA, Ac.t]
  rw [hskip]
  simp only [Option.bind_some, Ac.t]
  simp only [paybooklaw13_AccountSkips.j0]
  rw [if_neg (by simp), e4, hr, hdn]
  simp only [Option.bind_some, rnthv]
  rw [hday3]
  simp only [Option.bind_some, Ac.t, if_true]
  clear hdayA hday hday' hskip hday3 g1 e1 e3 e4 hr haw
  rw [if_pos (by rw [k2.ct, e5]; clear e5; omega), if_pos k2.sums.2.2.2.1, if_pos (by clear e5; omega), if_neg (by rw [k2.sk]; simp)]
  clear e5
  by_cases c2 : (n : Int) < 2
  · rw [if_pos c2]
  · rw [if_neg c2, if_pos (by omega), k2.no (by omega)]
    rfl
end Go.Proofs.Ytnpcodfeggcdbaa.Pure
