/- AccountLast: of periods that are missed the last one alone counts, if the plan says so; the others are passed over: the plain statement, for every plan that a number makes, every first day from 700000 on, and every number of days up to 255. -/
import Derived.Test.YtnpcodfeggcdbaaAccWorld
import Derived.Test.YtnpcodfeggcdbaaPAccx7
import Derived.OpenShut
set_option linter.unusedVariables false
namespace Go.Proofs.Ytnpcodfeggcdbaa.Pure
open Go.RowKit Go.Proofs.Ytnpcodfeggcdbaa Go.Proofs.Ytnpcodfeggcdbaa.PAcc Go.Proofs.YtnpcodfeggcdbaaW.PrintWords Go.Proofs.YtnpcodfeggcdbaaW.PrintLast
/-- So many periods have begun; all were passed over, but the last one, if the next one lies ahead. -/
structure Lst (a : Ac) (p : Pl) (y m d t an0 : Int) (j : Nat) : Prop where
  st : a.st = 1
  an : a.an = an0
  ix : a.ix = j
  ct : a.ct = j
  cr : a.cr = 0
  sk : a.sk = false
  sums : a.dn = 0 ∧ a.up = 0 ∧ a.rf = 0 ∧ a.pd = 0
  all : a.sp + (a.op.length : Int) = j
  one : (a.op = [] ∧ (j = 0 ∨ ∃ v, Sea.nth an0 y m d p.un p.ev j = some v ∧ v ≤ t)) ∨ ((∃ c : S37, a.op = [c] ∧ c.f0 = (j : Int) - 1 ∧ c.f3 = 500) ∧ 1 ≤ j ∧ ∀ v, Sea.nth an0 y m d p.un p.ev j = some v → t < v)
theorem Lst.ok {a : Ac} {p : Pl} {y m d t an : Int} {j : Nat} (h : Lst a p y m d t an j) (hj : j ≤ 1000) : a.Ok := by
  obtain ⟨_, _, h4, h5, h6, _, h10, hs, ho⟩ := h
  have hl : a.op.length ≤ 1 := by
    rcases ho with ⟨e, _⟩ | ⟨⟨c, e, _⟩, _⟩ <;> rw [e] <;> simp
  have hsp : 0 ≤ a.sp := by
    rcases ho with ⟨e, _⟩ | ⟨⟨c, e, _⟩, hj1, _⟩
    · rw [e] at hs; simp at hs; omega
    · rw [e] at hs; simp at hs; omega
  exact ⟨by omega, by omega, by omega, by omega, by omega, by omega, by omega, by omega, by omega⟩
theorem Lst.step {a : Ac} {p : Pl} {y m d t an : Int} {j : Nat} (h : Lst a p y m d t an j) (hpr : p.pr = 500) (hla : p.la = true) (v : Int) (hv : Sea.nth an y m d p.un p.ev j = some v) (hvt : v ≤ t) :
    Lst (beginA { a with ix := a.ix + 1 } p v (missedA a p y m d t)) p y m d t an (j + 1) := by
  obtain ⟨h1, h3, h4, h5, h6, h7, h10, hs, ho⟩ := h
  have hop : a.op = [] := by
    rcases ho with ⟨e, _⟩ | ⟨_, _, e⟩
    · exact e
    · have := e v hv; omega
  have hsp : a.sp = j := by rw [hop] at hs; simpa using hs
  have hn : nthA a p y m d (a.ix + 1) = Sea.nth an y m d p.un p.ev ((j + 1 : Nat) : Int) := by unfold nthA; rw [h3, h4]; rfl
  cases hm : missedA a p y m d t with
  | true =>
    have e : beginA { a with ix := a.ix + 1 } p v true = { a with ix := a.ix + 1, ct := a.ct + 1, sk := false, sp := a.sp + 1 } := by
      unfold beginA
      rw [if_pos (by simp)]
      unfold closeA
      simp [h7]
    rw [e]
    refine ⟨h1, h3, by show a.ix + 1 = _; omega, by show a.ct + 1 = _; omega, h6, rfl, h10, ?_, .inl ⟨hop, .inr ?_⟩⟩
    · show a.sp + 1 + (a.op.length : Int) = _; rw [hop]; simp; omega
    · unfold missedA at hm
      rw [hla, hn] at hm
      cases hx : Sea.nth an y m d p.un p.ev ((j + 1 : Nat) : Int) with
      | none => rw [hx] at hm; simp at hm
      | some x => rw [hx] at hm; exact ⟨x, rfl, by simpa using hm⟩
  | false =>
    have e : beginA { a with ix := a.ix + 1 } p v false = { a with ix := a.ix + 1, ct := a.ct + 1, cr := 0, op := a.op ++ [⟨a.ct, v, 1, p.pr, 0, 1, 0, p.go⟩] } := by
      unfold beginA
      rw [if_neg (by simp [h1, h7])]
      simp only [h6]
      rw [if_neg (by omega), show p.pr - 0 = p.pr from by omega]
      have hmk : mkc a.ct v p.pr 0 p.go = ⟨a.ct, v, 1, p.pr, 0, 1, 0, p.go⟩ := by unfold mkc; rw [if_neg (by omega)]
      rw [hmk]
      unfold closeA
      rw [if_neg (show ¬ (7 : Int) ≤ 1 by omega)]
    rw [e]
    refine ⟨h1, h3, by show a.ix + 1 = _; omega, by show a.ct + 1 = _; omega, rfl, h7, h10, ?_, .inr ⟨⟨_, by show a.op ++ _ = _; rw [hop]; rfl, ?_, hpr⟩, by omega, ?_⟩⟩
    · show a.sp + ((a.op ++ [_]).length : Int) = _; rw [hop]; simp; omega
    · show a.ct = _; omega
    · intro x hx
      unfold missedA at hm
      rw [hla, hn, hx] at hm
      have : ¬ x ≤ t := by simpa using hm
      omega
theorem last_run (p : Pl) (hp : p.Ok) (hpr : p.pr = 500) (hla : p.la = true) (y m d t an : Int) (hv : Cal.valid y m d) (ha : Cal.num y m d = an) (g : Nat) : ∀ (j : Nat) (a : Ac) (k : Nat), 11000 ≤ k → Lst a p y m d t an j → t - an + 1 - j ≤ g → (j : Int) + g ≤ 400 →
    ∃ (b : Ac) (N : Nat), dayL1 (k + 2 * g + 2) t a p = some (b.t 0) ∧ Lst b p y m d t an N ∧ (N : Int) ≤ 400 ∧ ∀ v, Sea.nth an y m d p.un p.ev N = some v → t < v := by
  have stop : ∀ (j : Nat) (a : Ac) (k : Nat), 11000 ≤ k → Lst a p y m d t an j → (j : Int) ≤ 400 → (∀ v, Sea.nth an y m d p.un p.ev j = some v → t < v) → dayL1 (k + 2) t a p = some (a.t 0) := by
    intro j a k hk h hj hs
    refine day_stop k hk t a p y m d hv (by rw [h.an]; exact ha) hp (by rw [h.ix]; omega) ?_
    unfold nthA
    rw [h.an, h.ix]
    exact hs
  induction g with
  | zero =>
    intro j a k hk h hg hj
    have hs : ∀ v, Sea.nth an y m d p.un p.ev j = some v → t < v := by
      intro v hv'
      have := (Sea.nth_range an y m d p.un p.ev j hv ha hp.2.2.1 (by omega) v hv').1
      omega
    exact ⟨a, j, stop j a k hk h (by omega) hs, h, by omega, hs⟩
  | succ g ih =>
    intro j a k hk h hg hj
    by_cases hc : ∃ v, Sea.nth an y m d p.un p.ev j = some v ∧ v ≤ t
    · obtain ⟨v, h1, h2⟩ := hc
      have hd := h.step hpr hla v h1 h2
      obtain ⟨b, N, g1, g2, g3, g5⟩ := ih (j + 1) _ k hk hd (by omega) (by omega)
      refine ⟨b, N, ?_, g2, g3, g5⟩
      have := day_step (k + 2 * g + 2) (by omega) t a p y m d v hv (by rw [h.an]; exact ha) hp (by rw [h.ix]; omega) (h.ok (by omega)) (by rw [h.st]; omega) (by unfold nthA; rw [h.an, h.ix]; exact h1) h2
      rw [show k + 2 * (g + 1) + 2 = k + 2 * g + 2 + 2 from by omega, this]
      exact g1
    · have hs : ∀ v, Sea.nth an y m d p.un p.ev j = some v → t < v := by
        intro v hv'
        by_cases h' : v ≤ t
        · exact absurd ⟨v, hv', h'⟩ hc
        · omega
      refine ⟨a, j, ?_, h, by omega, hs⟩
      rw [show k + 2 * (g + 1) + 2 = (k + 2 * (g + 1)) + 2 from rfl]
      exact stop j a _ (by omega) h (by omega) hs
theorem AccountLast : paybooklaw13_AccountLast.Pure := by
  intro a0 a1 a2 w0 w1 w2
  have h0 := bounds_u8 w0
  have h1 := bounds_u16 w1
  have h2 := bounds_u8 w2
  obtain ⟨pr, un, ev, tr, go, la, hpl, hpr, hun, hev, htr⟩ := plan_some a0 h0.1 h0.2
  obtain ⟨fr, hfr⟩ : ∃ fr, 700000 + a1 = fr := ⟨_, rfl⟩
  have hfb : 700000 ≤ fr ∧ fr ≤ 765535 := by omega
  have e1 : wrap64 (700000 + wrap64 a1) = fr := by rw [show wrap64 a1 = a1 from by unfold wrap64; omega, hfr]; unfold wrap64; omega
  have e2 : wrap64 (fr + wrap64 a2) = fr + a2 := by rw [show wrap64 a2 = a2 from by unfold wrap64; omega]; unfold wrap64; omega
  have e3 : wrap64 (fr + tr) = fr + tr := by unfold wrap64; omega
  obtain ⟨y, m, d, hv, ha⟩ := day_of (fr + tr) (by omega) (by omega)
  have hp : Pl.Ok ⟨500, un, ev, tr, true, true⟩ := ⟨⟨show (0 : Int) ≤ 500 by omega, show (500 : Int) ≤ 1073741824 by omega⟩, hun, ⟨hev.1, by show ev ≤ 1000; omega⟩⟩
  have h00 : Lst (newA 0 (fr + tr)) ⟨500, un, ev, tr, true, true⟩ y m d (fr + a2) (fr + tr) 0 := ⟨rfl, rfl, rfl, rfl, rfl, rfl, ⟨rfl, rfl, rfl, rfl⟩, rfl, .inl ⟨rfl, .inl rfl⟩⟩
  obtain ⟨b, N, g1, g2, g3, g5⟩ := last_run ⟨500, un, ev, tr, true, true⟩ hp rfl rfl y m d (fr + a2) (fr + tr) hv ha 300 0 (newA 0 (fr + tr)) 30000 (by omega) h00 (by omega) (by omega)
  have hday := (day_eq (30000 + 2 * 300 + 2) (newA 0 (fr + tr)) ⟨500, un, ev, tr, true, true⟩ (fr + a2) (by show (0 : Nat) ≤ _; omega)).trans g1
  have hday' : account_Day.f 30603 1 0 (fr + tr) 0 0 0 false [] 0 0 0 0 0 500 un ev tr true true (fr + a2) = some (b.t 0) := hday
  refine ⟨30603, ?_⟩
  unfold paybooklaw13_AccountLast.f
  rw [awake_some 30603 (by omega), hpl]
  simp only [Option.bind_some, if_true, account_Open.f, e1, e2, e3, hday', Ac.t]
  clear e1 e2 e3 hday hday' g1
  obtain ⟨q1, q3, q4, q5, q6, q7, q10, qs, qo⟩ := g2
  rw [if_pos (by rw [qs, q5]; unfold wrap64; omega)]
  rcases qo with ⟨e, hj⟩ | ⟨⟨c, e, ec, e5⟩, hN, _⟩
  · have hN : N = 0 := by
      rcases hj with rfl | ⟨v, hx, hle⟩
      · rfl
      · have := g5 v hx; omega
    subst hN
    rw [if_pos (by rw [q5]; rfl), if_pos (by rw [e]; rfl)]
  · rw [if_neg (by rw [q5]; omega), if_pos (by rw [q5]; omega), if_pos (by rw [e]; rfl), if_pos (by rw [e]; simp), e]
    have hr : rd_T37 [c] 0 = c := rfl
    rw [hr, if_pos (by rw [ec, q5]; unfold wrap64; omega), e5]
    rfl
end Go.Proofs.Ytnpcodfeggcdbaa.Pure
