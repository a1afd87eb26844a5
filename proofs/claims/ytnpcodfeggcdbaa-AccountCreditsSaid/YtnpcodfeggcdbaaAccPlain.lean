/- What the subscription's printed functions answer, in plain records. -/
import Derived.Test.YtnpcodfeggcdbaaAccCal
import Derived.Test.YtnpcodfeggcdbaaPAccx5
import Derived.Test.YtnpcodfeggcdbaaPAccx6
set_option linter.unusedVariables false
set_option linter.unusedSimpArgs false
namespace Go.Proofs.Ytnpcodfeggcdbaa.Pure
open Go.RowKit Go.Proofs.Ytnpcodfeggcdbaa.PAcc Go.Proofs.YtnpcodfeggcdbaaW.PrintWords Go.Proofs.YtnpcodfeggcdbaaW.PrintLast
open Go.Proofs.Ytnpcodfeggcdbaa Go.Proofs.Ytnpcodfeggcdbaa.Pure
/-- A subscription and a plan, as the code holds them. -/
structure Ac where
  st : Int
  pl : Int
  an : Int
  ix : Int
  ct : Int
  cr : Int
  sk : Bool
  op : List S37
  dn : Int
  up : Int
  rf : Int
  sp : Int
  pd : Int
structure Pl where
  pr : Int
  un : Int
  ev : Int
  tr : Int
  go : Bool
  la : Bool
def Ac.t (a : Ac) (e : Int) := (a.st, a.pl, a.an, a.ix, a.ct, a.cr, a.sk, a.op, a.dn, a.up, a.rf, a.sp, a.pd, e)
def Pl.Ok (p : Pl) : Prop := (0 ≤ p.pr ∧ p.pr ≤ 1073741824) ∧ (0 ≤ p.un ∧ p.un ≤ 3) ∧ (1 ≤ p.ev ∧ p.ev ≤ 1000)
/-- No count, and no sum, is near its type's end. -/
structure Ac.Ok (a : Ac) : Prop where
  ct : 0 ≤ a.ct ∧ a.ct ≤ 1000000000000
  ix : 0 ≤ a.ix ∧ a.ix ≤ 1000000000000
  cr : -100000000000000 ≤ a.cr ∧ a.cr ≤ 100000000000000
  dn : 0 ≤ a.dn ∧ a.dn ≤ 1000000000000
  up : 0 ≤ a.up ∧ a.up ≤ 1000000000000
  rf : 0 ≤ a.rf ∧ a.rf ≤ 1000000000000
  sp : 0 ≤ a.sp ∧ a.sp ≤ 1000000000000
  pd : 0 ≤ a.pd ∧ a.pd ≤ 100000000000000
  op : a.op.length ≤ 1000000000000
theorem purse_eq (n : Int) : purse_Right.f n = some (decide (-1125899906842624 ≤ n ∧ n ≤ 1125899906842624)) := by
  unfold purse_Right.f
  by_cases h : -1125899906842624 ≤ n <;> simp [h]
theorem padd_eq (a b : Int) (ha : -500000000000000 ≤ a ∧ a ≤ 500000000000000) (hb : -500000000000000 ≤ b ∧ b ≤ 500000000000000) : purse_Add.f a b = some (a + b, 0) := by
  unfold purse_Add.f
  rw [show wrap64 (a + b) = a + b from by unfold wrap64; omega]
  simp only [purse_eq, Option.bind_some]
  rw [decide_eq_true (by omega), decide_eq_true (by omega), decide_eq_true (by omega)]
  simp
theorem pless_eq (a b : Int) (ha : -500000000000000 ≤ a ∧ a ≤ 500000000000000) (hb : -500000000000000 ≤ b ∧ b ≤ 500000000000000) : purse_Less.f a b = some (a - b, 0) := by
  unfold purse_Less.f
  rw [show wrap64 (-b) = -b from by unfold wrap64; omega, purse_eq, decide_eq_true (by omega), padd_eq a (-b) ha (by omega)]
  simp [Int.sub_eq_add_neg]
/-- A cycle among those that are open, or in the sums. -/
def closeA (a : Ac) (c : S37) : Ac :=
  if 7 ≤ c.f2 then
    (if c.f2 = 7 then { a with dn := a.dn + 1, pd := a.pd + c.f3 }
     else if c.f2 = 8 then { a with up := a.up + 1, cr := a.cr + c.f4 }
     else if c.f2 = 9 then { a with rf := a.rf + 1, cr := a.cr + c.f4 }
     else { a with sp := a.sp + 1 })
  else { a with op := a.op ++ [c] }
def closeF (a : Ac) (c : S37) := account_close.f a.st a.pl a.an a.ix a.ct a.cr a.sk a.op a.dn a.up a.rf a.sp a.pd c.f0 c.f1 c.f2 c.f3 c.f4 c.f5 c.f6 c.f7
/-- What closing a cycle asks. -/
def Ac.Sm (a : Ac) : Prop := (0 ≤ a.dn ∧ a.dn ≤ 1000000000000) ∧ (0 ≤ a.up ∧ a.up ≤ 1000000000000) ∧ (0 ≤ a.rf ∧ a.rf ≤ 1000000000000) ∧ (0 ≤ a.sp ∧ a.sp ≤ 1000000000000) ∧ (-400000000000000 ≤ a.cr ∧ a.cr ≤ 400000000000000) ∧ (-400000000000000 ≤ a.pd ∧ a.pd ≤ 400000000000000) ∧ a.op.length ≤ 1000000000000
theorem close_eq (a : Ac) (c : S37) (h : a.Sm) (h3 : -400000000000000 ≤ c.f3 ∧ c.f3 ≤ 400000000000000) (h4 : -400000000000000 ≤ c.f4 ∧ c.f4 ≤ 400000000000000) : closeF a c = some ((closeA a c).t 0) := by
  obtain ⟨o4, o5, o6, o7, o3, o8, o9⟩ := h
  unfold closeF account_close.f cycle_Ended.f closeA
  simp only [Option.bind_some]
  by_cases c0 : 7 ≤ c.f2
  · rw [decide_eq_true (by omega), if_pos rfl, if_pos c0]
    by_cases c7 : c.f2 = 7
    · rw [if_pos c7, if_pos c7, padd_eq _ _ (by omega) (by omega)]
      simp only [Option.bind_some, Ac.t, show wrap64 (a.dn + 1) = a.dn + 1 from by unfold wrap64; omega]
    · rw [if_neg c7, if_neg c7]
      by_cases c8 : c.f2 = 8
      · rw [if_pos c8, if_pos c8, padd_eq _ _ (by omega) (by omega)]
        simp only [Option.bind_some, Ac.t, show wrap64 (a.up + 1) = a.up + 1 from by unfold wrap64; omega]
      · rw [if_neg c8, if_neg c8]
        by_cases c9 : c.f2 = 9
        · rw [if_pos c9, if_pos c9, padd_eq _ _ (by omega) (by omega)]
          simp only [Option.bind_some, Ac.t, show wrap64 (a.rf + 1) = a.rf + 1 from by unfold wrap64; omega]
        · rw [if_neg c9, if_neg c9]
          simp only [Ac.t, show wrap64 (a.sp + 1) = a.sp + 1 from by unfold wrap64; omega]
  · rw [decide_eq_false (by omega), if_neg (by simp), if_neg c0, if_pos (by omega)]
    rfl
/-- A new cycle. -/
def mkc (no day amount used : Int) (goods : Bool) : S37 := if amount = 0 then ⟨no, day, if goods then 3 else 7, 0, used, 0, 0, goods⟩ else ⟨no, day, 1, amount, used, 1, 0, goods⟩
theorem cbegin_eq (no day amount used : Int) (goods : Bool) : cycle_Begin.f no day amount used goods = some ((mkc no day amount used goods).f0, (mkc no day amount used goods).f1, (mkc no day amount used goods).f2, (mkc no day amount used goods).f3, (mkc no day amount used goods).f4, (mkc no day amount used goods).f5, (mkc no day amount used goods).f6, (mkc no day amount used goods).f7) := by
  unfold cycle_Begin.f mkc
  by_cases h : amount = 0
  · rw [if_pos h, if_pos h]
    subst h
    cases goods <;> simp [cycle_paid.f]
  · rw [if_neg h, if_neg h]
/-- A period begins. -/
def beginA (a : Ac) (p : Pl) (day : Int) (missed : Bool) : Ac :=
  if a.st = 2 ∨ a.sk = true ∨ missed = true then closeA { a with ct := a.ct + 1, sk := a.sk && (decide (a.st = 2) || missed) } ⟨a.ct, day, 10, 0, 0, 0, 0, false⟩
  else if p.pr - a.cr < 0 then closeA { a with ct := a.ct + 1, cr := -(p.pr - a.cr) } (mkc a.ct day 0 p.pr p.go)
  else closeA { a with ct := a.ct + 1, cr := 0 } (mkc a.ct day (p.pr - a.cr) a.cr p.go)
def beginF (k : Nat) (a : Ac) (p : Pl) (day : Int) (missed : Bool) := account_begin.f k a.st a.pl a.an a.ix a.ct a.cr a.sk a.op a.dn a.up a.rf a.sp a.pd p.pr p.un p.ev p.tr p.go p.la day missed
theorem mkc_f3 (no day amount used : Int) (goods : Bool) : (mkc no day amount used goods).f3 = amount := by unfold mkc; split <;> simp [*]
theorem mkc_f4 (no day amount used : Int) (goods : Bool) : (mkc no day amount used goods).f4 = used := by unfold mkc; split <;> rfl
theorem begin_eq (k : Nat) (hk : 1 ≤ k) (a : Ac) (p : Pl) (day : Int) (missed : Bool) (h : a.Ok) (hp : p.Ok) : beginF k a p day missed = some ((beginA a p day missed).t 0) := by
  obtain ⟨k, rfl⟩ : ∃ j, k = j + 1 := ⟨k - 1, by omega⟩
  have h0 := h
  obtain ⟨o1, o2, o3, o4, o5, o6, o7, o8, o9⟩ := h
  obtain ⟨⟨p1, p2⟩, _⟩ := hp
  have hw : wrap64 (a.ct + 1) = a.ct + 1 := by unfold wrap64; omega
  unfold beginF account_begin.f
  rw [hw]
  have skip : ∀ s' : Bool, ((cycle_Pass.f a.ct day).bind fun b => (account_close.f a.st a.pl a.an a.ix (a.ct + 1) a.cr s' a.op a.dn a.up a.rf a.sp a.pd b.1 b.2.1 b.2.2.1 b.2.2.2.1 b.2.2.2.2.1 b.2.2.2.2.2.1 b.2.2.2.2.2.2.1 b.2.2.2.2.2.2.2)) = some ((closeA { a with ct := a.ct + 1, sk := s' } ⟨a.ct, day, 10, 0, 0, 0, 0, false⟩).t 0) := by
    intro s'
    have := close_eq { a with ct := a.ct + 1, sk := s' } ⟨a.ct, day, 10, 0, 0, 0, 0, false⟩ ⟨o4, o5, o6, o7, by show _ ≤ a.cr ∧ a.cr ≤ _; omega, by show _ ≤ a.pd ∧ a.pd ≤ _; omega, o9⟩ ⟨by show (-400000000000000 : Int) ≤ 0; omega, by show (0 : Int) ≤ 400000000000000; omega⟩ ⟨by show (-400000000000000 : Int) ≤ 0; omega, by show (0 : Int) ≤ 400000000000000; omega⟩
    simpa only [cycle_Pass.f, Option.bind_some, closeF] using this
  have norm : ∀ (c' amount used : Int), (-400000000000000 ≤ c' ∧ c' ≤ 400000000000000) → (-400000000000000 ≤ amount ∧ amount ≤ 400000000000000) → (-400000000000000 ≤ used ∧ used ≤ 400000000000000) →
      ((cycle_Begin.f a.ct day amount used p.go).bind fun b => (account_close.f a.st a.pl a.an a.ix (a.ct + 1) c' a.sk a.op a.dn a.up a.rf a.sp a.pd b.1 b.2.1 b.2.2.1 b.2.2.2.1 b.2.2.2.2.1 b.2.2.2.2.2.1 b.2.2.2.2.2.2.1 b.2.2.2.2.2.2.2)) = some ((closeA { a with ct := a.ct + 1, cr := c' } (mkc a.ct day amount used p.go)).t 0) := by
    intro c' amount used h1 h2 h3
    have := close_eq { a with ct := a.ct + 1, cr := c' } (mkc a.ct day amount used p.go) ⟨o4, o5, o6, o7, h1, by show _ ≤ a.pd ∧ a.pd ≤ _; omega, o9⟩ (by rw [mkc_f3]; exact h2) (by rw [mkc_f4]; exact h3)
    simpa only [cbegin_eq, Option.bind_some, closeF] using this
  have fin : ∀ (o : Option (Int × Int × Int × Int × Int × Int × Bool × (List (S37)) × Int × Int × Int × Int × Int × Int)) , (o.bind fun bt => some (bt.1, bt.2.1, bt.2.2.1, bt.2.2.2.1, bt.2.2.2.2.1, bt.2.2.2.2.2.1, bt.2.2.2.2.2.2.1, bt.2.2.2.2.2.2.2.1, bt.2.2.2.2.2.2.2.2.1, bt.2.2.2.2.2.2.2.2.2.1, bt.2.2.2.2.2.2.2.2.2.2.1, bt.2.2.2.2.2.2.2.2.2.2.2.1, bt.2.2.2.2.2.2.2.2.2.2.2.2.1, bt.2.2.2.2.2.2.2.2.2.2.2.2.2)) = o := fun o => by cases o <;> rfl
  have hj : ∀ b : Bool, b = (decide (a.st = 2) || a.sk || missed) → account_begin.j0 (k + 1) day missed a.ct b a.st a.pl a.an a.ix (a.ct + 1) a.cr a.sk a.op a.dn a.up a.rf a.sp a.pd p.pr p.un p.ev p.tr p.go p.la = some ((beginA a p day missed).t 0) := by
    intro b hb
    simp only [account_begin.j0, fin]
    cases b with
    | true =>
      rw [if_pos rfl]
      have hc : a.st = 2 ∨ a.sk = true ∨ missed = true := by
        have := hb.symm
        simp only [Bool.or_eq_true, decide_eq_true_eq] at this
        rcases this with (h | h) | h
        · exact .inl h
        · exact .inr (.inl h)
        · exact .inr (.inr h)
      unfold beginA
      rw [if_pos hc]
      cases hs : a.sk with
      | true =>
        rw [if_pos rfl]
        by_cases h2 : a.st = 2
        · rw [if_pos h2]
          have := skip true
          simpa [h2] using this
        · rw [if_neg h2]
          have := skip missed
          simpa [h2] using this
      | false =>
        rw [if_neg (by simp)]
        have := skip false
        simpa using this
    | false =>
      rw [if_neg (by simp)]
      have hc : ¬ (a.st = 2 ∨ a.sk = true ∨ missed = true) := by
        have := hb.symm
        simp only [Bool.or_eq_false_iff, decide_eq_false_iff_not] at this
        rintro (h | h | h)
        · exact this.1.1 h
        · rw [this.1.2] at h; cases h
        · rw [this.2] at h; cases h
      unfold beginA
      rw [if_neg hc, pless_eq _ _ (by omega) (by omega)]
      simp only [Option.bind_some]
      rw [if_pos trivial]
      by_cases hn : p.pr - a.cr < 0
      · rw [if_pos hn, if_pos hn, show wrap64 (-(p.pr - a.cr)) = -(p.pr - a.cr) from by unfold wrap64; omega]
        exact norm _ _ _ (by omega) (by omega) (by omega)
      · rw [if_neg hn, if_neg hn]
        exact norm _ _ _ (by omega) (by omega) (by omega)
  by_cases h2 : a.st = 2
  · rw [if_pos h2]
    exact hj true (by simp [h2])
  · rw [if_neg h2]
    cases hs : a.sk with
    | true =>
      rw [if_pos rfl]
      have := hj true (by simp [hs])
      rwa [hs] at this
    | false =>
      rw [if_neg (by simp)]
      have := hj missed (by simp [h2, hs])
      rwa [hs] at this
/-- A day has come: a charge that was put off. -/
def wakeC (t : Int) (c : S37) : S37 := if c.f2 = 2 ∧ c.f6 ≤ t then ⟨c.f0, c.f1, 1, c.f3, c.f4, wrap64 (c.f5 + 1), 0, c.f7⟩ else c
theorem wake_eq (t : Int) (c : S37) : cycle_Wake.f c.f0 c.f1 c.f2 c.f3 c.f4 c.f5 c.f6 c.f7 t = some ((wakeC t c).f0, (wakeC t c).f1, (wakeC t c).f2, (wakeC t c).f3, (wakeC t c).f4, (wakeC t c).f5, (wakeC t c).f6, (wakeC t c).f7) := by
  unfold cycle_Wake.f cycle_Card.f wakeC
  by_cases h2 : c.f2 = 2
  · rw [if_pos h2]
    by_cases h6 : c.f6 ≤ t
    · rw [if_pos h6, if_pos h2, if_pos ⟨h2, h6⟩]; rfl
    · rw [if_neg h6, if_neg (by simp [h6])]
  · rw [if_neg h2, if_neg (by simp [h2])]
def dayL0 (k : Nat) (t n i : Int) (a : Ac) (p : Pl) := account_Day.l0 k t n i a.st a.pl a.an a.ix a.ct a.cr a.sk a.op a.dn a.up a.rf a.sp a.pd p.pr p.un p.ev p.tr p.go p.la
def dayL1 (k : Nat) (t : Int) (a : Ac) (p : Pl) := account_Day.l1 k t a.st a.pl a.an a.ix a.ct a.cr a.sk a.op a.dn a.up a.rf a.sp a.pd p.pr p.un p.ev p.tr p.go p.la
def dayF (k : Nat) (a : Ac) (p : Pl) (t : Int) := account_Day.f k a.st a.pl a.an a.ix a.ct a.cr a.sk a.op a.dn a.up a.rf a.sp a.pd p.pr p.un p.ev p.tr p.go p.la t
theorem rd_at (l r : List S37) (c : S37) : rd_T37 (l ++ c :: r) (l.length : Int) = c := by
  unfold rd_T37
  rw [Int.toNat_natCast]; simp [List.getD_eq_getElem?_getD]
theorem set_at (l r : List S37) (c d : S37) : (l ++ c :: r).set (l.length : Int).toNat d = l ++ d :: r := by
  rw [Int.toNat_natCast, List.set_append_right _ _ (Nat.le_refl _), Nat.sub_self]; rfl
theorem day_wakes0 (t : Int) (p : Pl) (l : List S37) (k : Nat) (a : Ac) (n : Int) (hn : n = (l.length : Int)) : dayL0 (k + 1) t n n a p = dayL1 k t a p := by
  unfold dayL0 dayL1
  simp only [account_Day.l0]
  rw [if_neg (Int.lt_irrefl n)]
theorem day_wakes1 (t : Int) (p : Pl) (l r : List S37) (c : S37) (k : Nat) (a : Ac) (n : Int) (h : a.op = l ++ c :: r) (hn : n = (l.length : Int) + 1 + (r.length : Int)) (hb : n ≤ 4000000000000) :
    dayL0 (k + 1) t n (l.length : Int) a p = dayL0 k t n ((l.length : Int) + 1) { a with op := l ++ wakeC t c :: r } p := by
  have hw : wrap64 ((l.length : Int) + 1) = (l.length : Int) + 1 := by unfold wrap64; omega
  have hx : (l.length : Int) < ((l ++ c :: r).length : Int) := by rw [List.length_append, List.length_cons]; omega
  unfold dayL0
  simp only [account_Day.l0]
  rw [if_pos (show (l.length : Int) < n by omega), if_pos (show (0 : Int) ≤ (l.length : Int) by omega), h, if_pos hx, rd_at, wake_eq]
  simp only [Option.bind_some]
  rw [set_at, hw]
theorem day_wakes (t : Int) (p : Pl) (n : Int) (hb : n ≤ 4000000000000) (r : List S37) : ∀ (l : List S37) (k : Nat) (a : Ac), a.op = l ++ r → n = (l.length : Int) + (r.length : Int) →
    dayL0 (k + r.length + 1) t n (l.length : Int) a p = dayL1 k t { a with op := l ++ r.map (wakeC t) } p := by
  induction r with
  | nil =>
    intro l k a h hn
    have hn' : n = (l.length : Int) := by rw [hn]; simp
    rw [← hn']
    show dayL0 (k + 1) t n n a p = _
    rw [day_wakes0 t p l k a n hn']
    have : ({ a with op := l ++ List.map (wakeC t) [] } : Ac) = a := by rw [show l ++ List.map (wakeC t) [] = a.op from by rw [h]; rfl]
    rw [this]
  | cons c r ih0 =>
    intro l k a h hn
    have hcl : ((c :: r).length : Int) = (r.length : Int) + 1 := by rw [List.length_cons]; omega
    have hlen : ((l ++ [wakeC t c]).length : Int) = (l.length : Int) + 1 := by rw [List.length_append]; rfl
    have ih := ih0 (l ++ [wakeC t c]) k { a with op := l ++ wakeC t c :: r } (by rw [List.append_assoc]; rfl) (by omega)
    have hop : (l ++ [wakeC t c]) ++ r.map (wakeC t) = l ++ (c :: r).map (wakeC t) := by rw [List.append_assoc]; rfl
    rw [hlen, hop] at ih
    rw [show k + (c :: r).length + 1 = (k + r.length + 1) + 1 from rfl, day_wakes1 t p l r c _ a n h (by omega) hb]
    exact ih
theorem copy_eq (a : Ac) (h : a.op.length ≤ 1000000000000) : account_Copy.f a.st a.pl a.an a.ix a.ct a.cr a.sk a.op a.dn a.up a.rf a.sp a.pd = some (a.st, a.pl, a.an, a.ix, a.ct, a.cr, a.sk, a.op, a.dn, a.up, a.rf, a.sp, a.pd) := by
  unfold account_Copy.f api_Cycle.f
  simp only [Option.bind_some, List.length_nil, List.nil_append]
  rw [if_pos (by omega)]; rfl
theorem day_eq (k : Nat) (a : Ac) (p : Pl) (t : Int) (h : a.op.length ≤ 1000000000000) : dayF (k + a.op.length + 1) a p t = dayL1 k t { a with op := a.op.map (wakeC t) } p := by
  have hw := day_wakes t p (a.op.length : Int) (by omega) a.op [] k a rfl (by simp)
  unfold dayF account_Day.f
  rw [copy_eq a h]
  simp only [Option.bind_some]
  unfold dayL0 at hw
  simpa using hw
/-- The loop over the periods: it stops. -/
theorem day_stop3 (k : Nat) (t : Int) (a : Ac) (p : Pl) (h : a.st = 3) : dayL1 (k + 1) t a p = some (a.t 0) := by
  unfold dayL1; simp only [account_Day.l1]; rw [if_pos h]; rfl
def nthA (a : Ac) (p : Pl) (y m d i : Int) : Option Int := Sea.nth a.an y m d p.un p.ev i
theorem due_eq (k : Nat) (hk : 11000 ≤ k) (a : Ac) (p : Pl) (y m d : Int) (hv : Cal.valid y m d) (ha : Cal.num y m d = a.an) (hp : p.Ok) (i : Int) (hi : 0 ≤ i ∧ i ≤ 3652058) :
    account_due.f k a.st a.pl a.an i a.ct a.cr a.sk a.op a.dn a.up a.rf a.sp a.pd p.pr p.un p.ev p.tr p.go p.la = some ((Sea.out (nthA a p y m d i)).1, (nthA a p y m d i).isSome) := by
  unfold account_due.f
  rw [nth_eq k hk a.an y m d p.un p.ev i hv ha hp.2.1 hp.2.2 hi]
  simp only [Option.bind_some, nthA]
  cases Sea.nth a.an y m d p.un p.ev i <;> rfl
theorem due_some (k : Nat) (hk : 11000 ≤ k) (a : Ac) (p : Pl) (y m d : Int) (hv : Cal.valid y m d) (ha : Cal.num y m d = a.an) (hp : p.Ok) (i : Int) (hi : 0 ≤ i ∧ i ≤ 3652058) (v : Int) (h : nthA a p y m d i = some v) :
    account_due.f k a.st a.pl a.an i a.ct a.cr a.sk a.op a.dn a.up a.rf a.sp a.pd p.pr p.un p.ev p.tr p.go p.la = some (v, true) := by
  rw [due_eq k hk a p y m d hv ha hp i hi, h]; rfl
theorem due_none (k : Nat) (hk : 11000 ≤ k) (a : Ac) (p : Pl) (y m d : Int) (hv : Cal.valid y m d) (ha : Cal.num y m d = a.an) (hp : p.Ok) (i : Int) (hi : 0 ≤ i ∧ i ≤ 3652058) (h : nthA a p y m d i = none) :
    account_due.f k a.st a.pl a.an i a.ct a.cr a.sk a.op a.dn a.up a.rf a.sp a.pd p.pr p.un p.ev p.tr p.go p.la = some (0, false) := by
  rw [due_eq k hk a p y m d hv ha hp i hi, h]; rfl
theorem day_stop (k : Nat) (hk : 11000 ≤ k) (t : Int) (a : Ac) (p : Pl) (y m d : Int) (hv : Cal.valid y m d) (ha : Cal.num y m d = a.an) (hp : p.Ok) (hi : 0 ≤ a.ix ∧ a.ix ≤ 3652058)
    (h : ∀ v, nthA a p y m d a.ix = some v → t < v) : dayL1 (k + 2) t a p = some (a.t 0) := by
  by_cases h3 : a.st = 3
  · exact day_stop3 _ t a p h3
  · unfold dayL1
    simp only [account_Day.l1]
    rw [if_neg h3]
    cases hn : nthA a p y m d a.ix with
    | none =>
      rw [due_none (k + 1) (by omega) a p y m d hv ha hp a.ix hi hn]
      simp only [Option.bind_some, Bool.false_eq_true, if_false, account_Day.j2, if_true]; rfl
    | some v =>
      have := h v hn
      rw [due_some (k + 1) (by omega) a p y m d hv ha hp a.ix hi v hn]
      simp only [Option.bind_some, if_true, account_Day.j2]
      rw [if_pos (show decide (v > t) = true from decide_eq_true this)]; rfl
/-- Is the period at i missed: does the plan pass it over because the next one begins, too? -/
def missedA (a : Ac) (p : Pl) (y m d : Int) (t : Int) : Bool := p.la && (match nthA a p y m d (a.ix + 1) with | some v => decide (v ≤ t) | none => false)
theorem day_step (k : Nat) (hk : 11000 ≤ k) (t : Int) (a : Ac) (p : Pl) (y m d v : Int) (hv : Cal.valid y m d) (ha : Cal.num y m d = a.an) (hp : p.Ok) (hi : 0 ≤ a.ix ∧ a.ix < 3652058) (hok : a.Ok) (h3 : a.st ≠ 3)
    (hn : nthA a p y m d a.ix = some v) (hvt : v ≤ t) : dayL1 (k + 2) t a p = dayL1 k t (beginA { a with ix := a.ix + 1 } p v (missedA a p y m d t)) p := by
  have hw : wrap64 (a.ix + 1) = a.ix + 1 := by unfold wrap64; omega
  have hok' : Ac.Ok { a with ix := a.ix + 1 } := ⟨hok.ct, by show 0 ≤ a.ix + 1 ∧ a.ix + 1 ≤ _; omega, hok.cr, hok.dn, hok.up, hok.rf, hok.sp, hok.pd, hok.op⟩
  have hb : ∀ ms, account_begin.f k a.st a.pl a.an (a.ix + 1) a.ct a.cr a.sk a.op a.dn a.up a.rf a.sp a.pd p.pr p.un p.ev p.tr p.go p.la v ms = some ((beginA { a with ix := a.ix + 1 } p v ms).t 0) := fun ms => begin_eq k (by omega) { a with ix := a.ix + 1 } p v ms hok' hp
  have hl : p.la = true ∨ p.la = false := by cases p.la <;> simp
  unfold dayL1
  simp only [account_Day.l1]
  rw [if_neg h3, due_some (k + 1) (by omega) a p y m d hv ha hp a.ix (by omega) v hn]
  simp only [Option.bind_some, if_true, account_Day.j2]
  rw [if_neg (show ¬ decide (v > t) = true from by simp; omega), hw]
  unfold missedA
  have next : ∀ ms : Bool, ((account_begin.f k a.st a.pl a.an (a.ix + 1) a.ct a.cr a.sk a.op a.dn a.up a.rf a.sp a.pd p.pr p.un p.ev p.tr p.go p.la v ms).bind fun bt => (if bt.2.2.2.2.2.2.2.2.2.2.2.2.2 = 0 then (account_Day.l1 k t bt.1 bt.2.1 bt.2.2.1 bt.2.2.2.1 bt.2.2.2.2.1 bt.2.2.2.2.2.1 bt.2.2.2.2.2.2.1 bt.2.2.2.2.2.2.2.1 bt.2.2.2.2.2.2.2.2.1 bt.2.2.2.2.2.2.2.2.2.1 bt.2.2.2.2.2.2.2.2.2.2.1 bt.2.2.2.2.2.2.2.2.2.2.2.1 bt.2.2.2.2.2.2.2.2.2.2.2.2.1 p.pr p.un p.ev p.tr p.go p.la) else (none))) = account_Day.l1 k t (beginA { a with ix := a.ix + 1 } p v ms).st (beginA { a with ix := a.ix + 1 } p v ms).pl (beginA { a with ix := a.ix + 1 } p v ms).an (beginA { a with ix := a.ix + 1 } p v ms).ix (beginA { a with ix := a.ix + 1 } p v ms).ct (beginA { a with ix := a.ix + 1 } p v ms).cr (beginA { a with ix := a.ix + 1 } p v ms).sk (beginA { a with ix := a.ix + 1 } p v ms).op (beginA { a with ix := a.ix + 1 } p v ms).dn (beginA { a with ix := a.ix + 1 } p v ms).up (beginA { a with ix := a.ix + 1 } p v ms).rf (beginA { a with ix := a.ix + 1 } p v ms).sp (beginA { a with ix := a.ix + 1 } p v ms).pd p.pr p.un p.ev p.tr p.go p.la := by
    intro ms
    rw [hb ms]
    simp only [Option.bind_some, Ac.t, if_true]
  cases hx : nthA a p y m d (a.ix + 1) with
  | none =>
    rw [due_none k hk a p y m d hv ha hp (a.ix + 1) (by omega) hx]
    simp only [Option.bind_some, Bool.false_eq_true, if_false, Bool.and_false, next]
    split <;> rfl
  | some x =>
    rw [due_some k hk a p y m d hv ha hp (a.ix + 1) (by omega) x hx]
    simp only [Option.bind_some, if_true, next]
    rcases hl with hl | hl
    · simp only [hl, if_true, Bool.true_and]
    · simp only [hl, Bool.false_eq_true, if_false, Bool.false_and]
end Go.Proofs.Ytnpcodfeggcdbaa.Pure
