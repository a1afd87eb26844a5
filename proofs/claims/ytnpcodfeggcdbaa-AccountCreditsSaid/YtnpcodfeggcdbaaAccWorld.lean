/- Subscriptions that were just opened. -/
import Derived.Test.YtnpcodfeggcdbaaAccPlain
set_option linter.unusedVariables false
set_option linter.unusedSimpArgs false
namespace Go.Proofs.Ytnpcodfeggcdbaa.Pure
open Go.RowKit Go.Proofs.Ytnpcodfeggcdbaa.PAcc Go.Proofs.YtnpcodfeggcdbaaW.PrintWords Go.Proofs.YtnpcodfeggcdbaaW.PrintLast
open Go.Proofs.Ytnpcodfeggcdbaa Go.Proofs.Ytnpcodfeggcdbaa.Pure
theorem awake_some (k : Nat) (hk : 200 ≤ k) : paybooklaw13_awake.f k = some true :=
  at_rounds (g := fun k => paybooklaw13_awake.f k) (fun k => paybooklaw13_awake.mono k) hk (by kernel_rfl)
/-- What a plan that is made of a number is. -/
theorem plan_some (a0 : Int) (h0 : 0 ≤ a0) (h1 : a0 ≤ 255) : ∃ pr un ev tr go la, paybookref12_Plan.f a0 = some (pr, un, ev, tr, go, la) ∧ (0 ≤ pr ∧ pr ≤ 2999) ∧ (0 ≤ un ∧ un ≤ 3) ∧ (1 ≤ ev ∧ ev ≤ 3) ∧ (0 ≤ tr ∧ tr ≤ 10) := by
  have r4 : ∀ (w x y z i : Int), 0 ≤ i → i < 4 → rd [w, x, y, z] i = w ∨ rd [w, x, y, z] i = x ∨ rd [w, x, y, z] i = y ∨ rd [w, x, y, z] i = z := by
    intro w x y z i hi hj
    rcases (show i = 0 ∨ i = 1 ∨ i = 2 ∨ i = 3 by omega) with rfl | rfl | rfl | rfl
    · exact .inl rfl
    · exact .inr (.inl rfl)
    · exact .inr (.inr (.inl rfl))
    · exact .inr (.inr (.inr rfl))
  unfold paybookref12_Plan.f
  simp only [Option.bind_some, List.length_cons, List.length_nil]
  rw [Int.tdiv_eq_ediv_of_nonneg h0, Int.tdiv_eq_ediv_of_nonneg h0, Int.tdiv_eq_ediv_of_nonneg h0, Int.tmod_eq_emod_of_nonneg h0]
  rw [if_pos (by omega), if_pos (by omega), if_pos (by omega), if_pos (by omega)]
  refine ⟨_, _, _, _, _, _, rfl, ?_, by omega, by omega, ?_⟩
  · rcases r4 1000 0 2999 1 (a0 % 4) (by omega) (by omega) with h | h | h | h <;> rw [h] <;> omega
  · rcases r4 0 0 10 3 (a0 / 48 % 256 % 4) (by omega) (by omega) with h | h | h | h <;> rw [h] <;> omega
/-- Near days have their periods. -/
theorem year_low (y m d a : Int) (hv : Cal.valid y m d) (ha : Cal.num y m d = a) (h : a ≤ 900000) : y ≤ 2500 := by
  have h1 := (Cal.num_lt y m d hv).1
  have h2 := Cal.bef_ge y hv.1
  omega
theorem nth_there (a y m d u e n : Int) (hv : Cal.valid y m d) (ha : Cal.num y m d = a) (hu : 0 ≤ u ∧ u ≤ 3) (he : 1 ≤ e ∧ e ≤ 3) (hn : 0 ≤ n ∧ n ≤ 400) (h : a ≤ 900000) : ∃ v, Sea.nth a y m d u e n = some v := by
  have hy := year_low y m d a hv ha h
  have hb := Sea.mul_bd n e 400 3 hn.1 hn.2 he.1 he.2
  obtain ⟨v1, v2, v3, v4, v5, v6⟩ := hv
  rcases (show u = 0 ∨ u = 1 ∨ u = 2 ∨ u = 3 by omega) with rfl | rfl | rfl | rfl
  · exact ⟨_, Sea.days_some a y m d e n (by omega)⟩
  · exact ⟨_, Sea.weeks_some a y m d e n (by omega)⟩
  · rw [Sea.months_eq]; unfold Sea.monAdd; rw [if_pos (by omega)]; exact ⟨_, rfl⟩
  · rw [Sea.years_eq]; unfold Sea.monAdd; rw [if_pos (by omega)]; exact ⟨_, rfl⟩
theorem rd_old (l : List S37) (c : S37) (i : Int) (h0 : 0 ≤ i) (h : i < (l.length : Int)) : rd_T37 (l ++ [c]) i = rd_T37 l i := by
  unfold rd_T37
  rw [List.getD_eq_getElem?_getD, List.getD_eq_getElem?_getD, List.getElem?_append_left (by omega)]
theorem rd_new (l : List S37) (c : S37) (i : Int) (h : i = (l.length : Int)) : rd_T37 (l ++ [c]) i = c := by
  rw [h]; exact rd_at l [] c
/-- A day of the calendar. -/
theorem day_of (n : Int) (h0 : 0 ≤ n) (h1 : n ≤ 3652058) : ∃ y m d, Cal.valid y m d ∧ Cal.num y m d = n := by
  obtain ⟨y, m, d, _, h⟩ := of_yes 11000 (Nat.le_refl _) n h0 h1
  exact ⟨y, m, d, h⟩
/-- A subscription that was just opened. -/
def newA (n an : Int) : Ac := ⟨1, n, an, 0, 0, 0, false, [], 0, 0, 0, 0, 0⟩
/-- So many cycles of a priced plan with goods have begun, each on its day. -/
structure Due (a : Ac) (p : Pl) (y m d t : Int) (pl0 an0 : Int) (j : Nat) : Prop where
  st : a.st = 1
  pl : a.pl = pl0
  an : a.an = an0
  ix : a.ix = j
  ct : a.ct = j
  cr : a.cr = 0
  sk : a.sk = false
  len : a.op.length = j
  each : ∀ i : Int, 0 ≤ i → i < j → ∃ v, Sea.nth an0 y m d p.un p.ev i = some v ∧ v ≤ t ∧ (rd_T37 a.op i).f0 = i ∧ (rd_T37 a.op i).f1 = v ∧ (rd_T37 a.op i).f2 = 1 ∧ (rd_T37 a.op i).f3 = p.pr
  sums : a.dn = 0 ∧ a.up = 0 ∧ a.rf = 0 ∧ a.sp = 0 ∧ a.pd = 0
theorem Due.ok {a : Ac} {p : Pl} {y m d t pl an : Int} {j : Nat} (h : Due a p y m d t pl an j) (hj : j ≤ 1000) : a.Ok := by
  obtain ⟨_, _, _, h4, h5, h6, _, h8, _, h10⟩ := h
  exact ⟨by omega, by omega, by omega, by omega, by omega, by omega, by omega, by omega, by omega⟩
theorem Due.step {a : Ac} {p : Pl} {y m d t pl an : Int} {j : Nat} (h : Due a p y m d t pl an j) (hp : 0 < p.pr) (v : Int) (hv : Sea.nth an y m d p.un p.ev j = some v) (hvt : v ≤ t) :
    Due (beginA { a with ix := a.ix + 1 } p v false) p y m d t pl an (j + 1) := by
  obtain ⟨h1, h2, h3, h4, h5, h6, h7, h8, h9, h10⟩ := h
  have e : beginA { a with ix := a.ix + 1 } p v false = { a with ix := a.ix + 1, ct := a.ct + 1, cr := 0, op := a.op ++ [⟨a.ct, v, 1, p.pr, 0, 1, 0, p.go⟩] } := by
    unfold beginA
    rw [if_neg (by simp [h1, h7])]
    simp only [h6]
    rw [if_neg (by omega), show p.pr - 0 = p.pr from by omega]
    have hm : mkc a.ct v p.pr 0 p.go = ⟨a.ct, v, 1, p.pr, 0, 1, 0, p.go⟩ := by unfold mkc; rw [if_neg (by omega)]
    rw [hm]
    unfold closeA
    rw [if_neg (show ¬ (7 : Int) ≤ 1 by omega)]
  rw [e]
  refine ⟨h1, h2, h3, by show a.ix + 1 = _; omega, by show a.ct + 1 = _; omega, rfl, h7, by simp [h8], ?_, h10⟩
  intro i i0 i1
  show ∃ v', _ ∧ _ ∧ (rd_T37 (a.op ++ [_]) i).f0 = i ∧ (rd_T37 (a.op ++ [_]) i).f1 = v' ∧ (rd_T37 (a.op ++ [_]) i).f2 = 1 ∧ (rd_T37 (a.op ++ [_]) i).f3 = p.pr
  by_cases hi : i < (j : Int)
  · rw [rd_old _ _ _ i0 (by omega)]
    exact h9 i i0 hi
  · have : i = (j : Int) := by omega
    subst this
    rw [rd_new _ _ _ (by omega)]
    exact ⟨v, hv, hvt, h5, rfl, rfl, rfl⟩
theorem due_run (p : Pl) (hp : p.Ok) (hpr : 0 < p.pr) (hla : p.la = false) (y m d t pl an : Int) (hv : Cal.valid y m d) (ha : Cal.num y m d = an) (g : Nat) : ∀ (j : Nat) (a : Ac) (k : Nat), 11000 ≤ k → Due a p y m d t pl an j → t - an + 1 - j ≤ g → (j : Int) + g ≤ 400 →
    ∃ (b : Ac) (N : Nat), dayL1 (k + 2 * g + 2) t a p = some (b.t 0) ∧ Due b p y m d t pl an N ∧ (N : Int) ≤ 400 ∧ j ≤ N ∧ ∀ v, Sea.nth an y m d p.un p.ev N = some v → t < v := by
  have stop : ∀ (j : Nat) (a : Ac) (k : Nat), 11000 ≤ k → Due a p y m d t pl an j → (j : Int) ≤ 400 → (∀ v, Sea.nth an y m d p.un p.ev j = some v → t < v) → dayL1 (k + 2) t a p = some (a.t 0) := by
    intro j a k hk h hj hs
    refine day_stop k hk t a p y m d hv (by rw [h.an]; exact ha) hp (by rw [h.ix]; omega) ?_
    unfold nthA
    rw [h.an, h.ix]
    exact hs
  induction g with
  | zero =>
    intro j a k hk h hg hj
    have hs : ∀ v, Sea.nth an y m d p.un p.ev j = some v → t < v := by
      intro v hv'
      have := (Sea.nth_range an y m d p.un p.ev j hv ha hp.2.2.1 (by omega) v hv').1
      omega
    exact ⟨a, j, stop j a k hk h (by omega) hs, h, by omega, Nat.le_refl _, hs⟩
  | succ g ih =>
    intro j a k hk h hg hj
    by_cases hc : ∃ v, Sea.nth an y m d p.un p.ev j = some v ∧ v ≤ t
    · obtain ⟨v, h1, h2⟩ := hc
      have hd := h.step hpr v h1 h2
      obtain ⟨b, N, g1, g2, g3, g4, g5⟩ := ih (j + 1) _ k hk hd (by omega) (by omega)
      refine ⟨b, N, ?_, g2, g3, by omega, g5⟩
      have hm : missedA a p y m d t = false := by unfold missedA; rw [hla]; rfl
      have := day_step (k + 2 * g + 2) (by omega) t a p y m d v hv (by rw [h.an]; exact ha) hp (by rw [h.ix]; omega) (h.ok (by omega)) (by rw [h.st]; omega) (by unfold nthA; rw [h.an, h.ix]; exact h1) h2
      rw [hm] at this
      rw [show k + 2 * (g + 1) + 2 = k + 2 * g + 2 + 2 from by omega, this]
      exact g1
    · have hs : ∀ v, Sea.nth an y m d p.un p.ev j = some v → t < v := by
        intro v hv'
        by_cases h' : v ≤ t
        · exact absurd ⟨v, hv', h'⟩ hc
        · omega
      refine ⟨a, j, ?_, h, by omega, Nat.le_refl _, hs⟩
      rw [show k + 2 * (g + 1) + 2 = (k + 2 * (g + 1)) + 2 from rfl]
      exact stop j a _ (by omega) h (by omega) hs
theorem due_new (p : Pl) (y m d t pl an : Int) : Due (newA pl an) p y m d t pl an 0 := ⟨rfl, rfl, rfl, rfl, rfl, rfl, rfl, rfl, fun i h0 h1 => by omega, rfl, rfl, rfl, rfl, rfl⟩
end Go.Proofs.Ytnpcodfeggcdbaa.Pure
