/- AccountCredits: what is given back by a change of plans is taken from the next cycles, to the last unit: what the law computes, for every input. -/
import Derived.Test.YtnpcodfeggcdbaaAccChange
import Derived.Laws.MathBits
import Derived.OpenShut
set_option linter.unusedVariables false
set_option linter.unusedSimpArgs false
namespace Go.Proofs.Ytnpcodfeggcdbaa.Pure
open Go.RowKit Go.Proofs.Ytnpcodfeggcdbaa.PAcc Go.Proofs.YtnpcodfeggcdbaaW.PrintWords Go.Proofs.YtnpcodfeggcdbaaW.PrintLast
open Go.Proofs.Ytnpcodfeggcdbaa Go.Proofs.YtnpcodfeggcdbaaW.PrintMore
theorem begin_first (p : Pl) (day an : Int) (hpr : 0 ≤ p.pr) : beginA { newA 0 an with ix := (newA 0 an).ix + 1 } p day false =
    if p.pr = 0 then (if p.go = true then ⟨1, 0, an, 1, 1, 0, false, [⟨0, day, 3, 0, 0, 0, 0, true⟩], 0, 0, 0, 0, 0⟩ else ⟨1, 0, an, 1, 1, 0, false, [], 1, 0, 0, 0, 0⟩) else ⟨1, 0, an, 1, 1, 0, false, [⟨0, day, 1, p.pr, 0, 1, 0, p.go⟩], 0, 0, 0, 0, 0⟩ := by
  unfold beginA newA
  rw [if_neg (by simp), if_neg (by show ¬ p.pr - 0 < 0; omega), Int.sub_zero]
  by_cases c0 : p.pr = 0
  · rw [if_pos c0]
    cases hg : p.go <;> simp [closeA, mkc, c0]
  · rw [if_neg c0]
    simp [closeA, mkc, c0]
/-- So many periods have begun, none was passed over. -/
structure RunI (a : Ac) (an : Int) (j : Nat) : Prop where
  st : a.st = 1
  an : a.an = an
  sk : a.sk = false
  cr : a.cr = 0
  ix : a.ix = j
  ct : a.ct = j
  dn : 0 ≤ a.dn ∧ a.dn ≤ j
  up : a.up = 0
  rf : a.rf = 0
  sp : a.sp = 0
  pd : a.pd = 0
  len : a.op.length ≤ j
  ph : ∀ c : S37, c ∈ a.op → c.f2 = 1 ∨ c.f2 = 3
theorem RunI.ok {a : Ac} {an : Int} {j : Nat} (h : RunI a an j) (hj : j ≤ 100000) : a.Ok := by
  obtain ⟨_, _, _, h4, h5, h6, h7, h8, h9, h10, h11, h12, _⟩ := h
  exact ⟨by omega, by omega, by omega, by omega, by omega, by omega, by omega, by omega, by omega⟩
theorem RunI.wake {a : Ac} {an : Int} {j : Nat} (h : RunI a an j) (t : Int) : a.op.map (wakeC t) = a.op := by
  rw [List.map_congr_left (g := id) (fun c hc => ?_), List.map_id]
  have := h.ph c hc
  unfold wakeC
  rw [if_neg (by omega)]
  rfl
theorem RunI.step {a : Ac} {an : Int} {j : Nat} (h : RunI a an j) (p : Pl) (hpr : 0 ≤ p.pr) (v : Int) : RunI (beginA { a with ix := a.ix + 1 } p v false) an (j + 1) := by
  obtain ⟨h1, h2, h3, h4, h5, h6, h7, h8, h9, h10, h11, h12, h13⟩ := h
  have hmem : ∀ (x : S37), (x.f2 = 1 ∨ x.f2 = 3) → ∀ c : S37, c ∈ a.op ++ [x] → c.f2 = 1 ∨ c.f2 = 3 := by
    intro x hx c hc
    rcases List.mem_append.1 hc with h | h
    · exact h13 c h
    · rw [List.mem_singleton.1 h]; exact hx
  have e : beginA { a with ix := a.ix + 1 } p v false = closeA { a with ix := a.ix + 1, ct := a.ct + 1, cr := 0 } (mkc a.ct v p.pr 0 p.go) := by
    unfold beginA
    rw [if_neg (by simp [h1, h3])]
    simp only [h4]
    rw [if_neg (by omega), Int.sub_zero]
  rw [e]
  unfold mkc
  by_cases c0 : p.pr = 0
  · rw [if_pos c0]
    cases p.go with
    | true =>
      unfold closeA
      rw [if_neg (by simp)]
      exact ⟨h1, h2, h3, rfl, by show a.ix + 1 = _; omega, by show a.ct + 1 = _; omega, by show 0 ≤ a.dn ∧ a.dn ≤ _; omega, h8, h9, h10, h11, by simp; omega, hmem _ (.inr rfl)⟩
    | false =>
      unfold closeA
      rw [if_pos (by simp), if_pos (by simp)]
      exact ⟨h1, h2, h3, rfl, by show a.ix + 1 = _; omega, by show a.ct + 1 = _; omega, by show 0 ≤ a.dn + 1 ∧ a.dn + 1 ≤ _; omega, h8, h9, h10, by show a.pd + 0 = 0; omega, by show a.op.length ≤ _; omega, h13⟩
  · rw [if_neg c0]
    unfold closeA
    rw [if_neg (show ¬ (7 : Int) ≤ 1 by omega)]
    exact ⟨h1, h2, h3, rfl, by show a.ix + 1 = _; omega, by show a.ct + 1 = _; omega, by show 0 ≤ a.dn ∧ a.dn ≤ _; omega, h8, h9, h10, h11, by simp; omega, hmem _ (.inl rfl)⟩
/-- The subscription behind so many periods. -/
def runA (p : Pl) (y m d an : Int) : Nat → Ac
  | 0 => newA 0 an
  | j + 1 => beginA { runA p y m d an j with ix := (runA p y m d an j).ix + 1 } p ((Sea.nth an y m d p.un p.ev j).getD 0) false
theorem run_inv (p : Pl) (hpr : 0 ≤ p.pr) (y m d an : Int) : ∀ j, RunI (runA p y m d an j) an j
  | 0 => ⟨rfl, rfl, rfl, rfl, rfl, rfl, ⟨show (0 : Int) ≤ 0 by omega, show (0 : Int) ≤ 0 by omega⟩, rfl, rfl, rfl, rfl, Nat.le_refl _, fun c hc => by cases hc⟩
  | j + 1 => (run_inv p hpr y m d an j).step p hpr _
/-- So many have begun up to a day. -/
def Upto (p : Pl) (y m d an : Int) (j : Nat) (t : Int) : Prop := ∀ i : Nat, i < j → ∃ v, Sea.nth an y m d p.un p.ev i = some v ∧ v ≤ t
theorem upto_le (p : Pl) (hp : p.Ok) (y m d an t : Int) (hv : Cal.valid y m d) (ha : Cal.num y m d = an) (j : Nat) (h : Upto p y m d an j t) (hj : 0 < j) : (j : Int) ≤ t - an + 1 := by
  obtain ⟨v, h1, h2⟩ := h (j - 1) (by omega)
  have := (Sea.nth_range an y m d p.un p.ev ((j - 1 : Nat) : Int) hv ha hp.2.2.1 (by omega) v h1).1
  omega
theorem run_day (p : Pl) (hp : p.Ok) (hla : p.la = false) (y m d t an : Int) (hv : Cal.valid y m d) (ha : Cal.num y m d = an) (g : Nat) : ∀ (j k : Nat), 11000 ≤ k → Upto p y m d an j t → t - an + 1 - j ≤ g → j + g ≤ 10000 →
    ∃ N, dayL1 (k + 2 * g + 2) t (runA p y m d an j) p = some ((runA p y m d an N).t 0) ∧ Upto p y m d an N t ∧ ∀ v, Sea.nth an y m d p.un p.ev N = some v → t < v := by
  have stop : ∀ (j k : Nat), 11000 ≤ k → j ≤ 10000 → (∀ v, Sea.nth an y m d p.un p.ev j = some v → t < v) → dayL1 (k + 2) t (runA p y m d an j) p = some ((runA p y m d an j).t 0) := by
    intro j k hk hj hs
    have I := run_inv p hp.1.1 y m d an j
    refine day_stop k hk t _ p y m d hv (by rw [I.an]; exact ha) hp (by rw [I.ix]; omega) ?_
    unfold nthA
    rw [I.an, I.ix]
    exact hs
  induction g with
  | zero =>
    intro j k hk hu hg hj
    have hs : ∀ v, Sea.nth an y m d p.un p.ev j = some v → t < v := by
      intro v hv'
      have := (Sea.nth_range an y m d p.un p.ev j hv ha hp.2.2.1 (by omega) v hv').1
      omega
    exact ⟨j, stop j k hk (by omega) hs, hu, hs⟩
  | succ g ih =>
    intro j k hk hu hg hj
    by_cases hc : ∃ v, Sea.nth an y m d p.un p.ev j = some v ∧ v ≤ t
    · obtain ⟨v, h1, h2⟩ := hc
      have I := run_inv p hp.1.1 y m d an j
      have hu2 : Upto p y m d an (j + 1) t := by
        intro i hi
        by_cases c : i = j
        · subst c; exact ⟨v, h1, h2⟩
        · exact hu i (by omega)
      obtain ⟨N, g1, g2, g3⟩ := ih (j + 1) k hk hu2 (by omega) (by omega)
      refine ⟨N, ?_, g2, g3⟩
      have hm : missedA (runA p y m d an j) p y m d t = false := by unfold missedA; rw [hla]; rfl
      have := day_step (k + 2 * g + 2) (by omega) t (runA p y m d an j) p y m d v hv (by rw [I.an]; exact ha) hp (by rw [I.ix]; omega) (I.ok (by omega)) (by rw [I.st]; omega) (by unfold nthA; rw [I.an, I.ix]; exact h1) h2
      rw [hm] at this
      rw [show k + 2 * (g + 1) + 2 = k + 2 * g + 2 + 2 from by omega, this, ← g1]
      show _ = dayL1 _ _ (beginA _ p ((Sea.nth an y m d p.un p.ev j).getD 0) false) _
      rw [h1]
      rfl
    · have hs : ∀ v, Sea.nth an y m d p.un p.ev j = some v → t < v := by
        intro v hv'
        by_cases h' : v ≤ t
        · exact absurd ⟨v, hv', h'⟩ hc
        · omega
      refine ⟨j, ?_, hu, hs⟩
      rw [show k + 2 * (g + 1) + 2 = (k + 2 * (g + 1)) + 2 from rfl]
      exact stop j _ (by omega) (by omega) hs
theorem day_more (k e : Nat) (t : Int) (a b : Ac) (p : Pl) (h : dayL1 k t a p = some (b.t 0)) : dayL1 (k + e) t a p = some (b.t 0) := by
  induction e with
  | zero => exact h
  | succ e ih => exact (account_Day.mono_l _).2.1 _ _ _ _ _ _ _ _ _ _ _ _ _ _ _ _ _ _ _ _ _ ih
theorem day_whole (p : Pl) (hp : p.Ok) (hla : p.la = false) (y m d t an : Int) (hv : Cal.valid y m d) (ha : Cal.num y m d = an) (j : Nat) (hj : j ≤ 1000) (hu : Upto p y m d an j t) (ht : t - an + 1 ≤ 300) :
    ∃ N, dayF 30603 (runA p y m d an j) p t = some ((runA p y m d an N).t 0) ∧ Upto p y m d an N t ∧ ∀ v, Sea.nth an y m d p.un p.ev N = some v → t < v := by
  obtain ⟨N, g1, g2, g3⟩ := run_day p hp hla y m d t an hv ha 300 j 28000 (by omega) hu (by omega) (by omega)
  have I := run_inv p hp.1.1 y m d an j
  have hl := I.len
  refine ⟨N, ?_, g2, g3⟩
  have hd := day_eq (30602 - (runA p y m d an j).op.length) (runA p y m d an j) p t (by omega)
  rw [I.wake t, show 30602 - (runA p y m d an j).op.length + (runA p y m d an j).op.length + 1 = 30603 from by omega] at hd
  rw [hd]
  have := day_more _ (30602 - (runA p y m d an j).op.length - (28000 + 2 * 300 + 2)) _ _ _ _ g1
  rwa [show 28000 + 2 * 300 + 2 + (30602 - (runA p y m d an j).op.length - (28000 + 2 * 300 + 2)) = 30602 - (runA p y m d an j).op.length from by omega] at this
theorem upto_one (p : Pl) (y m d an t : Int) (j N : Nat) (h1 : Upto p y m d an j t) (h2 : ∀ v, Sea.nth an y m d p.un p.ev j = some v → t < v) (h3 : Upto p y m d an N t) (h4 : ∀ v, Sea.nth an y m d p.un p.ev N = some v → t < v) : j = N := by
  by_cases c1 : j < N
  · obtain ⟨v, e1, e2⟩ := h3 j c1
    have := h2 v e1
    omega
  · by_cases c2 : N < j
    · obtain ⟨v, e1, e2⟩ := h1 N c2
      have := h4 v e1
      omega
    · omega
/-- So many periods have begun up to a day. -/
def Cnt (a y m d u e day c : Int) : Prop := 0 ≤ c ∧ (∀ i, 0 ≤ i → i < c → Sea.upto a y m d u e i day) ∧ ¬ Sea.upto a y m d u e c day
theorem cnt_one (a y m d u e day c c' : Int) (h : Cnt a y m d u e day c) (h' : Cnt a y m d u e day c') : c = c' := by
  by_cases h1 : c < c'
  · exact absurd (h'.2.1 c h.1 h1) h.2.2
  · by_cases h2 : c' < c
    · exact absurd (h.2.1 c' h'.1 h2) h'.2.2
    · omega
theorem not_upto (a y m d u e day n : Int) (hv : Cal.valid y m d) (ha : Cal.num y m d = a) (he : 1 ≤ e) (hn : 0 ≤ n) (h : day < a + n) : ¬ Sea.upto a y m d u e n day := by
  rintro ⟨v, h1, h2⟩
  have := (Sea.nth_range a y m d u e n hv ha he hn v h1).1
  omega
theorem count_loop (a y m d u e day : Int) (hv : Cal.valid y m d) (ha : Cal.num y m d = a) (hu : 0 ≤ u ∧ u ≤ 3) (he : 1 ≤ e ∧ e ≤ 1000) (g : Nat) :
    ∀ (k : Nat) (lo hi : Int), 0 ≤ lo → lo ≤ hi → hi ≤ 3652059 → hi - lo ≤ g → 11001 + g ≤ k → (∀ i, 0 ≤ i → i < lo → Sea.upto a y m d u e i day) → ¬ Sea.upto a y m d u e hi day →
    ∃ c, season_Count.l0 k a u e day lo hi = some (c, 0) ∧ Cnt a y m d u e day c ∧ lo ≤ c ∧ c ≤ hi := by
  induction g with
  | zero =>
    intro k lo hi h0 h1 h2 h3 h4 h5 h6
    obtain ⟨k, rfl⟩ : ∃ j, k = j + 1 := ⟨k - 1, by omega⟩
    have : lo = hi := by omega
    subst this
    exact ⟨lo, by simp only [season_Count.l0]; rw [if_neg (by omega)], ⟨h0, h5, h6⟩, by omega, by omega⟩
  | succ g ih =>
    intro k lo hi h0 h1 h2 h3 h4 h5 h6
    obtain ⟨k, rfl⟩ : ∃ j, k = j + 1 := ⟨k - 1, by omega⟩
    by_cases hlt : lo < hi
    · have hm : wrap64 (Int.tdiv (wrap64 (lo + hi)) 2) = (lo + hi) / 2 := by
        rw [show wrap64 (lo + hi) = lo + hi from by unfold wrap64; omega, Int.tdiv_eq_ediv_of_nonneg (by omega)]
        unfold wrap64; omega
      simp only [season_Count.l0]
      rw [if_pos hlt, hm, nth_eq k (by omega) a y m d u e _ hv ha hu he ⟨by omega, by omega⟩]
      simp only [Option.bind_some]
      have low : ¬ Sea.upto a y m d u e ((lo + hi) / 2) day → ∃ c, season_Count.l0 k a u e day lo ((lo + hi) / 2) = some (c, 0) ∧ Cnt a y m d u e day c ∧ lo ≤ c ∧ c ≤ hi := by
        intro hno
        obtain ⟨c, c1, c2, c3, c4⟩ := ih k lo ((lo + hi) / 2) h0 (by omega) (by omega) (by omega) (by omega) h5 hno
        exact ⟨c, c1, c2, c3, by omega⟩
      cases hc : Sea.nth a y m d u e ((lo + hi) / 2) with
      | none =>
        obtain ⟨c, c1, c2⟩ := low (by rintro ⟨v, e1, _⟩; rw [hc] at e1; cases e1)
        refine ⟨c, ?_, c2⟩
        simpa [Sea.out] using c1
      | some v =>
        by_cases hv2 : v > day
        · obtain ⟨c, c1, c2⟩ := low (by rintro ⟨v', e1, e2⟩; rw [hc] at e1; obtain rfl := Option.some.inj e1; omega)
          refine ⟨c, ?_, c2⟩
          simpa [Sea.out, show day < v from hv2] using c1
        · obtain ⟨c, c1, c2, c3, c4⟩ := ih k ((lo + hi) / 2 + 1) hi (by omega) (by omega) h2 (by omega) (by omega)
            (fun i i0 i1 => Sea.upto_down a y m d u e i ((lo + hi) / 2) day hv he.1 i0 (by omega) ⟨v, hc, by omega⟩) h6
          refine ⟨c, ?_, c2, by omega, c4⟩
          rw [show wrap64 ((lo + hi) / 2 + 1) = (lo + hi) / 2 + 1 from by unfold wrap64; omega]
          simpa [Sea.out, show ¬ day < v by omega] using c1
    · have : lo = hi := by omega
      subst this
      exact ⟨lo, by simp only [season_Count.l0]; rw [if_neg (by omega)], ⟨h0, h5, h6⟩, by omega, by omega⟩
theorem count_eq (k : Nat) (hk : 4000000 ≤ k) (a y m d u e day : Int) (hv : Cal.valid y m d) (ha : Cal.num y m d = a) (hu : 0 ≤ u ∧ u ≤ 3) (he : 1 ≤ e ∧ e ≤ 1000) (hd : 0 ≤ day ∧ day ≤ 3652058) :
    ∃ c, season_Count.f k a u e day = some (c, 0) ∧ Cnt a y m d u e day c ∧ (c = 0 ∨ c ≤ day - a + 1) := by
  have hr := Cal.num_range y m d hv
  obtain ⟨k, rfl⟩ : ∃ j, k = j + 1 := ⟨k - 1, by omega⟩
  unfold season_Count.f
  rw [nth_eq (k + 1) (by omega) a y m d u e 0 hv ha hu he ⟨by omega, by omega⟩, Sea.nth_zero a y m d u e hv ha]
  suffices h : ∃ c, season_Count.l0 k a u e day 0 (day - a + 1) = some (c, 0) ∧ Cnt a y m d u e day c ∧ (c = 0 ∨ c ≤ day - a + 1) by
    obtain ⟨c, c1, c2⟩ := h
    refine ⟨c, ?_, c2⟩
    simp only [Option.bind_some, Sea.out]
    rw [if_pos trivial, if_neg (by omega), show decide (day > 3652058) = false from by simp; omega]
    simp only [season_Count.j0]
    rw [if_neg (by simp), show wrap64 (wrap64 (day - a) + 1) = day - a + 1 from by unfold wrap64; omega]
    exact c1
  by_cases hlt : day - a + 1 ≤ 0
  · obtain ⟨k, rfl⟩ : ∃ j, k = j + 1 := ⟨k - 1, by omega⟩
    refine ⟨0, by simp only [season_Count.l0]; rw [if_neg (by omega)], ⟨by omega, fun i i0 i1 => by omega, not_upto a y m d u e day 0 hv ha he.1 (by omega) (by omega)⟩, by omega⟩
  · obtain ⟨c, c1, c2, c3, c4⟩ := count_loop a y m d u e day hv ha hu he (day - a + 1).toNat k 0 (day - a + 1) (by omega) (by omega) (by omega) (by omega) (by omega)
      (fun i i0 i1 => by omega) (not_upto a y m d u e day _ hv ha he.1 (by omega) (by omega))
    exact ⟨c, c1, c2, by omega⟩
theorem span_f (a y m d u e day c v r1 r2 r3 : Int) (hv : Cal.valid y m d) (ha : Cal.num y m d = a) (hu : 0 ≤ u ∧ u ≤ 3) (he : 1 ≤ e ∧ e ≤ 1000) (hd : 0 ≤ day ∧ day ≤ 3652058) (hc : Cnt a y m d u e day c) (h1 : 1 ≤ c) (h2 : c ≤ 3652058)
    (hx : Sea.nth a y m d u e (c - 1) = some v) (hr : (match Sea.nth a y m d u e c with | some x => (v, x, 0) | none => (0, 0, 6)) = (r1, r2, r3)) : season_Span.f 4000000 a u e day = some (r1, r2, r3) := by
  obtain ⟨c', c1, c2, _⟩ := count_eq 4000000 (by omega) a y m d u e day hv ha hu he hd
  obtain rfl := cnt_one _ _ _ _ _ _ _ _ _ hc c2
  unfold season_Span.f
  rw [c1]
  simp only [Option.bind_some]
  rw [if_pos trivial, if_neg (by omega), show wrap64 (c - 1) = c - 1 from by unfold wrap64; omega]
  rw [nth_eq 4000000 (by omega) a y m d u e (c - 1) hv ha hu he ⟨by omega, by omega⟩, nth_eq 4000000 (by omega) a y m d u e c hv ha hu he ⟨by omega, by omega⟩, hx]
  cases hn : Sea.nth a y m d u e c with
  | none => rw [hn] at hr; simpa [Sea.out] using hr
  | some x => rw [hn] at hr; simpa [Sea.out] using hr
theorem u64_id (x : Int) (h0 : 0 ≤ x) (h1 : x ≤ 1000000000000) : IntKind.u64.wrap x = x := by
  simp [IntKind.wrap, IntKind.bits, IntKind.signed]
  omega
theorem mul_small (a l w : Int) (ha : 0 ≤ a ∧ a ≤ 100000) (hl : 0 ≤ l ∧ l ≤ w) (hw : w ≤ 1000) : 0 ≤ a * l ∧ a * l ≤ 100000000 := by
  refine ⟨Int.mul_nonneg ha.1 hl.1, ?_⟩
  have h1 : a * l ≤ 100000 * l := Int.mul_le_mul_of_nonneg_right ha.2 hl.1
  omega
theorem mul64_small (a l : Int) (ha : 0 ≤ a ∧ a ≤ 100000) (hl : 0 ≤ l ∧ l ≤ 1000) : bits_Mul64.f a l = some (0, a * l) := by
  obtain ⟨b0, b1⟩ := mul_small a l 1000 ha hl (by omega)
  have e1 : a / 4294967296 = 0 := by omega
  have e2 : l / 4294967296 = 0 := by omega
  unfold bits_Mul64.f
  rw [and_low32 a (by omega) (by omega), and_low32 l (by omega) (by omega), e1, e2, show a % 4294967296 = a from by omega, show l % 4294967296 = l from by omega, u64_id (a * l) b0 (by omega)]
  have e3 : a * l / 4294967296 = 0 := by omega
  simp only [Int.zero_mul, Int.mul_zero, u64_id 0 (by omega) (by omega), Int.add_zero, Int.zero_add, e3]
  rw [and_low32 0 (by omega) (by omega)]
  rfl
theorem part_small (k : Nat) (hk : 2 ≤ k) (a l w : Int) (ha : 0 ≤ a ∧ a ≤ 100000) (hl : 0 ≤ l ∧ l ≤ w) (hw : 1 ≤ w ∧ w ≤ 1000) : purse_Part.f k a l w = some (a * l / w, 0) := by
  obtain ⟨k, rfl⟩ : ∃ j, k = j + 2 := ⟨k - 2, by omega⟩
  obtain ⟨b0, b1⟩ := mul_small a l w ha hl hw.2
  have hd0 : 0 ≤ a * l / w := Int.ediv_nonneg b0 (by omega)
  have hd1 : a * l / w ≤ a * l := Int.ediv_le_self _ b0
  unfold purse_Part.f
  rw [if_neg (by omega), purse_eq, decide_eq_true (by omega)]
  simp only [Option.bind_some, purse_Part.j0]
  rw [if_neg (by simp), if_neg (by omega), if_neg (by omega), show decide (l > w) = false from by simp; omega]
  simp only [purse_Part.j1]
  rw [if_neg (by simp), u64_id a (by omega) (by omega), u64_id l (by omega) (by omega), mul64_small a l ha (by omega)]
  simp only [Option.bind_some]
  rw [u64_id w (by omega) (by omega)]
  unfold bits_Div64.f
  rw [if_pos rfl, if_pos ⟨b0, by omega, by omega, by omega⟩]
  simp only [Option.bind_some]
  rw [show wrap64 (a * l / w) = a * l / w from by unfold wrap64; omega]
/-- What the open cycles behind the first one come to. -/
def g1 (c : S37) : Int := if 0 < c.f0 then c.f3 else 0
def sumF : List S37 → Int
  | [] => 0
  | c :: r => g1 c + sumF r
theorem sumF_app (l : List S37) (c : S37) : sumF (l ++ [c]) = sumF l + g1 c := by
  induction l with
  | nil => simp [sumF]
  | cons x r ih => simp only [List.cons_append, sumF, ih]; omega
theorem sumF_take (l : List S37) (i : Int) (h0 : 0 ≤ i) (h1 : i < (l.length : Int)) : sumF (l.take (i + 1).toNat) = sumF (l.take i.toNat) + g1 (rd_T37 l i) := by
  obtain ⟨n, rfl⟩ := Int.eq_ofNat_of_zero_le h0
  have hn : n < l.length := by omega
  have e : ((n : Int) + 1).toNat = n + 1 := by omega
  have er : rd_T37 l (n : Int) = l[n] := by unfold rd_T37; rw [Int.toNat_natCast, List.getD_eq_getElem?_getD, List.getElem?_eq_getElem hn]; rfl
  rw [e, Int.toNat_natCast, er, List.take_add_one, List.getElem?_eq_getElem hn]
  exact sumF_app _ _
theorem sumF_bd (l : List S37) (h : ∀ c ∈ l, 0 ≤ c.f3 ∧ c.f3 ≤ 1000000) : 0 ≤ sumF l ∧ sumF l ≤ 1000000 * (l.length : Int) := by
  induction l with
  | nil => simp [sumF]
  | cons x r ih =>
    have h1 := ih (fun c hc => h c (List.mem_cons_of_mem _ hc))
    have h2 := h x List.mem_cons_self
    simp only [sumF, g1, List.length_cons]
    split <;> push_cast <;> omega
/-- So many periods have begun since the plans were changed; what was given back was taken from them. -/
structure CrI (a : Ac) (an c0 ot : Int) (i : Nat) : Prop where
  st : a.st = 1
  an : a.an = an
  sk : a.sk = false
  ix : a.ix = i
  ct : a.ct = i + 1
  dn : 0 ≤ a.dn ∧ a.dn ≤ i + 1
  up : a.up = 0
  rf : a.rf = 0
  sp : a.sp = 0
  pd : a.pd = 0
  len : a.op.length ≤ i + 1
  ph : ∀ c : S37, c ∈ a.op → c.f2 = 1 ∧ 0 ≤ c.f3 ∧ c.f3 ≤ 1000000
  cr : -100000 ≤ a.cr ∧ a.cr ≤ 100000
  sum : sumF a.op + c0 = i * ot + a.cr
  pos : 1 ≤ i → 0 ≤ a.cr
theorem CrI.ok {a : Ac} {an c0 ot : Int} {i : Nat} (h : CrI a an c0 ot i) (hi : i ≤ 100) : a.Ok := by
  obtain ⟨_, _, _, h5, h6, h7, h8, h9, h10, h11, h12, _, h4, _, _⟩ := h
  exact ⟨by omega, by omega, by omega, by omega, by omega, by omega, by omega, by omega, by omega⟩
theorem CrI.wake {a : Ac} {an c0 ot : Int} {i : Nat} (h : CrI a an c0 ot i) (t : Int) : a.op.map (wakeC t) = a.op := by
  rw [List.map_congr_left (g := id) (fun c hc => ?_), List.map_id]
  have := (h.ph c hc).1
  unfold wakeC
  rw [if_neg (by omega)]
  rfl
theorem CrI.step {a : Ac} {an c0 ot : Int} {i : Nat} (h : CrI a an c0 ot i) (q : Pl) (hq : q.pr = ot) (hg : q.go = false) (ho : 0 ≤ ot ∧ ot ≤ 65535) (v : Int) : CrI (beginA { a with ix := a.ix + 1 } q v false) an c0 ot (i + 1) := by
  obtain ⟨h1, h2, h3, h5, h6, h7, h8, h9, h10, h11, h12, h13, h4, hs, hp⟩ := h
  have hm : ((i + 1 : Nat) : Int) * ot = (i : Int) * ot + ot := by push_cast; rw [Int.add_mul, Int.one_mul]
  unfold beginA
  rw [if_neg (by simp [h1, h3]), hq, hg]
  by_cases c0' : ot - a.cr < 0
  · rw [if_pos c0']
    unfold mkc
    rw [if_pos rfl]
    unfold closeA
    rw [if_pos (by simp), if_pos (by simp)]
    exact ⟨h1, h2, h3, by show a.ix + 1 = _; omega, by show a.ct + 1 = _; omega, by show 0 ≤ a.dn + 1 ∧ a.dn + 1 ≤ _; omega, h8, h9, h10, by show a.pd + 0 = 0; omega, by show a.op.length ≤ _; omega, h13, by show -100000 ≤ -(ot - a.cr) ∧ -(ot - a.cr) ≤ 100000; omega,
      by show sumF a.op + c0 = _ * ot + -(ot - a.cr); rw [hm]; omega, fun _ => by show 0 ≤ -(ot - a.cr); omega⟩
  · rw [if_neg c0']
    unfold mkc
    by_cases c1 : ot - a.cr = 0
    · rw [if_pos c1]
      unfold closeA
      rw [if_pos (by simp), if_pos (by simp)]
      exact ⟨h1, h2, h3, by show a.ix + 1 = _; omega, by show a.ct + 1 = _; omega, by show 0 ≤ a.dn + 1 ∧ a.dn + 1 ≤ _; omega, h8, h9, h10, by show a.pd + 0 = 0; omega, by show a.op.length ≤ _; omega, h13, by show (-100000 : Int) ≤ 0 ∧ (0 : Int) ≤ 100000; omega,
        by show sumF a.op + c0 = _ * ot + 0; rw [hm]; omega, fun _ => by show (0 : Int) ≤ 0; omega⟩
    · rw [if_neg c1]
      unfold closeA
      rw [if_neg (show ¬ (7 : Int) ≤ 1 by omega)]
      refine ⟨h1, h2, h3, by show a.ix + 1 = _; omega, by show a.ct + 1 = _; omega, by show 0 ≤ a.dn ∧ a.dn ≤ _; omega, h8, h9, h10, h11, by simp; omega, ?_, by show (-100000 : Int) ≤ 0 ∧ (0 : Int) ≤ 100000; omega, ?_, fun _ => by show (0 : Int) ≤ 0; omega⟩
      · intro c hc
        rcases List.mem_append.1 hc with h | h
        · exact h13 c h
        · rw [List.mem_singleton.1 h]; exact ⟨rfl, by show 0 ≤ ot - a.cr; omega, by show ot - a.cr ≤ 1000000; omega⟩
      · show sumF (a.op ++ [_]) + c0 = _ * ot + 0
        rw [sumF_app, hm]
        have : g1 ⟨a.ct, v, 1, ot - a.cr, a.cr, 1, 0, false⟩ = ot - a.cr := by unfold g1; rw [if_pos (show 0 < a.ct by omega)]
        rw [this]; omega
theorem credit_day (q : Pl) (hqo : q.Ok) (hla : q.la = false) (hun : q.un = 0) (y m d an c0 ot : Int) (hv : Cal.valid y m d) (ha : Cal.num y m d = an) (han : an ≤ 800000) (hev : q.ev ≤ 100) (i : Nat) (hi : i ≤ 10) (a : Ac) (h : CrI a an c0 ot i) :
    dayF 30603 a q (an + i * q.ev) = some ((beginA { a with ix := a.ix + 1 } q (an + i * q.ev) false).t 0) := by
  have hb : (i : Int) * q.ev ≤ 1000 ∧ 0 ≤ (i : Int) * q.ev := by
    refine ⟨?_, Int.mul_nonneg (by omega) (by have := hqo.2.2.1; omega)⟩
    have : (i : Int) * q.ev ≤ (i : Int) * 100 := Int.mul_le_mul_of_nonneg_left hev (by omega)
    omega
  have hm : ((i + 1 : Nat) : Int) * q.ev = (i : Int) * q.ev + q.ev := by push_cast; rw [Int.add_mul, Int.one_mul]
  have n0 : Sea.nth an y m d q.un q.ev (i : Int) = some (an + i * q.ev) := by rw [hun]; exact Sea.days_some an y m d q.ev i (by omega)
  have n1 : Sea.nth an y m d q.un q.ev ((i + 1 : Nat) : Int) = some (an + ((i + 1 : Nat) : Int) * q.ev) := by rw [hun]; exact Sea.days_some an y m d q.ev _ (by rw [hm]; omega)
  have hl := h.len
  have hd := day_eq (30602 - a.op.length) a q (an + i * q.ev) (by omega)
  rw [h.wake, show 30602 - a.op.length + a.op.length + 1 = 30603 from by omega] at hd
  rw [hd]
  have hm0 : missedA a q y m d (an + i * q.ev) = false := by unfold missedA; rw [hla]; rfl
  have hst := day_step (30600 - a.op.length) (by omega) (an + i * q.ev) a q y m d (an + i * q.ev) hv (by rw [h.an]; exact ha) hqo (by rw [h.ix]; omega) (h.ok (by omega)) (by rw [h.st]; omega) (by unfold nthA; rw [h.an, h.ix]; exact n0) (Int.le_refl _)
  rw [hm0] at hst
  have e1 : ({ a with op := a.op } : Ac) = a := rfl
  rw [e1, show 30602 - a.op.length = 30600 - a.op.length + 2 from by omega, hst]
  obtain ⟨b, hbq⟩ : ∃ b, beginA { a with ix := a.ix + 1 } q (an + i * q.ev) false = b := ⟨_, rfl⟩
  rw [hbq]
  have hbi : b.an = an ∧ b.ix = i + 1 := by
    rw [← hbq]
    have hc : ∀ (x : Ac) (c : S37), (closeA x c).an = x.an ∧ (closeA x c).ix = x.ix := by
      intro x c
      unfold closeA
      split
      · split
        · exact ⟨rfl, rfl⟩
        · split
          · exact ⟨rfl, rfl⟩
          · split <;> exact ⟨rfl, rfl⟩
      · exact ⟨rfl, rfl⟩
    have h2 := h.an
    have h5 := h.ix
    unfold beginA
    split
    · exact ⟨(hc _ _).1.trans h2, (hc _ _).2.trans (by show a.ix + 1 = _; omega)⟩
    · split <;> exact ⟨(hc _ _).1.trans h2, (hc _ _).2.trans (by show a.ix + 1 = _; omega)⟩
  obtain ⟨k2, hk2⟩ : ∃ k2, 30600 - a.op.length = k2 + 2 ∧ 11000 ≤ k2 := ⟨30598 - a.op.length, by omega, by omega⟩
  rw [hk2.1]
  refine day_stop k2 hk2.2 _ b q y m d hv (by rw [hbi.1]; exact ha) hqo (by rw [hbi.2]; omega) ?_
  unfold nthA
  rw [hbi.1, hbi.2]
  intro v hx
  have n1' : Sea.nth an y m d q.un q.ev ((i : Int) + 1) = some (an + ((i + 1 : Nat) : Int) * q.ev) := n1
  rw [n1'] at hx
  obtain rfl := Option.some.inj hx
  have := hqo.2.2.1
  omega
/-- The subscription behind so many periods of the other plan. -/
def accC (q : Pl) (an : Int) (z : Ac) : Nat → Ac
  | 0 => z
  | i + 1 => beginA { accC q an z i with ix := (accC q an z i).ix + 1 } q (an + i * q.ev) false
theorem accC_inv (q : Pl) (hg : q.go = false) (an c0 : Int) (ho : 0 ≤ q.pr ∧ q.pr ≤ 65535) (z : Ac) (h : CrI z an c0 q.pr 0) : ∀ i, CrI (accC q an z i) an c0 q.pr i
  | 0 => h
  | i + 1 => (accC_inv q hg an c0 ho z h i).step q rfl hg ho _
theorem Rd.drewN {w : World} {s : Value} {l : List S37} (h : Aside0 (Rd w s l)) (n : Nat) : Aside0 (Rd (w.drewN n) s l) := by
  obtain ⟨base, h⟩ := h.out
  exact ⟨base, Kd.R_drewN h n⟩
set_option maxHeartbeats 4000000 in
set_option maxRecDepth 100000 in
theorem credits_walk (a0 a1 a2 a3 a4 kk nn : Int) (x0 x y z : Ac) (w : World) (h0 : 0 ≤ a0 ∧ a0 ≤ 65535) (h1 : 0 ≤ a1 ∧ a1 ≤ 65535) (h2 : 0 ≤ a2 ∧ a2 ≤ 255) (h3 : 0 ≤ a3 ∧ a3 ≤ 255) (h4 : 0 ≤ a4 ∧ a4 ≤ 65535)
    (hkk : 2 + a2 % 60 = kk) (hnn : 1 + a3 % (kk - 1) = nn) (HKB : Aside0 (2 ≤ kk ∧ kk ≤ 61)) (HNB : Aside0 (1 ≤ nn ∧ nn < kk))
    (HO : Aside0 (account_Open.f 0 a0 0 kk 0 false false (700000 + a4) = some (x0.st, x0.pl, x0.an, x0.ix, x0.ct, x0.cr, x0.sk, x0.op, x0.dn, x0.up, x0.rf, x0.sp, x0.pd))) (HX : Aside0 (dayF 30603 x0 ⟨a0, 0, kk, 0, false, false⟩ (700000 + a4) = some (x.t 0)))
    (HY : Aside0 (dayF 30603 x ⟨a0, 0, kk, 0, false, false⟩ (700000 + a4 + nn) = some (y.t 0))) (HP : Aside0 ((0 ≤ a0 * (kk - nn) ∧ a0 * (kk - nn) ≤ 100000000) ∧ (0 ≤ a1 * (kk - nn) ∧ a1 * (kk - nn) ≤ 100000000) ∧ (0 ≤ a0 * (kk - nn) / kk ∧ a0 * (kk - nn) / kk ≤ 100000) ∧ (0 ≤ a1 * (kk - nn) / kk ∧ a1 * (kk - nn) / kk ≤ 100000)))
    (HZF : Aside0 (a0 * (kk - nn) / kk - a1 * (kk - nn) / kk = z.cr ∧ z.an = 700000 + a4 + kk ∧ z.ix = 0 ∧ z.pl = 1)) (acc : Nat → Ac) (HA0 : Aside0 (acc 0 = z)) (HIK : Aside0 (∀ i : Nat, i < 5 → 0 ≤ (i : Int) * kk ∧ (i : Int) * kk ≤ 1000))
    (HStep : Aside0 (∀ i : Nat, i < 5 → dayF 30603 (acc i) ⟨a1, 0, kk, 0, false, false⟩ (700000 + a4 + kk + i * kk) = some ((acc (i + 1)).t 0))) (HFL : Aside0 ((acc 5).op.length ≤ 6))
    (HSB : Aside0 (∀ j : Int, 0 ≤ j → j < (acc 5).op.length → (0 ≤ sumF ((acc 5).op.take j.toNat) ∧ sumF ((acc 5).op.take j.toNat) ≤ 10000000) ∧ 0 ≤ (rd_T37 (acc 5).op j).f3 ∧ (rd_T37 (acc 5).op j).f3 ≤ 1000000))
    (HFin : Aside0 (sumF (acc 5).op + z.cr = 5 * a1 + (acc 5).cr ∧ (0 ≤ (acc 5).cr ∧ (acc 5).cr ≤ 100000) ∧ (-100000 ≤ z.cr ∧ z.cr ≤ 100000)))
    (HZC : Aside0 (∀ (s : Value) (w' : World), Aside0 (Rd w' s y.op) → Calls Try.prog 15 #[.agg (y.cs s), .agg (Pl.cs ⟨a0, 0, kk, 0, false, false⟩), .int .i64 1, .agg (Pl.cs ⟨a1, 0, kk, 0, false, false⟩), .int .i64 (700000 + a4 + nn)] w' (Out w' z 0))) :
    Calls Try.prog 7 #[.int .u16 a0, .int .u16 a1, .int .u8 a2, .int .u8 a3, .int .u16 a4] w fun e w' => e = .returned (.bool true) ∧ Below w.heap.size w w' := by
  go_enter Try.func7, Try.ntmps7
  go_wp2_with fail
  with_reducible refine (paybooklaw13_awake.calls 200 true _ (awake_some 200 (Nat.le_refl _))).mono ?_
  rintro e w1 ⟨rfl, hb⟩
  have HB := Aside0.mk hb
  clear hb
  go_upto_region 4 with fail
  have hkb := HKB.out
  go_upto_region 7 with (first | ((with_reducible refine gate_dst (N := 12) rfl ?_); refine box2 rfl (N := 12) rfl (cs := #[.int .i64 0, .int .u8 0, .int .i64 0, .int .i64 0, .bool false, .bool false]) ?hr rfl rfl (v := .tmp 39) rfl (Pl.cs ⟨a0, 0, kk, 0, false, false⟩) (fun _ => rfl) (fun _ => rfl) (by kernel_rfl) rfl (Pl.one _) ?_; (case hr => first | (go_simp; done) | (go_simp; rfl)); intro g12 hg w2 hB hb; have G12 := Aside0.mk (Nat.le_trans (below_size HB.out) hg); clear hg; replace HB := hst_ HB hb; have B12 := Aside0.mk hB; clear hB; clear hb) | ((with_reducible refine gate_dst (N := 13) rfl ?_); refine box2 rfl (N := 13) rfl (cs := #[.int .i64 0, .int .u8 0, .int .i64 0, .int .i64 0, .bool false, .bool false]) ?hr rfl rfl (v := .tmp 43) rfl (Pl.cs ⟨a1, 0, kk, 0, false, false⟩) (fun _ => rfl) (fun _ => rfl) (by kernel_rfl) rfl (Pl.one _) ?_; (case hr => first | (go_simp; done) | (go_simp; rfl)); intro g13 hg w3 hB hb; have G13 := Aside0.mk (Nat.le_trans (below_size HB.out) hg); clear hg; replace HB := hst_ HB hb; replace B12 := bst B12 hb; have B13 := Aside0.mk hB; clear hB; clear hb))
  replace HB := Aside0.mk (below_drew1 HB.out)
  replace B12 := Aside0.mk (blk_drew B12.out)
  replace B13 := Aside0.mk (blk_drew B13.out)
  refine start_ (n := 12) (S := fun w' => w'.cell? ⟨g12, 0, none⟩ = some (.int .i64 a0) ∧ w'.cell? ⟨g12, 1, none⟩ = some (.int .u8 0) ∧ w'.cell? ⟨g12, 2, none⟩ = some (.int .i64 kk) ∧ w'.cell? ⟨g12, 3, none⟩ = some (.int .i64 0) ∧ w'.cell? ⟨g12, 4, none⟩ = some (.bool false) ∧ w'.cell? ⟨g12, 5, none⟩ = some (.bool false)) (ds := []) #[false, false, false, false, false, false, false, false, false, false, false, false] (by kernel_rfl) rfl rfl ⟨(blk_cell B12.out 0).trans rfl, (blk_cell B12.out 1).trans rfl, (blk_cell B12.out 2).trans rfl, (blk_cell B12.out 3).trans rfl, (blk_cell B12.out 4).trans rfl, (blk_cell B12.out 5).trans rfl⟩ (fun hHeld => ?_)
  refine pure_ (i := 1) (N := some 49) (v := ?_) (a' := ?_) #[false, true, false, false, false, false, false, false, false, false, false, false] rfl rfl (by kernel_rfl) (fun _ _ _ h => h) (Or.inl ⟨by rfl, ?_⟩) ?_ ?_
  rotate_left
  · intro w'
    go_simp
    with_reducible rfl
  rotate_left
  · simp only [Act.put, List.setIfInBounds_toArray, List.set_cons_zero, List.set_cons_succ, i64_w, i32_w]
    rfl
  refine pure_ (i := 4) (N := some 52) (v := ?_) (a' := ?_) #[false, true, false, false, true, false, false, false, false, false, false, false] rfl rfl (by kernel_rfl) (fun _ _ _ h => h) (Or.inl ⟨by rfl, ?_⟩) ?_ ?_
  rotate_left
  · intro w'
    go_simp
    with_reducible rfl
  rotate_left
  · simp only [Act.put, List.setIfInBounds_toArray, List.set_cons_zero, List.set_cons_succ, i64_w, i32_w]
    rfl
  refine take_ (i := 0) (N := some 48) (v := ?_) (a' := ?_) #[true, true, false, false, true, false, false, false, false, false, false, false] rfl rfl (by kernel_rfl) (fun _ _ _ h => h) (Or.inl ⟨by rfl, ?_⟩) hHeld ?_ ?_
  rotate_left
  · rintro w' ⟨s0, s1, s2, s3, s4, s5⟩
    go_simp
    with_reducible rfl
  rotate_left
  · simp only [Act.put, List.setIfInBounds_toArray, List.set_cons_zero, List.set_cons_succ, i64_w, i32_w]
    rfl
  refine take_ (i := 3) (N := some 51) (v := ?_) (a' := ?_) #[true, true, false, true, true, false, false, false, false, false, false, false] rfl rfl (by kernel_rfl) (fun _ _ _ h => h) (Or.inl ⟨by rfl, ?_⟩) hHeld ?_ ?_
  rotate_left
  · rintro w' ⟨s0, s1, s2, s3, s4, s5⟩
    go_simp
    with_reducible rfl
  rotate_left
  · simp only [Act.put, List.setIfInBounds_toArray, List.set_cons_zero, List.set_cons_succ, i64_w, i32_w]
    rfl
  refine join_ (σ := Value × Value × Nat) 2 #[true, true, true, true, true, true, true, true, true, true, false, false] (fun s_ => [(50, .agg (x0.cs s_.2.1)), (53, .tuple #[.agg (x.cs s_.1), .int .i64 0]), (15, .pointer (some ⟨s_.2.2, 0, none⟩)), (47, .tuple #[.agg (x.cs s_.1), .int .i64 0]), (54, .agg (x.cs s_.1)), (55, .int .i64 0)]) (fun s_ w' => (w'.cell? ⟨g12, 0, none⟩ = some (.int .i64 a0) ∧ w'.cell? ⟨g12, 1, none⟩ = some (.int .u8 0) ∧ w'.cell? ⟨g12, 2, none⟩ = some (.int .i64 kk) ∧ w'.cell? ⟨g12, 3, none⟩ = some (.int .i64 0) ∧ w'.cell? ⟨g12, 4, none⟩ = some (.bool false) ∧ w'.cell? ⟨g12, 5, none⟩ = some (.bool false)) ∧ Below w.heap.size w w' ∧ w'.heap[g12]? = some (.cells (Pl.cs ⟨a0, 0, kk, 0, false, false⟩) 25 (0, 0)) ∧ w'.heap[g13]? = some (.cells (Pl.cs ⟨a1, 0, kk, 0, false, false⟩) 25 (0, 0)) ∧ w'.heap[s_.2.2]? = some (.cells #[.int .u8 0, .int .i64 0, .int .i64 0, .int .i64 0, .int .i64 0, .int .i64 0, .bool false, .slice none 0 0, .int .i64 0, .int .i64 0, .int .i64 0, .int .i64 0, .int .i64 0] 31 (0, 0)) ∧ Rd w' s_.1 x.op ∧ w.heap.size ≤ s_.2.2 ∧ (g12 ≠ s_.2.2 ∧ g13 ≠ s_.2.2)) ?_ ?_
  rotate_left
  · intro hCont
    refine two_ (i := 2) (j := 9) (Ni := some 50) (Nj := some 15) #[true, true, true, true, true, false, false, false, false, false, false, false] #[true, true, false, true, true, false, false, false, false, true, false, false] rfl rfl rfl rfl (by kernel_rfl) (by decide) (by decide) (fun K hK => ?_) (fun K hK => ?_)
    · skip
      refine goes_ Try.func11 (by kernel_rfl) rfl #[.int .i64 0, .agg (Pl.cs ⟨a0, 0, kk, 0, false, false⟩), .int .i64 (700000 + a4)] (by rfl) rfl rfl (by (try simp only [List.map_toArray, List.map_cons, List.map_nil]); first | done | rfl) ?_
      with_reducible refine (open_c 0 _ ⟨a0, 0, kk, 0, false, false⟩ x0 _ HO.out).mono ?_
      rintro e w5 ⟨s0, rfl, hr0, hb⟩
      refine ⟨_, rfl, ?_⟩
      replace HB := hst_ HB hb
      replace B12 := bst B12 hb
      replace B13 := bst B13 hb
      have R0 := Aside0.mk hr0
      clear hb hr0
      refine hK.out _ _ ⟨(blk_cell B12.out 0).trans rfl, (blk_cell B12.out 1).trans rfl, (blk_cell B12.out 2).trans rfl, (blk_cell B12.out 3).trans rfl, (blk_cell B12.out 4).trans rfl, (blk_cell B12.out 5).trans rfl⟩ (fun hHeld => ?_)
      clear hK K
      refine norm_ (a' := ?_) ?_ ?_
      rotate_left
      · show Act.put _ (some 50) _ = _
        simp only [Act.put, List.setIfInBounds_toArray, List.set_cons_zero, List.set_cons_succ, i64_w, i32_w]
        rfl
      refine two_ (i := 5) (j := 9) (Ni := some 53) (Nj := some 15) #[true, true, true, true, true, true, false, false, false, false, false, false] #[true, true, true, true, true, false, false, false, false, true, false, false] rfl rfl rfl rfl (by kernel_rfl) (by decide) (by decide) (fun K hK => ?_) (fun K hK => ?_)
      · skip
        refine goes_ Try.func12 (by kernel_rfl) rfl #[.agg (x0.cs s0), .agg (Pl.cs ⟨a0, 0, kk, 0, false, false⟩), .int .i64 (700000 + a4)] (by rfl) rfl rfl (by (try simp only [List.map_toArray, List.map_cons, List.map_nil]); first | done | rfl) ?_
        with_reducible refine (day_c 30603 x0 x ⟨a0, 0, kk, 0, false, false⟩ _ 0 s0 _ R0 HX.out).mono ?_
        rintro e w6 ⟨s1, rfl, hr1, hb⟩
        refine ⟨_, rfl, ?_⟩
        replace HB := hst_ HB hb
        replace B12 := bst B12 hb
        replace B13 := bst B13 hb
        replace R0 := Rd.st R0 hb
        have R1 := Aside0.mk hr1
        clear hb hr1
        refine hK.out _ _ ⟨(blk_cell B12.out 0).trans rfl, (blk_cell B12.out 1).trans rfl, (blk_cell B12.out 2).trans rfl, (blk_cell B12.out 3).trans rfl, (blk_cell B12.out 4).trans rfl, (blk_cell B12.out 5).trans rfl⟩ (fun hHeld => ?_)
        clear hK K
        refine norm_ (a' := ?_) ?_ ?_
        rotate_left
        · show Act.put _ (some 53) _ = _
          simp only [Act.put, List.setIfInBounds_toArray, List.set_cons_zero, List.set_cons_succ, i64_w, i32_w]
          rfl
        refine pure_ (i := 6) (N := some 47) (v := ?_) (a' := ?_) #[true, true, true, true, true, true, true, false, false, false, false, false] rfl rfl (by kernel_rfl) (fun _ _ _ h => h) (Or.inl ⟨by rfl, ?_⟩) ?_ ?_
        rotate_left
        · intro w'
          go_simp
          with_reducible rfl
        rotate_left
        · simp only [Act.put, List.setIfInBounds_toArray, List.set_cons_zero, List.set_cons_succ, i64_w, i32_w]
          rfl
        refine pure_ (i := 7) (N := some 54) (v := ?_) (a' := ?_) #[true, true, true, true, true, true, true, true, false, false, false, false] rfl rfl (by kernel_rfl) (fun _ _ _ h => h) (Or.inl ⟨by rfl, ?_⟩) ?_ ?_
        rotate_left
        · intro w'
          go_simp
          with_reducible rfl
        rotate_left
        · simp only [Act.put, List.setIfInBounds_toArray, List.set_cons_zero, List.set_cons_succ, i64_w, i32_w]
          rfl
        refine pure_ (i := 8) (N := some 55) (v := ?_) (a' := ?_) #[true, true, true, true, true, true, true, true, true, false, false, false] rfl rfl (by kernel_rfl) (fun _ _ _ h => h) (Or.inl ⟨by rfl, ?_⟩) ?_ ?_
        rotate_left
        · intro w'
          go_simp
          with_reducible rfl
        rotate_left
        · simp only [Act.put, List.setIfInBounds_toArray, List.set_cons_zero, List.set_cons_succ, i64_w, i32_w]
          rfl
        refine one_ (i := 9) (N := some 15) #[true, true, true, true, true, true, true, true, true, true, false, false] rfl rfl (by kernel_rfl) (by decide) (fun K hK => ?_)
        refine box_step ?hg (N := 15) ?hd (cs := #[.int .u8 0, .int .i64 0, .int .i64 0, .int .i64 0, .int .i64 0, .int .i64 0, .bool false, .slice none 0 0, .int .i64 0, .int .i64 0, .int .i64 0, .int .i64 0, .int .i64 0]) (t := 31) ?hr ?_; (case hd => rfl); (case hg => rfl); (case hr => first | (go_simp; done) | (go_simp; rfl))
        intro g15 hg w7 hB hb
        have G15 := Aside0.mk (show w.heap.size ≤ g15 by rw [hg]; exact below_size HB.out)
        have N15 := Aside0.mk (show g12 ≠ g15 ∧ g13 ≠ g15 by have := blk_lt B12.out; have := blk_lt B13.out; omega)
        replace HB := hst_ HB hb
        replace B12 := bst B12 hb
        replace B13 := bst B13 hb
        replace R0 := Rd.st R0 hb
        replace R1 := Rd.st R1 hb
        have B15 := Aside0.mk hB
        clear hB hb hg
        refine hK.out _ _ ⟨(blk_cell B12.out 0).trans rfl, (blk_cell B12.out 1).trans rfl, (blk_cell B12.out 2).trans rfl, (blk_cell B12.out 3).trans rfl, (blk_cell B12.out 4).trans rfl, (blk_cell B12.out 5).trans rfl⟩ (fun hHeld => ?_)
        clear hK K
        refine norm_ (a' := ?_) ?_ ?_
        rotate_left
        · show Act.put _ (some 15) _ = _
          simp only [Act.put, List.setIfInBounds_toArray, List.set_cons_zero, List.set_cons_succ, i64_w, i32_w]
          rfl
        exact norm_ (by simp only [putAll, Act.put, List.setIfInBounds_toArray, List.set_cons_zero, List.set_cons_succ]) (hCont (s1, s0, g15) _ ⟨hHeld, HB.out, B12.out, B13.out, B15.out, R1.out, G15.out, N15.out⟩)
      · skip
        refine box_step ?hg (N := 15) ?hd (cs := #[.int .u8 0, .int .i64 0, .int .i64 0, .int .i64 0, .int .i64 0, .int .i64 0, .bool false, .slice none 0 0, .int .i64 0, .int .i64 0, .int .i64 0, .int .i64 0, .int .i64 0]) (t := 31) ?hr ?_; (case hd => rfl); (case hg => rfl); (case hr => first | (go_simp; done) | (go_simp; rfl))
        intro g15 hg w7 hB hb
        have G15 := Aside0.mk (show w.heap.size ≤ g15 by rw [hg]; exact below_size HB.out)
        have N15 := Aside0.mk (show g12 ≠ g15 ∧ g13 ≠ g15 by have := blk_lt B12.out; have := blk_lt B13.out; omega)
        replace HB := hst_ HB hb
        replace B12 := bst B12 hb
        replace B13 := bst B13 hb
        replace R0 := Rd.st R0 hb
        have B15 := Aside0.mk hB
        clear hB hb hg
        refine hK.out _ _ ⟨(blk_cell B12.out 0).trans rfl, (blk_cell B12.out 1).trans rfl, (blk_cell B12.out 2).trans rfl, (blk_cell B12.out 3).trans rfl, (blk_cell B12.out 4).trans rfl, (blk_cell B12.out 5).trans rfl⟩ (fun hHeld => ?_)
        clear hK K
        refine norm_ (a' := ?_) ?_ ?_
        rotate_left
        · show Act.put _ (some 15) _ = _
          simp only [Act.put, List.setIfInBounds_toArray, List.set_cons_zero, List.set_cons_succ, i64_w, i32_w]
          rfl
        refine one_ (i := 5) (N := some 53) #[true, true, true, true, true, true, false, false, false, true, false, false] rfl rfl (by kernel_rfl) (by decide) (fun K hK => ?_)
        refine goes_ Try.func12 (by kernel_rfl) rfl #[.agg (x0.cs s0), .agg (Pl.cs ⟨a0, 0, kk, 0, false, false⟩), .int .i64 (700000 + a4)] (by rfl) rfl rfl (by (try simp only [List.map_toArray, List.map_cons, List.map_nil]); first | done | rfl) ?_
        with_reducible refine (day_c 30603 x0 x ⟨a0, 0, kk, 0, false, false⟩ _ 0 s0 _ R0 HX.out).mono ?_
        rintro e w6 ⟨s1, rfl, hr1, hb⟩
        refine ⟨_, rfl, ?_⟩
        replace HB := hst_ HB hb
        replace B12 := bst B12 hb
        replace B13 := bst B13 hb
        replace B15 := bst B15 hb
        replace R0 := Rd.st R0 hb
        have R1 := Aside0.mk hr1
        clear hb hr1
        refine hK.out _ _ ⟨(blk_cell B12.out 0).trans rfl, (blk_cell B12.out 1).trans rfl, (blk_cell B12.out 2).trans rfl, (blk_cell B12.out 3).trans rfl, (blk_cell B12.out 4).trans rfl, (blk_cell B12.out 5).trans rfl⟩ (fun hHeld => ?_)
        clear hK K
        refine norm_ (a' := ?_) ?_ ?_
        rotate_left
        · show Act.put _ (some 53) _ = _
          simp only [Act.put, List.setIfInBounds_toArray, List.set_cons_zero, List.set_cons_succ, i64_w, i32_w]
          rfl
        refine pure_ (i := 6) (N := some 47) (v := ?_) (a' := ?_) #[true, true, true, true, true, true, true, false, false, true, false, false] rfl rfl (by kernel_rfl) (fun _ _ _ h => h) (Or.inl ⟨by rfl, ?_⟩) ?_ ?_
        rotate_left
        · intro w'
          go_simp
          with_reducible rfl
        rotate_left
        · simp only [Act.put, List.setIfInBounds_toArray, List.set_cons_zero, List.set_cons_succ, i64_w, i32_w]
          rfl
        refine pure_ (i := 7) (N := some 54) (v := ?_) (a' := ?_) #[true, true, true, true, true, true, true, true, false, true, false, false] rfl rfl (by kernel_rfl) (fun _ _ _ h => h) (Or.inl ⟨by rfl, ?_⟩) ?_ ?_
        rotate_left
        · intro w'
          go_simp
          with_reducible rfl
        rotate_left
        · simp only [Act.put, List.setIfInBounds_toArray, List.set_cons_zero, List.set_cons_succ, i64_w, i32_w]
          rfl
        refine pure_ (i := 8) (N := some 55) (v := ?_) (a' := ?_) #[true, true, true, true, true, true, true, true, true, true, false, false] rfl rfl (by kernel_rfl) (fun _ _ _ h => h) (Or.inl ⟨by rfl, ?_⟩) ?_ ?_
        rotate_left
        · intro w'
          go_simp
          with_reducible rfl
        rotate_left
        · simp only [Act.put, List.setIfInBounds_toArray, List.set_cons_zero, List.set_cons_succ, i64_w, i32_w]
          rfl
        exact norm_ (by simp only [putAll, Act.put, List.setIfInBounds_toArray, List.set_cons_zero, List.set_cons_succ]) (hCont (s1, s0, g15) _ ⟨hHeld, HB.out, B12.out, B13.out, B15.out, R1.out, G15.out, N15.out⟩)
    · skip
      refine box_step ?hg (N := 15) ?hd (cs := #[.int .u8 0, .int .i64 0, .int .i64 0, .int .i64 0, .int .i64 0, .int .i64 0, .bool false, .slice none 0 0, .int .i64 0, .int .i64 0, .int .i64 0, .int .i64 0, .int .i64 0]) (t := 31) ?hr ?_; (case hd => rfl); (case hg => rfl); (case hr => first | (go_simp; done) | (go_simp; rfl))
      intro g15 hg w7 hB hb
      have G15 := Aside0.mk (show w.heap.size ≤ g15 by rw [hg]; exact below_size HB.out)
      have N15 := Aside0.mk (show g12 ≠ g15 ∧ g13 ≠ g15 by have := blk_lt B12.out; have := blk_lt B13.out; omega)
      replace HB := hst_ HB hb
      replace B12 := bst B12 hb
      replace B13 := bst B13 hb
      have B15 := Aside0.mk hB
      clear hB hb hg
      refine hK.out _ _ ⟨(blk_cell B12.out 0).trans rfl, (blk_cell B12.out 1).trans rfl, (blk_cell B12.out 2).trans rfl, (blk_cell B12.out 3).trans rfl, (blk_cell B12.out 4).trans rfl, (blk_cell B12.out 5).trans rfl⟩ (fun hHeld => ?_)
      clear hK K
      refine norm_ (a' := ?_) ?_ ?_
      rotate_left
      · show Act.put _ (some 15) _ = _
        simp only [Act.put, List.setIfInBounds_toArray, List.set_cons_zero, List.set_cons_succ, i64_w, i32_w]
        rfl
      refine one_ (i := 2) (N := some 50) #[true, true, true, true, true, false, false, false, false, true, false, false] rfl rfl (by kernel_rfl) (by decide) (fun K hK => ?_)
      refine goes_ Try.func11 (by kernel_rfl) rfl #[.int .i64 0, .agg (Pl.cs ⟨a0, 0, kk, 0, false, false⟩), .int .i64 (700000 + a4)] (by rfl) rfl rfl (by (try simp only [List.map_toArray, List.map_cons, List.map_nil]); first | done | rfl) ?_
      with_reducible refine (open_c 0 _ ⟨a0, 0, kk, 0, false, false⟩ x0 _ HO.out).mono ?_
      rintro e w5 ⟨s0, rfl, hr0, hb⟩
      refine ⟨_, rfl, ?_⟩
      replace HB := hst_ HB hb
      replace B12 := bst B12 hb
      replace B13 := bst B13 hb
      replace B15 := bst B15 hb
      have R0 := Aside0.mk hr0
      clear hb hr0
      refine hK.out _ _ ⟨(blk_cell B12.out 0).trans rfl, (blk_cell B12.out 1).trans rfl, (blk_cell B12.out 2).trans rfl, (blk_cell B12.out 3).trans rfl, (blk_cell B12.out 4).trans rfl, (blk_cell B12.out 5).trans rfl⟩ (fun hHeld => ?_)
      clear hK K
      refine norm_ (a' := ?_) ?_ ?_
      rotate_left
      · show Act.put _ (some 50) _ = _
        simp only [Act.put, List.setIfInBounds_toArray, List.set_cons_zero, List.set_cons_succ, i64_w, i32_w]
        rfl
      refine one_ (i := 5) (N := some 53) #[true, true, true, true, true, true, false, false, false, true, false, false] rfl rfl (by kernel_rfl) (by decide) (fun K hK => ?_)
      refine goes_ Try.func12 (by kernel_rfl) rfl #[.agg (x0.cs s0), .agg (Pl.cs ⟨a0, 0, kk, 0, false, false⟩), .int .i64 (700000 + a4)] (by rfl) rfl rfl (by (try simp only [List.map_toArray, List.map_cons, List.map_nil]); first | done | rfl) ?_
      with_reducible refine (day_c 30603 x0 x ⟨a0, 0, kk, 0, false, false⟩ _ 0 s0 _ R0 HX.out).mono ?_
      rintro e w6 ⟨s1, rfl, hr1, hb⟩
      refine ⟨_, rfl, ?_⟩
      replace HB := hst_ HB hb
      replace B12 := bst B12 hb
      replace B13 := bst B13 hb
      replace B15 := bst B15 hb
      replace R0 := Rd.st R0 hb
      have R1 := Aside0.mk hr1
      clear hb hr1
      refine hK.out _ _ ⟨(blk_cell B12.out 0).trans rfl, (blk_cell B12.out 1).trans rfl, (blk_cell B12.out 2).trans rfl, (blk_cell B12.out 3).trans rfl, (blk_cell B12.out 4).trans rfl, (blk_cell B12.out 5).trans rfl⟩ (fun hHeld => ?_)
      clear hK K
      refine norm_ (a' := ?_) ?_ ?_
      rotate_left
      · show Act.put _ (some 53) _ = _
        simp only [Act.put, List.setIfInBounds_toArray, List.set_cons_zero, List.set_cons_succ, i64_w, i32_w]
        rfl
      refine pure_ (i := 6) (N := some 47) (v := ?_) (a' := ?_) #[true, true, true, true, true, true, true, false, false, true, false, false] rfl rfl (by kernel_rfl) (fun _ _ _ h => h) (Or.inl ⟨by rfl, ?_⟩) ?_ ?_
      rotate_left
      · intro w'
        go_simp
        with_reducible rfl
      rotate_left
      · simp only [Act.put, List.setIfInBounds_toArray, List.set_cons_zero, List.set_cons_succ, i64_w, i32_w]
        rfl
      refine pure_ (i := 7) (N := some 54) (v := ?_) (a' := ?_) #[true, true, true, true, true, true, true, true, false, true, false, false] rfl rfl (by kernel_rfl) (fun _ _ _ h => h) (Or.inl ⟨by rfl, ?_⟩) ?_ ?_
      rotate_left
      · intro w'
        go_simp
        with_reducible rfl
      rotate_left
      · simp only [Act.put, List.setIfInBounds_toArray, List.set_cons_zero, List.set_cons_succ, i64_w, i32_w]
        rfl
      refine pure_ (i := 8) (N := some 55) (v := ?_) (a' := ?_) #[true, true, true, true, true, true, true, true, true, true, false, false] rfl rfl (by kernel_rfl) (fun _ _ _ h => h) (Or.inl ⟨by rfl, ?_⟩) ?_ ?_
      rotate_left
      · intro w'
        go_simp
        with_reducible rfl
      rotate_left
      · simp only [Act.put, List.setIfInBounds_toArray, List.set_cons_zero, List.set_cons_succ, i64_w, i32_w]
        rfl
      exact norm_ (by simp only [putAll, Act.put, List.setIfInBounds_toArray, List.set_cons_zero, List.set_cons_succ]) (hCont (s1, s0, g15) _ ⟨hHeld, HB.out, B12.out, B13.out, B15.out, R1.out, G15.out, N15.out⟩)
  rintro ⟨s1, s0, g15⟩ w8 ⟨hHeld, h1, h2, h3, h4, h5, h6, h7⟩
  clear HB B12 B13
  have HB := Aside0.mk h1
  have B12 := Aside0.mk h2
  have B13 := Aside0.mk h3
  have B15 := Aside0.mk h4
  have R1 := Aside0.mk h5
  have G15 := Aside0.mk h6
  have N15 := Aside0.mk h7
  clear h1 h2 h3 h4 h5 h6 h7
  refine norm_ (a' := ?_) ?_ ?_
  rotate_left
  · simp only [putAll, Act.put, List.setIfInBounds_toArray, List.set_cons_zero, List.set_cons_succ]
    rfl
  refine one_ (i := 10) (N := none) #[true, true, true, true, true, true, true, true, true, true, true, false] rfl rfl (by kernel_rfl) (by decide) (fun K hK => ?_)
  have B15a := B15
  refine putK (by rfl) rfl 31 (.tmp 15) (.tmp 54) rfl rfl B15.out (x.cs s1) rfl (by kernel_rfl) rfl (x.one R1.out.one) ?_
  intro w9 hB hL hk hz
  replace HB := Aside0.mk (hL _ _ G15.out HB.out)
  replace B12 := bfar B12 N15.out.1 hk
  replace B13 := bfar B13 N15.out.2 hk
  replace B15 := Aside0.mk hB
  replace R1 := Rd.keep R1 B15a.out hk (by decide)
  clear hB hL hk hz
  refine hK.out _ _ ⟨(blk_cell B12.out 0).trans rfl, (blk_cell B12.out 1).trans rfl, (blk_cell B12.out 2).trans rfl, (blk_cell B12.out 3).trans rfl, (blk_cell B12.out 4).trans rfl, (blk_cell B12.out 5).trans rfl⟩ (fun hHeld => ?_)
  clear hK K
  refine pure_ (i := 11) (N := some 16) (v := ?_) (a' := ?_) #[true, true, true, true, true, true, true, true, true, true, true, true] rfl rfl (by kernel_rfl) (fun _ _ _ h => h) (Or.inl ⟨by rfl, ?_⟩) ?_ ?_
  rotate_left
  · intro w'
    go_simp
    with_reducible rfl
  rotate_left
  · simp only [Act.put, List.setIfInBounds_toArray, List.set_cons_zero, List.set_cons_succ, i64_w, i32_w]
    rfl
  refine done_ (by kernel_rfl) ?_
  clear hHeld G15 N15
  have hnb := HNB.out
  go_upto_region 9 with fail
  go_wp2_with (first | ((with_reducible refine gate_ (.load 25 (.tmp 12)) rfl ?_); refine loadB rfl 25 (.tmp 12) rfl rfl B12.out Try.underlying25 rfl (by kernel_rfl) ?_) | ((with_reducible refine gate_ (.load 31 (.tmp 15)) rfl ?_); refine loadB rfl 31 (.tmp 15) rfl rfl B15.out Try.underlying31 rfl (by kernel_rfl) ?_))
  with_reducible refine (day_c 30603 x y ⟨a0, 0, kk, 0, false, false⟩ _ 0 s1 _ R1 HY.out).mono ?_
  rintro e w10 ⟨s18, rfl, hr, hb⟩
  replace HB := hst_ HB hb
  replace B12 := bst B12 hb
  replace B13 := bst B13 hb
  replace B15 := bst B15 hb
  replace R1 := Rd.st R1 hb
  clear hb
  have R18 := Aside0.mk hr
  clear hr
  clear R1
  go_wp2_with (first | ((with_reducible refine gate_dst (N := 18) rfl ?_); refine box2 rfl (N := 18) rfl (cs := #[.int .u8 0, .int .i64 0, .int .i64 0, .int .i64 0, .int .i64 0, .int .i64 0, .bool false, .slice none 0 0, .int .i64 0, .int .i64 0, .int .i64 0, .int .i64 0, .int .i64 0]) ?hr rfl rfl (v := .tmp 69) rfl (y.cs s18) (fun _ => rfl) (fun _ => rfl) (by kernel_rfl) rfl (y.one R18.out.one) ?_; (case hr => first | (go_simp; done) | (go_simp; rfl)); intro g18 hg w11 hB hb; have G18 := Aside0.mk (Nat.le_trans (below_size HB.out) hg); clear hg; replace HB := hst_ HB hb; replace B12 := bst B12 hb; replace B13 := bst B13 hb; clear B15; replace R18 := Rd.st R18 hb; have B18 := Aside0.mk hB; clear hB; clear hb) | ((with_reducible refine gate_ (.load 25 (.tmp 12)) rfl ?_); refine loadB rfl 25 (.tmp 12) rfl rfl B12.out Try.underlying25 rfl (by kernel_rfl) ?_) | ((with_reducible refine gate_ (.load 25 (.tmp 13)) rfl ?_); refine loadB rfl 25 (.tmp 13) rfl rfl B13.out Try.underlying25 rfl (by kernel_rfl) ?_) | ((with_reducible refine gate_ (.load 31 (.tmp 18)) rfl ?_); refine loadB rfl 31 (.tmp 18) rfl rfl B18.out Try.underlying31 rfl (by kernel_rfl) ?_))
  with_reducible refine (HZC.out s18 _ R18).mono ?_
  rintro e w12 ⟨s20, rfl, hr, hb⟩
  replace HB := hst_ HB hb
  replace B12 := bst B12 hb
  replace B13 := bst B13 hb
  replace B18 := bst B18 hb
  replace R18 := Rd.st R18 hb
  clear hb
  have R20 := Aside0.mk hr
  clear hr
  clear R18 B18 B12
  replace R20 := R20
  go_upto_region 14 with (first | ((with_reducible refine gate_dst (N := 20) rfl ?_); refine box2 rfl (N := 20) rfl (cs := #[.int .u8 0, .int .i64 0, .int .i64 0, .int .i64 0, .int .i64 0, .int .i64 0, .bool false, .slice none 0 0, .int .i64 0, .int .i64 0, .int .i64 0, .int .i64 0, .int .i64 0]) ?hr rfl rfl (v := .tmp 79) rfl (z.cs s20) (fun _ => rfl) (fun _ => rfl) (by kernel_rfl) rfl (z.one R20.out.one) ?_; (case hr => first | (go_simp; done) | (go_simp; rfl)); intro g20 hg w13 hB hb; have G20 := Aside0.mk (Nat.le_trans (below_size HB.out) hg); clear hg; replace HB := hst_ HB hb; replace B13 := bst B13 hb; replace R20 := Rd.st R20 hb; have B20 := Aside0.mk hB; clear hB; clear hb))
  have hp1 := HP.out.1
  have hp2 := HP.out.2.1
  have hp3 := HP.out.2.2.1
  have hp4 := HP.out.2.2.2
  go_quiet (fail)
  go_upto_region 15 with fail
  clear hp1 hp2 hp3 hp4
  rw [HZF.out.1]
  replace HB := Aside0.mk (pw_below_drewN HB.out nq)
  replace B13 := Aside0.mk (blk_drewN B13.out nq)
  replace B20 := Aside0.mk (blk_drewN B20.out nq)
  replace R20 := Rd.drewN R20 nq
  generalize w13.drewN nq = w14 at HB B13 B20 R20 ⊢
  have b5 : w14.cell? ⟨g20, 5, none⟩ = some (.int .i64 z.cr) := (blk_cell B20.out 5).trans rfl
  have b2 : w14.cell? ⟨g20, 2, none⟩ = some (.int .i64 (700000 + a4 + kk)) := (blk_cell B20.out 2).trans (by show some (Value.int .i64 z.an) = _; rw [HZF.out.2.1])
  have b3 : w14.cell? ⟨g20, 3, none⟩ = some (.int .i64 0) := (blk_cell B20.out 3).trans (by show some (Value.int .i64 z.ix) = _; rw [HZF.out.2.2.1])
  have b1 : w14.cell? ⟨g20, 1, none⟩ = some (.int .i64 1) := (blk_cell B20.out 1).trans (by show some (Value.int .i64 z.pl) = _; rw [HZF.out.2.2.2])
  go_upto_region 19 with (first | ((with_reducible refine gate_dst (N := 25) rfl ?_); refine box2 rfl (N := 25) rfl (cs := #[.int .u8 0, .int .i64 0, .int .i64 0, .int .i64 0, .int .i64 0, .int .i64 0, .bool false, .slice none 0 0, .int .i64 0, .int .i64 0, .int .i64 0, .int .i64 0, .int .i64 0]) ?hr rfl rfl (v := .tmp 129) rfl (z.cs s20) (fun _ => rfl) (fun _ => rfl) (by kernel_rfl) rfl (z.one R20.out.one) ?_; (case hr => first | (go_simp; done) | (go_simp; rfl)); intro g25 hg w15 hB hb; clear b5 b2 b3 b1; have N13_25 := Aside0.mk (Nat.ne_of_lt (Nat.lt_of_lt_of_le (blk_lt B13.out) hg)); have G25 := Aside0.mk (Nat.le_trans (below_size HB.out) hg); clear hg; replace HB := hst_ HB hb; replace B13 := bst B13 hb; replace B20 := bst B20 hb; replace R20 := Rd.st R20 hb; have B25 := Aside0.mk hB; clear hB; clear hb) | ((with_reducible refine gate_ (.load 31 (.tmp 20)) rfl ?_); refine loadB rfl 31 (.tmp 20) rfl rfl B20.out Try.underlying31 rfl (by kernel_rfl) ?_))
  clear B20 G20
  rw [← HA0.out] at B25 R20
  go_wp2_with fail
  go_loopg [26] 5 (fun kq t26 wr => ∃ (i : Nat) (s : Value), t26 = .int .i64 i ∧ i ≤ 5 ∧ Aside0 (5 - i ≤ kq) ∧ Aside0 (Below w.heap.size w wr) ∧ Aside0 (wr.heap[g13]? = some (.cells (Pl.cs ⟨a1, 0, kk, 0, false, false⟩) 25 (0, 0))) ∧ Aside0 (wr.heap[g25]? = some (.cells ((acc i).cs s) 31 (0, 0))) ∧ Aside0 (Rd wr s (acc i).op))
  case atStart => exact ⟨0, s20, rfl, by omega, ⟨by omega⟩, HB, B13, B25, R20⟩
  case round =>
    obtain ⟨i, s, rfl, hi, HM, HB, B13, B25, R25⟩ := hrel
    by_cases hlt : i < 5
    · have hik := HIK.out i hlt
      go_wp2_with (first | ((with_reducible refine gate_ (.load 25 (.tmp 13)) rfl ?_); refine loadB rfl 25 (.tmp 13) rfl rfl B13.out Try.underlying25 rfl (by kernel_rfl) ?_) | ((with_reducible refine gate_ (.load 31 (.tmp 25)) rfl ?_); refine loadB rfl 31 (.tmp 25) rfl rfl B25.out Try.underlying31 rfl (by kernel_rfl) ?_))
      with_reducible refine (day_c 30603 (acc i) (acc (i + 1)) ⟨a1, 0, kk, 0, false, false⟩ _ 0 s _ R25 (Aside0.mk (HStep.out i hlt)).out).mono ?_
      rintro e w30 ⟨s27, rfl, hr, hb⟩
      replace HB := hst_ HB hb
      replace B13 := bst B13 hb
      replace B25 := bst B25 hb
      replace R25 := Rd.st R25 hb
      clear hb
      have R27 := Aside0.mk hr
      clear hr
      go_wp2_with (first | ((with_reducible refine gate_dst (N := 27) rfl ?_); refine box2 rfl (N := 27) rfl (cs := #[.int .u8 0, .int .i64 0, .int .i64 0, .int .i64 0, .int .i64 0, .int .i64 0, .bool false, .slice none 0 0, .int .i64 0, .int .i64 0, .int .i64 0, .int .i64 0, .int .i64 0]) ?hr rfl rfl (v := .tmp 145) rfl ((acc (i + 1)).cs s27) (fun _ => rfl) (fun _ => rfl) (by kernel_rfl) rfl ((acc (i + 1)).one R27.out.one) ?_; (case hr => first | (go_simp; done) | (go_simp; rfl)); intro g27 hg w31 hB hb; have N13_27 := Aside0.mk (Nat.ne_of_lt (Nat.lt_of_lt_of_le (blk_lt B13.out) hg)); have N25_27 := Aside0.mk (Nat.ne_of_lt (Nat.lt_of_lt_of_le (blk_lt B25.out) hg)); have G27 := Aside0.mk (Nat.le_trans (below_size HB.out) hg); clear hg; replace HB := hst_ HB hb; replace B13 := bst B13 hb; replace B25 := bst B25 hb; replace R25 := Rd.st R25 hb; replace R27 := Rd.st R27 hb; have B27 := Aside0.mk hB; clear hB; clear hb) | ((with_reducible refine gate_ (.load 31 (.tmp 27)) rfl ?_); refine loadB rfl 31 (.tmp 27) rfl rfl B27.out Try.underlying31 rfl (by kernel_rfl) ?_) | ((with_reducible refine gate_ (.store 31 (.tmp 25) (.tmp 149)) rfl ?_); refine putB rfl rfl 31 (.tmp 25) (.tmp 149) rfl rfl B25.out ((acc (i + 1)).cs s27) rfl (by kernel_rfl) rfl ((acc (i + 1)).one R27.out.one) ?_; intro w40 hB hL hk hz; replace HB := Aside0.mk (hL _ _ G25.out HB.out); replace B13 := bfar B13 N13_25.out hk; replace R27 := Rd.keep R27 B25.out hk (by decide); replace B25 := Aside0.mk hB; clear hB hL hk hz))
      go_roundg (5 - (i + 1))
      case measure => have := HM.out; omega
      case rel => exact ⟨i + 1, s27, by first | rfl | (simp; done), by omega, ⟨Nat.le_refl _⟩, HB, B13, B25, R27⟩
    · have hi5 : i = 5 := by omega
      rw [hi5] at B25 R25
      obtain ⟨A25, c25, rfl, hl25, hC25⟩ := R25.out.get
      have C25 := Aside0.mk hC25
      clear hC25 R25 HM B13
      have hfl := HFL.out
      clear hi5
      go_upto_region 26 with fail
      clear hlt hi
      go_wp2_with fail
      go_loopg [24, 29] (acc 5).op.length (fun kq t24 t29 wr => ∃ j : Int, t24 = .int .i64 (sumF ((acc 5).op.take j.toNat)) ∧ t29 = .int .i64 j ∧ 0 ≤ j ∧ j ≤ (acc 5).op.length ∧ Aside0 (((acc 5).op.length - j).toNat ≤ kq) ∧ Aside0 (Below w.heap.size w wr) ∧ Aside0 (wr.heap[g25]? = some (.cells ((acc 5).cs (.slice A25 (acc 5).op.length c25)) 31 (0, 0))) ∧ Aside0 (Kd.C k37 wr A25 (acc 5).op.length (acc 5).op))
      case atStart => exact ⟨0, by first | rfl | simp [sumF], rfl, by omega, by omega, ⟨by omega⟩, HB, B25, C25⟩
      case round =>
        clear HB B25 C25
        obtain ⟨j, rfl, rfl, hj0, hj1, HM, HB, B25, C25⟩ := hrel
        have b7 : wr.cell? ⟨g25, 7, none⟩ = some (.slice A25 (acc 5).op.length c25) := (blk_cell B25.out 7).trans rfl
        have b5 : wr.cell? ⟨g25, 5, none⟩ = some (.int .i64 (acc 5).cr) := (blk_cell B25.out 5).trans rfl
        by_cases hjl : j < ((acc 5).op.length : Int)
        · obtain ⟨d25, hd25, p0, p1, p2, p3, p4, p5, p6, p7⟩ := at_T37 C25.out j hj0 hjl
          subst hd25
          have hst := sumF_take (acc 5).op j hj0 hjl
          have hbd := HSB.out j hj0 hjl
          have HST := Aside0.mk hst
          clear hst
          by_cases hpos : 0 < (rd_T37 (acc 5).op j).f0
          · have hpb : decide ((rd_T37 (acc 5).op j).f0 > 0) = true := by simp; omega
            go_wp2_with fail
            go_roundg ((acc 5).op.length - (j + 1)).toNat
            case measure => have := HM.out; omega
            case rel => exact ⟨j + 1, by rw [HST.out]; unfold g1; rw [if_pos (by omega)], by first | rfl | (simp; done) | (simp; unfold wrap64; omega), by omega, by omega, ⟨Nat.le_refl _⟩, HB, B25, C25⟩
          · have hpb : decide ((rd_T37 (acc 5).op j).f0 > 0) = false := by simp; omega
            go_wp2_with fail
            go_roundg ((acc 5).op.length - (j + 1)).toNat
            case measure => have := HM.out; omega
            case rel => exact ⟨j + 1, by rw [HST.out]; unfold g1; rw [if_neg (by omega)]; first | rfl | (rw [Int.add_zero]), by first | rfl | (simp; done) | (simp; unfold wrap64; omega), by omega, by omega, ⟨Nat.le_refl _⟩, HB, B25, C25⟩
        · have hje : j = ((acc 5).op.length : Int) := by omega
          have hst : sumF ((acc 5).op.take j.toNat) = sumF (acc 5).op := by rw [hje, Int.toNat_natCast, List.take_length]
          rw [hst]
          have hf1 := HFin.out.1
          have hf2 := HFin.out.2.1
          have hf3 := HFin.out.2.2
          go_wp2_with fail
          go_ret
          exact ⟨by first | rfl | (simp; omega), HB.out⟩
theorem accountCredits_calls (a0 a1 a2 a3 a4 : Int) (w : World) (w0 : (Lit.int .u16 a0).wf = true) (w1 : (Lit.int .u16 a1).wf = true) (w2 : (Lit.int .u8 a2).wf = true) (w3 : (Lit.int .u8 a3).wf = true) (w4 : (Lit.int .u16 a4).wf = true) :
    Calls Try.prog 7 #[.int .u16 a0, .int .u16 a1, .int .u8 a2, .int .u8 a3, .int .u16 a4] w fun e w' => e = .returned (.bool true) ∧ Below w.heap.size w w' := by
  have h0 := bounds_u16 w0
  have h1 := bounds_u16 w1
  have h2 := bounds_u8 w2
  have h3 := bounds_u8 w3
  have h4 := bounds_u16 w4
  obtain ⟨kk, hkk⟩ : ∃ kk, 2 + a2 % 60 = kk := ⟨_, rfl⟩
  have hkb : 2 ≤ kk ∧ kk ≤ 61 := by omega
  obtain ⟨nn, hnn⟩ : ∃ nn, 1 + a3 % (kk - 1) = nn := ⟨_, rfl⟩
  have hnb : 1 ≤ nn ∧ nn < kk := by
    have q1 := Int.emod_nonneg a3 (show kk - 1 ≠ 0 by omega)
    have q2 := Int.emod_lt_of_pos a3 (show 0 < kk - 1 by omega)
    omega
  obtain ⟨fr, hfr⟩ : ∃ fr, 700000 + a4 = fr := ⟨_, rfl⟩
  have hfb : 700000 ≤ fr ∧ fr ≤ 765535 := by omega
  obtain ⟨y, m, d, hv, ha⟩ := day_of fr (by omega) (by omega)
  obtain ⟨y2, m2, d2, hv2, ha2⟩ := day_of (fr + kk) (by omega) (by omega)
  obtain ⟨p, hpq⟩ : ∃ p : Pl, p = ⟨a0, 0, kk, 0, false, false⟩ := ⟨_, rfl⟩
  obtain ⟨q, hqq⟩ : ∃ q : Pl, q = ⟨a1, 0, kk, 0, false, false⟩ := ⟨_, rfl⟩
  have hp : p.Ok := by rw [hpq]; exact ⟨⟨by show (0 : Int) ≤ a0; omega, by show a0 ≤ 1073741824; omega⟩, ⟨by show (0 : Int) ≤ 0; omega, by show (0 : Int) ≤ 3; omega⟩, ⟨by show (1 : Int) ≤ kk; omega, by show kk ≤ 1000; omega⟩⟩
  have hq : q.Ok := by rw [hqq]; exact ⟨⟨by show (0 : Int) ≤ a1; omega, by show a1 ≤ 1073741824; omega⟩, ⟨by show (0 : Int) ≤ 0; omega, by show (0 : Int) ≤ 3; omega⟩, ⟨by show (1 : Int) ≤ kk; omega, by show kk ≤ 1000; omega⟩⟩
  have hpla : p.la = false := by rw [hpq]
  have hpn : p.un = 0 ∧ p.ev = kk ∧ p.tr = 0 := by rw [hpq]; exact ⟨rfl, rfl, rfl⟩
  have hqn : q.un = 0 ∧ q.ev = kk ∧ q.go = false ∧ q.la = false ∧ q.pr = a1 := by rw [hqq]; exact ⟨rfl, rfl, rfl, rfl, rfl⟩
  have hop : account_Open.f 0 a0 0 kk 0 false false fr = some ((newA 0 fr).st, (newA 0 fr).pl, (newA 0 fr).an, (newA 0 fr).ix, (newA 0 fr).ct, (newA 0 fr).cr, (newA 0 fr).sk, (newA 0 fr).op, (newA 0 fr).dn, (newA 0 fr).up, (newA 0 fr).rf, (newA 0 fr).sp, (newA 0 fr).pd) := by
    unfold account_Open.f
    rw [show wrap64 (fr + 0) = fr from by unfold wrap64; omega]
    rfl
  -- the periods of the first plan
  have n0 : Sea.nth fr y m d p.un p.ev ((0 : Nat) : Int) = some fr := Sea.nth_zero fr y m d _ _ hv ha
  have n1 : Sea.nth fr y m d p.un p.ev ((1 : Nat) : Int) = some (fr + kk) := by
    rw [hpn.1, hpn.2.1]
    have := Sea.days_some fr y m d kk 1 (by omega)
    rwa [Int.one_mul] at this
  have u1 : ∀ t, fr ≤ t → Upto p y m d fr 1 t := by
    intro t ht i hi
    obtain rfl : i = 0 := by omega
    exact ⟨fr, n0, ht⟩
  have s1 : ∀ t, t < fr + kk → ∀ v, Sea.nth fr y m d p.un p.ev ((1 : Nat) : Int) = some v → t < v := by
    intro t ht v hx
    rw [n1] at hx
    obtain rfl := Option.some.inj hx
    exact ht
  obtain ⟨N, e1, e2, e3⟩ := day_whole p hp hpla y m d fr fr hv ha 0 (by omega) (fun i hi => by omega) (by omega)
  obtain rfl : N = 1 := upto_one p y m d fr fr N 1 e2 e3 (u1 fr (by omega)) (s1 fr (by omega))
  obtain ⟨M, f1, f2, f3⟩ := day_whole p hp hpla y m d (fr + nn) fr hv ha 1 (by omega) (u1 _ (by omega)) (by omega)
  obtain rfl : M = 1 := upto_one p y m d fr (fr + nn) M 1 f2 f3 (u1 _ (by omega)) (s1 _ (by omega))
  have I := run_inv p hp.1.1 y m d fr 1
  obtain ⟨x, hx⟩ : ∃ x, runA p y m d fr 1 = x := ⟨_, rfl⟩
  rw [hx] at e1 f1 I
  have hpl : x.pl = 0 := by
    rw [← hx]
    show (beginA _ p _ false).pl = 0
    have hb : ∀ (b : Ac) (v : Int), (beginA b p v false).pl = b.pl := by
      intro b v
      have hc : ∀ (x : Ac) (c : S37), (closeA x c).pl = x.pl := by
        intro x c
        unfold closeA
        split
        · split
          · rfl
          · split
            · rfl
            · split <;> rfl
        · rfl
      unfold beginA
      split
      · exact hc _ _
      · split <;> exact hc _ _
    rw [hb]; rfl
  have e1' : dayF 30603 (newA 0 fr) p fr = some (x.t 0) := e1
  -- the change
  have hr : 0 ≤ kk - nn ∧ kk - nn ≤ kk := by omega
  have m0 := mul_small a0 (kk - nn) kk (by omega) hr (by omega)
  have m1 := mul_small a1 (kk - nn) kk (by omega) hr (by omega)
  have dv : ∀ a : Int, 0 ≤ a → a ≤ 65535 → 0 ≤ a * (kk - nn) / kk ∧ a * (kk - nn) / kk ≤ 65535 := by
    intro a ha0 ha1
    have hm : a * (kk - nn) ≤ a * kk := Int.mul_le_mul_of_nonneg_left hr.2 ha0
    refine ⟨Int.ediv_nonneg (Int.mul_nonneg ha0 hr.1) (by omega), ?_⟩
    have := Int.ediv_le_ediv (show 0 < kk by omega) hm
    rw [Int.mul_ediv_cancel _ (show kk ≠ 0 by omega)] at this
    omega
  have d0 := dv a0 h0.1 h0.2
  have d1 := dv a1 h1.1 h1.2
  obtain ⟨cr0, hcr⟩ : ∃ cr0, a0 * (kk - nn) / kk - a1 * (kk - nn) / kk = cr0 := ⟨_, rfl⟩
  have hcb : -100000 ≤ cr0 ∧ cr0 ≤ 100000 := by omega
  obtain ⟨z, hz⟩ : ∃ z : Ac, z = { x with cr := cr0, an := fr + kk, pl := 1, ix := 0 } := ⟨_, rfl⟩
  have hch : plan_Change.f 2 a0 0 kk 0 false false a1 0 kk 0 false false (fr + kk - (fr + nn)) (fr + kk - fr) = some (a0 * (kk - nn) / kk, a1 * (kk - nn) / kk, 0) := by
    rw [show fr + kk - (fr + nn) = kk - nn from by omega, show fr + kk - fr = kk from by omega]
    unfold plan_Change.f
    rw [part_small 2 (by omega) a0 (kk - nn) kk (by omega) hr (by omega), part_small 2 (by omega) a1 (kk - nn) kk (by omega) hr (by omega)]
    rfl
  have hsp : season_Span.f 4000000 x.an 0 kk (fr + nn) = some (fr, fr + kk, 0) := by
    rw [I.an]
    have hn0 : Sea.nth fr y m d 0 kk (1 - 1) = some fr := Sea.nth_zero fr y m d 0 kk hv ha
    have hn1 : Sea.nth fr y m d 0 kk 1 = some (fr + kk) := by
      have := Sea.days_some fr y m d kk 1 (by omega)
      rwa [Int.one_mul] at this
    refine span_f fr y m d 0 kk (fr + nn) 1 fr fr (fr + kk) 0 hv ha ⟨by omega, by omega⟩ ⟨by omega, by omega⟩ ⟨by omega, by omega⟩ ⟨by omega, ?_, ?_⟩ (by omega) (by omega) hn0 (by rw [hn1])
    · intro i i0 i1
      obtain rfl : i = 0 := by omega
      exact ⟨fr, hn0, by omega⟩
    · rintro ⟨v, q1, q2⟩
      rw [hn1] at q1
      obtain rfl := Option.some.inj q1
      omega
  have hadd : purse_Add.f x.cr (a0 * (kk - nn) / kk - a1 * (kk - nn) / kk) = some (cr0, 0) := by
    rw [I.cr, padd_eq 0 _ (by omega) (by omega), hcr, Int.zero_add]
  have hzc : ∀ (s : Value) (w' : World), Aside0 (Rd w' s x.op) → Calls Try.prog 15 #[.agg (x.cs s), .agg p.cs, .int .i64 1, .agg q.cs, .int .i64 (fr + nn)] w' (Out w' z 0) := by
    intro s w' hR
    rw [hz]
    have hl := I.len
    refine change_live 4000000 2 x p q 1 (fr + nn) fr (fr + kk) _ _ cr0 s w' hR I.st (by rw [hpl]; rfl) (by omega) ⟨by rw [hpn.1, hpn.2.1]; exact hsp⟩ (by rw [I.ix]; omega) (by omega) (by omega) (by omega) ⟨by rw [hpq, hqq]; exact hch⟩ (by omega) (by omega) ⟨hadd⟩
  -- the other plan's periods
  have hzi : CrI z (fr + kk) cr0 a1 0 := by
    rw [hz]
    have hS : sumF x.op = 0 := by
      have hop1 : ∀ l : List S37, (∀ c ∈ l, c.f0 = 0) → sumF l = 0 := by
        intro l
        induction l with
        | nil => intro _; rfl
        | cons c r ih =>
          intro h
          simp only [sumF, g1]
          rw [if_neg (by rw [h c List.mem_cons_self]; omega), ih (fun c hc => h c (List.mem_cons_of_mem _ hc))]
          rfl
      apply hop1
      intro c hc
      have hx2 : x = beginA { newA 0 fr with ix := (newA 0 fr).ix + 1 } p fr false := by
        rw [← hx]
        show beginA _ p ((Sea.nth fr y m d p.un p.ev ((0 : Nat) : Int)).getD 0) false = _
        rw [n0]; rfl
      rw [hx2, begin_first p fr fr hp.1.1, hpq] at hc
      by_cases c0 : a0 = 0
      · rw [if_pos c0, if_neg (by simp)] at hc; cases hc
      · rw [if_neg c0] at hc
        rw [List.mem_singleton.1 hc]
    have hph : ∀ c : S37, c ∈ x.op → c.f2 = 1 ∧ 0 ≤ c.f3 ∧ c.f3 ≤ 1000000 := by
      intro c hc
      have hx2 : x = beginA { newA 0 fr with ix := (newA 0 fr).ix + 1 } p fr false := by
        rw [← hx]
        show beginA _ p ((Sea.nth fr y m d p.un p.ev ((0 : Nat) : Int)).getD 0) false = _
        rw [n0]; rfl
      rw [hx2, begin_first p fr fr hp.1.1, hpq] at hc
      by_cases c0 : a0 = 0
      · rw [if_pos c0, if_neg (by simp)] at hc; cases hc
      · rw [if_neg c0] at hc
        rw [List.mem_singleton.1 hc]
        exact ⟨rfl, h0.1, by show a0 ≤ 1000000; omega⟩
    exact ⟨I.st, rfl, I.sk, rfl, by show x.ct = _; rw [I.ct]; rfl, by have := I.dn; show 0 ≤ x.dn ∧ x.dn ≤ _; omega, I.up, I.rf, I.sp, I.pd, by have := I.len; show x.op.length ≤ _; omega, hph, hcb, by show sumF x.op + cr0 = _ * a1 + cr0; rw [hS]; simp, fun h => by omega⟩
  have hai := accC_inv q hqn.2.2.1 (fr + kk) cr0 (by rw [hqn.2.2.2.2]; omega) z (by rw [hqn.2.2.2.2]; exact hzi)
  have hik : ∀ i : Nat, i < 5 → 0 ≤ (i : Int) * kk ∧ (i : Int) * kk ≤ 1000 := by
    intro i hi
    refine ⟨Int.mul_nonneg (by omega) (by omega), ?_⟩
    have : (i : Int) * kk ≤ (i : Int) * 61 := Int.mul_le_mul_of_nonneg_left hkb.2 (by omega)
    omega
  have h5 := hai 5
  rw [hqn.2.2.2.2] at h5
  have hlen := h5.len
  have hzcr : z.cr = cr0 := by rw [hz]
  subst hfr
  refine credits_walk a0 a1 a2 a3 a4 kk nn (newA 0 (700000 + a4)) x x z w h0 h1 h2 h3 h4 hkk hnn ⟨hkb⟩ ⟨hnb⟩ ⟨hop⟩ ⟨by rw [hpq] at e1'; exact e1'⟩ ⟨by rw [hpq] at f1; exact f1⟩ ⟨m0, m1, ⟨d0.1, by omega⟩, ⟨d1.1, by omega⟩⟩
    ⟨by rw [hzcr, hcr], by rw [hz], by rw [hz], by rw [hz]⟩ (accC q (700000 + a4 + kk) z) ⟨rfl⟩ ⟨hik⟩ ⟨?_⟩ ⟨by omega⟩ ⟨?_⟩ ⟨?_⟩ ⟨by rw [hpq, hqq] at hzc; exact hzc⟩
  · intro i hi
    have := credit_day q hq hqn.2.2.2.1 hqn.1 y2 m2 d2 (700000 + a4 + kk) cr0 a1 hv2 ha2 (by omega) (by rw [hqn.2.1]; omega) i (by omega) (accC q (700000 + a4 + kk) z i) (by have := hai i; rwa [hqn.2.2.2.2] at this)
    have e9 : accC q (700000 + a4 + kk) z (i + 1) = beginA { accC q (700000 + a4 + kk) z i with ix := (accC q (700000 + a4 + kk) z i).ix + 1 } q (700000 + a4 + kk + i * q.ev) false := rfl
    rw [← e9, hqn.2.1] at this
    rw [← hqq]
    exact this
  · intro j hj0 hj1
    have hb : ∀ c ∈ (accC q (700000 + a4 + kk) z 5).op, 0 ≤ c.f3 ∧ c.f3 ≤ 1000000 := fun c hc => (h5.ph c hc).2
    have hs := sumF_bd ((accC q (700000 + a4 + kk) z 5).op.take j.toNat) (fun c hc => hb c (List.mem_of_mem_take hc))
    have hl2 : ((accC q (700000 + a4 + kk) z 5).op.take j.toNat).length ≤ 6 := by rw [List.length_take]; omega
    obtain ⟨n, rfl⟩ := Int.eq_ofNat_of_zero_le hj0
    have hn : n < (accC q (700000 + a4 + kk) z 5).op.length := by omega
    have er : rd_T37 (accC q (700000 + a4 + kk) z 5).op (n : Int) = (accC q (700000 + a4 + kk) z 5).op[n] := by unfold rd_T37; rw [Int.toNat_natCast, List.getD_eq_getElem?_getD, List.getElem?_eq_getElem hn]; rfl
    refine ⟨by omega, ?_⟩
    rw [er]
    exact hb _ (List.getElem_mem hn)
  · have hs := h5.sum
    have hpz := h5.pos (by omega)
    have hcr5 := h5.cr
    rw [hzcr]
    refine ⟨by rw [hs]; push_cast; omega, by omega, hcb⟩
end Go.Proofs.Ytnpcodfeggcdbaa.Pure
