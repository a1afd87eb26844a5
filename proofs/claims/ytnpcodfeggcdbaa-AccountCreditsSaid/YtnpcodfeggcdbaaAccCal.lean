/- The calendar's and the seasons' printed functions: what they compute. -/
import Derived.Test.YtnpcodfeggcdbaaCal
import Derived.Test.YtnpcodfeggcdbaaSea
import Derived.Test.YtnpcodfeggcdbaaPAccx1
import Derived.Test.YtnpcodfeggcdbaaPAccx2
set_option linter.unusedVariables false
set_option linter.unusedSimpArgs false
namespace Go.Proofs.Ytnpcodfeggcdbaa.Pure
open Go.RowKit Go.Proofs.Ytnpcodfeggcdbaa.PAcc Go.Proofs.YtnpcodfeggcdbaaW.PrintWords Go.Proofs.YtnpcodfeggcdbaaW.PrintLast
open Go.Proofs.Ytnpcodfeggcdbaa
theorem tz4 (y c : Int) : (Int.tmod y c = 0) ↔ (y % c = 0) := by
  rw [← Int.dvd_iff_tmod_eq_zero, ← Int.dvd_iff_emod_eq_zero]
theorem leap_eq (y : Int) : civil_Leap.f y = some (Cal.leap y) := by
  unfold civil_Leap.f Cal.leap
  by_cases h1 : y % 4 = 0 <;> by_cases h2 : y % 100 = 0 <;> by_cases h3 : y % 400 = 0 <;> simp [tz4, h1, h2, h3] <;> (try omega) <;> (intro h; have := (tz4 _ _).1 h; omega)
theorem mon_cases (m : Int) : m = 1 ∨ m = 2 ∨ m = 3 ∨ m = 4 ∨ m = 5 ∨ m = 6 ∨ m = 7 ∨ m = 8 ∨ m = 9 ∨ m = 10 ∨ m = 11 ∨ m = 12 ∨ m < 1 ∨ 12 < m := by omega
theorem month_eq (k : Nat) (hk : 2 ≤ k) (y m : Int) : civil_Month.f k y m = some (Cal.mon y m) := by
  obtain ⟨k, rfl⟩ : ∃ j, k = j + 2 := ⟨k - 2, by omega⟩
  have hl : Cal.lp y = if Cal.leap y = true then 1 else 0 := rfl
  rcases mon_cases m with rfl | rfl | rfl | rfl | rfl | rfl | rfl | rfl | rfl | rfl | rfl | rfl | h | h
  all_goals first
    | (rw [Cal.mon_last y m (by omega)]
       have e1 : ∀ c : Int, 1 ≤ c → c ≤ 12 → ¬ m = c := fun c _ _ => by omega
       have e2 : ∀ c : Int, 1 ≤ c → c ≤ 12 → (m == c) = false := fun c h1 h2 => beq_eq_false_iff_ne.2 (e1 c h1 h2)
       simp [civil_Month.f, civil_Month.j0, civil_Month.j1, e1, e2])
    | (simp [civil_Month.f, civil_Month.j0, civil_Month.j1, Cal.mon]; done)
    | (cases hb : Cal.leap y <;> simp [civil_Month.f, civil_Month.j0, civil_Month.j1, Cal.mon, leap_eq, hl, hb])
theorem before_eq (y : Int) (h0 : 1 ≤ y) (h1 : y ≤ 20000) : civil_before.f y = some (Cal.bef y) := by
  unfold civil_before.f Cal.bef
  have e0 : wrap64 (y - 1) = y - 1 := by unfold wrap64; omega
  rw [e0]
  have e : ∀ c : Int, 1 ≤ c → wrap64 (Int.tdiv (y - 1) c) = (y - 1) / c := by
    intro c hc
    rw [Int.tdiv_eq_ediv_of_nonneg (by omega)]
    have h3 : 0 ≤ (y - 1) / c := Int.ediv_nonneg (by omega) (by omega)
    have h4 : (y - 1) / c ≤ y - 1 := Int.ediv_le_self _ (by omega)
    unfold wrap64; omega
  rw [e 4 (by omega), e 100 (by omega), e 400 (by omega)]
  unfold wrap64; congr 1; omega
theorem valid_iff (y m d : Int) : Cal.valid y m d ↔ (1 ≤ y ∧ y ≤ 9999 ∧ 1 ≤ d ∧ d ≤ Cal.mon y m) := by
  unfold Cal.valid
  constructor
  · intro h; omega
  · intro h
    have := Cal.mon_pos' y m (by omega); omega
theorem right_eq (k : Nat) (hk : 2 ≤ k) (y m d : Int) [Decidable (Cal.valid y m d)] : civil_Right.f k y m d = some (decide (Cal.valid y m d)) := by
  unfold civil_Right.f
  rw [month_eq k hk]
  by_cases h1 : 1 ≤ y <;> by_cases h2 : y ≤ 9999 <;> by_cases h3 : 1 ≤ d <;> by_cases h4 : d ≤ Cal.mon y m <;> simp [valid_iff, h1, h2, h3, h4]
theorem num_loop (y mm d : Int) (h2 : mm ≤ 13) (e : Nat) : ∀ (k : Nat) (x m : Int), 1 ≤ m → m ≤ mm → mm - m = e → e + 3 ≤ k → -4000000 ≤ x → x ≤ 4000000 + 31 * m →
    civil_Number.l0 k x m y mm d = some (x + (Cal.cum y mm - Cal.cum y m), 0) := by
  induction e with
  | zero =>
    intro k x m h3 h4 h5 h6 h7 h8
    obtain ⟨k, rfl⟩ : ∃ j, k = j + 1 := ⟨k - 1, by omega⟩
    simp only [civil_Number.l0]; rw [if_neg (by omega)]
    have : m = mm := by omega
    subst this; simp
  | succ e ih =>
    intro k x m h3 h4 h5 h6 h7 h8
    obtain ⟨k, rfl⟩ : ∃ j, k = j + 1 := ⟨k - 1, by omega⟩
    simp only [civil_Number.l0]; rw [if_pos (by omega), month_eq k (by omega)]; simp only [Option.bind_some]
    have h9 := Cal.mon_le y m
    have h10 := Cal.cum_succ y m h3 (by omega)
    rw [show wrap64 (x + Cal.mon y m) = x + Cal.mon y m from by unfold wrap64; omega, show wrap64 (m + 1) = m + 1 from by unfold wrap64; omega]
    rw [ih k (x + Cal.mon y m) (m + 1) (by omega) (by omega) (by omega) (by omega) (by omega) (by omega), h10]
    congr 2; omega
theorem number_yes (k : Nat) (hk : 15 ≤ k) (y m d : Int) (h : Cal.valid y m d) : civil_Number.f k y m d = some (Cal.num y m d, 0) := by
  have h0 := h
  obtain ⟨h1, h2, h3, h4, h5, h6⟩ := h
  have h7 := Cal.mon_le y m
  have h8 := Cal.bef_ge y h1
  have h9 := Cal.bef_le y h1
  unfold civil_Number.f
  classical
  rw [right_eq k (by omega), before_eq y h1 (by omega)]
  simp only [h0, decide_true, Option.bind_some, if_true]
  rw [show wrap64 (wrap64 (Cal.bef y + d) - 1) = Cal.bef y + d - 1 from by unfold wrap64; omega]
  rw [num_loop y m d (by omega) (m - 1).toNat k _ 1 (by omega) (by omega) (by omega) (by omega) (by omega) (by omega), Cal.cum_one]
  unfold Cal.num; congr 2; omega
theorem number_no (k : Nat) (hk : 15 ≤ k) (y m d : Int) (h : ¬ Cal.valid y m d) : civil_Number.f k y m d = some (0, 1) := by
  unfold civil_Number.f
  classical
  rw [right_eq k (by omega)]
  simp [h]
theorem of_months (y : Int) (e : Nat) : ∀ (k : Nat) (x m : Int), 1 ≤ m → m ≤ 12 → 12 - m = e → e + 4 ≤ k → 0 ≤ x → x < Cal.cum y 13 - Cal.cum y m →
    ∃ m' d, civil_Of.l1 k x y m = some (y, m', d, 0) ∧ 1 ≤ m' ∧ m' ≤ 12 ∧ 1 ≤ d ∧ d ≤ Cal.mon y m' ∧ Cal.cum y m' + d - 1 = Cal.cum y m + x := by
  induction e with
  | zero =>
    intro k x m h1 h2 h3 h4 h5 h6
    obtain ⟨k, rfl⟩ : ∃ j, k = j + 1 := ⟨k - 1, by omega⟩
    have h7 := Cal.cum_succ y m h1 h2
    have : m = 12 := by omega
    subst this
    have h9 := Cal.cum_bd y 12 (by omega) (by omega)
    rw [show (12 : Int) + 1 = 13 from rfl] at h7
    have h8 := Cal.mon_le y 12
    refine ⟨12, x + 1, ?_, by omega, by omega, by omega, by omega, by omega⟩
    simp only [civil_Of.l1]; rw [month_eq k (by omega)]; simp only [Option.bind_some]; rw [if_neg (by omega)]
    rw [show wrap64 (x + 1) = x + 1 from by unfold wrap64; omega]
  | succ e ih =>
    intro k x m h1 h2 h3 h4 h5 h6
    obtain ⟨k, rfl⟩ : ∃ j, k = j + 1 := ⟨k - 1, by omega⟩
    have h7 := Cal.cum_succ y m h1 h2
    have h8 := Cal.mon_le y m
    have h9 := Cal.cum_bd y m (by omega) (by omega)
    have h10 := Cal.cum_bd y 13 (by omega) (by omega)
    by_cases hx : Cal.mon y m ≤ x
    · obtain ⟨m', d, g1, g2, g3, g4, g5, g6⟩ := ih k (x - Cal.mon y m) (m + 1) (by omega) (by omega) (by omega) (by omega) (by omega) (by omega)
      refine ⟨m', d, ?_, g2, g3, g4, g5, by omega⟩
      simp only [civil_Of.l1]; rw [month_eq k (by omega)]; simp only [Option.bind_some]; rw [if_pos hx]
      rw [show wrap64 (x - Cal.mon y m) = x - Cal.mon y m from by unfold wrap64; omega, show wrap64 (m + 1) = m + 1 from by unfold wrap64; omega]
      exact g1
    · refine ⟨m, x + 1, ?_, by omega, by omega, by omega, by omega, by omega⟩
      simp only [civil_Of.l1]; rw [month_eq k (by omega)]; simp only [Option.bind_some]; rw [if_neg (by omega)]
      rw [show wrap64 (x + 1) = x + 1 from by unfold wrap64; omega]
theorem of_years (n : Int) (hn : n ≤ 3652058) (e : Nat) : ∀ (k : Nat) (y : Int), 1 ≤ y → y ≤ 9999 → 9999 - y = e → e + 40 ≤ k → Cal.bef y ≤ n →
    ∃ y' m d, civil_Of.l0 k n y = some (y', m, d, 0) ∧ Cal.valid y' m d ∧ Cal.num y' m d = n := by
  induction e with
  | zero =>
    intro k y h1 h2 h3 h4 h5
    obtain ⟨k, rfl⟩ : ∃ j, k = j + 1 := ⟨k - 1, by omega⟩
    have : y = 9999 := by omega
    subst this
    have hs := Cal.bef_succ 9999
    have hm := Cal.bef_max
    rw [show (9999 : Int) + 1 = 10000 from rfl] at hs
    have hg := Cal.bef_ge 9999 (by omega)
    obtain ⟨m', d, g1, g2, g3, g4, g5, g6⟩ := of_months 9999 11 k (n - Cal.bef 9999) 1 (by omega) (by omega) (by omega) (by omega) (by omega) (by rw [Cal.cum_one, Cal.cum_13]; omega)
    refine ⟨9999, m', d, ?_, ⟨by omega, by omega, g2, g3, g4, g5⟩, by rw [Cal.cum_one] at g6; unfold Cal.num; omega⟩
    simp only [civil_Of.l0]
    rw [show wrap64 ((9999 : Int) + 1) = 9999 + 1 from by unfold wrap64; omega, before_eq _ (by omega) (by omega)]; simp only [Option.bind_some]
    rw [if_neg (by rw [show (9999 : Int) + 1 = 10000 from rfl]; omega), before_eq _ (by omega) (by omega)]; simp only [Option.bind_some]
    rw [show wrap64 (n - Cal.bef 9999) = n - Cal.bef 9999 from by unfold wrap64; omega]
    exact g1
  | succ e ih =>
    intro k y h1 h2 h3 h4 h5
    obtain ⟨k, rfl⟩ : ∃ j, k = j + 1 := ⟨k - 1, by omega⟩
    have hs := Cal.bef_succ y
    have hg := Cal.bef_ge y (by omega)
    by_cases hx : Cal.bef (y + 1) ≤ n
    · obtain ⟨y', m, d, g1, g2⟩ := ih k (y + 1) (by omega) (by omega) (by omega) (by omega) hx
      refine ⟨y', m, d, ?_, g2⟩
      simp only [civil_Of.l0]
      rw [show wrap64 (y + 1) = y + 1 from by unfold wrap64; omega, before_eq _ (by omega) (by omega)]; simp only [Option.bind_some]
      rw [if_pos hx]; exact g1
    · obtain ⟨m', d, g1, g2, g3, g4, g5, g6⟩ := of_months y 11 k (n - Cal.bef y) 1 (by omega) (by omega) (by omega) (by omega) (by omega) (by rw [Cal.cum_one, Cal.cum_13]; omega)
      refine ⟨y, m', d, ?_, ⟨by omega, by omega, g2, g3, g4, g5⟩, by rw [Cal.cum_one] at g6; unfold Cal.num; omega⟩
      simp only [civil_Of.l0]
      rw [show wrap64 (y + 1) = y + 1 from by unfold wrap64; omega, before_eq _ (by omega) (by omega)]; simp only [Option.bind_some]
      rw [if_neg hx, before_eq _ (by omega) (by omega)]; simp only [Option.bind_some]
      rw [show wrap64 (n - Cal.bef y) = n - Cal.bef y from by unfold wrap64; omega]
      exact g1
theorem of_yes (k : Nat) (hk : 11000 ≤ k) (n : Int) (h0 : 0 ≤ n) (h1 : n ≤ 3652058) :
    ∃ y m d, civil_Of.f k n = some (y, m, d, 0) ∧ Cal.valid y m d ∧ Cal.num y m d = n := by
  obtain ⟨k, rfl⟩ : ∃ j, k = j + 1 := ⟨k - 1, by omega⟩
  obtain ⟨y, m, d, g1, g2⟩ := of_years n h1 (9999 - (n / 366 + 1)).toNat k (n / 366 + 1) (by omega) (by omega) (by omega) (by omega) (by have := Cal.bef_le (n / 366 + 1) (by omega); omega)
  refine ⟨y, m, d, ?_, g2⟩
  unfold civil_Of.f
  rw [if_neg (by omega), show decide (n > 3652058) = false from by simp; omega]
  simp only [civil_Of.j0]
  rw [if_neg (by simp), Int.tdiv_eq_ediv_of_nonneg h0, show wrap64 (wrap64 (n / 366) + 1) = n / 366 + 1 from by unfold wrap64; omega]
  exact g1
theorem of_no (k : Nat) (hk : 1 ≤ k) (n : Int) (h : n < 0 ∨ 3652058 < n) : civil_Of.f k n = some (0, 0, 0, 1) := by
  obtain ⟨k, rfl⟩ : ∃ j, k = j + 1 := ⟨k - 1, by omega⟩
  unfold civil_Of.f
  by_cases h0 : n < 0
  · rw [if_pos h0]; simp [civil_Of.j0]
  · rw [if_neg h0, show decide (n > 3652058) = true from by simp; omega]; simp [civil_Of.j0]
theorem sright_eq (u e : Int) : season_Right.f u e = some (decide (u ≤ 3 ∧ 1 ≤ e ∧ e ≤ 1000)) := by
  unfold season_Right.f
  by_cases h1 : u ≤ 3 <;> by_cases h2 : 1 ≤ e <;> by_cases h3 : e ≤ 1000 <;> simp [h1, h2, h3]
theorem clamp_eq (k : Nat) (hk : 2 ≤ k) (y m d : Int) (hd : 1 ≤ d) : civil_Clamp.f k y m d = some (y, m, Sea.cut y m d) := by
  unfold civil_Clamp.f; rw [month_eq k hk]; simp only [Option.bind_some]
  rw [show mx d 1 = d from by unfold mx; rw [if_neg (by omega)]]
  unfold mn Sea.cut
  congr 3; split <;> split <;> omega
theorem nth_months (k : Nat) (hk : 16 ≤ k) (y m d j : Int) (hv : Cal.valid y m d) (h0 : 0 ≤ j) (h1 : j ≤ 50000000000) :
    season_Nth.j1 k j y m d = some (Sea.out (Sea.monAdd y m d j)) := by
  have hv0 := hv
  obtain ⟨v1, v2, v3, v4, v5, v6⟩ := hv
  obtain ⟨k, rfl⟩ : ∃ i, k = i + 1 := ⟨k - 1, by omega⟩
  simp only [season_Nth.j1]
  rw [show wrap64 (wrap64 (m - 1) + j) = m - 1 + j from by unfold wrap64; omega]
  rw [Int.tdiv_eq_ediv_of_nonneg (by omega), Int.tmod_eq_emod_of_nonneg (by omega)]
  rw [show wrap64 (y + wrap64 ((m - 1 + j) / 12)) = y + (m - 1 + j) / 12 from by unfold wrap64; omega]
  rw [show wrap64 ((m - 1 + j) % 12 + 1) = (m - 1 + j) % 12 + 1 from by unfold wrap64; omega]
  unfold Sea.monAdd
  by_cases hy : y + (m - 1 + j) / 12 ≤ 9999
  · have hw := Sea.mon_valid y m d j hv0 h0 hy
    rw [if_neg (by omega), if_pos hy, clamp_eq k (by omega) _ _ _ v5]
    simp only [Option.bind_some]
    rw [number_yes k (by omega) _ _ _ hw]; rfl
  · rw [if_pos (by omega), if_neg hy]; rfl
theorem nth_eq (k : Nat) (hk : 11000 ≤ k) (a y m d u e n : Int) (hv : Cal.valid y m d) (ha : Cal.num y m d = a) (hu : 0 ≤ u ∧ u ≤ 3) (he : 1 ≤ e ∧ e ≤ 1000) (hn : 0 ≤ n ∧ n ≤ 3652058) :
    season_Nth.f k a u e n = some (Sea.out (Sea.nth a y m d u e n)) := by
  have hr := Cal.num_range y m d hv
  obtain ⟨y', m', d', g1, g2, g3⟩ := of_yes k hk a (by omega) (by omega)
  obtain ⟨rfl, rfl, rfl⟩ := Cal.num_inj _ _ _ _ _ _ g2 hv (g3.trans ha.symm)
  obtain ⟨k, rfl⟩ : ∃ i, k = i + 1 := ⟨k - 1, by omega⟩
  have hb := Sea.mul_bd n e 3652058 1000 hn.1 hn.2 he.1 he.2
  unfold season_Nth.f
  rw [g1, sright_eq]; simp only [Option.bind_some]
  rw [if_pos trivial, show decide (u ≤ 3 ∧ 1 ≤ e ∧ e ≤ 1000) = true from by simp; omega, if_pos rfl, if_neg (by omega), show decide (n > 3652058) = false from by simp; omega]
  simp only [season_Nth.j0]
  rw [if_neg (by simp)]
  unfold Sea.nth Sea.off
  generalize n * e = p at hb ⊢
  rw [show wrap64 p = p from by unfold wrap64; omega, show wrap64 (p * 7) = p * 7 from by unfold wrap64; omega, show wrap64 (p * 12) = p * 12 from by unfold wrap64; omega]
  rw [show wrap64 (a + p * 7) = a + p * 7 from by unfold wrap64; omega, show wrap64 (a + p) = a + p from by unfold wrap64; omega]
  by_cases h1 : u = 1
  · subst h1
    simp only [if_true, show (1 : Int) ≤ 1 from by omega]
    unfold Sea.dayAdd
    by_cases hx : a + p * 7 ≤ 3652058
    · rw [if_neg (by omega), if_pos hx]; rfl
    · rw [if_pos (by omega), if_neg hx]; rfl
  · rw [if_neg h1]
    by_cases h0 : u = 0
    · subst h0
      unfold Sea.dayAdd
      by_cases hx : a + p ≤ 3652058
      · have hx' : ¬ 3652058 < a + p := by omega
        simp [hx, hx', Sea.out]
      · have hx' : 3652058 < a + p := by omega
        simp [hx, hx', Sea.out]
    · rw [if_neg h0, if_neg (show ¬ u ≤ 1 by omega), if_neg h1]
      by_cases h3 : u = 3
      · rw [if_pos h3, if_pos h3, nth_months k (by omega) _ _ _ _ hv (by omega) (by omega)]
      · rw [if_neg h3, if_neg h3, nth_months k (by omega) _ _ _ _ hv (by omega) (by omega)]
theorem nth_bad (k : Nat) (hk : 11000 ≤ k) (a u e n : Int) (h : a < 0 ∨ 3652058 < a ∨ 3 < u ∨ e < 1 ∨ 1000 < e ∨ n < 0 ∨ 3652058 < n) :
    season_Nth.f k a u e n = some (0, 1) := by
  obtain ⟨k, rfl⟩ : ∃ i, k = i + 1 := ⟨k - 1, by omega⟩
  unfold season_Nth.f
  by_cases ha : a < 0 ∨ 3652058 < a
  · rw [of_no _ (by omega) a ha]; simp [season_Nth.j0]
  · obtain ⟨y, m, d, g1, g2, g3⟩ := of_yes (k + 1) hk a (by omega) (by omega)
    rw [g1, sright_eq]; simp only [Option.bind_some]
    rw [if_pos trivial]
    by_cases hr : u ≤ 3 ∧ 1 ≤ e ∧ e ≤ 1000
    · rw [decide_eq_true hr, if_pos rfl]
      by_cases hn : n < 0
      · rw [if_pos hn]; simp [season_Nth.j0]
      · rw [if_neg hn, show decide (n > 3652058) = true from by simp; omega]; simp [season_Nth.j0]
    · rw [decide_eq_false hr, if_neg (by simp)]; simp [season_Nth.j0]
end Go.Proofs.Ytnpcodfeggcdbaa.Pure
