/- Days as texts, and a cycle's line: what they compute, for every input. -/
import Derived.Test.YtnpcodfeggcdbaaDoorMoney
import Derived.Test.YtnpcodfeggcdbaaDoorCal
import Derived.Test.YtnpcodfeggcdbaaDoorPDayx1
import Derived.Test.YtnpcodfeggcdbaaDoorPDayx2
set_option linter.unusedVariables false
set_option linter.unusedSimpArgs false
namespace Go.Proofs.YtnpcodfeggcdbaaDoor.Pure
open Go.RowKit Go.Proofs.YtnpcodfeggcdbaaDoor.PMny Go.Proofs.YtnpcodfeggcdbaaDoor.PDay Go.Proofs.YtnpcodfeggcdbaaDoorW.PrintWords Go.Proofs.YtnpcodfeggcdbaaDoorW.PrintLast
open Go.Proofs.YtnpcodfeggcdbaaDoor Go.Proofs.YtnpcodfeggcdbaaDoorW.PrintMore
theorem tz4 (y c : Int) : (Int.tmod y c = 0) ↔ (y % c = 0) := by
  rw [← Int.dvd_iff_tmod_eq_zero, ← Int.dvd_iff_emod_eq_zero]
theorem leap_eq (y : Int) : civil_Leap.f y = some (Cal.leap y) := by
  unfold civil_Leap.f Cal.leap
  by_cases h1 : y % 4 = 0 <;> by_cases h2 : y % 100 = 0 <;> by_cases h3 : y % 400 = 0 <;> simp [tz4, h1, h2, h3] <;> (try omega) <;> (intro h; have := (tz4 _ _).1 h; omega)
theorem mon_cases (m : Int) : m = 1 ∨ m = 2 ∨ m = 3 ∨ m = 4 ∨ m = 5 ∨ m = 6 ∨ m = 7 ∨ m = 8 ∨ m = 9 ∨ m = 10 ∨ m = 11 ∨ m = 12 ∨ m < 1 ∨ 12 < m := by omega
theorem month_eq (k : Nat) (hk : 2 ≤ k) (y m : Int) : civil_Month.f k y m = some (Cal.mon y m) := by
  obtain ⟨k, rfl⟩ : ∃ j, k = j + 2 := ⟨k - 2, by omega⟩
  have hl : Cal.lp y = if Cal.leap y = true then 1 else 0 := rfl
  rcases mon_cases m with rfl | rfl | rfl | rfl | rfl | rfl | rfl | rfl | rfl | rfl | rfl | rfl | h | h
  all_goals first
    | (rw [Cal.mon_last y m (by omega)]
       have e1 : ∀ c : Int, 1 ≤ c → c ≤ 12 → ¬ m = c := fun c _ _ => by omega
       have e2 : ∀ c : Int, 1 ≤ c → c ≤ 12 → (m == c) = false := fun c h1 h2 => beq_eq_false_iff_ne.2 (e1 c h1 h2)
       simp [civil_Month.f, civil_Month.j0, civil_Month.j1, e1, e2])
    | (simp [civil_Month.f, civil_Month.j0, civil_Month.j1, Cal.mon]; done)
    | (cases hb : Cal.leap y <;> simp [civil_Month.f, civil_Month.j0, civil_Month.j1, Cal.mon, leap_eq, hl, hb])
theorem before_eq (y : Int) (h0 : 1 ≤ y) (h1 : y ≤ 20000) : civil_before.f y = some (Cal.bef y) := by
  unfold civil_before.f Cal.bef
  have e0 : wrap64 (y - 1) = y - 1 := by unfold wrap64; omega
  rw [e0]
  have e : ∀ c : Int, 1 ≤ c → wrap64 (Int.tdiv (y - 1) c) = (y - 1) / c := by
    intro c hc
    rw [Int.tdiv_eq_ediv_of_nonneg (by omega)]
    have h3 : 0 ≤ (y - 1) / c := Int.ediv_nonneg (by omega) (by omega)
    have h4 : (y - 1) / c ≤ y - 1 := Int.ediv_le_self _ (by omega)
    unfold wrap64; omega
  rw [e 4 (by omega), e 100 (by omega), e 400 (by omega)]
  unfold wrap64; congr 1; omega
theorem valid_iff (y m d : Int) : Cal.valid y m d ↔ (1 ≤ y ∧ y ≤ 9999 ∧ 1 ≤ d ∧ d ≤ Cal.mon y m) := by
  unfold Cal.valid
  constructor
  · intro h; omega
  · intro h
    have := Cal.mon_pos' y m (by omega); omega
theorem right_eq (k : Nat) (hk : 2 ≤ k) (y m d : Int) [Decidable (Cal.valid y m d)] : civil_Right.f k y m d = some (decide (Cal.valid y m d)) := by
  unfold civil_Right.f
  rw [month_eq k hk]
  by_cases h1 : 1 ≤ y <;> by_cases h2 : y ≤ 9999 <;> by_cases h3 : 1 ≤ d <;> by_cases h4 : d ≤ Cal.mon y m <;> simp [valid_iff, h1, h2, h3, h4]
theorem num_loop (y mm d : Int) (h2 : mm ≤ 13) (e : Nat) : ∀ (k : Nat) (x m : Int), 1 ≤ m → m ≤ mm → mm - m = e → e + 3 ≤ k → -4000000 ≤ x → x ≤ 4000000 + 31 * m →
    civil_Number.l0 k x m y mm d = some (x + (Cal.cum y mm - Cal.cum y m), 0) := by
  induction e with
  | zero =>
    intro k x m h3 h4 h5 h6 h7 h8
    obtain ⟨k, rfl⟩ : ∃ j, k = j + 1 := ⟨k - 1, by omega⟩
    simp only [civil_Number.l0]; rw [if_neg (by omega)]
    have : m = mm := by omega
    subst this; simp
  | succ e ih =>
    intro k x m h3 h4 h5 h6 h7 h8
    obtain ⟨k, rfl⟩ : ∃ j, k = j + 1 := ⟨k - 1, by omega⟩
    simp only [civil_Number.l0]; rw [if_pos (by omega), month_eq k (by omega)]; simp only [Option.bind_some]
    have h9 := Cal.mon_le y m
    have h10 := Cal.cum_succ y m h3 (by omega)
    rw [show wrap64 (x + Cal.mon y m) = x + Cal.mon y m from by unfold wrap64; omega, show wrap64 (m + 1) = m + 1 from by unfold wrap64; omega]
    rw [ih k (x + Cal.mon y m) (m + 1) (by omega) (by omega) (by omega) (by omega) (by omega) (by omega), h10]
    congr 2; omega
theorem number_yes (k : Nat) (hk : 15 ≤ k) (y m d : Int) (h : Cal.valid y m d) : civil_Number.f k y m d = some (Cal.num y m d, 0) := by
  have h0 := h
  obtain ⟨h1, h2, h3, h4, h5, h6⟩ := h
  have h7 := Cal.mon_le y m
  have h8 := Cal.bef_ge y h1
  have h9 := Cal.bef_le y h1
  unfold civil_Number.f
  classical
  rw [right_eq k (by omega), before_eq y h1 (by omega)]
  simp only [h0, decide_true, Option.bind_some, if_true]
  rw [show wrap64 (wrap64 (Cal.bef y + d) - 1) = Cal.bef y + d - 1 from by unfold wrap64; omega]
  rw [num_loop y m d (by omega) (m - 1).toNat k _ 1 (by omega) (by omega) (by omega) (by omega) (by omega) (by omega), Cal.cum_one]
  unfold Cal.num; congr 2; omega
theorem number_no (k : Nat) (hk : 15 ≤ k) (y m d : Int) (h : ¬ Cal.valid y m d) : civil_Number.f k y m d = some (0, 1) := by
  unfold civil_Number.f
  classical
  rw [right_eq k (by omega)]
  simp [h]

theorem rleap_eq (y : Int) : paybookref01_Leap.f y = some (Cal.leap y) := by
  unfold paybookref01_Leap.f Cal.leap
  by_cases h1 : y % 4 = 0 <;> by_cases h2 : y % 100 = 0 <;> by_cases h3 : y % 400 = 0 <;> simp [tz4, h1, h2, h3] <;> (try omega) <;> (intro h; have := (tz4 _ _).1 h; omega)
theorem rmonth_eq (k : Nat) (hk : 1 ≤ k) (y m : Int) : paybookref01_Month.f k y m = some (Cal.mon y m) := by
  obtain ⟨k, rfl⟩ : ∃ j, k = j + 1 := ⟨k - 1, by omega⟩
  have hl : Cal.lp y = if Cal.leap y = true then 1 else 0 := rfl
  rcases mon_cases m with rfl | rfl | rfl | rfl | rfl | rfl | rfl | rfl | rfl | rfl | rfl | rfl | h | h
  all_goals first
    | (rw [Cal.mon_last y m (by omega)]
       unfold paybookref01_Month.f
       first
       | (rw [if_pos h]; simp [paybookref01_Month.j0])
       | (rw [if_neg (by omega), show decide (m > 12) = true from by simp; omega]; simp [paybookref01_Month.j0]))
    | (simp [paybookref01_Month.f, paybookref01_Month.j0, Cal.mon, rd, wrap64]; done)
    | (cases hb : Cal.leap y <;> simp [paybookref01_Month.f, paybookref01_Month.j0, Cal.mon, rleap_eq, hl, hb, rd, wrap64])

theorem of_months (y : Int) (e : Nat) : ∀ (k : Nat) (x m : Int), 1 ≤ m → m ≤ 12 → 12 - m = e → e + 4 ≤ k → 0 ≤ x → x < Cal.cum y 13 - Cal.cum y m →
    ∃ m' d, civil_Of.l1 k x y m = some (y, m', d, 0) ∧ 1 ≤ m' ∧ m' ≤ 12 ∧ 1 ≤ d ∧ d ≤ Cal.mon y m' ∧ Cal.cum y m' + d - 1 = Cal.cum y m + x := by
  induction e with
  | zero =>
    intro k x m h1 h2 h3 h4 h5 h6
    obtain ⟨k, rfl⟩ : ∃ j, k = j + 1 := ⟨k - 1, by omega⟩
    have h7 := Cal.cum_succ y m h1 h2
    have : m = 12 := by omega
    subst this
    have h9 := Cal.cum_bd y 12 (by omega) (by omega)
    rw [show (12 : Int) + 1 = 13 from rfl] at h7
    have h8 := Cal.mon_le y 12
    refine ⟨12, x + 1, ?_, by omega, by omega, by omega, by omega, by omega⟩
    simp only [civil_Of.l1]; rw [month_eq k (by omega)]; simp only [Option.bind_some]; rw [if_neg (by omega)]
    rw [show wrap64 (x + 1) = x + 1 from by unfold wrap64; omega]
  | succ e ih =>
    intro k x m h1 h2 h3 h4 h5 h6
    obtain ⟨k, rfl⟩ : ∃ j, k = j + 1 := ⟨k - 1, by omega⟩
    have h7 := Cal.cum_succ y m h1 h2
    have h8 := Cal.mon_le y m
    have h9 := Cal.cum_bd y m (by omega) (by omega)
    have h10 := Cal.cum_bd y 13 (by omega) (by omega)
    by_cases hx : Cal.mon y m ≤ x
    · obtain ⟨m', d, g1, g2, g3, g4, g5, g6⟩ := ih k (x - Cal.mon y m) (m + 1) (by omega) (by omega) (by omega) (by omega) (by omega) (by omega)
      refine ⟨m', d, ?_, g2, g3, g4, g5, by omega⟩
      simp only [civil_Of.l1]; rw [month_eq k (by omega)]; simp only [Option.bind_some]; rw [if_pos hx]
      rw [show wrap64 (x - Cal.mon y m) = x - Cal.mon y m from by unfold wrap64; omega, show wrap64 (m + 1) = m + 1 from by unfold wrap64; omega]
      exact g1
    · refine ⟨m, x + 1, ?_, by omega, by omega, by omega, by omega, by omega⟩
      simp only [civil_Of.l1]; rw [month_eq k (by omega)]; simp only [Option.bind_some]; rw [if_neg (by omega)]
      rw [show wrap64 (x + 1) = x + 1 from by unfold wrap64; omega]
theorem of_years (n : Int) (hn : n ≤ 3652058) (e : Nat) : ∀ (k : Nat) (y : Int), 1 ≤ y → y ≤ 9999 → 9999 - y = e → e + 40 ≤ k → Cal.bef y ≤ n →
    ∃ y' m d, civil_Of.l0 k n y = some (y', m, d, 0) ∧ Cal.valid y' m d ∧ Cal.num y' m d = n := by
  induction e with
  | zero =>
    intro k y h1 h2 h3 h4 h5
    obtain ⟨k, rfl⟩ : ∃ j, k = j + 1 := ⟨k - 1, by omega⟩
    have : y = 9999 := by omega
    subst this
    have hs := Cal.bef_succ 9999
    have hm := Cal.bef_max
    rw [show (9999 : Int) + 1 = 10000 from rfl] at hs
    have hg := Cal.bef_ge 9999 (by omega)
    obtain ⟨m', d, g1, g2, g3, g4, g5, g6⟩ := of_months 9999 11 k (n - Cal.bef 9999) 1 (by omega) (by omega) (by omega) (by omega) (by omega) (by rw [Cal.cum_one, Cal.cum_13]; omega)
    refine ⟨9999, m', d, ?_, ⟨by omega, by omega, g2, g3, g4, g5⟩, by rw [Cal.cum_one] at g6; unfold Cal.num; omega⟩
    simp only [civil_Of.l0]
    rw [show wrap64 ((9999 : Int) + 1) = 9999 + 1 from by unfold wrap64; omega, before_eq _ (by omega) (by omega)]; simp only [Option.bind_some]
    rw [if_neg (by rw [show (9999 : Int) + 1 = 10000 from rfl]; omega), before_eq _ (by omega) (by omega)]; simp only [Option.bind_some]
    rw [show wrap64 (n - Cal.bef 9999) = n - Cal.bef 9999 from by unfold wrap64; omega]
    exact g1
  | succ e ih =>
    intro k y h1 h2 h3 h4 h5
    obtain ⟨k, rfl⟩ : ∃ j, k = j + 1 := ⟨k - 1, by omega⟩
    have hs := Cal.bef_succ y
    have hg := Cal.bef_ge y (by omega)
    by_cases hx : Cal.bef (y + 1) ≤ n
    · obtain ⟨y', m, d, g1, g2⟩ := ih k (y + 1) (by omega) (by omega) (by omega) (by omega) hx
      refine ⟨y', m, d, ?_, g2⟩
      simp only [civil_Of.l0]
      rw [show wrap64 (y + 1) = y + 1 from by unfold wrap64; omega, before_eq _ (by omega) (by omega)]; simp only [Option.bind_some]
      rw [if_pos hx]; exact g1
    · obtain ⟨m', d, g1, g2, g3, g4, g5, g6⟩ := of_months y 11 k (n - Cal.bef y) 1 (by omega) (by omega) (by omega) (by omega) (by omega) (by rw [Cal.cum_one, Cal.cum_13]; omega)
      refine ⟨y, m', d, ?_, ⟨by omega, by omega, g2, g3, g4, g5⟩, by rw [Cal.cum_one] at g6; unfold Cal.num; omega⟩
      simp only [civil_Of.l0]
      rw [show wrap64 (y + 1) = y + 1 from by unfold wrap64; omega, before_eq _ (by omega) (by omega)]; simp only [Option.bind_some]
      rw [if_neg hx, before_eq _ (by omega) (by omega)]; simp only [Option.bind_some]
      rw [show wrap64 (n - Cal.bef y) = n - Cal.bef y from by unfold wrap64; omega]
      exact g1
theorem of_yes (k : Nat) (hk : 11000 ≤ k) (n : Int) (h0 : 0 ≤ n) (h1 : n ≤ 3652058) :
    ∃ y m d, civil_Of.f k n = some (y, m, d, 0) ∧ Cal.valid y m d ∧ Cal.num y m d = n := by
  obtain ⟨k, rfl⟩ : ∃ j, k = j + 1 := ⟨k - 1, by omega⟩
  obtain ⟨y, m, d, g1, g2⟩ := of_years n h1 (9999 - (n / 366 + 1)).toNat k (n / 366 + 1) (by omega) (by omega) (by omega) (by omega) (by have := Cal.bef_le (n / 366 + 1) (by omega); omega)
  refine ⟨y, m, d, ?_, g2⟩
  unfold civil_Of.f
  rw [if_neg (by omega), show decide (n > 3652058) = false from by simp; omega]
  simp only [civil_Of.j0]
  rw [if_neg (by simp), Int.tdiv_eq_ediv_of_nonneg h0, show wrap64 (wrap64 (n / 366) + 1) = n / 366 + 1 from by unfold wrap64; omega]
  exact g1
theorem of_no (k : Nat) (hk : 1 ≤ k) (n : Int) (h : n < 0 ∨ 3652058 < n) : civil_Of.f k n = some (0, 0, 0, 1) := by
  obtain ⟨k, rfl⟩ : ∃ j, k = j + 1 := ⟨k - 1, by omega⟩
  unfold civil_Of.f
  by_cases h0 : n < 0
  · rw [if_pos h0]; simp [civil_Of.j0]
  · rw [if_neg h0, show decide (n > 3652058) = true from by simp; omega]; simp [civil_Of.j0]

theorem rof_months (y : Int) (e : Nat) : ∀ (k : Nat) (x m : Int), 1 ≤ m → m ≤ 12 → 12 - m = e → e + 4 ≤ k → 0 ≤ x → x < Cal.cum y 13 - Cal.cum y m →
    ∃ m' d, paybookref01_Of.l1 k x y m 1 = some (y, m', d) ∧ 1 ≤ m' ∧ m' ≤ 12 ∧ 1 ≤ d ∧ d ≤ Cal.mon y m' ∧ Cal.cum y m' + d - 1 = Cal.cum y m + x := by
  induction e with
  | zero =>
    intro k x m h1 h2 h3 h4 h5 h6
    obtain ⟨k, rfl⟩ : ∃ j, k = j + 1 := ⟨k - 1, by omega⟩
    have h7 := Cal.cum_succ y m h1 h2
    have : m = 12 := by omega
    subst this
    have h9 := Cal.cum_bd y 12 (by omega) (by omega)
    rw [show (12 : Int) + 1 = 13 from rfl] at h7
    have h8 := Cal.mon_le y 12
    refine ⟨12, 1 + x, ?_, by omega, by omega, by omega, by omega, by omega⟩
    simp only [paybookref01_Of.l1]; rw [rmonth_eq k (by omega)]; simp only [Option.bind_some]; rw [if_neg (by omega)]
    rw [show wrap64 (1 + x) = 1 + x from by unfold wrap64; omega]
  | succ e ih =>
    intro k x m h1 h2 h3 h4 h5 h6
    obtain ⟨k, rfl⟩ : ∃ j, k = j + 1 := ⟨k - 1, by omega⟩
    have h7 := Cal.cum_succ y m h1 h2
    have h8 := Cal.mon_le y m
    have h9 := Cal.cum_bd y m (by omega) (by omega)
    have h10 := Cal.cum_bd y 13 (by omega) (by omega)
    by_cases hx : Cal.mon y m ≤ x
    · obtain ⟨m', d, g1, g2, g3, g4, g5, g6⟩ := ih k (x - Cal.mon y m) (m + 1) (by omega) (by omega) (by omega) (by omega) (by omega) (by omega)
      refine ⟨m', d, ?_, g2, g3, g4, g5, by omega⟩
      simp only [paybookref01_Of.l1]; rw [rmonth_eq k (by omega)]; simp only [Option.bind_some]; rw [if_pos hx]
      rw [show wrap64 (x - Cal.mon y m) = x - Cal.mon y m from by unfold wrap64; omega, show wrap64 (m + 1) = m + 1 from by unfold wrap64; omega]
      exact g1
    · refine ⟨m, 1 + x, ?_, by omega, by omega, by omega, by omega, by omega⟩
      simp only [paybookref01_Of.l1]; rw [rmonth_eq k (by omega)]; simp only [Option.bind_some]; rw [if_neg (by omega)]
      rw [show wrap64 (1 + x) = 1 + x from by unfold wrap64; omega]
theorem rof_head (k : Nat) (x y : Int) (hx : 0 ≤ x) (hx2 : x ≤ 4000000) (hy : 0 ≤ y) (hy2 : y ≤ 10000) :
    paybookref01_Of.l0 (k + 2) x y 1 1 = if 365 + Cal.lp y ≤ x then paybookref01_Of.l0 k (x - 365 - Cal.lp y) (y + 1) 1 1 else paybookref01_Of.l1 k x y 1 1 := by
  have hl : Cal.lp y = if Cal.leap y = true then 1 else 0 := rfl
  have w1 : wrap64 (y + 1) = y + 1 := by unfold wrap64; omega
  simp only [paybookref01_Of.l0, paybookref01_Of.j1, rleap_eq, Option.bind_some, w1]
  have w2 : wrap64 (x - 365) = x - 365 := by unfold wrap64; omega
  have w3 : wrap64 (x - 365 - 1) = x - 365 - 1 := by unfold wrap64; omega
  rw [w2, w3]
  cases hb : Cal.leap y <;> simp only [hb, if_true, Bool.false_eq_true, if_false] at hl <;> rw [hl] <;> simp only [Bool.not_true, Bool.not_false, if_true, Bool.false_eq_true, if_false]
  · by_cases h1 : 365 ≤ x
    · rw [if_pos h1, if_pos (show (365 : Int) + 0 ≤ x by omega), show x - 365 - 0 = x - 365 from by omega]
      split <;> rfl
    · rw [if_neg h1, if_neg (show ¬ (365 : Int) + 0 ≤ x by omega)]
  · by_cases h1 : 366 ≤ x
    · rw [if_pos (show x ≥ 365 by omega), if_pos (show x ≥ 366 by omega), if_pos (show (365 : Int) + 1 ≤ x by omega)]
    · rw [if_neg (show ¬ (365 : Int) + 1 ≤ x by omega)]
      by_cases h2 : 365 ≤ x
      · rw [if_pos h2, if_neg (show ¬ x ≥ 366 by omega)]
      · rw [if_neg h2]
theorem rof_years (n : Int) (hn : n ≤ 3652058) (e : Nat) : ∀ (k : Nat) (y : Int), 1 ≤ y → y ≤ 9999 → 9999 - y = e → 2 * e + 40 ≤ k → Cal.bef y ≤ n →
    ∃ y' m d, paybookref01_Of.l0 k (n - Cal.bef y) y 1 1 = some (y', m, d) ∧ Cal.valid y' m d ∧ Cal.num y' m d = n := by
  induction e with
  | zero =>
    intro k y h1 h2 h3 h4 h5
    obtain ⟨k, rfl⟩ : ∃ j, k = j + 2 := ⟨k - 2, by omega⟩
    have : y = 9999 := by omega
    subst this
    have hs := Cal.bef_succ 9999
    have hm := Cal.bef_max
    rw [show (9999 : Int) + 1 = 10000 from rfl] at hs
    have hg := Cal.bef_ge 9999 (by omega)
    obtain ⟨m', d, g1, g2, g3, g4, g5, g6⟩ := rof_months 9999 11 k (n - Cal.bef 9999) 1 (by omega) (by omega) (by omega) (by omega) (by omega) (by rw [Cal.cum_one, Cal.cum_13]; omega)
    refine ⟨9999, m', d, ?_, ⟨by omega, by omega, g2, g3, g4, g5⟩, by rw [Cal.cum_one] at g6; unfold Cal.num; omega⟩
    rw [rof_head k _ _ (by omega) (by omega) (by omega) (by omega), if_neg (by omega)]
    exact g1
  | succ e ih =>
    intro k y h1 h2 h3 h4 h5
    obtain ⟨k, rfl⟩ : ∃ j, k = j + 2 := ⟨k - 2, by omega⟩
    have hs := Cal.bef_succ y
    have hg := Cal.bef_ge y (by omega)
    rw [rof_head k _ _ (by omega) (by omega) (by omega) (by omega)]
    by_cases hx : Cal.bef (y + 1) ≤ n
    · rw [if_pos (by omega), show n - Cal.bef y - 365 - Cal.lp y = n - Cal.bef (y + 1) from by omega]
      exact ih k (y + 1) (by omega) (by omega) (by omega) (by omega) hx
    · rw [if_neg (by omega)]
      obtain ⟨m', d, g1, g2, g3, g4, g5, g6⟩ := rof_months y 11 k (n - Cal.bef y) 1 (by omega) (by omega) (by omega) (by omega) (by omega) (by rw [Cal.cum_one, Cal.cum_13]; omega)
      exact ⟨y, m', d, g1, ⟨by omega, by omega, g2, g3, g4, g5⟩, by rw [Cal.cum_one] at g6; unfold Cal.num; omega⟩
theorem rof_eq (k : Nat) (hk : 20100 ≤ k) (a y m d : Int) (hv : Cal.valid y m d) (ha : Cal.num y m d = a) : paybookref01_Of.f k a = some (y, m, d) := by
  have hr := Cal.num_range y m d hv
  have hb : Cal.bef (1 + 400 * (a / 146097)) = 146097 * (a / 146097) := by unfold Cal.bef; omega
  obtain ⟨y', m', d', g1, g2, g3⟩ := rof_years a (by omega) (9999 - (1 + 400 * (a / 146097))).toNat k (1 + 400 * (a / 146097)) (by omega) (by omega) (by omega) (by omega) (by omega)
  obtain ⟨rfl, rfl, rfl⟩ := Cal.num_inj _ _ _ _ _ _ g2 hv (g3.trans ha.symm)
  unfold paybookref01_Of.f
  rw [Int.tdiv_eq_ediv_of_nonneg (by omega)]
  rw [show wrap64 (a / 146097) = a / 146097 from by unfold wrap64; omega, show wrap64 (400 * (a / 146097)) = 400 * (a / 146097) from by unfold wrap64; omega,
    show wrap64 (146097 * (a / 146097)) = 146097 * (a / 146097) from by unfold wrap64; omega, show wrap64 (1 + 400 * (a / 146097)) = 1 + 400 * (a / 146097) from by unfold wrap64; omega,
    show wrap64 (a - 146097 * (a / 146097)) = a - 146097 * (a / 146097) from by unfold wrap64; omega]
  rw [hb] at g1
  exact g1

theorem dec_two (i : Nat) (h : i < 100) : (if i < 10 then [48] else []) ++ Lib.decDigits i = Txt.t2 i := by
  unfold Txt.t2 Txt.dg
  by_cases h1 : i < 10
  · rw [Lib.decDigits_one h1, if_pos h1]
    have e1 : ((i : Int) / 10 % 10).toNat = 0 := by omega
    have e2 : ((i : Int) % 10).toNat = i := by omega
    rw [e1, e2]; rfl
  · rw [Lib.decDigits_two h1 h, if_neg h1]
    have e1 : ((i : Int) / 10 % 10).toNat = i / 10 := by omega
    have e2 : ((i : Int) % 10).toNat = i % 10 := by omega
    rw [e1, e2]; rfl
theorem dec_len2 (i : Nat) (h : i < 100) : (Lib.decDigits i).length ≤ 2 := by
  by_cases h1 : i < 10
  · rw [Lib.decDigits_one h1]; simp
  · rw [Lib.decDigits_two h1 h]; simp
set_option maxHeartbeats 4000000 in
theorem ctwo_calls (n : Int) (w : World) (h0 : 0 ≤ n) (h1 : n < 100) :
    Calls Tryd.prog 78 #[.int .i64 n] w fun e w' => e = .returned (.string ⟨(Txt.t2 n).toArray⟩) ∧ w' = w := by
  obtain ⟨i, rfl⟩ := Int.eq_ofNat_of_zero_le h0
  have hi : i < 100 := by omega
  have HD := Aside0.mk (dec_two i hi)
  have hl := dec_len2 i hi
  by_cases h : i < 10
  · go_enter Tryd.func78, Tryd.ntmps78
    go_wp2_with fail
    with_reducible refine (Tryd.strconv_Itoa_small i hi _).mono ?_
    rintro e w' ⟨rfl, rfl⟩
    go_wp2_with fail
    go_ret
    exact ⟨ret_str (by have := HD.out; rw [if_pos h] at this; rw [← this]; exact str_app [48] _), rfl⟩
  · go_enter Tryd.func78, Tryd.ntmps78
    go_wp2_with fail
    with_reducible refine (Tryd.strconv_Itoa_small i hi _).mono ?_
    rintro e w' ⟨rfl, rfl⟩
    go_wp2_with fail
    go_ret
    exact ⟨ret_str (by have := HD.out; rw [if_neg h] at this; rw [← this]; rfl), rfl⟩

theorem dec_four (i : Nat) (h : i < 10000) : ∃ j, j + (Lib.decDigits i).length = 4 ∧ List.replicate j 48 ++ Lib.decDigits i = Txt.t2 ((i : Int) / 100) ++ Txt.t2 i := by
  unfold Txt.t2 Txt.dg
  have step : ∀ u : Nat, ¬ u < 10 → Lib.decDigits u = Lib.decDigits (u / 10) ++ [UInt8.ofNat (48 + u % 10)] := by
    intro u hu
    rw [Lib.decDigits, dif_neg hu]
  have e1 : ((i : Int) / 100 / 10 % 10).toNat = i / 1000 := by omega
  have e2 : ((i : Int) / 100 % 10).toNat = i / 100 % 10 := by omega
  have e3 : ((i : Int) / 10 % 10).toNat = i / 10 % 10 := by omega
  have e4 : ((i : Int) % 10).toNat = i % 10 := by omega
  rw [e1, e2, e3, e4]
  by_cases h1 : i < 10
  · refine ⟨3, ?_, ?_⟩
    · rw [Lib.decDigits_one h1]; rfl
    · rw [Lib.decDigits_one h1, show i / 1000 = 0 by omega, show i / 100 % 10 = 0 by omega, show i / 10 % 10 = 0 by omega, show i % 10 = i by omega]; rfl
  · by_cases h2 : i < 100
    · refine ⟨2, ?_, ?_⟩
      · rw [Lib.decDigits_two h1 h2]; rfl
      · rw [Lib.decDigits_two h1 h2, show i / 1000 = 0 by omega, show i / 100 % 10 = 0 by omega, show i / 10 % 10 = i / 10 by omega]; rfl
    · by_cases h3 : i < 1000
      · refine ⟨1, ?_, ?_⟩
        · rw [step i h1, Lib.decDigits_two (by omega) (by omega)]; rfl
        · rw [step i h1, Lib.decDigits_two (by omega) (by omega), show i / 1000 = 0 by omega, show i / 100 % 10 = i / 10 / 10 by omega]; rfl
      · refine ⟨0, ?_, ?_⟩
        · rw [step i h1, step (i / 10) (by omega), Lib.decDigits_two (by omega) (by omega)]; rfl
        · rw [step i h1, step (i / 10) (by omega), Lib.decDigits_two (by omega) (by omega), show i / 1000 = i / 10 / 10 / 10 by omega, show i / 100 % 10 = i / 10 / 10 % 10 by omega]; rfl

theorem itoa_calls (n : Int) (w : World) (h0 : 0 ≤ n) (h1 : n ≤ 9223372036854775807) (ht : TB w) :
    Calls Tryd.prog 27 #[.int .i64 n] w fun e w' => e = .returned (.string ⟨(Lib.decDigits n.toNat).toArray⟩) ∧ Below w.heap.size w w' := by
  refine (Tryd.strconv_Itoa n (by omega) h1 w (ht w (Below.refl _ _))).mono ?_
  rintro e w' ⟨rfl, k, os, rfl⟩
  refine ⟨?_, Lib.below_grow _ w (Nat.le_refl _) k os⟩
  unfold Lib.itoa; rw [if_neg (by omega)]
theorem str_rep (a : Nat) (l : List UInt8) : ((⟨#[48]⟩ : ByteArray) ++ (⟨(List.replicate a 48 ++ l).toArray⟩ : ByteArray)) = ⟨(List.replicate (a + 1) 48 ++ l).toArray⟩ := by
  rw [show (⟨#[48]⟩ : ByteArray) = ⟨([48] : List UInt8).toArray⟩ from rfl, str_app, List.replicate_succ]; rfl
set_option maxHeartbeats 4000000 in
theorem text_calls (y m d : Int) (w : World) (hv : Cal.valid y m d) (ht : TB w) :
    Calls Tryd.prog 52 #[.agg #[.int .i64 y, .int .i64 m, .int .i64 d]] w fun e w' => e = .returned (.string ⟨(Txt.txt y m d).toArray⟩) ∧ Below w.heap.size w w' := by
  obtain ⟨h1, h2, h3, h4, h5, h6⟩ := hv
  have hmo := Cal.mon_le y m
  obtain ⟨j, hj, hd4⟩ := dec_four y.toNat (by omega)
  rw [show ((y.toNat : Nat) : Int) = y by omega] at hd4
  have hj1 : j + (Lib.decDigits y.toNat).length ≤ 4 := by omega
  have hj2 : 4 ≤ j + (Lib.decDigits y.toNat).length := by omega
  have HT := Aside0.mk ht
  have HD := Aside0.mk hd4
  clear ht hd4 hj
  go_enter Tryd.func52, Tryd.ntmps52
  go_wp2_with fail
  with_reducible refine (itoa_calls y _ (by omega) (by omega) (HT.out.step (below_alloc (Below.refl _ _) _))).mono ?_
  rintro e w1 ⟨rfl, hb⟩
  have B1 := Aside0.mk (blk_below (blk_new w (.cells #[.int .i64 y, .int .i64 m, .int .i64 d] 66)) hb)
  have GB : Aside0 (Below w.heap.size w w1) := ⟨below_step (below_alloc (Below.refl _ _) _) hb⟩
  clear hb
  generalize Lib.decDigits y.toNat = dd at HD hj1 hj2 ⊢
  go_wp2_with fail
  go_loopg [3] j (fun kq t3 wr => ∃ a : Nat, t3 = .string ⟨(List.replicate a 48 ++ dd).toArray⟩ ∧ a ≤ j ∧ Aside0 (j - a ≤ kq) ∧ Aside0 (wr.heap[w.heap.size]? = some (.cells #[.int .i64 y, .int .i64 m, .int .i64 d] 66 (0, 0))) ∧ Aside0 (Below w.heap.size w wr))
  case atStart => exact ⟨0, rfl, by omega, ⟨by omega⟩, B1, GB⟩
  case round =>
    obtain ⟨a, rfl, ha, HM, C1, HB⟩ := hrel
    clear B1 GB
    by_cases hlt : a < j
    · go_wp2_with fail
      go_roundg (j - (a + 1))
      case measure => have := HM.out; omega
      case rel => exact ⟨a + 1, by rw [← str_rep], by omega, ⟨Nat.le_refl _⟩, C1, HB⟩
    · have hja : a = j := by omega
      subst hja
      rw [HD.out]
      have hl4 : (Txt.t2 (y / 100) ++ Txt.t2 y).length ≤ 4 := by simp [Txt.t2]
      have hl5 : 4 ≤ (Txt.t2 (y / 100) ++ Txt.t2 y).length := by simp [Txt.t2]
      have hl6 : (Txt.t2 m).length ≤ 2 := by simp [Txt.t2]
      have hl7 : (Txt.t2 d).length ≤ 2 := by simp [Txt.t2]
      obtain ⟨Y, hY⟩ : ∃ Y, Y = Txt.t2 (y / 100) ++ Txt.t2 y := ⟨_, rfl⟩
      rw [← hY] at hl4 hl5 ⊢
      have HY := Aside0.mk hY
      clear hY HD
      have s1 : ¬ 9223372036854775807 < Y.length + 1 := by omega
      have s2 : ¬ 9223372036854775807 < Y.length + 1 + (Txt.t2 m).length := by omega
      have s3 : ¬ 9223372036854775807 < Y.length + 1 + (Txt.t2 m).length + 1 := by omega
      have s4 : ¬ 9223372036854775807 < Y.length + 1 + (Txt.t2 m).length + 1 + (Txt.t2 d).length := by omega
      have k1 : wr.cell? ⟨w.heap.size, 1, none⟩ = some (.int .i64 m) := (blk_cell C1.out 1).trans rfl
      have k2 : wr.cell? ⟨w.heap.size, 2, none⟩ = some (.int .i64 d) := (blk_cell C1.out 2).trans rfl
      go_wp2_with fail
      go_region_held3 (fun w' => w'.cell? ⟨w.heap.size, 1, none⟩ = some (.int .i64 m) ∧ w'.cell? ⟨w.heap.size, 2, none⟩ = some (.int .i64 d)) (go_keep) (first | (go_at_call_of 78 (Value.int .i64 m); refine (ctwo_calls m _ (by omega) (by omega)).mono ?_; rintro e w' ⟨rfl, rfl⟩) | (go_at_call_of 78 (Value.int .i64 d); refine (ctwo_calls d _ (by omega) (by omega)).mono ?_; rintro e w' ⟨rfl, rfl⟩))
      all_goals
        go_wp2_with fail
        go_ret
        refine ⟨ret_str ?_, below_drew1 HB.out⟩
        rw [show (⟨#[45]⟩ : ByteArray) = ⟨([45] : List UInt8).toArray⟩ from rfl, str_app, str_app, str_app, str_app, HY.out]
        rfl

theorem rtwo_calls (n : Int) (w : World) (h0 : 0 ≤ n) (h1 : n ≤ 9999) :
    Calls Tryd.prog 24 #[.int .i64 n] w fun e w' => e = .returned (.string ⟨(Txt.t2 n).toArray⟩) ∧ Below w.heap.size w w' :=
  two_calls n w h0 h1
set_option maxHeartbeats 8000000 in
theorem rtext_calls (y m d : Int) (w : World) (hv : Cal.valid y m d) :
    Calls Tryd.prog 25 #[.agg #[.int .i64 y, .int .i64 m, .int .i64 d]] w fun e w' => e = .returned (.string ⟨(Txt.txt y m d).toArray⟩) ∧ Below w.heap.size w w' := by
  obtain ⟨h1, h2, h3, h4, h5, h6⟩ := hv
  have hmo := Cal.mon_le y m
  have hl4 : (Txt.t2 (y / 100)).length = 2 := by simp [Txt.t2]
  have hl5 : (Txt.t2 y).length = 2 := by simp [Txt.t2]
  have hl6 : (Txt.t2 m).length = 2 := by simp [Txt.t2]
  have hl7 : (Txt.t2 d).length = 2 := by simp [Txt.t2]
  have s1 : ¬ 9223372036854775807 < (Txt.t2 (y / 100)).length + (Txt.t2 y).length := by omega
  have s2 : ¬ 9223372036854775807 < (Txt.t2 (y / 100)).length + (Txt.t2 y).length + 1 := by omega
  have s3 : ¬ 9223372036854775807 < (Txt.t2 (y / 100)).length + (Txt.t2 y).length + 1 + (Txt.t2 m).length := by omega
  have s4 : ¬ 9223372036854775807 < (Txt.t2 (y / 100)).length + (Txt.t2 y).length + 1 + (Txt.t2 m).length + 1 := by omega
  have s5 : ¬ 9223372036854775807 < (Txt.t2 (y / 100)).length + (Txt.t2 y).length + 1 + (Txt.t2 m).length + 1 + (Txt.t2 d).length := by omega
  have e1 : IntKind.i64.wrap (Int.tdiv y 100) = y / 100 := by
    rw [Int.tdiv_eq_ediv_of_nonneg (by omega)]; rw [IntKind.wrap_i64]; omega
  have HE := Aside0.mk e1
  clear hl4 hl5 hl6 hl7 e1
  go_enter Tryd.func25, Tryd.ntmps25
  go_wp2_with fail
  go_region_held3 (fun w' => w'.cell? ⟨w.heap.size, 0, none⟩ = some (.int .i64 y) ∧ w'.cell? ⟨w.heap.size, 1, none⟩ = some (.int .i64 m) ∧ w'.cell? ⟨w.heap.size, 2, none⟩ = some (.int .i64 d)) (go_keep) (first
    | (go_at_call_of 24 (Value.int .i64 (y)); with_reducible refine (rtwo_calls (y) _ (by omega) (by omega)).mono ?_; rintro e w2 ⟨rfl, hb2⟩; have k2_0 : w2.cell? ⟨w.heap.size, 0, none⟩ = some (.int .i64 y) := pw_cell_below hb2 (by first | assumption | go_keep); have k2_1 : w2.cell? ⟨w.heap.size, 1, none⟩ = some (.int .i64 m) := pw_cell_below hb2 (by first | assumption | go_keep); have k2_2 : w2.cell? ⟨w.heap.size, 2, none⟩ = some (.int .i64 d) := pw_cell_below hb2 (by first | assumption | go_keep))
    | (go_at_call_of 24 (Value.int .i64 (m)); with_reducible refine (rtwo_calls (m) _ (by omega) (by omega)).mono ?_; rintro e w3 ⟨rfl, hb3⟩; have k3_0 : w3.cell? ⟨w.heap.size, 0, none⟩ = some (.int .i64 y) := pw_cell_below hb3 (by first | assumption | go_keep); have k3_1 : w3.cell? ⟨w.heap.size, 1, none⟩ = some (.int .i64 m) := pw_cell_below hb3 (by first | assumption | go_keep); have k3_2 : w3.cell? ⟨w.heap.size, 2, none⟩ = some (.int .i64 d) := pw_cell_below hb3 (by first | assumption | go_keep))
    | (go_at_call_of 24 (Value.int .i64 (d)); with_reducible refine (rtwo_calls (d) _ (by omega) (by omega)).mono ?_; rintro e w4 ⟨rfl, hb4⟩; have k4_0 : w4.cell? ⟨w.heap.size, 0, none⟩ = some (.int .i64 y) := pw_cell_below hb4 (by first | assumption | go_keep); have k4_1 : w4.cell? ⟨w.heap.size, 1, none⟩ = some (.int .i64 m) := pw_cell_below hb4 (by first | assumption | go_keep); have k4_2 : w4.cell? ⟨w.heap.size, 2, none⟩ = some (.int .i64 d) := pw_cell_below hb4 (by first | assumption | go_keep))
    | (go_at_call 24; rw [HE.out]; with_reducible refine (rtwo_calls (y / 100) _ (by omega) (by omega)).mono ?_; rintro e w1 ⟨rfl, hb1⟩; have k1_0 : w1.cell? ⟨w.heap.size, 0, none⟩ = some (.int .i64 y) := pw_cell_below hb1 (by first | assumption | go_keep); have k1_1 : w1.cell? ⟨w.heap.size, 1, none⟩ = some (.int .i64 m) := pw_cell_below hb1 (by first | assumption | go_keep); have k1_2 : w1.cell? ⟨w.heap.size, 2, none⟩ = some (.int .i64 d) := pw_cell_below hb1 (by first | assumption | go_keep)))
  have GB : Aside0 (Below w.heap.size w w4) := ⟨below_step (below_step (below_step (below_step (below_drew1 (below_alloc (Below.refl _ _) _)) hb1) hb2) hb3) hb4⟩
  clear hb1 hb2 hb3 hb4
  go_wp2_with fail
  go_ret
  refine ⟨ret_str ?_, GB.out⟩
  rw [show (⟨#[45]⟩ : ByteArray) = ⟨([45] : List UInt8).toArray⟩ from rfl, str_app, str_app, str_app, str_app, str_app]
  rfl
/-- What is written for a day. -/
theorem day_both (n : Int) : ∃ t : ByteArray, t.size ≤ 10 ∧ (∀ w, TB w → Calls Tryd.prog 28 #[.int .i64 n] w fun e w' => e = .returned (.string t) ∧ Below w.heap.size w w') ∧ (∀ w, Calls Tryd.prog 13 #[.int .i64 n] w fun e w' => e = .returned (.string t) ∧ Below w.heap.size w w') := by
  by_cases hr : 0 ≤ n ∧ n ≤ 3652058
  · obtain ⟨y, m, d, hf, hv, hn⟩ := of_yes 11000 (by omega) n hr.1 hr.2
    refine ⟨⟨(Txt.txt y m d).toArray⟩, by show (Txt.txt y m d).toArray.size ≤ 10; simp [Txt.txt, Txt.t2], ?_, ?_⟩
    · intro w ht
      have HT := Aside0.mk ht
      have HV := Aside0.mk hv
      have HF := Aside0.mk hf
      clear ht hv hf hn
      go_enter Tryd.func28, Tryd.ntmps28
      go_wp2_with fail
      with_reducible refine (civil_Of.calls 11000 n y m d 0 _ HF.out).mono ?_
      rintro e w1 ⟨rfl, hb⟩
      have GB := Aside0.mk hb
      clear hb
      go_wp2_with fail
      with_reducible refine (text_calls y m d _ HV.out (HT.out.step (by exact below_alloc GB.out _))).mono ?_
      rintro e w2 ⟨rfl, hb⟩
      have GB := Aside0.mk (below_step (below_alloc GB.out _) hb)
      clear hb
      go_wp2_with fail
      go_ret
      exact ⟨rfl, GB.out⟩
    · intro w
      have HV := Aside0.mk hv
      have HF := Aside0.mk (rof_eq 20100 (by omega) n y m d hv hn)
      clear hv hf hn
      have hq1 : decide (n < 0) = false := decide_eq_false (by omega)
      have hq2 : decide (n > 3652058) = false := decide_eq_false (by omega)
      go_enter Tryd.func13, Tryd.ntmps13
      go_wp2_with fail
      with_reducible refine (paybookref01_Of.calls 20100 n y m d _ HF.out).mono ?_
      rintro e w1 ⟨rfl, hb⟩
      have GB := Aside0.mk hb
      clear hb
      go_wp2_with fail
      with_reducible refine (rtext_calls y m d _ HV.out).mono ?_
      rintro e w2 ⟨rfl, hb⟩
      have GB := Aside0.mk (below_step GB.out hb)
      clear hb
      go_wp2_with fail
      go_ret
      exact ⟨rfl, GB.out⟩
  · have hf := of_no 1 (by omega) n (by omega)
    refine ⟨⟨#[45]⟩, by decide, ?_, ?_⟩
    · intro w ht
      have HF := Aside0.mk hf
      clear ht hf
      go_enter Tryd.func28, Tryd.ntmps28
      go_wp2_with fail
      with_reducible refine (civil_Of.calls 1 n 0 0 0 1 _ HF.out).mono ?_
      rintro e w1 ⟨rfl, hb⟩
      have GB := Aside0.mk hb
      clear hb
      go_wp2_with fail
      go_ret
      exact ⟨rfl, below_alloc GB.out _⟩
    · intro w
      clear hf
      by_cases h0 : n < 0
      · have hq1 : decide (n < 0) = true := decide_eq_true h0
        go_enter Tryd.func13, Tryd.ntmps13
        go_wp2_with fail
        go_ret
        exact ⟨rfl, Below.refl _ _⟩
      · have hq1 : decide (n < 0) = false := decide_eq_false h0
        have hq2 : decide (n > 3652058) = true := decide_eq_true (by omega)
        go_enter Tryd.func13, Tryd.ntmps13
        go_wp2_with fail
        go_ret
        exact ⟨rfl, Below.refl _ _⟩
/-- What is written for a number. -/
theorem num_both (n : Int) (h0 : -4611686018427387904 ≤ n) (h1 : n ≤ 4611686018427387904) : ∃ t : ByteArray, t.size ≤ 20 ∧ (∀ w, TB w → Calls Tryd.prog 27 #[.int .i64 n] w fun e w' => e = .returned (.string t) ∧ Below w.heap.size w w') ∧ (∀ w, Calls Tryd.prog 12 #[.int .i64 n] w fun e w' => e = .returned (.string t) ∧ Below w.heap.size w w') := by
  refine ⟨⟨(Lib.itoa n).toArray⟩, ?_, ?_, ?_⟩
  · show (Lib.itoa n).toArray.size ≤ 20
    unfold Lib.itoa
    by_cases h : n < 0
    · rw [if_pos h]
      have := dgs_len (-n) (by omega) (by omega)
      unfold dgs at this
      rw [show (-n).toNat = n.natAbs by omega] at this
      simp; omega
    · rw [if_neg h]
      have := dgs_len n (by omega) (by omega)
      unfold dgs at this
      simp; omega
  · intro w ht
    refine (Tryd.strconv_Itoa n (by omega) (by omega) w (ht w (Below.refl _ _))).mono ?_
    rintro e w' ⟨rfl, k, os, rfl⟩
    exact ⟨rfl, Lib.below_grow _ w (Nat.le_refl _) k os⟩
  · intro w
    by_cases h : n < 0
    · have hl := dgs_len (-n) (by omega) (by omega)
      have hs1 : (B (dgs (-n))).size = (dgs (-n)).length := B_size _
      go_enter Tryd.func12, Tryd.ntmps12
      go_wp2_with fail
      with_reducible refine (num_calls _ _ (by omega) (by omega)).mono ?_
      rintro e w1 ⟨rfl, hb⟩
      have GB := Aside0.mk hb
      clear hb
      go_wp2_with fail
      go_ret
      refine ⟨ret_str ?_, GB.out⟩
      rw [show (⟨#[45]⟩ : ByteArray) = B [45] from rfl, B_app]
      unfold Lib.itoa dgs
      rw [if_pos h, show (-n).toNat = n.natAbs by omega]
      rfl
    · refine (num_calls n w (by omega) (by omega)).mono ?_
      rintro e w' ⟨rfl, hb⟩
      refine ⟨ret_str ?_, hb⟩
      unfold Lib.itoa dgs
      rw [if_neg h]
      rfl
/-- What is written for an amount. -/
theorem mny_both (n : Int) (h0 : -4611686018427387904 ≤ n) (h1 : n ≤ 4611686018427387904) : ∃ t : ByteArray, t.size ≤ 23 ∧ (∀ w, TB w → Calls Tryd.prog 9 #[.int .i64 n] w fun e w' => e = .returned (.string t) ∧ Below w.heap.size w w') ∧ (∀ w, Calls Tryd.prog 11 #[.int .i64 n] w fun e w' => e = .returned (.string t) ∧ Below w.heap.size w w') := by
  refine ⟨B (mny n), ?_, fun w ht => money_calls n w (by omega) (by omega) ht, fun w => lmoney_calls n w h0 h1⟩
  rw [B_size]
  unfold mny
  by_cases h : n < 0
  · rw [if_pos h]; have := mny0_len (-n) (by omega) (by omega); simp only [List.length_cons]; omega
  · rw [if_neg h]; have := mny0_len n (by omega) (by omega); omega
/-- What is written for a phase. -/
theorem name_both (p : Int) (h0 : 0 ≤ p) (h1 : p ≤ 255) : ∃ t : ByteArray, t.size ≤ 10 ∧ (∀ w, Calls Tryd.prog 14 #[.int .u8 p] w fun e w' => e = .returned (.string t) ∧ Below w.heap.size w w') := by
  have key : ∃ t : ByteArray, t.size ≤ 10 ∧ cycle_Name.f p = some t := by
    unfold cycle_Name.f
    rcases (show p = 0 ∨ p = 1 ∨ p = 2 ∨ p = 3 ∨ p = 4 ∨ p = 5 ∨ p = 6 ∨ p = 7 ∨ p = 8 ∨ p = 9 ∨ p = 10 ∨ 11 ≤ p by omega) with rfl | rfl | rfl | rfl | rfl | rfl | rfl | rfl | rfl | rfl | rfl | h
    all_goals first
      | (rw [if_pos (by omega), if_pos (by omega)]; exact ⟨_, by decide, rfl⟩)
      | exact ⟨_, by decide, rfl⟩
      | (refine ⟨_, ?_, rfl⟩; decide)
  obtain ⟨t, ht, hf⟩ := key
  exact ⟨t, ht, fun w => cycle_Name.calls p t w hf⟩
/-- What is written for a cycle, out of what is written for its parts. -/
def line (t1 t2 t3 t4 t5 : ByteArray) (b : Bool) : ByteArray := if b then t1 ++ (⟨#[32, 111, 102, 32]⟩ : ByteArray) ++ t2 ++ (⟨#[58, 32]⟩ : ByteArray) ++ t3 ++ (⟨#[32]⟩ : ByteArray) ++ t4 ++ ((⟨#[32, 116, 105, 108, 108, 32]⟩ : ByteArray) ++ t5) else t1 ++ (⟨#[32, 111, 102, 32]⟩ : ByteArray) ++ t2 ++ (⟨#[58, 32]⟩ : ByteArray) ++ t3 ++ (⟨#[32]⟩ : ByteArray) ++ t4
set_option maxHeartbeats 8000000 in
set_option maxRecDepth 20000 in
theorem line_calls (no due ph am us tr nx : Int) (gd : Bool) (t1 t2 t3 t4 t5 : ByteArray) (w : World) (ht : TB w) (b2 : 0 ≤ ph ∧ ph ≤ 255)
    (q1 : t1.size ≤ 20) (q2 : t2.size ≤ 10) (q3 : t3.size ≤ 10) (q4 : t4.size ≤ 23) (q5 : t5.size ≤ 10)
    (T1 : Aside0 ((∀ w, TB w → Calls Tryd.prog 27 #[.int .i64 no] w fun e w' => e = .returned (.string t1) ∧ Below w.heap.size w w') ∧ True)) (T2 : Aside0 ((∀ w, TB w → Calls Tryd.prog 28 #[.int .i64 due] w fun e w' => e = .returned (.string t2) ∧ Below w.heap.size w w') ∧ True)) (T3 : Aside0 (∀ w, Calls Tryd.prog 14 #[.int .u8 ph] w fun e w' => e = .returned (.string t3) ∧ Below w.heap.size w w')) (T4 : Aside0 ((∀ w, TB w → Calls Tryd.prog 9 #[.int .i64 am] w fun e w' => e = .returned (.string t4) ∧ Below w.heap.size w w') ∧ True)) (T5 : Aside0 ((∀ w, TB w → Calls Tryd.prog 28 #[.int .i64 nx] w fun e w' => e = .returned (.string t5) ∧ Below w.heap.size w w') ∧ True)) :
    Calls Tryd.prog 15 #[.agg #[.int .i64 no, .int .i64 due, .int .u8 ph, .int .i64 am, .int .i64 us, .int .i64 tr, .int .i64 nx, .bool gd]] w fun e w' => e = .returned (.string (line t1 t2 t3 t4 t5 (ph == 2))) ∧ Below w.heap.size w w' := by
  have HT := Aside0.mk ht
  clear ht
  have s2 : ¬ 9223372036854775807 < t1.size + 4 := by omega
  have s3 : ¬ 9223372036854775807 < t1.size + 4 + t2.size := by omega
  have s4 : ¬ 9223372036854775807 < t1.size + 4 + t2.size + 2 := by omega
  have s5 : ¬ 9223372036854775807 < t1.size + 4 + t2.size + 2 + t3.size := by omega
  have s6 : ¬ 9223372036854775807 < t1.size + 4 + t2.size + 2 + t3.size + 1 := by omega
  have s7 : ¬ 9223372036854775807 < t1.size + 4 + t2.size + 2 + t3.size + 1 + t4.size := by omega
  have s8 : ¬ 9223372036854775807 < 6 + t5.size := by omega
  have s9 : ¬ 9223372036854775807 < t1.size + 4 + t2.size + 2 + t3.size + 1 + t4.size + (6 + t5.size) := by omega
  clear q1 q2 q3 q4 q5
  go_enter Tryd.func15, Tryd.ntmps15
  go_wp2_with fail
  go_region_held3 (fun w' => w'.cell? ⟨w.heap.size, 0, none⟩ = some (.int .i64 no) ∧ w'.cell? ⟨w.heap.size, 1, none⟩ = some (.int .i64 due) ∧ w'.cell? ⟨w.heap.size, 2, none⟩ = some (.int .u8 ph) ∧ w'.cell? ⟨w.heap.size, 3, none⟩ = some (.int .i64 am) ∧ w'.cell? ⟨w.heap.size, 6, none⟩ = some (.int .i64 nx)) (go_keep) (first
    | (go_at_call_of 27 (Value.int .i64 no); with_reducible refine (T1.out.1 _ (HT.out.step (below_drew1 (below_alloc (Below.refl _ _) _)))).mono ?_; rintro e w1 ⟨rfl, hb1⟩; have g1 : Aside0 (Below w.heap.size w w1) := ⟨below_step (below_drew1 (below_alloc (Below.refl _ _) _)) hb1⟩; have k1_0 : w1.cell? ⟨w.heap.size, 0, none⟩ = some (.int .i64 no) := pw_cell_below hb1 (by first | assumption | go_keep); have k1_1 : w1.cell? ⟨w.heap.size, 1, none⟩ = some (.int .i64 due) := pw_cell_below hb1 (by first | assumption | go_keep); have k1_2 : w1.cell? ⟨w.heap.size, 2, none⟩ = some (.int .u8 ph) := pw_cell_below hb1 (by first | assumption | go_keep); have k1_3 : w1.cell? ⟨w.heap.size, 3, none⟩ = some (.int .i64 am) := pw_cell_below hb1 (by first | assumption | go_keep); have k1_6 : w1.cell? ⟨w.heap.size, 6, none⟩ = some (.int .i64 nx) := pw_cell_below hb1 (by first | assumption | go_keep))
    | (go_at_call_of 28 (Value.int .i64 due); with_reducible refine (T2.out.1 _ (HT.out.step g1.out)).mono ?_; rintro e w2 ⟨rfl, hb2⟩; have g2 : Aside0 (Below w.heap.size w w2) := ⟨below_step g1.out hb2⟩; have k2_0 : w2.cell? ⟨w.heap.size, 0, none⟩ = some (.int .i64 no) := pw_cell_below hb2 (by first | assumption | go_keep); have k2_1 : w2.cell? ⟨w.heap.size, 1, none⟩ = some (.int .i64 due) := pw_cell_below hb2 (by first | assumption | go_keep); have k2_2 : w2.cell? ⟨w.heap.size, 2, none⟩ = some (.int .u8 ph) := pw_cell_below hb2 (by first | assumption | go_keep); have k2_3 : w2.cell? ⟨w.heap.size, 3, none⟩ = some (.int .i64 am) := pw_cell_below hb2 (by first | assumption | go_keep); have k2_6 : w2.cell? ⟨w.heap.size, 6, none⟩ = some (.int .i64 nx) := pw_cell_below hb2 (by first | assumption | go_keep))
    | (go_at_call_of 14 (Value.int .u8 ph); with_reducible refine (T3.out _).mono ?_; rintro e w3 ⟨rfl, hb3⟩; have g3 : Aside0 (Below w.heap.size w w3) := ⟨below_step g2.out hb3⟩; have k3_0 : w3.cell? ⟨w.heap.size, 0, none⟩ = some (.int .i64 no) := pw_cell_below hb3 (by first | assumption | go_keep); have k3_1 : w3.cell? ⟨w.heap.size, 1, none⟩ = some (.int .i64 due) := pw_cell_below hb3 (by first | assumption | go_keep); have k3_2 : w3.cell? ⟨w.heap.size, 2, none⟩ = some (.int .u8 ph) := pw_cell_below hb3 (by first | assumption | go_keep); have k3_3 : w3.cell? ⟨w.heap.size, 3, none⟩ = some (.int .i64 am) := pw_cell_below hb3 (by first | assumption | go_keep); have k3_6 : w3.cell? ⟨w.heap.size, 6, none⟩ = some (.int .i64 nx) := pw_cell_below hb3 (by first | assumption | go_keep))
    | (go_at_call_of 9 (Value.int .i64 am); with_reducible refine (T4.out.1 _ (HT.out.step g3.out)).mono ?_; rintro e w4 ⟨rfl, hb4⟩; have g4 : Aside0 (Below w.heap.size w w4) := ⟨below_step g3.out hb4⟩; have k4_0 : w4.cell? ⟨w.heap.size, 0, none⟩ = some (.int .i64 no) := pw_cell_below hb4 (by first | assumption | go_keep); have k4_1 : w4.cell? ⟨w.heap.size, 1, none⟩ = some (.int .i64 due) := pw_cell_below hb4 (by first | assumption | go_keep); have k4_2 : w4.cell? ⟨w.heap.size, 2, none⟩ = some (.int .u8 ph) := pw_cell_below hb4 (by first | assumption | go_keep); have k4_3 : w4.cell? ⟨w.heap.size, 3, none⟩ = some (.int .i64 am) := pw_cell_below hb4 (by first | assumption | go_keep); have k4_6 : w4.cell? ⟨w.heap.size, 6, none⟩ = some (.int .i64 nx) := pw_cell_below hb4 (by first | assumption | go_keep)))
  have B4 : Aside0 (w4.heap[w.heap.size]? = some (.cells #[.int .i64 no, .int .i64 due, .int .u8 ph, .int .i64 am, .int .i64 us, .int .i64 tr, .int .i64 nx, .bool gd] 32 (0, 0))) := ⟨blk_below (blk_below (blk_below (blk_below (blk_drew (blk_new w _)) hb1) hb2) hb3) hb4⟩
  clear hb1 hb2 hb3 hb4 g1 g2 g3
  by_cases hp : ph = 2
  · have hpb : (ph == 2) = true := by rw [hp]; rfl
    go_wp2_with fail
    with_reducible refine (T5.out.1 _ (HT.out.step g4.out)).mono ?_
    rintro e w5 ⟨rfl, hb5⟩
    have GB := Aside0.mk (below_step g4.out hb5)
    clear hb5
    go_wp2_with fail
    go_ret
    exact ⟨by rw [hpb]; rfl, GB.out⟩
  · have hpb : (ph == 2) = false := by simpa using hp
    go_wp2_with fail
    go_ret
    exact ⟨by rw [hpb]; rfl, g4.out⟩
end Go.Proofs.YtnpcodfeggcdbaaDoor.Pure
