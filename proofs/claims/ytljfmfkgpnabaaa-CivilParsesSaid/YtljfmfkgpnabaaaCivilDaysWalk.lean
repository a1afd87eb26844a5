/- The walk of CivilDays: the day of any number, and the next one, for every number. -/
import Derived.Test.YtljfmfkgpnabaaaPCivilNumbersx
import Derived.Test.YtljfmfkgpnabaaaCal
set_option linter.unusedVariables false
set_option linter.unusedSimpArgs false
namespace Go.Proofs.Ytljfmfkgpnabaaa.Pure
open Go.RowKit Go.Proofs.Ytljfmfkgpnabaaa.PCivilNumbers Go.Proofs.YtljfmfkgpnabaaaW.PrintWords Go.Proofs.YtljfmfkgpnabaaaW.PrintLast
open Go.Proofs.Ytljfmfkgpnabaaa
theorem setCell_map (w : World) (a : Addr) (v : Value) : (w.setCell a v).cell? a = (w.cell? a).map fun _ => v := by
  simp only [World.setCell, World.cell?, Array.getElem?_modify, ↓reduceIte]
  cases hb : w.heap[a.block]? with
  | none => rfl
  | some o =>
    cases o with
    | cells c e f =>
      simp only [Option.map_some]
      cases hs : a.spot.isSome
      · simp only [Bool.false_eq_true, if_false, Array.getElem?_setIfInBounds_self]
        by_cases h : a.off < c.size
        · simp [h]
        · simp [h]
      · simp
    | _ => rfl
attribute [local go_sem] setCell_map
theorem tz4 (y c : Int) : (Int.tmod y c = 0) ↔ (y % c = 0) := by
  rw [← Int.dvd_iff_tmod_eq_zero, ← Int.dvd_iff_emod_eq_zero]
theorem leap_eq (y : Int) : civil_Leap.f y = some (Cal.leap y) := by
  unfold civil_Leap.f Cal.leap
  by_cases h1 : y % 4 = 0 <;> by_cases h2 : y % 100 = 0 <;> by_cases h3 : y % 400 = 0 <;> simp [tz4, h1, h2, h3] <;> (try omega) <;> (intro h; have := (tz4 _ _).1 h; omega)
theorem mon_cases (m : Int) : m = 1 ∨ m = 2 ∨ m = 3 ∨ m = 4 ∨ m = 5 ∨ m = 6 ∨ m = 7 ∨ m = 8 ∨ m = 9 ∨ m = 10 ∨ m = 11 ∨ m = 12 ∨ m < 1 ∨ 12 < m := by omega
theorem month_eq (k : Nat) (hk : 2 ≤ k) (y m : Int) : civil_Month.f k y m = some (Cal.mon y m) := by
  obtain ⟨k, rfl⟩ : ∃ j, k = j + 2 := ⟨k - 2, by omega⟩
  have hl : Cal.lp y = if Cal.leap y = true then 1 else 0 := rfl
  rcases mon_cases m with rfl | rfl | rfl | rfl | rfl | rfl | rfl | rfl | rfl | rfl | rfl | rfl | h | h
  all_goals first
    | (rw [Cal.mon_last y m (by omega)]
       have e1 : ∀ c : Int, 1 ≤ c → c ≤ 12 → ¬ m = c := fun c _ _ => by omega
       have e2 : ∀ c : Int, 1 ≤ c → c ≤ 12 → (m == c) = false := fun c h1 h2 => beq_eq_false_iff_ne.2 (e1 c h1 h2)
       simp [civil_Month.f, civil_Month.j0, civil_Month.j1, e1, e2])
    | (simp [civil_Month.f, civil_Month.j0, civil_Month.j1, Cal.mon]; done)
    | (cases hb : Cal.leap y <;> simp [civil_Month.f, civil_Month.j0, civil_Month.j1, Cal.mon, leap_eq, hl, hb])
theorem before_eq (y : Int) (h0 : 1 ≤ y) (h1 : y ≤ 20000) : civil_before.f y = some (Cal.bef y) := by
  unfold civil_before.f Cal.bef
  have e0 : wrap64 (y - 1) = y - 1 := by unfold wrap64; omega
  rw [e0]
  have e : ∀ c : Int, 1 ≤ c → wrap64 (Int.tdiv (y - 1) c) = (y - 1) / c := by
    intro c hc
    rw [Int.tdiv_eq_ediv_of_nonneg (by omega)]
    have h3 : 0 ≤ (y - 1) / c := Int.ediv_nonneg (by omega) (by omega)
    have h4 : (y - 1) / c ≤ y - 1 := Int.ediv_le_self _ (by omega)
    unfold wrap64; omega
  rw [e 4 (by omega), e 100 (by omega), e 400 (by omega)]
  unfold wrap64; congr 1; omega
theorem valid_iff (y m d : Int) : Cal.valid y m d ↔ (1 ≤ y ∧ y ≤ 9999 ∧ 1 ≤ d ∧ d ≤ Cal.mon y m) := by
  unfold Cal.valid
  constructor
  · intro h; omega
  · intro h
    have := Cal.mon_pos' y m (by omega); omega
theorem right_eq (k : Nat) (hk : 2 ≤ k) (y m d : Int) [Decidable (Cal.valid y m d)] : civil_Right.f k y m d = some (decide (Cal.valid y m d)) := by
  unfold civil_Right.f
  rw [month_eq k hk]
  by_cases h1 : 1 ≤ y <;> by_cases h2 : y ≤ 9999 <;> by_cases h3 : 1 ≤ d <;> by_cases h4 : d ≤ Cal.mon y m <;> simp [valid_iff, h1, h2, h3, h4]
theorem num_loop (y mm d : Int) (h2 : mm ≤ 13) (e : Nat) : ∀ (k : Nat) (x m : Int), 1 ≤ m → m ≤ mm → mm - m = e → e + 3 ≤ k → -4000000 ≤ x → x ≤ 4000000 + 31 * m →
    civil_Number.l0 k x m y mm d = some (x + (Cal.cum y mm - Cal.cum y m), 0) := by
  induction e with
  | zero =>
    intro k x m h3 h4 h5 h6 h7 h8
    obtain ⟨k, rfl⟩ : ∃ j, k = j + 1 := ⟨k - 1, by omega⟩
    simp only [civil_Number.l0]; rw [if_neg (by omega)]
    have : m = mm := by omega
    subst this; simp
  | succ e ih =>
    intro k x m h3 h4 h5 h6 h7 h8
    obtain ⟨k, rfl⟩ : ∃ j, k = j + 1 := ⟨k - 1, by omega⟩
    simp only [civil_Number.l0]; rw [if_pos (by omega), month_eq k (by omega)]; simp only [Option.bind_some]
    have h9 := Cal.mon_le y m
    have h10 := Cal.cum_succ y m h3 (by omega)
    rw [show wrap64 (x + Cal.mon y m) = x + Cal.mon y m from by unfold wrap64; omega, show wrap64 (m + 1) = m + 1 from by unfold wrap64; omega]
    rw [ih k (x + Cal.mon y m) (m + 1) (by omega) (by omega) (by omega) (by omega) (by omega) (by omega), h10]
    congr 2; omega
theorem number_yes (k : Nat) (hk : 15 ≤ k) (y m d : Int) (h : Cal.valid y m d) : civil_Number.f k y m d = some (Cal.num y m d, 0) := by
  have h0 := h
  obtain ⟨h1, h2, h3, h4, h5, h6⟩ := h
  have h7 := Cal.mon_le y m
  have h8 := Cal.bef_ge y h1
  have h9 := Cal.bef_le y h1
  unfold civil_Number.f
  classical
  rw [right_eq k (by omega), before_eq y h1 (by omega)]
  simp only [h0, decide_true, Option.bind_some, if_true]
  rw [show wrap64 (wrap64 (Cal.bef y + d) - 1) = Cal.bef y + d - 1 from by unfold wrap64; omega]
  rw [num_loop y m d (by omega) (m - 1).toNat k _ 1 (by omega) (by omega) (by omega) (by omega) (by omega) (by omega), Cal.cum_one]
  unfold Cal.num; congr 2; omega
theorem number_no (k : Nat) (hk : 15 ≤ k) (y m d : Int) (h : ¬ Cal.valid y m d) : civil_Number.f k y m d = some (0, 1) := by
  unfold civil_Number.f
  classical
  rw [right_eq k (by omega)]
  simp [h]
theorem awake_yes (k : Nat) (hk : 15 ≤ k) : paybooklaw01_awake.f k = some true := by
  unfold paybooklaw01_awake.f
  rw [number_yes k hk 1970 1 1 (by unfold Cal.valid Cal.mon; omega), show Cal.num 1970 1 1 = 719162 from by decide]
  simp
theorem rleap_eq (y : Int) : paybookref01_Leap.f y = some (Cal.leap y) := by
  unfold paybookref01_Leap.f Cal.leap
  by_cases h1 : y % 4 = 0 <;> by_cases h2 : y % 100 = 0 <;> by_cases h3 : y % 400 = 0 <;> simp [tz4, h1, h2, h3] <;> (try omega) <;> (intro h; have := (tz4 _ _).1 h; omega)
theorem rmonth_eq (k : Nat) (hk : 1 ≤ k) (y m : Int) : paybookref01_Month.f k y m = some (Cal.mon y m) := by
  obtain ⟨k, rfl⟩ : ∃ j, k = j + 1 := ⟨k - 1, by omega⟩
  have hl : Cal.lp y = if Cal.leap y = true then 1 else 0 := rfl
  rcases mon_cases m with rfl | rfl | rfl | rfl | rfl | rfl | rfl | rfl | rfl | rfl | rfl | rfl | h | h
  all_goals first
    | (rw [Cal.mon_last y m (by omega)]
       unfold paybookref01_Month.f
       first
       | (rw [if_pos h]; simp [paybookref01_Month.j0])
       | (rw [if_neg (by omega), show decide (m > 12) = true from by simp; omega]; simp [paybookref01_Month.j0]))
    | (simp [paybookref01_Month.f, paybookref01_Month.j0, Cal.mon, rd, wrap64]; done)
    | (cases hb : Cal.leap y <;> simp [paybookref01_Month.f, paybookref01_Month.j0, Cal.mon, rleap_eq, hl, hb, rd, wrap64])
theorem rright_eq (k : Nat) (hk : 1 ≤ k) (y m d : Int) [Decidable (Cal.valid y m d)] : paybookref01_Right.f k y m d = some (decide (Cal.valid y m d)) := by
  unfold paybookref01_Right.f Cal.valid
  rw [rmonth_eq k hk]
  by_cases h1 : 1 ≤ y <;> by_cases h2 : y ≤ 9999 <;> by_cases h3 : 1 ≤ d <;> by_cases h4 : d ≤ Cal.mon y m <;> by_cases h5 : 1 ≤ m <;> by_cases h6 : m ≤ 12 <;> simp [h1, h2, h3, h4, h5, h6]
theorem rnum_loop (y mm d : Int) (h2 : mm ≤ 13) (hd : 1 ≤ d ∧ d ≤ 31) (e : Nat) : ∀ (k : Nat) (x m : Int), 1 ≤ m → m ≤ mm → mm - m = e → e + 3 ≤ k → -4000000 ≤ x → x ≤ 4000000 + 31 * m →
    paybookref01_Number.l0 k x m y mm d = some (x + (Cal.cum y mm - Cal.cum y m) + d - 1) := by
  induction e with
  | zero =>
    intro k x m h3 h4 h5 h6 h7 h8
    obtain ⟨k, rfl⟩ : ∃ j, k = j + 1 := ⟨k - 1, by omega⟩
    simp only [paybookref01_Number.l0]; rw [if_neg (by omega)]
    have : m = mm := by omega
    subst this
    rw [show wrap64 (wrap64 (x + d) - 1) = x + d - 1 from by unfold wrap64; omega]; congr 1; omega
  | succ e ih =>
    intro k x m h3 h4 h5 h6 h7 h8
    obtain ⟨k, rfl⟩ : ∃ j, k = j + 1 := ⟨k - 1, by omega⟩
    simp only [paybookref01_Number.l0]; rw [if_pos (by omega), rmonth_eq k (by omega)]; simp only [Option.bind_some]
    have h9 := Cal.mon_le y m
    have h10 := Cal.cum_succ y m h3 (by omega)
    rw [show wrap64 (x + Cal.mon y m) = x + Cal.mon y m from by unfold wrap64; omega, show wrap64 (m + 1) = m + 1 from by unfold wrap64; omega]
    rw [ih k (x + Cal.mon y m) (m + 1) (by omega) (by omega) (by omega) (by omega) (by omega) (by omega), h10]
    congr 1; omega
theorem bef_400 (y : Int) : Cal.bef y = (y - 1) / 400 * 146097 + (y - 1) % 400 / 100 * 36524 + (y - 1) % 400 % 100 / 4 * 1461 + (y - 1) % 400 % 100 % 4 * 365 := by
  unfold Cal.bef; omega
theorem rnumber_eq (k : Nat) (hk : 15 ≤ k) (y m d : Int) (h : Cal.valid y m d) : paybookref01_Number.f k y m d = some (Cal.num y m d) := by
  obtain ⟨h1, h2, h3, h4, h5, h6⟩ := h
  have h7 := Cal.mon_le y m
  have h8 := Cal.bef_ge y h1
  have h9 := Cal.bef_le y h1
  unfold paybookref01_Number.f
  rw [show wrap64 (y - 1) = y - 1 from by unfold wrap64; omega]
  rw [Int.tdiv_eq_ediv_of_nonneg (show 0 ≤ y - 1 from by omega), Int.tmod_eq_emod_of_nonneg (show 0 ≤ y - 1 from by omega)]
  rw [Int.tdiv_eq_ediv_of_nonneg (show 0 ≤ (y - 1) % 400 from by omega), Int.tmod_eq_emod_of_nonneg (show 0 ≤ (y - 1) % 400 from by omega)]
  rw [Int.tdiv_eq_ediv_of_nonneg (show 0 ≤ (y - 1) % 400 % 100 from by omega), Int.tmod_eq_emod_of_nonneg (show 0 ≤ (y - 1) % 400 % 100 from by omega)]
  have e : wrap64 (wrap64 (wrap64 (wrap64 (wrap64 ((y - 1) / 400) * 146097) + wrap64 (wrap64 ((y - 1) % 400 / 100) * 36524)) + wrap64 (wrap64 ((y - 1) % 400 % 100 / 4) * 1461)) + wrap64 ((y - 1) % 400 % 100 % 4 * 365)) = Cal.bef y := by
    rw [bef_400]
    rw [show wrap64 ((y - 1) / 400) = (y - 1) / 400 from by unfold wrap64; omega]
    rw [show wrap64 ((y - 1) % 400 / 100) = (y - 1) % 400 / 100 from by unfold wrap64; omega]
    rw [show wrap64 ((y - 1) % 400 % 100 / 4) = (y - 1) % 400 % 100 / 4 from by unfold wrap64; omega]
    have ha : 0 ≤ (y - 1) / 400 ∧ (y - 1) / 400 ≤ 25 := by omega
    have hb : 0 ≤ (y - 1) % 400 / 100 ∧ (y - 1) % 400 / 100 ≤ 3 := by omega
    have hc : 0 ≤ (y - 1) % 400 % 100 / 4 ∧ (y - 1) % 400 % 100 / 4 ≤ 25 := by omega
    have hd : 0 ≤ (y - 1) % 400 % 100 % 4 ∧ (y - 1) % 400 % 100 % 4 ≤ 3 := by omega
    generalize (y - 1) / 400 = a at ha ⊢
    generalize (y - 1) % 400 / 100 = b at hb ⊢
    generalize (y - 1) % 400 % 100 / 4 = c at hc ⊢
    generalize (y - 1) % 400 % 100 % 4 = r at hd ⊢
    unfold wrap64; omega
  rw [e]
  rw [rnum_loop y m d (by omega) (by omega) (m - 1).toNat k _ 1 (by omega) (by omega) (by omega) (by omega) (by omega) (by omega), Cal.cum_one]
  unfold Cal.num; congr 1; omega
theorem of_months (y : Int) (e : Nat) : ∀ (k : Nat) (x m : Int), 1 ≤ m → m ≤ 12 → 12 - m = e → e + 4 ≤ k → 0 ≤ x → x < Cal.cum y 13 - Cal.cum y m →
    ∃ m' d, civil_Of.l1 k x y m = some (y, m', d, 0) ∧ 1 ≤ m' ∧ m' ≤ 12 ∧ 1 ≤ d ∧ d ≤ Cal.mon y m' ∧ Cal.cum y m' + d - 1 = Cal.cum y m + x := by
  induction e with
  | zero =>
    intro k x m h1 h2 h3 h4 h5 h6
    obtain ⟨k, rfl⟩ : ∃ j, k = j + 1 := ⟨k - 1, by omega⟩
    have h7 := Cal.cum_succ y m h1 h2
    have : m = 12 := by omega
    subst this
    have h9 := Cal.cum_bd y 12 (by omega) (by omega)
    rw [show (12 : Int) + 1 = 13 from rfl] at h7
    have h8 := Cal.mon_le y 12
    refine ⟨12, x + 1, ?_, by omega, by omega, by omega, by omega, by omega⟩
    simp only [civil_Of.l1]; rw [month_eq k (by omega)]; simp only [Option.bind_some]; rw [if_neg (by omega)]
    rw [show wrap64 (x + 1) = x + 1 from by unfold wrap64; omega]
  | succ e ih =>
    intro k x m h1 h2 h3 h4 h5 h6
    obtain ⟨k, rfl⟩ : ∃ j, k = j + 1 := ⟨k - 1, by omega⟩
    have h7 := Cal.cum_succ y m h1 h2
    have h8 := Cal.mon_le y m
    have h9 := Cal.cum_bd y m (by omega) (by omega)
    have h10 := Cal.cum_bd y 13 (by omega) (by omega)
    by_cases hx : Cal.mon y m ≤ x
    · obtain ⟨m', d, g1, g2, g3, g4, g5, g6⟩ := ih k (x - Cal.mon y m) (m + 1) (by omega) (by omega) (by omega) (by omega) (by omega) (by omega)
      refine ⟨m', d, ?_, g2, g3, g4, g5, by omega⟩
      simp only [civil_Of.l1]; rw [month_eq k (by omega)]; simp only [Option.bind_some]; rw [if_pos hx]
      rw [show wrap64 (x - Cal.mon y m) = x - Cal.mon y m from by unfold wrap64; omega, show wrap64 (m + 1) = m + 1 from by unfold wrap64; omega]
      exact g1
    · refine ⟨m, x + 1, ?_, by omega, by omega, by omega, by omega, by omega⟩
      simp only [civil_Of.l1]; rw [month_eq k (by omega)]; simp only [Option.bind_some]; rw [if_neg (by omega)]
      rw [show wrap64 (x + 1) = x + 1 from by unfold wrap64; omega]
theorem of_years (n : Int) (hn : n ≤ 3652058) (e : Nat) : ∀ (k : Nat) (y : Int), 1 ≤ y → y ≤ 9999 → 9999 - y = e → e + 40 ≤ k → Cal.bef y ≤ n →
    ∃ y' m d, civil_Of.l0 k n y = some (y', m, d, 0) ∧ Cal.valid y' m d ∧ Cal.num y' m d = n := by
  induction e with
  | zero =>
    intro k y h1 h2 h3 h4 h5
    obtain ⟨k, rfl⟩ : ∃ j, k = j + 1 := ⟨k - 1, by omega⟩
    have : y = 9999 := by omega
    subst this
    have hs := Cal.bef_succ 9999
    have hm := Cal.bef_max
    rw [show (9999 : Int) + 1 = 10000 from rfl] at hs
    have hg := Cal.bef_ge 9999 (by omega)
    obtain ⟨m', d, g1, g2, g3, g4, g5, g6⟩ := of_months 9999 11 k (n - Cal.bef 9999) 1 (by omega) (by omega) (by omega) (by omega) (by omega) (by rw [Cal.cum_one, Cal.cum_13]; omega)
    refine ⟨9999, m', d, ?_, ⟨by omega, by omega, g2, g3, g4, g5⟩, by rw [Cal.cum_one] at g6; unfold Cal.num; omega⟩
    simp only [civil_Of.l0]
    rw [show wrap64 ((9999 : Int) + 1) = 9999 + 1 from by unfold wrap64; omega, before_eq _ (by omega) (by omega)]; simp only [Option.bind_some]
    rw [if_neg (by rw [show (9999 : Int) + 1 = 10000 from rfl]; omega), before_eq _ (by omega) (by omega)]; simp only [Option.bind_some]
    rw [show wrap64 (n - Cal.bef 9999) = n - Cal.bef 9999 from by unfold wrap64; omega]
    exact g1
  | succ e ih =>
    intro k y h1 h2 h3 h4 h5
    obtain ⟨k, rfl⟩ : ∃ j, k = j + 1 := ⟨k - 1, by omega⟩
    have hs := Cal.bef_succ y
    have hg := Cal.bef_ge y (by omega)
    by_cases hx : Cal.bef (y + 1) ≤ n
    · obtain ⟨y', m, d, g1, g2⟩ := ih k (y + 1) (by omega) (by omega) (by omega) (by omega) hx
      refine ⟨y', m, d, ?_, g2⟩
      simp only [civil_Of.l0]
      rw [show wrap64 (y + 1) = y + 1 from by unfold wrap64; omega, before_eq _ (by omega) (by omega)]; simp only [Option.bind_some]
      rw [if_pos hx]; exact g1
    · obtain ⟨m', d, g1, g2, g3, g4, g5, g6⟩ := of_months y 11 k (n - Cal.bef y) 1 (by omega) (by omega) (by omega) (by omega) (by omega) (by rw [Cal.cum_one, Cal.cum_13]; omega)
      refine ⟨y, m', d, ?_, ⟨by omega, by omega, g2, g3, g4, g5⟩, by rw [Cal.cum_one] at g6; unfold Cal.num; omega⟩
      simp only [civil_Of.l0]
      rw [show wrap64 (y + 1) = y + 1 from by unfold wrap64; omega, before_eq _ (by omega) (by omega)]; simp only [Option.bind_some]
      rw [if_neg hx, before_eq _ (by omega) (by omega)]; simp only [Option.bind_some]
      rw [show wrap64 (n - Cal.bef y) = n - Cal.bef y from by unfold wrap64; omega]
      exact g1
theorem of_yes (k : Nat) (hk : 11000 ≤ k) (n : Int) (h0 : 0 ≤ n) (h1 : n ≤ 3652058) :
    ∃ y m d, civil_Of.f k n = some (y, m, d, 0) ∧ Cal.valid y m d ∧ Cal.num y m d = n := by
  obtain ⟨k, rfl⟩ : ∃ j, k = j + 1 := ⟨k - 1, by omega⟩
  obtain ⟨y, m, d, g1, g2⟩ := of_years n h1 (9999 - (n / 366 + 1)).toNat k (n / 366 + 1) (by omega) (by omega) (by omega) (by omega) (by have := Cal.bef_le (n / 366 + 1) (by omega); omega)
  refine ⟨y, m, d, ?_, g2⟩
  unfold civil_Of.f
  rw [if_neg (by omega), show decide (n > 3652058) = false from by simp; omega]
  simp only [civil_Of.j0]
  rw [if_neg (by simp), Int.tdiv_eq_ediv_of_nonneg h0, show wrap64 (wrap64 (n / 366) + 1) = n / 366 + 1 from by unfold wrap64; omega]
  exact g1
theorem of_no (k : Nat) (hk : 1 ≤ k) (n : Int) (h : n < 0 ∨ 3652058 < n) : civil_Of.f k n = some (0, 0, 0, 1) := by
  obtain ⟨k, rfl⟩ : ∃ j, k = j + 1 := ⟨k - 1, by omega⟩
  unfold civil_Of.f
  by_cases h0 : n < 0
  · rw [if_pos h0]; simp [civil_Of.j0]
  · rw [if_neg h0, show decide (n > 3652058) = true from by simp; omega]; simp [civil_Of.j0]
set_option maxHeartbeats 4000000 in
theorem rof_calls (n : Int) (w : World) (h0 : 0 ≤ n) (h1 : n ≤ 3652058) (y m d : Int) (hv : Cal.valid y m d) (hn : Cal.num y m d = n) :
    Calls Try.prog 24 #[.int .i64 n] w fun e w' => e = .returned (.agg #[.int .i64 y, .int .i64 m, .int .i64 d]) ∧ Below w.heap.size w w' := by
  have H := Aside0.mk hn; clear hn
  have HV := Aside0.mk hv; clear hv
  go_enter Try.func24, Try.ntmps24
  go_wp2_with fail
  have hb0 : Cal.bef (1 + 400 * (n / 146097)) + (n - 146097 * (n / 146097)) = n := by unfold Cal.bef; omega
  have HB0 := Aside0.mk hb0; clear hb0
  go_loopg [0] (n - 146097 * (n / 146097)).toNat (fun kq t0 wr => ∃ x yy : Int, t0 = .int .i64 x ∧ Aside0 (Cal.bef yy + x = n) ∧ 0 ≤ x ∧ x ≤ 3652058 ∧ 1 ≤ yy ∧ yy ≤ 10007 ∧ Aside0 (x.toNat ≤ kq) ∧ Aside0 (wr.heap[w.heap.size]? = some (.cells #[.int .i64 0, .int .i64 0, .int .i64 0] 30 (0, 0))) ∧ Aside0 (wr.heap[w.heap.size + 1]? = some (.cells #[.int .i64 yy, .int .i64 1, .int .i64 1] 30 (0, 0))) ∧ Aside0 (Below w.heap.size w wr))
  case atStart => exact ⟨_, _, rfl, HB0, by omega, by omega, by omega, by omega, ⟨Nat.le_refl _⟩, ⟨blk_alloc (blk_new _ _) _⟩, ⟨by have := blk_new (w.alloc (.cells #[.int .i64 0, .int .i64 0, .int .i64 0] 30)) (.cells #[.int .i64 (1 + 400 * (n / 146097)), .int .i64 1, .int .i64 1] 30); simpa using this⟩, ⟨below_alloc (below_alloc (Below.refl _ _) _) _⟩⟩
  case round =>
    obtain ⟨x, yy, rfl, HE, hx0, hx1, hy0, hy1, HM, B2, B3, HB⟩ := hrel
    have hc0 : wr.cell? ⟨w.heap.size + 1, 0, none⟩ = some (.int .i64 yy) := (blk_cell B3.out 0).trans rfl
    have hc1 : wr.cell? ⟨w.heap.size + 1, 1, none⟩ = some (.int .i64 1) := (blk_cell B3.out 1).trans rfl
    have hc2 : wr.cell? ⟨w.heap.size + 1, 2, none⟩ = some (.int .i64 1) := (blk_cell B3.out 2).trans rfl
    have hf0 := blk_frozen B3.out 0
    have hf1 := blk_frozen B3.out 1
    have hf2 := blk_frozen B3.out 2
    have HS := Aside0.mk (Cal.bef_succ yy)
    have HL0 := rleap_eq yy
    by_cases c2 : 366 ≤ x
    · have c1 : 365 ≤ x := by omega
      cases hb : Cal.leap yy
      · rw [hb] at HL0
        have hlp : Cal.lp yy = 0 := by unfold Cal.lp; rw [hb]; rfl
        rw [hlp] at HS
        have HL := Aside0.mk HL0; clear HL0 hb hlp
        go_wp2_with (first | (go_at_call 14; (with_reducible refine (paybookref01_Leap.calls yy false _ HL.out).mono ?_); rintro e w' ⟨rfl, ⟨nd, rfl⟩⟩))
        go_roundg (x - 365).toNat
        case measure => have := HM.out; omega
        case rel =>
          refine ⟨_, yy + 1, rfl, ⟨by have := HE.out; have := HS.out; omega⟩, by omega, by omega, by omega, by have := HE.out; have := HS.out; have := Cal.bef_ge (yy + 1) (by omega); omega, ⟨by omega⟩, ⟨?_⟩, ⟨?_⟩, ⟨?_⟩⟩
          · exact (blk_far (blk_drewN B2.out _) (by simp) _)
          · exact (blk_set (blk_drewN B3.out _) 0 _).trans rfl
          · exact below_set (pw_below_drewN HB.out _) (by simp)

      · rw [hb] at HL0
        have hlp : Cal.lp yy = 1 := by unfold Cal.lp; rw [hb]; rfl
        rw [hlp] at HS
        have HL := Aside0.mk HL0; clear HL0 hb hlp
        go_wp2_with (first | (go_at_call 14; (with_reducible refine (paybookref01_Leap.calls yy true _ HL.out).mono ?_); rintro e w' ⟨rfl, ⟨nd, rfl⟩⟩))
        go_roundg (x - 365 - 1).toNat
        case measure => have := HM.out; omega
        case rel =>
          refine ⟨_, yy + 1, rfl, ⟨by have := HE.out; have := HS.out; omega⟩, by omega, by omega, by omega, by have := HE.out; have := HS.out; have := Cal.bef_ge (yy + 1) (by omega); omega, ⟨by omega⟩, ⟨?_⟩, ⟨?_⟩, ⟨?_⟩⟩
          · exact (blk_far (blk_drewN B2.out _) (by simp) _)
          · exact (blk_set (blk_drewN B3.out _) 0 _).trans rfl
          · exact below_set (pw_below_drewN HB.out _) (by simp)

    · by_cases c1 : 365 ≤ x
      · have c3 : x = 365 := by omega
        cases hb : Cal.leap yy
        · rw [hb] at HL0
          have hlp : Cal.lp yy = 0 := by unfold Cal.lp; rw [hb]; rfl
          rw [hlp] at HS
          have HL := Aside0.mk HL0; clear HL0 hb hlp c3
          go_wp2_with (first | (go_at_call 14; (with_reducible refine (paybookref01_Leap.calls yy false _ HL.out).mono ?_); rintro e w' ⟨rfl, ⟨nd, rfl⟩⟩))
          go_roundg (x - 365).toNat
          case measure => have := HM.out; omega
          case rel =>
            refine ⟨_, yy + 1, rfl, ⟨by have := HE.out; have := HS.out; omega⟩, by omega, by omega, by omega, by have := HE.out; have := HS.out; have := Cal.bef_ge (yy + 1) (by omega); omega, ⟨by omega⟩, ⟨?_⟩, ⟨?_⟩, ⟨?_⟩⟩
            · exact (blk_far (blk_drewN B2.out _) (by simp) _)
            · exact (blk_set (blk_drewN B3.out _) 0 _).trans rfl
            · exact below_set (pw_below_drewN HB.out _) (by simp)

        · rw [hb] at HL0
          have hlp : Cal.lp yy = 1 := by unfold Cal.lp; rw [hb]; rfl
          rw [hlp] at HS
          have HX : Aside0 (x < 365 + Cal.lp yy) := ⟨by omega⟩
          have HL := Aside0.mk HL0; clear HL0 HS hb hlp c3
          go_wp2_with (first | (go_at_call 14; (with_reducible refine (paybookref01_Leap.calls yy true _ HL.out).mono ?_); rintro e w' ⟨rfl, ⟨nd, rfl⟩⟩))
  
          have HE1 := Aside0.mk (Cal.cum_one yy)
          have H13 := Aside0.mk (Cal.cum_13 yy)
          obtain ⟨wo, rfl⟩ : ∃ wo : World, wo = wr := ⟨_, rfl⟩
          go_loopg [0] 12 (fun kq t0 wq => ∃ z mm : Int, t0 = .int .i64 z ∧ Aside0 (Cal.bef yy + Cal.cum yy mm + z = n) ∧ Aside0 (Cal.cum yy mm + z < Cal.cum yy 13) ∧ 0 ≤ z ∧ z ≤ 366 ∧ 1 ≤ mm ∧ mm ≤ 12 ∧ Aside0 ((12 - mm).toNat ≤ kq) ∧ Aside0 (wq.heap[w.heap.size]? = some (.cells #[.int .i64 0, .int .i64 0, .int .i64 0] 30 (0, 0))) ∧ Aside0 (wq.heap[w.heap.size + 1]? = some (.cells #[.int .i64 yy, .int .i64 mm, .int .i64 1] 30 (0, 0))) ∧ Aside0 (Below w.heap.size w wq))
          case atStart => exact ⟨_, 1, rfl, ⟨by have := HE.out; have := HE1.out; omega⟩, ⟨by have := HE1.out; have := H13.out; have := HX.out; omega⟩, by omega, by have := HX.out; have := Cal.lp01 yy; omega, by omega, by omega, ⟨by omega⟩, ⟨by first | exact B2.out | exact blk_drewN B2.out _⟩, ⟨by first | exact B3.out | exact blk_drewN B3.out _⟩, ⟨by first | exact HB.out | exact pw_below_drewN HB.out _⟩⟩
          case round =>
            obtain ⟨z, mm, rfl, GE, GX, hz0, hz1, hm0, hm1, GM, C2, C3, GB⟩ := hrel
            clear hc0 hc1 hc2 hf0 hf1 hf2
            have hc0 : wr.cell? ⟨w.heap.size + 1, 0, none⟩ = some (.int .i64 yy) := (blk_cell C3.out 0).trans rfl
            have hc1 : wr.cell? ⟨w.heap.size + 1, 1, none⟩ = some (.int .i64 mm) := (blk_cell C3.out 1).trans rfl
            have HMo := Aside0.mk (rmonth_eq 1 (by omega) yy mm)
            have hmo := Cal.mon_le yy mm
            have HMs := Aside0.mk (Cal.cum_succ yy mm hm0 hm1)
            go_wp2_with fail
            refine (paybookref01_Month.calls 1 yy mm (Cal.mon yy mm) _ HMo.out).mono ?_
            rintro e w5 ⟨rfl, hb⟩
            have D2 := Aside0.mk (blk_below C2.out hb)
            have D3 := Aside0.mk (blk_below C3.out hb)
            have GD := Aside0.mk (below_step GB.out hb)
            clear C2 C3 GB hc0 hc1 hb
            have hc0 : w5.cell? ⟨w.heap.size + 1, 0, none⟩ = some (.int .i64 yy) := (blk_cell D3.out 0).trans rfl
            have hc1 : w5.cell? ⟨w.heap.size + 1, 1, none⟩ = some (.int .i64 mm) := (blk_cell D3.out 1).trans rfl
            have hc2 : w5.cell? ⟨w.heap.size + 1, 2, none⟩ = some (.int .i64 1) := (blk_cell D3.out 2).trans rfl
            have hf1 := blk_frozen D3.out 1
            have hf2 := blk_frozen D3.out 2
            have hg0 : w5.cell? ⟨w.heap.size, 0, none⟩ = some (.int .i64 0) := (blk_cell D2.out 0).trans rfl
            have hg1 : w5.cell? ⟨w.heap.size, 1, none⟩ = some (.int .i64 0) := (blk_cell D2.out 1).trans rfl
            have hg2 : w5.cell? ⟨w.heap.size, 2, none⟩ = some (.int .i64 0) := (blk_cell D2.out 2).trans rfl
            have he0 := blk_frozen D2.out 0
            have he1 := blk_frozen D2.out 1
            have he2 := blk_frozen D2.out 2
            by_cases hz : Cal.mon yy mm ≤ z
            · go_wp2_with fail
              refine (paybookref01_Month.calls 1 yy mm (Cal.mon yy mm) _ HMo.out).mono ?_
              rintro e w6 ⟨rfl, hb⟩
              have E2 := Aside0.mk (blk_below D2.out hb)
              have E3 := Aside0.mk (blk_below D3.out hb)
              have GE2 := Aside0.mk (below_step GD.out hb)
              clear D2 D3 GD hc0 hc1 hc2 hf1 hf2 hg0 hg1 hg2 he0 he1 he2 hb
              have hc1 : w6.cell? ⟨w.heap.size + 1, 1, none⟩ = some (.int .i64 mm) := (blk_cell E3.out 1).trans rfl
              have hf1 := blk_frozen E3.out 1
              go_wp2_with fail
              have h12 : mm < 12 := by
                have a1 := HMs.out; have a2 := GX.out; 
                by_cases e : mm = 12
                · subst e; rw [show (12 : Int) + 1 = 13 from rfl] at a1; omega
                · omega
              go_roundg (12 - (mm + 1)).toNat
              case measure => have := GM.out; omega
              case rel =>
                refine ⟨_, mm + 1, rfl, ⟨by have := GE.out; have := HMs.out; omega⟩, ⟨by have := GX.out; have := HMs.out; omega⟩, by omega, by omega, by omega, by omega, ⟨Nat.le_refl _⟩, ⟨?_⟩, ⟨?_⟩, ⟨?_⟩⟩
                · exact (blk_far E2.out (by simp) _)
                · exact (blk_set E3.out 1 _).trans rfl
                · exact below_set GE2.out (by simp)
            · go_wp2_with fail
              have hval : Cal.valid yy mm (1 + z) := by
                refine ⟨hy0, ?_, hm0, hm1, by omega, by omega⟩
                have a1 := Cal.cum_bd yy mm (by omega) (by omega)
                have a2 := Cal.bef_max
                have a3 := GE.out
                by_cases e : yy ≤ 9999
                · exact e
                · have := Cal.bef_mono 10000 yy (by omega) (by omega); omega
              have hq : Cal.num yy mm (1 + z) = n := by unfold Cal.num; have := GE.out; omega
              obtain ⟨rfl, rfl, rfl⟩ := Cal.num_inj _ _ _ _ _ _ HV.out hval (H.out.trans hq.symm)
              refine bodyPost_ret (v := .agg #[.int .i64 y, .int .i64 m, .int .i64 (1 + z)]) (results_single (r := .cell 2 30) rfl (.cell w.heap.size 30 #[.int .i64 y, .int .i64 m, .int .i64 (1 + z)] (0, 0) _ rfl ((blk_set (blk_set (blk_set (blk_far D2.out (by simp) _) 0 _) 1 _) 2 _).trans rfl) Try.underlying30 rfl (by kernel_rfl) .nil)) rfl ⟨rfl, ?_⟩
              exact below_set (below_set (below_set (below_set GD.out (by simp)) (by simp)) (by simp)) (by simp)

      · have HX : Aside0 (x < 365 + Cal.lp yy) := ⟨by have := Cal.lp01 yy; omega⟩
        clear HL0 HS
        go_wp2_with fail

        have HE1 := Aside0.mk (Cal.cum_one yy)
        have H13 := Aside0.mk (Cal.cum_13 yy)
        obtain ⟨wo, rfl⟩ : ∃ wo : World, wo = wr := ⟨_, rfl⟩
        go_loopg [0] 12 (fun kq t0 wq => ∃ z mm : Int, t0 = .int .i64 z ∧ Aside0 (Cal.bef yy + Cal.cum yy mm + z = n) ∧ Aside0 (Cal.cum yy mm + z < Cal.cum yy 13) ∧ 0 ≤ z ∧ z ≤ 366 ∧ 1 ≤ mm ∧ mm ≤ 12 ∧ Aside0 ((12 - mm).toNat ≤ kq) ∧ Aside0 (wq.heap[w.heap.size]? = some (.cells #[.int .i64 0, .int .i64 0, .int .i64 0] 30 (0, 0))) ∧ Aside0 (wq.heap[w.heap.size + 1]? = some (.cells #[.int .i64 yy, .int .i64 mm, .int .i64 1] 30 (0, 0))) ∧ Aside0 (Below w.heap.size w wq))
        case atStart => exact ⟨_, 1, rfl, ⟨by have := HE.out; have := HE1.out; omega⟩, ⟨by have := HE1.out; have := H13.out; have := HX.out; omega⟩, by omega, by have := HX.out; have := Cal.lp01 yy; omega, by omega, by omega, ⟨by omega⟩, ⟨by first | exact B2.out | exact blk_drewN B2.out _⟩, ⟨by first | exact B3.out | exact blk_drewN B3.out _⟩, ⟨by first | exact HB.out | exact pw_below_drewN HB.out _⟩⟩
        case round =>
          obtain ⟨z, mm, rfl, GE, GX, hz0, hz1, hm0, hm1, GM, C2, C3, GB⟩ := hrel
          clear hc0 hc1 hc2 hf0 hf1 hf2
          have hc0 : wr.cell? ⟨w.heap.size + 1, 0, none⟩ = some (.int .i64 yy) := (blk_cell C3.out 0).trans rfl
          have hc1 : wr.cell? ⟨w.heap.size + 1, 1, none⟩ = some (.int .i64 mm) := (blk_cell C3.out 1).trans rfl
          have HMo := Aside0.mk (rmonth_eq 1 (by omega) yy mm)
          have hmo := Cal.mon_le yy mm
          have HMs := Aside0.mk (Cal.cum_succ yy mm hm0 hm1)
          go_wp2_with fail
          refine (paybookref01_Month.calls 1 yy mm (Cal.mon yy mm) _ HMo.out).mono ?_
          rintro e w5 ⟨rfl, hb⟩
          have D2 := Aside0.mk (blk_below C2.out hb)
          have D3 := Aside0.mk (blk_below C3.out hb)
          have GD := Aside0.mk (below_step GB.out hb)
          clear C2 C3 GB hc0 hc1 hb
          have hc0 : w5.cell? ⟨w.heap.size + 1, 0, none⟩ = some (.int .i64 yy) := (blk_cell D3.out 0).trans rfl
          have hc1 : w5.cell? ⟨w.heap.size + 1, 1, none⟩ = some (.int .i64 mm) := (blk_cell D3.out 1).trans rfl
          have hc2 : w5.cell? ⟨w.heap.size + 1, 2, none⟩ = some (.int .i64 1) := (blk_cell D3.out 2).trans rfl
          have hf1 := blk_frozen D3.out 1
          have hf2 := blk_frozen D3.out 2
          have hg0 : w5.cell? ⟨w.heap.size, 0, none⟩ = some (.int .i64 0) := (blk_cell D2.out 0).trans rfl
          have hg1 : w5.cell? ⟨w.heap.size, 1, none⟩ = some (.int .i64 0) := (blk_cell D2.out 1).trans rfl
          have hg2 : w5.cell? ⟨w.heap.size, 2, none⟩ = some (.int .i64 0) := (blk_cell D2.out 2).trans rfl
          have he0 := blk_frozen D2.out 0
          have he1 := blk_frozen D2.out 1
          have he2 := blk_frozen D2.out 2
          by_cases hz : Cal.mon yy mm ≤ z
          · go_wp2_with fail
            refine (paybookref01_Month.calls 1 yy mm (Cal.mon yy mm) _ HMo.out).mono ?_
            rintro e w6 ⟨rfl, hb⟩
            have E2 := Aside0.mk (blk_below D2.out hb)
            have E3 := Aside0.mk (blk_below D3.out hb)
            have GE2 := Aside0.mk (below_step GD.out hb)
            clear D2 D3 GD hc0 hc1 hc2 hf1 hf2 hg0 hg1 hg2 he0 he1 he2 hb
            have hc1 : w6.cell? ⟨w.heap.size + 1, 1, none⟩ = some (.int .i64 mm) := (blk_cell E3.out 1).trans rfl
            have hf1 := blk_frozen E3.out 1
            go_wp2_with fail
            have h12 : mm < 12 := by
              have a1 := HMs.out; have a2 := GX.out; 
              by_cases e : mm = 12
              · subst e; rw [show (12 : Int) + 1 = 13 from rfl] at a1; omega
              · omega
            go_roundg (12 - (mm + 1)).toNat
            case measure => have := GM.out; omega
            case rel =>
              refine ⟨_, mm + 1, rfl, ⟨by have := GE.out; have := HMs.out; omega⟩, ⟨by have := GX.out; have := HMs.out; omega⟩, by omega, by omega, by omega, by omega, ⟨Nat.le_refl _⟩, ⟨?_⟩, ⟨?_⟩, ⟨?_⟩⟩
              · exact (blk_far E2.out (by simp) _)
              · exact (blk_set E3.out 1 _).trans rfl
              · exact below_set GE2.out (by simp)
          · go_wp2_with fail
            have hval : Cal.valid yy mm (1 + z) := by
              refine ⟨hy0, ?_, hm0, hm1, by omega, by omega⟩
              have a1 := Cal.cum_bd yy mm (by omega) (by omega)
              have a2 := Cal.bef_max
              have a3 := GE.out
              by_cases e : yy ≤ 9999
              · exact e
              · have := Cal.bef_mono 10000 yy (by omega) (by omega); omega
            have hq : Cal.num yy mm (1 + z) = n := by unfold Cal.num; have := GE.out; omega
            obtain ⟨rfl, rfl, rfl⟩ := Cal.num_inj _ _ _ _ _ _ HV.out hval (H.out.trans hq.symm)
            refine bodyPost_ret (v := .agg #[.int .i64 y, .int .i64 m, .int .i64 (1 + z)]) (results_single (r := .cell 2 30) rfl (.cell w.heap.size 30 #[.int .i64 y, .int .i64 m, .int .i64 (1 + z)] (0, 0) _ rfl ((blk_set (blk_set (blk_set (blk_far D2.out (by simp) _) 0 _) 1 _) 2 _).trans rfl) Try.underlying30 rfl (by kernel_rfl) .nil)) rfl ⟨rfl, ?_⟩
            exact below_set (below_set (below_set (below_set GD.out (by simp)) (by simp)) (by simp)) (by simp)
theorem bcell {W w1 : World} (hb : Below W.heap.size W w1) : (∀ b o, b < W.heap.size → w1.cell? ⟨b, o, none⟩ = W.cell? ⟨b, o, none⟩) ∧ (∀ b o, b < W.heap.size → w1.frozen? ⟨b, o, none⟩ = W.frozen? ⟨b, o, none⟩) :=
  ⟨fun b o h => hb.cell (p := ⟨b, o, none⟩) h, fun b o h => hb.frozen (p := ⟨b, o, none⟩) h⟩
theorem rmonth_calls (y m : Int) (w : World) : Calls Try.prog 16 #[.int .i64 y, .int .i64 m] w fun e w' => e = .returned (.int .i64 (Cal.mon y m)) ∧ Below w.heap.size w w' :=
  paybookref01_Month.calls 1 y m (Cal.mon y m) w (rmonth_eq 1 (by omega) y m)
set_option maxHeartbeats 4000000 in
/-- The day behind one has the next number. -/
theorem rnext_calls (y m d : Int) (w : World) (h : Cal.valid y m d) (y' m' d' : Int) (h' : Cal.valid y' m' d') (e : Cal.num y' m' d' = Cal.num y m d + 1) :
    Calls Try.prog 25 #[.agg #[.int .i64 y, .int .i64 m, .int .i64 d]] w fun e w' => e = .returned (.agg #[.int .i64 y', .int .i64 m', .int .i64 d']) ∧ Below w.heap.size w w' := by
  have h0 := h
  obtain ⟨h1, h2, h3, h4, h5, h6⟩ := h
  have hm := Cal.mon_le y m
  have hs := Aside0.mk (Cal.cum_succ y m h3 h4)
  have H' := Aside0.mk h'
  have HE := Aside0.mk e
  clear h' e h0
  by_cases hd : Cal.mon y m < d + 1
  · by_cases hm12 : 12 < m + 1
    · have hm1 : m = 12 := by omega
      have hy : y + 1 ≤ 9999 := by
        by_cases g : y = 9999
        · subst g; subst hm1
          have a := (Cal.num_range y' m' d' H'.out).2
          have b := Cal.bef_succ 9999
          have c := Cal.bef_max
          have d13 := Cal.cum_13 9999
          have hs := hs.out
          have e := HE.out
          rw [show (12 : Int) + 1 = 13 from rfl] at hs
          rw [show (9999 : Int) + 1 = 10000 from rfl] at b
          unfold Cal.num at e a; omega
        · omega
      have hv : Cal.valid (y + 1) 1 1 := ⟨by omega, hy, by omega, by omega, by omega, by have := Cal.mon_pos (y + 1) 1 (by omega) (by omega); omega⟩
      have hq : Cal.num (y + 1) 1 1 = Cal.num y m d + 1 := by
        subst hm1
        have b := Cal.bef_succ y
        have d13 := Cal.cum_13 y
        have c1 := Cal.cum_one (y + 1)
        have hs := hs.out
        rw [show (12 : Int) + 1 = 13 from rfl] at hs
        unfold Cal.num; omega
      obtain ⟨rfl, rfl, rfl⟩ := Cal.num_inj _ _ _ _ _ _ hv H'.out (hq.trans HE.out.symm)
      clear hq hv hy hm1 HE H'
      go_enter Try.func25, Try.ntmps25
      go_wp2_with fail
      go_region_held3 (fun w' => w'.cell? ⟨w.heap.size, 0, none⟩ = some (.int .i64 y) ∧ w'.cell? ⟨w.heap.size, 1, none⟩ = some (.int .i64 m) ∧ w'.cell? ⟨w.heap.size, 2, none⟩ = some (.int .i64 (d + 1))) (go_keep) (first | (go_at_call 16; refine (rmonth_calls y m _).mono ?_; rintro e w1 ⟨rfl, hb⟩; have k0 : w1.cell? ⟨w.heap.size, 0, none⟩ = some (.int .i64 y) := pw_cell_below hb (by first | assumption | go_keep); have k1 : w1.cell? ⟨w.heap.size, 1, none⟩ = some (.int .i64 m) := pw_cell_below hb (by first | assumption | go_keep); have k2 : w1.cell? ⟨w.heap.size, 2, none⟩ = some (.int .i64 (d + 1)) := pw_cell_below hb (by first | assumption | go_keep)))
      have B1 := Aside0.mk (blk_below (blk_drew (blk_alloc (blk_new w (.cells #[.int .i64 y, .int .i64 m, .int .i64 (d + 1)] 30)) (.cells #[.int .i64 0, .int .i64 0, .int .i64 0] 30))) hb)
      have B2 : Aside0 (w1.heap[w.heap.size + 1]? = some (.cells #[.int .i64 0, .int .i64 0, .int .i64 0] 30 (0, 0))) := ⟨by have := blk_below (blk_drew (blk_new (w.alloc (.cells #[.int .i64 y, .int .i64 m, .int .i64 (d + 1)] 30)) (.cells #[.int .i64 0, .int .i64 0, .int .i64 0] 30))) hb; simpa using this⟩
      have GB : Aside0 (Below w.heap.size w w1) := ⟨below_step (below_drew1 (below_alloc (below_alloc (Below.refl _ _) _) _)) hb⟩
      clear hb
      have f0 := blk_frozen B1.out 0
      have f1 := blk_frozen B1.out 1
      have f2 := blk_frozen B1.out 2
      have g0 := blk_frozen B2.out 0
      have g1 := blk_frozen B2.out 1
      have g2 := blk_frozen B2.out 2
      have c0 : w1.cell? ⟨w.heap.size + 1, 0, none⟩ = some (.int .i64 0) := (blk_cell B2.out 0).trans rfl
      have c1 : w1.cell? ⟨w.heap.size + 1, 1, none⟩ = some (.int .i64 0) := (blk_cell B2.out 1).trans rfl
      have c2 : w1.cell? ⟨w.heap.size + 1, 2, none⟩ = some (.int .i64 0) := (blk_cell B2.out 2).trans rfl
      go_wp2_with fail
      refine bodyPost_ret (v := .agg #[.int .i64 (y + 1), .int .i64 (1), .int .i64 (1)]) (results_single (r := .cell 2 30) rfl (.cell (w.heap.size + 1) 30 #[.int .i64 (y + 1), .int .i64 (1), .int .i64 (1)] (0, 0) _ rfl ((blk_set (blk_set (blk_set (blk_far (blk_far (blk_far (blk_far B2.out (by simp) _) (by simp) _) (by simp) _) (by simp) _) 0 _) 1 _) 2 _).trans rfl) Try.underlying30 rfl (by kernel_rfl) .nil)) rfl ⟨rfl, ?_⟩
      exact (below_set (below_set (below_set (below_set (below_set (below_set (below_set GB.out (by simp)) (by simp)) (by simp)) (by simp)) (by simp)) (by simp)) (by simp))
    · have hv : Cal.valid y (m + 1) 1 := ⟨h1, h2, by omega, by omega, by omega, by have := Cal.mon_pos y (m + 1) (by omega) (by omega); omega⟩
      have hq : Cal.num y (m + 1) 1 = Cal.num y m d + 1 := by have := hs.out; unfold Cal.num; omega
      obtain ⟨rfl, rfl, rfl⟩ := Cal.num_inj _ _ _ _ _ _ hv H'.out (hq.trans HE.out.symm)
      clear hq hv HE H'
      go_enter Try.func25, Try.ntmps25
      go_wp2_with fail
      go_region_held3 (fun w' => w'.cell? ⟨w.heap.size, 0, none⟩ = some (.int .i64 y) ∧ w'.cell? ⟨w.heap.size, 1, none⟩ = some (.int .i64 m) ∧ w'.cell? ⟨w.heap.size, 2, none⟩ = some (.int .i64 (d + 1))) (go_keep) (first | (go_at_call 16; refine (rmonth_calls y m _).mono ?_; rintro e w1 ⟨rfl, hb⟩; have k0 : w1.cell? ⟨w.heap.size, 0, none⟩ = some (.int .i64 y) := pw_cell_below hb (by first | assumption | go_keep); have k1 : w1.cell? ⟨w.heap.size, 1, none⟩ = some (.int .i64 m) := pw_cell_below hb (by first | assumption | go_keep); have k2 : w1.cell? ⟨w.heap.size, 2, none⟩ = some (.int .i64 (d + 1)) := pw_cell_below hb (by first | assumption | go_keep)))
      have B1 := Aside0.mk (blk_below (blk_drew (blk_alloc (blk_new w (.cells #[.int .i64 y, .int .i64 m, .int .i64 (d + 1)] 30)) (.cells #[.int .i64 0, .int .i64 0, .int .i64 0] 30))) hb)
      have B2 : Aside0 (w1.heap[w.heap.size + 1]? = some (.cells #[.int .i64 0, .int .i64 0, .int .i64 0] 30 (0, 0))) := ⟨by have := blk_below (blk_drew (blk_new (w.alloc (.cells #[.int .i64 y, .int .i64 m, .int .i64 (d + 1)] 30)) (.cells #[.int .i64 0, .int .i64 0, .int .i64 0] 30))) hb; simpa using this⟩
      have GB : Aside0 (Below w.heap.size w w1) := ⟨below_step (below_drew1 (below_alloc (below_alloc (Below.refl _ _) _) _)) hb⟩
      clear hb
      have f0 := blk_frozen B1.out 0
      have f1 := blk_frozen B1.out 1
      have f2 := blk_frozen B1.out 2
      have g0 := blk_frozen B2.out 0
      have g1 := blk_frozen B2.out 1
      have g2 := blk_frozen B2.out 2
      have c0 : w1.cell? ⟨w.heap.size + 1, 0, none⟩ = some (.int .i64 0) := (blk_cell B2.out 0).trans rfl
      have c1 : w1.cell? ⟨w.heap.size + 1, 1, none⟩ = some (.int .i64 0) := (blk_cell B2.out 1).trans rfl
      have c2 : w1.cell? ⟨w.heap.size + 1, 2, none⟩ = some (.int .i64 0) := (blk_cell B2.out 2).trans rfl
      go_wp2_with fail
      refine bodyPost_ret (v := .agg #[.int .i64 y, .int .i64 (m + 1), .int .i64 1]) (results_single (r := .cell 2 30) rfl (.cell (w.heap.size + 1) 30 #[.int .i64 y, .int .i64 (m + 1), .int .i64 1] (0, 0) _ rfl ((blk_set (blk_set (blk_set (blk_far (blk_far B2.out (by simp) _) (by simp) _) 0 _) 1 _) 2 _).trans rfl) Try.underlying30 rfl (by kernel_rfl) .nil)) rfl ⟨rfl, ?_⟩
      exact (below_set (below_set (below_set (below_set (below_set GB.out (by simp)) (by simp)) (by simp)) (by simp)) (by simp))
  · have hm12 : ¬ 12 < m := by omega
    have hv : Cal.valid y m (d + 1) := ⟨h1, h2, h3, h4, by omega, by omega⟩
    have hq : Cal.num y m (d + 1) = Cal.num y m d + 1 := by unfold Cal.num; omega
    obtain ⟨rfl, rfl, rfl⟩ := Cal.num_inj _ _ _ _ _ _ hv H'.out (hq.trans HE.out.symm)
    clear hq hv HE H'
    go_enter Try.func25, Try.ntmps25
    go_wp2_with fail
    go_region_held3 (fun w' => w'.cell? ⟨w.heap.size, 0, none⟩ = some (.int .i64 y) ∧ w'.cell? ⟨w.heap.size, 1, none⟩ = some (.int .i64 m) ∧ w'.cell? ⟨w.heap.size, 2, none⟩ = some (.int .i64 (d + 1))) (go_keep) (first | (go_at_call 16; refine (rmonth_calls y m _).mono ?_; rintro e w1 ⟨rfl, hb⟩; have k0 : w1.cell? ⟨w.heap.size, 0, none⟩ = some (.int .i64 y) := pw_cell_below hb (by first | assumption | go_keep); have k1 : w1.cell? ⟨w.heap.size, 1, none⟩ = some (.int .i64 m) := pw_cell_below hb (by first | assumption | go_keep); have k2 : w1.cell? ⟨w.heap.size, 2, none⟩ = some (.int .i64 (d + 1)) := pw_cell_below hb (by first | assumption | go_keep)))
    have B1 := Aside0.mk (blk_below (blk_drew (blk_alloc (blk_new w (.cells #[.int .i64 y, .int .i64 m, .int .i64 (d + 1)] 30)) (.cells #[.int .i64 0, .int .i64 0, .int .i64 0] 30))) hb)
    have B2 : Aside0 (w1.heap[w.heap.size + 1]? = some (.cells #[.int .i64 0, .int .i64 0, .int .i64 0] 30 (0, 0))) := ⟨by have := blk_below (blk_drew (blk_new (w.alloc (.cells #[.int .i64 y, .int .i64 m, .int .i64 (d + 1)] 30)) (.cells #[.int .i64 0, .int .i64 0, .int .i64 0] 30))) hb; simpa using this⟩
    have GB : Aside0 (Below w.heap.size w w1) := ⟨below_step (below_drew1 (below_alloc (below_alloc (Below.refl _ _) _) _)) hb⟩
    clear hb
    have f0 := blk_frozen B1.out 0
    have f1 := blk_frozen B1.out 1
    have f2 := blk_frozen B1.out 2
    have g0 := blk_frozen B2.out 0
    have g1 := blk_frozen B2.out 1
    have g2 := blk_frozen B2.out 2
    have c0 : w1.cell? ⟨w.heap.size + 1, 0, none⟩ = some (.int .i64 0) := (blk_cell B2.out 0).trans rfl
    have c1 : w1.cell? ⟨w.heap.size + 1, 1, none⟩ = some (.int .i64 0) := (blk_cell B2.out 1).trans rfl
    have c2 : w1.cell? ⟨w.heap.size + 1, 2, none⟩ = some (.int .i64 0) := (blk_cell B2.out 2).trans rfl
    go_wp2_with fail
    refine bodyPost_ret (v := .agg #[.int .i64 y, .int .i64 m, .int .i64 (d + 1)]) (results_single (r := .cell 2 30) rfl (.cell (w.heap.size + 1) 30 #[.int .i64 y, .int .i64 m, .int .i64 (d + 1)] (0, 0) _ rfl ((blk_set (blk_set (blk_set B2.out 0 _) 1 _) 2 _).trans rfl) Try.underlying30 rfl (by kernel_rfl) .nil)) rfl ⟨rfl, ?_⟩
    exact (below_set (below_set (below_set GB.out (by simp)) (by simp)) (by simp))
theorem awake_calls (w : World) : Calls Try.prog 12 #[] w fun e w' => e = .returned (.bool true) ∧ Below w.heap.size w w' :=
  paybooklaw01_awake.calls 15 true w (awake_yes 15 (by omega))
set_option maxHeartbeats 4000000 in
theorem days_no (n : Int) (w : World) (h : n < 0 ∨ 3652058 < n) :
    Calls Try.prog 7 #[.int .i64 n] w fun e w' => e = .returned (.bool true) ∧ Below w.heap.size w w' := by
  have HO := Aside0.mk (of_no 1 (by omega) n h)
  rcases h with h | h
  · go_enter Try.func7, Try.ntmps7
    go_wp2_with fail
    refine (civil_Of.calls 1 n 0 0 0 1 _ HO.out).mono ?_
    rintro e w1 ⟨rfl, hb⟩
    have GB := Aside0.mk hb; clear hb
    go_wp2_with fail
    refine (awake_calls _).mono ?_
    rintro e w2 ⟨rfl, hb⟩
    have B3 := Aside0.mk (blk_below (blk_new w1 _) hb)
    have GB := Aside0.mk (below_step (below_alloc GB.out _) hb); clear hb
    have c0 : w2.cell? ⟨w1.heap.size, 0, none⟩ = some (.int .i64 0) := (blk_cell B3.out 0).trans rfl
    have c1 : w2.cell? ⟨w1.heap.size, 1, none⟩ = some (.int .i64 0) := (blk_cell B3.out 1).trans rfl
    have c2 : w2.cell? ⟨w1.heap.size, 2, none⟩ = some (.int .i64 0) := (blk_cell B3.out 2).trans rfl
    go_wp2_with fail
    go_ret
    exact ⟨rfl, GB.out⟩
  · go_enter Try.func7, Try.ntmps7
    go_wp2_with fail
    refine (civil_Of.calls 1 n 0 0 0 1 _ HO.out).mono ?_
    rintro e w1 ⟨rfl, hb⟩
    have GB := Aside0.mk hb; clear hb
    go_wp2_with fail
    refine (awake_calls _).mono ?_
    rintro e w2 ⟨rfl, hb⟩
    have B3 := Aside0.mk (blk_below (blk_new w1 _) hb)
    have GB := Aside0.mk (below_step (below_alloc GB.out _) hb); clear hb
    have c0 : w2.cell? ⟨w1.heap.size, 0, none⟩ = some (.int .i64 0) := (blk_cell B3.out 0).trans rfl
    have c1 : w2.cell? ⟨w1.heap.size, 1, none⟩ = some (.int .i64 0) := (blk_cell B3.out 1).trans rfl
    have c2 : w2.cell? ⟨w1.heap.size, 2, none⟩ = some (.int .i64 0) := (blk_cell B3.out 2).trans rfl
    go_wp2_with fail
    go_ret
    exact ⟨rfl, GB.out⟩
theorem rright_yes (y m d : Int) (w : World) (h : Cal.valid y m d) :
    Calls Try.prog 20 #[.agg #[.int .i64 y, .int .i64 m, .int .i64 d]] w fun e w' => e = .returned (.bool true) ∧ Below w.heap.size w w' :=
  paybookref01_Right.calls 1 y m d true w (by classical rw [rright_eq 1 (by omega)]; simp [h])
theorem number_calls (y m d n : Int) (w : World) (h : Cal.valid y m d) (hn : Cal.num y m d = n) :
    Calls Try.prog 19 #[.agg #[.int .i64 y, .int .i64 m, .int .i64 d]] w fun e w' => e = .returned (.tuple #[.int .i64 n, .int .i64 0]) ∧ Below w.heap.size w w' :=
  civil_Number.calls 15 y m d _ _ w (by rw [number_yes 15 (by omega) y m d h, hn])
theorem of_no_calls (n : Int) (w : World) (h : n < 0 ∨ 3652058 < n) :
    Calls Try.prog 22 #[.int .i64 n] w fun e w' => e = .returned (.tuple #[.agg #[.int .i64 0, .int .i64 0, .int .i64 0], .int .i64 1]) ∧ Below w.heap.size w w' :=
  civil_Of.calls 1 n 0 0 0 1 _ (of_no 1 (by omega) n h)
theorem of_yes_calls (n : Int) (w : World) (y m d : Int) (h : Cal.valid y m d) (e : Cal.num y m d = n) :
    Calls Try.prog 22 #[.int .i64 n] w fun e w' => e = .returned (.tuple #[.agg #[.int .i64 y, .int .i64 m, .int .i64 d], .int .i64 0]) ∧ Below w.heap.size w w' := by
  have hr := Cal.num_range y m d h
  obtain ⟨y', m', d', g1, g2, g3⟩ := of_yes 11000 (by omega) n (by omega) (by omega)
  obtain ⟨rfl, rfl, rfl⟩ := Cal.num_inj _ _ _ _ _ _ h g2 (e.trans g3.symm)
  exact civil_Of.calls 11000 n y m d 0 w g1
set_option maxHeartbeats 8000000 in
theorem days_yes (n : Int) (w : World) (h0 : 0 ≤ n) (h1 : n < 3652058) (y m d : Int) (hv : Cal.valid y m d) (hn : Cal.num y m d = n) (y' m' d' : Int) (hv' : Cal.valid y' m' d') (hn' : Cal.num y' m' d' = n + 1) :
    Calls Try.prog 7 #[.int .i64 n] w fun e w' => e = .returned (.bool true) ∧ Below w.heap.size w w' := by
  have HV := Aside0.mk hv
  have HN := Aside0.mk hn
  have HV' := Aside0.mk hv'
  have HN' := Aside0.mk hn'
  clear hv' hn'
  clear hv hn
  go_enter Try.func7, Try.ntmps7
  go_wp2_with fail
  refine (of_yes_calls n _ y m d HV.out HN.out).mono ?_
  rintro e w1 ⟨rfl, hb⟩
  have GB := Aside0.mk hb; clear hb
  go_wp2_with fail
  go_region_held3 (fun w' => w'.cell? ⟨w1.heap.size, 0, none⟩ = some (.int .i64 y) ∧ w'.cell? ⟨w1.heap.size, 1, none⟩ = some (.int .i64 m) ∧ w'.cell? ⟨w1.heap.size, 2, none⟩ = some (.int .i64 d)) (go_keep) (first | (go_at_call 24; refine (rof_calls n _ h0 (by omega) y m d HV.out HN.out).mono ?_; rintro e w2 ⟨rfl, hb⟩; have k0 : w2.cell? ⟨w1.heap.size, 0, none⟩ = some (.int .i64 y) := pw_cell_below hb (by first | assumption | go_keep); have k1 : w2.cell? ⟨w1.heap.size, 1, none⟩ = some (.int .i64 m) := pw_cell_below hb (by first | assumption | go_keep); have k2 : w2.cell? ⟨w1.heap.size, 2, none⟩ = some (.int .i64 d) := pw_cell_below hb (by first | assumption | go_keep)) | (go_at_call 20; refine (rright_yes y m d _ HV.out).mono ?_; rintro e w3 ⟨rfl, hb3⟩; have k0 : w3.cell? ⟨w1.heap.size, 0, none⟩ = some (.int .i64 y) := pw_cell_below hb3 (by first | assumption | go_keep); have k1 : w3.cell? ⟨w1.heap.size, 1, none⟩ = some (.int .i64 m) := pw_cell_below hb3 (by first | assumption | go_keep); have k2 : w3.cell? ⟨w1.heap.size, 2, none⟩ = some (.int .i64 d) := pw_cell_below hb3 (by first | assumption | go_keep)))
  have B3 := Aside0.mk (blk_below (blk_below (blk_drew (blk_new w1 (.cells #[.int .i64 y, .int .i64 m, .int .i64 d] 30))) hb) hb3)
  have GB : Aside0 (Below w.heap.size w w3) := ⟨below_step (below_step (below_drew1 (below_alloc GB.out _)) hb) hb3⟩
  clear hb hb3
  have hd1 : (n == 3652058) = false := beq_eq_false_iff_ne.2 (by omega)
  have hd2 : decide (n < 3652058) = true := decide_eq_true h1
  go_wp2_with fail
  refine (number_calls y m d n _ HV.out HN.out).mono ?_
  rintro e w4 ⟨rfl, hb⟩
  have B3 := Aside0.mk (blk_below B3.out hb)
  have GB := Aside0.mk (below_step GB.out hb)
  clear hb
  go_wp2_with fail
  refine (of_yes_calls (n + 1) _ y' m' d' HV'.out HN'.out).mono ?_
  rintro e w5 ⟨rfl, hb⟩
  have B3 := Aside0.mk (blk_below B3.out hb)
  have GB := Aside0.mk (below_step GB.out hb)
  have hlt := Aside0.mk (blk_lt B3.out)
  clear hb
  go_wp2_with fail
  have q0 : (w5.alloc (.cells #[.int .i64 y', .int .i64 m', .int .i64 d'] 30)).drew.cell? ⟨w1.heap.size, 0, none⟩ = some (.int .i64 y) := (World.cell?_alloc_lt _ _ _ hlt.out).trans ((blk_cell B3.out 0).trans rfl)
  have q1 : (w5.alloc (.cells #[.int .i64 y', .int .i64 m', .int .i64 d'] 30)).drew.cell? ⟨w1.heap.size, 1, none⟩ = some (.int .i64 m) := (World.cell?_alloc_lt _ _ _ hlt.out).trans ((blk_cell B3.out 1).trans rfl)
  have q2 : (w5.alloc (.cells #[.int .i64 y', .int .i64 m', .int .i64 d'] 30)).drew.cell? ⟨w1.heap.size, 2, none⟩ = some (.int .i64 d) := (World.cell?_alloc_lt _ _ _ hlt.out).trans ((blk_cell B3.out 2).trans rfl)
  have r0 : (w5.alloc (.cells #[.int .i64 y', .int .i64 m', .int .i64 d'] 30)).drew.cell? ⟨w5.heap.size, 0, none⟩ = some (.int .i64 y') := (blk_cell (blk_drew (blk_new w5 _)) 0).trans rfl
  have r1 : (w5.alloc (.cells #[.int .i64 y', .int .i64 m', .int .i64 d'] 30)).drew.cell? ⟨w5.heap.size, 1, none⟩ = some (.int .i64 m') := (blk_cell (blk_drew (blk_new w5 _)) 1).trans rfl
  have r2 : (w5.alloc (.cells #[.int .i64 y', .int .i64 m', .int .i64 d'] 30)).drew.cell? ⟨w5.heap.size, 2, none⟩ = some (.int .i64 d') := (blk_cell (blk_drew (blk_new w5 _)) 2).trans rfl
  refine start_ (n := 33) (S := fun w' => w'.cell? ⟨w1.heap.size, 0, none⟩ = some (.int .i64 y) ∧ w'.cell? ⟨w1.heap.size, 1, none⟩ = some (.int .i64 m) ∧ w'.cell? ⟨w1.heap.size, 2, none⟩ = some (.int .i64 d) ∧ w'.cell? ⟨w5.heap.size, 0, none⟩ = some (.int .i64 y') ∧ w'.cell? ⟨w5.heap.size, 1, none⟩ = some (.int .i64 m') ∧ w'.cell? ⟨w5.heap.size, 2, none⟩ = some (.int .i64 d')) (ds := []) #[false, false, false, false, false, false, false, false, false, false, false, false, false, false, false, false, false, false, false, false, false, false, false, false, false, false, false, false, false, false, false, false, false] (by kernel_rfl) rfl rfl ⟨q0, q1, q2, r0, r1, r2⟩ (fun hHeld => ?_)
  refine one_ (i := 0) (N := some 54) #[true, false, false, false, false, false, false, false, false, false, false, false, false, false, false, false, false, false, false, false, false, false, false, false, false, false, false, false, false, false, false, false, false] rfl rfl (by kernel_rfl) (by decide) (fun K hK => ?_)
  refine goes_ Try.func12 (by kernel_rfl) rfl #[] (by rfl) rfl rfl (by (try simp only [List.map_toArray, List.map_cons, List.map_nil]); first | done | rfl) ?_
  with_reducible refine (awake_calls _).mono ?_
  rintro e w6 ⟨rfl, hb6⟩
  refine ⟨_, rfl, ?_⟩
  have A6_0 := pw_cell_below hb6 q0
  have A6_1 := pw_cell_below hb6 q1
  have A6_2 := pw_cell_below hb6 q2
  have A6_3 := pw_cell_below hb6 r0
  have A6_4 := pw_cell_below hb6 r1
  have A6_5 := pw_cell_below hb6 r2
  refine hK.out _ _ ⟨A6_0, A6_1, A6_2, A6_3, A6_4, A6_5⟩ (fun hHeld => ?_)
  clear hK K
  refine norm_ (a' := ?_) ?_ ?_
  rotate_left
  · show Act.put _ (some 54) _ = _
    simp only [Act.put, List.setIfInBounds_toArray, List.set_cons_zero, List.set_cons_succ, i64_w, i32_w]
    rfl
  refine pure_ (i := 1) (N := some 55) (v := ?_) (a' := ?_) #[true, true, false, false, false, false, false, false, false, false, false, false, false, false, false, false, false, false, false, false, false, false, false, false, false, false, false, false, false, false, false, false, false] rfl rfl (by kernel_rfl) (fun _ _ _ h => h) (Or.inl ⟨by rfl, ?_⟩) ?_ ?_
  rotate_left
  · intro w'
    go_simp
    with_reducible rfl
  rotate_left
  · simp only [Act.put, List.setIfInBounds_toArray, List.set_cons_zero, List.set_cons_succ, i64_w, i32_w]
    rfl
  refine pure_ (i := 2) (N := some 56) (v := ?_) (a' := ?_) #[true, true, true, false, false, false, false, false, false, false, false, false, false, false, false, false, false, false, false, false, false, false, false, false, false, false, false, false, false, false, false, false, false] rfl rfl (by kernel_rfl) (fun _ _ _ h => h) (Or.inl ⟨by rfl, ?_⟩) ?_ ?_
  rotate_left
  · intro w'
    go_simp
    with_reducible rfl
  rotate_left
  · simp only [Act.put, List.setIfInBounds_toArray, List.set_cons_zero, List.set_cons_succ, i64_w, i32_w]
    rfl
  refine pure_ (i := 3) (N := some 57) (v := ?_) (a' := ?_) #[true, true, true, true, false, false, false, false, false, false, false, false, false, false, false, false, false, false, false, false, false, false, false, false, false, false, false, false, false, false, false, false, false] rfl rfl (by kernel_rfl) (fun _ _ _ h => h) (Or.inl ⟨by rfl, ?_⟩) ?_ ?_
  rotate_left
  · intro w'
    go_simp
    with_reducible rfl
  rotate_left
  · simp only [Act.put, List.setIfInBounds_toArray, List.set_cons_zero, List.set_cons_succ, i64_w, i32_w]
    rfl
  refine pure_ (i := 4) (N := some 58) (v := ?_) (a' := ?_) #[true, true, true, true, true, false, false, false, false, false, false, false, false, false, false, false, false, false, false, false, false, false, false, false, false, false, false, false, false, false, false, false, false] rfl rfl (by kernel_rfl) (fun _ _ _ h => h) (Or.inl ⟨by rfl, ?_⟩) ?_ ?_
  rotate_left
  · intro w'
    go_simp
    with_reducible rfl
  rotate_left
  · simp only [Act.put, List.setIfInBounds_toArray, List.set_cons_zero, List.set_cons_succ, i64_w, i32_w]
    rfl
  refine pure_ (i := 5) (N := some 59) (v := ?_) (a' := ?_) #[true, true, true, true, true, true, false, false, false, false, false, false, false, false, false, false, false, false, false, false, false, false, false, false, false, false, false, false, false, false, false, false, false] rfl rfl (by kernel_rfl) (fun _ _ _ h => h) (Or.inl ⟨by rfl, ?_⟩) ?_ ?_
  rotate_left
  · intro w'
    go_simp
    with_reducible rfl
  rotate_left
  · simp only [Act.put, List.setIfInBounds_toArray, List.set_cons_zero, List.set_cons_succ, i64_w, i32_w]
    rfl
  refine pure_ (i := 6) (N := some 60) (v := ?_) (a' := ?_) #[true, true, true, true, true, true, true, false, false, false, false, false, false, false, false, false, false, false, false, false, false, false, false, false, false, false, false, false, false, false, false, false, false] rfl rfl (by kernel_rfl) (fun _ _ _ h => h) (Or.inl ⟨by rfl, ?_⟩) ?_ ?_
  rotate_left
  · intro w'
    go_simp
    with_reducible rfl
  rotate_left
  · simp only [Act.put, List.setIfInBounds_toArray, List.set_cons_zero, List.set_cons_succ, i64_w, i32_w]
    rfl
  refine pure_ (i := 7) (N := some 61) (v := ?_) (a' := ?_) #[true, true, true, true, true, true, true, true, false, false, false, false, false, false, false, false, false, false, false, false, false, false, false, false, false, false, false, false, false, false, false, false, false] rfl rfl (by kernel_rfl) (fun _ _ _ h => h) (Or.inl ⟨by rfl, ?_⟩) ?_ ?_
  rotate_left
  · intro w'
    go_simp
    with_reducible rfl
  rotate_left
  · simp only [Act.put, List.setIfInBounds_toArray, List.set_cons_zero, List.set_cons_succ, i64_w, i32_w]
    rfl
  refine pure_ (i := 8) (N := some 62) (v := ?_) (a' := ?_) #[true, true, true, true, true, true, true, true, true, false, false, false, false, false, false, false, false, false, false, false, false, false, false, false, false, false, false, false, false, false, false, false, false] rfl rfl (by kernel_rfl) (fun _ _ _ h => h) (Or.inl ⟨by rfl, ?_⟩) ?_ ?_
  rotate_left
  · intro w'
    go_simp
    with_reducible rfl
  rotate_left
  · simp only [Act.put, List.setIfInBounds_toArray, List.set_cons_zero, List.set_cons_succ, i64_w, i32_w]
    rfl
  refine pure_ (i := 9) (N := some 63) (v := ?_) (a' := ?_) #[true, true, true, true, true, true, true, true, true, true, false, false, false, false, false, false, false, false, false, false, false, false, false, false, false, false, false, false, false, false, false, false, false] rfl rfl (by kernel_rfl) (fun _ _ _ h => h) (Or.inl ⟨by rfl, ?_⟩) ?_ ?_
  rotate_left
  · intro w'
    go_simp
    with_reducible rfl
  rotate_left
  · simp only [Act.put, List.setIfInBounds_toArray, List.set_cons_zero, List.set_cons_succ, i64_w, i32_w]
    rfl
  refine pure_ (i := 10) (N := some 64) (v := ?_) (a' := ?_) #[true, true, true, true, true, true, true, true, true, true, true, false, false, false, false, false, false, false, false, false, false, false, false, false, false, false, false, false, false, false, false, false, false] rfl rfl (by kernel_rfl) (fun _ _ _ h => h) (Or.inl ⟨by rfl, ?_⟩) ?_ ?_
  rotate_left
  · intro w'
    go_simp
    with_reducible rfl
  rotate_left
  · simp only [Act.put, List.setIfInBounds_toArray, List.set_cons_zero, List.set_cons_succ, i64_w, i32_w]
    rfl
  refine pure_ (i := 11) (N := some 65) (v := ?_) (a' := ?_) #[true, true, true, true, true, true, true, true, true, true, true, true, false, false, false, false, false, false, false, false, false, false, false, false, false, false, false, false, false, false, false, false, false] rfl rfl (by kernel_rfl) (fun _ _ _ h => h) (Or.inl ⟨by rfl, ?_⟩) ?_ ?_
  rotate_left
  · intro w'
    go_simp
    with_reducible rfl
  rotate_left
  · simp only [Act.put, List.setIfInBounds_toArray, List.set_cons_zero, List.set_cons_succ, i64_w, i32_w]
    rfl
  refine pure_ (i := 12) (N := some 66) (v := ?_) (a' := ?_) #[true, true, true, true, true, true, true, true, true, true, true, true, true, false, false, false, false, false, false, false, false, false, false, false, false, false, false, false, false, false, false, false, false] rfl rfl (by kernel_rfl) (fun _ _ _ h => h) (Or.inl ⟨by rfl, ?_⟩) ?_ ?_
  rotate_left
  · intro w'
    go_simp
    with_reducible rfl
  rotate_left
  · simp only [Act.put, List.setIfInBounds_toArray, List.set_cons_zero, List.set_cons_succ, i64_w, i32_w]
    rfl
  refine pure_ (i := 13) (N := some 67) (v := ?_) (a' := ?_) #[true, true, true, true, true, true, true, true, true, true, true, true, true, true, false, false, false, false, false, false, false, false, false, false, false, false, false, false, false, false, false, false, false] rfl rfl (by kernel_rfl) (fun _ _ _ h => h) (Or.inl ⟨by rfl, ?_⟩) ?_ ?_
  rotate_left
  · intro w'
    go_simp
    with_reducible rfl
  rotate_left
  · simp only [Act.put, List.setIfInBounds_toArray, List.set_cons_zero, List.set_cons_succ, i64_w, i32_w]
    rfl
  refine pure_ (i := 14) (N := some 68) (v := undef) (a' := ?_) #[true, true, true, true, true, true, true, true, true, true, true, true, true, true, true, false, false, false, false, false, false, false, false, false, false, false, false, false, false, false, false, false, false] rfl rfl (by kernel_rfl) (fun _ _ _ h => h) (Or.inr ⟨by rfl, rfl⟩) ?_ ?_
  rotate_left
  · simp only [Act.put, List.setIfInBounds_toArray, List.set_cons_zero, List.set_cons_succ, i64_w, i32_w]
    rfl
  refine pure_ (i := 15) (N := some 69) (v := undef) (a' := ?_) #[true, true, true, true, true, true, true, true, true, true, true, true, true, true, true, true, false, false, false, false, false, false, false, false, false, false, false, false, false, false, false, false, false] rfl rfl (by kernel_rfl) (fun _ _ _ h => h) (Or.inr ⟨by rfl, rfl⟩) ?_ ?_
  rotate_left
  · simp only [Act.put, List.setIfInBounds_toArray, List.set_cons_zero, List.set_cons_succ, i64_w, i32_w]
    rfl
  refine pure_ (i := 16) (N := some 70) (v := ?_) (a' := ?_) #[true, true, true, true, true, true, true, true, true, true, true, true, true, true, true, true, true, false, false, false, false, false, false, false, false, false, false, false, false, false, false, false, false] rfl rfl (by kernel_rfl) (fun _ _ _ h => h) (Or.inl ⟨by rfl, ?_⟩) ?_ ?_
  rotate_left
  · intro w'
    go_simp
    with_reducible rfl
  rotate_left
  · simp only [Act.put, List.setIfInBounds_toArray, List.set_cons_zero, List.set_cons_succ, i64_w, i32_w]
    rfl
  refine pure_ (i := 17) (N := some 71) (v := ?_) (a' := ?_) #[true, true, true, true, true, true, true, true, true, true, true, true, true, true, true, true, true, true, false, false, false, false, false, false, false, false, false, false, false, false, false, false, false] rfl rfl (by kernel_rfl) (fun _ _ _ h => h) (Or.inl ⟨by rfl, ?_⟩) ?_ ?_
  rotate_left
  · intro w'
    go_simp
    with_reducible rfl
  rotate_left
  · simp only [Act.put, List.setIfInBounds_toArray, List.set_cons_zero, List.set_cons_succ, i64_w, i32_w]
    rfl
  refine pure_ (i := 18) (N := some 72) (v := ?_) (a' := ?_) #[true, true, true, true, true, true, true, true, true, true, true, true, true, true, true, true, true, true, true, false, false, false, false, false, false, false, false, false, false, false, false, false, false] rfl rfl (by kernel_rfl) (fun _ _ _ h => h) (Or.inl ⟨by rfl, ?_⟩) ?_ ?_
  rotate_left
  · intro w'
    go_simp
    with_reducible rfl
  rotate_left
  · simp only [Act.put, List.setIfInBounds_toArray, List.set_cons_zero, List.set_cons_succ, i64_w, i32_w]
    rfl
  refine pure_ (i := 19) (N := some 73) (v := ?_) (a' := ?_) #[true, true, true, true, true, true, true, true, true, true, true, true, true, true, true, true, true, true, true, true, false, false, false, false, false, false, false, false, false, false, false, false, false] rfl rfl (by kernel_rfl) (fun _ _ _ h => h) (Or.inl ⟨by rfl, ?_⟩) ?_ ?_
  rotate_left
  · intro w'
    go_simp
    with_reducible rfl
  rotate_left
  · simp only [Act.put, List.setIfInBounds_toArray, List.set_cons_zero, List.set_cons_succ, i64_w, i32_w]
    rfl
  refine pure_ (i := 20) (N := some 74) (v := ?_) (a' := ?_) #[true, true, true, true, true, true, true, true, true, true, true, true, true, true, true, true, true, true, true, true, true, false, false, false, false, false, false, false, false, false, false, false, false] rfl rfl (by kernel_rfl) (fun _ _ _ h => h) (Or.inl ⟨by rfl, ?_⟩) ?_ ?_
  rotate_left
  · intro w'
    go_simp
    with_reducible rfl
  rotate_left
  · simp only [Act.put, List.setIfInBounds_toArray, List.set_cons_zero, List.set_cons_succ, i64_w, i32_w]
    rfl
  refine pure_ (i := 21) (N := some 75) (v := ?_) (a' := ?_) #[true, true, true, true, true, true, true, true, true, true, true, true, true, true, true, true, true, true, true, true, true, true, false, false, false, false, false, false, false, false, false, false, false] rfl rfl (by kernel_rfl) (fun _ _ _ h => h) (Or.inl ⟨by rfl, ?_⟩) ?_ ?_
  rotate_left
  · intro w'
    go_simp
    with_reducible rfl
  rotate_left
  · simp only [Act.put, List.setIfInBounds_toArray, List.set_cons_zero, List.set_cons_succ, i64_w, i32_w]
    rfl
  refine pure_ (i := 22) (N := some 76) (v := ?_) (a' := ?_) #[true, true, true, true, true, true, true, true, true, true, true, true, true, true, true, true, true, true, true, true, true, true, true, false, false, false, false, false, false, false, false, false, false] rfl rfl (by kernel_rfl) (fun _ _ _ h => h) (Or.inl ⟨by rfl, ?_⟩) ?_ ?_
  rotate_left
  · intro w'
    go_simp
    with_reducible rfl
  rotate_left
  · simp only [Act.put, List.setIfInBounds_toArray, List.set_cons_zero, List.set_cons_succ, i64_w, i32_w]
    rfl
  refine pure_ (i := 23) (N := some 77) (v := ?_) (a' := ?_) #[true, true, true, true, true, true, true, true, true, true, true, true, true, true, true, true, true, true, true, true, true, true, true, true, false, false, false, false, false, false, false, false, false] rfl rfl (by kernel_rfl) (fun _ _ _ h => h) (Or.inl ⟨by rfl, ?_⟩) ?_ ?_
  rotate_left
  · intro w'
    go_simp
    with_reducible rfl
  rotate_left
  · simp only [Act.put, List.setIfInBounds_toArray, List.set_cons_zero, List.set_cons_succ, i64_w, i32_w]
    rfl
  refine pure_ (i := 24) (N := some 78) (v := ?_) (a' := ?_) #[true, true, true, true, true, true, true, true, true, true, true, true, true, true, true, true, true, true, true, true, true, true, true, true, true, false, false, false, false, false, false, false, false] rfl rfl (by kernel_rfl) (fun _ _ _ h => h) (Or.inl ⟨by rfl, ?_⟩) ?_ ?_
  rotate_left
  · intro w'
    go_simp
    with_reducible rfl
  rotate_left
  · simp only [Act.put, List.setIfInBounds_toArray, List.set_cons_zero, List.set_cons_succ, i64_w, i32_w]
    rfl
  refine take_ (i := 25) (N := some 79) (v := ?_) (a' := ?_) #[true, true, true, true, true, true, true, true, true, true, true, true, true, true, true, true, true, true, true, true, true, true, true, true, true, true, false, false, false, false, false, false, false] rfl rfl (by kernel_rfl) (fun _ _ _ h => h) (Or.inl ⟨by rfl, ?_⟩) hHeld ?_ ?_
  rotate_left
  · rintro w' ⟨s0, s1, s2, s3, s4, s5⟩
    go_simp
    with_reducible rfl
  rotate_left
  · simp only [Act.put, List.setIfInBounds_toArray, List.set_cons_zero, List.set_cons_succ, i64_w, i32_w]
    rfl
  refine take_ (i := 26) (N := some 80) (v := ?_) (a' := ?_) #[true, true, true, true, true, true, true, true, true, true, true, true, true, true, true, true, true, true, true, true, true, true, true, true, true, true, true, false, false, false, false, false, false] rfl rfl (by kernel_rfl) (fun _ _ _ h => h) (Or.inl ⟨by rfl, ?_⟩) hHeld ?_ ?_
  rotate_left
  · rintro w' ⟨s0, s1, s2, s3, s4, s5⟩
    go_simp
    with_reducible rfl
  rotate_left
  · simp only [Act.put, List.setIfInBounds_toArray, List.set_cons_zero, List.set_cons_succ, i64_w, i32_w]
    rfl
  refine one_ (i := 27) (N := some 81) #[true, true, true, true, true, true, true, true, true, true, true, true, true, true, true, true, true, true, true, true, true, true, true, true, true, true, true, true, false, false, false, false, false] rfl rfl (by kernel_rfl) (by decide) (fun K hK => ?_)
  refine goes_ Try.func25 (by kernel_rfl) rfl #[.agg #[.int .i64 y, .int .i64 m, .int .i64 d]] (by rfl) rfl rfl (by (try simp only [List.map_toArray, List.map_cons, List.map_nil]); first | done | rfl) ?_
  with_reducible refine (rnext_calls y m d _ HV.out y' m' d' HV'.out (HN'.out.trans (by rw [HN.out]))).mono ?_
  rintro e w7 ⟨rfl, hb7⟩
  refine ⟨_, rfl, ?_⟩
  have A7_0 := pw_cell_below hb7 A6_0
  have A7_1 := pw_cell_below hb7 A6_1
  have A7_2 := pw_cell_below hb7 A6_2
  have A7_3 := pw_cell_below hb7 A6_3
  have A7_4 := pw_cell_below hb7 A6_4
  have A7_5 := pw_cell_below hb7 A6_5
  refine hK.out _ _ ⟨A7_0, A7_1, A7_2, A7_3, A7_4, A7_5⟩ (fun hHeld => ?_)
  clear hK K
  refine norm_ (a' := ?_) ?_ ?_
  rotate_left
  · show Act.put _ (some 81) _ = _
    simp only [Act.put, List.setIfInBounds_toArray, List.set_cons_zero, List.set_cons_succ, i64_w, i32_w]
    rfl
  refine pure_ (i := 28) (N := some 82) (v := ?_) (a' := ?_) #[true, true, true, true, true, true, true, true, true, true, true, true, true, true, true, true, true, true, true, true, true, true, true, true, true, true, true, true, true, false, false, false, false] rfl rfl (by kernel_rfl) (fun _ _ _ h => h) (Or.inl ⟨by rfl, ?_⟩) ?_ ?_
  rotate_left
  · intro w'
    go_simp
    with_reducible rfl
  rotate_left
  · simp only [Act.put, List.setIfInBounds_toArray, List.set_cons_zero, List.set_cons_succ, i64_w, i32_w]
    rfl
  refine pure_ (i := 29) (N := some 83) (v := ?_) (a' := ?_) #[true, true, true, true, true, true, true, true, true, true, true, true, true, true, true, true, true, true, true, true, true, true, true, true, true, true, true, true, true, true, false, false, false] rfl rfl (by kernel_rfl) (fun _ _ _ h => h) (Or.inl ⟨by rfl, ?_⟩) ?_ ?_
  rotate_left
  · intro w'
    go_simp
    with_reducible rfl
  rotate_left
  · simp only [Act.put, List.setIfInBounds_toArray, List.set_cons_zero, List.set_cons_succ, i64_w, i32_w]
    rfl
  refine pure_ (i := 30) (N := some 84) (v := ?_) (a' := ?_) #[true, true, true, true, true, true, true, true, true, true, true, true, true, true, true, true, true, true, true, true, true, true, true, true, true, true, true, true, true, true, true, false, false] rfl rfl (by kernel_rfl) (fun _ _ _ h => h) (Or.inl ⟨by rfl, ?_⟩) ?_ ?_
  rotate_left
  · intro w'
    go_simp
    with_reducible rfl
  rotate_left
  · simp only [Act.put, List.setIfInBounds_toArray, List.set_cons_zero, List.set_cons_succ, i64_w, i32_w]
    rfl
  refine pure_ (i := 31) (N := some 85) (v := ?_) (a' := ?_) #[true, true, true, true, true, true, true, true, true, true, true, true, true, true, true, true, true, true, true, true, true, true, true, true, true, true, true, true, true, true, true, true, false] rfl rfl (by kernel_rfl) (fun _ _ _ h => h) (Or.inl ⟨by rfl, ?_⟩) ?_ ?_
  rotate_left
  · intro w'
    go_simp
    with_reducible rfl
  rotate_left
  · simp only [Act.put, List.setIfInBounds_toArray, List.set_cons_zero, List.set_cons_succ, i64_w, i32_w]
    rfl
  refine pure_ (i := 32) (N := some 2) (v := ?_) (a' := ?_) #[true, true, true, true, true, true, true, true, true, true, true, true, true, true, true, true, true, true, true, true, true, true, true, true, true, true, true, true, true, true, true, true, true] rfl rfl (by kernel_rfl) (fun _ _ _ h => h) (Or.inl ⟨by rfl, ?_⟩) ?_ ?_
  rotate_left
  · intro w'
    go_simp
    with_reducible rfl
  rotate_left
  · simp only [Act.put, List.setIfInBounds_toArray, List.set_cons_zero, List.set_cons_succ, i64_w, i32_w]
    rfl
  refine done_ (by kernel_rfl) ?_
  go_wp2_with fail
  go_ret
  exact ⟨by first | rfl | (simp; done), below_step (below_step (below_drew1 (below_alloc GB.out _)) hb6) hb7⟩
set_option maxHeartbeats 8000000 in
theorem days_last (n : Int) (w : World) (h0 : 0 ≤ n) (h1 : n = 3652058) (y m d : Int) (hv : Cal.valid y m d) (hn : Cal.num y m d = n) :
    Calls Try.prog 7 #[.int .i64 n] w fun e w' => e = .returned (.bool true) ∧ Below w.heap.size w w' := by
  have HV := Aside0.mk hv
  have HN := Aside0.mk hn
  have h1a : 3652058 ≤ n := by omega
  have h1b : n ≤ 3652058 := by omega
  have hd1 : (n == 3652058) = true := beq_iff_eq.2 h1
  have hd2 : decide (n < 3652058) = false := decide_eq_false (by omega)
  clear h1
  clear hv hn
  go_enter Try.func7, Try.ntmps7
  go_wp2_with fail
  refine (of_yes_calls n _ y m d HV.out HN.out).mono ?_
  rintro e w1 ⟨rfl, hb⟩
  have GB := Aside0.mk hb; clear hb
  go_wp2_with fail
  go_region_held3 (fun w' => w'.cell? ⟨w1.heap.size, 0, none⟩ = some (.int .i64 y) ∧ w'.cell? ⟨w1.heap.size, 1, none⟩ = some (.int .i64 m) ∧ w'.cell? ⟨w1.heap.size, 2, none⟩ = some (.int .i64 d)) (go_keep) (first | (go_at_call 24; refine (rof_calls n _ h0 (by omega) y m d HV.out HN.out).mono ?_; rintro e w2 ⟨rfl, hb⟩; have k0 : w2.cell? ⟨w1.heap.size, 0, none⟩ = some (.int .i64 y) := pw_cell_below hb (by first | assumption | go_keep); have k1 : w2.cell? ⟨w1.heap.size, 1, none⟩ = some (.int .i64 m) := pw_cell_below hb (by first | assumption | go_keep); have k2 : w2.cell? ⟨w1.heap.size, 2, none⟩ = some (.int .i64 d) := pw_cell_below hb (by first | assumption | go_keep)) | (go_at_call 20; refine (rright_yes y m d _ HV.out).mono ?_; rintro e w3 ⟨rfl, hb3⟩; have k0 : w3.cell? ⟨w1.heap.size, 0, none⟩ = some (.int .i64 y) := pw_cell_below hb3 (by first | assumption | go_keep); have k1 : w3.cell? ⟨w1.heap.size, 1, none⟩ = some (.int .i64 m) := pw_cell_below hb3 (by first | assumption | go_keep); have k2 : w3.cell? ⟨w1.heap.size, 2, none⟩ = some (.int .i64 d) := pw_cell_below hb3 (by first | assumption | go_keep)))
  have B3 := Aside0.mk (blk_below (blk_below (blk_drew (blk_new w1 (.cells #[.int .i64 y, .int .i64 m, .int .i64 d] 30))) hb) hb3)
  have GB : Aside0 (Below w.heap.size w w3) := ⟨below_step (below_step (below_drew1 (below_alloc GB.out _)) hb) hb3⟩
  clear hb hb3
  go_wp2_with fail
  refine (number_calls y m d n _ HV.out HN.out).mono ?_
  rintro e w4 ⟨rfl, hb⟩
  have B3 := Aside0.mk (blk_below B3.out hb)
  have GB := Aside0.mk (below_step GB.out hb)
  clear hb
  go_wp2_with fail
  refine (of_no_calls (n + 1) _ (Or.inr (by omega))).mono ?_
  rintro e w5 ⟨rfl, hb⟩
  have B3 := Aside0.mk (blk_below B3.out hb)
  have GB := Aside0.mk (below_step GB.out hb)
  have hlt := Aside0.mk (blk_lt B3.out)
  clear hb
  go_wp2_with fail
  have q0 : (w5.alloc (.cells #[.int .i64 0, .int .i64 0, .int .i64 0] 30)).drew.cell? ⟨w1.heap.size, 0, none⟩ = some (.int .i64 y) := (World.cell?_alloc_lt _ _ _ hlt.out).trans ((blk_cell B3.out 0).trans rfl)
  have q1 : (w5.alloc (.cells #[.int .i64 0, .int .i64 0, .int .i64 0] 30)).drew.cell? ⟨w1.heap.size, 1, none⟩ = some (.int .i64 m) := (World.cell?_alloc_lt _ _ _ hlt.out).trans ((blk_cell B3.out 1).trans rfl)
  have q2 : (w5.alloc (.cells #[.int .i64 0, .int .i64 0, .int .i64 0] 30)).drew.cell? ⟨w1.heap.size, 2, none⟩ = some (.int .i64 d) := (World.cell?_alloc_lt _ _ _ hlt.out).trans ((blk_cell B3.out 2).trans rfl)
  have r0 : (w5.alloc (.cells #[.int .i64 0, .int .i64 0, .int .i64 0] 30)).drew.cell? ⟨w5.heap.size, 0, none⟩ = some (.int .i64 0) := (blk_cell (blk_drew (blk_new w5 _)) 0).trans rfl
  have r1 : (w5.alloc (.cells #[.int .i64 0, .int .i64 0, .int .i64 0] 30)).drew.cell? ⟨w5.heap.size, 1, none⟩ = some (.int .i64 0) := (blk_cell (blk_drew (blk_new w5 _)) 1).trans rfl
  have r2 : (w5.alloc (.cells #[.int .i64 0, .int .i64 0, .int .i64 0] 30)).drew.cell? ⟨w5.heap.size, 2, none⟩ = some (.int .i64 0) := (blk_cell (blk_drew (blk_new w5 _)) 2).trans rfl
  refine start_ (n := 33) (S := fun w' => w'.cell? ⟨w1.heap.size, 0, none⟩ = some (.int .i64 y) ∧ w'.cell? ⟨w1.heap.size, 1, none⟩ = some (.int .i64 m) ∧ w'.cell? ⟨w1.heap.size, 2, none⟩ = some (.int .i64 d) ∧ w'.cell? ⟨w5.heap.size, 0, none⟩ = some (.int .i64 0) ∧ w'.cell? ⟨w5.heap.size, 1, none⟩ = some (.int .i64 0) ∧ w'.cell? ⟨w5.heap.size, 2, none⟩ = some (.int .i64 0)) (ds := []) #[false, false, false, false, false, false, false, false, false, false, false, false, false, false, false, false, false, false, false, false, false, false, false, false, false, false, false, false, false, false, false, false, false] (by kernel_rfl) rfl rfl ⟨q0, q1, q2, r0, r1, r2⟩ (fun hHeld => ?_)
  refine one_ (i := 0) (N := some 54) #[true, false, false, false, false, false, false, false, false, false, false, false, false, false, false, false, false, false, false, false, false, false, false, false, false, false, false, false, false, false, false, false, false] rfl rfl (by kernel_rfl) (by decide) (fun K hK => ?_)
  refine goes_ Try.func12 (by kernel_rfl) rfl #[] (by rfl) rfl rfl (by (try simp only [List.map_toArray, List.map_cons, List.map_nil]); first | done | rfl) ?_
  with_reducible refine (awake_calls _).mono ?_
  rintro e w6 ⟨rfl, hb6⟩
  refine ⟨_, rfl, ?_⟩
  have A6_0 := pw_cell_below hb6 q0
  have A6_1 := pw_cell_below hb6 q1
  have A6_2 := pw_cell_below hb6 q2
  have A6_3 := pw_cell_below hb6 r0
  have A6_4 := pw_cell_below hb6 r1
  have A6_5 := pw_cell_below hb6 r2
  refine hK.out _ _ ⟨A6_0, A6_1, A6_2, A6_3, A6_4, A6_5⟩ (fun hHeld => ?_)
  clear hK K
  refine norm_ (a' := ?_) ?_ ?_
  rotate_left
  · show Act.put _ (some 54) _ = _
    simp only [Act.put, List.setIfInBounds_toArray, List.set_cons_zero, List.set_cons_succ, i64_w, i32_w]
    rfl
  refine pure_ (i := 1) (N := some 55) (v := ?_) (a' := ?_) #[true, true, false, false, false, false, false, false, false, false, false, false, false, false, false, false, false, false, false, false, false, false, false, false, false, false, false, false, false, false, false, false, false] rfl rfl (by kernel_rfl) (fun _ _ _ h => h) (Or.inl ⟨by rfl, ?_⟩) ?_ ?_
  rotate_left
  · intro w'
    go_simp
    with_reducible rfl
  rotate_left
  · simp only [Act.put, List.setIfInBounds_toArray, List.set_cons_zero, List.set_cons_succ, i64_w, i32_w]
    rfl
  refine pure_ (i := 2) (N := some 56) (v := ?_) (a' := ?_) #[true, true, true, false, false, false, false, false, false, false, false, false, false, false, false, false, false, false, false, false, false, false, false, false, false, false, false, false, false, false, false, false, false] rfl rfl (by kernel_rfl) (fun _ _ _ h => h) (Or.inl ⟨by rfl, ?_⟩) ?_ ?_
  rotate_left
  · intro w'
    go_simp
    with_reducible rfl
  rotate_left
  · simp only [Act.put, List.setIfInBounds_toArray, List.set_cons_zero, List.set_cons_succ, i64_w, i32_w]
    rfl
  refine pure_ (i := 3) (N := some 57) (v := ?_) (a' := ?_) #[true, true, true, true, false, false, false, false, false, false, false, false, false, false, false, false, false, false, false, false, false, false, false, false, false, false, false, false, false, false, false, false, false] rfl rfl (by kernel_rfl) (fun _ _ _ h => h) (Or.inl ⟨by rfl, ?_⟩) ?_ ?_
  rotate_left
  · intro w'
    go_simp
    with_reducible rfl
  rotate_left
  · simp only [Act.put, List.setIfInBounds_toArray, List.set_cons_zero, List.set_cons_succ, i64_w, i32_w]
    rfl
  refine pure_ (i := 4) (N := some 58) (v := ?_) (a' := ?_) #[true, true, true, true, true, false, false, false, false, false, false, false, false, false, false, false, false, false, false, false, false, false, false, false, false, false, false, false, false, false, false, false, false] rfl rfl (by kernel_rfl) (fun _ _ _ h => h) (Or.inl ⟨by rfl, ?_⟩) ?_ ?_
  rotate_left
  · intro w'
    go_simp
    with_reducible rfl
  rotate_left
  · simp only [Act.put, List.setIfInBounds_toArray, List.set_cons_zero, List.set_cons_succ, i64_w, i32_w]
    rfl
  refine pure_ (i := 5) (N := some 59) (v := ?_) (a' := ?_) #[true, true, true, true, true, true, false, false, false, false, false, false, false, false, false, false, false, false, false, false, false, false, false, false, false, false, false, false, false, false, false, false, false] rfl rfl (by kernel_rfl) (fun _ _ _ h => h) (Or.inl ⟨by rfl, ?_⟩) ?_ ?_
  rotate_left
  · intro w'
    go_simp
    with_reducible rfl
  rotate_left
  · simp only [Act.put, List.setIfInBounds_toArray, List.set_cons_zero, List.set_cons_succ, i64_w, i32_w]
    rfl
  refine pure_ (i := 6) (N := some 60) (v := ?_) (a' := ?_) #[true, true, true, true, true, true, true, false, false, false, false, false, false, false, false, false, false, false, false, false, false, false, false, false, false, false, false, false, false, false, false, false, false] rfl rfl (by kernel_rfl) (fun _ _ _ h => h) (Or.inl ⟨by rfl, ?_⟩) ?_ ?_
  rotate_left
  · intro w'
    go_simp
    with_reducible rfl
  rotate_left
  · simp only [Act.put, List.setIfInBounds_toArray, List.set_cons_zero, List.set_cons_succ, i64_w, i32_w]
    rfl
  refine pure_ (i := 7) (N := some 61) (v := ?_) (a' := ?_) #[true, true, true, true, true, true, true, true, false, false, false, false, false, false, false, false, false, false, false, false, false, false, false, false, false, false, false, false, false, false, false, false, false] rfl rfl (by kernel_rfl) (fun _ _ _ h => h) (Or.inl ⟨by rfl, ?_⟩) ?_ ?_
  rotate_left
  · intro w'
    go_simp
    with_reducible rfl
  rotate_left
  · simp only [Act.put, List.setIfInBounds_toArray, List.set_cons_zero, List.set_cons_succ, i64_w, i32_w]
    rfl
  refine pure_ (i := 8) (N := some 62) (v := ?_) (a' := ?_) #[true, true, true, true, true, true, true, true, true, false, false, false, false, false, false, false, false, false, false, false, false, false, false, false, false, false, false, false, false, false, false, false, false] rfl rfl (by kernel_rfl) (fun _ _ _ h => h) (Or.inl ⟨by rfl, ?_⟩) ?_ ?_
  rotate_left
  · intro w'
    go_simp
    with_reducible rfl
  rotate_left
  · simp only [Act.put, List.setIfInBounds_toArray, List.set_cons_zero, List.set_cons_succ, i64_w, i32_w]
    rfl
  refine pure_ (i := 9) (N := some 63) (v := ?_) (a' := ?_) #[true, true, true, true, true, true, true, true, true, true, false, false, false, false, false, false, false, false, false, false, false, false, false, false, false, false, false, false, false, false, false, false, false] rfl rfl (by kernel_rfl) (fun _ _ _ h => h) (Or.inl ⟨by rfl, ?_⟩) ?_ ?_
  rotate_left
  · intro w'
    go_simp
    with_reducible rfl
  rotate_left
  · simp only [Act.put, List.setIfInBounds_toArray, List.set_cons_zero, List.set_cons_succ, i64_w, i32_w]
    rfl
  refine pure_ (i := 10) (N := some 64) (v := ?_) (a' := ?_) #[true, true, true, true, true, true, true, true, true, true, true, false, false, false, false, false, false, false, false, false, false, false, false, false, false, false, false, false, false, false, false, false, false] rfl rfl (by kernel_rfl) (fun _ _ _ h => h) (Or.inl ⟨by rfl, ?_⟩) ?_ ?_
  rotate_left
  · intro w'
    go_simp
    with_reducible rfl
  rotate_left
  · simp only [Act.put, List.setIfInBounds_toArray, List.set_cons_zero, List.set_cons_succ, i64_w, i32_w]
    rfl
  refine pure_ (i := 11) (N := some 65) (v := ?_) (a' := ?_) #[true, true, true, true, true, true, true, true, true, true, true, true, false, false, false, false, false, false, false, false, false, false, false, false, false, false, false, false, false, false, false, false, false] rfl rfl (by kernel_rfl) (fun _ _ _ h => h) (Or.inl ⟨by rfl, ?_⟩) ?_ ?_
  rotate_left
  · intro w'
    go_simp
    with_reducible rfl
  rotate_left
  · simp only [Act.put, List.setIfInBounds_toArray, List.set_cons_zero, List.set_cons_succ, i64_w, i32_w]
    rfl
  refine pure_ (i := 12) (N := some 66) (v := ?_) (a' := ?_) #[true, true, true, true, true, true, true, true, true, true, true, true, true, false, false, false, false, false, false, false, false, false, false, false, false, false, false, false, false, false, false, false, false] rfl rfl (by kernel_rfl) (fun _ _ _ h => h) (Or.inl ⟨by rfl, ?_⟩) ?_ ?_
  rotate_left
  · intro w'
    go_simp
    with_reducible rfl
  rotate_left
  · simp only [Act.put, List.setIfInBounds_toArray, List.set_cons_zero, List.set_cons_succ, i64_w, i32_w]
    rfl
  refine pure_ (i := 13) (N := some 67) (v := ?_) (a' := ?_) #[true, true, true, true, true, true, true, true, true, true, true, true, true, true, false, false, false, false, false, false, false, false, false, false, false, false, false, false, false, false, false, false, false] rfl rfl (by kernel_rfl) (fun _ _ _ h => h) (Or.inl ⟨by rfl, ?_⟩) ?_ ?_
  rotate_left
  · intro w'
    go_simp
    with_reducible rfl
  rotate_left
  · simp only [Act.put, List.setIfInBounds_toArray, List.set_cons_zero, List.set_cons_succ, i64_w, i32_w]
    rfl
  refine pure_ (i := 14) (N := some 68) (v := ?_) (a' := ?_) #[true, true, true, true, true, true, true, true, true, true, true, true, true, true, true, false, false, false, false, false, false, false, false, false, false, false, false, false, false, false, false, false, false] rfl rfl (by kernel_rfl) (fun _ _ _ h => h) (Or.inl ⟨by rfl, ?_⟩) ?_ ?_
  rotate_left
  · intro w'
    go_simp
    with_reducible rfl
  rotate_left
  · simp only [Act.put, List.setIfInBounds_toArray, List.set_cons_zero, List.set_cons_succ, i64_w, i32_w]
    rfl
  refine pure_ (i := 15) (N := some 69) (v := ?_) (a' := ?_) #[true, true, true, true, true, true, true, true, true, true, true, true, true, true, true, true, false, false, false, false, false, false, false, false, false, false, false, false, false, false, false, false, false] rfl rfl (by kernel_rfl) (fun _ _ _ h => h) (Or.inl ⟨by rfl, ?_⟩) ?_ ?_
  rotate_left
  · intro w'
    go_simp
    with_reducible rfl
  rotate_left
  · simp only [Act.put, List.setIfInBounds_toArray, List.set_cons_zero, List.set_cons_succ, i64_w, i32_w]
    rfl
  refine pure_ (i := 16) (N := some 70) (v := ?_) (a' := ?_) #[true, true, true, true, true, true, true, true, true, true, true, true, true, true, true, true, true, false, false, false, false, false, false, false, false, false, false, false, false, false, false, false, false] rfl rfl (by kernel_rfl) (fun _ _ _ h => h) (Or.inl ⟨by rfl, ?_⟩) ?_ ?_
  rotate_left
  · intro w'
    go_simp
    with_reducible rfl
  rotate_left
  · simp only [Act.put, List.setIfInBounds_toArray, List.set_cons_zero, List.set_cons_succ, i64_w, i32_w]
    rfl
  refine pure_ (i := 17) (N := some 71) (v := ?_) (a' := ?_) #[true, true, true, true, true, true, true, true, true, true, true, true, true, true, true, true, true, true, false, false, false, false, false, false, false, false, false, false, false, false, false, false, false] rfl rfl (by kernel_rfl) (fun _ _ _ h => h) (Or.inl ⟨by rfl, ?_⟩) ?_ ?_
  rotate_left
  · intro w'
    go_simp
    with_reducible rfl
  rotate_left
  · simp only [Act.put, List.setIfInBounds_toArray, List.set_cons_zero, List.set_cons_succ, i64_w, i32_w]
    rfl
  refine pure_ (i := 18) (N := some 72) (v := undef) (a' := ?_) #[true, true, true, true, true, true, true, true, true, true, true, true, true, true, true, true, true, true, true, false, false, false, false, false, false, false, false, false, false, false, false, false, false] rfl rfl (by kernel_rfl) (fun _ _ _ h => h) (Or.inr ⟨by rfl, rfl⟩) ?_ ?_
  rotate_left
  · simp only [Act.put, List.setIfInBounds_toArray, List.set_cons_zero, List.set_cons_succ, i64_w, i32_w]
    rfl
  refine pure_ (i := 19) (N := some 73) (v := undef) (a' := ?_) #[true, true, true, true, true, true, true, true, true, true, true, true, true, true, true, true, true, true, true, true, false, false, false, false, false, false, false, false, false, false, false, false, false] rfl rfl (by kernel_rfl) (fun _ _ _ h => h) (Or.inr ⟨by rfl, rfl⟩) ?_ ?_
  rotate_left
  · simp only [Act.put, List.setIfInBounds_toArray, List.set_cons_zero, List.set_cons_succ, i64_w, i32_w]
    rfl
  refine pure_ (i := 20) (N := some 74) (v := undef) (a' := ?_) #[true, true, true, true, true, true, true, true, true, true, true, true, true, true, true, true, true, true, true, true, true, false, false, false, false, false, false, false, false, false, false, false, false] rfl rfl (by kernel_rfl) (fun _ _ _ h => h) (Or.inr ⟨by rfl, rfl⟩) ?_ ?_
  rotate_left
  · simp only [Act.put, List.setIfInBounds_toArray, List.set_cons_zero, List.set_cons_succ, i64_w, i32_w]
    rfl
  refine pure_ (i := 21) (N := some 75) (v := undef) (a' := ?_) #[true, true, true, true, true, true, true, true, true, true, true, true, true, true, true, true, true, true, true, true, true, true, false, false, false, false, false, false, false, false, false, false, false] rfl rfl (by kernel_rfl) (fun _ _ _ h => h) (Or.inr ⟨by rfl, rfl⟩) ?_ ?_
  rotate_left
  · simp only [Act.put, List.setIfInBounds_toArray, List.set_cons_zero, List.set_cons_succ, i64_w, i32_w]
    rfl
  refine pure_ (i := 22) (N := some 76) (v := undef) (a' := ?_) #[true, true, true, true, true, true, true, true, true, true, true, true, true, true, true, true, true, true, true, true, true, true, true, false, false, false, false, false, false, false, false, false, false] rfl rfl (by kernel_rfl) (fun _ _ _ h => h) (Or.inr ⟨by rfl, rfl⟩) ?_ ?_
  rotate_left
  · simp only [Act.put, List.setIfInBounds_toArray, List.set_cons_zero, List.set_cons_succ, i64_w, i32_w]
    rfl
  refine pure_ (i := 23) (N := some 77) (v := undef) (a' := ?_) #[true, true, true, true, true, true, true, true, true, true, true, true, true, true, true, true, true, true, true, true, true, true, true, true, false, false, false, false, false, false, false, false, false] rfl rfl (by kernel_rfl) (fun _ _ _ h => h) (Or.inr ⟨by rfl, rfl⟩) ?_ ?_
  rotate_left
  · simp only [Act.put, List.setIfInBounds_toArray, List.set_cons_zero, List.set_cons_succ, i64_w, i32_w]
    rfl
  refine pure_ (i := 24) (N := some 78) (v := undef) (a' := ?_) #[true, true, true, true, true, true, true, true, true, true, true, true, true, true, true, true, true, true, true, true, true, true, true, true, true, false, false, false, false, false, false, false, false] rfl rfl (by kernel_rfl) (fun _ _ _ h => h) (Or.inr ⟨by rfl, rfl⟩) ?_ ?_
  rotate_left
  · simp only [Act.put, List.setIfInBounds_toArray, List.set_cons_zero, List.set_cons_succ, i64_w, i32_w]
    rfl
  refine pure_ (i := 25) (N := some 79) (v := undef) (a' := ?_) #[true, true, true, true, true, true, true, true, true, true, true, true, true, true, true, true, true, true, true, true, true, true, true, true, true, true, false, false, false, false, false, false, false] rfl rfl (by kernel_rfl) (fun _ _ _ h => h) (Or.inr ⟨by rfl, rfl⟩) ?_ ?_
  rotate_left
  · simp only [Act.put, List.setIfInBounds_toArray, List.set_cons_zero, List.set_cons_succ, i64_w, i32_w]
    rfl
  refine pure_ (i := 26) (N := some 80) (v := undef) (a' := ?_) #[true, true, true, true, true, true, true, true, true, true, true, true, true, true, true, true, true, true, true, true, true, true, true, true, true, true, true, false, false, false, false, false, false] rfl rfl (by kernel_rfl) (fun _ _ _ h => h) (Or.inr ⟨by rfl, rfl⟩) ?_ ?_
  rotate_left
  · simp only [Act.put, List.setIfInBounds_toArray, List.set_cons_zero, List.set_cons_succ, i64_w, i32_w]
    rfl
  refine pure_ (i := 27) (N := some 81) (v := undef) (a' := ?_) #[true, true, true, true, true, true, true, true, true, true, true, true, true, true, true, true, true, true, true, true, true, true, true, true, true, true, true, true, false, false, false, false, false] rfl rfl (by kernel_rfl) (fun _ _ _ h => h) (Or.inr ⟨by rfl, rfl⟩) ?_ ?_
  rotate_left
  · simp only [Act.put, List.setIfInBounds_toArray, List.set_cons_zero, List.set_cons_succ, i64_w, i32_w]
    rfl
  refine pure_ (i := 28) (N := some 82) (v := undef) (a' := ?_) #[true, true, true, true, true, true, true, true, true, true, true, true, true, true, true, true, true, true, true, true, true, true, true, true, true, true, true, true, true, false, false, false, false] rfl rfl (by kernel_rfl) (fun _ _ _ h => h) (Or.inr ⟨by rfl, rfl⟩) ?_ ?_
  rotate_left
  · simp only [Act.put, List.setIfInBounds_toArray, List.set_cons_zero, List.set_cons_succ, i64_w, i32_w]
    rfl
  refine pure_ (i := 29) (N := some 83) (v := undef) (a' := ?_) #[true, true, true, true, true, true, true, true, true, true, true, true, true, true, true, true, true, true, true, true, true, true, true, true, true, true, true, true, true, true, false, false, false] rfl rfl (by kernel_rfl) (fun _ _ _ h => h) (Or.inr ⟨by rfl, rfl⟩) ?_ ?_
  rotate_left
  · simp only [Act.put, List.setIfInBounds_toArray, List.set_cons_zero, List.set_cons_succ, i64_w, i32_w]
    rfl
  refine pure_ (i := 30) (N := some 84) (v := ?_) (a' := ?_) #[true, true, true, true, true, true, true, true, true, true, true, true, true, true, true, true, true, true, true, true, true, true, true, true, true, true, true, true, true, true, true, false, false] rfl rfl (by kernel_rfl) (fun _ _ _ h => h) (Or.inl ⟨by rfl, ?_⟩) ?_ ?_
  rotate_left
  · intro w'
    go_simp
    with_reducible rfl
  rotate_left
  · simp only [Act.put, List.setIfInBounds_toArray, List.set_cons_zero, List.set_cons_succ, i64_w, i32_w]
    rfl
  refine pure_ (i := 31) (N := some 85) (v := ?_) (a' := ?_) #[true, true, true, true, true, true, true, true, true, true, true, true, true, true, true, true, true, true, true, true, true, true, true, true, true, true, true, true, true, true, true, true, false] rfl rfl (by kernel_rfl) (fun _ _ _ h => h) (Or.inl ⟨by rfl, ?_⟩) ?_ ?_
  rotate_left
  · intro w'
    go_simp
    with_reducible rfl
  rotate_left
  · simp only [Act.put, List.setIfInBounds_toArray, List.set_cons_zero, List.set_cons_succ, i64_w, i32_w]
    rfl
  refine pure_ (i := 32) (N := some 2) (v := ?_) (a' := ?_) #[true, true, true, true, true, true, true, true, true, true, true, true, true, true, true, true, true, true, true, true, true, true, true, true, true, true, true, true, true, true, true, true, true] rfl rfl (by kernel_rfl) (fun _ _ _ h => h) (Or.inl ⟨by rfl, ?_⟩) ?_ ?_
  rotate_left
  · intro w'
    go_simp
    with_reducible rfl
  rotate_left
  · simp only [Act.put, List.setIfInBounds_toArray, List.set_cons_zero, List.set_cons_succ, i64_w, i32_w]
    rfl
  refine done_ (by kernel_rfl) ?_
  go_wp2_with fail
  go_ret
  exact ⟨by first | rfl | (simp; done), below_step (below_drew1 (below_alloc GB.out _)) hb6⟩
theorem civilDays_calls (n : Int) (w : World) (_ : (Lit.int .i64 n).wf = true) :
    Calls Try.prog 7 #[.int .i64 n] w fun e w' => e = .returned (.bool true) ∧ Below w.heap.size w w' := by
  by_cases h : n < 0 ∨ 3652058 < n
  · exact days_no n w h
  · obtain ⟨y, m, d, g1, g2, g3⟩ := of_yes 11000 (by omega) n (by omega) (by omega)
    by_cases hl : n = 3652058
    · exact days_last n w (by omega) hl y m d g2 g3
    · obtain ⟨y', m', d', g4, g5, g6⟩ := of_yes 11000 (by omega) (n + 1) (by omega) (by omega)
      exact days_yes n w (by omega) (by omega) y m d g2 g3 y' m' d' g5 g6
end Go.Proofs.Ytljfmfkgpnabaaa.Pure
