/- CivilClamps: the clamped day of a month is the day, or the first, or the last one, for every year of 16 bits, month and day. -/
import Derived.Test.YtljfmfkgpnabaaaCal
import Derived.OpenShut
import Derived.Test.YtljfmfkgpnabaaaPCivilClampsx
namespace Go.Proofs.Ytljfmfkgpnabaaa.Pure
open Go.RowKit Go.Proofs.Ytljfmfkgpnabaaa.PCivilClamps Go.Proofs.YtljfmfkgpnabaaaW.PrintWords Go.Proofs.YtljfmfkgpnabaaaW.PrintLast
open Go.Proofs.Ytljfmfkgpnabaaa
set_option linter.unusedVariables false
theorem tz4 (y c : Int) : (Int.tmod y c = 0) ↔ (y % c = 0) := by
  rw [← Int.dvd_iff_tmod_eq_zero, ← Int.dvd_iff_emod_eq_zero]
theorem leap_eq (y : Int) : civil_Leap.f y = some (Cal.leap y) := by
  unfold civil_Leap.f Cal.leap
  by_cases h1 : y % 4 = 0 <;> by_cases h2 : y % 100 = 0 <;> by_cases h3 : y % 400 = 0 <;> simp [tz4, h1, h2, h3] <;> (try omega) <;> (intro h; have := (tz4 _ _).1 h; omega)
theorem mon_cases (m : Int) : m = 1 ∨ m = 2 ∨ m = 3 ∨ m = 4 ∨ m = 5 ∨ m = 6 ∨ m = 7 ∨ m = 8 ∨ m = 9 ∨ m = 10 ∨ m = 11 ∨ m = 12 ∨ m < 1 ∨ 12 < m := by omega
theorem month_eq (k : Nat) (hk : 2 ≤ k) (y m : Int) : civil_Month.f k y m = some (Cal.mon y m) := by
  obtain ⟨k, rfl⟩ : ∃ j, k = j + 2 := ⟨k - 2, by omega⟩
  have hl : Cal.lp y = if Cal.leap y = true then 1 else 0 := rfl
  rcases mon_cases m with rfl | rfl | rfl | rfl | rfl | rfl | rfl | rfl | rfl | rfl | rfl | rfl | h | h
  all_goals first
    | (rw [Cal.mon_last y m (by omega)]
       have e1 : ∀ c : Int, 1 ≤ c → c ≤ 12 → ¬ m = c := fun c _ _ => by omega
       have e2 : ∀ c : Int, 1 ≤ c → c ≤ 12 → (m == c) = false := fun c h1 h2 => beq_eq_false_iff_ne.2 (e1 c h1 h2)
       simp [civil_Month.f, civil_Month.j0, civil_Month.j1, e1, e2])
    | (simp [civil_Month.f, civil_Month.j0, civil_Month.j1, Cal.mon]; done)
    | (cases hb : Cal.leap y <;> simp [civil_Month.f, civil_Month.j0, civil_Month.j1, Cal.mon, leap_eq, hl, hb])
theorem before_eq (y : Int) (h0 : 1 ≤ y) (h1 : y ≤ 20000) : civil_before.f y = some (Cal.bef y) := by
  unfold civil_before.f Cal.bef
  have e0 : wrap64 (y - 1) = y - 1 := by unfold wrap64; omega
  rw [e0]
  have e : ∀ c : Int, 1 ≤ c → wrap64 (Int.tdiv (y - 1) c) = (y - 1) / c := by
    intro c hc
    rw [Int.tdiv_eq_ediv_of_nonneg (by omega)]
    have h3 : 0 ≤ (y - 1) / c := Int.ediv_nonneg (by omega) (by omega)
    have h4 : (y - 1) / c ≤ y - 1 := Int.ediv_le_self _ (by omega)
    unfold wrap64; omega
  rw [e 4 (by omega), e 100 (by omega), e 400 (by omega)]
  unfold wrap64; congr 1; omega
theorem valid_iff (y m d : Int) : Cal.valid y m d ↔ (1 ≤ y ∧ y ≤ 9999 ∧ 1 ≤ d ∧ d ≤ Cal.mon y m) := by
  unfold Cal.valid
  constructor
  · intro h; omega
  · intro h
    have := Cal.mon_pos' y m (by omega); omega
theorem right_eq (k : Nat) (hk : 2 ≤ k) (y m d : Int) [Decidable (Cal.valid y m d)] : civil_Right.f k y m d = some (decide (Cal.valid y m d)) := by
  unfold civil_Right.f
  rw [month_eq k hk]
  by_cases h1 : 1 ≤ y <;> by_cases h2 : y ≤ 9999 <;> by_cases h3 : 1 ≤ d <;> by_cases h4 : d ≤ Cal.mon y m <;> simp [valid_iff, h1, h2, h3, h4]
theorem num_loop (y mm d : Int) (h2 : mm ≤ 13) (e : Nat) : ∀ (k : Nat) (x m : Int), 1 ≤ m → m ≤ mm → mm - m = e → e + 3 ≤ k → -4000000 ≤ x → x ≤ 4000000 + 31 * m →
    civil_Number.l0 k x m y mm d = some (x + (Cal.cum y mm - Cal.cum y m), 0) := by
  induction e with
  | zero =>
    intro k x m h3 h4 h5 h6 h7 h8
    obtain ⟨k, rfl⟩ : ∃ j, k = j + 1 := ⟨k - 1, by omega⟩
    simp only [civil_Number.l0]; rw [if_neg (by omega)]
    have : m = mm := by omega
    subst this; simp
  | succ e ih =>
    intro k x m h3 h4 h5 h6 h7 h8
    obtain ⟨k, rfl⟩ : ∃ j, k = j + 1 := ⟨k - 1, by omega⟩
    simp only [civil_Number.l0]; rw [if_pos (by omega), month_eq k (by omega)]; simp only [Option.bind_some]
    have h9 := Cal.mon_le y m
    have h10 := Cal.cum_succ y m h3 (by omega)
    rw [show wrap64 (x + Cal.mon y m) = x + Cal.mon y m from by unfold wrap64; omega, show wrap64 (m + 1) = m + 1 from by unfold wrap64; omega]
    rw [ih k (x + Cal.mon y m) (m + 1) (by omega) (by omega) (by omega) (by omega) (by omega) (by omega), h10]
    congr 2; omega
theorem number_yes (k : Nat) (hk : 15 ≤ k) (y m d : Int) (h : Cal.valid y m d) : civil_Number.f k y m d = some (Cal.num y m d, 0) := by
  have h0 := h
  obtain ⟨h1, h2, h3, h4, h5, h6⟩ := h
  have h7 := Cal.mon_le y m
  have h8 := Cal.bef_ge y h1
  have h9 := Cal.bef_le y h1
  unfold civil_Number.f
  classical
  rw [right_eq k (by omega), before_eq y h1 (by omega)]
  simp only [h0, decide_true, Option.bind_some, if_true]
  rw [show wrap64 (wrap64 (Cal.bef y + d) - 1) = Cal.bef y + d - 1 from by unfold wrap64; omega]
  rw [num_loop y m d (by omega) (m - 1).toNat k _ 1 (by omega) (by omega) (by omega) (by omega) (by omega) (by omega), Cal.cum_one]
  unfold Cal.num; congr 2; omega
theorem number_no (k : Nat) (hk : 15 ≤ k) (y m d : Int) (h : ¬ Cal.valid y m d) : civil_Number.f k y m d = some (0, 1) := by
  unfold civil_Number.f
  classical
  rw [right_eq k (by omega)]
  simp [h]
theorem awake_yes (k : Nat) (hk : 15 ≤ k) : paybooklaw01_awake.f k = some true := by
  unfold paybooklaw01_awake.f
  rw [number_yes k hk 1970 1 1 (by unfold Cal.valid Cal.mon; omega), show Cal.num 1970 1 1 = 719162 from by decide]
  simp
theorem rleap_eq (y : Int) : paybookref01_Leap.f y = some (Cal.leap y) := by
  unfold paybookref01_Leap.f Cal.leap
  by_cases h1 : y % 4 = 0 <;> by_cases h2 : y % 100 = 0 <;> by_cases h3 : y % 400 = 0 <;> simp [tz4, h1, h2, h3] <;> (try omega) <;> (intro h; have := (tz4 _ _).1 h; omega)
theorem rmonth_eq (k : Nat) (hk : 1 ≤ k) (y m : Int) : paybookref01_Month.f k y m = some (Cal.mon y m) := by
  obtain ⟨k, rfl⟩ : ∃ j, k = j + 1 := ⟨k - 1, by omega⟩
  have hl : Cal.lp y = if Cal.leap y = true then 1 else 0 := rfl
  rcases mon_cases m with rfl | rfl | rfl | rfl | rfl | rfl | rfl | rfl | rfl | rfl | rfl | rfl | h | h
  all_goals first
    | (rw [Cal.mon_last y m (by omega)]
       unfold paybookref01_Month.f
       first
       | (rw [if_pos h]; simp [paybookref01_Month.j0])
       | (rw [if_neg (by omega), show decide (m > 12) = true from by simp; omega]; simp [paybookref01_Month.j0]))
    | (simp [paybookref01_Month.f, paybookref01_Month.j0, Cal.mon, rd, wrap64]; done)
    | (cases hb : Cal.leap y <;> simp [paybookref01_Month.f, paybookref01_Month.j0, Cal.mon, rleap_eq, hl, hb, rd, wrap64])
theorem CivilClamps : paybooklaw01_CivilClamps.Pure := by
  intro y m d hy hm _
  have by_ := bounds_i16 hy
  have bm := bounds_u8 hm
  refine ⟨16, ?_⟩
  unfold paybooklaw01_CivilClamps.f civil_Clamp.f
  rw [show wrap64 y = y from by unfold wrap64; omega]
  rw [Int.tmod_eq_emod_of_nonneg (by omega)]
  rw [show wrap64 (1 + wrap64 (m % 12)) = 1 + m % 12 from by unfold wrap64; omega]
  have hmon := Cal.mon_pos y (1 + m % 12) (by omega) (by omega)
  rw [month_eq 16 (by omega)]
  simp only [Option.bind_some, paybooklaw01_CivilClamps.j0]
  rw [show wrap64 y = y from by unfold wrap64; omega, rmonth_eq 15 (by omega), awake_yes 15 (by omega)]
  simp only [Option.bind_some, if_true]
  by_cases h1 : d < 1
  · rw [if_pos h1, if_neg (by omega)]
    simp [mx, mn, h1]; omega
  · rw [if_neg h1]
    by_cases h2 : d > Cal.mon y (1 + m % 12)
    · rw [if_pos h2]; simp [mx, mn, h1]; omega
    · rw [if_neg h2]; simp [mx, mn, h1]; omega
end Go.Proofs.Ytljfmfkgpnabaaa.Pure
