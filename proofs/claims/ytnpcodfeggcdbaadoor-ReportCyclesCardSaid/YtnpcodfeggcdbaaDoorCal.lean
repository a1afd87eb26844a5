/- Days of the calendar as plain numbers: leap years, months, the number of a day; a number is the number of one day alone. -/
set_option linter.unusedVariables false
namespace Go.Proofs.YtnpcodfeggcdbaaDoor.Cal

def leap (y : Int) : Bool := decide (y % 4 = 0 ∧ (y % 100 ≠ 0 ∨ y % 400 = 0))
def lp (y : Int) : Int := if leap y then 1 else 0
def mon (y m : Int) : Int :=
  if m = 2 then 28 + lp y
  else if m = 4 ∨ m = 6 ∨ m = 9 ∨ m = 11 then 30
  else if 1 ≤ m ∧ m ≤ 12 then 31 else 0
/-- Days ahead of a year. -/
def bef (y : Int) : Int := 365 * (y - 1) + (y - 1) / 4 - (y - 1) / 100 + (y - 1) / 400
/-- Days of a year ahead of a month. -/
def cum (y m : Int) : Int :=
  if m ≤ 1 then 0 else if m = 2 then 31 else
  if m = 3 then 59 + lp y else if m = 4 then 90 + lp y else if m = 5 then 120 + lp y else
  if m = 6 then 151 + lp y else if m = 7 then 181 + lp y else if m = 8 then 212 + lp y else
  if m = 9 then 243 + lp y else if m = 10 then 273 + lp y else if m = 11 then 304 + lp y else
  if m = 12 then 334 + lp y else 365 + lp y
def num (y m d : Int) : Int := bef y + cum y m + d - 1
def valid (y m d : Int) : Prop := 1 ≤ y ∧ y ≤ 9999 ∧ 1 ≤ m ∧ m ≤ 12 ∧ 1 ≤ d ∧ d ≤ mon y m

theorem lp01 (y : Int) : lp y = 0 ∨ lp y = 1 := by unfold lp; split <;> simp
theorem lp_eq (y : Int) : lp y = if y % 4 = 0 ∧ (y % 100 ≠ 0 ∨ y % 400 = 0) then 1 else 0 := by
  unfold lp leap; by_cases h : y % 4 = 0 ∧ (y % 100 ≠ 0 ∨ y % 400 = 0) <;> simp [h]
theorem bef_succ (y : Int) : bef (y + 1) = bef y + 365 + lp y := by
  rw [lp_eq]; unfold bef; split <;> omega
theorem bef_le (y : Int) (h : 1 ≤ y) : bef y ≤ 366 * (y - 1) := by unfold bef; omega
theorem bef_ge (y : Int) (h : 1 ≤ y) : 365 * (y - 1) ≤ bef y := by unfold bef; omega
theorem bef_mono (a b : Int) (h1 : 1 ≤ a) (h : a ≤ b) : bef a ≤ bef b := by unfold bef; omega
theorem bef_max : bef 10000 = 3652059 := by decide
theorem bef_one : bef 1 = 0 := by decide
theorem mon_pos (y m : Int) (h1 : 1 ≤ m) (h2 : m ≤ 12) : 28 ≤ mon y m ∧ mon y m ≤ 31 := by
  have := lp01 y; unfold mon; split <;> (try split) <;> (try split) <;> omega
theorem mon_le (y m : Int) : 0 ≤ mon y m ∧ mon y m ≤ 31 := by
  have := lp01 y; unfold mon; split <;> (try split) <;> (try split) <;> omega
theorem mon_pos' (y m : Int) (h : 1 ≤ mon y m) : 1 ≤ m ∧ m ≤ 12 := by
  have := lp01 y; unfold mon at h; split at h <;> (try split at h) <;> (try split at h) <;> omega
theorem mon_last (y m : Int) (h : m < 1 ∨ 12 < m) : mon y m = 0 := by
  unfold mon; rw [if_neg (by omega), if_neg (by omega), if_neg (by omega)]
theorem cum_one (y : Int) : cum y 1 = 0 := by unfold cum; rw [if_pos (by omega)]
theorem cum_13 (y : Int) : cum y 13 = 365 + lp y := by unfold cum; simp
theorem cum_succ (y m : Int) (h1 : 1 ≤ m) (h2 : m ≤ 12) : cum y (m + 1) = cum y m + mon y m := by
  have hl := lp01 y
  have : m = 1 ∨ m = 2 ∨ m = 3 ∨ m = 4 ∨ m = 5 ∨ m = 6 ∨ m = 7 ∨ m = 8 ∨ m = 9 ∨ m = 10 ∨ m = 11 ∨ m = 12 := by omega
  rcases this with rfl | rfl | rfl | rfl | rfl | rfl | rfl | rfl | rfl | rfl | rfl | rfl <;> simp [cum, mon] <;> omega
theorem cum_mono (y a b : Int) (h1 : 1 ≤ a) (h : a ≤ b) (h2 : b ≤ 13) : cum y a ≤ cum y b := by
  have hl := lp01 y
  obtain ⟨d, rfl⟩ : ∃ d : Nat, b = a + d := ⟨(b - a).toNat, by omega⟩
  induction d with
  | zero => simp
  | succ d ih =>
    have h3 := ih (by omega) (by omega)
    have h4 := cum_succ y (a + d) (by omega) (by omega)
    have h5 := mon_le y (a + d)
    have e : a + ((d + 1 : Nat) : Int) = a + d + 1 := by omega
    rw [e, h4]; omega
theorem cum_bd (y m : Int) (h1 : 1 ≤ m) (h2 : m ≤ 13) : 0 ≤ cum y m ∧ cum y m ≤ 366 := by
  have hl := lp01 y
  have h3 := cum_mono y 1 m (by omega) h1 h2
  have h4 := cum_mono y m 13 h1 h2 (by omega)
  rw [cum_one] at h3; rw [cum_13] at h4; omega
theorem num_lt (y m d : Int) (h : valid y m d) : bef y ≤ num y m d ∧ num y m d < bef (y + 1) := by
  obtain ⟨h1, h2, h3, h4, h5, h6⟩ := h
  have h7 := cum_succ y m h3 h4
  have h8 := cum_mono y (m + 1) 13 (by omega) (by omega) (by omega)
  have h9 := cum_bd y m (by omega) (by omega)
  rw [cum_13] at h8
  rw [bef_succ]; unfold num; omega
theorem num_range (y m d : Int) (h : valid y m d) : 0 ≤ num y m d ∧ num y m d ≤ 3652058 := by
  have h1 := num_lt y m d h
  have h2 := bef_mono 1 y (by omega) h.1
  have h3 := bef_mono (y + 1) 10000 (by have := h.1; omega) (by have := h.2.1; omega)
  rw [bef_max] at h3; rw [bef_one] at h2; omega
/-- Which of two days is the later one is told by their years, months, days. -/
theorem num_less (y m d y' m' d' : Int) (h : valid y m d) (h' : valid y' m' d')
    (hlt : y < y' ∨ y = y' ∧ (m < m' ∨ m = m' ∧ d < d')) : num y m d < num y' m' d' := by
  rcases hlt with hlt | ⟨rfl, hlt | ⟨rfl, hlt⟩⟩
  · have h1 := num_lt y m d h
    have h2 := num_lt y' m' d' h'
    have h3 := bef_mono (y + 1) y' (by have := h.1; omega) (by omega)
    omega
  · obtain ⟨h1, h2, h3, h4, h5, h6⟩ := h
    obtain ⟨g1, g2, g3, g4, g5, g6⟩ := h'
    have h7 := cum_succ y m h3 h4
    have h8 := cum_mono y (m + 1) m' (by omega) (by omega) (by omega)
    unfold num; omega
  · unfold num; omega
theorem num_inj (y m d y' m' d' : Int) (h : valid y m d) (h' : valid y' m' d') (e : num y m d = num y' m' d') : y = y' ∧ m = m' ∧ d = d' := by
  by_cases h1 : y < y' ∨ y = y' ∧ (m < m' ∨ m = m' ∧ d < d')
  · have := num_less _ _ _ _ _ _ h h' h1; omega
  · by_cases h2 : y' < y ∨ y' = y ∧ (m' < m ∨ m' = m ∧ d' < d)
    · have := num_less _ _ _ _ _ _ h' h h2; omega
    · omega
end Go.Proofs.YtnpcodfeggcdbaaDoor.Cal
