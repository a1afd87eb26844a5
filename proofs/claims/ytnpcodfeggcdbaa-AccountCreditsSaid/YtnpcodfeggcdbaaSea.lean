/- The first days of periods as plain numbers: they rise with the period's number, and end at the calendar's last day. -/
import Derived.Test.YtnpcodfeggcdbaaCal
set_option linter.unusedVariables false
namespace Go.Proofs.Ytnpcodfeggcdbaa.Sea
open Go.Proofs.Ytnpcodfeggcdbaa

/-- How far the n-th period begins behind the first one: in days, or in months. -/
def off (u e n : Int) : Int := if u = 1 then n * e * 7 else if u = 3 then n * e * 12 else n * e
def dayAdd (a k : Int) : Option Int := if a + k ≤ 3652058 then some (a + k) else none
def cut (y m d : Int) : Int := if d ≤ Cal.mon y m then d else Cal.mon y m
def monAdd (y m d k : Int) : Option Int :=
  if y + (m - 1 + k) / 12 ≤ 9999 then some (Cal.num (y + (m - 1 + k) / 12) ((m - 1 + k) % 12 + 1) (cut (y + (m - 1 + k) / 12) ((m - 1 + k) % 12 + 1) d)) else none
/-- The first day of the n-th period from the day a = (y, m, d) on. -/
def nth (a y m d u e n : Int) : Option Int := if u ≤ 1 then dayAdd a (off u e n) else monAdd y m d (off u e n)
/-- As the code tells it. -/
def out (o : Option Int) : Int × Int := match o with | some x => (x, 0) | none => (0, 6)

/-- What the reference tells beside 'false'. -/
def rz (a u e n : Int) : Int := if u ≤ 1 then a + off u e n else 0
theorem off_zero (u e : Int) : off u e 0 = 0 := by unfold off; simp
theorem off_succ (u e n : Int) (he : 1 ≤ e) : off u e n + 1 ≤ off u e (n + 1) := by
  have h : (n + 1) * e = n * e + e := by rw [Int.add_mul, Int.one_mul]
  unfold off; rw [h]; generalize n * e = p; split <;> (try split) <;> omega
theorem mul_bd (n e N E : Int) (h0 : 0 ≤ n) (h1 : n ≤ N) (h2 : 1 ≤ e) (h3 : e ≤ E) : 0 ≤ n * e ∧ n * e ≤ N * E ∧ n ≤ n * e := by
  refine ⟨Int.mul_nonneg h0 (by omega), Int.mul_le_mul h1 h3 (by omega) (by omega), ?_⟩
  have := Int.mul_le_mul_of_nonneg_left h2 h0
  omega
theorem off_ge (u e n : Int) (h0 : 0 ≤ n) (he : 1 ≤ e) : n ≤ off u e n ∧ n * e ≤ off u e n := by
  have h := mul_bd n e n e h0 (by omega) he (by omega)
  unfold off; generalize n * e = p at h ⊢; split <;> (try split) <;> omega
theorem cut_ok (y m d : Int) (h1 : 1 ≤ m) (h2 : m ≤ 12) (hd : 1 ≤ d) : 1 ≤ cut y m d ∧ cut y m d ≤ Cal.mon y m ∧ cut y m d ≤ d := by
  have := Cal.mon_pos y m h1 h2
  unfold cut; split <;> omega
theorem mon_valid (y m d k : Int) (h : Cal.valid y m d) (hk : 0 ≤ k) (hy : y + (m - 1 + k) / 12 ≤ 9999) :
    Cal.valid (y + (m - 1 + k) / 12) ((m - 1 + k) % 12 + 1) (cut (y + (m - 1 + k) / 12) ((m - 1 + k) % 12 + 1) d) := by
  obtain ⟨h1, h2, h3, h4, h5, h6⟩ := h
  have hc := cut_ok (y + (m - 1 + k) / 12) ((m - 1 + k) % 12 + 1) d (by omega) (by omega) h5
  exact ⟨by omega, hy, by omega, by omega, hc.1, hc.2.1⟩
theorem monAdd_lt (y m d j k : Int) (h : Cal.valid y m d) (hj : 0 ≤ j) (hk : j < k) (v x : Int) (e1 : monAdd y m d j = some v) (e2 : monAdd y m d k = some x) : v < x := by
  unfold monAdd at e1 e2
  split at e1
  · split at e2
    · rename_i g1 g2
      obtain rfl := Option.some.inj e1
      obtain rfl := Option.some.inj e2
      have := h.2.2.1
      exact Cal.num_less _ _ _ _ _ _ (mon_valid y m d j h hj g1) (mon_valid y m d k h (by omega) g2) (by omega)
    · cases e2
  · cases e1
theorem monAdd_none (y m d j k : Int) (h : Cal.valid y m d) (hj : 0 ≤ j) (hk : j ≤ k) (e1 : monAdd y m d j = none) : monAdd y m d k = none := by
  unfold monAdd at e1 ⊢
  split at e1
  · cases e1
  · rw [if_neg (by omega)]
theorem dayAdd_lt (a j k : Int) (hk : j < k) (v x : Int) (e1 : dayAdd a j = some v) (e2 : dayAdd a k = some x) : v < x := by
  unfold dayAdd at e1 e2
  split at e1
  · split at e2
    · obtain rfl := Option.some.inj e1
      obtain rfl := Option.some.inj e2
      omega
    · cases e2
  · cases e1
theorem dayAdd_none (a j k : Int) (hk : j ≤ k) (e1 : dayAdd a j = none) : dayAdd a k = none := by
  unfold dayAdd at e1 ⊢
  split at e1
  · cases e1
  · rw [if_neg (by omega)]
theorem nth_zero (a y m d u e : Int) (h : Cal.valid y m d) (ha : Cal.num y m d = a) : nth a y m d u e 0 = some a := by
  have hr := Cal.num_range y m d h
  unfold nth; rw [off_zero]
  split
  · unfold dayAdd; rw [if_pos (by omega)]; simp
  · obtain ⟨h1, h2, h3, h4, h5, h6⟩ := h
    unfold monAdd
    rw [show (m - 1 + 0) / 12 = 0 from by omega, show (m - 1 + 0) % 12 + 1 = m from by omega, show y + 0 = y from by omega, if_pos h2]
    unfold cut; rw [if_pos h6, ha]
theorem off_lt (u e n n' : Int) (he : 1 ≤ e) (h : n < n') : off u e n < off u e n' := by
  obtain ⟨c, rfl⟩ : ∃ c : Nat, n' = n + 1 + c := ⟨(n' - n - 1).toNat, by omega⟩
  clear h
  induction c with
  | zero => have := off_succ u e n he; simp; omega
  | succ c ih =>
    have := off_succ u e (n + 1 + c) he
    rw [show n + 1 + ((c + 1 : Nat) : Int) = n + 1 + c + 1 from by omega]; omega
theorem nth_lt (a y m d u e n n' : Int) (h : Cal.valid y m d) (he : 1 ≤ e) (hn : 0 ≤ n) (hlt : n < n') (v x : Int)
    (e1 : nth a y m d u e n = some v) (e2 : nth a y m d u e n' = some x) : v < x := by
  have h1 := off_lt u e n n' he hlt
  have h2 := off_ge u e n hn he
  unfold nth at e1 e2
  by_cases hu : u ≤ 1
  · rw [if_pos hu] at e1 e2; exact dayAdd_lt a _ _ h1 v x e1 e2
  · rw [if_neg hu] at e1 e2; exact monAdd_lt y m d _ _ h (by omega) h1 v x e1 e2
theorem nth_none (a y m d u e n n' : Int) (h : Cal.valid y m d) (he : 1 ≤ e) (hn : 0 ≤ n) (hle : n ≤ n')
    (e1 : nth a y m d u e n = none) : nth a y m d u e n' = none := by
  rcases Int.lt_or_eq_of_le hle with hlt | rfl
  · have h1 := off_lt u e n n' he hlt
    have h2 := off_ge u e n hn he
    unfold nth at e1 ⊢
    by_cases hu : u ≤ 1
    · rw [if_pos hu] at e1 ⊢; exact dayAdd_none a _ _ (by omega) e1
    · rw [if_neg hu] at e1 ⊢; exact monAdd_none y m d _ _ h (by omega) (by omega) e1
  · exact e1
/-- The n-th period begins n days behind the first one at least. -/
theorem nth_ge (a y m d u e : Int) (h : Cal.valid y m d) (ha : Cal.num y m d = a) (he : 1 ≤ e) (n : Nat) : ∀ v, nth a y m d u e n = some v → a + n ≤ v := by
  induction n with
  | zero => intro v hv; rw [show ((0 : Nat) : Int) = 0 from rfl, nth_zero a y m d u e h ha] at hv; obtain rfl := Option.some.inj hv; simp
  | succ n ih =>
    intro v hv
    cases hc : nth a y m d u e n with
    | none => rw [nth_none a y m d u e n ((n + 1 : Nat) : Int) h he (by omega) (by omega) hc] at hv; cases hv
    | some x =>
      have h1 := ih x hc
      have h2 := nth_lt a y m d u e n ((n + 1 : Nat) : Int) h he (by omega) (by omega) x v hc hv
      omega
theorem nth_range (a y m d u e n : Int) (h : Cal.valid y m d) (ha : Cal.num y m d = a) (he : 1 ≤ e) (hn : 0 ≤ n) (v : Int) (hv : nth a y m d u e n = some v) : a + n ≤ v ∧ v ≤ 3652058 := by
  refine ⟨?_, ?_⟩
  · obtain ⟨c, rfl⟩ := Int.eq_ofNat_of_zero_le hn
    exact nth_ge a y m d u e h ha he c v hv
  · unfold nth at hv
    have h2 := off_ge u e n hn he
    split at hv
    · unfold dayAdd at hv; split at hv
      · obtain rfl := Option.some.inj hv; omega
      · cases hv
    · unfold monAdd at hv; split at hv
      · rename_i g
        obtain rfl := Option.some.inj hv
        exact (Cal.num_range _ _ _ (mon_valid y m d _ h (by omega) g)).2
      · cases hv
/-- A period begins up to a day. -/
def upto (a y m d u e n day : Int) : Prop := ∃ v, nth a y m d u e n = some v ∧ v ≤ day
theorem upto_down (a y m d u e n n' day : Int) (h : Cal.valid y m d) (he : 1 ≤ e) (hn : 0 ≤ n) (hle : n ≤ n') (hu : upto a y m d u e n' day) : upto a y m d u e n day := by
  obtain ⟨v, h1, h2⟩ := hu
  rcases Int.lt_or_eq_of_le hle with hlt | rfl
  · cases hc : nth a y m d u e n with
    | none => rw [nth_none a y m d u e n n' h he hn hle hc] at h1; cases h1
    | some x => exact ⟨x, hc, by have := nth_lt a y m d u e n n' h he hn hlt x v hc h1; omega⟩
  · exact ⟨v, h1, h2⟩
theorem days_some (a y m d e n : Int) (h : a + n * e ≤ 3652058) : nth a y m d 0 e n = some (a + n * e) := by
  unfold nth off dayAdd; simp [h]
theorem days_none (a y m d e n : Int) (h : ¬ a + n * e ≤ 3652058) : nth a y m d 0 e n = none := by
  unfold nth off dayAdd; simp [h]
theorem weeks_some (a y m d e n : Int) (h : a + n * e * 7 ≤ 3652058) : nth a y m d 1 e n = some (a + n * e * 7) := by
  unfold nth off dayAdd; simp [h]
theorem weeks_none (a y m d e n : Int) (h : ¬ a + n * e * 7 ≤ 3652058) : nth a y m d 1 e n = none := by
  unfold nth off dayAdd; simp [h]
theorem months_eq (a y m d e n : Int) : nth a y m d 2 e n = monAdd y m d (n * e) := by
  unfold nth off; simp
theorem years_eq (a y m d e n : Int) : nth a y m d 3 e n = monAdd y m d (n * e * 12) := by
  unfold nth off; simp
/-- The month behind so many others, as the reference reckons it. -/
theorem mon_split (y m j : Int) (h1 : 1 ≤ m) (h2 : m ≤ 12) (h3 : 0 ≤ j) :
    (12 < m + j % 12 → y + (m - 1 + j) / 12 = y + j / 12 + 1 ∧ (m - 1 + j) % 12 + 1 = m + j % 12 - 12) ∧
    (¬ 12 < m + j % 12 → y + (m - 1 + j) / 12 = y + j / 12 ∧ (m - 1 + j) % 12 + 1 = m + j % 12) := by
  refine ⟨fun h => ⟨by omega, by omega⟩, fun h => ⟨by omega, by omega⟩⟩
end Go.Proofs.Ytnpcodfeggcdbaa.Sea
