/- How many periods have begun up to a day, and the period in which it lies. -/
import Derived.Test.YthninollljphoaaSeasonNthWalk
set_option linter.unusedVariables false
set_option linter.unusedSimpArgs false
namespace Go.Proofs.Ythninollljphoaa.Pure
open Go.RowKit Go.Proofs.Ythninollljphoaa.PSpan Go.Proofs.Ythninollljphoaa.PNumber Go.Proofs.YthninollljphoaaW.PrintWords Go.Proofs.YthninollljphoaaW.PrintLast
open Go.Proofs.Ythninollljphoaa
/-- So many periods have begun up to a day. -/
def Cnt (a y m d u e day c : Int) : Prop := 0 ≤ c ∧ (∀ i, 0 ≤ i → i < c → Sea.upto a y m d u e i day) ∧ ¬ Sea.upto a y m d u e c day
theorem cnt_one (a y m d u e day c c' : Int) (h : Cnt a y m d u e day c) (h' : Cnt a y m d u e day c') : c = c' := by
  by_cases h1 : c < c'
  · exact absurd (h'.2.1 c h.1 h1) h.2.2
  · by_cases h2 : c' < c
    · exact absurd (h.2.1 c' h'.1 h2) h'.2.2
    · omega
theorem not_upto (a y m d u e day n : Int) (hv : Cal.valid y m d) (ha : Cal.num y m d = a) (he : 1 ≤ e) (hn : 0 ≤ n) (h : day < a + n) : ¬ Sea.upto a y m d u e n day := by
  rintro ⟨v, h1, h2⟩
  have := (Sea.nth_range a y m d u e n hv ha he hn v h1).1
  omega
theorem count_loop (a y m d u e day : Int) (hv : Cal.valid y m d) (ha : Cal.num y m d = a) (hu : 0 ≤ u ∧ u ≤ 3) (he : 1 ≤ e ∧ e ≤ 1000) (g : Nat) :
    ∀ (k : Nat) (lo hi : Int), 0 ≤ lo → lo ≤ hi → hi ≤ 3652059 → hi - lo ≤ g → 11001 + g ≤ k → (∀ i, 0 ≤ i → i < lo → Sea.upto a y m d u e i day) → ¬ Sea.upto a y m d u e hi day →
    ∃ c, season_Count.l0 k a u e day lo hi = some (c, 0) ∧ Cnt a y m d u e day c ∧ lo ≤ c ∧ c ≤ hi := by
  induction g with
  | zero =>
    intro k lo hi h0 h1 h2 h3 h4 h5 h6
    obtain ⟨k, rfl⟩ : ∃ j, k = j + 1 := ⟨k - 1, by omega⟩
    have : lo = hi := by omega
    subst this
    exact ⟨lo, by simp only [season_Count.l0]; rw [if_neg (by omega)], ⟨h0, h5, h6⟩, by omega, by omega⟩
  | succ g ih =>
    intro k lo hi h0 h1 h2 h3 h4 h5 h6
    obtain ⟨k, rfl⟩ : ∃ j, k = j + 1 := ⟨k - 1, by omega⟩
    by_cases hlt : lo < hi
    · have hm : wrap64 (Int.tdiv (wrap64 (lo + hi)) 2) = (lo + hi) / 2 := by
        rw [show wrap64 (lo + hi) = lo + hi from by unfold wrap64; omega, Int.tdiv_eq_ediv_of_nonneg (by omega)]
        unfold wrap64; omega
      simp only [season_Count.l0]
      rw [if_pos hlt, hm, nth_eq k (by omega) a y m d u e _ hv ha hu he ⟨by omega, by omega⟩]
      simp only [Option.bind_some]
      have low : ¬ Sea.upto a y m d u e ((lo + hi) / 2) day → ∃ c, season_Count.l0 k a u e day lo ((lo + hi) / 2) = some (c, 0) ∧ Cnt a y m d u e day c ∧ lo ≤ c ∧ c ≤ hi := by
        intro hno
        obtain ⟨c, c1, c2, c3, c4⟩ := ih k lo ((lo + hi) / 2) h0 (by omega) (by omega) (by omega) (by omega) h5 hno
        exact ⟨c, c1, c2, c3, by omega⟩
      cases hc : Sea.nth a y m d u e ((lo + hi) / 2) with
      | none =>
        obtain ⟨c, c1, c2⟩ := low (by rintro ⟨v, e1, _⟩; rw [hc] at e1; cases e1)
        refine ⟨c, ?_, c2⟩
        simpa [Sea.out] using c1
      | some v =>
        by_cases hv2 : v > day
        · obtain ⟨c, c1, c2⟩ := low (by rintro ⟨v', e1, e2⟩; rw [hc] at e1; obtain rfl := Option.some.inj e1; omega)
          refine ⟨c, ?_, c2⟩
          simpa [Sea.out, show day < v from hv2] using c1
        · obtain ⟨c, c1, c2, c3, c4⟩ := ih k ((lo + hi) / 2 + 1) hi (by omega) (by omega) h2 (by omega) (by omega)
            (fun i i0 i1 => Sea.upto_down a y m d u e i ((lo + hi) / 2) day hv he.1 i0 (by omega) ⟨v, hc, by omega⟩) h6
          refine ⟨c, ?_, c2, by omega, c4⟩
          rw [show wrap64 ((lo + hi) / 2 + 1) = (lo + hi) / 2 + 1 from by unfold wrap64; omega]
          simpa [Sea.out, show ¬ day < v by omega] using c1
    · have : lo = hi := by omega
      subst this
      exact ⟨lo, by simp only [season_Count.l0]; rw [if_neg (by omega)], ⟨h0, h5, h6⟩, by omega, by omega⟩
theorem count_eq (k : Nat) (hk : 4000000 ≤ k) (a y m d u e day : Int) (hv : Cal.valid y m d) (ha : Cal.num y m d = a) (hu : 0 ≤ u ∧ u ≤ 3) (he : 1 ≤ e ∧ e ≤ 1000) (hd : 0 ≤ day ∧ day ≤ 3652058) :
    ∃ c, season_Count.f k a u e day = some (c, 0) ∧ Cnt a y m d u e day c ∧ (c = 0 ∨ c ≤ day - a + 1) := by
  have hr := Cal.num_range y m d hv
  obtain ⟨k, rfl⟩ : ∃ j, k = j + 1 := ⟨k - 1, by omega⟩
  unfold season_Count.f
  rw [nth_eq (k + 1) (by omega) a y m d u e 0 hv ha hu he ⟨by omega, by omega⟩, Sea.nth_zero a y m d u e hv ha]
  suffices h : ∃ c, season_Count.l0 k a u e day 0 (day - a + 1) = some (c, 0) ∧ Cnt a y m d u e day c ∧ (c = 0 ∨ c ≤ day - a + 1) by
    obtain ⟨c, c1, c2⟩ := h
    refine ⟨c, ?_, c2⟩
    simp only [Option.bind_some, Sea.out]
    rw [if_pos trivial, if_neg (by omega), show decide (day > 3652058) = false from by simp; omega]
    simp only [season_Count.j0]
    rw [if_neg (by simp), show wrap64 (wrap64 (day - a) + 1) = day - a + 1 from by unfold wrap64; omega]
    exact c1
  by_cases hlt : day - a + 1 ≤ 0
  · obtain ⟨k, rfl⟩ : ∃ j, k = j + 1 := ⟨k - 1, by omega⟩
    refine ⟨0, by simp only [season_Count.l0]; rw [if_neg (by omega)], ⟨by omega, fun i i0 i1 => by omega, not_upto a y m d u e day 0 hv ha he.1 (by omega) (by omega)⟩, by omega⟩
  · obtain ⟨c, c1, c2, c3, c4⟩ := count_loop a y m d u e day hv ha hu he (day - a + 1).toNat k 0 (day - a + 1) (by omega) (by omega) (by omega) (by omega) (by omega)
      (fun i i0 i1 => by omega) (not_upto a y m d u e day _ hv ha he.1 (by omega) (by omega))
    exact ⟨c, c1, c2, by omega⟩
theorem count_calls (a y m d u e day c : Int) (w : World) (hv : Cal.valid y m d) (ha : Cal.num y m d = a) (hu : 0 ≤ u ∧ u ≤ 3) (he : 1 ≤ e ∧ e ≤ 1000) (hd : 0 ≤ day ∧ day ≤ 3652058) (hc : Cnt a y m d u e day c) :
    Calls Try.prog 16 #[.int .i64 a, .int .u8 u, .int .i64 e, .int .i64 day] w fun e w' => e = .returned (.tuple #[.int .i64 c, .int .i64 0]) ∧ Below w.heap.size w w' := by
  obtain ⟨c', c1, c2, _⟩ := count_eq 4000000 (by omega) a y m d u e day hv ha hu he hd
  obtain rfl := cnt_one _ _ _ _ _ _ _ _ _ hc c2
  exact season_Count.calls 4000000 a u e day c 0 w c1
theorem upto_val (a y m d u e n day : Int) (h : Sea.upto a y m d u e n day) : ∃ v, Sea.nth a y m d u e n = some v ∧ v ≤ day := h
theorem span_none (a y m d u e day : Int) (w : World) (hv : Cal.valid y m d) (ha : Cal.num y m d = a) (hu : 0 ≤ u ∧ u ≤ 3) (he : 1 ≤ e ∧ e ≤ 1000) (hd : 0 ≤ day ∧ day ≤ 3652058) (hc : Cnt a y m d u e day 0) :
    Calls Try.prog 17 #[.int .i64 a, .int .u8 u, .int .i64 e, .int .i64 day] w fun e w' => e = .returned (.tuple #[.int .i64 0, .int .i64 0, .int .i64 2]) ∧ Below w.heap.size w w' := by
  obtain ⟨c', c1, c2, _⟩ := count_eq 4000000 (by omega) a y m d u e day hv ha hu he hd
  obtain rfl := cnt_one _ _ _ _ _ _ _ _ _ hc c2
  exact season_Span.calls 4000000 a u e day 0 0 2 w (by unfold season_Span.f; rw [c1]; simp)
theorem span_some (a y m d u e day c v r1 r2 r3 : Int) (w : World) (hv : Cal.valid y m d) (ha : Cal.num y m d = a) (hu : 0 ≤ u ∧ u ≤ 3) (he : 1 ≤ e ∧ e ≤ 1000) (hd : 0 ≤ day ∧ day ≤ 3652058) (hc : Cnt a y m d u e day c) (h1 : 1 ≤ c) (h2 : c ≤ 3652058)
    (hx : Sea.nth a y m d u e (c - 1) = some v) (hr : (match Sea.nth a y m d u e c with | some x => (v, x, 0) | none => (0, 0, 6)) = (r1, r2, r3)) :
    Calls Try.prog 17 #[.int .i64 a, .int .u8 u, .int .i64 e, .int .i64 day] w fun e w' => e = .returned (.tuple #[.int .i64 r1, .int .i64 r2, .int .i64 r3]) ∧ Below w.heap.size w w' := by
  obtain ⟨c', c1, c2, _⟩ := count_eq 4000000 (by omega) a y m d u e day hv ha hu he hd
  obtain rfl := cnt_one _ _ _ _ _ _ _ _ _ hc c2
  refine season_Span.calls 4000000 a u e day r1 r2 r3 w ?_
  unfold season_Span.f
  rw [c1]
  simp only [Option.bind_some]
  rw [if_pos trivial, if_neg (by omega), show wrap64 (c - 1) = c - 1 from by unfold wrap64; omega]
  rw [nth_eq 4000000 (by omega) a y m d u e (c - 1) hv ha hu he ⟨by omega, by omega⟩, nth_eq 4000000 (by omega) a y m d u e c hv ha hu he ⟨by omega, by omega⟩, hx]
  cases hn : Sea.nth a y m d u e c with
  | none => rw [hn] at hr; simpa [Sea.out] using hr
  | some x => rw [hn] at hr; simpa [Sea.out] using hr
end Go.Proofs.Ythninollljphoaa.Pure
