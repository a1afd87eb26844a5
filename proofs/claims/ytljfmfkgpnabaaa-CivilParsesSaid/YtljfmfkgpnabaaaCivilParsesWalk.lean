/- The law CivilParses, walked. -/
import Derived.Test.YtljfmfkgpnabaaaPTwox
import Derived.Test.YtljfmfkgpnabaaaParseBad
import Derived.OpenShut
import Derived.Laws.IdiomStrings
set_option linter.unusedVariables false
set_option linter.unusedSimpArgs false
namespace Go.Proofs.Ytljfmfkgpnabaaa.Pure
open Go.RowKit Go.Proofs.Ytljfmfkgpnabaaa.PCivilNumbers Go.Proofs.Ytljfmfkgpnabaaa.PTwo Go.Proofs.YtljfmfkgpnabaaaW.PrintWords Go.Proofs.YtljfmfkgpnabaaaW.PrintLast
open Go.Proofs.Ytljfmfkgpnabaaa
attribute [local go_sem] setCell_map
theorem two_f (n : Int) (h0 : 0 ≤ n) (h1 : n ≤ 9999) : paybookref01_Two.f n = some ⟨(Txt.t2 n).toArray⟩ := by
  unfold paybookref01_Two.f
  congr 1
  have e1 : Int.tdiv n 10 = n / 10 := Int.tdiv_eq_ediv_of_nonneg h0
  have e2 : wrap64 (n / 10) = n / 10 := (by unfold wrap64; omega)
  have e3 : Int.tmod (n / 10) 10 = n / 10 % 10 := Int.tmod_eq_emod_of_nonneg (by omega)
  have e4 : Int.tmod n 10 = n % 10 := Int.tmod_eq_emod_of_nonneg h0
  have e5 : wrap64 (48 + n / 10 % 10) = 48 + n / 10 % 10 := (by unfold wrap64; omega)
  have e6 : wrap64 (48 + n % 10) = 48 + n % 10 := (by unfold wrap64; omega)
  rw [e1, e2, e3, e4, e5, e6]
  apply ByteArray.ext
  have f1 : ((48 + n / 10 % 10) % 256).toNat = 48 + (n / 10 % 10).toNat := by omega
  have f2 : ((48 + n % 10) % 256).toNat = 48 + (n % 10).toNat := by omega
  simp [strOfNums, Txt.t2, Txt.dg, f1, f2]
theorem rtwo_calls (n : Int) (w : World) (h0 : 0 ≤ n) (h1 : n ≤ 9999) :
    Calls Try.prog 36 #[.int .i64 n] w fun e w' => e = .returned (.string ⟨(Txt.t2 n).toArray⟩) ∧ Below w.heap.size w w' :=
  paybookref01_Two.calls n _ w (two_f n h0 h1)
set_option maxHeartbeats 8000000 in
theorem rtext_calls (y m d : Int) (w : World) (hv : Cal.valid y m d) :
    Calls Try.prog 26 #[.agg #[.int .i64 y, .int .i64 m, .int .i64 d]] w fun e w' => e = .returned (.string ⟨(Txt.txt y m d).toArray⟩) ∧ Below w.heap.size w w' := by
  obtain ⟨h1, h2, h3, h4, h5, h6⟩ := hv
  have hmo := Cal.mon_le y m
  have hl4 : (Txt.t2 (y / 100)).length = 2 := by simp [Txt.t2]
  have hl5 : (Txt.t2 y).length = 2 := by simp [Txt.t2]
  have hl6 : (Txt.t2 m).length = 2 := by simp [Txt.t2]
  have hl7 : (Txt.t2 d).length = 2 := by simp [Txt.t2]
  have s1 : ¬ 9223372036854775807 < (Txt.t2 (y / 100)).length + (Txt.t2 y).length := by omega
  have s2 : ¬ 9223372036854775807 < (Txt.t2 (y / 100)).length + (Txt.t2 y).length + 1 := by omega
  have s3 : ¬ 9223372036854775807 < (Txt.t2 (y / 100)).length + (Txt.t2 y).length + 1 + (Txt.t2 m).length := by omega
  have s4 : ¬ 9223372036854775807 < (Txt.t2 (y / 100)).length + (Txt.t2 y).length + 1 + (Txt.t2 m).length + 1 := by omega
  have s5 : ¬ 9223372036854775807 < (Txt.t2 (y / 100)).length + (Txt.t2 y).length + 1 + (Txt.t2 m).length + 1 + (Txt.t2 d).length := by omega
  have e1 : IntKind.i64.wrap (Int.tdiv y 100) = y / 100 := by
    rw [Int.tdiv_eq_ediv_of_nonneg (by omega)]; rw [IntKind.wrap_i64]; omega
  have HE := Aside0.mk e1
  clear hl4 hl5 hl6 hl7 e1
  go_enter Try.func26, Try.ntmps26
  go_wp2_with fail
  go_region_held3 (fun w' => w'.cell? ⟨w.heap.size, 0, none⟩ = some (.int .i64 y) ∧ w'.cell? ⟨w.heap.size, 1, none⟩ = some (.int .i64 m) ∧ w'.cell? ⟨w.heap.size, 2, none⟩ = some (.int .i64 d)) (go_keep) (first
    | (go_at_call_of 36 (Value.int .i64 (y)); with_reducible refine (rtwo_calls (y) _ (by omega) (by omega)).mono ?_; rintro e w2 ⟨rfl, hb2⟩; have k2_0 : w2.cell? ⟨w.heap.size, 0, none⟩ = some (.int .i64 y) := pw_cell_below hb2 (by first | assumption | go_keep); have k2_1 : w2.cell? ⟨w.heap.size, 1, none⟩ = some (.int .i64 m) := pw_cell_below hb2 (by first | assumption | go_keep); have k2_2 : w2.cell? ⟨w.heap.size, 2, none⟩ = some (.int .i64 d) := pw_cell_below hb2 (by first | assumption | go_keep))
    | (go_at_call_of 36 (Value.int .i64 (m)); with_reducible refine (rtwo_calls (m) _ (by omega) (by omega)).mono ?_; rintro e w3 ⟨rfl, hb3⟩; have k3_0 : w3.cell? ⟨w.heap.size, 0, none⟩ = some (.int .i64 y) := pw_cell_below hb3 (by first | assumption | go_keep); have k3_1 : w3.cell? ⟨w.heap.size, 1, none⟩ = some (.int .i64 m) := pw_cell_below hb3 (by first | assumption | go_keep); have k3_2 : w3.cell? ⟨w.heap.size, 2, none⟩ = some (.int .i64 d) := pw_cell_below hb3 (by first | assumption | go_keep))
    | (go_at_call_of 36 (Value.int .i64 (d)); with_reducible refine (rtwo_calls (d) _ (by omega) (by omega)).mono ?_; rintro e w4 ⟨rfl, hb4⟩; have k4_0 : w4.cell? ⟨w.heap.size, 0, none⟩ = some (.int .i64 y) := pw_cell_below hb4 (by first | assumption | go_keep); have k4_1 : w4.cell? ⟨w.heap.size, 1, none⟩ = some (.int .i64 m) := pw_cell_below hb4 (by first | assumption | go_keep); have k4_2 : w4.cell? ⟨w.heap.size, 2, none⟩ = some (.int .i64 d) := pw_cell_below hb4 (by first | assumption | go_keep))
    | (go_at_call 36; rw [HE.out]; with_reducible refine (rtwo_calls (y / 100) _ (by omega) (by omega)).mono ?_; rintro e w1 ⟨rfl, hb1⟩; have k1_0 : w1.cell? ⟨w.heap.size, 0, none⟩ = some (.int .i64 y) := pw_cell_below hb1 (by first | assumption | go_keep); have k1_1 : w1.cell? ⟨w.heap.size, 1, none⟩ = some (.int .i64 m) := pw_cell_below hb1 (by first | assumption | go_keep); have k1_2 : w1.cell? ⟨w.heap.size, 2, none⟩ = some (.int .i64 d) := pw_cell_below hb1 (by first | assumption | go_keep)))
  have GB : Aside0 (Below w.heap.size w w4) := ⟨below_step (below_step (below_step (below_step (below_drew1 (below_alloc (Below.refl _ _) _)) hb1) hb2) hb3) hb4⟩
  clear hb1 hb2 hb3 hb4
  go_wp2_with fail
  go_ret
  refine ⟨ret_str ?_, GB.out⟩
  rw [show (⟨#[45]⟩ : ByteArray) = ⟨([45] : List UInt8).toArray⟩ from rfl, str_app, str_app, str_app, str_app, str_app]
  rfl
/-- '[]byte' of a text: a row of its bytes. -/
theorem conv_text (w : World) (l : List UInt8) : ∃ (cap : Nat) (C : Array Value), (convert 9 43 (.string ⟨l.toArray⟩)).run Try.prog w = .ok (.slice (some ⟨w.heap.size, 0, none⟩) l.length cap) (w.drew.alloc (.cells C 5 (C.size, C.size + 1))) ∧ (∀ j (h : j < l.length), C[j]? = some (.int .u8 (l[j]).toNat)) ∧ l.length ≤ cap := by
  refine ⟨grownCap w l.length 0 5, bytesRow ⟨l.toArray⟩ (grownCap w l.length 0 5), ?_, ?_, ?_⟩
  · have := run_bytes_of_string (P := Try.prog) w 9 43 5 ⟨l.toArray⟩ Try.underlying9 Try.underlying43 Try.underlying5
    simpa [ByteArray.size] using this
  · intro j h
    unfold bytesRow
    rw [Array.getElem?_append_left (by simpa using h)]
    simp [h]
  · exact grownCap_ge _ _ _ _
theorem conv_back (w : World) (l : List UInt8) (g cap : Nat) (hc : ∀ j (hj : j < l.length), w.cell? ⟨g, j, none⟩ = some (.int .u8 (l[j].toNat : Int))) :
    (convert 43 9 (.slice (some ⟨g, 0, none⟩) l.length cap)).run Try.prog w = .ok (.string ⟨l.toArray⟩) w :=
  run_convert_bytes_back (P := Try.prog) w 43 9 5 ⟨g, 0, none⟩ cap l Try.underlying43 Try.underlying5 Try.underlying9 (fun j hj => by
    have e : (⟨g, 0, none⟩ : Addr).add j = ⟨g, j, none⟩ := by cases j <;> simp [Addr.add]
    rw [e]; exact hc j hj)
theorem next_day (y m d : Int) (h : Cal.valid y m d) (hmax : Cal.num y m d < 3652058) : ∃ y' m' d', Cal.valid y' m' d' ∧ Cal.num y' m' d' = Cal.num y m d + 1 := by
  have h0 := h
  obtain ⟨h1, h2, h3, h4, h5, h6⟩ := h
  have hs := Cal.cum_succ y m h3 h4
  by_cases hd : Cal.mon y m < d + 1
  · by_cases hm12 : 12 < m + 1
    · have hm1 : m = 12 := by omega
      subst hm1
      have b := Cal.bef_succ y
      have d13 := Cal.cum_13 y
      rw [show (12 : Int) + 1 = 13 from rfl] at hs
      have hy : y + 1 ≤ 9999 := by
        by_cases g : y = 9999
        · subst g
          have c := Cal.bef_max
          rw [show (9999 : Int) + 1 = 10000 from rfl] at b
          unfold Cal.num at hmax; omega
        · omega
      refine ⟨y + 1, 1, 1, ⟨by omega, hy, by omega, by omega, by omega, by have := Cal.mon_pos (y + 1) 1 (by omega) (by omega); omega⟩, ?_⟩
      have c1 := Cal.cum_one (y + 1)
      unfold Cal.num; omega
    · exact ⟨y, m + 1, 1, ⟨h1, h2, by omega, by omega, by omega, by have := Cal.mon_pos y (m + 1) (by omega) (by omega); omega⟩, by unfold Cal.num; omega⟩
  · exact ⟨y, m, d + 1, ⟨h1, h2, h3, h4, by omega, by omega⟩, by unfold Cal.num; omega⟩
theorem ex_day (n : Nat) (h : n ≤ 3652058) : ∃ y m d, Cal.valid y m d ∧ Cal.num y m d = n := by
  induction n with
  | zero => exact ⟨1, 1, 1, by unfold Cal.valid; decide, by decide⟩
  | succ n ih =>
    obtain ⟨y, m, d, hv, hn⟩ := ih (by omega)
    obtain ⟨y', m', d', hv', hn'⟩ := next_day y m d hv (by omega)
    exact ⟨y', m', d', hv', by omega⟩
theorem ex_day' (n : Int) (h0 : 0 ≤ n) (h1 : n ≤ 3652058) : ∃ y m d, Cal.valid y m d ∧ Cal.num y m d = n := by
  obtain ⟨k, rfl⟩ := Int.eq_ofNat_of_zero_le h0
  exact ex_day k (by omega)
/-- What a text is read as. -/
def PFact (x : ByteArray) (yy mm dd E : Int) : Prop :=
  (E = 0 ∧ x.size = 10 ∧ (∀ j, j < 10 → pgood x j) ∧ Cal.valid yy mm dd ∧ x = ⟨(Txt.txt yy mm dd).toArray⟩) ∨
  (E = 4 ∧ ¬ (x.size = 10 ∧ ∀ j, j < 10 → pgood x j)) ∨ (E = 1 ∧ x.size = 10 ∧ ∀ j, j < 10 → pgood x j)
theorem pd_inj (a b : ByteArray) (h : a.size = b.size) (hp : ∀ j, j < a.size → pd a j = pd b j) : a = b := by
  apply ByteArray.ext
  apply Array.ext h
  intro j h1 h2
  have e := hp j h1
  unfold pd at e
  rw [dif_pos (show j < a.size from h1), dif_pos (show j < b.size from h2)] at e
  have e2 : (a[j]'h1).toNat = (b[j]'h2).toNat := by omega
  exact UInt8.toNat_inj.1 e2
theorem txt_pd (y m d : Int) (h : Cal.valid y m d) : pd ⟨(Txt.txt y m d).toArray⟩ 0 = y / 100 / 10 % 10 ∧ pd ⟨(Txt.txt y m d).toArray⟩ 1 = y / 100 % 10 ∧ pd ⟨(Txt.txt y m d).toArray⟩ 2 = y / 10 % 10 ∧ pd ⟨(Txt.txt y m d).toArray⟩ 3 = y % 10 ∧ pd ⟨(Txt.txt y m d).toArray⟩ 4 = -3 ∧ pd ⟨(Txt.txt y m d).toArray⟩ 5 = m / 10 % 10 ∧ pd ⟨(Txt.txt y m d).toArray⟩ 6 = m % 10 ∧ pd ⟨(Txt.txt y m d).toArray⟩ 7 = -3 ∧ pd ⟨(Txt.txt y m d).toArray⟩ 8 = d / 10 % 10 ∧ pd ⟨(Txt.txt y m d).toArray⟩ 9 = d % 10 := by
  obtain ⟨h1, h2, h3, h4, h5, h6⟩ := h
  have hm := Cal.mon_le y m
  have D : ∀ n : Int, 0 ≤ n → n ≤ 9 → ((Txt.dg n).toNat : Int) - 48 = n := fun n a b => by rw [dg_nat n a b]; omega
  exact ⟨(pd_mk _ 0 _ rfl).trans (D _ (by omega) (by omega)), (pd_mk _ 1 _ rfl).trans (D _ (by omega) (by omega)), (pd_mk _ 2 _ rfl).trans (D _ (by omega) (by omega)), (pd_mk _ 3 _ rfl).trans (D _ (by omega) (by omega)), (pd_mk _ 4 45 rfl).trans (by decide), (pd_mk _ 5 _ rfl).trans (D _ (by omega) (by omega)), (pd_mk _ 6 _ rfl).trans (D _ (by omega) (by omega)), (pd_mk _ 7 45 rfl).trans (by decide), (pd_mk _ 8 _ rfl).trans (D _ (by omega) (by omega)), (pd_mk _ 9 _ rfl).trans (D _ (by omega) (by omega))⟩
theorem txt_back (x : ByteArray) (hs : x.size = 10) (hg : ∀ j, j < 10 → pgood x j) (hv : Cal.valid (pacc x 10).1 (pacc x 10).2.1 (pacc x 10).2.2) : x = ⟨(Txt.txt (pacc x 10).1 (pacc x 10).2.1 (pacc x 10).2.2).toArray⟩ := by
  obtain ⟨p0, p1, p2, p3, p4, p5, p6, p7, p8, p9⟩ := txt_pd _ _ _ hv
  have g0 := hg 0 (by omega)
  have g1 := hg 1 (by omega)
  have g2 := hg 2 (by omega)
  have g3 := hg 3 (by omega)
  have g4 := hg 4 (by omega)
  have g5 := hg 5 (by omega)
  have g6 := hg 6 (by omega)
  have g7 := hg 7 (by omega)
  have g8 := hg 8 (by omega)
  have g9 := hg 9 (by omega)
  have ea : (pacc x 10).1 = 10 * (10 * (10 * (10 * 0 + pd x 0) + pd x 1) + pd x 2) + pd x 3 := by simp [pacc]
  have eb : (pacc x 10).2.1 = 10 * (10 * 0 + pd x 5) + pd x 6 := by simp [pacc]
  have ec : (pacc x 10).2.2 = 10 * (10 * 0 + pd x 8) + pd x 9 := by simp [pacc]
  unfold pgood at g0 g1 g2 g3 g4 g5 g6 g7 g8 g9
  rw [if_neg (by omega)] at g0 g1 g2 g3 g5 g6 g8 g9
  rw [if_pos (by omega)] at g4 g7
  apply pd_inj
  · rw [hs]; rfl
  · intro j hj
    rw [hs] at hj
    rcases (show j = 0 ∨ j = 1 ∨ j = 2 ∨ j = 3 ∨ j = 4 ∨ j = 5 ∨ j = 6 ∨ j = 7 ∨ j = 8 ∨ j = 9 by omega) with rfl | rfl | rfl | rfl | rfl | rfl | rfl | rfl | rfl | rfl
    · rw [p0]; omega
    · rw [p1]; omega
    · rw [p2]; omega
    · rw [p3]; omega
    · rw [p4]; omega
    · rw [p5]; omega
    · rw [p6]; omega
    · rw [p7]; omega
    · rw [p8]; omega
    · rw [p9]; omega
theorem first_bad (P : Nat → Prop) : ∀ n, ¬ (∀ j, j < n → P j) → ∃ p, p < n ∧ (∀ j, j < p → P j) ∧ ¬ P p := by
  intro n
  induction n with
  | zero => intro h; exact absurd (fun j hj => absurd hj (by omega)) h
  | succ n ih =>
    intro h
    by_cases hn : ∀ j, j < n → P j
    · refine ⟨n, by omega, hn, fun hp => h fun j hj => ?_⟩
      by_cases e : j = n
      · rw [e]; exact hp
      · exact hn j (by omega)
    · obtain ⟨p, h1, h2, h3⟩ := ih hn
      exact ⟨p, by omega, h2, h3⟩
theorem parse_any (x : ByteArray) : ∃ yy mm dd E, PFact x yy mm dd E ∧ ∀ w : World, Calls Try.prog 27 #[.string x] w fun e w' => e = .returned (.tuple #[.agg #[.int .i64 yy, .int .i64 mm, .int .i64 dd], .int .i64 E]) ∧ Below w.heap.size w w' := by
  by_cases hs : x.size = 10
  · by_cases hg : ∀ j, j < 10 → pgood x j
    · by_cases hv : Cal.valid (pacc x 10).1 (pacc x 10).2.1 (pacc x 10).2.2
      · exact ⟨_, _, _, 0, .inl ⟨rfl, hs, hg, hv, txt_back x hs hg hv⟩, fun w => parse_good x w hs hg hv⟩
      · exact ⟨_, _, _, 1, .inr (.inr ⟨rfl, hs, hg⟩), fun w => parse_arg x w hs hg hv⟩
    · obtain ⟨p, h1, h2, h3⟩ := first_bad (pgood x) 10 hg
      exact ⟨_, _, _, 4, .inr (.inl ⟨rfl, fun h => hg h.2⟩), fun w => parse_bad x w hs p h1 h2 h3⟩
  · exact ⟨_, _, _, 4, .inr (.inl ⟨rfl, fun h => hs h.1⟩), fun w => parse_long x w (beq_eq_false_iff_ne.2 (by omega))⟩
theorem rright_true (y m d : Int) (w : World) (h : Cal.valid y m d) :
    Calls Try.prog 20 #[.agg #[.int .i64 y, .int .i64 m, .int .i64 d]] w fun e w' => e = .returned (.bool true) ∧ Below w.heap.size w w' := by
  classical
  refine paybookref01_Right.calls 2 y m d true w ?_
  rw [rright_eq 2 (by omega)]
  simp [h]
theorem step_shape (b b' : Bool) (A : Prop) (Q : Nat → Prop) (j : Nat) (hb : b = true ↔ A ∧ ∀ k, k < j → Q k) (hb' : b' = true ↔ b = true ∧ Q j) : b' = true ↔ A ∧ ∀ k, k < j + 1 → Q k := by
  rw [hb', hb]
  constructor
  · rintro ⟨⟨a, h⟩, q⟩
    refine ⟨a, fun k hk => ?_⟩
    by_cases e : k = j
    · rw [e]; exact q
    · exact h k (by omega)
  · rintro ⟨a, h⟩
    exact ⟨⟨a, fun k hk => h k (by omega)⟩, h j (by omega)⟩
theorem pgood_at (x : ByteArray) (j : Nat) (h : j < x.size) : pgood x j ↔ if j = 4 ∨ j = 7 then ((x[j]'h).toNat : Int) = 45 else 48 ≤ ((x[j]'h).toNat : Int) ∧ ((x[j]'h).toNat : Int) ≤ 57 := by
  have := pd_at x j h
  unfold pgood
  split <;> omega
theorem awake_any (w : World) : Calls Try.prog 12 #[] w fun e w' => e = .returned (.bool true) ∧ Below w.heap.size w w' :=
  paybooklaw01_awake.calls 15 true w (awake_yes 15 (by omega))
set_option maxHeartbeats 8000000 in
theorem parses_long (s : ByteArray) (n0 a0 c0 : Int) (w : World) (b0 : 0 ≤ n0 ∧ n0 ≤ 4294967295) (b1 : 0 ≤ a0 ∧ a0 ≤ 255) (b2 : 0 ≤ c0 ∧ c0 ≤ 255) (hl : decide (40 < (s.size : Int)) = true) :
    Calls Try.prog 8 #[.string s, .int .u32 n0, .int .u8 a0, .int .u8 c0] w fun e w' => e = .returned (.bool true) ∧ Below w.heap.size w w' := by
  go_enter Try.func8, Try.ntmps8
  go_wp2_with fail
  with_reducible refine (awake_any _).mono ?_
  rintro e w1 ⟨rfl, hb⟩
  have GB := Aside0.mk hb
  clear hb
  go_wp2_with fail
  with_reducible refine (awake_any _).mono ?_
  rintro e w2 ⟨rfl, hb⟩
  have GB := Aside0.mk (below_step GB.out hb)
  clear hb
  go_wp2_with fail
  go_ret
  exact ⟨rfl, GB.out⟩
set_option maxHeartbeats 8000000 in
set_option maxRecDepth 20000 in
theorem parses_walk (s : ByteArray) (n0 a0 c0 : Int) (w : World) (b0 : 0 ≤ n0 ∧ n0 ≤ 4294967295) (b1 : 0 ≤ a0 ∧ a0 ≤ 255) (b2 : 0 ≤ c0 ∧ c0 ≤ 255) (hl : decide (40 < (s.size : Int)) = false) (y m d : Int) (hv : Cal.valid y m d) (hn : Cal.num y m d = n0 % 3652059) :
    Calls Try.prog 8 #[.string s, .int .u32 n0, .int .u8 a0, .int .u8 c0] w fun e w' => e = .returned (.bool true) ∧ Below w.heap.size w w' := by
  have HV := Aside0.mk hv
  have HN := Aside0.mk hn
  clear hv hn
  go_enter Try.func8, Try.ntmps8
  go_wp2_with fail
  with_reducible refine (awake_any _).mono ?_
  rintro e w1 ⟨rfl, hb⟩
  have GB := Aside0.mk hb
  clear hb
  go_wp2_with fail
  with_reducible refine (rof_calls _ _ (by omega) (by omega) y m d HV.out HN.out).mono ?_
  rintro e w2 ⟨rfl, hb⟩
  have GB := Aside0.mk (below_step GB.out hb)
  clear hb
  go_wp2_with fail
  with_reducible refine (rtext_calls y m d _ HV.out).mono ?_
  rintro e w3 ⟨rfl, hb⟩
  have GB := Aside0.mk (below_step GB.out hb)
  have GB3 := GB
  clear hb
  obtain ⟨l, hl0⟩ : ∃ l, l = Txt.txt y m d := ⟨_, rfl⟩
  have hl10 : l.length = 10 := by rw [hl0]; rfl
  rw [← hl0]
  have HL := Aside0.mk hl0
  clear hl0
  obtain ⟨cap, C, hconv, hC, hcap⟩ := conv_text w3 l
  rw [hl10] at hconv hcap
  have HC := Aside0.mk hC
  have hcap9 : (9 : Nat) ≤ cap := by omega
  have hcap9i : (9 : Int) ≤ (cap : Int) := by omega
  have hcap9d : ¬ (cap : Int) < 9 := by omega
  have hpl : (a0 % 10).toNat < 10 := by omega
  have hap : Int.tmod a0 10 = a0 % 10 := Int.tmod_eq_emod_of_nonneg (by omega)
  have hB : (w3.drew.alloc (.cells C 5 (C.size, C.size + 1))).heap[w3.heap.size]? = some (.cells C 5 (C.size, C.size + 1)) := blk_new w3.drew _
  have GB4 : Below w.heap.size w (w3.drew.alloc (.cells C 5 (C.size, C.size + 1))) := below_alloc (below_drew1 GB.out) _
  obtain ⟨W4, hW4⟩ : ∃ W4, W4 = w3.drew.alloc (.cells C 5 (C.size, C.size + 1)) := ⟨_, rfl⟩
  rw [← hW4] at hB hconv GB4
  have HW4 := Aside0.mk hW4
  clear hW4
  have hcp : W4.cell? ⟨w3.heap.size, (a0 % 10).toNat, none⟩ = some (.int .u8 (l[(a0 % 10).toNat]'(by omega)).toNat) := by
    simp only [World.cell?, hB]; exact hC (a0 % 10).toNat (by omega)
  have hCs : 10 ≤ C.size := by have := (Array.getElem?_eq_some_iff.1 (hC 9 (by omega))).1; omega
  have hfp : W4.frozen? ⟨w3.heap.size, (a0 % 10).toNat, none⟩ = false := by
    simp only [World.frozen?, hB]; simp; omega
  have HB4 := Aside0.mk hB
  have GB := Aside0.mk GB4
  have hmod : 0 ≤ a0 % 10 ∧ a0 % 10 < 10 := by omega
  generalize (l[(a0 % 10).toNat]'(by omega)).toNat = v0 at hcp
  obtain ⟨W5, hW5⟩ : ∃ W5, W5 = W4.setCell ⟨w3.heap.size, (a0 % 10).toNat, none⟩ (.int .u8 c0) := ⟨_, rfl⟩
  obtain ⟨l', hl'⟩ : ∃ l' : List UInt8, l' = l.set (a0 % 10).toNat (UInt8.ofNat c0.toNat) := ⟨_, rfl⟩
  have hl2 : l'.length = 10 := by rw [hl', List.length_set, hl10]
  have hcell : ∀ (W : World), Below W5.heap.size W5 W → ∀ j (hj : j < l'.length), W.cell? ⟨w3.heap.size, j, none⟩ = some (.int .u8 (l'[j].toNat : Int)) := by
    intro W hbW j hj
    have hj10 : j < 10 := by omega
    have h5 : W5.heap[w3.heap.size]? = some (.cells (C.setIfInBounds (a0 % 10).toNat (.int .u8 c0)) 5 (C.size, C.size + 1)) := by
      rw [hW5]; simp [World.setCell, Array.getElem?_modify, HB4.out]
    have h6 := blk_below h5 hbW
    simp only [World.cell?, h6]
    subst hl'
    rw [Array.getElem?_setIfInBounds, List.getElem_set]
    by_cases e : (a0 % 10).toNat = j
    · rw [if_pos e, if_pos e, if_pos (show (a0 % 10).toNat < C.size by omega)]
      have hc0 : ((UInt8.ofNat c0.toNat).toNat : Int) = c0 := by rw [UInt8.toNat_ofNat']; omega
      rw [hc0]
      rfl
    · rw [if_neg e, if_neg e]
      exact HC.out j (by omega)
  have HCL := Aside0.mk hcell
  have HW5 := Aside0.mk hW5
  clear hC hB GB4
  go_wp2_with fail
  rw [← hW5]
  have hk10 : ∀ W, Below W5.heap.size W5 W → (convert 43 9 (.slice (some ⟨w3.heap.size, 0, none⟩) 10 cap)).run Try.prog W = .ok (.string ⟨l'.toArray⟩) W := by
    intro W hbW
    have := conv_back W l' w3.heap.size cap (HCL.out W hbW)
    rw [hl2] at this
    exact this
  have hk9 : ∀ W, Below W5.heap.size W5 W → (convert 43 9 (.slice (some ⟨w3.heap.size, 0, none⟩) 9 cap)).run Try.prog W = .ok (.string ⟨(l'.take 9).toArray⟩) W := by
    intro W hbW
    have hl9 : (l'.take 9).length = 9 := by simp [hl2]
    have := conv_back W (l'.take 9) w3.heap.size cap (fun j hj => by rw [List.getElem_take]; exact HCL.out W hbW j (by omega))
    rw [hl9] at this
    exact this
  have HK10 := Aside0.mk hk10
  have HK9 := Aside0.mk hk9
  clear hk10 hk9 hW5 hl'
  go_region_held3 (fun w' => Aside0 (Below W5.heap.size W5 w') ∧ (convert 43 9 (.slice (some ⟨w3.heap.size, 0, none⟩) 10 cap)).run Try.prog w' = .ok (.string ⟨l'.toArray⟩) w' ∧ (convert 43 9 (.slice (some ⟨w3.heap.size, 0, none⟩) 9 cap)).run Try.prog w' = .ok (.string ⟨(l'.take 9).toArray⟩) w') (first | go_keep | (refine ⟨⟨?_⟩, HK10.out _ ?_, HK9.out _ ?_⟩ <;> first | exact below_drew1 (Below.refl _ _) | exact below_drew1 (below_alloc (Below.refl _ _) _))) (fail)
  have GB6 : Aside0 (Below w.heap.size w (W5.alloc (.cells #[.string s, .string ⟨l'.toArray⟩, .string (⟨l'.toArray⟩ ++ ⟨#[48]⟩), .string ⟨(l'.take 9).toArray⟩] 9)).drew) := ⟨below_drew1 (below_alloc (by rw [HW5.out]; exact below_set GB.out (by have := GB3.out.size; simp; omega)) _)⟩
  have B6 : Aside0 ((W5.alloc (.cells #[.string s, .string ⟨l'.toArray⟩, .string (⟨l'.toArray⟩ ++ ⟨#[48]⟩), .string ⟨(l'.take 9).toArray⟩] 9)).drew.heap[W5.heap.size]? = some (.cells #[.string s, .string ⟨l'.toArray⟩, .string (⟨l'.toArray⟩ ++ ⟨#[48]⟩), .string ⟨(l'.take 9).toArray⟩] 9 (0, 0))) := ⟨blk_drew (blk_new W5 _)⟩
  clear HK10 HK9 HCL HC HB4 GB
  generalize (⟨l'.toArray⟩ : ByteArray) ++ ⟨#[48]⟩ = x2 at GB6 B6 ⊢
  generalize (⟨l'.toArray⟩ : ByteArray) = x1 at GB6 B6 ⊢
  generalize (⟨(l'.take 9).toArray⟩ : ByteArray) = x3 at GB6 B6 ⊢
  generalize (W5.alloc (.cells #[.string s, .string x1, .string x2, .string x3] 9)).drew = W6 at GB6 B6 ⊢
  generalize W5.heap.size = g6 at B6 ⊢
  go_wp2_with fail
  go_loopg [48] 4 (fun kq t48 wr => ∃ i : Nat, t48 = .int .i64 i ∧ i ≤ 4 ∧ Aside0 (4 - i ≤ kq) ∧ Aside0 (wr.heap[g6]? = some (.cells #[.string s, .string x1, .string x2, .string x3] 9 (0, 0))) ∧ Aside0 (Below w.heap.size w wr))
  case atStart => exact ⟨0, rfl, by omega, ⟨by omega⟩, B6, GB6⟩
  case round =>
    obtain ⟨i, rfl, hi, HM, C6, HB⟩ := hrel
    clear GB6 B6
    by_cases hi4 : i < 4
    · obtain ⟨x, hx⟩ : ∃ x, wr.cell? ⟨g6, i, none⟩ = some (.string x) := by
        have := blk_cell C6.out i
        rcases (show i = 0 ∨ i = 1 ∨ i = 2 ∨ i = 3 by omega) with rfl | rfl | rfl | rfl <;> exact ⟨_, this⟩
      have hi0 : (0 : Int) ≤ (i : Int) := by omega
      have hi1 : (i : Int) < 4 := by omega
      obtain ⟨yy, mm, dd, E, hf, hcalls⟩ := parse_any x
      have HF := Aside0.mk hf
      have HP := Aside0.mk hcalls
      clear hf hcalls
      go_wp2_with fail
      with_reducible refine (HP.out _).mono ?_
      rintro e w7 ⟨rfl, hb⟩
      have D6 := Aside0.mk (blk_below C6.out hb)
      have GB7 := Aside0.mk (below_step HB.out hb)
      clear hb
      have B8 : Aside0 ((w7.alloc (.cells #[.int .i64 yy, .int .i64 mm, .int .i64 dd] 30)).heap[w7.heap.size]? = some (.cells #[.int .i64 yy, .int .i64 mm, .int .i64 dd] 30 (0, 0))) := ⟨blk_new w7 _⟩
      have D8 := Aside0.mk (blk_alloc D6.out (.cells #[.int .i64 yy, .int .i64 mm, .int .i64 dd] 30))
      have GB8 := Aside0.mk (below_alloc GB7.out (.cells #[.int .i64 yy, .int .i64 mm, .int .i64 dd] 30))
      go_wp2_with fail
      generalize w7.alloc (.cells #[.int .i64 yy, .int .i64 mm, .int .i64 dd] 30) = W8 at B8 D8 GB8 ⊢
      generalize w7.heap.size = g8 at B8 ⊢
      clear D6 GB7 C6 HB
      go_loopg [14, 15] 10 (fun kq t14 t15 wr => ∃ (j : Nat) (b : Bool), t14 = .bool b ∧ t15 = .int .i64 j ∧ j ≤ 10 ∧ j ≤ x.size ∧ Aside0 (10 - j ≤ kq) ∧ Aside0 (b = true ↔ x.size = 10 ∧ ∀ k, k < j → pgood x k) ∧ wr = W8)
      case atStart =>
        exact ⟨0, _, rfl, rfl, by omega, by omega, ⟨by omega⟩, ⟨by simp; omega⟩, rfl⟩
      case round =>
        obtain ⟨j, b, rfl, rfl, hj, hjs, HJ, HBQ, rfl⟩ := hrel
        by_cases c1 : j < x.size
        · have e1 : decide ((j : Int) < (x.size : Int)) = true := decide_eq_true (by omega)
          by_cases c2 : j < 10
          · have e2 : decide ((j : Int) < 10) = true := decide_eq_true (by omega)
            have p0 : (0 : Int) ≤ (j : Int) := by omega
            have p1 : (j : Int) < (x.size : Int) := by omega
            obtain ⟨v, hv⟩ : ∃ v : Int, ((x[j]'c1).toNat : Int) = v := ⟨_, rfl⟩
            have HPG := Aside0.mk (pgood_at x j c1)
            rw [hv] at HPG
            cases b with
            | false =>
              by_cases h1 : v < 48
              · skip
                have g1 : decide (48 ≤ v) = false := decide_eq_false (by omega)
                go_wp2_with fail
                go_roundg (10 - (j + 1))
                case measure => have := HJ.out; omega
                case rel => exact ⟨j + 1, false, rfl, (by first | rfl | (rw [h4]; rfl) | (rw [h7]; rfl)), by omega, by omega, ⟨Nat.le_refl _⟩, ⟨step_shape false false _ _ j (by simpa using HBQ.out) (by rw [HPG.out]; split <;> simp <;> omega)⟩, rfl⟩
              · by_cases h2 : v ≤ 57
                · skip
                  have g1 : decide (48 ≤ v) = true := decide_eq_true (by omega)
                  have g2 : decide (v ≤ 57) = true := decide_eq_true (by omega)
                  go_wp2_with fail
                  go_roundg (10 - (j + 1))
                  case measure => have := HJ.out; omega
                  case rel => exact ⟨j + 1, false, rfl, (by first | rfl | (rw [h4]; rfl) | (rw [h7]; rfl)), by omega, by omega, ⟨Nat.le_refl _⟩, ⟨step_shape false false _ _ j (by simpa using HBQ.out) (by rw [HPG.out]; split <;> simp <;> omega)⟩, rfl⟩
                · skip
                  have g1 : decide (48 ≤ v) = true := decide_eq_true (by omega)
                  have g2 : decide (v ≤ 57) = false := decide_eq_false (by omega)
                  go_wp2_with fail
                  go_roundg (10 - (j + 1))
                  case measure => have := HJ.out; omega
                  case rel => exact ⟨j + 1, false, rfl, (by first | rfl | (rw [h4]; rfl) | (rw [h7]; rfl)), by omega, by omega, ⟨Nat.le_refl _⟩, ⟨step_shape false false _ _ j (by simpa using HBQ.out) (by rw [HPG.out]; split <;> simp <;> omega)⟩, rfl⟩
            | true =>
              by_cases h1 : v < 48
              · by_cases h3 : v = 45
                · by_cases h4 : j = 4
                  · skip
                    have g1 : decide (48 ≤ v) = false := decide_eq_false (by omega)
                    have g3 : (v == 45) = true := beq_iff_eq.2 (by omega)
                    have q4 : ((j : Int) == 4) = true := beq_iff_eq.2 (by omega)
                    have q4' : ((j : Int) != 4) = false := bne_eq_false_iff_eq.2 (by omega)
                    have H4 := Aside0.mk h4
                    clear h4
                    go_wp2_with fail
                    go_roundg (10 - (j + 1))
                    case measure => have := HJ.out; omega
                    case rel => exact ⟨j + 1, true, rfl, (by first | rfl | (rw [h4]; rfl) | (rw [h7]; rfl)), by omega, by omega, ⟨Nat.le_refl _⟩, ⟨step_shape true true _ _ j (by simpa using HBQ.out) (by have A4 := H4.out; rw [HPG.out]; split <;> simp <;> omega)⟩, rfl⟩
                  · by_cases h7 : j = 7
                    · skip
                      have g1 : decide (48 ≤ v) = false := decide_eq_false (by omega)
                      have g3 : (v == 45) = true := beq_iff_eq.2 (by omega)
                      have q4 : ((j : Int) == 4) = false := beq_eq_false_iff_ne.2 (by omega)
                      have q4' : ((j : Int) != 4) = true := bne_iff_ne.2 (by omega)
                      have q7 : ((j : Int) == 7) = true := beq_iff_eq.2 (by omega)
                      have q7' : ((j : Int) != 7) = false := bne_eq_false_iff_eq.2 (by omega)
                      have H7 := Aside0.mk h7
                      clear h7
                      go_wp2_with fail
                      go_roundg (10 - (j + 1))
                      case measure => have := HJ.out; omega
                      case rel => exact ⟨j + 1, true, rfl, (by first | rfl | (rw [h4]; rfl) | (rw [h7]; rfl)), by omega, by omega, ⟨Nat.le_refl _⟩, ⟨step_shape true true _ _ j (by simpa using HBQ.out) (by have A7 := H7.out; rw [HPG.out]; split <;> simp <;> omega)⟩, rfl⟩
                    · skip
                      have g1 : decide (48 ≤ v) = false := decide_eq_false (by omega)
                      have g3 : (v == 45) = true := beq_iff_eq.2 (by omega)
                      have q4 : ((j : Int) == 4) = false := beq_eq_false_iff_ne.2 (by omega)
                      have q4' : ((j : Int) != 4) = true := bne_iff_ne.2 (by omega)
                      have q7 : ((j : Int) == 7) = false := beq_eq_false_iff_ne.2 (by omega)
                      have q7' : ((j : Int) != 7) = true := bne_iff_ne.2 (by omega)
                      go_wp2_with fail
                      go_roundg (10 - (j + 1))
                      case measure => have := HJ.out; omega
                      case rel => exact ⟨j + 1, false, rfl, (by first | rfl | (rw [h4]; rfl) | (rw [h7]; rfl)), by omega, by omega, ⟨Nat.le_refl _⟩, ⟨step_shape true false _ _ j (by simpa using HBQ.out) (by rw [HPG.out]; split <;> simp <;> omega)⟩, rfl⟩
                · skip
                  have g1 : decide (48 ≤ v) = false := decide_eq_false (by omega)
                  have g3 : (v == 45) = false := beq_eq_false_iff_ne.2 (by omega)
                  go_wp2_with fail
                  go_roundg (10 - (j + 1))
                  case measure => have := HJ.out; omega
                  case rel => exact ⟨j + 1, false, rfl, (by first | rfl | (rw [h4]; rfl) | (rw [h7]; rfl)), by omega, by omega, ⟨Nat.le_refl _⟩, ⟨step_shape true false _ _ j (by simpa using HBQ.out) (by rw [HPG.out]; split <;> simp <;> omega)⟩, rfl⟩
              · by_cases h2 : v ≤ 57
                · by_cases h4 : j = 4
                  · skip
                    have g1 : decide (48 ≤ v) = true := decide_eq_true (by omega)
                    have g2 : decide (v ≤ 57) = true := decide_eq_true (by omega)
                    have g3 : (v == 45) = false := beq_eq_false_iff_ne.2 (by omega)
                    have q4 : ((j : Int) == 4) = true := beq_iff_eq.2 (by omega)
                    have q4' : ((j : Int) != 4) = false := bne_eq_false_iff_eq.2 (by omega)
                    have H4 := Aside0.mk h4
                    clear h4
                    go_wp2_with fail
                    go_roundg (10 - (j + 1))
                    case measure => have := HJ.out; omega
                    case rel => exact ⟨j + 1, false, rfl, (by first | rfl | (rw [h4]; rfl) | (rw [h7]; rfl)), by omega, by omega, ⟨Nat.le_refl _⟩, ⟨step_shape true false _ _ j (by simpa using HBQ.out) (by have A4 := H4.out; rw [HPG.out]; split <;> simp <;> omega)⟩, rfl⟩
                  · by_cases h7 : j = 7
                    · skip
                      have g1 : decide (48 ≤ v) = true := decide_eq_true (by omega)
                      have g2 : decide (v ≤ 57) = true := decide_eq_true (by omega)
                      have g3 : (v == 45) = false := beq_eq_false_iff_ne.2 (by omega)
                      have q4 : ((j : Int) == 4) = false := beq_eq_false_iff_ne.2 (by omega)
                      have q4' : ((j : Int) != 4) = true := bne_iff_ne.2 (by omega)
                      have q7 : ((j : Int) == 7) = true := beq_iff_eq.2 (by omega)
                      have q7' : ((j : Int) != 7) = false := bne_eq_false_iff_eq.2 (by omega)
                      have H7 := Aside0.mk h7
                      clear h7
                      go_wp2_with fail
                      go_roundg (10 - (j + 1))
                      case measure => have := HJ.out; omega
                      case rel => exact ⟨j + 1, false, rfl, (by first | rfl | (rw [h4]; rfl) | (rw [h7]; rfl)), by omega, by omega, ⟨Nat.le_refl _⟩, ⟨step_shape true false _ _ j (by simpa using HBQ.out) (by have A7 := H7.out; rw [HPG.out]; split <;> simp <;> omega)⟩, rfl⟩
                    · skip
                      have g1 : decide (48 ≤ v) = true := decide_eq_true (by omega)
                      have g2 : decide (v ≤ 57) = true := decide_eq_true (by omega)
                      have g3 : (v == 45) = false := beq_eq_false_iff_ne.2 (by omega)
                      have q4 : ((j : Int) == 4) = false := beq_eq_false_iff_ne.2 (by omega)
                      have q4' : ((j : Int) != 4) = true := bne_iff_ne.2 (by omega)
                      have q7 : ((j : Int) == 7) = false := beq_eq_false_iff_ne.2 (by omega)
                      have q7' : ((j : Int) != 7) = true := bne_iff_ne.2 (by omega)
                      go_wp2_with fail
                      go_roundg (10 - (j + 1))
                      case measure => have := HJ.out; omega
                      case rel => exact ⟨j + 1, true, rfl, (by first | rfl | (rw [h4]; rfl) | (rw [h7]; rfl)), by omega, by omega, ⟨Nat.le_refl _⟩, ⟨step_shape true true _ _ j (by simpa using HBQ.out) (by rw [HPG.out]; split <;> simp <;> omega)⟩, rfl⟩
                · skip
                  have g1 : decide (48 ≤ v) = true := decide_eq_true (by omega)
                  have g2 : decide (v ≤ 57) = false := decide_eq_false (by omega)
                  have g3 : (v == 45) = false := beq_eq_false_iff_ne.2 (by omega)
                  go_wp2_with fail
                  go_roundg (10 - (j + 1))
                  case measure => have := HJ.out; omega
                  case rel => exact ⟨j + 1, false, rfl, (by first | rfl | (rw [h4]; rfl) | (rw [h7]; rfl)), by omega, by omega, ⟨Nat.le_refl _⟩, ⟨step_shape true false _ _ j (by simpa using HBQ.out) (by rw [HPG.out]; split <;> simp <;> omega)⟩, rfl⟩
          · have e2 : decide ((j : Int) < 10) = false := decide_eq_false (by omega)
            have hjj : x.size = 10 → j = 10 := by omega
            rcases HF.out with ⟨rfl, hz, hg, hv, ht⟩ | ⟨rfl, hn⟩ | ⟨rfl, hz, hg⟩
            · obtain rfl : b = true := HBQ.out.2 ⟨hz, fun k hk => hg k (by omega)⟩
              have HV' := Aside0.mk hv
              have HT' := Aside0.mk ht
              clear HF hv ht hg hz hjj
              have z0 : wr.cell? ⟨g8, 0, none⟩ = some (.int .i64 yy) := (blk_cell B8.out 0).trans rfl
              have z1 : wr.cell? ⟨g8, 1, none⟩ = some (.int .i64 mm) := (blk_cell B8.out 1).trans rfl
              have z2 : wr.cell? ⟨g8, 2, none⟩ = some (.int .i64 dd) := (blk_cell B8.out 2).trans rfl
              go_wp2_with fail
              with_reducible refine (rtext_calls yy mm dd _ HV'.out).mono ?_
              rintro e w9 ⟨rfl, hb⟩
              have B9 := Aside0.mk (blk_below B8.out hb)
              have D9 := Aside0.mk (blk_below D8.out hb)
              have GB9 := Aside0.mk (below_step GB8.out hb)
              clear hb
              have y0 : w9.cell? ⟨g8, 0, none⟩ = some (.int .i64 yy) := (blk_cell B9.out 0).trans rfl
              have y1 : w9.cell? ⟨g8, 1, none⟩ = some (.int .i64 mm) := (blk_cell B9.out 1).trans rfl
              have y2 : w9.cell? ⟨g8, 2, none⟩ = some (.int .i64 dd) := (blk_cell B9.out 2).trans rfl
              rw [← HT'.out]
              go_wp2_with fail
              with_reducible refine (rright_true yy mm dd _ HV'.out).mono ?_
              rintro e w10 ⟨rfl, hb⟩
              have D10 := Aside0.mk (blk_below D9.out hb)
              have GB10 := Aside0.mk (below_step GB9.out hb)
              clear hb
              go_wp2_with fail
              go_roundg (4 - (i + 1))
              case measure => have := HM.out; omega
              case rel => exact ⟨i + 1, rfl, by omega, ⟨Nat.le_refl _⟩, D10, GB10⟩
            · obtain rfl : b = false := by
                cases b with
                | false => rfl
                | true => exact absurd (by have h := HBQ.out.1 rfl; exact ⟨h.1, fun k hk => h.2 k (by have := hjj h.1; omega)⟩) hn
              clear hn
              clear HF
              go_wp2_with fail
              go_roundg (4 - (i + 1))
              case measure => have := HM.out; omega
              case rel => exact ⟨i + 1, rfl, by omega, ⟨Nat.le_refl _⟩, D8, GB8⟩
            · obtain rfl : b = true := HBQ.out.2 ⟨hz, fun k hk => hg k (by omega)⟩
              clear hg hz hjj
              clear HF
              go_wp2_with fail
              go_roundg (4 - (i + 1))
              case measure => have := HM.out; omega
              case rel => exact ⟨i + 1, rfl, by omega, ⟨Nat.le_refl _⟩, D8, GB8⟩
        · have e1 : decide ((j : Int) < (x.size : Int)) = false := decide_eq_false (by omega)
          have hjj : x.size = 10 → j = 10 := by omega
          rcases HF.out with ⟨rfl, hz, hg, hv, ht⟩ | ⟨rfl, hn⟩ | ⟨rfl, hz, hg⟩
          · obtain rfl : b = true := HBQ.out.2 ⟨hz, fun k hk => hg k (by omega)⟩
            have HV' := Aside0.mk hv
            have HT' := Aside0.mk ht
            clear HF hv ht hg hz hjj
            have z0 : wr.cell? ⟨g8, 0, none⟩ = some (.int .i64 yy) := (blk_cell B8.out 0).trans rfl
            have z1 : wr.cell? ⟨g8, 1, none⟩ = some (.int .i64 mm) := (blk_cell B8.out 1).trans rfl
            have z2 : wr.cell? ⟨g8, 2, none⟩ = some (.int .i64 dd) := (blk_cell B8.out 2).trans rfl
            go_wp2_with fail
            with_reducible refine (rtext_calls yy mm dd _ HV'.out).mono ?_
            rintro e w9 ⟨rfl, hb⟩
            have B9 := Aside0.mk (blk_below B8.out hb)
            have D9 := Aside0.mk (blk_below D8.out hb)
            have GB9 := Aside0.mk (below_step GB8.out hb)
            clear hb
            have y0 : w9.cell? ⟨g8, 0, none⟩ = some (.int .i64 yy) := (blk_cell B9.out 0).trans rfl
            have y1 : w9.cell? ⟨g8, 1, none⟩ = some (.int .i64 mm) := (blk_cell B9.out 1).trans rfl
            have y2 : w9.cell? ⟨g8, 2, none⟩ = some (.int .i64 dd) := (blk_cell B9.out 2).trans rfl
            rw [← HT'.out]
            go_wp2_with fail
            with_reducible refine (rright_true yy mm dd _ HV'.out).mono ?_
            rintro e w10 ⟨rfl, hb⟩
            have D10 := Aside0.mk (blk_below D9.out hb)
            have GB10 := Aside0.mk (below_step GB9.out hb)
            clear hb
            go_wp2_with fail
            go_roundg (4 - (i + 1))
            case measure => have := HM.out; omega
            case rel => exact ⟨i + 1, rfl, by omega, ⟨Nat.le_refl _⟩, D10, GB10⟩
          · obtain rfl : b = false := by
              cases b with
              | false => rfl
              | true => exact absurd (by have h := HBQ.out.1 rfl; exact ⟨h.1, fun k hk => h.2 k (by have := hjj h.1; omega)⟩) hn
            clear hn
            clear HF
            go_wp2_with fail
            go_roundg (4 - (i + 1))
            case measure => have := HM.out; omega
            case rel => exact ⟨i + 1, rfl, by omega, ⟨Nat.le_refl _⟩, D8, GB8⟩
          · obtain rfl : b = true := HBQ.out.2 ⟨hz, fun k hk => hg k (by omega)⟩
            clear hg hz hjj
            clear HF
            go_wp2_with fail
            go_roundg (4 - (i + 1))
            case measure => have := HM.out; omega
            case rel => exact ⟨i + 1, rfl, by omega, ⟨Nat.le_refl _⟩, D8, GB8⟩
    · have hi4' : i = 4 := by omega
      subst hi4'
      go_wp2_with fail
      go_ret
      exact ⟨rfl, HB.out⟩
theorem civilParses_calls (s : ByteArray) (a1 a2 a3 : Int) (w : World) (w1 : (Lit.int .u32 a1).wf = true) (w2 : (Lit.int .u8 a2).wf = true) (w3 : (Lit.int .u8 a3).wf = true) :
    Calls Try.prog 8 #[.string s, .int .u32 a1, .int .u8 a2, .int .u8 a3] w fun e w' => e = .returned (.bool true) ∧ Below w.heap.size w w' := by
  have b1 := bounds_u32 w1
  have b2 := bounds_u8 w2
  have b3 := bounds_u8 w3
  cases hl : decide (40 < (s.size : Int)) with
  | true => exact parses_long s a1 a2 a3 w b1 b2 b3 hl
  | false =>
    obtain ⟨y, m, d, hv, hn⟩ := ex_day' (a1 % 3652059) (by omega) (by omega)
    exact parses_walk s a1 a2 a3 w b1 b2 b3 hl y m d hv hn
end Go.Proofs.Ytljfmfkgpnabaaa.Pure
