/- Days as texts: what the code's Text tells, and that texts stand in the order of the days. -/
import Derived.Test.YtljfmfkgpnabaaaDoorPawakex
import Derived.Test.YtljfmfkgpnabaaaDoorPMonthx
import Derived.Test.YtljfmfkgpnabaaaDoorCal
import Derived.Test.YtljfmfkgpnabaaaDoorTxt
import Derived.Test.YtljfmfkgpnabaaaDoorShelf
import Derived.Lib.AppendIntMem
set_option linter.unusedVariables false
set_option linter.unusedSimpArgs false
namespace Go.Proofs.YtljfmfkgpnabaaaDoor.Pure
open Go.RowKit Go.Proofs.YtljfmfkgpnabaaaDoor.Pawake Go.Proofs.YtljfmfkgpnabaaaDoor.PMonth Go.Proofs.YtljfmfkgpnabaaaDoorW.PrintWords Go.Proofs.YtljfmfkgpnabaaaDoorW.PrintLast
open Go.Proofs.YtljfmfkgpnabaaaDoor
theorem setCell_map (w : World) (a : Addr) (v : Value) : (w.setCell a v).cell? a = (w.cell? a).map fun _ => v := by
  simp only [World.setCell, World.cell?, Array.getElem?_modify, ↓reduceIte]
  cases hb : w.heap[a.block]? with
  | none => rfl
  | some o =>
    cases o with
    | cells c e f =>
      simp only [Option.map_some]
      cases hs : a.spot.isSome
      · simp only [Bool.false_eq_true, if_false, Array.getElem?_setIfInBounds_self]
        by_cases h : a.off < c.size
        · simp [h]
        · simp [h]
      · simp
    | _ => rfl
attribute [local go_sem] setCell_map
theorem tz4 (y c : Int) : (Int.tmod y c = 0) ↔ (y % c = 0) := by
  rw [← Int.dvd_iff_tmod_eq_zero, ← Int.dvd_iff_emod_eq_zero]
theorem leap_eq (y : Int) : civil_Leap.f y = some (Cal.leap y) := by
  unfold civil_Leap.f Cal.leap
  by_cases h1 : y % 4 = 0 <;> by_cases h2 : y % 100 = 0 <;> by_cases h3 : y % 400 = 0 <;> simp [tz4, h1, h2, h3] <;> (try omega) <;> (intro h; have := (tz4 _ _).1 h; omega)
theorem mon_cases (m : Int) : m = 1 ∨ m = 2 ∨ m = 3 ∨ m = 4 ∨ m = 5 ∨ m = 6 ∨ m = 7 ∨ m = 8 ∨ m = 9 ∨ m = 10 ∨ m = 11 ∨ m = 12 ∨ m < 1 ∨ 12 < m := by omega
theorem month_eq (k : Nat) (hk : 2 ≤ k) (y m : Int) : civil_Month.f k y m = some (Cal.mon y m) := by
  obtain ⟨k, rfl⟩ : ∃ j, k = j + 2 := ⟨k - 2, by omega⟩
  have hl : Cal.lp y = if Cal.leap y = true then 1 else 0 := rfl
  rcases mon_cases m with rfl | rfl | rfl | rfl | rfl | rfl | rfl | rfl | rfl | rfl | rfl | rfl | h | h
  all_goals first
    | (rw [Cal.mon_last y m (by omega)]
       have e1 : ∀ c : Int, 1 ≤ c → c ≤ 12 → ¬ m = c := fun c _ _ => by omega
       have e2 : ∀ c : Int, 1 ≤ c → c ≤ 12 → (m == c) = false := fun c h1 h2 => beq_eq_false_iff_ne.2 (e1 c h1 h2)
       simp [civil_Month.f, civil_Month.j0, civil_Month.j1, e1, e2])
    | (simp [civil_Month.f, civil_Month.j0, civil_Month.j1, Cal.mon]; done)
    | (cases hb : Cal.leap y <;> simp [civil_Month.f, civil_Month.j0, civil_Month.j1, Cal.mon, leap_eq, hl, hb])
theorem before_eq (y : Int) (h0 : 1 ≤ y) (h1 : y ≤ 20000) : civil_before.f y = some (Cal.bef y) := by
  unfold civil_before.f Cal.bef
  have e0 : wrap64 (y - 1) = y - 1 := by unfold wrap64; omega
  rw [e0]
  have e : ∀ c : Int, 1 ≤ c → wrap64 (Int.tdiv (y - 1) c) = (y - 1) / c := by
    intro c hc
    rw [Int.tdiv_eq_ediv_of_nonneg (by omega)]
    have h3 : 0 ≤ (y - 1) / c := Int.ediv_nonneg (by omega) (by omega)
    have h4 : (y - 1) / c ≤ y - 1 := Int.ediv_le_self _ (by omega)
    unfold wrap64; omega
  rw [e 4 (by omega), e 100 (by omega), e 400 (by omega)]
  unfold wrap64; congr 1; omega
theorem valid_iff (y m d : Int) : Cal.valid y m d ↔ (1 ≤ y ∧ y ≤ 9999 ∧ 1 ≤ d ∧ d ≤ Cal.mon y m) := by
  unfold Cal.valid
  constructor
  · intro h; omega
  · intro h
    have := Cal.mon_pos' y m (by omega); omega
theorem right_eq (k : Nat) (hk : 2 ≤ k) (y m d : Int) [Decidable (Cal.valid y m d)] : civil_Right.f k y m d = some (decide (Cal.valid y m d)) := by
  unfold civil_Right.f
  rw [month_eq k hk]
  by_cases h1 : 1 ≤ y <;> by_cases h2 : y ≤ 9999 <;> by_cases h3 : 1 ≤ d <;> by_cases h4 : d ≤ Cal.mon y m <;> simp [valid_iff, h1, h2, h3, h4]
theorem num_loop (y mm d : Int) (h2 : mm ≤ 13) (e : Nat) : ∀ (k : Nat) (x m : Int), 1 ≤ m → m ≤ mm → mm - m = e → e + 3 ≤ k → -4000000 ≤ x → x ≤ 4000000 + 31 * m →
    civil_Number.l0 k x m y mm d = some (x + (Cal.cum y mm - Cal.cum y m), 0) := by
  induction e with
  | zero =>
    intro k x m h3 h4 h5 h6 h7 h8
    obtain ⟨k, rfl⟩ : ∃ j, k = j + 1 := ⟨k - 1, by omega⟩
    simp only [civil_Number.l0]; rw [if_neg (by omega)]
    have : m = mm := by omega
    subst this; simp
  | succ e ih =>
    intro k x m h3 h4 h5 h6 h7 h8
    obtain ⟨k, rfl⟩ : ∃ j, k = j + 1 := ⟨k - 1, by omega⟩
    simp only [civil_Number.l0]; rw [if_pos (by omega), month_eq k (by omega)]; simp only [Option.bind_some]
    have h9 := Cal.mon_le y m
    have h10 := Cal.cum_succ y m h3 (by omega)
    rw [show wrap64 (x + Cal.mon y m) = x + Cal.mon y m from by unfold wrap64; omega, show wrap64 (m + 1) = m + 1 from by unfold wrap64; omega]
    rw [ih k (x + Cal.mon y m) (m + 1) (by omega) (by omega) (by omega) (by omega) (by omega) (by omega), h10]
    congr 2; omega
theorem number_yes (k : Nat) (hk : 15 ≤ k) (y m d : Int) (h : Cal.valid y m d) : civil_Number.f k y m d = some (Cal.num y m d, 0) := by
  have h0 := h
  obtain ⟨h1, h2, h3, h4, h5, h6⟩ := h
  have h7 := Cal.mon_le y m
  have h8 := Cal.bef_ge y h1
  have h9 := Cal.bef_le y h1
  unfold civil_Number.f
  classical
  rw [right_eq k (by omega), before_eq y h1 (by omega)]
  simp only [h0, decide_true, Option.bind_some, if_true]
  rw [show wrap64 (wrap64 (Cal.bef y + d) - 1) = Cal.bef y + d - 1 from by unfold wrap64; omega]
  rw [num_loop y m d (by omega) (m - 1).toNat k _ 1 (by omega) (by omega) (by omega) (by omega) (by omega) (by omega), Cal.cum_one]
  unfold Cal.num; congr 2; omega
theorem number_no (k : Nat) (hk : 15 ≤ k) (y m d : Int) (h : ¬ Cal.valid y m d) : civil_Number.f k y m d = some (0, 1) := by
  unfold civil_Number.f
  classical
  rw [right_eq k (by omega)]
  simp [h]
theorem awake_yes (k : Nat) (hk : 15 ≤ k) : paybooklaw01_awake.f k = some true := by
  unfold paybooklaw01_awake.f
  rw [number_yes k hk 1970 1 1 (by unfold Cal.valid Cal.mon; omega), show Cal.num 1970 1 1 = 719162 from by decide]
  simp
theorem rleap_eq (y : Int) : paybookref01_Leap.f y = some (Cal.leap y) := by
  unfold paybookref01_Leap.f Cal.leap
  by_cases h1 : y % 4 = 0 <;> by_cases h2 : y % 100 = 0 <;> by_cases h3 : y % 400 = 0 <;> simp [tz4, h1, h2, h3] <;> (try omega) <;> (intro h; have := (tz4 _ _).1 h; omega)
theorem rmonth_eq (k : Nat) (hk : 1 ≤ k) (y m : Int) : paybookref01_Month.f k y m = some (Cal.mon y m) := by
  obtain ⟨k, rfl⟩ : ∃ j, k = j + 1 := ⟨k - 1, by omega⟩
  have hl : Cal.lp y = if Cal.leap y = true then 1 else 0 := rfl
  rcases mon_cases m with rfl | rfl | rfl | rfl | rfl | rfl | rfl | rfl | rfl | rfl | rfl | rfl | h | h
  all_goals first
    | (rw [Cal.mon_last y m (by omega)]
       unfold paybookref01_Month.f
       first
       | (rw [if_pos h]; simp [paybookref01_Month.j0])
       | (rw [if_neg (by omega), show decide (m > 12) = true from by simp; omega]; simp [paybookref01_Month.j0]))
    | (simp [paybookref01_Month.f, paybookref01_Month.j0, Cal.mon, rd, wrap64]; done)
    | (cases hb : Cal.leap y <;> simp [paybookref01_Month.f, paybookref01_Month.j0, Cal.mon, rleap_eq, hl, hb, rd, wrap64])
set_option maxHeartbeats 4000000 in
theorem rof_calls (n : Int) (w : World) (h0 : 0 ≤ n) (h1 : n ≤ 3652058) (y m d : Int) (hv : Cal.valid y m d) (hn : Cal.num y m d = n) :
    Calls Tryd.prog 5 #[.int .i64 n] w fun e w' => e = .returned (.agg #[.int .i64 y, .int .i64 m, .int .i64 d]) ∧ Below w.heap.size w w' := by
  have H := Aside0.mk hn; clear hn
  have HV := Aside0.mk hv; clear hv
  go_enter Tryd.func5, Tryd.ntmps5
  go_wp2_with fail
  have hb0 : Cal.bef (1 + 400 * (n / 146097)) + (n - 146097 * (n / 146097)) = n := by unfold Cal.bef; omega
  have HB0 := Aside0.mk hb0; clear hb0
  go_loopg [0] (n - 146097 * (n / 146097)).toNat (fun kq t0 wr => ∃ x yy : Int, t0 = .int .i64 x ∧ Aside0 (Cal.bef yy + x = n) ∧ 0 ≤ x ∧ x ≤ 3652058 ∧ 1 ≤ yy ∧ yy ≤ 10007 ∧ Aside0 (x.toNat ≤ kq) ∧ Aside0 (wr.heap[w.heap.size]? = some (.cells #[.int .i64 0, .int .i64 0, .int .i64 0] 24 (0, 0))) ∧ Aside0 (wr.heap[w.heap.size + 1]? = some (.cells #[.int .i64 yy, .int .i64 1, .int .i64 1] 24 (0, 0))) ∧ Aside0 (Below w.heap.size w wr))
  case atStart => exact ⟨_, _, rfl, HB0, by omega, by omega, by omega, by omega, ⟨Nat.le_refl _⟩, ⟨blk_alloc (blk_new _ _) _⟩, ⟨by have := blk_new (w.alloc (.cells #[.int .i64 0, .int .i64 0, .int .i64 0] 24)) (.cells #[.int .i64 (1 + 400 * (n / 146097)), .int .i64 1, .int .i64 1] 24); simpa using this⟩, ⟨below_alloc (below_alloc (Below.refl _ _) _) _⟩⟩
  case round =>
    obtain ⟨x, yy, rfl, HE, hx0, hx1, hy0, hy1, HM, B2, B3, HB⟩ := hrel
    have hc0 : wr.cell? ⟨w.heap.size + 1, 0, none⟩ = some (.int .i64 yy) := (blk_cell B3.out 0).trans rfl
    have hc1 : wr.cell? ⟨w.heap.size + 1, 1, none⟩ = some (.int .i64 1) := (blk_cell B3.out 1).trans rfl
    have hc2 : wr.cell? ⟨w.heap.size + 1, 2, none⟩ = some (.int .i64 1) := (blk_cell B3.out 2).trans rfl
    have hf0 := blk_frozen B3.out 0
    have hf1 := blk_frozen B3.out 1
    have hf2 := blk_frozen B3.out 2
    have HS := Aside0.mk (Cal.bef_succ yy)
    have HL0 := rleap_eq yy
    by_cases c2 : 366 ≤ x
    · have c1 : 365 ≤ x := by omega
      cases hb : Cal.leap yy
      · rw [hb] at HL0
        have hlp : Cal.lp yy = 0 := by unfold Cal.lp; rw [hb]; rfl
        rw [hlp] at HS
        have HL := Aside0.mk HL0; clear HL0 hb hlp
        go_wp2_with (first | (go_at_call 11; (with_reducible refine (paybookref01_Leap.calls yy false _ HL.out).mono ?_); rintro e w' ⟨rfl, ⟨nd, rfl⟩⟩))
        go_roundg (x - 365).toNat
        case measure => have := HM.out; omega
        case rel =>
          refine ⟨_, yy + 1, rfl, ⟨by have := HE.out; have := HS.out; omega⟩, by omega, by omega, by omega, by have := HE.out; have := HS.out; have := Cal.bef_ge (yy + 1) (by omega); omega, ⟨by omega⟩, ⟨?_⟩, ⟨?_⟩, ⟨?_⟩⟩
          · exact (blk_far (blk_drewN B2.out _) (by simp) _)
          · exact (blk_set (blk_drewN B3.out _) 0 _).trans rfl
          · exact below_set (pw_below_drewN HB.out _) (by simp)

      · rw [hb] at HL0
        have hlp : Cal.lp yy = 1 := by unfold Cal.lp; rw [hb]; rfl
        rw [hlp] at HS
        have HL := Aside0.mk HL0; clear HL0 hb hlp
        go_wp2_with (first | (go_at_call 11; (with_reducible refine (paybookref01_Leap.calls yy true _ HL.out).mono ?_); rintro e w' ⟨rfl, ⟨nd, rfl⟩⟩))
        go_roundg (x - 365 - 1).toNat
        case measure => have := HM.out; omega
        case rel =>
          refine ⟨_, yy + 1, rfl, ⟨by have := HE.out; have := HS.out; omega⟩, by omega, by omega, by omega, by have := HE.out; have := HS.out; have := Cal.bef_ge (yy + 1) (by omega); omega, ⟨by omega⟩, ⟨?_⟩, ⟨?_⟩, ⟨?_⟩⟩
          · exact (blk_far (blk_drewN B2.out _) (by simp) _)
          · exact (blk_set (blk_drewN B3.out _) 0 _).trans rfl
          · exact below_set (pw_below_drewN HB.out _) (by simp)

    · by_cases c1 : 365 ≤ x
      · have c3 : x = 365 := by omega
        cases hb : Cal.leap yy
        · rw [hb] at HL0
          have hlp : Cal.lp yy = 0 := by unfold Cal.lp; rw [hb]; rfl
          rw [hlp] at HS
          have HL := Aside0.mk HL0; clear HL0 hb hlp c3
          go_wp2_with (first | (go_at_call 11; (with_reducible refine (paybookref01_Leap.calls yy false _ HL.out).mono ?_); rintro e w' ⟨rfl, ⟨nd, rfl⟩⟩))
          go_roundg (x - 365).toNat
          case measure => have := HM.out; omega
          case rel =>
            refine ⟨_, yy + 1, rfl, ⟨by have := HE.out; have := HS.out; omega⟩, by omega, by omega, by omega, by have := HE.out; have := HS.out; have := Cal.bef_ge (yy + 1) (by omega); omega, ⟨by omega⟩, ⟨?_⟩, ⟨?_⟩, ⟨?_⟩⟩
            · exact (blk_far (blk_drewN B2.out _) (by simp) _)
            · exact (blk_set (blk_drewN B3.out _) 0 _).trans rfl
            · exact below_set (pw_below_drewN HB.out _) (by simp)

        · rw [hb] at HL0
          have hlp : Cal.lp yy = 1 := by unfold Cal.lp; rw [hb]; rfl
          rw [hlp] at HS
          have HX : Aside0 (x < 365 + Cal.lp yy) := ⟨by omega⟩
          have HL := Aside0.mk HL0; clear HL0 HS hb hlp c3
          go_wp2_with (first | (go_at_call 11; (with_reducible refine (paybookref01_Leap.calls yy true _ HL.out).mono ?_); rintro e w' ⟨rfl, ⟨nd, rfl⟩⟩))
  
          have HE1 := Aside0.mk (Cal.cum_one yy)
          have H13 := Aside0.mk (Cal.cum_13 yy)
          obtain ⟨wo, rfl⟩ : ∃ wo : World, wo = wr := ⟨_, rfl⟩
          go_loopg [0] 12 (fun kq t0 wq => ∃ z mm : Int, t0 = .int .i64 z ∧ Aside0 (Cal.bef yy + Cal.cum yy mm + z = n) ∧ Aside0 (Cal.cum yy mm + z < Cal.cum yy 13) ∧ 0 ≤ z ∧ z ≤ 366 ∧ 1 ≤ mm ∧ mm ≤ 12 ∧ Aside0 ((12 - mm).toNat ≤ kq) ∧ Aside0 (wq.heap[w.heap.size]? = some (.cells #[.int .i64 0, .int .i64 0, .int .i64 0] 24 (0, 0))) ∧ Aside0 (wq.heap[w.heap.size + 1]? = some (.cells #[.int .i64 yy, .int .i64 mm, .int .i64 1] 24 (0, 0))) ∧ Aside0 (Below w.heap.size w wq))
          case atStart => exact ⟨_, 1, rfl, ⟨by have := HE.out; have := HE1.out; omega⟩, ⟨by have := HE1.out; have := H13.out; have := HX.out; omega⟩, by omega, by have := HX.out; have := Cal.lp01 yy; omega, by omega, by omega, ⟨by omega⟩, ⟨by first | exact B2.out | exact blk_drewN B2.out _⟩, ⟨by first | exact B3.out | exact blk_drewN B3.out _⟩, ⟨by first | exact HB.out | exact pw_below_drewN HB.out _⟩⟩
          case round =>
            obtain ⟨z, mm, rfl, GE, GX, hz0, hz1, hm0, hm1, GM, C2, C3, GB⟩ := hrel
            clear hc0 hc1 hc2 hf0 hf1 hf2
            have hc0 : wr.cell? ⟨w.heap.size + 1, 0, none⟩ = some (.int .i64 yy) := (blk_cell C3.out 0).trans rfl
            have hc1 : wr.cell? ⟨w.heap.size + 1, 1, none⟩ = some (.int .i64 mm) := (blk_cell C3.out 1).trans rfl
            have HMo := Aside0.mk (rmonth_eq 1 (by omega) yy mm)
            have hmo := Cal.mon_le yy mm
            have HMs := Aside0.mk (Cal.cum_succ yy mm hm0 hm1)
            go_wp2_with fail
            refine (paybookref01_Month.calls 1 yy mm (Cal.mon yy mm) _ HMo.out).mono ?_
            rintro e w5 ⟨rfl, hb⟩
            have D2 := Aside0.mk (blk_below C2.out hb)
            have D3 := Aside0.mk (blk_below C3.out hb)
            have GD := Aside0.mk (below_step GB.out hb)
            clear C2 C3 GB hc0 hc1 hb
            have hc0 : w5.cell? ⟨w.heap.size + 1, 0, none⟩ = some (.int .i64 yy) := (blk_cell D3.out 0).trans rfl
            have hc1 : w5.cell? ⟨w.heap.size + 1, 1, none⟩ = some (.int .i64 mm) := (blk_cell D3.out 1).trans rfl
            have hc2 : w5.cell? ⟨w.heap.size + 1, 2, none⟩ = some (.int .i64 1) := (blk_cell D3.out 2).trans rfl
            have hf1 := blk_frozen D3.out 1
            have hf2 := blk_frozen D3.out 2
            have hg0 : w5.cell? ⟨w.heap.size, 0, none⟩ = some (.int .i64 0) := (blk_cell D2.out 0).trans rfl
            have hg1 : w5.cell? ⟨w.heap.size, 1, none⟩ = some (.int .i64 0) := (blk_cell D2.out 1).trans rfl
            have hg2 : w5.cell? ⟨w.heap.size, 2, none⟩ = some (.int .i64 0) := (blk_cell D2.out 2).trans rfl
            have he0 := blk_frozen D2.out 0
            have he1 := blk_frozen D2.out 1
            have he2 := blk_frozen D2.out 2
            by_cases hz : Cal.mon yy mm ≤ z
            · go_wp2_with fail
              refine (paybookref01_Month.calls 1 yy mm (Cal.mon yy mm) _ HMo.out).mono ?_
              rintro e w6 ⟨rfl, hb⟩
              have E2 := Aside0.mk (blk_below D2.out hb)
              have E3 := Aside0.mk (blk_below D3.out hb)
              have GE2 := Aside0.mk (below_step GD.out hb)
              clear D2 D3 GD hc0 hc1 hc2 hf1 hf2 hg0 hg1 hg2 he0 he1 he2 hb
              have hc1 : w6.cell? ⟨w.heap.size + 1, 1, none⟩ = some (.int .i64 mm) := (blk_cell E3.out 1).trans rfl
              have hf1 := blk_frozen E3.out 1
              go_wp2_with fail
              have h12 : mm < 12 := by
                have a1 := HMs.out; have a2 := GX.out; 
                by_cases e : mm = 12
                · subst e; rw [show (12 : Int) + 1 = 13 from rfl] at a1; omega
                · omega
              go_roundg (12 - (mm + 1)).toNat
              case measure => have := GM.out; omega
              case rel =>
                refine ⟨_, mm + 1, rfl, ⟨by have := GE.out; have := HMs.out; omega⟩, ⟨by have := GX.out; have := HMs.out; omega⟩, by omega, by omega, by omega, by omega, ⟨Nat.le_refl _⟩, ⟨?_⟩, ⟨?_⟩, ⟨?_⟩⟩
                · exact (blk_far E2.out (by simp) _)
                · exact (blk_set E3.out 1 _).trans rfl
                · exact below_set GE2.out (by simp)
            · go_wp2_with fail
              have hval : Cal.valid yy mm (1 + z) := by
                refine ⟨hy0, ?_, hm0, hm1, by omega, by omega⟩
                have a1 := Cal.cum_bd yy mm (by omega) (by omega)
                have a2 := Cal.bef_max
                have a3 := GE.out
                by_cases e : yy ≤ 9999
                · exact e
                · have := Cal.bef_mono 10000 yy (by omega) (by omega); omega
              have hq : Cal.num yy mm (1 + z) = n := by unfold Cal.num; have := GE.out; omega
              obtain ⟨rfl, rfl, rfl⟩ := Cal.num_inj _ _ _ _ _ _ HV.out hval (H.out.trans hq.symm)
              refine bodyPost_ret (v := .agg #[.int .i64 y, .int .i64 m, .int .i64 (1 + z)]) (results_single (r := .cell 2 24) rfl (.cell w.heap.size 24 #[.int .i64 y, .int .i64 m, .int .i64 (1 + z)] (0, 0) _ rfl ((blk_set (blk_set (blk_set (blk_far D2.out (by simp) _) 0 _) 1 _) 2 _).trans rfl) Tryd.underlying24 rfl (by kernel_rfl) .nil)) rfl ⟨rfl, ?_⟩
              exact below_set (below_set (below_set (below_set GD.out (by simp)) (by simp)) (by simp)) (by simp)

      · have HX : Aside0 (x < 365 + Cal.lp yy) := ⟨by have := Cal.lp01 yy; omega⟩
        clear HL0 HS
        go_wp2_with fail

        have HE1 := Aside0.mk (Cal.cum_one yy)
        have H13 := Aside0.mk (Cal.cum_13 yy)
        obtain ⟨wo, rfl⟩ : ∃ wo : World, wo = wr := ⟨_, rfl⟩
        go_loopg [0] 12 (fun kq t0 wq => ∃ z mm : Int, t0 = .int .i64 z ∧ Aside0 (Cal.bef yy + Cal.cum yy mm + z = n) ∧ Aside0 (Cal.cum yy mm + z < Cal.cum yy 13) ∧ 0 ≤ z ∧ z ≤ 366 ∧ 1 ≤ mm ∧ mm ≤ 12 ∧ Aside0 ((12 - mm).toNat ≤ kq) ∧ Aside0 (wq.heap[w.heap.size]? = some (.cells #[.int .i64 0, .int .i64 0, .int .i64 0] 24 (0, 0))) ∧ Aside0 (wq.heap[w.heap.size + 1]? = some (.cells #[.int .i64 yy, .int .i64 mm, .int .i64 1] 24 (0, 0))) ∧ Aside0 (Below w.heap.size w wq))
        case atStart => exact ⟨_, 1, rfl, ⟨by have := HE.out; have := HE1.out; omega⟩, ⟨by have := HE1.out; have := H13.out; have := HX.out; omega⟩, by omega, by have := HX.out; have := Cal.lp01 yy; omega, by omega, by omega, ⟨by omega⟩, ⟨by first | exact B2.out | exact blk_drewN B2.out _⟩, ⟨by first | exact B3.out | exact blk_drewN B3.out _⟩, ⟨by first | exact HB.out | exact pw_below_drewN HB.out _⟩⟩
        case round =>
          obtain ⟨z, mm, rfl, GE, GX, hz0, hz1, hm0, hm1, GM, C2, C3, GB⟩ := hrel
          clear hc0 hc1 hc2 hf0 hf1 hf2
          have hc0 : wr.cell? ⟨w.heap.size + 1, 0, none⟩ = some (.int .i64 yy) := (blk_cell C3.out 0).trans rfl
          have hc1 : wr.cell? ⟨w.heap.size + 1, 1, none⟩ = some (.int .i64 mm) := (blk_cell C3.out 1).trans rfl
          have HMo := Aside0.mk (rmonth_eq 1 (by omega) yy mm)
          have hmo := Cal.mon_le yy mm
          have HMs := Aside0.mk (Cal.cum_succ yy mm hm0 hm1)
          go_wp2_with fail
          refine (paybookref01_Month.calls 1 yy mm (Cal.mon yy mm) _ HMo.out).mono ?_
          rintro e w5 ⟨rfl, hb⟩
          have D2 := Aside0.mk (blk_below C2.out hb)
          have D3 := Aside0.mk (blk_below C3.out hb)
          have GD := Aside0.mk (below_step GB.out hb)
          clear C2 C3 GB hc0 hc1 hb
          have hc0 : w5.cell? ⟨w.heap.size + 1, 0, none⟩ = some (.int .i64 yy) := (blk_cell D3.out 0).trans rfl
          have hc1 : w5.cell? ⟨w.heap.size + 1, 1, none⟩ = some (.int .i64 mm) := (blk_cell D3.out 1).trans rfl
          have hc2 : w5.cell? ⟨w.heap.size + 1, 2, none⟩ = some (.int .i64 1) := (blk_cell D3.out 2).trans rfl
          have hf1 := blk_frozen D3.out 1
          have hf2 := blk_frozen D3.out 2
          have hg0 : w5.cell? ⟨w.heap.size, 0, none⟩ = some (.int .i64 0) := (blk_cell D2.out 0).trans rfl
          have hg1 : w5.cell? ⟨w.heap.size, 1, none⟩ = some (.int .i64 0) := (blk_cell D2.out 1).trans rfl
          have hg2 : w5.cell? ⟨w.heap.size, 2, none⟩ = some (.int .i64 0) := (blk_cell D2.out 2).trans rfl
          have he0 := blk_frozen D2.out 0
          have he1 := blk_frozen D2.out 1
          have he2 := blk_frozen D2.out 2
          by_cases hz : Cal.mon yy mm ≤ z
          · go_wp2_with fail
            refine (paybookref01_Month.calls 1 yy mm (Cal.mon yy mm) _ HMo.out).mono ?_
            rintro e w6 ⟨rfl, hb⟩
            have E2 := Aside0.mk (blk_below D2.out hb)
            have E3 := Aside0.mk (blk_below D3.out hb)
            have GE2 := Aside0.mk (below_step GD.out hb)
            clear D2 D3 GD hc0 hc1 hc2 hf1 hf2 hg0 hg1 hg2 he0 he1 he2 hb
            have hc1 : w6.cell? ⟨w.heap.size + 1, 1, none⟩ = some (.int .i64 mm) := (blk_cell E3.out 1).trans rfl
            have hf1 := blk_frozen E3.out 1
            go_wp2_with fail
            have h12 : mm < 12 := by
              have a1 := HMs.out; have a2 := GX.out; 
              by_cases e : mm = 12
              · subst e; rw [show (12 : Int) + 1 = 13 from rfl] at a1; omega
              · omega
            go_roundg (12 - (mm + 1)).toNat
            case measure => have := GM.out; omega
            case rel =>
              refine ⟨_, mm + 1, rfl, ⟨by have := GE.out; have := HMs.out; omega⟩, ⟨by have := GX.out; have := HMs.out; omega⟩, by omega, by omega, by omega, by omega, ⟨Nat.le_refl _⟩, ⟨?_⟩, ⟨?_⟩, ⟨?_⟩⟩
              · exact (blk_far E2.out (by simp) _)
              · exact (blk_set E3.out 1 _).trans rfl
              · exact below_set GE2.out (by simp)
          · go_wp2_with fail
            have hval : Cal.valid yy mm (1 + z) := by
              refine ⟨hy0, ?_, hm0, hm1, by omega, by omega⟩
              have a1 := Cal.cum_bd yy mm (by omega) (by omega)
              have a2 := Cal.bef_max
              have a3 := GE.out
              by_cases e : yy ≤ 9999
              · exact e
              · have := Cal.bef_mono 10000 yy (by omega) (by omega); omega
            have hq : Cal.num yy mm (1 + z) = n := by unfold Cal.num; have := GE.out; omega
            obtain ⟨rfl, rfl, rfl⟩ := Cal.num_inj _ _ _ _ _ _ HV.out hval (H.out.trans hq.symm)
            refine bodyPost_ret (v := .agg #[.int .i64 y, .int .i64 m, .int .i64 (1 + z)]) (results_single (r := .cell 2 24) rfl (.cell w.heap.size 24 #[.int .i64 y, .int .i64 m, .int .i64 (1 + z)] (0, 0) _ rfl ((blk_set (blk_set (blk_set (blk_far D2.out (by simp) _) 0 _) 1 _) 2 _).trans rfl) Tryd.underlying24 rfl (by kernel_rfl) .nil)) rfl ⟨rfl, ?_⟩
            exact below_set (below_set (below_set (below_set GD.out (by simp)) (by simp)) (by simp)) (by simp)
theorem str_app (a b : List UInt8) : ((⟨a.toArray⟩ : ByteArray) ++ (⟨b.toArray⟩ : ByteArray)) = ⟨(a ++ b).toArray⟩ := by
  apply ByteArray.ext
  simp [ByteArray.data_append]
theorem ret_str {a b : ByteArray} (h : a = b) : Ending.returned (.string a) = .returned (.string b) := by rw [h]
theorem dec_two (i : Nat) (h : i < 100) : (if i < 10 then [48] else []) ++ Lib.decDigits i = Txt.t2 i := by
  unfold Txt.t2 Txt.dg
  by_cases h1 : i < 10
  · rw [Lib.decDigits_one h1, if_pos h1]
    have e1 : ((i : Int) / 10 % 10).toNat = 0 := by omega
    have e2 : ((i : Int) % 10).toNat = i := by omega
    rw [e1, e2]; rfl
  · rw [Lib.decDigits_two h1 h, if_neg h1]
    have e1 : ((i : Int) / 10 % 10).toNat = i / 10 := by omega
    have e2 : ((i : Int) % 10).toNat = i % 10 := by omega
    rw [e1, e2]; rfl
theorem dec_len2 (i : Nat) (h : i < 100) : (Lib.decDigits i).length ≤ 2 := by
  by_cases h1 : i < 10
  · rw [Lib.decDigits_one h1]; simp
  · rw [Lib.decDigits_two h1 h]; simp
set_option maxHeartbeats 4000000 in
theorem two_calls (n : Int) (w : World) (h0 : 0 ≤ n) (h1 : n < 100) :
    Calls Tryd.prog 17 #[.int .i64 n] w fun e w' => e = .returned (.string ⟨(Txt.t2 n).toArray⟩) ∧ w' = w := by
  obtain ⟨i, rfl⟩ := Int.eq_ofNat_of_zero_le h0
  have hi : i < 100 := by omega
  have HD := Aside0.mk (dec_two i hi)
  have hl := dec_len2 i hi
  by_cases h : i < 10
  · go_enter Tryd.func17, Tryd.ntmps17
    go_wp2_with fail
    with_reducible refine (Tryd.strconv_Itoa_small i hi _).mono ?_
    rintro e w' ⟨rfl, rfl⟩
    go_wp2_with fail
    go_ret
    exact ⟨ret_str (by have := HD.out; rw [if_pos h] at this; rw [← this]; exact str_app [48] _), rfl⟩
  · go_enter Tryd.func17, Tryd.ntmps17
    go_wp2_with fail
    with_reducible refine (Tryd.strconv_Itoa_small i hi _).mono ?_
    rintro e w' ⟨rfl, rfl⟩
    go_wp2_with fail
    go_ret
    exact ⟨ret_str (by have := HD.out; rw [if_neg h] at this; rw [← this]; rfl), rfl⟩
theorem dec_four (i : Nat) (h : i < 10000) : ∃ j, j + (Lib.decDigits i).length = 4 ∧ List.replicate j 48 ++ Lib.decDigits i = Txt.t2 ((i : Int) / 100) ++ Txt.t2 i := by
  unfold Txt.t2 Txt.dg
  have step : ∀ u : Nat, ¬ u < 10 → Lib.decDigits u = Lib.decDigits (u / 10) ++ [UInt8.ofNat (48 + u % 10)] := by
    intro u hu
    rw [Lib.decDigits, dif_neg hu]
  have e1 : ((i : Int) / 100 / 10 % 10).toNat = i / 1000 := by omega
  have e2 : ((i : Int) / 100 % 10).toNat = i / 100 % 10 := by omega
  have e3 : ((i : Int) / 10 % 10).toNat = i / 10 % 10 := by omega
  have e4 : ((i : Int) % 10).toNat = i % 10 := by omega
  rw [e1, e2, e3, e4]
  by_cases h1 : i < 10
  · refine ⟨3, ?_, ?_⟩
    · rw [Lib.decDigits_one h1]; rfl
    · rw [Lib.decDigits_one h1, show i / 1000 = 0 by omega, show i / 100 % 10 = 0 by omega, show i / 10 % 10 = 0 by omega, show i % 10 = i by omega]; rfl
  · by_cases h2 : i < 100
    · refine ⟨2, ?_, ?_⟩
      · rw [Lib.decDigits_two h1 h2]; rfl
      · rw [Lib.decDigits_two h1 h2, show i / 1000 = 0 by omega, show i / 100 % 10 = 0 by omega, show i / 10 % 10 = i / 10 by omega]; rfl
    · by_cases h3 : i < 1000
      · refine ⟨1, ?_, ?_⟩
        · rw [step i h1, Lib.decDigits_two (by omega) (by omega)]; rfl
        · rw [step i h1, Lib.decDigits_two (by omega) (by omega), show i / 1000 = 0 by omega, show i / 100 % 10 = i / 10 / 10 by omega]; rfl
      · refine ⟨0, ?_, ?_⟩
        · rw [step i h1, step (i / 10) (by omega), Lib.decDigits_two (by omega) (by omega)]; rfl
        · rw [step i h1, step (i / 10) (by omega), Lib.decDigits_two (by omega) (by omega), show i / 1000 = i / 10 / 10 / 10 by omega, show i / 100 % 10 = i / 10 / 10 % 10 by omega]; rfl
/-- The table of powers of ten stays as it is, whatever is made behind. -/
def TB (w : World) : Prop := ∀ w', Below w.heap.size w w' → Lib.TabIs Tryd.prog w' "internal/strconv.uint64pow10" .u64 Lib.pow10Tab
theorem TB.step {w w1 : World} (h : TB w) (hb : Below w.heap.size w w1) : TB w1 := fun w' hb' => h w' (below_step hb hb')
theorem itoa_calls (n : Int) (w : World) (h0 : 0 ≤ n) (h1 : n ≤ 9223372036854775807) (ht : TB w) :
    Calls Tryd.prog 16 #[.int .i64 n] w fun e w' => e = .returned (.string ⟨(Lib.decDigits n.toNat).toArray⟩) ∧ Below w.heap.size w w' := by
  refine (Tryd.strconv_Itoa n (by omega) h1 w (ht w (Below.refl _ _))).mono ?_
  rintro e w' ⟨rfl, k, os, rfl⟩
  refine ⟨?_, Lib.below_grow _ w (Nat.le_refl _) k os⟩
  unfold Lib.itoa; rw [if_neg (by omega)]
theorem str_rep (a : Nat) (l : List UInt8) : ((⟨#[48]⟩ : ByteArray) ++ (⟨(List.replicate a 48 ++ l).toArray⟩ : ByteArray)) = ⟨(List.replicate (a + 1) 48 ++ l).toArray⟩ := by
  rw [show (⟨#[48]⟩ : ByteArray) = ⟨([48] : List UInt8).toArray⟩ from rfl, str_app, List.replicate_succ]; rfl
set_option maxHeartbeats 4000000 in
theorem text_calls (y m d : Int) (w : World) (hv : Cal.valid y m d) (ht : TB w) :
    Calls Tryd.prog 8 #[.agg #[.int .i64 y, .int .i64 m, .int .i64 d]] w fun e w' => e = .returned (.string ⟨(Txt.txt y m d).toArray⟩) ∧ Below w.heap.size w w' := by
  obtain ⟨h1, h2, h3, h4, h5, h6⟩ := hv
  have hmo := Cal.mon_le y m
  obtain ⟨j, hj, hd4⟩ := dec_four y.toNat (by omega)
  rw [show ((y.toNat : Nat) : Int) = y by omega] at hd4
  have hj1 : j + (Lib.decDigits y.toNat).length ≤ 4 := by omega
  have hj2 : 4 ≤ j + (Lib.decDigits y.toNat).length := by omega
  have HT := Aside0.mk ht
  have HD := Aside0.mk hd4
  clear ht hd4 hj
  go_enter Tryd.func8, Tryd.ntmps8
  go_wp2_with fail
  with_reducible refine (itoa_calls y _ (by omega) (by omega) (HT.out.step (below_alloc (Below.refl _ _) _))).mono ?_
  rintro e w1 ⟨rfl, hb⟩
  have B1 := Aside0.mk (blk_below (blk_new w (.cells #[.int .i64 y, .int .i64 m, .int .i64 d] 24)) hb)
  have GB : Aside0 (Below w.heap.size w w1) := ⟨below_step (below_alloc (Below.refl _ _) _) hb⟩
  clear hb
  generalize Lib.decDigits y.toNat = dd at HD hj1 hj2 ⊢
  go_wp2_with fail
  go_loopg [3] j (fun kq t3 wr => ∃ a : Nat, t3 = .string ⟨(List.replicate a 48 ++ dd).toArray⟩ ∧ a ≤ j ∧ Aside0 (j - a ≤ kq) ∧ Aside0 (wr.heap[w.heap.size]? = some (.cells #[.int .i64 y, .int .i64 m, .int .i64 d] 24 (0, 0))) ∧ Aside0 (Below w.heap.size w wr))
  case atStart => exact ⟨0, rfl, by omega, ⟨by omega⟩, B1, GB⟩
  case round =>
    obtain ⟨a, rfl, ha, HM, C1, HB⟩ := hrel
    clear B1 GB
    by_cases hlt : a < j
    · go_wp2_with fail
      go_roundg (j - (a + 1))
      case measure => have := HM.out; omega
      case rel => exact ⟨a + 1, by rw [← str_rep], by omega, ⟨Nat.le_refl _⟩, C1, HB⟩
    · have hja : a = j := by omega
      subst hja
      rw [HD.out]
      have hl4 : (Txt.t2 (y / 100) ++ Txt.t2 y).length ≤ 4 := by simp [Txt.t2]
      have hl5 : 4 ≤ (Txt.t2 (y / 100) ++ Txt.t2 y).length := by simp [Txt.t2]
      have hl6 : (Txt.t2 m).length ≤ 2 := by simp [Txt.t2]
      have hl7 : (Txt.t2 d).length ≤ 2 := by simp [Txt.t2]
      obtain ⟨Y, hY⟩ : ∃ Y, Y = Txt.t2 (y / 100) ++ Txt.t2 y := ⟨_, rfl⟩
      rw [← hY] at hl4 hl5 ⊢
      have HY := Aside0.mk hY
      clear hY HD
      have s1 : ¬ 9223372036854775807 < Y.length + 1 := by omega
      have s2 : ¬ 9223372036854775807 < Y.length + 1 + (Txt.t2 m).length := by omega
      have s3 : ¬ 9223372036854775807 < Y.length + 1 + (Txt.t2 m).length + 1 := by omega
      have s4 : ¬ 9223372036854775807 < Y.length + 1 + (Txt.t2 m).length + 1 + (Txt.t2 d).length := by omega
      have k1 : wr.cell? ⟨w.heap.size, 1, none⟩ = some (.int .i64 m) := (blk_cell C1.out 1).trans rfl
      have k2 : wr.cell? ⟨w.heap.size, 2, none⟩ = some (.int .i64 d) := (blk_cell C1.out 2).trans rfl
      go_wp2_with fail
      go_region_held3 (fun w' => w'.cell? ⟨w.heap.size, 1, none⟩ = some (.int .i64 m) ∧ w'.cell? ⟨w.heap.size, 2, none⟩ = some (.int .i64 d)) (go_keep) (first | (go_at_call_of 17 (Value.int .i64 m); refine (two_calls m _ (by omega) (by omega)).mono ?_; rintro e w' ⟨rfl, rfl⟩) | (go_at_call_of 17 (Value.int .i64 d); refine (two_calls d _ (by omega) (by omega)).mono ?_; rintro e w' ⟨rfl, rfl⟩))
      all_goals
        go_wp2_with fail
        go_ret
        refine ⟨ret_str ?_, below_drew1 HB.out⟩
        rw [show (⟨#[45]⟩ : ByteArray) = ⟨([45] : List UInt8).toArray⟩ from rfl, str_app, str_app, str_app, str_app, HY.out]
        rfl
theorem dg_nat (n : Int) (h0 : 0 ≤ n) (h1 : n ≤ 9) : (Txt.dg n).toNat = 48 + n.toNat := by
  unfold Txt.dg
  rw [UInt8.toNat_ofNat']
  omega
theorem dg_lt (a b : Int) (h0 : 0 ≤ a ∧ a ≤ 9) (h1 : 0 ≤ b ∧ b ≤ 9) : (Txt.dg a < Txt.dg b) ↔ a < b := by
  rw [UInt8.lt_iff_toNat_lt, dg_nat a h0.1 h0.2, dg_nat b h1.1 h1.2]; omega
theorem dg_eq (a b : Int) (h0 : 0 ≤ a ∧ a ≤ 9) (h1 : 0 ≤ b ∧ b ≤ 9) : (Txt.dg a = Txt.dg b) ↔ a = b := by
  rw [← UInt8.toNat_inj, dg_nat a h0.1 h0.2, dg_nat b h1.1 h1.2]; omega
theorem bl_dg (a b : Int) (x y : List UInt8) (h0 : 0 ≤ a ∧ a ≤ 9) (h1 : 0 ≤ b ∧ b ≤ 9) : Op.bytesLess (Txt.dg a :: x) (Txt.dg b :: y) = true ↔ a < b ∨ a = b ∧ Op.bytesLess x y = true := by
  simp only [Op.bytesLess, Bool.or_eq_true, Bool.and_eq_true, decide_eq_true_eq, beq_iff_eq, dg_lt a b h0 h1, dg_eq a b h0 h1]
theorem bl_same (c : UInt8) (x y : List UInt8) : Op.bytesLess (c :: x) (c :: y) = true ↔ Op.bytesLess x y = true := by
  simp only [Op.bytesLess, Bool.or_eq_true, Bool.and_eq_true, decide_eq_true_eq, beq_iff_eq, true_and]
  constructor
  · rintro (h | h)
    · exact absurd h (by simp)
    · exact h
  · exact Or.inr
theorem lex4 (y z : Int) (P : Prop) (h0 : 0 ≤ y ∧ y ≤ 9999) (h1 : 0 ≤ z ∧ z ≤ 9999) :
    (y / 100 / 10 % 10 < z / 100 / 10 % 10 ∨ y / 100 / 10 % 10 = z / 100 / 10 % 10 ∧ (y / 100 % 10 < z / 100 % 10 ∨ y / 100 % 10 = z / 100 % 10 ∧ (y / 10 % 10 < z / 10 % 10 ∨ y / 10 % 10 = z / 10 % 10 ∧ (y % 10 < z % 10 ∨ y % 10 = z % 10 ∧ P)))) ↔ y < z ∨ y = z ∧ P := by
  by_cases hP : P
  · simp only [hP, and_true]; omega
  · simp only [hP, and_false, or_false]; omega
theorem lex2 (y z : Int) (P : Prop) (h0 : 0 ≤ y ∧ y ≤ 99) (h1 : 0 ≤ z ∧ z ≤ 99) :
    (y / 10 % 10 < z / 10 % 10 ∨ y / 10 % 10 = z / 10 % 10 ∧ (y % 10 < z % 10 ∨ y % 10 = z % 10 ∧ P)) ↔ y < z ∨ y = z ∧ P := by
  by_cases hP : P
  · simp only [hP, and_true]; omega
  · simp only [hP, and_false, or_false]; omega
/-- Texts of days stand in the order of the days. -/
theorem text_less (y m d y' m' d' : Int) (h : Cal.valid y m d) (h' : Cal.valid y' m' d') :
    Op.bytesLess (Txt.txt y m d) (Txt.txt y' m' d') = true ↔ y < y' ∨ y = y' ∧ (m < m' ∨ m = m' ∧ d < d') := by
  obtain ⟨h1, h2, h3, h4, h5, h6⟩ := h
  obtain ⟨g1, g2, g3, g4, g5, g6⟩ := h'
  have hm := Cal.mon_le y m
  have hm' := Cal.mon_le y' m'
  show Op.bytesLess (Txt.dg (y / 100 / 10 % 10) :: Txt.dg (y / 100 % 10) :: Txt.dg (y / 10 % 10) :: Txt.dg (y % 10) :: 45 :: Txt.dg (m / 10 % 10) :: Txt.dg (m % 10) :: 45 :: Txt.dg (d / 10 % 10) :: Txt.dg (d % 10) :: [])
    (Txt.dg (y' / 100 / 10 % 10) :: Txt.dg (y' / 100 % 10) :: Txt.dg (y' / 10 % 10) :: Txt.dg (y' % 10) :: 45 :: Txt.dg (m' / 10 % 10) :: Txt.dg (m' % 10) :: 45 :: Txt.dg (d' / 10 % 10) :: Txt.dg (d' % 10) :: []) = true ↔ _
  rw [bl_dg _ _ _ _ (by omega) (by omega), bl_dg _ _ _ _ (by omega) (by omega), bl_dg _ _ _ _ (by omega) (by omega), bl_dg _ _ _ _ (by omega) (by omega), bl_same, bl_dg _ _ _ _ (by omega) (by omega), bl_dg _ _ _ _ (by omega) (by omega), bl_same, bl_dg _ _ _ _ (by omega) (by omega), bl_dg _ _ _ _ (by omega) (by omega)]
  rw [lex4 y y' _ (by omega) (by omega), lex2 m m' _ (by omega) (by omega), lex2 d d' _ (by omega) (by omega)]
  simp [Op.bytesLess]
theorem next_day (y m d : Int) (h : Cal.valid y m d) (hmax : Cal.num y m d < 3652058) : ∃ y' m' d', Cal.valid y' m' d' ∧ Cal.num y' m' d' = Cal.num y m d + 1 := by
  have h0 := h
  obtain ⟨h1, h2, h3, h4, h5, h6⟩ := h
  have hs := Cal.cum_succ y m h3 h4
  by_cases hd : Cal.mon y m < d + 1
  · by_cases hm12 : 12 < m + 1
    · have hm1 : m = 12 := by omega
      subst hm1
      have b := Cal.bef_succ y
      have d13 := Cal.cum_13 y
      rw [show (12 : Int) + 1 = 13 from rfl] at hs
      have hy : y + 1 ≤ 9999 := by
        by_cases g : y = 9999
        · subst g
          have c := Cal.bef_max
          rw [show (9999 : Int) + 1 = 10000 from rfl] at b
          unfold Cal.num at hmax; omega
        · omega
      refine ⟨y + 1, 1, 1, ⟨by omega, hy, by omega, by omega, by omega, by have := Cal.mon_pos (y + 1) 1 (by omega) (by omega); omega⟩, ?_⟩
      have c1 := Cal.cum_one (y + 1)
      unfold Cal.num; omega
    · exact ⟨y, m + 1, 1, ⟨h1, h2, by omega, by omega, by omega, by have := Cal.mon_pos y (m + 1) (by omega) (by omega); omega⟩, by unfold Cal.num; omega⟩
  · exact ⟨y, m, d + 1, ⟨h1, h2, h3, h4, by omega, by omega⟩, by unfold Cal.num; omega⟩
theorem ex_day (n : Nat) (h : n ≤ 3652058) : ∃ y m d, Cal.valid y m d ∧ Cal.num y m d = n := by
  induction n with
  | zero => exact ⟨1, 1, 1, by unfold Cal.valid; decide, by decide⟩
  | succ n ih =>
    obtain ⟨y, m, d, hv, hn⟩ := ih (by omega)
    obtain ⟨y', m', d', hv', hn'⟩ := next_day y m d hv (by omega)
    exact ⟨y', m', d', hv', by omega⟩
theorem ex_day' (n : Int) (h0 : 0 ≤ n) (h1 : n ≤ 3652058) : ∃ y m d, Cal.valid y m d ∧ Cal.num y m d = n := by
  obtain ⟨k, rfl⟩ := Int.eq_ofNat_of_zero_le h0
  exact ex_day k (by omega)
end Go.Proofs.YtljfmfkgpnabaaaDoor.Pure
