/- AccountCatches: after any outage just the periods that were missed are there: in one go, or day by day: what the law computes, for every input. -/
import Derived.Test.YtnpcodfeggcdbaaAccBox
import Derived.OpenShut
set_option linter.unusedVariables false
set_option linter.unusedSimpArgs false
namespace Go.Proofs.Ytnpcodfeggcdbaa.Pure
open Go.RowKit Go.Proofs.Ytnpcodfeggcdbaa.PAcc Go.Proofs.YtnpcodfeggcdbaaW.PrintWords Go.Proofs.YtnpcodfeggcdbaaW.PrintLast
open Go.Proofs.Ytnpcodfeggcdbaa Go.Proofs.YtnpcodfeggcdbaaW.PrintMore
/-- So many periods have begun, none was passed over. -/
structure RunI (a : Ac) (an : Int) (j : Nat) : Prop where
  st : a.st = 1
  an : a.an = an
  sk : a.sk = false
  cr : a.cr = 0
  ix : a.ix = j
  ct : a.ct = j
  dn : 0 ≤ a.dn ∧ a.dn ≤ j
  up : a.up = 0
  rf : a.rf = 0
  sp : a.sp = 0
  pd : a.pd = 0
  len : a.op.length ≤ j
  ph : ∀ c : S37, c ∈ a.op → c.f2 = 1 ∨ c.f2 = 3
theorem RunI.ok {a : Ac} {an : Int} {j : Nat} (h : RunI a an j) (hj : j ≤ 100000) : a.Ok := by
  obtain ⟨_, _, _, h4, h5, h6, h7, h8, h9, h10, h11, h12, _⟩ := h
  exact ⟨by omega, by omega, by omega, by omega, by omega, by omega, by omega, by omega, by omega⟩
theorem RunI.wake {a : Ac} {an : Int} {j : Nat} (h : RunI a an j) (t : Int) : a.op.map (wakeC t) = a.op := by
  rw [List.map_congr_left (g := id) (fun c hc => ?_), List.map_id]
  have := h.ph c hc
  unfold wakeC
  rw [if_neg (by omega)]
  rfl
theorem RunI.step {a : Ac} {an : Int} {j : Nat} (h : RunI a an j) (p : Pl) (hpr : 0 ≤ p.pr) (v : Int) : RunI (beginA { a with ix := a.ix + 1 } p v false) an (j + 1) := by
  obtain ⟨h1, h2, h3, h4, h5, h6, h7, h8, h9, h10, h11, h12, h13⟩ := h
  have hmem : ∀ (x : S37), (x.f2 = 1 ∨ x.f2 = 3) → ∀ c : S37, c ∈ a.op ++ [x] → c.f2 = 1 ∨ c.f2 = 3 := by
    intro x hx c hc
    rcases List.mem_append.1 hc with h | h
    · exact h13 c h
    · rw [List.mem_singleton.1 h]; exact hx
  have e : beginA { a with ix := a.ix + 1 } p v false = closeA { a with ix := a.ix + 1, ct := a.ct + 1, cr := 0 } (mkc a.ct v p.pr 0 p.go) := by
    unfold beginA
    rw [if_neg (by simp [h1, h3])]
    simp only [h4]
    rw [if_neg (by omega), Int.sub_zero]
  rw [e]
  unfold mkc
  by_cases c0 : p.pr = 0
  · rw [if_pos c0]
    cases p.go with
    | true =>
      unfold closeA
      rw [if_neg (by simp)]
      exact ⟨h1, h2, h3, rfl, by show a.ix + 1 = _; omega, by show a.ct + 1 = _; omega, by show 0 ≤ a.dn ∧ a.dn ≤ _; omega, h8, h9, h10, h11, by simp; omega, hmem _ (.inr rfl)⟩
    | false =>
      unfold closeA
      rw [if_pos (by simp), if_pos (by simp)]
      exact ⟨h1, h2, h3, rfl, by show a.ix + 1 = _; omega, by show a.ct + 1 = _; omega, by show 0 ≤ a.dn + 1 ∧ a.dn + 1 ≤ _; omega, h8, h9, h10, by show a.pd + 0 = 0; omega, by show a.op.length ≤ _; omega, h13⟩
  · rw [if_neg c0]
    unfold closeA
    rw [if_neg (show ¬ (7 : Int) ≤ 1 by omega)]
    exact ⟨h1, h2, h3, rfl, by show a.ix + 1 = _; omega, by show a.ct + 1 = _; omega, by show 0 ≤ a.dn ∧ a.dn ≤ _; omega, h8, h9, h10, h11, by simp; omega, hmem _ (.inl rfl)⟩
/-- The subscription behind so many periods. -/
def runA (p : Pl) (y m d an : Int) : Nat → Ac
  | 0 => newA 0 an
  | j + 1 => beginA { runA p y m d an j with ix := (runA p y m d an j).ix + 1 } p ((Sea.nth an y m d p.un p.ev j).getD 0) false
theorem run_inv (p : Pl) (hpr : 0 ≤ p.pr) (y m d an : Int) : ∀ j, RunI (runA p y m d an j) an j
  | 0 => ⟨rfl, rfl, rfl, rfl, rfl, rfl, ⟨show (0 : Int) ≤ 0 by omega, show (0 : Int) ≤ 0 by omega⟩, rfl, rfl, rfl, rfl, Nat.le_refl _, fun c hc => by cases hc⟩
  | j + 1 => (run_inv p hpr y m d an j).step p hpr _
/-- So many have begun up to a day. -/
def Upto (p : Pl) (y m d an : Int) (j : Nat) (t : Int) : Prop := ∀ i : Nat, i < j → ∃ v, Sea.nth an y m d p.un p.ev i = some v ∧ v ≤ t
theorem upto_le (p : Pl) (hp : p.Ok) (y m d an t : Int) (hv : Cal.valid y m d) (ha : Cal.num y m d = an) (j : Nat) (h : Upto p y m d an j t) (hj : 0 < j) : (j : Int) ≤ t - an + 1 := by
  obtain ⟨v, h1, h2⟩ := h (j - 1) (by omega)
  have := (Sea.nth_range an y m d p.un p.ev ((j - 1 : Nat) : Int) hv ha hp.2.2.1 (by omega) v h1).1
  omega
theorem run_day (p : Pl) (hp : p.Ok) (hla : p.la = false) (y m d t an : Int) (hv : Cal.valid y m d) (ha : Cal.num y m d = an) (g : Nat) : ∀ (j k : Nat), 11000 ≤ k → Upto p y m d an j t → t - an + 1 - j ≤ g → j + g ≤ 10000 →
    ∃ N, dayL1 (k + 2 * g + 2) t (runA p y m d an j) p = some ((runA p y m d an N).t 0) ∧ Upto p y m d an N t ∧ ∀ v, Sea.nth an y m d p.un p.ev N = some v → t < v := by
  have stop : ∀ (j k : Nat), 11000 ≤ k → j ≤ 10000 → (∀ v, Sea.nth an y m d p.un p.ev j = some v → t < v) → dayL1 (k + 2) t (runA p y m d an j) p = some ((runA p y m d an j).t 0) := by
    intro j k hk hj hs
    have I := run_inv p hp.1.1 y m d an j
    refine day_stop k hk t _ p y m d hv (by rw [I.an]; exact ha) hp (by rw [I.ix]; omega) ?_
    unfold nthA
    rw [I.an, I.ix]
    exact hs
  induction g with
  | zero =>
    intro j k hk hu hg hj
    have hs : ∀ v, Sea.nth an y m d p.un p.ev j = some v → t < v := by
      intro v hv'
      have := (Sea.nth_range an y m d p.un p.ev j hv ha hp.2.2.1 (by omega) v hv').1
      omega
    exact ⟨j, stop j k hk (by omega) hs, hu, hs⟩
  | succ g ih =>
    intro j k hk hu hg hj
    by_cases hc : ∃ v, Sea.nth an y m d p.un p.ev j = some v ∧ v ≤ t
    · obtain ⟨v, h1, h2⟩ := hc
      have I := run_inv p hp.1.1 y m d an j
      have hu2 : Upto p y m d an (j + 1) t := by
        intro i hi
        by_cases c : i = j
        · subst c; exact ⟨v, h1, h2⟩
        · exact hu i (by omega)
      obtain ⟨N, g1, g2, g3⟩ := ih (j + 1) k hk hu2 (by omega) (by omega)
      refine ⟨N, ?_, g2, g3⟩
      have hm : missedA (runA p y m d an j) p y m d t = false := by unfold missedA; rw [hla]; rfl
      have := day_step (k + 2 * g + 2) (by omega) t (runA p y m d an j) p y m d v hv (by rw [I.an]; exact ha) hp (by rw [I.ix]; omega) (I.ok (by omega)) (by rw [I.st]; omega) (by unfold nthA; rw [I.an, I.ix]; exact h1) h2
      rw [hm] at this
      rw [show k + 2 * (g + 1) + 2 = k + 2 * g + 2 + 2 from by omega, this, ← g1]
      show _ = dayL1 _ _ (beginA _ p ((Sea.nth an y m d p.un p.ev j).getD 0) false) _
      rw [h1]
      rfl
    · have hs : ∀ v, Sea.nth an y m d p.un p.ev j = some v → t < v := by
        intro v hv'
        by_cases h' : v ≤ t
        · exact absurd ⟨v, hv', h'⟩ hc
        · omega
      refine ⟨j, ?_, hu, hs⟩
      rw [show k + 2 * (g + 1) + 2 = (k + 2 * (g + 1)) + 2 from rfl]
      exact stop j _ (by omega) (by omega) hs
theorem day_more (k e : Nat) (t : Int) (a b : Ac) (p : Pl) (h : dayL1 k t a p = some (b.t 0)) : dayL1 (k + e) t a p = some (b.t 0) := by
  induction e with
  | zero => exact h
  | succ e ih => exact (account_Day.mono_l _).2.1 _ _ _ _ _ _ _ _ _ _ _ _ _ _ _ _ _ _ _ _ _ ih
theorem day_whole (p : Pl) (hp : p.Ok) (hla : p.la = false) (y m d t an : Int) (hv : Cal.valid y m d) (ha : Cal.num y m d = an) (j : Nat) (hj : j ≤ 1000) (hu : Upto p y m d an j t) (ht : t - an + 1 ≤ 300) :
    ∃ N, dayF 30603 (runA p y m d an j) p t = some ((runA p y m d an N).t 0) ∧ Upto p y m d an N t ∧ ∀ v, Sea.nth an y m d p.un p.ev N = some v → t < v := by
  obtain ⟨N, g1, g2, g3⟩ := run_day p hp hla y m d t an hv ha 300 j 28000 (by omega) hu (by omega) (by omega)
  have I := run_inv p hp.1.1 y m d an j
  have hl := I.len
  refine ⟨N, ?_, g2, g3⟩
  have hd := day_eq (30602 - (runA p y m d an j).op.length) (runA p y m d an j) p t (by omega)
  rw [I.wake t, show 30602 - (runA p y m d an j).op.length + (runA p y m d an j).op.length + 1 = 30603 from by omega] at hd
  rw [hd]
  have := day_more _ (30602 - (runA p y m d an j).op.length - (28000 + 2 * 300 + 2)) _ _ _ _ g1
  rwa [show 28000 + 2 * 300 + 2 + (30602 - (runA p y m d an j).op.length - (28000 + 2 * 300 + 2)) = 30602 - (runA p y m d an j).op.length from by omega] at this
theorem upto_one (p : Pl) (y m d an t : Int) (j N : Nat) (h1 : Upto p y m d an j t) (h2 : ∀ v, Sea.nth an y m d p.un p.ev j = some v → t < v) (h3 : Upto p y m d an N t) (h4 : ∀ v, Sea.nth an y m d p.un p.ev N = some v → t < v) : j = N := by
  by_cases c1 : j < N
  · obtain ⟨v, e1, e2⟩ := h3 j c1
    have := h2 v e1
    omega
  · by_cases c2 : N < j
    · obtain ⟨v, e1, e2⟩ := h1 N c2
      have := h4 v e1
      omega
    · omega
set_option maxHeartbeats 4000000 in
set_option maxRecDepth 100000 in
theorem catches_walk (K0 : Nat) (a0 a1 a2 : Int) (p : Pl) (la0 : Bool) (x one : Ac) (acc : Nat → Ac) (At : Nat → Nat → Prop) (w : World) (h0 : 0 ≤ a0 ∧ a0 ≤ 255) (h1 : 0 ≤ a1 ∧ a1 ≤ 65535) (h2 : 0 ≤ a2 ∧ a2 ≤ 255)
    (hla : Aside0 (p.la = false))
    (HPL : Aside0 (paybookref12_Plan.f a0 = some (p.pr, p.un, p.ev, p.tr, p.go, la0))) (HO : Aside0 (account_Open.f 0 p.pr p.un p.ev p.tr p.go p.la (700000 + a1) = some (x.st, x.pl, x.an, x.ix, x.ct, x.cr, x.sk, x.op, x.dn, x.up, x.rf, x.sp, x.pd)))
    (HX0 : Aside0 (acc 0 = x)) (A0 : Aside0 (At 0 0)) (H1 : Aside0 (dayF K0 x p (700000 + a1 + a2) = some (one.t 0)))
    (HStep : Aside0 (∀ (dd j : Nat), (dd : Int) ≤ a2 → At j dd → ∃ j2, dayF K0 (acc j) p (700000 + a1 + dd) = some ((acc j2).t 0) ∧ At j2 (dd + 1))) (HEnd : Aside0 (∀ j, At j (a2.toNat + 1) → acc j = one)) :
    Calls Try.prog 3 #[.int .u8 a0, .int .u16 a1, .int .u8 a2] w fun e w' => e = .returned (.bool true) ∧ Below w.heap.size w w' := by
  go_enter Try.func3, Try.ntmps3
  go_wp2_with fail
  with_reducible refine (paybooklaw13_awake.calls 200 true _ (awake_some 200 (Nat.le_refl _))).mono ?_
  rintro e w1 ⟨rfl, hb⟩
  have HB := Aside0.mk hb
  clear hb
  go_wp2_with fail
  with_reducible refine (paybookref12_Plan.calls a0 _ _ _ _ _ _ _ HPL.out).mono ?_
  rintro e w2 ⟨rfl, hb⟩
  replace HB := hst_ HB hb
  clear hb
  go_wp2_with (first | ((with_reducible refine gate_dst (N := 7) rfl ?_); refine box2 rfl (N := 7) rfl (cs := #[.int .i64 0, .int .u8 0, .int .i64 0, .int .i64 0, .bool false, .bool false]) ?hr rfl rfl (v := .tmp 20) rfl (Pl.cs { p with la := la0 }) (fun _ => rfl) (fun _ => rfl) (by kernel_rfl) rfl (Pl.one _) ?_; (case hr => first | (go_simp; done) | (go_simp; rfl)); intro g7 hg w3 hB hb; have G7 := Aside0.mk (Nat.le_trans (below_size HB.out) hg); clear hg; replace HB := hst_ HB hb; have B7 := Aside0.mk hB; clear hB; clear hb) | ((with_reducible refine gate_ (.store 4 (.tmp 21) (.const (.bool false))) rfl ?_); refine putF rfl rfl 4 (.tmp 21) (.const (.bool false)) rfl (g := g7) (j := 5) rfl B7.out (.bool false) rfl rfl (by kernel_rfl) (by show 5 < 6; omega) rfl p.cs (by unfold Pl.cs; rw [hla.out]; rfl) ?_; intro w4 hB hL hk hz; replace HB := Aside0.mk (hL _ _ G7.out HB.out); replace B7 := Aside0.mk hB; clear hB hL hk hz) | ((with_reducible refine gate_ (.load 25 (.tmp 7)) rfl ?_); refine loadB rfl 25 (.tmp 7) rfl rfl B7.out Try.underlying25 rfl (by kernel_rfl) ?_))
  with_reducible refine (open_c 0 _ p x _ HO.out).mono ?_
  rintro e w5 ⟨s9, rfl, hr, hb⟩
  replace HB := hst_ HB hb
  replace B7 := bst B7 hb
  clear hb
  have R9 := Aside0.mk hr
  clear hr
  go_wp2_with (first | ((with_reducible refine gate_dst (N := 9) rfl ?_); refine box2 rfl (N := 9) rfl (cs := #[.int .u8 0, .int .i64 0, .int .i64 0, .int .i64 0, .int .i64 0, .int .i64 0, .bool false, .slice none 0 0, .int .i64 0, .int .i64 0, .int .i64 0, .int .i64 0, .int .i64 0]) ?hr rfl rfl (v := .tmp 27) rfl (x.cs s9) (fun _ => rfl) (fun _ => rfl) (by kernel_rfl) rfl (x.one R9.out.one) ?_; (case hr => first | (go_simp; done) | (go_simp; rfl)); intro g9 hg w6 hB hb; have G9 := Aside0.mk (Nat.le_trans (below_size HB.out) hg); clear hg; replace HB := hst_ HB hb; replace B7 := bst B7 hb; replace R9 := Rd.st R9 hb; have B9 := Aside0.mk hB; clear hB; clear hb) | ((with_reducible refine gate_ (.load 25 (.tmp 7)) rfl ?_); refine loadB rfl 25 (.tmp 7) rfl rfl B7.out Try.underlying25 rfl (by kernel_rfl) ?_) | ((with_reducible refine gate_ (.load 31 (.tmp 9)) rfl ?_); refine loadB rfl 31 (.tmp 9) rfl rfl B9.out Try.underlying31 rfl (by kernel_rfl) ?_))
  with_reducible refine (day_c K0 x one p _ 0 s9 _ R9 H1.out).mono ?_
  rintro e w7 ⟨s10, rfl, hr, hb⟩
  replace HB := hst_ HB hb
  replace B7 := bst B7 hb
  replace B9 := bst B9 hb
  replace R9 := Rd.st R9 hb
  clear hb
  have R10 := Aside0.mk hr
  clear hr
  go_upto_region 9 with (first | ((with_reducible refine gate_dst (N := 10) rfl ?_); refine box2 rfl (N := 10) rfl (cs := #[.int .u8 0, .int .i64 0, .int .i64 0, .int .i64 0, .int .i64 0, .int .i64 0, .bool false, .slice none 0 0, .int .i64 0, .int .i64 0, .int .i64 0, .int .i64 0, .int .i64 0]) ?hr rfl rfl (v := .tmp 36) rfl (one.cs s10) (fun _ => rfl) (fun _ => rfl) (by kernel_rfl) rfl (one.one R10.out.one) ?_; (case hr => first | (go_simp; done) | (go_simp; rfl)); intro g10 hg w8 hB hb; have G10 := Aside0.mk (Nat.le_trans (below_size HB.out) hg); clear hg; replace HB := hst_ HB hb; replace B7 := bst B7 hb; replace B9 := bst B9 hb; replace R9 := Rd.st R9 hb; replace R10 := Rd.st R10 hb; have B10 := Aside0.mk hB; clear hB; clear hb) | ((with_reducible refine gate_ (.load 31 (.tmp 9)) rfl ?_); refine loadB rfl 31 (.tmp 9) rfl rfl B9.out Try.underlying31 rfl (by kernel_rfl) ?_) | ((with_reducible refine gate_dst (N := 12) rfl ?_); refine box2 rfl (N := 12) rfl (cs := #[.int .u8 0, .int .i64 0, .int .i64 0, .int .i64 0, .int .i64 0, .int .i64 0, .bool false, .slice none 0 0, .int .i64 0, .int .i64 0, .int .i64 0, .int .i64 0, .int .i64 0]) ?hr rfl rfl (v := .tmp 38) rfl (x.cs s9) (fun _ => rfl) (fun _ => rfl) (by kernel_rfl) rfl (x.one R9.out.one) ?_; (case hr => first | (go_simp; done) | (go_simp; rfl)); intro g12 hg w9 hB hb; have N7_12 := Aside0.mk (Nat.ne_of_lt (Nat.lt_of_lt_of_le (blk_lt B7.out) hg)); have N10_12 := Aside0.mk (Nat.ne_of_lt (Nat.lt_of_lt_of_le (blk_lt B10.out) hg)); have G12 := Aside0.mk (Nat.le_trans (below_size HB.out) hg); clear hg; replace HB := hst_ HB hb; replace B7 := bst B7 hb; replace B9 := bst B9 hb; replace B10 := bst B10 hb; replace R9 := Rd.st R9 hb; replace R10 := Rd.st R10 hb; have B12 := Aside0.mk hB; clear hB; clear hb))
  clear B9 G9
  rw [← HX0.out] at B12 R9
  go_wp2_with fail
  go_loopg [13] (a2.toNat + 1) (fun kq t13 wr => ∃ (dd j : Nat) (s : Value), t13 = .int .i64 dd ∧ (dd : Int) ≤ a2 + 1 ∧ Aside0 (a2.toNat + 1 - dd ≤ kq) ∧ Aside0 (At j dd) ∧ Aside0 (Below w.heap.size w wr) ∧ Aside0 (wr.heap[g7]? = some (.cells p.cs 25 (0, 0))) ∧ Aside0 (wr.heap[g10]? = some (.cells (one.cs s10) 31 (0, 0))) ∧ Aside0 (wr.heap[g12]? = some (.cells ((acc j).cs s) 31 (0, 0))) ∧ Aside0 (Rd wr s10 one.op) ∧ Aside0 (Rd wr s (acc j).op))
  case atStart => exact ⟨0, 0, s9, rfl, by omega, ⟨by omega⟩, A0, HB, B7, B10, B12, R10, R9⟩
  case round =>
    obtain ⟨dd, j, s, rfl, hdd, HM, HA, HB, B7, B10, B12, R10, R12⟩ := hrel
    by_cases hlt : (dd : Int) ≤ a2
    · obtain ⟨j2, hd2, hA2⟩ := HStep.out dd j hlt HA.out
      have HD2 := Aside0.mk hd2
      have HA2 := Aside0.mk hA2
      clear hd2 hA2
      go_wp2_with (first | ((with_reducible refine gate_ (.load 25 (.tmp 7)) rfl ?_); refine loadB rfl 25 (.tmp 7) rfl rfl B7.out Try.underlying25 rfl (by kernel_rfl) ?_) | ((with_reducible refine gate_ (.load 31 (.tmp 12)) rfl ?_); refine loadB rfl 31 (.tmp 12) rfl rfl B12.out Try.underlying31 rfl (by kernel_rfl) ?_))
      with_reducible refine (day_c K0 (acc j) (acc j2) p _ 0 s _ R12 HD2.out).mono ?_
      rintro e w30 ⟨s14, rfl, hr, hb⟩
      replace HB := hst_ HB hb
      replace B7 := bst B7 hb
      replace B10 := bst B10 hb
      replace B12 := bst B12 hb
      replace R10 := Rd.st R10 hb
      replace R12 := Rd.st R12 hb
      clear hb
      have R14 := Aside0.mk hr
      clear hr
      go_wp2_with (first | ((with_reducible refine gate_dst (N := 14) rfl ?_); refine box2 rfl (N := 14) rfl (cs := #[.int .u8 0, .int .i64 0, .int .i64 0, .int .i64 0, .int .i64 0, .int .i64 0, .bool false, .slice none 0 0, .int .i64 0, .int .i64 0, .int .i64 0, .int .i64 0, .int .i64 0]) ?hr rfl rfl (v := .tmp 52) rfl ((acc j2).cs s14) (fun _ => rfl) (fun _ => rfl) (by kernel_rfl) rfl ((acc j2).one R14.out.one) ?_; (case hr => first | (go_simp; done) | (go_simp; rfl)); intro g14 hg w31 hB hb; have N7_14 := Aside0.mk (Nat.ne_of_lt (Nat.lt_of_lt_of_le (blk_lt B7.out) hg)); have N10_14 := Aside0.mk (Nat.ne_of_lt (Nat.lt_of_lt_of_le (blk_lt B10.out) hg)); have N12_14 := Aside0.mk (Nat.ne_of_lt (Nat.lt_of_lt_of_le (blk_lt B12.out) hg)); have G14 := Aside0.mk (Nat.le_trans (below_size HB.out) hg); clear hg; replace HB := hst_ HB hb; replace B7 := bst B7 hb; replace B10 := bst B10 hb; replace B12 := bst B12 hb; replace R10 := Rd.st R10 hb; replace R12 := Rd.st R12 hb; replace R14 := Rd.st R14 hb; have B14 := Aside0.mk hB; clear hB; clear hb) | ((with_reducible refine gate_ (.load 31 (.tmp 14)) rfl ?_); refine loadB rfl 31 (.tmp 14) rfl rfl B14.out Try.underlying31 rfl (by kernel_rfl) ?_) | ((with_reducible refine gate_ (.store 31 (.tmp 12) (.tmp 56)) rfl ?_); refine putB rfl rfl 31 (.tmp 12) (.tmp 56) rfl rfl B12.out ((acc j2).cs s14) rfl (by kernel_rfl) rfl ((acc j2).one R14.out.one) ?_; intro w40 hB hL hk hz; replace HB := Aside0.mk (hL _ _ G12.out HB.out); replace B7 := bfar B7 N7_12.out hk; replace B10 := bfar B10 N10_12.out hk; replace R10 := Rd.keep R10 B12.out hk (by decide); replace R14 := Rd.keep R14 B12.out hk (by decide); replace B12 := Aside0.mk hB; clear hB hL hk hz))
      go_roundg (a2.toNat + 1 - (dd + 1))
      case measure => have := HM.out; omega
      case rel => exact ⟨dd + 1, j2, s14, by first | rfl | (simp; done), by omega, ⟨Nat.le_refl _⟩, HA2, HB, B7, B10, B12, R10, R14⟩
    · have he := HEnd.out j (by have hde : dd = (a2.toNat + 1) := (by omega); rw [← hde]; exact HA.out)
      rw [he] at B12 R12
      clear he HA HM
      obtain ⟨A10, c10, rfl, hl10, hC10⟩ := R10.out.get
      obtain ⟨A12, c12, rfl, hl12, hC12⟩ := R12.out.get
      have C10 := Aside0.mk hC10
      have C12 := Aside0.mk hC12
      clear hC10 hC12 R10 R12 HStep HEnd HPL HO H1 B7
      have b10_3 : wr.cell? ⟨g10, 3, none⟩ = some (.int .i64 one.ix) := (blk_cell B10.out 3).trans rfl
      have b10_4 : wr.cell? ⟨g10, 4, none⟩ = some (.int .i64 one.ct) := (blk_cell B10.out 4).trans rfl
      have b10_7 : wr.cell? ⟨g10, 7, none⟩ = some (.slice A10 one.op.length c10) := (blk_cell B10.out 7).trans rfl
      have b10_8 : wr.cell? ⟨g10, 8, none⟩ = some (.int .i64 one.dn) := (blk_cell B10.out 8).trans rfl
      have b10_9 : wr.cell? ⟨g10, 9, none⟩ = some (.int .i64 one.up) := (blk_cell B10.out 9).trans rfl
      have b10_10 : wr.cell? ⟨g10, 10, none⟩ = some (.int .i64 one.rf) := (blk_cell B10.out 10).trans rfl
      have b10_11 : wr.cell? ⟨g10, 11, none⟩ = some (.int .i64 one.sp) := (blk_cell B10.out 11).trans rfl
      have b10_12 : wr.cell? ⟨g10, 12, none⟩ = some (.int .i64 one.pd) := (blk_cell B10.out 12).trans rfl
      have b12_3 : wr.cell? ⟨g12, 3, none⟩ = some (.int .i64 one.ix) := (blk_cell B12.out 3).trans rfl
      have b12_4 : wr.cell? ⟨g12, 4, none⟩ = some (.int .i64 one.ct) := (blk_cell B12.out 4).trans rfl
      have b12_7 : wr.cell? ⟨g12, 7, none⟩ = some (.slice A12 one.op.length c12) := (blk_cell B12.out 7).trans rfl
      have b12_8 : wr.cell? ⟨g12, 8, none⟩ = some (.int .i64 one.dn) := (blk_cell B12.out 8).trans rfl
      have b12_9 : wr.cell? ⟨g12, 9, none⟩ = some (.int .i64 one.up) := (blk_cell B12.out 9).trans rfl
      have b12_10 : wr.cell? ⟨g12, 10, none⟩ = some (.int .i64 one.rf) := (blk_cell B12.out 10).trans rfl
      have b12_11 : wr.cell? ⟨g12, 11, none⟩ = some (.int .i64 one.sp) := (blk_cell B12.out 11).trans rfl
      have b12_12 : wr.cell? ⟨g12, 12, none⟩ = some (.int .i64 one.pd) := (blk_cell B12.out 12).trans rfl
      go_upto_region 18 with fail
      go_wp2_with fail
      go_loopg [16] one.op.length (fun kq t16 wq => ∃ i : Int, t16 = .int .i64 i ∧ 0 ≤ i ∧ i ≤ one.op.length ∧ Aside0 ((one.op.length - i).toNat ≤ kq) ∧ Aside0 (Below w.heap.size w wq) ∧ Aside0 (wq.heap[g10]? = some (.cells (one.cs (.slice A10 one.op.length c10)) 31 (0, 0))) ∧ Aside0 (wq.heap[g12]? = some (.cells (one.cs (.slice A12 one.op.length c12)) 31 (0, 0))) ∧ Aside0 (Kd.C k37 wq A10 one.op.length one.op) ∧ Aside0 (Kd.C k37 wq A12 one.op.length one.op))
      case atStart => exact ⟨0, rfl, by omega, by omega, ⟨by omega⟩, HB, B10, B12, C10, C12⟩
      case round =>
        clear b10_3 b10_4 b10_7 b10_8 b10_9 b10_10 b10_11 b10_12 b12_3 b12_4 b12_7 b12_8 b12_9 b12_10 b12_11 b12_12 HB B10 B12 C10 C12
        obtain ⟨i, rfl, hi0, hi1, HM, HB, B10, B12, C10, C12⟩ := hrel
        have b10_7 : wr.cell? ⟨g10, 7, none⟩ = some (.slice A10 one.op.length c10) := (blk_cell B10.out 7).trans rfl
        have b12_7 : wr.cell? ⟨g12, 7, none⟩ = some (.slice A12 one.op.length c12) := (blk_cell B12.out 7).trans rfl
        by_cases hlt : i < (one.op.length : Int)
        · obtain ⟨d10, hd10, p0, p1, p2, p3, p4, p5, p6, p7⟩ := at_T37 C10.out i hi0 hlt
          obtain ⟨d12, hd12, q0, q1, q2, q3, q4, q5, q6, q7⟩ := at_T37 C12.out i hi0 hlt
          subst hd10
          subst hd12
          have hmx := C10.out.2.1
          go_wp2_with fail
          go_quiet (fail)
          go_wp2_with fail
          go_roundg (one.op.length - (i + 1)).toNat
          case measure => have := HM.out; omega
          case rel => exact ⟨i + 1, by first | rfl | (simp; done) | (simp; unfold wrap64; omega), by omega, by omega, ⟨Nat.le_refl _⟩, ⟨pw_below_drewN HB.out _⟩, ⟨blk_drewN B10.out _⟩, ⟨blk_drewN B12.out _⟩, ⟨Kd.C_drewN C10.out _⟩, ⟨Kd.C_drewN C12.out _⟩⟩
        · have hie : i = (one.op.length : Int) := by omega
          go_wp2_with fail
          go_ret
          exact ⟨rfl, HB.out⟩
theorem accountCatches_calls (a0 a1 a2 : Int) (w : World) (w0 : (Lit.int .u8 a0).wf = true) (w1 : (Lit.int .u16 a1).wf = true) (w2 : (Lit.int .u8 a2).wf = true) :
    Calls Try.prog 3 #[.int .u8 a0, .int .u16 a1, .int .u8 a2] w fun e w' => e = .returned (.bool true) ∧ Below w.heap.size w w' := by
  have h0 := bounds_u8 w0
  have h1 := bounds_u16 w1
  have h2 := bounds_u8 w2
  obtain ⟨pr, un, ev, tr, go, la, hpl, hpr, hun, hev, htr⟩ := plan_some a0 h0.1 h0.2
  obtain ⟨p, hpq⟩ : ∃ p : Pl, p = ⟨pr, un, ev, tr, go, false⟩ := ⟨_, rfl⟩
  have hpl' : paybookref12_Plan.f a0 = some (p.pr, p.un, p.ev, p.tr, p.go, la) := by rw [hpq]; exact hpl
  have hp : p.Ok := by rw [hpq]; exact ⟨⟨by show (0 : Int) ≤ pr; omega, by show pr ≤ 1073741824; omega⟩, hun, ⟨hev.1, by show ev ≤ 1000; omega⟩⟩
  have hptr : 0 ≤ p.tr ∧ p.tr ≤ 10 := by rw [hpq]; exact htr
  have hla : p.la = false := by rw [hpq]
  clear hpl hpr hun hev htr hpq
  obtain ⟨fr, hfr⟩ : ∃ fr, 700000 + a1 = fr := ⟨_, rfl⟩
  have hfb : 700000 ≤ fr ∧ fr ≤ 765535 := by omega
  obtain ⟨y, m, d, hv, ha⟩ := day_of (fr + p.tr) (by omega) (by omega)
  have hop : account_Open.f 0 p.pr p.un p.ev p.tr p.go p.la fr = some ((newA 0 (fr + p.tr)).st, (newA 0 (fr + p.tr)).pl, (newA 0 (fr + p.tr)).an, (newA 0 (fr + p.tr)).ix, (newA 0 (fr + p.tr)).ct, (newA 0 (fr + p.tr)).cr, (newA 0 (fr + p.tr)).sk, (newA 0 (fr + p.tr)).op, (newA 0 (fr + p.tr)).dn, (newA 0 (fr + p.tr)).up, (newA 0 (fr + p.tr)).rf, (newA 0 (fr + p.tr)).sp, (newA 0 (fr + p.tr)).pd) := by
    unfold account_Open.f
    rw [show wrap64 (fr + p.tr) = fr + p.tr from by unfold wrap64; omega]
    rfl
  obtain ⟨N, hN, hN2, hN3⟩ := day_whole p hp hla y m d (fr + a2) (fr + p.tr) hv ha 0 (by omega) (fun i hi => by omega) (by omega)
  have hN' : dayF 30603 (newA 0 (fr + p.tr)) p (fr + a2) = some ((runA p y m d (fr + p.tr) N).t 0) := hN
  subst hfr
  refine catches_walk 30603 a0 a1 a2 p la (newA 0 (700000 + a1 + p.tr)) (runA p y m d (700000 + a1 + p.tr) N) (runA p y m d (700000 + a1 + p.tr))
    (fun j dd => Upto p y m d (700000 + a1 + p.tr) j (700000 + a1 + dd - 1) ∧ j ≤ 1000 ∧ (1 ≤ dd → ∀ v, Sea.nth (700000 + a1 + p.tr) y m d p.un p.ev j = some v → 700000 + a1 + dd - 1 < v))
    w h0 h1 h2 ⟨hla⟩ ⟨hpl'⟩ ⟨hop⟩ ⟨rfl⟩ ⟨⟨fun i hi => by omega, by omega, fun h => by omega⟩⟩ ⟨hN'⟩ ⟨?_⟩ ⟨?_⟩
  · rintro dd j hdd ⟨hu, hj, _⟩
    obtain ⟨M, e1, e2, e3⟩ := day_whole p hp hla y m d (700000 + a1 + dd) (700000 + a1 + p.tr) hv ha j hj (fun i hi => by obtain ⟨v, q1, q2⟩ := hu i hi; exact ⟨v, q1, by omega⟩) (by omega)
    refine ⟨M, e1, fun i hi => ?_, ?_, fun _ v hx => ?_⟩
    · obtain ⟨v, q1, q2⟩ := e2 i hi
      exact ⟨v, q1, by push_cast; omega⟩
    · by_cases c : 0 < M
      · have := upto_le p hp y m d _ _ hv ha M e2 c
        omega
      · omega
    · have := e3 v hx
      push_cast
      omega
  · rintro j ⟨hu, hj, hs⟩
    have hj2 : j = N := upto_one p y m d (700000 + a1 + p.tr) (700000 + a1 + a2) j N (fun i hi => by obtain ⟨v, q1, q2⟩ := hu i hi; exact ⟨v, q1, by omega⟩) (fun v hx => by have := hs (by omega) v hx; omega) hN2 hN3
    rw [hj2]
end Go.Proofs.Ytnpcodfeggcdbaa.Pure
