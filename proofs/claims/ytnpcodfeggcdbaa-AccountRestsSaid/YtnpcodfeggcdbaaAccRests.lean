/- AccountRests: while it rests periods are passed over; it goes on where it stood; in the wrong state nothing can be done: what the law computes, for every input. -/
import Derived.Test.YtnpcodfeggcdbaaAccBox2
import Derived.OpenShut
set_option linter.unusedVariables false
set_option linter.unusedSimpArgs false
namespace Go.Proofs.Ytnpcodfeggcdbaa.Pure
open Go.RowKit Go.Proofs.Ytnpcodfeggcdbaa.PAcc Go.Proofs.YtnpcodfeggcdbaaW.PrintWords Go.Proofs.YtnpcodfeggcdbaaW.PrintLast
open Go.Proofs.Ytnpcodfeggcdbaa Go.Proofs.YtnpcodfeggcdbaaW.PrintMore
theorem pause_eq (a : Ac) (h : a.op.length ≤ 1000000000000) : pauseF a = some (if a.st = 1 then Ac.t { a with st := 2 } 0 else noA.t 8) := by
  unfold pauseF account_Pause.f account_turn.f
  by_cases c : a.st = 1
  · rw [if_pos c, if_pos c, copy_eq a h]; rfl
  · rw [if_neg c, if_neg c]; rfl
theorem resume_eq (a : Ac) (h : a.op.length ≤ 1000000000000) : resumeF a = some (if a.st = 2 then Ac.t { a with st := 1 } 0 else noA.t 8) := by
  unfold resumeF account_Resume.f account_turn.f
  by_cases c : a.st = 2
  · rw [if_pos c, if_pos c, copy_eq a h]; rfl
  · rw [if_neg c, if_neg c]; rfl
theorem skip_live (a : Ac) (h : a.op.length ≤ 1000000000000) (h1 : a.st = 1) (h2 : a.sk = false) : skipF a = some (Ac.t { a with sk := true } 0) := by
  unfold skipF account_Skip.f
  rw [if_pos h1, if_neg (by rw [h2]; simp), copy_eq a h]; rfl
theorem skip_again (a : Ac) (h1 : a.st = 1) (h2 : a.sk = true) : skipF a = some (noA.t 8) := by
  unfold skipF account_Skip.f
  rw [if_pos h1, if_pos h2]; rfl
theorem skip_dead (a : Ac) (h1 : a.st = 3) : skipF a = some (noA.t 8) := by
  unfold skipF account_Skip.f
  rw [if_neg (by omega), if_neg (by omega)]; rfl
theorem cancel_dead (a : Ac) (h1 : a.st = 3) : cancelF 10 a = some (noA.t 8) := by
  unfold cancelF account_Cancel.f
  rw [if_neg (by omega), h1]; rfl
theorem cancel_live (a : Ac) (h1 : a.st = 1) (h : a.op = [] ∨ ∃ c : S37, a.op = [c] ∧ (c.f2 = 1 ∨ c.f2 = 3)) : cancelF 10 a = some (Ac.t { a with st := 3 } 0) := by
  obtain ⟨st, pl, an, ix, ct, cr, sk, op, dn, up, rf, sp, pd⟩ := a
  obtain rfl : st = 1 := h1
  unfold cancelF account_Cancel.f
  rw [if_pos rfl]
  have hj : account_Cancel.j0 10 false 1 pl an ix ct cr sk op dn up rf sp pd = account_Cancel.l0 9 (op.length : Int) 0 3 pl an ix ct cr sk op dn up rf sp pd := by
    have hl : op.length ≤ 1000000000000 := by
      rcases h with e | ⟨c, e, _⟩
      · rw [show op = [] from e]; simp
      · rw [show op = [c] from e]; simp
    simp only [account_Cancel.j0]
    rw [if_neg (by simp), copy_eq ⟨1, pl, an, ix, ct, cr, sk, op, dn, up, rf, sp, pd⟩ hl]
    rfl
  show account_Cancel.j0 10 false 1 pl an ix ct cr sk op dn up rf sp pd = _
  rw [hj]
  rcases h with e | ⟨c, e, hc⟩
  · obtain rfl : op = [] := e
    rfl
  · obtain rfl : op = [c] := e
    have hr : rd_T37 [c] 0 = c := rfl
    have hs : account_settle.f 7 3 pl an ix ct cr sk [c] dn up rf sp pd = some (3, pl, an, ix, ct, cr, sk, [c], dn, up, rf, sp, pd, 0) := by
      unfold account_settle.f
      simp only [account_settle.l0]
      have hcl : account_close.f 3 pl an ix ct cr sk [] dn up rf sp pd c.f0 c.f1 c.f2 c.f3 c.f4 c.f5 c.f6 c.f7 = some (3, pl, an, ix, ct, cr, sk, [c], dn, up, rf, sp, pd, 0) := by
        unfold account_close.f cycle_Ended.f
        simp only [Option.bind_some]
        rw [decide_eq_false (by omega), if_neg (by simp), if_pos (by simp)]
        rfl
      rw [if_pos (by simp), if_pos (by omega), if_pos (by simp), hr, hcl]
      simp only [Option.bind_some, if_true]
      rw [if_neg (by simp [wrap64])]
    simp only [account_Cancel.l0]
    rw [if_pos (by simp), if_pos (by omega), if_pos (by simp), hr]
    unfold cycle_Over.f
    rw [if_neg (by omega)]
    simp only [Option.bind_some]
    rw [if_neg (by simp [wrap64])]
    have e2 : ([c].set (0 : Int).toNat ⟨c.f0, c.f1, c.f2, c.f3, c.f4, c.f5, c.f6, c.f7⟩ : List S37) = [c] := rfl
    rw [e2, hs]
    rfl
/-- While it rests periods are passed over. -/
theorem rest_run (p : Pl) (hp : p.Ok) (y m d t an : Int) (hv : Cal.valid y m d) (ha : Cal.num y m d = an) (g : Nat) : ∀ (a : Ac) (k : Nat), 11000 ≤ k → a.st = 2 → a.an = an → a.sk = false → (0 ≤ a.ix ∧ a.ix + g ≤ 1000) → a.Ok → a.ct + g ≤ 1000 → a.sp + g ≤ 1000 → t - an + 1 - a.ix ≤ g →
    ∃ j : Nat, j ≤ g ∧ dayL1 (k + 2 * g + 2) t a p = some (Ac.t { a with ix := a.ix + j, ct := a.ct + j, sp := a.sp + j } 0) := by
  have stop : ∀ (a : Ac) (k : Nat), 11000 ≤ k → a.an = an → (0 ≤ a.ix ∧ a.ix ≤ 1000) → (∀ v, Sea.nth an y m d p.un p.ev a.ix = some v → t < v) → dayL1 (k + 2) t a p = some (a.t 0) := by
    intro a k hk h hi hs
    refine day_stop k hk t a p y m d hv (by rw [h]; exact ha) hp (by omega) ?_
    unfold nthA
    rw [h]
    exact hs
  have same : ∀ a : Ac, ({ a with ix := a.ix + (0 : Nat), ct := a.ct + (0 : Nat), sp := a.sp + (0 : Nat) } : Ac) = a := by intro a; simp
  induction g with
  | zero =>
    intro a k hk h2 h hsk hi hok hct hsp hg
    have hs : ∀ v, Sea.nth an y m d p.un p.ev a.ix = some v → t < v := by
      intro v hv'
      have := (Sea.nth_range an y m d p.un p.ev a.ix hv ha hp.2.2.1 (by omega) v hv').1
      omega
    exact ⟨0, Nat.le_refl _, by rw [same]; exact stop a k hk h (by omega) hs⟩
  | succ g ih =>
    intro a k hk h2 h hsk hi hok hct hsp hg
    by_cases hc : ∃ v, Sea.nth an y m d p.un p.ev a.ix = some v ∧ v ≤ t
    · obtain ⟨v, h1, h3⟩ := hc
      have hst := day_step (k + 2 * g + 2) (by omega) t a p y m d v hv (by rw [h]; exact ha) hp (by omega) hok (by omega) (by unfold nthA; rw [h]; exact h1) h3
      have e : ∀ ms, beginA { a with ix := a.ix + 1 } p v ms = { a with ix := a.ix + 1, ct := a.ct + 1, sp := a.sp + 1 } := by
        intro ms
        unfold beginA
        rw [if_pos (.inl h2)]
        unfold closeA
        simp [hsk]
      rw [e] at hst
      obtain ⟨j, hj, hr⟩ := ih { a with ix := a.ix + 1, ct := a.ct + 1, sp := a.sp + 1 } k hk h2 h hsk (by show 0 ≤ a.ix + 1 ∧ a.ix + 1 + _ ≤ _; omega) ⟨by show 0 ≤ a.ct + 1 ∧ a.ct + 1 ≤ _; have := hok.ct; omega, by show 0 ≤ a.ix + 1 ∧ a.ix + 1 ≤ _; omega, hok.cr, hok.dn, hok.up, hok.rf, by show 0 ≤ a.sp + 1 ∧ a.sp + 1 ≤ _; have := hok.sp; omega, hok.pd, hok.op⟩ (by show a.ct + 1 + _ ≤ _; omega) (by show a.sp + 1 + _ ≤ _; omega) (by show t - an + 1 - (a.ix + 1) ≤ _; omega)
      refine ⟨j + 1, by omega, ?_⟩
      rw [show k + 2 * (g + 1) + 2 = k + 2 * g + 2 + 2 from by omega, hst, hr]
      congr 2
      simp only [Ac.mk.injEq, true_and, and_true]
      refine ⟨by push_cast; omega, by push_cast; omega, by push_cast; omega⟩
    · have hs : ∀ v, Sea.nth an y m d p.un p.ev a.ix = some v → t < v := by
        intro v hv'
        by_cases h' : v ≤ t
        · exact absurd ⟨v, hv', h'⟩ hc
        · omega
      refine ⟨0, by omega, ?_⟩
      rw [same, show k + 2 * (g + 1) + 2 = (k + 2 * (g + 1)) + 2 from rfl]
      exact stop a _ (by omega) h (by omega) hs
/-- The first day of a subscription. -/
structure First (x : Ac) (an : Int) : Prop where
  st : x.st = 1
  an : x.an = an
  sk : x.sk = false
  cr : x.cr = 0
  ix : 0 ≤ x.ix ∧ x.ix ≤ 1
  ct : 0 ≤ x.ct ∧ x.ct ≤ 1
  dn : 0 ≤ x.dn ∧ x.dn ≤ 1
  up : x.up = 0
  rf : x.rf = 0
  sp : x.sp = 0
  pd : x.pd = 0
  op : x.op = [] ∨ ∃ c : S37, x.op = [c] ∧ (c.f2 = 1 ∨ c.f2 = 3)
theorem First.len {x : Ac} {an : Int} (h : First x an) : x.op.length ≤ 1 := by
  rcases h.op with e | ⟨c, e, _⟩ <;> rw [e] <;> simp
theorem First.ok {x : Ac} {an : Int} (h : First x an) : x.Ok := by
  have := h.len
  obtain ⟨_, _, _, h4, h5, h6, h7, h8, h9, h10, h11, _⟩ := h
  exact ⟨by omega, by omega, by omega, by omega, by omega, by omega, by omega, by omega, by omega⟩
theorem begin_first (p : Pl) (day an : Int) (hpr : 0 ≤ p.pr) : beginA { newA 0 an with ix := (newA 0 an).ix + 1 } p day false =
    if p.pr = 0 then (if p.go = true then ⟨1, 0, an, 1, 1, 0, false, [⟨0, day, 3, 0, 0, 0, 0, true⟩], 0, 0, 0, 0, 0⟩ else ⟨1, 0, an, 1, 1, 0, false, [], 1, 0, 0, 0, 0⟩) else ⟨1, 0, an, 1, 1, 0, false, [⟨0, day, 1, p.pr, 0, 1, 0, p.go⟩], 0, 0, 0, 0, 0⟩ := by
  unfold beginA newA
  rw [if_neg (by simp), if_neg (by show ¬ p.pr - 0 < 0; omega), Int.sub_zero]
  by_cases c0 : p.pr = 0
  · rw [if_pos c0]
    cases hg : p.go <;> simp [closeA, mkc, c0]
  · rw [if_neg c0]
    simp [closeA, mkc, c0]
theorem first_day (p : Pl) (hp : p.Ok) (fr : Int) (hf : 0 ≤ fr ∧ fr ≤ 800000) (htr : 0 ≤ p.tr ∧ p.tr ≤ 10) (he3 : p.ev ≤ 3) (y m d : Int) (hv : Cal.valid y m d) (ha : Cal.num y m d = fr + p.tr) :
    ∃ x, dayF 30603 (newA 0 (fr + p.tr)) p fr = some (x.t 0) ∧ First x (fr + p.tr) := by
  have h0 : First (newA 0 (fr + p.tr)) (fr + p.tr) := ⟨rfl, rfl, rfl, rfl, ⟨show (0 : Int) ≤ 0 by omega, show (0 : Int) ≤ 1 by omega⟩, ⟨show (0 : Int) ≤ 0 by omega, show (0 : Int) ≤ 1 by omega⟩, ⟨show (0 : Int) ≤ 0 by omega, show (0 : Int) ≤ 1 by omega⟩, rfl, rfl, rfl, rfl, .inl rfl⟩
  have hz := Sea.nth_zero (fr + p.tr) y m d p.un p.ev hv ha
  have hd := day_eq 30602 (newA 0 (fr + p.tr)) p fr (by show (0 : Nat) ≤ _; omega)
  have hd' : dayF 30603 (newA 0 (fr + p.tr)) p fr = dayL1 30602 fr (newA 0 (fr + p.tr)) p := hd
  rw [hd']
  by_cases ht : p.tr = 0
  · have hst := day_step 30600 (by omega) fr (newA 0 (fr + p.tr)) p y m d (fr + p.tr) hv ha hp ⟨show (0 : Int) ≤ 0 by omega, show (0 : Int) < 3652058 by omega⟩ h0.ok (show (1 : Int) ≠ 3 by omega) hz (by omega)
    obtain ⟨v1, hv1⟩ := nth_there (fr + p.tr) y m d p.un p.ev 1 hv ha hp.2.1 ⟨hp.2.2.1, he3⟩ (by omega) (by omega)
    have hlt := Sea.nth_lt (fr + p.tr) y m d p.un p.ev 0 1 hv hp.2.2.1 (by omega) (by omega) _ v1 hz hv1
    have hm : missedA (newA 0 (fr + p.tr)) p y m d fr = false := by
      unfold missedA
      have : nthA (newA 0 (fr + p.tr)) p y m d ((newA 0 (fr + p.tr)).ix + 1) = some v1 := hv1
      rw [this]
      have h3 : ¬ v1 ≤ fr := by omega
      simp [h3]
    rw [hm] at hst
    obtain ⟨x, hx⟩ : ∃ x, beginA { newA 0 (fr + p.tr) with ix := (newA 0 (fr + p.tr)).ix + 1 } p (fr + p.tr) false = x := ⟨_, rfl⟩
    rw [hx] at hst
    have hF : First x (fr + p.tr) ∧ x.ix = 1 := by
      rw [← hx, begin_first p _ _ hp.1.1]
      by_cases c0 : p.pr = 0
      · rw [if_pos c0]
        cases p.go with
        | true => exact ⟨⟨rfl, rfl, rfl, rfl, by simp, by simp, by simp, rfl, rfl, rfl, rfl, .inr ⟨_, rfl, .inr rfl⟩⟩, rfl⟩
        | false => exact ⟨⟨rfl, rfl, rfl, rfl, by simp, by simp, by simp, rfl, rfl, rfl, rfl, .inl rfl⟩, rfl⟩
      · rw [if_neg c0]
        exact ⟨⟨rfl, rfl, rfl, rfl, by simp, by simp, by simp, rfl, rfl, rfl, rfl, .inr ⟨_, rfl, .inl rfl⟩⟩, rfl⟩
    refine ⟨x, ?_, hF.1⟩
    rw [hst]
    refine day_stop 30598 (by omega) fr x p y m d hv (by rw [hF.1.an]; exact ha) hp (by rw [hF.2]; omega) ?_
    unfold nthA
    rw [hF.1.an, hF.2]
    intro v hv'
    rw [hv1] at hv'
    obtain rfl := Option.some.inj hv'
    omega
  · refine ⟨newA 0 (fr + p.tr), ?_, h0⟩
    refine day_stop 30600 (by omega) fr (newA 0 (fr + p.tr)) p y m d hv ha hp ⟨show (0 : Int) ≤ 0 by omega, show (0 : Int) ≤ 3652058 by omega⟩ ?_
    intro v hv'
    have hv2 : Sea.nth (fr + p.tr) y m d p.un p.ev 0 = some v := hv'
    rw [hz] at hv2
    obtain rfl := Option.some.inj hv2
    omega
set_option maxHeartbeats 4000000 in
set_option maxRecDepth 100000 in
theorem rests_walk (a0 a1 a2 a3 : Int) (p : Pl) (x0 x y z v en s : Ac) (w : World) (h0 : 0 ≤ a0 ∧ a0 ≤ 255) (h1 : 0 ≤ a1 ∧ a1 ≤ 65535) (h2 : 0 ≤ a2 ∧ a2 ≤ 255) (h3 : 0 ≤ a3 ∧ a3 ≤ 255)
    (HPL : Aside0 (paybookref12_Plan.f a0 = some (p.pr, p.un, p.ev, p.tr, p.go, p.la))) (HO : Aside0 (account_Open.f 0 p.pr p.un p.ev p.tr p.go p.la (700000 + a1) = some (x0.st, x0.pl, x0.an, x0.ix, x0.ct, x0.cr, x0.sk, x0.op, x0.dn, x0.up, x0.rf, x0.sp, x0.pd)))
    (HX : Aside0 (dayF 30603 x0 p (700000 + a1) = some (x.t 0))) (HY : Aside0 (pauseF x = some (y.t 0))) (HYY : Aside0 (pauseF y = some (noA.t 8))) (HZ : Aside0 (dayF 30603 y p (700000 + a1 + a2) = some (z.t 0)))
    (HV : Aside0 (resumeF z = some (v.t 0))) (HVV : Aside0 (resumeF v = some (noA.t 8))) (HE : Aside0 (cancelF 10 v = some (en.t 0))) (HEE : Aside0 (cancelF 10 en = some (noA.t 8))) (HES : Aside0 (skipF en = some (noA.t 8)))
    (HEN : Aside0 (en.st = 3)) (HEP : Aside0 (pauseF en = some (noA.t 8))) (HS : Aside0 (skipF v = some (s.t 0))) (HSS : Aside0 (skipF s = some (noA.t 8)))
    (hop : z.op = x.op) (hsp : z.sp = x.sp + z.ct - x.ct) (hx1 : 0 ≤ x.sp ∧ x.sp ≤ 1000) (hx2 : 0 ≤ x.ct ∧ x.ct ≤ 1000) (hz : 0 ≤ z.ct ∧ z.ct ≤ 1000) (hle : x.ct ≤ z.ct) :
    Calls Try.prog 8 #[.int .u8 a0, .int .u16 a1, .int .u8 a2, .int .u8 a3] w fun e w' => e = .returned (.bool true) ∧ Below w.heap.size w w' := by
  go_enter Try.func8, Try.ntmps8
  go_wp2_with fail
  with_reducible refine (paybooklaw13_awake.calls 200 true _ (awake_some 200 (Nat.le_refl _))).mono ?_
  rintro e w1 ⟨rfl, hb⟩
  have HB := Aside0.mk hb
  clear hb
  go_wp2_with fail
  with_reducible refine (paybookref12_Plan.calls a0 _ _ _ _ _ _ _ HPL.out).mono ?_
  rintro e w2 ⟨rfl, hb⟩
  replace HB := hst_ HB hb
  clear hb
  go_wp2_with (first | ((with_reducible refine gate_dst (N := 9) rfl ?_); refine box2 rfl (N := 9) rfl (cs := #[.int .i64 0, .int .u8 0, .int .i64 0, .int .i64 0, .bool false, .bool false]) ?hr rfl rfl (v := .tmp 43) rfl p.cs (fun _ => rfl) (fun _ => rfl) (by kernel_rfl) rfl p.one ?_; (case hr => first | (go_simp; done) | (go_simp; rfl)); intro g9 hg w3 hB hb; have G9 := Aside0.mk (Nat.le_trans (below_size HB.out) hg); clear hg; replace HB := hst_ HB hb; have B9 := Aside0.mk hB; clear hB; clear hb))
  replace HB := Aside0.mk (below_drew1 HB.out)
  replace B9 := Aside0.mk (blk_drew B9.out)
  refine start_ (n := 12) (S := fun w' => w'.cell? ⟨g9, 0, none⟩ = some (.int .i64 p.pr) ∧ w'.cell? ⟨g9, 1, none⟩ = some (.int .u8 p.un) ∧ w'.cell? ⟨g9, 2, none⟩ = some (.int .i64 p.ev) ∧ w'.cell? ⟨g9, 3, none⟩ = some (.int .i64 p.tr) ∧ w'.cell? ⟨g9, 4, none⟩ = some (.bool p.go) ∧ w'.cell? ⟨g9, 5, none⟩ = some (.bool p.la)) (ds := []) #[false, false, false, false, false, false, false, false, false, false, false, false] (by kernel_rfl) rfl rfl ⟨(blk_cell B9.out 0).trans rfl, (blk_cell B9.out 1).trans rfl, (blk_cell B9.out 2).trans rfl, (blk_cell B9.out 3).trans rfl, (blk_cell B9.out 4).trans rfl, (blk_cell B9.out 5).trans rfl⟩ (fun hHeld => ?_)
  refine pure_ (i := 1) (N := some 49) (v := ?_) (a' := ?_) #[false, true, false, false, false, false, false, false, false, false, false, false] rfl rfl (by kernel_rfl) (fun _ _ _ h => h) (Or.inl ⟨by rfl, ?_⟩) ?_ ?_
  rotate_left
  · intro w'
    go_simp
    with_reducible rfl
  rotate_left
  · simp only [Act.put, List.setIfInBounds_toArray, List.set_cons_zero, List.set_cons_succ, i64_w, i32_w]
    rfl
  refine pure_ (i := 4) (N := some 52) (v := ?_) (a' := ?_) #[false, true, false, false, true, false, false, false, false, false, false, false] rfl rfl (by kernel_rfl) (fun _ _ _ h => h) (Or.inl ⟨by rfl, ?_⟩) ?_ ?_
  rotate_left
  · intro w'
    go_simp
    with_reducible rfl
  rotate_left
  · simp only [Act.put, List.setIfInBounds_toArray, List.set_cons_zero, List.set_cons_succ, i64_w, i32_w]
    rfl
  refine take_ (i := 0) (N := some 48) (v := ?_) (a' := ?_) #[true, true, false, false, true, false, false, false, false, false, false, false] rfl rfl (by kernel_rfl) (fun _ _ _ h => h) (Or.inl ⟨by rfl, ?_⟩) hHeld ?_ ?_
  rotate_left
  · rintro w' ⟨s0, s1, s2, s3, s4, s5⟩
    go_simp
    with_reducible rfl
  rotate_left
  · simp only [Act.put, List.setIfInBounds_toArray, List.set_cons_zero, List.set_cons_succ, i64_w, i32_w]
    rfl
  refine take_ (i := 3) (N := some 51) (v := ?_) (a' := ?_) #[true, true, false, true, true, false, false, false, false, false, false, false] rfl rfl (by kernel_rfl) (fun _ _ _ h => h) (Or.inl ⟨by rfl, ?_⟩) hHeld ?_ ?_
  rotate_left
  · rintro w' ⟨s0, s1, s2, s3, s4, s5⟩
    go_simp
    with_reducible rfl
  rotate_left
  · simp only [Act.put, List.setIfInBounds_toArray, List.set_cons_zero, List.set_cons_succ, i64_w, i32_w]
    rfl
  refine join_ (σ := Value × Value × Nat) 2 #[true, true, true, true, true, true, true, true, true, true, false, false] (fun s_ => [(50, .agg (x0.cs s_.2.1)), (53, .tuple #[.agg (x.cs s_.1), .int .i64 0]), (11, .pointer (some ⟨s_.2.2, 0, none⟩)), (47, .tuple #[.agg (x.cs s_.1), .int .i64 0]), (54, .agg (x.cs s_.1)), (55, .int .i64 0)]) (fun s_ w' => (w'.cell? ⟨g9, 0, none⟩ = some (.int .i64 p.pr) ∧ w'.cell? ⟨g9, 1, none⟩ = some (.int .u8 p.un) ∧ w'.cell? ⟨g9, 2, none⟩ = some (.int .i64 p.ev) ∧ w'.cell? ⟨g9, 3, none⟩ = some (.int .i64 p.tr) ∧ w'.cell? ⟨g9, 4, none⟩ = some (.bool p.go) ∧ w'.cell? ⟨g9, 5, none⟩ = some (.bool p.la)) ∧ Below w.heap.size w w' ∧ w'.heap[g9]? = some (.cells p.cs 25 (0, 0)) ∧ w'.heap[s_.2.2]? = some (.cells #[.int .u8 0, .int .i64 0, .int .i64 0, .int .i64 0, .int .i64 0, .int .i64 0, .bool false, .slice none 0 0, .int .i64 0, .int .i64 0, .int .i64 0, .int .i64 0, .int .i64 0] 31 (0, 0)) ∧ Rd w' s_.1 x.op ∧ w.heap.size ≤ s_.2.2 ∧ g9 ≠ s_.2.2) ?_ ?_
  rotate_left
  · intro hCont
    refine two_ (i := 2) (j := 9) (Ni := some 50) (Nj := some 11) #[true, true, true, true, true, false, false, false, false, false, false, false] #[true, true, false, true, true, false, false, false, false, true, false, false] rfl rfl rfl rfl (by kernel_rfl) (by decide) (by decide) (fun K hK => ?_) (fun K hK => ?_)
    · skip
      refine goes_ Try.func11 (by kernel_rfl) rfl #[.int .i64 0, .agg p.cs, .int .i64 (700000 + a1)] (by rfl) rfl rfl (by (try simp only [List.map_toArray, List.map_cons, List.map_nil]); first | done | rfl) ?_
      with_reducible refine (open_c 0 _ p x0 _ HO.out).mono ?_
      rintro e w5 ⟨s0, rfl, hr0, hb⟩
      refine ⟨_, rfl, ?_⟩
      replace HB := hst_ HB hb
      replace B9 := bst B9 hb
      have R0 := Aside0.mk hr0
      clear hb hr0
      refine hK.out _ _ ⟨(blk_cell B9.out 0).trans rfl, (blk_cell B9.out 1).trans rfl, (blk_cell B9.out 2).trans rfl, (blk_cell B9.out 3).trans rfl, (blk_cell B9.out 4).trans rfl, (blk_cell B9.out 5).trans rfl⟩ (fun hHeld => ?_)
      clear hK K
      refine norm_ (a' := ?_) ?_ ?_
      rotate_left
      · show Act.put _ (some 50) _ = _
        simp only [Act.put, List.setIfInBounds_toArray, List.set_cons_zero, List.set_cons_succ, i64_w, i32_w]
        rfl
      refine two_ (i := 5) (j := 9) (Ni := some 53) (Nj := some 11) #[true, true, true, true, true, true, false, false, false, false, false, false] #[true, true, true, true, true, false, false, false, false, true, false, false] rfl rfl rfl rfl (by kernel_rfl) (by decide) (by decide) (fun K hK => ?_) (fun K hK => ?_)
      · skip
        refine goes_ Try.func12 (by kernel_rfl) rfl #[.agg (x0.cs s0), .agg p.cs, .int .i64 (700000 + a1)] (by rfl) rfl rfl (by (try simp only [List.map_toArray, List.map_cons, List.map_nil]); first | done | rfl) ?_
        with_reducible refine (day_c 30603 x0 x p _ 0 s0 _ R0 HX.out).mono ?_
        rintro e w6 ⟨s1, rfl, hr1, hb⟩
        refine ⟨_, rfl, ?_⟩
        replace HB := hst_ HB hb
        replace B9 := bst B9 hb
        replace R0 := Rd.st R0 hb
        have R1 := Aside0.mk hr1
        clear hb hr1
        refine hK.out _ _ ⟨(blk_cell B9.out 0).trans rfl, (blk_cell B9.out 1).trans rfl, (blk_cell B9.out 2).trans rfl, (blk_cell B9.out 3).trans rfl, (blk_cell B9.out 4).trans rfl, (blk_cell B9.out 5).trans rfl⟩ (fun hHeld => ?_)
        clear hK K
        refine norm_ (a' := ?_) ?_ ?_
        rotate_left
        · show Act.put _ (some 53) _ = _
          simp only [Act.put, List.setIfInBounds_toArray, List.set_cons_zero, List.set_cons_succ, i64_w, i32_w]
          rfl
        refine pure_ (i := 6) (N := some 47) (v := ?_) (a' := ?_) #[true, true, true, true, true, true, true, false, false, false, false, false] rfl rfl (by kernel_rfl) (fun _ _ _ h => h) (Or.inl ⟨by rfl, ?_⟩) ?_ ?_
        rotate_left
        · intro w'
          go_simp
          with_reducible rfl
        rotate_left
        · simp only [Act.put, List.setIfInBounds_toArray, List.set_cons_zero, List.set_cons_succ, i64_w, i32_w]
          rfl
        refine pure_ (i := 7) (N := some 54) (v := ?_) (a' := ?_) #[true, true, true, true, true, true, true, true, false, false, false, false] rfl rfl (by kernel_rfl) (fun _ _ _ h => h) (Or.inl ⟨by rfl, ?_⟩) ?_ ?_
        rotate_left
        · intro w'
          go_simp
          with_reducible rfl
        rotate_left
        · simp only [Act.put, List.setIfInBounds_toArray, List.set_cons_zero, List.set_cons_succ, i64_w, i32_w]
          rfl
        refine pure_ (i := 8) (N := some 55) (v := ?_) (a' := ?_) #[true, true, true, true, true, true, true, true, true, false, false, false] rfl rfl (by kernel_rfl) (fun _ _ _ h => h) (Or.inl ⟨by rfl, ?_⟩) ?_ ?_
        rotate_left
        · intro w'
          go_simp
          with_reducible rfl
        rotate_left
        · simp only [Act.put, List.setIfInBounds_toArray, List.set_cons_zero, List.set_cons_succ, i64_w, i32_w]
          rfl
        refine one_ (i := 9) (N := some 11) #[true, true, true, true, true, true, true, true, true, true, false, false] rfl rfl (by kernel_rfl) (by decide) (fun K hK => ?_)
        refine box_step ?hg (N := 11) ?hd (cs := #[.int .u8 0, .int .i64 0, .int .i64 0, .int .i64 0, .int .i64 0, .int .i64 0, .bool false, .slice none 0 0, .int .i64 0, .int .i64 0, .int .i64 0, .int .i64 0, .int .i64 0]) (t := 31) ?hr ?_; (case hd => rfl); (case hg => rfl); (case hr => first | (go_simp; done) | (go_simp; rfl))
        intro g11 hg w7 hB hb
        have G11 := Aside0.mk (show w.heap.size ≤ g11 by rw [hg]; exact below_size HB.out)
        have N11 := Aside0.mk (show g9 ≠ g11 by have := blk_lt B9.out; omega)
        replace HB := hst_ HB hb
        replace B9 := bst B9 hb
        replace R0 := Rd.st R0 hb
        replace R1 := Rd.st R1 hb
        have B11 := Aside0.mk hB
        clear hB hb hg
        refine hK.out _ _ ⟨(blk_cell B9.out 0).trans rfl, (blk_cell B9.out 1).trans rfl, (blk_cell B9.out 2).trans rfl, (blk_cell B9.out 3).trans rfl, (blk_cell B9.out 4).trans rfl, (blk_cell B9.out 5).trans rfl⟩ (fun hHeld => ?_)
        clear hK K
        refine norm_ (a' := ?_) ?_ ?_
        rotate_left
        · show Act.put _ (some 11) _ = _
          simp only [Act.put, List.setIfInBounds_toArray, List.set_cons_zero, List.set_cons_succ, i64_w, i32_w]
          rfl
        exact norm_ (by simp only [putAll, Act.put, List.setIfInBounds_toArray, List.set_cons_zero, List.set_cons_succ]) (hCont (s1, s0, g11) _ ⟨hHeld, HB.out, B9.out, B11.out, R1.out, G11.out, N11.out⟩)
      · skip
        refine box_step ?hg (N := 11) ?hd (cs := #[.int .u8 0, .int .i64 0, .int .i64 0, .int .i64 0, .int .i64 0, .int .i64 0, .bool false, .slice none 0 0, .int .i64 0, .int .i64 0, .int .i64 0, .int .i64 0, .int .i64 0]) (t := 31) ?hr ?_; (case hd => rfl); (case hg => rfl); (case hr => first | (go_simp; done) | (go_simp; rfl))
        intro g11 hg w7 hB hb
        have G11 := Aside0.mk (show w.heap.size ≤ g11 by rw [hg]; exact below_size HB.out)
        have N11 := Aside0.mk (show g9 ≠ g11 by have := blk_lt B9.out; omega)
        replace HB := hst_ HB hb
        replace B9 := bst B9 hb
        replace R0 := Rd.st R0 hb
        have B11 := Aside0.mk hB
        clear hB hb hg
        refine hK.out _ _ ⟨(blk_cell B9.out 0).trans rfl, (blk_cell B9.out 1).trans rfl, (blk_cell B9.out 2).trans rfl, (blk_cell B9.out 3).trans rfl, (blk_cell B9.out 4).trans rfl, (blk_cell B9.out 5).trans rfl⟩ (fun hHeld => ?_)
        clear hK K
        refine norm_ (a' := ?_) ?_ ?_
        rotate_left
        · show Act.put _ (some 11) _ = _
          simp only [Act.put, List.setIfInBounds_toArray, List.set_cons_zero, List.set_cons_succ, i64_w, i32_w]
          rfl
        refine one_ (i := 5) (N := some 53) #[true, true, true, true, true, true, false, false, false, true, false, false] rfl rfl (by kernel_rfl) (by decide) (fun K hK => ?_)
        refine goes_ Try.func12 (by kernel_rfl) rfl #[.agg (x0.cs s0), .agg p.cs, .int .i64 (700000 + a1)] (by rfl) rfl rfl (by (try simp only [List.map_toArray, List.map_cons, List.map_nil]); first | done | rfl) ?_
        with_reducible refine (day_c 30603 x0 x p _ 0 s0 _ R0 HX.out).mono ?_
        rintro e w6 ⟨s1, rfl, hr1, hb⟩
        refine ⟨_, rfl, ?_⟩
        replace HB := hst_ HB hb
        replace B9 := bst B9 hb
        replace B11 := bst B11 hb
        replace R0 := Rd.st R0 hb
        have R1 := Aside0.mk hr1
        clear hb hr1
        refine hK.out _ _ ⟨(blk_cell B9.out 0).trans rfl, (blk_cell B9.out 1).trans rfl, (blk_cell B9.out 2).trans rfl, (blk_cell B9.out 3).trans rfl, (blk_cell B9.out 4).trans rfl, (blk_cell B9.out 5).trans rfl⟩ (fun hHeld => ?_)
        clear hK K
        refine norm_ (a' := ?_) ?_ ?_
        rotate_left
        · show Act.put _ (some 53) _ = _
          simp only [Act.put, List.setIfInBounds_toArray, List.set_cons_zero, List.set_cons_succ, i64_w, i32_w]
          rfl
        refine pure_ (i := 6) (N := some 47) (v := ?_) (a' := ?_) #[true, true, true, true, true, true, true, false, false, true, false, false] rfl rfl (by kernel_rfl) (fun _ _ _ h => h) (Or.inl ⟨by rfl, ?_⟩) ?_ ?_
        rotate_left
        · intro w'
          go_simp
          with_reducible rfl
        rotate_left
        · simp only [Act.put, List.setIfInBounds_toArray, List.set_cons_zero, List.set_cons_succ, i64_w, i32_w]
          rfl
        refine pure_ (i := 7) (N := some 54) (v := ?_) (a' := ?_) #[true, true, true, true, true, true, true, true, false, true, false, false] rfl rfl (by kernel_rfl) (fun _ _ _ h => h) (Or.inl ⟨by rfl, ?_⟩) ?_ ?_
        rotate_left
        · intro w'
          go_simp
          with_reducible rfl
        rotate_left
        · simp only [Act.put, List.setIfInBounds_toArray, List.set_cons_zero, List.set_cons_succ, i64_w, i32_w]
          rfl
        refine pure_ (i := 8) (N := some 55) (v := ?_) (a' := ?_) #[true, true, true, true, true, true, true, true, true, true, false, false] rfl rfl (by kernel_rfl) (fun _ _ _ h => h) (Or.inl ⟨by rfl, ?_⟩) ?_ ?_
        rotate_left
        · intro w'
          go_simp
          with_reducible rfl
        rotate_left
        · simp only [Act.put, List.setIfInBounds_toArray, List.set_cons_zero, List.set_cons_succ, i64_w, i32_w]
          rfl
        exact norm_ (by simp only [putAll, Act.put, List.setIfInBounds_toArray, List.set_cons_zero, List.set_cons_succ]) (hCont (s1, s0, g11) _ ⟨hHeld, HB.out, B9.out, B11.out, R1.out, G11.out, N11.out⟩)
    · skip
      refine box_step ?hg (N := 11) ?hd (cs := #[.int .u8 0, .int .i64 0, .int .i64 0, .int .i64 0, .int .i64 0, .int .i64 0, .bool false, .slice none 0 0, .int .i64 0, .int .i64 0, .int .i64 0, .int .i64 0, .int .i64 0]) (t := 31) ?hr ?_; (case hd => rfl); (case hg => rfl); (case hr => first | (go_simp; done) | (go_simp; rfl))
      intro g11 hg w7 hB hb
      have G11 := Aside0.mk (show w.heap.size ≤ g11 by rw [hg]; exact below_size HB.out)
      have N11 := Aside0.mk (show g9 ≠ g11 by have := blk_lt B9.out; omega)
      replace HB := hst_ HB hb
      replace B9 := bst B9 hb
      have B11 := Aside0.mk hB
      clear hB hb hg
      refine hK.out _ _ ⟨(blk_cell B9.out 0).trans rfl, (blk_cell B9.out 1).trans rfl, (blk_cell B9.out 2).trans rfl, (blk_cell B9.out 3).trans rfl, (blk_cell B9.out 4).trans rfl, (blk_cell B9.out 5).trans rfl⟩ (fun hHeld => ?_)
      clear hK K
      refine norm_ (a' := ?_) ?_ ?_
      rotate_left
      · show Act.put _ (some 11) _ = _
        simp only [Act.put, List.setIfInBounds_toArray, List.set_cons_zero, List.set_cons_succ, i64_w, i32_w]
        rfl
      refine one_ (i := 2) (N := some 50) #[true, true, true, true, true, false, false, false, false, true, false, false] rfl rfl (by kernel_rfl) (by decide) (fun K hK => ?_)
      refine goes_ Try.func11 (by kernel_rfl) rfl #[.int .i64 0, .agg p.cs, .int .i64 (700000 + a1)] (by rfl) rfl rfl (by (try simp only [List.map_toArray, List.map_cons, List.map_nil]); first | done | rfl) ?_
      with_reducible refine (open_c 0 _ p x0 _ HO.out).mono ?_
      rintro e w5 ⟨s0, rfl, hr0, hb⟩
      refine ⟨_, rfl, ?_⟩
      replace HB := hst_ HB hb
      replace B9 := bst B9 hb
      replace B11 := bst B11 hb
      have R0 := Aside0.mk hr0
      clear hb hr0
      refine hK.out _ _ ⟨(blk_cell B9.out 0).trans rfl, (blk_cell B9.out 1).trans rfl, (blk_cell B9.out 2).trans rfl, (blk_cell B9.out 3).trans rfl, (blk_cell B9.out 4).trans rfl, (blk_cell B9.out 5).trans rfl⟩ (fun hHeld => ?_)
      clear hK K
      refine norm_ (a' := ?_) ?_ ?_
      rotate_left
      · show Act.put _ (some 50) _ = _
        simp only [Act.put, List.setIfInBounds_toArray, List.set_cons_zero, List.set_cons_succ, i64_w, i32_w]
        rfl
      refine one_ (i := 5) (N := some 53) #[true, true, true, true, true, true, false, false, false, true, false, false] rfl rfl (by kernel_rfl) (by decide) (fun K hK => ?_)
      refine goes_ Try.func12 (by kernel_rfl) rfl #[.agg (x0.cs s0), .agg p.cs, .int .i64 (700000 + a1)] (by rfl) rfl rfl (by (try simp only [List.map_toArray, List.map_cons, List.map_nil]); first | done | rfl) ?_
      with_reducible refine (day_c 30603 x0 x p _ 0 s0 _ R0 HX.out).mono ?_
      rintro e w6 ⟨s1, rfl, hr1, hb⟩
      refine ⟨_, rfl, ?_⟩
      replace HB := hst_ HB hb
      replace B9 := bst B9 hb
      replace B11 := bst B11 hb
      replace R0 := Rd.st R0 hb
      have R1 := Aside0.mk hr1
      clear hb hr1
      refine hK.out _ _ ⟨(blk_cell B9.out 0).trans rfl, (blk_cell B9.out 1).trans rfl, (blk_cell B9.out 2).trans rfl, (blk_cell B9.out 3).trans rfl, (blk_cell B9.out 4).trans rfl, (blk_cell B9.out 5).trans rfl⟩ (fun hHeld => ?_)
      clear hK K
      refine norm_ (a' := ?_) ?_ ?_
      rotate_left
      · show Act.put _ (some 53) _ = _
        simp only [Act.put, List.setIfInBounds_toArray, List.set_cons_zero, List.set_cons_succ, i64_w, i32_w]
        rfl
      refine pure_ (i := 6) (N := some 47) (v := ?_) (a' := ?_) #[true, true, true, true, true, true, true, false, false, true, false, false] rfl rfl (by kernel_rfl) (fun _ _ _ h => h) (Or.inl ⟨by rfl, ?_⟩) ?_ ?_
      rotate_left
      · intro w'
        go_simp
        with_reducible rfl
      rotate_left
      · simp only [Act.put, List.setIfInBounds_toArray, List.set_cons_zero, List.set_cons_succ, i64_w, i32_w]
        rfl
      refine pure_ (i := 7) (N := some 54) (v := ?_) (a' := ?_) #[true, true, true, true, true, true, true, true, false, true, false, false] rfl rfl (by kernel_rfl) (fun _ _ _ h => h) (Or.inl ⟨by rfl, ?_⟩) ?_ ?_
      rotate_left
      · intro w'
        go_simp
        with_reducible rfl
      rotate_left
      · simp only [Act.put, List.setIfInBounds_toArray, List.set_cons_zero, List.set_cons_succ, i64_w, i32_w]
        rfl
      refine pure_ (i := 8) (N := some 55) (v := ?_) (a' := ?_) #[true, true, true, true, true, true, true, true, true, true, false, false] rfl rfl (by kernel_rfl) (fun _ _ _ h => h) (Or.inl ⟨by rfl, ?_⟩) ?_ ?_
      rotate_left
      · intro w'
        go_simp
        with_reducible rfl
      rotate_left
      · simp only [Act.put, List.setIfInBounds_toArray, List.set_cons_zero, List.set_cons_succ, i64_w, i32_w]
        rfl
      exact norm_ (by simp only [putAll, Act.put, List.setIfInBounds_toArray, List.set_cons_zero, List.set_cons_succ]) (hCont (s1, s0, g11) _ ⟨hHeld, HB.out, B9.out, B11.out, R1.out, G11.out, N11.out⟩)
  rintro ⟨s1, s0, g11⟩ w8 ⟨hHeld, h1, h2, h3, h4, h5, h6⟩
  clear HB B9
  have HB := Aside0.mk h1
  have B9 := Aside0.mk h2
  have B11 := Aside0.mk h3
  have R1 := Aside0.mk h4
  have G11 := Aside0.mk h5
  have N11 := Aside0.mk h6
  clear h1 h2 h3 h4 h5 h6
  refine norm_ (a' := ?_) ?_ ?_
  rotate_left
  · simp only [putAll, Act.put, List.setIfInBounds_toArray, List.set_cons_zero, List.set_cons_succ]
    rfl
  refine one_ (i := 10) (N := none) #[true, true, true, true, true, true, true, true, true, true, true, false] rfl rfl (by kernel_rfl) (by decide) (fun K hK => ?_)
  have B11a := B11
  refine putK (by rfl) rfl 31 (.tmp 11) (.tmp 54) rfl rfl B11.out (x.cs s1) rfl (by kernel_rfl) rfl (x.one R1.out.one) ?_
  intro w9 hB hL hk hz
  replace HB := Aside0.mk (hL _ _ G11.out HB.out)
  replace B9 := bfar B9 N11.out hk
  replace B11 := Aside0.mk hB
  replace R1 := Rd.keep R1 B11a.out hk (by decide)
  clear hB hL hk hz
  refine hK.out _ _ ⟨(blk_cell B9.out 0).trans rfl, (blk_cell B9.out 1).trans rfl, (blk_cell B9.out 2).trans rfl, (blk_cell B9.out 3).trans rfl, (blk_cell B9.out 4).trans rfl, (blk_cell B9.out 5).trans rfl⟩ (fun hHeld => ?_)
  clear hK K
  refine pure_ (i := 11) (N := some 12) (v := ?_) (a' := ?_) #[true, true, true, true, true, true, true, true, true, true, true, true] rfl rfl (by kernel_rfl) (fun _ _ _ h => h) (Or.inl ⟨by rfl, ?_⟩) ?_ ?_
  rotate_left
  · intro w'
    go_simp
    with_reducible rfl
  rotate_left
  · simp only [Act.put, List.setIfInBounds_toArray, List.set_cons_zero, List.set_cons_succ, i64_w, i32_w]
    rfl
  refine done_ (by kernel_rfl) ?_
  clear hHeld G11 N11
  go_wp2_with (first | ((with_reducible refine gate_ (.load 31 (.tmp 11)) rfl ?_); refine loadB rfl 31 (.tmp 11) rfl rfl B11.out Try.underlying31 rfl (by kernel_rfl) ?_))
  with_reducible refine (pause_c x y 0 s1 _ R1 HY.out).mono ?_
  rintro e w10 ⟨s13, rfl, hr, hb⟩
  replace HB := hst_ HB hb
  replace B9 := bst B9 hb
  replace B11 := bst B11 hb
  replace R1 := Rd.st R1 hb
  clear hb
  have R13 := Aside0.mk hr
  clear hr
  go_wp2_with (first | ((with_reducible refine gate_dst (N := 13) rfl ?_); refine box2 rfl (N := 13) rfl (cs := #[.int .u8 0, .int .i64 0, .int .i64 0, .int .i64 0, .int .i64 0, .int .i64 0, .bool false, .slice none 0 0, .int .i64 0, .int .i64 0, .int .i64 0, .int .i64 0, .int .i64 0]) ?hr rfl rfl (v := .tmp 59) rfl (y.cs s13) (fun _ => rfl) (fun _ => rfl) (by kernel_rfl) rfl (y.one R13.out.one) ?_; (case hr => first | (go_simp; done) | (go_simp; rfl)); intro g13 hg w11 hB hb; have G13 := Aside0.mk (Nat.le_trans (below_size HB.out) hg); clear hg; replace HB := hst_ HB hb; replace B9 := bst B9 hb; replace B11 := bst B11 hb; replace R1 := Rd.st R1 hb; replace R13 := Rd.st R13 hb; have B13 := Aside0.mk hB; clear hB; clear hb) | ((with_reducible refine gate_ (.load 31 (.tmp 13)) rfl ?_); refine loadB rfl 31 (.tmp 13) rfl rfl B13.out Try.underlying31 rfl (by kernel_rfl) ?_))
  with_reducible refine (pause_c y noA 8 s13 _ R13 HYY.out).mono ?_
  rintro e w12 ⟨s15, rfl, hr, hb⟩
  replace HB := hst_ HB hb
  replace B9 := bst B9 hb
  replace B11 := bst B11 hb
  replace B13 := bst B13 hb
  replace R1 := Rd.st R1 hb
  replace R13 := Rd.st R13 hb
  clear hb
  have R15 := Aside0.mk hr
  clear hr
  go_wp2_with (first | ((with_reducible refine gate_dst (N := 15) rfl ?_); refine box2 rfl (N := 15) rfl (cs := #[.int .u8 0, .int .i64 0, .int .i64 0, .int .i64 0, .int .i64 0, .int .i64 0, .bool false, .slice none 0 0, .int .i64 0, .int .i64 0, .int .i64 0, .int .i64 0, .int .i64 0]) ?hr rfl rfl (v := .tmp 64) rfl (noA.cs s15) (fun _ => rfl) (fun _ => rfl) (by kernel_rfl) rfl (noA.one R15.out.one) ?_; (case hr => first | (go_simp; done) | (go_simp; rfl)); intro g15 hg w13 hB hb; have G15 := Aside0.mk (Nat.le_trans (below_size HB.out) hg); clear hg; replace HB := hst_ HB hb; replace B9 := bst B9 hb; replace B11 := bst B11 hb; replace B13 := bst B13 hb; replace R1 := Rd.st R1 hb; replace R13 := Rd.st R13 hb; clear hB G15; clear hb) | ((with_reducible refine gate_ (.load 25 (.tmp 9)) rfl ?_); refine loadB rfl 25 (.tmp 9) rfl rfl B9.out Try.underlying25 rfl (by kernel_rfl) ?_) | ((with_reducible refine gate_ (.load 31 (.tmp 13)) rfl ?_); refine loadB rfl 31 (.tmp 13) rfl rfl B13.out Try.underlying31 rfl (by kernel_rfl) ?_))
  with_reducible refine (day_c 30603 y z p _ 0 s13 _ R13 HZ.out).mono ?_
  rintro e w14 ⟨s17, rfl, hr, hb⟩
  replace HB := hst_ HB hb
  replace B9 := bst B9 hb
  replace B11 := bst B11 hb
  replace B13 := bst B13 hb
  replace R1 := Rd.st R1 hb
  replace R13 := Rd.st R13 hb
  clear hb
  have R17 := Aside0.mk hr
  clear hr
  clear B13
  clear R13
  go_wp2_with (first | ((with_reducible refine gate_dst (N := 17) rfl ?_); refine box2 rfl (N := 17) rfl (cs := #[.int .u8 0, .int .i64 0, .int .i64 0, .int .i64 0, .int .i64 0, .int .i64 0, .bool false, .slice none 0 0, .int .i64 0, .int .i64 0, .int .i64 0, .int .i64 0, .int .i64 0]) ?hr rfl rfl (v := .tmp 74) rfl (z.cs s17) (fun _ => rfl) (fun _ => rfl) (by kernel_rfl) rfl (z.one R17.out.one) ?_; (case hr => first | (go_simp; done) | (go_simp; rfl)); intro g17 hg w15 hB hb; have G17 := Aside0.mk (Nat.le_trans (below_size HB.out) hg); clear hg; replace HB := hst_ HB hb; replace B9 := bst B9 hb; replace B11 := bst B11 hb; replace R1 := Rd.st R1 hb; replace R17 := Rd.st R17 hb; have B17 := Aside0.mk hB; clear hB; clear hb) | ((with_reducible refine gate_ (.load 31 (.tmp 17)) rfl ?_); refine loadB rfl 31 (.tmp 17) rfl rfl B17.out Try.underlying31 rfl (by kernel_rfl) ?_))
  with_reducible refine (resume_c z v 0 s17 _ R17 HV.out).mono ?_
  rintro e w16 ⟨s19, rfl, hr, hb⟩
  replace HB := hst_ HB hb
  replace B9 := bst B9 hb
  replace B11 := bst B11 hb
  replace B17 := bst B17 hb
  replace R1 := Rd.st R1 hb
  replace R17 := Rd.st R17 hb
  clear hb
  have R19 := Aside0.mk hr
  clear hr
  go_wp2_with (first | ((with_reducible refine gate_dst (N := 19) rfl ?_); refine box2 rfl (N := 19) rfl (cs := #[.int .u8 0, .int .i64 0, .int .i64 0, .int .i64 0, .int .i64 0, .int .i64 0, .bool false, .slice none 0 0, .int .i64 0, .int .i64 0, .int .i64 0, .int .i64 0, .int .i64 0]) ?hr rfl rfl (v := .tmp 79) rfl (v.cs s19) (fun _ => rfl) (fun _ => rfl) (by kernel_rfl) rfl (v.one R19.out.one) ?_; (case hr => first | (go_simp; done) | (go_simp; rfl)); intro g19 hg w17 hB hb; have G19 := Aside0.mk (Nat.le_trans (below_size HB.out) hg); clear hg; replace HB := hst_ HB hb; replace B9 := bst B9 hb; replace B11 := bst B11 hb; replace B17 := bst B17 hb; replace R1 := Rd.st R1 hb; replace R17 := Rd.st R17 hb; replace R19 := Rd.st R19 hb; have B19 := Aside0.mk hB; clear hB; clear hb) | ((with_reducible refine gate_ (.load 31 (.tmp 19)) rfl ?_); refine loadB rfl 31 (.tmp 19) rfl rfl B19.out Try.underlying31 rfl (by kernel_rfl) ?_))
  with_reducible refine (resume_c v noA 8 s19 _ R19 HVV.out).mono ?_
  rintro e w18 ⟨s21, rfl, hr, hb⟩
  replace HB := hst_ HB hb
  replace B9 := bst B9 hb
  replace B11 := bst B11 hb
  replace B17 := bst B17 hb
  replace B19 := bst B19 hb
  replace R1 := Rd.st R1 hb
  replace R17 := Rd.st R17 hb
  replace R19 := Rd.st R19 hb
  clear hb
  have R21 := Aside0.mk hr
  clear hr
  go_wp2_with (first | ((with_reducible refine gate_dst (N := 21) rfl ?_); refine box2 rfl (N := 21) rfl (cs := #[.int .u8 0, .int .i64 0, .int .i64 0, .int .i64 0, .int .i64 0, .int .i64 0, .bool false, .slice none 0 0, .int .i64 0, .int .i64 0, .int .i64 0, .int .i64 0, .int .i64 0]) ?hr rfl rfl (v := .tmp 84) rfl (noA.cs s21) (fun _ => rfl) (fun _ => rfl) (by kernel_rfl) rfl (noA.one R21.out.one) ?_; (case hr => first | (go_simp; done) | (go_simp; rfl)); intro g21 hg w19 hB hb; have G21 := Aside0.mk (Nat.le_trans (below_size HB.out) hg); clear hg; replace HB := hst_ HB hb; replace B9 := bst B9 hb; replace B11 := bst B11 hb; replace B17 := bst B17 hb; replace B19 := bst B19 hb; replace R1 := Rd.st R1 hb; replace R17 := Rd.st R17 hb; replace R19 := Rd.st R19 hb; clear hB G21; clear hb) | ((with_reducible refine gate_ (.load 31 (.tmp 19)) rfl ?_); refine loadB rfl 31 (.tmp 19) rfl rfl B19.out Try.underlying31 rfl (by kernel_rfl) ?_))
  with_reducible refine (cancel_c 10 v en 0 s19 _ R19 HE.out).mono ?_
  rintro e w20 ⟨s23, rfl, hr, hb⟩
  replace HB := hst_ HB hb
  replace B9 := bst B9 hb
  replace B11 := bst B11 hb
  replace B17 := bst B17 hb
  replace B19 := bst B19 hb
  replace R1 := Rd.st R1 hb
  replace R17 := Rd.st R17 hb
  replace R19 := Rd.st R19 hb
  clear hb
  have R23 := Aside0.mk hr
  clear hr
  go_wp2_with (first | ((with_reducible refine gate_dst (N := 23) rfl ?_); refine box2 rfl (N := 23) rfl (cs := #[.int .u8 0, .int .i64 0, .int .i64 0, .int .i64 0, .int .i64 0, .int .i64 0, .bool false, .slice none 0 0, .int .i64 0, .int .i64 0, .int .i64 0, .int .i64 0, .int .i64 0]) ?hr rfl rfl (v := .tmp 89) rfl (en.cs s23) (fun _ => rfl) (fun _ => rfl) (by kernel_rfl) rfl (en.one R23.out.one) ?_; (case hr => first | (go_simp; done) | (go_simp; rfl)); intro g23 hg w21 hB hb; have G23 := Aside0.mk (Nat.le_trans (below_size HB.out) hg); clear hg; replace HB := hst_ HB hb; replace B9 := bst B9 hb; replace B11 := bst B11 hb; replace B17 := bst B17 hb; replace B19 := bst B19 hb; replace R1 := Rd.st R1 hb; replace R17 := Rd.st R17 hb; replace R19 := Rd.st R19 hb; replace R23 := Rd.st R23 hb; have B23 := Aside0.mk hB; clear hB; clear hb) | ((with_reducible refine gate_ (.load 31 (.tmp 23)) rfl ?_); refine loadB rfl 31 (.tmp 23) rfl rfl B23.out Try.underlying31 rfl (by kernel_rfl) ?_))
  with_reducible refine (cancel_c 10 en noA 8 s23 _ R23 HEE.out).mono ?_
  rintro e w22 ⟨s25, rfl, hr, hb⟩
  replace HB := hst_ HB hb
  replace B9 := bst B9 hb
  replace B11 := bst B11 hb
  replace B17 := bst B17 hb
  replace B19 := bst B19 hb
  replace B23 := bst B23 hb
  replace R1 := Rd.st R1 hb
  replace R17 := Rd.st R17 hb
  replace R19 := Rd.st R19 hb
  replace R23 := Rd.st R23 hb
  clear hb
  have R25 := Aside0.mk hr
  clear hr
  go_wp2_with (first | ((with_reducible refine gate_dst (N := 25) rfl ?_); refine box2 rfl (N := 25) rfl (cs := #[.int .u8 0, .int .i64 0, .int .i64 0, .int .i64 0, .int .i64 0, .int .i64 0, .bool false, .slice none 0 0, .int .i64 0, .int .i64 0, .int .i64 0, .int .i64 0, .int .i64 0]) ?hr rfl rfl (v := .tmp 94) rfl (noA.cs s25) (fun _ => rfl) (fun _ => rfl) (by kernel_rfl) rfl (noA.one R25.out.one) ?_; (case hr => first | (go_simp; done) | (go_simp; rfl)); intro g25 hg w23 hB hb; have G25 := Aside0.mk (Nat.le_trans (below_size HB.out) hg); clear hg; replace HB := hst_ HB hb; replace B9 := bst B9 hb; replace B11 := bst B11 hb; replace B17 := bst B17 hb; replace B19 := bst B19 hb; replace B23 := bst B23 hb; replace R1 := Rd.st R1 hb; replace R17 := Rd.st R17 hb; replace R19 := Rd.st R19 hb; replace R23 := Rd.st R23 hb; clear hB G25; clear hb) | ((with_reducible refine gate_ (.load 31 (.tmp 23)) rfl ?_); refine loadB rfl 31 (.tmp 23) rfl rfl B23.out Try.underlying31 rfl (by kernel_rfl) ?_))
  with_reducible refine (skip_c en noA 8 s23 _ R23 HES.out).mono ?_
  rintro e w24 ⟨s27, rfl, hr, hb⟩
  replace HB := hst_ HB hb
  replace B9 := bst B9 hb
  replace B11 := bst B11 hb
  replace B17 := bst B17 hb
  replace B19 := bst B19 hb
  replace B23 := bst B23 hb
  replace R1 := Rd.st R1 hb
  replace R17 := Rd.st R17 hb
  replace R19 := Rd.st R19 hb
  replace R23 := Rd.st R23 hb
  clear hb
  have R27 := Aside0.mk hr
  clear hr
  go_wp2_with (first | ((with_reducible refine gate_dst (N := 27) rfl ?_); refine box2 rfl (N := 27) rfl (cs := #[.int .u8 0, .int .i64 0, .int .i64 0, .int .i64 0, .int .i64 0, .int .i64 0, .bool false, .slice none 0 0, .int .i64 0, .int .i64 0, .int .i64 0, .int .i64 0, .int .i64 0]) ?hr rfl rfl (v := .tmp 99) rfl (noA.cs s27) (fun _ => rfl) (fun _ => rfl) (by kernel_rfl) rfl (noA.one R27.out.one) ?_; (case hr => first | (go_simp; done) | (go_simp; rfl)); intro g27 hg w25 hB hb; have G27 := Aside0.mk (Nat.le_trans (below_size HB.out) hg); clear hg; replace HB := hst_ HB hb; replace B9 := bst B9 hb; replace B11 := bst B11 hb; replace B17 := bst B17 hb; replace B19 := bst B19 hb; replace B23 := bst B23 hb; replace R1 := Rd.st R1 hb; replace R17 := Rd.st R17 hb; replace R19 := Rd.st R19 hb; replace R23 := Rd.st R23 hb; clear hB G27; clear hb) | ((with_reducible refine gate_ (.load 31 (.tmp 23)) rfl ?_); refine loadB rfl 31 (.tmp 23) rfl rfl B23.out Try.underlying31 rfl (by kernel_rfl) ?_))
  with_reducible refine (card_no en s23 _ HEN.out).mono ?_
  rintro e w26 ⟨s29, rfl, hr, hb⟩
  replace HB := hst_ HB hb
  replace B9 := bst B9 hb
  replace B11 := bst B11 hb
  replace B17 := bst B17 hb
  replace B19 := bst B19 hb
  replace B23 := bst B23 hb
  replace R1 := Rd.st R1 hb
  replace R17 := Rd.st R17 hb
  replace R19 := Rd.st R19 hb
  replace R23 := Rd.st R23 hb
  clear hb
  have R29 := Aside0.mk hr
  clear hr
  go_wp2_with (first | ((with_reducible refine gate_dst (N := 29) rfl ?_); refine box2 rfl (N := 29) rfl (cs := #[.int .u8 0, .int .i64 0, .int .i64 0, .int .i64 0, .int .i64 0, .int .i64 0, .bool false, .slice none 0 0, .int .i64 0, .int .i64 0, .int .i64 0, .int .i64 0, .int .i64 0]) ?hr rfl rfl (v := .tmp 104) rfl (noA.cs s29) (fun _ => rfl) (fun _ => rfl) (by kernel_rfl) rfl (noA.one R29.out.one) ?_; (case hr => first | (go_simp; done) | (go_simp; rfl)); intro g29 hg w27 hB hb; have G29 := Aside0.mk (Nat.le_trans (below_size HB.out) hg); clear hg; replace HB := hst_ HB hb; replace B9 := bst B9 hb; replace B11 := bst B11 hb; replace B17 := bst B17 hb; replace B19 := bst B19 hb; replace B23 := bst B23 hb; replace R1 := Rd.st R1 hb; replace R17 := Rd.st R17 hb; replace R19 := Rd.st R19 hb; replace R23 := Rd.st R23 hb; clear hB G29; clear hb) | ((with_reducible refine gate_ (.load 25 (.tmp 9)) rfl ?_); refine loadB rfl 25 (.tmp 9) rfl rfl B9.out Try.underlying25 rfl (by kernel_rfl) ?_) | ((with_reducible refine gate_ (.load 31 (.tmp 23)) rfl ?_); refine loadB rfl 31 (.tmp 23) rfl rfl B23.out Try.underlying31 rfl (by kernel_rfl) ?_))
  with_reducible refine (change_no en p p 1 _ s23 _ HEN.out).mono ?_
  rintro e w28 ⟨s31, rfl, hr, hb⟩
  replace HB := hst_ HB hb
  replace B9 := bst B9 hb
  replace B11 := bst B11 hb
  replace B17 := bst B17 hb
  replace B19 := bst B19 hb
  replace B23 := bst B23 hb
  replace R1 := Rd.st R1 hb
  replace R17 := Rd.st R17 hb
  replace R19 := Rd.st R19 hb
  replace R23 := Rd.st R23 hb
  clear hb
  clear B9
  have R31 := Aside0.mk hr
  clear hr
  go_wp2_with (first | ((with_reducible refine gate_dst (N := 31) rfl ?_); refine box2 rfl (N := 31) rfl (cs := #[.int .u8 0, .int .i64 0, .int .i64 0, .int .i64 0, .int .i64 0, .int .i64 0, .bool false, .slice none 0 0, .int .i64 0, .int .i64 0, .int .i64 0, .int .i64 0, .int .i64 0]) ?hr rfl rfl (v := .tmp 112) rfl (noA.cs s31) (fun _ => rfl) (fun _ => rfl) (by kernel_rfl) rfl (noA.one R31.out.one) ?_; (case hr => first | (go_simp; done) | (go_simp; rfl)); intro g31 hg w29 hB hb; have G31 := Aside0.mk (Nat.le_trans (below_size HB.out) hg); clear hg; replace HB := hst_ HB hb; replace B11 := bst B11 hb; replace B17 := bst B17 hb; replace B19 := bst B19 hb; replace B23 := bst B23 hb; replace R1 := Rd.st R1 hb; replace R17 := Rd.st R17 hb; replace R19 := Rd.st R19 hb; replace R23 := Rd.st R23 hb; clear hB G31; clear hb) | ((with_reducible refine gate_ (.load 31 (.tmp 23)) rfl ?_); refine loadB rfl 31 (.tmp 23) rfl rfl B23.out Try.underlying31 rfl (by kernel_rfl) ?_))
  with_reducible refine (pause_c en noA 8 s23 _ R23 HEP.out).mono ?_
  rintro e w30 ⟨s33, rfl, hr, hb⟩
  replace HB := hst_ HB hb
  replace B11 := bst B11 hb
  replace B17 := bst B17 hb
  replace B19 := bst B19 hb
  replace B23 := bst B23 hb
  replace R1 := Rd.st R1 hb
  replace R17 := Rd.st R17 hb
  replace R19 := Rd.st R19 hb
  replace R23 := Rd.st R23 hb
  clear hb
  clear B23
  clear R23
  have R33 := Aside0.mk hr
  clear hr
  go_wp2_with (first | ((with_reducible refine gate_dst (N := 33) rfl ?_); refine box2 rfl (N := 33) rfl (cs := #[.int .u8 0, .int .i64 0, .int .i64 0, .int .i64 0, .int .i64 0, .int .i64 0, .bool false, .slice none 0 0, .int .i64 0, .int .i64 0, .int .i64 0, .int .i64 0, .int .i64 0]) ?hr rfl rfl (v := .tmp 117) rfl (noA.cs s33) (fun _ => rfl) (fun _ => rfl) (by kernel_rfl) rfl (noA.one R33.out.one) ?_; (case hr => first | (go_simp; done) | (go_simp; rfl)); intro g33 hg w31 hB hb; have G33 := Aside0.mk (Nat.le_trans (below_size HB.out) hg); clear hg; replace HB := hst_ HB hb; replace B11 := bst B11 hb; replace B17 := bst B17 hb; replace B19 := bst B19 hb; replace R1 := Rd.st R1 hb; replace R17 := Rd.st R17 hb; replace R19 := Rd.st R19 hb; clear hB G33; clear hb) | ((with_reducible refine gate_ (.load 31 (.tmp 19)) rfl ?_); refine loadB rfl 31 (.tmp 19) rfl rfl B19.out Try.underlying31 rfl (by kernel_rfl) ?_))
  with_reducible refine (skip_c v s 0 s19 _ R19 HS.out).mono ?_
  rintro e w32 ⟨s35, rfl, hr, hb⟩
  replace HB := hst_ HB hb
  replace B11 := bst B11 hb
  replace B17 := bst B17 hb
  replace B19 := bst B19 hb
  replace R1 := Rd.st R1 hb
  replace R17 := Rd.st R17 hb
  replace R19 := Rd.st R19 hb
  clear hb
  have R35 := Aside0.mk hr
  clear hr
  clear B19
  clear R19
  go_wp2_with (first | ((with_reducible refine gate_dst (N := 35) rfl ?_); refine box2 rfl (N := 35) rfl (cs := #[.int .u8 0, .int .i64 0, .int .i64 0, .int .i64 0, .int .i64 0, .int .i64 0, .bool false, .slice none 0 0, .int .i64 0, .int .i64 0, .int .i64 0, .int .i64 0, .int .i64 0]) ?hr rfl rfl (v := .tmp 122) rfl (s.cs s35) (fun _ => rfl) (fun _ => rfl) (by kernel_rfl) rfl (s.one R35.out.one) ?_; (case hr => first | (go_simp; done) | (go_simp; rfl)); intro g35 hg w33 hB hb; have G35 := Aside0.mk (Nat.le_trans (below_size HB.out) hg); clear hg; replace HB := hst_ HB hb; replace B11 := bst B11 hb; replace B17 := bst B17 hb; replace R1 := Rd.st R1 hb; replace R17 := Rd.st R17 hb; replace R35 := Rd.st R35 hb; have B35 := Aside0.mk hB; clear hB; clear hb) | ((with_reducible refine gate_ (.load 31 (.tmp 35)) rfl ?_); refine loadB rfl 31 (.tmp 35) rfl rfl B35.out Try.underlying31 rfl (by kernel_rfl) ?_))
  with_reducible refine (skip_c s noA 8 s35 _ R35 HSS.out).mono ?_
  rintro e w34 ⟨s37, rfl, hr, hb⟩
  replace HB := hst_ HB hb
  replace B11 := bst B11 hb
  replace B17 := bst B17 hb
  replace B35 := bst B35 hb
  replace R1 := Rd.st R1 hb
  replace R17 := Rd.st R17 hb
  replace R35 := Rd.st R35 hb
  clear hb
  clear B35
  clear R35
  have R37 := Aside0.mk hr
  clear hr
  go_upto_region 22 with (first | ((with_reducible refine gate_dst (N := 37) rfl ?_); refine box2 rfl (N := 37) rfl (cs := #[.int .u8 0, .int .i64 0, .int .i64 0, .int .i64 0, .int .i64 0, .int .i64 0, .bool false, .slice none 0 0, .int .i64 0, .int .i64 0, .int .i64 0, .int .i64 0, .int .i64 0]) ?hr rfl rfl (v := .tmp 127) rfl (noA.cs s37) (fun _ => rfl) (fun _ => rfl) (by kernel_rfl) rfl (noA.one R37.out.one) ?_; (case hr => first | (go_simp; done) | (go_simp; rfl)); intro g37 hg w35 hB hb; have G37 := Aside0.mk (Nat.le_trans (below_size HB.out) hg); clear hg; replace HB := hst_ HB hb; replace B11 := bst B11 hb; replace B17 := bst B17 hb; replace R1 := Rd.st R1 hb; replace R17 := Rd.st R17 hb; clear hB G37; clear hb))
  clear HPL HO HX HY HYY HZ HV HVV HE HEE HES HEN HEP HS HSS R37
  obtain ⟨A17, c17, rfl, -, -⟩ := R17.out.get
  obtain ⟨A1, c1, rfl, -, -⟩ := R1.out.get
  clear R17 R1
  rcases (show a3 = 0 ∨ a3 = 1 ∨ a3 = 2 ∨ a3 = 3 ∨ 4 ≤ a3 by omega) with rfl | rfl | rfl | rfl | h4
  · go_upto_region 24 with fail
    have b17_4 : (w35.alloc (.cells #[.string ⟨#[110, 111, 116, 104, 105, 110, 103]⟩, .string ⟨#[97, 99, 116, 105, 118, 101]⟩, .string ⟨#[112, 97, 117, 115, 101, 100]⟩, .string ⟨#[101, 110, 100, 101, 100]⟩] 9 (0, 0))).cell? ⟨g17, 4, none⟩ = some (.int .i64 z.ct) := (blk_cell (blk_alloc B17.out (.cells #[.string ⟨#[110, 111, 116, 104, 105, 110, 103]⟩, .string ⟨#[97, 99, 116, 105, 118, 101]⟩, .string ⟨#[112, 97, 117, 115, 101, 100]⟩, .string ⟨#[101, 110, 100, 101, 100]⟩] 9 (0, 0))) 4).trans rfl
    have b17_7 : (w35.alloc (.cells #[.string ⟨#[110, 111, 116, 104, 105, 110, 103]⟩, .string ⟨#[97, 99, 116, 105, 118, 101]⟩, .string ⟨#[112, 97, 117, 115, 101, 100]⟩, .string ⟨#[101, 110, 100, 101, 100]⟩] 9 (0, 0))).cell? ⟨g17, 7, none⟩ = some (.slice A17 z.op.length c17) := (blk_cell (blk_alloc B17.out (.cells #[.string ⟨#[110, 111, 116, 104, 105, 110, 103]⟩, .string ⟨#[97, 99, 116, 105, 118, 101]⟩, .string ⟨#[112, 97, 117, 115, 101, 100]⟩, .string ⟨#[101, 110, 100, 101, 100]⟩] 9 (0, 0))) 7).trans rfl
    have b17_11 : (w35.alloc (.cells #[.string ⟨#[110, 111, 116, 104, 105, 110, 103]⟩, .string ⟨#[97, 99, 116, 105, 118, 101]⟩, .string ⟨#[112, 97, 117, 115, 101, 100]⟩, .string ⟨#[101, 110, 100, 101, 100]⟩] 9 (0, 0))).cell? ⟨g17, 11, none⟩ = some (.int .i64 z.sp) := (blk_cell (blk_alloc B17.out (.cells #[.string ⟨#[110, 111, 116, 104, 105, 110, 103]⟩, .string ⟨#[97, 99, 116, 105, 118, 101]⟩, .string ⟨#[112, 97, 117, 115, 101, 100]⟩, .string ⟨#[101, 110, 100, 101, 100]⟩] 9 (0, 0))) 11).trans rfl
    have b11_4 : (w35.alloc (.cells #[.string ⟨#[110, 111, 116, 104, 105, 110, 103]⟩, .string ⟨#[97, 99, 116, 105, 118, 101]⟩, .string ⟨#[112, 97, 117, 115, 101, 100]⟩, .string ⟨#[101, 110, 100, 101, 100]⟩] 9 (0, 0))).cell? ⟨g11, 4, none⟩ = some (.int .i64 x.ct) := (blk_cell (blk_alloc B11.out (.cells #[.string ⟨#[110, 111, 116, 104, 105, 110, 103]⟩, .string ⟨#[97, 99, 116, 105, 118, 101]⟩, .string ⟨#[112, 97, 117, 115, 101, 100]⟩, .string ⟨#[101, 110, 100, 101, 100]⟩] 9 (0, 0))) 4).trans rfl
    have b11_7 : (w35.alloc (.cells #[.string ⟨#[110, 111, 116, 104, 105, 110, 103]⟩, .string ⟨#[97, 99, 116, 105, 118, 101]⟩, .string ⟨#[112, 97, 117, 115, 101, 100]⟩, .string ⟨#[101, 110, 100, 101, 100]⟩] 9 (0, 0))).cell? ⟨g11, 7, none⟩ = some (.slice A1 x.op.length c1) := (blk_cell (blk_alloc B11.out (.cells #[.string ⟨#[110, 111, 116, 104, 105, 110, 103]⟩, .string ⟨#[97, 99, 116, 105, 118, 101]⟩, .string ⟨#[112, 97, 117, 115, 101, 100]⟩, .string ⟨#[101, 110, 100, 101, 100]⟩] 9 (0, 0))) 7).trans rfl
    have b11_11 : (w35.alloc (.cells #[.string ⟨#[110, 111, 116, 104, 105, 110, 103]⟩, .string ⟨#[97, 99, 116, 105, 118, 101]⟩, .string ⟨#[112, 97, 117, 115, 101, 100]⟩, .string ⟨#[101, 110, 100, 101, 100]⟩] 9 (0, 0))).cell? ⟨g11, 11, none⟩ = some (.int .i64 x.sp) := (blk_cell (blk_alloc B11.out (.cells #[.string ⟨#[110, 111, 116, 104, 105, 110, 103]⟩, .string ⟨#[97, 99, 116, 105, 118, 101]⟩, .string ⟨#[112, 97, 117, 115, 101, 100]⟩, .string ⟨#[101, 110, 100, 101, 100]⟩] 9 (0, 0))) 11).trans rfl
    rw [hop] at b17_7
    replace HB := Aside0.mk (below_alloc HB.out (.cells #[.string ⟨#[110, 111, 116, 104, 105, 110, 103]⟩, .string ⟨#[97, 99, 116, 105, 118, 101]⟩, .string ⟨#[112, 97, 117, 115, 101, 100]⟩, .string ⟨#[101, 110, 100, 101, 100]⟩] 9 (0, 0)))
    clear B17 B11
    go_wp2_with fail
    with_reducible refine (account_Name.calls 0 ⟨#[110, 111, 116, 104, 105, 110, 103]⟩ _ (by kernel_rfl)).mono ?_
    rintro e wz ⟨rfl, hb⟩
    replace HB := hst_ HB hb
    clear hb
    go_wp2_with fail
    go_ret
    exact ⟨by first | rfl | simp, HB.out⟩
  · go_upto_region 24 with fail
    have b17_4 : (w35.alloc (.cells #[.string ⟨#[110, 111, 116, 104, 105, 110, 103]⟩, .string ⟨#[97, 99, 116, 105, 118, 101]⟩, .string ⟨#[112, 97, 117, 115, 101, 100]⟩, .string ⟨#[101, 110, 100, 101, 100]⟩] 9 (0, 0))).cell? ⟨g17, 4, none⟩ = some (.int .i64 z.ct) := (blk_cell (blk_alloc B17.out (.cells #[.string ⟨#[110, 111, 116, 104, 105, 110, 103]⟩, .string ⟨#[97, 99, 116, 105, 118, 101]⟩, .string ⟨#[112, 97, 117, 115, 101, 100]⟩, .string ⟨#[101, 110, 100, 101, 100]⟩] 9 (0, 0))) 4).trans rfl
    have b17_7 : (w35.alloc (.cells #[.string ⟨#[110, 111, 116, 104, 105, 110, 103]⟩, .string ⟨#[97, 99, 116, 105, 118, 101]⟩, .string ⟨#[112, 97, 117, 115, 101, 100]⟩, .string ⟨#[101, 110, 100, 101, 100]⟩] 9 (0, 0))).cell? ⟨g17, 7, none⟩ = some (.slice A17 z.op.length c17) := (blk_cell (blk_alloc B17.out (.cells #[.string ⟨#[110, 111, 116, 104, 105, 110, 103]⟩, .string ⟨#[97, 99, 116, 105, 118, 101]⟩, .string ⟨#[112, 97, 117, 115, 101, 100]⟩, .string ⟨#[101, 110, 100, 101, 100]⟩] 9 (0, 0))) 7).trans rfl
    have b17_11 : (w35.alloc (.cells #[.string ⟨#[110, 111, 116, 104, 105, 110, 103]⟩, .string ⟨#[97, 99, 116, 105, 118, 101]⟩, .string ⟨#[112, 97, 117, 115, 101, 100]⟩, .string ⟨#[101, 110, 100, 101, 100]⟩] 9 (0, 0))).cell? ⟨g17, 11, none⟩ = some (.int .i64 z.sp) := (blk_cell (blk_alloc B17.out (.cells #[.string ⟨#[110, 111, 116, 104, 105, 110, 103]⟩, .string ⟨#[97, 99, 116, 105, 118, 101]⟩, .string ⟨#[112, 97, 117, 115, 101, 100]⟩, .string ⟨#[101, 110, 100, 101, 100]⟩] 9 (0, 0))) 11).trans rfl
    have b11_4 : (w35.alloc (.cells #[.string ⟨#[110, 111, 116, 104, 105, 110, 103]⟩, .string ⟨#[97, 99, 116, 105, 118, 101]⟩, .string ⟨#[112, 97, 117, 115, 101, 100]⟩, .string ⟨#[101, 110, 100, 101, 100]⟩] 9 (0, 0))).cell? ⟨g11, 4, none⟩ = some (.int .i64 x.ct) := (blk_cell (blk_alloc B11.out (.cells #[.string ⟨#[110, 111, 116, 104, 105, 110, 103]⟩, .string ⟨#[97, 99, 116, 105, 118, 101]⟩, .string ⟨#[112, 97, 117, 115, 101, 100]⟩, .string ⟨#[101, 110, 100, 101, 100]⟩] 9 (0, 0))) 4).trans rfl
    have b11_7 : (w35.alloc (.cells #[.string ⟨#[110, 111, 116, 104, 105, 110, 103]⟩, .string ⟨#[97, 99, 116, 105, 118, 101]⟩, .string ⟨#[112, 97, 117, 115, 101, 100]⟩, .string ⟨#[101, 110, 100, 101, 100]⟩] 9 (0, 0))).cell? ⟨g11, 7, none⟩ = some (.slice A1 x.op.length c1) := (blk_cell (blk_alloc B11.out (.cells #[.string ⟨#[110, 111, 116, 104, 105, 110, 103]⟩, .string ⟨#[97, 99, 116, 105, 118, 101]⟩, .string ⟨#[112, 97, 117, 115, 101, 100]⟩, .string ⟨#[101, 110, 100, 101, 100]⟩] 9 (0, 0))) 7).trans rfl
    have b11_11 : (w35.alloc (.cells #[.string ⟨#[110, 111, 116, 104, 105, 110, 103]⟩, .string ⟨#[97, 99, 116, 105, 118, 101]⟩, .string ⟨#[112, 97, 117, 115, 101, 100]⟩, .string ⟨#[101, 110, 100, 101, 100]⟩] 9 (0, 0))).cell? ⟨g11, 11, none⟩ = some (.int .i64 x.sp) := (blk_cell (blk_alloc B11.out (.cells #[.string ⟨#[110, 111, 116, 104, 105, 110, 103]⟩, .string ⟨#[97, 99, 116, 105, 118, 101]⟩, .string ⟨#[112, 97, 117, 115, 101, 100]⟩, .string ⟨#[101, 110, 100, 101, 100]⟩] 9 (0, 0))) 11).trans rfl
    rw [hop] at b17_7
    replace HB := Aside0.mk (below_alloc HB.out (.cells #[.string ⟨#[110, 111, 116, 104, 105, 110, 103]⟩, .string ⟨#[97, 99, 116, 105, 118, 101]⟩, .string ⟨#[112, 97, 117, 115, 101, 100]⟩, .string ⟨#[101, 110, 100, 101, 100]⟩] 9 (0, 0)))
    clear B17 B11
    go_wp2_with fail
    with_reducible refine (account_Name.calls 1 ⟨#[97, 99, 116, 105, 118, 101]⟩ _ (by kernel_rfl)).mono ?_
    rintro e wz ⟨rfl, hb⟩
    replace HB := hst_ HB hb
    clear hb
    go_wp2_with fail
    go_ret
    exact ⟨by first | rfl | simp, HB.out⟩
  · go_upto_region 24 with fail
    have b17_4 : (w35.alloc (.cells #[.string ⟨#[110, 111, 116, 104, 105, 110, 103]⟩, .string ⟨#[97, 99, 116, 105, 118, 101]⟩, .string ⟨#[112, 97, 117, 115, 101, 100]⟩, .string ⟨#[101, 110, 100, 101, 100]⟩] 9 (0, 0))).cell? ⟨g17, 4, none⟩ = some (.int .i64 z.ct) := (blk_cell (blk_alloc B17.out (.cells #[.string ⟨#[110, 111, 116, 104, 105, 110, 103]⟩, .string ⟨#[97, 99, 116, 105, 118, 101]⟩, .string ⟨#[112, 97, 117, 115, 101, 100]⟩, .string ⟨#[101, 110, 100, 101, 100]⟩] 9 (0, 0))) 4).trans rfl
    have b17_7 : (w35.alloc (.cells #[.string ⟨#[110, 111, 116, 104, 105, 110, 103]⟩, .string ⟨#[97, 99, 116, 105, 118, 101]⟩, .string ⟨#[112, 97, 117, 115, 101, 100]⟩, .string ⟨#[101, 110, 100, 101, 100]⟩] 9 (0, 0))).cell? ⟨g17, 7, none⟩ = some (.slice A17 z.op.length c17) := (blk_cell (blk_alloc B17.out (.cells #[.string ⟨#[110, 111, 116, 104, 105, 110, 103]⟩, .string ⟨#[97, 99, 116, 105, 118, 101]⟩, .string ⟨#[112, 97, 117, 115, 101, 100]⟩, .string ⟨#[101, 110, 100, 101, 100]⟩] 9 (0, 0))) 7).trans rfl
    have b17_11 : (w35.alloc (.cells #[.string ⟨#[110, 111, 116, 104, 105, 110, 103]⟩, .string ⟨#[97, 99, 116, 105, 118, 101]⟩, .string ⟨#[112, 97, 117, 115, 101, 100]⟩, .string ⟨#[101, 110, 100, 101, 100]⟩] 9 (0, 0))).cell? ⟨g17, 11, none⟩ = some (.int .i64 z.sp) := (blk_cell (blk_alloc B17.out (.cells #[.string ⟨#[110, 111, 116, 104, 105, 110, 103]⟩, .string ⟨#[97, 99, 116, 105, 118, 101]⟩, .string ⟨#[112, 97, 117, 115, 101, 100]⟩, .string ⟨#[101, 110, 100, 101, 100]⟩] 9 (0, 0))) 11).trans rfl
    have b11_4 : (w35.alloc (.cells #[.string ⟨#[110, 111, 116, 104, 105, 110, 103]⟩, .string ⟨#[97, 99, 116, 105, 118, 101]⟩, .string ⟨#[112, 97, 117, 115, 101, 100]⟩, .string ⟨#[101, 110, 100, 101, 100]⟩] 9 (0, 0))).cell? ⟨g11, 4, none⟩ = some (.int .i64 x.ct) := (blk_cell (blk_alloc B11.out (.cells #[.string ⟨#[110, 111, 116, 104, 105, 110, 103]⟩, .string ⟨#[97, 99, 116, 105, 118, 101]⟩, .string ⟨#[112, 97, 117, 115, 101, 100]⟩, .string ⟨#[101, 110, 100, 101, 100]⟩] 9 (0, 0))) 4).trans rfl
    have b11_7 : (w35.alloc (.cells #[.string ⟨#[110, 111, 116, 104, 105, 110, 103]⟩, .string ⟨#[97, 99, 116, 105, 118, 101]⟩, .string ⟨#[112, 97, 117, 115, 101, 100]⟩, .string ⟨#[101, 110, 100, 101, 100]⟩] 9 (0, 0))).cell? ⟨g11, 7, none⟩ = some (.slice A1 x.op.length c1) := (blk_cell (blk_alloc B11.out (.cells #[.string ⟨#[110, 111, 116, 104, 105, 110, 103]⟩, .string ⟨#[97, 99, 116, 105, 118, 101]⟩, .string ⟨#[112, 97, 117, 115, 101, 100]⟩, .string ⟨#[101, 110, 100, 101, 100]⟩] 9 (0, 0))) 7).trans rfl
    have b11_11 : (w35.alloc (.cells #[.string ⟨#[110, 111, 116, 104, 105, 110, 103]⟩, .string ⟨#[97, 99, 116, 105, 118, 101]⟩, .string ⟨#[112, 97, 117, 115, 101, 100]⟩, .string ⟨#[101, 110, 100, 101, 100]⟩] 9 (0, 0))).cell? ⟨g11, 11, none⟩ = some (.int .i64 x.sp) := (blk_cell (blk_alloc B11.out (.cells #[.string ⟨#[110, 111, 116, 104, 105, 110, 103]⟩, .string ⟨#[97, 99, 116, 105, 118, 101]⟩, .string ⟨#[112, 97, 117, 115, 101, 100]⟩, .string ⟨#[101, 110, 100, 101, 100]⟩] 9 (0, 0))) 11).trans rfl
    rw [hop] at b17_7
    replace HB := Aside0.mk (below_alloc HB.out (.cells #[.string ⟨#[110, 111, 116, 104, 105, 110, 103]⟩, .string ⟨#[97, 99, 116, 105, 118, 101]⟩, .string ⟨#[112, 97, 117, 115, 101, 100]⟩, .string ⟨#[101, 110, 100, 101, 100]⟩] 9 (0, 0)))
    clear B17 B11
    go_wp2_with fail
    with_reducible refine (account_Name.calls 2 ⟨#[112, 97, 117, 115, 101, 100]⟩ _ (by kernel_rfl)).mono ?_
    rintro e wz ⟨rfl, hb⟩
    replace HB := hst_ HB hb
    clear hb
    go_wp2_with fail
    go_ret
    exact ⟨by first | rfl | simp, HB.out⟩
  · go_upto_region 24 with fail
    have b17_4 : (w35.alloc (.cells #[.string ⟨#[110, 111, 116, 104, 105, 110, 103]⟩, .string ⟨#[97, 99, 116, 105, 118, 101]⟩, .string ⟨#[112, 97, 117, 115, 101, 100]⟩, .string ⟨#[101, 110, 100, 101, 100]⟩] 9 (0, 0))).cell? ⟨g17, 4, none⟩ = some (.int .i64 z.ct) := (blk_cell (blk_alloc B17.out (.cells #[.string ⟨#[110, 111, 116, 104, 105, 110, 103]⟩, .string ⟨#[97, 99, 116, 105, 118, 101]⟩, .string ⟨#[112, 97, 117, 115, 101, 100]⟩, .string ⟨#[101, 110, 100, 101, 100]⟩] 9 (0, 0))) 4).trans rfl
    have b17_7 : (w35.alloc (.cells #[.string ⟨#[110, 111, 116, 104, 105, 110, 103]⟩, .string ⟨#[97, 99, 116, 105, 118, 101]⟩, .string ⟨#[112, 97, 117, 115, 101, 100]⟩, .string ⟨#[101, 110, 100, 101, 100]⟩] 9 (0, 0))).cell? ⟨g17, 7, none⟩ = some (.slice A17 z.op.length c17) := (blk_cell (blk_alloc B17.out (.cells #[.string ⟨#[110, 111, 116, 104, 105, 110, 103]⟩, .string ⟨#[97, 99, 116, 105, 118, 101]⟩, .string ⟨#[112, 97, 117, 115, 101, 100]⟩, .string ⟨#[101, 110, 100, 101, 100]⟩] 9 (0, 0))) 7).trans rfl
    have b17_11 : (w35.alloc (.cells #[.string ⟨#[110, 111, 116, 104, 105, 110, 103]⟩, .string ⟨#[97, 99, 116, 105, 118, 101]⟩, .string ⟨#[112, 97, 117, 115, 101, 100]⟩, .string ⟨#[101, 110, 100, 101, 100]⟩] 9 (0, 0))).cell? ⟨g17, 11, none⟩ = some (.int .i64 z.sp) := (blk_cell (blk_alloc B17.out (.cells #[.string ⟨#[110, 111, 116, 104, 105, 110, 103]⟩, .string ⟨#[97, 99, 116, 105, 118, 101]⟩, .string ⟨#[112, 97, 117, 115, 101, 100]⟩, .string ⟨#[101, 110, 100, 101, 100]⟩] 9 (0, 0))) 11).trans rfl
    have b11_4 : (w35.alloc (.cells #[.string ⟨#[110, 111, 116, 104, 105, 110, 103]⟩, .string ⟨#[97, 99, 116, 105, 118, 101]⟩, .string ⟨#[112, 97, 117, 115, 101, 100]⟩, .string ⟨#[101, 110, 100, 101, 100]⟩] 9 (0, 0))).cell? ⟨g11, 4, none⟩ = some (.int .i64 x.ct) := (blk_cell (blk_alloc B11.out (.cells #[.string ⟨#[110, 111, 116, 104, 105, 110, 103]⟩, .string ⟨#[97, 99, 116, 105, 118, 101]⟩, .string ⟨#[112, 97, 117, 115, 101, 100]⟩, .string ⟨#[101, 110, 100, 101, 100]⟩] 9 (0, 0))) 4).trans rfl
    have b11_7 : (w35.alloc (.cells #[.string ⟨#[110, 111, 116, 104, 105, 110, 103]⟩, .string ⟨#[97, 99, 116, 105, 118, 101]⟩, .string ⟨#[112, 97, 117, 115, 101, 100]⟩, .string ⟨#[101, 110, 100, 101, 100]⟩] 9 (0, 0))).cell? ⟨g11, 7, none⟩ = some (.slice A1 x.op.length c1) := (blk_cell (blk_alloc B11.out (.cells #[.string ⟨#[110, 111, 116, 104, 105, 110, 103]⟩, .string ⟨#[97, 99, 116, 105, 118, 101]⟩, .string ⟨#[112, 97, 117, 115, 101, 100]⟩, .string ⟨#[101, 110, 100, 101, 100]⟩] 9 (0, 0))) 7).trans rfl
    have b11_11 : (w35.alloc (.cells #[.string ⟨#[110, 111, 116, 104, 105, 110, 103]⟩, .string ⟨#[97, 99, 116, 105, 118, 101]⟩, .string ⟨#[112, 97, 117, 115, 101, 100]⟩, .string ⟨#[101, 110, 100, 101, 100]⟩] 9 (0, 0))).cell? ⟨g11, 11, none⟩ = some (.int .i64 x.sp) := (blk_cell (blk_alloc B11.out (.cells #[.string ⟨#[110, 111, 116, 104, 105, 110, 103]⟩, .string ⟨#[97, 99, 116, 105, 118, 101]⟩, .string ⟨#[112, 97, 117, 115, 101, 100]⟩, .string ⟨#[101, 110, 100, 101, 100]⟩] 9 (0, 0))) 11).trans rfl
    rw [hop] at b17_7
    replace HB := Aside0.mk (below_alloc HB.out (.cells #[.string ⟨#[110, 111, 116, 104, 105, 110, 103]⟩, .string ⟨#[97, 99, 116, 105, 118, 101]⟩, .string ⟨#[112, 97, 117, 115, 101, 100]⟩, .string ⟨#[101, 110, 100, 101, 100]⟩] 9 (0, 0)))
    clear B17 B11
    go_wp2_with fail
    with_reducible refine (account_Name.calls 3 ⟨#[101, 110, 100, 101, 100]⟩ _ (by kernel_rfl)).mono ?_
    rintro e wz ⟨rfl, hb⟩
    replace HB := hst_ HB hb
    clear hb
    go_wp2_with fail
    go_ret
    exact ⟨by first | rfl | simp, HB.out⟩
  · have b17_4 : w35.cell? ⟨g17, 4, none⟩ = some (.int .i64 z.ct) := (blk_cell B17.out 4).trans rfl
    have b17_7 : w35.cell? ⟨g17, 7, none⟩ = some (.slice A17 z.op.length c17) := (blk_cell B17.out 7).trans rfl
    have b17_11 : w35.cell? ⟨g17, 11, none⟩ = some (.int .i64 z.sp) := (blk_cell B17.out 11).trans rfl
    have b11_4 : w35.cell? ⟨g11, 4, none⟩ = some (.int .i64 x.ct) := (blk_cell B11.out 4).trans rfl
    have b11_7 : w35.cell? ⟨g11, 7, none⟩ = some (.slice A1 x.op.length c1) := (blk_cell B11.out 7).trans rfl
    have b11_11 : w35.cell? ⟨g11, 11, none⟩ = some (.int .i64 x.sp) := (blk_cell B11.out 11).trans rfl
    rw [hop] at b17_7
    clear B17 B11
    go_wp2_with fail
    with_reducible refine (account_Name.calls a3 ⟨#[]⟩ _ (by unfold account_Name.f; rw [if_pos h4, if_pos h3.2])).mono ?_
    rintro e wz ⟨rfl, hb⟩
    replace HB := hst_ HB hb
    clear hb
    go_wp2_with fail
    go_ret
    exact ⟨by first | rfl | simp, HB.out⟩
theorem accountRests_calls (a0 a1 a2 a3 : Int) (w : World) (w0 : (Lit.int .u8 a0).wf = true) (w1 : (Lit.int .u16 a1).wf = true) (w2 : (Lit.int .u8 a2).wf = true) (w3 : (Lit.int .u8 a3).wf = true) :
    Calls Try.prog 8 #[.int .u8 a0, .int .u16 a1, .int .u8 a2, .int .u8 a3] w fun e w' => e = .returned (.bool true) ∧ Below w.heap.size w w' := by
  have h0 := bounds_u8 w0
  have h1 := bounds_u16 w1
  have h2 := bounds_u8 w2
  have h3 := bounds_u8 w3
  obtain ⟨pr, un, ev, tr, go, la, hpl, hpr, hun, hev, htr⟩ := plan_some a0 h0.1 h0.2
  obtain ⟨p, hpq⟩ : ∃ p : Pl, p = ⟨pr, un, ev, tr, go, la⟩ := ⟨_, rfl⟩
  have hpl' : paybookref12_Plan.f a0 = some (p.pr, p.un, p.ev, p.tr, p.go, p.la) := by rw [hpq]; exact hpl
  have hp : p.Ok := by rw [hpq]; exact ⟨⟨by show (0 : Int) ≤ pr; omega, by show pr ≤ 1073741824; omega⟩, hun, ⟨hev.1, by show ev ≤ 1000; omega⟩⟩
  have hptr : 0 ≤ p.tr ∧ p.tr ≤ 10 := by rw [hpq]; exact htr
  have hpev : p.ev ≤ 3 := by rw [hpq]; exact hev.2
  clear hpl hpr hun hev htr hpq
  obtain ⟨fr, hfr⟩ : ∃ fr, 700000 + a1 = fr := ⟨_, rfl⟩
  have hfb : 700000 ≤ fr ∧ fr ≤ 765535 := by omega
  obtain ⟨y, m, d, hv, ha⟩ := day_of (fr + p.tr) (by omega) (by omega)
  obtain ⟨x, hx, F⟩ := first_day p hp fr (by omega) hptr hpev y m d hv ha
  have hlen := F.len
  have hop : account_Open.f 0 p.pr p.un p.ev p.tr p.go p.la fr = some ((newA 0 (fr + p.tr)).st, (newA 0 (fr + p.tr)).pl, (newA 0 (fr + p.tr)).an, (newA 0 (fr + p.tr)).ix, (newA 0 (fr + p.tr)).ct, (newA 0 (fr + p.tr)).cr, (newA 0 (fr + p.tr)).sk, (newA 0 (fr + p.tr)).op, (newA 0 (fr + p.tr)).dn, (newA 0 (fr + p.tr)).up, (newA 0 (fr + p.tr)).rf, (newA 0 (fr + p.tr)).sp, (newA 0 (fr + p.tr)).pd) := by
    unfold account_Open.f
    rw [show wrap64 (fr + p.tr) = fr + p.tr from by unfold wrap64; omega]
    rfl
  obtain ⟨yy, hyy⟩ : ∃ yy : Ac, yy = { x with st := 2 } := ⟨_, rfl⟩
  have hy : pauseF x = some (yy.t 0) := by rw [pause_eq x (by omega), if_pos F.st, hyy]
  have yst : yy.st = 2 := by rw [hyy]
  have yop : yy.op = x.op := by rw [hyy]
  have yok : yy.Ok := by rw [hyy]; exact ⟨F.ok.ct, F.ok.ix, F.ok.cr, F.ok.dn, F.ok.up, F.ok.rf, F.ok.sp, F.ok.pd, F.ok.op⟩
  have ynum : yy.ix = x.ix ∧ yy.ct = x.ct ∧ yy.sp = x.sp ∧ yy.an = x.an ∧ yy.sk = x.sk := by rw [hyy]; exact ⟨rfl, rfl, rfl, rfl, rfl⟩
  have hyy8 : pauseF yy = some (noA.t 8) := by rw [pause_eq yy (by rw [yop]; omega), if_neg (by omega)]
  obtain ⟨j, hj, hrun⟩ := rest_run p hp y m d (fr + a2) (fr + p.tr) hv ha 300 yy 29999 (by omega) yst (by rw [ynum.2.2.2.1]; exact F.an) (by rw [ynum.2.2.2.2]; exact F.sk) (by have := F.ix; omega) yok (by have := F.ct; omega) (by have := F.sp; omega) (by have := F.ix; omega)
  obtain ⟨z, hz⟩ : ∃ z : Ac, z = { yy with ix := yy.ix + j, ct := yy.ct + j, sp := yy.sp + j } := ⟨_, rfl⟩
  rw [← hz] at hrun
  have hwk : yy.op.map (wakeC (fr + a2)) = yy.op := by
    rw [yop]
    rcases F.op with e | ⟨c, e, hc⟩
    · rw [e]; rfl
    · rw [e]
      show [wakeC (fr + a2) c] = [c]
      unfold wakeC
      rw [if_neg (by omega)]
  have hzd : dayF 30603 yy p (fr + a2) = some (z.t 0) := by
    have hd := day_eq (30601 - yy.op.length + 1) yy p (fr + a2) (by rw [yop]; omega)
    rw [hwk, show ({ yy with op := yy.op } : Ac) = yy from rfl, show 30601 - yy.op.length + 1 + yy.op.length + 1 = 30603 from by rw [yop]; omega] at hd
    rw [hd]
    have hm : ∀ q, 29999 + 2 * 300 + 2 ≤ q → dayL1 q (fr + a2) yy p = some (z.t 0) := by
      intro q hq
      obtain ⟨e, rfl⟩ : ∃ e, q = 29999 + 2 * 300 + 2 + e := ⟨q - (29999 + 2 * 300 + 2), by omega⟩
      induction e with
      | zero => exact hrun
      | succ e ih => exact (account_Day.mono_l _).2.1 _ _ _ _ _ _ _ _ _ _ _ _ _ _ _ _ _ _ _ _ _ (ih (by omega))
    exact hm _ (by rw [yop]; omega)
  have zop : z.op = x.op := by rw [hz]; exact yop
  have zst : z.st = 2 := by rw [hz]; exact yst
  have znum : z.ct = x.ct + j ∧ z.sp = x.sp + j ∧ z.sk = false := by rw [hz]; exact ⟨by show yy.ct + j = _; rw [ynum.2.1], by show yy.sp + j = _; rw [ynum.2.2.1], by show yy.sk = _; rw [ynum.2.2.2.2]; exact F.sk⟩
  obtain ⟨v, hvv⟩ : ∃ v : Ac, v = { z with st := 1 } := ⟨_, rfl⟩
  have hv1 : resumeF z = some (v.t 0) := by rw [resume_eq z (by rw [zop]; omega), if_pos zst, hvv]
  have vst : v.st = 1 := by rw [hvv]
  have vop : v.op = x.op := by rw [hvv]; exact zop
  have vsk : v.sk = false := by rw [hvv]; exact znum.2.2
  have hv8 : resumeF v = some (noA.t 8) := by rw [resume_eq v (by rw [vop]; omega), if_neg (by omega)]
  obtain ⟨en, hen⟩ : ∃ en : Ac, en = { v with st := 3 } := ⟨_, rfl⟩
  have he : cancelF 10 v = some (en.t 0) := by rw [cancel_live v vst (by rw [vop]; exact F.op), hen]
  have est : en.st = 3 := by rw [hen]
  have eop : en.op = x.op := by rw [hen]; exact vop
  obtain ⟨s, hs⟩ : ∃ s : Ac, s = { v with sk := true } := ⟨_, rfl⟩
  have hs1 : skipF v = some (s.t 0) := by rw [skip_live v (by rw [vop]; omega) vst vsk, hs]
  have hs8 : skipF s = some (noA.t 8) := skip_again s (by rw [hs]; exact vst) (by rw [hs])
  have hep : pauseF en = some (noA.t 8) := by rw [pause_eq en (by rw [eop]; omega), if_neg (by omega)]
  have F1 := F.ct
  have F2 := F.sp
  clear hz hyy hvv hen hs hwk hrun
  subst hfr
  exact rests_walk a0 a1 a2 a3 p (newA 0 (700000 + a1 + p.tr)) x yy z v en s w h0 h1 h2 h3 ⟨hpl'⟩ ⟨hop⟩ ⟨hx⟩ ⟨hy⟩ ⟨hyy8⟩ ⟨hzd⟩ ⟨hv1⟩ ⟨hv8⟩ ⟨he⟩ ⟨cancel_dead en est⟩ ⟨skip_dead en est⟩ ⟨est⟩ ⟨hep⟩ ⟨hs1⟩ ⟨hs8⟩ zop (by omega) (by omega) (by omega) (by omega) (by omega)
end Go.Proofs.Ytnpcodfeggcdbaa.Pure
