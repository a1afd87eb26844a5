/- Amounts as texts: what money and Amount compute, for every input. -/
import Derived.Test.YtnpcodfeggcdbaaDoorTxt
import Derived.Test.YtnpcodfeggcdbaaDoorShelf
import Derived.Test.YtnpcodfeggcdbaaDoorPMnyn
import Derived.Lib.AppendIntMem
import Derived.Laws.RangeAny
import Derived.WalkMore
import Derived.OpenShut
set_option linter.unusedVariables false
set_option linter.unusedSimpArgs false
namespace Go.Proofs.YtnpcodfeggcdbaaDoor.Pure
open Go.RowKit Go.Proofs.YtnpcodfeggcdbaaDoor.PMny Go.Proofs.YtnpcodfeggcdbaaDoorW.PrintWords Go.Proofs.YtnpcodfeggcdbaaDoorW.PrintLast
open Go.Proofs.YtnpcodfeggcdbaaDoor Go.Proofs.YtnpcodfeggcdbaaDoorW.PrintMore
theorem str_app (a b : List UInt8) : ((⟨a.toArray⟩ : ByteArray) ++ (⟨b.toArray⟩ : ByteArray)) = ⟨(a ++ b).toArray⟩ := by
  apply ByteArray.ext
  simp [ByteArray.data_append]
theorem ret_str {a b : ByteArray} (h : a = b) : Ending.returned (.string a) = .returned (.string b) := by rw [h]
theorem dg_nat (n : Int) (h0 : 0 ≤ n) (h1 : n ≤ 9) : (Txt.dg n).toNat = 48 + n.toNat := by
  unfold Txt.dg
  rw [UInt8.toNat_ofNat']
  omega
/-- The digits of a number from 0 on; an amount's text. -/
def dgs (n : Int) : List UInt8 := Lib.decDigits n.toNat
def mny0 (n : Int) : List UInt8 := dgs (n / 100) ++ ([46] ++ Txt.t2 (n % 100))
def mny (n : Int) : List UInt8 := if n < 0 then 45 :: mny0 (-n) else mny0 n
def B (l : List UInt8) : ByteArray := ⟨l.toArray⟩
theorem B_app (a b : List UInt8) : B a ++ B b = B (a ++ b) := str_app a b
theorem B_list (s : ByteArray) : B s.data.toList = s := by unfold B; rw [Array.toArray_toList]
theorem B_size (l : List UInt8) : (B l).size = l.length := by show l.toArray.size = _; simp
theorem dgs_step (n : Int) (h : 10 ≤ n) : dgs n = dgs (n / 10) ++ [Txt.dg (n % 10)] := by
  unfold dgs
  rw [Lib.decDigits, dif_neg (by omega)]
  have e1 : (n / 10).toNat = n.toNat / 10 := by omega
  have e2 : (n % 10).toNat = n.toNat % 10 := by omega
  unfold Txt.dg
  rw [e1, e2]
theorem dgs_one (n : Int) (h0 : 0 ≤ n) (h : n < 10) : dgs n = [Txt.dg n] := by
  unfold dgs Txt.dg
  rw [Lib.decDigits_one (by omega)]
theorem dgs_len (n : Int) (h0 : 0 ≤ n) (h1 : n ≤ 9223372036854775807) : (dgs n).length ≤ 19 := by
  have key : ∀ (k : Nat) (n : Int), 0 ≤ n → n < 10 ^ k → 0 < k → (dgs n).length ≤ k := by
    intro k
    induction k with
    | zero => intro n _ _ h; omega
    | succ k ih =>
      intro n h0 h1 _
      by_cases h : n < 10
      · rw [dgs_one n h0 h]; simp
      · rw [dgs_step n (by omega), List.length_append, List.length_singleton]
        by_cases hk : k = 0
        · subst hk; simp at h1; omega
        · have h2 : n / 10 < 10 ^ k := by
            rw [Int.pow_succ] at h1
            exact Int.ediv_lt_of_lt_mul (by omega) h1
          have := ih (n / 10) (by omega) h2 (by omega)
          omega
  exact key 19 n h0 (by omega) (by omega)
theorem t2_len (n : Int) : (Txt.t2 n).length = 2 := rfl
theorem mny0_len (n : Int) (h0 : 0 ≤ n) (h1 : n ≤ 9223372036854775807) : (mny0 n).length ≤ 22 := by
  have := dgs_len (n / 100) (by omega) (by omega)
  unfold mny0
  rw [List.length_append, List.length_append, t2_len]
  simp
  omega
/-- Two digits, out of one or two. -/
theorem cents_two (i : Nat) (h : i < 100) : (if i < 10 then [48] else []) ++ Lib.decDigits i = Txt.t2 i := by
  unfold Txt.t2 Txt.dg
  by_cases h1 : i < 10
  · rw [Lib.decDigits_one h1, if_pos h1]
    have e1 : ((i : Int) / 10 % 10).toNat = 0 := by omega
    have e2 : ((i : Int) % 10).toNat = i := by omega
    rw [e1, e2]; rfl
  · rw [Lib.decDigits_two h1 h, if_neg h1]
    have e1 : ((i : Int) / 10 % 10).toNat = i / 10 := by omega
    have e2 : ((i : Int) % 10).toNat = i % 10 := by omega
    rw [e1, e2]; rfl
/-- The table of powers of ten stays as it is, whatever is made behind. -/
def TB (w : World) : Prop := ∀ w', Below w.heap.size w w' → Lib.TabIs Tryd.prog w' "internal/strconv.uint64pow10" .u64 Lib.pow10Tab
theorem TB.step {w w1 : World} (h : TB w) (hb : Below w.heap.size w w1) : TB w1 := fun w' hb' => h w' (below_step hb hb')
theorem fmt_calls (n : Int) (w : World) (h0 : 0 ≤ n) (h1 : n ≤ 9223372036854775807) (ht : TB w) :
    Calls Tryd.prog 21 #[.int .i64 n, .int .i64 10] w fun e w' => e = .returned (.string (B (dgs n))) ∧ Below w.heap.size w w' := by
  refine (Tryd.strconv_FormatInt_10 n (by omega) h1 w (ht w (Below.refl _ _))).mono ?_
  rintro e w' ⟨rfl, k, os, rfl⟩
  refine ⟨?_, Lib.below_grow _ w (Nat.le_refl _) k os⟩
  unfold Lib.itoa; rw [if_neg (by omega)]; rfl
set_option maxHeartbeats 4000000 in
theorem money_pos (n : Int) (w : World) (h0 : 0 ≤ n) (h1 : n ≤ 9223372036854775807) (ht : TB w) :
    Calls Tryd.prog 9 #[.int .i64 n] w fun e w' => e = .returned (.string (B (mny n))) ∧ Below w.heap.size w w' := by
  have HT := Aside0.mk ht
  clear ht
  have e1 : Int.tmod n 100 = n % 100 := Int.tmod_eq_emod_of_nonneg h0
  have e2 : Int.tdiv n 100 = n / 100 := Int.tdiv_eq_ediv_of_nonneg h0
  have hl1 : (dgs (n % 100)).length ≤ 2 := by
    unfold dgs
    by_cases h : (n % 100).toNat < 10
    · rw [Lib.decDigits_one h]; simp
    · rw [Lib.decDigits_two h (by omega)]; simp
  have hl2 := dgs_len (n / 100) (by omega) (by omega)
  obtain ⟨c, hc⟩ : ∃ c, c = dgs (n % 100) := ⟨_, rfl⟩
  obtain ⟨q, hq⟩ : ∃ q, q = dgs (n / 100) := ⟨_, rfl⟩
  rw [← hc] at hl1
  rw [← hq] at hl2
  have hcs : (B c).size = c.length := B_size c
  have hqs : (B q).size = q.length := B_size q
  have fin : ∀ l : List UInt8, l = Txt.t2 (n % 100) → mny n = q ++ ([46] ++ l) := by
    intro l hl
    unfold mny mny0
    rw [if_neg (by omega), hl, hq]
  have hct := cents_two (n % 100).toNat (by omega)
  rw [show (((n % 100).toNat : Nat) : Int) = n % 100 by omega] at hct
  have hct2 : (if (n % 100).toNat < 10 then [48] else []) ++ c = Txt.t2 (n % 100) := by rw [hc]; exact hct
  clear hct
  have FIN := Aside0.mk fin
  have HCT := Aside0.mk hct2
  clear fin hct2
  have hclen : c.length = 1 ∧ (n % 100).toNat < 10 ∨ c.length = 2 ∧ ¬ (n % 100).toNat < 10 := by
    rw [hc]; unfold dgs
    by_cases h : (n % 100).toNat < 10
    · rw [Lib.decDigits_one h]; simp; omega
    · rw [Lib.decDigits_two h (by omega)]; simp; omega
  have HC := Aside0.mk hc
  have HQ := Aside0.mk hq
  clear hc hq
  go_enter Tryd.func9, Tryd.ntmps9
  go_wp2_with fail
  with_reducible refine (fmt_calls _ _ (by omega) (by omega) HT.out).mono ?_
  rintro e w1 ⟨rfl, hb⟩
  have GB := Aside0.mk hb
  clear hb
  rw [← HC.out]
  have cls : ∀ (t : List UInt8), (if (n % 100).toNat < 10 then [48] else []) ++ c = t → t.length = 2 → (B q ++ (⟨#[46]⟩ : ByteArray)) ++ B t = B (mny n) := by
    intro t ht hl
    rw [show (⟨#[46]⟩ : ByteArray) = B [46] from rfl, B_app, B_app, FIN.out t (ht ▸ HCT.out), List.append_assoc]
  have CLS := Aside0.mk cls
  clear cls
  have hqd : (B q ++ (⟨#[46]⟩ : ByteArray)).size = q.length + 1 := by rw [show (⟨#[46]⟩ : ByteArray) = B [46] from rfl, B_app, B_size]; simp
  rcases hclen with ⟨hc1, hc2⟩ | ⟨hc1, hc2⟩
  · have hcc : (⟨#[48]⟩ : ByteArray) ++ B c = B (48 :: c) := B_app [48] c
    have hcz : (B (48 :: c)).size = 2 := by rw [B_size, List.length_cons, hc1]
    go_wp2_with fail
    with_reducible refine (fmt_calls _ _ (by omega) (by omega) (HT.out.step GB.out)).mono ?_
    rintro e w2 ⟨rfl, hb⟩
    replace GB := Aside0.mk (below_step GB.out hb)
    clear hb
    rw [← HQ.out]
    go_wp2_with fail
    go_ret
    exact ⟨ret_str (by first | exact CLS.out (48 :: c) (by rw [if_pos hc2]; rfl) (by simp [hc1]) | (have := CLS.out (48 :: c) (by rw [if_pos hc2]; rfl) (by simp [hc1]); simpa using this)), GB.out⟩
  · go_wp2_with fail
    with_reducible refine (fmt_calls _ _ (by omega) (by omega) (HT.out.step GB.out)).mono ?_
    rintro e w2 ⟨rfl, hb⟩
    replace GB := Aside0.mk (below_step GB.out hb)
    clear hb
    rw [← HQ.out]
    go_wp2_with fail
    go_ret
    exact ⟨ret_str (by first | exact CLS.out c (by rw [if_neg hc2]; rfl) hc1 | (have := CLS.out c (by rw [if_neg hc2]; rfl) hc1; simpa using this)), GB.out⟩
set_option maxHeartbeats 4000000 in
theorem money_neg (m n : Int) (w : World) (hmn : m = -n) (h0 : 0 < n) (h1 : n ≤ 9223372036854775807) (ht : TB w) :
    Calls Tryd.prog 9 #[.int .i64 m] w fun e w' => e = .returned (.string (B (mny m))) ∧ Below w.heap.size w w' := by
  have HT := Aside0.mk ht
  clear ht
  have e1 : Int.tmod n 100 = n % 100 := Int.tmod_eq_emod_of_nonneg (by omega)
  have e2 : Int.tdiv n 100 = n / 100 := Int.tdiv_eq_ediv_of_nonneg (by omega)
  have hl1 : (dgs (n % 100)).length ≤ 2 := by
    unfold dgs
    by_cases h : (n % 100).toNat < 10
    · rw [Lib.decDigits_one h]; simp
    · rw [Lib.decDigits_two h (by omega)]; simp
  have hl2 := dgs_len (n / 100) (by omega) (by omega)
  obtain ⟨c, hc⟩ : ∃ c, c = dgs (n % 100) := ⟨_, rfl⟩
  obtain ⟨q, hq⟩ : ∃ q, q = dgs (n / 100) := ⟨_, rfl⟩
  rw [← hc] at hl1
  rw [← hq] at hl2
  have hcs : (B c).size = c.length := B_size c
  have hqs : (B q).size = q.length := B_size q
  have fin : ∀ l : List UInt8, l = Txt.t2 (n % 100) → mny m = 45 :: (q ++ ([46] ++ l)) := by
    intro l hl
    unfold mny mny0
    rw [if_pos (by omega), show -m = n by omega, hl, hq]
  have hct := cents_two (n % 100).toNat (by omega)
  rw [show (((n % 100).toNat : Nat) : Int) = n % 100 by omega] at hct
  have hct2 : (if (n % 100).toNat < 10 then [48] else []) ++ c = Txt.t2 (n % 100) := by rw [hc]; exact hct
  clear hct
  have FIN := Aside0.mk fin
  have HCT := Aside0.mk hct2
  clear fin hct2
  have hclen : c.length = 1 ∧ (n % 100).toNat < 10 ∨ c.length = 2 ∧ ¬ (n % 100).toNat < 10 := by
    rw [hc]; unfold dgs
    by_cases h : (n % 100).toNat < 10
    · rw [Lib.decDigits_one h]; simp; omega
    · rw [Lib.decDigits_two h (by omega)]; simp; omega
  have HC := Aside0.mk hc
  have HQ := Aside0.mk hq
  clear hc hq
  have hm0 : m < 0 := by omega
  have hmm : -m = n := by omega
  go_enter Tryd.func9, Tryd.ntmps9
  go_wp2_with fail
  with_reducible refine (fmt_calls _ _ (by omega) (by omega) HT.out).mono ?_
  rintro e w1 ⟨rfl, hb⟩
  have GB := Aside0.mk hb
  clear hb
  rw [← HC.out]
  have cls : ∀ (t : List UInt8), (if (n % 100).toNat < 10 then [48] else []) ++ c = t → t.length = 2 → (((⟨#[45]⟩ : ByteArray) ++ B q) ++ (⟨#[46]⟩ : ByteArray)) ++ B t = B (mny m) := by
    intro t ht hl
    rw [show (⟨#[46]⟩ : ByteArray) = B [46] from rfl, show (⟨#[45]⟩ : ByteArray) = B [45] from rfl, B_app, B_app, B_app, FIN.out t (ht ▸ HCT.out)]; simp
  have CLS := Aside0.mk cls
  clear cls
  have hqd : (((⟨#[45]⟩ : ByteArray) ++ B q) ++ (⟨#[46]⟩ : ByteArray)).size = q.length + 2 := by rw [show (⟨#[46]⟩ : ByteArray) = B [46] from rfl, show (⟨#[45]⟩ : ByteArray) = B [45] from rfl, B_app, B_app, B_size]; simp
  have hqe : ((⟨#[45]⟩ : ByteArray) ++ B q).size = q.length + 1 := by rw [show (⟨#[45]⟩ : ByteArray) = B [45] from rfl, B_app, B_size]; simp
  rcases hclen with ⟨hc1, hc2⟩ | ⟨hc1, hc2⟩
  · have hcc : (⟨#[48]⟩ : ByteArray) ++ B c = B (48 :: c) := B_app [48] c
    have hcz : (B (48 :: c)).size = 2 := by rw [B_size, List.length_cons, hc1]
    go_wp2_with fail
    with_reducible refine (fmt_calls _ _ (by omega) (by omega) (HT.out.step GB.out)).mono ?_
    rintro e w2 ⟨rfl, hb⟩
    replace GB := Aside0.mk (below_step GB.out hb)
    clear hb
    rw [← HQ.out]
    go_wp2_with fail
    go_ret
    exact ⟨ret_str (by first | exact CLS.out (48 :: c) (by rw [if_pos hc2]; rfl) (by simp [hc1]) | (have := CLS.out (48 :: c) (by rw [if_pos hc2]; rfl) (by simp [hc1]); simpa using this)), GB.out⟩
  · go_wp2_with fail
    with_reducible refine (fmt_calls _ _ (by omega) (by omega) (HT.out.step GB.out)).mono ?_
    rintro e w2 ⟨rfl, hb⟩
    replace GB := Aside0.mk (below_step GB.out hb)
    clear hb
    rw [← HQ.out]
    go_wp2_with fail
    go_ret
    exact ⟨ret_str (by first | exact CLS.out c (by rw [if_neg hc2]; rfl) hc1 | (have := CLS.out c (by rw [if_neg hc2]; rfl) hc1; simpa using this)), GB.out⟩
theorem money_calls (n : Int) (w : World) (h0 : -9223372036854775807 ≤ n) (h1 : n ≤ 9223372036854775807) (ht : TB w) :
    Calls Tryd.prog 9 #[.int .i64 n] w fun e w' => e = .returned (.string (B (mny n))) ∧ Below w.heap.size w w' := by
  by_cases h : n < 0
  · exact money_neg n (-n) w (by omega) (by omega) (by omega) ht
  · exact money_pos n w (by omega) h1 ht
theorem num_one (K : Nat) (n : Int) (h0 : 0 ≤ n) (h : n < 10) : paybookref01_Num.f (K + 1) n = some (B (dgs n)) := by
  simp only [paybookref01_Num.f]
  rw [if_neg (by omega), if_pos h, dgs_one n h0 h]
  congr 1
  have e1 : wrap64 (48 + n) % 256 = 48 + n := by unfold wrap64; omega
  rw [e1]
  apply ByteArray.ext
  have f1 : (48 + n).toNat = 48 + n.toNat := by omega
  simp [strOfNums, B, Txt.dg, f1]
theorem num_more (K : Nat) (n : Int) (h0 : 0 ≤ n) (hm : n ≤ 9223372036854775807) (h : ¬ n < 10) (ih : paybookref01_Num.f K (n / 10) = some (B (dgs (n / 10)))) : paybookref01_Num.f (K + 1) n = some (B (dgs n)) := by
  simp only [paybookref01_Num.f]
  have e1 : Int.tdiv n 10 = n / 10 := Int.tdiv_eq_ediv_of_nonneg h0
  have e2 : wrap64 (n / 10) = n / 10 := by unfold wrap64; omega
  have e3 : Int.tmod n 10 = n % 10 := Int.tmod_eq_emod_of_nonneg h0
  have e4 : wrap64 (48 + n % 10) % 256 = 48 + n % 10 := by unfold wrap64; omega
  rw [if_neg (by omega), if_neg h, e1, e2, e3, e4, ih]
  have f1 : (48 + n % 10).toNat = 48 + (n % 10).toNat := by omega
  have hs : strOfNums [48 + n % 10] = B [Txt.dg (n % 10)] := by
    apply ByteArray.ext
    simp [strOfNums, B, Txt.dg, f1]
  simp only [Option.bind_some, hs]
  have hl := dgs_len (n / 10) (by omega) (by omega)
  rw [if_pos (by rw [B_size, B_size]; simp; omega), B_app, dgs_step n (by omega)]
theorem num_f : ∀ (k : Nat) (n : Int), 0 ≤ n → n ≤ 9223372036854775807 → n < 10 ^ k → paybookref01_Num.f (k + 1) n = some (B (dgs n)) := by
  intro k
  induction k with
  | zero => intro n h0 _ h1; simp at h1; exact num_one 0 n h0 (by omega)
  | succ k ih =>
    intro n h0 hm h1
    by_cases h : n < 10
    · exact num_one (k + 1) n h0 h
    · exact num_more (k + 1) n h0 hm h (ih (n / 10) (by omega) (by omega) (by rw [Int.pow_succ] at h1; exact Int.ediv_lt_of_lt_mul (by omega) h1))
theorem two_f (n : Int) (h0 : 0 ≤ n) (h1 : n ≤ 9999) : paybookref01_Two.f n = some (B (Txt.t2 n)) := by
  unfold paybookref01_Two.f
  congr 1
  have e1 : Int.tdiv n 10 = n / 10 := Int.tdiv_eq_ediv_of_nonneg h0
  have e2 : wrap64 (n / 10) = n / 10 := (by unfold wrap64; omega)
  have e3 : Int.tmod (n / 10) 10 = n / 10 % 10 := Int.tmod_eq_emod_of_nonneg (by omega)
  have e4 : Int.tmod n 10 = n % 10 := Int.tmod_eq_emod_of_nonneg h0
  have e5 : wrap64 (48 + n / 10 % 10) = 48 + n / 10 % 10 := (by unfold wrap64; omega)
  have e6 : wrap64 (48 + n % 10) = 48 + n % 10 := (by unfold wrap64; omega)
  rw [e1, e2, e3, e4, e5, e6]
  apply ByteArray.ext
  have f1 : ((48 + n / 10 % 10) % 256).toNat = 48 + (n / 10 % 10).toNat := by omega
  have f2 : ((48 + n % 10) % 256).toNat = 48 + (n % 10).toNat := by omega
  simp [strOfNums, B, Txt.t2, Txt.dg, f1, f2]
theorem num_calls (n : Int) (w : World) (h0 : 0 ≤ n) (h1 : n ≤ 9223372036854775807) :
    Calls Tryd.prog 12 #[.int .i64 n] w fun e w' => e = .returned (.string (B (dgs n))) ∧ Below w.heap.size w w' :=
  paybookref01_Num.calls 20 n _ w (num_f 19 n h0 h1 (by omega))
theorem two_calls (n : Int) (w : World) (h0 : 0 ≤ n) (h1 : n ≤ 9999) :
    Calls Tryd.prog 24 #[.int .i64 n] w fun e w' => e = .returned (.string (B (Txt.t2 n))) ∧ Below w.heap.size w w' :=
  paybookref01_Two.calls n _ w (two_f n h0 h1)
set_option maxHeartbeats 1000000 in
theorem lmoney_pos (n : Int) (w : World) (h0 : 0 ≤ n) (h1 : n ≤ 9223372036854775807) :
    Calls Tryd.prog 11 #[.int .i64 n] w fun e w' => e = .returned (.string (B (mny0 n))) ∧ Below w.heap.size w w' := by
  have hl := dgs_len (n / 100) (by omega) (by omega)
  have hs1 : (B (dgs (n / 100))).size = (dgs (n / 100)).length := B_size _
  have hs2 : (B (Txt.t2 (n % 100))).size = 2 := B_size _
  have hs3 : (B (dgs (n / 100)) ++ (⟨#[46]⟩ : ByteArray)).size = (dgs (n / 100)).length + 1 := by rw [show (⟨#[46]⟩ : ByteArray) = B [46] from rfl, B_app, B_size]; simp
  go_enter Tryd.func11, Tryd.ntmps11
  go_wp2_with fail
  with_reducible refine (num_calls _ _ (by omega) (by omega)).mono ?_
  rintro e w1 ⟨rfl, hb⟩
  have GB := Aside0.mk hb
  clear hb
  go_wp2_with fail
  with_reducible refine (two_calls _ _ (by omega) (by omega)).mono ?_
  rintro e w2 ⟨rfl, hb⟩
  replace GB := Aside0.mk (below_step GB.out hb)
  clear hb
  go_wp2_with fail
  go_ret
  refine ⟨ret_str ?_, GB.out⟩
  rw [show (⟨#[46]⟩ : ByteArray) = B [46] from rfl, B_app, B_app]
  unfold mny0
  rw [List.append_assoc]
set_option maxHeartbeats 1000000 in
theorem lmoney_calls (n : Int) (w : World) (h0 : -4611686018427387904 ≤ n) (h1 : n ≤ 4611686018427387904) :
    Calls Tryd.prog 11 #[.int .i64 n] w fun e w' => e = .returned (.string (B (mny n))) ∧ Below w.heap.size w w' := by
  unfold mny
  by_cases h : n < 0
  · rw [if_pos h]
    have hl := mny0_len (-n) (by omega) (by omega)
    have hs1 : (B (mny0 (-n))).size = (mny0 (-n)).length := B_size _
    go_enter Tryd.func11, Tryd.ntmps11
    go_wp2_with fail
    with_reducible refine (lmoney_pos _ _ (by omega) (by omega)).mono ?_
    rintro e w1 ⟨rfl, hb⟩
    have GB := Aside0.mk hb
    clear hb
    go_wp2_with fail
    go_ret
    exact ⟨ret_str (by rw [show (⟨#[45]⟩ : ByteArray) = B [45] from rfl, B_app]; rfl), GB.out⟩
  · rw [if_neg h]
    exact lmoney_pos n w (by omega) (by omega)
/-- The digits of a text, gathered; none: a sign is no digit, or they were too many. -/
def scan : List UInt8 → Int → Option Int
  | [], a => some a
  | c :: r, a => if c.toNat = 46 then scan r a else if c.toNat < 48 ∨ 57 < c.toNat ∨ 1125899906842624 < a then none else scan r (10 * a + (c.toNat - 48))
def trim (l : List UInt8) : List UInt8 := Lib.trimPrefix l [45]
/-- What a text's amount is read as. -/
def amt (l : List UInt8) : Int × Int := match scan (trim l) 0 with
  | none => (0, 4)
  | some a => let n := if Lib.hasPrefix l [45] then -a else a
    if mny n ≠ l then (0, 4) else if 1125899906842624 < n ∨ n < -1125899906842624 then (0, 9) else (n, 0)
theorem scan_bd : ∀ (l : List UInt8) (a r : Int), 0 ≤ a → a ≤ 11258999068426249 → scan l a = some r → 0 ≤ r ∧ r ≤ 11258999068426249
  | [], a, r, h0, h1, h => by simp [scan] at h; omega
  | c :: l, a, r, h0, h1, h => by
    simp only [scan] at h
    split at h
    · exact scan_bd l a r h0 h1 h
    · split at h
      · cases h
      · exact scan_bd l _ r (by omega) (by omega) h
theorem toL (s : ByteArray) : s.toList = s.data.toList := Lib.toList_data s
theorem get_data (s : ByteArray) (k : Nat) (h : k < s.size) : s.data.toList.drop k = (s[k]'h) :: s.data.toList.drop (k + 1) := by
  have hl : k < s.data.toList.length := by rw [Array.length_toList]; exact h
  rw [List.drop_eq_getElem_cons hl]
  rfl
set_option maxHeartbeats 4000000 in
theorem amount_calls (s : ByteArray) (w : World) (ht : TB w) :
    Calls Tryd.prog 10 #[.string s] w fun e w' => e = .returned (.tuple #[.int .i64 (amt s.data.toList).1, .int .i64 (amt s.data.toList).2]) ∧ Below w.heap.size w w' := by
  have HT := Aside0.mk ht
  clear ht
  obtain ⟨R, hR⟩ : ∃ R, scan (trim s.data.toList) 0 = R := ⟨_, rfl⟩
  obtain ⟨x, hx⟩ : ∃ x : ByteArray, (⟨(Lib.trimPrefix s.data.toList ([45] : List UInt8)).toArray⟩ : ByteArray) = x := ⟨_, rfl⟩
  have hxs : x.data.toList = trim s.data.toList := by rw [← hx]; simp [trim]
  rw [← hxs] at hR
  have HXS := Aside0.mk hxs
  have HX := Aside0.mk hx
  have HR := Aside0.mk hR
  clear hxs hx hR
  go_enter Tryd.func10, Tryd.ntmps10
  go_wp2_with fail
  with_reducible refine (Tryd.strings_TrimPrefix s ⟨#[45]⟩ _).mono ?_
  rintro e w' ⟨rfl, hw'⟩
  rw [hw']
  clear hw' w'
  rw [show (⟨(Lib.trimPrefix s.data.toList (⟨#[45]⟩ : ByteArray).data.toList).toArray⟩ : ByteArray) = x from HX.out]
  go_wp2_with fail
  go_loopg [4] x.size (fun kq t4 wr => ∃ (k : Nat) (a : Int), t4 = .int .i64 a ∧ k ≤ x.size ∧ Aside0 (x.size - k ≤ kq) ∧ (0 ≤ a ∧ a ≤ 11258999068426249) ∧ Aside0 (scan (x.data.toList.drop k) a = R) ∧ wr = w.iter x k)
  case atStart => exact ⟨0, 0, rfl, by omega, ⟨by omega⟩, by omega, HR, rfl⟩
  case round =>
    obtain ⟨k, a, rfl, hk, HM, ha, HS, rfl⟩ := hrel
    have GB : Aside0 (∀ q, Below w.heap.size w (w.iter x q)) := ⟨fun q => below_alloc (Below.refl _ _) _⟩
    by_cases hk2 : k < x.size
    · have hsc := HS.out
      rw [get_data x k hk2] at hsc
      simp only [scan] at hsc
      have HSC := Aside0.mk hsc
      clear hsc HS
      have NONE : Aside0 (¬ (x[k]'hk2).toNat = 46 → ((x[k]'hk2).toNat < 48 ∨ 57 < (x[k]'hk2).toNat ∨ 1125899906842624 < a) → amt s.data.toList = (0, 4)) := by
        constructor
        intro h1 h2
        have h3 := HSC.out
        rw [if_neg h1, if_pos h2] at h3
        unfold amt
        rw [← HXS.out, HR.out, ← h3]
      by_cases has : (x[k]'hk2).toNat < 128
      · obtain ⟨bi, hbi⟩ : ∃ bi : Int, bi = ((x[k]'hk2).toNat : Int) := ⟨_, rfl⟩
        have hb0 : 0 ≤ bi ∧ bi ≤ 127 := by omega
        have hnx : ∀ ty, (Instr.next (.pointer (some ⟨w.heap.size, 0, none⟩)) true ty).run Tryd.prog (w.iter x k) = .ok (.tuple #[.bool true, .int .i64 k, .int .i32 bi]) (w.iter x (k + 1)) := by
          intro ty
          rw [hbi]
          exact run_next_ascii (P := Tryd.prog) w x k ty hk2 has
        have HBI := Aside0.mk hbi
        clear hbi has
        by_cases h46 : bi = 46
        · have hsc := HSC.out
          rw [if_pos (by have := HBI.out; omega)] at hsc
          have HSC2 := Aside0.mk hsc
          clear hsc
          have hbb : (bi == 46) = true := by rw [h46]; rfl
          go_wp2_with fail
          go_roundg (x.size - (k + 1))
          case measure => have := HM.out; omega
          case rel => exact ⟨k + 1, a, rfl, by omega, ⟨Nat.le_refl _⟩, ha, HSC2, rfl⟩
        · have hbb : (bi == 46) = false := by simpa using h46
          by_cases h48 : bi < 48
          · have hq1 : decide (bi < 48) = true := decide_eq_true h48
            have hr := NONE.out (by have := HBI.out; omega) (.inl (by have := HBI.out; omega))
            have HRR := Aside0.mk hr
            clear hr h48
            go_wp2_with fail
            try rw [Exit.noGoto_ret]
            go_ret2
            exact ⟨by first | (rw [HRR.out]; rfl) | rw [HRR.out], GB.out _⟩
          · by_cases h57 : 57 < bi
            · have hq1 : decide (bi < 48) = false := decide_eq_false h48
              have hq2 : decide (bi > 57) = true := decide_eq_true h57
              have hr := NONE.out (by have := HBI.out; omega) (.inr (.inl (by have := HBI.out; omega)))
              have HRR := Aside0.mk hr
              clear hr h48 h57
              go_wp2_with fail
              try rw [Exit.noGoto_ret]
              go_ret2
              exact ⟨by first | (rw [HRR.out]; rfl) | rw [HRR.out], GB.out _⟩
            · by_cases hmx : 1125899906842624 < a
              · have hq1 : decide (bi < 48) = false := decide_eq_false h48
                have hq2 : decide (bi > 57) = false := decide_eq_false (by omega)
                have hq3 : decide (a > 1125899906842624) = true := decide_eq_true hmx
                have hr := NONE.out (by have := HBI.out; omega) (.inr (.inr hmx))
                have HRR := Aside0.mk hr
                clear hr h48 h57 hmx
                go_wp2_with fail
                try rw [Exit.noGoto_ret]
                go_ret2
                exact ⟨by first | (rw [HRR.out]; rfl) | rw [HRR.out], GB.out _⟩
              · have hsc := HSC.out
                rw [if_neg (by have := HBI.out; omega), if_neg (by have := HBI.out; omega), ← HBI.out] at hsc
                have HSC2 := Aside0.mk hsc
                have hq1 : decide (bi < 48) = false := decide_eq_false h48
                have hq2 : decide (bi > 57) = false := decide_eq_false (by omega)
                have hq3 : decide (a > 1125899906842624) = false := decide_eq_false (by omega)
                clear hsc
                go_wp2_with fail
                go_roundg (x.size - (k + 1))
                case measure => have := HM.out; omega
                case rel => exact ⟨k + 1, 10 * a + (bi - 48), rfl, by omega, ⟨Nat.le_refl _⟩, by omega, HSC2, rfl⟩
      · obtain ⟨hr1, hr2⟩ := decode_high x k hk2 (by omega)
        obtain ⟨r, hr⟩ : ∃ r : Int, r = ((Utf8.decode x k).1 : Int) := ⟨_, rfl⟩
        obtain ⟨q, hq⟩ : ∃ q : Nat, q = k + (Utf8.decode x k).2 := ⟨_, rfl⟩
        have hnx : ∀ ty, (Instr.next (.pointer (some ⟨w.heap.size, 0, none⟩)) true ty).run Tryd.prog (w.iter x k) = .ok (.tuple #[.bool true, .int .i64 k, .int .i32 r]) (w.iter x q) := by
          intro ty
          have z := run_next_any (P := Tryd.prog) w x k ty hk2
          rw [← hr, ← hq] at z
          exact z
        have hbb : (r == 46) = false := by simp; omega
        have hq1 : decide (r < 48) = false := decide_eq_false (by omega)
        have hq2 : decide (r > 57) = true := decide_eq_true (by omega)
        have hr9 := NONE.out (by omega) (.inr (.inl (by omega)))
        have HRR := Aside0.mk hr9
        clear hr9 hr hq hr1 hr2 has
        go_wp2_with fail
        try rw [Exit.noGoto_ret]
        go_ret2
        exact ⟨by first | (rw [HRR.out]; rfl) | rw [HRR.out], GB.out _⟩
    · have hke : k = x.size := by omega
      have hRa : R = some a := by
        have h3 := HS.out
        rw [List.drop_eq_nil_of_le (by rw [Array.length_toList]; show x.size ≤ k; omega)] at h3
        exact h3.symm
      have hnx : ∀ ty, (Instr.next (.pointer (some ⟨w.heap.size, 0, none⟩)) true ty).run Tryd.prog (w.iter x k) = .ok (.tuple #[.bool false]) (w.iter x k) := fun ty => run_next_end (P := Tryd.prog) w x k ty hk2
      have HRA := Aside0.mk hRa
      clear hRa hke hk
      obtain ⟨hp, hhp⟩ : ∃ hp, Lib.hasPrefix s.data.toList [45] = hp := ⟨_, rfl⟩
      have HHP := Aside0.mk hhp
      clear hhp
      cases hp
      rotate_left
      · have hnb : -11258999068426249 ≤ (-a) ∧ (-a) ≤ 11258999068426249 := by omega
        have AMT : Aside0 (amt s.data.toList = if mny (-a) ≠ s.data.toList then (0, 4) else if 1125899906842624 < (-a) ∨ (-a) < -1125899906842624 then (0, 9) else ((-a), 0)) := by
          constructor
          unfold amt
          rw [← HXS.out, HR.out, HRA.out]
          show (if mny (if Lib.hasPrefix s.data.toList [45] = true then -a else a) ≠ _ then _ else _) = _
          simp only [HHP.out, if_true, Bool.false_eq_true, if_false]
        by_cases hm : mny (-a) = s.data.toList
        · have hbs : B (mny (-a)) = s := by rw [hm]; exact B_list s
          have HBS := Aside0.mk hbs
          have hm2 := AMT.out
          rw [if_neg (by simpa using hm)] at hm2
          have HM2 := Aside0.mk hm2
          clear hm2 hbs hm
          by_cases hbig : 1125899906842624 < (-a) ∨ (-a) < -1125899906842624
          · have hres := HM2.out
            rw [if_pos hbig] at hres
            have HRES := Aside0.mk hres
            clear hres
            rcases hbig with h1 | h1
            · have hc1 : decide ((-a) > 1125899906842624) = true := decide_eq_true h1
              go_wp2_with fail
              with_reducible refine (Tryd.strings_HasPrefix s ⟨#[45]⟩ _).mono ?_
              rintro e w' ⟨rfl, hw'⟩
              rw [hw']
              clear hw' w'
              rw [show Lib.hasPrefix s.data.toList (⟨#[45]⟩ : ByteArray).data.toList = true from HHP.out]
              go_wp2_with fail
              with_reducible refine (money_calls (-a) _ (by omega) (by omega) (HT.out.step (GB.out k))).mono ?_
              rintro e w3 ⟨rfl, hb⟩
              have GB3 := Aside0.mk (below_step (GB.out k) hb)
              clear hb
              rw [HBS.out]
              go_wp2_with fail
              all_goals (try rw [Exit.noGoto_ret])
              all_goals go_ret2
              all_goals exact ⟨by first | (rw [HRES.out]; rfl) | rw [HRES.out], GB3.out⟩
            · have hc1 : decide ((-a) > 1125899906842624) = false := decide_eq_false (by omega)
              have hc2 : decide ((-a) < -1125899906842624) = true := decide_eq_true h1
              go_wp2_with fail
              with_reducible refine (Tryd.strings_HasPrefix s ⟨#[45]⟩ _).mono ?_
              rintro e w' ⟨rfl, hw'⟩
              rw [hw']
              clear hw' w'
              rw [show Lib.hasPrefix s.data.toList (⟨#[45]⟩ : ByteArray).data.toList = true from HHP.out]
              go_wp2_with fail
              with_reducible refine (money_calls (-a) _ (by omega) (by omega) (HT.out.step (GB.out k))).mono ?_
              rintro e w3 ⟨rfl, hb⟩
              have GB3 := Aside0.mk (below_step (GB.out k) hb)
              clear hb
              rw [HBS.out]
              go_wp2_with fail
              all_goals (try rw [Exit.noGoto_ret])
              all_goals go_ret2
              all_goals exact ⟨by first | (rw [HRES.out]; rfl) | rw [HRES.out], GB3.out⟩
          · have hres := HM2.out
            rw [if_neg hbig] at hres
            have HRES := Aside0.mk hres
            clear hres
            have hc1 : decide ((-a) > 1125899906842624) = false := decide_eq_false (by omega)
            have hc2 : decide ((-a) < -1125899906842624) = false := decide_eq_false (by omega)
            go_wp2_with fail
            with_reducible refine (Tryd.strings_HasPrefix s ⟨#[45]⟩ _).mono ?_
            rintro e w' ⟨rfl, hw'⟩
            rw [hw']
            clear hw' w'
            rw [show Lib.hasPrefix s.data.toList (⟨#[45]⟩ : ByteArray).data.toList = true from HHP.out]
            go_wp2_with fail
            with_reducible refine (money_calls (-a) _ (by omega) (by omega) (HT.out.step (GB.out k))).mono ?_
            rintro e w3 ⟨rfl, hb⟩
            have GB3 := Aside0.mk (below_step (GB.out k) hb)
            clear hb
            rw [HBS.out]
            go_wp2_with fail
            all_goals (try rw [Exit.noGoto_ret])
            all_goals go_ret2
            all_goals exact ⟨by first | (rw [HRES.out]; rfl) | rw [HRES.out], GB3.out⟩
        · have hbs : ((B (mny (-a))).toList == s.toList) = false := by
            rw [beq_eq_false_iff_ne]
            intro h
            apply hm
            rw [toL, toL] at h
            simpa [B] using h
          have hres := AMT.out
          rw [if_pos (by simpa using hm)] at hres
          have HRES := Aside0.mk hres
          clear hres hm
          go_wp2_with fail
          with_reducible refine (Tryd.strings_HasPrefix s ⟨#[45]⟩ _).mono ?_
          rintro e w' ⟨rfl, hw'⟩
          rw [hw']
          clear hw' w'
          rw [show Lib.hasPrefix s.data.toList (⟨#[45]⟩ : ByteArray).data.toList = true from HHP.out]
          go_wp2_with fail
          with_reducible refine (money_calls (-a) _ (by omega) (by omega) (HT.out.step (GB.out k))).mono ?_
          rintro e w3 ⟨rfl, hb⟩
          have GB3 := Aside0.mk (below_step (GB.out k) hb)
          clear hb
          go_wp2_with fail
          all_goals (try rw [Exit.noGoto_ret])
          all_goals go_ret2
          all_goals exact ⟨by first | (rw [HRES.out]; rfl) | rw [HRES.out], GB3.out⟩
      · have hnb : -11258999068426249 ≤ a ∧ a ≤ 11258999068426249 := by omega
        have AMT : Aside0 (amt s.data.toList = if mny a ≠ s.data.toList then (0, 4) else if 1125899906842624 < a ∨ a < -1125899906842624 then (0, 9) else (a, 0)) := by
          constructor
          unfold amt
          rw [← HXS.out, HR.out, HRA.out]
          show (if mny (if Lib.hasPrefix s.data.toList [45] = true then -a else a) ≠ _ then _ else _) = _
          simp only [HHP.out, if_true, Bool.false_eq_true, if_false]
        by_cases hm : mny a = s.data.toList
        · have hbs : B (mny a) = s := by rw [hm]; exact B_list s
          have HBS := Aside0.mk hbs
          have hm2 := AMT.out
          rw [if_neg (by simpa using hm)] at hm2
          have HM2 := Aside0.mk hm2
          clear hm2 hbs hm
          by_cases hbig : 1125899906842624 < a ∨ a < -1125899906842624
          · have hres := HM2.out
            rw [if_pos hbig] at hres
            have HRES := Aside0.mk hres
            clear hres
            rcases hbig with h1 | h1
            · have hc1 : decide (a > 1125899906842624) = true := decide_eq_true h1
              go_wp2_with fail
              with_reducible refine (Tryd.strings_HasPrefix s ⟨#[45]⟩ _).mono ?_
              rintro e w' ⟨rfl, hw'⟩
              rw [hw']
              clear hw' w'
              rw [show Lib.hasPrefix s.data.toList (⟨#[45]⟩ : ByteArray).data.toList = false from HHP.out]
              go_wp2_with fail
              with_reducible refine (money_calls a _ (by omega) (by omega) (HT.out.step (GB.out k))).mono ?_
              rintro e w3 ⟨rfl, hb⟩
              have GB3 := Aside0.mk (below_step (GB.out k) hb)
              clear hb
              rw [HBS.out]
              go_wp2_with fail
              all_goals (try rw [Exit.noGoto_ret])
              all_goals go_ret2
              all_goals exact ⟨by first | (rw [HRES.out]; rfl) | rw [HRES.out], GB3.out⟩
            · have hc1 : decide (a > 1125899906842624) = false := decide_eq_false (by omega)
              have hc2 : decide (a < -1125899906842624) = true := decide_eq_true h1
              go_wp2_with fail
              with_reducible refine (Tryd.strings_HasPrefix s ⟨#[45]⟩ _).mono ?_
              rintro e w' ⟨rfl, hw'⟩
              rw [hw']
              clear hw' w'
              rw [show Lib.hasPrefix s.data.toList (⟨#[45]⟩ : ByteArray).data.toList = false from HHP.out]
              go_wp2_with fail
              with_reducible refine (money_calls a _ (by omega) (by omega) (HT.out.step (GB.out k))).mono ?_
              rintro e w3 ⟨rfl, hb⟩
              have GB3 := Aside0.mk (below_step (GB.out k) hb)
              clear hb
              rw [HBS.out]
              go_wp2_with fail
              all_goals (try rw [Exit.noGoto_ret])
              all_goals go_ret2
              all_goals exact ⟨by first | (rw [HRES.out]; rfl) | rw [HRES.out], GB3.out⟩
          · have hres := HM2.out
            rw [if_neg hbig] at hres
            have HRES := Aside0.mk hres
            clear hres
            have hc1 : decide (a > 1125899906842624) = false := decide_eq_false (by omega)
            have hc2 : decide (a < -1125899906842624) = false := decide_eq_false (by omega)
            go_wp2_with fail
            with_reducible refine (Tryd.strings_HasPrefix s ⟨#[45]⟩ _).mono ?_
            rintro e w' ⟨rfl, hw'⟩
            rw [hw']
            clear hw' w'
            rw [show Lib.hasPrefix s.data.toList (⟨#[45]⟩ : ByteArray).data.toList = false from HHP.out]
            go_wp2_with fail
            with_reducible refine (money_calls a _ (by omega) (by omega) (HT.out.step (GB.out k))).mono ?_
            rintro e w3 ⟨rfl, hb⟩
            have GB3 := Aside0.mk (below_step (GB.out k) hb)
            clear hb
            rw [HBS.out]
            go_wp2_with fail
            all_goals (try rw [Exit.noGoto_ret])
            all_goals go_ret2
            all_goals exact ⟨by first | (rw [HRES.out]; rfl) | rw [HRES.out], GB3.out⟩
        · have hbs : ((B (mny a)).toList == s.toList) = false := by
            rw [beq_eq_false_iff_ne]
            intro h
            apply hm
            rw [toL, toL] at h
            simpa [B] using h
          have hres := AMT.out
          rw [if_pos (by simpa using hm)] at hres
          have HRES := Aside0.mk hres
          clear hres hm
          go_wp2_with fail
          with_reducible refine (Tryd.strings_HasPrefix s ⟨#[45]⟩ _).mono ?_
          rintro e w' ⟨rfl, hw'⟩
          rw [hw']
          clear hw' w'
          rw [show Lib.hasPrefix s.data.toList (⟨#[45]⟩ : ByteArray).data.toList = false from HHP.out]
          go_wp2_with fail
          with_reducible refine (money_calls a _ (by omega) (by omega) (HT.out.step (GB.out k))).mono ?_
          rintro e w3 ⟨rfl, hb⟩
          have GB3 := Aside0.mk (below_step (GB.out k) hb)
          clear hb
          go_wp2_with fail
          all_goals (try rw [Exit.noGoto_ret])
          all_goals go_ret2
          all_goals exact ⟨by first | (rw [HRES.out]; rfl) | rw [HRES.out], GB3.out⟩
theorem scan_dg (d : Int) (h0 : 0 ≤ d) (h1 : d ≤ 9) (r : List UInt8) (a : Int) : scan (Txt.dg d :: r) a = if 1125899906842624 < a then none else scan r (10 * a + d) := by
  simp only [scan]
  rw [dg_nat d h0 h1, if_neg (by omega)]
  by_cases h : 1125899906842624 < a
  · rw [if_pos h, if_pos (by omega)]
  · rw [if_neg h, if_neg (by omega)]
    congr 1
    omega
theorem dgs_ne (n : Int) (h0 : 0 ≤ n) : ∃ (d : Int) (r : List UInt8), dgs n = Txt.dg d :: r ∧ 0 ≤ d ∧ d ≤ 9 := by
  have key : ∀ (k : Nat) (n : Int), 0 ≤ n → n.toNat ≤ k → ∃ (d : Int) (r : List UInt8), dgs n = Txt.dg d :: r ∧ 0 ≤ d ∧ d ≤ 9 := by
    intro k
    induction k with
    | zero =>
      intro n h0 h
      exact ⟨n, [], dgs_one n h0 (by omega), h0, by omega⟩
    | succ k ih =>
      intro n h0 h
      by_cases h1 : n < 10
      · exact ⟨n, [], dgs_one n h0 h1, h0, by omega⟩
      · obtain ⟨d, r, e, e0, e1⟩ := ih (n / 10) (by omega) (by omega)
        exact ⟨d, r ++ [Txt.dg (n % 10)], by rw [dgs_step n (by omega), e]; rfl, e0, e1⟩
  exact key n.toNat n h0 (Nat.le_refl _)
theorem scan_dgs : ∀ (k : Nat) (n : Int) (r : List UInt8), 0 ≤ n → n.toNat ≤ k → scan (dgs n ++ r) 0 = if 1125899906842624 < n / 10 then none else scan r n := by
  intro k
  induction k with
  | zero =>
    intro n r h0 h
    rw [dgs_one n h0 (by omega), List.singleton_append, scan_dg n h0 (by omega), if_neg (by omega), if_neg (by omega)]
    congr 1; omega
  | succ k ih =>
    intro n r h0 h
    by_cases h1 : n < 10
    · rw [dgs_one n h0 h1, List.singleton_append, scan_dg n h0 (by omega), if_neg (by omega), if_neg (by omega)]
      congr 1; omega
    · rw [dgs_step n (by omega), List.append_assoc, List.singleton_append, ih (n / 10) _ (by omega) (by omega)]
      by_cases h2 : 1125899906842624 < n / 10 / 10
      · rw [if_pos h2, if_pos (by omega)]
      · rw [if_neg h2, scan_dg (n % 10) (by omega) (by omega)]
        by_cases h3 : 1125899906842624 < n / 10
        · rw [if_pos h3, if_pos h3]
        · rw [if_neg h3, if_neg h3]
          congr 1; omega
theorem scan_mny0 (n : Int) (h0 : 0 ≤ n) : scan (mny0 n) 0 = if 1125899906842624 < n / 10 then none else some n := by
  unfold mny0
  rw [scan_dgs _ (n / 100) _ (by omega) (Nat.le_refl _)]
  by_cases h1 : 1125899906842624 < n / 100 / 10
  · rw [if_pos h1, if_pos (by omega)]
  · rw [if_neg h1]
    show scan (46 :: Txt.t2 (n % 100)) (n / 100) = _
    simp only [scan]
    rw [if_pos (by decide)]
    unfold Txt.t2
    rw [scan_dg _ (by omega) (by omega)]
    by_cases h2 : 1125899906842624 < n / 100
    · rw [if_pos h2, if_pos (by omega)]
    · rw [if_neg h2, scan_dg _ (by omega) (by omega)]
      by_cases h3 : 1125899906842624 < n / 10
      · rw [if_pos (by omega), if_pos h3]
      · rw [if_neg (by omega), if_neg h3]
        simp only [scan]
        congr 1; omega
theorem mny_sign (n : Int) (h0 : 0 ≤ n) : Lib.hasPrefix (mny0 n) [45] = false := by
  obtain ⟨d, r, e, e0, e1⟩ := dgs_ne (n / 100) (by omega)
  unfold mny0 Lib.hasPrefix
  rw [e]
  simp only [List.cons_append, List.isPrefixOf, Bool.and_true, beq_eq_false_iff_ne]
  intro h
  have := dg_nat d e0 e1
  rw [← h] at this
  simp at this
  omega
/-- An amount's text is read as it. -/
theorem amt_mny (n : Int) : amt (mny n) = if -1125899906842624 ≤ n ∧ n ≤ 1125899906842624 then (n, 0) else if 1125899906842624 < (if n < 0 then -n else n) / 10 then (0, 4) else (0, 9) := by
  unfold amt
  by_cases h : n < 0
  · have e1 : mny n = 45 :: mny0 (-n) := by unfold mny; rw [if_pos h]
    have e2 : Lib.hasPrefix (mny n) [45] = true := by rw [e1]; simp [Lib.hasPrefix]
    have e3 : trim (mny n) = mny0 (-n) := by unfold trim Lib.trimPrefix; rw [e2, e1]; rfl
    rw [e3, scan_mny0 (-n) (by omega), if_pos h]
    by_cases h1 : 1125899906842624 < -n / 10
    · rw [if_pos h1, if_neg (by omega), if_pos h1]
    · rw [if_neg h1]
      simp only [e2, if_true, Int.neg_neg, ne_eq, not_true_eq_false, if_false]
      by_cases h2 : -1125899906842624 ≤ n ∧ n ≤ 1125899906842624
      · rw [if_pos h2, if_neg (by omega)]
      · rw [if_neg h2, if_pos (by omega), if_neg h1]
  · have e1 : mny n = mny0 n := by unfold mny; rw [if_neg h]
    have e2 : Lib.hasPrefix (mny n) [45] = false := by rw [e1]; exact mny_sign n (by omega)
    have e3 : trim (mny n) = mny0 n := by unfold trim Lib.trimPrefix; rw [e2, e1]; rfl
    rw [e3, scan_mny0 n (by omega), if_neg h]
    by_cases h1 : 1125899906842624 < n / 10
    · rw [if_pos h1, if_neg (by omega), if_pos h1]
    · rw [if_neg h1]
      simp only [e2, Bool.false_eq_true, if_false, ne_eq, not_true_eq_false]
      by_cases h2 : -1125899906842624 ≤ n ∧ n ≤ 1125899906842624
      · rw [if_pos h2, if_neg (by omega)]
      · rw [if_neg h2, if_pos (by omega), if_neg h1]
theorem mny_m5 : mny (-5) = [45, 48, 46, 48, 53] := by
  unfold mny mny0
  rw [if_pos (by omega), dgs_one _ (by omega) (by omega)]
  rfl
theorem mny_1234 : mny 1234 = [49, 50, 46, 51, 52] := by
  unfold mny mny0
  rw [if_neg (by omega), dgs_step _ (by omega), dgs_one _ (by omega) (by omega)]
  rfl
set_option maxHeartbeats 1000000 in
theorem awake_calls (w : World) (ht : TB w) : Calls Tryd.prog 8 #[] w fun e w' => e = .returned (.bool true) ∧ Below w.heap.size w w' := by
  have HT := Aside0.mk ht
  clear ht
  go_enter Tryd.func8, Tryd.ntmps8
  go_wp2_with fail
  with_reducible refine (money_calls (-5) _ (by omega) (by omega) HT.out).mono ?_
  rintro e w1 ⟨rfl, hb⟩
  have GB := Aside0.mk hb
  clear hb
  rw [mny_m5, show B [45, 48, 46, 48, 53] = (⟨#[45, 48, 46, 48, 53]⟩ : ByteArray) from rfl]
  go_wp2_with fail
  with_reducible refine (money_calls 1234 _ (by omega) (by omega) (HT.out.step GB.out)).mono ?_
  rintro e w2 ⟨rfl, hb⟩
  replace GB := Aside0.mk (below_step GB.out hb)
  clear hb
  rw [mny_1234, show B [49, 50, 46, 51, 52] = (⟨#[49, 50, 46, 51, 52]⟩ : ByteArray) from rfl]
  go_wp2_with fail
  go_ret
  exact ⟨rfl, GB.out⟩
end Go.Proofs.YtnpcodfeggcdbaaDoor.Pure
