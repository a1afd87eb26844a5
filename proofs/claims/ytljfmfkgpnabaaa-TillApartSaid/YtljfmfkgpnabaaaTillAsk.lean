/- Till. -/
import Derived.Test.YtljfmfkgpnabaaaTillAwake
import Derived.Test.YtljfmfkgpnabaaaPaskx
set_option linter.unusedVariables false
set_option linter.unusedSimpArgs false
namespace Go.Proofs.Ytljfmfkgpnabaaa.Pure
open Go.RowKit  Go.Proofs.YtljfmfkgpnabaaaW.PrintWords Go.Proofs.YtljfmfkgpnabaaaW.PrintLast
open Go.Maps Go.ChangeShapes Go.WideShapes Go.Joins Go.Proofs.Ytljfmfkgpnabaaa.Pask
open Go.Proofs.Ytljfmfkgpnabaaa
attribute [local go_sem] setCell_map

/-- An act; what is asked by it. -/
structure TAct where
  k : Int
  s : Int
  c : Int
  t : Int
  a : Int
  v : Int
structure TAct.Ok (x : TAct) : Prop where
  k : 0 ≤ x.k ∧ x.k ≤ 255
  s : 0 ≤ x.s ∧ x.s ≤ 255
  c : 0 ≤ x.c ∧ x.c ≤ 255
  t : 0 ≤ x.t ∧ x.t ≤ 255
  a : 0 ≤ x.a ∧ x.a ≤ 65535
  v : 0 ≤ x.v ∧ x.v ≤ 255
def akind (x : TAct) : Int := if x.k % 6 = 4 then 2 else if x.k % 6 = 5 then 3 + x.s % 3 else 1
theorem ask_calls (x : TAct) (h : x.Ok) (w : World) : Calls Try.prog 30 #[.agg #[.int .u8 x.k, .int .u8 x.s, .int .u8 x.c, .int .u8 x.t, .int .u16 x.a, .int .u8 x.v]] w fun e w' =>
    e = .returned (.agg #[.int .u8 (akind x), .int .i64 (x.s % 3), .int .i64 (x.c % 3), .int .i64 (1 + x.t % 3), .int .i64 (1 + x.a), .int .u8 0]) ∧ Below w.heap.size w w' := by
  obtain ⟨hk, hs, hc, ht, ha, hv⟩ := h
  refine (paybooklaw15_ask.calls x.k x.s x.c x.t x.a x.v (akind x) (x.s % 3) (x.c % 3) (1 + x.t % 3) (1 + x.a) 0 w ?_).mono ?_
  · unfold paybooklaw15_ask.f akind
    rw [Int.tmod_eq_emod_of_nonneg hk.1, Int.tmod_eq_emod_of_nonneg hs.1, Int.tmod_eq_emod_of_nonneg hc.1, Int.tmod_eq_emod_of_nonneg ht.1]
    have e1 : wrap64 (x.s % 3) = x.s % 3 := by unfold wrap64; omega
    have e2 : wrap64 (x.c % 3) = x.c % 3 := by unfold wrap64; omega
    have e3 : wrap64 (x.t % 3) = x.t % 3 := by unfold wrap64; omega
    have e4 : wrap64 x.a = x.a := by unfold wrap64; omega
    have e5 : wrap64 (1 + x.t % 3) = 1 + x.t % 3 := by unfold wrap64; omega
    have e6 : wrap64 (1 + x.a) = 1 + x.a := by unfold wrap64; omega
    have e7 : (3 + x.s % 3) % 256 = 3 + x.s % 3 := by omega
    rw [e1, e2, e3, e4, e5, e6, e7]
    split
    · rfl
    · split <;> rfl
  · intro e w' h
    skip
    exact h
/-- What a till knows behind whatever is asked. -/
def hstep (f : TF) (L : List TE) (kind s c t am v : Int) : TF × List TE := if kind = 1 ∨ kind = 2 then (thear f L kind s c t am v).2 else (f, L)
theorem thear_any (W : World) (M : Nat) (sv : Value) (n : Nat) (f : TF) (L : List TE) (h : TillAt W M sv n f L) (ok : TOk L) (hn : n < maxLen) (kind s c t am v : Int) (hs : (Lit.int .i64 s).wf = true) (hc : (Lit.int .i64 c).wf = true) (ht : (Lit.int .i64 t).wf = true) (hv : (Lit.int .u8 v).wf = true) :
    Calls Try.prog 31 #[.pointer (some ⟨M + 1, 0, none⟩), .agg #[.int .u8 kind, .int .i64 s, .int .i64 c, .int .i64 t, .int .i64 am, .int .u8 0], .int .u8 v] W fun x w' =>
      ∃ r sv', x = .returned r ∧ TillAt w' M sv' (n + 1) (hstep f L kind s c t am v).1 (hstep f L kind s c t am v).2 ∧ But (tfoot M sv) W w' ∧ ∀ k, sv'.ownBlock = some k → sv.ownBlock = some k ∨ W.heap.size ≤ k := by
  by_cases hk : kind = 1 ∨ kind = 2
  · refine (thear_calls W M sv n f L h ok hn kind s c t am v hk hs hc ht hv).mono ?_
    rintro x w' ⟨rfl, sv', h1, h2, h3⟩
    unfold hstep
    rw [if_pos hk]
    exact ⟨_, sv', rfl, h1, h2, h3⟩
  · refine (thear_pass W M kind s c t am v (fun e => hk (Or.inl e)) (fun e => hk (Or.inr e))).mono ?_
    rintro x w' ⟨rfl, hb⟩
    unfold hstep
    rw [if_neg hk]
    have h' := till_same h hb
    exact ⟨_, sv, rfl, ⟨h'.blk, (by obtain ⟨D, h1, h2⟩ := h'.map; exact ⟨D, h1.mono (Nat.le_succ _), h2⟩), h'.row⟩, But.of_below hb, fun k hk => Or.inl hk⟩
/-- What holds of a list behind m acts. -/
structure TInv (L : List TE) (m : Nat) : Prop where
  len : L.length ≤ m
  amt : ∀ e ∈ L, 0 ≤ e.2.2.2 ∧ e.2.2.2 ≤ 65536 * (m : Int)
  sum : ∀ s c, 0 ≤ tsum (pT s c) L ∧ tsum (pT s c) L ≤ 65536 * (m : Int)
theorem TInv.nil : TInv [] 0 := ⟨by simp, by simp, by simp [tsum]⟩
theorem TInv.ok {L : List TE} {m : Nat} (h : TInv L m) (hm : m ≤ 1000) : TOk L := ⟨Nat.le_trans h.len hm, fun e he => ⟨(h.amt e he).1, Int.le_trans (h.amt e he).2 (by omega)⟩⟩
theorem TInv.succ {L : List TE} {m : Nat} (h : TInv L m) : TInv L (m + 1) := ⟨Nat.le_succ_of_le h.len, fun e he => ⟨(h.amt e he).1, by have := (h.amt e he).2; push_cast; omega⟩, fun s c => ⟨(h.sum s c).1, by have := (h.sum s c).2; push_cast; omega⟩⟩
theorem tsum_snoc (p : TE → Bool) (L : List TE) (e : TE) : tsum p (L ++ [e]) = tsum p L + (if p e then tsg e else 0) := by rw [tsum_append]; simp [tsum]
theorem pT_eq (s c s' c' x y : Int) : pT s c (s', c', x, y) = true ↔ s' = s ∧ c' = c := by simp [pT]
theorem TInv.hear {L : List TE} {m : Nat} (h : TInv L m) (f : TF) (kind s c t am v : Int) (ht : 1 ≤ t) (ha : 1 ≤ am) (ha2 : am ≤ 65536) : TInv (hstep f L kind s c t am v).2 (m + 1) := by
  have push : ∀ (x a : Int), 0 ≤ a → a ≤ 65536 * ((m : Int) + 1) → (∀ s' c', 0 ≤ tsum (pT s' c') L + (if pT s' c' (s, c, x, a) then tsg (s, c, x, a) else 0) ∧ tsum (pT s' c') L + (if pT s' c' (s, c, x, a) then tsg (s, c, x, a) else 0) ≤ 65536 * ((m : Int) + 1)) → TInv (L ++ [(s, c, x, a)]) (m + 1) := by
    intro x a h0 h1 h2
    refine ⟨by simpa using h.len, ?_, ?_⟩
    · intro e he
      rcases List.mem_append.1 he with he | he
      · exact h.succ.amt e he
      · simp only [List.mem_singleton] at he
        subst he
        exact ⟨h0, by push_cast; exact h1⟩
    · intro s' c'
      rw [tsum_snoc]
      push_cast
      exact h2 s' c'
  unfold hstep
  split
  · rename_i hk
    unfold thear
    cases hf : f s c (tk kind t) with
    | some v0 => exact h.succ
    | none =>
      simp only
      unfold tfirst
      split
      · split
        · refine push t am (by omega) (by omega) (fun s' c' => ?_)
          have h3 := h.sum s' c'
          split
          · have e : tsg (s, c, t, am) = am := by unfold tsg; rw [if_neg (by show ¬ t = 0; omega)]
            rw [e]; omega
          · omega
        · exact h.succ
      · split
        · exact h.succ
        · have h3 := h.sum s c
          refine push 0 (tsum (pT s c) L) h3.1 (by omega) (fun s' c' => ?_)
          have h4 := h.sum s' c'
          split
          · rename_i hp
            obtain ⟨rfl, rfl⟩ := (pT_eq _ _ _ _ _ _).1 hp
            have e : tsg (s, c, 0, tsum (pT s c) L) = - tsum (pT s c) L := by unfold tsg; rw [if_pos rfl]
            rw [e]; omega
          · omega
  · exact h.succ
end Go.Proofs.Ytljfmfkgpnabaaa.Pure
