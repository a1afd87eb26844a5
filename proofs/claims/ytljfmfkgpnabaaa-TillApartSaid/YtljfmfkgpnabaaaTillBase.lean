/- Till. -/
import Derived.Test.YtljfmfkgpnabaaaWLast
import Derived.Test.YtljfmfkgpnabaaaWMore
import Derived.Test.YtljfmfkgpnabaaaWWords
import Derived.Test.YtljfmfkgpnabaaaProg
import Derived.WalkKit
import Derived.Maps.OwnSet
import Derived.Deep.AppendLies
import Derived.OpenShut
import Derived.MapViews
import Derived.DeepKeys4
import Derived.ProofKit
import Derived.ChangeOld
import Derived.Below
import Derived.Lib.SmallJoins
import Derived.Deep.RegionHeld3
import Derived.Deep.LoopGhost
set_option linter.unusedVariables false
set_option linter.unusedSimpArgs false
namespace Go.Proofs.Ytljfmfkgpnabaaa.Pure
open Go.RowKit  Go.Proofs.YtljfmfkgpnabaaaW.PrintWords Go.Proofs.YtljfmfkgpnabaaaW.PrintLast
open Go.Proofs.Ytljfmfkgpnabaaa
theorem setCell_map (w : World) (a : Addr) (v : Value) : (w.setCell a v).cell? a = (w.cell? a).map fun _ => v := by
  simp only [World.setCell, World.cell?, Array.getElem?_modify, ↓reduceIte]
  cases hb : w.heap[a.block]? with
  | none => rfl
  | some o =>
    cases o with
    | cells c e f =>
      simp only [Option.map_some]
      cases hs : a.spot.isSome
      · simp only [Bool.false_eq_true, if_false, Array.getElem?_setIfInBounds_self]
        by_cases h : a.off < c.size
        · simp [h]
        · simp [h]
      · simp
    | _ => rfl
attribute [local go_sem] setCell_map
open Go.Maps Go.ChangeShapes Go.WideShapes Go.Joins
theorem tlaidOut : laidOutB Try.prog = true := by kernel_rfl
theorem trow79 : (79 : TypeId) < Try.prog.types.size := of_decide_eq_true (by kernel_rfl)
theorem twide79 : (match Try.prog.underlying 79 with | some (.array _ _) | some (.struct _) => true | _ => false) = true := by rw [Try.underlying79]
theorem tdeep79 : Try.prog.keyTypeAt (Try.prog.types.size + 1) 79 = true := by kernel_rfl
theorem tcells79 : Try.prog.cellsOf 79 = 3 := by kernel_rfl
theorem tlaw : Keyed Try.prog 79 := Keyed.of_law (deep_law_laid tlaidOut (m := 2) (by omega) trow79 (by kernel_rfl) twide79)
theorem tzero (w : World) : (zeroValue 5).run Try.prog w = .ok (.int .u8 0) w := by kernel_rfl
theorem tinfo : (Try.prog.info? 64).map (fun i => (i.zero, i.size, i.bytes)) = some (some (.agg #[.int .i64 0, .int .i64 0, .int .i64 0, .int .i64 0]), 4, 32) := by kernel_rfl
/-- A key of the till's map. -/
def tkey (s c k : Int) : Value := .agg #[.int .i64 s, .int .i64 c, .int .i64 k]
theorem tkey_of (s c k : Int) (hs : (Lit.int .i64 s).wf = true) (hc : (Lit.int .i64 c).wf = true) (hk : (Lit.int .i64 k).wf = true) : ∃ l, keyOf Try.prog 79 (tkey s c k) = some l := by
  have hd : DataW.Trod (H := Unit) (fun _ => ()) Try.prog (World.settled Try.prog default) 0 (fun _ => true) true 79 (tkey s c k) _ _ :=
    shut_agg3 (y0 := (.lit (.int .i64 s), [])) (y1 := (.lit (.int .i64 c), [])) (y2 := (.lit (.int .i64 k), [])) Try.underlying79 (by kernel_rfl) tcells79 ⟨1, by simp [DataW.trod, Try.underlying3, hs]⟩ ⟨1, by simp [DataW.trod, Try.underlying3, hc]⟩ ⟨1, by simp [DataW.trod, Try.underlying3, hk]⟩
  exact ⟨_, (keyOf_asKey tdeep79 twide79 (by simp [tkey, Value.formed, Try.underlying79, tcells79]) hd).1⟩
/-- What the till's map says. -/
abbrev TF := Int → Int → Int → Option Int
def Says (D : DataW Unit) (f : TF) : Prop :=
  ∀ s c k, (Lit.int .i64 s).wf = true → (Lit.int .i64 c).wf = true → (Lit.int .i64 k).wf = true → ∀ l, keyOf Try.prog 79 (tkey s c k) = some l →
    Maps.has D l = (f s c k).isSome ∧ D.atKey l (.lit (.int .u8 0)) = .lit (.int .u8 ((f s c k).getD 0))
def upd (f : TF) (s c k v : Int) : TF := fun s' c' k' => if s' = s ∧ c' = c ∧ k' = k then some v else f s' c' k'
theorem says_none : Says (.map []) (fun _ _ _ => none) := fun s c k _ _ _ l _ => ⟨rfl, rfl⟩
theorem says_put {D : DataW Unit} {f : TF} (hi : IsMap D) (h : Says D f) (s c k v : Int) (l : Lit) (hl : keyOf Try.prog 79 (tkey s c k) = some l) : Says (D.put l (.lit (.int .u8 v))) (upd f s c k v) := by
  intro s' c' k' h1 h2 h3 l' hl'
  unfold upd
  by_cases e : s' = s ∧ c' = c ∧ k' = k
  · obtain ⟨rfl, rfl, rfl⟩ := e
    obtain rfl : l' = l := by rw [hl] at hl'; exact (Option.some.inj hl').symm
    simp only [and_self, if_true, Option.isSome_some, Option.getD_some]
    exact ⟨Maps.has_put_same hi (tlaw.key hl) _, Maps.atKey_put_same hi (tlaw.key hl) _ _⟩
  · have hne : l' ≠ l := fun e' => e (by
      subst e'
      have := tlaw.inj hl' hl
      simp only [tkey, Value.agg.injEq, Array.mk.injEq, List.cons.injEq, Value.int.injEq, true_and, and_true] at this
      exact this)
    simp only [e, if_false]
    obtain ⟨g1, g2⟩ := h s' c' k' h1 h2 h3 l' hl'
    exact ⟨(Maps.has_put_other hne _).trans g1, (Maps.atKey_put_other hne _ _).trans g2⟩
/-- w' is w but for the blocks of F, and new ones. -/
structure But (F : Nat → Prop) (w w' : World) : Prop where
  os : w'.os = w.os
  tape : w'.tape = w.tape
  output : w'.output = w.output
  size : w.heap.size ≤ w'.heap.size
  block : ∀ k, k < w.heap.size → ¬ F k → w'.heap[k]? = w.heap[k]?
theorem But.refl (F : Nat → Prop) (w : World) : But F w w := ⟨rfl, rfl, rfl, Nat.le_refl _, fun _ _ _ => rfl⟩
theorem But.trans {F : Nat → Prop} {a b c : World} (h : But F a b) (k : But F b c) : But F a c := ⟨k.os.trans h.os, k.tape.trans h.tape, k.output.trans h.output, Nat.le_trans h.size k.size, fun i hi hf => (k.block i (Nat.lt_of_lt_of_le hi h.size) hf).trans (h.block i hi hf)⟩
theorem But.mono {F G : Nat → Prop} {a b : World} (h : But F a b) (hg : ∀ k, k < a.heap.size → F k → G k) : But G a b := ⟨h.os, h.tape, h.output, h.size, fun i hi hf => h.block i hi (fun e => hf (hg i hi e))⟩
theorem But.of_below {F : Nat → Prop} {a b : World} (h : Below a.heap.size a b) : But F a b := ⟨h.os, h.tape, h.output, h.size, fun i hi _ => h.block i hi⟩
theorem But.of_grown {F : Nat → Prop} {a b : World} {row : Option Nat} (h : a.grownBy b row) (hr : ∀ k, row = some k → F k) : But F a b := ⟨h.os, h.tape, h.output, h.size, fun i hi hf => h.block i hi (fun e => hf (hr i e.symm))⟩
theorem But.drew {F : Nat → Prop} {a b : World} (h : But F a b) : But F a b.drew := ⟨h.os, h.tape, h.output, h.size, h.block⟩
theorem But.alloc {F : Nat → Prop} {a b : World} (h : But F a b) (o : Obj) : But F a (b.alloc o) := h.trans (But.of_grown (World.grownBy_alloc b o none) (fun _ e => by cases e))
theorem But.setCell {F : Nat → Prop} {a b : World} (h : But F a b) {p : Addr} (hp : a.heap.size ≤ p.block ∨ F p.block) (u : Value) : But F a (b.setCell p u) :=
  ⟨h.os, h.tape, h.output, by simpa using h.size, fun i hi hf => (Below.heap_setCell _ _ _ _ (fun e => by subst e; rcases hp with hp | hp <;> first | exact hf hp | omega)).trans (h.block i hi hf)⟩
theorem But.below {F : Nat → Prop} {B : Nat} {a b : World} (h : But F a b) (hF : ∀ k, k < B → ¬ F k) (hB : B ≤ a.heap.size) : Below B a b := ⟨h.os, h.tape, h.output, h.size, fun i hi => h.block i (by omega) (hF i hi)⟩
/-- An entry: whose, of which cycle, which try, how much. -/
abbrev TE := Int × Int × Int × Int
def tflat (L : List TE) : List Value := L.flatMap (fun e => [.int .i64 e.1, .int .i64 e.2.1, .int .i64 e.2.2.1, .int .i64 e.2.2.2])
theorem tflat_snoc (L : List TE) (e : TE) : tflat (L ++ [e]) = tflat L ++ [.int .i64 e.1, .int .i64 e.2.1, .int .i64 e.2.2.1, .int .i64 e.2.2.2] := by simp [tflat]
/-- The till at block M + 1, its map at M, its list sv. -/
structure TillAt (w : World) (M : Nat) (sv : Value) (n : Nat) (f : TF) (L : List TE) : Prop where
  blk : w.heap[M + 1]? = some (.cells #[.map (some M), sv] 77 (0, 0))
  map : ∃ D, w.ownsMap Try.prog 79 (plainElem Try.prog 5) M n D ∧ Says D f
  row : w.ownsRow (M + 2) 64 4 sv L.length (tflat L)
def tfoot (M : Nat) (sv : Value) (k : Nat) : Prop := k = M ∨ k = M + 1 ∨ sv.ownBlock = some k
theorem TillAt.lt {w : World} {M : Nat} {sv : Value} {n : Nat} {f : TF} {L : List TE} (h : TillAt w M sv n f L) : M + 1 < w.heap.size := (Array.getElem?_eq_some_iff.1 h.blk).1
theorem TillAt.kept {w w' : World} {M : Nat} {sv : Value} {n : Nat} {f : TF} {L : List TE} (h : TillAt w M sv n f L) {F : Nat → Prop} (hb : But F w w') (hF : ∀ k, tfoot M sv k → ¬ F k) : TillAt w' M sv n f L := by
  have hlt := h.lt
  obtain ⟨D, ⟨es, clock, m1, m2⟩, m3⟩ := h.map
  refine ⟨(hb.block _ hlt (hF _ (Or.inr (Or.inl rfl)))).trans h.blk, ⟨D, ⟨es, clock, (hb.block _ (by omega) (hF _ (Or.inl rfl))).trans m1, m2⟩, m3⟩, h.row.1, ?_⟩
  rcases h.row.2 with hn | ⟨g, cap, cur, rfl, hbg, hgg, rest⟩
  · exact .inl hn
  · exact .inr ⟨g, cap, cur, rfl, hbg, (hb.block g (Array.getElem?_eq_some_iff.1 hgg).1 (hF _ (Or.inr (Or.inr rfl)))).trans hgg, rest⟩
/-- What an entry counts; what all of some do. -/
def tsg (e : TE) : Int := if e.2.2.1 = 0 then - e.2.2.2 else e.2.2.2
def tsum (p : TE → Bool) : List TE → Int
  | [] => 0
  | e :: r => (if p e then tsg e else 0) + tsum p r
theorem tsum_append (p : TE → Bool) : ∀ a b : List TE, tsum p (a ++ b) = tsum p a + tsum p b
  | [], b => by simp [tsum]
  | e :: r, b => by simp only [List.cons_append, tsum, tsum_append p r b]; omega
def TOk (L : List TE) : Prop := L.length ≤ 1000 ∧ ∀ e ∈ L, 0 ≤ e.2.2.2 ∧ e.2.2.2 ≤ 1125899906842624
theorem tsum_bound (p : TE → Bool) : ∀ L : List TE, (∀ e ∈ L, 0 ≤ e.2.2.2 ∧ e.2.2.2 ≤ 1125899906842624) → - (1125899906842624 * (L.length : Int)) ≤ tsum p L ∧ tsum p L ≤ 1125899906842624 * (L.length : Int)
  | [], _ => by simp [tsum]
  | e :: r, h => by
    have h1 := h e (by simp)
    have h2 := tsum_bound p r (fun x hx => h x (by simp [hx]))
    simp only [tsum, List.length_cons, tsg]
    push_cast
    split <;> (try split) <;> omega
theorem tsum_take (p : TE → Bool) (L : List TE) (k : Nat) (hk : k < L.length) : tsum p (L.take (k + 1)) = tsum p (L.take k) + (if p L[k] then tsg L[k] else 0) := by
  rw [List.take_succ_eq_append_getElem hk, tsum_append]; simp [tsum]
theorem tsum_take_bound (p : TE → Bool) {L : List TE} (h : TOk L) (k : Nat) : -1125899906842624000 ≤ tsum p (L.take k) ∧ tsum p (L.take k) ≤ 1125899906842624000 := by
  have h1 := tsum_bound p (L.take k) (fun e he => h.2 e (List.mem_of_mem_take he))
  have h2 : (L.take k).length ≤ 1000 := Nat.le_trans (List.length_take_le' _ _) h.1
  constructor <;> omega
theorem tnew_calls (w : World) : Calls Try.prog 29 #[] w fun e w' => e = .returned (.pointer (some ⟨w.heap.size + 1, 0, none⟩)) ∧ TillAt w' w.heap.size (.slice none 0 0) 0 (fun _ _ _ => none) [] ∧ Below w.heap.size w w' := by
  have hmm := @run_makeMap Try.prog
  go_enter Try.func29, Try.ntmps29
  go_wp2
  go_ret
  refine ⟨rfl, ⟨by simpa using heap_alloc_new (w.alloc (.map #[] 0)) (.cells #[.map (some w.heap.size), .slice none 0 0] 77), ⟨.map [], (World.ownsMap_made w _ _ _).alloc _, says_none⟩, World.ownsRow_nil _ _ _ _⟩, ((Below.refl _ w).alloc (Nat.le_refl _) _).alloc (by simp) _⟩
/-- Of one cycle; of one subscription. -/
def pT (s c : Int) (e : TE) : Bool := e.1 == s && e.2.1 == c
def pN (s : Int) (e : TE) : Bool := e.1 == s
theorem ttk_calls (w : World) (e : TE) (a b : Nat) (s c : Int) (h1 : w.cell? ⟨a, 0, none⟩ = some (.int .i64 s)) (h2 : w.cell? ⟨b, 0, none⟩ = some (.int .i64 c)) (ha : a < w.heap.size) (hb : b < w.heap.size) :
    Calls Try.prog 39 #[.agg #[.int .i64 e.1, .int .i64 e.2.1, .int .i64 e.2.2.1, .int .i64 e.2.2.2], .pointer (some ⟨a, 0, none⟩), .pointer (some ⟨b, 0, none⟩)] w fun x w' => x = .returned (.bool (pT s c e)) ∧ Below w.heap.size w w' := by
  obtain ⟨es, ec, et, ea⟩ := e
  have h1' : (w.alloc (.cells #[.int .i64 es, .int .i64 ec, .int .i64 et, .int .i64 ea] 64)).cell? ⟨a, 0, none⟩ = some (.int .i64 s) := (World.cell?_alloc_past _ _ _ ha).trans h1
  have h2' : (w.alloc (.cells #[.int .i64 es, .int .i64 ec, .int .i64 et, .int .i64 ea] 64)).cell? ⟨b, 0, none⟩ = some (.int .i64 c) := (World.cell?_alloc_past _ _ _ hb).trans h2
  simp only [pT, pN]
  cases d1 : (es == s) <;> cases d2 : (ec == c) <;>
  (go_enter Try.func39, Try.ntmps39
   go_wp2
   go_ret
   exact ⟨by simp [pT, pN], (Below.refl _ w).alloc (Nat.le_refl _) _⟩)
theorem tnk_calls (w : World) (e : TE) (a : Nat) (s : Int) (h1 : w.cell? ⟨a, 0, none⟩ = some (.int .i64 s)) (ha : a < w.heap.size) :
    Calls Try.prog 40 #[.agg #[.int .i64 e.1, .int .i64 e.2.1, .int .i64 e.2.2.1, .int .i64 e.2.2.2], .pointer (some ⟨a, 0, none⟩)] w fun x w' => x = .returned (.bool (pN s e)) ∧ Below w.heap.size w w' := by
  obtain ⟨es, ec, et, ea⟩ := e
  have h1' : (w.alloc (.cells #[.int .i64 es, .int .i64 ec, .int .i64 et, .int .i64 ea] 64)).cell? ⟨a, 0, none⟩ = some (.int .i64 s) := (World.cell?_alloc_past _ _ _ ha).trans h1
  simp only [pT, pN]
  cases d1 : (es == s) <;>
  (go_enter Try.func40, Try.ntmps40
   go_wp2
   go_ret
   exact ⟨by simp [pT, pN], (Below.refl _ w).alloc (Nat.le_refl _) _⟩)
theorem tflat_get (L : List TE) (k : Nat) (hk : k < L.length) : (tflat L)[k * 4]? = some (.int .i64 L[k].1) ∧ (tflat L)[k * 4 + 1]? = some (.int .i64 L[k].2.1) ∧ (tflat L)[k * 4 + 2]? = some (.int .i64 L[k].2.2.1) ∧ (tflat L)[k * 4 + 3]? = some (.int .i64 L[k].2.2.2) := by
  induction L generalizing k with
  | nil => simp at hk
  | cons e r ih =>
    cases k with
    | zero => simp [tflat]
    | succ k =>
      have := ih k (by simpa using hk)
      simp only [List.getElem_cons_succ]
      have e1 : tflat (e :: r) = .int .i64 e.1 :: .int .i64 e.2.1 :: .int .i64 e.2.2.1 :: .int .i64 e.2.2.2 :: tflat r := rfl
      rw [e1]
      have s0 : (k + 1) * 4 = k * 4 + 4 := by omega
      rw [s0]
      exact this
/-- The till's cells. -/
theorem TillAt.cells {w : World} {M : Nat} {sv : Value} {n : Nat} {f : TF} {L : List TE} (h : TillAt w M sv n f L) : w.cell? ⟨M + 1, 0, none⟩ = some (.map (some M)) ∧ w.cell? ⟨M + 1, 1, none⟩ = some sv ∧ ∃ ao cap, sv = .slice ao L.length cap := by
  refine ⟨(cell_of_row _ _ 0 _ _ _ h.blk).trans rfl, (cell_of_row _ _ 1 _ _ _ h.blk).trans rfl, ?_⟩
  rcases h.row.2 with ⟨rfl, h0⟩ | ⟨g, cap, cur, rfl, _⟩
  · rw [h0]; exact ⟨none, 0, rfl⟩
  · exact ⟨_, cap, rfl⟩
theorem TillAt.entry {w : World} {M : Nat} {ao : Option Addr} {cap : Nat} {n : Nat} {f : TF} {L : List TE} (h : TillAt w M (.slice ao L.length cap) n f L) (k : Nat) (hk : k < L.length) :
    ∃ g, ao = some ⟨g, 0, none⟩ ∧ w.cell? ⟨g, k * 4, none⟩ = some (.int .i64 L[k].1) ∧ w.cell? ⟨g, k * 4 + 1, none⟩ = some (.int .i64 L[k].2.1) ∧ w.cell? ⟨g, k * 4 + 2, none⟩ = some (.int .i64 L[k].2.2.1) ∧ w.cell? ⟨g, k * 4 + 3, none⟩ = some (.int .i64 L[k].2.2.2) := by
  rcases h.row.2 with ⟨_, h0⟩ | ⟨g, cap', cur, hv, _⟩
  · omega
  · simp only [Value.slice.injEq] at hv
    obtain ⟨rfl, _, _⟩ := hv
    obtain ⟨e0, e1, e2, e3⟩ := tflat_get L k hk
    have c := h.row.cells (g := g) rfl
    have ad : ∀ j, (⟨g, 0, none⟩ : Addr).add j = ⟨g, j, none⟩ := fun j => by unfold Addr.add; split <;> simp_all
    exact ⟨g, rfl, (ad _) ▸ c _ _ e0, (ad _) ▸ c _ _ e1, (ad _) ▸ c _ _ e2, (ad _) ▸ c _ _ e3⟩
theorem tsumt_calls (w : World) (M : Nat) (sv : Value) (n : Nat) (f : TF) (L : List TE) (h : TillAt w M sv n f L) (ok : TOk L) (a b : Nat) (s c : Int) (h1 : w.cell? ⟨a, 0, none⟩ = some (.int .i64 s)) (h2 : w.cell? ⟨b, 0, none⟩ = some (.int .i64 c)) :
    Calls Try.prog 38 #[.pointer (some ⟨M + 1, 0, none⟩), .func (Fn.func 39) #[] #[.pointer (some ⟨a, 0, none⟩), .pointer (some ⟨b, 0, none⟩)]] w fun x w' => x = .returned (.int .i64 (tsum (pT s c) L)) ∧ Below w.heap.size w w' := by
  have ha := World.block_lt_of_cell? w _ h1
  have hb := World.block_lt_of_cell? w _ h2
  have hM := h.lt
  obtain ⟨c0, c1, ao, cap, rfl⟩ := h.cells
  have HT := Aside0.mk h
  have HO := Aside0.mk ok
  have H1 := Aside0.mk h1
  have H2 := Aside0.mk h2
  have hlen : L.length ≤ 1000 := ok.1
  clear h ok h1 h2
  have hB := Aside0.mk (Below.refl w.heap.size w)
  go_enter Try.func38, Try.ntmps38
  go_wp2
  go_loopg [15, 5] L.length (fun kq t15 t5 wr => ∃ i : Nat, t15 = .int .i64 i ∧ t5 = .int .i64 (tsum (pT s c) (L.take i)) ∧ i ≤ L.length ∧ Aside0 (L.length - i ≤ kq) ∧ Aside0 (Below w.heap.size w wr))
  case atStart => exact ⟨0, rfl, rfl, by omega, ⟨by omega⟩, hB⟩
  case round =>
    obtain ⟨i, rfl, rfl, hi, HM, HB⟩ := hrel
    by_cases hk : i < L.length
    · have HS := Aside0.mk (tsum_take (pT s c) L i hk)
      have HV := Aside0.mk (tsum_take_bound (pT s c) HO.out i)
      have HV1 := Aside0.mk (tsum_take_bound (pT s c) HO.out (i + 1))
      obtain ⟨S0, hS0⟩ : ∃ S0, tsum (pT s c) (L.take i) = S0 := ⟨_, rfl⟩
      rw [hS0] at HS HV ⊢
      clear hS0
      obtain ⟨g, rfl, d0, d1, d2, d3⟩ := HT.out.entry i hk
      obtain ⟨e, he⟩ : ∃ e, L[i] = e := ⟨_, rfl⟩
      have HA := Aside0.mk (HO.out.2 L[i] (List.getElem_mem _))
      rw [he] at d0 d1 d2 d3 HS HA
      clear he
      have hg := World.block_lt_of_cell? w _ d0
      have f0 := (HB.out.cell (p := ⟨g, i * 4, none⟩) hg).trans d0
      have f1 := (HB.out.cell (p := ⟨g, i * 4 + 1, none⟩) hg).trans d1
      have f2 := (HB.out.cell (p := ⟨g, i * 4 + 2, none⟩) hg).trans d2
      have f3 := (HB.out.cell (p := ⟨g, i * 4 + 3, none⟩) hg).trans d3
      have hi0 : (0 : Int) ≤ (i : Int) := by omega
      have hi1 : (i : Int) < (L.length : Int) := by omega
      clear d0 d1 d2 d3
      go_wp2_with fail
      have B1 := Aside0.mk (below_alloc HB.out (.cells #[.int .i64 e.1, .int .i64 e.2.1, .int .i64 e.2.2.1, .int .i64 e.2.2.2] 64))
      have C1 : Aside0 ((wr.alloc (.cells #[.int .i64 e.1, .int .i64 e.2.1, .int .i64 e.2.2.1, .int .i64 e.2.2.2] 64)).heap[wr.heap.size]? = some (.cells #[.int .i64 e.1, .int .i64 e.2.1, .int .i64 e.2.2.1, .int .i64 e.2.2.2] 64 (0, 0))) := ⟨blk_new wr _⟩
      obtain ⟨q, hq⟩ : ∃ q, (pT s c) e = q := ⟨_, rfl⟩
      have HQ := Aside0.mk hq
      rw [hq] at HS
      clear hq
      have K1 := Aside0.mk ((ttk_calls (wr.alloc (.cells #[.int .i64 e.1, .int .i64 e.2.1, .int .i64 e.2.2.1, .int .i64 e.2.2.2] 64)) e a b s c (((below_alloc HB.out _).cell (p := ⟨a, 0, none⟩) ha).trans H1.out) (((below_alloc HB.out _).cell (p := ⟨b, 0, none⟩) hb).trans H2.out) (Nat.lt_of_lt_of_le ha (below_alloc HB.out _).size) (Nat.lt_of_lt_of_le hb (below_alloc HB.out _).size)).mono (R' := fun (x : Ending) (w' : World) => x = .returned (.bool q) ∧ Below (wr.alloc (.cells #[.int .i64 e.1, .int .i64 e.2.1, .int .i64 e.2.2.1, .int .i64 e.2.2.2] 64)).heap.size (wr.alloc (.cells #[.int .i64 e.1, .int .i64 e.2.1, .int .i64 e.2.2.1, .int .i64 e.2.2.2] 64)) w') (fun x w' hx => by obtain ⟨h1, h2⟩ := hx; exact ⟨h1.trans (by rw [HQ.out]), h2⟩))
      with_reducible refine K1.out.mono ?_
      rintro x w7 ⟨rfl, hb7⟩
      have B7 := Aside0.mk (below_step B1.out hb7)
      have C7 := Aside0.mk (blk_below C1.out hb7)
      clear hb7 K1 B1 C1 f0 f1 f2 f3
      generalize wr.heap.size = g7 at C7 ⊢
      have j2 := (blk_cell C7.out 2).trans rfl
      have j3 := (blk_cell C7.out 3).trans rfl
      have w0 : (0 : Int) + 0 = 0 := rfl
      have a0 := HA.out.1
      have a1 := HA.out.2
      have s0 := HV.out.1
      have s1 := HV.out.2
      obtain ⟨am, ham⟩ : ∃ am, e.2.2.2 = am := ⟨_, rfl⟩
      obtain ⟨et, het⟩ : ∃ et, e.2.2.1 = et := ⟨_, rfl⟩
      have HSE := Aside0.mk (show tsg e = if et = 0 then - am else am by unfold tsg; rw [ham, het])
      rw [ham] at a0 a1 j3
      rw [het] at j2
      clear ham het HA HV
      cases q with
      | false =>
        go_wp2
        go_roundg (L.length - (i + 1))
        case measure => have := HM.out; omega
        case rel => exact ⟨i + 1, by first | rfl | simp, by rw [HS.out]; simp, by omega, ⟨Nat.le_refl _⟩, B7⟩
      | true =>
        by_cases ht : et = 0
        · subst ht
          have z1 : wrap64 (S0 - am) = S0 - am := by unfold wrap64; omega
          go_wp2
          go_roundg (L.length - (i + 1))
          case measure => have := HM.out; omega
          case rel => exact ⟨i + 1, by first | rfl | simp, by rw [HS.out, HSE.out]; simp; omega, by omega, ⟨Nat.le_refl _⟩, B7⟩
        · have e0 : (et == 0) = false := by simpa using ht
          have z1 : wrap64 (S0 + am) = S0 + am := by unfold wrap64; omega
          have HN := Aside0.mk ht
          clear ht
          go_wp2
          go_roundg (L.length - (i + 1))
          case measure => have := HM.out; omega
          case rel => exact ⟨i + 1, by first | rfl | simp, by rw [HS.out, HSE.out, if_neg HN.out]; simp, by omega, ⟨Nat.le_refl _⟩, B7⟩
    · obtain rfl : i = L.length := by omega
      have e1 : decide ((L.length : Int) < (L.length : Int)) = false := by simp
      have HR := Aside0.mk (List.take_length (l := L))
      rw [HR.out]
      go_wp2
      go_ret
      exact ⟨rfl, HB.out⟩
theorem tsumn_calls (w : World) (M : Nat) (sv : Value) (n : Nat) (f : TF) (L : List TE) (h : TillAt w M sv n f L) (ok : TOk L) (a : Nat) (s : Int) (h1 : w.cell? ⟨a, 0, none⟩ = some (.int .i64 s)) :
    Calls Try.prog 38 #[.pointer (some ⟨M + 1, 0, none⟩), .func (Fn.func 40) #[] #[.pointer (some ⟨a, 0, none⟩)]] w fun x w' => x = .returned (.int .i64 (tsum (pN s) L)) ∧ Below w.heap.size w w' := by
  have ha := World.block_lt_of_cell? w _ h1
  have hM := h.lt
  obtain ⟨c0, c1, ao, cap, rfl⟩ := h.cells
  have HT := Aside0.mk h
  have HO := Aside0.mk ok
  have H1 := Aside0.mk h1
  have hlen : L.length ≤ 1000 := ok.1
  clear h ok h1
  have hB := Aside0.mk (Below.refl w.heap.size w)
  go_enter Try.func38, Try.ntmps38
  go_wp2
  go_loopg [15, 5] L.length (fun kq t15 t5 wr => ∃ i : Nat, t15 = .int .i64 i ∧ t5 = .int .i64 (tsum (pN s) (L.take i)) ∧ i ≤ L.length ∧ Aside0 (L.length - i ≤ kq) ∧ Aside0 (Below w.heap.size w wr))
  case atStart => exact ⟨0, rfl, rfl, by omega, ⟨by omega⟩, hB⟩
  case round =>
    obtain ⟨i, rfl, rfl, hi, HM, HB⟩ := hrel
    by_cases hk : i < L.length
    · have HS := Aside0.mk (tsum_take (pN s) L i hk)
      have HV := Aside0.mk (tsum_take_bound (pN s) HO.out i)
      have HV1 := Aside0.mk (tsum_take_bound (pN s) HO.out (i + 1))
      obtain ⟨S0, hS0⟩ : ∃ S0, tsum (pN s) (L.take i) = S0 := ⟨_, rfl⟩
      rw [hS0] at HS HV ⊢
      clear hS0
      obtain ⟨g, rfl, d0, d1, d2, d3⟩ := HT.out.entry i hk
      obtain ⟨e, he⟩ : ∃ e, L[i] = e := ⟨_, rfl⟩
      have HA := Aside0.mk (HO.out.2 L[i] (List.getElem_mem _))
      rw [he] at d0 d1 d2 d3 HS HA
      clear he
      have hg := World.block_lt_of_cell? w _ d0
      have f0 := (HB.out.cell (p := ⟨g, i * 4, none⟩) hg).trans d0
      have f1 := (HB.out.cell (p := ⟨g, i * 4 + 1, none⟩) hg).trans d1
      have f2 := (HB.out.cell (p := ⟨g, i * 4 + 2, none⟩) hg).trans d2
      have f3 := (HB.out.cell (p := ⟨g, i * 4 + 3, none⟩) hg).trans d3
      have hi0 : (0 : Int) ≤ (i : Int) := by omega
      have hi1 : (i : Int) < (L.length : Int) := by omega
      clear d0 d1 d2 d3
      go_wp2_with fail
      have B1 := Aside0.mk (below_alloc HB.out (.cells #[.int .i64 e.1, .int .i64 e.2.1, .int .i64 e.2.2.1, .int .i64 e.2.2.2] 64))
      have C1 : Aside0 ((wr.alloc (.cells #[.int .i64 e.1, .int .i64 e.2.1, .int .i64 e.2.2.1, .int .i64 e.2.2.2] 64)).heap[wr.heap.size]? = some (.cells #[.int .i64 e.1, .int .i64 e.2.1, .int .i64 e.2.2.1, .int .i64 e.2.2.2] 64 (0, 0))) := ⟨blk_new wr _⟩
      obtain ⟨q, hq⟩ : ∃ q, (pN s) e = q := ⟨_, rfl⟩
      have HQ := Aside0.mk hq
      rw [hq] at HS
      clear hq
      have K1 := Aside0.mk ((tnk_calls (wr.alloc (.cells #[.int .i64 e.1, .int .i64 e.2.1, .int .i64 e.2.2.1, .int .i64 e.2.2.2] 64)) e a s (((below_alloc HB.out _).cell (p := ⟨a, 0, none⟩) ha).trans H1.out) (Nat.lt_of_lt_of_le ha (below_alloc HB.out _).size)).mono (R' := fun (x : Ending) (w' : World) => x = .returned (.bool q) ∧ Below (wr.alloc (.cells #[.int .i64 e.1, .int .i64 e.2.1, .int .i64 e.2.2.1, .int .i64 e.2.2.2] 64)).heap.size (wr.alloc (.cells #[.int .i64 e.1, .int .i64 e.2.1, .int .i64 e.2.2.1, .int .i64 e.2.2.2] 64)) w') (fun x w' hx => by obtain ⟨h1, h2⟩ := hx; exact ⟨h1.trans (by rw [HQ.out]), h2⟩))
      with_reducible refine K1.out.mono ?_
      rintro x w7 ⟨rfl, hb7⟩
      have B7 := Aside0.mk (below_step B1.out hb7)
      have C7 := Aside0.mk (blk_below C1.out hb7)
      clear hb7 K1 B1 C1 f0 f1 f2 f3
      generalize wr.heap.size = g7 at C7 ⊢
      have j2 := (blk_cell C7.out 2).trans rfl
      have j3 := (blk_cell C7.out 3).trans rfl
      have w0 : (0 : Int) + 0 = 0 := rfl
      have a0 := HA.out.1
      have a1 := HA.out.2
      have s0 := HV.out.1
      have s1 := HV.out.2
      obtain ⟨am, ham⟩ : ∃ am, e.2.2.2 = am := ⟨_, rfl⟩
      obtain ⟨et, het⟩ : ∃ et, e.2.2.1 = et := ⟨_, rfl⟩
      have HSE := Aside0.mk (show tsg e = if et = 0 then - am else am by unfold tsg; rw [ham, het])
      rw [ham] at a0 a1 j3
      rw [het] at j2
      clear ham het HA HV
      cases q with
      | false =>
        go_wp2
        go_roundg (L.length - (i + 1))
        case measure => have := HM.out; omega
        case rel => exact ⟨i + 1, by first | rfl | simp, by rw [HS.out]; simp, by omega, ⟨Nat.le_refl _⟩, B7⟩
      | true =>
        by_cases ht : et = 0
        · subst ht
          have z1 : wrap64 (S0 - am) = S0 - am := by unfold wrap64; omega
          go_wp2
          go_roundg (L.length - (i + 1))
          case measure => have := HM.out; omega
          case rel => exact ⟨i + 1, by first | rfl | simp, by rw [HS.out, HSE.out]; simp; omega, by omega, ⟨Nat.le_refl _⟩, B7⟩
        · have e0 : (et == 0) = false := by simpa using ht
          have z1 : wrap64 (S0 + am) = S0 + am := by unfold wrap64; omega
          have HN := Aside0.mk ht
          clear ht
          go_wp2
          go_roundg (L.length - (i + 1))
          case measure => have := HM.out; omega
          case rel => exact ⟨i + 1, by first | rfl | simp, by rw [HS.out, HSE.out, if_neg HN.out]; simp, by omega, ⟨Nat.le_refl _⟩, B7⟩
    · obtain rfl : i = L.length := by omega
      have e1 : decide ((L.length : Int) < (L.length : Int)) = false := by simp
      have HR := Aside0.mk (List.take_length (l := L))
      rw [HR.out]
      go_wp2
      go_ret
      exact ⟨rfl, HB.out⟩

theorem ttaken_calls (w : World) (M : Nat) (sv : Value) (n : Nat) (f : TF) (L : List TE) (h : TillAt w M sv n f L) (ok : TOk L) (s c : Int) :
    Calls Try.prog 33 #[.pointer (some ⟨M + 1, 0, none⟩), .int .i64 s, .int .i64 c] w fun x w' => x = .returned (.int .i64 (tsum (pT s c) L)) ∧ Below w.heap.size w w' := by
  have B2 := Aside0.mk (((Below.refl w.heap.size w).alloc (Nat.le_refl _) (.cells #[.int .i64 s] 3)).alloc (by simp) (.cells #[.int .i64 c] 3))
  have K := Aside0.mk (tsumt_calls ((w.alloc (.cells #[.int .i64 s] 3)).alloc (.cells #[.int .i64 c] 3)) M sv n f L (h.kept (F := fun _ => False) (But.of_below B2.out) (fun _ _ e => e)) ok w.heap.size (w.heap.size + 1) s c
    (by simp [World.cell?_alloc_past]) (by simp))
  clear h
  go_enter Try.func33, Try.ntmps33
  go_wp2_with fail
  with_reducible refine K.out.mono ?_
  rintro x w7 ⟨rfl, hb7⟩
  have B7 := Aside0.mk (below_step B2.out hb7)
  clear hb7 K B2
  go_wp2
  go_ret
  exact ⟨rfl, B7.out⟩
theorem tnet_calls (w : World) (M : Nat) (sv : Value) (n : Nat) (f : TF) (L : List TE) (h : TillAt w M sv n f L) (ok : TOk L) (s : Int) :
    Calls Try.prog 34 #[.pointer (some ⟨M + 1, 0, none⟩), .int .i64 s] w fun x w' => x = .returned (.int .i64 (tsum (pN s) L)) ∧ Below w.heap.size w w' := by
  have B2 := Aside0.mk ((Below.refl w.heap.size w).alloc (Nat.le_refl _) (.cells #[.int .i64 s] 3))
  have K := Aside0.mk (tsumn_calls (w.alloc (.cells #[.int .i64 s] 3)) M sv n f L (h.kept (F := fun _ => False) (But.of_below B2.out) (fun _ _ e => e)) ok w.heap.size s (by simp))
  clear h
  go_enter Try.func34, Try.ntmps34
  go_wp2_with fail
  with_reducible refine K.out.mono ?_
  rintro x w7 ⟨rfl, hb7⟩
  have B7 := Aside0.mk (below_step B2.out hb7)
  clear hb7 K B2
  go_wp2
  go_ret
  exact ⟨rfl, B7.out⟩
end Go.Proofs.Ytljfmfkgpnabaaa.Pure
