/- A part of the proof. -/
import Derived.Calls
import Derived.Laws.World
import Derived.Laws.Cells
import Derived.Deep.MidRow
import Derived.Laws.IdiomCopy
import Derived.Laws.Append
import Derived.Laws.StructEq
import Derived.Laws.BytesString
import Derived.Laws.MakeOwn
import Derived.Laws.RangeString
import Derived.Orders
import Derived.Deep.LoopGhost
import Derived.Below
set_option linter.all false
namespace Go.Den
structure Loc where
  b : Nat
  base : Nat
  room : Nat
  ro : Bool
abbrev Ren := Nat → Option Loc
def Ren.le (φ ψ : Ren) : Prop := ∀ n l, φ n = some l → ψ n = some l
theorem Ren.le.refl (φ : Ren) : φ.le φ := fun _ _ h => h
theorem Ren.le.trans {φ ψ χ : Ren} (h : φ.le ψ) (k : ψ.le χ) : φ.le χ := fun n l e => k n l (h n l e)
def flat : Value → Bool
  | .bool _ | .int .. | .float .. | .complex .. | .string _ | .pointer none | .slice none 0 0 | .map none | .chan none | .nilFunc | .nilIface => true
  | _ => false
inductive VRel (φ : Ren) : Value → Value → Prop
  | flat {v : Value} (h : flat v = true) : VRel φ v v
  | ptr {a : Addr} {l : Loc} (h : φ a.block = some l) (hs : a.spot = none) : VRel φ (.pointer (some a)) (.pointer (some ⟨l.b, l.base + a.off, none⟩))
  | slice {a : Addr} {l : Loc} {n c c' o : Nat} (h : φ a.block = some l) (hs : a.spot = none) (hn : n ≤ c') (hr : l.ro = true ∨ a.off + c' * c ≤ l.room) (ho : o = l.base + a.off ∨ c' = 0) (hz : c = 0 → c' = 0) :
      VRel φ (.slice (some a) n c) (.slice (some ⟨l.b, o, none⟩) n c')
  | map {r : Nat} {l : Loc} (h : φ r = some l) : VRel φ (.map (some r)) (.map (some l.b))
  | func {fn : Fn} {fs fs' xs xs' : Array Value} (hf : fs.size = fs'.size) (h1 : ∀ (i : Nat) (v u : Value), fs[i]? = some v → fs'[i]? = some u → VRel φ v u)
      (hx : xs.size = xs'.size) (h2 : ∀ (i : Nat) (v u : Value), xs[i]? = some v → xs'[i]? = some u → VRel φ v u) : VRel φ (.func fn fs xs) (.func fn fs' xs')
  | iface {t : TypeId} {v u : Value} (h : VRel φ v u) : VRel φ (.iface t v) (.iface t u)
  | agg {xs xs' : Array Value} (hx : xs.size = xs'.size) (h : ∀ (i : Nat) (v u : Value), xs[i]? = some v → xs'[i]? = some u → VRel φ v u) : VRel φ (.agg xs) (.agg xs')
  | tuple {xs xs' : Array Value} (hx : xs.size = xs'.size) (h : ∀ (i : Nat) (v u : Value), xs[i]? = some v → xs'[i]? = some u → VRel φ v u) : VRel φ (.tuple xs) (.tuple xs')
theorem VRel.mono {φ ψ : Ren} (hle : φ.le ψ) {v u : Value} (h : VRel φ v u) : VRel ψ v u := by
  induction h with
  | flat h => exact .flat h
  | ptr h hs => exact .ptr (hle _ _ h) hs
  | slice h hs hn hr ho hz => exact .slice (hle _ _ h) hs hn hr ho hz
  | map h => exact .map (hle _ _ h)
  | func hf _ hx _ i1 i2 => exact .func hf i1 hx i2
  | iface _ ih => exact .iface ih
  | agg hx _ ih => exact .agg hx ih
  | tuple hx _ ih => exact .tuple hx ih
def ARel (φ : Ren) (xs ys : Array Value) : Prop := xs.size = ys.size ∧ ∀ (i : Nat) (v u : Value), xs[i]? = some v → ys[i]? = some u → VRel φ v u
theorem ARel.mono {φ ψ : Ren} (hle : φ.le ψ) {xs ys : Array Value} (h : ARel φ xs ys) : ARel ψ xs ys := ⟨h.1, fun i v u a b => (h.2 i v u a b).mono hle⟩
theorem ARel.get {φ : Ren} {xs ys : Array Value} (h : ARel φ xs ys) {i : Nat} {v : Value} (hv : xs[i]? = some v) : ∃ u, ys[i]? = some u ∧ VRel φ v u := by
  have hi : i < ys.size := by
    rcases Nat.lt_or_ge i xs.size with k | k
    · have := h.1; omega
    · rw [Array.getElem?_eq_none k] at hv; cases hv
  exact ⟨ys[i], Array.getElem?_eq_getElem hi, h.2 i v _ hv (Array.getElem?_eq_getElem hi)⟩
theorem ARel.nil (φ : Ren) : ARel φ #[] #[] := ⟨rfl, fun i v u a => by simp at a⟩
theorem VRel.undef (φ : Ren) : VRel φ undef undef := .tuple rfl fun i v u a => by simp at a
theorem ARel.cells {φ : Ren} {v u : Value} (h : VRel φ v u) : ARel φ v.cells u.cells := by
  have one : ∀ x y : Value, VRel φ x y → ARel φ #[x] #[y] := fun x y hxy => ⟨rfl, fun i a b ha hb => by
    match i with
    | 0 => simp at ha hb; subst ha; subst hb; exact hxy
    | i + 1 => simp at ha⟩
  cases h with
  | flat h => 
    have : ∀ v : Value, Den.flat v = true → v.cells = #[v] := fun v hv => by cases v <;> first | rfl | simp [Den.flat] at hv
    rw [this _ h]; exact one _ _ (.flat h)
  | ptr h hs => exact one _ _ (.ptr h hs)
  | slice h hs hn hr ho hz => exact one _ _ (.slice h hs hn hr ho hz)
  | map h => exact one _ _ (.map h)
  | func hf h1 hx h2 => exact one _ _ (.func hf h1 hx h2)
  | iface h => exact one _ _ (.iface h)
  | agg hx h => exact ⟨hx, h⟩
  | tuple hx h => exact one _ _ (.tuple hx h)
def allA {α : Type} (xs : Array α) (p : α → Bool) : Bool := xs.toList.all p
theorem allA_mem {α : Type} {xs : Array α} {p : α → Bool} : allA xs p = true ↔ ∀ x ∈ xs, p x = true := by
  unfold allA
  rw [List.all_eq_true]
  exact ⟨fun h x hx => h x (by simpa using hx), fun h x hx => h x (by simpa using hx)⟩
inductive Blk where
  | cells (ro : Bool) (vs : List Value)
  | map (es : List MapEntry) (clock : Nat)
  | iter (s : ByteArray) (pos : Nat)
  | dead
abbrev Mem := List Blk
def Blk.live : Blk → Bool
  | .dead => false
  | _ => true
def Blk.wr : Blk → Bool
  | .cells ro _ => !ro
  | .dead => false
  | _ => true
def ERel (φ : Ren) (e e' : MapEntry) : Prop := VRel φ e.key e'.key ∧ VRel φ e.val e'.val ∧ e.born = e'.born
def BRel (φ : Ren) (w : World) (l : Loc) : Blk → Prop
  | .cells ro vs => l.ro = ro ∧ (∀ (i : Nat) (v : Value), vs[i]? = some v → ∃ v', w.cell? ⟨l.b, l.base + i, none⟩ = some v' ∧ VRel φ v v') ∧
      (ro = false → vs.length ≤ l.room ∧ ∀ j, j < l.room → (∃ v', w.cell? ⟨l.b, l.base + j, none⟩ = some v') ∧ w.frozen? ⟨l.b, l.base + j, none⟩ = false)
  | .map es clock => l.ro = false ∧ ∃ es' : Array MapEntry, w.heap[l.b]? = some (.map es' clock) ∧ es.length = es'.size ∧ ∀ (i : Nat) (e e' : MapEntry), es[i]? = some e → es'[i]? = some e' → ERel φ e e'
  | .iter s pos => l.ro = false ∧ l.base = 0 ∧ w.heap[l.b]? = some (.stringIter s pos)
  | .dead => True
structure MRel (φ : Ren) (H : Mem) (w : World) : Prop where
  dom : ∀ n l, φ n = some l → n < H.length ∧ l.b < w.heap.size
  blk : ∀ n l k, φ n = some l → H[n]? = some k → BRel φ w l k
  inj : ∀ n m l l' k k', φ n = some l → φ m = some l' → H[n]? = some k → H[m]? = some k' → k.wr = true → k'.live = true → n ≠ m → l.b ≠ l'.b
def Wr (φ : Ren) (H : Mem) (b : Nat) : Prop := ∃ n l k, φ n = some l ∧ H[n]? = some k ∧ k.wr = true ∧ l.b = b
structure Ext (φ : Ren) (H : Mem) (w : World) (φ' : Ren) (H' : Mem) (w' : World) : Prop where
  le : φ.le φ'
  size : w.heap.size ≤ w'.heap.size
  len : H.length ≤ H'.length
  wr : ∀ b, b < w.heap.size → Wr φ' H' b → Wr φ H b
  keep : ∀ b, b < w.heap.size → ¬ Wr φ H b → w'.heap[b]? = w.heap[b]?
  dark : ∀ n k, φ n = none → H[n]? = some k → φ' n = none ∧ H'[n]? = some k
  os : w'.os = w.os
  out : w'.output = w.output
  tape : w'.tape = w.tape
theorem Ext.refl (φ : Ren) (H : Mem) (w : World) : Ext φ H w φ H w := ⟨.refl φ, Nat.le_refl _, Nat.le_refl _, fun _ _ h => h, fun _ _ _ => rfl, fun _ _ a b => ⟨a, b⟩, rfl, rfl, rfl⟩
theorem Ext.trans {φ₁ φ₂ φ₃ : Ren} {H₁ H₂ H₃ : Mem} {w₁ w₂ w₃ : World} (h : Ext φ₁ H₁ w₁ φ₂ H₂ w₂) (k : Ext φ₂ H₂ w₂ φ₃ H₃ w₃) : Ext φ₁ H₁ w₁ φ₃ H₃ w₃ where
  le := h.le.trans k.le
  size := Nat.le_trans h.size k.size
  len := Nat.le_trans h.len k.len
  wr b hb hw := h.wr b hb (k.wr b (Nat.lt_of_lt_of_le hb h.size) hw)
  keep b hb hw := (k.keep b (Nat.lt_of_lt_of_le hb h.size) (fun x => hw (h.wr b hb x))).trans (h.keep b hb hw)
  dark n b h1 h2 := let ⟨a, c⟩ := h.dark n b h1 h2; k.dark n b a c
  os := k.os.trans h.os
  out := k.out.trans h.out
  tape := k.tape.trans h.tape
theorem Ext.drew (φ : Ren) (H : Mem) (w : World) : Ext φ H w φ H w.drew := ⟨.refl φ, Nat.le_refl _, Nat.le_refl _, fun _ _ h => h, fun _ _ _ => rfl, fun _ _ a b => ⟨a, b⟩, rfl, rfl, rfl⟩
def Ren.put (φ : Ren) (n : Nat) (l : Loc) : Ren := fun m => if m = n then some l else φ m
theorem MRel.none_at {φ : Ren} {H : Mem} {w : World} (h : MRel φ H w) {n : Nat} (hn : H.length ≤ n) : φ n = none := by
  cases e : φ n with
  | none => rfl
  | some l => have := (h.dom n l e).1; omega
theorem Ren.le_put {φ : Ren} {n : Nat} (h : φ n = none) (l : Loc) : φ.le (φ.put n l) := fun m k e => by
  unfold Ren.put
  split
  · rename_i x; subst x; rw [h] at e; cases e
  · exact e
theorem BRel.mono {φ ψ : Ren} (hle : φ.le ψ) {w w' : World} {l : Loc} (hw : w'.heap[l.b]? = w.heap[l.b]?) {k : Blk} (h : BRel φ w l k) : BRel ψ w' l k := by
  have hc : ∀ i, w'.cell? ⟨l.b, i, none⟩ = w.cell? ⟨l.b, i, none⟩ := fun i => by simp only [World.cell?, hw]
  have hf : ∀ i, w'.frozen? ⟨l.b, i, none⟩ = w.frozen? ⟨l.b, i, none⟩ := fun i => by simp only [World.frozen?, hw]
  cases k with
  | cells ro vs =>
    obtain ⟨h1, h2, h3⟩ := h
    refine ⟨h1, fun i v hv => ?_, fun hr => ⟨(h3 hr).1, fun j hj => ?_⟩⟩
    · obtain ⟨v', hv', hr⟩ := h2 i v hv
      exact ⟨v', by rw [hc]; exact hv', hr.mono hle⟩
    · rw [hc, hf]; exact (h3 hr).2 j hj
  | map es clock =>
    obtain ⟨h0, es', h1, h2, h3⟩ := h
    exact ⟨h0, es', by rw [hw]; exact h1, h2, fun i e e' a b => let ⟨x, y, z⟩ := h3 i e e' a b; ⟨x.mono hle, y.mono hle, z⟩⟩
  | iter s pos => exact ⟨h.1, h.2.1, by rw [hw]; exact h.2.2⟩
  | dead => exact True.intro
theorem MRel.drew {φ : Ren} {H : Mem} {w : World} (h : MRel φ H w) : MRel φ H w.drew := ⟨h.dom, fun n l k a b => (h.blk n l k a b).mono (.refl φ) rfl, h.inj⟩
theorem get?_append_one {α : Type} (H : List α) (k : α) (n : Nat) : (H ++ [k])[n]? = if n = H.length then some k else H[n]? := by
  rcases Nat.lt_trichotomy n H.length with h | h | h
  · rw [List.getElem?_append_left h, if_neg (by omega)]
  · subst h; rw [if_pos rfl, List.getElem?_append_right (Nat.le_refl _)]; simp
  · rw [if_neg (by omega), List.getElem?_append_right (by omega), List.getElem?_eq_none (by simp; omega), List.getElem?_eq_none (by omega)]
theorem MRel.push {φ : Ren} {H : Mem} {w : World} (h : MRel φ H w) (o : Obj) (k : Blk) (l : Loc) (hl : l.b = w.heap.size) (hk : k.live = true → l.ro = !k.wr)
    (hb : BRel (φ.put H.length l) (w.alloc o) l k) :
    MRel (φ.put H.length l) (H ++ [k]) (w.alloc o) ∧ Ext φ H w (φ.put H.length l) (H ++ [k]) (w.alloc o) := by
  have hn := h.none_at (Nat.le_refl H.length)
  have hold : ∀ n m, φ n = some m → n ≠ H.length := fun n m e x => by have := (h.dom n m e).1; omega
  have hput : ∀ n m, φ.put H.length l n = some m → (n = H.length ∧ m = l) ∨ (n ≠ H.length ∧ φ n = some m) := fun n m e => by
    unfold Ren.put at e
    split at e
    · cases e; exact .inl ⟨by assumption, rfl⟩
    · exact .inr ⟨by assumption, e⟩
  have hheap : ∀ b, b < w.heap.size → (w.alloc o).heap[b]? = w.heap[b]? := fun b hb => by
    show (w.heap.push o)[b]? = _
    rw [Array.getElem?_push, if_neg (by omega)]
  refine ⟨⟨fun n m e => ?_, fun n m k' e hk' => ?_, fun n m a b c d e1 e2 e3 e4 e5 e6 e7 => ?_⟩, ⟨Ren.le_put hn l, by simp, by simp, fun b hb hw => ?_, fun b hb _ => hheap b hb, fun n k' e1 e2 => ?_, rfl, rfl, rfl⟩⟩
  · rcases hput n m e with ⟨x, y⟩ | ⟨x, y⟩
    · subst y; simp [x, hl]
    · have := h.dom n m y; simp; omega
  · rw [get?_append_one] at hk'
    rcases hput n m e with ⟨x, y⟩ | ⟨x, y⟩
    · rw [if_pos x] at hk'; cases hk'; subst y; exact hb
    · rw [if_neg x] at hk'
      exact (h.blk n m k' y hk').mono (Ren.le_put hn l) (hheap _ (h.dom n m y).2)
  · rw [get?_append_one] at e3 e4
    rcases hput n a e1 with ⟨x, y⟩ | ⟨x, y⟩ <;> rcases hput m b e2 with ⟨x', y'⟩ | ⟨x', y'⟩
    · omega
    · subst y; have := (h.dom m b y').2; omega
    · subst y'; have := (h.dom n a y).2; omega
    · rw [if_neg x] at e3; rw [if_neg x'] at e4
      exact h.inj n m a b c d y y' e3 e4 e5 e6 e7
  · obtain ⟨n, m, k', e1, e2, e3, e4⟩ := hw
    rw [get?_append_one] at e2
    rcases hput n m e1 with ⟨x, y⟩ | ⟨x, y⟩
    · subst y; omega
    · rw [if_neg x] at e2; exact ⟨n, m, k', y, e2, e3, e4⟩
  · have hlt : n < H.length := by
      rcases Nat.lt_or_ge n H.length with x | x
      · exact x
      · rw [List.getElem?_eq_none x] at e2; cases e2
    refine ⟨?_, ?_⟩
    · unfold Ren.put; rw [if_neg (by omega)]; exact e1
    · rw [get?_append_one, if_neg (by omega)]; exact e2
end Go.Den
namespace Go.Den
open Go
def splice (vs : List Value) (o : Nat) (us : List Value) : List Value := vs.take o ++ us ++ vs.drop (o + us.length)
theorem splice_length (vs : List Value) (o : Nat) (us : List Value) (h : o + us.length ≤ vs.length) : (splice vs o us).length = vs.length := by
  simp [splice]; omega
theorem splice_get (vs : List Value) (o : Nat) (us : List Value) (h : o + us.length ≤ vs.length) (i : Nat) :
    (splice vs o us)[i]? = if i < o then vs[i]? else if i < o + us.length then us[i - o]? else vs[i]? := by
  unfold splice
  have hl : (vs.take o).length = o := by simp; omega
  split
  · rename_i hi
    rw [List.append_assoc, List.getElem?_append_left (by omega), List.getElem?_take_of_lt hi]
  · rename_i hi
    split
    · rename_i hj
      rw [List.append_assoc, List.getElem?_append_right (by omega), hl, List.getElem?_append_left (by omega)]
    · rename_i hj
      rw [List.getElem?_append_right (by simp; omega)]
      simp only [List.length_append, hl, List.getElem?_drop]
      congr 1; omega
theorem MRel.store {φ : Ren} {H : Mem} {w : World} (h : MRel φ H w) {n o : Nat} {l : Loc} {vs : List Value} (hn : φ n = some l) (hb : H[n]? = some (.cells false vs))
    (us us' : List Value) (ho : o + us.length ≤ vs.length) (hu : us.length = us'.length) (hr : ∀ (i : Nat) (v u : Value), us[i]? = some v → us'[i]? = some u → VRel φ v u) :
    w.there l.b (l.base + o) us'.length ∧ MRel φ (H.set n (.cells false (splice vs o us))) (w.setCells l.b (l.base + o) us') ∧
      Ext φ H w φ (H.set n (.cells false (splice vs o us))) (w.setCells l.b (l.base + o) us') := by
  have hnl := (h.dom n l hn)
  obtain ⟨b1, b2, b3⟩ := h.blk n l _ hn hb
  obtain ⟨b4, b5⟩ := b3 rfl
  have hthere : w.there l.b (l.base + o) us'.length := fun j hj => by
    obtain ⟨⟨v', hv⟩, hf⟩ := b5 (o + j) (by omega)
    rw [Nat.add_assoc]; exact ⟨by simp [hv], hf⟩
  have hsz : ∀ (vs : List Value) (o b : Nat) (w : World), (w.setCells b o vs).heap.size = w.heap.size := by
    intro vs
    induction vs with
    | nil => intros; rfl
    | cons v r ih => intro o b w; rw [World.setCells, ih, World.size_setCell]
  have hoth : ∀ (vs : List Value) (o b : Nat) (w : World) (c : Nat), c ≠ b → (w.setCells b o vs).heap[c]? = w.heap[c]? := by
    intro vs
    induction vs with
    | nil => intros; rfl
    | cons v r ih =>
      intro o b w c hc
      rw [World.setCells, ih _ _ _ _ hc]
      simp only [World.setCell, Array.getElem?_modify]
      rw [if_neg (by omega)]
  have hos : ∀ (vs : List Value) (o b : Nat) (w : World), (w.setCells b o vs).os = w.os ∧ (w.setCells b o vs).output = w.output ∧ (w.setCells b o vs).tape = w.tape := by
    intro vs
    induction vs with
    | nil => intros; exact ⟨rfl, rfl, rfl⟩
    | cons v r ih => intro o b w; rw [World.setCells]; obtain ⟨x, y, z⟩ := ih (o + 1) b (w.setCell ⟨b, o, none⟩ v); exact ⟨x, y, z⟩
  have hset : ∀ (m : Nat) (k : Blk), (H.set n (.cells false (splice vs o us)))[m]? = some k → (m = n ∧ k = .cells false (splice vs o us)) ∨ (m ≠ n ∧ H[m]? = some k) := by
    intro m k hk
    by_cases e : m = n
    · subst e
      rw [List.getElem?_set_self hnl.1] at hk
      exact .inl ⟨rfl, by cases hk; rfl⟩
    · rw [List.getElem?_set_ne (Ne.symm e)] at hk; exact .inr ⟨e, hk⟩
  refine ⟨hthere, ⟨fun m k hk => ?_, fun m k k' hk hk' => ?_, fun m p a b c d e1 e2 e3 e4 e5 e6 e7 => ?_⟩, ⟨.refl φ, by rw [hsz]; exact Nat.le_refl _, by simp, fun b hb' hw => ?_, fun b hb' hw => ?_, fun m k' e1 e2 => ?_, (hos _ _ _ _).1, (hos _ _ _ _).2.1, (hos _ _ _ _).2.2⟩⟩
  · have := h.dom m k hk; rw [hsz]; simpa using this
  · rcases hset m k' hk' with ⟨x, y⟩ | ⟨x, y⟩
    · subst x; subst y
      obtain rfl : k = l := by rw [hn] at hk; cases hk; rfl
      refine ⟨b1, fun i v hv => ?_, fun _ => ⟨by rw [splice_length _ _ _ ho]; exact b4, fun j hj => ⟨?_, ?_⟩⟩⟩
      · rw [splice_get _ _ _ ho] at hv
        by_cases h1 : i < o
        · rw [if_pos h1] at hv
          obtain ⟨v', hv', hr'⟩ := b2 i v hv
          exact ⟨v', by rw [World.cell?_setCells_out _ _ _ _ _ (fun _ _ => .inl (by simp; omega))]; exact hv', hr'⟩
        · rw [if_neg h1] at hv
          by_cases h2 : i < o + us.length
          · rw [if_pos h2] at hv
            have hlt : i - o < us'.length := by omega
            refine ⟨us'[i - o], ?_, hr _ _ _ hv (List.getElem?_eq_getElem hlt)⟩
            have := World.cell?_setCells_in k.b us' (k.base + o) w (fun j hj => (hthere j hj).1) (i - o) hlt
            rwa [show k.base + o + (i - o) = k.base + i by omega] at this
          · rw [if_neg h2] at hv
            obtain ⟨v', hv', hr'⟩ := b2 i v hv
            exact ⟨v', by rw [World.cell?_setCells_out _ _ _ _ _ (fun _ _ => .inr (by simp; omega))]; exact hv', hr'⟩
      · by_cases h1 : o ≤ j ∧ j < o + us'.length
        · have := World.cell?_setCells_in k.b us' (k.base + o) w (fun j hj => (hthere j hj).1) (j - o) (by omega)
          rw [show k.base + o + (j - o) = k.base + j by omega] at this
          exact ⟨_, this⟩
        · rw [World.cell?_setCells_out _ _ _ _ _ (fun _ _ => by simp; omega)]; exact (b5 j hj).1
      · rw [World.frozen?_setCells]; exact (b5 j hj).2
    · have hB := h.blk m k k' hk y
      by_cases hd : k'.live = true
      · have : l.b ≠ k.b := h.inj n m l k _ k' hn hk hb y rfl hd (Ne.symm x)
        exact hB.mono (.refl φ) (hoth _ _ _ _ _ (Ne.symm this))
      · cases k' <;> first | exact True.intro | (simp [Blk.live] at hd)
  · have hl : ∀ (m : Nat) (k : Blk), (H.set n (.cells false (splice vs o us)))[m]? = some k → ∃ k', H[m]? = some k' ∧ k'.live = k.live ∧ k'.wr = k.wr := by
      intro m k hk
      rcases hset m k hk with ⟨x, y⟩ | ⟨x, y⟩
      · subst x; subst y; exact ⟨_, hb, rfl, rfl⟩
      · exact ⟨k, y, rfl, rfl⟩
    obtain ⟨c', c1, c2, c3⟩ := hl m c e3
    obtain ⟨d', d1, d2, d3⟩ := hl p d e4
    exact h.inj m p a b c' d' e1 e2 c1 d1 (c3.trans e5) (d2.trans e6) e7
  · obtain ⟨m, k, k', f1, f2, f3, f4⟩ := hw
    rcases hset m k' f2 with ⟨x, y⟩ | ⟨x, y⟩
    · subst x; subst y; exact ⟨m, k, _, f1, hb, rfl, f4⟩
    · exact ⟨m, k, k', f1, y, f3, f4⟩
  · exact hoth _ _ _ _ _ (fun e => hw ⟨n, l, _, hn, hb, rfl, e.symm⟩)
  · refine ⟨e1, ?_⟩
    have : m ≠ n := fun e => by subst e; rw [hn] at e1; cases e1
    rw [List.getElem?_set_ne (Ne.symm this)]; exact e2
end Go.Den
namespace Go.Den
open Go
theorem VRel.int_inv {φ : Ren} {k : IntKind} {n : Int} {u : Value} (h : VRel φ (.int k n) u) : u = .int k n := by cases h; rfl
theorem VRel.bool_inv {φ : Ren} {b : Bool} {u : Value} (h : VRel φ (.bool b) u) : u = .bool b := by cases h; rfl
theorem VRel.string_inv {φ : Ren} {b : ByteArray} {u : Value} (h : VRel φ (.string b) u) : u = .string b := by cases h; rfl
theorem VRel.nil_inv {φ : Ren} {u : Value} (h : VRel φ (.pointer none) u) : u = .pointer none := by cases h; rfl
theorem VRel.ptr_inv {φ : Ren} {a : Addr} {u : Value} (h : VRel φ (.pointer (some a)) u) : ∃ l, φ a.block = some l ∧ a.spot = none ∧ u = .pointer (some ⟨l.b, l.base + a.off, none⟩) := by
  cases h with
  | flat h => simp [Den.flat] at h
  | ptr h hs => exact ⟨_, h, hs, rfl⟩
theorem VRel.slice_inv {φ : Ren} {a : Addr} {n c : Nat} {u : Value} (h : VRel φ (.slice (some a) n c) u) :
    ∃ l c' o, φ a.block = some l ∧ a.spot = none ∧ n ≤ c' ∧ (l.ro = true ∨ a.off + c' * c ≤ l.room) ∧ (o = l.base + a.off ∨ c' = 0) ∧ u = .slice (some ⟨l.b, o, none⟩) n c' := by
  cases h with
  | flat h => simp [Den.flat] at h
  | slice h hs hn hr ho hz => exact ⟨_, _, _, h, hs, hn, hr, ho, rfl⟩
theorem VRel.slice_zero {φ : Ren} {a : Addr} {n : Nat} {b : Option Addr} {m c' : Nat} (h : VRel φ (.slice (some a) n 0) (.slice b m c')) : c' = 0 := by
  cases h with
  | flat h => simp [Den.flat] at h
  | slice h hs hn hr ho hz => exact hz rfl
theorem VRel.slice_size {φ : Ren} {a : Addr} {n c : Nat} {b : Option Addr} {m c' : Nat} (h : VRel φ (.slice (some a) n c) (.slice b m c')) : c = 0 → c' = 0 := by
  cases h with
  | flat h => simp [Den.flat] at h
  | slice h hs hn hr ho hz => exact hz
theorem VRel.noslice_inv {φ : Ren} {n c : Nat} {u : Value} (h : VRel φ (.slice none n c) u) : n = 0 ∧ c = 0 ∧ u = .slice none 0 0 := by
  cases h with
  | flat h => 
    match n, c, h with
    | 0, 0, _ => exact ⟨rfl, rfl, rfl⟩
theorem VRel.agg_inv {φ : Ren} {xs : Array Value} {u : Value} (h : VRel φ (.agg xs) u) : ∃ ys, u = .agg ys ∧ ARel φ xs ys := by
  cases h with
  | flat h => simp [Den.flat] at h
  | agg hx h => exact ⟨_, rfl, hx, h⟩
theorem VRel.tuple_inv {φ : Ren} {xs : Array Value} {u : Value} (h : VRel φ (.tuple xs) u) : ∃ ys, u = .tuple ys ∧ ARel φ xs ys := by
  cases h with
  | flat h => simp [Den.flat] at h
  | tuple hx h => exact ⟨_, rfl, hx, h⟩
theorem VRel.map_inv {φ : Ren} {r : Nat} {u : Value} (h : VRel φ (.map (some r)) u) : ∃ l, φ r = some l ∧ u = .map (some l.b) := by
  cases h with
  | flat h => simp [Den.flat] at h
  | map h => exact ⟨_, h, rfl⟩
theorem ARel.agg {φ : Ren} {xs ys : Array Value} (h : ARel φ xs ys) : VRel φ (.agg xs) (.agg ys) := .agg h.1 h.2
theorem ARel.tup {φ : Ren} {xs ys : Array Value} (h : ARel φ xs ys) : VRel φ (.tuple xs) (.tuple ys) := .tuple h.1 h.2
def Done (φ : Ren) (H : Mem) (w : World) (r : Result Next) (v : Value) (H' : Mem) : Prop :=
  ∃ φ' v' w' nx, r = .ok nx w' ∧ (nx = .value v' ∨ (nx = .skip ∧ v' = undef)) ∧ Ext φ H w φ' H' w' ∧ VRel φ' v v' ∧ MRel φ' H' w'
theorem Done.pure {φ : Ren} {H : Mem} {w : World} {v v' : Value} (hM : MRel φ H w) (h : VRel φ v v') {r : Result Next} (hr : r = .ok (.value v') w) : Done φ H w r v H :=
  ⟨φ, v', w, _, hr, .inl rfl, .refl _ _ _, h, hM⟩
def Same (φ : Ren) (ρ ρ' : Operand → Value) (o : Oper) : Prop := ∀ x ∈ o.op.operands, VRel φ (ρ x) (ρ' x)
section
variable {P : Program} {φ : Ren} {H H' : Mem} {w : World} {ρ ρ' : Operand → Value} {o : Oper} {v : Value}
def absInt (op : BinOp) (k : IntKind) (a b : Int) : Option Value :=
  match op with
  | .add => some (.int k (k.wrap (a + b)))
  | .sub => some (.int k (k.wrap (a - b)))
  | .mul => some (.int k (k.wrap (a * b)))
  | .quo => if b = 0 then none else some (.int k (k.wrap (a.tdiv b)))
  | .rem => if b = 0 then none else some (.int k (a.tmod b))
  | .and => some (.int k (k.wrap (BitVec.ofInt k.bits a &&& BitVec.ofInt k.bits b).toNat))
  | .or => some (.int k (k.wrap (BitVec.ofInt k.bits a ||| BitVec.ofInt k.bits b).toNat))
  | .xor => some (.int k (k.wrap (BitVec.ofInt k.bits a ^^^ BitVec.ofInt k.bits b).toNat))
  | .andNot => some (.int k (k.wrap (BitVec.ofInt k.bits a &&& ~~~(BitVec.ofInt k.bits b)).toNat))
  | .eql => some (.bool (a == b))
  | .neq => some (.bool (a != b))
  | .lss => some (.bool (a < b))
  | .leq => some (.bool (a ≤ b))
  | .gtr => some (.bool (a > b))
  | .geq => some (.bool (a ≥ b))
  | _ => none
def absShift (op : BinOp) (k : IntKind) (a b : Int) : Option Value :=
  if b < 0 then none else
  match op with
  | .shl => some (.int k (k.wrap (a * 2 ^ min b.toNat k.bits)))
  | .shr => some (.int k (a.fdiv (2 ^ min b.toNat k.bits)))
  | _ => none
def absStr (op : BinOp) (x y : ByteArray) : Option Value :=
  match op with
  | .add => if ((x.size + y.size : Nat) : Int) > IntKind.i64.max then none else some (.string (x ++ y))
  | .eql => some (.bool (x.toList == y.toList))
  | .neq => some (.bool (!(x.toList == y.toList)))
  | _ => none
def absBin (op : BinOp) (x y : Value) : Option Value :=
  match op, x, y with
  | .shl, .int k a, .int _ b => absShift .shl k a b
  | .shr, .int k a, .int _ b => absShift .shr k a b
  | op, .int k a, .int k' b => if k = k' then absInt op k a b else none
  | op, .string a, .string b => absStr op a b
  | _, _, _ => none
theorem absInt_run {op : BinOp} {k : IntKind} {a b : Int} (t : TypeId) (h : absInt op k a b = some v) : (binOp op t (.int k a) (.int k b)).run P w = .ok v w ∧ flat v = true := by
  cases op <;> simp only [absInt] at h <;> first
    | (cases h; done)
    | (cases h; simp [binOp, Op.intArith, Op.intBits, Op.intCmp, Den.flat]; done)
    | (split at h
       · cases h
       · rename_i hb; cases h; simp [binOp, Op.intDiv, hb, Den.flat])
theorem absShift_run {op : BinOp} {k k' : IntKind} {a b : Int} (t : TypeId) (h : absShift op k a b = some v) : (binOp op t (.int k a) (.int k' b)).run P w = .ok v w ∧ flat v = true := by
  unfold absShift at h
  split at h
  · cases h
  · rename_i hb
    cases op <;> simp only at h <;> first
      | (cases h; done)
      | (cases h; simp [binOp, Op.shift, hb, Den.flat])
theorem absStr_run {op : BinOp} {a b : ByteArray} (t : TypeId) (h : absStr op a b = some v) : (binOp op t (.string a) (.string b)).run P w = .ok v w ∧ flat v = true := by
  cases op <;> simp only [absStr] at h <;> first
    | (cases h; done)
    | (cases h; simp [binOp, Op.stringOp, Den.flat]; done)
    | (split at h
       · cases h
       · rename_i hb; cases h
         refine ⟨?_, rfl⟩
         show (if _ then _ else _ : Sem Value).run P w = _
         rw [if_neg hb]; rfl)
theorem absBin_run {op : BinOp} {x y : Value} (t : TypeId) (h : absBin op x y = some v) : (binOp op t x y).run P w = .ok v w ∧ flat v = true ∧ flat x = true ∧ flat y = true := by
  unfold absBin at h
  split at h
  · exact ⟨(absShift_run t h).1, (absShift_run (P := P) (w := w) (k' := .i64) t h).2, rfl, rfl⟩
  · exact ⟨(absShift_run t h).1, (absShift_run (P := P) (w := w) (k' := .i64) t h).2, rfl, rfl⟩
  · split at h
    · rename_i e; subst e; exact ⟨(absInt_run t h).1, (absInt_run (P := P) (w := w) t h).2, rfl, rfl⟩
    · cases h
  · exact ⟨(absStr_run t h).1, (absStr_run (P := P) (w := w) t h).2, rfl, rfl⟩
  · cases h
end
end Go.Den
namespace Go.Den
open Go
section
variable {P : Program} {φ : Ren} {H H' : Mem} {w : World} {ρ ρ' : Operand → Value} {o : Oper} {v : Value}
theorem ARel.extract {xs ys : Array Value} (h : ARel φ xs ys) (a b : Nat) : ARel φ (xs.extract a b) (ys.extract a b) := by
  refine ⟨by simp [h.1], fun i v u hv hu => ?_⟩
  rw [Array.getElem?_extract] at hv hu
  split at hv
  · split at hu
    · exact h.2 _ _ _ hv hu
    · cases hu
  · cases hv
theorem ARel.of_list {us us' : List Value} (hl : us.length = us'.length) (h : ∀ (i : Nat) (v u : Value), us[i]? = some v → us'[i]? = some u → VRel φ v u) : ARel φ us.toArray us'.toArray :=
  ⟨by simpa using hl, fun i v u a b => h i v u (by simpa using a) (by simpa using b)⟩
def absPart (P : Program) (t : TypeId) (xs : Array Value) (off : Nat) : Option Value :=
  match P.underlying t, P.info? t with
  | some d, some i => if d.isRow then some (.agg (xs.extract off (off + i.size))) else xs[off]?
  | _, _ => none
theorem run_isAgg {t : TypeId} {d : TypeDesc} (hd : P.underlying t = some d) : (isAgg t).run P w = .ok d.isRow w := by
  unfold isAgg
  rw [Sem.run_bind, run_underlying hd w]
  cases d <;> rfl
theorem run_sizeOf {t : TypeId} {i : TypeInfo} (hi : P.info? t = some i) : (sizeOf t).run P w = .ok i.size w := by simp [sizeOf, typeInfo, hi]
theorem part_run {t : TypeId} {xs ys : Array Value} {off : Nat} (h : absPart P t xs off = some v) (hx : ARel φ xs ys) : ∃ u, (part t ys off).run P w = .ok u w ∧ VRel φ v u := by
  unfold absPart at h
  split at h
  · rename_i d i hd hi
    split at h
    · rename_i hr
      cases h
      refine ⟨.agg (ys.extract off (off + i.size)), ?_, (hx.extract _ _).agg⟩
      simp [part, Sem.run_bind, run_isAgg hd, hr, run_sizeOf hi]
    · rename_i hr
      obtain ⟨u, hu, hr'⟩ := hx.get h
      refine ⟨u, ?_, hr'⟩
      simp [part, Sem.run_bind, run_isAgg hd, hr, hu]
  · cases h
def absEqFields (P : Program) (eq : TypeId → Value → Value → Option Bool) (xs ys : Array Value) : List Field → Option Bool
  | [] => some true
  | f :: fs =>
    if f.name ≠ "_" then
      match absPart P f.type xs f.offset, absPart P f.type ys f.offset with
      | some a, some b => match eq f.type a b with
        | some true => absEqFields P eq xs ys fs
        | some false => some false
        | none => none
      | _, _ => none
    else absEqFields P eq xs ys fs
def absEq (P : Program) : Nat → TypeId → Value → Value → Option Bool
  | 0, _, _, _ => none
  | d + 1, t, x, y =>
    match P.underlying t, x, y with
    | some .bool, .bool a, .bool b => some (a == b)
    | some (.int _), .int k a, .int k' b => if k = k' then some (a == b) else none
    | some .string, .string a, .string b => some (a.toList == b.toList)
    | some (.pointer _), .pointer none, .pointer b => some b.isNone
    | some (.pointer _), .pointer (some _), .pointer none => some false
    | some (.slice _), .slice none _ _, .slice b _ _ => some b.isNone
    | some (.slice _), .slice (some _) _ _, .slice none _ _ => some false
    | some (.map _ _), .map none, .map b => some b.isNone
    | some (.map _ _), .map (some _), .map none => some false
    | some (.struct fs), .agg xs, .agg ys => if P.stoodInHeld t then none else absEqFields P (absEq P d) xs ys fs.toList
    | _, _, _ => none
theorem absEq_run : ∀ (d : Nat) {t : TypeId} {x y x' y' : Value} {b : Bool}, absEq P d t x y = some b → VRel φ x x' → VRel φ y y' → (Op.equalIn d t x' y').run P w = .ok b w := by
  intro d
  induction d with
  | zero => intro t x y x' y' b h; cases h
  | succ d ih =>
    intro t x y x' y' b h hx hy
    unfold absEq at h
    split at h
    · rename_i hu; cases hx.bool_inv; cases hy.bool_inv; cases h; simp [Op.equalIn, run_underlying hu]
    · rename_i hu; cases hx.int_inv; cases hy.int_inv
      split at h
      · rename_i hk; subst hk; cases h; simp [Op.equalIn, run_underlying hu]
      · cases h
    · rename_i hu; cases hx.string_inv; cases hy.string_inv; cases h; exact run_equalIn_string w d t _ _ hu
    · rename_i hu; cases hx.nil_inv
      rename_i b'
      cases h
      cases b' with
      | none => cases hy.nil_inv; simp [Op.equalIn, run_underlying hu]
      | some a => obtain ⟨l, h1, h2, rfl⟩ := hy.ptr_inv; simp [Op.equalIn, run_underlying hu]
    · rename_i hu; cases hy.nil_inv; obtain ⟨l, h1, h2, rfl⟩ := hx.ptr_inv; cases h; simp [Op.equalIn, run_underlying hu]
    · rename_i hu
      rename_i b' _ _
      cases h
      obtain ⟨rfl, rfl, rfl⟩ := hx.noslice_inv
      cases b' with
      | none => obtain ⟨rfl, rfl, rfl⟩ := hy.noslice_inv; simp [Op.equalIn, run_underlying hu]
      | some a => obtain ⟨l, c', o, h1, h2, h3, h4, h5, rfl⟩ := hy.slice_inv; simp [Op.equalIn, run_underlying hu]
    · rename_i hu
      cases h
      obtain ⟨rfl, rfl, rfl⟩ := hy.noslice_inv
      obtain ⟨l, c', o, h1, h2, h3, h4, h5, rfl⟩ := hx.slice_inv; simp [Op.equalIn, run_underlying hu]
    · rename_i hu
      rename_i b'
      cases h
      have : x' = .map none := by cases hx; rfl
      subst this
      cases b' with
      | none => have : y' = .map none := by cases hy; rfl
                subst this; simp [Op.equalIn, run_underlying hu]
      | some a => obtain ⟨l, h1, rfl⟩ := hy.map_inv; simp [Op.equalIn, run_underlying hu]
    · rename_i hu
      cases h
      have : y' = .map none := by cases hy; rfl
      subst this
      obtain ⟨l, h1, rfl⟩ := hx.map_inv; simp [Op.equalIn, run_underlying hu]
    · rename_i fs xs ys hu
      split at h
      · cases h
      · rename_i hp
        obtain ⟨xs', rfl, hxs⟩ := hx.agg_inv
        obtain ⟨ys', rfl, hys⟩ := hy.agg_inv
        have hf : P.fieldsOf t = fs := by simp [Program.fieldsOf, hu]
        rw [run_equalIn_struct w d t xs' ys' (by rw [hf]; exact hu) (by simpa using hp), hf]
        clear hf hu hp hx hy
        generalize fs.toList = l at h
        induction l with
        | nil => cases h; rfl
        | cons f l ihl =>
          simp only [absEqFields] at h
          simp only [Op.eqFields]
          split at h
          · rename_i hn
            rw [if_pos hn]
            split at h
            · rename_i a b2 ha hb
              obtain ⟨a', ea, ra⟩ := part_run (w := w) ha hxs
              obtain ⟨b', eb, rb⟩ := part_run (w := w) hb hys
              simp only [Sem.run_bind, ea, eb, Result.andThen_ok]
              split at h
              · rename_i he
                rw [ih he ra rb]
                simpa using ihl h
              · rename_i he
                cases h
                rw [ih he ra rb]
                simp
              · cases h
            · cases h
          · rename_i hn
            rw [if_neg hn]
            exact ihl h
    · cases h
end
end Go.Den
namespace Go.Den
set_option linter.unusedVariables false
open Go
section
variable {P : Program} {φ : Ren} {H H' : Mem} {w : World} {ρ ρ' : Operand → Value} {o : Oper} {v : Value}
def eqShape : Value → Value → Bool
  | .bool _, .bool _ | .pointer _, .pointer _ | .slice .., .slice .. | .map _, .map _ | .agg _, .agg _ => true
  | _, _ => false
def absBinOp (P : Program) (op : BinOp) (t : TypeId) (x y : Value) : Option Value :=
  match absBin op x y with
  | some v => some v
  | none =>
    if eqShape x y && !(P.eqGuardType P.depth t) then
      match op with
      | .eql => (absEq P 10000 t x y).map .bool
      | .neq => (absEq P 10000 t x y).map fun b => .bool (!b)
      | _ => none
    else none
theorem eqGuard_flat {op : BinOp} {t : TypeId} {x y : Operand} {a b : Value} (h : absBin op a b = some v) : (eqGuard op t x y a b).run P w = .ok () w := by
  have hab : (∃ k n, a = .int k n) ∨ (∃ s, a = .string s) := by
    unfold absBin at h
    split at h <;> first | exact .inl ⟨_, _, rfl⟩ | exact .inr ⟨_, rfl⟩ | cases h
  rcases hab with ⟨k, n, rfl⟩ | ⟨s, rfl⟩ <;> cases op <;> simp [eqGuard]
theorem eqGuard_shape {op : BinOp} {t : TypeId} {x y : Operand} {a b : Value} (h : eqShape a b = true) (hg : P.eqGuardType P.depth t = false) : (eqGuard op t x y a b).run P w = .ok () w := by
  unfold eqShape at h
  split at h
  · cases op <;> simp [eqGuard]
  · cases op <;> simp [eqGuard]
  · cases op <;> simp [eqGuard]
  · cases op <;> simp [eqGuard]
  · exact run_eqGuard_agg w op t x y _ _ hg
  · cases h
theorem binOp_run {op : BinOp} {t : TypeId} {x y : Operand} {a b a' b' : Value} (h : absBinOp P op t a b = some v) (ha : VRel φ a a') (hb : VRel φ b b') :
    (do eqGuard op t x y a' b'; binOp op t a' b').run P w = .ok v w ∧ flat v = true := by
  unfold absBinOp at h
  split at h
  · rename_i u hu
    cases h
    obtain ⟨h1, h2, h3, h4⟩ := absBin_run (P := P) (w := w) t hu
    have ea : a' = a := by cases ha <;> first | rfl | (simp [Den.flat] at h3)
    have eb : b' = b := by cases hb <;> first | rfl | (simp [Den.flat] at h4)
    subst ea; subst eb
    exact ⟨by rw [Sem.run_bind, eqGuard_flat hu]; exact h1, h2⟩
  · split at h
    · rename_i hs
      simp only [Bool.and_eq_true, Bool.not_eq_true'] at hs
      obtain ⟨hs, hg⟩ := hs
      have hs' : eqShape a' b' = true := by
        unfold eqShape at hs
        split at hs
        · cases ha.bool_inv; cases hb.bool_inv; rfl
        · obtain ⟨_, rfl⟩ : ∃ p', a' = .pointer p' := by cases ha <;> exact ⟨_, rfl⟩
          obtain ⟨_, rfl⟩ : ∃ p', b' = .pointer p' := by cases hb <;> exact ⟨_, rfl⟩
          rfl
        · obtain ⟨_, _, _, rfl⟩ : ∃ x y z, a' = .slice x y z := by cases ha <;> exact ⟨_, _, _, rfl⟩
          obtain ⟨_, _, _, rfl⟩ : ∃ x y z, b' = .slice x y z := by cases hb <;> exact ⟨_, _, _, rfl⟩
          rfl
        · obtain ⟨_, rfl⟩ : ∃ p', a' = .map p' := by cases ha <;> exact ⟨_, rfl⟩
          obtain ⟨_, rfl⟩ : ∃ p', b' = .map p' := by cases hb <;> exact ⟨_, rfl⟩
          rfl
        · obtain ⟨_, rfl, _⟩ := ha.agg_inv; obtain ⟨_, rfl, _⟩ := hb.agg_inv; rfl
        · cases hs
      split at h
      · cases he : absEq P 10000 t a b with
        | none => rw [he] at h; cases h
        | some r =>
          rw [he] at h; cases h
          refine ⟨?_, rfl⟩
          rw [Sem.run_bind, eqGuard_shape hs' hg]
          have hq := absEq_run (w := w) 10000 he ha hb
          unfold eqShape at hs'
          split at hs' <;> first | (simp [binOp, Op.equal, Op.maxDepth, hq]; done) | cases hs'
      · cases he : absEq P 10000 t a b with
        | none => rw [he] at h; cases h
        | some r =>
          rw [he] at h; cases h
          refine ⟨?_, rfl⟩
          rw [Sem.run_bind, eqGuard_shape hs' hg]
          have hq := absEq_run (w := w) 10000 he ha hb
          unfold eqShape at hs'
          split at hs' <;> first | (simp [binOp, Op.equal, Op.maxDepth, hq]; done) | cases hs'
      · cases h
    · cases h
def absUn (op : UnOp) (x : Value) : Option Value :=
  match op, x with
  | .neg, .int k n => some (.int k (k.wrap (0 - n)))
  | .xor, .int k n => absInt .xor k (if k.signed then -1 else k.max) n
  | .not, .bool b => some (.bool (!b))
  | _, _ => none
theorem absUn_run {op : UnOp} {x x' : Value} (h : absUn op x = some v) (hx : VRel φ x x') : (Op.unary op x').run P w = .ok v w ∧ flat v = true := by
  unfold absUn at h
  split at h
  · cases hx.int_inv; cases h; exact ⟨rfl, rfl⟩
  · cases hx.int_inv; cases h; exact ⟨rfl, rfl⟩
  · cases hx.bool_inv; cases h; exact ⟨rfl, rfl⟩
  · cases h
def absField (P : Program) (s : TypeId) (x : Value) (f : Nat) : Option Value :=
  match P.underlying s, x with
  | some (.struct fs), .pointer (some ⟨n, o, none⟩) => match fs[f]? with
    | some fd => match P.info? fd.type with
      | some i => if i.size = 0 then none else some (.pointer (some ⟨n, o + fd.offset, none⟩))
      | none => none
    | none => none
  | _, _ => none
theorem absField_run {s : TypeId} {x x' : Value} {f : Nat} (h : absField P s x f = some v) (hx : VRel φ x x') : ∃ u, (Instr.fieldAt s x' f).run P w = .ok u w ∧ VRel φ v u := by
  unfold absField at h
  split at h
  · rename_i fs n o hu
    split at h
    · rename_i fd hf
      split at h
      · rename_i i hi
        split at h
        · cases h
        · rename_i hz
          cases h
          obtain ⟨l, h1, h2, rfl⟩ := hx.ptr_inv
          refine ⟨_, ?_, .ptr (a := ⟨n, o + fd.offset, none⟩) h1 rfl⟩
          have hsz : (sizeOf fd.type).run P w = .ok i.size w := run_sizeOf hi
          simp [Instr.fieldAt, run_underlying hu, hf, Instr.sureAddr, fieldPlace, hsz, hz, Addr.add_mid, Nat.add_assoc]
      · cases h
    · cases h
  · cases h
def absIndexAddr (P : Program) (H : Mem) (t : TypeId) (x ix : Value) : Option Value :=
  match ix with
  | .int _ i =>
    match P.underlying t, x with
    | some (.array len e), .pointer (some ⟨n, o, none⟩) => match P.info? e with
      | some s => if 0 ≤ i ∧ i < len then some (.pointer (some ⟨n, o + i.toNat * s.size, none⟩)) else none
      | none => none
    | some (.slice e), .slice (some ⟨n, o, none⟩) len _ => match P.info? e with
      | some s => if 0 ≤ i ∧ i < len then some (.pointer (some ⟨n, o + i.toNat * s.size, none⟩)) else none
      | none => none
    | _, _ => none
  | _ => none
theorem absIndexAddr_run {t : TypeId} {x x' ix ix' : Value} (h : absIndexAddr P H t x ix = some v) (hx : VRel φ x x') (hi : VRel φ ix ix') :
    ∃ u, (Instr.indexAt t x' ix').run P w = .ok u w ∧ VRel φ v u := by
  unfold absIndexAddr at h
  split at h
  · rename_i k i
    cases hi.int_inv
    split at h
    · rename_i len e n o hu
      split at h
      · rename_i s hs
        split at h
        · rename_i hr
          cases h
          obtain ⟨l, h1, h2, rfl⟩ := hx.ptr_inv
          refine ⟨_, ?_, .ptr (a := ⟨n, o + i.toNat * s.size, none⟩) h1 rfl⟩
          simp [Instr.indexAt, asIntOf, run_underlying hu, Instr.sureAddr, hr, sizeOf, typeInfo, hs, Addr.add_mid, Nat.add_assoc]
        · cases h
      · cases h
    · rename_i e n o len c hu
      split at h
      · rename_i s hs
        split at h
        · rename_i hr
          cases h
          obtain ⟨l, c', o', h1, h2, h3, h4, h5, rfl⟩ := hx.slice_inv
          have ho : o' = l.base + o := by
            rcases h5 with h5 | h5
            · exact h5
            · omega
          subst ho
          refine ⟨_, ?_, .ptr (a := ⟨n, o + i.toNat * s.size, none⟩) h1 rfl⟩
          simp [Instr.indexAt, asIntOf, run_underlying hu, hr, sizeOf, typeInfo, hs, Addr.add_mid, Nat.add_assoc]
        · cases h
      · cases h
    · cases h
  · cases h
def absCells (H : Mem) (n o k : Nat) : Option (List Value) :=
  match H[n]? with
  | some (.cells _ vs) => if o + k ≤ vs.length then some ((vs.drop o).take k) else none
  | _ => none
theorem cells_rel (hM : MRel φ H w) {n o k : Nat} {l : Loc} (hl : φ n = some l) {us : List Value} (h : absCells H n o k = some us) :
    us.length = k ∧ ∃ us', us'.length = k ∧ w.rangeAt l.b (l.base + o) us' ∧ ∀ (i : Nat) (v u : Value), us[i]? = some v → us'[i]? = some u → VRel φ v u := by
  unfold absCells at h
  split at h
  · rename_i ro vs hb
    split at h
    · rename_i hk
      cases h
      have hlen : ((vs.drop o).take k).length = k := by simp; omega
      refine ⟨hlen, ?_⟩
      obtain ⟨b1, b2, b3⟩ := hM.blk n l _ hl hb
      refine ⟨(List.range k).map fun j => (w.cell? ⟨l.b, l.base + (o + j), none⟩).getD undef, by simp, fun j u hu => ?_, fun i v u hv hu => ?_⟩
      · have hj : j < k := by have := (List.getElem?_eq_some_iff.1 hu).1; simpa using this
        obtain ⟨v', hv', _⟩ := b2 (o + j) vs[o + j] (List.getElem?_eq_getElem (by omega))
        simp [List.getElem?_map, List.getElem?_range hj, hv'] at hu
        rw [Nat.add_assoc, hv', hu]
      · have hj : i < k := by have := (List.getElem?_eq_some_iff.1 hv).1; omega
        rw [List.getElem?_take_of_lt hj, List.getElem?_drop] at hv
        obtain ⟨v', hv', hr⟩ := b2 (o + i) v hv
        simp [List.getElem?_map, List.getElem?_range hj, hv'] at hu
        subst hu; exact hr
    · cases h
  · cases h
def absLoad (P : Program) (H : Mem) (t : TypeId) (p : Value) : Option Value :=
  match p with
  | .pointer (some ⟨n, o, none⟩) =>
    match P.underlying t, P.info? t with
    | some d, some i => if d.isRow then (absCells H n o i.size).map fun l => .agg l.toArray
      else match absCells H n o 1 with
        | some [v] => some v
        | _ => none
    | _, _ => none
  | _ => none
theorem absLoad_run (hM : MRel φ H w) {t : TypeId} {p p' : Value} (h : absLoad P H t p = some v) (hp : VRel φ p p') : ∃ u, (Instr.loadAt t p').run P w = .ok u w ∧ VRel φ v u := by
  unfold absLoad at h
  split at h
  · rename_i n o
    obtain ⟨l, h1, h2, rfl⟩ := hp.ptr_inv
    split at h
    · rename_i d i hd hi
      split at h
      · rename_i hr
        cases hc : absCells H n o i.size with
        | none => rw [hc] at h; cases h
        | some us =>
          rw [hc] at h; cases h
          obtain ⟨e1, us', e2, e3, e4⟩ := cells_rel hM h1 hc
          exact ⟨_, run_loadAt_mid (P := P) w l.b (l.base + o) t us' d e3 hd hr (by rw [hi, e2]; rfl), (ARel.of_list (by omega) e4).agg⟩
      · rename_i hr
        split at h
        · rename_i x hc
          cases h
          obtain ⟨e1, us', e2, e3, e4⟩ := cells_rel hM h1 hc
          match us', e2 with
          | [u], _ =>
            refine ⟨u, ?_, e4 0 v u rfl rfl⟩
            have := e3 0 u rfl
            simp only [Nat.add_zero] at this
            simp [Instr.loadAt, Instr.sureAddr, loadVar, run_isAgg hd, hr, this]
        · cases h
    · cases h
  · cases h
def absStore (P : Program) (H : Mem) (t : TypeId) (p x : Value) : Option Mem :=
  match p with
  | .pointer (some ⟨n, o, none⟩) =>
    match P.info? t, H[n]? with
    | some i, some (.cells false vs) =>
      if x.cells.size = i.size ∧ o + x.cells.size ≤ vs.length ∧ allA x.cells (·.oneCell') = true then some (H.set n (.cells false (splice vs o x.cells.toList))) else none
    | _, _ => none
  | _ => none
theorem VRel.one {v u : Value} (h : VRel φ v u) : u.oneCell' = v.oneCell' := by cases h <;> rfl
theorem absStore_run (hM : MRel φ H w) {t : TypeId} {p p' x x' : Value} (h : absStore P H t p x = some H') (hp : VRel φ p p') (hx : VRel φ x x') :
    ∃ w', (Instr.storeAt t p' x').run P w = .ok () w' ∧ MRel φ H' w' ∧ Ext φ H w φ H' w' := by
  unfold absStore at h
  split at h
  · rename_i n o
    obtain ⟨l, h1, h2, rfl⟩ := hp.ptr_inv
    split at h
    · rename_i i vs hi hb
      split at h
      · rename_i hc
        obtain ⟨c1, c2, c3⟩ := hc
        cases h
        have hcr := ARel.cells hx
        obtain ⟨s1, s2, s3⟩ := hM.store h1 hb x.cells.toList x'.cells.toList (o := o) (by simpa using c2) (by simpa using hcr.1) (fun j a b ha hb => hcr.2 j a b (by simpa using ha) (by simpa using hb))
        refine ⟨_, ?_, s2, s3⟩
        have hone : ∀ u ∈ x'.cells.toList, u.oneCell' = true := by
          intro u hu
          obtain ⟨j, hj, he⟩ := List.getElem_of_mem hu
          have hj' : j < x.cells.size := by have := hcr.1; simp at hj; omega
          have := hcr.2 j x.cells[j] u (Array.getElem?_eq_getElem hj') (by rw [← he]; simp [hj])
          rw [this.one]
          exact (allA_mem.1 c3) _ (Array.getElem_mem hj')
        have hr := run_storeCells_cells (P := P) l.b (l.base + o) x'.cells.toList 0 w (fun j hj => by simpa using (s1 j hj).1) (fun j hj => by simpa using (s1 j hj).2) hone
        have hs : x'.cells.size = i.size := by rw [← hcr.1]; exact c1
        simp only [Nat.add_zero] at hr
        simp [Instr.storeAt, Instr.sureAddr, storeVar, run_sizeOf hi, hs, hr]
      · cases h
    · cases h
  · cases h
def plainV : Value → Bool
  | .agg cs => allA cs flat
  | v => flat v
theorem VRel.plain {v : Value} (h : plainV v = true) : VRel φ v v := by
  unfold plainV at h
  split at h
  · rename_i cs
    refine .agg rfl fun i v u hv hu => ?_
    rw [hv] at hu; cases hu
    exact .flat ((allA_mem.1 h) _ (Array.mem_of_getElem? hv))
  · exact .flat h
theorem MRel.row (hM : MRel φ H w) (us us' : List Value) (e : TypeId) (hl : us.length ≤ us'.length) (hr : ∀ (i : Nat) (v u : Value), us[i]? = some v → us'[i]? = some u → VRel φ v u) :
    MRel (φ.put H.length ⟨w.heap.size, 0, us'.length, false⟩) (H ++ [.cells false us]) (w.alloc (.cells us'.toArray e)) ∧
      Ext φ H w (φ.put H.length ⟨w.heap.size, 0, us'.length, false⟩) (H ++ [.cells false us]) (w.alloc (.cells us'.toArray e)) := by
  have hc : ∀ j, j < us'.length → (w.alloc (.cells us'.toArray e)).cell? ⟨w.heap.size, 0 + j, none⟩ = us'[j]? := fun j hj => by
    rw [Nat.zero_add]
    simp
  refine hM.push _ _ _ rfl (fun _ => rfl) ⟨rfl, fun i v hv => ?_, fun _ => ⟨hl, fun j hj => ⟨⟨us'[j], ?_⟩, ?_⟩⟩⟩
  · have hi : i < us.length := (List.getElem?_eq_some_iff.1 hv).1
    refine ⟨us'[i], ?_, (hr i v _ hv (List.getElem?_eq_getElem (by omega))).mono (Ren.le_put (hM.none_at (Nat.le_refl _)) _)⟩
    show (w.alloc (.cells us'.toArray e)).cell? ⟨w.heap.size, 0 + i, none⟩ = _
    rw [hc i (by omega)]; exact List.getElem?_eq_getElem (by omega)
  · show (w.alloc (.cells us'.toArray e)).cell? ⟨w.heap.size, 0 + j, none⟩ = _
    rw [hc j hj]; exact List.getElem?_eq_getElem hj
  · show (w.alloc (.cells us'.toArray e)).frozen? ⟨w.heap.size, 0 + j, none⟩ = false
    simp
theorem put_self (φ : Ren) (n : Nat) (l : Loc) : φ.put n l n = some l := by unfold Ren.put; rw [if_pos rfl]
def absBox (H : Mem) (x : Value) : Value × Mem := (.pointer (some ⟨H.length, 0, none⟩), H ++ [.cells false x.cells.toList])
theorem absBox_run (hM : MRel φ H w) {t : TypeId} {x x' : Value} (hx : VRel φ x x') :
    ∃ φ' w', (Instr.box t x').run P w = .ok (.pointer (some ⟨w.heap.size, 0, none⟩)) w' ∧ Ext φ H w φ' (absBox H x).2 w' ∧ VRel φ' (absBox H x).1 (.pointer (some ⟨w.heap.size, 0, none⟩)) ∧ MRel φ' (absBox H x).2 w' := by
  have hcr := ARel.cells hx
  obtain ⟨r1, r2⟩ := hM.row x.cells.toList x'.cells.toList t (by simp [hcr.1]) (fun j a b ha hb => hcr.2 j a b (by simpa using ha) (by simpa using hb))
  refine ⟨_, _, ?_, r2, ?_, r1⟩
  · simp [Instr.box, newVar, newRow]
  · have := VRel.ptr (φ := φ.put H.length ⟨w.heap.size, 0, x'.cells.toList.length, false⟩) (a := ⟨H.length, 0, none⟩) (put_self _ _ _) rfl
    simpa [absBox] using this
def absAlloc (P : Program) (H : Mem) (t : TypeId) : Option (Value × Mem) :=
  match P.info? t with
  | some i => match i.zero with
    | some z => if plainV z then some (absBox H z) else none
    | none => none
  | none => none
theorem absAlloc_run (hM : MRel φ H w) {t : TypeId} {r : Value × Mem} (h : absAlloc P H t = some r) :
    ∃ φ' w', (Instr.alloc t true (.tuple #[])).run P w = .ok (.pointer (some ⟨w.heap.size, 0, none⟩)) w' ∧ Ext φ H w φ' r.2 w' ∧ VRel φ' r.1 (.pointer (some ⟨w.heap.size, 0, none⟩)) ∧ MRel φ' r.2 w' := by
  unfold absAlloc at h
  split at h
  · rename_i i hi
    split at h
    · rename_i z hz
      split at h
      · rename_i hp
        cases h
        obtain ⟨φ', w', e1, e2, e3, e4⟩ := absBox_run (P := P) hM (t := t) (VRel.plain (φ := φ) hp)
        refine ⟨φ', w', ?_, e2, e3, e4⟩
        simp only [Instr.box, newVar, newRow] at e1
        simp [Instr.alloc, zeroValue, typeInfo, hi, hz, newVar, newRow] at e1 ⊢
        exact e1
      · cases h
    · cases h
  · cases h
end
end Go.Den
namespace Go.Den
open Go
set_option linter.unusedVariables false
set_option linter.unusedSimpArgs false
section
variable {P : Program} {φ : Ren} {H H' : Mem} {w : World} {ρ ρ' : Operand → Value} {o : Oper} {v : Value}
def absBound (v : Value) (y : Nat) : Option Nat :=
  match v with
  | .int _ i => if 0 ≤ i ∧ i ≤ y then some i.toNat else none
  | _ => none
def absBounds (len cap : Nat) (low high max : Option Value) : Option (Nat × Nat × Nat) :=
  match (match max with | some v => absBound v cap | none => some cap) with
  | none => none
  | some m =>
    match (match high, max with | some v, _ => absBound v m | none, none => some len | none, some _ => none) with
    | none => none
    | some h =>
      match (match low with | some v => absBound v h | none => some 0) with
      | none => none
      | some l => some (l, h, m)
def ORel (φ : Ren) : Option Value → Option Value → Prop
  | some v, some u => VRel φ v u
  | none, none => True
  | _, _ => False
theorem bound_run {x x' : Value} {y y' n : Nat} (code : BoundsCode) (h : absBound x y = some n) (hx : VRel φ x x') (hy : y ≤ y') : (Instr.sliceBound x' y' code).run P w = .ok n w ∧ n ≤ y := by
  unfold absBound at h
  split at h
  · rename_i k i
    split at h
    · rename_i hi
      cases h; cases hx.int_inv
      refine ⟨?_, by omega⟩
      simp only [Instr.sliceBound, asIntOf, Sem.run_bind, Sem.run_pure, Result.andThen_ok]
      rw [if_pos (by omega)]
      rfl
    · cases h
  · cases h
theorem bounds_run {len cap cap' l hh m : Nat} {low high max low' high' max' : Option Value} (b : Bool) (h : absBounds len cap low high max = some (l, hh, m)) (hl : ORel φ low low') (hh' : ORel φ high high') (hm : ORel φ max max')
    (hc : cap ≤ cap') (hlen : len ≤ cap) :
    ∃ m', (Instr.sliceBounds b len cap' low' high' max').run P w = .ok (l, hh, m') w ∧ l ≤ hh ∧ hh ≤ m ∧ m ≤ m' ∧ m ≤ cap ∧ m' ≤ cap' ∧ (cap = cap' → m' = m) ∧ (max.isSome = true → m' = m) := by
  unfold absBounds at h
  split at h
  · cases h
  · rename_i mm hmm
    split at h
    · cases h
    · rename_i hhh ehh
      split at h
      · cases h
      · rename_i ll ell
        cases h
        have M : ∃ m', (match (generalizing := false) max' with | some v => Instr.sliceBound v cap' (if b then .slice3Acap else .slice3Alen) | none => pure cap' : Sem Nat).run P w = .ok m' w ∧ m ≤ m' ∧ m ≤ cap ∧ m' ≤ cap' ∧ (cap = cap' → m' = m) ∧ (max = none → m = cap) ∧ (max.isSome = true → m' = m) := by
          cases max with
          | none =>
            cases max' with
            | none => cases hmm; exact ⟨cap', rfl, hc, Nat.le_refl _, Nat.le_refl _, fun e => e.symm, fun _ => rfl, fun e => by cases e⟩
            | some _ => cases hm
          | some v =>
            cases max' with
            | none => cases hm
            | some v' =>
              obtain ⟨e1, e2⟩ := bound_run (P := P) (w := w) (y' := cap') (if b then .slice3Acap else .slice3Alen) hmm hm hc
              exact ⟨m, e1, Nat.le_refl _, e2, by omega, fun _ => rfl, fun e => (by cases e), fun _ => rfl⟩
        obtain ⟨m', M1, M2, M3, M4, M5, M6, M7⟩ := M
        have K : (match (generalizing := false) high', max' with | some v, some _ => Instr.sliceBound v m' .slice3B | some v, none => Instr.sliceBound v m' (if b then .sliceAcap else .sliceAlen) | none, none => pure len | none, some _ => stuck "Slice: max without high" : Sem Nat).run P w = .ok hh w ∧ hh ≤ m := by
          cases high with
          | none =>
            cases high' with
            | some _ => cases hh'
            | none =>
              cases max with
              | some _ => cases ehh
              | none =>
                cases max' with
                | some _ => cases hm
                | none => cases ehh; have := M6 rfl; exact ⟨rfl, by omega⟩
          | some v =>
            cases high' with
            | none => cases hh'
            | some v' =>
              have ehh' : absBound v m = some hh := by cases max <;> exact ehh
              cases max' with
              | none => exact bound_run (P := P) (w := w) _ ehh' hh' M2
              | some _ => exact bound_run (P := P) (w := w) _ ehh' hh' M2
        obtain ⟨K1, K2⟩ := K
        have L : (match (generalizing := false) low' with | some v => Instr.sliceBound v hh (if max'.isSome then .slice3C else .sliceB) | none => pure 0 : Sem Nat).run P w = .ok l w ∧ l ≤ hh := by
          cases low with
          | none =>
            cases low' with
            | some _ => cases hl
            | none => cases ell; exact ⟨rfl, Nat.zero_le _⟩
          | some v =>
            cases low' with
            | none => cases hl
            | some v' => exact bound_run (P := P) (w := w) _ ell hl (Nat.le_refl _)
        obtain ⟨L1, L2⟩ := L
        refine ⟨m', ?_, L2, K2, M2, M3, M4, M5, M7⟩
        unfold Instr.sliceBounds
        cases max' <;> cases high' <;> cases low' <;> simp at M1 K1 L1 <;> simp [M1, K1, L1]
def absSlice (P : Program) (H : Mem) (t : TypeId) (x : Value) (low high max : Option Value) : Option Value :=
  match P.underlying t, x with
  | some (.array n e), .pointer (some ⟨b, o, none⟩) =>
    match P.info? e, absCells H b o (n * ((P.info? e).map (·.size)).getD 0), absBounds n n low high max with
    | some s, some _, some (l, h, _) => if s.size = 0 then none else some (.slice (some ⟨b, o + l * s.size, none⟩) (h - l) s.size)
    | _, _, _ => none
  | some .string, .string s =>
    match max, absBounds s.size s.size low high none with
    | none, some (l, h, _) => some (.string (s.extract l h))
    | _, _ => none
  | some (.slice e), .slice (some ⟨b, o, none⟩) n c =>
    match P.info? e, absBounds n n low high max with
    | some s, some (l, h, m) => if c = s.size ∧ s.size ≠ 0 then some (.slice (some ⟨b, o + l * s.size, none⟩) (h - l) (if max.isSome && m == l then 0 else c)) else none
    | _, _ => none
  | some (.slice e), .slice none 0 0 =>
    match P.info? e, absBounds 0 0 low high max with
    | some _, some _ => some (.slice none 0 0)
    | _, _ => none
  | _, _ => none
theorem mul_room {l m n c : Nat} (h1 : l ≤ m) (h2 : m ≤ n) : l * c + (m - l) * c ≤ n * c := by
  rw [← Nat.add_mul, show l + (m - l) = m by omega]; exact Nat.mul_le_mul_right _ h2
theorem absSlice_run (hM : MRel φ H w) {t : TypeId} {x x' : Value} {low high max low' high' max' : Option Value} (h : absSlice P H t x low high max = some v) (hx : VRel φ x x')
    (hl : ORel φ low low') (hh : ORel φ high high') (hm : ORel φ max max') : ∃ u, (Instr.sliceAt t x' low' high' max').run P w = .ok u w ∧ VRel φ v u := by
  unfold absSlice at h
  split at h
  · rename_i n e b o hu
    split at h
    · rename_i s us l hh2 m hs hc hb
      split at h
      · cases h
      rename_i hsz
      cases h
      obtain ⟨L, h1, h2, rfl⟩ := hx.ptr_inv
      obtain ⟨m', r1, r2, r3, r4, r5, r6, r7, r8⟩ := bounds_run (P := P) (w := w) false hb hl hh hm (Nat.le_refl _) (Nat.le_refl _)
      have hmm := r7 rfl
      subst hmm
      have hroom : L.ro = true ∨ o + n * s.size ≤ L.room := by
        rw [hs] at hc
        unfold absCells at hc
        split at hc
        · rename_i ro vs hbk
          split at hc
          · rename_i hle
            obtain ⟨b1, b2, b3⟩ := hM.blk _ _ _ h1 hbk
            cases ro with
            | true => exact .inl b1
            | false => right; have := (b3 rfl).1; simp at hle; omega
          · cases hc
        · cases hc
      have ha : ∃ o', (if m' = l then (⟨L.b, L.base + o, none⟩ : Addr) else (⟨L.b, L.base + o, none⟩ : Addr).add (l * s.size)) = ⟨L.b, o', none⟩ ∧ (o' = L.base + (o + l * s.size) ∨ m' - l = 0) := by
        split
        · exact ⟨_, rfl, .inr (by omega)⟩
        · exact ⟨_, Addr.add_mid _ _ _, .inl (by omega)⟩
      obtain ⟨o', ha1, ha2⟩ := ha
      refine ⟨.slice (some ⟨L.b, o', none⟩) (hh2 - l) (m' - l), ?_, .slice (a := ⟨b, o + l * s.size, none⟩) h1 rfl (by omega) ?_ ha2 (fun e => absurd e hsz)⟩
      · simp only [Instr.sliceAt, Sem.run_bind, run_underlying hu, Result.andThen_ok, Instr.sureAddr, Sem.run_pure, r1, run_sizeOf hs, ha1]
      · rcases hroom with hroom | hroom
        · exact .inl hroom
        · have := mul_room (c := s.size) (Nat.le_trans r2 r3) r5
          right; simp; omega
    · cases h
  · rename_i s hu
    split at h
    · rename_i l hh2 m hb
      cases h
      cases hx.string_inv
      cases max' with
      | some _ => cases hm
      | none =>
        obtain ⟨m', r1, r2, r3, r4, r5, r6, r7, r8⟩ := bounds_run (P := P) (w := w) (max' := none) false hb hl hh trivial (Nat.le_refl _) (Nat.le_refl _)
        refine ⟨_, ?_, .flat rfl⟩
        simp [Instr.sliceAt, Instr.slice, run_underlying hu, r1]
    · cases h
  · rename_i e b o n c hu
    split at h
    · rename_i s l hh2 m hs hb
      split at h
      · rename_i hcs
        obtain ⟨hcs, hsz⟩ := hcs
        subst hcs
        cases h
        obtain ⟨L, c', o', h1, h2, h3, h4, h5, rfl⟩ := hx.slice_inv
        obtain ⟨m', r1, r2, r3, r4, r5, r6, r7, r8⟩ := bounds_run (P := P) (w := w) true hb hl hh hm h3 (Nat.le_refl _)
        have ha : ∃ q, (if m' = l then some (⟨L.b, o', none⟩ : Addr) else some ((⟨L.b, o', none⟩ : Addr).add (l * s.size))) = some ⟨L.b, q, none⟩ ∧ (q = L.base + (o + l * s.size) ∨ m' - l = 0) := by
          split
          · exact ⟨_, rfl, .inr (by omega)⟩
          · refine ⟨_, by rw [Addr.add_mid], ?_⟩
            rcases h5 with h5 | h5
            · left; subst h5; simp; omega
            · right; omega
        obtain ⟨q, ha1, ha2⟩ := ha
        refine ⟨.slice (some ⟨L.b, q, none⟩) (hh2 - l) (m' - l), ?_, .slice (a := ⟨b, o + l * s.size, none⟩) h1 rfl (by omega) ?_ ha2 ?_⟩
        · simp only [Instr.sliceAt, Instr.slice, Sem.run_bind, run_underlying hu, Result.andThen_ok, r1, run_sizeOf hs, Option.map_some, ha1, Sem.run_pure]
        · rcases h4 with h4 | h4
          · exact .inl h4
          · have := mul_room (l := l) (c := s.size) (Nat.le_trans r2 (Nat.le_trans r3 r4)) r6
            right
            split
            · simp at h4 ⊢; have := Nat.mul_le_mul_right s.size r6; have := Nat.mul_le_mul_right s.size (Nat.le_trans r2 (Nat.le_trans r3 r4)); omega
            · simp at h4 ⊢; omega
        · intro e
          split at e
          · rename_i hmx
            simp only [Bool.and_eq_true, beq_iff_eq] at hmx
            have := r8 hmx.1
            omega
          · exact absurd e hsz
      · cases h
    · cases h
  · rename_i e hu
    split at h
    · rename_i s b hs hb
      cases h
      obtain ⟨_, _, rfl⟩ := hx.noslice_inv
      obtain ⟨l, hh2, m⟩ := b
      obtain ⟨m', r1, r2, r3, r4, r5, r6, r7, r8⟩ := bounds_run (P := P) (w := w) true hb hl hh hm (Nat.le_refl _) (Nat.le_refl _)
      have e1 : m' = 0 := by omega
      have e2 : l = 0 := by omega
      have e3 : hh2 = 0 := by omega
      subst e1; subst e2; subst e3
      exact ⟨_, by simp [Instr.sliceAt, Instr.slice, run_underlying hu, r1, run_sizeOf hs], .flat rfl⟩
    · cases h
  · cases h
def absIndex (P : Program) (t : TypeId) (x ix : Value) : Option Value :=
  match ix with
  | .int _ i =>
    match P.underlying t, x with
    | some (.array len e), .agg cs => match P.info? e with
      | some s => if 0 ≤ i ∧ i < len then absPart P e cs (i.toNat * s.size) else none
      | none => none
    | some .string, .string s => if 0 ≤ i then (s[i.toNat]?).map fun b => .int .u8 b.toNat else none
    | _, _ => none
  | _ => none
theorem absIndex_run {t : TypeId} {x x' ix ix' : Value} (h : absIndex P t x ix = some v) (hx : VRel φ x x') (hi : VRel φ ix ix') : ∃ u, (Instr.index t x' ix').run P w = .ok u w ∧ VRel φ v u := by
  unfold absIndex at h
  split at h
  · rename_i k i
    cases hi.int_inv
    split at h
    · rename_i len e cs hu
      split at h
      · rename_i s hs
        split at h
        · rename_i hr
          obtain ⟨ys, rfl, hy⟩ := hx.agg_inv
          obtain ⟨u, e1, e2⟩ := part_run (w := w) h hy
          refine ⟨u, ?_, e2⟩
          simp [Instr.index, asIntOf, run_underlying hu, hr, run_sizeOf hs, e1]
        · cases h
      · cases h
    · rename_i s hu
      cases hx.string_inv
      split at h
      · rename_i hr
        cases hq : s[i.toNat]? with
        | none => rw [hq] at h; cases h
        | some b =>
          rw [hq] at h; cases h
          exact ⟨_, by simp [Instr.index, asIntOf, run_underlying hu, hr, hq], .flat rfl⟩
      · cases h
    · cases h
  · cases h
end
end Go.Den
namespace Go.Den
open Go
set_option linter.unusedVariables false
set_option linter.unusedSimpArgs false
set_option linter.unusedSectionVars false
section
variable {P : Program} {φ : Ren} {H H' : Mem} {w : World} {v : Value}
theorem setCells_size : ∀ (vs : List Value) (o b : Nat) (w : World), (w.setCells b o vs).heap.size = w.heap.size
  | [], _, _, _ => rfl
  | v :: r, o, b, w => by rw [World.setCells, setCells_size r, World.size_setCell]
theorem setCells_other : ∀ (vs : List Value) (o b : Nat) (w : World) (c : Nat), c ≠ b → (w.setCells b o vs).heap[c]? = w.heap[c]?
  | [], _, _, _, _, _ => rfl
  | v :: r, o, b, w, c, hc => by
    rw [World.setCells, setCells_other r _ _ _ _ hc]
    simp only [World.setCell, Array.getElem?_modify]
    rw [if_neg (by omega)]
theorem setCells_rest : ∀ (vs : List Value) (o b : Nat) (w : World), (w.setCells b o vs).os = w.os ∧ (w.setCells b o vs).output = w.output ∧ (w.setCells b o vs).tape = w.tape
  | [], _, _, _ => ⟨rfl, rfl, rfl⟩
  | v :: r, o, b, w => by rw [World.setCells]; obtain ⟨x, y, z⟩ := setCells_rest r (o + 1) b (w.setCell ⟨b, o, none⟩ v); exact ⟨x, y, z⟩
theorem MRel.regrow (hM : MRel φ H w) {n o : Nat} {l : Loc} {vs : List Value} (hn : φ n = some l) (hb : H[n]? = some (.cells false vs)) (us us' : List Value) (k : Nat) (news' : List Value)
    (hroom : o + us.length ≤ l.room) (hlen : us.length = us'.length) (hk : k + news'.length = us.length) (hr : ∀ (i : Nat) (v u : Value), us[i]? = some v → us'[i]? = some u → VRel φ v u)
    (hold : ∀ j, j < k → w.cell? ⟨l.b, l.base + o + j, none⟩ = us'[j]?) (hnew : ∀ j, j < news'.length → news'[j]? = us'[k + j]?) :
    w.there l.b (l.base + o + k) news'.length ∧
    MRel (φ.put H.length ⟨l.b, l.base + o, l.room - o, false⟩) (H.set n .dead ++ [.cells false us]) (w.setCells l.b (l.base + o + k) news') ∧
      Ext φ H w (φ.put H.length ⟨l.b, l.base + o, l.room - o, false⟩) (H.set n .dead ++ [.cells false us]) (w.setCells l.b (l.base + o + k) news') := by
  have hnl := hM.dom n l hn
  obtain ⟨b1, b2, b3⟩ := hM.blk n l _ hn hb
  obtain ⟨b4, b5⟩ := b3 rfl
  have hfree : φ H.length = none := hM.none_at (Nat.le_refl _)
  have hthere : w.there l.b (l.base + o + k) news'.length := fun j hj => by
    obtain ⟨⟨v', hv⟩, hf⟩ := b5 (o + k + j) (by omega)
    rw [show l.base + o + k + j = l.base + (o + k + j) by omega]; exact ⟨by simp [hv], hf⟩
  have hH' : ∀ (m : Nat) (q : Blk), (H.set n .dead ++ [.cells false us])[m]? = some q → (m = H.length ∧ q = .cells false us) ∨ (m = n ∧ q = .dead) ∨ (m ≠ H.length ∧ m ≠ n ∧ H[m]? = some q) := by
    intro m q hq
    rw [get?_append_one] at hq
    simp only [List.length_set] at hq
    split at hq
    · rename_i e; exact .inl ⟨e, by cases hq; rfl⟩
    · rename_i e
      by_cases e2 : m = n
      · subst e2; rw [List.getElem?_set_self hnl.1] at hq; exact .inr (.inl ⟨rfl, by cases hq; rfl⟩)
      · rw [List.getElem?_set_ne (Ne.symm e2)] at hq; exact .inr (.inr ⟨e, e2, hq⟩)
  have hφ : ∀ m q, φ.put H.length ⟨l.b, l.base + o, l.room - o, false⟩ m = some q → (m = H.length ∧ q = ⟨l.b, l.base + o, l.room - o, false⟩) ∨ (m ≠ H.length ∧ φ m = some q) := by
    intro m q hq
    unfold Ren.put at hq
    split at hq
    · rename_i e; cases hq; exact .inl ⟨e, rfl⟩
    · rename_i e; exact .inr ⟨e, hq⟩
  have hle := Ren.le_put hfree ⟨l.b, l.base + o, l.room - o, false⟩
  have hapart : ∀ m q k', φ m = some q → H[m]? = some k' → k'.live = true → m ≠ n → q.b ≠ l.b := fun m q k' h1 h2 h3 h4 => Ne.symm (hM.inj n m l q _ k' hn h1 hb h2 rfl h3 (Ne.symm h4))
  refine ⟨hthere, ⟨fun m q e => ?_, fun m q k' e e' => ?_, fun m p a b c d e1 e2 e3 e4 e5 e6 e7 => ?_⟩, ⟨hle, by rw [setCells_size]; exact Nat.le_refl _, by simp, fun b hb' hw => ?_, fun b hb' hw => ?_, fun m k' e1 e2 => ?_, (setCells_rest _ _ _ _).1, (setCells_rest _ _ _ _).2.1, (setCells_rest _ _ _ _).2.2⟩⟩
  · rw [setCells_size]
    rcases hφ m q e with ⟨x, y⟩ | ⟨x, y⟩
    · subst y; simp [x, hnl.2]
    · have := hM.dom m q y; simp; omega
  · rcases hφ m q e with ⟨x, y⟩ | ⟨x, y⟩
    · subst x; subst y
      rcases hH' _ _ e' with ⟨_, z⟩ | ⟨z, _⟩ | ⟨z, _⟩
      · subst z
        have hcell : ∀ j, j < us'.length → (w.setCells l.b (l.base + o + k) news').cell? ⟨l.b, l.base + o + j, none⟩ = us'[j]? := by
          intro j hj
          by_cases h1 : j < k
          · rw [World.cell?_setCells_out _ _ _ _ _ (fun _ _ => .inl (by simp; omega))]; exact hold j h1
          · have := World.cell?_setCells_in l.b news' (l.base + o + k) w (fun j hj => (hthere j hj).1) (j - k) (by omega)
            rw [show l.base + o + k + (j - k) = l.base + o + j by omega] at this
            rw [this]
            have h2 := hnew (j - k) (by omega)
            rw [show k + (j - k) = j by omega] at h2
            rw [← h2]
            exact (List.getElem?_eq_getElem (by omega)).symm
        refine ⟨rfl, fun i v hv => ?_, fun _ => ⟨by simp; omega, fun j hj => ⟨?_, ?_⟩⟩⟩
        · have hi : i < us.length := (List.getElem?_eq_some_iff.1 hv).1
          refine ⟨us'[i], ?_, (hr i v _ hv (List.getElem?_eq_getElem (by omega))).mono hle⟩
          rw [hcell i (by omega)]; exact List.getElem?_eq_getElem (by omega)
        · simp only at hj
          by_cases h1 : j < us'.length
          · exact ⟨_, (hcell j h1).trans (List.getElem?_eq_getElem h1)⟩
          · rw [World.cell?_setCells_out _ _ _ _ _ (fun _ _ => .inr (by simp; omega))]
            rw [Nat.add_assoc]; exact (b5 (o + j) (by omega)).1
        · simp only at hj
          rw [World.frozen?_setCells, Nat.add_assoc]; exact (b5 (o + j) (by omega)).2
      · omega
      · exact absurd rfl z
    · rcases hH' _ _ e' with ⟨z, _⟩ | ⟨_, z⟩ | ⟨z1, z2, z3⟩
      · exact absurd z x
      · subst z; exact True.intro
      · have hB := hM.blk m q k' y z3
        by_cases hd : k'.live = true
        · exact hB.mono hle (setCells_other _ _ _ _ _ (hapart m q k' y z3 hd z2))
        · cases k' <;> first | exact True.intro | (simp [Blk.live] at hd)
  · rcases hφ m a e1 with ⟨x, y⟩ | ⟨x, y⟩ <;> rcases hφ p b e2 with ⟨x', y'⟩ | ⟨x', y'⟩
    · omega
    · subst y
      rcases hH' _ _ e4 with ⟨z, _⟩ | ⟨_, z⟩ | ⟨z1, z2, z3⟩
      · omega
      · subst z; cases e6
      · exact Ne.symm (hapart p b d y' z3 e6 z2)
    · subst y'
      rcases hH' _ _ e3 with ⟨z, _⟩ | ⟨_, z⟩ | ⟨z1, z2, z3⟩
      · omega
      · subst z; cases e5
      · exact hapart m a c y z3 (by cases c <;> first | rfl | cases e5) z2
    · rcases hH' _ _ e3 with ⟨z, _⟩ | ⟨_, z⟩ | ⟨z1, z2, z3⟩
      · omega
      · subst z; cases e5
      · rcases hH' _ _ e4 with ⟨z, _⟩ | ⟨_, z⟩ | ⟨z4, z5, z6⟩
        · omega
        · subst z; cases e6
        · exact hM.inj m p a b c d y y' z3 z6 e5 e6 e7
  · obtain ⟨m, q, k', f1, f2, f3, f4⟩ := hw
    rcases hφ m q f1 with ⟨x, y⟩ | ⟨x, y⟩
    · subst y; exact ⟨n, l, _, hn, hb, rfl, f4⟩
    · rcases hH' _ _ f2 with ⟨z, _⟩ | ⟨_, z⟩ | ⟨z1, z2, z3⟩
      · omega
      · subst z; cases f3
      · exact ⟨m, q, k', y, z3, f3, f4⟩
  · exact setCells_other _ _ _ _ _ (fun e => hw ⟨n, l, _, hn, hb, rfl, e.symm⟩)
  · have hm : m < H.length := (List.getElem?_eq_some_iff.1 e2).1
    refine ⟨?_, ?_⟩
    · unfold Ren.put; rw [if_neg (by omega)]; exact e1
    · have : m ≠ n := fun e => by subst e; rw [hn] at e1; cases e1
      rw [get?_append_one, if_neg (by simp; omega), List.getElem?_set_ne (Ne.symm this)]; exact e2
theorem MRel.kill (hM : MRel φ H w) {n : Nat} {l : Loc} {k : Blk} (hn : φ n = some l) (hb : H[n]? = some k) : MRel φ (H.set n .dead) w ∧ Ext φ H w φ (H.set n .dead) w := by
  have hnl := hM.dom n l hn
  have hH' : ∀ (m : Nat) (q : Blk), (H.set n .dead)[m]? = some q → (m = n ∧ q = .dead) ∨ (m ≠ n ∧ H[m]? = some q) := by
    intro m q hq
    by_cases e2 : m = n
    · subst e2; rw [List.getElem?_set_self hnl.1] at hq; exact .inl ⟨rfl, by cases hq; rfl⟩
    · rw [List.getElem?_set_ne (Ne.symm e2)] at hq; exact .inr ⟨e2, hq⟩
  refine ⟨⟨fun m q e => by simpa using hM.dom m q e, fun m q k' e e' => ?_, fun m p a b c d e1 e2 e3 e4 e5 e6 e7 => ?_⟩, ⟨.refl φ, Nat.le_refl _, by simp, fun b _ hw => ?_, fun _ _ _ => rfl, fun m k' e1 e2 => ⟨e1, ?_⟩, rfl, rfl, rfl⟩⟩
  · rcases hH' _ _ e' with ⟨_, z⟩ | ⟨_, z⟩
    · subst z; exact True.intro
    · exact hM.blk m q k' e z
  · rcases hH' _ _ e3 with ⟨_, z⟩ | ⟨_, z⟩
    · subst z; cases e5
    · rcases hH' _ _ e4 with ⟨_, z'⟩ | ⟨_, z'⟩
      · subst z'; cases e6
      · exact hM.inj m p a b c d e1 e2 z z' e5 e6 e7
  · obtain ⟨m, q, k', f1, f2, f3, f4⟩ := hw
    rcases hH' _ _ f2 with ⟨_, z⟩ | ⟨_, z⟩
    · subst z; cases f3
    · exact ⟨m, q, k', f1, z, f3, f4⟩
  · have : m ≠ n := fun e => by subst e; rw [hn] at e1; cases e1
    rw [List.getElem?_set_ne (Ne.symm this)]; exact e2
def absFirst (H : Mem) (size : Nat) (x : Value) : Option (Nat × List Value) :=
  match x with
  | .slice none 0 0 => some (0, [])
  | .slice (some ⟨b, o, none⟩) n _ => (absCells H b o (n * size)).map fun l => (n, l)
  | .string s => if size = 1 then some (s.size, s.data.toList.map fun b => .int .u8 b.toNat) else none
  | _ => none
theorem absFirst_run (hM : MRel φ H w) {size m : Nat} {x x' : Value} {us : List Value} (h : absFirst H size x = some (m, us)) (hx : VRel φ x x') :
    us.length = m * size ∧ (∀ w : World, (Builtin.lenOf x').run P w = .ok m w) ∧ ∃ us' : List Value, us'.length = us.length ∧ (∀ w' : World, (∀ a, w'.cell? a = w.cell? a) → (Builtin.firstCells size m x').run P w' = .ok us'.toArray w') ∧
      ∀ (i : Nat) (v u : Value), us[i]? = some v → us'[i]? = some u → VRel φ v u := by
  unfold absFirst at h
  split at h
  · cases h
    obtain ⟨_, _, rfl⟩ := hx.noslice_inv
    exact ⟨by simp, fun _ => rfl, [], rfl, fun _ _ => by simp [Builtin.firstCells], fun i v u hv => by simp at hv⟩
  · rename_i b o n c
    cases hc : absCells H b o (n * size) with
    | none => rw [hc] at h; cases h
    | some l =>
      rw [hc] at h; cases h
      obtain ⟨L, c', o', h1, h2, h3, h4, h5, rfl⟩ := hx.slice_inv
      obtain ⟨e1, us', e2, e3, e4⟩ := cells_rel hM h1 hc
      refine ⟨e1, fun _ => rfl, us', by omega, fun w' hw' => ?_, e4⟩
      refine run_firstCells_some (P := P) w' size m ⟨L.b, o', none⟩ m c' us' e2 fun j v hv => ?_
      have hj : j < us'.length := (List.getElem?_eq_some_iff.1 hv).1
      rcases h5 with h5 | h5
      · subst h5; rw [Addr.add_mid, hw']; exact e3 j v hv
      · have : m = 0 := by omega
        subst this; omega
  · rename_i s
    split at h
    · rename_i hs
      cases h; cases hx.string_inv
      subst hs
      refine ⟨by simp, fun _ => rfl, s.data.toList.map fun b => .int .u8 b.toNat, rfl, fun w' _ => ?_, fun i v u hv hu => by rw [hv] at hu; cases hu; rw [List.getElem?_map] at hv; cases hq : s.data.toList[i]? <;> rw [hq] at hv <;> cases hv; exact .flat rfl⟩
      simp only [Builtin.firstCells, Sem.run_pure]
      congr 1
      have : s.extract 0 s.size = s := by
        apply ByteArray.ext
        simp [ByteArray.data_extract]
      rw [this]
      apply Array.ext'
      simp
    · cases h
  · cases h
def notInt : TypeDesc → Bool
  | .slice _ | .string => true
  | _ => false
def absAppend (P : Program) (H : Mem) (ats : Array TypeId) (s x : Value) : Option (Value × Mem) :=
  match ats[0]?, ats[1]? with
  | some t, some t1 =>
    match P.underlying t, P.underlying t1 with
    | some (.slice e), some d1 =>
      match P.info? e with
      | some i =>
        match absFirst H i.size x, i.zero with
        | some (m, news), some z =>
          if notInt d1 = false ∨ z.cells.size ≠ i.size ∨ i.size = 0 then none else
          match s with
          | .slice none 0 0 =>
            if m = 0 then some (s, H)
            else if m * i.bytes ≤ 140737488355328 ∧ m ≤ 9223372036854775807 then some (.slice (some ⟨H.length, 0, none⟩) m i.size, H ++ [.cells false news]) else none
          | .slice (some ⟨b, o, none⟩) n 0 =>
            if m = 0 then some (s, H)
            else if n = 0 ∧ m * i.bytes ≤ 140737488355328 ∧ m ≤ 9223372036854775807 then some (.slice (some ⟨H.length, 0, none⟩) m i.size, H ++ [.cells false news]) else none
          | .slice (some ⟨b, o, none⟩) n c =>
            if m = 0 then some (s, H)
            else if c = i.size ∧ (n + m) * i.bytes ≤ 140737488355328 ∧ n + m ≤ 9223372036854775807 then
              match H[b]?, absCells H b o (n * i.size) with
              | some (.cells false _), some old =>
                if news.all (·.oneCell') = true then some (.slice (some ⟨H.length, 0, none⟩) (n + m) i.size, H.set b .dead ++ [.cells false (old ++ news)]) else none
              | _, _ => none
            else none
          | _ => none
        | _, _ => none
      | none => none
    | _, _ => none
  | _, _ => none
theorem notInt_cases {d : TypeDesc} (h : notInt d = true) : (∃ e1, d = .slice e1) ∨ d = .string := by
  cases d <;> simp [notInt] at h <;> simp
section runs
variable (t t1 ty e : TypeId) (d1 : TypeDesc) (i : TypeInfo) (z : Value) (ht : P.underlying t = some (.slice e)) (ht1 : P.underlying t1 = some d1) (hd : notInt d1 = true) (hi : P.info? e = some i) (hz : i.zero = some z)
include ht ht1 hd hi hz
theorem run_append_in {ats : Array TypeId} (h0 : ats[0]? = some t) (h1 : ats[1]? = some t1) (base : Option Addr) (n cap m : Nat) (x : Value) (news : List Value) (w w' : World)
    (hlen : (Builtin.lenOf x).run P w = .ok m w) (hnew : (Builtin.firstCells i.size m x).run P w = .ok news.toArray w) (hc : n + m ≤ cap)
    (hst : ∀ a, base = some a → (storeCells (a.add (n * i.size)) news).run P w = .ok () w') (hno : base = none → w' = w) :
    (Builtin.append_ ats ty #[.slice base n cap, x]).run P w = .ok (.slice base (n + m) cap) w' := by
  have key : ∀ d, P.underlying t1 = some d → ((∃ e1, d = .slice e1) ∨ d = .string) → (Builtin.append_ ats ty #[.slice base n cap, x]).run P w = .ok (.slice base (n + m) cap) w' := by
    intro d hd1 hd2
    cases base with
    | none =>
      have := hno rfl; subst this
      rcases hd2 with ⟨e1, rfl⟩ | rfl <;> simp [Builtin.append_, h0, h1, run_underlying ht, run_underlying hd1, run_sizeOf hi, hlen, hnew, hc]
    | some a =>
      have := hst a rfl
      rcases hd2 with ⟨e1, rfl⟩ | rfl <;> simp [Builtin.append_, h0, h1, run_underlying ht, run_underlying hd1, run_sizeOf hi, hlen, hnew, hc, this]
  exact key d1 ht1 (notInt_cases hd)
theorem run_append_out {ats : Array TypeId} (h0 : ats[0]? = some t) (h1 : ats[1]? = some t1) (base : Option Addr) (n cap m : Nat) (x : Value) (olds news : List Value) (w : World)
    (hlen : (Builtin.lenOf x).run P w = .ok m w) (hold : (Builtin.firstCells i.size n (.slice base n cap)).run P w.drew = .ok olds.toArray w.drew) (hnew : (Builtin.firstCells i.size m x).run P w.drew = .ok news.toArray w.drew) (hc : cap < n + m)
    (h63 : n + m ≤ 9223372036854775807) (hfit : Builtin.nextslicecap (n + m) cap * i.bytes ≤ 281474976710656) :
    (Builtin.append_ ats ty #[.slice base n cap, x]).run P w = .ok (.slice (some ⟨w.heap.size, 0, none⟩) (n + m) (grownCap w (n + m) cap e))
        (w.drew.alloc (.cells (olds ++ news ++ (Builtin.zeroCells z.cells (grownCap w (n + m) cap e - (n + m))).toList).toArray e)) := by
  have hn : ¬ (n + m ≤ cap) := by omega
  have h63' : ¬ (9223372036854775807 < ((n : Int) + (m : Int))) := by omega
  have h48' : ¬ (281474976710656 < Builtin.nextslicecap (n + m) cap * i.bytes) := by omega
  rcases notInt_cases hd with ⟨e1, rfl⟩ | rfl <;> simp [Builtin.append_, h0, h1, run_underlying ht, run_underlying ht1, sizeOf, typeInfo, zeroValue, hi, hz, hlen, hn, h63', h48', Question.forced, hold, hnew, newRow, grownCap] <;> (congr 2; apply Array.ext'; simp)
end runs
theorem grownCap_ge (w : World) (need old : Nat) (e : TypeId) : need ≤ grownCap w need old e := by simp [grownCap, Question.cut]
end
end Go.Den
namespace Go.Den
open Go
set_option linter.unusedVariables false
set_option linter.unusedSimpArgs false
section
variable {P : Program} {φ : Ren} {H H' : Mem} {w : World} {v : Value}
def DoneV (φ : Ren) (H : Mem) (w : World) (r : Result Value) (v : Value) (H' : Mem) : Prop :=
  ∃ φ' v' w', r = .ok v' w' ∧ Ext φ H w φ' H' w' ∧ VRel φ' v v' ∧ MRel φ' H' w'
theorem DoneV.same (hM : MRel φ H w) {r : Result Value} {u : Value} (hr : r = .ok u w) (h : VRel φ v u) : DoneV φ H w r v H := ⟨φ, u, w, hr, .refl _ _ _, h, hM⟩
theorem list_rel_append {φ : Ren} {a b a' b' : List Value} (hl : a.length = a'.length) (h1 : ∀ (i : Nat) (v u : Value), a[i]? = some v → a'[i]? = some u → VRel φ v u)
    (h2 : ∀ (i : Nat) (v u : Value), b[i]? = some v → b'[i]? = some u → VRel φ v u) : ∀ (i : Nat) (v u : Value), (a ++ b)[i]? = some v → (a' ++ b')[i]? = some u → VRel φ v u := by
  intro i v u hv hu
  by_cases hi : i < a.length
  · rw [List.getElem?_append_left hi] at hv; rw [List.getElem?_append_left (by omega)] at hu; exact h1 i v u hv hu
  · rw [List.getElem?_append_right (by omega)] at hv; rw [List.getElem?_append_right (by omega)] at hu
    rw [hl] at hv; exact h2 _ v u hv hu
theorem list_rel_more {φ : Ren} {a a' b' : List Value} (hl : a.length = a'.length) (h1 : ∀ (i : Nat) (v u : Value), a[i]? = some v → a'[i]? = some u → VRel φ v u) :
    ∀ (i : Nat) (v u : Value), a[i]? = some v → (a' ++ b')[i]? = some u → VRel φ v u := by
  intro i v u hv hu
  have hi : i < a.length := (List.getElem?_eq_some_iff.1 hv).1
  rw [List.getElem?_append_left (by omega)] at hu; exact h1 i v u hv hu
theorem one_all {φ : Ren} {us us' : List Value} (hl : us'.length = us.length) (h : ∀ (i : Nat) (v u : Value), us[i]? = some v → us'[i]? = some u → VRel φ v u) (h1 : us.all (·.oneCell') = true) : ∀ u ∈ us', u.oneCell' = true := by
  intro u hu
  obtain ⟨j, hj, he⟩ := List.getElem_of_mem hu
  have := h j us[j] u (List.getElem?_eq_getElem (by omega)) (by rw [← he]; exact List.getElem?_eq_getElem hj)
  rw [this.one]
  exact List.all_eq_true.1 h1 _ (List.getElem_mem (by omega))
theorem grow_done (hM : MRel φ H w) (e : TypeId) (us us' : List Value) (z : Value) (need cap size : Nat) (hs0 : size ≠ 0) (hz : z.cells.size = size) (hl : us'.length = us.length) (hn : us.length = need * size) (hc : need ≤ cap)
    (h : ∀ (i : Nat) (v u : Value), us[i]? = some v → us'[i]? = some u → VRel φ v u) :
    DoneV φ H w (.ok (.slice (some ⟨w.heap.size, 0, none⟩) need cap) (w.drew.alloc (.cells (us' ++ (Builtin.zeroCells z.cells (cap - need)).toList).toArray e))) (.slice (some ⟨H.length, 0, none⟩) need size) (H ++ [.cells false us]) := by
  obtain ⟨r1, r2⟩ := hM.drew.row us (us' ++ (Builtin.zeroCells z.cells (cap - need)).toList) e (by simp; omega) (list_rel_more hl.symm h)
  refine ⟨_, _, _, rfl, (Ext.drew φ H w).trans r2, ?_, r1⟩
  refine .slice (a := ⟨H.length, 0, none⟩) (put_self _ _ _) rfl hc (.inr ?_) (.inl rfl) (fun e => absurd e hs0)
  have : (Builtin.zeroCells z.cells (cap - need)).size = (cap - need) * size := by simp [Builtin.zeroCells, hz]
  have h2 := mul_room (l := need) (c := size) hc (Nat.le_refl cap)
  have h3 : need * size + (cap - need) * size = cap * size := by rw [← Nat.add_mul]; congr 1; omega
  simp [this]; omega
theorem absAppend_run (hM : MRel φ H w) (ty : TypeId) {ats : Array TypeId} {s x s' x' : Value} {r : Value × Mem} (h : absAppend P H ats s x = some r) (hs : VRel φ s s') (hx : VRel φ x x') :
    DoneV φ H w ((Builtin.append_ ats ty #[s', x']).run P w) r.1 r.2 := by
  unfold absAppend at h
  split at h
  case h_2 => cases h
  rename_i t t1 h0 h1
  split at h
  case h_2 => cases h
  rename_i e d1 ht ht1
  split at h
  case h_2 => cases h
  rename_i i hi
  split at h
  case h_2 => cases h
  rename_i m news z hf hz
  split at h
  · cases h
  rename_i hd0
  have hd : notInt d1 = true := by
    cases hq : notInt d1 with
    | true => rfl
    | false => exact absurd (.inl hq) hd0
  have hzs : z.cells.size = i.size := by
    by_cases hq : z.cells.size = i.size
    · exact hq
    · exact absurd (.inr (.inl hq)) hd0
  have hs0 : i.size ≠ 0 := fun hq => hd0 (.inr (.inr hq))
  obtain ⟨f1, f2, news', f3, f4, f5⟩ := absFirst_run (P := P) hM hf hx
  split at h
  · obtain ⟨_, _, rfl⟩ := hs.noslice_inv
    split at h
    · rename_i hm
      subst hm
      cases h
      refine DoneV.same hM (u := .slice none 0 0) ?_ (.flat rfl)
      exact run_append_in t t1 ty e d1 i z ht ht1 hd hi hz h0 h1 none 0 0 0 x' news' w w (f2 w) (f4 w (fun _ => rfl)) (Nat.le_refl _) (fun a ha => by cases ha) (fun _ => rfl)
    · rename_i hm
      split at h
      · rename_i hb
        cases h
        have hfit : Builtin.nextslicecap (0 + m) 0 * i.bytes ≤ 281474976710656 := growslice_fits (by omega) (by simpa using hb.1)
        have hrun := run_append_out t t1 ty e d1 i z ht ht1 hd hi hz h0 h1 none 0 0 m x' [] news' w (f2 w) (by simp [Builtin.firstCells]) (f4 w.drew (fun _ => rfl)) (by omega) (by omega) hfit
        rw [hrun]
        have := grow_done hM e news news' z (0 + m) (grownCap w (0 + m) 0 e) i.size hs0 hzs f3 (by simpa using f1) (grownCap_ge _ _ _ _) f5
        simpa using this
      · cases h
  · rename_i b o n
    obtain ⟨L, c', o', h2, h3, h4, h5, h6, rfl⟩ := hs.slice_inv
    have hc0 := hs.slice_zero
    subst hc0
    have hn0 : n = 0 := by omega
    subst hn0
    split at h
    · rename_i hm
      subst hm
      cases h
      refine DoneV.same hM (u := .slice (some ⟨L.b, o', none⟩) 0 0) ?_ hs
      have hn0 : news' = [] := List.eq_nil_of_length_eq_zero (by simp [f3, f1])
      exact run_append_in t t1 ty e d1 i z ht ht1 hd hi hz h0 h1 (some ⟨L.b, o', none⟩) 0 0 0 x' news' w w (f2 w) (f4 w (fun _ => rfl)) (by omega) (fun a ha => by subst hn0; rfl) (fun h => by cases h)
    · rename_i hm
      split at h
      · rename_i hb
        cases h
        have hfit : Builtin.nextslicecap (0 + m) 0 * i.bytes ≤ 281474976710656 := growslice_fits (by omega) (by simpa using hb.2.1)
        have hrun := run_append_out t t1 ty e d1 i z ht ht1 hd hi hz h0 h1 (some ⟨L.b, o', none⟩) 0 0 m x' [] news' w (f2 w) (by exact run_firstCells_some (P := P) w.drew i.size 0 _ 0 0 [] (by simp) (by simp)) (f4 w.drew (fun _ => rfl)) (by omega) (by have := hb.2.2; omega) hfit
        rw [hrun]
        have := grow_done hM e news news' z (0 + m) (grownCap w (0 + m) 0 e) i.size hs0 hzs f3 (by simpa using f1) (grownCap_ge _ _ _ _) f5
        simpa using this
      · cases h
  · rename_i b o n c hcne
    obtain ⟨L, c', o', h2, h3, h4, h5, h6, rfl⟩ := hs.slice_inv
    split at h
    · rename_i hm
      subst hm
      cases h
      refine DoneV.same hM (u := .slice (some ⟨L.b, o', none⟩) n c') ?_ hs
      have hn0 : news' = [] := List.eq_nil_of_length_eq_zero (by simp [f3, f1])
      exact run_append_in t t1 ty e d1 i z ht ht1 hd hi hz h0 h1 (some ⟨L.b, o', none⟩) n c' 0 x' news' w w (f2 w) (f4 w (fun _ => rfl)) (by omega) (fun a ha => by subst hn0; rfl) (fun h => by cases h)
    · rename_i hm
      split at h
      · rename_i hb
        obtain ⟨hb1, hb2, hb3⟩ := hb
        subst hb1
        split at h
        · rename_i vs old hbk hold
          split at h
          · rename_i hone
            cases h
            obtain ⟨e1, old', e2, e3, e4⟩ := cells_rel hM h2 hold
            obtain ⟨b1, b2, b3⟩ := hM.blk b L _ h2 hbk
            have hroom : o + c' * i.size ≤ L.room := by
              rcases h5 with h5 | h5
              · rw [b1] at h5; cases h5
              · exact h5
            have holdrun : ∀ w' : World, (∀ a, w'.cell? a = w.cell? a) → (Builtin.firstCells i.size n (.slice (some ⟨L.b, o', none⟩) n c')).run P w' = .ok old'.toArray w' := by
              intro w' hw'
              refine run_firstCells_some (P := P) w' i.size n ⟨L.b, o', none⟩ n c' old' e2 fun j v hv => ?_
              have hj : j < old'.length := (List.getElem?_eq_some_iff.1 hv).1
              rcases h6 with h6 | h6
              · subst h6; rw [Addr.add_mid, hw']; exact e3 j v hv
              · have : n = 0 := by omega
                subst this; omega
            by_cases hcap : n + m ≤ c'
            · -- in place
              have h6' : o' = L.base + o := by
                rcases h6 with h6 | h6
                · exact h6
                · omega
              subst h6'
              have hmul : (n + m) * i.size ≤ c' * i.size := Nat.mul_le_mul_right _ hcap
              have hadd : (n + m) * i.size = n * i.size + m * i.size := Nat.add_mul _ _ _
              obtain ⟨g1, g2, g3⟩ := hM.regrow (o := o) h2 hbk (old ++ news) (old' ++ news') (n * i.size) news' (by simp; omega) (by simp; omega) (by simp; omega) (list_rel_append (by omega) e4 f5)
                (fun j hj => by
                  rw [List.getElem?_append_left (by omega), List.getElem?_eq_getElem (show j < old'.length by omega)]
                  exact e3 j _ (List.getElem?_eq_getElem (show j < old'.length by omega)))
                (fun j hj => by rw [List.getElem?_append_right (by omega)]; congr 1; omega)
              have hst := run_storeCells_cells (P := P) L.b (L.base + o + n * i.size) news' 0 w (fun j hj => by simpa using (g1 j hj).1) (fun j hj => by simpa using (g1 j hj).2) (one_all f3 f5 hone)
              simp only [Nat.add_zero] at hst
              have hrun := run_append_in t t1 ty e d1 i z ht ht1 hd hi hz h0 h1 (some ⟨L.b, L.base + o, none⟩) n c' m x' news' w _ (f2 w) (f4 w (fun _ => rfl)) hcap (fun a ha => by cases ha; rw [Addr.add_mid]; exact hst) (fun h => by cases h)
              refine ⟨_, _, _, hrun, g3, ?_, g2⟩
              refine VRel.slice (a := ⟨H.length, 0, none⟩) (l := ⟨L.b, L.base + o, L.room - o, false⟩) (put_self _ _ _) rfl hcap (.inr ?_) (.inl rfl) (fun e => absurd e hs0)
              simp; omega
            · -- in a new place
              have hfit : Builtin.nextslicecap (n + m) c' * i.bytes ≤ 281474976710656 := growslice_fits (by omega) hb2
              have hrun := run_append_out t t1 ty e d1 i z ht ht1 hd hi hz h0 h1 (some ⟨L.b, o', none⟩) n c' m x' old' news' w (f2 w) (holdrun w.drew (fun _ => rfl)) (f4 w.drew (fun _ => rfl)) (by omega) hb3 hfit
              rw [hrun]
              obtain ⟨k1, k2⟩ := hM.kill h2 hbk
              have hadd : (n + m) * i.size = n * i.size + m * i.size := Nat.add_mul _ _ _
              have := grow_done k1 e (old ++ news) (old' ++ news') z (n + m) (grownCap w (n + m) c' e) i.size hs0 hzs (by simp; omega) (by simp; omega) (grownCap_ge _ _ _ _) (list_rel_append (by omega) e4 f5)
              obtain ⟨φ', v', w', q1, q2, q3, q4⟩ := this
              exact ⟨φ', v', w', q1, k2.trans q2, by simpa using q3, q4⟩
          · cases h
        · cases h
      · cases h
  · cases h
end
end Go.Den
namespace Go.Den
open Go
set_option linter.unusedVariables false
set_option linter.unusedSimpArgs false
section
variable {P : Program} {φ : Ren} {H H' : Mem} {w : World} {v : Value}
theorem MRel.setObj (hM : MRel φ H w) {n : Nat} {l : Loc} {k k' : Blk} (hn : φ n = some l) (hb : H[n]? = some k) (hk : k.wr = true) (hk' : k'.wr = true) (o : Obj)
    (hB : BRel φ { w with heap := w.heap.setIfInBounds l.b o } l k') :
    MRel φ (H.set n k') { w with heap := w.heap.setIfInBounds l.b o } ∧ Ext φ H w φ (H.set n k') { w with heap := w.heap.setIfInBounds l.b o } := by
  have hnl := hM.dom n l hn
  have hoth : ∀ c, c ≠ l.b → (w.heap.setIfInBounds l.b o)[c]? = w.heap[c]? := fun c hc => Array.getElem?_setIfInBounds_ne (Ne.symm hc)
  have hset : ∀ (m : Nat) (q : Blk), (H.set n k')[m]? = some q → (m = n ∧ q = k') ∨ (m ≠ n ∧ H[m]? = some q) := by
    intro m q hq
    by_cases e : m = n
    · subst e; rw [List.getElem?_set_self hnl.1] at hq; exact .inl ⟨rfl, by cases hq; rfl⟩
    · rw [List.getElem?_set_ne (Ne.symm e)] at hq; exact .inr ⟨e, hq⟩
  have hlive : ∀ q : Blk, q.wr = true → q.live = true := fun q hq => by cases q <;> first | rfl | cases hq
  refine ⟨⟨fun m q e => by simpa using hM.dom m q e, fun m q r e e' => ?_, fun m p a b c d e1 e2 e3 e4 e5 e6 e7 => ?_⟩, ⟨.refl φ, by simp, by simp, fun b hb' hw => ?_, fun b hb' hw => ?_, fun m r e1 e2 => ⟨e1, ?_⟩, rfl, rfl, rfl⟩⟩
  · rcases hset m r e' with ⟨x, y⟩ | ⟨x, y⟩
    · subst x; subst y
      obtain rfl : q = l := by rw [hn] at e; cases e; rfl
      exact hB
    · by_cases hd : r.live = true
      · exact (hM.blk m q r e y).mono (.refl φ) (hoth _ (Ne.symm (hM.inj n m l q k r hn e hb y hk hd (Ne.symm x))))
      · cases r <;> first | exact True.intro | (simp [Blk.live] at hd)
  · have hl : ∀ (m : Nat) (q : Blk), (H.set n k')[m]? = some q → ∃ q', H[m]? = some q' ∧ (q.live = true → q'.live = true) ∧ (q.wr = true → q'.wr = true) := by
      intro m q hq
      rcases hset m q hq with ⟨x, y⟩ | ⟨x, y⟩
      · subst x; exact ⟨k, hb, fun _ => hlive k hk, fun _ => hk⟩
      · exact ⟨q, y, id, id⟩
    obtain ⟨c', c1, c2, c3⟩ := hl m c e3
    obtain ⟨d', d1, d2, d3⟩ := hl p d e4
    exact hM.inj m p a b c' d' e1 e2 c1 d1 (c3 e5) (d2 e6) e7
  · obtain ⟨m, q, r, f1, f2, f3, f4⟩ := hw
    rcases hset m r f2 with ⟨x, y⟩ | ⟨x, y⟩
    · subst x; exact ⟨m, q, k, f1, hb, hk, f4⟩
    · exact ⟨m, q, r, f1, y, f3, f4⟩
  · exact hoth _ (fun e => hw ⟨n, l, k, hn, hb, hk, e.symm⟩)
  · have : m ≠ n := fun e => by subst e; rw [hn] at e1; cases e1
    rw [List.getElem?_set_ne (Ne.symm this)]; exact e2
def absLen (P : Program) (H : Mem) (t : TypeId) (x : Value) : Option Value :=
  match P.underlying t, x with
  | some .string, .string s => some (goInt s.size)
  | some (.array n _), _ => some (goInt n)
  | some (.pointer arr), _ => match P.underlying arr with
    | some (.array n _) => some (goInt n)
    | _ => none
  | some (.slice _), .slice _ n _ => some (goInt n)
  | some (.map _ _), .map none => some (goInt 0)
  | some (.map _ _), .map (some r) => match H[r]? with
    | some (.map es _) => some (goInt es.length)
    | _ => none
  | _, _ => none
theorem absLen_run (hM : MRel φ H w) (ty : TypeId) {ats : Array TypeId} {t : TypeId} (h0 : ats[0]? = some t) {x x' : Value} (h : absLen P H t x = some v) (hx : VRel φ x x') : (Builtin.len_ ats ty #[x']).run P w = .ok v w ∧ flat v = true := by
  unfold absLen at h
  split at h
  · rename_i hu; cases h; cases hx.string_inv; exact ⟨by simp [Builtin.len_, h0, run_underlying hu], rfl⟩
  · rename_i hu; cases h; exact ⟨by simp [Builtin.len_, h0, run_underlying hu], rfl⟩
  · rename_i hu
    split at h
    · rename_i hu2; cases h; exact ⟨by simp [Builtin.len_, h0, run_underlying hu, run_underlying hu2], rfl⟩
    · cases h
  · rename_i b n c hu
    cases h
    cases b with
    | none => obtain ⟨rfl, rfl, rfl⟩ := hx.noslice_inv; exact ⟨by simp [Builtin.len_, h0, run_underlying hu], rfl⟩
    | some a => obtain ⟨l, c', o, h1, h2, h3, h4, h5, rfl⟩ := hx.slice_inv; exact ⟨by simp [Builtin.len_, h0, run_underlying hu], rfl⟩
  · rename_i hu; cases h
    have : x' = .map none := by cases hx; rfl
    subst this; exact ⟨by simp [Builtin.len_, h0, run_underlying hu], rfl⟩
  · rename_i r hu
    split at h
    · rename_i es cl hb
      cases h
      obtain ⟨l, h1, rfl⟩ := hx.map_inv
      obtain ⟨b0, es', b1, b2, b3⟩ := hM.blk _ _ _ h1 hb
      exact ⟨by simp [Builtin.len_, h0, run_underlying hu, getObj, Sem.run, b1, b2], rfl⟩
    · cases h
  · cases h
def absMinMax (mx : Bool) : Value → List Value → Option Value
  | .int k n, [] => some (.int k n)
  | .int k n, .int _ m :: r => absMinMax mx (.int k (if mx then (if m > n then m else n) else (if m < n then m else n))) r
  | _, _ => none
theorem foldlM_max : ∀ (l : List Value) (x : Value), absMinMax true x l = some v → (l.foldlM Builtin.max2 x).run P w = .ok v w ∧ flat v = true
  | [], x, h => by
    cases x <;> simp [absMinMax] at h
    subst h; exact ⟨rfl, rfl⟩
  | y :: r, x, h => by
    cases x <;> cases y <;> simp [absMinMax] at h
    have := foldlM_max r _ h
    simpa [Builtin.max2] using this
theorem foldlM_min : ∀ (l : List Value) (x : Value), absMinMax false x l = some v → (l.foldlM Builtin.min2 x).run P w = .ok v w ∧ flat v = true
  | [], x, h => by
    cases x <;> simp [absMinMax] at h
    subst h; exact ⟨rfl, rfl⟩
  | y :: r, x, h => by
    cases x <;> cases y <;> simp [absMinMax] at h
    have := foldlM_min r _ h
    simpa [Builtin.min2] using this
theorem absMinMax_same (mx : Bool) : ∀ (l l' : List Value) (x x' : Value), absMinMax mx x l = some v → VRel φ x x' → l.length = l'.length → (∀ (i : Nat) (a b : Value), l[i]? = some a → l'[i]? = some b → VRel φ a b) → x' = x ∧ l' = l
  | [], [], x, x', h, hx, _, _ => by
    cases x <;> simp [absMinMax] at h
    exact ⟨hx.int_inv, rfl⟩
  | y :: r, y' :: r', x, x', h, hx, hl, hr => by
    cases x <;> cases y <;> simp [absMinMax] at h
    have e1 := hx.int_inv
    have e2 := (hr 0 _ _ rfl rfl).int_inv
    obtain ⟨_, e3⟩ := absMinMax_same mx r r' _ _ h (.flat rfl) (by simpa using hl) (fun i a b ha hb => hr (i + 1) a b ha hb)
    exact ⟨e1, by rw [e2, e3]⟩
  | [], _ :: _, _, _, _, _, hl, _ => by simp at hl
  | _ :: _, [], _, _, _, _, hl, _ => by simp at hl
def absMake (P : Program) (H : Mem) (t : TypeId) (l c : Value) : Option (Value × Mem) :=
  match P.underlying t, l, c with
  | some (.slice e), .int _ l, .int _ c =>
    match P.info? e with
    | some i => match i.zero with
      | some z => if 0 ≤ l ∧ l ≤ c ∧ (i.bytes : Int) * c ≤ 281474976710656 ∧ c ≤ 9223372036854775807 ∧ allA z.cells flat = true ∧ z.cells.size ≠ 0 ∧ i.size ≠ 0 then
          some (.slice (some ⟨H.length, 0, none⟩) l.toNat i.size, H ++ [.cells false (madeCells z.cells (c.toNat * i.size)).toList]) else none
      | none => none
    | none => none
  | _, _, _ => none
theorem absMake_run (hM : MRel φ H w) {t : TypeId} {l c l' c' : Value} {r : Value × Mem} (h : absMake P H t l c = some r) (hl : VRel φ l l') (hc : VRel φ c c') : DoneV φ H w ((Instr.makeSlice t l' c').run P w) r.1 r.2 := by
  unfold absMake at h
  split at h
  · rename_i e kl l kc c hu
    cases hl.int_inv; cases hc.int_inv
    split at h
    · rename_i i hi
      split at h
      · rename_i z hz
        split at h
        · rename_i hb
          obtain ⟨b1, b2, b3, b4, b5, b6, b7⟩ := hb
          cases h
          rw [run_make w t e i z hu hi hz kl kc l c b1 b2 b3 b4]
          have hflat : ∀ (j : Nat) (a b : Value), (madeCells z.cells (c.toNat * i.size)).toList[j]? = some a → (madeCells z.cells (c.toNat * i.size)).toList[j]? = some b → VRel φ a b := by
            intro j a b ha hb
            rw [ha] at hb; cases hb
            refine .flat ?_
            have hj := (List.getElem?_eq_some_iff.1 ha).1
            simp [madeCells] at ha hj
            obtain ⟨x, hx1, rfl⟩ := ha
            have hlt : x % z.cells.size < z.cells.size := Nat.mod_lt _ (by omega)
            rw [getElem!_pos z.cells _ hlt]
            exact (allA_mem.1 b5) _ (Array.getElem_mem hlt)
          obtain ⟨r1, r2⟩ := hM.row (madeCells z.cells (c.toNat * i.size)).toList (madeCells z.cells (c.toNat * i.size)).toList e (Nat.le_refl _) hflat
          refine ⟨_, _, _, rfl, by simpa using r2, ?_, by simpa using r1⟩
          refine .slice (a := ⟨H.length, 0, none⟩) (put_self _ _ _) rfl (by omega) (.inr ?_) (.inl rfl) (fun e => absurd e b7)
          simp [madeCells]
        · cases h
      · cases h
    · cases h
  · cases h
theorem ARel.setIf {xs ys : Array Value} (h : ARel φ xs ys) {a b : Value} (hab : VRel φ a b) (i : Nat) : ARel φ (xs.setIfInBounds i a) (ys.setIfInBounds i b) := by
  refine ⟨by simp [h.1], fun j v u hv hu => ?_⟩
  rw [Array.getElem?_setIfInBounds] at hv hu
  split at hv
  · rename_i e; rw [if_pos e] at hu
    split at hv
    · split at hu
      · cases hv; cases hu; exact hab
      · cases hu
    · cases hv
  · rename_i e; rw [if_neg e] at hu; exact h.2 j v u hv hu
theorem fold_rel (off : Nat) : ∀ (l l' : List (Value × Nat)) (xs ys : Array Value), l.length = l'.length → (∀ (i : Nat) (p q : Value × Nat), l[i]? = some p → l'[i]? = some q → VRel φ p.1 q.1 ∧ p.2 = q.2) → ARel φ xs ys →
    ARel φ (l.foldl (fun cs (c, j) => cs.setIfInBounds (off + j) c) xs) (l'.foldl (fun cs (c, j) => cs.setIfInBounds (off + j) c) ys)
  | [], [], xs, ys, _, _, h => h
  | p :: r, q :: r', xs, ys, hl, hr, h => by
    obtain ⟨h1, h2⟩ := hr 0 p q rfl rfl
    simp only [List.foldl_cons]
    refine fold_rel off r r' _ _ (by simpa using hl) (fun i a b ha hb => hr (i + 1) a b ha hb) ?_
    rw [h2]; exact h.setIf h1 _
  | [], _ :: _, _, _, hl, _, _ => by simp at hl
  | _ :: _, [], _, _, hl, _, _ => by simp at hl
theorem fill_rel (place : Nat → Option (Nat × Nat)) : ∀ (ps qs : List (Nat × Value)) (xs ys r : Array Value), ps.length = qs.length → (∀ (i : Nat) (p q : Nat × Value), ps[i]? = some p → qs[i]? = some q → p.1 = q.1 ∧ VRel φ p.2 q.2) → ARel φ xs ys →
    Instr.fill place xs ps = some r → ∃ r', Instr.fill place ys qs = some r' ∧ ARel φ r r'
  | [], [], xs, ys, r, _, _, h, hf => by cases hf; exact ⟨ys, rfl, h⟩
  | (i, a) :: ps, (j, b) :: qs, xs, ys, r, hl, hr, h, hf => by
    obtain ⟨h1, h2⟩ := hr 0 _ _ rfl rfl
    simp only at h1 h2
    subst h1
    simp only [Instr.fill] at hf ⊢
    cases hp : place i with
    | none => rw [hp] at hf; cases hf
    | some os =>
      obtain ⟨off, size⟩ := os
      rw [hp] at hf
      simp only at hf ⊢
      have hc := ARel.cells h2
      rw [hc.1, h.1] at hf
      split at hf
      · cases hf
      · rename_i hcond
        rw [if_neg hcond]
        refine fill_rel place ps qs _ _ r (by simpa using hl) (fun i p q hp hq => hr (i + 1) p q hp hq) ?_ hf
        rw [← Array.foldl_toList, ← Array.foldl_toList]
        refine fold_rel off _ _ _ _ (by simp [hc.1]) (fun k p q hp hq => ?_) h
        simp [Array.getElem?_zipIdx] at hp hq
        obtain ⟨x, hx, rfl⟩ := hp
        obtain ⟨y, hy, rfl⟩ := hq
        exact ⟨hc.2 k x y hx hy, rfl⟩
  | [], _ :: _, _, _, _, hl, _, _, _ => by simp at hl
  | _ :: _, [], _, _, _, hl, _, _, _ => by simp at hl
end
end Go.Den
namespace Go.Den
open Go
set_option linter.unusedVariables false
set_option linter.unusedSimpArgs false
section
variable {P : Program} {φ : Ren} {H H' : Mem} {w : World} {v : Value}
def absPlaces (P : Program) : List Field → Option (List (Nat × Nat))
  | [] => some []
  | f :: fs => match P.info? f.type, absPlaces P fs with
    | some i, some r => some ((f.offset, i.size) :: r)
    | _, _ => none
theorem places_run : ∀ (fs : List Field) (r : List (Nat × Nat)), absPlaces P fs = some r → (fs.mapM (fun f => do pure (f.offset, ← sizeOf f.type) : Field → Sem (Nat × Nat))).run P w = .ok r w
  | [], r, h => by cases h; simp
  | f :: fs, r, h => by
    simp only [absPlaces] at h
    split at h
    · rename_i i r' hi hr
      cases h
      have := places_run fs r' hr
      simp only [List.mapM_cons, Sem.run_bind, run_sizeOf hi, Result.andThen_ok, Sem.run_pure, this]
    · cases h
theorem places_run' (fs : Array Field) (r : List (Nat × Nat)) (h : absPlaces P fs.toList = some r) : (fs.mapM (fun f => do pure (f.offset, ← sizeOf f.type) : Field → Sem (Nat × Nat))).run P w = .ok r.toArray w := by
  rw [Array.mapM_eq_mapM_toList, Sem.run_map, places_run _ _ h]
  rfl
theorem flatAll {xs : Array Value} (h : allA xs flat = true) : ARel φ xs xs := ⟨rfl, fun i v u a b => by
  rw [a] at b; cases b; exact .flat ((allA_mem.1 h) _ (Array.mem_of_getElem? a))⟩
def PRel (φ : Ren) (ps qs : List (Nat × Value)) : Prop := ps.length = qs.length ∧ ∀ (i : Nat) (p q : Nat × Value), ps[i]? = some p → qs[i]? = some q → p.1 = q.1 ∧ VRel φ p.2 q.2
def absBuild (P : Program) (t : TypeId) (ps : List (Nat × Value)) : Option Value :=
  match P.info? t, P.underlying t with
  | some i, some (.struct fs) =>
    match i.zero, absPlaces P fs.toList with
    | some z, some pl => if allA z.cells flat = true then (Instr.fill (fun i => pl.toArray[i]?) z.cells ps).map .agg else none
    | _, _ => none
  | some i, some (.array _ e) =>
    match i.zero, P.info? e with
    | some z, some s => if allA z.cells flat = true then (Instr.fill (fun i => some (i * s.size, s.size)) z.cells ps).map .agg else none
    | _, _ => none
  | _, _ => none
theorem absBuild_run {t : TypeId} {ps : List (Nat × Value)} {qs : Array (Nat × Value)} (h : absBuild P t ps = some v) (hp : PRel φ ps qs.toList) : ∃ u, (Instr.build t qs).run P w = .ok u w ∧ VRel φ v u := by
  unfold absBuild at h
  split at h
  · rename_i i fs hi hu
    split at h
    · rename_i z pl hz hpl
      split at h
      · rename_i hf
        cases hq : Instr.fill (fun i => pl.toArray[i]?) z.cells ps with
        | none => rw [hq] at h; cases h
        | some r =>
          rw [hq] at h; cases h
          obtain ⟨r', e1, e2⟩ := fill_rel _ ps qs.toList z.cells z.cells r hp.1 hp.2 (flatAll hf) hq
          refine ⟨.agg r', ?_, e2.agg⟩
          simp only [Instr.build, Sem.run_bind, zeroValue, typeInfo, run_program, Result.andThen_ok, hi, Sem.run_pure, hz, run_underlying hu, places_run' fs pl hpl]
          simp only [e1]
          rfl
      · cases h
    · cases h
  · rename_i i n e hi hu
    split at h
    · rename_i z s hz hs
      split at h
      · rename_i hf
        cases hq : Instr.fill (fun i => some (i * s.size, s.size)) z.cells ps with
        | none => rw [hq] at h; cases h
        | some r =>
          rw [hq] at h; cases h
          obtain ⟨r', e1, e2⟩ := fill_rel _ ps qs.toList z.cells z.cells r hp.1 hp.2 (flatAll hf) hq
          refine ⟨.agg r', ?_, e2.agg⟩
          simp only [Instr.build, Sem.run_bind, zeroValue, typeInfo, run_program, Result.andThen_ok, hi, Sem.run_pure, hz, run_underlying hu, run_sizeOf hs]
          simp only [e1]
          rfl
      · cases h
    · cases h
  · cases h
def absBuildSlice (P : Program) (H : Mem) (t : TypeId) (len : Nat) (ps : List (Nat × Value)) : Option (Value × Mem) :=
  match P.underlying t with
  | some (.slice e) =>
    match P.info? e with
    | some i =>
      match i.zero with
      | some z =>
        if len * i.size ≤ 16777216 ∧ allA z.cells flat = true ∧ z.cells.size ≠ 0 ∧ i.size ≠ 0 then
          (Instr.fill (fun j => some (j * i.size, i.size)) (madeCells (if len * i.size = 0 then #[] else z.cells) (len * i.size)) ps).map fun r => (.slice (some ⟨H.length, 0, none⟩) len i.size, H ++ [.cells false r.toList])
        else none
      | none => none
    | none => none
  | _ => none
theorem made_flat {z : Array Value} {n : Nat} (h : allA z flat = true) (hz : n = 0 ∨ z.size ≠ 0) : allA (madeCells z n) flat = true := by
  rw [allA_mem]
  intro x hx
  simp [madeCells] at hx
  obtain ⟨j, hj, rfl⟩ := hx
  have hz' : z.size ≠ 0 := by
    rcases hz with hz | hz
    · omega
    · exact hz
  have hlt : j % z.size < z.size := Nat.mod_lt _ (by omega)
  rw [getElem!_pos z _ hlt]
  exact (allA_mem.1 h) _ (Array.getElem_mem hlt)
theorem fill_size (place : Nat → Option (Nat × Nat)) : ∀ (ps : List (Nat × Value)) (xs r : Array Value), Instr.fill place xs ps = some r → r.size = xs.size
  | [], xs, r, h => by cases h; rfl
  | (i, a) :: ps, xs, r, h => by
    simp only [Instr.fill] at h
    cases hp : place i with
    | none => rw [hp] at h; cases h
    | some os =>
      rw [hp] at h
      simp only at h
      split at h
      · cases h
      · rename_i hcond
        rw [fill_size place ps _ r h, ← Array.foldl_toList]
        generalize (a.cells.zipIdx).toList = l
        clear h hcond
        induction l generalizing xs with
        | nil => rfl
        | cons p l ih => simp only [List.foldl_cons]; rw [ih]; simp
theorem absBuildSlice_run (hM : MRel φ H w) {t : TypeId} {len : Nat} {ps : List (Nat × Value)} {qs : Array (Nat × Value)} {r : Value × Mem} (h : absBuildSlice P H t len ps = some r) (hp : PRel φ ps qs.toList) :
    DoneV φ H w ((Instr.buildSlice t len qs).run P w) r.1 r.2 := by
  unfold absBuildSlice at h
  split at h
  · rename_i e hu
    split at h
    · rename_i i hi
      split at h
      · rename_i z hz
        split at h
        · rename_i hb
          obtain ⟨b1, b2, b3, b7⟩ := hb
          cases hq : Instr.fill (fun j => some (j * i.size, i.size)) (madeCells (if len * i.size = 0 then #[] else z.cells) (len * i.size)) ps with
          | none => rw [hq] at h; cases h
          | some c =>
            rw [hq] at h; cases h
            have hfl : allA (madeCells (if len * i.size = 0 then #[] else z.cells) (len * i.size)) flat = true := by
              split
              · rename_i e0; rw [e0]; simp [madeCells, Array.range_zero', allA]
              · exact made_flat b2 (.inr b3)
            obtain ⟨c', e1, e2⟩ := fill_rel _ ps qs.toList _ _ c hp.1 hp.2 (flatAll (φ := φ) hfl) hq
            have hsz := fill_size _ _ _ _ hq
            obtain ⟨r1, r2⟩ := hM.row c.toList c'.toList e (by simp [e2.1]) (fun j a b ha hb => e2.2 j a b (by simpa using ha) (by simpa using hb))
            have hrun : (Instr.buildSlice t len qs).run P w = .ok (.slice (some ⟨w.heap.size, 0, none⟩) len len) (w.alloc (.cells c'.toList.toArray e)) := by
              have b1' : ¬ (16777216 < len * i.size) := by omega
              by_cases h0 : len * i.size = 0
              · rw [if_pos h0] at e1
                simp only [madeCells, h0, Array.range_zero', Array.map_empty] at e1
                simp [Instr.buildSlice, run_underlying hu, run_sizeOf hi, b1', h0, newRow, Array.range_zero']
                simp [e1]
              · rw [if_neg h0] at e1
                simp [Instr.buildSlice, run_underlying hu, run_sizeOf hi, b1', h0, newRow, zeroValue, typeInfo, hi, hz]
                simp only [madeCells] at e1
                simp [e1]
            rw [hrun]
            refine ⟨_, _, _, rfl, r2, ?_, r1⟩
            refine .slice (a := ⟨H.length, 0, none⟩) (put_self _ _ _) rfl (Nat.le_refl _) (.inr ?_) (.inl rfl) (fun e => absurd e b7)
            have : c'.size = len * i.size := by rw [← e2.1, hsz]; simp [madeCells]
            simp [this]
        · cases h
      · cases h
    · cases h
  · cases h
end
end Go.Den
namespace Go.Den
open Go
set_option linter.unusedVariables false
set_option linter.unusedSimpArgs false
section
variable {P : Program} {φ : Ren} {H H' : Mem} {w : World} {v : Value}
def absLenOf : Value → Option Nat
  | .slice _ n _ => some n
  | .string s => some s.size
  | _ => none
def absCopy (P : Program) (H : Mem) (ats : Array TypeId) (d s : Value) : Option (Value × Mem) :=
  match ats[0]?, d, absLenOf s with
  | some t, .slice base n c, some k =>
    match P.underlying t with
    | some (.slice e) =>
      match P.info? e with
      | some i =>
        if Nat.min k n = 0 then some (goInt 0, H)
        else
          match base, s with
          | some ⟨b, o, none⟩, .slice (some ⟨b2, o2, none⟩) _ _ =>
            match H[b]?, absCells H b2 o2 (Nat.min k n * i.size) with
            | some (.cells false vs), some us => if o + us.length ≤ vs.length ∧ us.all (·.oneCell') = true ∧ 0 < i.size then some (goInt (Nat.min k n), H.set b (.cells false (splice vs o us))) else none
            | _, _ => none
          | some ⟨b, o, none⟩, .string s =>
            match H[b]? with
            | some (.cells false vs) => if i.size = 1 ∧ o + Nat.min k n ≤ vs.length then some (goInt (Nat.min k n), H.set b (.cells false (splice vs o ((s.extract 0 (Nat.min k n)).data.toList.map fun b => .int .u8 b.toNat)))) else none
            | _ => none
          | _, _ => none
      | none => none
    | _ => none
  | _, _, _ => none
theorem absCopy_run (hM : MRel φ H w) (ty : TypeId) {ats : Array TypeId} {d s d' s' : Value} {r : Value × Mem} (h : absCopy P H ats d s = some r) (hd : VRel φ d d') (hs : VRel φ s s') : DoneV φ H w ((Builtin.copy_ ats ty #[d', s']).run P w) r.1 r.2 := by
  unfold absCopy at h
  split at h
  case h_2 => cases h
  rename_i t base n c k h0 hk
  split at h
  case h_2 => cases h
  rename_i e hu
  split at h
  case h_2 => cases h
  rename_i i hi
  have hlen : ∀ w : World, (Builtin.lenOf s').run P w = .ok k w := by
    intro w
    unfold absLenOf at hk
    split at hk
    · rename_i b n' c'
      cases hk
      cases b with
      | none => obtain ⟨rfl, rfl, rfl⟩ := hs.noslice_inv; rfl
      | some a => obtain ⟨l, c', o, h1, h2, h3, h4, h5, rfl⟩ := hs.slice_inv; rfl
    · cases hk; cases hs.string_inv; rfl
    · cases hk
  have hd' : ∃ base' c', d' = .slice base' n c' := by
    cases base with
    | none => obtain ⟨rfl, rfl, rfl⟩ := hd.noslice_inv; exact ⟨_, _, rfl⟩
    | some a => obtain ⟨l, c', o, h1, h2, h3, h4, h5, rfl⟩ := hd.slice_inv; exact ⟨_, _, rfl⟩
  split at h
  · rename_i hm
    cases h
    obtain ⟨base', c', rfl⟩ := hd'
    refine DoneV.same hM (u := goInt 0) ?_ (.flat rfl)
    have hfirst : (Builtin.firstCells i.size 0 s').run P w = .ok #[] w := by
      unfold absLenOf at hk
      split at hk
      · rename_i b n' c'
        cases b with
        | none => obtain ⟨rfl, rfl, rfl⟩ := hs.noslice_inv; simp [Builtin.firstCells]
        | some a => obtain ⟨l, c', o, h1, h2, h3, h4, h5, rfl⟩ := hs.slice_inv; exact run_firstCells_some (P := P) w i.size 0 _ _ _ [] (by simp) (by simp)
      · cases hs.string_inv; simp [Builtin.firstCells]
      · cases hk
    cases base' <;> simp [Builtin.copy_, h0, run_underlying hu, hlen, hm, run_sizeOf hi, hfirst, storeCells]
  · rename_i hm
    split at h
    · rename_i b o b2 o2 k' c2
      split at h
      · rename_i vs us hb hc
        split at h
        · rename_i hcond
          obtain ⟨g1, g2, g3⟩ := hcond
          cases h
          obtain ⟨L, c', o', h1, h2, h3, h4, h5, rfl⟩ := hd.slice_inv
          obtain ⟨L2, c2', o2', h1', h2', h3', h4', h5', rfl⟩ := hs.slice_inv
          obtain ⟨e1, us', e2, e3, e4⟩ := cells_rel hM h1' hc
          have hk' : k' = k := by cases hk; rfl
          subst hk'
          have hmin : 0 < Nat.min k' n := Nat.pos_of_ne_zero hm
          have hmn : Nat.min k' n ≤ n := Nat.min_le_right _ _
          have hmk : Nat.min k' n ≤ k' := Nat.min_le_left _ _
          have ho : o' = L.base + o := by
            rcases h5 with h5 | h5
            · exact h5
            · omega
          have ho2 : o2' = L2.base + o2 := by
            rcases h5' with h5' | h5'
            · exact h5'
            · omega
          subst ho; subst ho2
          obtain ⟨s1, s2, s3⟩ := hM.store h1 hb us us' (o := o) g1 (by omega) e4
          have hst := run_storeCells_cells (P := P) L.b (L.base + o) us' 0 w (fun j hj => by simpa using (s1 j hj).1) (fun j hj => by simpa using (s1 j hj).2) (one_all (by omega) e4 g2)
          simp only [Nat.add_zero] at hst
          have hfirst := run_firstCells_some (P := P) w i.size (Nat.min k' n) ⟨L2.b, L2.base + o2, none⟩ k' c2' us' e2 (fun j v hv => by rw [Addr.add_mid]; exact e3 j v hv)
          refine ⟨φ, goInt (Nat.min k' n), _, ?_, s3, .flat rfl, s2⟩
          simp [Builtin.copy_, h0, run_underlying hu, hlen, run_sizeOf hi, hfirst, hst]
        · cases h
      · cases h
    · rename_i b o s
      split at h
      · rename_i vs hb
        split at h
        · rename_i hcond
          obtain ⟨g1, g2⟩ := hcond
          cases h
          obtain ⟨L, c', o', h1, h2, h3, h4, h5, rfl⟩ := hd.slice_inv
          cases hs.string_inv
          have hk' : k = s.size := by cases hk; rfl
          subst hk'
          have hmin : 0 < Nat.min s.size n := Nat.pos_of_ne_zero hm
          have hmn : Nat.min s.size n ≤ n := Nat.min_le_right _ _
          have hmk : Nat.min s.size n ≤ s.size := Nat.min_le_left _ _
          have ho : o' = L.base + o := by
            rcases h5 with h5 | h5
            · exact h5
            · omega
          subst ho
          have hsl : ((s.extract 0 (Nat.min s.size n)).data.toList.map fun b => Value.int .u8 b.toNat).length = Nat.min s.size n := by
            simp [ByteArray.data_extract]
          obtain ⟨s1, s2, s3⟩ := hM.store h1 hb ((s.extract 0 (Nat.min s.size n)).data.toList.map fun b => Value.int .u8 b.toNat) ((s.extract 0 (Nat.min s.size n)).data.toList.map fun b => Value.int .u8 b.toNat) (o := o) (by omega) rfl
            (fun j v u hv hu => by rw [hv] at hu; cases hu; rw [List.getElem?_map] at hv; cases hq : (s.extract 0 (Nat.min s.size n)).data.toList[j]? <;> rw [hq] at hv <;> cases hv; exact .flat rfl)
          have hst := run_storeCells_cells (P := P) L.b (L.base + o) ((s.extract 0 (Nat.min s.size n)).data.toList.map fun b => Value.int .u8 b.toNat) 0 w (fun j hj => by simpa using (s1 j hj).1) (fun j hj => by simpa using (s1 j hj).2) (fun v hv => by obtain ⟨x, _, rfl⟩ := List.mem_map.1 hv; rfl)
          simp only [Nat.add_zero] at hst
          refine ⟨φ, goInt (Nat.min s.size n), _, ?_, s3, .flat rfl, s2⟩
          simp only [Builtin.copy_, h0, run_underlying hu, hlen, run_sizeOf hi, Sem.run_bind, Result.andThen_ok]
          simp [Builtin.firstCells, run_underlying hu, hlen, run_sizeOf hi]
          simp at hst
          rw [hst]; rfl
        · cases h
      · cases h
    · cases h
theorem MRel.row' (hM : MRel φ H w) (us us' : List Value) (e : TypeId) (fr : Nat × Nat) (hfr : us'.length ≤ fr.1) (hl : us.length ≤ us'.length) (hr : ∀ (i : Nat) (v u : Value), us[i]? = some v → us'[i]? = some u → VRel φ v u) :
    MRel (φ.put H.length ⟨w.heap.size, 0, us'.length, false⟩) (H ++ [.cells false us]) (w.alloc (.cells us'.toArray e fr)) ∧
      Ext φ H w (φ.put H.length ⟨w.heap.size, 0, us'.length, false⟩) (H ++ [.cells false us]) (w.alloc (.cells us'.toArray e fr)) := by
  have hlast : (w.alloc (.cells us'.toArray e fr)).heap[w.heap.size]? = some (.cells us'.toArray e fr) := by
    show (w.heap.push _)[w.heap.size]? = _
    simp
  have hc : ∀ j, j < us'.length → (w.alloc (.cells us'.toArray e fr)).cell? ⟨w.heap.size, 0 + j, none⟩ = us'[j]? := fun j hj => by
    rw [Nat.zero_add]
    unfold World.cell?
    rw [hlast]
    simp
  refine hM.push _ _ _ rfl (fun _ => rfl) ⟨rfl, fun i v hv => ?_, fun _ => ⟨hl, fun j hj => ⟨⟨us'[j], ?_⟩, ?_⟩⟩⟩
  · have hi : i < us.length := (List.getElem?_eq_some_iff.1 hv).1
    refine ⟨us'[i], ?_, (hr i v _ hv (List.getElem?_eq_getElem (by omega))).mono (Ren.le_put (hM.none_at (Nat.le_refl _)) _)⟩
    show (w.alloc (.cells us'.toArray e fr)).cell? ⟨w.heap.size, 0 + i, none⟩ = _
    rw [hc i (by omega)]; exact List.getElem?_eq_getElem (by omega)
  · show (w.alloc (.cells us'.toArray e fr)).cell? ⟨w.heap.size, 0 + j, none⟩ = _
    rw [hc j hj]; exact List.getElem?_eq_getElem hj
  · show (w.alloc (.cells us'.toArray e fr)).frozen? ⟨w.heap.size, 0 + j, none⟩ = false
    simp only at hj
    unfold World.frozen?
    rw [hlast]
    simp
    omega
def absU8 : List Value → Option (List Int)
  | [] => some []
  | .int .u8 n :: r => (absU8 r).map (n :: ·)
  | _ :: _ => none
theorem absU8_eq : ∀ {us : List Value} {ns : List Int}, absU8 us = some ns → us = ns.map (Value.int .u8)
  | [], ns, h => by cases h; rfl
  | x :: r, ns, h => by
    cases x <;> first | (simp [absU8] at h; done) | skip
    rename_i k n
    cases k <;> first | (simp [absU8] at h; done) | skip
    cases hr : absU8 r with
    | none => simp [absU8, hr] at h
    | some l =>
      simp [absU8, hr] at h
      subst h
      rw [absU8_eq hr]; rfl
def bytesOf (ns : List Int) : ByteArray := ns.foldl (fun r n => r.push (UInt8.ofNat n.toNat)) ByteArray.empty
def absConv (P : Program) (H : Mem) (src dst : TypeId) (x : Value) : Option (Value × Mem) :=
  match P.underlying src, P.underlying dst, x with
  | some (.int _), some (.int k), .int _ n => some (.int k (k.wrap n), H)
  | some (.int _), some .string, .int _ n => some (.string (Utf8.encode n), H)
  | some .string, some .string, .string s => some (.string s, H)
  | some .string, some (.slice e), .string s =>
    match P.underlying e with
    | some (.int .u8) => some (.slice (some ⟨H.length, 0, none⟩) s.size 1, H ++ [.cells false (s.data.toList.map fun b => .int .u8 b.toNat)])
    | _ => none
  | some (.slice e), some .string, x =>
    match P.underlying e with
    | some (.int .u8) =>
      match x with
      | .slice none 0 0 => some (.string .empty, H)
      | .slice (some ⟨b, o, none⟩) n _ =>
        match absCells H b o n with
        | some us => (absU8 us).map fun ns => (.string (bytesOf ns), H)
        | none => none
      | _ => none
    | _ => none
  | _, _, _ => none
theorem run_markStringish_new (w : World) (c : Array Value) (e : TypeId) : (markStringish ⟨w.heap.size, 0, none⟩).run P (w.alloc (.cells c e)) = .ok () (w.alloc (.cells c e (c.size, c.size + 1))) := by
  have hlast : (w.alloc (.cells c e)).heap[w.heap.size]? = some (.cells c e) := by
    show (w.heap.push _)[w.heap.size]? = _
    simp
  have hshape : (w.alloc (.cells c e)).shape? w.heap.size = some (e, c.size) := by
    unfold World.shape?; rw [hlast]
  unfold markStringish
  rw [Sem.run_bind, run_shape, Result.andThen_ok, hshape]
  show Result.ok () ((w.alloc (.cells c e)).freeze ⟨w.heap.size, c.size, none⟩ 1) = _
  congr 1
  unfold World.freeze World.alloc
  simp only [Nat.one_ne_zero, if_false]
  congr 1
  apply Array.ext'
  apply List.ext_getElem?
  intro j
  rw [Array.getElem?_toList, Array.getElem?_toList, Array.getElem?_modify, Array.getElem?_push, Array.getElem?_push]
  by_cases hj : j = w.heap.size
  · subst hj; simp
  · rw [if_neg hj, if_neg (Ne.symm hj), if_neg hj]
theorem absConv_run (hM : MRel φ H w) {src dst : TypeId} {x x' : Value} {r : Value × Mem} (h : absConv P H src dst x = some r) (hx : VRel φ x x') : DoneV φ H w ((convert src dst x').run P w) r.1 r.2 := by
  unfold absConv at h
  split at h
  · rename_i h1 h2; cases h; cases hx.int_inv
    exact DoneV.same hM (by simp [convert, run_underlying h1, run_underlying h2, Conv.intToInt]) (.flat rfl)
  · rename_i h1 h2; cases h; cases hx.int_inv
    exact DoneV.same hM (by simp [convert, run_underlying h1, run_underlying h2, Conv.intToString]) (.flat rfl)
  · rename_i h1 h2; cases h; cases hx.string_inv
    exact DoneV.same hM (by simp [convert, run_underlying h1, run_underlying h2]) (.flat rfl)
  · rename_i e s h1 h2
    split at h
    · rename_i h3
      cases h; cases hx.string_inv
      have hcap := grownCap_ge w s.size 0 e
      have hrun : (convert src dst (.string s)).run P w = .ok (.slice (some ⟨w.heap.size, 0, none⟩) s.size (grownCap w s.size 0 e))
          (w.drew.alloc (.cells ((s.data.toList.map fun (b : UInt8) => Value.int .u8 b.toNat) ++ List.replicate (grownCap w s.size 0 e - s.size) (Value.int .u8 0)).toArray e (grownCap w s.size 0 e, grownCap w s.size 0 e + 1))) := by
        have hsz : s.data.size = s.size := rfl
        have hsum : s.data.size + (grownCap w s.size 0 e - s.size) = grownCap w s.size 0 e := by omega
        have hm := run_markStringish_new (P := P) w.drew ((s.data.map fun b => Value.int .u8 b.toNat) ++ Array.replicate (grownCap w s.size 0 e - s.size) (.int .u8 0)) e
        simp only [grownCap] at hm hcap hsum ⊢
        simp only [convert, Sem.run_bind, run_underlying h1, run_underlying h2, run_underlying h3, Result.andThen_ok]
        simp only [Conv.stringToBytes, newRow, Sem.run_bind, run_choose, Question.forced, Bool.false_eq_true, if_false, Result.andThen_ok, run_newObj, Sem.run_pure, World.drew_eq, World.alloc_eq]
        simp only [World.size_drew] at hm ⊢
        rw [hm]
        simp only [Result.andThen_ok]
        generalize (Question.appendCap s.size 0 e).cut (w.tape w.drawn (Question.appendCap s.size 0 e)) = K at *
        have hA : (Array.map (fun b => Value.int IntKind.u8 ↑b.toNat) s.data ++ Array.replicate (K - s.size) (Value.int IntKind.u8 0)) = (List.map (fun b => Value.int IntKind.u8 ↑b.toNat) s.data.toList ++ List.replicate (K - s.size) (Value.int IntKind.u8 0)).toArray := by
          apply Array.ext'; simp
        have hB : (Array.map (fun b => Value.int IntKind.u8 ↑b.toNat) s.data ++ Array.replicate (K - s.size) (Value.int IntKind.u8 0)).size = K := by simp; omega
        rw [hB, hA]
      rw [hrun]
      obtain ⟨r1, r2⟩ := hM.drew.row' (s.data.toList.map fun (b : UInt8) => Value.int .u8 b.toNat) ((s.data.toList.map fun (b : UInt8) => Value.int .u8 b.toNat) ++ List.replicate (grownCap w s.size 0 e - s.size) (Value.int .u8 0)) e (grownCap w s.size 0 e, grownCap w s.size 0 e + 1)
        (by simp; omega) (by simp)
        (list_rel_more rfl fun j v u hv hu => by rw [hv] at hu; cases hu; rw [List.getElem?_map] at hv; cases hq : s.data.toList[j]? <;> rw [hq] at hv <;> cases hv; exact .flat rfl)
      refine ⟨_, _, _, rfl, (Ext.drew φ H w).trans r2, ?_, r1⟩
      refine .slice (a := ⟨H.length, 0, none⟩) (put_self _ _ _) rfl hcap (.inr ?_) (.inl rfl) (fun e => by cases e)
      simp; omega
    · cases h
  · rename_i e h1 h2
    split at h
    · rename_i h3
      split at h
      · cases h
        obtain ⟨_, _, rfl⟩ := hx.noslice_inv
        exact DoneV.same hM (by rw [run_convert_bytes_string w src dst e _ _ _ h1 h3 h2]; simp [Conv.bytesToString]) (.flat rfl)
      · rename_i b o n c
        split at h
        · rename_i us hc
          cases hq : absU8 us with
          | none => rw [hq] at h; cases h
          | some ns =>
            rw [hq] at h; cases h
            obtain ⟨L, c', o', g1, g2, g3, g4, g5, rfl⟩ := hx.slice_inv
            obtain ⟨e1, us', e2, e3, e4⟩ := cells_rel hM g1 hc
            have hus := absU8_eq hq
            have hus' : us' = us := by
              apply List.ext_getElem? 
              intro j
              by_cases hj : j < us.length
              · have := e4 j us[j] us'[j] (List.getElem?_eq_getElem hj) (List.getElem?_eq_getElem (by omega))
                rw [List.getElem?_eq_getElem hj, List.getElem?_eq_getElem (show j < us'.length by omega)]
                subst hus
                simp at this
                simp [this.int_inv]
              · rw [List.getElem?_eq_none (by omega), List.getElem?_eq_none (by omega)]
            refine DoneV.same hM (u := .string (bytesOf ns)) ?_ (.flat rfl)
            rw [run_convert_bytes_string w src dst e _ _ _ h1 h3 h2]
            refine run_bytesToString w _ n c' ns ?_
            have := run_loadCells_list (P := P) w ⟨L.b, o', none⟩ us' (fun j v hv => by
              have hj : j < us'.length := (List.getElem?_eq_some_iff.1 hv).1
              rcases g5 with g5 | g5
              · subst g5; rw [Addr.add_mid]; exact e3 j v hv
              · omega)
            rw [e2] at this
            rw [this, hus', hus]
        · cases h
      · cases h
    · cases h
  · cases h
end
end Go.Den
namespace Go.Den
open Go
set_option linter.unusedVariables false
set_option linter.unusedSimpArgs false
section
variable {P : Program} {φ : Ren} {H H' : Mem} {w : World} {v : Value}
def absExtract (x : Value) (i : Nat) : Option Value :=
  match x with
  | .tuple vs => vs[i]?
  | _ => none
theorem absExtract_run {x x' : Value} {i : Nat} (h : absExtract x i = some v) (hx : VRel φ x x') : ∃ u, (Instr.extract x' i).run P w = .ok u w ∧ VRel φ v u := by
  unfold absExtract at h
  split at h
  · obtain ⟨ys, rfl, hy⟩ := hx.tuple_inv
    obtain ⟨u, hu, hr⟩ := hy.get h
    exact ⟨u, by simp [Instr.extract, hu], hr⟩
  · cases h
def absFieldV (P : Program) (t : TypeId) (x : Value) (f : Nat) : Option Value :=
  match P.underlying t, x with
  | some (.struct fs), .agg xs => match fs[f]? with
    | some fd => absPart P fd.type xs fd.offset
    | none => none
  | _, _ => none
theorem absFieldV_run {t : TypeId} {x x' : Value} {f : Nat} (h : absFieldV P t x f = some v) (hx : VRel φ x x') : ∃ u, (Instr.field t x' f).run P w = .ok u w ∧ VRel φ v u := by
  unfold absFieldV at h
  split at h
  · rename_i fs xs hu
    split at h
    · rename_i fd hf
      obtain ⟨ys, rfl, hy⟩ := hx.agg_inv
      obtain ⟨u, e1, e2⟩ := part_run (w := w) h hy
      exact ⟨u, by simp [Instr.field, run_underlying hu, hf, asAgg, e1], e2⟩
    · cases h
  · cases h
def absRange (P : Program) (H : Mem) (t : TypeId) (x : Value) : Option (Value × Mem) :=
  match P.underlying t, x with
  | some .string, .string s => some (.pointer (some ⟨H.length, 0, none⟩), H ++ [.iter s 0])
  | _, _ => none
theorem absRange_run (hM : MRel φ H w) {t : TypeId} {x x' : Value} {r : Value × Mem} (h : absRange P H t x = some r) (hx : VRel φ x x') : DoneV φ H w ((Instr.range t x').run P w) r.1 r.2 := by
  unfold absRange at h
  split at h
  · rename_i s hu
    cases h; cases hx.string_inv
    rw [run_range_string w t s hu]
    obtain ⟨r1, r2⟩ := hM.push (.stringIter s 0) (.iter s 0) ⟨w.heap.size, 0, 0, false⟩ rfl (fun _ => rfl) ⟨rfl, rfl, World.iter_heap w s 0⟩
    exact ⟨_, _, _, rfl, r2, .ptr (a := ⟨H.length, 0, none⟩) (put_self _ _ _) rfl, r1⟩
  · cases h
def absNext (H : Mem) (x : Value) : Option (Value × Mem) :=
  match x with
  | .pointer (some ⟨n, 0, none⟩) =>
    match H[n]? with
    | some (.iter s pos) =>
      if pos < s.size then some (.tuple #[.bool true, goInt pos, .int .i32 (Utf8.decode s pos).1], H.set n (.iter s (pos + (Utf8.decode s pos).2)))
      else some (.tuple #[.bool false], H)
    | _ => none
  | _ => none
theorem absNext_run (hM : MRel φ H w) (ty : TypeId) {x x' : Value} {r : Value × Mem} (h : absNext H x = some r) (hx : VRel φ x x') : DoneV φ H w ((Instr.next x' true ty).run P w) r.1 r.2 := by
  unfold absNext at h
  split at h
  · rename_i n
    obtain ⟨l, h1, h2, rfl⟩ := hx.ptr_inv
    split at h
    · rename_i s pos hb
      obtain ⟨b1, b2, b3⟩ := hM.blk _ _ _ h1 hb
      have hl := (hM.dom _ _ h1).2
      split at h
      · rename_i hp
        cases h
        obtain ⟨r1, r2⟩ := hM.setObj (k' := .iter s (pos + (Utf8.decode s pos).2)) h1 hb rfl rfl (.stringIter s (pos + (Utf8.decode s pos).2)) ⟨b1, b2, by simp [hl]⟩
        refine ⟨φ, .tuple #[.bool true, goInt pos, .int .i32 (Utf8.decode s pos).1], _, ?_, r2, VRel.tuple rfl fun i v u hv hu => ?_, r1⟩
        · simp [Instr.next, b2, getObj, setObj, Sem.run, b3, hp]
        · rw [hv] at hu; cases hu
          match i with
          | 0 => simp at hv; subst hv; exact .flat rfl
          | 1 => simp at hv; subst hv; exact .flat rfl
          | 2 => simp at hv; subst hv; exact .flat rfl
          | i + 3 => simp at hv
      · rename_i hp
        cases h
        refine DoneV.same hM (u := .tuple #[.bool false]) ?_ (VRel.tuple rfl fun i v u hv hu => ?_)
        · simp [Instr.next, b2, getObj, Sem.run, b3, hp]
        · rw [hv] at hu; cases hu
          match i with
          | 0 => simp at hv; subst hv; exact .flat rfl
          | i + 1 => simp at hv
    · cases h
  · cases h
theorem VRel.plain_eq {x u : Value} (h : plainV x = true) (hx : VRel φ x u) : u = x := by
  unfold plainV at h
  split at h
  · rename_i cs
    obtain ⟨ys, rfl, h1, h2⟩ := hx.agg_inv
    congr 1
    apply Array.ext h1.symm
    intro i hi hj
    have := h2 i cs[i] ys[i] (Array.getElem?_eq_getElem hj) (Array.getElem?_eq_getElem hi)
    have hf := (allA_mem.1 h) _ (Array.getElem_mem hj)
    generalize cs[i] = a at *
    generalize ys[i] = b at *
    cases this <;> first | rfl | (simp [Den.flat] at hf)
  · cases hx <;> first | rfl | (simp [Den.flat] at h)
def absKeyFields (P : Program) (ok : TypeId → Value → Bool) (xs : Array Value) : List Field → Bool
  | [] => true
  | f :: fs => (if f.name ≠ "_" then match absPart P f.type xs f.offset with | some a => ok f.type a | none => false else true) && absKeyFields P ok xs fs
def absKey (P : Program) : Nat → TypeId → Value → Bool
  | 0, _, _ => false
  | d + 1, t, v =>
    match P.underlying t with
    | some (.interface _) | some (.array _ _) | none => false
    | some (.struct fs) => match v with
      | .agg xs => absKeyFields P (absKey P d) xs fs.toList
      | _ => false
    | some _ => true
theorem absKey_run (e : Bool) : ∀ (d : Nat) (t : TypeId) (x : Value), absKey P d t x = true → (Instr.checkKey e d t x).run P w = .ok () w := by
  intro d
  induction d with
  | zero => intro t x h; cases h
  | succ d ih =>
    intro t x h
    unfold absKey at h
    split at h
    · cases h
    · cases h
    · cases h
    · rename_i fs hu
      split at h
      · rename_i xs
        simp only [Instr.checkKey, Sem.run_bind, run_underlying hu, Result.andThen_ok]
        rw [← Array.forIn_toList]
        generalize fs.toList = l at h
        clear hu
        induction l with
        | nil => simp
        | cons f l ihl =>
          simp only [absKeyFields, Bool.and_eq_true] at h
          obtain ⟨h1, h2⟩ := h
          simp only [List.forIn_cons, Sem.run_bind]
          split at h1
          · rename_i hn
            split at h1
            · rename_i a ha
              have hp : (part f.type xs f.offset).run P w = .ok a w := by
                unfold absPart at ha
                split at ha
                · rename_i dd i hd hi
                  split at ha
                  · rename_i hr; cases ha; simp [part, Sem.run_bind, run_isAgg hd, hr, run_sizeOf hi]
                  · rename_i hr; simp [part, Sem.run_bind, run_isAgg hd, hr, ha]
                · cases ha
              simp only [if_pos hn, Sem.run_bind, hp, Result.andThen_ok, ih _ _ h1, Sem.run_pure]
              exact ihl h2
            · cases h1
          · rename_i hn
            simp only [if_neg hn, Sem.run_bind, Sem.run_pure, Result.andThen_ok]
            exact ihl h2
      · cases h
    · rename_i dd h1 h2 h3 hu
      cases dd <;> first | exact (h1 _ rfl).elim | exact (h2 _ _ rfl).elim | exact (h3 _ rfl).elim | simp [Instr.checkKey, run_underlying hu]
def absFind (P : Program) (t : TypeId) (k : Value) : List MapEntry → Nat → Option (Option (Nat × MapEntry))
  | [], _ => some none
  | e :: es, i => match absEq P 10000 t k e.key with
    | some true => some (some (i, e))
    | some false => absFind P t k es (i + 1)
    | none => none
def scalar : TypeDesc → Bool
  | .int _ | .string | .bool => true
  | _ => false
def keyKind : TypeDesc → Bool
  | .int _ | .string | .bool | .struct _ => true
  | _ => false
theorem sameNow_eq {t : TypeId} {d : TypeDesc} (hu : P.underlying t = some d) (hs : scalar d = true) {k k' e e' : Value} {b : Bool} (h : absEq P 10000 t k e = some b) (hk : VRel φ k k') (he : VRel φ e e') : Instr.sameNow d k' e' = some b := by
  rw [show (10000 : Nat) = 9999 + 1 from rfl] at h
  unfold absEq at h
  rw [hu] at h
  cases d <;> simp [scalar] at hs
  · cases k <;> cases e <;> simp at h
    cases hk.bool_inv; cases he.bool_inv; simp [Instr.sameNow, h]
  · cases k <;> cases e <;> simp at h
    cases hk.int_inv; cases he.int_inv; simp [Instr.sameNow, h]
  · cases k <;> cases e <;> simp at h
    cases hk.string_inv; cases he.string_inv; simp [Instr.sameNow, ← h, beq_toListBytes]
theorem sameNow_struct {fs : Array Field} {k e : Value} : Instr.sameNow (.struct fs) k e = none := rfl
def FRel (φ : Ren) : Option (Nat × MapEntry) → Option (Nat × Value) → Prop
  | none, none => True
  | some (i, e), some (j, v) => i = j ∧ VRel φ e.val v
  | _, _ => False
theorem findNow_run {t : TypeId} {d : TypeDesc} (hu : P.underlying t = some d) (hs : scalar d = true) {k k' : Value} (hk : VRel φ k k') : ∀ (es es' : List MapEntry) (i : Nat) (r : Option (Nat × MapEntry)), absFind P t k es i = some r → es.length = es'.length →
    (∀ (j : Nat) (e e' : MapEntry), es[j]? = some e → es'[j]? = some e' → ERel φ e e') → ∃ r', Instr.findNow d k' es' i = some r' ∧ FRel φ r r'
  | [], [], i, r, h, _, _ => by cases h; exact ⟨none, rfl, trivial⟩
  | e :: es, e' :: es', i, r, h, hl, hr => by
    obtain ⟨h1, h2, h3⟩ := hr 0 e e' rfl rfl
    simp only [absFind] at h
    split at h
    · rename_i he
      cases h
      exact ⟨some (i, e'.val), by simp [Instr.findNow, sameNow_eq hu hs he hk h1], rfl, h2⟩
    · rename_i he
      obtain ⟨r', q1, q2⟩ := findNow_run hu hs hk es es' (i + 1) r h (by simpa using hl) (fun j a b ha hb => hr (j + 1) a b ha hb)
      exact ⟨r', by simp [Instr.findNow, sameNow_eq hu hs he hk h1, q1], q2⟩
    · cases h
  | [], _ :: _, _, _, _, hl, _ => by simp at hl
  | _ :: _, [], _, _, _, hl, _ => by simp at hl
theorem findAsk_run {t : TypeId} {k k' : Value} (hk : VRel φ k k') : ∀ (es es' : List MapEntry) (i : Nat) (r : Option (Nat × MapEntry)), absFind P t k es i = some r → es.length = es'.length →
    (∀ (j : Nat) (e e' : MapEntry), es[j]? = some e → es'[j]? = some e' → ERel φ e e') → ∃ r', (Instr.findAsking t k' es' i).run P w = .ok r' w ∧ FRel φ r r'
  | [], [], i, r, h, _, _ => by cases h; exact ⟨none, rfl, trivial⟩
  | e :: es, e' :: es', i, r, h, hl, hr => by
    obtain ⟨h1, h2, h3⟩ := hr 0 e e' rfl rfl
    simp only [absFind] at h
    split at h
    · rename_i he
      cases h
      exact ⟨some (i, e'.val), by simp [Instr.findAsking, Op.equal, Op.maxDepth, absEq_run (w := w) 10000 he hk h1], rfl, h2⟩
    · rename_i he
      obtain ⟨r', q1, q2⟩ := findAsk_run hk es es' (i + 1) r h (by simpa using hl) (fun j a b ha hb => hr (j + 1) a b ha hb)
      exact ⟨r', by simp [Instr.findAsking, Op.equal, Op.maxDepth, absEq_run (w := w) 10000 he hk h1, q1], q2⟩
    · cases h
  | [], _ :: _, _, _, _, hl, _ => by simp at hl
  | _ :: _, [], _, _, _, hl, _ => by simp at hl
theorem find_run {t : TypeId} {d : TypeDesc} (hu : P.underlying t = some d) (hs : keyKind d = true) {k k' : Value} (hk : VRel φ k k') (es es' : List MapEntry) (r : Option (Nat × MapEntry)) (h : absFind P t k es 0 = some r) (hl : es.length = es'.length)
    (hr : ∀ (j : Nat) (e e' : MapEntry), es[j]? = some e → es'[j]? = some e' → ERel φ e e') : ∃ r', (Instr.findKey t k' es').run P w = .ok r' w ∧ FRel φ r r' := by
  by_cases hsc : scalar d = true
  · obtain ⟨r', q1, q2⟩ := findNow_run hu hsc hk es es' 0 r h hl hr
    exact ⟨r', by simp [Instr.findKey, run_underlying hu, q1], q2⟩
  · cases d <;> simp [keyKind, scalar] at hs hsc
    rename_i fs
    match es, es', hl with
    | [], [], _ => cases h; exact ⟨none, by simp [Instr.findKey, run_underlying hu, Instr.findNow], trivial⟩
    | e :: es, e' :: es', hl =>
      obtain ⟨r', q1, q2⟩ := findAsk_run (w := w) hk (e :: es) (e' :: es') 0 r h hl hr
      exact ⟨r', by simp [Instr.findKey, run_underlying hu, Instr.findNow, sameNow_struct, q1], q2⟩
end
end Go.Den
namespace Go.Den
open Go
set_option linter.unusedVariables false
set_option linter.unusedSimpArgs false
section
variable {P : Program} {φ : Ren} {H H' : Mem} {w : World} {v : Value}
def absMapOf (H : Mem) (m : Value) : Option (List MapEntry) :=
  match m with
  | .map none => some []
  | .map (some r) => match H[r]? with
    | some (.map es _) => some es
    | _ => none
  | _ => none
def absLookup (P : Program) (H : Mem) (t : TypeId) (m k : Value) (ok : Bool) : Option Value :=
  match P.underlying t, absMapOf H m with
  | some (.map kt e), some es =>
    match P.underlying kt, P.info? e with
    | some d, some i =>
      if keyKind d = true ∧ absKey P 10000 kt k = true ∧ plainV k = true then
        match absFind P kt k es 0, i.zero with
        | some (some (_, e)), _ => some (if ok then .tuple #[e.val, .bool true] else e.val)
        | some none, some z => if plainV z then some (if ok then .tuple #[z, .bool false] else z) else none
        | _, _ => none
      else none
    | _, _ => none
  | _, _ => none
theorem pair_rel {a a' b b' : Value} (h1 : VRel φ a a') (h2 : VRel φ b b') : VRel φ (.tuple #[a, b]) (.tuple #[a', b']) := .tuple rfl fun i v u hv hu => by
  match i with
  | 0 => simp at hv hu; subst hv; subst hu; exact h1
  | 1 => simp at hv hu; subst hv; subst hu; exact h2
  | i + 2 => simp at hv
theorem mapOf_run (hM : MRel φ H w) {m m' : Value} {es : List MapEntry} (hes : absMapOf H m = some es) (hm : VRel φ m m') : ∃ es' : Array MapEntry, (m' = .map none ∧ es' = #[] ∨ ∃ r cl, m' = .map (some r) ∧ w.heap[r]? = some (.map es' cl)) ∧ es.length = es'.toList.length ∧ ∀ (j : Nat) (e e' : MapEntry), es[j]? = some e → es'.toList[j]? = some e' → ERel φ e e' := by
  unfold absMapOf at hes
  split at hes
  · cases hes
    have : m' = .map none := by cases hm; rfl
    subst this
    exact ⟨#[], .inl ⟨rfl, rfl⟩, rfl, fun j e e' a => by simp at a⟩
  · rename_i r
    split at hes
    · rename_i es0 cl hb
      cases hes
      obtain ⟨l, h1, rfl⟩ := hm.map_inv
      obtain ⟨b0, es', b1, b2, b3⟩ := hM.blk _ _ _ h1 hb
      exact ⟨es', .inr ⟨_, _, rfl, b1⟩, by simpa using b2, fun j a b ha hb => b3 j a b ha (by simpa using hb)⟩
    · cases hes
  · cases hes
theorem lookup_eq {t kt e : TypeId} {m' k : Value} {ok : Bool} {es' : Array MapEntry} {r : Option (Nat × Value)} (hu : P.underlying t = some (.map kt e)) (hm : m' = .map none ∧ es' = #[] ∨ ∃ r cl, m' = .map (some r) ∧ w.heap[r]? = some (.map es' cl))
    (hk : (Instr.checkKey es'.isEmpty 10000 kt k).run P w = .ok () w) (hf : (Instr.findKey kt k es'.toList).run P w = .ok r w) :
    (∀ j u, r = some (j, u) → (Instr.lookup t m' k ok).run P w = .ok (if ok then .tuple #[u, .bool true] else u) w) ∧
    (r = none → ∀ i z, P.info? e = some i → i.zero = some z → (Instr.lookup t m' k ok).run P w = .ok (if ok then .tuple #[z, .bool false] else z) w) := by
  refine ⟨fun j u hr => ?_, fun hr i z hi hz => ?_⟩
  · subst hr
    rcases hm with ⟨rfl, rfl⟩ | ⟨q, cl, rfl, hb⟩
    · simp at hf hk
      simp [Instr.lookup, run_underlying hu, hk, hf]
    · simp [Instr.lookup, run_underlying hu, getObj, Sem.run, hb, hk, hf]
  · subst hr
    rcases hm with ⟨rfl, rfl⟩ | ⟨q, cl, rfl, hb⟩
    · simp at hf hk
      simp [Instr.lookup, run_underlying hu, hk, hf, zeroValue, typeInfo, hi, hz]
    · simp [Instr.lookup, run_underlying hu, getObj, Sem.run, hb, hk, hf, zeroValue, typeInfo, hi, hz]
theorem absLookup_run (hM : MRel φ H w) {t : TypeId} {m m' k k' : Value} {ok : Bool} (h : absLookup P H t m k ok = some v) (hm : VRel φ m m') (hk : VRel φ k k') : ∃ u, (Instr.lookup t m' k' ok).run P w = .ok u w ∧ VRel φ v u := by
  unfold absLookup at h
  split at h
  case h_2 => cases h
  rename_i kt e es hu hes
  split at h
  case h_2 => cases h
  rename_i d i hd hi
  split at h
  case isFalse => cases h
  rename_i hc
  obtain ⟨c1, c2, c3⟩ := hc
  obtain rfl := hk.plain_eq c3
  obtain ⟨es', g1, g2, g3⟩ := mapOf_run hM hes hm
  have hck := absKey_run (w := w) es'.isEmpty 10000 kt k' c2
  split at h
  · rename_i j e0 hf
    cases h
    obtain ⟨r', q1, q2⟩ := find_run (w := w) hd c1 hk es es'.toList _ hf g2 g3
    cases r' with
    | none => cases q2
    | some p =>
      obtain ⟨j', u⟩ := p
      obtain ⟨rfl, q2⟩ := q2
      refine ⟨_, (lookup_eq (ok := ok) hu g1 hck q1).1 _ _ rfl, ?_⟩
      cases ok
      · exact q2
      · exact pair_rel q2 (.flat rfl)
  · rename_i z hf hz
    split at h
    · rename_i hp
      cases h
      obtain ⟨r', q1, q2⟩ := find_run (w := w) hd c1 hk es es'.toList _ hf g2 g3
      cases r' with
      | some _ => cases q2
      | none =>
        refine ⟨_, (lookup_eq (ok := ok) hu g1 hck q1).2 rfl i z hi hz, ?_⟩
        cases ok
        · exact VRel.plain hp
        · exact pair_rel (VRel.plain hp) (.flat rfl)
    · cases h
  · cases h
theorem makeMap_run (hM : MRel φ H w) (t : TypeId) : DoneV φ H w ((Instr.makeMap t none).run P w) (.map (some H.length)) (H ++ [.map [] 0]) := by
  have hlast : (w.alloc (.map #[] 0)).heap[w.heap.size]? = some (.map #[] 0) := by
    show (w.heap.push _)[w.heap.size]? = _
    simp
  obtain ⟨r1, r2⟩ := hM.push (.map #[] 0) (.map [] 0) ⟨w.heap.size, 0, 0, false⟩ rfl (fun _ => rfl) ⟨rfl, #[], hlast, rfl, fun i e e' a => by simp at a⟩
  refine ⟨_, .map (some w.heap.size), _, ?_, r2, .map (put_self φ H.length _), r1⟩
  simp [Instr.makeMap]
theorem absFind_at {t : TypeId} {k : Value} : ∀ (es : List MapEntry) (i j : Nat) (e : MapEntry), absFind P t k es i = some (some (j, e)) → i ≤ j ∧ es[j - i]? = some e
  | [], i, j, e, h => by cases h
  | x :: es, i, j, e, h => by
    simp only [absFind] at h
    split at h
    · cases h; exact ⟨Nat.le_refl _, by simp⟩
    · obtain ⟨h1, h2⟩ := absFind_at es (i + 1) j e h
      refine ⟨by omega, ?_⟩
      rw [show j - i = (j - (i + 1)) + 1 by omega]; simpa using h2
    · cases h
def absUpdate (P : Program) (H : Mem) (t : TypeId) (m k x : Value) : Option Mem :=
  match P.underlying t, m with
  | some (.map kt _), .map (some r) =>
    match P.underlying kt, H[r]? with
    | some d, some (.map es cl) =>
      if keyKind d = true ∧ absKey P 10000 kt k = true ∧ plainV k = true then
        match absFind P kt k es 0 with
        | some (some (i, e)) => if plainV e.key = true ∧ Instr.sameBits 10000 e.key k = true then some (H.set r (.map (es.modify i fun e => { e with key := k, val := x }) cl)) else none
        | some none => some (H.set r (.map (es ++ [{ key := k, val := x, born := cl }]) (cl + 1)))
        | none => none
      else none
    | _, _ => none
  | _, _ => none
theorem absUpdate_run (hM : MRel φ H w) {t : TypeId} {m m' k k' x x' : Value} (h : absUpdate P H t m k x = some H') (hm : VRel φ m m') (hk : VRel φ k k') (hx : VRel φ x x') :
    ∃ w', (Instr.mapUpdate t m' k' x').run P w = .ok () w' ∧ MRel φ H' w' ∧ Ext φ H w φ H' w' := by
  unfold absUpdate at h
  split at h
  case h_2 => cases h
  rename_i kt e r hu
  split at h
  case h_2 => cases h
  rename_i d es cl hd hb
  split at h
  case isFalse => cases h
  rename_i hc
  obtain ⟨c1, c2, c3⟩ := hc
  obtain rfl := hk.plain_eq c3
  obtain ⟨l, h1, rfl⟩ := hm.map_inv
  obtain ⟨b0, es', b1, b2, b3⟩ := hM.blk _ _ _ h1 hb
  have hl := (hM.dom _ _ h1).2
  have hck := absKey_run (w := w) false 10000 kt k' c2
  split at h
  · rename_i i e0 hf
    split at h
    case isFalse => cases h
    rename_i hs
    obtain ⟨s1, s2⟩ := hs
    cases h
    obtain ⟨r', q1, q2⟩ := find_run (w := w) hd c1 hk es es'.toList _ hf (by simpa using b2) (fun j a b ha hb => b3 j a b ha (by simpa using hb))
    cases r' with
    | none => cases q2
    | some p =>
      obtain ⟨j, u⟩ := p
      obtain ⟨rfl, q2⟩ := q2
      have he1 : es[i]? = some e0 := by have := (absFind_at es 0 i e0 hf).2; simpa using this
      have hi : i < es.length := (List.getElem?_eq_some_iff.1 he1).1
      have hi' : i < es'.size := by omega
      have hkey := b3 i e0 es'[i] he1 (Array.getElem?_eq_getElem hi')
      have hkk : es'[i].key = e0.key := hkey.1.plain_eq s1
      obtain ⟨r1, r2⟩ := hM.setObj (k' := .map (es.modify i fun e => { e with key := k', val := x }) cl) h1 hb rfl rfl (.map (es'.modify i fun e => { e with key := k', val := x' }) cl) ⟨b0, es'.modify i fun e => { e with key := k', val := x' }, by simp [hl], by simp [b2], fun j a b ha hb' => by
        rw [List.getElem?_modify] at ha
        rw [Array.getElem?_modify] at hb'
        cases hq : es[j]? with
        | none => rw [hq] at ha; simp at ha
        | some y =>
          cases hq' : es'[j]? with
          | none => rw [hq'] at hb'; simp at hb'
          | some y' =>
            rw [hq] at ha; rw [hq'] at hb'
            obtain ⟨z1, z2, z3⟩ := b3 j y y' hq hq'
            by_cases e : i = j
            · simp [e] at ha hb'; subst ha; subst hb'; exact ⟨hk, hx, z3⟩
            · simp [e] at ha hb'; subst ha; subst hb'; exact ⟨z1, z2, z3⟩⟩
      refine ⟨_, ?_, r1, r2⟩
      simp [Instr.mapUpdate, run_underlying hu, getObj, setObj, Sem.run, b1, hck, q1, Instr.keyThatStays, Array.getElem?_eq_getElem hi', hkk, s2]
  · rename_i hf
    cases h
    obtain ⟨r', q1, q2⟩ := find_run (w := w) hd c1 hk es es'.toList _ hf (by simpa using b2) (fun j a b ha hb => b3 j a b ha (by simpa using hb))
    cases r' with
    | some _ => cases q2
    | none =>
      obtain ⟨r1, r2⟩ := hM.setObj (k' := .map (es ++ [{ key := k', val := x, born := cl }]) (cl + 1)) h1 hb rfl rfl (.map (es'.push { key := k', val := x', born := cl }) (cl + 1)) ⟨b0, es'.push { key := k', val := x', born := cl }, by simp [hl], by simp [b2], fun j a b ha hb' => by
        rw [get?_append_one] at ha
        rw [Array.getElem?_push] at hb'
        by_cases e : j = es.length
        · rw [if_pos e] at ha; rw [if_pos (by omega)] at hb'
          cases ha; cases hb'; exact ⟨hk, hx, rfl⟩
        · rw [if_neg e] at ha; rw [if_neg (by omega)] at hb'
          exact b3 j a b ha hb'⟩
      refine ⟨_, ?_, r1, r2⟩
      simp [Instr.mapUpdate, run_underlying hu, getObj, setObj, Sem.run, b1, hck, q1]
  · cases h
end
end Go.Den
namespace Go.Den
open Go
set_option linter.unusedVariables false
set_option linter.unusedSimpArgs false
section
variable {P : Program} {φ : Ren} {H H' : Mem} {w : World} {ρ ρ' : Operand → Value} {o : Oper} {v : Value}
def absBuiltin (P : Program) (ρ : Operand → Value) (H : Mem) (b : Builtin) (ats : Array TypeId) (args : List Operand) : Option (Value × Mem) :=
  match b, args with
  | .len, [x] => match ats[0]? with
    | some t => (absLen P H t (ρ x)).map fun v => (v, H)
    | none => none
  | .append, [s, x] => absAppend P H ats (ρ s) (ρ x)
  | .copy, [d, s] => absCopy P H ats (ρ d) (ρ s)
  | .max, x :: r => (absMinMax true (ρ x) (r.map ρ)).map fun v => (v, H)
  | .min, x :: r => (absMinMax false (ρ x) (r.map ρ)).map fun v => (v, H)
  | _, _ => none
def absNil (x : Value) : Option Value :=
  match x with
  | .pointer (some a) => some (.pointer (some a))
  | .func (.func f) xs ys => some (.func (.func f) xs ys)
  | _ => none
def absPick (c a b : Value) : Option Value :=
  match c with
  | .bool t => some (if t then a else b)
  | _ => none
def absOp (P : Program) (ρ : Operand → Value) (H : Mem) (o : Oper) : Option (Value × Mem) :=
  match o.op with
  | .move x | .assign x => some (ρ x, H)
  | .pick c a b => (absPick (ρ c) (ρ a) (ρ b)).map fun v => (v, H)
  | .alloc t => absAlloc P H t
  | .box _ x => some (absBox H (ρ x))
  | .build t ps => (absBuild P t (ps.toList.map fun p => (p.1, ρ p.2))).map fun v => (v, H)
  | .buildSlice t n ps => absBuildSlice P H t n (ps.toList.map fun p => (p.1, ρ p.2))
  | .load t p => (absLoad P H t (ρ p)).map fun v => (v, H)
  | .store t p x => (absStore P H t (ρ p) (ρ x)).map fun H' => (undef, H')
  | .nilCheck x => (absNil (ρ x)).map fun v => (v, H)
  | .binOp op t x y _ => (absBinOp P op t (ρ x) (ρ y)).map fun v => (v, H)
  | .unOp op _ x => (absUn op (ρ x)).map fun v => (v, H)
  | .convert s d x => absConv P H s d (ρ x)
  | .makeFunc fn first captured => some (.func fn (first.map ρ) (captured.map ρ), H)
  | .makeSlice t l c => absMake P H t (ρ l) (ρ c)
  | .slice t x lo hi mx => (absSlice P H t (ρ x) (lo.map ρ) (hi.map ρ) (mx.map ρ)).map fun v => (v, H)
  | .fieldAddr s x f => (absField P s (ρ x) f).map fun v => (v, H)
  | .field t x f => (absFieldV P t (ρ x) f).map fun v => (v, H)
  | .indexAddr t x i => (absIndexAddr P H t (ρ x) (ρ i)).map fun v => (v, H)
  | .index t x i => (absIndex P t (ρ x) (ρ i)).map fun v => (v, H)
  | .range t x => absRange P H t (ρ x)
  | .next it true => absNext H (ρ it)
  | .extract x i => (absExtract (ρ x) i).map fun v => (v, H)
  | .lookup t m k ok => (absLookup P H t (ρ m) (ρ k) ok).map fun v => (v, H)
  | .mapUpdate t m k x | .insert t m k x => (absUpdate P H t (ρ m) (ρ k) (ρ x)).map fun H' => (undef, H')
  | .makeMap _ none => some (.map (some H.length), H ++ [.map [] 0])
  | .call { callee := .builtin b, args, argTypes } => absBuiltin P ρ H b argTypes args.toList
  | _ => none
theorem DoneV.done {s : Sem Value} {r : Value × Mem} (h : DoneV φ H w (s.run P w) r.1 r.2) : Done φ H w ((do pure (.value (← s)) : Sem Next).run P w) r.1 r.2 := by
  obtain ⟨φ', v', w', e1, e2, e3, e4⟩ := h
  refine ⟨φ', v', w', .value v', ?_, .inl rfl, e2, e3, e4⟩
  rw [Sem.run_bind, e1]; rfl
theorem done_of {s : Sem Value} (hM : MRel φ H w) (h : ∃ u, s.run P w = .ok u w ∧ VRel φ v u) : Done φ H w ((do pure (.value (← s)) : Sem Next).run P w) v H := by
  obtain ⟨u, h1, h2⟩ := h
  exact DoneV.done (r := (v, H)) (DoneV.same hM h1 h2)
theorem map_eq_some {α β : Type} {x : Option α} {f : α → β} {b : β} (h : x.map f = some b) : ∃ a, x = some a ∧ f a = b := by
  cases x with
  | none => cases h
  | some a => exact ⟨a, rfl, by cases h; rfl⟩
theorem orel {x : Option Operand} (h : ∀ y, x = some y → VRel φ (ρ y) (ρ' y)) : ORel φ (x.map ρ) (x.map ρ') := by
  cases x with
  | none => trivial
  | some y => exact h y rfl
theorem arel_map {xs : Array Operand} (h : ∀ y ∈ xs, VRel φ (ρ y) (ρ' y)) : ARel φ (xs.map ρ) (xs.map ρ') := by
  refine ⟨by simp, fun i v u hv hu => ?_⟩
  rw [Array.getElem?_map] at hv hu
  cases hq : xs[i]? with
  | none => rw [hq] at hv; cases hv
  | some y => rw [hq] at hv hu; cases hv; cases hu; exact h y (Array.mem_of_getElem? hq)
theorem prel_map {ps : Array (Nat × Operand)} (h : ∀ y ∈ (ps.toList.map (·.2)).toArray, VRel φ (ρ y) (ρ' y)) : PRel φ (ps.toList.map fun p => (p.1, ρ p.2)) (ps.map fun (i, x) => (i, ρ' x)).toList := by
  refine ⟨by simp, fun i p q hp hq => ?_⟩
  simp only [Array.toList_map, List.getElem?_map] at hp hq
  cases hx : ps.toList[i]? with
  | none => rw [hx] at hp; cases hp
  | some y =>
    rw [hx] at hp hq; cases hp; cases hq
    exact ⟨rfl, h _ (by simp; exact ⟨_, by simpa using List.mem_of_getElem? hx⟩)⟩
theorem absOp_run (hM : MRel φ H w) (hS : Same φ ρ ρ' o) {r : Value × Mem} (h : absOp P ρ H o = some r) : Done φ H w ((execOp ρ' o).run P w) r.1 r.2 := by
  obtain ⟨dst, op, type, pos, after, guard⟩ := o
  have hρ : ∀ x ∈ op.operands, VRel φ (ρ x) (ρ' x) := hS
  clear hS
  cases op <;> simp only [absOp] at h <;> simp only [execOp] <;> simp only [Op.operands] at hρ
  case move x => cases h; exact Done.pure hM (hρ x (by simp)) rfl
  case assign x => cases h; exact Done.pure hM (hρ x (by simp)) rfl
  case pick c a b =>
    obtain ⟨u, h1, rfl⟩ := map_eq_some h
    unfold absPick at h1
    split at h1
    · rename_i t ht
      cases h1
      have hc := hρ c (by simp)
      rw [ht] at hc
      refine Done.pure hM (v' := if t then ρ' a else ρ' b) ?_ (by simp [hc.bool_inv, asBool])
      cases t
      · exact hρ b (by simp)
      · exact hρ a (by simp)
    · cases h1
  case alloc t =>
    obtain ⟨φ', w', e1, e2, e3, e4⟩ := absAlloc_run (P := P) hM h
    exact DoneV.done ⟨φ', _, w', e1, e2, e3, e4⟩
  case box t x =>
    cases h
    obtain ⟨φ', w', e1, e2, e3, e4⟩ := absBox_run (P := P) hM (t := t) (hρ x (by simp))
    exact DoneV.done ⟨φ', _, w', e1, e2, e3, e4⟩
  case build t ps =>
    obtain ⟨u, h1, rfl⟩ := map_eq_some h
    exact done_of hM (absBuild_run h1 (prel_map (fun y hy => hρ y (by simpa using hy))))
  case buildSlice t n ps => exact DoneV.done (absBuildSlice_run hM h (prel_map (fun y hy => hρ y (by simpa using hy))))
  case load t p =>
    obtain ⟨u, h1, rfl⟩ := map_eq_some h
    exact done_of hM (absLoad_run hM h1 (hρ p (by simp)))
  case store t p x =>
    obtain ⟨H1, h1, rfl⟩ := map_eq_some h
    obtain ⟨w', e1, e2, e3⟩ := absStore_run hM h1 (hρ p (by simp)) (hρ x (by simp))
    exact ⟨φ, undef, w', .skip, by rw [Sem.run_bind, e1]; rfl, .inr ⟨rfl, rfl⟩, e3, VRel.undef φ, e2⟩
  case nilCheck x =>
    obtain ⟨u, h1, rfl⟩ := map_eq_some h
    unfold absNil at h1
    have hx := hρ x (by simp)
    split at h1
    · rename_i a ha
      cases h1
      rw [ha] at hx
      obtain ⟨l, q1, q2, q3⟩ := hx.ptr_inv
      refine Done.pure hM hx (by rw [q3]; rfl)
    · rename_i f xs ys ha
      cases h1
      rw [ha] at hx
      have : ∃ xs' ys', ρ' x = .func (.func f) xs' ys' := by
        generalize ρ' x = q at hx
        cases hx with
        | flat h => simp [Den.flat] at h
        | func => exact ⟨_, _, rfl⟩
      obtain ⟨xs', ys', q3⟩ := this
      refine Done.pure hM hx (by rw [q3]; rfl)
    · cases h1
  case binOp op t x y yt =>
    obtain ⟨u, h1, rfl⟩ := map_eq_some h
    obtain ⟨e1, e2⟩ := binOp_run (w := w) (x := x) (y := y) h1 (hρ x (by simp)) (hρ y (by simp))
    exact done_of hM ⟨u, e1, .flat e2⟩
  case unOp op t x =>
    obtain ⟨u, h1, rfl⟩ := map_eq_some h
    obtain ⟨e1, e2⟩ := absUn_run (P := P) (w := w) h1 (hρ x (by simp))
    exact done_of hM ⟨u, e1, .flat e2⟩
  case convert s d x => exact DoneV.done (absConv_run hM h (hρ x (by simp)))
  case makeFunc fn first captured =>
    cases h
    have h1 := arel_map (xs := first) (fun y hy => hρ y (by simp [hy]))
    have h2 := arel_map (xs := captured) (fun y hy => hρ y (by simp [hy]))
    exact done_of hM ⟨_, rfl, .func h1.1 h1.2 h2.1 h2.2⟩
  case makeSlice t l c => exact DoneV.done (absMake_run hM h (hρ l (by simp)) (hρ c (by simp)))
  case slice t x lo hi mx =>
    obtain ⟨u, h1, rfl⟩ := map_eq_some h
    exact done_of hM (absSlice_run hM h1 (hρ x (by simp)) (orel fun y hy => hρ y (by simp [hy])) (orel fun y hy => hρ y (by simp [hy])) (orel fun y hy => hρ y (by simp [hy])))
  case fieldAddr s x f =>
    obtain ⟨u, h1, rfl⟩ := map_eq_some h
    exact done_of hM (absField_run h1 (hρ x (by simp)))
  case field t x f =>
    obtain ⟨u, h1, rfl⟩ := map_eq_some h
    exact done_of hM (absFieldV_run h1 (hρ x (by simp)))
  case indexAddr t x i =>
    obtain ⟨u, h1, rfl⟩ := map_eq_some h
    exact done_of hM (absIndexAddr_run h1 (hρ x (by simp)) (hρ i (by simp)))
  case index t x i =>
    obtain ⟨u, h1, rfl⟩ := map_eq_some h
    exact done_of hM (absIndex_run h1 (hρ x (by simp)) (hρ i (by simp)))
  case lookup t m k ok =>
    obtain ⟨u, h1, rfl⟩ := map_eq_some h
    exact done_of hM (absLookup_run hM h1 (hρ m (by simp)) (hρ k (by simp)))
  case mapUpdate t m k x =>
    obtain ⟨H1, h1, rfl⟩ := map_eq_some h
    obtain ⟨w', e1, e2, e3⟩ := absUpdate_run hM h1 (hρ m (by simp)) (hρ k (by simp)) (hρ x (by simp))
    exact ⟨φ, undef, w', .skip, by rw [Sem.run_bind, e1]; rfl, .inr ⟨rfl, rfl⟩, e3, VRel.undef φ, e2⟩
  case insert t m k x =>
    obtain ⟨H1, h1, rfl⟩ := map_eq_some h
    obtain ⟨w', e1, e2, e3⟩ := absUpdate_run hM h1 (hρ m (by simp)) (hρ k (by simp)) (hρ x (by simp))
    exact ⟨φ, undef, w', .skip, by rw [Sem.run_bind, e1]; rfl, .inr ⟨rfl, rfl⟩, e3, VRel.undef φ, e2⟩
  case makeMap t r =>
    cases r with
    | none => cases h; exact DoneV.done (r := (Value.map (some H.length), H ++ [.map [] 0])) (makeMap_run hM t)
    | some _ => cases h
  case range t x => exact DoneV.done (absRange_run hM h (hρ x (by simp)))
  case next it s =>
    cases s with
    | false => cases h
    | true => exact DoneV.done (absNext_run hM type h (hρ it (by simp)))
  case extract x i =>
    obtain ⟨u, h1, rfl⟩ := map_eq_some h
    exact done_of hM (absExtract_run h1 (hρ x (by simp)))
  case call c =>
    obtain ⟨callee, args, ats⟩ := c
    cases callee <;> simp only at h <;> try (cases h; done)
    rename_i b
    replace hρ : ∀ x ∈ args.toList, VRel φ (ρ x) (ρ' x) := fun x hx => hρ x (by simp [Call.operands]; simpa using hx)
    obtain ⟨args⟩ := args
    simp only at h hρ
    simp only [resolve, Sem.run_bind, Sem.run_pure, Result.andThen_ok, invoke]
    unfold absBuiltin at h
    split at h
    · rename_i x
      split at h
      · rename_i t ht
        obtain ⟨u, h1, rfl⟩ := map_eq_some h
        obtain ⟨e1, e2⟩ := absLen_run hM type ht h1 (hρ x (by simp))
        exact done_of hM ⟨u, by simpa using e1, .flat e2⟩
      · cases h
    · rename_i s x
      have := absAppend_run hM type h (hρ s (by simp)) (hρ x (by simp))
      exact DoneV.done (by simpa using this)
    · rename_i d s
      have := absCopy_run hM type h (hρ d (by simp)) (hρ s (by simp))
      exact DoneV.done (by simpa using this)
    · rename_i x r
      obtain ⟨u, h1, rfl⟩ := map_eq_some h
      obtain ⟨e1, e2⟩ := absMinMax_same true (r.map ρ) (r.map ρ') (ρ x) (ρ' x) h1 (hρ x (by simp)) (by simp) (fun i a b ha hb => by
        rw [List.getElem?_map] at ha hb
        cases hq : r[i]? with
        | none => rw [hq] at ha; cases ha
        | some y => rw [hq] at ha hb; cases ha; cases hb; exact hρ y (by simp [List.mem_of_getElem? hq]))
      obtain ⟨e3, e4⟩ := foldlM_max (P := P) (w := w) _ _ h1
      refine done_of hM ⟨u, ?_, .flat e4⟩
      simp [Builtin.max_]
      rw [e1, e2]; exact e3
    · rename_i x r
      obtain ⟨u, h1, rfl⟩ := map_eq_some h
      obtain ⟨e1, e2⟩ := absMinMax_same false (r.map ρ) (r.map ρ') (ρ x) (ρ' x) h1 (hρ x (by simp)) (by simp) (fun i a b ha hb => by
        rw [List.getElem?_map] at ha hb
        cases hq : r[i]? with
        | none => rw [hq] at ha; cases ha
        | some y => rw [hq] at ha hb; cases ha; cases hb; exact hρ y (by simp [List.mem_of_getElem? hq]))
      obtain ⟨e3, e4⟩ := foldlM_min (P := P) (w := w) _ _ h1
      refine done_of hM ⟨u, ?_, .flat e4⟩
      simp [Builtin.min_]
      rw [e1, e2]; exact e3
    · cases h
  all_goals cases h
end
end Go.Den
namespace Go.Den
open Go
set_option linter.unusedVariables false
set_option linter.unusedSimpArgs false
section
variable {P : Program} {G : List Nat} {φ : Ren} {H H' : Mem} {w : World} {ρ ρ' : Operand → Value} {o : Oper} {v : Value}
structure SRel (P : Program) (G : List Nat) (φ : Ren) (H : Mem) (w : World) : Prop where
  mem : MRel φ H w
  glob : ∀ g, G.contains g = true → ∃ l, φ g = some l ∧ l.b = g ∧ l.base = 0
theorem SRel.of (h : SRel P G φ H w) {φ' : Ren} {w' : World} (hM : MRel φ' H' w') (hle : φ.le φ') : SRel P G φ' H' w' :=
  ⟨hM, fun g hg => let ⟨l, a, b, c⟩ := h.glob g hg; ⟨l, hle _ _ a, b, c⟩⟩
def okOperand (G : List Nat) : Operand → Bool
  | .tmp _ => true
  | .const v => plainV v
  | .global g => G.contains g
  | .func _ => true
structure TRel (φ : Ren) (D : Tmp → Prop) (b a : Act) : Prop where
  size : b.tmps.size = a.tmps.size
  defers : a.defers = []
  tmp : ∀ t, ¬ D t → VRel φ (b.tmps.getD t undef) (a.tmps.getD t undef)
theorem TRel.mono {D : Tmp → Prop} {a b : Act} {φ' : Ren} (h : TRel φ D b a) (hle : φ.le φ') : TRel φ' D b a := ⟨h.size, h.defers, fun t ht => (h.tmp t ht).mono hle⟩
theorem TRel.eval {D : Tmp → Prop} {a b : Act} (h : TRel φ D b a) (hS : SRel P G φ H w) {x : Operand} (hx : okOperand G x = true) (hd : ∀ t, x = .tmp t → ¬ D t) : VRel φ (b.eval x) (a.eval x) := by
  cases x with
  | tmp t => exact h.tmp t (hd t rfl)
  | const v => exact VRel.plain hx
  | global g =>
    obtain ⟨l, h1, h2, h3⟩ := hS.glob g (by simpa [okOperand] using hx)
    have := VRel.ptr (φ := φ) (a := ⟨g, 0, none⟩) h1 rfl
    rw [h2, h3] at this
    exact this
  | func f => exact .func rfl (fun i v u hv => by simp at hv) rfl (fun i v u hv => by simp at hv)
theorem getD_put (a : Act) (d : Option Tmp) (v : Value) (t : Tmp) : (a.put d v).tmps.getD t undef = if d = some t ∧ t < a.tmps.size then v else a.tmps.getD t undef := by
  cases d with
  | none => simp [Act.put]
  | some d =>
    simp only [Act.put, Array.getD_eq_getD_getElem?, Array.getElem?_setIfInBounds]
    by_cases h : d = t
    · subst h
      by_cases h2 : d < a.tmps.size
      · simp [h2]
      · simp [h2]
    · simp [h]
theorem TRel.put {D : Tmp → Prop} {a b : Act} (h : TRel φ D b a) (d : Option Tmp) {v u : Value} (hv : VRel φ v u) : TRel φ (fun t => D t ∧ d ≠ some t) (b.put d v) (a.put d u) := by
  refine ⟨by cases d <;> simp [Act.put, h.size], by cases d <;> simp [Act.put, h.defers], fun t ht => ?_⟩
  rw [getD_put, getD_put, h.size]
  by_cases hc : d = some t ∧ t < a.tmps.size
  · rw [if_pos hc, if_pos hc]; exact hv
  · rw [if_neg hc, if_neg hc]
    by_cases hd : D t
    · have hdt : d = some t := by
        refine Classical.byContradiction fun hn => ht ⟨hd, hn⟩
      have hsz : ¬ t < a.tmps.size := fun h => hc ⟨hdt, h⟩
      have h1 : a.tmps.getD t undef = undef := by simp [Array.getD_eq_getD_getElem?, Array.getElem?_eq_none (Nat.le_of_not_lt hsz)]
      have h2 : b.tmps.getD t undef = undef := by simp [Array.getD_eq_getD_getElem?, Array.getElem?_eq_none (h.size ▸ Nat.le_of_not_lt hsz : b.tmps.size ≤ t)]
      rw [h1, h2]; exact VRel.undef φ
    · exact h.tmp t hd
theorem TRel.put_only {D : Tmp → Prop} {a b : Act} (h : TRel φ D b a) (d : Option Tmp) (v : Value) : TRel φ (fun t => D t ∨ d = some t) (b.put d v) a := by
  refine ⟨by cases d <;> simp [Act.put, h.size], h.defers, fun t ht => ?_⟩
  rw [getD_put, if_neg (fun hc => ht (.inr hc.1))]
  exact h.tmp t (fun hd => ht (.inl hd))
def looks : Op → Bool
  | .move _ | .pick .. | .build .. | .load .. | .nilCheck _ | .binOp .. | .unOp .. | .makeFunc .. | .slice .. | .fieldAddr .. | .field .. | .indexAddr .. | .index .. | .extract .. | .lookup .. => true
  | .call { callee := .builtin .len, .. } | .call { callee := .builtin .max, .. } | .call { callee := .builtin .min, .. } => true
  | .convert .. => true
  | _ => false
def Stays (H H' : Mem) : Prop := ∀ (n : Nat) (k : Blk), H[n]? = some k → H'[n]? = some k
theorem Stays.push (H : Mem) (k : Blk) : Stays H (H ++ [k]) := fun n b h => by
  rw [get?_append_one, if_neg]; exact h
  intro e; subst e; rw [List.getElem?_eq_none (Nat.le_refl _)] at h; cases h
theorem absCells_stays (hs : Stays H H') {n o k : Nat} {us : List Value} (h : absCells H n o k = some us) : absCells H' n o k = some us := by
  unfold absCells at h ⊢
  split at h
  · rename_i ro vs hb; rw [hs _ _ hb]; exact h
  · cases h
theorem absLoad_stays (hs : Stays H H') {t : TypeId} {p : Value} (h : absLoad P H t p = some v) : absLoad P H' t p = some v := by
  unfold absLoad at h ⊢
  split at h
  · split at h
    · split at h
      · rename_i hr
        obtain ⟨us, h1, h2⟩ := map_eq_some h
        simp only [hr, if_true]
        rw [absCells_stays hs h1]; exact congrArg some h2
      · rename_i hr
        simp only [hr, if_false]
        split at h
        · rename_i hc; rw [absCells_stays hs hc]; exact h
        · cases h
    · cases h
  · cases h
theorem absSlice_stays (hs : Stays H H') {t : TypeId} {x : Value} {lo hi mx : Option Value} (h : absSlice P H t x lo hi mx = some v) : absSlice P H' t x lo hi mx = some v := by
  unfold absSlice at h ⊢
  split at h
  · split at h
    · rename_i hc hb; rw [absCells_stays hs hc]; simp_all
    · cases h
  · simp_all
  · simp_all
  · simp_all
  · cases h
theorem absLen_stays (hs : Stays H H') {t : TypeId} {x : Value} (h : absLen P H t x = some v) : absLen P H' t x = some v := by
  unfold absLen at h ⊢
  split at h
  · simp_all
  · simp_all
  · simp_all
  · simp_all
  · simp_all
  · split at h
    · rename_i hb; rw [hs _ _ hb]; simp_all
    · cases h
  · cases h
theorem absConv_stays (hs : Stays H H') {s d : TypeId} {x : Value} (h : absConv P H s d x = some (v, H)) : absConv P H' s d x = some (v, H') := by
  unfold absConv at h ⊢
  split at h
  · cases h; simp_all
  · cases h; simp_all
  · cases h; simp_all
  · split at h
    · simp only [Option.some.injEq, Prod.mk.injEq] at h
      have := congrArg List.length h.2
      simp at this
    · cases h
  · rename_i h1 h2
    split at h
    · rename_i h3
      split at h
      · cases h; simp_all
      · split at h
        · rename_i hc
          obtain ⟨ns, q1, q2⟩ := map_eq_some h
          cases q2
          simp only [absCells_stays hs hc, q1, Option.map_some]
        · cases h
      · cases h
    · cases h
  · cases h
theorem absLookup_stays (hs : Stays H H') {t : TypeId} {m k : Value} {ok : Bool} (h : absLookup P H t m k ok = some v) : absLookup P H' t m k ok = some v := by
  have hm : ∀ es, absMapOf H m = some es → absMapOf H' m = some es := fun es he => by
    unfold absMapOf at he ⊢
    split at he
    · exact he
    · split at he
      · rename_i hb; rw [hs _ _ hb]; exact he
      · cases he
    · cases he
  unfold absLookup at h ⊢
  split at h
  · rename_i hes; rw [hm _ hes]; simp_all
  · cases h
theorem looks_stays (hl : looks o.op = true) (hs : Stays H H') (h : absOp P ρ H o = some (v, H)) : absOp P ρ H' o = some (v, H') := by
  obtain ⟨dst, op, type, pos, after, guard⟩ := o
  cases op <;> simp only [looks] at hl <;> first | (exact absurd hl (by decide)) | skip
  all_goals simp only [absOp] at h ⊢
  case convert => exact absConv_stays hs h
  case load => obtain ⟨u, h1, h2⟩ := map_eq_some h; cases h2; rw [absLoad_stays hs h1]; rfl
  case slice => obtain ⟨u, h1, h2⟩ := map_eq_some h; cases h2; rw [absSlice_stays hs h1]; rfl
  case lookup => obtain ⟨u, h1, h2⟩ := map_eq_some h; cases h2; rw [absLookup_stays hs h1]; rfl
  case move => cases h; rfl
  case makeFunc => cases h; rfl
  case indexAddr => obtain ⟨u, h1, h2⟩ := map_eq_some h; cases h2; show Option.map _ (absIndexAddr P H' _ _ _) = _; rw [show absIndexAddr P H' _ _ _ = absIndexAddr P H _ _ _ from rfl, h1]; rfl
  case call c =>
    obtain ⟨callee, args, ats⟩ := c
    cases callee <;> first | (simp at hl; done) | skip
    rename_i b
    cases b <;> first | (simp at hl; done) | skip
    · show absBuiltin P ρ H' .len ats args.toList = _
      have h : absBuiltin P ρ H .len ats args.toList = some (v, H) := h
      match hl : args.toList with
      | [x] =>
        rw [hl] at h
        simp only [absBuiltin] at h ⊢
        cases h0 : ats[0]? with
        | none => rw [h0] at h; cases h
        | some t =>
          rw [h0] at h
          obtain ⟨u, h1, h2⟩ := map_eq_some h
          cases h2
          simp [absLen_stays hs h1]
      | [] => rw [hl] at h; simp [absBuiltin] at h
      | _ :: _ :: _ => rw [hl] at h; simp [absBuiltin] at h
    · show absBuiltin P ρ H' .max ats args.toList = _
      have h : absBuiltin P ρ H .max ats args.toList = some (v, H) := h
      match hl : args.toList with
      | [] => rw [hl] at h; simp [absBuiltin] at h
      | x :: r =>
        rw [hl] at h
        simp only [absBuiltin] at h ⊢
        obtain ⟨u, h1, h2⟩ := map_eq_some h
        cases h2; rw [h1]; rfl
    · show absBuiltin P ρ H' .min ats args.toList = _
      have h : absBuiltin P ρ H .min ats args.toList = some (v, H) := h
      match hl : args.toList with
      | [] => rw [hl] at h; simp [absBuiltin] at h
      | x :: r =>
        rw [hl] at h
        simp only [absBuiltin] at h ⊢
        obtain ⟨u, h1, h2⟩ := map_eq_some h
        cases h2; rw [h1]; rfl
  all_goals (obtain ⟨u, h1, h2⟩ := map_eq_some h; cases h2; rw [h1]; rfl)
end
end Go.Den
namespace Go.Den
open Go
set_option linter.unusedVariables false
set_option linter.unusedSimpArgs false
section
variable {P : Program} {G : List Nat} {φ : Ren} {H H' : Mem} {w : World} {ρ ρ' : Operand → Value} {o : Oper} {v : Value}
theorem MRel.dark (hM : MRel φ H w) (k : Blk) : MRel φ (H ++ [k]) w ∧ Ext φ H w φ (H ++ [k]) w := by
  have hget : ∀ n l k', φ n = some l → (H ++ [k])[n]? = some k' → H[n]? = some k' := fun n l k' e e' => by
    have := (hM.dom n l e).1
    rw [get?_append_one, if_neg (by omega)] at e'; exact e'
  refine ⟨⟨fun n l e => by have := hM.dom n l e; simp; omega, fun n l k' e e' => hM.blk n l k' e (hget n l k' e e'), fun n m a b c d e1 e2 e3 e4 => hM.inj n m a b c d e1 e2 (hget _ _ _ e1 e3) (hget _ _ _ e2 e4)⟩,
    ⟨.refl φ, Nat.le_refl _, by simp, fun b _ hw => ?_, fun _ _ _ => rfl, fun n k' e1 e2 => ⟨e1, Stays.push H k n k' e2⟩, rfl, rfl, rfl⟩⟩
  obtain ⟨n, l, k', f1, f2, f3, f4⟩ := hw
  exact ⟨n, l, k', f1, hget _ _ _ f1 f2, f3, f4⟩
theorem MRel.mapIn (hM : MRel φ H w) {m : Nat} {us us' : List Value} {e : TypeId} (hm : φ m = none) (hb : H[m]? = some (.cells false us)) (hl : us.length ≤ us'.length) (hr : ∀ (i : Nat) (v u : Value), us[i]? = some v → us'[i]? = some u → VRel φ v u) :
    MRel (φ.put m ⟨w.heap.size, 0, us'.length, false⟩) H (w.alloc (.cells us'.toArray e)) := by
  have hle := Ren.le_put hm ⟨w.heap.size, 0, us'.length, false⟩
  have hmlt : m < H.length := (List.getElem?_eq_some_iff.1 hb).1
  have hput : ∀ n q, φ.put m ⟨w.heap.size, 0, us'.length, false⟩ n = some q → (n = m ∧ q = ⟨w.heap.size, 0, us'.length, false⟩) ∨ (n ≠ m ∧ φ n = some q) := fun n q x => by
    unfold Ren.put at x
    split at x
    · cases x; exact .inl ⟨by assumption, rfl⟩
    · exact .inr ⟨by assumption, x⟩
  have hheap : ∀ b, b < w.heap.size → (w.alloc (.cells us'.toArray e)).heap[b]? = w.heap[b]? := fun b hb => by
    show (w.heap.push _)[b]? = _
    rw [Array.getElem?_push, if_neg (by omega)]
  have hc : ∀ j, j < us'.length → (w.alloc (.cells us'.toArray e)).cell? ⟨w.heap.size, 0 + j, none⟩ = us'[j]? := fun j hj => by
    rw [Nat.zero_add]; simp
  refine ⟨fun n q x => ?_, fun n q k' x hk' => ?_, fun n p a b c d e1 e2 e3 e4 e5 e6 e7 => ?_⟩
  · rcases hput n q x with ⟨y, z⟩ | ⟨y, z⟩
    · subst z; simp [y, hmlt]
    · have := hM.dom n q z; simp; omega
  · rcases hput n q x with ⟨y, z⟩ | ⟨y, z⟩
    · subst y; subst z
      rw [hb] at hk'; cases hk'
      refine ⟨rfl, fun i v hv => ?_, fun _ => ⟨hl, fun j hj => ⟨⟨us'[j], ?_⟩, ?_⟩⟩⟩
      · have hi : i < us.length := (List.getElem?_eq_some_iff.1 hv).1
        refine ⟨us'[i], ?_, (hr i v _ hv (List.getElem?_eq_getElem (by omega))).mono hle⟩
        show (w.alloc (.cells us'.toArray e)).cell? ⟨w.heap.size, 0 + i, none⟩ = _
        rw [hc i (by omega)]; exact List.getElem?_eq_getElem (by omega)
      · show (w.alloc (.cells us'.toArray e)).cell? ⟨w.heap.size, 0 + j, none⟩ = _
        rw [hc j hj]; exact List.getElem?_eq_getElem hj
      · show (w.alloc (.cells us'.toArray e)).frozen? ⟨w.heap.size, 0 + j, none⟩ = false
        simp
    · exact (hM.blk n q k' z hk').mono hle (hheap _ (hM.dom n q z).2)
  · rcases hput n a e1 with ⟨x, y⟩ | ⟨x, y⟩ <;> rcases hput p b e2 with ⟨x', y'⟩ | ⟨x', y'⟩
    · omega
    · subst y; have := (hM.dom p b y').2; simp only; omega
    · subst y'; have := (hM.dom n a y).2; simp only; omega
    · exact hM.inj n p a b c d y y' e3 e4 e5 e6 e7
def absNew (P : Program) (ρ : Operand → Value) (op : Op) : Option (List Value × (Nat → Value)) :=
  match op with
  | .alloc t => match P.info? t with
    | some i => match i.zero with
      | some z => if plainV z then some (z.cells.toList, fun m => .pointer (some ⟨m, 0, none⟩)) else none
      | none => none
    | none => none
  | .box _ x => some ((ρ x).cells.toList, fun m => .pointer (some ⟨m, 0, none⟩))
  | .buildSlice t n ps => match P.underlying t with
    | some (.slice e) => match P.info? e with
      | some i => match absBuildSlice P [] t n (ps.toList.map fun p => (p.1, ρ p.2)) with
        | some (_, [.cells false us]) => some (us, fun m => .slice (some ⟨m, 0, none⟩) n i.size)
        | _ => none
      | none => none
    | _ => none
  | _ => none
def news : Op → Bool
  | .alloc _ | .box .. | .buildSlice .. => true
  | _ => false
theorem absBuildSlice_any {t : TypeId} {n : Nat} {ps : List (Nat × Value)} {r : Value × Mem} (h : absBuildSlice P H t n ps = some r) : ∃ e i us, P.underlying t = some (.slice e) ∧ P.info? e = some i ∧ r = (.slice (some ⟨H.length, 0, none⟩) n i.size, H ++ [.cells false us]) ∧
    ∀ H' : Mem, absBuildSlice P H' t n ps = some (.slice (some ⟨H'.length, 0, none⟩) n i.size, H' ++ [.cells false us]) := by
  unfold absBuildSlice at h
  split at h
  case h_2 => cases h
  rename_i e hu
  split at h
  case h_2 => cases h
  rename_i i hi
  split at h
  case h_2 => cases h
  rename_i z hz
  split at h
  case isFalse => cases h
  rename_i hc
  obtain ⟨r0, h1, h2⟩ := map_eq_some h
  refine ⟨e, i, r0.toList, hu, hi, h2.symm, fun H' => ?_⟩
  unfold absBuildSlice
  rw [hu]
  simp only [hi, hz]
  rw [if_pos hc, h1]
  rfl
theorem absNew_op {us : List Value} {f : Nat → Value} (h : absNew P ρ o.op = some (us, f)) : absOp P ρ H o = some (f H.length, H ++ [.cells false us]) := by
  obtain ⟨dst, op, type, pos, after, guard⟩ := o
  cases op <;> simp only [absNew] at h <;> first | (cases h; done) | skip
  case alloc t =>
    split at h
    · rename_i i hi
      split at h
      · rename_i z hz
        split at h
        · rename_i hp
          cases h
          simp [absOp, absAlloc, hi, hz, hp, absBox]
        · cases h
      · cases h
    · cases h
  case box t x => cases h; rfl
  case buildSlice t n ps =>
    split at h
    · rename_i e hu
      split at h
      · rename_i i hi
        split at h
        · rename_i q us' hq
          cases h
          obtain ⟨e', i', us2, h1, h2, h3, h4⟩ := absBuildSlice_any hq
          rw [hu] at h1; cases h1
          rw [hi] at h2; cases h2
          simp at h3
          obtain ⟨_, rfl⟩ := h3
          simp only [absOp]
          exact h4 H
        · cases h
      · cases h
    · cases h
theorem absOp_new {r : Value × Mem} (hn : news o.op = true) (h : absOp P ρ H o = some r) : ∃ us f, absNew P ρ o.op = some (us, f) := by
  obtain ⟨dst, op, type, pos, after, guard⟩ := o
  cases op <;> simp only [news] at hn <;> first | (exact absurd hn (by decide)) | skip
  all_goals simp only [absOp] at h
  case alloc t =>
    unfold absAlloc at h
    split at h
    · rename_i i hi
      split at h
      · rename_i z hz
        split at h
        · rename_i hp; exact ⟨_, _, by simp [absNew, hi, hz, hp]; exact ⟨rfl, rfl⟩⟩
        · cases h
      · cases h
    · cases h
  case box t x => exact ⟨_, _, rfl⟩
  case buildSlice t n ps =>
    obtain ⟨e', i', us2, h1, h2, h3, h4⟩ := absBuildSlice_any h
    exact ⟨_, _, by simp only [absNew, h1, h2, h4 []]; rfl⟩
theorem absNew_run (hS : Same φ ρ ρ' o) {us : List Value} {f : Nat → Value} (h : absNew P ρ o.op = some (us, f)) (w : World) :
    ∃ (us' : List Value) (e : TypeId) (g : Value), (execOp ρ' o).run P w = .ok (.value g) (w.alloc (.cells us'.toArray e)) ∧ us.length ≤ us'.length ∧ (∀ (i : Nat) (v u : Value), us[i]? = some v → us'[i]? = some u → VRel φ v u) ∧
      ∀ m ψ, ψ m = some ⟨w.heap.size, 0, us'.length, false⟩ → VRel ψ (f m) g := by
  obtain ⟨dst, op, type, pos, after, guard⟩ := o
  have hρ : ∀ x ∈ op.operands, VRel φ (ρ x) (ρ' x) := hS
  clear hS
  have hptr : ∀ (ψ : Ren) (m b k : Nat), ψ m = some ⟨b, 0, k, false⟩ → VRel ψ (.pointer (some ⟨m, 0, none⟩)) (.pointer (some ⟨b, 0, none⟩)) := fun ψ m b k hk => by
    have := VRel.ptr (φ := ψ) (a := ⟨m, 0, none⟩) hk rfl
    simpa using this
  cases op <;> simp only [absNew] at h <;> first | (cases h; done) | skip
  all_goals simp only [Op.operands] at hρ
  case alloc t =>
    split at h
    · rename_i i hi
      split at h
      · rename_i z hz
        split at h
        · rename_i hp
          cases h
          have hcr := ARel.cells (VRel.plain (φ := φ) hp)
          refine ⟨z.cells.toList, t, .pointer (some ⟨w.heap.size, 0, none⟩), ?_, Nat.le_refl _, fun j a b ha hb => hcr.2 j a b (by simpa using ha) (by simpa using hb), fun m ψ hψ => hptr ψ m _ _ hψ⟩
          simp [execOp, Instr.alloc, zeroValue, typeInfo, hi, hz, newVar, newRow]
        · cases h
      · cases h
    · cases h
  case box t x =>
    cases h
    have hcr := ARel.cells (hρ x (by simp))
    refine ⟨(ρ' x).cells.toList, t, .pointer (some ⟨w.heap.size, 0, none⟩), ?_, by simp [hcr.1], fun j a b ha hb => hcr.2 j a b (by simpa using ha) (by simpa using hb), fun m ψ hψ => hptr ψ m _ _ hψ⟩
    simp [execOp, Instr.box, newVar, newRow]
  case buildSlice t n ps =>
    split at h
    · rename_i e hu
      split at h
      · rename_i i hi
        split at h
        · rename_i q us' hq
          cases h
          unfold absBuildSlice at hq
          rw [hu] at hq
          simp only [hi] at hq
          split at hq
          · rename_i z hz
            split at hq
            · rename_i hb
              obtain ⟨b1, b2, b3, b7⟩ := hb
              obtain ⟨c, hq1, hq2⟩ := map_eq_some hq
              simp at hq2
              obtain ⟨_, rfl⟩ := hq2
              have hp := prel_map (φ := φ) (ρ := ρ) (ρ' := ρ') (ps := ps) (fun y hy => hρ y (by simpa using hy))
              have hfl : allA (madeCells (if n * i.size = 0 then #[] else z.cells) (n * i.size)) flat = true := by
                split
                · rename_i e0; rw [e0]; simp [madeCells, Array.range_zero', allA]
                · exact made_flat b2 (.inr b3)
              obtain ⟨c', e1, e2⟩ := fill_rel _ _ _ _ _ c hp.1 hp.2 (flatAll (φ := φ) hfl) hq1
              have hsz := fill_size _ _ _ _ hq1
              have hrun : (Instr.buildSlice t n (ps.map fun (i, x) => (i, ρ' x))).run P w = .ok (.slice (some ⟨w.heap.size, 0, none⟩) n n) (w.alloc (.cells c'.toList.toArray e)) := by
                have b1' : ¬ (16777216 < n * i.size) := by omega
                generalize (ps.map fun (i, x) => (i, ρ' x)) = qs at e1
                by_cases h0 : n * i.size = 0
                · rw [if_pos h0] at e1
                  simp only [madeCells, h0, Array.range_zero', Array.map_empty] at e1
                  simp [Instr.buildSlice, run_underlying hu, run_sizeOf hi, b1', h0, newRow, Array.range_zero']
                  simp [e1]
                · rw [if_neg h0] at e1
                  simp [Instr.buildSlice, run_underlying hu, run_sizeOf hi, b1', h0, newRow, zeroValue, typeInfo, hi, hz]
                  simp only [madeCells] at e1
                  simp [e1]
              refine ⟨c'.toList, e, .slice (some ⟨w.heap.size, 0, none⟩) n n, ?_, by simp [e2.1], fun j a b ha hb => e2.2 j a b (by simpa using ha) (by simpa using hb), fun m ψ hψ => ?_⟩
              · simp only [execOp, Sem.run_bind, hrun, Result.andThen_ok]; rfl
              · refine .slice (a := ⟨m, 0, none⟩) hψ rfl (Nat.le_refl _) (.inr ?_) (.inl rfl) (fun e => absurd e b7)
                have : c'.size = n * i.size := by rw [← e2.1, hsz]; simp [madeCells]
                simp [this]
            · cases hq
          · cases hq
        · cases h
      · cases h
    · cases h
end
end Go.Den
namespace Go.Den
open Go
set_option linter.unusedVariables false
set_option linter.unusedSimpArgs false
section
variable {P : Program} {G : List Nat} {φ : Ren} {H H' : Mem} {w : World} {ρ ρ' : Operand → Value} {o : Oper} {v : Value} {ops : Array Oper} {a b : Act}
def absCall (P : Program) (ρ : Operand → Value) (o : Oper) : Option (FuncId × Array Value) :=
  match o.op with
  | .call { callee := .value f, args, .. } =>
    match ρ f with
    | .func (.func id) first captured =>
      match P.funcs[id]? with
      | some fn => if (fn.name == "runtime.NumGoroutine") = false ∧ fn.body.isNone = false then some (id, first ++ args.map ρ ++ captured) else none
      | none => none
    | _ => none
  | _ => none
theorem ARel.append {xs ys us vs : Array Value} (h : ARel φ xs ys) (k : ARel φ us vs) : ARel φ (xs ++ us) (ys ++ vs) := by
  refine ⟨by simp [h.1, k.1], fun i v u hv hu => ?_⟩
  by_cases hi : i < xs.size
  · rw [Array.getElem?_append_left hi] at hv
    rw [Array.getElem?_append_left (h.1 ▸ hi)] at hu
    exact h.2 i v u hv hu
  · rw [Array.getElem?_append_right (by omega)] at hv
    rw [Array.getElem?_append_right (by rw [← h.1]; omega)] at hu
    rw [← h.1] at hu
    exact k.2 _ v u hv hu
theorem absCall_run (hS : Same φ ρ ρ' o) {f : FuncId} {args : Array Value} (h : absCall P ρ o = some (f, args)) : ∃ args', (execOp ρ' o).run P w = .ok (.enter f args') w ∧ ARel φ args args' := by
  obtain ⟨dst, op, type, pos, after, guard⟩ := o
  unfold absCall at h
  split at h
  case h_2 => cases h
  rename_i g args0 ats heq
  simp only at heq
  subst heq
  have hρ : ∀ x ∈ (Call.operands { callee := .value g, args := args0, argTypes := ats }), VRel φ (ρ x) (ρ' x) := hS
  split at h
  case h_2 => cases h
  rename_i id first captured hg
  split at h
  case h_2 => cases h
  rename_i fn hfn
  split at h
  case isFalse => cases h
  rename_i hc
  cases h
  have hgr := hρ g (by simp [Call.operands])
  rw [hg] at hgr
  have : ∃ xs ys, ρ' g = .func (.func f) xs ys ∧ ARel φ first xs ∧ ARel φ captured ys := by
    generalize ρ' g = q at hgr
    cases hgr with
    | flat h => simp [Den.flat] at h
    | func hf h1 hx h2 => exact ⟨_, _, rfl, ⟨hf, h1⟩, ⟨hx, h2⟩⟩
  obtain ⟨xs, ys, e1, e2, e3⟩ := this
  refine ⟨xs ++ args0.map ρ' ++ ys, ?_, (e2.append (arel_map fun y hy => hρ y (by simp [Call.operands, hy]))).append e3⟩
  have c1 : ¬ fn.name = "runtime.NumGoroutine" := by simpa using hc.1
  have c2 : ¬ fn.body = none := fun hb => by have := hc.2; rw [hb] at this; cases this
  simp [execOp, resolve, e1, Deferred.ofValue, invoke, callFunc, hfn, c1, c2]
def FSem (P : Program) (G : List Nat) (f : FuncId) (args : Array Value) (H : Mem) (R : Value → Mem → Prop) : Prop :=
  ∀ φ args' w, SRel P G φ H w → ARel φ args args' → ∀ R' : Ending → World → Prop,
    (∀ φ' v v' H' w', R v H' → Ext φ H w φ' H' w' → VRel φ' v v' → SRel P G φ' H' w' → R' (.returned v') w') → Calls P f args' w R'
theorem FSem.mono {f : FuncId} {args : Array Value} {R R' : Value → Mem → Prop} (h : FSem P G f args H R) (hr : ∀ v H', R v H' → R' v H') : FSem P G f args H R' :=
  fun φ args' w h1 h2 R'' h3 => h φ args' w h1 h2 R'' fun φ' v v' H' w' a => h3 φ' v v' H' w' (hr _ _ a)
def DOp (P : Program) (G : List Nat) (o : Oper) (K : Value → Mem → Prop) (b : Act) (H : Mem) : Prop :=
  (∃ v H', absOp P b.eval H o = some (v, H') ∧ K v H') ∨ (∃ f args, absCall P b.eval o = some (f, args) ∧ FSem P G f args H K)
theorem DOp.wp {K : Value → Mem → Prop} (hD : DOp P G o K b H) (hS : SRel P G φ H w) (hop : Same φ b.eval a.eval o) {next : Act → World → Prop} {Q : Exit → Act → World → Prop}
    (h : ∀ φ' v v' H' w', K v H' → Ext φ H w φ' H' w' → VRel φ' v v' → SRel P G φ' H' w' → next (a.put o.dst v') w') : o.wp P a w next Q := by
  rcases hD with ⟨v, H', h1, h2⟩ | ⟨f, args, h1, h2⟩
  · obtain ⟨φ', v', w', nx, e1, e2, e3, e4, e5⟩ := absOp_run hS.mem hop h1
    unfold Oper.wp
    rw [e1]
    have := h φ' v v' H' w' h2 e3 e4 (hS.of e5 e3.le)
    rcases e2 with rfl | ⟨rfl, rfl⟩ <;> exact this
  · obtain ⟨args', e1, e2⟩ := absCall_run (w := w) hop h1
    unfold Oper.wp
    rw [e1]
    exact h2 φ args' w hS e2 _ fun φ' v v' H' w' k1 k2 k3 k4 => h φ' v v' H' w' k1 k2 k3 k4
def okOper (P : Program) (G : List Nat) (o : Oper) : Bool := allA o.op.operands (okOperand G)
theorem same_of {D : Tmp → Prop} (ht : TRel φ D b a) (hS : SRel P G φ H w) (hok : okOper P G o = true) (hd : ∀ t, .tmp t ∈ o.op.operands → ¬ D t) : Same φ b.eval a.eval o := fun x hx =>
  ht.eval hS ((allA_mem.1 hok) x hx) (fun t e => hd t (e ▸ hx))
theorem yielded_same {D : Tmp → Prop} (ht : TRel φ D b a) {j : Nat} (hd : ∀ t, (ops[j]?).bind (·.dst) = some t → ¬ D t) : yielded ops b.tmps j = yielded ops a.tmps j := by
  unfold yielded
  cases hq : (ops[j]?).bind (·.dst) with
  | none => rfl
  | some t =>
    have := ht.tmp t (hd t hq)
    simp only [Option.bind_some]
    rw [Array.getD_eq_getD_getElem?, Array.getD_eq_getD_getElem?] at this
    have hs := ht.size
    cases h1 : b.tmps[t]? with
    | none =>
      have : a.tmps[t]? = none := by rw [Array.getElem?_eq_none_iff] at h1 ⊢; omega
      rw [this]
    | some x =>
      obtain ⟨y, hy⟩ : ∃ y, a.tmps[t]? = some y := by
        rcases Nat.lt_or_ge t a.tmps.size with k | k
        · exact ⟨_, Array.getElem?_eq_getElem k⟩
        · have h1' := h1; rw [Array.getElem?_eq_none (by omega)] at h1'; cases h1'
      rw [h1, hy] at this
      rw [hy]
      simp only [Option.getD_some] at this
      cases this with
      | flat h => rfl
      | _ => rfl
theorem wanted_same {D : Tmp → Prop} (ht : TRel φ D b a) (hd : ∀ j t r, o.guard = some (j, r) → (ops[j]?).bind (·.dst) = some t → ¬ D t) : Region.wanted o (yielded ops b.tmps) = Region.wanted o (yielded ops a.tmps) := by
  unfold Region.wanted
  cases hg : o.guard with
  | none => rfl
  | some p =>
    obtain ⟨j, r⟩ := p
    simp only
    rw [yielded_same ht (fun t h => hd j t r hg h)]
def DOps (P : Program) (G : List Nat) (ops : Array Oper) (Q : Act → Mem → Prop) : List Nat → Act → Mem → Prop
  | [], b, H => Q b H
  | i :: rest, b, H =>
    match ops[i]? with
    | none => DOps P G ops Q rest b H
    | some o => if Region.wanted o (yielded ops b.tmps) = true then DOp P G o (fun v H' => DOps P G ops Q rest (b.put o.dst v) H') b H else DOps P G ops Q rest (b.put o.dst undef) H
def okOps (P : Program) (G : List Nat) (ops : Array Oper) : Bool := allA ops (okOper P G)
theorem okOps_get (h : okOps P G ops = true) {i : Nat} (hi : ops[i]? = some o) : okOper P G o = true := (allA_mem.1 h) o (Array.mem_of_getElem? hi)
abbrev Like (φ : Ren) (b a : Act) : Prop := TRel φ (fun _ => False) b a
theorem Like.put (h : Like φ b a) (d : Option Tmp) {v u : Value} (hv : VRel φ v u) : Like φ (b.put d v) (a.put d u) := by
  have := TRel.put h d hv
  exact ⟨this.size, this.defers, fun t _ => this.tmp t (fun x => x.1)⟩
theorem dops_wp (hok : okOps P G ops = true) {Q : Act → Mem → Prop} {Q' : Exit → Act → World → Prop} : ∀ (l : List Nat) (φ : Ren) (H : Mem) (w : World) (b a : Act), DOps P G ops Q l b H → SRel P G φ H w → Like φ b a →
    (∀ b' H' φ' a' w', Q b' H' → Ext φ H w φ' H' w' → Like φ' b' a' → SRel P G φ' H' w' → Q' .normal a' w') → wpOps P ops Q' l a w
  | [], φ, H, w, b, a, hD, hS, hT, hQ => hQ b H φ a w hD (.refl _ _ _) hT hS
  | i :: rest, φ, H, w, b, a, hD, hS, hT, hQ => by
    rw [wpOps_cons]
    unfold wpOp
    simp only [DOps] at hD
    cases ho : ops[i]? with
    | none =>
      rw [ho] at hD
      exact dops_wp hok rest φ H w b a hD hS hT hQ
    | some o =>
      rw [ho] at hD
      simp only at hD ⊢
      rw [wanted_same hT (fun _ _ _ _ _ h => h)] at hD
      split
      · rename_i hw
        rw [if_pos hw] at hD
        refine .inl (hD.wp hS (same_of hT hS (okOps_get hok ho) (fun _ _ h => h)) fun φ' v v' H' w' k1 k2 k3 k4 => ?_)
        exact dops_wp hok rest φ' H' w' _ _ k1 k4 (Like.put (hT.mono k2.le) _ k3) fun b' H2 φ2 a' w2 q1 q2 q3 q4 => hQ b' H2 φ2 a' w2 q1 (k2.trans q2) q3 q4
      · rename_i hw
        rw [if_neg hw] at hD
        exact dops_wp hok rest φ H w _ _ hD hS (Like.put hT _ (VRel.undef φ)) hQ
end
end Go.Den
namespace Go.Den
open Go
set_option linter.unusedVariables false
set_option linter.unusedSimpArgs false
section
variable {P : Program} {G : List Nat} {φ : Ren} {H H' : Mem} {w : World} {ρ ρ' : Operand → Value} {o : Oper} {v : Value} {ops : Array Oper} {a b : Act}
inductive Reach (ops : Array Oper) : Nat → Nat → Prop
  | step {i : Nat} {o : Oper} {e : Edge} (h : ops[i]? = some o) (he : e ∈ o.after) (hb : Region.binds .any e = true) : Reach ops e.on i
  | trans {i j : Nat} {o : Oper} {e : Edge} (h : ops[i]? = some o) (he : e ∈ o.after) (hb : Region.binds .any e = true) (hr : Reach ops j e.on) : Reach ops j i
def bits (acc : Array Nat) (o : Oper) : Nat := o.after.foldl (fun s e => if Region.binds .any e then s ||| 2 ^ e.on ||| acc.getD e.on 0 else s) 0
theorem bits_list (acc : Array Nat) (j : Nat) : ∀ (l : List Edge) (s : Nat), (l.foldl (fun s e => if Region.binds .any e then s ||| 2 ^ e.on ||| acc.getD e.on 0 else s) s).testBit j = true →
    s.testBit j = true ∨ ∃ e ∈ l, Region.binds .any e = true ∧ (e.on = j ∨ (acc.getD e.on 0).testBit j = true)
  | [], s, h => .inl h
  | e :: l, s, h => by
    simp only [List.foldl_cons] at h
    rcases bits_list acc j l _ h with h | ⟨e', h1, h2, h3⟩
    · split at h
      · rename_i hb
        rw [Nat.testBit_or, Nat.testBit_or] at h
        simp only [Bool.or_eq_true] at h
        rcases h with (h | h) | h
        · exact .inl h
        · refine .inr ⟨e, List.mem_cons_self, hb, .inl ?_⟩
          rw [Nat.testBit_two_pow] at h
          simpa using h
        · exact .inr ⟨e, List.mem_cons_self, hb, .inr h⟩
      · exact .inl h
    · exact .inr ⟨e', List.mem_cons_of_mem _ h1, h2, h3⟩
theorem before_fold (ops : Array Oper) : ∀ (l : List Oper) (acc : Array Nat), (∀ i j, i < acc.size → (acc.getD i 0).testBit j = true → Reach ops j i) → (∀ k o, l[k]? = some o → ops[acc.size + k]? = some o) →
    ∀ i j, ((l.foldl (fun acc o => acc.push (bits acc o)) acc).getD i 0).testBit j = true → Reach ops j i
  | [], acc, h1, _, i, j, h => by
    refine h1 i j ?_ h
    rcases Nat.lt_or_ge i acc.size with k | k
    · exact k
    · simp only [List.foldl_nil, Array.getD_eq_getD_getElem?, Array.getElem?_eq_none k] at h; simp at h
  | o :: l, acc, h1, h2, i, j, h => by
    simp only [List.foldl_cons] at h
    refine before_fold ops l _ (fun i' j' hi hj => ?_) (fun k o' hk => ?_) i j h
    · rw [Array.getD_eq_getD_getElem?, Array.getElem?_push] at hj
      by_cases he : i' = acc.size
      · rw [if_pos he] at hj
        simp only [Option.getD_some] at hj
        have ho : ops[i']? = some o := by have := h2 0 o rfl; rw [he]; simpa using this
        unfold bits at hj
        rw [← Array.foldl_toList] at hj
        rcases bits_list acc j' _ _ hj with hz | ⟨e, he1, he2, he3⟩
        · simp at hz
        · rcases he3 with rfl | he3
          · exact .step ho (by simpa using he1) he2
          · refine .trans ho (by simpa using he1) he2 (h1 e.on j' ?_ he3)
            rcases Nat.lt_or_ge e.on acc.size with k | k
            · exact k
            · simp only [Array.getD_eq_getD_getElem?, Array.getElem?_eq_none k] at he3; simp at he3
      · rw [if_neg he] at hj
        refine h1 i' j' ?_ (by rw [Array.getD_eq_getD_getElem?]; exact hj)
        simp at hi; omega
    · have := h2 (k + 1) o' (by simpa using hk)
      rw [Array.size_push, show acc.size + 1 + k = acc.size + (k + 1) by omega]; exact this
theorem before_reach (ops : Array Oper) (i j : Nat) (h : ((Region.before ops).getD i 0).testBit j = true) : Reach ops j i := by
  unfold Region.before at h
  rw [← Array.foldl_toList] at h
  exact before_fold ops ops.toList #[] (fun i j hi => by simp at hi) (fun k o hk => by simpa using hk) i j h
def Closed (ops : Array Oper) (listed : Array Bool) : Prop := ∀ i o, ops[i]? = some o → listed.getD i true = true → ∀ e ∈ o.after, Region.binds .any e = true → listed.getD e.on false = true
theorem getD_false {l : Array Bool} {i : Nat} (h : l.getD i false = true) : l.getD i true = true := by
  rw [Array.getD_eq_getD_getElem?] at h ⊢
  cases hq : l[i]? <;> rw [hq] at h <;> simp_all
theorem Reach.listed {listed : Array Bool} (hc : Closed ops listed) {i j : Nat} (hr : Reach ops j i) : (∀ o, ops[i]? = some o → ∀ e ∈ o.after, Region.binds .any e = true → listed.getD e.on false = true) → listed.getD j false = true := by
  induction hr with
  | step h he hb => exact fun hd => hd _ h _ he hb
  | trans h he hb hr ih => exact fun hd => ih fun o ho e' he' hb' => hc _ o ho (getD_false (hd _ h _ he hb)) e' he' hb'
theorem mem_ready {listed : Array Bool} {i : Nat} : i ∈ Region.ready .any ops listed ↔ i < ops.size ∧ listed.getD i true = false ∧ ∃ o, ops[i]? = some o ∧ ∀ e ∈ o.after, Region.binds .any e = true → listed.getD e.on false = true := by
  unfold Region.ready
  rw [List.mem_filter]
  simp only [List.mem_range, Bool.and_eq_true, Bool.not_eq_true']
  refine and_congr_right fun hi => and_congr_right fun _ => ?_
  rw [Array.getElem?_eq_getElem hi]
  simp only [Option.map_some, Option.getD_some, Option.some.injEq, exists_eq_left', Array.all_eq_true_iff_forall_mem, Bool.or_eq_true, Bool.not_eq_true']
  refine ⟨fun h e he hb => ?_, fun h e he => ?_⟩
  · rcases h e he with h | h
    · rw [hb] at h; cases h
    · exact h
  · cases hb : Region.binds .any e with
    | false => exact .inl rfl
    | true => exact .inr (h e he hb)
end
end Go.Den
namespace Go.Den
open Go
set_option linter.unusedVariables false
set_option linter.unusedSimpArgs false
section
variable {P : Program} {G : List Nat} {φ : Ren} {H H' : Mem} {w : World} {ρ ρ' : Operand → Value} {o : Oper} {v : Value} {ops : Array Oper} {a b : Act}
def eff (op : Op) : Bool := !looks op && !news op
def memOp : Op → Bool
  | .load .. | .slice .. | .convert .. | .lookup .. => true
  | .call { callee := .builtin .len, .. } => true
  | _ => false
theorem pure_stays (hl : looks o.op = true) (hm : memOp o.op = false) (h : absOp P ρ H o = some (v, H)) : absOp P ρ H' o = some (v, H') := by
  obtain ⟨dst, op, type, pos, after, guard⟩ := o
  cases op <;> simp only [looks, memOp] at hl hm <;> first | (exact absurd hl (by decide)) | (exact absurd hm (by decide)) | skip
  all_goals simp only [absOp] at h ⊢
  case move => cases h; rfl
  case makeFunc => cases h; rfl
  case indexAddr => obtain ⟨u, h1, h2⟩ := map_eq_some h; cases h2; show Option.map _ (absIndexAddr P H' _ _ _) = _; rw [show absIndexAddr P H' _ _ _ = absIndexAddr P H _ _ _ from rfl, h1]; rfl
  case call c =>
    obtain ⟨callee, args, ats⟩ := c
    cases callee <;> first | (simp at hl; done) | skip
    rename_i bb
    cases bb <;> first | (simp at hl; done) | (simp at hm; done) | skip
    · show absBuiltin P ρ H' .max ats args.toList = _
      have h : absBuiltin P ρ H .max ats args.toList = some (v, H) := h
      match hl : args.toList with
      | [] => rw [hl] at h; simp [absBuiltin] at h
      | x :: r =>
        rw [hl] at h
        simp only [absBuiltin] at h ⊢
        obtain ⟨u, h1, h2⟩ := map_eq_some h
        cases h2; rw [h1]; rfl
    · show absBuiltin P ρ H' .min ats args.toList = _
      have h : absBuiltin P ρ H .min ats args.toList = some (v, H) := h
      match hl : args.toList with
      | [] => rw [hl] at h; simp [absBuiltin] at h
      | x :: r =>
        rw [hl] at h
        simp only [absBuiltin] at h ⊢
        obtain ⟨u, h1, h2⟩ := map_eq_some h
        cases h2; rw [h1]; rfl
  all_goals (obtain ⟨u, h1, h2⟩ := map_eq_some h; cases h2; rw [h1]; rfl)
def convQuiet (P : Program) (op : Op) : Bool :=
  match op with
  | .convert s _ _ => match P.underlying s with
    | some .string => false
    | _ => true
  | _ => true
theorem looks_same (hl : looks o.op = true) (hq : convQuiet P o.op = true) {r : Value × Mem} (h : absOp P ρ H o = some r) : r.2 = H := by
  obtain ⟨dst, op, type, pos, after, guard⟩ := o
  cases op <;> simp only [looks] at hl <;> first | (exact absurd hl (by decide)) | skip
  all_goals simp only [absOp] at h
  case move => cases h; rfl
  case makeFunc => cases h; rfl
  case convert s d x =>
    unfold absConv at h
    simp only [convQuiet] at hq
    split at h
    · cases h; rfl
    · cases h; rfl
    · cases h; rfl
    · rename_i h1 _ _; rw [h1] at hq; cases hq
    · split at h
      · split at h
        · cases h; rfl
        · split at h
          · obtain ⟨u, h1, h2⟩ := map_eq_some h; cases h2; rfl
          · cases h
        · cases h
      · cases h
    · cases h
  case call c =>
    obtain ⟨callee, args, ats⟩ := c
    cases callee <;> first | (simp at hl; done) | skip
    rename_i bb
    cases bb <;> first | (simp at hl; done) | skip
    · have h : absBuiltin P ρ H .len ats args.toList = some r := h
      match hl : args.toList with
      | [x] =>
        rw [hl] at h
        simp only [absBuiltin] at h
        cases h0 : ats[0]? with
        | none => rw [h0] at h; cases h
        | some t => rw [h0] at h; obtain ⟨u, h1, h2⟩ := map_eq_some h; cases h2; rfl
      | [] => rw [hl] at h; simp [absBuiltin] at h
      | _ :: _ :: _ => rw [hl] at h; simp [absBuiltin] at h
    · have h : absBuiltin P ρ H .max ats args.toList = some r := h
      match hl : args.toList with
      | [] => rw [hl] at h; simp [absBuiltin] at h
      | x :: q => rw [hl] at h; simp only [absBuiltin] at h; obtain ⟨u, h1, h2⟩ := map_eq_some h; cases h2; rfl
    · have h : absBuiltin P ρ H .min ats args.toList = some r := h
      match hl : args.toList with
      | [] => rw [hl] at h; simp [absBuiltin] at h
      | x :: q => rw [hl] at h; simp only [absBuiltin] at h; obtain ⟨u, h1, h2⟩ := map_eq_some h; cases h2; rfl
  all_goals (obtain ⟨u, h1, h2⟩ := map_eq_some h; cases h2; rfl)
theorem map_congr_ops {xs : Array Operand} (h : ∀ x ∈ xs, ρ x = ρ' x) : xs.map ρ = xs.map ρ' := Array.map_congr_left h
theorem opt_congr {x : Option Operand} (h : ∀ y, x = some y → ρ y = ρ' y) : x.map ρ = x.map ρ' := by
  cases x with
  | none => rfl
  | some y => simp [h y rfl]
theorem parts_congr {ps : Array (Nat × Operand)} (h : ∀ y ∈ (ps.toList.map (·.2)).toArray, ρ y = ρ' y) : (ps.toList.map fun p => (p.1, ρ p.2)) = (ps.toList.map fun p => (p.1, ρ' p.2)) :=
  List.map_congr_left fun p hp => by rw [h p.2 (by simp; exact ⟨_, by simpa using hp⟩)]
theorem absOp_congr (hh : ∀ x ∈ o.op.operands, ρ x = ρ' x) : absOp P ρ H o = absOp P ρ' H o := by
  obtain ⟨dst, op, type, pos, after, guard⟩ := o
  have h : ∀ x ∈ op.operands, ρ x = ρ' x := hh
  clear hh
  cases op <;> simp only [Op.operands] at h <;> simp only [absOp]
  case build t ps => rw [parts_congr (fun y hy => h y (by simpa using hy))]
  case buildSlice t n ps => rw [parts_congr (fun y hy => h y (by simpa using hy))]
  case makeFunc fn first captured => rw [map_congr_ops (xs := first) (fun x hx => h x (by simp [hx])), map_congr_ops (xs := captured) (fun x hx => h x (by simp [hx]))]
  case slice t x lo hi mx =>
    rw [h x (by simp), opt_congr (x := lo) (fun y hy => h y (by simp [hy])), opt_congr (x := hi) (fun y hy => h y (by simp [hy])), opt_congr (x := mx) (fun y hy => h y (by simp [hy]))]
  case makeMap t r => cases r <;> rfl
  case next it s =>
    cases s
    · rfl
    · simp only; rw [h it (by simp)]
  case call c =>
    obtain ⟨callee, args, ats⟩ := c
    cases callee <;> simp only
    rename_i bb
    have h' : ∀ x ∈ args.toList, ρ x = ρ' x := fun x hx => h x (by simp [Call.operands]; simpa using hx)
    generalize args.toList = l at h'
    unfold absBuiltin
    split <;> simp_all
    all_goals rw [List.map_congr_left (fun x hx => h'.2 x hx)]
  all_goals simp_all
theorem absNew_congr {op : Op} (h : ∀ x ∈ op.operands, ρ x = ρ' x) : absNew P ρ op = absNew P ρ' op := by
  cases op <;> simp only [Op.operands] at h <;> simp only [absNew]
  case box t x => rw [h x (by simp)]
  case buildSlice t n ps => rw [parts_congr (fun y hy => h y (by simpa using hy))]
end
end Go.Den
namespace Go.Den
open Go
set_option linter.unusedVariables false
set_option linter.unusedSimpArgs false
section
variable {P : Program} {G : List Nat} {φ : Ren} {H H' : Mem} {w : World} {o : Oper} {v : Value} {ops : Array Oper} {a b : Act}
def bef (ops : Array Oper) (i j : Nat) : Bool := ((Region.before ops).getD i 0).testBit j
structure POk (P : Program) (G : List Nat) (ops : Array Oper) (ord : List Nat) : Prop where
  ok : okOps P G ops = true
  quiet : ∀ (i : Nat) (o : Oper), ops[i]? = some o → convQuiet P o.op = true
  all : ∀ i, i < ops.size → i ∈ ord
  lt : ∀ i ∈ ord, i < ops.size
  early : ∀ pre i post, ord = pre ++ i :: post → ∀ j ∈ i :: post, bef ops i j = false
  late : ∀ pre i post, ord = pre ++ i :: post → ∀ (o : Oper), ops[i]? = some o → eff o.op = true → ∀ j ∈ post, bef ops j i = true
  dir : ∀ pre i post, ord = pre ++ i :: post → ∀ (o : Oper), ops[i]? = some o → ∀ e ∈ o.after, Region.binds .any e = true → e.on ∈ pre
  once : ∀ pre i post, ord = pre ++ i :: post → i ∉ pre ∧ i ∉ post
  dst : ∀ (i j : Nat) (o o' : Oper), ops[i]? = some o → ops[j]? = some o' → i ≠ j → ∀ d, o.dst = some d → o'.dst ≠ some d
  see : ∀ (i j : Nat) (o o' : Oper) (t : Tmp), ops[i]? = some o → ops[j]? = some o' → i ≠ j → t ∈ o.looksAt ops → o'.dst = some t → bef ops i j = true ∨ (eff o'.op = true ∧ bef ops j i = true)
  self : ∀ (i : Nat) (o : Oper), ops[i]? = some o → eff o.op = false → ∀ t ∈ o.looksAt ops, o.dst ≠ some t
def DOrd (P : Program) (G : List Nat) (ops : Array Oper) (Q : Act → Mem → Prop) : List Nat → List Nat → Act → Mem → Prop
  | _, [], b, H => Q b H
  | ds, c :: cs, b, H =>
    match ops[c]? with
    | none => False
    | some o =>
      if Region.wanted o (yielded ops b.tmps) = true then
        if eff o.op = true then
          DOp P G o (fun v H' => (∀ i ∈ ds, ∀ (o' : Oper), ops[i]? = some o' → looks o'.op = true → memOp o'.op = true → bef ops c i = false → Region.wanted o' (yielded ops (b.put o.dst v).tmps) = true →
              ∃ u, absOp P (b.put o.dst v).eval H' o' = some (u, H') ∧ (b.put o.dst v).put o'.dst u = b.put o.dst v) ∧ DOrd P G ops Q (ds ++ [c]) cs (b.put o.dst v) H') b H
        else ∃ v H', absOp P b.eval H o = some (v, H') ∧ DOrd P G ops Q (ds ++ [c]) cs (b.put o.dst v) H'
      else DOrd P G ops Q (ds ++ [c]) cs (b.put o.dst undef) H
def Delay (P : Program) (ops : Array Oper) (b : Act) (H : Mem) (φ : Ren) (n m : Nat) (o : Oper) : Prop :=
  if Region.wanted o (yielded ops b.tmps) = true then
    (looks o.op = true ∧ ∃ u, absOp P b.eval H o = some (u, H) ∧ b.put o.dst u = b) ∨
    (news o.op = true ∧ ∃ us f, absNew P b.eval o.op = some (us, f) ∧ H[m]? = some (.cells false us) ∧ φ m = none ∧ n ≤ m ∧ b.put o.dst (f m) = b)
  else b.put o.dst undef = b
def Lag (ops : Array Oper) (ds : List Nat) (listed : Array Bool) (t : Tmp) : Prop := ∃ i o, i ∈ ds ∧ listed.getD i true = false ∧ ops[i]? = some o ∧ o.dst = some t
structure Inv (P : Program) (G : List Nat) (ops : Array Oper) (ord : List Nat) (Q : Act → Mem → Prop) (φ₀ : Ren) (H₀ : Mem) (w₀ : World) (listed : Array Bool) (ds cs : List Nat) (b : Act) (H : Mem) (φ : Ren) (a : Act) (w : World) (μ : Nat → Nat) : Prop where
  ord : ord = ds ++ cs
  size : listed.size = ops.size
  closed : Closed ops listed
  cun : ∀ i ∈ cs, listed.getD i true = false
  took : ∀ i ∈ ds, ∀ (o : Oper), ops[i]? = some o → eff o.op = true → listed.getD i true = true
  dord : DOrd P G ops Q ds cs b H
  trel : TRel φ (Lag ops ds listed) b a
  srel : SRel P G φ H w
  ext : Ext φ₀ H₀ w₀ φ H w
  delay : ∀ i ∈ ds, listed.getD i true = false → ∀ (o : Oper), ops[i]? = some o → Delay P ops b H φ H₀.length (μ i) o
  inj : ∀ (i j : Nat) (o o' : Oper), i ∈ ds → j ∈ ds → listed.getD i true = false → listed.getD j true = false → ops[i]? = some o → ops[j]? = some o' → news o.op = true → news o'.op = true →
    Region.wanted o (yielded ops b.tmps) = true → Region.wanted o' (yielded ops b.tmps) = true → μ i = μ j → i = j
theorem eval_put_ne {d : Option Tmp} {x : Operand} (h : ∀ t, x = .tmp t → d ≠ some t) : (b.put d v).eval x = b.eval x := Act.eval_put (fun t e hx => h t hx e)
theorem mem_looks {t : Tmp} (h : .tmp t ∈ o.op.operands) : t ∈ o.looksAt ops := by
  unfold Oper.looksAt
  refine List.mem_append_left _ (List.mem_filterMap.2 ⟨.tmp t, by simpa using h, rfl⟩)
theorem guard_looks {j : Nat} {r : Bool} {t : Tmp} (hg : o.guard = some (j, r)) (ht : (ops[j]?).bind (·.dst) = some t) : t ∈ o.looksAt ops := by
  unfold Oper.looksAt
  refine List.mem_append_right _ ?_
  rw [hg]
  simp only [ht, Option.toList_some, List.mem_singleton]
theorem yielded_put {d : Option Tmp} {j : Nat} (h : ∀ t, (ops[j]?).bind (·.dst) = some t → d ≠ some t) : yielded ops (b.put d v).tmps j = yielded ops b.tmps j := by
  unfold yielded
  cases hq : (ops[j]?).bind (·.dst) with
  | none => rfl
  | some t =>
    have := h t hq
    simp only [Option.bind_some]
    cases d with
    | none => rfl
    | some d =>
      have hne : d ≠ t := fun e => this (by rw [e])
      simp only [Act.put, Array.getElem?_setIfInBounds_ne hne]
theorem wanted_put {d : Option Tmp} (h : ∀ t ∈ o.looksAt ops, d ≠ some t) : Region.wanted o (yielded ops (b.put d v).tmps) = Region.wanted o (yielded ops b.tmps) := by
  unfold Region.wanted
  cases hg : o.guard with
  | none => rfl
  | some p =>
    obtain ⟨j, r⟩ := p
    simp only
    rw [yielded_put (fun t ht => h t (guard_looks hg ht))]
theorem put_keep {d d' : Option Tmp} {u : Value} (h : b.put d' u = b) (hne : ∀ t, d' = some t → d ≠ some t) : (b.put d v).put d' u = b.put d v := by
  rw [Act.put_comm b v u (fun t e => fun e' => hne t e' e), h]
theorem Delay.put {φ : Ren} {n m : Nat} {d : Option Tmp} {o : Oper} (h : Delay P ops b H φ n m o) (hl : ∀ t ∈ o.looksAt ops, d ≠ some t) (hd : ∀ t, o.dst = some t → d ≠ some t) : Delay P ops (b.put d v) H φ n m o := by
  unfold Delay at h ⊢
  rw [wanted_put hl]
  have he : ∀ x ∈ o.op.operands, (b.put d v).eval x = b.eval x := fun x hx => eval_put_ne (fun t e => hl t (mem_looks (e ▸ hx)))
  split
  · rename_i hw
    rw [if_pos hw] at h
    rcases h with ⟨h1, u, h2, h3⟩ | ⟨h1, us, f, h2, h3, h4, h5, h6⟩
    · exact .inl ⟨h1, u, by rw [absOp_congr he]; exact h2, put_keep h3 hd⟩
    · exact .inr ⟨h1, us, f, by rw [absNew_congr he]; exact h2, h3, h4, h5, put_keep h6 hd⟩
  · rename_i hw
    rw [if_neg hw] at h
    exact put_keep h hd
theorem Delay.stays {φ : Ren} {n m : Nat} {o : Oper} (h : Delay P ops b H φ n m o) (hs : Stays H H') : Delay P ops b H' φ n m o := by
  unfold Delay at h ⊢
  split
  · rename_i hw
    rw [if_pos hw] at h
    rcases h with ⟨h1, u, h2, h3⟩ | ⟨h1, us, f, h2, h3, h4, h5, h6⟩
    · exact .inl ⟨h1, u, looks_stays h1 hs h2, h3⟩
    · exact .inr ⟨h1, us, f, h2, hs _ _ h3, h4, h5, h6⟩
  · rename_i hw
    rw [if_neg hw] at h
    exact h
end
end Go.Den
namespace Go.Den
open Go
set_option linter.unusedVariables false
set_option linter.unusedSimpArgs false
section
variable {P : Program} {G : List Nat} {φ : Ren} {H H' : Mem} {w : World} {o : Oper} {v : Value} {ops : Array Oper} {a b : Act}
theorem TRel.weaken {D D' : Tmp → Prop} (h : TRel φ D b a) (hd : ∀ t, D t → D' t) : TRel φ D' b a := ⟨h.size, h.defers, fun t ht => h.tmp t (fun x => ht (hd t x))⟩
theorem put_put (b : Act) (d : Option Tmp) (v u : Value) : (b.put d v).put d u = b.put d u := by
  cases d with
  | none => rfl
  | some d => simp [Act.put]
theorem news_not {op : Op} (h : news op = true) : looks op = false := by cases op <;> first | rfl | (simp [news] at h)
theorem not_eff {op : Op} (h : eff op = false) : looks op = true ∨ news op = true := by
  unfold eff at h
  cases h1 : looks op <;> cases h2 : news op <;> simp_all
theorem mem_split {α : Type} {l : List α} {x : α} (h : x ∈ l) : ∃ s t, l = s ++ x :: t := List.append_of_mem h
section
variable {ord : List Nat} {Q : Act → Mem → Prop} {φ₀ : Ren} {H₀ : Mem} {w₀ : World} {listed : Array Bool} {ds cs : List Nat} {μ : Nat → Nat} {c i : Nat}
theorem POk.ahead (hP : POk P G ops ord) (hord : ord = ds ++ c :: cs) (hi : i ∈ ds) : bef ops i c = false ∧ i ≠ c := by
  obtain ⟨s, t, rfl⟩ := mem_split hi
  have he : ord = s ++ i :: (t ++ c :: cs) := by rw [hord]; simp
  refine ⟨hP.early _ _ _ he c (by simp), fun e => ?_⟩
  subst e
  exact (hP.once _ _ _ he).2 (by simp)
theorem POk.apart (hP : POk P G ops ord) (hord : ord = ds ++ c :: cs) (hi : i ∈ ds) {oi oc : Oper} (h1 : ops[i]? = some oi) (h2 : ops[c]? = some oc) (hx : eff oc.op = true → bef ops c i = false) : (∀ t ∈ oi.looksAt ops, oc.dst ≠ some t) ∧ ∀ t, oi.dst = some t → oc.dst ≠ some t := by
  obtain ⟨g1, g2⟩ := hP.ahead hord hi
  refine ⟨fun t ht e => ?_, fun t ht e => hP.dst i c oi oc h1 h2 g2 t ht e⟩
  rcases hP.see i c oi oc t h1 h2 g2 ht e with h | ⟨h, h'⟩
  · rw [g1] at h; cases h
  · rw [hx h] at h'; cases h'
theorem Inv.advance (hP : POk P G ops ord) (h : Inv P G ops ord Q φ₀ H₀ w₀ listed ds (c :: cs) b H φ a w μ) {oc : Oper} (hc : ops[c]? = some oc) (he : eff oc.op = false) :
    ∃ b' H' μ', Inv P G ops ord Q φ₀ H₀ w₀ listed (ds ++ [c]) cs b' H' φ a w μ' := by
  have hself := hP.self c oc hc he
  have hev : ∀ u, ∀ x ∈ oc.op.operands, (b.put oc.dst u).eval x = b.eval x := fun u x hx => eval_put_ne (fun t e => hself t (mem_looks (e ▸ hx)))
  have hcl := h.cun c (by simp)
  -- all but the slots' new value, the new blocks, and the delay of the new one is the same
  have key : ∀ (u : Value) (H' : Mem) (m : Nat), SRel P G φ H' w → Ext φ₀ H₀ w₀ φ H' w → Stays H H' → DOrd P G ops Q (ds ++ [c]) cs (b.put oc.dst u) H' → Delay P ops (b.put oc.dst u) H' φ H₀.length m oc → (Region.wanted oc (yielded ops b.tmps) = true → news oc.op = true → H.length ≤ m) →
      Inv P G ops ord Q φ₀ H₀ w₀ listed (ds ++ [c]) cs (b.put oc.dst u) H' φ a w (fun i => if i = c then m else μ i) := by
    intro u H' m k1 k2 k3 k4 k5 k6
    have hw : ∀ i ∈ ds, ∀ oi : Oper, ops[i]? = some oi → Region.wanted oi (yielded ops (b.put oc.dst u).tmps) = Region.wanted oi (yielded ops b.tmps) := fun i hi oi hoi => wanted_put (hP.apart h.ord hi hoi hc (fun x => by rw [he] at x; cases x)).1
    have hwc : Region.wanted oc (yielded ops (b.put oc.dst u).tmps) = Region.wanted oc (yielded ops b.tmps) := wanted_put hself
    have hlt : ∀ i ∈ ds, ∀ oi : Oper, listed.getD i true = false → ops[i]? = some oi → news oi.op = true → Region.wanted oi (yielded ops b.tmps) = true → μ i < H.length := by
      intro i hi oi hu hoi hn hwi
      have := h.delay i hi hu oi hoi
      unfold Delay at this
      rw [if_pos hwi] at this
      rcases this with ⟨q, _⟩ | ⟨_, us, f, _, q, _⟩
      · rw [news_not hn] at q; cases q
      · exact (List.getElem?_eq_some_iff.1 q).1
    refine ⟨by rw [h.ord]; simp, h.size, h.closed, fun i hi => h.cun i (by simp [hi]), fun i hi oi hoi hei => ?_, k4, ?_, k1, k2, fun i hi hu oi hoi => ?_, fun i j oi oj hi hj hui huj hoi hoj hni hnj hwi hwj hμ => ?_⟩
    · rcases List.mem_append.1 hi with hi | hi
      · exact h.took i hi oi hoi hei
      · simp at hi; subst hi; rw [hc] at hoi; cases hoi; rw [he] at hei; cases hei
    · refine (h.trel.put_only oc.dst u).weaken fun t ht => ?_
      rcases ht with ⟨i, oi, q1, q2, q3, q4⟩ | ht
      · exact ⟨i, oi, by simp [q1], q2, q3, q4⟩
      · exact ⟨c, oc, by simp, hcl, hc, ht⟩
    · by_cases e : i = c
      · subst e
        rw [hc] at hoi; cases hoi
        simpa using k5
      · have hi : i ∈ ds := by simpa [e] using hi
        obtain ⟨q1, q2⟩ := hP.apart h.ord hi hoi hc (fun x => by rw [he] at x; cases x)
        simp only [if_neg e]
        exact ((h.delay i hi hu oi hoi).put q1 q2).stays k3
    · by_cases ei : i = c <;> by_cases ej : j = c
      · rw [ei, ej]
      · subst ei
        have hj : j ∈ ds := by simpa [ej] using hj
        rw [hc] at hoi; cases hoi
        rw [hw j hj oj hoj] at hwj
        rw [hwc] at hwi
        have q1 := hlt j hj oj huj hoj hnj hwj
        have q2 := k6 hwi hni
        simp only [if_true, if_neg ej] at hμ
        omega
      · subst ej
        have hi : i ∈ ds := by simpa [ei] using hi
        rw [hc] at hoj; cases hoj
        rw [hw i hi oi hoi] at hwi
        rw [hwc] at hwj
        have q1 := hlt i hi oi hui hoi hni hwi
        have q2 := k6 hwj hnj
        simp only [if_true, if_neg ei] at hμ
        omega
      · have hi : i ∈ ds := by simpa [ei] using hi
        have hj : j ∈ ds := by simpa [ej] using hj
        simp only [if_neg ei, if_neg ej] at hμ
        exact h.inj i j oi oj hi hj hui huj hoi hoj hni hnj (by rw [← hw i hi oi hoi]; exact hwi) (by rw [← hw j hj oj hoj]; exact hwj) hμ
  have hd := h.dord
  simp only [DOrd, hc] at hd
  split at hd
  · rename_i hw
    rw [if_neg (by rw [he]; simp)] at hd
    obtain ⟨u, H', e1, e2⟩ := hd
    rcases not_eff he with hl | hn
    · have := looks_same hl (hP.quiet c oc hc) e1
      simp only at this
      subst this
      refine ⟨_, _, _, key u H' H'.length h.srel h.ext (fun _ _ x => x) e2 ?_ (fun _ hn => by rw [news_not hn] at hl; cases hl)⟩
      unfold Delay
      rw [wanted_put hself, if_pos hw]
      exact .inl ⟨hl, u, by rw [absOp_congr (hev u)]; exact e1, put_put _ _ _ _⟩
    · obtain ⟨us, f, e3⟩ := absOp_new hn e1
      have e4 := absNew_op (H := H) e3
      rw [e1] at e4
      simp only [Option.some.injEq, Prod.mk.injEq] at e4
      obtain ⟨rfl, rfl⟩ := e4
      obtain ⟨d1, d2⟩ := h.srel.mem.dark (.cells false us)
      refine ⟨_, _, _, key _ _ H.length (h.srel.of d1 (.refl φ)) (h.ext.trans d2) (Stays.push _ _) e2 ?_ (fun _ _ => Nat.le_refl _)⟩
      unfold Delay
      rw [wanted_put hself, if_pos hw]
      exact .inr ⟨hn, us, f, by rw [absNew_congr (hev _)]; exact e3, by simp, h.srel.mem.none_at (Nat.le_refl _), h.ext.len, put_put _ _ _ _⟩
  · rename_i hw
    refine ⟨_, _, _, key undef H H.length h.srel h.ext (fun _ _ x => x) hd ?_ (fun x => absurd x hw)⟩
    unfold Delay
    rw [wanted_put hself, if_neg hw]
    exact put_put _ _ _ _
theorem Inv.normal (hP : POk P G ops ord) : ∀ (cs ds : List Nat) (b : Act) (H : Mem) (μ : Nat → Nat), Inv P G ops ord Q φ₀ H₀ w₀ listed ds cs b H φ a w μ →
    ∃ ds' cs' b' H' μ', Inv P G ops ord Q φ₀ H₀ w₀ listed ds' cs' b' H' φ a w μ' ∧ (cs' = [] ∨ ∃ c r o, cs' = c :: r ∧ ops[c]? = some o ∧ eff o.op = true)
  | [], ds, b, H, μ, h => ⟨ds, [], b, H, μ, h, .inl rfl⟩
  | c :: cs, ds, b, H, μ, h => by
    have hlt := hP.lt c (by rw [h.ord]; simp)
    have hc : ops[c]? = some ops[c] := Array.getElem?_eq_getElem hlt
    cases he : eff ops[c].op with
    | true => exact ⟨ds, c :: cs, b, H, μ, h, .inr ⟨c, cs, _, rfl, hc, he⟩⟩
    | false =>
      obtain ⟨b', H', μ', h'⟩ := h.advance hP hc he
      exact Inv.normal hP cs _ b' H' μ' h'
end
end
end Go.Den
namespace Go.Den
open Go
set_option linter.unusedVariables false
set_option linter.unusedSimpArgs false
section
variable {P : Program} {G : List Nat} {φ : Ren} {H H' : Mem} {w : World} {o : Oper} {v : Value} {ops : Array Oper} {a b : Act}
variable {ord : List Nat} {Q : Act → Mem → Prop} {φ₀ : Ren} {H₀ : Mem} {w₀ : World} {listed : Array Bool} {ds cs : List Nat} {μ : Nat → Nat} {c i : Nat}
theorem getD_set {l : Array Bool} {i j : Nat} {d : Bool} (hi : i < l.size) : (l.setIfInBounds i true).getD j d = if j = i then true else l.getD j d := by
  rw [Array.getD_eq_getD_getElem?, Array.getD_eq_getD_getElem?, Array.getElem?_setIfInBounds]
  by_cases h : i = j
  · subst h; simp [hi]
  · rw [if_neg h, if_neg (Ne.symm h)]
theorem Closed.set {i : Nat} (hi : i < listed.size) (hc : Closed ops listed) (hd : ∀ o, ops[i]? = some o → ∀ e ∈ o.after, Region.binds .any e = true → listed.getD e.on false = true) : Closed ops (listed.setIfInBounds i true) := by
  intro j o ho hj e he hb
  rw [getD_set hi] at hj ⊢
  split
  · rfl
  · split at hj
    · rename_i x; subst x; exact hd o ho e he hb
    · exact hc j o ho hj e he hb
theorem Inv.taken (h : Inv P G ops ord Q φ₀ H₀ w₀ listed ds cs b H φ a w μ) {i j : Nat} (hr : ∀ o, ops[i]? = some o → ∀ e ∈ o.after, Region.binds .any e = true → listed.getD e.on false = true) (hb : bef ops i j = true) : listed.getD j true = true :=
  getD_false ((before_reach ops i j hb).listed h.closed hr)
theorem Inv.free (hP : POk P G ops ord) (h : Inv P G ops ord Q φ₀ H₀ w₀ listed ds cs b H φ a w μ) (hi : ops[i]? = some o) (hr : ∀ o, ops[i]? = some o → ∀ e ∈ o.after, Region.binds .any e = true → listed.getD e.on false = true)
    (hs : i ∈ cs ∨ eff o.op = false) : ∀ t ∈ o.looksAt ops, ¬ Lag ops ds listed t := by
  rintro t ht ⟨j, oj, q1, q2, q3, q4⟩
  by_cases e : i = j
  · subst e
    rw [hi] at q3; cases q3
    rcases hs with hs | hs
    · obtain ⟨s, r, rfl⟩ := mem_split q1
      have := (hP.once s i (r ++ cs) (by rw [h.ord]; simp)).2
      exact this (by simp [hs])
    · exact hP.self i o hi hs t ht q4
  · rcases hP.see i j o oj t hi q3 e ht q4 with hb | ⟨hb, _⟩
    · have := h.taken hr hb; rw [q2] at this; cases this
    · have := h.took j q1 oj q3 hb; rw [q2] at this; cases this
theorem Inv.wanted (hP : POk P G ops ord) (h : Inv P G ops ord Q φ₀ H₀ w₀ listed ds cs b H φ a w μ) (hi : ops[i]? = some o) (hf : ∀ t ∈ o.looksAt ops, ¬ Lag ops ds listed t) : Region.wanted o (yielded ops b.tmps) = Region.wanted o (yielded ops a.tmps) :=
  wanted_same h.trel (fun j t r hg ht => hf t (guard_looks hg ht))
theorem Inv.same (hP : POk P G ops ord) (h : Inv P G ops ord Q φ₀ H₀ w₀ listed ds cs b H φ a w μ) (hi : ops[i]? = some o) (hf : ∀ t ∈ o.looksAt ops, ¬ Lag ops ds listed t) : Same φ b.eval a.eval o :=
  same_of h.trel h.srel (okOps_get hP.ok hi) (fun t ht => hf t (mem_looks ht))
theorem Ext.mapIn (h : Ext φ₀ H₀ w₀ φ H w) {m : Nat} {l : Loc} {obj : Obj} (hm : φ m = none) (hn : H₀.length ≤ m) (hl : l.b = w.heap.size) : Ext φ₀ H₀ w₀ (φ.put m l) H (w.alloc obj) where
  le := h.le.trans (Ren.le_put hm l)
  size := Nat.le_trans h.size (by simp)
  len := h.len
  wr x hx hw := by
    obtain ⟨n, q, k, f1, f2, f3, f4⟩ := hw
    unfold Ren.put at f1
    split at f1
    · cases f1; have := h.size; omega
    · exact h.wr x hx ⟨n, q, k, f1, f2, f3, f4⟩
  keep x hx hw := by
    have := h.size
    show (w.heap.push obj)[x]? = _
    rw [Array.getElem?_push, if_neg (by omega)]
    exact h.keep x hx hw
  dark n k h1 h2 := by
    obtain ⟨q1, q2⟩ := h.dark n k h1 h2
    refine ⟨?_, q2⟩
    unfold Ren.put
    have : n < H₀.length := (List.getElem?_eq_some_iff.1 h2).1
    rw [if_neg (by omega)]; exact q1
  os := h.os
  out := h.out
  tape := h.tape
theorem Inv.late (hP : POk P G ops ord) (h : Inv P G ops ord Q φ₀ H₀ w₀ listed ds cs b H φ a w μ) (hi : i ∈ ds) (hu : listed.getD i true = false) (ho : ops[i]? = some o)
    (hr : ∀ o, ops[i]? = some o → ∀ e ∈ o.after, Region.binds .any e = true → listed.getD e.on false = true) {K : Act → World → Prop} {Q' : Exit → Act → World → Prop}
    (hK : ∀ φ' a' w', Inv P G ops ord Q φ₀ H₀ w₀ (listed.setIfInBounds i true) ds cs b H φ' a' w' μ → K a' w') : wpOp P ops Q' i K a w := by
  have hsz : i < listed.size := by rw [h.size]; exact (Array.getElem?_eq_some_iff.1 ho).1
  have hne : eff o.op = false := by
    cases q : eff o.op with
    | false => rfl
    | true => have := h.took i hi o ho q; rw [hu] at this; cases this
  have hf := h.free hP ho hr (.inr hne)
  have hw := h.wanted hP ho hf
  -- the new state
  have key : ∀ (φ' : Ren) (a' : Act) (w' : World), φ.le φ' → SRel P G φ' H w' → Ext φ₀ H₀ w₀ φ' H w' → TRel φ' (fun t => Lag ops ds listed t ∧ o.dst ≠ some t) b a' →
      (∀ j ∈ ds, j ≠ i → listed.getD j true = false → ∀ oj : Oper, ops[j]? = some oj → news oj.op = true → Region.wanted oj (yielded ops b.tmps) = true → φ' (μ j) = none) →
      Inv P G ops ord Q φ₀ H₀ w₀ (listed.setIfInBounds i true) ds cs b H φ' a' w' μ := by
    intro φ' a' w' k0 k1 k2 k3 k4
    have hun : ∀ j, (listed.setIfInBounds i true).getD j true = false → j ≠ i ∧ listed.getD j true = false := fun j hj => by
      rw [getD_set hsz] at hj
      split at hj
      · cases hj
      · exact ⟨by assumption, hj⟩
    refine ⟨h.ord, by simp [h.size], h.closed.set hsz hr, fun j hj => ?_, fun j hj oj hoj he => ?_, h.dord, ?_, k1, k2, fun j hj hju oj hoj => ?_, fun j k oj ok hj hk huj huk => ?_⟩
    · rw [getD_set hsz, if_neg]
      · exact h.cun j hj
      · rintro rfl
        obtain ⟨s, r, rfl⟩ := mem_split hi
        exact (hP.once s j (r ++ cs) (by rw [h.ord]; simp)).2 (by simp [hj])
    · rw [getD_set hsz]; split
      · rfl
      · exact h.took j hj oj hoj he
    · refine k3.weaken fun t ht => ?_
      obtain ⟨⟨j, oj, q1, q2, q3, q4⟩, hn⟩ := ht
      refine ⟨j, oj, q1, ?_, q3, q4⟩
      rw [getD_set hsz, if_neg]
      · exact q2
      · rintro rfl
        rw [ho] at q3; cases q3; exact hn q4
    · obtain ⟨e1, e2⟩ := hun j hju
      have hd := h.delay j hj e2 oj hoj
      unfold Delay at hd ⊢
      split
      · rename_i hwj
        rw [if_pos hwj] at hd
        rcases hd with hd | ⟨g1, us, f, g2, g3, g4, g5, g6⟩
        · exact .inl hd
        · exact .inr ⟨g1, us, f, g2, g3, k4 j hj e1 e2 oj hoj g1 hwj, g5, g6⟩
      · rename_i hwj
        rw [if_neg hwj] at hd; exact hd
    · exact h.inj j k oj ok hj hk (hun j huj).2 (hun k huk).2
  have hdark : ∀ (φ' : Ren) (w' : World), Ext φ H w φ' H w' → ∀ j ∈ ds, j ≠ i → listed.getD j true = false → ∀ oj : Oper, ops[j]? = some oj → news oj.op = true → Region.wanted oj (yielded ops b.tmps) = true → φ' (μ j) = none := by
    intro φ' w' hE j hj _ hju oj hoj hn hwj
    have hd := h.delay j hj hju oj hoj
    unfold Delay at hd
    rw [if_pos hwj] at hd
    rcases hd with ⟨q, _⟩ | ⟨_, us, f, _, g3, g4, _⟩
    · rw [news_not hn] at q; cases q
    · exact (hE.dark _ _ g4 g3).1
  unfold wpOp
  rw [ho]
  simp only
  rw [← hw]
  have hd := h.delay i hi hu o ho
  unfold Delay at hd
  split
  · rename_i hwi
    rw [if_pos hwi] at hd
    left
    rcases hd with ⟨g1, u, g2, g3⟩ | ⟨g1, us, f, g2, g3, g4, g5, g6⟩
    · obtain ⟨φ', v', w', nx, e1, e2, e3, e4, e5⟩ := absOp_run h.srel.mem (h.same hP ho hf) g2
      have hT := (h.trel.mono e3.le).put o.dst e4
      simp only at hT
      rw [g3] at hT
      have hI := key φ' (a.put o.dst v') w' e3.le (h.srel.of e5 e3.le) (h.ext.trans e3) hT (hdark φ' w' e3)
      unfold Oper.wp
      rw [e1]
      rcases e2 with rfl | ⟨rfl, rfl⟩ <;> exact hK _ _ _ hI
    · obtain ⟨us', e, g, e1, e2, e3, e4⟩ := absNew_run (h.same hP ho hf) g2 w
      have hM := h.srel.mem.mapIn (e := e) g4 g3 e2 e3
      have hle := Ren.le_put g4 ⟨w.heap.size, 0, us'.length, false⟩
      have hv := e4 (μ i) (φ.put (μ i) ⟨w.heap.size, 0, us'.length, false⟩) (put_self _ _ _)
      have hT := (h.trel.mono hle).put o.dst hv
      rw [g6] at hT
      have hI := key _ (a.put o.dst g) _ hle (h.srel.of hM hle) (h.ext.mapIn g4 g5 rfl) hT (fun j hj hji hju oj hoj hn hwj => by
        have hd := h.delay j hj hju oj hoj
        unfold Delay at hd
        rw [if_pos hwj] at hd
        rcases hd with ⟨q, _⟩ | ⟨_, us2, f2, _, _, q4, _⟩
        · rw [news_not hn] at q; cases q
        · unfold Ren.put
          rw [if_neg]
          · exact q4
          · intro hμ
            exact hji (h.inj j i oj o hj hi hju hu hoj ho hn g1 hwj hwi hμ))
      unfold Oper.wp
      rw [e1]
      exact hK _ _ _ hI
  · rename_i hwi
    rw [if_neg hwi] at hd
    have hT := h.trel.put o.dst (VRel.undef φ)
    rw [hd] at hT
    exact hK _ _ _ (key φ _ w (.refl φ) h.srel h.ext hT (hdark φ w (.refl _ _ _)))
theorem Inv.both (hP : POk P G ops ord) (h : Inv P G ops ord Q φ₀ H₀ w₀ listed ds (c :: cs) b H φ a w μ) (ho : ops[c]? = some o) (he : eff o.op = true)
    (hr : ∀ o, ops[c]? = some o → ∀ e ∈ o.after, Region.binds .any e = true → listed.getD e.on false = true) {K : Act → World → Prop} {Q' : Exit → Act → World → Prop}
    (hK : ∀ b' H' φ' a' w', Inv P G ops ord Q φ₀ H₀ w₀ (listed.setIfInBounds c true) (ds ++ [c]) cs b' H' φ' a' w' μ → K a' w') : wpOp P ops Q' c K a w := by
  have hsz : c < listed.size := by rw [h.size]; exact (Array.getElem?_eq_some_iff.1 ho).1
  have hf := h.free hP ho hr (.inl (by simp))
  have hw := h.wanted hP ho hf
  have hun : ∀ j, (listed.setIfInBounds c true).getD j true = false → j ≠ c ∧ listed.getD j true = false := fun j hj => by
    rw [getD_set hsz] at hj
    split at hj
    · cases hj
    · exact ⟨by assumption, hj⟩
  have hbef : ∀ i ∈ ds, listed.getD i true = false → bef ops c i = false := fun i _ hu => by
    cases q : bef ops c i with
    | false => rfl
    | true => have := h.taken hr q; rw [hu] at this; cases this
  have key : ∀ (u : Value) (H' : Mem) (φ' : Ren) (a' : Act) (w' : World), SRel P G φ' H' w' → Ext φ H w φ' H' w' → TRel φ' (fun t => Lag ops ds listed t ∧ o.dst ≠ some t) (b.put o.dst u) a' → DOrd P G ops Q (ds ++ [c]) cs (b.put o.dst u) H' →
      (∀ i ∈ ds, listed.getD i true = false → ∀ oi : Oper, ops[i]? = some oi → looks oi.op = true → memOp oi.op = true → Region.wanted oi (yielded ops (b.put o.dst u).tmps) = true → ∃ x, absOp P (b.put o.dst u).eval H' oi = some (x, H') ∧ (b.put o.dst u).put oi.dst x = b.put o.dst u) →
      Inv P G ops ord Q φ₀ H₀ w₀ (listed.setIfInBounds c true) (ds ++ [c]) cs (b.put o.dst u) H' φ' a' w' μ := by
    intro u H' φ' a' w' k1 k2 k3 k4 k5
    have hap : ∀ i ∈ ds, listed.getD i true = false → ∀ oi : Oper, ops[i]? = some oi → (∀ t ∈ oi.looksAt ops, o.dst ≠ some t) ∧ ∀ t, oi.dst = some t → o.dst ≠ some t := fun i hi hu oi hoi => hP.apart h.ord hi hoi ho (fun _ => hbef i hi hu)
    refine ⟨by rw [h.ord]; simp, by simp [h.size], h.closed.set hsz hr, fun j hj => ?_, fun j hj oj hoj hej => ?_, k4, ?_, k1, h.ext.trans k2, fun i hi hu oi hoi => ?_, fun i j oi oj hi hj hui huj hoi hoj hni hnj hwi hwj hμ => ?_⟩
    · rw [getD_set hsz, if_neg]
      · exact h.cun j (by simp [hj])
      · rintro rfl
        exact (hP.once ds j cs h.ord).2 hj
    · rw [getD_set hsz]; split
      · rfl
      · rename_i hne
        have hj : j ∈ ds := by simpa [hne] using hj
        exact h.took j hj oj hoj hej
    · refine k3.weaken fun t ht => ?_
      obtain ⟨⟨j, oj, q1, q2, q3, q4⟩, hn⟩ := ht
      refine ⟨j, oj, by simp [q1], ?_, q3, q4⟩
      rw [getD_set hsz, if_neg]
      · exact q2
      · rintro rfl
        rw [ho] at q3; cases q3; exact hn q4
    · obtain ⟨e1, e2⟩ := hun i hu
      have hi : i ∈ ds := by simpa [e1] using hi
      obtain ⟨q1, q2⟩ := hap i hi e2 oi hoi
      have hd := (h.delay i hi e2 oi hoi).put (v := u) q1 q2
      unfold Delay at hd ⊢
      split
      · rename_i hwi
        rw [if_pos hwi] at hd
        rcases hd with ⟨g1, x, g2, g3⟩ | ⟨g1, us, f, g2, g3, g4, g5, g6⟩
        · left
          refine ⟨g1, ?_⟩
          cases hm : memOp oi.op with
          | false => exact ⟨x, pure_stays g1 hm g2, g3⟩
          | true => exact k5 i hi e2 oi hoi g1 hm hwi
        · obtain ⟨r1, r2⟩ := k2.dark _ _ g4 g3
          exact .inr ⟨g1, us, f, g2, r2, r1, g5, g6⟩
      · rename_i hwi
        rw [if_neg hwi] at hd; exact hd
    · obtain ⟨e1, e2⟩ := hun i hui
      obtain ⟨e3, e4⟩ := hun j huj
      have hi : i ∈ ds := by simpa [e1] using hi
      have hj : j ∈ ds := by simpa [e3] using hj
      exact h.inj i j oi oj hi hj e2 e4 hoi hoj hni hnj (by rw [← wanted_put (v := u) (hap i hi e2 oi hoi).1]; exact hwi) (by rw [← wanted_put (v := u) (hap j hj e4 oj hoj).1]; exact hwj) hμ
  unfold wpOp
  rw [ho]
  simp only
  rw [← hw]
  have hd := h.dord
  simp only [DOrd, ho] at hd
  split
  · rename_i hwc
    rw [if_pos hwc, if_pos he] at hd
    left
    refine hd.wp h.srel (h.same hP ho hf) fun φ' v v' H' w' k1 k2 k3 k4 => ?_
    obtain ⟨k5, k6⟩ := k1
    exact hK _ _ _ _ _ (key v H' φ' _ w' k4 k2 ((h.trel.mono k2.le).put _ k3) k6 fun i hi hu oi hoi hl hm hwi => k5 i hi oi hoi hl hm (hbef i hi hu) hwi)
  · rename_i hwc
    rw [if_neg hwc] at hd
    refine hK _ _ _ _ _ (key undef H φ _ w h.srel (.refl _ _ _) (h.trel.put _ (VRel.undef φ)) hd fun i hi hu oi hoi hl hm hwi => ?_)
    have hap := hP.apart h.ord hi hoi ho (fun _ => hbef i hi hu)
    have hdl := (h.delay i hi hu oi hoi).put (v := undef) hap.1 hap.2
    unfold Delay at hdl
    rw [if_pos hwi] at hdl
    rcases hdl with ⟨g1, x, g2, g3⟩ | ⟨g1, _⟩
    · exact ⟨x, g2, g3⟩
    · rw [news_not g1] at hl; cases hl
end
end Go.Den
namespace Go.Den
open Go
set_option linter.unusedVariables false
set_option linter.unusedSimpArgs false
section
variable {P : Program} {G : List Nat} {φ : Ren} {H H' : Mem} {w : World} {o : Oper} {v : Value} {ops : Array Oper} {a b : Act}
variable {ord : List Nat} {Q : Act → Mem → Prop} {φ₀ : Ren} {H₀ : Mem} {w₀ : World} {listed : Array Bool} {ds cs : List Nat} {μ : Nat → Nat} {c i : Nat}
def left (n : Nat) (listed : Array Bool) : Nat := ((List.range n).filter fun i => !listed.getD i true).length
theorem filter_lt {l : List Nat} {p q : Nat → Bool} (hpq : ∀ x, q x = true → p x = true) {i : Nat} (hi : i ∈ l) (h1 : p i = true) (h2 : q i = false) : (l.filter q).length < (l.filter p).length := by
  have hle : ∀ l : List Nat, (l.filter q).length ≤ (l.filter p).length := by
    intro l
    induction l with
    | nil => simp
    | cons x l ih =>
      simp only [List.filter_cons]
      cases hq : q x with
      | true => rw [hpq x hq]; simp; exact ih
      | false => cases hp : p x <;> simp <;> omega
  induction l with
  | nil => cases hi
  | cons x l ih =>
    simp only [List.filter_cons]
    rcases List.mem_cons.1 hi with rfl | hi
    · rw [h1, h2]; simp; exact Nat.lt_succ_of_le (hle l)
    · have := ih hi
      cases hq : q x with
      | true => rw [hpq x hq]; simp; exact this
      | false => cases hp : p x <;> simp <;> omega
theorem left_set {n i : Nat} (hi : i < n) (hs : i < listed.size) (hu : listed.getD i true = false) : left n (listed.setIfInBounds i true) < left n listed := by
  refine filter_lt (i := i) (fun x hx => ?_) (by simpa using hi) (by simp [hu]) (by rw [getD_set hs]; simp)
  rw [getD_set hs] at hx
  split at hx
  · cases hx
  · exact hx
theorem Inv.over (hP : POk P G ops ord) (h : Inv P G ops ord Q φ₀ H₀ w₀ listed ds cs b H φ a w μ) (hr : Region.ready .any ops listed = []) : ∀ i ∈ ord, listed.getD i true = true := by
  have key : ∀ n : Nat, ∀ i ∈ ord.take n, listed.getD i true = true := by
    intro n
    induction n with
    | zero => intro i hi; simp at hi
    | succ n ih =>
      intro i hi
      rw [List.take_add_one] at hi
      rcases List.mem_append.1 hi with hi | hi
      · exact ih i hi
      · cases hx : ord[n]? with
        | none => rw [hx] at hi; simp at hi
        | some x =>
          rw [hx] at hi
          simp at hi; subst hi
          have hn := (List.getElem?_eq_some_iff.1 hx).1
          have he : ord = ord.take n ++ i :: ord.drop (n + 1) := by
            have h1 := (List.take_append_drop n ord).symm
            have h2 : ord.drop n = ord[n] :: ord.drop (n + 1) := List.drop_eq_getElem_cons hn
            rw [h2] at h1
            have h3 : ord[n] = i := (List.getElem?_eq_some_iff.1 hx).2
            rw [h3] at h1; exact h1
          cases hq : listed.getD i true with
          | true => rfl
          | false =>
            have hlt := hP.lt i (by rw [he]; simp)
            have : i ∈ Region.ready .any ops listed := mem_ready.2 ⟨hlt, hq, _, Array.getElem?_eq_getElem hlt, fun e he' hb => by
              have hm := hP.dir _ i _ he _ (Array.getElem?_eq_getElem hlt) e he' hb
              have h1 := ih _ hm
              have h2 := hP.lt _ (List.mem_of_mem_take hm)
              rw [Array.getD_eq_getD_getElem?] at h1 ⊢
              have : e.on < listed.size := by rw [h.size]; exact h2
              rw [Array.getElem?_eq_getElem this] at h1 ⊢
              exact h1⟩
            rw [hr] at this; cases this
  intro i hi
  exact key ord.length i (by simpa using hi)
theorem Inv.fin (hP : POk P G ops ord) (h : Inv P G ops ord Q φ₀ H₀ w₀ listed ds cs b H φ a w μ) (hr : Region.ready .any ops listed = []) : ∃ b' H', Q b' H' ∧ Ext φ₀ H₀ w₀ φ H' w ∧ Like φ b' a ∧ SRel P G φ H' w := by
  have hall := h.over hP hr
  cases cs with
  | cons c cs =>
    have h1 := hall c (by rw [h.ord]; simp)
    have h2 := h.cun c (by simp)
    rw [h1] at h2; cases h2
  | nil =>
    refine ⟨b, H, h.dord, h.ext, h.trel.weaken fun t ht => ?_, h.srel⟩
    obtain ⟨j, oj, q1, q2, q3, q4⟩ := ht
    have := hall j (by rw [h.ord]; simp [q1])
    rw [q2] at this; cases this
theorem inv_any (hP : POk P G ops ord) {Q' : Exit → Act → World → Prop} (hQ : ∀ b' H' φ' a' w', Q b' H' → Ext φ₀ H₀ w₀ φ' H' w' → Like φ' b' a' → SRel P G φ' H' w' → Q' .normal a' w') :
    ∀ (fuel : Nat) (listed : Array Bool) (ds cs : List Nat) (b : Act) (H : Mem) (φ : Ren) (a : Act) (w : World) (μ : Nat → Nat), Inv P G ops ord Q φ₀ H₀ w₀ listed ds cs b H φ a w μ → left ops.size listed ≤ fuel → wpAny P .any ops Q' fuel listed a w
  | 0, listed, ds, cs, b, H, φ, a, w, μ, h, hl => by
    have hr : Region.ready .any ops listed = [] := by
      cases hq : Region.ready .any ops listed with
      | nil => rfl
      | cons x l =>
        have hx : x ∈ Region.ready .any ops listed := by rw [hq]; simp
        obtain ⟨h1, h2, _⟩ := mem_ready.1 hx
        have : x ∈ (List.range ops.size).filter fun i => !listed.getD i true := List.mem_filter.2 ⟨by simpa using h1, by simp [h2]⟩
        unfold left at hl
        rw [List.eq_nil_of_length_eq_zero (Nat.le_zero.1 hl)] at this; cases this
    obtain ⟨b', H', q1, q2, q3, q4⟩ := h.fin hP hr
    exact ⟨hr, hQ b' H' φ a w q1 q2 q3 q4⟩
  | fuel + 1, listed, ds, cs, b, H, φ, a, w, μ, h, hl => by
    obtain ⟨ds, cs, b, H, μ, h, hhead⟩ := h.normal hP
    refine ⟨fun hr => ?_, fun i hi => ?_⟩
    · obtain ⟨b', H', q1, q2, q3, q4⟩ := h.fin hP hr
      exact hQ b' H' φ a w q1 q2 q3 q4
    · obtain ⟨h1, h2, o, ho, hr⟩ := mem_ready.1 hi
      have hr' : ∀ o, ops[i]? = some o → ∀ e ∈ o.after, Region.binds .any e = true → listed.getD e.on false = true := fun o' ho' => by rw [ho] at ho'; cases ho'; exact hr
      have hlt := left_set (n := ops.size) h1 (by rw [h.size]; exact h1) h2
      have hmem : i ∈ ds ++ cs := by rw [← h.ord]; exact hP.all i h1
      rcases List.mem_append.1 hmem with hds | hcs
      · exact h.late hP hds h2 ho hr' fun φ' a' w' h' => inv_any hP hQ fuel _ ds cs b H φ' a' w' μ h' (by omega)
      · rcases hhead with rfl | ⟨c, r, oc, rfl, hc, he⟩
        · cases hcs
        · by_cases e : i = c
          · subst e
            exact h.both hP hc he hr' fun b' H' φ' a' w' h' => inv_any hP hQ fuel _ _ r b' H' φ' a' w' μ h' (by omega)
          · have hir : i ∈ r := by simpa [e] using hcs
            have := hP.late ds c r h.ord oc hc he i hir
            have h3 := h.taken hr' this
            have h4 := h.cun c (by simp)
            rw [h3] at h4; cases h4
def D (P : Program) (G : List Nat) (c : Code) (Q : Exit → Act → Mem → Prop) (b : Act) (H : Mem) : Prop :=
  ∀ φ a w, SRel P G φ H w → Like φ b a → ∀ Q' : Exit → Act → World → Prop,
    (∀ e b' H' φ' a' w', Q e b' H' → Ext φ H w φ' H' w' → Like φ' b' a' → SRel P G φ' H' w' → Q' e a' w') → c.wp P Q' a w
variable {R : Exit → Act → Mem → Prop}
theorem D.region {id : Nat} (hok : okOps P G ops = true) (h : DOps P G ops (R .normal) (List.range ops.size) b H) : D P G (.region id ops false) R b H :=
  fun φ a w hS hT Q' hQ => wp_region (dops_wp hok _ φ H w b a h hS hT fun b' H' φ' a' w' q1 q2 q3 q4 => hQ _ b' H' φ' a' w' q1 q2 q3 q4)
theorem D.regionDraw {id : Nat} (hm : P.follows .mixedOrders = true) (hP : POk P G ops ord) (h : DOrd P G ops (R .normal) [] ord b H) : D P G (.region id ops true) R b H := by
  intro φ a w hS hT Q' hQ
  refine wp_region_any hm ?_
  have hinv : Inv P G ops ord (R .normal) φ H w (Array.replicate ops.size false) [] ord b H φ a w.drew (fun i => i) := by
    refine ⟨rfl, by simp, fun i o ho hl => ?_, fun i hi => ?_, fun i hi => (by cases hi), h, hT.weaken (fun _ x => x.elim), ⟨hS.mem.drew, hS.glob⟩, Ext.drew _ _ _, fun i hi => (by cases hi), fun i j o o' hi => (by cases hi)⟩
    · have := (Array.getElem?_eq_some_iff.1 ho).1
      rw [Array.getD_eq_getD_getElem?, Array.getElem?_replicate, if_pos this] at hl
      cases hl
    · have := hP.lt i hi
      rw [Array.getD_eq_getD_getElem?, Array.getElem?_replicate, if_pos this]
      rfl
  refine inv_any hP (fun b' H' φ' a' w' q1 q2 q3 q4 => hQ _ b' H' φ' a' w' q1 q2 q3 q4) _ _ _ _ _ _ _ _ _ _ hinv ?_
  unfold left
  exact Nat.le_trans (List.length_filter_le _ _) (by simp)
theorem D.skip (h : R .normal b H) : D P G .skip R b H := fun φ a w hS hT Q' hQ => wp_skip (hQ _ b H φ a w h (.refl _ _ _) hT hS)
theorem D.label {l : Nat} (h : R .normal b H) : D P G (.label l) R b H := fun φ a w hS hT Q' hQ => wp_label (hQ _ b H φ a w h (.refl _ _ _) hT hS)
theorem D.exit {n : Nat} (h : R (.exit n) b H) : D P G (.exit n) R b H := fun φ a w hS hT Q' hQ => wp_exit (hQ _ b H φ a w h (.refl _ _ _) hT hS)
theorem D.ret (h : R .ret b H) : D P G .ret R b H := fun φ a w hS hT Q' hQ => wp_ret (hQ _ b H φ a w h (.refl _ _ _) hT hS)
theorem D.mono {c : Code} {R' : Exit → Act → Mem → Prop} (h : D P G c R b H) (hr : ∀ e b H, R e b H → R' e b H) : D P G c R' b H :=
  fun φ a w hS hT Q' hQ => h φ a w hS hT Q' fun e b' H' φ' a' w' q => hQ e b' H' φ' a' w' (hr _ _ _ q)
def thenD (K : Act → Mem → Prop) (R : Exit → Act → Mem → Prop) : Exit → Act → Mem → Prop
  | .normal, b, H => K b H
  | e, b, H => R e b H
theorem D.seq {x y : Code} (h : D P G x (thenD (D P G y R) R) b H) : D P G (.seq x y) R b H := by
  intro φ a w hS hT Q' hQ
  refine wp_seq (h φ a w hS hT _ fun e b' H' φ' a' w' q1 q2 q3 q4 => ?_)
  cases e with
  | normal => exact q1 φ' a' w' q4 q3 Q' fun e b2 H2 φ2 a2 w2 p1 p2 p3 p4 => hQ e b2 H2 φ2 a2 w2 p1 (q2.trans p2) p3 p4
  | exit n => exact hQ _ b' H' φ' a' w' q1 q2 q3 q4
  | goto n => exact hQ _ b' H' φ' a' w' q1 q2 q3 q4
  | ret => exact hQ _ b' H' φ' a' w' q1 q2 q3 q4
  | panic ch => exact hQ _ b' H' φ' a' w' q1 q2 q3 q4
  | outgrown => exact hQ _ b' H' φ' a' w' q1 q2 q3 q4
theorem D.cond {x : Operand} {s t : Code} {r : Bool} (hok : okOperand G x = true) (hx : b.eval x = .bool r) (h : D P G (if r then s else t) R b H) : D P G (.cond x s t) R b H := by
  intro φ a w hS hT Q' hQ
  have hv := hT.eval hS hok (fun _ _ h => h)
  rw [hx] at hv
  exact wp_cond hv.bool_inv (h φ a w hS hT Q' hQ)
def blockD (n : Nat) (R : Exit → Act → Mem → Prop) : Exit → Act → Mem → Prop
  | .exit m, b, H => if m = n then R .normal b H else R (.exit m) b H
  | e, b, H => R e b H
theorem D.block {n : Nat} {x : Code} (h : D P G x (blockD n R) b H) : D P G (.block n x) R b H := by
  intro φ a w hS hT Q' hQ
  refine wp_block (h φ a w hS hT _ fun e b' H' φ' a' w' q1 q2 q3 q4 => ?_)
  cases e with
  | exit m =>
    unfold Exit.inBlock
    simp only [blockD] at q1
    simp only
    split
    · rename_i e; rw [if_pos e] at q1; exact hQ _ b' H' φ' a' w' q1 q2 q3 q4
    · rename_i e; rw [if_neg e] at q1; exact hQ _ b' H' φ' a' w' q1 q2 q3 q4
  | normal => exact hQ _ b' H' φ' a' w' q1 q2 q3 q4
  | goto n => exact hQ _ b' H' φ' a' w' q1 q2 q3 q4
  | ret => exact hQ _ b' H' φ' a' w' q1 q2 q3 q4
  | panic ch => exact hQ _ b' H' φ' a' w' q1 q2 q3 q4
  | outgrown => exact hQ _ b' H' φ' a' w' q1 q2 q3 q4
end
end Go.Den
namespace Go.Den
open Go
set_option linter.unusedVariables false
set_option linter.unusedSimpArgs false
section
variable {P : Program} {G : List Nat} {φ : Ren} {H H' : Mem} {w : World} {o : Oper} {v : Value} {ops : Array Oper} {a b : Act} {R : Exit → Act → Mem → Prop}
theorem D.loop {c : Code} (I : Nat → Act → Mem → Prop) (n : Nat) (h : I n b H) (round : ∀ n b H, I n b H → D P G c (thenD (fun b' H' => ∃ m, m < n ∧ I m b' H') R) b H) : D P G (.loop c) R b H := by
  intro φ a w hS hT Q' hQ
  refine wp_loop_ghost (fun n a' w' => ∃ φ' b' H', I n b' H' ∧ SRel P G φ' H' w' ∧ Like φ' b' a' ∧ Ext φ H w φ' H' w') n ⟨φ, b, H, h, hS, hT, .refl _ _ _⟩ ?_
  rintro n a' w' ⟨φ', b', H', i1, i2, i3, i4⟩
  refine round n b' H' i1 φ' a' w' i2 i3 _ fun e b2 H2 φ2 a2 w2 q1 q2 q3 q4 => ?_
  cases e with
  | normal =>
    obtain ⟨m, hm, hi⟩ := q1
    exact ⟨m, hm, φ2, b2, H2, hi, q4, q3, i4.trans q2⟩
  | exit n => exact hQ _ b2 H2 φ2 a2 w2 q1 (i4.trans q2) q3 q4
  | goto n => exact hQ _ b2 H2 φ2 a2 w2 q1 (i4.trans q2) q3 q4
  | ret => exact hQ _ b2 H2 φ2 a2 w2 q1 (i4.trans q2) q3 q4
  | panic ch => exact hQ _ b2 H2 φ2 a2 w2 q1 (i4.trans q2) q3 q4
  | outgrown => exact hQ _ b2 H2 φ2 a2 w2 q1 (i4.trans q2) q3 q4
def absResult (P : Program) (b : Act) (H : Mem) : ResultVar → Option Value
  | .tmp t => some (b.tmps.getD t undef)
  | .cell a t => absLoad P H t (b.tmps.getD a undef)
def absResults (P : Program) (b : Act) (H : Mem) : List ResultVar → Option (List Value)
  | [] => some []
  | r :: rs => match absResult P b H r, absResults P b H rs with
    | some v, some vs => some (v :: vs)
    | _, _ => none
def absAnswer (P : Program) (fn : Func) (b : Act) (H : Mem) : Option Value :=
  match absResults P b H fn.results.toList with
  | some [v] => some v
  | some vs => some (.tuple vs.toArray)
  | none => none
theorem absLoad_var (hM : MRel φ H w) {t : TypeId} {p p' : Value} (h : absLoad P H t p = some v) (hp : VRel φ p p') : ∃ u, (do loadVar t (← asAddr p') : Sem Value).run P w = .ok u w ∧ VRel φ v u := by
  obtain ⟨u, h1, h2⟩ := absLoad_run hM h hp
  refine ⟨u, ?_, h2⟩
  unfold absLoad at h
  split at h
  · obtain ⟨l, q1, q2, rfl⟩ := hp.ptr_inv
    simpa [Instr.loadAt, Instr.sureAddr, asAddr] using h1
  · cases h
theorem results_run (hS : SRel P G φ H w) (hT : Like φ b a) : ∀ (l : List ResultVar) (vs : List Value), absResults P b H l = some vs →
    ∃ us : List Value, (l.mapM (fun r => match r with | .tmp t => pure (a.tmps.getD t undef) | .cell x t => do loadVar t (← asAddr (a.tmps.getD x undef)) : ResultVar → Sem Value)).run P w = .ok us w ∧ us.length = vs.length ∧ ∀ (i : Nat) (v u : Value), vs[i]? = some v → us[i]? = some u → VRel φ v u
  | [], vs, h => by cases h; exact ⟨[], by simp, rfl, fun i v u hv => by simp at hv⟩
  | r :: rs, vs, h => by
    simp only [absResults] at h
    split at h
    · rename_i v0 vs0 h1 h2
      cases h
      obtain ⟨us, e1, e2, e3⟩ := results_run hS hT rs vs0 h2
      have hr : ∃ u, (match r with | .tmp t => pure (a.tmps.getD t undef) | .cell x t => (do loadVar t (← asAddr (a.tmps.getD x undef))) : Sem Value).run P w = .ok u w ∧ VRel φ v0 u := by
        cases r with
        | tmp t => cases h1; exact ⟨_, rfl, hT.tmp t (fun h => h)⟩
        | cell x t => exact absLoad_var hS.mem h1 (hT.tmp x (fun h => h))
      obtain ⟨u, f1, f2⟩ := hr
      refine ⟨u :: us, ?_, by simp [e2], fun i v y hv hy => ?_⟩
      · simp only [List.mapM_cons, Sem.run_bind, f1, Result.andThen_ok, e1, Sem.run_pure]
      · match i with
        | 0 => simp at hv hy; subst hv; subst hy; exact f2
        | i + 1 => simp at hv hy; exact e3 i v y hv hy
    · cases h
theorem answer_run (hS : SRel P G φ H w) (hT : Like φ b a) {fn : Func} (h : absAnswer P fn b H = some v) : ∃ u, (results fn a.tmps).run P w = .ok u w ∧ VRel φ v u := by
  unfold absAnswer at h
  unfold results
  rw [Array.mapM_eq_mapM_toList]
  cases hq : absResults P b H fn.results.toList with
  | none => rw [hq] at h; cases h
  | some vs =>
    rw [hq] at h
    obtain ⟨us, e1, e2, e3⟩ := results_run hS hT _ vs hq
    have e1' : (List.mapM (fun x => match x with | ResultVar.tmp t => pure (a.tmps.getD t undef) | ResultVar.cell a_1 t => do let __do_lift ← asAddr (a.tmps.getD a_1 undef); loadVar t __do_lift) fn.results.toList : Sem (List Value)).run P w = .ok us w := e1
    simp only [Sem.run_bind, Sem.run_map]
    erw [e1']
    simp only [Result.andThen_ok, Sem.run_pure]
    clear e1 e1' hq
    match vs, us, e2, h, e3 with
    | [x], [y], _, h, e3 =>
      have h' : some x = some v := h
      cases h'
      exact ⟨y, by simp, e3 0 _ _ rfl rfl⟩
    | [], [], _, h, e3 =>
      have h' : some (Value.tuple #[]) = some v := h
      cases h'
      exact ⟨.tuple #[], by simp, VRel.undef φ⟩
    | x :: x2 :: xs, y :: y2 :: ys, e2, h, e3 =>
      have h' : some (Value.tuple (x :: x2 :: xs).toArray) = some v := h
      cases h'
      exact ⟨.tuple (y :: y2 :: ys).toArray, by simp, (ARel.of_list (by simpa using e2.symm) e3).tup⟩
theorem FSem.of {f : FuncId} {fn : Func} {c : Code} {args : Array Value} {K : Value → Mem → Prop} (hf : P.funcs[f]? = some fn) (hb : fn.body = some c)
    (h : D P G c (fun e b H' => (e = .normal ∨ e = .ret) ∧ ∃ v, absAnswer P fn b H' = some v ∧ K v H') { tmps := args ++ Array.replicate (fn.ntmps - args.size) undef, defers := [] } H) : FSem P G f args H K := by
  intro φ args' w hS hA R' hR
  refine calls_of_wp hf hb (h φ _ w hS ?_ _ fun e b' H' φ' a' w' q1 q2 q3 q4 => ?_)
  · refine ⟨by simp [hA.1], rfl, fun t _ => ?_⟩
    simp only [Array.getD_eq_getD_getElem?]
    by_cases ht : t < args.size
    · rw [Array.getElem?_append_left ht, Array.getElem?_append_left (hA.1 ▸ ht), Array.getElem?_eq_getElem ht, Array.getElem?_eq_getElem (hA.1 ▸ ht)]
      exact hA.2 t _ _ (Array.getElem?_eq_getElem ht) (Array.getElem?_eq_getElem (hA.1 ▸ ht))
    · have ht' : ¬ t < args'.size := hA.1 ▸ ht
      rw [Array.getElem?_append_right (Nat.le_of_not_lt ht), Array.getElem?_append_right (Nat.le_of_not_lt ht'), Array.getElem?_replicate, Array.getElem?_replicate, hA.1]
      split <;> exact VRel.undef φ
  · obtain ⟨he, v, hv, hk⟩ := q1
    obtain ⟨u, e1, e2⟩ := answer_run q4 q3 hv
    have := hR φ' v u H' w' hk q2 e2 q4
    rcases he with rfl | rfl <;> exact ⟨q3.defers, u, e1, this⟩
end
end Go.Den
namespace Go.Den
open Go
set_option linter.unusedVariables false
set_option linter.unusedSimpArgs false
section
variable {P : Program} {G : List Nat} {φ : Ren} {H H' : Mem} {w : World} {o : Oper} {v : Value} {ops : Array Oper} {a b : Act} {R : Exit → Act → Mem → Prop}
def ordB (ops : Array Oper) (pre : List Nat) : List Nat → Bool
  | [] => true
  | i :: post => !pre.contains i && !post.contains i && (i :: post).all (fun j => !bef ops i j) &&
    (match ops[i]? with
     | some o => (!eff o.op || post.all fun j => bef ops j i) && allA o.after (fun e => !Region.binds .any e || pre.contains e.on)
     | none => false) && ordB ops (pre ++ [i]) post
def pairB (ops : Array Oper) (i j : Nat) : Bool :=
  i == j || match ops[i]?, ops[j]? with
    | some o, some o' => (match o.dst with | some d => o'.dst != some d | none => true) && (o.looksAt ops).all fun t => o'.dst != some t || bef ops i j || (eff o'.op && bef ops j i)
    | _, _ => true
def planB (P : Program) (G : List Nat) (ops : Array Oper) (ord : List Nat) : Bool :=
  okOps P G ops && allA ops (fun o => convQuiet P o.op) && (List.range ops.size).all (ord.contains ·) && ord.all (· < ops.size) && ordB ops [] ord &&
  (List.range ops.size).all (fun i => (List.range ops.size).all fun j => pairB ops i j) && allA ops fun o => eff o.op || (o.looksAt ops).all fun t => o.dst != some t
theorem ordB_spec : ∀ (post pre : List Nat), ordB ops pre post = true → ∀ s i t, post = s ++ i :: t →
    (i ∉ pre ++ s ∧ i ∉ t) ∧ (∀ j ∈ i :: t, bef ops i j = false) ∧ ∃ o, ops[i]? = some o ∧ (eff o.op = true → ∀ j ∈ t, bef ops j i = true) ∧ ∀ e ∈ o.after, Region.binds .any e = true → e.on ∈ pre ++ s
  | [], pre, h, s, i, t, he => by simp at he
  | x :: post, pre, h, s, i, t, he => by
    simp only [ordB, Bool.and_eq_true] at h
    obtain ⟨⟨⟨⟨h1, h2⟩, h3⟩, h4⟩, h5⟩ := h
    match s, he with
    | [], he =>
      simp only [List.nil_append, List.cons.injEq] at he
      obtain ⟨rfl, rfl⟩ := he
      refine ⟨⟨by simpa using h1, by simpa using h2⟩, fun j hj => ?_, ?_⟩
      · have := List.all_eq_true.1 h3 j hj; simpa using this
      · cases ho : ops[x]? with
        | none => rw [ho] at h4; cases h4
        | some o =>
          rw [ho] at h4
          simp only [Bool.and_eq_true, Bool.or_eq_true, Bool.not_eq_true'] at h4
          refine ⟨o, rfl, fun he j hj => ?_, fun e he hb => ?_⟩
          · rcases h4.1 with q | q
            · rw [he] at q; cases q
            · exact List.all_eq_true.1 q j hj
          · have := (allA_mem.1 h4.2) e he
            rw [hb] at this
            simpa using this
    | y :: s, he =>
      simp only [List.cons_append, List.cons.injEq] at he
      obtain ⟨rfl, he⟩ := he
      have := ordB_spec post (pre ++ [x]) h5 s i t he
      simpa using this
theorem POk.of {ord : List Nat} (h : planB P G ops ord = true) : POk P G ops ord := by
  simp only [planB, Bool.and_eq_true] at h
  obtain ⟨⟨⟨⟨⟨⟨h1, h2⟩, h3⟩, h4⟩, h5⟩, h6⟩, h7⟩ := h
  have hpair : ∀ i j o o', ops[i]? = some o → ops[j]? = some o' → i ≠ j → (match o.dst with | some d => o'.dst != some d | none => true) = true ∧ ∀ t ∈ o.looksAt ops, o'.dst = some t → bef ops i j = true ∨ (eff o'.op = true ∧ bef ops j i = true) := by
    intro i j o o' hi hj hne
    have := List.all_eq_true.1 (List.all_eq_true.1 h6 i (by simpa using (Array.getElem?_eq_some_iff.1 hi).1)) j (by simpa using (Array.getElem?_eq_some_iff.1 hj).1)
    unfold pairB at this
    rw [hi, hj] at this
    simp only [Bool.or_eq_true, beq_iff_eq, Bool.and_eq_true] at this
    rcases this with this | ⟨q1, q2⟩
    · exact absurd this hne
    · refine ⟨q1, fun t ht e => ?_⟩
      have := List.all_eq_true.1 q2 t ht
      simp only [Bool.or_eq_true, Bool.and_eq_true, bne_iff_ne, ne_eq] at this
      rcases this with (this | this) | this
      · exact absurd e this
      · exact .inl this
      · exact .inr this
  refine ⟨h1, fun i o hi => (allA_mem.1 h2) o (Array.mem_of_getElem? hi), fun i hi => by have := List.all_eq_true.1 h3 i (by simpa using hi); simpa using this, fun i hi => by have := List.all_eq_true.1 h4 i hi; simpa using this, fun pre i post he => (ordB_spec ord [] h5 pre i post he).2.1,
    fun pre i post he o ho hef => ?_, fun pre i post he o ho e hea hb => ?_, fun pre i post he => by simpa using (ordB_spec ord [] h5 pre i post he).1, fun i j o o' hi hj hne d hd => ?_, fun i j o o' t hi hj hne ht e => (hpair i j o o' hi hj hne).2 t ht e, fun i o hi hef t ht => ?_⟩
  · obtain ⟨_, _, o', ho', q, _⟩ := ordB_spec ord [] h5 pre i post he
    rw [ho] at ho'; cases ho'; exact q hef
  · obtain ⟨_, _, o', ho', _, q⟩ := ordB_spec ord [] h5 pre i post he
    rw [ho] at ho'; cases ho'; simpa using q e hea hb
  · have := (hpair i j o o' hi hj hne).1
    rw [hd] at this
    simpa using this
  · have := (allA_mem.1 h7) o (Array.mem_of_getElem? hi)
    rw [hef] at this
    simp only [Bool.false_or] at this
    have := List.all_eq_true.1 this t ht
    simpa using this
theorem VRel.same_loc {ψ : Ren} (hle : φ.le ψ) {x y : Value} (h : VRel φ x y) : ∀ z, VRel ψ x z → VRel φ x z := by
  induction h with
  | flat h => intro z hz
              rename_i x0
              have : z = x0 := by cases hz <;> first | rfl | (simp [Den.flat] at h)
              subst this; exact .flat h
  | ptr h hs => intro z hz; obtain ⟨l, h1, h2, rfl⟩ := hz.ptr_inv; rw [hle _ _ h] at h1; cases h1; exact .ptr h hs
  | slice h hs hn hr ho hz0 => intro z hz; obtain ⟨l, c', o, h1, h2, h3, h4, h5, rfl⟩ := hz.slice_inv; rw [hle _ _ h] at h1; cases h1; exact .slice h hs h3 h4 h5 hz.slice_size
  | map h => intro z hz; obtain ⟨l, h1, rfl⟩ := hz.map_inv; rw [hle _ _ h] at h1; cases h1; exact .map h
  | func hf h1 hx h2 i1 i2 =>
    intro z hz
    cases hz with
    | flat h => simp [Den.flat] at h
    | func hf' h1' hx' h2' =>
      have get : ∀ {xs ys : Array Value}, xs.size = ys.size → ∀ {i : Nat} {v : Value}, xs[i]? = some v → ∃ u, ys[i]? = some u := fun hs i v hv => by
        have hi := (Array.getElem?_eq_some_iff.1 hv).1
        exact ⟨_, Array.getElem?_eq_getElem (hs ▸ hi)⟩
      exact .func hf' (fun i v u hv hu => by obtain ⟨u0, hu0⟩ := get hf hv; exact i1 i v u0 hv hu0 u (h1' i v u hv hu)) hx' (fun i v u hv hu => by obtain ⟨u0, hu0⟩ := get hx hv; exact i2 i v u0 hv hu0 u (h2' i v u hv hu))
  | iface h ih =>
    intro z hz
    cases hz with
    | flat h => simp [Den.flat] at h
    | iface h' => exact .iface (ih _ h')
  | agg hx h ih =>
    intro z hz
    obtain ⟨ys, rfl, hs, h'⟩ := hz.agg_inv
    refine .agg hs fun i v u hv hu => ?_
    have hi := (Array.getElem?_eq_some_iff.1 hv).1
    exact ih i v _ hv (Array.getElem?_eq_getElem (hx ▸ hi)) u (h' i v u hv hu)
  | tuple hx h ih =>
    intro z hz
    obtain ⟨ys, rfl, hs, h'⟩ := hz.tuple_inv
    refine .tuple hs fun i v u hv hu => ?_
    have hi := (Array.getElem?_eq_some_iff.1 hv).1
    exact ih i v _ hv (Array.getElem?_eq_getElem (hx ▸ hi)) u (h' i v u hv hu)
theorem BRel.same_loc {ψ : Ren} (hle : φ.le ψ) {w w' : World} {l : Loc} {k : Blk} (h : BRel φ w l k) (h' : BRel ψ w' l k) : BRel φ w' l k := by
  cases k with
  | cells ro vs =>
    obtain ⟨a1, a2, a3⟩ := h
    obtain ⟨b1, b2, b3⟩ := h'
    refine ⟨b1, fun i v hv => ?_, b3⟩
    obtain ⟨x, hx, hr⟩ := a2 i v hv
    obtain ⟨y, hy, hr'⟩ := b2 i v hv
    exact ⟨y, hy, hr.same_loc hle y hr'⟩
  | map es cl =>
    obtain ⟨a0, es1, a1, a2, a3⟩ := h
    obtain ⟨b0, es2, b1, b2, b3⟩ := h'
    refine ⟨b0, es2, b1, b2, fun i e e' he he' => ?_⟩
    obtain ⟨x1, x2, x3⟩ := b3 i e e' he he'
    have hi := (List.getElem?_eq_some_iff.1 he).1
    obtain ⟨y1, y2, y3⟩ := a3 i e es1[i] he (Array.getElem?_eq_getElem (by omega))
    exact ⟨y1.same_loc hle _ x1, y2.same_loc hle _ x2, x3⟩
  | iter s p => exact h'
  | dead => exact True.intro
theorem FSem.plain {f : FuncId} {args : Array Value} {K : Value → Prop} (h : FSem P G f args H fun v H' => (∃ l, H' = H ++ l) ∧ plainV v = true ∧ K v) : FSem P G f args H fun v H' => K v ∧ H' = H := by
  intro φ args' w hS hA R' hR
  refine h φ args' w hS hA R' fun φ' v v' H' w' q1 q2 q3 q4 => ?_
  obtain ⟨⟨l, rfl⟩, hp, hk⟩ := q1
  have hv := q3.plain_eq hp
  subst hv
  have hM : MRel φ H w' := by
    refine ⟨fun n l e => ⟨(hS.mem.dom n l e).1, Nat.lt_of_lt_of_le (hS.mem.dom n l e).2 q2.size⟩, fun n l' k e e' => ?_, hS.mem.inj⟩
    have hn := (hS.mem.dom n l' e).1
    exact (hS.mem.blk n l' k e e').same_loc q2.le (q4.mem.blk n l' k (q2.le _ _ e) (by rw [List.getElem?_append_left hn]; exact e'))
  refine hR φ v' v' H w' ⟨hk, rfl⟩ ⟨.refl φ, q2.size, Nat.le_refl _, fun _ _ x => x, q2.keep, fun _ _ x y => ⟨x, y⟩, q2.os, q2.out, q2.tape⟩ (VRel.plain hp) (hS.of hM (.refl φ))
theorem FSem.law {f : FuncId} {args args' : Array Value} {x : Value} (h : FSem P G f args H fun v H' => v = x) (hx : plainV x = true) (hS : SRel P G φ H w) (hA : ARel φ args args') (hro : ∀ (n : Nat) (k : Blk), H[n]? = some k → k.wr = false) :
    Calls P f args' w fun e w' => e = .returned x ∧ RowKit.Below w.heap.size w w' := by
  refine h φ args' w hS hA _ fun φ' v v' H' w' q1 q2 q3 q4 => ⟨?_, ?_⟩
  · subst q1; rw [q3.plain_eq hx]
  · exact ⟨q2.os, q2.tape, q2.out, q2.size, fun k hk => q2.keep k hk fun ⟨n, l, b, f1, f2, f3, f4⟩ => by rw [hro n b f2] at f3; cases f3⟩
end
end Go.Den
