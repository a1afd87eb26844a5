/- Subscriptions in blocks: what the functions answer, in plain records. -/
import Derived.Test.YtnpcodfeggcdbaaAccWorld
set_option linter.unusedVariables false
set_option linter.unusedSimpArgs false
namespace Go.Proofs.Ytnpcodfeggcdbaa.Pure
open Go.RowKit Go.Proofs.Ytnpcodfeggcdbaa.PAcc Go.Proofs.YtnpcodfeggcdbaaW.PrintWords Go.Proofs.YtnpcodfeggcdbaaW.PrintLast
open Go.Proofs.Ytnpcodfeggcdbaa
/-! ### Structs in blocks, whole -/
section
variable {P : Program} {ops : Array Oper} {rest : List Oper} {o o2 : Oper} {a : Act} {Q : Exit → Act → World → Prop}
theorem heap_full {w : World} {g : Nat} {e : TypeId} {cur : Array Value} (vs : List Value) (h : w.heap[g]? = some (.cells cur e (0, 0))) (hs : cur.size = vs.length) : (w.setCells g 0 vs).heap[g]? = some (.cells vs.toArray e (0, 0)) := by
  obtain ⟨cur', h1, h2, h3⟩ := setCells_row vs 0 w cur h (by omega)
  have : cur' = vs.toArray := by
    apply Array.toList_inj.1
    rw [h3, List.take_zero, List.nil_append, List.drop_of_length_le (by rw [Array.length_toList]; omega), List.append_nil]
  rw [h1, this]
/-- A block of one's own, and a whole struct stored into it. -/
theorem box2 {W : World} (hg1 : o.guard = none) {N : Tmp} (hd1 : o.dst = some N) {cs : Array Value} {t : TypeId}
    (hr1 : (execOp a.eval o).run P W = .ok (.value (.pointer (some ⟨W.heap.size, 0, none⟩))) (W.alloc (.cells cs t (0, 0))))
    (hg2 : o2.guard = none) (hd2 : o2.dst = none) {v : Operand} (ho2 : o2.op = .store t (.tmp N) v) (vs : Array Value)
    (hp : ∀ g : Nat, (a.put (some N) (.pointer (some ⟨g, 0, none⟩))).eval (.tmp N) = .pointer (some ⟨g, 0, none⟩))
    (hv : ∀ g : Nat, (a.put (some N) (.pointer (some ⟨g, 0, none⟩))).eval v = .agg vs) (ht : (P.info? t).map (·.size) = some vs.toList.length) (hcs : cs.size = vs.toList.length) (h1 : ∀ q ∈ vs.toList, q.oneCell' = true)
    (h : ∀ g, W.heap.size ≤ g → ∀ w1, w1.heap[g]? = some (.cells vs t (0, 0)) → Below W.heap.size W w1 → wpList P ops Q rest (a.put (some N) (.pointer (some ⟨g, 0, none⟩))) w1) : wpList P ops Q (o :: o2 :: rest) a W := by
  refine box_event hg1 hd1 hr1 (fun g hg w1 hb hB => ?_)
  rw [hd1]
  have hrun := run_store_run (P := P) (w := w1) (g := g) (o := 0) (cur := cs) t (.agg vs) vs.toList hb rfl ht (by omega) h1
  refine wpList_plain hg2 fun K hK => ?_
  unfold Oper.wp execOp
  simp only [ho2, hp, hv, Sem.run_bind, Sem.run_pure, Result.andThen_ok, hrun]
  show K ((a.put (some N) (.pointer (some ⟨g, 0, none⟩))).put o2.dst undef) _
  rw [hd2]
  refine hK _ _ (h g (by omega) _ ?_ ?_)
  · have := heap_full vs.toList hb hcs
    rwa [Array.toArray_toList] at this
  · obtain ⟨e1, e2, e3, e4⟩ := setCells_same g vs.toList 0 w1
    refine ⟨e1.trans hB.os, e2.trans hB.tape, e3.trans hB.output, by rw [e4]; exact hB.size, fun k hk => ?_⟩
    rw [setCells_far vs.toList 0 k (by omega)]
    exact hB.block k hk
/-- A whole struct stored into a block that is there. -/
theorem putB {W : World} (hgd : o.guard = none) (hd : o.dst = none) (t : TypeId) (x v : Operand) (ho : o.op = .store t x v) {g : Nat} (hx : a.eval x = .pointer (some ⟨g, 0, none⟩)) {cs : Array Value} {t' : TypeId} (hb : W.heap[g]? = some (.cells cs t' (0, 0))) (vs : Array Value)
    (hv : a.eval v = .agg vs) (ht : (P.info? t).map (·.size) = some vs.toList.length) (hcs : cs.size = vs.toList.length) (h1 : ∀ q ∈ vs.toList, q.oneCell' = true)
    (h : ∀ w1, w1.heap[g]? = some (.cells vs t' (0, 0)) → (∀ n w0, n ≤ g → Below n w0 W → Below n w0 w1) → (∀ k, k ≠ g → w1.heap[k]? = W.heap[k]?) → w1.heap.size = W.heap.size → wpList P ops Q rest a w1) : wpList P ops Q (o :: rest) a W := by
  have hrun := run_store_run (P := P) (w := W) (g := g) (o := 0) (cur := cs) t (.agg vs) vs.toList hb rfl ht (by omega) h1
  refine wpList_plain hgd fun K hK => ?_
  unfold Oper.wp execOp
  simp only [ho, hx, hv, Sem.run_bind, Sem.run_pure, Result.andThen_ok, hrun]
  show K (a.put o.dst undef) _
  rw [hd]
  obtain ⟨e1, e2, e3, e4⟩ := setCells_same g vs.toList 0 W
  refine hK _ _ (h _ ?_ ?_ ?_ e4)
  · have := heap_full vs.toList hb hcs
    rwa [Array.toArray_toList] at this
  · intro n w0 hn hB
    refine ⟨e1.trans hB.os, e2.trans hB.tape, e3.trans hB.output, by rw [e4]; exact hB.size, fun k hk => ?_⟩
    rw [setCells_far vs.toList 0 k (by omega)]
    exact hB.block k hk
  · intro k hk
    exact setCells_far vs.toList 0 k hk
/-- One cell stored into a block that is there. -/
theorem putF {W : World} (hgd : o.guard = none) (hd : o.dst = none) (t : TypeId) (x v : Operand) (ho : o.op = .store t x v) {g j : Nat} (hx : a.eval x = .pointer (some ⟨g, j, none⟩)) {cs : Array Value} {t' : TypeId} (hb : W.heap[g]? = some (.cells cs t' (0, 0))) (u : Value)
    (hv : a.eval v = u) (hu : u.cells.toList = [u]) (ht : (P.info? t).map (·.size) = some 1) (hj : j < cs.size) (h1 : u.oneCell' = true) (cs' : Array Value) (hcs : cs.setIfInBounds j u = cs')
    (h : ∀ w1, w1.heap[g]? = some (.cells cs' t' (0, 0)) → (∀ n w0, n ≤ g → Below n w0 W → Below n w0 w1) → (∀ k, k ≠ g → w1.heap[k]? = W.heap[k]?) → w1.heap.size = W.heap.size → wpList P ops Q rest a w1) : wpList P ops Q (o :: rest) a W := by
  subst hcs
  have hrun := run_store_run (P := P) (w := W) (g := g) (o := j) (cur := cs) t u [u] hb hu ht (by simp; omega) (fun q hq => by rw [List.mem_singleton.1 hq]; exact h1)
  refine wpList_plain hgd fun K hK => ?_
  unfold Oper.wp execOp
  simp only [ho, hx, hv, Sem.run_bind, Sem.run_pure, Result.andThen_ok, hrun]
  show K (a.put o.dst undef) _
  rw [hd]
  obtain ⟨e1, e2, e3, e4⟩ := setCells_same g [u] j W
  refine hK _ _ (h _ (blk_put hb j u rfl) ?_ ?_ e4)
  · intro n w0 hn hB
    refine ⟨e1.trans hB.os, e2.trans hB.tape, e3.trans hB.output, by rw [e4]; exact hB.size, fun k hk => ?_⟩
    rw [setCells_far [u] j k (by omega)]
    exact hB.block k hk
  · intro k hk
    exact setCells_far [u] j k hk
/-- A whole struct is loaded. -/
theorem loadB {W : World} (hgd : o.guard = none) (ty : TypeId) (x : Operand) (ho : o.op = .load ty x) {g : Nat} (hx : a.eval x = .pointer (some ⟨g, 0, none⟩)) {t : TypeId} {cs : Array Value} (hg : W.heap[g]? = some (.cells cs t (0, 0))) {d : TypeDesc}
    (hu : P.underlying ty = some d) (hd : (match d with | .struct _ | .array _ _ => true | _ => false) = true) (hi : (P.info? ty).map (·.size) = some cs.size) (h : wpList P ops Q rest (a.put o.dst (.agg cs)) W) : wpList P ops Q (o :: rest) a W :=
  wpList_load_row hgd ty x ho g hx t cs (0, 0) d hg hu hd hi h
end
/-- A block's fact, behind what changed no elder block. -/
theorem bst {w w' : World} {g : Nat} {o : Obj} (h : Aside0 (w.heap[g]? = some o)) (hb : Below w.heap.size w w') : Aside0 (w'.heap[g]? = some o) := ⟨blk_below h.out hb⟩
/-- A row of cycles of the law's own. -/
def Rd (w : World) (s : Value) (l : List S37) : Prop := ∃ base, Kd.R k37 37 w base (fun _ => True) s l
theorem Rd.get {w : World} {s : Value} {l : List S37} (h : Rd w s l) : ∃ A c, s = .slice A l.length c ∧ l.length ≤ c ∧ Kd.C k37 w A l.length l := by
  obtain ⟨base, h⟩ := h
  exact Kd.R_reads h
theorem Rd.st {w w' : World} {s : Value} {l : List S37} (h : Aside0 (Rd w s l)) (hb : Below w.heap.size w w') : Aside0 (Rd w' s l) := by
  obtain ⟨base, h⟩ := h.out
  exact ⟨base, Kd.R_below h hb⟩
theorem Rd.of {w : World} {base : Nat} {ok : Nat → Prop} {s : Value} {l : List S37} (h : Kd.R k37 37 w base ok s l) : Rd w s l := ⟨base, Kd.R_mono h (fun _ _ => trivial)⟩
theorem Rd.nil_ (w : World) : Rd w (.slice none 0 0) [] := ⟨0, Kd.R_nil k37 37 w 0 (fun _ => True)⟩
/-- A row lies in no block of another type: a store into such a block leaves it. -/
theorem Rd.keep {w w' : World} {g t : Nat} {s : Value} {l : List S37} {cs : Array Value} (h : Aside0 (Rd w s l)) (hb : w.heap[g]? = some (.cells cs t (0, 0))) (hk : ∀ k, k ≠ g → w'.heap[k]? = w.heap[k]?) (ht : ∀ q, q ∈ 37 :: k37.E → q ≠ t) : Aside0 (Rd w' s l) := by
  obtain ⟨base, h⟩ := h.out
  exact ⟨base, Kd.R_mono (Kd.R_step (Kd.R_types h hb ht) (fun k hk' _ => hk k hk'.2)) (fun _ _ => trivial)⟩
theorem hst_ {w0 w w' : World} (h : Aside0 (Below w0.heap.size w0 w)) (hb : Below w.heap.size w w') : Aside0 (Below w0.heap.size w0 w') := ⟨below_step h.out hb⟩
/-- A subscription's cells, and a plan's. -/
def Ac.cs (a : Ac) (s : Value) : Array Value := #[.int .u8 a.st, .int .i64 a.pl, .int .i64 a.an, .int .i64 a.ix, .int .i64 a.ct, .int .i64 a.cr, .bool a.sk, s, .int .i64 a.dn, .int .i64 a.up, .int .i64 a.rf, .int .i64 a.sp, .int .i64 a.pd]
def Pl.cs (p : Pl) : Array Value := #[.int .i64 p.pr, .int .u8 p.un, .int .i64 p.ev, .int .i64 p.tr, .bool p.go, .bool p.la]
theorem Rd.one {w : World} {s : Value} {l : List S37} (h : Rd w s l) : s.oneCell' = true := by obtain ⟨A, c, rfl, _⟩ := h.get; rfl
theorem Ac.one (a : Ac) {s : Value} (hs : s.oneCell' = true) : ∀ q ∈ (a.cs s).toList, q.oneCell' = true := by
  intro q hq
  simp only [Ac.cs, List.mem_cons, List.not_mem_nil, or_false] at hq
  rcases hq with rfl | rfl | rfl | rfl | rfl | rfl | rfl | rfl | rfl | rfl | rfl | rfl | rfl <;> first | exact hs | rfl
theorem Pl.one (p : Pl) : ∀ q ∈ p.cs.toList, q.oneCell' = true := by
  intro q hq
  simp only [Pl.cs, List.mem_cons, List.not_mem_nil, or_false] at hq
  rcases hq with rfl | rfl | rfl | rfl | rfl | rfl <;> rfl
/-- What a call that hands out a subscription and an error comes to. -/
def Out (w : World) (b : Ac) (er : Int) (e : Ending) (w' : World) : Prop := ∃ s, e = .returned (.tuple #[.agg (b.cs s), .int .i64 er]) ∧ Rd w' s b.op ∧ Below w.heap.size w w'
theorem open_c (n fr : Int) (p : Pl) (b : Ac) (w : World) (h : account_Open.f n p.pr p.un p.ev p.tr p.go p.la fr = some (b.st, b.pl, b.an, b.ix, b.ct, b.cr, b.sk, b.op, b.dn, b.up, b.rf, b.sp, b.pd)) :
    Calls Try.prog 11 #[.int .i64 n, .agg p.cs, .int .i64 fr] w fun e w' => ∃ s, e = .returned (.agg (b.cs s)) ∧ Rd w' s b.op ∧ Below w.heap.size w w' :=
  (account_Open.calls n p.pr p.un p.ev p.tr p.go p.la fr _ _ _ _ _ _ _ _ _ _ _ _ _ w h).mono (fun e w' ⟨v, he, hR, hb⟩ => ⟨v, he, Rd.of hR, hb⟩)
theorem day_c (k : Nat) (a b : Ac) (p : Pl) (t er : Int) (s : Value) (w : World) (hr : Aside0 (Rd w s a.op)) (h : dayF k a p t = some (b.t er)) :
    Calls Try.prog 12 #[.agg (a.cs s), .agg p.cs, .int .i64 t] w (Out w b er) := by
  obtain ⟨A, c, rfl, hc, hC⟩ := hr.out.get
  exact (account_Day.calls k _ _ _ _ _ _ _ A c _ _ _ _ _ _ _ _ _ _ _ _ _ _ _ _ _ _ _ _ _ _ _ _ _ _ _ w hC hc h).mono (fun e w' ⟨v, he, hR, hb⟩ => ⟨v, he, Rd.of hR, hb⟩)
section
variable {P : Program} {ops : Array Oper} {oi : Oper} {a : Act} {K : Act → World → Prop} {Q : Exit → Act → World → Prop}
/-- A whole struct stored into a block that is there: one step of a region that draws. -/
theorem putK {W : World} (hw : Region.wanted oi (yielded ops a.tmps) = true) (hd : oi.dst = none) (t : TypeId) (x v : Operand) (ho : oi.op = .store t x v) {g : Nat} (hx : a.eval x = .pointer (some ⟨g, 0, none⟩)) {cs : Array Value} {t' : TypeId} (hb : W.heap[g]? = some (.cells cs t' (0, 0))) (vs : Array Value)
    (hv : a.eval v = .agg vs) (ht : (P.info? t).map (·.size) = some vs.toList.length) (hcs : cs.size = vs.toList.length) (h1 : ∀ q ∈ vs.toList, q.oneCell' = true)
    (h : ∀ w1, w1.heap[g]? = some (.cells vs t' (0, 0)) → (∀ n w0, n ≤ g → Below n w0 W → Below n w0 w1) → (∀ k, k ≠ g → w1.heap[k]? = W.heap[k]?) → w1.heap.size = W.heap.size → K a w1) : if Region.wanted oi (yielded ops a.tmps) = true then Oper.wp P oi a W K Q else K (a.put none undef) W := by
  have hrun := run_store_run (P := P) (w := W) (g := g) (o := 0) (cur := cs) t (.agg vs) vs.toList hb rfl ht (by omega) h1
  obtain ⟨e1, e2, e3, e4⟩ := setCells_same g vs.toList 0 W
  refine skip_ (w1 := W.setCells g 0 vs.toList) hw hd ?_ (h _ ?_ ?_ ?_ e4)
  · unfold execOp
    simp only [ho, hx, hv, Sem.run_bind, Sem.run_pure, Result.andThen_ok, hrun]
  · have := heap_full vs.toList hb hcs
    rwa [Array.toArray_toList] at this
  · intro n w0 hn hB
    refine ⟨e1.trans hB.os, e2.trans hB.tape, e3.trans hB.output, by rw [e4]; exact hB.size, fun k hk => ?_⟩
    rw [setCells_far vs.toList 0 k (by omega)]
    exact hB.block k hk
  · intro k hk
    exact setCells_far vs.toList 0 k hk
end
/-- Behind a store into one block: another block's fact, and a row's that lies below. -/
theorem bfar {w w' : World} {g k : Nat} {o : Obj} (h : Aside0 (w.heap[k]? = some o)) (hne : k ≠ g) (hk : ∀ k, k ≠ g → w'.heap[k]? = w.heap[k]?) : Aside0 (w'.heap[k]? = some o) := ⟨(hk k hne).trans h.out⟩
end Go.Proofs.Ytnpcodfeggcdbaa.Pure
