/- A part of the proof. -/
import Derived.Test.YteclckfcniigjaaDoorProg
import Derived.KernelRfl
import Derived.Test.YteclckfcniigjaaDoorD1
set_option linter.all false
namespace Go.Den
open Go
set_option linter.unusedVariables false
set_option linter.unusedSimpArgs false
section
variable {P : Program} {G : List Nat} {φ : Ren} {H H' : Mem} {w : World} {o : Oper} {v : Value} {ops : Array Oper} {a b : Act} {R : Exit → Act → Mem → Prop}
inductive Way where
  | normal
  | exit (n : Nat)
  | ret
  deriving DecidableEq
def Way.of : Way → Exit
  | .normal => .normal
  | .exit n => .exit n
  | .ret => .ret
def same1 : Value → Value → Bool
  | .bool a, .bool b => a == b
  | .int j a, .int k b => decide (j = k) && decide (a = b)
  | .string a, .string b => decide (a = b)
  | .pointer a, .pointer b => decide (a = b)
  | .slice a n c, .slice a' n' c' => decide (a = a') && decide (n = n') && decide (c = c')
  | .map a, .map b => decide (a = b)
  | .nilFunc, .nilFunc => true
  | _, _ => false
theorem same1_eq {x y : Value} (h : same1 x y = true) : x = y := by
  unfold same1 at h
  split at h <;> simp_all
def sameL : List Value → List Value → Bool
  | [], [] => true
  | x :: xs, y :: ys => same1 x y && sameL xs ys
  | _, _ => false
theorem sameL_eq : ∀ {xs ys : List Value}, sameL xs ys = true → xs = ys
  | [], [], _ => rfl
  | x :: xs, y :: ys, h => by
    simp only [sameL, Bool.and_eq_true] at h
    rw [same1_eq h.1, sameL_eq h.2]
  | [], _ :: _, h => by cases h
  | _ :: _, [], h => by cases h
def sameV : Value → Value → Bool
  | .agg xs, .agg ys => sameL xs.toList ys.toList
  | x, y => same1 x y
theorem sameV_eq {x y : Value} (h : sameV x y = true) : x = y := by
  unfold sameV at h
  split at h
  · congr 1; exact Array.ext' (sameL_eq h)
  · exact same1_eq h
abbrev CallF := FuncId → Array Value → Mem → Option (Value × Mem)
def evOp (P : Program) (call : CallF) (o : Oper) (b : Act) (H : Mem) : Option (Value × Mem) :=
  match absOp P b.eval H o with
  | some r => some r
  | none => match absCall P b.eval o with
    | some (f, args) => call f args H
    | none => none
def evOps (P : Program) (call : CallF) (ops : Array Oper) : List Nat → Act → Mem → Option (Act × Mem)
  | [], b, H => some (b, H)
  | i :: rest, b, H =>
    match ops[i]? with
    | none => evOps P call ops rest b H
    | some o =>
      if Region.wanted o (yielded ops b.tmps) = true then
        match evOp P call o b H with
        | some (v, H') => evOps P call ops rest (b.put o.dst v) H'
        | none => none
      else evOps P call ops rest (b.put o.dst undef) H
def lagB (P : Program) (ops : Array Oper) (c : Nat) (b : Act) (H : Mem) (i : Nat) : Bool :=
  match ops[i]? with
  | none => true
  | some o =>
    if looks o.op && memOp o.op && !bef ops c i && Region.wanted o (yielded ops b.tmps) then
      match absOp P b.eval H o, o.dst with
      | some (u, _), some d => decide (d < b.tmps.size) && sameV u (b.tmps.getD d undef) && convQuiet P o.op
      | _, _ => false
    else true
def evOrd (P : Program) (call : CallF) (ops : Array Oper) : List Nat → List Nat → Act → Mem → Option (Act × Mem)
  | _, [], b, H => some (b, H)
  | ds, c :: cs, b, H =>
    match ops[c]? with
    | none => none
    | some o =>
      if Region.wanted o (yielded ops b.tmps) = true then
        if eff o.op = true then
          match evOp P call o b H with
          | some (v, H') => if ds.all (lagB P ops c (b.put o.dst v) H') then evOrd P call ops (ds ++ [c]) cs (b.put o.dst v) H' else none
          | none => none
        else match absOp P b.eval H o with
          | some (v, H') => evOrd P call ops (ds ++ [c]) cs (b.put o.dst v) H'
          | none => none
      else evOrd P call ops (ds ++ [c]) cs (b.put o.dst undef) H
def eagerOf (ops : Array Oper) : Nat → List Nat → List Nat → List Nat
  | 0, _, done => done
  | n + 1, rem, done =>
    let may := rem.filter fun i => rem.all fun j => !bef ops i j
    match may.find? (fun i => (ops[i]?).any fun o => !eff o.op) with
    | some i => eagerOf ops n (rem.erase i) (done ++ [i])
    | none => match may with
      | i :: _ => eagerOf ops n (rem.erase i) (done ++ [i])
      | [] => done
def eager (ops : Array Oper) : List Nat := eagerOf ops ops.size (List.range ops.size) []
def evC (P : Program) (G : List Nat) (again : Code → Act → Mem → Option (Way × Act × Mem)) (call : CallF) : Code → Act → Mem → Option (Way × Act × Mem)
  | .skip, b, H | .label _, b, H => some (.normal, b, H)
  | .region _ ops draw, b, H =>
    if draw then
      if P.follows .mixedOrders && planB P G ops (eager ops) then (evOrd P call ops [] (eager ops) b H).map fun r => (.normal, r.1, r.2) else none
    else if okOps P G ops then (evOps P call ops (List.range ops.size) b H).map fun r => (.normal, r.1, r.2) else none
  | .seq x y, b, H =>
    match evC P G again call x b H with
    | some (.normal, b', H') => evC P G again call y b' H'
    | r => r
  | .cond c x y, b, H =>
    if okOperand G c then
      match b.eval c with
      | .bool true => evC P G again call x b H
      | .bool false => evC P G again call y b H
      | _ => none
    else none
  | .block n x, b, H =>
    match evC P G again call x b H with
    | some (.exit m, b', H') => if m = n then some (.normal, b', H') else some (.exit m, b', H')
    | r => r
  | .loop x, b, H =>
    match evC P G again call x b H with
    | some (.normal, b', H') => again (.loop x) b' H'
    | r => r
  | .exit n, b, H => some (.exit n, b, H)
  | .ret, b, H => some (.ret, b, H)
  | _, _, _ => none
mutual
def ev (P : Program) (G : List Nat) : Nat → Code → Act → Mem → Option (Way × Act × Mem)
  | 0, _, _, _ => none
  | n + 1, c, b, H => evC P G (ev P G n) (evF P G n) c b H
def evF (P : Program) (G : List Nat) : Nat → CallF
  | 0, _, _, _ => none
  | n + 1, f, args, H =>
    match P.funcs[f]? with
    | some fn => match fn.body with
      | some c => match ev P G n c { tmps := args ++ Array.replicate (fn.ntmps - args.size) undef, defers := [] } H with
        | some (.normal, b, H') | some (.ret, b, H') => (absAnswer P fn b H').map fun v => (v, H')
        | _ => none
      | none => none
    | none => none
end
def CallOk (P : Program) (G : List Nat) (call : CallF) : Prop := ∀ f args H v H', call f args H = some (v, H') → FSem P G f args H fun u H'' => u = v ∧ H'' = H'
theorem evOp_ok {call : CallF} (hc : CallOk P G call) {K : Value → Mem → Prop} (h : evOp P call o b H = some (v, H')) (hk : K v H') : DOp P G o K b H := by
  unfold evOp at h
  split at h
  · cases h; exact .inl ⟨v, H', by assumption, hk⟩
  · split at h
    · rename_i f args hca
      exact .inr ⟨f, args, hca, (hc f args H v H' h).mono fun u H'' ⟨e1, e2⟩ => by subst e1; subst e2; exact hk⟩
    · cases h
theorem evOps_ok {call : CallF} (hc : CallOk P G call) {Q : Act → Mem → Prop} : ∀ (l : List Nat) (b : Act) (H : Mem) (b' : Act) (H' : Mem), evOps P call ops l b H = some (b', H') → Q b' H' → DOps P G ops Q l b H
  | [], b, H, b', H', h, hq => by cases h; exact hq
  | i :: rest, b, H, b', H', h, hq => by
    simp only [evOps] at h
    simp only [DOps]
    cases ho : ops[i]? with
    | none => rw [ho] at h; exact evOps_ok hc rest b H b' H' h hq
    | some o =>
      rw [ho] at h
      simp only at h ⊢
      split
      · rename_i hw
        rw [if_pos hw] at h
        split at h
        · rename_i v H1 he
          exact evOp_ok hc he (evOps_ok hc rest _ _ b' H' h hq)
        · cases h
      · rename_i hw
        rw [if_neg hw] at h
        exact evOps_ok hc rest _ _ b' H' h hq
theorem lagB_ok {c i : Nat} (h : lagB P ops c b H i = true) : ∀ (o' : Oper), ops[i]? = some o' → looks o'.op = true → memOp o'.op = true → bef ops c i = false → Region.wanted o' (yielded ops b.tmps) = true → ∃ u, absOp P b.eval H o' = some (u, H) ∧ b.put o'.dst u = b := by
  intro o' ho hl hm hb hw
  unfold lagB at h
  rw [ho] at h
  simp only [hl, hm, hb, hw, Bool.not_false, Bool.and_self, if_true] at h
  split at h
  · rename_i u H1 d he hd
    simp only [Bool.and_eq_true, decide_eq_true_eq] at h
    obtain ⟨⟨h1, h2⟩, h3⟩ := h
    have hH := looks_same hl h3 he
    simp only at hH
    subst hH
    refine ⟨u, he, ?_⟩
    rw [hd, sameV_eq h2]
    cases b with
    | mk t df =>
      simp only [Act.put]
      congr 1
      apply Array.ext_getElem?
      intro j
      rw [Array.getElem?_setIfInBounds]
      split
      · rename_i e; subst e
        have h1' : d < t.size := h1
        simp [Array.getD_eq_getD_getElem?, h1']
      · rfl
  · cases h
theorem evOrd_ok {call : CallF} (hc : CallOk P G call) {Q : Act → Mem → Prop} : ∀ (cs ds : List Nat) (b : Act) (H : Mem) (b' : Act) (H' : Mem), evOrd P call ops ds cs b H = some (b', H') → Q b' H' → DOrd P G ops Q ds cs b H
  | [], ds, b, H, b', H', h, hq => by cases h; exact hq
  | c :: cs, ds, b, H, b', H', h, hq => by
    simp only [evOrd] at h
    simp only [DOrd]
    cases ho : ops[c]? with
    | none => rw [ho] at h; cases h
    | some o =>
      rw [ho] at h
      simp only at h ⊢
      split
      · rename_i hw
        rw [if_pos hw] at h
        split
        · rename_i he
          rw [if_pos he] at h
          split at h
          · rename_i v H1 hev
            split at h
            · rename_i hlag
              exact evOp_ok hc hev ⟨fun i hi => lagB_ok (List.all_eq_true.1 hlag i hi), evOrd_ok hc cs _ _ _ b' H' h hq⟩
            · cases h
          · cases h
        · rename_i he
          rw [if_neg he] at h
          split at h
          · rename_i v H1 hev
            exact ⟨v, H1, hev, evOrd_ok hc cs _ _ _ b' H' h hq⟩
          · cases h
      · rename_i hw
        rw [if_neg hw] at h
        exact evOrd_ok hc cs _ _ _ b' H' h hq
def LoopW (P : Program) (x : Code) (Q' : Exit → Act → World → Prop) (a : Act) (w : World) : Prop :=
  ∀ (f : Frame) (k : List Item) (cs : List Frame), ∃ e a' w', Q' e a' w' ∧ Arrives P (lone (f.at a (.code x :: .inLoop x :: k)) cs w) f k cs e a' w'
def DL (P : Program) (G : List Nat) (x : Code) (R : Exit → Act → Mem → Prop) (b : Act) (H : Mem) : Prop :=
  ∀ φ a w, SRel P G φ H w → Like φ b a → ∀ Q' : Exit → Act → World → Prop,
    (∀ e b' H' φ' a' w', R e b' H' → Ext φ H w φ' H' w' → Like φ' b' a' → SRel P G φ' H' w' → Q' e a' w') → LoopW P x Q' a w
theorem D.loopIn {x : Code} (h : DL P G x R b H) : D P G (.loop x) R b H := fun φ a w hS hT Q' hQ f k cs =>
  let ⟨e, a', w', q, arr⟩ := h φ a w hS hT Q' hQ f k cs
  ⟨e, a', w', q, .of_steps (.one step_loop) arr⟩
theorem DL.one {x : Code} (h : D P G x (thenD (DL P G x R) R) b H) : DL P G x R b H := by
  intro φ a w hS hT Q' hQ f k cs
  obtain ⟨e, a₁, w₁, hq, harr⟩ := h φ a w hS hT (Exit.then (fun a' w' => LoopW P x Q' a' w') Q') (fun e b' H' φ' a' w' q1 q2 q3 q4 => by
    cases e with
    | normal => exact q1 φ' a' w' q4 q3 Q' fun e b2 H2 φ2 a2 w2 p1 p2 p3 p4 => hQ e b2 H2 φ2 a2 w2 p1 (q2.trans p2) p3 p4
    | exit n => exact hQ _ b' H' φ' a' w' q1 q2 q3 q4
    | goto n => exact hQ _ b' H' φ' a' w' q1 q2 q3 q4
    | ret => exact hQ _ b' H' φ' a' w' q1 q2 q3 q4
    | panic ch => exact hQ _ b' H' φ' a' w' q1 q2 q3 q4
    | outgrown => exact hQ _ b' H' φ' a' w' q1 q2 q3 q4) f (.inLoop x :: k) cs
  cases e with
  | normal =>
    obtain ⟨e₂, a₂, w₂, hq₂, harr₂⟩ := hq f k cs
    exact ⟨e₂, a₂, w₂, hq₂, .of_steps (Steps.trans harr (.one step_inLoop)) harr₂⟩
  | exit n => exact ⟨_, a₁, w₁, hq, .pass (x := .inLoop x) rfl (fun _ _ => .inl (by simp)) harr⟩
  | goto n => exact ⟨_, a₁, w₁, hq, .pass (x := .inLoop x) rfl (fun _ _ => .inl (by simp)) harr⟩
  | ret => exact ⟨_, a₁, w₁, hq, .pass (x := .inLoop x) rfl (fun _ _ => .inl (by simp)) harr⟩
  | panic ch => exact ⟨_, a₁, w₁, hq, .pass (x := .inLoop x) rfl (fun _ _ => .inl (by simp)) harr⟩
  | outgrown => exact ⟨_, a₁, w₁, hq, .pass (x := .inLoop x) rfl (fun _ _ => .inl (by simp)) harr⟩
def AgainOk (P : Program) (G : List Nat) (again : Code → Act → Mem → Option (Way × Act × Mem)) : Prop := ∀ x b H e b' H', again (.loop x) b H = some (e, b', H') → ∀ R : Exit → Act → Mem → Prop, R e.of b' H' → DL P G x R b H
theorem evC_ok {again : Code → Act → Mem → Option (Way × Act × Mem)} {call : CallF} (ha : AgainOk P G again) (hc : CallOk P G call) : ∀ (c : Code) (b : Act) (H : Mem) (e : Way) (b' : Act) (H' : Mem), evC P G again call c b H = some (e, b', H') → ∀ R : Exit → Act → Mem → Prop, R e.of b' H' →
    D P G c R b H ∧ ∀ x, c = .loop x → DL P G x R b H := by
  intro c
  induction c with
  | skip => intro b H e b' H' h R hR; cases h; exact ⟨.skip hR, fun x h => by cases h⟩
  | label l => intro b H e b' H' h R hR; cases h; exact ⟨.label hR, fun x h => by cases h⟩
  | region id ops draw =>
    intro b H e b' H' h R hR
    refine ⟨?_, fun x h => by cases h⟩
    simp only [evC] at h
    split at h
    · rename_i hd
      split at h
      · rename_i hp
        simp only [Bool.and_eq_true] at hp
        obtain ⟨r, h1, h2⟩ := map_eq_some h
        cases h2
        obtain ⟨rb, rH⟩ := r
        rw [hd]
        exact D.regionDraw hp.1 (.of hp.2) (evOrd_ok hc _ _ _ _ _ _ h1 hR)
      · cases h
    · rename_i hd
      split at h
      · rename_i hp
        obtain ⟨r, h1, h2⟩ := map_eq_some h
        cases h2
        obtain ⟨rb, rH⟩ := r
        have hd : draw = false := by simpa using hd
        rw [hd]
        exact D.region hp (evOps_ok hc _ _ _ _ _ h1 hR)
      · cases h
  | seq x y ihx ihy =>
    intro b H e b' H' h R hR
    refine ⟨?_, fun x h => by cases h⟩
    simp only [evC] at h
    split at h
    · rename_i b1 H1 h1
      exact D.seq (ihx b H .normal b1 H1 h1 _ (ihy b1 H1 e b' H' h R hR).1).1
    · rename_i hn
      refine D.seq (ihx b H e b' H' h _ ?_).1
      cases e with
      | normal => exact absurd h (hn b' H')
      | exit n => exact hR
      | ret => exact hR
  | cond x s t ihs iht =>
    intro b H e b' H' h R hR
    refine ⟨?_, fun x h => by cases h⟩
    simp only [evC] at h
    split at h
    · rename_i hok
      split at h
      · rename_i hx; exact D.cond hok hx (ihs b H e b' H' h R hR).1
      · rename_i hx; exact D.cond hok hx (iht b H e b' H' h R hR).1
      · cases h
    · cases h
  | block n x ih =>
    intro b H e b' H' h R hR
    refine ⟨?_, fun x h => by cases h⟩
    simp only [evC] at h
    split at h
    · rename_i m b1 H1 h1
      split at h
      · rename_i hm
        cases h
        exact D.block (ih b H (.exit m) _ _ h1 _ (by simp only [Way.of, blockD, if_pos hm]; exact hR)).1
      · rename_i hm
        cases h
        exact D.block (ih b H (.exit m) _ _ h1 _ (by simp only [Way.of, blockD, if_neg hm]; exact hR)).1
    · rename_i hn
      refine D.block (ih b H e b' H' h _ ?_).1
      cases e with
      | normal => exact hR
      | exit m => exact absurd h (hn m b' H')
      | ret => exact hR
  | loop x ih =>
    intro b H e b' H' h R hR
    have key : DL P G x R b H := by
      simp only [evC] at h
      split at h
      · rename_i b1 H1 h1
        exact DL.one (ih b H .normal b1 H1 h1 _ (ha x b1 H1 e b' H' h R hR)).1
      · rename_i hn
        refine DL.one (ih b H e b' H' h _ ?_).1
        cases e with
        | normal => exact absurd h (hn b' H')
        | exit n => exact hR
        | ret => exact hR
    exact ⟨.loopIn key, fun y hy => by cases hy; exact key⟩
  | exit n => intro b H e b' H' h R hR; cases h; exact ⟨.exit hR, fun x h => by cases h⟩
  | ret => intro b H e b' H' h R hR; cases h; exact ⟨.ret hR, fun x h => by cases h⟩
  | rangeFunc f params assign body => intro b H e b' H' h; cases h
  | scope x => intro b H e b' H' h; cases h
  | goto l => intro b H e b' H' h; cases h
  | refuse why => intro b H e b' H' h; cases h
theorem ev_ok : ∀ n : Nat, (∀ (c : Code) (b : Act) (H : Mem) (e : Way) (b' : Act) (H' : Mem), ev P G n c b H = some (e, b', H') → ∀ R : Exit → Act → Mem → Prop, R e.of b' H' → D P G c R b H ∧ ∀ x, c = .loop x → DL P G x R b H) ∧ CallOk P G (evF P G n)
  | 0 => ⟨fun c b H e b' H' h => by simp [ev] at h, fun f args H v H' h => by simp [evF] at h⟩
  | n + 1 => by
    obtain ⟨ih1, ih2⟩ := ev_ok n
    refine ⟨fun c b H e b' H' h R hR => ?_, fun f args H v H' h => ?_⟩
    · rw [ev] at h
      exact evC_ok (fun x b H e b' H' h R hR => (ih1 _ b H e b' H' h R hR).2 x rfl) ih2 c b H e b' H' h R hR
    · rw [evF] at h
      split at h
      · rename_i fn hf
        split at h
        · rename_i c hb
          split at h
          · rename_i b1 H1 h1
            obtain ⟨v1, h2, h3⟩ := map_eq_some h
            cases h3
            exact FSem.of hf hb (ih1 c _ H .normal b1 _ h1 _ ⟨.inl rfl, _, h2, rfl, rfl⟩).1
          · rename_i b1 H1 h1
            obtain ⟨v1, h2, h3⟩ := map_eq_some h
            cases h3
            exact FSem.of hf hb (ih1 c _ H .ret b1 _ h1 _ ⟨.inr rfl, _, h2, rfl, rfl⟩).1
          · cases h
        · cases h
      · cases h
theorem FSem.run {n : Nat} {f : FuncId} {args : Array Value} (h : evF P G n f args H = some (v, H')) : FSem P G f args H fun u H'' => u = v ∧ H'' = H' := (ev_ok n).2 f args H v H' h
end
end Go.Den
namespace Go.Den
open Go
set_option linter.unusedVariables false
set_option linter.unusedSimpArgs false
section
variable {P : Program} {G : List Nat} {φ : Ren} {H H' : Mem} {w : World} {o : Oper} {v : Value} {ops : Array Oper} {b b' : Act} {R : Exit → Act → Mem → Prop} {Q : Act → Mem → Prop}
abbrev noCall : CallF := fun _ _ _ => none
theorem noCall_ok : CallOk P G noCall := fun f args H v H' h => by cases h
theorem dops_run {rest : List Nat} : ∀ (is : List Nat) (b : Act) (H : Mem) (b' : Act) (H' : Mem), evOps P noCall ops is b H = some (b', H') → DOps P G ops Q rest b' H' → DOps P G ops Q (is ++ rest) b H
  | [], b, H, b', H', h, k => by cases h; exact k
  | i :: is, b, H, b', H', h, k => by
    simp only [evOps] at h
    simp only [List.cons_append, DOps]
    cases ho : ops[i]? with
    | none => rw [ho] at h; exact dops_run is b H b' H' h k
    | some o =>
      rw [ho] at h
      simp only at h ⊢
      split
      · rename_i hw
        rw [if_pos hw] at h
        split at h
        · rename_i v H1 he
          exact evOp_ok noCall_ok he (dops_run is _ _ b' H' h k)
        · cases h
      · rename_i hw
        rw [if_neg hw] at h
        exact dops_run is _ _ b' H' h k
theorem dops_call {i : Nat} {rest : List Nat} {f : FuncId} {args : Array Value} (ho : ops[i]? = some o) (hw : Region.wanted o (yielded ops b.tmps) = true) (hc : absCall P b.eval o = some (f, args))
    (h : FSem P G f args H fun v H' => DOps P G ops Q rest (b.put o.dst v) H') : DOps P G ops Q (i :: rest) b H := by
  simp only [DOps, ho, hw, if_true]
  exact .inr ⟨f, args, hc, h⟩
theorem dord_skip {ds cs : List Nat} {c : Nat} (ho : ops[c]? = some o) (hw : Region.wanted o (yielded ops b.tmps) = false) (k : DOrd P G ops Q (ds ++ [c]) cs (b.put o.dst undef) H) : DOrd P G ops Q ds (c :: cs) b H := by
  simp only [DOrd, ho, hw, Bool.false_eq_true, if_false]
  exact k
theorem dord_eff {ds cs : List Nat} {c : Nat} {r : Value × Mem} (ho : ops[c]? = some o) (hw : Region.wanted o (yielded ops b.tmps) = true) (he : eff o.op = true) (h : absOp P b.eval H o = some r) (hl : ds.all (lagB P ops c (b.put o.dst r.1) r.2) = true)
    (k : DOrd P G ops Q (ds ++ [c]) cs (b.put o.dst r.1) r.2) : DOrd P G ops Q ds (c :: cs) b H := by
  simp only [DOrd, ho, hw, he, if_true]
  exact .inl ⟨r.1, r.2, h, fun i hi => lagB_ok (List.all_eq_true.1 hl i hi), k⟩
theorem dord_call {ds cs : List Nat} {c : Nat} {f : FuncId} {args : Array Value} (ho : ops[c]? = some o) (hw : Region.wanted o (yielded ops b.tmps) = true) (he : eff o.op = true) (hc : absCall P b.eval o = some (f, args))
    (h : FSem P G f args H fun v H' => ds.all (lagB P ops c (b.put o.dst v) H') = true ∧ DOrd P G ops Q (ds ++ [c]) cs (b.put o.dst v) H') : DOrd P G ops Q ds (c :: cs) b H := by
  simp only [DOrd, ho, hw, he, if_true]
  exact .inr ⟨f, args, hc, h.mono fun v H' ⟨h1, h2⟩ => ⟨fun i hi => lagB_ok (List.all_eq_true.1 h1 i hi), h2⟩⟩
theorem D.test {x : Operand} {s t : Code} {r : Bool} (hok : okOperand G x = true) (hx : b.eval x = .bool r) (h1 : r = true → D P G s R b H) (h2 : r = false → D P G t R b H) : D P G (.cond x s t) R b H := by
  refine D.cond hok hx ?_
  cases r
  · exact h2 rfl
  · exact h1 rfl
end
end Go.Den
namespace Go.Den
section
variable {P : Program} {G : List Nat} {H H' : Mem} {o : Oper} {v : Value} {ops : Array Oper} {b b' : Act} {R : Exit → Act → Mem → Prop} {Q : Act → Mem → Prop}
theorem dops_split {t : Nat} {r : Bool} {l : List Nat} (hx : b.eval (.tmp t) = .bool r) (h1 : r = true → DOps P G ops Q l b H) (h2 : r = false → DOps P G ops Q l b H) : DOps P G ops Q l b H := by
  cases hr : r
  · exact h2 hr
  · exact h1 hr
theorem dord_split {t : Nat} {r : Bool} {ds cs : List Nat} (hx : b.eval (.tmp t) = .bool r) (h1 : r = true → DOrd P G ops Q ds cs b H) (h2 : r = false → DOrd P G ops Q ds cs b H) : DOrd P G ops Q ds cs b H := by
  cases hr : r
  · exact h2 hr
  · exact h1 hr
end
end Go.Den
namespace Go.Den
theorem D.from {P : Program} {G : List Nat} {H : Mem} {b b' : Act} {c : Code} {R : Exit → Act → Mem → Prop} (e : b = b') (h : D P G c R b' H) : D P G c R b H := e ▸ h
end Go.Den
namespace Go.Den
open Go
set_option linter.unusedVariables false
section
variable {P : Program} {G : List Nat} {φ : Ren} {H H' : Mem}
def plainT : Value → Bool
  | .tuple vs => vs.toList.all plainV
  | v => plainV v
theorem VRel.plainT {v : Value} (h : plainT v = true) : VRel φ v v := by
  unfold Den.plainT at h
  split at h
  · rename_i vs
    refine .tuple rfl fun i v u hv hu => ?_
    rw [hv] at hu; cases hu
    exact .plain (List.all_eq_true.1 h _ (Array.mem_toList_iff.2 (Array.mem_of_getElem? hv)))
  · exact .plain h
theorem VRel.plainT_eq {x u : Value} (h : Den.plainT x = true) (hx : VRel φ x u) : u = x := by
  unfold Den.plainT at h
  split at h
  · rename_i vs
    cases hx with
    | flat hf => rfl
    | tuple hs hr =>
      rename_i xs'
      congr 1
      apply Array.ext hs.symm
      intro i hi hj
      exact VRel.plain_eq (List.all_eq_true.1 h _ (Array.mem_toList_iff.2 (Array.getElem_mem hj))) (hr i _ _ (Array.getElem?_eq_getElem hj) (Array.getElem?_eq_getElem hi))
  · exact hx.plain_eq h
theorem FSem.plainT {f : FuncId} {args : Array Value} {K : Value → Prop} (h : FSem P G f args H fun v H' => (∃ l, H' = H ++ l) ∧ plainT v = true ∧ K v) : FSem P G f args H fun v H' => K v ∧ H' = H := by
  intro φ args' w hS hA R' hR
  refine h φ args' w hS hA R' fun φ' v v' H' w' q1 q2 q3 q4 => ?_
  obtain ⟨⟨l, rfl⟩, hp, hk⟩ := q1
  have hv := q3.plainT_eq hp
  subst hv
  have hM : MRel φ H w' := by
    refine ⟨fun n l e => ⟨(hS.mem.dom n l e).1, Nat.lt_of_lt_of_le (hS.mem.dom n l e).2 q2.size⟩, fun n l' k e e' => ?_, hS.mem.inj⟩
    have hn := (hS.mem.dom n l' e).1
    exact (hS.mem.blk n l' k e e').same_loc q2.le (q4.mem.blk n l' k (q2.le _ _ e) (by rw [List.getElem?_append_left hn]; exact e'))
  refine hR φ v' v' H w' ⟨hk, rfl⟩ ⟨.refl φ, q2.size, Nat.le_refl _, fun _ _ x => x, q2.keep, fun _ _ x y => ⟨x, y⟩, q2.os, q2.out, q2.tape⟩ (VRel.plainT hp) (hS.of hM (.refl φ))
variable {o : Oper} {ops : Array Oper} {b b' : Act} {Q : Act → Mem → Prop}
def lookAll (ops : Array Oper) : List Nat → Bool
  | [] => true
  | i :: is => (match ops[i]? with | some o => !eff o.op | none => false) && lookAll ops is
theorem dord_run {rest : List Nat} : ∀ (is ds : List Nat) (b : Act) (H : Mem) (b' : Act) (H' : Mem), lookAll ops is = true → evOps P noCall ops is b H = some (b', H') → DOrd P G ops Q (ds ++ is) rest b' H' → DOrd P G ops Q ds (is ++ rest) b H
  | [], ds, b, H, b', H', _, h, k => by cases h; simpa using k
  | i :: is, ds, b, H, b', H', hl, h, k => by
    simp only [lookAll, Bool.and_eq_true] at hl
    simp only [evOps] at h
    simp only [List.cons_append, DOrd]
    cases ho : ops[i]? with
    | none => rw [ho] at hl; exact absurd hl.1 (by simp)
    | some o =>
      rw [ho] at h hl
      simp only at h hl ⊢
      have he : eff o.op = false := by simpa using hl.1
      have k' : DOrd P G ops Q ((ds ++ [i]) ++ is) rest b' H' := by simpa using k
      split
      · rename_i hw
        rw [if_pos hw] at h
        simp only [he, Bool.false_eq_true, if_false]
        split at h
        · rename_i v H1 hv
          refine ⟨v, H1, ?_, dord_run is _ _ _ b' H' hl.2 h k'⟩
          unfold evOp at hv
          split at hv
          · exact hv.symm ▸ (by assumption)
          · rename_i hn
            exfalso
            split at hv
            · simp [noCall] at hv
            · cases hv
        · cases h
      · rename_i hw
        rw [if_neg hw] at h
        exact dord_run is _ _ _ b' H' hl.2 h k'
theorem dord_one {ds cs : List Nat} {c : Nat} (ho : ops[c]? = some o) (hw : Region.wanted o (yielded ops b.tmps) = true) (he : eff o.op = true) (h : evOps P noCall ops [c] b H = some (b', H')) (hl : ds.all (lagB P ops c b' H') = true)
    (k : DOrd P G ops Q (ds ++ [c]) cs b' H') : DOrd P G ops Q ds (c :: cs) b H := by
  simp only [evOps, ho, hw, if_true] at h
  split at h
  · rename_i v H1 hv
    cases h
    unfold evOp at hv
    split at hv
    · rename_i r hr
      exact dord_eff ho hw he (hr.trans hv) hl k
    · exfalso
      split at hv
      · simp [noCall] at hv
      · cases hv
  · cases h
theorem dord_pass {ds cs : List Nat} {c : Nat} (ho : ops[c]? = some o) (hw : Region.wanted o (yielded ops b.tmps) = false) (hb : b.put o.dst undef = b') (k : DOrd P G ops Q (ds ++ [c]) cs b' H) : DOrd P G ops Q ds (c :: cs) b H := dord_skip ho hw (hb ▸ k)
def lagMay (ops : Array Oper) (c i : Nat) : Bool := match ops[i]? with | some o => looks o.op && memOp o.op && !bef ops c i | none => false
theorem lag_list {ds l : List Nat} {c : Nat} (hl : ds.filter (lagMay ops c) = l) (h : l.all (lagB P ops c b H) = true) : ds.all (lagB P ops c b H) = true := by
  rw [List.all_eq_true] at h ⊢
  intro i hi
  by_cases hm : lagMay ops c i = true
  · exact h i (hl ▸ List.mem_filter.2 ⟨hi, hm⟩)
  · unfold lagMay at hm
    unfold lagB
    split
    · rfl
    · rename_i o ho
      rw [ho] at hm
      simp only [Bool.not_eq_true] at hm
      simp only [hm, Bool.false_and, Bool.false_eq_true, if_false]
theorem lag_cons {i c : Nat} {l : List Nat} (h : lagB P ops c b H i = true) (hl : l.all (lagB P ops c b H) = true) : (i :: l).all (lagB P ops c b H) = true := by
  simp only [List.all_cons, h, hl, Bool.and_self]
theorem lag_one {i c d : Nat} {u : Value} {H1 : Mem} (ho : ops[i]? = some o) (h : absOp P b.eval H o = some (u, H1)) (hd : o.dst = some d) (hlt : d < b.tmps.size) (hs : sameV u (b.tmps.getD d undef) = true) (hq : convQuiet P o.op = true) : lagB P ops c b H i = true := by
  unfold lagB
  simp only [ho, h, hd, hs, hq, decide_eq_true hlt, Bool.and_self, ite_self]
structure WK (P : Program) (G : List Nat) (ops : Array Oper) (Q : Act → Mem → Prop) (is : List Nat) (b : Act) (H : Mem) : Prop where
  out : DOps P G ops Q is b H
structure XK (P : Program) (G : List Nat) (ops : Array Oper) (Q : Act → Mem → Prop) (ds is : List Nat) (b : Act) (H : Mem) : Prop where
  out : DOrd P G ops Q ds is b H
structure DK (P : Program) (G : List Nat) (c : Code) (R : Exit → Act → Mem → Prop) (b : Act) (H : Mem) : Prop where
  out : D P G c R b H
variable {R : Exit → Act → Mem → Prop}
theorem DK.region {id : Nat} {is : List Nat} (hok : okOps P G ops = true) (hi : List.range ops.size = is) (h : WK P G ops (R .normal) is b H) : DK P G (.region id ops false) R b H := ⟨D.region hok (hi ▸ h.out)⟩
theorem DK.draw {id : Nat} {ord : List Nat} (hm : P.follows .mixedOrders = true) (hP : POk P G ops ord) (h : XK P G ops (R .normal) [] ord b H) : DK P G (.region id ops true) R b H := ⟨D.regionDraw hm hP h.out⟩
theorem DK.seq {x y : Code} (h : DK P G x (thenD (DK P G y R) R) b H) : DK P G (.seq x y) R b H := by
  have e : thenD (DK P G y R) R = thenD (D P G y R) R := by
    have : DK P G y R = D P G y R := by funext b H; exact propext ⟨fun h => h.out, fun h => ⟨h⟩⟩
    rw [this]
  exact ⟨D.seq (e ▸ h.out)⟩
theorem DK.skip (h : R .normal b H) : DK P G .skip R b H := ⟨D.skip h⟩
theorem DK.ret (h : R .ret b H) : DK P G .ret R b H := ⟨D.ret h⟩
theorem DK.exit {n : Nat} (h : R (.exit n) b H) : DK P G (.exit n) R b H := ⟨D.exit h⟩
theorem DK.label {n : Nat} (h : R .normal b H) : DK P G (.label n) R b H := ⟨D.label h⟩
theorem DK.block {n : Nat} {x : Code} (h : DK P G x (blockD n R) b H) : DK P G (.block n x) R b H := ⟨D.block h.out⟩
theorem DK.cond {x : Operand} {s t : Code} {r : Bool} (hok : okOperand G x = true) (hx : b.eval x = .bool r) (h : DK P G (if r then s else t) R b H) : DK P G (.cond x s t) R b H := ⟨D.cond hok hx h.out⟩
theorem DK.yes {x : Operand} {s t : Code} (hok : okOperand G x = true) (hx : b.eval x = .bool true) (h : DK P G s R b H) : DK P G (.cond x s t) R b H := DK.cond hok hx h
theorem DK.no {x : Operand} {s t : Code} (hok : okOperand G x = true) (hx : b.eval x = .bool false) (h : DK P G t R b H) : DK P G (.cond x s t) R b H := DK.cond hok hx h
theorem DK.test {x : Operand} {s t : Code} {r : Bool} (hok : okOperand G x = true) (hx : b.eval x = .bool r) (h1 : r = true → DK P G s R b H) (h2 : r = false → DK P G t R b H) : DK P G (.cond x s t) R b H := ⟨D.test hok hx (fun e => (h1 e).out) (fun e => (h2 e).out)⟩
theorem DK.loop {c : Code} (I : Nat → Act → Mem → Prop) (n : Nat) (h : I n b H) (round : ∀ n b H, I n b H → DK P G c (thenD (fun b' H' => ∃ m, m < n ∧ I m b' H') R) b H) : DK P G (.loop c) R b H := ⟨D.loop I n h fun n b H i => (round n b H i).out⟩
theorem DK.from (e : b = b') {c : Code} (h : DK P G c R b' H) : DK P G c R b H := e ▸ h
theorem FSem.ofK {f : FuncId} {fn : Func} {c : Code} {args : Array Value} {K : Value → Mem → Prop} (hf : P.funcs[f]? = some fn) (hb : fn.body = some c)
    (h : DK P G c (fun e b H' => (e = .normal ∨ e = .ret) ∧ ∃ v, absAnswer P fn b H' = some v ∧ K v H') { tmps := args ++ Array.replicate (fn.ntmps - args.size) undef, defers := [] } H) : FSem P G f args H K := FSem.of hf hb h.out
theorem WK.run {rest : List Nat} (is : List Nat) (h : evOps P noCall ops is b H = some (b', H')) (k : WK P G ops Q rest b' H') : WK P G ops Q (is ++ rest) b H := ⟨dops_run is b H b' H' h k.out⟩
theorem WK.call {i : Nat} {rest : List Nat} {f : FuncId} {args : Array Value} (ho : ops[i]? = some o) (hw : Region.wanted o (yielded ops b.tmps) = true) (hc : absCall P b.eval o = some (f, args))
    (h : FSem P G f args H fun v H' => WK P G ops Q rest (b.put o.dst v) H') : WK P G ops Q (i :: rest) b H := ⟨dops_call ho hw hc (h.mono fun _ _ k => k.out)⟩
theorem WK.nil (h : Q b H) : WK P G ops Q [] b H := ⟨h⟩
theorem WK.split {t : Nat} {r : Bool} {l : List Nat} (hx : b.eval (.tmp t) = .bool r) (h1 : r = true → WK P G ops Q l b H) (h2 : r = false → WK P G ops Q l b H) : WK P G ops Q l b H := ⟨dops_split hx (fun e => (h1 e).out) (fun e => (h2 e).out)⟩
theorem XK.run {ds rest : List Nat} (is : List Nat) (hl : lookAll ops is = true) (h : evOps P noCall ops is b H = some (b', H')) (k : XK P G ops Q (ds ++ is) rest b' H') : XK P G ops Q ds (is ++ rest) b H := ⟨dord_run is ds b H b' H' hl h k.out⟩
theorem XK.call {ds cs : List Nat} {c : Nat} {f : FuncId} {args : Array Value} (ho : ops[c]? = some o) (hw : Region.wanted o (yielded ops b.tmps) = true) (he : eff o.op = true) (hc : absCall P b.eval o = some (f, args))
    (h : FSem P G f args H fun v H' => ds.all (lagB P ops c (b.put o.dst v) H') = true ∧ XK P G ops Q (ds ++ [c]) cs (b.put o.dst v) H') : XK P G ops Q ds (c :: cs) b H := ⟨dord_call ho hw he hc (h.mono fun _ _ k => ⟨k.1, k.2.out⟩)⟩
theorem XK.one {ds cs : List Nat} {c : Nat} (ho : ops[c]? = some o) (hw : Region.wanted o (yielded ops b.tmps) = true) (he : eff o.op = true) (h : evOps P noCall ops [c] b H = some (b', H')) (hl : ds.all (lagB P ops c b' H') = true)
    (k : XK P G ops Q (ds ++ [c]) cs b' H') : XK P G ops Q ds (c :: cs) b H := ⟨dord_one ho hw he h hl k.out⟩
theorem XK.pass {ds cs : List Nat} {c : Nat} (ho : ops[c]? = some o) (hw : Region.wanted o (yielded ops b.tmps) = false) (hb : b.put o.dst undef = b') (k : XK P G ops Q (ds ++ [c]) cs b' H) : XK P G ops Q ds (c :: cs) b H := ⟨dord_pass ho hw hb k.out⟩
theorem XK.nil {ds : List Nat} (h : Q b H) : XK P G ops Q ds [] b H := ⟨h⟩
theorem XK.split {t : Nat} {r : Bool} {ds cs : List Nat} (hx : b.eval (.tmp t) = .bool r) (h1 : r = true → XK P G ops Q ds cs b H) (h2 : r = false → XK P G ops Q ds cs b H) : XK P G ops Q ds cs b H := ⟨dord_split hx (fun e => (h1 e).out) (fun e => (h2 e).out)⟩
end
end Go.Den
namespace Go.Den
open Go
set_option linter.unusedVariables false
section
variable {P : Program} {G : List Nat} {H H' : Mem} {b b' : Act} {R : Exit → Act → Mem → Prop}
def setL (b : Act) : List Nat → List Value → Act
  | m :: ms, v :: vs => setL ⟨b.tmps.setIfInBounds m v, b.defers⟩ ms vs
  | _, _ => b
def getL (b : Act) : List Nat → List Value
  | [] => []
  | m :: ms => b.tmps.getD m undef :: getL b ms
theorem DK.loopG {c : Code} (ms : List Nat) (J : Nat → List Value → Mem → Prop) (n : Nat) (hb : b = setL b ms (getL b ms)) (h : J n (getL b ms) H)
    (round : ∀ n vs H', J n vs H' → DK P G c (thenD (fun b' H'' => b' = setL b ms (getL b' ms) ∧ ∃ m, m < n ∧ J m (getL b' ms) H'') R) (setL b ms vs) H') : DK P G (.loop c) R b H := by
  refine DK.loop (fun n b' H' => ∃ vs, b' = setL b ms vs ∧ J n vs H') n ⟨_, hb, h⟩ ?_
  rintro n _ H' ⟨vs, rfl, hJ⟩
  have k := round n vs H' hJ
  refine ⟨fun φ a w hS hT Q' hQ => k.out φ a w hS hT Q' fun e b' H'' φ' a' w' q1 q2 q3 q4 => hQ e b' H'' φ' a' w' ?_ q2 q3 q4⟩
  cases e with
  | normal => obtain ⟨q, m, hm, hj⟩ := q1; exact ⟨m, hm, _, q, hj⟩
  | _ => exact q1
theorem DK.loopM {c : Code} (ms : List Nat) (J : Nat → List Value → Prop) (n : Nat) (hb : b = setL b ms (getL b ms)) (h : J n (getL b ms))
    (round : ∀ n vs, J n vs → DK P G c (thenD (fun b' H'' => b' = setL b ms (getL b' ms) ∧ H'' = H ∧ ∃ m, m < n ∧ J m (getL b' ms)) R) (setL b ms vs) H) : DK P G (.loop c) R b H := by
  refine DK.loopG ms (fun n vs H' => H' = H ∧ J n vs) n hb ⟨rfl, h⟩ ?_
  rintro n vs _ ⟨rfl, hJ⟩
  have k := round n vs hJ
  refine ⟨fun φ a w hS hT Q' hQ => k.out φ a w hS hT Q' fun e b' H'' φ' a' w' q1 q2 q3 q4 => hQ e b' H'' φ' a' w' ?_ q2 q3 q4⟩
  cases e with
  | normal => obtain ⟨q, hH, m, hm, hj⟩ := q1; exact ⟨q, m, hm, hH, hj⟩
  | _ => exact q1
theorem eq_t {a b : Int} (h : (a == b) = true) : a = b := by simpa using h
theorem eq_f {a b : Int} (h : (a == b) = false) : a ≠ b := by simpa using h
theorem ne_t {a b : Int} (h : (a != b) = true) : a ≠ b := by simpa using h
theorem ne_f {a b : Int} (h : (a != b) = false) : a = b := by simpa using h
theorem cells_agg (xs : Array Value) : (Value.agg xs).cells = xs := rfl
theorem cells_int (k : IntKind) (n : Int) : (Value.int k n).cells = #[.int k n] := rfl
theorem cells_bool (x : Bool) : (Value.bool x).cells = #[.bool x] := rfl
theorem cells_str (x : ByteArray) : (Value.string x).cells = #[.string x] := rfl
theorem cells_ptr (x : Option Addr) : (Value.pointer x).cells = #[.pointer x] := rfl
theorem cells_sl (x : Option Addr) (n c : Nat) : (Value.slice x n c).cells = #[.slice x n c] := rfl
theorem cells_map (x : Option Nat) : (Value.map x).cells = #[.map x] := rfl
theorem one_int (k : IntKind) (n : Int) : (Value.int k n).oneCell' = true := rfl
theorem one_bool (x : Bool) : (Value.bool x).oneCell' = true := rfl
theorem one_str (x : ByteArray) : (Value.string x).oneCell' = true := rfl
theorem one_ptr (x : Option Addr) : (Value.pointer x).oneCell' = true := rfl
theorem one_sl (x : Option Addr) (n c : Nat) : (Value.slice x n c).oneCell' = true := rfl
theorem one_map (x : Option Nat) : (Value.map x).oneCell' = true := rfl
theorem same1_int (j k : IntKind) (a b : Int) : same1 (.int j a) (.int k b) = (decide (j = k) && decide (a = b)) := rfl
theorem sameV_int (j k : IntKind) (a b : Int) : sameV (.int j a) (.int k b) = (decide (j = k) && decide (a = b)) := rfl
theorem same1_bool (a b : Bool) : same1 (.bool a) (.bool b) = (a == b) := rfl
theorem sameV_bool (a b : Bool) : sameV (.bool a) (.bool b) = (a == b) := rfl
theorem same1_str (a b : ByteArray) : same1 (.string a) (.string b) = (decide (a = b)) := rfl
theorem sameV_str (a b : ByteArray) : sameV (.string a) (.string b) = (decide (a = b)) := rfl
theorem same1_ptr (a b : Option Addr) : same1 (.pointer a) (.pointer b) = (decide (a = b)) := rfl
theorem sameV_ptr (a b : Option Addr) : sameV (.pointer a) (.pointer b) = (decide (a = b)) := rfl
theorem same1_sl (a b : Option Addr) (n n' c c' : Nat) : same1 (.slice a n c) (.slice b n' c') = (decide (a = b) && decide (n = n') && decide (c = c')) := rfl
theorem sameV_sl (a b : Option Addr) (n n' c c' : Nat) : sameV (.slice a n c) (.slice b n' c') = (decide (a = b) && decide (n = n') && decide (c = c')) := rfl
theorem same1_map (a b : Option Nat) : same1 (.map a) (.map b) = (decide (a = b)) := rfl
theorem sameV_map (a b : Option Nat) : sameV (.map a) (.map b) = (decide (a = b)) := rfl
theorem sameV_agg (xs ys : Array Value) : sameV (.agg xs) (.agg ys) = sameL xs.toList ys.toList := rfl
end
end Go.Den
namespace Go.Den
class Tr (b : Bool) (P : outParam Prop) : Prop where
  out : b = true → P
class Fa (b : Bool) (P : outParam Prop) : Prop where
  out : b = false → P
instance (priority := low) (b : Bool) : Tr b (b = true) := ⟨id⟩
instance (priority := low) (b : Bool) : Fa b (b = false) := ⟨id⟩
instance (p : Prop) [Decidable p] : Tr (decide p) p := ⟨of_decide_eq_true⟩
instance (p : Prop) [Decidable p] : Fa (decide p) (¬ p) := ⟨of_decide_eq_false⟩
instance (b : Bool) (P : Prop) [Fa b P] : Tr (!b) P := ⟨fun h => Fa.out ((Bool.not_eq_true' _).mp h)⟩
instance (b : Bool) (P : Prop) [Tr b P] : Fa (!b) P := ⟨fun h => Tr.out ((Bool.not_eq_false' _).mp h)⟩
instance (a b : Int) : Tr (a == b) (a = b) := ⟨eq_t⟩
instance (a b : Int) : Fa (a == b) (a ≠ b) := ⟨eq_f⟩
instance (a b : Int) : Tr (a != b) (a ≠ b) := ⟨ne_t⟩
instance (a b : Int) : Fa (a != b) (a = b) := ⟨ne_f⟩
end Go.Den
namespace Go.Den
open Go Go.Proofs
set_option maxRecDepth 100000
set_option linter.all false
noncomputable def I1 : TypeInfo := (Tryd.prog.info? 1).getD default
@[simp] theorem inf1 : Tryd.prog.info? 1 = some I1 := rfl
@[simp] theorem sz1 : I1.size = 1 := by kernel_rfl
@[simp] theorem ze1 : I1.zero = some (.nilFunc) := by kernel_rfl
attribute [simp] Tryd.underlying1
noncomputable def I2 : TypeInfo := (Tryd.prog.info? 2).getD default
@[simp] theorem inf2 : Tryd.prog.info? 2 = some I2 := rfl
@[simp] theorem sz2 : I2.size = 1 := by kernel_rfl
@[simp] theorem ze2 : I2.zero = some (.int .i64 0) := by kernel_rfl
attribute [simp] Tryd.underlying2
noncomputable def I3 : TypeInfo := (Tryd.prog.info? 3).getD default
@[simp] theorem inf3 : Tryd.prog.info? 3 = some I3 := rfl
@[simp] theorem sz3 : I3.size = 1 := by kernel_rfl
@[simp] theorem ze3 : I3.zero = some (.int .i64 0) := by kernel_rfl
attribute [simp] Tryd.underlying3
noncomputable def I4 : TypeInfo := (Tryd.prog.info? 4).getD default
@[simp] theorem inf4 : Tryd.prog.info? 4 = some I4 := rfl
@[simp] theorem sz4 : I4.size = 1 := by kernel_rfl
@[simp] theorem ze4 : I4.zero = some (.bool false) := by kernel_rfl
attribute [simp] Tryd.underlying4
noncomputable def I5 : TypeInfo := (Tryd.prog.info? 5).getD default
@[simp] theorem inf5 : Tryd.prog.info? 5 = some I5 := rfl
@[simp] theorem sz5 : I5.size = 1 := by kernel_rfl
@[simp] theorem ze5 : I5.zero = some (.int .u8 0) := by kernel_rfl
attribute [simp] Tryd.underlying5
noncomputable def I6 : TypeInfo := (Tryd.prog.info? 6).getD default
@[simp] theorem inf6 : Tryd.prog.info? 6 = some I6 := rfl
@[simp] theorem sz6 : I6.size = 1 := by kernel_rfl
@[simp] theorem ze6 : I6.zero = some (.int .u8 0) := by kernel_rfl
attribute [simp] Tryd.underlying6
noncomputable def I7 : TypeInfo := (Tryd.prog.info? 7).getD default
@[simp] theorem inf7 : Tryd.prog.info? 7 = some I7 := rfl
@[simp] theorem sz7 : I7.size = 4 := by kernel_rfl
@[simp] theorem ze7 : I7.zero = some (.agg #[.int .i64 0, .int .i64 0, .bool false, .int .u8 0]) := by kernel_rfl
attribute [simp] Tryd.underlying7
noncomputable def I8 : TypeInfo := (Tryd.prog.info? 8).getD default
@[simp] theorem inf8 : Tryd.prog.info? 8 = some I8 := rfl
@[simp] theorem sz8 : I8.size = 4 := by kernel_rfl
@[simp] theorem ze8 : I8.zero = some (.agg #[.int .i64 0, .int .i64 0, .bool false, .int .u8 0]) := by kernel_rfl
attribute [simp] Tryd.underlying8
noncomputable def I9 : TypeInfo := (Tryd.prog.info? 9).getD default
@[simp] theorem inf9 : Tryd.prog.info? 9 = some I9 := rfl
@[simp] theorem sz9 : I9.size = 1 := by kernel_rfl
@[simp] theorem ze9 : I9.zero = some (.string ⟨#[]⟩) := by kernel_rfl
attribute [simp] Tryd.underlying9
noncomputable def I10 : TypeInfo := (Tryd.prog.info? 10).getD default
@[simp] theorem inf10 : Tryd.prog.info? 10 = some I10 := rfl
@[simp] theorem sz10 : I10.size = 1 := by kernel_rfl
@[simp] theorem ze10 : I10.zero = some (.string ⟨#[]⟩) := by kernel_rfl
attribute [simp] Tryd.underlying10
noncomputable def I11 : TypeInfo := (Tryd.prog.info? 11).getD default
@[simp] theorem inf11 : Tryd.prog.info? 11 = some I11 := rfl
@[simp] theorem sz11 : I11.size = 1 := by kernel_rfl
@[simp] theorem ze11 : I11.zero = some (.string ⟨#[]⟩) := by kernel_rfl
attribute [simp] Tryd.underlying11
noncomputable def I12 : TypeInfo := (Tryd.prog.info? 12).getD default
@[simp] theorem inf12 : Tryd.prog.info? 12 = some I12 := rfl
@[simp] theorem sz12 : I12.size = 1 := by kernel_rfl
@[simp] theorem ze12 : I12.zero = some (.int .u64 0) := by kernel_rfl
attribute [simp] Tryd.underlying12
noncomputable def I13 : TypeInfo := (Tryd.prog.info? 13).getD default
@[simp] theorem inf13 : Tryd.prog.info? 13 = some I13 := rfl
@[simp] theorem sz13 : I13.size = 2 := by kernel_rfl
@[simp] theorem ze13 : I13.zero = some (.agg #[.string ⟨#[]⟩, .int .u64 0]) := by kernel_rfl
attribute [simp] Tryd.underlying13
noncomputable def I14 : TypeInfo := (Tryd.prog.info? 14).getD default
@[simp] theorem inf14 : Tryd.prog.info? 14 = some I14 := rfl
@[simp] theorem sz14 : I14.size = 2 := by kernel_rfl
@[simp] theorem ze14 : I14.zero = some (.agg #[.string ⟨#[]⟩, .int .u64 0]) := by kernel_rfl
attribute [simp] Tryd.underlying14
noncomputable def I15 : TypeInfo := (Tryd.prog.info? 15).getD default
@[simp] theorem inf15 : Tryd.prog.info? 15 = some I15 := rfl
@[simp] theorem sz15 : I15.size = 1 := by kernel_rfl
@[simp] theorem ze15 : I15.zero = some (.pointer none) := by kernel_rfl
attribute [simp] Tryd.underlying15
noncomputable def I16 : TypeInfo := (Tryd.prog.info? 16).getD default
@[simp] theorem inf16 : Tryd.prog.info? 16 = some I16 := rfl
@[simp] theorem sz16 : I16.size = 1 := by kernel_rfl
@[simp] theorem ze16 : I16.zero = some (.pointer none) := by kernel_rfl
attribute [simp] Tryd.underlying16
noncomputable def I17 : TypeInfo := (Tryd.prog.info? 17).getD default
@[simp] theorem inf17 : Tryd.prog.info? 17 = some I17 := rfl
@[simp] theorem sz17 : I17.size = 1 := by kernel_rfl
@[simp] theorem ze17 : I17.zero = some (.pointer none) := by kernel_rfl
attribute [simp] Tryd.underlying17
noncomputable def I18 : TypeInfo := (Tryd.prog.info? 18).getD default
@[simp] theorem inf18 : Tryd.prog.info? 18 = some I18 := rfl
@[simp] theorem sz18 : I18.size = 1 := by kernel_rfl
@[simp] theorem ze18 : I18.zero = some (.agg #[.pointer none]) := by kernel_rfl
attribute [simp] Tryd.underlying18
noncomputable def I19 : TypeInfo := (Tryd.prog.info? 19).getD default
@[simp] theorem inf19 : Tryd.prog.info? 19 = some I19 := rfl
@[simp] theorem sz19 : I19.size = 1 := by kernel_rfl
@[simp] theorem ze19 : I19.zero = some (.agg #[.pointer none]) := by kernel_rfl
attribute [simp] Tryd.underlying19
noncomputable def I20 : TypeInfo := (Tryd.prog.info? 20).getD default
@[simp] theorem inf20 : Tryd.prog.info? 20 = some I20 := rfl
@[simp] theorem sz20 : I20.size = 1 := by kernel_rfl
@[simp] theorem ze20 : I20.zero = some (.nilIface) := by kernel_rfl
attribute [simp] Tryd.underlying20
noncomputable def I21 : TypeInfo := (Tryd.prog.info? 21).getD default
@[simp] theorem inf21 : Tryd.prog.info? 21 = some I21 := rfl
@[simp] theorem sz21 : I21.size = 1 := by kernel_rfl
@[simp] theorem ze21 : I21.zero = some (.int .i32 0) := by kernel_rfl
attribute [simp] Tryd.underlying21
noncomputable def I22 : TypeInfo := (Tryd.prog.info? 22).getD default
@[simp] theorem inf22 : Tryd.prog.info? 22 = some I22 := rfl
@[simp] theorem sz22 : I22.size = 1 := by kernel_rfl
@[simp] theorem ze22 : I22.zero = some (.int .u32 0) := by kernel_rfl
attribute [simp] Tryd.underlying22
noncomputable def I23 : TypeInfo := (Tryd.prog.info? 23).getD default
@[simp] theorem inf23 : Tryd.prog.info? 23 = some I23 := rfl
@[simp] theorem sz23 : I23.size = 1 := by kernel_rfl
@[simp] theorem ze23 : I23.zero = some (.slice none 0 0) := by kernel_rfl
attribute [simp] Tryd.underlying23
noncomputable def I24 : TypeInfo := (Tryd.prog.info? 24).getD default
@[simp] theorem inf24 : Tryd.prog.info? 24 = some I24 := rfl
@[simp] theorem sz24 : I24.size = 1 := by kernel_rfl
@[simp] theorem ze24 : I24.zero = some (.slice none 0 0) := by kernel_rfl
attribute [simp] Tryd.underlying24
noncomputable def I25 : TypeInfo := (Tryd.prog.info? 25).getD default
@[simp] theorem inf25 : Tryd.prog.info? 25 = some I25 := rfl
@[simp] theorem sz25 : I25.size = 1 := by kernel_rfl
@[simp] theorem ze25 : I25.zero = some (.nilFunc) := by kernel_rfl
attribute [simp] Tryd.underlying25
noncomputable def I26 : TypeInfo := (Tryd.prog.info? 26).getD default
@[simp] theorem inf26 : Tryd.prog.info? 26 = some I26 := rfl
@[simp] theorem sz26 : I26.size = 1 := by kernel_rfl
@[simp] theorem ze26 : I26.zero = some (.slice none 0 0) := by kernel_rfl
attribute [simp] Tryd.underlying26
noncomputable def I27 : TypeInfo := (Tryd.prog.info? 27).getD default
@[simp] theorem inf27 : Tryd.prog.info? 27 = some I27 := rfl
@[simp] theorem sz27 : I27.size = 1 := by kernel_rfl
@[simp] theorem ze27 : I27.zero = some (.slice none 0 0) := by kernel_rfl
attribute [simp] Tryd.underlying27
noncomputable def I28 : TypeInfo := (Tryd.prog.info? 28).getD default
@[simp] theorem inf28 : Tryd.prog.info? 28 = some I28 := rfl
@[simp] theorem sz28 : I28.size = 1 := by kernel_rfl
@[simp] theorem ze28 : I28.zero = some (.slice none 0 0) := by kernel_rfl
attribute [simp] Tryd.underlying28
noncomputable def I29 : TypeInfo := (Tryd.prog.info? 29).getD default
@[simp] theorem inf29 : Tryd.prog.info? 29 = some I29 := rfl
@[simp] theorem sz29 : I29.size = 5 := by kernel_rfl
@[simp] theorem ze29 : I29.zero = some (.agg #[.int .i64 0, .int .i64 0, .int .i64 0, .int .i64 0, .int .i64 0]) := by kernel_rfl
attribute [simp] Tryd.underlying29
noncomputable def I30 : TypeInfo := (Tryd.prog.info? 30).getD default
@[simp] theorem inf30 : Tryd.prog.info? 30 = some I30 := rfl
@[simp] theorem sz30 : I30.size = 5 := by kernel_rfl
@[simp] theorem ze30 : I30.zero = some (.agg #[.int .i64 0, .int .i64 0, .int .i64 0, .int .i64 0, .int .i64 0]) := by kernel_rfl
attribute [simp] Tryd.underlying30
noncomputable def I31 : TypeInfo := (Tryd.prog.info? 31).getD default
@[simp] theorem inf31 : Tryd.prog.info? 31 = some I31 := rfl
@[simp] theorem sz31 : I31.size = 13 := by kernel_rfl
@[simp] theorem ze31 : I31.zero = some (.agg #[.int .u8 0, .int .i64 0, .int .i64 0, .int .i64 0, .int .i64 0, .int .i64 0, .bool false, .slice none 0 0, .int .i64 0, .int .i64 0, .int .i64 0, .int .i64 0, .int .i64 0]) := by kernel_rfl
attribute [simp] Tryd.underlying31
noncomputable def I32 : TypeInfo := (Tryd.prog.info? 32).getD default
@[simp] theorem inf32 : Tryd.prog.info? 32 = some I32 := rfl
@[simp] theorem sz32 : I32.size = 13 := by kernel_rfl
@[simp] theorem ze32 : I32.zero = some (.agg #[.int .u8 0, .int .i64 0, .int .i64 0, .int .i64 0, .int .i64 0, .int .i64 0, .bool false, .slice none 0 0, .int .i64 0, .int .i64 0, .int .i64 0, .int .i64 0, .int .i64 0]) := by kernel_rfl
attribute [simp] Tryd.underlying32
noncomputable def I33 : TypeInfo := (Tryd.prog.info? 33).getD default
@[simp] theorem inf33 : Tryd.prog.info? 33 = some I33 := rfl
@[simp] theorem sz33 : I33.size = 416 := by kernel_rfl
attribute [simp] Tryd.underlying33
noncomputable def I34 : TypeInfo := (Tryd.prog.info? 34).getD default
@[simp] theorem inf34 : Tryd.prog.info? 34 = some I34 := rfl
@[simp] theorem sz34 : I34.size = 418 := by kernel_rfl
attribute [simp] Tryd.underlying34
noncomputable def I35 : TypeInfo := (Tryd.prog.info? 35).getD default
@[simp] theorem inf35 : Tryd.prog.info? 35 = some I35 := rfl
@[simp] theorem sz35 : I35.size = 418 := by kernel_rfl
attribute [simp] Tryd.underlying35
noncomputable def I36 : TypeInfo := (Tryd.prog.info? 36).getD default
@[simp] theorem inf36 : Tryd.prog.info? 36 = some I36 := rfl
@[simp] theorem sz36 : I36.size = 1 := by kernel_rfl
@[simp] theorem ze36 : I36.zero = some (.nilFunc) := by kernel_rfl
attribute [simp] Tryd.underlying36
noncomputable def I37 : TypeInfo := (Tryd.prog.info? 37).getD default
@[simp] theorem inf37 : Tryd.prog.info? 37 = some I37 := rfl
@[simp] theorem sz37 : I37.size = 1 := by kernel_rfl
@[simp] theorem ze37 : I37.zero = some (.slice none 0 0) := by kernel_rfl
attribute [simp] Tryd.underlying37
noncomputable def I38 : TypeInfo := (Tryd.prog.info? 38).getD default
@[simp] theorem inf38 : Tryd.prog.info? 38 = some I38 := rfl
@[simp] theorem sz38 : I38.size = 7 := by kernel_rfl
@[simp] theorem ze38 : I38.zero = some (.agg #[.int .u8 0, .int .i64 0, .int .i64 0, .int .i64 0, .int .i64 0, .bool false, .slice none 0 0]) := by kernel_rfl
attribute [simp] Tryd.underlying38
noncomputable def I39 : TypeInfo := (Tryd.prog.info? 39).getD default
@[simp] theorem inf39 : Tryd.prog.info? 39 = some I39 := rfl
@[simp] theorem sz39 : I39.size = 7 := by kernel_rfl
@[simp] theorem ze39 : I39.zero = some (.agg #[.int .u8 0, .int .i64 0, .int .i64 0, .int .i64 0, .int .i64 0, .bool false, .slice none 0 0]) := by kernel_rfl
attribute [simp] Tryd.underlying39
noncomputable def I40 : TypeInfo := (Tryd.prog.info? 40).getD default
@[simp] theorem inf40 : Tryd.prog.info? 40 = some I40 := rfl
@[simp] theorem sz40 : I40.size = 224 := by kernel_rfl
attribute [simp] Tryd.underlying40
noncomputable def I41 : TypeInfo := (Tryd.prog.info? 41).getD default
@[simp] theorem inf41 : Tryd.prog.info? 41 = some I41 := rfl
@[simp] theorem sz41 : I41.size = 226 := by kernel_rfl
attribute [simp] Tryd.underlying41
noncomputable def I42 : TypeInfo := (Tryd.prog.info? 42).getD default
@[simp] theorem inf42 : Tryd.prog.info? 42 = some I42 := rfl
@[simp] theorem sz42 : I42.size = 226 := by kernel_rfl
attribute [simp] Tryd.underlying42
noncomputable def I43 : TypeInfo := (Tryd.prog.info? 43).getD default
@[simp] theorem inf43 : Tryd.prog.info? 43 = some I43 := rfl
@[simp] theorem sz43 : I43.size = 6 := by kernel_rfl
@[simp] theorem ze43 : I43.zero = some (.agg #[.int .i64 0, .int .u8 0, .int .i64 0, .int .i64 0, .bool false, .bool false]) := by kernel_rfl
attribute [simp] Tryd.underlying43
noncomputable def I44 : TypeInfo := (Tryd.prog.info? 44).getD default
@[simp] theorem inf44 : Tryd.prog.info? 44 = some I44 := rfl
@[simp] theorem sz44 : I44.size = 6 := by kernel_rfl
@[simp] theorem ze44 : I44.zero = some (.agg #[.int .i64 0, .int .u8 0, .int .i64 0, .int .i64 0, .bool false, .bool false]) := by kernel_rfl
attribute [simp] Tryd.underlying44
noncomputable def I45 : TypeInfo := (Tryd.prog.info? 45).getD default
@[simp] theorem inf45 : Tryd.prog.info? 45 = some I45 := rfl
@[simp] theorem sz45 : I45.size = 6 := by kernel_rfl
@[simp] theorem ze45 : I45.zero = some (.agg #[.int .u8 0, .int .i64 0, .int .i64 0, .int .i64 0, .int .i64 0, .int .u8 0]) := by kernel_rfl
attribute [simp] Tryd.underlying45
noncomputable def I46 : TypeInfo := (Tryd.prog.info? 46).getD default
@[simp] theorem inf46 : Tryd.prog.info? 46 = some I46 := rfl
@[simp] theorem sz46 : I46.size = 6 := by kernel_rfl
@[simp] theorem ze46 : I46.zero = some (.agg #[.int .u8 0, .int .i64 0, .int .i64 0, .int .i64 0, .int .i64 0, .int .u8 0]) := by kernel_rfl
attribute [simp] Tryd.underlying46
noncomputable def I47 : TypeInfo := (Tryd.prog.info? 47).getD default
@[simp] theorem inf47 : Tryd.prog.info? 47 = some I47 := rfl
@[simp] theorem sz47 : I47.size = 16 := by kernel_rfl
@[simp] theorem ze47 : I47.zero = some (.agg #[.int .u8 0, .int .i64 0, .int .i64 0, .int .i64 0, .int .i64 0, .int .u8 0, .int .i64 0, .int .i64 0, .bool false, .bool false, .int .u8 0, .int .i64 0, .int .i64 0, .int .i64 0, .int .i64 0, .int .u8 0]) := by kernel_rfl
attribute [simp] Tryd.underlying47
noncomputable def I48 : TypeInfo := (Tryd.prog.info? 48).getD default
@[simp] theorem inf48 : Tryd.prog.info? 48 = some I48 := rfl
@[simp] theorem sz48 : I48.size = 16 := by kernel_rfl
@[simp] theorem ze48 : I48.zero = some (.agg #[.int .u8 0, .int .i64 0, .int .i64 0, .int .i64 0, .int .i64 0, .int .u8 0, .int .i64 0, .int .i64 0, .bool false, .bool false, .int .u8 0, .int .i64 0, .int .i64 0, .int .i64 0, .int .i64 0, .int .u8 0]) := by kernel_rfl
attribute [simp] Tryd.underlying48
noncomputable def I49 : TypeInfo := (Tryd.prog.info? 49).getD default
@[simp] theorem inf49 : Tryd.prog.info? 49 = some I49 := rfl
@[simp] theorem sz49 : I49.size = 1 := by kernel_rfl
@[simp] theorem ze49 : I49.zero = some (.nilFunc) := by kernel_rfl
attribute [simp] Tryd.underlying49
noncomputable def I50 : TypeInfo := (Tryd.prog.info? 50).getD default
@[simp] theorem inf50 : Tryd.prog.info? 50 = some I50 := rfl
@[simp] theorem sz50 : I50.size = 4 := by kernel_rfl
@[simp] theorem ze50 : I50.zero = some (.agg #[.int .u8 0, .int .u8 0, .int .u8 0, .int .u8 0]) := by kernel_rfl
attribute [simp] Tryd.underlying50
noncomputable def I51 : TypeInfo := (Tryd.prog.info? 51).getD default
@[simp] theorem inf51 : Tryd.prog.info? 51 = some I51 := rfl
@[simp] theorem sz51 : I51.size = 4 := by kernel_rfl
@[simp] theorem ze51 : I51.zero = some (.agg #[.int .u8 0, .int .u8 0, .int .u8 0, .int .u8 0]) := by kernel_rfl
attribute [simp] Tryd.underlying51
noncomputable def I52 : TypeInfo := (Tryd.prog.info? 52).getD default
@[simp] theorem inf52 : Tryd.prog.info? 52 = some I52 := rfl
@[simp] theorem sz52 : I52.size = 1 := by kernel_rfl
@[simp] theorem ze52 : I52.zero = some (.slice none 0 0) := by kernel_rfl
attribute [simp] Tryd.underlying52
noncomputable def I53 : TypeInfo := (Tryd.prog.info? 53).getD default
@[simp] theorem inf53 : Tryd.prog.info? 53 = some I53 := rfl
@[simp] theorem sz53 : I53.size = 1 := by kernel_rfl
@[simp] theorem ze53 : I53.zero = some (.nilFunc) := by kernel_rfl
attribute [simp] Tryd.underlying53
noncomputable def I54 : TypeInfo := (Tryd.prog.info? 54).getD default
@[simp] theorem inf54 : Tryd.prog.info? 54 = some I54 := rfl
@[simp] theorem sz54 : I54.size = 1 := by kernel_rfl
@[simp] theorem ze54 : I54.zero = some (.int .i64 0) := by kernel_rfl
attribute [simp] Tryd.underlying54
noncomputable def I55 : TypeInfo := (Tryd.prog.info? 55).getD default
@[simp] theorem inf55 : Tryd.prog.info? 55 = some I55 := rfl
@[simp] theorem sz55 : I55.size = 1 := by kernel_rfl
@[simp] theorem ze55 : I55.zero = some (.nilFunc) := by kernel_rfl
attribute [simp] Tryd.underlying55
noncomputable def I57 : TypeInfo := (Tryd.prog.info? 57).getD default
@[simp] theorem inf57 : Tryd.prog.info? 57 = some I57 := rfl
@[simp] theorem sz57 : I57.size = 1 := by kernel_rfl
@[simp] theorem ze57 : I57.zero = some (.nilFunc) := by kernel_rfl
attribute [simp] Tryd.underlying57
noncomputable def I59 : TypeInfo := (Tryd.prog.info? 59).getD default
@[simp] theorem inf59 : Tryd.prog.info? 59 = some I59 := rfl
@[simp] theorem sz59 : I59.size = 1 := by kernel_rfl
@[simp] theorem ze59 : I59.zero = some (.nilFunc) := by kernel_rfl
attribute [simp] Tryd.underlying59
noncomputable def I60 : TypeInfo := (Tryd.prog.info? 60).getD default
@[simp] theorem inf60 : Tryd.prog.info? 60 = some I60 := rfl
@[simp] theorem sz60 : I60.size = 1 := by kernel_rfl
@[simp] theorem ze60 : I60.zero = some (.nilFunc) := by kernel_rfl
attribute [simp] Tryd.underlying60
noncomputable def I61 : TypeInfo := (Tryd.prog.info? 61).getD default
@[simp] theorem inf61 : Tryd.prog.info? 61 = some I61 := rfl
@[simp] theorem sz61 : I61.size = 1 := by kernel_rfl
@[simp] theorem ze61 : I61.zero = some (.nilFunc) := by kernel_rfl
attribute [simp] Tryd.underlying61
noncomputable def I62 : TypeInfo := (Tryd.prog.info? 62).getD default
@[simp] theorem inf62 : Tryd.prog.info? 62 = some I62 := rfl
@[simp] theorem sz62 : I62.size = 1 := by kernel_rfl
@[simp] theorem ze62 : I62.zero = some (.int .u16 0) := by kernel_rfl
attribute [simp] Tryd.underlying62
noncomputable def I64 : TypeInfo := (Tryd.prog.info? 64).getD default
@[simp] theorem inf64 : Tryd.prog.info? 64 = some I64 := rfl
@[simp] theorem sz64 : I64.size = 1 := by kernel_rfl
@[simp] theorem ze64 : I64.zero = some (.nilFunc) := by kernel_rfl
attribute [simp] Tryd.underlying64
noncomputable def I65 : TypeInfo := (Tryd.prog.info? 65).getD default
@[simp] theorem inf65 : Tryd.prog.info? 65 = some I65 := rfl
@[simp] theorem sz65 : I65.size = 8 := by kernel_rfl
@[simp] theorem ze65 : I65.zero = some (.agg #[.int .i64 0, .int .i64 0, .int .u8 0, .int .i64 0, .int .i64 0, .int .i64 0, .int .i64 0, .bool false]) := by kernel_rfl
attribute [simp] Tryd.underlying65
noncomputable def I66 : TypeInfo := (Tryd.prog.info? 66).getD default
@[simp] theorem inf66 : Tryd.prog.info? 66 = some I66 := rfl
@[simp] theorem sz66 : I66.size = 8 := by kernel_rfl
@[simp] theorem ze66 : I66.zero = some (.agg #[.int .i64 0, .int .i64 0, .int .u8 0, .int .i64 0, .int .i64 0, .int .i64 0, .int .i64 0, .bool false]) := by kernel_rfl
attribute [simp] Tryd.underlying66
noncomputable def I67 : TypeInfo := (Tryd.prog.info? 67).getD default
@[simp] theorem inf67 : Tryd.prog.info? 67 = some I67 := rfl
@[simp] theorem sz67 : I67.size = 8 := by kernel_rfl
@[simp] theorem ze67 : I67.zero = some (.agg #[.int .i64 0, .int .i64 0, .int .u8 0, .int .i64 0, .int .i64 0, .int .i64 0, .int .i64 0, .bool false]) := by kernel_rfl
attribute [simp] Tryd.underlying67
noncomputable def I68 : TypeInfo := (Tryd.prog.info? 68).getD default
@[simp] theorem inf68 : Tryd.prog.info? 68 = some I68 := rfl
@[simp] theorem sz68 : I68.size = 1 := by kernel_rfl
@[simp] theorem ze68 : I68.zero = some (.nilFunc) := by kernel_rfl
attribute [simp] Tryd.underlying68
noncomputable def I69 : TypeInfo := (Tryd.prog.info? 69).getD default
@[simp] theorem inf69 : Tryd.prog.info? 69 = some I69 := rfl
@[simp] theorem sz69 : I69.size = 1 := by kernel_rfl
@[simp] theorem ze69 : I69.zero = some (.nilFunc) := by kernel_rfl
attribute [simp] Tryd.underlying69
noncomputable def I70 : TypeInfo := (Tryd.prog.info? 70).getD default
@[simp] theorem inf70 : Tryd.prog.info? 70 = some I70 := rfl
@[simp] theorem sz70 : I70.size = 1 := by kernel_rfl
@[simp] theorem ze70 : I70.zero = some (.nilFunc) := by kernel_rfl
attribute [simp] Tryd.underlying70
noncomputable def I71 : TypeInfo := (Tryd.prog.info? 71).getD default
@[simp] theorem inf71 : Tryd.prog.info? 71 = some I71 := rfl
@[simp] theorem sz71 : I71.size = 1 := by kernel_rfl
@[simp] theorem ze71 : I71.zero = some (.nilFunc) := by kernel_rfl
attribute [simp] Tryd.underlying71
noncomputable def I72 : TypeInfo := (Tryd.prog.info? 72).getD default
@[simp] theorem inf72 : Tryd.prog.info? 72 = some I72 := rfl
@[simp] theorem sz72 : I72.size = 1 := by kernel_rfl
@[simp] theorem ze72 : I72.zero = some (.slice none 0 0) := by kernel_rfl
attribute [simp] Tryd.underlying72
noncomputable def I73 : TypeInfo := (Tryd.prog.info? 73).getD default
@[simp] theorem inf73 : Tryd.prog.info? 73 = some I73 := rfl
@[simp] theorem sz73 : I73.size = 1 := by kernel_rfl
@[simp] theorem ze73 : I73.zero = some (.nilFunc) := by kernel_rfl
attribute [simp] Tryd.underlying73
noncomputable def I74 : TypeInfo := (Tryd.prog.info? 74).getD default
@[simp] theorem inf74 : Tryd.prog.info? 74 = some I74 := rfl
@[simp] theorem sz74 : I74.size = 1 := by kernel_rfl
@[simp] theorem ze74 : I74.zero = some (.nilFunc) := by kernel_rfl
attribute [simp] Tryd.underlying74
noncomputable def I75 : TypeInfo := (Tryd.prog.info? 75).getD default
@[simp] theorem inf75 : Tryd.prog.info? 75 = some I75 := rfl
@[simp] theorem sz75 : I75.size = 1 := by kernel_rfl
@[simp] theorem ze75 : I75.zero = some (.nilFunc) := by kernel_rfl
attribute [simp] Tryd.underlying75
noncomputable def I76 : TypeInfo := (Tryd.prog.info? 76).getD default
@[simp] theorem inf76 : Tryd.prog.info? 76 = some I76 := rfl
@[simp] theorem sz76 : I76.size = 1 := by kernel_rfl
@[simp] theorem ze76 : I76.zero = some (.nilFunc) := by kernel_rfl
attribute [simp] Tryd.underlying76
noncomputable def I77 : TypeInfo := (Tryd.prog.info? 77).getD default
@[simp] theorem inf77 : Tryd.prog.info? 77 = some I77 := rfl
@[simp] theorem sz77 : I77.size = 1 := by kernel_rfl
@[simp] theorem ze77 : I77.zero = some (.nilFunc) := by kernel_rfl
attribute [simp] Tryd.underlying77
noncomputable def I78 : TypeInfo := (Tryd.prog.info? 78).getD default
@[simp] theorem inf78 : Tryd.prog.info? 78 = some I78 := rfl
@[simp] theorem sz78 : I78.size = 1 := by kernel_rfl
@[simp] theorem ze78 : I78.zero = some (.slice none 0 0) := by kernel_rfl
attribute [simp] Tryd.underlying78
noncomputable def I79 : TypeInfo := (Tryd.prog.info? 79).getD default
@[simp] theorem inf79 : Tryd.prog.info? 79 = some I79 := rfl
@[simp] theorem sz79 : I79.size = 1 := by kernel_rfl
@[simp] theorem ze79 : I79.zero = some (.pointer none) := by kernel_rfl
attribute [simp] Tryd.underlying79
noncomputable def I80 : TypeInfo := (Tryd.prog.info? 80).getD default
@[simp] theorem inf80 : Tryd.prog.info? 80 = some I80 := rfl
@[simp] theorem sz80 : I80.size = 1 := by kernel_rfl
@[simp] theorem ze80 : I80.zero = some (.nilFunc) := by kernel_rfl
attribute [simp] Tryd.underlying80
noncomputable def I81 : TypeInfo := (Tryd.prog.info? 81).getD default
@[simp] theorem inf81 : Tryd.prog.info? 81 = some I81 := rfl
@[simp] theorem sz81 : I81.size = 1 := by kernel_rfl
@[simp] theorem ze81 : I81.zero = some (.nilFunc) := by kernel_rfl
attribute [simp] Tryd.underlying81
noncomputable def I82 : TypeInfo := (Tryd.prog.info? 82).getD default
@[simp] theorem inf82 : Tryd.prog.info? 82 = some I82 := rfl
@[simp] theorem sz82 : I82.size = 1 := by kernel_rfl
@[simp] theorem ze82 : I82.zero = some (.nilFunc) := by kernel_rfl
attribute [simp] Tryd.underlying82
noncomputable def I83 : TypeInfo := (Tryd.prog.info? 83).getD default
@[simp] theorem inf83 : Tryd.prog.info? 83 = some I83 := rfl
@[simp] theorem sz83 : I83.size = 1 := by kernel_rfl
@[simp] theorem ze83 : I83.zero = some (.nilFunc) := by kernel_rfl
attribute [simp] Tryd.underlying83
noncomputable def I84 : TypeInfo := (Tryd.prog.info? 84).getD default
@[simp] theorem inf84 : Tryd.prog.info? 84 = some I84 := rfl
@[simp] theorem sz84 : I84.size = 1 := by kernel_rfl
@[simp] theorem ze84 : I84.zero = some (.nilFunc) := by kernel_rfl
attribute [simp] Tryd.underlying84
noncomputable def I85 : TypeInfo := (Tryd.prog.info? 85).getD default
@[simp] theorem inf85 : Tryd.prog.info? 85 = some I85 := rfl
@[simp] theorem sz85 : I85.size = 1 := by kernel_rfl
@[simp] theorem ze85 : I85.zero = some (.nilFunc) := by kernel_rfl
attribute [simp] Tryd.underlying85
noncomputable def I86 : TypeInfo := (Tryd.prog.info? 86).getD default
@[simp] theorem inf86 : Tryd.prog.info? 86 = some I86 := rfl
@[simp] theorem sz86 : I86.size = 1 := by kernel_rfl
@[simp] theorem ze86 : I86.zero = some (.nilFunc) := by kernel_rfl
attribute [simp] Tryd.underlying86
noncomputable def I88 : TypeInfo := (Tryd.prog.info? 88).getD default
@[simp] theorem inf88 : Tryd.prog.info? 88 = some I88 := rfl
@[simp] theorem sz88 : I88.size = 1 := by kernel_rfl
@[simp] theorem ze88 : I88.zero = some (.nilFunc) := by kernel_rfl
attribute [simp] Tryd.underlying88
noncomputable def I90 : TypeInfo := (Tryd.prog.info? 90).getD default
@[simp] theorem inf90 : Tryd.prog.info? 90 = some I90 := rfl
@[simp] theorem sz90 : I90.size = 1 := by kernel_rfl
@[simp] theorem ze90 : I90.zero = some (.nilFunc) := by kernel_rfl
attribute [simp] Tryd.underlying90
noncomputable def I91 : TypeInfo := (Tryd.prog.info? 91).getD default
@[simp] theorem inf91 : Tryd.prog.info? 91 = some I91 := rfl
@[simp] theorem sz91 : I91.size = 1 := by kernel_rfl
@[simp] theorem ze91 : I91.zero = some (.nilFunc) := by kernel_rfl
attribute [simp] Tryd.underlying91
noncomputable def I92 : TypeInfo := (Tryd.prog.info? 92).getD default
@[simp] theorem inf92 : Tryd.prog.info? 92 = some I92 := rfl
@[simp] theorem sz92 : I92.size = 1 := by kernel_rfl
@[simp] theorem ze92 : I92.zero = some (.nilFunc) := by kernel_rfl
attribute [simp] Tryd.underlying92
noncomputable def I93 : TypeInfo := (Tryd.prog.info? 93).getD default
@[simp] theorem inf93 : Tryd.prog.info? 93 = some I93 := rfl
@[simp] theorem sz93 : I93.size = 1 := by kernel_rfl
@[simp] theorem ze93 : I93.zero = some (.nilFunc) := by kernel_rfl
attribute [simp] Tryd.underlying93
noncomputable def I94 : TypeInfo := (Tryd.prog.info? 94).getD default
@[simp] theorem inf94 : Tryd.prog.info? 94 = some I94 := rfl
@[simp] theorem sz94 : I94.size = 1 := by kernel_rfl
@[simp] theorem ze94 : I94.zero = some (.nilFunc) := by kernel_rfl
attribute [simp] Tryd.underlying94
noncomputable def I96 : TypeInfo := (Tryd.prog.info? 96).getD default
@[simp] theorem inf96 : Tryd.prog.info? 96 = some I96 := rfl
@[simp] theorem sz96 : I96.size = 1 := by kernel_rfl
@[simp] theorem ze96 : I96.zero = some (.nilFunc) := by kernel_rfl
attribute [simp] Tryd.underlying96
noncomputable def I97 : TypeInfo := (Tryd.prog.info? 97).getD default
@[simp] theorem inf97 : Tryd.prog.info? 97 = some I97 := rfl
@[simp] theorem sz97 : I97.size = 1 := by kernel_rfl
@[simp] theorem ze97 : I97.zero = some (.nilFunc) := by kernel_rfl
attribute [simp] Tryd.underlying97
noncomputable def I98 : TypeInfo := (Tryd.prog.info? 98).getD default
@[simp] theorem inf98 : Tryd.prog.info? 98 = some I98 := rfl
@[simp] theorem sz98 : I98.size = 1 := by kernel_rfl
@[simp] theorem ze98 : I98.zero = some (.nilFunc) := by kernel_rfl
attribute [simp] Tryd.underlying98
noncomputable def I100 : TypeInfo := (Tryd.prog.info? 100).getD default
@[simp] theorem inf100 : Tryd.prog.info? 100 = some I100 := rfl
@[simp] theorem sz100 : I100.size = 1 := by kernel_rfl
@[simp] theorem ze100 : I100.zero = some (.nilFunc) := by kernel_rfl
attribute [simp] Tryd.underlying100
noncomputable def I101 : TypeInfo := (Tryd.prog.info? 101).getD default
@[simp] theorem inf101 : Tryd.prog.info? 101 = some I101 := rfl
@[simp] theorem sz101 : I101.size = 1 := by kernel_rfl
@[simp] theorem ze101 : I101.zero = some (.nilFunc) := by kernel_rfl
attribute [simp] Tryd.underlying101
noncomputable def I102 : TypeInfo := (Tryd.prog.info? 102).getD default
@[simp] theorem inf102 : Tryd.prog.info? 102 = some I102 := rfl
@[simp] theorem sz102 : I102.size = 1 := by kernel_rfl
@[simp] theorem ze102 : I102.zero = some (.nilFunc) := by kernel_rfl
attribute [simp] Tryd.underlying102
noncomputable def I103 : TypeInfo := (Tryd.prog.info? 103).getD default
@[simp] theorem inf103 : Tryd.prog.info? 103 = some I103 := rfl
@[simp] theorem sz103 : I103.size = 1 := by kernel_rfl
@[simp] theorem ze103 : I103.zero = some (.slice none 0 0) := by kernel_rfl
attribute [simp] Tryd.underlying103
noncomputable def I104 : TypeInfo := (Tryd.prog.info? 104).getD default
@[simp] theorem inf104 : Tryd.prog.info? 104 = some I104 := rfl
@[simp] theorem sz104 : I104.size = 1 := by kernel_rfl
@[simp] theorem ze104 : I104.zero = some (.slice none 0 0) := by kernel_rfl
attribute [simp] Tryd.underlying104
noncomputable def I105 : TypeInfo := (Tryd.prog.info? 105).getD default
@[simp] theorem inf105 : Tryd.prog.info? 105 = some I105 := rfl
@[simp] theorem sz105 : I105.size = 1 := by kernel_rfl
@[simp] theorem ze105 : I105.zero = some (.nilFunc) := by kernel_rfl
attribute [simp] Tryd.underlying105
noncomputable def I106 : TypeInfo := (Tryd.prog.info? 106).getD default
@[simp] theorem inf106 : Tryd.prog.info? 106 = some I106 := rfl
@[simp] theorem sz106 : I106.size = 1 := by kernel_rfl
@[simp] theorem ze106 : I106.zero = some (.nilFunc) := by kernel_rfl
attribute [simp] Tryd.underlying106
noncomputable def I107 : TypeInfo := (Tryd.prog.info? 107).getD default
@[simp] theorem inf107 : Tryd.prog.info? 107 = some I107 := rfl
@[simp] theorem sz107 : I107.size = 1 := by kernel_rfl
@[simp] theorem ze107 : I107.zero = some (.nilFunc) := by kernel_rfl
attribute [simp] Tryd.underlying107
noncomputable def I108 : TypeInfo := (Tryd.prog.info? 108).getD default
@[simp] theorem inf108 : Tryd.prog.info? 108 = some I108 := rfl
@[simp] theorem sz108 : I108.size = 1 := by kernel_rfl
@[simp] theorem ze108 : I108.zero = some (.nilFunc) := by kernel_rfl
attribute [simp] Tryd.underlying108
noncomputable def I109 : TypeInfo := (Tryd.prog.info? 109).getD default
@[simp] theorem inf109 : Tryd.prog.info? 109 = some I109 := rfl
@[simp] theorem sz109 : I109.size = 1 := by kernel_rfl
@[simp] theorem ze109 : I109.zero = some (.nilFunc) := by kernel_rfl
attribute [simp] Tryd.underlying109
noncomputable def I110 : TypeInfo := (Tryd.prog.info? 110).getD default
@[simp] theorem inf110 : Tryd.prog.info? 110 = some I110 := rfl
@[simp] theorem sz110 : I110.size = 1 := by kernel_rfl
@[simp] theorem ze110 : I110.zero = some (.nilFunc) := by kernel_rfl
attribute [simp] Tryd.underlying110
noncomputable def I111 : TypeInfo := (Tryd.prog.info? 111).getD default
@[simp] theorem inf111 : Tryd.prog.info? 111 = some I111 := rfl
@[simp] theorem sz111 : I111.size = 1 := by kernel_rfl
@[simp] theorem ze111 : I111.zero = some (.nilFunc) := by kernel_rfl
attribute [simp] Tryd.underlying111
noncomputable def I112 : TypeInfo := (Tryd.prog.info? 112).getD default
@[simp] theorem inf112 : Tryd.prog.info? 112 = some I112 := rfl
@[simp] theorem sz112 : I112.size = 1 := by kernel_rfl
@[simp] theorem ze112 : I112.zero = some (.nilFunc) := by kernel_rfl
attribute [simp] Tryd.underlying112
noncomputable def I113 : TypeInfo := (Tryd.prog.info? 113).getD default
@[simp] theorem inf113 : Tryd.prog.info? 113 = some I113 := rfl
@[simp] theorem sz113 : I113.size = 2 := by kernel_rfl
@[simp] theorem ze113 : I113.zero = some (.agg #[.slice none 0 0, .int .i64 0]) := by kernel_rfl
attribute [simp] Tryd.underlying113
noncomputable def I114 : TypeInfo := (Tryd.prog.info? 114).getD default
@[simp] theorem inf114 : Tryd.prog.info? 114 = some I114 := rfl
@[simp] theorem sz114 : I114.size = 2 := by kernel_rfl
@[simp] theorem ze114 : I114.zero = some (.agg #[.slice none 0 0, .int .i64 0]) := by kernel_rfl
attribute [simp] Tryd.underlying114
noncomputable def I115 : TypeInfo := (Tryd.prog.info? 115).getD default
@[simp] theorem inf115 : Tryd.prog.info? 115 = some I115 := rfl
@[simp] theorem sz115 : I115.size = 1 := by kernel_rfl
@[simp] theorem ze115 : I115.zero = some (.nilFunc) := by kernel_rfl
attribute [simp] Tryd.underlying115
noncomputable def I116 : TypeInfo := (Tryd.prog.info? 116).getD default
@[simp] theorem inf116 : Tryd.prog.info? 116 = some I116 := rfl
@[simp] theorem sz116 : I116.size = 1 := by kernel_rfl
@[simp] theorem ze116 : I116.zero = some (.nilFunc) := by kernel_rfl
attribute [simp] Tryd.underlying116
noncomputable def I118 : TypeInfo := (Tryd.prog.info? 118).getD default
@[simp] theorem inf118 : Tryd.prog.info? 118 = some I118 := rfl
@[simp] theorem sz118 : I118.size = 1 := by kernel_rfl
@[simp] theorem ze118 : I118.zero = some (.nilFunc) := by kernel_rfl
attribute [simp] Tryd.underlying118
noncomputable def I119 : TypeInfo := (Tryd.prog.info? 119).getD default
@[simp] theorem inf119 : Tryd.prog.info? 119 = some I119 := rfl
@[simp] theorem sz119 : I119.size = 1 := by kernel_rfl
@[simp] theorem ze119 : I119.zero = some (.nilFunc) := by kernel_rfl
attribute [simp] Tryd.underlying119
noncomputable def I120 : TypeInfo := (Tryd.prog.info? 120).getD default
@[simp] theorem inf120 : Tryd.prog.info? 120 = some I120 := rfl
@[simp] theorem sz120 : I120.size = 1 := by kernel_rfl
@[simp] theorem ze120 : I120.zero = some (.nilFunc) := by kernel_rfl
attribute [simp] Tryd.underlying120
noncomputable def I121 : TypeInfo := (Tryd.prog.info? 121).getD default
@[simp] theorem inf121 : Tryd.prog.info? 121 = some I121 := rfl
@[simp] theorem sz121 : I121.size = 1 := by kernel_rfl
@[simp] theorem ze121 : I121.zero = some (.nilFunc) := by kernel_rfl
attribute [simp] Tryd.underlying121
noncomputable def I123 : TypeInfo := (Tryd.prog.info? 123).getD default
@[simp] theorem inf123 : Tryd.prog.info? 123 = some I123 := rfl
@[simp] theorem sz123 : I123.size = 1 := by kernel_rfl
@[simp] theorem ze123 : I123.zero = some (.nilFunc) := by kernel_rfl
attribute [simp] Tryd.underlying123
noncomputable def I124 : TypeInfo := (Tryd.prog.info? 124).getD default
@[simp] theorem inf124 : Tryd.prog.info? 124 = some I124 := rfl
@[simp] theorem sz124 : I124.size = 1 := by kernel_rfl
@[simp] theorem ze124 : I124.zero = some (.nilFunc) := by kernel_rfl
attribute [simp] Tryd.underlying124
noncomputable def I125 : TypeInfo := (Tryd.prog.info? 125).getD default
@[simp] theorem inf125 : Tryd.prog.info? 125 = some I125 := rfl
@[simp] theorem sz125 : I125.size = 1 := by kernel_rfl
@[simp] theorem ze125 : I125.zero = some (.nilFunc) := by kernel_rfl
attribute [simp] Tryd.underlying125
noncomputable def I127 : TypeInfo := (Tryd.prog.info? 127).getD default
@[simp] theorem inf127 : Tryd.prog.info? 127 = some I127 := rfl
@[simp] theorem sz127 : I127.size = 1 := by kernel_rfl
@[simp] theorem ze127 : I127.zero = some (.nilFunc) := by kernel_rfl
attribute [simp] Tryd.underlying127
noncomputable def I128 : TypeInfo := (Tryd.prog.info? 128).getD default
@[simp] theorem inf128 : Tryd.prog.info? 128 = some I128 := rfl
@[simp] theorem sz128 : I128.size = 1 := by kernel_rfl
@[simp] theorem ze128 : I128.zero = some (.nilFunc) := by kernel_rfl
attribute [simp] Tryd.underlying128
noncomputable def I129 : TypeInfo := (Tryd.prog.info? 129).getD default
@[simp] theorem inf129 : Tryd.prog.info? 129 = some I129 := rfl
@[simp] theorem sz129 : I129.size = 1 := by kernel_rfl
@[simp] theorem ze129 : I129.zero = some (.nilFunc) := by kernel_rfl
attribute [simp] Tryd.underlying129
noncomputable def I130 : TypeInfo := (Tryd.prog.info? 130).getD default
@[simp] theorem inf130 : Tryd.prog.info? 130 = some I130 := rfl
@[simp] theorem sz130 : I130.size = 1 := by kernel_rfl
@[simp] theorem ze130 : I130.zero = some (.nilFunc) := by kernel_rfl
attribute [simp] Tryd.underlying130
noncomputable def I131 : TypeInfo := (Tryd.prog.info? 131).getD default
@[simp] theorem inf131 : Tryd.prog.info? 131 = some I131 := rfl
@[simp] theorem sz131 : I131.size = 1 := by kernel_rfl
@[simp] theorem ze131 : I131.zero = some (.int .u64 0) := by kernel_rfl
attribute [simp] Tryd.underlying131
noncomputable def I132 : TypeInfo := (Tryd.prog.info? 132).getD default
@[simp] theorem inf132 : Tryd.prog.info? 132 = some I132 := rfl
@[simp] theorem sz132 : I132.size = 1 := by kernel_rfl
@[simp] theorem ze132 : I132.zero = some (.int .u64 0) := by kernel_rfl
attribute [simp] Tryd.underlying132
noncomputable def I133 : TypeInfo := (Tryd.prog.info? 133).getD default
@[simp] theorem inf133 : Tryd.prog.info? 133 = some I133 := rfl
@[simp] theorem sz133 : I133.size = 1 := by kernel_rfl
@[simp] theorem ze133 : I133.zero = some (.nilFunc) := by kernel_rfl
attribute [simp] Tryd.underlying133
noncomputable def I134 : TypeInfo := (Tryd.prog.info? 134).getD default
@[simp] theorem inf134 : Tryd.prog.info? 134 = some I134 := rfl
@[simp] theorem sz134 : I134.size = 1 := by kernel_rfl
@[simp] theorem ze134 : I134.zero = some (.nilFunc) := by kernel_rfl
attribute [simp] Tryd.underlying134
noncomputable def I135 : TypeInfo := (Tryd.prog.info? 135).getD default
@[simp] theorem inf135 : Tryd.prog.info? 135 = some I135 := rfl
@[simp] theorem sz135 : I135.size = 1 := by kernel_rfl
@[simp] theorem ze135 : I135.zero = some (.nilFunc) := by kernel_rfl
attribute [simp] Tryd.underlying135
noncomputable def I136 : TypeInfo := (Tryd.prog.info? 136).getD default
@[simp] theorem inf136 : Tryd.prog.info? 136 = some I136 := rfl
@[simp] theorem sz136 : I136.size = 1 := by kernel_rfl
@[simp] theorem ze136 : I136.zero = some (.nilFunc) := by kernel_rfl
attribute [simp] Tryd.underlying136
noncomputable def I137 : TypeInfo := (Tryd.prog.info? 137).getD default
@[simp] theorem inf137 : Tryd.prog.info? 137 = some I137 := rfl
@[simp] theorem sz137 : I137.size = 1 := by kernel_rfl
@[simp] theorem ze137 : I137.zero = some (.nilFunc) := by kernel_rfl
attribute [simp] Tryd.underlying137
noncomputable def I138 : TypeInfo := (Tryd.prog.info? 138).getD default
@[simp] theorem inf138 : Tryd.prog.info? 138 = some I138 := rfl
@[simp] theorem sz138 : I138.size = 1 := by kernel_rfl
@[simp] theorem ze138 : I138.zero = some (.nilFunc) := by kernel_rfl
attribute [simp] Tryd.underlying138
noncomputable def I139 : TypeInfo := (Tryd.prog.info? 139).getD default
@[simp] theorem inf139 : Tryd.prog.info? 139 = some I139 := rfl
@[simp] theorem sz139 : I139.size = 1 := by kernel_rfl
@[simp] theorem ze139 : I139.zero = some (.nilFunc) := by kernel_rfl
attribute [simp] Tryd.underlying139
noncomputable def I140 : TypeInfo := (Tryd.prog.info? 140).getD default
@[simp] theorem inf140 : Tryd.prog.info? 140 = some I140 := rfl
@[simp] theorem sz140 : I140.size = 1 := by kernel_rfl
@[simp] theorem ze140 : I140.zero = some (.nilFunc) := by kernel_rfl
attribute [simp] Tryd.underlying140
noncomputable def I141 : TypeInfo := (Tryd.prog.info? 141).getD default
@[simp] theorem inf141 : Tryd.prog.info? 141 = some I141 := rfl
@[simp] theorem sz141 : I141.size = 1 := by kernel_rfl
@[simp] theorem ze141 : I141.zero = some (.nilFunc) := by kernel_rfl
attribute [simp] Tryd.underlying141
noncomputable def I142 : TypeInfo := (Tryd.prog.info? 142).getD default
@[simp] theorem inf142 : Tryd.prog.info? 142 = some I142 := rfl
@[simp] theorem sz142 : I142.size = 1 := by kernel_rfl
@[simp] theorem ze142 : I142.zero = some (.nilFunc) := by kernel_rfl
attribute [simp] Tryd.underlying142
noncomputable def I143 : TypeInfo := (Tryd.prog.info? 143).getD default
@[simp] theorem inf143 : Tryd.prog.info? 143 = some I143 := rfl
@[simp] theorem sz143 : I143.size = 1 := by kernel_rfl
@[simp] theorem ze143 : I143.zero = some (.nilFunc) := by kernel_rfl
attribute [simp] Tryd.underlying143
noncomputable def I145 : TypeInfo := (Tryd.prog.info? 145).getD default
@[simp] theorem inf145 : Tryd.prog.info? 145 = some I145 := rfl
@[simp] theorem sz145 : I145.size = 1 := by kernel_rfl
@[simp] theorem ze145 : I145.zero = some (.nilFunc) := by kernel_rfl
attribute [simp] Tryd.underlying145
noncomputable def I147 : TypeInfo := (Tryd.prog.info? 147).getD default
@[simp] theorem inf147 : Tryd.prog.info? 147 = some I147 := rfl
@[simp] theorem sz147 : I147.size = 1 := by kernel_rfl
@[simp] theorem ze147 : I147.zero = some (.nilFunc) := by kernel_rfl
attribute [simp] Tryd.underlying147
noncomputable def I149 : TypeInfo := (Tryd.prog.info? 149).getD default
@[simp] theorem inf149 : Tryd.prog.info? 149 = some I149 := rfl
@[simp] theorem sz149 : I149.size = 1 := by kernel_rfl
@[simp] theorem ze149 : I149.zero = some (.nilFunc) := by kernel_rfl
attribute [simp] Tryd.underlying149
noncomputable def I150 : TypeInfo := (Tryd.prog.info? 150).getD default
@[simp] theorem inf150 : Tryd.prog.info? 150 = some I150 := rfl
@[simp] theorem sz150 : I150.size = 3 := by kernel_rfl
@[simp] theorem ze150 : I150.zero = some (.agg #[.int .i64 0, .int .i64 0, .int .i64 0]) := by kernel_rfl
attribute [simp] Tryd.underlying150
noncomputable def I151 : TypeInfo := (Tryd.prog.info? 151).getD default
@[simp] theorem inf151 : Tryd.prog.info? 151 = some I151 := rfl
@[simp] theorem sz151 : I151.size = 3 := by kernel_rfl
@[simp] theorem ze151 : I151.zero = some (.agg #[.int .i64 0, .int .i64 0, .int .i64 0]) := by kernel_rfl
attribute [simp] Tryd.underlying151
noncomputable def I152 : TypeInfo := (Tryd.prog.info? 152).getD default
@[simp] theorem inf152 : Tryd.prog.info? 152 = some I152 := rfl
@[simp] theorem sz152 : I152.size = 1 := by kernel_rfl
@[simp] theorem ze152 : I152.zero = some (.nilFunc) := by kernel_rfl
attribute [simp] Tryd.underlying152
noncomputable def I153 : TypeInfo := (Tryd.prog.info? 153).getD default
@[simp] theorem inf153 : Tryd.prog.info? 153 = some I153 := rfl
@[simp] theorem sz153 : I153.size = 1 := by kernel_rfl
@[simp] theorem ze153 : I153.zero = some (.nilFunc) := by kernel_rfl
attribute [simp] Tryd.underlying153
noncomputable def I154 : TypeInfo := (Tryd.prog.info? 154).getD default
@[simp] theorem inf154 : Tryd.prog.info? 154 = some I154 := rfl
@[simp] theorem sz154 : I154.size = 1 := by kernel_rfl
@[simp] theorem ze154 : I154.zero = some (.nilFunc) := by kernel_rfl
attribute [simp] Tryd.underlying154
noncomputable def I156 : TypeInfo := (Tryd.prog.info? 156).getD default
@[simp] theorem inf156 : Tryd.prog.info? 156 = some I156 := rfl
@[simp] theorem sz156 : I156.size = 1 := by kernel_rfl
@[simp] theorem ze156 : I156.zero = some (.nilFunc) := by kernel_rfl
attribute [simp] Tryd.underlying156
noncomputable def I157 : TypeInfo := (Tryd.prog.info? 157).getD default
@[simp] theorem inf157 : Tryd.prog.info? 157 = some I157 := rfl
@[simp] theorem sz157 : I157.size = 1 := by kernel_rfl
@[simp] theorem ze157 : I157.zero = some (.nilFunc) := by kernel_rfl
attribute [simp] Tryd.underlying157
noncomputable def I158 : TypeInfo := (Tryd.prog.info? 158).getD default
@[simp] theorem inf158 : Tryd.prog.info? 158 = some I158 := rfl
@[simp] theorem sz158 : I158.size = 1 := by kernel_rfl
@[simp] theorem ze158 : I158.zero = some (.nilFunc) := by kernel_rfl
attribute [simp] Tryd.underlying158
noncomputable def I159 : TypeInfo := (Tryd.prog.info? 159).getD default
@[simp] theorem inf159 : Tryd.prog.info? 159 = some I159 := rfl
@[simp] theorem sz159 : I159.size = 1 := by kernel_rfl
@[simp] theorem ze159 : I159.zero = some (.nilFunc) := by kernel_rfl
attribute [simp] Tryd.underlying159
noncomputable def I160 : TypeInfo := (Tryd.prog.info? 160).getD default
@[simp] theorem inf160 : Tryd.prog.info? 160 = some I160 := rfl
@[simp] theorem sz160 : I160.size = 3 := by kernel_rfl
@[simp] theorem ze160 : I160.zero = some (.agg #[.int .i64 0, .int .i64 0, .int .i64 0]) := by kernel_rfl
attribute [simp] Tryd.underlying160
noncomputable def I161 : TypeInfo := (Tryd.prog.info? 161).getD default
@[simp] theorem inf161 : Tryd.prog.info? 161 = some I161 := rfl
@[simp] theorem sz161 : I161.size = 1 := by kernel_rfl
@[simp] theorem ze161 : I161.zero = some (.nilFunc) := by kernel_rfl
attribute [simp] Tryd.underlying161
noncomputable def I162 : TypeInfo := (Tryd.prog.info? 162).getD default
@[simp] theorem inf162 : Tryd.prog.info? 162 = some I162 := rfl
@[simp] theorem sz162 : I162.size = 1 := by kernel_rfl
@[simp] theorem ze162 : I162.zero = some (.nilFunc) := by kernel_rfl
attribute [simp] Tryd.underlying162
noncomputable def I163 : TypeInfo := (Tryd.prog.info? 163).getD default
@[simp] theorem inf163 : Tryd.prog.info? 163 = some I163 := rfl
@[simp] theorem sz163 : I163.size = 1 := by kernel_rfl
@[simp] theorem ze163 : I163.zero = some (.nilFunc) := by kernel_rfl
attribute [simp] Tryd.underlying163
noncomputable def I164 : TypeInfo := (Tryd.prog.info? 164).getD default
@[simp] theorem inf164 : Tryd.prog.info? 164 = some I164 := rfl
@[simp] theorem sz164 : I164.size = 1 := by kernel_rfl
@[simp] theorem ze164 : I164.zero = some (.nilFunc) := by kernel_rfl
attribute [simp] Tryd.underlying164
noncomputable def I166 : TypeInfo := (Tryd.prog.info? 166).getD default
@[simp] theorem inf166 : Tryd.prog.info? 166 = some I166 := rfl
@[simp] theorem sz166 : I166.size = 1 := by kernel_rfl
@[simp] theorem ze166 : I166.zero = some (.nilFunc) := by kernel_rfl
attribute [simp] Tryd.underlying166
noncomputable def I167 : TypeInfo := (Tryd.prog.info? 167).getD default
@[simp] theorem inf167 : Tryd.prog.info? 167 = some I167 := rfl
@[simp] theorem sz167 : I167.size = 1 := by kernel_rfl
@[simp] theorem ze167 : I167.zero = some (.nilFunc) := by kernel_rfl
attribute [simp] Tryd.underlying167
noncomputable def I168 : TypeInfo := (Tryd.prog.info? 168).getD default
@[simp] theorem inf168 : Tryd.prog.info? 168 = some I168 := rfl
@[simp] theorem sz168 : I168.size = 1 := by kernel_rfl
@[simp] theorem ze168 : I168.zero = some (.nilFunc) := by kernel_rfl
attribute [simp] Tryd.underlying168
noncomputable def I170 : TypeInfo := (Tryd.prog.info? 170).getD default
@[simp] theorem inf170 : Tryd.prog.info? 170 = some I170 := rfl
@[simp] theorem sz170 : I170.size = 1 := by kernel_rfl
@[simp] theorem ze170 : I170.zero = some (.nilFunc) := by kernel_rfl
attribute [simp] Tryd.underlying170
noncomputable def I171 : TypeInfo := (Tryd.prog.info? 171).getD default
@[simp] theorem inf171 : Tryd.prog.info? 171 = some I171 := rfl
@[simp] theorem sz171 : I171.size = 1 := by kernel_rfl
@[simp] theorem ze171 : I171.zero = some (.nilFunc) := by kernel_rfl
attribute [simp] Tryd.underlying171
noncomputable def I172 : TypeInfo := (Tryd.prog.info? 172).getD default
@[simp] theorem inf172 : Tryd.prog.info? 172 = some I172 := rfl
@[simp] theorem sz172 : I172.size = 1 := by kernel_rfl
@[simp] theorem ze172 : I172.zero = some (.nilFunc) := by kernel_rfl
attribute [simp] Tryd.underlying172
noncomputable def I173 : TypeInfo := (Tryd.prog.info? 173).getD default
@[simp] theorem inf173 : Tryd.prog.info? 173 = some I173 := rfl
@[simp] theorem sz173 : I173.size = 1 := by kernel_rfl
@[simp] theorem ze173 : I173.zero = some (.nilFunc) := by kernel_rfl
attribute [simp] Tryd.underlying173
noncomputable def I174 : TypeInfo := (Tryd.prog.info? 174).getD default
@[simp] theorem inf174 : Tryd.prog.info? 174 = some I174 := rfl
@[simp] theorem sz174 : I174.size = 1 := by kernel_rfl
@[simp] theorem ze174 : I174.zero = some (.nilIface) := by kernel_rfl
attribute [simp] Tryd.underlying174
noncomputable def I175 : TypeInfo := (Tryd.prog.info? 175).getD default
@[simp] theorem inf175 : Tryd.prog.info? 175 = some I175 := rfl
@[simp] theorem sz175 : I175.size = 1 := by kernel_rfl
@[simp] theorem ze175 : I175.zero = some (.nilIface) := by kernel_rfl
attribute [simp] Tryd.underlying175
noncomputable def I176 : TypeInfo := (Tryd.prog.info? 176).getD default
@[simp] theorem inf176 : Tryd.prog.info? 176 = some I176 := rfl
@[simp] theorem sz176 : I176.size = 1 := by kernel_rfl
@[simp] theorem ze176 : I176.zero = some (.nilFunc) := by kernel_rfl
attribute [simp] Tryd.underlying176
noncomputable def I177 : TypeInfo := (Tryd.prog.info? 177).getD default
@[simp] theorem inf177 : Tryd.prog.info? 177 = some I177 := rfl
@[simp] theorem sz177 : I177.size = 1 := by kernel_rfl
@[simp] theorem ze177 : I177.zero = some (.pointer none) := by kernel_rfl
attribute [simp] Tryd.underlying177
noncomputable def I178 : TypeInfo := (Tryd.prog.info? 178).getD default
@[simp] theorem inf178 : Tryd.prog.info? 178 = some I178 := rfl
@[simp] theorem sz178 : I178.size = 1 := by kernel_rfl
@[simp] theorem ze178 : I178.zero = some (.nilFunc) := by kernel_rfl
attribute [simp] Tryd.underlying178
noncomputable def I179 : TypeInfo := (Tryd.prog.info? 179).getD default
@[simp] theorem inf179 : Tryd.prog.info? 179 = some I179 := rfl
@[simp] theorem sz179 : I179.size = 4 := by kernel_rfl
@[simp] theorem ze179 : I179.zero = some (.agg #[.pointer none, .pointer none, .pointer none, .string ⟨#[]⟩]) := by kernel_rfl
attribute [simp] Tryd.underlying179
noncomputable def I180 : TypeInfo := (Tryd.prog.info? 180).getD default
@[simp] theorem inf180 : Tryd.prog.info? 180 = some I180 := rfl
@[simp] theorem sz180 : I180.size = 4 := by kernel_rfl
@[simp] theorem ze180 : I180.zero = some (.agg #[.pointer none, .pointer none, .pointer none, .string ⟨#[]⟩]) := by kernel_rfl
attribute [simp] Tryd.underlying180
noncomputable def I181 : TypeInfo := (Tryd.prog.info? 181).getD default
@[simp] theorem inf181 : Tryd.prog.info? 181 = some I181 := rfl
@[simp] theorem sz181 : I181.size = 0 := by kernel_rfl
@[simp] theorem ze181 : I181.zero = some (.agg #[]) := by kernel_rfl
attribute [simp] Tryd.underlying181
noncomputable def I182 : TypeInfo := (Tryd.prog.info? 182).getD default
@[simp] theorem inf182 : Tryd.prog.info? 182 = some I182 := rfl
@[simp] theorem sz182 : I182.size = 0 := by kernel_rfl
@[simp] theorem ze182 : I182.zero = some (.agg #[]) := by kernel_rfl
attribute [simp] Tryd.underlying182
noncomputable def I183 : TypeInfo := (Tryd.prog.info? 183).getD default
@[simp] theorem inf183 : Tryd.prog.info? 183 = some I183 := rfl
@[simp] theorem sz183 : I183.size = 0 := by kernel_rfl
@[simp] theorem ze183 : I183.zero = some (.agg #[]) := by kernel_rfl
attribute [simp] Tryd.underlying183
noncomputable def I184 : TypeInfo := (Tryd.prog.info? 184).getD default
@[simp] theorem inf184 : Tryd.prog.info? 184 = some I184 := rfl
@[simp] theorem sz184 : I184.size = 1 := by kernel_rfl
@[simp] theorem ze184 : I184.zero = some (.int .u8 0) := by kernel_rfl
attribute [simp] Tryd.underlying184
noncomputable def I185 : TypeInfo := (Tryd.prog.info? 185).getD default
@[simp] theorem inf185 : Tryd.prog.info? 185 = some I185 := rfl
@[simp] theorem sz185 : I185.size = 1 := by kernel_rfl
@[simp] theorem ze185 : I185.zero = some (.int .u8 0) := by kernel_rfl
attribute [simp] Tryd.underlying185
noncomputable def I186 : TypeInfo := (Tryd.prog.info? 186).getD default
@[simp] theorem inf186 : Tryd.prog.info? 186 = some I186 := rfl
@[simp] theorem sz186 : I186.size = 1 := by kernel_rfl
@[simp] theorem ze186 : I186.zero = some (.nilFunc) := by kernel_rfl
attribute [simp] Tryd.underlying186
noncomputable def I187 : TypeInfo := (Tryd.prog.info? 187).getD default
@[simp] theorem inf187 : Tryd.prog.info? 187 = some I187 := rfl
@[simp] theorem sz187 : I187.size = 1 := by kernel_rfl
@[simp] theorem ze187 : I187.zero = some (.pointer none) := by kernel_rfl
attribute [simp] Tryd.underlying187
noncomputable def I188 : TypeInfo := (Tryd.prog.info? 188).getD default
@[simp] theorem inf188 : Tryd.prog.info? 188 = some I188 := rfl
@[simp] theorem sz188 : I188.size = 1 := by kernel_rfl
@[simp] theorem ze188 : I188.zero = some (.int .i32 0) := by kernel_rfl
attribute [simp] Tryd.underlying188
noncomputable def I189 : TypeInfo := (Tryd.prog.info? 189).getD default
@[simp] theorem inf189 : Tryd.prog.info? 189 = some I189 := rfl
@[simp] theorem sz189 : I189.size = 1 := by kernel_rfl
@[simp] theorem ze189 : I189.zero = some (.int .i32 0) := by kernel_rfl
attribute [simp] Tryd.underlying189
noncomputable def I190 : TypeInfo := (Tryd.prog.info? 190).getD default
@[simp] theorem inf190 : Tryd.prog.info? 190 = some I190 := rfl
@[simp] theorem sz190 : I190.size = 11 := by kernel_rfl
@[simp] theorem ze190 : I190.zero = some (.agg #[.int .u64 0, .int .u64 0, .int .u32 0, .int .u8 0, .int .u8 0, .int .u8 0, .int .u8 0, .nilFunc, .pointer none, .int .i32 0, .int .i32 0]) := by kernel_rfl
attribute [simp] Tryd.underlying190
noncomputable def I191 : TypeInfo := (Tryd.prog.info? 191).getD default
@[simp] theorem inf191 : Tryd.prog.info? 191 = some I191 := rfl
@[simp] theorem sz191 : I191.size = 11 := by kernel_rfl
@[simp] theorem ze191 : I191.zero = some (.agg #[.int .u64 0, .int .u64 0, .int .u32 0, .int .u8 0, .int .u8 0, .int .u8 0, .int .u8 0, .nilFunc, .pointer none, .int .i32 0, .int .i32 0]) := by kernel_rfl
attribute [simp] Tryd.underlying191
noncomputable def I192 : TypeInfo := (Tryd.prog.info? 192).getD default
@[simp] theorem inf192 : Tryd.prog.info? 192 = some I192 := rfl
@[simp] theorem sz192 : I192.size = 1 := by kernel_rfl
@[simp] theorem ze192 : I192.zero = some (.agg #[.string ⟨#[]⟩]) := by kernel_rfl
attribute [simp] Tryd.underlying192
noncomputable def I193 : TypeInfo := (Tryd.prog.info? 193).getD default
@[simp] theorem inf193 : Tryd.prog.info? 193 = some I193 := rfl
@[simp] theorem sz193 : I193.size = 1 := by kernel_rfl
@[simp] theorem ze193 : I193.zero = some (.agg #[.string ⟨#[]⟩]) := by kernel_rfl
attribute [simp] Tryd.underlying193
noncomputable def I194 : TypeInfo := (Tryd.prog.info? 194).getD default
@[simp] theorem inf194 : Tryd.prog.info? 194 = some I194 := rfl
@[simp] theorem sz194 : I194.size = 1 := by kernel_rfl
@[simp] theorem ze194 : I194.zero = some (.pointer none) := by kernel_rfl
attribute [simp] Tryd.underlying194
end Go.Den
set_option linter.unusedVariables false
namespace Go.Den.Cal
def leap (y : Int) : Bool := decide (y % 4 = 0 ∧ (y % 100 ≠ 0 ∨ y % 400 = 0))
def lp (y : Int) : Int := if leap y then 1 else 0
def mon (y m : Int) : Int :=
  if m = 2 then 28 + lp y
  else if m = 4 ∨ m = 6 ∨ m = 9 ∨ m = 11 then 30
  else if 1 ≤ m ∧ m ≤ 12 then 31 else 0
def bef (y : Int) : Int := 365 * (y - 1) + (y - 1) / 4 - (y - 1) / 100 + (y - 1) / 400
def cum (y m : Int) : Int :=
  if m ≤ 1 then 0 else if m = 2 then 31 else
  if m = 3 then 59 + lp y else if m = 4 then 90 + lp y else if m = 5 then 120 + lp y else
  if m = 6 then 151 + lp y else if m = 7 then 181 + lp y else if m = 8 then 212 + lp y else
  if m = 9 then 243 + lp y else if m = 10 then 273 + lp y else if m = 11 then 304 + lp y else
  if m = 12 then 334 + lp y else 365 + lp y
def num (y m d : Int) : Int := bef y + cum y m + d - 1
def valid (y m d : Int) : Prop := 1 ≤ y ∧ y ≤ 9999 ∧ 1 ≤ m ∧ m ≤ 12 ∧ 1 ≤ d ∧ d ≤ mon y m
theorem lp01 (y : Int) : lp y = 0 ∨ lp y = 1 := by unfold lp; split <;> simp
theorem lp_eq (y : Int) : lp y = if y % 4 = 0 ∧ (y % 100 ≠ 0 ∨ y % 400 = 0) then 1 else 0 := by
  unfold lp leap; by_cases h : y % 4 = 0 ∧ (y % 100 ≠ 0 ∨ y % 400 = 0) <;> simp [h]
theorem bef_succ (y : Int) : bef (y + 1) = bef y + 365 + lp y := by
  rw [lp_eq]; unfold bef; split <;> omega
theorem bef_le (y : Int) (h : 1 ≤ y) : bef y ≤ 366 * (y - 1) := by unfold bef; omega
theorem bef_ge (y : Int) (h : 1 ≤ y) : 365 * (y - 1) ≤ bef y := by unfold bef; omega
theorem bef_mono (a b : Int) (h1 : 1 ≤ a) (h : a ≤ b) : bef a ≤ bef b := by unfold bef; omega
theorem bef_max : bef 10000 = 3652059 := by decide
theorem bef_one : bef 1 = 0 := by decide
theorem mon_pos (y m : Int) (h1 : 1 ≤ m) (h2 : m ≤ 12) : 28 ≤ mon y m ∧ mon y m ≤ 31 := by
  have := lp01 y; unfold mon; split <;> (try split) <;> (try split) <;> omega
theorem mon_le (y m : Int) : 0 ≤ mon y m ∧ mon y m ≤ 31 := by
  have := lp01 y; unfold mon; split <;> (try split) <;> (try split) <;> omega
theorem mon_pos' (y m : Int) (h : 1 ≤ mon y m) : 1 ≤ m ∧ m ≤ 12 := by
  have := lp01 y; unfold mon at h; split at h <;> (try split at h) <;> (try split at h) <;> omega
theorem cum_one (y : Int) : cum y 1 = 0 := by unfold cum; rw [if_pos (by omega)]
theorem cum_13 (y : Int) : cum y 13 = 365 + lp y := by unfold cum; simp
theorem cum_succ (y m : Int) (h1 : 1 ≤ m) (h2 : m ≤ 12) : cum y (m + 1) = cum y m + mon y m := by
  have hl := lp01 y
  have : m = 1 ∨ m = 2 ∨ m = 3 ∨ m = 4 ∨ m = 5 ∨ m = 6 ∨ m = 7 ∨ m = 8 ∨ m = 9 ∨ m = 10 ∨ m = 11 ∨ m = 12 := by omega
  rcases this with rfl | rfl | rfl | rfl | rfl | rfl | rfl | rfl | rfl | rfl | rfl | rfl <;> simp [cum, mon] <;> omega
theorem cum_mono (y a b : Int) (h1 : 1 ≤ a) (h : a ≤ b) (h2 : b ≤ 13) : cum y a ≤ cum y b := by
  have hl := lp01 y
  obtain ⟨d, rfl⟩ : ∃ d : Nat, b = a + d := ⟨(b - a).toNat, by omega⟩
  induction d with
  | zero => simp
  | succ d ih =>
    have h3 := ih (by omega) (by omega)
    have h4 := cum_succ y (a + d) (by omega) (by omega)
    have h5 := mon_le y (a + d)
    have e : a + ((d + 1 : Nat) : Int) = a + d + 1 := by omega
    rw [e, h4]; omega
theorem cum_bd (y m : Int) (h1 : 1 ≤ m) (h2 : m ≤ 13) : 0 ≤ cum y m ∧ cum y m ≤ 366 := by
  have hl := lp01 y
  have h3 := cum_mono y 1 m (by omega) h1 h2
  have h4 := cum_mono y m 13 h1 h2 (by omega)
  rw [cum_one] at h3; rw [cum_13] at h4; omega
theorem num_lt (y m d : Int) (h : valid y m d) : bef y ≤ num y m d ∧ num y m d < bef (y + 1) := by
  obtain ⟨h1, h2, h3, h4, h5, h6⟩ := h
  have h7 := cum_succ y m h3 h4
  have h8 := cum_mono y (m + 1) 13 (by omega) (by omega) (by omega)
  have h9 := cum_bd y m (by omega) (by omega)
  rw [cum_13] at h8
  rw [bef_succ]; unfold num; omega
theorem num_range (y m d : Int) (h : valid y m d) : 0 ≤ num y m d ∧ num y m d ≤ 3652058 := by
  have h1 := num_lt y m d h
  have h2 := bef_mono 1 y (by omega) h.1
  have h3 := bef_mono (y + 1) 10000 (by have := h.1; omega) (by have := h.2.1; omega)
  rw [bef_max] at h3; rw [bef_one] at h2; omega
theorem num_less (y m d y' m' d' : Int) (h : valid y m d) (h' : valid y' m' d')
    (hlt : y < y' ∨ y = y' ∧ (m < m' ∨ m = m' ∧ d < d')) : num y m d < num y' m' d' := by
  rcases hlt with hlt | ⟨rfl, hlt | ⟨rfl, hlt⟩⟩
  · have h1 := num_lt y m d h
    have h2 := num_lt y' m' d' h'
    have h3 := bef_mono (y + 1) y' (by have := h.1; omega) (by omega)
    omega
  · obtain ⟨h1, h2, h3, h4, h5, h6⟩ := h
    obtain ⟨g1, g2, g3, g4, g5, g6⟩ := h'
    have h7 := cum_succ y m h3 h4
    have h8 := cum_mono y (m + 1) m' (by omega) (by omega) (by omega)
    unfold num; omega
  · unfold num; omega
theorem num_inj (y m d y' m' d' : Int) (h : valid y m d) (h' : valid y' m' d') (e : num y m d = num y' m' d') : y = y' ∧ m = m' ∧ d = d' := by
  by_cases h1 : y < y' ∨ y = y' ∧ (m < m' ∨ m = m' ∧ d < d')
  · have := num_less _ _ _ _ _ _ h h' h1; omega
  · by_cases h2 : y' < y ∨ y' = y ∧ (m' < m ∨ m' = m ∧ d' < d)
    · have := num_less _ _ _ _ _ _ h' h h2; omega
    · omega
end Go.Den.Cal
set_option linter.unusedVariables false
namespace Go.Den.Sea
open Go.Den
def off (u e n : Int) : Int := if u = 1 then n * e * 7 else if u = 3 then n * e * 12 else n * e
def dayAdd (a k : Int) : Option Int := if a + k ≤ 3652058 then some (a + k) else none
def cut (y m d : Int) : Int := if d ≤ Cal.mon y m then d else Cal.mon y m
def monAdd (y m d k : Int) : Option Int :=
  if y + (m - 1 + k) / 12 ≤ 9999 then some (Cal.num (y + (m - 1 + k) / 12) ((m - 1 + k) % 12 + 1) (cut (y + (m - 1 + k) / 12) ((m - 1 + k) % 12 + 1) d)) else none
def nth (a y m d u e n : Int) : Option Int := if u ≤ 1 then dayAdd a (off u e n) else monAdd y m d (off u e n)
def out (o : Option Int) : Int × Int := match o with | some x => (x, 0) | none => (0, 6)
theorem off_zero (u e : Int) : off u e 0 = 0 := by unfold off; simp
theorem off_succ (u e n : Int) (he : 1 ≤ e) : off u e n + 1 ≤ off u e (n + 1) := by
  have h : (n + 1) * e = n * e + e := by rw [Int.add_mul, Int.one_mul]
  unfold off; rw [h]; generalize n * e = p; split <;> (try split) <;> omega
theorem mul_bd (n e N E : Int) (h0 : 0 ≤ n) (h1 : n ≤ N) (h2 : 1 ≤ e) (h3 : e ≤ E) : 0 ≤ n * e ∧ n * e ≤ N * E ∧ n ≤ n * e := by
  refine ⟨Int.mul_nonneg h0 (by omega), Int.mul_le_mul h1 h3 (by omega) (by omega), ?_⟩
  have := Int.mul_le_mul_of_nonneg_left h2 h0
  omega
theorem off_ge (u e n : Int) (h0 : 0 ≤ n) (he : 1 ≤ e) : n ≤ off u e n ∧ n * e ≤ off u e n := by
  have h := mul_bd n e n e h0 (by omega) he (by omega)
  unfold off; generalize n * e = p at h ⊢; split <;> (try split) <;> omega
theorem cut_ok (y m d : Int) (h1 : 1 ≤ m) (h2 : m ≤ 12) (hd : 1 ≤ d) : 1 ≤ cut y m d ∧ cut y m d ≤ Cal.mon y m ∧ cut y m d ≤ d := by
  have := Cal.mon_pos y m h1 h2
  unfold cut; split <;> omega
theorem mon_valid (y m d k : Int) (h : Cal.valid y m d) (hk : 0 ≤ k) (hy : y + (m - 1 + k) / 12 ≤ 9999) :
    Cal.valid (y + (m - 1 + k) / 12) ((m - 1 + k) % 12 + 1) (cut (y + (m - 1 + k) / 12) ((m - 1 + k) % 12 + 1) d) := by
  obtain ⟨h1, h2, h3, h4, h5, h6⟩ := h
  have hc := cut_ok (y + (m - 1 + k) / 12) ((m - 1 + k) % 12 + 1) d (by omega) (by omega) h5
  exact ⟨by omega, hy, by omega, by omega, hc.1, hc.2.1⟩
theorem monAdd_lt (y m d j k : Int) (h : Cal.valid y m d) (hj : 0 ≤ j) (hk : j < k) (v x : Int) (e1 : monAdd y m d j = some v) (e2 : monAdd y m d k = some x) : v < x := by
  unfold monAdd at e1 e2
  split at e1
  · split at e2
    · rename_i g1 g2
      obtain rfl := Option.some.inj e1
      obtain rfl := Option.some.inj e2
      have := h.2.2.1
      exact Cal.num_less _ _ _ _ _ _ (mon_valid y m d j h hj g1) (mon_valid y m d k h (by omega) g2) (by omega)
    · cases e2
  · cases e1
theorem monAdd_none (y m d j k : Int) (h : Cal.valid y m d) (hj : 0 ≤ j) (hk : j ≤ k) (e1 : monAdd y m d j = none) : monAdd y m d k = none := by
  unfold monAdd at e1 ⊢
  split at e1
  · cases e1
  · rw [if_neg (by omega)]
theorem dayAdd_lt (a j k : Int) (hk : j < k) (v x : Int) (e1 : dayAdd a j = some v) (e2 : dayAdd a k = some x) : v < x := by
  unfold dayAdd at e1 e2
  split at e1
  · split at e2
    · obtain rfl := Option.some.inj e1
      obtain rfl := Option.some.inj e2
      omega
    · cases e2
  · cases e1
theorem dayAdd_none (a j k : Int) (hk : j ≤ k) (e1 : dayAdd a j = none) : dayAdd a k = none := by
  unfold dayAdd at e1 ⊢
  split at e1
  · cases e1
  · rw [if_neg (by omega)]
theorem nth_zero (a y m d u e : Int) (h : Cal.valid y m d) (ha : Cal.num y m d = a) : nth a y m d u e 0 = some a := by
  have hr := Cal.num_range y m d h
  unfold nth; rw [off_zero]
  split
  · unfold dayAdd; rw [if_pos (by omega)]; simp
  · obtain ⟨h1, h2, h3, h4, h5, h6⟩ := h
    unfold monAdd
    rw [show (m - 1 + 0) / 12 = 0 from by omega, show (m - 1 + 0) % 12 + 1 = m from by omega, show y + 0 = y from by omega, if_pos h2]
    unfold cut; rw [if_pos h6, ha]
theorem off_lt (u e n n' : Int) (he : 1 ≤ e) (h : n < n') : off u e n < off u e n' := by
  obtain ⟨c, rfl⟩ : ∃ c : Nat, n' = n + 1 + c := ⟨(n' - n - 1).toNat, by omega⟩
  clear h
  induction c with
  | zero => have := off_succ u e n he; simp; omega
  | succ c ih =>
    have := off_succ u e (n + 1 + c) he
    rw [show n + 1 + ((c + 1 : Nat) : Int) = n + 1 + c + 1 from by omega]; omega
theorem nth_lt (a y m d u e n n' : Int) (h : Cal.valid y m d) (he : 1 ≤ e) (hn : 0 ≤ n) (hlt : n < n') (v x : Int)
    (e1 : nth a y m d u e n = some v) (e2 : nth a y m d u e n' = some x) : v < x := by
  have h1 := off_lt u e n n' he hlt
  have h2 := off_ge u e n hn he
  unfold nth at e1 e2
  by_cases hu : u ≤ 1
  · rw [if_pos hu] at e1 e2; exact dayAdd_lt a _ _ h1 v x e1 e2
  · rw [if_neg hu] at e1 e2; exact monAdd_lt y m d _ _ h (by omega) h1 v x e1 e2
theorem nth_none (a y m d u e n n' : Int) (h : Cal.valid y m d) (he : 1 ≤ e) (hn : 0 ≤ n) (hle : n ≤ n')
    (e1 : nth a y m d u e n = none) : nth a y m d u e n' = none := by
  rcases Int.lt_or_eq_of_le hle with hlt | rfl
  · have h1 := off_lt u e n n' he hlt
    have h2 := off_ge u e n hn he
    unfold nth at e1 ⊢
    by_cases hu : u ≤ 1
    · rw [if_pos hu] at e1 ⊢; exact dayAdd_none a _ _ (by omega) e1
    · rw [if_neg hu] at e1 ⊢; exact monAdd_none y m d _ _ h (by omega) (by omega) e1
  · exact e1
theorem nth_ge (a y m d u e : Int) (h : Cal.valid y m d) (ha : Cal.num y m d = a) (he : 1 ≤ e) (n : Nat) : ∀ v, nth a y m d u e n = some v → a + n ≤ v := by
  induction n with
  | zero => intro v hv; rw [show ((0 : Nat) : Int) = 0 from rfl, nth_zero a y m d u e h ha] at hv; obtain rfl := Option.some.inj hv; simp
  | succ n ih =>
    intro v hv
    cases hc : nth a y m d u e n with
    | none => rw [nth_none a y m d u e n ((n + 1 : Nat) : Int) h he (by omega) (by omega) hc] at hv; cases hv
    | some x =>
      have h1 := ih x hc
      have h2 := nth_lt a y m d u e n ((n + 1 : Nat) : Int) h he (by omega) (by omega) x v hc hv
      omega
theorem nth_range (a y m d u e n : Int) (h : Cal.valid y m d) (ha : Cal.num y m d = a) (he : 1 ≤ e) (hn : 0 ≤ n) (v : Int) (hv : nth a y m d u e n = some v) : a + n ≤ v ∧ v ≤ 3652058 := by
  refine ⟨?_, ?_⟩
  · obtain ⟨c, rfl⟩ := Int.eq_ofNat_of_zero_le hn
    exact nth_ge a y m d u e h ha he c v hv
  · unfold nth at hv
    have h2 := off_ge u e n hn he
    split at hv
    · unfold dayAdd at hv; split at hv
      · obtain rfl := Option.some.inj hv; omega
      · cases hv
    · unfold monAdd at hv; split at hv
      · rename_i g
        obtain rfl := Option.some.inj hv
        exact (Cal.num_range _ _ _ (mon_valid y m d _ h (by omega) g)).2
      · cases hv
def upto (a y m d u e n day : Int) : Prop := ∃ v, nth a y m d u e n = some v ∧ v ≤ day
theorem upto_down (a y m d u e n n' day : Int) (h : Cal.valid y m d) (he : 1 ≤ e) (hn : 0 ≤ n) (hle : n ≤ n') (hu : upto a y m d u e n' day) : upto a y m d u e n day := by
  obtain ⟨v, h1, h2⟩ := hu
  rcases Int.lt_or_eq_of_le hle with hlt | rfl
  · cases hc : nth a y m d u e n with
    | none => rw [nth_none a y m d u e n n' h he hn hle hc] at h1; cases h1
    | some x => exact ⟨x, hc, by have := nth_lt a y m d u e n n' h he hn hlt x v hc h1; omega⟩
  · exact ⟨v, h1, h2⟩
end Go.Den.Sea
set_option linter.unusedVariables false
namespace Go.Den
theorem Cal.day_ex : ∀ (a : Nat), a ≤ 3652058 → ∃ y m d, Cal.valid y m d ∧ Cal.num y m d = (a : Int)
  | 0, _ => ⟨1, 1, 1, ⟨by decide, by decide, by decide, by decide, by decide, by decide⟩, by decide⟩
  | a + 1, h => by
    obtain ⟨y, m, d, ⟨h1, h2, h3, h4, h5, h6⟩, hn⟩ := Cal.day_ex a (by omega)
    by_cases hd : d < Cal.mon y m
    · exact ⟨y, m, d + 1, ⟨h1, h2, h3, h4, by omega, by omega⟩, by unfold Cal.num at *; omega⟩
    · have hc := Cal.cum_succ y m h3 h4
      by_cases hm : m < 12
      · have hp := Cal.mon_pos y (m + 1) (by omega) (by omega)
        exact ⟨y, m + 1, 1, ⟨h1, h2, by omega, by omega, by omega, by omega⟩, by unfold Cal.num at *; omega⟩
      · have h12 : m = 12 := by omega
        subst h12
        have hp := Cal.mon_pos (y + 1) 1 (by omega) (by omega)
        have hs := Cal.bef_succ y
        have h13 := Cal.cum_13 y
        have h11 := Cal.cum_one (y + 1)
        simp only [Int.reduceAdd] at hc
        refine ⟨y + 1, 1, 1, ⟨by omega, ?_, by omega, by omega, by omega, by omega⟩, by unfold Cal.num at *; omega⟩
        rcases Int.lt_or_le (y + 1) 10000 with q | q
        · omega
        · have q1 := Cal.bef_mono 10000 (y + 1) (by omega) q
          have q2 := Cal.bef_max
          unfold Cal.num at hn; omega
noncomputable def Cal.dt (a : Int) : Int × Int × Int := Classical.epsilon fun p => Cal.valid p.1 p.2.1 p.2.2 ∧ Cal.num p.1 p.2.1 p.2.2 = a
theorem Cal.dt_ok {a : Int} (h0 : 0 ≤ a) (h1 : a ≤ 3652058) : Cal.valid (Cal.dt a).1 (Cal.dt a).2.1 (Cal.dt a).2.2 ∧ Cal.num (Cal.dt a).1 (Cal.dt a).2.1 (Cal.dt a).2.2 = a := by
  obtain ⟨y, m, d, hv, hn⟩ := Cal.day_ex a.toNat (by omega)
  exact Classical.epsilon_spec (p := fun p : Int × Int × Int => Cal.valid p.1 p.2.1 p.2.2 ∧ Cal.num p.1 p.2.1 p.2.2 = a) ⟨(y, m, d), hv, by rw [hn]; omega⟩
theorem Cal.dt_eq {a y m d : Int} (hv : Cal.valid y m d) (hn : Cal.num y m d = a) : Cal.dt a = (y, m, d) := by
  have hr := Cal.num_range y m d hv
  obtain ⟨h1, h2⟩ := Cal.dt_ok (a := a) (by omega) (by omega)
  obtain ⟨e1, e2, e3⟩ := Cal.num_inj _ _ _ _ _ _ h1 hv (h2.trans hn.symm)
  exact Prod.ext e1 (Prod.ext e2 e3)
noncomputable def nthO (a u e n : Int) : Option Int := Sea.nth a (Cal.dt a).1 (Cal.dt a).2.1 (Cal.dt a).2.2 u e n
def Fine (a u e n : Int) : Prop := (0 ≤ a ∧ a ≤ 3652058) ∧ (u ≤ 3 ∧ 1 ≤ e ∧ e ≤ 1000) ∧ (0 ≤ n ∧ n ≤ 3652058)
instance (a u e n : Int) : Decidable (Fine a u e n) := by unfold Fine; infer_instance
noncomputable def nthF (a u e n : Int) : Int × Int := if Fine a u e n then Sea.out (nthO a u e n) else (0, 1)
theorem nthO_eq {a y m d : Int} (u e n : Int) (hv : Cal.valid y m d) (hn : Cal.num y m d = a) : nthO a u e n = Sea.nth a y m d u e n := by unfold nthO; rw [Cal.dt_eq hv hn]
theorem nthF_ok {a u e n : Int} (h : (nthF a u e n).2 = 0) : Fine a u e n ∧ nthO a u e n = some (nthF a u e n).1 := by
  unfold nthF at h ⊢
  split at h
  · rename_i hf
    rw [if_pos hf]
    refine ⟨hf, ?_⟩
    cases hc : nthO a u e n with
    | none => rw [hc] at h; simp [Sea.out] at h
    | some v => simp [Sea.out]
  · simp at h
theorem nthO_range {a u e n v : Int} (h : Fine a u e n) (hv : nthO a u e n = some v) : a + n ≤ v ∧ v ≤ 3652058 := by
  obtain ⟨⟨h1, h2⟩, ⟨h3, h4, h5⟩, h6, h7⟩ := h
  obtain ⟨q1, q2⟩ := Cal.dt_ok h1 h2
  exact Sea.nth_range _ _ _ _ _ _ _ q1 q2 h4 h6 v hv
theorem nthO_zero {a u e : Int} (h1 : 0 ≤ a) (h2 : a ≤ 3652058) : nthO a u e 0 = some a := by
  obtain ⟨q1, q2⟩ := Cal.dt_ok h1 h2
  exact Sea.nth_zero _ _ _ _ _ _ q1 q2
def Up (a u e n day : Int) : Prop := ∃ v, nthO a u e n = some v ∧ v ≤ day
theorem up_down {a u e n n' day : Int} (h1 : 0 ≤ a) (h2 : a ≤ 3652058) (he : 1 ≤ e) (hn : 0 ≤ n) (hle : n ≤ n') (hu : Up a u e n' day) : Up a u e n day := by
  obtain ⟨q1, q2⟩ := Cal.dt_ok h1 h2
  exact Sea.upto_down _ _ _ _ _ _ _ _ _ q1 he hn hle hu
theorem up_not {a u e n day : Int} (h1 : 0 ≤ a) (h2 : a ≤ 3652058) (he : 1 ≤ e) (hn : 0 ≤ n) (h : day < a + n) : ¬ Up a u e n day := by
  rintro ⟨v, e1, e2⟩
  obtain ⟨q1, q2⟩ := Cal.dt_ok h1 h2
  have := (Sea.nth_range _ _ _ _ _ _ _ q1 q2 he hn v e1).1
  omega
theorem up_iff {a u e n day : Int} (h : Fine a u e n) : Up a u e n day ↔ (nthF a u e n).2 = 0 ∧ (nthF a u e n).1 ≤ day := by
  unfold Up nthF
  rw [if_pos h]
  cases hc : nthO a u e n with
  | none => simp [Sea.out]
  | some v => simp [Sea.out]
def Cnt (a u e day c : Int) : Prop := 0 ≤ c ∧ (∀ i, 0 ≤ i → i < c → Up a u e i day) ∧ ¬ Up a u e c day
theorem cnt_one {a u e day c c' : Int} (h : Cnt a u e day c) (h' : Cnt a u e day c') : c = c' := by
  by_cases h1 : c < c'
  · exact absurd (h'.2.1 c h.1 h1) h.2.2
  · by_cases h2 : c' < c
    · exact absurd (h.2.1 c' h'.1 h2) h'.2.2
    · omega
end Go.Den
namespace Go.Den
open Go Go.Proofs
set_option maxRecDepth 100000
set_option maxHeartbeats 1000000
set_option linter.all false
attribute [local simp] evOps evOp absOp absBox absAlloc absLoad absStore absField absIndexAddr absCells absBinOp absBin absInt absShift absUn absPick absNil absExtract absBuild absPlaces Instr.fill absBuiltin absMinMax plainV plainT allA flat cells_agg cells_int cells_bool cells_str cells_ptr cells_sl cells_map one_int one_bool one_str one_ptr one_sl one_map Act.eval Act.put Region.wanted yielded splice absCall TypeDesc.isRow
attribute [local simp] absLen
theorem wrap_in (n : Int) (h0 : -9223372036854775808 ≤ n) (h1 : n ≤ 9223372036854775807) : IntKind.i64.wrap n = n := by
  have := IntKind.wrap_i64 n; omega
theorem tz (y c : Int) : (Int.tmod y c = 0) ↔ (y % c = 0) := ⟨fun h => Int.emod_eq_zero_of_dvd (Int.dvd_of_tmod_eq_zero h), fun h => Int.tmod_eq_zero_of_dvd (Int.dvd_of_emod_eq_zero h)⟩
def validB (y m d : Int) : Bool := decide (1 ≤ y ∧ y ≤ 9999 ∧ 1 ≤ d ∧ d ≤ Cal.mon y m)
theorem valid_t {y m d : Int} (h : validB y m d = true) : Cal.valid y m d := by
  obtain ⟨h1, h2, h3, h4⟩ := of_decide_eq_true h
  have := Cal.mon_pos' y m (by omega)
  exact ⟨h1, h2, this.1, this.2, h3, h4⟩
theorem valid_f {y m d : Int} (h : validB y m d = false) : ¬ Cal.valid y m d := fun ⟨h1, h2, _, _, h5, h6⟩ => of_decide_eq_false h ⟨h1, h2, h5, h6⟩
theorem leap_s (y : Int) (H : Mem) : FSem Tryd.prog [0] 114 #[.int .i64 y] H fun v H' => v = .bool (Cal.leap y) ∧ H' = H := by
  refine FSem.plainT ?_
  refine FSem.ofK Tryd.func114 rfl ?_
  refine DK.from (b' := ⟨#[.int .i64 y, undef, undef, undef, undef, undef, undef, undef, undef, undef, undef, undef, undef, undef, undef, undef], []⟩) (by kernel_rfl) ?_
  refine DK.seq ?_
  refine DK.region (is := [0]) (by kernel_rfl) rfl ?_
  refine WK.run [0] (by simp; constructor <;> rfl) ?_
  refine WK.nil ?_
  refine DK.seq ?_
  refine DK.region (is := [0, 1, 2, 3, 4, 5, 6, 7, 8, 9, 10, 11, 12, 13]) (by kernel_rfl) rfl ?_
  refine WK.run [0, 1, 2, 3] (by simp; constructor <;> rfl) ?_
  refine WK.split (t := 6) rfl (fun h => ?_) (fun h => ?_)
  · try simp only [h]
    replace h := Tr.out h
    refine WK.run [4, 5, 6, 7] (by simp; constructor <;> rfl) ?_
    refine WK.split (t := 10) rfl (fun h => ?_) (fun h => ?_)
    · try simp only [h]
      replace h := Tr.out h
      refine WK.run [8, 9, 10, 11, 12, 13] (by simp; constructor <;> rfl) ?_
      refine WK.nil ?_
      refine DK.ret ?_
      refine And.intro (Or.inr rfl) ?_
      refine ⟨_, by simp [absAnswer, absResults, absResult, Tryd.f114]; rfl, ?_⟩
      refine ⟨by first | exact ⟨[], (List.append_nil _).symm⟩ | exact ⟨_, rfl⟩, by simp, ?_⟩
      simp_all [Cal.leap, tz] <;> first | omega | (rw [Bool.eq_iff_iff]; simp [tz]; done) | (rw [Bool.eq_iff_iff]; simp [tz]; omega)
    try simp only [h]
    replace h := Fa.out h
    refine WK.run [8, 9, 10, 11, 12, 13] (by simp; constructor <;> rfl) ?_
    refine WK.nil ?_
    refine DK.ret ?_
    refine And.intro (Or.inr rfl) ?_
    refine ⟨_, by simp [absAnswer, absResults, absResult, Tryd.f114]; rfl, ?_⟩
    refine ⟨by first | exact ⟨[], (List.append_nil _).symm⟩ | exact ⟨_, rfl⟩, by simp, ?_⟩
    simp_all [Cal.leap, tz] <;> first | omega | (rw [Bool.eq_iff_iff]; simp [tz]; done) | (rw [Bool.eq_iff_iff]; simp [tz]; omega)
  try simp only [h]
  replace h := Fa.out h
  refine WK.run [4, 5, 6, 7, 8, 9, 10, 11, 12, 13] (by simp; constructor <;> rfl) ?_
  refine WK.nil ?_
  refine DK.ret ?_
  refine And.intro (Or.inr rfl) ?_
  refine ⟨_, by simp [absAnswer, absResults, absResult, Tryd.f114]; rfl, ?_⟩
  refine ⟨by first | exact ⟨[], (List.append_nil _).symm⟩ | exact ⟨_, rfl⟩, by simp, ?_⟩
  simp_all [Cal.leap, tz] <;> first | omega | (rw [Bool.eq_iff_iff]; simp [tz]; done) | (rw [Bool.eq_iff_iff]; simp [tz]; omega)
theorem month_s (y m : Int) (H : Mem) : FSem Tryd.prog [0] 111 #[.int .i64 y, .int .i64 m] H fun v H' => v = .int .i64 (Cal.mon y m) ∧ H' = H := by
  refine FSem.plainT ?_
  refine FSem.ofK Tryd.func111 rfl ?_
  refine DK.from (b' := ⟨#[.int .i64 y, .int .i64 m, undef, undef, undef, undef, undef, undef, undef, undef, undef, undef, undef, undef, undef, undef, undef, undef, undef, undef, undef, undef, undef], []⟩) (by kernel_rfl) ?_
  refine DK.seq ?_
  refine DK.region (is := [0]) (by kernel_rfl) rfl ?_
  refine WK.run [0] (by simp; constructor <;> rfl) ?_
  refine WK.nil ?_
  refine DK.seq ?_
  refine DK.seq ?_
  refine DK.region (is := [0]) (by kernel_rfl) rfl ?_
  refine WK.run [0] (by simp; constructor <;> rfl) ?_
  refine WK.nil ?_
  refine DK.block ?_
  refine DK.seq ?_
  refine DK.seq ?_
  refine DK.region (is := [0, 1]) (by kernel_rfl) rfl ?_
  refine WK.run [0, 1] (by simp; constructor <;> rfl) ?_
  refine WK.nil ?_
  refine DK.test rfl rfl (fun h => ?_) (fun h => ?_)
  · try simp only [h]
    replace h := Tr.out h
    refine DK.skip ?_
    refine DK.yes rfl rfl ?_
    refine DK.seq ?_
    refine DK.region (is := [0]) (by kernel_rfl) rfl ?_
    refine WK.run [0] (by simp; constructor <;> rfl) ?_
    refine WK.nil ?_
    refine DK.ret ?_
    refine And.intro (Or.inr rfl) ?_
    refine ⟨_, by simp [absAnswer, absResults, absResult, Tryd.f111]; rfl, ?_⟩
    refine ⟨by first | exact ⟨[], (List.append_nil _).symm⟩ | exact ⟨_, rfl⟩, by simp, ?_⟩
    simp_all [Cal.mon, Cal.lp] <;> omega
  try simp only [h]
  replace h := Fa.out h
  refine DK.seq ?_
  refine DK.region (is := [0, 1]) (by kernel_rfl) rfl ?_
  refine WK.run [0, 1] (by simp; constructor <;> rfl) ?_
  refine WK.nil ?_
  refine DK.test rfl rfl (fun h => ?_) (fun h => ?_)
  · try simp only [h]
    replace h := Tr.out h
    refine DK.skip ?_
    refine DK.yes rfl rfl ?_
    refine DK.seq ?_
    refine DK.region (is := [0]) (by kernel_rfl) rfl ?_
    refine WK.run [0] (by simp; constructor <;> rfl) ?_
    refine WK.nil ?_
    refine DK.ret ?_
    refine And.intro (Or.inr rfl) ?_
    refine ⟨_, by simp [absAnswer, absResults, absResult, Tryd.f111]; rfl, ?_⟩
    refine ⟨by first | exact ⟨[], (List.append_nil _).symm⟩ | exact ⟨_, rfl⟩, by simp, ?_⟩
    simp_all [Cal.mon, Cal.lp] <;> omega
  try simp only [h]
  replace h := Fa.out h
  refine DK.seq ?_
  refine DK.region (is := [0, 1]) (by kernel_rfl) rfl ?_
  refine WK.run [0, 1] (by simp; constructor <;> rfl) ?_
  refine WK.nil ?_
  refine DK.test rfl rfl (fun h => ?_) (fun h => ?_)
  · try simp only [h]
    replace h := Tr.out h
    refine DK.skip ?_
    refine DK.yes rfl rfl ?_
    refine DK.seq ?_
    refine DK.region (is := [0]) (by kernel_rfl) rfl ?_
    refine WK.run [0] (by simp; constructor <;> rfl) ?_
    refine WK.nil ?_
    refine DK.ret ?_
    refine And.intro (Or.inr rfl) ?_
    refine ⟨_, by simp [absAnswer, absResults, absResult, Tryd.f111]; rfl, ?_⟩
    refine ⟨by first | exact ⟨[], (List.append_nil _).symm⟩ | exact ⟨_, rfl⟩, by simp, ?_⟩
    simp_all [Cal.mon, Cal.lp] <;> omega
  try simp only [h]
  replace h := Fa.out h
  refine DK.seq ?_
  refine DK.region (is := [0, 1]) (by kernel_rfl) rfl ?_
  refine WK.run [0, 1] (by simp; constructor <;> rfl) ?_
  refine WK.nil ?_
  refine DK.test rfl rfl (fun h => ?_) (fun h => ?_)
  · try simp only [h]
    replace h := Tr.out h
    refine DK.skip ?_
    refine DK.yes rfl rfl ?_
    refine DK.seq ?_
    refine DK.region (is := [0]) (by kernel_rfl) rfl ?_
    refine WK.run [0] (by simp; constructor <;> rfl) ?_
    refine WK.nil ?_
    refine DK.ret ?_
    refine And.intro (Or.inr rfl) ?_
    refine ⟨_, by simp [absAnswer, absResults, absResult, Tryd.f111]; rfl, ?_⟩
    refine ⟨by first | exact ⟨[], (List.append_nil _).symm⟩ | exact ⟨_, rfl⟩, by simp, ?_⟩
    simp_all [Cal.mon, Cal.lp] <;> omega
  try simp only [h]
  replace h := Fa.out h
  refine DK.seq ?_
  refine DK.region (is := [0, 1]) (by kernel_rfl) rfl ?_
  refine WK.run [0, 1] (by simp; constructor <;> rfl) ?_
  refine WK.nil ?_
  refine DK.test rfl rfl (fun h => ?_) (fun h => ?_)
  · try simp only [h]
    replace h := Tr.out h
    refine DK.skip ?_
    refine DK.yes rfl rfl ?_
    refine DK.seq ?_
    refine DK.region (is := [0]) (by kernel_rfl) rfl ?_
    refine WK.run [0] (by simp; constructor <;> rfl) ?_
    refine WK.nil ?_
    refine DK.ret ?_
    refine And.intro (Or.inr rfl) ?_
    refine ⟨_, by simp [absAnswer, absResults, absResult, Tryd.f111]; rfl, ?_⟩
    refine ⟨by first | exact ⟨[], (List.append_nil _).symm⟩ | exact ⟨_, rfl⟩, by simp, ?_⟩
    simp_all [Cal.mon, Cal.lp] <;> omega
  try simp only [h]
  replace h := Fa.out h
  refine DK.seq ?_
  refine DK.region (is := [0, 1]) (by kernel_rfl) rfl ?_
  refine WK.run [0, 1] (by simp; constructor <;> rfl) ?_
  refine WK.nil ?_
  refine DK.test rfl rfl (fun h => ?_) (fun h => ?_)
  · try simp only [h]
    replace h := Tr.out h
    refine DK.skip ?_
    refine DK.yes rfl rfl ?_
    refine DK.seq ?_
    refine DK.region (is := [0]) (by kernel_rfl) rfl ?_
    refine WK.run [0] (by simp; constructor <;> rfl) ?_
    refine WK.nil ?_
    refine DK.ret ?_
    refine And.intro (Or.inr rfl) ?_
    refine ⟨_, by simp [absAnswer, absResults, absResult, Tryd.f111]; rfl, ?_⟩
    refine ⟨by first | exact ⟨[], (List.append_nil _).symm⟩ | exact ⟨_, rfl⟩, by simp, ?_⟩
    simp_all [Cal.mon, Cal.lp] <;> omega
  try simp only [h]
  replace h := Fa.out h
  refine DK.region (is := [0, 1]) (by kernel_rfl) rfl ?_
  refine WK.run [0, 1] (by simp; constructor <;> rfl) ?_
  refine WK.nil ?_
  refine DK.test rfl rfl (fun h => ?_) (fun h => ?_)
  · try simp only [h]
    replace h := Tr.out h
    refine DK.seq ?_
    refine DK.region (is := [0]) (by kernel_rfl) rfl ?_
    refine WK.run [0] (by simp; constructor <;> rfl) ?_
    refine WK.nil ?_
    refine DK.ret ?_
    refine And.intro (Or.inr rfl) ?_
    refine ⟨_, by simp [absAnswer, absResults, absResult, Tryd.f111]; rfl, ?_⟩
    refine ⟨by first | exact ⟨[], (List.append_nil _).symm⟩ | exact ⟨_, rfl⟩, by simp, ?_⟩
    simp_all [Cal.mon, Cal.lp] <;> omega
  try simp only [h]
  replace h := Fa.out h
  refine DK.seq ?_
  refine DK.seq ?_
  refine DK.region (is := [0, 1]) (by kernel_rfl) rfl ?_
  refine WK.run [0, 1] (by simp; constructor <;> rfl) ?_
  refine WK.nil ?_
  refine DK.test rfl rfl (fun h => ?_) (fun h => ?_)
  · try simp only [h]
    replace h := Tr.out h
    refine DK.skip ?_
    refine DK.yes rfl rfl ?_
    refine DK.seq ?_
    refine DK.region (is := [0]) (by kernel_rfl) rfl ?_
    refine WK.run [0] (by simp; constructor <;> rfl) ?_
    refine WK.nil ?_
    refine DK.ret ?_
    refine And.intro (Or.inr rfl) ?_
    refine ⟨_, by simp [absAnswer, absResults, absResult, Tryd.f111]; rfl, ?_⟩
    refine ⟨by first | exact ⟨[], (List.append_nil _).symm⟩ | exact ⟨_, rfl⟩, by simp, ?_⟩
    simp_all [Cal.mon, Cal.lp] <;> omega
  try simp only [h]
  replace h := Fa.out h
  refine DK.seq ?_
  refine DK.region (is := [0, 1]) (by kernel_rfl) rfl ?_
  refine WK.run [0, 1] (by simp; constructor <;> rfl) ?_
  refine WK.nil ?_
  refine DK.test rfl rfl (fun h => ?_) (fun h => ?_)
  · try simp only [h]
    replace h := Tr.out h
    refine DK.skip ?_
    refine DK.yes rfl rfl ?_
    refine DK.seq ?_
    refine DK.region (is := [0]) (by kernel_rfl) rfl ?_
    refine WK.run [0] (by simp; constructor <;> rfl) ?_
    refine WK.nil ?_
    refine DK.ret ?_
    refine And.intro (Or.inr rfl) ?_
    refine ⟨_, by simp [absAnswer, absResults, absResult, Tryd.f111]; rfl, ?_⟩
    refine ⟨by first | exact ⟨[], (List.append_nil _).symm⟩ | exact ⟨_, rfl⟩, by simp, ?_⟩
    simp_all [Cal.mon, Cal.lp] <;> omega
  try simp only [h]
  replace h := Fa.out h
  refine DK.seq ?_
  refine DK.region (is := [0, 1]) (by kernel_rfl) rfl ?_
  refine WK.run [0, 1] (by simp; constructor <;> rfl) ?_
  refine WK.nil ?_
  refine DK.test rfl rfl (fun h => ?_) (fun h => ?_)
  · try simp only [h]
    replace h := Tr.out h
    refine DK.skip ?_
    refine DK.yes rfl rfl ?_
    refine DK.seq ?_
    refine DK.region (is := [0]) (by kernel_rfl) rfl ?_
    refine WK.run [0] (by simp; constructor <;> rfl) ?_
    refine WK.nil ?_
    refine DK.ret ?_
    refine And.intro (Or.inr rfl) ?_
    refine ⟨_, by simp [absAnswer, absResults, absResult, Tryd.f111]; rfl, ?_⟩
    refine ⟨by first | exact ⟨[], (List.append_nil _).symm⟩ | exact ⟨_, rfl⟩, by simp, ?_⟩
    simp_all [Cal.mon, Cal.lp] <;> omega
  try simp only [h]
  replace h := Fa.out h
  refine DK.region (is := [0, 1]) (by kernel_rfl) rfl ?_
  refine WK.run [0, 1] (by simp; constructor <;> rfl) ?_
  refine WK.nil ?_
  refine DK.test rfl rfl (fun h => ?_) (fun h => ?_)
  · try simp only [h]
    replace h := Tr.out h
    refine DK.seq ?_
    refine DK.region (is := [0]) (by kernel_rfl) rfl ?_
    refine WK.run [0] (by simp; constructor <;> rfl) ?_
    refine WK.nil ?_
    refine DK.ret ?_
    refine And.intro (Or.inr rfl) ?_
    refine ⟨_, by simp [absAnswer, absResults, absResult, Tryd.f111]; rfl, ?_⟩
    refine ⟨by first | exact ⟨[], (List.append_nil _).symm⟩ | exact ⟨_, rfl⟩, by simp, ?_⟩
    simp_all [Cal.mon, Cal.lp] <;> omega
  try simp only [h]
  replace h := Fa.out h
  refine DK.seq ?_
  refine DK.region (is := [0, 1]) (by kernel_rfl) rfl ?_
  refine WK.run [0, 1] (by simp; constructor <;> rfl) ?_
  refine WK.nil ?_
  refine DK.test rfl rfl (fun h => ?_) (fun h => ?_)
  · try simp only [h]
    replace h := Tr.out h
    refine DK.seq ?_
    refine DK.seq ?_
    refine DK.region (is := [0, 1]) (by kernel_rfl) rfl ?_
    refine WK.run [0] (by simp; constructor <;> rfl) ?_
    refine WK.call rfl (by simp) (by simp [Tryd.func114, Tryd.f114]; constructor <;> rfl) ?_
    refine FSem.mono (leap_s _ _) ?_
    rintro _ _ ⟨rfl, rfl⟩
    refine WK.nil ?_
    refine DK.test rfl rfl (fun h => ?_) (fun h => ?_)
    · try simp only [h]
      replace h := Tr.out h
      refine DK.seq ?_
      refine DK.region (is := [0]) (by kernel_rfl) rfl ?_
      refine WK.run [0] (by simp; constructor <;> rfl) ?_
      refine WK.nil ?_
      refine DK.ret ?_
      refine And.intro (Or.inr rfl) ?_
      refine ⟨_, by simp [absAnswer, absResults, absResult, Tryd.f111]; rfl, ?_⟩
      refine ⟨by first | exact ⟨[], (List.append_nil _).symm⟩ | exact ⟨_, rfl⟩, by simp, ?_⟩
      simp_all [Cal.mon, Cal.lp] <;> omega
    try simp only [h]
    replace h := Fa.out h
    refine DK.skip ?_
    refine DK.seq ?_
    refine DK.region (is := [0]) (by kernel_rfl) rfl ?_
    refine WK.run [0] (by simp; constructor <;> rfl) ?_
    refine WK.nil ?_
    refine DK.ret ?_
    refine And.intro (Or.inr rfl) ?_
    refine ⟨_, by simp [absAnswer, absResults, absResult, Tryd.f111]; rfl, ?_⟩
    refine ⟨by first | exact ⟨[], (List.append_nil _).symm⟩ | exact ⟨_, rfl⟩, by simp, ?_⟩
    simp_all [Cal.mon, Cal.lp] <;> omega
  try simp only [h]
  replace h := Fa.out h
  refine DK.skip ?_
  refine DK.seq ?_
  refine DK.region (is := [0]) (by kernel_rfl) rfl ?_
  refine WK.run [0] (by simp; constructor <;> rfl) ?_
  refine WK.nil ?_
  refine DK.ret ?_
  refine And.intro (Or.inr rfl) ?_
  refine ⟨_, by simp [absAnswer, absResults, absResult, Tryd.f111]; rfl, ?_⟩
  refine ⟨by first | exact ⟨[], (List.append_nil _).symm⟩ | exact ⟨_, rfl⟩, by simp, ?_⟩
  simp_all [Cal.mon, Cal.lp] <;> omega
theorem cright_s (y m d : Int) (H : Mem) : FSem Tryd.prog [0] 112 #[.agg #[.int .i64 y, .int .i64 m, .int .i64 d]] H fun v H' => v = .bool (validB y m d) ∧ H' = H := by
  refine FSem.plainT ?_
  refine FSem.ofK Tryd.func112 rfl ?_
  refine DK.from (b' := ⟨#[.agg #[.int .i64 y, .int .i64 m, .int .i64 d], undef, undef, undef, undef, undef, undef, undef, undef, undef, undef, undef, undef, undef, undef, undef, undef, undef, undef, undef, undef, undef, undef, undef, undef, undef], []⟩) (by kernel_rfl) ?_
  refine DK.seq ?_
  refine DK.region (is := [0, 1]) (by kernel_rfl) rfl ?_
  refine WK.run [0, 1] (by simp; constructor <;> rfl) ?_
  refine WK.nil ?_
  refine DK.seq ?_
  refine DK.draw rfl (POk.of (ord := [0, 1, 2, 3, 4, 5, 6, 7, 8, 9, 10, 11, 12, 13, 14, 15, 16, 17, 18, 19, 20, 21, 22, 23]) (by kernel_rfl)) ?_
  refine XK.run [0, 1, 2, 3] (by kernel_rfl) (by simp; constructor <;> rfl) ?_
  refine XK.split (t := 6) rfl (fun h => ?_) (fun h => ?_)
  · try simp only [h]
    replace h := Tr.out h
    refine XK.run [4, 5, 6, 7, 8] (by kernel_rfl) (by simp; constructor <;> rfl) ?_
    refine XK.split (t := 11) rfl (fun h => ?_) (fun h => ?_)
    · try simp only [h]
      replace h := Tr.out h
      refine XK.run [9, 10, 11, 12, 13] (by kernel_rfl) (by simp; constructor <;> rfl) ?_
      refine XK.split (t := 16) rfl (fun h => ?_) (fun h => ?_)
      · try simp only [h]
        replace h := Tr.out h
        refine XK.run [14, 15, 16, 17, 18, 19] (by kernel_rfl) (by simp; constructor <;> rfl) ?_
        refine XK.call rfl (by simp) rfl (by simp [Tryd.func111, Tryd.f111]; constructor <;> rfl) ?_
        refine FSem.mono (month_s _ _ _) ?_
        rintro _ _ ⟨rfl, rfl⟩
        refine And.intro (lag_list (l := [15]) (by kernel_rfl) (lag_cons (lag_one rfl (by simp; constructor <;> rfl) rfl (by simp) (by simp [sameL, sameV_agg, sameV_int, sameV_bool, sameV_str, sameV_ptr, sameV_sl, sameV_map, same1_int, same1_bool, same1_str, same1_ptr, same1_sl, same1_map]) rfl) rfl)) ?_
        refine XK.run [21, 22] (by kernel_rfl) (by simp; constructor <;> rfl) ?_
        refine XK.one rfl (by simp) rfl (by simp; constructor <;> rfl) (lag_list (l := []) (by kernel_rfl) rfl) ?_
        refine XK.nil ?_
        refine DK.ret ?_
        refine And.intro (Or.inr rfl) ?_
        refine ⟨_, by simp [absAnswer, absResults, absResult, Tryd.f112]; rfl, ?_⟩
        refine ⟨by first | exact ⟨[], (List.append_nil _).symm⟩ | exact ⟨_, rfl⟩, by simp, ?_⟩
        simp_all [validB] <;> omega
      try simp only [h]
      replace h := Fa.out h
      refine XK.run [14, 15, 16, 17, 18, 19] (by kernel_rfl) (by simp; constructor <;> rfl) ?_
      refine XK.pass rfl (by simp) (by simp; exact rfl) ?_
      refine XK.run [21, 22] (by kernel_rfl) (by simp; constructor <;> rfl) ?_
      refine XK.one rfl (by simp) rfl (by simp; constructor <;> rfl) (lag_list (l := []) (by kernel_rfl) rfl) ?_
      refine XK.nil ?_
      refine DK.ret ?_
      refine And.intro (Or.inr rfl) ?_
      refine ⟨_, by simp [absAnswer, absResults, absResult, Tryd.f112]; rfl, ?_⟩
      refine ⟨by first | exact ⟨[], (List.append_nil _).symm⟩ | exact ⟨_, rfl⟩, by simp, ?_⟩
      simp_all [validB] <;> omega
    try simp only [h]
    replace h := Fa.out h
    refine XK.run [9, 10, 11, 12, 13, 14, 15, 16, 17, 18, 19] (by kernel_rfl) (by simp; constructor <;> rfl) ?_
    refine XK.pass rfl (by simp) (by simp; exact rfl) ?_
    refine XK.run [21, 22] (by kernel_rfl) (by simp; constructor <;> rfl) ?_
    refine XK.one rfl (by simp) rfl (by simp; constructor <;> rfl) (lag_list (l := []) (by kernel_rfl) rfl) ?_
    refine XK.nil ?_
    refine DK.ret ?_
    refine And.intro (Or.inr rfl) ?_
    refine ⟨_, by simp [absAnswer, absResults, absResult, Tryd.f112]; rfl, ?_⟩
    refine ⟨by first | exact ⟨[], (List.append_nil _).symm⟩ | exact ⟨_, rfl⟩, by simp, ?_⟩
    simp_all [validB] <;> omega
  try simp only [h]
  replace h := Fa.out h
  refine XK.run [4, 5, 6, 7, 8, 9, 10, 11, 12, 13, 14, 15, 16, 17, 18, 19] (by kernel_rfl) (by simp; constructor <;> rfl) ?_
  refine XK.pass rfl (by simp) (by simp; exact rfl) ?_
  refine XK.run [21, 22] (by kernel_rfl) (by simp; constructor <;> rfl) ?_
  refine XK.one rfl (by simp) rfl (by simp; constructor <;> rfl) (lag_list (l := []) (by kernel_rfl) rfl) ?_
  refine XK.nil ?_
  refine DK.ret ?_
  refine And.intro (Or.inr rfl) ?_
  refine ⟨_, by simp [absAnswer, absResults, absResult, Tryd.f112]; rfl, ?_⟩
  refine ⟨by first | exact ⟨[], (List.append_nil _).symm⟩ | exact ⟨_, rfl⟩, by simp, ?_⟩
  simp_all [validB] <;> omega
theorem before_s (y : Int) (h0 : 1 ≤ y) (h1 : y ≤ 20000) (H : Mem) : FSem Tryd.prog [0] 110 #[.int .i64 y] H fun v H' => v = .int .i64 (Cal.bef y) ∧ H' = H := by
  refine FSem.plainT ?_
  refine FSem.ofK Tryd.func110 rfl ?_
  refine DK.from (b' := ⟨#[.int .i64 y, undef, undef, undef, undef, undef, undef, undef, undef, undef, undef, undef, undef, undef, undef, undef, undef], []⟩) (by kernel_rfl) ?_
  refine DK.seq ?_
  refine DK.region (is := [0]) (by kernel_rfl) rfl ?_
  refine WK.run [0] (by simp; (try simp (disch := omega) only [wrap_in, Int.tdiv_eq_ediv_of_nonneg, Int.tmod_eq_emod_of_nonneg]); constructor <;> rfl) ?_
  refine WK.nil ?_
  refine DK.seq ?_
  refine DK.region (is := [0, 1, 2]) (by kernel_rfl) rfl ?_
  refine WK.run [0, 1, 2] (by simp; (try simp (disch := omega) only [wrap_in, Int.tdiv_eq_ediv_of_nonneg, Int.tmod_eq_emod_of_nonneg]); constructor <;> rfl) ?_
  refine WK.nil ?_
  refine DK.seq ?_
  refine DK.region (is := [0, 1, 2, 3, 4, 5, 6, 7, 8, 9, 10, 11]) (by kernel_rfl) rfl ?_
  refine WK.run [0, 1, 2, 3, 4, 5, 6, 7, 8, 9, 10, 11] (by simp; (try simp (disch := omega) only [wrap_in, Int.tdiv_eq_ediv_of_nonneg, Int.tmod_eq_emod_of_nonneg]); constructor <;> rfl) ?_
  refine WK.nil ?_
  refine DK.ret ?_
  refine And.intro (Or.inr rfl) ?_
  refine ⟨_, by simp [absAnswer, absResults, absResult, Tryd.f110]; rfl, ?_⟩
  refine ⟨by first | exact ⟨[], (List.append_nil _).symm⟩ | exact ⟨_, rfl⟩, by simp, ?_⟩
  simp only [Cal.bef]
theorem number_s (y m d : Int) (H : Mem) : FSem Tryd.prog [0] 106 #[.agg #[.int .i64 y, .int .i64 m, .int .i64 d]] H fun v H' => (∃ n e, v = .tuple #[.int .i64 n, .int .i64 e] ∧ (Cal.valid y m d → n = Cal.num y m d ∧ e = 0) ∧ (¬ Cal.valid y m d → n = 0 ∧ e = 1)) ∧ H' = H := by
  refine FSem.plainT ?_
  refine FSem.ofK Tryd.func106 rfl ?_
  refine DK.from (b' := ⟨#[.agg #[.int .i64 y, .int .i64 m, .int .i64 d], undef, undef, undef, undef, undef, undef, undef, undef, undef, undef, undef, undef, undef, undef, undef, undef, undef, undef, undef, undef, undef, undef, undef, undef, undef, undef, undef, undef], []⟩) (by kernel_rfl) ?_
  refine DK.seq ?_
  refine DK.region (is := [0, 1, 2]) (by kernel_rfl) rfl ?_
  refine WK.run [0, 1, 2] (by simp; (try simp (disch := omega) only [wrap_in, Int.tdiv_eq_ediv_of_nonneg, Int.tmod_eq_emod_of_nonneg]); constructor <;> rfl) ?_
  refine WK.nil ?_
  refine DK.seq ?_
  refine DK.seq ?_
  refine DK.region (is := [0, 1, 2]) (by kernel_rfl) rfl ?_
  refine WK.run [0] (by simp; (try simp (disch := omega) only [wrap_in, Int.tdiv_eq_ediv_of_nonneg, Int.tmod_eq_emod_of_nonneg]); constructor <;> rfl) ?_
  refine WK.call rfl (by simp) (by simp [Tryd.func112, Tryd.f112]; (try simp (disch := omega) only [wrap_in, Int.tdiv_eq_ediv_of_nonneg, Int.tmod_eq_emod_of_nonneg]); constructor <;> rfl) ?_
  refine FSem.mono (cright_s _ _ _ _) ?_
  rintro _ _ ⟨rfl, rfl⟩
  refine WK.run [2] (by simp; (try simp (disch := omega) only [wrap_in, Int.tdiv_eq_ediv_of_nonneg, Int.tmod_eq_emod_of_nonneg]); constructor <;> rfl) ?_
  refine WK.nil ?_
  refine DK.test rfl rfl (fun h => ?_) (fun h => ?_)
  · try simp only [h]
    replace h := Tr.out h
    have hv := valid_f h
    refine DK.seq ?_
    refine DK.region (is := [0, 1]) (by kernel_rfl) rfl ?_
    refine WK.run [0, 1] (by simp; (try simp (disch := omega) only [wrap_in, Int.tdiv_eq_ediv_of_nonneg, Int.tmod_eq_emod_of_nonneg]); constructor <;> rfl) ?_
    refine WK.nil ?_
    refine DK.ret ?_
    refine And.intro (Or.inr rfl) ?_
    refine ⟨_, by simp [absAnswer, absResults, absResult, Tryd.f106]; rfl, ?_⟩
    refine ⟨by first | exact ⟨[], (List.append_nil _).symm⟩ | exact ⟨_, rfl⟩, by simp, ?_⟩
    first | exact ⟨_, _, rfl, fun h => absurd h hv, fun _ => ⟨rfl, rfl⟩⟩ | (have hk : k = m := (by omega); subst hk; exact ⟨_, _, rfl, fun _ => ⟨by unfold Cal.num; omega, rfl⟩, fun h => absurd hv h⟩)
  try simp only [h]
  replace h := Fa.out h
  have hv := valid_t h
  obtain ⟨v1, v2, v3, v4, v5, v6⟩ := id hv
  have hm := Cal.mon_le y m
  have hb1 := Cal.bef_ge y v1
  have hb2 := Cal.bef_le y v1
  refine DK.skip ?_
  refine DK.seq ?_
  refine DK.draw rfl (POk.of (ord := [0, 1, 3, 4, 2, 5, 6, 7]) (by kernel_rfl)) ?_
  refine XK.run [0, 1, 3, 4] (by kernel_rfl) (by simp; (try simp (disch := omega) only [wrap_in, Int.tdiv_eq_ediv_of_nonneg, Int.tmod_eq_emod_of_nonneg]); constructor <;> rfl) ?_
  refine XK.call rfl (by simp) rfl (by simp [Tryd.func110, Tryd.f110]; (try simp (disch := omega) only [wrap_in, Int.tdiv_eq_ediv_of_nonneg, Int.tmod_eq_emod_of_nonneg]); constructor <;> rfl) ?_
  refine FSem.mono (before_s _ (by omega) (by omega) _) ?_
  rintro _ _ ⟨rfl, rfl⟩
  refine And.intro (lag_list (l := [4]) (by kernel_rfl) (lag_cons (lag_one rfl (by simp; (try simp (disch := omega) only [wrap_in, Int.tdiv_eq_ediv_of_nonneg, Int.tmod_eq_emod_of_nonneg]); constructor <;> rfl) rfl (by simp) (by simp [sameL, sameV_agg, sameV_int, sameV_bool, sameV_str, sameV_ptr, sameV_sl, sameV_map, same1_int, same1_bool, same1_str, same1_ptr, same1_sl, same1_map]) rfl) rfl)) ?_
  refine XK.run [5, 6] (by kernel_rfl) (by simp; (try simp (disch := omega) only [wrap_in, Int.tdiv_eq_ediv_of_nonneg, Int.tmod_eq_emod_of_nonneg]); constructor <;> rfl) ?_
  refine XK.one rfl (by simp) rfl (by simp; (try simp (disch := omega) only [wrap_in, Int.tdiv_eq_ediv_of_nonneg, Int.tmod_eq_emod_of_nonneg]); constructor <;> rfl) (lag_list (l := []) (by kernel_rfl) rfl) ?_
  refine XK.nil ?_
  refine DK.seq ?_
  refine DK.seq ?_
  refine DK.region (is := [0]) (by kernel_rfl) rfl ?_
  refine WK.run [0] (by simp; (try simp (disch := omega) only [wrap_in, Int.tdiv_eq_ediv_of_nonneg, Int.tmod_eq_emod_of_nonneg]); constructor <;> rfl) ?_
  refine WK.nil ?_
  refine DK.block ?_
  refine DK.loopM [4, 5, 16, 17, 18, 19, 20, 21, 22, 23, 24, 25, 26, 27] (fun fl vs => ∃ (x k : Int) (j16 j17 j18 j19 j20 j21 j22 j23 j24 j25 j26 j27 : Value), vs = [.int .i64 x, .int .i64 k, j16, j17, j18, j19, j20, j21, j22, j23, j24, j25, j26, j27] ∧ 1 ≤ k ∧ k ≤ m ∧ x = Cal.bef y + d - 1 + Cal.cum y k ∧ fl = (m - k).toNat) ((m - 1).toNat) (by kernel_rfl) ?_ ?_
  · refine ⟨_, _, _, _, _, _, _, _, _, _, _, _, _, _, rfl, ?_⟩
    refine ⟨by omega, by omega, ?_, rfl⟩
    rw [Cal.cum_one]; omega
  rintro fl _ ⟨x, k, j16, j17, j18, j19, j20, j21, j22, j23, j24, j25, j26, j27, rfl, hf⟩
  obtain ⟨hk1, hk2, hx, hn⟩ := hf
  have hc := Cal.cum_bd y k hk1 (by omega)
  have hm2 := Cal.mon_le y k
  refine DK.from (by simp [setL]; exact rfl) ?_
  refine DK.seq ?_
  refine DK.seq ?_
  refine DK.region (is := [0, 1, 2, 3]) (by kernel_rfl) rfl ?_
  refine WK.run [0, 1, 2, 3] (by simp; (try simp (disch := omega) only [wrap_in, Int.tdiv_eq_ediv_of_nonneg, Int.tmod_eq_emod_of_nonneg]); constructor <;> rfl) ?_
  refine WK.nil ?_
  refine DK.test rfl rfl (fun h => ?_) (fun h => ?_)
  · try simp only [h]
    replace h := Tr.out h
    refine DK.skip ?_
    refine DK.seq ?_
    refine DK.block ?_
    refine DK.region (is := [0, 1, 2, 3, 4, 5, 6]) (by kernel_rfl) rfl ?_
    refine WK.run [0, 1, 2, 3] (by simp; (try simp (disch := omega) only [wrap_in, Int.tdiv_eq_ediv_of_nonneg, Int.tmod_eq_emod_of_nonneg]); constructor <;> rfl) ?_
    refine WK.call rfl (by simp) (by simp [Tryd.func111, Tryd.f111]; (try simp (disch := omega) only [wrap_in, Int.tdiv_eq_ediv_of_nonneg, Int.tmod_eq_emod_of_nonneg]); constructor <;> rfl) ?_
    refine FSem.mono (month_s _ _ _) ?_
    rintro _ _ ⟨rfl, rfl⟩
    refine WK.run [5, 6] (by simp; (try simp (disch := omega) only [wrap_in, Int.tdiv_eq_ediv_of_nonneg, Int.tmod_eq_emod_of_nonneg]); constructor <;> rfl) ?_
    refine WK.nil ?_
    refine DK.region (is := [0, 1, 2]) (by kernel_rfl) rfl ?_
    refine WK.run [0, 1, 2] (by simp; (try simp (disch := omega) only [wrap_in, Int.tdiv_eq_ediv_of_nonneg, Int.tmod_eq_emod_of_nonneg]); constructor <;> rfl) ?_
    refine WK.nil ?_
    refine ⟨by kernel_rfl, rfl, (m - (k + 1)).toNat, ?_, _, _, _, _, _, _, _, _, _, _, _, _, _, _, rfl, ?_⟩
    · omega
    · refine ⟨by omega, by omega, ?_, rfl⟩; rw [Cal.cum_succ y k (by omega) (by omega)]; omega
  try simp only [h]
  replace h := Fa.out h
  refine DK.exit ?_
  refine DK.seq ?_
  refine DK.region (is := [0, 1, 2]) (by kernel_rfl) rfl ?_
  refine WK.run [0, 1, 2] (by simp; (try simp (disch := omega) only [wrap_in, Int.tdiv_eq_ediv_of_nonneg, Int.tmod_eq_emod_of_nonneg]); constructor <;> rfl) ?_
  refine WK.nil ?_
  refine DK.ret ?_
  refine And.intro (Or.inr rfl) ?_
  refine ⟨_, by simp [absAnswer, absResults, absResult, Tryd.f106]; rfl, ?_⟩
  refine ⟨by first | exact ⟨[], (List.append_nil _).symm⟩ | exact ⟨_, rfl⟩, by simp, ?_⟩
  first | exact ⟨_, _, rfl, fun h => absurd h hv, fun _ => ⟨rfl, rfl⟩⟩ | (have hk : k = m := (by omega); subst hk; exact ⟨_, _, rfl, fun _ => ⟨by unfold Cal.num; omega, rfl⟩, fun h => absurd hv h⟩)
theorem of_s (n : Int) (H : Mem) : FSem Tryd.prog [0] 105 #[.int .i64 n] H fun v H' => (∃ y m d e, v = .tuple #[.agg #[.int .i64 y, .int .i64 m, .int .i64 d], .int .i64 e] ∧ (0 ≤ n ∧ n ≤ 3652058 → Cal.valid y m d ∧ Cal.num y m d = n ∧ e = 0) ∧ (¬ (0 ≤ n ∧ n ≤ 3652058) → y = 0 ∧ m = 0 ∧ d = 0 ∧ e = 1)) ∧ H' = H := by
  refine FSem.plainT ?_
  refine FSem.ofK Tryd.func105 rfl ?_
  refine DK.from (b' := ⟨#[.int .i64 n, undef, undef, undef, undef, undef, undef, undef, undef, undef, undef, undef, undef, undef, undef, undef, undef, undef, undef, undef, undef, undef, undef, undef, undef, undef, undef, undef, undef, undef, undef, undef, undef, undef, undef, undef, undef, undef, undef, undef, undef, undef, undef, undef], []⟩) (by kernel_rfl) ?_
  refine DK.seq ?_
  refine DK.region (is := [0, 1]) (by kernel_rfl) rfl ?_
  refine WK.run [0, 1] (by simp; (try simp (disch := omega) only [wrap_in, Int.tdiv_eq_ediv_of_nonneg, Int.tmod_eq_emod_of_nonneg]); constructor <;> rfl) ?_
  refine WK.nil ?_
  refine DK.seq ?_
  refine DK.seq ?_
  refine DK.region (is := [0, 1, 2, 3, 4, 5]) (by kernel_rfl) rfl ?_
  refine WK.run [0, 1, 2] (by simp; (try simp (disch := omega) only [wrap_in, Int.tdiv_eq_ediv_of_nonneg, Int.tmod_eq_emod_of_nonneg]); constructor <;> rfl) ?_
  refine WK.split (t := 8) rfl (fun h => ?_) (fun h => ?_)
  · try simp only [h]
    replace h := Tr.out h
    refine WK.run [3, 4, 5] (by simp; (try simp (disch := omega) only [wrap_in, Int.tdiv_eq_ediv_of_nonneg, Int.tmod_eq_emod_of_nonneg]); constructor <;> rfl) ?_
    refine WK.nil ?_
    refine DK.yes rfl rfl ?_
    refine DK.seq ?_
    refine DK.region (is := [0, 1, 2]) (by kernel_rfl) rfl ?_
    refine WK.run [0, 1, 2] (by simp; (try simp (disch := omega) only [wrap_in, Int.tdiv_eq_ediv_of_nonneg, Int.tmod_eq_emod_of_nonneg]); constructor <;> rfl) ?_
    refine WK.nil ?_
    refine DK.ret ?_
    refine And.intro (Or.inr rfl) ?_
    refine ⟨_, by simp [absAnswer, absResults, absResult, Tryd.f105]; rfl, ?_⟩
    refine ⟨by first | exact ⟨[], (List.append_nil _).symm⟩ | exact ⟨_, rfl⟩, by simp, ?_⟩
    first | exact ⟨_, _, _, _, rfl, fun h => absurd h (by omega), fun _ => ⟨rfl, rfl, rfl, rfl⟩⟩ | (refine ⟨_, _, _, _, rfl, fun _ => ⟨⟨by omega, by omega, by omega, by omega, by omega, by omega⟩, by unfold Cal.num; omega, rfl⟩, fun h => absurd (by omega) h⟩)
  try simp only [h]
  replace h := Fa.out h
  refine WK.run [3, 4, 5] (by simp; (try simp (disch := omega) only [wrap_in, Int.tdiv_eq_ediv_of_nonneg, Int.tmod_eq_emod_of_nonneg]); constructor <;> rfl) ?_
  refine WK.nil ?_
  refine DK.test rfl rfl (fun h => ?_) (fun h => ?_)
  · try simp only [h]
    replace h := Tr.out h
    refine DK.seq ?_
    refine DK.region (is := [0, 1, 2]) (by kernel_rfl) rfl ?_
    refine WK.run [0, 1, 2] (by simp; (try simp (disch := omega) only [wrap_in, Int.tdiv_eq_ediv_of_nonneg, Int.tmod_eq_emod_of_nonneg]); constructor <;> rfl) ?_
    refine WK.nil ?_
    refine DK.ret ?_
    refine And.intro (Or.inr rfl) ?_
    refine ⟨_, by simp [absAnswer, absResults, absResult, Tryd.f105]; rfl, ?_⟩
    refine ⟨by first | exact ⟨[], (List.append_nil _).symm⟩ | exact ⟨_, rfl⟩, by simp, ?_⟩
    first | exact ⟨_, _, _, _, rfl, fun h => absurd h (by omega), fun _ => ⟨rfl, rfl, rfl, rfl⟩⟩ | (refine ⟨_, _, _, _, rfl, fun _ => ⟨⟨by omega, by omega, by omega, by omega, by omega, by omega⟩, by unfold Cal.num; omega, rfl⟩, fun h => absurd (by omega) h⟩)
  try simp only [h]
  replace h := Fa.out h
  refine DK.skip ?_
  refine DK.seq ?_
  refine DK.region (is := [0, 1, 2, 3]) (by kernel_rfl) rfl ?_
  refine WK.run [0, 1, 2, 3] (by simp; (try simp (disch := omega) only [wrap_in, Int.tdiv_eq_ediv_of_nonneg, Int.tmod_eq_emod_of_nonneg]); constructor <;> rfl) ?_
  refine WK.nil ?_
  refine DK.seq ?_
  refine DK.block ?_
  refine DK.loopM [4, 16, 17, 18, 19, 20, 21, 22] (fun fl vs => ∃ (y : Int) (j16 j17 j18 j19 j20 j21 j22 : Value), vs = [.int .i64 y, j16, j17, j18, j19, j20, j21, j22] ∧ 1 ≤ y ∧ y ≤ 9999 ∧ Cal.bef y ≤ n ∧ fl = (10000 - y).toNat) ((10000 - (n / 366 + 1)).toNat) (by kernel_rfl) ?_ ?_
  · refine ⟨_, _, _, _, _, _, _, _, rfl, ?_⟩
    have := Cal.bef_le (n / 366 + 1) (by omega)
    exact ⟨by omega, by omega, by omega, rfl⟩
  rintro fl _ ⟨y, j16, j17, j18, j19, j20, j21, j22, rfl, hf⟩
  obtain ⟨hy1, hy2, hy3, hk⟩ := hf
  have hs := Cal.bef_succ y
  have hp := Cal.lp01 y
  have hg := Cal.bef_ge (y + 1) (by omega)
  have hg2 := Cal.bef_ge y (by omega)
  refine DK.from (by simp [setL]; exact rfl) ?_
  refine DK.seq ?_
  refine DK.seq ?_
  refine DK.region (is := [0, 1, 2, 3, 4]) (by kernel_rfl) rfl ?_
  refine WK.run [0, 1] (by simp; (try simp (disch := omega) only [wrap_in, Int.tdiv_eq_ediv_of_nonneg, Int.tmod_eq_emod_of_nonneg]); constructor <;> rfl) ?_
  refine WK.call rfl (by simp) (by simp [Tryd.func110, Tryd.f110]; (try simp (disch := omega) only [wrap_in, Int.tdiv_eq_ediv_of_nonneg, Int.tmod_eq_emod_of_nonneg]); constructor <;> rfl) ?_
  refine FSem.mono (before_s _ (by omega) (by omega) _) ?_
  rintro _ _ ⟨rfl, rfl⟩
  refine WK.run [3, 4] (by simp; (try simp (disch := omega) only [wrap_in, Int.tdiv_eq_ediv_of_nonneg, Int.tmod_eq_emod_of_nonneg]); constructor <;> rfl) ?_
  refine WK.nil ?_
  refine DK.test rfl rfl (fun h => ?_) (fun h => ?_)
  · try simp only [h]
    replace h := Tr.out h
    refine DK.skip ?_
    refine DK.block ?_
    refine DK.region (is := [0, 1, 2]) (by kernel_rfl) rfl ?_
    refine WK.run [0, 1, 2] (by simp; (try simp (disch := omega) only [wrap_in, Int.tdiv_eq_ediv_of_nonneg, Int.tmod_eq_emod_of_nonneg]); constructor <;> rfl) ?_
    refine WK.nil ?_
    refine ⟨by kernel_rfl, rfl, (10000 - (y + 1)).toNat, ?_, _, _, _, _, _, _, _, _, rfl, ?_⟩
    · omega
    · refine ⟨by omega, ?_, h, rfl⟩
      rcases Int.lt_or_le (y + 1) 10000 with q | q
      · omega
      · have q1 := Cal.bef_mono 10000 (y + 1) (by omega) q; have q2 := Cal.bef_max; omega
  try simp only [h]
  replace h := Fa.out h
  refine DK.exit ?_
  refine DK.seq ?_
  refine DK.region (is := [0, 1, 2, 3, 4]) (by kernel_rfl) rfl ?_
  refine WK.run [0, 1] (by simp; (try simp (disch := omega) only [wrap_in, Int.tdiv_eq_ediv_of_nonneg, Int.tmod_eq_emod_of_nonneg]); constructor <;> rfl) ?_
  refine WK.call rfl (by simp) (by simp [Tryd.func110, Tryd.f110]; (try simp (disch := omega) only [wrap_in, Int.tdiv_eq_ediv_of_nonneg, Int.tmod_eq_emod_of_nonneg]); constructor <;> rfl) ?_
  refine FSem.mono (before_s _ (by omega) (by omega) _) ?_
  rintro _ _ ⟨rfl, rfl⟩
  refine WK.run [3, 4] (by simp; (try simp (disch := omega) only [wrap_in, Int.tdiv_eq_ediv_of_nonneg, Int.tmod_eq_emod_of_nonneg]); constructor <;> rfl) ?_
  refine WK.nil ?_
  refine DK.seq ?_
  refine DK.region (is := [0]) (by kernel_rfl) rfl ?_
  refine WK.run [0] (by simp; (try simp (disch := omega) only [wrap_in, Int.tdiv_eq_ediv_of_nonneg, Int.tmod_eq_emod_of_nonneg]); constructor <;> rfl) ?_
  refine WK.nil ?_
  refine DK.seq ?_
  refine DK.block ?_
  refine DK.loopM [0, 5, 27, 28, 29, 30, 31, 32, 33, 34, 35, 36, 37, 38] (fun fl vs => ∃ (x m : Int) (j27 j28 j29 j30 j31 j32 j33 j34 j35 j36 j37 j38 : Value), vs = [.int .i64 x, .int .i64 m, j27, j28, j29, j30, j31, j32, j33, j34, j35, j36, j37, j38] ∧ 1 ≤ m ∧ m ≤ 12 ∧ 0 ≤ x ∧ x + Cal.cum y m = n - Cal.bef y ∧ fl = (13 - m).toNat) (((13 : Int) - 1).toNat) (by kernel_rfl) ?_ ?_
  · refine ⟨_, _, _, _, _, _, _, _, _, _, _, _, _, _, rfl, ?_⟩
    have h1 := Cal.cum_one y
    exact ⟨by omega, by omega, by omega, by omega, rfl⟩
  rintro fl _ ⟨x, m, j27, j28, j29, j30, j31, j32, j33, j34, j35, j36, j37, j38, rfl, hf⟩
  obtain ⟨hm1, hm2, hx1, hx2, hkk⟩ := hf
  have hc1 := Cal.cum_succ y m hm1 hm2
  have hc2 := Cal.cum_13 y
  have hc3 := Cal.mon_le y m
  have hc4 := Cal.cum_bd y m (by omega) (by omega)
  refine DK.from (by simp [setL]; exact rfl) ?_
  refine DK.seq ?_
  refine DK.seq ?_
  refine DK.region (is := [0, 1, 2, 3, 4]) (by kernel_rfl) rfl ?_
  refine WK.run [0, 1, 2] (by simp; (try simp (disch := omega) only [wrap_in, Int.tdiv_eq_ediv_of_nonneg, Int.tmod_eq_emod_of_nonneg]); constructor <;> rfl) ?_
  refine WK.call rfl (by simp) (by simp [Tryd.func111, Tryd.f111]; (try simp (disch := omega) only [wrap_in, Int.tdiv_eq_ediv_of_nonneg, Int.tmod_eq_emod_of_nonneg]); constructor <;> rfl) ?_
  refine FSem.mono (month_s _ _ _) ?_
  rintro _ _ ⟨rfl, rfl⟩
  refine WK.run [4] (by simp; (try simp (disch := omega) only [wrap_in, Int.tdiv_eq_ediv_of_nonneg, Int.tmod_eq_emod_of_nonneg]); constructor <;> rfl) ?_
  refine WK.nil ?_
  refine DK.test rfl rfl (fun h => ?_) (fun h => ?_)
  · try simp only [h]
    replace h := Tr.out h
    refine DK.skip ?_
    refine DK.block ?_
    refine DK.seq ?_
    refine DK.region (is := [0, 1, 2, 3, 4, 5]) (by kernel_rfl) rfl ?_
    refine WK.run [0, 1, 2] (by simp; (try simp (disch := omega) only [wrap_in, Int.tdiv_eq_ediv_of_nonneg, Int.tmod_eq_emod_of_nonneg]); constructor <;> rfl) ?_
    refine WK.call rfl (by simp) (by simp [Tryd.func111, Tryd.f111]; (try simp (disch := omega) only [wrap_in, Int.tdiv_eq_ediv_of_nonneg, Int.tmod_eq_emod_of_nonneg]); constructor <;> rfl) ?_
    refine FSem.mono (month_s _ _ _) ?_
    rintro _ _ ⟨rfl, rfl⟩
    refine WK.run [4, 5] (by simp; (try simp (disch := omega) only [wrap_in, Int.tdiv_eq_ediv_of_nonneg, Int.tmod_eq_emod_of_nonneg]); constructor <;> rfl) ?_
    refine WK.nil ?_
    refine DK.region (is := [0, 1, 2]) (by kernel_rfl) rfl ?_
    refine WK.run [0, 1, 2] (by simp; (try simp (disch := omega) only [wrap_in, Int.tdiv_eq_ediv_of_nonneg, Int.tmod_eq_emod_of_nonneg]); constructor <;> rfl) ?_
    refine WK.nil ?_
    refine ⟨by kernel_rfl, rfl, (13 - (m + 1)).toNat, ?_, _, _, _, _, _, _, _, _, _, _, _, _, _, _, rfl, ?_⟩
    · omega
    · refine ⟨by omega, ?_, by omega, by omega, rfl⟩
      by_cases hm12 : m = 12
      · subst hm12; simp at hc1; omega
      · omega
  try simp only [h]
  replace h := Fa.out h
  refine DK.exit ?_
  refine DK.seq ?_
  refine DK.region (is := [0, 1, 2, 3, 4, 5, 6]) (by kernel_rfl) rfl ?_
  refine WK.run [0, 1, 2, 3, 4, 5, 6] (by simp; (try simp (disch := omega) only [wrap_in, Int.tdiv_eq_ediv_of_nonneg, Int.tmod_eq_emod_of_nonneg]); constructor <;> rfl) ?_
  refine WK.nil ?_
  refine DK.ret ?_
  refine And.intro (Or.inr rfl) ?_
  refine ⟨_, by simp [absAnswer, absResults, absResult, Tryd.f105]; rfl, ?_⟩
  refine ⟨by first | exact ⟨[], (List.append_nil _).symm⟩ | exact ⟨_, rfl⟩, by simp, ?_⟩
  first | exact ⟨_, _, _, _, rfl, fun h => absurd h (by omega), fun _ => ⟨rfl, rfl, rfl, rfl⟩⟩ | (refine ⟨_, _, _, _, rfl, fun _ => ⟨⟨by omega, by omega, by omega, by omega, by omega, by omega⟩, by unfold Cal.num; omega, rfl⟩, fun h => absurd (by omega) h⟩)
theorem clamp_s (y m d : Int) (hd : 1 ≤ d) (H : Mem) : FSem Tryd.prog [0] 107 #[.int .i64 y, .int .i64 m, .int .i64 d] H fun v H' => v = .agg #[.int .i64 y, .int .i64 m, .int .i64 (Sea.cut y m d)] ∧ H' = H := by
  refine FSem.plainT ?_
  refine FSem.ofK Tryd.func107 rfl ?_
  refine DK.from (b' := ⟨#[.int .i64 y, .int .i64 m, .int .i64 d, undef, undef, undef, undef, undef, undef, undef, undef, undef, undef, undef, undef, undef], []⟩) (by kernel_rfl) ?_
  refine DK.seq ?_
  refine DK.region (is := [0]) (by kernel_rfl) rfl ?_
  refine WK.run [0] (by simp; (try simp (disch := omega) only [wrap_in, Int.tdiv_eq_ediv_of_nonneg, Int.tmod_eq_emod_of_nonneg]); constructor <;> rfl) ?_
  refine WK.nil ?_
  refine DK.seq ?_
  refine DK.region (is := [0, 1, 2, 3, 4, 5, 6, 7, 8, 9]) (by kernel_rfl) rfl ?_
  refine WK.run [0, 1, 2, 3, 4, 5] (by simp; (try simp (disch := omega) only [wrap_in, Int.tdiv_eq_ediv_of_nonneg, Int.tmod_eq_emod_of_nonneg]); constructor <;> rfl) ?_
  refine WK.call rfl (by simp) (by simp [Tryd.func111, Tryd.f111]; (try simp (disch := omega) only [wrap_in, Int.tdiv_eq_ediv_of_nonneg, Int.tmod_eq_emod_of_nonneg]); constructor <;> rfl) ?_
  refine FSem.mono (month_s _ _ _) ?_
  rintro _ _ ⟨rfl, rfl⟩
  refine WK.run [7, 8, 9] (by simp; (try simp (disch := omega) only [wrap_in, Int.tdiv_eq_ediv_of_nonneg, Int.tmod_eq_emod_of_nonneg]); constructor <;> rfl) ?_
  refine WK.nil ?_
  refine DK.ret ?_
  refine And.intro (Or.inr rfl) ?_
  refine ⟨_, by simp [absAnswer, absResults, absResult, Tryd.f107]; rfl, ?_⟩
  refine ⟨by first | exact ⟨[], (List.append_nil _).symm⟩ | exact ⟨_, rfl⟩, by simp, ?_⟩
  rw [if_neg (show ¬ d < 1 by omega)]; simp only [Sea.cut]; split <;> split <;> first | rfl | (exfalso; omega)
def srB (u e : Int) : Bool := decide (u ≤ 3 ∧ 1 ≤ e ∧ e ≤ 1000)
theorem sright_s (u e : Int) (H : Mem) : FSem Tryd.prog [0] 53 #[.int .u8 u, .int .i64 e] H fun v H' => v = .bool (srB u e) ∧ H' = H := by
  refine FSem.plainT ?_
  refine FSem.ofK Tryd.func53 rfl ?_
  refine DK.from (b' := ⟨#[.int .u8 u, .int .i64 e, undef, undef, undef, undef, undef, undef, undef, undef, undef, undef, undef, undef, undef], []⟩) (by kernel_rfl) ?_
  refine DK.seq ?_
  refine DK.region (is := [0]) (by kernel_rfl) rfl ?_
  refine WK.run [0] (by simp; (try simp (disch := omega) only [wrap_in, Int.tdiv_eq_ediv_of_nonneg, Int.tmod_eq_emod_of_nonneg]); constructor <;> rfl) ?_
  refine WK.nil ?_
  refine DK.seq ?_
  refine DK.region (is := [0, 1, 2, 3, 4, 5, 6, 7, 8, 9, 10]) (by kernel_rfl) rfl ?_
  refine WK.run [0, 1, 2] (by simp; (try simp (disch := omega) only [wrap_in, Int.tdiv_eq_ediv_of_nonneg, Int.tmod_eq_emod_of_nonneg]); constructor <;> rfl) ?_
  refine WK.split (t := 7) rfl (fun h => ?_) (fun h => ?_)
  · try simp only [h]
    replace h := Tr.out h
    refine WK.run [3, 4, 5, 6] (by simp; (try simp (disch := omega) only [wrap_in, Int.tdiv_eq_ediv_of_nonneg, Int.tmod_eq_emod_of_nonneg]); constructor <;> rfl) ?_
    refine WK.split (t := 11) rfl (fun h => ?_) (fun h => ?_)
    · try simp only [h]
      replace h := Tr.out h
      refine WK.run [7, 8, 9, 10] (by simp; (try simp (disch := omega) only [wrap_in, Int.tdiv_eq_ediv_of_nonneg, Int.tmod_eq_emod_of_nonneg]); constructor <;> rfl) ?_
      refine WK.nil ?_
      refine DK.ret ?_
      refine And.intro (Or.inr rfl) ?_
      refine ⟨_, by simp [absAnswer, absResults, absResult, Tryd.f53]; rfl, ?_⟩
      refine ⟨by first | exact ⟨[], (List.append_nil _).symm⟩ | exact ⟨_, rfl⟩, by simp, ?_⟩
      simp_all [srB] <;> omega
    try simp only [h]
    replace h := Fa.out h
    refine WK.run [7, 8, 9, 10] (by simp; (try simp (disch := omega) only [wrap_in, Int.tdiv_eq_ediv_of_nonneg, Int.tmod_eq_emod_of_nonneg]); constructor <;> rfl) ?_
    refine WK.nil ?_
    refine DK.ret ?_
    refine And.intro (Or.inr rfl) ?_
    refine ⟨_, by simp [absAnswer, absResults, absResult, Tryd.f53]; rfl, ?_⟩
    refine ⟨by first | exact ⟨[], (List.append_nil _).symm⟩ | exact ⟨_, rfl⟩, by simp, ?_⟩
    simp_all [srB] <;> omega
  try simp only [h]
  replace h := Fa.out h
  refine WK.run [3, 4, 5, 6, 7, 8, 9, 10] (by simp; (try simp (disch := omega) only [wrap_in, Int.tdiv_eq_ediv_of_nonneg, Int.tmod_eq_emod_of_nonneg]); constructor <;> rfl) ?_
  refine WK.nil ?_
  refine DK.ret ?_
  refine And.intro (Or.inr rfl) ?_
  refine ⟨_, by simp [absAnswer, absResults, absResult, Tryd.f53]; rfl, ?_⟩
  refine ⟨by first | exact ⟨[], (List.append_nil _).symm⟩ | exact ⟨_, rfl⟩, by simp, ?_⟩
  simp_all [srB] <;> omega
theorem nth_s (a u e n : Int) (hu : 0 ≤ u) (H : Mem) : FSem Tryd.prog [0] 94 #[.int .i64 a, .int .u8 u, .int .i64 e, .int .i64 n] H fun v H' => v = .tuple #[.int .i64 (nthF a u e n).1, .int .i64 (nthF a u e n).2] ∧ H' = H := by
  refine FSem.plainT ?_
  refine FSem.ofK Tryd.func94 rfl ?_
  refine DK.from (b' := ⟨#[.int .i64 a, .int .u8 u, .int .i64 e, .int .i64 n, undef, undef, undef, undef, undef, undef, undef, undef, undef, undef, undef, undef, undef, undef, undef, undef, undef, undef, undef, undef, undef, undef, undef, undef, undef, undef, undef, undef, undef, undef, undef, undef, undef, undef, undef, undef, undef, undef, undef, undef, undef, undef, undef, undef, undef, undef, undef, undef, undef, undef, undef, undef, undef, undef, undef, undef, undef, undef, undef, undef, undef, undef, undef, undef, undef, undef, undef, undef, undef, undef, undef, undef, undef, undef, undef, undef, undef, undef, undef], []⟩) (by kernel_rfl) ?_
  refine DK.seq ?_
  refine DK.region (is := [0, 1]) (by kernel_rfl) rfl ?_
  refine WK.run [0, 1] (by simp; (try simp (disch := omega) only [wrap_in, Int.tdiv_eq_ediv_of_nonneg, Int.tmod_eq_emod_of_nonneg]); constructor <;> rfl) ?_
  refine WK.nil ?_
  refine DK.seq ?_
  refine DK.region (is := [0, 1, 2, 3, 4, 5, 6, 7]) (by kernel_rfl) rfl ?_
  refine WK.run [0] (by simp; (try simp (disch := omega) only [wrap_in, Int.tdiv_eq_ediv_of_nonneg, Int.tmod_eq_emod_of_nonneg]); constructor <;> rfl) ?_
  refine WK.call rfl (by simp) (by simp [Tryd.func105, Tryd.f105]; (try simp (disch := omega) only [wrap_in, Int.tdiv_eq_ediv_of_nonneg, Int.tmod_eq_emod_of_nonneg]); constructor <;> rfl) ?_
  refine FSem.mono (of_s _ _) ?_
  rintro _ _ ⟨⟨y, m, d, er, rfl, ho1, ho2⟩, rfl⟩
  refine WK.run [2, 3, 4, 5, 6, 7] (by simp; (try simp (disch := omega) only [wrap_in, Int.tdiv_eq_ediv_of_nonneg, Int.tmod_eq_emod_of_nonneg]); constructor <;> rfl) ?_
  refine WK.nil ?_
  refine DK.seq ?_
  refine DK.seq ?_
  refine DK.region (is := [0, 1, 2, 3, 4, 5, 6, 7, 8, 9, 10, 11, 12, 13, 14, 15]) (by kernel_rfl) rfl ?_
  refine WK.run [0, 1, 2] (by simp; (try simp (disch := omega) only [wrap_in, Int.tdiv_eq_ediv_of_nonneg, Int.tmod_eq_emod_of_nonneg]); constructor <;> rfl) ?_
  refine WK.split (t := 24) rfl (fun h => ?_) (fun h => ?_)
  · try simp only [h]
    replace h := Tr.out h
    refine WK.run [3, 4, 5, 6, 7, 8, 9, 10, 11, 12, 13, 14, 15] (by simp; (try simp (disch := omega) only [wrap_in, Int.tdiv_eq_ediv_of_nonneg, Int.tmod_eq_emod_of_nonneg]); constructor <;> rfl) ?_
    refine WK.nil ?_
    refine DK.yes rfl rfl ?_
    refine DK.seq ?_
    refine DK.region (is := [0, 1]) (by kernel_rfl) rfl ?_
    refine WK.run [0, 1] (by simp; (try simp (disch := omega) only [wrap_in, Int.tdiv_eq_ediv_of_nonneg, Int.tmod_eq_emod_of_nonneg]); constructor <;> rfl) ?_
    refine WK.nil ?_
    refine DK.ret ?_
    refine And.intro (Or.inr rfl) ?_
    refine ⟨_, by simp [absAnswer, absResults, absResult, Tryd.f94]; rfl, ?_⟩
    refine ⟨by first | exact ⟨[], (List.append_nil _).symm⟩ | exact ⟨_, rfl⟩, by simp, ?_⟩
    first
      | (rw [show nthF a u e n = (0, 1) from if_neg (by rintro ⟨f1, f2, f3⟩; have := (ho1 f1).2.2; omega)]; done)
      | (rw [show nthF a u e n = Sea.out (Sea.nth a y m d u e n) from (if_pos ⟨hof, hsr, by omega, by omega⟩).trans (congrArg _ (nthO_eq u e n hv hnum))]
         clear ho1 ho2 hof
         have hu4 : u = 0 ∨ u = 1 ∨ u = 2 ∨ u = 3 := by omega
         have h12 : (m - 1 + n * e * 12) % 12 = (m - 1) % 12 := by omega
         rcases hu4 with h4 | h4 | h4 | h4 <;> first | (exfalso; omega) | (subst h4; simp only [Sea.nth, Sea.off, Sea.dayAdd, Sea.monAdd]; simp; split <;> first | exact ⟨rfl, rfl⟩ | (exfalso; omega) | (have hvv := Sea.mon_valid y m d (n * e) hv (by omega) (by omega); rw [(hn1 hvv).1]; exact ⟨rfl, rfl⟩) | (have hvv := Sea.mon_valid y m d (n * e * 12) hv (by omega) (by omega); rw [h12] at hvv; rw [(hn1 hvv).1]; exact ⟨rfl, rfl⟩) | trace_state))
  try simp only [h]
  replace h := Fa.out h
  refine WK.run [3, 4] (by simp; (try simp (disch := omega) only [wrap_in, Int.tdiv_eq_ediv_of_nonneg, Int.tmod_eq_emod_of_nonneg]); constructor <;> rfl) ?_
  refine WK.call rfl (by simp) (by simp [Tryd.func53, Tryd.f53]; (try simp (disch := omega) only [wrap_in, Int.tdiv_eq_ediv_of_nonneg, Int.tmod_eq_emod_of_nonneg]); constructor <;> rfl) ?_
  refine FSem.mono (sright_s _ _ _) ?_
  rintro _ _ ⟨rfl, rfl⟩
  refine WK.run [6, 7, 8] (by simp; (try simp (disch := omega) only [wrap_in, Int.tdiv_eq_ediv_of_nonneg, Int.tmod_eq_emod_of_nonneg]); constructor <;> rfl) ?_
  refine WK.split (t := 30) rfl (fun h => ?_) (fun h => ?_)
  · try simp only [h]
    replace h := Tr.out h
    have hsr := of_decide_eq_false h
    refine WK.run [9, 10, 11, 12, 13, 14, 15] (by simp; (try simp (disch := omega) only [wrap_in, Int.tdiv_eq_ediv_of_nonneg, Int.tmod_eq_emod_of_nonneg]); constructor <;> rfl) ?_
    refine WK.nil ?_
    refine DK.yes rfl rfl ?_
    refine DK.seq ?_
    refine DK.region (is := [0, 1]) (by kernel_rfl) rfl ?_
    refine WK.run [0, 1] (by simp; (try simp (disch := omega) only [wrap_in, Int.tdiv_eq_ediv_of_nonneg, Int.tmod_eq_emod_of_nonneg]); constructor <;> rfl) ?_
    refine WK.nil ?_
    refine DK.ret ?_
    refine And.intro (Or.inr rfl) ?_
    refine ⟨_, by simp [absAnswer, absResults, absResult, Tryd.f94]; rfl, ?_⟩
    refine ⟨by first | exact ⟨[], (List.append_nil _).symm⟩ | exact ⟨_, rfl⟩, by simp, ?_⟩
    first
      | (rw [show nthF a u e n = (0, 1) from if_neg (by rintro ⟨f1, f2, f3⟩; have := (ho1 f1).2.2; omega)]; done)
      | (rw [show nthF a u e n = Sea.out (Sea.nth a y m d u e n) from (if_pos ⟨hof, hsr, by omega, by omega⟩).trans (congrArg _ (nthO_eq u e n hv hnum))]
         clear ho1 ho2 hof
         have hu4 : u = 0 ∨ u = 1 ∨ u = 2 ∨ u = 3 := by omega
         have h12 : (m - 1 + n * e * 12) % 12 = (m - 1) % 12 := by omega
         rcases hu4 with h4 | h4 | h4 | h4 <;> first | (exfalso; omega) | (subst h4; simp only [Sea.nth, Sea.off, Sea.dayAdd, Sea.monAdd]; simp; split <;> first | exact ⟨rfl, rfl⟩ | (exfalso; omega) | (have hvv := Sea.mon_valid y m d (n * e) hv (by omega) (by omega); rw [(hn1 hvv).1]; exact ⟨rfl, rfl⟩) | (have hvv := Sea.mon_valid y m d (n * e * 12) hv (by omega) (by omega); rw [h12] at hvv; rw [(hn1 hvv).1]; exact ⟨rfl, rfl⟩) | trace_state))
  try simp only [h]
  replace h := Fa.out h
  have hsr := of_decide_eq_true h
  refine WK.run [9, 10, 11, 12] (by simp; (try simp (disch := omega) only [wrap_in, Int.tdiv_eq_ediv_of_nonneg, Int.tmod_eq_emod_of_nonneg]); constructor <;> rfl) ?_
  refine WK.split (t := 34) rfl (fun h => ?_) (fun h => ?_)
  · try simp only [h]
    replace h := Tr.out h
    refine WK.run [13, 14, 15] (by simp; (try simp (disch := omega) only [wrap_in, Int.tdiv_eq_ediv_of_nonneg, Int.tmod_eq_emod_of_nonneg]); constructor <;> rfl) ?_
    refine WK.nil ?_
    refine DK.yes rfl rfl ?_
    refine DK.seq ?_
    refine DK.region (is := [0, 1]) (by kernel_rfl) rfl ?_
    refine WK.run [0, 1] (by simp; (try simp (disch := omega) only [wrap_in, Int.tdiv_eq_ediv_of_nonneg, Int.tmod_eq_emod_of_nonneg]); constructor <;> rfl) ?_
    refine WK.nil ?_
    refine DK.ret ?_
    refine And.intro (Or.inr rfl) ?_
    refine ⟨_, by simp [absAnswer, absResults, absResult, Tryd.f94]; rfl, ?_⟩
    refine ⟨by first | exact ⟨[], (List.append_nil _).symm⟩ | exact ⟨_, rfl⟩, by simp, ?_⟩
    first
      | (rw [show nthF a u e n = (0, 1) from if_neg (by rintro ⟨f1, f2, f3⟩; have := (ho1 f1).2.2; omega)]; done)
      | (rw [show nthF a u e n = Sea.out (Sea.nth a y m d u e n) from (if_pos ⟨hof, hsr, by omega, by omega⟩).trans (congrArg _ (nthO_eq u e n hv hnum))]
         clear ho1 ho2 hof
         have hu4 : u = 0 ∨ u = 1 ∨ u = 2 ∨ u = 3 := by omega
         have h12 : (m - 1 + n * e * 12) % 12 = (m - 1) % 12 := by omega
         rcases hu4 with h4 | h4 | h4 | h4 <;> first | (exfalso; omega) | (subst h4; simp only [Sea.nth, Sea.off, Sea.dayAdd, Sea.monAdd]; simp; split <;> first | exact ⟨rfl, rfl⟩ | (exfalso; omega) | (have hvv := Sea.mon_valid y m d (n * e) hv (by omega) (by omega); rw [(hn1 hvv).1]; exact ⟨rfl, rfl⟩) | (have hvv := Sea.mon_valid y m d (n * e * 12) hv (by omega) (by omega); rw [h12] at hvv; rw [(hn1 hvv).1]; exact ⟨rfl, rfl⟩) | trace_state))
  try simp only [h]
  replace h := Fa.out h
  refine WK.run [13, 14, 15] (by simp; (try simp (disch := omega) only [wrap_in, Int.tdiv_eq_ediv_of_nonneg, Int.tmod_eq_emod_of_nonneg]); constructor <;> rfl) ?_
  refine WK.nil ?_
  refine DK.test rfl rfl (fun h => ?_) (fun h => ?_)
  · try simp only [h]
    replace h := Tr.out h
    refine DK.seq ?_
    refine DK.region (is := [0, 1]) (by kernel_rfl) rfl ?_
    refine WK.run [0, 1] (by simp; (try simp (disch := omega) only [wrap_in, Int.tdiv_eq_ediv_of_nonneg, Int.tmod_eq_emod_of_nonneg]); constructor <;> rfl) ?_
    refine WK.nil ?_
    refine DK.ret ?_
    refine And.intro (Or.inr rfl) ?_
    refine ⟨_, by simp [absAnswer, absResults, absResult, Tryd.f94]; rfl, ?_⟩
    refine ⟨by first | exact ⟨[], (List.append_nil _).symm⟩ | exact ⟨_, rfl⟩, by simp, ?_⟩
    first
      | (rw [show nthF a u e n = (0, 1) from if_neg (by rintro ⟨f1, f2, f3⟩; have := (ho1 f1).2.2; omega)]; done)
      | (rw [show nthF a u e n = Sea.out (Sea.nth a y m d u e n) from (if_pos ⟨hof, hsr, by omega, by omega⟩).trans (congrArg _ (nthO_eq u e n hv hnum))]
         clear ho1 ho2 hof
         have hu4 : u = 0 ∨ u = 1 ∨ u = 2 ∨ u = 3 := by omega
         have h12 : (m - 1 + n * e * 12) % 12 = (m - 1) % 12 := by omega
         rcases hu4 with h4 | h4 | h4 | h4 <;> first | (exfalso; omega) | (subst h4; simp only [Sea.nth, Sea.off, Sea.dayAdd, Sea.monAdd]; simp; split <;> first | exact ⟨rfl, rfl⟩ | (exfalso; omega) | (have hvv := Sea.mon_valid y m d (n * e) hv (by omega) (by omega); rw [(hn1 hvv).1]; exact ⟨rfl, rfl⟩) | (have hvv := Sea.mon_valid y m d (n * e * 12) hv (by omega) (by omega); rw [h12] at hvv; rw [(hn1 hvv).1]; exact ⟨rfl, rfl⟩) | trace_state))
  try simp only [h]
  replace h := Fa.out h
  have hof : 0 ≤ a ∧ a ≤ 3652058 := Decidable.byContradiction fun q => by have := (ho2 q).2.2.2; omega
  obtain ⟨hv, hnum, rfl⟩ := ho1 hof
  obtain ⟨v1, v2, v3, v4, v5, v6⟩ := id hv
  have hne := Sea.mul_bd n e 3652058 1000 (by omega) (by omega) (by omega) (by omega)
  refine DK.skip ?_
  refine DK.seq ?_
  refine DK.region (is := [0, 1, 2, 3]) (by kernel_rfl) rfl ?_
  refine WK.run [0, 1, 2, 3] (by simp; (try simp (disch := omega) only [wrap_in, Int.tdiv_eq_ediv_of_nonneg, Int.tmod_eq_emod_of_nonneg]); constructor <;> rfl) ?_
  refine WK.nil ?_
  refine DK.seq ?_
  refine DK.seq ?_
  refine DK.region (is := [0]) (by kernel_rfl) rfl ?_
  refine WK.run [0] (by simp; (try simp (disch := omega) only [wrap_in, Int.tdiv_eq_ediv_of_nonneg, Int.tmod_eq_emod_of_nonneg]); constructor <;> rfl) ?_
  refine WK.nil ?_
  refine DK.block ?_
  refine DK.seq ?_
  refine DK.block ?_
  refine DK.seq ?_
  refine DK.block ?_
  refine DK.seq ?_
  refine DK.block ?_
  refine DK.seq ?_
  refine DK.seq ?_
  refine DK.seq ?_
  refine DK.region (is := [0, 1]) (by kernel_rfl) rfl ?_
  refine WK.run [0, 1] (by simp; (try simp (disch := omega) only [wrap_in, Int.tdiv_eq_ediv_of_nonneg, Int.tmod_eq_emod_of_nonneg]); constructor <;> rfl) ?_
  refine WK.nil ?_
  refine DK.test rfl rfl (fun h => ?_) (fun h => ?_)
  · try simp only [h]
    replace h := Tr.out h
    refine DK.exit ?_
    refine DK.region (is := [0, 1, 2]) (by kernel_rfl) rfl ?_
    refine WK.run [0, 1, 2] (by simp; (try simp (disch := omega) only [wrap_in, Int.tdiv_eq_ediv_of_nonneg, Int.tmod_eq_emod_of_nonneg]); constructor <;> rfl) ?_
    refine WK.nil ?_
    refine DK.seq ?_
    refine DK.seq ?_
    refine DK.seq ?_
    refine DK.region (is := [0, 1, 2, 3]) (by kernel_rfl) rfl ?_
    refine WK.run [0, 1, 2, 3] (by simp; (try simp (disch := omega) only [wrap_in, Int.tdiv_eq_ediv_of_nonneg, Int.tmod_eq_emod_of_nonneg]); constructor <;> rfl) ?_
    refine WK.nil ?_
    refine DK.test rfl rfl (fun h => ?_) (fun h => ?_)
    · try simp only [h]
      replace h := Tr.out h
      refine DK.seq ?_
      refine DK.region (is := [0, 1]) (by kernel_rfl) rfl ?_
      refine WK.run [0, 1] (by simp; (try simp (disch := omega) only [wrap_in, Int.tdiv_eq_ediv_of_nonneg, Int.tmod_eq_emod_of_nonneg]); constructor <;> rfl) ?_
      refine WK.nil ?_
      refine DK.ret ?_
      refine And.intro (Or.inr rfl) ?_
      refine ⟨_, by simp [absAnswer, absResults, absResult, Tryd.f94]; rfl, ?_⟩
      refine ⟨by first | exact ⟨[], (List.append_nil _).symm⟩ | exact ⟨_, rfl⟩, by simp, ?_⟩
      first
        | (rw [show nthF a u e n = (0, 1) from if_neg (by rintro ⟨f1, f2, f3⟩; have := (ho1 f1).2.2; omega)]; done)
        | (rw [show nthF a u e n = Sea.out (Sea.nth a y m d u e n) from (if_pos ⟨hof, hsr, by omega, by omega⟩).trans (congrArg _ (nthO_eq u e n hv hnum))]
           clear ho1 ho2 hof
           have hu4 : u = 0 ∨ u = 1 ∨ u = 2 ∨ u = 3 := by omega
           have h12 : (m - 1 + n * e * 12) % 12 = (m - 1) % 12 := by omega
           rcases hu4 with h4 | h4 | h4 | h4 <;> first | (exfalso; omega) | (subst h4; simp only [Sea.nth, Sea.off, Sea.dayAdd, Sea.monAdd]; simp; split <;> first | exact ⟨rfl, rfl⟩ | (exfalso; omega) | (have hvv := Sea.mon_valid y m d (n * e) hv (by omega) (by omega); rw [(hn1 hvv).1]; exact ⟨rfl, rfl⟩) | (have hvv := Sea.mon_valid y m d (n * e * 12) hv (by omega) (by omega); rw [h12] at hvv; rw [(hn1 hvv).1]; exact ⟨rfl, rfl⟩) | trace_state))
    try simp only [h]
    replace h := Fa.out h
    refine DK.skip ?_
    refine DK.seq ?_
    refine DK.region (is := [0, 1, 2, 3, 4]) (by kernel_rfl) rfl ?_
    refine WK.run [0, 1, 2, 3, 4] (by simp; (try simp (disch := omega) only [wrap_in, Int.tdiv_eq_ediv_of_nonneg, Int.tmod_eq_emod_of_nonneg]); constructor <;> rfl) ?_
    refine WK.nil ?_
    refine DK.ret ?_
    refine And.intro (Or.inr rfl) ?_
    refine ⟨_, by simp [absAnswer, absResults, absResult, Tryd.f94]; rfl, ?_⟩
    refine ⟨by first | exact ⟨[], (List.append_nil _).symm⟩ | exact ⟨_, rfl⟩, by simp, ?_⟩
    first
      | (rw [show nthF a u e n = (0, 1) from if_neg (by rintro ⟨f1, f2, f3⟩; have := (ho1 f1).2.2; omega)]; done)
      | (rw [show nthF a u e n = Sea.out (Sea.nth a y m d u e n) from (if_pos ⟨hof, hsr, by omega, by omega⟩).trans (congrArg _ (nthO_eq u e n hv hnum))]
         clear ho1 ho2 hof
         have hu4 : u = 0 ∨ u = 1 ∨ u = 2 ∨ u = 3 := by omega
         have h12 : (m - 1 + n * e * 12) % 12 = (m - 1) % 12 := by omega
         rcases hu4 with h4 | h4 | h4 | h4 <;> first | (exfalso; omega) | (subst h4; simp only [Sea.nth, Sea.off, Sea.dayAdd, Sea.monAdd]; simp; split <;> first | exact ⟨rfl, rfl⟩ | (exfalso; omega) | (have hvv := Sea.mon_valid y m d (n * e) hv (by omega) (by omega); rw [(hn1 hvv).1]; exact ⟨rfl, rfl⟩) | (have hvv := Sea.mon_valid y m d (n * e * 12) hv (by omega) (by omega); rw [h12] at hvv; rw [(hn1 hvv).1]; exact ⟨rfl, rfl⟩) | trace_state))
  try simp only [h]
  replace h := Fa.out h
  refine DK.skip ?_
  refine DK.seq ?_
  refine DK.seq ?_
  refine DK.region (is := [0, 1]) (by kernel_rfl) rfl ?_
  refine WK.run [0, 1] (by simp; (try simp (disch := omega) only [wrap_in, Int.tdiv_eq_ediv_of_nonneg, Int.tmod_eq_emod_of_nonneg]); constructor <;> rfl) ?_
  refine WK.nil ?_
  refine DK.test rfl rfl (fun h => ?_) (fun h => ?_)
  · try simp only [h]
    replace h := Tr.out h
    refine DK.exit ?_
    refine DK.seq ?_
    refine DK.seq ?_
    refine DK.seq ?_
    refine DK.region (is := [0, 1, 2, 3]) (by kernel_rfl) rfl ?_
    refine WK.run [0, 1, 2, 3] (by simp; (try simp (disch := omega) only [wrap_in, Int.tdiv_eq_ediv_of_nonneg, Int.tmod_eq_emod_of_nonneg]); constructor <;> rfl) ?_
    refine WK.nil ?_
    refine DK.test rfl rfl (fun h => ?_) (fun h => ?_)
    · try simp only [h]
      replace h := Tr.out h
      refine DK.seq ?_
      refine DK.region (is := [0, 1]) (by kernel_rfl) rfl ?_
      refine WK.run [0, 1] (by simp; (try simp (disch := omega) only [wrap_in, Int.tdiv_eq_ediv_of_nonneg, Int.tmod_eq_emod_of_nonneg]); constructor <;> rfl) ?_
      refine WK.nil ?_
      refine DK.ret ?_
      refine And.intro (Or.inr rfl) ?_
      refine ⟨_, by simp [absAnswer, absResults, absResult, Tryd.f94]; rfl, ?_⟩
      refine ⟨by first | exact ⟨[], (List.append_nil _).symm⟩ | exact ⟨_, rfl⟩, by simp, ?_⟩
      first
        | (rw [show nthF a u e n = (0, 1) from if_neg (by rintro ⟨f1, f2, f3⟩; have := (ho1 f1).2.2; omega)]; done)
        | (rw [show nthF a u e n = Sea.out (Sea.nth a y m d u e n) from (if_pos ⟨hof, hsr, by omega, by omega⟩).trans (congrArg _ (nthO_eq u e n hv hnum))]
           clear ho1 ho2 hof
           have hu4 : u = 0 ∨ u = 1 ∨ u = 2 ∨ u = 3 := by omega
           have h12 : (m - 1 + n * e * 12) % 12 = (m - 1) % 12 := by omega
           rcases hu4 with h4 | h4 | h4 | h4 <;> first | (exfalso; omega) | (subst h4; simp only [Sea.nth, Sea.off, Sea.dayAdd, Sea.monAdd]; simp; split <;> first | exact ⟨rfl, rfl⟩ | (exfalso; omega) | (have hvv := Sea.mon_valid y m d (n * e) hv (by omega) (by omega); rw [(hn1 hvv).1]; exact ⟨rfl, rfl⟩) | (have hvv := Sea.mon_valid y m d (n * e * 12) hv (by omega) (by omega); rw [h12] at hvv; rw [(hn1 hvv).1]; exact ⟨rfl, rfl⟩) | trace_state))
    try simp only [h]
    replace h := Fa.out h
    refine DK.skip ?_
    refine DK.seq ?_
    refine DK.region (is := [0, 1, 2, 3, 4]) (by kernel_rfl) rfl ?_
    refine WK.run [0, 1, 2, 3, 4] (by simp; (try simp (disch := omega) only [wrap_in, Int.tdiv_eq_ediv_of_nonneg, Int.tmod_eq_emod_of_nonneg]); constructor <;> rfl) ?_
    refine WK.nil ?_
    refine DK.ret ?_
    refine And.intro (Or.inr rfl) ?_
    refine ⟨_, by simp [absAnswer, absResults, absResult, Tryd.f94]; rfl, ?_⟩
    refine ⟨by first | exact ⟨[], (List.append_nil _).symm⟩ | exact ⟨_, rfl⟩, by simp, ?_⟩
    first
      | (rw [show nthF a u e n = (0, 1) from if_neg (by rintro ⟨f1, f2, f3⟩; have := (ho1 f1).2.2; omega)]; done)
      | (rw [show nthF a u e n = Sea.out (Sea.nth a y m d u e n) from (if_pos ⟨hof, hsr, by omega, by omega⟩).trans (congrArg _ (nthO_eq u e n hv hnum))]
         clear ho1 ho2 hof
         have hu4 : u = 0 ∨ u = 1 ∨ u = 2 ∨ u = 3 := by omega
         have h12 : (m - 1 + n * e * 12) % 12 = (m - 1) % 12 := by omega
         rcases hu4 with h4 | h4 | h4 | h4 <;> first | (exfalso; omega) | (subst h4; simp only [Sea.nth, Sea.off, Sea.dayAdd, Sea.monAdd]; simp; split <;> first | exact ⟨rfl, rfl⟩ | (exfalso; omega) | (have hvv := Sea.mon_valid y m d (n * e) hv (by omega) (by omega); rw [(hn1 hvv).1]; exact ⟨rfl, rfl⟩) | (have hvv := Sea.mon_valid y m d (n * e * 12) hv (by omega) (by omega); rw [h12] at hvv; rw [(hn1 hvv).1]; exact ⟨rfl, rfl⟩) | trace_state))
  try simp only [h]
  replace h := Fa.out h
  refine DK.skip ?_
  refine DK.seq ?_
  refine DK.region (is := [0, 1]) (by kernel_rfl) rfl ?_
  refine WK.run [0, 1] (by simp; (try simp (disch := omega) only [wrap_in, Int.tdiv_eq_ediv_of_nonneg, Int.tmod_eq_emod_of_nonneg]); constructor <;> rfl) ?_
  refine WK.nil ?_
  refine DK.test rfl rfl (fun h => ?_) (fun h => ?_)
  · try simp only [h]
    replace h := Tr.out h
    refine DK.exit ?_
    refine DK.seq ?_
    refine DK.region (is := [0, 1, 2]) (by kernel_rfl) rfl ?_
    refine WK.run [0, 1, 2] (by simp; (try simp (disch := omega) only [wrap_in, Int.tdiv_eq_ediv_of_nonneg, Int.tmod_eq_emod_of_nonneg]); constructor <;> rfl) ?_
    refine WK.nil ?_
    refine DK.exit ?_
    refine DK.seq ?_
    refine DK.region (is := [0, 1, 2, 3, 4, 5]) (by kernel_rfl) rfl ?_
    refine WK.run [0, 1, 2, 3, 4, 5] (by simp; (try simp (disch := omega) only [wrap_in, Int.tdiv_eq_ediv_of_nonneg, Int.tmod_eq_emod_of_nonneg]); constructor <;> rfl) ?_
    refine WK.nil ?_
    refine DK.seq ?_
    refine DK.region (is := [0, 1, 2, 3, 4, 5]) (by kernel_rfl) rfl ?_
    refine WK.run [0, 1, 2, 3, 4, 5] (by simp; (try simp (disch := omega) only [wrap_in, Int.tdiv_eq_ediv_of_nonneg, Int.tmod_eq_emod_of_nonneg]); constructor <;> rfl) ?_
    refine WK.nil ?_
    refine DK.seq ?_
    refine DK.seq ?_
    refine DK.region (is := [0, 1]) (by kernel_rfl) rfl ?_
    refine WK.run [0, 1] (by simp; (try simp (disch := omega) only [wrap_in, Int.tdiv_eq_ediv_of_nonneg, Int.tmod_eq_emod_of_nonneg]); constructor <;> rfl) ?_
    refine WK.nil ?_
    refine DK.test rfl rfl (fun h => ?_) (fun h => ?_)
    · try simp only [h]
      replace h := Tr.out h
      refine DK.seq ?_
      refine DK.region (is := [0, 1]) (by kernel_rfl) rfl ?_
      refine WK.run [0, 1] (by simp; (try simp (disch := omega) only [wrap_in, Int.tdiv_eq_ediv_of_nonneg, Int.tmod_eq_emod_of_nonneg]); constructor <;> rfl) ?_
      refine WK.nil ?_
      refine DK.ret ?_
      refine And.intro (Or.inr rfl) ?_
      refine ⟨_, by simp [absAnswer, absResults, absResult, Tryd.f94]; rfl, ?_⟩
      refine ⟨by first | exact ⟨[], (List.append_nil _).symm⟩ | exact ⟨_, rfl⟩, by simp, ?_⟩
      first
        | (rw [show nthF a u e n = (0, 1) from if_neg (by rintro ⟨f1, f2, f3⟩; have := (ho1 f1).2.2; omega)]; done)
        | (rw [show nthF a u e n = Sea.out (Sea.nth a y m d u e n) from (if_pos ⟨hof, hsr, by omega, by omega⟩).trans (congrArg _ (nthO_eq u e n hv hnum))]
           clear ho1 ho2 hof
           have hu4 : u = 0 ∨ u = 1 ∨ u = 2 ∨ u = 3 := by omega
           have h12 : (m - 1 + n * e * 12) % 12 = (m - 1) % 12 := by omega
           rcases hu4 with h4 | h4 | h4 | h4 <;> first | (exfalso; omega) | (subst h4; simp only [Sea.nth, Sea.off, Sea.dayAdd, Sea.monAdd]; simp; split <;> first | exact ⟨rfl, rfl⟩ | (exfalso; omega) | (have hvv := Sea.mon_valid y m d (n * e) hv (by omega) (by omega); rw [(hn1 hvv).1]; exact ⟨rfl, rfl⟩) | (have hvv := Sea.mon_valid y m d (n * e * 12) hv (by omega) (by omega); rw [h12] at hvv; rw [(hn1 hvv).1]; exact ⟨rfl, rfl⟩) | trace_state))
    try simp only [h]
    replace h := Fa.out h
    refine DK.skip ?_
    refine DK.seq ?_
    refine DK.region (is := [0, 1, 2, 3, 4, 5, 6, 7, 8, 9, 10, 11, 12]) (by kernel_rfl) rfl ?_
    refine WK.run [0, 1, 2, 3, 4, 5] (by simp; (try simp (disch := omega) only [wrap_in, Int.tdiv_eq_ediv_of_nonneg, Int.tmod_eq_emod_of_nonneg]); constructor <;> rfl) ?_
    refine WK.call rfl (by simp) (by simp [Tryd.func107, Tryd.f107]; (try simp (disch := omega) only [wrap_in, Int.tdiv_eq_ediv_of_nonneg, Int.tmod_eq_emod_of_nonneg]); constructor <;> rfl) ?_
    refine FSem.mono (clamp_s _ _ _ (by omega) _) ?_
    rintro _ _ ⟨rfl, rfl⟩
    refine WK.call rfl (by simp) (by simp [Tryd.func106, Tryd.f106]; (try simp (disch := omega) only [wrap_in, Int.tdiv_eq_ediv_of_nonneg, Int.tmod_eq_emod_of_nonneg]); constructor <;> rfl) ?_
    refine FSem.mono (number_s _ _ _ _) ?_
    rintro _ _ ⟨⟨nn, ne, rfl, hn1, hn2⟩, rfl⟩
    refine WK.run [8, 9, 10, 11, 12] (by simp; (try simp (disch := omega) only [wrap_in, Int.tdiv_eq_ediv_of_nonneg, Int.tmod_eq_emod_of_nonneg]); constructor <;> rfl) ?_
    refine WK.nil ?_
    refine DK.seq ?_
    refine DK.region (is := [0, 1, 2]) (by kernel_rfl) rfl ?_
    refine WK.run [0, 1, 2] (by simp; (try simp (disch := omega) only [wrap_in, Int.tdiv_eq_ediv_of_nonneg, Int.tmod_eq_emod_of_nonneg]); constructor <;> rfl) ?_
    refine WK.nil ?_
    refine DK.ret ?_
    refine And.intro (Or.inr rfl) ?_
    refine ⟨_, by simp [absAnswer, absResults, absResult, Tryd.f94]; rfl, ?_⟩
    refine ⟨by first | exact ⟨[], (List.append_nil _).symm⟩ | exact ⟨_, rfl⟩, by simp, ?_⟩
    first
      | (rw [show nthF a u e n = (0, 1) from if_neg (by rintro ⟨f1, f2, f3⟩; have := (ho1 f1).2.2; omega)]; done)
      | (rw [show nthF a u e n = Sea.out (Sea.nth a y m d u e n) from (if_pos ⟨hof, hsr, by omega, by omega⟩).trans (congrArg _ (nthO_eq u e n hv hnum))]
         clear ho1 ho2 hof
         have hu4 : u = 0 ∨ u = 1 ∨ u = 2 ∨ u = 3 := by omega
         have h12 : (m - 1 + n * e * 12) % 12 = (m - 1) % 12 := by omega
         rcases hu4 with h4 | h4 | h4 | h4 <;> first | (exfalso; omega) | (subst h4; simp only [Sea.nth, Sea.off, Sea.dayAdd, Sea.monAdd]; simp; split <;> first | exact ⟨rfl, rfl⟩ | (exfalso; omega) | (have hvv := Sea.mon_valid y m d (n * e) hv (by omega) (by omega); rw [(hn1 hvv).1]; exact ⟨rfl, rfl⟩) | (have hvv := Sea.mon_valid y m d (n * e * 12) hv (by omega) (by omega); rw [h12] at hvv; rw [(hn1 hvv).1]; exact ⟨rfl, rfl⟩) | trace_state))
  try simp only [h]
  replace h := Fa.out h
  refine DK.skip ?_
  refine DK.exit ?_
  refine DK.seq ?_
  refine DK.region (is := [0, 1, 2, 3, 4, 5]) (by kernel_rfl) rfl ?_
  refine WK.run [0, 1, 2, 3, 4, 5] (by simp; (try simp (disch := omega) only [wrap_in, Int.tdiv_eq_ediv_of_nonneg, Int.tmod_eq_emod_of_nonneg]); constructor <;> rfl) ?_
  refine WK.nil ?_
  refine DK.seq ?_
  refine DK.region (is := [0, 1, 2, 3, 4, 5]) (by kernel_rfl) rfl ?_
  refine WK.run [0, 1, 2, 3, 4, 5] (by simp; (try simp (disch := omega) only [wrap_in, Int.tdiv_eq_ediv_of_nonneg, Int.tmod_eq_emod_of_nonneg]); constructor <;> rfl) ?_
  refine WK.nil ?_
  refine DK.seq ?_
  refine DK.seq ?_
  refine DK.region (is := [0, 1]) (by kernel_rfl) rfl ?_
  refine WK.run [0, 1] (by simp; (try simp (disch := omega) only [wrap_in, Int.tdiv_eq_ediv_of_nonneg, Int.tmod_eq_emod_of_nonneg]); constructor <;> rfl) ?_
  refine WK.nil ?_
  refine DK.test rfl rfl (fun h => ?_) (fun h => ?_)
  · try simp only [h]
    replace h := Tr.out h
    refine DK.seq ?_
    refine DK.region (is := [0, 1]) (by kernel_rfl) rfl ?_
    refine WK.run [0, 1] (by simp; (try simp (disch := omega) only [wrap_in, Int.tdiv_eq_ediv_of_nonneg, Int.tmod_eq_emod_of_nonneg]); constructor <;> rfl) ?_
    refine WK.nil ?_
    refine DK.ret ?_
    refine And.intro (Or.inr rfl) ?_
    refine ⟨_, by simp [absAnswer, absResults, absResult, Tryd.f94]; rfl, ?_⟩
    refine ⟨by first | exact ⟨[], (List.append_nil _).symm⟩ | exact ⟨_, rfl⟩, by simp, ?_⟩
    first
      | (rw [show nthF a u e n = (0, 1) from if_neg (by rintro ⟨f1, f2, f3⟩; have := (ho1 f1).2.2; omega)]; done)
      | (rw [show nthF a u e n = Sea.out (Sea.nth a y m d u e n) from (if_pos ⟨hof, hsr, by omega, by omega⟩).trans (congrArg _ (nthO_eq u e n hv hnum))]
         clear ho1 ho2 hof
         have hu4 : u = 0 ∨ u = 1 ∨ u = 2 ∨ u = 3 := by omega
         have h12 : (m - 1 + n * e * 12) % 12 = (m - 1) % 12 := by omega
         rcases hu4 with h4 | h4 | h4 | h4 <;> first | (exfalso; omega) | (subst h4; simp only [Sea.nth, Sea.off, Sea.dayAdd, Sea.monAdd]; simp; split <;> first | exact ⟨rfl, rfl⟩ | (exfalso; omega) | (have hvv := Sea.mon_valid y m d (n * e) hv (by omega) (by omega); rw [(hn1 hvv).1]; exact ⟨rfl, rfl⟩) | (have hvv := Sea.mon_valid y m d (n * e * 12) hv (by omega) (by omega); rw [h12] at hvv; rw [(hn1 hvv).1]; exact ⟨rfl, rfl⟩) | trace_state))
  try simp only [h]
  replace h := Fa.out h
  refine DK.skip ?_
  refine DK.seq ?_
  refine DK.region (is := [0, 1, 2, 3, 4, 5, 6, 7, 8, 9, 10, 11, 12]) (by kernel_rfl) rfl ?_
  refine WK.run [0, 1, 2, 3, 4, 5] (by simp; (try simp (disch := omega) only [wrap_in, Int.tdiv_eq_ediv_of_nonneg, Int.tmod_eq_emod_of_nonneg]); constructor <;> rfl) ?_
  refine WK.call rfl (by simp) (by simp [Tryd.func107, Tryd.f107]; (try simp (disch := omega) only [wrap_in, Int.tdiv_eq_ediv_of_nonneg, Int.tmod_eq_emod_of_nonneg]); constructor <;> rfl) ?_
  refine FSem.mono (clamp_s _ _ _ (by omega) _) ?_
  rintro _ _ ⟨rfl, rfl⟩
  refine WK.call rfl (by simp) (by simp [Tryd.func106, Tryd.f106]; (try simp (disch := omega) only [wrap_in, Int.tdiv_eq_ediv_of_nonneg, Int.tmod_eq_emod_of_nonneg]); constructor <;> rfl) ?_
  refine FSem.mono (number_s _ _ _ _) ?_
  rintro _ _ ⟨⟨nn, ne, rfl, hn1, hn2⟩, rfl⟩
  refine WK.run [8, 9, 10, 11, 12] (by simp; (try simp (disch := omega) only [wrap_in, Int.tdiv_eq_ediv_of_nonneg, Int.tmod_eq_emod_of_nonneg]); constructor <;> rfl) ?_
  refine WK.nil ?_
  refine DK.seq ?_
  refine DK.region (is := [0, 1, 2]) (by kernel_rfl) rfl ?_
  refine WK.run [0, 1, 2] (by simp; (try simp (disch := omega) only [wrap_in, Int.tdiv_eq_ediv_of_nonneg, Int.tmod_eq_emod_of_nonneg]); constructor <;> rfl) ?_
  refine WK.nil ?_
  refine DK.ret ?_
  refine And.intro (Or.inr rfl) ?_
  refine ⟨_, by simp [absAnswer, absResults, absResult, Tryd.f94]; rfl, ?_⟩
  refine ⟨by first | exact ⟨[], (List.append_nil _).symm⟩ | exact ⟨_, rfl⟩, by simp, ?_⟩
  first
    | (rw [show nthF a u e n = (0, 1) from if_neg (by rintro ⟨f1, f2, f3⟩; have := (ho1 f1).2.2; omega)]; done)
    | (rw [show nthF a u e n = Sea.out (Sea.nth a y m d u e n) from (if_pos ⟨hof, hsr, by omega, by omega⟩).trans (congrArg _ (nthO_eq u e n hv hnum))]
       clear ho1 ho2 hof
       have hu4 : u = 0 ∨ u = 1 ∨ u = 2 ∨ u = 3 := by omega
       have h12 : (m - 1 + n * e * 12) % 12 = (m - 1) % 12 := by omega
       rcases hu4 with h4 | h4 | h4 | h4 <;> first | (exfalso; omega) | (subst h4; simp only [Sea.nth, Sea.off, Sea.dayAdd, Sea.monAdd]; simp; split <;> first | exact ⟨rfl, rfl⟩ | (exfalso; omega) | (have hvv := Sea.mon_valid y m d (n * e) hv (by omega) (by omega); rw [(hn1 hvv).1]; exact ⟨rfl, rfl⟩) | (have hvv := Sea.mon_valid y m d (n * e * 12) hv (by omega) (by omega); rw [h12] at hvv; rw [(hn1 hvv).1]; exact ⟨rfl, rfl⟩) | trace_state))
theorem fine_zero {a u e : Int} (h : (nthF a u e 0).2 = 0) : (0 ≤ a ∧ a ≤ 3652058) ∧ (u ≤ 3 ∧ 1 ≤ e ∧ e ≤ 1000) := ⟨(nthF_ok h).1.1, (nthF_ok h).1.2.1⟩
theorem not_fine {a u e : Int} (h : (nthF a u e 0).2 ≠ 0) : ¬ Fine a u e 0 := fun f => h (by unfold nthF; rw [if_pos f, nthO_zero f.1.1 f.1.2]; rfl)
def Cntb (a u e day : Int) : Prop := Fine a u e 0 ∧ 0 ≤ day ∧ day ≤ 3652058
theorem count_s (a u e day : Int) (hu : 0 ≤ u) (H : Mem) : FSem Tryd.prog [0] 101 #[.int .i64 a, .int .u8 u, .int .i64 e, .int .i64 day] H fun v H' => (∃ c er, v = .tuple #[.int .i64 c, .int .i64 er] ∧ (Cntb a u e day → Cnt a u e day c ∧ er = 0 ∧ c ≤ 3652059) ∧ (¬ Cntb a u e day → c = 0 ∧ er = 1)) ∧ H' = H := by
  refine FSem.plainT ?_
  refine FSem.ofK Tryd.func101 rfl ?_
  refine DK.from (b' := ⟨#[.int .i64 a, .int .u8 u, .int .i64 e, .int .i64 day, undef, undef, undef, undef, undef, undef, undef, undef, undef, undef, undef, undef, undef, undef, undef, undef, undef, undef, undef, undef, undef, undef, undef, undef, undef, undef, undef, undef, undef, undef, undef, undef, undef, undef, undef, undef, undef, undef, undef, undef, undef, undef, undef, undef, undef, undef, undef, undef, undef, undef, undef, undef, undef, undef, undef, undef, undef, undef, undef, undef], []⟩) (by kernel_rfl) ?_
  refine DK.seq ?_
  refine DK.region (is := [0, 1]) (by kernel_rfl) rfl ?_
  refine WK.run [0, 1] (by simp; (try simp (disch := omega) only [wrap_in, Int.tdiv_eq_ediv_of_nonneg, Int.tmod_eq_emod_of_nonneg]); constructor <;> rfl) ?_
  refine WK.nil ?_
  refine DK.seq ?_
  refine DK.seq ?_
  refine DK.region (is := [0, 1, 2, 3, 4, 5, 6, 7, 8]) (by kernel_rfl) rfl ?_
  refine WK.run [0, 1, 2] (by simp; (try simp (disch := omega) only [wrap_in, Int.tdiv_eq_ediv_of_nonneg, Int.tmod_eq_emod_of_nonneg]); constructor <;> rfl) ?_
  refine WK.call rfl (by simp) (by simp [Tryd.func94, Tryd.f94]; (try simp (disch := omega) only [wrap_in, Int.tdiv_eq_ediv_of_nonneg, Int.tmod_eq_emod_of_nonneg]); constructor <;> rfl) ?_
  refine FSem.mono (nth_s _ _ _ _ hu _) ?_
  rintro _ _ ⟨rfl, rfl⟩
  refine WK.run [4, 5, 6, 7, 8] (by simp; (try simp (disch := omega) only [wrap_in, Int.tdiv_eq_ediv_of_nonneg, Int.tmod_eq_emod_of_nonneg]); constructor <;> rfl) ?_
  refine WK.nil ?_
  refine DK.seq ?_
  refine DK.region (is := [0, 1, 2, 3, 4, 5, 6, 7, 8, 9]) (by kernel_rfl) rfl ?_
  refine WK.run [0, 1, 2] (by simp; (try simp (disch := omega) only [wrap_in, Int.tdiv_eq_ediv_of_nonneg, Int.tmod_eq_emod_of_nonneg]); constructor <;> rfl) ?_
  refine WK.split (t := 26) rfl (fun h => ?_) (fun h => ?_)
  · try simp only [h]
    replace h := Tr.out h
    refine WK.run [3, 4, 5, 6, 7, 8, 9] (by simp; (try simp (disch := omega) only [wrap_in, Int.tdiv_eq_ediv_of_nonneg, Int.tmod_eq_emod_of_nonneg]); constructor <;> rfl) ?_
    refine WK.nil ?_
    refine DK.yes rfl rfl ?_
    refine DK.seq ?_
    refine DK.region (is := [0, 1]) (by kernel_rfl) rfl ?_
    refine WK.run [0, 1] (by simp; (try simp (disch := omega) only [wrap_in, Int.tdiv_eq_ediv_of_nonneg, Int.tmod_eq_emod_of_nonneg]); constructor <;> rfl) ?_
    refine WK.nil ?_
    refine DK.ret ?_
    refine And.intro (Or.inr rfl) ?_
    refine ⟨_, by simp [absAnswer, absResults, absResult, Tryd.f101]; rfl, ?_⟩
    refine ⟨by first | exact ⟨[], (List.append_nil _).symm⟩ | exact ⟨_, rfl⟩, by simp, ?_⟩
    first
      | exact ⟨_, _, rfl, fun f => absurd f.1 (not_fine h), fun _ => ⟨rfl, rfl⟩⟩
      | (refine ⟨_, _, rfl, fun f => ?_, fun _ => ⟨rfl, rfl⟩⟩; have := f.2; omega)
      | exact ⟨_, _, rfl, fun _ => ⟨⟨hl, hup, hno _ (by omega) hl⟩, rfl, by omega⟩, fun f => absurd ⟨⟨hF1, hF2, by omega, by omega⟩, by omega, by omega⟩ f⟩
  try simp only [h]
  replace h := Fa.out h
  refine WK.run [3, 4, 5, 6] (by simp; (try simp (disch := omega) only [wrap_in, Int.tdiv_eq_ediv_of_nonneg, Int.tmod_eq_emod_of_nonneg]); constructor <;> rfl) ?_
  refine WK.split (t := 30) rfl (fun h => ?_) (fun h => ?_)
  · try simp only [h]
    replace h := Tr.out h
    refine WK.run [7, 8, 9] (by simp; (try simp (disch := omega) only [wrap_in, Int.tdiv_eq_ediv_of_nonneg, Int.tmod_eq_emod_of_nonneg]); constructor <;> rfl) ?_
    refine WK.nil ?_
    refine DK.yes rfl rfl ?_
    refine DK.seq ?_
    refine DK.region (is := [0, 1]) (by kernel_rfl) rfl ?_
    refine WK.run [0, 1] (by simp; (try simp (disch := omega) only [wrap_in, Int.tdiv_eq_ediv_of_nonneg, Int.tmod_eq_emod_of_nonneg]); constructor <;> rfl) ?_
    refine WK.nil ?_
    refine DK.ret ?_
    refine And.intro (Or.inr rfl) ?_
    refine ⟨_, by simp [absAnswer, absResults, absResult, Tryd.f101]; rfl, ?_⟩
    refine ⟨by first | exact ⟨[], (List.append_nil _).symm⟩ | exact ⟨_, rfl⟩, by simp, ?_⟩
    first
      | exact ⟨_, _, rfl, fun f => absurd f.1 (not_fine h), fun _ => ⟨rfl, rfl⟩⟩
      | (refine ⟨_, _, rfl, fun f => ?_, fun _ => ⟨rfl, rfl⟩⟩; have := f.2; omega)
      | exact ⟨_, _, rfl, fun _ => ⟨⟨hl, hup, hno _ (by omega) hl⟩, rfl, by omega⟩, fun f => absurd ⟨⟨hF1, hF2, by omega, by omega⟩, by omega, by omega⟩ f⟩
  try simp only [h]
  replace h := Fa.out h
  refine WK.run [7, 8, 9] (by simp; (try simp (disch := omega) only [wrap_in, Int.tdiv_eq_ediv_of_nonneg, Int.tmod_eq_emod_of_nonneg]); constructor <;> rfl) ?_
  refine WK.nil ?_
  refine DK.test rfl rfl (fun h => ?_) (fun h => ?_)
  · try simp only [h]
    replace h := Tr.out h
    refine DK.seq ?_
    refine DK.region (is := [0, 1]) (by kernel_rfl) rfl ?_
    refine WK.run [0, 1] (by simp; (try simp (disch := omega) only [wrap_in, Int.tdiv_eq_ediv_of_nonneg, Int.tmod_eq_emod_of_nonneg]); constructor <;> rfl) ?_
    refine WK.nil ?_
    refine DK.ret ?_
    refine And.intro (Or.inr rfl) ?_
    refine ⟨_, by simp [absAnswer, absResults, absResult, Tryd.f101]; rfl, ?_⟩
    refine ⟨by first | exact ⟨[], (List.append_nil _).symm⟩ | exact ⟨_, rfl⟩, by simp, ?_⟩
    first
      | exact ⟨_, _, rfl, fun f => absurd f.1 (not_fine h), fun _ => ⟨rfl, rfl⟩⟩
      | (refine ⟨_, _, rfl, fun f => ?_, fun _ => ⟨rfl, rfl⟩⟩; have := f.2; omega)
      | exact ⟨_, _, rfl, fun _ => ⟨⟨hl, hup, hno _ (by omega) hl⟩, rfl, by omega⟩, fun f => absurd ⟨⟨hF1, hF2, by omega, by omega⟩, by omega, by omega⟩ f⟩
  try simp only [h]
  replace h := Fa.out h
  obtain ⟨hF1, hF2⟩ := fine_zero (by omega)
  refine DK.skip ?_
  refine DK.seq ?_
  refine DK.region (is := [0, 1, 2, 3, 4, 5]) (by kernel_rfl) rfl ?_
  refine WK.run [0, 1, 2, 3, 4, 5] (by simp; (try simp (disch := omega) only [wrap_in, Int.tdiv_eq_ediv_of_nonneg, Int.tmod_eq_emod_of_nonneg]); constructor <;> rfl) ?_
  refine WK.nil ?_
  refine DK.seq ?_
  refine DK.block ?_
  refine DK.loopM [12, 13, 14, 15, 16, 38, 39, 40, 41, 42, 43, 44, 45, 46, 47, 48, 49, 50, 51, 52, 53, 54, 55, 56, 57, 58, 59, 60, 61, 62] (fun fl vs => ∃ (lo hi : Int) (j14 j15 j16 j38 j39 j40 j41 j42 j43 j44 j45 j46 j47 j48 j49 j50 j51 j52 j53 j54 j55 j56 j57 j58 j59 j60 j61 j62 : Value), vs = [.int .i64 lo, .int .i64 hi, j14, j15, j16, j38, j39, j40, j41, j42, j43, j44, j45, j46, j47, j48, j49, j50, j51, j52, j53, j54, j55, j56, j57, j58, j59, j60, j61, j62] ∧ 0 ≤ lo ∧ -3652059 ≤ hi ∧ hi ≤ 3652059 ∧ (lo ≤ hi ∨ lo = 0) ∧ (∀ i, 0 ≤ i → i < lo → Up a u e i day) ∧ (∀ i, hi ≤ i → 0 ≤ i → ¬ Up a u e i day) ∧ fl = (hi - lo).toNat) ((day - a + 1 - 0).toNat) (by kernel_rfl) ?_ ?_
  · refine ⟨_, _, _, _, _, _, _, _, _, _, _, _, _, _, _, _, _, _, _, _, _, _, _, _, _, _, _, _, _, _, rfl, ?_⟩
    exact ⟨by omega, by omega, by omega, by omega, fun i i0 i1 => by omega, fun i i1 i0 => up_not hF1.1 hF1.2 hF2.2.1 i0 (by omega), rfl⟩
  rintro fl _ ⟨lo, hi, j14, j15, j16, j38, j39, j40, j41, j42, j43, j44, j45, j46, j47, j48, j49, j50, j51, j52, j53, j54, j55, j56, j57, j58, j59, j60, j61, j62, rfl, hf⟩
  obtain ⟨hl, hh1, hh2, hor, hup, hno, hk⟩ := hf
  refine DK.from (by simp [setL]; exact rfl) ?_
  refine DK.seq ?_
  refine DK.seq ?_
  refine DK.region (is := [0, 1, 2]) (by kernel_rfl) rfl ?_
  refine WK.run [0, 1, 2] (by simp; (try simp (disch := omega) only [wrap_in, Int.tdiv_eq_ediv_of_nonneg, Int.tmod_eq_emod_of_nonneg]); constructor <;> rfl) ?_
  refine WK.nil ?_
  refine DK.test rfl rfl (fun h => ?_) (fun h => ?_)
  · try simp only [h]
    replace h := Tr.out h
    refine DK.skip ?_
    refine DK.block ?_
    refine DK.seq ?_
    refine DK.region (is := [0, 1, 2, 3, 4]) (by kernel_rfl) rfl ?_
    refine WK.run [0, 1, 2, 3, 4] (by simp; (try simp (disch := omega) only [wrap_in, Int.tdiv_eq_ediv_of_nonneg, Int.tmod_eq_emod_of_nonneg]); constructor <;> rfl) ?_
    refine WK.nil ?_
    refine DK.seq ?_
    refine DK.region (is := [0, 1, 2, 3, 4, 5, 6, 7, 8, 9]) (by kernel_rfl) rfl ?_
    refine WK.run [0, 1, 2, 3] (by simp; (try simp (disch := omega) only [wrap_in, Int.tdiv_eq_ediv_of_nonneg, Int.tmod_eq_emod_of_nonneg]); constructor <;> rfl) ?_
    refine WK.call rfl (by simp) (by simp [Tryd.func94, Tryd.f94]; (try simp (disch := omega) only [wrap_in, Int.tdiv_eq_ediv_of_nonneg, Int.tmod_eq_emod_of_nonneg]); constructor <;> rfl) ?_
    refine FSem.mono (nth_s _ _ _ _ hu _) ?_
    rintro _ _ ⟨rfl, rfl⟩
    refine WK.run [5, 6, 7, 8, 9] (by simp; (try simp (disch := omega) only [wrap_in, Int.tdiv_eq_ediv_of_nonneg, Int.tmod_eq_emod_of_nonneg]); constructor <;> rfl) ?_
    refine WK.nil ?_
    refine DK.seq ?_
    refine DK.region (is := [0, 1, 2, 3, 4, 5, 6]) (by kernel_rfl) rfl ?_
    refine WK.run [0, 1, 2] (by simp; (try simp (disch := omega) only [wrap_in, Int.tdiv_eq_ediv_of_nonneg, Int.tmod_eq_emod_of_nonneg]); constructor <;> rfl) ?_
    refine WK.split (t := 55) rfl (fun h => ?_) (fun h => ?_)
    · try simp only [h]
      replace h := Tr.out h
      refine WK.run [3, 4, 5, 6] (by simp; (try simp (disch := omega) only [wrap_in, Int.tdiv_eq_ediv_of_nonneg, Int.tmod_eq_emod_of_nonneg]); constructor <;> rfl) ?_
      refine WK.nil ?_
      refine DK.yes rfl rfl ?_
      refine DK.region (is := [0, 1]) (by kernel_rfl) rfl ?_
      refine WK.run [0, 1] (by simp; (try simp (disch := omega) only [wrap_in, Int.tdiv_eq_ediv_of_nonneg, Int.tmod_eq_emod_of_nonneg]); constructor <;> rfl) ?_
      refine WK.nil ?_
      refine ⟨by kernel_rfl, rfl, ((lo + hi) / 2 - lo).toNat, ?_, _, _, _, _, _, _, _, _, _, _, _, _, _, _, _, _, _, _, _, _, _, _, _, _, _, _, _, _, _, _, rfl, ?_⟩
      · omega
      · refine ⟨hl, by omega, by omega, by omega, hup, fun i i1 i0 hU => ?_, rfl⟩
        have q := (up_iff (day := day) (⟨hF1, hF2, by omega, by omega⟩ : Fine a u e ((lo + hi) / 2))).1 (up_down hF1.1 hF1.2 hF2.2.1 (by omega) i1 hU)
        omega
    try simp only [h]
    replace h := Fa.out h
    refine WK.run [3, 4, 5, 6] (by simp; (try simp (disch := omega) only [wrap_in, Int.tdiv_eq_ediv_of_nonneg, Int.tmod_eq_emod_of_nonneg]); constructor <;> rfl) ?_
    refine WK.nil ?_
    refine DK.test rfl rfl (fun h => ?_) (fun h => ?_)
    · try simp only [h]
      replace h := Tr.out h
      refine DK.region (is := [0, 1]) (by kernel_rfl) rfl ?_
      refine WK.run [0, 1] (by simp; (try simp (disch := omega) only [wrap_in, Int.tdiv_eq_ediv_of_nonneg, Int.tmod_eq_emod_of_nonneg]); constructor <;> rfl) ?_
      refine WK.nil ?_
      refine ⟨by kernel_rfl, rfl, ((lo + hi) / 2 - lo).toNat, ?_, _, _, _, _, _, _, _, _, _, _, _, _, _, _, _, _, _, _, _, _, _, _, _, _, _, _, _, _, _, _, rfl, ?_⟩
      · omega
      · refine ⟨hl, by omega, by omega, by omega, hup, fun i i1 i0 hU => ?_, rfl⟩
        have q := (up_iff (day := day) (⟨hF1, hF2, by omega, by omega⟩ : Fine a u e ((lo + hi) / 2))).1 (up_down hF1.1 hF1.2 hF2.2.1 (by omega) i1 hU)
        omega
    try simp only [h]
    replace h := Fa.out h
    refine DK.region (is := [0, 1, 2]) (by kernel_rfl) rfl ?_
    refine WK.run [0, 1, 2] (by simp; (try simp (disch := omega) only [wrap_in, Int.tdiv_eq_ediv_of_nonneg, Int.tmod_eq_emod_of_nonneg]); constructor <;> rfl) ?_
    refine WK.nil ?_
    refine ⟨by kernel_rfl, rfl, (hi - ((lo + hi) / 2 + 1)).toNat, ?_, _, _, _, _, _, _, _, _, _, _, _, _, _, _, _, _, _, _, _, _, _, _, _, _, _, _, _, _, _, _, rfl, ?_⟩
    · omega
    · refine ⟨by omega, by omega, by omega, by omega, fun i i0 i1 => up_down hF1.1 hF1.2 hF2.2.1 i0 (by omega) ((up_iff (day := day) (⟨hF1, hF2, by omega, by omega⟩ : Fine a u e ((lo + hi) / 2))).2 (by omega)), hno, rfl⟩
  try simp only [h]
  replace h := Fa.out h
  refine DK.exit ?_
  refine DK.seq ?_
  refine DK.region (is := [0, 1, 2]) (by kernel_rfl) rfl ?_
  refine WK.run [0, 1, 2] (by simp; (try simp (disch := omega) only [wrap_in, Int.tdiv_eq_ediv_of_nonneg, Int.tmod_eq_emod_of_nonneg]); constructor <;> rfl) ?_
  refine WK.nil ?_
  refine DK.ret ?_
  refine And.intro (Or.inr rfl) ?_
  refine ⟨_, by simp [absAnswer, absResults, absResult, Tryd.f101]; rfl, ?_⟩
  refine ⟨by first | exact ⟨[], (List.append_nil _).symm⟩ | exact ⟨_, rfl⟩, by simp, ?_⟩
  first
    | exact ⟨_, _, rfl, fun f => absurd f.1 (not_fine h), fun _ => ⟨rfl, rfl⟩⟩
    | (refine ⟨_, _, rfl, fun f => ?_, fun _ => ⟨rfl, rfl⟩⟩; have := f.2; omega)
    | exact ⟨_, _, rfl, fun _ => ⟨⟨hl, hup, hno _ (by omega) hl⟩, rfl, by omega⟩, fun f => absurd ⟨⟨hF1, hF2, by omega, by omega⟩, by omega, by omega⟩ f⟩
theorem span_s (a u e day : Int) (hu : 0 ≤ u) (H : Mem) : FSem Tryd.prog [0] 88 #[.int .i64 a, .int .u8 u, .int .i64 e, .int .i64 day] H fun v H' => (∃ f t er, v = .tuple #[.int .i64 f, .int .i64 t, .int .i64 er] ∧ (¬ Cntb a u e day → f = 0 ∧ t = 0 ∧ er = 1) ∧ (Cntb a u e day → ∃ c, Cnt a u e day c ∧ c ≤ 3652059 ∧ (c = 0 → f = 0 ∧ t = 0 ∧ er = 2) ∧ (c ≠ 0 → (er = (nthF a u e c).2 ∧ (er = 0 → f = (nthF a u e (c - 1)).1 ∧ t = (nthF a u e c).1) ∧ (er ≠ 0 → f = 0 ∧ t = 0))))) ∧ H' = H := by
  refine FSem.plainT ?_
  refine FSem.ofK Tryd.func88 rfl ?_
  refine DK.from (b' := ⟨#[.int .i64 a, .int .u8 u, .int .i64 e, .int .i64 day, undef, undef, undef, undef, undef, undef, undef, undef, undef, undef, undef, undef, undef, undef, undef, undef, undef, undef, undef, undef, undef, undef, undef, undef, undef, undef, undef, undef, undef, undef, undef, undef, undef, undef, undef, undef, undef, undef, undef, undef, undef, undef, undef, undef, undef, undef, undef, undef, undef], []⟩) (by kernel_rfl) ?_
  refine DK.seq ?_
  refine DK.region (is := [0, 1, 2]) (by kernel_rfl) rfl ?_
  refine WK.run [0, 1, 2] (by simp; (try simp (disch := omega) only [wrap_in, Int.tdiv_eq_ediv_of_nonneg, Int.tmod_eq_emod_of_nonneg]); constructor <;> rfl) ?_
  refine WK.nil ?_
  refine DK.seq ?_
  refine DK.region (is := [0, 1, 2, 3, 4, 5, 6, 7, 8, 9]) (by kernel_rfl) rfl ?_
  refine WK.run [0, 1, 2, 3] (by simp; (try simp (disch := omega) only [wrap_in, Int.tdiv_eq_ediv_of_nonneg, Int.tmod_eq_emod_of_nonneg]); constructor <;> rfl) ?_
  refine WK.call rfl (by simp) (by simp [Tryd.func101, Tryd.f101]; (try simp (disch := omega) only [wrap_in, Int.tdiv_eq_ediv_of_nonneg, Int.tmod_eq_emod_of_nonneg]); constructor <;> rfl) ?_
  refine FSem.mono (count_s _ _ _ _ hu _) ?_
  rintro _ _ ⟨⟨c, er, rfl, hc1, hc2⟩, rfl⟩
  refine WK.run [5, 6, 7, 8, 9] (by simp; (try simp (disch := omega) only [wrap_in, Int.tdiv_eq_ediv_of_nonneg, Int.tmod_eq_emod_of_nonneg]); constructor <;> rfl) ?_
  refine WK.nil ?_
  refine DK.seq ?_
  refine DK.block ?_
  refine DK.seq ?_
  refine DK.region (is := [0, 1, 2]) (by kernel_rfl) rfl ?_
  refine WK.run [0, 1, 2] (by simp; (try simp (disch := omega) only [wrap_in, Int.tdiv_eq_ediv_of_nonneg, Int.tmod_eq_emod_of_nonneg]); constructor <;> rfl) ?_
  refine WK.nil ?_
  refine DK.test rfl rfl (fun h => ?_) (fun h => ?_)
  · try simp only [h]
    replace h := Tr.out h
    refine DK.seq ?_
    refine DK.region (is := [0, 1, 2, 3]) (by kernel_rfl) rfl ?_
    refine WK.run [0, 1, 2, 3] (by simp; (try simp (disch := omega) only [wrap_in, Int.tdiv_eq_ediv_of_nonneg, Int.tmod_eq_emod_of_nonneg]); constructor <;> rfl) ?_
    refine WK.nil ?_
    refine DK.ret ?_
    refine And.intro (Or.inr rfl) ?_
    refine ⟨_, by simp [absAnswer, absResults, absResult, Tryd.f88]; rfl, ?_⟩
    refine ⟨by first | exact ⟨[], (List.append_nil _).symm⟩ | exact ⟨_, rfl⟩, by simp, ?_⟩
    by_cases hcb : Cntb a u e day
    · obtain ⟨k1, k2, k3⟩ := hc1 hcb
      first
      | exact absurd k2 (by omega)
      | exact ⟨_, _, _, rfl, fun f => absurd hcb f, fun _ => ⟨c, k1, k3, fun _ => ⟨rfl, rfl, rfl⟩, fun f => absurd k1.1 (by omega)⟩⟩
      | exact ⟨_, _, _, rfl, fun f => absurd hcb f, fun _ => ⟨c, k1, k3, fun f => by omega, fun _ => ⟨rfl, fun f => absurd f h, fun _ => ⟨rfl, rfl⟩⟩⟩⟩
      | exact ⟨_, _, _, rfl, fun f => absurd hcb f, fun _ => ⟨c, k1, k3, fun f => by omega, fun _ => ⟨h.symm, fun _ => ⟨rfl, rfl⟩, fun f => absurd rfl f⟩⟩⟩
    · obtain ⟨rfl, rfl⟩ := hc2 hcb
      first
      | exact ⟨_, _, _, rfl, fun _ => ⟨rfl, rfl, rfl⟩, fun f => absurd f hcb⟩
      | (exfalso; omega)
  try simp only [h]
  replace h := Fa.out h
  have hcr : c ≤ 3652059 ∧ 0 ≤ c := by
    by_cases hcb : Cntb a u e day
    · exact ⟨(hc1 hcb).2.2, (hc1 hcb).1.1⟩
    · have := hc2 hcb; omega
  refine DK.seq ?_
  refine DK.region (is := [0, 1, 2]) (by kernel_rfl) rfl ?_
  refine WK.run [0, 1, 2] (by simp; (try simp (disch := omega) only [wrap_in, Int.tdiv_eq_ediv_of_nonneg, Int.tmod_eq_emod_of_nonneg]); constructor <;> rfl) ?_
  refine WK.nil ?_
  refine DK.test rfl rfl (fun h => ?_) (fun h => ?_)
  · try simp only [h]
    replace h := Tr.out h
    refine DK.seq ?_
    refine DK.region (is := [0, 1, 2]) (by kernel_rfl) rfl ?_
    refine WK.run [0, 1, 2] (by simp; (try simp (disch := omega) only [wrap_in, Int.tdiv_eq_ediv_of_nonneg, Int.tmod_eq_emod_of_nonneg]); constructor <;> rfl) ?_
    refine WK.nil ?_
    refine DK.ret ?_
    refine And.intro (Or.inr rfl) ?_
    refine ⟨_, by simp [absAnswer, absResults, absResult, Tryd.f88]; rfl, ?_⟩
    refine ⟨by first | exact ⟨[], (List.append_nil _).symm⟩ | exact ⟨_, rfl⟩, by simp, ?_⟩
    by_cases hcb : Cntb a u e day
    · obtain ⟨k1, k2, k3⟩ := hc1 hcb
      first
      | exact absurd k2 (by omega)
      | exact ⟨_, _, _, rfl, fun f => absurd hcb f, fun _ => ⟨c, k1, k3, fun _ => ⟨rfl, rfl, rfl⟩, fun f => absurd k1.1 (by omega)⟩⟩
      | exact ⟨_, _, _, rfl, fun f => absurd hcb f, fun _ => ⟨c, k1, k3, fun f => by omega, fun _ => ⟨rfl, fun f => absurd f h, fun _ => ⟨rfl, rfl⟩⟩⟩⟩
      | exact ⟨_, _, _, rfl, fun f => absurd hcb f, fun _ => ⟨c, k1, k3, fun f => by omega, fun _ => ⟨h.symm, fun _ => ⟨rfl, rfl⟩, fun f => absurd rfl f⟩⟩⟩
    · obtain ⟨rfl, rfl⟩ := hc2 hcb
      first
      | exact ⟨_, _, _, rfl, fun _ => ⟨rfl, rfl, rfl⟩, fun f => absurd f hcb⟩
      | (exfalso; omega)
  try simp only [h]
  replace h := Fa.out h
  refine DK.skip ?_
  refine DK.seq ?_
  refine DK.region (is := [0, 1, 2, 3, 4, 5, 6, 7, 8, 9, 10]) (by kernel_rfl) rfl ?_
  refine WK.run [0, 1, 2, 3, 4] (by simp; (try simp (disch := omega) only [wrap_in, Int.tdiv_eq_ediv_of_nonneg, Int.tmod_eq_emod_of_nonneg]); constructor <;> rfl) ?_
  refine WK.call rfl (by simp) (by simp [Tryd.func94, Tryd.f94]; (try simp (disch := omega) only [wrap_in, Int.tdiv_eq_ediv_of_nonneg, Int.tmod_eq_emod_of_nonneg]); constructor <;> rfl) ?_
  refine FSem.mono (nth_s _ _ _ _ hu _) ?_
  rintro _ _ ⟨rfl, rfl⟩
  refine WK.run [6, 7, 8, 9, 10] (by simp; (try simp (disch := omega) only [wrap_in, Int.tdiv_eq_ediv_of_nonneg, Int.tmod_eq_emod_of_nonneg]); constructor <;> rfl) ?_
  refine WK.nil ?_
  refine DK.seq ?_
  refine DK.region (is := [0, 1, 2, 3, 4, 5, 6, 7, 8, 9]) (by kernel_rfl) rfl ?_
  refine WK.run [0, 1, 2, 3] (by simp; (try simp (disch := omega) only [wrap_in, Int.tdiv_eq_ediv_of_nonneg, Int.tmod_eq_emod_of_nonneg]); constructor <;> rfl) ?_
  refine WK.call rfl (by simp) (by simp [Tryd.func94, Tryd.f94]; (try simp (disch := omega) only [wrap_in, Int.tdiv_eq_ediv_of_nonneg, Int.tmod_eq_emod_of_nonneg]); constructor <;> rfl) ?_
  refine FSem.mono (nth_s _ _ _ _ hu _) ?_
  rintro _ _ ⟨rfl, rfl⟩
  refine WK.run [5, 6, 7, 8, 9] (by simp; (try simp (disch := omega) only [wrap_in, Int.tdiv_eq_ediv_of_nonneg, Int.tmod_eq_emod_of_nonneg]); constructor <;> rfl) ?_
  refine WK.nil ?_
  refine DK.seq ?_
  refine DK.seq ?_
  refine DK.region (is := [0, 1]) (by kernel_rfl) rfl ?_
  refine WK.run [0, 1] (by simp; (try simp (disch := omega) only [wrap_in, Int.tdiv_eq_ediv_of_nonneg, Int.tmod_eq_emod_of_nonneg]); constructor <;> rfl) ?_
  refine WK.nil ?_
  refine DK.test rfl rfl (fun h => ?_) (fun h => ?_)
  · try simp only [h]
    replace h := Tr.out h
    refine DK.seq ?_
    refine DK.region (is := [0, 1, 2, 3]) (by kernel_rfl) rfl ?_
    refine WK.run [0, 1, 2, 3] (by simp; (try simp (disch := omega) only [wrap_in, Int.tdiv_eq_ediv_of_nonneg, Int.tmod_eq_emod_of_nonneg]); constructor <;> rfl) ?_
    refine WK.nil ?_
    refine DK.ret ?_
    refine And.intro (Or.inr rfl) ?_
    refine ⟨_, by simp [absAnswer, absResults, absResult, Tryd.f88]; rfl, ?_⟩
    refine ⟨by first | exact ⟨[], (List.append_nil _).symm⟩ | exact ⟨_, rfl⟩, by simp, ?_⟩
    by_cases hcb : Cntb a u e day
    · obtain ⟨k1, k2, k3⟩ := hc1 hcb
      first
      | exact absurd k2 (by omega)
      | exact ⟨_, _, _, rfl, fun f => absurd hcb f, fun _ => ⟨c, k1, k3, fun _ => ⟨rfl, rfl, rfl⟩, fun f => absurd k1.1 (by omega)⟩⟩
      | exact ⟨_, _, _, rfl, fun f => absurd hcb f, fun _ => ⟨c, k1, k3, fun f => by omega, fun _ => ⟨rfl, fun f => absurd f h, fun _ => ⟨rfl, rfl⟩⟩⟩⟩
      | exact ⟨_, _, _, rfl, fun f => absurd hcb f, fun _ => ⟨c, k1, k3, fun f => by omega, fun _ => ⟨h.symm, fun _ => ⟨rfl, rfl⟩, fun f => absurd rfl f⟩⟩⟩
    · obtain ⟨rfl, rfl⟩ := hc2 hcb
      first
      | exact ⟨_, _, _, rfl, fun _ => ⟨rfl, rfl, rfl⟩, fun f => absurd f hcb⟩
      | (exfalso; omega)
  try simp only [h]
  replace h := Fa.out h
  refine DK.skip ?_
  refine DK.seq ?_
  refine DK.region (is := [0, 1, 2, 3, 4]) (by kernel_rfl) rfl ?_
  refine WK.run [0, 1, 2, 3, 4] (by simp; (try simp (disch := omega) only [wrap_in, Int.tdiv_eq_ediv_of_nonneg, Int.tmod_eq_emod_of_nonneg]); constructor <;> rfl) ?_
  refine WK.nil ?_
  refine DK.ret ?_
  refine And.intro (Or.inr rfl) ?_
  refine ⟨_, by simp [absAnswer, absResults, absResult, Tryd.f88]; rfl, ?_⟩
  refine ⟨by first | exact ⟨[], (List.append_nil _).symm⟩ | exact ⟨_, rfl⟩, by simp, ?_⟩
  by_cases hcb : Cntb a u e day
  · obtain ⟨k1, k2, k3⟩ := hc1 hcb
    first
    | exact absurd k2 (by omega)
    | exact ⟨_, _, _, rfl, fun f => absurd hcb f, fun _ => ⟨c, k1, k3, fun _ => ⟨rfl, rfl, rfl⟩, fun f => absurd k1.1 (by omega)⟩⟩
    | exact ⟨_, _, _, rfl, fun f => absurd hcb f, fun _ => ⟨c, k1, k3, fun f => by omega, fun _ => ⟨rfl, fun f => absurd f h, fun _ => ⟨rfl, rfl⟩⟩⟩⟩
    | exact ⟨_, _, _, rfl, fun f => absurd hcb f, fun _ => ⟨c, k1, k3, fun f => by omega, fun _ => ⟨h.symm, fun _ => ⟨rfl, rfl⟩, fun f => absurd rfl f⟩⟩⟩
  · obtain ⟨rfl, rfl⟩ := hc2 hcb
    first
    | exact ⟨_, _, _, rfl, fun _ => ⟨rfl, rfl, rfl⟩, fun f => absurd f hcb⟩
    | (exfalso; omega)
end Go.Den
namespace Go.Den
open Go Go.Proofs
set_option maxRecDepth 100000
set_option maxHeartbeats 1000000
set_option linter.all false
attribute [local simp] evOps evOp absOp absBox absAlloc absLoad absStore absField absIndexAddr absCells absBinOp absBin absInt absShift absUn absPick absNil absExtract absBuild absPlaces Instr.fill absBuiltin absMinMax plainV plainT allA flat cells_agg cells_int cells_bool cells_str cells_ptr cells_sl cells_map one_int one_bool one_str one_ptr one_sl one_map Act.eval Act.put Region.wanted yielded splice absCall TypeDesc.isRow
attribute [local simp] absLen
def rightP (n : Int) : Bool := decide (-1125899906842624 ≤ n) && decide (n ≤ 1125899906842624)
def addP (a b : Int) : Int × Int := if rightP a && rightP b && rightP (IntKind.i64.wrap (a + b)) then (IntKind.i64.wrap (a + b), 0) else (0, 9)
def lessP (a b : Int) : Int × Int := if rightP b then addP a (IntKind.i64.wrap (-b)) else (0, 9)
theorem right_s (n : Int) (H : Mem) : FSem Tryd.prog [0] 103 #[.int .i64 n] H fun v H' => v = .bool (rightP n) ∧ H' = H := by
  refine FSem.plainT ?_
  refine FSem.ofK Tryd.func103 rfl ?_
  refine DK.from (b' := ⟨#[.int .i64 n, undef, undef, undef, undef, undef, undef, undef, undef], []⟩) (by kernel_rfl) ?_
  refine DK.seq ?_
  refine DK.region (is := [0]) (by kernel_rfl) rfl ?_
  refine WK.run [0] (by simp; constructor <;> rfl) ?_
  refine WK.nil ?_
  refine DK.seq ?_
  refine DK.region (is := [0, 1, 2, 3, 4, 5, 6]) (by kernel_rfl) rfl ?_
  refine WK.run [0, 1, 2] (by simp; constructor <;> rfl) ?_
  refine WK.split (t := 5) rfl (fun h => ?_) (fun h => ?_)
  · try simp only [h]
    replace h := Tr.out h
    refine WK.run [3, 4, 5, 6] (by simp; constructor <;> rfl) ?_
    refine WK.nil ?_
    refine DK.ret ?_
    refine And.intro (Or.inr rfl) ?_
    refine ⟨_, by simp [absAnswer, absResults, absResult, Tryd.f103]; rfl, ?_⟩
    refine ⟨by first | exact ⟨[], (List.append_nil _).symm⟩ | exact ⟨_, rfl⟩, by simp, ?_⟩
    simp_all [rightP] <;> omega
  try simp only [h]
  replace h := Fa.out h
  refine WK.run [3, 4, 5, 6] (by simp; constructor <;> rfl) ?_
  refine WK.nil ?_
  refine DK.ret ?_
  refine And.intro (Or.inr rfl) ?_
  refine ⟨_, by simp [absAnswer, absResults, absResult, Tryd.f103]; rfl, ?_⟩
  refine ⟨by first | exact ⟨[], (List.append_nil _).symm⟩ | exact ⟨_, rfl⟩, by simp, ?_⟩
  simp_all [rightP] <;> omega
theorem add_s (a b : Int) (H : Mem) : FSem Tryd.prog [0] 90 #[.int .i64 a, .int .i64 b] H fun v H' => v = .tuple #[.int .i64 (addP a b).1, .int .i64 (addP a b).2] ∧ H' = H := by
  refine FSem.plainT ?_
  refine FSem.ofK Tryd.func90 rfl ?_
  refine DK.from (b' := ⟨#[.int .i64 a, .int .i64 b, undef, undef, undef, undef, undef, undef, undef, undef, undef, undef, undef, undef, undef, undef, undef, undef, undef, undef, undef, undef, undef, undef], []⟩) (by kernel_rfl) ?_
  refine DK.seq ?_
  refine DK.region (is := [0, 1]) (by kernel_rfl) rfl ?_
  refine WK.run [0, 1] (by simp; constructor <;> rfl) ?_
  refine WK.nil ?_
  refine DK.seq ?_
  refine DK.seq ?_
  refine DK.region (is := [0, 1, 2, 3, 4, 5, 6, 7, 8, 9, 10, 11, 12, 13, 14]) (by kernel_rfl) rfl ?_
  refine WK.run [0] (by simp; constructor <;> rfl) ?_
  refine WK.call rfl (by simp) (by simp [Tryd.func103, Tryd.f103]; constructor <;> rfl) ?_
  refine FSem.mono (right_s _ _) ?_
  rintro _ _ ⟨rfl, rfl⟩
  refine WK.run [2, 3] (by simp; constructor <;> rfl) ?_
  refine WK.split (t := 9) rfl (fun h => ?_) (fun h => ?_)
  · try simp only [h]
    replace h := Tr.out h
    refine WK.run [4, 5, 6, 7, 8, 9, 10, 11, 12, 13, 14] (by simp; constructor <;> rfl) ?_
    refine WK.nil ?_
    refine DK.yes rfl rfl ?_
    refine DK.seq ?_
    refine DK.region (is := [0, 1]) (by kernel_rfl) rfl ?_
    refine WK.run [0, 1] (by simp; constructor <;> rfl) ?_
    refine WK.nil ?_
    refine DK.ret ?_
    refine And.intro (Or.inr rfl) ?_
    refine ⟨_, by simp [absAnswer, absResults, absResult, Tryd.f90]; rfl, ?_⟩
    refine ⟨by first | exact ⟨[], (List.append_nil _).symm⟩ | exact ⟨_, rfl⟩, by simp, ?_⟩
    simp_all [addP]
  try simp only [h]
  replace h := Fa.out h
  refine WK.run [4] (by simp; constructor <;> rfl) ?_
  refine WK.call rfl (by simp) (by simp [Tryd.func103, Tryd.f103]; constructor <;> rfl) ?_
  refine FSem.mono (right_s _ _) ?_
  rintro _ _ ⟨rfl, rfl⟩
  refine WK.run [6, 7, 8] (by simp; constructor <;> rfl) ?_
  refine WK.split (t := 14) rfl (fun h => ?_) (fun h => ?_)
  · try simp only [h]
    replace h := Tr.out h
    refine WK.run [9, 10, 11, 12, 13, 14] (by simp; constructor <;> rfl) ?_
    refine WK.nil ?_
    refine DK.yes rfl rfl ?_
    refine DK.seq ?_
    refine DK.region (is := [0, 1]) (by kernel_rfl) rfl ?_
    refine WK.run [0, 1] (by simp; constructor <;> rfl) ?_
    refine WK.nil ?_
    refine DK.ret ?_
    refine And.intro (Or.inr rfl) ?_
    refine ⟨_, by simp [absAnswer, absResults, absResult, Tryd.f90]; rfl, ?_⟩
    refine ⟨by first | exact ⟨[], (List.append_nil _).symm⟩ | exact ⟨_, rfl⟩, by simp, ?_⟩
    simp_all [addP]
  try simp only [h]
  replace h := Fa.out h
  refine WK.run [9, 10, 11] (by simp; constructor <;> rfl) ?_
  refine WK.call rfl (by simp) (by simp [Tryd.func103, Tryd.f103]; constructor <;> rfl) ?_
  refine FSem.mono (right_s _ _) ?_
  rintro _ _ ⟨rfl, rfl⟩
  refine WK.run [13, 14] (by simp; constructor <;> rfl) ?_
  refine WK.nil ?_
  refine DK.test rfl rfl (fun h => ?_) (fun h => ?_)
  · try simp only [h]
    replace h := Tr.out h
    refine DK.seq ?_
    refine DK.region (is := [0, 1]) (by kernel_rfl) rfl ?_
    refine WK.run [0, 1] (by simp; constructor <;> rfl) ?_
    refine WK.nil ?_
    refine DK.ret ?_
    refine And.intro (Or.inr rfl) ?_
    refine ⟨_, by simp [absAnswer, absResults, absResult, Tryd.f90]; rfl, ?_⟩
    refine ⟨by first | exact ⟨[], (List.append_nil _).symm⟩ | exact ⟨_, rfl⟩, by simp, ?_⟩
    simp_all [addP]
  try simp only [h]
  replace h := Fa.out h
  refine DK.skip ?_
  refine DK.seq ?_
  refine DK.region (is := [0, 1, 2, 3, 4]) (by kernel_rfl) rfl ?_
  refine WK.run [0, 1, 2, 3, 4] (by simp; constructor <;> rfl) ?_
  refine WK.nil ?_
  refine DK.ret ?_
  refine And.intro (Or.inr rfl) ?_
  refine ⟨_, by simp [absAnswer, absResults, absResult, Tryd.f90]; rfl, ?_⟩
  refine ⟨by first | exact ⟨[], (List.append_nil _).symm⟩ | exact ⟨_, rfl⟩, by simp, ?_⟩
  simp_all [addP]
theorem less_s (a b : Int) (H : Mem) : FSem Tryd.prog [0] 96 #[.int .i64 a, .int .i64 b] H fun v H' => v = .tuple #[.int .i64 (lessP a b).1, .int .i64 (lessP a b).2] ∧ H' = H := by
  refine FSem.plainT ?_
  refine FSem.ofK Tryd.func96 rfl ?_
  refine DK.from (b' := ⟨#[.int .i64 a, .int .i64 b, undef, undef, undef, undef, undef, undef, undef, undef, undef, undef, undef, undef, undef], []⟩) (by kernel_rfl) ?_
  refine DK.seq ?_
  refine DK.region (is := [0, 1]) (by kernel_rfl) rfl ?_
  refine WK.run [0, 1] (by simp; constructor <;> rfl) ?_
  refine WK.nil ?_
  refine DK.seq ?_
  refine DK.seq ?_
  refine DK.region (is := [0, 1, 2]) (by kernel_rfl) rfl ?_
  refine WK.run [0] (by simp; constructor <;> rfl) ?_
  refine WK.call rfl (by simp) (by simp [Tryd.func103, Tryd.f103]; constructor <;> rfl) ?_
  refine FSem.mono (right_s _ _) ?_
  rintro _ _ ⟨rfl, rfl⟩
  refine WK.run [2] (by simp; constructor <;> rfl) ?_
  refine WK.nil ?_
  refine DK.test rfl rfl (fun h => ?_) (fun h => ?_)
  · try simp only [h]
    replace h := Tr.out h
    refine DK.seq ?_
    refine DK.region (is := [0, 1]) (by kernel_rfl) rfl ?_
    refine WK.run [0, 1] (by simp; constructor <;> rfl) ?_
    refine WK.nil ?_
    refine DK.ret ?_
    refine And.intro (Or.inr rfl) ?_
    refine ⟨_, by simp [absAnswer, absResults, absResult, Tryd.f96]; rfl, ?_⟩
    refine ⟨by first | exact ⟨[], (List.append_nil _).symm⟩ | exact ⟨_, rfl⟩, by simp, ?_⟩
    simp_all [lessP]
  try simp only [h]
  replace h := Fa.out h
  refine DK.skip ?_
  refine DK.seq ?_
  refine DK.region (is := [0, 1, 2, 3, 4, 5, 6, 7]) (by kernel_rfl) rfl ?_
  refine WK.run [0, 1, 2] (by simp; constructor <;> rfl) ?_
  refine WK.call rfl (by simp) (by simp [Tryd.func90, Tryd.f90]; constructor <;> rfl) ?_
  refine FSem.mono (add_s _ _ _) ?_
  rintro _ _ ⟨rfl, rfl⟩
  refine WK.run [4, 5, 6, 7] (by simp; constructor <;> rfl) ?_
  refine WK.nil ?_
  refine DK.ret ?_
  refine And.intro (Or.inr rfl) ?_
  refine ⟨_, by simp [absAnswer, absResults, absResult, Tryd.f96]; rfl, ?_⟩
  refine ⟨by first | exact ⟨[], (List.append_nil _).symm⟩ | exact ⟨_, rfl⟩, by simp, ?_⟩
  simp_all [lessP]
theorem wrap_u (n : Int) (h0 : 0 ≤ n) (h1 : n < 18446744073709551616) : IntKind.u64.wrap n = n := by
  simp only [IntKind.wrap, IntKind.bits, IntKind.signed]; simp; omega
theorem and32 (x : Int) (h0 : 0 ≤ x) (h1 : x < 4294967296) : IntKind.u64.wrap (((x % 2 ^ IntKind.u64.bits).toNat &&& 4294967295 % 2 ^ IntKind.u64.bits : Nat) : Int) = x := by
  obtain ⟨n, rfl⟩ := Int.eq_ofNat_of_zero_le h0
  have e : (((n : Int) % 2 ^ IntKind.u64.bits).toNat &&& 4294967295 % 2 ^ IntKind.u64.bits) = n := by
    have e1 : ((n : Int) % 2 ^ IntKind.u64.bits).toNat = n := by simp only [IntKind.bits]; omega
    have e2 : 4294967295 % 2 ^ IntKind.u64.bits = 2 ^ 32 - 1 := by decide
    rw [e1, e2, Nat.and_two_pow_sub_one_eq_mod]; omega
  rw [e]
  exact wrap_u _ (by omega) (by omega)
theorem fdiv32 (x : Int) (h0 : 0 ≤ x) (h1 : x < 4294967296) : x.fdiv (2 ^ min 32 IntKind.u64.bits) = 0 := by
  rw [Int.fdiv_eq_ediv_of_nonneg _ (by decide)]
  have : (2 ^ min 32 IntKind.u64.bits : Int) = 4294967296 := by decide
  rw [this]; omega
theorem fdiv33 (x : Int) : x.fdiv (2 ^ min 32 IntKind.u64.bits) = x / 4294967296 := by
  rw [Int.fdiv_eq_ediv_of_nonneg _ (by decide)]
  have : (2 ^ min 32 IntKind.u64.bits : Int) = 4294967296 := by decide
  rw [this]
theorem mul64_s (x y : Int) (hx : 0 ≤ x) (hx2 : x < 4294967296) (hy : 0 ≤ y) (hy2 : y < 4294967296) (hxy : x * y < 18446744073709551616) (h0 : 0 ≤ x * y) (H : Mem) : FSem Tryd.prog [0] 108 #[.int .u64 x, .int .u64 y] H fun v H' => v = .tuple #[.int .u64 0, .int .u64 (x * y)] ∧ H' = H := by
  refine FSem.plainT ?_
  refine FSem.ofK Tryd.func108 rfl ?_
  refine DK.from (b' := ⟨#[.int .u64 x, .int .u64 y, undef, undef, undef, undef, undef, undef, undef, undef, undef, undef, undef, undef, undef, undef, undef, undef, undef, undef, undef, undef, undef, undef, undef, undef, undef, undef, undef, undef, undef, undef, undef, undef, undef, undef, undef, undef, undef, undef, undef, undef, undef, undef, undef, undef, undef, undef, undef, undef, undef], []⟩) (by kernel_rfl) ?_
  refine DK.seq ?_
  refine DK.region (is := [0, 1]) (by kernel_rfl) rfl ?_
  refine WK.run [0, 1] (by simp; (try simp (disch := omega) only [wrap_in, Int.tdiv_eq_ediv_of_nonneg, Int.tmod_eq_emod_of_nonneg, wrap_u, and32, fdiv32, fdiv33, Int.zero_mul, Int.mul_zero, Int.zero_add, Int.add_zero]); constructor <;> rfl) ?_
  refine WK.nil ?_
  refine DK.seq ?_
  refine DK.region (is := [0, 1, 2]) (by kernel_rfl) rfl ?_
  refine WK.run [0, 1, 2] (by simp; (try simp (disch := omega) only [wrap_in, Int.tdiv_eq_ediv_of_nonneg, Int.tmod_eq_emod_of_nonneg, wrap_u, and32, fdiv32, fdiv33, Int.zero_mul, Int.mul_zero, Int.zero_add, Int.add_zero]); constructor <;> rfl) ?_
  refine WK.nil ?_
  refine DK.seq ?_
  refine DK.region (is := [0, 1, 2]) (by kernel_rfl) rfl ?_
  refine WK.run [0, 1, 2] (by simp; (try simp (disch := omega) only [wrap_in, Int.tdiv_eq_ediv_of_nonneg, Int.tmod_eq_emod_of_nonneg, wrap_u, and32, fdiv32, fdiv33, Int.zero_mul, Int.mul_zero, Int.zero_add, Int.add_zero]); constructor <;> rfl) ?_
  refine WK.nil ?_
  refine DK.seq ?_
  refine DK.region (is := [0, 1, 2]) (by kernel_rfl) rfl ?_
  refine WK.run [0, 1, 2] (by simp; (try simp (disch := omega) only [wrap_in, Int.tdiv_eq_ediv_of_nonneg, Int.tmod_eq_emod_of_nonneg, wrap_u, and32, fdiv32, fdiv33, Int.zero_mul, Int.mul_zero, Int.zero_add, Int.add_zero]); constructor <;> rfl) ?_
  refine WK.nil ?_
  refine DK.seq ?_
  refine DK.region (is := [0, 1, 2]) (by kernel_rfl) rfl ?_
  refine WK.run [0, 1, 2] (by simp; (try simp (disch := omega) only [wrap_in, Int.tdiv_eq_ediv_of_nonneg, Int.tmod_eq_emod_of_nonneg, wrap_u, and32, fdiv32, fdiv33, Int.zero_mul, Int.mul_zero, Int.zero_add, Int.add_zero]); constructor <;> rfl) ?_
  refine WK.nil ?_
  refine DK.seq ?_
  refine DK.region (is := [0, 1, 2, 3]) (by kernel_rfl) rfl ?_
  refine WK.run [0, 1, 2, 3] (by simp; (try simp (disch := omega) only [wrap_in, Int.tdiv_eq_ediv_of_nonneg, Int.tmod_eq_emod_of_nonneg, wrap_u, and32, fdiv32, fdiv33, Int.zero_mul, Int.mul_zero, Int.zero_add, Int.add_zero]); constructor <;> rfl) ?_
  refine WK.nil ?_
  refine DK.seq ?_
  refine DK.region (is := [0, 1, 2, 3, 4, 5, 6]) (by kernel_rfl) rfl ?_
  refine WK.run [0, 1, 2, 3, 4, 5, 6] (by simp; (try simp (disch := omega) only [wrap_in, Int.tdiv_eq_ediv_of_nonneg, Int.tmod_eq_emod_of_nonneg, wrap_u, and32, fdiv32, fdiv33, Int.zero_mul, Int.mul_zero, Int.zero_add, Int.add_zero]); constructor <;> rfl) ?_
  refine WK.nil ?_
  refine DK.seq ?_
  refine DK.region (is := [0, 1, 2]) (by kernel_rfl) rfl ?_
  refine WK.run [0, 1, 2] (by simp; (try simp (disch := omega) only [wrap_in, Int.tdiv_eq_ediv_of_nonneg, Int.tmod_eq_emod_of_nonneg, wrap_u, and32, fdiv32, fdiv33, Int.zero_mul, Int.mul_zero, Int.zero_add, Int.add_zero]); constructor <;> rfl) ?_
  refine WK.nil ?_
  refine DK.seq ?_
  refine DK.region (is := [0, 1, 2]) (by kernel_rfl) rfl ?_
  refine WK.run [0, 1, 2] (by simp; (try simp (disch := omega) only [wrap_in, Int.tdiv_eq_ediv_of_nonneg, Int.tmod_eq_emod_of_nonneg, wrap_u, and32, fdiv32, fdiv33, Int.zero_mul, Int.mul_zero, Int.zero_add, Int.add_zero]); constructor <;> rfl) ?_
  refine WK.nil ?_
  refine DK.seq ?_
  refine DK.region (is := [0, 1, 2, 3, 4, 5]) (by kernel_rfl) rfl ?_
  refine WK.run [0, 1, 2, 3, 4, 5] (by simp; (try simp (disch := omega) only [wrap_in, Int.tdiv_eq_ediv_of_nonneg, Int.tmod_eq_emod_of_nonneg, wrap_u, and32, fdiv32, fdiv33, Int.zero_mul, Int.mul_zero, Int.zero_add, Int.add_zero]); constructor <;> rfl) ?_
  refine WK.nil ?_
  refine DK.seq ?_
  refine DK.region (is := [0, 1, 2, 3, 4, 5, 6, 7, 8]) (by kernel_rfl) rfl ?_
  refine WK.run [0, 1, 2, 3, 4, 5, 6, 7, 8] (by simp; (try simp (disch := omega) only [wrap_in, Int.tdiv_eq_ediv_of_nonneg, Int.tmod_eq_emod_of_nonneg, wrap_u, and32, fdiv32, fdiv33, Int.zero_mul, Int.mul_zero, Int.zero_add, Int.add_zero]); constructor <;> rfl) ?_
  refine WK.nil ?_
  refine DK.seq ?_
  refine DK.region (is := [0, 1, 2, 3]) (by kernel_rfl) rfl ?_
  refine WK.run [0, 1, 2, 3] (by simp; (try simp (disch := omega) only [wrap_in, Int.tdiv_eq_ediv_of_nonneg, Int.tmod_eq_emod_of_nonneg, wrap_u, and32, fdiv32, fdiv33, Int.zero_mul, Int.mul_zero, Int.zero_add, Int.add_zero]); constructor <;> rfl) ?_
  refine WK.nil ?_
  refine DK.ret ?_
  refine And.intro (Or.inr rfl) ?_
  refine ⟨_, by simp [absAnswer, absResults, absResult, Tryd.f108]; rfl, ?_⟩
  refine ⟨by first | exact ⟨[], (List.append_nil _).symm⟩ | exact ⟨_, rfl⟩, by simp, ?_⟩
  try rfl
theorem div64_s (x y : Int) (hx : 0 ≤ x) (hx2 : x < 18446744073709551616) (hy : 1 ≤ y) (H : Mem) : FSem Tryd.prog [0] 109 #[.int .u64 0, .int .u64 x, .int .u64 y] H fun v H' => v = .tuple #[.int .u64 (x / y), .int .u64 (x % y)] ∧ H' = H := by
  refine FSem.plainT ?_
  refine FSem.ofK Tryd.func109 rfl ?_
  refine DK.from (b' := ⟨#[.int .u64 0, .int .u64 x, .int .u64 y, undef, undef, undef, undef, undef, undef, undef, undef, undef, undef, undef, undef, undef, undef, undef, undef, undef, undef, undef, undef, undef, undef, undef, undef, undef, undef, undef, undef, undef, undef, undef, undef, undef, undef, undef, undef, undef, undef, undef, undef, undef, undef, undef, undef, undef, undef, undef, undef, undef, undef, undef, undef, undef, undef, undef, undef, undef, undef, undef, undef, undef, undef, undef, undef, undef, undef, undef, undef, undef, undef, undef, undef, undef, undef, undef, undef, undef, undef, undef, undef, undef, undef, undef, undef, undef, undef, undef, undef, undef, undef, undef, undef, undef, undef, undef, undef, undef, undef, undef, undef, undef, undef, undef, undef, undef, undef, undef, undef, undef, undef, undef, undef, undef, undef, undef, undef, undef, undef, undef, undef, undef, undef, undef, undef, undef, undef, undef, undef, undef, undef, undef, undef], []⟩) (by kernel_rfl) ?_
  have hy0 : y ≠ 0 := by omega
  have hq : 0 ≤ x / y := Int.ediv_nonneg hx (by omega)
  have hq2 : x / y ≤ x := Int.ediv_le_self _ hx
  refine DK.seq ?_
  refine DK.region (is := [0, 1]) (by kernel_rfl) rfl ?_
  refine WK.run [0, 1] (by simp [hy0]; (try simp (disch := omega) only [wrap_in, Int.tdiv_eq_ediv_of_nonneg, Int.tmod_eq_emod_of_nonneg, wrap_u, and32, fdiv32, fdiv33, Int.zero_mul, Int.mul_zero, Int.zero_add, Int.add_zero]); constructor <;> rfl) ?_
  refine WK.nil ?_
  refine DK.seq ?_
  refine DK.seq ?_
  refine DK.region (is := [0, 1]) (by kernel_rfl) rfl ?_
  refine WK.run [0, 1] (by simp [hy0]; (try simp (disch := omega) only [wrap_in, Int.tdiv_eq_ediv_of_nonneg, Int.tmod_eq_emod_of_nonneg, wrap_u, and32, fdiv32, fdiv33, Int.zero_mul, Int.mul_zero, Int.zero_add, Int.add_zero]); constructor <;> rfl) ?_
  refine WK.nil ?_
  refine DK.test rfl rfl (fun h => ?_) (fun h => ?_)
  · try simp only [h]
    replace h := Tr.out h
    omega
  try simp only [h]
  replace h := Fa.out h
  refine DK.skip ?_
  refine DK.seq ?_
  refine DK.seq ?_
  refine DK.region (is := [0, 1, 2]) (by kernel_rfl) rfl ?_
  refine WK.run [0, 1, 2] (by simp [hy0]; (try simp (disch := omega) only [wrap_in, Int.tdiv_eq_ediv_of_nonneg, Int.tmod_eq_emod_of_nonneg, wrap_u, and32, fdiv32, fdiv33, Int.zero_mul, Int.mul_zero, Int.zero_add, Int.add_zero]); constructor <;> rfl) ?_
  refine WK.nil ?_
  refine DK.test rfl rfl (fun h => ?_) (fun h => ?_)
  · try simp only [h]
    replace h := Tr.out h
    omega
  try simp only [h]
  replace h := Fa.out h
  refine DK.skip ?_
  refine DK.seq ?_
  refine DK.seq ?_
  refine DK.region (is := [0, 1]) (by kernel_rfl) rfl ?_
  refine WK.run [0, 1] (by simp [hy0]; (try simp (disch := omega) only [wrap_in, Int.tdiv_eq_ediv_of_nonneg, Int.tmod_eq_emod_of_nonneg, wrap_u, and32, fdiv32, fdiv33, Int.zero_mul, Int.mul_zero, Int.zero_add, Int.add_zero]); constructor <;> rfl) ?_
  refine WK.nil ?_
  refine DK.test rfl rfl (fun h => ?_) (fun h => ?_)
  · try simp only [h]
    replace h := Tr.out h
    refine DK.seq ?_
    refine DK.draw rfl (POk.of (ord := [0, 1, 2, 3, 4, 5, 6, 7]) (by kernel_rfl)) ?_
    refine XK.run [0, 1, 2, 3, 4, 5] (by kernel_rfl) (by simp [hy0]; (try simp (disch := omega) only [wrap_in, Int.tdiv_eq_ediv_of_nonneg, Int.tmod_eq_emod_of_nonneg, wrap_u, and32, fdiv32, fdiv33, Int.zero_mul, Int.mul_zero, Int.zero_add, Int.add_zero]); constructor <;> rfl) ?_
    refine XK.one rfl (by simp [hy0]) rfl (by simp [hy0]; (try simp (disch := omega) only [wrap_in, Int.tdiv_eq_ediv_of_nonneg, Int.tmod_eq_emod_of_nonneg, wrap_u, and32, fdiv32, fdiv33, Int.zero_mul, Int.mul_zero, Int.zero_add, Int.add_zero]); constructor <;> rfl) (lag_list (l := []) (by kernel_rfl) rfl) ?_
    refine XK.one rfl (by simp [hy0]) rfl (by simp [hy0]; (try simp (disch := omega) only [wrap_in, Int.tdiv_eq_ediv_of_nonneg, Int.tmod_eq_emod_of_nonneg, wrap_u, and32, fdiv32, fdiv33, Int.zero_mul, Int.mul_zero, Int.zero_add, Int.add_zero]); constructor <;> rfl) (lag_list (l := []) (by kernel_rfl) rfl) ?_
    refine XK.nil ?_
    refine DK.ret ?_
    refine And.intro (Or.inr rfl) ?_
    refine ⟨_, by simp [absAnswer, absResults, absResult, Tryd.f109]; rfl, ?_⟩
    refine ⟨by first | exact ⟨[], (List.append_nil _).symm⟩ | exact ⟨_, rfl⟩, by simp, ?_⟩
    try rfl
  try simp only [h]
  replace h := Fa.out h
  cases h
def partP (a p w : Int) : Int × Int := if a < 0 ∨ rightP a = false then (0, 9) else if w < 1 ∨ p < 0 ∨ p > w then (0, 1) else (a * p / w, 0)
theorem part_s (a p w : Int) (ha : a ≤ 1073741824) (hp : p ≤ 4000000) (hw : w ≤ 4000000) (H : Mem) : FSem Tryd.prog [0] 102 #[.int .i64 a, .int .i64 p, .int .i64 w] H fun v H' => v = .tuple #[.int .i64 (partP a p w).1, .int .i64 (partP a p w).2] ∧ H' = H := by
  refine FSem.plainT ?_
  refine FSem.ofK Tryd.func102 rfl ?_
  refine DK.from (b' := ⟨#[.int .i64 a, .int .i64 p, .int .i64 w, undef, undef, undef, undef, undef, undef, undef, undef, undef, undef, undef, undef, undef, undef, undef, undef, undef, undef, undef, undef, undef, undef, undef, undef, undef, undef, undef, undef, undef, undef, undef, undef, undef, undef, undef, undef, undef, undef, undef, undef, undef, undef, undef, undef, undef, undef, undef], []⟩) (by kernel_rfl) ?_
  refine DK.seq ?_
  refine DK.region (is := [0, 1]) (by kernel_rfl) rfl ?_
  refine WK.run [0, 1] (by simp; (try simp (disch := omega) only [wrap_in, Int.tdiv_eq_ediv_of_nonneg, Int.tmod_eq_emod_of_nonneg, wrap_u, and32, fdiv32, fdiv33, Int.zero_mul, Int.mul_zero, Int.zero_add, Int.add_zero]); constructor <;> rfl) ?_
  refine WK.nil ?_
  refine DK.seq ?_
  refine DK.block ?_
  refine DK.seq ?_
  refine DK.region (is := [0, 1, 2, 3, 4, 5, 6, 7]) (by kernel_rfl) rfl ?_
  refine WK.run [0, 1, 2] (by simp; (try simp (disch := omega) only [wrap_in, Int.tdiv_eq_ediv_of_nonneg, Int.tmod_eq_emod_of_nonneg, wrap_u, and32, fdiv32, fdiv33, Int.zero_mul, Int.mul_zero, Int.zero_add, Int.add_zero]); constructor <;> rfl) ?_
  refine WK.split (t := 15) rfl (fun h => ?_) (fun h => ?_)
  · try simp only [h]
    replace h := Tr.out h
    refine WK.run [3, 4, 5, 6, 7] (by simp; (try simp (disch := omega) only [wrap_in, Int.tdiv_eq_ediv_of_nonneg, Int.tmod_eq_emod_of_nonneg, wrap_u, and32, fdiv32, fdiv33, Int.zero_mul, Int.mul_zero, Int.zero_add, Int.add_zero]); constructor <;> rfl) ?_
    refine WK.nil ?_
    refine DK.yes rfl rfl ?_
    refine DK.seq ?_
    refine DK.region (is := [0, 1]) (by kernel_rfl) rfl ?_
    refine WK.run [0, 1] (by simp; (try simp (disch := omega) only [wrap_in, Int.tdiv_eq_ediv_of_nonneg, Int.tmod_eq_emod_of_nonneg, wrap_u, and32, fdiv32, fdiv33, Int.zero_mul, Int.mul_zero, Int.zero_add, Int.add_zero]); constructor <;> rfl) ?_
    refine WK.nil ?_
    refine DK.ret ?_
    refine And.intro (Or.inr rfl) ?_
    refine ⟨_, by simp [absAnswer, absResults, absResult, Tryd.f102]; rfl, ?_⟩
    refine ⟨by first | exact ⟨[], (List.append_nil _).symm⟩ | exact ⟨_, rfl⟩, by simp, ?_⟩
    simp_all [partP] <;> (try split) <;> first | omega | (rw [if_neg (by omega), wrap_in _ (by omega) (by omega)]; exact ⟨rfl, rfl⟩) | trace_state
  try simp only [h]
  replace h := Fa.out h
  refine WK.run [3] (by simp; (try simp (disch := omega) only [wrap_in, Int.tdiv_eq_ediv_of_nonneg, Int.tmod_eq_emod_of_nonneg, wrap_u, and32, fdiv32, fdiv33, Int.zero_mul, Int.mul_zero, Int.zero_add, Int.add_zero]); constructor <;> rfl) ?_
  refine WK.call rfl (by simp) (by simp [Tryd.func103, Tryd.f103]; (try simp (disch := omega) only [wrap_in, Int.tdiv_eq_ediv_of_nonneg, Int.tmod_eq_emod_of_nonneg, wrap_u, and32, fdiv32, fdiv33, Int.zero_mul, Int.mul_zero, Int.zero_add, Int.add_zero]); constructor <;> rfl) ?_
  refine FSem.mono (right_s _ _) ?_
  rintro _ _ ⟨rfl, rfl⟩
  refine WK.run [5, 6, 7] (by simp; (try simp (disch := omega) only [wrap_in, Int.tdiv_eq_ediv_of_nonneg, Int.tmod_eq_emod_of_nonneg, wrap_u, and32, fdiv32, fdiv33, Int.zero_mul, Int.mul_zero, Int.zero_add, Int.add_zero]); constructor <;> rfl) ?_
  refine WK.nil ?_
  refine DK.test rfl rfl (fun h => ?_) (fun h => ?_)
  · try simp only [h]
    replace h := Tr.out h
    refine DK.seq ?_
    refine DK.region (is := [0, 1]) (by kernel_rfl) rfl ?_
    refine WK.run [0, 1] (by simp; (try simp (disch := omega) only [wrap_in, Int.tdiv_eq_ediv_of_nonneg, Int.tmod_eq_emod_of_nonneg, wrap_u, and32, fdiv32, fdiv33, Int.zero_mul, Int.mul_zero, Int.zero_add, Int.add_zero]); constructor <;> rfl) ?_
    refine WK.nil ?_
    refine DK.ret ?_
    refine And.intro (Or.inr rfl) ?_
    refine ⟨_, by simp [absAnswer, absResults, absResult, Tryd.f102]; rfl, ?_⟩
    refine ⟨by first | exact ⟨[], (List.append_nil _).symm⟩ | exact ⟨_, rfl⟩, by simp, ?_⟩
    simp_all [partP] <;> (try split) <;> first | omega | (rw [if_neg (by omega), wrap_in _ (by omega) (by omega)]; exact ⟨rfl, rfl⟩) | trace_state
  try simp only [h]
  replace h := Fa.out h
  refine DK.seq ?_
  refine DK.region (is := [0, 1, 2, 3, 4, 5, 6, 7, 8, 9, 10, 11]) (by kernel_rfl) rfl ?_
  refine WK.run [0, 1, 2] (by simp; (try simp (disch := omega) only [wrap_in, Int.tdiv_eq_ediv_of_nonneg, Int.tmod_eq_emod_of_nonneg, wrap_u, and32, fdiv32, fdiv33, Int.zero_mul, Int.mul_zero, Int.zero_add, Int.add_zero]); constructor <;> rfl) ?_
  refine WK.split (t := 23) rfl (fun h => ?_) (fun h => ?_)
  · try simp only [h]
    replace h := Tr.out h
    refine WK.run [3, 4, 5, 6, 7, 8, 9, 10, 11] (by simp; (try simp (disch := omega) only [wrap_in, Int.tdiv_eq_ediv_of_nonneg, Int.tmod_eq_emod_of_nonneg, wrap_u, and32, fdiv32, fdiv33, Int.zero_mul, Int.mul_zero, Int.zero_add, Int.add_zero]); constructor <;> rfl) ?_
    refine WK.nil ?_
    refine DK.yes rfl rfl ?_
    refine DK.seq ?_
    refine DK.region (is := [0, 1]) (by kernel_rfl) rfl ?_
    refine WK.run [0, 1] (by simp; (try simp (disch := omega) only [wrap_in, Int.tdiv_eq_ediv_of_nonneg, Int.tmod_eq_emod_of_nonneg, wrap_u, and32, fdiv32, fdiv33, Int.zero_mul, Int.mul_zero, Int.zero_add, Int.add_zero]); constructor <;> rfl) ?_
    refine WK.nil ?_
    refine DK.ret ?_
    refine And.intro (Or.inr rfl) ?_
    refine ⟨_, by simp [absAnswer, absResults, absResult, Tryd.f102]; rfl, ?_⟩
    refine ⟨by first | exact ⟨[], (List.append_nil _).symm⟩ | exact ⟨_, rfl⟩, by simp, ?_⟩
    simp_all [partP] <;> (try split) <;> first | omega | (rw [if_neg (by omega), wrap_in _ (by omega) (by omega)]; exact ⟨rfl, rfl⟩) | trace_state
  try simp only [h]
  replace h := Fa.out h
  refine WK.run [3, 4, 5, 6] (by simp; (try simp (disch := omega) only [wrap_in, Int.tdiv_eq_ediv_of_nonneg, Int.tmod_eq_emod_of_nonneg, wrap_u, and32, fdiv32, fdiv33, Int.zero_mul, Int.mul_zero, Int.zero_add, Int.add_zero]); constructor <;> rfl) ?_
  refine WK.split (t := 27) rfl (fun h => ?_) (fun h => ?_)
  · try simp only [h]
    replace h := Tr.out h
    refine WK.run [7, 8, 9, 10, 11] (by simp; (try simp (disch := omega) only [wrap_in, Int.tdiv_eq_ediv_of_nonneg, Int.tmod_eq_emod_of_nonneg, wrap_u, and32, fdiv32, fdiv33, Int.zero_mul, Int.mul_zero, Int.zero_add, Int.add_zero]); constructor <;> rfl) ?_
    refine WK.nil ?_
    refine DK.yes rfl rfl ?_
    refine DK.seq ?_
    refine DK.region (is := [0, 1]) (by kernel_rfl) rfl ?_
    refine WK.run [0, 1] (by simp; (try simp (disch := omega) only [wrap_in, Int.tdiv_eq_ediv_of_nonneg, Int.tmod_eq_emod_of_nonneg, wrap_u, and32, fdiv32, fdiv33, Int.zero_mul, Int.mul_zero, Int.zero_add, Int.add_zero]); constructor <;> rfl) ?_
    refine WK.nil ?_
    refine DK.ret ?_
    refine And.intro (Or.inr rfl) ?_
    refine ⟨_, by simp [absAnswer, absResults, absResult, Tryd.f102]; rfl, ?_⟩
    refine ⟨by first | exact ⟨[], (List.append_nil _).symm⟩ | exact ⟨_, rfl⟩, by simp, ?_⟩
    simp_all [partP] <;> (try split) <;> first | omega | (rw [if_neg (by omega), wrap_in _ (by omega) (by omega)]; exact ⟨rfl, rfl⟩) | trace_state
  try simp only [h]
  replace h := Fa.out h
  refine WK.run [7, 8, 9, 10, 11] (by simp; (try simp (disch := omega) only [wrap_in, Int.tdiv_eq_ediv_of_nonneg, Int.tmod_eq_emod_of_nonneg, wrap_u, and32, fdiv32, fdiv33, Int.zero_mul, Int.mul_zero, Int.zero_add, Int.add_zero]); constructor <;> rfl) ?_
  refine WK.nil ?_
  refine DK.test rfl rfl (fun h => ?_) (fun h => ?_)
  · try simp only [h]
    replace h := Tr.out h
    refine DK.seq ?_
    refine DK.region (is := [0, 1]) (by kernel_rfl) rfl ?_
    refine WK.run [0, 1] (by simp; (try simp (disch := omega) only [wrap_in, Int.tdiv_eq_ediv_of_nonneg, Int.tmod_eq_emod_of_nonneg, wrap_u, and32, fdiv32, fdiv33, Int.zero_mul, Int.mul_zero, Int.zero_add, Int.add_zero]); constructor <;> rfl) ?_
    refine WK.nil ?_
    refine DK.ret ?_
    refine And.intro (Or.inr rfl) ?_
    refine ⟨_, by simp [absAnswer, absResults, absResult, Tryd.f102]; rfl, ?_⟩
    refine ⟨by first | exact ⟨[], (List.append_nil _).symm⟩ | exact ⟨_, rfl⟩, by simp, ?_⟩
    simp_all [partP] <;> (try split) <;> first | omega | (rw [if_neg (by omega), wrap_in _ (by omega) (by omega)]; exact ⟨rfl, rfl⟩) | trace_state
  try simp only [h]
  replace h := Fa.out h
  have m1 : 0 ≤ a * p := Int.mul_nonneg (by omega) (by omega)
  have m2 : a * p ≤ 1073741824 * 4000000 := Int.mul_le_mul ha hp (by omega) (by omega)
  have m3 : a * p / w ≤ a * p := Int.ediv_le_self _ m1
  have m4 : 0 ≤ a * p / w := Int.ediv_nonneg m1 (by omega)
  refine DK.skip ?_
  refine DK.seq ?_
  refine DK.region (is := [0, 1, 2, 3, 4, 5, 6, 7, 8, 9]) (by kernel_rfl) rfl ?_
  refine WK.run [0, 1, 2, 3] (by simp; (try simp (disch := omega) only [wrap_in, Int.tdiv_eq_ediv_of_nonneg, Int.tmod_eq_emod_of_nonneg, wrap_u, and32, fdiv32, fdiv33, Int.zero_mul, Int.mul_zero, Int.zero_add, Int.add_zero]); constructor <;> rfl) ?_
  refine WK.call rfl (by simp) (by simp [Tryd.func108, Tryd.f108]; (try simp (disch := omega) only [wrap_in, Int.tdiv_eq_ediv_of_nonneg, Int.tmod_eq_emod_of_nonneg, wrap_u, and32, fdiv32, fdiv33, Int.zero_mul, Int.mul_zero, Int.zero_add, Int.add_zero]); constructor <;> rfl) ?_
  refine FSem.mono (mul64_s _ _ (by omega) (by omega) (by omega) (by omega) (by omega) (by omega) _) ?_
  rintro _ _ ⟨rfl, rfl⟩
  refine WK.run [5, 6, 7, 8, 9] (by simp; (try simp (disch := omega) only [wrap_in, Int.tdiv_eq_ediv_of_nonneg, Int.tmod_eq_emod_of_nonneg, wrap_u, and32, fdiv32, fdiv33, Int.zero_mul, Int.mul_zero, Int.zero_add, Int.add_zero]); constructor <;> rfl) ?_
  refine WK.nil ?_
  refine DK.seq ?_
  refine DK.region (is := [0, 1, 2, 3, 4, 5, 6, 7, 8, 9]) (by kernel_rfl) rfl ?_
  refine WK.run [0, 1, 2, 3] (by simp; (try simp (disch := omega) only [wrap_in, Int.tdiv_eq_ediv_of_nonneg, Int.tmod_eq_emod_of_nonneg, wrap_u, and32, fdiv32, fdiv33, Int.zero_mul, Int.mul_zero, Int.zero_add, Int.add_zero]); constructor <;> rfl) ?_
  refine WK.call rfl (by simp) (by simp [Tryd.func109, Tryd.f109]; (try simp (disch := omega) only [wrap_in, Int.tdiv_eq_ediv_of_nonneg, Int.tmod_eq_emod_of_nonneg, wrap_u, and32, fdiv32, fdiv33, Int.zero_mul, Int.mul_zero, Int.zero_add, Int.add_zero]); constructor <;> rfl) ?_
  refine FSem.mono (div64_s _ _ (by omega) (by omega) (by omega) _) ?_
  rintro _ _ ⟨rfl, rfl⟩
  refine WK.run [5, 6, 7, 8, 9] (by simp; (try simp (disch := omega) only [wrap_in, Int.tdiv_eq_ediv_of_nonneg, Int.tmod_eq_emod_of_nonneg, wrap_u, and32, fdiv32, fdiv33, Int.zero_mul, Int.mul_zero, Int.zero_add, Int.add_zero]); constructor <;> rfl) ?_
  refine WK.nil ?_
  refine DK.seq ?_
  refine DK.region (is := [0, 1, 2, 3]) (by kernel_rfl) rfl ?_
  refine WK.run [0, 1, 2, 3] (by simp; (try simp (disch := omega) only [wrap_in, Int.tdiv_eq_ediv_of_nonneg, Int.tmod_eq_emod_of_nonneg, wrap_u, and32, fdiv32, fdiv33, Int.zero_mul, Int.mul_zero, Int.zero_add, Int.add_zero]); constructor <;> rfl) ?_
  refine WK.nil ?_
  refine DK.ret ?_
  refine And.intro (Or.inr rfl) ?_
  refine ⟨_, by simp [absAnswer, absResults, absResult, Tryd.f102]; rfl, ?_⟩
  refine ⟨by first | exact ⟨[], (List.append_nil _).symm⟩ | exact ⟨_, rfl⟩, by simp, ?_⟩
  simp_all [partP] <;> (try split) <;> first | omega | (rw [if_neg (by omega), wrap_in _ (by omega) (by omega)]; exact ⟨rfl, rfl⟩) | trace_state
end Go.Den
set_option linter.unusedVariables false
namespace Go.Den
structure Pl where
  (pr un ev tr : Int) (go la : Bool)
deriving DecidableEq
structure Cy where
  (no due ph am us tr nx : Int) (gd : Bool)
deriving DecidableEq
structure Nt where
  (kd su cy tr am ve : Int)
deriving DecidableEq
def backC (c : Cy) : Cy := if c.am = 0 then { c with ph := 9 } else { c with ph := 6 }
def paidC (c : Cy) (over : Bool) : Cy := if over = true then backC c else if c.gd = true then { c with ph := 3 } else { c with ph := 7 }
def beginC (no due am us : Int) (gd : Bool) : Cy := if am = 0 then paidC ⟨no, due, 1, 0, us, 0, 0, gd⟩ false else ⟨no, due, 1, am, us, 1, 0, gd⟩
def passC (no due : Int) : Cy := ⟨no, due, 10, 0, 0, 0, 0, false⟩
def endC (c : Cy) : Bool := decide (7 ≤ c.ph)
def asksC (su : Int) (c : Cy) : Nt × Bool :=
  if c.ph = 1 then (⟨1, su, c.no, c.tr, c.am, 0⟩, true) else if c.ph = 3 then (⟨3, su, c.no, 0, 0, 0⟩, true) else if c.ph = 4 then (⟨5, su, c.no, 0, 0, 0⟩, true)
  else if c.ph = 5 then (⟨4, su, c.no, 0, 0, 0⟩, true) else if c.ph = 6 then (⟨2, su, c.no, 0, c.am, 0⟩, true) else (⟨0, 0, 0, 0, 0, 0⟩, false)
def cardC (c : Cy) : Cy := if c.ph = 2 then { c with ph := 1, nx := 0, tr := IntKind.i64.wrap (c.tr + 1) } else c
def wakeC (c : Cy) (today : Int) : Cy := if c.ph = 2 ∧ c.nx ≤ today then cardC c else c
def overC (c : Cy) : Cy := if c.ph = 2 then { c with ph := 8, nx := 0 } else c
def ladC (t : Int) : Int := if t ≤ 1 then 1 else if t = 2 then 3 else 7
def chargedC (c : Cy) (v today : Int) (over : Bool) : Cy :=
  if v = 1 then paidC c over else if v = 2 ∧ over = false ∧ c.tr < 4 then { c with ph := 2, nx := IntKind.i64.wrap (today + ladC c.tr) } else { c with ph := 8 }
def hearC (su : Int) (c : Cy) (a : Nt) (today : Int) (over : Bool) : Cy × Int :=
  if (asksC su c).2 = false ∨ (asksC su c).1 ≠ { a with ve := 0 } ∨ a.ve = 0 then (c, 10)
  else if c.ph = 1 then (chargedC c a.ve today over, 0)
  else if c.ph = 3 then (if a.ve ≠ 1 then backC c else if over = true then { c with ph := 5 } else { c with ph := 4 }, 0)
  else if c.ph = 4 then (if a.ve ≠ 1 then { c with ph := 5 } else { c with ph := 7 }, 0)
  else if c.ph = 5 then (backC c, 0) else ({ c with ph := 9 }, 0)
@[simp] def Cy.v (c : Cy) : Value := .agg #[.int .i64 c.no, .int .i64 c.due, .int .u8 c.ph, .int .i64 c.am, .int .i64 c.us, .int .i64 c.tr, .int .i64 c.nx, .bool c.gd]
@[simp] def Nt.v (n : Nt) : Value := .agg #[.int .u8 n.kd, .int .i64 n.su, .int .i64 n.cy, .int .i64 n.tr, .int .i64 n.am, .int .u8 n.ve]
@[simp] def Pl.v (p : Pl) : Value := .agg #[.int .i64 p.pr, .int .u8 p.un, .int .i64 p.ev, .int .i64 p.tr, .bool p.go, .bool p.la]
def Lad (H : Mem) : Prop := ∃ ro, H[0]? = some (.cells ro [.int .i64 1, .int .i64 3, .int .i64 7])
theorem Lad.app {H : Mem} (h : Lad H) (l : Mem) : Lad (H ++ l) := by
  obtain ⟨ro, h⟩ := h
  exact ⟨ro, by rw [List.getElem?_append_left (List.getElem?_eq_some_iff.1 h).1]; exact h⟩
end Go.Den
namespace Go.Den
open Go Go.Proofs
set_option maxRecDepth 100000
set_option maxHeartbeats 1000000
set_option linter.all false
@[simp] theorem Cy.eta (c : Cy) : (⟨c.no, c.due, c.ph, c.am, c.us, c.tr, c.nx, c.gd⟩ : Cy) = c := rfl
@[simp] theorem Nt.eta (c : Nt) : (⟨c.kd, c.su, c.cy, c.tr, c.am, c.ve⟩ : Nt) = c := rfl
@[simp] theorem Pl.eta (c : Pl) : (⟨c.pr, c.un, c.ev, c.tr, c.go, c.la⟩ : Pl) = c := rfl
theorem absEq_i {P : Program} {d t : Nat} {k0 k : IntKind} {a b : Int} (hu : P.underlying t = some (.int k0)) : absEq P (d + 1) t (.int k a) (.int k b) = some (decide (a = b)) := by
  simp only [absEq, hu, if_true]; congr 1
theorem absEq_b {P : Program} {d t : Nat} {a b : Bool} (hu : P.underlying t = some .bool) : absEq P (d + 1) t (.bool a) (.bool b) = some (decide (a = b)) := by
  simp only [absEq, hu]; cases a <;> cases b <;> rfl
theorem absEq_s {P : Program} {d t : Nat} {fs : Array Field} {xs ys : Array Value} (hu : P.underlying t = some (.struct fs)) (hs : P.stoodInHeld t = false) : absEq P (d + 1) t (.agg xs) (.agg ys) = absEqFields P (absEq P d) xs ys fs.toList := by
  simp only [absEq, hu, hs, Bool.false_eq_true, if_false]
theorem stNt : Tryd.prog.stoodInHeld 46 = false := by kernel_rfl
theorem egNt : Tryd.prog.eqGuardType Tryd.prog.depth 46 = false := by kernel_rfl
attribute [simp] egNt eqShape
@[simp] theorem eqNt (a b c d e f a' b' c' d' e' f' : Int) : absEq Tryd.prog 10000 46 (.agg #[.int .u8 a, .int .i64 b, .int .i64 c, .int .i64 d, .int .i64 e, .int .u8 f]) (.agg #[.int .u8 a', .int .i64 b', .int .i64 c', .int .i64 d', .int .i64 e', .int .u8 f'])
    = some (decide ((⟨a, b, c, d, e, f⟩ : Nt) = ⟨a', b', c', d', e', f'⟩)) := by
  rw [show (10000 : Nat) = 9999 + 1 from rfl, absEq_s Tryd.underlying46 stNt]
  have e1 : ∀ x y : Int, absEq Tryd.prog 9999 5 (.int .u8 x) (.int .u8 y) = some (decide (x = y)) := fun x y => absEq_i (d := 9998) Tryd.underlying5
  have e2 : ∀ x y : Int, absEq Tryd.prog 9999 3 (.int .i64 x) (.int .i64 y) = some (decide (x = y)) := fun x y => absEq_i (d := 9998) Tryd.underlying3
  have e3 : ∀ x y : Int, absEq Tryd.prog 9999 2 (.int .i64 x) (.int .i64 y) = some (decide (x = y)) := fun x y => absEq_i (d := 9998) Tryd.underlying2
  simp only [absEqFields, absPart, inf5, sz5, inf3, sz3, inf2, sz2, Tryd.underlying5, Tryd.underlying3, Tryd.underlying2, TypeDesc.isRow]
  by_cases h : a = a'
  rotate_left
  · simp [e1, e2, e3, h]
  subst h
  by_cases h : b = b'
  rotate_left
  · simp [e1, e2, e3, h]
  subst h
  by_cases h : c = c'
  rotate_left
  · simp [e1, e2, e3, h]
  subst h
  by_cases h : d = d'
  rotate_left
  · simp [e1, e2, e3, h]
  subst h
  by_cases h : e = e'
  rotate_left
  · simp [e1, e2, e3, h]
  subst h
  by_cases h : f = f'
  rotate_left
  · simp [e1, e2, e3, h]
  subst h
  simp [e1, e2, e3]
end Go.Den
