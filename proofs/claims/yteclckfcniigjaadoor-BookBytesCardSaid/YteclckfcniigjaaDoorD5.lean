/- A part of the proof. -/
import Derived.KernelRfl
import Derived.Scope
import Derived.Test.YteclckfcniigjaaDoorD4
set_option linter.all false
namespace Go.Den
open Go Go.Proofs
set_option maxRecDepth 100000
set_option maxHeartbeats 1000000
set_option linter.all false
attribute [local simp] evOps evOp absOp absBox absLoad absStore absField absIndexAddr absCells absBinOp absBin absInt absShift absUn absPick absNil absExtract absPlaces Instr.fill absBuiltin absMinMax plainV plainT allA flat cells_agg cells_int cells_bool cells_str cells_ptr cells_sl cells_map one_int one_bool one_str one_ptr one_sl one_map Act.eval Act.put Region.wanted yielded absCall TypeDesc.isRow
attribute [local simp high] bk_t bk_p bk_take bk_row BkL_len sp_bk sp_t sp_p
attribute [local simp] sp_nil sp_0 sp_s List.length_set
theorem bopen_s (k : Nat) (b : Bk) (o : Od) {sp : Value} {l : List As} {H : Mem} (hB : BkAt H sp l b) (hk : BOk k b) (hu : UnOk b.pls) (h0 : 0 ≤ o.su) (h1 : o.su < 32) : FSem Tryd.prog [0] 31 #[bkv b.today sp l, o.v] H fun v H' => AcRes H (openB b o) v H' := by
  refine FSem.ofK Tryd.func31 rfl ?_
  refine DK.from (b' := ⟨#[bkv b.today sp l, o.v, undef, undef, undef, undef, undef, undef, undef, undef, undef, undef, undef, undef, undef, undef, undef, undef, undef, undef, undef, undef, undef, undef, undef, undef, undef, undef, undef, undef, undef, undef, undef, undef, undef, undef, undef, undef, undef, undef, undef, undef, undef, undef, undef, undef, undef, undef, undef, undef], []⟩) (by kernel_rfl) ?_
  have w := trivial
  have y := trivial
  have z := trivial
  have A := trivial
  have c := trivial
  have d := trivial
  have f := trivial
  have g := trivial
  have j := trivial
  have m := trivial
  have n := trivial
  have s := trivial
  have t := trivial
  have r := trivial
  have u := trivial
  obtain ⟨hsp0, hsp1⟩ := hB.pls.cells
  have hl32 := hB.len
  have B := trivial
  obtain ⟨x, hxa, hxl, hxo, htk1, hst1, hpt1⟩ := hB.sub h0 h1
  replace f := h0
  replace g := h1
  replace j : 2 + o.su.toNat * 13 ≤ 417 := by omega
  replace m : 2 + o.su.toNat * 13 ≤ 405 := by omega
  replace n := hst1 b.today
  refine DK.seq ?_
  refine DK.region (is := [0, 1, 2, 3]) (by kernel_rfl) rfl ?_
  refine WK.run [0, 1, 2, 3] (by simp [w, y, z, A, c, d, hsp0, hsp1, hl32, f, g, j, m, n, s, t, r, u]; constructor <;> rfl) ?_
  refine WK.nil ?_
  refine DK.abs (fun M0 => AtM H [BkL b.today sp l, o.l, zeroA.l (.slice none 0 0)] M0 ∧ OpenAt M0 (.slice none 0 0) ([] : List Cy)) ⟨AtM.start H [] [_, _, _], .inl ⟨rfl, rfl⟩⟩ ?_
  try clear hM
  try clear hO
  rintro M0 ⟨hM, hO⟩
  replace w := hM.own 0 (by simp)
  replace y := hM.own 1 (by simp)
  replace z := hM.own 2 (by simp)
  simp only [List.getElem_cons_zero, List.getElem_cons_succ, Nat.add_zero] at w y z
  replace A := hM.q3
  replace c := hO.cells.1
  replace d := hO.cells.2
  refine DK.seq ?_
  refine DK.region (is := [0, 1, 2, 3, 4, 5, 6, 7, 8, 9, 10]) (by kernel_rfl) rfl ?_
  refine WK.run [0, 1, 2, 3] (by simp [w, y, z, A, c, d, hsp0, hsp1, hl32, f, g, j, m, n, s, t, r, u]; constructor <;> rfl) ?_
  refine WK.call rfl (by simp [w, y, z, A, c, d, hsp0, hsp1, hl32, f, g, j, m, n, s, t, r, u]) (by simp [Tryd.func55, Tryd.f55, w, y, z, A, c, d, hsp0, hsp1, hl32, f, g, j, m, n, s, t, r, u]; constructor <;> rfl) ?_
  refine FSem.mono (getp_g b.pls o.pl (hB.pls.keep hM.keep)) ?_
  rintro _ Hq ⟨p, e, rfl, hgp, hq⟩
  subst hq
  refine WK.run [5, 6, 7, 8, 9, 10] (by simp [w, y, z, A, c, d, hsp0, hsp1, hl32, f, g, j, m, n, s, t, r, u]; constructor <;> rfl) ?_
  refine WK.nil ?_
  refine DK.abs (fun M1 => AtM H [BkL b.today sp l, o.l, zeroA.l (.slice none 0 0)] M1 ∧ OpenAt M1 (.slice none 0 0) ([] : List Cy) ∧ M1[M0.length]? = some (.cells false p.l)) ⟨hM.on (Keep.app _ _), .inl ⟨rfl, rfl⟩, by simp⟩ ?_
  try clear hM
  try clear hO
  rintro M1 ⟨hM, hO, r⟩
  replace w := hM.own 0 (by simp)
  replace y := hM.own 1 (by simp)
  replace z := hM.own 2 (by simp)
  simp only [List.getElem_cons_zero, List.getElem_cons_succ, Nat.add_zero] at w y z
  replace A := hM.q3
  replace c := hO.cells.1
  replace d := hO.cells.2
  refine DK.seq ?_
  refine DK.block ?_
  refine DK.seq ?_
  refine DK.region (is := [0, 1, 2]) (by kernel_rfl) rfl ?_
  refine WK.run [0, 1, 2] (by simp [w, y, z, A, c, d, hsp0, hsp1, hl32, f, g, j, m, n, s, t, r, u]; constructor <;> rfl) ?_
  refine WK.nil ?_
  refine DK.test rfl rfl (fun h => ?_) (fun h => ?_)
  · try simp only [h]
    replace h := Tr.out h
    refine DK.seq ?_
    refine DK.region (is := [0, 1, 2, 3]) (by kernel_rfl) rfl ?_
    refine WK.run [0, 1, 2, 3] (by simp [w, y, z, A, c, d, hsp0, hsp1, hl32, f, g, j, m, n, s, t, r, u]; constructor <;> rfl) ?_
    refine WK.nil ?_
    refine DK.abs (fun MZ => AtM H [BkL b.today sp l, o.l, zeroA.l (.slice none 0 0)] MZ ∧ OpenAt MZ (.slice none 0 0) zeroA.op) ⟨hM.set (i := 2) (by simp) _, .inl ⟨rfl, rfl⟩⟩ ?_
    try clear hM
    try clear hO
    rintro MZ ⟨hM, hO⟩
    replace w := hM.own 0 (by simp)
    replace y := hM.own 1 (by simp)
    replace z := hM.own 2 (by simp)
    simp only [List.getElem_cons_zero, List.getElem_cons_succ, Nat.add_zero] at w y z
    replace A := hM.q3
    replace c := hO.cells.1
    replace d := hO.cells.2
    replace B : Fresh (H.length + 3) (.slice none 0 0) := .inl rfl
    have hres : openB b o = (zeroA, e) := by unfold openB; simp only [hgp]; rw [if_pos ‹_›]
    refine DK.ret ?_
    refine And.intro (Or.inr rfl) ?_
    refine ⟨_, by simp [absAnswer, absResults, absResult, Tryd.f31, w, y, z, A, c, d]; rfl, ?_⟩
    exact ⟨_, by rw [hres]; rfl, hM.keep.ext, by rw [hres]; exact hO, B.le (by omega)⟩
  try simp only [h]
  replace h := Fa.out h
  refine DK.seq ?_
  refine DK.region (is := [0, 1, 2, 3, 4, 5, 6, 7]) (by kernel_rfl) rfl ?_
  refine WK.run [0, 1, 2, 3, 4, 5, 6, 7] (by simp [w, y, z, A, c, d, hsp0, hsp1, hl32, f, g, j, m, n, s, t, r, u]; constructor <;> rfl) ?_
  refine WK.nil ?_
  refine DK.test rfl rfl (fun h => ?_) (fun h => ?_)
  · try simp only [h]
    replace h := Tr.out h
    refine DK.seq ?_
    refine DK.region (is := [0, 1, 2]) (by kernel_rfl) rfl ?_
    refine WK.run [0, 1, 2] (by simp [w, y, z, A, c, d, hsp0, hsp1, hl32, f, g, j, m, n, s, t, r, u]; constructor <;> rfl) ?_
    refine WK.nil ?_
    refine DK.abs (fun MZ => AtM H [BkL b.today sp l, o.l, zeroA.l (.slice none 0 0)] MZ ∧ OpenAt MZ (.slice none 0 0) zeroA.op) ⟨hM.set (i := 2) (by simp) _, .inl ⟨rfl, rfl⟩⟩ ?_
    try clear hM
    try clear hO
    rintro MZ ⟨hM, hO⟩
    replace w := hM.own 0 (by simp)
    replace y := hM.own 1 (by simp)
    replace z := hM.own 2 (by simp)
    simp only [List.getElem_cons_zero, List.getElem_cons_succ, Nat.add_zero] at w y z
    replace A := hM.q3
    replace c := hO.cells.1
    replace d := hO.cells.2
    replace B : Fresh (H.length + 3) (.slice none 0 0) := .inl rfl
    have hres : openB b o = (zeroA, 11) := by unfold openB; simp only [hgp]; rw [if_neg (by simp [*]), if_pos (by rw [← hxa]; assumption)]
    refine DK.ret ?_
    refine And.intro (Or.inr rfl) ?_
    refine ⟨_, by simp [absAnswer, absResults, absResult, Tryd.f31, w, y, z, A, c, d]; rfl, ?_⟩
    exact ⟨_, by rw [hres]; rfl, hM.keep.ext, by rw [hres]; exact hO, B.le (by omega)⟩
  try simp only [h]
  replace h := Fa.out h
  refine DK.seq ?_
  refine DK.region (is := [0, 1, 2, 3, 4, 5, 6]) (by kernel_rfl) rfl ?_
  refine WK.run [0, 1, 2, 3, 4, 5, 6] (by simp [w, y, z, A, c, d, hsp0, hsp1, hl32, f, g, j, m, n, s, t, r, u]; constructor <;> rfl) ?_
  refine WK.nil ?_
  refine DK.test rfl rfl (fun h => ?_) (fun h => ?_)
  · try simp only [h]
    replace h := Tr.out h
    refine DK.seq ?_
    refine DK.region (is := [0, 1, 2]) (by kernel_rfl) rfl ?_
    refine WK.run [0, 1, 2] (by simp [w, y, z, A, c, d, hsp0, hsp1, hl32, f, g, j, m, n, s, t, r, u]; constructor <;> rfl) ?_
    refine WK.nil ?_
    refine DK.abs (fun MZ => AtM H [BkL b.today sp l, o.l, zeroA.l (.slice none 0 0)] MZ ∧ OpenAt MZ (.slice none 0 0) zeroA.op) ⟨hM.set (i := 2) (by simp) _, .inl ⟨rfl, rfl⟩⟩ ?_
    try clear hM
    try clear hO
    rintro MZ ⟨hM, hO⟩
    replace w := hM.own 0 (by simp)
    replace y := hM.own 1 (by simp)
    replace z := hM.own 2 (by simp)
    simp only [List.getElem_cons_zero, List.getElem_cons_succ, Nat.add_zero] at w y z
    replace A := hM.q3
    replace c := hO.cells.1
    replace d := hO.cells.2
    replace B : Fresh (H.length + 3) (.slice none 0 0) := .inl rfl
    have hres : openB b o = (zeroA, 6) := by unfold openB; simp only [hgp]; rw [if_neg (by simp [*]), if_neg (by rw [← hxa]; exact fun q => q ‹x.a.st = 0›), if_pos (by omega)]
    refine DK.ret ?_
    refine And.intro (Or.inr rfl) ?_
    refine ⟨_, by simp [absAnswer, absResults, absResult, Tryd.f31, w, y, z, A, c, d]; rfl, ?_⟩
    exact ⟨_, by rw [hres]; rfl, hM.keep.ext, by rw [hres]; exact hO, B.le (by omega)⟩
  try simp only [h]
  replace h := Fa.out h
  refine DK.skip ?_
  refine DK.seq ?_
  refine DK.draw rfl (POk.of (ord := [0, 1, 2, 3, 4, 6, 7, 8, 5, 9, 10, 11, 12, 13]) (by kernel_rfl)) ?_
  refine XK.run [0, 1, 2, 3, 4, 6, 7, 8] (by kernel_rfl) (by simp [w, y, z, A, c, d, hsp0, hsp1, hl32, f, g, j, m, n, s, t, r, u]; constructor <;> rfl) ?_
  refine XK.call rfl (by simp [w, y, z, A, c, d, hsp0, hsp1, hl32, f, g, j, m, n, s, t, r, u]) rfl (by simp [Tryd.func57, Tryd.f57, w, y, z, A, c, d, hsp0, hsp1, hl32, f, g, j, m, n, s, t, r, u]; constructor <;> rfl) ?_
  refine FSem.mono (opena_g o.pl p b.today _) ?_
  rintro _ Hq ⟨rfl, hq⟩
  subst hq
  refine And.intro (lag_list (l := [6, 8]) (by kernel_rfl) (lag_cons (lag_one rfl (by simp [w, y, z, A, c, d, hsp0, hsp1, hl32, f, g, j, m, n, s, t, r, u]; constructor <;> rfl) rfl (by simp [w, y, z, A, c, d, hsp0, hsp1, hl32, f, g, j, m, n, s, t, r, u]) (by simp [sameL, sameV_agg, sameV_int, sameV_bool, sameV_str, sameV_ptr, sameV_sl, sameV_map, same1_int, same1_bool, same1_str, same1_ptr, same1_sl, same1_map, w, y, z, A, c, d, hsp0, hsp1, hl32, f, g, j, m, n, s, t, r, u]) rfl) (lag_cons (lag_one rfl (by simp [w, y, z, A, c, d, hsp0, hsp1, hl32, f, g, j, m, n, s, t, r, u]; constructor <;> rfl) rfl (by simp [w, y, z, A, c, d, hsp0, hsp1, hl32, f, g, j, m, n, s, t, r, u]) (by simp [sameL, sameV_agg, sameV_int, sameV_bool, sameV_str, sameV_ptr, sameV_sl, sameV_map, same1_int, same1_bool, same1_str, same1_ptr, same1_sl, same1_map, w, y, z, A, c, d, hsp0, hsp1, hl32, f, g, j, m, n, s, t, r, u]) rfl) rfl))) ?_
  refine XK.call rfl (by simp [w, y, z, A, c, d, hsp0, hsp1, hl32, f, g, j, m, n, s, t, r, u]) rfl (by simp [Tryd.func56, Tryd.f56, w, y, z, A, c, d, hsp0, hsp1, hl32, f, g, j, m, n, s, t, r, u]; constructor <;> rfl) ?_
  refine FSem.mono (day_s (openAc o.pl p b.today) p b.today (by have := getP_un hu o.pl; rw [hgp] at this; exact this) (.inl ⟨rfl, rfl⟩) (by simp [openAc, dayN])) ?_
  rintro _ R ⟨s2, rfl, hA, hO, B⟩
  replace B : Fresh (H.length + 3) s2 := B.le (hM.lt (i := 2) (by simp))
  replace hM := hM.on (Keep.of hA)
  replace w := hM.own 0 (by simp)
  replace y := hM.own 1 (by simp)
  replace z := hM.own 2 (by simp)
  simp only [List.getElem_cons_zero, List.getElem_cons_succ, Nat.add_zero] at w y z
  replace A := hM.q3
  replace c := hO.cells.1
  replace d := hO.cells.2
  refine And.intro (lag_list (l := []) (by kernel_rfl) rfl) ?_
  refine XK.run [10, 11] (by kernel_rfl) (by simp [w, y, z, A, c, d, hsp0, hsp1, hl32, f, g, j, m, n, s, t, r, u]; constructor <;> rfl) ?_
  refine XK.one rfl (by simp [w, y, z, A, c, d, hsp0, hsp1, hl32, f, g, j, m, n, s, t, r, u]) rfl (by simp [w, y, z, A, c, d, hsp0, hsp1, hl32, f, g, j, m, n, s, t, r, u]; constructor <;> rfl) (lag_list (l := []) (by kernel_rfl) rfl) ?_
  refine XK.one rfl (by simp [w, y, z, A, c, d, hsp0, hsp1, hl32, f, g, j, m, n, s, t, r, u]) rfl (by simp [w, y, z, A, c, d, hsp0, hsp1, hl32, f, g, j, m, n, s, t, r, u]; constructor <;> rfl) (lag_list (l := []) (by kernel_rfl) rfl) ?_
  refine XK.nil ?_
  have hres : openB b o = dayA (openAc o.pl p b.today) p b.today := by unfold openB; simp only [hgp]; rw [if_neg (by simp [*]), if_neg (by rw [← hxa]; exact fun q => q ‹x.a.st = 0›), if_neg (by omega)]
  refine DK.abs (fun M5 => AtM H [BkL b.today sp l, o.l, (dayA (openAc o.pl p b.today) p b.today).1.l s2] M5 ∧ OpenAt M5 s2 (dayA (openAc o.pl p b.today) p b.today).1.op) ⟨hM.set (i := 2) (by simp) _, hO.set (B.ne (by omega)) _⟩ ?_
  try clear hM
  try clear hO
  rintro M5 ⟨hM, hO⟩
  replace w := hM.own 0 (by simp)
  replace y := hM.own 1 (by simp)
  replace z := hM.own 2 (by simp)
  simp only [List.getElem_cons_zero, List.getElem_cons_succ, Nat.add_zero] at w y z
  replace A := hM.q3
  replace c := hO.cells.1
  replace d := hO.cells.2
  refine DK.ret ?_
  refine And.intro (Or.inr rfl) ?_
  refine ⟨_, by simp [absAnswer, absResults, absResult, Tryd.f31, w, y, z, A, c, d]; rfl, ?_⟩
  exact ⟨_, by rw [hres]; rfl, hM.keep.ext, by rw [hres]; exact hO, B.le (by omega)⟩
end Go.Den
set_option linter.unusedVariables false
set_option maxRecDepth 100000
namespace Go.Den
open Go Go.Proofs
theorem asksFrom_app : ∀ (k : Nat) (l r : List Ac), asksFrom k (l ++ r) = asksFrom k l ++ asksFrom (k + l.length) r
  | k, [], r => by simp [asksFrom]
  | k, a :: l, r => by simp [asksFrom, asksFrom_app (k + 1) l r, Nat.add_assoc, Nat.add_comm 1]
theorem asks_take {b : Bk} {i : Nat} (h : i < b.subs.length) : asksFrom 0 (b.subs.take (i + 1)) = asksFrom 0 (b.subs.take i) ++ asksA i b.subs[i] := by
  rw [List.take_succ_eq_append_getElem h, asksFrom_app]
  simp [asksFrom, Nat.min_eq_left (Nat.le_of_lt h)]
theorem asks_bound {k : Nat} : ∀ (n : Nat) (l : List Ac), (∀ a ∈ l, a.op.length ≤ k) → (asksFrom n l).length ≤ l.length * k
  | n, [], _ => by simp [asksFrom]
  | n, a :: l, h => by
    simp only [asksFrom, List.length_append, List.length_cons]
    have h1 : (asksA n a).length ≤ a.op.length := asksL_len _ _
    have h2 := h a (by simp)
    have h3 := asks_bound (n + 1) l (fun x hx => h x (by simp [hx]))
    rw [Nat.succ_mul]; omega
theorem BkAt.nth {H : Mem} {sp : Value} {l : List As} {b : Bk} (h : BkAt H sp l b) {i : Nat} (hi : i < 32) : ∃ (x : As) (h1 : i < b.subs.length), x.a = b.subs[i] ∧ b.sub i = b.subs[i] ∧ l[i]? = some x ∧ OpenAt H x.s x.a.op ∧ absPart Tryd.prog 32 (rowV l).toArray (i * 13) = some (x.a.v x.s) := by
  have hl : i < l.length := by have := h.len; omega
  have h1 : i < b.subs.length := by rw [← h.map]; simpa using hl
  refine ⟨l[i], h1, ?_, ?_, List.getElem?_eq_getElem hl, h.op _ (List.getElem_mem hl), part_at hl⟩
  · have e : b.subs[i]? = some (l[i]).a := by rw [← h.map, List.getElem?_map, List.getElem?_eq_getElem hl]; rfl
    rw [List.getElem?_eq_getElem h1] at e
    exact (Option.some.inj e).symm
  · unfold Bk.sub
    rw [List.getD_eq_getElem?_getD, Int.toNat_natCast, List.getElem?_eq_getElem h1]; rfl
end Go.Den
set_option linter.unusedVariables false
set_option maxRecDepth 100000
namespace Go.Den
open Go Go.Proofs
theorem RowAt.idx {α : Type} [Cel α] {P : Program} {M : Mem} {w : Value} {l : List α} {i : Int} (hw : RowAt M w l) (h0 : 0 ≤ i) (h1 : i.toNat < l.length) {T e : Nat} {f : TypeInfo} (hu : P.underlying T = some (.slice e)) (hi : P.info? e = some f) (hk : f.size = Cel.k α) :
    ∃ b o ro vs, absIndexAddr P M T w (.int .i64 i) = some (.pointer (some ⟨b, o + i.toNat * Cel.k α, none⟩)) ∧ M[b]? = some (.cells ro vs) ∧ o + i.toNat * Cel.k α + Cel.k α ≤ vs.length ∧ List.take (Cel.k α) (List.drop (o + i.toNat * Cel.k α) vs) = Cel.f l[i.toNat] := by
  obtain ⟨b, o, ro, vs, rfl, hb, hle, hge⟩ := hw.blk h1
  have hl : i < (l.length : Int) := by omega
  exact ⟨b, o, ro, vs, by simp [absIndexAddr, hu, hi, hk, h0, hl], hb, hle, hge⟩
theorem appBy2 {H : Mem} {s x : Value} {l r : List By} (hs : RowAt H s l) (hw : Own H s) (hx : RowAt H x r) (hn : l.length + r.length ≤ 10000000000000) :
    ∃ s' H', absAppend Tryd.prog H #[72, 72] s x = some (s', H') ∧ RowAt H' s' (l ++ r) ∧ Own H' s' ∧ Fr H s H' ∧ (s' = s ∨ New H.length s') ∧ (r ≠ [] → New H.length s') :=
  RowAt.appB hs hw hx Tryd.underlying72 inf5 sz5 ze5 rfl (by omega) (by rw [show I5.bytes = 1 by kernel_rfl]; omega)
theorem enc_step {M0 M M' : Mem} {k : Nat} {s s' : Value} (hK : Keep M0 M) (hk : M0.length ≤ k) (hN : New M0.length s) (hF : Fr2 M k s M') (hS : Src M s s') : Keep M0 M' ∧ New M0.length s' :=
  ⟨⟨Nat.le_trans hK.1 hF.1, fun i hi => (hF.2 i (Nat.lt_of_lt_of_le hi hK.1) (by omega) (fun q => by have := hN i q; omega)).trans (hK.2 i hi)⟩, fun c hc => (hS c hc).elim (hN c) (fun q => Nat.le_trans hK.1 q)⟩
end Go.Den
namespace Go.Den
open Go Go.Proofs
set_option maxRecDepth 100000
set_option maxHeartbeats 1000000
set_option linter.all false
attribute [local simp] evOps evOp absOp absBox absAlloc absLoad absStore absField absIndexAddr absCells absBinOp absBin absInt absShift absUn absPick absNil absExtract absBuild absPlaces Instr.fill absBuiltin absMinMax plainV plainT allA flat cells_agg cells_int cells_bool cells_str cells_ptr cells_sl cells_map one_int one_bool one_str one_ptr one_sl one_map Act.eval Act.put Region.wanted yielded splice absCall TypeDesc.isRow
theorem pnew_s  (H : Mem) : FSem Tryd.prog [0] 43 #[] H fun v H' => ∃ k, v = .pointer (some ⟨k, 0, none⟩) ∧ H.length ≤ k ∧ Keep H H' ∧ BoxAt H' k (.slice none 0 0) [] 0 := by
  refine FSem.ofK Tryd.func43 rfl ?_
  refine DK.from (b' := ⟨#[undef, undef, undef], []⟩) (by kernel_rfl) ?_
  refine DK.seq ?_
  refine DK.region (is := [0]) (by kernel_rfl) rfl ?_
  refine WK.run [0] (by simp; constructor <;> rfl) ?_
  refine WK.nil ?_
  refine DK.seq ?_
  refine DK.region (is := [0, 1, 2]) (by kernel_rfl) rfl ?_
  refine WK.run [0, 1, 2] (by simp; constructor <;> rfl) ?_
  refine WK.nil ?_
  refine DK.ret ?_
  refine And.intro (Or.inr rfl) ?_
  refine ⟨_, by simp [absAnswer, absResults, absResult, Tryd.f43]; rfl, ?_⟩
  exact ⟨_, rfl, Nat.le_refl _, Keep.app _ _, by simp, RowAt.nil _, Own.nil _ _ _, by intro q; cases q⟩
theorem pdone_s {k : Nat} {s : Value} {c : List By} {e : Int} {H : Mem} (hB : BoxAt H k s c e) (hn : c.length ≤ 10000000000000) : FSem Tryd.prog [0] 47 #[.pointer (some ⟨k, 0, none⟩)] H fun v H' => RowOut H c v H' := by
  refine FSem.ofK Tryd.func47 rfl ?_
  refine DK.from (b' := ⟨#[.pointer (some ⟨k, 0, none⟩), undef, undef, undef, undef, undef, undef, undef, undef, undef], []⟩) (by kernel_rfl) ?_
  have d := trivial
  have b := trivial
  have a := trivial
  replace d := hB.cell
  replace b := cellr d
  obtain ⟨s2, M2, ha2, hR2, hW2, hf2, hN2, _⟩ := appBy2 (RowAt.nil H) (Own.nil H 0 0) hB.row (by simpa using hn)
  replace a := ha2
  refine DK.seq ?_
  refine DK.region (is := [0]) (by kernel_rfl) rfl ?_
  refine WK.run [0] (by simp [d, b, a]; constructor <;> rfl) ?_
  refine WK.nil ?_
  refine DK.seq ?_
  refine DK.seq ?_
  refine DK.region (is := [0, 1]) (by kernel_rfl) rfl ?_
  refine WK.run [0, 1] (by simp [d, b, a]; constructor <;> rfl) ?_
  refine WK.nil ?_
  refine DK.test rfl rfl (fun h => ?_) (fun h => ?_)
  · try simp only [h]
    replace h := Tr.out h
    cases h
  try simp only [h]
  replace h := Fa.out h
  refine DK.skip ?_
  refine DK.seq ?_
  refine DK.region (is := [0, 1, 2, 3, 4, 5]) (by kernel_rfl) rfl ?_
  refine WK.run [0, 1, 2, 3] (by simp [d, b, a]; constructor <;> rfl) ?_
  refine WK.run [4, 5] (by simp [d, b, a]; constructor <;> rfl) ?_
  refine WK.nil ?_
  refine DK.ret ?_
  refine And.intro (Or.inr rfl) ?_
  refine ⟨_, by simp [absAnswer, absResults, absResult, Tryd.f47]; rfl, ?_⟩
  exact ⟨(Keep.frn (Keep.refl H) hf2 (New.nil _ _ _)).ext, hR2, hW2, by rcases hN2 with q | q; rw [q]; exact New.nil _ _ _; exact q⟩
end Go.Den
namespace Go.Den
open Go Go.Proofs
set_option maxRecDepth 100000
set_option maxHeartbeats 1000000
set_option linter.all false
attribute [local simp] evOps evOp absOp absBox absLoad absStore absField absCells absBinOp absBin absInt absShift absUn absPick absNil absExtract absPlaces Instr.fill absBuiltin absMinMax plainV plainT allA flat cells_agg cells_int cells_bool cells_str cells_ptr cells_sl cells_map one_int one_bool one_str one_ptr one_sl one_map Act.eval Act.put Region.wanted yielded absCall TypeDesc.isRow
attribute [local simp high] bk_t bk_p bk_take bk_row BkL_len sp_bk sp_t sp_p
attribute [local simp] sp_nil sp_0 sp_s List.length_set
theorem encode_s (kk : Nat) (b : Bk) {sp : Value} {l : List As} {H : Mem} (hB : BkAt H sp l b) (hk : BOk kk b) (hk3 : kk ≤ 1000000000) (hp8 : b.pls.length ≤ 8) : FSem Tryd.prog [0] 21 #[bkv b.today sp l] H fun v H' => RowOut H (encB b) v H' := by
  refine FSem.ofK Tryd.func21 rfl ?_
  refine DK.from (b' := ⟨#[bkv b.today sp l, undef, undef, undef, undef, undef, undef, undef, undef, undef, undef, undef, undef, undef, undef, undef, undef, undef, undef, undef, undef, undef, undef, undef, undef, undef, undef, undef, undef, undef, undef, undef, undef, undef, undef, undef, undef, undef], []⟩) (by kernel_rfl) ?_
  have L := trivial
  have o := trivial
  have d := trivial
  have f := trivial
  have g := trivial
  have w := trivial
  have m := trivial
  have y := trivial
  have z := trivial
  have A := trivial
  have N := trivial
  have F := trivial
  have p := trivial
  have B := trivial
  have r := trivial
  have C := trivial
  have D := trivial
  have n := trivial
  have t := trivial
  have u := trivial
  have E := trivial
  obtain ⟨d, f⟩ := hB.pls.cells
  have g := hB.len
  have hB32 := hk.len
  replace w := lenPl hB.pls
  replace E := hB.pls.same.2
  have K := trivial
  have S := trivial
  have O := trivial
  refine DK.seq ?_
  refine DK.region (is := [0, 1]) (by kernel_rfl) rfl ?_
  refine WK.run [0, 1] (by simp [L, o, d, f, g, w, m, y, z, A, N, F, p, B, r, C, D, n, t, u, E, absIndex]; constructor <;> rfl) ?_
  refine WK.nil ?_
  refine DK.abs (fun M0 => Keep H M0 ∧ M0[H.length]? = some (.cells false (BkL b.today sp l))) ⟨Keep.app _ _, mem_app _ _⟩ ?_
  rintro M0 ⟨hkk, h_cb⟩
  replace L := h_cb
  have hkH := hkk
  have cb0 := L
  replace o := cellr L
  refine DK.seq ?_
  refine DK.draw rfl (POk.of (ord := [1, 2, 3, 4, 5, 6, 0, 7, 8]) (by kernel_rfl)) ?_
  refine XK.run [1, 2, 3, 4] (by kernel_rfl) (by simp [L, o, d, f, g, w, m, y, z, A, N, F, p, B, r, C, D, n, t, u, E, absIndex]; constructor <;> rfl) ?_
  refine XK.run [5, 6] (by kernel_rfl) (by simp [L, o, d, f, g, w, m, y, z, A, N, F, p, B, r, C, D, n, t, u, E, absIndex]; constructor <;> rfl) ?_
  refine XK.call rfl (by simp [L, o, d, f, g, w, m, y, z, A, N, F, p, B, r, C, D, n, t, u, E, absIndex]) rfl (by simp [Tryd.func43, Tryd.f43, L, o, d, f, g, w, m, y, z, A, N, F, p, B, r, C, D, n, t, u, E, absIndex]; constructor <;> rfl) ?_
  refine FSem.mono (pnew_s _) ?_
  rintro _ M1 ⟨k, rfl, hk0, hKN, hB0⟩
  have K : Keep M0 M1 := (Keep.app _ _).trans hKN
  have hk2 : M0.length + 1 ≤ k := by have := hk0; simp at this; omega
  have hlit := (wds_row (H := M0) [b.today, (b.pls.length : Int)] rfl).keep hKN
  replace L := K.cell cb0
  replace o := cellr L
  refine And.intro (lag_list (l := [2, 4, 5]) (by kernel_rfl) (lag_cons (lag_one rfl (by simp [L, o, d, f, g, w, m, y, z, A, N, F, p, B, r, C, D, n, t, u, E, absIndex]; constructor <;> rfl) rfl (by simp [L, o, d, f, g, w, m, y, z, A, N, F, p, B, r, C, D, n, t, u, E, absIndex]) (by simp [sameL, sameV_agg, sameV_int, sameV_bool, sameV_str, sameV_ptr, sameV_sl, sameV_map, same1_int, same1_bool, same1_str, same1_ptr, same1_sl, same1_map, L, o, d, f, g, w, m, y, z, A, N, F, p, B, r, C, D, n, t, u, E, absIndex]) rfl) (lag_cons (lag_one rfl (by simp [L, o, d, f, g, w, m, y, z, A, N, F, p, B, r, C, D, n, t, u, E, absIndex]; constructor <;> rfl) rfl (by simp [L, o, d, f, g, w, m, y, z, A, N, F, p, B, r, C, D, n, t, u, E, absIndex]) (by simp [sameL, sameV_agg, sameV_int, sameV_bool, sameV_str, sameV_ptr, sameV_sl, sameV_map, same1_int, same1_bool, same1_str, same1_ptr, same1_sl, same1_map, L, o, d, f, g, w, m, y, z, A, N, F, p, B, r, C, D, n, t, u, E, absIndex]) rfl) (lag_cons (lag_one rfl (by simp [L, o, d, f, g, w, m, y, z, A, N, F, p, B, r, C, D, n, t, u, E, absIndex]; constructor <;> rfl) rfl (by simp [L, o, d, f, g, w, m, y, z, A, N, F, p, B, r, C, D, n, t, u, E, absIndex]) (by simp [sameL, sameV_agg, sameV_int, sameV_bool, sameV_str, sameV_ptr, sameV_sl, sameV_map, same1_int, same1_bool, same1_str, same1_ptr, same1_sl, same1_map, L, o, d, f, g, w, m, y, z, A, N, F, p, B, r, C, D, n, t, u, E, absIndex]) rfl) rfl)))) ?_
  refine XK.call rfl (by simp [L, o, d, f, g, w, m, y, z, A, N, F, p, B, r, C, D, n, t, u, E, absIndex]) rfl (by simp [Tryd.func44, Tryd.f44, L, o, d, f, g, w, m, y, z, A, N, F, p, B, r, C, D, n, t, u, E, absIndex]; constructor <;> rfl) ?_
  refine FSem.mono (bput_s [b.today, (b.pls.length : Int)] hB0 hlit (fun q => by have e : M0.length = k := Option.some.inj q; omega) (fun c _ q => by cases q) (by simp)) ?_
  rintro _ M2 ⟨s2, rfl, hB2, hF2, hS2⟩
  obtain ⟨hKM2, hN2⟩ := enc_step K (by omega) (New.nil _ 0 0) hF2 hS2
  replace K := hKM2
  have hc2 := numsB_len [b.today, (b.pls.length : Int)]
  replace L := K.cell cb0
  replace o := cellr L
  refine And.intro (lag_list (l := []) (by kernel_rfl) rfl) ?_
  refine XK.one rfl (by simp [L, o, d, f, g, w, m, y, z, A, N, F, p, B, r, C, D, n, t, u, E, absIndex]) rfl (by simp [L, o, d, f, g, w, m, y, z, A, N, F, p, B, r, C, D, n, t, u, E, absIndex]; constructor <;> rfl) (lag_list (l := []) (by kernel_rfl) rfl) ?_
  refine XK.nil ?_
  refine DK.seq ?_
  refine DK.seq ?_
  refine DK.region (is := [0, 1, 2, 3]) (by kernel_rfl) rfl ?_
  refine WK.run [0, 1, 2, 3] (by simp [L, o, d, f, g, w, m, y, z, A, N, F, p, B, r, C, D, n, t, u, E, absIndex]; constructor <;> rfl) ?_
  refine WK.nil ?_
  refine DK.block ?_
  refine DK.loopF [5, 19, 20, 21, 22, 23, 24, 25, 26] [19] (fun fl vs H' => ∃ (i : Int) (s3 : Value) (c3 : List By), vs = [.int .i64 i] ∧ (c3 = numsB [b.today, (b.pls.length : Int)] ++ numsB ((b.pls.take i.toNat).flatMap plN) ∧ c3.length ≤ 22 + 66 * i.toNat ∧ BoxAt H' k s3 c3 0 ∧ Keep M0 H' ∧ New M0.length s3) ∧ 0 ≤ i ∧ i ≤ b.pls.length ∧ fl = (b.pls.length - i).toNat) (b.pls.length) (by kernel_rfl) ?_ ?_
  · refine ⟨_, s2, numsB [b.today, (b.pls.length : Int)], rfl, ?_⟩
    exact ⟨⟨by simp [numsB], by simpa using hc2, by simpa using hB2, K, hN2⟩, by omega, by omega, by omega⟩
  rintro fl f1j M ⟨i, s3, c3, hv, hf⟩
  clear O S K
  obtain ⟨⟨hcc3, hcl, O, K, S⟩, hj0, hj1, hfl⟩ := hf
  replace L := K.cell cb0
  replace o := cellr L
  simp only [List.map_cons, List.map_nil, List.cons.injEq, and_true] at hv
  have hv1_0 := hv
  refine DK.from ((setL_S (by decide) _ _).trans (by simp [setS, hv1_0]; exact rfl)) ?_
  refine DK.seq ?_
  refine DK.region (is := [0]) (by kernel_rfl) rfl ?_
  refine WK.run [0] (by simp [L, o, d, f, g, w, m, y, z, A, N, F, p, B, r, C, D, n, t, u, E, absIndex]; constructor <;> rfl) ?_
  refine WK.nil ?_
  refine DK.seq ?_
  refine DK.test rfl rfl (fun h => ?_) (fun h => ?_)
  · try simp only [h]
    replace h := Tr.out h
    replace p : 0 ≤ i := hj0
    have hlt : i < b.pls.length := h
    have hil : i.toNat < b.pls.length := by omega
    replace r : IntKind.i64.wrap (i + 1) = i + 1 := wrap_in _ (by omega) (by omega)
    obtain ⟨bp, op, rop, vsp, hidx0, hbp0, hle0, hge0⟩ := (hB.pls.keep (hkH.trans K)).idx (T := 27) (e := 44) (i := i) hj0 hil Tryd.underlying27 inf44 sz44
    replace m : absIndexAddr Tryd.prog M 27 sp (.int .i64 i) = some (.pointer (some ⟨bp, op + i.toNat * 6, none⟩)) := hidx0
    replace y := hbp0
    replace A : op + i.toNat * 6 + 6 ≤ vsp.length := hle0
    replace z : List.take 6 (List.drop (op + i.toNat * 6) vsp) = b.pls[i.toNat].l := hge0
    refine DK.skip ?_
    refine DK.seq ?_
    refine DK.block ?_
    refine DK.seq ?_
    refine DK.region (is := [0, 1, 2, 3]) (by kernel_rfl) rfl ?_
    refine WK.run [0, 1, 2, 3] (by simp [L, o, d, f, g, w, m, y, z, A, N, F, p, B, r, C, D, n, t, u, E, absIndex]; constructor <;> rfl) ?_
    refine WK.nil ?_
    refine DK.abs (fun MC => Keep M MC ∧ MC[M.length]? = some (.cells false (b.pls[i.toNat].l))) ⟨Keep.app _ _, by simp⟩ ?_
    rintro MC ⟨hK, q0⟩
    replace O := O.keep hK
    replace K := K.trans hK
    replace N := q0
    refine DK.region (is := [0, 1, 2]) (by kernel_rfl) rfl ?_
    refine WK.run [0, 1] (by simp [L, o, d, f, g, w, m, y, z, A, N, F, p, B, r, C, D, n, t, u, E, absIndex]; constructor <;> rfl) ?_
    refine WK.call rfl (by simp [L, o, d, f, g, w, m, y, z, A, N, F, p, B, r, C, D, n, t, u, E, absIndex]) (by simp [Tryd.func45, Tryd.f45, L, o, d, f, g, w, m, y, z, A, N, F, p, B, r, C, D, n, t, u, E, absIndex]; constructor <;> rfl) ?_
    refine FSem.mono (plput_s b.pls[i.toNat] O (by omega)) ?_
    rintro _ M5 ⟨s5, c5, hc5, hl5, hB5, hF5, hS5⟩
    obtain ⟨hKM5, hN5⟩ := enc_step K (by omega) S hF5 hS5
    replace K := hKM5
    refine WK.nil ?_
    refine DK.region (is := [0, 1]) (by kernel_rfl) rfl ?_
    refine WK.run [0, 1] (by simp [L, o, d, f, g, w, m, y, z, A, N, F, p, B, r, C, D, n, t, u, E, absIndex]; constructor <;> rfl) ?_
    refine WK.nil ?_
    refine ⟨by kernel_rfl, (b.pls.length - (i + 1)).toNat, ?_, _, s5, c5, rfl, ?_⟩
    · omega
    · rw [show (i + 1).toNat = i.toNat + 1 by omega]
      exact ⟨⟨by rw [hc5, hcc3, fm_take plN hil, numsB_app]; simp, by omega, hB5, K, hN5⟩, by omega, by omega, rfl⟩
  try simp only [h]
  replace h := Fa.out h
  have hiE : i = b.pls.length := by omega
  subst hiE
  refine DK.exit ?_
  refine DK.seq ?_
  refine DK.seq ?_
  refine DK.region (is := [0, 1, 2]) (by kernel_rfl) rfl ?_
  refine WK.run [0, 1, 2] (by simp [L, o, d, f, g, w, m, y, z, A, N, F, p, B, r, C, D, n, t, u, E, absIndex]; constructor <;> rfl) ?_
  refine WK.nil ?_
  refine DK.block ?_
  refine DK.loopF [7, 29, 30, 31, 32, 33, 34, 35] [29] (fun fl vs H' => ∃ (j : Int) (s6 : Value) (c6 : List By), vs = [.int .i64 j] ∧ (c6 = numsB [b.today, (b.pls.length : Int)] ++ numsB (b.pls.flatMap plN) ++ numsB ((b.subs.take j.toNat).flatMap acN) ∧ c6.length ≤ 550 + j.toNat * (200 + 88 * kk) ∧ BoxAt H' k s6 c6 0 ∧ Keep M0 H' ∧ New M0.length s6) ∧ 0 ≤ j ∧ j ≤ 32 ∧ fl = (32 - j).toNat) (32) (by kernel_rfl) ?_ ?_
  · refine ⟨_, s3, c3, rfl, ?_⟩
    exact ⟨⟨by rw [hcc3]; simp [numsB], by simp at hcl ⊢; omega, O, K, S⟩, by omega, by omega, by omega⟩
  rintro fl f2j M6 ⟨j, s6, c6, hv, hf⟩
  clear O S K
  clear p r
  have p := trivial
  have r := trivial
  obtain ⟨⟨hcc6, hcl6, O, K, S⟩, hj0, hj1, hfl⟩ := hf
  simp only [List.map_cons, List.map_nil, List.cons.injEq, and_true] at hv
  have hv2_0 := hv
  refine DK.from ((setL_S (by decide) _ _).trans (by simp [setS, hv2_0]; exact rfl)) ?_
  refine DK.seq ?_
  refine DK.region (is := [0]) (by kernel_rfl) rfl ?_
  refine WK.run [0] (by simp [L, o, d, f, g, w, m, y, z, A, N, F, p, B, r, C, D, n, t, u, E, absIndex]; constructor <;> rfl) ?_
  refine WK.nil ?_
  refine DK.seq ?_
  refine DK.test rfl rfl (fun h => ?_) (fun h => ?_)
  · try simp only [h]
    replace h := Tr.out h
    replace p : 0 ≤ j := hj0
    replace B : j < 32 := h
    replace r : IntKind.i64.wrap (j + 1) = j + 1 := wrap_in _ (by omega) (by omega)
    obtain ⟨x, hx1, hxa, hxb, hxl, hxo, hpt1⟩ := hB.nth (i := j.toNat) (by omega)
    replace C := hpt1
    replace t := hxo.cells.1
    replace u := hxo.cells.2
    have hjj : ((j.toNat : Nat) : Int) = j := by omega
    have hxk : x.a.op.length ≤ kk := by rw [hxa]; exact (hk.subs _ (List.getElem_mem hx1)).2
    have hjk : j.toNat * (200 + 88 * kk) ≤ 31 * (200 + 88 * kk) := Nat.mul_le_mul_right _ (by omega)
    refine DK.skip ?_
    refine DK.seq ?_
    refine DK.block ?_
    refine DK.seq ?_
    refine DK.region (is := [0, 1, 2]) (by kernel_rfl) rfl ?_
    refine WK.run [0, 1, 2] (by simp [L, o, d, f, g, w, m, y, z, A, N, F, p, B, r, C, D, n, t, u, E, absIndex]; constructor <;> rfl) ?_
    refine WK.nil ?_
    refine DK.abs (fun MC => Keep M6 MC ∧ MC[M6.length]? = some (.cells false (x.a.l x.s))) ⟨Keep.app _ _, by simp⟩ ?_
    rintro MC ⟨hK, q0⟩
    replace O := O.keep hK
    replace K := K.trans hK
    replace D := q0
    refine DK.region (is := [0, 1, 2]) (by kernel_rfl) rfl ?_
    refine WK.run [0, 1] (by simp [L, o, d, f, g, w, m, y, z, A, N, F, p, B, r, C, D, n, t, u, E, absIndex]; constructor <;> rfl) ?_
    refine WK.call rfl (by simp [L, o, d, f, g, w, m, y, z, A, N, F, p, B, r, C, D, n, t, u, E, absIndex]) (by simp [Tryd.func46, Tryd.f46, L, o, d, f, g, w, m, y, z, A, N, F, p, B, r, C, D, n, t, u, E, absIndex]; constructor <;> rfl) ?_
    refine FSem.mono (aput_s x.a O (hxo.keep (hkH.trans K)) (hxo.ne (by have := hkH.1; omega)) (fun c hc q => by have := hxo.lt hc; have := S c q; have := hkH.1; omega) (by omega)) ?_
    rintro _ M7 ⟨s7, c7, hc7, hl7, hB7, hF7, hS7⟩
    obtain ⟨hKM7, hN7⟩ := enc_step K (by omega) S hF7 hS7
    replace K := hKM7
    refine WK.nil ?_
    refine DK.region (is := [0, 1]) (by kernel_rfl) rfl ?_
    refine WK.run [0, 1] (by simp [L, o, d, f, g, w, m, y, z, A, N, F, p, B, r, C, D, n, t, u, E, absIndex]; constructor <;> rfl) ?_
    refine WK.nil ?_
    refine ⟨by kernel_rfl, (32 - (j + 1)).toNat, ?_, _, s7, c7, rfl, ?_⟩
    · omega
    · rw [show (j + 1).toNat = j.toNat + 1 by omega]
      exact ⟨⟨by rw [hc7, hcc6, fm_take acN hx1, numsB_app, hxa]; simp, by rw [Nat.succ_mul]; omega, hB7, K, hN7⟩, by omega, by omega, rfl⟩
  try simp only [h]
  replace h := Fa.out h
  have hjk : j.toNat * (200 + 88 * kk) ≤ 32 * (200 + 88 * kk) := Nat.mul_le_mul_right _ (by omega)
  refine DK.exit ?_
  refine DK.seq ?_
  refine DK.region (is := [0, 1, 2]) (by kernel_rfl) rfl ?_
  refine WK.run [0] (by simp [L, o, d, f, g, w, m, y, z, A, N, F, p, B, r, C, D, n, t, u, E, absIndex]; constructor <;> rfl) ?_
  refine WK.call rfl (by simp [L, o, d, f, g, w, m, y, z, A, N, F, p, B, r, C, D, n, t, u, E, absIndex]) (by simp [Tryd.func47, Tryd.f47, L, o, d, f, g, w, m, y, z, A, N, F, p, B, r, C, D, n, t, u, E, absIndex]; constructor <;> rfl) ?_
  refine FSem.mono (pdone_s O (by omega)) ?_
  rintro _s9 M9 ⟨hA9, hR9, hW9, hN9⟩
  replace t := hR9.cells.1
  replace u := hR9.cells.2
  refine WK.run [2] (by simp [L, o, d, f, g, w, m, y, z, A, N, F, p, B, r, C, D, n, t, u, E, absIndex]; constructor <;> rfl) ?_
  refine WK.nil ?_
  refine DK.ret ?_
  refine And.intro (Or.inr rfl) ?_
  refine ⟨_, by simp [absAnswer, absResults, absResult, Tryd.f21]; rfl, ?_⟩
  have hi : j = 32 := by omega
  subst hi
  refine ⟨((hkH.trans K).trans (Keep.of hA9)).ext, ?_, hW9, hN9.le (hkH.trans K).1⟩
  rw [hcc6, List.take_of_length_le (by rw [hk.len]; decide)] at hR9; unfold encB bkN; rw [numsB_app, numsB_app]; exact hR9
end Go.Den
set_option linter.unusedVariables false
set_option maxRecDepth 100000
namespace Go.Den
open Go Go.Proofs
structure Bx where
  (p : List By) (e : Int)
def ByOk (l : List By) : Prop := ∀ c ∈ l, 0 ≤ c.n ∧ c.n < 256
def badB (i : Nat) (c : Int) : Bool := decide (128 ≤ c) || (decide (i = 10) && decide (16 ≤ c)) || (decide (0 < i) && decide (c = 0))
def scanB : Nat → Nat → List By → Int × Nat × List By
  | _, _, [] => (5, 0, [])
  | i, u, c :: r => if badB i c.n = true then (4, 0, []) else if 64 ≤ c.n then scanB (i + 1) (u + (c.n % 64).toNat * 64 ^ i) r else (0, u + (c.n % 64).toNat * 64 ^ i, r)
def unz (u : Nat) : Int := if u % 2 = 0 then (u : Int) / 2 else -((u : Int) / 2) - 1
def getX (lo hi : Int) (b : Bx) : Int × Bx :=
  if b.e ≠ 0 then (0, b) else if (scanB 0 0 b.p).1 ≠ 0 then (0, ⟨b.p, (scanB 0 0 b.p).1⟩)
  else if unz (scanB 0 0 b.p).2.1 < lo ∨ hi < unz (scanB 0 0 b.p).2.1 then (0, ⟨b.p, 1⟩) else (unz (scanB 0 0 b.p).2.1, ⟨(scanB 0 0 b.p).2.2, 0⟩)
def flagX (b : Bx) : Bool × Bx := (decide ((getX 0 1 b).1 = 1), (getX 0 1 b).2)
def endX (b : Bx) : Int := if b.e = 0 ∧ 0 < b.p.length then 4 else b.e
theorem scan_bad {p : List By} {i u : Nat} (hi : i < p.length) (hb : badB i p[i].n = true) : scanB i u (p.drop i) = (4, 0, []) := by rw [List.drop_eq_getElem_cons hi, scanB, if_pos hb]
theorem scan_go {p : List By} {i u : Nat} (hi : i < p.length) (hb : badB i p[i].n = false) (h : 64 ≤ p[i].n) : scanB i u (p.drop i) = scanB (i + 1) (u + (p[i].n % 64).toNat * 64 ^ i) (p.drop (i + 1)) := by
  rw [List.drop_eq_getElem_cons hi, scanB, if_neg (by simp [hb]), if_pos h]
theorem scan_end {p : List By} {i u : Nat} (hi : i < p.length) (hb : badB i p[i].n = false) (h : ¬ 64 ≤ p[i].n) : scanB i u (p.drop i) = (0, u + (p[i].n % 64).toNat * 64 ^ i, p.drop (i + 1)) := by
  rw [List.drop_eq_getElem_cons hi, scanB, if_neg (by simp [hb]), if_neg h]
theorem get_err {lo hi : Int} {p : List By} {f : Int} {r : Nat × List By} (h : scanB 0 0 p = (f, r)) (hf : f ≠ 0) : getX lo hi ⟨p, 0⟩ = (0, ⟨p, f⟩) := by
  unfold getX; rw [if_neg (by simp), if_pos (by rw [h]; exact hf), h]
theorem get_arg {lo hi : Int} {p q : List By} {u : Nat} (h : scanB 0 0 p = (0, u, q)) (hf : unz u < lo ∨ hi < unz u) : getX lo hi ⟨p, 0⟩ = (0, ⟨p, 1⟩) := by
  unfold getX; rw [if_neg (by simp), if_neg (by rw [h]; simp), if_pos (by rw [h]; exact hf)]
theorem get_ok {lo hi : Int} {p q : List By} {u : Nat} (h : scanB 0 0 p = (0, u, q)) (hf : ¬ (unz u < lo ∨ hi < unz u)) : getX lo hi ⟨p, 0⟩ = (unz u, ⟨q, 0⟩) := by
  unfold getX; rw [if_neg (by simp), if_neg (by rw [h]; simp), if_neg (by rw [h]; exact hf), h]
theorem pow64 (i : Nat) : 64 ^ i = 2 ^ (6 * i) := by rw [Nat.pow_mul]
theorem or_add {i u m : Nat} (hu : u < 64 ^ i) : u ||| m * 64 ^ i = u + m * 64 ^ i := by
  rw [pow64] at hu ⊢
  have := Nat.two_pow_add_eq_or_of_lt hu m
  rw [Nat.mul_comm, Nat.or_comm, ← this]; omega
theorem lim64 {i u m : Nat} (hi : i ≤ 10) (hu : u < 64 ^ i) (hm : m < 64) (h10 : i = 10 → m < 16) : u + m * 64 ^ i < 18446744073709551616 := by
  by_cases h : i = 10
  · subst h; have := h10 rfl; omega
  · have h1 : 64 ^ i ≤ 64 ^ 9 := Nat.pow_le_pow_right (by decide) (by omega)
    have h2 : m * 64 ^ i ≤ 63 * 64 ^ i := Nat.mul_le_mul_right _ (by omega)
    omega
theorem next64 {i u m : Nat} (hu : u < 64 ^ i) (hm : m < 64) : u + m * 64 ^ i < 64 ^ (i + 1) := by
  rw [Nat.pow_succ]
  have h2 : m * 64 ^ i ≤ 63 * 64 ^ i := Nat.mul_le_mul_right _ (by omega)
  omega
theorem or_code {i : Nat} {u : Nat} {c : Int} (hi : i ≤ 10) (hu : u < 64 ^ i) (h0 : 0 ≤ c) (h1 : c < 256) (h10 : i = 10 → c < 16) :
    IntKind.u64.wrap ((((u : Int) % 2 ^ IntKind.u64.bits).toNat ||| (IntKind.u64.wrap (IntKind.u64.wrap (c.tmod 64) * 2 ^ min (6 * i) IntKind.u64.bits) % 2 ^ IntKind.u64.bits).toNat : Nat) : Int) = ((u + (c % 64).toNat * 64 ^ i : Nat) : Int) := by
  obtain ⟨m, hm⟩ : ∃ m : Nat, c % 64 = m := ⟨(c % 64).toNat, by omega⟩
  have hm64 : m < 64 := by omega
  have hm16 : i = 10 → m < 16 := fun q => by have := h10 q; omega
  have hl := lim64 hi hu hm64 hm16
  have hb : IntKind.u64.bits = 64 := rfl
  have e64 : (2 : Int) ^ 64 = 18446744073709551616 := by decide
  rw [Int.tmod_eq_emod_of_nonneg h0, hm, hb, Nat.min_eq_left (by omega), e64]
  have hmm : IntKind.u64.wrap (m : Int) = m := by rw [wrap_u64]; omega
  have hp : (m : Int) * 2 ^ (6 * i) = ((m * 64 ^ i : Nat) : Int) := by rw [pow64]; push_cast; rfl
  rw [hmm, hp]
  have hw : IntKind.u64.wrap ((m * 64 ^ i : Nat) : Int) = ((m * 64 ^ i : Nat) : Int) := by rw [wrap_u64]; omega
  rw [hw]
  have e1 : ((u : Int) % 18446744073709551616).toNat = u := by omega
  have e2 : (((m * 64 ^ i : Nat) : Int) % 18446744073709551616).toNat = m * 64 ^ i := by omega
  rw [e1, e2, or_add hu, Int.toNat_natCast, wrap_u64]
  omega
theorem tn64 (u : Nat) : ((u : Int) % 2 ^ IntKind.u64.bits).toNat = u % 2 ^ IntKind.u64.bits := by rw [show IntKind.u64.bits = 64 from rfl]; omega
theorem or_ex (i u : Nat) (c : Int) : ∃ u2 : Nat, IntKind.u64.wrap ((u % 2 ^ IntKind.u64.bits ||| (IntKind.u64.wrap (IntKind.u64.wrap (c.tmod 64) * 2 ^ min (6 * i) IntKind.u64.bits) % 2 ^ IntKind.u64.bits).toNat : Nat) : Int) = (u2 : Int) ∧ u2 < 18446744073709551616 ∧
    (i ≤ 10 → u < 64 ^ i → 0 ≤ c → c < 256 → badB i c = false → u2 = u + (c % 64).toNat * 64 ^ i) := by
  have hr : ∀ n : Int, 0 ≤ IntKind.u64.wrap n ∧ IntKind.u64.wrap n < 18446744073709551616 := fun n => by rw [wrap_u64]; omega
  have hq := hr ((u % 2 ^ IntKind.u64.bits ||| (IntKind.u64.wrap (IntKind.u64.wrap (c.tmod 64) * 2 ^ min (6 * i) IntKind.u64.bits) % 2 ^ IntKind.u64.bits).toNat : Nat) : Int)
  obtain ⟨u2, h2⟩ := Int.eq_ofNat_of_zero_le hq.1
  refine ⟨u2, h2, by rw [h2] at hq; omega, fun h10 hu h0 h1 hb => ?_⟩
  have hc : i = 10 → c < 16 := fun q => by simp [badB] at hb; omega
  have := or_code h10 hu h0 h1 hc
  rw [tn64, h2] at this; omega
theorem unz_code {u : Nat} (hu : u < 18446744073709551616) :
    IntKind.i64.wrap (((IntKind.i64.wrap ((u : Int).fdiv (2 ^ min 1 IntKind.u64.bits)) % 2 ^ IntKind.i64.bits).toNat ^^^ (IntKind.i64.wrap (-IntKind.i64.wrap (IntKind.u64.wrap ((u % 2 ^ IntKind.u64.bits &&& 1 % 2 ^ IntKind.u64.bits : Nat) : Int))) % 2 ^ IntKind.i64.bits).toNat : Nat) : Int) = unz u := by
  have hb : IntKind.u64.bits = 64 := rfl
  have hb2 : IntKind.i64.bits = 64 := rfl
  have e64 : (2 : Int) ^ 64 = 18446744073709551616 := by decide
  have e1 : ((u : Int) % 18446744073709551616).toNat = u := by omega
  rw [← tn64, hb, hb2, e64, show min 1 64 = 1 from rfl, e1, Int.fdiv_eq_ediv_of_nonneg _ (by decide), show (2 : Int) ^ 1 = 2 from rfl, show 1 % 2 ^ 64 = 1 from by decide, Nat.and_one_is_mod]
  have hw1 : IntKind.i64.wrap ((u : Int) / 2) = (u : Int) / 2 := wrap_in _ (by omega) (by omega)
  rw [hw1, show ((u : Int) / 2 % 18446744073709551616).toNat = u / 2 by omega]
  unfold unz
  by_cases h : u % 2 = 0
  · rw [h, if_pos rfl]
    have : IntKind.i64.wrap (-IntKind.i64.wrap (IntKind.u64.wrap ((0 : Nat) : Int))) = 0 := by decide
    rw [this, show ((0 : Int) % 18446744073709551616).toNat = 0 from rfl, Nat.xor_zero]
    rw [wrap_in _ (by omega) (by omega)]; rfl
  · have h1 : u % 2 = 1 := by omega
    rw [h1, if_neg (by decide)]
    have : IntKind.i64.wrap (-IntKind.i64.wrap (IntKind.u64.wrap ((1 : Nat) : Int))) = -1 := by decide
    rw [this, show ((-1 : Int) % 18446744073709551616).toNat = 18446744073709551615 from rfl]
    have hx : u / 2 ^^^ 18446744073709551615 = 18446744073709551615 - u / 2 := by
      have e := BitVec.toNat_not (x := BitVec.ofNat 64 (u / 2))
      rw [← BitVec.xor_allOnes, BitVec.toNat_xor, BitVec.toNat_ofNat, Nat.mod_eq_of_lt (by omega)] at e
      rw [show (BitVec.allOnes 64).toNat = 18446744073709551615 from rfl] at e
      rw [e]
    rw [hx]
    simp only [IntKind.wrap, IntKind.bits, IntKind.signed]
    simp
    omega
def BoxTo (H : Mem) (k : Nat) (s : Value) (b : Bx) (H' : Mem) : Prop := ∃ s', BoxAt H' k s' b.p b.e ∧ H'.length = H.length ∧ (∀ i, i ≠ k → H'[i]? = H[i]?) ∧ ∀ c, blkOf s' = some c → blkOf s = some c
theorem BoxTo.same {H : Mem} {k : Nat} {s : Value} {p : List By} {e : Int} (h : BoxAt H k s p e) : BoxTo H k s ⟨p, e⟩ H := ⟨s, h, rfl, fun _ _ => rfl, fun _ q => q⟩
theorem BoxTo.err {H : Mem} {k : Nat} {s : Value} {p : List By} {e : Int} (h : BoxAt H k s p e) (f : Int) : BoxTo H k s ⟨p, f⟩ (H.set k (.cells false [s, .int .i64 f])) :=
  ⟨s, ⟨List.getElem?_set_self h.lt, h.row.set h.ne _, h.own.set h.ne _, h.ne⟩, by simp, fun i hi => List.getElem?_set_ne (Ne.symm hi), fun _ q => q⟩
theorem BoxTo.cut {H : Mem} {k : Nat} {s s2 : Value} {p p2 : List By} {e : Int} (h : BoxAt H k s p e) (h2 : RowAt H s2 p2) (hb : blkOf s2 = blkOf s) : BoxTo H k s ⟨p2, e⟩ (H.set k (.cells false [s2, .int .i64 e])) :=
  ⟨s2, ⟨List.getElem?_set_self h.lt, h2.set (hb ▸ h.ne) _, (show Own H s2 from fun b hq => h.own b (hb ▸ hq)).set (hb ▸ h.ne) _, hb ▸ h.ne⟩, by simp, fun i hi => List.getElem?_set_ne (Ne.symm hi), fun c q => hb ▸ q⟩
theorem slice_by {H : Mem} {s : Value} {l : List By} (h : RowAt H s l) {i : Nat} (hi : i < l.length) : ∃ s2, absSlice Tryd.prog H 72 s (some (.int .i64 ((i : Int) + 1))) none none = some s2 ∧ RowAt H s2 (l.drop (i + 1)) ∧ blkOf s2 = blkOf s := by
  rcases h with ⟨_, rfl⟩ | ⟨b, o, ro, vs, rfl, h2, h3, h4⟩
  · simp at hi
  · have hk : Cel.k By = 1 := rfl
    rw [hk, Nat.mul_one] at h3 h4
    refine ⟨.slice (some ⟨b, o + (i + 1), none⟩) (l.length - (i + 1)) 1, ?_, .inr ⟨b, o + (i + 1), ro, vs, by rw [hk, List.length_drop], h2, by rw [hk, List.length_drop]; omega, ?_⟩, rfl⟩
    · have hb : absBounds l.length l.length (some (.int .i64 ((i : Int) + 1))) none none = some (i + 1, l.length, l.length) := by
        have e0 : (0 : Int) ≤ (i : Int) + 1 := by omega
        have e1 : (i : Int) + 1 ≤ l.length := by omega
        have e2 : ((i : Int) + 1).toNat = i + 1 := by omega
        unfold absBounds; simp [absBound, e0, e1, e2]
      unfold absSlice
      simp [Tryd.underlying72, hk, hb]
    · rw [hk, Nat.mul_one, List.length_drop, ← List.drop_drop]
      have e := congrArg (List.drop (i + 1)) h4
      rw [List.drop_take] at e
      rw [e]
      have := rowV_drop (α := By) (i + 1) l
      rw [hk, Nat.mul_one] at this; exact this
end Go.Den
namespace Go.Den
open Go Go.Proofs
set_option maxRecDepth 100000
set_option maxHeartbeats 1000000
set_option linter.all false
attribute [local simp] evOps evOp absOp absBox absAlloc absLoad absStore absField absCells absBinOp absBin absInt absShift absUn absPick absNil absExtract absBuild absPlaces Instr.fill absBuiltin absMinMax plainV plainT allA flat cells_agg cells_int cells_bool cells_str cells_ptr cells_sl cells_map one_int one_bool one_str one_ptr one_sl one_map Act.eval Act.put Region.wanted yielded splice absCall TypeDesc.isRow
theorem pfail_s (f : Int) {k : Nat} {s : Value} {p : List By} {e : Int} {H : Mem} (hB : BoxAt H k s p e) : FSem Tryd.prog [0] 73 #[.pointer (some ⟨k, 0, none⟩), .int .i64 f] H fun v H' => ∃ e', e' = (if e = 0 then f else e) ∧ BoxTo H k s ⟨p, e'⟩ H' := by
  refine FSem.ofK Tryd.func73 rfl ?_
  refine DK.from (b' := ⟨#[.pointer (some ⟨k, 0, none⟩), .int .i64 f, undef, undef, undef, undef, undef, undef, undef, undef, undef, undef, undef], []⟩) (by kernel_rfl) ?_
  have i := trivial
  have a := trivial
  have b := trivial
  have c := trivial
  have d := trivial
  have g := trivial
  replace i := hB.cell
  replace a := cellr i
  replace b := hB.row.cells.1
  replace c := hB.row.cells.2
  replace d := hB.row.same.2
  replace g := lenBy hB.row
  refine DK.seq ?_
  refine DK.region (is := [0, 1, 2, 3, 4]) (by kernel_rfl) rfl ?_
  refine WK.run [0, 1, 2, 3] (by simp [i, a, b, c, d, g]; constructor <;> rfl) ?_
  refine WK.run [4] (by simp [i, a, b, c, d, g]; constructor <;> rfl) ?_
  refine WK.nil ?_
  refine DK.test rfl rfl (fun h => ?_) (fun h => ?_)
  · try simp only [h]
    replace h := Tr.out h
    have q0 : e = 0 := h
    refine DK.region (is := [0, 1, 2, 3, 4]) (by kernel_rfl) rfl ?_
    refine WK.run [0, 1, 2, 3] (by simp [i, a, b, c, d, g]; constructor <;> rfl) ?_
    refine WK.run [4] (by simp [i, a, b, c, d, g]; constructor <;> rfl) ?_
    refine WK.nil ?_
    refine And.intro (Or.inl rfl) ?_
    refine ⟨_, by simp [absAnswer, absResults, absResult, Tryd.f73]; rfl, ?_⟩
    first
      | exact ⟨f, (if_pos q0).symm, BoxTo.err hB f⟩
      | exact ⟨e, (if_neg q0).symm, BoxTo.same hB⟩
  try simp only [h]
  replace h := Fa.out h
  have q0 : ¬ e = 0 := h
  refine DK.skip ?_
  refine And.intro (Or.inl rfl) ?_
  refine ⟨_, by simp [absAnswer, absResults, absResult, Tryd.f73]; rfl, ?_⟩
  first
    | exact ⟨f, (if_pos q0).symm, BoxTo.err hB f⟩
    | exact ⟨e, (if_neg q0).symm, BoxTo.same hB⟩
theorem pfault_s {k : Nat} {s : Value} {p : List By} {e : Int} {H : Mem} (hB : BoxAt H k s p e) : FSem Tryd.prog [0] 75 #[.pointer (some ⟨k, 0, none⟩)] H fun v H' => v = .int .i64 e ∧ H' = H := by
  refine FSem.plainT ?_
  refine FSem.ofK Tryd.func75 rfl ?_
  refine DK.from (b' := ⟨#[.pointer (some ⟨k, 0, none⟩), undef, undef, undef, undef, undef, undef, undef, undef], []⟩) (by kernel_rfl) ?_
  have g := trivial
  have a := trivial
  have b := trivial
  have c := trivial
  have d := trivial
  have f := trivial
  replace g := hB.cell
  replace a := cellr g
  replace b := hB.row.cells.1
  replace c := hB.row.cells.2
  replace d := hB.row.same.2
  replace f := lenBy hB.row
  refine DK.seq ?_
  refine DK.region (is := [0]) (by kernel_rfl) rfl ?_
  refine WK.run [0] (by simp [g, a, b, c, d, f]; constructor <;> rfl) ?_
  refine WK.nil ?_
  refine DK.seq ?_
  refine DK.seq ?_
  refine DK.region (is := [0, 1]) (by kernel_rfl) rfl ?_
  refine WK.run [0, 1] (by simp [g, a, b, c, d, f]; constructor <;> rfl) ?_
  refine WK.nil ?_
  refine DK.test rfl rfl (fun h => ?_) (fun h => ?_)
  · try simp only [h]
    replace h := Tr.out h
    cases h
  try simp only [h]
  replace h := Fa.out h
  refine DK.skip ?_
  refine DK.seq ?_
  refine DK.region (is := [0, 1, 2, 3, 4]) (by kernel_rfl) rfl ?_
  refine WK.run [0, 1, 2, 3] (by simp [g, a, b, c, d, f]; constructor <;> rfl) ?_
  refine WK.run [4] (by simp [g, a, b, c, d, f]; constructor <;> rfl) ?_
  refine WK.nil ?_
  refine DK.ret ?_
  refine And.intro (Or.inr rfl) ?_
  refine ⟨_, by simp [absAnswer, absResults, absResult, Tryd.f75]; rfl, ?_⟩
  exact ⟨⟨[], (List.append_nil _).symm⟩, by simp, by simp⟩
theorem pend_s {k : Nat} {s : Value} {p : List By} {e : Int} {H : Mem} (hB : BoxAt H k s p e) : FSem Tryd.prog [0] 51 #[.pointer (some ⟨k, 0, none⟩)] H fun v H' => v = .int .i64 (endX ⟨p, e⟩) ∧ H' = H := by
  refine FSem.plainT ?_
  refine FSem.ofK Tryd.func51 rfl ?_
  refine DK.from (b' := ⟨#[.pointer (some ⟨k, 0, none⟩), undef, undef, undef, undef, undef, undef, undef, undef, undef, undef, undef, undef, undef, undef, undef, undef, undef, undef, undef, undef, undef], []⟩) (by kernel_rfl) ?_
  have g := trivial
  have a := trivial
  have b := trivial
  have c := trivial
  have d := trivial
  have f := trivial
  replace g := hB.cell
  replace a := cellr g
  replace b := hB.row.cells.1
  replace c := hB.row.cells.2
  replace d := hB.row.same.2
  replace f := lenBy hB.row
  refine DK.seq ?_
  refine DK.region (is := [0]) (by kernel_rfl) rfl ?_
  refine WK.run [0] (by simp [g, a, b, c, d, f]; constructor <;> rfl) ?_
  refine WK.nil ?_
  refine DK.seq ?_
  refine DK.seq ?_
  refine DK.region (is := [0, 1, 2, 3, 4, 5, 6, 7, 8, 9, 10, 11, 12, 13, 14, 15, 16]) (by kernel_rfl) rfl ?_
  refine WK.run [0, 1, 2] (by simp [g, a, b, c, d, f]; constructor <;> rfl) ?_
  refine WK.split (t := 5) rfl (fun h => ?_) (fun h => ?_)
  · try simp only [h]
    replace h := Tr.out h
    refine WK.run [3, 4, 5, 6] (by simp [g, a, b, c, d, f]; constructor <;> rfl) ?_
    refine WK.run [7, 8, 9] (by simp [g, a, b, c, d, f]; constructor <;> rfl) ?_
    refine WK.split (t := 12) rfl (fun h => ?_) (fun h => ?_)
    · try simp only [h]
      replace h := Tr.out h
      refine WK.run [10, 11, 12, 13] (by simp [g, a, b, c, d, f]; constructor <;> rfl) ?_
      refine WK.run [14, 15, 16] (by simp [g, a, b, c, d, f]; constructor <;> rfl) ?_
      refine WK.nil ?_
      refine DK.test rfl rfl (fun h => ?_) (fun h => ?_)
      · try simp only [h]
        replace h := Tr.out h
        refine DK.seq ?_
        refine DK.region (is := [0]) (by kernel_rfl) rfl ?_
        refine WK.run [0] (by simp [g, a, b, c, d, f]; constructor <;> rfl) ?_
        refine WK.nil ?_
        refine DK.ret ?_
        refine And.intro (Or.inr rfl) ?_
        refine ⟨_, by simp [absAnswer, absResults, absResult, Tryd.f51]; rfl, ?_⟩
        refine ⟨⟨[], (List.append_nil _).symm⟩, by simp, ?_⟩
        unfold endX; simp_all
      try simp only [h]
      replace h := Fa.out h
      refine DK.skip ?_
      refine DK.seq ?_
      refine DK.region (is := [0, 1, 2]) (by kernel_rfl) rfl ?_
      refine WK.run [0] (by simp [g, a, b, c, d, f]; constructor <;> rfl) ?_
      refine WK.call rfl (by simp [g, a, b, c, d, f]) (by simp [Tryd.func75, Tryd.f75, g, a, b, c, d, f]; constructor <;> rfl) ?_
      refine FSem.mono (pfault_s hB) ?_
      rintro _ _ ⟨rfl, hq⟩
      subst hq
      refine WK.run [2] (by simp [g, a, b, c, d, f]; constructor <;> rfl) ?_
      refine WK.nil ?_
      refine DK.ret ?_
      refine And.intro (Or.inr rfl) ?_
      refine ⟨_, by simp [absAnswer, absResults, absResult, Tryd.f51]; rfl, ?_⟩
      refine ⟨⟨[], (List.append_nil _).symm⟩, by simp, ?_⟩
      unfold endX; simp_all
    try simp only [h]
    replace h := Fa.out h
    refine WK.run [10, 11, 12, 13] (by simp [g, a, b, c, d, f]; constructor <;> rfl) ?_
    refine WK.run [14, 15, 16] (by simp [g, a, b, c, d, f]; constructor <;> rfl) ?_
    refine WK.nil ?_
    refine DK.no rfl rfl ?_
    refine DK.skip ?_
    refine DK.seq ?_
    refine DK.region (is := [0, 1, 2]) (by kernel_rfl) rfl ?_
    refine WK.run [0] (by simp [g, a, b, c, d, f]; constructor <;> rfl) ?_
    refine WK.call rfl (by simp [g, a, b, c, d, f]) (by simp [Tryd.func75, Tryd.f75, g, a, b, c, d, f]; constructor <;> rfl) ?_
    refine FSem.mono (pfault_s hB) ?_
    rintro _ _ ⟨rfl, hq⟩
    subst hq
    refine WK.run [2] (by simp [g, a, b, c, d, f]; constructor <;> rfl) ?_
    refine WK.nil ?_
    refine DK.ret ?_
    refine And.intro (Or.inr rfl) ?_
    refine ⟨_, by simp [absAnswer, absResults, absResult, Tryd.f51]; rfl, ?_⟩
    refine ⟨⟨[], (List.append_nil _).symm⟩, by simp, ?_⟩
    unfold endX; simp_all
  try simp only [h]
  replace h := Fa.out h
  cases h
theorem pget_s (lo hi : Int) {k : Nat} {s : Value} {p : List By} {e : Int} {H : Mem} (hB : BoxAt H k s p e) (hp : ByOk p) (hn : p.length ≤ 1000000000000) : FSem Tryd.prog [0] 48 #[.pointer (some ⟨k, 0, none⟩), .int .i64 lo, .int .i64 hi] H fun v H' => v = .int .i64 (getX lo hi ⟨p, e⟩).1 ∧ BoxTo H k s (getX lo hi ⟨p, e⟩).2 H' := by
  refine FSem.ofK Tryd.func48 rfl ?_
  refine DK.from (b' := ⟨#[.pointer (some ⟨k, 0, none⟩), .int .i64 lo, .int .i64 hi, undef, undef, undef, undef, undef, undef, undef, undef, undef, undef, undef, undef, undef, undef, undef, undef, undef, undef, undef, undef, undef, undef, undef, undef, undef, undef, undef, undef, undef, undef, undef, undef, undef, undef, undef, undef, undef, undef, undef, undef, undef, undef, undef, undef, undef, undef, undef, undef, undef, undef, undef, undef, undef, undef, undef, undef, undef, undef, undef, undef, undef, undef, undef, undef, undef, undef, undef, undef, undef, undef, undef, undef, undef, undef, undef, undef, undef, undef, undef, undef, undef, undef, undef, undef, undef, undef], []⟩) (by kernel_rfl) ?_
  have F := trivial
  have c := trivial
  have d := trivial
  have g := trivial
  have j := trivial
  have l := trivial
  have a := trivial
  have m := trivial
  have o := trivial
  have q := trivial
  have w := trivial
  have b := trivial
  have x := trivial
  have y := trivial
  have D := trivial
  have E := trivial
  have z := trivial
  have A := trivial
  have B := trivial
  have C := trivial
  have K := trivial
  replace F := hB.cell
  replace c := cellr F
  replace d := hB.row.cells.1
  replace g := hB.row.cells.2
  replace j := hB.row.same.2
  replace l := lenBy hB.row
  refine DK.seq ?_
  refine DK.region (is := [0]) (by kernel_rfl) rfl ?_
  refine WK.run [0] (by simp [F, c, d, g, j, l, a, m, o, q, w, b, x, y, D, E, z, A, B, C, K]; constructor <;> rfl) ?_
  refine WK.nil ?_
  refine DK.seq ?_
  refine DK.seq ?_
  refine DK.region (is := [0, 1, 2, 3, 4, 5, 6, 7, 8]) (by kernel_rfl) rfl ?_
  refine WK.run [0, 1, 2] (by simp [F, c, d, g, j, l, a, m, o, q, w, b, x, y, D, E, z, A, B, C, K]; constructor <;> rfl) ?_
  refine WK.split (t := 13) rfl (fun h => ?_) (fun h => ?_)
  · try simp only [h]
    replace h := Tr.out h
    cases h
  try simp only [h]
  replace h := Fa.out h
  refine WK.run [3, 4, 5, 6] (by simp [F, c, d, g, j, l, a, m, o, q, w, b, x, y, D, E, z, A, B, C, K]; constructor <;> rfl) ?_
  refine WK.run [7, 8] (by simp [F, c, d, g, j, l, a, m, o, q, w, b, x, y, D, E, z, A, B, C, K]; constructor <;> rfl) ?_
  refine WK.nil ?_
  refine DK.test rfl rfl (fun h => ?_) (fun h => ?_)
  · try simp only [h]
    replace h := Tr.out h
    have he : ¬ e = 0 := by simpa using h
    have hX := BoxTo.same hB
    have hres : getX lo hi ⟨p, e⟩ = (0, ⟨p, e⟩) := by unfold getX; rw [if_pos he]
    refine DK.seq ?_
    refine DK.region (is := [0]) (by kernel_rfl) rfl ?_
    refine WK.run [0] (by simp [F, c, d, g, j, l, a, m, o, q, w, b, x, y, D, E, z, A, B, C, K]; constructor <;> rfl) ?_
    refine WK.nil ?_
    refine DK.ret ?_
    refine And.intro (Or.inr rfl) ?_
    refine ⟨_, by simp [absAnswer, absResults, absResult, Tryd.f48]; rfl, ?_⟩
    exact ⟨by rw [hres], by rw [hres]; exact hX⟩
  try simp only [h]
  replace h := Fa.out h
  have he : e = 0 := by simpa using h
  refine DK.skip ?_
  refine DK.seq ?_
  refine DK.region (is := [0]) (by kernel_rfl) rfl ?_
  refine WK.run [0] (by simp [F, c, d, g, j, l, a, m, o, q, w, b, x, y, D, E, z, A, B, C, K]; constructor <;> rfl) ?_
  refine WK.nil ?_
  refine DK.seq ?_
  refine DK.seq ?_
  refine DK.region (is := [0, 1, 2, 3, 4, 5]) (by kernel_rfl) rfl ?_
  refine WK.run [0, 1, 2, 3] (by simp [F, c, d, g, j, l, a, m, o, q, w, b, x, y, D, E, z, A, B, C, K]; constructor <;> rfl) ?_
  refine WK.run [4, 5] (by simp [F, c, d, g, j, l, a, m, o, q, w, b, x, y, D, E, z, A, B, C, K]; constructor <;> rfl) ?_
  refine WK.nil ?_
  refine DK.block ?_
  refine DK.loopFM [6, 7, 8, 9, 10, 25, 26, 27, 28, 29, 30, 31, 32, 33, 34, 35, 36, 37, 38, 39, 40, 41, 42, 43, 44, 45, 46, 47, 48, 49, 50, 51, 52, 53, 54, 55, 56, 57, 58, 59, 60, 61, 62, 63, 64, 65, 66, 67, 68, 69, 70, 71, 72, 73, 74, 75, 76, 77, 78, 79, 80, 81, 82, 83, 84, 85, 86] [7, 25] (fun fl vs => ∃ (i u : Nat), vs = [.int .u64 (u : Int), .int .i64 (i : Int)] ∧ i ≤ p.length ∧ i ≤ 10 ∧ u < 64 ^ i ∧ scanB i u (p.drop i) = scanB 0 0 p ∧ fl = p.length - i) (p.length) (by kernel_rfl) ?_ ?_
  · refine ⟨0, 0, rfl, ?_⟩
    exact ⟨by omega, by omega, by simp, rfl, by omega⟩
  rintro fl f1j ⟨i, u, hv, hf⟩
  obtain ⟨hj0, hj1, hu, hsc, hfl⟩ := hf
  simp only [List.map_cons, List.map_nil, List.cons.injEq, and_true] at hv
  obtain ⟨hv1_0, hv1_1⟩ := hv
  refine DK.from ((setL_S (by decide) _ _).trans (by simp [setS, hv1_0, hv1_1]; exact rfl)) ?_
  refine DK.seq ?_
  refine DK.region (is := [0]) (by kernel_rfl) rfl ?_
  refine WK.run [0] (by simp [F, c, d, g, j, l, a, m, o, q, w, b, x, y, D, E, z, A, B, C, K]; constructor <;> rfl) ?_
  refine WK.nil ?_
  refine DK.seq ?_
  refine DK.test rfl rfl (fun h => ?_) (fun h => ?_)
  · try simp only [h]
    replace h := Tr.out h
    have hil : i < p.length := by omega
    obtain ⟨hc0, hc1⟩ := hp _ (List.getElem_mem hil)
    replace w : IntKind.i64.wrap ((i : Int) + 1) = ((i + 1 : Nat) : Int) := by rw [wrap_in _ (by omega) (by omega)]; rfl
    obtain ⟨bb, ob, rob, vs, hidx0, hbp0, hle0, hge0⟩ := hB.row.idx (T := 72) (e := 5) (i := (i : Int)) (by omega) (by simpa using hil) Tryd.underlying72 inf5 sz5
    replace a : absIndexAddr Tryd.prog H 72 s (.int .i64 (i : Int)) = some (.pointer (some ⟨bb, ob + i, none⟩)) := by simpa [Cel.k] using hidx0
    replace m := hbp0
    replace q : ob + i + 1 ≤ vs.length := by simpa [Cel.k] using hle0
    replace o : List.take 1 (List.drop (ob + i) vs) = [.int .u8 (p[i]).n] := by simpa [Cel.k, Cel.f] using hge0
    refine DK.skip ?_
    refine DK.seq ?_
    refine DK.block ?_
    refine DK.seq ?_
    refine DK.region (is := [0, 1, 2, 3, 4]) (by kernel_rfl) rfl ?_
    refine WK.run [0, 1, 2, 3] (by simp [F, c, d, g, j, l, a, m, o, q, w, b, x, y, D, E, z, A, B, C, K]; constructor <;> rfl) ?_
    refine WK.run [4] (by simp [F, c, d, g, j, l, a, m, o, q, w, b, x, y, D, E, z, A, B, C, K]; constructor <;> rfl) ?_
    refine WK.nil ?_
    refine DK.seq ?_
    refine DK.block ?_
    refine DK.meetF [30, 31, 32, 33, 34, 35, 36, 37, 38, 39, 40, 41, 42, 43, 44] [30] (fun vs => ∃ (r : Bool), vs = [.bool r] ∧ r = badB i (p[i]).n) ?_ ?_
    · skip
      refine DK.seq ?_
      refine DK.region (is := [0, 1, 2]) (by kernel_rfl) rfl ?_
      refine WK.run [0, 1, 2] (by simp [F, c, d, g, j, l, a, m, o, q, w, b, x, y, D, E, z, A, B, C, K]; constructor <;> rfl) ?_
      refine WK.nil ?_
      refine DK.test rfl rfl (fun h => ?_) (fun h => ?_)
      · try simp only [h]
        replace h := Tr.out h
        refine DK.skip ?_
        refine ⟨by kernel_rfl, rfl, _, rfl, ?_⟩
        unfold badB; rw [Bool.eq_iff_iff]; simp; omega
      try simp only [h]
      replace h := Fa.out h
      refine DK.seq ?_
      refine DK.region (is := [0, 1, 2, 3, 4, 5, 6]) (by kernel_rfl) rfl ?_
      refine WK.run [0, 1, 2] (by simp [F, c, d, g, j, l, a, m, o, q, w, b, x, y, D, E, z, A, B, C, K]; constructor <;> rfl) ?_
      refine WK.split (t := 35) rfl (fun h => ?_) (fun h => ?_)
      · try simp only [h]
        replace h := Tr.out h
        refine WK.run [3, 4, 5, 6] (by simp [F, c, d, g, j, l, a, m, o, q, w, b, x, y, D, E, z, A, B, C, K]; constructor <;> rfl) ?_
        refine WK.nil ?_
        refine DK.test rfl rfl (fun h => ?_) (fun h => ?_)
        · try simp only [h]
          replace h := Tr.out h
          refine DK.skip ?_
          refine ⟨by kernel_rfl, rfl, _, rfl, ?_⟩
          unfold badB; rw [Bool.eq_iff_iff]; simp; omega
        try simp only [h]
        replace h := Fa.out h
        refine DK.region (is := [0, 1, 2, 3, 4, 5, 6]) (by kernel_rfl) rfl ?_
        refine WK.run [0, 1, 2] (by simp [F, c, d, g, j, l, a, m, o, q, w, b, x, y, D, E, z, A, B, C, K]; constructor <;> rfl) ?_
        refine WK.split (t := 41) rfl (fun h => ?_) (fun h => ?_)
        · try simp only [h]
          replace h := Tr.out h
          refine WK.run [3, 4, 5, 6] (by simp [F, c, d, g, j, l, a, m, o, q, w, b, x, y, D, E, z, A, B, C, K]; constructor <;> rfl) ?_
          refine WK.nil ?_
          refine ⟨by kernel_rfl, rfl, _, rfl, ?_⟩
          unfold badB; rw [Bool.eq_iff_iff]; simp; omega
        try simp only [h]
        replace h := Fa.out h
        refine WK.run [3, 4, 5, 6] (by simp [F, c, d, g, j, l, a, m, o, q, w, b, x, y, D, E, z, A, B, C, K]; constructor <;> rfl) ?_
        refine WK.nil ?_
        refine ⟨by kernel_rfl, rfl, _, rfl, ?_⟩
        unfold badB; rw [Bool.eq_iff_iff]; simp; omega
      try simp only [h]
      replace h := Fa.out h
      refine WK.run [3, 4, 5, 6] (by simp [F, c, d, g, j, l, a, m, o, q, w, b, x, y, D, E, z, A, B, C, K]; constructor <;> rfl) ?_
      refine WK.nil ?_
      refine DK.no rfl rfl ?_
      refine DK.region (is := [0, 1, 2, 3, 4, 5, 6]) (by kernel_rfl) rfl ?_
      refine WK.run [0, 1, 2] (by simp [F, c, d, g, j, l, a, m, o, q, w, b, x, y, D, E, z, A, B, C, K]; constructor <;> rfl) ?_
      refine WK.split (t := 41) rfl (fun h => ?_) (fun h => ?_)
      · try simp only [h]
        replace h := Tr.out h
        refine WK.run [3, 4, 5, 6] (by simp [F, c, d, g, j, l, a, m, o, q, w, b, x, y, D, E, z, A, B, C, K]; constructor <;> rfl) ?_
        refine WK.nil ?_
        refine ⟨by kernel_rfl, rfl, _, rfl, ?_⟩
        unfold badB; rw [Bool.eq_iff_iff]; simp; omega
      try simp only [h]
      replace h := Fa.out h
      refine WK.run [3, 4, 5, 6] (by simp [F, c, d, g, j, l, a, m, o, q, w, b, x, y, D, E, z, A, B, C, K]; constructor <;> rfl) ?_
      refine WK.nil ?_
      refine ⟨by kernel_rfl, rfl, _, rfl, ?_⟩
      unfold badB; rw [Bool.eq_iff_iff]; simp; omega
    rintro f2j ⟨r, hv, hf⟩
    have hbad := hf
    replace b : IntKind.i64.wrap (6 * (i : Int)) = 6 * (i : Int) := wrap_in _ (by omega) (by omega)
    replace z : ¬ (6 * (i : Int) < 0) := by omega
    replace K : (6 * (i : Int)).toNat = 6 * i := by omega
    obtain ⟨u2, hor0, hu2, hu3⟩ := or_ex i u (p[i]).n
    replace x := hor0
    replace y := unz_code hu2
    have hu3 := hu3 hj1 hu hc0 hc1
    simp only [List.map_cons, List.map_nil, List.cons.injEq, and_true] at hv
    have hv2_0 := hv
    refine DK.from ((setL_S (by decide) _ _).trans (by simp [setS, hv2_0]; exact rfl)) ?_
    refine DK.test rfl rfl (fun h => ?_) (fun h => ?_)
    · try simp only [h]
      replace h := Tr.out h
      refine DK.seq ?_
      refine DK.region (is := [0, 1]) (by kernel_rfl) rfl ?_
      refine WK.run [0] (by simp [F, c, d, g, j, l, a, m, o, q, w, b, x, y, D, E, z, A, B, C, K]; constructor <;> rfl) ?_
      refine WK.call rfl (by simp [F, c, d, g, j, l, a, m, o, q, w, b, x, y, D, E, z, A, B, C, K]) (by simp [Tryd.func73, Tryd.f73, F, c, d, g, j, l, a, m, o, q, w, b, x, y, D, E, z, A, B, C, K]; constructor <;> rfl) ?_
      refine FSem.mono (pfail_s 4 hB) ?_
      rintro _ H2 ⟨e2, he2, hX⟩
      rw [if_pos he] at he2
      subst he2
      refine WK.nil ?_
      have hres : getX lo hi ⟨p, e⟩ = (0, ⟨p, 4⟩) := by
        rw [he]; rw [scan_bad hil (by rw [← hbad]; assumption)] at hsc; exact get_err hsc.symm (by decide)
      refine DK.seq ?_
      refine DK.region (is := [0]) (by kernel_rfl) rfl ?_
      refine WK.run [0] (by simp [F, c, d, g, j, l, a, m, o, q, w, b, x, y, D, E, z, A, B, C, K]; constructor <;> rfl) ?_
      refine WK.nil ?_
      refine DK.ret ?_
      refine And.intro (Or.inr rfl) ?_
      refine ⟨_, by simp [absAnswer, absResults, absResult, Tryd.f48]; rfl, ?_⟩
      exact ⟨by rw [hres], by rw [hres]; exact hX⟩
    try simp only [h]
    replace h := Fa.out h
    refine DK.skip ?_
    refine DK.seq ?_
    refine DK.region (is := [0, 1, 2, 3, 4, 5, 6, 7, 8]) (by kernel_rfl) rfl ?_
    refine WK.run [0, 1, 2, 3] (by simp [F, c, d, g, j, l, a, m, o, q, w, b, x, y, D, E, z, A, B, C, K]; constructor <;> rfl) ?_
    refine WK.run [4, 5, 6, 7] (by simp [F, c, d, g, j, l, a, m, o, q, w, b, x, y, D, E, z, A, B, C, K]; constructor <;> rfl) ?_
    refine WK.run [8] (by simp [F, c, d, g, j, l, a, m, o, q, w, b, x, y, D, E, z, A, B, C, K]; constructor <;> rfl) ?_
    refine WK.nil ?_
    refine DK.seq ?_
    refine DK.seq ?_
    refine DK.region (is := [0, 1]) (by kernel_rfl) rfl ?_
    refine WK.run [0, 1] (by simp [F, c, d, g, j, l, a, m, o, q, w, b, x, y, D, E, z, A, B, C, K]; constructor <;> rfl) ?_
    refine WK.nil ?_
    refine DK.test rfl rfl (fun h => ?_) (fun h => ?_)
    · try simp only [h]
      replace h := Tr.out h
      have hnb : badB i (p[i]).n = false := by rw [← hbad]; assumption
      have hgo := scan_go (u := u) hil hnb h
      rw [← hu3 hnb, hsc] at hgo
      have hlt2 : u2 < 64 ^ (i + 1) := by rw [hu3 hnb]; exact next64 hu (by omega)
      have hi10 : i + 1 ≤ 10 := by simp [badB] at hnb; omega
      refine DK.exit ?_
      refine DK.region (is := [0, 1]) (by kernel_rfl) rfl ?_
      refine WK.run [0, 1] (by simp [F, c, d, g, j, l, a, m, o, q, w, b, x, y, D, E, z, A, B, C, K]; constructor <;> rfl) ?_
      refine WK.nil ?_
      refine ⟨by kernel_rfl, rfl, p.length - (i + 1), ?_, i + 1, u2, rfl, ?_⟩
      · omega
      · exact ⟨by omega, hi10, hlt2, hgo.symm, rfl⟩
    try simp only [h]
    replace h := Fa.out h
    have hnb : badB i (p[i]).n = false := by rw [← hbad]; assumption
    have hend := scan_end (u := u) hil hnb h
    rw [← hu3 hnb, hsc] at hend
    refine DK.skip ?_
    refine DK.seq ?_
    refine DK.region (is := [0, 1, 2, 3, 4, 5, 6, 7, 8]) (by kernel_rfl) rfl ?_
    refine WK.run [0, 1, 2, 3] (by simp [F, c, d, g, j, l, a, m, o, q, w, b, x, y, D, E, z, A, B, C, K]; constructor <;> rfl) ?_
    refine WK.run [4, 5, 6, 7] (by simp [F, c, d, g, j, l, a, m, o, q, w, b, x, y, D, E, z, A, B, C, K]; constructor <;> rfl) ?_
    refine WK.run [8] (by simp [F, c, d, g, j, l, a, m, o, q, w, b, x, y, D, E, z, A, B, C, K]; constructor <;> rfl) ?_
    refine WK.nil ?_
    obtain ⟨s2, hsl0, hrow2, hblk2⟩ := slice_by hB.row hil
    replace A := hsl0
    replace B := hrow2.cells.1
    replace C := hrow2.cells.2
    have hX := BoxTo.cut hB hrow2 hblk2
    refine DK.seq ?_
    refine DK.seq ?_
    refine DK.region (is := [0, 1, 2, 3, 4, 5, 6, 7]) (by kernel_rfl) rfl ?_
    refine WK.run [0, 1, 2, 3] (by simp [F, c, d, g, j, l, a, m, o, q, w, b, x, y, D, E, z, A, B, C, K]; constructor <;> rfl) ?_
    refine WK.split (t := 68) rfl (fun h => ?_) (fun h => ?_)
    · try simp only [h]
      replace h := Tr.out h
      refine WK.run [4, 5, 6, 7] (by simp [F, c, d, g, j, l, a, m, o, q, w, b, x, y, D, E, z, A, B, C, K]; constructor <;> rfl) ?_
      refine WK.nil ?_
      refine DK.yes rfl rfl ?_
      refine DK.seq ?_
      refine DK.region (is := [0, 1]) (by kernel_rfl) rfl ?_
      refine WK.run [0] (by simp [F, c, d, g, j, l, a, m, o, q, w, b, x, y, D, E, z, A, B, C, K]; constructor <;> rfl) ?_
      refine WK.call rfl (by simp [F, c, d, g, j, l, a, m, o, q, w, b, x, y, D, E, z, A, B, C, K]) (by simp [Tryd.func73, Tryd.f73, F, c, d, g, j, l, a, m, o, q, w, b, x, y, D, E, z, A, B, C, K]; constructor <;> rfl) ?_
      refine FSem.mono (pfail_s 1 hB) ?_
      rintro _ H2 ⟨e2, he2, hX⟩
      rw [if_pos he] at he2
      subst he2
      refine WK.nil ?_
      have hres : getX lo hi ⟨p, e⟩ = (0, ⟨p, 1⟩) := by
        rw [he]; exact get_arg hend (by omega)
      refine DK.seq ?_
      refine DK.region (is := [0]) (by kernel_rfl) rfl ?_
      refine WK.run [0] (by simp [F, c, d, g, j, l, a, m, o, q, w, b, x, y, D, E, z, A, B, C, K]; constructor <;> rfl) ?_
      refine WK.nil ?_
      refine DK.ret ?_
      refine And.intro (Or.inr rfl) ?_
      refine ⟨_, by simp [absAnswer, absResults, absResult, Tryd.f48]; rfl, ?_⟩
      exact ⟨by rw [hres], by rw [hres]; exact hX⟩
    try simp only [h]
    replace h := Fa.out h
    refine WK.run [4, 5, 6, 7] (by simp [F, c, d, g, j, l, a, m, o, q, w, b, x, y, D, E, z, A, B, C, K]; constructor <;> rfl) ?_
    refine WK.nil ?_
    refine DK.test rfl rfl (fun h => ?_) (fun h => ?_)
    · try simp only [h]
      replace h := Tr.out h
      refine DK.seq ?_
      refine DK.region (is := [0, 1]) (by kernel_rfl) rfl ?_
      refine WK.run [0] (by simp [F, c, d, g, j, l, a, m, o, q, w, b, x, y, D, E, z, A, B, C, K]; constructor <;> rfl) ?_
      refine WK.call rfl (by simp [F, c, d, g, j, l, a, m, o, q, w, b, x, y, D, E, z, A, B, C, K]) (by simp [Tryd.func73, Tryd.f73, F, c, d, g, j, l, a, m, o, q, w, b, x, y, D, E, z, A, B, C, K]; constructor <;> rfl) ?_
      refine FSem.mono (pfail_s 1 hB) ?_
      rintro _ H2 ⟨e2, he2, hX⟩
      rw [if_pos he] at he2
      subst he2
      refine WK.nil ?_
      have hres : getX lo hi ⟨p, e⟩ = (0, ⟨p, 1⟩) := by
        rw [he]; exact get_arg hend (by omega)
      refine DK.seq ?_
      refine DK.region (is := [0]) (by kernel_rfl) rfl ?_
      refine WK.run [0] (by simp [F, c, d, g, j, l, a, m, o, q, w, b, x, y, D, E, z, A, B, C, K]; constructor <;> rfl) ?_
      refine WK.nil ?_
      refine DK.ret ?_
      refine And.intro (Or.inr rfl) ?_
      refine ⟨_, by simp [absAnswer, absResults, absResult, Tryd.f48]; rfl, ?_⟩
      exact ⟨by rw [hres], by rw [hres]; exact hX⟩
    try simp only [h]
    replace h := Fa.out h
    refine DK.skip ?_
    refine DK.seq ?_
    refine DK.region (is := [0, 1, 2, 3, 4, 5, 6, 7, 8, 9, 10]) (by kernel_rfl) rfl ?_
    refine WK.run [0, 1, 2, 3] (by simp [F, c, d, g, j, l, a, m, o, q, w, b, x, y, D, E, z, A, B, C, K]; constructor <;> rfl) ?_
    refine WK.run [4, 5, 6, 7] (by simp [F, c, d, g, j, l, a, m, o, q, w, b, x, y, D, E, z, A, B, C, K]; constructor <;> rfl) ?_
    refine WK.run [8, 9, 10] (by simp [F, c, d, g, j, l, a, m, o, q, w, b, x, y, D, E, z, A, B, C, K]; constructor <;> rfl) ?_
    refine WK.nil ?_
    have hres : getX lo hi ⟨p, e⟩ = (unz u2, ⟨p.drop (i + 1), e⟩) := by
      rw [he]; exact get_ok hend (by omega)
    refine DK.seq ?_
    refine DK.region (is := [0, 1]) (by kernel_rfl) rfl ?_
    refine WK.run [0, 1] (by simp [F, c, d, g, j, l, a, m, o, q, w, b, x, y, D, E, z, A, B, C, K]; constructor <;> rfl) ?_
    refine WK.nil ?_
    refine DK.ret ?_
    refine And.intro (Or.inr rfl) ?_
    refine ⟨_, by simp [absAnswer, absResults, absResult, Tryd.f48]; rfl, ?_⟩
    exact ⟨by rw [hres], by rw [hres]; exact hX⟩
  try simp only [h]
  replace h := Fa.out h
  have hres : getX lo hi ⟨p, e⟩ = (0, ⟨p, 5⟩) := by
    rw [he]; rw [List.drop_of_length_le (by omega), scanB] at hsc; exact get_err hsc.symm (by decide)
  refine DK.exit ?_
  refine DK.seq ?_
  refine DK.region (is := [0, 1]) (by kernel_rfl) rfl ?_
  refine WK.run [0] (by simp [F, c, d, g, j, l, a, m, o, q, w, b, x, y, D, E, z, A, B, C, K]; constructor <;> rfl) ?_
  refine WK.call rfl (by simp [F, c, d, g, j, l, a, m, o, q, w, b, x, y, D, E, z, A, B, C, K]) (by simp [Tryd.func73, Tryd.f73, F, c, d, g, j, l, a, m, o, q, w, b, x, y, D, E, z, A, B, C, K]; constructor <;> rfl) ?_
  refine FSem.mono (pfail_s 5 hB) ?_
  rintro _ H2 ⟨e2, he2, hX⟩
  rw [if_pos he] at he2
  subst he2
  refine WK.nil ?_
  refine DK.seq ?_
  refine DK.region (is := [0]) (by kernel_rfl) rfl ?_
  refine WK.run [0] (by simp [F, c, d, g, j, l, a, m, o, q, w, b, x, y, D, E, z, A, B, C, K]; constructor <;> rfl) ?_
  refine WK.nil ?_
  refine DK.ret ?_
  refine And.intro (Or.inr rfl) ?_
  refine ⟨_, by simp [absAnswer, absResults, absResult, Tryd.f48]; rfl, ?_⟩
  exact ⟨by rw [hres], by rw [hres]; exact hX⟩
theorem pgflag_s {k : Nat} {s : Value} {p : List By} {e : Int} {H : Mem} (hB : BoxAt H k s p e) (hp : ByOk p) (hn : p.length ≤ 1000000000000) : FSem Tryd.prog [0] 74 #[.pointer (some ⟨k, 0, none⟩)] H fun v H' => v = .bool (flagX ⟨p, e⟩).1 ∧ BoxTo H k s (flagX ⟨p, e⟩).2 H' := by
  refine FSem.ofK Tryd.func74 rfl ?_
  refine DK.from (b' := ⟨#[.pointer (some ⟨k, 0, none⟩), undef, undef, undef, undef, undef], []⟩) (by kernel_rfl) ?_
  refine DK.seq ?_
  refine DK.region (is := [0]) (by kernel_rfl) rfl ?_
  refine WK.run [0] (by simp; constructor <;> rfl) ?_
  refine WK.nil ?_
  refine DK.seq ?_
  refine DK.region (is := [0, 1, 2, 3]) (by kernel_rfl) rfl ?_
  refine WK.run [0] (by simp; constructor <;> rfl) ?_
  refine WK.call rfl (by simp) (by simp [Tryd.func48, Tryd.f48]; constructor <;> rfl) ?_
  refine FSem.mono (pget_s 0 1 hB hp hn) ?_
  rintro _ H2 ⟨rfl, hX⟩
  refine WK.run [2, 3] (by simp; constructor <;> rfl) ?_
  refine WK.nil ?_
  refine DK.ret ?_
  refine And.intro (Or.inr rfl) ?_
  refine ⟨_, by simp [absAnswer, absResults, absResult, Tryd.f74]; rfl, ?_⟩
  exact ⟨by rfl, hX⟩
theorem pof_s {w : Value} {p : List By} {H : Mem} (hR : RowAt H w p) (hn : p.length ≤ 10000000000000) : FSem Tryd.prog [0] 23 #[w] H fun v H' => ∃ k s, v = .pointer (some ⟨k, 0, none⟩) ∧ H.length ≤ k ∧ Keep H H' ∧ BoxAt H' k s p 0 ∧ New H.length s := by
  refine FSem.ofK Tryd.func23 rfl ?_
  refine DK.from (b' := ⟨#[w, undef, undef, undef, undef, undef, undef], []⟩) (by kernel_rfl) ?_
  have a := trivial
  have b := trivial
  have c := trivial
  obtain ⟨s2, M2, ha2, hR2, hW2, hf2, hN2, _⟩ := appBy2 (RowAt.nil H) (Own.nil H 0 0) hR (by simpa using hn)
  replace a := ha2
  replace b := hR2.cells.1
  replace c := hR2.cells.2
  have hKM : Keep H M2 := Keep.frn (Keep.refl H) hf2 (New.nil _ _ _)
  have hN3 : New H.length s2 := by rcases hN2 with q | q; rw [q]; exact New.nil _ _ _; exact q
  refine DK.seq ?_
  refine DK.region (is := [0]) (by kernel_rfl) rfl ?_
  refine WK.run [0] (by simp [a, b, c]; constructor <;> rfl) ?_
  refine WK.nil ?_
  refine DK.seq ?_
  refine DK.region (is := [0, 1, 2, 3, 4]) (by kernel_rfl) rfl ?_
  refine WK.run [0, 1, 2, 3] (by simp [a, b, c]; constructor <;> rfl) ?_
  refine WK.run [4] (by simp [a, b, c]; constructor <;> rfl) ?_
  refine WK.nil ?_
  refine DK.ret ?_
  refine And.intro (Or.inr rfl) ?_
  refine ⟨_, by simp [absAnswer, absResults, absResult, Tryd.f23]; rfl, ?_⟩
  exact ⟨_, _, rfl, hf2.1, hKM.trans (Keep.app _ _), ⟨by simp, hR2.apps _, hW2.app _, fun q => by have := hR2.lt q; omega⟩, hN3⟩
end Go.Den
set_option linter.unusedVariables false
set_option maxRecDepth 100000
namespace Go.Den
open Go Go.Proofs
theorem scan_rest : ∀ (l : List By) (i u : Nat), ∃ n, (scanB i u l).2.2 = l.drop n ∨ (scanB i u l).2.2 = []
  | [], i, u => ⟨0, .inr rfl⟩
  | c :: r, i, u => by
    unfold scanB
    split
    · exact ⟨0, .inr rfl⟩
    · split
      · obtain ⟨n, h⟩ := scan_rest r (i + 1) (u + (c.n % 64).toNat * 64 ^ i)
        exact ⟨n + 1, by simpa using h⟩
      · exact ⟨1, .inl rfl⟩
theorem get_rest (lo hi : Int) (b : Bx) : ∃ n, (getX lo hi b).2.p = b.p.drop n ∨ (getX lo hi b).2.p = [] := by
  unfold getX
  split
  · exact ⟨0, .inl rfl⟩
  · split
    · exact ⟨0, .inl rfl⟩
    · split
      · exact ⟨0, .inl rfl⟩
      · exact scan_rest _ _ _
def Fit (b : Bx) : Prop := ByOk b.p ∧ b.p.length ≤ 1000000000000
theorem Fit.get {b : Bx} (h : Fit b) (lo hi : Int) : Fit (getX lo hi b).2 := by
  obtain ⟨n, e | e⟩ := get_rest lo hi b
  · exact ⟨fun c hc => h.1 c (by rw [e] at hc; exact List.mem_of_mem_drop hc), by rw [e]; have := h.2; simp; omega⟩
  · exact ⟨fun c hc => by rw [e] at hc; simp at hc, by rw [e]; simp⟩
structure Bz (N : Nat) (M : Mem) (k : Nat) (b : Bx) : Prop where
  ex : ∃ s, BoxAt M k s b.p b.e ∧ ∀ c, blkOf s = some c → c < N
  kN : k < N
  fit : Fit b
def FrK (M : Mem) (k : Nat) (M' : Mem) : Prop := M.length ≤ M'.length ∧ ∀ i, i < M.length → i ≠ k → M'[i]? = M[i]?
theorem FrK.refl (M : Mem) (k : Nat) : FrK M k M := ⟨Nat.le_refl _, fun _ _ _ => rfl⟩
theorem FrK.trans {M M1 M2 : Mem} {k : Nat} (h : FrK M k M1) (g : FrK M1 k M2) : FrK M k M2 := ⟨Nat.le_trans h.1 g.1, fun i hi hk => (g.2 i (Nat.lt_of_lt_of_le hi h.1) hk).trans (h.2 i hi hk)⟩
theorem FrK.of {M M' : Mem} (h : Keep M M') (k : Nat) : FrK M k M' := ⟨h.1, fun i hi _ => h.2 i hi⟩
theorem FrK.cell {M M' : Mem} {k i : Nat} {x : Blk} (h : FrK M k M') (hx : M[i]? = some x) (hk : i ≠ k) : M'[i]? = some x := (h.2 i (List.getElem?_eq_some_iff.1 hx).1 hk).trans hx
theorem FrK.set {M M' : Mem} {k i : Nat} (h : FrK M k M') (hi : M.length ≤ i) (x : Blk) : FrK M k (M'.set i x) := ⟨by simpa using h.1, fun j hj hk => (List.getElem?_set_ne (by omega)).trans (h.2 j hj hk)⟩
theorem Bz.keep {N : Nat} {M M' : Mem} {k : Nat} {b : Bx} (h : Bz N M k b) (hk : Keep M M') : Bz N M' k b := by
  obtain ⟨s, h1, h2⟩ := h.ex
  exact ⟨⟨s, h1.keep hk, h2⟩, h.kN, h.fit⟩
theorem Bz.set {N : Nat} {M : Mem} {k i : Nat} {b : Bx} (h : Bz N M k b) (hi : N ≤ i) (x : Blk) : Bz N (M.set i x) k b := by
  obtain ⟨s, h1, h2⟩ := h.ex
  have hk := h.kN
  have hne : blkOf s ≠ some i := fun q => by have := h2 i q; omega
  exact ⟨⟨s, ⟨(List.getElem?_set_ne (by omega)).trans h1.cell, h1.row.set hne _, h1.own.set hne _, h1.ne⟩, h2⟩, h.kN, h.fit⟩
theorem Bz.fr {N : Nat} {M M' : Mem} {k : Nat} {b : Bx} (h : Bz N M k b) {s2 : Value} (hf : Fr M s2 M') (hs : New N s2) : Bz N M' k b := by
  obtain ⟨s, h1, h2⟩ := h.ex
  have hk := h.kN
  exact ⟨⟨s, ⟨(hf.2 k h1.lt (hs.ne hk)).trans h1.cell, h1.row.fr hf (fun c hc => hs.ne (h2 c hc)), h1.own.of (fun c hc hl => hf.2 c hl (hs.ne (h2 c hc))), h1.ne⟩, h2⟩, h.kN, h.fit⟩
theorem Bz.lt {N : Nat} {M : Mem} {k : Nat} {b : Bx} (h : Bz N M k b) : k < M.length := by obtain ⟨s, h1, _⟩ := h.ex; exact h1.lt
theorem Bz.of {N : Nat} {M M' : Mem} {k : Nat} {b b' : Bx} {s : Value} (h : Bz N M k b) (hs : ∀ c, blkOf s = some c → c < N) (ht : BoxTo M k s b' M') (hf : Fit b') : Bz N M' k b' ∧ FrK M k M' := by
  obtain ⟨s', h1, h2, h3, h4⟩ := ht
  exact ⟨⟨⟨s', h1, fun c hc => hs c (h4 c hc)⟩, h.kN, hf⟩, by omega, fun i _ hk => h3 i hk⟩
theorem pget_g (lo hi : Int) {N : Nat} {M : Mem} {k : Nat} {b : Bx} (h : Bz N M k b) :
    FSem Tryd.prog [0] 48 #[.pointer (some ⟨k, 0, none⟩), .int .i64 lo, .int .i64 hi] M fun v M' => ∃ x b', v = .int .i64 x ∧ getX lo hi b = (x, b') ∧ Bz N M' k b' ∧ FrK M k M' := by
  obtain ⟨s, h1, h2⟩ := h.ex
  refine FSem.mono (pget_s lo hi h1 h.fit.1 h.fit.2) ?_
  rintro v M' ⟨rfl, ht⟩
  exact ⟨_, _, rfl, rfl, h.of h2 ht (h.fit.get lo hi)⟩
theorem pgflag_g {N : Nat} {M : Mem} {k : Nat} {b : Bx} (h : Bz N M k b) :
    FSem Tryd.prog [0] 74 #[.pointer (some ⟨k, 0, none⟩)] M fun v M' => ∃ x b', v = .bool x ∧ flagX b = (x, b') ∧ Bz N M' k b' ∧ FrK M k M' := by
  obtain ⟨s, h1, h2⟩ := h.ex
  refine FSem.mono (pgflag_s h1 h.fit.1 h.fit.2) ?_
  rintro v M' ⟨rfl, ht⟩
  exact ⟨_, _, rfl, rfl, h.of h2 ht (h.fit.get 0 1)⟩
theorem pfault_g {N : Nat} {M : Mem} {k : Nat} {b : Bx} (h : Bz N M k b) :
    FSem Tryd.prog [0] 75 #[.pointer (some ⟨k, 0, none⟩)] M fun v M' => v = .int .i64 b.e ∧ M = M' := by
  obtain ⟨s, h1, h2⟩ := h.ex
  refine FSem.mono (pfault_s h1) ?_
  rintro v M' ⟨rfl, rfl⟩; exact ⟨rfl, rfl⟩
theorem pend_g {N : Nat} {M : Mem} {k : Nat} {b : Bx} (h : Bz N M k b) :
    FSem Tryd.prog [0] 51 #[.pointer (some ⟨k, 0, none⟩)] M fun v M' => v = .int .i64 (endX b) ∧ M = M' := by
  obtain ⟨s, h1, h2⟩ := h.ex
  refine FSem.mono (pend_s h1) ?_
  rintro v M' ⟨rfl, rfl⟩; exact ⟨rfl, rfl⟩
def planX (b : Bx) : Pl × Bx :=
  let g1 := getX 0 1073741824 b
  let g2 := getX 0 3 g1.2
  let g3 := getX 1 1000 g2.2
  let g4 := getX 0 1000 g3.2
  let f1 := flagX g4.2
  let f2 := flagX f1.2
  if f2.2.e ≠ 0 then (zeroP, f2.2) else (⟨g1.1, IntKind.u8.wrap g2.1, g3.1, g4.1, f1.1, f2.1⟩, f2.2)
def numX (b : Bx) : Int × Bx := getX 0 3652058 b
def monX (b : Bx) : Int × Bx := getX (-1125899906842624) 1125899906842624 b
def cyX (b : Bx) : Cy × Bx :=
  let g1 := numX b
  let g2 := numX g1.2
  let g3 := getX 1 6 g2.2
  let g4 := getX 0 1125899906842624 g3.2
  let g5 := monX g4.2
  let g6 := getX 0 100 g5.2
  let g7 := getX 0 3652158 g6.2
  let f := flagX g7.2
  (⟨g1.1, g2.1, IntKind.u8.wrap g3.1, g4.1, g5.1, g6.1, g7.1, f.1⟩, f.2)
def cysX : Nat → Bx → List Cy × Bx
  | 0, b => ([], b)
  | n + 1, b => if b.e ≠ 0 then ([], b) else ((cyX b).1 :: (cysX n (cyX b).2).1, (cysX n (cyX b).2).2)
def acX (plans : Int) (b : Bx) : Ac × Bx :=
  let s := getX 0 3 b
  if IntKind.u8.wrap s.1 = 0 then (zeroA, s.2)
  else
    let g1 := getX 0 (IntKind.i64.wrap (plans - 1)) s.2
    let g2 := numX g1.2
    let g3 := numX g2.2
    let g4 := numX g3.2
    let g5 := monX g4.2
    let f := flagX g5.2
    let h1 := numX f.2
    let h2 := numX h1.2
    let h3 := numX h2.2
    let h4 := numX h3.2
    let h5 := monX h4.2
    let n := numX h5.2
    let c := cysX n.1.toNat n.2
    (⟨IntKind.u8.wrap s.1, g1.1, g2.1, g3.1, g4.1, g5.1, f.1, c.1, h1.1, h2.1, h3.1, h4.1, h5.1⟩, c.2)
def plsX : Nat → Bx → List Pl × Bx
  | 0, b => ([], b)
  | n + 1, b => ((planX b).1 :: (plsX n (planX b).2).1, (plsX n (planX b).2).2)
def subsX (plans : Int) : Nat → Bx → List Ac × Bx
  | 0, b => ([], b)
  | n + 1, b => ((acX plans b).1 :: (subsX plans n (acX plans b).2).1, (subsX plans n (acX plans b).2).2)
def decX (p : List By) : Bk × Int :=
  let t := getX 0 3652058 ⟨p, 0⟩
  let n := getX 0 8 t.2
  let l := plsX n.1.toNat n.2
  let s := subsX l.1.length 32 l.2
  if endX s.2 ≠ 0 then (zeroB, 4) else (⟨t.1, l.1, s.1⟩, 0)
end Go.Den
namespace Go.Den
open Go Go.Proofs
set_option maxRecDepth 100000
set_option maxHeartbeats 1000000
set_option linter.all false
attribute [local simp] evOps evOp absOp absBox absAlloc absLoad absStore absField absIndexAddr absCells absBinOp absBin absInt absShift absUn absPick absNil absExtract absBuild absPlaces Instr.fill absBuiltin absMinMax plainV plainT allA flat cells_agg cells_int cells_bool cells_str cells_ptr cells_sl cells_map one_int one_bool one_str one_ptr one_sl one_map Act.eval Act.put Region.wanted yielded splice absCall TypeDesc.isRow
theorem plget_s {N : Nat} {k : Nat} {b : Bx} {H : Mem} (hz0 : Bz N H k b) (hN : N ≤ H.length) : FSem Tryd.prog [0] 49 #[.pointer (some ⟨k, 0, none⟩)] H fun v H' => ∃ p b', v = Pl.v p ∧ planX b = (p, b') ∧ Bz N H' k b' ∧ FrK H k H' := by
  refine FSem.ofK Tryd.func49 rfl ?_
  refine DK.from (b' := ⟨#[.pointer (some ⟨k, 0, none⟩), undef, undef, undef, undef, undef, undef, undef, undef, undef, undef, undef, undef, undef, undef, undef, undef, undef, undef, undef, undef, undef, undef], []⟩) (by kernel_rfl) ?_
  have d := trivial
  have a := trivial
  have e := trivial
  have c := trivial
  refine DK.seq ?_
  refine DK.region (is := [0]) (by kernel_rfl) rfl ?_
  refine WK.run [0] (by simp [d, a, e, c]; constructor <;> rfl) ?_
  refine WK.nil ?_
  refine DK.abs (fun M0 => Keep H M0 ∧ M0[H.length]? = some (.cells false ([.int .i64 0, .int .u8 0, .int .i64 0, .int .i64 0, .bool false, .bool false]))) ⟨Keep.app _ _, by simp⟩ ?_
  rintro M0 ⟨hK, q_c2⟩
  have hfk := FrK.of hK k
  have hz := hz0.keep hK
  replace d := q_c2
  replace a := cellr q_c2
  refine DK.seq ?_
  refine DK.region (is := [0, 1, 2, 3, 4, 5, 6, 7, 8, 9, 10, 11, 12, 13, 14, 15]) (by kernel_rfl) rfl ?_
  refine WK.run [0] (by simp [d, a, e, c]; constructor <;> rfl) ?_
  refine WK.call rfl (by simp [d, a, e, c]) (by simp [Tryd.func48, Tryd.f48, d, a, e, c]; constructor <;> rfl) ?_
  refine FSem.mono (pget_g 0 1073741824 hz) ?_
  rintro _ M1 ⟨x1, b1, rfl, g1, hz, hfr⟩
  replace d := hfr.cell d (by have := hz0.kN; omega)
  replace a := cellr d
  replace hfk := hfk.trans hfr
  refine WK.run [2] (by simp [d, a, e, c]; constructor <;> rfl) ?_
  refine WK.call rfl (by simp [d, a, e, c]) (by simp [Tryd.func48, Tryd.f48, d, a, e, c]; constructor <;> rfl) ?_
  refine FSem.mono (pget_g 0 3 hz) ?_
  rintro _ M2 ⟨x2, b2, rfl, g2, hz, hfr⟩
  replace d := hfr.cell d (by have := hz0.kN; omega)
  replace a := cellr d
  replace hfk := hfk.trans hfr
  refine WK.run [4, 5] (by simp [d, a, e, c]; constructor <;> rfl) ?_
  refine WK.call rfl (by simp [d, a, e, c]) (by simp [Tryd.func48, Tryd.f48, d, a, e, c]; constructor <;> rfl) ?_
  refine FSem.mono (pget_g 1 1000 hz) ?_
  rintro _ M3 ⟨x3, b3, rfl, g3, hz, hfr⟩
  replace d := hfr.cell d (by have := hz0.kN; omega)
  replace a := cellr d
  replace hfk := hfk.trans hfr
  refine WK.run [7] (by simp [d, a, e, c]; constructor <;> rfl) ?_
  refine WK.call rfl (by simp [d, a, e, c]) (by simp [Tryd.func48, Tryd.f48, d, a, e, c]; constructor <;> rfl) ?_
  refine FSem.mono (pget_g 0 1000 hz) ?_
  rintro _ M4 ⟨x4, b4, rfl, g4, hz, hfr⟩
  replace d := hfr.cell d (by have := hz0.kN; omega)
  replace a := cellr d
  replace hfk := hfk.trans hfr
  refine WK.run [9] (by simp [d, a, e, c]; constructor <;> rfl) ?_
  refine WK.call rfl (by simp [d, a, e, c]) (by simp [Tryd.func74, Tryd.f74, d, a, e, c]; constructor <;> rfl) ?_
  refine FSem.mono (pgflag_g hz) ?_
  rintro _ M5 ⟨x5, b5, rfl, g5, hz, hfr⟩
  replace d := hfr.cell d (by have := hz0.kN; omega)
  replace a := cellr d
  replace hfk := hfk.trans hfr
  refine WK.run [11] (by simp [d, a, e, c]; constructor <;> rfl) ?_
  refine WK.call rfl (by simp [d, a, e, c]) (by simp [Tryd.func74, Tryd.f74, d, a, e, c]; constructor <;> rfl) ?_
  refine FSem.mono (pgflag_g hz) ?_
  rintro _ M6 ⟨x6, b6, rfl, g6, hz, hfr⟩
  replace d := hfr.cell d (by have := hz0.kN; omega)
  replace a := cellr d
  replace hfk := hfk.trans hfr
  refine WK.run [13, 14, 15] (by simp [d, a, e, c]; constructor <;> rfl) ?_
  refine WK.nil ?_
  refine DK.abs (fun M7 => Keep M6 M7 ∧ M7[M6.length]? = some (.cells false ([.int .i64 x1, .int .u8 (IntKind.u8.wrap x2), .int .i64 x3, .int .i64 x4, .bool x5, .bool x6]))) ⟨Keep.app _ _, by simp⟩ ?_
  rintro M7 ⟨hK, q_c3⟩
  replace hfk := hfk.trans (FrK.of hK k)
  replace hz := hz.keep hK
  replace e := q_c3
  replace c := cellr q_c3
  replace d := hK.cell d
  have hlt2 := (List.getElem?_eq_some_iff.1 d).1
  have hset : ∀ z : Blk, (M7.set H.length z)[H.length]? = some z := fun z => List.getElem?_set_self hlt2
  refine DK.seq ?_
  refine DK.seq ?_
  refine DK.region (is := [0, 1, 2]) (by kernel_rfl) rfl ?_
  refine WK.run [0] (by simp [d, a, e, c]; constructor <;> rfl) ?_
  refine WK.call rfl (by simp [d, a, e, c]) (by simp [Tryd.func75, Tryd.f75, d, a, e, c]; constructor <;> rfl) ?_
  refine FSem.mono (pfault_g hz) ?_
  rintro _ Hq ⟨rfl, hq⟩
  subst hq
  refine WK.run [2] (by simp [d, a, e, c]; constructor <;> rfl) ?_
  refine WK.nil ?_
  refine DK.test rfl rfl (fun h => ?_) (fun h => ?_)
  · try simp only [h]
    replace h := Tr.out h
    refine DK.seq ?_
    refine DK.region (is := [0, 1]) (by kernel_rfl) rfl ?_
    refine WK.run [0, 1] (by simp [d, a, e, c]; constructor <;> rfl) ?_
    refine WK.nil ?_
    have hres : planX b = (zeroP, b6) := by unfold planX; simp only [g1, g2, g3, g4, g5, g6]; rw [if_pos (by assumption)]
    replace hz := hz.set (i := H.length) (by omega) (.cells false zeroP.l)
    replace hfk := hfk.set (Nat.le_refl _) (.cells false zeroP.l)
    refine DK.ret ?_
    refine And.intro (Or.inr rfl) ?_
    refine ⟨_, by simp [absAnswer, absResults, absResult, Tryd.f49, hset]; rfl, ?_⟩
    exact ⟨_, _, rfl, hres, hz, hfk⟩
  try simp only [h]
  replace h := Fa.out h
  refine DK.skip ?_
  refine DK.seq ?_
  refine DK.region (is := [0, 1]) (by kernel_rfl) rfl ?_
  refine WK.run [0, 1] (by simp [d, a, e, c]; constructor <;> rfl) ?_
  refine WK.nil ?_
  have hres : planX b = (⟨x1, IntKind.u8.wrap x2, x3, x4, x5, x6⟩, b6) := by unfold planX; simp only [g1, g2, g3, g4, g5, g6]; rw [if_neg (by simp [*])]
  replace hz := hz.set (i := H.length) (by omega) (.cells false (Pl.l ⟨x1, IntKind.u8.wrap x2, x3, x4, x5, x6⟩))
  replace hfk := hfk.set (Nat.le_refl _) (.cells false (Pl.l ⟨x1, IntKind.u8.wrap x2, x3, x4, x5, x6⟩))
  refine DK.ret ?_
  refine And.intro (Or.inr rfl) ?_
  refine ⟨_, by simp [absAnswer, absResults, absResult, Tryd.f49, hset]; rfl, ?_⟩
  exact ⟨_, _, rfl, hres, hz, hfk⟩
theorem num_s {N : Nat} {k : Nat} {b : Bx} {H : Mem} (hz : Bz N H k b) {bx : Nat} (hb : H[bx]? = some (.cells false [.pointer (some ⟨k, 0, none⟩)])) : FSem Tryd.prog [0] 76 #[.pointer (some ⟨bx, 0, none⟩)] H fun v H' => ∃ x b', v = .int .i64 x ∧ numX b = (x, b') ∧ Bz N H' k b' ∧ FrK H k H' := by
  refine FSem.ofK Tryd.func76 rfl ?_
  refine DK.from (b' := ⟨#[.pointer (some ⟨bx, 0, none⟩), undef, undef, undef], []⟩) (by kernel_rfl) ?_
  refine DK.seq ?_
  refine DK.region (is := [0]) (by kernel_rfl) rfl ?_
  refine WK.run [0] (by simp [hb]; constructor <;> rfl) ?_
  refine WK.nil ?_
  refine DK.seq ?_
  refine DK.region (is := [0, 1, 2]) (by kernel_rfl) rfl ?_
  refine WK.run [0] (by simp [hb]; constructor <;> rfl) ?_
  refine WK.call rfl (by simp [hb]) (by simp [Tryd.func48, Tryd.f48, hb]; constructor <;> rfl) ?_
  refine FSem.mono (pget_g 0 3652058 hz) ?_
  rintro _ M1 ⟨x1, b1, rfl, g1, hz, hfr⟩
  refine WK.run [2] (by simp [hb]; constructor <;> rfl) ?_
  refine WK.nil ?_
  refine DK.ret ?_
  refine And.intro (Or.inr rfl) ?_
  refine ⟨_, by simp [absAnswer, absResults, absResult, Tryd.f76]; rfl, ?_⟩
  exact ⟨_, _, rfl, g1, hz, hfr⟩
theorem mon_s {N : Nat} {k : Nat} {b : Bx} {H : Mem} (hz : Bz N H k b) {bx : Nat} (hb : H[bx]? = some (.cells false [.pointer (some ⟨k, 0, none⟩)])) : FSem Tryd.prog [0] 77 #[.pointer (some ⟨bx, 0, none⟩)] H fun v H' => ∃ x b', v = .int .i64 x ∧ monX b = (x, b') ∧ Bz N H' k b' ∧ FrK H k H' := by
  refine FSem.ofK Tryd.func77 rfl ?_
  refine DK.from (b' := ⟨#[.pointer (some ⟨bx, 0, none⟩), undef, undef, undef], []⟩) (by kernel_rfl) ?_
  refine DK.seq ?_
  refine DK.region (is := [0]) (by kernel_rfl) rfl ?_
  refine WK.run [0] (by simp [hb]; constructor <;> rfl) ?_
  refine WK.nil ?_
  refine DK.seq ?_
  refine DK.region (is := [0, 1, 2]) (by kernel_rfl) rfl ?_
  refine WK.run [0] (by simp [hb]; constructor <;> rfl) ?_
  refine WK.call rfl (by simp [hb]) (by simp [Tryd.func48, Tryd.f48, hb]; constructor <;> rfl) ?_
  refine FSem.mono (pget_g (-1125899906842624) 1125899906842624 hz) ?_
  rintro _ M1 ⟨x1, b1, rfl, g1, hz, hfr⟩
  refine WK.run [2] (by simp [hb]; constructor <;> rfl) ?_
  refine WK.nil ?_
  refine DK.ret ?_
  refine And.intro (Or.inr rfl) ?_
  refine ⟨_, by simp [absAnswer, absResults, absResult, Tryd.f77]; rfl, ?_⟩
  exact ⟨_, _, rfl, g1, hz, hfr⟩
end Go.Den
set_option linter.unusedVariables false
set_option maxRecDepth 100000
namespace Go.Den
open Go Go.Proofs
theorem get_bd {lo hi : Int} (h0 : lo ≤ 0) (h1 : 0 ≤ hi) (b : Bx) : lo ≤ (getX lo hi b).1 ∧ (getX lo hi b).1 ≤ hi := by
  unfold getX
  split
  · exact ⟨h0, h1⟩
  · split
    · exact ⟨h0, h1⟩
    · split
      · exact ⟨h0, h1⟩
      · simp only; omega
theorem cysX_no {n : Nat} {b : Bx} (h : n = 0 ∨ b.e ≠ 0) : cysX n b = ([], b) := by
  cases n with
  | zero => rfl
  | succ n => rw [cysX, if_pos (by omega)]
theorem cysX_go {m : Nat} {b b' : Bx} {c : Cy} (he : b.e = 0) (hc : cyX b = (c, b')) : cysX (m + 1) b = (c :: (cysX m b').1, (cysX m b').2) := by
  rw [cysX, if_neg (by omega), hc]
theorem OpenAt.frk {M M' : Mem} {s : Value} {l : List Cy} {k : Nat} (h : OpenAt M s l) (hf : FrK M k M') (hne : blkOf s ≠ some k) : OpenAt M' s l := by
  rcases h with h | ⟨b, h1, h2⟩
  · exact .inl h
  · exact .inr ⟨b, h1, hf.cell h2 (fun e => hne (by rw [h1, e]; rfl))⟩
theorem FrK.fr {H M M' : Mem} {k : Nat} {s : Value} (h : FrK H k M) (hf : Fr M s M') (hs : New H.length s) : FrK H k M' :=
  ⟨Nat.le_trans h.1 hf.1, fun i hi hk => (hf.2 i (Nat.lt_of_lt_of_le hi h.1) (hs.ne hi)).trans (h.2 i hi hk)⟩
theorem OpenAt.app1 {M : Mem} {s : Value} {l : List Cy} (h : OpenAt M s l) (c : Cy) (hn : l.length ≤ 1000000000) :
    ∃ s' M', absAppend Tryd.prog (M ++ [.cells false c.l]) #[28, 28] s (.slice (some ⟨M.length, 0, none⟩) 1 8) = some (s', M') ∧ OpenAt M' s' (l ++ [c]) ∧ Fr M s M' ∧ New M.length s' := by
  have hc : c.cells = c.l := rfl
  have ev : cysV (l ++ [c]) = cysV l ++ c.l := by rw [cysV_append, cysV, cysV, List.append_nil, hc]
  rcases h with ⟨rfl, rfl⟩ | ⟨b, rfl, hb⟩
  · refine ⟨.slice (some ⟨M.length + 1, 0, none⟩) 1 8, M ++ [.cells false c.l] ++ [.cells false c.l], ?_, .inr ⟨M.length + 1, rfl, ?_⟩, ⟨by simp, fun k hk _ => by rw [List.append_assoc, List.getElem?_append_left hk]⟩, fun q hq => by cases hq; simp⟩
    · rw [app1_nil]; simp
    · rw [ev]; simp [cysV]
  · have hlt := (List.getElem?_eq_some_iff.1 hb).1
    have hb2 : (M ++ [.cells false c.l])[b]? = some (.cells false (cysV l)) := by rw [List.getElem?_append_left hlt]; exact hb
    have hm : (M ++ [.cells false c.l])[M.length]? = some (.cells false c.l) := by simp
    refine ⟨.slice (some ⟨M.length + 1, 0, none⟩) (l.length + 1) 8, (M ++ [Blk.cells false c.l]).set b Blk.dead ++ [Blk.cells false (cysV l ++ c.l)], ?_, .inr ⟨M.length + 1, by simp, ?_⟩, ⟨by simp; omega, fun k hk hne => ?_⟩, fun q hq => by cases hq; simp⟩
    · rw [app1_blk, hm, hb2]
      simp only
      rw [if_pos ⟨by simp, by omega, by simp, by simp [Value.oneCell']⟩]
      simp
    · rw [ev, List.getElem?_append_right (by simp)]; simp
    · have hkb : b ≠ k := fun e => hne (by rw [← e]; rfl)
      rw [List.getElem?_append_left (by simp; omega), List.getElem?_set_ne hkb, List.getElem?_append_left hk]
end Go.Den
namespace Go.Den
open Go Go.Proofs
set_option maxRecDepth 100000
set_option maxHeartbeats 4000000
set_option linter.all false
attribute [local simp] evOps evOp absOp absBox absAlloc absLoad absStore absField absIndexAddr absCells absBinOp absBin absInt absShift absUn absPick absNil absExtract absBuild absPlaces Instr.fill absBuiltin absMinMax plainV plainT allA flat cells_agg cells_int cells_bool cells_str cells_ptr cells_sl cells_map one_int one_bool one_str one_ptr one_sl one_map Act.eval Act.put Region.wanted yielded splice absCall TypeDesc.isRow
theorem acget_s (plans : Int) {N : Nat} {k : Nat} {b : Bx} {H : Mem} (hz0 : Bz N H k b) (hN : N ≤ H.length) : FSem Tryd.prog [0] 50 #[.pointer (some ⟨k, 0, none⟩), .int .i64 plans] H fun v H' => ∃ a sa b', v = Ac.v a sa ∧ acX plans b = (a, b') ∧ OpenAt H' sa a.op ∧ New H.length sa ∧ Bz N H' k b' ∧ FrK H k H' := by
  refine FSem.ofK Tryd.func50 rfl ?_
  refine DK.from (b' := ⟨#[.pointer (some ⟨k, 0, none⟩), .int .i64 plans, undef, undef, undef, undef, undef, undef, undef, undef, undef, undef, undef, undef, undef, undef, undef, undef, undef, undef, undef, undef, undef, undef, undef, undef, undef, undef, undef, undef, undef, undef, undef, undef, undef, undef, undef, undef, undef, undef, undef, undef, undef, undef, undef, undef, undef, undef, undef, undef, undef, undef, undef, undef, undef, undef, undef, undef, undef, undef, undef, undef, undef, undef, undef, undef, undef, undef, undef, undef, undef, undef, undef, undef, undef, undef, undef, undef, undef, undef, undef, undef, undef, undef, undef, undef, undef, undef], []⟩) (by kernel_rfl) ?_
  have C := trivial
  have m := trivial
  have D := trivial
  have o := trivial
  have E := trivial
  have p := trivial
  have f := trivial
  have d := trivial
  have c := trivial
  have j := trivial
  have u := trivial
  have w := trivial
  have q := trivial
  have g := trivial
  have x := trivial
  have r := trivial
  have y := trivial
  have A := trivial
  have B := trivial
  have s := trivial
  refine DK.seq ?_
  refine DK.region (is := [0, 1]) (by kernel_rfl) rfl ?_
  refine WK.run [0, 1] (by simp [C, m, D, o, E, p, f, d, c, j, u, w, q, g, x, r, y, A, B, s]; constructor <;> rfl) ?_
  refine WK.nil ?_
  refine DK.abs (fun M0 => Keep H M0 ∧ M0[H.length]? = some (.cells false ([.pointer (some ⟨k, 0, none⟩)])) ∧ M0[H.length + 1]? = some (.cells false ([.int .u8 0, .int .i64 0, .int .i64 0, .int .i64 0, .int .i64 0, .int .i64 0, .bool false, .slice none 0 0, .int .i64 0, .int .i64 0, .int .i64 0, .int .i64 0, .int .i64 0]))) ⟨Keep.app _ _, by simp, by simp⟩ ?_
  rintro M0 ⟨hK, q_cx, q_c4⟩
  have hfk := FrK.of hK k
  have hz := hz0.keep hK
  replace C := q_cx
  replace m := cellr q_cx
  replace D := q_c4
  replace o := cellr q_c4
  refine DK.seq ?_
  refine DK.region (is := [0, 1]) (by kernel_rfl) rfl ?_
  refine WK.run [0, 1] (by simp [C, m, D, o, E, p, f, d, c, j, u, w, q, g, x, r, y, A, B, s]; constructor <;> rfl) ?_
  refine WK.nil ?_
  refine DK.seq ?_
  refine DK.region (is := [0, 1]) (by kernel_rfl) rfl ?_
  refine WK.run [0, 1] (by simp [C, m, D, o, E, p, f, d, c, j, u, w, q, g, x, r, y, A, B, s]; constructor <;> rfl) ?_
  refine WK.nil ?_
  refine DK.seq ?_
  refine DK.region (is := [0, 1, 2, 3, 4, 5]) (by kernel_rfl) rfl ?_
  refine WK.run [0] (by simp [C, m, D, o, E, p, f, d, c, j, u, w, q, g, x, r, y, A, B, s]; constructor <;> rfl) ?_
  refine WK.call rfl (by simp [C, m, D, o, E, p, f, d, c, j, u, w, q, g, x, r, y, A, B, s]) (by simp [Tryd.func48, Tryd.f48, C, m, D, o, E, p, f, d, c, j, u, w, q, g, x, r, y, A, B, s]; constructor <;> rfl) ?_
  refine FSem.mono (pget_g 0 3 hz) ?_
  rintro _ M1 ⟨x1, b1, rfl, g1, hz, hfr⟩
  replace C := hfr.cell C (by have := hz0.kN; omega)
  replace m := cellr C
  replace D := hfr.cell D (by have := hz0.kN; omega)
  replace o := cellr D
  replace hfk := hfk.trans hfr
  have hA : H.length + 1 < M1.length := (List.getElem?_eq_some_iff.1 D).1
  refine WK.run [2, 3, 4, 5] (by simp [C, m, D, o, E, p, f, d, c, j, u, w, q, g, x, r, y, A, B, s]; constructor <;> rfl) ?_
  refine WK.nil ?_
  refine DK.abs (fun M2 => Keep M1 M2 ∧ M2[M1.length]? = some (.cells false ([.int .u8 (IntKind.u8.wrap x1), .int .i64 0, .int .i64 0, .int .i64 0, .int .i64 0, .int .i64 0, .bool false, .slice none 0 0, .int .i64 0, .int .i64 0, .int .i64 0, .int .i64 0, .int .i64 0]))) ⟨Keep.app _ _, by simp⟩ ?_
  rintro M2 ⟨hK, q_ca⟩
  replace hfk := hfk.trans (FrK.of hK k)
  replace hz := hz.keep hK
  replace E := q_ca
  replace p := cellr q_ca
  replace C := hK.cell C
  replace D := hK.cell D
  replace m := cellr C
  replace o := cellr D
  have hkN := hz0.kN
  replace f : ∀ z : Blk, (M2.set M1.length z)[M1.length]? = some z := fun z => List.getElem?_set_self (List.getElem?_eq_some_iff.1 E).1
  replace d : ∀ z : Blk, (M2.set M1.length z)[H.length]? = some (.cells false [.pointer (some ⟨k, 0, none⟩)]) := fun z => (List.getElem?_set_ne (by omega)).trans C
  replace c : ∀ z : Blk, (M2.set (H.length + 1) z)[H.length + 1]? = some z := fun z => List.getElem?_set_self (List.getElem?_eq_some_iff.1 D).1
  refine DK.seq ?_
  refine DK.seq ?_
  refine DK.region (is := [0, 1, 2]) (by kernel_rfl) rfl ?_
  refine WK.run [0, 1, 2] (by simp [C, m, D, o, E, p, f, d, c, j, u, w, q, g, x, r, y, A, B, s]; constructor <;> rfl) ?_
  refine WK.nil ?_
  refine DK.test rfl rfl (fun h => ?_) (fun h => ?_)
  · try simp only [h]
    replace h := Tr.out h
    replace r : IntKind.u8.wrap x1 = 0 := h
    refine DK.seq ?_
    refine DK.region (is := [0, 1]) (by kernel_rfl) rfl ?_
    refine WK.run [0, 1] (by simp [C, m, D, o, E, p, f, d, c, j, u, w, q, g, x, r, y, A, B, s]; constructor <;> rfl) ?_
    refine WK.nil ?_
    have hres : acX plans b = (zeroA, b1) := by unfold acX; simp only [g1]; rw [if_pos r]
    replace hz := hz.set (i := H.length + 1) (by omega) (.cells false [.int .u8 0, .int .i64 0, .int .i64 0, .int .i64 0, .int .i64 0, .int .i64 0, .bool false, .slice none 0 0, .int .i64 0, .int .i64 0, .int .i64 0, .int .i64 0, .int .i64 0])
    replace hfk := hfk.set (i := H.length + 1) (by omega) (.cells false [.int .u8 0, .int .i64 0, .int .i64 0, .int .i64 0, .int .i64 0, .int .i64 0, .bool false, .slice none 0 0, .int .i64 0, .int .i64 0, .int .i64 0, .int .i64 0, .int .i64 0])
    refine DK.ret ?_
    refine And.intro (Or.inr rfl) ?_
    refine ⟨_, by simp [absAnswer, absResults, absResult, Tryd.f50, c]; rfl, ?_⟩
    first
      | exact ⟨zeroA, .slice none 0 0, _, by rfl, hres, .inl ⟨rfl, rfl⟩, New.nil _ _ _, hz, hfk⟩
      | exact ⟨_, sc, _, by rfl, hres, hO, hNs.le (by omega), hz, hfk⟩
  try simp only [h]
  replace h := Fa.out h
  have hst0 : ¬ IntKind.u8.wrap x1 = 0 := h
  refine DK.skip ?_
  refine DK.seq ?_
  refine DK.region (is := [0, 1, 2, 3, 4, 5]) (by kernel_rfl) rfl ?_
  refine WK.run [0, 1, 2] (by simp [C, m, D, o, E, p, f, d, c, j, u, w, q, g, x, r, y, A, B, s]; constructor <;> rfl) ?_
  refine WK.call rfl (by simp [C, m, D, o, E, p, f, d, c, j, u, w, q, g, x, r, y, A, B, s]) (by simp [Tryd.func48, Tryd.f48, C, m, D, o, E, p, f, d, c, j, u, w, q, g, x, r, y, A, B, s]; constructor <;> rfl) ?_
  refine FSem.mono (pget_g 0 (IntKind.i64.wrap (plans - 1)) hz) ?_
  rintro _ M3 ⟨x3, b3, rfl, g3, hz, hfr⟩
  replace C := hfr.cell C (by have := hz0.kN; omega)
  replace m := cellr C
  replace D := hfr.cell D (by have := hz0.kN; omega)
  replace o := cellr D
  replace E := hfr.cell E (by have := hz0.kN; omega)
  replace p := cellr E
  replace hfk := hfk.trans hfr
  replace f : ∀ z : Blk, (M3.set M1.length z)[M1.length]? = some z := fun z => List.getElem?_set_self (List.getElem?_eq_some_iff.1 E).1
  replace d : ∀ z : Blk, (M3.set M1.length z)[H.length]? = some (.cells false [.pointer (some ⟨k, 0, none⟩)]) := fun z => (List.getElem?_set_ne (by omega)).trans C
  replace c : ∀ z : Blk, (M3.set (H.length + 1) z)[H.length + 1]? = some z := fun z => List.getElem?_set_self (List.getElem?_eq_some_iff.1 D).1
  refine WK.run [4, 5] (by simp [C, m, D, o, E, p, f, d, c, j, u, w, q, g, x, r, y, A, B, s]; constructor <;> rfl) ?_
  refine WK.nil ?_
  refine DK.abs (fun MA => Bz N MA k b3 ∧ FrK H k MA ∧ MA[H.length]? = some (.cells false [.pointer (some ⟨k, 0, none⟩)]) ∧ MA[H.length + 1]? = some (.cells false [.int .u8 0, .int .i64 0, .int .i64 0, .int .i64 0, .int .i64 0, .int .i64 0, .bool false, .slice none 0 0, .int .i64 0, .int .i64 0, .int .i64 0, .int .i64 0, .int .i64 0]) ∧ MA[M1.length]? = some (.cells false [.int .u8 (IntKind.u8.wrap x1), .int .i64 x3, .int .i64 0, .int .i64 0, .int .i64 0, .int .i64 0, .bool false, .slice none 0 0, .int .i64 0, .int .i64 0, .int .i64 0, .int .i64 0, .int .i64 0])) ⟨hz.set (by omega) _, hfk.set (by omega) _, (List.getElem?_set_ne (by omega)).trans C, (List.getElem?_set_ne (by omega)).trans D, List.getElem?_set_self (List.getElem?_eq_some_iff.1 E).1⟩ ?_
  clear hz hfk
  rintro MA ⟨hz, hfk, cx5, c45, ca5⟩
  replace C := cx5
  replace D := c45
  replace E := ca5
  replace m := cellr C
  replace o := cellr D
  replace p := cellr E
  replace f : ∀ z : Blk, (MA.set M1.length z)[M1.length]? = some z := fun z => List.getElem?_set_self (List.getElem?_eq_some_iff.1 E).1
  replace d : ∀ z : Blk, (MA.set M1.length z)[H.length]? = some (.cells false [.pointer (some ⟨k, 0, none⟩)]) := fun z => (List.getElem?_set_ne (by omega)).trans C
  replace c : ∀ z : Blk, (MA.set (H.length + 1) z)[H.length + 1]? = some z := fun z => List.getElem?_set_self (List.getElem?_eq_some_iff.1 D).1
  refine DK.seq ?_
  refine DK.draw rfl (POk.of (ord := [0, 2, 4, 6, 8, 1, 10, 3, 5, 7, 9, 11, 12, 13, 14, 15, 16, 17, 18, 19]) (by kernel_rfl)) ?_
  refine XK.run [0, 2, 4, 6] (by kernel_rfl) (by simp [C, m, D, o, E, p, f, d, c, j, u, w, q, g, x, r, y, A, B, s]; constructor <;> rfl) ?_
  refine XK.run [8] (by kernel_rfl) (by simp [C, m, D, o, E, p, f, d, c, j, u, w, q, g, x, r, y, A, B, s]; constructor <;> rfl) ?_
  refine XK.call rfl (by simp [C, m, D, o, E, p, f, d, c, j, u, w, q, g, x, r, y, A, B, s]) rfl (by simp [Tryd.func76, Tryd.f76, C, m, D, o, E, p, f, d, c, j, u, w, q, g, x, r, y, A, B, s]; constructor <;> rfl) ?_
  refine FSem.mono (num_s hz C) ?_
  rintro _ M4 ⟨x4, b4, rfl, g4, hz, hfr⟩
  replace C := hfr.cell C (by have := hz0.kN; omega)
  replace m := cellr C
  replace D := hfr.cell D (by have := hz0.kN; omega)
  replace o := cellr D
  replace E := hfr.cell E (by have := hz0.kN; omega)
  replace p := cellr E
  replace hfk := hfk.trans hfr
  replace f : ∀ z : Blk, (M4.set M1.length z)[M1.length]? = some z := fun z => List.getElem?_set_self (List.getElem?_eq_some_iff.1 E).1
  replace d : ∀ z : Blk, (M4.set M1.length z)[H.length]? = some (.cells false [.pointer (some ⟨k, 0, none⟩)]) := fun z => (List.getElem?_set_ne (by omega)).trans C
  replace c : ∀ z : Blk, (M4.set (H.length + 1) z)[H.length + 1]? = some z := fun z => List.getElem?_set_self (List.getElem?_eq_some_iff.1 D).1
  refine And.intro (lag_list (l := [8]) (by kernel_rfl) (lag_cons (lag_one rfl (by simp [C, m, D, o, E, p, f, d, c, j, u, w, q, g, x, r, y, A, B, s]; constructor <;> rfl) rfl (by simp [C, m, D, o, E, p, f, d, c, j, u, w, q, g, x, r, y, A, B, s]) (by simp [sameL, sameV_agg, sameV_int, sameV_bool, sameV_str, sameV_ptr, sameV_sl, sameV_map, same1_int, same1_bool, same1_str, same1_ptr, same1_sl, same1_map, C, m, D, o, E, p, f, d, c, j, u, w, q, g, x, r, y, A, B, s]) rfl) rfl)) ?_
  refine XK.run [10] (by kernel_rfl) (by simp [C, m, D, o, E, p, f, d, c, j, u, w, q, g, x, r, y, A, B, s]; constructor <;> rfl) ?_
  refine XK.call rfl (by simp [C, m, D, o, E, p, f, d, c, j, u, w, q, g, x, r, y, A, B, s]) rfl (by simp [Tryd.func76, Tryd.f76, C, m, D, o, E, p, f, d, c, j, u, w, q, g, x, r, y, A, B, s]; constructor <;> rfl) ?_
  refine FSem.mono (num_s hz C) ?_
  rintro _ M5 ⟨x5, b5, rfl, g5, hz, hfr⟩
  replace C := hfr.cell C (by have := hz0.kN; omega)
  replace m := cellr C
  replace D := hfr.cell D (by have := hz0.kN; omega)
  replace o := cellr D
  replace E := hfr.cell E (by have := hz0.kN; omega)
  replace p := cellr E
  replace hfk := hfk.trans hfr
  replace f : ∀ z : Blk, (M5.set M1.length z)[M1.length]? = some z := fun z => List.getElem?_set_self (List.getElem?_eq_some_iff.1 E).1
  replace d : ∀ z : Blk, (M5.set M1.length z)[H.length]? = some (.cells false [.pointer (some ⟨k, 0, none⟩)]) := fun z => (List.getElem?_set_ne (by omega)).trans C
  replace c : ∀ z : Blk, (M5.set (H.length + 1) z)[H.length + 1]? = some z := fun z => List.getElem?_set_self (List.getElem?_eq_some_iff.1 D).1
  refine And.intro (lag_list (l := [8]) (by kernel_rfl) (lag_cons (lag_one rfl (by simp [C, m, D, o, E, p, f, d, c, j, u, w, q, g, x, r, y, A, B, s]; constructor <;> rfl) rfl (by simp [C, m, D, o, E, p, f, d, c, j, u, w, q, g, x, r, y, A, B, s]) (by simp [sameL, sameV_agg, sameV_int, sameV_bool, sameV_str, sameV_ptr, sameV_sl, sameV_map, same1_int, same1_bool, same1_str, same1_ptr, same1_sl, same1_map, C, m, D, o, E, p, f, d, c, j, u, w, q, g, x, r, y, A, B, s]) rfl) rfl)) ?_
  refine XK.call rfl (by simp [C, m, D, o, E, p, f, d, c, j, u, w, q, g, x, r, y, A, B, s]) rfl (by simp [Tryd.func76, Tryd.f76, C, m, D, o, E, p, f, d, c, j, u, w, q, g, x, r, y, A, B, s]; constructor <;> rfl) ?_
  refine FSem.mono (num_s hz C) ?_
  rintro _ M6 ⟨x6, b6, rfl, g6, hz, hfr⟩
  replace C := hfr.cell C (by have := hz0.kN; omega)
  replace m := cellr C
  replace D := hfr.cell D (by have := hz0.kN; omega)
  replace o := cellr D
  replace E := hfr.cell E (by have := hz0.kN; omega)
  replace p := cellr E
  replace hfk := hfk.trans hfr
  replace f : ∀ z : Blk, (M6.set M1.length z)[M1.length]? = some z := fun z => List.getElem?_set_self (List.getElem?_eq_some_iff.1 E).1
  replace d : ∀ z : Blk, (M6.set M1.length z)[H.length]? = some (.cells false [.pointer (some ⟨k, 0, none⟩)]) := fun z => (List.getElem?_set_ne (by omega)).trans C
  replace c : ∀ z : Blk, (M6.set (H.length + 1) z)[H.length + 1]? = some z := fun z => List.getElem?_set_self (List.getElem?_eq_some_iff.1 D).1
  refine And.intro (lag_list (l := [8]) (by kernel_rfl) (lag_cons (lag_one rfl (by simp [C, m, D, o, E, p, f, d, c, j, u, w, q, g, x, r, y, A, B, s]; constructor <;> rfl) rfl (by simp [C, m, D, o, E, p, f, d, c, j, u, w, q, g, x, r, y, A, B, s]) (by simp [sameL, sameV_agg, sameV_int, sameV_bool, sameV_str, sameV_ptr, sameV_sl, sameV_map, same1_int, same1_bool, same1_str, same1_ptr, same1_sl, same1_map, C, m, D, o, E, p, f, d, c, j, u, w, q, g, x, r, y, A, B, s]) rfl) rfl)) ?_
  refine XK.call rfl (by simp [C, m, D, o, E, p, f, d, c, j, u, w, q, g, x, r, y, A, B, s]) rfl (by simp [Tryd.func77, Tryd.f77, C, m, D, o, E, p, f, d, c, j, u, w, q, g, x, r, y, A, B, s]; constructor <;> rfl) ?_
  refine FSem.mono (mon_s hz C) ?_
  rintro _ M7 ⟨x7, b7, rfl, g7, hz, hfr⟩
  replace C := hfr.cell C (by have := hz0.kN; omega)
  replace m := cellr C
  replace D := hfr.cell D (by have := hz0.kN; omega)
  replace o := cellr D
  replace E := hfr.cell E (by have := hz0.kN; omega)
  replace p := cellr E
  replace hfk := hfk.trans hfr
  replace f : ∀ z : Blk, (M7.set M1.length z)[M1.length]? = some z := fun z => List.getElem?_set_self (List.getElem?_eq_some_iff.1 E).1
  replace d : ∀ z : Blk, (M7.set M1.length z)[H.length]? = some (.cells false [.pointer (some ⟨k, 0, none⟩)]) := fun z => (List.getElem?_set_ne (by omega)).trans C
  replace c : ∀ z : Blk, (M7.set (H.length + 1) z)[H.length + 1]? = some z := fun z => List.getElem?_set_self (List.getElem?_eq_some_iff.1 D).1
  refine And.intro (lag_list (l := [8]) (by kernel_rfl) (lag_cons (lag_one rfl (by simp [C, m, D, o, E, p, f, d, c, j, u, w, q, g, x, r, y, A, B, s]; constructor <;> rfl) rfl (by simp [C, m, D, o, E, p, f, d, c, j, u, w, q, g, x, r, y, A, B, s]) (by simp [sameL, sameV_agg, sameV_int, sameV_bool, sameV_str, sameV_ptr, sameV_sl, sameV_map, same1_int, same1_bool, same1_str, same1_ptr, same1_sl, same1_map, C, m, D, o, E, p, f, d, c, j, u, w, q, g, x, r, y, A, B, s]) rfl) rfl)) ?_
  refine XK.call rfl (by simp [C, m, D, o, E, p, f, d, c, j, u, w, q, g, x, r, y, A, B, s]) rfl (by simp [Tryd.func74, Tryd.f74, C, m, D, o, E, p, f, d, c, j, u, w, q, g, x, r, y, A, B, s]; constructor <;> rfl) ?_
  refine FSem.mono (pgflag_g hz) ?_
  rintro _ M8 ⟨x8, b8, rfl, g8, hz, hfr⟩
  replace C := hfr.cell C (by have := hz0.kN; omega)
  replace m := cellr C
  replace D := hfr.cell D (by have := hz0.kN; omega)
  replace o := cellr D
  replace E := hfr.cell E (by have := hz0.kN; omega)
  replace p := cellr E
  replace hfk := hfk.trans hfr
  replace f : ∀ z : Blk, (M8.set M1.length z)[M1.length]? = some z := fun z => List.getElem?_set_self (List.getElem?_eq_some_iff.1 E).1
  replace d : ∀ z : Blk, (M8.set M1.length z)[H.length]? = some (.cells false [.pointer (some ⟨k, 0, none⟩)]) := fun z => (List.getElem?_set_ne (by omega)).trans C
  replace c : ∀ z : Blk, (M8.set (H.length + 1) z)[H.length + 1]? = some z := fun z => List.getElem?_set_self (List.getElem?_eq_some_iff.1 D).1
  refine And.intro (lag_list (l := []) (by kernel_rfl) rfl) ?_
  refine XK.one rfl (by simp [C, m, D, o, E, p, f, d, c, j, u, w, q, g, x, r, y, A, B, s]) rfl (by simp [C, m, D, o, E, p, f, d, c, j, u, w, q, g, x, r, y, A, B, s]; constructor <;> rfl) (lag_list (l := []) (by kernel_rfl) rfl) ?_
  refine XK.run [12] (by kernel_rfl) (by simp [C, m, D, o, E, p, f, d, c, j, u, w, q, g, x, r, y, A, B, s]; constructor <;> rfl) ?_
  refine XK.one rfl (by simp [C, m, D, o, E, p, f, d, c, j, u, w, q, g, x, r, y, A, B, s]) rfl (by simp [C, m, D, o, E, p, f, d, c, j, u, w, q, g, x, r, y, A, B, s]; constructor <;> rfl) (lag_list (l := []) (by kernel_rfl) rfl) ?_
  refine XK.run [14] (by kernel_rfl) (by simp [C, m, D, o, E, p, f, d, c, j, u, w, q, g, x, r, y, A, B, s]; constructor <;> rfl) ?_
  refine XK.one rfl (by simp [C, m, D, o, E, p, f, d, c, j, u, w, q, g, x, r, y, A, B, s]) rfl (by simp [C, m, D, o, E, p, f, d, c, j, u, w, q, g, x, r, y, A, B, s]; constructor <;> rfl) (lag_list (l := []) (by kernel_rfl) rfl) ?_
  refine XK.run [16] (by kernel_rfl) (by simp [C, m, D, o, E, p, f, d, c, j, u, w, q, g, x, r, y, A, B, s]; constructor <;> rfl) ?_
  refine XK.one rfl (by simp [C, m, D, o, E, p, f, d, c, j, u, w, q, g, x, r, y, A, B, s]) rfl (by simp [C, m, D, o, E, p, f, d, c, j, u, w, q, g, x, r, y, A, B, s]; constructor <;> rfl) (lag_list (l := []) (by kernel_rfl) rfl) ?_
  refine XK.run [18] (by kernel_rfl) (by simp [C, m, D, o, E, p, f, d, c, j, u, w, q, g, x, r, y, A, B, s]; constructor <;> rfl) ?_
  refine XK.one rfl (by simp [C, m, D, o, E, p, f, d, c, j, u, w, q, g, x, r, y, A, B, s]) rfl (by simp [C, m, D, o, E, p, f, d, c, j, u, w, q, g, x, r, y, A, B, s]; constructor <;> rfl) (lag_list (l := []) (by kernel_rfl) rfl) ?_
  refine XK.nil ?_
  refine DK.abs (fun MB => Bz N MB k b8 ∧ FrK H k MB ∧ MB[H.length]? = some (.cells false [.pointer (some ⟨k, 0, none⟩)]) ∧ MB[H.length + 1]? = some (.cells false [.int .u8 0, .int .i64 0, .int .i64 0, .int .i64 0, .int .i64 0, .int .i64 0, .bool false, .slice none 0 0, .int .i64 0, .int .i64 0, .int .i64 0, .int .i64 0, .int .i64 0]) ∧ MB[M1.length]? = some (.cells false [.int .u8 (IntKind.u8.wrap x1), .int .i64 x3, .int .i64 x4, .int .i64 x5, .int .i64 x6, .int .i64 x7, .bool x8, .slice none 0 0, .int .i64 0, .int .i64 0, .int .i64 0, .int .i64 0, .int .i64 0])) ⟨hz.set (by omega) _, hfk.set (by omega) _, (List.getElem?_set_ne (by omega)).trans C, (List.getElem?_set_ne (by omega)).trans D, List.getElem?_set_self (List.getElem?_eq_some_iff.1 E).1⟩ ?_
  clear hz hfk
  rintro MB ⟨hz, hfk, cx5, c45, ca5⟩
  replace C := cx5
  replace D := c45
  replace E := ca5
  replace m := cellr C
  replace o := cellr D
  replace p := cellr E
  replace f : ∀ z : Blk, (MB.set M1.length z)[M1.length]? = some z := fun z => List.getElem?_set_self (List.getElem?_eq_some_iff.1 E).1
  replace d : ∀ z : Blk, (MB.set M1.length z)[H.length]? = some (.cells false [.pointer (some ⟨k, 0, none⟩)]) := fun z => (List.getElem?_set_ne (by omega)).trans C
  replace c : ∀ z : Blk, (MB.set (H.length + 1) z)[H.length + 1]? = some z := fun z => List.getElem?_set_self (List.getElem?_eq_some_iff.1 D).1
  refine DK.seq ?_
  refine DK.region (is := [0, 1, 2, 3, 4, 5, 6, 7, 8, 9, 10, 11, 12]) (by kernel_rfl) rfl ?_
  refine WK.run [0] (by simp [C, m, D, o, E, p, f, d, c, j, u, w, q, g, x, r, y, A, B, s]; constructor <;> rfl) ?_
  refine WK.call rfl (by simp [C, m, D, o, E, p, f, d, c, j, u, w, q, g, x, r, y, A, B, s]) (by simp [Tryd.func76, Tryd.f76, C, m, D, o, E, p, f, d, c, j, u, w, q, g, x, r, y, A, B, s]; constructor <;> rfl) ?_
  refine FSem.mono (num_s hz C) ?_
  rintro _ M9 ⟨x9, b9, rfl, g9, hz, hfr⟩
  replace C := hfr.cell C (by have := hz0.kN; omega)
  replace m := cellr C
  replace D := hfr.cell D (by have := hz0.kN; omega)
  replace o := cellr D
  replace E := hfr.cell E (by have := hz0.kN; omega)
  replace p := cellr E
  replace hfk := hfk.trans hfr
  replace f : ∀ z : Blk, (M9.set M1.length z)[M1.length]? = some z := fun z => List.getElem?_set_self (List.getElem?_eq_some_iff.1 E).1
  replace d : ∀ z : Blk, (M9.set M1.length z)[H.length]? = some (.cells false [.pointer (some ⟨k, 0, none⟩)]) := fun z => (List.getElem?_set_ne (by omega)).trans C
  replace c : ∀ z : Blk, (M9.set (H.length + 1) z)[H.length + 1]? = some z := fun z => List.getElem?_set_self (List.getElem?_eq_some_iff.1 D).1
  refine WK.run [2] (by simp [C, m, D, o, E, p, f, d, c, j, u, w, q, g, x, r, y, A, B, s]; constructor <;> rfl) ?_
  refine WK.call rfl (by simp [C, m, D, o, E, p, f, d, c, j, u, w, q, g, x, r, y, A, B, s]) (by simp [Tryd.func76, Tryd.f76, C, m, D, o, E, p, f, d, c, j, u, w, q, g, x, r, y, A, B, s]; constructor <;> rfl) ?_
  refine FSem.mono (num_s hz C) ?_
  rintro _ M10 ⟨x10, b10, rfl, g10, hz, hfr⟩
  replace C := hfr.cell C (by have := hz0.kN; omega)
  replace m := cellr C
  replace D := hfr.cell D (by have := hz0.kN; omega)
  replace o := cellr D
  replace E := hfr.cell E (by have := hz0.kN; omega)
  replace p := cellr E
  replace hfk := hfk.trans hfr
  replace f : ∀ z : Blk, (M10.set M1.length z)[M1.length]? = some z := fun z => List.getElem?_set_self (List.getElem?_eq_some_iff.1 E).1
  replace d : ∀ z : Blk, (M10.set M1.length z)[H.length]? = some (.cells false [.pointer (some ⟨k, 0, none⟩)]) := fun z => (List.getElem?_set_ne (by omega)).trans C
  replace c : ∀ z : Blk, (M10.set (H.length + 1) z)[H.length + 1]? = some z := fun z => List.getElem?_set_self (List.getElem?_eq_some_iff.1 D).1
  refine WK.run [4] (by simp [C, m, D, o, E, p, f, d, c, j, u, w, q, g, x, r, y, A, B, s]; constructor <;> rfl) ?_
  refine WK.call rfl (by simp [C, m, D, o, E, p, f, d, c, j, u, w, q, g, x, r, y, A, B, s]) (by simp [Tryd.func76, Tryd.f76, C, m, D, o, E, p, f, d, c, j, u, w, q, g, x, r, y, A, B, s]; constructor <;> rfl) ?_
  refine FSem.mono (num_s hz C) ?_
  rintro _ M11 ⟨x11, b11, rfl, g11, hz, hfr⟩
  replace C := hfr.cell C (by have := hz0.kN; omega)
  replace m := cellr C
  replace D := hfr.cell D (by have := hz0.kN; omega)
  replace o := cellr D
  replace E := hfr.cell E (by have := hz0.kN; omega)
  replace p := cellr E
  replace hfk := hfk.trans hfr
  replace f : ∀ z : Blk, (M11.set M1.length z)[M1.length]? = some z := fun z => List.getElem?_set_self (List.getElem?_eq_some_iff.1 E).1
  replace d : ∀ z : Blk, (M11.set M1.length z)[H.length]? = some (.cells false [.pointer (some ⟨k, 0, none⟩)]) := fun z => (List.getElem?_set_ne (by omega)).trans C
  replace c : ∀ z : Blk, (M11.set (H.length + 1) z)[H.length + 1]? = some z := fun z => List.getElem?_set_self (List.getElem?_eq_some_iff.1 D).1
  refine WK.run [6] (by simp [C, m, D, o, E, p, f, d, c, j, u, w, q, g, x, r, y, A, B, s]; constructor <;> rfl) ?_
  refine WK.call rfl (by simp [C, m, D, o, E, p, f, d, c, j, u, w, q, g, x, r, y, A, B, s]) (by simp [Tryd.func76, Tryd.f76, C, m, D, o, E, p, f, d, c, j, u, w, q, g, x, r, y, A, B, s]; constructor <;> rfl) ?_
  refine FSem.mono (num_s hz C) ?_
  rintro _ M12 ⟨x12, b12, rfl, g12, hz, hfr⟩
  replace C := hfr.cell C (by have := hz0.kN; omega)
  replace m := cellr C
  replace D := hfr.cell D (by have := hz0.kN; omega)
  replace o := cellr D
  replace E := hfr.cell E (by have := hz0.kN; omega)
  replace p := cellr E
  replace hfk := hfk.trans hfr
  replace f : ∀ z : Blk, (M12.set M1.length z)[M1.length]? = some z := fun z => List.getElem?_set_self (List.getElem?_eq_some_iff.1 E).1
  replace d : ∀ z : Blk, (M12.set M1.length z)[H.length]? = some (.cells false [.pointer (some ⟨k, 0, none⟩)]) := fun z => (List.getElem?_set_ne (by omega)).trans C
  replace c : ∀ z : Blk, (M12.set (H.length + 1) z)[H.length + 1]? = some z := fun z => List.getElem?_set_self (List.getElem?_eq_some_iff.1 D).1
  refine WK.run [8] (by simp [C, m, D, o, E, p, f, d, c, j, u, w, q, g, x, r, y, A, B, s]; constructor <;> rfl) ?_
  refine WK.call rfl (by simp [C, m, D, o, E, p, f, d, c, j, u, w, q, g, x, r, y, A, B, s]) (by simp [Tryd.func77, Tryd.f77, C, m, D, o, E, p, f, d, c, j, u, w, q, g, x, r, y, A, B, s]; constructor <;> rfl) ?_
  refine FSem.mono (mon_s hz C) ?_
  rintro _ M13 ⟨x13, b13, rfl, g13, hz, hfr⟩
  replace C := hfr.cell C (by have := hz0.kN; omega)
  replace m := cellr C
  replace D := hfr.cell D (by have := hz0.kN; omega)
  replace o := cellr D
  replace E := hfr.cell E (by have := hz0.kN; omega)
  replace p := cellr E
  replace hfk := hfk.trans hfr
  replace f : ∀ z : Blk, (M13.set M1.length z)[M1.length]? = some z := fun z => List.getElem?_set_self (List.getElem?_eq_some_iff.1 E).1
  replace d : ∀ z : Blk, (M13.set M1.length z)[H.length]? = some (.cells false [.pointer (some ⟨k, 0, none⟩)]) := fun z => (List.getElem?_set_ne (by omega)).trans C
  replace c : ∀ z : Blk, (M13.set (H.length + 1) z)[H.length + 1]? = some z := fun z => List.getElem?_set_self (List.getElem?_eq_some_iff.1 D).1
  refine WK.run [10, 11, 12] (by simp [C, m, D, o, E, p, f, d, c, j, u, w, q, g, x, r, y, A, B, s]; constructor <;> rfl) ?_
  refine WK.nil ?_
  refine DK.abs (fun MC => Bz N MC k b13 ∧ FrK H k MC ∧ MC[H.length]? = some (.cells false [.pointer (some ⟨k, 0, none⟩)]) ∧ MC[H.length + 1]? = some (.cells false [.int .u8 0, .int .i64 0, .int .i64 0, .int .i64 0, .int .i64 0, .int .i64 0, .bool false, .slice none 0 0, .int .i64 0, .int .i64 0, .int .i64 0, .int .i64 0, .int .i64 0]) ∧ MC[M1.length]? = some (.cells false [.int .u8 (IntKind.u8.wrap x1), .int .i64 x3, .int .i64 x4, .int .i64 x5, .int .i64 x6, .int .i64 x7, .bool x8, .slice none 0 0, .int .i64 x9, .int .i64 x10, .int .i64 x11, .int .i64 x12, .int .i64 x13])) ⟨hz.set (by omega) _, hfk.set (by omega) _, (List.getElem?_set_ne (by omega)).trans C, (List.getElem?_set_ne (by omega)).trans D, List.getElem?_set_self (List.getElem?_eq_some_iff.1 E).1⟩ ?_
  clear hz hfk
  rintro MC ⟨hz, hfk, cx5, c45, ca5⟩
  replace C := cx5
  replace D := c45
  replace E := ca5
  replace m := cellr C
  replace o := cellr D
  replace p := cellr E
  replace f : ∀ z : Blk, (MC.set M1.length z)[M1.length]? = some z := fun z => List.getElem?_set_self (List.getElem?_eq_some_iff.1 E).1
  replace d : ∀ z : Blk, (MC.set M1.length z)[H.length]? = some (.cells false [.pointer (some ⟨k, 0, none⟩)]) := fun z => (List.getElem?_set_ne (by omega)).trans C
  replace c : ∀ z : Blk, (MC.set (H.length + 1) z)[H.length + 1]? = some z := fun z => List.getElem?_set_self (List.getElem?_eq_some_iff.1 D).1
  refine DK.seq ?_
  refine DK.seq ?_
  refine DK.region (is := [0, 1, 2]) (by kernel_rfl) rfl ?_
  refine WK.run [0] (by simp [C, m, D, o, E, p, f, d, c, j, u, w, q, g, x, r, y, A, B, s]; constructor <;> rfl) ?_
  refine WK.call rfl (by simp [C, m, D, o, E, p, f, d, c, j, u, w, q, g, x, r, y, A, B, s]) (by simp [Tryd.func76, Tryd.f76, C, m, D, o, E, p, f, d, c, j, u, w, q, g, x, r, y, A, B, s]; constructor <;> rfl) ?_
  refine FSem.mono (num_s hz C) ?_
  rintro _ M14 ⟨x14, b14, rfl, g14, hz, hfr⟩
  replace C := hfr.cell C (by have := hz0.kN; omega)
  replace m := cellr C
  replace D := hfr.cell D (by have := hz0.kN; omega)
  replace o := cellr D
  replace E := hfr.cell E (by have := hz0.kN; omega)
  replace p := cellr E
  replace hfk := hfk.trans hfr
  replace f : ∀ z : Blk, (M14.set M1.length z)[M1.length]? = some z := fun z => List.getElem?_set_self (List.getElem?_eq_some_iff.1 E).1
  replace d : ∀ z : Blk, (M14.set M1.length z)[H.length]? = some (.cells false [.pointer (some ⟨k, 0, none⟩)]) := fun z => (List.getElem?_set_ne (by omega)).trans C
  replace c : ∀ z : Blk, (M14.set (H.length + 1) z)[H.length + 1]? = some z := fun z => List.getElem?_set_self (List.getElem?_eq_some_iff.1 D).1
  refine WK.run [2] (by simp [C, m, D, o, E, p, f, d, c, j, u, w, q, g, x, r, y, A, B, s]; constructor <;> rfl) ?_
  refine WK.nil ?_
  have hx14 : 0 ≤ x14 ∧ x14 ≤ 3652058 := by have := get_bd (lo := 0) (hi := 3652058) (by decide) (by decide) b13; rw [show getX 0 3652058 b13 = (x14, b14) from g14] at this; exact this
  refine DK.block ?_
  refine DK.loopF [8, 9, 54, 55, 56, 57, 58, 59, 60, 61, 62, 63, 64, 65, 66, 67, 68, 69, 70, 71, 72, 73, 74, 75, 76, 77, 78, 79, 80, 81, 82, 83, 84, 85, 86] [8] (fun fl vs H' => ∃ (n : Int) (bb : Bx) (sc : Value) (cs : List Cy), vs = [.int .i64 n] ∧ (Bz N H' k bb ∧ FrK H k H' ∧ H'[H.length]? = some (.cells false [.pointer (some ⟨k, 0, none⟩)]) ∧ H'[H.length + 1]? = some (.cells false [.int .u8 0, .int .i64 0, .int .i64 0, .int .i64 0, .int .i64 0, .int .i64 0, .bool false, .slice none 0 0, .int .i64 0, .int .i64 0, .int .i64 0, .int .i64 0, .int .i64 0]) ∧ H'[M1.length]? = some (.cells false [.int .u8 (IntKind.u8.wrap x1), .int .i64 x3, .int .i64 x4, .int .i64 x5, .int .i64 x6, .int .i64 x7, .bool x8, sc, .int .i64 x9, .int .i64 x10, .int .i64 x11, .int .i64 x12, .int .i64 x13]) ∧ OpenAt H' sc cs) ∧ New (M1.length + 1) sc ∧ n ≤ 3652058 ∧ cs.length + n.toNat ≤ 3652058 ∧ cysX x14.toNat b14 = (cs ++ (cysX n.toNat bb).1, (cysX n.toNat bb).2) ∧ fl = n.toNat) (x14.toNat) (by kernel_rfl) ?_ ?_
  · refine ⟨_, b14, .slice none 0 0, [], rfl, ?_⟩
    exact ⟨⟨hz, hfk, C, D, E, .inl ⟨rfl, rfl⟩⟩, New.nil _ _ _, by omega, by simp; omega, by simp, rfl⟩
  rintro fl f1j M ⟨n, bb, sc, cs, hv, hf⟩
  clear hz hfk
  obtain ⟨⟨hz, hfk, cx0, c40, ca0, hO⟩, hNs, hn1, hcl, hcy, hfl⟩ := hf
  replace C := cx0
  replace D := c40
  replace E := ca0
  replace m := cellr C
  replace o := cellr D
  replace p := cellr E
  replace u := hO.cells.1
  replace w := hO.cells.2
  replace x := hO.same.2
  have hkM := hz.lt
  have hAM : M1.length < M.length := (List.getElem?_eq_some_iff.1 E).1
  replace f : ∀ z : Blk, (M.set M1.length z)[M1.length]? = some z := fun z => List.getElem?_set_self (List.getElem?_eq_some_iff.1 E).1
  replace d : ∀ z : Blk, (M.set M1.length z)[H.length]? = some (.cells false [.pointer (some ⟨k, 0, none⟩)]) := fun z => (List.getElem?_set_ne (by omega)).trans C
  replace c : ∀ z : Blk, (M.set (H.length + 1) z)[H.length + 1]? = some z := fun z => List.getElem?_set_self (List.getElem?_eq_some_iff.1 D).1
  simp only [List.map_cons, List.map_nil, List.cons.injEq, and_true] at hv
  have hv1_0 := hv
  refine DK.from ((setL_S (by decide) _ _).trans (by simp [setS, hv1_0]; exact rfl)) ?_
  refine DK.seq ?_
  refine DK.seq ?_
  refine DK.region (is := [0, 1, 2, 3, 4, 5, 6]) (by kernel_rfl) rfl ?_
  refine WK.run [0, 1, 2] (by simp [C, m, D, o, E, p, f, d, c, j, u, w, q, g, x, r, y, A, B, s]; constructor <;> rfl) ?_
  refine WK.split (t := 56) rfl (fun h => ?_) (fun h => ?_)
  · try simp only [h]
    replace h := Tr.out h
    have hn0 : 0 < n := h
    refine WK.run [3] (by simp [C, m, D, o, E, p, f, d, c, j, u, w, q, g, x, r, y, A, B, s]; constructor <;> rfl) ?_
    refine WK.call rfl (by simp [C, m, D, o, E, p, f, d, c, j, u, w, q, g, x, r, y, A, B, s]) (by simp [Tryd.func75, Tryd.f75, C, m, D, o, E, p, f, d, c, j, u, w, q, g, x, r, y, A, B, s]; constructor <;> rfl) ?_
    refine FSem.mono (pfault_g hz) ?_
    rintro _ Hq ⟨rfl, hq⟩
    subst hq
    refine WK.run [5, 6] (by simp [C, m, D, o, E, p, f, d, c, j, u, w, q, g, x, r, y, A, B, s]; constructor <;> rfl) ?_
    refine WK.nil ?_
    refine DK.test rfl rfl (fun h => ?_) (fun h => ?_)
    · try simp only [h]
      replace h := Tr.out h
      have he0 : bb.e = 0 := by simpa using h
      replace y : IntKind.i64.wrap (n - 1) = n - 1 := wrap_in _ (by omega) (by omega)
      refine DK.skip ?_
      refine DK.seq ?_
      refine DK.block ?_
      refine DK.seq ?_
      refine DK.draw rfl (POk.of (ord := [0, 2, 4, 7, 9, 11, 13, 15, 18, 1, 3, 5, 6, 8, 10, 12, 14, 16, 17, 19]) (by kernel_rfl)) ?_
      refine XK.run [0, 2, 4, 7] (by kernel_rfl) (by simp [C, m, D, o, E, p, f, d, c, j, u, w, q, g, x, r, y, A, B, s]; constructor <;> rfl) ?_
      refine XK.run [9, 11, 13, 15] (by kernel_rfl) (by simp [C, m, D, o, E, p, f, d, c, j, u, w, q, g, x, r, y, A, B, s]; constructor <;> rfl) ?_
      refine XK.run [18] (by kernel_rfl) (by simp [C, m, D, o, E, p, f, d, c, j, u, w, q, g, x, r, y, A, B, s]; constructor <;> rfl) ?_
      refine XK.call rfl (by simp [C, m, D, o, E, p, f, d, c, j, u, w, q, g, x, r, y, A, B, s]) rfl (by simp [Tryd.func76, Tryd.f76, C, m, D, o, E, p, f, d, c, j, u, w, q, g, x, r, y, A, B, s]; constructor <;> rfl) ?_
      refine FSem.mono (num_s (hz.keep (Keep.app _ _)) (m _)) ?_
      rintro _ M21 ⟨x21, b21, rfl, g21, hz, hfr⟩
      replace q := hfr.cell (mem_app _ _) (by have := hz0.kN; omega)
      replace g := cellr q
      replace C := hfr.cell (m _) (by have := hz0.kN; omega)
      replace m := cellr C
      replace D := hfr.cell (o _) (by have := hz0.kN; omega)
      replace o := cellr D
      replace E := hfr.cell (p _) (by have := hz0.kN; omega)
      replace p := cellr E
      replace hfk := (hfk.trans (FrK.of (Keep.app _ _) k)).trans hfr
      have hrow := (hO.app _).frk hfr (hNs.ne (by have := hz0.kN; omega))
      replace f : ∀ z : Blk, (M21.set M1.length z)[M1.length]? = some z := fun z => List.getElem?_set_self (List.getElem?_eq_some_iff.1 E).1
      replace d : ∀ z : Blk, (M21.set M1.length z)[H.length]? = some (.cells false [.pointer (some ⟨k, 0, none⟩)]) := fun z => (List.getElem?_set_ne (by omega)).trans C
      replace c : ∀ z : Blk, (M21.set (H.length + 1) z)[H.length + 1]? = some z := fun z => List.getElem?_set_self (List.getElem?_eq_some_iff.1 D).1
      refine And.intro (lag_list (l := [4, 7, 11, 13, 15]) (by kernel_rfl) (lag_cons (lag_one rfl (by simp [C, m, D, o, E, p, f, d, c, j, u, w, q, g, x, r, y, A, B, s]; constructor <;> rfl) rfl (by simp [C, m, D, o, E, p, f, d, c, j, u, w, q, g, x, r, y, A, B, s]) (by simp [sameL, sameV_agg, sameV_int, sameV_bool, sameV_str, sameV_ptr, sameV_sl, sameV_map, same1_int, same1_bool, same1_str, same1_ptr, same1_sl, same1_map, C, m, D, o, E, p, f, d, c, j, u, w, q, g, x, r, y, A, B, s]) rfl) (lag_cons (lag_one rfl (by simp [C, m, D, o, E, p, f, d, c, j, u, w, q, g, x, r, y, A, B, s]; constructor <;> rfl) rfl (by simp [C, m, D, o, E, p, f, d, c, j, u, w, q, g, x, r, y, A, B, s]) (by simp [sameL, sameV_agg, sameV_int, sameV_bool, sameV_str, sameV_ptr, sameV_sl, sameV_map, same1_int, same1_bool, same1_str, same1_ptr, same1_sl, same1_map, C, m, D, o, E, p, f, d, c, j, u, w, q, g, x, r, y, A, B, s]) rfl) (lag_cons (lag_one rfl (by simp [C, m, D, o, E, p, f, d, c, j, u, w, q, g, x, r, y, A, B, s]; constructor <;> rfl) rfl (by simp [C, m, D, o, E, p, f, d, c, j, u, w, q, g, x, r, y, A, B, s]) (by simp [sameL, sameV_agg, sameV_int, sameV_bool, sameV_str, sameV_ptr, sameV_sl, sameV_map, same1_int, same1_bool, same1_str, same1_ptr, same1_sl, same1_map, C, m, D, o, E, p, f, d, c, j, u, w, q, g, x, r, y, A, B, s]) rfl) (lag_cons (lag_one rfl (by simp [C, m, D, o, E, p, f, d, c, j, u, w, q, g, x, r, y, A, B, s]; constructor <;> rfl) rfl (by simp [C, m, D, o, E, p, f, d, c, j, u, w, q, g, x, r, y, A, B, s]) (by simp [sameL, sameV_agg, sameV_int, sameV_bool, sameV_str, sameV_ptr, sameV_sl, sameV_map, same1_int, same1_bool, same1_str, same1_ptr, same1_sl, same1_map, C, m, D, o, E, p, f, d, c, j, u, w, q, g, x, r, y, A, B, s]) rfl) (lag_cons (lag_one rfl (by simp [C, m, D, o, E, p, f, d, c, j, u, w, q, g, x, r, y, A, B, s]; constructor <;> rfl) rfl (by simp [C, m, D, o, E, p, f, d, c, j, u, w, q, g, x, r, y, A, B, s]) (by simp [sameL, sameV_agg, sameV_int, sameV_bool, sameV_str, sameV_ptr, sameV_sl, sameV_map, same1_int, same1_bool, same1_str, same1_ptr, same1_sl, same1_map, C, m, D, o, E, p, f, d, c, j, u, w, q, g, x, r, y, A, B, s]) rfl) rfl)))))) ?_
      refine XK.call rfl (by simp [C, m, D, o, E, p, f, d, c, j, u, w, q, g, x, r, y, A, B, s]) rfl (by simp [Tryd.func76, Tryd.f76, C, m, D, o, E, p, f, d, c, j, u, w, q, g, x, r, y, A, B, s]; constructor <;> rfl) ?_
      refine FSem.mono (num_s hz C) ?_
      rintro _ M22 ⟨x22, b22, rfl, g22, hz, hfr⟩
      replace C := hfr.cell C (by have := hz0.kN; omega)
      replace m := cellr C
      replace D := hfr.cell D (by have := hz0.kN; omega)
      replace o := cellr D
      replace E := hfr.cell E (by have := hz0.kN; omega)
      replace p := cellr E
      replace q := hfr.cell q (by have := hz0.kN; omega)
      replace g := cellr q
      replace hfk := hfk.trans hfr
      replace f : ∀ z : Blk, (M22.set M1.length z)[M1.length]? = some z := fun z => List.getElem?_set_self (List.getElem?_eq_some_iff.1 E).1
      replace d : ∀ z : Blk, (M22.set M1.length z)[H.length]? = some (.cells false [.pointer (some ⟨k, 0, none⟩)]) := fun z => (List.getElem?_set_ne (by omega)).trans C
      replace c : ∀ z : Blk, (M22.set (H.length + 1) z)[H.length + 1]? = some z := fun z => List.getElem?_set_self (List.getElem?_eq_some_iff.1 D).1
      replace hrow := hrow.frk hfr (hNs.ne (by have := hz0.kN; omega))
      refine And.intro (lag_list (l := [4, 7, 11, 13, 15]) (by kernel_rfl) (lag_cons (lag_one rfl (by simp [C, m, D, o, E, p, f, d, c, j, u, w, q, g, x, r, y, A, B, s]; constructor <;> rfl) rfl (by simp [C, m, D, o, E, p, f, d, c, j, u, w, q, g, x, r, y, A, B, s]) (by simp [sameL, sameV_agg, sameV_int, sameV_bool, sameV_str, sameV_ptr, sameV_sl, sameV_map, same1_int, same1_bool, same1_str, same1_ptr, same1_sl, same1_map, C, m, D, o, E, p, f, d, c, j, u, w, q, g, x, r, y, A, B, s]) rfl) (lag_cons (lag_one rfl (by simp [C, m, D, o, E, p, f, d, c, j, u, w, q, g, x, r, y, A, B, s]; constructor <;> rfl) rfl (by simp [C, m, D, o, E, p, f, d, c, j, u, w, q, g, x, r, y, A, B, s]) (by simp [sameL, sameV_agg, sameV_int, sameV_bool, sameV_str, sameV_ptr, sameV_sl, sameV_map, same1_int, same1_bool, same1_str, same1_ptr, same1_sl, same1_map, C, m, D, o, E, p, f, d, c, j, u, w, q, g, x, r, y, A, B, s]) rfl) (lag_cons (lag_one rfl (by simp [C, m, D, o, E, p, f, d, c, j, u, w, q, g, x, r, y, A, B, s]; constructor <;> rfl) rfl (by simp [C, m, D, o, E, p, f, d, c, j, u, w, q, g, x, r, y, A, B, s]) (by simp [sameL, sameV_agg, sameV_int, sameV_bool, sameV_str, sameV_ptr, sameV_sl, sameV_map, same1_int, same1_bool, same1_str, same1_ptr, same1_sl, same1_map, C, m, D, o, E, p, f, d, c, j, u, w, q, g, x, r, y, A, B, s]) rfl) (lag_cons (lag_one rfl (by simp [C, m, D, o, E, p, f, d, c, j, u, w, q, g, x, r, y, A, B, s]; constructor <;> rfl) rfl (by simp [C, m, D, o, E, p, f, d, c, j, u, w, q, g, x, r, y, A, B, s]) (by simp [sameL, sameV_agg, sameV_int, sameV_bool, sameV_str, sameV_ptr, sameV_sl, sameV_map, same1_int, same1_bool, same1_str, same1_ptr, same1_sl, same1_map, C, m, D, o, E, p, f, d, c, j, u, w, q, g, x, r, y, A, B, s]) rfl) (lag_cons (lag_one rfl (by simp [C, m, D, o, E, p, f, d, c, j, u, w, q, g, x, r, y, A, B, s]; constructor <;> rfl) rfl (by simp [C, m, D, o, E, p, f, d, c, j, u, w, q, g, x, r, y, A, B, s]) (by simp [sameL, sameV_agg, sameV_int, sameV_bool, sameV_str, sameV_ptr, sameV_sl, sameV_map, same1_int, same1_bool, same1_str, same1_ptr, same1_sl, same1_map, C, m, D, o, E, p, f, d, c, j, u, w, q, g, x, r, y, A, B, s]) rfl) rfl)))))) ?_
      refine XK.call rfl (by simp [C, m, D, o, E, p, f, d, c, j, u, w, q, g, x, r, y, A, B, s]) rfl (by simp [Tryd.func48, Tryd.f48, C, m, D, o, E, p, f, d, c, j, u, w, q, g, x, r, y, A, B, s]; constructor <;> rfl) ?_
      refine FSem.mono (pget_g 1 6 hz) ?_
      rintro _ M23 ⟨x23, b23, rfl, g23, hz, hfr⟩
      replace C := hfr.cell C (by have := hz0.kN; omega)
      replace m := cellr C
      replace D := hfr.cell D (by have := hz0.kN; omega)
      replace o := cellr D
      replace E := hfr.cell E (by have := hz0.kN; omega)
      replace p := cellr E
      replace q := hfr.cell q (by have := hz0.kN; omega)
      replace g := cellr q
      replace hfk := hfk.trans hfr
      replace f : ∀ z : Blk, (M23.set M1.length z)[M1.length]? = some z := fun z => List.getElem?_set_self (List.getElem?_eq_some_iff.1 E).1
      replace d : ∀ z : Blk, (M23.set M1.length z)[H.length]? = some (.cells false [.pointer (some ⟨k, 0, none⟩)]) := fun z => (List.getElem?_set_ne (by omega)).trans C
      replace c : ∀ z : Blk, (M23.set (H.length + 1) z)[H.length + 1]? = some z := fun z => List.getElem?_set_self (List.getElem?_eq_some_iff.1 D).1
      replace hrow := hrow.frk hfr (hNs.ne (by have := hz0.kN; omega))
      refine And.intro (lag_list (l := [7, 11, 13, 15]) (by kernel_rfl) (lag_cons (lag_one rfl (by simp [C, m, D, o, E, p, f, d, c, j, u, w, q, g, x, r, y, A, B, s]; constructor <;> rfl) rfl (by simp [C, m, D, o, E, p, f, d, c, j, u, w, q, g, x, r, y, A, B, s]) (by simp [sameL, sameV_agg, sameV_int, sameV_bool, sameV_str, sameV_ptr, sameV_sl, sameV_map, same1_int, same1_bool, same1_str, same1_ptr, same1_sl, same1_map, C, m, D, o, E, p, f, d, c, j, u, w, q, g, x, r, y, A, B, s]) rfl) (lag_cons (lag_one rfl (by simp [C, m, D, o, E, p, f, d, c, j, u, w, q, g, x, r, y, A, B, s]; constructor <;> rfl) rfl (by simp [C, m, D, o, E, p, f, d, c, j, u, w, q, g, x, r, y, A, B, s]) (by simp [sameL, sameV_agg, sameV_int, sameV_bool, sameV_str, sameV_ptr, sameV_sl, sameV_map, same1_int, same1_bool, same1_str, same1_ptr, same1_sl, same1_map, C, m, D, o, E, p, f, d, c, j, u, w, q, g, x, r, y, A, B, s]) rfl) (lag_cons (lag_one rfl (by simp [C, m, D, o, E, p, f, d, c, j, u, w, q, g, x, r, y, A, B, s]; constructor <;> rfl) rfl (by simp [C, m, D, o, E, p, f, d, c, j, u, w, q, g, x, r, y, A, B, s]) (by simp [sameL, sameV_agg, sameV_int, sameV_bool, sameV_str, sameV_ptr, sameV_sl, sameV_map, same1_int, same1_bool, same1_str, same1_ptr, same1_sl, same1_map, C, m, D, o, E, p, f, d, c, j, u, w, q, g, x, r, y, A, B, s]) rfl) (lag_cons (lag_one rfl (by simp [C, m, D, o, E, p, f, d, c, j, u, w, q, g, x, r, y, A, B, s]; constructor <;> rfl) rfl (by simp [C, m, D, o, E, p, f, d, c, j, u, w, q, g, x, r, y, A, B, s]) (by simp [sameL, sameV_agg, sameV_int, sameV_bool, sameV_str, sameV_ptr, sameV_sl, sameV_map, same1_int, same1_bool, same1_str, same1_ptr, same1_sl, same1_map, C, m, D, o, E, p, f, d, c, j, u, w, q, g, x, r, y, A, B, s]) rfl) rfl))))) ?_
      refine XK.run [6] (by kernel_rfl) (by simp [C, m, D, o, E, p, f, d, c, j, u, w, q, g, x, r, y, A, B, s]; constructor <;> rfl) ?_
      refine XK.call rfl (by simp [C, m, D, o, E, p, f, d, c, j, u, w, q, g, x, r, y, A, B, s]) rfl (by simp [Tryd.func48, Tryd.f48, C, m, D, o, E, p, f, d, c, j, u, w, q, g, x, r, y, A, B, s]; constructor <;> rfl) ?_
      refine FSem.mono (pget_g 0 1125899906842624 hz) ?_
      rintro _ M24 ⟨x24, b24, rfl, g24, hz, hfr⟩
      replace C := hfr.cell C (by have := hz0.kN; omega)
      replace m := cellr C
      replace D := hfr.cell D (by have := hz0.kN; omega)
      replace o := cellr D
      replace E := hfr.cell E (by have := hz0.kN; omega)
      replace p := cellr E
      replace q := hfr.cell q (by have := hz0.kN; omega)
      replace g := cellr q
      replace hfk := hfk.trans hfr
      replace f : ∀ z : Blk, (M24.set M1.length z)[M1.length]? = some z := fun z => List.getElem?_set_self (List.getElem?_eq_some_iff.1 E).1
      replace d : ∀ z : Blk, (M24.set M1.length z)[H.length]? = some (.cells false [.pointer (some ⟨k, 0, none⟩)]) := fun z => (List.getElem?_set_ne (by omega)).trans C
      replace c : ∀ z : Blk, (M24.set (H.length + 1) z)[H.length + 1]? = some z := fun z => List.getElem?_set_self (List.getElem?_eq_some_iff.1 D).1
      replace hrow := hrow.frk hfr (hNs.ne (by have := hz0.kN; omega))
      refine And.intro (lag_list (l := [11, 13, 15, 6]) (by kernel_rfl) (lag_cons (lag_one rfl (by simp [C, m, D, o, E, p, f, d, c, j, u, w, q, g, x, r, y, A, B, s]; constructor <;> rfl) rfl (by simp [C, m, D, o, E, p, f, d, c, j, u, w, q, g, x, r, y, A, B, s]) (by simp [sameL, sameV_agg, sameV_int, sameV_bool, sameV_str, sameV_ptr, sameV_sl, sameV_map, same1_int, same1_bool, same1_str, same1_ptr, same1_sl, same1_map, C, m, D, o, E, p, f, d, c, j, u, w, q, g, x, r, y, A, B, s]) rfl) (lag_cons (lag_one rfl (by simp [C, m, D, o, E, p, f, d, c, j, u, w, q, g, x, r, y, A, B, s]; constructor <;> rfl) rfl (by simp [C, m, D, o, E, p, f, d, c, j, u, w, q, g, x, r, y, A, B, s]) (by simp [sameL, sameV_agg, sameV_int, sameV_bool, sameV_str, sameV_ptr, sameV_sl, sameV_map, same1_int, same1_bool, same1_str, same1_ptr, same1_sl, same1_map, C, m, D, o, E, p, f, d, c, j, u, w, q, g, x, r, y, A, B, s]) rfl) (lag_cons (lag_one rfl (by simp [C, m, D, o, E, p, f, d, c, j, u, w, q, g, x, r, y, A, B, s]; constructor <;> rfl) rfl (by simp [C, m, D, o, E, p, f, d, c, j, u, w, q, g, x, r, y, A, B, s]) (by simp [sameL, sameV_agg, sameV_int, sameV_bool, sameV_str, sameV_ptr, sameV_sl, sameV_map, same1_int, same1_bool, same1_str, same1_ptr, same1_sl, same1_map, C, m, D, o, E, p, f, d, c, j, u, w, q, g, x, r, y, A, B, s]) rfl) (lag_cons (lag_one rfl (by simp [C, m, D, o, E, p, f, d, c, j, u, w, q, g, x, r, y, A, B, s]; constructor <;> rfl) rfl (by simp [C, m, D, o, E, p, f, d, c, j, u, w, q, g, x, r, y, A, B, s]) (by simp [sameL, sameV_agg, sameV_int, sameV_bool, sameV_str, sameV_ptr, sameV_sl, sameV_map, same1_int, same1_bool, same1_str, same1_ptr, same1_sl, same1_map, C, m, D, o, E, p, f, d, c, j, u, w, q, g, x, r, y, A, B, s]) rfl) rfl))))) ?_
      refine XK.call rfl (by simp [C, m, D, o, E, p, f, d, c, j, u, w, q, g, x, r, y, A, B, s]) rfl (by simp [Tryd.func77, Tryd.f77, C, m, D, o, E, p, f, d, c, j, u, w, q, g, x, r, y, A, B, s]; constructor <;> rfl) ?_
      refine FSem.mono (mon_s hz C) ?_
      rintro _ M25 ⟨x25, b25, rfl, g25, hz, hfr⟩
      replace C := hfr.cell C (by have := hz0.kN; omega)
      replace m := cellr C
      replace D := hfr.cell D (by have := hz0.kN; omega)
      replace o := cellr D
      replace E := hfr.cell E (by have := hz0.kN; omega)
      replace p := cellr E
      replace q := hfr.cell q (by have := hz0.kN; omega)
      replace g := cellr q
      replace hfk := hfk.trans hfr
      replace f : ∀ z : Blk, (M25.set M1.length z)[M1.length]? = some z := fun z => List.getElem?_set_self (List.getElem?_eq_some_iff.1 E).1
      replace d : ∀ z : Blk, (M25.set M1.length z)[H.length]? = some (.cells false [.pointer (some ⟨k, 0, none⟩)]) := fun z => (List.getElem?_set_ne (by omega)).trans C
      replace c : ∀ z : Blk, (M25.set (H.length + 1) z)[H.length + 1]? = some z := fun z => List.getElem?_set_self (List.getElem?_eq_some_iff.1 D).1
      replace hrow := hrow.frk hfr (hNs.ne (by have := hz0.kN; omega))
      refine And.intro (lag_list (l := [11, 13, 15, 6]) (by kernel_rfl) (lag_cons (lag_one rfl (by simp [C, m, D, o, E, p, f, d, c, j, u, w, q, g, x, r, y, A, B, s]; constructor <;> rfl) rfl (by simp [C, m, D, o, E, p, f, d, c, j, u, w, q, g, x, r, y, A, B, s]) (by simp [sameL, sameV_agg, sameV_int, sameV_bool, sameV_str, sameV_ptr, sameV_sl, sameV_map, same1_int, same1_bool, same1_str, same1_ptr, same1_sl, same1_map, C, m, D, o, E, p, f, d, c, j, u, w, q, g, x, r, y, A, B, s]) rfl) (lag_cons (lag_one rfl (by simp [C, m, D, o, E, p, f, d, c, j, u, w, q, g, x, r, y, A, B, s]; constructor <;> rfl) rfl (by simp [C, m, D, o, E, p, f, d, c, j, u, w, q, g, x, r, y, A, B, s]) (by simp [sameL, sameV_agg, sameV_int, sameV_bool, sameV_str, sameV_ptr, sameV_sl, sameV_map, same1_int, same1_bool, same1_str, same1_ptr, same1_sl, same1_map, C, m, D, o, E, p, f, d, c, j, u, w, q, g, x, r, y, A, B, s]) rfl) (lag_cons (lag_one rfl (by simp [C, m, D, o, E, p, f, d, c, j, u, w, q, g, x, r, y, A, B, s]; constructor <;> rfl) rfl (by simp [C, m, D, o, E, p, f, d, c, j, u, w, q, g, x, r, y, A, B, s]) (by simp [sameL, sameV_agg, sameV_int, sameV_bool, sameV_str, sameV_ptr, sameV_sl, sameV_map, same1_int, same1_bool, same1_str, same1_ptr, same1_sl, same1_map, C, m, D, o, E, p, f, d, c, j, u, w, q, g, x, r, y, A, B, s]) rfl) (lag_cons (lag_one rfl (by simp [C, m, D, o, E, p, f, d, c, j, u, w, q, g, x, r, y, A, B, s]; constructor <;> rfl) rfl (by simp [C, m, D, o, E, p, f, d, c, j, u, w, q, g, x, r, y, A, B, s]) (by simp [sameL, sameV_agg, sameV_int, sameV_bool, sameV_str, sameV_ptr, sameV_sl, sameV_map, same1_int, same1_bool, same1_str, same1_ptr, same1_sl, same1_map, C, m, D, o, E, p, f, d, c, j, u, w, q, g, x, r, y, A, B, s]) rfl) rfl))))) ?_
      refine XK.call rfl (by simp [C, m, D, o, E, p, f, d, c, j, u, w, q, g, x, r, y, A, B, s]) rfl (by simp [Tryd.func48, Tryd.f48, C, m, D, o, E, p, f, d, c, j, u, w, q, g, x, r, y, A, B, s]; constructor <;> rfl) ?_
      refine FSem.mono (pget_g 0 100 hz) ?_
      rintro _ M26 ⟨x26, b26, rfl, g26, hz, hfr⟩
      replace C := hfr.cell C (by have := hz0.kN; omega)
      replace m := cellr C
      replace D := hfr.cell D (by have := hz0.kN; omega)
      replace o := cellr D
      replace E := hfr.cell E (by have := hz0.kN; omega)
      replace p := cellr E
      replace q := hfr.cell q (by have := hz0.kN; omega)
      replace g := cellr q
      replace hfk := hfk.trans hfr
      replace f : ∀ z : Blk, (M26.set M1.length z)[M1.length]? = some z := fun z => List.getElem?_set_self (List.getElem?_eq_some_iff.1 E).1
      replace d : ∀ z : Blk, (M26.set M1.length z)[H.length]? = some (.cells false [.pointer (some ⟨k, 0, none⟩)]) := fun z => (List.getElem?_set_ne (by omega)).trans C
      replace c : ∀ z : Blk, (M26.set (H.length + 1) z)[H.length + 1]? = some z := fun z => List.getElem?_set_self (List.getElem?_eq_some_iff.1 D).1
      replace hrow := hrow.frk hfr (hNs.ne (by have := hz0.kN; omega))
      refine And.intro (lag_list (l := [13, 15, 6]) (by kernel_rfl) (lag_cons (lag_one rfl (by simp [C, m, D, o, E, p, f, d, c, j, u, w, q, g, x, r, y, A, B, s]; constructor <;> rfl) rfl (by simp [C, m, D, o, E, p, f, d, c, j, u, w, q, g, x, r, y, A, B, s]) (by simp [sameL, sameV_agg, sameV_int, sameV_bool, sameV_str, sameV_ptr, sameV_sl, sameV_map, same1_int, same1_bool, same1_str, same1_ptr, same1_sl, same1_map, C, m, D, o, E, p, f, d, c, j, u, w, q, g, x, r, y, A, B, s]) rfl) (lag_cons (lag_one rfl (by simp [C, m, D, o, E, p, f, d, c, j, u, w, q, g, x, r, y, A, B, s]; constructor <;> rfl) rfl (by simp [C, m, D, o, E, p, f, d, c, j, u, w, q, g, x, r, y, A, B, s]) (by simp [sameL, sameV_agg, sameV_int, sameV_bool, sameV_str, sameV_ptr, sameV_sl, sameV_map, same1_int, same1_bool, same1_str, same1_ptr, same1_sl, same1_map, C, m, D, o, E, p, f, d, c, j, u, w, q, g, x, r, y, A, B, s]) rfl) (lag_cons (lag_one rfl (by simp [C, m, D, o, E, p, f, d, c, j, u, w, q, g, x, r, y, A, B, s]; constructor <;> rfl) rfl (by simp [C, m, D, o, E, p, f, d, c, j, u, w, q, g, x, r, y, A, B, s]) (by simp [sameL, sameV_agg, sameV_int, sameV_bool, sameV_str, sameV_ptr, sameV_sl, sameV_map, same1_int, same1_bool, same1_str, same1_ptr, same1_sl, same1_map, C, m, D, o, E, p, f, d, c, j, u, w, q, g, x, r, y, A, B, s]) rfl) rfl)))) ?_
      refine XK.call rfl (by simp [C, m, D, o, E, p, f, d, c, j, u, w, q, g, x, r, y, A, B, s]) rfl (by simp [Tryd.func48, Tryd.f48, C, m, D, o, E, p, f, d, c, j, u, w, q, g, x, r, y, A, B, s]; constructor <;> rfl) ?_
      refine FSem.mono (pget_g 0 3652158 hz) ?_
      rintro _ M27 ⟨x27, b27, rfl, g27, hz, hfr⟩
      replace C := hfr.cell C (by have := hz0.kN; omega)
      replace m := cellr C
      replace D := hfr.cell D (by have := hz0.kN; omega)
      replace o := cellr D
      replace E := hfr.cell E (by have := hz0.kN; omega)
      replace p := cellr E
      replace q := hfr.cell q (by have := hz0.kN; omega)
      replace g := cellr q
      replace hfk := hfk.trans hfr
      replace f : ∀ z : Blk, (M27.set M1.length z)[M1.length]? = some z := fun z => List.getElem?_set_self (List.getElem?_eq_some_iff.1 E).1
      replace d : ∀ z : Blk, (M27.set M1.length z)[H.length]? = some (.cells false [.pointer (some ⟨k, 0, none⟩)]) := fun z => (List.getElem?_set_ne (by omega)).trans C
      replace c : ∀ z : Blk, (M27.set (H.length + 1) z)[H.length + 1]? = some z := fun z => List.getElem?_set_self (List.getElem?_eq_some_iff.1 D).1
      replace hrow := hrow.frk hfr (hNs.ne (by have := hz0.kN; omega))
      refine And.intro (lag_list (l := [15, 6]) (by kernel_rfl) (lag_cons (lag_one rfl (by simp [C, m, D, o, E, p, f, d, c, j, u, w, q, g, x, r, y, A, B, s]; constructor <;> rfl) rfl (by simp [C, m, D, o, E, p, f, d, c, j, u, w, q, g, x, r, y, A, B, s]) (by simp [sameL, sameV_agg, sameV_int, sameV_bool, sameV_str, sameV_ptr, sameV_sl, sameV_map, same1_int, same1_bool, same1_str, same1_ptr, same1_sl, same1_map, C, m, D, o, E, p, f, d, c, j, u, w, q, g, x, r, y, A, B, s]) rfl) (lag_cons (lag_one rfl (by simp [C, m, D, o, E, p, f, d, c, j, u, w, q, g, x, r, y, A, B, s]; constructor <;> rfl) rfl (by simp [C, m, D, o, E, p, f, d, c, j, u, w, q, g, x, r, y, A, B, s]) (by simp [sameL, sameV_agg, sameV_int, sameV_bool, sameV_str, sameV_ptr, sameV_sl, sameV_map, same1_int, same1_bool, same1_str, same1_ptr, same1_sl, same1_map, C, m, D, o, E, p, f, d, c, j, u, w, q, g, x, r, y, A, B, s]) rfl) rfl))) ?_
      refine XK.call rfl (by simp [C, m, D, o, E, p, f, d, c, j, u, w, q, g, x, r, y, A, B, s]) rfl (by simp [Tryd.func74, Tryd.f74, C, m, D, o, E, p, f, d, c, j, u, w, q, g, x, r, y, A, B, s]; constructor <;> rfl) ?_
      refine FSem.mono (pgflag_g hz) ?_
      rintro _ M28 ⟨x28, b28, rfl, g28, hz, hfr⟩
      replace C := hfr.cell C (by have := hz0.kN; omega)
      replace m := cellr C
      replace D := hfr.cell D (by have := hz0.kN; omega)
      replace o := cellr D
      replace E := hfr.cell E (by have := hz0.kN; omega)
      replace p := cellr E
      replace q := hfr.cell q (by have := hz0.kN; omega)
      replace g := cellr q
      replace hfk := hfk.trans hfr
      replace f : ∀ z : Blk, (M28.set M1.length z)[M1.length]? = some z := fun z => List.getElem?_set_self (List.getElem?_eq_some_iff.1 E).1
      replace d : ∀ z : Blk, (M28.set M1.length z)[H.length]? = some (.cells false [.pointer (some ⟨k, 0, none⟩)]) := fun z => (List.getElem?_set_ne (by omega)).trans C
      replace c : ∀ z : Blk, (M28.set (H.length + 1) z)[H.length + 1]? = some z := fun z => List.getElem?_set_self (List.getElem?_eq_some_iff.1 D).1
      replace hrow := hrow.frk hfr (hNs.ne (by have := hz0.kN; omega))
      refine And.intro (lag_list (l := [6]) (by kernel_rfl) (lag_cons (lag_one rfl (by simp [C, m, D, o, E, p, f, d, c, j, u, w, q, g, x, r, y, A, B, s]; constructor <;> rfl) rfl (by simp [C, m, D, o, E, p, f, d, c, j, u, w, q, g, x, r, y, A, B, s]) (by simp [sameL, sameV_agg, sameV_int, sameV_bool, sameV_str, sameV_ptr, sameV_sl, sameV_map, same1_int, same1_bool, same1_str, same1_ptr, same1_sl, same1_map, C, m, D, o, E, p, f, d, c, j, u, w, q, g, x, r, y, A, B, s]) rfl) rfl)) ?_
      refine XK.run [17] (by kernel_rfl) (by simp [C, m, D, o, E, p, f, d, c, j, u, w, q, g, x, r, y, A, B, s]; constructor <;> rfl) ?_
      refine XK.one rfl (by simp [C, m, D, o, E, p, f, d, c, j, u, w, q, g, x, r, y, A, B, s]) rfl (by simp [C, m, D, o, E, p, f, d, c, j, u, w, q, g, x, r, y, A, B, s]; constructor <;> rfl) (lag_list (l := []) (by kernel_rfl) rfl) ?_
      refine XK.nil ?_
      refine DK.abs (fun M30 => Bz N M30 k b28 ∧ FrK H k M30 ∧ M30[H.length]? = some (.cells false [.pointer (some ⟨k, 0, none⟩)]) ∧ M30[H.length + 1]? = some (.cells false [.int .u8 0, .int .i64 0, .int .i64 0, .int .i64 0, .int .i64 0, .int .i64 0, .bool false, .slice none 0 0, .int .i64 0, .int .i64 0, .int .i64 0, .int .i64 0, .int .i64 0]) ∧ M30[M1.length]? = some (.cells false [.int .u8 (IntKind.u8.wrap x1), .int .i64 x3, .int .i64 x4, .int .i64 x5, .int .i64 x6, .int .i64 x7, .bool x8, sc, .int .i64 x9, .int .i64 x10, .int .i64 x11, .int .i64 x12, .int .i64 x13]) ∧ OpenAt M30 sc cs ∧ M30[M.length]? = some (.cells false (Cy.l ⟨x21, x22, IntKind.u8.wrap x23, x24, x25, x26, x27, x28⟩))) ⟨hz.set (by omega) _, hfk.set (by omega) _, (List.getElem?_set_ne (by omega)).trans C, (List.getElem?_set_ne (by omega)).trans D, (List.getElem?_set_ne (by omega)).trans E, hrow.set (hO.ne (Nat.le_refl _)) _, List.getElem?_set_self (List.getElem?_eq_some_iff.1 q).1⟩ ?_
      clear hz hfk
      rintro M30 ⟨hz, hfk, cx5, c45, ca5, hO3, cyb5⟩
      replace C := cx5
      replace D := c45
      replace E := ca5
      replace q := cyb5
      replace m := cellr C
      replace o := cellr D
      replace p := cellr E
      replace g := cellr q
      have hlt30 : M1.length < M30.length := (List.getElem?_eq_some_iff.1 E).1
      obtain ⟨sc2, M31, ha, hO2, hF2, hN2⟩ := hO3.app1 ⟨x21, x22, IntKind.u8.wrap x23, x24, x25, x26, x27, x28⟩ (by omega)
      replace j := ha
      simp only [Cy.l] at j
      replace A := hO2.cells.1
      replace B := hO2.cells.2
      replace s := (hF2.2 _ hlt30 (hNs.ne (by omega))).trans E
      have cx31 := (hF2.2 _ (show H.length < M30.length by omega) (hNs.ne (by omega))).trans C
      have c431 := (hF2.2 _ (show H.length + 1 < M30.length by omega) (hNs.ne (by omega))).trans D
      have hz31 := hz.fr hF2 (hNs.le (by omega))
      have hfk31 := hfk.fr hF2 (hNs.le (by omega))
      refine DK.region (is := [0, 1, 2, 3, 4, 5, 6]) (by kernel_rfl) rfl ?_
      refine WK.run [0, 1, 2, 3] (by simp [C, m, D, o, E, p, f, d, c, j, u, w, q, g, x, r, y, A, B, s]; constructor <;> rfl) ?_
      refine WK.run [4, 5, 6] (by simp [C, m, D, o, E, p, f, d, c, j, u, w, q, g, x, r, y, A, B, s]; constructor <;> rfl) ?_
      refine WK.nil ?_
      refine DK.abs (fun M32 => Bz N M32 k b28 ∧ FrK H k M32 ∧ M32[H.length]? = some (.cells false [.pointer (some ⟨k, 0, none⟩)]) ∧ M32[H.length + 1]? = some (.cells false [.int .u8 0, .int .i64 0, .int .i64 0, .int .i64 0, .int .i64 0, .int .i64 0, .bool false, .slice none 0 0, .int .i64 0, .int .i64 0, .int .i64 0, .int .i64 0, .int .i64 0]) ∧ M32[M1.length]? = some (.cells false [.int .u8 (IntKind.u8.wrap x1), .int .i64 x3, .int .i64 x4, .int .i64 x5, .int .i64 x6, .int .i64 x7, .bool x8, sc2, .int .i64 x9, .int .i64 x10, .int .i64 x11, .int .i64 x12, .int .i64 x13]) ∧ OpenAt M32 sc2 (cs ++ [⟨x21, x22, IntKind.u8.wrap x23, x24, x25, x26, x27, x28⟩])) ⟨hz31.set (by omega) _, hfk31.set (by omega) _, (List.getElem?_set_ne (by omega)).trans cx31, (List.getElem?_set_ne (by omega)).trans c431, List.getElem?_set_self (List.getElem?_eq_some_iff.1 s).1, hO2.set (hN2.ne (by omega)) _⟩ ?_
      clear hz hfk
      rintro M32 ⟨hz, hfk, cx5, c45, ca5, hO5⟩
      refine DK.region (is := [0, 1, 2]) (by kernel_rfl) rfl ?_
      refine WK.run [0, 1, 2] (by simp [C, m, D, o, E, p, f, d, c, j, u, w, q, g, x, r, y, A, B, s]; constructor <;> rfl) ?_
      refine WK.nil ?_
      refine ⟨by kernel_rfl, (n - 1).toNat, ?_, _, b28, sc2, cs ++ [⟨x21, x22, IntKind.u8.wrap x23, x24, x25, x26, x27, x28⟩], rfl, ?_⟩
      · omega
      · refine ⟨⟨hz, hfk, cx5, c45, ca5, hO5⟩, hN2.le (by omega), by omega, by simp; omega, ?_, rfl⟩
        have hcX : cyX bb = (⟨x21, x22, IntKind.u8.wrap x23, x24, x25, x26, x27, x28⟩, b28) := by unfold cyX; simp only [g21, g22, g23, g24, g25, g26, g27, g28]
        rw [show n.toNat = (n - 1).toNat + 1 by omega, cysX_go he0 hcX] at hcy
        rw [hcy]; simp
    try simp only [h]
    replace h := Fa.out h
    have hex : n.toNat = 0 ∨ bb.e ≠ 0 := .inr (by simpa using h)
    refine DK.exit ?_
    refine DK.seq ?_
    refine DK.region (is := [0, 1]) (by kernel_rfl) rfl ?_
    refine WK.run [0, 1] (by simp [C, m, D, o, E, p, f, d, c, j, u, w, q, g, x, r, y, A, B, s]; constructor <;> rfl) ?_
    refine WK.nil ?_
    have hres : acX plans b = (⟨IntKind.u8.wrap x1, x3, x4, x5, x6, x7, x8, cs, x9, x10, x11, x12, x13⟩, bb) := by
      rw [cysX_no hex, List.append_nil] at hcy
      unfold acX; simp only [g1]; rw [if_neg hst0]; simp only [g3, g4, g5, g6, g7, g8, g9, g10, g11, g12, g13, g14, hcy]
    replace hz := hz.set (i := H.length + 1) (by omega) (.cells false [.int .u8 (IntKind.u8.wrap x1), .int .i64 x3, .int .i64 x4, .int .i64 x5, .int .i64 x6, .int .i64 x7, .bool x8, sc, .int .i64 x9, .int .i64 x10, .int .i64 x11, .int .i64 x12, .int .i64 x13])
    replace hfk := hfk.set (i := H.length + 1) (by omega) (.cells false [.int .u8 (IntKind.u8.wrap x1), .int .i64 x3, .int .i64 x4, .int .i64 x5, .int .i64 x6, .int .i64 x7, .bool x8, sc, .int .i64 x9, .int .i64 x10, .int .i64 x11, .int .i64 x12, .int .i64 x13])
    replace hO := hO.set (k := H.length + 1) (hNs.ne (by omega)) (.cells false [.int .u8 (IntKind.u8.wrap x1), .int .i64 x3, .int .i64 x4, .int .i64 x5, .int .i64 x6, .int .i64 x7, .bool x8, sc, .int .i64 x9, .int .i64 x10, .int .i64 x11, .int .i64 x12, .int .i64 x13])
    refine DK.ret ?_
    refine And.intro (Or.inr rfl) ?_
    refine ⟨_, by simp [absAnswer, absResults, absResult, Tryd.f50, c]; rfl, ?_⟩
    first
      | exact ⟨zeroA, .slice none 0 0, _, by rfl, hres, .inl ⟨rfl, rfl⟩, New.nil _ _ _, hz, hfk⟩
      | exact ⟨_, sc, _, by rfl, hres, hO, hNs.le (by omega), hz, hfk⟩
  try simp only [h]
  replace h := Fa.out h
  have hex : n.toNat = 0 ∨ bb.e ≠ 0 := .inl (by omega)
  refine WK.run [3, 4, 5, 6] (by simp [C, m, D, o, E, p, f, d, c, j, u, w, q, g, x, r, y, A, B, s]; constructor <;> rfl) ?_
  refine WK.nil ?_
  refine DK.no rfl rfl ?_
  refine DK.exit ?_
  refine DK.seq ?_
  refine DK.region (is := [0, 1]) (by kernel_rfl) rfl ?_
  refine WK.run [0, 1] (by simp [C, m, D, o, E, p, f, d, c, j, u, w, q, g, x, r, y, A, B, s]; constructor <;> rfl) ?_
  refine WK.nil ?_
  have hres : acX plans b = (⟨IntKind.u8.wrap x1, x3, x4, x5, x6, x7, x8, cs, x9, x10, x11, x12, x13⟩, bb) := by
    rw [cysX_no hex, List.append_nil] at hcy
    unfold acX; simp only [g1]; rw [if_neg hst0]; simp only [g3, g4, g5, g6, g7, g8, g9, g10, g11, g12, g13, g14, hcy]
  replace hz := hz.set (i := H.length + 1) (by omega) (.cells false [.int .u8 (IntKind.u8.wrap x1), .int .i64 x3, .int .i64 x4, .int .i64 x5, .int .i64 x6, .int .i64 x7, .bool x8, sc, .int .i64 x9, .int .i64 x10, .int .i64 x11, .int .i64 x12, .int .i64 x13])
  replace hfk := hfk.set (i := H.length + 1) (by omega) (.cells false [.int .u8 (IntKind.u8.wrap x1), .int .i64 x3, .int .i64 x4, .int .i64 x5, .int .i64 x6, .int .i64 x7, .bool x8, sc, .int .i64 x9, .int .i64 x10, .int .i64 x11, .int .i64 x12, .int .i64 x13])
  replace hO := hO.set (k := H.length + 1) (hNs.ne (by omega)) (.cells false [.int .u8 (IntKind.u8.wrap x1), .int .i64 x3, .int .i64 x4, .int .i64 x5, .int .i64 x6, .int .i64 x7, .bool x8, sc, .int .i64 x9, .int .i64 x10, .int .i64 x11, .int .i64 x12, .int .i64 x13])
  refine DK.ret ?_
  refine And.intro (Or.inr rfl) ?_
  refine ⟨_, by simp [absAnswer, absResults, absResult, Tryd.f50, c]; rfl, ?_⟩
  first
    | exact ⟨zeroA, .slice none 0 0, _, by rfl, hres, .inl ⟨rfl, rfl⟩, New.nil _ _ _, hz, hfk⟩
    | exact ⟨_, sc, _, by rfl, hres, hO, hNs.le (by omega), hz, hfk⟩
end Go.Den
namespace Go.Den
open Go Go.Proofs
set_option maxRecDepth 100000
set_option maxHeartbeats 1000000
set_option linter.all false
attribute [local simp] evOps evOp absOp absBox absLoad absStore absField absIndexAddr absCells absBinOp absBin absInt absShift absUn absPick absNil absExtract absPlaces Instr.fill absBuiltin absMinMax plainV plainT allA flat cells_agg cells_int cells_bool cells_str cells_ptr cells_sl cells_map one_int one_bool one_str one_ptr one_sl one_map Act.eval Act.put Region.wanted yielded absCall TypeDesc.isRow
attribute [local simp high] bk_t bk_p bk_take bk_row BkL_len sp_bk sp_t sp_p
attribute [local simp] sp_nil sp_0 sp_s List.length_set
theorem bturn_s (k : Nat) (b : Bk) (a : Ac) (o : Od) {sp : Value} {l : List As} {H : Mem} (hB : BkAt H sp l b) (hk : BOk k b) (hu : UnOk b.pls) {s : Value} (hO : OpenAt H s a.op) (hn : a.op.length ≤ 1000000000000) : FSem Tryd.prog [0] 34 #[bkv b.today sp l, a.v s, o.v] H fun v H' => AcRes H (turnB b a o) v H' := by
  refine FSem.ofK Tryd.func34 rfl ?_
  refine DK.from (b' := ⟨#[bkv b.today sp l, a.v s, o.v, undef, undef, undef, undef, undef, undef, undef, undef, undef, undef, undef, undef, undef, undef, undef, undef, undef, undef, undef, undef, undef, undef, undef, undef, undef, undef, undef, undef, undef, undef, undef, undef, undef, undef, undef, undef, undef, undef, undef, undef, undef, undef, undef, undef, undef, undef, undef, undef, undef, undef, undef, undef, undef, undef, undef, undef, undef, undef, undef, undef, undef, undef, undef, undef, undef, undef, undef, undef, undef, undef, undef], []⟩) (by kernel_rfl) ?_
  have g := trivial
  have j := trivial
  have m := trivial
  have n := trivial
  have p := trivial
  have c := trivial
  have d := trivial
  have e := trivial
  have f := trivial
  obtain ⟨hsp0, hsp1⟩ := hB.pls.cells
  have hl32 := hB.len
  have q := trivial
  refine DK.seq ?_
  refine DK.region (is := [0, 1, 2, 3, 4]) (by kernel_rfl) rfl ?_
  refine WK.run [0, 1, 2, 3, 4] (by simp [g, j, m, n, p, c, d, hsp0, hsp1, hl32, e, f]; constructor <;> rfl) ?_
  refine WK.nil ?_
  refine DK.abs (fun M0 => AtM H [BkL b.today sp l, a.l s, o.l, zeroA.l (.slice none 0 0)] M0 ∧ OpenAt M0 s a.op) ⟨AtM.start H [] [_, _, _, _], hO.app _⟩ ?_
  try clear hM
  try clear hO
  rintro M0 ⟨hM, hO⟩
  replace g := hM.own 0 (by simp)
  replace j := hM.own 1 (by simp)
  replace m := hM.own 2 (by simp)
  replace n := hM.own 3 (by simp)
  simp only [List.getElem_cons_zero, List.getElem_cons_succ, Nat.add_zero] at g j m n
  replace p := hM.q4
  replace c := hO.cells.1
  replace d := hO.cells.2
  refine DK.seq ?_
  refine DK.seq ?_
  refine DK.region (is := [0, 1]) (by kernel_rfl) rfl ?_
  refine WK.run [0, 1] (by simp [g, j, m, n, p, c, d, hsp0, hsp1, hl32, e, f]; constructor <;> rfl) ?_
  refine WK.nil ?_
  refine DK.block ?_
  refine DK.seq ?_
  refine DK.region (is := [0, 1]) (by kernel_rfl) rfl ?_
  refine WK.run [0, 1] (by simp [g, j, m, n, p, c, d, hsp0, hsp1, hl32, e, f]; constructor <;> rfl) ?_
  refine WK.nil ?_
  refine DK.test rfl rfl (fun h => ?_) (fun h => ?_)
  · try simp only [h]
    replace h := Tr.out h
    refine DK.seq ?_
    refine DK.region (is := [0, 1, 2, 3, 4, 5]) (by kernel_rfl) rfl ?_
    refine WK.run [0] (by simp [g, j, m, n, p, c, d, hsp0, hsp1, hl32, e, f]; constructor <;> rfl) ?_
    refine WK.call rfl (by simp [g, j, m, n, p, c, d, hsp0, hsp1, hl32, e, f]) (by simp [Tryd.func61, Tryd.f61, g, j, m, n, p, c, d, hsp0, hsp1, hl32, e, f]; constructor <;> rfl) ?_
    refine FSem.mono (pause_s a hO hn) ?_
    rintro _ R ⟨s2, rfl, hA, hO, q⟩
    replace q : Fresh (H.length + 4) s2 := q.le (hM.lt (i := 3) (by simp))
    replace hM := hM.on (Keep.of hA)
    replace g := hM.own 0 (by simp)
    replace j := hM.own 1 (by simp)
    replace m := hM.own 2 (by simp)
    replace n := hM.own 3 (by simp)
    simp only [List.getElem_cons_zero, List.getElem_cons_succ, Nat.add_zero] at g j m n
    replace p := hM.q4
    replace c := hO.cells.1
    replace d := hO.cells.2
    refine WK.run [2, 3, 4, 5] (by simp [g, j, m, n, p, c, d, hsp0, hsp1, hl32, e, f]; constructor <;> rfl) ?_
    refine WK.nil ?_
    refine DK.abs (fun M5 => AtM H [BkL b.today sp l, a.l s, o.l, (turnA a 1 2).1.l s2] M5 ∧ OpenAt M5 s2 (turnA a 1 2).1.op) ⟨hM.set (i := 3) (by simp) _, hO.set (q.ne (by omega)) _⟩ ?_
    try clear hM
    try clear hO
    rintro M5 ⟨hM, hO⟩
    replace g := hM.own 0 (by simp)
    replace j := hM.own 1 (by simp)
    replace m := hM.own 2 (by simp)
    replace n := hM.own 3 (by simp)
    simp only [List.getElem_cons_zero, List.getElem_cons_succ, Nat.add_zero] at g j m n
    replace p := hM.q4
    replace c := hO.cells.1
    replace d := hO.cells.2
    have hres : turnB b a o = ((turnA a 1 2).1, (turnA a 1 2).2) := by
      unfold turnB
      rw [if_pos ‹o.kd = 4›]
    refine DK.ret ?_
    refine And.intro (Or.inr rfl) ?_
    refine ⟨_, by simp [absAnswer, absResults, absResult, Tryd.f34, g, j, m, n, p, c, d]; rfl, ?_⟩
    exact ⟨_, by rw [hres]; rfl, hM.keep.ext, by rw [hres]; exact hO, q.le (by omega)⟩
  try simp only [h]
  replace h := Fa.out h
  refine DK.seq ?_
  refine DK.region (is := [0, 1]) (by kernel_rfl) rfl ?_
  refine WK.run [0, 1] (by simp [g, j, m, n, p, c, d, hsp0, hsp1, hl32, e, f]; constructor <;> rfl) ?_
  refine WK.nil ?_
  refine DK.test rfl rfl (fun h => ?_) (fun h => ?_)
  · try simp only [h]
    replace h := Tr.out h
    refine DK.seq ?_
    refine DK.region (is := [0, 1, 2, 3, 4, 5]) (by kernel_rfl) rfl ?_
    refine WK.run [0] (by simp [g, j, m, n, p, c, d, hsp0, hsp1, hl32, e, f]; constructor <;> rfl) ?_
    refine WK.call rfl (by simp [g, j, m, n, p, c, d, hsp0, hsp1, hl32, e, f]) (by simp [Tryd.func62, Tryd.f62, g, j, m, n, p, c, d, hsp0, hsp1, hl32, e, f]; constructor <;> rfl) ?_
    refine FSem.mono (resume_s a hO hn) ?_
    rintro _ R ⟨s2, rfl, hA, hO, q⟩
    replace q : Fresh (H.length + 4) s2 := q.le (hM.lt (i := 3) (by simp))
    replace hM := hM.on (Keep.of hA)
    replace g := hM.own 0 (by simp)
    replace j := hM.own 1 (by simp)
    replace m := hM.own 2 (by simp)
    replace n := hM.own 3 (by simp)
    simp only [List.getElem_cons_zero, List.getElem_cons_succ, Nat.add_zero] at g j m n
    replace p := hM.q4
    replace c := hO.cells.1
    replace d := hO.cells.2
    refine WK.run [2, 3, 4, 5] (by simp [g, j, m, n, p, c, d, hsp0, hsp1, hl32, e, f]; constructor <;> rfl) ?_
    refine WK.nil ?_
    refine DK.abs (fun M5 => AtM H [BkL b.today sp l, a.l s, o.l, (turnA a 2 1).1.l s2] M5 ∧ OpenAt M5 s2 (turnA a 2 1).1.op) ⟨hM.set (i := 3) (by simp) _, hO.set (q.ne (by omega)) _⟩ ?_
    try clear hM
    try clear hO
    rintro M5 ⟨hM, hO⟩
    replace g := hM.own 0 (by simp)
    replace j := hM.own 1 (by simp)
    replace m := hM.own 2 (by simp)
    replace n := hM.own 3 (by simp)
    simp only [List.getElem_cons_zero, List.getElem_cons_succ, Nat.add_zero] at g j m n
    replace p := hM.q4
    replace c := hO.cells.1
    replace d := hO.cells.2
    have hres : turnB b a o = ((turnA a 2 1).1, (turnA a 2 1).2) := by
      unfold turnB
      rw [if_neg ‹¬o.kd = 4›, if_pos ‹o.kd = 5›]
    refine DK.ret ?_
    refine And.intro (Or.inr rfl) ?_
    refine ⟨_, by simp [absAnswer, absResults, absResult, Tryd.f34, g, j, m, n, p, c, d]; rfl, ?_⟩
    exact ⟨_, by rw [hres]; rfl, hM.keep.ext, by rw [hres]; exact hO, q.le (by omega)⟩
  try simp only [h]
  replace h := Fa.out h
  refine DK.seq ?_
  refine DK.region (is := [0, 1]) (by kernel_rfl) rfl ?_
  refine WK.run [0, 1] (by simp [g, j, m, n, p, c, d, hsp0, hsp1, hl32, e, f]; constructor <;> rfl) ?_
  refine WK.nil ?_
  refine DK.test rfl rfl (fun h => ?_) (fun h => ?_)
  · try simp only [h]
    replace h := Tr.out h
    refine DK.seq ?_
    refine DK.region (is := [0, 1, 2, 3, 4, 5]) (by kernel_rfl) rfl ?_
    refine WK.run [0] (by simp [g, j, m, n, p, c, d, hsp0, hsp1, hl32, e, f]; constructor <;> rfl) ?_
    refine WK.call rfl (by simp [g, j, m, n, p, c, d, hsp0, hsp1, hl32, e, f]) (by simp [Tryd.func63, Tryd.f63, g, j, m, n, p, c, d, hsp0, hsp1, hl32, e, f]; constructor <;> rfl) ?_
    refine FSem.mono (skip_s a hO hn) ?_
    rintro _ R ⟨s2, rfl, hA, hO, q⟩
    replace q : Fresh (H.length + 4) s2 := q.le (hM.lt (i := 3) (by simp))
    replace hM := hM.on (Keep.of hA)
    replace g := hM.own 0 (by simp)
    replace j := hM.own 1 (by simp)
    replace m := hM.own 2 (by simp)
    replace n := hM.own 3 (by simp)
    simp only [List.getElem_cons_zero, List.getElem_cons_succ, Nat.add_zero] at g j m n
    replace p := hM.q4
    replace c := hO.cells.1
    replace d := hO.cells.2
    refine WK.run [2, 3, 4, 5] (by simp [g, j, m, n, p, c, d, hsp0, hsp1, hl32, e, f]; constructor <;> rfl) ?_
    refine WK.nil ?_
    refine DK.abs (fun M5 => AtM H [BkL b.today sp l, a.l s, o.l, (skipA a).1.l s2] M5 ∧ OpenAt M5 s2 (skipA a).1.op) ⟨hM.set (i := 3) (by simp) _, hO.set (q.ne (by omega)) _⟩ ?_
    try clear hM
    try clear hO
    rintro M5 ⟨hM, hO⟩
    replace g := hM.own 0 (by simp)
    replace j := hM.own 1 (by simp)
    replace m := hM.own 2 (by simp)
    replace n := hM.own 3 (by simp)
    simp only [List.getElem_cons_zero, List.getElem_cons_succ, Nat.add_zero] at g j m n
    replace p := hM.q4
    replace c := hO.cells.1
    replace d := hO.cells.2
    have hres : turnB b a o = ((skipA a).1, (skipA a).2) := by
      unfold turnB
      rw [if_neg ‹¬o.kd = 4›, if_neg ‹¬o.kd = 5›, if_pos ‹o.kd = 6›]
    refine DK.ret ?_
    refine And.intro (Or.inr rfl) ?_
    refine ⟨_, by simp [absAnswer, absResults, absResult, Tryd.f34, g, j, m, n, p, c, d]; rfl, ?_⟩
    exact ⟨_, by rw [hres]; rfl, hM.keep.ext, by rw [hres]; exact hO, q.le (by omega)⟩
  try simp only [h]
  replace h := Fa.out h
  refine DK.seq ?_
  refine DK.region (is := [0, 1]) (by kernel_rfl) rfl ?_
  refine WK.run [0, 1] (by simp [g, j, m, n, p, c, d, hsp0, hsp1, hl32, e, f]; constructor <;> rfl) ?_
  refine WK.nil ?_
  refine DK.test rfl rfl (fun h => ?_) (fun h => ?_)
  · try simp only [h]
    replace h := Tr.out h
    refine DK.seq ?_
    refine DK.region (is := [0, 1, 2, 3, 4, 5]) (by kernel_rfl) rfl ?_
    refine WK.run [0] (by simp [g, j, m, n, p, c, d, hsp0, hsp1, hl32, e, f]; constructor <;> rfl) ?_
    refine WK.call rfl (by simp [g, j, m, n, p, c, d, hsp0, hsp1, hl32, e, f]) (by simp [Tryd.func64, Tryd.f64, g, j, m, n, p, c, d, hsp0, hsp1, hl32, e, f]; constructor <;> rfl) ?_
    refine FSem.mono (cancel_s a hO hn) ?_
    rintro _ R ⟨s2, rfl, hA, hO, q⟩
    replace q : Fresh (H.length + 4) s2 := q.le (hM.lt (i := 3) (by simp))
    replace hM := hM.on (Keep.of hA)
    replace g := hM.own 0 (by simp)
    replace j := hM.own 1 (by simp)
    replace m := hM.own 2 (by simp)
    replace n := hM.own 3 (by simp)
    simp only [List.getElem_cons_zero, List.getElem_cons_succ, Nat.add_zero] at g j m n
    replace p := hM.q4
    replace c := hO.cells.1
    replace d := hO.cells.2
    refine WK.run [2, 3, 4, 5] (by simp [g, j, m, n, p, c, d, hsp0, hsp1, hl32, e, f]; constructor <;> rfl) ?_
    refine WK.nil ?_
    refine DK.abs (fun M5 => AtM H [BkL b.today sp l, a.l s, o.l, (cancelA a).1.l s2] M5 ∧ OpenAt M5 s2 (cancelA a).1.op) ⟨hM.set (i := 3) (by simp) _, hO.set (q.ne (by omega)) _⟩ ?_
    try clear hM
    try clear hO
    rintro M5 ⟨hM, hO⟩
    replace g := hM.own 0 (by simp)
    replace j := hM.own 1 (by simp)
    replace m := hM.own 2 (by simp)
    replace n := hM.own 3 (by simp)
    simp only [List.getElem_cons_zero, List.getElem_cons_succ, Nat.add_zero] at g j m n
    replace p := hM.q4
    replace c := hO.cells.1
    replace d := hO.cells.2
    have hres : turnB b a o = ((cancelA a).1, (cancelA a).2) := by
      unfold turnB
      rw [if_neg ‹¬o.kd = 4›, if_neg ‹¬o.kd = 5›, if_neg ‹¬o.kd = 6›, if_pos ‹o.kd = 7›]
    refine DK.ret ?_
    refine And.intro (Or.inr rfl) ?_
    refine ⟨_, by simp [absAnswer, absResults, absResult, Tryd.f34, g, j, m, n, p, c, d]; rfl, ?_⟩
    exact ⟨_, by rw [hres]; rfl, hM.keep.ext, by rw [hres]; exact hO, q.le (by omega)⟩
  try simp only [h]
  replace h := Fa.out h
  refine DK.seq ?_
  refine DK.region (is := [0, 1]) (by kernel_rfl) rfl ?_
  refine WK.run [0, 1] (by simp [g, j, m, n, p, c, d, hsp0, hsp1, hl32, e, f]; constructor <;> rfl) ?_
  refine WK.nil ?_
  refine DK.test rfl rfl (fun h => ?_) (fun h => ?_)
  · try simp only [h]
    replace h := Tr.out h
    refine DK.seq ?_
    refine DK.region (is := [0, 1, 2, 3, 4, 5]) (by kernel_rfl) rfl ?_
    refine WK.run [0] (by simp [g, j, m, n, p, c, d, hsp0, hsp1, hl32, e, f]; constructor <;> rfl) ?_
    refine WK.call rfl (by simp [g, j, m, n, p, c, d, hsp0, hsp1, hl32, e, f]) (by simp [Tryd.func65, Tryd.f65, g, j, m, n, p, c, d, hsp0, hsp1, hl32, e, f]; constructor <;> rfl) ?_
    refine FSem.mono (acard_s a hO hn) ?_
    rintro _ R ⟨s2, rfl, hA, hO, q⟩
    replace q : Fresh (H.length + 4) s2 := q.le (hM.lt (i := 3) (by simp))
    replace hM := hM.on (Keep.of hA)
    replace g := hM.own 0 (by simp)
    replace j := hM.own 1 (by simp)
    replace m := hM.own 2 (by simp)
    replace n := hM.own 3 (by simp)
    simp only [List.getElem_cons_zero, List.getElem_cons_succ, Nat.add_zero] at g j m n
    replace p := hM.q4
    replace c := hO.cells.1
    replace d := hO.cells.2
    refine WK.run [2, 3, 4, 5] (by simp [g, j, m, n, p, c, d, hsp0, hsp1, hl32, e, f]; constructor <;> rfl) ?_
    refine WK.nil ?_
    refine DK.abs (fun M5 => AtM H [BkL b.today sp l, a.l s, o.l, (cardA a).1.l s2] M5 ∧ OpenAt M5 s2 (cardA a).1.op) ⟨hM.set (i := 3) (by simp) _, hO.set (q.ne (by omega)) _⟩ ?_
    try clear hM
    try clear hO
    rintro M5 ⟨hM, hO⟩
    replace g := hM.own 0 (by simp)
    replace j := hM.own 1 (by simp)
    replace m := hM.own 2 (by simp)
    replace n := hM.own 3 (by simp)
    simp only [List.getElem_cons_zero, List.getElem_cons_succ, Nat.add_zero] at g j m n
    replace p := hM.q4
    replace c := hO.cells.1
    replace d := hO.cells.2
    have hres : turnB b a o = ((cardA a).1, (cardA a).2) := by
      unfold turnB
      rw [if_neg ‹¬o.kd = 4›, if_neg ‹¬o.kd = 5›, if_neg ‹¬o.kd = 6›, if_neg ‹¬o.kd = 7›, if_pos ‹o.kd = 8›]
    refine DK.ret ?_
    refine And.intro (Or.inr rfl) ?_
    refine ⟨_, by simp [absAnswer, absResults, absResult, Tryd.f34, g, j, m, n, p, c, d]; rfl, ?_⟩
    exact ⟨_, by rw [hres]; rfl, hM.keep.ext, by rw [hres]; exact hO, q.le (by omega)⟩
  try simp only [h]
  replace h := Fa.out h
  refine DK.skip ?_
  refine DK.seq ?_
  refine DK.region (is := [0, 1, 2, 3, 4, 5, 6, 7, 8, 9, 10]) (by kernel_rfl) rfl ?_
  refine WK.run [0, 1, 2, 3] (by simp [g, j, m, n, p, c, d, hsp0, hsp1, hl32, e, f]; constructor <;> rfl) ?_
  refine WK.call rfl (by simp [g, j, m, n, p, c, d, hsp0, hsp1, hl32, e, f]) (by simp [Tryd.func55, Tryd.f55, g, j, m, n, p, c, d, hsp0, hsp1, hl32, e, f]; constructor <;> rfl) ?_
  refine FSem.mono (getp_g b.pls a.pl (hB.pls.keep hM.keep)) ?_
  rintro _ Hq ⟨pf, e1, rfl, hgf, hq⟩
  subst hq
  refine WK.run [5, 6, 7, 8, 9, 10] (by simp [g, j, m, n, p, c, d, hsp0, hsp1, hl32, e, f]; constructor <;> rfl) ?_
  refine WK.nil ?_
  refine DK.abs (fun M1 => AtM H [BkL b.today sp l, a.l s, o.l, zeroA.l (.slice none 0 0)] M1 ∧ OpenAt M1 s a.op ∧ M1[M0.length]? = some (.cells false pf.l)) ⟨hM.on (Keep.app _ _), hO.app _, by simp⟩ ?_
  try clear hM
  try clear hO
  rintro M1 ⟨hM, hO, e⟩
  replace g := hM.own 0 (by simp)
  replace j := hM.own 1 (by simp)
  replace m := hM.own 2 (by simp)
  replace n := hM.own 3 (by simp)
  simp only [List.getElem_cons_zero, List.getElem_cons_succ, Nat.add_zero] at g j m n
  replace p := hM.q4
  replace c := hO.cells.1
  replace d := hO.cells.2
  refine DK.seq ?_
  refine DK.region (is := [0, 1, 2, 3, 4, 5, 6, 7, 8, 9, 10]) (by kernel_rfl) rfl ?_
  refine WK.run [0, 1, 2, 3] (by simp [g, j, m, n, p, c, d, hsp0, hsp1, hl32, e, f]; constructor <;> rfl) ?_
  refine WK.call rfl (by simp [g, j, m, n, p, c, d, hsp0, hsp1, hl32, e, f]) (by simp [Tryd.func55, Tryd.f55, g, j, m, n, p, c, d, hsp0, hsp1, hl32, e, f]; constructor <;> rfl) ?_
  refine FSem.mono (getp_g b.pls o.pl (hB.pls.keep hM.keep)) ?_
  rintro _ Hq ⟨pt, e2, rfl, hgt, hq⟩
  subst hq
  refine WK.run [5, 6, 7, 8, 9, 10] (by simp [g, j, m, n, p, c, d, hsp0, hsp1, hl32, e, f]; constructor <;> rfl) ?_
  refine WK.nil ?_
  refine DK.abs (fun M2 => AtM H [BkL b.today sp l, a.l s, o.l, zeroA.l (.slice none 0 0)] M2 ∧ OpenAt M2 s a.op ∧ M2[M1.length]? = some (.cells false pt.l) ∧ M2[M0.length]? = some (.cells false pf.l)) ⟨hM.on (Keep.app _ _), hO.app _, by simp, by rw [List.getElem?_append_left (List.getElem?_eq_some_iff.1 e).1]; exact e⟩ ?_
  try clear hM
  try clear hO
  rintro M2 ⟨hM, hO, f, e⟩
  replace g := hM.own 0 (by simp)
  replace j := hM.own 1 (by simp)
  replace m := hM.own 2 (by simp)
  replace n := hM.own 3 (by simp)
  simp only [List.getElem_cons_zero, List.getElem_cons_succ, Nat.add_zero] at g j m n
  replace p := hM.q4
  replace c := hO.cells.1
  replace d := hO.cells.2
  refine DK.seq ?_
  refine DK.seq ?_
  refine DK.region (is := [0, 1]) (by kernel_rfl) rfl ?_
  refine WK.run [0, 1] (by simp [g, j, m, n, p, c, d, hsp0, hsp1, hl32, e, f]; constructor <;> rfl) ?_
  refine WK.nil ?_
  refine DK.test rfl rfl (fun h => ?_) (fun h => ?_)
  · try simp only [h]
    replace h := Tr.out h
    refine DK.seq ?_
    refine DK.region (is := [0, 1, 2, 3]) (by kernel_rfl) rfl ?_
    refine WK.run [0, 1, 2, 3] (by simp [g, j, m, n, p, c, d, hsp0, hsp1, hl32, e, f]; constructor <;> rfl) ?_
    refine WK.nil ?_
    refine DK.abs (fun MZ => AtM H [BkL b.today sp l, a.l s, o.l, zeroA.l (.slice none 0 0)] MZ ∧ OpenAt MZ (.slice none 0 0) zeroA.op) ⟨hM.set (i := 3) (by simp) _, .inl ⟨rfl, rfl⟩⟩ ?_
    try clear hM
    try clear hO
    rintro MZ ⟨hM, hO⟩
    replace g := hM.own 0 (by simp)
    replace j := hM.own 1 (by simp)
    replace m := hM.own 2 (by simp)
    replace n := hM.own 3 (by simp)
    simp only [List.getElem_cons_zero, List.getElem_cons_succ, Nat.add_zero] at g j m n
    replace p := hM.q4
    replace c := hO.cells.1
    replace d := hO.cells.2
    replace q : Fresh (H.length + 4) (.slice none 0 0) := .inl rfl
    have hres : turnB b a o = (zeroA, e2) := by
      unfold turnB
      rw [if_neg ‹¬o.kd = 4›, if_neg ‹¬o.kd = 5›, if_neg ‹¬o.kd = 6›, if_neg ‹¬o.kd = 7›, if_neg ‹¬o.kd = 8›, hgt, if_pos ‹_›]
    refine DK.ret ?_
    refine And.intro (Or.inr rfl) ?_
    refine ⟨_, by simp [absAnswer, absResults, absResult, Tryd.f34, g, j, m, n, p, c, d]; rfl, ?_⟩
    exact ⟨_, by rw [hres]; rfl, hM.keep.ext, by rw [hres]; exact hO, q.le (by omega)⟩
  try simp only [h]
  replace h := Fa.out h
  refine DK.skip ?_
  refine DK.seq ?_
  refine DK.region (is := [0, 1, 2, 3, 4, 5, 6, 7, 8, 9, 10, 11]) (by kernel_rfl) rfl ?_
  refine WK.run [0, 1, 2, 3, 4, 5, 6] (by simp [g, j, m, n, p, c, d, hsp0, hsp1, hl32, e, f]; constructor <;> rfl) ?_
  refine WK.call rfl (by simp [g, j, m, n, p, c, d, hsp0, hsp1, hl32, e, f]) (by simp [Tryd.func66, Tryd.f66, g, j, m, n, p, c, d, hsp0, hsp1, hl32, e, f]; constructor <;> rfl) ?_
  refine FSem.mono (achange_s a pf o.pl pt b.today (by have := getP_un hu a.pl; rw [hgf] at this; exact this) (by have := getP_pr hk.pls a.pl; rw [hgf] at this; exact this) (by have := getP_pr hk.pls o.pl; rw [hgt] at this; exact this) hO hn) ?_
  rintro _ R ⟨s2, rfl, hA, hO, q⟩
  replace q : Fresh (H.length + 4) s2 := q.le (hM.lt (i := 3) (by simp))
  replace hM := hM.on (Keep.of hA)
  replace g := hM.own 0 (by simp)
  replace j := hM.own 1 (by simp)
  replace m := hM.own 2 (by simp)
  replace n := hM.own 3 (by simp)
  simp only [List.getElem_cons_zero, List.getElem_cons_succ, Nat.add_zero] at g j m n
  replace p := hM.q4
  replace c := hO.cells.1
  replace d := hO.cells.2
  refine WK.run [8, 9, 10, 11] (by simp [g, j, m, n, p, c, d, hsp0, hsp1, hl32, e, f]; constructor <;> rfl) ?_
  refine WK.nil ?_
  refine DK.abs (fun M5 => AtM H [BkL b.today sp l, a.l s, o.l, (changeA a pf o.pl pt b.today).1.l s2] M5 ∧ OpenAt M5 s2 (changeA a pf o.pl pt b.today).1.op) ⟨hM.set (i := 3) (by simp) _, hO.set (q.ne (by omega)) _⟩ ?_
  try clear hM
  try clear hO
  rintro M5 ⟨hM, hO⟩
  replace g := hM.own 0 (by simp)
  replace j := hM.own 1 (by simp)
  replace m := hM.own 2 (by simp)
  replace n := hM.own 3 (by simp)
  simp only [List.getElem_cons_zero, List.getElem_cons_succ, Nat.add_zero] at g j m n
  replace p := hM.q4
  replace c := hO.cells.1
  replace d := hO.cells.2
  have hres : turnB b a o = ((changeA a pf o.pl pt b.today).1, (changeA a pf o.pl pt b.today).2) := by
    unfold turnB
    rw [if_neg ‹¬o.kd = 4›, if_neg ‹¬o.kd = 5›, if_neg ‹¬o.kd = 6›, if_neg ‹¬o.kd = 7›, if_neg ‹¬o.kd = 8›, hgt, hgf, if_neg (by simp [*])]
  refine DK.ret ?_
  refine And.intro (Or.inr rfl) ?_
  refine ⟨_, by simp [absAnswer, absResults, absResult, Tryd.f34, g, j, m, n, p, c, d]; rfl, ?_⟩
  exact ⟨_, by rw [hres]; rfl, hM.keep.ext, by rw [hres]; exact hO, q.le (by omega)⟩
theorem basks_s (k : Nat) (b : Bk) {sp : Value} {l : List As} {H : Mem} (hB : BkAt H sp l b) (hk : BOk k b) (hk3 : k ≤ 300000000) : FSem Tryd.prog [0] 14 #[bkv b.today sp l] H fun v H' => RowOut H b.asks v H' := by
  refine FSem.ofK Tryd.func14 rfl ?_
  refine DK.from (b' := ⟨#[bkv b.today sp l, undef, undef, undef, undef, undef, undef, undef, undef, undef, undef, undef, undef, undef, undef, undef, undef, undef, undef], []⟩) (by kernel_rfl) ?_
  have r := trivial
  have t := trivial
  have e := trivial
  have f := trivial
  have g := trivial
  have j := trivial
  have m := trivial
  have c := trivial
  have n := trivial
  have o := trivial
  have p := trivial
  have d := trivial
  obtain ⟨hsp0, hsp1⟩ := hB.pls.cells
  have hl32 := hB.len
  have hB32 := hk.len
  refine DK.seq ?_
  refine DK.region (is := [0, 1]) (by kernel_rfl) rfl ?_
  refine WK.run [0, 1] (by simp [r, t, e, f, hsp0, hsp1, hl32, g, j, m, c, n, o, p, d, absIndex]; constructor <;> rfl) ?_
  refine WK.nil ?_
  refine DK.abs (fun M0 => AtM H [BkL b.today sp l] M0) (AtM.start H [] [_]) ?_
  try clear hM
  rintro M0 hM
  replace r := hM.own 0 (by simp)
  simp only [List.getElem_cons_zero, List.getElem_cons_succ, Nat.add_zero] at r
  replace t := hM.q1
  refine DK.seq ?_
  refine DK.region (is := [0]) (by kernel_rfl) rfl ?_
  refine WK.run [0] (by simp [r, t, e, f, hsp0, hsp1, hl32, g, j, m, c, n, o, p, d, absIndex]; constructor <;> rfl) ?_
  refine WK.nil ?_
  refine DK.seq ?_
  refine DK.seq ?_
  refine DK.region (is := [0, 1, 2]) (by kernel_rfl) rfl ?_
  refine WK.run [0, 1, 2] (by simp [r, t, e, f, hsp0, hsp1, hl32, g, j, m, c, n, o, p, d, absIndex]; constructor <;> rfl) ?_
  refine WK.nil ?_
  refine DK.block ?_
  refine DK.loopG [3, 4, 5, 8, 9, 10, 11, 12, 13, 14, 15, 16, 17] (fun fl vs H' => ∃ (i : Int) (l5 : Value) (j4 j5 j9 j10 j11 j12 j13 j14 j15 j16 j17 : Value), vs = [l5, j4, j5, .int .i64 i, j9, j10, j11, j12, j13, j14, j15, j16, j17] ∧ (AtM H [BkL b.today sp l] H' ∧ RowAt H' l5 (asksFrom 0 (b.subs.take i.toNat)) ∧ Own H' l5 ∧ New (H.length + 1) l5) ∧ 0 ≤ i ∧ i ≤ 32 ∧ fl = (32 - i).toNat) (32) (by kernel_rfl) ?_ ?_
  · refine ⟨_, _, _, _, _, _, _, _, _, _, _, _, _, rfl, ?_⟩
    exact ⟨⟨hM, RowAt.nil _, Own.nil _ _ _, New.nil _ _ _⟩, by omega, by omega, by omega⟩
  rintro fl _ M ⟨i, l5, j4, j5, j9, j10, j11, j12, j13, j14, j15, j16, j17, rfl, hf⟩
  try clear hM
  obtain ⟨⟨hM, hR, hW, hN⟩, hj0, hj1, hfl⟩ := hf
  replace r := hM.own 0 (by simp)
  simp only [List.getElem_cons_zero, List.getElem_cons_succ, Nat.add_zero] at r
  replace t := hM.q1
  replace n := hR.cells.1
  replace o := hR.cells.2
  refine DK.from (by simp [setL]; exact rfl) ?_
  refine DK.seq ?_
  refine DK.region (is := [0]) (by kernel_rfl) rfl ?_
  refine WK.run [0] (by simp [r, t, e, f, hsp0, hsp1, hl32, g, j, m, c, n, o, p, d, absIndex]; constructor <;> rfl) ?_
  refine WK.nil ?_
  refine DK.seq ?_
  refine DK.test rfl rfl (fun h => ?_) (fun h => ?_)
  · try simp only [h]
    replace h := Tr.out h
    replace g : 0 ≤ i := hj0
    replace j : i < 32 := h
    replace p : IntKind.i64.wrap (i + 1) = i + 1 := wrap_in _ (by omega) (by omega)
    obtain ⟨x, hx1, hxa, hxb, hxl, hxo, hpt1⟩ := hB.nth (i := i.toNat) (by omega)
    replace m := hpt1
    replace e := hxo.cells.1
    replace f := hxo.cells.2
    have hii : ((i.toNat : Nat) : Int) = i := by omega
    have hbd := asks_bound (k := k) 0 (b.subs.take i.toNat) (fun a ha => (hk.subs a (List.mem_of_mem_take ha)).2)
    have hbd2 : (b.subs.take i.toNat).length * k ≤ 32 * k := Nat.mul_le_mul_right _ (by simp; omega)
    have hbd3 : (asksA i b.subs[i.toNat]).length ≤ k := Nat.le_trans (asksL_len _ _) (hk.subs _ (List.getElem_mem hx1)).2
    refine DK.skip ?_
    refine DK.seq ?_
    refine DK.block ?_
    refine DK.seq ?_
    refine DK.region (is := [0, 1, 2, 3, 4]) (by kernel_rfl) rfl ?_
    refine WK.run [0, 1, 2, 3, 4] (by simp [r, t, e, f, hsp0, hsp1, hl32, g, j, m, c, n, o, p, d, absIndex]; constructor <;> rfl) ?_
    refine WK.nil ?_
    refine DK.abs (fun MA => AtM H [BkL b.today sp l] MA ∧ MA[M.length]? = some (.cells false (x.a.l x.s)) ∧ RowAt MA l5 (asksFrom 0 (b.subs.take i.toNat)) ∧ Own MA l5) ⟨hM.on (Keep.app _ _), by simp, hR.apps _, hW.app _⟩ ?_
    try clear hM
    try clear d
    try clear hR
    try clear hW
    rintro MA ⟨hM, d, hR, hW⟩
    replace r := hM.own 0 (by simp)
    simp only [List.getElem_cons_zero, List.getElem_cons_succ, Nat.add_zero] at r
    replace t := hM.q1
    refine DK.region (is := [0, 1, 2, 3, 4, 5]) (by kernel_rfl) rfl ?_
    refine WK.run [0, 1, 2] (by simp [r, t, e, f, hsp0, hsp1, hl32, g, j, m, c, n, o, p, d, absIndex]; constructor <;> rfl) ?_
    refine WK.call rfl (by simp [r, t, e, f, hsp0, hsp1, hl32, g, j, m, c, n, o, p, d, absIndex]) (by simp [Tryd.func25, Tryd.f25, r, t, e, f, hsp0, hsp1, hl32, g, j, m, c, n, o, p, d, absIndex]; constructor <;> rfl) ?_
    refine FSem.mono (aasks_s i x.a (hxo.keep hM.keep) (by have := (hk.subs _ (hxa ▸ List.getElem_mem hx1)).2; omega)) ?_
    rintro _ M3 ⟨hA, hR3, hW3, hN3⟩
    have hkk := Keep.of hA
    replace hM := hM.on hkk
    replace r := hM.own 0 (by simp)
    simp only [List.getElem_cons_zero, List.getElem_cons_succ, Nat.add_zero] at r
    replace t := hM.q1
    obtain ⟨l6, MC, ha6, hR6, hW6, hf6, hn6, hn6b⟩ := appNt (hR.keep hkk) (hW.keep hkk) hR3 (by rw [hxa]; omega)
    replace c := ha6
    refine WK.run [4, 5] (by simp [r, t, e, f, hsp0, hsp1, hl32, g, j, m, c, n, o, p, d, absIndex]; constructor <;> rfl) ?_
    refine WK.nil ?_
    refine DK.region (is := [0, 1]) (by kernel_rfl) rfl ?_
    refine WK.run [0, 1] (by simp [r, t, e, f, hsp0, hsp1, hl32, g, j, m, c, n, o, p, d, absIndex]; constructor <;> rfl) ?_
    refine WK.nil ?_
    refine ⟨by kernel_rfl, (32 - (i + 1)).toNat, ?_, _, _, _, _, _, _, _, _, _, _, _, _, _, rfl, ?_⟩
    · omega
    · rw [show (i + 1).toNat = i.toNat + 1 by omega, asks_take hx1, ← hxa]
      refine ⟨⟨hM.frn hf6 hN, by simpa [hii] using hR6, hW6, ?_⟩, by omega, by omega, rfl⟩
      rcases hn6 with rfl | q
      · exact hN
      · exact q.le (hM.lt (i := 0) (by simp))
  try simp only [h]
  replace h := Fa.out h
  refine DK.exit ?_
  refine DK.seq ?_
  refine DK.region (is := [0, 1]) (by kernel_rfl) rfl ?_
  refine WK.run [0, 1] (by simp [r, t, e, f, hsp0, hsp1, hl32, g, j, m, c, n, o, p, d, absIndex]; constructor <;> rfl) ?_
  refine WK.nil ?_
  refine DK.ret ?_
  refine And.intro (Or.inr rfl) ?_
  refine ⟨_, by simp [absAnswer, absResults, absResult, Tryd.f14]; rfl, ?_⟩
  have hi : i = 32 := by omega
  subst hi
  refine ⟨hM.keep.ext, ?_, hW, hN.le (by omega)⟩
  unfold Bk.asks; rw [List.take_of_length_le (by rw [hk.len]; decide)] at hR; exact hR
end Go.Den
set_option linter.unusedVariables false
set_option maxRecDepth 100000
namespace Go.Den
open Go Go.Proofs
def noGo (R : Exit → Act → Mem → Prop) : Exit → Act → Mem → Prop := fun e b H => match e with
  | .goto _ => False
  | e => R e b H
theorem DK.scope {P : Program} {G : List Nat} {R : Exit → Act → Mem → Prop} {b : Act} {H : Mem} {x : Code} (h : DK P G x (noGo R) b H) : DK P G (.scope x) R b H := by
  refine ⟨fun φ a w hS hT Q' hQ => wp_scope_straight (h.out φ a w hS hT _ fun e b' H' φ' a' w' q1 q2 q3 q4 => ?_)⟩
  cases e with
  | goto n => exact q1.elim
  | normal => exact hQ _ b' H' φ' a' w' q1 q2 q3 q4
  | exit n => exact hQ _ b' H' φ' a' w' q1 q2 q3 q4
  | ret => exact hQ _ b' H' φ' a' w' q1 q2 q3 q4
  | panic ch => exact hQ _ b' H' φ' a' w' q1 q2 q3 q4
  | outgrown => exact hQ _ b' H' φ' a' w' q1 q2 q3 q4
theorem day_g (a : Ac) (p : Pl) (today : Int) (hu : 0 ≤ p.un) {s : Value} {H : Mem} (hO : OpenAt H s a.op) (hn : a.op.length + dayN a ≤ 1000000000000) : FSem Tryd.prog [0] 56 #[a.v s, p.v, .int .i64 today] H fun v H' => ∃ x e s', v = .tuple #[Ac.v x s', .int .i64 e] ∧ dayA a p today = (x, e) ∧ AcOut H x H' s' := by
  refine FSem.mono (day_s a p today hu hO hn) ?_
  rintro v H' ⟨s', rfl, h⟩
  exact ⟨_, _, s', rfl, rfl, h⟩
def passJ (done : List Ac) (R : List Ac × Int) : List Ac × Int := if R.2 ≠ 0 then ([], R.2) else (done ++ R.1, 0)
theorem passJ_skip {pls : List Pl} {t : Int} {done rest : List Ac} {a : Ac} (h : a.st = 0) : passJ done (passL pls t (a :: rest)) = passJ (done ++ [a]) (passL pls t rest) := by
  unfold passJ
  rw [passL]
  simp only [h, if_true, ne_eq, not_true_eq_false, if_false]
  by_cases h2 : (passL pls t rest).2 = 0 <;> simp [h2]
theorem passJ_err {pls : List Pl} {t : Int} {done rest : List Ac} {a x : Ac} {e : Int} (h : ¬ a.st = 0) (hd : dayA a (getP pls a.pl).1 t = (x, e)) (he : e ≠ 0) : passJ done (passL pls t (a :: rest)) = ([], e) := by
  unfold passJ
  rw [passL]
  simp [h, hd, he]
theorem passJ_go {pls : List Pl} {t : Int} {done rest : List Ac} {a x : Ac} {e : Int} (h : ¬ a.st = 0) (hd : dayA a (getP pls a.pl).1 t = (x, e)) (he : e = 0) : passJ done (passL pls t (a :: rest)) = passJ (done ++ [x]) (passL pls t rest) := by
  subst he
  unfold passJ
  rw [passL]
  simp only [h, if_false, hd, ne_eq, not_true_eq_false]
  by_cases h2 : (passL pls t rest).2 = 0 <;> simp [h2]
theorem passJ_0 (pls : List Pl) (t : Int) : ∀ l, passL pls t l = passJ [] (passL pls t l)
  | [] => rfl
  | a :: l => by
    unfold passJ
    rw [passL]
    by_cases h2 : (passL pls t l).2 = 0
    · split
      · simp [h2]
      · split
        · simp [h2]
        · simp [h2]
    · split
      · simp [h2]
      · split
        · simp [h2]
        · simp [h2]
theorem bk_mem {t : Int} {sp : Value} {l : List As} (h : sp.oneCell' = true) : ∀ x, x ∈ BkL t sp l → x.oneCell' = true := by
  have := bk_one (t := t) (l := l) h
  rw [allA_mem] at this
  exact fun x hx => this x (by simpa using hx)
theorem bk_ones {sp : Value} (h : sp.oneCell' = true) (t : Int) (l : List As) : (∀ x, x ∈ BkL t sp l → x.oneCell' = true) = True := eq_true (bk_mem h)
theorem passJ_nil {pls : List Pl} {t : Int} {done : List Ac} : passJ done (passL pls t []) = (done, 0) := by simp [passJ, passL]
theorem map_set_mid {li : List As} {done rest : List Ac} {a : Ac} {y : As} {i : Nat} (h : li.map As.a = done ++ a :: rest) (hd : done.length = i) : (li.set i y).map As.a = (done ++ [y.a]) ++ rest := by
  rw [List.map_set, h, List.set_append_right _ _ (by omega), hd, Nat.sub_self, List.set_cons_zero]; simp
theorem rightO_su {o : Od} (h : rightO o = 0) : (o.kd = 10 → 0 ≤ o.a.su ∧ o.a.su < 32) ∧ (o.kd ≠ 1 → o.kd ≠ 9 → o.kd ≠ 10 → 0 ≤ o.su ∧ o.su < 32) := by
  unfold rightO at h
  split at h
  · rename_i h1
    have h1 := of_decide_eq_true h1
    split at h
    · omega
    · rename_i h2
      refine ⟨fun q => by omega, fun _ _ _ => by omega⟩
  · split at h
    · exact ⟨fun q => by omega, fun q => absurd ‹_› q⟩
    · split at h
      · exact ⟨fun q => by omega, fun _ q => absurd ‹_› q⟩
      · split at h
        · split at h
          · omega
          · rename_i h2
            have h3 : noticeB o.a = true := by
              cases hc : noticeB o.a with
              | true => rfl
              | false => exact absurd (.inr hc) h2
            unfold noticeB at h3
            have h4 := of_decide_eq_true (Bool.and_eq_true_iff.1 h3).2
            exact ⟨fun _ => by omega, fun _ _ q => absurd ‹_› q⟩
        · omega
theorem BkAt.plsSet {H H' : Mem} {sp sp' : Value} {l : List As} {b : Bk} (h : BkAt H sp l b) (hk : Keep H H') {pl : List Pl} (hp : RowAt H' sp' pl) : BkAt H' sp' l { b with pls := pl } := ⟨hp, h.map, h.len, fun x hx => (h.op x hx).keep hk⟩
end Go.Den
namespace Go.Den
open Go Go.Proofs
set_option maxRecDepth 100000
set_option maxHeartbeats 1000000
set_option linter.all false
attribute [local simp] evOps evOp absOp absBox absLoad absStore absField absIndexAddr absCells absBinOp absBin absInt absShift absUn absPick absNil absExtract absPlaces Instr.fill absBuiltin absMinMax plainV plainT allA flat cells_agg cells_int cells_bool cells_str cells_ptr cells_sl cells_map one_int one_bool one_str one_ptr one_sl one_map Act.eval Act.put Region.wanted yielded absCall TypeDesc.isRow
attribute [local simp high] bk_t bk_p bk_take bk_row BkL_len sp_bk sp_t sp_p
attribute [local simp] sp_nil sp_0 sp_s List.length_set
theorem bpass_s (k : Nat) (b : Bk) (n : Int) {sp : Value} {l : List As} {H : Mem} (hB : BkAt H sp l b) (hk : BOk k b) (hk3 : k ≤ 300000000) (hu : UnOk b.pls) : FSem Tryd.prog [0] 32 #[bkv b.today sp l, .int .i64 n] H fun v H' => BkRes H sp (passB b n) v H' := by
  refine FSem.ofK Tryd.func32 rfl ?_
  refine DK.from (b' := ⟨#[bkv b.today sp l, .int .i64 n, undef, undef, undef, undef, undef, undef, undef, undef, undef, undef, undef, undef, undef, undef, undef, undef, undef, undef, undef, undef, undef, undef, undef, undef, undef, undef, undef, undef, undef, undef, undef, undef, undef, undef, undef, undef, undef, undef, undef, undef, undef, undef, undef, undef, undef, undef, undef, undef, undef, undef, undef, undef, undef, undef, undef, undef], []⟩) (by kernel_rfl) ?_
  have C := trivial
  have D := trivial
  have E := trivial
  have j := trivial
  have f := trivial
  have g := trivial
  have u := trivial
  have w := trivial
  have z := trivial
  have A := trivial
  have m := trivial
  have o := trivial
  have r := trivial
  have B := trivial
  have d := trivial
  obtain ⟨hsp0, hsp1⟩ := hB.pls.cells
  have hone := bk_ones hsp1
  have hl32 := hB.len
  have hB32 := hk.len
  refine DK.seq ?_
  refine DK.region (is := [0, 1, 2]) (by kernel_rfl) rfl ?_
  refine WK.run [0, 1, 2] (by simp [C, D, E, j, f, hone, hsp0, hsp1, hl32, g, u, w, z, A, m, o, r, B, d, absIndex]; constructor <;> rfl) ?_
  refine WK.nil ?_
  refine DK.abs (fun M0 => AtM H [BkL b.today sp l, BkL 0 (.slice none 0 0) zL] M0) (AtM.start H [] [_, _]) ?_
  try clear hM
  rintro M0 hM
  replace C := hM.own 0 (by simp)
  replace D := hM.own 1 (by simp)
  simp only [List.getElem_cons_zero, List.getElem_cons_succ, Nat.add_zero] at C D
  replace E := hM.q2
  refine DK.scope ?_
  refine DK.seq ?_
  refine DK.seq ?_
  refine DK.region (is := [0, 1, 2, 3, 4]) (by kernel_rfl) rfl ?_
  refine WK.run [0, 1, 2, 3, 4] (by simp [C, D, E, j, f, hone, hsp0, hsp1, hl32, g, u, w, z, A, m, o, r, B, d, absIndex]; constructor <;> rfl) ?_
  refine WK.nil ?_
  refine DK.test rfl rfl (fun h => ?_) (fun h => ?_)
  · try simp only [h]
    replace h := Tr.out h
    refine DK.seq ?_
    refine DK.region (is := [0, 1, 2]) (by kernel_rfl) rfl ?_
    refine WK.run [0, 1, 2] (by simp [C, D, E, j, f, hone, hsp0, hsp1, hl32, g, u, w, z, A, m, o, r, B, d, absIndex]; constructor <;> rfl) ?_
    refine WK.nil ?_
    refine DK.abs (fun MZ => AtM H [BkL b.today sp l, BkL 0 (.slice none 0 0) zL] MZ) (hM.set (i := 1) (by simp) _) ?_
    try clear hM
    rintro MZ hM
    replace C := hM.own 0 (by simp)
    replace D := hM.own 1 (by simp)
    simp only [List.getElem_cons_zero, List.getElem_cons_succ, Nat.add_zero] at C D
    replace E := hM.q2
    have hres : passB b n = (zeroB, 6) := if_pos ‹_›
    have hBk := BkAt.zero MZ
    refine DK.ret ?_
    refine And.intro (Or.inr rfl) ?_
    refine ⟨_, by simp [absAnswer, absResults, absResult, Tryd.f32, C, D, E, j, f, hsp0, hsp1, hl32, g, hone]; rfl, ?_⟩
    exact ⟨_, _, by rw [hres]; rfl, by rw [hres]; exact hBk, hM.keep, by intro c hc; first | exact .inl hc | cases hc⟩
  try simp only [h]
  replace h := Fa.out h
  refine DK.skip ?_
  refine DK.seq ?_
  refine DK.region (is := [0, 1, 2, 3, 4, 5]) (by kernel_rfl) rfl ?_
  refine WK.run [0, 1, 2, 3, 4, 5] (by simp [C, D, E, j, f, hone, hsp0, hsp1, hl32, g, u, w, z, A, m, o, r, B, d, absIndex]; constructor <;> rfl) ?_
  refine WK.nil ?_
  refine DK.abs (fun M1 => AtM H [BkL (IntKind.i64.wrap (b.today + n)) sp l, BkL 0 (.slice none 0 0) zL] M1) (hM.set (i := 0) (by simp) _) ?_
  try clear hM
  rintro M1 hM
  replace C := hM.own 0 (by simp)
  replace D := hM.own 1 (by simp)
  simp only [List.getElem_cons_zero, List.getElem_cons_succ, Nat.add_zero] at C D
  replace E := hM.q2
  refine DK.seq ?_
  refine DK.label ?_
  refine DK.seq ?_
  refine DK.seq ?_
  refine DK.region (is := [0, 1, 2]) (by kernel_rfl) rfl ?_
  refine WK.run [0, 1, 2] (by simp [C, D, E, j, f, hone, hsp0, hsp1, hl32, g, u, w, z, A, m, o, r, B, d, absIndex]; constructor <;> rfl) ?_
  refine WK.nil ?_
  refine DK.block ?_
  refine DK.loopG [5, 6, 7, 8, 9, 10, 11, 25, 26, 27, 28, 29, 30, 31, 32, 33, 34, 35, 36, 37, 38, 39, 40, 41, 42, 43, 44, 45, 46, 47, 48, 49, 50, 51, 52, 53, 54, 55, 56] (fun fl vs H' => ∃ (i : Int) (li : List As) (dn : List Ac) (j5 j6 j7 j8 j9 j10 j11 j26 j27 j28 j29 j30 j31 j32 j33 j34 j35 j36 j37 j38 j39 j40 j41 j42 j43 j44 j45 j46 j47 j48 j49 j50 j51 j52 j53 j54 j55 j56 : Value), vs = [j5, j6, j7, j8, j9, j10, j11, .int .i64 i, j26, j27, j28, j29, j30, j31, j32, j33, j34, j35, j36, j37, j38, j39, j40, j41, j42, j43, j44, j45, j46, j47, j48, j49, j50, j51, j52, j53, j54, j55, j56] ∧ (AtM H [BkL (IntKind.i64.wrap (b.today + n)) sp li, BkL 0 (.slice none 0 0) zL] H' ∧ ∀ y ∈ li, OpenAt H' y.s y.a.op) ∧ 0 ≤ i ∧ i ≤ 32 ∧ li.length = 32 ∧ li.map As.a = dn ++ b.subs.drop i.toNat ∧ dn.length = i.toNat ∧ passL b.pls (IntKind.i64.wrap (b.today + n)) b.subs = passJ dn (passL b.pls (IntKind.i64.wrap (b.today + n)) (b.subs.drop i.toNat)) ∧ (∀ y ∈ li, blkOf y.s ≠ some H.length ∧ blkOf y.s ≠ some (H.length + 1)) ∧ fl = (32 - i).toNat) (32) (by kernel_rfl) ?_ ?_
  · refine ⟨_, l, [], _, _, _, _, _, _, _, _, _, _, _, _, _, _, _, _, _, _, _, _, _, _, _, _, _, _, _, _, _, _, _, _, _, _, _, _, _, _, rfl, ?_⟩
    exact ⟨⟨hM, fun y hy => (hB.op y hy).keep hM.keep⟩, by omega, by omega, hl32, by simpa using hB.map, rfl, passJ_0 _ _ _, fun y hy => ⟨(hB.op y hy).ne (Nat.le_refl _), (hB.op y hy).ne (by omega)⟩, by omega⟩
  rintro fl _ M ⟨i, li, dn, j5, j6, j7, j8, j9, j10, j11, j26, j27, j28, j29, j30, j31, j32, j33, j34, j35, j36, j37, j38, j39, j40, j41, j42, j43, j44, j45, j46, j47, j48, j49, j50, j51, j52, j53, j54, j55, j56, rfl, hf⟩
  try clear hM
  obtain ⟨⟨hM, hop⟩, hj0, hj1, hli1, hmp, hdn, hpj, hnn, hfl⟩ := hf
  replace g := hli1
  replace C := hM.own 0 (by simp)
  replace D := hM.own 1 (by simp)
  simp only [List.getElem_cons_zero, List.getElem_cons_succ, Nat.add_zero] at C D
  replace E := hM.q2
  refine DK.from (by simp [setL]; exact rfl) ?_
  refine DK.seq ?_
  refine DK.region (is := [0]) (by kernel_rfl) rfl ?_
  refine WK.run [0] (by simp [C, D, E, j, f, hone, hsp0, hsp1, hl32, g, u, w, z, A, m, o, r, B, d, absIndex]; constructor <;> rfl) ?_
  refine WK.nil ?_
  refine DK.seq ?_
  refine DK.test rfl rfl (fun h => ?_) (fun h => ?_)
  · try simp only [h]
    replace h := Tr.out h
    replace u : 0 ≤ i := hj0
    replace w : i < 32 := h
    replace z : 2 + i.toNat * 13 ≤ 405 := by omega
    replace B : IntKind.i64.wrap (i + 1) = i + 1 := wrap_in _ (by omega) (by omega)
    obtain ⟨x, hx1, hxa, hxb, hxl, hxo, hpt1⟩ := hB.nth (i := i.toNat) (by omega)
    replace A := hpt1
    replace j := hxo.cells.1
    replace f := hxo.cells.2
    have hdr : b.subs.drop i.toNat = x.a :: b.subs.drop (i.toNat + 1) := by rw [List.drop_eq_getElem_cons hx1, hxa]
    refine DK.skip ?_
    refine DK.seq ?_
    refine DK.block ?_
    refine DK.seq ?_
    refine DK.region (is := [0, 1, 2, 3, 4]) (by kernel_rfl) rfl ?_
    refine WK.run [0, 1, 2, 3, 4] (by simp [C, D, E, j, f, hone, hsp0, hsp1, hl32, g, u, w, z, A, m, o, r, B, d, absIndex]; constructor <;> rfl) ?_
    refine WK.nil ?_
    refine DK.abs (fun MA => AtM H [BkL (IntKind.i64.wrap (b.today + n)) sp li, BkL 0 (.slice none 0 0) zL] MA ∧ MA[M.length]? = some (.cells false (x.a.l x.s)) ∧ (∀ y ∈ li, OpenAt MA y.s y.a.op)) ⟨hM.on (Keep.app _ _), by simp, fun y hy => (hop y hy).app _⟩ ?_
    try clear hM
    try clear m
    try clear hop
    rintro MA ⟨hM, m, hop⟩
    replace C := hM.own 0 (by simp)
    replace D := hM.own 1 (by simp)
    simp only [List.getElem_cons_zero, List.getElem_cons_succ, Nat.add_zero] at C D
    replace E := hM.q2
    refine DK.seq ?_
    refine DK.seq ?_
    refine DK.region (is := [0, 1, 2]) (by kernel_rfl) rfl ?_
    refine WK.run [0, 1, 2] (by simp [C, D, E, j, f, hone, hsp0, hsp1, hl32, g, u, w, z, A, m, o, r, B, d, absIndex]; constructor <;> rfl) ?_
    refine WK.nil ?_
    refine DK.test rfl rfl (fun h => ?_) (fun h => ?_)
    · try simp only [h]
      replace h := Tr.out h
      refine DK.exit ?_
      refine DK.region (is := [0, 1]) (by kernel_rfl) rfl ?_
      refine WK.run [0, 1] (by simp [C, D, E, j, f, hone, hsp0, hsp1, hl32, g, u, w, z, A, m, o, r, B, d, absIndex]; constructor <;> rfl) ?_
      refine WK.nil ?_
      refine ⟨by kernel_rfl, (32 - (i + 1)).toNat, ?_, _, li, dn ++ [x.a], _, _, _, _, _, _, _, _, _, _, _, _, _, _, _, _, _, _, _, _, _, _, _, _, _, _, _, _, _, _, _, _, _, _, _, _, _, _, rfl, ?_⟩
      · omega
      · rw [hdr, passJ_skip ‹_›] at hpj
        rw [show (i + 1).toNat = i.toNat + 1 by omega]
        exact ⟨⟨hM, hop⟩, by omega, by omega, g, by rw [hmp, hdr]; simp, by simp [hdn], hpj, hnn, rfl⟩
    try simp only [h]
    replace h := Fa.out h
    refine DK.skip ?_
    refine DK.seq ?_
    refine DK.region (is := [0, 1, 2, 3, 4, 5, 6, 7, 8, 9, 10]) (by kernel_rfl) rfl ?_
    refine WK.run [0, 1, 2, 3] (by simp [C, D, E, j, f, hone, hsp0, hsp1, hl32, g, u, w, z, A, m, o, r, B, d, absIndex]; constructor <;> rfl) ?_
    refine WK.call rfl (by simp [C, D, E, j, f, hone, hsp0, hsp1, hl32, g, u, w, z, A, m, o, r, B, d, absIndex]) (by simp [Tryd.func55, Tryd.f55, C, D, E, j, f, hone, hsp0, hsp1, hl32, g, u, w, z, A, m, o, r, B, d, absIndex]; constructor <;> rfl) ?_
    refine FSem.mono (getp_g b.pls x.a.pl (hB.pls.keep hM.keep)) ?_
    rintro _ Hq ⟨p, e1, rfl, hgp, hq⟩
    subst hq
    refine WK.run [5, 6, 7, 8, 9, 10] (by simp [C, D, E, j, f, hone, hsp0, hsp1, hl32, g, u, w, z, A, m, o, r, B, d, absIndex]; constructor <;> rfl) ?_
    refine WK.nil ?_
    refine DK.abs (fun MB => AtM H [BkL (IntKind.i64.wrap (b.today + n)) sp li, BkL 0 (.slice none 0 0) zL] MB ∧ MB[MA.length]? = some (.cells false p.l) ∧ MB[M.length]? = some (.cells false (x.a.l x.s)) ∧ (∀ y ∈ li, OpenAt MB y.s y.a.op)) ⟨hM.on (Keep.app _ _), by simp, by rw [List.getElem?_append_left (List.getElem?_eq_some_iff.1 m).1]; exact m, fun y hy => (hop y hy).app _⟩ ?_
    try clear hM
    try clear o
    try clear m
    try clear hop
    rintro MB ⟨hM, o, m, hop⟩
    replace C := hM.own 0 (by simp)
    replace D := hM.own 1 (by simp)
    simp only [List.getElem_cons_zero, List.getElem_cons_succ, Nat.add_zero] at C D
    replace E := hM.q2
    replace j := hxo.cells.1
    replace f := hxo.cells.2
    refine DK.seq ?_
    refine DK.region (is := [0, 1, 2, 3, 4, 5, 6, 7, 8, 9, 10]) (by kernel_rfl) rfl ?_
    refine WK.run [0, 1, 2, 3] (by simp [C, D, E, j, f, hone, hsp0, hsp1, hl32, g, u, w, z, A, m, o, r, B, d, absIndex]; constructor <;> rfl) ?_
    refine WK.call rfl (by simp [C, D, E, j, f, hone, hsp0, hsp1, hl32, g, u, w, z, A, m, o, r, B, d, absIndex]) (by simp [Tryd.func56, Tryd.f56, C, D, E, j, f, hone, hsp0, hsp1, hl32, g, u, w, z, A, m, o, r, B, d, absIndex]; constructor <;> rfl) ?_
    refine FSem.mono (day_g x.a p (IntKind.i64.wrap (b.today + n)) (by have := getP_un hu x.a.pl; rw [hgp] at this; exact this) (hxo.keep hM.keep) (by have := hk.subs _ (hxa ▸ List.getElem_mem hx1); have := dayN_le this.1; omega)) ?_
    rintro _ M3 ⟨x2, e2, s2, rfl, hdy, hA, hO2, hF2⟩
    have hMB := hM
    replace hM := hM.on (Keep.of hA)
    replace hop := fun y hy => (hop y hy).keep (Keep.of hA)
    replace C := hM.own 0 (by simp)
    replace D := hM.own 1 (by simp)
    simp only [List.getElem_cons_zero, List.getElem_cons_succ, Nat.add_zero] at C D
    replace E := hM.q2
    replace j := hO2.cells.1
    replace f := hO2.cells.2
    have hspl1 := sp_at (t := (IntKind.i64.wrap (b.today + n))) (sp := sp) (l := li) (i := i.toNat) (by omega) ⟨x2, s2, f⟩
    replace d := hspl1
    simp only [Ac.l] at d
    refine WK.run [5, 6, 7, 8, 9, 10] (by simp [C, D, E, j, f, hone, hsp0, hsp1, hl32, g, u, w, z, A, m, o, r, B, d, absIndex]; constructor <;> rfl) ?_
    refine WK.nil ?_
    refine DK.abs (fun MC => AtM H [BkL (IntKind.i64.wrap (b.today + n)) sp li, BkL 0 (.slice none 0 0) zL] MC ∧ MC[M3.length]? = some (.cells false (x2.l s2)) ∧ OpenAt MC s2 x2.op ∧ (∀ y ∈ li, OpenAt MC y.s y.a.op)) ⟨hM.on (Keep.app _ _), by simp, hO2.app _, fun y hy => (hop y hy).app _⟩ ?_
    try clear hM
    try clear r
    try clear hO2
    try clear hop
    rintro MC ⟨hM, r, hO2, hop⟩
    replace C := hM.own 0 (by simp)
    replace D := hM.own 1 (by simp)
    simp only [List.getElem_cons_zero, List.getElem_cons_succ, Nat.add_zero] at C D
    replace E := hM.q2
    refine DK.seq ?_
    refine DK.seq ?_
    refine DK.region (is := [0, 1]) (by kernel_rfl) rfl ?_
    refine WK.run [0, 1] (by simp [C, D, E, j, f, hone, hsp0, hsp1, hl32, g, u, w, z, A, m, o, r, B, d, absIndex]; constructor <;> rfl) ?_
    refine WK.nil ?_
    refine DK.test rfl rfl (fun h => ?_) (fun h => ?_)
    · try simp only [h]
      replace h := Tr.out h
      refine DK.seq ?_
      refine DK.region (is := [0, 1, 2, 3]) (by kernel_rfl) rfl ?_
      refine WK.run [0, 1, 2, 3] (by simp [C, D, E, j, f, hone, hsp0, hsp1, hl32, g, u, w, z, A, m, o, r, B, d, absIndex]; constructor <;> rfl) ?_
      refine WK.nil ?_
      refine DK.abs (fun MZ => AtM H [BkL (IntKind.i64.wrap (b.today + n)) sp li, BkL 0 (.slice none 0 0) zL] MZ) (hM.set (i := 1) (by simp) _) ?_
      try clear hM
      rintro MZ hM
      replace C := hM.own 0 (by simp)
      replace D := hM.own 1 (by simp)
      simp only [List.getElem_cons_zero, List.getElem_cons_succ, Nat.add_zero] at C D
      replace E := hM.q2
      have hres : passB b n = (zeroB, e2) := by
        have e := passJ_err (done := dn) (rest := b.subs.drop (i.toNat + 1)) ‹¬x.a.st = 0› (by rw [hgp]; exact hdy) ‹e2 ≠ 0›
        rw [hdr, e] at hpj
        unfold passB; rw [if_neg ‹_›]; simp only [hpj]; rw [if_pos ‹_›]
      have hBk := BkAt.zero MZ
      refine DK.ret ?_
      refine And.intro (Or.inr rfl) ?_
      refine ⟨_, by simp [absAnswer, absResults, absResult, Tryd.f32, C, D, E, j, f, hsp0, hsp1, hl32, g, hone]; rfl, ?_⟩
      exact ⟨_, _, by rw [hres]; rfl, by rw [hres]; exact hBk, hM.keep, by intro c hc; first | exact .inl hc | cases hc⟩
    try simp only [h]
    replace h := Fa.out h
    refine DK.skip ?_
    refine DK.region (is := [0, 1, 2, 3, 4]) (by kernel_rfl) rfl ?_
    refine WK.run [0, 1, 2, 3, 4] (by simp [C, D, E, j, f, hone, hsp0, hsp1, hl32, g, u, w, z, A, m, o, r, B, d, absIndex]; constructor <;> rfl) ?_
    refine WK.nil ?_
    refine DK.region (is := [0, 1]) (by kernel_rfl) rfl ?_
    refine WK.run [0, 1] (by simp [C, D, E, j, f, hone, hsp0, hsp1, hl32, g, u, w, z, A, m, o, r, B, d, absIndex]; constructor <;> rfl) ?_
    refine WK.nil ?_
    refine ⟨by kernel_rfl, (32 - (i + 1)).toNat, ?_, _, li.set i.toNat ⟨x2, s2, f⟩, dn ++ [x2], _, _, _, _, _, _, _, _, _, _, _, _, _, _, _, _, _, _, _, _, _, _, _, _, _, _, _, _, _, _, _, _, _, _, _, _, _, _, rfl, ?_⟩
    · omega
    · rw [hdr, passJ_go ‹¬x.a.st = 0› (by rw [hgp]; exact hdy) ‹e2 = 0›] at hpj
      rw [hdr] at hmp
      rw [show (i + 1).toNat = i.toNat + 1 by omega]
      have hs2n : blkOf s2 ≠ some H.length ∧ blkOf s2 ≠ some (H.length + 1) := ⟨hF2.ne (hMB.lt (i := 0) (by simp)), hF2.ne (hMB.lt (i := 1) (by simp))⟩
      refine ⟨⟨hM.set (i := 0) (by simp) _, fun y hy => ?_⟩, by omega, by omega, by rw [List.length_set]; exact g, map_set_mid hmp hdn, by simp [hdn], hpj, fun y hy => ?_, rfl⟩
      · rcases List.mem_or_eq_of_mem_set hy with q | rfl
        · exact (hop y q).set (hnn y q).1 _
        · exact hO2.set hs2n.1 _
      · rcases List.mem_or_eq_of_mem_set hy with q | rfl
        · exact hnn y q
        · exact hs2n
  try simp only [h]
  replace h := Fa.out h
  refine DK.exit ?_
  refine DK.seq ?_
  refine DK.region (is := [0, 1, 2]) (by kernel_rfl) rfl ?_
  refine WK.run [0, 1, 2] (by simp [C, D, E, j, f, hone, hsp0, hsp1, hl32, g, u, w, z, A, m, o, r, B, d, absIndex]; constructor <;> rfl) ?_
  refine WK.nil ?_
  refine DK.abs (fun MF => AtM H [BkL (IntKind.i64.wrap (b.today + n)) sp li, BkL (IntKind.i64.wrap (b.today + n)) sp li] MF ∧ (∀ y ∈ li, OpenAt MF y.s y.a.op)) ⟨hM.set (i := 1) (by simp) _, fun y hy => ((hop y hy).set (hnn y hy).2 _)⟩ ?_
  try clear hM
  try clear hop
  rintro MF ⟨hM, hop⟩
  replace C := hM.own 0 (by simp)
  replace D := hM.own 1 (by simp)
  simp only [List.getElem_cons_zero, List.getElem_cons_succ, Nat.add_zero] at C D
  replace E := hM.q2
  have hi : i = 32 := by omega
  subst hi
  have hres : passB b n = (⟨(IntKind.i64.wrap (b.today + n)), b.pls, dn⟩, 0) := by
    rw [show b.subs.drop (32 : Int).toNat = [] from List.drop_of_length_le (by rw [hB32]; decide), passJ_nil] at hpj
    unfold passB; rw [if_neg ‹_›]; simp only [hpj]; rw [if_neg (by simp)]
  have hBk : BkAt MF sp li ⟨(IntKind.i64.wrap (b.today + n)), b.pls, dn⟩ := ⟨hB.pls.keep hM.keep, by rw [hmp, List.drop_of_length_le (by rw [hB32]; decide), List.append_nil], g, hop⟩
  refine DK.ret ?_
  refine And.intro (Or.inr rfl) ?_
  refine ⟨_, by simp [absAnswer, absResults, absResult, Tryd.f32, C, D, E, j, f, hsp0, hsp1, hl32, g, hone]; rfl, ?_⟩
  exact ⟨_, _, by rw [hres]; rfl, by rw [hres]; exact hBk, hM.keep, by intro c hc; first | exact .inl hc | cases hc⟩
end Go.Den
set_option linter.unusedVariables false
set_option maxRecDepth 100000
namespace Go.Den
open Go Go.Proofs
theorem addp_g (l : List Pl) (p : Pl) {s : Value} {H : Mem} (hR : RowAt H s l) : FSem Tryd.prog [0] 30 #[s, p.v] H fun v H' => ∃ pl k e s', v = .tuple #[s', .int .i64 k, .int .i64 e] ∧ addPl l p = (pl, k, e) ∧ RowOut H pl s' H' := by
  refine FSem.mono (addp_s l p hR) ?_
  rintro v H' ⟨s', rfl, h⟩
  exact ⟨_, _, _, s', rfl, rfl, h⟩
theorem bopen_g (k : Nat) (b : Bk) (o : Od) {sp : Value} {l : List As} {H : Mem} (hB : BkAt H sp l b) (hk : BOk k b) (hu : UnOk b.pls) (h0 : 0 ≤ o.su) (h1 : o.su < 32) : FSem Tryd.prog [0] 31 #[bkv b.today sp l, o.v] H fun v H' => ∃ x e s', v = .tuple #[Ac.v x s', .int .i64 e] ∧ openB b o = (x, e) ∧ AcOut H x H' s' := by
  refine FSem.mono (bopen_s k b o hB hk hu h0 h1) ?_
  rintro v H' ⟨s', rfl, h⟩
  exact ⟨_, _, s', rfl, rfl, h⟩
theorem bturn_g (k : Nat) (b : Bk) (a : Ac) (o : Od) {sp : Value} {l : List As} {H : Mem} (hB : BkAt H sp l b) (hk : BOk k b) (hu : UnOk b.pls) {s : Value} (hO : OpenAt H s a.op) (hn : a.op.length ≤ 1000000000000) : FSem Tryd.prog [0] 34 #[bkv b.today sp l, a.v s, o.v] H fun v H' => ∃ x e s', v = .tuple #[Ac.v x s', .int .i64 e] ∧ turnB b a o = (x, e) ∧ AcOut H x H' s' := by
  refine FSem.mono (bturn_s k b a o hB hk hu hO hn) ?_
  rintro v H' ⟨s', rfl, h⟩
  exact ⟨_, _, s', rfl, rfl, h⟩
theorem ahear_g (su : Int) (a : Ac) (n : Nt) (today : Int) {s : Value} {H : Mem} (hL : Lad H) (hO : OpenAt H s a.op) (hn : a.op.length ≤ 1000000000000) : FSem Tryd.prog [0] 33 #[.int .i64 su, a.v s, n.v, .int .i64 today] H fun v H' => ∃ x e s', v = .tuple #[Ac.v x s', .int .i64 e] ∧ hearA su a n today = (x, e) ∧ AcOut H x H' s' := by
  refine FSem.mono (ahear_s su a n today hL hO hn) ?_
  rintro v H' ⟨s', rfl, h⟩
  exact ⟨_, _, s', rfl, rfl, h⟩
theorem bpass_g (k : Nat) (b : Bk) (n : Int) {sp : Value} {l : List As} {H : Mem} (hB : BkAt H sp l b) (hk : BOk k b) (hk3 : k ≤ 300000000) (hu : UnOk b.pls) : FSem Tryd.prog [0] 32 #[bkv b.today sp l, .int .i64 n] H fun v H' => ∃ b' e sp' l', v = .tuple #[bkv b'.today sp' l', .int .i64 e] ∧ passB b n = (b', e) ∧ BkAt H' sp' l' b' ∧ l'.length = 32 ∧ sp'.oneCell' = true ∧ sp'.cells = #[sp'] ∧ Keep H H' ∧ ∀ c, blkOf sp' = some c → blkOf sp = some c ∨ H.length ≤ c := by
  refine FSem.mono (bpass_s k b n hB hk hk3 hu) ?_
  rintro v H' ⟨sp', l', rfl, h, hk, hsb⟩
  exact ⟨_, _, sp', l', rfl, rfl, h, h.len, h.pls.cells.2, h.pls.cells.1, hk, hsb⟩
def BkFree (sp : Value) (l : List As) (k : Nat) : Prop := blkOf sp ≠ some k ∧ ∀ x ∈ l, blkOf x.s ≠ some k
theorem BkAt.set {H : Mem} {sp : Value} {l : List As} {b : Bk} (h : BkAt H sp l b) {k : Nat} (hf : BkFree sp l k) (x : Blk) : BkAt (H.set k x) sp l b := ⟨h.pls.set hf.1 _, h.map, h.len, fun y hy => (h.op y hy).set (hf.2 y hy) _⟩
theorem BkAt.free {H : Mem} {sp : Value} {l : List As} {b : Bk} (h : BkAt H sp l b) {k : Nat} (hk : H.length ≤ k) : BkFree sp l k := ⟨fun e => by have := h.pls.lt e; omega, fun y hy => (h.op y hy).ne hk⟩
theorem BkFree.put {sp : Value} {l : List As} {k i : Nat} {x : As} (h : BkFree sp l k) (hx : blkOf x.s ≠ some k) : BkFree sp (l.set i x) k := ⟨h.1, fun y hy => by
  rcases List.mem_or_eq_of_mem_set hy with q | rfl
  · exact h.2 y q
  · exact hx⟩
theorem BkAt.fre {H : Mem} {sp : Value} {l : List As} {b : Bk} (h : BkAt H sp l b) {k : Nat} {ro : Bool} {vs : List Value} (hk : H[k]? = some (.cells ro vs)) (hv : vs.length % 8 ≠ 0) (hs : blkOf sp ≠ some k) : BkFree sp l k := ⟨hs, fun y hy => (h.op y hy).far hk hv⟩
theorem put_ok {b : Bk} {i : Int} {x : Ac} {e : Int} : b.put i (x, e) = if e ≠ 0 then (zeroB, e) else ({ b with subs := b.subs.set i.toNat x }, 0) := rfl
end Go.Den
set_option linter.unusedVariables false
set_option maxRecDepth 100000
namespace Go.Den
open Go Go.Proofs
theorem RowAt.frk {α : Type} [Cel α] {M M' : Mem} {s : Value} {l : List α} {k : Nat} (h : RowAt M s l) (hf : FrK M k M') (hne : blkOf s ≠ some k) : RowAt M' s l := h.of fun b hb hl => hf.2 b hl (fun e => hne (by rw [hb, e]))
theorem Own.frk {M M' : Mem} {s : Value} {k : Nat} (h : Own M s) (hf : FrK M k M') (hne : blkOf s ≠ some k) : Own M' s := h.of fun b hb hl => hf.2 b hl (fun e => hne (by rw [hb, e]))
theorem FrK.keep {H M : Mem} {k : Nat} (h : FrK H k M) (hk : H.length ≤ k) : Keep H M := ⟨h.1, fun i hi => h.2 i hi (by omega)⟩
theorem plsX_go {m : Nat} {b b' : Bx} {p : Pl} (hc : planX b = (p, b')) : plsX (m + 1) b = (p :: (plsX m b').1, (plsX m b').2) := by rw [plsX, hc]
theorem subsX_go {m : Nat} {q : Int} {b b' : Bx} {a : Ac} (hc : acX q b = (a, b')) : subsX q (m + 1) b = (a :: (subsX q m b').1, (subsX q m b').2) := by rw [subsX, hc]
def SubsAt (M : Mem) (N : Nat) (l : List As) : Prop := l.length = 32 ∧ ∀ x ∈ l, OpenAt M x.s x.a.op ∧ New N x.s
theorem SubsAt.frk {M M' : Mem} {N k : Nat} {l : List As} (h : SubsAt M N l) (hf : FrK M k M') (hk : k < N) : SubsAt M' N l := ⟨h.1, fun x hx => ⟨(h.2 x hx).1.frk hf ((h.2 x hx).2.ne hk), (h.2 x hx).2⟩⟩
theorem SubsAt.keep {M M' : Mem} {N : Nat} {l : List As} (h : SubsAt M N l) (hk : Keep M M') : SubsAt M' N l := ⟨h.1, fun x hx => ⟨(h.2 x hx).1.keep hk, (h.2 x hx).2⟩⟩
theorem SubsAt.zero (M : Mem) (N : Nat) : SubsAt M N zL := ⟨by simp, fun x hx => by rw [List.eq_of_mem_replicate (show x ∈ List.replicate 32 zAs from hx)]; exact ⟨.inl ⟨rfl, rfl⟩, New.nil _ _ _⟩⟩
theorem SubsAt.set {M : Mem} {N : Nat} {l : List As} (h : SubsAt M N l) (i : Nat) {y : As} (hy : OpenAt M y.s y.a.op) (hn : New N y.s) : SubsAt M N (l.set i y) := ⟨by simp [h.1], fun x hx => by
  rcases List.mem_or_eq_of_mem_set hx with q | rfl
  · exact h.2 x q
  · exact ⟨hy, hn⟩⟩
theorem SubsAt.mem {M : Mem} {N i : Nat} {ro : Bool} {vs : List Value} {l : List As} (h : SubsAt M N l) (hk : M[i]? = some (.cells ro vs)) (hv : vs.length % 8 ≠ 0) (x : Blk) : SubsAt (M.set i x) N l := ⟨h.1, fun y hy => ⟨(h.2 y hy).1.set ((h.2 y hy).1.far hk hv) _, (h.2 y hy).2⟩⟩
end Go.Den
namespace Go.Den
open Go Go.Proofs
set_option maxRecDepth 100000
set_option maxHeartbeats 1000000
set_option linter.all false
attribute [local simp] evOps evOp absOp absBox absLoad absStore absField absIndexAddr absCells absBinOp absBin absInt absShift absUn absPick absNil absExtract absPlaces Instr.fill absBuiltin absMinMax plainV plainT allA flat cells_agg cells_int cells_bool cells_str cells_ptr cells_sl cells_map one_int one_bool one_str one_ptr one_sl one_map Act.eval Act.put Region.wanted yielded absCall TypeDesc.isRow
attribute [local simp high] bk_t bk_p bk_take bk_row BkL_len sp_bk sp_t sp_p
attribute [local simp] sp_nil sp_0 sp_s List.length_set
theorem decode_s {w : Value} {p : List By} {H : Mem} (hR : RowAt H w p) (hok : ByOk p) (hn : p.length ≤ 1000000000000) : FSem Tryd.prog [0] 22 #[w] H fun v H' => ∃ b e sp l, v = .tuple #[bkv b.today sp l, .int .i64 e] ∧ decX p = (b, e) ∧ BkAt H' sp l b ∧ l.length = 32 ∧ sp.cells = #[sp] ∧ sp.oneCell' = true ∧ Keep H H' ∧ ∀ c, blkOf sp = some c → H.length ≤ c := by
  refine FSem.ofK Tryd.func22 rfl ?_
  refine DK.from (b' := ⟨#[w, undef, undef, undef, undef, undef, undef, undef, undef, undef, undef, undef, undef, undef, undef, undef, undef, undef, undef, undef, undef, undef, undef, undef, undef, undef, undef, undef, undef, undef, undef, undef, undef, undef, undef, undef, undef, undef, undef, undef, undef, undef, undef], []⟩) (by kernel_rfl) ?_
  have Z := trivial
  have C := trivial
  have cb := trivial
  have D := trivial
  have m := trivial
  have u := trivial
  have F := trivial
  have E := trivial
  have o := trivial
  have N := trivial
  have O := trivial
  have S := trivial
  have T := trivial
  have U := trivial
  have V := trivial
  have W := trivial
  have X := trivial
  have Y := trivial
  have K := trivial
  have B := trivial
  have q := trivial
  have g := trivial
  have j := trivial
  have L := trivial
  have d := trivial
  have r := trivial
  have A := trivial
  have a0 := trivial
  refine DK.seq ?_
  refine DK.region (is := [0, 1]) (by kernel_rfl) rfl ?_
  refine WK.run [0, 1] (by simp [Z, C, cb, D, m, u, F, E, o, N, O, S, T, U, V, W, X, Y, K, B, q, g, j, L, d, r, A]; constructor <;> rfl) ?_
  refine WK.nil ?_
  refine DK.abs (fun M0 => Keep H M0 ∧ M0[H.length]? = some (.cells false (BkL 0 (.slice none 0 0) zL))) ⟨Keep.app _ _, mem_app _ _⟩ ?_
  rintro M0 ⟨hkk, h_c2⟩
  replace Z := h_c2
  have a0 := hkk
  have hkH0 : H.length < M0.length := (List.getElem?_eq_some_iff.1 Z).1
  replace C := cellr Z
  refine DK.seq ?_
  refine DK.region (is := [0, 1, 2]) (by kernel_rfl) rfl ?_
  refine WK.run [0] (by simp [Z, C, cb, D, m, u, F, E, o, N, O, S, T, U, V, W, X, Y, K, B, q, g, j, L, d, r, A]; constructor <;> rfl) ?_
  refine WK.call rfl (by simp [Z, C, cb, D, m, u, F, E, o, N, O, S, T, U, V, W, X, Y, K, B, q, g, j, L, d, r, A]) (by simp [Tryd.func23, Tryd.f23, Z, C, cb, D, m, u, F, E, o, N, O, S, T, U, V, W, X, Y, K, B, q, g, j, L, d, r, A]; constructor <;> rfl) ?_
  refine FSem.mono (pof_s (hR.keep a0) (by omega)) ?_
  rintro _ M1 ⟨k, s, rfl, hk0, hKO, hB1, hNw⟩
  replace Z := hKO.cell Z
  replace C := cellr Z
  have hkH1 := a0.trans hKO
  have hkk9 : H.length < k := by have := hkH0; omega
  have hz : Bz M1.length M1 k ⟨p, 0⟩ := ⟨⟨s, hB1, fun c hc => hB1.lts hc⟩, hB1.lt, hok, hn⟩
  have hkM1 := hB1.lt
  have hfk := FrK.of hkH1 k
  refine WK.run [2] (by simp [Z, C, cb, D, m, u, F, E, o, N, O, S, T, U, V, W, X, Y, K, B, q, g, j, L, d, r, A]; constructor <;> rfl) ?_
  refine WK.nil ?_
  refine DK.seq ?_
  refine DK.region (is := [0, 1, 2, 3, 4]) (by kernel_rfl) rfl ?_
  refine WK.run [0] (by simp [Z, C, cb, D, m, u, F, E, o, N, O, S, T, U, V, W, X, Y, K, B, q, g, j, L, d, r, A]; constructor <;> rfl) ?_
  refine WK.call rfl (by simp [Z, C, cb, D, m, u, F, E, o, N, O, S, T, U, V, W, X, Y, K, B, q, g, j, L, d, r, A]) (by simp [Tryd.func48, Tryd.f48, Z, C, cb, D, m, u, F, E, o, N, O, S, T, U, V, W, X, Y, K, B, q, g, j, L, d, r, A]; constructor <;> rfl) ?_
  refine FSem.mono (pget_g 0 3652058 hz) ?_
  rintro _ M2 ⟨x1, b1, rfl, g1, hz, hfr⟩
  have hl12 := hfr.1
  have hl01 := hKO.1
  replace Z := hfr.cell Z (by have := hkk9; omega)
  replace C := cellr Z
  replace hfk := hfk.trans hfr
  refine WK.run [2, 3, 4] (by simp [Z, C, cb, D, m, u, F, E, o, N, O, S, T, U, V, W, X, Y, K, B, q, g, j, L, d, r, A]; constructor <;> rfl) ?_
  refine WK.nil ?_
  refine DK.abs (fun M3 => Keep M2 M3 ∧ M3[M2.length]? = some (.cells false (BkL x1 (.slice none 0 0) zL))) ⟨Keep.app _ _, by simp⟩ ?_
  rintro M3 ⟨hkk, q3⟩
  replace cb := q3
  replace D := cellr cb
  replace Z := hkk.cell Z
  replace C := cellr Z
  replace hz := hz.keep hkk
  replace hfk := hfk.trans (FrK.of hkk k)
  have hl2 : H.length < M2.length := by omega
  refine DK.seq ?_
  refine DK.seq ?_
  refine DK.region (is := [0, 1, 2]) (by kernel_rfl) rfl ?_
  refine WK.run [0] (by simp [Z, C, cb, D, m, u, F, E, o, N, O, S, T, U, V, W, X, Y, K, B, q, g, j, L, d, r, A]; constructor <;> rfl) ?_
  refine WK.call rfl (by simp [Z, C, cb, D, m, u, F, E, o, N, O, S, T, U, V, W, X, Y, K, B, q, g, j, L, d, r, A]) (by simp [Tryd.func48, Tryd.f48, Z, C, cb, D, m, u, F, E, o, N, O, S, T, U, V, W, X, Y, K, B, q, g, j, L, d, r, A]; constructor <;> rfl) ?_
  refine FSem.mono (pget_g 0 8 hz) ?_
  rintro _ M4 ⟨x2, b2, rfl, g2, hz, hfr⟩
  replace Z := hfr.cell Z (by have := hkk9; omega)
  replace C := cellr Z
  replace cb := hfr.cell cb (by have := hkk9; omega)
  replace D := cellr cb
  replace hfk := hfk.trans hfr
  refine WK.run [2] (by simp [Z, C, cb, D, m, u, F, E, o, N, O, S, T, U, V, W, X, Y, K, B, q, g, j, L, d, r, A]; constructor <;> rfl) ?_
  refine WK.nil ?_
  have hx2 : 0 ≤ x2 ∧ x2 ≤ 8 := by have := get_bd (lo := 0) (hi := 8) (by decide) (by decide) b1; rw [g2] at this; exact this
  refine DK.block ?_
  refine DK.loopF [6, 15, 16, 17, 18, 19, 20, 21, 22, 23, 24, 25] [6] (fun fl vs H' => ∃ (n : Int) (bb : Bx) (sp : Value) (pls : List Pl), vs = [.int .i64 n] ∧ (Bz M1.length H' k bb ∧ FrK H k H' ∧ H'[H.length]? = some (.cells false (BkL 0 (.slice none 0 0) zL)) ∧ H'[M2.length]? = some (.cells false (BkL x1 sp zL)) ∧ RowAt H' sp pls ∧ Own H' sp) ∧ New (M2.length + 1) sp ∧ n ≤ 8 ∧ pls.length + n.toNat ≤ 8 ∧ plsX x2.toNat b2 = (pls ++ (plsX n.toNat bb).1, (plsX n.toNat bb).2) ∧ fl = n.toNat) (x2.toNat) (by kernel_rfl) ?_ ?_
  · refine ⟨_, b2, .slice none 0 0, [], rfl, ?_⟩
    exact ⟨⟨hz, hfk, Z, cb, RowAt.nil _, Own.nil _ _ _⟩, New.nil _ _ _, by omega, by simp; omega, by simp, rfl⟩
  rintro fl f1j M ⟨n, bb, sp, pls, hv, hf⟩
  clear hz hfk
  obtain ⟨⟨hz, hfk, c20, cb0, hRp, hWp⟩, hNp, hn8, hpn, hpl, hfl⟩ := hf
  replace Z := c20
  replace cb := cb0
  replace C := cellr Z
  replace D := cellr cb
  replace F := hRp.cells.1
  replace E := hRp.cells.2
  replace L := hRp.same.2
  have hAM : M2.length < M.length := (List.getElem?_eq_some_iff.1 cb0).1
  replace q : ∀ z : Blk, (M.set M2.length z)[M2.length]? = some z := fun z => List.getElem?_set_self (List.getElem?_eq_some_iff.1 cb).1
  simp only [List.map_cons, List.map_nil, List.cons.injEq, and_true] at hv
  have hv1_0 := hv
  refine DK.from ((setL_S (by decide) _ _).trans (by simp [setS, hv1_0]; exact rfl)) ?_
  refine DK.seq ?_
  refine DK.seq ?_
  refine DK.region (is := [0, 1]) (by kernel_rfl) rfl ?_
  refine WK.run [0, 1] (by simp [Z, C, cb, D, m, u, F, E, o, N, O, S, T, U, V, W, X, Y, K, B, q, g, j, L, d, r, A]; constructor <;> rfl) ?_
  refine WK.nil ?_
  refine DK.test rfl rfl (fun h => ?_) (fun h => ?_)
  · try simp only [h]
    replace h := Tr.out h
    replace T : IntKind.i64.wrap (n - 1) = n - 1 := wrap_in _ (by omega) (by omega)
    refine DK.skip ?_
    refine DK.seq ?_
    refine DK.block ?_
    refine DK.draw rfl (POk.of (ord := [0, 1, 2, 3, 4, 5, 6, 7]) (by kernel_rfl)) ?_
    refine XK.run [0, 1, 2] (by kernel_rfl) (by simp [Z, C, cb, D, m, u, F, E, o, N, O, S, T, U, V, W, X, Y, K, B, q, g, j, L, d, r, A]; constructor <;> rfl) ?_
    refine XK.call rfl (by simp [Z, C, cb, D, m, u, F, E, o, N, O, S, T, U, V, W, X, Y, K, B, q, g, j, L, d, r, A]) rfl (by simp [Tryd.func49, Tryd.f49, Z, C, cb, D, m, u, F, E, o, N, O, S, T, U, V, W, X, Y, K, B, q, g, j, L, d, r, A]; constructor <;> rfl) ?_
    refine FSem.mono (plget_s hz (by omega)) ?_
    rintro _ M6 ⟨pq, b6, rfl, g6, hz, hfr⟩
    replace Z := hfr.cell Z (by have := hkk9; omega)
    replace C := cellr Z
    replace cb := hfr.cell cb (by have := hkk9; omega)
    replace D := cellr cb
    replace hfk := hfk.trans hfr
    obtain ⟨sp2, M7, ha, hR2, hW2, hf2, hN2⟩ := app1Pl (hRp.frk hfr (hNp.ne (by omega))) (hWp.frk hfr (hNp.ne (by omega))) pq (by omega)
    replace o := ha
    simp only [Cel.f, Pl.l] at o
    replace N := hR2.cells.1
    replace O := hR2.cells.2
    have hltA : M2.length < M6.length := (List.getElem?_eq_some_iff.1 cb).1
    replace K := (hf2.2 _ hltA (hNp.ne (by omega))).trans cb
    have c27 := (hf2.2 _ (show H.length < M6.length by omega) (hNp.ne (by omega))).trans Z
    have hz7 := hz.fr hf2 (hNp.le (by omega))
    have hfk7 := hfk.fr hf2 (hNp.le (by omega))
    refine And.intro (lag_list (l := [1]) (by kernel_rfl) (lag_cons (lag_one rfl (by simp [Z, C, cb, D, m, u, F, E, o, N, O, S, T, U, V, W, X, Y, K, B, q, g, j, L, d, r, A]; constructor <;> rfl) rfl (by simp [Z, C, cb, D, m, u, F, E, o, N, O, S, T, U, V, W, X, Y, K, B, q, g, j, L, d, r, A]) (by simp [sameL, sameV_agg, sameV_int, sameV_bool, sameV_str, sameV_ptr, sameV_sl, sameV_map, same1_int, same1_bool, same1_str, same1_ptr, same1_sl, same1_map, Z, C, cb, D, m, u, F, E, o, N, O, S, T, U, V, W, X, Y, K, B, q, g, j, L, d, r, A]) rfl) rfl)) ?_
    refine XK.run [4] (by kernel_rfl) (by simp [Z, C, cb, D, m, u, F, E, o, N, O, S, T, U, V, W, X, Y, K, B, q, g, j, L, d, r, A]; constructor <;> rfl) ?_
    refine XK.one rfl (by simp [Z, C, cb, D, m, u, F, E, o, N, O, S, T, U, V, W, X, Y, K, B, q, g, j, L, d, r, A]) rfl (by simp [Z, C, cb, D, m, u, F, E, o, N, O, S, T, U, V, W, X, Y, K, B, q, g, j, L, d, r, A]; constructor <;> rfl) (lag_list (l := []) (by kernel_rfl) rfl) ?_
    refine XK.run [6] (by kernel_rfl) (by simp [Z, C, cb, D, m, u, F, E, o, N, O, S, T, U, V, W, X, Y, K, B, q, g, j, L, d, r, A]; constructor <;> rfl) ?_
    refine XK.one rfl (by simp [Z, C, cb, D, m, u, F, E, o, N, O, S, T, U, V, W, X, Y, K, B, q, g, j, L, d, r, A]) rfl (by simp [Z, C, cb, D, m, u, F, E, o, N, O, S, T, U, V, W, X, Y, K, B, q, g, j, L, d, r, A]; constructor <;> rfl) (lag_list (l := []) (by kernel_rfl) rfl) ?_
    refine XK.nil ?_
    refine DK.abs (fun M9 => Bz M1.length M9 k b6 ∧ FrK H k M9 ∧ M9[H.length]? = some (.cells false (BkL 0 (.slice none 0 0) zL)) ∧ M9[M2.length]? = some (.cells false (BkL x1 sp2 zL)) ∧ RowAt M9 sp2 (pls ++ [pq]) ∧ Own M9 sp2) ⟨hz7.set (by omega) _, hfk7.set (by omega) _, (List.getElem?_set_ne (by omega)).trans c27, List.getElem?_set_self (List.getElem?_eq_some_iff.1 K).1, hR2.set (hN2.ne hltA) _, hW2.set (hN2.ne hltA) _⟩ ?_
    clear hz hfk
    rintro M9 ⟨hz, hfk, c25, cb5, hR5, hW5⟩
    refine DK.region (is := [0, 1, 2]) (by kernel_rfl) rfl ?_
    refine WK.run [0, 1, 2] (by simp [Z, C, cb, D, m, u, F, E, o, N, O, S, T, U, V, W, X, Y, K, B, q, g, j, L, d, r, A]; constructor <;> rfl) ?_
    refine WK.nil ?_
    refine ⟨by kernel_rfl, (n - 1).toNat, ?_, _, b6, sp2, pls ++ [pq], rfl, ?_⟩
    · omega
    · refine ⟨⟨hz, hfk, c25, cb5, hR5, hW5⟩, hN2.le (by omega), by omega, by simp; omega, ?_, rfl⟩
      rw [show n.toNat = (n - 1).toNat + 1 by omega, plsX_go g6] at hpl
      rw [hpl]; simp
  try simp only [h]
  replace h := Fa.out h
  have hpe : plsX x2.toNat b2 = (pls, bb) := by rw [hpl, show n.toNat = 0 by omega]; simp [plsX]
  refine DK.exit ?_
  refine DK.seq ?_
  refine DK.seq ?_
  refine DK.region (is := [0]) (by kernel_rfl) rfl ?_
  refine WK.run [0] (by simp [Z, C, cb, D, m, u, F, E, o, N, O, S, T, U, V, W, X, Y, K, B, q, g, j, L, d, r, A]; constructor <;> rfl) ?_
  refine WK.nil ?_
  refine DK.block ?_
  refine DK.loopF [7, 26, 27, 28, 29, 30, 31, 32, 33, 34, 35, 36, 37] [26] (fun fl vs H' => ∃ (i : Int) (bb2 : Bx) (l : List As) (dn : List Ac), vs = [.int .i64 i] ∧ (Bz M1.length H' k bb2 ∧ FrK H k H' ∧ H'[H.length]? = some (.cells false (BkL 0 (.slice none 0 0) zL)) ∧ H'[M2.length]? = some (.cells false (BkL x1 sp l)) ∧ RowAt H' sp pls ∧ SubsAt H' M1.length l) ∧ 0 ≤ i ∧ i ≤ 32 ∧ dn.length = i.toNat ∧ l.map As.a = dn ++ List.replicate (32 - i.toNat) zeroA ∧ subsX pls.length 32 bb = (dn ++ (subsX pls.length (32 - i.toNat) bb2).1, (subsX pls.length (32 - i.toNat) bb2).2) ∧ fl = (32 - i).toNat) (32) (by kernel_rfl) ?_ ?_
  · refine ⟨_, bb, zL, [], rfl, ?_⟩
    exact ⟨⟨hz, hfk, Z, cb, hRp, SubsAt.zero _ _⟩, by omega, by omega, by simp, by simp [zL, zAs], by simp, by omega⟩
  rintro fl f2j M ⟨i, bb2, l, dn, hv, hf⟩
  clear hz hfk
  obtain ⟨⟨hz, hfk, c20, cb0, hRq, hSb⟩, hj0, hj1, hdn, hmp, hsb, hfl2⟩ := hf
  replace Z := c20
  replace cb := cb0
  replace C := cellr Z
  replace D := cellr cb
  replace F := hRq.cells.1
  replace E := hRq.cells.2
  replace L := hRq.same.2
  replace m := hSb.1
  replace u := bk_ones E
  replace S := lenPl hRq
  have hAM2 : M2.length < M.length := (List.getElem?_eq_some_iff.1 cb0).1
  simp only [List.map_cons, List.map_nil, List.cons.injEq, and_true] at hv
  have hv2_0 := hv
  refine DK.from ((setL_S (by decide) _ _).trans (by simp [setS, hv2_0]; exact rfl)) ?_
  refine DK.seq ?_
  refine DK.region (is := [0]) (by kernel_rfl) rfl ?_
  refine WK.run [0] (by simp [Z, C, cb, D, m, u, F, E, o, N, O, S, T, U, V, W, X, Y, K, B, q, g, j, L, d, r, A]; constructor <;> rfl) ?_
  refine WK.nil ?_
  refine DK.seq ?_
  refine DK.test rfl rfl (fun h => ?_) (fun h => ?_)
  · try simp only [h]
    replace h := Tr.out h
    replace U : 0 ≤ i := hj0
    replace V : i < 32 := h
    replace A : 2 + i.toNat * 13 ≤ 405 := by omega
    replace W : IntKind.i64.wrap (i + 1) = i + 1 := wrap_in _ (by omega) (by omega)
    refine DK.skip ?_
    refine DK.seq ?_
    refine DK.block ?_
    refine DK.seq ?_
    refine DK.region (is := [0, 1]) (by kernel_rfl) rfl ?_
    refine WK.run [0, 1] (by simp [Z, C, cb, D, m, u, F, E, o, N, O, S, T, U, V, W, X, Y, K, B, q, g, j, L, d, r, A]; constructor <;> rfl) ?_
    refine WK.nil ?_
    refine DK.region (is := [0, 1, 2, 3, 4, 5, 6, 7, 8]) (by kernel_rfl) rfl ?_
    refine WK.run [0, 1, 2, 3] (by simp [Z, C, cb, D, m, u, F, E, o, N, O, S, T, U, V, W, X, Y, K, B, q, g, j, L, d, r, A]; constructor <;> rfl) ?_
    refine WK.run [4] (by simp [Z, C, cb, D, m, u, F, E, o, N, O, S, T, U, V, W, X, Y, K, B, q, g, j, L, d, r, A]; constructor <;> rfl) ?_
    refine WK.call rfl (by simp [Z, C, cb, D, m, u, F, E, o, N, O, S, T, U, V, W, X, Y, K, B, q, g, j, L, d, r, A]) (by simp [Tryd.func50, Tryd.f50, Z, C, cb, D, m, u, F, E, o, N, O, S, T, U, V, W, X, Y, K, B, q, g, j, L, d, r, A]; constructor <;> rfl) ?_
    refine FSem.mono (acget_s (pls.length : Int) hz (by have := (List.getElem?_eq_some_iff.1 cb).1; omega)) ?_
    rintro _ M8 ⟨aq, sa, b8, rfl, g8, hO8, hN8, hz, hfr⟩
    replace Z := hfr.cell Z (by have := hkk9; omega)
    replace C := cellr Z
    replace cb := hfr.cell cb (by have := hkk9; omega)
    replace D := cellr cb
    replace hfk := hfk.trans hfr
    replace q : ∀ z : Blk, (M8.set M2.length z)[M2.length]? = some z := fun z => List.getElem?_set_self (List.getElem?_eq_some_iff.1 cb).1
    replace X := hO8.cells.1
    replace Y := hO8.cells.2
    have hRq8 := hRq.frk hfr (hNp.ne (by omega))
    have hSb8 := hSb.frk hfr hkM1
    replace r := sp_at (t := x1) (sp := sp) (l := l) (i := i.toNat) (by rw [m]; omega) ⟨aq, sa, hO8.cells.2⟩
    simp only [Ac.l] at r
    have hltM8 : M2.length < M8.length := (List.getElem?_eq_some_iff.1 cb).1
    refine WK.run [6, 7, 8] (by simp [Z, C, cb, D, m, u, F, E, o, N, O, S, T, U, V, W, X, Y, K, B, q, g, j, L, d, r, A]; constructor <;> rfl) ?_
    refine WK.nil ?_
    refine DK.abs (fun M9 => Bz M1.length M9 k b8 ∧ FrK H k M9 ∧ M9[H.length]? = some (.cells false (BkL 0 (.slice none 0 0) zL)) ∧ M9[M2.length]? = some (.cells false (BkL x1 sp (l.set i.toNat ⟨aq, sa, hO8.cells.2⟩))) ∧ RowAt M9 sp pls ∧ SubsAt M9 M1.length (l.set i.toNat ⟨aq, sa, hO8.cells.2⟩)) ⟨hz.set (by omega) _, hfk.set (by omega) _, (List.getElem?_set_ne (by omega)).trans Z, List.getElem?_set_self (List.getElem?_eq_some_iff.1 cb).1, hRq8.set (hNp.ne (by omega)) _, (hSb8.set i.toNat (y := ⟨aq, sa, hO8.cells.2⟩) hO8 (hN8.le (by omega))).mem cb (by rw [BkL_len m]; decide) _⟩ ?_
    clear hz hfk
    rintro M9 ⟨hz, hfk, c25, cb5, hR5, hS5⟩
    refine DK.region (is := [0, 1]) (by kernel_rfl) rfl ?_
    refine WK.run [0, 1] (by simp [Z, C, cb, D, m, u, F, E, o, N, O, S, T, U, V, W, X, Y, K, B, q, g, j, L, d, r, A]; constructor <;> rfl) ?_
    refine WK.nil ?_
    refine ⟨by kernel_rfl, (32 - (i + 1)).toNat, ?_, _, b8, l.set i.toNat ⟨aq, sa, hO8.cells.2⟩, dn ++ [aq], rfl, ?_⟩
    · omega
    · refine ⟨⟨hz, hfk, c25, cb5, hR5, hS5⟩, by omega, by omega, by simp; omega, ?_, ?_, rfl⟩
      · rw [show 32 - i.toNat = (32 - (i + 1).toNat) + 1 by omega, List.replicate_succ] at hmp
        exact map_set_mid hmp hdn
      · rw [show 32 - i.toNat = (32 - (i + 1).toNat) + 1 by omega, subsX_go g8] at hsb
        rw [hsb]; simp
  try simp only [h]
  replace h := Fa.out h
  have hiE : i = 32 := by omega
  subst hiE
  have hmpE : l.map As.a = dn := by rw [hmp]; simp
  have hsbE : subsX pls.length 32 bb = (dn, bb2) := by rw [hsb]; simp [subsX]
  replace d : ∀ z : Blk, (M.set H.length z)[H.length]? = some z := fun z => List.getElem?_set_self (List.getElem?_eq_some_iff.1 Z).1
  refine DK.exit ?_
  refine DK.seq ?_
  refine DK.seq ?_
  refine DK.region (is := [0, 1, 2]) (by kernel_rfl) rfl ?_
  refine WK.run [0] (by simp [Z, C, cb, D, m, u, F, E, o, N, O, S, T, U, V, W, X, Y, K, B, q, g, j, L, d, r, A]; constructor <;> rfl) ?_
  refine WK.call rfl (by simp [Z, C, cb, D, m, u, F, E, o, N, O, S, T, U, V, W, X, Y, K, B, q, g, j, L, d, r, A]) (by simp [Tryd.func51, Tryd.f51, Z, C, cb, D, m, u, F, E, o, N, O, S, T, U, V, W, X, Y, K, B, q, g, j, L, d, r, A]; constructor <;> rfl) ?_
  refine FSem.mono (pend_g hz) ?_
  rintro _ Hq ⟨rfl, hq⟩
  subst hq
  refine WK.run [2] (by simp [Z, C, cb, D, m, u, F, E, o, N, O, S, T, U, V, W, X, Y, K, B, q, g, j, L, d, r, A]; constructor <;> rfl) ?_
  refine WK.nil ?_
  refine DK.test rfl rfl (fun h => ?_) (fun h => ?_)
  · try simp only [h]
    replace h := Tr.out h
    refine DK.seq ?_
    refine DK.region (is := [0, 1, 2]) (by kernel_rfl) rfl ?_
    refine WK.run [0, 1, 2] (by simp [Z, C, cb, D, m, u, F, E, o, N, O, S, T, U, V, W, X, Y, K, B, q, g, j, L, d, r, A]; constructor <;> rfl) ?_
    refine WK.nil ?_
    have hres : decX p = (zeroB, 4) := by unfold decX; simp only [g1, g2, hpe, hsbE]; rw [if_pos (by assumption)]
    have hKF := (hfk.keep (by omega)).set (Nat.le_refl _) (.cells false (BkL 0 (.slice none 0 0) zL))
    refine DK.ret ?_
    refine And.intro (Or.inr rfl) ?_
    refine ⟨_, by simp [absAnswer, absResults, absResult, Tryd.f22, d, m]; rfl, ?_⟩
    first
      | exact ⟨zeroB, 4, .slice none 0 0, zL, by simp [zeroB], hres, BkAt.zero _, by simp, rfl, rfl, hKF, fun c hc => by cases hc⟩
      | exact ⟨_, 0, _, _, by rfl, hres, hBF, m, F, E, hKF, fun c hc => by have := hNp c hc; omega⟩
  try simp only [h]
  replace h := Fa.out h
  refine DK.skip ?_
  refine DK.seq ?_
  refine DK.region (is := [0, 1, 2]) (by kernel_rfl) rfl ?_
  refine WK.run [0, 1, 2] (by simp [Z, C, cb, D, m, u, F, E, o, N, O, S, T, U, V, W, X, Y, K, B, q, g, j, L, d, r, A]; constructor <;> rfl) ?_
  refine WK.nil ?_
  have hres : decX p = (⟨x1, pls, dn⟩, 0) := by unfold decX; simp only [g1, g2, hpe, hsbE]; rw [if_neg (by simp [*])]
  have hKF := (hfk.keep (by omega)).set (Nat.le_refl _) (.cells false (BkL x1 sp l))
  have hBF : BkAt (M.set H.length (.cells false (BkL x1 sp l))) sp l ⟨x1, pls, dn⟩ := ⟨hRq.set (hNp.ne (by omega)) _, hmpE, hSb.1, fun x hx => (hSb.2 x hx).1.set ((hSb.2 x hx).2.ne (by omega)) _⟩
  refine DK.ret ?_
  refine And.intro (Or.inr rfl) ?_
  refine ⟨_, by simp [absAnswer, absResults, absResult, Tryd.f22, d, m]; rfl, ?_⟩
  first
    | exact ⟨zeroB, 4, .slice none 0 0, zL, by simp [zeroB], hres, BkAt.zero _, by simp, rfl, rfl, hKF, fun c hc => by cases hc⟩
    | exact ⟨_, 0, _, _, by rfl, hres, hBF, m, F, E, hKF, fun c hc => by have := hNp c hc; omega⟩
end Go.Den
