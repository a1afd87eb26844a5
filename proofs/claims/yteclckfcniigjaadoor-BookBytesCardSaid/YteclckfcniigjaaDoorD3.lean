/- A part of the proof. -/
import Derived.Test.YteclckfcniigjaaDoorD2
set_option linter.all false
namespace Go.Den
open Go Go.Proofs
set_option maxRecDepth 100000
set_option maxHeartbeats 1000000
set_option linter.all false
attribute [local simp] evOps evOp absOp absBox absAlloc absLoad absStore absField absIndexAddr absCells absBinOp absBin absInt absShift absUn absPick absNil absExtract absBuild absPlaces Instr.fill absBuiltin absMinMax plainV plainT allA flat cells_agg cells_int cells_bool cells_str cells_ptr cells_sl cells_map one_int one_bool one_str one_ptr one_sl one_map Act.eval Act.put Region.wanted yielded splice absCall TypeDesc.isRow
attribute [local simp] absLen
theorem tries_s  (H : Mem) : FSem Tryd.prog [0] 99 #[] H fun v H' => v = .int .i64 4 ∧ H' = H := by
  refine FSem.plainT ?_
  refine FSem.ofK Tryd.func99 rfl ?_
  refine DK.from (b' := ⟨#[undef], []⟩) (by kernel_rfl) ?_
  refine DK.seq ?_
  refine DK.region (is := [0]) (by kernel_rfl) rfl ?_
  refine WK.run [0] (by simp; constructor <;> rfl) ?_
  refine WK.nil ?_
  refine DK.seq ?_
  refine DK.region (is := [0]) (by kernel_rfl) rfl ?_
  refine WK.run [0] (by simp; constructor <;> rfl) ?_
  refine WK.nil ?_
  refine DK.ret ?_
  refine And.intro (Or.inr rfl) ?_
  refine ⟨_, by simp [absAnswer, absResults, absResult, Tryd.f99]; rfl, ?_⟩
  refine ⟨by first | exact ⟨[], (List.append_nil _).symm⟩ | exact ⟨_, rfl⟩, by simp, ?_⟩
  rfl
theorem pass_s (no due : Int) (H : Mem) : FSem Tryd.prog [0] 95 #[.int .i64 no, .int .i64 due] H fun v H' => v = (passC no due).v ∧ H' = H := by
  refine FSem.plainT ?_
  refine FSem.ofK Tryd.func95 rfl ?_
  refine DK.from (b' := ⟨#[.int .i64 no, .int .i64 due, undef, undef, undef, undef, undef, undef], []⟩) (by kernel_rfl) ?_
  refine DK.seq ?_
  refine DK.region (is := [0]) (by kernel_rfl) rfl ?_
  refine WK.run [0] (by simp; constructor <;> rfl) ?_
  refine WK.nil ?_
  refine DK.seq ?_
  refine DK.region (is := [0, 1, 2, 3]) (by kernel_rfl) rfl ?_
  refine WK.run [0, 1, 2, 3] (by simp; constructor <;> rfl) ?_
  refine WK.nil ?_
  refine DK.ret ?_
  refine And.intro (Or.inr rfl) ?_
  refine ⟨_, by simp [absAnswer, absResults, absResult, Tryd.f95]; rfl, ?_⟩
  refine ⟨by first | exact ⟨[], (List.append_nil _).symm⟩ | exact ⟨_, rfl⟩, by simp, ?_⟩
  rfl
theorem back_s (c : Cy) (H : Mem) : FSem Tryd.prog [0] 83 #[c.v] H fun v H' => v = (backC c).v ∧ H' = H := by
  refine FSem.plainT ?_
  refine FSem.ofK Tryd.func83 rfl ?_
  refine DK.from (b' := ⟨#[c.v, undef, undef, undef, undef, undef, undef, undef, undef], []⟩) (by kernel_rfl) ?_
  refine DK.seq ?_
  refine DK.region (is := [0, 1]) (by kernel_rfl) rfl ?_
  refine WK.run [0, 1] (by simp; constructor <;> rfl) ?_
  refine WK.nil ?_
  refine DK.seq ?_
  refine DK.region (is := [0, 1]) (by kernel_rfl) rfl ?_
  refine WK.run [0, 1] (by simp; constructor <;> rfl) ?_
  refine WK.nil ?_
  refine DK.seq ?_
  refine DK.seq ?_
  refine DK.region (is := [0, 1, 2]) (by kernel_rfl) rfl ?_
  refine WK.run [0, 1, 2] (by simp; constructor <;> rfl) ?_
  refine WK.nil ?_
  refine DK.test rfl rfl (fun h => ?_) (fun h => ?_)
  · try simp only [h]
    replace h := Tr.out h
    refine DK.region (is := [0, 1]) (by kernel_rfl) rfl ?_
    refine WK.run [0, 1] (by simp; constructor <;> rfl) ?_
    refine WK.nil ?_
    refine DK.seq ?_
    refine DK.region (is := [0, 1]) (by kernel_rfl) rfl ?_
    refine WK.run [0, 1] (by simp; constructor <;> rfl) ?_
    refine WK.nil ?_
    refine DK.ret ?_
    refine And.intro (Or.inr rfl) ?_
    refine ⟨_, by simp [absAnswer, absResults, absResult, Tryd.f83]; rfl, ?_⟩
    refine ⟨by first | exact ⟨[], (List.append_nil _).symm⟩ | exact ⟨_, rfl⟩, by simp, ?_⟩
    simp_all [backC]
  try simp only [h]
  replace h := Fa.out h
  refine DK.skip ?_
  refine DK.seq ?_
  refine DK.region (is := [0, 1]) (by kernel_rfl) rfl ?_
  refine WK.run [0, 1] (by simp; constructor <;> rfl) ?_
  refine WK.nil ?_
  refine DK.ret ?_
  refine And.intro (Or.inr rfl) ?_
  refine ⟨_, by simp [absAnswer, absResults, absResult, Tryd.f83]; rfl, ?_⟩
  refine ⟨by first | exact ⟨[], (List.append_nil _).symm⟩ | exact ⟨_, rfl⟩, by simp, ?_⟩
  simp_all [backC]
theorem ended_s (c : Cy) (H : Mem) : FSem Tryd.prog [0] 100 #[c.v] H fun v H' => v = .bool (endC c) ∧ H' = H := by
  refine FSem.plainT ?_
  refine FSem.ofK Tryd.func100 rfl ?_
  refine DK.from (b' := ⟨#[c.v, undef, undef, undef, undef, undef], []⟩) (by kernel_rfl) ?_
  refine DK.seq ?_
  refine DK.region (is := [0, 1]) (by kernel_rfl) rfl ?_
  refine WK.run [0, 1] (by simp; constructor <;> rfl) ?_
  refine WK.nil ?_
  refine DK.seq ?_
  refine DK.region (is := [0, 1, 2, 3]) (by kernel_rfl) rfl ?_
  refine WK.run [0, 1, 2, 3] (by simp; constructor <;> rfl) ?_
  refine WK.nil ?_
  refine DK.ret ?_
  refine And.intro (Or.inr rfl) ?_
  refine ⟨_, by simp [absAnswer, absResults, absResult, Tryd.f100]; rfl, ?_⟩
  refine ⟨by first | exact ⟨[], (List.append_nil _).symm⟩ | exact ⟨_, rfl⟩, by simp, ?_⟩
  simp_all [endC]
theorem paid_s (c : Cy) (over : Bool) (H : Mem) : FSem Tryd.prog [0] 98 #[c.v, .bool over] H fun v H' => v = (paidC c over).v ∧ H' = H := by
  refine FSem.plainT ?_
  refine FSem.ofK Tryd.func98 rfl ?_
  refine DK.from (b' := ⟨#[c.v, .bool over, undef, undef, undef, undef, undef, undef, undef, undef, undef, undef, undef, undef, undef], []⟩) (by kernel_rfl) ?_
  refine DK.seq ?_
  refine DK.region (is := [0, 1]) (by kernel_rfl) rfl ?_
  refine WK.run [0, 1] (by simp; constructor <;> rfl) ?_
  refine WK.nil ?_
  refine DK.seq ?_
  refine DK.block ?_
  refine DK.seq ?_
  refine DK.region (is := [0, 1]) (by kernel_rfl) rfl ?_
  refine WK.run [0, 1] (by simp; constructor <;> rfl) ?_
  refine WK.nil ?_
  refine DK.test rfl rfl (fun h => ?_) (fun h => ?_)
  · try simp only [h]
    replace h := Tr.out h
    refine DK.seq ?_
    refine DK.region (is := [0, 1, 2]) (by kernel_rfl) rfl ?_
    refine WK.run [0] (by simp; constructor <;> rfl) ?_
    refine WK.call rfl (by simp) (by simp [Tryd.func83, Tryd.f83]; constructor <;> rfl) ?_
    refine FSem.mono (back_s ⟨_, _, _, _, _, _, _, _⟩ _) ?_
    rintro _ _ ⟨rfl, rfl⟩
    refine WK.run [2] (by simp; constructor <;> rfl) ?_
    refine WK.nil ?_
    refine DK.ret ?_
    refine And.intro (Or.inr rfl) ?_
    refine ⟨_, by simp [absAnswer, absResults, absResult, Tryd.f98]; rfl, ?_⟩
    refine ⟨by first | exact ⟨[], (List.append_nil _).symm⟩ | exact ⟨_, rfl⟩, by simp, ?_⟩
    simp_all [paidC]
  try simp only [h]
  replace h := Fa.out h
  refine DK.seq ?_
  refine DK.region (is := [0, 1, 2]) (by kernel_rfl) rfl ?_
  refine WK.run [0, 1, 2] (by simp; constructor <;> rfl) ?_
  refine WK.nil ?_
  refine DK.test rfl rfl (fun h => ?_) (fun h => ?_)
  · try simp only [h]
    replace h := Tr.out h
    refine DK.region (is := [0, 1]) (by kernel_rfl) rfl ?_
    refine WK.run [0, 1] (by simp; constructor <;> rfl) ?_
    refine WK.nil ?_
    refine DK.seq ?_
    refine DK.region (is := [0, 1]) (by kernel_rfl) rfl ?_
    refine WK.run [0, 1] (by simp; constructor <;> rfl) ?_
    refine WK.nil ?_
    refine DK.ret ?_
    refine And.intro (Or.inr rfl) ?_
    refine ⟨_, by simp [absAnswer, absResults, absResult, Tryd.f98]; rfl, ?_⟩
    refine ⟨by first | exact ⟨[], (List.append_nil _).symm⟩ | exact ⟨_, rfl⟩, by simp, ?_⟩
    simp_all [paidC]
  try simp only [h]
  replace h := Fa.out h
  refine DK.region (is := [0, 1]) (by kernel_rfl) rfl ?_
  refine WK.run [0, 1] (by simp; constructor <;> rfl) ?_
  refine WK.nil ?_
  refine DK.seq ?_
  refine DK.region (is := [0, 1]) (by kernel_rfl) rfl ?_
  refine WK.run [0, 1] (by simp; constructor <;> rfl) ?_
  refine WK.nil ?_
  refine DK.ret ?_
  refine And.intro (Or.inr rfl) ?_
  refine ⟨_, by simp [absAnswer, absResults, absResult, Tryd.f98]; rfl, ?_⟩
  refine ⟨by first | exact ⟨[], (List.append_nil _).symm⟩ | exact ⟨_, rfl⟩, by simp, ?_⟩
  simp_all [paidC]
theorem begin_s (no due am us : Int) (gd : Bool) (H : Mem) : FSem Tryd.prog [0] 97 #[.int .i64 no, .int .i64 due, .int .i64 am, .int .i64 us, .bool gd] H fun v H' => v = (beginC no due am us gd).v ∧ H' = H := by
  refine FSem.plainT ?_
  refine FSem.ofK Tryd.func97 rfl ?_
  refine DK.from (b' := ⟨#[.int .i64 no, .int .i64 due, .int .i64 am, .int .i64 us, .bool gd, undef, undef, undef, undef, undef, undef, undef, undef, undef, undef, undef, undef, undef, undef, undef, undef, undef, undef, undef], []⟩) (by kernel_rfl) ?_
  refine DK.seq ?_
  refine DK.region (is := [0]) (by kernel_rfl) rfl ?_
  refine WK.run [0] (by simp; constructor <;> rfl) ?_
  refine WK.nil ?_
  refine DK.seq ?_
  refine DK.region (is := [0, 1, 2, 3, 4, 5, 6, 7]) (by kernel_rfl) rfl ?_
  refine WK.run [0, 1, 2, 3, 4, 5, 6, 7] (by simp; constructor <;> rfl) ?_
  refine WK.nil ?_
  refine DK.seq ?_
  refine DK.seq ?_
  refine DK.region (is := [0, 1]) (by kernel_rfl) rfl ?_
  refine WK.run [0, 1] (by simp; constructor <;> rfl) ?_
  refine WK.nil ?_
  refine DK.test rfl rfl (fun h => ?_) (fun h => ?_)
  · try simp only [h]
    replace h := Tr.out h
    refine DK.seq ?_
    refine DK.region (is := [0, 1]) (by kernel_rfl) rfl ?_
    refine WK.run [0, 1] (by simp; constructor <;> rfl) ?_
    refine WK.nil ?_
    refine DK.seq ?_
    refine DK.region (is := [0, 1, 2]) (by kernel_rfl) rfl ?_
    refine WK.run [0] (by simp; constructor <;> rfl) ?_
    refine WK.call rfl (by simp) (by simp [Tryd.func98, Tryd.f98]; constructor <;> rfl) ?_
    refine FSem.mono (paid_s ⟨_, _, _, _, _, _, _, _⟩ _ _) ?_
    rintro _ _ ⟨rfl, rfl⟩
    refine WK.run [2] (by simp; constructor <;> rfl) ?_
    refine WK.nil ?_
    refine DK.ret ?_
    refine And.intro (Or.inr rfl) ?_
    refine ⟨_, by simp [absAnswer, absResults, absResult, Tryd.f97]; rfl, ?_⟩
    refine ⟨by first | exact ⟨[], (List.append_nil _).symm⟩ | exact ⟨_, rfl⟩, by simp, ?_⟩
    simp_all [beginC]
  try simp only [h]
  replace h := Fa.out h
  refine DK.skip ?_
  refine DK.seq ?_
  refine DK.region (is := [0, 1]) (by kernel_rfl) rfl ?_
  refine WK.run [0, 1] (by simp; constructor <;> rfl) ?_
  refine WK.nil ?_
  refine DK.ret ?_
  refine And.intro (Or.inr rfl) ?_
  refine ⟨_, by simp [absAnswer, absResults, absResult, Tryd.f97]; rfl, ?_⟩
  refine ⟨by first | exact ⟨[], (List.append_nil _).symm⟩ | exact ⟨_, rfl⟩, by simp, ?_⟩
  simp_all [beginC]
theorem asks_s (su : Int) (c : Cy) (H : Mem) : FSem Tryd.prog [0] 52 #[.int .i64 su, c.v] H fun v H' => v = .tuple #[(asksC su c).1.v, .bool (asksC su c).2] ∧ H' = H := by
  refine FSem.plainT ?_
  refine FSem.ofK Tryd.func52 rfl ?_
  refine DK.from (b' := ⟨#[.int .i64 su, c.v, undef, undef, undef, undef, undef, undef, undef, undef, undef, undef, undef, undef, undef, undef, undef, undef, undef, undef, undef, undef, undef, undef, undef, undef, undef, undef, undef, undef, undef, undef, undef, undef, undef, undef, undef, undef, undef], []⟩) (by kernel_rfl) ?_
  refine DK.seq ?_
  refine DK.region (is := [0, 1, 2]) (by kernel_rfl) rfl ?_
  refine WK.run [0, 1, 2] (by simp; constructor <;> rfl) ?_
  refine WK.nil ?_
  refine DK.seq ?_
  refine DK.region (is := [0, 1, 2, 3, 4, 5]) (by kernel_rfl) rfl ?_
  refine WK.run [0, 1, 2, 3, 4, 5] (by simp; constructor <;> rfl) ?_
  refine WK.nil ?_
  refine DK.seq ?_
  refine DK.seq ?_
  refine DK.region (is := [0, 1]) (by kernel_rfl) rfl ?_
  refine WK.run [0, 1] (by simp; constructor <;> rfl) ?_
  refine WK.nil ?_
  refine DK.block ?_
  refine DK.seq ?_
  refine DK.region (is := [0, 1]) (by kernel_rfl) rfl ?_
  refine WK.run [0, 1] (by simp; constructor <;> rfl) ?_
  refine WK.nil ?_
  refine DK.test rfl rfl (fun h => ?_) (fun h => ?_)
  · try simp only [h]
    replace h := Tr.out h
    refine DK.draw rfl (POk.of (ord := [0, 1, 2, 3, 4, 5, 6, 7, 8, 9]) (by kernel_rfl)) ?_
    refine XK.run [0, 1, 2, 3, 4] (by kernel_rfl) (by simp; constructor <;> rfl) ?_
    refine XK.one rfl (by simp) rfl (by simp; constructor <;> rfl) (lag_list (l := [1, 3]) (by kernel_rfl) (lag_cons (lag_one rfl (by simp; constructor <;> rfl) rfl (by simp) (by simp [sameL, sameV_agg, sameV_int, sameV_bool, sameV_str, sameV_ptr, sameV_sl, sameV_map, same1_int, same1_bool, same1_str, same1_ptr, same1_sl, same1_map]) rfl) (lag_cons (lag_one rfl (by simp; constructor <;> rfl) rfl (by simp) (by simp [sameL, sameV_agg, sameV_int, sameV_bool, sameV_str, sameV_ptr, sameV_sl, sameV_map, same1_int, same1_bool, same1_str, same1_ptr, same1_sl, same1_map]) rfl) rfl))) ?_
    refine XK.run [6] (by kernel_rfl) (by simp; constructor <;> rfl) ?_
    refine XK.one rfl (by simp) rfl (by simp; constructor <;> rfl) (lag_list (l := [3]) (by kernel_rfl) (lag_cons (lag_one rfl (by simp; constructor <;> rfl) rfl (by simp) (by simp [sameL, sameV_agg, sameV_int, sameV_bool, sameV_str, sameV_ptr, sameV_sl, sameV_map, same1_int, same1_bool, same1_str, same1_ptr, same1_sl, same1_map]) rfl) rfl)) ?_
    refine XK.run [8] (by kernel_rfl) (by simp; constructor <;> rfl) ?_
    refine XK.one rfl (by simp) rfl (by simp; constructor <;> rfl) (lag_list (l := []) (by kernel_rfl) rfl) ?_
    refine XK.nil ?_
    refine DK.seq ?_
    refine DK.region (is := [0, 1, 2]) (by kernel_rfl) rfl ?_
    refine WK.run [0, 1, 2] (by simp; constructor <;> rfl) ?_
    refine WK.nil ?_
    refine DK.ret ?_
    refine And.intro (Or.inr rfl) ?_
    refine ⟨_, by simp [absAnswer, absResults, absResult, Tryd.f52]; rfl, ?_⟩
    refine ⟨by first | exact ⟨[], (List.append_nil _).symm⟩ | exact ⟨_, rfl⟩, by simp, ?_⟩
    simp_all [asksC]
  try simp only [h]
  replace h := Fa.out h
  refine DK.seq ?_
  refine DK.region (is := [0, 1]) (by kernel_rfl) rfl ?_
  refine WK.run [0, 1] (by simp; constructor <;> rfl) ?_
  refine WK.nil ?_
  refine DK.test rfl rfl (fun h => ?_) (fun h => ?_)
  · try simp only [h]
    replace h := Tr.out h
    refine DK.region (is := [0, 1]) (by kernel_rfl) rfl ?_
    refine WK.run [0, 1] (by simp; constructor <;> rfl) ?_
    refine WK.nil ?_
    refine DK.seq ?_
    refine DK.region (is := [0, 1, 2]) (by kernel_rfl) rfl ?_
    refine WK.run [0, 1, 2] (by simp; constructor <;> rfl) ?_
    refine WK.nil ?_
    refine DK.ret ?_
    refine And.intro (Or.inr rfl) ?_
    refine ⟨_, by simp [absAnswer, absResults, absResult, Tryd.f52]; rfl, ?_⟩
    refine ⟨by first | exact ⟨[], (List.append_nil _).symm⟩ | exact ⟨_, rfl⟩, by simp, ?_⟩
    simp_all [asksC]
  try simp only [h]
  replace h := Fa.out h
  refine DK.seq ?_
  refine DK.region (is := [0, 1]) (by kernel_rfl) rfl ?_
  refine WK.run [0, 1] (by simp; constructor <;> rfl) ?_
  refine WK.nil ?_
  refine DK.test rfl rfl (fun h => ?_) (fun h => ?_)
  · try simp only [h]
    replace h := Tr.out h
    refine DK.region (is := [0, 1]) (by kernel_rfl) rfl ?_
    refine WK.run [0, 1] (by simp; constructor <;> rfl) ?_
    refine WK.nil ?_
    refine DK.seq ?_
    refine DK.region (is := [0, 1, 2]) (by kernel_rfl) rfl ?_
    refine WK.run [0, 1, 2] (by simp; constructor <;> rfl) ?_
    refine WK.nil ?_
    refine DK.ret ?_
    refine And.intro (Or.inr rfl) ?_
    refine ⟨_, by simp [absAnswer, absResults, absResult, Tryd.f52]; rfl, ?_⟩
    refine ⟨by first | exact ⟨[], (List.append_nil _).symm⟩ | exact ⟨_, rfl⟩, by simp, ?_⟩
    simp_all [asksC]
  try simp only [h]
  replace h := Fa.out h
  refine DK.seq ?_
  refine DK.region (is := [0, 1]) (by kernel_rfl) rfl ?_
  refine WK.run [0, 1] (by simp; constructor <;> rfl) ?_
  refine WK.nil ?_
  refine DK.test rfl rfl (fun h => ?_) (fun h => ?_)
  · try simp only [h]
    replace h := Tr.out h
    refine DK.region (is := [0, 1]) (by kernel_rfl) rfl ?_
    refine WK.run [0, 1] (by simp; constructor <;> rfl) ?_
    refine WK.nil ?_
    refine DK.seq ?_
    refine DK.region (is := [0, 1, 2]) (by kernel_rfl) rfl ?_
    refine WK.run [0, 1, 2] (by simp; constructor <;> rfl) ?_
    refine WK.nil ?_
    refine DK.ret ?_
    refine And.intro (Or.inr rfl) ?_
    refine ⟨_, by simp [absAnswer, absResults, absResult, Tryd.f52]; rfl, ?_⟩
    refine ⟨by first | exact ⟨[], (List.append_nil _).symm⟩ | exact ⟨_, rfl⟩, by simp, ?_⟩
    simp_all [asksC]
  try simp only [h]
  replace h := Fa.out h
  refine DK.seq ?_
  refine DK.region (is := [0, 1]) (by kernel_rfl) rfl ?_
  refine WK.run [0, 1] (by simp; constructor <;> rfl) ?_
  refine WK.nil ?_
  refine DK.test rfl rfl (fun h => ?_) (fun h => ?_)
  · try simp only [h]
    replace h := Tr.out h
    refine DK.draw rfl (POk.of (ord := [0, 1, 2, 3, 4, 5]) (by kernel_rfl)) ?_
    refine XK.run [0, 1, 2] (by kernel_rfl) (by simp; constructor <;> rfl) ?_
    refine XK.one rfl (by simp) rfl (by simp; constructor <;> rfl) (lag_list (l := [1]) (by kernel_rfl) (lag_cons (lag_one rfl (by simp; constructor <;> rfl) rfl (by simp) (by simp [sameL, sameV_agg, sameV_int, sameV_bool, sameV_str, sameV_ptr, sameV_sl, sameV_map, same1_int, same1_bool, same1_str, same1_ptr, same1_sl, same1_map]) rfl) rfl)) ?_
    refine XK.run [4] (by kernel_rfl) (by simp; constructor <;> rfl) ?_
    refine XK.one rfl (by simp) rfl (by simp; constructor <;> rfl) (lag_list (l := []) (by kernel_rfl) rfl) ?_
    refine XK.nil ?_
    refine DK.seq ?_
    refine DK.region (is := [0, 1, 2]) (by kernel_rfl) rfl ?_
    refine WK.run [0, 1, 2] (by simp; constructor <;> rfl) ?_
    refine WK.nil ?_
    refine DK.ret ?_
    refine And.intro (Or.inr rfl) ?_
    refine ⟨_, by simp [absAnswer, absResults, absResult, Tryd.f52]; rfl, ?_⟩
    refine ⟨by first | exact ⟨[], (List.append_nil _).symm⟩ | exact ⟨_, rfl⟩, by simp, ?_⟩
    simp_all [asksC]
  try simp only [h]
  replace h := Fa.out h
  refine DK.seq ?_
  refine DK.region (is := [0, 1, 2]) (by kernel_rfl) rfl ?_
  refine WK.run [0, 1, 2] (by simp; constructor <;> rfl) ?_
  refine WK.nil ?_
  refine DK.ret ?_
  refine And.intro (Or.inr rfl) ?_
  refine ⟨_, by simp [absAnswer, absResults, absResult, Tryd.f52]; rfl, ?_⟩
  refine ⟨by first | exact ⟨[], (List.append_nil _).symm⟩ | exact ⟨_, rfl⟩, by simp, ?_⟩
  simp_all [asksC]
theorem card_s (c : Cy) (H : Mem) : FSem Tryd.prog [0] 87 #[c.v] H fun v H' => v = (cardC c).v ∧ H' = H := by
  refine FSem.plainT ?_
  refine FSem.ofK Tryd.func87 rfl ?_
  refine DK.from (b' := ⟨#[c.v, undef, undef, undef, undef, undef, undef, undef, undef, undef, undef, undef, undef], []⟩) (by kernel_rfl) ?_
  refine DK.seq ?_
  refine DK.region (is := [0, 1]) (by kernel_rfl) rfl ?_
  refine WK.run [0, 1] (by simp; constructor <;> rfl) ?_
  refine WK.nil ?_
  refine DK.seq ?_
  refine DK.seq ?_
  refine DK.region (is := [0, 1, 2]) (by kernel_rfl) rfl ?_
  refine WK.run [0, 1, 2] (by simp; constructor <;> rfl) ?_
  refine WK.nil ?_
  refine DK.test rfl rfl (fun h => ?_) (fun h => ?_)
  · try simp only [h]
    replace h := Tr.out h
    refine DK.seq ?_
    refine DK.region (is := [0, 1, 2, 3]) (by kernel_rfl) rfl ?_
    refine WK.run [0, 1, 2, 3] (by simp; constructor <;> rfl) ?_
    refine WK.nil ?_
    refine DK.region (is := [0, 1, 2, 3, 4]) (by kernel_rfl) rfl ?_
    refine WK.run [0, 1, 2, 3, 4] (by simp; constructor <;> rfl) ?_
    refine WK.nil ?_
    refine DK.seq ?_
    refine DK.region (is := [0, 1]) (by kernel_rfl) rfl ?_
    refine WK.run [0, 1] (by simp; constructor <;> rfl) ?_
    refine WK.nil ?_
    refine DK.ret ?_
    refine And.intro (Or.inr rfl) ?_
    refine ⟨_, by simp [absAnswer, absResults, absResult, Tryd.f87]; rfl, ?_⟩
    refine ⟨by first | exact ⟨[], (List.append_nil _).symm⟩ | exact ⟨_, rfl⟩, by simp, ?_⟩
    simp_all [cardC]
  try simp only [h]
  replace h := Fa.out h
  refine DK.skip ?_
  refine DK.seq ?_
  refine DK.region (is := [0, 1]) (by kernel_rfl) rfl ?_
  refine WK.run [0, 1] (by simp; constructor <;> rfl) ?_
  refine WK.nil ?_
  refine DK.ret ?_
  refine And.intro (Or.inr rfl) ?_
  refine ⟨_, by simp [absAnswer, absResults, absResult, Tryd.f87]; rfl, ?_⟩
  refine ⟨by first | exact ⟨[], (List.append_nil _).symm⟩ | exact ⟨_, rfl⟩, by simp, ?_⟩
  simp_all [cardC]
theorem wake_s (c : Cy) (today : Int) (H : Mem) : FSem Tryd.prog [0] 78 #[c.v, .int .i64 today] H fun v H' => v = (wakeC c today).v ∧ H' = H := by
  refine FSem.plainT ?_
  refine FSem.ofK Tryd.func78 rfl ?_
  refine DK.from (b' := ⟨#[c.v, .int .i64 today, undef, undef, undef, undef, undef, undef, undef, undef, undef, undef, undef, undef, undef, undef, undef], []⟩) (by kernel_rfl) ?_
  refine DK.seq ?_
  refine DK.region (is := [0, 1]) (by kernel_rfl) rfl ?_
  refine WK.run [0, 1] (by simp; constructor <;> rfl) ?_
  refine WK.nil ?_
  refine DK.seq ?_
  refine DK.seq ?_
  refine DK.region (is := [0, 1, 2, 3, 4, 5, 6, 7, 8]) (by kernel_rfl) rfl ?_
  refine WK.run [0, 1, 2, 3] (by simp; constructor <;> rfl) ?_
  refine WK.split (t := 8) rfl (fun h => ?_) (fun h => ?_)
  · try simp only [h]
    replace h := Tr.out h
    refine WK.run [4, 5, 6, 7, 8] (by simp; constructor <;> rfl) ?_
    refine WK.nil ?_
    refine DK.test rfl rfl (fun h => ?_) (fun h => ?_)
    · try simp only [h]
      replace h := Tr.out h
      refine DK.seq ?_
      refine DK.region (is := [0, 1, 2]) (by kernel_rfl) rfl ?_
      refine WK.run [0] (by simp; constructor <;> rfl) ?_
      refine WK.call rfl (by simp) (by simp [Tryd.func87, Tryd.f87]; constructor <;> rfl) ?_
      refine FSem.mono (card_s ⟨_, _, _, _, _, _, _, _⟩ _) ?_
      rintro _ _ ⟨rfl, rfl⟩
      refine WK.run [2] (by simp; constructor <;> rfl) ?_
      refine WK.nil ?_
      refine DK.ret ?_
      refine And.intro (Or.inr rfl) ?_
      refine ⟨_, by simp [absAnswer, absResults, absResult, Tryd.f78]; rfl, ?_⟩
      refine ⟨by first | exact ⟨[], (List.append_nil _).symm⟩ | exact ⟨_, rfl⟩, by simp, ?_⟩
      cases c; simp_all [wakeC] <;> (try (split <;> first | omega | simp))
    try simp only [h]
    replace h := Fa.out h
    refine DK.skip ?_
    refine DK.seq ?_
    refine DK.region (is := [0, 1]) (by kernel_rfl) rfl ?_
    refine WK.run [0, 1] (by simp; constructor <;> rfl) ?_
    refine WK.nil ?_
    refine DK.ret ?_
    refine And.intro (Or.inr rfl) ?_
    refine ⟨_, by simp [absAnswer, absResults, absResult, Tryd.f78]; rfl, ?_⟩
    refine ⟨by first | exact ⟨[], (List.append_nil _).symm⟩ | exact ⟨_, rfl⟩, by simp, ?_⟩
    cases c; simp_all [wakeC] <;> (try (split <;> first | omega | simp))
  try simp only [h]
  replace h := Fa.out h
  refine WK.run [4, 5, 6, 7, 8] (by simp; constructor <;> rfl) ?_
  refine WK.nil ?_
  refine DK.no rfl rfl ?_
  refine DK.skip ?_
  refine DK.seq ?_
  refine DK.region (is := [0, 1]) (by kernel_rfl) rfl ?_
  refine WK.run [0, 1] (by simp; constructor <;> rfl) ?_
  refine WK.nil ?_
  refine DK.ret ?_
  refine And.intro (Or.inr rfl) ?_
  refine ⟨_, by simp [absAnswer, absResults, absResult, Tryd.f78]; rfl, ?_⟩
  refine ⟨by first | exact ⟨[], (List.append_nil _).symm⟩ | exact ⟨_, rfl⟩, by simp, ?_⟩
  cases c; simp_all [wakeC] <;> (try (split <;> first | omega | simp))
theorem over_s (c : Cy) (H : Mem) : FSem Tryd.prog [0] 86 #[c.v] H fun v H' => v = (overC c).v ∧ H' = H := by
  refine FSem.plainT ?_
  refine FSem.ofK Tryd.func86 rfl ?_
  refine DK.from (b' := ⟨#[c.v, undef, undef, undef, undef, undef, undef, undef, undef], []⟩) (by kernel_rfl) ?_
  refine DK.seq ?_
  refine DK.region (is := [0, 1]) (by kernel_rfl) rfl ?_
  refine WK.run [0, 1] (by simp; constructor <;> rfl) ?_
  refine WK.nil ?_
  refine DK.seq ?_
  refine DK.seq ?_
  refine DK.region (is := [0, 1, 2]) (by kernel_rfl) rfl ?_
  refine WK.run [0, 1, 2] (by simp; constructor <;> rfl) ?_
  refine WK.nil ?_
  refine DK.test rfl rfl (fun h => ?_) (fun h => ?_)
  · try simp only [h]
    replace h := Tr.out h
    refine DK.region (is := [0, 1, 2, 3]) (by kernel_rfl) rfl ?_
    refine WK.run [0, 1, 2, 3] (by simp; constructor <;> rfl) ?_
    refine WK.nil ?_
    refine DK.seq ?_
    refine DK.region (is := [0, 1]) (by kernel_rfl) rfl ?_
    refine WK.run [0, 1] (by simp; constructor <;> rfl) ?_
    refine WK.nil ?_
    refine DK.ret ?_
    refine And.intro (Or.inr rfl) ?_
    refine ⟨_, by simp [absAnswer, absResults, absResult, Tryd.f86]; rfl, ?_⟩
    refine ⟨by first | exact ⟨[], (List.append_nil _).symm⟩ | exact ⟨_, rfl⟩, by simp, ?_⟩
    simp_all [overC]
  try simp only [h]
  replace h := Fa.out h
  refine DK.skip ?_
  refine DK.seq ?_
  refine DK.region (is := [0, 1]) (by kernel_rfl) rfl ?_
  refine WK.run [0, 1] (by simp; constructor <;> rfl) ?_
  refine WK.nil ?_
  refine DK.ret ?_
  refine And.intro (Or.inr rfl) ?_
  refine ⟨_, by simp [absAnswer, absResults, absResult, Tryd.f86]; rfl, ?_⟩
  refine ⟨by first | exact ⟨[], (List.append_nil _).symm⟩ | exact ⟨_, rfl⟩, by simp, ?_⟩
  simp_all [overC]
def ladI (t : Int) : Nat := if t ≤ 1 then 0 else if t = 2 then 1 else 2
theorem charged_s (c : Cy) (ve today : Int) (over : Bool) {H : Mem} (hL : Lad H) : FSem Tryd.prog [0] 82 #[c.v, .int .u8 ve, .int .i64 today, .bool over] H fun v H' => v = (chargedC c ve today over).v ∧ H' = H := by
  refine FSem.plainT ?_
  refine FSem.ofK Tryd.func82 rfl ?_
  refine DK.from (b' := ⟨#[c.v, .int .u8 ve, .int .i64 today, .bool over, undef, undef, undef, undef, undef, undef, undef, undef, undef, undef, undef, undef, undef, undef, undef, undef, undef, undef, undef, undef, undef, undef, undef, undef, undef, undef, undef, undef, undef, undef, undef, undef, undef, undef, undef, undef], []⟩) (by kernel_rfl) ?_
  obtain ⟨ro, hro⟩ := hL
  have hl6 : ∀ l : Mem, (H ++ l)[0]? = some (.cells ro [.int .i64 1, .int .i64 3, .int .i64 7]) := fun l => by rw [List.getElem?_append_left (List.getElem?_eq_some_iff.1 hro).1]; exact hro
  have hl7 : ∀ (l : Mem) (h : 0 < (H ++ l).length), (H ++ l)[0] = .cells ro [.int .i64 1, .int .i64 3, .int .i64 7] := fun l h => by have e := hl6 l; rw [List.getElem?_eq_getElem h] at e; exact Option.some.inj e
  have a := trivial
  have b := trivial
  have d := trivial
  have f := trivial
  refine DK.seq ?_
  refine DK.region (is := [0, 1]) (by kernel_rfl) rfl ?_
  refine WK.run [0, 1] (by simp [hl6, hl7, a, b, d, f]; constructor <;> rfl) ?_
  refine WK.nil ?_
  refine DK.seq ?_
  refine DK.block ?_
  refine DK.seq ?_
  refine DK.region (is := [0, 1, 2]) (by kernel_rfl) rfl ?_
  refine WK.run [0, 1, 2] (by simp [hl6, hl7, a, b, d, f]; constructor <;> rfl) ?_
  refine WK.nil ?_
  refine DK.test rfl rfl (fun h => ?_) (fun h => ?_)
  · try simp only [h]
    replace h := Tr.out h
    refine DK.seq ?_
    refine DK.region (is := [0, 1, 2, 3]) (by kernel_rfl) rfl ?_
    refine WK.run [0, 1] (by simp [hl6, hl7, a, b, d, f]; constructor <;> rfl) ?_
    refine WK.call rfl (by simp [hl6, hl7, a, b, d, f]) (by simp [Tryd.func98, Tryd.f98, hl6, hl7, a, b, d, f]; constructor <;> rfl) ?_
    refine FSem.mono (paid_s ⟨_, _, _, _, _, _, _, _⟩ _ _) ?_
    rintro _ _ ⟨rfl, rfl⟩
    refine WK.run [3] (by simp [hl6, hl7, a, b, d, f]; constructor <;> rfl) ?_
    refine WK.nil ?_
    refine DK.ret ?_
    refine And.intro (Or.inr rfl) ?_
    refine ⟨_, by simp [absAnswer, absResults, absResult, Tryd.f82]; rfl, ?_⟩
    refine ⟨by first | exact ⟨[], (List.append_nil _).symm⟩ | exact ⟨_, rfl⟩, by simp, ?_⟩
    simp_all [chargedC] <;> (try (split <;> first | omega | simp))
  try simp only [h]
  replace h := Fa.out h
  refine DK.seq ?_
  refine DK.draw rfl (POk.of (ord := [0, 1, 2, 3, 4, 5, 6, 7, 8, 9, 10, 11, 12]) (by kernel_rfl)) ?_
  refine XK.run [0, 1, 2] (by kernel_rfl) (by simp [hl6, hl7, a, b, d, f]; constructor <;> rfl) ?_
  refine XK.split (t := 19) rfl (fun h => ?_) (fun h => ?_)
  · try simp only [h]
    replace h := Tr.out h
    refine XK.run [3, 4, 5, 6] (by kernel_rfl) (by simp [hl6, hl7, a, b, d, f]; constructor <;> rfl) ?_
    refine XK.split (t := 23) rfl (fun h => ?_) (fun h => ?_)
    · try simp only [h]
      replace h := Tr.out h
      refine XK.run [7, 8] (by kernel_rfl) (by simp [hl6, hl7, a, b, d, f]; constructor <;> rfl) ?_
      refine XK.call rfl (by simp [hl6, hl7, a, b, d, f]) rfl (by simp [Tryd.func99, Tryd.f99, hl6, hl7, a, b, d, f]; constructor <;> rfl) ?_
      refine FSem.mono (tries_s _) ?_
      rintro _ _ ⟨rfl, rfl⟩
      refine And.intro (lag_list (l := [8]) (by kernel_rfl) (lag_cons (lag_one rfl (by simp [hl6, hl7, a, b, d, f]; constructor <;> rfl) rfl (by simp [hl6, hl7, a, b, d, f]) (by simp [sameL, sameV_agg, sameV_int, sameV_bool, sameV_str, sameV_ptr, sameV_sl, sameV_map, same1_int, same1_bool, same1_str, same1_ptr, same1_sl, same1_map, hl6, hl7, a, b, d, f]) rfl) rfl)) ?_
      refine XK.run [10, 11] (by kernel_rfl) (by simp [hl6, hl7, a, b, d, f]; constructor <;> rfl) ?_
      refine XK.one rfl (by simp [hl6, hl7, a, b, d, f]) rfl (by simp [hl6, hl7, a, b, d, f]; constructor <;> rfl) (lag_list (l := []) (by kernel_rfl) rfl) ?_
      refine XK.nil ?_
      refine DK.test rfl rfl (fun h => ?_) (fun h => ?_)
      · try simp only [h]
        replace h := Tr.out h
        replace a : IntKind.i64.wrap ((if c.tr < 1 then 1 else c.tr) - 1) = (ladI c.tr : Int) := by
          unfold ladI; rw [wrap_in _ (by split <;> omega) (by split <;> omega)]; split <;> split <;> first | omega | (split <;> omega)
        replace b : (ladI c.tr : Int) < 3 := by unfold ladI; split <;> (try split) <;> simp
        replace d : ladI c.tr + 1 ≤ 3 := by omega
        replace f : List.take 1 (List.drop (ladI c.tr) ([.int .i64 1, .int .i64 3, .int .i64 7] : List Value)) = [.int .i64 (ladC c.tr)] := by
          unfold ladI ladC; split <;> (try split) <;> rfl
        refine DK.draw rfl (POk.of (ord := [0, 1, 2, 3, 4, 5, 6, 7, 8, 9, 10, 11]) (by kernel_rfl)) ?_
        refine XK.run [0, 1, 2, 3, 4, 5, 6, 7, 8] (by kernel_rfl) (by simp [hl6, hl7, a, b, d, f]; constructor <;> rfl) ?_
        refine XK.one rfl (by simp [hl6, hl7, a, b, d, f]) rfl (by simp [hl6, hl7, a, b, d, f]; constructor <;> rfl) (lag_list (l := [6]) (by kernel_rfl) (lag_cons (lag_one rfl (by simp [hl6, hl7, a, b, d, f]; constructor <;> rfl) rfl (by simp [hl6, hl7, a, b, d, f]) (by simp [sameL, sameV_agg, sameV_int, sameV_bool, sameV_str, sameV_ptr, sameV_sl, sameV_map, same1_int, same1_bool, same1_str, same1_ptr, same1_sl, same1_map, hl6, hl7, a, b, d, f]) rfl) rfl)) ?_
        refine XK.run [10] (by kernel_rfl) (by simp [hl6, hl7, a, b, d, f]; constructor <;> rfl) ?_
        refine XK.one rfl (by simp [hl6, hl7, a, b, d, f]) rfl (by simp [hl6, hl7, a, b, d, f]; constructor <;> rfl) (lag_list (l := []) (by kernel_rfl) rfl) ?_
        refine XK.nil ?_
        refine DK.seq ?_
        refine DK.region (is := [0, 1]) (by kernel_rfl) rfl ?_
        refine WK.run [0, 1] (by simp [hl6, hl7, a, b, d, f]; constructor <;> rfl) ?_
        refine WK.nil ?_
        refine DK.ret ?_
        refine And.intro (Or.inr rfl) ?_
        refine ⟨_, by simp [absAnswer, absResults, absResult, Tryd.f82]; rfl, ?_⟩
        refine ⟨by first | exact ⟨[], (List.append_nil _).symm⟩ | exact ⟨_, rfl⟩, by simp, ?_⟩
        simp_all [chargedC] <;> (try (split <;> first | omega | simp))
      try simp only [h]
      replace h := Fa.out h
      refine DK.region (is := [0, 1]) (by kernel_rfl) rfl ?_
      refine WK.run [0, 1] (by simp [hl6, hl7, a, b, d, f]; constructor <;> rfl) ?_
      refine WK.nil ?_
      refine DK.seq ?_
      refine DK.region (is := [0, 1]) (by kernel_rfl) rfl ?_
      refine WK.run [0, 1] (by simp [hl6, hl7, a, b, d, f]; constructor <;> rfl) ?_
      refine WK.nil ?_
      refine DK.ret ?_
      refine And.intro (Or.inr rfl) ?_
      refine ⟨_, by simp [absAnswer, absResults, absResult, Tryd.f82]; rfl, ?_⟩
      refine ⟨by first | exact ⟨[], (List.append_nil _).symm⟩ | exact ⟨_, rfl⟩, by simp, ?_⟩
      simp_all [chargedC] <;> (try (split <;> first | omega | simp))
    try simp only [h]
    replace h := Fa.out h
    refine XK.run [7, 8] (by kernel_rfl) (by simp [hl6, hl7, a, b, d, f]; constructor <;> rfl) ?_
    refine XK.pass rfl (by simp [hl6, hl7, a, b, d, f]) (by simp [hl6, hl7, a, b, d, f]; exact rfl) ?_
    refine XK.run [10, 11] (by kernel_rfl) (by simp [hl6, hl7, a, b, d, f]; constructor <;> rfl) ?_
    refine XK.one rfl (by simp [hl6, hl7, a, b, d, f]) rfl (by simp [hl6, hl7, a, b, d, f]; constructor <;> rfl) (lag_list (l := []) (by kernel_rfl) rfl) ?_
    refine XK.nil ?_
    refine DK.no rfl rfl ?_
    refine DK.region (is := [0, 1]) (by kernel_rfl) rfl ?_
    refine WK.run [0, 1] (by simp [hl6, hl7, a, b, d, f]; constructor <;> rfl) ?_
    refine WK.nil ?_
    refine DK.seq ?_
    refine DK.region (is := [0, 1]) (by kernel_rfl) rfl ?_
    refine WK.run [0, 1] (by simp [hl6, hl7, a, b, d, f]; constructor <;> rfl) ?_
    refine WK.nil ?_
    refine DK.ret ?_
    refine And.intro (Or.inr rfl) ?_
    refine ⟨_, by simp [absAnswer, absResults, absResult, Tryd.f82]; rfl, ?_⟩
    refine ⟨by first | exact ⟨[], (List.append_nil _).symm⟩ | exact ⟨_, rfl⟩, by simp, ?_⟩
    simp_all [chargedC] <;> (try (split <;> first | omega | simp))
  try simp only [h]
  replace h := Fa.out h
  refine XK.run [3, 4, 5, 6, 7, 8] (by kernel_rfl) (by simp [hl6, hl7, a, b, d, f]; constructor <;> rfl) ?_
  refine XK.pass rfl (by simp [hl6, hl7, a, b, d, f]) (by simp [hl6, hl7, a, b, d, f]; exact rfl) ?_
  refine XK.run [10, 11] (by kernel_rfl) (by simp [hl6, hl7, a, b, d, f]; constructor <;> rfl) ?_
  refine XK.one rfl (by simp [hl6, hl7, a, b, d, f]) rfl (by simp [hl6, hl7, a, b, d, f]; constructor <;> rfl) (lag_list (l := []) (by kernel_rfl) rfl) ?_
  refine XK.nil ?_
  refine DK.no rfl rfl ?_
  refine DK.region (is := [0, 1]) (by kernel_rfl) rfl ?_
  refine WK.run [0, 1] (by simp [hl6, hl7, a, b, d, f]; constructor <;> rfl) ?_
  refine WK.nil ?_
  refine DK.seq ?_
  refine DK.region (is := [0, 1]) (by kernel_rfl) rfl ?_
  refine WK.run [0, 1] (by simp [hl6, hl7, a, b, d, f]; constructor <;> rfl) ?_
  refine WK.nil ?_
  refine DK.ret ?_
  refine And.intro (Or.inr rfl) ?_
  refine ⟨_, by simp [absAnswer, absResults, absResult, Tryd.f82]; rfl, ?_⟩
  refine ⟨by first | exact ⟨[], (List.append_nil _).symm⟩ | exact ⟨_, rfl⟩, by simp, ?_⟩
  simp_all [chargedC] <;> (try (split <;> first | omega | simp))
theorem hear_s (su : Int) (c : Cy) (a : Nt) (today : Int) (over : Bool) {H : Mem} (hL : Lad H) : FSem Tryd.prog [0] 59 #[.int .i64 su, c.v, a.v, .int .i64 today, .bool over] H fun v H' => v = .tuple #[(hearC su c a today over).1.v, .int .i64 (hearC su c a today over).2] ∧ H' = H := by
  refine FSem.plainT ?_
  refine FSem.ofK Tryd.func59 rfl ?_
  refine DK.from (b' := ⟨#[.int .i64 su, c.v, a.v, .int .i64 today, .bool over, undef, undef, undef, undef, undef, undef, undef, undef, undef, undef, undef, undef, undef, undef, undef, undef, undef, undef, undef, undef, undef, undef, undef, undef, undef, undef, undef, undef, undef, undef, undef, undef, undef, undef, undef, undef, undef, undef, undef, undef, undef, undef, undef, undef, undef, undef, undef, undef, undef, undef, undef, undef, undef, undef, undef, undef, undef, undef, undef, undef, undef, undef, undef, undef], []⟩) (by kernel_rfl) ?_
  refine DK.seq ?_
  refine DK.region (is := [0, 1, 2, 3]) (by kernel_rfl) rfl ?_
  refine WK.run [0, 1, 2, 3] (by simp; constructor <;> rfl) ?_
  refine WK.nil ?_
  refine DK.seq ?_
  refine DK.region (is := [0, 1, 2]) (by kernel_rfl) rfl ?_
  refine WK.run [0, 1, 2] (by simp; constructor <;> rfl) ?_
  refine WK.nil ?_
  refine DK.seq ?_
  refine DK.region (is := [0, 1]) (by kernel_rfl) rfl ?_
  refine WK.run [0, 1] (by simp; constructor <;> rfl) ?_
  refine WK.nil ?_
  refine DK.seq ?_
  refine DK.seq ?_
  refine DK.region (is := [0, 1, 2, 3, 4, 5, 6, 7, 8]) (by kernel_rfl) rfl ?_
  refine WK.run [0, 1] (by simp; constructor <;> rfl) ?_
  refine WK.call rfl (by simp) (by simp [Tryd.func52, Tryd.f52]; constructor <;> rfl) ?_
  refine FSem.mono (asks_s _ ⟨_, _, _, _, _, _, _, _⟩ _) ?_
  rintro _ _ ⟨rfl, rfl⟩
  refine WK.run [3, 4, 5, 6, 7, 8] (by simp; constructor <;> rfl) ?_
  refine WK.nil ?_
  refine DK.seq ?_
  refine DK.region (is := [0, 1, 2, 3, 4, 5, 6, 7, 8, 9, 10]) (by kernel_rfl) rfl ?_
  refine WK.run [0, 1, 2] (by simp; constructor <;> rfl) ?_
  refine WK.split (t := 26) rfl (fun h => ?_) (fun h => ?_)
  · try simp only [h]
    replace h := Tr.out h
    refine WK.run [3, 4, 5, 6, 7, 8, 9, 10] (by simp; constructor <;> rfl) ?_
    refine WK.nil ?_
    refine DK.yes rfl rfl ?_
    refine DK.seq ?_
    refine DK.region (is := [0, 1, 2]) (by kernel_rfl) rfl ?_
    refine WK.run [0, 1, 2] (by simp; constructor <;> rfl) ?_
    refine WK.nil ?_
    refine DK.ret ?_
    refine And.intro (Or.inr rfl) ?_
    refine ⟨_, by simp [absAnswer, absResults, absResult, Tryd.f59]; rfl, ?_⟩
    refine ⟨by first | exact ⟨[], (List.append_nil _).symm⟩ | exact ⟨_, rfl⟩, by simp, ?_⟩
    simp_all [hearC] <;> trace_state
  try simp only [h]
  replace h := Fa.out h
  refine WK.run [3, 4, 5, 6, 7] (by simp; constructor <;> rfl) ?_
  refine WK.split (t := 31) rfl (fun h => ?_) (fun h => ?_)
  · try simp only [h]
    replace h := Tr.out h
    refine WK.run [8, 9, 10] (by simp; constructor <;> rfl) ?_
    refine WK.nil ?_
    refine DK.yes rfl rfl ?_
    refine DK.seq ?_
    refine DK.region (is := [0, 1, 2]) (by kernel_rfl) rfl ?_
    refine WK.run [0, 1, 2] (by simp; constructor <;> rfl) ?_
    refine WK.nil ?_
    refine DK.ret ?_
    refine And.intro (Or.inr rfl) ?_
    refine ⟨_, by simp [absAnswer, absResults, absResult, Tryd.f59]; rfl, ?_⟩
    refine ⟨by first | exact ⟨[], (List.append_nil _).symm⟩ | exact ⟨_, rfl⟩, by simp, ?_⟩
    simp_all [hearC] <;> trace_state
  try simp only [h]
  replace h := Fa.out h
  refine WK.run [8, 9, 10] (by simp; constructor <;> rfl) ?_
  refine WK.nil ?_
  refine DK.test rfl rfl (fun h => ?_) (fun h => ?_)
  · try simp only [h]
    replace h := Tr.out h
    refine DK.seq ?_
    refine DK.region (is := [0, 1, 2]) (by kernel_rfl) rfl ?_
    refine WK.run [0, 1, 2] (by simp; constructor <;> rfl) ?_
    refine WK.nil ?_
    refine DK.ret ?_
    refine And.intro (Or.inr rfl) ?_
    refine ⟨_, by simp [absAnswer, absResults, absResult, Tryd.f59]; rfl, ?_⟩
    refine ⟨by first | exact ⟨[], (List.append_nil _).symm⟩ | exact ⟨_, rfl⟩, by simp, ?_⟩
    simp_all [hearC] <;> trace_state
  try simp only [h]
  replace h := Fa.out h
  refine DK.skip ?_
  refine DK.seq ?_
  refine DK.seq ?_
  refine DK.region (is := [0, 1]) (by kernel_rfl) rfl ?_
  refine WK.run [0, 1] (by simp; constructor <;> rfl) ?_
  refine WK.nil ?_
  refine DK.block ?_
  refine DK.seq ?_
  refine DK.region (is := [0, 1]) (by kernel_rfl) rfl ?_
  refine WK.run [0, 1] (by simp; constructor <;> rfl) ?_
  refine WK.nil ?_
  refine DK.test rfl rfl (fun h => ?_) (fun h => ?_)
  · try simp only [h]
    replace h := Tr.out h
    refine DK.seq ?_
    refine DK.region (is := [0, 1, 2, 3, 4, 5, 6]) (by kernel_rfl) rfl ?_
    refine WK.run [0, 1, 2, 3] (by simp; constructor <;> rfl) ?_
    refine WK.call rfl (by simp) (by simp [Tryd.func82, Tryd.f82]; constructor <;> rfl) ?_
    refine FSem.mono (charged_s ⟨_, _, _, _, _, _, _, _⟩ _ _ _ (hL.app _)) ?_
    rintro _ _ ⟨rfl, rfl⟩
    refine WK.run [5, 6] (by simp; constructor <;> rfl) ?_
    refine WK.nil ?_
    refine DK.ret ?_
    refine And.intro (Or.inr rfl) ?_
    refine ⟨_, by simp [absAnswer, absResults, absResult, Tryd.f59]; rfl, ?_⟩
    refine ⟨by first | exact ⟨[], (List.append_nil _).symm⟩ | exact ⟨_, rfl⟩, by simp, ?_⟩
    simp_all [hearC] <;> trace_state
  try simp only [h]
  replace h := Fa.out h
  refine DK.seq ?_
  refine DK.region (is := [0, 1]) (by kernel_rfl) rfl ?_
  refine WK.run [0, 1] (by simp; constructor <;> rfl) ?_
  refine WK.nil ?_
  refine DK.test rfl rfl (fun h => ?_) (fun h => ?_)
  · try simp only [h]
    replace h := Tr.out h
    refine DK.seq ?_
    refine DK.block ?_
    refine DK.seq ?_
    refine DK.region (is := [0, 1, 2]) (by kernel_rfl) rfl ?_
    refine WK.run [0, 1, 2] (by simp; constructor <;> rfl) ?_
    refine WK.nil ?_
    refine DK.test rfl rfl (fun h => ?_) (fun h => ?_)
    · try simp only [h]
      replace h := Tr.out h
      refine DK.seq ?_
      refine DK.region (is := [0, 1, 2, 3]) (by kernel_rfl) rfl ?_
      refine WK.run [0] (by simp; constructor <;> rfl) ?_
      refine WK.call rfl (by simp) (by simp [Tryd.func83, Tryd.f83]; constructor <;> rfl) ?_
      refine FSem.mono (back_s ⟨_, _, _, _, _, _, _, _⟩ _) ?_
      rintro _ _ ⟨rfl, rfl⟩
      refine WK.run [2, 3] (by simp; constructor <;> rfl) ?_
      refine WK.nil ?_
      refine DK.ret ?_
      refine And.intro (Or.inr rfl) ?_
      refine ⟨_, by simp [absAnswer, absResults, absResult, Tryd.f59]; rfl, ?_⟩
      refine ⟨by first | exact ⟨[], (List.append_nil _).symm⟩ | exact ⟨_, rfl⟩, by simp, ?_⟩
      simp_all [hearC] <;> trace_state
    try simp only [h]
    replace h := Fa.out h
    refine DK.seq ?_
    refine DK.region (is := [0, 1]) (by kernel_rfl) rfl ?_
    refine WK.run [0, 1] (by simp; constructor <;> rfl) ?_
    refine WK.nil ?_
    refine DK.test rfl rfl (fun h => ?_) (fun h => ?_)
    · try simp only [h]
      replace h := Tr.out h
      refine DK.seq ?_
      refine DK.region (is := [0, 1]) (by kernel_rfl) rfl ?_
      refine WK.run [0, 1] (by simp; constructor <;> rfl) ?_
      refine WK.nil ?_
      refine DK.seq ?_
      refine DK.region (is := [0, 1, 2]) (by kernel_rfl) rfl ?_
      refine WK.run [0, 1, 2] (by simp; constructor <;> rfl) ?_
      refine WK.nil ?_
      refine DK.ret ?_
      refine And.intro (Or.inr rfl) ?_
      refine ⟨_, by simp [absAnswer, absResults, absResult, Tryd.f59]; rfl, ?_⟩
      refine ⟨by first | exact ⟨[], (List.append_nil _).symm⟩ | exact ⟨_, rfl⟩, by simp, ?_⟩
      simp_all [hearC] <;> trace_state
    try simp only [h]
    replace h := Fa.out h
    refine DK.skip ?_
    refine DK.region (is := [0, 1]) (by kernel_rfl) rfl ?_
    refine WK.run [0, 1] (by simp; constructor <;> rfl) ?_
    refine WK.nil ?_
    refine DK.seq ?_
    refine DK.region (is := [0, 1, 2]) (by kernel_rfl) rfl ?_
    refine WK.run [0, 1, 2] (by simp; constructor <;> rfl) ?_
    refine WK.nil ?_
    refine DK.ret ?_
    refine And.intro (Or.inr rfl) ?_
    refine ⟨_, by simp [absAnswer, absResults, absResult, Tryd.f59]; rfl, ?_⟩
    refine ⟨by first | exact ⟨[], (List.append_nil _).symm⟩ | exact ⟨_, rfl⟩, by simp, ?_⟩
    simp_all [hearC] <;> trace_state
  try simp only [h]
  replace h := Fa.out h
  refine DK.seq ?_
  refine DK.region (is := [0, 1]) (by kernel_rfl) rfl ?_
  refine WK.run [0, 1] (by simp; constructor <;> rfl) ?_
  refine WK.nil ?_
  refine DK.test rfl rfl (fun h => ?_) (fun h => ?_)
  · try simp only [h]
    replace h := Tr.out h
    refine DK.seq ?_
    refine DK.region (is := [0, 1]) (by kernel_rfl) rfl ?_
    refine WK.run [0, 1] (by simp; constructor <;> rfl) ?_
    refine WK.nil ?_
    refine DK.seq ?_
    refine DK.region (is := [0, 1]) (by kernel_rfl) rfl ?_
    refine WK.run [0, 1] (by simp; constructor <;> rfl) ?_
    refine WK.nil ?_
    refine DK.test rfl rfl (fun h => ?_) (fun h => ?_)
    · try simp only [h]
      replace h := Tr.out h
      refine DK.region (is := [0, 1]) (by kernel_rfl) rfl ?_
      refine WK.run [0, 1] (by simp; constructor <;> rfl) ?_
      refine WK.nil ?_
      refine DK.seq ?_
      refine DK.region (is := [0, 1, 2]) (by kernel_rfl) rfl ?_
      refine WK.run [0, 1, 2] (by simp; constructor <;> rfl) ?_
      refine WK.nil ?_
      refine DK.ret ?_
      refine And.intro (Or.inr rfl) ?_
      refine ⟨_, by simp [absAnswer, absResults, absResult, Tryd.f59]; rfl, ?_⟩
      refine ⟨by first | exact ⟨[], (List.append_nil _).symm⟩ | exact ⟨_, rfl⟩, by simp, ?_⟩
      simp_all [hearC] <;> trace_state
    try simp only [h]
    replace h := Fa.out h
    refine DK.skip ?_
    refine DK.seq ?_
    refine DK.region (is := [0, 1, 2]) (by kernel_rfl) rfl ?_
    refine WK.run [0, 1, 2] (by simp; constructor <;> rfl) ?_
    refine WK.nil ?_
    refine DK.ret ?_
    refine And.intro (Or.inr rfl) ?_
    refine ⟨_, by simp [absAnswer, absResults, absResult, Tryd.f59]; rfl, ?_⟩
    refine ⟨by first | exact ⟨[], (List.append_nil _).symm⟩ | exact ⟨_, rfl⟩, by simp, ?_⟩
    simp_all [hearC] <;> trace_state
  try simp only [h]
  replace h := Fa.out h
  refine DK.seq ?_
  refine DK.region (is := [0, 1]) (by kernel_rfl) rfl ?_
  refine WK.run [0, 1] (by simp; constructor <;> rfl) ?_
  refine WK.nil ?_
  refine DK.test rfl rfl (fun h => ?_) (fun h => ?_)
  · try simp only [h]
    replace h := Tr.out h
    refine DK.seq ?_
    refine DK.region (is := [0, 1, 2, 3]) (by kernel_rfl) rfl ?_
    refine WK.run [0] (by simp; constructor <;> rfl) ?_
    refine WK.call rfl (by simp) (by simp [Tryd.func83, Tryd.f83]; constructor <;> rfl) ?_
    refine FSem.mono (back_s ⟨_, _, _, _, _, _, _, _⟩ _) ?_
    rintro _ _ ⟨rfl, rfl⟩
    refine WK.run [2, 3] (by simp; constructor <;> rfl) ?_
    refine WK.nil ?_
    refine DK.ret ?_
    refine And.intro (Or.inr rfl) ?_
    refine ⟨_, by simp [absAnswer, absResults, absResult, Tryd.f59]; rfl, ?_⟩
    refine ⟨by first | exact ⟨[], (List.append_nil _).symm⟩ | exact ⟨_, rfl⟩, by simp, ?_⟩
    simp_all [hearC] <;> trace_state
  try simp only [h]
  replace h := Fa.out h
  refine DK.region (is := [0, 1]) (by kernel_rfl) rfl ?_
  refine WK.run [0, 1] (by simp; constructor <;> rfl) ?_
  refine WK.nil ?_
  refine DK.seq ?_
  refine DK.region (is := [0, 1, 2]) (by kernel_rfl) rfl ?_
  refine WK.run [0, 1, 2] (by simp; constructor <;> rfl) ?_
  refine WK.nil ?_
  refine DK.ret ?_
  refine And.intro (Or.inr rfl) ?_
  refine ⟨_, by simp [absAnswer, absResults, absResult, Tryd.f59]; rfl, ?_⟩
  refine ⟨by first | exact ⟨[], (List.append_nil _).symm⟩ | exact ⟨_, rfl⟩, by simp, ?_⟩
  simp_all [hearC] <;> trace_state
end Go.Den
set_option linter.unusedVariables false
namespace Go.Den
open Go Go.Proofs
def Cy.cells (c : Cy) : List Value := [.int .i64 c.no, .int .i64 c.due, .int .u8 c.ph, .int .i64 c.am, .int .i64 c.us, .int .i64 c.tr, .int .i64 c.nx, .bool c.gd]
def cysV : List Cy → List Value
  | [] => []
  | c :: l => c.cells ++ cysV l
@[simp] theorem cysV_length : ∀ l : List Cy, (cysV l).length = l.length * 8
  | [] => rfl
  | c :: l => by simp [cysV, Cy.cells, cysV_length l]; omega
theorem cysV_append : ∀ l r : List Cy, cysV (l ++ r) = cysV l ++ cysV r
  | [], r => rfl
  | c :: l, r => by simp [cysV, cysV_append l r]
theorem cysV_drop : ∀ (i : Nat) (l : List Cy), (cysV l).drop (i * 8) = cysV (l.drop i)
  | 0, l => by simp
  | i + 1, [] => by simp [cysV]
  | i + 1, c :: l => by
    simp only [cysV, List.drop_succ_cons, ← cysV_drop i l]
    rw [show (i + 1) * 8 = i * 8 + 8 by omega, Nat.add_comm, ← List.drop_drop]
    congr 1
theorem cysV_take : ∀ (i : Nat) (l : List Cy), (cysV l).take (i * 8) = cysV (l.take i)
  | 0, l => by simp [cysV]
  | i + 1, [] => by simp [cysV]
  | i + 1, c :: l => by
    simp only [cysV, List.take_succ_cons, ← cysV_take i l]
    rw [show (i + 1) * 8 = 8 + i * 8 by omega]
    have e : c.cells.length = 8 := rfl
    rw [← e, List.take_length_add_append]
theorem cys_get {l : List Cy} {i : Nat} (h : i < l.length) : ((cysV l).drop (i * 8)).take 8 = l[i].cells := by
  rw [cysV_drop, List.drop_eq_getElem_cons h]
  simp [cysV, Cy.cells]
theorem cys_set {l : List Cy} {i : Nat} (h : i < l.length) (c : Cy) : splice (cysV l) (i * 8) c.cells = cysV (l.set i c) := by
  unfold splice
  rw [cysV_take, show i * 8 + c.cells.length = (i + 1) * 8 by simp [Cy.cells]; omega, cysV_drop, List.set_eq_take_append_cons_drop, if_pos h, cysV_append]
  simp [cysV]
theorem cys_flat (l : List Cy) : (cysV l).all (fun x => x.oneCell') = true := by
  induction l with
  | nil => rfl
  | cons c l ih => rw [cysV, List.all_append, ih]; rfl
def OpenAt (H : Mem) (s : Value) (l : List Cy) : Prop := (s = .slice none 0 0 ∧ l = []) ∨ ∃ b, s = .slice (some ⟨b, 0, none⟩) l.length 8 ∧ H[b]? = some (.cells false (cysV l))
theorem OpenAt.app {H : Mem} {s : Value} {l : List Cy} (h : OpenAt H s l) (r : Mem) : OpenAt (H ++ r) s l := by
  rcases h with h | ⟨b, h1, h2⟩
  · exact .inl h
  · exact .inr ⟨b, h1, by rw [List.getElem?_append_left (List.getElem?_eq_some_iff.1 h2).1]; exact h2⟩
def Fresh (n : Nat) (s : Value) : Prop := s = .slice none 0 0 ∨ ∃ b k, s = .slice (some ⟨b, 0, none⟩) k 8 ∧ n ≤ b
end Go.Den
set_option linter.unusedVariables false
set_option maxRecDepth 100000
namespace Go.Den
open Go Go.Proofs
theorem byCy : I67.bytes = 64 := by kernel_rfl
theorem app_cys (H : Mem) (old l : List Cy) (b0 b c : Nat) {ro : Bool} (h0 : H[b0]? = some (.cells false (cysV old))) (hb : H[b]? = some (.cells ro (cysV l))) (hl : l ≠ []) (hn : old.length + l.length ≤ 1000000000000) :
    absAppend Tryd.prog H #[28, 28] (.slice (some ⟨b0, 0, none⟩) old.length 8) (.slice (some ⟨b, 0, none⟩) l.length c) = some (.slice (some ⟨H.length, 0, none⟩) (old.length + l.length) 8, H.set b0 .dead ++ [.cells false (cysV (old ++ l))]) := by
  have hl0 : l.length ≠ 0 := fun h => hl (List.length_eq_zero_iff.1 h)
  have e : ∀ (x : Nat) (r : Bool) (q : List Cy), H[x]? = some (.cells r (cysV q)) → absCells H x 0 (q.length * 8) = some (cysV q) := by
    intro x r q hx
    unfold absCells; rw [hx]; simp only [cysV_length, Nat.zero_add, Nat.le_refl, if_true, List.drop_zero]
    rw [List.take_of_length_le (by simp)]
  unfold absAppend
  simp only [List.getElem?_toArray, List.getElem?_cons_zero, List.getElem?_cons_succ, Tryd.underlying28, inf67, absFirst, sz67, e b ro l hb, e b0 false old h0, h0, ze67, Option.map_some, notInt, byCy, Value.cells, hl0, cys_flat, cysV_append]
  simp [hl0]
  omega
theorem app_none (H : Mem) (s : Value) (b c : Nat) {ro : Bool} (hs : s = .slice none 0 0 ∨ ∃ b0 n, s = .slice (some ⟨b0, 0, none⟩) n 8) (hb : H[b]? = some (.cells ro [])) :
    absAppend Tryd.prog H #[28, 28] s (.slice (some ⟨b, 0, none⟩) 0 c) = some (s, H) := by
  have e : absCells H b 0 (0 * 8) = some [] := by unfold absCells; rw [hb]; rfl
  rcases hs with rfl | ⟨b0, n, rfl⟩ <;> unfold absAppend <;>
  simp only [List.getElem?_toArray, List.getElem?_cons_zero, List.getElem?_cons_succ, Tryd.underlying28, inf67, absFirst, sz67, e, ze67, Option.map_some, notInt, byCy, Value.cells] <;> simp
end Go.Den
namespace Go.Den
open Go Go.Proofs
set_option maxRecDepth 100000
set_option maxHeartbeats 1000000
set_option linter.all false
attribute [local simp] evOps evOp absOp absBox absAlloc absLoad absStore absField absIndexAddr absCells absBinOp absBin absInt absShift absUn absPick absNil absExtract absBuild absPlaces Instr.fill absBuiltin absMinMax plainV plainT allA flat cells_agg cells_int cells_bool cells_str cells_ptr cells_sl cells_map one_int one_bool one_str one_ptr one_sl one_map Act.eval Act.put Region.wanted yielded splice absCall TypeDesc.isRow
attribute [local simp] absLen
attribute [local simp] absBuildSlice madeCells goInt
theorem clone_nil  (H : Mem) : FSem Tryd.prog [0] 81 #[.slice none 0 0] H fun v H' => ∃ r, H' = H ++ r ∧ OpenAt H' v [] ∧ Fresh H.length v := by
  refine FSem.ofK Tryd.func81 rfl ?_
  refine DK.from (b' := ⟨#[.slice none 0 0, undef, undef, undef, undef, undef, undef, undef], []⟩) (by kernel_rfl) ?_
  refine DK.seq ?_
  refine DK.region (is := [0]) (by kernel_rfl) rfl ?_
  refine WK.run [0] (by simp; constructor <;> rfl) ?_
  refine WK.nil ?_
  refine DK.seq ?_
  refine DK.seq ?_
  refine DK.region (is := [0, 1]) (by kernel_rfl) rfl ?_
  refine WK.run [0, 1] (by simp; constructor <;> rfl) ?_
  refine WK.nil ?_
  refine DK.test rfl rfl (fun h => ?_) (fun h => ?_)
  · try simp only [h]
    replace h := Tr.out h
    refine DK.seq ?_
    refine DK.region (is := [0]) (by kernel_rfl) rfl ?_
    refine WK.run [0] (by simp; constructor <;> rfl) ?_
    refine WK.nil ?_
    refine DK.ret ?_
    refine And.intro (Or.inr rfl) ?_
    refine ⟨_, by simp [absAnswer, absResults, absResult, Tryd.f81]; rfl, ?_⟩
    exact ⟨[], by simp, .inl ⟨rfl, rfl⟩, .inl rfl⟩
  try simp only [h]
  replace h := Fa.out h
  simp at h
theorem clone_emp (b : Nat) {H : Mem} (hb : H[b]? = some (.cells false [])) : FSem Tryd.prog [0] 81 #[.slice (some ⟨b, 0, none⟩) 0 8] H fun v H' => ∃ r, H' = H ++ r ∧ OpenAt H' v [] ∧ Fresh H.length v := by
  refine FSem.ofK Tryd.func81 rfl ?_
  refine DK.from (b' := ⟨#[.slice (some ⟨b, 0, none⟩) 0 8, undef, undef, undef, undef, undef, undef, undef], []⟩) (by kernel_rfl) ?_
  have ha : absAppend Tryd.prog (H ++ [Blk.cells false []]) #[28, 28] (.slice (some ⟨H.length, 0, none⟩) 0 8) (.slice (some ⟨b, 0, none⟩) 0 8) = _ := app_none _ _ b 8 (.inr ⟨_, _, rfl⟩) (by rw [List.getElem?_append_left (List.getElem?_eq_some_iff.1 hb).1]; exact hb)
  refine DK.seq ?_
  refine DK.region (is := [0]) (by kernel_rfl) rfl ?_
  refine WK.run [0] (by simp [ha]; constructor <;> rfl) ?_
  refine WK.nil ?_
  refine DK.seq ?_
  refine DK.seq ?_
  refine DK.region (is := [0, 1]) (by kernel_rfl) rfl ?_
  refine WK.run [0, 1] (by simp [ha]; constructor <;> rfl) ?_
  refine WK.nil ?_
  refine DK.test rfl rfl (fun h => ?_) (fun h => ?_)
  · try simp only [h]
    replace h := Tr.out h
    simp at h
  try simp only [h]
  replace h := Fa.out h
  refine DK.skip ?_
  refine DK.seq ?_
  refine DK.region (is := [0, 1, 2, 3]) (by kernel_rfl) rfl ?_
  refine WK.run [0, 1, 2, 3] (by simp [ha]; constructor <;> rfl) ?_
  refine WK.nil ?_
  refine DK.ret ?_
  refine And.intro (Or.inr rfl) ?_
  refine ⟨_, by simp [absAnswer, absResults, absResult, Tryd.f81]; rfl, ?_⟩
  exact ⟨_, rfl, .inr ⟨_, rfl, by simp [cysV]⟩, .inr ⟨_, _, rfl, Nat.le_refl _⟩⟩
theorem clone_blk (b : Nat) (l : List Cy) {H : Mem} (hb : H[b]? = some (.cells false (cysV l))) (hl : l ≠ []) (hn : l.length ≤ 1000000000000) : FSem Tryd.prog [0] 81 #[.slice (some ⟨b, 0, none⟩) l.length 8] H fun v H' => ∃ r, H' = H ++ r ∧ OpenAt H' v l ∧ Fresh H.length v := by
  refine FSem.ofK Tryd.func81 rfl ?_
  refine DK.from (b' := ⟨#[.slice (some ⟨b, 0, none⟩) l.length 8, undef, undef, undef, undef, undef, undef, undef], []⟩) (by kernel_rfl) ?_
  have ha : absAppend Tryd.prog (H ++ [Blk.cells false []]) #[28, 28] (.slice (some ⟨H.length, 0, none⟩) 0 8) (.slice (some ⟨b, 0, none⟩) l.length 8) = some (.slice (some ⟨H.length + 1, 0, none⟩) l.length 8, H ++ [.dead, .cells false (cysV l)]) := by
    have := app_cys (H ++ [Blk.cells false []]) [] l H.length b 8 (by simp [cysV]) (by rw [List.getElem?_append_left (List.getElem?_eq_some_iff.1 hb).1]; exact hb) hl (by simpa using hn)
    simpa using this
  refine DK.seq ?_
  refine DK.region (is := [0]) (by kernel_rfl) rfl ?_
  refine WK.run [0] (by simp [ha]; constructor <;> rfl) ?_
  refine WK.nil ?_
  refine DK.seq ?_
  refine DK.seq ?_
  refine DK.region (is := [0, 1]) (by kernel_rfl) rfl ?_
  refine WK.run [0, 1] (by simp [ha]; constructor <;> rfl) ?_
  refine WK.nil ?_
  refine DK.test rfl rfl (fun h => ?_) (fun h => ?_)
  · try simp only [h]
    replace h := Tr.out h
    simp at h
  try simp only [h]
  replace h := Fa.out h
  refine DK.skip ?_
  refine DK.seq ?_
  refine DK.region (is := [0, 1, 2, 3]) (by kernel_rfl) rfl ?_
  refine WK.run [0, 1, 2, 3] (by simp [ha]; constructor <;> rfl) ?_
  refine WK.nil ?_
  refine DK.ret ?_
  refine And.intro (Or.inr rfl) ?_
  refine ⟨_, by simp [absAnswer, absResults, absResult, Tryd.f81]; rfl, ?_⟩
  exact ⟨_, rfl, .inr ⟨_, rfl, by simp⟩, .inr ⟨_, _, rfl, by omega⟩⟩
theorem clone_s {H : Mem} {s : Value} {l : List Cy} (h : OpenAt H s l) (hn : l.length ≤ 1000000000000) : FSem Tryd.prog [0] 81 #[s] H fun v H' => ∃ r, H' = H ++ r ∧ OpenAt H' v l ∧ Fresh H.length v := by
  rcases h with ⟨rfl, rfl⟩ | ⟨b, rfl, hb⟩
  · exact clone_nil H
  · by_cases hl : l = []
    · subst hl; exact clone_emp b hb
    · exact clone_blk b l hb hl hn
end Go.Den
set_option linter.unusedVariables false
namespace Go.Den
open Go Go.Proofs
structure Ac where
  (st pl an ix ct cr : Int) (sk : Bool) (op : List Cy) (dn up rf sp pd : Int)
deriving DecidableEq
@[simp] def Ac.v (a : Ac) (s : Value) : Value := .agg #[.int .u8 a.st, .int .i64 a.pl, .int .i64 a.an, .int .i64 a.ix, .int .i64 a.ct, .int .i64 a.cr, .bool a.sk, s, .int .i64 a.dn, .int .i64 a.up, .int .i64 a.rf, .int .i64 a.sp, .int .i64 a.pd]
theorem Ac.eta (a : Ac) : (⟨a.st, a.pl, a.an, a.ix, a.ct, a.cr, a.sk, a.op, a.dn, a.up, a.rf, a.sp, a.pd⟩ : Ac) = a := rfl
theorem OpenAt.cells {H : Mem} {s : Value} {l : List Cy} (h : OpenAt H s l) : s.cells = #[s] ∧ s.oneCell' = true := by
  rcases h with ⟨rfl, _⟩ | ⟨b, rfl, _⟩ <;> exact ⟨rfl, rfl⟩
def AcOut (H : Mem) (a : Ac) (H' : Mem) (s : Value) : Prop := (∃ r, H' = H ++ r) ∧ OpenAt H' s a.op ∧ Fresh H.length s
def blkOf : Value → Option Nat
  | .slice (some a) _ _ => some a.block
  | _ => none
def Fr (H : Mem) (s : Value) (H' : Mem) : Prop := H.length ≤ H'.length ∧ ∀ k, k < H.length → blkOf s ≠ some k → H'[k]? = H[k]?
theorem Fr.app (H r : Mem) (s : Value) : Fr H s (H ++ r) := ⟨by simp, fun k hk _ => List.getElem?_append_left hk⟩
def closeA (a : Ac) (c : Cy) : Ac × Int :=
  if endC c = false then ({ a with op := a.op ++ [c] }, 0)
  else if c.ph = 7 then ({ a with dn := IntKind.i64.wrap (a.dn + 1), pd := (addP a.pd c.am).1 }, (addP a.pd c.am).2)
  else if c.ph = 8 then ({ a with up := IntKind.i64.wrap (a.up + 1), cr := (addP a.cr c.us).1 }, (addP a.cr c.us).2)
  else if c.ph = 9 then ({ a with rf := IntKind.i64.wrap (a.rf + 1), cr := (addP a.cr c.us).1 }, (addP a.cr c.us).2)
  else ({ a with sp := IntKind.i64.wrap (a.sp + 1) }, 0)
theorem Fresh.le {n m : Nat} {s : Value} (h : Fresh n s) (hm : m ≤ n) : Fresh m s := by
  rcases h with h | ⟨b, k, h1, h2⟩
  · exact .inl h
  · exact .inr ⟨b, k, h1, by omega⟩
theorem OpenAt.swap {H r : Mem} {xs ys : List Blk} {s : Value} {l : List Cy} (h : OpenAt (H ++ xs ++ r) s l) (hf : Fresh (H ++ xs).length s) (he : ys.length = xs.length) : OpenAt (H ++ (ys ++ r)) s l := by
  rcases h with h | ⟨b, h1, h2⟩
  · exact .inl h
  · refine .inr ⟨b, h1, ?_⟩
    rcases hf with hf | ⟨b', k, h3, h4⟩
    · rw [h1] at hf; cases hf
    · rw [h1] at h3
      cases h3
      rw [List.getElem?_append_right h4] at h2
      rw [← List.append_assoc, List.getElem?_append_right (by simp at h4 ⊢; omega)]
      rw [← h2]; congr 1; simp [he]
end Go.Den
set_option linter.unusedVariables false
set_option maxRecDepth 100000
namespace Go.Den
open Go Go.Proofs
@[simp] theorem cysV_all (l : List Cy) : (cysV l).take (l.length * 8) = cysV l := List.take_of_length_le (by simp)
theorem bs1 (H : Mem) (a b c d e f g : Value) (h : Value) : absBuildSlice Tryd.prog H 28 1 [(0, .agg #[a, b, c, d, e, f, g, h])] = some (.slice (some ⟨H.length, 0, none⟩) 1 8, H ++ [.cells false [a, b, c, d, e, f, g, h]]) := by
  unfold absBuildSlice
  simp only [Tryd.underlying28, inf67, ze67, sz67]
  simp [allA, flat, cells_agg, madeCells, Instr.fill]
  rfl
theorem app1_nil (H : Mem) (b c : Nat) : absAppend Tryd.prog H #[28, 28] (.slice none 0 0) (.slice (some ⟨b, 0, none⟩) 1 c)
    = match H[b]? with
      | some (.cells _ vs) => if 8 ≤ vs.length then some (.slice (some ⟨H.length, 0, none⟩) 1 8, H ++ [.cells false (vs.take 8)]) else none
      | _ => none := by
  unfold absAppend
  simp only [List.getElem?_toArray, List.getElem?_cons_zero, List.getElem?_cons_succ, Tryd.underlying28, inf67, absFirst, sz67, absCells, notInt, byCy, ze67]
  cases H[b]? with
  | none => simp
  | some k =>
    cases k with
    | cells ro vs => by_cases h8 : 8 ≤ vs.length <;> simp [h8, cells_agg]
    | _ => simp
theorem app1_blk (H : Mem) (b0 n b c : Nat) : absAppend Tryd.prog H #[28, 28] (.slice (some ⟨b0, 0, none⟩) n 8) (.slice (some ⟨b, 0, none⟩) 1 c)
    = match H[b]?, H[b0]? with
      | some (.cells _ vs), some (.cells false os) => if 8 ≤ vs.length ∧ (n + 1) * 64 ≤ 140737488355328 ∧ n * 8 ≤ os.length ∧ (vs.take 8).all (·.oneCell') = true then some (.slice (some ⟨H.length, 0, none⟩) (n + 1) 8, H.set b0 .dead ++ [.cells false (os.take (n * 8) ++ vs.take 8)]) else none
      | _, _ => none := by
  unfold absAppend
  simp only [List.getElem?_toArray, List.getElem?_cons_zero, List.getElem?_cons_succ, Tryd.underlying28, inf67, absFirst, sz67, absCells, notInt, byCy, ze67]
  cases H[b]? with
  | none => simp
  | some k =>
    cases k with
    | cells ro vs =>
      by_cases h8 : 8 ≤ vs.length
      · simp only [Nat.zero_add, Nat.one_mul, h8, if_true, List.drop_zero, Option.map_some, cells_agg]
        cases H[b0]? with
        | none => simp
        | some k0 =>
          cases k0 with
          | cells ro0 os =>
            by_cases h10 : (n + 1) * 64 ≤ 140737488355328
            · have h11 : n + 1 ≤ 9223372036854775807 := by omega
              cases ro0 <;> by_cases h9 : n * 8 ≤ os.length <;> by_cases h12 : (vs.take 8).all (·.oneCell') = true <;> simp [h8, h9, h10, h11, h12]
            · cases ro0 <;> simp [h10]
          | _ => simp
      · cases H[b0]? with
        | none => simp [h8]
        | some k0 =>
          cases k0 with
          | cells ro0 os => cases ro0 <;> simp [h8]
          | _ => simp [h8]
    | _ => simp
theorem closeA_keep {a : Ac} {c : Cy} (h : endC c = false) : closeA a c = ({ a with op := a.op ++ [c] }, 0) := by simp [closeA, h]
theorem closeA_7 {a : Ac} {c : Cy} (h0 : endC c = true) (h : c.ph = 7) : closeA a c = ({ a with dn := IntKind.i64.wrap (a.dn + 1), pd := (addP a.pd c.am).1 }, (addP a.pd c.am).2) := by simp [closeA, h0, h]
theorem closeA_8 {a : Ac} {c : Cy} (h0 : endC c = true) (h7 : ¬ c.ph = 7) (h : c.ph = 8) : closeA a c = ({ a with up := IntKind.i64.wrap (a.up + 1), cr := (addP a.cr c.us).1 }, (addP a.cr c.us).2) := by simp [closeA, h0, h]
theorem closeA_9 {a : Ac} {c : Cy} (h0 : endC c = true) (h7 : ¬ c.ph = 7) (h8 : ¬ c.ph = 8) (h : c.ph = 9) : closeA a c = ({ a with rf := IntKind.i64.wrap (a.rf + 1), cr := (addP a.cr c.us).1 }, (addP a.cr c.us).2) := by simp [closeA, h0, h]
theorem closeA_d {a : Ac} {c : Cy} (h0 : endC c = true) (h7 : ¬ c.ph = 7) (h8 : ¬ c.ph = 8) (h : ¬ c.ph = 9) : closeA a c = ({ a with sp := IntKind.i64.wrap (a.sp + 1) }, 0) := by simp [closeA, h0, h7, h8, h]
theorem Fr.kill (H r : Mem) (b n e : Nat) : Fr H (.slice (some ⟨b, 0, none⟩) n e) (H.set b .dead ++ r) := by
  refine ⟨by simp, fun k hk hb => ?_⟩
  rw [List.getElem?_append_left (by simpa using hk), List.getElem?_set_ne]
  intro e; apply hb; rw [e]; rfl
end Go.Den
namespace Go.Den
open Go Go.Proofs
set_option maxRecDepth 100000
set_option maxHeartbeats 1000000
set_option linter.all false
attribute [local simp] evOps evOp absOp absBox absAlloc absLoad absStore absField absIndexAddr absCells absBinOp absBin absInt absShift absUn absPick absNil absExtract absBuild absPlaces Instr.fill absBuiltin absMinMax plainV plainT allA flat cells_agg cells_int cells_bool cells_str cells_ptr cells_sl cells_map one_int one_bool one_str one_ptr one_sl one_map Act.eval Act.put Region.wanted yielded splice absCall TypeDesc.isRow
attribute [local simp] absLen
attribute [local simp] bs1 app1_nil app1_blk
theorem copy_s (a : Ac) {s : Value} {H : Mem} (hO : OpenAt H s a.op) (hn : a.op.length ≤ 1000000000000) : FSem Tryd.prog [0] 58 #[a.v s] H fun v H' => ∃ s', v = a.v s' ∧ AcOut H a H' s' := by
  refine FSem.ofK Tryd.func58 rfl ?_
  refine DK.from (b' := ⟨#[a.v s, undef, undef, undef, undef, undef, undef, undef], []⟩) (by kernel_rfl) ?_
  obtain ⟨hs1, hs2⟩ := hO.cells
  have b := trivial
  have c := trivial
  refine DK.seq ?_
  refine DK.region (is := [0, 1]) (by kernel_rfl) rfl ?_
  refine WK.run [0, 1] (by simp [hs1, hs2, b, c]; constructor <;> rfl) ?_
  refine WK.nil ?_
  refine DK.seq ?_
  refine DK.region (is := [0, 1, 2, 3, 4]) (by kernel_rfl) rfl ?_
  refine WK.run [0, 1] (by simp [hs1, hs2, b, c]; constructor <;> rfl) ?_
  refine WK.call rfl (by simp [hs1, hs2, b, c]) (by simp [Tryd.func81, Tryd.f81, hs1, hs2, b, c]; constructor <;> rfl) ?_
  refine FSem.mono (clone_s (hO.app _) hn) ?_
  rintro _ _ ⟨r, rfl, hO1, hF1⟩
  obtain ⟨b, c⟩ := hO1.cells
  refine WK.run [3, 4] (by simp [hs1, hs2, b, c]; constructor <;> rfl) ?_
  refine WK.nil ?_
  refine DK.seq ?_
  refine DK.region (is := [0, 1]) (by kernel_rfl) rfl ?_
  refine WK.run [0, 1] (by simp [hs1, hs2, b, c]; constructor <;> rfl) ?_
  refine WK.nil ?_
  refine DK.ret ?_
  refine And.intro (Or.inr rfl) ?_
  refine ⟨_, by simp [absAnswer, absResults, absResult, Tryd.f58]; rfl, ?_⟩
  exact ⟨_, rfl, ⟨_, rfl⟩, hO1.swap (ys := [_, _]) hF1 rfl, hF1.le (by simp)⟩
theorem due_s (a : Ac) (s : Value) (hs1 : s.cells = #[s]) (hs2 : s.oneCell' = true) (p : Pl) (hu : 0 ≤ p.un) (H : Mem) : FSem Tryd.prog [0] 79 #[a.v s, p.v] H fun v H' => v = .tuple #[.int .i64 (nthF a.an p.un p.ev a.ix).1, .bool (decide ((nthF a.an p.un p.ev a.ix).2 = 0))] ∧ H' = H := by
  refine FSem.plainT ?_
  refine FSem.ofK Tryd.func79 rfl ?_
  refine DK.from (b' := ⟨#[a.v s, p.v, undef, undef, undef, undef, undef, undef, undef, undef, undef, undef, undef, undef, undef, undef, undef, undef, undef, undef, undef, undef, undef], []⟩) (by kernel_rfl) ?_
  refine DK.seq ?_
  refine DK.region (is := [0, 1, 2, 3]) (by kernel_rfl) rfl ?_
  refine WK.run [0, 1, 2, 3] (by simp [hs1, hs2]; constructor <;> rfl) ?_
  refine WK.nil ?_
  refine DK.seq ?_
  refine DK.region (is := [0, 1, 2, 3, 4, 5, 6, 7, 8, 9, 10, 11, 12, 13]) (by kernel_rfl) rfl ?_
  refine WK.run [0, 1, 2, 3, 4, 5, 6, 7] (by simp [hs1, hs2]; constructor <;> rfl) ?_
  refine WK.call rfl (by simp [hs1, hs2]) (by simp [Tryd.func94, Tryd.f94, hs1, hs2]; constructor <;> rfl) ?_
  refine FSem.mono (nth_s _ _ _ _ hu _) ?_
  rintro _ _ ⟨rfl, rfl⟩
  refine WK.run [9, 10, 11, 12, 13] (by simp [hs1, hs2]; constructor <;> rfl) ?_
  refine WK.nil ?_
  refine DK.seq ?_
  refine DK.region (is := [0, 1, 2, 3, 4]) (by kernel_rfl) rfl ?_
  refine WK.run [0, 1, 2, 3, 4] (by simp [hs1, hs2]; constructor <;> rfl) ?_
  refine WK.nil ?_
  refine DK.ret ?_
  refine And.intro (Or.inr rfl) ?_
  refine ⟨_, by simp [absAnswer, absResults, absResult, Tryd.f79]; rfl, ?_⟩
  refine ⟨⟨_, rfl⟩, by simp, ?_⟩
  congr 3
theorem close_nil (a : Ac) (c : Cy) (H : Mem) (hl : a.op = []) : FSem Tryd.prog [0] 84 #[a.v (.slice none 0 0), c.v] H fun v H' => ∃ s', v = .tuple #[(closeA a c).1.v s', .int .i64 (closeA a c).2] ∧ Fr H (.slice none 0 0) H' ∧ OpenAt H' s' (closeA a c).1.op ∧ (s' = (.slice none 0 0) ∨ Fresh H.length s') := by
  refine FSem.ofK Tryd.func84 rfl ?_
  refine DK.from (b' := ⟨#[a.v (.slice none 0 0), c.v, undef, undef, undef, undef, undef, undef, undef, undef, undef, undef, undef, undef, undef, undef, undef, undef, undef, undef, undef, undef, undef, undef, undef, undef, undef, undef, undef, undef, undef, undef, undef, undef, undef, undef, undef, undef, undef, undef, undef, undef, undef, undef, undef, undef, undef, undef, undef, undef, undef, undef, undef, undef, undef, undef, undef, undef, undef, undef, undef, undef, undef, undef, undef, undef, undef, undef, undef, undef, undef, undef, undef, undef, undef, undef, undef, undef, undef, undef], []⟩) (by kernel_rfl) ?_
  refine DK.seq ?_
  refine DK.region (is := [0, 1, 2, 3]) (by kernel_rfl) rfl ?_
  refine WK.run [0, 1, 2, 3] (by simp; constructor <;> rfl) ?_
  refine WK.nil ?_
  refine DK.seq ?_
  refine DK.seq ?_
  refine DK.region (is := [0, 1, 2]) (by kernel_rfl) rfl ?_
  refine WK.run [0] (by simp; constructor <;> rfl) ?_
  refine WK.call rfl (by simp) (by simp [Tryd.func100, Tryd.f100]; constructor <;> rfl) ?_
  refine FSem.mono (ended_s ⟨_, _, _, _, _, _, _, _⟩ _) ?_
  rintro _ _ ⟨rfl, rfl⟩
  refine WK.run [2] (by simp; constructor <;> rfl) ?_
  refine WK.nil ?_
  refine DK.test rfl rfl (fun h => ?_) (fun h => ?_)
  · try simp only [h]
    replace h := Tr.out h
    refine DK.seq ?_
    refine DK.region (is := [0, 1, 2, 3, 4, 5, 6]) (by kernel_rfl) rfl ?_
    refine WK.run [0, 1, 2, 3, 4, 5, 6] (by simp; constructor <;> rfl) ?_
    refine WK.nil ?_
    refine DK.seq ?_
    refine DK.region (is := [0, 1, 2]) (by kernel_rfl) rfl ?_
    refine WK.run [0, 1, 2] (by simp; constructor <;> rfl) ?_
    refine WK.nil ?_
    refine DK.ret ?_
    refine And.intro (Or.inr rfl) ?_
    refine ⟨_, by simp [absAnswer, absResults, absResult, Tryd.f84]; rfl, ?_⟩
    first | rw [closeA_keep h] | rw [closeA_7 ‹_› h] | rw [closeA_8 ‹_› ‹_› h] | rw [closeA_9 ‹_› ‹_› ‹_› h] | rw [closeA_d ‹_› ‹_› ‹_› h]
    first | exact ⟨_, rfl, Fr.app _ _ _, .inl ⟨rfl, hl⟩, .inl rfl⟩ | exact ⟨_, rfl, Fr.app _ _ _, .inr ⟨H.length + 4, by simp [hl], by simp [hl, cysV, Cy.cells]⟩, .inr (.inr ⟨_, _, rfl, by omega⟩)⟩
  try simp only [h]
  replace h := Fa.out h
  refine DK.skip ?_
  refine DK.seq ?_
  refine DK.region (is := [0]) (by kernel_rfl) rfl ?_
  refine WK.run [0] (by simp; constructor <;> rfl) ?_
  refine WK.nil ?_
  refine DK.seq ?_
  refine DK.seq ?_
  refine DK.region (is := [0, 1]) (by kernel_rfl) rfl ?_
  refine WK.run [0, 1] (by simp; constructor <;> rfl) ?_
  refine WK.nil ?_
  refine DK.block ?_
  refine DK.seq ?_
  refine DK.region (is := [0, 1]) (by kernel_rfl) rfl ?_
  refine WK.run [0, 1] (by simp; constructor <;> rfl) ?_
  refine WK.nil ?_
  refine DK.test rfl rfl (fun h => ?_) (fun h => ?_)
  · try simp only [h]
    replace h := Tr.out h
    refine DK.seq ?_
    refine DK.region (is := [0, 1, 2, 3, 4, 5, 6]) (by kernel_rfl) rfl ?_
    refine WK.run [0, 1, 2, 3, 4, 5, 6] (by simp; constructor <;> rfl) ?_
    refine WK.nil ?_
    refine DK.region (is := [0, 1, 2, 3, 4, 5, 6, 7, 8, 9, 10, 11, 12]) (by kernel_rfl) rfl ?_
    refine WK.run [0, 1, 2, 3, 4] (by simp; constructor <;> rfl) ?_
    refine WK.call rfl (by simp) (by simp [Tryd.func90, Tryd.f90]; constructor <;> rfl) ?_
    refine FSem.mono (add_s _ _ _) ?_
    rintro _ _ ⟨rfl, rfl⟩
    refine WK.run [6, 7, 8, 9, 10, 11, 12] (by simp; constructor <;> rfl) ?_
    refine WK.nil ?_
    refine DK.seq ?_
    refine DK.region (is := [0, 1, 2, 3]) (by kernel_rfl) rfl ?_
    refine WK.run [0, 1, 2, 3] (by simp; constructor <;> rfl) ?_
    refine WK.nil ?_
    refine DK.ret ?_
    refine And.intro (Or.inr rfl) ?_
    refine ⟨_, by simp [absAnswer, absResults, absResult, Tryd.f84]; rfl, ?_⟩
    first | rw [closeA_keep h] | rw [closeA_7 ‹_› h] | rw [closeA_8 ‹_› ‹_› h] | rw [closeA_9 ‹_› ‹_› ‹_› h] | rw [closeA_d ‹_› ‹_› ‹_› h]
    first | exact ⟨_, rfl, Fr.app _ _ _, .inl ⟨rfl, hl⟩, .inl rfl⟩ | exact ⟨_, rfl, Fr.app _ _ _, .inr ⟨H.length + 4, by simp [hl], by simp [hl, cysV, Cy.cells]⟩, .inr (.inr ⟨_, _, rfl, by omega⟩)⟩
  try simp only [h]
  replace h := Fa.out h
  refine DK.seq ?_
  refine DK.region (is := [0, 1]) (by kernel_rfl) rfl ?_
  refine WK.run [0, 1] (by simp; constructor <;> rfl) ?_
  refine WK.nil ?_
  refine DK.test rfl rfl (fun h => ?_) (fun h => ?_)
  · try simp only [h]
    replace h := Tr.out h
    refine DK.seq ?_
    refine DK.region (is := [0, 1, 2, 3, 4, 5, 6]) (by kernel_rfl) rfl ?_
    refine WK.run [0, 1, 2, 3, 4, 5, 6] (by simp; constructor <;> rfl) ?_
    refine WK.nil ?_
    refine DK.region (is := [0, 1, 2, 3, 4, 5, 6, 7, 8, 9, 10]) (by kernel_rfl) rfl ?_
    refine WK.run [0, 1, 2, 3] (by simp; constructor <;> rfl) ?_
    refine WK.call rfl (by simp) (by simp [Tryd.func90, Tryd.f90]; constructor <;> rfl) ?_
    refine FSem.mono (add_s _ _ _) ?_
    rintro _ _ ⟨rfl, rfl⟩
    refine WK.run [5, 6, 7, 8, 9, 10] (by simp; constructor <;> rfl) ?_
    refine WK.nil ?_
    refine DK.seq ?_
    refine DK.region (is := [0, 1, 2, 3]) (by kernel_rfl) rfl ?_
    refine WK.run [0, 1, 2, 3] (by simp; constructor <;> rfl) ?_
    refine WK.nil ?_
    refine DK.ret ?_
    refine And.intro (Or.inr rfl) ?_
    refine ⟨_, by simp [absAnswer, absResults, absResult, Tryd.f84]; rfl, ?_⟩
    first | rw [closeA_keep h] | rw [closeA_7 ‹_› h] | rw [closeA_8 ‹_› ‹_› h] | rw [closeA_9 ‹_› ‹_› ‹_› h] | rw [closeA_d ‹_› ‹_› ‹_› h]
    first | exact ⟨_, rfl, Fr.app _ _ _, .inl ⟨rfl, hl⟩, .inl rfl⟩ | exact ⟨_, rfl, Fr.app _ _ _, .inr ⟨H.length + 4, by simp [hl], by simp [hl, cysV, Cy.cells]⟩, .inr (.inr ⟨_, _, rfl, by omega⟩)⟩
  try simp only [h]
  replace h := Fa.out h
  refine DK.seq ?_
  refine DK.region (is := [0, 1]) (by kernel_rfl) rfl ?_
  refine WK.run [0, 1] (by simp; constructor <;> rfl) ?_
  refine WK.nil ?_
  refine DK.test rfl rfl (fun h => ?_) (fun h => ?_)
  · try simp only [h]
    replace h := Tr.out h
    refine DK.seq ?_
    refine DK.region (is := [0, 1, 2, 3, 4, 5, 6]) (by kernel_rfl) rfl ?_
    refine WK.run [0, 1, 2, 3, 4, 5, 6] (by simp; constructor <;> rfl) ?_
    refine WK.nil ?_
    refine DK.region (is := [0, 1, 2, 3, 4, 5, 6, 7, 8, 9, 10]) (by kernel_rfl) rfl ?_
    refine WK.run [0, 1, 2, 3] (by simp; constructor <;> rfl) ?_
    refine WK.call rfl (by simp) (by simp [Tryd.func90, Tryd.f90]; constructor <;> rfl) ?_
    refine FSem.mono (add_s _ _ _) ?_
    rintro _ _ ⟨rfl, rfl⟩
    refine WK.run [5, 6, 7, 8, 9, 10] (by simp; constructor <;> rfl) ?_
    refine WK.nil ?_
    refine DK.seq ?_
    refine DK.region (is := [0, 1, 2, 3]) (by kernel_rfl) rfl ?_
    refine WK.run [0, 1, 2, 3] (by simp; constructor <;> rfl) ?_
    refine WK.nil ?_
    refine DK.ret ?_
    refine And.intro (Or.inr rfl) ?_
    refine ⟨_, by simp [absAnswer, absResults, absResult, Tryd.f84]; rfl, ?_⟩
    first | rw [closeA_keep h] | rw [closeA_7 ‹_› h] | rw [closeA_8 ‹_› ‹_› h] | rw [closeA_9 ‹_› ‹_› ‹_› h] | rw [closeA_d ‹_› ‹_› ‹_› h]
    first | exact ⟨_, rfl, Fr.app _ _ _, .inl ⟨rfl, hl⟩, .inl rfl⟩ | exact ⟨_, rfl, Fr.app _ _ _, .inr ⟨H.length + 4, by simp [hl], by simp [hl, cysV, Cy.cells]⟩, .inr (.inr ⟨_, _, rfl, by omega⟩)⟩
  try simp only [h]
  replace h := Fa.out h
  refine DK.region (is := [0, 1, 2, 3, 4, 5, 6]) (by kernel_rfl) rfl ?_
  refine WK.run [0, 1, 2, 3, 4, 5, 6] (by simp; constructor <;> rfl) ?_
  refine WK.nil ?_
  refine DK.seq ?_
  refine DK.region (is := [0, 1, 2, 3]) (by kernel_rfl) rfl ?_
  refine WK.run [0, 1, 2, 3] (by simp; constructor <;> rfl) ?_
  refine WK.nil ?_
  refine DK.ret ?_
  refine And.intro (Or.inr rfl) ?_
  refine ⟨_, by simp [absAnswer, absResults, absResult, Tryd.f84]; rfl, ?_⟩
  first | rw [closeA_keep h] | rw [closeA_7 ‹_› h] | rw [closeA_8 ‹_› ‹_› h] | rw [closeA_9 ‹_› ‹_› ‹_› h] | rw [closeA_d ‹_› ‹_› ‹_› h]
  first | exact ⟨_, rfl, Fr.app _ _ _, .inl ⟨rfl, hl⟩, .inl rfl⟩ | exact ⟨_, rfl, Fr.app _ _ _, .inr ⟨H.length + 4, by simp [hl], by simp [hl, cysV, Cy.cells]⟩, .inr (.inr ⟨_, _, rfl, by omega⟩)⟩
theorem close_blk (a : Ac) (c : Cy) (b : Nat) {H : Mem} (hb : H[b]? = some (.cells false (cysV a.op))) (hn : a.op.length ≤ 1000000000000) : FSem Tryd.prog [0] 84 #[a.v (.slice (some ⟨b, 0, none⟩) a.op.length 8), c.v] H fun v H' => ∃ s', v = .tuple #[(closeA a c).1.v s', .int .i64 (closeA a c).2] ∧ Fr H (.slice (some ⟨b, 0, none⟩) a.op.length 8) H' ∧ OpenAt H' s' (closeA a c).1.op ∧ (s' = (.slice (some ⟨b, 0, none⟩) a.op.length 8) ∨ Fresh H.length s') := by
  refine FSem.ofK Tryd.func84 rfl ?_
  refine DK.from (b' := ⟨#[a.v (.slice (some ⟨b, 0, none⟩) a.op.length 8), c.v, undef, undef, undef, undef, undef, undef, undef, undef, undef, undef, undef, undef, undef, undef, undef, undef, undef, undef, undef, undef, undef, undef, undef, undef, undef, undef, undef, undef, undef, undef, undef, undef, undef, undef, undef, undef, undef, undef, undef, undef, undef, undef, undef, undef, undef, undef, undef, undef, undef, undef, undef, undef, undef, undef, undef, undef, undef, undef, undef, undef, undef, undef, undef, undef, undef, undef, undef, undef, undef, undef, undef, undef, undef, undef, undef, undef, undef, undef], []⟩) (by kernel_rfl) ?_
  have hb1 : b < H.length := (List.getElem?_eq_some_iff.1 hb).1
  have hb2 : ∀ r : Mem, (H ++ r)[b]? = some (.cells false (cysV a.op)) := fun r => by rw [List.getElem?_append_left hb1]; exact hb
  have hn1 : (a.op.length + 1) * 64 ≤ 140737488355328 := by omega
  have hs1 : ∀ (r : Mem) (x : Blk), (H ++ r).set b x = H.set b x ++ r := fun r x => List.set_append_left _ _ hb1
  refine DK.seq ?_
  refine DK.region (is := [0, 1, 2, 3]) (by kernel_rfl) rfl ?_
  refine WK.run [0, 1, 2, 3] (by simp [hb2, hn1, hs1]; constructor <;> rfl) ?_
  refine WK.nil ?_
  refine DK.seq ?_
  refine DK.seq ?_
  refine DK.region (is := [0, 1, 2]) (by kernel_rfl) rfl ?_
  refine WK.run [0] (by simp [hb2, hn1, hs1]; constructor <;> rfl) ?_
  refine WK.call rfl (by simp [hb2, hn1, hs1]) (by simp [Tryd.func100, Tryd.f100, hb2, hn1, hs1]; constructor <;> rfl) ?_
  refine FSem.mono (ended_s ⟨_, _, _, _, _, _, _, _⟩ _) ?_
  rintro _ _ ⟨rfl, rfl⟩
  refine WK.run [2] (by simp [hb2, hn1, hs1]; constructor <;> rfl) ?_
  refine WK.nil ?_
  refine DK.test rfl rfl (fun h => ?_) (fun h => ?_)
  · try simp only [h]
    replace h := Tr.out h
    refine DK.seq ?_
    refine DK.region (is := [0, 1, 2, 3, 4, 5, 6]) (by kernel_rfl) rfl ?_
    refine WK.run [0, 1, 2, 3, 4, 5, 6] (by simp [hb2, hn1, hs1]; constructor <;> rfl) ?_
    refine WK.nil ?_
    refine DK.seq ?_
    refine DK.region (is := [0, 1, 2]) (by kernel_rfl) rfl ?_
    refine WK.run [0, 1, 2] (by simp [hb2, hn1, hs1]; constructor <;> rfl) ?_
    refine WK.nil ?_
    refine DK.ret ?_
    refine And.intro (Or.inr rfl) ?_
    refine ⟨_, by simp [absAnswer, absResults, absResult, Tryd.f84]; rfl, ?_⟩
    first | rw [closeA_keep h] | rw [closeA_7 ‹_› h] | rw [closeA_8 ‹_› ‹_› h] | rw [closeA_9 ‹_› ‹_› ‹_› h] | rw [closeA_d ‹_› ‹_› ‹_› h]
    first | exact ⟨_, rfl, Fr.app _ _ _, .inr ⟨b, rfl, hb2 _⟩, .inl rfl⟩ | exact ⟨_, rfl, Fr.kill _ _ _ _ _, .inr ⟨H.length + 4, by simp, by simp [cysV_append, cysV, Cy.cells]⟩, .inr (.inr ⟨_, _, rfl, by omega⟩)⟩
  try simp only [h]
  replace h := Fa.out h
  refine DK.skip ?_
  refine DK.seq ?_
  refine DK.region (is := [0]) (by kernel_rfl) rfl ?_
  refine WK.run [0] (by simp [hb2, hn1, hs1]; constructor <;> rfl) ?_
  refine WK.nil ?_
  refine DK.seq ?_
  refine DK.seq ?_
  refine DK.region (is := [0, 1]) (by kernel_rfl) rfl ?_
  refine WK.run [0, 1] (by simp [hb2, hn1, hs1]; constructor <;> rfl) ?_
  refine WK.nil ?_
  refine DK.block ?_
  refine DK.seq ?_
  refine DK.region (is := [0, 1]) (by kernel_rfl) rfl ?_
  refine WK.run [0, 1] (by simp [hb2, hn1, hs1]; constructor <;> rfl) ?_
  refine WK.nil ?_
  refine DK.test rfl rfl (fun h => ?_) (fun h => ?_)
  · try simp only [h]
    replace h := Tr.out h
    refine DK.seq ?_
    refine DK.region (is := [0, 1, 2, 3, 4, 5, 6]) (by kernel_rfl) rfl ?_
    refine WK.run [0, 1, 2, 3, 4, 5, 6] (by simp [hb2, hn1, hs1]; constructor <;> rfl) ?_
    refine WK.nil ?_
    refine DK.region (is := [0, 1, 2, 3, 4, 5, 6, 7, 8, 9, 10, 11, 12]) (by kernel_rfl) rfl ?_
    refine WK.run [0, 1, 2, 3, 4] (by simp [hb2, hn1, hs1]; constructor <;> rfl) ?_
    refine WK.call rfl (by simp [hb2, hn1, hs1]) (by simp [Tryd.func90, Tryd.f90, hb2, hn1, hs1]; constructor <;> rfl) ?_
    refine FSem.mono (add_s _ _ _) ?_
    rintro _ _ ⟨rfl, rfl⟩
    refine WK.run [6, 7, 8, 9, 10, 11, 12] (by simp [hb2, hn1, hs1]; constructor <;> rfl) ?_
    refine WK.nil ?_
    refine DK.seq ?_
    refine DK.region (is := [0, 1, 2, 3]) (by kernel_rfl) rfl ?_
    refine WK.run [0, 1, 2, 3] (by simp [hb2, hn1, hs1]; constructor <;> rfl) ?_
    refine WK.nil ?_
    refine DK.ret ?_
    refine And.intro (Or.inr rfl) ?_
    refine ⟨_, by simp [absAnswer, absResults, absResult, Tryd.f84]; rfl, ?_⟩
    first | rw [closeA_keep h] | rw [closeA_7 ‹_› h] | rw [closeA_8 ‹_› ‹_› h] | rw [closeA_9 ‹_› ‹_› ‹_› h] | rw [closeA_d ‹_› ‹_› ‹_› h]
    first | exact ⟨_, rfl, Fr.app _ _ _, .inr ⟨b, rfl, hb2 _⟩, .inl rfl⟩ | exact ⟨_, rfl, Fr.kill _ _ _ _ _, .inr ⟨H.length + 4, by simp, by simp [cysV_append, cysV, Cy.cells]⟩, .inr (.inr ⟨_, _, rfl, by omega⟩)⟩
  try simp only [h]
  replace h := Fa.out h
  refine DK.seq ?_
  refine DK.region (is := [0, 1]) (by kernel_rfl) rfl ?_
  refine WK.run [0, 1] (by simp [hb2, hn1, hs1]; constructor <;> rfl) ?_
  refine WK.nil ?_
  refine DK.test rfl rfl (fun h => ?_) (fun h => ?_)
  · try simp only [h]
    replace h := Tr.out h
    refine DK.seq ?_
    refine DK.region (is := [0, 1, 2, 3, 4, 5, 6]) (by kernel_rfl) rfl ?_
    refine WK.run [0, 1, 2, 3, 4, 5, 6] (by simp [hb2, hn1, hs1]; constructor <;> rfl) ?_
    refine WK.nil ?_
    refine DK.region (is := [0, 1, 2, 3, 4, 5, 6, 7, 8, 9, 10]) (by kernel_rfl) rfl ?_
    refine WK.run [0, 1, 2, 3] (by simp [hb2, hn1, hs1]; constructor <;> rfl) ?_
    refine WK.call rfl (by simp [hb2, hn1, hs1]) (by simp [Tryd.func90, Tryd.f90, hb2, hn1, hs1]; constructor <;> rfl) ?_
    refine FSem.mono (add_s _ _ _) ?_
    rintro _ _ ⟨rfl, rfl⟩
    refine WK.run [5, 6, 7, 8, 9, 10] (by simp [hb2, hn1, hs1]; constructor <;> rfl) ?_
    refine WK.nil ?_
    refine DK.seq ?_
    refine DK.region (is := [0, 1, 2, 3]) (by kernel_rfl) rfl ?_
    refine WK.run [0, 1, 2, 3] (by simp [hb2, hn1, hs1]; constructor <;> rfl) ?_
    refine WK.nil ?_
    refine DK.ret ?_
    refine And.intro (Or.inr rfl) ?_
    refine ⟨_, by simp [absAnswer, absResults, absResult, Tryd.f84]; rfl, ?_⟩
    first | rw [closeA_keep h] | rw [closeA_7 ‹_› h] | rw [closeA_8 ‹_› ‹_› h] | rw [closeA_9 ‹_› ‹_› ‹_› h] | rw [closeA_d ‹_› ‹_› ‹_› h]
    first | exact ⟨_, rfl, Fr.app _ _ _, .inr ⟨b, rfl, hb2 _⟩, .inl rfl⟩ | exact ⟨_, rfl, Fr.kill _ _ _ _ _, .inr ⟨H.length + 4, by simp, by simp [cysV_append, cysV, Cy.cells]⟩, .inr (.inr ⟨_, _, rfl, by omega⟩)⟩
  try simp only [h]
  replace h := Fa.out h
  refine DK.seq ?_
  refine DK.region (is := [0, 1]) (by kernel_rfl) rfl ?_
  refine WK.run [0, 1] (by simp [hb2, hn1, hs1]; constructor <;> rfl) ?_
  refine WK.nil ?_
  refine DK.test rfl rfl (fun h => ?_) (fun h => ?_)
  · try simp only [h]
    replace h := Tr.out h
    refine DK.seq ?_
    refine DK.region (is := [0, 1, 2, 3, 4, 5, 6]) (by kernel_rfl) rfl ?_
    refine WK.run [0, 1, 2, 3, 4, 5, 6] (by simp [hb2, hn1, hs1]; constructor <;> rfl) ?_
    refine WK.nil ?_
    refine DK.region (is := [0, 1, 2, 3, 4, 5, 6, 7, 8, 9, 10]) (by kernel_rfl) rfl ?_
    refine WK.run [0, 1, 2, 3] (by simp [hb2, hn1, hs1]; constructor <;> rfl) ?_
    refine WK.call rfl (by simp [hb2, hn1, hs1]) (by simp [Tryd.func90, Tryd.f90, hb2, hn1, hs1]; constructor <;> rfl) ?_
    refine FSem.mono (add_s _ _ _) ?_
    rintro _ _ ⟨rfl, rfl⟩
    refine WK.run [5, 6, 7, 8, 9, 10] (by simp [hb2, hn1, hs1]; constructor <;> rfl) ?_
    refine WK.nil ?_
    refine DK.seq ?_
    refine DK.region (is := [0, 1, 2, 3]) (by kernel_rfl) rfl ?_
    refine WK.run [0, 1, 2, 3] (by simp [hb2, hn1, hs1]; constructor <;> rfl) ?_
    refine WK.nil ?_
    refine DK.ret ?_
    refine And.intro (Or.inr rfl) ?_
    refine ⟨_, by simp [absAnswer, absResults, absResult, Tryd.f84]; rfl, ?_⟩
    first | rw [closeA_keep h] | rw [closeA_7 ‹_› h] | rw [closeA_8 ‹_› ‹_› h] | rw [closeA_9 ‹_› ‹_› ‹_› h] | rw [closeA_d ‹_› ‹_› ‹_› h]
    first | exact ⟨_, rfl, Fr.app _ _ _, .inr ⟨b, rfl, hb2 _⟩, .inl rfl⟩ | exact ⟨_, rfl, Fr.kill _ _ _ _ _, .inr ⟨H.length + 4, by simp, by simp [cysV_append, cysV, Cy.cells]⟩, .inr (.inr ⟨_, _, rfl, by omega⟩)⟩
  try simp only [h]
  replace h := Fa.out h
  refine DK.region (is := [0, 1, 2, 3, 4, 5, 6]) (by kernel_rfl) rfl ?_
  refine WK.run [0, 1, 2, 3, 4, 5, 6] (by simp [hb2, hn1, hs1]; constructor <;> rfl) ?_
  refine WK.nil ?_
  refine DK.seq ?_
  refine DK.region (is := [0, 1, 2, 3]) (by kernel_rfl) rfl ?_
  refine WK.run [0, 1, 2, 3] (by simp [hb2, hn1, hs1]; constructor <;> rfl) ?_
  refine WK.nil ?_
  refine DK.ret ?_
  refine And.intro (Or.inr rfl) ?_
  refine ⟨_, by simp [absAnswer, absResults, absResult, Tryd.f84]; rfl, ?_⟩
  first | rw [closeA_keep h] | rw [closeA_7 ‹_› h] | rw [closeA_8 ‹_› ‹_› h] | rw [closeA_9 ‹_› ‹_› ‹_› h] | rw [closeA_d ‹_› ‹_› ‹_› h]
  first | exact ⟨_, rfl, Fr.app _ _ _, .inr ⟨b, rfl, hb2 _⟩, .inl rfl⟩ | exact ⟨_, rfl, Fr.kill _ _ _ _ _, .inr ⟨H.length + 4, by simp, by simp [cysV_append, cysV, Cy.cells]⟩, .inr (.inr ⟨_, _, rfl, by omega⟩)⟩
theorem close_s (a : Ac) (c : Cy) {s : Value} {H : Mem} (hO : OpenAt H s a.op) (hn : a.op.length ≤ 1000000000000) : FSem Tryd.prog [0] 84 #[a.v s, c.v] H fun v H' => ∃ s', v = .tuple #[(closeA a c).1.v s', .int .i64 (closeA a c).2] ∧ Fr H s H' ∧ OpenAt H' s' (closeA a c).1.op ∧ (s' = s ∨ Fresh H.length s') := by
  rcases hO with ⟨rfl, hl⟩ | ⟨b, rfl, hb⟩
  · exact close_nil a c H hl
  · exact close_blk a c b hb hn
theorem close_c (st pl an ix ct cr : Int) (sk : Bool) (op : List Cy) (dn up rf sp pd no due ph am us tr nx : Int) (gd : Bool) {s : Value} {H : Mem} (hO : OpenAt H s op) (hn : op.length ≤ 1000000000000) :
    FSem Tryd.prog [0] 84 #[.agg #[.int .u8 st, .int .i64 pl, .int .i64 an, .int .i64 ix, .int .i64 ct, .int .i64 cr, .bool sk, s, .int .i64 dn, .int .i64 up, .int .i64 rf, .int .i64 sp, .int .i64 pd], .agg #[.int .i64 no, .int .i64 due, .int .u8 ph, .int .i64 am, .int .i64 us, .int .i64 tr, .int .i64 nx, .bool gd]] H
      fun v H' => ∃ s', v = .tuple #[(closeA ⟨st, pl, an, ix, ct, cr, sk, op, dn, up, rf, sp, pd⟩ ⟨no, due, ph, am, us, tr, nx, gd⟩).1.v s', .int .i64 (closeA ⟨st, pl, an, ix, ct, cr, sk, op, dn, up, rf, sp, pd⟩ ⟨no, due, ph, am, us, tr, nx, gd⟩).2] ∧ Fr H s H' ∧ OpenAt H' s' (closeA ⟨st, pl, an, ix, ct, cr, sk, op, dn, up, rf, sp, pd⟩ ⟨no, due, ph, am, us, tr, nx, gd⟩).1.op ∧ (s' = s ∨ Fresh H.length s') :=
  close_s ⟨st, pl, an, ix, ct, cr, sk, op, dn, up, rf, sp, pd⟩ ⟨no, due, ph, am, us, tr, nx, gd⟩ hO hn
end Go.Den
set_option linter.unusedVariables false
namespace Go.Den
open Go Go.Proofs
theorem Fr.of_app {H xs H2 : Mem} {s : Value} (h : Fr (H ++ xs) s H2) : Fr H s H2 :=
  ⟨by have := h.1; simp at this; omega, fun k hk hb => (h.2 k (by simp; omega) hb).trans (List.getElem?_append_left hk)⟩
theorem Fr.set {H H2 : Mem} {s : Value} (h : Fr H s H2) {k : Nat} (hk : H.length ≤ k) (x : Blk) : Fr H s (H2.set k x) :=
  ⟨by simpa using h.1, fun j hj hb => (List.getElem?_set_ne (by omega)).trans (h.2 j hj hb)⟩
theorem OpenAt.set {H : Mem} {s : Value} {l : List Cy} (h : OpenAt H s l) {k : Nat} (hk : blkOf s ≠ some k) (x : Blk) : OpenAt (H.set k x) s l := by
  rcases h with h | ⟨b, h1, h2⟩
  · exact .inl h
  · refine .inr ⟨b, h1, (List.getElem?_set_ne ?_).trans h2⟩
    intro e; apply hk; rw [h1, e]; rfl
theorem OpenAt.ne {H : Mem} {s : Value} {l : List Cy} (h : OpenAt H s l) {k : Nat} (hk : H.length ≤ k) : blkOf s ≠ some k := by
  rcases h with ⟨rfl, _⟩ | ⟨b, rfl, h2⟩
  · intro e; cases e
  · intro e
    have e1 : b = k := Option.some.inj e
    have := (List.getElem?_eq_some_iff.1 h2).1; omega
theorem Fresh.ne {n k : Nat} {s : Value} (h : Fresh n s) (hk : k < n) : blkOf s ≠ some k := by
  rcases h with rfl | ⟨b, m, rfl, h2⟩
  · intro e; cases e
  · intro e
    have e1 : b = k := Option.some.inj e
    omega
theorem OpenAt.same {H : Mem} {s : Value} {l : List Cy} (h : OpenAt H s l) : same1 s s = true ∧ sameV s s = true := by
  rcases h with ⟨rfl, _⟩ | ⟨b, rfl, _⟩
  · exact ⟨rfl, rfl⟩
  · constructor
    · rw [same1_sl]; simp
    · rw [sameV_sl]; simp
def beginA (a : Ac) (p : Pl) (day : Int) (missed : Bool) : Ac × Int :=
  if a.st = 2 ∨ a.sk = true ∨ missed = true then closeA { a with ct := IntKind.i64.wrap (a.ct + 1), sk := a.sk && (decide (a.st = 2) || missed) } (passC a.ct day)
  else if (lessP p.pr a.cr).2 ≠ 0 then ({ a with ct := IntKind.i64.wrap (a.ct + 1) }, (lessP p.pr a.cr).2)
  else if (lessP p.pr a.cr).1 < 0 then closeA { a with ct := IntKind.i64.wrap (a.ct + 1), cr := IntKind.i64.wrap (-(lessP p.pr a.cr).1) } (beginC a.ct day 0 p.pr p.go)
  else closeA { a with ct := IntKind.i64.wrap (a.ct + 1), cr := 0 } (beginC a.ct day (lessP p.pr a.cr).1 a.cr p.go)
end Go.Den
namespace Go.Den
open Go Go.Proofs
set_option maxRecDepth 100000
set_option maxHeartbeats 1000000
set_option linter.all false
attribute [local simp] evOps evOp absOp absBox absAlloc absLoad absStore absField absIndexAddr absCells absBinOp absBin absInt absShift absUn absPick absNil absExtract absBuild absPlaces Instr.fill absBuiltin absMinMax plainV plainT allA flat cells_agg cells_int cells_bool cells_str cells_ptr cells_sl cells_map one_int one_bool one_str one_ptr one_sl one_map Act.eval Act.put Region.wanted yielded splice absCall TypeDesc.isRow
attribute [local simp] absLen
theorem abegin_s (a : Ac) (p : Pl) (day : Int) (missed : Bool) {s : Value} {H : Mem} (hO : OpenAt H s a.op) (hn : a.op.length ≤ 1000000000000) : FSem Tryd.prog [0] 80 #[a.v s, p.v, .int .i64 day, .bool missed] H fun v H' => ∃ s', v = .tuple #[(beginA a p day missed).1.v s', .int .i64 (beginA a p day missed).2] ∧ Fr H s H' ∧ OpenAt H' s' (beginA a p day missed).1.op ∧ (s' = s ∨ Fresh H.length s') := by
  refine FSem.ofK Tryd.func80 rfl ?_
  refine DK.from (b' := ⟨#[a.v s, p.v, .int .i64 day, .bool missed, undef, undef, undef, undef, undef, undef, undef, undef, undef, undef, undef, undef, undef, undef, undef, undef, undef, undef, undef, undef, undef, undef, undef, undef, undef, undef, undef, undef, undef, undef, undef, undef, undef, undef, undef, undef, undef, undef, undef, undef, undef, undef, undef, undef, undef, undef, undef, undef, undef, undef, undef, undef, undef, undef, undef, undef, undef, undef, undef, undef, undef, undef, undef, undef, undef, undef, undef, undef, undef, undef, undef, undef, undef, undef, undef, undef, undef], []⟩) (by kernel_rfl) ?_
  obtain ⟨hs0, hs1⟩ := hO.cells
  obtain ⟨hsm, hsn⟩ := hO.same
  have c := trivial
  have d := trivial
  have e := trivial
  have b := trivial
  refine DK.seq ?_
  refine DK.region (is := [0, 1, 2, 3]) (by kernel_rfl) rfl ?_
  refine WK.run [0, 1, 2, 3] (by simp [hs0, hs1, hsm, hsn, c, d, e, b]; constructor <;> rfl) ?_
  refine WK.nil ?_
  refine DK.seq ?_
  refine DK.region (is := [0, 1, 2]) (by kernel_rfl) rfl ?_
  refine WK.run [0, 1, 2] (by simp [hs0, hs1, hsm, hsn, c, d, e, b]; constructor <;> rfl) ?_
  refine WK.nil ?_
  refine DK.seq ?_
  refine DK.region (is := [0, 1, 2, 3, 4]) (by kernel_rfl) rfl ?_
  refine WK.run [0, 1, 2, 3, 4] (by simp [hs0, hs1, hsm, hsn, c, d, e, b]; constructor <;> rfl) ?_
  refine WK.nil ?_
  refine DK.seq ?_
  refine DK.seq ?_
  refine DK.region (is := [0, 1, 2, 3, 4, 5, 6, 7, 8, 9]) (by kernel_rfl) rfl ?_
  refine WK.run [0, 1, 2, 3] (by simp [hs0, hs1, hsm, hsn, c, d, e, b]; constructor <;> rfl) ?_
  refine WK.split (t := 23) rfl (fun h => ?_) (fun h => ?_)
  · try simp only [h]
    replace h := Tr.out h
    refine WK.run [4, 5, 6, 7, 8, 9] (by simp [hs0, hs1, hsm, hsn, c, d, e, b]; constructor <;> rfl) ?_
    refine WK.nil ?_
    refine DK.yes rfl rfl ?_
    refine DK.seq ?_
    refine DK.region (is := [0, 1, 2, 3, 4, 5, 6, 7, 8, 9, 10, 11]) (by kernel_rfl) rfl ?_
    refine WK.run [0, 1, 2] (by simp [hs0, hs1, hsm, hsn, c, d, e, b]; constructor <;> rfl) ?_
    refine WK.split (t := 32) rfl (fun h => ?_) (fun h => ?_)
    · try simp only [h]
      replace h := Tr.out h
      refine WK.run [3, 4, 5, 6] (by simp [hs0, hs1, hsm, hsn, c, d, e, b]; constructor <;> rfl) ?_
      refine WK.split (t := 36) rfl (fun h => ?_) (fun h => ?_)
      · try simp only [h]
        replace h := Tr.out h
        refine WK.run [7, 8, 9, 10, 11] (by simp [hs0, hs1, hsm, hsn, c, d, e, b]; constructor <;> rfl) ?_
        refine WK.nil ?_
        refine DK.seq ?_
        refine DK.draw rfl (POk.of (ord := [0, 1, 2, 3, 4, 5, 6, 7, 8]) (by kernel_rfl)) ?_
        refine XK.run [0, 1, 2] (by kernel_rfl) (by simp [hs0, hs1, hsm, hsn, c, d, e, b]; constructor <;> rfl) ?_
        refine XK.call rfl (by simp [hs0, hs1, hsm, hsn, c, d, e, b]) rfl (by simp [Tryd.func95, Tryd.f95, hs0, hs1, hsm, hsn, c, d, e, b]; constructor <;> rfl) ?_
        refine FSem.mono (pass_s _ _ _) ?_
        rintro _ _ ⟨rfl, rfl⟩
        refine And.intro (lag_list (l := [0]) (by kernel_rfl) (lag_cons (lag_one rfl (by simp [hs0, hs1, hsm, hsn, c, d, e, b]; constructor <;> rfl) rfl (by simp [hs0, hs1, hsm, hsn, c, d, e, b]) (by simp [sameL, sameV_agg, sameV_int, sameV_bool, sameV_str, sameV_ptr, sameV_sl, sameV_map, same1_int, same1_bool, same1_str, same1_ptr, same1_sl, same1_map, hs0, hs1, hsm, hsn, c, d, e, b]) rfl) rfl)) ?_
        refine XK.call rfl (by simp [hs0, hs1, hsm, hsn, c, d, e, b]) rfl (by simp [Tryd.func84, Tryd.f84, hs0, hs1, hsm, hsn, c, d, e, b]; constructor <;> rfl) ?_
        refine FSem.mono (close_c _ _ _ _ _ _ _ a.op _ _ _ _ _ _ _ _ _ _ _ _ _ (by exact hO.app _) (by exact hn)) ?_
        rintro _ H2 ⟨s2, rfl, hfr, hO2, hs2⟩
        have c := (hfr.2 (H.length + 2) (by simp) (hO.ne (by omega)))
        simp at c
        have hlt : H.length + 2 < H2.length := by
          have := hfr.1
          simp at this
          omega
        have b : ∀ x : Blk, (H2.set (H.length + 2) x)[H.length + 2]? = some x := fun x => List.getElem?_set_self hlt
        have d := hO2.cells.1
        have e := hO2.cells.2
        have hne2 : blkOf s2 ≠ some (H.length + 2) := by
          rcases hs2 with rfl | hs2
          · exact hO.ne (by omega)
          · exact hs2.ne (by simp)
        have hs3 : s2 = s ∨ Fresh H.length s2 := hs2.imp id (fun q => q.le (by simp))
        refine And.intro (lag_list (l := []) (by kernel_rfl) rfl) ?_
        refine XK.run [5, 6] (by kernel_rfl) (by simp [hs0, hs1, hsm, hsn, c, d, e, b]; constructor <;> rfl) ?_
        refine XK.one rfl (by simp [hs0, hs1, hsm, hsn, c, d, e, b]) rfl (by simp [hs0, hs1, hsm, hsn, c, d, e, b]; constructor <;> rfl) (lag_list (l := []) (by kernel_rfl) rfl) ?_
        refine XK.one rfl (by simp [hs0, hs1, hsm, hsn, c, d, e, b]) rfl (by simp [hs0, hs1, hsm, hsn, c, d, e, b]; constructor <;> rfl) (lag_list (l := []) (by kernel_rfl) rfl) ?_
        refine XK.nil ?_
        refine DK.ret ?_
        refine And.intro (Or.inr rfl) ?_
        refine ⟨_, by simp [absAnswer, absResults, absResult, Tryd.f80, c, b, hs0, hs1, d, e]; rfl, ?_⟩
        first
          | (refine ⟨s2, ?_, hfr.of_app.set (by omega) _, ?_, hs3⟩
             · clear c hfr hs2 hs3 hO2; simp_all [beginA, Ac.eta]; done
             · refine OpenAt.set ?_ hne2 _; clear c hfr hs2 hs3; simp_all [beginA, Ac.eta]; done)
          | (refine ⟨s, ?_, Fr.app _ _ _, ?_, .inl rfl⟩
             · simp_all [beginA, Ac.eta]; done
             · refine OpenAt.app ?_ _; simp_all [beginA, Ac.eta]; done)
          | (refine ⟨s2, ?_, hfr.of_app.set (by omega) _, ?_, hs3⟩
             · clear c hfr hs2 hs3 hO2; rw [show beginA a p day missed = closeA { a with ct := IntKind.i64.wrap (a.ct + 1), cr := 0 } (beginC a.ct day (lessP p.pr a.cr).1 a.cr p.go) from by simp_all [beginA] <;> omega]; simp_all; done
             · refine OpenAt.set ?_ hne2 _; rw [show beginA a p day missed = closeA { a with ct := IntKind.i64.wrap (a.ct + 1), cr := 0 } (beginC a.ct day (lessP p.pr a.cr).1 a.cr p.go) from by clear c hfr hs2 hs3 hO2; simp_all [beginA] <;> omega]; simp_all; done)
          | (have hsk : a.sk = false := by assumption
             have hmi : missed = false := by assumption
             subst hmi
             have hbe : beginA a p day false = closeA { a with ct := IntKind.i64.wrap (a.ct + 1), cr := 0, sk := false } (beginC a.ct day (lessP p.pr a.cr).1 a.cr p.go) := by
               unfold beginA; rw [if_neg (by simp [*]), if_neg (by simp [*]), if_neg (by assumption), hsk]
             exact ⟨s2, by rw [hbe]; rfl, hfr.of_app.set (by omega) _, by rw [hbe]; exact hO2.set hne2 _, hs3⟩)
      try simp only [h]
      replace h := Fa.out h
      exact absurd ‹a.st = 2› h
    try simp only [h]
    replace h := Fa.out h
    refine WK.run [3, 4, 5, 6, 7, 8, 9, 10, 11] (by simp [hs0, hs1, hsm, hsn, c, d, e, b]; constructor <;> rfl) ?_
    refine WK.nil ?_
    refine DK.seq ?_
    refine DK.draw rfl (POk.of (ord := [0, 1, 2, 3, 4, 5, 6, 7, 8]) (by kernel_rfl)) ?_
    refine XK.run [0, 1, 2] (by kernel_rfl) (by simp [hs0, hs1, hsm, hsn, c, d, e, b]; constructor <;> rfl) ?_
    refine XK.call rfl (by simp [hs0, hs1, hsm, hsn, c, d, e, b]) rfl (by simp [Tryd.func95, Tryd.f95, hs0, hs1, hsm, hsn, c, d, e, b]; constructor <;> rfl) ?_
    refine FSem.mono (pass_s _ _ _) ?_
    rintro _ _ ⟨rfl, rfl⟩
    refine And.intro (lag_list (l := [0]) (by kernel_rfl) (lag_cons (lag_one rfl (by simp [hs0, hs1, hsm, hsn, c, d, e, b]; constructor <;> rfl) rfl (by simp [hs0, hs1, hsm, hsn, c, d, e, b]) (by simp [sameL, sameV_agg, sameV_int, sameV_bool, sameV_str, sameV_ptr, sameV_sl, sameV_map, same1_int, same1_bool, same1_str, same1_ptr, same1_sl, same1_map, hs0, hs1, hsm, hsn, c, d, e, b]) rfl) rfl)) ?_
    refine XK.call rfl (by simp [hs0, hs1, hsm, hsn, c, d, e, b]) rfl (by simp [Tryd.func84, Tryd.f84, hs0, hs1, hsm, hsn, c, d, e, b]; constructor <;> rfl) ?_
    refine FSem.mono (close_c _ _ _ _ _ _ _ a.op _ _ _ _ _ _ _ _ _ _ _ _ _ (by exact hO.app _) (by exact hn)) ?_
    rintro _ H2 ⟨s2, rfl, hfr, hO2, hs2⟩
    have c := (hfr.2 (H.length + 2) (by simp) (hO.ne (by omega)))
    simp at c
    have hlt : H.length + 2 < H2.length := by
      have := hfr.1
      simp at this
      omega
    have b : ∀ x : Blk, (H2.set (H.length + 2) x)[H.length + 2]? = some x := fun x => List.getElem?_set_self hlt
    have d := hO2.cells.1
    have e := hO2.cells.2
    have hne2 : blkOf s2 ≠ some (H.length + 2) := by
      rcases hs2 with rfl | hs2
      · exact hO.ne (by omega)
      · exact hs2.ne (by simp)
    have hs3 : s2 = s ∨ Fresh H.length s2 := hs2.imp id (fun q => q.le (by simp))
    refine And.intro (lag_list (l := []) (by kernel_rfl) rfl) ?_
    refine XK.run [5, 6] (by kernel_rfl) (by simp [hs0, hs1, hsm, hsn, c, d, e, b]; constructor <;> rfl) ?_
    refine XK.one rfl (by simp [hs0, hs1, hsm, hsn, c, d, e, b]) rfl (by simp [hs0, hs1, hsm, hsn, c, d, e, b]; constructor <;> rfl) (lag_list (l := []) (by kernel_rfl) rfl) ?_
    refine XK.one rfl (by simp [hs0, hs1, hsm, hsn, c, d, e, b]) rfl (by simp [hs0, hs1, hsm, hsn, c, d, e, b]; constructor <;> rfl) (lag_list (l := []) (by kernel_rfl) rfl) ?_
    refine XK.nil ?_
    refine DK.ret ?_
    refine And.intro (Or.inr rfl) ?_
    refine ⟨_, by simp [absAnswer, absResults, absResult, Tryd.f80, c, b, hs0, hs1, d, e]; rfl, ?_⟩
    first
      | (refine ⟨s2, ?_, hfr.of_app.set (by omega) _, ?_, hs3⟩
         · clear c hfr hs2 hs3 hO2; simp_all [beginA, Ac.eta]; done
         · refine OpenAt.set ?_ hne2 _; clear c hfr hs2 hs3; simp_all [beginA, Ac.eta]; done)
      | (refine ⟨s, ?_, Fr.app _ _ _, ?_, .inl rfl⟩
         · simp_all [beginA, Ac.eta]; done
         · refine OpenAt.app ?_ _; simp_all [beginA, Ac.eta]; done)
      | (refine ⟨s2, ?_, hfr.of_app.set (by omega) _, ?_, hs3⟩
         · clear c hfr hs2 hs3 hO2; rw [show beginA a p day missed = closeA { a with ct := IntKind.i64.wrap (a.ct + 1), cr := 0 } (beginC a.ct day (lessP p.pr a.cr).1 a.cr p.go) from by simp_all [beginA] <;> omega]; simp_all; done
         · refine OpenAt.set ?_ hne2 _; rw [show beginA a p day missed = closeA { a with ct := IntKind.i64.wrap (a.ct + 1), cr := 0 } (beginC a.ct day (lessP p.pr a.cr).1 a.cr p.go) from by clear c hfr hs2 hs3 hO2; simp_all [beginA] <;> omega]; simp_all; done)
      | (have hsk : a.sk = false := by assumption
         have hmi : missed = false := by assumption
         subst hmi
         have hbe : beginA a p day false = closeA { a with ct := IntKind.i64.wrap (a.ct + 1), cr := 0, sk := false } (beginC a.ct day (lessP p.pr a.cr).1 a.cr p.go) := by
           unfold beginA; rw [if_neg (by simp [*]), if_neg (by simp [*]), if_neg (by assumption), hsk]
         exact ⟨s2, by rw [hbe]; rfl, hfr.of_app.set (by omega) _, by rw [hbe]; exact hO2.set hne2 _, hs3⟩)
  try simp only [h]
  replace h := Fa.out h
  refine WK.run [4, 5, 6, 7] (by simp [hs0, hs1, hsm, hsn, c, d, e, b]; constructor <;> rfl) ?_
  refine WK.split (t := 27) rfl (fun h => ?_) (fun h => ?_)
  · try simp only [h]
    replace h := Tr.out h
    refine WK.run [8, 9] (by simp [hs0, hs1, hsm, hsn, c, d, e, b]; constructor <;> rfl) ?_
    refine WK.nil ?_
    refine DK.yes rfl rfl ?_
    refine DK.seq ?_
    refine DK.region (is := [0, 1, 2, 3, 4, 5, 6, 7, 8, 9, 10, 11]) (by kernel_rfl) rfl ?_
    refine WK.run [0, 1, 2] (by simp [hs0, hs1, hsm, hsn, c, d, e, b]; constructor <;> rfl) ?_
    refine WK.split (t := 32) rfl (fun h => ?_) (fun h => ?_)
    · try simp only [h]
      replace h := Tr.out h
      refine WK.run [3, 4, 5, 6] (by simp [hs0, hs1, hsm, hsn, c, d, e, b]; constructor <;> rfl) ?_
      refine WK.split (t := 36) rfl (fun h => ?_) (fun h => ?_)
      · try simp only [h]
        replace h := Tr.out h
        exact absurd h ‹_›
      try simp only [h]
      replace h := Fa.out h
      refine WK.run [7, 8, 9, 10, 11] (by simp [hs0, hs1, hsm, hsn, c, d, e, b]; constructor <;> rfl) ?_
      refine WK.nil ?_
      refine DK.seq ?_
      refine DK.draw rfl (POk.of (ord := [0, 1, 2, 3, 4, 5, 6, 7, 8]) (by kernel_rfl)) ?_
      refine XK.run [0, 1, 2] (by kernel_rfl) (by simp [hs0, hs1, hsm, hsn, c, d, e, b]; constructor <;> rfl) ?_
      refine XK.call rfl (by simp [hs0, hs1, hsm, hsn, c, d, e, b]) rfl (by simp [Tryd.func95, Tryd.f95, hs0, hs1, hsm, hsn, c, d, e, b]; constructor <;> rfl) ?_
      refine FSem.mono (pass_s _ _ _) ?_
      rintro _ _ ⟨rfl, rfl⟩
      refine And.intro (lag_list (l := [0]) (by kernel_rfl) (lag_cons (lag_one rfl (by simp [hs0, hs1, hsm, hsn, c, d, e, b]; constructor <;> rfl) rfl (by simp [hs0, hs1, hsm, hsn, c, d, e, b]) (by simp [sameL, sameV_agg, sameV_int, sameV_bool, sameV_str, sameV_ptr, sameV_sl, sameV_map, same1_int, same1_bool, same1_str, same1_ptr, same1_sl, same1_map, hs0, hs1, hsm, hsn, c, d, e, b]) rfl) rfl)) ?_
      refine XK.call rfl (by simp [hs0, hs1, hsm, hsn, c, d, e, b]) rfl (by simp [Tryd.func84, Tryd.f84, hs0, hs1, hsm, hsn, c, d, e, b]; constructor <;> rfl) ?_
      refine FSem.mono (close_c _ _ _ _ _ _ _ a.op _ _ _ _ _ _ _ _ _ _ _ _ _ (by exact hO.app _) (by exact hn)) ?_
      rintro _ H2 ⟨s2, rfl, hfr, hO2, hs2⟩
      have c := (hfr.2 (H.length + 2) (by simp) (hO.ne (by omega)))
      simp at c
      have hlt : H.length + 2 < H2.length := by
        have := hfr.1
        simp at this
        omega
      have b : ∀ x : Blk, (H2.set (H.length + 2) x)[H.length + 2]? = some x := fun x => List.getElem?_set_self hlt
      have d := hO2.cells.1
      have e := hO2.cells.2
      have hne2 : blkOf s2 ≠ some (H.length + 2) := by
        rcases hs2 with rfl | hs2
        · exact hO.ne (by omega)
        · exact hs2.ne (by simp)
      have hs3 : s2 = s ∨ Fresh H.length s2 := hs2.imp id (fun q => q.le (by simp))
      refine And.intro (lag_list (l := []) (by kernel_rfl) rfl) ?_
      refine XK.run [5, 6] (by kernel_rfl) (by simp [hs0, hs1, hsm, hsn, c, d, e, b]; constructor <;> rfl) ?_
      refine XK.one rfl (by simp [hs0, hs1, hsm, hsn, c, d, e, b]) rfl (by simp [hs0, hs1, hsm, hsn, c, d, e, b]; constructor <;> rfl) (lag_list (l := []) (by kernel_rfl) rfl) ?_
      refine XK.one rfl (by simp [hs0, hs1, hsm, hsn, c, d, e, b]) rfl (by simp [hs0, hs1, hsm, hsn, c, d, e, b]; constructor <;> rfl) (lag_list (l := []) (by kernel_rfl) rfl) ?_
      refine XK.nil ?_
      refine DK.ret ?_
      refine And.intro (Or.inr rfl) ?_
      refine ⟨_, by simp [absAnswer, absResults, absResult, Tryd.f80, c, b, hs0, hs1, d, e]; rfl, ?_⟩
      first
        | (refine ⟨s2, ?_, hfr.of_app.set (by omega) _, ?_, hs3⟩
           · clear c hfr hs2 hs3 hO2; simp_all [beginA, Ac.eta]; done
           · refine OpenAt.set ?_ hne2 _; clear c hfr hs2 hs3; simp_all [beginA, Ac.eta]; done)
        | (refine ⟨s, ?_, Fr.app _ _ _, ?_, .inl rfl⟩
           · simp_all [beginA, Ac.eta]; done
           · refine OpenAt.app ?_ _; simp_all [beginA, Ac.eta]; done)
        | (refine ⟨s2, ?_, hfr.of_app.set (by omega) _, ?_, hs3⟩
           · clear c hfr hs2 hs3 hO2; rw [show beginA a p day missed = closeA { a with ct := IntKind.i64.wrap (a.ct + 1), cr := 0 } (beginC a.ct day (lessP p.pr a.cr).1 a.cr p.go) from by simp_all [beginA] <;> omega]; simp_all; done
           · refine OpenAt.set ?_ hne2 _; rw [show beginA a p day missed = closeA { a with ct := IntKind.i64.wrap (a.ct + 1), cr := 0 } (beginC a.ct day (lessP p.pr a.cr).1 a.cr p.go) from by clear c hfr hs2 hs3 hO2; simp_all [beginA] <;> omega]; simp_all; done)
        | (have hsk : a.sk = false := by assumption
           have hmi : missed = false := by assumption
           subst hmi
           have hbe : beginA a p day false = closeA { a with ct := IntKind.i64.wrap (a.ct + 1), cr := 0, sk := false } (beginC a.ct day (lessP p.pr a.cr).1 a.cr p.go) := by
             unfold beginA; rw [if_neg (by simp [*]), if_neg (by simp [*]), if_neg (by assumption), hsk]
           exact ⟨s2, by rw [hbe]; rfl, hfr.of_app.set (by omega) _, by rw [hbe]; exact hO2.set hne2 _, hs3⟩)
    try simp only [h]
    replace h := Fa.out h
    simp_all
  try simp only [h]
  replace h := Fa.out h
  refine WK.run [8, 9] (by simp [hs0, hs1, hsm, hsn, c, d, e, b]; constructor <;> rfl) ?_
  refine WK.nil ?_
  refine DK.test rfl rfl (fun h => ?_) (fun h => ?_)
  · try simp only [h]
    replace h := Tr.out h
    refine DK.seq ?_
    refine DK.region (is := [0, 1, 2, 3, 4, 5, 6, 7, 8, 9, 10, 11]) (by kernel_rfl) rfl ?_
    refine WK.run [0, 1, 2] (by simp [hs0, hs1, hsm, hsn, c, d, e, b]; constructor <;> rfl) ?_
    refine WK.split (t := 32) rfl (fun h => ?_) (fun h => ?_)
    · try simp only [h]
      replace h := Tr.out h
      cases h
    try simp only [h]
    replace h := Fa.out h
    refine WK.run [3, 4, 5, 6, 7, 8, 9, 10, 11] (by simp [hs0, hs1, hsm, hsn, c, d, e, b]; constructor <;> rfl) ?_
    refine WK.nil ?_
    refine DK.seq ?_
    refine DK.draw rfl (POk.of (ord := [0, 1, 2, 3, 4, 5, 6, 7, 8]) (by kernel_rfl)) ?_
    refine XK.run [0, 1, 2] (by kernel_rfl) (by simp [hs0, hs1, hsm, hsn, c, d, e, b]; constructor <;> rfl) ?_
    refine XK.call rfl (by simp [hs0, hs1, hsm, hsn, c, d, e, b]) rfl (by simp [Tryd.func95, Tryd.f95, hs0, hs1, hsm, hsn, c, d, e, b]; constructor <;> rfl) ?_
    refine FSem.mono (pass_s _ _ _) ?_
    rintro _ _ ⟨rfl, rfl⟩
    refine And.intro (lag_list (l := [0]) (by kernel_rfl) (lag_cons (lag_one rfl (by simp [hs0, hs1, hsm, hsn, c, d, e, b]; constructor <;> rfl) rfl (by simp [hs0, hs1, hsm, hsn, c, d, e, b]) (by simp [sameL, sameV_agg, sameV_int, sameV_bool, sameV_str, sameV_ptr, sameV_sl, sameV_map, same1_int, same1_bool, same1_str, same1_ptr, same1_sl, same1_map, hs0, hs1, hsm, hsn, c, d, e, b]) rfl) rfl)) ?_
    refine XK.call rfl (by simp [hs0, hs1, hsm, hsn, c, d, e, b]) rfl (by simp [Tryd.func84, Tryd.f84, hs0, hs1, hsm, hsn, c, d, e, b]; constructor <;> rfl) ?_
    refine FSem.mono (close_c _ _ _ _ _ _ _ a.op _ _ _ _ _ _ _ _ _ _ _ _ _ (by exact hO.app _) (by exact hn)) ?_
    rintro _ H2 ⟨s2, rfl, hfr, hO2, hs2⟩
    have c := (hfr.2 (H.length + 2) (by simp) (hO.ne (by omega)))
    simp at c
    have hlt : H.length + 2 < H2.length := by
      have := hfr.1
      simp at this
      omega
    have b : ∀ x : Blk, (H2.set (H.length + 2) x)[H.length + 2]? = some x := fun x => List.getElem?_set_self hlt
    have d := hO2.cells.1
    have e := hO2.cells.2
    have hne2 : blkOf s2 ≠ some (H.length + 2) := by
      rcases hs2 with rfl | hs2
      · exact hO.ne (by omega)
      · exact hs2.ne (by simp)
    have hs3 : s2 = s ∨ Fresh H.length s2 := hs2.imp id (fun q => q.le (by simp))
    refine And.intro (lag_list (l := []) (by kernel_rfl) rfl) ?_
    refine XK.run [5, 6] (by kernel_rfl) (by simp [hs0, hs1, hsm, hsn, c, d, e, b]; constructor <;> rfl) ?_
    refine XK.one rfl (by simp [hs0, hs1, hsm, hsn, c, d, e, b]) rfl (by simp [hs0, hs1, hsm, hsn, c, d, e, b]; constructor <;> rfl) (lag_list (l := []) (by kernel_rfl) rfl) ?_
    refine XK.one rfl (by simp [hs0, hs1, hsm, hsn, c, d, e, b]) rfl (by simp [hs0, hs1, hsm, hsn, c, d, e, b]; constructor <;> rfl) (lag_list (l := []) (by kernel_rfl) rfl) ?_
    refine XK.nil ?_
    refine DK.ret ?_
    refine And.intro (Or.inr rfl) ?_
    refine ⟨_, by simp [absAnswer, absResults, absResult, Tryd.f80, c, b, hs0, hs1, d, e]; rfl, ?_⟩
    first
      | (refine ⟨s2, ?_, hfr.of_app.set (by omega) _, ?_, hs3⟩
         · clear c hfr hs2 hs3 hO2; simp_all [beginA, Ac.eta]; done
         · refine OpenAt.set ?_ hne2 _; clear c hfr hs2 hs3; simp_all [beginA, Ac.eta]; done)
      | (refine ⟨s, ?_, Fr.app _ _ _, ?_, .inl rfl⟩
         · simp_all [beginA, Ac.eta]; done
         · refine OpenAt.app ?_ _; simp_all [beginA, Ac.eta]; done)
      | (refine ⟨s2, ?_, hfr.of_app.set (by omega) _, ?_, hs3⟩
         · clear c hfr hs2 hs3 hO2; rw [show beginA a p day missed = closeA { a with ct := IntKind.i64.wrap (a.ct + 1), cr := 0 } (beginC a.ct day (lessP p.pr a.cr).1 a.cr p.go) from by simp_all [beginA] <;> omega]; simp_all; done
         · refine OpenAt.set ?_ hne2 _; rw [show beginA a p day missed = closeA { a with ct := IntKind.i64.wrap (a.ct + 1), cr := 0 } (beginC a.ct day (lessP p.pr a.cr).1 a.cr p.go) from by clear c hfr hs2 hs3 hO2; simp_all [beginA] <;> omega]; simp_all; done)
      | (have hsk : a.sk = false := by assumption
         have hmi : missed = false := by assumption
         subst hmi
         have hbe : beginA a p day false = closeA { a with ct := IntKind.i64.wrap (a.ct + 1), cr := 0, sk := false } (beginC a.ct day (lessP p.pr a.cr).1 a.cr p.go) := by
           unfold beginA; rw [if_neg (by simp [*]), if_neg (by simp [*]), if_neg (by assumption), hsk]
         exact ⟨s2, by rw [hbe]; rfl, hfr.of_app.set (by omega) _, by rw [hbe]; exact hO2.set hne2 _, hs3⟩)
  try simp only [h]
  replace h := Fa.out h
  refine DK.skip ?_
  refine DK.seq ?_
  refine DK.region (is := [0, 1, 2, 3, 4, 5, 6, 7, 8, 9]) (by kernel_rfl) rfl ?_
  refine WK.run [0, 1, 2, 3] (by simp [hs0, hs1, hsm, hsn, c, d, e, b]; constructor <;> rfl) ?_
  refine WK.call rfl (by simp [hs0, hs1, hsm, hsn, c, d, e, b]) (by simp [Tryd.func96, Tryd.f96, hs0, hs1, hsm, hsn, c, d, e, b]; constructor <;> rfl) ?_
  refine FSem.mono (less_s _ _ _) ?_
  rintro _ _ ⟨rfl, rfl⟩
  refine WK.run [5, 6, 7, 8, 9] (by simp [hs0, hs1, hsm, hsn, c, d, e, b]; constructor <;> rfl) ?_
  refine WK.nil ?_
  refine DK.seq ?_
  refine DK.seq ?_
  refine DK.region (is := [0, 1]) (by kernel_rfl) rfl ?_
  refine WK.run [0, 1] (by simp [hs0, hs1, hsm, hsn, c, d, e, b]; constructor <;> rfl) ?_
  refine WK.nil ?_
  refine DK.test rfl rfl (fun h => ?_) (fun h => ?_)
  · try simp only [h]
    replace h := Tr.out h
    refine DK.seq ?_
    refine DK.region (is := [0, 1, 2, 3]) (by kernel_rfl) rfl ?_
    refine WK.run [0, 1, 2, 3] (by simp [hs0, hs1, hsm, hsn, c, d, e, b]; constructor <;> rfl) ?_
    refine WK.nil ?_
    refine DK.ret ?_
    refine And.intro (Or.inr rfl) ?_
    refine ⟨_, by simp [absAnswer, absResults, absResult, Tryd.f80, c, b, hs0, hs1, d, e]; rfl, ?_⟩
    first
      | (refine ⟨s2, ?_, hfr.of_app.set (by omega) _, ?_, hs3⟩
         · clear c hfr hs2 hs3 hO2; simp_all [beginA, Ac.eta]; done
         · refine OpenAt.set ?_ hne2 _; clear c hfr hs2 hs3; simp_all [beginA, Ac.eta]; done)
      | (refine ⟨s, ?_, Fr.app _ _ _, ?_, .inl rfl⟩
         · simp_all [beginA, Ac.eta]; done
         · refine OpenAt.app ?_ _; simp_all [beginA, Ac.eta]; done)
      | (refine ⟨s2, ?_, hfr.of_app.set (by omega) _, ?_, hs3⟩
         · clear c hfr hs2 hs3 hO2; rw [show beginA a p day missed = closeA { a with ct := IntKind.i64.wrap (a.ct + 1), cr := 0 } (beginC a.ct day (lessP p.pr a.cr).1 a.cr p.go) from by simp_all [beginA] <;> omega]; simp_all; done
         · refine OpenAt.set ?_ hne2 _; rw [show beginA a p day missed = closeA { a with ct := IntKind.i64.wrap (a.ct + 1), cr := 0 } (beginC a.ct day (lessP p.pr a.cr).1 a.cr p.go) from by clear c hfr hs2 hs3 hO2; simp_all [beginA] <;> omega]; simp_all; done)
      | (have hsk : a.sk = false := by assumption
         have hmi : missed = false := by assumption
         subst hmi
         have hbe : beginA a p day false = closeA { a with ct := IntKind.i64.wrap (a.ct + 1), cr := 0, sk := false } (beginC a.ct day (lessP p.pr a.cr).1 a.cr p.go) := by
           unfold beginA; rw [if_neg (by simp [*]), if_neg (by simp [*]), if_neg (by assumption), hsk]
         exact ⟨s2, by rw [hbe]; rfl, hfr.of_app.set (by omega) _, by rw [hbe]; exact hO2.set hne2 _, hs3⟩)
  try simp only [h]
  replace h := Fa.out h
  refine DK.skip ?_
  refine DK.seq ?_
  refine DK.region (is := [0, 1, 2]) (by kernel_rfl) rfl ?_
  refine WK.run [0, 1, 2] (by simp [hs0, hs1, hsm, hsn, c, d, e, b]; constructor <;> rfl) ?_
  refine WK.nil ?_
  refine DK.seq ?_
  refine DK.region (is := [0, 1]) (by kernel_rfl) rfl ?_
  refine WK.run [0, 1] (by simp [hs0, hs1, hsm, hsn, c, d, e, b]; constructor <;> rfl) ?_
  refine WK.nil ?_
  refine DK.seq ?_
  refine DK.seq ?_
  refine DK.region (is := [0, 1]) (by kernel_rfl) rfl ?_
  refine WK.run [0, 1] (by simp [hs0, hs1, hsm, hsn, c, d, e, b]; constructor <;> rfl) ?_
  refine WK.nil ?_
  refine DK.test rfl rfl (fun h => ?_) (fun h => ?_)
  · try simp only [h]
    replace h := Tr.out h
    refine DK.region (is := [0, 1, 2, 3, 4, 5, 6, 7]) (by kernel_rfl) rfl ?_
    refine WK.run [0, 1, 2, 3, 4, 5, 6, 7] (by simp [hs0, hs1, hsm, hsn, c, d, e, b]; constructor <;> rfl) ?_
    refine WK.nil ?_
    refine DK.seq ?_
    refine DK.draw rfl (POk.of (ord := [0, 1, 2, 3, 4, 5, 6, 7, 8, 9, 10, 11, 12]) (by kernel_rfl)) ?_
    refine XK.run [0, 1, 2, 3, 4, 5, 6] (by kernel_rfl) (by simp [hs0, hs1, hsm, hsn, c, d, e, b]; constructor <;> rfl) ?_
    refine XK.call rfl (by simp [hs0, hs1, hsm, hsn, c, d, e, b]) rfl (by simp [Tryd.func97, Tryd.f97, hs0, hs1, hsm, hsn, c, d, e, b]; constructor <;> rfl) ?_
    refine FSem.mono (begin_s _ _ _ _ _ _) ?_
    rintro _ _ ⟨rfl, rfl⟩
    refine And.intro (lag_list (l := [0]) (by kernel_rfl) (lag_cons (lag_one rfl (by simp [hs0, hs1, hsm, hsn, c, d, e, b]; constructor <;> rfl) rfl (by simp [hs0, hs1, hsm, hsn, c, d, e, b]) (by simp [sameL, sameV_agg, sameV_int, sameV_bool, sameV_str, sameV_ptr, sameV_sl, sameV_map, same1_int, same1_bool, same1_str, same1_ptr, same1_sl, same1_map, hs0, hs1, hsm, hsn, c, d, e, b]) rfl) rfl)) ?_
    refine XK.call rfl (by simp [hs0, hs1, hsm, hsn, c, d, e, b]) rfl (by simp [Tryd.func84, Tryd.f84, hs0, hs1, hsm, hsn, c, d, e, b]; constructor <;> rfl) ?_
    refine FSem.mono (close_c _ _ _ _ _ _ _ a.op _ _ _ _ _ _ _ _ _ _ _ _ _ (by exact hO.app _) (by exact hn)) ?_
    rintro _ H2 ⟨s2, rfl, hfr, hO2, hs2⟩
    have c := (hfr.2 (H.length + 2) (by simp) (hO.ne (by omega)))
    simp at c
    have hlt : H.length + 2 < H2.length := by
      have := hfr.1
      simp at this
      omega
    have b : ∀ x : Blk, (H2.set (H.length + 2) x)[H.length + 2]? = some x := fun x => List.getElem?_set_self hlt
    have d := hO2.cells.1
    have e := hO2.cells.2
    have hne2 : blkOf s2 ≠ some (H.length + 2) := by
      rcases hs2 with rfl | hs2
      · exact hO.ne (by omega)
      · exact hs2.ne (by simp)
    have hs3 : s2 = s ∨ Fresh H.length s2 := hs2.imp id (fun q => q.le (by simp))
    refine And.intro (lag_list (l := []) (by kernel_rfl) rfl) ?_
    refine XK.run [9, 10] (by kernel_rfl) (by simp [hs0, hs1, hsm, hsn, c, d, e, b]; constructor <;> rfl) ?_
    refine XK.one rfl (by simp [hs0, hs1, hsm, hsn, c, d, e, b]) rfl (by simp [hs0, hs1, hsm, hsn, c, d, e, b]; constructor <;> rfl) (lag_list (l := []) (by kernel_rfl) rfl) ?_
    refine XK.one rfl (by simp [hs0, hs1, hsm, hsn, c, d, e, b]) rfl (by simp [hs0, hs1, hsm, hsn, c, d, e, b]; constructor <;> rfl) (lag_list (l := []) (by kernel_rfl) rfl) ?_
    refine XK.nil ?_
    refine DK.ret ?_
    refine And.intro (Or.inr rfl) ?_
    refine ⟨_, by simp [absAnswer, absResults, absResult, Tryd.f80, c, b, hs0, hs1, d, e]; rfl, ?_⟩
    first
      | (refine ⟨s2, ?_, hfr.of_app.set (by omega) _, ?_, hs3⟩
         · clear c hfr hs2 hs3 hO2; simp_all [beginA, Ac.eta]; done
         · refine OpenAt.set ?_ hne2 _; clear c hfr hs2 hs3; simp_all [beginA, Ac.eta]; done)
      | (refine ⟨s, ?_, Fr.app _ _ _, ?_, .inl rfl⟩
         · simp_all [beginA, Ac.eta]; done
         · refine OpenAt.app ?_ _; simp_all [beginA, Ac.eta]; done)
      | (refine ⟨s2, ?_, hfr.of_app.set (by omega) _, ?_, hs3⟩
         · clear c hfr hs2 hs3 hO2; rw [show beginA a p day missed = closeA { a with ct := IntKind.i64.wrap (a.ct + 1), cr := 0 } (beginC a.ct day (lessP p.pr a.cr).1 a.cr p.go) from by simp_all [beginA] <;> omega]; simp_all; done
         · refine OpenAt.set ?_ hne2 _; rw [show beginA a p day missed = closeA { a with ct := IntKind.i64.wrap (a.ct + 1), cr := 0 } (beginC a.ct day (lessP p.pr a.cr).1 a.cr p.go) from by clear c hfr hs2 hs3 hO2; simp_all [beginA] <;> omega]; simp_all; done)
      | (have hsk : a.sk = false := by assumption
         have hmi : missed = false := by assumption
         subst hmi
         have hbe : beginA a p day false = closeA { a with ct := IntKind.i64.wrap (a.ct + 1), cr := 0, sk := false } (beginC a.ct day (lessP p.pr a.cr).1 a.cr p.go) := by
           unfold beginA; rw [if_neg (by simp [*]), if_neg (by simp [*]), if_neg (by assumption), hsk]
         exact ⟨s2, by rw [hbe]; rfl, hfr.of_app.set (by omega) _, by rw [hbe]; exact hO2.set hne2 _, hs3⟩)
  try simp only [h]
  replace h := Fa.out h
  refine DK.skip ?_
  refine DK.seq ?_
  refine DK.draw rfl (POk.of (ord := [0, 1, 2, 3, 4, 5, 6, 7, 8, 9, 10, 11, 12]) (by kernel_rfl)) ?_
  refine XK.run [0, 1, 2, 3, 4, 5, 6] (by kernel_rfl) (by simp [hs0, hs1, hsm, hsn, c, d, e, b]; constructor <;> rfl) ?_
  refine XK.call rfl (by simp [hs0, hs1, hsm, hsn, c, d, e, b]) rfl (by simp [Tryd.func97, Tryd.f97, hs0, hs1, hsm, hsn, c, d, e, b]; constructor <;> rfl) ?_
  refine FSem.mono (begin_s _ _ _ _ _ _) ?_
  rintro _ _ ⟨rfl, rfl⟩
  refine And.intro (lag_list (l := [0]) (by kernel_rfl) (lag_cons (lag_one rfl (by simp [hs0, hs1, hsm, hsn, c, d, e, b]; constructor <;> rfl) rfl (by simp [hs0, hs1, hsm, hsn, c, d, e, b]) (by simp [sameL, sameV_agg, sameV_int, sameV_bool, sameV_str, sameV_ptr, sameV_sl, sameV_map, same1_int, same1_bool, same1_str, same1_ptr, same1_sl, same1_map, hs0, hs1, hsm, hsn, c, d, e, b]) rfl) rfl)) ?_
  refine XK.call rfl (by simp [hs0, hs1, hsm, hsn, c, d, e, b]) rfl (by simp [Tryd.func84, Tryd.f84, hs0, hs1, hsm, hsn, c, d, e, b]; constructor <;> rfl) ?_
  refine FSem.mono (close_c _ _ _ _ _ _ _ a.op _ _ _ _ _ _ _ _ _ _ _ _ _ (by exact hO.app _) (by exact hn)) ?_
  rintro _ H2 ⟨s2, rfl, hfr, hO2, hs2⟩
  have c := (hfr.2 (H.length + 2) (by simp) (hO.ne (by omega)))
  simp at c
  have hlt : H.length + 2 < H2.length := by
    have := hfr.1
    simp at this
    omega
  have b : ∀ x : Blk, (H2.set (H.length + 2) x)[H.length + 2]? = some x := fun x => List.getElem?_set_self hlt
  have d := hO2.cells.1
  have e := hO2.cells.2
  have hne2 : blkOf s2 ≠ some (H.length + 2) := by
    rcases hs2 with rfl | hs2
    · exact hO.ne (by omega)
    · exact hs2.ne (by simp)
  have hs3 : s2 = s ∨ Fresh H.length s2 := hs2.imp id (fun q => q.le (by simp))
  refine And.intro (lag_list (l := []) (by kernel_rfl) rfl) ?_
  refine XK.run [9, 10] (by kernel_rfl) (by simp [hs0, hs1, hsm, hsn, c, d, e, b]; constructor <;> rfl) ?_
  refine XK.one rfl (by simp [hs0, hs1, hsm, hsn, c, d, e, b]) rfl (by simp [hs0, hs1, hsm, hsn, c, d, e, b]; constructor <;> rfl) (lag_list (l := []) (by kernel_rfl) rfl) ?_
  refine XK.one rfl (by simp [hs0, hs1, hsm, hsn, c, d, e, b]) rfl (by simp [hs0, hs1, hsm, hsn, c, d, e, b]; constructor <;> rfl) (lag_list (l := []) (by kernel_rfl) rfl) ?_
  refine XK.nil ?_
  refine DK.ret ?_
  refine And.intro (Or.inr rfl) ?_
  refine ⟨_, by simp [absAnswer, absResults, absResult, Tryd.f80, c, b, hs0, hs1, d, e]; rfl, ?_⟩
  first
    | (refine ⟨s2, ?_, hfr.of_app.set (by omega) _, ?_, hs3⟩
       · clear c hfr hs2 hs3 hO2; simp_all [beginA, Ac.eta]; done
       · refine OpenAt.set ?_ hne2 _; clear c hfr hs2 hs3; simp_all [beginA, Ac.eta]; done)
    | (refine ⟨s, ?_, Fr.app _ _ _, ?_, .inl rfl⟩
       · simp_all [beginA, Ac.eta]; done
       · refine OpenAt.app ?_ _; simp_all [beginA, Ac.eta]; done)
    | (refine ⟨s2, ?_, hfr.of_app.set (by omega) _, ?_, hs3⟩
       · clear c hfr hs2 hs3 hO2; rw [show beginA a p day missed = closeA { a with ct := IntKind.i64.wrap (a.ct + 1), cr := 0 } (beginC a.ct day (lessP p.pr a.cr).1 a.cr p.go) from by simp_all [beginA] <;> omega]; simp_all; done
       · refine OpenAt.set ?_ hne2 _; rw [show beginA a p day missed = closeA { a with ct := IntKind.i64.wrap (a.ct + 1), cr := 0 } (beginC a.ct day (lessP p.pr a.cr).1 a.cr p.go) from by clear c hfr hs2 hs3 hO2; simp_all [beginA] <;> omega]; simp_all; done)
    | (have hsk : a.sk = false := by assumption
       have hmi : missed = false := by assumption
       subst hmi
       have hbe : beginA a p day false = closeA { a with ct := IntKind.i64.wrap (a.ct + 1), cr := 0, sk := false } (beginC a.ct day (lessP p.pr a.cr).1 a.cr p.go) := by
         unfold beginA; rw [if_neg (by simp [*]), if_neg (by simp [*]), if_neg (by assumption), hsk]
       exact ⟨s2, by rw [hbe]; rfl, hfr.of_app.set (by omega) _, by rw [hbe]; exact hO2.set hne2 _, hs3⟩)
end Go.Den
namespace Go.Den
open Go Go.Proofs
set_option maxRecDepth 100000
set_option maxHeartbeats 1000000
set_option linter.all false
attribute [local simp] evOps evOp absOp absBox absAlloc absLoad absStore absField absIndexAddr absCells absBinOp absBin absInt absShift absUn absPick absNil absExtract absBuild absPlaces Instr.fill absBuiltin absMinMax plainV plainT allA flat cells_agg cells_int cells_bool cells_str cells_ptr cells_sl cells_map one_int one_bool one_str one_ptr one_sl one_map Act.eval Act.put Region.wanted yielded splice absCall TypeDesc.isRow
@[simp] theorem len9 (H : Mem) (s : ByteArray) : absLen Tryd.prog H 9 (.string s) = some (.int .i64 s.size) := by unfold absLen; simp [Tryd.underlying9, goInt]
@[simp] theorem len23 (H : Mem) (q : Option Addr) (n c : Nat) : absLen Tryd.prog H 23 (.slice q n c) = some (.int .i64 n) := by unfold absLen; simp [Tryd.underlying23, goInt]
@[simp] theorem len24 (H : Mem) (q : Option Addr) (n c : Nat) : absLen Tryd.prog H 24 (.slice q n c) = some (.int .i64 n) := by unfold absLen; simp [Tryd.underlying24, goInt]
@[simp] theorem len26 (H : Mem) (q : Option Addr) (n c : Nat) : absLen Tryd.prog H 26 (.slice q n c) = some (.int .i64 n) := by unfold absLen; simp [Tryd.underlying26, goInt]
@[simp] theorem len27 (H : Mem) (q : Option Addr) (n c : Nat) : absLen Tryd.prog H 27 (.slice q n c) = some (.int .i64 n) := by unfold absLen; simp [Tryd.underlying27, goInt]
@[simp] theorem len28 (H : Mem) (q : Option Addr) (n c : Nat) : absLen Tryd.prog H 28 (.slice q n c) = some (.int .i64 n) := by unfold absLen; simp [Tryd.underlying28, goInt]
@[simp] theorem len33 (H : Mem) (x : Value) : absLen Tryd.prog H 33 x = some (.int .i64 32) := by unfold absLen; simp [Tryd.underlying33, goInt]
@[simp] theorem len37 (H : Mem) (q : Option Addr) (n c : Nat) : absLen Tryd.prog H 37 (.slice q n c) = some (.int .i64 n) := by unfold absLen; simp [Tryd.underlying37, goInt]
@[simp] theorem len40 (H : Mem) (x : Value) : absLen Tryd.prog H 40 x = some (.int .i64 32) := by unfold absLen; simp [Tryd.underlying40, goInt]
@[simp] theorem len52 (H : Mem) (q : Option Addr) (n c : Nat) : absLen Tryd.prog H 52 (.slice q n c) = some (.int .i64 n) := by unfold absLen; simp [Tryd.underlying52, goInt]
@[simp] theorem len72 (H : Mem) (q : Option Addr) (n c : Nat) : absLen Tryd.prog H 72 (.slice q n c) = some (.int .i64 n) := by unfold absLen; simp [Tryd.underlying72, goInt]
@[simp] theorem len78 (H : Mem) (q : Option Addr) (n c : Nat) : absLen Tryd.prog H 78 (.slice q n c) = some (.int .i64 n) := by unfold absLen; simp [Tryd.underlying78, goInt]
@[simp] theorem len103 (H : Mem) (q : Option Addr) (n c : Nat) : absLen Tryd.prog H 103 (.slice q n c) = some (.int .i64 n) := by unfold absLen; simp [Tryd.underlying103, goInt]
@[simp] theorem len104 (H : Mem) (q : Option Addr) (n c : Nat) : absLen Tryd.prog H 104 (.slice q n c) = some (.int .i64 n) := by unfold absLen; simp [Tryd.underlying104, goInt]
@[simp] theorem len160 (H : Mem) (x : Value) : absLen Tryd.prog H 160 x = some (.int .i64 3) := by unfold absLen; simp [Tryd.underlying160, goInt]
@[simp] theorem len181 (H : Mem) (x : Value) : absLen Tryd.prog H 181 x = some (.int .i64 0) := by unfold absLen; simp [Tryd.underlying181, goInt]
end Go.Den
set_option linter.unusedVariables false
namespace Go.Den
set_option maxRecDepth 100000
open Go Go.Proofs
theorem due_c (st pl an ix ct cr : Int) (sk : Bool) (s : Value) (dn up rf sp pd : Int) (hs1 : s.cells = #[s]) (hs2 : s.oneCell' = true) (p : Pl) (hu : 0 ≤ p.un) (H : Mem) :
    FSem Tryd.prog [0] 79 #[.agg #[.int .u8 st, .int .i64 pl, .int .i64 an, .int .i64 ix, .int .i64 ct, .int .i64 cr, .bool sk, s, .int .i64 dn, .int .i64 up, .int .i64 rf, .int .i64 sp, .int .i64 pd], p.v] H
      fun v H' => v = .tuple #[.int .i64 (nthF an p.un p.ev ix).1, .bool (decide ((nthF an p.un p.ev ix).2 = 0))] ∧ H' = H :=
  due_s ⟨st, pl, an, ix, ct, cr, sk, [], dn, up, rf, sp, pd⟩ s hs1 hs2 p hu H
def zeroA : Ac := ⟨0, 0, 0, 0, 0, 0, false, [], 0, 0, 0, 0, 0⟩
def AcRes (H : Mem) (r : Ac × Int) (v : Value) (H' : Mem) : Prop := ∃ s', v = .tuple #[r.1.v s', .int .i64 r.2] ∧ AcOut H r.1 H' s'
theorem AcOut.zero (H r : Mem) : AcOut H zeroA (H ++ r) (.slice none 0 0) := ⟨⟨r, rfl⟩, .inl ⟨rfl, rfl⟩, .inl rfl⟩
noncomputable def dueA (a : Ac) (p : Pl) : Int × Int := nthF a.an p.un p.ev a.ix
noncomputable def dayL (p : Pl) (today : Int) : Nat → Ac → Ac × Int
  | 0, a => (a, 0)
  | n + 1, a =>
    if a.st = 3 then (a, 0)
    else if (dueA a p).2 ≠ 0 ∨ today < (dueA a p).1 then (a, 0)
    else
      let a1 : Ac := { a with ix := IntKind.i64.wrap (a.ix + 1) }
      let r := beginA a1 p (dueA a p).1 (p.la && (decide ((dueA a1 p).2 = 0) && decide ((dueA a1 p).1 ≤ today)))
      if r.2 ≠ 0 then (zeroA, r.2) else dayL p today n r.1
noncomputable def dayN (a : Ac) : Nat := (3652060 - a.ix).toNat
noncomputable def dayA (a : Ac) (p : Pl) (today : Int) : Ac × Int := dayL p today (dayN a) { a with op := a.op.map (fun c => wakeC c today) }
def settleL : List Cy → Ac → Ac × Int
  | [], a => (a, 0)
  | c :: l, a => if (closeA a c).2 ≠ 0 then (zeroA, (closeA a c).2) else settleL l (closeA a c).1
def settleA (a : Ac) : Ac × Int := settleL a.op { a with op := [] }
def hearA (su : Int) (a : Ac) (n : Nt) (today : Int) : Ac × Int :=
  match a.op.findIdx? (fun c => decide (c.no = n.cy)) with
  | none => (zeroA, 10)
  | some i =>
    let r := hearC su (a.op.getD i ⟨0, 0, 0, 0, 0, 0, 0, false⟩) n today (decide (a.st = 3))
    if r.2 ≠ 0 then (zeroA, r.2) else settleA { a with op := a.op.set i r.1 }
def turnA (a : Ac) (f t : Int) : Ac × Int := if a.st ≠ f then (zeroA, 8) else ({ a with st := t }, 0)
def skipA (a : Ac) : Ac × Int := if (a.st ≠ 1 ∧ a.st ≠ 2) ∨ a.sk = true then (zeroA, 8) else ({ a with sk := true }, 0)
def cancelA (a : Ac) : Ac × Int := if a.st ≠ 1 ∧ a.st ≠ 2 then (zeroA, 8) else settleA { a with st := 3, op := a.op.map overC }
def cardA (a : Ac) : Ac × Int := if a.st ≠ 1 ∧ a.st ≠ 2 then (zeroA, 8) else ({ a with op := a.op.map cardC }, 0)
def asksA (su : Int) (a : Ac) : List Nt := a.op.filterMap (fun c => if (asksC su c).2 then some (asksC su c).1 else none)
noncomputable def cntF (a u e day : Int) : Int := Classical.epsilon fun c => Cnt a u e day c
theorem cntF_eq {a u e day c : Int} (h : Cnt a u e day c) : cntF a u e day = c := cnt_one (Classical.epsilon_spec (p := fun c => Cnt a u e day c) ⟨c, h⟩) h
noncomputable def spanF (a u e day : Int) : Int × Int × Int :=
  haveI := Classical.propDecidable (Cntb a u e day)
  if Cntb a u e day then
    if cntF a u e day = 0 then (0, 0, 2)
    else if (nthF a u e (cntF a u e day)).2 = 0 then ((nthF a u e (cntF a u e day - 1)).1, (nthF a u e (cntF a u e day)).1, 0)
    else (0, 0, (nthF a u e (cntF a u e day)).2)
  else (0, 0, 1)
theorem spanF_of {a u e day f t er : Int} (h1 : ¬ Cntb a u e day → f = 0 ∧ t = 0 ∧ er = 1)
    (h2 : Cntb a u e day → ∃ c, Cnt a u e day c ∧ c ≤ 3652059 ∧ (c = 0 → f = 0 ∧ t = 0 ∧ er = 2) ∧ (c ≠ 0 → (er = (nthF a u e c).2 ∧ (er = 0 → f = (nthF a u e (c - 1)).1 ∧ t = (nthF a u e c).1) ∧ (er ≠ 0 → f = 0 ∧ t = 0)))) :
    (f, t, er) = spanF a u e day := by
  unfold spanF
  by_cases h : Cntb a u e day
  · rw [if_pos h]
    obtain ⟨c, k1, k2, k3, k4⟩ := h2 h
    rw [cntF_eq k1]
    by_cases h0 : c = 0
    · rw [if_pos h0]
      obtain ⟨rfl, rfl, rfl⟩ := k3 h0; rfl
    · rw [if_neg h0]
      obtain ⟨q1, q2, q3⟩ := k4 h0
      by_cases he : er = 0
      · rw [if_pos (q1 ▸ he)]
        obtain ⟨e1, e2⟩ := q2 he
        rw [e1, e2, he]
      · rw [if_neg (fun q => he (q1.trans q))]
        obtain ⟨e1, e2⟩ := q3 he
        rw [e1, e2, q1]
  · rw [if_neg h]
    obtain ⟨rfl, rfl, rfl⟩ := h1 h; rfl
def planChg (f t : Pl) (left days : Int) : Int × Int × Int :=
  if (partP f.pr left days).2 ≠ 0 then (0, 0, (partP f.pr left days).2)
  else if (partP t.pr left days).2 ≠ 0 then (0, 0, (partP t.pr left days).2)
  else ((partP f.pr left days).1, (partP t.pr left days).1, 0)
noncomputable def changeA (a : Ac) (f : Pl) (n : Int) (t : Pl) (today : Int) : Ac × Int :=
  if a.st ≠ 1 ∨ n = a.pl then (zeroA, 8)
  else
    let s := spanF a.an f.un f.ev today
    if s.2.2 = 0 ∧ 0 < a.ix then
      let m := planChg f t (IntKind.i64.wrap (s.2.1 - today)) (IntKind.i64.wrap (s.2.1 - s.1))
      if m.2.2 ≠ 0 then (zeroA, m.2.2)
      else
        let c := addP a.cr (IntKind.i64.wrap (m.1 - m.2.1))
        if c.2 ≠ 0 then (zeroA, c.2) else ({ a with cr := c.1, an := s.2.1, pl := n, ix := 0 }, 0)
    else if s.2.2 = 6 then (zeroA, 8)
    else ({ a with pl := n, ix := 0 }, 0)
@[simp] def Ac.l (a : Ac) (s : Value) : List Value := [.int .u8 a.st, .int .i64 a.pl, .int .i64 a.an, .int .i64 a.ix, .int .i64 a.ct, .int .i64 a.cr, .bool a.sk, s, .int .i64 a.dn, .int .i64 a.up, .int .i64 a.rf, .int .i64 a.sp, .int .i64 a.pd]
@[simp] def Pl.l (p : Pl) : List Value := [.int .i64 p.pr, .int .u8 p.un, .int .i64 p.ev, .int .i64 p.tr, .bool p.go, .bool p.la]
@[simp] def Cy.l (c : Cy) : List Value := [.int .i64 c.no, .int .i64 c.due, .int .u8 c.ph, .int .i64 c.am, .int .i64 c.us, .int .i64 c.tr, .int .i64 c.nx, .bool c.gd]
def Keep (H H' : Mem) : Prop := H.length ≤ H'.length ∧ ∀ k, k < H.length → H'[k]? = H[k]?
theorem Keep.ext {H H' : Mem} (h : Keep H H') : ∃ r, H' = H ++ r := by
  refine ⟨H'.drop H.length, ?_⟩
  apply List.ext_getElem?
  intro k
  by_cases hk : k < H.length
  · rw [List.getElem?_append_left hk, h.2 k hk]
  · rw [List.getElem?_append_right (by omega), List.getElem?_drop]
    congr 1; omega
theorem Keep.app (H r : Mem) : Keep H (H ++ r) := ⟨by simp, fun k hk => List.getElem?_append_left hk⟩
theorem Keep.of {H M : Mem} (h : ∃ r, M = H ++ r) : Keep H M := by obtain ⟨r, rfl⟩ := h; exact Keep.app _ _
theorem Keep.refl (H : Mem) : Keep H H := ⟨Nat.le_refl _, fun _ _ => rfl⟩
theorem Keep.trans {H H' H'' : Mem} (h : Keep H H') (h2 : Keep H' H'') : Keep H H'' := ⟨Nat.le_trans h.1 h2.1, fun k hk => (h2.2 k (Nat.lt_of_lt_of_le hk h.1)).trans (h.2 k hk)⟩
theorem Keep.set {H H' : Mem} (h : Keep H H') {k : Nat} (hk : H.length ≤ k) (x : Blk) : Keep H (H'.set k x) :=
  ⟨by simpa using h.1, fun j hj => (List.getElem?_set_ne (by omega)).trans (h.2 j hj)⟩
theorem Keep.fr {H H' H'' : Mem} {s : Value} (h : Keep H H') (hf : Fr H' s H'') (hs : Fresh H.length s) : Keep H H'' :=
  ⟨Nat.le_trans h.1 hf.1, fun k hk => (hf.2 k (Nat.lt_of_lt_of_le hk h.1) (hs.ne hk)).trans (h.2 k hk)⟩
theorem OpenAt.keep {H M : Mem} {s : Value} {l : List Cy} (h : OpenAt H s l) (hk : Keep H M) : OpenAt M s l := by
  rcases h with h | ⟨b, h1, h2⟩
  · exact .inl h
  · exact .inr ⟨b, h1, (hk.2 b (List.getElem?_eq_some_iff.1 h2).1).trans h2⟩
structure AtM (H : Mem) (bs : List (List Value)) (M : Mem) : Prop where
  keep : Keep H M
  own : ∀ i (h : i < bs.length), M[H.length + i]? = some (.cells false bs[i])
theorem AtM.lt {H M : Mem} {bs : List (List Value)} (h : AtM H bs M) {i : Nat} (hi : i < bs.length) : H.length + i < M.length := (List.getElem?_eq_some_iff.1 (h.own i hi)).1
theorem AtM.start (H r : Mem) (bs : List (List Value)) : AtM H bs (H ++ (bs.map (Blk.cells false) ++ r)) :=
  ⟨Keep.app _ _, fun i hi => by rw [List.getElem?_append_right (by omega), Nat.add_sub_cancel_left, List.getElem?_append_left (by simpa using hi)]; simp [hi]⟩
theorem AtM.set {H M : Mem} {bs : List (List Value)} (h : AtM H bs M) {i : Nat} (hi : i < bs.length) (v : List Value) : AtM H (bs.set i v) (M.set (H.length + i) (.cells false v)) := by
  refine ⟨h.keep.set (by omega) _, fun j hj => ?_⟩
  by_cases e : i = j
  · subst e
    rw [List.getElem?_set_self (h.lt hi)]; simp
  · rw [List.getElem?_set_ne (by omega), h.own j (by simpa using hj), List.getElem_set_ne e]
theorem AtM.far {H M : Mem} {bs : List (List Value)} (h : AtM H bs M) {k : Nat} (hk : H.length + bs.length ≤ k) (x : Blk) : AtM H bs (M.set k x) :=
  ⟨h.keep.set (by omega) _, fun j hj => by rw [List.getElem?_set_ne (by omega)]; exact h.own j hj⟩
theorem AtM.on {H M M2 : Mem} {bs : List (List Value)} (h : AtM H bs M) (hk : Keep M M2) : AtM H bs M2 :=
  ⟨h.keep.trans hk, fun j hj => (hk.2 _ (h.lt hj)).trans (h.own j hj)⟩
theorem AtM.fr {H M M2 : Mem} {bs : List (List Value)} {s : Value} (h : AtM H bs M) (hf : Fr M s M2) (hs : Fresh (H.length + bs.length) s) : AtM H bs M2 :=
  ⟨h.keep.fr hf (hs.le (by omega)), fun j hj => (hf.2 _ (h.lt hj) (hs.ne (by omega))).trans (h.own j hj)⟩
theorem AtM.cut {H M : Mem} {bs : List (List Value)} (h : AtM H bs M) (n : Nat) : AtM H (bs.take n) M :=
  ⟨h.keep, fun j hj => by rw [h.own j (by simp at hj; omega)]; simp⟩
theorem AtM.q1 {H M : Mem} {a : List Value} (h : AtM H [a] M) : ∀ z : Blk, (M.set H.length z)[H.length]? = some z := fun z => List.getElem?_set_self (h.lt (i := 0) (by simp))
theorem AtM.q2 {H M : Mem} {a b : List Value} (h : AtM H [a, b] M) : (∀ z : Blk, (M.set (H.length) z)[H.length]? = some z) ∧ (∀ z : Blk, (M.set (H.length) z)[H.length + 1]? = some (.cells false b)) ∧ (∀ z : Blk, (M.set (H.length + 1) z)[H.length]? = some (.cells false a)) ∧ (∀ z : Blk, (M.set (H.length + 1) z)[H.length + 1]? = some z) :=
  ⟨fun z => List.getElem?_set_self (h.lt (i := 0) (by simp)), fun z => (List.getElem?_set_ne (by omega)).trans (h.own 1 (by simp)), fun z => (List.getElem?_set_ne (by omega)).trans (h.own 0 (by simp)), fun z => List.getElem?_set_self (h.lt (i := 1) (by simp))⟩
theorem AtM.q3 {H M : Mem} {a b c : List Value} (h : AtM H [a, b, c] M) : (∀ z : Blk, (M.set (H.length) z)[H.length]? = some z) ∧ (∀ z : Blk, (M.set (H.length) z)[H.length + 1]? = some (.cells false b)) ∧ (∀ z : Blk, (M.set (H.length) z)[H.length + 2]? = some (.cells false c)) ∧ (∀ z : Blk, (M.set (H.length + 1) z)[H.length]? = some (.cells false a)) ∧ (∀ z : Blk, (M.set (H.length + 1) z)[H.length + 1]? = some z) ∧ (∀ z : Blk, (M.set (H.length + 1) z)[H.length + 2]? = some (.cells false c)) ∧ (∀ z : Blk, (M.set (H.length + 2) z)[H.length]? = some (.cells false a)) ∧ (∀ z : Blk, (M.set (H.length + 2) z)[H.length + 1]? = some (.cells false b)) ∧ (∀ z : Blk, (M.set (H.length + 2) z)[H.length + 2]? = some z) :=
  ⟨fun z => List.getElem?_set_self (h.lt (i := 0) (by simp)), fun z => (List.getElem?_set_ne (by omega)).trans (h.own 1 (by simp)), fun z => (List.getElem?_set_ne (by omega)).trans (h.own 2 (by simp)), fun z => (List.getElem?_set_ne (by omega)).trans (h.own 0 (by simp)), fun z => List.getElem?_set_self (h.lt (i := 1) (by simp)), fun z => (List.getElem?_set_ne (by omega)).trans (h.own 2 (by simp)), fun z => (List.getElem?_set_ne (by omega)).trans (h.own 0 (by simp)), fun z => (List.getElem?_set_ne (by omega)).trans (h.own 1 (by simp)), fun z => List.getElem?_set_self (h.lt (i := 2) (by simp))⟩
theorem AtM.q4 {H M : Mem} {a b c d : List Value} (h : AtM H [a, b, c, d] M) : (∀ z : Blk, (M.set (H.length) z)[H.length]? = some z) ∧ (∀ z : Blk, (M.set (H.length) z)[H.length + 1]? = some (.cells false b)) ∧ (∀ z : Blk, (M.set (H.length) z)[H.length + 2]? = some (.cells false c)) ∧ (∀ z : Blk, (M.set (H.length) z)[H.length + 3]? = some (.cells false d)) ∧ (∀ z : Blk, (M.set (H.length + 1) z)[H.length]? = some (.cells false a)) ∧ (∀ z : Blk, (M.set (H.length + 1) z)[H.length + 1]? = some z) ∧ (∀ z : Blk, (M.set (H.length + 1) z)[H.length + 2]? = some (.cells false c)) ∧ (∀ z : Blk, (M.set (H.length + 1) z)[H.length + 3]? = some (.cells false d)) ∧ (∀ z : Blk, (M.set (H.length + 2) z)[H.length]? = some (.cells false a)) ∧ (∀ z : Blk, (M.set (H.length + 2) z)[H.length + 1]? = some (.cells false b)) ∧ (∀ z : Blk, (M.set (H.length + 2) z)[H.length + 2]? = some z) ∧ (∀ z : Blk, (M.set (H.length + 2) z)[H.length + 3]? = some (.cells false d)) ∧ (∀ z : Blk, (M.set (H.length + 3) z)[H.length]? = some (.cells false a)) ∧ (∀ z : Blk, (M.set (H.length + 3) z)[H.length + 1]? = some (.cells false b)) ∧ (∀ z : Blk, (M.set (H.length + 3) z)[H.length + 2]? = some (.cells false c)) ∧ (∀ z : Blk, (M.set (H.length + 3) z)[H.length + 3]? = some z) :=
  ⟨fun z => List.getElem?_set_self (h.lt (i := 0) (by simp)), fun z => (List.getElem?_set_ne (by omega)).trans (h.own 1 (by simp)), fun z => (List.getElem?_set_ne (by omega)).trans (h.own 2 (by simp)), fun z => (List.getElem?_set_ne (by omega)).trans (h.own 3 (by simp)), fun z => (List.getElem?_set_ne (by omega)).trans (h.own 0 (by simp)), fun z => List.getElem?_set_self (h.lt (i := 1) (by simp)), fun z => (List.getElem?_set_ne (by omega)).trans (h.own 2 (by simp)), fun z => (List.getElem?_set_ne (by omega)).trans (h.own 3 (by simp)), fun z => (List.getElem?_set_ne (by omega)).trans (h.own 0 (by simp)), fun z => (List.getElem?_set_ne (by omega)).trans (h.own 1 (by simp)), fun z => List.getElem?_set_self (h.lt (i := 2) (by simp)), fun z => (List.getElem?_set_ne (by omega)).trans (h.own 3 (by simp)), fun z => (List.getElem?_set_ne (by omega)).trans (h.own 0 (by simp)), fun z => (List.getElem?_set_ne (by omega)).trans (h.own 1 (by simp)), fun z => (List.getElem?_set_ne (by omega)).trans (h.own 2 (by simp)), fun z => List.getElem?_set_self (h.lt (i := 3) (by simp))⟩
theorem DK.abs {P : Program} {G : List Nat} {c : Code} {R : Exit → Act → Mem → Prop} {b : Act} {M : Mem} (J : Mem → Prop) (h : J M) (k : ∀ M2, J M2 → DK P G c R b M2) : DK P G c R b M := k M h
theorem OpenAt.blk {H : Mem} {s : Value} {l : List Cy} (h : OpenAt H s l) (hl : 0 < l.length) : ∃ b, s = .slice (some ⟨b, 0, none⟩) l.length 8 ∧ H[b]? = some (.cells false (cysV l)) := by
  rcases h with ⟨_, rfl⟩ | h
  · simp at hl
  · exact h
theorem OpenAt.len {H : Mem} {s : Value} {l : List Cy} (h : OpenAt H s l) : absLen Tryd.prog H 28 s = some (.int .i64 l.length) := by
  unfold absLen
  rcases h with ⟨rfl, rfl⟩ | ⟨b, rfl, _⟩ <;> simp [Tryd.underlying28, goInt]
theorem Fresh.blk {n b k e : Nat} {o : Nat} (h : Fresh n (.slice (some ⟨b, o, none⟩) k e)) : n ≤ b := by
  rcases h with h | ⟨b', k', h, hb⟩
  · cases h
  · cases h; exact hb
def mixL (f : Cy → Cy) (l : List Cy) (i : Nat) : List Cy := (l.map f).take i ++ l.drop i
theorem mixL_len {f : Cy → Cy} {l : List Cy} {i : Nat} (h : i ≤ l.length) : (mixL f l i).length = l.length := by simp [mixL]; omega
theorem mixL_0 (f : Cy → Cy) (l : List Cy) : mixL f l 0 = l := by simp [mixL]
theorem mixL_end (f : Cy → Cy) (l : List Cy) : mixL f l l.length = l.map f := by unfold mixL; rw [List.drop_length, List.append_nil, List.take_of_length_le (by simp)]
theorem mixL_get {f : Cy → Cy} {l : List Cy} {i : Nat} (h : i < l.length) : (mixL f l i)[i]'(by rw [mixL_len (by omega)]; exact h) = l[i] := by
  have e : (mixL f l i)[i]? = some l[i] := by
    unfold mixL
    rw [List.getElem?_append_right (by simp; omega)]
    simp [Nat.min_eq_left (Nat.le_of_lt h)]
  rw [List.getElem?_eq_getElem (by rw [mixL_len (by omega)]; exact h)] at e
  exact Option.some.inj e
theorem mixL_set {f : Cy → Cy} {l : List Cy} {i : Nat} (h : i < l.length) : (mixL f l i).set i (f l[i]) = mixL f l (i + 1) := by
  unfold mixL
  have e : i - (List.take i (List.map f l)).length = 0 := by simp; omega
  rw [List.set_append_right _ _ (by simp; omega), e, List.drop_eq_getElem_cons h, List.take_succ_eq_append_getElem (by simpa using h), List.set_cons_zero]
  simp
theorem mix_cells {f : Cy → Cy} {l : List Cy} {i : Nat} (h : i < l.length) : ((cysV (mixL f l i)).drop (i * 8)).take 8 = l[i].cells := by
  rw [cys_get (by rw [mixL_len (by omega)]; exact h), mixL_get h]
theorem OpenAt.put {M : Mem} {b : Nat} {l : List Cy} {i : Nat} (h : M[b]? = some (.cells false (cysV l))) (hi : i < l.length) (c : Cy) :
    OpenAt (M.set b (.cells false (splice (cysV l) (i * 8) c.cells))) (.slice (some ⟨b, 0, none⟩) l.length 8) (l.set i c) := by
  refine .inr ⟨b, by simp, ?_⟩
  rw [List.getElem?_set_self (List.getElem?_eq_some_iff.1 h).1, cys_set hi]
theorem dayL_3 {p : Pl} {t : Int} {x : Ac} (n : Nat) (h : x.st = 3) : dayL p t n x = (x, 0) := by
  cases n with
  | zero => rfl
  | succ n => simp [dayL, h]
theorem dayL_no {p : Pl} {t : Int} {x : Ac} (n : Nat) (h : (dueA x p).2 ≠ 0 ∨ t < (dueA x p).1) : dayL p t n x = (x, 0) := by
  cases n with
  | zero => rfl
  | succ n =>
    unfold dayL
    split <;> first | rfl | rw [if_pos h]
theorem dayL_go {p : Pl} {t : Int} {x : Ac} {n : Nat} (hn : 0 < n) (h3 : ¬ x.st = 3) (h : (dueA x p).2 = 0) (ht : (dueA x p).1 ≤ t) (m : Bool) (hm : m = (p.la && (decide ((dueA { x with ix := IntKind.i64.wrap (x.ix + 1) } p).2 = 0) && decide ((dueA { x with ix := IntKind.i64.wrap (x.ix + 1) } p).1 ≤ t))))
    {x2 : Ac} {e2 : Int} (hb : beginA { x with ix := IntKind.i64.wrap (x.ix + 1) } p (dueA x p).1 m = (x2, e2)) :
    dayL p t n x = if e2 ≠ 0 then (zeroA, e2) else dayL p t (n - 1) x2 := by
  obtain ⟨n, rfl⟩ : ∃ k, n = k + 1 := ⟨n - 1, by omega⟩
  rw [dayL, if_neg h3, if_neg (by omega)]
  simp only [← hm, hb, Nat.add_sub_cancel]
theorem beginA_ix (a : Ac) (p : Pl) (d : Int) (m : Bool) : (beginA a p d m).1.ix = a.ix := by
  have hc : ∀ (a : Ac) (c : Cy), (closeA a c).1.ix = a.ix := by
    intro a c; unfold closeA; split <;> (try split) <;> (try split) <;> (try split) <;> rfl
  unfold beginA
  split <;> (try split) <;> (try split) <;> simp [hc]
theorem beginA_op (a : Ac) (p : Pl) (d : Int) (m : Bool) : (beginA a p d m).1.op.length ≤ a.op.length + 1 := by
  have hc : ∀ (a : Ac) (c : Cy), (closeA a c).1.op.length ≤ a.op.length + 1 := by
    intro a c; unfold closeA; split <;> (try split) <;> (try split) <;> (try split) <;> simp
  unfold beginA
  split <;> (try split) <;> (try split) <;> first | exact hc _ _ | simp
theorem day_round {p : Pl} {t : Int} {x : Ac} {fl B : Nat} (h3 : ¬ x.st = 3) (h : (nthF x.an p.un p.ev x.ix).2 = 0) (ht : (nthF x.an p.un p.ev x.ix).1 ≤ t) {m : Bool} (hm : m = (p.la && (decide ((dueA { x with ix := IntKind.i64.wrap (x.ix + 1) } p).2 = 0) && decide ((dueA { x with ix := IntKind.i64.wrap (x.ix + 1) } p).1 ≤ t))))
    {x2 : Ac} {e2 : Int} (hb : beginA { x with ix := IntKind.i64.wrap (x.ix + 1) } p (nthF x.an p.un p.ev x.ix).1 m = (x2, e2)) (hfl : fl = dayN x) (hl : x.op.length + fl ≤ B) :
    (e2 ≠ 0 → dayL p t fl x = (zeroA, e2)) ∧ (e2 = 0 → dayL p t (fl - 1) x2 = dayL p t fl x ∧ fl - 1 = dayN x2 ∧ x2.op.length + (fl - 1) ≤ B ∧ fl - 1 < fl) := by
  have hx := (nthF_ok h).1.2.2
  have h0 : 0 < fl := by rw [hfl]; unfold dayN; omega
  have hg := dayL_go h0 h3 h ht m hm hb
  have e1 := beginA_ix { x with ix := IntKind.i64.wrap (x.ix + 1) } p (nthF x.an p.un p.ev x.ix).1 m
  have e3 := beginA_op { x with ix := IntKind.i64.wrap (x.ix + 1) } p (nthF x.an p.un p.ev x.ix).1 m
  rw [hb] at e1 e3
  simp only at e1 e3
  rw [wrap_in _ (by omega) (by omega)] at e1
  refine ⟨fun q => by rw [hg, if_pos q], fun q => ⟨by rw [hg, if_neg (by simp [q])], ?_, by omega, by omega⟩⟩
  unfold dayN at hfl ⊢
  omega
theorem abegin_g (a : Ac) (p : Pl) (day : Int) (missed : Bool) {s : Value} {H : Mem} (hO : OpenAt H s a.op) (hn : a.op.length ≤ 1000000000000) {pv : Value} (hp : pv = p.v) :
    FSem Tryd.prog [0] 80 #[a.v s, pv, .int .i64 day, .bool missed] H fun v H' => ∃ x e s', v = .tuple #[Ac.v x s', .int .i64 e] ∧ beginA a p day missed = (x, e) ∧ Fr H s H' ∧ OpenAt H' s' x.op ∧ (s' = s ∨ Fresh H.length s') := by
  subst hp
  refine FSem.mono (abegin_s a p day missed hO hn) ?_
  rintro v H' ⟨s', rfl, h1, h2, h3⟩
  exact ⟨_, _, s', rfl, rfl, h1, h2, h3⟩
end Go.Den
set_option linter.unusedVariables false
set_option maxRecDepth 100000
namespace Go.Den
open Go Go.Proofs
class Cel (α : Type) where
  f : α → List Value
  k : Nat
  len : ∀ a, (f a).length = k
  one : ∀ a, (f a).all (fun x => x.oneCell') = true
  pos : 0 < k
def rowV {α : Type} [Cel α] : List α → List Value
  | [] => []
  | a :: l => Cel.f a ++ rowV l
variable {α : Type} [Cel α]
@[simp] theorem rowV_nil : rowV ([] : List α) = [] := rfl
theorem rowV_cons (a : α) (l : List α) : rowV (a :: l) = Cel.f a ++ rowV l := rfl
theorem rowV_one (a : α) : rowV [a] = Cel.f a := by simp [rowV]
theorem rowV_len : ∀ l : List α, (rowV l).length = l.length * Cel.k α
  | [] => by simp
  | a :: l => by simp [rowV, Cel.len, rowV_len l, Nat.succ_mul]; omega
theorem rowV_app : ∀ l r : List α, rowV (l ++ r) = rowV l ++ rowV r
  | [], r => rfl
  | a :: l, r => by simp [rowV, rowV_app l r]
theorem rowV_drop : ∀ (i : Nat) (l : List α), (rowV l).drop (i * Cel.k α) = rowV (l.drop i)
  | 0, l => by simp
  | i + 1, [] => by simp
  | i + 1, a :: l => by
    rw [List.drop_succ_cons, ← rowV_drop i l, rowV_cons, show (i + 1) * Cel.k α = (Cel.f a).length + i * Cel.k α by rw [Cel.len, Nat.succ_mul]; omega, List.drop_length_add_append]
theorem rowV_take : ∀ (i : Nat) (l : List α), (rowV l).take (i * Cel.k α) = rowV (l.take i)
  | 0, l => by simp
  | i + 1, [] => by simp
  | i + 1, a :: l => by
    rw [List.take_succ_cons, rowV_cons, rowV_cons, ← rowV_take i l, show (i + 1) * Cel.k α = (Cel.f a).length + i * Cel.k α by rw [Cel.len, Nat.succ_mul]; omega, List.take_length_add_append]
theorem rowV_get {l : List α} {i : Nat} (h : i < l.length) : ((rowV l).drop (i * Cel.k α)).take (Cel.k α) = Cel.f l[i] := by
  rw [rowV_drop, List.drop_eq_getElem_cons h, rowV_cons, ← Cel.len l[i], List.take_left]
theorem rowV_set {l : List α} {i : Nat} (h : i < l.length) (a : α) : splice (rowV l) (i * Cel.k α) (Cel.f a) = rowV (l.set i a) := by
  unfold splice
  rw [rowV_take, Cel.len, show i * Cel.k α + Cel.k α = (i + 1) * Cel.k α by rw [Nat.succ_mul], rowV_drop, List.set_eq_take_append_cons_drop, if_pos h, rowV_app, rowV_cons, List.append_assoc]
theorem rowV_flat : ∀ l : List α, (rowV l).all (fun x => x.oneCell') = true
  | [] => rfl
  | a :: l => by rw [rowV_cons, List.all_append, Cel.one, rowV_flat l]; rfl
def RowAt (H : Mem) (s : Value) (l : List α) : Prop :=
  (s = .slice none 0 0 ∧ l = []) ∨ ∃ b o ro vs, s = .slice (some ⟨b, o, none⟩) l.length (Cel.k α) ∧ H[b]? = some (.cells ro vs) ∧ o + l.length * Cel.k α ≤ vs.length ∧ (vs.drop o).take (l.length * Cel.k α) = rowV l
def Own (H : Mem) (s : Value) : Prop := ∀ b, blkOf s = some b → ∃ vs, H[b]? = some (.cells false vs)
def New (n : Nat) (s : Value) : Prop := ∀ b, blkOf s = some b → n ≤ b
theorem New.le {n m : Nat} {s : Value} (h : New n s) (hm : m ≤ n) : New m s := fun b hb => Nat.le_trans hm (h b hb)
theorem New.ne {n k : Nat} {s : Value} (h : New n s) (hk : k < n) : blkOf s ≠ some k := fun e => by have := h k e; omega
theorem New.nil (n : Nat) (a b : Nat) : New n (.slice none a b) := fun _ h => by cases h
theorem Own.nil (H : Mem) (a b : Nat) : Own H (.slice none a b) := fun _ h => by cases h
theorem RowAt.nil (H : Mem) : RowAt H (.slice none 0 0) ([] : List α) := .inl ⟨rfl, rfl⟩
theorem RowAt.of {H H' : Mem} {s : Value} {l : List α} (h : RowAt H s l) (hk : ∀ b, blkOf s = some b → b < H.length → H'[b]? = H[b]?) : RowAt H' s l := by
  rcases h with h | ⟨b, o, ro, vs, h1, h2, h3⟩
  · exact .inl h
  · exact .inr ⟨b, o, ro, vs, h1, (hk b (by rw [h1]; rfl) (List.getElem?_eq_some_iff.1 h2).1).trans h2, h3⟩
theorem RowAt.keep {H H' : Mem} {s : Value} {l : List α} (h : RowAt H s l) (hk : Keep H H') : RowAt H' s l := h.of fun b _ hb => hk.2 b hb
theorem RowAt.set {H : Mem} {s : Value} {l : List α} (h : RowAt H s l) {k : Nat} (hk : blkOf s ≠ some k) (x : Blk) : RowAt (H.set k x) s l := h.of fun b hb _ => List.getElem?_set_ne (by rintro rfl; exact hk hb)
theorem RowAt.fr {H H' : Mem} {s s2 : Value} {l : List α} (h : RowAt H s l) (hf : Fr H s2 H') (hs : ∀ b, blkOf s = some b → blkOf s2 ≠ some b) : RowAt H' s l := h.of fun b hb hl => hf.2 b hl (hs b hb)
theorem Own.of {H H' : Mem} {s : Value} (h : Own H s) (hk : ∀ b, blkOf s = some b → b < H.length → H'[b]? = H[b]?) : Own H' s := fun b hb => by
  obtain ⟨vs, hv⟩ := h b hb
  exact ⟨vs, (hk b hb (List.getElem?_eq_some_iff.1 hv).1).trans hv⟩
theorem Own.keep {H H' : Mem} {s : Value} (h : Own H s) (hk : Keep H H') : Own H' s := h.of fun b _ hb => hk.2 b hb
theorem Own.set {H : Mem} {s : Value} (h : Own H s) {k : Nat} (hk : blkOf s ≠ some k) (x : Blk) : Own (H.set k x) s := h.of fun b hb _ => List.getElem?_set_ne (by rintro rfl; exact hk hb)
theorem RowAt.cells {H : Mem} {s : Value} {l : List α} (h : RowAt H s l) : s.cells = #[s] ∧ s.oneCell' = true := by
  rcases h with ⟨rfl, _⟩ | ⟨b, o, ro, vs, rfl, _⟩ <;> exact ⟨rfl, rfl⟩
theorem RowAt.same {H : Mem} {s : Value} {l : List α} (h : RowAt H s l) : same1 s s = true ∧ sameV s s = true := by
  rcases h with ⟨rfl, _⟩ | ⟨b, o, ro, vs, rfl, _⟩
  · exact ⟨rfl, rfl⟩
  · constructor
    · rw [same1_sl]; simp
    · rw [sameV_sl]; simp
theorem RowAt.len {P : Program} {H : Mem} {s : Value} {l : List α} (h : RowAt H s l) {T e : Nat} (hu : P.underlying T = some (.slice e)) (K : Mem) : absLen P K T s = some (.int .i64 l.length) := by
  unfold absLen
  rcases h with ⟨rfl, rfl⟩ | ⟨b, o, ro, vs, rfl, _⟩ <;> simp [hu, goInt]
theorem RowAt.blk {H : Mem} {s : Value} {l : List α} (h : RowAt H s l) {i : Nat} (hi : i < l.length) : ∃ b o ro vs, s = .slice (some ⟨b, o, none⟩) l.length (Cel.k α) ∧ H[b]? = some (.cells ro vs) ∧ o + i * Cel.k α + Cel.k α ≤ vs.length ∧ (vs.drop (o + i * Cel.k α)).take (Cel.k α) = Cel.f l[i] := by
  rcases h with ⟨_, rfl⟩ | ⟨b, o, ro, vs, h1, h2, h3, h4⟩
  · simp at hi
  · have hle : i * Cel.k α + Cel.k α ≤ l.length * Cel.k α := by rw [← Nat.succ_mul]; exact Nat.mul_le_mul_right _ hi
    refine ⟨b, o, ro, vs, h1, h2, by omega, ?_⟩
    rw [← rowV_get hi, ← h4, ← List.drop_drop, List.drop_take, List.take_take]
    congr 1; omega
theorem RowAt.all {H : Mem} {b : Nat} {l : List α} {ro : Bool} (h : H[b]? = some (.cells ro (rowV l))) : RowAt H (.slice (some ⟨b, 0, none⟩) l.length (Cel.k α)) l :=
  .inr ⟨b, 0, ro, rowV l, rfl, h, by rw [rowV_len]; omega, by rw [List.drop_zero, ← rowV_len, List.take_length]⟩
theorem RowAt.appB {P : Program} {H : Mem} {s x : Value} {l r : List α} (hs : RowAt H s l) (hw : Own H s) (hx : RowAt H x r) {T e : Nat} {i : TypeInfo} {z : Value} (hu : P.underlying T = some (.slice e)) (hi : P.info? e = some i) (hk : i.size = Cel.k α) (hz : i.zero = some z) (hzc : z.cells.size = Cel.k α) (hn : l.length + r.length ≤ 100000000000000) (hmul : (l.length + r.length) * i.bytes ≤ 140737488355328) :
    ∃ s' H', absAppend P H #[T, T] s x = some (s', H') ∧ RowAt H' s' (l ++ r) ∧ Own H' s' ∧ Fr H s H' ∧ (s' = s ∨ New H.length s') ∧ (r ≠ [] → New H.length s') := by
  have hf : absFirst H i.size x = some (r.length, rowV r) := by
    rcases hx with ⟨rfl, rfl⟩ | ⟨b, o, ro, vs, rfl, h2, h3, h4⟩
    · rfl
    · simp only [absFirst, absCells, h2, hk]; rw [if_pos h3, h4]; rfl
  have hp := Cel.pos (α := α)
  have hmul2 : r.length * i.bytes ≤ 140737488355328 := Nat.le_trans (Nat.mul_le_mul_right _ (by omega)) hmul
  have hc0 : ¬ (notInt (.slice e) = false ∨ z.cells.size ≠ i.size ∨ i.size = 0) := by
    simp [notInt, hzc, hk]; omega
  by_cases hr : r = []
  · subst hr
    refine ⟨s, H, ?_, by rw [List.append_nil]; exact hs, hw, ⟨Nat.le_refl _, fun _ _ _ => rfl⟩, .inl rfl, fun q => absurd rfl q⟩
    rcases hs with ⟨rfl, rfl⟩ | ⟨b, o, ro, vs, rfl, h2⟩
    · unfold absAppend; simp only [List.getElem?_toArray, List.getElem?_cons_zero, List.getElem?_cons_succ, hu, hi, hf, hz]; rw [if_neg hc0]; rfl
    · unfold absAppend; simp only [List.getElem?_toArray, List.getElem?_cons_zero, List.getElem?_cons_succ, hu, hi, hf, hz]; rw [if_neg hc0]
      cases hkk : Cel.k α with
      | zero => omega
      | succ n => rfl
  · have hr0 : ¬ r.length = 0 := fun h => hr (List.length_eq_zero_iff.1 h)
    rcases hs with ⟨rfl, rfl⟩ | ⟨b, o, ro, vs, rfl, h2, h3, h4⟩
    · refine ⟨.slice (some ⟨H.length, 0, none⟩) r.length i.size, H ++ [.cells false (rowV r)], ?_, ?_, ?_, Fr.app _ _ _, .inr ?_, fun _ => ?_⟩
      · unfold absAppend; simp only [List.getElem?_toArray, List.getElem?_cons_zero, List.getElem?_cons_succ, hu, hi, hf, hz]; rw [if_neg hc0]
        rw [if_neg hr0, if_pos ⟨hmul2, by omega⟩]
      · rw [hk]; exact RowAt.all (ro := false) (by simp)
      · rintro b ⟨⟩; exact ⟨rowV r, by simp⟩
      · rintro b ⟨⟩; exact Nat.le_refl _
      · rintro b ⟨⟩; exact Nat.le_refl _
    · obtain ⟨vs', hv⟩ := hw b rfl
      rw [h2] at hv
      cases hv
      have hlt := (List.getElem?_eq_some_iff.1 h2).1
      refine ⟨.slice (some ⟨H.length, 0, none⟩) (l.length + r.length) i.size, H.set b .dead ++ [.cells false (rowV l ++ rowV r)], ?_, ?_, ?_, ?_, .inr ?_, fun _ => ?_⟩
      · unfold absAppend; simp only [List.getElem?_toArray, List.getElem?_cons_zero, List.getElem?_cons_succ, hu, hi, hf, hz]; rw [if_neg hc0]
        cases hkk : Cel.k α with
        | zero => omega
        | succ n =>
          simp only []
          rw [if_neg hr0, if_pos ⟨by rw [hk, hkk], hmul, by omega⟩]
          simp only [h2, absCells, hk]
          rw [if_pos h3]
          simp only [h4, rowV_flat, if_true]
      · rw [hk, ← rowV_app]
        have := RowAt.all (H := H.set b .dead ++ [.cells false (rowV (l ++ r))]) (b := H.length) (l := l ++ r) (ro := false) (by rw [List.getElem?_append_right (by simp)]; simp)
        rw [List.length_append] at this
        exact this
      · rintro c ⟨⟩; exact ⟨rowV l ++ rowV r, by rw [List.getElem?_append_right (by simp)]; simp⟩
      · refine ⟨by simp, fun k hk hb => ?_⟩
        rw [List.getElem?_append_left (by simpa using hk), List.getElem?_set_ne]
        rintro rfl; exact hb rfl
      · rintro c ⟨⟩; exact Nat.le_refl _
      · rintro c ⟨⟩; exact Nat.le_refl _
theorem RowAt.app {P : Program} {H : Mem} {s x : Value} {l r : List α} (hs : RowAt H s l) (hw : Own H s) (hx : RowAt H x r) {T e : Nat} {i : TypeInfo} {z : Value} (hu : P.underlying T = some (.slice e)) (hi : P.info? e = some i) (hk : i.size = Cel.k α) (hz : i.zero = some z) (hzc : z.cells.size = Cel.k α) (hb : i.bytes ≤ 10000) (hn : l.length + r.length ≤ 10000000000) :
    ∃ s' H', absAppend P H #[T, T] s x = some (s', H') ∧ RowAt H' s' (l ++ r) ∧ Own H' s' ∧ Fr H s H' ∧ (s' = s ∨ New H.length s') ∧ (r ≠ [] → New H.length s') :=
  hs.appB hw hx hu hi hk hz hzc (by omega) (Nat.le_trans (Nat.mul_le_mul hn hb) (by decide))
theorem OpenAt.lenK {H : Mem} {s : Value} {l : List Cy} (h : OpenAt H s l) (K : Mem) : absLen Tryd.prog K 28 s = some (.int .i64 l.length) := by
  unfold absLen
  rcases h with ⟨rfl, rfl⟩ | ⟨b, rfl, _⟩ <;> simp [Tryd.underlying28, goInt]
theorem close_g (a : Ac) (c : Cy) {s : Value} {H : Mem} (hO : OpenAt H s a.op) (hn : a.op.length ≤ 1000000000000) :
    FSem Tryd.prog [0] 84 #[a.v s, c.v] H fun v H' => ∃ x e s', v = .tuple #[Ac.v x s', .int .i64 e] ∧ closeA a c = (x, e) ∧ Fr H s H' ∧ OpenAt H' s' x.op ∧ (s' = s ∨ Fresh H.length s') := by
  refine FSem.mono (close_s a c hO hn) ?_
  rintro v H' ⟨s', rfl, h1, h2, h3⟩
  exact ⟨_, _, s', rfl, rfl, h1, h2, h3⟩
theorem closeA_op (a : Ac) (c : Cy) : (closeA a c).1.op.length ≤ a.op.length + 1 := by
  unfold closeA; split <;> (try split) <;> (try split) <;> (try split) <;> simp
theorem settle_round {a x x2 : Ac} {e2 : Int} {i : Nat} (hi : i < a.op.length) (h : settleL (a.op.drop i) x = settleA a) (hc : closeA x a.op[i] = (x2, e2)) :
    (e2 ≠ 0 → settleA a = (zeroA, e2)) ∧ (e2 = 0 → settleL (a.op.drop (i + 1)) x2 = settleA a ∧ x2.op.length ≤ x.op.length + 1) := by
  rw [List.drop_eq_getElem_cons hi, settleL, hc] at h
  have e := closeA_op x a.op[i]
  rw [hc] at e
  refine ⟨fun q => ?_, fun q => ?_⟩
  · rw [if_pos q] at h; exact h.symm
  · rw [if_neg (by simp [q])] at h; exact ⟨h, e⟩
@[simp] def Nt.l (n : Nt) : List Value := [.int .u8 n.kd, .int .i64 n.su, .int .i64 n.cy, .int .i64 n.tr, .int .i64 n.am, .int .u8 n.ve]
instance : Cel Nt := ⟨Nt.l, 6, fun _ => rfl, fun _ => rfl, by decide⟩
instance : Cel Cy := ⟨Cy.l, 8, fun _ => rfl, fun _ => rfl, by decide⟩
instance : Cel Pl := ⟨Pl.l, 6, fun _ => rfl, fun _ => rfl, by decide⟩
structure Wd where n : Int
structure By where n : Int
instance : Cel Wd := ⟨fun x => [.int .i64 x.n], 1, fun _ => rfl, fun _ => rfl, by decide⟩
instance : Cel By := ⟨fun x => [.int .u8 x.n], 1, fun _ => rfl, fun _ => rfl, by decide⟩
theorem rowV_cys : ∀ l : List Cy, rowV l = cysV l
  | [] => rfl
  | c :: l => by rw [rowV_cons, cysV, rowV_cys l]; rfl
theorem OpenAt.row {H : Mem} {s : Value} {l : List Cy} (h : OpenAt H s l) : RowAt H s l := by
  rcases h with h | ⟨b, h1, h2⟩
  · exact .inl h
  · subst h1
    rw [← rowV_cys] at h2
    exact RowAt.all h2
end Go.Den
namespace Go.Den
open Go Go.Proofs
set_option maxRecDepth 100000
set_option maxHeartbeats 1000000
set_option linter.all false
attribute [local simp] evOps evOp absOp absBox absAlloc absLoad absStore absField absIndexAddr absCells absBinOp absBin absInt absShift absUn absPick absNil absExtract absBuild absPlaces Instr.fill absBuiltin absMinMax plainV plainT allA flat cells_agg cells_int cells_bool cells_str cells_ptr cells_sl cells_map one_int one_bool one_str one_ptr one_sl one_map Act.eval Act.put Region.wanted yielded splice absCall TypeDesc.isRow
theorem day_s (a : Ac) (p : Pl) (today : Int) (hu : 0 ≤ p.un) {s : Value} {H : Mem} (hO : OpenAt H s a.op) (hn : a.op.length + dayN a ≤ 1000000000000) : FSem Tryd.prog [0] 56 #[a.v s, p.v, .int .i64 today] H fun v H' => AcRes H (dayA a p today) v H' := by
  refine FSem.ofK Tryd.func56 rfl ?_
  refine DK.from (b' := ⟨#[a.v s, p.v, .int .i64 today, undef, undef, undef, undef, undef, undef, undef, undef, undef, undef, undef, undef, undef, undef, undef, undef, undef, undef, undef, undef, undef, undef, undef, undef, undef, undef, undef, undef, undef, undef, undef, undef, undef, undef, undef, undef, undef, undef, undef, undef, undef, undef, undef, undef, undef, undef, undef, undef, undef, undef, undef, undef, undef, undef, undef, undef, undef, undef, undef, undef, undef, undef, undef, undef, undef, undef, undef, undef, undef, undef, undef, undef, undef, undef, undef, undef, undef, undef, undef], []⟩) (by kernel_rfl) ?_
  have y := trivial
  have A := trivial
  have B := trivial
  have d := trivial
  have e := trivial
  have D := trivial
  have C := trivial
  have O := trivial
  have E := trivial
  have F := trivial
  have K := trivial
  have L := trivial
  have N := trivial
  have g := trivial
  have j := trivial
  have k := trivial
  have m := trivial
  have n := trivial
  have o := trivial
  have r := trivial
  have u := trivial
  have w := trivial
  refine DK.seq ?_
  refine DK.region (is := [0, 1, 2, 3]) (by kernel_rfl) rfl ?_
  refine WK.run [0, 1, 2, 3] (by simp [y, A, B, d, e, D, C, O, E, F, K, L, N, Cy.cells, g, j, k, m, n, o, r, u, w]; constructor <;> rfl) ?_
  refine WK.nil ?_
  refine DK.abs (fun M => AtM H [a.l s, p.l, zeroA.l (.slice none 0 0)] M ∧ OpenAt M s a.op) ⟨AtM.start H [] [_, _, _], hO.app _⟩ ?_
  rintro M0 ⟨hM, hO⟩
  replace y := hM.own 0 (by simp)
  replace A := hM.own 1 (by simp)
  replace B := hM.own 2 (by simp)
  simp only [List.getElem_cons_zero, List.getElem_cons_succ, Nat.add_zero] at y A B
  replace g : ∀ z : Blk, (M0.set (H.length) z)[H.length]? = some z := fun z => List.getElem?_set_self (hM.lt (i := 0) (by simp))
  replace j : ∀ z : Blk, (M0.set (H.length) z)[H.length + 1]? = _ := fun z => (List.getElem?_set_ne (by omega)).trans A
  replace k : ∀ z : Blk, (M0.set (H.length) z)[H.length + 2]? = _ := fun z => (List.getElem?_set_ne (by omega)).trans B
  replace m : ∀ z : Blk, (M0.set (H.length + 1) z)[H.length]? = _ := fun z => (List.getElem?_set_ne (by omega)).trans y
  replace n : ∀ z : Blk, (M0.set (H.length + 1) z)[H.length + 1]? = some z := fun z => List.getElem?_set_self (hM.lt (i := 1) (by simp))
  replace o : ∀ z : Blk, (M0.set (H.length + 1) z)[H.length + 2]? = _ := fun z => (List.getElem?_set_ne (by omega)).trans B
  replace r : ∀ z : Blk, (M0.set (H.length + 2) z)[H.length]? = _ := fun z => (List.getElem?_set_ne (by omega)).trans y
  replace u : ∀ z : Blk, (M0.set (H.length + 2) z)[H.length + 1]? = _ := fun z => (List.getElem?_set_ne (by omega)).trans A
  replace w : ∀ z : Blk, (M0.set (H.length + 2) z)[H.length + 2]? = some z := fun z => List.getElem?_set_self (hM.lt (i := 2) (by simp))
  replace d := hO.cells.1
  replace e := hO.cells.2
  refine DK.seq ?_
  refine DK.region (is := [0, 1, 2]) (by kernel_rfl) rfl ?_
  refine WK.run [0] (by simp [y, A, B, d, e, D, C, O, E, F, K, L, N, Cy.cells, g, j, k, m, n, o, r, u, w]; constructor <;> rfl) ?_
  refine WK.call rfl (by simp [y, A, B, d, e, D, C, O, E, F, K, L, N, Cy.cells, g, j, k, m, n, o, r, u, w]) (by simp [Tryd.func58, Tryd.f58, y, A, B, d, e, D, C, O, E, F, K, L, N, Cy.cells, g, j, k, m, n, o, r, u, w]; constructor <;> rfl) ?_
  refine FSem.mono (copy_s a hO (by omega)) ?_
  rintro _ M1 ⟨s1, rfl, hA, hO, hF⟩
  have hF : Fresh (H.length + 3) s1 := hF.le (hM.lt (i := 2) (by simp))
  replace hM := hM.on (Keep.of hA)
  replace y := hM.own 0 (by simp)
  replace A := hM.own 1 (by simp)
  replace B := hM.own 2 (by simp)
  simp only [List.getElem_cons_zero, List.getElem_cons_succ, Nat.add_zero] at y A B
  replace g : ∀ z : Blk, (M1.set (H.length) z)[H.length]? = some z := fun z => List.getElem?_set_self (hM.lt (i := 0) (by simp))
  replace j : ∀ z : Blk, (M1.set (H.length) z)[H.length + 1]? = _ := fun z => (List.getElem?_set_ne (by omega)).trans A
  replace k : ∀ z : Blk, (M1.set (H.length) z)[H.length + 2]? = _ := fun z => (List.getElem?_set_ne (by omega)).trans B
  replace m : ∀ z : Blk, (M1.set (H.length + 1) z)[H.length]? = _ := fun z => (List.getElem?_set_ne (by omega)).trans y
  replace n : ∀ z : Blk, (M1.set (H.length + 1) z)[H.length + 1]? = some z := fun z => List.getElem?_set_self (hM.lt (i := 1) (by simp))
  replace o : ∀ z : Blk, (M1.set (H.length + 1) z)[H.length + 2]? = _ := fun z => (List.getElem?_set_ne (by omega)).trans B
  replace r : ∀ z : Blk, (M1.set (H.length + 2) z)[H.length]? = _ := fun z => (List.getElem?_set_ne (by omega)).trans y
  replace u : ∀ z : Blk, (M1.set (H.length + 2) z)[H.length + 1]? = _ := fun z => (List.getElem?_set_ne (by omega)).trans A
  replace w : ∀ z : Blk, (M1.set (H.length + 2) z)[H.length + 2]? = some z := fun z => List.getElem?_set_self (hM.lt (i := 2) (by simp))
  replace d := hO.cells.1
  replace e := hO.cells.2
  refine WK.run [2] (by simp [y, A, B, d, e, D, C, O, E, F, K, L, N, Cy.cells, g, j, k, m, n, o, r, u, w]; constructor <;> rfl) ?_
  refine WK.nil ?_
  refine DK.abs (fun M => AtM H [a.l s1, p.l, zeroA.l (.slice none 0 0)] M ∧ OpenAt M s1 a.op) ⟨hM.set (i := 0) (by simp) _, hO.set (hF.ne (by omega)) _⟩ ?_
  rintro M2 ⟨hM, hO⟩
  replace y := hM.own 0 (by simp)
  replace A := hM.own 1 (by simp)
  replace B := hM.own 2 (by simp)
  simp only [List.getElem_cons_zero, List.getElem_cons_succ, Nat.add_zero] at y A B
  replace g : ∀ z : Blk, (M2.set (H.length) z)[H.length]? = some z := fun z => List.getElem?_set_self (hM.lt (i := 0) (by simp))
  replace j : ∀ z : Blk, (M2.set (H.length) z)[H.length + 1]? = _ := fun z => (List.getElem?_set_ne (by omega)).trans A
  replace k : ∀ z : Blk, (M2.set (H.length) z)[H.length + 2]? = _ := fun z => (List.getElem?_set_ne (by omega)).trans B
  replace m : ∀ z : Blk, (M2.set (H.length + 1) z)[H.length]? = _ := fun z => (List.getElem?_set_ne (by omega)).trans y
  replace n : ∀ z : Blk, (M2.set (H.length + 1) z)[H.length + 1]? = some z := fun z => List.getElem?_set_self (hM.lt (i := 1) (by simp))
  replace o : ∀ z : Blk, (M2.set (H.length + 1) z)[H.length + 2]? = _ := fun z => (List.getElem?_set_ne (by omega)).trans B
  replace r : ∀ z : Blk, (M2.set (H.length + 2) z)[H.length]? = _ := fun z => (List.getElem?_set_ne (by omega)).trans y
  replace u : ∀ z : Blk, (M2.set (H.length + 2) z)[H.length + 1]? = _ := fun z => (List.getElem?_set_ne (by omega)).trans A
  replace w : ∀ z : Blk, (M2.set (H.length + 2) z)[H.length + 2]? = some z := fun z => List.getElem?_set_self (hM.lt (i := 2) (by simp))
  replace d := hO.cells.1
  replace e := hO.cells.2
  replace D := hO.len
  refine DK.seq ?_
  refine DK.seq ?_
  refine DK.region (is := [0, 1, 2, 3]) (by kernel_rfl) rfl ?_
  refine WK.run [0, 1, 2, 3] (by simp [y, A, B, d, e, D, C, O, E, F, K, L, N, Cy.cells, g, j, k, m, n, o, r, u, w]; constructor <;> rfl) ?_
  refine WK.nil ?_
  refine DK.block ?_
  refine DK.loopG [8, 19, 20, 21, 22, 23, 24, 25, 26, 27, 28, 29, 30, 31, 32, 33] (fun fl vs H' => ∃ (i : Int) (s : Value) (j8 j20 j21 j22 j23 j24 j25 j26 j27 j28 j29 j30 j31 j32 j33 : Value), vs = [j8, .int .i64 i, j20, j21, j22, j23, j24, j25, j26, j27, j28, j29, j30, j31, j32, j33] ∧ (AtM H [a.l s, p.l, zeroA.l (.slice none 0 0)] H' ∧ OpenAt H' s (mixL (fun c => wakeC c today) a.op i.toNat) ∧ Fresh (H.length + 3) s) ∧ 0 ≤ i ∧ i ≤ a.op.length ∧ fl = (a.op.length - i).toNat) (a.op.length) (by kernel_rfl) ?_ ?_
  · refine ⟨_, s1, _, _, _, _, _, _, _, _, _, _, _, _, _, _, _, rfl, ?_⟩
    exact ⟨⟨hM, by simpa [mixL_0] using hO, hF⟩, by omega, by omega, by omega⟩
  rintro fl _ M ⟨i, s, j8, j20, j21, j22, j23, j24, j25, j26, j27, j28, j29, j30, j31, j32, j33, rfl, hf⟩
  obtain ⟨⟨hM, hO, hF⟩, hi0, hi1, hfl⟩ := hf
  replace y := hM.own 0 (by simp)
  replace A := hM.own 1 (by simp)
  replace B := hM.own 2 (by simp)
  simp only [List.getElem_cons_zero, List.getElem_cons_succ, Nat.add_zero] at y A B
  replace g : ∀ z : Blk, (M.set (H.length) z)[H.length]? = some z := fun z => List.getElem?_set_self (hM.lt (i := 0) (by simp))
  replace j : ∀ z : Blk, (M.set (H.length) z)[H.length + 1]? = _ := fun z => (List.getElem?_set_ne (by omega)).trans A
  replace k : ∀ z : Blk, (M.set (H.length) z)[H.length + 2]? = _ := fun z => (List.getElem?_set_ne (by omega)).trans B
  replace m : ∀ z : Blk, (M.set (H.length + 1) z)[H.length]? = _ := fun z => (List.getElem?_set_ne (by omega)).trans y
  replace n : ∀ z : Blk, (M.set (H.length + 1) z)[H.length + 1]? = some z := fun z => List.getElem?_set_self (hM.lt (i := 1) (by simp))
  replace o : ∀ z : Blk, (M.set (H.length + 1) z)[H.length + 2]? = _ := fun z => (List.getElem?_set_ne (by omega)).trans B
  replace r : ∀ z : Blk, (M.set (H.length + 2) z)[H.length]? = _ := fun z => (List.getElem?_set_ne (by omega)).trans y
  replace u : ∀ z : Blk, (M.set (H.length + 2) z)[H.length + 1]? = _ := fun z => (List.getElem?_set_ne (by omega)).trans A
  replace w : ∀ z : Blk, (M.set (H.length + 2) z)[H.length + 2]? = some z := fun z => List.getElem?_set_self (hM.lt (i := 2) (by simp))
  replace d := hO.cells.1
  replace e := hO.cells.2
  refine DK.from (by simp [setL]; exact rfl) ?_
  refine DK.seq ?_
  refine DK.region (is := [0]) (by kernel_rfl) rfl ?_
  refine WK.run [0] (by simp [y, A, B, d, e, D, C, O, E, F, K, L, N, Cy.cells, g, j, k, m, n, o, r, u, w]; constructor <;> rfl) ?_
  refine WK.nil ?_
  refine DK.seq ?_
  refine DK.test rfl rfl (fun h => ?_) (fun h => ?_)
  · try simp only [h]
    replace h := Tr.out h
    replace F : 0 ≤ i := hi0
    replace E : IntKind.i64.wrap (i + 1) = i + 1 := wrap_in _ (by omega) (by omega)
    replace K : i < a.op.length := h
    have hil : i.toNat < a.op.length := by omega
    replace C := mixL_len (f := fun c => wakeC c today) (Nat.le_of_lt hil)
    clear O; obtain ⟨b, rfl, O⟩ := hO.blk (by omega)
    have hnb : H.length + 3 ≤ b := hF.blk
    replace L := mix_cells (f := fun c => wakeC c today) hil
    replace N : i.toNat * 8 + 8 ≤ a.op.length * 8 := by omega
    refine DK.skip ?_
    refine DK.seq ?_
    refine DK.block ?_
    refine DK.seq ?_
    refine DK.region (is := [0, 1]) (by kernel_rfl) rfl ?_
    refine WK.run [0, 1] (by simp [y, A, B, d, e, D, C, O, E, F, K, L, N, Cy.cells, g, j, k, m, n, o, r, u, w]; constructor <;> rfl) ?_
    refine WK.nil ?_
    refine DK.draw rfl (POk.of (ord := [0, 1, 2, 3, 4, 5, 6, 7, 8, 9, 10, 11]) (by kernel_rfl)) ?_
    refine XK.run [0, 1, 2, 3, 4, 5, 6, 7, 8] (by kernel_rfl) (by simp [y, A, B, d, e, D, C, O, E, F, K, L, N, Cy.cells, g, j, k, m, n, o, r, u, w]; constructor <;> rfl) ?_
    refine XK.call rfl (by simp [y, A, B, d, e, D, C, O, E, F, K, L, N, Cy.cells, g, j, k, m, n, o, r, u, w]) rfl (by simp [Tryd.func78, Tryd.f78, y, A, B, d, e, D, C, O, E, F, K, L, N, Cy.cells, g, j, k, m, n, o, r, u, w]; constructor <;> rfl) ?_
    refine FSem.mono (wake_s ⟨_, _, _, _, _, _, _, _⟩ _ _) ?_
    rintro _ _ ⟨rfl, rfl⟩
    refine And.intro (lag_list (l := [1]) (by kernel_rfl) (lag_cons (lag_one rfl (by simp [y, A, B, d, e, D, C, O, E, F, K, L, N, Cy.cells, g, j, k, m, n, o, r, u, w]; constructor <;> rfl) rfl (by simp [y, A, B, d, e, D, C, O, E, F, K, L, N, Cy.cells, g, j, k, m, n, o, r, u, w]) (by simp [sameL, sameV_agg, sameV_int, sameV_bool, sameV_str, sameV_ptr, sameV_sl, sameV_map, same1_int, same1_bool, same1_str, same1_ptr, same1_sl, same1_map, y, A, B, d, e, D, C, O, E, F, K, L, N, Cy.cells, g, j, k, m, n, o, r, u, w]) rfl) rfl)) ?_
    refine XK.run [10] (by kernel_rfl) (by simp [y, A, B, d, e, D, C, O, E, F, K, L, N, Cy.cells, g, j, k, m, n, o, r, u, w]; constructor <;> rfl) ?_
    refine XK.one rfl (by simp [y, A, B, d, e, D, C, O, E, F, K, L, N, Cy.cells, g, j, k, m, n, o, r, u, w]) rfl (by simp [y, A, B, d, e, D, C, O, E, F, K, L, N, Cy.cells, g, j, k, m, n, o, r, u, w]; constructor <;> rfl) (lag_list (l := []) (by kernel_rfl) rfl) ?_
    refine XK.nil ?_
    refine DK.region (is := [0, 1]) (by kernel_rfl) rfl ?_
    refine WK.run [0, 1] (by simp [y, A, B, d, e, D, C, O, E, F, K, L, N, Cy.cells, g, j, k, m, n, o, r, u, w]; constructor <;> rfl) ?_
    refine WK.nil ?_
    refine ⟨by kernel_rfl, (a.op.length - (i + 1)).toNat, ?_, _, .slice (some ⟨b, 0, none⟩) (mixL (fun c => wakeC c today) a.op i.toNat).length 8, _, _, _, _, _, _, _, _, _, _, _, _, _, _, _, rfl, ?_⟩
    · omega
    · have hpu := OpenAt.put O (i := i.toNat) (by rw [C]; exact hil) (wakeC a.op[i.toNat] today)
      rw [mixL_set (f := fun c => wakeC c today) hil] at hpu
      rw [show (i + 1).toNat = i.toNat + 1 by omega]
      exact ⟨⟨hM.far hnb _, by simpa [splice, Cy.cells, mixL_len (f := fun c => wakeC c today) (Nat.le_of_lt hil)] using hpu, hF⟩, by omega, by omega, rfl⟩
  try simp only [h]
  replace h := Fa.out h
  refine DK.exit ?_
  refine DK.seq ?_
  refine DK.block ?_
  refine DK.loopG [7, 9, 10, 11, 12, 13, 34, 35, 36, 37, 38, 39, 40, 41, 42, 43, 44, 45, 46, 47, 48, 49, 50, 51, 52, 53, 54, 55, 56, 57, 58, 59, 60, 61, 62, 63, 64, 65, 66, 67, 68, 69, 70, 71, 72, 73, 74, 75, 76, 77, 78, 79, 80] (fun fl vs H' => ∃ (x : Ac) (s : Value) (j7 j9 j10 j11 j12 j13 j34 j35 j36 j37 j38 j39 j40 j41 j42 j43 j44 j45 j46 j47 j48 j49 j50 j51 j52 j53 j54 j55 j56 j57 j58 j59 j60 j61 j62 j63 j64 j65 j66 j67 j68 j69 j70 j71 j72 j73 j74 j75 j76 j77 j78 j79 j80 : Value), vs = [j7, j9, j10, j11, j12, j13, j34, j35, j36, j37, j38, j39, j40, j41, j42, j43, j44, j45, j46, j47, j48, j49, j50, j51, j52, j53, j54, j55, j56, j57, j58, j59, j60, j61, j62, j63, j64, j65, j66, j67, j68, j69, j70, j71, j72, j73, j74, j75, j76, j77, j78, j79, j80] ∧ (AtM H [x.l s, p.l, zeroA.l (.slice none 0 0)] H' ∧ OpenAt H' s x.op ∧ Fresh (H.length + 3) s) ∧ dayL p today fl x = dayA a p today ∧ fl = dayN x ∧ x.op.length + fl ≤ 1000000000000) (dayN a) (by kernel_rfl) ?_ ?_
  · refine ⟨{ a with op := a.op.map (fun c => wakeC c today) }, s, _, _, _, _, _, _, _, _, _, _, _, _, _, _, _, _, _, _, _, _, _, _, _, _, _, _, _, _, _, _, _, _, _, _, _, _, _, _, _, _, _, _, _, _, _, _, _, _, _, _, _, _, _, rfl, ?_⟩
    have hi : i = a.op.length := by omega
    subst hi
    exact ⟨⟨hM, by simpa [mixL_end] using hO, hF⟩, rfl, rfl, by simpa using hn⟩
  rintro fl _ M ⟨x, s, j7, j9, j10, j11, j12, j13, j34, j35, j36, j37, j38, j39, j40, j41, j42, j43, j44, j45, j46, j47, j48, j49, j50, j51, j52, j53, j54, j55, j56, j57, j58, j59, j60, j61, j62, j63, j64, j65, j66, j67, j68, j69, j70, j71, j72, j73, j74, j75, j76, j77, j78, j79, j80, rfl, hf⟩
  obtain ⟨⟨hM, hO, hF⟩, hx1, hx2, hx3⟩ := hf
  replace y := hM.own 0 (by simp)
  replace A := hM.own 1 (by simp)
  replace B := hM.own 2 (by simp)
  simp only [List.getElem_cons_zero, List.getElem_cons_succ, Nat.add_zero] at y A B
  replace g : ∀ z : Blk, (M.set (H.length) z)[H.length]? = some z := fun z => List.getElem?_set_self (hM.lt (i := 0) (by simp))
  replace j : ∀ z : Blk, (M.set (H.length) z)[H.length + 1]? = _ := fun z => (List.getElem?_set_ne (by omega)).trans A
  replace k : ∀ z : Blk, (M.set (H.length) z)[H.length + 2]? = _ := fun z => (List.getElem?_set_ne (by omega)).trans B
  replace m : ∀ z : Blk, (M.set (H.length + 1) z)[H.length]? = _ := fun z => (List.getElem?_set_ne (by omega)).trans y
  replace n : ∀ z : Blk, (M.set (H.length + 1) z)[H.length + 1]? = some z := fun z => List.getElem?_set_self (hM.lt (i := 1) (by simp))
  replace o : ∀ z : Blk, (M.set (H.length + 1) z)[H.length + 2]? = _ := fun z => (List.getElem?_set_ne (by omega)).trans B
  replace r : ∀ z : Blk, (M.set (H.length + 2) z)[H.length]? = _ := fun z => (List.getElem?_set_ne (by omega)).trans y
  replace u : ∀ z : Blk, (M.set (H.length + 2) z)[H.length + 1]? = _ := fun z => (List.getElem?_set_ne (by omega)).trans A
  replace w : ∀ z : Blk, (M.set (H.length + 2) z)[H.length + 2]? = some z := fun z => List.getElem?_set_self (hM.lt (i := 2) (by simp))
  replace d := hO.cells.1
  replace e := hO.cells.2
  refine DK.from (by simp [setL]; exact rfl) ?_
  refine DK.seq ?_
  refine DK.seq ?_
  refine DK.region (is := [0, 1, 2]) (by kernel_rfl) rfl ?_
  refine WK.run [0, 1, 2] (by simp [y, A, B, d, e, D, C, O, E, F, K, L, N, Cy.cells, g, j, k, m, n, o, r, u, w]; constructor <;> rfl) ?_
  refine WK.nil ?_
  refine DK.test rfl rfl (fun h => ?_) (fun h => ?_)
  · try simp only [h]
    replace h := Tr.out h
    refine DK.skip ?_
    refine DK.block ?_
    refine DK.seq ?_
    refine DK.region (is := [0, 1, 2, 3, 4, 5, 6, 7]) (by kernel_rfl) rfl ?_
    refine WK.run [0, 1] (by simp [y, A, B, d, e, D, C, O, E, F, K, L, N, Cy.cells, g, j, k, m, n, o, r, u, w]; constructor <;> rfl) ?_
    refine WK.call rfl (by simp [y, A, B, d, e, D, C, O, E, F, K, L, N, Cy.cells, g, j, k, m, n, o, r, u, w]) (by simp [Tryd.func79, Tryd.f79, y, A, B, d, e, D, C, O, E, F, K, L, N, Cy.cells, g, j, k, m, n, o, r, u, w]; constructor <;> rfl) ?_
    refine FSem.mono (due_c _ _ _ _ _ _ _ _ _ _ _ _ _ d e p hu _) ?_
    rintro _ _ ⟨rfl, rfl⟩
    refine WK.run [3, 4, 5, 6, 7] (by simp [y, A, B, d, e, D, C, O, E, F, K, L, N, Cy.cells, g, j, k, m, n, o, r, u, w]; constructor <;> rfl) ?_
    refine WK.nil ?_
    refine DK.seq ?_
    refine DK.seq ?_
    refine DK.region (is := [0, 1, 2, 3, 4, 5, 6]) (by kernel_rfl) rfl ?_
    refine WK.run [0, 1, 2] (by simp [y, A, B, d, e, D, C, O, E, F, K, L, N, Cy.cells, g, j, k, m, n, o, r, u, w]; constructor <;> rfl) ?_
    refine WK.split (t := 45) rfl (fun h => ?_) (fun h => ?_)
    · try simp only [h]
      replace h := Tr.out h
      refine WK.run [3, 4, 5, 6] (by simp [y, A, B, d, e, D, C, O, E, F, K, L, N, Cy.cells, g, j, k, m, n, o, r, u, w]; constructor <;> rfl) ?_
      refine WK.nil ?_
      refine DK.yes rfl rfl ?_
      refine DK.exit ?_
      refine DK.seq ?_
      refine DK.region (is := [0, 1, 2]) (by kernel_rfl) rfl ?_
      refine WK.run [0, 1, 2] (by simp [y, A, B, d, e, D, C, O, E, F, K, L, N, Cy.cells, g, j, k, m, n, o, r, u, w]; constructor <;> rfl) ?_
      refine WK.nil ?_
      refine DK.abs (fun M => AtM H [x.l s, p.l, x.l s] M ∧ OpenAt M s x.op) ⟨hM.set (i := 2) (by simp) _, hO.set (hF.ne (by omega)) _⟩ ?_
      rintro M8 ⟨hM, hO⟩
      replace y := hM.own 0 (by simp)
      replace A := hM.own 1 (by simp)
      replace B := hM.own 2 (by simp)
      simp only [List.getElem_cons_zero, List.getElem_cons_succ, Nat.add_zero] at y A B
      replace g : ∀ z : Blk, (M8.set (H.length) z)[H.length]? = some z := fun z => List.getElem?_set_self (hM.lt (i := 0) (by simp))
      replace j : ∀ z : Blk, (M8.set (H.length) z)[H.length + 1]? = _ := fun z => (List.getElem?_set_ne (by omega)).trans A
      replace k : ∀ z : Blk, (M8.set (H.length) z)[H.length + 2]? = _ := fun z => (List.getElem?_set_ne (by omega)).trans B
      replace m : ∀ z : Blk, (M8.set (H.length + 1) z)[H.length]? = _ := fun z => (List.getElem?_set_ne (by omega)).trans y
      replace n : ∀ z : Blk, (M8.set (H.length + 1) z)[H.length + 1]? = some z := fun z => List.getElem?_set_self (hM.lt (i := 1) (by simp))
      replace o : ∀ z : Blk, (M8.set (H.length + 1) z)[H.length + 2]? = _ := fun z => (List.getElem?_set_ne (by omega)).trans B
      replace r : ∀ z : Blk, (M8.set (H.length + 2) z)[H.length]? = _ := fun z => (List.getElem?_set_ne (by omega)).trans y
      replace u : ∀ z : Blk, (M8.set (H.length + 2) z)[H.length + 1]? = _ := fun z => (List.getElem?_set_ne (by omega)).trans A
      replace w : ∀ z : Blk, (M8.set (H.length + 2) z)[H.length + 2]? = some z := fun z => List.getElem?_set_self (hM.lt (i := 2) (by simp))
      replace d := hO.cells.1
      replace e := hO.cells.2
      have hres : dayA a p today = (x, 0) := by
        rw [← hx1]
        first | exact dayL_3 _ ‹_› | exact dayL_no _ (.inl ‹_›) | exact dayL_no _ (.inr ‹_›)
      refine DK.ret ?_
      refine And.intro (Or.inr rfl) ?_
      refine ⟨_, by simp [absAnswer, absResults, absResult, Tryd.f56, y, A, B, d, e]; rfl, ?_⟩
      exact ⟨_, by rw [hres]; rfl, hM.keep.ext, by rw [hres]; exact hO, hF.le (by omega)⟩
    try simp only [h]
    replace h := Fa.out h
    refine WK.run [3, 4, 5, 6] (by simp [y, A, B, d, e, D, C, O, E, F, K, L, N, Cy.cells, g, j, k, m, n, o, r, u, w]; constructor <;> rfl) ?_
    refine WK.nil ?_
    refine DK.test rfl rfl (fun h => ?_) (fun h => ?_)
    · try simp only [h]
      replace h := Tr.out h
      refine DK.exit ?_
      refine DK.seq ?_
      refine DK.region (is := [0, 1, 2]) (by kernel_rfl) rfl ?_
      refine WK.run [0, 1, 2] (by simp [y, A, B, d, e, D, C, O, E, F, K, L, N, Cy.cells, g, j, k, m, n, o, r, u, w]; constructor <;> rfl) ?_
      refine WK.nil ?_
      refine DK.abs (fun M => AtM H [x.l s, p.l, x.l s] M ∧ OpenAt M s x.op) ⟨hM.set (i := 2) (by simp) _, hO.set (hF.ne (by omega)) _⟩ ?_
      rintro M8 ⟨hM, hO⟩
      replace y := hM.own 0 (by simp)
      replace A := hM.own 1 (by simp)
      replace B := hM.own 2 (by simp)
      simp only [List.getElem_cons_zero, List.getElem_cons_succ, Nat.add_zero] at y A B
      replace g : ∀ z : Blk, (M8.set (H.length) z)[H.length]? = some z := fun z => List.getElem?_set_self (hM.lt (i := 0) (by simp))
      replace j : ∀ z : Blk, (M8.set (H.length) z)[H.length + 1]? = _ := fun z => (List.getElem?_set_ne (by omega)).trans A
      replace k : ∀ z : Blk, (M8.set (H.length) z)[H.length + 2]? = _ := fun z => (List.getElem?_set_ne (by omega)).trans B
      replace m : ∀ z : Blk, (M8.set (H.length + 1) z)[H.length]? = _ := fun z => (List.getElem?_set_ne (by omega)).trans y
      replace n : ∀ z : Blk, (M8.set (H.length + 1) z)[H.length + 1]? = some z := fun z => List.getElem?_set_self (hM.lt (i := 1) (by simp))
      replace o : ∀ z : Blk, (M8.set (H.length + 1) z)[H.length + 2]? = _ := fun z => (List.getElem?_set_ne (by omega)).trans B
      replace r : ∀ z : Blk, (M8.set (H.length + 2) z)[H.length]? = _ := fun z => (List.getElem?_set_ne (by omega)).trans y
      replace u : ∀ z : Blk, (M8.set (H.length + 2) z)[H.length + 1]? = _ := fun z => (List.getElem?_set_ne (by omega)).trans A
      replace w : ∀ z : Blk, (M8.set (H.length + 2) z)[H.length + 2]? = some z := fun z => List.getElem?_set_self (hM.lt (i := 2) (by simp))
      replace d := hO.cells.1
      replace e := hO.cells.2
      have hres : dayA a p today = (x, 0) := by
        rw [← hx1]
        first | exact dayL_3 _ ‹_› | exact dayL_no _ (.inl ‹_›) | exact dayL_no _ (.inr ‹_›)
      refine DK.ret ?_
      refine And.intro (Or.inr rfl) ?_
      refine ⟨_, by simp [absAnswer, absResults, absResult, Tryd.f56, y, A, B, d, e]; rfl, ?_⟩
      exact ⟨_, by rw [hres]; rfl, hM.keep.ext, by rw [hres]; exact hO, hF.le (by omega)⟩
    try simp only [h]
    replace h := Fa.out h
    refine DK.skip ?_
    refine DK.seq ?_
    refine DK.region (is := [0, 1, 2, 3, 4]) (by kernel_rfl) rfl ?_
    refine WK.run [0, 1, 2, 3, 4] (by simp [y, A, B, d, e, D, C, O, E, F, K, L, N, Cy.cells, g, j, k, m, n, o, r, u, w]; constructor <;> rfl) ?_
    refine WK.nil ?_
    refine DK.abs (fun M => AtM H [({ x with ix := IntKind.i64.wrap (x.ix + 1) } : Ac).l s, p.l, zeroA.l (.slice none 0 0)] M ∧ OpenAt M s x.op) ⟨hM.set (i := 0) (by simp) _, hO.set (hF.ne (by omega)) _⟩ ?_
    rintro M4 ⟨hM, hO⟩
    replace y := hM.own 0 (by simp)
    replace A := hM.own 1 (by simp)
    replace B := hM.own 2 (by simp)
    simp only [List.getElem_cons_zero, List.getElem_cons_succ, Nat.add_zero] at y A B
    replace g : ∀ z : Blk, (M4.set (H.length) z)[H.length]? = some z := fun z => List.getElem?_set_self (hM.lt (i := 0) (by simp))
    replace j : ∀ z : Blk, (M4.set (H.length) z)[H.length + 1]? = _ := fun z => (List.getElem?_set_ne (by omega)).trans A
    replace k : ∀ z : Blk, (M4.set (H.length) z)[H.length + 2]? = _ := fun z => (List.getElem?_set_ne (by omega)).trans B
    replace m : ∀ z : Blk, (M4.set (H.length + 1) z)[H.length]? = _ := fun z => (List.getElem?_set_ne (by omega)).trans y
    replace n : ∀ z : Blk, (M4.set (H.length + 1) z)[H.length + 1]? = some z := fun z => List.getElem?_set_self (hM.lt (i := 1) (by simp))
    replace o : ∀ z : Blk, (M4.set (H.length + 1) z)[H.length + 2]? = _ := fun z => (List.getElem?_set_ne (by omega)).trans B
    replace r : ∀ z : Blk, (M4.set (H.length + 2) z)[H.length]? = _ := fun z => (List.getElem?_set_ne (by omega)).trans y
    replace u : ∀ z : Blk, (M4.set (H.length + 2) z)[H.length + 1]? = _ := fun z => (List.getElem?_set_ne (by omega)).trans A
    replace w : ∀ z : Blk, (M4.set (H.length + 2) z)[H.length + 2]? = some z := fun z => List.getElem?_set_self (hM.lt (i := 2) (by simp))
    replace d := hO.cells.1
    replace e := hO.cells.2
    refine DK.seq ?_
    refine DK.region (is := [0, 1, 2, 3, 4, 5, 6, 7]) (by kernel_rfl) rfl ?_
    refine WK.run [0, 1] (by simp [y, A, B, d, e, D, C, O, E, F, K, L, N, Cy.cells, g, j, k, m, n, o, r, u, w]; constructor <;> rfl) ?_
    refine WK.call rfl (by simp [y, A, B, d, e, D, C, O, E, F, K, L, N, Cy.cells, g, j, k, m, n, o, r, u, w]) (by simp [Tryd.func79, Tryd.f79, y, A, B, d, e, D, C, O, E, F, K, L, N, Cy.cells, g, j, k, m, n, o, r, u, w]; constructor <;> rfl) ?_
    refine FSem.mono (due_c _ _ _ _ _ _ _ _ _ _ _ _ _ d e p hu _) ?_
    rintro _ _ ⟨rfl, rfl⟩
    refine WK.run [3, 4, 5, 6, 7] (by simp [y, A, B, d, e, D, C, O, E, F, K, L, N, Cy.cells, g, j, k, m, n, o, r, u, w]; constructor <;> rfl) ?_
    refine WK.nil ?_
    refine DK.seq ?_
    refine DK.region (is := [0]) (by kernel_rfl) rfl ?_
    refine WK.run [0] (by simp [y, A, B, d, e, D, C, O, E, F, K, L, N, Cy.cells, g, j, k, m, n, o, r, u, w]; constructor <;> rfl) ?_
    refine WK.nil ?_
    refine DK.seq ?_
    refine DK.region (is := [0, 1, 2, 3, 4, 5, 6, 7, 8, 9, 10, 11, 12, 13, 14, 15, 16, 17, 18]) (by kernel_rfl) rfl ?_
    refine WK.run [0, 1, 2, 3, 4, 5] (by simp [y, A, B, d, e, D, C, O, E, F, K, L, N, Cy.cells, g, j, k, m, n, o, r, u, w]; constructor <;> rfl) ?_
    refine WK.split (t := 66) rfl (fun h => ?_) (fun h => ?_)
    · try simp only [h]
      replace h := Tr.out h
      refine WK.run [6, 7, 8] (by simp [y, A, B, d, e, D, C, O, E, F, K, L, N, Cy.cells, g, j, k, m, n, o, r, u, w]; constructor <;> rfl) ?_
      refine WK.split (t := 69) rfl (fun h => ?_) (fun h => ?_)
      · try simp only [h]
        replace h := Tr.out h
        refine WK.run [9, 10, 11, 12] (by simp [y, A, B, d, e, D, C, O, E, F, K, L, N, Cy.cells, g, j, k, m, n, o, r, u, w]; constructor <;> rfl) ?_
        refine WK.call rfl (by simp [y, A, B, d, e, D, C, O, E, F, K, L, N, Cy.cells, g, j, k, m, n, o, r, u, w]) (by simp [Tryd.func80, Tryd.f80, y, A, B, d, e, D, C, O, E, F, K, L, N, Cy.cells, g, j, k, m, n, o, r, u, w]; constructor <;> rfl) ?_
        refine FSem.mono (abegin_g { x with ix := IntKind.i64.wrap (x.ix + 1) } p _ _ hO (by simp only; omega) (by simp [*])) ?_
        rintro _ M5 ⟨x2, e2, s2, rfl, hbg, hfr, hO, hs2⟩
        have hF2 : Fresh (H.length + 3) s2 := by
          rcases hs2 with rfl | q
          · exact hF
          · exact q.le (hM.lt (i := 2) (by simp))
        replace hM := hM.fr hfr hF
        replace hF := hF2
        replace y := hM.own 0 (by simp)
        replace A := hM.own 1 (by simp)
        replace B := hM.own 2 (by simp)
        simp only [List.getElem_cons_zero, List.getElem_cons_succ, Nat.add_zero] at y A B
        replace g : ∀ z : Blk, (M5.set (H.length) z)[H.length]? = some z := fun z => List.getElem?_set_self (hM.lt (i := 0) (by simp))
        replace j : ∀ z : Blk, (M5.set (H.length) z)[H.length + 1]? = _ := fun z => (List.getElem?_set_ne (by omega)).trans A
        replace k : ∀ z : Blk, (M5.set (H.length) z)[H.length + 2]? = _ := fun z => (List.getElem?_set_ne (by omega)).trans B
        replace m : ∀ z : Blk, (M5.set (H.length + 1) z)[H.length]? = _ := fun z => (List.getElem?_set_ne (by omega)).trans y
        replace n : ∀ z : Blk, (M5.set (H.length + 1) z)[H.length + 1]? = some z := fun z => List.getElem?_set_self (hM.lt (i := 1) (by simp))
        replace o : ∀ z : Blk, (M5.set (H.length + 1) z)[H.length + 2]? = _ := fun z => (List.getElem?_set_ne (by omega)).trans B
        replace r : ∀ z : Blk, (M5.set (H.length + 2) z)[H.length]? = _ := fun z => (List.getElem?_set_ne (by omega)).trans y
        replace u : ∀ z : Blk, (M5.set (H.length + 2) z)[H.length + 1]? = _ := fun z => (List.getElem?_set_ne (by omega)).trans A
        replace w : ∀ z : Blk, (M5.set (H.length + 2) z)[H.length + 2]? = some z := fun z => List.getElem?_set_self (hM.lt (i := 2) (by simp))
        replace d := hO.cells.1
        replace e := hO.cells.2
        refine WK.run [14, 15, 16, 17, 18] (by simp [y, A, B, d, e, D, C, O, E, F, K, L, N, Cy.cells, g, j, k, m, n, o, r, u, w]; constructor <;> rfl) ?_
        refine WK.nil ?_
        refine DK.abs (fun M => AtM H [x2.l s2, p.l, zeroA.l (.slice none 0 0)] M ∧ OpenAt M s2 x2.op) ⟨hM.set (i := 0) (by simp) _, hO.set (hF.ne (by omega)) _⟩ ?_
        rintro M6 ⟨hM, hO⟩
        replace y := hM.own 0 (by simp)
        replace A := hM.own 1 (by simp)
        replace B := hM.own 2 (by simp)
        simp only [List.getElem_cons_zero, List.getElem_cons_succ, Nat.add_zero] at y A B
        replace g : ∀ z : Blk, (M6.set (H.length) z)[H.length]? = some z := fun z => List.getElem?_set_self (hM.lt (i := 0) (by simp))
        replace j : ∀ z : Blk, (M6.set (H.length) z)[H.length + 1]? = _ := fun z => (List.getElem?_set_ne (by omega)).trans A
        replace k : ∀ z : Blk, (M6.set (H.length) z)[H.length + 2]? = _ := fun z => (List.getElem?_set_ne (by omega)).trans B
        replace m : ∀ z : Blk, (M6.set (H.length + 1) z)[H.length]? = _ := fun z => (List.getElem?_set_ne (by omega)).trans y
        replace n : ∀ z : Blk, (M6.set (H.length + 1) z)[H.length + 1]? = some z := fun z => List.getElem?_set_self (hM.lt (i := 1) (by simp))
        replace o : ∀ z : Blk, (M6.set (H.length + 1) z)[H.length + 2]? = _ := fun z => (List.getElem?_set_ne (by omega)).trans B
        replace r : ∀ z : Blk, (M6.set (H.length + 2) z)[H.length]? = _ := fun z => (List.getElem?_set_ne (by omega)).trans y
        replace u : ∀ z : Blk, (M6.set (H.length + 2) z)[H.length + 1]? = _ := fun z => (List.getElem?_set_ne (by omega)).trans A
        replace w : ∀ z : Blk, (M6.set (H.length + 2) z)[H.length + 2]? = some z := fun z => List.getElem?_set_self (hM.lt (i := 2) (by simp))
        replace d := hO.cells.1
        replace e := hO.cells.2
        have hro := day_round (t := today) ‹_› ‹_› (by omega) (by first | (simp [dueA, *]; done) | (simp [dueA, *]; exact decide_eq_decide.2 Iff.rfl)) hbg hx2 hx3
        refine DK.seq ?_
        refine DK.region (is := [0, 1]) (by kernel_rfl) rfl ?_
        refine WK.run [0, 1] (by simp [y, A, B, d, e, D, C, O, E, F, K, L, N, Cy.cells, g, j, k, m, n, o, r, u, w]; constructor <;> rfl) ?_
        refine WK.nil ?_
        refine DK.test rfl rfl (fun h => ?_) (fun h => ?_)
        · try simp only [h]
          replace h := Tr.out h
          refine DK.seq ?_
          refine DK.region (is := [0, 1, 2, 3]) (by kernel_rfl) rfl ?_
          refine WK.run [0, 1, 2, 3] (by simp [y, A, B, d, e, D, C, O, E, F, K, L, N, Cy.cells, g, j, k, m, n, o, r, u, w]; constructor <;> rfl) ?_
          refine WK.nil ?_
          refine DK.abs (fun M => AtM H [x2.l s2, p.l, zeroA.l (.slice none 0 0)] M ∧ OpenAt M (.slice none 0 0) zeroA.op) ⟨hM.set (i := 2) (by simp) _, .inl ⟨rfl, rfl⟩⟩ ?_
          rintro M7 ⟨hM, hO⟩
          replace y := hM.own 0 (by simp)
          replace A := hM.own 1 (by simp)
          replace B := hM.own 2 (by simp)
          simp only [List.getElem_cons_zero, List.getElem_cons_succ, Nat.add_zero] at y A B
          replace g : ∀ z : Blk, (M7.set (H.length) z)[H.length]? = some z := fun z => List.getElem?_set_self (hM.lt (i := 0) (by simp))
          replace j : ∀ z : Blk, (M7.set (H.length) z)[H.length + 1]? = _ := fun z => (List.getElem?_set_ne (by omega)).trans A
          replace k : ∀ z : Blk, (M7.set (H.length) z)[H.length + 2]? = _ := fun z => (List.getElem?_set_ne (by omega)).trans B
          replace m : ∀ z : Blk, (M7.set (H.length + 1) z)[H.length]? = _ := fun z => (List.getElem?_set_ne (by omega)).trans y
          replace n : ∀ z : Blk, (M7.set (H.length + 1) z)[H.length + 1]? = some z := fun z => List.getElem?_set_self (hM.lt (i := 1) (by simp))
          replace o : ∀ z : Blk, (M7.set (H.length + 1) z)[H.length + 2]? = _ := fun z => (List.getElem?_set_ne (by omega)).trans B
          replace r : ∀ z : Blk, (M7.set (H.length + 2) z)[H.length]? = _ := fun z => (List.getElem?_set_ne (by omega)).trans y
          replace u : ∀ z : Blk, (M7.set (H.length + 2) z)[H.length + 1]? = _ := fun z => (List.getElem?_set_ne (by omega)).trans A
          replace w : ∀ z : Blk, (M7.set (H.length + 2) z)[H.length + 2]? = some z := fun z => List.getElem?_set_self (hM.lt (i := 2) (by simp))
          replace d := hO.cells.1
          replace e := hO.cells.2
          replace hF : Fresh (H.length + 3) (.slice none 0 0) := .inl rfl
          have hres : dayA a p today = (zeroA, e2) := hx1.symm.trans (hro.1 ‹_›)
          refine DK.ret ?_
          refine And.intro (Or.inr rfl) ?_
          refine ⟨_, by simp [absAnswer, absResults, absResult, Tryd.f56, y, A, B, d, e]; rfl, ?_⟩
          exact ⟨_, by rw [hres]; rfl, hM.keep.ext, by rw [hres]; exact hO, hF.le (by omega)⟩
        try simp only [h]
        replace h := Fa.out h
        refine DK.skip ?_
        refine ⟨by kernel_rfl, (fl - 1), ?_, x2, s2, _, _, _, _, _, _, _, _, _, _, _, _, _, _, _, _, _, _, _, _, _, _, _, _, _, _, _, _, _, _, _, _, _, _, _, _, _, _, _, _, _, _, _, _, _, _, _, _, _, _, _, _, _, rfl, ?_⟩
        · exact (hro.2 ‹_›).2.2.2
        · obtain ⟨r1, r2, r3, r4⟩ := hro.2 ‹_›
          exact ⟨⟨hM, hO, hF⟩, r1.trans hx1, r2, r3⟩
      try simp only [h]
      replace h := Fa.out h
      refine WK.run [9, 10, 11, 12] (by simp [y, A, B, d, e, D, C, O, E, F, K, L, N, Cy.cells, g, j, k, m, n, o, r, u, w]; constructor <;> rfl) ?_
      refine WK.call rfl (by simp [y, A, B, d, e, D, C, O, E, F, K, L, N, Cy.cells, g, j, k, m, n, o, r, u, w]) (by simp [Tryd.func80, Tryd.f80, y, A, B, d, e, D, C, O, E, F, K, L, N, Cy.cells, g, j, k, m, n, o, r, u, w]; constructor <;> rfl) ?_
      refine FSem.mono (abegin_g { x with ix := IntKind.i64.wrap (x.ix + 1) } p _ _ hO (by simp only; omega) (by simp [*])) ?_
      rintro _ M5 ⟨x2, e2, s2, rfl, hbg, hfr, hO, hs2⟩
      have hF2 : Fresh (H.length + 3) s2 := by
        rcases hs2 with rfl | q
        · exact hF
        · exact q.le (hM.lt (i := 2) (by simp))
      replace hM := hM.fr hfr hF
      replace hF := hF2
      replace y := hM.own 0 (by simp)
      replace A := hM.own 1 (by simp)
      replace B := hM.own 2 (by simp)
      simp only [List.getElem_cons_zero, List.getElem_cons_succ, Nat.add_zero] at y A B
      replace g : ∀ z : Blk, (M5.set (H.length) z)[H.length]? = some z := fun z => List.getElem?_set_self (hM.lt (i := 0) (by simp))
      replace j : ∀ z : Blk, (M5.set (H.length) z)[H.length + 1]? = _ := fun z => (List.getElem?_set_ne (by omega)).trans A
      replace k : ∀ z : Blk, (M5.set (H.length) z)[H.length + 2]? = _ := fun z => (List.getElem?_set_ne (by omega)).trans B
      replace m : ∀ z : Blk, (M5.set (H.length + 1) z)[H.length]? = _ := fun z => (List.getElem?_set_ne (by omega)).trans y
      replace n : ∀ z : Blk, (M5.set (H.length + 1) z)[H.length + 1]? = some z := fun z => List.getElem?_set_self (hM.lt (i := 1) (by simp))
      replace o : ∀ z : Blk, (M5.set (H.length + 1) z)[H.length + 2]? = _ := fun z => (List.getElem?_set_ne (by omega)).trans B
      replace r : ∀ z : Blk, (M5.set (H.length + 2) z)[H.length]? = _ := fun z => (List.getElem?_set_ne (by omega)).trans y
      replace u : ∀ z : Blk, (M5.set (H.length + 2) z)[H.length + 1]? = _ := fun z => (List.getElem?_set_ne (by omega)).trans A
      replace w : ∀ z : Blk, (M5.set (H.length + 2) z)[H.length + 2]? = some z := fun z => List.getElem?_set_self (hM.lt (i := 2) (by simp))
      replace d := hO.cells.1
      replace e := hO.cells.2
      refine WK.run [14, 15, 16, 17, 18] (by simp [y, A, B, d, e, D, C, O, E, F, K, L, N, Cy.cells, g, j, k, m, n, o, r, u, w]; constructor <;> rfl) ?_
      refine WK.nil ?_
      refine DK.abs (fun M => AtM H [x2.l s2, p.l, zeroA.l (.slice none 0 0)] M ∧ OpenAt M s2 x2.op) ⟨hM.set (i := 0) (by simp) _, hO.set (hF.ne (by omega)) _⟩ ?_
      rintro M6 ⟨hM, hO⟩
      replace y := hM.own 0 (by simp)
      replace A := hM.own 1 (by simp)
      replace B := hM.own 2 (by simp)
      simp only [List.getElem_cons_zero, List.getElem_cons_succ, Nat.add_zero] at y A B
      replace g : ∀ z : Blk, (M6.set (H.length) z)[H.length]? = some z := fun z => List.getElem?_set_self (hM.lt (i := 0) (by simp))
      replace j : ∀ z : Blk, (M6.set (H.length) z)[H.length + 1]? = _ := fun z => (List.getElem?_set_ne (by omega)).trans A
      replace k : ∀ z : Blk, (M6.set (H.length) z)[H.length + 2]? = _ := fun z => (List.getElem?_set_ne (by omega)).trans B
      replace m : ∀ z : Blk, (M6.set (H.length + 1) z)[H.length]? = _ := fun z => (List.getElem?_set_ne (by omega)).trans y
      replace n : ∀ z : Blk, (M6.set (H.length + 1) z)[H.length + 1]? = some z := fun z => List.getElem?_set_self (hM.lt (i := 1) (by simp))
      replace o : ∀ z : Blk, (M6.set (H.length + 1) z)[H.length + 2]? = _ := fun z => (List.getElem?_set_ne (by omega)).trans B
      replace r : ∀ z : Blk, (M6.set (H.length + 2) z)[H.length]? = _ := fun z => (List.getElem?_set_ne (by omega)).trans y
      replace u : ∀ z : Blk, (M6.set (H.length + 2) z)[H.length + 1]? = _ := fun z => (List.getElem?_set_ne (by omega)).trans A
      replace w : ∀ z : Blk, (M6.set (H.length + 2) z)[H.length + 2]? = some z := fun z => List.getElem?_set_self (hM.lt (i := 2) (by simp))
      replace d := hO.cells.1
      replace e := hO.cells.2
      have hro := day_round (t := today) ‹_› ‹_› (by omega) (by first | (simp [dueA, *]; done) | (simp [dueA, *]; exact decide_eq_decide.2 Iff.rfl)) hbg hx2 hx3
      refine DK.seq ?_
      refine DK.region (is := [0, 1]) (by kernel_rfl) rfl ?_
      refine WK.run [0, 1] (by simp [y, A, B, d, e, D, C, O, E, F, K, L, N, Cy.cells, g, j, k, m, n, o, r, u, w]; constructor <;> rfl) ?_
      refine WK.nil ?_
      refine DK.test rfl rfl (fun h => ?_) (fun h => ?_)
      · try simp only [h]
        replace h := Tr.out h
        refine DK.seq ?_
        refine DK.region (is := [0, 1, 2, 3]) (by kernel_rfl) rfl ?_
        refine WK.run [0, 1, 2, 3] (by simp [y, A, B, d, e, D, C, O, E, F, K, L, N, Cy.cells, g, j, k, m, n, o, r, u, w]; constructor <;> rfl) ?_
        refine WK.nil ?_
        refine DK.abs (fun M => AtM H [x2.l s2, p.l, zeroA.l (.slice none 0 0)] M ∧ OpenAt M (.slice none 0 0) zeroA.op) ⟨hM.set (i := 2) (by simp) _, .inl ⟨rfl, rfl⟩⟩ ?_
        rintro M7 ⟨hM, hO⟩
        replace y := hM.own 0 (by simp)
        replace A := hM.own 1 (by simp)
        replace B := hM.own 2 (by simp)
        simp only [List.getElem_cons_zero, List.getElem_cons_succ, Nat.add_zero] at y A B
        replace g : ∀ z : Blk, (M7.set (H.length) z)[H.length]? = some z := fun z => List.getElem?_set_self (hM.lt (i := 0) (by simp))
        replace j : ∀ z : Blk, (M7.set (H.length) z)[H.length + 1]? = _ := fun z => (List.getElem?_set_ne (by omega)).trans A
        replace k : ∀ z : Blk, (M7.set (H.length) z)[H.length + 2]? = _ := fun z => (List.getElem?_set_ne (by omega)).trans B
        replace m : ∀ z : Blk, (M7.set (H.length + 1) z)[H.length]? = _ := fun z => (List.getElem?_set_ne (by omega)).trans y
        replace n : ∀ z : Blk, (M7.set (H.length + 1) z)[H.length + 1]? = some z := fun z => List.getElem?_set_self (hM.lt (i := 1) (by simp))
        replace o : ∀ z : Blk, (M7.set (H.length + 1) z)[H.length + 2]? = _ := fun z => (List.getElem?_set_ne (by omega)).trans B
        replace r : ∀ z : Blk, (M7.set (H.length + 2) z)[H.length]? = _ := fun z => (List.getElem?_set_ne (by omega)).trans y
        replace u : ∀ z : Blk, (M7.set (H.length + 2) z)[H.length + 1]? = _ := fun z => (List.getElem?_set_ne (by omega)).trans A
        replace w : ∀ z : Blk, (M7.set (H.length + 2) z)[H.length + 2]? = some z := fun z => List.getElem?_set_self (hM.lt (i := 2) (by simp))
        replace d := hO.cells.1
        replace e := hO.cells.2
        replace hF : Fresh (H.length + 3) (.slice none 0 0) := .inl rfl
        have hres : dayA a p today = (zeroA, e2) := hx1.symm.trans (hro.1 ‹_›)
        refine DK.ret ?_
        refine And.intro (Or.inr rfl) ?_
        refine ⟨_, by simp [absAnswer, absResults, absResult, Tryd.f56, y, A, B, d, e]; rfl, ?_⟩
        exact ⟨_, by rw [hres]; rfl, hM.keep.ext, by rw [hres]; exact hO, hF.le (by omega)⟩
      try simp only [h]
      replace h := Fa.out h
      refine DK.skip ?_
      refine ⟨by kernel_rfl, (fl - 1), ?_, x2, s2, _, _, _, _, _, _, _, _, _, _, _, _, _, _, _, _, _, _, _, _, _, _, _, _, _, _, _, _, _, _, _, _, _, _, _, _, _, _, _, _, _, _, _, _, _, _, _, _, _, _, _, _, _, rfl, ?_⟩
      · exact (hro.2 ‹_›).2.2.2
      · obtain ⟨r1, r2, r3, r4⟩ := hro.2 ‹_›
        exact ⟨⟨hM, hO, hF⟩, r1.trans hx1, r2, r3⟩
    try simp only [h]
    replace h := Fa.out h
    refine WK.run [6, 7, 8, 9, 10, 11, 12] (by simp [y, A, B, d, e, D, C, O, E, F, K, L, N, Cy.cells, g, j, k, m, n, o, r, u, w]; constructor <;> rfl) ?_
    refine WK.call rfl (by simp [y, A, B, d, e, D, C, O, E, F, K, L, N, Cy.cells, g, j, k, m, n, o, r, u, w]) (by simp [Tryd.func80, Tryd.f80, y, A, B, d, e, D, C, O, E, F, K, L, N, Cy.cells, g, j, k, m, n, o, r, u, w]; constructor <;> rfl) ?_
    refine FSem.mono (abegin_g { x with ix := IntKind.i64.wrap (x.ix + 1) } p _ _ hO (by simp only; omega) (by simp [*])) ?_
    rintro _ M5 ⟨x2, e2, s2, rfl, hbg, hfr, hO, hs2⟩
    have hF2 : Fresh (H.length + 3) s2 := by
      rcases hs2 with rfl | q
      · exact hF
      · exact q.le (hM.lt (i := 2) (by simp))
    replace hM := hM.fr hfr hF
    replace hF := hF2
    replace y := hM.own 0 (by simp)
    replace A := hM.own 1 (by simp)
    replace B := hM.own 2 (by simp)
    simp only [List.getElem_cons_zero, List.getElem_cons_succ, Nat.add_zero] at y A B
    replace g : ∀ z : Blk, (M5.set (H.length) z)[H.length]? = some z := fun z => List.getElem?_set_self (hM.lt (i := 0) (by simp))
    replace j : ∀ z : Blk, (M5.set (H.length) z)[H.length + 1]? = _ := fun z => (List.getElem?_set_ne (by omega)).trans A
    replace k : ∀ z : Blk, (M5.set (H.length) z)[H.length + 2]? = _ := fun z => (List.getElem?_set_ne (by omega)).trans B
    replace m : ∀ z : Blk, (M5.set (H.length + 1) z)[H.length]? = _ := fun z => (List.getElem?_set_ne (by omega)).trans y
    replace n : ∀ z : Blk, (M5.set (H.length + 1) z)[H.length + 1]? = some z := fun z => List.getElem?_set_self (hM.lt (i := 1) (by simp))
    replace o : ∀ z : Blk, (M5.set (H.length + 1) z)[H.length + 2]? = _ := fun z => (List.getElem?_set_ne (by omega)).trans B
    replace r : ∀ z : Blk, (M5.set (H.length + 2) z)[H.length]? = _ := fun z => (List.getElem?_set_ne (by omega)).trans y
    replace u : ∀ z : Blk, (M5.set (H.length + 2) z)[H.length + 1]? = _ := fun z => (List.getElem?_set_ne (by omega)).trans A
    replace w : ∀ z : Blk, (M5.set (H.length + 2) z)[H.length + 2]? = some z := fun z => List.getElem?_set_self (hM.lt (i := 2) (by simp))
    replace d := hO.cells.1
    replace e := hO.cells.2
    refine WK.run [14, 15, 16, 17, 18] (by simp [y, A, B, d, e, D, C, O, E, F, K, L, N, Cy.cells, g, j, k, m, n, o, r, u, w]; constructor <;> rfl) ?_
    refine WK.nil ?_
    refine DK.abs (fun M => AtM H [x2.l s2, p.l, zeroA.l (.slice none 0 0)] M ∧ OpenAt M s2 x2.op) ⟨hM.set (i := 0) (by simp) _, hO.set (hF.ne (by omega)) _⟩ ?_
    rintro M6 ⟨hM, hO⟩
    replace y := hM.own 0 (by simp)
    replace A := hM.own 1 (by simp)
    replace B := hM.own 2 (by simp)
    simp only [List.getElem_cons_zero, List.getElem_cons_succ, Nat.add_zero] at y A B
    replace g : ∀ z : Blk, (M6.set (H.length) z)[H.length]? = some z := fun z => List.getElem?_set_self (hM.lt (i := 0) (by simp))
    replace j : ∀ z : Blk, (M6.set (H.length) z)[H.length + 1]? = _ := fun z => (List.getElem?_set_ne (by omega)).trans A
    replace k : ∀ z : Blk, (M6.set (H.length) z)[H.length + 2]? = _ := fun z => (List.getElem?_set_ne (by omega)).trans B
    replace m : ∀ z : Blk, (M6.set (H.length + 1) z)[H.length]? = _ := fun z => (List.getElem?_set_ne (by omega)).trans y
    replace n : ∀ z : Blk, (M6.set (H.length + 1) z)[H.length + 1]? = some z := fun z => List.getElem?_set_self (hM.lt (i := 1) (by simp))
    replace o : ∀ z : Blk, (M6.set (H.length + 1) z)[H.length + 2]? = _ := fun z => (List.getElem?_set_ne (by omega)).trans B
    replace r : ∀ z : Blk, (M6.set (H.length + 2) z)[H.length]? = _ := fun z => (List.getElem?_set_ne (by omega)).trans y
    replace u : ∀ z : Blk, (M6.set (H.length + 2) z)[H.length + 1]? = _ := fun z => (List.getElem?_set_ne (by omega)).trans A
    replace w : ∀ z : Blk, (M6.set (H.length + 2) z)[H.length + 2]? = some z := fun z => List.getElem?_set_self (hM.lt (i := 2) (by simp))
    replace d := hO.cells.1
    replace e := hO.cells.2
    have hro := day_round (t := today) ‹_› ‹_› (by omega) (by first | (simp [dueA, *]; done) | (simp [dueA, *]; exact decide_eq_decide.2 Iff.rfl)) hbg hx2 hx3
    refine DK.seq ?_
    refine DK.region (is := [0, 1]) (by kernel_rfl) rfl ?_
    refine WK.run [0, 1] (by simp [y, A, B, d, e, D, C, O, E, F, K, L, N, Cy.cells, g, j, k, m, n, o, r, u, w]; constructor <;> rfl) ?_
    refine WK.nil ?_
    refine DK.test rfl rfl (fun h => ?_) (fun h => ?_)
    · try simp only [h]
      replace h := Tr.out h
      refine DK.seq ?_
      refine DK.region (is := [0, 1, 2, 3]) (by kernel_rfl) rfl ?_
      refine WK.run [0, 1, 2, 3] (by simp [y, A, B, d, e, D, C, O, E, F, K, L, N, Cy.cells, g, j, k, m, n, o, r, u, w]; constructor <;> rfl) ?_
      refine WK.nil ?_
      refine DK.abs (fun M => AtM H [x2.l s2, p.l, zeroA.l (.slice none 0 0)] M ∧ OpenAt M (.slice none 0 0) zeroA.op) ⟨hM.set (i := 2) (by simp) _, .inl ⟨rfl, rfl⟩⟩ ?_
      rintro M7 ⟨hM, hO⟩
      replace y := hM.own 0 (by simp)
      replace A := hM.own 1 (by simp)
      replace B := hM.own 2 (by simp)
      simp only [List.getElem_cons_zero, List.getElem_cons_succ, Nat.add_zero] at y A B
      replace g : ∀ z : Blk, (M7.set (H.length) z)[H.length]? = some z := fun z => List.getElem?_set_self (hM.lt (i := 0) (by simp))
      replace j : ∀ z : Blk, (M7.set (H.length) z)[H.length + 1]? = _ := fun z => (List.getElem?_set_ne (by omega)).trans A
      replace k : ∀ z : Blk, (M7.set (H.length) z)[H.length + 2]? = _ := fun z => (List.getElem?_set_ne (by omega)).trans B
      replace m : ∀ z : Blk, (M7.set (H.length + 1) z)[H.length]? = _ := fun z => (List.getElem?_set_ne (by omega)).trans y
      replace n : ∀ z : Blk, (M7.set (H.length + 1) z)[H.length + 1]? = some z := fun z => List.getElem?_set_self (hM.lt (i := 1) (by simp))
      replace o : ∀ z : Blk, (M7.set (H.length + 1) z)[H.length + 2]? = _ := fun z => (List.getElem?_set_ne (by omega)).trans B
      replace r : ∀ z : Blk, (M7.set (H.length + 2) z)[H.length]? = _ := fun z => (List.getElem?_set_ne (by omega)).trans y
      replace u : ∀ z : Blk, (M7.set (H.length + 2) z)[H.length + 1]? = _ := fun z => (List.getElem?_set_ne (by omega)).trans A
      replace w : ∀ z : Blk, (M7.set (H.length + 2) z)[H.length + 2]? = some z := fun z => List.getElem?_set_self (hM.lt (i := 2) (by simp))
      replace d := hO.cells.1
      replace e := hO.cells.2
      replace hF : Fresh (H.length + 3) (.slice none 0 0) := .inl rfl
      have hres : dayA a p today = (zeroA, e2) := hx1.symm.trans (hro.1 ‹_›)
      refine DK.ret ?_
      refine And.intro (Or.inr rfl) ?_
      refine ⟨_, by simp [absAnswer, absResults, absResult, Tryd.f56, y, A, B, d, e]; rfl, ?_⟩
      exact ⟨_, by rw [hres]; rfl, hM.keep.ext, by rw [hres]; exact hO, hF.le (by omega)⟩
    try simp only [h]
    replace h := Fa.out h
    refine DK.skip ?_
    refine ⟨by kernel_rfl, (fl - 1), ?_, x2, s2, _, _, _, _, _, _, _, _, _, _, _, _, _, _, _, _, _, _, _, _, _, _, _, _, _, _, _, _, _, _, _, _, _, _, _, _, _, _, _, _, _, _, _, _, _, _, _, _, _, _, _, _, _, rfl, ?_⟩
    · exact (hro.2 ‹_›).2.2.2
    · obtain ⟨r1, r2, r3, r4⟩ := hro.2 ‹_›
      exact ⟨⟨hM, hO, hF⟩, r1.trans hx1, r2, r3⟩
  try simp only [h]
  replace h := Fa.out h
  refine DK.exit ?_
  refine DK.seq ?_
  refine DK.region (is := [0, 1, 2]) (by kernel_rfl) rfl ?_
  refine WK.run [0, 1, 2] (by simp [y, A, B, d, e, D, C, O, E, F, K, L, N, Cy.cells, g, j, k, m, n, o, r, u, w]; constructor <;> rfl) ?_
  refine WK.nil ?_
  refine DK.abs (fun M => AtM H [x.l s, p.l, x.l s] M ∧ OpenAt M s x.op) ⟨hM.set (i := 2) (by simp) _, hO.set (hF.ne (by omega)) _⟩ ?_
  rintro M8 ⟨hM, hO⟩
  replace y := hM.own 0 (by simp)
  replace A := hM.own 1 (by simp)
  replace B := hM.own 2 (by simp)
  simp only [List.getElem_cons_zero, List.getElem_cons_succ, Nat.add_zero] at y A B
  replace g : ∀ z : Blk, (M8.set (H.length) z)[H.length]? = some z := fun z => List.getElem?_set_self (hM.lt (i := 0) (by simp))
  replace j : ∀ z : Blk, (M8.set (H.length) z)[H.length + 1]? = _ := fun z => (List.getElem?_set_ne (by omega)).trans A
  replace k : ∀ z : Blk, (M8.set (H.length) z)[H.length + 2]? = _ := fun z => (List.getElem?_set_ne (by omega)).trans B
  replace m : ∀ z : Blk, (M8.set (H.length + 1) z)[H.length]? = _ := fun z => (List.getElem?_set_ne (by omega)).trans y
  replace n : ∀ z : Blk, (M8.set (H.length + 1) z)[H.length + 1]? = some z := fun z => List.getElem?_set_self (hM.lt (i := 1) (by simp))
  replace o : ∀ z : Blk, (M8.set (H.length + 1) z)[H.length + 2]? = _ := fun z => (List.getElem?_set_ne (by omega)).trans B
  replace r : ∀ z : Blk, (M8.set (H.length + 2) z)[H.length]? = _ := fun z => (List.getElem?_set_ne (by omega)).trans y
  replace u : ∀ z : Blk, (M8.set (H.length + 2) z)[H.length + 1]? = _ := fun z => (List.getElem?_set_ne (by omega)).trans A
  replace w : ∀ z : Blk, (M8.set (H.length + 2) z)[H.length + 2]? = some z := fun z => List.getElem?_set_self (hM.lt (i := 2) (by simp))
  replace d := hO.cells.1
  replace e := hO.cells.2
  have hres : dayA a p today = (x, 0) := by
    rw [← hx1]
    first | exact dayL_3 _ ‹_› | exact dayL_no _ (.inl ‹_›) | exact dayL_no _ (.inr ‹_›)
  refine DK.ret ?_
  refine And.intro (Or.inr rfl) ?_
  refine ⟨_, by simp [absAnswer, absResults, absResult, Tryd.f56, y, A, B, d, e]; rfl, ?_⟩
  exact ⟨_, by rw [hres]; rfl, hM.keep.ext, by rw [hres]; exact hO, hF.le (by omega)⟩
end Go.Den
namespace Go.Den
open Go Go.Proofs
set_option maxRecDepth 100000
set_option maxHeartbeats 1000000
set_option linter.all false
attribute [local simp] evOps evOp absOp absBox absAlloc absLoad absStore absField absIndexAddr absCells absBinOp absBin absInt absShift absUn absPick absNil absExtract absBuild absPlaces Instr.fill absBuiltin absMinMax plainV plainT allA flat cells_agg cells_int cells_bool cells_str cells_ptr cells_sl cells_map one_int one_bool one_str one_ptr one_sl one_map Act.eval Act.put Region.wanted yielded splice absCall TypeDesc.isRow
theorem turn_s (a : Ac) (f t : Int) {s : Value} {H : Mem} (hO : OpenAt H s a.op) (hn : a.op.length ≤ 1000000000000) : FSem Tryd.prog [0] 85 #[a.v s, .int .u8 f, .int .u8 t] H fun v H' => AcRes H (turnA a f t) v H' := by
  refine FSem.ofK Tryd.func85 rfl ?_
  refine DK.from (b' := ⟨#[a.v s, .int .u8 f, .int .u8 t, undef, undef, undef, undef, undef, undef, undef, undef, undef, undef, undef, undef, undef, undef, undef], []⟩) (by kernel_rfl) ?_
  have d := trivial
  have e := trivial
  have g := trivial
  have b := trivial
  have c := trivial
  have j := trivial
  refine DK.seq ?_
  refine DK.region (is := [0, 1, 2]) (by kernel_rfl) rfl ?_
  refine WK.run [0, 1, 2] (by simp [d, e, g, b, c]; constructor <;> rfl) ?_
  refine WK.nil ?_
  refine DK.abs (fun M0 => AtM H [a.l s, zeroA.l (.slice none 0 0)] M0 ∧ OpenAt M0 s a.op) ⟨AtM.start H [] [_, _], hO.app _⟩ ?_
  try clear hM
  try clear hO
  rintro M0 ⟨hM, hO⟩
  replace d := hM.own 0 (by simp)
  replace e := hM.own 1 (by simp)
  simp only [List.getElem_cons_zero, List.getElem_cons_succ, Nat.add_zero] at d e
  replace g := hM.q2
  replace b := hO.cells.1
  replace c := hO.cells.2
  refine DK.seq ?_
  refine DK.seq ?_
  refine DK.region (is := [0, 1, 2, 3]) (by kernel_rfl) rfl ?_
  refine WK.run [0, 1, 2, 3] (by simp [d, e, g, b, c]; constructor <;> rfl) ?_
  refine WK.nil ?_
  refine DK.test rfl rfl (fun h => ?_) (fun h => ?_)
  · try simp only [h]
    replace h := Tr.out h
    refine DK.seq ?_
    refine DK.region (is := [0, 1, 2]) (by kernel_rfl) rfl ?_
    refine WK.run [0, 1, 2] (by simp [d, e, g, b, c]; constructor <;> rfl) ?_
    refine WK.nil ?_
    refine DK.abs (fun MZ => AtM H [a.l s, zeroA.l (.slice none 0 0)] MZ ∧ OpenAt MZ (.slice none 0 0) zeroA.op) ⟨hM.set (i := 1) (by simp) _, .inl ⟨rfl, rfl⟩⟩ ?_
    try clear hM
    try clear hO
    rintro MZ ⟨hM, hO⟩
    replace d := hM.own 0 (by simp)
    replace e := hM.own 1 (by simp)
    simp only [List.getElem_cons_zero, List.getElem_cons_succ, Nat.add_zero] at d e
    replace g := hM.q2
    replace b := hO.cells.1
    replace c := hO.cells.2
    replace j : Fresh (H.length + 2) (.slice none 0 0) := .inl rfl
    have hres : turnA a f t = (zeroA, 8) := if_pos h
    refine DK.ret ?_
    refine And.intro (Or.inr rfl) ?_
    refine ⟨_, by simp [absAnswer, absResults, absResult, Tryd.f85, d, e, g, b, c]; rfl, ?_⟩
    exact ⟨_, by rw [hres]; rfl, hM.keep.ext, by rw [hres]; exact hO, j.le (by omega)⟩
  try simp only [h]
  replace h := Fa.out h
  refine DK.skip ?_
  refine DK.seq ?_
  refine DK.region (is := [0, 1, 2]) (by kernel_rfl) rfl ?_
  refine WK.run [0] (by simp [d, e, g, b, c]; constructor <;> rfl) ?_
  refine WK.call rfl (by simp [d, e, g, b, c]) (by simp [Tryd.func58, Tryd.f58, d, e, g, b, c]; constructor <;> rfl) ?_
  refine FSem.mono (copy_s a hO (by omega)) ?_
  rintro _ M1 ⟨s1, rfl, hA, hO, j⟩
  replace j : Fresh (H.length + 2) s1 := j.le (hM.lt (i := 1) (by simp))
  replace hM := hM.on (Keep.of hA)
  replace d := hM.own 0 (by simp)
  replace e := hM.own 1 (by simp)
  simp only [List.getElem_cons_zero, List.getElem_cons_succ, Nat.add_zero] at d e
  replace g := hM.q2
  replace b := hO.cells.1
  replace c := hO.cells.2
  refine WK.run [2] (by simp [d, e, g, b, c]; constructor <;> rfl) ?_
  refine WK.nil ?_
  refine DK.abs (fun M2 => AtM H [a.l s1, zeroA.l (.slice none 0 0)] M2 ∧ OpenAt M2 s1 a.op) ⟨hM.set (i := 0) (by simp) _, hO.set (j.ne (by omega)) _⟩ ?_
  try clear hM
  try clear hO
  rintro M2 ⟨hM, hO⟩
  replace d := hM.own 0 (by simp)
  replace e := hM.own 1 (by simp)
  simp only [List.getElem_cons_zero, List.getElem_cons_succ, Nat.add_zero] at d e
  replace g := hM.q2
  replace b := hO.cells.1
  replace c := hO.cells.2
  refine DK.seq ?_
  refine DK.region (is := [0, 1, 2]) (by kernel_rfl) rfl ?_
  refine WK.run [0, 1, 2] (by simp [d, e, g, b, c]; constructor <;> rfl) ?_
  refine WK.nil ?_
  refine DK.abs (fun M3 => AtM H [({ a with st := t } : Ac).l s1, zeroA.l (.slice none 0 0)] M3 ∧ OpenAt M3 s1 a.op) ⟨hM.set (i := 0) (by simp) _, hO.set (j.ne (by omega)) _⟩ ?_
  try clear hM
  try clear hO
  rintro M3 ⟨hM, hO⟩
  replace d := hM.own 0 (by simp)
  replace e := hM.own 1 (by simp)
  simp only [List.getElem_cons_zero, List.getElem_cons_succ, Nat.add_zero] at d e
  replace g := hM.q2
  replace b := hO.cells.1
  replace c := hO.cells.2
  refine DK.seq ?_
  refine DK.region (is := [0, 1, 2]) (by kernel_rfl) rfl ?_
  refine WK.run [0, 1, 2] (by simp [d, e, g, b, c]; constructor <;> rfl) ?_
  refine WK.nil ?_
  refine DK.abs (fun M4 => AtM H [({ a with st := t } : Ac).l s1, ({ a with st := t } : Ac).l s1] M4 ∧ OpenAt M4 s1 a.op) ⟨hM.set (i := 1) (by simp) _, hO.set (j.ne (by omega)) _⟩ ?_
  try clear hM
  try clear hO
  rintro M4 ⟨hM, hO⟩
  replace d := hM.own 0 (by simp)
  replace e := hM.own 1 (by simp)
  simp only [List.getElem_cons_zero, List.getElem_cons_succ, Nat.add_zero] at d e
  replace g := hM.q2
  replace b := hO.cells.1
  replace c := hO.cells.2
  have hres : turnA a f t = ({ a with st := t }, 0) := if_neg (by simpa using h)
  refine DK.ret ?_
  refine And.intro (Or.inr rfl) ?_
  refine ⟨_, by simp [absAnswer, absResults, absResult, Tryd.f85, d, e, g, b, c]; rfl, ?_⟩
  exact ⟨_, by rw [hres]; rfl, hM.keep.ext, by rw [hres]; exact hO, j.le (by omega)⟩
theorem pause_s (a : Ac) {s : Value} {H : Mem} (hO : OpenAt H s a.op) (hn : a.op.length ≤ 1000000000000) : FSem Tryd.prog [0] 61 #[a.v s] H fun v H' => AcRes H (turnA a 1 2) v H' := by
  refine FSem.ofK Tryd.func61 rfl ?_
  refine DK.from (b' := ⟨#[a.v s, undef, undef, undef, undef, undef, undef, undef], []⟩) (by kernel_rfl) ?_
  have d := trivial
  have e := trivial
  have f := trivial
  have b := trivial
  have c := trivial
  have g := trivial
  refine DK.seq ?_
  refine DK.region (is := [0, 1, 2]) (by kernel_rfl) rfl ?_
  refine WK.run [0, 1, 2] (by simp [d, e, f, b, c]; constructor <;> rfl) ?_
  refine WK.nil ?_
  refine DK.abs (fun M0 => AtM H [a.l s, zeroA.l (.slice none 0 0)] M0 ∧ OpenAt M0 s a.op) ⟨AtM.start H [] [_, _], hO.app _⟩ ?_
  try clear hM
  try clear hO
  rintro M0 ⟨hM, hO⟩
  replace d := hM.own 0 (by simp)
  replace e := hM.own 1 (by simp)
  simp only [List.getElem_cons_zero, List.getElem_cons_succ, Nat.add_zero] at d e
  replace f := hM.q2
  replace b := hO.cells.1
  replace c := hO.cells.2
  refine DK.seq ?_
  refine DK.region (is := [0, 1, 2, 3, 4, 5]) (by kernel_rfl) rfl ?_
  refine WK.run [0] (by simp [d, e, f, b, c]; constructor <;> rfl) ?_
  refine WK.call rfl (by simp [d, e, f, b, c]) (by simp [Tryd.func85, Tryd.f85, d, e, f, b, c]; constructor <;> rfl) ?_
  refine FSem.mono (turn_s a _ _ hO hn) ?_
  rintro _ R ⟨s2, rfl, hA, hO, g⟩
  replace g : Fresh (H.length + 2) s2 := g.le (hM.lt (i := 1) (by simp))
  replace hM := hM.on (Keep.of hA)
  replace d := hM.own 0 (by simp)
  replace e := hM.own 1 (by simp)
  simp only [List.getElem_cons_zero, List.getElem_cons_succ, Nat.add_zero] at d e
  replace f := hM.q2
  replace b := hO.cells.1
  replace c := hO.cells.2
  refine WK.run [2, 3, 4, 5] (by simp [d, e, f, b, c]; constructor <;> rfl) ?_
  refine WK.nil ?_
  refine DK.abs (fun M1 => AtM H [a.l s, (turnA a 1 2).1.l s2] M1 ∧ OpenAt M1 s2 (turnA a 1 2).1.op) ⟨hM.set (i := 1) (by simp) _, hO.set (g.ne (by omega)) _⟩ ?_
  try clear hM
  try clear hO
  rintro M1 ⟨hM, hO⟩
  replace d := hM.own 0 (by simp)
  replace e := hM.own 1 (by simp)
  simp only [List.getElem_cons_zero, List.getElem_cons_succ, Nat.add_zero] at d e
  replace f := hM.q2
  replace b := hO.cells.1
  replace c := hO.cells.2
  have hres : (turnA a 1 2) = ((turnA a 1 2).1, (turnA a 1 2).2) := rfl
  refine DK.ret ?_
  refine And.intro (Or.inr rfl) ?_
  refine ⟨_, by simp [absAnswer, absResults, absResult, Tryd.f61, d, e, f, b, c]; rfl, ?_⟩
  exact ⟨_, by rw [hres]; rfl, hM.keep.ext, by rw [hres]; exact hO, g.le (by omega)⟩
theorem resume_s (a : Ac) {s : Value} {H : Mem} (hO : OpenAt H s a.op) (hn : a.op.length ≤ 1000000000000) : FSem Tryd.prog [0] 62 #[a.v s] H fun v H' => AcRes H (turnA a 2 1) v H' := by
  refine FSem.ofK Tryd.func62 rfl ?_
  refine DK.from (b' := ⟨#[a.v s, undef, undef, undef, undef, undef, undef, undef], []⟩) (by kernel_rfl) ?_
  have d := trivial
  have e := trivial
  have f := trivial
  have b := trivial
  have c := trivial
  have g := trivial
  refine DK.seq ?_
  refine DK.region (is := [0, 1, 2]) (by kernel_rfl) rfl ?_
  refine WK.run [0, 1, 2] (by simp [d, e, f, b, c]; constructor <;> rfl) ?_
  refine WK.nil ?_
  refine DK.abs (fun M0 => AtM H [a.l s, zeroA.l (.slice none 0 0)] M0 ∧ OpenAt M0 s a.op) ⟨AtM.start H [] [_, _], hO.app _⟩ ?_
  try clear hM
  try clear hO
  rintro M0 ⟨hM, hO⟩
  replace d := hM.own 0 (by simp)
  replace e := hM.own 1 (by simp)
  simp only [List.getElem_cons_zero, List.getElem_cons_succ, Nat.add_zero] at d e
  replace f := hM.q2
  replace b := hO.cells.1
  replace c := hO.cells.2
  refine DK.seq ?_
  refine DK.region (is := [0, 1, 2, 3, 4, 5]) (by kernel_rfl) rfl ?_
  refine WK.run [0] (by simp [d, e, f, b, c]; constructor <;> rfl) ?_
  refine WK.call rfl (by simp [d, e, f, b, c]) (by simp [Tryd.func85, Tryd.f85, d, e, f, b, c]; constructor <;> rfl) ?_
  refine FSem.mono (turn_s a _ _ hO hn) ?_
  rintro _ R ⟨s2, rfl, hA, hO, g⟩
  replace g : Fresh (H.length + 2) s2 := g.le (hM.lt (i := 1) (by simp))
  replace hM := hM.on (Keep.of hA)
  replace d := hM.own 0 (by simp)
  replace e := hM.own 1 (by simp)
  simp only [List.getElem_cons_zero, List.getElem_cons_succ, Nat.add_zero] at d e
  replace f := hM.q2
  replace b := hO.cells.1
  replace c := hO.cells.2
  refine WK.run [2, 3, 4, 5] (by simp [d, e, f, b, c]; constructor <;> rfl) ?_
  refine WK.nil ?_
  refine DK.abs (fun M1 => AtM H [a.l s, (turnA a 2 1).1.l s2] M1 ∧ OpenAt M1 s2 (turnA a 2 1).1.op) ⟨hM.set (i := 1) (by simp) _, hO.set (g.ne (by omega)) _⟩ ?_
  try clear hM
  try clear hO
  rintro M1 ⟨hM, hO⟩
  replace d := hM.own 0 (by simp)
  replace e := hM.own 1 (by simp)
  simp only [List.getElem_cons_zero, List.getElem_cons_succ, Nat.add_zero] at d e
  replace f := hM.q2
  replace b := hO.cells.1
  replace c := hO.cells.2
  have hres : (turnA a 2 1) = ((turnA a 2 1).1, (turnA a 2 1).2) := rfl
  refine DK.ret ?_
  refine And.intro (Or.inr rfl) ?_
  refine ⟨_, by simp [absAnswer, absResults, absResult, Tryd.f62, d, e, f, b, c]; rfl, ?_⟩
  exact ⟨_, by rw [hres]; rfl, hM.keep.ext, by rw [hres]; exact hO, g.le (by omega)⟩
theorem skip_s (a : Ac) {s : Value} {H : Mem} (hO : OpenAt H s a.op) (hn : a.op.length ≤ 1000000000000) : FSem Tryd.prog [0] 63 #[a.v s] H fun v H' => AcRes H (skipA a) v H' := by
  refine FSem.ofK Tryd.func63 rfl ?_
  refine DK.from (b' := ⟨#[a.v s, undef, undef, undef, undef, undef, undef, undef, undef, undef, undef, undef, undef, undef, undef, undef, undef, undef, undef, undef, undef], []⟩) (by kernel_rfl) ?_
  have d := trivial
  have e := trivial
  have f := trivial
  have b := trivial
  have c := trivial
  have g := trivial
  refine DK.seq ?_
  refine DK.region (is := [0, 1, 2]) (by kernel_rfl) rfl ?_
  refine WK.run [0, 1, 2] (by simp [d, e, f, b, c]; constructor <;> rfl) ?_
  refine WK.nil ?_
  refine DK.abs (fun M0 => AtM H [a.l s, zeroA.l (.slice none 0 0)] M0 ∧ OpenAt M0 s a.op) ⟨AtM.start H [] [_, _], hO.app _⟩ ?_
  try clear hM
  try clear hO
  rintro M0 ⟨hM, hO⟩
  replace d := hM.own 0 (by simp)
  replace e := hM.own 1 (by simp)
  simp only [List.getElem_cons_zero, List.getElem_cons_succ, Nat.add_zero] at d e
  replace f := hM.q2
  replace b := hO.cells.1
  replace c := hO.cells.2
  refine DK.seq ?_
  refine DK.seq ?_
  refine DK.region (is := [0, 1, 2, 3, 4, 5, 6, 7, 8, 9, 10, 11]) (by kernel_rfl) rfl ?_
  refine WK.run [0, 1, 2, 3] (by simp [d, e, f, b, c]; constructor <;> rfl) ?_
  refine WK.split (t := 7) rfl (fun h => ?_) (fun h => ?_)
  · try simp only [h]
    replace h := Tr.out h
    refine WK.run [4, 5, 6, 7, 8] (by simp [d, e, f, b, c]; constructor <;> rfl) ?_
    refine WK.split (t := 12) rfl (fun h => ?_) (fun h => ?_)
    · try simp only [h]
      replace h := Tr.out h
      refine WK.run [9, 10, 11] (by simp [d, e, f, b, c]; constructor <;> rfl) ?_
      refine WK.nil ?_
      refine DK.yes rfl rfl ?_
      refine DK.seq ?_
      refine DK.region (is := [0, 1, 2]) (by kernel_rfl) rfl ?_
      refine WK.run [0, 1, 2] (by simp [d, e, f, b, c]; constructor <;> rfl) ?_
      refine WK.nil ?_
      refine DK.abs (fun MZ => AtM H [a.l s, zeroA.l (.slice none 0 0)] MZ ∧ OpenAt MZ (.slice none 0 0) zeroA.op) ⟨hM.set (i := 1) (by simp) _, .inl ⟨rfl, rfl⟩⟩ ?_
      try clear hM
      try clear hO
      rintro MZ ⟨hM, hO⟩
      replace d := hM.own 0 (by simp)
      replace e := hM.own 1 (by simp)
      simp only [List.getElem_cons_zero, List.getElem_cons_succ, Nat.add_zero] at d e
      replace f := hM.q2
      replace b := hO.cells.1
      replace c := hO.cells.2
      replace g : Fresh (H.length + 2) (.slice none 0 0) := .inl rfl
      have hres : skipA a = (zeroA, 8) := by unfold skipA; simp_all
      refine DK.ret ?_
      refine And.intro (Or.inr rfl) ?_
      refine ⟨_, by simp [absAnswer, absResults, absResult, Tryd.f63, d, e, f, b, c]; rfl, ?_⟩
      exact ⟨_, by rw [hres]; rfl, hM.keep.ext, by rw [hres]; exact hO, g.le (by omega)⟩
    try simp only [h]
    replace h := Fa.out h
    refine WK.run [9, 10, 11] (by simp [d, e, f, b, c]; constructor <;> rfl) ?_
    refine WK.nil ?_
    refine DK.test rfl rfl (fun h => ?_) (fun h => ?_)
    · try simp only [h]
      replace h := Tr.out h
      refine DK.seq ?_
      refine DK.region (is := [0, 1, 2]) (by kernel_rfl) rfl ?_
      refine WK.run [0, 1, 2] (by simp [d, e, f, b, c]; constructor <;> rfl) ?_
      refine WK.nil ?_
      refine DK.abs (fun MZ => AtM H [a.l s, zeroA.l (.slice none 0 0)] MZ ∧ OpenAt MZ (.slice none 0 0) zeroA.op) ⟨hM.set (i := 1) (by simp) _, .inl ⟨rfl, rfl⟩⟩ ?_
      try clear hM
      try clear hO
      rintro MZ ⟨hM, hO⟩
      replace d := hM.own 0 (by simp)
      replace e := hM.own 1 (by simp)
      simp only [List.getElem_cons_zero, List.getElem_cons_succ, Nat.add_zero] at d e
      replace f := hM.q2
      replace b := hO.cells.1
      replace c := hO.cells.2
      replace g : Fresh (H.length + 2) (.slice none 0 0) := .inl rfl
      have hres : skipA a = (zeroA, 8) := by unfold skipA; simp_all
      refine DK.ret ?_
      refine And.intro (Or.inr rfl) ?_
      refine ⟨_, by simp [absAnswer, absResults, absResult, Tryd.f63, d, e, f, b, c]; rfl, ?_⟩
      exact ⟨_, by rw [hres]; rfl, hM.keep.ext, by rw [hres]; exact hO, g.le (by omega)⟩
    try simp only [h]
    replace h := Fa.out h
    refine DK.skip ?_
    refine DK.seq ?_
    refine DK.region (is := [0, 1, 2]) (by kernel_rfl) rfl ?_
    refine WK.run [0] (by simp [d, e, f, b, c]; constructor <;> rfl) ?_
    refine WK.call rfl (by simp [d, e, f, b, c]) (by simp [Tryd.func58, Tryd.f58, d, e, f, b, c]; constructor <;> rfl) ?_
    refine FSem.mono (copy_s a hO (by omega)) ?_
    rintro _ M1 ⟨s1, rfl, hA, hO, g⟩
    replace g : Fresh (H.length + 2) s1 := g.le (hM.lt (i := 1) (by simp))
    replace hM := hM.on (Keep.of hA)
    replace d := hM.own 0 (by simp)
    replace e := hM.own 1 (by simp)
    simp only [List.getElem_cons_zero, List.getElem_cons_succ, Nat.add_zero] at d e
    replace f := hM.q2
    replace b := hO.cells.1
    replace c := hO.cells.2
    refine WK.run [2] (by simp [d, e, f, b, c]; constructor <;> rfl) ?_
    refine WK.nil ?_
    refine DK.abs (fun M2 => AtM H [a.l s1, zeroA.l (.slice none 0 0)] M2 ∧ OpenAt M2 s1 a.op) ⟨hM.set (i := 0) (by simp) _, hO.set (g.ne (by omega)) _⟩ ?_
    try clear hM
    try clear hO
    rintro M2 ⟨hM, hO⟩
    replace d := hM.own 0 (by simp)
    replace e := hM.own 1 (by simp)
    simp only [List.getElem_cons_zero, List.getElem_cons_succ, Nat.add_zero] at d e
    replace f := hM.q2
    replace b := hO.cells.1
    replace c := hO.cells.2
    refine DK.seq ?_
    refine DK.region (is := [0, 1]) (by kernel_rfl) rfl ?_
    refine WK.run [0, 1] (by simp [d, e, f, b, c]; constructor <;> rfl) ?_
    refine WK.nil ?_
    refine DK.abs (fun M3 => AtM H [({ a with sk := true } : Ac).l s1, zeroA.l (.slice none 0 0)] M3 ∧ OpenAt M3 s1 a.op) ⟨hM.set (i := 0) (by simp) _, hO.set (g.ne (by omega)) _⟩ ?_
    try clear hM
    try clear hO
    rintro M3 ⟨hM, hO⟩
    replace d := hM.own 0 (by simp)
    replace e := hM.own 1 (by simp)
    simp only [List.getElem_cons_zero, List.getElem_cons_succ, Nat.add_zero] at d e
    replace f := hM.q2
    replace b := hO.cells.1
    replace c := hO.cells.2
    refine DK.seq ?_
    refine DK.region (is := [0, 1, 2]) (by kernel_rfl) rfl ?_
    refine WK.run [0, 1, 2] (by simp [d, e, f, b, c]; constructor <;> rfl) ?_
    refine WK.nil ?_
    refine DK.abs (fun M4 => AtM H [({ a with sk := true } : Ac).l s1, ({ a with sk := true } : Ac).l s1] M4 ∧ OpenAt M4 s1 a.op) ⟨hM.set (i := 1) (by simp) _, hO.set (g.ne (by omega)) _⟩ ?_
    try clear hM
    try clear hO
    rintro M4 ⟨hM, hO⟩
    replace d := hM.own 0 (by simp)
    replace e := hM.own 1 (by simp)
    simp only [List.getElem_cons_zero, List.getElem_cons_succ, Nat.add_zero] at d e
    replace f := hM.q2
    replace b := hO.cells.1
    replace c := hO.cells.2
    have hres : skipA a = (({ a with sk := true } : Ac), 0) := by unfold skipA; simp_all
    refine DK.ret ?_
    refine And.intro (Or.inr rfl) ?_
    refine ⟨_, by simp [absAnswer, absResults, absResult, Tryd.f63, d, e, f, b, c]; rfl, ?_⟩
    exact ⟨_, by rw [hres]; rfl, hM.keep.ext, by rw [hres]; exact hO, g.le (by omega)⟩
  try simp only [h]
  replace h := Fa.out h
  refine WK.run [4, 5, 6, 7, 8, 9, 10, 11] (by simp [d, e, f, b, c]; constructor <;> rfl) ?_
  refine WK.nil ?_
  refine DK.test rfl rfl (fun h => ?_) (fun h => ?_)
  · try simp only [h]
    replace h := Tr.out h
    refine DK.seq ?_
    refine DK.region (is := [0, 1, 2]) (by kernel_rfl) rfl ?_
    refine WK.run [0, 1, 2] (by simp [d, e, f, b, c]; constructor <;> rfl) ?_
    refine WK.nil ?_
    refine DK.abs (fun MZ => AtM H [a.l s, zeroA.l (.slice none 0 0)] MZ ∧ OpenAt MZ (.slice none 0 0) zeroA.op) ⟨hM.set (i := 1) (by simp) _, .inl ⟨rfl, rfl⟩⟩ ?_
    try clear hM
    try clear hO
    rintro MZ ⟨hM, hO⟩
    replace d := hM.own 0 (by simp)
    replace e := hM.own 1 (by simp)
    simp only [List.getElem_cons_zero, List.getElem_cons_succ, Nat.add_zero] at d e
    replace f := hM.q2
    replace b := hO.cells.1
    replace c := hO.cells.2
    replace g : Fresh (H.length + 2) (.slice none 0 0) := .inl rfl
    have hres : skipA a = (zeroA, 8) := by unfold skipA; simp_all
    refine DK.ret ?_
    refine And.intro (Or.inr rfl) ?_
    refine ⟨_, by simp [absAnswer, absResults, absResult, Tryd.f63, d, e, f, b, c]; rfl, ?_⟩
    exact ⟨_, by rw [hres]; rfl, hM.keep.ext, by rw [hres]; exact hO, g.le (by omega)⟩
  try simp only [h]
  replace h := Fa.out h
  refine DK.skip ?_
  refine DK.seq ?_
  refine DK.region (is := [0, 1, 2]) (by kernel_rfl) rfl ?_
  refine WK.run [0] (by simp [d, e, f, b, c]; constructor <;> rfl) ?_
  refine WK.call rfl (by simp [d, e, f, b, c]) (by simp [Tryd.func58, Tryd.f58, d, e, f, b, c]; constructor <;> rfl) ?_
  refine FSem.mono (copy_s a hO (by omega)) ?_
  rintro _ M1 ⟨s1, rfl, hA, hO, g⟩
  replace g : Fresh (H.length + 2) s1 := g.le (hM.lt (i := 1) (by simp))
  replace hM := hM.on (Keep.of hA)
  replace d := hM.own 0 (by simp)
  replace e := hM.own 1 (by simp)
  simp only [List.getElem_cons_zero, List.getElem_cons_succ, Nat.add_zero] at d e
  replace f := hM.q2
  replace b := hO.cells.1
  replace c := hO.cells.2
  refine WK.run [2] (by simp [d, e, f, b, c]; constructor <;> rfl) ?_
  refine WK.nil ?_
  refine DK.abs (fun M2 => AtM H [a.l s1, zeroA.l (.slice none 0 0)] M2 ∧ OpenAt M2 s1 a.op) ⟨hM.set (i := 0) (by simp) _, hO.set (g.ne (by omega)) _⟩ ?_
  try clear hM
  try clear hO
  rintro M2 ⟨hM, hO⟩
  replace d := hM.own 0 (by simp)
  replace e := hM.own 1 (by simp)
  simp only [List.getElem_cons_zero, List.getElem_cons_succ, Nat.add_zero] at d e
  replace f := hM.q2
  replace b := hO.cells.1
  replace c := hO.cells.2
  refine DK.seq ?_
  refine DK.region (is := [0, 1]) (by kernel_rfl) rfl ?_
  refine WK.run [0, 1] (by simp [d, e, f, b, c]; constructor <;> rfl) ?_
  refine WK.nil ?_
  refine DK.abs (fun M3 => AtM H [({ a with sk := true } : Ac).l s1, zeroA.l (.slice none 0 0)] M3 ∧ OpenAt M3 s1 a.op) ⟨hM.set (i := 0) (by simp) _, hO.set (g.ne (by omega)) _⟩ ?_
  try clear hM
  try clear hO
  rintro M3 ⟨hM, hO⟩
  replace d := hM.own 0 (by simp)
  replace e := hM.own 1 (by simp)
  simp only [List.getElem_cons_zero, List.getElem_cons_succ, Nat.add_zero] at d e
  replace f := hM.q2
  replace b := hO.cells.1
  replace c := hO.cells.2
  refine DK.seq ?_
  refine DK.region (is := [0, 1, 2]) (by kernel_rfl) rfl ?_
  refine WK.run [0, 1, 2] (by simp [d, e, f, b, c]; constructor <;> rfl) ?_
  refine WK.nil ?_
  refine DK.abs (fun M4 => AtM H [({ a with sk := true } : Ac).l s1, ({ a with sk := true } : Ac).l s1] M4 ∧ OpenAt M4 s1 a.op) ⟨hM.set (i := 1) (by simp) _, hO.set (g.ne (by omega)) _⟩ ?_
  try clear hM
  try clear hO
  rintro M4 ⟨hM, hO⟩
  replace d := hM.own 0 (by simp)
  replace e := hM.own 1 (by simp)
  simp only [List.getElem_cons_zero, List.getElem_cons_succ, Nat.add_zero] at d e
  replace f := hM.q2
  replace b := hO.cells.1
  replace c := hO.cells.2
  have hres : skipA a = (({ a with sk := true } : Ac), 0) := by unfold skipA; simp_all
  refine DK.ret ?_
  refine And.intro (Or.inr rfl) ?_
  refine ⟨_, by simp [absAnswer, absResults, absResult, Tryd.f63, d, e, f, b, c]; rfl, ?_⟩
  exact ⟨_, by rw [hres]; rfl, hM.keep.ext, by rw [hres]; exact hO, g.le (by omega)⟩
theorem pchange_s (f t : Pl) (left days : Int) (hf : f.pr ≤ 1073741824) (ht : t.pr ≤ 1073741824) (hl : left ≤ 4000000) (hd : days ≤ 4000000) (H : Mem) : FSem Tryd.prog [0] 89 #[f.v, t.v, .int .i64 left, .int .i64 days] H fun v H' => v = .tuple #[.int .i64 (planChg f t left days).1, .int .i64 (planChg f t left days).2.1, .int .i64 (planChg f t left days).2.2] ∧ H' = H := by
  refine FSem.plainT ?_
  refine FSem.ofK Tryd.func89 rfl ?_
  refine DK.from (b' := ⟨#[f.v, t.v, .int .i64 left, .int .i64 days, undef, undef, undef, undef, undef, undef, undef, undef, undef, undef, undef, undef, undef, undef, undef, undef, undef, undef, undef, undef, undef, undef, undef, undef, undef, undef, undef, undef, undef, undef, undef, undef, undef, undef], []⟩) (by kernel_rfl) ?_
  refine DK.seq ?_
  refine DK.region (is := [0, 1, 2, 3, 4]) (by kernel_rfl) rfl ?_
  refine WK.run [0, 1, 2, 3, 4] (by simp; constructor <;> rfl) ?_
  refine WK.nil ?_
  refine DK.seq ?_
  refine DK.region (is := [0, 1, 2, 3, 4, 5, 6, 7, 8, 9]) (by kernel_rfl) rfl ?_
  refine WK.run [0, 1, 2, 3] (by simp; constructor <;> rfl) ?_
  refine WK.call rfl (by simp) (by simp [Tryd.func102, Tryd.f102]; constructor <;> rfl) ?_
  refine FSem.mono (part_s _ _ _ (by assumption) hl hd _) ?_
  rintro _ _ ⟨rfl, rfl⟩
  refine WK.run [5, 6, 7, 8, 9] (by simp; constructor <;> rfl) ?_
  refine WK.nil ?_
  refine DK.seq ?_
  refine DK.seq ?_
  refine DK.region (is := [0, 1]) (by kernel_rfl) rfl ?_
  refine WK.run [0, 1] (by simp; constructor <;> rfl) ?_
  refine WK.nil ?_
  refine DK.test rfl rfl (fun h => ?_) (fun h => ?_)
  · try simp only [h]
    replace h := Tr.out h
    refine DK.seq ?_
    refine DK.region (is := [0, 1, 2, 3]) (by kernel_rfl) rfl ?_
    refine WK.run [0, 1, 2, 3] (by simp; constructor <;> rfl) ?_
    refine WK.nil ?_
    refine DK.ret ?_
    refine And.intro (Or.inr rfl) ?_
    refine ⟨_, by simp [absAnswer, absResults, absResult, Tryd.f89]; rfl, ?_⟩
    refine ⟨by first | exact ⟨[], (List.append_nil _).symm⟩ | exact ⟨_, rfl⟩, by simp, ?_⟩
    simp_all [planChg]
  try simp only [h]
  replace h := Fa.out h
  refine DK.skip ?_
  refine DK.seq ?_
  refine DK.region (is := [0, 1, 2, 3, 4, 5, 6, 7, 8, 9]) (by kernel_rfl) rfl ?_
  refine WK.run [0, 1, 2, 3] (by simp; constructor <;> rfl) ?_
  refine WK.call rfl (by simp) (by simp [Tryd.func102, Tryd.f102]; constructor <;> rfl) ?_
  refine FSem.mono (part_s _ _ _ (by assumption) hl hd _) ?_
  rintro _ _ ⟨rfl, rfl⟩
  refine WK.run [5, 6, 7, 8, 9] (by simp; constructor <;> rfl) ?_
  refine WK.nil ?_
  refine DK.seq ?_
  refine DK.seq ?_
  refine DK.region (is := [0, 1]) (by kernel_rfl) rfl ?_
  refine WK.run [0, 1] (by simp; constructor <;> rfl) ?_
  refine WK.nil ?_
  refine DK.test rfl rfl (fun h => ?_) (fun h => ?_)
  · try simp only [h]
    replace h := Tr.out h
    refine DK.seq ?_
    refine DK.region (is := [0, 1, 2, 3]) (by kernel_rfl) rfl ?_
    refine WK.run [0, 1, 2, 3] (by simp; constructor <;> rfl) ?_
    refine WK.nil ?_
    refine DK.ret ?_
    refine And.intro (Or.inr rfl) ?_
    refine ⟨_, by simp [absAnswer, absResults, absResult, Tryd.f89]; rfl, ?_⟩
    refine ⟨by first | exact ⟨[], (List.append_nil _).symm⟩ | exact ⟨_, rfl⟩, by simp, ?_⟩
    simp_all [planChg]
  try simp only [h]
  replace h := Fa.out h
  refine DK.skip ?_
  refine DK.seq ?_
  refine DK.region (is := [0, 1, 2, 3, 4]) (by kernel_rfl) rfl ?_
  refine WK.run [0, 1, 2, 3, 4] (by simp; constructor <;> rfl) ?_
  refine WK.nil ?_
  refine DK.ret ?_
  refine And.intro (Or.inr rfl) ?_
  refine ⟨_, by simp [absAnswer, absResults, absResult, Tryd.f89]; rfl, ?_⟩
  refine ⟨by first | exact ⟨[], (List.append_nil _).symm⟩ | exact ⟨_, rfl⟩, by simp, ?_⟩
  simp_all [planChg]
end Go.Den
