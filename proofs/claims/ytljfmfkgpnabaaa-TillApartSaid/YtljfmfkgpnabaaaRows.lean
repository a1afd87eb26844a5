/-
  No cell of these rows narrows 'for every input' (looked for: loops, veiled, ifaces, maps, wideKeys, modest, calm, conditions, laid).
  DERIVED. THE GIVEN ROWS OF THIS SEAT. 9 by the template 'for every input the law returns true; each argument reads behind the call as it read before'; 0 by the template 'total and deterministic' (their statements: YtljfmfkgpnabaaaTotals.lean).
  GIVEN WITH THE SEED: the statements are not yours to turn. If you find one false, say at which input.
  Laid BY PROGRAM, IN A SANDBOX (cutbox-rows.mjs): the forced cells as the released guide's own fill.sh prints them over the translation 10681619d27f38f3… (all of the seat's roots in one cut). By AI agents, Wed Nov 11 2026. No macro, syntax, notation, axiom, sorry.
-/
import Derived.Test.YtljfmfkgpnabaaaChecked
import GoSem.Claim
import GoSem.ClaimJoined
import GoSem.ClaimMapViews
import Derived.JoinedTies
import Derived.KernelRfl
namespace Go.Proofs.Ytljfmfkgpnabaaa
/- THE CELL 'sum', in the pinned program and in every row, IS THE sha256 OF THE DUMP (.gsa) THAT YtljfmfkgpnabaaaProg.lean LOADS. Nothing in Lean hashes anything: it is a label: what it is worth is what the hold of that sum in a sandbox is worth. -/
noncomputable def Try.pinned : Pinned := { name := "ytljfmfkgpnabaaa", sum := "10681619d27f38f31a6d985a3d16c5e68291582da43e739c75bf3de788cb5635", checked := Try.checked }
namespace Rows
def none {H : Type} : Left H := { results := [], args := [] }

/-- 'paybooklaw01.CivilMonths': WHATEVER THE INPUT: true; the input reads as it did. -/
def civilMonthsSpec : ChangeSpec := { name := "civilMonths", fn := fun _ => fun
  | [d1, d2] => { results := [.lit (.bool true)], args := [d1, d2] }
  | _ => none }
def civilMonthsRow : OpenClaim := { program := "ytljfmfkgpnabaaa", sum := "10681619d27f38f31a6d985a3d16c5e68291582da43e739c75bf3de788cb5635", func := "paybook/paybooklaw01.CivilMonths", spec := "civilMonths", plainKeys := false, apart := false }
def CivilMonthsSaid : Prop := civilMonthsRow.holds Try.pinned (OpenSpec.ofChange civilMonthsSpec)

/-- ITS FALSE NEIGHBOUR: 'it returns false'. Refute it at one input. -/
def civilMonthsWrong : ChangeSpec := { name := "civilMonths", fn := fun _ => fun
  | [d1, d2] => { results := [.lit (.bool false)], args := [d1, d2] }
  | _ => none }
def CivilMonthsWrongFalsely : Prop := civilMonthsRow.holds Try.pinned (OpenSpec.ofChange civilMonthsWrong)

/-- 'paybooklaw01.CivilWeeks': WHATEVER THE INPUT: true; the input reads as it did. -/
def civilWeeksSpec : ChangeSpec := { name := "civilWeeks", fn := fun _ => fun
  | [d] => { results := [.lit (.bool true)], args := [d] }
  | _ => none }
def civilWeeksRow : OpenClaim := { program := "ytljfmfkgpnabaaa", sum := "10681619d27f38f31a6d985a3d16c5e68291582da43e739c75bf3de788cb5635", func := "paybook/paybooklaw01.CivilWeeks", spec := "civilWeeks", plainKeys := false, apart := false }
def CivilWeeksSaid : Prop := civilWeeksRow.holds Try.pinned (OpenSpec.ofChange civilWeeksSpec)

/-- ITS FALSE NEIGHBOUR: 'it returns false'. Refute it at one input. -/
def civilWeeksWrong : ChangeSpec := { name := "civilWeeks", fn := fun _ => fun
  | [d] => { results := [.lit (.bool false)], args := [d] }
  | _ => none }
def CivilWeeksWrongFalsely : Prop := civilWeeksRow.holds Try.pinned (OpenSpec.ofChange civilWeeksWrong)

/-- 'paybooklaw01.CivilClamps': WHATEVER THE INPUT: true; the input reads as it did. -/
def civilClampsSpec : ChangeSpec := { name := "civilClamps", fn := fun _ => fun
  | [d1, d2, d3] => { results := [.lit (.bool true)], args := [d1, d2, d3] }
  | _ => none }
def civilClampsRow : OpenClaim := { program := "ytljfmfkgpnabaaa", sum := "10681619d27f38f31a6d985a3d16c5e68291582da43e739c75bf3de788cb5635", func := "paybook/paybooklaw01.CivilClamps", spec := "civilClamps", plainKeys := false, apart := false }
def CivilClampsSaid : Prop := civilClampsRow.holds Try.pinned (OpenSpec.ofChange civilClampsSpec)

/-- ITS FALSE NEIGHBOUR: 'it returns false'. Refute it at one input. -/
def civilClampsWrong : ChangeSpec := { name := "civilClamps", fn := fun _ => fun
  | [d1, d2, d3] => { results := [.lit (.bool false)], args := [d1, d2, d3] }
  | _ => none }
def CivilClampsWrongFalsely : Prop := civilClampsRow.holds Try.pinned (OpenSpec.ofChange civilClampsWrong)

/-- 'paybooklaw01.CivilNumbers': WHATEVER THE INPUT: true; the input reads as it did. -/
def civilNumbersSpec : ChangeSpec := { name := "civilNumbers", fn := fun _ => fun
  | [d] => { results := [.lit (.bool true)], args := [d] }
  | _ => none }
def civilNumbersRow : OpenClaim := { program := "ytljfmfkgpnabaaa", sum := "10681619d27f38f31a6d985a3d16c5e68291582da43e739c75bf3de788cb5635", func := "paybook/paybooklaw01.CivilNumbers", spec := "civilNumbers", plainKeys := false, apart := false }
def CivilNumbersSaid : Prop := civilNumbersRow.holds Try.pinned (OpenSpec.ofChange civilNumbersSpec)

/-- ITS FALSE NEIGHBOUR: 'it returns false'. Refute it at one input. -/
def civilNumbersWrong : ChangeSpec := { name := "civilNumbers", fn := fun _ => fun
  | [d] => { results := [.lit (.bool false)], args := [d] }
  | _ => none }
def CivilNumbersWrongFalsely : Prop := civilNumbersRow.holds Try.pinned (OpenSpec.ofChange civilNumbersWrong)

/-- 'paybooklaw01.CivilDays': WHATEVER THE INPUT: true; the input reads as it did. -/
def civilDaysSpec : ChangeSpec := { name := "civilDays", fn := fun _ => fun
  | [d] => { results := [.lit (.bool true)], args := [d] }
  | _ => none }
def civilDaysRow : OpenClaim := { program := "ytljfmfkgpnabaaa", sum := "10681619d27f38f31a6d985a3d16c5e68291582da43e739c75bf3de788cb5635", func := "paybook/paybooklaw01.CivilDays", spec := "civilDays", plainKeys := false, apart := false }
def CivilDaysSaid : Prop := civilDaysRow.holds Try.pinned (OpenSpec.ofChange civilDaysSpec)

/-- ITS FALSE NEIGHBOUR: 'it returns false'. Refute it at one input. -/
def civilDaysWrong : ChangeSpec := { name := "civilDays", fn := fun _ => fun
  | [d] => { results := [.lit (.bool false)], args := [d] }
  | _ => none }
def CivilDaysWrongFalsely : Prop := civilDaysRow.holds Try.pinned (OpenSpec.ofChange civilDaysWrong)

/-- 'paybooklaw01.CivilParses': WHATEVER THE INPUT: true; the input reads as it did. -/
def civilParsesSpec : ChangeSpec := { name := "civilParses", fn := fun _ => fun
  | [d1, d2, d3, d4] => { results := [.lit (.bool true)], args := [d1, d2, d3, d4] }
  | _ => none }
def civilParsesRow : OpenClaim := { program := "ytljfmfkgpnabaaa", sum := "10681619d27f38f31a6d985a3d16c5e68291582da43e739c75bf3de788cb5635", func := "paybook/paybooklaw01.CivilParses", spec := "civilParses", plainKeys := false, apart := false }
def CivilParsesSaid : Prop := civilParsesRow.holds Try.pinned (OpenSpec.ofChange civilParsesSpec)

/-- ITS FALSE NEIGHBOUR: 'it returns false'. Refute it at one input. -/
def civilParsesWrong : ChangeSpec := { name := "civilParses", fn := fun _ => fun
  | [d1, d2, d3, d4] => { results := [.lit (.bool false)], args := [d1, d2, d3, d4] }
  | _ => none }
def CivilParsesWrongFalsely : Prop := civilParsesRow.holds Try.pinned (OpenSpec.ofChange civilParsesWrong)

/-- 'paybooklaw15.TillPlays': WHATEVER THE INPUT: true; the input reads as it did. -/
def tillPlaysSpec : ChangeSpec := { name := "tillPlays", fn := fun _ => fun
  | [d] => { results := [.lit (.bool true)], args := [d] }
  | _ => none }
def tillPlaysRow : OpenClaim := { program := "ytljfmfkgpnabaaa", sum := "10681619d27f38f31a6d985a3d16c5e68291582da43e739c75bf3de788cb5635", func := "paybook/paybooklaw15.TillPlays", spec := "tillPlays", unfollowed := true, recurses := true, plainKeys := false, apart := false }
def TillPlaysSaid : Prop := tillPlaysRow.holds Try.pinned (OpenSpec.ofChange tillPlaysSpec)

/-- ITS FALSE NEIGHBOUR: 'it returns false'. Refute it at one input. -/
def tillPlaysWrong : ChangeSpec := { name := "tillPlays", fn := fun _ => fun
  | [d] => { results := [.lit (.bool false)], args := [d] }
  | _ => none }
def TillPlaysWrongFalsely : Prop := tillPlaysRow.holds Try.pinned (OpenSpec.ofChange tillPlaysWrong)

/-- 'paybooklaw15.TillOnce': WHATEVER THE INPUT: true; the input reads as it did. -/
def tillOnceSpec : ChangeSpec := { name := "tillOnce", fn := fun _ => fun
  | [d1, d2, d3] => { results := [.lit (.bool true)], args := [d1, d2, d3] }
  | _ => none }
def tillOnceRow : OpenClaim := { program := "ytljfmfkgpnabaaa", sum := "10681619d27f38f31a6d985a3d16c5e68291582da43e739c75bf3de788cb5635", func := "paybook/paybooklaw15.TillOnce", spec := "tillOnce", unfollowed := true, recurses := true, plainKeys := false, apart := false }
def TillOnceSaid : Prop := tillOnceRow.holds Try.pinned (OpenSpec.ofChange tillOnceSpec)

/-- ITS FALSE NEIGHBOUR: 'it returns false'. Refute it at one input. -/
def tillOnceWrong : ChangeSpec := { name := "tillOnce", fn := fun _ => fun
  | [d1, d2, d3] => { results := [.lit (.bool false)], args := [d1, d2, d3] }
  | _ => none }
def TillOnceWrongFalsely : Prop := tillOnceRow.holds Try.pinned (OpenSpec.ofChange tillOnceWrong)

/-- 'paybooklaw15.TillApart': WHATEVER THE INPUT: true; the input reads as it did. -/
def tillApartSpec : ChangeSpec := { name := "tillApart", fn := fun _ => fun
  | [d1, d2, d3] => { results := [.lit (.bool true)], args := [d1, d2, d3] }
  | _ => none }
def tillApartRow : OpenClaim := { program := "ytljfmfkgpnabaaa", sum := "10681619d27f38f31a6d985a3d16c5e68291582da43e739c75bf3de788cb5635", func := "paybook/paybooklaw15.TillApart", spec := "tillApart", unfollowed := true, recurses := true, plainKeys := false, apart := false }
def TillApartSaid : Prop := tillApartRow.holds Try.pinned (OpenSpec.ofChange tillApartSpec)

/-- ITS FALSE NEIGHBOUR: 'it returns false'. Refute it at one input. -/
def tillApartWrong : ChangeSpec := { name := "tillApart", fn := fun _ => fun
  | [d1, d2, d3] => { results := [.lit (.bool false)], args := [d1, d2, d3] }
  | _ => none }
def TillApartWrongFalsely : Prop := tillApartRow.holds Try.pinned (OpenSpec.ofChange tillApartWrong)

/- THE SECOND FORM. 'bulk': how many values and letters a reading holds, each counted each time it is reached (what is shared counts as often as it is met; a slice's spare places count too). A statement '..UptoSaid' is the law's where the arguments, and the package variables that the reading takes, are together of bulk at most 1048576: NARROWER than '..Said'. Prove '..Said' where nothing that the law and all that it calls make is longer than what came in: it says more and counts as full. Else prove '..UptoSaid'. A law counts once. -/
mutual
def uptoBulk {H : Type} : DataW H → Nat
  | .lit (.string bytes) => bytes.length + 1
  | .lit _ => 1
  | .nil => 1
  | .ptr d => uptoBulk d + 1
  | .slice elems spare => uptoBulkAll elems + uptoBulkAll spare + 1
  | .agg parts => uptoBulkAll parts + 1
  | .iface _ d => uptoBulk d + 1
  | .map entries => uptoBulkEntries entries + 1
  | .held _ => 1
def uptoBulkAll {H : Type} : List (DataW H) → Nat
  | [] => 0
  | d :: r => uptoBulk d + uptoBulkAll r
def uptoBulkEntries {H : Type} : List (Lit × DataW H) → Nat
  | [] => 0
  | x :: r => uptoBulkEntry x + uptoBulkEntries r
def uptoBulkEntry {H : Type} : Lit × DataW H → Nat
  | (.string bytes, d) => bytes.length + uptoBulk d + 1
  | (_, d) => uptoBulk d + 1
 end
def uptoSmall : (H : Type) → List (DataW H) → Bool := fun _ ds => decide (uptoBulkAll ds ≤ 1048576)
def OpenSpec.upto (s : _root_.Go.ChangeSpec) : _root_.Go.OpenSpec := { _root_.Go.OpenSpec.ofChange s with cond := some uptoSmall }

/-- 'paybooklaw01.CivilMonths', WHERE WHAT IT READS IS OF BULK AT MOST 1048576: true; the input reads as it did. -/
def civilMonthsUptoRow : OpenClaim := { program := "ytljfmfkgpnabaaa", sum := "10681619d27f38f31a6d985a3d16c5e68291582da43e739c75bf3de788cb5635", func := "paybook/paybooklaw01.CivilMonths", spec := "civilMonths", plainKeys := false, apart := false, narrowed := true }
def CivilMonthsUptoSaid : Prop := civilMonthsUptoRow.holds Try.pinned (OpenSpec.upto civilMonthsSpec)

/-- 'paybooklaw01.CivilWeeks', WHERE WHAT IT READS IS OF BULK AT MOST 1048576: true; the input reads as it did. -/
def civilWeeksUptoRow : OpenClaim := { program := "ytljfmfkgpnabaaa", sum := "10681619d27f38f31a6d985a3d16c5e68291582da43e739c75bf3de788cb5635", func := "paybook/paybooklaw01.CivilWeeks", spec := "civilWeeks", plainKeys := false, apart := false, narrowed := true }
def CivilWeeksUptoSaid : Prop := civilWeeksUptoRow.holds Try.pinned (OpenSpec.upto civilWeeksSpec)

/-- 'paybooklaw01.CivilClamps', WHERE WHAT IT READS IS OF BULK AT MOST 1048576: true; the input reads as it did. -/
def civilClampsUptoRow : OpenClaim := { program := "ytljfmfkgpnabaaa", sum := "10681619d27f38f31a6d985a3d16c5e68291582da43e739c75bf3de788cb5635", func := "paybook/paybooklaw01.CivilClamps", spec := "civilClamps", plainKeys := false, apart := false, narrowed := true }
def CivilClampsUptoSaid : Prop := civilClampsUptoRow.holds Try.pinned (OpenSpec.upto civilClampsSpec)

/-- 'paybooklaw01.CivilNumbers', WHERE WHAT IT READS IS OF BULK AT MOST 1048576: true; the input reads as it did. -/
def civilNumbersUptoRow : OpenClaim := { program := "ytljfmfkgpnabaaa", sum := "10681619d27f38f31a6d985a3d16c5e68291582da43e739c75bf3de788cb5635", func := "paybook/paybooklaw01.CivilNumbers", spec := "civilNumbers", plainKeys := false, apart := false, narrowed := true }
def CivilNumbersUptoSaid : Prop := civilNumbersUptoRow.holds Try.pinned (OpenSpec.upto civilNumbersSpec)

/-- 'paybooklaw01.CivilDays', WHERE WHAT IT READS IS OF BULK AT MOST 1048576: true; the input reads as it did. -/
def civilDaysUptoRow : OpenClaim := { program := "ytljfmfkgpnabaaa", sum := "10681619d27f38f31a6d985a3d16c5e68291582da43e739c75bf3de788cb5635", func := "paybook/paybooklaw01.CivilDays", spec := "civilDays", plainKeys := false, apart := false, narrowed := true }
def CivilDaysUptoSaid : Prop := civilDaysUptoRow.holds Try.pinned (OpenSpec.upto civilDaysSpec)

/-- 'paybooklaw01.CivilParses', WHERE WHAT IT READS IS OF BULK AT MOST 1048576: true; the input reads as it did. -/
def civilParsesUptoRow : OpenClaim := { program := "ytljfmfkgpnabaaa", sum := "10681619d27f38f31a6d985a3d16c5e68291582da43e739c75bf3de788cb5635", func := "paybook/paybooklaw01.CivilParses", spec := "civilParses", plainKeys := false, apart := false, narrowed := true }
def CivilParsesUptoSaid : Prop := civilParsesUptoRow.holds Try.pinned (OpenSpec.upto civilParsesSpec)

/-- 'paybooklaw15.TillPlays', WHERE WHAT IT READS IS OF BULK AT MOST 1048576: true; the input reads as it did. -/
def tillPlaysUptoRow : OpenClaim := { program := "ytljfmfkgpnabaaa", sum := "10681619d27f38f31a6d985a3d16c5e68291582da43e739c75bf3de788cb5635", func := "paybook/paybooklaw15.TillPlays", spec := "tillPlays", unfollowed := true, recurses := true, plainKeys := false, apart := false, narrowed := true }
def TillPlaysUptoSaid : Prop := tillPlaysUptoRow.holds Try.pinned (OpenSpec.upto tillPlaysSpec)

/-- 'paybooklaw15.TillOnce', WHERE WHAT IT READS IS OF BULK AT MOST 1048576: true; the input reads as it did. -/
def tillOnceUptoRow : OpenClaim := { program := "ytljfmfkgpnabaaa", sum := "10681619d27f38f31a6d985a3d16c5e68291582da43e739c75bf3de788cb5635", func := "paybook/paybooklaw15.TillOnce", spec := "tillOnce", unfollowed := true, recurses := true, plainKeys := false, apart := false, narrowed := true }
def TillOnceUptoSaid : Prop := tillOnceUptoRow.holds Try.pinned (OpenSpec.upto tillOnceSpec)

/-- 'paybooklaw15.TillApart', WHERE WHAT IT READS IS OF BULK AT MOST 1048576: true; the input reads as it did. -/
def tillApartUptoRow : OpenClaim := { program := "ytljfmfkgpnabaaa", sum := "10681619d27f38f31a6d985a3d16c5e68291582da43e739c75bf3de788cb5635", func := "paybook/paybooklaw15.TillApart", spec := "tillApart", unfollowed := true, recurses := true, plainKeys := false, apart := false, narrowed := true }
def TillApartUptoSaid : Prop := tillApartUptoRow.holds Try.pinned (OpenSpec.upto tillApartSpec)

end Rows
end Go.Proofs.Ytljfmfkgpnabaaa
