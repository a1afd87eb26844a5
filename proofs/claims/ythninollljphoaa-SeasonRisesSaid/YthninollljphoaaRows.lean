/-
  No cell of these rows narrows 'for every input' (looked for: loops, veiled, ifaces, maps, wideKeys, modest, calm, conditions, laid).
  DERIVED. THE GIVEN ROWS OF THIS SEAT. 7 by the template 'for every input the law returns true; each argument reads behind the call as it read before'; 0 by the template 'total and deterministic' (their statements: YthninollljphoaaTotals.lean).
  GIVEN WITH THE SEED: the statements are not yours to turn. If you find one false, say at which input.
  Laid BY PROGRAM, IN A SANDBOX (cutbox-rows.mjs): the forced cells as the released guide's own fill.sh prints them over the translation 0f327d276efa3532… (all of the seat's roots in one cut). By AI agents, Wed Nov 11 2026. No macro, syntax, notation, axiom, sorry.
-/
import Derived.Test.YthninollljphoaaChecked
import GoSem.Claim
import GoSem.ClaimJoined
import GoSem.ClaimMapViews
import Derived.JoinedTies
import Derived.KernelRfl
namespace Go.Proofs.Ythninollljphoaa
/- THE CELL 'sum', in the pinned program and in every row, IS THE sha256 OF THE DUMP (.gsa) THAT YthninollljphoaaProg.lean LOADS. Nothing in Lean hashes anything: it is a label: what it is worth is what the hold of that sum in a sandbox is worth. -/
noncomputable def Try.pinned : Pinned := { name := "ythninollljphoaa", sum := "0f327d276efa3532818df888e0e964211698984e14d602aecabdba7d89a3dba4", checked := Try.checked }
namespace Rows
def none {H : Type} : Left H := { results := [], args := [] }

/-- 'paybooklaw02.SeasonNths': WHATEVER THE INPUT: true; the input reads as it did. -/
def seasonNthsSpec : ChangeSpec := { name := "seasonNths", fn := fun _ => fun
  | [d1, d2, d3, d4] => { results := [.lit (.bool true)], args := [d1, d2, d3, d4] }
  | _ => none }
def seasonNthsRow : OpenClaim := { program := "ythninollljphoaa", sum := "0f327d276efa3532818df888e0e964211698984e14d602aecabdba7d89a3dba4", func := "paybook/paybooklaw02.SeasonNths", spec := "seasonNths", apart := false }
def SeasonNthsSaid : Prop := seasonNthsRow.holds Try.pinned (OpenSpec.ofChange seasonNthsSpec)

/-- ITS FALSE NEIGHBOUR: 'it returns false'. Refute it at one input. -/
def seasonNthsWrong : ChangeSpec := { name := "seasonNths", fn := fun _ => fun
  | [d1, d2, d3, d4] => { results := [.lit (.bool false)], args := [d1, d2, d3, d4] }
  | _ => none }
def SeasonNthsWrongFalsely : Prop := seasonNthsRow.holds Try.pinned (OpenSpec.ofChange seasonNthsWrong)

/-- 'paybooklaw02.SeasonArgs': WHATEVER THE INPUT: true; the input reads as it did. -/
def seasonArgsSpec : ChangeSpec := { name := "seasonArgs", fn := fun _ => fun
  | [d1, d2, d3, d4] => { results := [.lit (.bool true)], args := [d1, d2, d3, d4] }
  | _ => none }
def seasonArgsRow : OpenClaim := { program := "ythninollljphoaa", sum := "0f327d276efa3532818df888e0e964211698984e14d602aecabdba7d89a3dba4", func := "paybook/paybooklaw02.SeasonArgs", spec := "seasonArgs", apart := false }
def SeasonArgsSaid : Prop := seasonArgsRow.holds Try.pinned (OpenSpec.ofChange seasonArgsSpec)

/-- ITS FALSE NEIGHBOUR: 'it returns false'. Refute it at one input. -/
def seasonArgsWrong : ChangeSpec := { name := "seasonArgs", fn := fun _ => fun
  | [d1, d2, d3, d4] => { results := [.lit (.bool false)], args := [d1, d2, d3, d4] }
  | _ => none }
def SeasonArgsWrongFalsely : Prop := seasonArgsRow.holds Try.pinned (OpenSpec.ofChange seasonArgsWrong)

/-- 'paybooklaw02.SeasonRises': WHATEVER THE INPUT: true; the input reads as it did. -/
def seasonRisesSpec : ChangeSpec := { name := "seasonRises", fn := fun _ => fun
  | [d1, d2, d3, d4] => { results := [.lit (.bool true)], args := [d1, d2, d3, d4] }
  | _ => none }
def seasonRisesRow : OpenClaim := { program := "ythninollljphoaa", sum := "0f327d276efa3532818df888e0e964211698984e14d602aecabdba7d89a3dba4", func := "paybook/paybooklaw02.SeasonRises", spec := "seasonRises", apart := false }
def SeasonRisesSaid : Prop := seasonRisesRow.holds Try.pinned (OpenSpec.ofChange seasonRisesSpec)

/-- ITS FALSE NEIGHBOUR: 'it returns false'. Refute it at one input. -/
def seasonRisesWrong : ChangeSpec := { name := "seasonRises", fn := fun _ => fun
  | [d1, d2, d3, d4] => { results := [.lit (.bool false)], args := [d1, d2, d3, d4] }
  | _ => none }
def SeasonRisesWrongFalsely : Prop := seasonRisesRow.holds Try.pinned (OpenSpec.ofChange seasonRisesWrong)

/-- 'paybooklaw02.SeasonSums': WHATEVER THE INPUT: true; the input reads as it did. -/
def seasonSumsSpec : ChangeSpec := { name := "seasonSums", fn := fun _ => fun
  | [d1, d2, d3, d4, d5] => { results := [.lit (.bool true)], args := [d1, d2, d3, d4, d5] }
  | _ => none }
def seasonSumsRow : OpenClaim := { program := "ythninollljphoaa", sum := "0f327d276efa3532818df888e0e964211698984e14d602aecabdba7d89a3dba4", func := "paybook/paybooklaw02.SeasonSums", spec := "seasonSums", apart := false }
def SeasonSumsSaid : Prop := seasonSumsRow.holds Try.pinned (OpenSpec.ofChange seasonSumsSpec)

/-- ITS FALSE NEIGHBOUR: 'it returns false'. Refute it at one input. -/
def seasonSumsWrong : ChangeSpec := { name := "seasonSums", fn := fun _ => fun
  | [d1, d2, d3, d4, d5] => { results := [.lit (.bool false)], args := [d1, d2, d3, d4, d5] }
  | _ => none }
def SeasonSumsWrongFalsely : Prop := seasonSumsRow.holds Try.pinned (OpenSpec.ofChange seasonSumsWrong)

/-- 'paybooklaw02.SeasonYears': WHATEVER THE INPUT: true; the input reads as it did. -/
def seasonYearsSpec : ChangeSpec := { name := "seasonYears", fn := fun _ => fun
  | [d1, d2, d3] => { results := [.lit (.bool true)], args := [d1, d2, d3] }
  | _ => none }
def seasonYearsRow : OpenClaim := { program := "ythninollljphoaa", sum := "0f327d276efa3532818df888e0e964211698984e14d602aecabdba7d89a3dba4", func := "paybook/paybooklaw02.SeasonYears", spec := "seasonYears", apart := false }
def SeasonYearsSaid : Prop := seasonYearsRow.holds Try.pinned (OpenSpec.ofChange seasonYearsSpec)

/-- ITS FALSE NEIGHBOUR: 'it returns false'. Refute it at one input. -/
def seasonYearsWrong : ChangeSpec := { name := "seasonYears", fn := fun _ => fun
  | [d1, d2, d3] => { results := [.lit (.bool false)], args := [d1, d2, d3] }
  | _ => none }
def SeasonYearsWrongFalsely : Prop := seasonYearsRow.holds Try.pinned (OpenSpec.ofChange seasonYearsWrong)

/-- 'paybooklaw02.SeasonCounts': WHATEVER THE INPUT: true; the input reads as it did. -/
def seasonCountsSpec : ChangeSpec := { name := "seasonCounts", fn := fun _ => fun
  | [d1, d2, d3, d4] => { results := [.lit (.bool true)], args := [d1, d2, d3, d4] }
  | _ => none }
def seasonCountsRow : OpenClaim := { program := "ythninollljphoaa", sum := "0f327d276efa3532818df888e0e964211698984e14d602aecabdba7d89a3dba4", func := "paybook/paybooklaw02.SeasonCounts", spec := "seasonCounts", apart := false }
def SeasonCountsSaid : Prop := seasonCountsRow.holds Try.pinned (OpenSpec.ofChange seasonCountsSpec)

/-- ITS FALSE NEIGHBOUR: 'it returns false'. Refute it at one input. -/
def seasonCountsWrong : ChangeSpec := { name := "seasonCounts", fn := fun _ => fun
  | [d1, d2, d3, d4] => { results := [.lit (.bool false)], args := [d1, d2, d3, d4] }
  | _ => none }
def SeasonCountsWrongFalsely : Prop := seasonCountsRow.holds Try.pinned (OpenSpec.ofChange seasonCountsWrong)

/-- 'paybooklaw02.SeasonSpans': WHATEVER THE INPUT: true; the input reads as it did. -/
def seasonSpansSpec : ChangeSpec := { name := "seasonSpans", fn := fun _ => fun
  | [d1, d2, d3, d4] => { results := [.lit (.bool true)], args := [d1, d2, d3, d4] }
  | _ => none }
def seasonSpansRow : OpenClaim := { program := "ythninollljphoaa", sum := "0f327d276efa3532818df888e0e964211698984e14d602aecabdba7d89a3dba4", func := "paybook/paybooklaw02.SeasonSpans", spec := "seasonSpans", apart := false }
def SeasonSpansSaid : Prop := seasonSpansRow.holds Try.pinned (OpenSpec.ofChange seasonSpansSpec)

/-- ITS FALSE NEIGHBOUR: 'it returns false'. Refute it at one input. -/
def seasonSpansWrong : ChangeSpec := { name := "seasonSpans", fn := fun _ => fun
  | [d1, d2, d3, d4] => { results := [.lit (.bool false)], args := [d1, d2, d3, d4] }
  | _ => none }
def SeasonSpansWrongFalsely : Prop := seasonSpansRow.holds Try.pinned (OpenSpec.ofChange seasonSpansWrong)

/- THE SECOND FORM. 'bulk': how many values and letters a reading holds, each counted each time it is reached (what is shared counts as often as it is met; a slice's spare places count too). A statement '..UptoSaid' is the law's where the arguments, and the package variables that the reading takes, are together of bulk at most 1048576: NARROWER than '..Said'. Prove '..Said' where nothing that the law and all that it calls make is longer than what came in: it says more and counts as full. Else prove '..UptoSaid'. A law counts once. -/
mutual
def uptoBulk {H : Type} : DataW H → Nat
  | .lit (.string bytes) => bytes.length + 1
  | .lit _ => 1
  | .nil => 1
  | .ptr d => uptoBulk d + 1
  | .slice elems spare => uptoBulkAll elems + uptoBulkAll spare + 1
  | .agg parts => uptoBulkAll parts + 1
  | .iface _ d => uptoBulk d + 1
  | .map entries => uptoBulkEntries entries + 1
  | .held _ => 1
def uptoBulkAll {H : Type} : List (DataW H) → Nat
  | [] => 0
  | d :: r => uptoBulk d + uptoBulkAll r
def uptoBulkEntries {H : Type} : List (Lit × DataW H) → Nat
  | [] => 0
  | x :: r => uptoBulkEntry x + uptoBulkEntries r
def uptoBulkEntry {H : Type} : Lit × DataW H → Nat
  | (.string bytes, d) => bytes.length + uptoBulk d + 1
  | (_, d) => uptoBulk d + 1
 end
def uptoSmall : (H : Type) → List (DataW H) → Bool := fun _ ds => decide (uptoBulkAll ds ≤ 1048576)
def OpenSpec.upto (s : _root_.Go.ChangeSpec) : _root_.Go.OpenSpec := { _root_.Go.OpenSpec.ofChange s with cond := some uptoSmall }

/-- 'paybooklaw02.SeasonNths', WHERE WHAT IT READS IS OF BULK AT MOST 1048576: true; the input reads as it did. -/
def seasonNthsUptoRow : OpenClaim := { program := "ythninollljphoaa", sum := "0f327d276efa3532818df888e0e964211698984e14d602aecabdba7d89a3dba4", func := "paybook/paybooklaw02.SeasonNths", spec := "seasonNths", apart := false, narrowed := true }
def SeasonNthsUptoSaid : Prop := seasonNthsUptoRow.holds Try.pinned (OpenSpec.upto seasonNthsSpec)

/-- 'paybooklaw02.SeasonArgs', WHERE WHAT IT READS IS OF BULK AT MOST 1048576: true; the input reads as it did. -/
def seasonArgsUptoRow : OpenClaim := { program := "ythninollljphoaa", sum := "0f327d276efa3532818df888e0e964211698984e14d602aecabdba7d89a3dba4", func := "paybook/paybooklaw02.SeasonArgs", spec := "seasonArgs", apart := false, narrowed := true }
def SeasonArgsUptoSaid : Prop := seasonArgsUptoRow.holds Try.pinned (OpenSpec.upto seasonArgsSpec)

/-- 'paybooklaw02.SeasonRises', WHERE WHAT IT READS IS OF BULK AT MOST 1048576: true; the input reads as it did. -/
def seasonRisesUptoRow : OpenClaim := { program := "ythninollljphoaa", sum := "0f327d276efa3532818df888e0e964211698984e14d602aecabdba7d89a3dba4", func := "paybook/paybooklaw02.SeasonRises", spec := "seasonRises", apart := false, narrowed := true }
def SeasonRisesUptoSaid : Prop := seasonRisesUptoRow.holds Try.pinned (OpenSpec.upto seasonRisesSpec)

/-- 'paybooklaw02.SeasonSums', WHERE WHAT IT READS IS OF BULK AT MOST 1048576: true; the input reads as it did. -/
def seasonSumsUptoRow : OpenClaim := { program := "ythninollljphoaa", sum := "0f327d276efa3532818df888e0e964211698984e14d602aecabdba7d89a3dba4", func := "paybook/paybooklaw02.SeasonSums", spec := "seasonSums", apart := false, narrowed := true }
def SeasonSumsUptoSaid : Prop := seasonSumsUptoRow.holds Try.pinned (OpenSpec.upto seasonSumsSpec)

/-- 'paybooklaw02.SeasonYears', WHERE WHAT IT READS IS OF BULK AT MOST 1048576: true; the input reads as it did. -/
def seasonYearsUptoRow : OpenClaim := { program := "ythninollljphoaa", sum := "0f327d276efa3532818df888e0e964211698984e14d602aecabdba7d89a3dba4", func := "paybook/paybooklaw02.SeasonYears", spec := "seasonYears", apart := false, narrowed := true }
def SeasonYearsUptoSaid : Prop := seasonYearsUptoRow.holds Try.pinned (OpenSpec.upto seasonYearsSpec)

/-- 'paybooklaw02.SeasonCounts', WHERE WHAT IT READS IS OF BULK AT MOST 1048576: true; the input reads as it did. -/
def seasonCountsUptoRow : OpenClaim := { program := "ythninollljphoaa", sum := "0f327d276efa3532818df888e0e964211698984e14d602aecabdba7d89a3dba4", func := "paybook/paybooklaw02.SeasonCounts", spec := "seasonCounts", apart := false, narrowed := true }
def SeasonCountsUptoSaid : Prop := seasonCountsUptoRow.holds Try.pinned (OpenSpec.upto seasonCountsSpec)

/-- 'paybooklaw02.SeasonSpans', WHERE WHAT IT READS IS OF BULK AT MOST 1048576: true; the input reads as it did. -/
def seasonSpansUptoRow : OpenClaim := { program := "ythninollljphoaa", sum := "0f327d276efa3532818df888e0e964211698984e14d602aecabdba7d89a3dba4", func := "paybook/paybooklaw02.SeasonSpans", spec := "seasonSpans", apart := false, narrowed := true }
def SeasonSpansUptoSaid : Prop := seasonSpansUptoRow.holds Try.pinned (OpenSpec.upto seasonSpansSpec)

end Rows
end Go.Proofs.Ythninollljphoaa
