/-
  No cell of these rows narrows 'for every input' (looked for: loops, veiled, ifaces, maps, wideKeys, modest, calm, conditions, laid).
  DERIVED. THE GIVEN ROWS OF THIS SEAT. 6 by the template 'for every input the law returns true; each argument reads behind the call as it read before'; 0 by the template 'total and deterministic' (their statements: YtnpcodfeggcdbaaTotals.lean).
  GIVEN WITH THE SEED: the statements are not yours to turn. If you find one false, say at which input.
  Laid BY PROGRAM, IN A SANDBOX (cutbox-rows.mjs): the forced cells as the released guide's own fill.sh prints them over the translation e4f0346b51aad582… (all of the seat's roots in one cut). By AI agents, Wed Nov 11 2026. No macro, syntax, notation, axiom, sorry.
-/
import Derived.Test.YtnpcodfeggcdbaaChecked
import GoSem.Claim
import GoSem.ClaimJoined
import GoSem.ClaimMapViews
import Derived.JoinedTies
import Derived.KernelRfl
namespace Go.Proofs.Ytnpcodfeggcdbaa
/- THE CELL 'sum', in the pinned program and in every row, IS THE sha256 OF THE DUMP (.gsa) THAT YtnpcodfeggcdbaaProg.lean LOADS. Nothing in Lean hashes anything: it is a label: what it is worth is what the hold of that sum in a sandbox is worth. -/
noncomputable def Try.pinned : Pinned := { name := "ytnpcodfeggcdbaa", sum := "e4f0346b51aad58214ff65719d0d14cfc911dc1b2537af4bac00e687837cb740", checked := Try.checked }
namespace Rows
def none {H : Type} : Left H := { results := [], args := [] }

/-- 'paybooklaw13.AccountCatches': WHATEVER THE INPUT: true; the input reads as it did. -/
def accountCatchesSpec : ChangeSpec := { name := "accountCatches", fn := fun _ => fun
  | [d1, d2, d3] => { results := [.lit (.bool true)], args := [d1, d2, d3] }
  | _ => none }
def accountCatchesRow : OpenClaim := { program := "ytnpcodfeggcdbaa", sum := "e4f0346b51aad58214ff65719d0d14cfc911dc1b2537af4bac00e687837cb740", func := "paybook/paybooklaw13.AccountCatches", spec := "accountCatches", apart := false }
def AccountCatchesSaid : Prop := accountCatchesRow.holds Try.pinned (OpenSpec.ofChange accountCatchesSpec)

/-- ITS FALSE NEIGHBOUR: 'it returns false'. Refute it at one input. -/
def accountCatchesWrong : ChangeSpec := { name := "accountCatches", fn := fun _ => fun
  | [d1, d2, d3] => { results := [.lit (.bool false)], args := [d1, d2, d3] }
  | _ => none }
def AccountCatchesWrongFalsely : Prop := accountCatchesRow.holds Try.pinned (OpenSpec.ofChange accountCatchesWrong)

/-- 'paybooklaw13.AccountLast': WHATEVER THE INPUT: true; the input reads as it did. -/
def accountLastSpec : ChangeSpec := { name := "accountLast", fn := fun _ => fun
  | [d1, d2, d3] => { results := [.lit (.bool true)], args := [d1, d2, d3] }
  | _ => none }
def accountLastRow : OpenClaim := { program := "ytnpcodfeggcdbaa", sum := "e4f0346b51aad58214ff65719d0d14cfc911dc1b2537af4bac00e687837cb740", func := "paybook/paybooklaw13.AccountLast", spec := "accountLast", apart := false }
def AccountLastSaid : Prop := accountLastRow.holds Try.pinned (OpenSpec.ofChange accountLastSpec)

/-- ITS FALSE NEIGHBOUR: 'it returns false'. Refute it at one input. -/
def accountLastWrong : ChangeSpec := { name := "accountLast", fn := fun _ => fun
  | [d1, d2, d3] => { results := [.lit (.bool false)], args := [d1, d2, d3] }
  | _ => none }
def AccountLastWrongFalsely : Prop := accountLastRow.holds Try.pinned (OpenSpec.ofChange accountLastWrong)

/-- 'paybooklaw13.AccountDues': WHATEVER THE INPUT: true; the input reads as it did. -/
def accountDuesSpec : ChangeSpec := { name := "accountDues", fn := fun _ => fun
  | [d1, d2, d3] => { results := [.lit (.bool true)], args := [d1, d2, d3] }
  | _ => none }
def accountDuesRow : OpenClaim := { program := "ytnpcodfeggcdbaa", sum := "e4f0346b51aad58214ff65719d0d14cfc911dc1b2537af4bac00e687837cb740", func := "paybook/paybooklaw13.AccountDues", spec := "accountDues", apart := false }
def AccountDuesSaid : Prop := accountDuesRow.holds Try.pinned (OpenSpec.ofChange accountDuesSpec)

/-- ITS FALSE NEIGHBOUR: 'it returns false'. Refute it at one input. -/
def accountDuesWrong : ChangeSpec := { name := "accountDues", fn := fun _ => fun
  | [d1, d2, d3] => { results := [.lit (.bool false)], args := [d1, d2, d3] }
  | _ => none }
def AccountDuesWrongFalsely : Prop := accountDuesRow.holds Try.pinned (OpenSpec.ofChange accountDuesWrong)

/-- 'paybooklaw13.AccountSkips': WHATEVER THE INPUT: true; the input reads as it did. -/
def accountSkipsSpec : ChangeSpec := { name := "accountSkips", fn := fun _ => fun
  | [d1, d2, d3] => { results := [.lit (.bool true)], args := [d1, d2, d3] }
  | _ => none }
def accountSkipsRow : OpenClaim := { program := "ytnpcodfeggcdbaa", sum := "e4f0346b51aad58214ff65719d0d14cfc911dc1b2537af4bac00e687837cb740", func := "paybook/paybooklaw13.AccountSkips", spec := "accountSkips", apart := false }
def AccountSkipsSaid : Prop := accountSkipsRow.holds Try.pinned (OpenSpec.ofChange accountSkipsSpec)

/-- ITS FALSE NEIGHBOUR: 'it returns false'. Refute it at one input. -/
def accountSkipsWrong : ChangeSpec := { name := "accountSkips", fn := fun _ => fun
  | [d1, d2, d3] => { results := [.lit (.bool false)], args := [d1, d2, d3] }
  | _ => none }
def AccountSkipsWrongFalsely : Prop := accountSkipsRow.holds Try.pinned (OpenSpec.ofChange accountSkipsWrong)

/-- 'paybooklaw13.AccountCredits': WHATEVER THE INPUT: true; the input reads as it did. -/
def accountCreditsSpec : ChangeSpec := { name := "accountCredits", fn := fun _ => fun
  | [d1, d2, d3, d4, d5] => { results := [.lit (.bool true)], args := [d1, d2, d3, d4, d5] }
  | _ => none }
def accountCreditsRow : OpenClaim := { program := "ytnpcodfeggcdbaa", sum := "e4f0346b51aad58214ff65719d0d14cfc911dc1b2537af4bac00e687837cb740", func := "paybook/paybooklaw13.AccountCredits", spec := "accountCredits", named := ["math/bits.divideError", "math/bits.overflowError"], apart := false }
def AccountCreditsSaid : Prop := accountCreditsRow.holds Try.pinned (OpenSpec.ofChange accountCreditsSpec)

/-- ITS FALSE NEIGHBOUR: 'it returns false'. Refute it at one input. -/
def accountCreditsWrong : ChangeSpec := { name := "accountCredits", fn := fun _ => fun
  | [d1, d2, d3, d4, d5] => { results := [.lit (.bool false)], args := [d1, d2, d3, d4, d5] }
  | _ => none }
def AccountCreditsWrongFalsely : Prop := accountCreditsRow.holds Try.pinned (OpenSpec.ofChange accountCreditsWrong)

/-- 'paybooklaw13.AccountRests': WHATEVER THE INPUT: true; the input reads as it did. -/
def accountRestsSpec : ChangeSpec := { name := "accountRests", fn := fun _ => fun
  | [d1, d2, d3, d4] => { results := [.lit (.bool true)], args := [d1, d2, d3, d4] }
  | _ => none }
def accountRestsRow : OpenClaim := { program := "ytnpcodfeggcdbaa", sum := "e4f0346b51aad58214ff65719d0d14cfc911dc1b2537af4bac00e687837cb740", func := "paybook/paybooklaw13.AccountRests", spec := "accountRests", named := ["math/bits.divideError", "math/bits.overflowError"], apart := false }
def AccountRestsSaid : Prop := accountRestsRow.holds Try.pinned (OpenSpec.ofChange accountRestsSpec)

/-- ITS FALSE NEIGHBOUR: 'it returns false'. Refute it at one input. -/
def accountRestsWrong : ChangeSpec := { name := "accountRests", fn := fun _ => fun
  | [d1, d2, d3, d4] => { results := [.lit (.bool false)], args := [d1, d2, d3, d4] }
  | _ => none }
def AccountRestsWrongFalsely : Prop := accountRestsRow.holds Try.pinned (OpenSpec.ofChange accountRestsWrong)

/- THE SECOND FORM. 'bulk': how many values and letters a reading holds, each counted each time it is reached (what is shared counts as often as it is met; a slice's spare places count too). A statement '..UptoSaid' is the law's where the arguments, and the package variables that the reading takes, are together of bulk at most 1048576: NARROWER than '..Said'. Prove '..Said' where nothing that the law and all that it calls make is longer than what came in: it says more and counts as full. Else prove '..UptoSaid'. A law counts once. -/
mutual
def uptoBulk {H : Type} : DataW H → Nat
  | .lit (.string bytes) => bytes.length + 1
  | .lit _ => 1
  | .nil => 1
  | .ptr d => uptoBulk d + 1
  | .slice elems spare => uptoBulkAll elems + uptoBulkAll spare + 1
  | .agg parts => uptoBulkAll parts + 1
  | .iface _ d => uptoBulk d + 1
  | .map entries => uptoBulkEntries entries + 1
  | .held _ => 1
def uptoBulkAll {H : Type} : List (DataW H) → Nat
  | [] => 0
  | d :: r => uptoBulk d + uptoBulkAll r
def uptoBulkEntries {H : Type} : List (Lit × DataW H) → Nat
  | [] => 0
  | x :: r => uptoBulkEntry x + uptoBulkEntries r
def uptoBulkEntry {H : Type} : Lit × DataW H → Nat
  | (.string bytes, d) => bytes.length + uptoBulk d + 1
  | (_, d) => uptoBulk d + 1
 end
def uptoSmall : (H : Type) → List (DataW H) → Bool := fun _ ds => decide (uptoBulkAll ds ≤ 1048576)
def OpenSpec.upto (s : _root_.Go.ChangeSpec) : _root_.Go.OpenSpec := { _root_.Go.OpenSpec.ofChange s with cond := some uptoSmall }

/-- 'paybooklaw13.AccountCatches', WHERE WHAT IT READS IS OF BULK AT MOST 1048576: true; the input reads as it did. -/
def accountCatchesUptoRow : OpenClaim := { program := "ytnpcodfeggcdbaa", sum := "e4f0346b51aad58214ff65719d0d14cfc911dc1b2537af4bac00e687837cb740", func := "paybook/paybooklaw13.AccountCatches", spec := "accountCatches", apart := false, narrowed := true }
def AccountCatchesUptoSaid : Prop := accountCatchesUptoRow.holds Try.pinned (OpenSpec.upto accountCatchesSpec)

/-- 'paybooklaw13.AccountLast', WHERE WHAT IT READS IS OF BULK AT MOST 1048576: true; the input reads as it did. -/
def accountLastUptoRow : OpenClaim := { program := "ytnpcodfeggcdbaa", sum := "e4f0346b51aad58214ff65719d0d14cfc911dc1b2537af4bac00e687837cb740", func := "paybook/paybooklaw13.AccountLast", spec := "accountLast", apart := false, narrowed := true }
def AccountLastUptoSaid : Prop := accountLastUptoRow.holds Try.pinned (OpenSpec.upto accountLastSpec)

/-- 'paybooklaw13.AccountDues', WHERE WHAT IT READS IS OF BULK AT MOST 1048576: true; the input reads as it did. -/
def accountDuesUptoRow : OpenClaim := { program := "ytnpcodfeggcdbaa", sum := "e4f0346b51aad58214ff65719d0d14cfc911dc1b2537af4bac00e687837cb740", func := "paybook/paybooklaw13.AccountDues", spec := "accountDues", apart := false, narrowed := true }
def AccountDuesUptoSaid : Prop := accountDuesUptoRow.holds Try.pinned (OpenSpec.upto accountDuesSpec)

/-- 'paybooklaw13.AccountSkips', WHERE WHAT IT READS IS OF BULK AT MOST 1048576: true; the input reads as it did. -/
def accountSkipsUptoRow : OpenClaim := { program := "ytnpcodfeggcdbaa", sum := "e4f0346b51aad58214ff65719d0d14cfc911dc1b2537af4bac00e687837cb740", func := "paybook/paybooklaw13.AccountSkips", spec := "accountSkips", apart := false, narrowed := true }
def AccountSkipsUptoSaid : Prop := accountSkipsUptoRow.holds Try.pinned (OpenSpec.upto accountSkipsSpec)

/-- 'paybooklaw13.AccountCredits', WHERE WHAT IT READS IS OF BULK AT MOST 1048576: true; the input reads as it did. -/
def accountCreditsUptoRow : OpenClaim := { program := "ytnpcodfeggcdbaa", sum := "e4f0346b51aad58214ff65719d0d14cfc911dc1b2537af4bac00e687837cb740", func := "paybook/paybooklaw13.AccountCredits", spec := "accountCredits", named := ["math/bits.divideError", "math/bits.overflowError"], apart := false, narrowed := true }
def AccountCreditsUptoSaid : Prop := accountCreditsUptoRow.holds Try.pinned (OpenSpec.upto accountCreditsSpec)

/-- 'paybooklaw13.AccountRests', WHERE WHAT IT READS IS OF BULK AT MOST 1048576: true; the input reads as it did. -/
def accountRestsUptoRow : OpenClaim := { program := "ytnpcodfeggcdbaa", sum := "e4f0346b51aad58214ff65719d0d14cfc911dc1b2537af4bac00e687837cb740", func := "paybook/paybooklaw13.AccountRests", spec := "accountRests", named := ["math/bits.divideError", "math/bits.overflowError"], apart := false, narrowed := true }
def AccountRestsUptoSaid : Prop := accountRestsUptoRow.holds Try.pinned (OpenSpec.upto accountRestsSpec)

end Rows
end Go.Proofs.Ytnpcodfeggcdbaa
