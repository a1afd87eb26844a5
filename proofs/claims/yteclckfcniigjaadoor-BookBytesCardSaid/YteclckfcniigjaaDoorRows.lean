/-
  NARROWER THAN 'FOR EVERY INPUT', by the rows' own cells (each row's printed sentence says how): BookPlays: laid · BookAsks: laid · BookEnds: laid · BookOthers: laid · BookKeeps: laid · BookParts: laid · BookBytes: laid · BookReads: laid.
  DERIVED. THE GIVEN ROWS OF THIS SEAT. 8 by the template 'for every input the law returns true; each argument reads behind the call as it read before'; 0 by the template 'total and deterministic' (their statements: YteclckfcniigjaaDoorTotals.lean).
  GIVEN WITH THE SEED: the statements are not yours to turn. If you find one false, say at which input.
  Laid BY PROGRAM, IN A SANDBOX (cutbox-rows.mjs): the forced cells as the released guide's own fill.sh prints them over the translation c83e57222487cce4… (all of the seat's roots in one cut). By AI agents, Wed Nov 11 2026. No macro, syntax, notation, axiom, sorry.
-/
import Derived.Test.YteclckfcniigjaaDoorChecked
import GoSem.Claim
import GoSem.ClaimJoined
import GoSem.ClaimMapViews
import Derived.JoinedTies
import Derived.KernelRfl
namespace Go.Proofs.YteclckfcniigjaaDoor
/- THE CELL 'sum', in the pinned program and in every row, IS THE sha256 OF THE DUMP (.gsa) THAT YteclckfcniigjaaDoorProg.lean LOADS. Nothing in Lean hashes anything: it is a label: what it is worth is what the hold of that sum in a sandbox is worth. -/
noncomputable def Tryd.pinned : Pinned := { name := "yteclckfcniigjaadoor", sum := "c83e57222487cce4adf7d2fc6eecd1b781dc124184d5a085b8fce38f87e5e91a", checked := Tryd.checked }
namespace Rows
def none {H : Type} : Left H := { results := [], args := [] }

/- WHAT THE LISTED PACKAGE-LEVEL VARIABLES READ AS WHEN THE CALL BEGINS. Each datum BY PROGRAM (the guide's laid-datum.mjs) off the statement by which the dump's own 'gosem.cut.vars' lays the variable. In a bare row this is a premise. The card (YteclckfcniigjaaDoorCards.lean) ties it to the program's text. -/
def laid_paybook_cycle_ladder {H : Type} : DataW H := .agg [.lit (.int .i64 1), .lit (.int .i64 3), .lit (.int .i64 7)]

/-- 'paybooklaw14.BookPlays': WHATEVER THE INPUT: true; the input reads as it did. -/
def bookPlaysSpec : ChangeSpec := { name := "bookPlays", fn := fun _ => fun
  | [d1, d2, d3] => { results := [.lit (.bool true)], args := [d1, d2, d3] }
  | _ => none }
def bookPlaysRow : OpenClaim := { program := "yteclckfcniigjaadoor", sum := "c83e57222487cce4adf7d2fc6eecd1b781dc124184d5a085b8fce38f87e5e91a", func := "paybook/paybooklaw14.BookPlays", spec := "bookPlays", named := ["paybook/cycle.ladder", "math/bits.divideError", "math/bits.overflowError"], apart := false, laid := [("paybook/cycle.ladder", laid_paybook_cycle_ladder)] }
def BookPlaysSaid : Prop := bookPlaysRow.holds Tryd.pinned (OpenSpec.ofChange bookPlaysSpec)

/-- ITS FALSE NEIGHBOUR: 'it returns false'. Refute it at one input. -/
def bookPlaysWrong : ChangeSpec := { name := "bookPlays", fn := fun _ => fun
  | [d1, d2, d3] => { results := [.lit (.bool false)], args := [d1, d2, d3] }
  | _ => none }
def BookPlaysWrongFalsely : Prop := bookPlaysRow.holds Tryd.pinned (OpenSpec.ofChange bookPlaysWrong)

/-- 'paybooklaw14.BookAsks': WHATEVER THE INPUT: true; the input reads as it did. -/
def bookAsksSpec : ChangeSpec := { name := "bookAsks", fn := fun _ => fun
  | [d1, d2] => { results := [.lit (.bool true)], args := [d1, d2] }
  | _ => none }
def bookAsksRow : OpenClaim := { program := "yteclckfcniigjaadoor", sum := "c83e57222487cce4adf7d2fc6eecd1b781dc124184d5a085b8fce38f87e5e91a", func := "paybook/paybooklaw14.BookAsks", spec := "bookAsks", named := ["paybook/cycle.ladder", "math/bits.divideError", "math/bits.overflowError"], apart := false, laid := [("paybook/cycle.ladder", laid_paybook_cycle_ladder)] }
def BookAsksSaid : Prop := bookAsksRow.holds Tryd.pinned (OpenSpec.ofChange bookAsksSpec)

/-- ITS FALSE NEIGHBOUR: 'it returns false'. Refute it at one input. -/
def bookAsksWrong : ChangeSpec := { name := "bookAsks", fn := fun _ => fun
  | [d1, d2] => { results := [.lit (.bool false)], args := [d1, d2] }
  | _ => none }
def BookAsksWrongFalsely : Prop := bookAsksRow.holds Tryd.pinned (OpenSpec.ofChange bookAsksWrong)

/-- 'paybooklaw14.BookEnds': WHATEVER THE INPUT: true; the input reads as it did. -/
def bookEndsSpec : ChangeSpec := { name := "bookEnds", fn := fun _ => fun
  | [d1, d2, d3] => { results := [.lit (.bool true)], args := [d1, d2, d3] }
  | _ => none }
def bookEndsRow : OpenClaim := { program := "yteclckfcniigjaadoor", sum := "c83e57222487cce4adf7d2fc6eecd1b781dc124184d5a085b8fce38f87e5e91a", func := "paybook/paybooklaw14.BookEnds", spec := "bookEnds", named := ["paybook/cycle.ladder", "math/bits.divideError", "math/bits.overflowError"], apart := false, laid := [("paybook/cycle.ladder", laid_paybook_cycle_ladder)] }
def BookEndsSaid : Prop := bookEndsRow.holds Tryd.pinned (OpenSpec.ofChange bookEndsSpec)

/-- ITS FALSE NEIGHBOUR: 'it returns false'. Refute it at one input. -/
def bookEndsWrong : ChangeSpec := { name := "bookEnds", fn := fun _ => fun
  | [d1, d2, d3] => { results := [.lit (.bool false)], args := [d1, d2, d3] }
  | _ => none }
def BookEndsWrongFalsely : Prop := bookEndsRow.holds Tryd.pinned (OpenSpec.ofChange bookEndsWrong)

/-- 'paybooklaw14.BookOthers': WHATEVER THE INPUT: true; the input reads as it did. -/
def bookOthersSpec : ChangeSpec := { name := "bookOthers", fn := fun _ => fun
  | [d1, d2, d3] => { results := [.lit (.bool true)], args := [d1, d2, d3] }
  | _ => none }
def bookOthersRow : OpenClaim := { program := "yteclckfcniigjaadoor", sum := "c83e57222487cce4adf7d2fc6eecd1b781dc124184d5a085b8fce38f87e5e91a", func := "paybook/paybooklaw14.BookOthers", spec := "bookOthers", named := ["paybook/cycle.ladder", "math/bits.divideError", "math/bits.overflowError"], apart := false, laid := [("paybook/cycle.ladder", laid_paybook_cycle_ladder)] }
def BookOthersSaid : Prop := bookOthersRow.holds Tryd.pinned (OpenSpec.ofChange bookOthersSpec)

/-- ITS FALSE NEIGHBOUR: 'it returns false'. Refute it at one input. -/
def bookOthersWrong : ChangeSpec := { name := "bookOthers", fn := fun _ => fun
  | [d1, d2, d3] => { results := [.lit (.bool false)], args := [d1, d2, d3] }
  | _ => none }
def BookOthersWrongFalsely : Prop := bookOthersRow.holds Tryd.pinned (OpenSpec.ofChange bookOthersWrong)

/-- 'paybooklaw14.BookKeeps': WHATEVER THE INPUT: true; the input reads as it did. -/
def bookKeepsSpec : ChangeSpec := { name := "bookKeeps", fn := fun _ => fun
  | [d1, d2, d3, d4] => { results := [.lit (.bool true)], args := [d1, d2, d3, d4] }
  | _ => none }
def bookKeepsRow : OpenClaim := { program := "yteclckfcniigjaadoor", sum := "c83e57222487cce4adf7d2fc6eecd1b781dc124184d5a085b8fce38f87e5e91a", func := "paybook/paybooklaw14.BookKeeps", spec := "bookKeeps", named := ["paybook/cycle.ladder", "math/bits.divideError", "math/bits.overflowError"], apart := false, laid := [("paybook/cycle.ladder", laid_paybook_cycle_ladder)] }
def BookKeepsSaid : Prop := bookKeepsRow.holds Tryd.pinned (OpenSpec.ofChange bookKeepsSpec)

/-- ITS FALSE NEIGHBOUR: 'it returns false'. Refute it at one input. -/
def bookKeepsWrong : ChangeSpec := { name := "bookKeeps", fn := fun _ => fun
  | [d1, d2, d3, d4] => { results := [.lit (.bool false)], args := [d1, d2, d3, d4] }
  | _ => none }
def BookKeepsWrongFalsely : Prop := bookKeepsRow.holds Tryd.pinned (OpenSpec.ofChange bookKeepsWrong)

/-- 'paybooklaw14.BookParts': WHATEVER THE INPUT: true; the input reads as it did. -/
def bookPartsSpec : ChangeSpec := { name := "bookParts", fn := fun _ => fun
  | [d1, d2, d3, d4, d5, d6] => { results := [.lit (.bool true)], args := [d1, d2, d3, d4, d5, d6] }
  | _ => none }
def bookPartsRow : OpenClaim := { program := "yteclckfcniigjaadoor", sum := "c83e57222487cce4adf7d2fc6eecd1b781dc124184d5a085b8fce38f87e5e91a", func := "paybook/paybooklaw14.BookParts", spec := "bookParts", named := ["paybook/cycle.ladder", "math/bits.divideError", "math/bits.overflowError"], apart := false, laid := [("paybook/cycle.ladder", laid_paybook_cycle_ladder)] }
def BookPartsSaid : Prop := bookPartsRow.holds Tryd.pinned (OpenSpec.ofChange bookPartsSpec)

/-- ITS FALSE NEIGHBOUR: 'it returns false'. Refute it at one input. -/
def bookPartsWrong : ChangeSpec := { name := "bookParts", fn := fun _ => fun
  | [d1, d2, d3, d4, d5, d6] => { results := [.lit (.bool false)], args := [d1, d2, d3, d4, d5, d6] }
  | _ => none }
def BookPartsWrongFalsely : Prop := bookPartsRow.holds Tryd.pinned (OpenSpec.ofChange bookPartsWrong)

/-- 'paybooklaw14.BookBytes': WHATEVER THE INPUT: true; the input reads as it did. -/
def bookBytesSpec : ChangeSpec := { name := "bookBytes", fn := fun _ => fun
  | [d1, d2, d3] => { results := [.lit (.bool true)], args := [d1, d2, d3] }
  | _ => none }
def bookBytesRow : OpenClaim := { program := "yteclckfcniigjaadoor", sum := "c83e57222487cce4adf7d2fc6eecd1b781dc124184d5a085b8fce38f87e5e91a", func := "paybook/paybooklaw14.BookBytes", spec := "bookBytes", unfollowed := true, recurses := true, named := ["paybook/cycle.ladder", "math/bits.divideError", "math/bits.overflowError"], apart := false, laid := [("paybook/cycle.ladder", laid_paybook_cycle_ladder)] }
def BookBytesSaid : Prop := bookBytesRow.holds Tryd.pinned (OpenSpec.ofChange bookBytesSpec)

/-- ITS FALSE NEIGHBOUR: 'it returns false'. Refute it at one input. -/
def bookBytesWrong : ChangeSpec := { name := "bookBytes", fn := fun _ => fun
  | [d1, d2, d3] => { results := [.lit (.bool false)], args := [d1, d2, d3] }
  | _ => none }
def BookBytesWrongFalsely : Prop := bookBytesRow.holds Tryd.pinned (OpenSpec.ofChange bookBytesWrong)

/-- 'paybooklaw14.BookReads': WHATEVER THE INPUT: true; the input reads as it did. -/
def bookReadsSpec : ChangeSpec := { name := "bookReads", fn := fun _ => fun
  | [d1, d2, d3, d4] => { results := [.lit (.bool true)], args := [d1, d2, d3, d4] }
  | _ => none }
def bookReadsRow : OpenClaim := { program := "yteclckfcniigjaadoor", sum := "c83e57222487cce4adf7d2fc6eecd1b781dc124184d5a085b8fce38f87e5e91a", func := "paybook/paybooklaw14.BookReads", spec := "bookReads", unfollowed := true, recurses := true, named := ["paybook/cycle.ladder", "math/bits.divideError", "math/bits.overflowError"], apart := false, laid := [("paybook/cycle.ladder", laid_paybook_cycle_ladder)] }
def BookReadsSaid : Prop := bookReadsRow.holds Tryd.pinned (OpenSpec.ofChange bookReadsSpec)

/-- ITS FALSE NEIGHBOUR: 'it returns false'. Refute it at one input. -/
def bookReadsWrong : ChangeSpec := { name := "bookReads", fn := fun _ => fun
  | [d1, d2, d3, d4] => { results := [.lit (.bool false)], args := [d1, d2, d3, d4] }
  | _ => none }
def BookReadsWrongFalsely : Prop := bookReadsRow.holds Tryd.pinned (OpenSpec.ofChange bookReadsWrong)

/- THE SECOND FORM. 'bulk': how many values and letters a reading holds, each counted each time it is reached (what is shared counts as often as it is met; a slice's spare places count too). A statement '..UptoSaid' is the law's where the arguments, and the package variables that the reading takes, are together of bulk at most 1048576: NARROWER than '..Said'. Prove '..Said' where nothing that the law and all that it calls make is longer than what came in: it says more and counts as full. Else prove '..UptoSaid'. A law counts once. -/
mutual
def uptoBulk {H : Type} : DataW H → Nat
  | .lit (.string bytes) => bytes.length + 1
  | .lit _ => 1
  | .nil => 1
  | .ptr d => uptoBulk d + 1
  | .slice elems spare => uptoBulkAll elems + uptoBulkAll spare + 1
  | .agg parts => uptoBulkAll parts + 1
  | .iface _ d => uptoBulk d + 1
  | .map entries => uptoBulkEntries entries + 1
  | .held _ => 1
def uptoBulkAll {H : Type} : List (DataW H) → Nat
  | [] => 0
  | d :: r => uptoBulk d + uptoBulkAll r
def uptoBulkEntries {H : Type} : List (Lit × DataW H) → Nat
  | [] => 0
  | x :: r => uptoBulkEntry x + uptoBulkEntries r
def uptoBulkEntry {H : Type} : Lit × DataW H → Nat
  | (.string bytes, d) => bytes.length + uptoBulk d + 1
  | (_, d) => uptoBulk d + 1
 end
def uptoSmall : (H : Type) → List (DataW H) → Bool := fun _ ds => decide (uptoBulkAll ds ≤ 1048576)
def OpenSpec.upto (s : _root_.Go.ChangeSpec) : _root_.Go.OpenSpec := { _root_.Go.OpenSpec.ofChange s with cond := some uptoSmall }

/-- 'paybooklaw14.BookPlays', WHERE WHAT IT READS IS OF BULK AT MOST 1048576: true; the input reads as it did. -/
def bookPlaysUptoRow : OpenClaim := { program := "yteclckfcniigjaadoor", sum := "c83e57222487cce4adf7d2fc6eecd1b781dc124184d5a085b8fce38f87e5e91a", func := "paybook/paybooklaw14.BookPlays", spec := "bookPlays", named := ["paybook/cycle.ladder", "math/bits.divideError", "math/bits.overflowError"], apart := false, laid := [("paybook/cycle.ladder", laid_paybook_cycle_ladder)], narrowed := true }
def BookPlaysUptoSaid : Prop := bookPlaysUptoRow.holds Tryd.pinned (OpenSpec.upto bookPlaysSpec)

/-- 'paybooklaw14.BookAsks', WHERE WHAT IT READS IS OF BULK AT MOST 1048576: true; the input reads as it did. -/
def bookAsksUptoRow : OpenClaim := { program := "yteclckfcniigjaadoor", sum := "c83e57222487cce4adf7d2fc6eecd1b781dc124184d5a085b8fce38f87e5e91a", func := "paybook/paybooklaw14.BookAsks", spec := "bookAsks", named := ["paybook/cycle.ladder", "math/bits.divideError", "math/bits.overflowError"], apart := false, laid := [("paybook/cycle.ladder", laid_paybook_cycle_ladder)], narrowed := true }
def BookAsksUptoSaid : Prop := bookAsksUptoRow.holds Tryd.pinned (OpenSpec.upto bookAsksSpec)

/-- 'paybooklaw14.BookEnds', WHERE WHAT IT READS IS OF BULK AT MOST 1048576: true; the input reads as it did. -/
def bookEndsUptoRow : OpenClaim := { program := "yteclckfcniigjaadoor", sum := "c83e57222487cce4adf7d2fc6eecd1b781dc124184d5a085b8fce38f87e5e91a", func := "paybook/paybooklaw14.BookEnds", spec := "bookEnds", named := ["paybook/cycle.ladder", "math/bits.divideError", "math/bits.overflowError"], apart := false, laid := [("paybook/cycle.ladder", laid_paybook_cycle_ladder)], narrowed := true }
def BookEndsUptoSaid : Prop := bookEndsUptoRow.holds Tryd.pinned (OpenSpec.upto bookEndsSpec)

/-- 'paybooklaw14.BookOthers', WHERE WHAT IT READS IS OF BULK AT MOST 1048576: true; the input reads as it did. -/
def bookOthersUptoRow : OpenClaim := { program := "yteclckfcniigjaadoor", sum := "c83e57222487cce4adf7d2fc6eecd1b781dc124184d5a085b8fce38f87e5e91a", func := "paybook/paybooklaw14.BookOthers", spec := "bookOthers", named := ["paybook/cycle.ladder", "math/bits.divideError", "math/bits.overflowError"], apart := false, laid := [("paybook/cycle.ladder", laid_paybook_cycle_ladder)], narrowed := true }
def BookOthersUptoSaid : Prop := bookOthersUptoRow.holds Tryd.pinned (OpenSpec.upto bookOthersSpec)

/-- 'paybooklaw14.BookKeeps', WHERE WHAT IT READS IS OF BULK AT MOST 1048576: true; the input reads as it did. -/
def bookKeepsUptoRow : OpenClaim := { program := "yteclckfcniigjaadoor", sum := "c83e57222487cce4adf7d2fc6eecd1b781dc124184d5a085b8fce38f87e5e91a", func := "paybook/paybooklaw14.BookKeeps", spec := "bookKeeps", named := ["paybook/cycle.ladder", "math/bits.divideError", "math/bits.overflowError"], apart := false, laid := [("paybook/cycle.ladder", laid_paybook_cycle_ladder)], narrowed := true }
def BookKeepsUptoSaid : Prop := bookKeepsUptoRow.holds Tryd.pinned (OpenSpec.upto bookKeepsSpec)

/-- 'paybooklaw14.BookParts', WHERE WHAT IT READS IS OF BULK AT MOST 1048576: true; the input reads as it did. -/
def bookPartsUptoRow : OpenClaim := { program := "yteclckfcniigjaadoor", sum := "c83e57222487cce4adf7d2fc6eecd1b781dc124184d5a085b8fce38f87e5e91a", func := "paybook/paybooklaw14.BookParts", spec := "bookParts", named := ["paybook/cycle.ladder", "math/bits.divideError", "math/bits.overflowError"], apart := false, laid := [("paybook/cycle.ladder", laid_paybook_cycle_ladder)], narrowed := true }
def BookPartsUptoSaid : Prop := bookPartsUptoRow.holds Tryd.pinned (OpenSpec.upto bookPartsSpec)

/-- 'paybooklaw14.BookBytes', WHERE WHAT IT READS IS OF BULK AT MOST 1048576: true; the input reads as it did. -/
def bookBytesUptoRow : OpenClaim := { program := "yteclckfcniigjaadoor", sum := "c83e57222487cce4adf7d2fc6eecd1b781dc124184d5a085b8fce38f87e5e91a", func := "paybook/paybooklaw14.BookBytes", spec := "bookBytes", unfollowed := true, recurses := true, named := ["paybook/cycle.ladder", "math/bits.divideError", "math/bits.overflowError"], apart := false, laid := [("paybook/cycle.ladder", laid_paybook_cycle_ladder)], narrowed := true }
def BookBytesUptoSaid : Prop := bookBytesUptoRow.holds Tryd.pinned (OpenSpec.upto bookBytesSpec)

/-- 'paybooklaw14.BookReads', WHERE WHAT IT READS IS OF BULK AT MOST 1048576: true; the input reads as it did. -/
def bookReadsUptoRow : OpenClaim := { program := "yteclckfcniigjaadoor", sum := "c83e57222487cce4adf7d2fc6eecd1b781dc124184d5a085b8fce38f87e5e91a", func := "paybook/paybooklaw14.BookReads", spec := "bookReads", unfollowed := true, recurses := true, named := ["paybook/cycle.ladder", "math/bits.divideError", "math/bits.overflowError"], apart := false, laid := [("paybook/cycle.ladder", laid_paybook_cycle_ladder)], narrowed := true }
def BookReadsUptoSaid : Prop := bookReadsUptoRow.holds Tryd.pinned (OpenSpec.upto bookReadsSpec)

end Rows
end Go.Proofs.YteclckfcniigjaaDoor
