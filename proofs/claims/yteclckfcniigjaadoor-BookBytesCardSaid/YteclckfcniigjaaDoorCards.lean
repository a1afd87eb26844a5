/-
  DERIVED. GIVEN WITH THE SEED: THE CARDS: each row of YteclckfcniigjaaDoorRows.lean that lists a variable, with what it lists TIED to the program's text (the seventh form; the later family's looks); each row that meets fmt, with fmt's text TOLD by the authors' own Lean function (tested against real Go, not proved from fmt's source: count such statements apart). THE CARD IS WHAT COUNTS. Prove the row's statement (the work); the ties are given (YteclckfcniigjaaDoorTie.lean); close each card by the builder's one call (the guide's Derived/Test/ToyasCard.lean, 'card_holds'). Laid BY PROGRAM, IN A SANDBOX (cutbox-door.mjs). By AI agents, Wed Nov 11 2026. No macro, syntax, notation, axiom, sorry.
-/
import Derived.Test.YteclckfcniigjaaDoorRows
import GoSem.ClaimSeven
namespace Go.Proofs.YteclckfcniigjaaDoor
namespace Rows

/-- THE TIED CARD OF 'paybooklaw14.BookPlays'. -/
def bookPlaysCard : Claim7 := { stood := { row := bookPlaysRow, standIns := [], harness := (true, "6f1a363e69b54df422a93dd5a141a962cbcd3acd63d13eef16bf79f828d12ee0"), looks := false }, kinds := [], alts := [], laidByText := true, laidKinds := [.data], laidTests := true, laidLooks := .later }
def BookPlaysCardSaid : Prop := Claim7.holds Tryd.pinned (.plain (OpenSpec.ofChange bookPlaysSpec)) bookPlaysCard

/-- THE TIED CARD OF 'paybooklaw14.BookAsks'. -/
def bookAsksCard : Claim7 := { stood := { row := bookAsksRow, standIns := [], harness := (true, "6f1a363e69b54df422a93dd5a141a962cbcd3acd63d13eef16bf79f828d12ee0"), looks := false }, kinds := [], alts := [], laidByText := true, laidKinds := [.data], laidTests := true, laidLooks := .later }
def BookAsksCardSaid : Prop := Claim7.holds Tryd.pinned (.plain (OpenSpec.ofChange bookAsksSpec)) bookAsksCard

/-- THE TIED CARD OF 'paybooklaw14.BookEnds'. -/
def bookEndsCard : Claim7 := { stood := { row := bookEndsRow, standIns := [], harness := (true, "6f1a363e69b54df422a93dd5a141a962cbcd3acd63d13eef16bf79f828d12ee0"), looks := false }, kinds := [], alts := [], laidByText := true, laidKinds := [.data], laidTests := true, laidLooks := .later }
def BookEndsCardSaid : Prop := Claim7.holds Tryd.pinned (.plain (OpenSpec.ofChange bookEndsSpec)) bookEndsCard

/-- THE TIED CARD OF 'paybooklaw14.BookOthers'. -/
def bookOthersCard : Claim7 := { stood := { row := bookOthersRow, standIns := [], harness := (true, "6f1a363e69b54df422a93dd5a141a962cbcd3acd63d13eef16bf79f828d12ee0"), looks := false }, kinds := [], alts := [], laidByText := true, laidKinds := [.data], laidTests := true, laidLooks := .later }
def BookOthersCardSaid : Prop := Claim7.holds Tryd.pinned (.plain (OpenSpec.ofChange bookOthersSpec)) bookOthersCard

/-- THE TIED CARD OF 'paybooklaw14.BookKeeps'. -/
def bookKeepsCard : Claim7 := { stood := { row := bookKeepsRow, standIns := [], harness := (true, "6f1a363e69b54df422a93dd5a141a962cbcd3acd63d13eef16bf79f828d12ee0"), looks := false }, kinds := [], alts := [], laidByText := true, laidKinds := [.data], laidTests := true, laidLooks := .later }
def BookKeepsCardSaid : Prop := Claim7.holds Tryd.pinned (.plain (OpenSpec.ofChange bookKeepsSpec)) bookKeepsCard

/-- THE TIED CARD OF 'paybooklaw14.BookParts'. -/
def bookPartsCard : Claim7 := { stood := { row := bookPartsRow, standIns := [], harness := (true, "6f1a363e69b54df422a93dd5a141a962cbcd3acd63d13eef16bf79f828d12ee0"), looks := false }, kinds := [], alts := [], laidByText := true, laidKinds := [.data], laidTests := true, laidLooks := .later }
def BookPartsCardSaid : Prop := Claim7.holds Tryd.pinned (.plain (OpenSpec.ofChange bookPartsSpec)) bookPartsCard

/-- THE TIED CARD OF 'paybooklaw14.BookBytes'. -/
def bookBytesCard : Claim7 := { stood := { row := bookBytesRow, standIns := [], harness := (true, "6f1a363e69b54df422a93dd5a141a962cbcd3acd63d13eef16bf79f828d12ee0"), looks := false }, kinds := [], alts := [], laidByText := true, laidKinds := [.data], laidTests := true, laidLooks := .later }
def BookBytesCardSaid : Prop := Claim7.holds Tryd.pinned (.plain (OpenSpec.ofChange bookBytesSpec)) bookBytesCard

/-- THE TIED CARD OF 'paybooklaw14.BookReads'. -/
def bookReadsCard : Claim7 := { stood := { row := bookReadsRow, standIns := [], harness := (true, "6f1a363e69b54df422a93dd5a141a962cbcd3acd63d13eef16bf79f828d12ee0"), looks := false }, kinds := [], alts := [], laidByText := true, laidKinds := [.data], laidTests := true, laidLooks := .later }
def BookReadsCardSaid : Prop := Claim7.holds Tryd.pinned (.plain (OpenSpec.ofChange bookReadsSpec)) bookReadsCard

/-- THE SECOND FORM's CARD OF 'paybooklaw14.BookPlays'. -/
def bookPlaysUptoCard : Claim7 := { stood := { row := bookPlaysUptoRow, standIns := [], harness := (true, "6f1a363e69b54df422a93dd5a141a962cbcd3acd63d13eef16bf79f828d12ee0"), looks := false }, kinds := [], alts := [], laidByText := true, laidKinds := [.data], laidTests := true, laidLooks := .later }
def BookPlaysUptoCardSaid : Prop := Claim7.holds Tryd.pinned (.plain (OpenSpec.upto bookPlaysSpec)) bookPlaysUptoCard

/-- THE SECOND FORM's CARD OF 'paybooklaw14.BookAsks'. -/
def bookAsksUptoCard : Claim7 := { stood := { row := bookAsksUptoRow, standIns := [], harness := (true, "6f1a363e69b54df422a93dd5a141a962cbcd3acd63d13eef16bf79f828d12ee0"), looks := false }, kinds := [], alts := [], laidByText := true, laidKinds := [.data], laidTests := true, laidLooks := .later }
def BookAsksUptoCardSaid : Prop := Claim7.holds Tryd.pinned (.plain (OpenSpec.upto bookAsksSpec)) bookAsksUptoCard

/-- THE SECOND FORM's CARD OF 'paybooklaw14.BookEnds'. -/
def bookEndsUptoCard : Claim7 := { stood := { row := bookEndsUptoRow, standIns := [], harness := (true, "6f1a363e69b54df422a93dd5a141a962cbcd3acd63d13eef16bf79f828d12ee0"), looks := false }, kinds := [], alts := [], laidByText := true, laidKinds := [.data], laidTests := true, laidLooks := .later }
def BookEndsUptoCardSaid : Prop := Claim7.holds Tryd.pinned (.plain (OpenSpec.upto bookEndsSpec)) bookEndsUptoCard

/-- THE SECOND FORM's CARD OF 'paybooklaw14.BookOthers'. -/
def bookOthersUptoCard : Claim7 := { stood := { row := bookOthersUptoRow, standIns := [], harness := (true, "6f1a363e69b54df422a93dd5a141a962cbcd3acd63d13eef16bf79f828d12ee0"), looks := false }, kinds := [], alts := [], laidByText := true, laidKinds := [.data], laidTests := true, laidLooks := .later }
def BookOthersUptoCardSaid : Prop := Claim7.holds Tryd.pinned (.plain (OpenSpec.upto bookOthersSpec)) bookOthersUptoCard

/-- THE SECOND FORM's CARD OF 'paybooklaw14.BookKeeps'. -/
def bookKeepsUptoCard : Claim7 := { stood := { row := bookKeepsUptoRow, standIns := [], harness := (true, "6f1a363e69b54df422a93dd5a141a962cbcd3acd63d13eef16bf79f828d12ee0"), looks := false }, kinds := [], alts := [], laidByText := true, laidKinds := [.data], laidTests := true, laidLooks := .later }
def BookKeepsUptoCardSaid : Prop := Claim7.holds Tryd.pinned (.plain (OpenSpec.upto bookKeepsSpec)) bookKeepsUptoCard

/-- THE SECOND FORM's CARD OF 'paybooklaw14.BookParts'. -/
def bookPartsUptoCard : Claim7 := { stood := { row := bookPartsUptoRow, standIns := [], harness := (true, "6f1a363e69b54df422a93dd5a141a962cbcd3acd63d13eef16bf79f828d12ee0"), looks := false }, kinds := [], alts := [], laidByText := true, laidKinds := [.data], laidTests := true, laidLooks := .later }
def BookPartsUptoCardSaid : Prop := Claim7.holds Tryd.pinned (.plain (OpenSpec.upto bookPartsSpec)) bookPartsUptoCard

/-- THE SECOND FORM's CARD OF 'paybooklaw14.BookBytes'. -/
def bookBytesUptoCard : Claim7 := { stood := { row := bookBytesUptoRow, standIns := [], harness := (true, "6f1a363e69b54df422a93dd5a141a962cbcd3acd63d13eef16bf79f828d12ee0"), looks := false }, kinds := [], alts := [], laidByText := true, laidKinds := [.data], laidTests := true, laidLooks := .later }
def BookBytesUptoCardSaid : Prop := Claim7.holds Tryd.pinned (.plain (OpenSpec.upto bookBytesSpec)) bookBytesUptoCard

/-- THE SECOND FORM's CARD OF 'paybooklaw14.BookReads'. -/
def bookReadsUptoCard : Claim7 := { stood := { row := bookReadsUptoRow, standIns := [], harness := (true, "6f1a363e69b54df422a93dd5a141a962cbcd3acd63d13eef16bf79f828d12ee0"), looks := false }, kinds := [], alts := [], laidByText := true, laidKinds := [.data], laidTests := true, laidLooks := .later }
def BookReadsUptoCardSaid : Prop := Claim7.holds Tryd.pinned (.plain (OpenSpec.upto bookReadsSpec)) bookReadsUptoCard
end Rows
end Go.Proofs.YteclckfcniigjaaDoor
