/-
  DERIVED. GIVEN WITH THE SEED: THE CARDS: each row of YtnpcodfeggcdbaaDoorRows.lean that lists a variable, with what it lists TIED to the program's text (the seventh form; the later family's looks); each row that meets fmt, with fmt's text TOLD by the authors' own Lean function (tested against real Go, not proved from fmt's source: count such statements apart). THE CARD IS WHAT COUNTS. Prove the row's statement (the work); the ties are given (YtnpcodfeggcdbaaDoorTie.lean); close each card by the builder's one call (the guide's Derived/Test/ToyasCard.lean, 'card_holds'). Laid BY PROGRAM, IN A SANDBOX (cutbox-door.mjs). By AI agents, Wed Nov 11 2026. No macro, syntax, notation, axiom, sorry.
-/
import Derived.Test.YtnpcodfeggcdbaaDoorRows
import GoSem.ClaimSeven
namespace Go.Proofs.YtnpcodfeggcdbaaDoor
namespace Rows

/-- THE TIED CARD OF 'paybooklaw23.ReportMoney'. -/
def reportMoneyCard : Claim7 := { stood := { row := reportMoneyRow, standIns := [], harness := (true, "3c442ef8298031a069603e1a34f7bb486961d03500de3b2a176256ecab2c087c"), looks := false }, kinds := [], alts := [], laidByText := true, laidKinds := [.data, .data, .data], laidTests := true, laidLooks := .later }
def ReportMoneyCardSaid : Prop := Claim7.holds Tryd.pinned (.plain (OpenSpec.ofChange reportMoneySpec)) reportMoneyCard

/-- THE TIED CARD OF 'paybooklaw23.ReportAmounts'. -/
def reportAmountsCard : Claim7 := { stood := { row := reportAmountsRow, standIns := [], harness := (true, "3c442ef8298031a069603e1a34f7bb486961d03500de3b2a176256ecab2c087c"), looks := false }, kinds := [], alts := [], laidByText := true, laidKinds := [.data, .data, .data], laidTests := true, laidLooks := .later }
def ReportAmountsCardSaid : Prop := Claim7.holds Tryd.pinned (.plain (OpenSpec.ofChange reportAmountsSpec)) reportAmountsCard

/-- THE TIED CARD OF 'paybooklaw23.ReportCycles'. -/
def reportCyclesCard : Claim7 := { stood := { row := reportCyclesRow, standIns := [], harness := (true, "3c442ef8298031a069603e1a34f7bb486961d03500de3b2a176256ecab2c087c"), looks := false }, kinds := [], alts := [], laidByText := true, laidKinds := [.data, .data, .data], laidTests := true, laidLooks := .later }
def ReportCyclesCardSaid : Prop := Claim7.holds Tryd.pinned (.plain (OpenSpec.ofChange reportCyclesSpec)) reportCyclesCard

/-- THE TIED CARD OF 'paybooklaw13.AccountPlays'. -/
def accountPlaysCard : Claim7 := { stood := { row := accountPlaysRow, standIns := [], harness := (true, "3c442ef8298031a069603e1a34f7bb486961d03500de3b2a176256ecab2c087c"), looks := false }, kinds := [], alts := [], laidByText := true, laidKinds := [.data], laidTests := true, laidLooks := .later }
def AccountPlaysCardSaid : Prop := Claim7.holds Tryd.pinned (.plain (OpenSpec.ofChange accountPlaysSpec)) accountPlaysCard

/-- THE TIED CARD OF 'paybooklaw13.AccountKeeps'. -/
def accountKeepsCard : Claim7 := { stood := { row := accountKeepsRow, standIns := [], harness := (true, "3c442ef8298031a069603e1a34f7bb486961d03500de3b2a176256ecab2c087c"), looks := false }, kinds := [], alts := [], laidByText := true, laidKinds := [.data], laidTests := true, laidLooks := .later }
def AccountKeepsCardSaid : Prop := Claim7.holds Tryd.pinned (.plain (OpenSpec.ofChange accountKeepsSpec)) accountKeepsCard

/-- THE SECOND FORM's CARD OF 'paybooklaw23.ReportMoney'. -/
def reportMoneyUptoCard : Claim7 := { stood := { row := reportMoneyUptoRow, standIns := [], harness := (true, "3c442ef8298031a069603e1a34f7bb486961d03500de3b2a176256ecab2c087c"), looks := false }, kinds := [], alts := [], laidByText := true, laidKinds := [.data, .data, .data], laidTests := true, laidLooks := .later }
def ReportMoneyUptoCardSaid : Prop := Claim7.holds Tryd.pinned (.plain (OpenSpec.upto reportMoneySpec)) reportMoneyUptoCard

/-- THE SECOND FORM's CARD OF 'paybooklaw23.ReportAmounts'. -/
def reportAmountsUptoCard : Claim7 := { stood := { row := reportAmountsUptoRow, standIns := [], harness := (true, "3c442ef8298031a069603e1a34f7bb486961d03500de3b2a176256ecab2c087c"), looks := false }, kinds := [], alts := [], laidByText := true, laidKinds := [.data, .data, .data], laidTests := true, laidLooks := .later }
def ReportAmountsUptoCardSaid : Prop := Claim7.holds Tryd.pinned (.plain (OpenSpec.upto reportAmountsSpec)) reportAmountsUptoCard

/-- THE SECOND FORM's CARD OF 'paybooklaw23.ReportCycles'. -/
def reportCyclesUptoCard : Claim7 := { stood := { row := reportCyclesUptoRow, standIns := [], harness := (true, "3c442ef8298031a069603e1a34f7bb486961d03500de3b2a176256ecab2c087c"), looks := false }, kinds := [], alts := [], laidByText := true, laidKinds := [.data, .data, .data], laidTests := true, laidLooks := .later }
def ReportCyclesUptoCardSaid : Prop := Claim7.holds Tryd.pinned (.plain (OpenSpec.upto reportCyclesSpec)) reportCyclesUptoCard

/-- THE SECOND FORM's CARD OF 'paybooklaw13.AccountPlays'. -/
def accountPlaysUptoCard : Claim7 := { stood := { row := accountPlaysUptoRow, standIns := [], harness := (true, "3c442ef8298031a069603e1a34f7bb486961d03500de3b2a176256ecab2c087c"), looks := false }, kinds := [], alts := [], laidByText := true, laidKinds := [.data], laidTests := true, laidLooks := .later }
def AccountPlaysUptoCardSaid : Prop := Claim7.holds Tryd.pinned (.plain (OpenSpec.upto accountPlaysSpec)) accountPlaysUptoCard

/-- THE SECOND FORM's CARD OF 'paybooklaw13.AccountKeeps'. -/
def accountKeepsUptoCard : Claim7 := { stood := { row := accountKeepsUptoRow, standIns := [], harness := (true, "3c442ef8298031a069603e1a34f7bb486961d03500de3b2a176256ecab2c087c"), looks := false }, kinds := [], alts := [], laidByText := true, laidKinds := [.data], laidTests := true, laidLooks := .later }
def AccountKeepsUptoCardSaid : Prop := Claim7.holds Tryd.pinned (.plain (OpenSpec.upto accountKeepsSpec)) accountKeepsUptoCard
end Rows
end Go.Proofs.YtnpcodfeggcdbaaDoor
