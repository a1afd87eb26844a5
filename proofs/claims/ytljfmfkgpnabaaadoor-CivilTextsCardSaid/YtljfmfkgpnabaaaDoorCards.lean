/-
  DERIVED. GIVEN WITH THE SEED: THE CARDS: each row of YtljfmfkgpnabaaaDoorRows.lean that lists a variable, with what it lists TIED to the program's text (the seventh form; the later family's looks); each row that meets fmt, with fmt's text TOLD by the authors' own Lean function (tested against real Go, not proved from fmt's source: count such statements apart). THE CARD IS WHAT COUNTS. Prove the row's statement (the work); the ties are given (YtljfmfkgpnabaaaDoorTie.lean); close each card by the builder's one call (the guide's Derived/Test/ToyasCard.lean, 'card_holds'). Laid BY PROGRAM, IN A SANDBOX (cutbox-door.mjs). By AI agents, Wed Nov 11 2026. No macro, syntax, notation, axiom, sorry.
-/
import Derived.Test.YtljfmfkgpnabaaaDoorRows
import GoSem.ClaimSeven
namespace Go.Proofs.YtljfmfkgpnabaaaDoor
namespace Rows

/-- THE TIED CARD OF 'paybooklaw01.CivilOrders'. -/
def civilOrdersCard : Claim7 := { stood := { row := civilOrdersRow, standIns := [], harness := (true, "82c68c043541ef58e8e84e1fe6e094fdca3df23ff252c1b5569405397f52cbe1"), looks := false }, kinds := [], alts := [], laidByText := true, laidKinds := [.data, .data, .data], laidTests := true, laidLooks := .later }
def CivilOrdersCardSaid : Prop := Claim7.holds Tryd.pinned (.plain (OpenSpec.ofChange civilOrdersSpec)) civilOrdersCard

/-- THE TIED CARD OF 'paybooklaw01.CivilTexts'. -/
def civilTextsCard : Claim7 := { stood := { row := civilTextsRow, standIns := [], harness := (true, "82c68c043541ef58e8e84e1fe6e094fdca3df23ff252c1b5569405397f52cbe1"), looks := false }, kinds := [], alts := [], laidByText := true, laidKinds := [.data, .data, .data], laidTests := true, laidLooks := .later }
def CivilTextsCardSaid : Prop := Claim7.holds Tryd.pinned (.plain (OpenSpec.ofChange civilTextsSpec)) civilTextsCard

/-- THE SECOND FORM's CARD OF 'paybooklaw01.CivilOrders'. -/
def civilOrdersUptoCard : Claim7 := { stood := { row := civilOrdersUptoRow, standIns := [], harness := (true, "82c68c043541ef58e8e84e1fe6e094fdca3df23ff252c1b5569405397f52cbe1"), looks := false }, kinds := [], alts := [], laidByText := true, laidKinds := [.data, .data, .data], laidTests := true, laidLooks := .later }
def CivilOrdersUptoCardSaid : Prop := Claim7.holds Tryd.pinned (.plain (OpenSpec.upto civilOrdersSpec)) civilOrdersUptoCard

/-- THE SECOND FORM's CARD OF 'paybooklaw01.CivilTexts'. -/
def civilTextsUptoCard : Claim7 := { stood := { row := civilTextsUptoRow, standIns := [], harness := (true, "82c68c043541ef58e8e84e1fe6e094fdca3df23ff252c1b5569405397f52cbe1"), looks := false }, kinds := [], alts := [], laidByText := true, laidKinds := [.data, .data, .data], laidTests := true, laidLooks := .later }
def CivilTextsUptoCardSaid : Prop := Claim7.holds Tryd.pinned (.plain (OpenSpec.upto civilTextsSpec)) civilTextsUptoCard
end Rows
end Go.Proofs.YtljfmfkgpnabaaaDoor
