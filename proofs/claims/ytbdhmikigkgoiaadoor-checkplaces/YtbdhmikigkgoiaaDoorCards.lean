/-
  DERIVED. GIVEN WITH THE SEED: THE CARDS: each row of YtbdhmikigkgoiaaDoorRows.lean that lists a variable, with what it lists TIED to the program's text (the seventh form; the later family's looks); each row that meets fmt, with fmt's text TOLD by the authors' own Lean function (tested against real Go, not proved from fmt's source: count such statements apart). THE CARD IS WHAT COUNTS. Prove the row's statement (the work); the ties are given (YtbdhmikigkgoiaaDoorTie.lean); close each card by the builder's one call (the guide's Derived/Test/ToyasCard.lean, 'card_holds'). Laid BY PROGRAM, IN A SANDBOX (cutbox-door.mjs). By AI agents, Wed Nov 11 2026. No macro, syntax, notation, axiom, sorry.
-/
import Derived.Test.YtbdhmikigkgoiaaDoorRows
import GoSem.ClaimSeven
namespace Go.Proofs.YtbdhmikigkgoiaaDoor
namespace Rows

/-- THE TIED CARD OF 'rabbetlaw11.CheckPlaces'. -/
def checkPlacesCard : Claim7 := { stood := { row := checkPlacesRow, standIns := [], harness := (true, "fe79205d27e6a4c4e75f659dc7eb807d007b4b6c6878879a89c0fe886c43f2cd"), looks := false }, kinds := [], alts := [], laidByText := true, laidKinds := [.listed, .data], laidTests := true, laidLooks := .later }
def CheckPlacesCardSaid : Prop := Claim7.holds Tryd.pinned (.plain (OpenSpec.ofChange checkPlacesSpec)) checkPlacesCard

/-- THE TIED CARD OF 'rabbetlaw11.CheckOrders'. -/
def checkOrdersCard : Claim7 := { stood := { row := checkOrdersRow, standIns := [], harness := (true, "fe79205d27e6a4c4e75f659dc7eb807d007b4b6c6878879a89c0fe886c43f2cd"), looks := false }, kinds := [], alts := [], laidByText := true, laidKinds := [.listed, .data], laidTests := true, laidLooks := .later }
def CheckOrdersCardSaid : Prop := Claim7.holds Tryd.pinned (.plain (OpenSpec.ofChange checkOrdersSpec)) checkOrdersCard

/-- THE TIED CARD OF 'rabbetlaw11.CheckParts'. -/
def checkPartsCard : Claim7 := { stood := { row := checkPartsRow, standIns := [], harness := (true, "fe79205d27e6a4c4e75f659dc7eb807d007b4b6c6878879a89c0fe886c43f2cd"), looks := false }, kinds := [], alts := [], laidByText := true, laidKinds := [.listed, .data], laidTests := true, laidLooks := .later }
def CheckPartsCardSaid : Prop := Claim7.holds Tryd.pinned (.plain (OpenSpec.ofChange checkPartsSpec)) checkPartsCard

/-- THE TIED CARD OF 'rabbetlaw11.CheckNames'. -/
def checkNamesCard : Claim7 := { stood := { row := checkNamesRow, standIns := [], harness := (true, "fe79205d27e6a4c4e75f659dc7eb807d007b4b6c6878879a89c0fe886c43f2cd"), looks := false }, kinds := [], alts := [], laidByText := true, laidKinds := [.listed, .data], laidTests := true, laidLooks := .later }
def CheckNamesCardSaid : Prop := Claim7.holds Tryd.pinned (.plain (OpenSpec.ofChange checkNamesSpec)) checkNamesCard

/-- THE SECOND FORM's CARD OF 'rabbetlaw11.CheckPlaces'. -/
def checkPlacesUptoCard : Claim7 := { stood := { row := checkPlacesUptoRow, standIns := [], harness := (true, "fe79205d27e6a4c4e75f659dc7eb807d007b4b6c6878879a89c0fe886c43f2cd"), looks := false }, kinds := [], alts := [], laidByText := true, laidKinds := [.listed, .data], laidTests := true, laidLooks := .later }
def CheckPlacesUptoCardSaid : Prop := Claim7.holds Tryd.pinned (.plain (OpenSpec.upto checkPlacesSpec)) checkPlacesUptoCard

/-- THE SECOND FORM's CARD OF 'rabbetlaw11.CheckOrders'. -/
def checkOrdersUptoCard : Claim7 := { stood := { row := checkOrdersUptoRow, standIns := [], harness := (true, "fe79205d27e6a4c4e75f659dc7eb807d007b4b6c6878879a89c0fe886c43f2cd"), looks := false }, kinds := [], alts := [], laidByText := true, laidKinds := [.listed, .data], laidTests := true, laidLooks := .later }
def CheckOrdersUptoCardSaid : Prop := Claim7.holds Tryd.pinned (.plain (OpenSpec.upto checkOrdersSpec)) checkOrdersUptoCard

/-- THE SECOND FORM's CARD OF 'rabbetlaw11.CheckParts'. -/
def checkPartsUptoCard : Claim7 := { stood := { row := checkPartsUptoRow, standIns := [], harness := (true, "fe79205d27e6a4c4e75f659dc7eb807d007b4b6c6878879a89c0fe886c43f2cd"), looks := false }, kinds := [], alts := [], laidByText := true, laidKinds := [.listed, .data], laidTests := true, laidLooks := .later }
def CheckPartsUptoCardSaid : Prop := Claim7.holds Tryd.pinned (.plain (OpenSpec.upto checkPartsSpec)) checkPartsUptoCard

/-- THE SECOND FORM's CARD OF 'rabbetlaw11.CheckNames'. -/
def checkNamesUptoCard : Claim7 := { stood := { row := checkNamesUptoRow, standIns := [], harness := (true, "fe79205d27e6a4c4e75f659dc7eb807d007b4b6c6878879a89c0fe886c43f2cd"), looks := false }, kinds := [], alts := [], laidByText := true, laidKinds := [.listed, .data], laidTests := true, laidLooks := .later }
def CheckNamesUptoCardSaid : Prop := Claim7.holds Tryd.pinned (.plain (OpenSpec.upto checkNamesSpec)) checkNamesUptoCard
end Rows
end Go.Proofs.YtbdhmikigkgoiaaDoor
