/-
  DERIVED. GIVEN WITH THE SEED: THE CARDS: each row of YteakojhgmhmdkaaGreatDoorRows.lean that lists a variable, with what it lists TIED to the program's text (the seventh form; the later family's looks); each row that meets fmt, with fmt's text TOLD by the authors' own Lean function (tested against real Go, not proved from fmt's source: count such statements apart). THE CARD IS WHAT COUNTS. Prove the row's statement (the work); the ties are given (YteakojhgmhmdkaaGreatDoorTie.lean); close each card by the builder's one call (the guide's Derived/Test/ToyasCard.lean, 'card_holds'). Laid BY PROGRAM, IN A SANDBOX (cutbox-door.mjs). By AI agents, Wed Nov 11 2026. No macro, syntax, notation, axiom, sorry.
-/
import Derived.Test.YteakojhgmhmdkaaGreatDoorRows
import GoSem.ClaimSeven
namespace Go.Proofs.YteakojhgmhmdkaaGreatDoor
namespace Rows

/-- THE TIED CARD OF 'rabbetlaw25.BoundAllows'. -/
def boundAllowsCard : Claim7 := { stood := { row := boundAllowsRow, standIns := [], harness := (true, "64816494cefa5660c093722c6a7907b96fbc3d43ec26793e1b9cd20c18f8fb8d"), looks := true }, kinds := [], alts := [], laidByText := true, laidKinds := [.data, .data, .data, .sentinel, .sentinel, .listed, .data], laidTests := true, laidLooks := .later }
def BoundAllowsCardSaid : Prop := Claim7.holds Tryz.pinned (.plain (OpenSpec.ofChange boundAllowsSpec)) boundAllowsCard

/-- THE TIED CARD OF 'rabbetlaw25.BoundStrays'. -/
def boundStraysCard : Claim7 := { stood := { row := boundStraysRow, standIns := [], harness := (true, "64816494cefa5660c093722c6a7907b96fbc3d43ec26793e1b9cd20c18f8fb8d"), looks := true }, kinds := [], alts := [], laidByText := true, laidKinds := [.data, .data, .data, .sentinel, .sentinel, .listed, .data], laidTests := true, laidLooks := .later }
def BoundStraysCardSaid : Prop := Claim7.holds Tryz.pinned (.plain (OpenSpec.ofChange boundStraysSpec)) boundStraysCard

/-- THE TIED CARD OF 'rabbetlaw25.BoundPlaces'. -/
def boundPlacesCard : Claim7 := { stood := { row := boundPlacesRow, standIns := [], harness := (true, "64816494cefa5660c093722c6a7907b96fbc3d43ec26793e1b9cd20c18f8fb8d"), looks := true }, kinds := [], alts := [], laidByText := true, laidKinds := [.data, .data, .data, .sentinel, .sentinel, .listed, .data], laidTests := true, laidLooks := .later }
def BoundPlacesCardSaid : Prop := Claim7.holds Tryz.pinned (.plain (OpenSpec.ofChange boundPlacesSpec)) boundPlacesCard

/-- THE SECOND FORM's CARD OF 'rabbetlaw25.BoundAllows'. -/
def boundAllowsUptoCard : Claim7 := { stood := { row := boundAllowsUptoRow, standIns := [], harness := (true, "64816494cefa5660c093722c6a7907b96fbc3d43ec26793e1b9cd20c18f8fb8d"), looks := true }, kinds := [], alts := [], laidByText := true, laidKinds := [.data, .data, .data, .sentinel, .sentinel, .listed, .data], laidTests := true, laidLooks := .later }
def BoundAllowsUptoCardSaid : Prop := Claim7.holds Tryz.pinned (.plain (OpenSpec.upto boundAllowsSpec)) boundAllowsUptoCard

/-- THE SECOND FORM's CARD OF 'rabbetlaw25.BoundStrays'. -/
def boundStraysUptoCard : Claim7 := { stood := { row := boundStraysUptoRow, standIns := [], harness := (true, "64816494cefa5660c093722c6a7907b96fbc3d43ec26793e1b9cd20c18f8fb8d"), looks := true }, kinds := [], alts := [], laidByText := true, laidKinds := [.data, .data, .data, .sentinel, .sentinel, .listed, .data], laidTests := true, laidLooks := .later }
def BoundStraysUptoCardSaid : Prop := Claim7.holds Tryz.pinned (.plain (OpenSpec.upto boundStraysSpec)) boundStraysUptoCard

/-- THE SECOND FORM's CARD OF 'rabbetlaw25.BoundPlaces'. -/
def boundPlacesUptoCard : Claim7 := { stood := { row := boundPlacesUptoRow, standIns := [], harness := (true, "64816494cefa5660c093722c6a7907b96fbc3d43ec26793e1b9cd20c18f8fb8d"), looks := true }, kinds := [], alts := [], laidByText := true, laidKinds := [.data, .data, .data, .sentinel, .sentinel, .listed, .data], laidTests := true, laidLooks := .later }
def BoundPlacesUptoCardSaid : Prop := Claim7.holds Tryz.pinned (.plain (OpenSpec.upto boundPlacesSpec)) boundPlacesUptoCard
end Rows
end Go.Proofs.YteakojhgmhmdkaaGreatDoor
