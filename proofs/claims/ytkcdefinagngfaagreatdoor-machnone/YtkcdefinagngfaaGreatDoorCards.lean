/-
  DERIVED. GIVEN WITH THE SEED: THE CARDS: each row of YtkcdefinagngfaaGreatDoorRows.lean that lists a variable, with what it lists TIED to the program's text (the seventh form; the later family's looks); each row that meets fmt, with fmt's text TOLD by the authors' own Lean function (tested against real Go, not proved from fmt's source: count such statements apart). THE CARD IS WHAT COUNTS. Prove the row's statement (the work); the ties are given (YtkcdefinagngfaaGreatDoorTie.lean); close each card by the builder's one call (the guide's Derived/Test/ToyasCard.lean, 'card_holds'). Laid BY PROGRAM, IN A SANDBOX (cutbox-door.mjs). By AI agents, Wed Nov 11 2026. No macro, syntax, notation, axiom, sorry.
-/
import Derived.Test.YtkcdefinagngfaaGreatDoorRows
import GoSem.ClaimSeven
namespace Go.Proofs.YtkcdefinagngfaaGreatDoor
namespace Rows

/-- THE TIED CARD OF 'rabbetlaw17.ImageStacks'. -/
def imageStacksCard : Claim7 := { stood := { row := imageStacksRow, standIns := [], harness := (true, "6084fdfc142b3903595fd192f64ea6116980a37274b3c2d42f83dcaa4d94ba12"), looks := true }, kinds := [], alts := [], laidByText := true, laidKinds := [.data, .data, .data, .sentinel, .sentinel, .listed, .data], laidTests := true, laidLooks := .later }
def ImageStacksCardSaid : Prop := Claim7.holds Tryz.pinned (.plain (OpenSpec.ofChange imageStacksSpec)) imageStacksCard

/-- THE TIED CARD OF 'rabbetlaw18.MachNone'. -/
def machNoneCard : Claim7 := { stood := { row := machNoneRow, standIns := [], harness := (true, "6084fdfc142b3903595fd192f64ea6116980a37274b3c2d42f83dcaa4d94ba12"), looks := true }, kinds := [], alts := [], laidByText := true, laidKinds := [.data, .data, .data, .sentinel, .sentinel, .listed, .data], laidTests := true, laidLooks := .later }
def MachNoneCardSaid : Prop := Claim7.holds Tryz.pinned (.plain (OpenSpec.ofChange machNoneSpec)) machNoneCard

/-- THE SECOND FORM's CARD OF 'rabbetlaw17.ImageStacks'. -/
def imageStacksUptoCard : Claim7 := { stood := { row := imageStacksUptoRow, standIns := [], harness := (true, "6084fdfc142b3903595fd192f64ea6116980a37274b3c2d42f83dcaa4d94ba12"), looks := true }, kinds := [], alts := [], laidByText := true, laidKinds := [.data, .data, .data, .sentinel, .sentinel, .listed, .data], laidTests := true, laidLooks := .later }
def ImageStacksUptoCardSaid : Prop := Claim7.holds Tryz.pinned (.plain (OpenSpec.upto imageStacksSpec)) imageStacksUptoCard

/-- THE SECOND FORM's CARD OF 'rabbetlaw18.MachNone'. -/
def machNoneUptoCard : Claim7 := { stood := { row := machNoneUptoRow, standIns := [], harness := (true, "6084fdfc142b3903595fd192f64ea6116980a37274b3c2d42f83dcaa4d94ba12"), looks := true }, kinds := [], alts := [], laidByText := true, laidKinds := [.data, .data, .data, .sentinel, .sentinel, .listed, .data], laidTests := true, laidLooks := .later }
def MachNoneUptoCardSaid : Prop := Claim7.holds Tryz.pinned (.plain (OpenSpec.upto machNoneSpec)) machNoneUptoCard
end Rows
end Go.Proofs.YtkcdefinagngfaaGreatDoor
