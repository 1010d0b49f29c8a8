/-
  DERIVED. GIVEN WITH THE SEED: THE CARDS: each row of YtjnhnoldfbkgmaaGreatDoorRows.lean that lists a variable, with what it lists TIED to the program's text (the seventh form; the later family's looks); each row that meets fmt, with fmt's text TOLD by the authors' own Lean function (tested against real Go, not proved from fmt's source: count such statements apart). THE CARD IS WHAT COUNTS. Prove the row's statement (the work); the ties are given (YtjnhnoldfbkgmaaGreatDoorTie.lean); close each card by the builder's one call (the guide's Derived/Test/ToyasCard.lean, 'card_holds'). Laid BY PROGRAM, IN A SANDBOX (cutbox-door.mjs). By AI agents, Wed Nov 11 2026. No macro, syntax, notation, axiom, sorry.
-/
import Derived.Test.YtjnhnoldfbkgmaaGreatDoorRows
import GoSem.ClaimSeven
namespace Go.Proofs.YtjnhnoldfbkgmaaGreatDoor
namespace Rows

/-- THE TIED CARD OF 'rabbetlaw18.MachSplits'. -/
def machSplitsCard : Claim7 := { stood := { row := machSplitsRow, standIns := [], harness := (true, "33c5ca06a657419dc8a18a51e64cb6f2c77d9253c2c29c2601d04b938e035516"), looks := true }, kinds := [], alts := [], laidByText := true, laidKinds := [.data, .data, .data, .sentinel, .sentinel, .listed, .data], laidTests := true, laidLooks := .later }
def MachSplitsCardSaid : Prop := Claim7.holds Tryz.pinned (.plain (OpenSpec.ofChange machSplitsSpec)) machSplitsCard

/-- THE SECOND FORM's CARD OF 'rabbetlaw18.MachSplits'. -/
def machSplitsUptoCard : Claim7 := { stood := { row := machSplitsUptoRow, standIns := [], harness := (true, "33c5ca06a657419dc8a18a51e64cb6f2c77d9253c2c29c2601d04b938e035516"), looks := true }, kinds := [], alts := [], laidByText := true, laidKinds := [.data, .data, .data, .sentinel, .sentinel, .listed, .data], laidTests := true, laidLooks := .later }
def MachSplitsUptoCardSaid : Prop := Claim7.holds Tryz.pinned (.plain (OpenSpec.upto machSplitsSpec)) machSplitsUptoCard
end Rows
end Go.Proofs.YtjnhnoldfbkgmaaGreatDoor
