/-
  DERIVED. GIVEN WITH THE SEED: THE CARDS: each row of YtbomedgnnklgbaaGreatDoorRows.lean that lists a variable, with what it lists TIED to the program's text (the seventh form; the later family's looks); each row that meets fmt, with fmt's text TOLD by the authors' own Lean function (tested against real Go, not proved from fmt's source: count such statements apart). THE CARD IS WHAT COUNTS. Prove the row's statement (the work); the ties are given (YtbomedgnnklgbaaGreatDoorTie.lean); close each card by the builder's one call (the guide's Derived/Test/ToyasCard.lean, 'card_holds'). Laid BY PROGRAM, IN A SANDBOX (cutbox-door.mjs). By AI agents, Wed Nov 11 2026. No macro, syntax, notation, axiom, sorry.
-/
import Derived.Test.YtbomedgnnklgbaaGreatDoorRows
import GoSem.ClaimSeven
namespace Go.Proofs.YtbomedgnnklgbaaGreatDoor
namespace Rows

/-- THE TIED CARD OF 'rabbetlaw17.ImageMore'. -/
def imageMoreCard : Claim7 := { stood := { row := imageMoreRow, standIns := [], harness := (true, "7c8f61bbb6f3311c257208fc7fc36f9765d41e9d6016cab764e70f94abd0efee"), looks := true }, kinds := [], alts := [], laidByText := true, laidKinds := [.data, .data, .data, .sentinel, .sentinel, .listed, .data], laidTests := true, laidLooks := .later }
def ImageMoreCardSaid : Prop := Claim7.holds Tryz.pinned (.plain (OpenSpec.ofChange imageMoreSpec)) imageMoreCard

/-- THE SECOND FORM's CARD OF 'rabbetlaw17.ImageMore'. -/
def imageMoreUptoCard : Claim7 := { stood := { row := imageMoreUptoRow, standIns := [], harness := (true, "7c8f61bbb6f3311c257208fc7fc36f9765d41e9d6016cab764e70f94abd0efee"), looks := true }, kinds := [], alts := [], laidByText := true, laidKinds := [.data, .data, .data, .sentinel, .sentinel, .listed, .data], laidTests := true, laidLooks := .later }
def ImageMoreUptoCardSaid : Prop := Claim7.holds Tryz.pinned (.plain (OpenSpec.upto imageMoreSpec)) imageMoreUptoCard
end Rows
end Go.Proofs.YtbomedgnnklgbaaGreatDoor
