/-
  DERIVED. GIVEN WITH THE SEED: THE CARDS: each row of YtiipdjhkcjbmkaaGreatDoorRows.lean that lists a variable, with what it lists TIED to the program's text (the seventh form; the later family's looks); each row that meets fmt, with fmt's text TOLD by the authors' own Lean function (tested against real Go, not proved from fmt's source: count such statements apart). THE CARD IS WHAT COUNTS. Prove the row's statement (the work); the ties are given (YtiipdjhkcjbmkaaGreatDoorTie.lean); close each card by the builder's one call (the guide's Derived/Test/ToyasCard.lean, 'card_holds'). Laid BY PROGRAM, IN A SANDBOX (cutbox-door.mjs). By AI agents, Wed Nov 11 2026. No macro, syntax, notation, axiom, sorry.
-/
import Derived.Test.YtiipdjhkcjbmkaaGreatDoorRows
import GoSem.ClaimSeven
namespace Go.Proofs.YtiipdjhkcjbmkaaGreatDoor
namespace Rows

/-- THE TIED CARD OF 'rabbettop.WholeMessage'. -/
def wholeMessageCard : Claim7 := { stood := { row := wholeMessageRow, standIns := [], harness := (true, "b40a897aee3edf1f88d6504a77d95344b871a98e560e2ff18a2b33dc5950f5f6"), looks := true }, kinds := [], alts := [], laidByText := true, laidKinds := [.sentinel, .sentinel, .data, .data, .data, .data, .listed], laidTests := true, laidLooks := .later }
def WholeMessageCardSaid : Prop := Claim7.holds Tryz.pinned (.plain (OpenSpec.ofChange wholeMessageSpec)) wholeMessageCard

/-- THE SECOND FORM's CARD OF 'rabbettop.WholeMessage'. -/
def wholeMessageUptoCard : Claim7 := { stood := { row := wholeMessageUptoRow, standIns := [], harness := (true, "b40a897aee3edf1f88d6504a77d95344b871a98e560e2ff18a2b33dc5950f5f6"), looks := true }, kinds := [], alts := [], laidByText := true, laidKinds := [.sentinel, .sentinel, .data, .data, .data, .data, .listed], laidTests := true, laidLooks := .later }
def WholeMessageUptoCardSaid : Prop := Claim7.holds Tryz.pinned (.plain (OpenSpec.upto wholeMessageSpec)) wholeMessageUptoCard
end Rows
end Go.Proofs.YtiipdjhkcjbmkaaGreatDoor
