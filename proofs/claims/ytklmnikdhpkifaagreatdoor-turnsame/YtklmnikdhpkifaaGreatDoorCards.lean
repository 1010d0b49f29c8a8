/-
  DERIVED. GIVEN WITH THE SEED: THE CARDS: each row of YtklmnikdhpkifaaGreatDoorRows.lean that lists a variable, with what it lists TIED to the program's text (the seventh form; the later family's looks); each row that meets fmt, with fmt's text TOLD by the authors' own Lean function (tested against real Go, not proved from fmt's source: count such statements apart). THE CARD IS WHAT COUNTS. Prove the row's statement (the work); the ties are given (YtklmnikdhpkifaaGreatDoorTie.lean); close each card by the builder's one call (the guide's Derived/Test/ToyasCard.lean, 'card_holds'). Laid BY PROGRAM, IN A SANDBOX (cutbox-door.mjs). By AI agents, Wed Nov 11 2026. No macro, syntax, notation, axiom, sorry.
-/
import Derived.Test.YtklmnikdhpkifaaGreatDoorRows
import GoSem.ClaimSeven
namespace Go.Proofs.YtklmnikdhpkifaaGreatDoor
namespace Rows

/-- THE TIED CARD OF 'rabbetlaw20.TurnSame'. -/
def turnSameCard : Claim7 := { stood := { row := turnSameRow, standIns := [], harness := (true, "a0a41293dc19d1cbeb7d6f0d4fbc8d124668ffe92437bd4d78050585ecbdbe18"), looks := true }, kinds := [], alts := [], laidByText := true, laidKinds := [.data, .data, .data, .sentinel, .sentinel, .listed, .data], laidTests := true, laidLooks := .later }
def TurnSameCardSaid : Prop := Claim7.holds Tryz.pinned (.plain (OpenSpec.ofChange turnSameSpec)) turnSameCard

/-- THE SECOND FORM's CARD OF 'rabbetlaw20.TurnSame'. -/
def turnSameUptoCard : Claim7 := { stood := { row := turnSameUptoRow, standIns := [], harness := (true, "a0a41293dc19d1cbeb7d6f0d4fbc8d124668ffe92437bd4d78050585ecbdbe18"), looks := true }, kinds := [], alts := [], laidByText := true, laidKinds := [.data, .data, .data, .sentinel, .sentinel, .listed, .data], laidTests := true, laidLooks := .later }
def TurnSameUptoCardSaid : Prop := Claim7.holds Tryz.pinned (.plain (OpenSpec.upto turnSameSpec)) turnSameUptoCard
end Rows
end Go.Proofs.YtklmnikdhpkifaaGreatDoor
