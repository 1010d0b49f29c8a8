/-
  DERIVED. GIVEN WITH THE SEED: THE CARDS: each row of YtncnnojgkgceiaaGreatDoorRows.lean that lists a variable, with what it lists TIED to the program's text (the seventh form; the later family's looks); each row that meets fmt, with fmt's text TOLD by the authors' own Lean function (tested against real Go, not proved from fmt's source: count such statements apart). THE CARD IS WHAT COUNTS. Prove the row's statement (the work); the ties are given (YtncnnojgkgceiaaGreatDoorTie.lean); close each card by the builder's one call (the guide's Derived/Test/ToyasCard.lean, 'card_holds'). Laid BY PROGRAM, IN A SANDBOX (cutbox-door.mjs). By AI agents, Wed Nov 11 2026. No macro, syntax, notation, axiom, sorry.
-/
import Derived.Test.YtncnnojgkgceiaaGreatDoorRows
import GoSem.ClaimSeven
namespace Go.Proofs.YtncnnojgkgceiaaGreatDoor
namespace Rows

/-- THE TIED CARD OF 'rabbetlaw16.EmitJumps'. -/
def emitJumpsCard : Claim7 := { stood := { row := emitJumpsRow, standIns := [], harness := (true, "d296e2c2957ff93cdb436133b34b60e9e9c3341592e2043cd3cebb81d6c60927"), looks := true }, kinds := [], alts := [], laidByText := true, laidKinds := [.listed, .data], laidTests := true, laidLooks := .later }
def EmitJumpsCardSaid : Prop := Claim7.holds Tryz.pinned (.plain (OpenSpec.ofChange emitJumpsSpec)) emitJumpsCard

/-- THE SECOND FORM's CARD OF 'rabbetlaw16.EmitJumps'. -/
def emitJumpsUptoCard : Claim7 := { stood := { row := emitJumpsUptoRow, standIns := [], harness := (true, "d296e2c2957ff93cdb436133b34b60e9e9c3341592e2043cd3cebb81d6c60927"), looks := true }, kinds := [], alts := [], laidByText := true, laidKinds := [.listed, .data], laidTests := true, laidLooks := .later }
def EmitJumpsUptoCardSaid : Prop := Claim7.holds Tryz.pinned (.plain (OpenSpec.upto emitJumpsSpec)) emitJumpsUptoCard
end Rows
end Go.Proofs.YtncnnojgkgceiaaGreatDoor
