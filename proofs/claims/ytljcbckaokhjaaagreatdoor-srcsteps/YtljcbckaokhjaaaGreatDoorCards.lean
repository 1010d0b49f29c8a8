/-
  DERIVED. GIVEN WITH THE SEED: THE CARDS: each row of YtljcbckaokhjaaaGreatDoorRows.lean that lists a variable, with what it lists TIED to the program's text (the seventh form; the later family's looks); each row that meets fmt, with fmt's text TOLD by the authors' own Lean function (tested against real Go, not proved from fmt's source: count such statements apart). THE CARD IS WHAT COUNTS. Prove the row's statement (the work); the ties are given (YtljcbckaokhjaaaGreatDoorTie.lean); close each card by the builder's one call (the guide's Derived/Test/ToyasCard.lean, 'card_holds'). Laid BY PROGRAM, IN A SANDBOX (cutbox-door.mjs). By AI agents, Wed Nov 11 2026. No macro, syntax, notation, axiom, sorry.
-/
import Derived.Test.YtljcbckaokhjaaaGreatDoorRows
import GoSem.ClaimSeven
namespace Go.Proofs.YtljcbckaokhjaaaGreatDoor
namespace Rows

/-- THE TIED CARD OF 'rabbetlaw19.SrcSteps'. -/
def srcStepsCard : Claim7 := { stood := { row := srcStepsRow, standIns := [], harness := (true, "9e046ffd8e9c778409446335c864d4c9e00fb286fd9c3ca298b6d884ae509c14"), looks := true }, kinds := [], alts := [], laidByText := true, laidKinds := [.data, .data, .data, .sentinel, .sentinel, .listed, .data], laidTests := true, laidLooks := .later }
def SrcStepsCardSaid : Prop := Claim7.holds Tryz.pinned (.plain (OpenSpec.ofChange srcStepsSpec)) srcStepsCard

/-- THE SECOND FORM's CARD OF 'rabbetlaw19.SrcSteps'. -/
def srcStepsUptoCard : Claim7 := { stood := { row := srcStepsUptoRow, standIns := [], harness := (true, "9e046ffd8e9c778409446335c864d4c9e00fb286fd9c3ca298b6d884ae509c14"), looks := true }, kinds := [], alts := [], laidByText := true, laidKinds := [.data, .data, .data, .sentinel, .sentinel, .listed, .data], laidTests := true, laidLooks := .later }
def SrcStepsUptoCardSaid : Prop := Claim7.holds Tryz.pinned (.plain (OpenSpec.upto srcStepsSpec)) srcStepsUptoCard
end Rows
end Go.Proofs.YtljcbckaokhjaaaGreatDoor
