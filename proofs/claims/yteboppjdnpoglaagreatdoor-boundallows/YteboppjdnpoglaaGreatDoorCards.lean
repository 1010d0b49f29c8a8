/-
  DERIVED. GIVEN WITH THE SEED: THE CARDS: each row of YteboppjdnpoglaaGreatDoorRows.lean that lists a variable, with what it lists TIED to the program's text (the seventh form; the later family's looks); each row that meets fmt, with fmt's text TOLD by the authors' own Lean function (tested against real Go, not proved from fmt's source: count such statements apart). THE CARD IS WHAT COUNTS. Prove the row's statement (the work); the ties are given (YteboppjdnpoglaaGreatDoorTie.lean); close each card by the builder's one call (the guide's Derived/Test/ToyasCard.lean, 'card_holds'). Laid BY PROGRAM, IN A SANDBOX (cutbox-door.mjs). By AI agents, Wed Nov 11 2026. No macro, syntax, notation, axiom, sorry.
-/
import Derived.Test.YteboppjdnpoglaaGreatDoorRows
import GoSem.ClaimSeven
namespace Go.Proofs.YteboppjdnpoglaaGreatDoor
namespace Rows

/-- THE TIED CARD OF 'rabbetlaw25.BoundAllows'. -/
def boundAllowsCard : Claim7 := { stood := { row := boundAllowsRow, standIns := [], harness := (true, "9cff48d41532306d4fa5ee2e3731c7eea4de8d50869a544d7c064d528120b754"), looks := true }, kinds := [], alts := [], laidByText := true, laidKinds := [.data, .data, .data, .sentinel, .sentinel, .listed, .data], laidTests := true, laidLooks := .later }
def BoundAllowsCardSaid : Prop := Claim7.holds Tryz.pinned (.plain (OpenSpec.ofChange boundAllowsSpec)) boundAllowsCard

/-- THE SECOND FORM's CARD OF 'rabbetlaw25.BoundAllows'. -/
def boundAllowsUptoCard : Claim7 := { stood := { row := boundAllowsUptoRow, standIns := [], harness := (true, "9cff48d41532306d4fa5ee2e3731c7eea4de8d50869a544d7c064d528120b754"), looks := true }, kinds := [], alts := [], laidByText := true, laidKinds := [.data, .data, .data, .sentinel, .sentinel, .listed, .data], laidTests := true, laidLooks := .later }
def BoundAllowsUptoCardSaid : Prop := Claim7.holds Tryz.pinned (.plain (OpenSpec.upto boundAllowsSpec)) boundAllowsUptoCard
end Rows
end Go.Proofs.YteboppjdnpoglaaGreatDoor
