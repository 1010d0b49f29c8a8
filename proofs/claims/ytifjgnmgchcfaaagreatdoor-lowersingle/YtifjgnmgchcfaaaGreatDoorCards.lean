/-
  DERIVED. GIVEN WITH THE SEED: THE CARDS: each row of YtifjgnmgchcfaaaGreatDoorRows.lean that lists a variable, with what it lists TIED to the program's text (the seventh form; the later family's looks); each row that meets fmt, with fmt's text TOLD by the authors' own Lean function (tested against real Go, not proved from fmt's source: count such statements apart). THE CARD IS WHAT COUNTS. Prove the row's statement (the work); the ties are given (YtifjgnmgchcfaaaGreatDoorTie.lean); close each card by the builder's one call (the guide's Derived/Test/ToyasCard.lean, 'card_holds'). Laid BY PROGRAM, IN A SANDBOX (cutbox-door.mjs). By AI agents, Wed Nov 11 2026. No macro, syntax, notation, axiom, sorry.
-/
import Derived.Test.YtifjgnmgchcfaaaGreatDoorRows
import GoSem.ClaimSeven
namespace Go.Proofs.YtifjgnmgchcfaaaGreatDoor
namespace Rows

/-- THE TIED CARD OF 'rabbetlaw13.LowerSingle'. -/
def lowerSingleCard : Claim7 := { stood := { row := lowerSingleRow, standIns := [], harness := (true, "f0c058d11b93c8fac8c4353a64c3c1936e8760fe1870c7d414434688f9f51c89"), looks := false }, kinds := [], alts := [], laidByText := true, laidKinds := [.listed, .data], laidTests := true, laidLooks := .later }
def LowerSingleCardSaid : Prop := Claim7.holds Tryz.pinned (.plain (OpenSpec.ofChange lowerSingleSpec)) lowerSingleCard

/-- THE SECOND FORM's CARD OF 'rabbetlaw13.LowerSingle'. -/
def lowerSingleUptoCard : Claim7 := { stood := { row := lowerSingleUptoRow, standIns := [], harness := (true, "f0c058d11b93c8fac8c4353a64c3c1936e8760fe1870c7d414434688f9f51c89"), looks := false }, kinds := [], alts := [], laidByText := true, laidKinds := [.listed, .data], laidTests := true, laidLooks := .later }
def LowerSingleUptoCardSaid : Prop := Claim7.holds Tryz.pinned (.plain (OpenSpec.upto lowerSingleSpec)) lowerSingleUptoCard
end Rows
end Go.Proofs.YtifjgnmgchcfaaaGreatDoor
