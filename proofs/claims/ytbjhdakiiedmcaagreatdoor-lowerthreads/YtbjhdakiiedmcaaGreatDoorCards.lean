/-
  DERIVED. GIVEN WITH THE SEED: THE CARDS: each row of YtbjhdakiiedmcaaGreatDoorRows.lean that lists a variable, with what it lists TIED to the program's text (the seventh form; the later family's looks); each row that meets fmt, with fmt's text TOLD by the authors' own Lean function (tested against real Go, not proved from fmt's source: count such statements apart). THE CARD IS WHAT COUNTS. Prove the row's statement (the work); the ties are given (YtbjhdakiiedmcaaGreatDoorTie.lean); close each card by the builder's one call (the guide's Derived/Test/ToyasCard.lean, 'card_holds'). Laid BY PROGRAM, IN A SANDBOX (cutbox-door.mjs). By AI agents, Wed Nov 11 2026. No macro, syntax, notation, axiom, sorry.
-/
import Derived.Test.YtbjhdakiiedmcaaGreatDoorRows
import GoSem.ClaimSeven
namespace Go.Proofs.YtbjhdakiiedmcaaGreatDoor
namespace Rows

/-- THE TIED CARD OF 'rabbetlaw13.LowerThreads'. -/
def lowerThreadsCard : Claim7 := { stood := { row := lowerThreadsRow, standIns := [], harness := (true, "940992f215cde30533acf46220cd49183f9a08ca97edb1a62c622177e28a55d6"), looks := false }, kinds := [], alts := [], laidByText := true, laidKinds := [.listed, .data], laidTests := true, laidLooks := .later }
def LowerThreadsCardSaid : Prop := Claim7.holds Tryz.pinned (.plain (OpenSpec.ofChange lowerThreadsSpec)) lowerThreadsCard

/-- THE SECOND FORM's CARD OF 'rabbetlaw13.LowerThreads'. -/
def lowerThreadsUptoCard : Claim7 := { stood := { row := lowerThreadsUptoRow, standIns := [], harness := (true, "940992f215cde30533acf46220cd49183f9a08ca97edb1a62c622177e28a55d6"), looks := false }, kinds := [], alts := [], laidByText := true, laidKinds := [.listed, .data], laidTests := true, laidLooks := .later }
def LowerThreadsUptoCardSaid : Prop := Claim7.holds Tryz.pinned (.plain (OpenSpec.upto lowerThreadsSpec)) lowerThreadsUptoCard
end Rows
end Go.Proofs.YtbjhdakiiedmcaaGreatDoor
