/-
  DERIVED. GIVEN WITH THE SEED: THE CARDS: each row of YtpnkopablpdkoaaGreatDoorRows.lean that lists a variable, with what it lists TIED to the program's text (the seventh form; the later family's looks); each row that meets fmt, with fmt's text TOLD by the authors' own Lean function (tested against real Go, not proved from fmt's source: count such statements apart). THE CARD IS WHAT COUNTS. Prove the row's statement (the work); the ties are given (YtpnkopablpdkoaaGreatDoorTie.lean); close each card by the builder's one call (the guide's Derived/Test/ToyasCard.lean, 'card_holds'). Laid BY PROGRAM, IN A SANDBOX (cutbox-door.mjs). By AI agents, Wed Nov 11 2026. No macro, syntax, notation, axiom, sorry.
-/
import Derived.Test.YtpnkopablpdkoaaGreatDoorRows
import GoSem.ClaimSeven
namespace Go.Proofs.YtpnkopablpdkoaaGreatDoor
namespace Rows

/-- THE TIED CARD OF 'rabbettop.WholeFences'. -/
def wholeFencesCard : Claim7 := { stood := { row := wholeFencesRow, standIns := [], harness := (true, "2387e4184f800911ca58fad862eb3461b8db6633da058b15320edb667ba9b193"), looks := true }, kinds := [], alts := [], laidByText := true, laidKinds := [.data, .data, .data, .sentinel, .sentinel, .listed, .data], laidTests := true, laidLooks := .later }
def WholeFencesCardSaid : Prop := Claim7.holds Tryz.pinned (.plain (OpenSpec.ofChange wholeFencesSpec)) wholeFencesCard

/-- THE SECOND FORM's CARD OF 'rabbettop.WholeFences'. -/
def wholeFencesUptoCard : Claim7 := { stood := { row := wholeFencesUptoRow, standIns := [], harness := (true, "2387e4184f800911ca58fad862eb3461b8db6633da058b15320edb667ba9b193"), looks := true }, kinds := [], alts := [], laidByText := true, laidKinds := [.data, .data, .data, .sentinel, .sentinel, .listed, .data], laidTests := true, laidLooks := .later }
def WholeFencesUptoCardSaid : Prop := Claim7.holds Tryz.pinned (.plain (OpenSpec.upto wholeFencesSpec)) wholeFencesUptoCard
end Rows
end Go.Proofs.YtpnkopablpdkoaaGreatDoor
