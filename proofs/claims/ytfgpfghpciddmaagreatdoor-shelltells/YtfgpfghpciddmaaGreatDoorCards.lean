/-
  DERIVED. GIVEN WITH THE SEED: THE CARDS: each row of YtfgpfghpciddmaaGreatDoorRows.lean that lists a variable, with what it lists TIED to the program's text (the seventh form; the later family's looks); each row that meets fmt, with fmt's text TOLD by the authors' own Lean function (tested against real Go, not proved from fmt's source: count such statements apart). THE CARD IS WHAT COUNTS. Prove the row's statement (the work); the ties are given (YtfgpfghpciddmaaGreatDoorTie.lean); close each card by the builder's one call (the guide's Derived/Test/ToyasCard.lean, 'card_holds'). Laid BY PROGRAM, IN A SANDBOX (cutbox-door.mjs). By AI agents, Wed Nov 11 2026. No macro, syntax, notation, axiom, sorry.
-/
import Derived.Test.YtfgpfghpciddmaaGreatDoorRows
import GoSem.ClaimSeven
namespace Go.Proofs.YtfgpfghpciddmaaGreatDoor
namespace Rows

/-- THE TIED CARD OF 'rabbetlaw27.ShellTells'. -/
def shellTellsCard : Claim7 := { stood := { row := shellTellsRow, standIns := [], harness := (true, "261145395fd97d228aaf351e877be00b91956473b3f51c9244c1adea0512bc81"), looks := true }, kinds := [], alts := [], laidByText := true, laidKinds := [.data, .data, .data, .data, .sentinel, .sentinel, .listed, .data, .pinned], laidTests := true, laidLooks := .later }
def ShellTellsCardSaid : Prop := Claim7.holds Tryz.pinned (.plain (OpenSpec.ofChange shellTellsSpec)) shellTellsCard

/-- THE SECOND FORM's CARD OF 'rabbetlaw27.ShellTells'. -/
def shellTellsUptoCard : Claim7 := { stood := { row := shellTellsUptoRow, standIns := [], harness := (true, "261145395fd97d228aaf351e877be00b91956473b3f51c9244c1adea0512bc81"), looks := true }, kinds := [], alts := [], laidByText := true, laidKinds := [.data, .data, .data, .data, .sentinel, .sentinel, .listed, .data, .pinned], laidTests := true, laidLooks := .later }
def ShellTellsUptoCardSaid : Prop := Claim7.holds Tryz.pinned (.plain (OpenSpec.upto shellTellsSpec)) shellTellsUptoCard
end Rows
end Go.Proofs.YtfgpfghpciddmaaGreatDoor
