/-
  DERIVED. GIVEN WITH THE SEED: THE CARDS: each row of YtbokhpojhmnfgaaGreatDoorRows.lean that lists a variable, with what it lists TIED to the program's text (the seventh form; the later family's looks); each row that meets fmt, with fmt's text TOLD by the authors' own Lean function (tested against real Go, not proved from fmt's source: count such statements apart). THE CARD IS WHAT COUNTS. Prove the row's statement (the work); the ties are given (YtbokhpojhmnfgaaGreatDoorTie.lean); close each card by the builder's one call (the guide's Derived/Test/ToyasCard.lean, 'card_holds'). Laid BY PROGRAM, IN A SANDBOX (cutbox-door.mjs). By AI agents, Wed Nov 11 2026. No macro, syntax, notation, axiom, sorry.
-/
import Derived.Test.YtbokhpojhmnfgaaGreatDoorRows
import GoSem.ClaimSeven
namespace Go.Proofs.YtbokhpojhmnfgaaGreatDoor
namespace Rows

/-- THE TIED CARD OF 'rabbetlaw19.SrcNone'. -/
def srcNoneCard : Claim7 := { stood := { row := srcNoneRow, standIns := [], harness := (true, "b1e34c7fe0e6e5d4a1b72b0653bb3321b5eeda2cddc15303855c89925d4e7eb5"), looks := true }, kinds := [], alts := [], laidByText := true, laidKinds := [.data, .data, .data, .sentinel, .sentinel, .listed, .data], laidTests := true, laidLooks := .later }
def SrcNoneCardSaid : Prop := Claim7.holds Tryz.pinned (.plain (OpenSpec.ofChange srcNoneSpec)) srcNoneCard

/-- THE TIED CARD OF 'rabbetlaw18.MachNone'. -/
def machNoneCard : Claim7 := { stood := { row := machNoneRow, standIns := [], harness := (true, "b1e34c7fe0e6e5d4a1b72b0653bb3321b5eeda2cddc15303855c89925d4e7eb5"), looks := true }, kinds := [], alts := [], laidByText := true, laidKinds := [.data, .data, .data, .sentinel, .sentinel, .listed, .data], laidTests := true, laidLooks := .later }
def MachNoneCardSaid : Prop := Claim7.holds Tryz.pinned (.plain (OpenSpec.ofChange machNoneSpec)) machNoneCard

/-- THE SECOND FORM's CARD OF 'rabbetlaw19.SrcNone'. -/
def srcNoneUptoCard : Claim7 := { stood := { row := srcNoneUptoRow, standIns := [], harness := (true, "b1e34c7fe0e6e5d4a1b72b0653bb3321b5eeda2cddc15303855c89925d4e7eb5"), looks := true }, kinds := [], alts := [], laidByText := true, laidKinds := [.data, .data, .data, .sentinel, .sentinel, .listed, .data], laidTests := true, laidLooks := .later }
def SrcNoneUptoCardSaid : Prop := Claim7.holds Tryz.pinned (.plain (OpenSpec.upto srcNoneSpec)) srcNoneUptoCard

/-- THE SECOND FORM's CARD OF 'rabbetlaw18.MachNone'. -/
def machNoneUptoCard : Claim7 := { stood := { row := machNoneUptoRow, standIns := [], harness := (true, "b1e34c7fe0e6e5d4a1b72b0653bb3321b5eeda2cddc15303855c89925d4e7eb5"), looks := true }, kinds := [], alts := [], laidByText := true, laidKinds := [.data, .data, .data, .sentinel, .sentinel, .listed, .data], laidTests := true, laidLooks := .later }
def MachNoneUptoCardSaid : Prop := Claim7.holds Tryz.pinned (.plain (OpenSpec.upto machNoneSpec)) machNoneUptoCard
end Rows
end Go.Proofs.YtbokhpojhmnfgaaGreatDoor
