/-
  DERIVED. GIVEN WITH THE SEED: THE CARDS: each row of YtaiaeodekdehhaaGreatDoorRows.lean that lists a variable, with what it lists TIED to the program's text (the seventh form; the later family's looks); each row that meets fmt, with fmt's text TOLD by the authors' own Lean function (tested against real Go, not proved from fmt's source: count such statements apart). THE CARD IS WHAT COUNTS. Prove the row's statement (the work); the ties are given (YtaiaeodekdehhaaGreatDoorTie.lean); close each card by the builder's one call (the guide's Derived/Test/ToyasCard.lean, 'card_holds'). Laid BY PROGRAM, IN A SANDBOX (cutbox-door.mjs). By AI agents, Wed Nov 11 2026. No macro, syntax, notation, axiom, sorry.
-/
import Derived.Test.YtaiaeodekdehhaaGreatDoorRows
import GoSem.ClaimSeven
namespace Go.Proofs.YtaiaeodekdehhaaGreatDoor
namespace Rows

/-- THE TIED CARD OF 'rabbetlaw24.PairAlike'. -/
def pairAlikeCard : Claim7 := { stood := { row := pairAlikeRow, standIns := [], harness := (true, "b6420155f10e341a24fe0eabc5407c226403e61df53f000dbc7d0b242a21feec"), looks := true }, kinds := [], alts := [], laidByText := true, laidKinds := [.data, .data, .data, .sentinel, .sentinel, .listed, .data], laidTests := true, laidLooks := .later }
def PairAlikeCardSaid : Prop := Claim7.holds Tryz.pinned (.plain (OpenSpec.ofChange pairAlikeSpec)) pairAlikeCard

/-- THE SECOND FORM's CARD OF 'rabbetlaw24.PairAlike'. -/
def pairAlikeUptoCard : Claim7 := { stood := { row := pairAlikeUptoRow, standIns := [], harness := (true, "b6420155f10e341a24fe0eabc5407c226403e61df53f000dbc7d0b242a21feec"), looks := true }, kinds := [], alts := [], laidByText := true, laidKinds := [.data, .data, .data, .sentinel, .sentinel, .listed, .data], laidTests := true, laidLooks := .later }
def PairAlikeUptoCardSaid : Prop := Claim7.holds Tryz.pinned (.plain (OpenSpec.upto pairAlikeSpec)) pairAlikeUptoCard
end Rows
end Go.Proofs.YtaiaeodekdehhaaGreatDoor
