/-
  DERIVED. GIVEN WITH THE SEED: THE CARDS: each row of YtggbkidckoecfaaGreatDoorRows.lean that lists a variable, with what it lists TIED to the program's text (the seventh form; the later family's looks); each row that meets fmt, with fmt's text TOLD by the authors' own Lean function (tested against real Go, not proved from fmt's source: count such statements apart). THE CARD IS WHAT COUNTS. Prove the row's statement (the work); the ties are given (YtggbkidckoecfaaGreatDoorTie.lean); close each card by the builder's one call (the guide's Derived/Test/ToyasCard.lean, 'card_holds'). Laid BY PROGRAM, IN A SANDBOX (cutbox-door.mjs). By AI agents, Wed Nov 11 2026. No macro, syntax, notation, axiom, sorry.
-/
import Derived.Test.YtggbkidckoecfaaGreatDoorRows
import GoSem.ClaimSeven
namespace Go.Proofs.YtggbkidckoecfaaGreatDoor
namespace Rows

/-- THE TIED CARD OF 'rabbetlaw19.SrcNexts'. -/
def srcNextsCard : Claim7 := { stood := { row := srcNextsRow, standIns := [], harness := (true, "e38097a9da30c60eafe999ec17238c6293eb0f0151fb0a2ff17aa6defd77ed20"), looks := true }, kinds := [], alts := [], laidByText := true, laidKinds := [.data, .data, .data, .sentinel, .sentinel, .listed, .data], laidTests := true, laidLooks := .later }
def SrcNextsCardSaid : Prop := Claim7.holds Tryz.pinned (.plain (OpenSpec.ofChange srcNextsSpec)) srcNextsCard

/-- THE TIED CARD OF 'rabbetlaw19.SrcSteps'. -/
def srcStepsCard : Claim7 := { stood := { row := srcStepsRow, standIns := [], harness := (true, "e38097a9da30c60eafe999ec17238c6293eb0f0151fb0a2ff17aa6defd77ed20"), looks := true }, kinds := [], alts := [], laidByText := true, laidKinds := [.data, .data, .data, .sentinel, .sentinel, .listed, .data], laidTests := true, laidLooks := .later }
def SrcStepsCardSaid : Prop := Claim7.holds Tryz.pinned (.plain (OpenSpec.ofChange srcStepsSpec)) srcStepsCard

/-- THE TIED CARD OF 'rabbetlaw19.SrcFuel'. -/
def srcFuelCard : Claim7 := { stood := { row := srcFuelRow, standIns := [], harness := (true, "e38097a9da30c60eafe999ec17238c6293eb0f0151fb0a2ff17aa6defd77ed20"), looks := true }, kinds := [], alts := [], laidByText := true, laidKinds := [.data, .data, .data, .sentinel, .sentinel, .listed, .data], laidTests := true, laidLooks := .later }
def SrcFuelCardSaid : Prop := Claim7.holds Tryz.pinned (.plain (OpenSpec.ofChange srcFuelSpec)) srcFuelCard

/-- THE SECOND FORM's CARD OF 'rabbetlaw19.SrcNexts'. -/
def srcNextsUptoCard : Claim7 := { stood := { row := srcNextsUptoRow, standIns := [], harness := (true, "e38097a9da30c60eafe999ec17238c6293eb0f0151fb0a2ff17aa6defd77ed20"), looks := true }, kinds := [], alts := [], laidByText := true, laidKinds := [.data, .data, .data, .sentinel, .sentinel, .listed, .data], laidTests := true, laidLooks := .later }
def SrcNextsUptoCardSaid : Prop := Claim7.holds Tryz.pinned (.plain (OpenSpec.upto srcNextsSpec)) srcNextsUptoCard

/-- THE SECOND FORM's CARD OF 'rabbetlaw19.SrcSteps'. -/
def srcStepsUptoCard : Claim7 := { stood := { row := srcStepsUptoRow, standIns := [], harness := (true, "e38097a9da30c60eafe999ec17238c6293eb0f0151fb0a2ff17aa6defd77ed20"), looks := true }, kinds := [], alts := [], laidByText := true, laidKinds := [.data, .data, .data, .sentinel, .sentinel, .listed, .data], laidTests := true, laidLooks := .later }
def SrcStepsUptoCardSaid : Prop := Claim7.holds Tryz.pinned (.plain (OpenSpec.upto srcStepsSpec)) srcStepsUptoCard

/-- THE SECOND FORM's CARD OF 'rabbetlaw19.SrcFuel'. -/
def srcFuelUptoCard : Claim7 := { stood := { row := srcFuelUptoRow, standIns := [], harness := (true, "e38097a9da30c60eafe999ec17238c6293eb0f0151fb0a2ff17aa6defd77ed20"), looks := true }, kinds := [], alts := [], laidByText := true, laidKinds := [.data, .data, .data, .sentinel, .sentinel, .listed, .data], laidTests := true, laidLooks := .later }
def SrcFuelUptoCardSaid : Prop := Claim7.holds Tryz.pinned (.plain (OpenSpec.upto srcFuelSpec)) srcFuelUptoCard
end Rows
end Go.Proofs.YtggbkidckoecfaaGreatDoor
