/-
  DERIVED. GIVEN WITH THE SEED: THE CARDS: each row of YtgejcelgofmbgaaDoorRows.lean that lists a variable, with what it lists TIED to the program's text (the seventh form; the later family's looks); each row that meets fmt, with fmt's text TOLD by the authors' own Lean function (tested against real Go, not proved from fmt's source: count such statements apart). THE CARD IS WHAT COUNTS. Prove the row's statement (the work); the ties are given (YtgejcelgofmbgaaDoorTie.lean); close each card by the builder's one call (the guide's Derived/Test/ToyasCard.lean, 'card_holds'). Laid BY PROGRAM, IN A SANDBOX (cutbox-door.mjs). By AI agents, Wed Nov 11 2026. No macro, syntax, notation, axiom, sorry.
-/
import Derived.Test.YtgejcelgofmbgaaDoorRows
import GoSem.ClaimSeven
namespace Go.Proofs.YtgejcelgofmbgaaDoor
namespace Rows

/-- THE TIED CARD OF 'rabbetlaw26.TaleLines'. -/
def taleLinesCard : Claim7 := { stood := { row := taleLinesRow, standIns := [], harness := (true, "1f76c00d5a62571382213d382f82060c06a563a6de6bc03491dd72d682990b83"), looks := true }, kinds := [], alts := [], laidByText := true, laidKinds := [.data, .data, .data, .data, .sentinel, .sentinel, .pinned], laidTests := true, laidLooks := .later }
def TaleLinesCardSaid : Prop := Claim7.holds Tryd.pinned (.plain (OpenSpec.ofChange taleLinesSpec)) taleLinesCard

/-- THE TIED CARD OF 'rabbetlaw26.TaleSteps'. -/
def taleStepsCard : Claim7 := { stood := { row := taleStepsRow, standIns := [], harness := (true, "1f76c00d5a62571382213d382f82060c06a563a6de6bc03491dd72d682990b83"), looks := true }, kinds := [], alts := [], laidByText := true, laidKinds := [.data, .data, .data, .data, .sentinel, .sentinel, .pinned], laidTests := true, laidLooks := .later }
def TaleStepsCardSaid : Prop := Claim7.holds Tryd.pinned (.plain (OpenSpec.ofChange taleStepsSpec)) taleStepsCard

/-- THE TIED CARD OF 'rabbetlaw26.TaleTexts'. -/
def taleTextsCard : Claim7 := { stood := { row := taleTextsRow, standIns := [], harness := (true, "1f76c00d5a62571382213d382f82060c06a563a6de6bc03491dd72d682990b83"), looks := true }, kinds := [], alts := [], laidByText := true, laidKinds := [.data, .data, .data, .data, .sentinel, .sentinel, .pinned], laidTests := true, laidLooks := .later }
def TaleTextsCardSaid : Prop := Claim7.holds Tryd.pinned (.plain (OpenSpec.ofChange taleTextsSpec)) taleTextsCard

/-- THE SECOND FORM's CARD OF 'rabbetlaw26.TaleLines'. -/
def taleLinesUptoCard : Claim7 := { stood := { row := taleLinesUptoRow, standIns := [], harness := (true, "1f76c00d5a62571382213d382f82060c06a563a6de6bc03491dd72d682990b83"), looks := true }, kinds := [], alts := [], laidByText := true, laidKinds := [.data, .data, .data, .data, .sentinel, .sentinel, .pinned], laidTests := true, laidLooks := .later }
def TaleLinesUptoCardSaid : Prop := Claim7.holds Tryd.pinned (.plain (OpenSpec.upto taleLinesSpec)) taleLinesUptoCard

/-- THE SECOND FORM's CARD OF 'rabbetlaw26.TaleSteps'. -/
def taleStepsUptoCard : Claim7 := { stood := { row := taleStepsUptoRow, standIns := [], harness := (true, "1f76c00d5a62571382213d382f82060c06a563a6de6bc03491dd72d682990b83"), looks := true }, kinds := [], alts := [], laidByText := true, laidKinds := [.data, .data, .data, .data, .sentinel, .sentinel, .pinned], laidTests := true, laidLooks := .later }
def TaleStepsUptoCardSaid : Prop := Claim7.holds Tryd.pinned (.plain (OpenSpec.upto taleStepsSpec)) taleStepsUptoCard

/-- THE SECOND FORM's CARD OF 'rabbetlaw26.TaleTexts'. -/
def taleTextsUptoCard : Claim7 := { stood := { row := taleTextsUptoRow, standIns := [], harness := (true, "1f76c00d5a62571382213d382f82060c06a563a6de6bc03491dd72d682990b83"), looks := true }, kinds := [], alts := [], laidByText := true, laidKinds := [.data, .data, .data, .data, .sentinel, .sentinel, .pinned], laidTests := true, laidLooks := .later }
def TaleTextsUptoCardSaid : Prop := Claim7.holds Tryd.pinned (.plain (OpenSpec.upto taleTextsSpec)) taleTextsUptoCard
end Rows
end Go.Proofs.YtgejcelgofmbgaaDoor
