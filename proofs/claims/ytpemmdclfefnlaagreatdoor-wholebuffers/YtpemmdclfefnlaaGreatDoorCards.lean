/-
  DERIVED. GIVEN WITH THE SEED: THE CARDS: each row of YtpemmdclfefnlaaGreatDoorRows.lean that lists a variable, with what it lists TIED to the program's text (the seventh form; the later family's looks); each row that meets fmt, with fmt's text TOLD by the authors' own Lean function (tested against real Go, not proved from fmt's source: count such statements apart). THE CARD IS WHAT COUNTS. Prove the row's statement (the work); the ties are given (YtpemmdclfefnlaaGreatDoorTie.lean); close each card by the builder's one call (the guide's Derived/Test/ToyasCard.lean, 'card_holds'). Laid BY PROGRAM, IN A SANDBOX (cutbox-door.mjs). By AI agents, Wed Nov 11 2026. No macro, syntax, notation, axiom, sorry.
-/
import Derived.Test.YtpemmdclfefnlaaGreatDoorRows
import GoSem.ClaimSeven
namespace Go.Proofs.YtpemmdclfefnlaaGreatDoor
namespace Rows

/-- THE TIED CARD OF 'rabbettop.WholeLoads'. -/
def wholeLoadsCard : Claim7 := { stood := { row := wholeLoadsRow, standIns := [], harness := (true, "710200265b2a9cbd214b7c182280950e38468fbb6328e3983643c4ba052f6736"), looks := true }, kinds := [], alts := [], laidByText := true, laidKinds := [.data, .data, .data, .sentinel, .sentinel, .listed, .data], laidTests := true, laidLooks := .later }
def WholeLoadsCardSaid : Prop := Claim7.holds Tryz.pinned (.plain (OpenSpec.ofChange wholeLoadsSpec)) wholeLoadsCard

/-- THE TIED CARD OF 'rabbettop.WholeBuffers'. -/
def wholeBuffersCard : Claim7 := { stood := { row := wholeBuffersRow, standIns := [], harness := (true, "710200265b2a9cbd214b7c182280950e38468fbb6328e3983643c4ba052f6736"), looks := true }, kinds := [], alts := [], laidByText := true, laidKinds := [.data, .data, .data, .sentinel, .sentinel, .listed, .data], laidTests := true, laidLooks := .later }
def WholeBuffersCardSaid : Prop := Claim7.holds Tryz.pinned (.plain (OpenSpec.ofChange wholeBuffersSpec)) wholeBuffersCard

/-- THE SECOND FORM's CARD OF 'rabbettop.WholeLoads'. -/
def wholeLoadsUptoCard : Claim7 := { stood := { row := wholeLoadsUptoRow, standIns := [], harness := (true, "710200265b2a9cbd214b7c182280950e38468fbb6328e3983643c4ba052f6736"), looks := true }, kinds := [], alts := [], laidByText := true, laidKinds := [.data, .data, .data, .sentinel, .sentinel, .listed, .data], laidTests := true, laidLooks := .later }
def WholeLoadsUptoCardSaid : Prop := Claim7.holds Tryz.pinned (.plain (OpenSpec.upto wholeLoadsSpec)) wholeLoadsUptoCard

/-- THE SECOND FORM's CARD OF 'rabbettop.WholeBuffers'. -/
def wholeBuffersUptoCard : Claim7 := { stood := { row := wholeBuffersUptoRow, standIns := [], harness := (true, "710200265b2a9cbd214b7c182280950e38468fbb6328e3983643c4ba052f6736"), looks := true }, kinds := [], alts := [], laidByText := true, laidKinds := [.data, .data, .data, .sentinel, .sentinel, .listed, .data], laidTests := true, laidLooks := .later }
def WholeBuffersUptoCardSaid : Prop := Claim7.holds Tryz.pinned (.plain (OpenSpec.upto wholeBuffersSpec)) wholeBuffersUptoCard
end Rows
end Go.Proofs.YtpemmdclfefnlaaGreatDoor
