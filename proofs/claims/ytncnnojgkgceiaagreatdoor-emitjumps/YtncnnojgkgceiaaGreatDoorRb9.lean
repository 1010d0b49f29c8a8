/- Each branch of the instructions that package emit makes of a thread's steps leads to one of them, each of them may be, and the last is the end (EmitJumps, second form), for every program, every number of a thread and of places whose bulk is at most 1048576, as the statement says. -/
import Derived.Test.YtncnnojgkgceiaaGreatDoorRb8
set_option linter.unusedVariables false
set_option linter.unusedSimpArgs false
open Option renaming some→aaK
set_option maxRecDepth 100000
namespace Go.Proofs.YtncnnojgkgceiaaGreatDoor.rb.emitJumps
open Rb Go
theorem ZR:Rows.emitJumpsUptoRow.wfByText (Rows.OpenSpec.upto Rows.emitJumpsSpec)=true:=dj (by kernel_rfl)
theorem ZS:Tryz.prog.funcNamed Rows.emitJumpsUptoRow.func=some 3:=by kernel_rfl
theorem ZT:Tryz.checked.prog.looks []=true:=dj (by kernel_rfl)
theorem ZU:Tryz.prog.wantsStandIn 25=false:=by kernel_rfl
theorem ZV:Tryz.prog.wantsStandIn 3=false:=by kernel_rfl
theorem ZW:Tryz.prog.wantsStandIn 5=false:=by kernel_rfl
theorem ZX:(!(Rows.emitJumpsUptoRow.goesBy Tryz.checked.prog))=true:=dj (by kernel_rfl)
theorem ZY:false=Rows.emitJumpsUptoRow.goesBy Tryz.checked.prog:=by
 have h:=ZX;revert h;cases Rows.emitJumpsUptoRow.goesBy Tryz.checked.prog with
 |false=>exact λ_=>rfl
 |true=>exact λh=>by cases h
end Go.Proofs.YtncnnojgkgceiaaGreatDoor.rb.emitJumps
namespace Go.Proofs.YtncnnojgkgceiaaGreatDoor
open Go
theorem emitJumpsUpto_holds:Rows.EmitJumpsUptoCardSaid:=
 Claim7.holds_tied_plain_at .later [] [.listed, .data] true (true, "d296e2c2957ff93cdb436133b34b60e9e9c3341592e2043cd3cebb81d6c60927") true
  rb.emitJumps.row (λ_ h=>by cases h) rb.emitJumps.ZR (λ_ h=>by cases h) emitJumpsUpto_row_tie rfl ⟨rfl,rfl⟩ (by kernel_rfl) rfl
  (λf fn hf a=>by
    obtain rfl:f=3:=aaK.inj (rb.emitJumps.ZS.symm.trans hf) |>.symm;obtain rfl:fn=Tryz.f3:=(aaK.inj (Tryz.func3.symm.trans a)).symm;exact ⟨rb.emitJumps.ZT.symm,λj t ht=>by
      rw[Tryz.params3]at ht;rcases j with _|_|_|j
      · obtain rfl:t=25:=by simpa using ht.symm
        exact rb.emitJumps.ZU
      · obtain rfl:t=3:=by simpa using ht.symm
        exact rb.emitJumps.ZV
      · obtain rfl:t=5:=by simpa using ht.symm
        exact rb.emitJumps.ZW
      ·simp at ht⟩)
  rb.emitJumps.ZY
#print axioms emitJumpsUpto_holds
end Go.Proofs.YtncnnojgkgceiaaGreatDoor
