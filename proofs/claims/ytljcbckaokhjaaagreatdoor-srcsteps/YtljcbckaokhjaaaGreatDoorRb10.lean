/- A program that is stepped at its source does what its document says (SrcSteps), for every program and every list of picks whose bulk is at most 1048576, as the statement says. -/
import Derived.Test.YtljcbckaokhjaaaGreatDoorRb9
set_option linter.unusedVariables false
set_option linter.unusedSimpArgs false
open Option renaming some→ZW
set_option maxRecDepth 100000
namespace Go.Proofs.YtljcbckaokhjaaaGreatDoor.rb.srcSteps
open Rb Go
theorem Zk:Rows.srcStepsUptoRow.wfByText (Rows.OpenSpec.upto Rows.srcStepsSpec)=true:=ea (by kernel_rfl)
theorem Zl:Tryz.prog.funcNamed Rows.srcStepsUptoRow.func=some 3:=by kernel_rfl
theorem Zm:Tryz.checked.prog.looks []=true:=ea (by kernel_rfl)
theorem Zn:Tryz.prog.wantsStandIn 25=false:=by kernel_rfl
theorem Zo:Tryz.prog.wantsStandIn 26=false:=by kernel_rfl
theorem Zp:(!(Rows.srcStepsUptoRow.goesBy Tryz.checked.prog))=true:=ea (by kernel_rfl)
theorem Zq:false=Rows.srcStepsUptoRow.goesBy Tryz.checked.prog:=by
 have h:=Zp;revert h;cases Rows.srcStepsUptoRow.goesBy Tryz.checked.prog with
 |false=>exact λ_=>rfl
 |true=>exact λh=>by cases h
end Go.Proofs.YtljcbckaokhjaaaGreatDoor.rb.srcSteps
namespace Go.Proofs.YtljcbckaokhjaaaGreatDoor
open Go
theorem srcStepsUpto_holds:Rows.SrcStepsUptoCardSaid:=
 Claim7.holds_tied_plain_at .later [] [.data, .data, .data, .sentinel, .sentinel, .listed, .data] true (true, "9e046ffd8e9c778409446335c864d4c9e00fb286fd9c3ca298b6d884ae509c14") true
  rb.srcSteps.row (λ_ h=>by cases h) rb.srcSteps.Zk (λ_ h=>by cases h) srcStepsUpto_row_tie rfl ⟨rfl,rfl⟩ (by kernel_rfl) rfl
  (λf fn hf a=>by
    obtain rfl:f=3:=ZW.inj (rb.srcSteps.Zl.symm.trans hf) |>.symm;obtain rfl:fn=Tryz.f3:=(ZW.inj (Tryz.func3.symm.trans a)).symm;exact ⟨rb.srcSteps.Zm.symm,λj t ht=>by
      rw[Tryz.params3]at ht;rcases j with _|_|j
      . obtain rfl:t=25:=by simpa using ht.symm
        exact rb.srcSteps.Zn
      . obtain rfl:t=26:=by simpa using ht.symm
        exact rb.srcSteps.Zo
      ·simp at ht⟩)
  rb.srcSteps.Zq
#print axioms srcStepsUpto_holds
end Go.Proofs.YtljcbckaokhjaaaGreatDoor
