/- The memory locations of any access of any program (BoundAllows): what bound.Allowed tells is what the document's rules give, for every program, thread and access, as the statement says (in its second form: the program read is at most 1048576 in bulk). -/
import Derived.Test.YteboppjdnpoglaaGreatDoorRb8
set_option linter.unusedVariables false
set_option linter.unusedSimpArgs false
open Option renaming some→aaC
set_option maxRecDepth 100000
namespace Go.Proofs.YteboppjdnpoglaaGreatDoor.rb.boundAllows
open Rb Go
theorem ZX:Rows.boundAllowsUptoRow.wfByText (Rows.OpenSpec.upto Rows.boundAllowsSpec)=true:=er (by kernel_rfl)
theorem ZY:Tryz.prog.funcNamed Rows.boundAllowsUptoRow.func=some 3:=by kernel_rfl
theorem ZZ:Tryz.checked.prog.looks []=true:=er (by kernel_rfl)
theorem Z0:Tryz.prog.wantsStandIn 25=false:=by kernel_rfl
theorem N9:Tryz.prog.wantsStandIn 3=false:=by kernel_rfl
theorem Z1:(!(Rows.boundAllowsUptoRow.goesBy Tryz.checked.prog))=true:=er (by kernel_rfl)
theorem Z2:false=Rows.boundAllowsUptoRow.goesBy Tryz.checked.prog:=by
 have h:=Z1;revert h;cases Rows.boundAllowsUptoRow.goesBy Tryz.checked.prog with
 |false=>exact λ_=>rfl
 |true=>exact λh=>by cases h
end Go.Proofs.YteboppjdnpoglaaGreatDoor.rb.boundAllows
namespace Go.Proofs.YteboppjdnpoglaaGreatDoor
open Go
theorem boundAllowsUpto_holds:Rows.BoundAllowsUptoCardSaid:=
 Claim7.holds_tied_plain_at .later [] [.data, .data, .data, .sentinel, .sentinel, .listed, .data] true (true, "9cff48d41532306d4fa5ee2e3731c7eea4de8d50869a544d7c064d528120b754") true
  rb.boundAllows.row (λ_ h=>by cases h) rb.boundAllows.ZX (λ_ h=>by cases h) boundAllowsUpto_row_tie rfl ⟨rfl,rfl⟩ (by kernel_rfl) rfl
  (λf fn hf a=>by
    obtain rfl:f=3:=aaC.inj (rb.boundAllows.ZY.symm.trans hf) |>.symm;obtain rfl:fn=Tryz.f3:=(aaC.inj (Tryz.func3.symm.trans a)).symm;exact ⟨rb.boundAllows.ZZ.symm,λj t ht=>by
      rw[Tryz.params3]at ht;rcases j with _|_|_|j
      . obtain rfl:t=25:=by simpa using ht.symm
        exact rb.boundAllows.Z0
      . obtain rfl:t=3:=by simpa using ht.symm
        exact rb.boundAllows.N9
      . obtain rfl:t=3:=by simpa using ht.symm
        exact rb.boundAllows.N9
      ·simp at ht⟩)
  rb.boundAllows.Z2
#print axioms boundAllowsUpto_holds
end Go.Proofs.YteboppjdnpoglaaGreatDoor
