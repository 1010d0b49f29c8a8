/- What any thread of any program does next, behind any answers and with any fuel, is what the document says by a machine of its own (SrcNexts), in the statement's second form: for every program whose reading has at most 1048576 values, every thread number, every list of answers and every fuel, with no other condition. -/
import Derived.Test.YtggbkidckoecfaaGreatDoorRb8
set_option linter.unusedVariables false
set_option linter.unusedSimpArgs false
open Option renaming some→Wy
set_option maxRecDepth 100000
namespace Go.Proofs.YtggbkidckoecfaaGreatDoor.rb.srcNexts
open Rb Go
theorem VU:Rows.srcNextsUptoRow.wfByText (Rows.OpenSpec.upto Rows.srcNextsSpec)=true:=dF (by kernel_rfl)
theorem VV:Tryz.prog.funcNamed Rows.srcNextsUptoRow.func=some 3:=by kernel_rfl
theorem VW:Tryz.checked.prog.looks []=true:=dF (by kernel_rfl)
theorem VX:Tryz.prog.wantsStandIn 25=false:=by kernel_rfl
theorem VY:Tryz.prog.wantsStandIn 26=false:=by kernel_rfl
theorem Lo:Tryz.prog.wantsStandIn 3=false:=by kernel_rfl
theorem VZ:(!(Rows.srcNextsUptoRow.goesBy Tryz.checked.prog))=true:=dF (by kernel_rfl)
theorem V0:false=Rows.srcNextsUptoRow.goesBy Tryz.checked.prog:=by
 have h:=VZ;revert h;cases Rows.srcNextsUptoRow.goesBy Tryz.checked.prog with
 |false=>exact λ_=>rfl
 |true=>exact λh=>by cases h
end Go.Proofs.YtggbkidckoecfaaGreatDoor.rb.srcNexts
namespace Go.Proofs.YtggbkidckoecfaaGreatDoor
open Go
theorem srcNextsUpto_holds:Rows.SrcNextsUptoCardSaid:=
 Claim7.holds_tied_plain_at .later [] [.data, .data, .data, .sentinel, .sentinel, .listed, .data] true (true, "e38097a9da30c60eafe999ec17238c6293eb0f0151fb0a2ff17aa6defd77ed20") true
  rb.srcNexts.row (λ_ h=>by cases h) rb.srcNexts.VU (λ_ h=>by cases h) srcNextsUpto_row_tie rfl ⟨rfl,rfl⟩ (by kernel_rfl) rfl
  (λf fn hf a=>by
    obtain rfl:f=3:=Wy.inj (rb.srcNexts.VV.symm.trans hf) |>.symm;obtain rfl:fn=Tryz.f3:=(Wy.inj (Tryz.func3.symm.trans a)).symm;exact ⟨rb.srcNexts.VW.symm,λj t ht=>by
      rw[Tryz.params3]at ht;rcases j with _|_|_|_|j
      · obtain rfl:t=25:=by simpa using ht.symm
        exact rb.srcNexts.VX
      · obtain rfl:t=3:=by simpa using ht.symm
        exact rb.srcNexts.Lo
      · obtain rfl:t=26:=by simpa using ht.symm
        exact rb.srcNexts.VY
      · obtain rfl:t=3:=by simpa using ht.symm
        exact rb.srcNexts.Lo
      ·simp at ht⟩)
  rb.srcNexts.V0
#print axioms srcNextsUpto_holds
end Go.Proofs.YtggbkidckoecfaaGreatDoor
