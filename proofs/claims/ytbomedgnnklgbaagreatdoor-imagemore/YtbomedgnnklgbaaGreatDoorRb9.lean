/- A program that holds one more thread, that does nothing, has the image of the program without it, and more: the other threads' words and sites are the same and the globals' size is the same (ImageMore, second form), for every program whose bulk is at most 1048576, as the statement says. -/
import Derived.Test.YtbomedgnnklgbaaGreatDoorRb8
set_option linter.unusedVariables false
set_option linter.unusedSimpArgs false
open Option renaming some→aad
set_option maxRecDepth 100000
namespace Go.Proofs.YtbomedgnnklgbaaGreatDoor.rb.imageMore
open Rb Go
theorem Zk:Rows.imageMoreUptoRow.wfByText (Rows.OpenSpec.upto Rows.imageMoreSpec)=true:=c4 (by kernel_rfl)
theorem Zl:Tryz.prog.funcNamed Rows.imageMoreUptoRow.func=some 3:=by kernel_rfl
theorem Zm:Tryz.checked.prog.looks []=true:=c4 (by kernel_rfl)
theorem Zn:Tryz.prog.wantsStandIn 25=false:=by kernel_rfl
theorem Zo:(!(Rows.imageMoreUptoRow.goesBy Tryz.checked.prog))=true:=c4 (by kernel_rfl)
theorem Zp:false=Rows.imageMoreUptoRow.goesBy Tryz.checked.prog:=by
 have h:=Zo;revert h;cases Rows.imageMoreUptoRow.goesBy Tryz.checked.prog with
 |false=>exact λ_=>rfl
 |true=>exact λh=>by cases h
end Go.Proofs.YtbomedgnnklgbaaGreatDoor.rb.imageMore
namespace Go.Proofs.YtbomedgnnklgbaaGreatDoor
open Go
theorem imageMoreUpto_holds:Rows.ImageMoreUptoCardSaid:=
 Claim7.holds_tied_plain_at .later [] [.data, .data, .data, .sentinel, .sentinel, .listed, .data] true (true, "7c8f61bbb6f3311c257208fc7fc36f9765d41e9d6016cab764e70f94abd0efee") true
  rb.imageMore.row (λ_ h=>by cases h) rb.imageMore.Zk (λ_ h=>by cases h) imageMoreUpto_row_tie rfl ⟨rfl,rfl⟩ (by kernel_rfl) rfl
  (λf fn hf a=>by
    obtain rfl:f=3:=aad.inj (rb.imageMore.Zl.symm.trans hf) |>.symm;obtain rfl:fn=Tryz.f3:=(aad.inj (Tryz.func3.symm.trans a)).symm;exact ⟨rb.imageMore.Zm.symm,λj t ht=>by
      rw[Tryz.params3]at ht;rcases j with _|j
      · obtain rfl:t=25:=by simpa using ht.symm
        exact rb.imageMore.Zn
      ·simp at ht⟩)
  rb.imageMore.Zp
#print axioms imageMoreUpto_holds
end Go.Proofs.YtbomedgnnklgbaaGreatDoor
