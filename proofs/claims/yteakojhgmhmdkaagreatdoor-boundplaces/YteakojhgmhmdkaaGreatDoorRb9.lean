/- What an access is allowed are memory locations of the variable that it names (BoundPlaces, second form), for every program whose bulk is at most 1048576, every thread and every access, as the statement says. -/
import Derived.Test.YteakojhgmhmdkaaGreatDoorRb8
set_option linter.unusedVariables false
set_option linter.unusedSimpArgs false
open Option renaming some→Yb
set_option maxRecDepth 100000
namespace Go.Proofs.YteakojhgmhmdkaaGreatDoor.rb.boundPlaces
open Rb Go
theorem Xe:Rows.boundPlacesUptoRow.wfByText (Rows.OpenSpec.upto Rows.boundPlacesSpec)=true:=dF (by kernel_rfl)
theorem Xf:Tryz.prog.funcNamed Rows.boundPlacesUptoRow.func=some 5:=by kernel_rfl
theorem Xg:Tryz.checked.prog.looks []=true:=dF (by kernel_rfl)
theorem Xh:Tryz.prog.wantsStandIn 25=false:=by kernel_rfl
theorem Ln:Tryz.prog.wantsStandIn 3=false:=by kernel_rfl
theorem Xi:(!(Rows.boundPlacesUptoRow.goesBy Tryz.checked.prog))=true:=dF (by kernel_rfl)
theorem Xj:false=Rows.boundPlacesUptoRow.goesBy Tryz.checked.prog:=by
 have h:=Xi;revert h;cases Rows.boundPlacesUptoRow.goesBy Tryz.checked.prog with
 |false=>exact λ_=>rfl
 |true=>exact λh=>by cases h
end Go.Proofs.YteakojhgmhmdkaaGreatDoor.rb.boundPlaces
namespace Go.Proofs.YteakojhgmhmdkaaGreatDoor
open Go
theorem boundPlacesUpto_holds:Rows.BoundPlacesUptoCardSaid:=
 Claim7.holds_tied_plain_at .later [] [.data, .data, .data, .sentinel, .sentinel, .listed, .data] true (true, "64816494cefa5660c093722c6a7907b96fbc3d43ec26793e1b9cd20c18f8fb8d") true
  rb.boundPlaces.row (λ_ h=>by cases h) rb.boundPlaces.Xe (λ_ h=>by cases h) boundPlacesUpto_row_tie rfl ⟨rfl,rfl⟩ (by kernel_rfl) rfl
  (λf fn hf a=>by
    obtain rfl:f=5:=Yb.inj (rb.boundPlaces.Xf.symm.trans hf) |>.symm;obtain rfl:fn=Tryz.f5:=(Yb.inj (Tryz.func5.symm.trans a)).symm;exact ⟨rb.boundPlaces.Xg.symm,λj t ht=>by
      rw[Tryz.params5]at ht;rcases j with _|_|_|j
      · obtain rfl:t=25:=by simpa using ht.symm
        exact rb.boundPlaces.Xh
      · obtain rfl:t=3:=by simpa using ht.symm
        exact rb.boundPlaces.Ln
      · obtain rfl:t=3:=by simpa using ht.symm
        exact rb.boundPlaces.Ln
      ·simp at ht⟩)
  rb.boundPlaces.Xj
#print axioms boundPlacesUpto_holds
end Go.Proofs.YteakojhgmhmdkaaGreatDoor
