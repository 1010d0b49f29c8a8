/- The first of any events that writes where its access may not is the one that bound.Strays tells, and none is told where all write as they may (BoundStrays, second form), for every program and every list of events whose bulk is at most 1048576, as the statement says. -/
import Derived.Test.YteakojhgmhmdkaaGreatDoorRb8
set_option linter.unusedVariables false
set_option linter.unusedSimpArgs false
open Option renaming some→Yh
set_option maxRecDepth 100000
namespace Go.Proofs.YteakojhgmhmdkaaGreatDoor.rb.boundStrays
open Rb Go
theorem Xj:Rows.boundStraysUptoRow.wfByText (Rows.OpenSpec.upto Rows.boundStraysSpec)=true:=dD (by kernel_rfl)
theorem Xk:Tryz.prog.funcNamed Rows.boundStraysUptoRow.func=some 4:=by kernel_rfl
theorem Xl:Tryz.checked.prog.looks []=true:=dD (by kernel_rfl)
theorem Xm:Tryz.prog.wantsStandIn 25=false:=by kernel_rfl
theorem Xn:Tryz.prog.wantsStandIn 55=false:=by kernel_rfl
theorem Xo:(!(Rows.boundStraysUptoRow.goesBy Tryz.checked.prog))=true:=dD (by kernel_rfl)
theorem Xp:false=Rows.boundStraysUptoRow.goesBy Tryz.checked.prog:=by
 have h:=Xo;revert h;cases Rows.boundStraysUptoRow.goesBy Tryz.checked.prog with
 |false=>exact λ_=>rfl
 |true=>exact λh=>by cases h
end Go.Proofs.YteakojhgmhmdkaaGreatDoor.rb.boundStrays
namespace Go.Proofs.YteakojhgmhmdkaaGreatDoor
open Go
theorem boundStraysUpto_holds:Rows.BoundStraysUptoCardSaid:=
 Claim7.holds_tied_plain_at .later [] [.data, .data, .data, .sentinel, .sentinel, .listed, .data] true (true, "64816494cefa5660c093722c6a7907b96fbc3d43ec26793e1b9cd20c18f8fb8d") true
  rb.boundStrays.row (λ_ h=>by cases h) rb.boundStrays.Xj (λ_ h=>by cases h) boundStraysUpto_row_tie rfl ⟨rfl,rfl⟩ (by kernel_rfl) rfl
  (λf fn hf a=>by
    obtain rfl:f=4:=Yh.inj (rb.boundStrays.Xk.symm.trans hf) |>.symm;obtain rfl:fn=Tryz.f4:=(Yh.inj (Tryz.func4.symm.trans a)).symm;exact ⟨rb.boundStrays.Xl.symm,λj t ht=>by
      rw[Tryz.params4]at ht;rcases j with _|_|j
      · obtain rfl:t=25:=by simpa using ht.symm
        exact rb.boundStrays.Xm
      · obtain rfl:t=55:=by simpa using ht.symm
        exact rb.boundStrays.Xn
      ·simp at ht⟩)
  rb.boundStrays.Xp
#print axioms boundStraysUpto_holds
end Go.Proofs.YteakojhgmhmdkaaGreatDoor
