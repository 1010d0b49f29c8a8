/- Lowering makes as many threads as the tree has, and passes 2^48 bytes nowhere else: the law as far as the machine can bear its texts (Upto). -/
import Derived.Test.YtbjhdakiiedmcaaGreatDoorRb8
set_option linter.unusedVariables false
set_option linter.unusedSimpArgs false
set_option maxRecDepth 100000
namespace Go.Proofs.YtbjhdakiiedmcaaGreatDoor.rb.lowerThreads
open Rb Go
theorem auz:Rows.lowerThreadsUptoRow.wfByText (Rows.OpenSpec.upto Rows.lowerThreadsSpec)=true:=gy (by kernel_rfl)
theorem auA:Tryz.prog.funcNamed Rows.lowerThreadsUptoRow.func=some 3:=by kernel_rfl
theorem auB:Tryz.checked.prog.looks []=false:=by
 have h:(!(Tryz.checked.prog.looks []))=true:=gy (by kernel_rfl);revert h;cases Tryz.checked.prog.looks []with
 |false=>exact fun _=>rfl
 |true=>exact fun h=>by cases h
theorem anu:Tryz.prog.wantsStandIn 25=false:=by kernel_rfl
theorem aow:Tryz.prog.wantsStandIn 3=false:=by kernel_rfl
theorem auC:(!(Rows.lowerThreadsUptoRow.goesBy Tryz.checked.prog))=true:=gy (by kernel_rfl)
theorem auD:false=Rows.lowerThreadsUptoRow.goesBy Tryz.checked.prog:=by
 have h:=auC;revert h;cases Rows.lowerThreadsUptoRow.goesBy Tryz.checked.prog with
 |false=>exact fun _=>rfl
 |true=>exact fun h=>by cases h
end Go.Proofs.YtbjhdakiiedmcaaGreatDoor.rb.lowerThreads
namespace Go.Proofs.YtbjhdakiiedmcaaGreatDoor
open Go
theorem lowerThreadsUpto_holds:Rows.LowerThreadsUptoCardSaid:=
 Claim7.holds_tied_plain_at .later [] [.listed, .data] true (true, "940992f215cde30533acf46220cd49183f9a08ca97edb1a62c622177e28a55d6") false
  rb.lowerThreads.row (fun _ h=>by cases h) rb.lowerThreads.auz (fun _ h=>by cases h) lowerThreadsUpto_row_tie rfl ⟨rfl,rfl⟩ (by kernel_rfl) rfl
  (fun f fn hf Dk=>by
    obtain rfl:f=3:=Option.some.inj (rb.lowerThreads.auA.symm.trans hf) |>.symm;obtain rfl:fn=Tryz.f3:=(Option.some.inj (Tryz.func3.symm.trans Dk)).symm;exact ⟨rb.lowerThreads.auB.symm,fun j t ht=>by
      rw[Tryz.params3]at ht;rcases j with _|_|j
      · obtain rfl:t=25:=by simpa using ht.symm
        exact rb.lowerThreads.anu
      · obtain rfl:t=3:=by simpa using ht.symm
        exact rb.lowerThreads.aow
      ·simp at ht⟩)
  rb.lowerThreads.auD
#print axioms lowerThreadsUpto_holds
end Go.Proofs.YtbjhdakiiedmcaaGreatDoor
