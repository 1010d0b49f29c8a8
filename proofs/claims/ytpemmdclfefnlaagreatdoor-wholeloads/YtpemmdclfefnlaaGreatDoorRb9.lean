/- Two threads that each read one number and then write the other one's: each reads what the other one writes just if no read acquires, nor a write releases (WholeLoads), for every byte that picks the orders. -/
import Derived.Test.YtpemmdclfefnlaaGreatDoorRb8
set_option linter.unusedVariables false
set_option linter.unusedSimpArgs false
set_option maxRecDepth 100000
namespace Go.Proofs.YtpemmdclfefnlaaGreatDoor.rb.wholeLoads
open Rb Go
theorem card0 : Rows.wholeLoadsRow.wfByText (OpenSpec.ofChange Rows.wholeLoadsSpec) = true := of_forced (by kernel_rfl)
theorem card2 : Tryz.prog.funcNamed Rows.wholeLoadsRow.func = some 3 := by kernel_rfl
theorem card3 : Tryz.checked.prog.looks [] = true := of_forced (by kernel_rfl)
theorem card4_5 : Tryz.prog.wantsStandIn 5 = false := by kernel_rfl
theorem card5 : (!(Rows.wholeLoadsRow.goesBy Tryz.checked.prog)) = true := of_forced (by kernel_rfl)
theorem card6 : false = Rows.wholeLoadsRow.goesBy Tryz.checked.prog := by
  have h := card5
  revert h
  cases Rows.wholeLoadsRow.goesBy Tryz.checked.prog with
  | false => exact fun _ => rfl
  | true => exact fun h => by cases h
end Go.Proofs.YtpemmdclfefnlaaGreatDoor.rb.wholeLoads
namespace Go.Proofs.YtpemmdclfefnlaaGreatDoor
open Go

theorem wholeLoads_holds : Rows.WholeLoadsCardSaid :=
  Claim7.holds_tied_plain_at .later [] [.data, .data, .data, .sentinel, .sentinel, .listed, .data] true (true, "710200265b2a9cbd214b7c182280950e38468fbb6328e3983643c4ba052f6736") true
    rb.wholeLoads.row (fun _ h => by cases h) rb.wholeLoads.card0 (fun _ h => by cases h) wholeLoads_row_tie rfl ⟨rfl, rfl⟩ (by kernel_rfl) rfl
    (fun f fn hf hfn => by
      obtain rfl : f = 3 := Option.some.inj (rb.wholeLoads.card2.symm.trans hf) |>.symm
      obtain rfl : fn = Tryz.f3 := (Option.some.inj (Tryz.func3.symm.trans hfn)).symm
      exact ⟨rb.wholeLoads.card3.symm, fun j t ht => by
        rw [Tryz.params3] at ht
        rcases j with _ | j
        · obtain rfl : t = 5 := by simpa using ht.symm
          exact rb.wholeLoads.card4_5
        · simp at ht⟩)
    rb.wholeLoads.card6
#print axioms wholeLoads_holds
end Go.Proofs.YtpemmdclfefnlaaGreatDoor
