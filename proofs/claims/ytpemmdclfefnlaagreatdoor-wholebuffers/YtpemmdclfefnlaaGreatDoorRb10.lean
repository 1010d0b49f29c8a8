/- Two threads that each write one number and then read the other one's: both read the beginning just if the writes release nothing, or the reads acquire nothing, and no fence sc stands between (WholeBuffers), for every byte that picks the orders, with and without the fence. -/
import Derived.Test.YtpemmdclfefnlaaGreatDoorRb9
set_option linter.unusedVariables false
set_option linter.unusedSimpArgs false
set_option maxRecDepth 100000
namespace Go.Proofs.YtpemmdclfefnlaaGreatDoor.rb.wholeBuffers
open Rb Go
theorem card0 : Rows.wholeBuffersRow.wfByText (OpenSpec.ofChange Rows.wholeBuffersSpec) = true := of_forced (by kernel_rfl)
theorem card2 : Tryz.prog.funcNamed Rows.wholeBuffersRow.func = some 4 := by kernel_rfl
theorem card3 : Tryz.checked.prog.looks [] = true := of_forced (by kernel_rfl)
theorem card4_4 : Tryz.prog.wantsStandIn 4 = false := by kernel_rfl
theorem card4_5 : Tryz.prog.wantsStandIn 5 = false := by kernel_rfl
theorem card5 : (!(Rows.wholeBuffersRow.goesBy Tryz.checked.prog)) = true := of_forced (by kernel_rfl)
theorem card6 : false = Rows.wholeBuffersRow.goesBy Tryz.checked.prog := by
  have h := card5
  revert h
  cases Rows.wholeBuffersRow.goesBy Tryz.checked.prog with
  | false => exact fun _ => rfl
  | true => exact fun h => by cases h
end Go.Proofs.YtpemmdclfefnlaaGreatDoor.rb.wholeBuffers
namespace Go.Proofs.YtpemmdclfefnlaaGreatDoor
open Go

theorem wholeBuffers_holds : Rows.WholeBuffersCardSaid :=
  Claim7.holds_tied_plain_at .later [] [.data, .data, .data, .sentinel, .sentinel, .listed, .data] true (true, "710200265b2a9cbd214b7c182280950e38468fbb6328e3983643c4ba052f6736") true
    rb.wholeBuffers.row (fun _ h => by cases h) rb.wholeBuffers.card0 (fun _ h => by cases h) wholeBuffers_row_tie rfl ⟨rfl, rfl⟩ (by kernel_rfl) rfl
    (fun f fn hf hfn => by
      obtain rfl : f = 4 := Option.some.inj (rb.wholeBuffers.card2.symm.trans hf) |>.symm
      obtain rfl : fn = Tryz.f4 := (Option.some.inj (Tryz.func4.symm.trans hfn)).symm
      exact ⟨rb.wholeBuffers.card3.symm, fun j t ht => by
        rw [Tryz.params4] at ht
        rcases j with _ | _ | j
        · obtain rfl : t = 5 := by simpa using ht.symm
          exact rb.wholeBuffers.card4_5
        · obtain rfl : t = 4 := by simpa using ht.symm
          exact rb.wholeBuffers.card4_4
        · simp at ht⟩)
    rb.wholeBuffers.card6
#print axioms wholeBuffers_holds
end Go.Proofs.YtpemmdclfefnlaaGreatDoor
