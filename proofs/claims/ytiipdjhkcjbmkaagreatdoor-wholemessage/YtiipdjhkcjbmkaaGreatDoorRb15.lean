/- A message: what is written ahead of a release is read behind an acquire that sees it; the law asks its numbers for their last bit alone, and at bits it is run in the kernel. -/
import Derived.Test.YtiipdjhkcjbmkaaGreatDoorRb14
set_option linter.unusedVariables false
set_option linter.unusedSimpArgs false
set_option maxRecDepth 100000
namespace Go.Proofs.YtiipdjhkcjbmkaaGreatDoor.rb.wholeMessage
open Rb Go
theorem card0 : Rows.wholeMessageRow.wfByText (OpenSpec.ofChange Rows.wholeMessageSpec) = true := of_forced (by kernel_rfl)
theorem card2 : Tryz.prog.funcNamed Rows.wholeMessageRow.func = some 3 := by kernel_rfl
theorem card3 : Tryz.checked.prog.looks [] = true := of_forced (by kernel_rfl)
theorem card4_4 : Tryz.prog.wantsStandIn 4 = false := by kernel_rfl
theorem card4_5 : Tryz.prog.wantsStandIn 5 = false := by kernel_rfl
theorem card5 : (!(Rows.wholeMessageRow.goesBy Tryz.checked.prog)) = true := of_forced (by kernel_rfl)
theorem card6 : false = Rows.wholeMessageRow.goesBy Tryz.checked.prog := by
 have h := card5
 revert h
 cases Rows.wholeMessageRow.goesBy Tryz.checked.prog with
 | false => exact fun _ => rfl
 | true => exact fun h => by cases h
end Go.Proofs.YtiipdjhkcjbmkaaGreatDoor.rb.wholeMessage
namespace Go.Proofs.YtiipdjhkcjbmkaaGreatDoor
open Go
theorem wholeMessage_holds : Rows.WholeMessageCardSaid :=
 Claim7.holds_tied_plain_at .later [] [.sentinel, .sentinel, .data, .data, .data, .data, .listed] true (true, "b40a897aee3edf1f88d6504a77d95344b871a98e560e2ff18a2b33dc5950f5f6") true
  rb.wholeMessage.row (fun _ h => by cases h) rb.wholeMessage.card0 (fun _ h => by cases h) rb.row_tie rfl ⟨rfl, rfl⟩ (by kernel_rfl) rfl
  (fun f fn hf hfn => by
    obtain rfl : f = 3 := Option.some.inj (rb.wholeMessage.card2.symm.trans hf) |>.symm
    obtain rfl : fn = Tryz.f3 := (Option.some.inj (Tryz.func3.symm.trans hfn)).symm
    exact ⟨rb.wholeMessage.card3.symm, fun j t ht => by
      rw [Tryz.params3] at ht
      rcases j with _ | _ | _ | j
      · obtain rfl : t = 5 := by simpa using ht.symm
        exact rb.wholeMessage.card4_5
      · obtain rfl : t = 5 := by simpa using ht.symm
        exact rb.wholeMessage.card4_5
      · obtain rfl : t = 4 := by simpa using ht.symm
        exact rb.wholeMessage.card4_4
      · simp at ht⟩)
  rb.wholeMessage.card6
#print axioms wholeMessage_holds
end Go.Proofs.YtiipdjhkcjbmkaaGreatDoor
