/- A script in two parts does what it does as a whole, and a thread that has ended does nothing more (MachSplits), for every image that is not too large and every script, as the statement says. -/
import Derived.Test.YtjnhnoldfbkgmaaGreatDoorRb7
set_option linter.unusedVariables false
set_option linter.unusedSimpArgs false
set_option maxRecDepth 100000
namespace Go.Proofs.YtjnhnoldfbkgmaaGreatDoor.rb.machSplits
open Rb Go
theorem card0 : Rows.machSplitsRow.wfByText (OpenSpec.ofChange Rows.machSplitsSpec) = true := of_forced (by kernel_rfl)
theorem card2 : Tryz.prog.funcNamed Rows.machSplitsRow.func = some 3 := by kernel_rfl
theorem card3 : Tryz.checked.prog.looks [] = true := of_forced (by kernel_rfl)
theorem card4_26 : Tryz.prog.wantsStandIn 26 = false := by kernel_rfl
theorem card4_27 : Tryz.prog.wantsStandIn 27 = false := by kernel_rfl
theorem card4_5 : Tryz.prog.wantsStandIn 5 = false := by kernel_rfl
theorem card5 : (!(Rows.machSplitsRow.goesBy Tryz.checked.prog)) = true := of_forced (by kernel_rfl)
theorem card6 : false = Rows.machSplitsRow.goesBy Tryz.checked.prog := by
 have h := card5
 revert h
 cases Rows.machSplitsRow.goesBy Tryz.checked.prog with
 | false => exact fun _ => rfl
 | true => exact fun h => by cases h
end Go.Proofs.YtjnhnoldfbkgmaaGreatDoor.rb.machSplits
namespace Go.Proofs.YtjnhnoldfbkgmaaGreatDoor
open Go
theorem machSplits_holds : Rows.MachSplitsCardSaid :=
 Claim7.holds_tied_plain_at .later [] [.data, .data, .data, .sentinel, .sentinel, .listed, .data] true (true, "33c5ca06a657419dc8a18a51e64cb6f2c77d9253c2c29c2601d04b938e035516") true
  rb.machSplits.row (fun _ h => by cases h) rb.machSplits.card0 (fun _ h => by cases h) machSplits_row_tie rfl ⟨rfl, rfl⟩ (by kernel_rfl) rfl
  (fun f fn hf hfn => by
    obtain rfl : f = 3 := Option.some.inj (rb.machSplits.card2.symm.trans hf) |>.symm
    obtain rfl : fn = Tryz.f3 := (Option.some.inj (Tryz.func3.symm.trans hfn)).symm
    exact ⟨rb.machSplits.card3.symm, fun j t ht => by
      rw [Tryz.params3] at ht
      rcases j with _ | _ | _ | j
      · obtain rfl : t = 26 := by simpa using ht.symm
        exact rb.machSplits.card4_26
      · obtain rfl : t = 27 := by simpa using ht.symm
        exact rb.machSplits.card4_27
      · obtain rfl : t = 5 := by simpa using ht.symm
        exact rb.machSplits.card4_5
      · simp at ht⟩)
  rb.machSplits.card6
#print axioms machSplits_holds
end Go.Proofs.YtjnhnoldfbkgmaaGreatDoor
