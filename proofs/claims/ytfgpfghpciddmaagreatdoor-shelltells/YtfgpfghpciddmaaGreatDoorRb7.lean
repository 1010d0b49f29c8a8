/- An outcome is told as the document's text tells it: the law where the outcome holds at most 1048576 values (Upto). -/
import Derived.Test.YtfgpfghpciddmaaGreatDoorRb6
set_option linter.unusedVariables false
set_option linter.unusedSimpArgs false
set_option maxRecDepth 100000
namespace Go.Proofs.YtfgpfghpciddmaaGreatDoor.rb.shellTells
open Rb Go
theorem card0 : Rows.shellTellsUptoRow.wfByText (Rows.OpenSpec.upto Rows.shellTellsSpec) = true := of_forced (by kernel_rfl)
theorem card2 : Tryz.prog.funcNamed Rows.shellTellsUptoRow.func = some 3 := by kernel_rfl
theorem card3 : Tryz.checked.prog.looks [] = true := of_forced (by kernel_rfl)
theorem card4_26 : Tryz.prog.wantsStandIn 26 = false := by kernel_rfl
theorem card5 : (!(Rows.shellTellsUptoRow.goesBy Tryz.checked.prog)) = true := of_forced (by kernel_rfl)
theorem card6 : false = Rows.shellTellsUptoRow.goesBy Tryz.checked.prog := by
 have h := card5
 revert h
 cases Rows.shellTellsUptoRow.goesBy Tryz.checked.prog with
 | false => exact fun _ => rfl
 | true => exact fun h => by cases h
end Go.Proofs.YtfgpfghpciddmaaGreatDoor.rb.shellTells
namespace Go.Proofs.YtfgpfghpciddmaaGreatDoor
open Go
theorem shellTellsUpto_holds : Rows.ShellTellsUptoCardSaid :=
 Claim7.holds_tied_plain_at .later [] [.data, .data, .data, .data, .sentinel, .sentinel, .listed, .data, .pinned] true (true, "261145395fd97d228aaf351e877be00b91956473b3f51c9244c1adea0512bc81") true
  rb.shellTells.row (fun _ h => by cases h) rb.shellTells.card0 (fun _ h => by cases h) shellTellsUpto_row_tie rfl ⟨rfl, rfl⟩ (by kernel_rfl) rfl
  (fun f fn hf hfn => by
    obtain rfl : f = 3 := Option.some.inj (rb.shellTells.card2.symm.trans hf) |>.symm
    obtain rfl : fn = Tryz.f3 := (Option.some.inj (Tryz.func3.symm.trans hfn)).symm
    exact ⟨rb.shellTells.card3.symm, fun j t ht => by
      rw [Tryz.params3] at ht
      rcases j with _ | j
      · obtain rfl : t = 26 := by simpa using ht.symm
        exact rb.shellTells.card4_26
      · simp at ht⟩)
  rb.shellTells.card6
#print axioms shellTellsUpto_holds
end Go.Proofs.YtfgpfghpciddmaaGreatDoor
