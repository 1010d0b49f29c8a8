/- A thread that is run with more fuel does the same, and what it printed behind fewer answers it has printed behind more (SrcFuel), for every program, every list of answers and every fuel, as the statement says. -/
import Derived.Test.YtggbkidckoecfaaGreatDoorRb8
set_option linter.unusedVariables false
set_option linter.unusedSimpArgs false
set_option maxRecDepth 100000
namespace Go.Proofs.YtggbkidckoecfaaGreatDoor.rb.srcFuel
open Rb Go
theorem card0 : Rows.srcFuelRow.wfByText (OpenSpec.ofChange Rows.srcFuelSpec) = true := of_forced (by kernel_rfl)
theorem card2 : Tryz.prog.funcNamed Rows.srcFuelRow.func = some 5 := by kernel_rfl
theorem card3 : Tryz.checked.prog.looks [] = true := of_forced (by kernel_rfl)
theorem card4_25 : Tryz.prog.wantsStandIn 25 = false := by kernel_rfl
theorem card4_26 : Tryz.prog.wantsStandIn 26 = false := by kernel_rfl
theorem card4_3 : Tryz.prog.wantsStandIn 3 = false := by kernel_rfl
theorem card4_67 : Tryz.prog.wantsStandIn 67 = false := by kernel_rfl
theorem card5 : (!(Rows.srcFuelRow.goesBy Tryz.checked.prog)) = true := of_forced (by kernel_rfl)
theorem card6 : false = Rows.srcFuelRow.goesBy Tryz.checked.prog := by
 have h := card5
 revert h
 cases Rows.srcFuelRow.goesBy Tryz.checked.prog with
 | false => exact fun _ => rfl
 | true => exact fun h => by cases h
end Go.Proofs.YtggbkidckoecfaaGreatDoor.rb.srcFuel
namespace Go.Proofs.YtggbkidckoecfaaGreatDoor
open Go
theorem srcFuel_holds : Rows.SrcFuelCardSaid :=
 Claim7.holds_tied_plain_at .later [] [.data, .data, .data, .sentinel, .sentinel, .listed, .data] true (true, "e38097a9da30c60eafe999ec17238c6293eb0f0151fb0a2ff17aa6defd77ed20") true
  rb.srcFuel.row (fun _ h => by cases h) rb.srcFuel.card0 (fun _ h => by cases h) srcFuel_row_tie rfl ⟨rfl, rfl⟩ (by kernel_rfl) rfl
  (fun f fn hf hfn => by
    obtain rfl : f = 5 := Option.some.inj (rb.srcFuel.card2.symm.trans hf) |>.symm
    obtain rfl : fn = Tryz.f5 := (Option.some.inj (Tryz.func5.symm.trans hfn)).symm
    exact ⟨rb.srcFuel.card3.symm, fun j t ht => by
      rw [Tryz.params5] at ht
      rcases j with _ | _ | _ | _ | _ | j
      · obtain rfl : t = 25 := by simpa using ht.symm
        exact rb.srcFuel.card4_25
      · obtain rfl : t = 3 := by simpa using ht.symm
        exact rb.srcFuel.card4_3
      · obtain rfl : t = 26 := by simpa using ht.symm
        exact rb.srcFuel.card4_26
      · obtain rfl : t = 67 := by simpa using ht.symm
        exact rb.srcFuel.card4_67
      · obtain rfl : t = 67 := by simpa using ht.symm
        exact rb.srcFuel.card4_67
      · simp at ht⟩)
  rb.srcFuel.card6
#print axioms srcFuel_holds
end Go.Proofs.YtggbkidckoecfaaGreatDoor
