/- Law P20 TurnSame: two outcomes are one just when their bytes, their ends and what was printed are the same; proved by a walk through turn.Same and a run of the fixed fact awake. -/
import Derived.Test.YtklmnikdhpkifaaGreatDoorRb5
set_option linter.unusedVariables false
set_option linter.unusedSimpArgs false
set_option maxRecDepth 100000
namespace Go.Proofs.YtklmnikdhpkifaaGreatDoor.rb.turnSame
open Rb Go
theorem card0 : Rows.turnSameRow.wfByText (OpenSpec.ofChange Rows.turnSameSpec) = true := of_forced (by kernel_rfl)
theorem card2 : Tryz.prog.funcNamed Rows.turnSameRow.func = some 3 := by kernel_rfl
theorem card3 : Tryz.checked.prog.looks [] = true := of_forced (by kernel_rfl)
theorem card4 : Tryz.prog.wantsStandIn 26 = false := by kernel_rfl
theorem card5 : (!(Rows.turnSameRow.goesBy Tryz.checked.prog)) = true := of_forced (by kernel_rfl)
theorem card6 : false = Rows.turnSameRow.goesBy Tryz.checked.prog := by
  have h := card5
  revert h
  cases Rows.turnSameRow.goesBy Tryz.checked.prog with
  | false => exact fun _ => rfl
  | true => exact fun h => by cases h
end Go.Proofs.YtklmnikdhpkifaaGreatDoor.rb.turnSame
namespace Go.Proofs.YtklmnikdhpkifaaGreatDoor
open Go

theorem turnSame_holds : Rows.TurnSameCardSaid :=
  Claim7.holds_tied_plain_at .later [] [.data, .data, .data, .sentinel, .sentinel, .listed, .data] true (true, "a0a41293dc19d1cbeb7d6f0d4fbc8d124668ffe92437bd4d78050585ecbdbe18") true
    rb.turnSame.row (fun _ h => by cases h) rb.turnSame.card0 (fun _ h => by cases h) turnSame_row_tie rfl ⟨rfl, rfl⟩ (by kernel_rfl) rfl
    (fun f fn hf hfn => by
      obtain rfl : f = 3 := Option.some.inj (rb.turnSame.card2.symm.trans hf) |>.symm
      obtain rfl : fn = Tryz.f3 := (Option.some.inj (Tryz.func3.symm.trans hfn)).symm
      exact ⟨rb.turnSame.card3.symm, fun j t ht => by
        rw [Tryz.params3] at ht
        rcases j with _ | _ | j
        · obtain rfl : t = 26 := by simpa using ht.symm
          exact rb.turnSame.card4
        · obtain rfl : t = 26 := by simpa using ht.symm
          exact rb.turnSame.card4
        · simp at ht⟩)
    rb.turnSame.card6
end Go.Proofs.YtklmnikdhpkifaaGreatDoor
