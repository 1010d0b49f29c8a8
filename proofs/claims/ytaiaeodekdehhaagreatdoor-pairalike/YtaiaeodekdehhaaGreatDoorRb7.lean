/- The law of PairAlike answers yes for every execution, and never panics: of a sound execution pair.Alike says whether any two events that meet have the same bytes. -/
import Derived.Test.YtaiaeodekdehhaaGreatDoorRb6
set_option linter.unusedVariables false
set_option linter.unusedSimpArgs false
set_option maxRecDepth 100000
namespace Go.Proofs.YtaiaeodekdehhaaGreatDoor.rb.pairAlike
open Rb Go
theorem card0 : Rows.pairAlikeRow.wfByText (OpenSpec.ofChange Rows.pairAlikeSpec) = true := of_forced (by kernel_rfl)
theorem card2 : Tryz.prog.funcNamed Rows.pairAlikeRow.func = some 3 := by kernel_rfl
theorem card3 : Tryz.checked.prog.looks [] = true := of_forced (by kernel_rfl)
theorem card4_25 : Tryz.prog.wantsStandIn 25 = false := by kernel_rfl
theorem card5 : (!(Rows.pairAlikeRow.goesBy Tryz.checked.prog)) = true := of_forced (by kernel_rfl)
theorem card6 : false = Rows.pairAlikeRow.goesBy Tryz.checked.prog := by
  have h := card5
  revert h
  cases Rows.pairAlikeRow.goesBy Tryz.checked.prog with
  | false => exact fun _ => rfl
  | true => exact fun h => by cases h
end Go.Proofs.YtaiaeodekdehhaaGreatDoor.rb.pairAlike
namespace Go.Proofs.YtaiaeodekdehhaaGreatDoor
open Go

theorem pairAlike_holds : Rows.PairAlikeCardSaid :=
  Claim7.holds_tied_plain_at .later [] [.data, .data, .data, .sentinel, .sentinel, .listed, .data] true (true, "b6420155f10e341a24fe0eabc5407c226403e61df53f000dbc7d0b242a21feec") true
    rb.pairAlike.row (fun _ h => by cases h) rb.pairAlike.card0 (fun _ h => by cases h) pairAlike_row_tie rfl ⟨rfl, rfl⟩ (by kernel_rfl) rfl
    (fun f fn hf hfn => by
      obtain rfl : f = 3 := Option.some.inj (rb.pairAlike.card2.symm.trans hf) |>.symm
      obtain rfl : fn = Tryz.f3 := (Option.some.inj (Tryz.func3.symm.trans hfn)).symm
      exact ⟨rb.pairAlike.card3.symm, fun j t ht => by
        rw [Tryz.params3] at ht
        rcases j with _ | j
        · obtain rfl : t = 25 := by simpa using ht.symm
          exact rb.pairAlike.card4_25
        · simp at ht⟩)
    rb.pairAlike.card6
#print axioms pairAlike_holds
end Go.Proofs.YtaiaeodekdehhaaGreatDoor
