/- A message by fences (WholeFences): for every flag's orders and both fences the machine's model lets the stale read be just where the fences or the orders do not forbid it. -/
import Derived.Test.YtpnkopablpdkoaaGreatDoorRb11
set_option linter.unusedVariables false
set_option linter.unusedSimpArgs false
set_option maxRecDepth 100000
namespace Go.Proofs.YtpnkopablpdkoaaGreatDoor.rb.wholeFences
open Rb Go
theorem card0 : Rows.wholeFencesRow.wfByText (OpenSpec.ofChange Rows.wholeFencesSpec) = true := of_forced (by kernel_rfl)
theorem card2 : Tryz.prog.funcNamed Rows.wholeFencesRow.func = some 3 := by kernel_rfl
theorem card3 : Tryz.checked.prog.looks [] = true := of_forced (by kernel_rfl)
theorem card4_4 : Tryz.prog.wantsStandIn 4 = false := by kernel_rfl
theorem card4_5 : Tryz.prog.wantsStandIn 5 = false := by kernel_rfl
theorem card5 : (!(Rows.wholeFencesRow.goesBy Tryz.checked.prog)) = true := of_forced (by kernel_rfl)
theorem card6 : false = Rows.wholeFencesRow.goesBy Tryz.checked.prog := by
  have h := card5
  revert h
  cases Rows.wholeFencesRow.goesBy Tryz.checked.prog with
  | false => exact fun _ => rfl
  | true => exact fun h => by cases h
end Go.Proofs.YtpnkopablpdkoaaGreatDoor.rb.wholeFences
namespace Go.Proofs.YtpnkopablpdkoaaGreatDoor
open Go

theorem wholeFences_holds : Rows.WholeFencesCardSaid :=
  Claim7.holds_tied_plain_at .later [] [.data, .data, .data, .sentinel, .sentinel, .listed, .data] true (true, "2387e4184f800911ca58fad862eb3461b8db6633da058b15320edb667ba9b193") true
    rb.wholeFences.row (fun _ h => by cases h) rb.wholeFences.card0 (fun _ h => by cases h) wholeFences_row_tie rfl ⟨rfl, rfl⟩ (by kernel_rfl) rfl
    (fun f fn hf hfn => by
      obtain rfl : f = 3 := Option.some.inj (rb.wholeFences.card2.symm.trans hf) |>.symm
      obtain rfl : fn = Tryz.f3 := (Option.some.inj (Tryz.func3.symm.trans hfn)).symm
      exact ⟨rb.wholeFences.card3.symm, fun j t ht => by
        rw [Tryz.params3] at ht
        rcases j with _ | _ | _ | j
        · obtain rfl : t = 5 := by simpa using ht.symm
          exact rb.wholeFences.card4_5
        · obtain rfl : t = 4 := by simpa using ht.symm
          exact rb.wholeFences.card4_4
        · obtain rfl : t = 4 := by simpa using ht.symm
          exact rb.wholeFences.card4_4
        · simp at ht⟩)
    rb.wholeFences.card6
#print axioms wholeFences_holds
end Go.Proofs.YtpnkopablpdkoaaGreatDoor
