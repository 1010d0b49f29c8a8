/- A part of the proof (part 11): see the last text. -/
import Derived.Test.YtiipdjhkcjbmkaaGreatDoorRb7
import Derived.Test.YtiipdjhkcjbmkaaGreatDoorRb8
import Derived.Test.YtiipdjhkcjbmkaaGreatDoorRb9
import Derived.Test.YtiipdjhkcjbmkaaGreatDoorRb10
set_option linter.unusedVariables false
set_option linter.unusedSimpArgs false
set_option maxRecDepth 100000
namespace Go.Proofs.YtiipdjhkcjbmkaaGreatDoor.rb
open Rb
theorem of_runB {B : CallsB} (hB : SoundB (ACall C) B) {fuel : Nat} {args : List AV} (h : fnB B fuel S.ir_f3 args TH.mt (fun v _ => isT v) = true) : fnE1 (ACall C) S.ir_f3 args AH.mt (fun v _ => v = .bool true) :=
 (fnB_sound (Q := fun v _ => v = .bool true) hB h (fun v T hv => isT_eq hv)).2
theorem of_run {a b : Nat} {s : Bool} (h : fnE1 (ACall C) S.ir_f3 [.int .u8 (.ofNat a), .int .u8 (.ofNat b), .bool s] AH.mt (fun v _ => v = .bool true)) :
  S.f3 (ACall C) (.int .u8 (.ofNat a)) (.int .u8 (.ofNat b)) (.bool s) AH.mt (fun v _ => v = .bool true) := by
 rw [← S.eq_f3]
 exact h
theorem rem2 (x : Int) (hx : 0 ≤ x) : abin .rem (.int .u8 x) (.int .u8 2) = abin .rem (.int .u8 (x % 2)) (.int .u8 2) := by
 rw [abin_rem _ _ _ (by decide), abin_rem _ _ _ (by decide), Int.tmod_eq_emod_of_nonneg hx, Int.tmod_eq_emod_of_nonneg (by omega)]
 congr 2
 omega
theorem wholeMessage.any (n : Int) (h1 : 0 ≤ n) (h2 : n ≤ 255) (m : Int) (h3 : 0 ≤ m) (h4 : m ≤ 255) (s : Bool) : ACall C 3 [.int .u8 n, .int .u8 m, .bool s] AH.mt (fun v _ => v = .bool true) := by
 refine S.cl_f3 cl_Ms ?_
 rw [c (rem2 n h1) (rem2 m h3)]
 have bit : ∀ x : Int, x % 2 = Int.ofNat 0 ∨ x % 2 = Int.ofNat 1 := fun x => (by omega : x % 2 = 0 ∨ x % 2 = 1)
 rcases bit n with hn | hn <;> rcases bit m with hm | hm <;> rw [hn, hm] <;> cases s
 · exact of_run (of_runB (runG_ok RbM2528_ok) (of_forced run00false))
 · exact of_run (of_runB (runG_ok RbM2528_ok) (of_forced run00true))
 · exact of_run (of_runB (runG_ok RbM2528_ok) (of_forced run01false))
 · exact of_run (of_runB (runG_ok RbM2528_ok) (of_forced run01true))
 · exact of_run (of_runB (runG_ok RbM2528_ok) (of_forced run10false))
 · exact of_run (of_runB (runG_ok RbM2528_ok) (of_forced run10true))
 · exact of_run (of_runB (runG_ok RbM2528_ok) (of_forced run11false))
 · exact of_run (of_runB (runG_ok RbM2528_ok) (of_forced run11true))
end Go.Proofs.YtiipdjhkcjbmkaaGreatDoor.rb
