/- A part of the proof (part 9): see the last text. -/
import Derived.Test.YtiipdjhkcjbmkaaGreatDoorRb6
set_option linter.unusedVariables false
namespace Go.Proofs.YtiipdjhkcjbmkaaGreatDoor.rb
open Rb
theorem run10false : forced (fnB (runG RbM25T28) 4096 S.ir_f3 [.int .u8 (.ofNat 1), .int .u8 (.ofNat 0), .bool false] TH.mt (fun v _ => isT v)) = true := by kernel_rfl
theorem run10true : forced (fnB (runG RbM25T28) 4096 S.ir_f3 [.int .u8 (.ofNat 1), .int .u8 (.ofNat 0), .bool true] TH.mt (fun v _ => isT v)) = true := by kernel_rfl
end Go.Proofs.YtiipdjhkcjbmkaaGreatDoor.rb
