/- A part of the proof (part 10): see the last text. -/
import Derived.Test.YtpnkopablpdkoaaGreatDoorRb10e
set_option linter.unusedVariables false
namespace Go.Proofs.YtpnkopablpdkoaaGreatDoor.rb
open Rb
noncomputable section
def RbMfL20 : List (Nat × List AV × AV) := [
  (3, [.int .u8 (.ofNat 240),.bool false,.bool false], .bool true),
  (3, [.int .u8 (.ofNat 240),.bool false,.bool true], .bool true),
  (3, [.int .u8 (.ofNat 240),.bool true,.bool false], .bool true),
  (3, [.int .u8 (.ofNat 240),.bool true,.bool true], .bool true),
  (3, [.int .u8 (.ofNat 241),.bool false,.bool false], .bool true),
  (3, [.int .u8 (.ofNat 241),.bool false,.bool true], .bool true),
  (3, [.int .u8 (.ofNat 241),.bool true,.bool false], .bool true),
  (3, [.int .u8 (.ofNat 241),.bool true,.bool true], .bool true),
  (3, [.int .u8 (.ofNat 242),.bool false,.bool false], .bool true),
  (3, [.int .u8 (.ofNat 242),.bool false,.bool true], .bool true),
  (3, [.int .u8 (.ofNat 242),.bool true,.bool false], .bool true),
  (3, [.int .u8 (.ofNat 242),.bool true,.bool true], .bool true),
  (3, [.int .u8 (.ofNat 243),.bool false,.bool false], .bool true),
  (3, [.int .u8 (.ofNat 243),.bool false,.bool true], .bool true),
  (3, [.int .u8 (.ofNat 243),.bool true,.bool false], .bool true),
  (3, [.int .u8 (.ofNat 243),.bool true,.bool true], .bool true),
  (3, [.int .u8 (.ofNat 244),.bool false,.bool false], .bool true),
  (3, [.int .u8 (.ofNat 244),.bool false,.bool true], .bool true),
  (3, [.int .u8 (.ofNat 244),.bool true,.bool false], .bool true),
  (3, [.int .u8 (.ofNat 244),.bool true,.bool true], .bool true),
  (3, [.int .u8 (.ofNat 245),.bool false,.bool false], .bool true),
  (3, [.int .u8 (.ofNat 245),.bool false,.bool true], .bool true),
  (3, [.int .u8 (.ofNat 245),.bool true,.bool false], .bool true),
  (3, [.int .u8 (.ofNat 245),.bool true,.bool true], .bool true),
  (3, [.int .u8 (.ofNat 246),.bool false,.bool false], .bool true),
  (3, [.int .u8 (.ofNat 246),.bool false,.bool true], .bool true),
  (3, [.int .u8 (.ofNat 246),.bool true,.bool false], .bool true),
  (3, [.int .u8 (.ofNat 246),.bool true,.bool true], .bool true),
  (3, [.int .u8 (.ofNat 247),.bool false,.bool false], .bool true),
  (3, [.int .u8 (.ofNat 247),.bool false,.bool true], .bool true),
  (3, [.int .u8 (.ofNat 247),.bool true,.bool false], .bool true),
  (3, [.int .u8 (.ofNat 247),.bool true,.bool true], .bool true),
  (3, [.int .u8 (.ofNat 248),.bool false,.bool false], .bool true),
  (3, [.int .u8 (.ofNat 248),.bool false,.bool true], .bool true),
  (3, [.int .u8 (.ofNat 248),.bool true,.bool false], .bool true),
  (3, [.int .u8 (.ofNat 248),.bool true,.bool true], .bool true),
  (3, [.int .u8 (.ofNat 249),.bool false,.bool false], .bool true),
  (3, [.int .u8 (.ofNat 249),.bool false,.bool true], .bool true),
  (3, [.int .u8 (.ofNat 249),.bool true,.bool false], .bool true),
  (3, [.int .u8 (.ofNat 249),.bool true,.bool true], .bool true),
  (3, [.int .u8 (.ofNat 250),.bool false,.bool false], .bool true),
  (3, [.int .u8 (.ofNat 250),.bool false,.bool true], .bool true),
  (3, [.int .u8 (.ofNat 250),.bool true,.bool false], .bool true),
  (3, [.int .u8 (.ofNat 250),.bool true,.bool true], .bool true),
  (3, [.int .u8 (.ofNat 251),.bool false,.bool false], .bool true),
  (3, [.int .u8 (.ofNat 251),.bool false,.bool true], .bool true),
  (3, [.int .u8 (.ofNat 251),.bool true,.bool false], .bool true),
  (3, [.int .u8 (.ofNat 251),.bool true,.bool true], .bool true)]
def RbMfA20 : List (Nat × List AV × AV) := RbMfL20 ++ RbMfA19
theorem RbMfL20_run : forced (allW (runG RbMfT70) RbMfL20) = true := by kernel_rfl
theorem RbMfL20_ok : MemoOK (ACall C) (memL RbMfA20) := memL_appW gtC (runG_ok RbMf70_ok) RbMfL19_ok (of_forced RbMfL20_run)
def RbMfL21 : List (Nat × List AV × AV) := [
  (3, [.int .u8 (.ofNat 252),.bool false,.bool false], .bool true),
  (3, [.int .u8 (.ofNat 252),.bool false,.bool true], .bool true),
  (3, [.int .u8 (.ofNat 252),.bool true,.bool false], .bool true),
  (3, [.int .u8 (.ofNat 252),.bool true,.bool true], .bool true),
  (3, [.int .u8 (.ofNat 253),.bool false,.bool false], .bool true),
  (3, [.int .u8 (.ofNat 253),.bool false,.bool true], .bool true),
  (3, [.int .u8 (.ofNat 253),.bool true,.bool false], .bool true),
  (3, [.int .u8 (.ofNat 253),.bool true,.bool true], .bool true),
  (3, [.int .u8 (.ofNat 254),.bool false,.bool false], .bool true),
  (3, [.int .u8 (.ofNat 254),.bool false,.bool true], .bool true),
  (3, [.int .u8 (.ofNat 254),.bool true,.bool false], .bool true),
  (3, [.int .u8 (.ofNat 254),.bool true,.bool true], .bool true),
  (3, [.int .u8 (.ofNat 255),.bool false,.bool false], .bool true),
  (3, [.int .u8 (.ofNat 255),.bool false,.bool true], .bool true),
  (3, [.int .u8 (.ofNat 255),.bool true,.bool false], .bool true),
  (3, [.int .u8 (.ofNat 255),.bool true,.bool true], .bool true)]
def RbMfA21 : List (Nat × List AV × AV) := RbMfL21 ++ RbMfA20
theorem RbMfL21_run : forced (allW (runG RbMfT70) RbMfL21) = true := by kernel_rfl
theorem RbMfL21_ok : MemoOK (ACall C) (memL RbMfA21) := memL_appW gtC (runG_ok RbMf70_ok) RbMfL20_ok (of_forced RbMfL21_run)
end
end Go.Proofs.YtpnkopablpdkoaaGreatDoor.rb
