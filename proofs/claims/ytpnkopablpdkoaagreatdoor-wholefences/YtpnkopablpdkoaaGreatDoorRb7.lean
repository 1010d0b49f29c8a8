/- A part of the proof (part 7): see the last text. -/
import Derived.Test.YtpnkopablpdkoaaGreatDoorRb6
/- Known calls, found by runs; the law at all its arguments. By runsw.py. -/
set_option linter.unusedVariables false
namespace Go.Proofs.YtpnkopablpdkoaaGreatDoor.rb
open Rb
noncomputable section
def RbMf26 : List (Nat × List AV × AV) := [
  (6, [RbMfv137], .tup [.bool false,.int .i64 (.ofNat 0)])]
theorem RbMf26_run : forced (allW (runG RbMfT25) RbMf26) = true := by kernel_rfl
def RbMfT26 : List (Nat × List AV × AV) := RbMf26 ++ RbMfT25
theorem RbMf26_ok : MemoOK (ACall C) (memL RbMfT26) := memL_appW gtC (runG_ok RbMf25_ok) RbMf25_ok (of_forced RbMf26_run)
def RbMfv187 : AV := .tup [.agg [.bool true,.int .i64 (.ofNat 65540),.int .i64 (.ofNat 4),.bool false,.bool false,.bool true,.int .u64 (.ofNat 1),.int .u64 (.ofNat 0)],.bool true]
def RbMf27 : List (Nat × List AV × AV) := [
  (70, [RbMfv167,RbMfv139], RbMfv187),
  (75, [RbMfv167,RbMfv139,.agg [.int .u64 (.ofNat 0),.int .u64 (.ofNat 0)],.bool true], .tup [RbMfv183,.int .i64 (.ofNat 0)]),
  (6, [RbMfv140], .tup [.bool true,.int .i64 (.ofNat 0)])]
theorem RbMf27_run : forced (allW (runG RbMfT26) RbMf27) = true := by kernel_rfl
def RbMfT27 : List (Nat × List AV × AV) := RbMf27 ++ RbMfT26
theorem RbMf27_ok : MemoOK (ACall C) (memL RbMfT27) := memL_appW gtC (runG_ok RbMf26_ok) RbMf26_ok (of_forced RbMf27_run)
def RbMf28 : List (Nat × List AV × AV) := [
  (6, [RbMfv141], .tup [.bool false,.int .i64 (.ofNat 0)]),
  (70, [RbMfv183,RbMfv139], RbMfv187),
  (75, [RbMfv183,RbMfv139,.agg [.int .u64 (.ofNat 0),.int .u64 (.ofNat 0)],.bool true], RbMfv186)]
theorem RbMf28_run : forced (allW (runG RbMfT27) RbMf28) = true := by kernel_rfl
def RbMfT28 : List (Nat × List AV × AV) := RbMf28 ++ RbMfT27
theorem RbMf28_ok : MemoOK (ACall C) (memL RbMfT28) := memL_appW gtC (runG_ok RbMf27_ok) RbMf27_ok (of_forced RbMf28_run)
def RbMf29 : List (Nat × List AV × AV) := [
  (6, [RbMfv143], .tup [.bool true,.int .i64 (.ofNat 0)])]
theorem RbMf29_run : forced (allW (runG RbMfT28) RbMf29) = true := by kernel_rfl
def RbMfT29 : List (Nat × List AV × AV) := RbMf29 ++ RbMfT28
theorem RbMf29_ok : MemoOK (ACall C) (memL RbMfT29) := memL_appW gtC (runG_ok RbMf28_ok) RbMf28_ok (of_forced RbMf29_run)
def RbMf30 : List (Nat × List AV × AV) := [
  (6, [RbMfv144], .tup [.bool false,.int .i64 (.ofNat 0)])]
theorem RbMf30_run : forced (allW (runG RbMfT29) RbMf30) = true := by kernel_rfl
def RbMfT30 : List (Nat × List AV × AV) := RbMf30 ++ RbMfT29
theorem RbMf30_ok : MemoOK (ACall C) (memL RbMfT30) := memL_appW gtC (runG_ok RbMf29_ok) RbMf29_ok (of_forced RbMf30_run)
def RbMf31 : List (Nat × List AV × AV) := [
  (70, [RbMfv171,RbMfv148], .tup [.agg [.bool false,.int .i64 (.ofNat 65540),.int .i64 (.ofNat 4),.bool false,.bool true,.bool false,.int .u64 (.ofNat 0),.int .u64 (.ofNat 0)],.bool true]),
  (75, [RbMfv171,RbMfv148,.agg [.int .u64 (.ofNat 0),.int .u64 (.ofNat 0)],.bool true], .tup [RbMfv172,.int .i64 (.ofNat 0)]),
  (6, [RbMfv149], .tup [.bool true,.int .i64 (.ofNat 0)])]
theorem RbMf31_run : forced (allW (runG RbMfT30) RbMf31) = true := by kernel_rfl
def RbMfT31 : List (Nat × List AV × AV) := RbMf31 ++ RbMfT30
theorem RbMf31_ok : MemoOK (ACall C) (memL RbMfT31) := memL_appW gtC (runG_ok RbMf30_ok) RbMf30_ok (of_forced RbMf31_run)
def RbMf32 : List (Nat × List AV × AV) := [
  (6, [RbMfv151], .tup [.bool true,.int .i64 (.ofNat 0)])]
theorem RbMf32_run : forced (allW (runG RbMfT31) RbMf32) = true := by kernel_rfl
def RbMfT32 : List (Nat × List AV × AV) := RbMf32 ++ RbMfT31
theorem RbMf32_ok : MemoOK (ACall C) (memL RbMfT32) := memL_appW gtC (runG_ok RbMf31_ok) RbMf31_ok (of_forced RbMf32_run)
def RbMf33 : List (Nat × List AV × AV) := [
  (6, [RbMfv152], .tup [.bool false,.int .i64 (.ofNat 0)])]
theorem RbMf33_run : forced (allW (runG RbMfT32) RbMf33) = true := by kernel_rfl
def RbMfT33 : List (Nat × List AV × AV) := RbMf33 ++ RbMfT32
theorem RbMf33_ok : MemoOK (ACall C) (memL RbMfT33) := memL_appW gtC (runG_ok RbMf32_ok) RbMf32_ok (of_forced RbMf33_run)
def RbMf34 : List (Nat × List AV × AV) := [
  (6, [RbMfv153], .tup [.bool false,.int .i64 (.ofNat 0)])]
theorem RbMf34_run : forced (allW (runG RbMfT33) RbMf34) = true := by kernel_rfl
def RbMfT34 : List (Nat × List AV × AV) := RbMf34 ++ RbMfT33
theorem RbMf34_ok : MemoOK (ACall C) (memL RbMfT34) := memL_appW gtC (runG_ok RbMf33_ok) RbMf33_ok (of_forced RbMf34_run)
def RbMf35 : List (Nat × List AV × AV) := [
  (17, [RbMfv154], .bool true),
  (17, [RbMfv42], .bool true),
  (17, [RbMfv48], .bool true),
  (17, [RbMfv51], .bool true)]
theorem RbMf35_run : forced (allW (runG RbMfT34) RbMf35) = true := by kernel_rfl
def RbMfT35 : List (Nat × List AV × AV) := RbMf35 ++ RbMfT34
theorem RbMf35_ok : MemoOK (ACall C) (memL RbMfT35) := memL_appW gtC (runG_ok RbMf34_ok) RbMf34_ok (of_forced RbMf35_run)
def RbMf36 : List (Nat × List AV × AV) := [
  (25, [.agg [RbMfv53,.lst .dead 2 [RbMfv103,RbMfv104]]], .agg [.int .i64 (.ofNat 0),.int .i64 (.ofNat 0)]),
  (25, [RbMfv122], .agg [.int .i64 (.ofNat 0),.int .i64 (.ofNat 0)]),
  (25, [.agg [RbMfv53,.lst .dead 2 [RbMfv103,RbMfv125]]], .agg [.int .i64 (.ofNat 0),.int .i64 (.ofNat 0)]),
  (25, [.agg [RbMfv53,.lst .dead 2 [RbMfv135,RbMfv104]]], .agg [.int .i64 (.ofNat 0),.int .i64 (.ofNat 0)]),
  (25, [.agg [RbMfv53,.lst .dead 2 [RbMfv135,RbMfv125]]], .agg [.int .i64 (.ofNat 0),.int .i64 (.ofNat 0)]),
  (25, [.agg [RbMfv53,.lst .dead 2 [RbMfv138,RbMfv104]]], .agg [.int .i64 (.ofNat 0),.int .i64 (.ofNat 0)]),
  (25, [.agg [RbMfv53,.lst .dead 2 [RbMfv138,RbMfv125]]], .agg [.int .i64 (.ofNat 0),.int .i64 (.ofNat 0)]),
  (25, [.agg [RbMfv53,.lst .dead 2 [RbMfv142,RbMfv104]]], .agg [.int .i64 (.ofNat 0),.int .i64 (.ofNat 0)]),
  (25, [.agg [RbMfv53,.lst .dead 2 [RbMfv142,RbMfv125]]], .agg [.int .i64 (.ofNat 0),.int .i64 (.ofNat 0)]),
  (25, [.agg [RbMfv53,.lst .dead 2 [RbMfv145,RbMfv104]]], .agg [.int .i64 (.ofNat 0),.int .i64 (.ofNat 0)]),
  (25, [.agg [RbMfv53,.lst .dead 2 [RbMfv145,RbMfv125]]], .agg [.int .i64 (.ofNat 0),.int .i64 (.ofNat 0)]),
  (25, [.agg [RbMfv53,.lst .dead 2 [RbMfv146,RbMfv104]]], .agg [.int .i64 (.ofNat 0),.int .i64 (.ofNat 0)]),
  (25, [.agg [RbMfv53,.lst .dead 2 [RbMfv146,RbMfv125]]], .agg [.int .i64 (.ofNat 0),.int .i64 (.ofNat 0)]),
  (25, [.agg [RbMfv53,.lst .dead 2 [RbMfv103,RbMfv147]]], .agg [.int .i64 (.ofNat 0),.int .i64 (.ofNat 0)]),
  (25, [.agg [RbMfv53,.lst .dead 2 [RbMfv103,RbMfv150]]], .agg [.int .i64 (.ofNat 0),.int .i64 (.ofNat 0)]),
  (25, [.agg [RbMfv53,.lst .dead 2 [RbMfv135,RbMfv147]]], .agg [.int .i64 (.ofNat 0),.int .i64 (.ofNat 0)]),
  (25, [.agg [RbMfv53,.lst .dead 2 [RbMfv135,RbMfv150]]], .agg [.int .i64 (.ofNat 0),.int .i64 (.ofNat 0)]),
  (25, [.agg [RbMfv53,.lst .dead 2 [RbMfv138,RbMfv147]]], .agg [.int .i64 (.ofNat 0),.int .i64 (.ofNat 0)])]
theorem RbMf36_run : forced (allW (runG RbMfT35) RbMf36) = true := by kernel_rfl
def RbMfT36 : List (Nat × List AV × AV) := RbMf36 ++ RbMfT35
theorem RbMf36_ok : MemoOK (ACall C) (memL RbMfT36) := memL_appW gtC (runG_ok RbMf35_ok) RbMf35_ok (of_forced RbMf36_run)
def RbMf37 : List (Nat × List AV × AV) := [
  (6, [RbMfv154], .tup [.bool false,.int .i64 (.ofNat 0)]),
  (25, [.agg [RbMfv53,.lst .dead 2 [RbMfv138,RbMfv150]]], .agg [.int .i64 (.ofNat 0),.int .i64 (.ofNat 0)])]
theorem RbMf37_run : forced (allW (runG RbMfT36) RbMf37) = true := by kernel_rfl
def RbMfT37 : List (Nat × List AV × AV) := RbMf37 ++ RbMfT36
theorem RbMf37_ok : MemoOK (ACall C) (memL RbMfT37) := memL_appW gtC (runG_ok RbMf36_ok) RbMf36_ok (of_forced RbMf37_run)
def RbMf38 : List (Nat × List AV × AV) := [
  (6, [RbMfv42], .tup [.bool false,.int .i64 (.ofNat 0)]),
  (25, [.agg [RbMfv53,.lst .dead 2 [RbMfv142,RbMfv147]]], .agg [.int .i64 (.ofNat 0),.int .i64 (.ofNat 0)])]
theorem RbMf38_run : forced (allW (runG RbMfT37) RbMf38) = true := by kernel_rfl
def RbMfT38 : List (Nat × List AV × AV) := RbMf38 ++ RbMfT37
theorem RbMf38_ok : MemoOK (ACall C) (memL RbMfT38) := memL_appW gtC (runG_ok RbMf37_ok) RbMf37_ok (of_forced RbMf38_run)
def RbMf39 : List (Nat × List AV × AV) := [
  (6, [RbMfv48], .tup [.bool false,.int .i64 (.ofNat 0)]),
  (25, [.agg [RbMfv53,.lst .dead 2 [RbMfv142,RbMfv150]]], .agg [.int .i64 (.ofNat 0),.int .i64 (.ofNat 0)])]
theorem RbMf39_run : forced (allW (runG RbMfT38) RbMf39) = true := by kernel_rfl
def RbMfT39 : List (Nat × List AV × AV) := RbMf39 ++ RbMfT38
theorem RbMf39_ok : MemoOK (ACall C) (memL RbMfT39) := memL_appW gtC (runG_ok RbMf38_ok) RbMf38_ok (of_forced RbMf39_run)
end
end Go.Proofs.YtpnkopablpdkoaaGreatDoor.rb
