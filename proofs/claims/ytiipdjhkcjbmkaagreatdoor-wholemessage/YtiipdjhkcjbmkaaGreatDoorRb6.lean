/- A part of the proof (part 6): see the last text. -/
import Derived.Test.YtiipdjhkcjbmkaaGreatDoorRb5
import Derived.Test.YtiipdjhkcjbmkaaGreatDoorRb4
import Derived.Test.YtiipdjhkcjbmkaaGreatDoorRb2
set_option linter.unusedVariables false
set_option linter.unusedSimpArgs false
set_option linter.unusedSectionVars false
namespace Go.Proofs.YtiipdjhkcjbmkaaGreatDoor.rb
open Rb
noncomputable section
def RbM2517 : List (Nat × List AV × AV) := [
  (10, [RbM25v40], .tup [.int .i64 (.ofNat 0),.int .i64 (.ofNat 0),.bool false])]
theorem RbM2517_run : forced (allW (runG RbM25T16) RbM2517) = true := by kernel_rfl
def RbM25T17 : List (Nat × List AV × AV) := RbM2517 ++ RbM25T16
theorem RbM2517_ok : MemoOK (ACall C) (memL RbM25T17) := memL_appW gtC (runG_ok RbM2516_ok) RbM2516_ok (of_forced RbM2517_run)
def RbM2518 : List (Nat × List AV × AV) := [
  (9, [RbM25v41], .tup [.bool false,.int .i64 (.ofNat 0)])]
theorem RbM2518_run : forced (allW (runG RbM25T17) RbM2518) = true := by kernel_rfl
def RbM25T18 : List (Nat × List AV × AV) := RbM2518 ++ RbM25T17
theorem RbM2518_ok : MemoOK (ACall C) (memL RbM25T18) := memL_appW gtC (runG_ok RbM2517_ok) RbM2517_ok (of_forced RbM2518_run)
def RbM2519 : List (Nat × List AV × AV) := [
  (10, [RbM25v41], .tup [.int .i64 (.ofNat 0),.int .i64 (.ofNat 0),.bool false])]
theorem RbM2519_run : forced (allW (runG RbM25T18) RbM2519) = true := by kernel_rfl
def RbM25T19 : List (Nat × List AV × AV) := RbM2519 ++ RbM25T18
theorem RbM2519_ok : MemoOK (ACall C) (memL RbM25T19) := memL_appW gtC (runG_ok RbM2518_ok) RbM2518_ok (of_forced RbM2519_run)
def RbM2520 : List (Nat × List AV × AV) := [
  (9, [RbM25v43], .tup [.bool true,.int .i64 (.ofNat 0)])]
theorem RbM2520_run : forced (allW (runG RbM25T19) RbM2520) = true := by kernel_rfl
def RbM25T20 : List (Nat × List AV × AV) := RbM2520 ++ RbM25T19
theorem RbM2520_ok : MemoOK (ACall C) (memL RbM25T20) := memL_appW gtC (runG_ok RbM2519_ok) RbM2519_ok (of_forced RbM2520_run)
def RbM2521 : List (Nat × List AV × AV) := [
  (10, [RbM25v43], .tup [.int .i64 (.ofNat 0),.int .i64 (.ofNat 0),.bool false])]
theorem RbM2521_run : forced (allW (runG RbM25T20) RbM2521) = true := by kernel_rfl
def RbM25T21 : List (Nat × List AV × AV) := RbM2521 ++ RbM25T20
theorem RbM2521_ok : MemoOK (ACall C) (memL RbM25T21) := memL_appW gtC (runG_ok RbM2520_ok) RbM2520_ok (of_forced RbM2521_run)
def RbM2522 : List (Nat × List AV × AV) := [
  (9, [RbM25v44], .tup [.bool true,.int .i64 (.ofNat 0)])]
theorem RbM2522_run : forced (allW (runG RbM25T21) RbM2522) = true := by kernel_rfl
def RbM25T22 : List (Nat × List AV × AV) := RbM2522 ++ RbM25T21
theorem RbM2522_ok : MemoOK (ACall C) (memL RbM25T22) := memL_appW gtC (runG_ok RbM2521_ok) RbM2521_ok (of_forced RbM2522_run)
def RbM2523 : List (Nat × List AV × AV) := [
  (10, [RbM25v44], .tup [.int .i64 (.ofNat 0),.int .i64 (.ofNat 0),.bool false])]
theorem RbM2523_run : forced (allW (runG RbM25T22) RbM2523) = true := by kernel_rfl
def RbM25T23 : List (Nat × List AV × AV) := RbM2523 ++ RbM25T22
theorem RbM2523_ok : MemoOK (ACall C) (memL RbM25T23) := memL_appW gtC (runG_ok RbM2522_ok) RbM2522_ok (of_forced RbM2523_run)
def RbM2524 : List (Nat × List AV × AV) := [
  (13, [RbM25v91], .agg [.int .i64 (.ofNat 0),.int .i64 (.ofNat 0)]),
  (13, [RbM25v107], .agg [.int .i64 (.ofNat 0),.int .i64 (.ofNat 0)]),
  (13, [RbM25v111], .agg [.int .i64 (.ofNat 0),.int .i64 (.ofNat 0)])]
theorem RbM2524_run : forced (allW (runG RbM25T23) RbM2524) = true := by kernel_rfl
def RbM25T24 : List (Nat × List AV × AV) := RbM2524 ++ RbM25T23
theorem RbM2524_ok : MemoOK (ACall C) (memL RbM25T24) := memL_appW gtC (runG_ok RbM2523_ok) RbM2523_ok (of_forced RbM2524_run)
def RbM2525 : List (Nat × List AV × AV) := [
  (53, [RbM25v91,.int .i64 (.ofNat 0)], .tup [.lst .dead 6 [.int .i64 (.ofNat 1),.int .i64 (.ofNat 0),.int .i64 (.negSucc 0),.int .i64 (.negSucc 0),.int .i64 (.negSucc 0),.int .i64 (.negSucc 0),.int .u64 (.ofNat 1),.int .i64 (.ofNat 0),.int .i64 (.ofNat 0),.int .i64 (.ofNat 0),.int .i64 (.ofNat 0),.int .i64 (.ofNat 0),.int .i64 (.ofNat 1),.int .i64 (.ofNat 1),.int .i64 (.ofNat 1),.int .i64 (.negSucc 0),.int .i64 (.negSucc 0),.int .i64 (.negSucc 0),.int .i64 (.negSucc 0),.int .u64 (.ofNat 65536),.int .i64 (.ofNat 0),.int .i64 (.ofNat 0),.int .i64 (.ofNat 0),.int .i64 (.ofNat 0),.int .i64 (.ofNat 0),.int .i64 (.ofNat 1),.int .i64 (.ofNat 5),.int .i64 (.negSucc 0),.int .i64 (.negSucc 0),.int .i64 (.ofNat 1),.int .i64 (.ofNat 0),.int .i64 (.negSucc 0),.int .u64 (.ofNat 0),.int .i64 (.ofNat 0),.int .i64 (.ofNat 4),.int .i64 (.ofNat 0),.int .i64 (.ofNat 0),.int .i64 (.ofNat 1),.int .i64 (.ofNat 1),.int .i64 (.ofNat 1),.int .i64 (.ofNat 2),.int .i64 (.negSucc 0),.int .i64 (.negSucc 0),.int .i64 (.negSucc 0),.int .i64 (.negSucc 0),.int .u64 (.ofNat 1),.int .i64 (.ofNat 0),.int .i64 (.ofNat 0),.int .i64 (.ofNat 0),.int .i64 (.ofNat 0),.int .i64 (.ofNat 0),.int .i64 (.ofNat 1),.int .i64 (.ofNat 1),.int .i64 (.ofNat 3),.int .i64 (.negSucc 0),.int .i64 (.negSucc 0),.int .i64 (.negSucc 0),.int .i64 (.negSucc 0),.int .u64 (.ofNat 65540),.int .i64 (.ofNat 0),.int .i64 (.ofNat 0),.int .i64 (.ofNat 0),.int .i64 (.ofNat 0),.int .i64 (.ofNat 0),.int .i64 (.ofNat 1),.int .i64 (.ofNat 7),.int .i64 (.negSucc 0),.int .i64 (.negSucc 0),.int .i64 (.ofNat 3),.int .i64 (.ofNat 2),.int .i64 (.negSucc 0),.int .u64 (.ofNat 0),.int .i64 (.ofNat 0),.int .i64 (.ofNat 4),.int .i64 (.ofNat 4),.int .i64 (.ofNat 0),.int .i64 (.ofNat 2),.int .i64 (.ofNat 1)],.int .i64 (.ofNat 4),.agg [.int .i64 (.ofNat 0),.int .i64 (.ofNat 0)]]),
  (53, [RbM25v91,.int .i64 (.ofNat 1)], .tup [.lst .dead 6 [.int .i64 (.ofNat 1),.int .i64 (.ofNat 0),.int .i64 (.negSucc 0),.int .i64 (.negSucc 0),.int .i64 (.negSucc 0),.int .i64 (.negSucc 0),.int .u64 (.ofNat 65540),.int .i64 (.ofNat 0),.int .i64 (.ofNat 0),.int .i64 (.ofNat 0),.int .i64 (.ofNat 0),.int .i64 (.ofNat 0),.int .i64 (.ofNat 1),.int .i64 (.ofNat 6),.int .i64 (.ofNat 1),.int .i64 (.negSucc 0),.int .i64 (.ofNat 0),.int .i64 (.negSucc 0),.int .i64 (.negSucc 0),.int .u64 (.ofNat 0),.int .i64 (.ofNat 0),.int .i64 (.ofNat 4),.int .i64 (.ofNat 4),.int .i64 (.ofNat 0),.int .i64 (.ofNat 1),.int .i64 (.ofNat 1),.int .i64 (.ofNat 2),.int .i64 (.ofNat 2),.int .i64 (.negSucc 0),.int .i64 (.ofNat 1),.int .i64 (.negSucc 0),.int .i64 (.negSucc 0),.int .u64 (.ofNat 0),.int .i64 (.ofNat 0),.int .i64 (.ofNat 0),.int .i64 (.ofNat 0),.int .i64 (.ofNat 0),.int .i64 (.ofNat 0),.int .i64 (.ofNat 1),.int .i64 (.ofNat 1),.int .i64 (.ofNat 3),.int .i64 (.negSucc 0),.int .i64 (.negSucc 0),.int .i64 (.negSucc 0),.int .i64 (.negSucc 0),.int .u64 (.ofNat 65536),.int .i64 (.ofNat 0),.int .i64 (.ofNat 0),.int .i64 (.ofNat 0),.int .i64 (.ofNat 0),.int .i64 (.ofNat 0),.int .i64 (.ofNat 1),.int .i64 (.ofNat 4),.int .i64 (.ofNat 4),.int .i64 (.negSucc 0),.int .i64 (.ofNat 3),.int .i64 (.negSucc 0),.int .i64 (.negSucc 0),.int .u64 (.ofNat 0),.int .i64 (.ofNat 0),.int .i64 (.ofNat 4),.int .i64 (.ofNat 0),.int .i64 (.ofNat 0),.int .i64 (.ofNat 2),.int .i64 (.ofNat 1),.int .i64 (.ofNat 18),.int .i64 (.negSucc 0),.int .i64 (.negSucc 0),.int .i64 (.ofNat 4),.int .i64 (.negSucc 0),.int .i64 (.negSucc 0),.int .u64 (.ofNat 0),.int .i64 (.ofNat 0),.int .i64 (.ofNat 0),.int .i64 (.ofNat 0),.int .i64 (.ofNat 0),.int .i64 (.ofNat 0),.int .i64 (.ofNat 1)],.int .i64 (.ofNat 5),.agg [.int .i64 (.ofNat 0),.int .i64 (.ofNat 0)]]),
  (28, [RbM25v91,.int .i64 (.ofNat 0)], .lst .dead 2 [.int .i64 (.ofNat 3),.int .i64 (.ofNat 0),.int .i64 (.ofNat 1),.str [120],.lst .dead 0 [],.int .i64 (.ofNat 4),.int .i64 (.ofNat 4),.int .i64 (.ofNat 1),.str [102],.lst .dead 0 []]),
  (28, [RbM25v91,.int .i64 (.ofNat 1)], .lst .dead 2 [.int .i64 (.ofNat 15),.int .i64 (.ofNat 4),.int .i64 (.ofNat 1),.str [102],.lst .dead 0 [],.int .i64 (.ofNat 14),.int .i64 (.ofNat 0),.int .i64 (.ofNat 1),.str [120],.lst .dead 0 []]),
  (53, [RbM25v107,.int .i64 (.ofNat 0)], .tup [RbM25v31,.int .i64 (.ofNat 2),.agg [.int .i64 (.ofNat 0),.int .i64 (.ofNat 0)]]),
  (53, [RbM25v111,.int .i64 (.ofNat 0)], .tup [.lst .dead 6 [.int .i64 (.ofNat 1),.int .i64 (.ofNat 0),.int .i64 (.negSucc 0),.int .i64 (.negSucc 0),.int .i64 (.negSucc 0),.int .i64 (.negSucc 0),.int .u64 (.ofNat 1),.int .i64 (.ofNat 0),.int .i64 (.ofNat 0),.int .i64 (.ofNat 0),.int .i64 (.ofNat 0),.int .i64 (.ofNat 0),.int .i64 (.ofNat 1),.int .i64 (.ofNat 1),.int .i64 (.ofNat 1),.int .i64 (.negSucc 0),.int .i64 (.negSucc 0),.int .i64 (.negSucc 0),.int .i64 (.negSucc 0),.int .u64 (.ofNat 65536),.int .i64 (.ofNat 0),.int .i64 (.ofNat 0),.int .i64 (.ofNat 0),.int .i64 (.ofNat 0),.int .i64 (.ofNat 0),.int .i64 (.ofNat 1),.int .i64 (.ofNat 5),.int .i64 (.negSucc 0),.int .i64 (.negSucc 0),.int .i64 (.ofNat 1),.int .i64 (.ofNat 0),.int .i64 (.negSucc 0),.int .u64 (.ofNat 0),.int .i64 (.ofNat 0),.int .i64 (.ofNat 4),.int .i64 (.ofNat 0),.int .i64 (.ofNat 0),.int .i64 (.ofNat 1),.int .i64 (.ofNat 1),.int .i64 (.ofNat 1),.int .i64 (.ofNat 2),.int .i64 (.negSucc 0),.int .i64 (.negSucc 0),.int .i64 (.negSucc 0),.int .i64 (.negSucc 0),.int .u64 (.ofNat 1),.int .i64 (.ofNat 0),.int .i64 (.ofNat 0),.int .i64 (.ofNat 0),.int .i64 (.ofNat 0),.int .i64 (.ofNat 0),.int .i64 (.ofNat 1),.int .i64 (.ofNat 1),.int .i64 (.ofNat 3),.int .i64 (.negSucc 0),.int .i64 (.negSucc 0),.int .i64 (.negSucc 0),.int .i64 (.negSucc 0),.int .u64 (.ofNat 65540),.int .i64 (.ofNat 0),.int .i64 (.ofNat 0),.int .i64 (.ofNat 0),.int .i64 (.ofNat 0),.int .i64 (.ofNat 0),.int .i64 (.ofNat 1),.int .i64 (.ofNat 7),.int .i64 (.negSucc 0),.int .i64 (.negSucc 0),.int .i64 (.ofNat 3),.int .i64 (.ofNat 2),.int .i64 (.negSucc 0),.int .u64 (.ofNat 0),.int .i64 (.ofNat 0),.int .i64 (.ofNat 4),.int .i64 (.ofNat 3),.int .i64 (.ofNat 0),.int .i64 (.ofNat 2),.int .i64 (.ofNat 1)],.int .i64 (.ofNat 4),.agg [.int .i64 (.ofNat 0),.int .i64 (.ofNat 0)]]),
  (53, [RbM25v111,.int .i64 (.ofNat 1)], .tup [.lst .dead 6 [.int .i64 (.ofNat 1),.int .i64 (.ofNat 0),.int .i64 (.negSucc 0),.int .i64 (.negSucc 0),.int .i64 (.negSucc 0),.int .i64 (.negSucc 0),.int .u64 (.ofNat 65540),.int .i64 (.ofNat 0),.int .i64 (.ofNat 0),.int .i64 (.ofNat 0),.int .i64 (.ofNat 0),.int .i64 (.ofNat 0),.int .i64 (.ofNat 1),.int .i64 (.ofNat 6),.int .i64 (.ofNat 1),.int .i64 (.negSucc 0),.int .i64 (.ofNat 0),.int .i64 (.negSucc 0),.int .i64 (.negSucc 0),.int .u64 (.ofNat 0),.int .i64 (.ofNat 0),.int .i64 (.ofNat 4),.int .i64 (.ofNat 2),.int .i64 (.ofNat 0),.int .i64 (.ofNat 1),.int .i64 (.ofNat 1),.int .i64 (.ofNat 2),.int .i64 (.ofNat 2),.int .i64 (.negSucc 0),.int .i64 (.ofNat 1),.int .i64 (.negSucc 0),.int .i64 (.negSucc 0),.int .u64 (.ofNat 0),.int .i64 (.ofNat 0),.int .i64 (.ofNat 0),.int .i64 (.ofNat 0),.int .i64 (.ofNat 0),.int .i64 (.ofNat 0),.int .i64 (.ofNat 1),.int .i64 (.ofNat 1),.int .i64 (.ofNat 3),.int .i64 (.negSucc 0),.int .i64 (.negSucc 0),.int .i64 (.negSucc 0),.int .i64 (.negSucc 0),.int .u64 (.ofNat 65536),.int .i64 (.ofNat 0),.int .i64 (.ofNat 0),.int .i64 (.ofNat 0),.int .i64 (.ofNat 0),.int .i64 (.ofNat 0),.int .i64 (.ofNat 1),.int .i64 (.ofNat 4),.int .i64 (.ofNat 4),.int .i64 (.negSucc 0),.int .i64 (.ofNat 3),.int .i64 (.negSucc 0),.int .i64 (.negSucc 0),.int .u64 (.ofNat 0),.int .i64 (.ofNat 0),.int .i64 (.ofNat 4),.int .i64 (.ofNat 0),.int .i64 (.ofNat 0),.int .i64 (.ofNat 2),.int .i64 (.ofNat 1),.int .i64 (.ofNat 18),.int .i64 (.negSucc 0),.int .i64 (.negSucc 0),.int .i64 (.ofNat 4),.int .i64 (.negSucc 0),.int .i64 (.negSucc 0),.int .u64 (.ofNat 0),.int .i64 (.ofNat 0),.int .i64 (.ofNat 0),.int .i64 (.ofNat 0),.int .i64 (.ofNat 0),.int .i64 (.ofNat 0),.int .i64 (.ofNat 1)],.int .i64 (.ofNat 5),.agg [.int .i64 (.ofNat 0),.int .i64 (.ofNat 0)]]),
  (28, [RbM25v111,.int .i64 (.ofNat 0)], .lst .dead 2 [.int .i64 (.ofNat 3),.int .i64 (.ofNat 0),.int .i64 (.ofNat 1),.str [120],.lst .dead 0 [],.int .i64 (.ofNat 4),.int .i64 (.ofNat 3),.int .i64 (.ofNat 1),.str [102],.lst .dead 0 []]),
  (28, [RbM25v111,.int .i64 (.ofNat 1)], .lst .dead 2 [.int .i64 (.ofNat 15),.int .i64 (.ofNat 2),.int .i64 (.ofNat 1),.str [102],.lst .dead 0 [],.int .i64 (.ofNat 14),.int .i64 (.ofNat 0),.int .i64 (.ofNat 1),.str [120],.lst .dead 0 []])]
theorem RbM2525_run : forced (allW (runG RbM25T24) RbM2525) = true := by kernel_rfl
def RbM25T25 : List (Nat × List AV × AV) := RbM2525 ++ RbM25T24
theorem RbM2525_ok : MemoOK (ACall C) (memL RbM25T25) := memL_appW gtC (runG_ok RbM2524_ok) RbM2524_ok (of_forced RbM2525_run)
def RbM25v122 : AV := .tup [RbM25v16,.agg [.int .i64 (.ofNat 0),.int .i64 (.ofNat 0)]]
def RbM2526 : List (Nat × List AV × AV) := [
  (5, [RbM25v91], RbM25v122),
  (5, [RbM25v107], .tup [.agg [.lst .dead 1 [.lst .dead 6 [.int .u32 (.ofNat 3531604508),.int .u32 (.ofNat 4070572092),.int .u32 (.ofNat 3531604192),.int .u32 (.ofNat 3533701153),.int .u32 (.ofNat 956301344),.int .u32 (.ofNat 3556769793)]],.lst .dead 1 [.lst .dead 6 [.int .i64 (.ofNat 0),.int .i64 (.ofNat 0),.int .i64 (.ofNat 0),.int .i64 (.ofNat 0),.int .i64 (.ofNat 0),.int .i64 (.ofNat 0),.int .i64 (.ofNat 0),.int .i64 (.ofNat 0),.int .i64 (.ofNat 1),.int .i64 (.ofNat 0),.int .i64 (.ofNat 0),.int .i64 (.ofNat 1),.int .i64 (.ofNat 0),.int .i64 (.ofNat 1),.int .i64 (.ofNat 1),.int .i64 (.ofNat 0),.int .i64 (.ofNat 0),.int .i64 (.ofNat 1)]],RbM25v121,.int .i64 (.ofNat 1)],.agg [.int .i64 (.ofNat 0),.int .i64 (.ofNat 0)]]),
  (5, [RbM25v111], RbM25v122)]
theorem RbM2526_run : forced (allW (runG RbM25T25) RbM2526) = true := by kernel_rfl
def RbM25T26 : List (Nat × List AV × AV) := RbM2526 ++ RbM25T25
theorem RbM2526_ok : MemoOK (ACall C) (memL RbM25T26) := memL_appW gtC (runG_ok RbM2525_ok) RbM2525_ok (of_forced RbM2526_run)
def RbM2527 : List (Nat × List AV × AV) := [
  (41, [.str [118,97,114,32,120,32,117,56,32,59,32,116,104,114,101,97,100,32,123,32,119,114,105,116,101,32,120,32,61,32,55,32,59,32,125],.int .i64 (.ofNat 5000)], .tup [.agg [.lst .dead 1 [.int .u8 (.ofNat 7)],.lst .dead 1 [.lst .dead 0 []],.lst .dead 1 [.int .i64 (.ofNat 1)]],.bool true])]
theorem RbM2527_run : forced (allW (runG RbM25T26) RbM2527) = true := by kernel_rfl
def RbM25T27 : List (Nat × List AV × AV) := RbM2527 ++ RbM25T26
theorem RbM2527_ok : MemoOK (ACall C) (memL RbM25T27) := memL_appW gtC (runG_ok RbM2526_ok) RbM2526_ok (of_forced RbM2527_run)
def RbM2528 : List (Nat × List AV × AV) := [
  (11, [], .bool true)]
theorem RbM2528_run : forced (allW (runG RbM25T27) RbM2528) = true := by kernel_rfl
def RbM25T28 : List (Nat × List AV × AV) := RbM2528 ++ RbM25T27
theorem RbM2528_ok : MemoOK (ACall C) (memL RbM25T28) := memL_appW gtC (runG_ok RbM2527_ok) RbM2527_ok (of_forced RbM2528_run)
end
end Go.Proofs.YtiipdjhkcjbmkaaGreatDoor.rb

namespace Go.Proofs.YtiipdjhkcjbmkaaGreatDoor.rb
open Rb
section
variable {Φ : Calls'} {a0 a1 b0 b1 : AV} (h0 : abin .rem a0 (.int .u8 2) = abin .rem b0 (.int .u8 2)) (h1 : abin .rem a1 (.int .u8 2) = abin .rem b1 (.int .u8 2))
include h0 h1
theorem c_k1 : S.f3_k1 Φ a0 = S.f3_k1 Φ b0 := by
 delta S.f3_k1
 simp only [h0, h1]
theorem c_k2 : S.f3_k2 Φ a0 = S.f3_k2 Φ b0 := by
 delta S.f3_k2
 simp only [h0, h1, c_k1 h0 h1]
theorem c_k3 : S.f3_k3 Φ a0 = S.f3_k3 Φ b0 := by
 delta S.f3_k3
 simp only [h0, h1, c_k1 h0 h1, c_k2 h0 h1]
theorem c_k4 : S.f3_k4 Φ a0 = S.f3_k4 Φ b0 := by
 delta S.f3_k4
 simp only [h0, h1, c_k1 h0 h1, c_k2 h0 h1, c_k3 h0 h1]
theorem c_k5 : S.f3_k5 Φ a0 = S.f3_k5 Φ b0 := by
 delta S.f3_k5
 simp only [h0, h1, c_k1 h0 h1, c_k2 h0 h1, c_k3 h0 h1, c_k4 h0 h1]
theorem c_k6 : S.f3_k6 Φ a0 = S.f3_k6 Φ b0 := by
 delta S.f3_k6
 simp only [h0, h1, c_k1 h0 h1, c_k2 h0 h1, c_k3 h0 h1, c_k4 h0 h1, c_k5 h0 h1]
theorem c_k7 : S.f3_k7 Φ a0 a1 = S.f3_k7 Φ b0 b1 := by
 delta S.f3_k7
 simp only [h0, h1, c_k1 h0 h1, c_k2 h0 h1, c_k3 h0 h1, c_k4 h0 h1, c_k5 h0 h1, c_k6 h0 h1]
theorem c_l8 : S.f3_l8 Φ a0 a1 = S.f3_l8 Φ b0 b1 := by
 delta S.f3_l8
 simp only [h0, h1, c_k1 h0 h1, c_k2 h0 h1, c_k3 h0 h1, c_k4 h0 h1, c_k5 h0 h1, c_k6 h0 h1, c_k7 h0 h1]
theorem c_k9 : S.f3_k9 Φ a0 a1 = S.f3_k9 Φ b0 b1 := by
 delta S.f3_k9
 simp only [h0, h1, c_k1 h0 h1, c_k2 h0 h1, c_k3 h0 h1, c_k4 h0 h1, c_k5 h0 h1, c_k6 h0 h1, c_k7 h0 h1, c_l8 h0 h1]
theorem c_k10 : S.f3_k10 Φ a0 a1 = S.f3_k10 Φ b0 b1 := by
 delta S.f3_k10
 simp only [h0, h1, c_k1 h0 h1, c_k2 h0 h1, c_k3 h0 h1, c_k4 h0 h1, c_k5 h0 h1, c_k6 h0 h1, c_k7 h0 h1, c_l8 h0 h1, c_k9 h0 h1]
theorem c_k11 : S.f3_k11 Φ a0 a1 = S.f3_k11 Φ b0 b1 := by
 delta S.f3_k11
 simp only [h0, h1, c_k1 h0 h1, c_k2 h0 h1, c_k3 h0 h1, c_k4 h0 h1, c_k5 h0 h1, c_k6 h0 h1, c_k7 h0 h1, c_l8 h0 h1, c_k9 h0 h1, c_k10 h0 h1]
theorem c_k12 : S.f3_k12 Φ a0 a1 = S.f3_k12 Φ b0 b1 := by
 delta S.f3_k12
 simp only [h0, h1, c_k1 h0 h1, c_k2 h0 h1, c_k3 h0 h1, c_k4 h0 h1, c_k5 h0 h1, c_k6 h0 h1, c_k7 h0 h1, c_l8 h0 h1, c_k9 h0 h1, c_k10 h0 h1, c_k11 h0 h1]
theorem c_k13 : S.f3_k13 Φ a0 a1 = S.f3_k13 Φ b0 b1 := by
 delta S.f3_k13
 simp only [h0, h1, c_k1 h0 h1, c_k2 h0 h1, c_k3 h0 h1, c_k4 h0 h1, c_k5 h0 h1, c_k6 h0 h1, c_k7 h0 h1, c_l8 h0 h1, c_k9 h0 h1, c_k10 h0 h1, c_k11 h0 h1, c_k12 h0 h1]
theorem c : S.f3 Φ a0 a1 = S.f3 Φ b0 b1 := by
 delta S.f3
 simp only [h0, h1, c_k1 h0 h1, c_k2 h0 h1, c_k3 h0 h1, c_k4 h0 h1, c_k5 h0 h1, c_k6 h0 h1, c_k7 h0 h1, c_l8 h0 h1, c_k9 h0 h1, c_k10 h0 h1, c_k11 h0 h1, c_k12 h0 h1, c_k13 h0 h1]
end
def isT (v : AV) : Bool := match v with | .bool true => true | _ => false
theorem isT_eq {v : AV} (h : isT v = true) : v = .bool true := by
 unfold isT at h
 split at h
 · rfl
 · cases h
end Go.Proofs.YtiipdjhkcjbmkaaGreatDoor.rb
