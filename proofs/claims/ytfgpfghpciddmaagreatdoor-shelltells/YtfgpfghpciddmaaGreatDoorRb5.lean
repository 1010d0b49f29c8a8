/- A part of the proof (part 5): see the last text. -/
import Derived.Test.YtfgpfghpciddmaaGreatDoorRb4
set_option linter.unusedVariables false
set_option linter.unusedSimpArgs false
namespace Go.Proofs.YtfgpfghpciddmaaGreatDoor.rb
open Rb
noncomputable section
def RbM270 : List (Nat × List AV × AV) := [
  (110, [.str [118,97,114,32,116,104,114,101,97,100,32,115,116,114,117,99,116,32,117,110,105,111,110,32,112,97,99,107,101,100,32,117,56,32,117,49,54,32,117,51,50,32,117,54,52,32,97,56,32,97,49,54,32,97,51,50,32,97,54,52,32,97,49,50,56,32,108,101,116,32,115,101,116,32,119,114,105,116,101,32,115,116,111,114,101,32,108,111,97,100,50,32,115,116,111,114,101,50,32,102,101,110,99,101,32,105,102,32,101,108,115,101,32,119,104,105,108,101,32,112,114,105,110,116,32,114,101,97,100,32,108,111,97,100,32,97,100,100,32,115,119,97,112,32,99,97,115,32,114,108,120,32,97,99,113,32,114,101,108,32,115,99]], .lst .dead 34 [.str [118,97,114],.str [116,104,114,101,97,100],.str [115,116,114,117,99,116],.str [117,110,105,111,110],.str [112,97,99,107,101,100],.str [117,56],.str [117,49,54],.str [117,51,50],.str [117,54,52],.str [97,56],.str [97,49,54],.str [97,51,50],.str [97,54,52],.str [97,49,50,56],.str [108,101,116],.str [115,101,116],.str [119,114,105,116,101],.str [115,116,111,114,101],.str [108,111,97,100,50],.str [115,116,111,114,101,50],.str [102,101,110,99,101],.str [105,102],.str [101,108,115,101],.str [119,104,105,108,101],.str [112,114,105,110,116],.str [114,101,97,100],.str [108,111,97,100],.str [97,100,100],.str [115,119,97,112],.str [99,97,115],.str [114,108,120],.str [97,99,113],.str [114,101,108],.str [115,99]]),
  (164, [.lst .dead 34 [.str [118,97,114],.str [116,104,114,101,97,100],.str [115,116,114,117,99,116],.str [117,110,105,111,110],.str [112,97,99,107,101,100],.str [117,56],.str [117,49,54],.str [117,51,50],.str [117,54,52],.str [97,56],.str [97,49,54],.str [97,51,50],.str [97,54,52],.str [97,49,50,56],.str [108,101,116],.str [115,101,116],.str [119,114,105,116,101],.str [115,116,111,114,101],.str [108,111,97,100,50],.str [115,116,111,114,101,50],.str [102,101,110,99,101],.str [105,102],.str [101,108,115,101],.str [119,104,105,108,101],.str [112,114,105,110,116],.str [114,101,97,100],.str [108,111,97,100],.str [97,100,100],.str [115,119,97,112],.str [99,97,115],.str [114,108,120],.str [97,99,113],.str [114,101,108],.str [115,99]],.str [120]], .int .i64 (.negSucc 0)),
  (294, [.agg [.int .i64 (.ofNat 1),.int .i64 (.ofNat 2),.bool false,.lst .dead 0 [],.int .i64 (.ofNat 0),.lst .dead 0 []]], .bool true),
  (101, [.int .u8 (.ofNat 100)], .agg [.int .i64 (.ofNat 0),.int .i64 (.ofNat 5),.bool false,.int .u32 (.ofNat 0),.int .i64 (.ofNat 31)]),
  (104, [.agg [.int .i64 (.ofNat 0),.int .i64 (.ofNat 5),.bool false,.int .u32 (.ofNat 0),.int .i64 (.ofNat 31)]], .int .u32 (.ofNat 31)),
  (101, [.int .u8 (.ofNat 105)], .agg [.int .i64 (.ofNat 5),.int .i64 (.ofNat 16),.bool false,.int .u32 (.ofNat 0),.int .i64 (.ofNat 65535)]),
  (104, [.agg [.int .i64 (.ofNat 5),.int .i64 (.ofNat 16),.bool false,.int .u32 (.ofNat 0),.int .i64 (.ofNat 65535)]], .int .u32 (.ofNat 2097120)),
  (101, [.int .u8 (.ofNat 113)], .agg [.int .i64 (.ofNat 21),.int .i64 (.ofNat 2),.bool false,.int .u32 (.ofNat 0),.int .i64 (.ofNat 3)]),
  (104, [.agg [.int .i64 (.ofNat 21),.int .i64 (.ofNat 2),.bool false,.int .u32 (.ofNat 0),.int .i64 (.ofNat 3)]], .int .u32 (.ofNat 6291456)),
  (139, [.agg [.int .i64 (.ofNat 0),.int .i64 (.ofNat 5),.bool false,.int .u32 (.ofNat 0),.int .i64 (.ofNat 31)],.int .i64 (.ofNat 1)], .bool true),
  (104, [.agg [.int .i64 (.ofNat 5),.int .i64 (.ofNat 5),.bool false,.int .u32 (.ofNat 0),.int .i64 (.ofNat 30)]], .int .u32 (.ofNat 992)),
  (101, [.int .u8 (.ofNat 115)], .agg [.int .i64 (.ofNat 30),.int .i64 (.ofNat 2),.bool false,.int .u32 (.ofNat 0),.int .i64 (.ofNat 3)]),
  (104, [.agg [.int .i64 (.ofNat 30),.int .i64 (.ofNat 2),.bool false,.int .u32 (.ofNat 0),.int .i64 (.ofNat 3)]], .int .u32 (.ofNat 3221225472)),
  (100, [.int .i64 (.ofNat 31)], .agg [.int .u32 (.ofNat 3556769793),.str [105]]),
  (104, [.agg [.int .i64 (.ofNat 5),.int .i64 (.ofNat 5),.bool false,.int .u32 (.ofNat 0),.int .i64 (.ofNat 31)]], .int .u32 (.ofNat 992)),
  (101, [.int .u8 (.ofNat 109)], .agg [.int .i64 (.ofNat 16),.int .i64 (.ofNat 5),.bool false,.int .u32 (.ofNat 0),.int .i64 (.ofNat 31)]),
  (104, [.agg [.int .i64 (.ofNat 16),.int .i64 (.ofNat 5),.bool false,.int .u32 (.ofNat 0),.int .i64 (.ofNat 31)]], .int .u32 (.ofNat 2031616)),
  (139, [.agg [.int .i64 (.ofNat 16),.int .i64 (.ofNat 5),.bool false,.int .u32 (.ofNat 0),.int .i64 (.ofNat 31)],.int .i64 (.ofNat 0)], .bool true)]
def RbM271 : List (Nat × List AV × AV) := [
  (27, [.str [118,97,114,32,120,32,117,49,54,32,59,32,116,104,114,101,97,100,32,123,32,119,114,105,116,101,32,120,32,61,32,50,53,56,32,59,32,112,114,105,110,116,32,51,32,59,32,125]], .tup [.agg [.lst .dead 1 [.str [120],.int .i64 (.ofNat 1),.int .i64 (.ofNat 2),.bool false,.lst .dead 0 [],.int .i64 (.ofNat 0),.lst .dead 0 []],.lst .dead 1 [.lst .dead 2 [.int .i64 (.ofNat 3),.int .i64 (.ofNat 1),.str [],.str [],.int .i64 (.ofNat 0),.str [120],.lst .dead 0 [],.lst .dead 1 [.int .i64 (.ofNat 1),.int .u64 (.ofNat 258),.str [],.int .i64 (.ofNat 0),.int .i64 (.ofNat 0),.str [],.lst .dead 0 [],.lst .dead 0 []],.lst .dead 0 [],.lst .dead 0 [],.int .i64 (.ofNat 10),.int .i64 (.ofNat 1),.str [],.str [],.int .i64 (.ofNat 0),.str [],.lst .dead 0 [],.lst .dead 1 [.int .i64 (.ofNat 1),.int .u64 (.ofNat 3),.str [],.int .i64 (.ofNat 0),.int .i64 (.ofNat 0),.str [],.lst .dead 0 [],.lst .dead 0 []],.lst .dead 0 [],.lst .dead 0 []]]],.agg [.int .i64 (.ofNat 0),.int .i64 (.ofNat 0)]]),
  (178, [.agg [.int .i64 (.ofNat 1),.int .i64 (.ofNat 2),.bool false,.lst .dead 0 [],.int .i64 (.ofNat 0),.lst .dead 0 []]], .int .i64 (.ofNat 0)),
  (94, [.agg [.int .i64 (.ofNat 1),.int .i64 (.ofNat 28),.int .i64 (.ofNat 0),.int .i64 (.ofNat 0),.int .i64 (.ofNat 0),.int .i64 (.ofNat 0),.int .i64 (.ofNat 16)]], .tup [.int .u32 (.ofNat 3531604508),.int .i64 (.ofNat 0)]),
  (94, [.agg [.int .i64 (.ofNat 2),.int .i64 (.ofNat 28),.int .i64 (.ofNat 0),.int .i64 (.ofNat 0),.int .i64 (.ofNat 1),.int .i64 (.ofNat 0),.int .i64 (.ofNat 1)]], .tup [.int .u32 (.ofNat 4070572092),.int .i64 (.ofNat 0)]),
  (94, [.agg [.int .i64 (.ofNat 1),.int .i64 (.ofNat 0),.int .i64 (.ofNat 0),.int .i64 (.ofNat 0),.int .i64 (.ofNat 0),.int .i64 (.ofNat 0),.int .i64 (.ofNat 258)]], .tup [.int .u32 (.ofNat 3531612224),.int .i64 (.ofNat 0)]),
  (94, [.agg [.int .i64 (.ofNat 1),.int .i64 (.ofNat 1),.int .i64 (.ofNat 0),.int .i64 (.ofNat 0),.int .i64 (.ofNat 1),.int .i64 (.ofNat 0),.int .i64 (.ofNat 1)]], .tup [.int .u32 (.ofNat 3533701153),.int .i64 (.ofNat 0)]),
  (94, [.agg [.int .i64 (.ofNat 18),.int .i64 (.ofNat 0),.int .i64 (.ofNat 1),.int .i64 (.ofNat 0),.int .i64 (.ofNat 0),.int .i64 (.ofNat 1),.int .i64 (.ofNat 0)]], .tup [.int .u32 (.ofNat 2030043168),.int .i64 (.ofNat 0)]),
  (94, [.agg [.int .i64 (.ofNat 1),.int .i64 (.ofNat 0),.int .i64 (.ofNat 0),.int .i64 (.ofNat 0),.int .i64 (.ofNat 0),.int .i64 (.ofNat 0),.int .i64 (.ofNat 3)]], .tup [.int .u32 (.ofNat 3531604064),.int .i64 (.ofNat 0)]),
  (94, [.agg [.int .i64 (.ofNat 31),.int .i64 (.ofNat 0),.int .i64 (.ofNat 0),.int .i64 (.ofNat 0),.int .i64 (.ofNat 0),.int .i64 (.ofNat 0),.int .i64 (.ofNat 0)]], .tup [.int .u32 (.ofNat 3556769793),.int .i64 (.ofNat 0)]),
  (102, [.agg [.int .i64 (.ofNat 0),.int .i64 (.ofNat 5),.bool false,.int .u32 (.ofNat 0),.int .i64 (.ofNat 31)],.int .u8 (.ofNat 100),.int .u32 (.ofNat 2030043168)], .tup [.int .i64 (.ofNat 0),.bool true]),
  (102, [.agg [.int .i64 (.ofNat 0),.int .i64 (.ofNat 5),.bool false,.int .u32 (.ofNat 0),.int .i64 (.ofNat 31)],.int .u8 (.ofNat 100),.int .u32 (.ofNat 3556769825)], .tup [.int .i64 (.ofNat 1),.bool true]),
  (102, [.agg [.int .i64 (.ofNat 5),.int .i64 (.ofNat 5),.bool false,.int .u32 (.ofNat 0),.int .i64 (.ofNat 30)],.int .u8 (.ofNat 97),.int .u32 (.ofNat 3556769825)], .tup [.int .i64 (.ofNat 1),.bool true]),
  (102, [.agg [.int .i64 (.ofNat 0),.int .i64 (.ofNat 5),.bool false,.int .u32 (.ofNat 0),.int .i64 (.ofNat 31)],.int .u8 (.ofNat 100),.int .u32 (.ofNat 3556769793)], .tup [.int .i64 (.ofNat 1),.bool true]),
  (102, [.agg [.int .i64 (.ofNat 5),.int .i64 (.ofNat 5),.bool false,.int .u32 (.ofNat 0),.int .i64 (.ofNat 30)],.int .u8 (.ofNat 97),.int .u32 (.ofNat 3556769793)], .tup [.int .i64 (.ofNat 0),.bool true])]
def RbM272 : List (Nat × List AV × AV) := [
  (122, [.agg [.int .i64 (.ofNat 1),.int .i64 (.ofNat 2),.bool false,.lst .dead 0 [],.int .i64 (.ofNat 0),.lst .dead 0 []]], .tup [.agg [.int .i64 (.ofNat 2),.int .i64 (.ofNat 2)],.int .i64 (.ofNat 0)])]
def RbM273 : List (Nat × List AV × AV) := [
  (86, [.lst .dead 1 [.str [120],.int .i64 (.ofNat 1),.int .i64 (.ofNat 2),.bool false,.lst .dead 0 [],.int .i64 (.ofNat 0),.lst .dead 0 []]], .int .i64 (.ofNat 0))]
def RbM274 : List (Nat × List AV × AV) := [
  (53, [.agg [.lst .dead 1 [.str [120],.int .i64 (.ofNat 1),.int .i64 (.ofNat 2),.bool false,.lst .dead 0 [],.int .i64 (.ofNat 0),.lst .dead 0 []],.lst .dead 1 [.lst .dead 2 [.int .i64 (.ofNat 3),.int .i64 (.ofNat 1),.str [],.str [],.int .i64 (.ofNat 0),.str [120],.lst .dead 0 [],.lst .dead 1 [.int .i64 (.ofNat 1),.int .u64 (.ofNat 258),.str [],.int .i64 (.ofNat 0),.int .i64 (.ofNat 0),.str [],.lst .dead 0 [],.lst .dead 0 []],.lst .dead 0 [],.lst .dead 0 [],.int .i64 (.ofNat 10),.int .i64 (.ofNat 1),.str [],.str [],.int .i64 (.ofNat 0),.str [],.lst .dead 0 [],.lst .dead 1 [.int .i64 (.ofNat 1),.int .u64 (.ofNat 3),.str [],.int .i64 (.ofNat 0),.int .i64 (.ofNat 0),.str [],.lst .dead 0 [],.lst .dead 0 []],.lst .dead 0 [],.lst .dead 0 []]]]], .agg [.int .i64 (.ofNat 0),.int .i64 (.ofNat 0)])]
def RbM275 : List (Nat × List AV × AV) := [
  (28, [.agg [.lst .dead 1 [.str [120],.int .i64 (.ofNat 1),.int .i64 (.ofNat 2),.bool false,.lst .dead 0 [],.int .i64 (.ofNat 0),.lst .dead 0 []],.lst .dead 1 [.lst .dead 2 [.int .i64 (.ofNat 3),.int .i64 (.ofNat 1),.str [],.str [],.int .i64 (.ofNat 0),.str [120],.lst .dead 0 [],.lst .dead 1 [.int .i64 (.ofNat 1),.int .u64 (.ofNat 258),.str [],.int .i64 (.ofNat 0),.int .i64 (.ofNat 0),.str [],.lst .dead 0 [],.lst .dead 0 []],.lst .dead 0 [],.lst .dead 0 [],.int .i64 (.ofNat 10),.int .i64 (.ofNat 1),.str [],.str [],.int .i64 (.ofNat 0),.str [],.lst .dead 0 [],.lst .dead 1 [.int .i64 (.ofNat 1),.int .u64 (.ofNat 3),.str [],.int .i64 (.ofNat 0),.int .i64 (.ofNat 0),.str [],.lst .dead 0 [],.lst .dead 0 []],.lst .dead 0 [],.lst .dead 0 []]]]], .tup [.agg [.lst .dead 1 [.lst .dead 8 [.int .u32 (.ofNat 3531604508),.int .u32 (.ofNat 4070572092),.int .u32 (.ofNat 3531612224),.int .u32 (.ofNat 3533701153),.int .u32 (.ofNat 2030043168),.int .u32 (.ofNat 3531604064),.int .u32 (.ofNat 3556769825),.int .u32 (.ofNat 3556769793)]],.lst .dead 1 [.lst .dead 8 [.int .i64 (.ofNat 0),.int .i64 (.ofNat 0),.int .i64 (.ofNat 0),.int .i64 (.ofNat 0),.int .i64 (.ofNat 0),.int .i64 (.ofNat 0),.int .i64 (.ofNat 0),.int .i64 (.ofNat 0),.int .i64 (.ofNat 1),.int .i64 (.ofNat 0),.int .i64 (.ofNat 0),.int .i64 (.ofNat 1),.int .i64 (.ofNat 0),.int .i64 (.ofNat 1),.int .i64 (.ofNat 1),.int .i64 (.ofNat 0),.int .i64 (.ofNat 0),.int .i64 (.ofNat 1),.int .i64 (.ofNat 0),.int .i64 (.ofNat 0),.int .i64 (.ofNat 1),.int .i64 (.ofNat 0),.int .i64 (.ofNat 0),.int .i64 (.ofNat 1)]],.lst .dead 1 [.str [120],.int .i64 (.ofNat 65536),.int .i64 (.ofNat 2)],.int .i64 (.ofNat 2)],.agg [.int .i64 (.ofNat 0),.int .i64 (.ofNat 0)]])]
def RbM276 : List (Nat × List AV × AV) := [
  (7, [.str [118,97,114,32,120,32,117,49,54,32,59,32,116,104,114,101,97,100,32,123,32,119,114,105,116,101,32,120,32,61,32,50,53,56,32,59,32,112,114,105,110,116,32,51,32,59,32,125],.str [114,117,110,32,48,32,56,48,48,48]], .tup [.str [98,121,116,101,115,32,48,50,48,49,10,116,104,114,101,97,100,32,48,32,104,97,108,116,101,100,32,51,10],.agg [.int .i64 (.ofNat 0),.int .i64 (.ofNat 0)]])]
def RbM277 : List (Nat × List AV × AV) := [
  (4, [], .bool true)]
theorem RbM270_run : forced (allW (runL RbNs2) RbM270) = true := by kernel_rfl
theorem RbM270_ok : MemoOK (ACall C) (memL (RbM270 ++ RbNs2)) := memL_appW gtC (runL_ok RbNs2_ok) RbNs2_ok (of_forced RbM270_run)
theorem RbM271_run : forced (allW (runL (RbM270 ++ RbNs2)) RbM271) = true := by kernel_rfl
theorem RbM271_ok : MemoOK (ACall C) (memL (RbM271 ++ (RbM270 ++ RbNs2))) := memL_appW gtC (runL_ok RbM270_ok) RbM270_ok (of_forced RbM271_run)
theorem RbM272_run : forced (allW (runL (RbM271 ++ (RbM270 ++ RbNs2))) RbM272) = true := by kernel_rfl
theorem RbM272_ok : MemoOK (ACall C) (memL (RbM272 ++ (RbM271 ++ (RbM270 ++ RbNs2)))) := memL_appW gtC (runL_ok RbM271_ok) RbM271_ok (of_forced RbM272_run)
theorem RbM273_run : forced (allW (runL (RbM272 ++ (RbM271 ++ (RbM270 ++ RbNs2)))) RbM273) = true := by kernel_rfl
theorem RbM273_ok : MemoOK (ACall C) (memL (RbM273 ++ (RbM272 ++ (RbM271 ++ (RbM270 ++ RbNs2))))) := memL_appW gtC (runL_ok RbM272_ok) RbM272_ok (of_forced RbM273_run)
theorem RbM274_run : forced (allW (runL (RbM273 ++ (RbM272 ++ (RbM271 ++ (RbM270 ++ RbNs2))))) RbM274) = true := by kernel_rfl
theorem RbM274_ok : MemoOK (ACall C) (memL (RbM274 ++ (RbM273 ++ (RbM272 ++ (RbM271 ++ (RbM270 ++ RbNs2)))))) := memL_appW gtC (runL_ok RbM273_ok) RbM273_ok (of_forced RbM274_run)
theorem RbM275_run : forced (allW (runL (RbM274 ++ (RbM273 ++ (RbM272 ++ (RbM271 ++ (RbM270 ++ RbNs2)))))) RbM275) = true := by kernel_rfl
theorem RbM275_ok : MemoOK (ACall C) (memL (RbM275 ++ (RbM274 ++ (RbM273 ++ (RbM272 ++ (RbM271 ++ (RbM270 ++ RbNs2))))))) := memL_appW gtC (runL_ok RbM274_ok) RbM274_ok (of_forced RbM275_run)
theorem RbM276_run : forced (allW (runL (RbM275 ++ (RbM274 ++ (RbM273 ++ (RbM272 ++ (RbM271 ++ (RbM270 ++ RbNs2))))))) RbM276) = true := by kernel_rfl
theorem RbM276_ok : MemoOK (ACall C) (memL (RbM276 ++ (RbM275 ++ (RbM274 ++ (RbM273 ++ (RbM272 ++ (RbM271 ++ (RbM270 ++ RbNs2)))))))) := memL_appW gtC (runL_ok RbM275_ok) RbM275_ok (of_forced RbM276_run)
theorem RbM277_run : forced (allW (runL (RbM276 ++ (RbM275 ++ (RbM274 ++ (RbM273 ++ (RbM272 ++ (RbM271 ++ (RbM270 ++ RbNs2)))))))) RbM277) = true := by kernel_rfl
theorem RbM277_ok : MemoOK (ACall C) (memL (RbM277 ++ (RbM276 ++ (RbM275 ++ (RbM274 ++ (RbM273 ++ (RbM272 ++ (RbM271 ++ (RbM270 ++ RbNs2))))))))) := memL_appW gtC (runL_ok RbM276_ok) RbM276_ok (of_forced RbM277_run)
theorem RbM27_root0 : forced (allW (runL (RbM277 ++ (RbM276 ++ (RbM275 ++ (RbM274 ++ (RbM273 ++ (RbM272 ++ (RbM271 ++ (RbM270 ++ RbNs2))))))))) [(4, [], .bool true)]) = true := by kernel_rfl
theorem RbM27_rootok0 : MemoOK (ACall C) (memL [(4, [], .bool true)]) := memL_appW gtC (runL_ok RbM277_ok) memL_nil (N := [(4, [], .bool true)]) (of_forced RbM27_root0)
end
end Go.Proofs.YtfgpfghpciddmaaGreatDoor.rb

namespace Go.Proofs.YtfgpfghpciddmaaGreatDoor.rb
open Rb Go
theorem tellS_len {o : GOut} (h : Fit o) : (tellS o).length ≤ 1123071051 := by
 have hb2 := hexs_len o.bytes
 have hbl := h.small
 have hfew := h.few
 have hf : byS.length = 6 := rfl
 have := nlS_len 22021000 ((byS ++ hexs o.bytes) :: lnsS o.ends 0 o.prints) fun s hs => by
  rcases List.mem_cons.1 hs with rfl | hs
  · simp; omega
  · exact lnsS_mem h 0 o.prints (by omega) (fun _ h => h) s hs
 rw [List.length_cons, lnsS_len] at this
 unfold tellS
 have h2 : (22021000 + 1) * (o.prints.length + 1) ≤ 22021001 * 51 := Nat.mul_le_mul (by omega) (by omega)
 omega
theorem tellOK {o : GOut} (h : Fit o) (H : AH) (Q : Post) (hQ : Q (.str (tellS o)) H) : ACall C K.f6 [.agg o.cells] H Q := by
 refine S.cl_f6 cl_Sh ?_
 unfold S.f6
 simp only [out_box, DoH_some]
 have htl := tellS_len h
 have hfew := h.few
 have hsm := h.small
 have main : ∀ (ys : List (List Int)) (n : Nat) (out : List UInt8), o.prints.drop n = ys → out ++ nlS (lnsS o.ends n ys) = tellS o →
   LoopP (S.f6_l7 (ACall C) (.fptr o.cells) Q) ([.str out, .int .i64 n], H) := by
  intro ys
  induction ys with
  | nil =>
   intro n out hi he
   have hle := drop_nil_le hi
   refine LoopP.step ?_
   simp only [S.f6_l7, sl_zero, sl_succ, out_f1, out_l1, lstA_len', abin_lss, Do_of, Gd_true]
   rw [if_neg (by simp only [decide_eq_true_eq]; omega)]
   have : out = tellS o := by simpa [lnsS, nlS] using he
   rw [this]
   exact hQ
  | cons p ys ih =>
   intro n out hi he
   obtain ⟨hlt, hy, hd⟩ := drop_cons_lt hi
   have hpm : p ∈ o.prints := List.mem_of_getElem? hy
   have hps := h.short p hpm
   have hln := lnS_len h (n := n) (by omega) hpm
   have hit := itoa_short (n := (n : Int)) (by omega) (by omega)
   have hsl : out.length ≤ 1123071051 := by
    have := congrArg List.length he
    rw [List.length_append] at this
    omega
   refine LoopP.step ?_
   simp only [S.f6_l7, sl_zero, sl_succ, out_f1, out_l1, lstA_len', abin_lss, Do_of, Gd_true]
   rw [if_pos (by simp only [decide_eq_true_eq]; omega)]
   refine digitsOK n (by omega) (by omega) ?_
   rw [sadd _ _ (by simp; omega)]
   simp only [Do_of]
   rw [sadd _ _ (by simp; omega)]
   simp only [out_f2, out_l2, lstA_len', abin_lss, Do_of]
   have tail : ∀ (w : List UInt8), w = out ++ (thS ++ Go.Lib.itoa n ++ enS o.ends n) →
     JoinP (S.f6_k4 (ACall C) (.fptr o.cells) ([.str out, .int .i64 n], H) (LoopP (S.f6_l7 (ACall C) (.fptr o.cells) Q)) Q) [.str w] H := by
    intro w hw
    simp only [JoinP_def, S.f6_k4, sl_zero]
    have inner : ∀ (zs : List Int) (i : Nat) (s : List UInt8), p.drop i = zs → s ++ prS zs = out ++ lnS o.ends n p →
      LoopP (S.f6_l3 (ACall C) (.fptr o.cells) ([.str out, .int .i64 n], H) (LoopP (S.f6_l7 (ACall C) (.fptr o.cells) Q)) Q) ([.str s, .int .i64 i], H) := by
     intro zs
     induction zs with
     | nil =>
      intro i s hi2 hs
      have hle := drop_nil_le hi2
      refine LoopP.step ?_
      simp only [S.f6_l3, sl_zero, sl_succ, out_f1, out_l1, Do_of]
      rw [lstA_addr hlt]
      simp only [Do_of]
      rw [pr_load _ hy]
      simp only [Do_of, lstA_len', abin_lss, Gd_true]
      rw [if_neg (by simp only [decide_eq_true_eq]; omega)]
      simp only [JoinP_def, S.f6_k2, sl_zero]
      have hs2 : s = out ++ lnS o.ends n p := by simpa [prS] using hs
      subst hs2
      rw [sadd _ _ (by simp; omega)]
      simp only [Do_of, JoinP_def, S.f6_k1, sl_zero, sl_succ, abin_add]
      rw [wrap_i64 (by omega) (by omega), show ((n : Int) + 1) = ((n + 1 : Nat) : Int) by simp]
      refine ih (n + 1) _ hd ?_
      rw [← he, lnsS]
      unfold nlS
      rw [List.flatMap_cons]
      simp only [List.append_assoc]
     | cons z zs ihz =>
      intro i s hi2 hs
      obtain ⟨hlt2, hy2, hd2⟩ := drop_cons_lt hi2
      have hz := h.nums p hpm z (List.mem_of_getElem? hy2)
      refine LoopP.step ?_
      simp only [S.f6_l3, sl_zero, sl_succ, out_f1, out_l1, Do_of]
      rw [lstA_addr hlt]
      simp only [Do_of]
      rw [pr_load _ hy]
      simp only [Do_of, lstA_len', abin_lss, Gd_true]
      rw [if_pos (by simp only [decide_eq_true_eq]; omega), lstA_addr hlt2]
      simp only [Do_of]
      rw [num_load _ hy2]
      simp only [Do_of]
      obtain ⟨k, rfl⟩ := Int.eq_ofNat_of_zero_le hz.1
      refine greatOK k (by omega) ?_
      have hk := dec_len 20 k (by omega) (by omega)
      have hsl : s.length ≤ 1223071051 := by
       have := congrArg List.length hs
       rw [List.length_append, List.length_append] at this
       omega
      rw [sadd _ _ (by simp; omega)]
      simp only [Do_of]
      rw [sadd _ _ (by simp; omega)]
      simp only [abin_add, Do_of]
      rw [wrap_i64 (by omega) (by omega), show ((i : Int) + 1) = ((i + 1 : Nat) : Int) by simp]
      refine ihz (i + 1) _ hd2 ?_
      rw [← hs, List.append_assoc]
      rfl
    refine inner p 0 w rfl ?_
    rw [hw, List.append_assoc]
    rfl
   have hth : thS = [116, 104, 114, 101, 97, 100, 32] := rfl
   by_cases hn : n < o.ends.length
   · obtain ⟨e, hee⟩ : ∃ e, o.ends[n]? = some e := ⟨_, List.getElem?_eq_getElem hn⟩
     have hE : enS o.ends n = 32 :: endS e := by simp [enS, hee]
     have hnl : decide ((n : Int) < (o.ends.length : Int)) = true := by simp only [decide_eq_true_eq]; omega
     rw [hnl]
     simp only [Gd3_true, if_true]
     rw [lstA_addr hn]
     simp only [Do_of]
     rw [num_load _ hee]
     simp only [abin_eql, Do_of, JoinP_def, S.f6_k6, sl_zero, sl_succ, Gd_true]
     by_cases h1 : e = 1
     · rw [if_pos (by simpa using h1), sadd _ _ (by simp; omega)]
       simp only [Do_of]
       refine tail _ ?_
       rw [hE, endS, if_pos h1]
       simp [hth]
     · rw [if_neg (by simpa using h1)]
       simp only [out_f2, out_l2, lstA_len', abin_lss, Do_of]
       rw [hnl]
       simp only [Gd3_true, if_true]
       rw [lstA_addr hn]
       simp only [Do_of]
       rw [num_load _ hee]
       simp only [abin_eql, Do_of, JoinP_def, S.f6_k5, sl_zero, sl_succ, Gd_true]
       by_cases h2 : e = 2
       · rw [if_pos (by simpa using h2), sadd _ _ (by simp; omega)]
         simp only [Do_of]
         refine tail _ ?_
         rw [hE, endS, if_neg h1, if_pos h2]
         simp [hth]
       · rw [if_neg (by simpa using h2)]
         simp only [out_f2, out_l2, lstA_len', abin_lss, Do_of, Gd_true]
         rw [if_pos hnl, sadd _ _ (by simp; omega)]
         simp only [Do_of]
         refine tail _ ?_
         rw [hE, endS, if_neg h1, if_neg h2]
         simp [hth]
   · have hE : enS o.ends n = [] := by simp [enS, List.getElem?_eq_none (show o.ends.length ≤ n by omega)]
     have hnl : decide ((n : Int) < (o.ends.length : Int)) = false := by simp only [decide_eq_false_iff_not]; omega
     rw [hnl]
     simp only [Gd3_true, Bool.false_eq_true, if_false, JoinP_def, S.f6_k6, sl_zero, sl_succ, Gd_true, out_f2, out_l2, lstA_len', abin_lss, Do_of]
     rw [hnl]
     simp only [Gd3_true, Bool.false_eq_true, if_false, JoinP_def, S.f6_k5, sl_zero, sl_succ, Gd_true, out_f2, out_l2, lstA_len', abin_lss, Do_of]
     rw [hnl]
     simp only [Bool.false_eq_true, if_false]
     refine tail _ ?_
     rw [hE]
     simp [hth]
 have bs : ∀ (ys : List Int) (i : Nat) (s : List UInt8), o.bytes.drop i = ys → s ++ hexs ys = byS ++ hexs o.bytes →
   LoopP (S.f6_l9 (ACall C) (.fptr o.cells) Q) ([.str s, .int .i64 i], H) := by
  intro ys
  induction ys with
  | nil =>
   intro i s hi he
   have hle := drop_nil_le hi
   refine LoopP.step ?_
   simp only [S.f6_l9, sl_zero, sl_succ, out_f0, out_l0, lstA_len', abin_lss, Do_of, Gd_true]
   rw [if_neg (by simp only [decide_eq_true_eq]; omega)]
   have hs : s = byS ++ hexs o.bytes := by simpa [hexs] using he
   have hl := hexs_len o.bytes
   have hf : byS.length = 6 := rfl
   subst hs
   simp only [JoinP_def, S.f6_k8, sl_zero]
   rw [sadd _ _ (by simp; omega)]
   simp only [Do_of]
   refine main o.prints 0 _ rfl ?_
   unfold tellS nlS
   rw [List.flatMap_cons]
  | cons y ys ih =>
   intro i s hi he
   obtain ⟨hlt, hy, hd⟩ := drop_cons_lt hi
   have hyb := h.bytes y (List.mem_of_getElem? hy)
   refine LoopP.step ?_
   simp only [S.f6_l9, sl_zero, sl_succ, out_f0, out_l0, lstA_len', abin_lss, Do_of, Gd_true]
   rw [if_pos (by simp only [decide_eq_true_eq]; omega), lstA_addr hlt]
   simp only [Do_of]
   rw [num_load _ hy]
   simp only [Do_of, aconv_int]
   rw [wrap_u64 (by omega) (by omega)]
   obtain ⟨k, rfl⟩ := Int.eq_ofNat_of_zero_le hyb.1
   refine hexA k (by omega) _ _ ?_
   have hsl : s.length + 2 * (ys.length + 1) = 6 + 2 * o.bytes.length := by
    have := congrArg List.length he
    rw [List.length_append, List.length_append, hexs_len, hexs_len, List.length_cons] at this
    exact this
   have hxl : (hx k).length = 2 := rfl
   rw [sadd _ _ (by omega)]
   simp only [abin_add, Do_of]
   rw [wrap_i64 (by omega) (by omega), show ((i : Int) + 1) = ((i + 1 : Nat) : Int) by simp]
   refine ih (i + 1) _ hd ?_
   rw [← he, List.append_assoc]
   rfl
 exact bs o.bytes 0 byS rfl rfl
theorem awake27 (H : AH) (Q : Post) (hQ : Q (.bool true) H) : ACall C K.f4 [] H Q := RbM27_rootok0 K.f4 [] (.bool true) rfl H Q hQ
theorem cells_froz (o : GOut) : AV.frozs [.agg o.cells] = true := by
 have h1 : ∀ (k : IntKind) (l : List Int), (lstA (i1 k) l).froz = true := fun k l => lstA_froz (fun _ => rfl) l
 have h2 : ∀ p : List Int, AV.frozs (prC p) = true := fun p => by simp [prC, AV.frozs, h1]
 simp [AV.frozs, AV.froz, GOut.cells, h1, lstA_froz h2]
theorem TellV {o : GOut} (h : Fit o) (H : AH) (Q : Post) (hQ : Q (.str (tellS o)) H) : ACall C K.f5 [.agg o.cells] H Q :=
 ACall.frame2 gtC (TellOK h) (cells_froz o) H Q fun u _ hu => by subst hu; exact ⟨rfl, hQ⟩
theorem shellTells.any (o : GOut) (ho : o.ok) (hz : avNs o.cells ≤ 1048576) : ACall C K.f3 [.agg o.cells] AH.mt (fun v _ => v = .bool true) := by
 refine S.cl_f3 cl_Sh ?_
 unfold S.f3
 simp only [out_box, DoH_some, out_f0, out_l0, out_f1, out_l1, lstA_len', abin_gtr, Do_of]
 by_cases h1 : o.bytes.length > 500
 · have e : decide ((o.bytes.length : Int) > 500) = true := by simp only [decide_eq_true_eq]; omega
   rw [e]
   simp only [Gd3_false, if_true, Bool.true_eq_false, if_false, JoinP_def, S.f3_k2, sl_zero, Gd_true]
   exact awake27 _ _ rfl
 · have e : decide ((o.bytes.length : Int) > 500) = false := by simp only [decide_eq_false_iff_not]; omega
   rw [e]
   simp only [Gd3_false, if_true, JoinP_def, S.f3_k2, sl_zero, Gd_true]
   by_cases h2 : o.prints.length > 50
   · rw [if_pos (by simp only [decide_eq_true_eq]; omega)]
     exact awake27 _ _ rfl
   · rw [if_neg (by simp only [decide_eq_true_eq]; omega)]
     have hf : Fit o := ⟨ho, GOut.short hz, by omega, by omega⟩
     simp only [S.f3_k1]
     refine awake27 _ _ ?_
     simp only [Gd3_true, if_true, out_all, Do_of]
     refine TellV hf _ _ ?_
     refine ⟨fun _ => trivial, tellOK hf _ _ ?_⟩
     simp only [seql, Do_of, beq_self_eq_true]
end Go.Proofs.YtfgpfghpciddmaaGreatDoor.rb
