/- A part of the proof (part 5): see the last text. -/
import Derived.Test.YtjnhnoldfbkgmaaGreatDoorRb4
import Derived.Test.YtjnhnoldfbkgmaaGreatDoorRb2
import Derived.KernelRfl
import Derived.LaidLaws
import Derived.LaidHandle
import Derived.Lib.LaidU8
import Derived.Deep.DeepLaidRun
import Derived.Handed
import Derived.JoinedOf
import Derived.SevenTiedAt
import Derived.ProofKit
import Derived.Lib.Space
import Derived.ChangeArms
import Derived.SizedLaws
import Derived.Test.YtjnhnoldfbkgmaaGreatDoorRb3
import Derived.Below
import Derived.BigRegionIn
import Derived.OwnWalkIn
import Derived.Lib.DecodeN
set_option linter.unusedVariables false
set_option linter.unusedSimpArgs false
set_option linter.unusedSectionVars false
namespace Go.Proofs.YtjnhnoldfbkgmaaGreatDoor.rb
open Rb
noncomputable section
def RbM180 : List (Nat × List AV × AV) := [
  (101, [.str [118,97,114,32,116,104,114,101,97,100,32,115,116,114,117,99,116,32,117,110,105,111,110,32,112,97,99,107,101,100,32,117,56,32,117,49,54,32,117,51,50,32,117,54,52,32,97,56,32,97,49,54,32,97,51,50,32,97,54,52,32,97,49,50,56,32,108,101,116,32,115,101,116,32,119,114,105,116,101,32,115,116,111,114,101,32,108,111,97,100,50,32,115,116,111,114,101,50,32,102,101,110,99,101,32,105,102,32,101,108,115,101,32,119,104,105,108,101,32,112,114,105,110,116,32,114,101,97,100,32,108,111,97,100,32,97,100,100,32,115,119,97,112,32,99,97,115,32,114,108,120,32,97,99,113,32,114,101,108,32,115,99]], .lst .dead 34 [.str [118,97,114],.str [116,104,114,101,97,100],.str [115,116,114,117,99,116],.str [117,110,105,111,110],.str [112,97,99,107,101,100],.str [117,56],.str [117,49,54],.str [117,51,50],.str [117,54,52],.str [97,56],.str [97,49,54],.str [97,51,50],.str [97,54,52],.str [97,49,50,56],.str [108,101,116],.str [115,101,116],.str [119,114,105,116,101],.str [115,116,111,114,101],.str [108,111,97,100,50],.str [115,116,111,114,101,50],.str [102,101,110,99,101],.str [105,102],.str [101,108,115,101],.str [119,104,105,108,101],.str [112,114,105,110,116],.str [114,101,97,100],.str [108,111,97,100],.str [97,100,100],.str [115,119,97,112],.str [99,97,115],.str [114,108,120],.str [97,99,113],.str [114,101,108],.str [115,99]]),
  (136, [.lst .dead 34 [.str [118,97,114],.str [116,104,114,101,97,100],.str [115,116,114,117,99,116],.str [117,110,105,111,110],.str [112,97,99,107,101,100],.str [117,56],.str [117,49,54],.str [117,51,50],.str [117,54,52],.str [97,56],.str [97,49,54],.str [97,51,50],.str [97,54,52],.str [97,49,50,56],.str [108,101,116],.str [115,101,116],.str [119,114,105,116,101],.str [115,116,111,114,101],.str [108,111,97,100,50],.str [115,116,111,114,101,50],.str [102,101,110,99,101],.str [105,102],.str [101,108,115,101],.str [119,104,105,108,101],.str [112,114,105,110,116],.str [114,101,97,100],.str [108,111,97,100],.str [97,100,100],.str [115,119,97,112],.str [99,97,115],.str [114,108,120],.str [97,99,113],.str [114,101,108],.str [115,99]],.str [120]], .int .i64 (.negSucc 0)),
  (196, [.agg [.int .i64 (.ofNat 1),.int .i64 (.ofNat 4),.bool false,.lst .dead 0 [],.int .i64 (.ofNat 0),.lst .dead 0 []]], .int .i64 (.ofNat 0)),
  (61, [.int .u8 (.ofNat 100)], .agg [.int .i64 (.ofNat 0),.int .i64 (.ofNat 5),.bool false,.int .u32 (.ofNat 0),.int .i64 (.ofNat 31)]),
  (64, [.agg [.int .i64 (.ofNat 0),.int .i64 (.ofNat 5),.bool false,.int .u32 (.ofNat 0),.int .i64 (.ofNat 31)]], .int .u32 (.ofNat 31)),
  (61, [.int .u8 (.ofNat 105)], .agg [.int .i64 (.ofNat 5),.int .i64 (.ofNat 16),.bool false,.int .u32 (.ofNat 0),.int .i64 (.ofNat 65535)]),
  (64, [.agg [.int .i64 (.ofNat 5),.int .i64 (.ofNat 16),.bool false,.int .u32 (.ofNat 0),.int .i64 (.ofNat 65535)]], .int .u32 (.ofNat 2097120)),
  (61, [.int .u8 (.ofNat 113)], .agg [.int .i64 (.ofNat 21),.int .i64 (.ofNat 2),.bool false,.int .u32 (.ofNat 0),.int .i64 (.ofNat 3)]),
  (64, [.agg [.int .i64 (.ofNat 21),.int .i64 (.ofNat 2),.bool false,.int .u32 (.ofNat 0),.int .i64 (.ofNat 3)]], .int .u32 (.ofNat 6291456)),
  (95, [.agg [.int .i64 (.ofNat 0),.int .i64 (.ofNat 5),.bool false,.int .u32 (.ofNat 0),.int .i64 (.ofNat 31)],.int .i64 (.ofNat 1)], .bool true),
  (64, [.agg [.int .i64 (.ofNat 5),.int .i64 (.ofNat 5),.bool false,.int .u32 (.ofNat 0),.int .i64 (.ofNat 30)]], .int .u32 (.ofNat 992)),
  (61, [.int .u8 (.ofNat 115)], .agg [.int .i64 (.ofNat 30),.int .i64 (.ofNat 2),.bool false,.int .u32 (.ofNat 0),.int .i64 (.ofNat 3)]),
  (64, [.agg [.int .i64 (.ofNat 30),.int .i64 (.ofNat 2),.bool false,.int .u32 (.ofNat 0),.int .i64 (.ofNat 3)]], .int .u32 (.ofNat 3221225472)),
  (64, [.agg [.int .i64 (.ofNat 5),.int .i64 (.ofNat 5),.bool false,.int .u32 (.ofNat 0),.int .i64 (.ofNat 31)]], .int .u32 (.ofNat 992)),
  (61, [.int .u8 (.ofNat 109)], .agg [.int .i64 (.ofNat 16),.int .i64 (.ofNat 5),.bool false,.int .u32 (.ofNat 0),.int .i64 (.ofNat 31)]),
  (64, [.agg [.int .i64 (.ofNat 16),.int .i64 (.ofNat 5),.bool false,.int .u32 (.ofNat 0),.int .i64 (.ofNat 31)]], .int .u32 (.ofNat 2031616)),
  (95, [.agg [.int .i64 (.ofNat 16),.int .i64 (.ofNat 5),.bool false,.int .u32 (.ofNat 0),.int .i64 (.ofNat 31)],.int .i64 (.ofNat 0)], .bool true)]
def RbM181 : List (Nat × List AV × AV) := [
  (29, [.str [118,97,114,32,120,32,117,51,50,32,59,32,116,104,114,101,97,100,32,123,32,119,114,105,116,101,32,120,32,61,32,53,49,51,32,59,32,112,114,105,110,116,32,57,32,59,32,125]], .tup [.agg [.lst .dead 1 [.str [120],.int .i64 (.ofNat 1),.int .i64 (.ofNat 4),.bool false,.lst .dead 0 [],.int .i64 (.ofNat 0),.lst .dead 0 []],.lst .dead 1 [.lst .dead 2 [.int .i64 (.ofNat 3),.int .i64 (.ofNat 1),.str [],.str [],.int .i64 (.ofNat 0),.str [120],.lst .dead 0 [],.lst .dead 1 [.int .i64 (.ofNat 1),.int .u64 (.ofNat 513),.str [],.int .i64 (.ofNat 0),.int .i64 (.ofNat 0),.str [],.lst .dead 0 [],.lst .dead 0 []],.lst .dead 0 [],.lst .dead 0 [],.int .i64 (.ofNat 10),.int .i64 (.ofNat 1),.str [],.str [],.int .i64 (.ofNat 0),.str [],.lst .dead 0 [],.lst .dead 1 [.int .i64 (.ofNat 1),.int .u64 (.ofNat 9),.str [],.int .i64 (.ofNat 0),.int .i64 (.ofNat 0),.str [],.lst .dead 0 [],.lst .dead 0 []],.lst .dead 0 [],.lst .dead 0 []]]],.agg [.int .i64 (.ofNat 0),.int .i64 (.ofNat 0)]]),
  (57, [.agg [.lst .dead 1 [.str [120],.int .i64 (.ofNat 1),.int .i64 (.ofNat 4),.bool false,.lst .dead 0 [],.int .i64 (.ofNat 0),.lst .dead 0 []],.lst .dead 1 [.lst .dead 2 [.int .i64 (.ofNat 3),.int .i64 (.ofNat 1),.str [],.str [],.int .i64 (.ofNat 0),.str [120],.lst .dead 0 [],.lst .dead 1 [.int .i64 (.ofNat 1),.int .u64 (.ofNat 513),.str [],.int .i64 (.ofNat 0),.int .i64 (.ofNat 0),.str [],.lst .dead 0 [],.lst .dead 0 []],.lst .dead 0 [],.lst .dead 0 [],.int .i64 (.ofNat 10),.int .i64 (.ofNat 1),.str [],.str [],.int .i64 (.ofNat 0),.str [],.lst .dead 0 [],.lst .dead 1 [.int .i64 (.ofNat 1),.int .u64 (.ofNat 9),.str [],.int .i64 (.ofNat 0),.int .i64 (.ofNat 0),.str [],.lst .dead 0 [],.lst .dead 0 []],.lst .dead 0 [],.lst .dead 0 []]]]], .agg [.int .i64 (.ofNat 0),.int .i64 (.ofNat 0)]),
  (65, [.agg [.int .i64 (.ofNat 1),.int .i64 (.ofNat 28),.int .i64 (.ofNat 0),.int .i64 (.ofNat 0),.int .i64 (.ofNat 0),.int .i64 (.ofNat 0),.int .i64 (.ofNat 16)]], .tup [.int .u32 (.ofNat 3531604508),.int .i64 (.ofNat 0)]),
  (65, [.agg [.int .i64 (.ofNat 2),.int .i64 (.ofNat 28),.int .i64 (.ofNat 0),.int .i64 (.ofNat 0),.int .i64 (.ofNat 1),.int .i64 (.ofNat 0),.int .i64 (.ofNat 1)]], .tup [.int .u32 (.ofNat 4070572092),.int .i64 (.ofNat 0)]),
  (65, [.agg [.int .i64 (.ofNat 1),.int .i64 (.ofNat 0),.int .i64 (.ofNat 0),.int .i64 (.ofNat 0),.int .i64 (.ofNat 0),.int .i64 (.ofNat 0),.int .i64 (.ofNat 513)]], .tup [.int .u32 (.ofNat 3531620384),.int .i64 (.ofNat 0)]),
  (65, [.agg [.int .i64 (.ofNat 1),.int .i64 (.ofNat 1),.int .i64 (.ofNat 0),.int .i64 (.ofNat 0),.int .i64 (.ofNat 1),.int .i64 (.ofNat 0),.int .i64 (.ofNat 1)]], .tup [.int .u32 (.ofNat 3533701153),.int .i64 (.ofNat 0)]),
  (65, [.agg [.int .i64 (.ofNat 18),.int .i64 (.ofNat 0),.int .i64 (.ofNat 1),.int .i64 (.ofNat 0),.int .i64 (.ofNat 0),.int .i64 (.ofNat 2),.int .i64 (.ofNat 0)]], .tup [.int .u32 (.ofNat 3103784992),.int .i64 (.ofNat 0)]),
  (65, [.agg [.int .i64 (.ofNat 1),.int .i64 (.ofNat 0),.int .i64 (.ofNat 0),.int .i64 (.ofNat 0),.int .i64 (.ofNat 0),.int .i64 (.ofNat 0),.int .i64 (.ofNat 9)]], .tup [.int .u32 (.ofNat 3531604256),.int .i64 (.ofNat 0)]),
  (62, [.agg [.int .i64 (.ofNat 0),.int .i64 (.ofNat 5),.bool false,.int .u32 (.ofNat 0),.int .i64 (.ofNat 31)],.int .u8 (.ofNat 100),.int .u32 (.ofNat 3103784992)], .tup [.int .i64 (.ofNat 0),.bool true]),
  (62, [.agg [.int .i64 (.ofNat 0),.int .i64 (.ofNat 5),.bool false,.int .u32 (.ofNat 0),.int .i64 (.ofNat 31)],.int .u8 (.ofNat 100),.int .u32 (.ofNat 3556769825)], .tup [.int .i64 (.ofNat 1),.bool true]),
  (62, [.agg [.int .i64 (.ofNat 5),.int .i64 (.ofNat 5),.bool false,.int .u32 (.ofNat 0),.int .i64 (.ofNat 30)],.int .u8 (.ofNat 97),.int .u32 (.ofNat 3556769825)], .tup [.int .i64 (.ofNat 1),.bool true]),
  (62, [.agg [.int .i64 (.ofNat 0),.int .i64 (.ofNat 5),.bool false,.int .u32 (.ofNat 0),.int .i64 (.ofNat 31)],.int .u8 (.ofNat 100),.int .u32 (.ofNat 3556769793)], .tup [.int .i64 (.ofNat 1),.bool true]),
  (62, [.agg [.int .i64 (.ofNat 5),.int .i64 (.ofNat 5),.bool false,.int .u32 (.ofNat 0),.int .i64 (.ofNat 30)],.int .u8 (.ofNat 97),.int .u32 (.ofNat 3556769793)], .tup [.int .i64 (.ofNat 0),.bool true])]
def RbM182 : List (Nat × List AV × AV) := [
  (30, [.agg [.lst .dead 1 [.str [120],.int .i64 (.ofNat 1),.int .i64 (.ofNat 4),.bool false,.lst .dead 0 [],.int .i64 (.ofNat 0),.lst .dead 0 []],.lst .dead 1 [.lst .dead 2 [.int .i64 (.ofNat 3),.int .i64 (.ofNat 1),.str [],.str [],.int .i64 (.ofNat 0),.str [120],.lst .dead 0 [],.lst .dead 1 [.int .i64 (.ofNat 1),.int .u64 (.ofNat 513),.str [],.int .i64 (.ofNat 0),.int .i64 (.ofNat 0),.str [],.lst .dead 0 [],.lst .dead 0 []],.lst .dead 0 [],.lst .dead 0 [],.int .i64 (.ofNat 10),.int .i64 (.ofNat 1),.str [],.str [],.int .i64 (.ofNat 0),.str [],.lst .dead 0 [],.lst .dead 1 [.int .i64 (.ofNat 1),.int .u64 (.ofNat 9),.str [],.int .i64 (.ofNat 0),.int .i64 (.ofNat 0),.str [],.lst .dead 0 [],.lst .dead 0 []],.lst .dead 0 [],.lst .dead 0 []]]]], .tup [.agg [.lst .dead 1 [.lst .dead 8 [.int .u32 (.ofNat 3531604508),.int .u32 (.ofNat 4070572092),.int .u32 (.ofNat 3531620384),.int .u32 (.ofNat 3533701153),.int .u32 (.ofNat 3103784992),.int .u32 (.ofNat 3531604256),.int .u32 (.ofNat 3556769825),.int .u32 (.ofNat 3556769793)]],.lst .dead 1 [.lst .dead 8 [.int .i64 (.ofNat 0),.int .i64 (.ofNat 0),.int .i64 (.ofNat 0),.int .i64 (.ofNat 0),.int .i64 (.ofNat 0),.int .i64 (.ofNat 0),.int .i64 (.ofNat 0),.int .i64 (.ofNat 0),.int .i64 (.ofNat 1),.int .i64 (.ofNat 0),.int .i64 (.ofNat 0),.int .i64 (.ofNat 1),.int .i64 (.ofNat 0),.int .i64 (.ofNat 1),.int .i64 (.ofNat 1),.int .i64 (.ofNat 0),.int .i64 (.ofNat 0),.int .i64 (.ofNat 1),.int .i64 (.ofNat 0),.int .i64 (.ofNat 0),.int .i64 (.ofNat 1),.int .i64 (.ofNat 0),.int .i64 (.ofNat 0),.int .i64 (.ofNat 1)]],.lst .dead 1 [.str [120],.int .i64 (.ofNat 65536),.int .i64 (.ofNat 4)],.int .i64 (.ofNat 4)],.agg [.int .i64 (.ofNat 0),.int .i64 (.ofNat 0)]])]
def RbM183 : List (Nat × List AV × AV) := [
  (5, [], .bool true)]
theorem RbM180_run : forced (allW (runG []) RbM180) = true := by kernel_rfl
theorem RbM180_ok : MemoOK (ACall C) (memL (RbM180 ++ [])) := memL_appW gtC (runG_ok memL_nil) memL_nil (of_forced RbM180_run)
theorem RbM181_run : forced (allW (runG (RbM180 ++ [])) RbM181) = true := by kernel_rfl
theorem RbM181_ok : MemoOK (ACall C) (memL (RbM181 ++ (RbM180 ++ []))) := memL_appW gtC (runG_ok RbM180_ok) RbM180_ok (of_forced RbM181_run)
theorem RbM182_run : forced (allW (runG (RbM181 ++ (RbM180 ++ []))) RbM182) = true := by kernel_rfl
theorem RbM182_ok : MemoOK (ACall C) (memL (RbM182 ++ (RbM181 ++ (RbM180 ++ [])))) := memL_appW gtC (runG_ok RbM181_ok) RbM181_ok (of_forced RbM182_run)
theorem RbM183_run : forced (allW (runG (RbM182 ++ (RbM181 ++ (RbM180 ++ [])))) RbM183) = true := by kernel_rfl
theorem RbM183_ok : MemoOK (ACall C) (memL (RbM183 ++ (RbM182 ++ (RbM181 ++ (RbM180 ++ []))))) := memL_appW gtC (runG_ok RbM182_ok) RbM182_ok (of_forced RbM183_run)
theorem RbM18_root0 : forced (allW (runG (RbM183 ++ (RbM182 ++ (RbM181 ++ (RbM180 ++ []))))) [(5, [], .bool true)]) = true := by kernel_rfl
theorem RbM18_rootok0 : MemoOK (ACall C) (memL [(5, [], .bool true)]) := memL_appW gtC (runG_ok RbM183_ok) memL_nil (N := [(5, [], .bool true)]) (of_forced RbM18_root0)
end
end Go.Proofs.YtjnhnoldfbkgmaaGreatDoor.rb

namespace Rb.K
abbrev f3 : Nat := 3
abbrev f4 : Nat := 4
abbrev f5 : Nat := 5
abbrev f6 : Nat := 6
abbrev f7 : Nat := 7
abbrev f8 : Nat := 8
abbrev f9 : Nat := 9
abbrev f10 : Nat := 10
abbrev f13 : Nat := 13
abbrev f14 : Nat := 14
abbrev f15 : Nat := 15
abbrev f16 : Nat := 16
abbrev f17 : Nat := 17
abbrev f18 : Nat := 18
abbrev f19 : Nat := 19
abbrev f20 : Nat := 20
abbrev f21 : Nat := 21
abbrev f22 : Nat := 22
abbrev f23 : Nat := 23
abbrev f24 : Nat := 24
abbrev f25 : Nat := 25
abbrev f26 : Nat := 26
abbrev f27 : Nat := 27
abbrev f28 : Nat := 28
abbrev f31 : Nat := 31
abbrev f32 : Nat := 32
abbrev f33 : Nat := 33
abbrev f34 : Nat := 34
abbrev f35 : Nat := 35
abbrev f36 : Nat := 36
abbrev f37 : Nat := 37
abbrev f38 : Nat := 38
abbrev f39 : Nat := 39
abbrev f40 : Nat := 40
abbrev f41 : Nat := 41
abbrev f42 : Nat := 42
abbrev f43 : Nat := 43
abbrev f44 : Nat := 44
abbrev f45 : Nat := 45
abbrev f46 : Nat := 46
abbrev f47 : Nat := 47
abbrev f48 : Nat := 48
abbrev f49 : Nat := 49
abbrev f60 : Nat := 60
abbrev f61 : Nat := 61
abbrev f62 : Nat := 62
abbrev f63 : Nat := 63
abbrev f64 : Nat := 64
abbrev f65 : Nat := 65
abbrev f66 : Nat := 66
abbrev f67 : Nat := 67
abbrev f68 : Nat := 68
abbrev f69 : Nat := 69
abbrev f70 : Nat := 70
abbrev f71 : Nat := 71
abbrev f93 : Nat := 93
abbrev f94 : Nat := 94
abbrev f95 : Nat := 95
abbrev f96 : Nat := 96
abbrev f97 : Nat := 97
abbrev f98 : Nat := 98
abbrev f130 : Nat := 130
abbrev f296 : Nat := 296
end Rb.K

namespace Rb.S
open Go
def f3_k1 (Φ : Calls') (s17 : List AV × AH) (L18 : (List AV × AH) → Prop) (Q : Post) : List AV → AH → Prop := fun j21 H22 =>
 Do (abin .add (sl s17.1 0) (.int .i64 1)) fun x35 =>
 L18 ([x35], H22)
def f3_k2 (Φ : Calls') (s17 : List AV × AH) (L18 : (List AV × AH) → Prop) (Q : Post) : List AV → AH → Prop := fun j23 H24 =>
 Gd (sl j23 0) true (
Φ K.f5 [] H24 fun x33 H34 =>
 Q x33 H34) (
 JoinP (f3_k1 Φ s17 L18 Q) [] H24)
def f3_k3 (Φ : Calls') (x40 : AV) (Q : Post) : List AV → AH → Prop := fun j58 H59 =>
 Gd3 (sl j58 0) true (
 Do (abin .neq x40 (.int .i64 0)) fun x63 =>
 Q x63 H59) (
 Q (.bool false) H59) (
 False)
def f3_k4 (Φ : Calls') (Q : Post) : List AV → AH → Prop := fun j122 H123 =>
Φ K.f5 [] H123 fun x145 H146 =>
 Q x145 H146
def f3_l5 (Φ : Calls') (x39 x90 : AV) (Q : Post) : (List AV × AH) → ((List AV × AH) → Prop) → Prop := fun s124 L125 =>
 Do (afaddr 2 x90) fun x126 =>
 Do (aload s124.2 1 false x126) fun x127 =>
 Do (alen false x127) fun x128 =>
 Do (abin .lss (sl s124.1 0) x128) fun x129 =>
 Gd x129 true (
Φ K.f10 [x39, (sl s124.1 0), (.bool false)] s124.2 fun x130 H131 =>
 Do (aextract 0 x130) fun x132 =>
 Do (aextract 1 x130) fun x133 =>
 DoH (some (abox H131 true [.bool false, .bool false, .int .i64 0, .int .i64 0, .bool false, .bool false, .bool false, .int .u64 0, .int .u64 0, .bool false, .int .u64 0, .int .u64 0, .int .i64 0, .int .i64 0, .int .i64 0])) fun x134 H135 =>
 Do (astore H135 15 x134 x132) fun H136 =>
 Do (abin .eql x133 (.int .i64 15)) fun x137 =>
 Do (afaddr 2 x90) fun x138 =>
 Do (aload H136 1 false x138) fun x139 =>
 Do (aiaddr none 1 x139 (sl s124.1 0)) fun x140 =>
 Do (aload H136 1 false x140) fun x141 =>
 Do (abin .neq x141 (.int .i64 0)) fun x142 =>
 Do (abeq true x137 x142) fun x143 =>
 Gd x143 true (
 Q (.bool false) H136) (
 Do (abin .add (sl s124.1 0) (.int .i64 1)) fun x144 =>
 L125 ([x144], H136))) (
 JoinP (f3_k4 Φ Q) [] s124.2)
def f3_k6 (Φ : Calls') (x39 x90 : AV) (Q : Post) : List AV → AH → Prop := fun j96 H97 =>
 LoopP (f3_l5 Φ x39 x90 Q) ([(.int .i64 0)], H97)
def f3_k7 (Φ : Calls') (x39 x90 : AV) (Q : Post) : List AV → AH → Prop := fun j98 H99 =>
 Gd (sl j98 0) true (
 Q (.bool false) H99) (
 JoinP (f3_k6 Φ x39 x90 Q) [] H99)
def f3_k8 (Φ : Calls') (x39 x90 x92 : AV) (Q : Post) : List AV → AH → Prop := fun j104 H105 =>
 Gd3 (sl j104 0) false (
 Do (afaddr 2 x90) fun x115 =>
 Do (aload H105 1 false x115) fun x116 =>
 Do (afaddr 2 x92) fun x117 =>
 Do (aload H105 1 false x117) fun x118 =>
Φ K.f9 [x116, x118] H105 fun x119 H120 =>
 Do (aun .not x119) fun x121 =>
 JoinP (f3_k7 Φ x39 x90 Q) [x121] H120) (
 JoinP (f3_k7 Φ x39 x90 Q) [(.bool true)] H105) (
 False)
def f3_k9 (Φ : Calls') (x39 x90 x92 : AV) (Q : Post) : List AV → AH → Prop := fun j100 H101 =>
 Gd3 (sl j100 0) false (
 Do (afaddr 0 x90) fun x106 =>
 Do (aload H101 1 false x106) fun x107 =>
 Do (abstr H101 x107) fun x108 =>
 Do (afaddr 0 x92) fun x110 =>
 Do (aload H101 1 false x110) fun x111 =>
 Do (abstr H101 x111) fun x112 =>
 Do (abin .neq x108 x112) fun x114 =>
 JoinP (f3_k8 Φ x39 x90 x92 Q) [x114] H101) (
 JoinP (f3_k8 Φ x39 x90 x92 Q) [(.bool true)] H101) (
 False)
def f3_k10 (Φ : Calls') (x39 x44 x66 x67 : AV) (Q : Post) : List AV → AH → Prop := fun j77 H78 =>
Φ K.f8 [x39] H78 fun x86 H87 =>
Φ K.f8 [x44] H87 fun x88 H89 =>
 DoH (some (abox H89 true [.lst .nil 0 [], .lst .nil 0 [], .lst .nil 0 []])) fun x90 H91 =>
 DoH (some (abox H91 true [.lst .nil 0 [], .lst .nil 0 [], .lst .nil 0 []])) fun x92 H93 =>
 Do (astore H93 3 x90 x86) fun H94 =>
 Do (astore H94 3 x92 x88) fun H95 =>
 Do (abin .neq x66 (sl j77 0)) fun x102 =>
 Gd3 x102 false (
 Do (abin .neq x67 (sl j77 1)) fun x103 =>
 JoinP (f3_k9 Φ x39 x90 x92 Q) [x103] H95) (
 JoinP (f3_k9 Φ x39 x90 x92 Q) [(.bool true)] H95) (
 False)
def f3_k11 (Φ : Calls') (a1 a2 x39 x44 : AV) (Q : Post) : List AV → AH → Prop := fun j46 H47 =>
Φ K.f7 [x39, a1] H47 fun x64 H65 =>
 Do (aextract 0 x64) fun x66 =>
 Do (aextract 1 x64) fun x67 =>
 Do (aconv .i64 a2) fun x68 =>
 Do (alen false a1) fun x69 =>
 Do (abin .add x69 (.int .i64 1)) fun x70 =>
 Do (abin .rem x68 x70) fun x71 =>
 Do (aslice 3 a1 none (some x71) none) fun x72 =>
Φ K.f7 [x44, x72] H65 fun x73 H74 =>
 Do (aextract 0 x73) fun x75 =>
 Do (aextract 1 x73) fun x76 =>
 Do (abin .eql x76 (.int .i64 0)) fun x79 =>
 Gd x79 true (
 Do (aslice 3 a1 (some x71) none none) fun x80 =>
Φ K.f7 [x44, x80] H74 fun x81 H82 =>
 Do (aextract 0 x81) fun x83 =>
 Do (aextract 1 x81) fun x84 =>
 Do (abin .add x75 x83) fun x85 =>
 JoinP (f3_k10 Φ x39 x44 x66 x67 Q) [x85, x84] H82) (
 JoinP (f3_k10 Φ x39 x44 x66 x67 Q) [x75, x76] H74)
def f3_k12 (Φ : Calls') (a1 a2 x39 x40 x44 x45 : AV) (Q : Post) : List AV → AH → Prop := fun j48 H49 =>
 Gd (sl j48 0) true (
Φ K.f5 [] H49 fun x60 H61 =>
 Gd3 x60 true (
 Do (abin .eql x40 x45) fun x62 =>
 JoinP (f3_k3 Φ x40 Q) [x62] H61) (
 JoinP (f3_k3 Φ x40 Q) [(.bool false)] H61) (
 False)) (
 JoinP (f3_k11 Φ a1 a2 x39 x44 Q) [] H49)
def f3_k13 (Φ : Calls') (a1 a2 x39 x40 x44 x45 : AV) (Q : Post) : List AV → AH → Prop := fun j54 H55 =>
 Gd3 (sl j54 0) false (
 Do (anil .p false x44) fun x57 =>
 JoinP (f3_k12 Φ a1 a2 x39 x40 x44 x45 Q) [x57] H55) (
 JoinP (f3_k12 Φ a1 a2 x39 x40 x44 x45 Q) [(.bool true)] H55) (
 False)
def f3_k14 (Φ : Calls') (a1 a2 x39 x40 x44 x45 : AV) (Q : Post) : List AV → AH → Prop := fun j50 H51 =>
 Gd3 (sl j50 0) false (
 Do (anil .p false x39) fun x56 =>
 JoinP (f3_k13 Φ a1 a2 x39 x40 x44 x45 Q) [x56] H51) (
 JoinP (f3_k13 Φ a1 a2 x39 x40 x44 x45 Q) [(.bool true)] H51) (
 False)
def f3_k15 (Φ : Calls') (a1 a2 x1 : AV) (Q : Post) : List AV → AH → Prop := fun j15 H16 =>
 Do (aload H16 4 true x1) fun x36 =>
Φ K.f6 [x36] H16 fun x37 H38 =>
 Do (aextract 0 x37) fun x39 =>
 Do (aextract 1 x37) fun x40 =>
 Do (aload H38 4 true x1) fun x41 =>
Φ K.f6 [x41] H38 fun x42 H43 =>
 Do (aextract 0 x42) fun x44 =>
 Do (aextract 1 x42) fun x45 =>
 Do (abin .neq x40 (.int .i64 0)) fun x52 =>
 Gd3 x52 false (
 Do (abin .neq x45 (.int .i64 0)) fun x53 =>
 JoinP (f3_k14 Φ a1 a2 x39 x40 x44 x45 Q) [x53] H43) (
 JoinP (f3_k14 Φ a1 a2 x39 x40 x44 x45 Q) [(.bool true)] H43) (
 False)
def f3_l16 (Φ : Calls') (a1 a2 x1 : AV) (Q : Post) : (List AV × AH) → ((List AV × AH) → Prop) → Prop := fun s17 L18 =>
 Do (alen false a1) fun x19 =>
 Do (abin .lss (sl s17.1 0) x19) fun x20 =>
 Gd x20 true (
 Do (aiaddr none 3 a1 (sl s17.1 0)) fun x25 =>
 Do (afaddr 1 x25) fun x26 =>
 Do (aload s17.2 1 false x26) fun x27 =>
 Do (abin .gtr x27 (.int .i64 200)) fun x28 =>
 Gd3 x28 false (
 Do (aiaddr none 3 a1 (sl s17.1 0)) fun x29 =>
 Do (afaddr 2 x29) fun x30 =>
 Do (aload s17.2 1 false x30) fun x31 =>
 Do (abin .gtr x31 (.int .i64 200)) fun x32 =>
 JoinP (f3_k2 Φ s17 L18 Q) [x32] s17.2) (
 JoinP (f3_k2 Φ s17 L18 Q) [(.bool true)] s17.2) (
 False)) (
 JoinP (f3_k15 Φ a1 a2 x1 Q) [] s17.2)
def f3_k17 (Φ : Calls') (a1 a2 x1 : AV) (Q : Post) : List AV → AH → Prop := fun j3 H4 =>
 LoopP (f3_l16 Φ a1 a2 x1 Q) ([(.int .i64 0)], H4)
def f3_k18 (Φ : Calls') (a1 a2 x1 : AV) (Q : Post) : List AV → AH → Prop := fun j5 H6 =>
 Gd (sl j5 0) true (
Φ K.f5 [] H6 fun x13 H14 =>
 Q x13 H14) (
 JoinP (f3_k17 Φ a1 a2 x1 Q) [] H6)
def f3 (Φ : Calls') (a0 a1 a2 : AV) (H : AH) (Q : Post) : Prop :=
 DoH (aboxv H false 4 a0) fun x1 H2 =>
 Do (aload H2 4 true x1) fun x7 =>
Φ K.f4 [x7] H2 fun x8 H9 =>
 Do (aun .not x8) fun x10 =>
 Gd3 x10 false (
 Do (alen false a1) fun x11 =>
 Do (abin .gtr x11 (.int .i64 12)) fun x12 =>
 JoinP (f3_k18 Φ a1 a2 x1 Q) [x12] H9) (
 JoinP (f3_k18 Φ a1 a2 x1 Q) [(.bool true)] H9) (
 False)
noncomputable def ir_f3 : AFunc := decF Go.Proofs.YtjnhnoldfbkgmaaGreatDoor.rb.C ⟨3,[19,20,22],[[7],[21]],none,[],[]⟩
theorem eq_f3 (Φ : Calls') (a0 a1 a2 : AV) (H : AH) (Q : Post) : fnE1 Φ ir_f3 [a0, a1, a2] H Q = f3 Φ a0 a1 a2 H Q := by kernel_rfl
def f4_k1 (Φ : Calls') (x1 : AV) (s5 : List AV × AH) (L6 : (List AV × AH) → Prop) (Q : Post) : List AV → AH → Prop := fun j7 H8 =>
 Do (afaddr 0 x1) fun x16 =>
 Do (aload H8 1 false x16) fun x17 =>
 Do (aiaddr none 1 x17 (sl s5.1 1)) fun x18 =>
 Do (aload H8 1 false x18) fun x19 =>
 Do (alen false x19) fun x20 =>
 Do (abin .add (sl s5.1 0) x20) fun x21 =>
 Do (abin .add (sl s5.1 1) (.int .i64 1)) fun x22 =>
 L6 ([x21, x22], H8)
def f4_k2 (Φ : Calls') (Q : Post) : List AV → AH → Prop := fun j3 H4 =>
 Do (abin .leq (sl j3 0) (.int .i64 5000)) fun x23 =>
 Q x23 H4
def f4_k3 (Φ : Calls') (x1 : AV) (s5 : List AV × AH) (L6 : (List AV × AH) → Prop) (Q : Post) : List AV → AH → Prop := fun j9 H10 =>
 Gd (sl j9 0) true (
 JoinP (f4_k1 Φ x1 s5 L6 Q) [] H10) (
 JoinP (f4_k2 Φ Q) [(sl s5.1 0)] H10)
def f4_l4 (Φ : Calls') (x1 : AV) (Q : Post) : (List AV × AH) → ((List AV × AH) → Prop) → Prop := fun s5 L6 =>
 Do (afaddr 0 x1) fun x11 =>
 Do (aload s5.2 1 false x11) fun x12 =>
 Do (alen false x12) fun x13 =>
 Do (abin .lss (sl s5.1 1) x13) fun x14 =>
 Gd3 x14 true (
 Do (abin .lss (sl s5.1 1) (.int .i64 20)) fun x15 =>
 JoinP (f4_k3 Φ x1 s5 L6 Q) [x15] s5.2) (
 JoinP (f4_k3 Φ x1 s5 L6 Q) [(.bool false)] s5.2) (
 False)
def f4 (Φ : Calls') (a0 : AV) (H : AH) (Q : Post) : Prop :=
 DoH (aboxv H false 4 a0) fun x1 H2 =>
 LoopP (f4_l4 Φ x1 Q) ([(.int .i64 0), (.int .i64 0)], H2)
noncomputable def ir_f4 : AFunc := decF Go.Proofs.YtjnhnoldfbkgmaaGreatDoor.rb.C ⟨4,[],[[3,4]],none,[],[]⟩
theorem eq_f4 (Φ : Calls') (a0 : AV) (H : AH) (Q : Post) : fnE1 Φ ir_f4 [a0] H Q = f4 Φ a0 H Q := by kernel_rfl
def f6_k1 (Φ : Calls') (s56 : List AV × AH) (L57 : (List AV × AH) → Prop) (Q : Post) : List AV → AH → Prop := fun j59 H60 =>
 Do (abin .add (sl s56.1 0) (.int .i64 1)) fun x117 =>
 L57 ([x117], H60)
def f6_k2 (Φ : Calls') (x31 x77 : AV) (s56 : List AV × AH) (L57 : (List AV × AH) → Prop) (Q : Post) : List AV → AH → Prop := fun j79 H80 =>
 Do (anilck x31) fun x107 =>
 Do (afaddr 0 x107) fun x108 =>
 Do (aload H80 1 false x108) fun x109 =>
 DoH (abslice H80 false 1 1 [.nilp] [(0, 1, x77)]) fun x110 H111 =>
 DoH (aappend H111 false 1 8 x109 x110) fun x112 H113 =>
 Do (anilck x31) fun x114 =>
 Do (afaddr 0 x114) fun x115 =>
 Do (astore H113 1 x115 x112) fun H116 =>
 JoinP (f6_k1 Φ s56 L57 Q) [] H116
def f6_l3 (Φ : Calls') (x31 x62 x77 x81 : AV) (s56 : List AV × AH) (L57 : (List AV × AH) → Prop) (Q : Post) : (List AV × AH) → ((List AV × AH) → Prop) → Prop := fun s82 L83 =>
 Do (abin .lss (sl s82.1 0) x81) fun x84 =>
 Gd x84 true (
 Do (aiaddr none 1 x62 (sl s82.1 0)) fun x85 =>
 Do (aload s82.2 1 false x85) fun x86 =>
Φ K.f15 [x86] s82.2 fun x87 H88 =>
 Do (aextract 0 x87) fun x89 =>
 Do (aextract 1 x87) fun x90 =>
 DoH (some (abox H88 true [.int .i64 0, .int .i64 0, .int .i64 0, .int .i64 0, .int .i64 0, .int .i64 0, .int .i64 0])) fun x91 H92 =>
 Do (astore H92 7 x91 x89) fun H93 =>
 Do (abin .neq x90 (.int .i64 0)) fun x94 =>
 Gd x94 true (
 Q (.tup [(.nilp), x90]) H93) (
 Do (anilck x77) fun x95 =>
 Do (afaddr 0 x95) fun x96 =>
 Do (aload H93 1 false x96) fun x97 =>
 Do (aload H93 7 true x91) fun x98 =>
 DoH (abslice H93 false 7 1 [.int .i64 0, .int .i64 0, .int .i64 0, .int .i64 0, .int .i64 0, .int .i64 0, .int .i64 0] [(0, 7, x98)]) fun x99 H100 =>
 DoH (aappend H100 false 7 56 x97 x99) fun x101 H102 =>
 Do (anilck x77) fun x103 =>
 Do (afaddr 0 x103) fun x104 =>
 Do (astore H102 1 x104 x101) fun H105 =>
 Do (abin .add (sl s82.1 0) (.int .i64 1)) fun x106 =>
 L83 ([x106], H105))) (
 JoinP (f6_k2 Φ x31 x77 s56 L57 Q) [] s82.2)
def f6_k4 (Φ : Calls') (x31 : AV) (Q : Post) : List AV → AH → Prop := fun j51 H52 =>
 Q (.tup [x31, (.int .i64 0)]) H52
def f6_l5 (Φ : Calls') (x1 x31 x54 x55 : AV) (Q : Post) : (List AV × AH) → ((List AV × AH) → Prop) → Prop := fun s56 L57 =>
 Do (abin .lss (sl s56.1 0) x55) fun x58 =>
 Gd x58 true (
 Do (aiaddr none 1 x54 (sl s56.1 0)) fun x61 =>
 Do (aload s56.2 1 false x61) fun x62 =>
 Do (alen false x62) fun x63 =>
 Do (afaddr 1 x1) fun x64 =>
 Do (aload s56.2 1 false x64) fun x65 =>
 Do (aiaddr none 1 x65 (sl s56.1 0)) fun x66 =>
 Do (aload s56.2 1 false x66) fun x67 =>
 Do (alen false x67) fun x68 =>
 Do (abin .neq x63 x68) fun x69 =>
 Gd x69 true (
 Q (.tup [(.nilp), (.int .i64 1)]) s56.2) (
 Do (afaddr 1 x1) fun x70 =>
 Do (aload s56.2 1 false x70) fun x71 =>
 Do (aiaddr none 1 x71 (sl s56.1 0)) fun x72 =>
 Do (aload s56.2 1 false x72) fun x73 =>
Φ K.f14 [x73] s56.2 fun x74 H75 =>
 Do (abuild [.lst .nil 0 [], .lst .nil 0 [], .int .u64 0, .int .u64 0, .int .u64 0, .int .u64 0, .int .u64 0, .int .u64 0, .int .u64 0, .int .u64 0, .int .u64 0, .int .u64 0, .int .u64 0, .int .u64 0, .int .u64 0, .int .u64 0, .int .u64 0, .int .u64 0, .int .u64 0, .int .u64 0, .int .u64 0, .int .u64 0, .int .u64 0, .int .u64 0, .int .u64 0, .int .u64 0, .int .u64 0, .int .u64 0, .int .u64 0, .int .u64 0, .int .u64 0, .int .u64 0, .int .u64 0, .int .i64 0, .bool false, .bool false, .int .i64 0, .int .i64 0, .lst .nil 0 [], .int .i64 0] [(1, 1, x74)]) fun x76 =>
 DoH (aboxv H75 true 40 x76) fun x77 H78 =>
 Do (alen false x62) fun x81 =>
 LoopP (f6_l3 Φ x31 x62 x77 x81 s56 L57 Q) ([(.int .i64 0)], H78))) (
 JoinP (f6_k4 Φ x31 Q) [] s56.2)
def f6_k6 (Φ : Calls') (x1 x5 : AV) (Q : Post) : List AV → AH → Prop := fun j6 H7 =>
 Do (afaddr 3 x1) fun x28 =>
 Do (aload H7 1 false x28) fun x29 =>
 Do (abuild [.lst .nil 0 [], .lst .nil 0 [], .int .i64 0, .int .i64 0] [(2, 1, x29)]) fun x30 =>
 DoH (aboxv H7 true 4 x30) fun x31 H32 =>
 Do (aload H32 4 true x1) fun x33 =>
 Do (abin .sub x5 (.int .i64 1)) fun x34 =>
Φ K.f13 [x33, x34] H32 fun x35 H36 =>
 DoH (some (abox H36 true [.int .i64 0, .int .i64 0])) fun x37 H38 =>
 Do (astore H38 2 x37 x35) fun H39 =>
 Do (afaddr 0 x37) fun x40 =>
 Do (aload H39 1 false x40) fun x41 =>
 Do (afaddr 1 x37) fun x42 =>
 Do (aload H39 1 false x42) fun x43 =>
 Do (abin .add x41 x43) fun x44 =>
 Do (abin .sub x44 (.int .i64 65536)) fun x45 =>
 DoH (amake H39 true 1 1 [.int .u8 0] x45 x45) fun x46 H47 =>
 Do (anilck x31) fun x48 =>
 Do (afaddr 1 x48) fun x49 =>
 Do (astore H47 1 x49 x46) fun H50 =>
 Do (afaddr 0 x1) fun x53 =>
 Do (aload H50 1 false x53) fun x54 =>
 Do (alen false x54) fun x55 =>
 LoopP (f6_l5 Φ x1 x31 x54 x55 Q) ([(.int .i64 0)], H50)
def f6_k7 (Φ : Calls') (x1 x5 : AV) (Q : Post) : List AV → AH → Prop := fun j8 H9 =>
 Gd (sl j8 0) true (
 Q (.tup [(.nilp), (.int .i64 1)]) H9) (
 JoinP (f6_k6 Φ x1 x5 Q) [] H9)
def f6_k8 (Φ : Calls') (x1 x5 : AV) (Q : Post) : List AV → AH → Prop := fun j20 H21 =>
 Gd3 (sl j20 0) false (
 Do (afaddr 3 x1) fun x25 =>
 Do (aload H21 1 false x25) fun x26 =>
 Do (abin .gtr x26 (.int .i64 65536)) fun x27 =>
 JoinP (f6_k7 Φ x1 x5 Q) [x27] H21) (
 JoinP (f6_k7 Φ x1 x5 Q) [(.bool true)] H21) (
 False)
def f6_k9 (Φ : Calls') (x1 x5 : AV) (Q : Post) : List AV → AH → Prop := fun j14 H15 =>
 Gd3 (sl j14 0) false (
 Do (afaddr 3 x1) fun x22 =>
 Do (aload H15 1 false x22) fun x23 =>
 Do (abin .lss x23 (.int .i64 0)) fun x24 =>
 JoinP (f6_k8 Φ x1 x5 Q) [x24] H15) (
 JoinP (f6_k8 Φ x1 x5 Q) [(.bool true)] H15) (
 False)
def f6_k10 (Φ : Calls') (x1 x5 : AV) (Q : Post) : List AV → AH → Prop := fun j10 H11 =>
 Gd3 (sl j10 0) false (
 Do (afaddr 1 x1) fun x16 =>
 Do (aload H11 1 false x16) fun x17 =>
 Do (alen false x17) fun x18 =>
 Do (abin .neq x18 x5) fun x19 =>
 JoinP (f6_k9 Φ x1 x5 Q) [x19] H11) (
 JoinP (f6_k9 Φ x1 x5 Q) [(.bool true)] H11) (
 False)
def f6 (Φ : Calls') (a0 : AV) (H : AH) (Q : Post) : Prop :=
 DoH (aboxv H false 4 a0) fun x1 H2 =>
 Do (afaddr 0 x1) fun x3 =>
 Do (aload H2 1 false x3) fun x4 =>
 Do (alen false x4) fun x5 =>
 Do (abin .lss x5 (.int .i64 1)) fun x12 =>
 Gd3 x12 false (
 Do (abin .gtr x5 (.int .i64 8)) fun x13 =>
 JoinP (f6_k10 Φ x1 x5 Q) [x13] H2) (
 JoinP (f6_k10 Φ x1 x5 Q) [(.bool true)] H2) (
 False)
noncomputable def ir_f6 : AFunc := decF Go.Proofs.YtjnhnoldfbkgmaaGreatDoor.rb.C ⟨6,[6,12,43,55,82],[[61],[85]],none,[],[]⟩
theorem eq_f6 (Φ : Calls') (a0 : AV) (H : AH) (Q : Post) : fnE1 Φ ir_f6 [a0] H Q = f6 Φ a0 H Q := by kernel_rfl
def f7_k1 (Φ : Calls') (a1 : AV) (Q : Post) : List AV → AH → Prop := fun j2 H3 =>
 Do (alen false a1) fun x18 =>
 Q (.tup [x18, (.int .i64 0)]) H3
def f7_l2 (Φ : Calls') (a0 a1 x4 : AV) (Q : Post) : (List AV × AH) → ((List AV × AH) → Prop) → Prop := fun s5 L6 =>
 Do (abin .lss (sl s5.1 0) x4) fun x7 =>
 Gd x7 true (
 Do (aiaddr none 3 a1 (sl s5.1 0)) fun x8 =>
 Do (aload s5.2 3 true x8) fun x9 =>
 DoH (some (abox s5.2 true [.int .i64 0, .int .i64 0, .int .i64 0])) fun x10 H11 =>
 Do (astore H11 3 x10 x9) fun H12 =>
 Do (aload H12 3 true x10) fun x13 =>
Φ K.f16 [a0, x13] H12 fun x14 H15 =>
 Do (abin .neq x14 (.int .i64 0)) fun x16 =>
 Gd x16 true (
 Q (.tup [(sl s5.1 0), x14]) H15) (
 Do (abin .add (sl s5.1 0) (.int .i64 1)) fun x17 =>
 L6 ([x17], H15))) (
 JoinP (f7_k1 Φ a1 Q) [] s5.2)
def f7 (Φ : Calls') (a0 a1 : AV) (H : AH) (Q : Post) : Prop :=
 Do (anil .p false a0) fun x1 =>
 Gd x1 true (
 Q (.tup [(.int .i64 0), (.int .i64 1)]) H) (
 Do (alen false a1) fun x4 =>
 LoopP (f7_l2 Φ a0 a1 x4 Q) ([(.int .i64 0)], H))
noncomputable def ir_f7 : AFunc := decF Go.Proofs.YtjnhnoldfbkgmaaGreatDoor.rb.C ⟨7,[7],[[13]],none,[],[]⟩
theorem eq_f7 (Φ : Calls') (a0 a1 : AV) (H : AH) (Q : Post) : fnE1 Φ ir_f7 [a0, a1] H Q = f7 Φ a0 a1 H Q := by kernel_rfl
def f8_k1 (Φ : Calls') (x1 x3 : AV) (Q : Post) : List AV → AH → Prop := fun j22 H23 =>
 Do (aload H23 3 true x3) fun x60 =>
 Do (astore H23 3 x1 x60) fun H61 =>
 Do (aload H61 3 true x1) fun x62 =>
 Q x62 H61
def f8_l2 (Φ : Calls') (x1 x3 x26 x27 : AV) (Q : Post) : (List AV × AH) → ((List AV × AH) → Prop) → Prop := fun s28 L29 =>
 Do (abin .lss (sl s28.1 0) x27) fun x30 =>
 Gd x30 true (
 Do (aiaddr none 1 x26 (sl s28.1 0)) fun x31 =>
 Do (aload s28.2 1 false x31) fun x32 =>
 Do (afaddr 1 x3) fun x33 =>
 Do (aload s28.2 1 false x33) fun x34 =>
 Do (anilck x32) fun x35 =>
 Do (afaddr 38 x35) fun x36 =>
 Do (aload s28.2 1 false x36) fun x37 =>
Φ K.f20 [x37] s28.2 fun x38 H39 =>
(aload H39 1 false x33 = some x34) ∧
(Φ K.f19 [x38] H39 fun x40 H41 =>
(aload H41 1 false x33 = some x34) ∧
(DoH (abslice H41 false 1 1 [.lst .nil 0 []] [(0, 1, x40)]) fun x42 H43 =>
 DoH (aappend H43 false 1 24 x34 x42) fun x44 H45 =>
 Do (afaddr 1 x3) fun x46 =>
 Do (astore H45 1 x46 x44) fun H47 =>
 Do (afaddr 2 x3) fun x48 =>
 Do (aload H47 1 false x48) fun x49 =>
 Do (anilck x32) fun x50 =>
 Do (afaddr 39 x50) fun x51 =>
 Do (aload H47 1 false x51) fun x52 =>
 DoH (abslice H47 false 1 1 [.int .i64 0] [(0, 1, x52)]) fun x53 H54 =>
 DoH (aappend H54 false 1 8 x49 x53) fun x55 H56 =>
 Do (afaddr 2 x3) fun x57 =>
 Do (astore H56 1 x57 x55) fun H58 =>
 Do (abin .add (sl s28.1 0) (.int .i64 1)) fun x59 =>
 L29 ([x59], H58)))) (
 JoinP (f8_k1 Φ x1 x3 Q) [] s28.2)
def f8 (Φ : Calls') (a0 : AV) (H : AH) (Q : Post) : Prop :=
 DoH (some (abox H true [.lst .nil 0 [], .lst .nil 0 [], .lst .nil 0 []])) fun x1 H2 =>
 DoH (some (abox H2 true [.lst .nil 0 [], .lst .nil 0 [], .lst .nil 0 []])) fun x3 H4 =>
 Do (anil .p false a0) fun x5 =>
 Gd x5 true (
 Do (aload H4 3 true x3) fun x6 =>
 Do (astore H4 3 x1 x6) fun H7 =>
 Do (aload H7 3 true x1) fun x8 =>
 Q x8 H7) (
 Do (anilck a0) fun x9 =>
 Do (afaddr 1 x9) fun x10 =>
 Do (aload H4 1 false x10) fun x11 =>
 Do (anilck a0) fun x12 =>
 Do (afaddr 2 x12) fun x13 =>
 Do (aload H4 1 false x13) fun x14 =>
 Do (aslice 1 x11 none (some x14) none) fun x15 =>
Φ K.f18 [x15] H4 fun x16 H17 =>
Φ K.f17 [x16] H17 fun x18 H19 =>
 Do (afaddr 0 x3) fun x20 =>
 Do (astore H19 1 x20 x18) fun H21 =>
 Do (anilck a0) fun x24 =>
 Do (afaddr 0 x24) fun x25 =>
 Do (aload H21 1 false x25) fun x26 =>
 Do (alen false x26) fun x27 =>
 LoopP (f8_l2 Φ x1 x3 x26 x27 Q) ([(.int .i64 0)], H21))
noncomputable def ir_f8 : AFunc := decF Go.Proofs.YtjnhnoldfbkgmaaGreatDoor.rb.C ⟨8,[2,3],[[26]],none,[],[]⟩
theorem eq_f8 (Φ : Calls') (a0 : AV) (H : AH) (Q : Post) : fnE1 Φ ir_f8 [a0] H Q = f8 Φ a0 H Q := by kernel_rfl
def f9_l1 (Φ : Calls') (a0 a1 : AV) (Q : Post) : (List AV × AH) → ((List AV × AH) → Prop) → Prop := fun s4 L5 =>
 Do (alen false a0) fun x6 =>
 Do (abin .lss (sl s4.1 0) x6) fun x7 =>
 Gd x7 true (
 Do (aiaddr none 1 a0 (sl s4.1 0)) fun x8 =>
 Do (aload s4.2 1 false x8) fun x9 =>
 Do (aiaddr none 1 a1 (sl s4.1 0)) fun x10 =>
 Do (aload s4.2 1 false x10) fun x11 =>
 Do (abin .neq x9 x11) fun x12 =>
 Gd x12 true (
 Q (.bool false) s4.2) (
 Do (abin .add (sl s4.1 0) (.int .i64 1)) fun x13 =>
 L5 ([x13], s4.2))) (
 Q (.bool true) s4.2)
def f9 (Φ : Calls') (a0 a1 : AV) (H : AH) (Q : Post) : Prop :=
 Do (alen false a0) fun x1 =>
 Do (alen false a1) fun x2 =>
 Do (abin .neq x1 x2) fun x3 =>
 Gd x3 true (
 Q (.bool false) H) (
 LoopP (f9_l1 Φ a0 a1 Q) ([(.int .i64 0)], H))
noncomputable def ir_f9 : AFunc := decF Go.Proofs.YtjnhnoldfbkgmaaGreatDoor.rb.C ⟨9,[],[[5]],none,[],[]⟩
theorem eq_f9 (Φ : Calls') (a0 a1 : AV) (H : AH) (Q : Post) : fnE1 Φ ir_f9 [a0, a1] H Q = f9 Φ a0 a1 H Q := by kernel_rfl
def f10_k1 (Φ : Calls') (x1 x3 x44 x46 : AV) (Q : Post) : List AV → AH → Prop := fun j83 H84 =>
 Do (anilck x3) fun x88 =>
 Do (afaddr 2 x88) fun x89 =>
 Do (aload H84 36 true x89) fun x90 =>
 Do (aload H84 7 true x44) fun x91 =>
 Do (afaddr 10 x46) fun x92 =>
 Do (aload H84 2 true x92) fun x93 =>
 Do (afaddr 9 x46) fun x94 =>
 Do (aload H84 1 false x94) fun x95 =>
Φ K.f28 [x90, x91, x93, x95] H84 fun x96 H97 =>
 Do (aextract 0 x96) fun x98 =>
 Do (aextract 1 x96) fun x99 =>
 Do (anilck x3) fun x100 =>
 Do (afaddr 2 x100) fun x101 =>
 Do (astore H97 36 x101 x98) fun H102 =>
 Do (aload H102 15 true x46) fun x103 =>
 Do (astore H102 15 x1 x103) fun H104 =>
 Do (aload H104 15 true x1) fun x105 =>
 Q (.tup [x105, (.int .i64 0)]) H104
def f10_k2 (Φ : Calls') (a0 x1 x3 x44 x46 : AV) (Q : Post) : List AV → AH → Prop := fun j119 H120 =>
 Do (afaddr 9 x46) fun x136 =>
 Do (aload H120 1 false x136) fun x137 =>
 Gd x137 true (
 Do (afaddr 1 x46) fun x138 =>
 Do (aload H120 8 true x138) fun x139 =>
Φ K.f27 [a0, x3, x139] H120 fun x140 H141 =>
 JoinP (f10_k1 Φ x1 x3 x44 x46 Q) [] H141) (
 JoinP (f10_k1 Φ x1 x3 x44 x46 Q) [] H120)
def f10_k3 (Φ : Calls') (a0 a2 x1 x3 x44 x46 : AV) (Q : Post) : List AV → AH → Prop := fun j62 H63 =>
 Do (aload H63 7 true x44) fun x80 =>
Φ K.f25 [x3, x80] H63 fun x81 H82 =>
 Do (afaddr 0 x46) fun x85 =>
 Do (aload H82 1 false x85) fun x86 =>
 Do (aun .not x86) fun x87 =>
 Gd x87 true (
 JoinP (f10_k1 Φ x1 x3 x44 x46 Q) [] H82) (
 Do (afaddr 1 x46) fun x106 =>
 Do (afaddr 0 x106) fun x107 =>
 Do (aload H82 1 false x107) fun x108 =>
 Do (aun .not x108) fun x109 =>
 Gd x109 true (
 Do (afaddr 1 x46) fun x110 =>
 Do (afaddr 1 x110) fun x111 =>
 Do (aload H82 2 true x111) fun x112 =>
Φ K.f26 [a0, x112] H82 fun x113 H114 =>
 Do (afaddr 9 x46) fun x115 =>
 Do (astore H114 1 x115 (.bool true)) fun H116 =>
 Do (afaddr 10 x46) fun x117 =>
 Do (astore H116 2 x117 x113) fun H118 =>
 JoinP (f10_k1 Φ x1 x3 x44 x46 Q) [] H118) (
 Do (afaddr 1 x46) fun x121 =>
 Do (afaddr 3 x121) fun x122 =>
 Do (aload H82 1 false x122) fun x123 =>
 Do (aun .not x123) fun x124 =>
 Gd3 x124 false (
 Do (aun .not a2) fun x125 =>
 Gd3 x125 true (
 Do (anilck x3) fun x126 =>
 Do (afaddr 2 x126) fun x127 =>
 Do (afaddr 34 x127) fun x128 =>
 Do (aload H82 2 true x128) fun x129 =>
 Do (afaddr 1 x46) fun x130 =>
 Do (afaddr 1 x130) fun x131 =>
 Do (aload H82 2 true x131) fun x132 =>
 Do (aeqAgg false [.n, .n] x129 x132) fun x133 =>
 Do (afaddr 9 x46) fun x134 =>
 Do (astore H82 1 x134 x133) fun H135 =>
 JoinP (f10_k2 Φ a0 x1 x3 x44 x46 Q) [] H135) (
 Do (afaddr 9 x46) fun x142 =>
 Do (astore H82 1 x142 (.bool false)) fun H143 =>
 JoinP (f10_k2 Φ a0 x1 x3 x44 x46 Q) [] H143) (
 False)) (
 Do (afaddr 9 x46) fun x144 =>
 Do (astore H82 1 x144 (.bool true)) fun H145 =>
 JoinP (f10_k2 Φ a0 x1 x3 x44 x46 Q) [] H145) (
 False)))
def f10_k4 (Φ : Calls') (a0 a2 x1 x3 x44 x46 : AV) (Q : Post) : List AV → AH → Prop := fun j64 H65 =>
 Gd (sl j64 0) true (
 Do (anilck x3) fun x74 =>
 Do (afaddr 39 x74) fun x75 =>
 Do (astore H65 1 x75 (.int .i64 2)) fun H76 =>
 Do (aload H76 15 true x46) fun x77 =>
 Do (astore H76 15 x1 x77) fun H78 =>
 Do (aload H78 15 true x1) fun x79 =>
 Q (.tup [x79, (.int .i64 0)]) H78) (
 JoinP (f10_k3 Φ a0 a2 x1 x3 x44 x46 Q) [] H65)
def f10 (Φ : Calls') (a0 a1 a2 : AV) (H : AH) (Q : Post) : Prop :=
 DoH (some (abox H true [.bool false, .bool false, .int .i64 0, .int .i64 0, .bool false, .bool false, .bool false, .int .u64 0, .int .u64 0, .bool false, .int .u64 0, .int .u64 0, .int .i64 0, .int .i64 0, .int .i64 0])) fun x1 H2 =>
Φ K.f21 [a0, a1] H2 fun x3 H4 =>
 Do (anil .p false x3) fun x5 =>
 Gd x5 true (
 Do (abuild [.bool false, .bool false, .int .i64 0, .int .i64 0, .bool false, .bool false, .bool false, .int .u64 0, .int .u64 0, .bool false, .int .u64 0, .int .u64 0, .int .i64 0, .int .i64 0, .int .i64 0] []) fun x6 =>
 Do (astore H4 15 x1 x6) fun H7 =>
 Do (aload H7 15 true x1) fun x8 =>
 Q (.tup [x8, (.int .i64 1)]) H7) (
 Do (anilck x3) fun x9 =>
 Do (afaddr 39 x9) fun x10 =>
 Do (aload H4 1 false x10) fun x11 =>
 Do (abin .neq x11 (.int .i64 0)) fun x12 =>
 Gd x12 true (
 Do (abuild [.bool false, .bool false, .int .i64 0, .int .i64 0, .bool false, .bool false, .bool false, .int .u64 0, .int .u64 0, .bool false, .int .u64 0, .int .u64 0, .int .i64 0, .int .i64 0, .int .i64 0] []) fun x13 =>
 Do (astore H4 15 x1 x13) fun H14 =>
 Do (aload H14 15 true x1) fun x15 =>
 Q (.tup [x15, (.int .i64 15)]) H14) (
Φ K.f22 [x3] H4 fun x16 H17 =>
 Do (aun .not x16) fun x18 =>
 Gd x18 true (
 Do (anilck x3) fun x19 =>
 Do (afaddr 39 x19) fun x20 =>
 Do (astore H17 1 x20 (.int .i64 2)) fun H21 =>
 Do (abuild [.bool false, .bool false, .int .i64 0, .int .i64 0, .bool false, .bool false, .bool false, .int .u64 0, .int .u64 0, .bool false, .int .u64 0, .int .u64 0, .int .i64 0, .int .i64 0, .int .i64 0] []) fun x22 =>
 Do (astore H21 15 x1 x22) fun H23 =>
 Do (aload H23 15 true x1) fun x24 =>
 Q (.tup [x24, (.int .i64 0)]) H23) (
 Do (anilck x3) fun x25 =>
 Do (afaddr 0 x25) fun x26 =>
 Do (aload H17 1 false x26) fun x27 =>
 Do (anilck x3) fun x28 =>
 Do (afaddr 2 x28) fun x29 =>
 Do (afaddr 31 x29) fun x30 =>
 Do (aload H17 1 false x30) fun x31 =>
 Do (aiaddr none 7 x27 x31) fun x32 =>
 Do (aload H17 7 true x32) fun x33 =>
 Do (anilck x3) fun x34 =>
 Do (afaddr 1 x34) fun x35 =>
 Do (aload H17 1 false x35) fun x36 =>
 Do (anilck x3) fun x37 =>
 Do (afaddr 2 x37) fun x38 =>
 Do (afaddr 31 x38) fun x39 =>
 Do (aload H17 1 false x39) fun x40 =>
 Do (aiaddr none 3 x36 x40) fun x41 =>
 Do (aload H17 3 true x41) fun x42 =>
 Do (abuild [.bool false, .bool false, .int .i64 0, .int .i64 0, .bool false, .bool false, .bool false, .int .u64 0, .int .u64 0, .bool false, .int .u64 0, .int .u64 0, .int .i64 0, .int .i64 0, .int .i64 0] [(12, 3, x42)]) fun x43 =>
 DoH (some (abox H17 true [.int .i64 0, .int .i64 0, .int .i64 0, .int .i64 0, .int .i64 0, .int .i64 0, .int .i64 0])) fun x44 H45 =>
(aload H45 1 false x26 = some x27) ∧
(aload H45 1 false x30 = some x31) ∧
(aload H45 7 true x32 = some x33) ∧
(aload H45 1 false x35 = some x36) ∧
(aload H45 1 false x39 = some x40) ∧
(aload H45 3 true x41 = some x42) ∧
(DoH (some (abox H45 true [.bool false, .bool false, .int .i64 0, .int .i64 0, .bool false, .bool false, .bool false, .int .u64 0, .int .u64 0, .bool false, .int .u64 0, .int .u64 0, .int .i64 0, .int .i64 0, .int .i64 0])) fun x46 H47 =>
(aload H47 1 false x26 = some x27) ∧
(aload H47 1 false x30 = some x31) ∧
(aload H47 7 true x32 = some x33) ∧
(aload H47 1 false x35 = some x36) ∧
(aload H47 1 false x39 = some x40) ∧
(aload H47 3 true x41 = some x42) ∧
(Do (astore H47 7 x44 x33) fun H48 =>
(aload H48 1 false x35 = some x36) ∧
(aload H48 1 false x39 = some x40) ∧
(aload H48 3 true x41 = some x42) ∧
(Do (astore H48 15 x46 x43) fun H49 =>
 Do (anilck x3) fun x50 =>
 Do (afaddr 2 x50) fun x51 =>
 Do (aload H49 36 true x51) fun x52 =>
 Do (aload H49 7 true x44) fun x53 =>
Φ K.f23 [x52, x53] H49 fun x54 H55 =>
 Do (aextract 0 x54) fun x56 =>
 Do (aextract 1 x54) fun x57 =>
 Do (afaddr 1 x46) fun x58 =>
 Do (astore H55 8 x58 x56) fun H59 =>
 Do (afaddr 0 x46) fun x60 =>
 Do (astore H59 1 x60 x57) fun H61 =>
 Do (afaddr 0 x46) fun x66 =>
 Do (aload H61 1 false x66) fun x67 =>
 Gd3 x67 true (
 Do (afaddr 1 x46) fun x68 =>
 Do (afaddr 1 x68) fun x69 =>
 Do (aload H61 2 true x69) fun x70 =>
Φ K.f24 [a0, x70] H61 fun x71 H72 =>
 Do (aun .not x71) fun x73 =>
 JoinP (f10_k4 Φ a0 a2 x1 x3 x44 x46 Q) [x73] H72) (
 JoinP (f10_k4 Φ a0 a2 x1 x3 x44 x46 Q) [(.bool false)] H61) (
 False)))))))
noncomputable def ir_f10 : AFunc := decF Go.Proofs.YtjnhnoldfbkgmaaGreatDoor.rb.C ⟨10,[6,9,10],[],none,[],[]⟩
theorem eq_f10 (Φ : Calls') (a0 a1 a2 : AV) (H : AH) (Q : Post) : fnE1 Φ ir_f10 [a0, a1, a2] H Q = f10 Φ a0 a1 a2 H Q := by kernel_rfl
def f13_k1 (Φ : Calls') (a1 x1 x3 : AV) (Q : Post) : List AV → AH → Prop := fun j5 H6 =>
 Do (afaddr 3 x1) fun x30 =>
 Do (aload H6 1 false x30) fun x31 =>
 Do (abin .add x31 (.int .i64 16)) fun x32 =>
 Do (abin .sub x32 (.int .i64 1)) fun x33 =>
 Do (abin .quo x33 (.int .i64 16)) fun x34 =>
 Do (abin .mul x34 (.int .i64 16)) fun x35 =>
 Do (abin .add (.int .i64 65536) x35) fun x36 =>
 Do (abin .mul a1 (.int .i64 1024)) fun x37 =>
 Do (abin .add x36 x37) fun x38 =>
 Do (abuild [.int .i64 0, .int .i64 0] [(0, 1, x38), (1, 1, (.int .i64 1024))]) fun x39 =>
 Do (astore H6 2 x3 x39) fun H40 =>
 Do (aload H40 2 true x3) fun x41 =>
 Q x41 H40
def f13_k2 (Φ : Calls') (a1 x1 x3 : AV) (Q : Post) : List AV → AH → Prop := fun j7 H8 =>
 Gd (sl j7 0) true (
 Do (abuild [.int .i64 0, .int .i64 0] []) fun x27 =>
 Do (astore H8 2 x3 x27) fun H28 =>
 Do (aload H28 2 true x3) fun x29 =>
 Q x29 H28) (
 JoinP (f13_k1 Φ a1 x1 x3 Q) [] H8)
def f13_k3 (Φ : Calls') (a1 x1 x3 : AV) (Q : Post) : List AV → AH → Prop := fun j19 H20 =>
 Gd3 (sl j19 0) false (
 Do (afaddr 3 x1) fun x24 =>
 Do (aload H20 1 false x24) fun x25 =>
 Do (abin .gtr x25 (.int .i64 65536)) fun x26 =>
 JoinP (f13_k2 Φ a1 x1 x3 Q) [x26] H20) (
 JoinP (f13_k2 Φ a1 x1 x3 Q) [(.bool true)] H20) (
 False)
def f13_k4 (Φ : Calls') (a1 x1 x3 : AV) (Q : Post) : List AV → AH → Prop := fun j16 H17 =>
 Gd3 (sl j16 0) false (
 Do (afaddr 3 x1) fun x21 =>
 Do (aload H17 1 false x21) fun x22 =>
 Do (abin .lss x22 (.int .i64 0)) fun x23 =>
 JoinP (f13_k3 Φ a1 x1 x3 Q) [x23] H17) (
 JoinP (f13_k3 Φ a1 x1 x3 Q) [(.bool true)] H17) (
 False)
def f13_k5 (Φ : Calls') (a1 x1 x3 : AV) (Q : Post) : List AV → AH → Prop := fun j9 H10 =>
 Gd3 (sl j9 0) false (
 Do (abin .geq a1 (.int .i64 8)) fun x18 =>
 JoinP (f13_k4 Φ a1 x1 x3 Q) [x18] H10) (
 JoinP (f13_k4 Φ a1 x1 x3 Q) [(.bool true)] H10) (
 False)
def f13 (Φ : Calls') (a0 a1 : AV) (H : AH) (Q : Post) : Prop :=
 DoH (aboxv H false 4 a0) fun x1 H2 =>
 DoH (some (abox H2 true [.int .i64 0, .int .i64 0])) fun x3 H4 =>
 Do (abin .lss a1 (.int .i64 0)) fun x11 =>
 Gd3 x11 false (
 Do (afaddr 0 x1) fun x12 =>
 Do (aload H4 1 false x12) fun x13 =>
 Do (alen false x13) fun x14 =>
 Do (abin .geq a1 x14) fun x15 =>
 JoinP (f13_k5 Φ a1 x1 x3 Q) [x15] H4) (
 JoinP (f13_k5 Φ a1 x1 x3 Q) [(.bool true)] H4) (
 False)
noncomputable def ir_f13 : AFunc := decF Go.Proofs.YtjnhnoldfbkgmaaGreatDoor.rb.C ⟨13,[4],[],none,[],[]⟩
theorem eq_f13 (Φ : Calls') (a0 a1 : AV) (H : AH) (Q : Post) : fnE1 Φ ir_f13 [a0, a1] H Q = f13 Φ a0 a1 H Q := by kernel_rfl
def f14 (Φ : Calls') (a0 : AV) (H : AH) (Q : Post) : Prop :=
 Do (anil .s false a0) fun x1 =>
 Gd x1 true (
 Q (.lst .nil 0 []) H) (
 DoH (abslice H false 3 0 [.int .i64 0, .int .i64 0, .int .i64 0] []) fun x2 H3 =>
 DoH (aappend H3 false 3 24 x2 a0) fun x4 H5 =>
 Q x4 H5)
noncomputable def ir_f14 : AFunc := decF Go.Proofs.YtjnhnoldfbkgmaaGreatDoor.rb.C ⟨14,[],[],none,[],[]⟩
theorem eq_f14 (Φ : Calls') (a0 : AV) (H : AH) (Q : Post) : fnE1 Φ ir_f14 [a0] H Q = f14 Φ a0 H Q := by kernel_rfl
def f15_k1 (Φ : Calls') (x1 : AV) (Q : Post) : List AV → AH → Prop := fun j3 H4 =>
 Do (abuild [.int .i64 0, .int .i64 0, .int .i64 0, .int .i64 0, .int .i64 0, .int .i64 0, .int .i64 0] []) fun x19 =>
 Do (astore H4 7 x1 x19) fun H20 =>
 Do (aload H20 7 true x1) fun x21 =>
 Q (.tup [x21, (.int .i64 2)]) H20
def f15_l2 (Φ : Calls') (a0 x1 : AV) (Q : Post) : (List AV × AH) → ((List AV × AH) → Prop) → Prop := fun s5 L6 =>
 Do (abin .leq (sl s5.1 0) (.int .i64 32)) fun x7 =>
 Gd x7 true (
Φ K.f31 [(sl s5.1 0), a0] s5.2 fun x8 H9 =>
 Do (aextract 0 x8) fun x10 =>
 Do (aextract 1 x8) fun x11 =>
 DoH (some (abox H9 true [.int .i64 0, .int .i64 0, .int .i64 0, .int .i64 0, .int .i64 0, .int .i64 0, .int .i64 0])) fun x12 H13 =>
 Do (astore H13 7 x12 x10) fun H14 =>
 Gd x11 true (
 Do (aload H14 7 true x12) fun x15 =>
 Do (astore H14 7 x1 x15) fun H16 =>
 Do (aload H16 7 true x1) fun x17 =>
 Q (.tup [x17, (.int .i64 0)]) H16) (
 Do (abin .add (sl s5.1 0) (.int .i64 1)) fun x18 =>
 L6 ([x18], H14))) (
 JoinP (f15_k1 Φ x1 Q) [] s5.2)
def f15 (Φ : Calls') (a0 : AV) (H : AH) (Q : Post) : Prop :=
 DoH (some (abox H true [.int .i64 0, .int .i64 0, .int .i64 0, .int .i64 0, .int .i64 0, .int .i64 0, .int .i64 0])) fun x1 H2 =>
 LoopP (f15_l2 Φ a0 x1 Q) ([(.int .i64 1)], H2)
noncomputable def ir_f15 : AFunc := decF Go.Proofs.YtjnhnoldfbkgmaaGreatDoor.rb.C ⟨15,[2,5],[[4]],none,[],[]⟩
theorem eq_f15 (Φ : Calls') (a0 : AV) (H : AH) (Q : Post) : fnE1 Φ ir_f15 [a0] H Q = f15 Φ a0 H Q := by kernel_rfl
def f16_k1 (Φ : Calls') (a0 : AV) (j5 : List AV) (Q : Post) : List AV → AH → Prop := fun j12 H13 =>
Φ K.f33 [a0, (sl j5 0)] H13 fun x53 H54 =>
 Q x53 H54
def f16_k2 (Φ : Calls') (a0 x1 : AV) (j5 : List AV) (Q : Post) : List AV → AH → Prop := fun j14 H15 =>
 Gd (sl j14 0) true (
 Q (.int .i64 1) H15) (
 Do (afaddr 0 x1) fun x39 =>
 Do (aload H15 1 false x39) fun x40 =>
 Do (abin .eql x40 (.int .i64 1)) fun x41 =>
 Gd x41 true (
 Do (afaddr 1 x1) fun x42 =>
 Do (aload H15 1 false x42) fun x43 =>
Φ K.f32 [a0, x43, (sl j5 0), (.bool false)] H15 fun x44 H45 =>
 Q x44 H45) (
 Do (afaddr 0 x1) fun x46 =>
 Do (aload H15 1 false x46) fun x47 =>
 Do (abin .eql x47 (.int .i64 2)) fun x48 =>
 Gd x48 true (
 Do (afaddr 1 x1) fun x49 =>
 Do (aload H15 1 false x49) fun x50 =>
Φ K.f32 [a0, x50, (.int .i64 1), (.bool true)] H15 fun x51 H52 =>
 Q x51 H52) (
 JoinP (f16_k1 Φ a0 j5 Q) [] H15)))
def f16_k3 (Φ : Calls') (a0 x1 : AV) (j5 : List AV) (Q : Post) : List AV → AH → Prop := fun j24 H25 =>
 Gd3 (sl j24 0) false (
 Do (afaddr 0 x1) fun x34 =>
 Do (aload H25 1 false x34) fun x35 =>
 Do (abin .neq x35 (.int .i64 2)) fun x36 =>
 Gd3 x36 true (
 Do (abin .lss (sl j5 0) (.int .i64 0)) fun x37 =>
 Gd3 x37 false (
 Do (abin .gtr (sl j5 0) (.int .i64 65536)) fun x38 =>
 JoinP (f16_k2 Φ a0 x1 j5 Q) [x38] H25) (
 JoinP (f16_k2 Φ a0 x1 j5 Q) [(.bool true)] H25) (
 False)) (
 JoinP (f16_k2 Φ a0 x1 j5 Q) [(.bool false)] H25) (
 False)) (
 JoinP (f16_k2 Φ a0 x1 j5 Q) [(.bool true)] H25) (
 False)
def f16_k4 (Φ : Calls') (a0 x1 : AV) (j5 : List AV) (Q : Post) : List AV → AH → Prop := fun j16 H17 =>
 Gd3 (sl j16 0) false (
 Do (afaddr 0 x1) fun x26 =>
 Do (aload H17 1 false x26) fun x27 =>
 Do (abin .neq x27 (.int .i64 3)) fun x28 =>
 Gd3 x28 true (
 Do (afaddr 1 x1) fun x29 =>
 Do (aload H17 1 false x29) fun x30 =>
Φ K.f21 [a0, x30] H17 fun x31 H32 =>
 Do (anil .p false x31) fun x33 =>
 JoinP (f16_k3 Φ a0 x1 j5 Q) [x33] H32) (
 JoinP (f16_k3 Φ a0 x1 j5 Q) [(.bool false)] H17) (
 False)) (
 JoinP (f16_k3 Φ a0 x1 j5 Q) [(.bool true)] H17) (
 False)
def f16_k5 (Φ : Calls') (a0 x1 : AV) (Q : Post) : List AV → AH → Prop := fun j5 H6 =>
 Do (afaddr 0 x1) fun x18 =>
 Do (aload H6 1 false x18) fun x19 =>
 Do (abin .lss x19 (.int .i64 1)) fun x20 =>
 Gd3 x20 false (
 Do (afaddr 0 x1) fun x21 =>
 Do (aload H6 1 false x21) fun x22 =>
 Do (abin .gtr x22 (.int .i64 3)) fun x23 =>
 JoinP (f16_k4 Φ a0 x1 j5 Q) [x23] H6) (
 JoinP (f16_k4 Φ a0 x1 j5 Q) [(.bool true)] H6) (
 False)
def f16 (Φ : Calls') (a0 a1 : AV) (H : AH) (Q : Post) : Prop :=
 DoH (aboxv H false 3 a1) fun x1 H2 =>
 Do (afaddr 2 x1) fun x3 =>
 Do (aload H2 1 false x3) fun x4 =>
 Do (afaddr 0 x1) fun x7 =>
 Do (aload H2 1 false x7) fun x8 =>
 Do (abin .eql x8 (.int .i64 3)) fun x9 =>
 Gd x9 true (
 Do (afaddr 1 x1) fun x10 =>
 Do (aload H2 1 false x10) fun x11 =>
 JoinP (f16_k5 Φ a0 x1 Q) [x11] H2) (
 JoinP (f16_k5 Φ a0 x1 Q) [x4] H2)
noncomputable def ir_f16 : AFunc := decF Go.Proofs.YtjnhnoldfbkgmaaGreatDoor.rb.C ⟨16,[],[],none,[],[]⟩
theorem eq_f16 (Φ : Calls') (a0 a1 : AV) (H : AH) (Q : Post) : fnE1 Φ ir_f16 [a0, a1] H Q = f16 Φ a0 a1 H Q := by kernel_rfl
def f17 (Φ : Calls') (a0 : AV) (H : AH) (Q : Post) : Prop :=
 Do (alen false a0) fun x1 =>
 Do (alen false a0) fun x2 =>
 Do (aslice 1 a0 none (some x1) (some x2)) fun x3 =>
 Q x3 H
noncomputable def ir_f17 : AFunc := decF Go.Proofs.YtjnhnoldfbkgmaaGreatDoor.rb.C ⟨17,[],[],none,[],[]⟩
theorem eq_f17 (Φ : Calls') (a0 : AV) (H : AH) (Q : Post) : fnE1 Φ ir_f17 [a0] H Q = f17 Φ a0 H Q := by kernel_rfl
def f18 (Φ : Calls') (a0 : AV) (H : AH) (Q : Post) : Prop :=
 Do (anil .s false a0) fun x1 =>
 Gd x1 true (
 Q (.lst .nil 0 []) H) (
 DoH (abslice H false 1 0 [.int .u8 0] []) fun x2 H3 =>
 DoH (aappend H3 false 1 1 x2 a0) fun x4 H5 =>
 Q x4 H5)
noncomputable def ir_f18 : AFunc := decF Go.Proofs.YtjnhnoldfbkgmaaGreatDoor.rb.C ⟨18,[],[],none,[],[]⟩
theorem eq_f18 (Φ : Calls') (a0 : AV) (H : AH) (Q : Post) : fnE1 Φ ir_f18 [a0] H Q = f18 Φ a0 H Q := by kernel_rfl
def f19 (Φ : Calls') (a0 : AV) (H : AH) (Q : Post) : Prop :=
 Do (alen false a0) fun x1 =>
 Do (alen false a0) fun x2 =>
 Do (aslice 1 a0 none (some x1) (some x2)) fun x3 =>
 Q x3 H
noncomputable def ir_f19 : AFunc := decF Go.Proofs.YtjnhnoldfbkgmaaGreatDoor.rb.C ⟨19,[],[],none,[],[]⟩
theorem eq_f19 (Φ : Calls') (a0 : AV) (H : AH) (Q : Post) : fnE1 Φ ir_f19 [a0] H Q = f19 Φ a0 H Q := by kernel_rfl
def f20 (Φ : Calls') (a0 : AV) (H : AH) (Q : Post) : Prop :=
 Do (anil .s false a0) fun x1 =>
 Gd x1 true (
 Q (.lst .nil 0 []) H) (
 DoH (abslice H false 1 0 [.int .u64 0] []) fun x2 H3 =>
 DoH (aappend H3 false 1 8 x2 a0) fun x4 H5 =>
 Q x4 H5)
noncomputable def ir_f20 : AFunc := decF Go.Proofs.YtjnhnoldfbkgmaaGreatDoor.rb.C ⟨20,[],[],none,[],[]⟩
theorem eq_f20 (Φ : Calls') (a0 : AV) (H : AH) (Q : Post) : fnE1 Φ ir_f20 [a0] H Q = f20 Φ a0 H Q := by kernel_rfl
def f21_k1 (Φ : Calls') (a0 a1 : AV) (Q : Post) : List AV → AH → Prop := fun j1 H2 =>
 Do (anilck a0) fun x14 =>
 Do (afaddr 0 x14) fun x15 =>
 Do (aload H2 1 false x15) fun x16 =>
 Do (aiaddr none 1 x16 a1) fun x17 =>
 Do (aload H2 1 false x17) fun x18 =>
 Q x18 H2
def f21_k2 (Φ : Calls') (a0 a1 : AV) (Q : Post) : List AV → AH → Prop := fun j3 H4 =>
 Gd (sl j3 0) true (
 Q (.nilp) H4) (
 JoinP (f21_k1 Φ a0 a1 Q) [] H4)
def f21_k3 (Φ : Calls') (a0 a1 : AV) (Q : Post) : List AV → AH → Prop := fun j5 H6 =>
 Gd3 (sl j5 0) false (
 Do (anilck a0) fun x9 =>
 Do (afaddr 0 x9) fun x10 =>
 Do (aload H6 1 false x10) fun x11 =>
 Do (alen false x11) fun x12 =>
 Do (abin .geq a1 x12) fun x13 =>
 JoinP (f21_k2 Φ a0 a1 Q) [x13] H6) (
 JoinP (f21_k2 Φ a0 a1 Q) [(.bool true)] H6) (
 False)
def f21 (Φ : Calls') (a0 a1 : AV) (H : AH) (Q : Post) : Prop :=
 Do (anil .p false a0) fun x7 =>
 Gd3 x7 false (
 Do (abin .lss a1 (.int .i64 0)) fun x8 =>
 JoinP (f21_k3 Φ a0 a1 Q) [x8] H) (
 JoinP (f21_k3 Φ a0 a1 Q) [(.bool true)] H) (
 False)
noncomputable def ir_f21 : AFunc := decF Go.Proofs.YtjnhnoldfbkgmaaGreatDoor.rb.C ⟨21,[],[],none,[],[]⟩
theorem eq_f21 (Φ : Calls') (a0 a1 : AV) (H : AH) (Q : Post) : fnE1 Φ ir_f21 [a0, a1] H Q = f21 Φ a0 a1 H Q := by kernel_rfl
def f22 (Φ : Calls') (a0 : AV) (H : AH) (Q : Post) : Prop :=
 Do (anilck a0) fun x1 =>
 Do (afaddr 2 x1) fun x2 =>
 Do (afaddr 31 x2) fun x3 =>
 Do (aload H 1 false x3) fun x4 =>
 Do (abin .geq x4 (.int .i64 0)) fun x5 =>
 Gd3 x5 true (
 Do (anilck a0) fun x6 =>
 Do (afaddr 2 x6) fun x7 =>
 Do (afaddr 31 x7) fun x8 =>
 Do (aload H 1 false x8) fun x9 =>
 Do (anilck a0) fun x10 =>
 Do (afaddr 0 x10) fun x11 =>
 Do (aload H 1 false x11) fun x12 =>
 Do (alen false x12) fun x13 =>
 Do (abin .lss x9 x13) fun x14 =>
 Q x14 H) (
 Q (.bool false) H) (
 False)
noncomputable def ir_f22 : AFunc := decF Go.Proofs.YtjnhnoldfbkgmaaGreatDoor.rb.C ⟨22,[],[],none,[],[]⟩
theorem eq_f22 (Φ : Calls') (a0 : AV) (H : AH) (Q : Post) : fnE1 Φ ir_f22 [a0] H Q = f22 Φ a0 H Q := by kernel_rfl
def f23_k1 (Φ : Calls') (x5 x35 : AV) (Q : Post) : List AV → AH → Prop := fun j68 H69 =>
 Do (aload H69 8 true x35) fun x90 =>
 Do (astore H69 8 x5 x90) fun H91 =>
 Do (aload H91 8 true x5) fun x92 =>
 Q (.tup [x92, (.bool true)]) H91
def f23_k2 (Φ : Calls') (x1 x3 x5 x35 : AV) (Q : Post) : List AV → AH → Prop := fun j53 H54 =>
 Do (afaddr 0 x35) fun x70 =>
 Do (aload H54 1 false x70) fun x71 =>
 Gd x71 true (
 Do (afaddr 1 x3) fun x72 =>
 Do (aload H54 1 false x72) fun x73 =>
Φ K.f39 [x1, x73] H54 fun x74 H75 =>
 Do (afaddr 6 x35) fun x76 =>
 Do (aiaddr (some 2) 1 x76 (.int .i64 0)) fun x77 =>
 Do (astore H75 1 x77 x74) fun H78 =>
 Do (afaddr 0 x3) fun x79 =>
 Do (aload H78 1 false x79) fun x80 =>
Φ K.f40 [x80] H78 fun x81 H82 =>
 Gd x81 true (
 Do (afaddr 4 x3) fun x83 =>
 Do (aload H82 1 false x83) fun x84 =>
Φ K.f39 [x1, x84] H82 fun x85 H86 =>
 Do (afaddr 6 x35) fun x87 =>
 Do (aiaddr (some 2) 1 x87 (.int .i64 1)) fun x88 =>
 Do (astore H86 1 x88 x85) fun H89 =>
 JoinP (f23_k1 Φ x5 x35 Q) [] H89) (
 Do (afaddr 6 x35) fun x93 =>
 Do (aiaddr (some 2) 1 x93 (.int .i64 0)) fun x94 =>
 Do (aload H82 1 false x94) fun x95 =>
 Do (afaddr 1 x35) fun x96 =>
 Do (afaddr 1 x96) fun x97 =>
 Do (aload H82 1 false x97) fun x98 =>
 Do (abin .mul (.int .i64 8) x98) fun x99 =>
 Do (afaddr 6 x35) fun x100 =>
Φ K.f41 [x99] H82 fun x101 H102 =>
(aload H102 1 false x94 = some x95) ∧
(Do (abin .and x95 x101) fun x103 =>
 Do (aiaddr (some 2) 1 x100 (.int .i64 0)) fun x104 =>
 Do (astore H102 1 x104 x103) fun H105 =>
 JoinP (f23_k1 Φ x5 x35 Q) [] H105))) (
 JoinP (f23_k1 Φ x5 x35 Q) [] H54)
def f23_k3 (Φ : Calls') (x1 x3 x5 x35 : AV) (Q : Post) : List AV → AH → Prop := fun j55 H56 =>
 Gd3 (sl j55 0) false (
 Do (afaddr 0 x3) fun x63 =>
 Do (aload H56 1 false x63) fun x64 =>
 Do (abin .eql x64 (.int .i64 28)) fun x65 =>
 Do (afaddr 5 x35) fun x66 =>
 Do (astore H56 1 x66 x65) fun H67 =>
 JoinP (f23_k2 Φ x1 x3 x5 x35 Q) [] H67) (
 Do (afaddr 5 x35) fun x106 =>
 Do (astore H56 1 x106 (.bool true)) fun H107 =>
 JoinP (f23_k2 Φ x1 x3 x5 x35 Q) [] H107) (
 False)
def f23_k4 (Φ : Calls') (x1 x3 x5 x35 : AV) (Q : Post) : List AV → AH → Prop := fun j38 H39 =>
 Do (afaddr 0 x3) fun x57 =>
 Do (aload H39 1 false x57) fun x58 =>
 Do (abin .eql x58 (.int .i64 20)) fun x59 =>
 Gd3 x59 false (
 Do (afaddr 0 x3) fun x60 =>
 Do (aload H39 1 false x60) fun x61 =>
 Do (abin .eql x61 (.int .i64 24)) fun x62 =>
 JoinP (f23_k3 Φ x1 x3 x5 x35 Q) [x62] H39) (
 JoinP (f23_k3 Φ x1 x3 x5 x35 Q) [(.bool true)] H39) (
 False)
def f23_k5 (Φ : Calls') (x1 x3 x5 x35 : AV) (Q : Post) : List AV → AH → Prop := fun j40 H41 =>
 Gd3 (sl j40 0) false (
 Do (afaddr 0 x3) fun x48 =>
 Do (aload H41 1 false x48) fun x49 =>
 Do (abin .eql x49 (.int .i64 26)) fun x50 =>
 Do (afaddr 4 x35) fun x51 =>
 Do (astore H41 1 x51 x50) fun H52 =>
 JoinP (f23_k4 Φ x1 x3 x5 x35 Q) [] H52) (
 Do (afaddr 4 x35) fun x108 =>
 Do (astore H41 1 x108 (.bool true)) fun H109 =>
 JoinP (f23_k4 Φ x1 x3 x5 x35 Q) [] H109) (
 False)
def f23_k6 (Φ : Calls') (x1 x3 x5 : AV) (Q : Post) : List AV → AH → Prop := fun j7 H8 =>
 Do (afaddr 0 x3) fun x23 =>
 Do (aload H8 1 false x23) fun x24 =>
 Do (aload H8 7 true x3) fun x25 =>
 Do (afaddr 0 x3) fun x26 =>
 Do (aload H8 1 false x26) fun x27 =>
Φ K.f36 [x24] H8 fun x28 H29 =>
(aload H29 7 true x3 = some x25) ∧
(aload H29 1 false x26 = some x27) ∧
(Φ K.f37 [x1, x25] H29 fun x30 H31 =>
(aload H31 1 false x26 = some x27) ∧
(Φ K.f38 [x27] H31 fun x32 H33 =>
 Do (abuild [.bool false, .int .i64 0, .int .i64 0, .bool false, .bool false, .bool false, .int .u64 0, .int .u64 0] [(0, 1, x28), (1, 2, x30), (3, 1, x32)]) fun x34 =>
 DoH (some (abox H33 true [.bool false, .int .i64 0, .int .i64 0, .bool false, .bool false, .bool false, .int .u64 0, .int .u64 0])) fun x35 H36 =>
(aload H36 1 false x23 = some x24) ∧
(aload H36 7 true x3 = some x25) ∧
(aload H36 1 false x26 = some x27) ∧
(Do (astore H36 8 x35 x34) fun H37 =>
 Do (afaddr 0 x3) fun x42 =>
 Do (aload H37 1 false x42) fun x43 =>
 Do (abin .eql x43 (.int .i64 19)) fun x44 =>
 Gd3 x44 false (
 Do (afaddr 0 x3) fun x45 =>
 Do (aload H37 1 false x45) fun x46 =>
 Do (abin .eql x46 (.int .i64 22)) fun x47 =>
 JoinP (f23_k5 Φ x1 x3 x5 x35 Q) [x47] H37) (
 JoinP (f23_k5 Φ x1 x3 x5 x35 Q) [(.bool true)] H37) (
 False))))
def f23_k7 (Φ : Calls') (x1 x3 x5 : AV) (Q : Post) : List AV → AH → Prop := fun j9 H10 =>
 Gd (sl j9 0) true (
 Do (abuild [.bool false, .int .i64 0, .int .i64 0, .bool false, .bool false, .bool false, .int .u64 0, .int .u64 0] []) fun x20 =>
 Do (astore H10 8 x5 x20) fun H21 =>
 Do (aload H21 8 true x5) fun x22 =>
 Q (.tup [x22, (.bool false)]) H21) (
 JoinP (f23_k6 Φ x1 x3 x5 Q) [] H10)
def f23 (Φ : Calls') (a0 a1 : AV) (H : AH) (Q : Post) : Prop :=
 DoH (aboxv H true 36 a0) fun x1 H2 =>
 DoH (aboxv H2 false 7 a1) fun x3 H4 =>
 DoH (some (abox H4 true [.bool false, .int .i64 0, .int .i64 0, .bool false, .bool false, .bool false, .int .u64 0, .int .u64 0])) fun x5 H6 =>
 Do (aload H6 7 true x3) fun x11 =>
Φ K.f34 [x11] H6 fun x12 H13 =>
 Do (aun .not x12) fun x14 =>
 Gd3 x14 false (
 Do (afaddr 0 x3) fun x15 =>
 Do (aload H13 1 false x15) fun x16 =>
Φ K.f35 [x16] H13 fun x17 H18 =>
 Do (aun .not x17) fun x19 =>
 JoinP (f23_k7 Φ x1 x3 x5 Q) [x19] H18) (
 JoinP (f23_k7 Φ x1 x3 x5 Q) [(.bool true)] H13) (
 False)
noncomputable def ir_f23 : AFunc := decF Go.Proofs.YtjnhnoldfbkgmaaGreatDoor.rb.C ⟨23,[2,4,6],[],none,[],[]⟩
theorem eq_f23 (Φ : Calls') (a0 a1 : AV) (H : AH) (Q : Post) : fnE1 Φ ir_f23 [a0, a1] H Q = f23 Φ a0 a1 H Q := by kernel_rfl
def f24 (Φ : Calls') (a0 a1 : AV) (H : AH) (Q : Post) : Prop :=
 DoH (aboxv H false 2 a1) fun x1 H2 =>
 Do (afaddr 0 x1) fun x3 =>
 Do (aload H2 1 false x3) fun x4 =>
 Do (abin .geq x4 (.int .i64 65536)) fun x5 =>
 Gd3 x5 true (
 Do (aload H2 2 true x1) fun x6 =>
 Do (anilck a0) fun x7 =>
 Do (afaddr 1 x7) fun x8 =>
 Do (aload H2 1 false x8) fun x9 =>
 Do (alen false x9) fun x10 =>
 Do (abuild [.int .i64 0, .int .i64 0] [(0, 1, (.int .i64 65536)), (1, 1, x10)]) fun x11 =>
Φ K.f42 [x6, x11] H2 fun x12 H13 =>
 Q x12 H13) (
 Q (.bool false) H2) (
 False)
noncomputable def ir_f24 : AFunc := decF Go.Proofs.YtjnhnoldfbkgmaaGreatDoor.rb.C ⟨24,[],[],none,[],[]⟩
theorem eq_f24 (Φ : Calls') (a0 a1 : AV) (H : AH) (Q : Post) : fnE1 Φ ir_f24 [a0, a1] H Q = f24 Φ a0 a1 H Q := by kernel_rfl
def f25_k1 (Φ : Calls') (a0 x1 : AV) (Q : Post) : List AV → AH → Prop := fun j20 H21 =>
 Gd (sl j20 0) true (
 Do (anilck a0) fun x28 =>
 Do (afaddr 38 x28) fun x29 =>
 Do (aload H21 1 false x29) fun x30 =>
 Do (afaddr 6 x1) fun x31 =>
 Do (aload H21 1 false x31) fun x32 =>
 Do (abin .sub x32 (.int .i64 1)) fun x33 =>
 Do (anilck a0) fun x34 =>
 Do (afaddr 2 x34) fun x35 =>
 Do (afaddr 0 x35) fun x36 =>
 Do (aiaddr (some 31) 1 x36 x33) fun x37 =>
 Do (aload H21 1 false x37) fun x38 =>
 DoH (abslice H21 false 1 1 [.int .u64 0] [(0, 1, x38)]) fun x39 H40 =>
 DoH (aappend H40 false 1 8 x30 x39) fun x41 H42 =>
 Do (anilck a0) fun x43 =>
 Do (afaddr 38 x43) fun x44 =>
 Do (astore H42 1 x44 x41) fun H45 =>
 Q (.tup []) H45) (
 Do (afaddr 0 x1) fun x46 =>
 Do (aload H21 1 false x46) fun x47 =>
 Do (abin .eql x47 (.int .i64 31)) fun x48 =>
 Gd x48 true (
 Do (anilck a0) fun x49 =>
 Do (afaddr 39 x49) fun x50 =>
 Do (astore H21 1 x50 (.int .i64 2)) fun H51 =>
 Q (.tup []) H51) (
 Q (.tup []) H21))
def f25_k2 (Φ : Calls') (a0 x1 : AV) (Q : Post) : List AV → AH → Prop := fun j9 H10 =>
 Gd (sl j9 0) true (
 Do (anilck a0) fun x17 =>
 Do (afaddr 39 x17) fun x18 =>
 Do (astore H10 1 x18 (.int .i64 1)) fun H19 =>
 Q (.tup []) H19) (
 Do (afaddr 0 x1) fun x22 =>
 Do (aload H10 1 false x22) fun x23 =>
 Do (abin .eql x23 (.int .i64 31)) fun x24 =>
 Gd3 x24 true (
 Do (afaddr 6 x1) fun x25 =>
 Do (aload H10 1 false x25) fun x26 =>
 Do (abin .leq x26 (.int .i64 31)) fun x27 =>
 JoinP (f25_k1 Φ a0 x1 Q) [x27] H10) (
 JoinP (f25_k1 Φ a0 x1 Q) [(.bool false)] H10) (
 False))
def f25 (Φ : Calls') (a0 a1 : AV) (H : AH) (Q : Post) : Prop :=
 DoH (aboxv H false 7 a1) fun x1 H2 =>
 Do (afaddr 0 x1) fun x3 =>
 Do (aload H2 1 false x3) fun x4 =>
 Do (abin .eql x4 (.int .i64 32)) fun x5 =>
 Gd x5 true (
 Do (anilck a0) fun x6 =>
 Do (afaddr 39 x6) fun x7 =>
 Do (astore H2 1 x7 (.int .i64 2)) fun H8 =>
 Q (.tup []) H8) (
 Do (afaddr 0 x1) fun x11 =>
 Do (aload H2 1 false x11) fun x12 =>
 Do (abin .eql x12 (.int .i64 31)) fun x13 =>
 Gd3 x13 true (
 Do (afaddr 6 x1) fun x14 =>
 Do (aload H2 1 false x14) fun x15 =>
 Do (abin .eql x15 (.int .i64 0)) fun x16 =>
 JoinP (f25_k2 Φ a0 x1 Q) [x16] H2) (
 JoinP (f25_k2 Φ a0 x1 Q) [(.bool false)] H2) (
 False))
noncomputable def ir_f25 : AFunc := decF Go.Proofs.YtjnhnoldfbkgmaaGreatDoor.rb.C ⟨25,[],[],none,[],[]⟩
theorem eq_f25 (Φ : Calls') (a0 a1 : AV) (H : AH) (Q : Post) : fnE1 Φ ir_f25 [a0, a1] H Q = f25 Φ a0 a1 H Q := by kernel_rfl
def f26 (Φ : Calls') (a0 a1 : AV) (H : AH) (Q : Post) : Prop :=
 DoH (aboxv H false 2 a1) fun x1 H2 =>
 DoH (some (abox H2 true [.int .u64 0, .int .u64 0])) fun x3 H4 =>
 Do (anilck a0) fun x5 =>
 Do (afaddr 1 x5) fun x6 =>
 Do (aload H4 1 false x6) fun x7 =>
 Do (afaddr 0 x1) fun x8 =>
 Do (aload H4 1 false x8) fun x9 =>
 Do (abin .sub x9 (.int .i64 65536)) fun x10 =>
 Do (aslice 1 x7 (some x10) none none) fun x11 =>
 Do (afaddr 1 x1) fun x12 =>
 Do (aload H4 1 false x12) fun x13 =>
 Do (aslice 1 x11 none (some x13) none) fun x14 =>
 Do (alen false x14) fun x15 =>
 Do (aminmax false [x15, (.int .i64 8)]) fun x16 =>
 Do (aslice 1 x14 none (some x16) none) fun x17 =>
 Do (alen false x14) fun x18 =>
 Do (aminmax false [x18, (.int .i64 8)]) fun x19 =>
 Do (aslice 1 x14 (some x19) none none) fun x20 =>
Φ K.f43 [x17] H4 fun x21 H22 =>
Φ K.f43 [x20] H22 fun x23 H24 =>
 Do (abuild [.int .u64 0, .int .u64 0] [(0, 1, x21), (1, 1, x23)]) fun x25 =>
 Do (astore H24 2 x3 x25) fun H26 =>
 Do (aload H26 2 true x3) fun x27 =>
 Q x27 H26
noncomputable def ir_f26 : AFunc := decF Go.Proofs.YtjnhnoldfbkgmaaGreatDoor.rb.C ⟨26,[4],[],none,[],[]⟩
theorem eq_f26 (Φ : Calls') (a0 a1 : AV) (H : AH) (Q : Post) : fnE1 Φ ir_f26 [a0, a1] H Q = f26 Φ a0 a1 H Q := by kernel_rfl
def f27_k1 (Φ : Calls') (s19 : List AV × AH) (L20 : (List AV × AH) → Prop) (Q : Post) : List AV → AH → Prop := fun j22 H23 =>
 Do (abin .add (sl s19.1 0) (.int .i64 1)) fun x35 =>
 L20 ([x35], H23)
def f27_k2 (Φ : Calls') (s40 : List AV × AH) (L41 : (List AV × AH) → Prop) (Q : Post) : List AV → AH → Prop := fun j43 H44 =>
 Do (abin .add (sl s40.1 0) (.int .i64 1)) fun x64 =>
 L41 ([x64], H44)
def f27_k3 (Φ : Calls') (x46 : AV) (s40 : List AV × AH) (L41 : (List AV × AH) → Prop) (Q : Post) : List AV → AH → Prop := fun j47 H48 =>
 Gd (sl j47 0) true (
 Do (abuild [.int .i64 0, .int .i64 0] []) fun x59 =>
 Do (anilck x46) fun x60 =>
 Do (afaddr 2 x60) fun x61 =>
 Do (afaddr 34 x61) fun x62 =>
 Do (astore H48 2 x62 x59) fun H63 =>
 JoinP (f27_k2 Φ s40 L41 Q) [] H63) (
 JoinP (f27_k2 Φ s40 L41 Q) [] H48)
def f27_l4 (Φ : Calls') (a1 x1 x38 x39 : AV) (Q : Post) : (List AV × AH) → ((List AV × AH) → Prop) → Prop := fun s40 L41 =>
 Do (abin .lss (sl s40.1 0) x39) fun x42 =>
 Gd x42 true (
 Do (aiaddr none 1 x38 (sl s40.1 0)) fun x45 =>
 Do (aload s40.2 1 false x45) fun x46 =>
 DoH (aext s40.2 (.ptreq true) [x46, a1]) fun x49 H50 =>
 Gd3 x49 true (
 Do (anilck x46) fun x51 =>
 Do (afaddr 2 x51) fun x52 =>
 Do (afaddr 34 x52) fun x53 =>
 Do (aload H50 2 true x53) fun x54 =>
 Do (afaddr 1 x1) fun x55 =>
 Do (aload H50 2 true x55) fun x56 =>
Φ K.f45 [x54, x56] H50 fun x57 H58 =>
 JoinP (f27_k3 Φ x46 s40 L41 Q) [x57] H58) (
 JoinP (f27_k3 Φ x46 s40 L41 Q) [(.bool false)] H50) (
 False)) (
 Q (.tup []) s40.2)
def f27_k5 (Φ : Calls') (a0 a1 x1 : AV) (Q : Post) : List AV → AH → Prop := fun j15 H16 =>
 Do (anilck a0) fun x36 =>
 Do (afaddr 0 x36) fun x37 =>
 Do (aload H16 1 false x37) fun x38 =>
 Do (alen false x38) fun x39 =>
 LoopP (f27_l4 Φ a1 x1 x38 x39 Q) ([(.int .i64 0)], H16)
def f27_l6 (Φ : Calls') (a0 a1 x1 x14 x18 : AV) (Q : Post) : (List AV × AH) → ((List AV × AH) → Prop) → Prop := fun s19 L20 =>
 Do (abin .lss (sl s19.1 0) (.int .i64 2)) fun x21 =>
 Gd x21 true (
 Do (aidx 2 1 false x18 (sl s19.1 0)) fun x24 =>
 Do (abin .mul (.int .i64 8) (sl s19.1 0)) fun x25 =>
 Do (alen false x14) fun x26 =>
 Do (abin .lss x25 x26) fun x27 =>
 Gd x27 true (
 Do (aslice 1 x14 (some x25) none none) fun x28 =>
 Do (alen false x14) fun x29 =>
 Do (abin .sub x29 x25) fun x30 =>
Φ K.f44 [x24, x30] s19.2 fun x31 H32 =>
 DoH (acopy H32 1 x28 x31) fun x33 H34 =>
 JoinP (f27_k1 Φ s19 L20 Q) [] H34) (
 JoinP (f27_k1 Φ s19 L20 Q) [] s19.2)) (
 JoinP (f27_k5 Φ a0 a1 x1 Q) [] s19.2)
def f27 (Φ : Calls') (a0 a1 a2 : AV) (H : AH) (Q : Post) : Prop :=
 DoH (aboxv H false 8 a2) fun x1 H2 =>
 Do (anilck a0) fun x3 =>
 Do (afaddr 1 x3) fun x4 =>
 Do (aload H2 1 false x4) fun x5 =>
 Do (afaddr 1 x1) fun x6 =>
 Do (afaddr 0 x6) fun x7 =>
 Do (aload H2 1 false x7) fun x8 =>
 Do (abin .sub x8 (.int .i64 65536)) fun x9 =>
 Do (aslice 1 x5 (some x9) none none) fun x10 =>
 Do (afaddr 1 x1) fun x11 =>
 Do (afaddr 1 x11) fun x12 =>
 Do (aload H2 1 false x12) fun x13 =>
 Do (aslice 1 x10 none (some x13) none) fun x14 =>
 Do (afaddr 6 x1) fun x17 =>
 Do (aload H2 2 true x17) fun x18 =>
 LoopP (f27_l6 Φ a0 a1 x1 x14 x18 Q) ([(.int .i64 0)], H2)
noncomputable def ir_f27 : AFunc := decF Go.Proofs.YtjnhnoldfbkgmaaGreatDoor.rb.C ⟨27,[],[[27],[53]],none,[],[]⟩
theorem eq_f27 (Φ : Calls') (a0 a1 a2 : AV) (H : AH) (Q : Post) : fnE1 Φ ir_f27 [a0, a1, a2] H Q = f27 Φ a0 a1 a2 H Q := by kernel_rfl
def f28_k1 (Φ : Calls') (x1 x7 : AV) (j19 : List AV) (Q : Post) : List AV → AH → Prop := fun j34 H35 =>
 Do (afaddr 31 x1) fun x42 =>
 Do (astore H35 1 x42 (sl j19 0)) fun H43 =>
 Do (aload H43 36 true x1) fun x44 =>
 Do (astore H43 36 x7 x44) fun H45 =>
 Do (aload H45 36 true x7) fun x46 =>
 Q (.tup [x46, (.int .i64 0)]) H45
def f28_k2 (Φ : Calls') (x1 x3 x7 x32 : AV) (j19 : List AV) (Q : Post) : List AV → AH → Prop := fun j55 H56 =>
 Do (afaddr 1 x3) fun x74 =>
 Do (aload H56 1 false x74) fun x75 =>
Φ K.f49 [x1, x75, x32] H56 fun x76 H77 =>
 JoinP (f28_k1 Φ x1 x7 j19 Q) [] H77
def f28_k3 (Φ : Calls') (a3 x1 x3 x5 x7 : AV) (Q : Post) : List AV → AH → Prop := fun j19 H20 =>
 Do (aload H20 7 true x3) fun x29 =>
Φ K.f47 [x1, x29] H20 fun x30 H31 =>
 Do (aextract 0 x30) fun x32 =>
 Do (aextract 1 x30) fun x33 =>
 Do (afaddr 0 x3) fun x36 =>
 Do (aload H31 1 false x36) fun x37 =>
 Do (abin .eql x37 (.int .i64 30)) fun x38 =>
 Gd x38 true (
 Do (abuild [.int .i64 0, .int .i64 0] []) fun x39 =>
 Do (afaddr 34 x1) fun x40 =>
 Do (astore H31 2 x40 x39) fun H41 =>
 JoinP (f28_k1 Φ x1 x7 j19 Q) [] H41) (
 Do (afaddr 0 x3) fun x47 =>
 Do (aload H31 1 false x47) fun x48 =>
Φ K.f35 [x48] H31 fun x49 H50 =>
 Gd x49 true (
 Do (aload H50 7 true x3) fun x51 =>
 Do (aload H50 2 true x5) fun x52 =>
Φ K.f48 [x1, x51, x52, a3] H50 fun x53 H54 =>
 JoinP (f28_k1 Φ x1 x7 j19 Q) [] H54) (
 Gd x33 true (
 Do (afaddr 0 x3) fun x57 =>
 Do (aload H50 1 false x57) fun x58 =>
 Do (abin .eql x58 (.int .i64 5)) fun x59 =>
 Gd x59 true (
 Do (abin .eql x32 (.int .u64 0)) fun x60 =>
 Do (afaddr 2 x3) fun x61 =>
 Do (aload H50 1 false x61) fun x62 =>
 Do (afaddr 3 x3) fun x63 =>
 Do (aload H50 1 false x63) fun x64 =>
Φ K.f39 [x1, x62] H50 fun x65 H66 =>
(aload H66 1 false x63 = some x64) ∧
(Φ K.f39 [x1, x64] H66 fun x67 H68 =>
 Do (abin .geq x65 x67) fun x69 =>
 Do (afaddr 32 x1) fun x70 =>
 Do (astore H68 1 x70 x60) fun H71 =>
 Do (afaddr 33 x1) fun x72 =>
 Do (astore H71 1 x72 x69) fun H73 =>
 JoinP (f28_k2 Φ x1 x3 x7 x32 j19 Q) [] H73)) (
 JoinP (f28_k2 Φ x1 x3 x7 x32 j19 Q) [] H50)) (
 JoinP (f28_k1 Φ x1 x7 j19 Q) [] H50)))
def f28 (Φ : Calls') (a0 a1 a2 a3 : AV) (H : AH) (Q : Post) : Prop :=
 DoH (aboxv H true 36 a0) fun x1 H2 =>
 DoH (aboxv H2 false 7 a1) fun x3 H4 =>
 DoH (aboxv H4 false 2 a2) fun x5 H6 =>
 DoH (some (abox H6 true [.int .u64 0, .int .u64 0, .int .u64 0, .int .u64 0, .int .u64 0, .int .u64 0, .int .u64 0, .int .u64 0, .int .u64 0, .int .u64 0, .int .u64 0, .int .u64 0, .int .u64 0, .int .u64 0, .int .u64 0, .int .u64 0, .int .u64 0, .int .u64 0, .int .u64 0, .int .u64 0, .int .u64 0, .int .u64 0, .int .u64 0, .int .u64 0, .int .u64 0, .int .u64 0, .int .u64 0, .int .u64 0, .int .u64 0, .int .u64 0, .int .u64 0, .int .i64 0, .bool false, .bool false, .int .i64 0, .int .i64 0])) fun x7 H8 =>
 Do (aload H8 7 true x3) fun x9 =>
Φ K.f34 [x9] H8 fun x10 H11 =>
 Do (aun .not x10) fun x12 =>
 Gd x12 true (
 Do (abuild [.int .u64 0, .int .u64 0, .int .u64 0, .int .u64 0, .int .u64 0, .int .u64 0, .int .u64 0, .int .u64 0, .int .u64 0, .int .u64 0, .int .u64 0, .int .u64 0, .int .u64 0, .int .u64 0, .int .u64 0, .int .u64 0, .int .u64 0, .int .u64 0, .int .u64 0, .int .u64 0, .int .u64 0, .int .u64 0, .int .u64 0, .int .u64 0, .int .u64 0, .int .u64 0, .int .u64 0, .int .u64 0, .int .u64 0, .int .u64 0, .int .u64 0, .int .i64 0, .bool false, .bool false, .int .i64 0, .int .i64 0] []) fun x13 =>
 Do (astore H11 36 x7 x13) fun H14 =>
 Do (aload H14 36 true x7) fun x15 =>
 Q (.tup [x15, (.int .i64 2)]) H14) (
 Do (afaddr 31 x1) fun x16 =>
 Do (aload H11 1 false x16) fun x17 =>
 Do (abin .add x17 (.int .i64 1)) fun x18 =>
 Do (aload H11 7 true x3) fun x21 =>
Φ K.f46 [x1, x21] H11 fun x22 H23 =>
 Gd x22 true (
 Do (afaddr 31 x1) fun x24 =>
 Do (aload H23 1 false x24) fun x25 =>
 Do (afaddr 6 x3) fun x26 =>
 Do (aload H23 1 false x26) fun x27 =>
 Do (abin .add x25 x27) fun x28 =>
 JoinP (f28_k3 Φ a3 x1 x3 x5 x7 Q) [x28] H23) (
 JoinP (f28_k3 Φ a3 x1 x3 x5 x7 Q) [x18] H23))
noncomputable def ir_f28 : AFunc := decF Go.Proofs.YtjnhnoldfbkgmaaGreatDoor.rb.C ⟨28,[4,8],[],none,[],[]⟩
theorem eq_f28 (Φ : Calls') (a0 a1 a2 a3 : AV) (H : AH) (Q : Post) : fnE1 Φ ir_f28 [a0, a1, a2, a3] H Q = f28 Φ a0 a1 a2 a3 H Q := by kernel_rfl
def f31_k1 (Φ : Calls') (s18 : List AV × AH) (L19 : (List AV × AH) → Prop) (Q : Post) : List AV → AH → Prop := fun j21 H22 =>
 Do (abin .add (sl s18.1 1) (.int .i64 1)) fun x26 =>
 L19 ([(sl j21 0), x26], H22)
def f31_k2 (Φ : Calls') (x1 x5 x9 : AV) (Q : Post) : List AV → AH → Prop := fun j12 H13 =>
 Do (aload H13 7 true x9) fun x56 =>
 Do (afaddr 0 x5) fun x57 =>
 Do (aload H13 1 false x57) fun x58 =>
 Do (abin .eql (sl j12 0) x58) fun x59 =>
 Do (astore H13 7 x1 x56) fun H60 =>
(aload H60 1 false x57 = some x58) ∧
(Do (aload H60 7 true x1) fun x61 =>
 Q (.tup [x61, x59]) H60)
def f31_l3 (Φ : Calls') (a1 x1 x5 x9 x16 x17 : AV) (Q : Post) : (List AV × AH) → ((List AV × AH) → Prop) → Prop := fun s18 L19 =>
 Do (abin .lss (sl s18.1 1) x17) fun x20 =>
 Gd x20 true (
 Do (aiaddr none 1 x16 (sl s18.1 1)) fun x23 =>
 Do (aload s18.2 1 false x23) fun x24 =>
 Do (abin .eql x24 (.int .u8 122)) fun x25 =>
 Gd x25 true (
 JoinP (f31_k1 Φ s18 L19 Q) [(sl s18.1 0)] s18.2) (
Φ K.f61 [x24] s18.2 fun x27 H28 =>
 DoH (some (abox H28 true [.int .i64 0, .int .i64 0, .bool false, .int .u32 0, .int .i64 0])) fun x29 H30 =>
 Do (astore H30 5 x29 x27) fun H31 =>
 Do (aload H31 5 true x29) fun x32 =>
Φ K.f62 [x32, x24, a1] H31 fun x33 H34 =>
 Do (aextract 0 x33) fun x35 =>
 Do (aextract 1 x33) fun x36 =>
 Do (aun .not x36) fun x37 =>
 Gd x37 true (
 Do (abuild [.int .i64 0, .int .i64 0, .int .i64 0, .int .i64 0, .int .i64 0, .int .i64 0, .int .i64 0] []) fun x38 =>
 Do (astore H34 7 x1 x38) fun H39 =>
 Do (aload H39 7 true x1) fun x40 =>
 Q (.tup [x40, (.bool false)]) H39) (
Φ K.f63 [x9, x24] H34 fun x41 H42 =>
 Do (anilck x41) fun x43 =>
 Do (astore H42 1 x43 x35) fun H44 =>
 Do (aload H44 5 true x29) fun x45 =>
 Do (afaddr 0 x5) fun x46 =>
 Do (aload H44 1 false x46) fun x47 =>
 Do (aload H44 5 true x29) fun x48 =>
Φ K.f64 [x45] H44 fun x49 H50 =>
(aload H50 1 false x46 = some x47) ∧
(aload H50 5 true x29 = some x48) ∧
(Do (abin .andNot (sl s18.1 0) x49) fun x51 =>
Φ K.f64 [x48] H50 fun x52 H53 =>
(aload H53 1 false x46 = some x47) ∧
(Do (abin .and x47 x52) fun x54 =>
 Do (abin .or x51 x54) fun x55 =>
 JoinP (f31_k1 Φ s18 L19 Q) [x55] H53))))) (
 JoinP (f31_k2 Φ x1 x5 x9 Q) [(sl s18.1 0)] s18.2)
def f31 (Φ : Calls') (a0 a1 : AV) (H : AH) (Q : Post) : Prop :=
 DoH (some (abox H true [.int .i64 0, .int .i64 0, .int .i64 0, .int .i64 0, .int .i64 0, .int .i64 0, .int .i64 0])) fun x1 H2 =>
Φ K.f60 [a0] H2 fun x3 H4 =>
 DoH (some (abox H4 true [.int .u32 0, .str []])) fun x5 H6 =>
 Do (astore H6 2 x5 x3) fun H7 =>
 Do (abuild [.int .i64 0, .int .i64 0, .int .i64 0, .int .i64 0, .int .i64 0, .int .i64 0, .int .i64 0] [(0, 1, a0)]) fun x8 =>
 DoH (some (abox H7 true [.int .i64 0, .int .i64 0, .int .i64 0, .int .i64 0, .int .i64 0, .int .i64 0, .int .i64 0])) fun x9 H10 =>
 Do (astore H10 7 x9 x8) fun H11 =>
 Do (afaddr 1 x5) fun x14 =>
 Do (aload H11 1 false x14) fun x15 =>
 Do (asbytes x15) fun x16 =>
 Do (alen false x16) fun x17 =>
 LoopP (f31_l3 Φ a1 x1 x5 x9 x16 x17 Q) ([a1, (.int .i64 0)], H11)
noncomputable def ir_f31 : AFunc := decF Go.Proofs.YtjnhnoldfbkgmaaGreatDoor.rb.C ⟨31,[4,6,7,11],[[8,23]],none,[],[]⟩
theorem eq_f31 (Φ : Calls') (a0 a1 : AV) (H : AH) (Q : Post) : fnE1 Φ ir_f31 [a0, a1] H Q = f31 Φ a0 a1 H Q := by kernel_rfl
def f32_l1 (Φ : Calls') (a0 a1 a2 a3 : AV) (Q : Post) : (List AV × AH) → ((List AV × AH) → Prop) → Prop := fun s1 L2 =>
 Do (abin .lss (sl s1.1 0) a2) fun x3 =>
 Gd x3 true (
 Do (anilck a0) fun x4 =>
 Do (afaddr 0 x4) fun x5 =>
 Do (aload s1.2 1 false x5) fun x6 =>
 Do (aiaddr none 1 x6 a1) fun x7 =>
 Do (aload s1.2 1 false x7) fun x8 =>
 Do (anilck x8) fun x9 =>
 Do (afaddr 39 x9) fun x10 =>
 Do (aload s1.2 1 false x10) fun x11 =>
 Do (abin .neq x11 (.int .i64 0)) fun x12 =>
 Gd x12 true (
 Q (.int .i64 0) s1.2) (
 Do (anilck a0) fun x13 =>
 Do (afaddr 3 x13) fun x14 =>
 Do (aload s1.2 1 false x14) fun x15 =>
 Do (abin .geq x15 (.int .i64 65536)) fun x16 =>
 Gd x16 true (
 Q (.int .i64 16) s1.2) (
 Do (anilck a0) fun x17 =>
 Do (afaddr 3 x17) fun x18 =>
 Do (aload s1.2 1 false x18) fun x19 =>
 Do (abin .add x19 (.int .i64 1)) fun x20 =>
 Do (anilck a0) fun x21 =>
 Do (afaddr 3 x21) fun x22 =>
 Do (astore s1.2 1 x22 x20) fun H23 =>
Φ K.f10 [a0, a1, a3] H23 fun x24 H25 =>
 Do (abin .add (sl s1.1 0) (.int .i64 1)) fun x26 =>
 L2 ([x26], H25)))) (
 Q (.int .i64 0) s1.2)
def f32 (Φ : Calls') (a0 a1 a2 a3 : AV) (H : AH) (Q : Post) : Prop :=
 LoopP (f32_l1 Φ a0 a1 a2 a3 Q) ([(.int .i64 0)], H)
noncomputable def ir_f32 : AFunc := decF Go.Proofs.YtjnhnoldfbkgmaaGreatDoor.rb.C ⟨32,[],[[10]],none,[],[]⟩
theorem eq_f32 (Φ : Calls') (a0 a1 a2 a3 : AV) (H : AH) (Q : Post) : fnE1 Φ ir_f32 [a0, a1, a2, a3] H Q = f32 Φ a0 a1 a2 a3 H Q := by kernel_rfl
def f33_k1 (Φ : Calls') (s12 : List AV × AH) (L13 : (List AV × AH) → Prop) (Q : Post) : List AV → AH → Prop := fun j15 H16 =>
 Do (abin .add (sl s12.1 1) (.int .i64 1)) fun x28 =>
 L13 ([(sl j15 0), x28], H16)
def f33_k2 (Φ : Calls') (a0 : AV) (s12 : List AV × AH) (L13 : (List AV × AH) → Prop) (Q : Post) : List AV → AH → Prop := fun j19 H20 =>
Φ K.f32 [a0, (sl s12.1 1), (.int .i64 1), (.bool false)] H20 fun x25 H26 =>
 Do (abin .neq x25 (.int .i64 0)) fun x27 =>
 Gd x27 true (
 Q x25 H26) (
 JoinP (f33_k1 Φ s12 L13 Q) [(sl j19 0)] H26)
def f33_k3 (Φ : Calls') (s1 : List AV × AH) (L2 : (List AV × AH) → Prop) (Q : Post) : List AV → AH → Prop := fun j4 H5 =>
 Do (abin .add (sl s1.1 0) (.int .i64 1)) fun x30 =>
 L2 ([x30], H5)
def f33_k4 (Φ : Calls') (s1 : List AV × AH) (L2 : (List AV × AH) → Prop) (Q : Post) : List AV → AH → Prop := fun j6 H7 =>
 Do (aun .not (sl j6 0)) fun x29 =>
 Gd x29 true (
 Q (.int .i64 0) H7) (
 JoinP (f33_k3 Φ s1 L2 Q) [] H7)
def f33_l5 (Φ : Calls') (a0 x10 x11 : AV) (s1 : List AV × AH) (L2 : (List AV × AH) → Prop) (Q : Post) : (List AV × AH) → ((List AV × AH) → Prop) → Prop := fun s12 L13 =>
 Do (abin .lss (sl s12.1 1) x11) fun x14 =>
 Gd x14 true (
 Do (aiaddr none 1 x10 (sl s12.1 1)) fun x17 =>
 Do (aload s12.2 1 false x17) fun x18 =>
 Gd3 (sl s12.1 0) false (
 Do (anilck x18) fun x21 =>
 Do (afaddr 39 x21) fun x22 =>
 Do (aload s12.2 1 false x22) fun x23 =>
 Do (abin .eql x23 (.int .i64 0)) fun x24 =>
 JoinP (f33_k2 Φ a0 s12 L13 Q) [x24] s12.2) (
 JoinP (f33_k2 Φ a0 s12 L13 Q) [(.bool true)] s12.2) (
 False)) (
 JoinP (f33_k4 Φ s1 L2 Q) [(sl s12.1 0)] s12.2)
def f33_l6 (Φ : Calls') (a0 a1 : AV) (Q : Post) : (List AV × AH) → ((List AV × AH) → Prop) → Prop := fun s1 L2 =>
 Do (abin .lss (sl s1.1 0) a1) fun x3 =>
 Gd x3 true (
 Do (anilck a0) fun x8 =>
 Do (afaddr 0 x8) fun x9 =>
 Do (aload s1.2 1 false x9) fun x10 =>
 Do (alen false x10) fun x11 =>
 LoopP (f33_l5 Φ a0 x10 x11 s1 L2 Q) ([(.bool false), (.int .i64 0)], s1.2)) (
 Q (.int .i64 0) s1.2)
def f33 (Φ : Calls') (a0 a1 : AV) (H : AH) (Q : Post) : Prop :=
 LoopP (f33_l6 Φ a0 a1 Q) ([(.int .i64 0)], H)
noncomputable def ir_f33 : AFunc := decF Go.Proofs.YtjnhnoldfbkgmaaGreatDoor.rb.C ⟨33,[],[[10],[5,17]],none,[],[]⟩
theorem eq_f33 (Φ : Calls') (a0 a1 : AV) (H : AH) (Q : Post) : fnE1 Φ ir_f33 [a0, a1] H Q = f33 Φ a0 a1 H Q := by kernel_rfl
def f34 (Φ : Calls') (a0 : AV) (H : AH) (Q : Post) : Prop :=
 DoH (aboxv H false 7 a0) fun x1 H2 =>
 Do (aload H2 7 true x1) fun x3 =>
Φ K.f65 [x3] H2 fun x4 H5 =>
 Do (aextract 0 x4) fun x6 =>
 Do (aextract 1 x4) fun x7 =>
 Do (abin .eql x7 (.int .i64 0)) fun x8 =>
 Q x8 H5
noncomputable def ir_f34 : AFunc := decF Go.Proofs.YtjnhnoldfbkgmaaGreatDoor.rb.C ⟨34,[],[],none,[],[]⟩
theorem eq_f34 (Φ : Calls') (a0 : AV) (H : AH) (Q : Post) : fnE1 Φ ir_f34 [a0] H Q = f34 Φ a0 H Q := by kernel_rfl
def f35 (Φ : Calls') (a0 : AV) (H : AH) (Q : Post) : Prop :=
Φ K.f66 [a0, (.int .i64 17), (.int .i64 28)] H fun x1 H2 =>
 Q x1 H2
noncomputable def ir_f35 : AFunc := decF Go.Proofs.YtjnhnoldfbkgmaaGreatDoor.rb.C ⟨35,[],[],none,[],[]⟩
theorem eq_f35 (Φ : Calls') (a0 : AV) (H : AH) (Q : Post) : fnE1 Φ ir_f35 [a0] H Q = f35 Φ a0 H Q := by kernel_rfl
def f36_k1 (Φ : Calls') (a0 : AV) (Q : Post) : List AV → AH → Prop := fun j11 H12 =>
 Gd3 (sl j11 0) false (
 Do (abin .eql a0 (.int .i64 28)) fun x14 =>
 Q x14 H12) (
 Q (.bool true) H12) (
 False)
def f36_k2 (Φ : Calls') (a0 : AV) (Q : Post) : List AV → AH → Prop := fun j8 H9 =>
 Gd3 (sl j8 0) false (
 Do (abin .eql a0 (.int .i64 27)) fun x13 =>
 JoinP (f36_k1 Φ a0 Q) [x13] H9) (
 JoinP (f36_k1 Φ a0 Q) [(.bool true)] H9) (
 False)
def f36_k3 (Φ : Calls') (a0 : AV) (Q : Post) : List AV → AH → Prop := fun j5 H6 =>
 Gd3 (sl j5 0) false (
 Do (abin .eql a0 (.int .i64 24)) fun x10 =>
 JoinP (f36_k2 Φ a0 Q) [x10] H6) (
 JoinP (f36_k2 Φ a0 Q) [(.bool true)] H6) (
 False)
def f36_k4 (Φ : Calls') (a0 : AV) (Q : Post) : List AV → AH → Prop := fun j1 H2 =>
 Gd3 (sl j1 0) false (
 Do (abin .eql a0 (.int .i64 23)) fun x7 =>
 JoinP (f36_k3 Φ a0 Q) [x7] H2) (
 JoinP (f36_k3 Φ a0 Q) [(.bool true)] H2) (
 False)
def f36 (Φ : Calls') (a0 : AV) (H : AH) (Q : Post) : Prop :=
 Do (abin .eql a0 (.int .i64 18)) fun x3 =>
 Gd3 x3 false (
 Do (abin .eql a0 (.int .i64 20)) fun x4 =>
 JoinP (f36_k4 Φ a0 Q) [x4] H) (
 JoinP (f36_k4 Φ a0 Q) [(.bool true)] H) (
 False)
noncomputable def ir_f36 : AFunc := decF Go.Proofs.YtjnhnoldfbkgmaaGreatDoor.rb.C ⟨36,[],[],none,[],[]⟩
theorem eq_f36 (Φ : Calls') (a0 : AV) (H : AH) (Q : Post) : fnE1 Φ ir_f36 [a0] H Q = f36 Φ a0 H Q := by kernel_rfl
def f37_k1 (Φ : Calls') (x3 : AV) (j8 : List AV) (Q : Post) : List AV → AH → Prop := fun j18 H19 =>
 Do (abin .geq (sl j18 0) (.int .u64 1099511627776)) fun x35 =>
 Gd x35 true (
 Do (abuild [.int .i64 0, .int .i64 0] [(0, 1, (.int .i64 (-1))), (1, 1, (sl j8 0))]) fun x36 =>
 Do (astore H19 2 x3 x36) fun H37 =>
 Do (aload H37 2 true x3) fun x38 =>
 Q x38 H37) (
 Do (aconv .i64 (sl j18 0)) fun x39 =>
 Do (abuild [.int .i64 0, .int .i64 0] [(0, 1, x39), (1, 1, (sl j8 0))]) fun x40 =>
 Do (astore H19 2 x3 x40) fun H41 =>
 Do (aload H41 2 true x3) fun x42 =>
 Q x42 H41)
def f37_k2 (Φ : Calls') (x1 x3 x16 : AV) (j8 : List AV) (Q : Post) : List AV → AH → Prop := fun j20 H21 =>
 Gd (sl j20 0) true (
 Do (afaddr 6 x1) fun x28 =>
 Do (aload H21 1 false x28) fun x29 =>
 Do (aconv .u64 x29) fun x30 =>
 Do (afaddr 5 x1) fun x31 =>
 Do (aload H21 1 false x31) fun x32 =>
 Do (abin .shl x30 x32) fun x33 =>
 Do (abin .add x16 x33) fun x34 =>
 JoinP (f37_k1 Φ x3 j8 Q) [x34] H21) (
 JoinP (f37_k1 Φ x3 j8 Q) [x16] H21)
def f37_k3 (Φ : Calls') (a0 x1 x3 : AV) (Q : Post) : List AV → AH → Prop := fun j8 H9 =>
 Do (afaddr 2 x1) fun x14 =>
 Do (aload H9 1 false x14) fun x15 =>
Φ K.f39 [a0, x15] H9 fun x16 H17 =>
 Do (afaddr 0 x1) fun x22 =>
 Do (aload H17 1 false x22) fun x23 =>
 Do (abin .eql x23 (.int .i64 17)) fun x24 =>
 Gd3 x24 false (
 Do (afaddr 0 x1) fun x25 =>
 Do (aload H17 1 false x25) fun x26 =>
 Do (abin .eql x26 (.int .i64 18)) fun x27 =>
 JoinP (f37_k2 Φ x1 x3 x16 j8 Q) [x27] H17) (
 JoinP (f37_k2 Φ x1 x3 x16 j8 Q) [(.bool true)] H17) (
 False)
def f37 (Φ : Calls') (a0 a1 : AV) (H : AH) (Q : Post) : Prop :=
 DoH (aboxv H false 7 a1) fun x1 H2 =>
 DoH (some (abox H2 true [.int .i64 0, .int .i64 0])) fun x3 H4 =>
 Do (afaddr 5 x1) fun x5 =>
 Do (aload H4 1 false x5) fun x6 =>
 Do (abin .shl (.int .i64 1) x6) fun x7 =>
 Do (afaddr 0 x1) fun x10 =>
 Do (aload H4 1 false x10) fun x11 =>
Φ K.f40 [x11] H4 fun x12 H13 =>
 Gd x12 true (
 JoinP (f37_k3 Φ a0 x1 x3 Q) [(.int .i64 16)] H13) (
 JoinP (f37_k3 Φ a0 x1 x3 Q) [x7] H13)
noncomputable def ir_f37 : AFunc := decF Go.Proofs.YtjnhnoldfbkgmaaGreatDoor.rb.C ⟨37,[4],[],none,[],[]⟩
theorem eq_f37 (Φ : Calls') (a0 a1 : AV) (H : AH) (Q : Post) : fnE1 Φ ir_f37 [a0, a1] H Q = f37 Φ a0 a1 H Q := by kernel_rfl
def f38 (Φ : Calls') (a0 : AV) (H : AH) (Q : Post) : Prop :=
Φ K.f66 [a0, (.int .i64 21), (.int .i64 28)] H fun x1 H2 =>
 Q x1 H2
noncomputable def ir_f38 : AFunc := decF Go.Proofs.YtjnhnoldfbkgmaaGreatDoor.rb.C ⟨38,[],[],none,[],[]⟩
theorem eq_f38 (Φ : Calls') (a0 : AV) (H : AH) (Q : Post) : fnE1 Φ ir_f38 [a0] H Q = f38 Φ a0 H Q := by kernel_rfl
def f39 (Φ : Calls') (a0 a1 : AV) (H : AH) (Q : Post) : Prop :=
 Do (abin .eql a1 (.int .i64 31)) fun x1 =>
 Gd x1 true (
 Q (.int .u64 0) H) (
 Do (anilck a0) fun x2 =>
 Do (afaddr 0 x2) fun x3 =>
 Do (aiaddr (some 31) 1 x3 a1) fun x4 =>
 Do (aload H 1 false x4) fun x5 =>
 Q x5 H)
noncomputable def ir_f39 : AFunc := decF Go.Proofs.YtjnhnoldfbkgmaaGreatDoor.rb.C ⟨39,[],[],none,[],[]⟩
theorem eq_f39 (Φ : Calls') (a0 a1 : AV) (H : AH) (Q : Post) : fnE1 Φ ir_f39 [a0, a1] H Q = f39 Φ a0 a1 H Q := by kernel_rfl
def f40 (Φ : Calls') (a0 : AV) (H : AH) (Q : Post) : Prop :=
Φ K.f66 [a0, (.int .i64 25), (.int .i64 28)] H fun x1 H2 =>
 Q x1 H2
noncomputable def ir_f40 : AFunc := decF Go.Proofs.YtjnhnoldfbkgmaaGreatDoor.rb.C ⟨40,[],[],none,[],[]⟩
theorem eq_f40 (Φ : Calls') (a0 : AV) (H : AH) (Q : Post) : fnE1 Φ ir_f40 [a0] H Q = f40 Φ a0 H Q := by kernel_rfl
def f41 (Φ : Calls') (a0 : AV) (H : AH) (Q : Post) : Prop :=
 Do (abin .lss a0 (.int .i64 1)) fun x1 =>
 Gd x1 true (
 Q (.int .u64 0) H) (
 Do (abin .geq a0 (.int .i64 64)) fun x2 =>
 Gd x2 true (
 Q (.int .u64 18446744073709551615) H) (
 Do (abin .shl (.int .u64 1) a0) fun x3 =>
 Do (abin .sub x3 (.int .u64 1)) fun x4 =>
 Q x4 H))
noncomputable def ir_f41 : AFunc := decF Go.Proofs.YtjnhnoldfbkgmaaGreatDoor.rb.C ⟨41,[],[],none,[],[]⟩
theorem eq_f41 (Φ : Calls') (a0 : AV) (H : AH) (Q : Post) : fnE1 Φ ir_f41 [a0] H Q = f41 Φ a0 H Q := by kernel_rfl
def f42 (Φ : Calls') (a0 a1 : AV) (H : AH) (Q : Post) : Prop :=
 DoH (aboxv H false 2 a0) fun x1 H2 =>
 DoH (aboxv H2 false 2 a1) fun x3 H4 =>
 Do (aload H4 2 true x1) fun x5 =>
Φ K.f67 [x5] H4 fun x6 H7 =>
 DoH (some (abox H7 true [.int .i64 0, .int .i64 0])) fun x8 H9 =>
 Do (astore H9 2 x8 x6) fun H10 =>
 Do (aload H10 2 true x8) fun x11 =>
Φ K.f68 [x11] H10 fun x12 H13 =>
 Gd3 x12 false (
 Do (aload H13 2 true x8) fun x14 =>
 Do (aload H13 2 true x3) fun x15 =>
 Do (aload H13 2 true x8) fun x16 =>
Φ K.f67 [x15] H13 fun x17 H18 =>
(((.bool false) : AV) = .bool false → aload H18 2 true x8 = some x14) ∧
(((.bool false) : AV) = .bool false → aload H18 2 true x8 = some x16) ∧
(Φ K.f69 [x14, x17] H18 fun x19 H20 =>
(((.bool false) : AV) = .bool false → aload H20 2 true x8 = some x16) ∧
(Do (aeqAgg false [.n, .n] x19 x16) fun x21 =>
 Q x21 H20))) (
(((.bool true) : AV) = .bool false → aload H13 2 true x8 = some (.tup [])) ∧
(((.bool true) : AV) = .bool false → aload H13 2 true x8 = some (.tup [])) ∧
((((.bool true) : AV) = .bool false → aload H13 2 true x8 = some (.tup [])) ∧
(Q (.bool true) H13))) (
(((.tup []) : AV) = .bool false → aload H13 2 true x8 = some (.tup [])) ∧
(((.tup []) : AV) = .bool false → aload H13 2 true x8 = some (.tup [])) ∧
((((.tup []) : AV) = .bool false → aload H13 2 true x8 = some (.tup [])) ∧
(False)))
noncomputable def ir_f42 : AFunc := decF Go.Proofs.YtjnhnoldfbkgmaaGreatDoor.rb.C ⟨42,[5],[],none,[],[]⟩
theorem eq_f42 (Φ : Calls') (a0 a1 : AV) (H : AH) (Q : Post) : fnE1 Φ ir_f42 [a0, a1] H Q = f42 Φ a0 a1 H Q := by kernel_rfl
def f43_l1 (Φ : Calls') (x3 x4 : AV) (Q : Post) : (List AV × AH) → ((List AV × AH) → Prop) → Prop := fun s5 L6 =>
 Do (abin .lss (sl s5.1 1) x4) fun x7 =>
 Gd x7 true (
 Do (aiaddr none 1 x3 (sl s5.1 1)) fun x8 =>
 Do (aload s5.2 1 false x8) fun x9 =>
 Do (aconv .u64 x9) fun x10 =>
 Do (abin .mul (.int .i64 8) (sl s5.1 1)) fun x11 =>
 Do (abin .shl x10 x11) fun x12 =>
 Do (abin .or (sl s5.1 0) x12) fun x13 =>
 Do (abin .add (sl s5.1 1) (.int .i64 1)) fun x14 =>
 L6 ([x13, x14], s5.2)) (
 Q (sl s5.1 0) s5.2)
def f43 (Φ : Calls') (a0 : AV) (H : AH) (Q : Post) : Prop :=
 Do (alen false a0) fun x1 =>
 Do (aminmax false [x1, (.int .i64 8)]) fun x2 =>
 Do (aslice 1 a0 none (some x2) none) fun x3 =>
 Do (alen false x3) fun x4 =>
 LoopP (f43_l1 Φ x3 x4 Q) ([(.int .u64 0), (.int .i64 0)], H)
noncomputable def ir_f43 : AFunc := decF Go.Proofs.YtjnhnoldfbkgmaaGreatDoor.rb.C ⟨43,[],[[3,12]],none,[],[]⟩
theorem eq_f43 (Φ : Calls') (a0 : AV) (H : AH) (Q : Post) : fnE1 Φ ir_f43 [a0] H Q = f43 Φ a0 H Q := by kernel_rfl
def f44_k1 (Φ : Calls') (x3 : AV) (Q : Post) : List AV → AH → Prop := fun j5 H6 =>
 DoH (afreeze H6 x3) fun x17 H18 =>
 Q x17 H18
def f44_l2 (Φ : Calls') (a0 x3 x7 : AV) (Q : Post) : (List AV × AH) → ((List AV × AH) → Prop) → Prop := fun s8 L9 =>
 Do (abin .lss (sl s8.1 0) x7) fun x10 =>
 Gd x10 true (
 Do (abin .mul (.int .i64 8) (sl s8.1 0)) fun x11 =>
 Do (abin .shr a0 x11) fun x12 =>
 Do (aconv .u8 x12) fun x13 =>
 Do (aiaddr none 1 x3 (sl s8.1 0)) fun x14 =>
 Do (astore s8.2 1 x14 x13) fun H15 =>
 Do (abin .add (sl s8.1 0) (.int .i64 1)) fun x16 =>
 L9 ([x16], H15)) (
 JoinP (f44_k1 Φ x3 Q) [] s8.2)
def f44 (Φ : Calls') (a0 a1 : AV) (H : AH) (Q : Post) : Prop :=
 Do (aminmax true [a1, (.int .i64 0)]) fun x1 =>
 Do (aminmax false [x1, (.int .i64 8)]) fun x2 =>
 DoH (amake H true 1 1 [.int .u8 0] x2 x2) fun x3 H4 =>
 Do (alen false x3) fun x7 =>
 LoopP (f44_l2 Φ a0 x3 x7 Q) ([(.int .i64 0)], H4)
noncomputable def ir_f44 : AFunc := decF Go.Proofs.YtjnhnoldfbkgmaaGreatDoor.rb.C ⟨44,[10],[[13]],none,[],[(7,[5])]⟩
theorem eq_f44 (Φ : Calls') (a0 a1 : AV) (H : AH) (Q : Post) : fnE1 Φ ir_f44 [a0, a1] H Q = f44 Φ a0 a1 H Q := by kernel_rfl
def f45 (Φ : Calls') (a0 a1 : AV) (H : AH) (Q : Post) : Prop :=
 DoH (aboxv H false 2 a0) fun x1 H2 =>
 DoH (aboxv H2 false 2 a1) fun x3 H4 =>
 Do (aload H4 2 true x1) fun x5 =>
 Do (aload H4 2 true x3) fun x6 =>
Φ K.f67 [x5] H4 fun x7 H8 =>
(aload H8 2 true x3 = some x6) ∧
(Φ K.f67 [x6] H8 fun x9 H10 =>
Φ K.f69 [x7, x9] H10 fun x11 H12 =>
Φ K.f68 [x11] H12 fun x13 H14 =>
 Do (aun .not x13) fun x15 =>
 Q x15 H14)
noncomputable def ir_f45 : AFunc := decF Go.Proofs.YtjnhnoldfbkgmaaGreatDoor.rb.C ⟨45,[],[],none,[],[]⟩
theorem eq_f45 (Φ : Calls') (a0 a1 : AV) (H : AH) (Q : Post) : fnE1 Φ ir_f45 [a0, a1] H Q = f45 Φ a0 a1 H Q := by kernel_rfl
def f46 (Φ : Calls') (a0 a1 : AV) (H : AH) (Q : Post) : Prop :=
 DoH (aboxv H false 7 a1) fun x1 H2 =>
 Do (afaddr 0 x1) fun x3 =>
 Do (aload H2 1 false x3) fun x4 =>
 Do (abin .eql x4 (.int .i64 13)) fun x5 =>
 Gd x5 true (
 Q (.bool true) H2) (
 Do (abin .eql x4 (.int .i64 14)) fun x6 =>
 Gd x6 true (
 Do (afaddr 4 x1) fun x7 =>
 Do (aload H2 1 false x7) fun x8 =>
Φ K.f70 [a0, x8] H2 fun x9 H10 =>
 Q x9 H10) (
 Do (abin .eql x4 (.int .i64 15)) fun x11 =>
 Gd x11 true (
 Do (afaddr 1 x1) fun x12 =>
 Do (aload H2 1 false x12) fun x13 =>
Φ K.f39 [a0, x13] H2 fun x14 H15 =>
 Do (abin .eql x14 (.int .u64 0)) fun x16 =>
 Q x16 H15) (
 Do (abin .eql x4 (.int .i64 16)) fun x17 =>
 Gd x17 true (
 Do (afaddr 1 x1) fun x18 =>
 Do (aload H2 1 false x18) fun x19 =>
Φ K.f39 [a0, x19] H2 fun x20 H21 =>
 Do (abin .neq x20 (.int .u64 0)) fun x22 =>
 Q x22 H21) (
 Q (.bool false) H2))))
noncomputable def ir_f46 : AFunc := decF Go.Proofs.YtjnhnoldfbkgmaaGreatDoor.rb.C ⟨46,[],[],none,[],[]⟩
theorem eq_f46 (Φ : Calls') (a0 a1 : AV) (H : AH) (Q : Post) : fnE1 Φ ir_f46 [a0, a1] H Q = f46 Φ a0 a1 H Q := by kernel_rfl
def f47_k1 (Φ : Calls') (a0 x1 x7 x9 x12 : AV) (Q : Post) : List AV → AH → Prop := fun j36 H37 =>
 Gd (sl j36 0) true (
 Do (abin .sub x7 x9) fun x39 =>
 Q (.tup [x39, (.bool true)]) H37) (
 Do (abin .eql x12 (.int .i64 6)) fun x40 =>
 Gd x40 true (
 Do (abin .and x7 x9) fun x41 =>
 Q (.tup [x41, (.bool true)]) H37) (
 Do (abin .eql x12 (.int .i64 7)) fun x42 =>
 Gd x42 true (
 Do (abin .or x7 x9) fun x43 =>
 Q (.tup [x43, (.bool true)]) H37) (
 Do (abin .eql x12 (.int .i64 8)) fun x44 =>
 Gd x44 true (
 Do (abin .xor x7 x9) fun x45 =>
 Q (.tup [x45, (.bool true)]) H37) (
 Do (abin .eql x12 (.int .i64 9)) fun x46 =>
 Gd x46 true (
 Do (abin .mul x7 x9) fun x47 =>
 Q (.tup [x47, (.bool true)]) H37) (
 Do (abin .eql x12 (.int .i64 10)) fun x48 =>
 Gd x48 true (
 Do (abin .rem x9 (.int .u64 64)) fun x49 =>
 Do (abin .shl x7 x49) fun x50 =>
 Q (.tup [x50, (.bool true)]) H37) (
 Do (abin .eql x12 (.int .i64 11)) fun x51 =>
 Gd x51 true (
 Do (abin .rem x9 (.int .u64 64)) fun x52 =>
 Do (abin .shr x7 x52) fun x53 =>
 Q (.tup [x53, (.bool true)]) H37) (
 Do (abin .eql x12 (.int .i64 12)) fun x54 =>
 Gd x54 true (
 Do (afaddr 4 x1) fun x55 =>
 Do (aload H37 1 false x55) fun x56 =>
Φ K.f70 [a0, x56] H37 fun x57 H58 =>
 Gd x57 true (
 Q (.tup [(.int .u64 1), (.bool true)]) H58) (
 Q (.tup [(.int .u64 0), (.bool true)]) H58)) (
 Q (.tup [(.int .u64 0), (.bool false)]) H37))))))))
def f47 (Φ : Calls') (a0 a1 : AV) (H : AH) (Q : Post) : Prop :=
 DoH (aboxv H false 7 a1) fun x1 H2 =>
 Do (afaddr 2 x1) fun x3 =>
 Do (aload H2 1 false x3) fun x4 =>
 Do (afaddr 3 x1) fun x5 =>
 Do (aload H2 1 false x5) fun x6 =>
Φ K.f39 [a0, x4] H2 fun x7 H8 =>
(aload H8 1 false x5 = some x6) ∧
(Φ K.f39 [a0, x6] H8 fun x9 H10 =>
 Do (afaddr 0 x1) fun x11 =>
 Do (aload H10 1 false x11) fun x12 =>
 Do (abin .eql x12 (.int .i64 1)) fun x13 =>
 Gd x13 true (
 Do (afaddr 6 x1) fun x14 =>
 Do (aload H10 1 false x14) fun x15 =>
 Do (aconv .u64 x15) fun x16 =>
 Do (afaddr 4 x1) fun x17 =>
 Do (aload H10 1 false x17) fun x18 =>
 Do (abin .mul (.int .i64 16) x18) fun x19 =>
 Do (abin .shl x16 x19) fun x20 =>
 Q (.tup [x20, (.bool true)]) H10) (
 Do (abin .eql x12 (.int .i64 2)) fun x21 =>
 Gd x21 true (
 Do (afaddr 1 x1) fun x22 =>
 Do (aload H10 1 false x22) fun x23 =>
 Do (afaddr 4 x1) fun x24 =>
 Do (aload H10 1 false x24) fun x25 =>
 Do (abin .mul (.int .i64 16) x25) fun x26 =>
 Do (afaddr 6 x1) fun x27 =>
 Do (aload H10 1 false x27) fun x28 =>
 Do (aconv .u64 x28) fun x29 =>
Φ K.f39 [a0, x23] H10 fun x30 H31 =>
(aload H31 1 false x24 = some x25) ∧
(aload H31 1 false x27 = some x28) ∧
(Φ K.f71 [x30, x26, (.int .i64 16), x29] H31 fun x32 H33 =>
 Q (.tup [x32, (.bool true)]) H33)) (
 Do (abin .eql x12 (.int .i64 3)) fun x34 =>
 Gd x34 true (
 Do (abin .add x7 x9) fun x35 =>
 Q (.tup [x35, (.bool true)]) H10) (
 Do (abin .eql x12 (.int .i64 4)) fun x38 =>
 Gd x38 true (
 JoinP (f47_k1 Φ a0 x1 x7 x9 x12 Q) [x38] H10) (
 Do (abin .eql x12 (.int .i64 5)) fun x59 =>
 JoinP (f47_k1 Φ a0 x1 x7 x9 x12 Q) [x59] H10)))))
noncomputable def ir_f47 : AFunc := decF Go.Proofs.YtjnhnoldfbkgmaaGreatDoor.rb.C ⟨47,[],[],none,[],[]⟩
theorem eq_f47 (Φ : Calls') (a0 a1 : AV) (H : AH) (Q : Post) : fnE1 Φ ir_f47 [a0, a1] H Q = f47 Φ a0 a1 H Q := by kernel_rfl
def f48_k1 (Φ : Calls') (a0 x1 : AV) (Q : Post) : List AV → AH → Prop := fun j21 H22 =>
 Do (afaddr 3 x1) fun x23 =>
 Do (aload H22 1 false x23) fun x24 =>
Φ K.f49 [a0, x24, (sl j21 0)] H22 fun x25 H26 =>
 Do (abuild [.int .i64 0, .int .i64 0] []) fun x27 =>
 Do (anilck a0) fun x28 =>
 Do (afaddr 34 x28) fun x29 =>
 Do (astore H26 2 x29 x27) fun H30 =>
 Q (.tup []) H30
def f48_k2 (Φ : Calls') (a0 a3 x1 x3 x8 : AV) (Q : Post) : List AV → AH → Prop := fun j11 H12 =>
 Gd (sl j11 0) true (
 Gd a3 true (
 JoinP (f48_k1 Φ a0 x1 Q) [(.int .u64 0)] H12) (
 JoinP (f48_k1 Φ a0 x1 Q) [(.int .u64 1)] H12)) (
 Do (afaddr 0 x1) fun x31 =>
 Do (aload H12 1 false x31) fun x32 =>
Φ K.f36 [x32] H12 fun x33 H34 =>
 Gd x33 true (
 Q (.tup []) H34) (
 Do (afaddr 0 x1) fun x35 =>
 Do (aload H34 1 false x35) fun x36 =>
Φ K.f40 [x36] H34 fun x37 H38 =>
 Gd x37 true (
 Do (afaddr 1 x1) fun x39 =>
 Do (aload H38 1 false x39) fun x40 =>
 Do (aiaddr (some 2) 1 x3 (.int .i64 0)) fun x41 =>
 Do (aload H38 1 false x41) fun x42 =>
Φ K.f49 [a0, x40, x42] H38 fun x43 H44 =>
 Do (afaddr 4 x1) fun x45 =>
 Do (aload H44 1 false x45) fun x46 =>
 Do (aiaddr (some 2) 1 x3 (.int .i64 1)) fun x47 =>
 Do (aload H44 1 false x47) fun x48 =>
Φ K.f49 [a0, x46, x48] H44 fun x49 H50 =>
 Do (aload H50 2 true x8) fun x51 =>
 Do (anilck a0) fun x52 =>
 Do (afaddr 34 x52) fun x53 =>
 Do (astore H50 2 x53 x51) fun H54 =>
 Q (.tup []) H54) (
 Do (afaddr 1 x1) fun x55 =>
 Do (aload H38 1 false x55) fun x56 =>
 Do (aiaddr (some 2) 1 x3 (.int .i64 0)) fun x57 =>
 Do (aload H38 1 false x57) fun x58 =>
 Do (afaddr 1 x8) fun x59 =>
 Do (aload H38 1 false x59) fun x60 =>
 Do (abin .mul (.int .i64 8) x60) fun x61 =>
Φ K.f41 [x61] H38 fun x62 H63 =>
(aload H63 1 false x55 = some x56) ∧
(aload H63 1 false x57 = some x58) ∧
(Do (abin .and x58 x62) fun x64 =>
Φ K.f49 [a0, x56, x64] H63 fun x65 H66 =>
 Do (afaddr 0 x1) fun x67 =>
 Do (aload H66 1 false x67) fun x68 =>
Φ K.f38 [x68] H66 fun x69 H70 =>
 Gd x69 true (
 Do (aload H70 2 true x8) fun x71 =>
 Do (anilck a0) fun x72 =>
 Do (afaddr 34 x72) fun x73 =>
 Do (astore H70 2 x73 x71) fun H74 =>
 Q (.tup []) H74) (
 Q (.tup []) H70)))))
def f48 (Φ : Calls') (a0 a1 a2 a3 : AV) (H : AH) (Q : Post) : Prop :=
 DoH (aboxv H false 7 a1) fun x1 H2 =>
 DoH (aboxv H2 false 2 a2) fun x3 H4 =>
 Do (aload H4 7 true x1) fun x5 =>
Φ K.f37 [a0, x5] H4 fun x6 H7 =>
 DoH (some (abox H7 true [.int .i64 0, .int .i64 0])) fun x8 H9 =>
 Do (astore H9 2 x8 x6) fun H10 =>
 Do (afaddr 0 x1) fun x13 =>
 Do (aload H10 1 false x13) fun x14 =>
Φ K.f36 [x14] H10 fun x15 H16 =>
 Gd3 x15 true (
 Do (afaddr 0 x1) fun x17 =>
 Do (aload H16 1 false x17) fun x18 =>
Φ K.f38 [x18] H16 fun x19 H20 =>
 JoinP (f48_k2 Φ a0 a3 x1 x3 x8 Q) [x19] H20) (
 JoinP (f48_k2 Φ a0 a3 x1 x3 x8 Q) [(.bool false)] H16) (
 False)
noncomputable def ir_f48 : AFunc := decF Go.Proofs.YtjnhnoldfbkgmaaGreatDoor.rb.C ⟨48,[8],[],none,[],[]⟩
theorem eq_f48 (Φ : Calls') (a0 a1 a2 a3 : AV) (H : AH) (Q : Post) : fnE1 Φ ir_f48 [a0, a1, a2, a3] H Q = f48 Φ a0 a1 a2 a3 H Q := by kernel_rfl
def f49 (Φ : Calls') (a0 a1 a2 : AV) (H : AH) (Q : Post) : Prop :=
 Do (abin .neq a1 (.int .i64 31)) fun x1 =>
 Gd x1 true (
 Do (anilck a0) fun x2 =>
 Do (afaddr 0 x2) fun x3 =>
 Do (aiaddr (some 31) 1 x3 a1) fun x4 =>
 Do (astore H 1 x4 a2) fun H5 =>
 Q (.tup []) H5) (
 Q (.tup []) H)
noncomputable def ir_f49 : AFunc := decF Go.Proofs.YtjnhnoldfbkgmaaGreatDoor.rb.C ⟨49,[],[],none,[],[]⟩
theorem eq_f49 (Φ : Calls') (a0 a1 a2 : AV) (H : AH) (Q : Post) : fnE1 Φ ir_f49 [a0, a1, a2] H Q = f49 Φ a0 a1 a2 H Q := by kernel_rfl
def f60 (Φ : Calls') (a0 : AV) (H : AH) (Q : Post) : Prop :=
 DoH (some (abox H true [.int .u32 0, .str []])) fun x1 H2 =>
 Do (abin .eql a0 (.int .i64 1)) fun x3 =>
 Gd x3 true (
 Do (abuild [.int .u32 0, .str []] [(0, 1, (.int .u32 3531603968)), (1, 1, (.str [100, 105, 113]))]) fun x4 =>
 Do (astore H2 2 x1 x4) fun H5 =>
 Do (aload H5 2 true x1) fun x6 =>
 Q x6 H5) (
 Do (abin .eql a0 (.int .i64 2)) fun x7 =>
 Gd x7 true (
 Do (abuild [.int .u32 0, .str []] [(0, 1, (.int .u32 4068474880)), (1, 1, (.str [100, 105, 113]))]) fun x8 =>
 Do (astore H2 2 x1 x8) fun H9 =>
 Do (aload H9 2 true x1) fun x10 =>
 Q x10 H9) (
 Do (abin .eql a0 (.int .i64 3)) fun x11 =>
 Gd x11 true (
 Do (abuild [.int .u32 0, .str []] [(0, 1, (.int .u32 2332033024)), (1, 1, (.str [100, 110, 109]))]) fun x12 =>
 Do (astore H2 2 x1 x12) fun H13 =>
 Do (aload H13 2 true x1) fun x14 =>
 Q x14 H13) (
 Do (abin .eql a0 (.int .i64 4)) fun x15 =>
 Gd x15 true (
 Do (abuild [.int .u32 0, .str []] [(0, 1, (.int .u32 3405774848)), (1, 1, (.str [100, 110, 109]))]) fun x16 =>
 Do (astore H2 2 x1 x16) fun H17 =>
 Do (aload H17 2 true x1) fun x18 =>
 Q x18 H17) (
 Do (abin .eql a0 (.int .i64 5)) fun x19 =>
 Gd x19 true (
 Do (abuild [.int .u32 0, .str []] [(0, 1, (.int .u32 3942645760)), (1, 1, (.str [100, 110, 109]))]) fun x20 =>
 Do (astore H2 2 x1 x20) fun H21 =>
 Do (aload H21 2 true x1) fun x22 =>
 Q x22 H21) (
 Do (abin .eql a0 (.int .i64 6)) fun x23 =>
 Gd x23 true (
 Do (abuild [.int .u32 0, .str []] [(0, 1, (.int .u32 2315255808)), (1, 1, (.str [100, 110, 109]))]) fun x24 =>
 Do (astore H2 2 x1 x24) fun H25 =>
 Do (aload H25 2 true x1) fun x26 =>
 Q x26 H25) (
 Do (abin .eql a0 (.int .i64 7)) fun x27 =>
 Gd x27 true (
 Do (abuild [.int .u32 0, .str []] [(0, 1, (.int .u32 2852126720)), (1, 1, (.str [100, 110, 109]))]) fun x28 =>
 Do (astore H2 2 x1 x28) fun H29 =>
 Do (aload H29 2 true x1) fun x30 =>
 Q x30 H29) (
 Do (abin .eql a0 (.int .i64 8)) fun x31 =>
 Gd x31 true (
 Do (abuild [.int .u32 0, .str []] [(0, 1, (.int .u32 3388997632)), (1, 1, (.str [100, 110, 109]))]) fun x32 =>
 Do (astore H2 2 x1 x32) fun H33 =>
 Do (aload H33 2 true x1) fun x34 =>
 Q x34 H33) (
 Do (abin .eql a0 (.int .i64 9)) fun x35 =>
 Gd x35 true (
 Do (abuild [.int .u32 0, .str []] [(0, 1, (.int .u32 2600500224)), (1, 1, (.str [100, 110, 109]))]) fun x36 =>
 Do (astore H2 2 x1 x36) fun H37 =>
 Do (aload H37 2 true x1) fun x38 =>
 Q x38 H37) (
 Do (abin .eql a0 (.int .i64 10)) fun x39 =>
 Gd x39 true (
 Do (abuild [.int .u32 0, .str []] [(0, 1, (.int .u32 2596282368)), (1, 1, (.str [100, 110, 109]))]) fun x40 =>
 Do (astore H2 2 x1 x40) fun H41 =>
 Do (aload H41 2 true x1) fun x42 =>
 Q x42 H41) (
 Do (abin .eql a0 (.int .i64 11)) fun x43 =>
 Gd x43 true (
 Do (abuild [.int .u32 0, .str []] [(0, 1, (.int .u32 2596283392)), (1, 1, (.str [100, 110, 109]))]) fun x44 =>
 Do (astore H2 2 x1 x44) fun H45 =>
 Do (aload H45 2 true x1) fun x46 =>
 Q x46 H45) (
 Do (abin .eql a0 (.int .i64 12)) fun x47 =>
 Gd x47 true (
 Do (abuild [.int .u32 0, .str []] [(0, 1, (.int .u32 2594113504)), (1, 1, (.str [100, 107]))]) fun x48 =>
 Do (astore H2 2 x1 x48) fun H49 =>
 Do (aload H49 2 true x1) fun x50 =>
 Q x50 H49) (
Φ K.f93 [a0] H2 fun x51 H52 =>
 Do (astore H52 2 x1 x51) fun H53 =>
 Do (aload H53 2 true x1) fun x54 =>
 Q x54 H53))))))))))))
noncomputable def ir_f60 : AFunc := decF Go.Proofs.YtjnhnoldfbkgmaaGreatDoor.rb.C ⟨60,[2],[],none,[],[]⟩
theorem eq_f60 (Φ : Calls') (a0 : AV) (H : AH) (Q : Post) : fnE1 Φ ir_f60 [a0] H Q = f60 Φ a0 H Q := by kernel_rfl
def f61 (Φ : Calls') (a0 : AV) (H : AH) (Q : Post) : Prop :=
 DoH (some (abox H true [.int .i64 0, .int .i64 0, .bool false, .int .u32 0, .int .i64 0])) fun x1 H2 =>
 Do (abin .eql a0 (.int .u8 100)) fun x3 =>
 Gd x3 true (
 Do (abuild [.int .i64 0, .int .i64 0, .bool false, .int .u32 0, .int .i64 0] [(0, 1, (.int .i64 0)), (1, 1, (.int .i64 5)), (4, 1, (.int .i64 31))]) fun x4 =>
 Do (astore H2 5 x1 x4) fun H5 =>
 Do (aload H5 5 true x1) fun x6 =>
 Q x6 H5) (
 Do (abin .eql a0 (.int .u8 110)) fun x7 =>
 Gd x7 true (
 Do (abuild [.int .i64 0, .int .i64 0, .bool false, .int .u32 0, .int .i64 0] [(0, 1, (.int .i64 5)), (1, 1, (.int .i64 5)), (4, 1, (.int .i64 31))]) fun x8 =>
 Do (astore H2 5 x1 x8) fun H9 =>
 Do (aload H9 5 true x1) fun x10 =>
 Q x10 H9) (
 Do (abin .eql a0 (.int .u8 97)) fun x11 =>
 Gd x11 true (
 Do (abuild [.int .i64 0, .int .i64 0, .bool false, .int .u32 0, .int .i64 0] [(0, 1, (.int .i64 5)), (1, 1, (.int .i64 5)), (4, 1, (.int .i64 30))]) fun x12 =>
 Do (astore H2 5 x1 x12) fun H13 =>
 Do (aload H13 5 true x1) fun x14 =>
 Q x14 H13) (
 Do (abin .eql a0 (.int .u8 109)) fun x15 =>
 Gd x15 true (
 Do (abuild [.int .i64 0, .int .i64 0, .bool false, .int .u32 0, .int .i64 0] [(0, 1, (.int .i64 16)), (1, 1, (.int .i64 5)), (4, 1, (.int .i64 31))]) fun x16 =>
 Do (astore H2 5 x1 x16) fun H17 =>
 Do (aload H17 5 true x1) fun x18 =>
 Q x18 H17) (
 Do (abin .eql a0 (.int .u8 101)) fun x19 =>
 Gd x19 true (
 Do (abuild [.int .i64 0, .int .i64 0, .bool false, .int .u32 0, .int .i64 0] [(0, 1, (.int .i64 10)), (1, 1, (.int .i64 5)), (4, 1, (.int .i64 31))]) fun x20 =>
 Do (astore H2 5 x1 x20) fun H21 =>
 Do (aload H21 5 true x1) fun x22 =>
 Q x22 H21) (
 Do (abin .eql a0 (.int .u8 113)) fun x23 =>
 Gd x23 true (
 Do (abuild [.int .i64 0, .int .i64 0, .bool false, .int .u32 0, .int .i64 0] [(0, 1, (.int .i64 21)), (1, 1, (.int .i64 2)), (4, 1, (.int .i64 3))]) fun x24 =>
 Do (astore H2 5 x1 x24) fun H25 =>
 Do (aload H25 5 true x1) fun x26 =>
 Q x26 H25) (
 Do (abin .eql a0 (.int .u8 99)) fun x27 =>
 Gd x27 true (
 Do (abuild [.int .i64 0, .int .i64 0, .bool false, .int .u32 0, .int .i64 0] [(0, 1, (.int .i64 0)), (1, 1, (.int .i64 2)), (4, 1, (.int .i64 3))]) fun x28 =>
 Do (astore H2 5 x1 x28) fun H29 =>
 Do (aload H29 5 true x1) fun x30 =>
 Q x30 H29) (
 Do (abin .eql a0 (.int .u8 107)) fun x31 =>
 Gd x31 true (
 Do (abuild [.int .i64 0, .int .i64 0, .bool false, .int .u32 0, .int .i64 0] [(0, 1, (.int .i64 12)), (1, 1, (.int .i64 2)), (4, 1, (.int .i64 3)), (3, 1, (.int .u32 1))]) fun x32 =>
 Do (astore H2 5 x1 x32) fun H33 =>
 Do (aload H33 5 true x1) fun x34 =>
 Q x34 H33) (
 Do (abin .eql a0 (.int .u8 115)) fun x35 =>
 Gd x35 true (
 Do (abuild [.int .i64 0, .int .i64 0, .bool false, .int .u32 0, .int .i64 0] [(0, 1, (.int .i64 30)), (1, 1, (.int .i64 2)), (4, 1, (.int .i64 3))]) fun x36 =>
 Do (astore H2 5 x1 x36) fun H37 =>
 Do (aload H37 5 true x1) fun x38 =>
 Q x38 H37) (
 Do (abin .eql a0 (.int .u8 105)) fun x39 =>
 Gd x39 true (
 Do (abuild [.int .i64 0, .int .i64 0, .bool false, .int .u32 0, .int .i64 0] [(0, 1, (.int .i64 5)), (1, 1, (.int .i64 16)), (4, 1, (.int .i64 65535))]) fun x40 =>
 Do (astore H2 5 x1 x40) fun H41 =>
 Do (aload H41 5 true x1) fun x42 =>
 Q x42 H41) (
 Do (abin .eql a0 (.int .u8 111)) fun x43 =>
 Gd x43 true (
 Do (abuild [.int .i64 0, .int .i64 0, .bool false, .int .u32 0, .int .i64 0] [(0, 1, (.int .i64 10)), (1, 1, (.int .i64 12)), (4, 1, (.int .i64 4095))]) fun x44 =>
 Do (astore H2 5 x1 x44) fun H45 =>
 Do (aload H45 5 true x1) fun x46 =>
 Q x46 H45) (
 Do (abin .eql a0 (.int .u8 98)) fun x47 =>
 Gd x47 true (
 Do (abuild [.int .i64 0, .int .i64 0, .bool false, .int .u32 0, .int .i64 0] [(0, 1, (.int .i64 0)), (1, 1, (.int .i64 26)), (2, 1, (.bool true))]) fun x48 =>
 Do (astore H2 5 x1 x48) fun H49 =>
 Do (aload H49 5 true x1) fun x50 =>
 Q x50 H49) (
 Do (abin .eql a0 (.int .u8 120)) fun x51 =>
 Gd x51 true (
 Do (abuild [.int .i64 0, .int .i64 0, .bool false, .int .u32 0, .int .i64 0] [(0, 1, (.int .i64 5)), (1, 1, (.int .i64 19)), (2, 1, (.bool true))]) fun x52 =>
 Do (astore H2 5 x1 x52) fun H53 =>
 Do (aload H53 5 true x1) fun x54 =>
 Q x54 H53) (
 Do (abin .eql a0 (.int .u8 102)) fun x55 =>
 Gd x55 true (
 Do (abuild [.int .i64 0, .int .i64 0, .bool false, .int .u32 0, .int .i64 0] [(0, 1, (.int .i64 8)), (1, 1, (.int .i64 4)), (4, 1, (.int .i64 2))]) fun x56 =>
 Do (astore H2 5 x1 x56) fun H57 =>
 Do (aload H57 5 true x1) fun x58 =>
 Q x58 H57) (
 Do (abuild [.int .i64 0, .int .i64 0, .bool false, .int .u32 0, .int .i64 0] []) fun x59 =>
 Do (astore H2 5 x1 x59) fun H60 =>
 Do (aload H60 5 true x1) fun x61 =>
 Q x61 H60))))))))))))))
noncomputable def ir_f61 : AFunc := decF Go.Proofs.YtjnhnoldfbkgmaaGreatDoor.rb.C ⟨61,[2],[],none,[],[]⟩
theorem eq_f61 (Φ : Calls') (a0 : AV) (H : AH) (Q : Post) : fnE1 Φ ir_f61 [a0] H Q = f61 Φ a0 H Q := by kernel_rfl
def f62_l1 (Φ : Calls') (x9 x11 : AV) (Q : Post) : (List AV × AH) → ((List AV × AH) → Prop) → Prop := fun s13 L14 =>
 Do (abin .lss (sl s13.1 0) (.int .i64 3)) fun x15 =>
 Gd x15 true (
 Do (aidx 3 1 false x11 (sl s13.1 0)) fun x16 =>
 Do (abin .eql x16 x9) fun x17 =>
 Gd x17 true (
 Q (.tup [(sl s13.1 0), (.bool true)]) s13.2) (
 Do (abin .add (sl s13.1 0) (.int .i64 1)) fun x18 =>
 L14 ([x18], s13.2))) (
 Q (.tup [(.int .i64 0), (.bool false)]) s13.2)
def f62_k2 (Φ : Calls') (x1 : AV) (Q : Post) : List AV → AH → Prop := fun j23 H24 =>
 Do (aload H24 5 true x1) fun x38 =>
Φ K.f95 [x38, (sl j23 0)] H24 fun x39 H40 =>
 Q (.tup [(sl j23 0), x39]) H40
def f62_k3 (Φ : Calls') (x1 x22 : AV) (Q : Post) : List AV → AH → Prop := fun j25 H26 =>
 Gd (sl j25 0) true (
 Do (afaddr 1 x1) fun x34 =>
 Do (aload H26 1 false x34) fun x35 =>
 Do (abin .shl (.int .i64 1) x35) fun x36 =>
 Do (abin .sub x22 x36) fun x37 =>
 JoinP (f62_k2 Φ x1 Q) [x37] H26) (
 JoinP (f62_k2 Φ x1 Q) [x22] H26)
def f62 (Φ : Calls') (a0 a1 a2 : AV) (H : AH) (Q : Post) : Prop :=
 DoH (aboxv H false 5 a0) fun x1 H2 =>
 Do (aload H2 5 true x1) fun x3 =>
 Do (afaddr 0 x1) fun x4 =>
 Do (aload H2 1 false x4) fun x5 =>
Φ K.f64 [x3] H2 fun x6 H7 =>
(aload H7 1 false x4 = some x5) ∧
(Do (abin .and a2 x6) fun x8 =>
 Do (abin .shr x8 x5) fun x9 =>
 Do (abin .eql a1 (.int .u8 102)) fun x10 =>
 Gd x10 true (
Φ K.f94 [] H7 fun x11 H12 =>
 LoopP (f62_l1 Φ x9 x11 Q) ([(.int .i64 0)], H12)) (
 Do (afaddr 3 x1) fun x19 =>
 Do (aload H7 1 false x19) fun x20 =>
 Do (abin .xor x9 x20) fun x21 =>
 Do (aconv .i64 x21) fun x22 =>
 Do (afaddr 2 x1) fun x27 =>
 Do (aload H7 1 false x27) fun x28 =>
 Gd3 x28 true (
 Do (afaddr 1 x1) fun x29 =>
 Do (aload H7 1 false x29) fun x30 =>
 Do (abin .sub x30 (.int .i64 1)) fun x31 =>
 Do (abin .shl (.int .i64 1) x31) fun x32 =>
 Do (abin .geq x22 x32) fun x33 =>
 JoinP (f62_k3 Φ x1 x22 Q) [x33] H7) (
 JoinP (f62_k3 Φ x1 x22 Q) [(.bool false)] H7) (
 False)))
noncomputable def ir_f62 : AFunc := decF Go.Proofs.YtjnhnoldfbkgmaaGreatDoor.rb.C ⟨62,[],[[22]],none,[],[]⟩
theorem eq_f62 (Φ : Calls') (a0 a1 a2 : AV) (H : AH) (Q : Post) : fnE1 Φ ir_f62 [a0, a1, a2] H Q = f62 Φ a0 a1 a2 H Q := by kernel_rfl
def f63_k1 (Φ : Calls') (a0 : AV) (Q : Post) : List AV → AH → Prop := fun j1 H2 =>
 Do (anilck a0) fun x22 =>
 Do (afaddr 6 x22) fun x23 =>
 Q x23 H2
def f63_k2 (Φ : Calls') (a0 a1 : AV) (Q : Post) : List AV → AH → Prop := fun j14 H15 =>
 Gd (sl j14 0) true (
 Do (anilck a0) fun x17 =>
 Do (afaddr 4 x17) fun x18 =>
 Q x18 H15) (
 Do (abin .eql a1 (.int .u8 115)) fun x19 =>
 Gd x19 true (
 Do (anilck a0) fun x20 =>
 Do (afaddr 5 x20) fun x21 =>
 Q x21 H15) (
 JoinP (f63_k1 Φ a0 Q) [] H15))
def f63_k3 (Φ : Calls') (a0 a1 : AV) (Q : Post) : List AV → AH → Prop := fun j6 H7 =>
 Gd (sl j6 0) true (
 Do (anilck a0) fun x9 =>
 Do (afaddr 2 x9) fun x10 =>
 Q x10 H7) (
 Do (abin .eql a1 (.int .u8 109)) fun x11 =>
 Gd x11 true (
 Do (anilck a0) fun x12 =>
 Do (afaddr 3 x12) fun x13 =>
 Q x13 H7) (
 Do (abin .eql a1 (.int .u8 101)) fun x16 =>
 Gd x16 true (
 JoinP (f63_k2 Φ a0 a1 Q) [x16] H7) (
 Do (abin .eql a1 (.int .u8 113)) fun x24 =>
 Gd x24 true (
 JoinP (f63_k2 Φ a0 a1 Q) [x24] H7) (
 Do (abin .eql a1 (.int .u8 99)) fun x25 =>
 Gd x25 true (
 JoinP (f63_k2 Φ a0 a1 Q) [x25] H7) (
 Do (abin .eql a1 (.int .u8 107)) fun x26 =>
 JoinP (f63_k2 Φ a0 a1 Q) [x26] H7)))))
def f63 (Φ : Calls') (a0 a1 : AV) (H : AH) (Q : Post) : Prop :=
 Do (abin .eql a1 (.int .u8 100)) fun x3 =>
 Gd x3 true (
 Do (anilck a0) fun x4 =>
 Do (afaddr 1 x4) fun x5 =>
 Q x5 H) (
 Do (abin .eql a1 (.int .u8 110)) fun x8 =>
 Gd x8 true (
 JoinP (f63_k3 Φ a0 a1 Q) [x8] H) (
 Do (abin .eql a1 (.int .u8 97)) fun x27 =>
 JoinP (f63_k3 Φ a0 a1 Q) [x27] H))
noncomputable def ir_f63 : AFunc := decF Go.Proofs.YtjnhnoldfbkgmaaGreatDoor.rb.C ⟨63,[],[],none,[],[]⟩
theorem eq_f63 (Φ : Calls') (a0 a1 : AV) (H : AH) (Q : Post) : fnE1 Φ ir_f63 [a0, a1] H Q = f63 Φ a0 a1 H Q := by kernel_rfl
def f64 (Φ : Calls') (a0 : AV) (H : AH) (Q : Post) : Prop :=
 DoH (aboxv H false 5 a0) fun x1 H2 =>
 Do (afaddr 1 x1) fun x3 =>
 Do (aload H2 1 false x3) fun x4 =>
 Do (abin .shl (.int .u32 1) x4) fun x5 =>
 Do (abin .sub x5 (.int .u32 1)) fun x6 =>
 Do (afaddr 0 x1) fun x7 =>
 Do (aload H2 1 false x7) fun x8 =>
 Do (abin .shl x6 x8) fun x9 =>
 Q x9 H2
noncomputable def ir_f64 : AFunc := decF Go.Proofs.YtjnhnoldfbkgmaaGreatDoor.rb.C ⟨64,[],[],none,[],[]⟩
theorem eq_f64 (Φ : Calls') (a0 : AV) (H : AH) (Q : Post) : fnE1 Φ ir_f64 [a0] H Q = f64 Φ a0 H Q := by kernel_rfl
def f65_k1 (Φ : Calls') (s25 : List AV × AH) (L26 : (List AV × AH) → Prop) (Q : Post) : List AV → AH → Prop := fun j28 H29 =>
 Do (abin .add (sl s25.1 1) (.int .i64 1)) fun x33 =>
 L26 ([(sl j28 0), x33], H29)
def f65_k2 (Φ : Calls') (x1 x16 : AV) (Q : Post) : List AV → AH → Prop := fun j19 H20 =>
 Do (aload H20 7 true x16) fun x59 =>
 Do (afaddr 0 x1) fun x60 =>
 Do (aload H20 1 false x60) fun x61 =>
 Do (abuild [.int .i64 0, .int .i64 0, .int .i64 0, .int .i64 0, .int .i64 0, .int .i64 0, .int .i64 0] [(0, 1, x61)]) fun x62 =>
 Do (aeqAgg true [.n, .n, .n, .n, .n, .n, .n] x59 x62) fun x63 =>
 Gd x63 true (
 Q (.tup [(.int .u32 0), (.int .i64 2)]) H20) (
 Q (.tup [(sl j19 0), (.int .i64 0)]) H20)
def f65_l3 (Φ : Calls') (x1 x16 x23 x24 : AV) (Q : Post) : (List AV × AH) → ((List AV × AH) → Prop) → Prop := fun s25 L26 =>
 Do (abin .lss (sl s25.1 1) x24) fun x27 =>
 Gd x27 true (
 Do (aiaddr none 1 x23 (sl s25.1 1)) fun x30 =>
 Do (aload s25.2 1 false x30) fun x31 =>
 Do (abin .eql x31 (.int .u8 122)) fun x32 =>
 Gd x32 true (
 JoinP (f65_k1 Φ s25 L26 Q) [(sl s25.1 0)] s25.2) (
Φ K.f61 [x31] s25.2 fun x34 H35 =>
 DoH (some (abox H35 true [.int .i64 0, .int .i64 0, .bool false, .int .u32 0, .int .i64 0])) fun x36 H37 =>
 Do (astore H37 5 x36 x34) fun H38 =>
Φ K.f63 [x16, x31] H38 fun x39 H40 =>
 Do (aload H40 5 true x36) fun x41 =>
 Do (anilck x39) fun x42 =>
 Do (aload H40 1 false x42) fun x43 =>
Φ K.f95 [x41, x43] H40 fun x44 H45 =>
 Do (aun .not x44) fun x46 =>
 Gd x46 true (
 Q (.tup [(.int .u32 0), (.int .i64 2)]) H45) (
 Do (aload H45 5 true x36) fun x47 =>
 Do (aload H45 5 true x36) fun x48 =>
 Do (anilck x39) fun x49 =>
 Do (aload H45 1 false x49) fun x50 =>
Φ K.f64 [x47] H45 fun x51 H52 =>
(aload H52 5 true x36 = some x48) ∧
(aload H52 1 false x49 = some x50) ∧
(Do (abin .andNot (sl s25.1 0) x51) fun x53 =>
Φ K.f96 [x48, x31, x50] H52 fun x54 H55 =>
 Do (abin .or x53 x54) fun x56 =>
 Do (anilck x39) fun x57 =>
 Do (astore H55 1 x57 (.int .i64 0)) fun H58 =>
 JoinP (f65_k1 Φ s25 L26 Q) [x56] H58)))) (
 JoinP (f65_k2 Φ x1 x16 Q) [(sl s25.1 0)] s25.2)
def f65 (Φ : Calls') (a0 : AV) (H : AH) (Q : Post) : Prop :=
 DoH (aboxv H false 7 a0) fun x1 H2 =>
 Do (afaddr 0 x1) fun x3 =>
 Do (aload H2 1 false x3) fun x4 =>
Φ K.f60 [x4] H2 fun x5 H6 =>
 DoH (some (abox H6 true [.int .u32 0, .str []])) fun x7 H8 =>
 Do (astore H8 2 x7 x5) fun H9 =>
 Do (afaddr 1 x7) fun x10 =>
 Do (aload H9 1 false x10) fun x11 =>
 Do (abin .eql x11 (.str [])) fun x12 =>
 Gd x12 true (
 Q (.tup [(.int .u32 0), (.int .i64 2)]) H9) (
 Do (afaddr 0 x7) fun x13 =>
 Do (aload H9 1 false x13) fun x14 =>
 Do (aload H9 7 true x1) fun x15 =>
 DoH (some (abox H9 true [.int .i64 0, .int .i64 0, .int .i64 0, .int .i64 0, .int .i64 0, .int .i64 0, .int .i64 0])) fun x16 H17 =>
 Do (astore H17 7 x16 x15) fun H18 =>
 Do (afaddr 1 x7) fun x21 =>
 Do (aload H18 1 false x21) fun x22 =>
 Do (asbytes x22) fun x23 =>
 Do (alen false x23) fun x24 =>
 LoopP (f65_l3 Φ x1 x16 x23 x24 Q) ([x14, (.int .i64 0)], H18))
noncomputable def ir_f65 : AFunc := decF Go.Proofs.YtjnhnoldfbkgmaaGreatDoor.rb.C ⟨65,[4,6,9],[[5,24]],none,[],[]⟩
theorem eq_f65 (Φ : Calls') (a0 : AV) (H : AH) (Q : Post) : fnE1 Φ ir_f65 [a0] H Q = f65 Φ a0 H Q := by kernel_rfl
def f66 (Φ : Calls') (a0 a1 a2 : AV) (H : AH) (Q : Post) : Prop :=
 Do (abin .geq a0 a1) fun x1 =>
 Gd3 x1 true (
 Do (abin .leq a0 a2) fun x2 =>
 Q x2 H) (
 Q (.bool false) H) (
 False)
noncomputable def ir_f66 : AFunc := decF Go.Proofs.YtjnhnoldfbkgmaaGreatDoor.rb.C ⟨66,[],[],none,[],[]⟩
theorem eq_f66 (Φ : Calls') (a0 a1 a2 : AV) (H : AH) (Q : Post) : fnE1 Φ ir_f66 [a0, a1, a2] H Q = f66 Φ a0 a1 a2 H Q := by kernel_rfl
def f67 (Φ : Calls') (a0 : AV) (H : AH) (Q : Post) : Prop :=
 DoH (aboxv H false 2 a0) fun x1 H2 =>
 DoH (some (abox H2 true [.int .i64 0, .int .i64 0])) fun x3 H4 =>
 Do (aload H4 2 true x1) fun x5 =>
Φ K.f97 [x5] H4 fun x6 H7 =>
 Do (aun .not x6) fun x8 =>
 Gd x8 true (
 Do (abuild [.int .i64 0, .int .i64 0] []) fun x9 =>
 Do (astore H7 2 x3 x9) fun H10 =>
 Do (aload H10 2 true x3) fun x11 =>
 Q x11 H10) (
 Do (afaddr 0 x1) fun x12 =>
 Do (aload H7 1 false x12) fun x13 =>
 Do (afaddr 0 x1) fun x14 =>
 Do (aload H7 1 false x14) fun x15 =>
 Do (afaddr 1 x1) fun x16 =>
 Do (aload H7 1 false x16) fun x17 =>
 Do (abin .add x15 x17) fun x18 =>
 Do (abuild [.int .i64 0, .int .i64 0] [(0, 1, x13), (1, 1, x18)]) fun x19 =>
 Do (astore H7 2 x3 x19) fun H20 =>
 Do (aload H20 2 true x3) fun x21 =>
 Q x21 H20)
noncomputable def ir_f67 : AFunc := decF Go.Proofs.YtjnhnoldfbkgmaaGreatDoor.rb.C ⟨67,[2],[],none,[],[]⟩
theorem eq_f67 (Φ : Calls') (a0 : AV) (H : AH) (Q : Post) : fnE1 Φ ir_f67 [a0] H Q = f67 Φ a0 H Q := by kernel_rfl
def f68 (Φ : Calls') (a0 : AV) (H : AH) (Q : Post) : Prop :=
 DoH (aboxv H false 2 a0) fun x1 H2 =>
 Do (afaddr 0 x1) fun x3 =>
 Do (aload H2 1 false x3) fun x4 =>
 Do (afaddr 1 x1) fun x5 =>
 Do (aload H2 1 false x5) fun x6 =>
 Do (abin .eql x4 x6) fun x7 =>
 Q x7 H2
noncomputable def ir_f68 : AFunc := decF Go.Proofs.YtjnhnoldfbkgmaaGreatDoor.rb.C ⟨68,[],[],none,[],[]⟩
theorem eq_f68 (Φ : Calls') (a0 : AV) (H : AH) (Q : Post) : fnE1 Φ ir_f68 [a0] H Q = f68 Φ a0 H Q := by kernel_rfl
def f69 (Φ : Calls') (a0 a1 : AV) (H : AH) (Q : Post) : Prop :=
 DoH (aboxv H false 2 a0) fun x1 H2 =>
 DoH (aboxv H2 false 2 a1) fun x3 H4 =>
 DoH (some (abox H4 true [.int .i64 0, .int .i64 0])) fun x5 H6 =>
 Do (afaddr 0 x1) fun x7 =>
 Do (aload H6 1 false x7) fun x8 =>
 Do (afaddr 0 x3) fun x9 =>
 Do (aload H6 1 false x9) fun x10 =>
 Do (aminmax true [x8, x10]) fun x11 =>
 Do (afaddr 1 x1) fun x12 =>
 Do (aload H6 1 false x12) fun x13 =>
 Do (afaddr 1 x3) fun x14 =>
 Do (aload H6 1 false x14) fun x15 =>
 Do (aminmax false [x13, x15]) fun x16 =>
 Do (abuild [.int .i64 0, .int .i64 0] [(0, 1, x11), (1, 1, x16)]) fun x17 =>
 DoH (some (abox H6 true [.int .i64 0, .int .i64 0])) fun x18 H19 =>
 Do (astore H19 2 x18 x17) fun H20 =>
 Do (afaddr 0 x18) fun x21 =>
 Do (aload H20 1 false x21) fun x22 =>
 Do (afaddr 1 x18) fun x23 =>
 Do (aload H20 1 false x23) fun x24 =>
 Do (abin .geq x22 x24) fun x25 =>
 Gd x25 true (
 Do (abuild [.int .i64 0, .int .i64 0] []) fun x26 =>
 Do (astore H20 2 x5 x26) fun H27 =>
 Do (aload H27 2 true x5) fun x28 =>
 Q x28 H27) (
 Do (aload H20 2 true x18) fun x29 =>
 Do (astore H20 2 x5 x29) fun H30 =>
 Do (aload H30 2 true x5) fun x31 =>
 Q x31 H30)
noncomputable def ir_f69 : AFunc := decF Go.Proofs.YtjnhnoldfbkgmaaGreatDoor.rb.C ⟨69,[4,5],[],none,[],[]⟩
theorem eq_f69 (Φ : Calls') (a0 a1 : AV) (H : AH) (Q : Post) : fnE1 Φ ir_f69 [a0, a1] H Q = f69 Φ a0 a1 H Q := by kernel_rfl
def f70 (Φ : Calls') (a0 a1 : AV) (H : AH) (Q : Post) : Prop :=
 Do (abin .eql a1 (.int .i64 0)) fun x1 =>
 Gd x1 true (
 Do (anilck a0) fun x2 =>
 Do (afaddr 32 x2) fun x3 =>
 Do (aload H 1 false x3) fun x4 =>
 Q x4 H) (
 Do (abin .eql a1 (.int .i64 1)) fun x5 =>
 Gd x5 true (
 Do (anilck a0) fun x6 =>
 Do (afaddr 32 x6) fun x7 =>
 Do (aload H 1 false x7) fun x8 =>
 Do (aun .not x8) fun x9 =>
 Q x9 H) (
 Do (abin .eql a1 (.int .i64 2)) fun x10 =>
 Gd x10 true (
 Do (anilck a0) fun x11 =>
 Do (afaddr 33 x11) fun x12 =>
 Do (aload H 1 false x12) fun x13 =>
 Q x13 H) (
 Do (anilck a0) fun x14 =>
 Do (afaddr 33 x14) fun x15 =>
 Do (aload H 1 false x15) fun x16 =>
 Do (aun .not x16) fun x17 =>
 Q x17 H)))
noncomputable def ir_f70 : AFunc := decF Go.Proofs.YtjnhnoldfbkgmaaGreatDoor.rb.C ⟨70,[],[],none,[],[]⟩
theorem eq_f70 (Φ : Calls') (a0 a1 : AV) (H : AH) (Q : Post) : fnE1 Φ ir_f70 [a0, a1] H Q = f70 Φ a0 a1 H Q := by kernel_rfl
def f71 (Φ : Calls') (a0 a1 a2 a3 : AV) (H : AH) (Q : Post) : Prop :=
Φ K.f98 [a1] H fun x1 H2 =>
 Do (aun .not x1) fun x3 =>
 Gd x3 true (
 Q a0 H2) (
Φ K.f41 [a2] H2 fun x4 H5 =>
 Do (abin .shl x4 a1) fun x6 =>
 Do (abin .andNot a0 x6) fun x7 =>
Φ K.f41 [a2] H5 fun x8 H9 =>
 Do (abin .and a3 x8) fun x10 =>
 Do (abin .shl x10 a1) fun x11 =>
 Do (abin .or x7 x11) fun x12 =>
 Q x12 H9)
noncomputable def ir_f71 : AFunc := decF Go.Proofs.YtjnhnoldfbkgmaaGreatDoor.rb.C ⟨71,[],[],none,[],[]⟩
theorem eq_f71 (Φ : Calls') (a0 a1 a2 a3 : AV) (H : AH) (Q : Post) : fnE1 Φ ir_f71 [a0, a1, a2, a3] H Q = f71 Φ a0 a1 a2 a3 H Q := by kernel_rfl
def f93 (Φ : Calls') (a0 : AV) (H : AH) (Q : Post) : Prop :=
 DoH (some (abox H true [.int .u32 0, .str []])) fun x1 H2 =>
 Do (abin .eql a0 (.int .i64 13)) fun x3 =>
 Gd x3 true (
 Do (abuild [.int .u32 0, .str []] [(0, 1, (.int .u32 335544320)), (1, 1, (.str [98]))]) fun x4 =>
 Do (astore H2 2 x1 x4) fun H5 =>
 Do (aload H5 2 true x1) fun x6 =>
 Q x6 H5) (
 Do (abin .eql a0 (.int .i64 14)) fun x7 =>
 Gd x7 true (
 Do (abuild [.int .u32 0, .str []] [(0, 1, (.int .u32 1409286144)), (1, 1, (.str [120, 99]))]) fun x8 =>
 Do (astore H2 2 x1 x8) fun H9 =>
 Do (aload H9 2 true x1) fun x10 =>
 Q x10 H9) (
 Do (abin .eql a0 (.int .i64 15)) fun x11 =>
 Gd x11 true (
 Do (abuild [.int .u32 0, .str []] [(0, 1, (.int .u32 3019898880)), (1, 1, (.str [100, 120]))]) fun x12 =>
 Do (astore H2 2 x1 x12) fun H13 =>
 Do (aload H13 2 true x1) fun x14 =>
 Q x14 H13) (
 Do (abin .eql a0 (.int .i64 16)) fun x15 =>
 Gd x15 true (
 Do (abuild [.int .u32 0, .str []] [(0, 1, (.int .u32 3036676096)), (1, 1, (.str [100, 120]))]) fun x16 =>
 Do (astore H2 2 x1 x16) fun H17 =>
 Do (aload H17 2 true x1) fun x18 =>
 Q x18 H17) (
 Do (abin .eql a0 (.int .i64 29)) fun x19 =>
 Gd x19 true (
 Do (abuild [.int .u32 0, .str []] [(0, 1, (.int .u32 3573756095)), (1, 1, (.str [102]))]) fun x20 =>
 Do (astore H2 2 x1 x20) fun H21 =>
 Do (aload H21 2 true x1) fun x22 =>
 Q x22 H21) (
 Do (abin .eql a0 (.int .i64 30)) fun x23 =>
 Gd x23 true (
 Do (abuild [.int .u32 0, .str []] [(0, 1, (.int .u32 3573759839)), (1, 1, (.str [122]))]) fun x24 =>
 Do (astore H2 2 x1 x24) fun H25 =>
 Do (aload H25 2 true x1) fun x26 =>
 Q x26 H25) (
 Do (abin .eql a0 (.int .i64 31)) fun x27 =>
 Gd x27 true (
 Do (abuild [.int .u32 0, .str []] [(0, 1, (.int .u32 3556769793)), (1, 1, (.str [105]))]) fun x28 =>
 Do (astore H2 2 x1 x28) fun H29 =>
 Do (aload H29 2 true x1) fun x30 =>
 Q x30 H29) (
 Do (abin .eql a0 (.int .i64 32)) fun x31 =>
 Gd x31 true (
 Do (abuild [.int .u32 0, .str []] [(0, 1, (.int .u32 3558866944)), (1, 1, (.str [105]))]) fun x32 =>
 Do (astore H2 2 x1 x32) fun H33 =>
 Do (aload H33 2 true x1) fun x34 =>
 Q x34 H33) (
Φ K.f130 [a0] H2 fun x35 H36 =>
 Do (astore H36 2 x1 x35) fun H37 =>
 Do (aload H37 2 true x1) fun x38 =>
 Q x38 H37))))))))
noncomputable def ir_f93 : AFunc := decF Go.Proofs.YtjnhnoldfbkgmaaGreatDoor.rb.C ⟨93,[2],[],none,[],[]⟩
theorem eq_f93 (Φ : Calls') (a0 : AV) (H : AH) (Q : Post) : fnE1 Φ ir_f93 [a0] H Q = f93 Φ a0 H Q := by kernel_rfl
def f94 (Φ : Calls') (H : AH) (Q : Post) : Prop :=
 DoH (some (abox H true [.int .u32 0, .int .u32 0, .int .u32 0])) fun x1 H2 =>
 Do (abuild [.int .u32 0, .int .u32 0, .int .u32 0] [(0, 1, (.int .u32 11)), (1, 1, (.int .u32 9)), (2, 1, (.int .u32 10))]) fun x3 =>
 Do (astore H2 3 x1 x3) fun H4 =>
 Do (aload H4 3 true x1) fun x5 =>
 Q x5 H4
noncomputable def ir_f94 : AFunc := decF Go.Proofs.YtjnhnoldfbkgmaaGreatDoor.rb.C ⟨94,[0],[],none,[],[]⟩
theorem eq_f94 (Φ : Calls') (H : AH) (Q : Post) : fnE1 Φ ir_f94 [] H Q = f94 Φ H Q := by kernel_rfl
def f95 (Φ : Calls') (a0 a1 : AV) (H : AH) (Q : Post) : Prop :=
 DoH (aboxv H false 5 a0) fun x1 H2 =>
 Do (afaddr 2 x1) fun x3 =>
 Do (aload H2 1 false x3) fun x4 =>
 Gd x4 true (
 Do (afaddr 1 x1) fun x5 =>
 Do (aload H2 1 false x5) fun x6 =>
 Do (abin .sub x6 (.int .i64 1)) fun x7 =>
 Do (abin .shl (.int .i64 1) x7) fun x8 =>
 Do (aun .neg x8) fun x9 =>
 Do (abin .geq a1 x9) fun x10 =>
 Gd3 x10 true (
 Do (afaddr 1 x1) fun x11 =>
 Do (aload H2 1 false x11) fun x12 =>
 Do (abin .sub x12 (.int .i64 1)) fun x13 =>
 Do (abin .shl (.int .i64 1) x13) fun x14 =>
 Do (abin .lss a1 x14) fun x15 =>
 Q x15 H2) (
 Q (.bool false) H2) (
 False)) (
 Do (abin .geq a1 (.int .i64 0)) fun x16 =>
 Gd3 x16 true (
 Do (afaddr 4 x1) fun x17 =>
 Do (aload H2 1 false x17) fun x18 =>
 Do (abin .leq a1 x18) fun x19 =>
 Q x19 H2) (
 Q (.bool false) H2) (
 False))
noncomputable def ir_f95 : AFunc := decF Go.Proofs.YtjnhnoldfbkgmaaGreatDoor.rb.C ⟨95,[],[],none,[],[]⟩
theorem eq_f95 (Φ : Calls') (a0 a1 : AV) (H : AH) (Q : Post) : fnE1 Φ ir_f95 [a0, a1] H Q = f95 Φ a0 a1 H Q := by kernel_rfl
def f96_k1 (Φ : Calls') (x1 : AV) (Q : Post) : List AV → AH → Prop := fun j7 H8 =>
 Do (afaddr 0 x1) fun x13 =>
 Do (aload H8 1 false x13) fun x14 =>
 Do (abin .shl (sl j7 0) x14) fun x15 =>
 Do (aload H8 5 true x1) fun x16 =>
Φ K.f64 [x16] H8 fun x17 H18 =>
(aload H18 1 false x13 = some x14) ∧
(Do (abin .and x15 x17) fun x19 =>
 Q x19 H18)
def f96 (Φ : Calls') (a0 a1 a2 : AV) (H : AH) (Q : Post) : Prop :=
 DoH (aboxv H false 5 a0) fun x1 H2 =>
 Do (aconv .u32 a2) fun x3 =>
 Do (afaddr 3 x1) fun x4 =>
 Do (aload H2 1 false x4) fun x5 =>
 Do (abin .xor x3 x5) fun x6 =>
 Do (abin .eql a1 (.int .u8 102)) fun x9 =>
 Gd x9 true (
Φ K.f94 [] H2 fun x10 H11 =>
 Do (aidx 3 1 false x10 a2) fun x12 =>
 JoinP (f96_k1 Φ x1 Q) [x12] H11) (
 JoinP (f96_k1 Φ x1 Q) [x6] H2)
noncomputable def ir_f96 : AFunc := decF Go.Proofs.YtjnhnoldfbkgmaaGreatDoor.rb.C ⟨96,[],[],none,[],[]⟩
theorem eq_f96 (Φ : Calls') (a0 a1 a2 : AV) (H : AH) (Q : Post) : fnE1 Φ ir_f96 [a0, a1, a2] H Q = f96 Φ a0 a1 a2 H Q := by kernel_rfl
def f97_k1 (Φ : Calls') (x1 : AV) (Q : Post) : List AV → AH → Prop := fun j11 H12 =>
 Gd3 (sl j11 0) true (
 Do (afaddr 1 x1) fun x16 =>
 Do (aload H12 1 false x16) fun x17 =>
 Do (abin .leq x17 (.int .i64 1048576)) fun x18 =>
 Q x18 H12) (
 Q (.bool false) H12) (
 False)
def f97_k2 (Φ : Calls') (x1 : AV) (Q : Post) : List AV → AH → Prop := fun j3 H4 =>
 Gd3 (sl j3 0) true (
 Do (afaddr 1 x1) fun x13 =>
 Do (aload H4 1 false x13) fun x14 =>
 Do (abin .geq x14 (.int .i64 0)) fun x15 =>
 JoinP (f97_k1 Φ x1 Q) [x15] H4) (
 JoinP (f97_k1 Φ x1 Q) [(.bool false)] H4) (
 False)
def f97 (Φ : Calls') (a0 : AV) (H : AH) (Q : Post) : Prop :=
 DoH (aboxv H false 2 a0) fun x1 H2 =>
 Do (afaddr 0 x1) fun x5 =>
 Do (aload H2 1 false x5) fun x6 =>
 Do (abin .geq x6 (.int .i64 0)) fun x7 =>
 Gd3 x7 true (
 Do (afaddr 0 x1) fun x8 =>
 Do (aload H2 1 false x8) fun x9 =>
 Do (abin .leq x9 (.int .i64 1099511627776)) fun x10 =>
 JoinP (f97_k2 Φ x1 Q) [x10] H2) (
 JoinP (f97_k2 Φ x1 Q) [(.bool false)] H2) (
 False)
noncomputable def ir_f97 : AFunc := decF Go.Proofs.YtjnhnoldfbkgmaaGreatDoor.rb.C ⟨97,[],[],none,[],[]⟩
theorem eq_f97 (Φ : Calls') (a0 : AV) (H : AH) (Q : Post) : fnE1 Φ ir_f97 [a0] H Q = f97 Φ a0 H Q := by kernel_rfl
def f98 (Φ : Calls') (a0 : AV) (H : AH) (Q : Post) : Prop :=
 Do (abin .geq a0 (.int .i64 0)) fun x1 =>
 Gd3 x1 true (
 Do (abin .lss a0 (.int .i64 64)) fun x2 =>
 Q x2 H) (
 Q (.bool false) H) (
 False)
noncomputable def ir_f98 : AFunc := decF Go.Proofs.YtjnhnoldfbkgmaaGreatDoor.rb.C ⟨98,[],[],none,[],[]⟩
theorem eq_f98 (Φ : Calls') (a0 : AV) (H : AH) (Q : Post) : fnE1 Φ ir_f98 [a0] H Q = f98 Φ a0 H Q := by kernel_rfl
def f130 (Φ : Calls') (a0 : AV) (H : AH) (Q : Post) : Prop :=
 DoH (some (abox H true [.int .u32 0, .str []])) fun x1 H2 =>
 Do (abin .eql a0 (.int .i64 17)) fun x3 =>
 Gd x3 true (
 Do (abuild [.int .u32 0, .str []] [(0, 1, (.int .u32 960495616)), (1, 1, (.str [100, 97, 111, 115]))]) fun x4 =>
 Do (astore H2 2 x1 x4) fun H5 =>
 Do (aload H5 2 true x1) fun x6 =>
 Q x6 H5) (
 Do (abin .eql a0 (.int .i64 18)) fun x7 =>
 Gd x7 true (
 Do (abuild [.int .u32 0, .str []] [(0, 1, (.int .u32 956301312)), (1, 1, (.str [100, 97, 111, 115]))]) fun x8 =>
 Do (astore H2 2 x1 x8) fun H9 =>
 Do (aload H9 2 true x1) fun x10 =>
 Q x10 H9) (
 Do (abin .eql a0 (.int .i64 19)) fun x11 =>
 Gd x11 true (
 Do (abuild [.int .u32 0, .str []] [(0, 1, (.int .u32 148896768)), (1, 1, (.str [100, 97, 115]))]) fun x12 =>
 Do (astore H2 2 x1 x12) fun H13 =>
 Do (aload H13 2 true x1) fun x14 =>
 Q x14 H13) (
 Do (abin .eql a0 (.int .i64 20)) fun x15 =>
 Gd x15 true (
 Do (abuild [.int .u32 0, .str []] [(0, 1, (.int .u32 144702464)), (1, 1, (.str [100, 97, 115]))]) fun x16 =>
 Do (astore H2 2 x1 x16) fun H17 =>
 Do (aload H17 2 true x1) fun x18 =>
 Q x18 H17) (
 Do (abin .eql a0 (.int .i64 21)) fun x19 =>
 Gd x19 true (
 Do (abuild [.int .u32 0, .str []] [(0, 1, (.int .u32 140475392)), (1, 1, (.str [100, 97, 115]))]) fun x20 =>
 Do (astore H2 2 x1 x20) fun H21 =>
 Do (aload H21 2 true x1) fun x22 =>
 Q x22 H21) (
 Do (abin .eql a0 (.int .i64 22)) fun x23 =>
 Gd x23 true (
 Do (abuild [.int .u32 0, .str []] [(0, 1, (.int .u32 140508160)), (1, 1, (.str [100, 97, 115]))]) fun x24 =>
 Do (astore H2 2 x1 x24) fun H25 =>
 Do (aload H25 2 true x1) fun x26 =>
 Q x26 H25) (
 Do (abin .eql a0 (.int .i64 23)) fun x27 =>
 Gd x27 true (
 Do (abuild [.int .u32 0, .str []] [(0, 1, (.int .u32 134249472)), (1, 1, (.str [100, 97, 115, 109]))]) fun x28 =>
 Do (astore H2 2 x1 x28) fun H29 =>
 Do (aload H29 2 true x1) fun x30 =>
 Q x30 H29) (
 Do (abin .eql a0 (.int .i64 24)) fun x31 =>
 Gd x31 true (
 Do (abuild [.int .u32 0, .str []] [(0, 1, (.int .u32 134282240)), (1, 1, (.str [100, 97, 115, 109]))]) fun x32 =>
 Do (astore H2 2 x1 x32) fun H33 =>
 Do (aload H33 2 true x1) fun x34 =>
 Q x34 H33) (
 Do (abin .eql a0 (.int .i64 25)) fun x35 =>
 Gd x35 true (
 Do (abuild [.int .u32 0, .str []] [(0, 1, (.int .u32 3363766272)), (1, 1, (.str [100, 97, 101]))]) fun x36 =>
 Do (astore H2 2 x1 x36) fun H37 =>
 Do (aload H37 2 true x1) fun x38 =>
 Q x38 H37) (
 Do (abin .eql a0 (.int .i64 26)) fun x39 =>
 Gd x39 true (
 Do (abuild [.int .u32 0, .str []] [(0, 1, (.int .u32 3363799040)), (1, 1, (.str [100, 97, 101]))]) fun x40 =>
 Do (astore H2 2 x1 x40) fun H41 =>
 Do (aload H41 2 true x1) fun x42 =>
 Q x42 H41) (
 Do (abin .eql a0 (.int .i64 27)) fun x43 =>
 Gd x43 true (
 Do (abuild [.int .u32 0, .str []] [(0, 1, (.int .u32 3357540352)), (1, 1, (.str [100, 97, 101, 109]))]) fun x44 =>
 Do (astore H2 2 x1 x44) fun H45 =>
 Do (aload H45 2 true x1) fun x46 =>
 Q x46 H45) (
 Do (abin .eql a0 (.int .i64 28)) fun x47 =>
 Gd x47 true (
 Do (abuild [.int .u32 0, .str []] [(0, 1, (.int .u32 3357573120)), (1, 1, (.str [100, 97, 101, 109]))]) fun x48 =>
 Do (astore H2 2 x1 x48) fun H49 =>
 Do (aload H49 2 true x1) fun x50 =>
 Q x50 H49) (
 Do (abuild [.int .u32 0, .str []] []) fun x51 =>
 Do (astore H2 2 x1 x51) fun H52 =>
 Do (aload H52 2 true x1) fun x53 =>
 Q x53 H52))))))))))))
noncomputable def ir_f130 : AFunc := decF Go.Proofs.YtjnhnoldfbkgmaaGreatDoor.rb.C ⟨130,[2],[],none,[],[]⟩
theorem eq_f130 (Φ : Calls') (a0 : AV) (H : AH) (Q : Post) : fnE1 Φ ir_f130 [a0] H Q = f130 Φ a0 H Q := by kernel_rfl
def f296_k1 (Φ : Calls') (s29 : List AV × AH) (L30 : (List AV × AH) → Prop) (Q : Post) : List AV → AH → Prop := fun j31 H32 =>
 Do (abin .quo (sl s29.1 0) (.int .i64 2)) fun x42 =>
 L30 ([x42], H32)
def f296_k2 (Φ : Calls') (x1 : AV) (s22 : List AV × AH) (L23 : (List AV × AH) → Prop) (Q : Post) : List AV → AH → Prop := fun j27 H28 =>
 Do (afaddr 0 x1) fun x43 =>
 Do (aload H28 1 false x43) fun x44 =>
 Do (abuild [.int .i64 0, .int .i64 0] [(0, 1, x44), (1, 1, (sl j27 0))]) fun x45 =>
 DoH (abslice H28 false 2 1 [.int .i64 0, .int .i64 0] [(0, 2, x45)]) fun x46 H47 =>
 DoH (aappend H47 false 2 16 (sl s22.1 0) x46) fun x48 H49 =>
 Do (afaddr 0 x1) fun x50 =>
 Do (aload H49 1 false x50) fun x51 =>
 Do (abin .add x51 (sl j27 0)) fun x52 =>
 Do (afaddr 0 x1) fun x53 =>
 Do (astore H49 1 x53 x52) fun H54 =>
 Do (afaddr 1 x1) fun x55 =>
 Do (aload H54 1 false x55) fun x56 =>
 Do (abin .sub x56 (sl j27 0)) fun x57 =>
 Do (afaddr 1 x1) fun x58 =>
 Do (astore H54 1 x58 x57) fun H59 =>
 L23 ([x48], H59)
def f296_k3 (Φ : Calls') (x1 : AV) (s22 : List AV × AH) (L23 : (List AV × AH) → Prop) (s29 : List AV × AH) (L30 : (List AV × AH) → Prop) (Q : Post) : List AV → AH → Prop := fun j33 H34 =>
 Gd (sl j33 0) true (
 JoinP (f296_k1 Φ s29 L30 Q) [] H34) (
 JoinP (f296_k2 Φ x1 s22 L23 Q) [(sl s29.1 0)] H34)
def f296_l4 (Φ : Calls') (x1 : AV) (s22 : List AV × AH) (L23 : (List AV × AH) → Prop) (Q : Post) : (List AV × AH) → ((List AV × AH) → Prop) → Prop := fun s29 L30 =>
 Do (afaddr 1 x1) fun x35 =>
 Do (aload s29.2 1 false x35) fun x36 =>
 Do (abin .gtr (sl s29.1 0) x36) fun x37 =>
 Gd3 x37 false (
 Do (afaddr 0 x1) fun x38 =>
 Do (aload s29.2 1 false x38) fun x39 =>
 Do (abin .rem x39 (sl s29.1 0)) fun x40 =>
 Do (abin .neq x40 (.int .i64 0)) fun x41 =>
 JoinP (f296_k3 Φ x1 s22 L23 s29 L30 Q) [x41] s29.2) (
 JoinP (f296_k3 Φ x1 s22 L23 s29 L30 Q) [(.bool true)] s29.2) (
 False)
def f296_l5 (Φ : Calls') (x1 : AV) (Q : Post) : (List AV × AH) → ((List AV × AH) → Prop) → Prop := fun s22 L23 =>
 Do (afaddr 1 x1) fun x24 =>
 Do (aload s22.2 1 false x24) fun x25 =>
 Do (abin .gtr x25 (.int .i64 0)) fun x26 =>
 Gd x26 true (
 LoopP (f296_l4 Φ x1 s22 L23 Q) ([(.int .i64 8)], s22.2)) (
 Q (sl s22.1 0) s22.2)
def f296_k6 (Φ : Calls') (x1 : AV) (Q : Post) : List AV → AH → Prop := fun j3 H4 =>
 LoopP (f296_l5 Φ x1 Q) ([(.lst .nil 0 [])], H4)
def f296_k7 (Φ : Calls') (x1 : AV) (Q : Post) : List AV → AH → Prop := fun j5 H6 =>
 Gd (sl j5 0) true (
 Q (.lst .nil 0 []) H6) (
 JoinP (f296_k6 Φ x1 Q) [] H6)
def f296_k8 (Φ : Calls') (x1 : AV) (Q : Post) : List AV → AH → Prop := fun j7 H8 =>
 Gd3 (sl j7 0) false (
 Do (afaddr 0 x1) fun x16 =>
 Do (aload H8 1 false x16) fun x17 =>
 Do (afaddr 1 x1) fun x18 =>
 Do (aload H8 1 false x18) fun x19 =>
 Do (abin .add x17 x19) fun x20 =>
 Do (abin .gtr x20 (.int .i64 1099511627776)) fun x21 =>
 JoinP (f296_k7 Φ x1 Q) [x21] H8) (
 JoinP (f296_k7 Φ x1 Q) [(.bool true)] H8) (
 False)
def f296 (Φ : Calls') (a0 : AV) (H : AH) (Q : Post) : Prop :=
 DoH (aboxv H true 2 a0) fun x1 H2 =>
 Do (aload H2 2 true x1) fun x9 =>
Φ K.f97 [x9] H2 fun x10 H11 =>
 Do (aun .not x10) fun x12 =>
 Gd3 x12 false (
 Do (afaddr 1 x1) fun x13 =>
 Do (aload H11 1 false x13) fun x14 =>
 Do (abin .gtr x14 (.int .i64 64)) fun x15 =>
 JoinP (f296_k8 Φ x1 Q) [x15] H11) (
 JoinP (f296_k8 Φ x1 Q) [(.bool true)] H11) (
 False)
noncomputable def ir_f296 : AFunc := decF Go.Proofs.YtjnhnoldfbkgmaaGreatDoor.rb.C ⟨296,[1],[[3],[4]],none,[],[]⟩
noncomputable def tab_Mch : Tab := [
  (K.f3, ir_f3),
  (K.f4, ir_f4),
  (K.f6, ir_f6),
  (K.f7, ir_f7),
  (K.f8, ir_f8),
  (K.f9, ir_f9),
  (K.f10, ir_f10),
  (K.f13, ir_f13),
  (K.f14, ir_f14),
  (K.f15, ir_f15),
  (K.f16, ir_f16),
  (K.f17, ir_f17),
  (K.f18, ir_f18),
  (K.f19, ir_f19),
  (K.f20, ir_f20),
  (K.f21, ir_f21),
  (K.f22, ir_f22),
  (K.f23, ir_f23),
  (K.f24, ir_f24),
  (K.f25, ir_f25),
  (K.f26, ir_f26),
  (K.f27, ir_f27),
  (K.f28, ir_f28),
  (K.f31, ir_f31),
  (K.f32, ir_f32),
  (K.f33, ir_f33),
  (K.f34, ir_f34),
  (K.f35, ir_f35),
  (K.f36, ir_f36),
  (K.f37, ir_f37),
  (K.f38, ir_f38),
  (K.f39, ir_f39),
  (K.f40, ir_f40),
  (K.f41, ir_f41),
  (K.f42, ir_f42),
  (K.f43, ir_f43),
  (K.f44, ir_f44),
  (K.f45, ir_f45),
  (K.f46, ir_f46),
  (K.f47, ir_f47),
  (K.f48, ir_f48),
  (K.f49, ir_f49),
  (K.f60, ir_f60),
  (K.f61, ir_f61),
  (K.f62, ir_f62),
  (K.f63, ir_f63),
  (K.f64, ir_f64),
  (K.f65, ir_f65),
  (K.f66, ir_f66),
  (K.f67, ir_f67),
  (K.f68, ir_f68),
  (K.f69, ir_f69),
  (K.f70, ir_f70),
  (K.f71, ir_f71),
  (K.f93, ir_f93),
  (K.f94, ir_f94),
  (K.f95, ir_f95),
  (K.f96, ir_f96),
  (K.f97, ir_f97),
  (K.f98, ir_f98),
  (K.f130, ir_f130),
  (K.f296, ir_f296)]
section
variable {Φ : Calls'} (hT : Cl Φ tab_Mch) {a0 a1 a2 a3 a4 a5 a6 a7 a8 a9 a10 a11 : AV} {H : AH} {Q : Post}
include hT
theorem cl_f3 (h : f3 Φ a0 a1 a2 H Q) : Φ K.f3 [a0, a1, a2] H Q := hT.call (by kernel_rfl) (by kernel_rfl) (by rw [eq_f3]; exact h)
theorem cl_f4 (h : f4 Φ a0 H Q) : Φ K.f4 [a0] H Q := hT.call (by kernel_rfl) (by kernel_rfl) (by rw [eq_f4]; exact h)
theorem cl_f6 (h : f6 Φ a0 H Q) : Φ K.f6 [a0] H Q := hT.call (by kernel_rfl) (by kernel_rfl) (by rw [eq_f6]; exact h)
theorem cl_f7 (h : f7 Φ a0 a1 H Q) : Φ K.f7 [a0, a1] H Q := hT.call (by kernel_rfl) (by kernel_rfl) (by rw [eq_f7]; exact h)
theorem cl_f8 (h : f8 Φ a0 H Q) : Φ K.f8 [a0] H Q := hT.call (by kernel_rfl) (by kernel_rfl) (by rw [eq_f8]; exact h)
theorem cl_f9 (h : f9 Φ a0 a1 H Q) : Φ K.f9 [a0, a1] H Q := hT.call (by kernel_rfl) (by kernel_rfl) (by rw [eq_f9]; exact h)
theorem cl_f10 (h : f10 Φ a0 a1 a2 H Q) : Φ K.f10 [a0, a1, a2] H Q := hT.call (by kernel_rfl) (by kernel_rfl) (by rw [eq_f10]; exact h)
theorem cl_f13 (h : f13 Φ a0 a1 H Q) : Φ K.f13 [a0, a1] H Q := hT.call (by kernel_rfl) (by kernel_rfl) (by rw [eq_f13]; exact h)
theorem cl_f14 (h : f14 Φ a0 H Q) : Φ K.f14 [a0] H Q := hT.call (by kernel_rfl) (by kernel_rfl) (by rw [eq_f14]; exact h)
theorem cl_f15 (h : f15 Φ a0 H Q) : Φ K.f15 [a0] H Q := hT.call (by kernel_rfl) (by kernel_rfl) (by rw [eq_f15]; exact h)
theorem cl_f16 (h : f16 Φ a0 a1 H Q) : Φ K.f16 [a0, a1] H Q := hT.call (by kernel_rfl) (by kernel_rfl) (by rw [eq_f16]; exact h)
theorem cl_f17 (h : f17 Φ a0 H Q) : Φ K.f17 [a0] H Q := hT.call (by kernel_rfl) (by kernel_rfl) (by rw [eq_f17]; exact h)
theorem cl_f18 (h : f18 Φ a0 H Q) : Φ K.f18 [a0] H Q := hT.call (by kernel_rfl) (by kernel_rfl) (by rw [eq_f18]; exact h)
theorem cl_f19 (h : f19 Φ a0 H Q) : Φ K.f19 [a0] H Q := hT.call (by kernel_rfl) (by kernel_rfl) (by rw [eq_f19]; exact h)
theorem cl_f20 (h : f20 Φ a0 H Q) : Φ K.f20 [a0] H Q := hT.call (by kernel_rfl) (by kernel_rfl) (by rw [eq_f20]; exact h)
theorem cl_f21 (h : f21 Φ a0 a1 H Q) : Φ K.f21 [a0, a1] H Q := hT.call (by kernel_rfl) (by kernel_rfl) (by rw [eq_f21]; exact h)
theorem cl_f22 (h : f22 Φ a0 H Q) : Φ K.f22 [a0] H Q := hT.call (by kernel_rfl) (by kernel_rfl) (by rw [eq_f22]; exact h)
theorem cl_f23 (h : f23 Φ a0 a1 H Q) : Φ K.f23 [a0, a1] H Q := hT.call (by kernel_rfl) (by kernel_rfl) (by rw [eq_f23]; exact h)
theorem cl_f24 (h : f24 Φ a0 a1 H Q) : Φ K.f24 [a0, a1] H Q := hT.call (by kernel_rfl) (by kernel_rfl) (by rw [eq_f24]; exact h)
theorem cl_f25 (h : f25 Φ a0 a1 H Q) : Φ K.f25 [a0, a1] H Q := hT.call (by kernel_rfl) (by kernel_rfl) (by rw [eq_f25]; exact h)
theorem cl_f26 (h : f26 Φ a0 a1 H Q) : Φ K.f26 [a0, a1] H Q := hT.call (by kernel_rfl) (by kernel_rfl) (by rw [eq_f26]; exact h)
theorem cl_f27 (h : f27 Φ a0 a1 a2 H Q) : Φ K.f27 [a0, a1, a2] H Q := hT.call (by kernel_rfl) (by kernel_rfl) (by rw [eq_f27]; exact h)
theorem cl_f28 (h : f28 Φ a0 a1 a2 a3 H Q) : Φ K.f28 [a0, a1, a2, a3] H Q := hT.call (by kernel_rfl) (by kernel_rfl) (by rw [eq_f28]; exact h)
theorem cl_f31 (h : f31 Φ a0 a1 H Q) : Φ K.f31 [a0, a1] H Q := hT.call (by kernel_rfl) (by kernel_rfl) (by rw [eq_f31]; exact h)
theorem cl_f32 (h : f32 Φ a0 a1 a2 a3 H Q) : Φ K.f32 [a0, a1, a2, a3] H Q := hT.call (by kernel_rfl) (by kernel_rfl) (by rw [eq_f32]; exact h)
theorem cl_f33 (h : f33 Φ a0 a1 H Q) : Φ K.f33 [a0, a1] H Q := hT.call (by kernel_rfl) (by kernel_rfl) (by rw [eq_f33]; exact h)
theorem cl_f34 (h : f34 Φ a0 H Q) : Φ K.f34 [a0] H Q := hT.call (by kernel_rfl) (by kernel_rfl) (by rw [eq_f34]; exact h)
theorem cl_f35 (h : f35 Φ a0 H Q) : Φ K.f35 [a0] H Q := hT.call (by kernel_rfl) (by kernel_rfl) (by rw [eq_f35]; exact h)
theorem cl_f36 (h : f36 Φ a0 H Q) : Φ K.f36 [a0] H Q := hT.call (by kernel_rfl) (by kernel_rfl) (by rw [eq_f36]; exact h)
theorem cl_f37 (h : f37 Φ a0 a1 H Q) : Φ K.f37 [a0, a1] H Q := hT.call (by kernel_rfl) (by kernel_rfl) (by rw [eq_f37]; exact h)
theorem cl_f38 (h : f38 Φ a0 H Q) : Φ K.f38 [a0] H Q := hT.call (by kernel_rfl) (by kernel_rfl) (by rw [eq_f38]; exact h)
theorem cl_f39 (h : f39 Φ a0 a1 H Q) : Φ K.f39 [a0, a1] H Q := hT.call (by kernel_rfl) (by kernel_rfl) (by rw [eq_f39]; exact h)
theorem cl_f40 (h : f40 Φ a0 H Q) : Φ K.f40 [a0] H Q := hT.call (by kernel_rfl) (by kernel_rfl) (by rw [eq_f40]; exact h)
theorem cl_f41 (h : f41 Φ a0 H Q) : Φ K.f41 [a0] H Q := hT.call (by kernel_rfl) (by kernel_rfl) (by rw [eq_f41]; exact h)
theorem cl_f42 (h : f42 Φ a0 a1 H Q) : Φ K.f42 [a0, a1] H Q := hT.call (by kernel_rfl) (by kernel_rfl) (by rw [eq_f42]; exact h)
theorem cl_f43 (h : f43 Φ a0 H Q) : Φ K.f43 [a0] H Q := hT.call (by kernel_rfl) (by kernel_rfl) (by rw [eq_f43]; exact h)
theorem cl_f44 (h : f44 Φ a0 a1 H Q) : Φ K.f44 [a0, a1] H Q := hT.call (by kernel_rfl) (by kernel_rfl) (by rw [eq_f44]; exact h)
theorem cl_f45 (h : f45 Φ a0 a1 H Q) : Φ K.f45 [a0, a1] H Q := hT.call (by kernel_rfl) (by kernel_rfl) (by rw [eq_f45]; exact h)
theorem cl_f46 (h : f46 Φ a0 a1 H Q) : Φ K.f46 [a0, a1] H Q := hT.call (by kernel_rfl) (by kernel_rfl) (by rw [eq_f46]; exact h)
theorem cl_f47 (h : f47 Φ a0 a1 H Q) : Φ K.f47 [a0, a1] H Q := hT.call (by kernel_rfl) (by kernel_rfl) (by rw [eq_f47]; exact h)
theorem cl_f48 (h : f48 Φ a0 a1 a2 a3 H Q) : Φ K.f48 [a0, a1, a2, a3] H Q := hT.call (by kernel_rfl) (by kernel_rfl) (by rw [eq_f48]; exact h)
theorem cl_f49 (h : f49 Φ a0 a1 a2 H Q) : Φ K.f49 [a0, a1, a2] H Q := hT.call (by kernel_rfl) (by kernel_rfl) (by rw [eq_f49]; exact h)
theorem cl_f60 (h : f60 Φ a0 H Q) : Φ K.f60 [a0] H Q := hT.call (by kernel_rfl) (by kernel_rfl) (by rw [eq_f60]; exact h)
theorem cl_f61 (h : f61 Φ a0 H Q) : Φ K.f61 [a0] H Q := hT.call (by kernel_rfl) (by kernel_rfl) (by rw [eq_f61]; exact h)
theorem cl_f62 (h : f62 Φ a0 a1 a2 H Q) : Φ K.f62 [a0, a1, a2] H Q := hT.call (by kernel_rfl) (by kernel_rfl) (by rw [eq_f62]; exact h)
theorem cl_f63 (h : f63 Φ a0 a1 H Q) : Φ K.f63 [a0, a1] H Q := hT.call (by kernel_rfl) (by kernel_rfl) (by rw [eq_f63]; exact h)
theorem cl_f64 (h : f64 Φ a0 H Q) : Φ K.f64 [a0] H Q := hT.call (by kernel_rfl) (by kernel_rfl) (by rw [eq_f64]; exact h)
theorem cl_f65 (h : f65 Φ a0 H Q) : Φ K.f65 [a0] H Q := hT.call (by kernel_rfl) (by kernel_rfl) (by rw [eq_f65]; exact h)
theorem cl_f66 (h : f66 Φ a0 a1 a2 H Q) : Φ K.f66 [a0, a1, a2] H Q := hT.call (by kernel_rfl) (by kernel_rfl) (by rw [eq_f66]; exact h)
theorem cl_f67 (h : f67 Φ a0 H Q) : Φ K.f67 [a0] H Q := hT.call (by kernel_rfl) (by kernel_rfl) (by rw [eq_f67]; exact h)
theorem cl_f68 (h : f68 Φ a0 H Q) : Φ K.f68 [a0] H Q := hT.call (by kernel_rfl) (by kernel_rfl) (by rw [eq_f68]; exact h)
theorem cl_f69 (h : f69 Φ a0 a1 H Q) : Φ K.f69 [a0, a1] H Q := hT.call (by kernel_rfl) (by kernel_rfl) (by rw [eq_f69]; exact h)
theorem cl_f70 (h : f70 Φ a0 a1 H Q) : Φ K.f70 [a0, a1] H Q := hT.call (by kernel_rfl) (by kernel_rfl) (by rw [eq_f70]; exact h)
theorem cl_f71 (h : f71 Φ a0 a1 a2 a3 H Q) : Φ K.f71 [a0, a1, a2, a3] H Q := hT.call (by kernel_rfl) (by kernel_rfl) (by rw [eq_f71]; exact h)
theorem cl_f93 (h : f93 Φ a0 H Q) : Φ K.f93 [a0] H Q := hT.call (by kernel_rfl) (by kernel_rfl) (by rw [eq_f93]; exact h)
theorem cl_f94 (h : f94 Φ H Q) : Φ K.f94 [] H Q := hT.call (by kernel_rfl) (by kernel_rfl) (by rw [eq_f94]; exact h)
theorem cl_f95 (h : f95 Φ a0 a1 H Q) : Φ K.f95 [a0, a1] H Q := hT.call (by kernel_rfl) (by kernel_rfl) (by rw [eq_f95]; exact h)
theorem cl_f96 (h : f96 Φ a0 a1 a2 H Q) : Φ K.f96 [a0, a1, a2] H Q := hT.call (by kernel_rfl) (by kernel_rfl) (by rw [eq_f96]; exact h)
theorem cl_f97 (h : f97 Φ a0 H Q) : Φ K.f97 [a0] H Q := hT.call (by kernel_rfl) (by kernel_rfl) (by rw [eq_f97]; exact h)
theorem cl_f98 (h : f98 Φ a0 H Q) : Φ K.f98 [a0] H Q := hT.call (by kernel_rfl) (by kernel_rfl) (by rw [eq_f98]; exact h)
theorem cl_f130 (h : f130 Φ a0 H Q) : Φ K.f130 [a0] H Q := hT.call (by kernel_rfl) (by kernel_rfl) (by rw [eq_f130]; exact h)
end
end Rb.S

namespace Go.Proofs.YtjnhnoldfbkgmaaGreatDoor.rb
open Rb
theorem cl_Mch : Cl (ACall C) S.tab_Mch := Cl.of (ACall_mono C) (closed_of (idC_fok _ _) (by kernel_rfl))
end Go.Proofs.YtjnhnoldfbkgmaaGreatDoor.rb

namespace Rb
open Go Go.RowKit
def allFz (W : World) : Nat → Nat → Prop := fun b o => ∃ V, W.cell? ⟨b, o, none⟩ = some V
theorem law_calls {C : Ctx} {key : Nat} {f : FuncId} {args : List AV} {Vs : Array Value} {W : World} (hf : C.F key = some f) (h : ACall C key args AH.mt (fun v _ => v = .bool true)) (hG : GOX C W (Ghost.mt (allFz W)) AH.mt)
  (hargs : VRs C.F W (Ghost.mt (allFz W)) args Vs) : Calls C.P f Vs W fun e W' => e = .returned (.bool true) ∧ Below W.heap.size W W' := by
 refine Calls.mono (h.2 f hf _ W Vs hG (Rel.mt fun _ _ h => h) hargs) fun e w' he => ?_
 obtain ⟨V, v, H', G', rfl, rfl, hv, _, hst⟩ := he
 obtain rfl := hv.bool_inv
 exact ⟨rfl, hst.below⟩
theorem fptr_of_tab {F : FTab} {W : World} {g : Nat} {k : IntKind} {zs : List Int} (h : ∀ i, i < zs.length → W.cell? ⟨g, i, none⟩ = some (.int k (zs.getD i 0))) : VR F W (Ghost.mt (allFz W)) (.fptr (zs.map (.int k))) (.pointer (some ⟨g, 0, none⟩)) := by
 refine .fptr _ g 0 (fun j => .int k (zs.getD j 0)) (fun j c hj => ?_) fun j c hj => ?_
 · have hl : j < zs.length := by simpa using (List.getElem?_eq_some_iff.1 hj).1
   rw [Nat.zero_add]
   exact ⟨⟨_, h j hl⟩, h j hl⟩
 · have hl : j < zs.length := by simpa using (List.getElem?_eq_some_iff.1 hj).1
   have : c = .int k (zs.getD j 0) := by
    rw [List.getElem?_map, List.getElem?_eq_getElem hl] at hj
    simp only [Option.map_some, Option.some.injEq] at hj
    rw [← hj, List.getD_eq_getElem?_getD, List.getElem?_eq_getElem hl]; rfl
   rw [this]
   exact .int _ _
theorem VRs.three {F : FTab} {w : World} {G : Ghost} {c d e : AV} {V U X : Value} (h : VR F w G c V) (h' : VR F w G d U) (h'' : VR F w G e X) : VRs F w G [c, d, e] #[V, U, X] := ⟨rfl, fun j c' V' hc hV => by
  rcases j with _ | _ | _ | j
  · simp at hc hV; subst hc; subst hV; exact h
  · simp at hc hV; subst hc; subst hV; exact h'
  · simp at hc hV; subst hc; subst hV; exact h''
  · simp at hc⟩
theorem VR_string {F : FTab} {w : World} {G : Ghost} (b : ByteArray) : VR F w G (.str b.data.toList) (.string b) := by
 have h : (⟨b.data.toList.toArray⟩ : ByteArray) = b := by cases b; simp
 have := VR.str (F := F) (w := w) (G := G) b.data.toList
 rwa [h] at this
theorem asciiSpace_eq : asciiSpace = (Go.Lib.asciiSpaceTab.map (AV.int .u8)) := by kernel_rfl
theorem size_of_var {P : Program} {W : World} {name : String} {g : Nat} {cs : Array Value} (hg : P.globalNamed name = some g) (h : W.var? P name = some cs) : ∃ cs' t fr, W.heap[g]? = some (.cells cs' t fr) ∧ cs'.size = cs.size := by
 unfold World.var? at h
 rw [hg] at h
 simp only [Option.bind_some] at h
 split at h
 · rename_i cs' t fr heq
   cases h
   exact ⟨_, _, _, heq, rfl⟩
 · cases h
end Rb

namespace Rb
open Go Go.RowKit
section
variable {H : Type} {enc : TypeId × Value → H} {P : Program} {w : World} {sp : Nat → Bool} {held : Bool} {F : FTab}
def Dec (F : FTab) (enc : TypeId × Value → H) (P : Program) (w : World) (sp : Nat → Bool) (held : Bool) (n : Nat) (t : TypeId) {α : Type} (cells : α → List AV) (ok : α → Prop) : Prop :=
 ∀ fuel, fuel ≤ n → ∀ cs d ps, DataW.trod enc P w 0 sp held fuel t cs = some (d, ps) → (∀ m ∈ d.weights P t, m ≤ reachBytes) → ∃ x, ok x ∧ VRs F w (Ghost.mt (allFz w)) (cells x) cs.toArray
theorem Dec.mono {n m : Nat} {t : TypeId} {α : Type} {cells : α → List AV} {ok : α → Prop} (h : Dec F enc P w sp held n t cells ok) (hm : m ≤ n) : Dec F enc P w sp held m t cells ok :=
 fun fuel hf cs d ps ht hw => h fuel (Nat.le_trans hf hm) cs d ps ht hw
theorem Dec.zero {t : TypeId} {α : Type} {cells : α → List AV} {ok : α → Prop} : Dec F enc P w sp held 0 t cells ok := by
 intro fuel hf cs d ps h _
 obtain rfl : fuel = 0 := by omega
 simp [DataW.trod] at h
theorem Dec.int {n : Nat} {t : TypeId} {k : IntKind} (ht : P.underlying t = some (.int k)) : Dec F enc P w sp held n t (fun z : Int => [.int k z]) (fun z => k.min ≤ z ∧ z ≤ k.max) := by
 intro fuel _ cs d ps h _
 obtain ⟨z, rfl, _, hw⟩ := DataW.trod_int ht h
 exact ⟨z, by simpa [Lit.wf] using hw, VRs.one (.int _ _)⟩
theorem Dec.bool {n : Nat} {t : TypeId} (ht : P.underlying t = some .bool) : Dec F enc P w sp held n t (fun z : Bool => [.bool z]) (fun _ => True) := by
 intro fuel _ cs d ps h _
 obtain ⟨z, rfl, _⟩ := DataW.trod_bool ht h
 exact ⟨z, trivial, VRs.one (.bool _)⟩
theorem Dec.string {n : Nat} {t : TypeId} (ht : P.underlying t = some .string) : Dec F enc P w sp held n t (fun z : List UInt8 => [.str z]) (fun z => z.length ≤ 140737488351232) := by
 intro fuel _ cs d ps h hw
 obtain ⟨s, rfl, hd, hl⟩ := DataW.trod_string ht h
 refine ⟨s.data.toList, ?_, VRs.one (VR_string s)⟩
 obtain rfl : d = _ := congrArg Prod.fst hd
 exact hw _ (by simp [DataW.weights])
theorem weights_mem_all {H : Type} {P : Program} {e : TypeId} : ∀ {ds : List (DataW H)} {j : Nat} {d : DataW H}, ds[j]? = some d → ∀ n ∈ d.weights P e, n ∈ DataW.weightsAll P e ds
 | d0 :: ds, 0, d, hd, n, hn => by
  simp only [List.getElem?_cons_zero, Option.some.injEq] at hd
  subst hd
  simp only [DataW.weightsAll, List.mem_append]
  exact .inl hn
 | d0 :: ds, j + 1, d, hd, n, hn => by
  simp only [List.getElem?_cons_succ] at hd
  simp only [DataW.weightsAll, List.mem_append]
  exact .inr (weights_mem_all hd n hn)
def lstA {α : Type} (cells : α → List AV) (xs : List α) : AV := .lst .dead xs.length (xs.flatMap cells)
theorem exists_list {α : Type} {p : Nat → α → Prop} : ∀ (n : Nat), (∀ i, i < n → ∃ x, p i x) → ∃ xs : List α, xs.length = n ∧ ∀ i x, xs[i]? = some x → p i x := by
 intro n
 induction n with
 | zero => intro _; exact ⟨[], rfl, fun i x h => by simp at h⟩
 | succ n ih =>
  intro h
  obtain ⟨xs, hl, hx⟩ := ih fun i hi => h i (by omega)
  obtain ⟨y, hy⟩ := h n (by omega)
  refine ⟨xs ++ [y], by simp [hl], fun i x hi => ?_⟩
  by_cases hlt : i < n
  · rw [List.getElem?_append_left (by omega)] at hi
    exact hx i x hi
  · rw [List.getElem?_append_right (by omega)] at hi
    have : i - xs.length = 0 := by
     rcases Nat.eq_zero_or_pos (i - xs.length) with h | h
     · exact h
     · rw [List.getElem?_eq_none (by simp; omega)] at hi; cases hi
    rw [this] at hi
    simp at hi
    subst hi
    have : i = n := by omega
    rw [this]; exact hy
theorem flat_get {α : Type} {cells : α → List AV} {sz : Nat} (hc : ∀ x, (cells x).length = sz) : ∀ (xs : List α) (j : Nat) (c : AV), (xs.flatMap cells)[j]? = some c → ∃ i k x, j = i * sz + k ∧ k < sz ∧ xs[i]? = some x ∧ (cells x)[k]? = some c := by
 intro xs
 induction xs with
 | nil => intro j c h; simp at h
 | cons y ys ih =>
  intro j c h
  rw [List.flatMap_cons] at h
  by_cases hj : j < sz
  · rw [List.getElem?_append_left (by rw [hc]; exact hj)] at h
    exact ⟨0, j, y, by omega, hj, rfl, h⟩
  · rw [List.getElem?_append_right (by rw [hc]; omega), hc] at h
    obtain ⟨i, k, x, h1, h2, h3, h4⟩ := ih _ _ h
    refine ⟨i + 1, k, x, ?_, h2, by simpa using h3, h4⟩
    rw [Nat.add_mul]; omega
theorem add_at {b o m : Nat} : (Addr.mk b o none).add m = ⟨b, o + m, none⟩ := by
 unfold Addr.add
 split
 · rename_i h; subst h; rfl
 · rfl
theorem Dec.slice {n : Nat} {t e : TypeId} {α : Type} {cells : α → List AV} {ok : α → Prop} (ht : P.underlying t = some (.slice e)) {sz : Nat} (hs : P.cellsOf e = sz) (hz : 0 < sz) (hc : ∀ x, (cells x).length = sz) (h : Dec F enc P w sp held n e cells ok) :
  Dec F enc P w sp held (n + 1) t (fun xs : List α => [lstA cells xs]) (fun xs => xs.length ≤ maxLen ∧ ∀ x ∈ xs, ok x) := by
 intro fuel hf cs d ps hd hwt
 rcases DataW.trod_slice ht hd with ⟨rfl, _⟩ | ⟨a, len, cap, elems, rest, m, rfl, rfl, hdx, _, hle, hcap, hel, helems, _⟩
 · exact ⟨[], ⟨Nat.zero_le _, by simp⟩, VRs.one (.lst0 _ _)⟩
 · have each : ∀ i, i < len → ∃ x, ok x ∧ ∃ ci, w.cells? 0 (a.add (i * sz)) sz = some ci ∧ VRs F w (Ghost.mt (allFz w)) (cells x) ci.toArray := by
     intro i hi
     have h1 := helems i hi
     rw [List.getElem?_eq_getElem (by omega), hs] at h1
     obtain ⟨ci, h2, h3⟩ := Option.bind_eq_some_iff.1 h1
     obtain ⟨x, hx, hv⟩ := h m (by omega) ci _ _ h3 (fun q hq => hwt q (by
       obtain rfl : d = _ := congrArg Prod.fst hdx
       simp only [DataW.weights, ht]
       refine List.mem_cons_of_mem _ (List.mem_append_left _ ?_)
       exact weights_mem_all (j := i) (by rw [List.getElem?_map, List.getElem?_eq_getElem (by omega)]; rfl) q hq))
     exact ⟨x, hx, ci, h2, hv⟩
   obtain ⟨xs, hl, hx⟩ := exists_list len each
   refine ⟨xs, ⟨by omega, fun x hxm => ?_⟩, VRs.one ?_⟩
   · obtain ⟨i, hi, e⟩ := List.mem_iff_getElem.1 hxm
     exact (hx i x (by rw [List.getElem?_eq_getElem hi, e])).1
   · rcases Nat.eq_zero_or_pos len with h0 | h0
     · subst h0
       obtain rfl := List.length_eq_zero_iff.1 hl
       exact .lst0 _ _
     ·
       have hsp : a.spot = none := by
        obtain ⟨x, _, ci, h2, _⟩ := each 0 h0
        obtain ⟨_, h3, h4⟩ := World.cells?_some h2
        have h5 := h4 0 hz
        rw [List.getElem?_eq_getElem (by omega)] at h5
        rw [Nat.zero_mul] at h5
        have e0 : (a.add 0).add 0 = a := by simp [Addr.add]
        rw [e0] at h5
        unfold World.cell? at h5
        split at h5
        · split at h5
          · cases h5
          · rename_i hn; cases ha : a.spot with
            | none => rfl
            | some _ => rw [ha] at hn; simp at hn
        · cases h5
       obtain ⟨b, o, spt⟩ := a
       simp only at hsp
       subst hsp
       have key : ∀ (j : Nat) (c : AV), (xs.flatMap cells)[j]? = some c → ∃ V, w.cell? ⟨b, o + j, none⟩ = some V ∧ VR F w (Ghost.mt (allFz w)) c V := by
        intro j c hj
        obtain ⟨i, k, x, rfl, hk, hxi, hck⟩ := flat_get hc xs j c hj
        obtain ⟨_, ci, h2, hv⟩ := hx i x hxi
        obtain ⟨_, h3, h4⟩ := World.cells?_some h2
        have h5 := h4 k hk
        rw [add_at, add_at, List.getElem?_eq_getElem (by omega)] at h5
        refine ⟨ci[k], by rw [← Nat.add_assoc]; exact h5, hv.2 k c _ hck (by simp [List.getElem?_eq_getElem (show k < ci.length by omega)])⟩
       unfold lstA
       rw [hl]
       refine .lst .dead len _ b o cap (fun j => (w.cell? ⟨b, o + j, none⟩).getD undef) trivial hle (fun j c hj => ?_) fun j c hj => ?_
       · obtain ⟨V, h1, _⟩ := key j c hj
         exact ⟨⟨V, h1⟩, by rw [h1]; rfl⟩
       · obtain ⟨V, h1, h2⟩ := key j c hj
         rw [h1]; exact h2
def chainB (P : Program) : Nat → List (TypeId × Nat) → Bool
 | _, [] => true
 | off, (t, o) :: r => o == off && chainB P (off + P.cellsOf t) r
def totC (P : Program) : List (TypeId × Nat) → Nat
 | [] => 0
 | (t, _) :: r => P.cellsOf t + totC P r
def DecL (F : FTab) (enc : TypeId × Value → H) (P : Program) (w : World) (sp : Nat → Bool) (held : Bool) (n : Nat) (L : List (TypeId × Nat)) {α : Type} (cells : α → List AV) (ok : α → Prop) : Prop :=
 ∀ m, m ≤ n → ∀ (off : Nat) (cs : List Value), chainB P off L = true → (∀ f ∈ L, ∃ y, DataW.trod enc P w 0 sp held m f.1 ((cs.drop f.2).take (P.cellsOf f.1)) = some y ∧ ∀ q ∈ y.1.weights P f.1, q ≤ reachBytes) →
  ∃ x, ok x ∧ VRs F w (Ghost.mt (allFz w)) (cells x) ((cs.drop off).take (totC P L)).toArray
theorem DecL.nil {n : Nat} : DecL F enc P w sp held n [] (fun _ : Unit => []) (fun _ => True) := by
 intro m _ off cs _ _
 exact ⟨(), trivial, by simp only [totC, List.take_zero]; exact VRs.nil⟩
theorem DecL.cons {n : Nat} {t : TypeId} {o : Nat} {L : List (TypeId × Nat)} {α β : Type} {c1 : α → List AV} {c2 : β → List AV} {o1 : α → Prop} {o2 : β → Prop} (h1 : Dec F enc P w sp held n t c1 o1) (h2 : DecL F enc P w sp held n L c2 o2) :
  DecL F enc P w sp held n ((t, o) :: L) (fun x : α × β => c1 x.1 ++ c2 x.2) (fun x => o1 x.1 ∧ o2 x.2) := by
 intro m hm off cs hch hf
 simp only [chainB, Bool.and_eq_true, beq_iff_eq] at hch
 obtain ⟨rfl, hch⟩ := hch
 obtain ⟨⟨d, ps⟩, hy, hyw⟩ := hf (t, o) (by simp)
 obtain ⟨x, hx, hv⟩ := h1 m hm _ _ _ hy hyw
 obtain ⟨y, hy2, hv2⟩ := h2 m hm _ cs hch fun f hfm => hf f (by simp [hfm])
 refine ⟨(x, y), ⟨hx, hy2⟩, ?_⟩
 have e : ((cs.drop o).take (totC P ((t, o) :: L))) = (cs.drop o).take (P.cellsOf t) ++ (cs.drop (o + P.cellsOf t)).take (totC P L) := by
  simp only [totC]
  rw [List.take_add, List.drop_drop]
 rw [e]
 have := hv.app hv2
 simpa using this
theorem Dec.struct {n : Nat} {t : TypeId} {fs : Array Field} (ht : P.underlying t = some (.struct fs)) {L : List (TypeId × Nat)} (hL : fs.toList.map (fun f => (f.type, f.offset)) = L) (hch : chainB P 0 L = true) (htot : P.cellsOf t = totC P L)
  {α : Type} {cells : α → List AV} {ok : α → Prop} (h : DecL F enc P w sp held n L cells ok) : Dec F enc P w sp held (n + 1) t cells ok := by
 intro fuel hf cs d ps hd hwt
 obtain ⟨xs, m, rfl, hdx, hlen, hxl, hfs⟩ := DataW.trod_struct ht hd
 obtain ⟨x, hx, hv⟩ := h m (by omega) 0 cs hch fun f hfm => by
  rw [← hL] at hfm
  obtain ⟨g, hg, rfl⟩ := List.mem_map.1 hfm
  obtain ⟨i, hi, e⟩ := List.mem_iff_getElem.1 hg
  have hi' : i < fs.size := by simpa using hi
  have h1 := hfs i g (by rw [Array.getElem?_eq_getElem hi']; congr 1)
  rw [List.getElem?_eq_getElem (by omega)] at h1
  refine ⟨_, h1, fun q hq => hwt q ?_⟩
  obtain rfl : d = _ := congrArg Prod.fst hdx
  simp only [DataW.weights, ht]
  exact DataW.weights_mem_each (j := i) (t := g.type) (by rw [List.getElem?_map, List.getElem?_eq_getElem hi, e]; rfl) (by rw [List.getElem?_map, List.getElem?_eq_getElem (by omega)]; rfl) q hq
 refine ⟨x, hx, ?_⟩
 rw [List.drop_zero, ← htot, ← hlen, List.take_length] at hv
 exact hv
theorem Dec.map {n : Nat} {t : TypeId} {α β : Type} {c1 : α → List AV} {c2 : β → List AV} {o1 : α → Prop} {o2 : β → Prop} (g : α → β) (hc : ∀ x, c2 (g x) = c1 x) (ho : ∀ x, o1 x → o2 (g x)) (h : Dec F enc P w sp held n t c1 o1) : Dec F enc P w sp held n t c2 o2 := by
 intro fuel hf cs d ps hd hw
 obtain ⟨x, hx, hv⟩ := h fuel hf cs d ps hd hw
 exact ⟨g x, ho x hx, by rw [hc]; exact hv⟩
theorem Dec.arg {t : TypeId} {α : Type} {cells : α → List AV} {ok : α → Prop} (h : ∀ n, Dec F enc P w sp held n t cells ok) {v : Value} {d : DataW H} {ps : List MemPlace} (hd : DataW.Trod enc P w 0 sp held t v d ps) (hw : ∀ m ∈ d.weights P t, m ≤ reachBytes) : ∃ x, ok x ∧ VRs F w (Ghost.mt (allFz w)) (cells x) v.cells := by
 obtain ⟨fuel, hf⟩ := hd
 obtain ⟨x, hx, hv⟩ := h fuel fuel (Nat.le_refl _) _ _ _ hf hw
 exact ⟨x, hx, by simpa using hv⟩
end
end Rb

namespace Rb
open Go
mutual
structure GType where
 kind : Int
 size : Int
 packed : Bool
 fields : List GField
 count : Int
 elem : List GType
structure GField where
 name : List UInt8
 type : GType
 bits : Bool
 width : Int
end
mutual
def GType.cells : GType → List AV
 | .mk kind size packed fields count elem => [.int .i64 kind, .int .i64 size, .bool packed, .lst .dead fields.length (GField.all fields), .int .i64 count, .lst .dead elem.length (GType.all elem)]
def GType.all : List GType → List AV
 | [] => []
 | x :: r => GType.cells x ++ GType.all r
def GField.cells : GField → List AV
 | .mk name type bits width => .str name :: (GType.cells type ++ [.bool bits, .int .i64 width])
def GField.all : List GField → List AV
 | [] => []
 | x :: r => GField.cells x ++ GField.all r
end
theorem GType.all_eq : ∀ xs : List GType, GType.all xs = xs.flatMap GType.cells
 | [] => rfl
 | x :: r => by rw [GType.all, GType.all_eq r, List.flatMap_cons]
theorem GField.all_eq : ∀ xs : List GField, GField.all xs = xs.flatMap GField.cells
 | [] => rfl
 | x :: r => by rw [GField.all, GField.all_eq r, List.flatMap_cons]
theorem GType.cells_eq (x : GType) : x.cells = [.int .i64 x.kind, .int .i64 x.size, .bool x.packed, lstA GField.cells x.fields, .int .i64 x.count, lstA GType.cells x.elem] := by
 cases x; simp only [GType.cells, GType.all_eq, GField.all_eq, lstA]
theorem GField.cells_eq (x : GField) : x.cells = .str x.name :: (x.type.cells ++ [.bool x.bits, .int .i64 x.width]) := by
 cases x; rfl
theorem GType.len (x : GType) : x.cells.length = 6 := by rw [GType.cells_eq]; rfl
theorem GField.len (x : GField) : x.cells.length = 9 := by rw [GField.cells_eq]; simp [GType.len]
def i64ok (z : Int) : Prop := -9223372036854775808 ≤ z ∧ z ≤ 9223372036854775807
mutual
def GType.ok : GType → Prop
 | .mk kind size packed fields count elem => i64ok kind ∧ i64ok size ∧ fields.length ≤ maxLen ∧ GField.oks fields ∧ i64ok count ∧ elem.length ≤ maxLen ∧ GType.oks elem
def GType.oks : List GType → Prop
 | [] => True
 | x :: r => GType.ok x ∧ GType.oks r
def GField.ok : GField → Prop
 | .mk name type bits width => name.length ≤ 140737488351232 ∧ GType.ok type ∧ i64ok width
def GField.oks : List GField → Prop
 | [] => True
 | x :: r => GField.ok x ∧ GField.oks r
end
section
variable {H : Type} {enc : TypeId × Value → H} {P : Program} {w : World} {sp : Nat → Bool} {held : Bool} {F : FTab}
end
end Rb

namespace Rb
open Go
mutual
structure GExpr where
 kind : Int
 n : Int
 name : List UInt8
 op : Int
 order : Int
 place : GPlace
 kids : List GExpr
structure GPlace where
 var : List UInt8
 parts : List GPart
structure GPart where
 field : List UInt8
 index : List GExpr
end
mutual
def GExpr.cells : GExpr → List AV
 | .mk kind n name op order place kids => .int .i64 kind :: .int .u64 n :: .str name :: .int .i64 op :: .int .i64 order :: (GPlace.cells place ++ [.lst .dead kids.length (GExpr.all kids)])
def GExpr.all : List GExpr → List AV
 | [] => []
 | x :: r => GExpr.cells x ++ GExpr.all r
def GPlace.cells : GPlace → List AV
 | .mk var parts => [.str var, .lst .dead parts.length (GPart.all parts)]
def GPart.cells : GPart → List AV
 | .mk field index => [.str field, .lst .dead index.length (GExpr.all index)]
def GPart.all : List GPart → List AV
 | [] => []
 | x :: r => GPart.cells x ++ GPart.all r
end
theorem GExpr.all_eq : ∀ xs : List GExpr, GExpr.all xs = xs.flatMap GExpr.cells
 | [] => rfl
 | x :: r => by rw [GExpr.all, GExpr.all_eq r, List.flatMap_cons]
theorem GPart.all_eq : ∀ xs : List GPart, GPart.all xs = xs.flatMap GPart.cells
 | [] => rfl
 | x :: r => by rw [GPart.all, GPart.all_eq r, List.flatMap_cons]
theorem GPlace.cells_eq (x : GPlace) : x.cells = [.str x.var, lstA GPart.cells x.parts] := by
 cases x; simp only [GPlace.cells, GPart.all_eq, lstA]
theorem GPart.cells_eq (x : GPart) : x.cells = [.str x.field, lstA GExpr.cells x.index] := by
 cases x; simp only [GPart.cells, GExpr.all_eq, lstA]
theorem GExpr.cells_eq (x : GExpr) : x.cells = .int .i64 x.kind :: .int .u64 x.n :: .str x.name :: .int .i64 x.op :: .int .i64 x.order :: (x.place.cells ++ [lstA GExpr.cells x.kids]) := by
 cases x; simp only [GExpr.cells, GExpr.all_eq, lstA]
theorem GPlace.len (x : GPlace) : x.cells.length = 2 := by rw [GPlace.cells_eq]; rfl
theorem GPart.len (x : GPart) : x.cells.length = 2 := by rw [GPart.cells_eq]; rfl
theorem GExpr.len (x : GExpr) : x.cells.length = 8 := by rw [GExpr.cells_eq]; simp [GPlace.len]
def u64ok (z : Int) : Prop := 0 ≤ z ∧ z ≤ 18446744073709551615
mutual
def GExpr.ok : GExpr → Prop
 | .mk kind n name op order place kids => i64ok kind ∧ u64ok n ∧ name.length ≤ 140737488351232 ∧ i64ok op ∧ i64ok order ∧ GPlace.ok place ∧ kids.length ≤ maxLen ∧ GExpr.oks kids
def GExpr.oks : List GExpr → Prop
 | [] => True
 | x :: r => GExpr.ok x ∧ GExpr.oks r
def GPlace.ok : GPlace → Prop
 | .mk var parts => var.length ≤ 140737488351232 ∧ parts.length ≤ maxLen ∧ GPart.oks parts
def GPart.ok : GPart → Prop
 | .mk field index => field.length ≤ 140737488351232 ∧ index.length ≤ maxLen ∧ GExpr.oks index
def GPart.oks : List GPart → Prop
 | [] => True
 | x :: r => GPart.ok x ∧ GPart.oks r
end
structure GVar where
 name : List UInt8
 type : GType
def GVar.cells (x : GVar) : List AV := .str x.name :: x.type.cells
theorem GVar.len (x : GVar) : x.cells.length = 7 := by simp [GVar.cells, GType.len]
def GVar.ok (x : GVar) : Prop := x.name.length ≤ 140737488351232 ∧ x.type.ok
section
variable {H : Type} {enc : TypeId × Value → H} {P : Program} {w : World} {sp : Nat → Bool} {held : Bool} {F : FTab}
theorem Dec.i64 {n : Nat} {ti : TypeId} (h : P.underlying ti = some (.int .i64)) : Dec F enc P w sp held n ti (fun z : Int => [.int .i64 z]) i64ok := Dec.map id (fun _ => rfl) (fun x hx => by
    simp only [IntKind.min, IntKind.max, IntKind.signed, IntKind.bits, if_true] at hx
    show -9223372036854775808 ≤ x ∧ x ≤ 9223372036854775807
    omega) (Dec.int h)
theorem Dec.u64 {n : Nat} {ti : TypeId} (h : P.underlying ti = some (.int .u64)) : Dec F enc P w sp held n ti (fun z : Int => [.int .u64 z]) u64ok := Dec.map id (fun _ => rfl) (fun x hx => by
    simp [IntKind.min, IntKind.max, IntKind.signed, IntKind.bits] at hx
    show 0 ≤ x ∧ x ≤ 18446744073709551615
    omega) (Dec.int h)
end
end Rb

namespace Rb
open Go
structure GStmt where
 kind : Int
 line : Int
 name : List UInt8
 name2 : List UInt8
 order : Int
 place : GPlace
 exprs : List GExpr
 thn : List GStmt
 els : List GStmt
mutual
def GStmt.cells : GStmt → List AV
 | .mk kind line name name2 order place exprs thn els => .int .i64 kind :: .int .i64 line :: .str name :: .str name2 :: .int .i64 order :: (GPlace.cells place ++ [lstA GExpr.cells exprs, .lst .dead thn.length (GStmt.all thn), .lst .dead els.length (GStmt.all els)])
def GStmt.all : List GStmt → List AV
 | [] => []
 | x :: r => GStmt.cells x ++ GStmt.all r
end
theorem GStmt.all_eq : ∀ xs : List GStmt, GStmt.all xs = xs.flatMap GStmt.cells
 | [] => rfl
 | x :: r => by rw [GStmt.all, GStmt.all_eq r, List.flatMap_cons]
theorem GStmt.cells_eq (x : GStmt) : x.cells = .int .i64 x.kind :: .int .i64 x.line :: .str x.name :: .str x.name2 :: .int .i64 x.order :: (x.place.cells ++ [lstA GExpr.cells x.exprs, lstA GStmt.cells x.thn, lstA GStmt.cells x.els]) := by
 cases x; simp only [GStmt.cells, GStmt.all_eq, lstA]
theorem GStmt.len (x : GStmt) : x.cells.length = 10 := by rw [GStmt.cells_eq]; simp [GPlace.len]
mutual
def GStmt.ok : GStmt → Prop
 | .mk kind line name name2 order place exprs thn els => i64ok kind ∧ i64ok line ∧ name.length ≤ 140737488351232 ∧ name2.length ≤ 140737488351232 ∧ i64ok order ∧ GPlace.ok place ∧ exprs.length ≤ maxLen ∧ GExpr.oks exprs ∧ thn.length ≤ maxLen ∧ GStmt.oks thn ∧ els.length ≤ maxLen ∧ GStmt.oks els
def GStmt.oks : List GStmt → Prop
 | [] => True
 | x :: r => GStmt.ok x ∧ GStmt.oks r
end
structure GProg where
 vars : List GVar
 threads : List (List GStmt)
def thrCells (l : List GStmt) : List AV := [lstA GStmt.cells l]
def GProg.cells (x : GProg) : List AV := [lstA GVar.cells x.vars, lstA thrCells x.threads]
def GProg.ok (x : GProg) : Prop := (x.vars.length ≤ maxLen ∧ ∀ v ∈ x.vars, v.ok) ∧ x.threads.length ≤ maxLen ∧ ∀ t ∈ x.threads, t.length ≤ maxLen ∧ ∀ s ∈ t, s.ok
section
variable {H : Type} {enc : TypeId × Value → H} {P : Program} {w : World} {sp : Nat → Bool} {held : Bool} {F : FTab}
end
end Rb

namespace Rb
open Go
@[simp] theorem Do_of {α : Type} (a : α) (K : α → Prop) : Do (some a) K ↔ K a := ⟨fun ⟨b, h, k⟩ => by cases h; exact k, fun h => ⟨a, rfl, h⟩⟩
@[simp] theorem DoH_some (v : AV) (H : AH) (K : Post) : DoH (some (v, H)) K ↔ K v H := ⟨fun ⟨a, b, h, k⟩ => by cases h; exact k, fun h => ⟨v, H, rfl, h⟩⟩
@[simp] theorem Gd_true (b : Bool) (A B : Prop) : Gd (.bool b) true A B ↔ if b = true then A else B := Iff.rfl
@[simp] theorem Gd_false (b : Bool) (A B : Prop) : Gd (.bool b) false A B ↔ if b = false then A else B := Iff.rfl
@[simp] theorem JoinP_def (K : List AV → AH → Prop) (st : List AV) (H : AH) : JoinP K st H ↔ K st H := Iff.rfl
@[simp] theorem sl_zero (a : AV) (l : List AV) : sl (a :: l) 0 = a := rfl
@[simp] theorem sl_succ (a : AV) (l : List AV) (i : Nat) : sl (a :: l) (i + 1) = sl l i := rfl
section
variable (k : IntKind) (a b : Int)
@[simp] theorem abin_add : abin .add (.int k a) (.int k b) = some (.int k (k.wrap (a + b))) := by simp [abin, abinInt]
@[simp] theorem abin_sub : abin .sub (.int k a) (.int k b) = some (.int k (k.wrap (a - b))) := by simp [abin, abinInt]
@[simp] theorem abin_mul : abin .mul (.int k a) (.int k b) = some (.int k (k.wrap (a * b))) := by simp [abin, abinInt]
@[simp] theorem abin_eql : abin .eql (.int k a) (.int k b) = some (.bool (a == b)) := by simp [abin, abinInt]
@[simp] theorem abin_neq : abin .neq (.int k a) (.int k b) = some (.bool (a != b)) := by simp [abin, abinInt]
@[simp] theorem abin_lss : abin .lss (.int k a) (.int k b) = some (.bool (decide (a < b))) := by simp [abin, abinInt]
@[simp] theorem abin_leq : abin .leq (.int k a) (.int k b) = some (.bool (decide (a ≤ b))) := by simp [abin, abinInt]
@[simp] theorem abin_gtr : abin .gtr (.int k a) (.int k b) = some (.bool (decide (a > b))) := by simp [abin, abinInt]
@[simp] theorem abin_geq : abin .geq (.int k a) (.int k b) = some (.bool (decide (a ≥ b))) := by simp [abin, abinInt]
theorem abin_rem (h : b ≠ 0) : abin .rem (.int k a) (.int k b) = some (.int k (a.tmod b)) := by simp [abin, abinInt, h]
theorem abin_quo (h : b ≠ 0) : abin .quo (.int k a) (.int k b) = some (.int k (k.wrap (a.tdiv b))) := by simp [abin, abinInt, h]
@[simp] theorem abin_and : abin .and (.int k a) (.int k b) = some (.int k (k.wrap (BitVec.ofInt k.bits a &&& BitVec.ofInt k.bits b).toNat)) := by simp [abin, abinInt, bitsOp]
@[simp] theorem abin_or : abin .or (.int k a) (.int k b) = some (.int k (k.wrap (BitVec.ofInt k.bits a ||| BitVec.ofInt k.bits b).toNat)) := by simp [abin, abinInt, bitsOp]
@[simp] theorem abin_xor : abin .xor (.int k a) (.int k b) = some (.int k (k.wrap (BitVec.ofInt k.bits a ^^^ BitVec.ofInt k.bits b).toNat)) := by simp [abin, abinInt, bitsOp]
theorem abin_shr (k' : IntKind) (h : 0 ≤ b) : abin .shr (.int k a) (.int k' b) = some (.int k (a.fdiv (2 ^ (min b.toNat k.bits)))) := by simp [abin, abinInt, Int.not_lt.2 h]
theorem abin_shl (k' : IntKind) (h : 0 ≤ b) : abin .shl (.int k a) (.int k' b) = some (.int k (k.wrap (a * 2 ^ (min b.toNat k.bits)))) := by simp [abin, abinInt, Int.not_lt.2 h]
@[simp] theorem aconv_int (k' : IntKind) : aconv k' (.int k a) = some (.int k' (k'.wrap a)) := rfl
@[simp] theorem abeq_def (neg : Bool) (x y : Bool) : abeq neg (.bool x) (.bool y) = some (.bool (if neg then !(x == y) else x == y)) := rfl
@[simp] theorem aun_not (x : Bool) : aun .not (.bool x) = some (.bool !x) := rfl
end
@[simp] theorem alen_lst (tk : Tok) (n : Nat) (cs : List AV) : alen false (.lst tk n cs) = some (.int .i64 n) := rfl
@[simp] theorem alen_row (id o n sz : Nat) : alen false (.row id o n sz) = some (.int .i64 n) := rfl
@[simp] theorem alen_str (s : List UInt8) : alen true (.str s) = some (.int .i64 s.length) := rfl
end Rb

namespace Rb
open Go
def AH.Ext (H H' : AH) : Prop := H.n ≤ H'.n ∧ ∀ i, i < H.n → H'.o i = H.o i
theorem AH.Ext.refl (H : AH) : AH.Ext H H := ⟨Nat.le_refl _, fun _ _ => rfl⟩
theorem AH.Ext.trans {a b c : AH} (h : AH.Ext a b) (k : AH.Ext b c) : AH.Ext a c := ⟨Nat.le_trans h.1 k.1, fun i hi => (k.2 i (Nat.lt_of_lt_of_le hi h.1)).trans (h.2 i hi)⟩
theorem AH.Ext.push (H : AH) (x : AObj) : AH.Ext H (H.push x) := ⟨Nat.le_succ _, fun i hi => if_neg (Nat.ne_of_lt hi)⟩
theorem AH.Ext.set {H H' : AH} (h : AH.Ext H H') {i : Nat} (hi : H.n ≤ i) (x : AObj) : AH.Ext H (H'.set i x) := ⟨h.1, fun j hj => by
  simp only [AH.set]; rw [if_neg (by omega)]; exact h.2 j hj⟩
@[simp] theorem AH.push_n (H : AH) (x : AObj) : (H.push x).n = H.n + 1 := rfl
@[simp] theorem AH.set_n (H : AH) (i : Nat) (x : AObj) : (H.set i x).n = H.n := rfl
theorem AH.push_self (H : AH) (x : AObj) : (H.push x).o H.n = x := if_pos rfl
theorem AH.push_ne (H : AH) (x : AObj) {i : Nat} (h : i ≠ H.n) : (H.push x).o i = H.o i := if_neg h
theorem AH.set_self (H : AH) (i : Nat) (x : AObj) : (H.set i x).o i = x := if_pos rfl
theorem AH.set_ne (H : AH) {i j : Nat} (x : AObj) (h : j ≠ i) : (H.set i x).o j = H.o j := if_neg h
theorem wrap_i64 {n : Int} (h1 : -9223372036854775808 ≤ n) (h2 : n ≤ 9223372036854775807) : IntKind.wrap .i64 n = n := by
 simp [IntKind.wrap, IntKind.signed, IntKind.bits]; omega
def Lst (H0 H : AH) (sz : Nat) (x : AV) (len : Nat) (cells : List AV) : Prop :=
 AH.Ext H0 H ∧ ∃ tk, x = .lst tk len cells ∧ cells.length = len * sz ∧ ((tk = .nil ∧ len = 0) ∨ ∃ t, tk = .own t ∧ H0.n ≤ t ∧ t < H.n ∧ H.o t = .tok (len * sz) sz)
theorem Lst.nil (H : AH) (sz : Nat) : Lst H H sz (.lst .nil 0 []) 0 [] := ⟨AH.Ext.refl H, .nil, rfl, by simp, .inl ⟨rfl, rfl⟩⟩
theorem Lst.append {H0 H : AH} {sz bytes len m : Nat} {x y : AV} {cells news : List AV} {K : Post} (h : Lst H0 H sz x len cells) (hy : acells H sz y = some (m, news)) (hn : news.length = m * sz) (hs : news.all AV.scalar = true) (hm : m ≠ 0)
  (hb : (len + m) * bytes ≤ 140737488355328) (hl : len + m ≤ 9223372036854775807) (hK : ∀ x' H', Lst H0 H' sz x' (len + m) (cells ++ news) → K x' H') : DoH (aappend H false sz bytes x y) K := by
 obtain ⟨hx, tk, rfl, hc, htk⟩ := h
 have hlen : (cells ++ news).length = (len + m) * sz := by simp [hc, hn, Nat.add_mul]
 rcases htk with ⟨rfl, rfl⟩ | ⟨t, rfl, h1, h2, h3⟩
 · refine ⟨.lst (.own H.n) (0 + m) (cells ++ news), H.push (.tok ((0 + m) * sz) sz), ?_, hK _ _ ⟨hx.trans (AH.Ext.push _ _), _, rfl, hlen, .inr ⟨H.n, rfl, hx.1, Nat.lt_succ_self _, AH.push_self _ _⟩⟩⟩
   simp only [aappend, hy, hs, not_true_eq_false, if_false, if_neg hm]
   rw [if_neg (by simp only [Decidable.not_not]; exact ⟨hc, hb, hl⟩)]
 · refine ⟨.lst (.own H.n) (len + m) (cells ++ news), (H.set t .gone).push (.tok ((len + m) * sz) sz), ?_, hK _ _ ⟨(hx.set h1 _).trans (AH.Ext.push _ _), _, rfl, hlen, .inr ⟨H.n, rfl, hx.1, Nat.lt_succ_self _, AH.push_self _ _⟩⟩⟩
   simp only [aappend, hy, hs, not_true_eq_false, if_false, if_neg hm]
   rw [if_neg (by simp only [Decidable.not_not]; exact ⟨hc, hb, hl⟩)]
   simp [h3]
def At (H : AH) (id : Nat) (x : AObj) : Prop := id < H.n ∧ H.o id = x
theorem At.new (H : AH) (x : AObj) : At (H.push x) H.n x := ⟨Nat.lt_succ_self _, AH.push_self H x⟩
theorem At.ext {H H' : AH} {id : Nat} {x : AObj} (h : At H id x) (hE : AH.Ext H H') : At H' id x := ⟨Nat.lt_of_lt_of_le h.1 hE.1, (hE.2 id h.1).trans h.2⟩
theorem At.push {H : AH} {id : Nat} {x : AObj} (h : At H id x) (y : AObj) : At (H.push y) id x := h.ext (AH.Ext.push H y)
theorem At.set_ne {H : AH} {id i : Nat} {x : AObj} (h : At H id x) (hne : id ≠ i) (y : AObj) : At (H.set i y) id x := ⟨h.1, (AH.set_ne H y hne).trans h.2⟩
theorem At.set {H : AH} {id : Nat} {x : AObj} (h : At H id x) (y : AObj) : At (H.set id y) id y := ⟨h.1, AH.set_self H id y⟩
theorem At.ne {H : AH} {id i : Nat} {x y : AObj} (h : At H id x) (k : At H i y) (hxy : x ≠ y) : id ≠ i := fun e => hxy (by rw [← h.2, ← k.2, e])
theorem At.lt_new {H : AH} {id : Nat} {x : AObj} (h : At H id x) : id ≠ H.n := Nat.ne_of_lt h.1
theorem At.load {H : AH} {id : Nat} {cs : List AV} (h : At H id (.row cs)) (n o : Nat) (agg : Bool) : aload H n agg (.ptr id o) = takeCells cs o n agg := by simp [aload, h.2]
theorem At.store {H : AH} {id : Nat} {cs : List AV} (h : At H id (.row cs)) (n o : Nat) (v : AV) : astore H n (.ptr id o) v = if v.known ∧ v.cells.length = n ∧ v.cells.all AV.scalar ∧ o + n ≤ cs.length then some (H.set id (.row (setCells cs o v.cells))) else none := by simp [astore, h.2]
end Rb

namespace Rb
open Go
@[simp] theorem Gd3_true (b : Bool) (A B C : Prop) : Gd3 (.bool b) true A B C ↔ if b = true then A else B := Iff.rfl
@[simp] theorem Gd3_false (b : Bool) (A B C : Prop) : Gd3 (.bool b) false A B C ↔ if b = false then A else B := Iff.rfl
@[simp] theorem Gd3_tup (want : Bool) (A B C : Prop) : Gd3 (.tup []) want A B C ↔ C := Iff.rfl
theorem ite_both {c : Prop} [Decidable c] {A B : Prop} (h1 : c → A) (h2 : ¬ c → B) : if c then A else B := by
 split
 · exact h1 ‹_›
 · exact h2 ‹_›
theorem drop_nil_le {α : Type} {xs : List α} {i : Nat} (h : xs.drop i = []) : xs.length ≤ i := by simpa using h
theorem drop_cons_lt {α : Type} {xs ys : List α} {i : Nat} {y : α} (h : xs.drop i = y :: ys) : i < xs.length ∧ xs[i]? = some y ∧ xs.drop (i + 1) = ys := by
 have hlt : i < xs.length := by
  rcases Nat.lt_or_ge i xs.length with h' | h'
  · exact h'
  · rw [List.drop_eq_nil_of_le h'] at h; cases h
 refine ⟨hlt, ?_, ?_⟩
 · have := congrArg (fun l => l[0]?) h
   simpa using this
 · have := congrArg List.tail h
   simpa using this
end Rb

namespace Rb
open Go
section
variable {α : Type} {cells : α → List AV} {sz : Nat}
end
end Rb

namespace Rb
open Go
theorem frozs_app (a b : List AV) : AV.frozs (a ++ b) = (AV.frozs a && AV.frozs b) := by
 rw [frozs_all, frozs_all, frozs_all, List.all_append]
mutual
theorem GType.froz : ∀ x : GType, AV.frozs x.cells = true
 | .mk kind size packed fields count elem => by
  simp only [GType.cells, AV.frozs, AV.froz, Tok.free, GField.allFroz fields, GType.allFroz elem, Bool.and_self]
theorem GType.allFroz : ∀ xs : List GType, AV.frozs (GType.all xs) = true
 | [] => rfl
 | x :: r => by rw [GType.all, frozs_app, GType.froz x, GType.allFroz r]; rfl
theorem GField.froz : ∀ x : GField, AV.frozs x.cells = true
 | .mk name type bits width => by
  simp only [GField.cells, AV.frozs, AV.froz, frozs_app, GType.froz type, Bool.and_self]
theorem GField.allFroz : ∀ xs : List GField, AV.frozs (GField.all xs) = true
 | [] => rfl
 | x :: r => by rw [GField.all, frozs_app, GField.froz x, GField.allFroz r]; rfl
end
mutual
theorem GExpr.froz : ∀ x : GExpr, AV.frozs x.cells = true
 | .mk kind n name op order place kids => by
  simp only [GExpr.cells, AV.frozs, AV.froz, frozs_app, Tok.free, GPlace.froz place, GExpr.allFroz kids, Bool.and_self]
theorem GExpr.allFroz : ∀ xs : List GExpr, AV.frozs (GExpr.all xs) = true
 | [] => rfl
 | x :: r => by rw [GExpr.all, frozs_app, GExpr.froz x, GExpr.allFroz r]; rfl
theorem GPlace.froz : ∀ x : GPlace, AV.frozs x.cells = true
 | .mk var parts => by simp only [GPlace.cells, AV.frozs, AV.froz, Tok.free, GPart.allFroz parts, Bool.and_self]
theorem GPart.froz : ∀ x : GPart, AV.frozs x.cells = true
 | .mk field index => by simp only [GPart.cells, AV.frozs, AV.froz, Tok.free, GExpr.allFroz index, Bool.and_self]
theorem GPart.allFroz : ∀ xs : List GPart, AV.frozs (GPart.all xs) = true
 | [] => rfl
 | x :: r => by rw [GPart.all, frozs_app, GPart.froz x, GPart.allFroz r]; rfl
end
theorem lstA_froz {α : Type} {cells : α → List AV} (h : ∀ x, AV.frozs (cells x) = true) (xs : List α) : (lstA cells xs).froz = true := by
 have : AV.frozs (xs.flatMap cells) = true := by
  induction xs with
  | nil => rfl
  | cons x xs ih => rw [List.flatMap_cons, frozs_app, h, ih]; rfl
 simp only [lstA, AV.froz, Tok.free, this, Bool.and_self]
theorem GVar.froz (x : GVar) : AV.frozs x.cells = true := by simp only [GVar.cells, AV.frozs, AV.froz, GType.froz, Bool.and_self]
mutual
theorem GStmt.froz : ∀ x : GStmt, AV.frozs x.cells = true
 | .mk kind line name name2 order place exprs thn els => by
  simp only [GStmt.cells, AV.frozs, AV.froz, frozs_app, Tok.free, GPlace.froz place, lstA_froz GExpr.froz exprs, GStmt.allFroz thn, GStmt.allFroz els, Bool.and_self]
theorem GStmt.allFroz : ∀ xs : List GStmt, AV.frozs (GStmt.all xs) = true
 | [] => rfl
 | x :: r => by rw [GStmt.all, frozs_app, GStmt.froz x, GStmt.allFroz r]; rfl
end
theorem thr_froz (l : List GStmt) : AV.frozs (thrCells l) = true := by simp only [thrCells, AV.frozs, lstA_froz GStmt.froz, Bool.and_self]
theorem GProg.froz (x : GProg) : AV.frozs x.cells = true := by simp only [GProg.cells, AV.frozs, lstA_froz GVar.froz, lstA_froz thr_froz, Bool.and_self]
end Rb

namespace Rb
open Go
@[simp] theorem AH.push_set (H : AH) (x y : AObj) : (H.push x).set H.n y = H.push y := by
 simp only [AH.push, AH.set]
 congr 1
 funext j
 split <;> rfl
@[simp] theorem load_push (H : AH) (cs : List AV) (n o : Nat) (agg : Bool) : aload (H.push (.row cs)) n agg (.ptr H.n o) = takeCells cs o n agg := by
 simp [aload, AH.push_self]
theorem store_push (H : AH) (cs : List AV) (n o : Nat) (v : AV) (h1 : v.known = true) (h2 : v.cells.length = n) (h3 : v.cells.all AV.scalar = true) (h4 : o + n ≤ cs.length) : astore (H.push (.row cs)) n (.ptr H.n o) v = some (H.push (.row (setCells cs o v.cells))) := by
 rw [(At.new H (.row cs)).store, if_pos ⟨h1, h2, h3, h4⟩, AH.push_set]
theorem setCells_all {xs ys : List AV} : ∀ {k : Nat}, k + ys.length = xs.length → setCells xs k ys = xs.take k ++ ys := by
 induction ys generalizing xs with
 | nil => intro k h; simp only [setCells]; rw [List.append_nil, List.take_of_length_le (by simp at h; omega)]
 | cons y ys ih =>
  intro k h
  simp only [setCells]
  rw [ih (by simp at h ⊢; omega)]
  have hk : k < xs.length := by simp at h; omega
  rw [List.take_add_one, List.getElem?_set_self hk, List.take_set_of_le (by omega)]
  simp
theorem store_new (H : AH) (zs cs : List AV) (n : Nat) (h2 : cs.length = n) (h3 : cs.all AV.scalar = true) (h4 : zs.length = n) : astore (H.push (.row zs)) n (.ptr H.n 0) (.agg cs) = some (H.push (.row cs)) := by
 rw [store_push H zs n 0 (.agg cs) rfl h2 h3 (by omega)]
 congr 3
 show setCells zs 0 cs = cs
 rw [setCells_all (by omega)]; rfl
theorem takeCells_app {a b : List AV} {n : Nat} (h : a.length = n) : takeCells (a ++ b) 0 n true = some (.agg a) := by
 unfold takeCells
 rw [if_pos (by rw [List.length_append]; omega)]
 simp only [if_true, List.drop_zero]
 rw [List.take_append_of_le_length (by omega), List.take_of_length_le (by omega)]
theorem takeCells_whole {a : List AV} {n : Nat} (h : a.length = n) : takeCells a 0 n true = some (.agg a) := by
 have := takeCells_app (a := a) (b := []) h
 rwa [List.append_nil] at this
theorem takeCells_drop {cs : List AV} {o n : Nat} {agg : Bool} (h : o ≤ cs.length) : takeCells cs o n agg = takeCells (cs.drop o) 0 n agg := by
 by_cases hl : o + n ≤ cs.length
 · have hl' : 0 + n ≤ (cs.drop o).length := by rw [List.length_drop]; omega
   unfold takeCells
   simp only [hl, hl', if_true]
   cases agg <;> simp
 · have hl' : ¬ 0 + n ≤ (cs.drop o).length := by rw [List.length_drop]; omega
   unfold takeCells
   simp only [hl, hl', if_false]
mutual
theorem GType.scalar : ∀ x : GType, x.cells.all AV.scalar = true
 | .mk kind size packed fields count elem => by simp [GType.cells, AV.scalar]
theorem GField.scalar : ∀ x : GField, x.cells.all AV.scalar = true
 | .mk name type bits width => by simp only [GField.cells, List.all_cons, List.all_append, GType.scalar type]; rfl
end
theorem GPlace.scalar (x : GPlace) : x.cells.all AV.scalar = true := by rw [GPlace.cells_eq]; rfl
theorem GPart.scalar (x : GPart) : x.cells.all AV.scalar = true := by rw [GPart.cells_eq]; rfl
theorem GExpr.scalar (x : GExpr) : x.cells.all AV.scalar = true := by rw [GExpr.cells_eq]; simp only [List.all_cons, List.all_append, GPlace.scalar]; rfl
theorem GStmt.scalar (x : GStmt) : x.cells.all AV.scalar = true := by rw [GStmt.cells_eq]; simp only [List.all_cons, List.all_append, GPlace.scalar]; rfl
theorem GVar.scalar (x : GVar) : x.cells.all AV.scalar = true := by simp only [GVar.cells, List.all_cons, GType.scalar]; rfl
end Rb

namespace Rb
open Go
def i1 (k : IntKind) (z : Int) : List AV := [.int k z]
section
variable {α : Type} {c : α → AV}
end
end Rb

namespace Rb
open Go Go.RowKit
theorem cell_lt {w : World} {b o : Nat} {V : Value} (h : w.cell? ⟨b, o, none⟩ = some V) : b < w.heap.size := by
 unfold World.cell? at h
 split at h
 · rename_i hb
   exact (Array.getElem?_eq_some_iff.1 hb).1
 · cases h
theorem gle_below {w w' : World} {G : Ghost} (hb : Below w.heap.size w w') : GLe w G w' G :=
 ⟨Nat.le_refl _, fun _ _ => rfl, fun _ _ => rfl, fun _ _ h => h, fun b o V _ hc => by rw [hb.cell (p := ⟨b, o, none⟩) (cell_lt hc)]; exact hc⟩
theorem obj_below {F : FTab} {w w' : World} {G : Ghost} (hb : Below w.heap.size w w') {i : Nat} {x : AObj} (h : ObjR F w G i x) : ObjR F w' G i x := by
 have hg := gle_below (G := G) hb
 cases x with
 | row cs =>
  obtain ⟨c, e, h1, h2, h3, h4⟩ := h
  refine ⟨c, e, by rw [hb.block _ (Array.getElem?_eq_some_iff.1 h1).1]; exact h1, h2, h3, fun j c hj => ?_⟩
  obtain ⟨V, h5, h6⟩ := h4 j c hj
  exact ⟨V, h5, h6.mono hg⟩
 | tok k sz =>
  obtain ⟨c, e, h1, h2, h3, h4⟩ := h
  exact ⟨c, e, by rw [hb.block _ (Array.getElem?_eq_some_iff.1 h1).1]; exact h1, h2, h3, h4⟩
 | map es =>
  obtain ⟨c, e, h1, h2, h3, h4⟩ := h
  refine ⟨c, e, by rw [hb.block _ (Array.getElem?_eq_some_iff.1 h1).1]; exact h1, h2, h3, fun j k v hj => ?_⟩
  obtain ⟨m, h5, h6, h7⟩ := h4 j k v hj
  exact ⟨m, h5, h6.mono hg, h7.mono hg⟩
 | siter s pos =>
  obtain ⟨h1, h2⟩ := h
  exact ⟨by rw [hb.block _ (Array.getElem?_eq_some_iff.1 h1).1]; exact h1, h2⟩
 | bld T u b =>
  obtain ⟨v, h1, h2⟩ := h
  exact ⟨v, by rw [hb.block _ (Array.getElem?_eq_some_iff.1 h1).1]; exact h1, h2⟩
 | buf U bs =>
  obtain ⟨c, z, h1, h2⟩ := h
  exact ⟨c, z, by rw [hb.block _ (Array.getElem?_eq_some_iff.1 h1).1]; exact h1, h2⟩
 | gone => trivial
theorem rel_below {F : FTab} {w w' : World} {G : Ghost} {H : AH} (hb : Below w.heap.size w w') (h : Rel F w G H) : Rel F w' G H :=
 ⟨h.n, h.over, fun i => obj_below hb (h.obj i), h.dist, fun b o hf => by
   obtain ⟨V, hV⟩ := h.fzc b o hf
   exact ⟨V, by rw [hb.cell (p := ⟨b, o, none⟩) (cell_lt hV)]; exact hV⟩⟩
theorem step_below {F : FTab} {w w' : World} {G : Ghost} {H : AH} (hb : Below w.heap.size w w') (h : Rel F w G H) : Step w G H w' G H :=
 { gle_below hb with
   size := hb.size
   os := hb.os
   tape := hb.tape
   output := hb.output
   old := fun k hk _ => hb.block k hk
   owned := fun i hl _ => ⟨i, hl, rfl⟩
   fznew := fun _ _ hf => .inl hf }
end Rb

namespace Rb
open Go
theorem run_eql_slice {P : Program} {w : World} {t : TypeId} {d : TypeDesc} (hd : P.underlying t = some d) (hk : nilKind d = some .s) (a : Option Addr) (l c : Nat) :
  Sem.run P (binOp .eql t (.slice a l c) (.slice none 0 0)) w = .ok (.bool a.isNone) w := by
 have key : ∀ n, (Op.equalIn (n + 1) t (.slice a l c) (.slice none 0 0)).run P w = .ok a.isNone w := by
  intro n
  cases d <;> simp only [nilKind, Option.some.injEq, reduceCtorEq] at hk
  cases a <;> (unfold Op.equalIn; simp [run_underlying hd])
 have hb : binOp .eql t (.slice a l c) (.slice none 0 0) = (do pure (.bool (← Op.equal t (.slice a l c) (.slice none 0 0)))) := rfl
 rw [hb]
 have : (Op.equal t (.slice a l c) (.slice none 0 0)).run P w = .ok a.isNone w := key 9999
 simp [this]
end Rb

namespace Go.Proofs.YtjnhnoldfbkgmaaGreatDoor.rb
open Rb Go.RowKit
set_option maxRecDepth 100000 in
theorem cloneE_calls (a : Option Addr) (cap : Nat) (w : World) : Calls Tryz.prog 14 #[.slice a 0 cap] w fun e w' => ∃ a' cap', e = .returned (.slice a' 0 cap') ∧ Below w.heap.size w w' := by
 cases a with
 | none =>
  go_enter Tryz.func14, Tryz.ntmps14
  go_wp2
  rw [run_eql_slice Tryz.underlying69 (by kernel_rfl)]
  simp only [Result.andThen]
  rw [Oper.upon_value]
  go_wp2
  go_ret
  exact ⟨_, _, rfl, Below.refl _ _⟩
 | some a =>
  go_enter Tryz.func14, Tryz.ntmps14
  go_wp2
  rw [run_eql_slice Tryz.underlying69 (by kernel_rfl)]
  simp only [Result.andThen]
  rw [Oper.upon_value]
  go_wp2
  go_ret
  exact ⟨_, _, rfl, (Below.refl _ w).alloc (Nat.le_refl _) _⟩
theorem cloneE (H : AH) (Q : Post) (hQ : Q (.lst .dead 0 []) H) : ACall C 14 [.lst .dead 0 []] H Q := by
 refine ⟨⟨_, _, hQ⟩, fun f hf G w Vs hG hrel hargs => ?_⟩
 obtain rfl : f = 14 := by
  have : C.F 14 = some 14 := by kernel_rfl
  rw [this] at hf; exact (Option.some.inj hf).symm
 obtain ⟨hl, hv⟩ := hargs
 obtain ⟨Vl⟩ := Vs
 match Vl, hl with
 | [V0], _ =>
  have h0 := hv 0 _ V0 rfl rfl
  have h1 : ∃ a cap, V0 = .slice a 0 cap := by
   cases h0 with
   | lst0 a cap => exact ⟨a, cap, rfl⟩
   | lst _ _ _ b o cap Us htk hle h hv => exact ⟨_, cap, rfl⟩
  obtain ⟨a, cap, rfl⟩ := h1
  refine (cloneE_calls a cap w).mono fun e w' ⟨a', cap', he, hb⟩ => ?_
  exact ⟨_, _, H, G, he, hQ, .lst0 _ _, rel_below hb hrel, step_below hb hrel⟩
end Go.Proofs.YtjnhnoldfbkgmaaGreatDoor.rb

namespace Rb
open Go
def Val (Φ : Calls') (k : Nat) (args : List AV) (v : AV) : Prop := ∀ (H : AH) (Q : Post), Q v H → Φ k args H Q
theorem Val.of {C : Ctx} (hGT : GTok C) {k : Nat} {args : List AV} {v : AV} (ha : AV.frozs args = true) (hv : v.froz = true) (h : ∀ Q : Post, (∀ H', Q v H') → ACall C k args AH.mt Q) : Val (ACall C) k args v :=
 fun H Q hQ => ACall.frame2 (Q := fun u _ => u = v) hGT (h _ fun _ => rfl) ha H Q fun u _ hu => by subst hu; exact ⟨hv, hQ⟩
end Rb

namespace Rb
open Go
theorem u_ite {b : Bool} {A B : Prop} (h1 : b = true → A) (h2 : b = false → B) : if b = true then A else B := ite_both h1 fun h => h2 (by simpa using h)
theorem u_itef {b : Bool} {A B : Prop} (h1 : b = false → A) (h2 : b = true → B) : if b = false then A else B := ite_both h1 fun h => h2 (by simpa using h)
def memoryM (op : Int) : Int × List UInt8 :=
 if op = 17 then (960495616, [100, 97, 111, 115]) else
 if op = 18 then (956301312, [100, 97, 111, 115]) else
 if op = 19 then (148896768, [100, 97, 115]) else
 if op = 20 then (144702464, [100, 97, 115]) else
 if op = 21 then (140475392, [100, 97, 115]) else
 if op = 22 then (140508160, [100, 97, 115]) else
 if op = 23 then (134249472, [100, 97, 115, 109]) else
 if op = 24 then (134282240, [100, 97, 115, 109]) else
 if op = 25 then (3363766272, [100, 97, 101]) else
 if op = 26 then (3363799040, [100, 97, 101]) else
 if op = 27 then (3357540352, [100, 97, 101, 109]) else
 if op = 28 then (3357573120, [100, 97, 101, 109]) else (0, [])
def jumpM (op : Int) : Int × List UInt8 :=
 if op = 13 then (335544320, [98]) else
 if op = 14 then (1409286144, [120, 99]) else
 if op = 15 then (3019898880, [100, 120]) else
 if op = 16 then (3036676096, [100, 120]) else
 if op = 29 then (3573756095, [102]) else
 if op = 30 then (3573759839, [122]) else
 if op = 31 then (3556769793, [105]) else
 if op = 32 then (3558866944, [105]) else memoryM op
def shapeM (op : Int) : Int × List UInt8 :=
 if op = 1 then (3531603968, [100, 105, 113]) else
 if op = 2 then (4068474880, [100, 105, 113]) else
 if op = 3 then (2332033024, [100, 110, 109]) else
 if op = 4 then (3405774848, [100, 110, 109]) else
 if op = 5 then (3942645760, [100, 110, 109]) else
 if op = 6 then (2315255808, [100, 110, 109]) else
 if op = 7 then (2852126720, [100, 110, 109]) else
 if op = 8 then (3388997632, [100, 110, 109]) else
 if op = 9 then (2600500224, [100, 110, 109]) else
 if op = 10 then (2596282368, [100, 110, 109]) else
 if op = 11 then (2596283392, [100, 110, 109]) else
 if op = 12 then (2594113504, [100, 107]) else jumpM op
def fieldM (c : Int) : Int × Int × Bool × Int × Int :=
 if c = 100 then (0, 5, false, 0, 31) else
 if c = 110 then (5, 5, false, 0, 31) else
 if c = 97 then (5, 5, false, 0, 30) else
 if c = 109 then (16, 5, false, 0, 31) else
 if c = 101 then (10, 5, false, 0, 31) else
 if c = 113 then (21, 2, false, 0, 3) else
 if c = 99 then (0, 2, false, 0, 3) else
 if c = 107 then (12, 2, false, 1, 3) else
 if c = 115 then (30, 2, false, 0, 3) else
 if c = 105 then (5, 16, false, 0, 65535) else
 if c = 111 then (10, 12, false, 0, 4095) else
 if c = 98 then (0, 26, true, 0, 0) else
 if c = 120 then (5, 19, true, 0, 0) else
 if c = 102 then (8, 4, false, 0, 2) else (0, 0, false, 0, 0)
def fldV (f : Int × Int × Bool × Int × Int) : List AV := [.int .i64 f.1, .int .i64 f.2.1, .bool f.2.2.1, .int .u32 f.2.2.2.1, .int .i64 f.2.2.2.2]
def FldOK (c : Int) (f : Int × Int × Bool × Int × Int) : Prop := 0 ≤ f.1 ∧ f.1 ≤ 31 ∧ 0 ≤ f.2.1 ∧ f.2.1 ≤ 26 ∧ (f.2.2.1 = true → 1 ≤ f.2.1) ∧ (c = 102 → f.2.2.1 = false ∧ f.2.2.2.2 = 2)
theorem ite_P {α : Type} {c : Prop} [Decidable c] {a b : α} (P : α → Prop) (h1 : c → P a) (h2 : ¬ c → P b) : P (if c then a else b) := by
 split
 · exact h1 ‹_›
 · exact h2 ‹_›
theorem fieldM_ok (c : Int) : FldOK c (fieldM c) := by
 unfold fieldM
 iterate 14 (refine ite_P (FldOK c) (fun h => by subst h; exact ⟨by decide, by decide, by decide, by decide, by decide, by decide⟩) (fun h => ?_))
 exact ⟨by decide, by decide, by decide, by decide, by decide, fun e => absurd e (by omega)⟩
def shpV (r : Int × List UInt8) : AV := .agg [.int .u32 r.1, .str r.2]
section
variable {Φ : Calls'} {H : AH} {Q : Post}
theorem ret2 {zs cs : List AV} {ps : List (Nat × Nat × AV)} {n : Nat} (hQ : ∀ H', Q (.agg cs) H') (hb : abuild zs ps = some (.agg cs)) (h2 : cs.length = n) (h3 : cs.all AV.scalar = true) (h4 : zs.length = n) :
  Do (abuild zs ps) fun x4 => Do (astore (H.push (.row zs)) n (.ptr H.n 0) x4) fun H5 => Do (aload H5 n true (.ptr H.n 0)) fun x6 => Q x6 H5 := by
 rw [hb]
 simp only [Do_of]
 rw [store_new H zs cs n h2 h3 h4]
 simp only [Do_of]
 rw [(At.new H _).load, takeCells_whole h2]
 simp only [Do_of]
 exact hQ _
theorem ret3 {zs cs : List AV} {n : Nat} (hQ : ∀ H', Q (.agg cs) H') (h2 : cs.length = n) (h3 : cs.all AV.scalar = true) (h4 : zs.length = n) :
  Do (astore (H.push (.row zs)) n (.ptr H.n 0) (.agg cs)) fun H5 => Do (aload H5 n true (.ptr H.n 0)) fun x6 => Q x6 H5 := by
 rw [store_new H zs cs n h2 h3 h4]
 simp only [Do_of]
 rw [(At.new H _).load, takeCells_whole h2]
 simp only [Do_of]
 exact hQ _
theorem memory_spec {op : Int} (hQ : ∀ H', Q (shpV (memoryM op)) H') : S.f130 Φ (.int .i64 op) H Q := by
 unfold memoryM at hQ
 unfold S.f130
 simp only [abox, DoH_some, if_true, Bool.false_eq_true, if_false, abin_eql, Do_of, Gd_true]
 iterate 12 (refine u_ite (fun h => (by
   rw [if_pos (by simpa using h)] at hQ
   exact ret2 hQ rfl rfl rfl rfl)) (fun h => ?_); rw [if_neg (by simpa using h)] at hQ)
 exact ret2 hQ rfl rfl rfl rfl
theorem jump_spec {op : Int} (hM : Val Φ K.f130 [.int .i64 op] (shpV (memoryM op))) (hQ : ∀ H', Q (shpV (jumpM op)) H') : S.f93 Φ (.int .i64 op) H Q := by
 unfold jumpM at hQ
 unfold S.f93
 simp only [abox, DoH_some, if_true, Bool.false_eq_true, if_false, abin_eql, Do_of, Gd_true]
 iterate 8 (refine u_ite (fun h => (by
   rw [if_pos (by simpa using h)] at hQ
   exact ret2 hQ rfl rfl rfl rfl)) (fun h => ?_); rw [if_neg (by simpa using h)] at hQ)
 exact hM _ _ (ret3 hQ rfl rfl rfl)
theorem of_spec {op : Int} (hM : Val Φ K.f93 [.int .i64 op] (shpV (jumpM op))) (hQ : ∀ H', Q (shpV (shapeM op)) H') : S.f60 Φ (.int .i64 op) H Q := by
 unfold shapeM at hQ
 unfold S.f60
 simp only [abox, DoH_some, if_true, Bool.false_eq_true, if_false, abin_eql, Do_of, Gd_true]
 iterate 12 (refine u_ite (fun h => (by
   rw [if_pos (by simpa using h)] at hQ
   exact ret2 hQ rfl rfl rfl rfl)) (fun h => ?_); rw [if_neg (by simpa using h)] at hQ)
 exact hM _ _ (ret3 hQ rfl rfl rfl)
theorem place_spec {c : Int} (hQ : ∀ H', Q (.agg (fldV (fieldM c))) H') : S.f61 Φ (.int .u8 c) H Q := by
 unfold fieldM at hQ
 unfold S.f61
 simp only [abox, DoH_some, if_true, Bool.false_eq_true, if_false, abin_eql, Do_of, Gd_true]
 iterate 14 (refine u_ite (fun h => (by
   rw [if_pos (by simpa using h)] at hQ
   exact ret2 hQ rfl rfl rfl rfl)) (fun h => ?_); rw [if_neg (by simpa using h)] at hQ)
 exact ret2 hQ rfl rfl rfl rfl
def atM (c : Int) : Nat := if c = 100 then 1 else if c = 110 ∨ c = 97 then 2 else if c = 109 then 3 else if c = 101 ∨ c = 113 ∨ c = 99 ∨ c = 107 then 4 else if c = 115 then 5 else 6
theorem at_spec {c : Int} {id : Nat} (hQ : Q (.ptr id (atM c)) H) : S.f63 Φ (.ptr id 0) (.int .u8 c) H Q := by
 unfold atM at hQ
 unfold S.f63
 simp only [abin_eql, Do_of, Gd_true, JoinP_def, S.f63_k3, S.f63_k2, S.f63_k1, sl_zero, anilck, afaddr, Nat.zero_add]
 repeat' (refine u_ite (fun h => ?_) (fun h => ?_))
 all_goals simp only [beq_iff_eq, beq_eq_false_iff_ne, ne_eq] at *
 all_goals (first | omega | skip)
 all_goals simp_all
end
section
variable {C : Ctx} (hGT : GTok C) (hT : Cl (ACall C) S.tab_Mch)
include hGT hT
theorem memory_val (op : Int) : Val (ACall C) K.f130 [.int .i64 op] (shpV (memoryM op)) := Val.of hGT rfl rfl fun Q hQ => S.cl_f130 hT (memory_spec hQ)
theorem jump_val (op : Int) : Val (ACall C) K.f93 [.int .i64 op] (shpV (jumpM op)) := Val.of hGT rfl rfl fun Q hQ => S.cl_f93 hT (jump_spec (memory_val hGT hT op) hQ)
theorem of_val (op : Int) : Val (ACall C) K.f60 [.int .i64 op] (shpV (shapeM op)) := Val.of hGT rfl rfl fun Q hQ => S.cl_f60 hT (of_spec (jump_val hGT hT op) hQ)
theorem place_val (c : Int) : Val (ACall C) K.f61 [.int .u8 c] (.agg (fldV (fieldM c))) := Val.of hGT rfl rfl fun Q hQ => S.cl_f61 hT (place_spec hQ)
end
end Rb

namespace Rb
open Go
abbrev Fld := Int × Int × Bool × Int × Int
def uand (k : IntKind) (a b : Int) : Int := k.wrap (BitVec.ofInt k.bits a &&& BitVec.ofInt k.bits b).toNat
def uor (k : IntKind) (a b : Int) : Int := k.wrap (BitVec.ofInt k.bits a ||| BitVec.ofInt k.bits b).toNat
def uxor (k : IntKind) (a b : Int) : Int := k.wrap (BitVec.ofInt k.bits a ^^^ BitVec.ofInt k.bits b).toNat
def uandn (k : IntKind) (a b : Int) : Int := k.wrap (BitVec.ofInt k.bits a &&& ~~~BitVec.ofInt k.bits b).toNat
def ushl (k : IntKind) (a b : Int) : Int := k.wrap (a * 2 ^ (min b.toNat k.bits))
def ushr (k : IntKind) (a b : Int) : Int := a.fdiv (2 ^ (min b.toNat k.bits))
section
variable (k : IntKind) (a b : Int)
theorem b_and : abin .and (.int k a) (.int k b) = some (.int k (uand k a b)) := abin_and k a b
theorem b_or : abin .or (.int k a) (.int k b) = some (.int k (uor k a b)) := abin_or k a b
theorem b_xor : abin .xor (.int k a) (.int k b) = some (.int k (uxor k a b)) := abin_xor k a b
theorem b_andn : abin .andNot (.int k a) (.int k b) = some (.int k (uandn k a b)) := by simp [abin, abinInt, bitsOp, uandn]
theorem b_shl (k' : IntKind) (h : 0 ≤ b) : abin .shl (.int k a) (.int k' b) = some (.int k (ushl k a b)) := abin_shl k a b k' h
theorem b_shr (k' : IntKind) (h : 0 ≤ b) : abin .shr (.int k a) (.int k' b) = some (.int k (ushr k a b)) := abin_shr k a b k' h
theorem b_neg : aun .neg (.int k a) = some (.int k (k.wrap (0 - a))) := rfl
end
def maskM (f : Fld) : Int := ushl .u32 (IntKind.wrap .u32 (ushl .u32 1 f.2.1 - 1)) f.1
def fitsM (f : Fld) (x : Int) : Bool :=
 if f.2.2.1 = true then decide (x ≥ IntKind.wrap .i64 (0 - ushl .i64 1 (IntKind.wrap .i64 (f.2.1 - 1)))) && decide (x < ushl .i64 1 (IntKind.wrap .i64 (f.2.1 - 1)))
 else decide (x ≥ 0) && decide (x ≤ f.2.2.2.2)
def barM (x : Int) : Int := if x = 0 then 11 else if x = 1 then 9 else 10
def putM (c : Int) (x : Int) : Int := uand .u32 (ushl .u32 (if c = 102 then barM x else uxor .u32 (IntKind.wrap .u32 x) (fieldM c).2.2.2.1) (fieldM c).1) (maskM (fieldM c))
def getX (c w : Int) : Int := ushr .u32 (uand .u32 w (maskM (fieldM c))) (fieldM c).1
def getY (c w : Int) : Int := IntKind.wrap .i64 (uxor .u32 (getX c w) (fieldM c).2.2.2.1)
def getZ (c w : Int) : Int := if (fieldM c).2.2.1 = true ∧ getY c w ≥ ushl .i64 1 (IntKind.wrap .i64 ((fieldM c).2.1 - 1)) then IntKind.wrap .i64 (getY c w - ushl .i64 1 (fieldM c).2.1) else getY c w
def getM (c w : Int) : Int × Bool :=
 if c = 102 then (if 11 = getX c w then (0, true) else if 9 = getX c w then (1, true) else if 10 = getX c w then (2, true) else (0, false))
 else (getZ c w, fitsM (fieldM c) (getZ c w))
section
variable {Φ : Calls'} {H : AH} {Q : Post}
theorem fl_box (f : Fld) (H : AH) : aboxv H false 5 (.agg (fldV f)) = some (.fptr (fldV f), H) := by unfold aboxv; rw [if_pos ⟨rfl, rfl⟩]; rfl
theorem fl_addr (f : Fld) (k : Nat) : afaddr k (.fptr (fldV f)) = some (.fptr ((fldV f).drop k)) := rfl
theorem fl0 (f : Fld) (H : AH) : aload H 1 false (.fptr ((fldV f).drop 0)) = some (.int .i64 f.1) := rfl
theorem fl1 (f : Fld) (H : AH) : aload H 1 false (.fptr ((fldV f).drop 1)) = some (.int .i64 f.2.1) := rfl
theorem fl2 (f : Fld) (H : AH) : aload H 1 false (.fptr ((fldV f).drop 2)) = some (.bool f.2.2.1) := rfl
theorem fl3 (f : Fld) (H : AH) : aload H 1 false (.fptr ((fldV f).drop 3)) = some (.int .u32 f.2.2.2.1) := rfl
theorem fl4 (f : Fld) (H : AH) : aload H 1 false (.fptr ((fldV f).drop 4)) = some (.int .i64 f.2.2.2.2) := rfl
theorem fl_all (f : Fld) (H : AH) : aload H 5 true (.fptr (fldV f)) = some (.agg (fldV f)) := rfl
theorem barrier_spec (hQ : ∀ H', Q (.agg [.int .u32 11, .int .u32 9, .int .u32 10]) H') : S.f94 Φ H Q := by
 unfold S.f94
 simp only [abox, DoH_some, if_true]
 exact ret2 hQ rfl rfl rfl rfl
theorem mask_spec {f : Fld} (h0 : 0 ≤ f.1) (h1 : 0 ≤ f.2.1) (hQ : ∀ H', Q (.int .u32 (maskM f)) H') : S.f64 Φ (.agg (fldV f)) H Q := by
 unfold S.f64
 simp only [fl_box, DoH_some, fl_addr, fl0, fl1, Do_of]
 rw [b_shl _ _ _ _ h1]
 simp only [Do_of, abin_sub]
 rw [b_shl _ _ _ _ h0]
 simp only [Do_of]
 exact hQ _
theorem fits_spec {f : Fld} {x : Int} (h1 : f.2.2.1 = true → 1 ≤ f.2.1) (h2 : f.2.1 ≤ 26) (hQ : ∀ H', Q (.bool (fitsM f x)) H') : S.f95 Φ (.agg (fldV f)) (.int .i64 x) H Q := by
 unfold S.f95
 unfold fitsM at hQ
 simp only [fl_box, DoH_some, fl_addr, fl1, fl2, fl4, Do_of, Gd_true, Gd3_true, abin_sub, abin_geq, abin_leq, abin_lss]
 refine u_ite (fun h => ?_) (fun h => ?_)
 · have := h1 h
   have e : IntKind.wrap .i64 (f.2.1 - 1) = f.2.1 - 1 := wrap_i64 (by omega) (by omega)
   rw [if_pos h, e] at hQ
   rw [e, b_shl _ _ _ _ (by omega)]
   simp only [Do_of, b_neg, abin_geq, abin_lss, Gd3_true]
   refine u_ite (fun h => ?_) (fun h => ?_)
   · rw [h] at hQ; exact hQ _
   · rw [h] at hQ; exact hQ _
 · rw [h] at hQ
   refine u_ite (fun h => ?_) (fun h => ?_)
   · rw [h] at hQ; exact hQ _
   · rw [h] at hQ; exact hQ _
end
section
variable {C : Ctx} (hGT : GTok C) (hT : Cl (ACall C) S.tab_Mch)
include hGT hT
theorem barrier_val : Val (ACall C) K.f94 [] (.agg [.int .u32 11, .int .u32 9, .int .u32 10]) := Val.of hGT rfl rfl fun Q hQ => S.cl_f94 hT (barrier_spec hQ)
theorem mask_val (c : Int) : Val (ACall C) K.f64 [.agg (fldV (fieldM c))] (.int .u32 (maskM (fieldM c))) := by
 obtain ⟨h0, _, h1, _⟩ := fieldM_ok c
 exact Val.of hGT rfl rfl fun Q hQ => S.cl_f64 hT (mask_spec h0 h1 hQ)
theorem fits_val (c x : Int) : Val (ACall C) K.f95 [.agg (fldV (fieldM c)), .int .i64 x] (.bool (fitsM (fieldM c) x)) := by
 obtain ⟨h0, _, h1, h2, h3, _⟩ := fieldM_ok c
 exact Val.of hGT rfl rfl fun Q hQ => S.cl_f95 hT (fits_spec h3 h2 hQ)
theorem put_spec {c x : Int} {H : AH} {Q : Post} (hf : fitsM (fieldM c) x = true) (hQ : ∀ H', Q (.int .u32 (putM c x)) H') : S.f96 (ACall C) (.agg (fldV (fieldM c))) (.int .u8 c) (.int .i64 x) H Q := by
 unfold S.f96
 unfold putM at hQ
 have ho := fieldM_ok c
 simp only [fl_box, DoH_some, fl_addr, fl3, Do_of, aconv_int, b_xor, abin_eql, Gd_true, JoinP_def]
 have k1 : ∀ v, (∀ H', Q (.int .u32 (uand .u32 (ushl .u32 v (fieldM c).1) (maskM (fieldM c)))) H') → S.f96_k1 (ACall C) (.fptr (fldV (fieldM c))) Q [.int .u32 v] H := by
  intro v hv
  simp only [S.f96_k1, fl_addr, fl0, Do_of, sl_zero]
  rw [b_shl _ _ _ _ ho.1]
  simp only [Do_of, fl_all]
  refine mask_val hGT hT c _ _ ?_
  simp only [true_and, b_and, Do_of]
  exact hv _
 refine u_ite (fun h => ?_) (fun h => ?_)
 · have hc : c = 102 := by simpa using h
   rw [if_pos hc] at hQ
   obtain ⟨h5, h6⟩ := ho.2.2.2.2.2 hc
   unfold fitsM at hf
   rw [h5, h6] at hf
   simp only [Bool.false_eq_true, if_false, Bool.and_eq_true, decide_eq_true_eq] at hf
   refine barrier_val hGT hT _ _ ?_
   have hx : x = 0 ∨ x = 1 ∨ x = 2 := by omega
   rcases hx with rfl | rfl | rfl
   · exact Do_of _ _ |>.2 (k1 11 hQ)
   · exact Do_of _ _ |>.2 (k1 9 hQ)
   · exact Do_of _ _ |>.2 (k1 10 hQ)
 · rw [if_neg (by simpa using h)] at hQ
   exact k1 _ hQ
theorem put_val {c x : Int} (hf : fitsM (fieldM c) x = true) : Val (ACall C) K.f96 [.agg (fldV (fieldM c)), .int .u8 c, .int .i64 x] (.int .u32 (putM c x)) := Val.of hGT rfl rfl fun Q hQ => S.cl_f96 hT (put_spec hGT hT hf hQ)
theorem get_spec {c w : Int} {H : AH} {Q : Post} (hQ : ∀ H', Q (.tup [.int .i64 (getM c w).1, .bool (getM c w).2]) H') : S.f62 (ACall C) (.agg (fldV (fieldM c))) (.int .u8 c) (.int .u32 w) H Q := by
 unfold S.f62
 unfold getM at hQ
 have ho := fieldM_ok c
 simp only [fl_box, DoH_some, fl_addr, fl0, fl3, fl_all, Do_of]
 refine mask_val hGT hT c _ _ ?_
 simp only [true_and, b_and, Do_of]
 rw [b_shr _ _ _ _ ho.1]
 simp only [Do_of, abin_eql, Gd_true]
 have hX : ushr .u32 (uand .u32 w (maskM (fieldM c))) (fieldM c).1 = getX c w := rfl
 rw [hX]
 refine u_ite (fun h => ?_) (fun h => ?_)
 · have hc : c = 102 := by simpa using h
   rw [if_pos hc] at hQ
   refine barrier_val hGT hT _ _ ?_
   refine LoopP.step ?_
   simp only [S.f62_l1, sl_zero, abin_lss, Do_of, Gd_true]
   rw [if_pos (by decide)]
   refine Do_of _ _ |>.2 ?_
   simp only [abin_eql, Do_of, Gd_true]
   refine u_ite (fun h => ?_) (fun h => ?_)
   · rw [if_pos (by simpa using h)] at hQ; exact hQ _
   rw [if_neg (by simpa using h)] at hQ
   simp only [abin_add, Do_of]
   refine LoopP.step ?_
   simp only [S.f62_l1, sl_zero, abin_lss, Do_of, Gd_true]
   rw [if_pos (by decide)]
   refine Do_of _ _ |>.2 ?_
   simp only [abin_eql, Do_of, Gd_true]
   refine u_ite (fun h => ?_) (fun h => ?_)
   · rw [if_pos (by simpa using h)] at hQ; exact hQ _
   rw [if_neg (by simpa using h)] at hQ
   simp only [abin_add, Do_of]
   refine LoopP.step ?_
   simp only [S.f62_l1, sl_zero, abin_lss, Do_of, Gd_true]
   rw [if_pos (by decide)]
   refine Do_of _ _ |>.2 ?_
   simp only [abin_eql, Do_of, Gd_true]
   refine u_ite (fun h => ?_) (fun h => ?_)
   · rw [if_pos (by simpa using h)] at hQ; exact hQ _
   rw [if_neg (by simpa using h)] at hQ
   simp only [abin_add, Do_of]
   refine LoopP.step ?_
   simp only [S.f62_l1, sl_zero, abin_lss, Do_of, Gd_true]
   rw [if_neg (by decide)]
   exact hQ _
 · rw [if_neg (by simpa using h)] at hQ
   simp only [b_xor, Do_of, aconv_int, fl_addr, fl2, fl1, Gd3_true, JoinP_def, abin_sub]
   have hY : IntKind.wrap .i64 (uxor .u32 (getX c w) (fieldM c).2.2.2.1) = getY c w := rfl
   rw [hY]
   have k2 : ∀ z, z = getZ c w → S.f62_k2 (ACall C) (.fptr (fldV (fieldM c))) Q [.int .i64 z] H := by
    intro z hz
    simp only [S.f62_k2, fl_all, Do_of, sl_zero]
    refine fits_val hGT hT c _ _ _ ?_
    rw [hz]
    exact hQ _
   refine u_ite (fun h => ?_) (fun h => ?_)
   · have h1 := ho.2.2.2.2.1 h
     have h2 := ho.2.2.2.1
     have e : IntKind.wrap .i64 ((fieldM c).2.1 - 1) = (fieldM c).2.1 - 1 := wrap_i64 (by omega) (by omega)
     rw [e, b_shl _ _ _ _ (by omega)]
     simp only [Do_of, abin_geq, S.f62_k3, sl_zero, Gd_true, fl_addr, fl1, JoinP_def]
     refine u_ite (fun h' => ?_) (fun h' => ?_)
     · rw [b_shl _ _ _ _ (by omega)]
       simp only [Do_of, abin_sub]
       refine k2 _ ?_
       unfold getZ
       rw [if_pos ⟨h, by rw [e]; simpa using h'⟩]
     · refine k2 _ ?_
       unfold getZ
       rw [if_neg (fun e' => by rw [e] at e'; simp at h'; omega)]
   · simp only [S.f62_k3, sl_zero, Gd_true, Bool.false_eq_true, if_false, JoinP_def]
     refine k2 _ ?_
     unfold getZ
     rw [if_neg (fun e' => by rw [h] at e'; cases e'.1)]
theorem get_val (c w : Int) : Val (ACall C) K.f62 [.agg (fldV (fieldM c)), .int .u8 c, .int .u32 w] (.tup [.int .i64 (getM c w).1, .bool (getM c w).2]) := Val.of hGT rfl rfl fun Q hQ => S.cl_f62 hT (get_spec hGT hT hQ)
end
end Rb

namespace Rb
open Go
abbrev IV (xs : List Int) : List AV := xs.map (AV.int .i64)
theorem IV_len (xs : List Int) : (IV xs).length = xs.length := by simp
theorem IV_sc (xs : List Int) : (IV xs).all AV.scalar = true := by
 rw [List.all_eq_true]
 intro c hc
 obtain ⟨x, _, rfl⟩ := List.mem_map.1 hc
 rfl
theorem IV_froz (xs : List Int) : AV.frozs (IV xs) = true := by
 rw [frozs_all, List.all_eq_true]
 intro c hc
 obtain ⟨x, _, rfl⟩ := List.mem_map.1 hc
 rfl
theorem IV_get {xs : List Int} {k : Nat} (h : k < xs.length) : takeCells (IV xs) k 1 false = some (.int .i64 (xs.getD k 0)) := by
 unfold takeCells
 rw [if_pos (by simp; omega), if_neg (by decide)]
 simp [List.getD, h]
theorem IV_set {xs : List Int} {k : Nat} (x : Int) (h : k < xs.length) : setCells (IV xs) k [.int .i64 x] = IV (xs.set k x) := by
 induction xs generalizing k with
 | nil => simp at h
 | cons a r ih =>
  cases k with
  | zero => rfl
  | succ k => exact congrArg _ (ih (Nat.lt_of_succ_lt_succ h))
theorem IV_store {H : AH} {id : Nat} {xs : List Int} (h : At H id (.row (IV xs))) {k : Nat} (x : Int) (hk : k < xs.length) : astore H 1 (.ptr id k) (.int .i64 x) = some (H.set id (.row (IV (xs.set k x)))) := by
 rw [h.store, if_pos ⟨rfl, rfl, rfl, by simp; omega⟩]
 exact congrArg (fun z => some (AH.set H id (.row z))) (IV_set x hk)
theorem eqCells_IV : ∀ (n : Nat) (xs ys : List Int), xs.length = n → ys.length = n → eqCells (List.replicate n .n) (IV xs) (IV ys) = some (xs == ys)
 | 0, [], [], _, _ => rfl
 | n + 1, a :: r, b :: t, h1, h2 => by
  show (if IntKind.i64 = IntKind.i64 then (eqCells (List.replicate n .n) (IV r) (IV t)).map (fun x => a == b && x) else none) = _
  rw [if_pos rfl, eqCells_IV n r t (by simpa using h1) (by simpa using h2)]
  rfl
theorem atM_lt (c : Int) : atM c < 7 ∧ 1 ≤ atM c := by
 unfold atM
 repeat' split
 all_goals omega
theorem byte_at {s r : List UInt8} {c : UInt8} {i : Nat} (h : s.drop i = c :: r) (H : AH) : ∃ p, aiaddr none 1 (.lst .dead s.length (byteCells s)) (.int .i64 i) = some p ∧ aload H 1 false p = some (.int .u8 c.toNat) := by
 obtain ⟨hlt, hx, _⟩ := drop_cons_lt h
 refine ⟨.fptr ((byteCells s).drop i), ?_, ?_⟩
 · show (if 0 ≤ (i : Int) ∧ (i : Int) < (s.length : Nat) then some (AV.fptr ((byteCells s).drop ((i : Int).toNat * 1))) else none) = _
   rw [if_pos ⟨by omega, by omega⟩, Int.toNat_natCast, Nat.mul_one]
 · show takeCells ((byteCells s).drop i) 0 1 false = _
   unfold takeCells
   rw [if_pos (by simp [byteCells]; omega), if_neg (by decide)]
   simp [byteCells, hx]
theorem shape_len (op : Int) : (shapeM op).2.length ≤ 9 := by
 unfold shapeM
 iterate 12 (refine ite_P (fun z : Int × List UInt8 => z.2.length ≤ 9) (fun _ => by decide) (fun _ => ?_))
 unfold jumpM
 iterate 8 (refine ite_P (fun z : Int × List UInt8 => z.2.length ≤ 9) (fun _ => by decide) (fun _ => ?_))
 unfold memoryM
 iterate 12 (refine ite_P (fun z : Int × List UInt8 => z.2.length ≤ 9) (fun _ => by decide) (fun _ => ?_))
 decide
def encL (op : Int) : List UInt8 → List Int → Int → Int × Int
 | [], rest, w => if rest = [op, 0, 0, 0, 0, 0, 0] then (w, 0) else (0, 2)
 | c :: r, rest, w => if (c.toNat : Int) = 122 then encL op r rest w else
  if fitsM (fieldM c.toNat) (rest.getD (atM c.toNat) 0) = true then
   encL op r (rest.set (atM c.toNat) 0) (uor .u32 (uandn .u32 w (maskM (fieldM c.toNat))) (putM c.toNat (rest.getD (atM c.toNat) 0)))
  else (0, 2)
def encM (i : List Int) : Int × Int := if (shapeM (i.getD 0 0)).2 = [] then (0, 2) else encL (i.getD 0 0) (shapeM (i.getD 0 0)).2 i (shapeM (i.getD 0 0)).1
def oneL (w sb : Int) : List UInt8 → List Int → Int → List Int × Bool
 | [], out, base => (out, base == sb)
 | c :: r, out, base => if (c.toNat : Int) = 122 then oneL w sb r out base else
  if (getM c.toNat w).2 = true then oneL w sb r (out.set (atM c.toNat) (getM c.toNat w).1) (uor .u32 (uandn .u32 base (maskM (fieldM c.toNat))) (uand .u32 sb (maskM (fieldM c.toNat))))
  else ([0, 0, 0, 0, 0, 0, 0], false)
def oneM (op w : Int) : List Int × Bool := oneL w (shapeM op).1 (shapeM op).2 [op, 0, 0, 0, 0, 0, 0] w
def decL (w : Int) : Nat → Int → List Int × Int
 | 0, _ => ([0, 0, 0, 0, 0, 0, 0], 2)
 | n + 1, op => if (oneM op w).2 = true then ((oneM op w).1, 0) else decL w n (op + 1)
def decM (w : Int) : List Int × Int := decL w 32 1
theorem oneL_len (w sb : Int) : ∀ (s : List UInt8) (out : List Int) (base : Int), out.length = 7 → (oneL w sb s out base).1.length = 7
 | [], out, base, h => h
 | c :: r, out, base, h => by
  unfold oneL
  split
  · exact oneL_len w sb r out base h
  · split
    · exact oneL_len w sb r _ _ (by simpa using h)
    · rfl
theorem decL_len (w : Int) : ∀ n op, (decL w n op).1.length = 7
 | 0, op => rfl
 | n + 1, op => by
  unfold decL
  split
  · exact oneL_len w _ _ _ _ rfl
  · exact decL_len w n _
section
variable {C : Ctx} (hGT : GTok C) (hT : Cl (ACall C) S.tab_Mch)
include hGT hT
theorem fld_new (H : AH) (f : Fld) : astore (H.push (.row [.int .i64 0, .int .i64 0, .bool false, .int .u32 0, .int .i64 0])) 5 (.ptr H.n 0) (.agg (fldV f)) = some (H.push (.row (fldV f))) := store_new H _ _ 5 rfl rfl rfl
theorem Encode_spec {i : List Int} (hl : i.length = 7) {H : AH} {Q : Post} (hQ : ∀ H', Q (.tup [.int .u32 (encM i).1, .int .i64 (encM i).2]) H') : S.f65 (ACall C) (.agg (IV i)) H Q := by
 unfold S.f65
 have hb : aboxv H false 7 (.agg (IV i)) = some (.fptr (IV i), H) := by unfold aboxv; rw [if_pos ⟨rfl, by simpa [AV.cells] using hl⟩]; rfl
 have h0 : ∀ H, aload H 1 false (.fptr (IV i)) = some (.int .i64 (i.getD 0 0)) := fun H => IV_get (by omega)
 have hall : ∀ H, aload H 7 true (.fptr (IV i)) = some (.agg (IV i)) := fun H => takeCells_whole (by simpa using hl)
 simp only [hb, DoH_some, afaddr, List.drop_zero, Do_of, h0]
 refine of_val hGT hT _ _ _ ?_
 simp only [shpV, abox, if_true, DoH_some]
 rw [store_new H _ _ 2 rfl rfl rfl]
 have a1 := At.new H (.row [.int .u32 (shapeM (i.getD 0 0)).1, .str (shapeM (i.getD 0 0)).2])
 simp only [Do_of]
 rw [a1.load, show takeCells [.int .u32 (shapeM (i.getD 0 0)).1, .str (shapeM (i.getD 0 0)).2] (0 + 1) 1 false = some (.str (shapeM (i.getD 0 0)).2) from rfl]
 simp only [Do_of, abin, abinStr, Gd_true]
 unfold encM at hQ
 refine u_ite (fun h => ?_) (fun h => ?_)
 · rw [if_pos (by simpa using h)] at hQ
   exact hQ _
 rw [if_neg (by simpa using h)] at hQ
 rw [a1.load, show takeCells [.int .u32 (shapeM (i.getD 0 0)).1, .str (shapeM (i.getD 0 0)).2] (0 + 0) 1 false = some (.int .u32 (shapeM (i.getD 0 0)).1) from rfl]
 simp only [Do_of, hall]
 have a1' := (a1.push (.row (IV i))).load 1 1 false
 rw [store_new _ _ _ 7 (by simpa using hl) (IV_sc i) rfl]
 simp only [Do_of, Nat.zero_add]
 rw [a1', show takeCells [.int .u32 (shapeM (i.getD 0 0)).1, .str (shapeM (i.getD 0 0)).2] 1 1 false = some (.str (shapeM (i.getD 0 0)).2) from rfl]
 simp only [Do_of, asbytes, alen_lst]
 have a2 := At.new (H.push (.row [.int .u32 (shapeM (i.getD 0 0)).1, .str (shapeM (i.getD 0 0)).2])) (.row (IV i))
 generalize (H.push (.row [.int .u32 (shapeM (i.getD 0 0)).1, .str (shapeM (i.getD 0 0)).2])).n = id2 at *
 generalize (AH.push (H.push (.row [.int .u32 (shapeM (i.getD 0 0)).1, .str (shapeM (i.getD 0 0)).2])) (.row (IV i))) = H2 at *
 generalize (shapeM (i.getD 0 0)).1 = base at *
 obtain ⟨s, hs⟩ : ∃ s, s = (shapeM (i.getD 0 0)).2 := ⟨_, rfl⟩
 rw [← hs] at hQ ⊢
 have main : ∀ (r : List UInt8) (k : Nat) (rest : List Int) (w : Int) (H : AH), s.drop k = r → s.length ≤ 9 → rest.length = 7 → At H id2 (.row (IV rest)) → (∀ H', Q (.tup [.int .u32 (encL (i.getD 0 0) r rest w).1, .int .i64 (encL (i.getD 0 0) r rest w).2]) H') →
   LoopP (S.f65_l3 (ACall C) (.fptr (IV i)) (.ptr id2 0) (.lst .dead s.length (byteCells s)) (.int .i64 s.length) Q) ([.int .u32 w, .int .i64 k], H) := by
  intro r
  induction r with
  | nil =>
   intro k rest w H hd h9 hr a hQ
   have hle := drop_nil_le hd
   refine LoopP.step ?_
   simp only [S.f65_l3, sl_zero, sl_succ, abin_lss, Do_of, Gd_true]
   rw [if_neg (by simp only [decide_eq_true_eq]; omega)]
   simp only [JoinP_def, S.f65_k2, sl_zero]
   rw [a.load, takeCells_whole (by simpa using hr)]
   simp only [Do_of, afaddr, List.drop_zero, h0]
   rw [show abuild [.int .i64 0, .int .i64 0, .int .i64 0, .int .i64 0, .int .i64 0, .int .i64 0, .int .i64 0] [(0, 1, AV.int .i64 (i.getD 0 0))] = some (.agg (IV [i.getD 0 0, 0, 0, 0, 0, 0, 0])) from rfl]
   simp only [Do_of]
   rw [show aeqAgg true [.n, .n, .n, .n, .n, .n, .n] (.agg (IV rest)) (.agg (IV [i.getD 0 0, 0, 0, 0, 0, 0, 0])) = (eqCells (List.replicate 7 .n) (IV rest) (IV [i.getD 0 0, 0, 0, 0, 0, 0, 0])).map fun r => .bool (if true then !r else r) from rfl, eqCells_IV 7 _ _ hr rfl]
   simp only [Option.map_some, Do_of, Gd_true, if_true]
   simp only [encL] at hQ
   refine u_ite (fun h => ?_) (fun h => ?_)
   · rw [if_neg (by simpa using h)] at hQ; exact hQ _
   · rw [if_pos (by simpa using h)] at hQ; exact hQ _
  | cons c r ih =>
   intro k rest w H hd h9 hr a hQ
   obtain ⟨hlt, hx, hd'⟩ := drop_cons_lt hd
   refine LoopP.step ?_
   simp only [S.f65_l3, sl_zero, sl_succ, abin_lss, Do_of, Gd_true]
   rw [if_pos (by simp only [decide_eq_true_eq]; omega)]
   obtain ⟨p, hp1, hp2⟩ := byte_at hd H
   rw [hp1]
   simp only [Do_of]
   rw [hp2]
   simp only [Do_of, abin_eql, Gd_true]
   simp only [encL] at hQ
   have hw : IntKind.wrap .i64 ((k : Int) + 1) = ((k + 1 : Nat) : Int) := by rw [wrap_i64 (by omega) (by omega)]; simp
   refine u_ite (fun h => ?_) (fun h => ?_)
   · rw [if_pos (by simpa using h)] at hQ
     simp only [JoinP_def, S.f65_k1, sl_zero, sl_succ, abin_add, Do_of, hw]
     exact ih (k + 1) rest w H hd' h9 hr a hQ
   rw [if_neg (by simpa using h)] at hQ
   refine place_val hGT hT _ _ _ ?_
   simp only [abox, if_true, DoH_some]
   rw [fld_new hGT hT]
   simp only [Do_of]
   have hac := atM_lt (c.toNat : Int)
   have b1 := a.push (.row (fldV (fieldM c.toNat)))
   have b2 := At.new H (.row (fldV (fieldM c.toNat)))
   have hne : id2 ≠ H.n := a.lt_new
   generalize H.push (.row (fldV (fieldM c.toNat))) = H1 at *
   generalize H.n = id3 at *
   refine S.cl_f63 hT (at_spec ?_)
   have hl5 : aload H1 5 true (.ptr id3 0) = some (.agg (fldV (fieldM c.toNat))) := by rw [b2.load]; exact takeCells_whole (n := 5) (a := fldV (fieldM c.toNat)) rfl
   rw [hl5]
   simp only [Do_of, anilck]
   have hld := b1.load 1 (atM c.toNat) false
   rw [IV_get (by omega)] at hld
   rw [hld]
   simp only [Do_of]
   refine fits_val hGT hT _ _ _ _ ?_
   simp only [aun_not, Do_of, Gd_true]
   refine u_ite (fun h => ?_) (fun h => ?_)
   · rw [if_neg (by simpa using h)] at hQ
     exact hQ _
   · have hf : fitsM (fieldM c.toNat) (rest.getD (atM c.toNat) 0) = true := by simpa using h
     rw [if_pos hf] at hQ
     rw [hl5, hld]
     simp only [Do_of]
     refine mask_val hGT hT _ _ _ ?_
     simp only [true_and, b_andn, Do_of]
     refine ⟨hl5, hld, put_val hGT hT hf _ _ ?_⟩
     simp only [b_or, Do_of]
     rw [IV_store b1 0 (by omega)]
     simp only [Do_of, JoinP_def, S.f65_k1, sl_zero, sl_succ, abin_add, hw]
     exact ih (k + 1) _ _ _ hd' h9 (by simpa using hr) (b1.set _) hQ
 refine main s 0 i base H2 rfl ?_ hl a2 ?_
 · rw [hs]; exact shape_len _
 · exact hQ
theorem Encode_val {i : List Int} (hl : i.length = 7) : Val (ACall C) K.f65 [.agg (IV i)] (.tup [.int .u32 (encM i).1, .int .i64 (encM i).2]) := Val.of hGT (by simp only [AV.frozs, AV.froz, IV_froz, Bool.and_self]) rfl fun Q hQ => S.cl_f65 hT (Encode_spec hGT hT hl hQ)
theorem one_spec {op w : Int} {H : AH} {Q : Post} (hQ : ∀ H', Q (.tup [.agg (IV (oneM op w).1), .bool (oneM op w).2]) H') : S.f31 (ACall C) (.int .i64 op) (.int .u32 w) H Q := by
 unfold S.f31
 unfold oneM at hQ
 simp only [abox, DoH_some, if_true]
 refine of_val hGT hT _ _ _ ?_
 have z1 := At.new H (.row (IV [0, 0, 0, 0, 0, 0, 0]))
 change At (H.push (.row [.int .i64 0, .int .i64 0, .int .i64 0, .int .i64 0, .int .i64 0, .int .i64 0, .int .i64 0])) H.n _ at z1
 generalize H.push (.row [.int .i64 0, .int .i64 0, .int .i64 0, .int .i64 0, .int .i64 0, .int .i64 0, .int .i64 0]) = H1 at *
 generalize H.n = id1 at *
 simp only [shpV]
 rw [store_new H1 _ _ 2 rfl rfl rfl]
 have z2 := z1.push (.row [.int .u32 (shapeM op).1, .str (shapeM op).2])
 have a2 := At.new H1 (.row [.int .u32 (shapeM op).1, .str (shapeM op).2])
 have n12 : id1 ≠ H1.n := z1.lt_new
 generalize H1.push (.row [.int .u32 (shapeM op).1, .str (shapeM op).2]) = H2 at *
 generalize H1.n = id2 at *
 simp only [Do_of]
 rw [show abuild [.int .i64 0, .int .i64 0, .int .i64 0, .int .i64 0, .int .i64 0, .int .i64 0, .int .i64 0] [(0, 1, AV.int .i64 op)] = some (.agg (IV [op, 0, 0, 0, 0, 0, 0])) from rfl]
 simp only [Do_of]
 rw [store_new H2 _ (IV [op, 0, 0, 0, 0, 0, 0]) 7 rfl rfl rfl]
 have z3 := z2.push (.row (IV [op, 0, 0, 0, 0, 0, 0]))
 have a3 := a2.push (.row (IV [op, 0, 0, 0, 0, 0, 0]))
 have o3 := At.new H2 (.row (IV [op, 0, 0, 0, 0, 0, 0]))
 have n13 : id1 ≠ H2.n := z2.lt_new
 have n23 : id2 ≠ H2.n := a2.lt_new
 generalize H2.push (.row (IV [op, 0, 0, 0, 0, 0, 0])) = H3 at *
 generalize H2.n = id3 at *
 simp only [Do_of, afaddr]
 rw [a3.load, show takeCells [.int .u32 (shapeM op).1, .str (shapeM op).2] (0 + 1) 1 false = some (.str (shapeM op).2) from rfl]
 simp only [Do_of, asbytes, alen_lst]
 have hl0 : ([op, 0, 0, 0, 0, 0, 0] : List Int).length = 7 := rfl
 generalize [op, 0, 0, 0, 0, 0, 0] = out0 at *
 clear z2 a2 z1
 generalize (shapeM op).1 = sb at *
 have h9 := shape_len op
 generalize (shapeM op).2 = s at *
 have hz : ∀ {H : AH} {xs : List Int} {v : AV}, xs.length = 7 → At H id1 (.row (IV [0, 0, 0, 0, 0, 0, 0])) → astore H 7 (.ptr id1 0) (.agg (IV xs)) = some (H.set id1 (.row (IV xs))) := by
  intro H xs v hx a
  rw [a.store, if_pos ⟨rfl, (IV_len xs).trans hx, IV_sc xs, (by decide : 0 + 7 ≤ 7)⟩]
  congr 3
  show setCells (IV [0, 0, 0, 0, 0, 0, 0]) 0 (IV xs) = IV xs
  rw [setCells_all (by simp [hx])]
  rfl
 have main : ∀ (r : List UInt8) (k : Nat) (out : List Int) (base : Int) (H : AH), s.drop k = r → out.length = 7 → At H id3 (.row (IV out)) → At H id2 (.row [.int .u32 sb, .str s]) → At H id1 (.row (IV [0, 0, 0, 0, 0, 0, 0])) →
   (∀ H', Q (.tup [.agg (IV (oneL w sb r out base).1), .bool (oneL w sb r out base).2]) H') →
   LoopP (S.f31_l3 (ACall C) (.int .u32 w) (.ptr id1 0) (.ptr id2 0) (.ptr id3 0) (.lst .dead s.length (byteCells s)) (.int .i64 s.length) Q) ([.int .u32 base, .int .i64 k], H) := by
  intro r
  induction r with
  | nil =>
   intro k out base H hd hr a b z hQ
   have hle := drop_nil_le hd
   refine LoopP.step ?_
   simp only [S.f31_l3, sl_zero, sl_succ, abin_lss, Do_of, Gd_true]
   rw [if_neg (by simp only [decide_eq_true_eq]; omega)]
   simp only [JoinP_def, S.f31_k2, sl_zero, afaddr, Nat.add_zero]
   rw [a.load, takeCells_whole (by simpa using hr)]
   simp only [Do_of]
   rw [b.load, show takeCells [.int .u32 sb, .str s] 0 1 false = some (.int .u32 sb) from rfl]
   simp only [Do_of, abin_eql]
   rw [hz (v := .nilp) hr z]
   simp only [Do_of]
   have b' := b.set_ne (Ne.symm n12) (.row (IV out))
   have z' := z.set (.row (IV out))
   refine ⟨?_, ?_⟩
   · rw [b'.load]; rfl
   · rw [z'.load, takeCells_whole (by simpa using hr)]
     simp only [Do_of]
     exact hQ _
  | cons c r ih =>
   intro k out base H hd hr a b z hQ
   obtain ⟨hlt, hx, hd'⟩ := drop_cons_lt hd
   refine LoopP.step ?_
   simp only [S.f31_l3, sl_zero, sl_succ, abin_lss, Do_of, Gd_true]
   rw [if_pos (by simp only [decide_eq_true_eq]; omega)]
   obtain ⟨p, hp1, hp2⟩ := byte_at hd H
   rw [hp1]
   simp only [Do_of]
   rw [hp2]
   simp only [Do_of, abin_eql, Gd_true]
   simp only [oneL] at hQ
   have hw : IntKind.wrap .i64 ((k : Int) + 1) = ((k + 1 : Nat) : Int) := by rw [wrap_i64 (by omega) (by omega)]; simp
   refine u_ite (fun h => ?_) (fun h => ?_)
   · rw [if_pos (by simpa using h)] at hQ
     simp only [JoinP_def, S.f31_k1, sl_zero, sl_succ, abin_add, Do_of, hw]
     exact ih (k + 1) out base H hd' hr a b z hQ
   rw [if_neg (by simpa using h)] at hQ
   refine place_val hGT hT _ _ _ ?_
   simp only [abox, if_true, DoH_some]
   rw [fld_new hGT hT]
   simp only [Do_of]
   have hac := atM_lt (c.toNat : Int)
   have a1 := a.push (.row (fldV (fieldM c.toNat)))
   have b1 := b.push (.row (fldV (fieldM c.toNat)))
   have z1 := z.push (.row (fldV (fieldM c.toNat)))
   have f1 := At.new H (.row (fldV (fieldM c.toNat)))
   have na : id3 ≠ H.n := a.lt_new
   have nb : id2 ≠ H.n := b.lt_new
   generalize H.push (.row (fldV (fieldM c.toNat))) = H1 at *
   generalize H.n = id4 at *
   have hl5 : ∀ {H}, At H id4 (.row (fldV (fieldM c.toNat))) → aload H 5 true (.ptr id4 0) = some (.agg (fldV (fieldM c.toNat))) := fun f => by rw [f.load]; exact takeCells_whole (n := 5) (a := fldV (fieldM c.toNat)) rfl
   rw [hl5 f1]
   simp only [Do_of]
   refine get_val hGT hT _ _ _ _ ?_
   simp only [aextract, List.getElem?_cons_zero, List.getElem?_cons_succ, Do_of, aun_not, Gd_true]
   refine u_ite (fun h => ?_) (fun h => ?_)
   · rw [if_neg (by simpa using h)] at hQ
     rw [show abuild [.int .i64 0, .int .i64 0, .int .i64 0, .int .i64 0, .int .i64 0, .int .i64 0, .int .i64 0] [] = some (.agg (IV [0, 0, 0, 0, 0, 0, 0])) from rfl]
     simp only [Do_of]
     rw [hz (v := .nilp) rfl z1]
     simp only [Do_of]
     rw [(z1.set _).load, takeCells_whole (n := 7) (a := IV [0, 0, 0, 0, 0, 0, 0]) rfl]
     simp only [Do_of]
     exact hQ _
   · have hg : (getM c.toNat w).2 = true := by simpa using h
     rw [if_pos hg] at hQ
     refine S.cl_f63 hT (at_spec ?_)
     simp only [anilck, Do_of]
     rw [IV_store a1 _ (by omega)]
     simp only [Do_of]
     have a2 := a1.set (.row (IV (out.set (atM c.toNat) (getM c.toNat w).1)))
     have b2 := b1.set_ne n23 (.row (IV (out.set (atM c.toNat) (getM c.toNat w).1)))
     have z2 := z1.set_ne n13 (.row (IV (out.set (atM c.toNat) (getM c.toNat w).1)))
     have f2 := f1.set_ne (Ne.symm na) (.row (IV (out.set (atM c.toNat) (getM c.toNat w).1)))
     generalize H1.set id3 (.row (IV (out.set (atM c.toNat) (getM c.toNat w).1))) = H2 at *
     have hb0 : aload H2 1 false (.ptr id2 0) = some (.int .u32 sb) := by rw [b2.load]; rfl
     simp only [hl5 f2, Do_of, afaddr, Nat.add_zero, hb0]
     refine mask_val hGT hT _ _ _ ?_
     simp only [hb0, hl5 f2, true_and, b_andn, Do_of]
     refine mask_val hGT hT _ _ _ ?_
     simp only [hb0, true_and, b_and, b_or, Do_of, JoinP_def, S.f31_k1, sl_zero, sl_succ, abin_add, hw]
     exact ih (k + 1) _ _ _ hd' (by simpa using hr) a2 b2 z2 hQ
 exact main s 0 out0 w H3 rfl hl0 o3 a3 z3 hQ
theorem one_val (op w : Int) : Val (ACall C) K.f31 [.int .i64 op, .int .u32 w] (.tup [.agg (IV (oneM op w).1), .bool (oneM op w).2]) := Val.of hGT rfl (by simp only [AV.frozs, AV.froz, IV_froz, Bool.and_self]) fun Q hQ => S.cl_f31 hT (one_spec hGT hT hQ)
theorem Decode_spec {w : Int} {H : AH} {Q : Post} (hQ : ∀ H', Q (.tup [.agg (IV (decM w).1), .int .i64 (decM w).2]) H') : S.f15 (ACall C) (.int .u32 w) H Q := by
 unfold S.f15
 unfold decM at hQ
 simp only [abox, DoH_some, if_true]
 have z := At.new H (.row (IV [0, 0, 0, 0, 0, 0, 0]))
 change At (H.push (.row [.int .i64 0, .int .i64 0, .int .i64 0, .int .i64 0, .int .i64 0, .int .i64 0, .int .i64 0])) H.n _ at z
 generalize H.push (.row [.int .i64 0, .int .i64 0, .int .i64 0, .int .i64 0, .int .i64 0, .int .i64 0, .int .i64 0]) = H1 at *
 generalize H.n = id1 at *
 have hz : ∀ {H : AH} {xs : List Int}, xs.length = 7 → At H id1 (.row (IV [0, 0, 0, 0, 0, 0, 0])) → astore H 7 (.ptr id1 0) (.agg (IV xs)) = some (H.set id1 (.row (IV xs))) := by
  intro H xs hx a
  rw [a.store, if_pos ⟨rfl, (IV_len xs).trans hx, IV_sc xs, (by decide : 0 + 7 ≤ 7)⟩]
  congr 3
  show setCells (IV [0, 0, 0, 0, 0, 0, 0]) 0 (IV xs) = IV xs
  rw [setCells_all (by simp [hx])]
  rfl
 have main : ∀ (n : Nat) (op : Int) (H : AH), op + n = 33 → 1 ≤ op → At H id1 (.row (IV [0, 0, 0, 0, 0, 0, 0])) → (∀ H', Q (.tup [.agg (IV (decL w n op).1), .int .i64 (decL w n op).2]) H') →
   LoopP (S.f15_l2 (ACall C) (.int .u32 w) (.ptr id1 0) Q) ([.int .i64 op], H) := by
  intro n
  induction n with
  | zero =>
   intro op H hn h1 z hQ
   refine LoopP.step ?_
   simp only [S.f15_l2, sl_zero, abin_leq, Do_of, Gd_true]
   rw [if_neg (by simp only [decide_eq_true_eq]; omega)]
   simp only [JoinP_def, S.f15_k1]
   rw [show abuild [.int .i64 0, .int .i64 0, .int .i64 0, .int .i64 0, .int .i64 0, .int .i64 0, .int .i64 0] [] = some (.agg (IV [0, 0, 0, 0, 0, 0, 0])) from rfl]
   simp only [Do_of]
   rw [hz rfl z]
   simp only [Do_of]
   rw [(z.set _).load, takeCells_whole (n := 7) (a := IV [0, 0, 0, 0, 0, 0, 0]) rfl]
   simp only [Do_of]
   exact hQ _
  | succ n ih =>
   intro op H hn h1 z hQ
   refine LoopP.step ?_
   simp only [S.f15_l2, sl_zero, abin_leq, Do_of, Gd_true]
   rw [if_pos (by simp only [decide_eq_true_eq]; omega)]
   refine one_val hGT hT _ _ _ _ ?_
   simp only [aextract, List.getElem?_cons_zero, List.getElem?_cons_succ, Do_of, abox, if_true, DoH_some]
   have h7 : (oneM op w).1.length = 7 := oneL_len _ _ _ _ _ rfl
   rw [store_new _ _ _ 7 (by simpa using h7) (IV_sc _) rfl]
   simp only [Do_of, Gd_true]
   simp only [decL] at hQ
   have z1 := z.push (.row (IV (oneM op w).1))
   have x1 := At.new H (.row (IV (oneM op w).1))
   refine u_ite (fun h => ?_) (fun h => ?_)
   · rw [if_pos h] at hQ
     rw [x1.load, takeCells_whole (by simpa using h7)]
     simp only [Do_of]
     rw [hz h7 z1]
     simp only [Do_of]
     rw [(z1.set _).load, takeCells_whole (by simpa using h7)]
     simp only [Do_of]
     exact hQ _
   · rw [if_neg (by simp [h])] at hQ
     simp only [abin_add, Do_of]
     rw [wrap_i64 (by omega) (by omega)]
     exact ih (op + 1) _ (by omega) (by omega) z1 hQ
 exact main 32 1 H1 (by omega) (by omega) z hQ
theorem Decode_val (w : Int) : Val (ACall C) K.f15 [.int .u32 w] (.tup [.agg (IV (decM w).1), .int .i64 (decM w).2]) := Val.of hGT rfl (by simp only [AV.frozs, AV.froz, IV_froz, Bool.and_self]) fun Q hQ => S.cl_f15 hT (Decode_spec hGT hT hQ)
end
end Rb

namespace Rb
open Go
theorem encL_fit (op : Int) : ∀ (s : List UInt8) (rest : List Int) (w : Int), rest.length = 7 → (encL op s rest w).2 = 0 → ∀ k, 1 ≤ k → k < 7 → rest.getD k 0 = 0 ∨ ∃ c ∈ s, (c.toNat : Int) ≠ 122 ∧ atM c.toNat = k ∧ fitsM (fieldM c.toNat) (rest.getD k 0) = true
 | [], rest, w, hl, h, k, h1, h7 => by
  unfold encL at h
  split at h
  · rename_i e
    left
    rw [e]
    match k, h1, h7 with
    | 1, _, _ => rfl
    | 2, _, _ => rfl
    | 3, _, _ => rfl
    | 4, _, _ => rfl
    | 5, _, _ => rfl
    | 6, _, _ => rfl
  · cases h
 | c :: r, rest, w, hl, h, k, h1, h7 => by
  unfold encL at h
  by_cases hc : (c.toNat : Int) = 122
  · rw [if_pos hc] at h
    rcases encL_fit op r rest w hl h k h1 h7 with e | ⟨d, hd, e⟩
    · exact .inl e
    · exact .inr ⟨d, List.mem_cons_of_mem _ hd, e⟩
  · rw [if_neg hc] at h
    by_cases hf : fitsM (fieldM c.toNat) (rest.getD (atM c.toNat) 0) = true
    · rw [if_pos hf] at h
      by_cases hk : atM c.toNat = k
      · exact .inr ⟨c, List.mem_cons_self .., hc, hk, by rw [← hk]; exact hf⟩
      · have e0 : (rest.set (atM c.toNat) 0).getD k 0 = rest.getD k 0 := by simp [List.getD, List.getElem?_set, hk]
        rcases encL_fit op r _ _ (by simpa using hl) h k h1 h7 with e | ⟨d, hd, e1, e2, e3⟩
        · left; rw [← e0]; exact e
        · right; rw [e0] at e3; exact ⟨d, List.mem_cons_of_mem _ hd, e1, e2, e3⟩
    · rw [if_neg hf] at h; cases h
theorem fit_get {i : List Int} (hl : i.length = 7) (h : (encM i).2 = 0) (k : Nat) (h1 : 1 ≤ k) (h7 : k < 7) : i.getD k 0 = 0 ∨ ∃ c : Int, c ≠ 122 ∧ atM c = k ∧ fitsM (fieldM c) (i.getD k 0) = true := by
 unfold encM at h
 split at h
 · cases h
 · rcases encL_fit _ _ _ _ hl h k h1 h7 with e | ⟨c, _, e1, e2, e3⟩
   · exact .inl e
   · exact .inr ⟨_, e1, e2, e3⟩
theorem fits_le {f : Fld} {x : Int} (h : fitsM f x = true) (hs : f.2.2.1 = false) : 0 ≤ x ∧ x ≤ f.2.2.2.2 := by
 unfold fitsM at h
 rw [hs] at h
 simpa using h
theorem at_field {c : Int} {k : Nat} (h : atM c = k) (hk : k < 6) : (fieldM c).2.2.1 = false ∧ (fieldM c).2.2.2.2 ≤ (if k = 4 ∨ k ≤ 3 then 31 else 3) := by
 have hc : c = 100 ∨ (c = 110 ∨ c = 97) ∨ c = 109 ∨ (c = 101 ∨ c = 113 ∨ c = 99 ∨ c = 107) ∨ c = 115 := by
  unfold atM at h
  by_cases h1 : c = 100; · exact .inl h1
  rw [if_neg h1] at h
  by_cases h2 : c = 110 ∨ c = 97; · exact .inr (.inl h2)
  rw [if_neg h2] at h
  by_cases h3 : c = 109; · exact .inr (.inr (.inl h3))
  rw [if_neg h3] at h
  by_cases h4 : c = 101 ∨ c = 113 ∨ c = 99 ∨ c = 107; · exact .inr (.inr (.inr (.inl h4)))
  rw [if_neg h4] at h
  by_cases h5 : c = 115; · exact .inr (.inr (.inr (.inr h5)))
  rw [if_neg h5] at h
  omega
 rcases hc with rfl | (rfl | rfl) | rfl | (rfl | rfl | rfl | rfl) | rfl <;> (rw [← h]; exact ⟨by decide, by decide⟩)
theorem ins_reg {i : List Int} (hl : i.length = 7) (h : (encM i).2 = 0) {k : Nat} (h1 : 1 ≤ k) (h4 : k ≤ 4) : 0 ≤ i.getD k 0 ∧ i.getD k 0 ≤ 31 := by
 rcases fit_get hl h k h1 (by omega) with e | ⟨c, _, ha, hf⟩
 · rw [e]; exact ⟨by decide, by decide⟩
 · obtain ⟨hs, hm⟩ := at_field ha (by omega)
   obtain ⟨h5, h6⟩ := fits_le hf hs
   rw [if_pos (by omega)] at hm
   exact ⟨h5, by omega⟩
theorem ins_size {i : List Int} (hl : i.length = 7) (h : (encM i).2 = 0) : 0 ≤ i.getD 5 0 ∧ i.getD 5 0 ≤ 3 := by
 rcases fit_get hl h 5 (by omega) (by omega) with e | ⟨c, _, ha, hf⟩
 · rw [e]; exact ⟨by decide, by decide⟩
 · obtain ⟨hs, hm⟩ := at_field ha (by omega)
   obtain ⟨h5, h6⟩ := fits_le hf hs
   rw [if_neg (by omega)] at hm
   exact ⟨h5, by omega⟩
structure FSt where
 x : List Int
 pc : Int
 z : Bool
 c : Bool
 wa : Int
 wl : Int
def FSt.cells (s : FSt) : List AV := s.x.map (AV.int .u64) ++ [.int .i64 s.pc, .bool s.z, .bool s.c, .int .i64 s.wa, .int .i64 s.wl]
def U64 (v : Int) : Prop := 0 ≤ v ∧ v < 18446744073709551616
structure FSt.ok (s : FSt) : Prop where
 len : s.x.length = 31
 u : ∀ v ∈ s.x, U64 v
theorem FSt.len36 {s : FSt} (h : s.ok) : s.cells.length = 36 := by simp [FSt.cells, h.len]
theorem FSt.scalar (s : FSt) : s.cells.all AV.scalar = true := by
 simp only [FSt.cells, List.all_append, List.all_map, Bool.and_eq_true, List.all_eq_true]
 exact ⟨fun _ _ => rfl, by simp [AV.scalar]⟩
theorem FSt.froz (s : FSt) : AV.frozs s.cells = true := by
 rw [frozs_all]
 simp only [FSt.cells, List.all_append, List.all_map, Bool.and_eq_true, List.all_eq_true]
 exact ⟨fun _ _ => rfl, by simp [AV.froz]⟩
theorem U64.wrap (n : Int) : U64 (IntKind.wrap .u64 n) := by
 unfold U64 IntKind.wrap
 simp only [IntKind.signed, IntKind.bits]
 have := Int.emod_nonneg n (show (18446744073709551616 : Int) ≠ 0 by decide)
 have := Int.emod_lt_of_pos n (show (0 : Int) < 18446744073709551616 by decide)
 first | exact ⟨by simpa using ‹0 ≤ n % 18446744073709551616›, by simpa using ‹n % 18446744073709551616 < 18446744073709551616›⟩ | omega
def FSt.get (s : FSt) (n : Int) : Int := if n = 31 then 0 else s.x.getD n.toNat 0
def FSt.put (s : FSt) (n v : Int) : FSt := if n = 31 then s else { s with x := s.x.set n.toNat v }
theorem FSt.get_u {s : FSt} (h : s.ok) {n : Int} (h0 : 0 ≤ n) (h1 : n ≤ 31) : U64 (s.get n) := by
 unfold FSt.get
 split
 · exact ⟨by decide, by decide⟩
 · have hn : n.toNat < s.x.length := by rw [h.len]; omega
   simp only [List.getD, List.getElem?_eq_getElem hn, Option.getD_some]
   exact h.u _ (List.getElem_mem hn)
theorem FSt.put_ok {s : FSt} (h : s.ok) {n v : Int} (hv : U64 v) : (s.put n v).ok := by
 unfold FSt.put
 split
 · exact h
 · exact ⟨by simpa using h.len, fun w hw => by
     rcases List.mem_or_eq_of_mem_set hw with hw | rfl
     · exact h.u _ hw
     · exact hv⟩
section
variable {Φ : Calls'} {H : AH} {Q : Post}
theorem st_x {s : FSt} (h : s.ok) {n : Nat} (hn : n < 31) : takeCells s.cells n 1 false = some (.int .u64 (s.x.getD n 0)) := by
 unfold takeCells
 rw [if_pos (by rw [FSt.len36 h]; omega), if_neg (by decide)]
 have hl := h.len
 simp [FSt.cells, List.getElem?_append, hl, hn, List.getD]
theorem st_at {s : FSt} (h : s.ok) {k : Nat} {v : AV} (hv : [AV.int .i64 s.pc, .bool s.z, .bool s.c, .int .i64 s.wa, .int .i64 s.wl][k]? = some v) : takeCells s.cells (31 + k) 1 false = some v := by
 have hk : k < 5 := by
  rcases Nat.lt_or_ge k 5 with h | h
  · exact h
  · rw [List.getElem?_eq_none (by simpa using h)] at hv; cases hv
 unfold takeCells
 rw [if_pos (by rw [FSt.len36 h]; omega), if_neg (by decide)]
 have hl := h.len
 rw [FSt.cells, List.getElem?_append_right (by simp [hl])]
 simpa [hl] using hv
theorem fget_spec {s : FSt} (h : s.ok) {id : Nat} (a : At H id (.row s.cells)) {n : Int} (h0 : 0 ≤ n) (h1 : n ≤ 31) (hQ : Q (.int .u64 (s.get n)) H) : S.f39 Φ (.ptr id 0) (.int .i64 n) H Q := by
 unfold S.f39
 unfold FSt.get at hQ
 simp only [abin_eql, Do_of, Gd_true]
 refine u_ite (fun h => ?_) (fun hc => ?_)
 · rw [if_pos (by simpa using h)] at hQ; exact hQ
 · have hc : n ≠ 31 := by simpa using hc
   rw [if_neg hc] at hQ
   simp only [anilck, afaddr, Do_of, Nat.add_zero]
   rw [show aiaddr (some 31) 1 (.ptr id 0) (.int .i64 n) = some (.ptr id n.toNat) by
     show (if 0 ≤ n ∧ n < (31 : Nat) then some (AV.ptr id (0 + n.toNat * 1)) else none) = _
     rw [if_pos ⟨h0, by omega⟩]; simp]
   simp only [Do_of]
   rw [a.load, st_x h (by omega)]
   simp only [Do_of]
   exact hQ
theorem st_set {s : FSt} (h : s.ok) {n : Nat} (hn : n < 31) (v : Int) : setCells s.cells n [.int .u64 v] = ({ s with x := s.x.set n v } : FSt).cells := by
 have key : ∀ (xs : List Int) (t : List AV) (k : Nat), k < xs.length → setCells (xs.map (AV.int .u64) ++ t) k [.int .u64 v] = (xs.set k v).map (AV.int .u64) ++ t := by
  intro xs t
  induction xs with
  | nil => intro k hk; simp at hk
  | cons a r ih =>
   intro k hk
   cases k with
   | zero => rfl
   | succ k => exact congrArg _ (ih k (Nat.lt_of_succ_lt_succ hk))
 exact key _ _ _ (by rw [h.len]; exact hn)
theorem fput_spec {s : FSt} (h : s.ok) {id : Nat} (a : At H id (.row s.cells)) {n v : Int} (h0 : 0 ≤ n) (h1 : n ≤ 31) (hQ : ∀ H', At H' id (.row (s.put n v).cells) → H'.n = H.n → (∀ j, j ≠ id → H'.o j = H.o j) → Q (.tup []) H') : S.f49 Φ (.ptr id 0) (.int .i64 n) (.int .u64 v) H Q := by
 unfold S.f49
 unfold FSt.put at hQ
 simp only [abin_neq, Do_of, Gd_true]
 refine u_ite (fun hc => ?_) (fun hc => ?_)
 · have hc : n ≠ 31 := by simpa using hc
   rw [if_neg hc] at hQ
   simp only [anilck, afaddr, Do_of, Nat.add_zero]
   rw [show aiaddr (some 31) 1 (.ptr id 0) (.int .i64 n) = some (.ptr id n.toNat) by
     show (if 0 ≤ n ∧ n < (31 : Nat) then some (AV.ptr id (0 + n.toNat * 1)) else none) = _
     rw [if_pos ⟨h0, by omega⟩]; simp]
   simp only [Do_of]
   rw [a.store, if_pos ⟨rfl, rfl, rfl, by rw [FSt.len36 h]; omega⟩]
   simp only [Do_of]
   have e := st_set h (n := n.toNat) (by omega) v
   rw [show (AV.int .u64 v).cells = [.int .u64 v] from rfl, e]
   exact hQ _ (a.set _) rfl (fun j hj => AH.set_ne H _ hj)
 · rw [if_pos (by simpa using hc)] at hQ
   exact hQ _ a rfl fun _ _ => rfl
theorem betw_spec {op a b : Int} (hQ : Q (.bool (decide (op ≥ a) && decide (op ≤ b))) H) : S.f66 Φ (.int .i64 op) (.int .i64 a) (.int .i64 b) H Q := by
 unfold S.f66
 simp only [abin_geq, abin_leq, Do_of, Gd3_true]
 refine u_ite (fun h => ?_) (fun h => ?_) <;> rw [h] at hQ <;> exact hQ
end
end Rb

namespace Rb
open Go
def betw (op a b : Int) : Bool := decide (op ≥ a) && decide (op ≤ b)
def wrsM (op : Int) : Bool := op == 18 || op == 20 || op == 23 || op == 24 || op == 27 || op == 28
def bmask (n : Int) : Int := if n < 1 then 0 else if n ≥ 64 then 18446744073709551615 else IntKind.wrap .u64 (ushl .u64 1 n - 1)
abbrev gi (i : List Int) (k : Nat) : Int := i.getD k 0
theorem iv_ld {i : List Int} (hl : i.length = 7) {k : Nat} (hk : k < 7) (H : AH) : aload H 1 false (.fptr ((IV i).drop k)) = some (.int .i64 (gi i k)) := by
 show takeCells ((IV i).drop k) 0 1 false = _
 rw [← takeCells_drop (by simp [hl]; omega)]
 exact IV_get (by omega)
theorem iv_all {i : List Int} (hl : i.length = 7) (H : AH) : aload H 7 true (.fptr (IV i)) = some (.agg (IV i)) := takeCells_whole (by simpa using hl)
theorem iv_box {i : List Int} (hl : i.length = 7) (H : AH) : aboxv H false 7 (.agg (IV i)) = some (.fptr (IV i), H) := by unfold aboxv; rw [if_pos ⟨rfl, by simpa [AV.cells] using hl⟩]; rfl
theorem iv_addr (i : List Int) (k : Nat) : afaddr k (.fptr (IV i)) = some (.fptr ((IV i).drop k)) := rfl
section
variable {Φ : Calls'} {H : AH} {Q : Post}
theorem wrs_spec {op : Int} (hQ : Q (.bool (wrsM op)) H) : S.f36 Φ (.int .i64 op) H Q := by
 unfold S.f36
 simp only [abin_eql, Do_of, Gd3_false, JoinP_def, S.f36_k4, S.f36_k3, S.f36_k2, S.f36_k1, sl_zero]
 unfold wrsM at hQ
 repeat' (refine u_itef (fun h => ?_) (fun h => ?_))
 all_goals simp_all
theorem bmask_spec {n : Int} (hQ : Q (.int .u64 (bmask n)) H) : S.f41 Φ (.int .i64 n) H Q := by
 unfold S.f41
 unfold bmask at hQ
 simp only [abin_lss, abin_geq, Do_of, Gd_true]
 refine u_ite (fun h => ?_) (fun h => ?_)
 · rw [if_pos (by simpa using h)] at hQ; exact hQ
 have h1 : ¬ n < 1 := by simpa using h
 rw [if_neg h1] at hQ
 refine u_ite (fun h => ?_) (fun h => ?_)
 · rw [if_pos (by simpa using h)] at hQ; exact hQ
 have h2 : ¬ n ≥ 64 := by simpa using h
 rw [if_neg h2] at hQ
 rw [b_shl _ _ _ _ (by omega)]
 simp only [Do_of, abin_sub]
 exact hQ
end
theorem two_0 (id o : Nat) : aiaddr (some 2) 1 (.ptr id o) (.int .i64 0) = some (.ptr id o) := rfl
theorem two_1 (id o : Nat) : aiaddr (some 2) 1 (.ptr id o) (.int .i64 1) = some (.ptr id (o + 1)) := rfl
def whN (i : List Int) : Int := if betw (gi i 0) 25 28 = true then 16 else ushl .i64 1 (gi i 5)
def whA (s : FSt) (i : List Int) : Int := if gi i 0 = 17 ∨ gi i 0 = 18 then IntKind.wrap .u64 (s.get (gi i 2) + ushl .u64 (IntKind.wrap .u64 (gi i 6)) (gi i 5)) else s.get (gi i 2)
def whM (s : FSt) (i : List Int) : Int × Int := (if whA s i ≥ 1099511627776 then -1 else IntKind.wrap .i64 (whA s i), whN i)
structure Acc where
 w : Bool
 at' : Int
 len : Int
 ex : Bool
 aq : Bool
 rl : Bool
 d0 : Int
 d1 : Int
def Acc.cells (a : Acc) : List AV := [.bool a.w, .int .i64 a.at', .int .i64 a.len, .bool a.ex, .bool a.aq, .bool a.rl, .int .u64 a.d0, .int .u64 a.d1]
def sndI (i : List Int) : Bool := (encM i).2 == 0
def askM (s : FSt) (i : List Int) : Acc × Bool :=
 if sndI i = true ∧ betw (gi i 0) 17 28 = true then
  (⟨wrsM (gi i 0), (whM s i).1, (whM s i).2, betw (gi i 0) 21 28, gi i 0 == 19 || gi i 0 == 22 || gi i 0 == 26, gi i 0 == 20 || gi i 0 == 24 || gi i 0 == 28,
    if wrsM (gi i 0) = true then (if betw (gi i 0) 25 28 = true then s.get (gi i 1) else uand .u64 (s.get (gi i 1)) (bmask (IntKind.wrap .i64 (8 * (whM s i).2)))) else 0,
    if wrsM (gi i 0) = true then (if betw (gi i 0) 25 28 = true then s.get (gi i 4) else 0) else 0⟩, true)
 else (⟨false, 0, 0, false, false, false, 0, 0⟩, false)
section
variable {C : Ctx} (hGT : GTok C) (hT : Cl (ACall C) S.tab_Mch)
include hGT hT
theorem betw_val (op a b : Int) : Val (ACall C) K.f66 [.int .i64 op, .int .i64 a, .int .i64 b] (.bool (betw op a b)) := fun H Q hQ => S.cl_f66 hT (betw_spec hQ)
theorem mem_val (op : Int) : Val (ACall C) K.f35 [.int .i64 op] (.bool (betw op 17 28)) := fun H Q hQ => S.cl_f35 hT (betw_val hGT hT op 17 28 _ _ hQ)
theorem pair_val (op : Int) : Val (ACall C) K.f40 [.int .i64 op] (.bool (betw op 25 28)) := fun H Q hQ => S.cl_f40 hT (betw_val hGT hT op 25 28 _ _ hQ)
theorem excl_val (op : Int) : Val (ACall C) K.f38 [.int .i64 op] (.bool (betw op 21 28)) := fun H Q hQ => S.cl_f38 hT (betw_val hGT hT op 21 28 _ _ hQ)
theorem wrs_val (op : Int) : Val (ACall C) K.f36 [.int .i64 op] (.bool (wrsM op)) := fun H Q hQ => S.cl_f36 hT (wrs_spec hQ)
theorem bmask_val (n : Int) : Val (ACall C) K.f41 [.int .i64 n] (.int .u64 (bmask n)) := fun H Q hQ => S.cl_f41 hT (bmask_spec hQ)
theorem snd_val {i : List Int} (hl : i.length = 7) : Val (ACall C) K.f34 [.agg (IV i)] (.bool (sndI i)) := fun H Q hQ => S.cl_f34 hT (by
  unfold S.f34
  simp only [iv_box hl, DoH_some, iv_all hl, Do_of]
  refine Encode_val hGT hT hl _ _ ?_
  simp only [aextract, List.getElem?_cons_zero, List.getElem?_cons_succ, Do_of, abin_eql]
  exact hQ)
theorem fget_ok {s : FSt} (h : s.ok) {H : AH} {Q : Post} {id : Nat} (a : At H id (.row s.cells)) {n : Int} (hn : 0 ≤ n ∧ n ≤ 31) (hQ : Q (.int .u64 (s.get n)) H) : ACall C K.f39 [.ptr id 0, .int .i64 n] H Q := S.cl_f39 hT (fget_spec h a hn.1 hn.2 hQ)
theorem where_ok {s : FSt} (h : s.ok) {i : List Int} (hl : i.length = 7) (hs : sndI i = true) {H : AH} {Q : Post} {id : Nat} (a : At H id (.row s.cells))
  (hQ : ∀ H', AH.Ext H H' → Q (.agg [.int .i64 (whM s i).1, .int .i64 (whM s i).2]) H') : ACall C K.f37 [.ptr id 0, .agg (IV i)] H Q := by
 refine S.cl_f37 hT ?_
 have hs : (encM i).2 = 0 := by simpa [sndI] using hs
 have h2 := ins_reg hl hs (k := 2) (by omega) (by omega)
 have h5 := ins_size hl hs
 unfold S.f37
 simp only [iv_box hl, DoH_some, abox, if_true, iv_addr, iv_ld hl (show 5 < 7 by omega), iv_ld hl (show 0 < 7 by omega), Do_of]
 rw [b_shl _ _ _ _ h5.1]
 simp only [Do_of]
 have a1 := a.push (.row [.int .i64 0, .int .i64 0])
 have k1 : ∀ (n v : Int), n = whN i → v = whA s i → S.f37_k1 (ACall C) (.ptr H.n 0) [.int .i64 n] Q [.int .u64 v] (H.push (.row [.int .i64 0, .int .i64 0])) := by
  intro n v hn hv
  simp only [S.f37_k1, sl_zero, abin_geq, Do_of, Gd_true, aconv_int]
  have hr : ∀ x, x = (whM s i).1 → Do (abuild [.int .i64 0, .int .i64 0] [(0, 1, AV.int .i64 x), (1, 1, .int .i64 n)]) fun x36 =>
    Do (astore (H.push (.row [.int .i64 0, .int .i64 0])) 2 (.ptr H.n 0) x36) fun H37 => Do (aload H37 2 true (.ptr H.n 0)) fun x38 => Q x38 H37 := by
   intro x hx
   rw [show abuild [.int .i64 0, .int .i64 0] [(0, 1, AV.int .i64 x), (1, 1, .int .i64 n)] = some (.agg [.int .i64 x, .int .i64 n]) from rfl]
   simp only [Do_of]
   rw [store_new H _ [.int .i64 x, .int .i64 n] 2 rfl rfl rfl]
   simp only [Do_of]
   rw [(At.new H _).load, takeCells_whole (n := 2) (a := [.int .i64 x, .int .i64 n]) rfl]
   simp only [Do_of]
   rw [hx, hn]
   exact hQ _ (AH.Ext.push H _)
  refine u_ite (fun h => ?_) (fun h => ?_)
  · refine hr _ ?_
    rw [hv] at h
    unfold whM
    rw [if_pos (by simpa using h)]
  · refine hr _ ?_
    rw [hv] at h
    unfold whM
    rw [if_neg (by simpa using h), hv]
 have k3 : ∀ n : Int, n = whN i → S.f37_k3 (ACall C) (.ptr id 0) (.fptr (IV i)) (.ptr H.n 0) Q [.int .i64 n] (H.push (.row [.int .i64 0, .int .i64 0])) := by
  intro n hn
  simp only [S.f37_k3, iv_addr, iv_ld hl (show 2 < 7 by omega), iv_ld hl (show 0 < 7 by omega), Do_of]
  refine fget_ok hGT hT h a1 h2 ?_
  simp only [abin_eql, Do_of, Gd3_false, JoinP_def]
  have k2 : ∀ b : Bool, (b = true ↔ gi i 0 = 17 ∨ gi i 0 = 18) → S.f37_k2 (ACall C) (.fptr (IV i)) (.ptr H.n 0) (.int .u64 (s.get (gi i 2))) [.int .i64 n] Q [.bool b] (H.push (.row [.int .i64 0, .int .i64 0])) := by
   intro b hb
   simp only [S.f37_k2, sl_zero, Gd_true, iv_addr, iv_ld hl (show 6 < 7 by omega), iv_ld hl (show 5 < 7 by omega), Do_of, aconv_int, JoinP_def]
   refine u_ite (fun hc => ?_) (fun hc => ?_)
   · rw [b_shl _ _ _ _ h5.1]
     simp only [Do_of, abin_add]
     refine k1 _ _ hn ?_
     unfold whA
     rw [if_pos (hb.1 hc)]
   · refine k1 _ _ hn ?_
     unfold whA
     rw [if_neg (fun e => by rw [hb.2 e] at hc; cases hc)]
  refine u_itef (fun hc => ?_) (fun hc => ?_)
  · refine k2 _ ?_
    have : gi i 0 ≠ 17 := beq_eq_false_iff_ne.1 hc
    exact ⟨fun e => .inr (beq_iff_eq.1 e), fun e => beq_iff_eq.2 (e.resolve_left this)⟩
  · refine k2 _ ?_
    exact ⟨fun _ => .inl (beq_iff_eq.1 (by simpa using hc)), fun _ => rfl⟩
 refine pair_val hGT hT _ _ _ ?_
 simp only [Gd_true, JoinP_def]
 refine u_ite (fun hc => ?_) (fun hc => ?_)
 · refine k3 _ ?_
   unfold whN
   rw [if_pos hc]
 · refine k3 _ ?_
   unfold whN
   rw [if_neg (by rw [hc]; decide)]
theorem acc_load {H : AH} {ic : Nat} {b : Acc} (h : At H ic (.row b.cells)) (k : Nat) (v : AV) (hv : b.cells[k]? = some v) (hk : k < 8) : aload H 1 false (.ptr ic k) = some v := by
 rw [h.load]
 unfold takeCells
 rw [if_pos (by show k + 1 ≤ 8; omega), if_neg (by decide), hv]
theorem acc_all {H : AH} {ic : Nat} {b : Acc} (h : At H ic (.row b.cells)) : aload H 8 true (.ptr ic 0) = some (.agg b.cells) := by rw [h.load]; exact takeCells_whole rfl
theorem acc_aq {H : AH} {ic : Nat} {b : Acc} (h : At H ic (.row b.cells)) (v : Bool) : astore H 1 (.ptr ic 4) (.bool v) = some (H.set ic (.row ({ b with aq := v } : Acc).cells)) := by rw [h.store, if_pos ⟨rfl, rfl, rfl, (by decide : 4 + 1 ≤ 8)⟩]; rfl
theorem acc_rl {H : AH} {ic : Nat} {b : Acc} (h : At H ic (.row b.cells)) (v : Bool) : astore H 1 (.ptr ic 5) (.bool v) = some (H.set ic (.row ({ b with rl := v } : Acc).cells)) := by rw [h.store, if_pos ⟨rfl, rfl, rfl, (by decide : 5 + 1 ≤ 8)⟩]; rfl
theorem acc_d0 {H : AH} {ic : Nat} {b : Acc} (h : At H ic (.row b.cells)) (v : Int) : astore H 1 (.ptr ic 6) (.int .u64 v) = some (H.set ic (.row ({ b with d0 := v } : Acc).cells)) := by rw [h.store, if_pos ⟨rfl, rfl, rfl, (by decide : 6 + 1 ≤ 8)⟩]; rfl
theorem acc_d1 {H : AH} {ic : Nat} {b : Acc} (h : At H ic (.row b.cells)) (v : Int) : astore H 1 (.ptr ic 7) (.int .u64 v) = some (H.set ic (.row ({ b with d1 := v } : Acc).cells)) := by rw [h.store, if_pos ⟨rfl, rfl, rfl, (by decide : 7 + 1 ≤ 8)⟩]; rfl
theorem st_box {s : FSt} (h : s.ok) (H : AH) : aboxv H true 36 (.agg s.cells) = some (.ptr H.n 0, H.push (.row s.cells)) := by unfold aboxv; rw [if_pos ⟨rfl, FSt.len36 h⟩]; rfl
theorem Ask_ok {s : FSt} (h : s.ok) {i : List Int} (hl : i.length = 7) : Val (ACall C) K.f23 [.agg s.cells, .agg (IV i)] (.tup [.agg (askM s i).1.cells, .bool (askM s i).2]) := by
 refine Val.of hGT (by simp only [AV.frozs, AV.froz, IV_froz, FSt.froz, Bool.and_self]) rfl fun Q hQ => S.cl_f23 hT ?_
 unfold S.f23
 simp only [st_box hGT hT h, DoH_some, iv_box hl, abox, if_true, iv_all hl, Do_of]
 have a := (At.new AH.mt (.row s.cells)).push (.row [.bool false, .int .i64 0, .int .i64 0, .bool false, .bool false, .bool false, .int .u64 0, .int .u64 0])
 have r := At.new (AH.mt.push (.row s.cells)) (.row [.bool false, .int .i64 0, .int .i64 0, .bool false, .bool false, .bool false, .int .u64 0, .int .u64 0])
 have hne : AH.mt.n ≠ (AH.mt.push (.row s.cells)).n := (At.new AH.mt (.row s.cells)).lt_new
 generalize ((AH.mt.push (.row s.cells)).push (.row [.bool false, .int .i64 0, .int .i64 0, .bool false, .bool false, .bool false, .int .u64 0, .int .u64 0])) = H0 at *
 generalize (AH.mt.push (.row s.cells)).n = ir at *
 generalize AH.mt.n = is at *
 refine snd_val hGT hT hl _ _ ?_
 simp only [aun_not, Do_of, Gd3_false, iv_addr, iv_ld hl (show 0 < 7 by omega)]
 have ret : ∀ (b : Acc) (k : Bool) (H : AH), At H ir (.row [.bool false, .int .i64 0, .int .i64 0, .bool false, .bool false, .bool false, .int .u64 0, .int .u64 0]) → (b, k) = askM s i →
   Do (astore H 8 (.ptr ir 0) (.agg b.cells)) fun H' => Do (aload H' 8 true (.ptr ir 0)) fun x => Q (.tup [x, .bool k]) H' := by
  intro b k H hr he
  rw [hr.store, if_pos ⟨rfl, rfl, rfl, (by decide : 0 + 8 ≤ 8)⟩]
  simp only [Do_of]
  rw [(hr.set _).load, show setCells [AV.bool false, .int .i64 0, .int .i64 0, .bool false, .bool false, .bool false, .int .u64 0, .int .u64 0] 0 (AV.agg b.cells).cells = b.cells from rfl, takeCells_whole (n := 8) (a := b.cells) rfl]
  simp only [Do_of]
  have e1 : b = (askM s i).1 := by rw [← he]
  have e2 : k = (askM s i).2 := by rw [← he]
  rw [e1, e2]
  exact hQ _
 have k7 : ∀ b : Bool, (b = true ↔ ¬ (sndI i = true ∧ betw (gi i 0) 17 28 = true)) → S.f23_k7 (ACall C) (.ptr is 0) (.fptr (IV i)) (.ptr ir 0) Q [.bool b] H0 := by
  intro b hb
  simp only [S.f23_k7, sl_zero, Gd_true, JoinP_def]
  refine u_ite (fun hc => ?_) (fun hc => ?_)
  · rw [show abuild [.bool false, .int .i64 0, .int .i64 0, .bool false, .bool false, .bool false, .int .u64 0, .int .u64 0] [] = some (.agg (Acc.cells ⟨false, 0, 0, false, false, false, 0, 0⟩)) from rfl]
    simp only [Do_of]
    refine ret _ _ _ r ?_
    unfold askM
    rw [if_neg (hb.1 hc)]
  · have hs : sndI i = true ∧ betw (gi i 0) 17 28 = true := Classical.byContradiction fun e => by rw [hb.2 e] at hc; cases hc
    have hsz : (encM i).2 = 0 := by simpa [sndI] using hs.1
    have hD := ins_reg hl hsz (k := 1) (by omega) (by omega)
    have hE := ins_reg hl hsz (k := 4) (by omega) (by omega)
    simp only [S.f23_k6, iv_addr, iv_ld hl (show 0 < 7 by omega), iv_all hl, Do_of]
    refine wrs_val hGT hT _ _ _ ?_
    refine ⟨trivial, trivial, ?_⟩
    refine where_ok hGT hT h hl hs.1 a fun H1 hE1 => ?_
    refine ⟨trivial, ?_⟩
    refine excl_val hGT hT _ _ _ ?_
    have a1 := a.ext hE1
    have r1 := r.ext hE1
    clear a r
    rw [show abuild [.bool false, .int .i64 0, .int .i64 0, .bool false, .bool false, .bool false, .int .u64 0, .int .u64 0] [(0, 1, AV.bool (wrsM (gi i 0))), (1, 2, .agg [.int .i64 (whM s i).1, .int .i64 (whM s i).2]), (3, 1, .bool (betw (gi i 0) 21 28))] = some (.agg (Acc.cells ⟨wrsM (gi i 0), (whM s i).1, (whM s i).2, betw (gi i 0) 21 28, false, false, 0, 0⟩)) from rfl]
    simp only [Do_of, abox, if_true, DoH_some]
    refine ⟨trivial, trivial, trivial, ?_⟩
    rw [store_new H1 _ (Acc.cells ⟨wrsM (gi i 0), (whM s i).1, (whM s i).2, betw (gi i 0) 21 28, false, false, 0, 0⟩) 8 rfl rfl rfl]
    have a2 := a1.push (.row (Acc.cells ⟨wrsM (gi i 0), (whM s i).1, (whM s i).2, betw (gi i 0) 21 28, false, false, 0, 0⟩))
    have r2 := r1.push (.row (Acc.cells ⟨wrsM (gi i 0), (whM s i).1, (whM s i).2, betw (gi i 0) 21 28, false, false, 0, 0⟩))
    have c2 := At.new H1 (.row (Acc.cells ⟨wrsM (gi i 0), (whM s i).1, (whM s i).2, betw (gi i 0) 21 28, false, false, 0, 0⟩))
    have nic : is ≠ H1.n := a1.lt_new
    have nrc : ir ≠ H1.n := r1.lt_new
    generalize H1.push (.row (Acc.cells ⟨wrsM (gi i 0), (whM s i).1, (whM s i).2, betw (gi i 0) 21 28, false, false, 0, 0⟩)) = H2 at *
    generalize H1.n = ic at *
    simp only [Do_of, abin_eql, Gd3_false, iv_ld hl (show 0 < 7 by omega)]
    have k1 : ∀ (b : Acc) (H : AH), At H ic (.row b.cells) → At H ir (.row [.bool false, .int .i64 0, .int .i64 0, .bool false, .bool false, .bool false, .int .u64 0, .int .u64 0]) → (b, true) = askM s i → S.f23_k1 (ACall C) (.ptr ir 0) (.ptr ic 0) Q [] H := by
     intro b H hc hr he
     simp only [S.f23_k1, acc_all hGT hT hc, Do_of]
     exact ret b true H hr he
    have k2 : ∀ (b : Acc) (H : AH), At H ic (.row b.cells) → At H is (.row s.cells) → At H ir (.row [.bool false, .int .i64 0, .int .i64 0, .bool false, .bool false, .bool false, .int .u64 0, .int .u64 0]) →
      b = ⟨wrsM (gi i 0), (whM s i).1, (whM s i).2, betw (gi i 0) 21 28, gi i 0 == 19 || gi i 0 == 22 || gi i 0 == 26, gi i 0 == 20 || gi i 0 == 24 || gi i 0 == 28, 0, 0⟩ → S.f23_k2 (ACall C) (.ptr is 0) (.fptr (IV i)) (.ptr ir 0) (.ptr ic 0) Q [] H := by
     intro b H hc ha hr he
     have hw : b.w = wrsM (gi i 0) := by rw [he]
     simp only [S.f23_k2, afaddr, Nat.zero_add, acc_load hGT hT hc 0 _ rfl (by omega), Do_of, Gd_true, hw]
     refine u_ite (fun hw1 => ?_) (fun hw1 => ?_)
     · rw [iv_ld hl (show 1 < 7 by omega)]
       simp only [Do_of]
       refine fget_ok hGT hT h ha hD ?_
       simp only [two_0, two_1, Do_of, Nat.reduceAdd]
       rw [acc_d0 hGT hT hc]
       have hc2 := hc.set (.row ({ b with d0 := s.get (gi i 1) } : Acc).cells)
       have ha2 := ha.set_ne nic (.row ({ b with d0 := s.get (gi i 1) } : Acc).cells)
       have hr2 := hr.set_ne nrc (.row ({ b with d0 := s.get (gi i 1) } : Acc).cells)
       generalize H.set ic (.row ({ b with d0 := s.get (gi i 1) } : Acc).cells) = H3 at *
       simp only [Do_of, iv_ld hl (show 0 < 7 by omega)]
       refine pair_val hGT hT _ _ _ ?_
       simp only [Gd_true, iv_ld hl (show 4 < 7 by omega), Do_of, JoinP_def]
       refine u_ite (fun hp => ?_) (fun hp => ?_)
       · refine fget_ok hGT hT h ha2 hE ?_
         rw [acc_d1 hGT hT hc2]
         simp only [Do_of]
         refine k1 _ _ (hc2.set _) (hr2.set_ne nrc _) ?_
         unfold askM
         rw [if_pos hs, he]
         simp only [hw1, hp, if_true]
       · rw [acc_load hGT hT hc2 6 _ rfl (by omega)]
         simp only [Do_of]
         rw [acc_load hGT hT hc2 2 _ rfl (by omega)]
         simp only [Do_of, abin_mul]
         refine bmask_val hGT hT _ _ _ ?_
         refine ⟨acc_load hGT hT hc2 6 _ rfl (by omega), ?_⟩
         simp only [b_and, Do_of]
         rw [acc_d0 hGT hT hc2]
         simp only [Do_of]
         refine k1 _ _ (hc2.set _) (hr2.set_ne nrc _) ?_
         unfold askM
         rw [if_pos hs, he]
         simp only [hw1, hp, if_true, Bool.false_eq_true, if_false]
     · simp only [JoinP_def]
       refine k1 _ _ hc hr ?_
       unfold askM
       rw [if_pos hs, he]
       simp only [hw1, Bool.false_eq_true, if_false]
    have k3 : ∀ (b : Acc) (u : Bool) (H : AH), At H ic (.row b.cells) → At H is (.row s.cells) → At H ir (.row [.bool false, .int .i64 0, .int .i64 0, .bool false, .bool false, .bool false, .int .u64 0, .int .u64 0]) → u = (gi i 0 == 20 || gi i 0 == 24) →
      b = ⟨wrsM (gi i 0), (whM s i).1, (whM s i).2, betw (gi i 0) 21 28, gi i 0 == 19 || gi i 0 == 22 || gi i 0 == 26, false, 0, 0⟩ → S.f23_k3 (ACall C) (.ptr is 0) (.fptr (IV i)) (.ptr ir 0) (.ptr ic 0) Q [.bool u] H := by
     intro b u H hc ha hr hu he
     simp only [S.f23_k3, sl_zero, Gd3_false, afaddr, Nat.zero_add, iv_ld hl (show 0 < 7 by omega), Do_of, abin_eql, JoinP_def]
     refine u_itef (fun h1 => ?_) (fun h1 => ?_)
     · rw [acc_rl hGT hT hc]
       simp only [Do_of]
       refine k2 _ _ (hc.set _) (ha.set_ne nic _) (hr.set_ne nrc _) ?_
       rw [he, ← hu, h1, Bool.false_or]
     · rw [acc_rl hGT hT hc]
       simp only [Do_of]
       refine k2 _ _ (hc.set _) (ha.set_ne nic _) (hr.set_ne nrc _) ?_
       rw [he, ← hu, h1, Bool.true_or]
    have k4 : ∀ (b : Acc) (H : AH), At H ic (.row b.cells) → At H is (.row s.cells) → At H ir (.row [.bool false, .int .i64 0, .int .i64 0, .bool false, .bool false, .bool false, .int .u64 0, .int .u64 0]) →
      b = ⟨wrsM (gi i 0), (whM s i).1, (whM s i).2, betw (gi i 0) 21 28, gi i 0 == 19 || gi i 0 == 22 || gi i 0 == 26, false, 0, 0⟩ → S.f23_k4 (ACall C) (.ptr is 0) (.fptr (IV i)) (.ptr ir 0) (.ptr ic 0) Q [] H := by
     intro b H hc ha hr he
     simp only [S.f23_k4, Gd3_false, afaddr, iv_ld hl (show 0 < 7 by omega), Do_of, abin_eql, JoinP_def]
     refine u_itef (fun h1 => ?_) (fun h1 => ?_)
     · exact k3 _ _ _ hc ha hr (by rw [h1, Bool.false_or]) he
     · exact k3 _ _ _ hc ha hr (by rw [h1, Bool.true_or]) he
    have k5 : ∀ (b : Acc) (u : Bool) (H : AH), At H ic (.row b.cells) → At H is (.row s.cells) → At H ir (.row [.bool false, .int .i64 0, .int .i64 0, .bool false, .bool false, .bool false, .int .u64 0, .int .u64 0]) → u = (gi i 0 == 19 || gi i 0 == 22) →
      b = ⟨wrsM (gi i 0), (whM s i).1, (whM s i).2, betw (gi i 0) 21 28, false, false, 0, 0⟩ → S.f23_k5 (ACall C) (.ptr is 0) (.fptr (IV i)) (.ptr ir 0) (.ptr ic 0) Q [.bool u] H := by
     intro b u H hc ha hr hu he
     simp only [S.f23_k5, sl_zero, Gd3_false, afaddr, Nat.zero_add, iv_ld hl (show 0 < 7 by omega), Do_of, abin_eql, JoinP_def]
     refine u_itef (fun h1 => ?_) (fun h1 => ?_)
     · rw [acc_aq hGT hT hc]
       simp only [Do_of]
       refine k4 _ _ (hc.set _) (ha.set_ne nic _) (hr.set_ne nrc _) ?_
       rw [he, ← hu, h1, Bool.false_or]
     · rw [acc_aq hGT hT hc]
       simp only [Do_of]
       refine k4 _ _ (hc.set _) (ha.set_ne nic _) (hr.set_ne nrc _) ?_
       rw [he, ← hu, h1, Bool.true_or]
    refine u_itef (fun h1 => ?_) (fun h1 => ?_)
    · exact k5 _ _ _ c2 a2 r2 (by rw [h1, Bool.false_or]) rfl
    · exact k5 _ _ _ c2 a2 r2 (by rw [h1, Bool.true_or]) rfl
 refine u_itef (fun hc => ?_) (fun hc => ?_)
 · have hs : sndI i = true := by simpa using hc
   refine mem_val hGT hT _ _ _ ?_
   simp only [aun_not, Do_of, JoinP_def]
   refine k7 _ ?_
   rw [hs]
   simp
 · have hs : sndI i = false := by simpa using hc
   simp only [JoinP_def]
   refine k7 _ ?_
   rw [hs]
   simp
end
end Rb

namespace Rb
open Go
def binM (n : Int) : Bool := decide (n ≥ 0) && decide (n < 64)
def bputM (x a n v : Int) : Int := if binM a = true then uor .u64 (uandn .u64 x (ushl .u64 (bmask n) a)) (ushl .u64 (uand .u64 v (bmask n)) a) else x
def holdsM (s : FSt) (c : Int) : Bool := if c = 0 then s.z else if c = 1 then !s.z else if c = 2 then s.c else !s.c
def numM (s : FSt) (i : List Int) : Int × Bool :=
 if gi i 0 = 1 then (ushl .u64 (IntKind.wrap .u64 (gi i 6)) (IntKind.wrap .i64 (16 * gi i 4)), true) else
 if gi i 0 = 2 then (bputM (s.get (gi i 1)) (IntKind.wrap .i64 (16 * gi i 4)) 16 (IntKind.wrap .u64 (gi i 6)), true) else
 if gi i 0 = 3 then (IntKind.wrap .u64 (s.get (gi i 2) + s.get (gi i 3)), true) else
 if gi i 0 = 4 ∨ gi i 0 = 5 then (IntKind.wrap .u64 (s.get (gi i 2) - s.get (gi i 3)), true) else
 if gi i 0 = 6 then (uand .u64 (s.get (gi i 2)) (s.get (gi i 3)), true) else
 if gi i 0 = 7 then (uor .u64 (s.get (gi i 2)) (s.get (gi i 3)), true) else
 if gi i 0 = 8 then (uxor .u64 (s.get (gi i 2)) (s.get (gi i 3)), true) else
 if gi i 0 = 9 then (IntKind.wrap .u64 (s.get (gi i 2) * s.get (gi i 3)), true) else
 if gi i 0 = 10 then (ushl .u64 (s.get (gi i 2)) ((s.get (gi i 3)).tmod 64), true) else
 if gi i 0 = 11 then (ushr .u64 (s.get (gi i 2)) ((s.get (gi i 3)).tmod 64), true) else
 if gi i 0 = 12 then (if holdsM s (gi i 4) = true then 1 else 0, true) else (0, false)
def takenM (s : FSt) (i : List Int) : Bool :=
 if gi i 0 = 13 then true else
 if gi i 0 = 14 then holdsM s (gi i 4) else
 if gi i 0 = 15 then s.get (gi i 1) == 0 else
 if gi i 0 = 16 then s.get (gi i 1) != 0 else false
theorem ushr_u {a b : Int} (h : U64 a) : U64 (ushr .u64 a b) := by
 unfold ushr U64
 have hp : (0 : Int) < 2 ^ (min b.toNat (IntKind.bits .u64)) := Int.pow_pos (by decide)
 rw [Int.fdiv_eq_ediv_of_nonneg _ (Int.le_of_lt hp)]
 have h1 := Int.ediv_nonneg h.1 (Int.le_of_lt hp)
 have h2 := Int.ediv_le_self (2 ^ (min b.toNat (IntKind.bits .u64))) h.1
 exact ⟨h1, Int.lt_of_le_of_lt h2 h.2⟩
theorem bput_u {x a n v : Int} (h : U64 x) : U64 (bputM x a n v) := by
 unfold bputM
 split
 · exact U64.wrap _
 · exact h
theorem numM_u {s : FSt} (h : s.ok) {i : List Int} (hl : i.length = 7) (hs : (encM i).2 = 0) : U64 (numM s i).1 := by
 have hN := FSt.get_u h (ins_reg hl hs (k := 2) (by omega) (by omega)).1 (ins_reg hl hs (k := 2) (by omega) (by omega)).2
 have hD := FSt.get_u h (ins_reg hl hs (k := 1) (by omega) (by omega)).1 (ins_reg hl hs (k := 1) (by omega) (by omega)).2
 unfold numM
 iterate 11 (refine ite_P (fun z : Int × Bool => U64 z.1) (fun _ => by first | exact U64.wrap _ | exact bput_u hD | exact ushr_u hN | (dsimp only; split <;> exact ⟨by decide, by decide⟩)) (fun _ => ?_))
 exact ⟨by decide, by decide⟩
section
variable {C : Ctx} (hGT : GTok C) (hT : Cl (ACall C) S.tab_Mch)
include hGT hT
theorem bin_val (n : Int) : Val (ACall C) K.f98 [.int .i64 n] (.bool (binM n)) := fun H Q hQ => S.cl_f98 hT (by
  unfold S.f98
  unfold binM at hQ
  simp only [abin_geq, abin_lss, Do_of, Gd3_true]
  refine u_ite (fun h => ?_) (fun h => ?_) <;> rw [h] at hQ <;> exact hQ)
theorem bput_val (x a n v : Int) : Val (ACall C) K.f71 [.int .u64 x, .int .i64 a, .int .i64 n, .int .u64 v] (.int .u64 (bputM x a n v)) := fun H Q hQ => S.cl_f71 hT (by
  unfold S.f71
  refine bin_val hGT hT _ _ _ ?_
  simp only [aun_not, Do_of, Gd_true]
  unfold bputM at hQ
  refine u_ite (fun h => ?_) (fun h => ?_)
  · rw [if_neg (by simpa using h)] at hQ; exact hQ
  · have hb : binM a = true := by simpa using h
    rw [if_pos hb] at hQ
    have ha : 0 ≤ a := by unfold binM at hb; simp at hb; omega
    refine bmask_val hGT hT _ _ _ ?_
    rw [b_shl _ _ _ _ ha]
    simp only [Do_of, b_andn]
    refine bmask_val hGT hT _ _ _ ?_
    simp only [b_and, Do_of]
    rw [b_shl _ _ _ _ ha]
    simp only [Do_of, b_or]
    exact hQ)
theorem holds_ok {s : FSt} (h : s.ok) {H : AH} {Q : Post} {id : Nat} (a : At H id (.row s.cells)) {c : Int} (hQ : Q (.bool (holdsM s c)) H) : ACall C K.f70 [.ptr id 0, .int .i64 c] H Q := by
 refine S.cl_f70 hT ?_
 unfold S.f70
 unfold holdsM at hQ
 have l1 : aload H 1 false (.ptr id 32) = some (.bool s.z) := by rw [a.load]; exact st_at h (k := 1) rfl
 have l2 : aload H 1 false (.ptr id 33) = some (.bool s.c) := by rw [a.load]; exact st_at h (k := 2) rfl
 simp only [abin_eql, Do_of, Gd_true, anilck, afaddr, Nat.zero_add, l1, l2, aun_not]
 iterate 3 (refine u_ite (fun h => (by rw [if_pos (by simpa using h)] at hQ; exact hQ)) (fun h => ?_); rw [if_neg (by simpa using h)] at hQ)
 exact hQ
theorem num_ok {s : FSt} (h : s.ok) {i : List Int} (hl : i.length = 7) (hs : (encM i).2 = 0) {H : AH} {Q : Post} {id : Nat} (a : At H id (.row s.cells)) (hQ : Q (.tup [.int .u64 (numM s i).1, .bool (numM s i).2]) H) : ACall C K.f47 [.ptr id 0, .agg (IV i)] H Q := by
 refine S.cl_f47 hT ?_
 have hD := ins_reg hl hs (k := 1) (by omega) (by omega)
 have hN := ins_reg hl hs (k := 2) (by omega) (by omega)
 have hM := ins_reg hl hs (k := 3) (by omega) (by omega)
 have hE : 0 ≤ gi i 4 ∧ gi i 4 ≤ 31 := ins_reg hl hs (k := 4) (by omega) (by omega)
 have hm := FSt.get_u h hM.1 hM.2
 unfold S.f47
 unfold numM at hQ
 have i0 := fun H => iv_ld hl (show 0 < 7 by omega) H
 have i1 := fun H => iv_ld hl (show 1 < 7 by omega) H
 have i2 := fun H => iv_ld hl (show 2 < 7 by omega) H
 have i3 := fun H => iv_ld hl (show 3 < 7 by omega) H
 have i4 := fun H => iv_ld hl (show 4 < 7 by omega) H
 have i6 := fun H => iv_ld hl (show 6 < 7 by omega) H
 simp only [iv_box hl, DoH_some, iv_addr, i2, i3, Do_of]
 refine fget_ok hGT hT h a hN ?_
 refine ⟨trivial, ?_⟩
 refine fget_ok hGT hT h a hM ?_
 simp only [i0, i4, i6, i1, Do_of, abin_eql, Gd_true, aconv_int, abin_mul]
 have e16 : IntKind.wrap .i64 (16 * gi i 4) = 16 * gi i 4 := wrap_i64 (by omega) (by omega)
 refine u_ite (fun h1 => ?_) (fun h1 => ?_)
 · rw [if_pos (beq_iff_eq.1 h1)] at hQ
   rw [b_shl _ _ _ _ (by rw [e16]; omega)]
   simp only [Do_of]
   exact hQ
 rw [if_neg (beq_eq_false_iff_ne.1 h1)] at hQ
 refine u_ite (fun h1 => ?_) (fun h1 => ?_)
 · rw [if_pos (beq_iff_eq.1 h1)] at hQ
   refine fget_ok hGT hT h a hD ?_
   refine ⟨trivial, trivial, ?_⟩
   exact bput_val hGT hT _ _ _ _ _ _ hQ
 rw [if_neg (beq_eq_false_iff_ne.1 h1)] at hQ
 refine u_ite (fun h1 => ?_) (fun h1 => ?_)
 · rw [if_pos (beq_iff_eq.1 h1)] at hQ
   simp only [abin_add, Do_of]
   exact hQ
 rw [if_neg (beq_eq_false_iff_ne.1 h1)] at hQ
 have k1 : ∀ b : Bool, (b = true ↔ gi i 0 = 4 ∨ gi i 0 = 5) → S.f47_k1 (ACall C) (.ptr id 0) (.fptr (IV i)) (.int .u64 (s.get (gi i 2))) (.int .u64 (s.get (gi i 3))) (.int .i64 (gi i 0)) Q [.bool b] H := by
  intro b hb
  simp only [S.f47_k1, sl_zero, Gd_true, abin_sub, abin_eql, Do_of, b_and, b_or, b_xor, abin_mul, iv_addr, i4]
  refine u_ite (fun h1 => ?_) (fun h1 => ?_)
  · rw [if_pos (hb.1 h1)] at hQ; exact hQ
  rw [if_neg (fun e => by rw [hb.2 e] at h1; cases h1)] at hQ
  iterate 4 (refine u_ite (fun h2 => (by rw [if_pos (beq_iff_eq.1 h2)] at hQ; exact hQ)) (fun h2 => ?_); rw [if_neg (beq_eq_false_iff_ne.1 h2)] at hQ)
  have hr : 0 ≤ (s.get (gi i 3)).tmod 64 := Int.tmod_nonneg _ hm.1
  refine u_ite (fun h1 => ?_) (fun h1 => ?_)
  · rw [if_pos (beq_iff_eq.1 h1)] at hQ
    rw [abin_rem _ _ _ (by decide)]
    simp only [Do_of]
    rw [b_shl _ _ _ _ hr]
    simp only [Do_of]
    exact hQ
  rw [if_neg (beq_eq_false_iff_ne.1 h1)] at hQ
  refine u_ite (fun h1 => ?_) (fun h1 => ?_)
  · rw [if_pos (beq_iff_eq.1 h1)] at hQ
    rw [abin_rem _ _ _ (by decide)]
    simp only [Do_of]
    rw [b_shr _ _ _ _ hr]
    simp only [Do_of]
    exact hQ
  rw [if_neg (beq_eq_false_iff_ne.1 h1)] at hQ
  refine u_ite (fun h1 => ?_) (fun h1 => ?_)
  · rw [if_pos (beq_iff_eq.1 h1)] at hQ
    refine holds_ok hGT hT h a ?_
    simp only [Gd_true]
    refine u_ite (fun h2 => ?_) (fun h2 => ?_)
    · rw [if_pos h2] at hQ; exact hQ
    · rw [if_neg (by rw [h2]; decide)] at hQ; exact hQ
  rw [if_neg (beq_eq_false_iff_ne.1 h1)] at hQ
  exact hQ
 simp only [JoinP_def]
 refine u_ite (fun h1 => ?_) (fun h1 => ?_)
 · exact k1 _ ⟨fun e => .inl (beq_iff_eq.1 e), fun _ => h1⟩
 · refine k1 _ ⟨fun e => .inr (beq_iff_eq.1 e), fun e => beq_iff_eq.2 (e.resolve_left (beq_eq_false_iff_ne.1 h1))⟩
theorem taken_ok {s : FSt} (h : s.ok) {i : List Int} (hl : i.length = 7) (hs : (encM i).2 = 0) {H : AH} {Q : Post} {id : Nat} (a : At H id (.row s.cells)) (hQ : Q (.bool (takenM s i)) H) : ACall C K.f46 [.ptr id 0, .agg (IV i)] H Q := by
 refine S.cl_f46 hT ?_
 have hD := ins_reg hl hs (k := 1) (by omega) (by omega)
 unfold S.f46
 unfold takenM at hQ
 have i0 := fun H => iv_ld hl (show 0 < 7 by omega) H
 have i1 := fun H => iv_ld hl (show 1 < 7 by omega) H
 have i4 := fun H => iv_ld hl (show 4 < 7 by omega) H
 simp only [iv_box hl, DoH_some, iv_addr, i0, i1, i4, Do_of, abin_eql, Gd_true]
 refine u_ite (fun h1 => ?_) (fun h1 => ?_)
 · rw [if_pos (beq_iff_eq.1 h1)] at hQ; exact hQ
 rw [if_neg (beq_eq_false_iff_ne.1 h1)] at hQ
 refine u_ite (fun h1 => ?_) (fun h1 => ?_)
 · rw [if_pos (beq_iff_eq.1 h1)] at hQ; exact holds_ok hGT hT h a hQ
 rw [if_neg (beq_eq_false_iff_ne.1 h1)] at hQ
 refine u_ite (fun h1 => ?_) (fun h1 => ?_)
 · rw [if_pos (beq_iff_eq.1 h1)] at hQ
   refine fget_ok hGT hT h a hD ?_
   simp only [abin_eql, Do_of]
   exact hQ
 rw [if_neg (beq_eq_false_iff_ne.1 h1)] at hQ
 refine u_ite (fun h1 => ?_) (fun h1 => ?_)
 · rw [if_pos (beq_iff_eq.1 h1)] at hQ
   refine fget_ok hGT hT h a hD ?_
   simp only [abin_neq, Do_of]
   exact hQ
 rw [if_neg (beq_eq_false_iff_ne.1 h1)] at hQ
 exact hQ
end
end Rb

namespace Rb
open Go
theorem setCells_right (xs : List AV) : ∀ (ys t : List AV) (k : Nat), setCells (xs ++ t) (xs.length + k) ys = xs ++ setCells t k ys
 | [], t, k => rfl
 | v :: r, t, k => by
  show setCells ((xs ++ t).set (xs.length + k) v) (xs.length + k + 1) r = xs ++ setCells (t.set k v) (k + 1) r
  rw [← setCells_right xs r (t.set k v) (k + 1), List.set_append_right _ _ (by omega), Nat.add_sub_cancel_left, Nat.add_assoc]
def FSt.tail (s : FSt) : List AV := [.int .i64 s.pc, .bool s.z, .bool s.c, .int .i64 s.wa, .int .i64 s.wl]
theorem st_tail {s : FSt} (h : s.ok) (k : Nat) (ys : List AV) : setCells s.cells (31 + k) ys = s.x.map (AV.int .u64) ++ setCells s.tail k ys := by
 have := setCells_right (s.x.map (AV.int .u64)) ys s.tail k
 rw [List.length_map, h.len] at this
 exact this
def FSt.zero : FSt := ⟨List.replicate 31 0, 0, false, false, 0, 0⟩
theorem FSt.zero_ok : FSt.zero.ok := ⟨rfl, fun v hv => by rw [(List.mem_replicate.1 hv).2]; exact ⟨by decide, by decide⟩⟩
section
variable {H : AH} {id : Nat} {s : FSt} (h : s.ok) (a : At H id (.row s.cells))
include h a
theorem st_pc (v : Int) : astore H 1 (.ptr id 31) (.int .i64 v) = some (H.set id (.row ({ s with pc := v } : FSt).cells)) := by
 rw [a.store, if_pos ⟨rfl, rfl, rfl, by rw [FSt.len36 h]; decide⟩, st_tail h 0]; rfl
theorem st_z (v : Bool) : astore H 1 (.ptr id 32) (.bool v) = some (H.set id (.row ({ s with z := v } : FSt).cells)) := by
 rw [a.store, if_pos ⟨rfl, rfl, rfl, by rw [FSt.len36 h]; decide⟩, st_tail h 1]; rfl
theorem st_c (v : Bool) : astore H 1 (.ptr id 33) (.bool v) = some (H.set id (.row ({ s with c := v } : FSt).cells)) := by
 rw [a.store, if_pos ⟨rfl, rfl, rfl, by rw [FSt.len36 h]; decide⟩, st_tail h 2]; rfl
theorem st_w (x y : Int) : astore H 2 (.ptr id 34) (.agg [.int .i64 x, .int .i64 y]) = some (H.set id (.row ({ s with wa := x, wl := y } : FSt).cells)) := by
 rw [a.store, if_pos ⟨rfl, rfl, rfl, by rw [FSt.len36 h]; decide⟩, st_tail h 3]; rfl
theorem st_all : aload H 36 true (.ptr id 0) = some (.agg s.cells) := by rw [a.load, takeCells_whole (FSt.len36 h)]
theorem st_lpc : aload H 1 false (.ptr id 31) = some (.int .i64 s.pc) := by rw [a.load]; exact st_at h (k := 0) rfl
end
def acM (s : FSt) (i : List Int) (g0 g1 : Int) (f : Bool) : FSt :=
 if wrsM (gi i 0) = true ∧ betw (gi i 0) 21 28 = true then { s.put (gi i 3) (if f = true then 0 else 1) with wa := 0, wl := 0 } else
 if wrsM (gi i 0) = true then s else
 if betw (gi i 0) 25 28 = true then { (s.put (gi i 1) g0).put (gi i 4) g1 with wa := (whM s i).1, wl := (whM s i).2 } else
 if betw (gi i 0) 21 28 = true then { s.put (gi i 1) (uand .u64 g0 (bmask (IntKind.wrap .i64 (8 * (whM s i).2)))) with wa := (whM s i).1, wl := (whM s i).2 } else
 s.put (gi i 1) (uand .u64 g0 (bmask (IntKind.wrap .i64 (8 * (whM s i).2))))
theorem ok_w {s : FSt} (h : s.ok) (x y : Int) : ({ s with wa := x, wl := y } : FSt).ok := ⟨h.len, h.u⟩
theorem acM_ok {s : FSt} (h : s.ok) {i : List Int} {g0 g1 : Int} {f : Bool} (h0 : U64 g0) (h1 : U64 g1) : (acM s i g0 g1 f).ok := by
 unfold acM
 refine ite_P FSt.ok (fun _ => ok_w (FSt.put_ok h (by split <;> exact ⟨by decide, by decide⟩)) _ _) (fun _ => ?_)
 refine ite_P FSt.ok (fun _ => h) (fun _ => ?_)
 refine ite_P FSt.ok (fun _ => ok_w (FSt.put_ok (FSt.put_ok h h0) h1) _ _) (fun _ => ?_)
 refine ite_P FSt.ok (fun _ => ok_w (FSt.put_ok h (U64.wrap _)) _ _) (fun _ => FSt.put_ok h (U64.wrap _))
def OnlyAt (H H' : AH) (id : Nat) : Prop := H.n ≤ H'.n ∧ ∀ j, j < H.n → j ≠ id → H'.o j = H.o j
theorem OnlyAt.refl (H : AH) (id : Nat) : OnlyAt H H id := ⟨Nat.le_refl _, fun _ _ _ => rfl⟩
theorem OnlyAt.trans {a b c : AH} {id : Nat} (h : OnlyAt a b id) (k : OnlyAt b c id) : OnlyAt a c id := ⟨Nat.le_trans h.1 k.1, fun j hj hn => (k.2 j (Nat.lt_of_lt_of_le hj h.1) hn).trans (h.2 j hj hn)⟩
theorem OnlyAt.set (H : AH) (id : Nat) (x : AObj) : OnlyAt H (H.set id x) id := ⟨Nat.le_refl _, fun j _ hn => AH.set_ne H x hn⟩
theorem OnlyAt.ext {H H' : AH} (h : AH.Ext H H') (id : Nat) : OnlyAt H H' id := ⟨h.1, fun j hj _ => h.2 j hj⟩
theorem OnlyAt.at' {H H' : AH} {id k : Nat} {x : AObj} (h : OnlyAt H H' id) (a : At H k x) (hne : k ≠ id) : At H' k x := ⟨Nat.lt_of_lt_of_le a.1 h.1, (h.2 k a.1 hne).trans a.2⟩
section
variable {C : Ctx} (hGT : GTok C) (hT : Cl (ACall C) S.tab_Mch)
include hGT hT
theorem fput_ok {s : FSt} (h : s.ok) {H : AH} {Q : Post} {id : Nat} (a : At H id (.row s.cells)) {n v : Int} (hn : 0 ≤ n ∧ n ≤ 31) (hQ : ∀ H', At H' id (.row (s.put n v).cells) → OnlyAt H H' id → Q (.tup []) H') : ACall C K.f49 [.ptr id 0, .int .i64 n, .int .u64 v] H Q :=
 S.cl_f49 hT (fput_spec h a hn.1 hn.2 fun H' a' hn' ho => hQ H' a' ⟨Nat.le_of_eq hn'.symm, fun j _ hj => ho j hj⟩)
theorem access_ok {s : FSt} (h : s.ok) {i : List Int} (hl : i.length = 7) (hs : sndI i = true) {g0 g1 : Int} (u0 : U64 g0) (u1 : U64 g1) (f : Bool) {H : AH} {Q : Post} {id : Nat} (a : At H id (.row s.cells))
  (hQ : ∀ H', At H' id (.row (acM s i g0 g1 f).cells) → OnlyAt H H' id → Q (.tup []) H') : ACall C K.f48 [.ptr id 0, .agg (IV i), .agg [.int .u64 g0, .int .u64 g1], .bool f] H Q := by
 refine S.cl_f48 hT ?_
 have hs0 : (encM i).2 = 0 := by simpa [sndI] using hs
 have hD : 0 ≤ gi i 1 ∧ gi i 1 ≤ 31 := ins_reg hl hs0 (k := 1) (by omega) (by omega)
 have hM : 0 ≤ gi i 3 ∧ gi i 3 ≤ 31 := ins_reg hl hs0 (k := 3) (by omega) (by omega)
 have hE : 0 ≤ gi i 4 ∧ gi i 4 ≤ 31 := ins_reg hl hs0 (k := 4) (by omega) (by omega)
 have i0 := fun H => iv_ld hl (show 0 < 7 by omega) H
 have i1 := fun H => iv_ld hl (show 1 < 7 by omega) H
 have i3 := fun H => iv_ld hl (show 3 < 7 by omega) H
 have i4 := fun H => iv_ld hl (show 4 < 7 by omega) H
 unfold S.f48
 have hg : aboxv H false 2 (.agg [.int .u64 g0, .int .u64 g1]) = some (.fptr [.int .u64 g0, .int .u64 g1], H) := by unfold aboxv; rw [if_pos ⟨rfl, rfl⟩]; rfl
 simp only [iv_box hl, DoH_some, hg, iv_all hl, Do_of]
 refine where_ok hGT hT h hl hs a fun H1 hE1 => ?_
 have a1 := a.ext hE1
 simp only [abox, if_true, DoH_some]
 rw [store_new H1 _ [.int .i64 (whM s i).1, .int .i64 (whM s i).2] 2 rfl rfl rfl]
 have w2 := At.new H1 (.row [.int .i64 (whM s i).1, .int .i64 (whM s i).2])
 have a2 := a1.push (.row [.int .i64 (whM s i).1, .int .i64 (whM s i).2])
 have hne : H1.n ≠ id := Ne.symm a1.lt_new
 have o2 : OnlyAt H (H1.push (.row [.int .i64 (whM s i).1, .int .i64 (whM s i).2])) id := OnlyAt.ext (hE1.trans (AH.Ext.push H1 _)) id
 generalize H1.push (.row [.int .i64 (whM s i).1, .int .i64 (whM s i).2]) = H2 at *
 generalize H1.n = iw at *
 simp only [Do_of, iv_addr, i0]
 refine wrs_val hGT hT _ _ _ ?_
 simp only [Gd3_true, JoinP_def]
 have wall : ∀ {H}, At H iw (.row [.int .i64 (whM s i).1, .int .i64 (whM s i).2]) → aload H 2 true (.ptr iw 0) = some (.agg [.int .i64 (whM s i).1, .int .i64 (whM s i).2]) := fun w => by rw [w.load]; exact takeCells_whole (n := 2) (a := [.int .i64 (whM s i).1, .int .i64 (whM s i).2]) rfl
 have f0 : aiaddr (some 2) 1 (.fptr [AV.int .u64 g0, .int .u64 g1]) (.int .i64 0) = some (.fptr [AV.int .u64 g0, .int .u64 g1]) := rfl
 have f1 : aiaddr (some 2) 1 (.fptr [AV.int .u64 g0, .int .u64 g1]) (.int .i64 1) = some (.fptr [AV.int .u64 g1]) := rfl
 have l0 : ∀ H, aload H 1 false (.fptr [AV.int .u64 g0, .int .u64 g1]) = some (.int .u64 g0) := fun _ => rfl
 have l1 : ∀ H, aload H 1 false (.fptr [AV.int .u64 g1]) = some (.int .u64 g1) := fun _ => rfl
 have k2 : ∀ b : Bool, (b = true ↔ wrsM (gi i 0) = true ∧ betw (gi i 0) 21 28 = true) → S.f48_k2 (ACall C) (.ptr id 0) (.bool f) (.fptr (IV i)) (.fptr [.int .u64 g0, .int .u64 g1]) (.ptr iw 0) Q [.bool b] H2 := by
  intro b hb
  unfold acM at hQ
  simp only [S.f48_k2, sl_zero, Gd_true, iv_addr, i0, i1, i4, Do_of, JoinP_def, f0, f1, l0, l1, anilck]
  refine u_ite (fun h1 => ?_) (fun h1 => ?_)
  · rw [if_pos (hb.1 h1)] at hQ
    have k1 : ∀ v : Int, v = (if f = true then 0 else 1) → S.f48_k1 (ACall C) (.ptr id 0) (.fptr (IV i)) Q [.int .u64 v] H2 := by
     intro v hv
     simp only [S.f48_k1, sl_zero, iv_addr, i3, Do_of]
     refine fput_ok hGT hT h a2 hM fun H3 a3 o3 => ?_
     rw [show abuild [.int .i64 0, .int .i64 0] [] = some (.agg [.int .i64 0, .int .i64 0]) from rfl]
     simp only [Do_of, anilck, afaddr, Nat.zero_add]
     have hu : U64 v := by rw [hv]; split <;> exact ⟨by decide, by decide⟩
     rw [st_w (FSt.put_ok h hu) a3]
     simp only [Do_of]
     refine hQ _ ?_ (o2.trans (o3.trans (OnlyAt.set _ _ _)))
     rw [← hv]
     exact a3.set _
    refine u_ite (fun h2 => k1 0 (by rw [if_pos h2])) (fun h2 => k1 1 (by rw [h2]; rfl))
  rw [if_neg (fun e => by rw [hb.2 e] at h1; cases h1)] at hQ
  refine wrs_val hGT hT _ _ _ ?_
  simp only [Gd_true]
  refine u_ite (fun h2 => ?_) (fun h2 => ?_)
  · rw [if_pos h2] at hQ
    exact hQ _ a2 o2
  rw [if_neg (by rw [h2]; decide)] at hQ
  refine pair_val hGT hT _ _ _ ?_
  simp only [Gd_true]
  refine u_ite (fun h3 => ?_) (fun h3 => ?_)
  · rw [if_pos h3] at hQ
    refine fput_ok hGT hT h a2 hD fun H3 a3 o3 => ?_
    refine fput_ok hGT hT (FSt.put_ok h u0) a3 hE fun H4 a4 o4 => ?_
    have w4 := o4.at' (o3.at' w2 hne) hne
    rw [wall w4]
    simp only [Do_of, afaddr, Nat.zero_add]
    rw [st_w (FSt.put_ok (FSt.put_ok h u0) u1) a4]
    simp only [Do_of]
    exact hQ _ (a4.set _) (o2.trans (o3.trans (o4.trans (OnlyAt.set _ _ _))))
  rw [if_neg (by rw [h3]; decide)] at hQ
  simp only [afaddr, Nat.zero_add, Do_of]
  rw [w2.load, show takeCells [AV.int .i64 (whM s i).1, .int .i64 (whM s i).2] 1 1 false = some (.int .i64 (whM s i).2) from rfl]
  simp only [Do_of, abin_mul]
  refine bmask_val hGT hT _ _ _ ?_
  refine ⟨trivial, trivial, ?_⟩
  simp only [b_and, Do_of]
  refine fput_ok hGT hT h a2 hD fun H3 a3 o3 => ?_
  refine excl_val hGT hT _ _ _ ?_
  simp only [Gd_true]
  refine u_ite (fun h4 => ?_) (fun h4 => ?_)
  · rw [if_pos h4] at hQ
    rw [wall (o3.at' w2 hne)]
    simp only [Do_of, afaddr, Nat.zero_add]
    rw [st_w (FSt.put_ok h (U64.wrap _)) a3]
    simp only [Do_of]
    exact hQ _ (a3.set _) (o2.trans (o3.trans (OnlyAt.set _ _ _)))
  · rw [if_neg (by rw [h4]; decide)] at hQ
    exact hQ _ a3 (o2.trans o3)
 refine u_ite (fun h1 => ?_) (fun h1 => ?_)
 · refine excl_val hGT hT _ _ _ ?_
   exact k2 _ ⟨fun e => ⟨h1, e⟩, fun e => e.2⟩
 · exact k2 _ ⟨fun e => (by cases e), fun e => by rw [e.1] at h1; cases h1⟩
end
end Rb
