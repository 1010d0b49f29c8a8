/- A part of the proof (part 5): see the last text. -/
import Derived.Test.YtggbkidckoecfaaGreatDoorRb4
import Derived.Test.YtggbkidckoecfaaGreatDoorRb2
import Derived.KernelRfl
import Derived.LaidLaws
import Derived.LaidHandle
import Derived.Lib.LaidU8
import Derived.Deep.DeepLaidRun
import Derived.Handed
import Derived.JoinedOf
import Derived.SevenTiedAt
import Derived.ProofKit
import Derived.Lib.Space
import Derived.ChangeArms
import Derived.SizedLaws
import Derived.Test.YtggbkidckoecfaaGreatDoorRb3
import Derived.Lib.DecodeN
set_option linter.unusedVariables false
set_option linter.unusedSimpArgs false
namespace Go.Proofs.YtggbkidckoecfaaGreatDoor.rb
open Rb
noncomputable section
def RbM190 : List (Nat × List AV × AV) := [
  (96, [.str [118,97,114,32,116,104,114,101,97,100,32,115,116,114,117,99,116,32,117,110,105,111,110,32,112,97,99,107,101,100,32,117,56,32,117,49,54,32,117,51,50,32,117,54,52,32,97,56,32,97,49,54,32,97,51,50,32,97,54,52,32,97,49,50,56,32,108,101,116,32,115,101,116,32,119,114,105,116,101,32,115,116,111,114,101,32,108,111,97,100,50,32,115,116,111,114,101,50,32,102,101,110,99,101,32,105,102,32,101,108,115,101,32,119,104,105,108,101,32,112,114,105,110,116,32,114,101,97,100,32,108,111,97,100,32,97,100,100,32,115,119,97,112,32,99,97,115,32,114,108,120,32,97,99,113,32,114,101,108,32,115,99]], .lst .dead 34 [.str [118,97,114],.str [116,104,114,101,97,100],.str [115,116,114,117,99,116],.str [117,110,105,111,110],.str [112,97,99,107,101,100],.str [117,56],.str [117,49,54],.str [117,51,50],.str [117,54,52],.str [97,56],.str [97,49,54],.str [97,51,50],.str [97,54,52],.str [97,49,50,56],.str [108,101,116],.str [115,101,116],.str [119,114,105,116,101],.str [115,116,111,114,101],.str [108,111,97,100,50],.str [115,116,111,114,101,50],.str [102,101,110,99,101],.str [105,102],.str [101,108,115,101],.str [119,104,105,108,101],.str [112,114,105,110,116],.str [114,101,97,100],.str [108,111,97,100],.str [97,100,100],.str [115,119,97,112],.str [99,97,115],.str [114,108,120],.str [97,99,113],.str [114,101,108],.str [115,99]]),
  (128, [.lst .dead 34 [.str [118,97,114],.str [116,104,114,101,97,100],.str [115,116,114,117,99,116],.str [117,110,105,111,110],.str [112,97,99,107,101,100],.str [117,56],.str [117,49,54],.str [117,51,50],.str [117,54,52],.str [97,56],.str [97,49,54],.str [97,51,50],.str [97,54,52],.str [97,49,50,56],.str [108,101,116],.str [115,101,116],.str [119,114,105,116,101],.str [115,116,111,114,101],.str [108,111,97,100,50],.str [115,116,111,114,101,50],.str [102,101,110,99,101],.str [105,102],.str [101,108,115,101],.str [119,104,105,108,101],.str [112,114,105,110,116],.str [114,101,97,100],.str [108,111,97,100],.str [97,100,100],.str [115,119,97,112],.str [99,97,115],.str [114,108,120],.str [97,99,113],.str [114,101,108],.str [115,99]],.str [120]], .int .i64 (.negSucc 0)),
  (128, [.lst .dead 34 [.str [118,97,114],.str [116,104,114,101,97,100],.str [115,116,114,117,99,116],.str [117,110,105,111,110],.str [112,97,99,107,101,100],.str [117,56],.str [117,49,54],.str [117,51,50],.str [117,54,52],.str [97,56],.str [97,49,54],.str [97,51,50],.str [97,54,52],.str [97,49,50,56],.str [108,101,116],.str [115,101,116],.str [119,114,105,116,101],.str [115,116,111,114,101],.str [108,111,97,100,50],.str [115,116,111,114,101,50],.str [102,101,110,99,101],.str [105,102],.str [101,108,115,101],.str [119,104,105,108,101],.str [112,114,105,110,116],.str [114,101,97,100],.str [108,111,97,100],.str [97,100,100],.str [115,119,97,112],.str [99,97,115],.str [114,108,120],.str [97,99,113],.str [114,101,108],.str [115,99]],.str [97]], .int .i64 (.negSucc 0)),
  (151, [.agg [.int .i64 (.ofNat 1),.int .i64 (.ofNat 2),.bool false,.lst .dead 0 [],.int .i64 (.ofNat 0),.lst .dead 0 []]], .int .i64 (.ofNat 1)),
  (177, [.agg [.int .i64 (.ofNat 1),.int .i64 (.ofNat 2),.bool false,.lst .dead 0 [],.int .i64 (.ofNat 0),.lst .dead 0 []]], .bool true),
  (110, [.lst .dead 2 [.int .i64 (.ofNat 4),.int .u64 (.ofNat 0),.str [],.int .i64 (.ofNat 0),.int .i64 (.ofNat 0),.str [120],.lst .dead 0 [],.lst .dead 0 [],.int .i64 (.ofNat 1),.int .u64 (.ofNat 3),.str [],.int .i64 (.ofNat 0),.int .i64 (.ofNat 0),.str [],.lst .dead 0 [],.lst .dead 0 []]], .int .i64 (.ofNat 1)),
  (110, [.lst .dead 1 [.int .i64 (.ofNat 2),.int .u64 (.ofNat 0),.str [97],.int .i64 (.ofNat 0),.int .i64 (.ofNat 0),.str [],.lst .dead 0 [],.lst .dead 0 []]], .int .i64 (.ofNat 0))]
def RbM191 : List (Nat × List AV × AV) := [
  (59, [.str [118,97,114,32,120,32,117,49,54,32,59,32,116,104,114,101,97,100,32,123,32,108,101,116,32,97,32,61,32,40,32,114,101,97,100,32,120,32,43,32,51,32,41,32,59,32,119,114,105,116,101,32,120,32,61,32,97,32,59,32,112,114,105,110,116,32,97,32,59,32,125]], .tup [.agg [.lst .dead 1 [.str [120],.int .i64 (.ofNat 1),.int .i64 (.ofNat 2),.bool false,.lst .dead 0 [],.int .i64 (.ofNat 0),.lst .dead 0 []],.lst .dead 1 [.lst .dead 3 [.int .i64 (.ofNat 1),.int .i64 (.ofNat 1),.str [97],.str [],.int .i64 (.ofNat 0),.str [],.lst .dead 0 [],.lst .dead 1 [.int .i64 (.ofNat 3),.int .u64 (.ofNat 0),.str [],.int .i64 (.ofNat 1),.int .i64 (.ofNat 0),.str [],.lst .dead 0 [],.lst .dead 2 [.int .i64 (.ofNat 4),.int .u64 (.ofNat 0),.str [],.int .i64 (.ofNat 0),.int .i64 (.ofNat 0),.str [120],.lst .dead 0 [],.lst .dead 0 [],.int .i64 (.ofNat 1),.int .u64 (.ofNat 3),.str [],.int .i64 (.ofNat 0),.int .i64 (.ofNat 0),.str [],.lst .dead 0 [],.lst .dead 0 []]],.lst .dead 0 [],.lst .dead 0 [],.int .i64 (.ofNat 3),.int .i64 (.ofNat 1),.str [],.str [],.int .i64 (.ofNat 0),.str [120],.lst .dead 0 [],.lst .dead 1 [.int .i64 (.ofNat 2),.int .u64 (.ofNat 0),.str [97],.int .i64 (.ofNat 0),.int .i64 (.ofNat 0),.str [],.lst .dead 0 [],.lst .dead 0 []],.lst .dead 0 [],.lst .dead 0 [],.int .i64 (.ofNat 10),.int .i64 (.ofNat 1),.str [],.str [],.int .i64 (.ofNat 0),.str [],.lst .dead 0 [],.lst .dead 1 [.int .i64 (.ofNat 2),.int .u64 (.ofNat 0),.str [97],.int .i64 (.ofNat 0),.int .i64 (.ofNat 0),.str [],.lst .dead 0 [],.lst .dead 0 []],.lst .dead 0 [],.lst .dead 0 []]]],.agg [.int .i64 (.ofNat 0),.int .i64 (.ofNat 0)]]),
  (152, [.agg [.int .i64 (.ofNat 1),.int .i64 (.ofNat 2),.bool false,.lst .dead 0 [],.int .i64 (.ofNat 0),.lst .dead 0 []]], .int .i64 (.ofNat 0))]
def RbM192 : List (Nat × List AV × AV) := [
  (93, [.agg [.int .i64 (.ofNat 1),.int .i64 (.ofNat 2),.bool false,.lst .dead 0 [],.int .i64 (.ofNat 0),.lst .dead 0 []]], .tup [.agg [.int .i64 (.ofNat 2),.int .i64 (.ofNat 2)],.int .i64 (.ofNat 0)]),
  (133, [.lst .dead 1 [.str [120],.int .i64 (.ofNat 1),.int .i64 (.ofNat 2),.bool false,.lst .dead 0 [],.int .i64 (.ofNat 0),.lst .dead 0 []],.agg [.str [120],.lst .dead 0 []]], .tup [.agg [.int .i64 (.ofNat 1),.int .i64 (.ofNat 2),.bool false,.lst .dead 0 [],.int .i64 (.ofNat 0),.lst .dead 0 []],.int .i64 (.ofNat 0)])]
def RbM193 : List (Nat × List AV × AV) := [
  (18, [.agg [.lst .dead 1 [.str [120],.int .i64 (.ofNat 1),.int .i64 (.ofNat 2),.bool false,.lst .dead 0 [],.int .i64 (.ofNat 0),.lst .dead 0 []],.lst .dead 1 [.lst .dead 3 [.int .i64 (.ofNat 1),.int .i64 (.ofNat 1),.str [97],.str [],.int .i64 (.ofNat 0),.str [],.lst .dead 0 [],.lst .dead 1 [.int .i64 (.ofNat 3),.int .u64 (.ofNat 0),.str [],.int .i64 (.ofNat 1),.int .i64 (.ofNat 0),.str [],.lst .dead 0 [],.lst .dead 2 [.int .i64 (.ofNat 4),.int .u64 (.ofNat 0),.str [],.int .i64 (.ofNat 0),.int .i64 (.ofNat 0),.str [120],.lst .dead 0 [],.lst .dead 0 [],.int .i64 (.ofNat 1),.int .u64 (.ofNat 3),.str [],.int .i64 (.ofNat 0),.int .i64 (.ofNat 0),.str [],.lst .dead 0 [],.lst .dead 0 []]],.lst .dead 0 [],.lst .dead 0 [],.int .i64 (.ofNat 3),.int .i64 (.ofNat 1),.str [],.str [],.int .i64 (.ofNat 0),.str [120],.lst .dead 0 [],.lst .dead 1 [.int .i64 (.ofNat 2),.int .u64 (.ofNat 0),.str [97],.int .i64 (.ofNat 0),.int .i64 (.ofNat 0),.str [],.lst .dead 0 [],.lst .dead 0 []],.lst .dead 0 [],.lst .dead 0 [],.int .i64 (.ofNat 10),.int .i64 (.ofNat 1),.str [],.str [],.int .i64 (.ofNat 0),.str [],.lst .dead 0 [],.lst .dead 1 [.int .i64 (.ofNat 2),.int .u64 (.ofNat 0),.str [97],.int .i64 (.ofNat 0),.int .i64 (.ofNat 0),.str [],.lst .dead 0 [],.lst .dead 0 []],.lst .dead 0 [],.lst .dead 0 []]]]], .agg [.int .i64 (.ofNat 0),.int .i64 (.ofNat 0)]),
  (32, [.lst .dead 1 [.str [120],.int .i64 (.ofNat 1),.int .i64 (.ofNat 2),.bool false,.lst .dead 0 [],.int .i64 (.ofNat 0),.lst .dead 0 []]], .tup [.lst .dead 1 [.str [120],.int .i64 (.ofNat 65536),.int .i64 (.ofNat 2)],.int .i64 (.ofNat 2),.int .i64 (.ofNat 0)])]
def RbM194 : List (Nat × List AV × AV) := [
  (138, [.lst .dead 1 [.str [120],.int .i64 (.ofNat 1),.int .i64 (.ofNat 2),.bool false,.lst .dead 0 [],.int .i64 (.ofNat 0),.lst .dead 0 []],.agg [.str [120],.lst .dead 0 []],.lst .dead 0 []], .tup [.agg [.int .i64 (.ofNat 65536),.int .i64 (.ofNat 2),.int .i64 (.ofNat 1),.bool false,.int .i64 (.ofNat 0),.int .i64 (.ofNat 0)],.int .i64 (.ofNat 0)])]
def RbM195 : List (Nat × List AV × AV) := [
  (8, [], .bool true)]
theorem RbM190_run : forced (allW (runG []) RbM190) = true := by kernel_rfl
theorem RbM190_ok : MemoOK (ACall C) (memL (RbM190 ++ [])) := memL_appW gtC (runG_ok memL_nil) memL_nil (of_forced RbM190_run)
theorem RbM191_run : forced (allW (runG (RbM190 ++ [])) RbM191) = true := by kernel_rfl
theorem RbM191_ok : MemoOK (ACall C) (memL (RbM191 ++ (RbM190 ++ []))) := memL_appW gtC (runG_ok RbM190_ok) RbM190_ok (of_forced RbM191_run)
theorem RbM192_run : forced (allW (runG (RbM191 ++ (RbM190 ++ []))) RbM192) = true := by kernel_rfl
theorem RbM192_ok : MemoOK (ACall C) (memL (RbM192 ++ (RbM191 ++ (RbM190 ++ [])))) := memL_appW gtC (runG_ok RbM191_ok) RbM191_ok (of_forced RbM192_run)
theorem RbM193_run : forced (allW (runG (RbM192 ++ (RbM191 ++ (RbM190 ++ [])))) RbM193) = true := by kernel_rfl
theorem RbM193_ok : MemoOK (ACall C) (memL (RbM193 ++ (RbM192 ++ (RbM191 ++ (RbM190 ++ []))))) := memL_appW gtC (runG_ok RbM192_ok) RbM192_ok (of_forced RbM193_run)
theorem RbM194_run : forced (allW (runG (RbM193 ++ (RbM192 ++ (RbM191 ++ (RbM190 ++ []))))) RbM194) = true := by kernel_rfl
theorem RbM194_ok : MemoOK (ACall C) (memL (RbM194 ++ (RbM193 ++ (RbM192 ++ (RbM191 ++ (RbM190 ++ [])))))) := memL_appW gtC (runG_ok RbM193_ok) RbM193_ok (of_forced RbM194_run)
theorem RbM195_run : forced (allW (runG (RbM194 ++ (RbM193 ++ (RbM192 ++ (RbM191 ++ (RbM190 ++ [])))))) RbM195) = true := by kernel_rfl
theorem RbM195_ok : MemoOK (ACall C) (memL (RbM195 ++ (RbM194 ++ (RbM193 ++ (RbM192 ++ (RbM191 ++ (RbM190 ++ []))))))) := memL_appW gtC (runG_ok RbM194_ok) RbM194_ok (of_forced RbM195_run)
theorem RbM19_root0 : forced (allW (runG (RbM195 ++ (RbM194 ++ (RbM193 ++ (RbM192 ++ (RbM191 ++ (RbM190 ++ []))))))) [(8, [], .bool true)]) = true := by kernel_rfl
theorem RbM19_rootok0 : MemoOK (ACall C) (memL [(8, [], .bool true)]) := memL_appW gtC (runG_ok RbM195_ok) memL_nil (N := [(8, [], .bool true)]) (of_forced RbM19_root0)
end
end Go.Proofs.YtggbkidckoecfaaGreatDoor.rb

namespace Rb.K
abbrev f5 : Nat := 5
abbrev f6 : Nat := 6
abbrev f8 : Nat := 8
abbrev f12 : Nat := 12
abbrev f18 : Nat := 18
abbrev f19 : Nat := 19
abbrev f32 : Nat := 32
abbrev f45 : Nat := 45
abbrev f46 : Nat := 46
abbrev f47 : Nat := 47
abbrev f48 : Nat := 48
abbrev f67 : Nat := 67
abbrev f70 : Nat := 70
abbrev f71 : Nat := 71
abbrev f72 : Nat := 72
abbrev f73 : Nat := 73
abbrev f74 : Nat := 74
abbrev f75 : Nat := 75
abbrev f76 : Nat := 76
abbrev f77 : Nat := 77
abbrev f78 : Nat := 78
abbrev f93 : Nat := 93
abbrev f94 : Nat := 94
abbrev f95 : Nat := 95
abbrev f96 : Nat := 96
abbrev f97 : Nat := 97
abbrev f98 : Nat := 98
abbrev f99 : Nat := 99
abbrev f100 : Nat := 100
abbrev f101 : Nat := 101
abbrev f102 : Nat := 102
abbrev f103 : Nat := 103
abbrev f104 : Nat := 104
abbrev f105 : Nat := 105
abbrev f106 : Nat := 106
abbrev f107 : Nat := 107
abbrev f108 : Nat := 108
abbrev f109 : Nat := 109
abbrev f110 : Nat := 110
abbrev f111 : Nat := 111
abbrev f125 : Nat := 125
abbrev f126 : Nat := 126
abbrev f127 : Nat := 127
abbrev f128 : Nat := 128
abbrev f131 : Nat := 131
abbrev f132 : Nat := 132
abbrev f133 : Nat := 133
abbrev f134 : Nat := 134
abbrev f135 : Nat := 135
abbrev f136 : Nat := 136
abbrev f137 : Nat := 137
abbrev f138 : Nat := 138
abbrev f139 : Nat := 139
abbrev f140 : Nat := 140
abbrev f141 : Nat := 141
abbrev f142 : Nat := 142
abbrev f151 : Nat := 151
abbrev f152 : Nat := 152
abbrev f153 : Nat := 153
abbrev f154 : Nat := 154
abbrev f155 : Nat := 155
abbrev f156 : Nat := 156
abbrev f157 : Nat := 157
abbrev f159 : Nat := 159
abbrev f160 : Nat := 160
abbrev f161 : Nat := 161
abbrev f162 : Nat := 162
abbrev f163 : Nat := 163
abbrev f164 : Nat := 164
abbrev f165 : Nat := 165
abbrev f166 : Nat := 166
abbrev f176 : Nat := 176
abbrev f177 : Nat := 177
abbrev f178 : Nat := 178
abbrev f179 : Nat := 179
abbrev f180 : Nat := 180
abbrev f181 : Nat := 181
abbrev f182 : Nat := 182
abbrev f183 : Nat := 183
abbrev f184 : Nat := 184
abbrev f185 : Nat := 185
abbrev f188 : Nat := 188
abbrev f189 : Nat := 189
abbrev f190 : Nat := 190
abbrev f203 : Nat := 203
abbrev f209 : Nat := 209
end Rb.K

namespace Rb.S
open Go
def f5_k1 (Φ : Calls') (s58 : List AV × AH) (L59 : (List AV × AH) → Prop) (Q : Post) : List AV → AH → Prop := fun j62 H63 =>
 Do (abin .add (sl s58.1 0) (.int .i64 1)) fun x90 =>
 L59 ([x90], H63)
def f5_k2 (Φ : Calls') (s58 : List AV × AH) (L59 : (List AV × AH) → Prop) (Q : Post) : List AV → AH → Prop := fun j77 H78 =>
 Gd (sl j77 0) true (
 Q (.bool false) H78) (
 JoinP (f5_k1 Φ s58 L59 Q) [] H78)
def f5_k3 (Φ : Calls') (x15 x72 : AV) (s58 : List AV × AH) (L59 : (List AV × AH) → Prop) (Q : Post) : List AV → AH → Prop := fun j79 H80 =>
 Gd3 (sl j79 0) false (
 Do (alen false x72) fun x85 =>
 Do (aslice 1 x15 none (some x85) none) fun x86 =>
Φ K.f12 [x72, x86] H80 fun x87 H88 =>
 Do (aun .not x87) fun x89 =>
 JoinP (f5_k2 Φ s58 L59 Q) [x89] H88) (
 JoinP (f5_k2 Φ s58 L59 Q) [(.bool true)] H80) (
 False)
def f5_k4 (Φ : Calls') (Q : Post) : List AV → AH → Prop := fun j56 H57 =>
Φ K.f8 [] H57 fun x91 H92 =>
 Q x91 H92
def f5_l5 (Φ : Calls') (a1 a3 x1 x15 : AV) (j3 : List AV) (Q : Post) : (List AV × AH) → ((List AV × AH) → Prop) → Prop := fun s58 L59 =>
 Do (alen false (sl j3 0)) fun x60 =>
 Do (abin .lss (sl s58.1 0) x60) fun x61 =>
 Gd x61 true (
 Do (aload s58.2 2 true x1) fun x64 =>
 Do (aslice 2 (sl j3 0) none (some (sl s58.1 0)) none) fun x65 =>
 Do (abin .rem a3 (.int .u16 2000)) fun x66 =>
 Do (aconv .i64 x66) fun x67 =>
Φ K.f6 [x64, a1, x65, x67] s58.2 fun x68 H69 =>
 Do (aextract 0 x68) fun x70 =>
 Do (aextract 1 x68) fun x71 =>
 Do (aextract 2 x68) fun x72 =>
 Do (aextract 3 x68) fun x73 =>
 DoH (some (abox H69 true [.int .i64 0, .int .i64 0, .int .i64 0, .int .i64 0, .int .i64 0, .int .i64 0, .bool false, .int .i64 0, .int .i64 0, .int .i64 0, .int .i64 0, .int .u64 0, .int .u64 0])) fun x74 H75 =>
(aload H75 2 true x1 = some x64) ∧
(Do (astore H75 13 x74 x70) fun H76 =>
 Do (abin .neq x73 (.int .i64 0)) fun x81 =>
 Gd3 x81 false (
 Do (alen false x72) fun x82 =>
 Do (alen false x15) fun x83 =>
 Do (abin .gtr x82 x83) fun x84 =>
 JoinP (f5_k3 Φ x15 x72 s58 L59 Q) [x84] H76) (
 JoinP (f5_k3 Φ x15 x72 s58 L59 Q) [(.bool true)] H76) (
 False))) (
 JoinP (f5_k4 Φ Q) [] s58.2)
def f5_k6 (Φ : Calls') (a1 a3 x1 x15 : AV) (j3 : List AV) (Q : Post) : List AV → AH → Prop := fun j40 H41 =>
 LoopP (f5_l5 Φ a1 a3 x1 x15 j3 Q) ([(.int .i64 0)], H41)
def f5_k7 (Φ : Calls') (a1 a3 x1 x15 : AV) (j3 : List AV) (Q : Post) : List AV → AH → Prop := fun j42 H43 =>
 Gd (sl j42 0) true (
 Q (.bool false) H43) (
 JoinP (f5_k6 Φ a1 a3 x1 x15 j3 Q) [] H43)
def f5_k8 (Φ : Calls') (a1 a3 x1 x15 x30 : AV) (j3 : List AV) (Q : Post) : List AV → AH → Prop := fun j50 H51 =>
 Gd3 (sl j50 0) false (
Φ K.f12 [x15, x30] H51 fun x53 H54 =>
 Do (aun .not x53) fun x55 =>
 JoinP (f5_k7 Φ a1 a3 x1 x15 j3 Q) [x55] H54) (
 JoinP (f5_k7 Φ a1 a3 x1 x15 j3 Q) [(.bool true)] H51) (
 False)
def f5_k9 (Φ : Calls') (a1 a3 x1 x14 x15 x29 x30 : AV) (j3 : List AV) (Q : Post) : List AV → AH → Prop := fun j44 H45 =>
 Gd3 (sl j44 0) false (
 Do (abin .neq x14 x29) fun x52 =>
 JoinP (f5_k8 Φ a1 a3 x1 x15 x30 j3 Q) [x52] H45) (
 JoinP (f5_k8 Φ a1 a3 x1 x15 x30 j3 Q) [(.bool true)] H45) (
 False)
def f5_k10 (Φ : Calls') (a1 a3 a4 x1 : AV) (Q : Post) : List AV → AH → Prop := fun j3 H4 =>
 Do (aload H4 2 true x1) fun x8 =>
 Do (abin .rem a3 (.int .u16 2000)) fun x9 =>
 Do (aconv .i64 x9) fun x10 =>
Φ K.f6 [x8, a1, (sl j3 0), x10] H4 fun x11 H12 =>
 Do (aextract 0 x11) fun x13 =>
 Do (aextract 1 x11) fun x14 =>
 Do (aextract 2 x11) fun x15 =>
 Do (aextract 3 x11) fun x16 =>
 DoH (some (abox H12 true [.int .i64 0, .int .i64 0, .int .i64 0, .int .i64 0, .int .i64 0, .int .i64 0, .bool false, .int .i64 0, .int .i64 0, .int .i64 0, .int .i64 0, .int .u64 0, .int .u64 0])) fun x17 H18 =>
 Do (astore H18 13 x17 x13) fun H19 =>
 Do (aload H19 2 true x1) fun x20 =>
 Do (abin .rem a3 (.int .u16 2000)) fun x21 =>
 Do (aconv .i64 x21) fun x22 =>
 Do (abin .rem a4 (.int .u16 2000)) fun x23 =>
 Do (aconv .i64 x23) fun x24 =>
 Do (abin .add x22 x24) fun x25 =>
Φ K.f6 [x20, a1, (sl j3 0), x25] H19 fun x26 H27 =>
 Do (aextract 0 x26) fun x28 =>
 Do (aextract 1 x26) fun x29 =>
 Do (aextract 2 x26) fun x30 =>
 Do (aextract 3 x26) fun x31 =>
 DoH (some (abox H27 true [.int .i64 0, .int .i64 0, .int .i64 0, .int .i64 0, .int .i64 0, .int .i64 0, .bool false, .int .i64 0, .int .i64 0, .int .i64 0, .int .i64 0, .int .u64 0, .int .u64 0])) fun x32 H33 =>
 Do (astore H33 13 x32 x28) fun H34 =>
 Do (abin .neq x16 (.int .i64 0)) fun x35 =>
 Gd x35 true (
Φ K.f8 [] H34 fun x36 H37 =>
 Gd3 x36 true (
 Do (abin .eql x31 (.int .i64 0)) fun x38 =>
 Gd3 x38 false (
 Do (abin .eql x31 x16) fun x39 =>
 Q x39 H37) (
 Q (.bool true) H37) (
 False)) (
 Q (.bool false) H37) (
 False)) (
 Do (abin .neq x31 (.int .i64 0)) fun x46 =>
 Gd3 x46 false (
 Do (aload H34 13 true x32) fun x47 =>
 Do (aload H34 13 true x17) fun x48 =>
 Do (aeqAgg true [.n, .n, .n, .n, .n, .n, .b, .n, .n, .n, .n, .n, .n] x47 x48) fun x49 =>
 JoinP (f5_k9 Φ a1 a3 x1 x14 x15 x29 x30 j3 Q) [x49] H34) (
 JoinP (f5_k9 Φ a1 a3 x1 x14 x15 x29 x30 j3 Q) [(.bool true)] H34) (
 False))
def f5 (Φ : Calls') (a0 a1 a2 a3 a4 : AV) (H : AH) (Q : Post) : Prop :=
 DoH (aboxv H false 2 a0) fun x1 H2 =>
 Do (alen false a2) fun x5 =>
 Do (abin .gtr x5 (.int .i64 30)) fun x6 =>
 Gd x6 true (
 Do (aslice 2 a2 none (some (.int .i64 30)) none) fun x7 =>
 JoinP (f5_k10 Φ a1 a3 a4 x1 Q) [x7] H2) (
 JoinP (f5_k10 Φ a1 a3 a4 x1 Q) [a2] H2)
noncomputable def ir_f5 : AFunc := decF Go.Proofs.YtggbkidckoecfaaGreatDoor.rb.C ⟨5,[11,15,20],[[19]],none,[],[]⟩
theorem eq_f5 (Φ : Calls') (a0 a1 a2 a3 a4 : AV) (H : AH) (Q : Post) : fnE1 Φ ir_f5 [a0, a1, a2, a3, a4] H Q = f5 Φ a0 a1 a2 a3 a4 H Q := by kernel_rfl
def f6_k1 (Φ : Calls') (a1 a2 a3 x1 x3 : AV) (Q : Post) : List AV → AH → Prop := fun j19 H20 =>
 Do (aload H20 2 true x1) fun x31 =>
Φ K.f19 [x31, a1, a2, a3] H20 fun x32 H33 =>
 Do (aextract 0 x32) fun x34 =>
 Do (aextract 1 x32) fun x35 =>
 Do (aextract 2 x32) fun x36 =>
 Do (aextract 3 x32) fun x37 =>
 Do (astore H33 13 x3 x34) fun H38 =>
 Do (aload H38 13 true x3) fun x39 =>
 Q (.tup [x39, x35, x36, x37]) H38
def f6_k2 (Φ : Calls') (a1 a2 a3 x1 x3 : AV) (Q : Post) : List AV → AH → Prop := fun j21 H22 =>
 Gd (sl j21 0) true (
 Do (abuild [.int .i64 0, .int .i64 0, .int .i64 0, .int .i64 0, .int .i64 0, .int .i64 0, .bool false, .int .i64 0, .int .i64 0, .int .i64 0, .int .i64 0, .int .u64 0, .int .u64 0] []) fun x28 =>
 Do (astore H22 13 x3 x28) fun H29 =>
 Do (aload H29 13 true x3) fun x30 =>
 Q (.tup [x30, (.int .i64 0), (.lst .nil 0 []), (.int .i64 1)]) H29) (
 JoinP (f6_k1 Φ a1 a2 a3 x1 x3 Q) [] H22)
def f6 (Φ : Calls') (a0 a1 a2 a3 : AV) (H : AH) (Q : Post) : Prop :=
 DoH (aboxv H false 2 a0) fun x1 H2 =>
 DoH (some (abox H2 true [.int .i64 0, .int .i64 0, .int .i64 0, .int .i64 0, .int .i64 0, .int .i64 0, .bool false, .int .i64 0, .int .i64 0, .int .i64 0, .int .i64 0, .int .u64 0, .int .u64 0])) fun x3 H4 =>
 Do (aload H4 2 true x1) fun x5 =>
Φ K.f18 [x5] H4 fun x6 H7 =>
 DoH (some (abox H7 true [.int .i64 0, .int .i64 0])) fun x8 H9 =>
 Do (astore H9 2 x8 x6) fun H10 =>
 Do (afaddr 1 x8) fun x11 =>
 Do (aload H10 1 false x11) fun x12 =>
 Do (abin .neq x12 (.int .i64 0)) fun x13 =>
 Gd x13 true (
 Do (abuild [.int .i64 0, .int .i64 0, .int .i64 0, .int .i64 0, .int .i64 0, .int .i64 0, .bool false, .int .i64 0, .int .i64 0, .int .i64 0, .int .i64 0, .int .u64 0, .int .u64 0] []) fun x14 =>
 Do (afaddr 1 x8) fun x15 =>
 Do (aload H10 1 false x15) fun x16 =>
 Do (astore H10 13 x3 x14) fun H17 =>
(aload H17 1 false x15 = some x16) ∧
(Do (aload H17 13 true x3) fun x18 =>
 Q (.tup [x18, (.int .i64 0), (.lst .nil 0 []), x16]) H17)) (
 Do (abin .lss a1 (.int .i64 0)) fun x23 =>
 Gd3 x23 false (
 Do (afaddr 1 x1) fun x24 =>
 Do (aload H10 1 false x24) fun x25 =>
 Do (alen false x25) fun x26 =>
 Do (abin .geq a1 x26) fun x27 =>
 JoinP (f6_k2 Φ a1 a2 a3 x1 x3 Q) [x27] H10) (
 JoinP (f6_k2 Φ a1 a2 a3 x1 x3 Q) [(.bool true)] H10) (
 False))
noncomputable def ir_f6 : AFunc := decF Go.Proofs.YtggbkidckoecfaaGreatDoor.rb.C ⟨6,[8,12],[],none,[],[]⟩
theorem eq_f6 (Φ : Calls') (a0 a1 a2 a3 : AV) (H : AH) (Q : Post) : fnE1 Φ ir_f6 [a0, a1, a2, a3] H Q = f6 Φ a0 a1 a2 a3 H Q := by kernel_rfl
def f12_l1 (Φ : Calls') (a0 a1 : AV) (Q : Post) : (List AV × AH) → ((List AV × AH) → Prop) → Prop := fun s4 L5 =>
 Do (alen false a0) fun x6 =>
 Do (abin .lss (sl s4.1 0) x6) fun x7 =>
 Gd x7 true (
 Do (aiaddr none 1 a0 (sl s4.1 0)) fun x8 =>
 Do (aload s4.2 1 false x8) fun x9 =>
 Do (aiaddr none 1 a1 (sl s4.1 0)) fun x10 =>
 Do (aload s4.2 1 false x10) fun x11 =>
 Do (abin .neq x9 x11) fun x12 =>
 Gd x12 true (
 Q (.bool false) s4.2) (
 Do (abin .add (sl s4.1 0) (.int .i64 1)) fun x13 =>
 L5 ([x13], s4.2))) (
 Q (.bool true) s4.2)
def f12 (Φ : Calls') (a0 a1 : AV) (H : AH) (Q : Post) : Prop :=
 Do (alen false a0) fun x1 =>
 Do (alen false a1) fun x2 =>
 Do (abin .neq x1 x2) fun x3 =>
 Gd x3 true (
 Q (.bool false) H) (
 LoopP (f12_l1 Φ a0 a1 Q) ([(.int .i64 0)], H))
noncomputable def ir_f12 : AFunc := decF Go.Proofs.YtggbkidckoecfaaGreatDoor.rb.C ⟨12,[],[[5]],none,[],[]⟩
theorem eq_f12 (Φ : Calls') (a0 a1 : AV) (H : AH) (Q : Post) : fnE1 Φ ir_f12 [a0, a1] H Q = f12 Φ a0 a1 H Q := by kernel_rfl
def f18_k1 (Φ : Calls') (x3 : AV) (Q : Post) : List AV → AH → Prop := fun j34 H35 =>
 Do (abuild [.int .i64 0, .int .i64 0] []) fun x59 =>
 Do (astore H35 2 x3 x59) fun H60 =>
 Do (aload H60 2 true x3) fun x61 =>
 Q x61 H60
def f18_l2 (Φ : Calls') (x1 x3 x37 x38 : AV) (Q : Post) : (List AV × AH) → ((List AV × AH) → Prop) → Prop := fun s39 L40 =>
 Do (abin .lss (sl s39.1 0) x38) fun x41 =>
 Gd x41 true (
 Do (aiaddr none 1 x37 (sl s39.1 0)) fun x42 =>
 Do (aload s39.2 1 false x42) fun x43 =>
 Do (afaddr 0 x1) fun x44 =>
 Do (aload s39.2 1 false x44) fun x45 =>
 Do (abuild [.lst .nil 0 [], .lst .nil 0 [], .int .i64 0, .int .i64 0, .int .i64 0, .int .i64 0] [(0, 1, x45)]) fun x46 =>
 DoH (aboxv s39.2 true 6 x46) fun x47 H48 =>
Φ K.f46 [x47, x43, (.int .i64 1)] H48 fun x49 H50 =>
Φ K.f47 [x47] H50 fun x51 H52 =>
 Gd x51 true (
 Do (anilck x47) fun x53 =>
 Do (afaddr 4 x53) fun x54 =>
 Do (aload H52 2 true x54) fun x55 =>
 Do (astore H52 2 x3 x55) fun H56 =>
 Do (aload H56 2 true x3) fun x57 =>
 Q x57 H56) (
 Do (abin .add (sl s39.1 0) (.int .i64 1)) fun x58 =>
 L40 ([x58], H52))) (
 JoinP (f18_k1 Φ x3 Q) [] s39.2)
def f18_k3 (Φ : Calls') (x1 x3 : AV) (Q : Post) : List AV → AH → Prop := fun j5 H6 =>
 Do (afaddr 0 x1) fun x26 =>
 Do (aload H6 1 false x26) fun x27 =>
Φ K.f45 [x27] H6 fun x28 H29 =>
 Do (abin .neq x28 (.int .i64 0)) fun x30 =>
 Gd x30 true (
 Do (abuild [.int .i64 0, .int .i64 0] [(1, 1, x28)]) fun x31 =>
 Do (astore H29 2 x3 x31) fun H32 =>
 Do (aload H32 2 true x3) fun x33 =>
 Q x33 H32) (
 Do (afaddr 1 x1) fun x36 =>
 Do (aload H29 1 false x36) fun x37 =>
 Do (alen false x37) fun x38 =>
 LoopP (f18_l2 Φ x1 x3 x37 x38 Q) ([(.int .i64 0)], H29))
def f18_k4 (Φ : Calls') (x1 x3 : AV) (Q : Post) : List AV → AH → Prop := fun j7 H8 =>
 Gd (sl j7 0) true (
 Do (abuild [.int .i64 0, .int .i64 0] [(1, 1, (.int .i64 12))]) fun x23 =>
 Do (astore H8 2 x3 x23) fun H24 =>
 Do (aload H24 2 true x3) fun x25 =>
 Q x25 H24) (
 JoinP (f18_k3 Φ x1 x3 Q) [] H8)
def f18_k5 (Φ : Calls') (x1 x3 : AV) (Q : Post) : List AV → AH → Prop := fun j9 H10 =>
 Gd3 (sl j9 0) false (
 Do (afaddr 1 x1) fun x19 =>
 Do (aload H10 1 false x19) fun x20 =>
 Do (alen false x20) fun x21 =>
 Do (abin .gtr x21 (.int .i64 8)) fun x22 =>
 JoinP (f18_k4 Φ x1 x3 Q) [x22] H10) (
 JoinP (f18_k4 Φ x1 x3 Q) [(.bool true)] H10) (
 False)
def f18 (Φ : Calls') (a0 : AV) (H : AH) (Q : Post) : Prop :=
 DoH (aboxv H false 2 a0) fun x1 H2 =>
 DoH (some (abox H2 true [.int .i64 0, .int .i64 0])) fun x3 H4 =>
 Do (afaddr 0 x1) fun x11 =>
 Do (aload H4 1 false x11) fun x12 =>
 Do (alen false x12) fun x13 =>
 Do (abin .gtr x13 (.int .i64 32)) fun x14 =>
 Gd3 x14 false (
 Do (afaddr 1 x1) fun x15 =>
 Do (aload H4 1 false x15) fun x16 =>
 Do (alen false x16) fun x17 =>
 Do (abin .lss x17 (.int .i64 1)) fun x18 =>
 JoinP (f18_k5 Φ x1 x3 Q) [x18] H4) (
 JoinP (f18_k5 Φ x1 x3 Q) [(.bool true)] H4) (
 False)
noncomputable def ir_f18 : AFunc := decF Go.Proofs.YtggbkidckoecfaaGreatDoor.rb.C ⟨18,[2,41],[[34]],none,[],[]⟩
theorem eq_f18 (Φ : Calls') (a0 : AV) (H : AH) (Q : Post) : fnE1 Φ ir_f18 [a0] H Q = f18 Φ a0 H Q := by kernel_rfl
def f19_k1 (Φ : Calls') (x3 x8 : AV) (Q : Post) : List AV → AH → Prop := fun j16 H17 =>
 Do (anilck x8) fun x31 =>
 Do (afaddr 7 x31) fun x32 =>
 Do (aload H17 13 true x32) fun x33 =>
 Do (anilck x8) fun x34 =>
 Do (afaddr 6 x34) fun x35 =>
 Do (aload H17 1 false x35) fun x36 =>
 Do (anilck x8) fun x37 =>
 Do (afaddr 3 x37) fun x38 =>
 Do (aload H17 1 false x38) fun x39 =>
 Do (astore H17 13 x3 x33) fun H40 =>
(aload H40 1 false x35 = some x36) ∧
(aload H40 1 false x38 = some x39) ∧
(Do (aload H40 13 true x3) fun x41 =>
 Q (.tup [x41, x36, x39, (.int .i64 0)]) H40)
def f19 (Φ : Calls') (a0 a1 a2 a3 : AV) (H : AH) (Q : Post) : Prop :=
 DoH (aboxv H false 2 a0) fun x1 H2 =>
 DoH (some (abox H2 true [.int .i64 0, .int .i64 0, .int .i64 0, .int .i64 0, .int .i64 0, .int .i64 0, .bool false, .int .i64 0, .int .i64 0, .int .i64 0, .int .i64 0, .int .u64 0, .int .u64 0])) fun x3 H4 =>
 Do (afaddr 0 x1) fun x5 =>
 Do (aload H4 1 false x5) fun x6 =>
 Do (abuild [.lst .nil 0 [], .lst .nil 0 [], .lst .nil 0 [], .lst .nil 0 [], .int .i64 0, .int .i64 0, .int .i64 0, .int .i64 0, .int .i64 0, .int .i64 0, .int .i64 0, .int .i64 0, .int .i64 0, .bool false, .int .i64 0, .int .i64 0, .int .i64 0, .int .i64 0, .int .u64 0, .int .u64 0, .bool false, .bool false] [(0, 1, x6), (1, 1, a2), (5, 1, a3)]) fun x7 =>
 DoH (aboxv H4 true 22 x7) fun x8 H9 =>
 Do (afaddr 1 x1) fun x10 =>
 Do (aload H9 1 false x10) fun x11 =>
 Do (aiaddr none 1 x11 a1) fun x12 =>
 Do (aload H9 1 false x12) fun x13 =>
Φ K.f48 [x8, x13, (.int .i64 0)] H9 fun x14 H15 =>
 Do (anilck x8) fun x18 =>
 Do (afaddr 21 x18) fun x19 =>
 Do (aload H15 1 false x19) fun x20 =>
 Gd x20 true (
 Do (abuild [.int .i64 0, .int .i64 0, .int .i64 0, .int .i64 0, .int .i64 0, .int .i64 0, .bool false, .int .i64 0, .int .i64 0, .int .i64 0, .int .i64 0, .int .u64 0, .int .u64 0] []) fun x21 =>
 Do (astore H15 13 x3 x21) fun H22 =>
 Do (aload H22 13 true x3) fun x23 =>
 Q (.tup [x23, (.int .i64 0), (.lst .nil 0 []), (.int .i64 16)]) H22) (
 Do (anilck x8) fun x24 =>
 Do (afaddr 20 x24) fun x25 =>
 Do (aload H15 1 false x25) fun x26 =>
 Do (aun .not x26) fun x27 =>
 Gd x27 true (
 Do (anilck x8) fun x28 =>
 Do (afaddr 6 x28) fun x29 =>
 Do (astore H15 1 x29 (.int .i64 1)) fun H30 =>
 JoinP (f19_k1 Φ x3 x8 Q) [] H30) (
 JoinP (f19_k1 Φ x3 x8 Q) [] H15))
noncomputable def ir_f19 : AFunc := decF Go.Proofs.YtggbkidckoecfaaGreatDoor.rb.C ⟨19,[8,18],[],none,[],[]⟩
theorem eq_f19 (Φ : Calls') (a0 a1 a2 a3 : AV) (H : AH) (Q : Post) : fnE1 Φ ir_f19 [a0, a1, a2, a3] H Q = f19 Φ a0 a1 a2 a3 H Q := by kernel_rfl
def f32_k1 (Φ : Calls') (s4 : List AV × AH) (L5 : (List AV × AH) → Prop) (Q : Post) : List AV → AH → Prop := fun j7 H8 =>
 Do (abin .add (sl s4.1 2) (.int .i64 1)) fun x39 =>
 L5 ([(sl j7 0), (sl j7 1), x39], H8)
def f32_k2 (Φ : Calls') (x11 x18 : AV) (s4 : List AV × AH) (L5 : (List AV × AH) → Prop) (Q : Post) : List AV → AH → Prop := fun j26 H27 =>
 Do (afaddr 0 x11) fun x29 =>
 Do (aload H27 1 false x29) fun x30 =>
 Do (abin .add (.int .i64 65536) (sl j26 0)) fun x31 =>
 Do (abuild [.int .i64 0, .int .i64 0] [(0, 1, x31), (1, 1, x18)]) fun x32 =>
 Do (abuild [.str [], .int .i64 0, .int .i64 0] [(0, 1, x30), (1, 2, x32)]) fun x33 =>
 DoH (abslice H27 false 3 1 [.str [], .int .i64 0, .int .i64 0] [(0, 3, x33)]) fun x34 H35 =>
 DoH (aappend H35 false 3 32 (sl s4.1 0) x34) fun x36 H37 =>
 Do (abin .add (sl j26 0) x18) fun x38 =>
 JoinP (f32_k1 Φ s4 L5 Q) [x36, x38] H37
def f32_k3 (Φ : Calls') (Q : Post) : List AV → AH → Prop := fun j1 H2 =>
 Do (abin .gtr (sl j1 1) (.int .i64 65536)) fun x40 =>
 Gd x40 true (
 Q (.tup [(.lst .nil 0 []), (.int .i64 0), (.int .i64 9)]) H2) (
 Q (.tup [(sl j1 0), (sl j1 1), (.int .i64 0)]) H2)
def f32_l4 (Φ : Calls') (a0 x3 : AV) (Q : Post) : (List AV × AH) → ((List AV × AH) → Prop) → Prop := fun s4 L5 =>
 Do (abin .lss (sl s4.1 2) x3) fun x6 =>
 Gd x6 true (
 Do (aiaddr none 7 a0 (sl s4.1 2)) fun x9 =>
 Do (aload s4.2 7 true x9) fun x10 =>
 DoH (some (abox s4.2 true [.str [], .int .i64 0, .int .i64 0, .bool false, .lst .nil 0 [], .int .i64 0, .lst .nil 0 []])) fun x11 H12 =>
 Do (astore H12 7 x11 x10) fun H13 =>
 Do (afaddr 1 x11) fun x14 =>
 Do (aload H13 6 true x14) fun x15 =>
Φ K.f67 [x15] H13 fun x16 H17 =>
 Do (aextract 0 x16) fun x18 =>
 Do (aextract 1 x16) fun x19 =>
 Do (aextract 2 x16) fun x20 =>
 Do (abin .neq x20 (.int .i64 0)) fun x21 =>
 Gd x21 true (
 Q (.tup [(.lst .nil 0 []), (.int .i64 0), x20]) H17) (
 Do (abin .add (sl s4.1 1) x19) fun x22 =>
 Do (abin .sub x22 (.int .i64 1)) fun x23 =>
 Do (abin .quo x23 x19) fun x24 =>
 Do (abin .mul x24 x19) fun x25 =>
 Do (abin .gtr x25 (.int .i64 65536)) fun x28 =>
 Gd x28 true (
 JoinP (f32_k2 Φ x11 x18 s4 L5 Q) [(.int .i64 65537)] H17) (
 JoinP (f32_k2 Φ x11 x18 s4 L5 Q) [x25] H17))) (
 JoinP (f32_k3 Φ Q) [(sl s4.1 0), (sl s4.1 1)] s4.2)
def f32 (Φ : Calls') (a0 : AV) (H : AH) (Q : Post) : Prop :=
 Do (alen false a0) fun x3 =>
 LoopP (f32_l4 Φ a0 x3 Q) ([(.lst .nil 0 []), (.int .i64 0), (.int .i64 0)], H)
noncomputable def ir_f32 : AFunc := decF Go.Proofs.YtggbkidckoecfaaGreatDoor.rb.C ⟨32,[8],[[5,6,14]],none,[],[]⟩
theorem eq_f32 (Φ : Calls') (a0 : AV) (H : AH) (Q : Post) : fnE1 Φ ir_f32 [a0] H Q = f32 Φ a0 H Q := by kernel_rfl
def f45_k1 (Φ : Calls') (s6 : List AV × AH) (L7 : (List AV × AH) → Prop) (Q : Post) : List AV → AH → Prop := fun j9 H10 =>
 Do (abin .add (sl s6.1 1) (.int .i64 1)) fun x45 =>
 L7 ([(sl j9 0), x45], H10)
def f45_k2 (Φ : Calls') (x13 : AV) (s6 : List AV × AH) (L7 : (List AV × AH) → Prop) (Q : Post) : List AV → AH → Prop := fun j16 H17 =>
 Do (afaddr 1 x13) fun x32 =>
 Do (aload H17 6 true x32) fun x33 =>
Φ K.f67 [x33] H17 fun x34 H35 =>
 Do (aextract 0 x34) fun x36 =>
 Do (aextract 1 x34) fun x37 =>
 Do (aextract 2 x34) fun x38 =>
 Do (abin .neq x38 (.int .i64 0)) fun x39 =>
 Gd x39 true (
 Q x38 H35) (
 Do (abin .add (sl s6.1 0) x37) fun x40 =>
 Do (abin .sub x40 (.int .i64 1)) fun x41 =>
 Do (abin .quo x41 x37) fun x42 =>
 Do (abin .mul x42 x37) fun x43 =>
 Do (abin .add x43 x36) fun x44 =>
 JoinP (f45_k1 Φ s6 L7 Q) [x44] H35)
def f45_k3 (Φ : Calls') (a0 x13 : AV) (s6 : List AV × AH) (L7 : (List AV × AH) → Prop) (Q : Post) : List AV → AH → Prop := fun j18 H19 =>
 Gd (sl j18 0) true (
 Q (.int .i64 6) H19) (
 Do (aslice 7 a0 none (some (sl s6.1 1)) none) fun x29 =>
Φ K.f73 [x29, (.fn K.f74 [x13])] H19 fun x30 H31 =>
 Gd x30 true (
 Q (.int .i64 7) H31) (
 JoinP (f45_k2 Φ x13 s6 L7 Q) [] H31))
def f45_k4 (Φ : Calls') (Q : Post) : List AV → AH → Prop := fun j3 H4 =>
 Do (abin .gtr (sl j3 0) (.int .i64 65536)) fun x46 =>
 Gd x46 true (
 Q (.int .i64 9) H4) (
 Q (.int .i64 0) H4)
def f45_l5 (Φ : Calls') (a0 x5 : AV) (Q : Post) : (List AV × AH) → ((List AV × AH) → Prop) → Prop := fun s6 L7 =>
 Do (abin .lss (sl s6.1 1) x5) fun x8 =>
 Gd x8 true (
 Do (aiaddr none 7 a0 (sl s6.1 1)) fun x11 =>
 Do (aload s6.2 7 true x11) fun x12 =>
 DoH (some (abox s6.2 true [.str [], .int .i64 0, .int .i64 0, .bool false, .lst .nil 0 [], .int .i64 0, .lst .nil 0 []])) fun x13 H14 =>
 Do (astore H14 7 x13 x12) fun H15 =>
 Do (afaddr 0 x13) fun x20 =>
 Do (aload H15 1 false x20) fun x21 =>
Φ K.f71 [x21] H15 fun x22 H23 =>
 Do (aun .not x22) fun x24 =>
 Gd3 x24 false (
 Do (afaddr 0 x13) fun x25 =>
 Do (aload H23 1 false x25) fun x26 =>
Φ K.f72 [x26] H23 fun x27 H28 =>
 JoinP (f45_k3 Φ a0 x13 s6 L7 Q) [x27] H28) (
 JoinP (f45_k3 Φ a0 x13 s6 L7 Q) [(.bool true)] H23) (
 False)) (
 JoinP (f45_k4 Φ Q) [(sl s6.1 0)] s6.2)
def f45 (Φ : Calls') (a0 : AV) (H : AH) (Q : Post) : Prop :=
 Do (alen false a0) fun x1 =>
 Do (abin .gtr x1 (.int .i64 32)) fun x2 =>
 Gd x2 true (
 Q (.int .i64 12) H) (
 Do (alen false a0) fun x5 =>
 LoopP (f45_l5 Φ a0 x5 Q) ([(.int .i64 0), (.int .i64 0)], H))
noncomputable def ir_f45 : AFunc := decF Go.Proofs.YtggbkidckoecfaaGreatDoor.rb.C ⟨45,[5],[[3,14]],none,[],[]⟩
theorem eq_f45 (Φ : Calls') (a0 : AV) (H : AH) (Q : Post) : fnE1 Φ ir_f45 [a0] H Q = f45 Φ a0 H Q := by kernel_rfl
def f46_k1 (Φ : Calls') (s8 : List AV × AH) (L9 : (List AV × AH) → Prop) (Q : Post) : List AV → AH → Prop := fun j11 H12 =>
 Do (abin .add (sl s8.1 0) (.int .i64 1)) fun x29 =>
 L9 ([x29], H12)
def f46_k2 (Φ : Calls') (a0 x4 : AV) (Q : Post) : List AV → AH → Prop := fun j5 H6 =>
 Do (anilck a0) fun x30 =>
 Do (afaddr 1 x30) fun x31 =>
 Do (aload H6 1 false x31) fun x32 =>
 Do (aslice 1 x32 none (some x4) none) fun x33 =>
 Do (anilck a0) fun x34 =>
 Do (afaddr 1 x34) fun x35 =>
 Do (astore H6 1 x35 x33) fun H36 =>
 Q (.tup []) H36
def f46_l3 (Φ : Calls') (a0 a1 a2 x4 x7 : AV) (Q : Post) : (List AV × AH) → ((List AV × AH) → Prop) → Prop := fun s8 L9 =>
 Do (abin .lss (sl s8.1 0) x7) fun x10 =>
 Gd x10 true (
 Do (aiaddr none 10 a1 (sl s8.1 0)) fun x13 =>
 Do (aload s8.2 10 true x13) fun x14 =>
 DoH (some (abox s8.2 true [.int .i64 0, .int .i64 0, .str [], .str [], .int .i64 0, .str [], .lst .nil 0 [], .lst .nil 0 [], .lst .nil 0 [], .lst .nil 0 []])) fun x15 H16 =>
 Do (astore H16 10 x15 x14) fun H17 =>
Φ K.f47 [a0] H17 fun x18 H19 =>
 Do (aun .not x18) fun x20 =>
 Gd x20 true (
 Do (afaddr 1 x15) fun x21 =>
 Do (aload H19 1 false x21) fun x22 =>
 Do (anilck a0) fun x23 =>
 Do (afaddr 3 x23) fun x24 =>
 Do (astore H19 1 x24 x22) fun H25 =>
 Do (aload H25 10 true x15) fun x26 =>
Φ K.f75 [a0, x26, a2] H25 fun x27 H28 =>
 JoinP (f46_k1 Φ s8 L9 Q) [] H28) (
 JoinP (f46_k1 Φ s8 L9 Q) [] H19)) (
 JoinP (f46_k2 Φ a0 x4 Q) [] s8.2)
def f46 (Φ : Calls') (a0 a1 a2 : AV) (H : AH) (Q : Post) : Prop :=
 Do (anilck a0) fun x1 =>
 Do (afaddr 1 x1) fun x2 =>
 Do (aload H 1 false x2) fun x3 =>
 Do (alen false x3) fun x4 =>
 Do (alen false a1) fun x7 =>
 LoopP (f46_l3 Φ a0 a1 a2 x4 x7 Q) ([(.int .i64 0)], H)
noncomputable def ir_f46 : AFunc := decF Go.Proofs.YtggbkidckoecfaaGreatDoor.rb.C ⟨46,[8],[[16]],none,[],[]⟩
theorem eq_f46 (Φ : Calls') (a0 a1 a2 : AV) (H : AH) (Q : Post) : fnE1 Φ ir_f46 [a0, a1, a2] H Q = f46 Φ a0 a1 a2 H Q := by kernel_rfl
def f47 (Φ : Calls') (a0 : AV) (H : AH) (Q : Post) : Prop :=
 Do (anilck a0) fun x1 =>
 Do (afaddr 4 x1) fun x2 =>
 Do (afaddr 1 x2) fun x3 =>
 Do (aload H 1 false x3) fun x4 =>
 Do (abin .neq x4 (.int .i64 0)) fun x5 =>
 Q x5 H
noncomputable def ir_f47 : AFunc := decF Go.Proofs.YtggbkidckoecfaaGreatDoor.rb.C ⟨47,[],[],none,[],[]⟩
theorem eq_f47 (Φ : Calls') (a0 : AV) (H : AH) (Q : Post) : fnE1 Φ ir_f47 [a0] H Q = f47 Φ a0 H Q := by kernel_rfl
def f48_k1 (Φ : Calls') (a0 x4 : AV) (Q : Post) : List AV → AH → Prop := fun j5 H6 =>
 Do (anilck a0) fun x35 =>
 Do (afaddr 2 x35) fun x36 =>
 Do (aload H6 1 false x36) fun x37 =>
 Do (aslice 2 x37 none (some x4) none) fun x38 =>
 Do (anilck a0) fun x39 =>
 Do (afaddr 2 x39) fun x40 =>
 Do (astore H6 1 x40 x38) fun H41 =>
 Q (.tup []) H41
def f48_l2 (Φ : Calls') (a0 a1 x4 x7 : AV) (Q : Post) : (List AV × AH) → ((List AV × AH) → Prop) → Prop := fun s8 L9 =>
 Do (abin .lss (sl s8.1 1) x7) fun x10 =>
 Gd x10 true (
 Do (aiaddr none 10 a1 (sl s8.1 1)) fun x11 =>
 Do (aload s8.2 10 true x11) fun x12 =>
 DoH (some (abox s8.2 true [.int .i64 0, .int .i64 0, .str [], .str [], .int .i64 0, .str [], .lst .nil 0 [], .lst .nil 0 [], .lst .nil 0 [], .lst .nil 0 []])) fun x13 H14 =>
 Do (astore H14 10 x13 x12) fun H15 =>
 Do (anilck a0) fun x16 =>
 Do (afaddr 20 x16) fun x17 =>
 Do (aload H15 1 false x17) fun x18 =>
 Gd x18 true (
 Q (.tup []) H15) (
 Do (afaddr 1 x13) fun x19 =>
 Do (aload H15 1 false x19) fun x20 =>
 Do (anilck a0) fun x21 =>
 Do (afaddr 4 x21) fun x22 =>
 Do (astore H15 1 x22 x20) fun H23 =>
Φ K.f76 [a0] H23 fun x24 H25 =>
 Do (aload H25 10 true x13) fun x26 =>
Φ K.f77 [a0, x26, (sl s8.1 0)] H25 fun x27 H28 =>
 Do (abin .add (sl s8.1 1) (.int .i64 1)) fun x29 =>
 Do (aslice 10 a1 (some (sl s8.1 1)) (some x29) none) fun x30 =>
Φ K.f78 [x30] H28 fun x31 H32 =>
 Do (abin .add (sl s8.1 0) x31) fun x33 =>
 Do (abin .add (sl s8.1 1) (.int .i64 1)) fun x34 =>
 L9 ([x33, x34], H32))) (
 JoinP (f48_k1 Φ a0 x4 Q) [] s8.2)
def f48 (Φ : Calls') (a0 a1 a2 : AV) (H : AH) (Q : Post) : Prop :=
 Do (anilck a0) fun x1 =>
 Do (afaddr 2 x1) fun x2 =>
 Do (aload H 1 false x2) fun x3 =>
 Do (alen false x3) fun x4 =>
 Do (alen false a1) fun x7 =>
 LoopP (f48_l2 Φ a0 a1 x4 x7 Q) ([a2, (.int .i64 0)], H)
noncomputable def ir_f48 : AFunc := decF Go.Proofs.YtggbkidckoecfaaGreatDoor.rb.C ⟨48,[8],[[2,16]],none,[],[]⟩
theorem eq_f48 (Φ : Calls') (a0 a1 a2 : AV) (H : AH) (Q : Post) : fnE1 Φ ir_f48 [a0, a1, a2] H Q = f48 Φ a0 a1 a2 H Q := by kernel_rfl
def f67 (Φ : Calls') (a0 : AV) (H : AH) (Q : Post) : Prop :=
 DoH (aboxv H false 6 a0) fun x1 H2 =>
 Do (aload H2 6 true x1) fun x3 =>
Φ K.f93 [x3] H2 fun x4 H5 =>
 Do (aextract 0 x4) fun x6 =>
 Do (aextract 1 x4) fun x7 =>
 DoH (some (abox H5 true [.int .i64 0, .int .i64 0])) fun x8 H9 =>
 Do (astore H9 2 x8 x6) fun H10 =>
 Do (afaddr 0 x8) fun x11 =>
 Do (aload H10 1 false x11) fun x12 =>
 Do (afaddr 1 x8) fun x13 =>
 Do (aload H10 1 false x13) fun x14 =>
 Q (.tup [x12, x14, x7]) H10
noncomputable def ir_f67 : AFunc := decF Go.Proofs.YtggbkidckoecfaaGreatDoor.rb.C ⟨67,[5],[],none,[],[]⟩
theorem eq_f67 (Φ : Calls') (a0 : AV) (H : AH) (Q : Post) : fnE1 Φ ir_f67 [a0] H Q = f67 Φ a0 H Q := by kernel_rfl
def f70 (Φ : Calls') (a0 : AV) (H : AH) (Q : Post) : Prop :=
 Do (abin .lss a0 (.int .i64 1)) fun x1 =>
 Gd x1 true (
 Q (.int .u64 0) H) (
 Do (abin .geq a0 (.int .i64 64)) fun x2 =>
 Gd x2 true (
 Q (.int .u64 18446744073709551615) H) (
 Do (abin .shl (.int .u64 1) a0) fun x3 =>
 Do (abin .sub x3 (.int .u64 1)) fun x4 =>
 Q x4 H))
noncomputable def ir_f70 : AFunc := decF Go.Proofs.YtggbkidckoecfaaGreatDoor.rb.C ⟨70,[],[],none,[],[]⟩
theorem eq_f70 (Φ : Calls') (a0 : AV) (H : AH) (Q : Post) : fnE1 Φ ir_f70 [a0] H Q = f70 Φ a0 H Q := by kernel_rfl
def f71_k1 (Φ : Calls') (L19 : (List AV × AH) → Prop) (Q : Post) : List AV → AH → Prop := fun j24 H25 =>
 Gd (sl j24 0) true (
 Q (.bool false) H25) (
 L19 ([], H25))
def f71_k2 (Φ : Calls') (x23 : AV) (L19 : (List AV × AH) → Prop) (Q : Post) : List AV → AH → Prop := fun j26 H27 =>
 Gd3 (sl j26 0) true (
 Do (abin .lss x23 (.int .i32 48)) fun x32 =>
 Gd3 x32 false (
 Do (abin .gtr x23 (.int .i32 57)) fun x33 =>
 JoinP (f71_k1 Φ L19 Q) [x33] H27) (
 JoinP (f71_k1 Φ L19 Q) [(.bool true)] H27) (
 False)) (
 JoinP (f71_k1 Φ L19 Q) [(.bool false)] H27) (
 False)
def f71_l3 (Φ : Calls') (x16 : AV) (Q : Post) : (List AV × AH) → ((List AV × AH) → Prop) → Prop := fun s18 L19 =>
 DoH (asnext s18.2 x16) fun x20 H21 =>
 Do (aextract 0 x20) fun x22 =>
 Gd x22 true (
 Do (aextract 2 x20) fun x23 =>
Φ K.f94 [x23] H21 fun x28 H29 =>
 Do (aun .not x28) fun x30 =>
 Gd3 x30 true (
 Do (abin .neq x23 (.int .i32 95)) fun x31 =>
 JoinP (f71_k2 Φ x23 L19 Q) [x31] H29) (
 JoinP (f71_k2 Φ x23 L19 Q) [(.bool false)] H29) (
 False)) (
 Q (.bool true) H21)
def f71_k4 (Φ : Calls') (a0 : AV) (Q : Post) : List AV → AH → Prop := fun j1 H2 =>
 DoH (asrange H2 a0) fun x16 H17 =>
 LoopP (f71_l3 Φ x16 Q) ([], H17)
def f71_k5 (Φ : Calls') (a0 : AV) (Q : Post) : List AV → AH → Prop := fun j3 H4 =>
 Gd (sl j3 0) true (
 Q (.bool false) H4) (
 JoinP (f71_k4 Φ a0 Q) [] H4)
def f71_k6 (Φ : Calls') (a0 : AV) (Q : Post) : List AV → AH → Prop := fun j5 H6 =>
 Gd3 (sl j5 0) false (
 Do (aidxs a0 (.int .i64 0)) fun x11 =>
 Do (aconv .i32 x11) fun x12 =>
Φ K.f94 [x12] H6 fun x13 H14 =>
 Do (aun .not x13) fun x15 =>
 JoinP (f71_k5 Φ a0 Q) [x15] H14) (
 JoinP (f71_k5 Φ a0 Q) [(.bool true)] H6) (
 False)
def f71 (Φ : Calls') (a0 : AV) (H : AH) (Q : Post) : Prop :=
 Do (alen true a0) fun x7 =>
 Do (abin .lss x7 (.int .i64 1)) fun x8 =>
 Gd3 x8 false (
 Do (alen true a0) fun x9 =>
 Do (abin .gtr x9 (.int .i64 16)) fun x10 =>
 JoinP (f71_k6 Φ a0 Q) [x10] H) (
 JoinP (f71_k6 Φ a0 Q) [(.bool true)] H) (
 False)
noncomputable def ir_f71 : AFunc := decF Go.Proofs.YtggbkidckoecfaaGreatDoor.rb.C ⟨71,[],[[]],none,[],[]⟩
theorem eq_f71 (Φ : Calls') (a0 : AV) (H : AH) (Q : Post) : fnE1 Φ ir_f71 [a0] H Q = f71 Φ a0 H Q := by kernel_rfl
def f72 (Φ : Calls') (a0 : AV) (H : AH) (Q : Post) : Prop :=
Φ K.f96 [(.str [118, 97, 114, 32, 116, 104, 114, 101, 97, 100, 32, 115, 116, 114, 117, 99, 116, 32, 117, 110, 105, 111, 110, 32, 112, 97, 99, 107, 101, 100, 32, 117, 56, 32, 117, 49, 54, 32, 117, 51, 50, 32, 117, 54, 52, 32, 97, 56, 32, 97, 49, 54, 32, 97, 51, 50, 32, 97, 54, 52, 32, 97, 49, 50, 56, 32, 108, 101, 116, 32, 115, 101, 116, 32, 119, 114, 105, 116, 101, 32, 115, 116, 111, 114, 101, 32, 108, 111, 97, 100, 50, 32, 115, 116, 111, 114, 101, 50, 32, 102, 101, 110, 99, 101, 32, 105, 102, 32, 101, 108, 115, 101, 32, 119, 104, 105, 108, 101, 32, 112, 114, 105, 110, 116, 32, 114, 101, 97, 100, 32, 108, 111, 97, 100, 32, 97, 100, 100, 32, 115, 119, 97, 112, 32, 99, 97, 115, 32, 114, 108, 120, 32, 97, 99, 113, 32, 114, 101, 108, 32, 115, 99])] H fun x1 H2 =>
Φ K.f95 [x1, a0] H2 fun x3 H4 =>
 Q x3 H4
noncomputable def ir_f72 : AFunc := decF Go.Proofs.YtggbkidckoecfaaGreatDoor.rb.C ⟨72,[],[],none,[],[]⟩
theorem eq_f72 (Φ : Calls') (a0 : AV) (H : AH) (Q : Post) : fnE1 Φ ir_f72 [a0] H Q = f72 Φ a0 H Q := by kernel_rfl
def f73 (Φ : Calls') (a0 a1 : AV) (H : AH) (Q : Post) : Prop :=
Φ K.f97 [a0, a1] H fun x1 H2 =>
 Do (abin .geq x1 (.int .i64 0)) fun x3 =>
 Q x3 H2
noncomputable def ir_f73 : AFunc := decF Go.Proofs.YtggbkidckoecfaaGreatDoor.rb.C ⟨73,[],[],none,[],[]⟩
theorem eq_f73 (Φ : Calls') (a0 a1 : AV) (H : AH) (Q : Post) : fnE1 Φ ir_f73 [a0, a1] H Q = f73 Φ a0 a1 H Q := by kernel_rfl
def f74 (Φ : Calls') (a0 a1 : AV) (H : AH) (Q : Post) : Prop :=
 DoH (aboxv H false 7 a0) fun x1 H2 =>
 Do (afaddr 0 x1) fun x3 =>
 Do (aload H2 1 false x3) fun x4 =>
 Do (afaddr 0 a1) fun x5 =>
 Do (aload H2 1 false x5) fun x6 =>
 Do (abin .eql x4 x6) fun x7 =>
 Q x7 H2
noncomputable def ir_f74 : AFunc := decF Go.Proofs.YtggbkidckoecfaaGreatDoor.rb.C ⟨74,[],[],none,[],[]⟩
theorem eq_f74 (Φ : Calls') (a0 a1 : AV) (H : AH) (Q : Post) : fnE1 Φ ir_f74 [a0, a1] H Q = f74 Φ a0 a1 H Q := by kernel_rfl
def f75_k1 (Φ : Calls') (a0 a2 x1 : AV) (Q : Post) : List AV → AH → Prop := fun j54 H55 =>
 Do (afaddr 8 x1) fun x78 =>
 Do (aload H55 1 false x78) fun x79 =>
 Do (abin .add a2 (.int .i64 1)) fun x80 =>
Φ K.f46 [a0, x79, x80] H55 fun x81 H82 =>
 Do (afaddr 1 x1) fun x83 =>
 Do (aload H82 1 false x83) fun x84 =>
 Do (anilck a0) fun x85 =>
 Do (afaddr 3 x85) fun x86 =>
 Do (astore H82 1 x86 x84) fun H87 =>
 Do (afaddr 9 x1) fun x88 =>
 Do (aload H87 1 false x88) fun x89 =>
 Do (abin .add a2 (.int .i64 1)) fun x90 =>
Φ K.f46 [a0, x89, x90] H87 fun x91 H92 =>
 Q (.tup []) H92
def f75_k2 (Φ : Calls') (a0 a2 x1 : AV) (Q : Post) : List AV → AH → Prop := fun j19 H20 =>
 Do (afaddr 7 x1) fun x50 =>
 Do (aload H20 1 false x50) fun x51 =>
Φ K.f103 [a0, x51, a2] H20 fun x52 H53 =>
 Do (afaddr 0 x1) fun x56 =>
 Do (aload H53 1 false x56) fun x57 =>
 Do (abin .eql x57 (.int .i64 1)) fun x58 =>
 Gd x58 true (
 Do (anilck a0) fun x59 =>
 Do (afaddr 1 x59) fun x60 =>
 Do (aload H53 1 false x60) fun x61 =>
 Do (afaddr 2 x1) fun x62 =>
 Do (aload H53 1 false x62) fun x63 =>
 DoH (abslice H53 false 1 1 [.str []] [(0, 1, x63)]) fun x64 H65 =>
 DoH (aappend H65 true 1 16 x61 x64) fun x66 H67 =>
 Do (anilck a0) fun x68 =>
 Do (afaddr 1 x68) fun x69 =>
 Do (astore H67 1 x69 x66) fun H70 =>
 Do (anilck a0) fun x71 =>
 Do (afaddr 2 x71) fun x72 =>
 Do (aload H70 1 false x72) fun x73 =>
 Do (abin .add x73 (.int .i64 1)) fun x74 =>
 Do (anilck a0) fun x75 =>
 Do (afaddr 2 x75) fun x76 =>
 Do (astore H70 1 x76 x74) fun H77 =>
 JoinP (f75_k1 Φ a0 a2 x1 Q) [] H77) (
 Do (abin .eql x57 (.int .i64 5)) fun x93 =>
 Gd x93 true (
 Do (afaddr 2 x1) fun x94 =>
 Do (aload H53 1 false x94) fun x95 =>
Φ K.f101 [a0, x95] H53 fun x96 H97 =>
Φ K.f98 [a0, x96, (.int .i64 6)] H97 fun x98 H99 =>
 Do (afaddr 3 x1) fun x100 =>
 Do (aload H99 1 false x100) fun x101 =>
Φ K.f101 [a0, x101] H99 fun x102 H103 =>
Φ K.f98 [a0, x102, (.int .i64 6)] H103 fun x104 H105 =>
 Do (afaddr 2 x1) fun x106 =>
 Do (aload H105 1 false x106) fun x107 =>
 Do (afaddr 3 x1) fun x108 =>
 Do (aload H105 1 false x108) fun x109 =>
 Do (abin .neq x107 x109) fun x110 =>
Φ K.f98 [a0, x110, (.int .i64 7)] H105 fun x111 H112 =>
 JoinP (f75_k1 Φ a0 a2 x1 Q) [] H112) (
 JoinP (f75_k1 Φ a0 a2 x1 Q) [] H53))
def f75_k3 (Φ : Calls') (a0 a2 x1 : AV) (Q : Post) : List AV → AH → Prop := fun j24 H25 =>
 Do (afaddr 2 x1) fun x37 =>
 Do (aload H25 1 false x37) fun x38 =>
Φ K.f101 [a0, x38] H25 fun x39 H40 =>
 Do (aun .not x39) fun x41 =>
Φ K.f98 [a0, x41, (.int .i64 7)] H40 fun x42 H43 =>
 Do (anilck a0) fun x44 =>
 Do (afaddr 2 x44) fun x45 =>
 Do (aload H43 1 false x45) fun x46 =>
 Do (abin .lss x46 (.int .i64 40)) fun x47 =>
Φ K.f98 [a0, x47, (.int .i64 12)] H43 fun x48 H49 =>
 JoinP (f75_k2 Φ a0 a2 x1 Q) [] H49
def f75_k4 (Φ : Calls') (a0 a2 x1 : AV) (Q : Post) : List AV → AH → Prop := fun j122 H123 =>
 Gd (sl j122 0) true (
 Do (afaddr 0 x1) fun x125 =>
 Do (aload H123 1 false x125) fun x126 =>
 Do (afaddr 5 x1) fun x127 =>
 Do (aload H123 2 true x127) fun x128 =>
Φ K.f102 [a0, x126, x128, a2] H123 fun x129 H130 =>
 JoinP (f75_k2 Φ a0 a2 x1 Q) [] H130) (
 JoinP (f75_k2 Φ a0 a2 x1 Q) [] H123)
def f75 (Φ : Calls') (a0 a1 a2 : AV) (H : AH) (Q : Post) : Prop :=
 DoH (aboxv H false 10 a1) fun x1 H2 =>
 Do (abin .leq a2 (.int .i64 64)) fun x3 =>
Φ K.f98 [a0, x3, (.int .i64 5)] H2 fun x4 H5 =>
 Do (aload H5 10 true x1) fun x6 =>
Φ K.f99 [x6] H5 fun x7 H8 =>
Φ K.f98 [a0, x7, (.int .i64 4)] H8 fun x9 H10 =>
 Do (afaddr 0 x1) fun x11 =>
 Do (aload H10 1 false x11) fun x12 =>
 Do (afaddr 4 x1) fun x13 =>
 Do (aload H10 1 false x13) fun x14 =>
Φ K.f100 [x12, x14] H10 fun x15 H16 =>
Φ K.f98 [a0, x15, (.int .i64 11)] H16 fun x17 H18 =>
 Do (afaddr 0 x1) fun x21 =>
 Do (aload H18 1 false x21) fun x22 =>
 Do (abin .eql x22 (.int .i64 1)) fun x23 =>
 Gd x23 true (
 Do (afaddr 2 x1) fun x26 =>
 Do (aload H18 1 false x26) fun x27 =>
Φ K.f71 [x27] H18 fun x28 H29 =>
 Gd3 x28 true (
 Do (afaddr 2 x1) fun x30 =>
 Do (aload H29 1 false x30) fun x31 =>
Φ K.f72 [x31] H29 fun x32 H33 =>
 Do (aun .not x32) fun x34 =>
Φ K.f98 [a0, x34, (.int .i64 6)] H33 fun x35 H36 =>
 JoinP (f75_k3 Φ a0 a2 x1 Q) [] H36) (
Φ K.f98 [a0, (.bool false), (.int .i64 6)] H29 fun x113 H114 =>
 JoinP (f75_k3 Φ a0 a2 x1 Q) [] H114) (
 False)) (
 Do (abin .eql x22 (.int .i64 2)) fun x115 =>
 Gd x115 true (
 Do (afaddr 2 x1) fun x116 =>
 Do (aload H18 1 false x116) fun x117 =>
Φ K.f101 [a0, x117] H18 fun x118 H119 =>
Φ K.f98 [a0, x118, (.int .i64 6)] H119 fun x120 H121 =>
 JoinP (f75_k2 Φ a0 a2 x1 Q) [] H121) (
 Do (abin .eql x22 (.int .i64 3)) fun x124 =>
 Gd x124 true (
 JoinP (f75_k4 Φ a0 a2 x1 Q) [x124] H18) (
 Do (abin .eql x22 (.int .i64 4)) fun x131 =>
 Gd x131 true (
 JoinP (f75_k4 Φ a0 a2 x1 Q) [x131] H18) (
 Do (abin .eql x22 (.int .i64 5)) fun x132 =>
 Gd x132 true (
 JoinP (f75_k4 Φ a0 a2 x1 Q) [x132] H18) (
 Do (abin .eql x22 (.int .i64 6)) fun x133 =>
 JoinP (f75_k4 Φ a0 a2 x1 Q) [x133] H18)))))
def ir_f75 : AFunc := ⟨135, [],
 .seq (.region [
   ⟨some 4, .box false 10 (.t 1), none⟩])
 (.seq (.region [
   ⟨some 6, .mv (.t 0), none⟩,
   ⟨some 7, .mv (.t 2), none⟩,
   ⟨some 8, .bin .leq (.t 7) (.k (.int .i64 64)), none⟩,
   ⟨some 9, .call K.f98 [(.t 6), (.t 8), (.k (.int .i64 5))], none⟩])
 (.seq (.region [
   ⟨some 10, .mv (.t 0), none⟩,
   ⟨some 11, .load 10 true (.t 4), none⟩,
   ⟨some 12, .call K.f99 [(.t 11)], none⟩,
   ⟨some 13, .call K.f98 [(.t 10), (.t 12), (.k (.int .i64 4))], none⟩])
 (.seq (.region [
   ⟨some 14, .mv (.t 0), none⟩,
   ⟨some 15, .faddr 0 (.t 4), none⟩,
   ⟨some 16, .load 1 false (.t 15), none⟩,
   ⟨some 17, .faddr 4 (.t 4), none⟩,
   ⟨some 18, .load 1 false (.t 17), none⟩,
   ⟨some 19, .call K.f100 [(.t 16), (.t 18)], none⟩,
   ⟨some 20, .call K.f98 [(.t 14), (.t 19), (.k (.int .i64 11))], none⟩])
 (.join [] [21, 22, 23, 24, 25, 26, 27, 28, 29, 30, 31, 32, 33, 34, 35, 36, 37, 38, 39, 40, 41, 42, 43, 44, 45, 46, 47, 48, 49, 50, 51, 52, 53, 54, 55, 56, 57, 58, 59, 60, 61, 62, 63, 64, 65, 66, 67, 68, 69] (.seq (.region [
   ⟨some 21, .faddr 0 (.t 4), none⟩,
   ⟨some 22, .load 1 false (.t 21), none⟩])
 (.block 0 (.seq (.region [
   ⟨some 24, .bin .eql (.t 22) (.k (.int .i64 1)), none⟩,
   ⟨some 23, .mv (.t 24), none⟩])
 (.cond (.t 23) (.join [] [25, 26, 27, 28, 29, 30, 31, 32, 33, 34, 35] (.region [
     ⟨some 25, .mv (.t 0), none⟩,
     ⟨some 26, .faddr 2 (.t 4), none⟩,
     ⟨some 27, .load 1 false (.t 26), none⟩,
     ⟨some 28, .call K.f71 [(.t 27)], none⟩,
     ⟨some 29, .mv (.t 28), none⟩,
     ⟨some 30, .faddr 2 (.t 4), some (29, true)⟩,
     ⟨some 31, .load 1 false (.t 30), some (29, true)⟩,
     ⟨some 32, .call K.f72 [(.t 31)], some (29, true)⟩,
     ⟨some 33, .un .not (.t 32), some (29, true)⟩,
     ⟨some 34, .pick (.t 29) (.t 33) (.k (.bool false)), none⟩,
     ⟨some 35, .call K.f98 [(.t 25), (.t 34), (.k (.int .i64 6))], none⟩])
   (.seq (.region [
     ⟨some 36, .mv (.t 0), none⟩,
     ⟨some 37, .mv (.t 0), none⟩,
     ⟨some 38, .faddr 2 (.t 4), none⟩,
     ⟨some 39, .load 1 false (.t 38), none⟩,
     ⟨some 40, .call K.f101 [(.t 37), (.t 39)], none⟩,
     ⟨some 41, .un .not (.t 40), none⟩,
     ⟨some 42, .call K.f98 [(.t 36), (.t 41), (.k (.int .i64 7))], none⟩])
   (.region [
     ⟨some 43, .mv (.t 0), none⟩,
     ⟨some 44, .mv (.t 0), none⟩,
     ⟨some 45, .nilck (.t 44), none⟩,
     ⟨some 46, .faddr 2 (.t 45), none⟩,
     ⟨some 47, .load 1 false (.t 46), none⟩,
     ⟨some 48, .bin .lss (.t 47) (.k (.int .i64 40)), none⟩,
     ⟨some 49, .call K.f98 [(.t 43), (.t 48), (.k (.int .i64 12))], none⟩])))
   (.seq (.region [
     ⟨some 51, .bin .eql (.t 22) (.k (.int .i64 2)), none⟩,
     ⟨some 50, .mv (.t 51), none⟩])
   (.cond (.t 50) (.region [
       ⟨some 52, .mv (.t 0), none⟩,
       ⟨some 53, .mv (.t 0), none⟩,
       ⟨some 54, .faddr 2 (.t 4), none⟩,
       ⟨some 55, .load 1 false (.t 54), none⟩,
       ⟨some 56, .call K.f101 [(.t 53), (.t 55)], none⟩,
       ⟨some 57, .call K.f98 [(.t 52), (.t 56), (.k (.int .i64 6))], none⟩])
     (.join [58] [59, 60, 61, 62] (.seq (.region [
       ⟨some 59, .bin .eql (.t 22) (.k (.int .i64 3)), none⟩,
       ⟨some 58, .mv (.t 59), none⟩])
     (.cond (.t 58) (.skip)
       (.seq (.region [
         ⟨some 60, .bin .eql (.t 22) (.k (.int .i64 4)), none⟩,
         ⟨some 58, .mv (.t 60), none⟩])
       (.cond (.t 58) (.skip)
         (.seq (.region [
           ⟨some 61, .bin .eql (.t 22) (.k (.int .i64 5)), none⟩,
           ⟨some 58, .mv (.t 61), none⟩])
         (.cond (.t 58) (.skip)
           (.region [
             ⟨some 62, .bin .eql (.t 22) (.k (.int .i64 6)), none⟩,
             ⟨some 58, .mv (.t 62), none⟩])))))))
     (.cond (.t 58) (.region [
         ⟨some 63, .mv (.t 0), none⟩,
         ⟨some 64, .faddr 0 (.t 4), none⟩,
         ⟨some 65, .load 1 false (.t 64), none⟩,
         ⟨some 66, .faddr 5 (.t 4), none⟩,
         ⟨some 67, .load 2 true (.t 66), none⟩,
         ⟨some 68, .mv (.t 2), none⟩,
         ⟨some 69, .call K.f102 [(.t 63), (.t 65), (.t 67), (.t 68)], none⟩])
       (.skip)))))))))
 (.seq (.region [
   ⟨some 70, .mv (.t 0), none⟩,
   ⟨some 71, .faddr 7 (.t 4), none⟩,
   ⟨some 72, .load 1 false (.t 71), none⟩,
   ⟨some 73, .mv (.t 2), none⟩,
   ⟨some 74, .call K.f103 [(.t 70), (.t 72), (.t 73)], none⟩])
 (.join [] [75, 76, 77, 78, 79, 80, 81, 82, 83, 84, 85, 86, 87, 88, 89, 90, 91, 92, 93, 94, 95, 96, 97, 98, 99, 100, 101, 102, 103, 104, 105, 106, 107, 108, 109, 110, 111, 112, 113, 114, 115, 116, 117] (.seq (.region [
   ⟨some 75, .faddr 0 (.t 4), none⟩,
   ⟨some 76, .load 1 false (.t 75), none⟩])
 (.block 1 (.seq (.region [
   ⟨some 78, .bin .eql (.t 76) (.k (.int .i64 1)), none⟩,
   ⟨some 77, .mv (.t 78), none⟩])
 (.cond (.t 77) (.seq (.draw [
     ⟨some 79, .mv (.t 0), none⟩,
     ⟨some 80, .mv (.t 0), none⟩,
     ⟨some 81, .nilck (.t 80), none⟩,
     ⟨some 82, .faddr 1 (.t 81), none⟩,
     ⟨some 83, .load 1 false (.t 82), none⟩,
     ⟨some 84, .faddr 2 (.t 4), none⟩,
     ⟨some 85, .load 1 false (.t 84), none⟩,
     ⟨some 86, .bslice false 1 1 [.str []] [(0, 1, (.t 85))], none⟩,
     ⟨some 87, .append true 1 16 (.t 83) (.t 86), none⟩,
     ⟨some 88, .nilck (.t 79), none⟩,
     ⟨some 89, .faddr 1 (.t 88), none⟩,
     ⟨none, .store 1 (.t 89) (.t 87), none⟩]
   [[], [], [1], [1, 2], [1, 2, 3], [], [5], [5, 6], [1, 2, 3, 4, 5, 6, 7], [0, 1, 2, 3, 4, 5, 6, 7, 8], [0, 1, 2, 3, 4, 5, 6, 7, 8, 9], [0, 1, 2, 3, 4, 5, 6, 7, 8, 9, 10]] [([0, 1, 2, 3, 4, 5, 6, 7], 8, []), ([9, 10], 11, [])] [])
   (.region [
     ⟨some 90, .mv (.t 0), none⟩,
     ⟨some 91, .nilck (.t 90), none⟩,
     ⟨some 92, .faddr 2 (.t 91), none⟩,
     ⟨some 93, .load 1 false (.t 92), none⟩,
     ⟨some 94, .bin .add (.t 93) (.k (.int .i64 1)), none⟩,
     ⟨some 95, .nilck (.t 90), none⟩,
     ⟨some 96, .faddr 2 (.t 95), none⟩,
     ⟨none, .store 1 (.t 96) (.t 94), none⟩]))
   (.seq (.region [
     ⟨some 98, .bin .eql (.t 76) (.k (.int .i64 5)), none⟩,
     ⟨some 97, .mv (.t 98), none⟩])
   (.cond (.t 97) (.seq (.region [
       ⟨some 99, .mv (.t 0), none⟩,
       ⟨some 100, .mv (.t 0), none⟩,
       ⟨some 101, .faddr 2 (.t 4), none⟩,
       ⟨some 102, .load 1 false (.t 101), none⟩,
       ⟨some 103, .call K.f101 [(.t 100), (.t 102)], none⟩,
       ⟨some 104, .call K.f98 [(.t 99), (.t 103), (.k (.int .i64 6))], none⟩])
     (.seq (.region [
       ⟨some 105, .mv (.t 0), none⟩,
       ⟨some 106, .mv (.t 0), none⟩,
       ⟨some 107, .faddr 3 (.t 4), none⟩,
       ⟨some 108, .load 1 false (.t 107), none⟩,
       ⟨some 109, .call K.f101 [(.t 106), (.t 108)], none⟩,
       ⟨some 110, .call K.f98 [(.t 105), (.t 109), (.k (.int .i64 6))], none⟩])
     (.region [
       ⟨some 111, .mv (.t 0), none⟩,
       ⟨some 112, .faddr 2 (.t 4), none⟩,
       ⟨some 113, .load 1 false (.t 112), none⟩,
       ⟨some 114, .faddr 3 (.t 4), none⟩,
       ⟨some 115, .load 1 false (.t 114), none⟩,
       ⟨some 116, .bin .neq (.t 113) (.t 115), none⟩,
       ⟨some 117, .call K.f98 [(.t 111), (.t 116), (.k (.int .i64 7))], none⟩])))
     (.skip)))))))
 (.seq (.region [
   ⟨some 118, .mv (.t 0), none⟩,
   ⟨some 119, .faddr 8 (.t 4), none⟩,
   ⟨some 120, .load 1 false (.t 119), none⟩,
   ⟨some 121, .mv (.t 2), none⟩,
   ⟨some 122, .bin .add (.t 121) (.k (.int .i64 1)), none⟩,
   ⟨some 123, .call K.f46 [(.t 118), (.t 120), (.t 122)], none⟩])
 (.seq (.region [
   ⟨some 124, .mv (.t 0), none⟩,
   ⟨some 125, .faddr 1 (.t 4), none⟩,
   ⟨some 126, .load 1 false (.t 125), none⟩,
   ⟨some 127, .nilck (.t 124), none⟩,
   ⟨some 128, .faddr 3 (.t 127), none⟩,
   ⟨none, .store 1 (.t 128) (.t 126), none⟩])
 (.region [
   ⟨some 129, .mv (.t 0), none⟩,
   ⟨some 130, .faddr 9 (.t 4), none⟩,
   ⟨some 131, .load 1 false (.t 130), none⟩,
   ⟨some 132, .mv (.t 2), none⟩,
   ⟨some 133, .bin .add (.t 132) (.k (.int .i64 1)), none⟩,
   ⟨some 134, .call K.f46 [(.t 129), (.t 131), (.t 133)], none⟩])))))))))⟩
theorem eq_f75 (Φ : Calls') (a0 a1 a2 : AV) (H : AH) (Q : Post) : fnE1 Φ ir_f75 [a0, a1, a2] H Q = f75 Φ a0 a1 a2 H Q := by kernel_rfl
def f76_k1 (Φ : Calls') (a0 : AV) (Q : Post) : List AV → AH → Prop := fun j4 H5 =>
 Do (anilck a0) fun x16 =>
 Do (afaddr 5 x16) fun x17 =>
 Do (aload H5 1 false x17) fun x18 =>
 Do (abin .sub x18 (.int .i64 1)) fun x19 =>
 Do (anilck a0) fun x20 =>
 Do (afaddr 5 x20) fun x21 =>
 Do (astore H5 1 x21 x19) fun H22 =>
 Q (.tup []) H22
def f76 (Φ : Calls') (a0 : AV) (H : AH) (Q : Post) : Prop :=
 Do (anilck a0) fun x1 =>
 Do (afaddr 20 x1) fun x2 =>
 Do (aload H 1 false x2) fun x3 =>
 Gd x3 true (
 Q (.tup []) H) (
 Do (anilck a0) fun x6 =>
 Do (afaddr 5 x6) fun x7 =>
 Do (aload H 1 false x7) fun x8 =>
 Do (abin .lss x8 (.int .i64 1)) fun x9 =>
 Gd x9 true (
 Do (anilck a0) fun x10 =>
 Do (afaddr 20 x10) fun x11 =>
 Do (astore H 1 x11 (.bool true)) fun H12 =>
 Do (anilck a0) fun x13 =>
 Do (afaddr 21 x13) fun x14 =>
 Do (astore H12 1 x14 (.bool true)) fun H15 =>
 JoinP (f76_k1 Φ a0 Q) [] H15) (
 JoinP (f76_k1 Φ a0 Q) [] H))
noncomputable def ir_f76 : AFunc := decF Go.Proofs.YtggbkidckoecfaaGreatDoor.rb.C ⟨76,[],[],none,[],[]⟩
theorem eq_f76 (Φ : Calls') (a0 : AV) (H : AH) (Q : Post) : fnE1 Φ ir_f76 [a0] H Q = f76 Φ a0 H Q := by kernel_rfl
def f77_k1 (Φ : Calls') (a0 a2 x1 : AV) (L65 : (List AV × AH) → Prop) (Q : Post) : List AV → AH → Prop := fun j66 H67 =>
 Do (afaddr 8 x1) fun x81 =>
 Do (aload H67 1 false x81) fun x82 =>
 Do (afaddr 7 x1) fun x83 =>
 Do (aload H67 1 false x83) fun x84 =>
Φ K.f110 [x84] H67 fun x85 H86 =>
(aload H86 1 false x81 = some x82) ∧
(Do (abin .add a2 x85) fun x87 =>
Φ K.f48 [a0, x82, x87] H86 fun x88 H89 =>
 Do (afaddr 1 x1) fun x90 =>
 Do (aload H89 1 false x90) fun x91 =>
 Do (anilck a0) fun x92 =>
 Do (afaddr 4 x92) fun x93 =>
 Do (astore H89 1 x93 x91) fun H94 =>
 L65 ([], H94))
def f77_k2 (Φ : Calls') (a0 a2 x1 : AV) (L65 : (List AV × AH) → Prop) (Q : Post) : List AV → AH → Prop := fun j68 H69 =>
 Gd (sl j68 0) true (
 JoinP (f77_k1 Φ a0 a2 x1 L65 Q) [] H69) (
 Q (.tup []) H69)
def f77_l3 (Φ : Calls') (a0 a2 x1 : AV) (Q : Post) : (List AV × AH) → ((List AV × AH) → Prop) → Prop := fun s64 L65 =>
 Do (afaddr 7 x1) fun x70 =>
 Do (aload s64.2 1 false x70) fun x71 =>
 Do (aiaddr none 8 x71 (.int .i64 0)) fun x72 =>
 Do (aload s64.2 8 true x72) fun x73 =>
Φ K.f109 [a0, x73, a2] s64.2 fun x74 H75 =>
 Do (abin .neq x74 (.int .u64 0)) fun x76 =>
 Gd3 x76 true (
 Do (anilck a0) fun x77 =>
 Do (afaddr 20 x77) fun x78 =>
 Do (aload H75 1 false x78) fun x79 =>
 Do (aun .not x79) fun x80 =>
 JoinP (f77_k2 Φ a0 a2 x1 L65 Q) [x80] H75) (
 JoinP (f77_k2 Φ a0 a2 x1 L65 Q) [(.bool false)] H75) (
 False)
def f77_k4 (Φ : Calls') (a0 a2 x1 x4 : AV) (Q : Post) : List AV → AH → Prop := fun j5 H6 =>
 Gd (sl j5 0) true (
 Do (aload H6 10 true x1) fun x8 =>
Φ K.f104 [a0, x8, a2] H6 fun x9 H10 =>
 Q (.tup []) H10) (
 Do (abin .eql x4 (.int .i64 5)) fun x11 =>
 Gd x11 true (
 Do (afaddr 5 x1) fun x12 =>
 Do (aload H6 2 true x12) fun x13 =>
Φ K.f105 [a0, x13, a2] H6 fun x14 H15 =>
 Do (aextract 0 x14) fun x16 =>
 Do (aextract 1 x14) fun x17 =>
 DoH (some (abox H15 true [.int .i64 0, .int .i64 0, .int .i64 0, .bool false, .int .i64 0, .int .i64 0])) fun x18 H19 =>
 Do (astore H19 6 x18 x16) fun H20 =>
 Gd x17 true (
 Do (aload H20 6 true x18) fun x21 =>
 Do (afaddr 4 x1) fun x22 =>
 Do (aload H20 1 false x22) fun x23 =>
 Do (afaddr 5 x1) fun x24 =>
 Do (aload H20 2 true x24) fun x25 =>
Φ K.f107 [x25] H20 fun x26 H27 =>
(aload H27 6 true x18 = some x21) ∧
(aload H27 1 false x22 = some x23) ∧
(Do (abin .add a2 x26) fun x28 =>
 Do (abin .add x28 (.int .i64 1)) fun x29 =>
 Do (abuild [.int .i64 0, .int .i64 0, .int .i64 0, .int .i64 0, .int .i64 0, .int .i64 0, .bool false, .int .i64 0, .int .i64 0, .int .i64 0, .int .i64 0, .int .u64 0, .int .u64 0] [(0, 1, (.int .i64 1)), (3, 6, x21), (9, 1, x23), (1, 1, x29)]) fun x30 =>
Φ K.f106 [a0, x30] H27 fun x31 H32 =>
 DoH (some (abox H32 true [.int .u64 0, .int .u64 0])) fun x33 H34 =>
(aload H34 6 true x18 = some x21) ∧
(aload H34 1 false x22 = some x23) ∧
(aload H34 2 true x24 = some x25) ∧
(Do (astore H34 2 x33 x31) fun H35 =>
 Do (anilck a0) fun x36 =>
 Do (afaddr 20 x36) fun x37 =>
 Do (aload H35 1 false x37) fun x38 =>
 Do (aun .not x38) fun x39 =>
 Gd x39 true (
 Do (afaddr 2 x1) fun x40 =>
 Do (aload H35 1 false x40) fun x41 =>
 Do (afaddr 3 x1) fun x42 =>
 Do (aload H35 1 false x42) fun x43 =>
 Do (aiaddr (some 2) 1 x33 (.int .i64 0)) fun x44 =>
 Do (aload H35 1 false x44) fun x45 =>
 Do (aiaddr (some 2) 1 x33 (.int .i64 1)) fun x46 =>
 Do (aload H35 1 false x46) fun x47 =>
Φ K.f108 [a0, x41] H35 fun x48 H49 =>
(aload H49 1 false x42 = some x43) ∧
(aload H49 1 false x44 = some x45) ∧
(aload H49 1 false x46 = some x47) ∧
(Φ K.f108 [a0, x43] H49 fun x50 H51 =>
(aload H51 1 false x44 = some x45) ∧
(aload H51 1 false x46 = some x47) ∧
(Do (anilck x48) fun x52 =>
 Do (astore H51 1 x52 x45) fun H53 =>
(aload H53 1 false x46 = some x47) ∧
(Do (anilck x50) fun x54 =>
 Do (astore H53 1 x54 x47) fun H55 =>
 Q (.tup []) H55)))) (
 Q (.tup []) H35)))) (
 Q (.tup []) H20)) (
 Do (abin .eql x4 (.int .i64 7)) fun x56 =>
 Gd x56 true (
 Do (afaddr 4 x1) fun x57 =>
 Do (aload H6 1 false x57) fun x58 =>
 Do (abin .add a2 (.int .i64 1)) fun x59 =>
 Do (abuild [.int .i64 0, .int .i64 0, .int .i64 0, .int .i64 0, .int .i64 0, .int .i64 0, .bool false, .int .i64 0, .int .i64 0, .int .i64 0, .int .i64 0, .int .u64 0, .int .u64 0] [(0, 1, (.int .i64 4)), (9, 1, x58), (1, 1, x59)]) fun x60 =>
Φ K.f106 [a0, x60] H6 fun x61 H62 =>
 Q (.tup []) H62) (
 Do (abin .eql x4 (.int .i64 9)) fun x63 =>
 Gd x63 true (
 LoopP (f77_l3 Φ a0 a2 x1 Q) ([], H6)) (
 Do (aload H6 10 true x1) fun x95 =>
Φ K.f111 [a0, x95, a2] H6 fun x96 H97 =>
 Q (.tup []) H97))))
def f77 (Φ : Calls') (a0 a1 a2 : AV) (H : AH) (Q : Post) : Prop :=
 DoH (aboxv H false 10 a1) fun x1 H2 =>
 Do (afaddr 0 x1) fun x3 =>
 Do (aload H2 1 false x3) fun x4 =>
 Do (abin .eql x4 (.int .i64 3)) fun x7 =>
 Gd x7 true (
 JoinP (f77_k4 Φ a0 a2 x1 x4 Q) [x7] H2) (
 Do (abin .eql x4 (.int .i64 4)) fun x98 =>
 Gd x98 true (
 JoinP (f77_k4 Φ a0 a2 x1 x4 Q) [x98] H2) (
 Do (abin .eql x4 (.int .i64 6)) fun x99 =>
 JoinP (f77_k4 Φ a0 a2 x1 x4 Q) [x99] H2))
noncomputable def ir_f77 : AFunc := decF Go.Proofs.YtggbkidckoecfaaGreatDoor.rb.C ⟨77,[6,8],[[]],none,[],[]⟩
theorem eq_f77 (Φ : Calls') (a0 a1 a2 : AV) (H : AH) (Q : Post) : fnE1 Φ ir_f77 [a0, a1, a2] H Q = f77 Φ a0 a1 a2 H Q := by kernel_rfl
def f78_k1 (Φ : Calls') (s2 : List AV × AH) (L3 : (List AV × AH) → Prop) (Q : Post) : List AV → AH → Prop := fun j5 H6 =>
 Do (abin .add (sl s2.1 1) (.int .i64 1)) fun x41 =>
 L3 ([(sl j5 0), x41], H6)
def f78_k2 (Φ : Calls') (x31 : AV) (s2 : List AV × AH) (L3 : (List AV × AH) → Prop) (Q : Post) : List AV → AH → Prop := fun j32 H33 =>
 Gd (sl j32 0) true (
 Do (abin .add x31 (.int .i64 1)) fun x40 =>
 JoinP (f78_k1 Φ s2 L3 Q) [x40] H33) (
 JoinP (f78_k1 Φ s2 L3 Q) [x31] H33)
def f78_l3 (Φ : Calls') (a0 x1 : AV) (Q : Post) : (List AV × AH) → ((List AV × AH) → Prop) → Prop := fun s2 L3 =>
 Do (abin .lss (sl s2.1 1) x1) fun x4 =>
 Gd x4 true (
 Do (aiaddr none 10 a0 (sl s2.1 1)) fun x7 =>
 Do (aload s2.2 10 true x7) fun x8 =>
 DoH (some (abox s2.2 true [.int .i64 0, .int .i64 0, .str [], .str [], .int .i64 0, .str [], .lst .nil 0 [], .lst .nil 0 [], .lst .nil 0 [], .lst .nil 0 []])) fun x9 H10 =>
 Do (astore H10 10 x9 x8) fun H11 =>
 Do (afaddr 5 x9) fun x12 =>
 Do (aload H11 2 true x12) fun x13 =>
 Do (afaddr 7 x9) fun x14 =>
 Do (aload H11 1 false x14) fun x15 =>
 Do (afaddr 8 x9) fun x16 =>
 Do (aload H11 1 false x16) fun x17 =>
 Do (afaddr 9 x9) fun x18 =>
 Do (aload H11 1 false x18) fun x19 =>
Φ K.f107 [x13] H11 fun x20 H21 =>
(aload H21 1 false x14 = some x15) ∧
(aload H21 1 false x16 = some x17) ∧
(aload H21 1 false x18 = some x19) ∧
(Φ K.f110 [x15] H21 fun x22 H23 =>
(aload H23 1 false x16 = some x17) ∧
(aload H23 1 false x18 = some x19) ∧
(Do (abin .add x20 x22) fun x24 =>
Φ K.f78 [x17] H23 fun x25 H26 =>
(aload H26 1 false x18 = some x19) ∧
(Do (abin .add x24 x25) fun x27 =>
Φ K.f78 [x19] H26 fun x28 H29 =>
 Do (abin .add x27 x28) fun x30 =>
 Do (abin .add (sl s2.1 0) x30) fun x31 =>
 Do (afaddr 0 x9) fun x34 =>
 Do (aload H29 1 false x34) fun x35 =>
 Do (abin .geq x35 (.int .i64 3)) fun x36 =>
 Gd3 x36 true (
 Do (afaddr 0 x9) fun x37 =>
 Do (aload H29 1 false x37) fun x38 =>
 Do (abin .leq x38 (.int .i64 7)) fun x39 =>
 JoinP (f78_k2 Φ x31 s2 L3 Q) [x39] H29) (
 JoinP (f78_k2 Φ x31 s2 L3 Q) [(.bool false)] H29) (
 False))))) (
 Q (sl s2.1 0) s2.2)
def f78 (Φ : Calls') (a0 : AV) (H : AH) (Q : Post) : Prop :=
 Do (alen false a0) fun x1 =>
 LoopP (f78_l3 Φ a0 x1 Q) ([(.int .i64 0), (.int .i64 0)], H)
noncomputable def ir_f78 : AFunc := decF Go.Proofs.YtggbkidckoecfaaGreatDoor.rb.C ⟨78,[5],[[3,8]],none,[],[]⟩
theorem eq_f78 (Φ : Calls') (a0 : AV) (H : AH) (Q : Post) : fnE1 Φ ir_f78 [a0] H Q = f78 Φ a0 H Q := by kernel_rfl
def f93 (Φ : Calls') (a0 : AV) (H : AH) (Q : Post) : Prop :=
 DoH (aboxv H false 6 a0) fun x1 H2 =>
 DoH (some (abox H2 true [.int .i64 0, .int .i64 0])) fun x3 H4 =>
 Do (aload H4 6 true x1) fun x5 =>
Φ K.f125 [x5] H4 fun x6 H7 =>
 Do (abin .neq x6 (.int .i64 0)) fun x8 =>
 Gd x8 true (
 Do (abuild [.int .i64 0, .int .i64 0] []) fun x9 =>
 Do (astore H7 2 x3 x9) fun H10 =>
 Do (aload H10 2 true x3) fun x11 =>
 Q (.tup [x11, x6]) H10) (
 Do (aload H7 6 true x1) fun x12 =>
Φ K.f126 [x12] H7 fun x13 H14 =>
 Gd x13 true (
 Do (abuild [.int .i64 0, .int .i64 0] []) fun x15 =>
 Do (astore H14 2 x3 x15) fun H16 =>
 Do (aload H16 2 true x3) fun x17 =>
 Q (.tup [x17, (.int .i64 10)]) H16) (
 Do (aload H14 6 true x1) fun x18 =>
Φ K.f127 [x18] H14 fun x19 H20 =>
 Do (aextract 0 x19) fun x21 =>
 Do (aextract 1 x19) fun x22 =>
 DoH (some (abox H20 true [.int .i64 0, .int .i64 0])) fun x23 H24 =>
 Do (astore H24 2 x23 x21) fun H25 =>
 Do (aun .not x22) fun x26 =>
 Gd x26 true (
 Do (abuild [.int .i64 0, .int .i64 0] []) fun x27 =>
 Do (astore H25 2 x3 x27) fun H28 =>
 Do (aload H28 2 true x3) fun x29 =>
 Q (.tup [x29, (.int .i64 9)]) H28) (
 Do (aload H25 2 true x23) fun x30 =>
 Do (astore H25 2 x3 x30) fun H31 =>
 Do (aload H31 2 true x3) fun x32 =>
 Q (.tup [x32, (.int .i64 0)]) H31)))
noncomputable def ir_f93 : AFunc := decF Go.Proofs.YtggbkidckoecfaaGreatDoor.rb.C ⟨93,[2,5],[],none,[],[]⟩
theorem eq_f93 (Φ : Calls') (a0 : AV) (H : AH) (Q : Post) : fnE1 Φ ir_f93 [a0] H Q = f93 Φ a0 H Q := by kernel_rfl
def f94 (Φ : Calls') (a0 : AV) (H : AH) (Q : Post) : Prop :=
 Do (abin .geq a0 (.int .i32 97)) fun x1 =>
 Gd3 x1 true (
 Do (abin .leq a0 (.int .i32 122)) fun x2 =>
 Q x2 H) (
 Q (.bool false) H) (
 False)
noncomputable def ir_f94 : AFunc := decF Go.Proofs.YtggbkidckoecfaaGreatDoor.rb.C ⟨94,[],[],none,[],[]⟩
theorem eq_f94 (Φ : Calls') (a0 : AV) (H : AH) (Q : Post) : fnE1 Φ ir_f94 [a0] H Q = f94 Φ a0 H Q := by kernel_rfl
def f95 (Φ : Calls') (a0 a1 : AV) (H : AH) (Q : Post) : Prop :=
Φ K.f128 [a0, a1] H fun x1 H2 =>
 Do (abin .geq x1 (.int .i64 0)) fun x3 =>
 Q x3 H2
noncomputable def ir_f95 : AFunc := decF Go.Proofs.YtggbkidckoecfaaGreatDoor.rb.C ⟨95,[],[],none,[],[]⟩
theorem eq_f95 (Φ : Calls') (a0 a1 : AV) (H : AH) (Q : Post) : fnE1 Φ ir_f95 [a0, a1] H Q = f95 Φ a0 a1 H Q := by kernel_rfl
def f97_l1 (Φ : Calls') (a0 a1 x1 : AV) (Q : Post) : (List AV × AH) → ((List AV × AH) → Prop) → Prop := fun s2 L3 =>
 Do (abin .lss (sl s2.1 0) x1) fun x4 =>
 Gd x4 true (
 Do (aiaddr none 7 a0 (sl s2.1 0)) fun x5 =>
 Do (aload s2.2 7 true x5) fun x6 =>
∃ k9 c10, a1 = .fn k9 c10 ∧ Φ (fkey k9) (fargs k9 [x6] c10) s2.2 fun x7 H8 =>
 Gd x7 true (
 Q (sl s2.1 0) H8) (
 Do (abin .add (sl s2.1 0) (.int .i64 1)) fun x11 =>
 L3 ([x11], H8))) (
 Q (.int .i64 (-1)) s2.2)
def f97 (Φ : Calls') (a0 a1 : AV) (H : AH) (Q : Post) : Prop :=
 Do (alen false a0) fun x1 =>
 LoopP (f97_l1 Φ a0 a1 x1 Q) ([(.int .i64 0)], H)
noncomputable def ir_f97 : AFunc := decF Go.Proofs.YtggbkidckoecfaaGreatDoor.rb.C ⟨97,[],[[8]],none,[],[]⟩
theorem eq_f97 (Φ : Calls') (a0 a1 : AV) (H : AH) (Q : Post) : fnE1 Φ ir_f97 [a0, a1] H Q = f97 Φ a0 a1 H Q := by kernel_rfl
def f98_k1 (Φ : Calls') (a0 a2 : AV) (Q : Post) : List AV → AH → Prop := fun j1 H2 =>
 Gd (sl j1 0) true (
 Do (anilck a0) fun x7 =>
 Do (afaddr 3 x7) fun x8 =>
 Do (aload H2 1 false x8) fun x9 =>
 Do (abuild [.int .i64 0, .int .i64 0] [(0, 1, x9), (1, 1, a2)]) fun x10 =>
 Do (anilck a0) fun x11 =>
 Do (afaddr 4 x11) fun x12 =>
 Do (astore H2 2 x12 x10) fun H13 =>
 Q (.tup []) H13) (
 Q (.tup []) H2)
def f98 (Φ : Calls') (a0 a1 a2 : AV) (H : AH) (Q : Post) : Prop :=
 Do (aun .not a1) fun x3 =>
 Gd3 x3 true (
Φ K.f47 [a0] H fun x4 H5 =>
 Do (aun .not x4) fun x6 =>
 JoinP (f98_k1 Φ a0 a2 Q) [x6] H5) (
 JoinP (f98_k1 Φ a0 a2 Q) [(.bool false)] H) (
 False)
noncomputable def ir_f98 : AFunc := decF Go.Proofs.YtggbkidckoecfaaGreatDoor.rb.C ⟨98,[],[],none,[],[]⟩
theorem eq_f98 (Φ : Calls') (a0 a1 a2 : AV) (H : AH) (Q : Post) : fnE1 Φ ir_f98 [a0, a1, a2] H Q = f98 Φ a0 a1 a2 H Q := by kernel_rfl
def f99_k1 (Φ : Calls') (x1 x9 : AV) (Q : Post) : List AV → AH → Prop := fun j42 H43 =>
 Gd3 (sl j42 0) true (
 Do (afaddr 5 x9) fun x50 =>
 Do (aload H43 1 false x50) fun x51 =>
 Gd3 x51 false (
 Do (afaddr 9 x1) fun x52 =>
 Do (aload H43 1 false x52) fun x53 =>
 Do (alen false x53) fun x54 =>
 Do (abin .eql x54 (.int .i64 0)) fun x55 =>
 Q x55 H43) (
 Q (.bool true) H43) (
 False)) (
 Q (.bool false) H43) (
 False)
def f99_k2 (Φ : Calls') (x1 x9 : AV) (Q : Post) : List AV → AH → Prop := fun j34 H35 =>
 Gd3 (sl j34 0) true (
 Do (afaddr 4 x9) fun x44 =>
 Do (aload H35 1 false x44) fun x45 =>
 Gd3 x45 false (
 Do (afaddr 8 x1) fun x46 =>
 Do (aload H35 1 false x46) fun x47 =>
 Do (alen false x47) fun x48 =>
 Do (abin .eql x48 (.int .i64 0)) fun x49 =>
 JoinP (f99_k1 Φ x1 x9 Q) [x49] H35) (
 JoinP (f99_k1 Φ x1 x9 Q) [(.bool true)] H35) (
 False)) (
 JoinP (f99_k1 Φ x1 x9 Q) [(.bool false)] H35) (
 False)
def f99_k3 (Φ : Calls') (x1 x9 : AV) (Q : Post) : List AV → AH → Prop := fun j26 H27 =>
 Gd3 (sl j26 0) true (
 Do (afaddr 7 x1) fun x36 =>
 Do (aload H27 1 false x36) fun x37 =>
 Do (alen false x37) fun x38 =>
 Do (afaddr 3 x9) fun x39 =>
 Do (aload H27 1 false x39) fun x40 =>
 Do (abin .eql x38 x40) fun x41 =>
 JoinP (f99_k2 Φ x1 x9 Q) [x41] H27) (
 JoinP (f99_k2 Φ x1 x9 Q) [(.bool false)] H27) (
 False)
def f99_k4 (Φ : Calls') (x1 x9 : AV) (Q : Post) : List AV → AH → Prop := fun j19 H20 =>
 Gd3 (sl j19 0) true (
 Do (afaddr 2 x9) fun x28 =>
 Do (aload H20 1 false x28) fun x29 =>
 Gd3 x29 false (
 Do (afaddr 5 x1) fun x30 =>
 Do (aload H20 2 true x30) fun x31 =>
Φ K.f132 [x31] H20 fun x32 H33 =>
 JoinP (f99_k3 Φ x1 x9 Q) [x32] H33) (
 JoinP (f99_k3 Φ x1 x9 Q) [(.bool true)] H20) (
 False)) (
 JoinP (f99_k3 Φ x1 x9 Q) [(.bool false)] H20) (
 False)
def f99_k5 (Φ : Calls') (x1 x9 : AV) (Q : Post) : List AV → AH → Prop := fun j12 H13 =>
 Gd3 (sl j12 0) true (
 Do (afaddr 1 x9) fun x21 =>
 Do (aload H13 1 false x21) fun x22 =>
 Gd3 x22 false (
 Do (afaddr 3 x1) fun x23 =>
 Do (aload H13 1 false x23) fun x24 =>
 Do (abin .eql x24 (.str [])) fun x25 =>
 JoinP (f99_k4 Φ x1 x9 Q) [x25] H13) (
 JoinP (f99_k4 Φ x1 x9 Q) [(.bool true)] H13) (
 False)) (
 JoinP (f99_k4 Φ x1 x9 Q) [(.bool false)] H13) (
 False)
def f99 (Φ : Calls') (a0 : AV) (H : AH) (Q : Post) : Prop :=
 DoH (aboxv H false 10 a0) fun x1 H2 =>
 Do (afaddr 0 x1) fun x3 =>
 Do (aload H2 1 false x3) fun x4 =>
Φ K.f131 [x4] H2 fun x5 H6 =>
 Do (aextract 0 x5) fun x7 =>
 Do (aextract 1 x5) fun x8 =>
 DoH (some (abox H6 true [.bool false, .bool false, .bool false, .int .i64 0, .bool false, .bool false])) fun x9 H10 =>
 Do (astore H10 6 x9 x7) fun H11 =>
 Gd3 x8 true (
 Do (afaddr 0 x9) fun x14 =>
 Do (aload H11 1 false x14) fun x15 =>
 Gd3 x15 false (
 Do (afaddr 2 x1) fun x16 =>
 Do (aload H11 1 false x16) fun x17 =>
 Do (abin .eql x17 (.str [])) fun x18 =>
 JoinP (f99_k5 Φ x1 x9 Q) [x18] H11) (
 JoinP (f99_k5 Φ x1 x9 Q) [(.bool true)] H11) (
 False)) (
 JoinP (f99_k5 Φ x1 x9 Q) [(.bool false)] H11) (
 False)
noncomputable def ir_f99 : AFunc := decF Go.Proofs.YtggbkidckoecfaaGreatDoor.rb.C ⟨99,[3],[],none,[],[]⟩
theorem eq_f99 (Φ : Calls') (a0 : AV) (H : AH) (Q : Post) : fnE1 Φ ir_f99 [a0] H Q = f99 Φ a0 H Q := by kernel_rfl
def f100_k1 (Φ : Calls') (a1 : AV) (Q : Post) : List AV → AH → Prop := fun j6 H7 =>
 Gd3 (sl j6 0) false (
 Do (abin .eql a1 (.int .i64 4)) fun x10 =>
 Q x10 H7) (
 Q (.bool true) H7) (
 False)
def f100_k2 (Φ : Calls') (a1 : AV) (Q : Post) : List AV → AH → Prop := fun j14 H15 =>
 Gd3 (sl j14 0) false (
 Do (abin .eql a1 (.int .i64 4)) fun x18 =>
 Q x18 H15) (
 Q (.bool true) H15) (
 False)
def f100_k3 (Φ : Calls') (a1 : AV) (Q : Post) : List AV → AH → Prop := fun j1 H2 =>
 Do (abin .eql a1 (.int .i64 0)) fun x27 =>
 Q x27 H2
def f100_k4 (Φ : Calls') (a0 a1 : AV) (Q : Post) : List AV → AH → Prop := fun j19 H20 =>
 Gd (sl j19 0) true (
 Do (abin .geq a1 (.int .i64 1)) fun x22 =>
 Gd3 x22 true (
 Do (abin .leq a1 (.int .i64 4)) fun x23 =>
 Q x23 H20) (
 Q (.bool false) H20) (
 False)) (
 Do (abin .eql a0 (.int .i64 7)) fun x24 =>
 Gd x24 true (
 Do (abin .geq a1 (.int .i64 2)) fun x25 =>
 Gd3 x25 true (
 Do (abin .leq a1 (.int .i64 4)) fun x26 =>
 Q x26 H20) (
 Q (.bool false) H20) (
 False)) (
 JoinP (f100_k3 Φ a1 Q) [] H20))
def f100_k5 (Φ : Calls') (a0 a1 : AV) (Q : Post) : List AV → AH → Prop := fun j11 H12 =>
 Gd (sl j11 0) true (
 Do (abin .eql a1 (.int .i64 1)) fun x16 =>
 Gd3 x16 false (
 Do (abin .eql a1 (.int .i64 2)) fun x17 =>
 JoinP (f100_k2 Φ a1 Q) [x17] H12) (
 JoinP (f100_k2 Φ a1 Q) [(.bool true)] H12) (
 False)) (
 Do (abin .eql a0 (.int .i64 16)) fun x21 =>
 Gd x21 true (
 JoinP (f100_k4 Φ a0 a1 Q) [x21] H12) (
 Do (abin .eql a0 (.int .i64 17)) fun x28 =>
 Gd x28 true (
 JoinP (f100_k4 Φ a0 a1 Q) [x28] H12) (
 Do (abin .eql a0 (.int .i64 18)) fun x29 =>
 JoinP (f100_k4 Φ a0 a1 Q) [x29] H12)))
def f100_k6 (Φ : Calls') (a0 a1 : AV) (Q : Post) : List AV → AH → Prop := fun j3 H4 =>
 Gd (sl j3 0) true (
 Do (abin .eql a1 (.int .i64 1)) fun x8 =>
 Gd3 x8 false (
 Do (abin .eql a1 (.int .i64 3)) fun x9 =>
 JoinP (f100_k1 Φ a1 Q) [x9] H4) (
 JoinP (f100_k1 Φ a1 Q) [(.bool true)] H4) (
 False)) (
 Do (abin .eql a0 (.int .i64 5)) fun x13 =>
 Gd x13 true (
 JoinP (f100_k5 Φ a0 a1 Q) [x13] H4) (
 Do (abin .eql a0 (.int .i64 15)) fun x30 =>
 JoinP (f100_k5 Φ a0 a1 Q) [x30] H4))
def f100 (Φ : Calls') (a0 a1 : AV) (H : AH) (Q : Post) : Prop :=
 Do (abin .eql a0 (.int .i64 4)) fun x5 =>
 Gd x5 true (
 JoinP (f100_k6 Φ a0 a1 Q) [x5] H) (
 Do (abin .eql a0 (.int .i64 6)) fun x31 =>
 JoinP (f100_k6 Φ a0 a1 Q) [x31] H)
noncomputable def ir_f100 : AFunc := decF Go.Proofs.YtggbkidckoecfaaGreatDoor.rb.C ⟨100,[],[],none,[],[]⟩
theorem eq_f100 (Φ : Calls') (a0 a1 : AV) (H : AH) (Q : Post) : fnE1 Φ ir_f100 [a0, a1] H Q = f100 Φ a0 a1 H Q := by kernel_rfl
def f101 (Φ : Calls') (a0 a1 : AV) (H : AH) (Q : Post) : Prop :=
 Do (anilck a0) fun x1 =>
 Do (afaddr 1 x1) fun x2 =>
 Do (aload H 1 false x2) fun x3 =>
Φ K.f95 [x3, a1] H fun x4 H5 =>
 Q x4 H5
noncomputable def ir_f101 : AFunc := decF Go.Proofs.YtggbkidckoecfaaGreatDoor.rb.C ⟨101,[],[],none,[],[]⟩
theorem eq_f101 (Φ : Calls') (a0 a1 : AV) (H : AH) (Q : Post) : fnE1 Φ ir_f101 [a0, a1] H Q = f101 Φ a0 a1 H Q := by kernel_rfl
def f102_k1 (Φ : Calls') (s31 : List AV × AH) (L32 : (List AV × AH) → Prop) (Q : Post) : List AV → AH → Prop := fun j34 H35 =>
 Do (abin .add (sl s31.1 0) (.int .i64 1)) fun x57 =>
 L32 ([x57], H35)
def f102_l2 (Φ : Calls') (a0 a3 x42 x43 : AV) (s31 : List AV × AH) (L32 : (List AV × AH) → Prop) (Q : Post) : (List AV × AH) → ((List AV × AH) → Prop) → Prop := fun s44 L45 =>
 Do (abin .lss (sl s44.1 0) x43) fun x46 =>
 Gd x46 true (
 Do (aiaddr none 8 x42 (sl s44.1 0)) fun x47 =>
 Do (aload s44.2 8 true x47) fun x48 =>
 DoH (some (abox s44.2 true [.int .i64 0, .int .u64 0, .str [], .int .i64 0, .int .i64 0, .str [], .lst .nil 0 [], .lst .nil 0 []])) fun x49 H50 =>
 Do (astore H50 8 x49 x48) fun H51 =>
 Do (aload H51 8 true x49) fun x52 =>
 Do (abin .add a3 (.int .i64 1)) fun x53 =>
Φ K.f135 [a0, x52, x53] H51 fun x54 H55 =>
 Do (abin .add (sl s44.1 0) (.int .i64 1)) fun x56 =>
 L45 ([x56], H55)) (
 JoinP (f102_k1 Φ s31 L32 Q) [] s44.2)
def f102_l3 (Φ : Calls') (a0 a3 x29 x30 : AV) (Q : Post) : (List AV × AH) → ((List AV × AH) → Prop) → Prop := fun s31 L32 =>
 Do (abin .lss (sl s31.1 0) x30) fun x33 =>
 Gd x33 true (
 Do (aiaddr none 2 x29 (sl s31.1 0)) fun x36 =>
 Do (aload s31.2 2 true x36) fun x37 =>
 DoH (some (abox s31.2 true [.str [], .lst .nil 0 []])) fun x38 H39 =>
 Do (astore H39 2 x38 x37) fun H40 =>
 Do (afaddr 1 x38) fun x41 =>
 Do (aload H40 1 false x41) fun x42 =>
 Do (alen false x42) fun x43 =>
 LoopP (f102_l2 Φ a0 a3 x42 x43 s31 L32 Q) ([(.int .i64 0)], H40)) (
 Q (.tup []) s31.2)
def f102_k4 (Φ : Calls') (a0 a3 x1 : AV) (Q : Post) : List AV → AH → Prop := fun j19 H20 =>
 Do (afaddr 1 x1) fun x28 =>
 Do (aload H20 1 false x28) fun x29 =>
 Do (alen false x29) fun x30 =>
 LoopP (f102_l3 Φ a0 a3 x29 x30 Q) ([(.int .i64 0)], H20)
def f102 (Φ : Calls') (a0 a1 a2 a3 : AV) (H : AH) (Q : Post) : Prop :=
 DoH (aboxv H false 2 a2) fun x1 H2 =>
Φ K.f47 [a0] H2 fun x3 H4 =>
 Gd x3 true (
 Q (.tup []) H4) (
 Do (anilck a0) fun x5 =>
 Do (afaddr 0 x5) fun x6 =>
 Do (aload H4 1 false x6) fun x7 =>
 Do (aload H4 2 true x1) fun x8 =>
Φ K.f133 [x7, x8] H4 fun x9 H10 =>
 Do (aextract 0 x9) fun x11 =>
 Do (aextract 1 x9) fun x12 =>
 DoH (some (abox H10 true [.int .i64 0, .int .i64 0, .bool false, .lst .nil 0 [], .int .i64 0, .lst .nil 0 []])) fun x13 H14 =>
(aload H14 1 false x6 = some x7) ∧
(aload H14 2 true x1 = some x8) ∧
(Do (astore H14 6 x13 x11) fun H15 =>
 Do (abin .eql x12 (.int .i64 0)) fun x16 =>
Φ K.f98 [a0, x16, x12] H15 fun x17 H18 =>
Φ K.f47 [a0] H18 fun x21 H22 =>
 Gd3 x21 false (
 Do (aload H22 6 true x13) fun x23 =>
Φ K.f134 [a1, x23] H22 fun x24 H25 =>
Φ K.f98 [a0, x24, (.int .i64 8)] H25 fun x26 H27 =>
 JoinP (f102_k4 Φ a0 a3 x1 Q) [] H27) (
Φ K.f98 [a0, (.bool true), (.int .i64 8)] H22 fun x58 H59 =>
 JoinP (f102_k4 Φ a0 a3 x1 Q) [] H59) (
 False)))
noncomputable def ir_f102 : AFunc := decF Go.Proofs.YtggbkidckoecfaaGreatDoor.rb.C ⟨102,[8,11,13],[[42],[49]],none,[],[]⟩
theorem eq_f102 (Φ : Calls') (a0 a1 a2 a3 : AV) (H : AH) (Q : Post) : fnE1 Φ ir_f102 [a0, a1, a2, a3] H Q = f102 Φ a0 a1 a2 a3 H Q := by kernel_rfl
def f103_k1 (Φ : Calls') (s2 : List AV × AH) (L3 : (List AV × AH) → Prop) (Q : Post) : List AV → AH → Prop := fun j5 H6 =>
 Do (abin .add (sl s2.1 0) (.int .i64 1)) fun x19 =>
 L3 ([x19], H6)
def f103_l2 (Φ : Calls') (a0 a1 a2 x1 : AV) (Q : Post) : (List AV × AH) → ((List AV × AH) → Prop) → Prop := fun s2 L3 =>
 Do (abin .lss (sl s2.1 0) x1) fun x4 =>
 Gd x4 true (
 Do (aiaddr none 8 a1 (sl s2.1 0)) fun x7 =>
 Do (aload s2.2 8 true x7) fun x8 =>
 DoH (some (abox s2.2 true [.int .i64 0, .int .u64 0, .str [], .int .i64 0, .int .i64 0, .str [], .lst .nil 0 [], .lst .nil 0 []])) fun x9 H10 =>
 Do (astore H10 8 x9 x8) fun H11 =>
Φ K.f47 [a0] H11 fun x12 H13 =>
 Do (aun .not x12) fun x14 =>
 Gd x14 true (
 Do (aload H13 8 true x9) fun x15 =>
 Do (abin .add a2 (.int .i64 1)) fun x16 =>
Φ K.f135 [a0, x15, x16] H13 fun x17 H18 =>
 JoinP (f103_k1 Φ s2 L3 Q) [] H18) (
 JoinP (f103_k1 Φ s2 L3 Q) [] H13)) (
 Q (.tup []) s2.2)
def f103 (Φ : Calls') (a0 a1 a2 : AV) (H : AH) (Q : Post) : Prop :=
 Do (alen false a1) fun x1 =>
 LoopP (f103_l2 Φ a0 a1 a2 x1 Q) ([(.int .i64 0)], H)
noncomputable def ir_f103 : AFunc := decF Go.Proofs.YtggbkidckoecfaaGreatDoor.rb.C ⟨103,[7],[[10]],none,[],[]⟩
theorem eq_f103 (Φ : Calls') (a0 a1 a2 : AV) (H : AH) (Q : Post) : fnE1 Φ ir_f103 [a0, a1, a2] H Q = f103 Φ a0 a1 a2 H Q := by kernel_rfl
def f104_k1 (Φ : Calls') (a0 x9 x32 : AV) (Q : Post) : List AV → AH → Prop := fun j35 H36 =>
 Do (afaddr 11 x32) fun x62 =>
 Do (aiaddr (some 2) 1 x62 (.int .i64 0)) fun x63 =>
 Do (aload H36 1 false x63) fun x64 =>
 Do (afaddr 0 x9) fun x65 =>
 Do (afaddr 1 x65) fun x66 =>
 Do (aload H36 1 false x66) fun x67 =>
 Do (abin .mul (.int .i64 8) x67) fun x68 =>
 Do (afaddr 11 x32) fun x69 =>
Φ K.f70 [x68] H36 fun x70 H71 =>
(aload H71 1 false x63 = some x64) ∧
(Do (abin .and x64 x70) fun x72 =>
 Do (aiaddr (some 2) 1 x69 (.int .i64 0)) fun x73 =>
 Do (astore H71 1 x73 x72) fun H74 =>
 Do (aload H74 13 true x32) fun x75 =>
Φ K.f106 [a0, x75] H74 fun x76 H77 =>
 Q (.tup []) H77)
def f104 (Φ : Calls') (a0 a1 a2 : AV) (H : AH) (Q : Post) : Prop :=
 DoH (aboxv H false 10 a1) fun x1 H2 =>
 Do (afaddr 5 x1) fun x3 =>
 Do (aload H2 2 true x3) fun x4 =>
Φ K.f105 [a0, x4, a2] H2 fun x5 H6 =>
 Do (aextract 0 x5) fun x7 =>
 Do (aextract 1 x5) fun x8 =>
 DoH (some (abox H6 true [.int .i64 0, .int .i64 0, .int .i64 0, .bool false, .int .i64 0, .int .i64 0])) fun x9 H10 =>
 Do (astore H10 6 x9 x7) fun H11 =>
 Do (aun .not x8) fun x12 =>
 Gd x12 true (
 Q (.tup []) H11) (
 Do (afaddr 5 x1) fun x13 =>
 Do (aload H11 2 true x13) fun x14 =>
Φ K.f107 [x14] H11 fun x15 H16 =>
 Do (abin .add a2 x15) fun x17 =>
 Do (aload H16 6 true x9) fun x18 =>
 Do (afaddr 4 x1) fun x19 =>
 Do (aload H16 1 false x19) fun x20 =>
 Do (afaddr 7 x1) fun x21 =>
 Do (aload H16 1 false x21) fun x22 =>
 Do (afaddr 7 x1) fun x23 =>
 Do (aload H16 1 false x23) fun x24 =>
Φ K.f136 [a0, x22, x17] H16 fun x25 H26 =>
(aload H26 6 true x9 = some x18) ∧
(aload H26 1 false x19 = some x20) ∧
(aload H26 1 false x23 = some x24) ∧
(Φ K.f110 [x24] H26 fun x27 H28 =>
(aload H28 6 true x9 = some x18) ∧
(aload H28 1 false x19 = some x20) ∧
(Do (abin .add x17 x27) fun x29 =>
 Do (abin .add x29 (.int .i64 1)) fun x30 =>
 Do (abuild [.int .i64 0, .int .i64 0, .int .i64 0, .int .i64 0, .int .i64 0, .int .i64 0, .bool false, .int .i64 0, .int .i64 0, .int .i64 0, .int .i64 0, .int .u64 0, .int .u64 0] [(0, 1, (.int .i64 2)), (3, 6, x18), (9, 1, x20), (11, 2, x25), (1, 1, x30)]) fun x31 =>
 DoH (some (abox H28 true [.int .i64 0, .int .i64 0, .int .i64 0, .int .i64 0, .int .i64 0, .int .i64 0, .bool false, .int .i64 0, .int .i64 0, .int .i64 0, .int .i64 0, .int .u64 0, .int .u64 0])) fun x32 H33 =>
(aload H33 6 true x9 = some x18) ∧
(aload H33 1 false x19 = some x20) ∧
(aload H33 1 false x21 = some x22) ∧
(aload H33 1 false x23 = some x24) ∧
(Do (astore H33 13 x32 x31) fun H34 =>
 Do (afaddr 3 x9) fun x37 =>
 Do (aload H34 1 false x37) fun x38 =>
 Gd x38 true (
 Do (aload H34 6 true x9) fun x39 =>
 Do (afaddr 1 x32) fun x40 =>
 Do (aload H34 1 false x40) fun x41 =>
 Do (abuild [.int .i64 0, .int .i64 0, .int .i64 0, .int .i64 0, .int .i64 0, .int .i64 0, .bool false, .int .i64 0, .int .i64 0, .int .i64 0, .int .i64 0, .int .u64 0, .int .u64 0] [(0, 1, (.int .i64 1)), (3, 6, x39), (1, 1, x41)]) fun x42 =>
Φ K.f106 [a0, x42] H34 fun x43 H44 =>
 DoH (some (abox H44 true [.int .u64 0, .int .u64 0])) fun x45 H46 =>
 Do (astore H46 2 x45 x43) fun H47 =>
 Do (aiaddr (some 2) 1 x45 (.int .i64 0)) fun x48 =>
 Do (aload H47 1 false x48) fun x49 =>
 Do (afaddr 4 x9) fun x50 =>
 Do (aload H47 1 false x50) fun x51 =>
 Do (afaddr 5 x9) fun x52 =>
 Do (aload H47 1 false x52) fun x53 =>
 Do (afaddr 11 x32) fun x54 =>
 Do (aiaddr (some 2) 1 x54 (.int .i64 0)) fun x55 =>
 Do (aload H47 1 false x55) fun x56 =>
Φ K.f137 [x49, x51, x53, x56] H47 fun x57 H58 =>
 Do (afaddr 11 x32) fun x59 =>
 Do (aiaddr (some 2) 1 x59 (.int .i64 0)) fun x60 =>
 Do (astore H58 1 x60 x57) fun H61 =>
 JoinP (f104_k1 Φ a0 x9 x32 Q) [] H61) (
 JoinP (f104_k1 Φ a0 x9 x32 Q) [] H34)))))
noncomputable def ir_f104 : AFunc := decF Go.Proofs.YtggbkidckoecfaaGreatDoor.rb.C ⟨104,[6,8,9],[],none,[],[]⟩
theorem eq_f104 (Φ : Calls') (a0 a1 a2 : AV) (H : AH) (Q : Post) : fnE1 Φ ir_f104 [a0, a1, a2] H Q = f104 Φ a0 a1 a2 H Q := by kernel_rfl
def f105_k1 (Φ : Calls') (s10 : List AV × AH) (L11 : (List AV × AH) → Prop) (Q : Post) : List AV → AH → Prop := fun j13 H14 =>
 Do (abin .add (sl s10.1 2) (.int .i64 1)) fun x24 =>
 L11 ([(sl j13 0), (sl j13 1), x24], H14)
def f105_k2 (Φ : Calls') (a0 x1 x3 : AV) (Q : Post) : List AV → AH → Prop := fun j5 H6 =>
 Do (anilck a0) fun x79 =>
 Do (afaddr 0 x79) fun x80 =>
 Do (aload H6 1 false x80) fun x81 =>
 Do (aload H6 2 true x1) fun x82 =>
Φ K.f138 [x81, x82, (sl j5 0)] H6 fun x83 H84 =>
 Do (aextract 0 x83) fun x85 =>
 Do (aextract 1 x83) fun x86 =>
 DoH (some (abox H84 true [.int .i64 0, .int .i64 0, .int .i64 0, .bool false, .int .i64 0, .int .i64 0])) fun x87 H88 =>
(aload H88 1 false x80 = some x81) ∧
(aload H88 2 true x1 = some x82) ∧
(Do (astore H88 6 x87 x85) fun H89 =>
 Do (aload H89 6 true x87) fun x90 =>
 Do (astore H89 6 x3 x90) fun H91 =>
 Do (aload H91 6 true x3) fun x92 =>
 Q (.tup [x92, (.bool true)]) H91)
def f105_l3 (Φ : Calls') (a0 x1 x3 x8 x9 : AV) (Q : Post) : (List AV × AH) → ((List AV × AH) → Prop) → Prop := fun s10 L11 =>
 Do (abin .lss (sl s10.1 2) x9) fun x12 =>
 Gd x12 true (
 Do (aiaddr none 2 x8 (sl s10.1 2)) fun x15 =>
 Do (aload s10.2 2 true x15) fun x16 =>
 DoH (some (abox s10.2 true [.str [], .lst .nil 0 []])) fun x17 H18 =>
 Do (astore H18 2 x17 x16) fun H19 =>
 Do (afaddr 1 x17) fun x20 =>
 Do (aload H19 1 false x20) fun x21 =>
 Do (alen false x21) fun x22 =>
 Do (abin .eql x22 (.int .i64 0)) fun x23 =>
 Gd x23 true (
 JoinP (f105_k1 Φ s10 L11 Q) [(sl s10.1 0), (sl s10.1 1)] H19) (
 Do (afaddr 1 x17) fun x25 =>
 Do (aload H19 1 false x25) fun x26 =>
 Do (aiaddr none 8 x26 (.int .i64 0)) fun x27 =>
 Do (aload H19 8 true x27) fun x28 =>
Φ K.f109 [a0, x28, (sl s10.1 0)] H19 fun x29 H30 =>
 DoH (abslice H30 false 1 1 [.int .u64 0] [(0, 1, x29)]) fun x31 H32 =>
 DoH (aappend H32 false 1 8 (sl s10.1 1) x31) fun x33 H34 =>
 Do (afaddr 1 x17) fun x35 =>
 Do (aload H34 1 false x35) fun x36 =>
Φ K.f110 [x36] H34 fun x37 H38 =>
 Do (abin .add (sl s10.1 0) x37) fun x39 =>
 Do (anilck a0) fun x40 =>
 Do (afaddr 20 x40) fun x41 =>
 Do (aload H38 1 false x41) fun x42 =>
 Gd x42 true (
 Do (abuild [.int .i64 0, .int .i64 0, .int .i64 0, .bool false, .int .i64 0, .int .i64 0] []) fun x43 =>
 Do (astore H38 6 x3 x43) fun H44 =>
 Do (aload H44 6 true x3) fun x45 =>
 Q (.tup [x45, (.bool false)]) H44) (
 Do (anilck a0) fun x46 =>
 Do (afaddr 0 x46) fun x47 =>
 Do (aload H38 1 false x47) fun x48 =>
 Do (afaddr 0 x1) fun x49 =>
 Do (aload H38 1 false x49) fun x50 =>
 Do (afaddr 1 x1) fun x51 =>
 Do (aload H38 1 false x51) fun x52 =>
 Do (aslice 2 x52 none (some (sl s10.1 2)) none) fun x53 =>
 Do (abuild [.str [], .lst .nil 0 []] [(0, 1, x50), (1, 1, x53)]) fun x54 =>
Φ K.f133 [x48, x54] H38 fun x55 H56 =>
 Do (aextract 0 x55) fun x57 =>
 Do (aextract 1 x55) fun x58 =>
 DoH (some (abox H56 true [.int .i64 0, .int .i64 0, .bool false, .lst .nil 0 [], .int .i64 0, .lst .nil 0 []])) fun x59 H60 =>
(aload H60 1 false x47 = some x48) ∧
(aload H60 1 false x49 = some x50) ∧
(aload H60 1 false x51 = some x52) ∧
(Do (astore H60 6 x59 x57) fun H61 =>
 Do (alen false x33) fun x62 =>
 Do (abin .sub x62 (.int .i64 1)) fun x63 =>
 Do (aiaddr none 1 x33 x63) fun x64 =>
 Do (aload H61 1 false x64) fun x65 =>
 Do (afaddr 4 x59) fun x66 =>
 Do (aload H61 1 false x66) fun x67 =>
 Do (aconv .u64 x67) fun x68 =>
 Do (abin .geq x65 x68) fun x69 =>
 Gd x69 true (
 Do (anilck a0) fun x70 =>
 Do (afaddr 6 x70) fun x71 =>
 Do (astore H61 1 x71 (.int .i64 2)) fun H72 =>
 Do (anilck a0) fun x73 =>
 Do (afaddr 20 x73) fun x74 =>
 Do (astore H72 1 x74 (.bool true)) fun H75 =>
 Do (abuild [.int .i64 0, .int .i64 0, .int .i64 0, .bool false, .int .i64 0, .int .i64 0] []) fun x76 =>
 Do (astore H75 6 x3 x76) fun H77 =>
 Do (aload H77 6 true x3) fun x78 =>
 Q (.tup [x78, (.bool false)]) H77) (
 JoinP (f105_k1 Φ s10 L11 Q) [x39, x33] H61))))) (
 JoinP (f105_k2 Φ a0 x1 x3 Q) [(sl s10.1 1)] s10.2)
def f105 (Φ : Calls') (a0 a1 a2 : AV) (H : AH) (Q : Post) : Prop :=
 DoH (aboxv H false 2 a1) fun x1 H2 =>
 DoH (some (abox H2 true [.int .i64 0, .int .i64 0, .int .i64 0, .bool false, .int .i64 0, .int .i64 0])) fun x3 H4 =>
 Do (afaddr 1 x1) fun x7 =>
 Do (aload H4 1 false x7) fun x8 =>
 Do (alen false x8) fun x9 =>
 LoopP (f105_l3 Φ a0 x1 x3 x8 x9 Q) ([a2, (.lst .nil 0 []), (.int .i64 0)], H4)
noncomputable def ir_f105 : AFunc := decF Go.Proofs.YtggbkidckoecfaaGreatDoor.rb.C ⟨105,[6,10,11,13],[[2,8,18]],none,[],[]⟩
theorem eq_f105 (Φ : Calls') (a0 a1 a2 : AV) (H : AH) (Q : Post) : fnE1 Φ ir_f105 [a0, a1, a2] H Q = f105 Φ a0 a1 a2 H Q := by kernel_rfl
def f106 (Φ : Calls') (a0 a1 : AV) (H : AH) (Q : Post) : Prop :=
 DoH (aboxv H false 13 a1) fun x1 H2 =>
 DoH (some (abox H2 true [.int .u64 0, .int .u64 0])) fun x3 H4 =>
 Do (anilck a0) fun x5 =>
 Do (afaddr 20 x5) fun x6 =>
 Do (aload H4 1 false x6) fun x7 =>
 Gd x7 true (
 Do (abuild [.int .u64 0, .int .u64 0] []) fun x8 =>
 Do (astore H4 2 x3 x8) fun H9 =>
 Do (aload H9 2 true x3) fun x10 =>
 Q x10 H9) (
 Do (anilck a0) fun x11 =>
 Do (afaddr 1 x11) fun x12 =>
 Do (aload H4 1 false x12) fun x13 =>
 Do (alen false x13) fun x14 =>
 Do (abin .eql x14 (.int .i64 0)) fun x15 =>
 Gd x15 true (
 Do (aload H4 13 true x1) fun x16 =>
 Do (anilck a0) fun x17 =>
 Do (afaddr 7 x17) fun x18 =>
 Do (astore H4 13 x18 x16) fun H19 =>
 Do (anilck a0) fun x20 =>
 Do (afaddr 20 x20) fun x21 =>
 Do (astore H19 1 x21 (.bool true)) fun H22 =>
 Do (anilck a0) fun x23 =>
 Do (afaddr 4 x23) fun x24 =>
 Do (aload H22 1 false x24) fun x25 =>
 Do (anilck a0) fun x26 =>
 Do (afaddr 7 x26) fun x27 =>
 Do (afaddr 2 x27) fun x28 =>
 Do (astore H22 1 x28 x25) fun H29 =>
 Do (abuild [.int .u64 0, .int .u64 0] []) fun x30 =>
 Do (astore H29 2 x3 x30) fun H31 =>
 Do (aload H31 2 true x3) fun x32 =>
 Q x32 H31) (
 Do (anilck a0) fun x33 =>
 Do (afaddr 1 x33) fun x34 =>
 Do (aload H4 1 false x34) fun x35 =>
 Do (aiaddr none 2 x35 (.int .i64 0)) fun x36 =>
 Do (aload H4 2 true x36) fun x37 =>
 DoH (some (abox H4 true [.int .u64 0, .int .u64 0])) fun x38 H39 =>
 Do (astore H39 2 x38 x37) fun H40 =>
 Do (anilck a0) fun x41 =>
 Do (afaddr 1 x41) fun x42 =>
 Do (aload H40 1 false x42) fun x43 =>
 Do (aslice 2 x43 (some (.int .i64 1)) none none) fun x44 =>
 Do (anilck a0) fun x45 =>
 Do (afaddr 1 x45) fun x46 =>
 Do (astore H40 1 x46 x44) fun H47 =>
 Do (aload H47 2 true x38) fun x48 =>
 Do (astore H47 2 x3 x48) fun H49 =>
 Do (aload H49 2 true x3) fun x50 =>
 Q x50 H49))
noncomputable def ir_f106 : AFunc := decF Go.Proofs.YtggbkidckoecfaaGreatDoor.rb.C ⟨106,[4,5],[],none,[],[]⟩
theorem eq_f106 (Φ : Calls') (a0 a1 : AV) (H : AH) (Q : Post) : fnE1 Φ ir_f106 [a0, a1] H Q = f106 Φ a0 a1 H Q := by kernel_rfl
def f107_l1 (Φ : Calls') (x4 x5 : AV) (Q : Post) : (List AV × AH) → ((List AV × AH) → Prop) → Prop := fun s6 L7 =>
 Do (abin .lss (sl s6.1 1) x5) fun x8 =>
 Gd x8 true (
 Do (aiaddr none 2 x4 (sl s6.1 1)) fun x9 =>
 Do (aload s6.2 2 true x9) fun x10 =>
 DoH (some (abox s6.2 true [.str [], .lst .nil 0 []])) fun x11 H12 =>
 Do (astore H12 2 x11 x10) fun H13 =>
 Do (afaddr 1 x11) fun x14 =>
 Do (aload H13 1 false x14) fun x15 =>
Φ K.f110 [x15] H13 fun x16 H17 =>
 Do (abin .add (sl s6.1 0) x16) fun x18 =>
 Do (abin .add (sl s6.1 1) (.int .i64 1)) fun x19 =>
 L7 ([x18, x19], H17)) (
 Q (sl s6.1 0) s6.2)
def f107 (Φ : Calls') (a0 : AV) (H : AH) (Q : Post) : Prop :=
 DoH (aboxv H false 2 a0) fun x1 H2 =>
 Do (afaddr 1 x1) fun x3 =>
 Do (aload H2 1 false x3) fun x4 =>
 Do (alen false x4) fun x5 =>
 LoopP (f107_l1 Φ x4 x5 Q) ([(.int .i64 0), (.int .i64 0)], H2)
noncomputable def ir_f107 : AFunc := decF Go.Proofs.YtggbkidckoecfaaGreatDoor.rb.C ⟨107,[5],[[3,9]],none,[],[]⟩
theorem eq_f107 (Φ : Calls') (a0 : AV) (H : AH) (Q : Post) : fnE1 Φ ir_f107 [a0] H Q = f107 Φ a0 H Q := by kernel_rfl
def f108 (Φ : Calls') (a0 a1 : AV) (H : AH) (Q : Post) : Prop :=
 DoH (aboxv H false 1 a1) fun x1 H2 =>
 Do (anilck a0) fun x3 =>
 Do (afaddr 2 x3) fun x4 =>
 Do (aload H2 1 false x4) fun x5 =>
Φ K.f139 [x5, (.fn K.f140 [x1])] H2 fun x6 H7 =>
 Do (anilck a0) fun x8 =>
 Do (afaddr 2 x8) fun x9 =>
 Do (aload H7 1 false x9) fun x10 =>
 Do (aiaddr none 2 x10 x6) fun x11 =>
 Do (afaddr 1 x11) fun x12 =>
 Q x12 H7
noncomputable def ir_f108 : AFunc := decF Go.Proofs.YtggbkidckoecfaaGreatDoor.rb.C ⟨108,[],[],none,[],[]⟩
theorem eq_f108 (Φ : Calls') (a0 a1 : AV) (H : AH) (Q : Post) : fnE1 Φ ir_f108 [a0, a1] H Q = f108 Φ a0 a1 H Q := by kernel_rfl
def f109 (Φ : Calls') (a0 a1 a2 : AV) (H : AH) (Q : Post) : Prop :=
 DoH (aboxv H false 8 a1) fun x1 H2 =>
Φ K.f76 [a0] H2 fun x3 H4 =>
 Do (anilck a0) fun x5 =>
 Do (afaddr 20 x5) fun x6 =>
 Do (aload H4 1 false x6) fun x7 =>
 Gd x7 true (
 Q (.int .u64 0) H4) (
 Do (afaddr 0 x1) fun x8 =>
 Do (aload H4 1 false x8) fun x9 =>
 Do (abin .eql x9 (.int .i64 1)) fun x10 =>
 Gd x10 true (
 Do (afaddr 1 x1) fun x11 =>
 Do (aload H4 1 false x11) fun x12 =>
 Q x12 H4) (
 Do (abin .eql x9 (.int .i64 2)) fun x13 =>
 Gd x13 true (
 Do (afaddr 2 x1) fun x14 =>
 Do (aload H4 1 false x14) fun x15 =>
Φ K.f108 [a0, x15] H4 fun x16 H17 =>
 Do (anilck x16) fun x18 =>
 Do (aload H17 1 false x18) fun x19 =>
 Q x19 H17) (
 Do (abin .eql x9 (.int .i64 3)) fun x20 =>
 Gd x20 true (
 Do (afaddr 7 x1) fun x21 =>
 Do (aload H4 1 false x21) fun x22 =>
 Do (aiaddr none 8 x22 (.int .i64 0)) fun x23 =>
 Do (aload H4 8 true x23) fun x24 =>
Φ K.f109 [a0, x24, a2] H4 fun x25 H26 =>
 Do (afaddr 7 x1) fun x27 =>
 Do (aload H26 1 false x27) fun x28 =>
 Do (aiaddr none 8 x28 (.int .i64 1)) fun x29 =>
 Do (aload H26 8 true x29) fun x30 =>
 Do (afaddr 7 x1) fun x31 =>
 Do (aload H26 1 false x31) fun x32 =>
 Do (aslice 8 x32 none (some (.int .i64 1)) none) fun x33 =>
Φ K.f110 [x33] H26 fun x34 H35 =>
(aload H35 1 false x27 = some x28) ∧
(aload H35 8 true x29 = some x30) ∧
(Do (abin .add a2 x34) fun x36 =>
Φ K.f109 [a0, x30, x36] H35 fun x37 H38 =>
 Do (afaddr 3 x1) fun x39 =>
 Do (aload H38 1 false x39) fun x40 =>
Φ K.f141 [x40, x25, x37] H38 fun x41 H42 =>
 Q x41 H42)) (
 Do (aload H4 8 true x1) fun x43 =>
Φ K.f142 [a0, x43, a2] H4 fun x44 H45 =>
 Q x44 H45))))
noncomputable def ir_f109 : AFunc := decF Go.Proofs.YtggbkidckoecfaaGreatDoor.rb.C ⟨109,[],[],none,[],[]⟩
theorem eq_f109 (Φ : Calls') (a0 a1 a2 : AV) (H : AH) (Q : Post) : fnE1 Φ ir_f109 [a0, a1, a2] H Q = f109 Φ a0 a1 a2 H Q := by kernel_rfl
def f110_k1 (Φ : Calls') (s2 : List AV × AH) (L3 : (List AV × AH) → Prop) (Q : Post) : List AV → AH → Prop := fun j5 H6 =>
 Do (abin .add (sl s2.1 1) (.int .i64 1)) fun x26 =>
 L3 ([(sl j5 0), x26], H6)
def f110_l2 (Φ : Calls') (a0 x1 : AV) (Q : Post) : (List AV × AH) → ((List AV × AH) → Prop) → Prop := fun s2 L3 =>
 Do (abin .lss (sl s2.1 1) x1) fun x4 =>
 Gd x4 true (
 Do (aiaddr none 8 a0 (sl s2.1 1)) fun x7 =>
 Do (aload s2.2 8 true x7) fun x8 =>
 DoH (some (abox s2.2 true [.int .i64 0, .int .u64 0, .str [], .int .i64 0, .int .i64 0, .str [], .lst .nil 0 [], .lst .nil 0 []])) fun x9 H10 =>
 Do (astore H10 8 x9 x8) fun H11 =>
 Do (afaddr 5 x9) fun x12 =>
 Do (aload H11 2 true x12) fun x13 =>
 Do (afaddr 7 x9) fun x14 =>
 Do (aload H11 1 false x14) fun x15 =>
Φ K.f107 [x13] H11 fun x16 H17 =>
(aload H17 1 false x14 = some x15) ∧
(Φ K.f110 [x15] H17 fun x18 H19 =>
 Do (abin .add x16 x18) fun x20 =>
 Do (abin .add (sl s2.1 0) x20) fun x21 =>
 Do (afaddr 0 x9) fun x22 =>
 Do (aload H19 1 false x22) fun x23 =>
 Do (abin .geq x23 (.int .i64 4)) fun x24 =>
 Gd x24 true (
 Do (abin .add x21 (.int .i64 1)) fun x25 =>
 JoinP (f110_k1 Φ s2 L3 Q) [x25] H19) (
 JoinP (f110_k1 Φ s2 L3 Q) [x21] H19))) (
 Q (sl s2.1 0) s2.2)
def f110 (Φ : Calls') (a0 : AV) (H : AH) (Q : Post) : Prop :=
 Do (alen false a0) fun x1 =>
 LoopP (f110_l2 Φ a0 x1 Q) ([(.int .i64 0), (.int .i64 0)], H)
noncomputable def ir_f110 : AFunc := decF Go.Proofs.YtggbkidckoecfaaGreatDoor.rb.C ⟨110,[5],[[3,8]],none,[],[]⟩
theorem eq_f110 (Φ : Calls') (a0 : AV) (H : AH) (Q : Post) : fnE1 Φ ir_f110 [a0] H Q = f110 Φ a0 H Q := by kernel_rfl
def f111 (Φ : Calls') (a0 a1 a2 : AV) (H : AH) (Q : Post) : Prop :=
 DoH (aboxv H false 10 a1) fun x1 H2 =>
 Do (afaddr 7 x1) fun x3 =>
 Do (aload H2 1 false x3) fun x4 =>
 Do (aiaddr none 8 x4 (.int .i64 0)) fun x5 =>
 Do (aload H2 8 true x5) fun x6 =>
Φ K.f109 [a0, x6, a2] H2 fun x7 H8 =>
 Do (afaddr 7 x1) fun x9 =>
 Do (aload H8 1 false x9) fun x10 =>
Φ K.f110 [x10] H8 fun x11 H12 =>
 Do (abin .add a2 x11) fun x13 =>
 Do (anilck a0) fun x14 =>
 Do (afaddr 20 x14) fun x15 =>
 Do (aload H12 1 false x15) fun x16 =>
 Gd x16 true (
 Q (.tup []) H12) (
 Do (afaddr 0 x1) fun x17 =>
 Do (aload H12 1 false x17) fun x18 =>
 Do (abin .eql x18 (.int .i64 1)) fun x19 =>
 Gd x19 true (
 Do (anilck a0) fun x20 =>
 Do (afaddr 2 x20) fun x21 =>
 Do (aload H12 1 false x21) fun x22 =>
 Do (afaddr 2 x1) fun x23 =>
 Do (aload H12 1 false x23) fun x24 =>
 Do (abuild [.str [], .int .u64 0] [(0, 1, x24), (1, 1, x7)]) fun x25 =>
 DoH (abslice H12 false 2 1 [.str [], .int .u64 0] [(0, 2, x25)]) fun x26 H27 =>
 DoH (aappend H27 true 2 24 x22 x26) fun x28 H29 =>
 Do (anilck a0) fun x30 =>
 Do (afaddr 2 x30) fun x31 =>
 Do (astore H29 1 x31 x28) fun H32 =>
 Q (.tup []) H32) (
 Do (afaddr 0 x1) fun x33 =>
 Do (aload H12 1 false x33) fun x34 =>
 Do (abin .eql x34 (.int .i64 2)) fun x35 =>
 Gd x35 true (
 Do (afaddr 2 x1) fun x36 =>
 Do (aload H12 1 false x36) fun x37 =>
Φ K.f108 [a0, x37] H12 fun x38 H39 =>
 Do (anilck x38) fun x40 =>
 Do (astore H39 1 x40 x7) fun H41 =>
 Q (.tup []) H41) (
 Do (afaddr 0 x1) fun x42 =>
 Do (aload H12 1 false x42) fun x43 =>
 Do (abin .eql x43 (.int .i64 10)) fun x44 =>
 Gd x44 true (
 Do (anilck a0) fun x45 =>
 Do (afaddr 3 x45) fun x46 =>
 Do (aload H12 1 false x46) fun x47 =>
 DoH (abslice H12 false 1 1 [.int .u64 0] [(0, 1, x7)]) fun x48 H49 =>
 DoH (aappend H49 false 1 8 x47 x48) fun x50 H51 =>
 Do (anilck a0) fun x52 =>
 Do (afaddr 3 x52) fun x53 =>
 Do (astore H51 1 x53 x50) fun H54 =>
 Q (.tup []) H54) (
 Do (abin .neq x7 (.int .u64 0)) fun x55 =>
 Gd x55 true (
 Do (afaddr 8 x1) fun x56 =>
 Do (aload H12 1 false x56) fun x57 =>
Φ K.f48 [a0, x57, x13] H12 fun x58 H59 =>
 Q (.tup []) H59) (
 Do (afaddr 9 x1) fun x60 =>
 Do (aload H12 1 false x60) fun x61 =>
 Do (afaddr 8 x1) fun x62 =>
 Do (aload H12 1 false x62) fun x63 =>
Φ K.f78 [x63] H12 fun x64 H65 =>
(aload H65 1 false x60 = some x61) ∧
(Do (abin .add x13 x64) fun x66 =>
Φ K.f48 [a0, x61, x66] H65 fun x67 H68 =>
 Q (.tup []) H68))))))
def ir_f111 : AFunc := ⟨82, [],
 .seq (.region [
   ⟨some 4, .box false 10 (.t 1), none⟩])
 (.seq (.region [
   ⟨some 7, .mv (.t 0), none⟩,
   ⟨some 8, .faddr 7 (.t 4), none⟩,
   ⟨some 9, .load 1 false (.t 8), none⟩,
   ⟨some 10, .iaddr none 8 (.t 9) (.k (.int .i64 0)), none⟩,
   ⟨some 11, .load 8 true (.t 10), none⟩,
   ⟨some 12, .mv (.t 2), none⟩,
   ⟨some 13, .call K.f109 [(.t 7), (.t 11), (.t 12)], none⟩,
   ⟨some 6, .mv (.t 13), none⟩])
 (.seq (.region [
   ⟨some 14, .mv (.t 2), none⟩,
   ⟨some 15, .faddr 7 (.t 4), none⟩,
   ⟨some 16, .load 1 false (.t 15), none⟩,
   ⟨some 17, .call K.f110 [(.t 16)], none⟩,
   ⟨some 18, .bin .add (.t 14) (.t 17), none⟩,
   ⟨some 2, .mv (.t 18), none⟩])
 (.block 0 (.seq (.region [
   ⟨some 29, .mv (.t 0), none⟩,
   ⟨some 30, .nilck (.t 29), none⟩,
   ⟨some 31, .faddr 20 (.t 30), none⟩,
   ⟨some 32, .load 1 false (.t 31), none⟩,
   ⟨some 28, .mv (.t 32), none⟩])
 (.cond (.t 28) (.skip)
   (.seq (.region [
     ⟨some 34, .faddr 0 (.t 4), none⟩,
     ⟨some 35, .load 1 false (.t 34), none⟩,
     ⟨some 36, .bin .eql (.t 35) (.k (.int .i64 1)), none⟩,
     ⟨some 33, .mv (.t 36), none⟩])
   (.cond (.t 33) (.draw [
       ⟨some 37, .mv (.t 0), none⟩,
       ⟨some 38, .mv (.t 0), none⟩,
       ⟨some 39, .nilck (.t 38), none⟩,
       ⟨some 40, .faddr 2 (.t 39), none⟩,
       ⟨some 41, .load 1 false (.t 40), none⟩,
       ⟨some 42, .faddr 2 (.t 4), none⟩,
       ⟨some 43, .load 1 false (.t 42), none⟩,
       ⟨some 44, .mv (.t 6), none⟩,
       ⟨some 45, .build [.str [], .int .u64 0] [(0, 1, (.t 43)), (1, 1, (.t 44))], none⟩,
       ⟨some 46, .bslice false 2 1 [.str [], .int .u64 0] [(0, 2, (.t 45))], none⟩,
       ⟨some 47, .append true 2 24 (.t 41) (.t 46), none⟩,
       ⟨some 48, .nilck (.t 37), none⟩,
       ⟨some 49, .faddr 2 (.t 48), none⟩,
       ⟨none, .store 1 (.t 49) (.t 47), none⟩]
     [[], [], [1], [1, 2], [1, 2, 3], [], [5], [], [5, 6, 7], [5, 6, 7, 8], [1, 2, 3, 4, 5, 6, 7, 8, 9], [0, 1, 2, 3, 4, 5, 6, 7, 8, 9, 10], [0, 1, 2, 3, 4, 5, 6, 7, 8, 9, 10, 11], [0, 1, 2, 3, 4, 5, 6, 7, 8, 9, 10, 11, 12]] [([0, 1, 2, 3, 4, 5, 6, 7, 8, 9], 10, []), ([11, 12], 13, [])] [])
     (.seq (.region [
       ⟨some 51, .faddr 0 (.t 4), none⟩,
       ⟨some 52, .load 1 false (.t 51), none⟩,
       ⟨some 53, .bin .eql (.t 52) (.k (.int .i64 2)), none⟩,
       ⟨some 50, .mv (.t 53), none⟩])
     (.cond (.t 50) (.region [
         ⟨some 54, .mv (.t 0), none⟩,
         ⟨some 55, .faddr 2 (.t 4), none⟩,
         ⟨some 56, .load 1 false (.t 55), none⟩,
         ⟨some 57, .call K.f108 [(.t 54), (.t 56)], none⟩,
         ⟨some 58, .mv (.t 6), none⟩,
         ⟨some 59, .nilck (.t 57), none⟩,
         ⟨none, .store 1 (.t 59) (.t 58), none⟩])
       (.seq (.region [
         ⟨some 61, .faddr 0 (.t 4), none⟩,
         ⟨some 62, .load 1 false (.t 61), none⟩,
         ⟨some 63, .bin .eql (.t 62) (.k (.int .i64 10)), none⟩,
         ⟨some 60, .mv (.t 63), none⟩])
       (.cond (.t 60) (.region [
           ⟨some 64, .mv (.t 0), none⟩,
           ⟨some 65, .mv (.t 0), none⟩,
           ⟨some 66, .nilck (.t 65), none⟩,
           ⟨some 67, .faddr 3 (.t 66), none⟩,
           ⟨some 68, .load 1 false (.t 67), none⟩,
           ⟨some 69, .mv (.t 6), none⟩,
           ⟨some 70, .bslice false 1 1 [.int .u64 0] [(0, 1, (.t 69))], none⟩,
           ⟨some 71, .append false 1 8 (.t 68) (.t 70), none⟩,
           ⟨some 72, .nilck (.t 64), none⟩,
           ⟨some 73, .faddr 3 (.t 72), none⟩,
           ⟨none, .store 1 (.t 73) (.t 71), none⟩])
         (.seq (.region [
           ⟨some 75, .mv (.t 6), none⟩,
           ⟨some 76, .bin .neq (.t 75) (.k (.int .u64 0)), none⟩,
           ⟨some 74, .mv (.t 76), none⟩])
         (.cond (.t 74) (.region [
             ⟨some 77, .mv (.t 0), none⟩,
             ⟨some 78, .faddr 8 (.t 4), none⟩,
             ⟨some 79, .load 1 false (.t 78), none⟩,
             ⟨some 80, .mv (.t 2), none⟩,
             ⟨some 81, .call K.f48 [(.t 77), (.t 79), (.t 80)], none⟩])
           (.draw [
             ⟨some 19, .mv (.t 0), none⟩,
             ⟨some 20, .faddr 9 (.t 4), none⟩,
             ⟨some 21, .load 1 false (.t 20), none⟩,
             ⟨some 22, .mv (.t 2), none⟩,
             ⟨some 23, .faddr 8 (.t 4), none⟩,
             ⟨some 24, .load 1 false (.t 23), none⟩,
             ⟨some 25, .call K.f78 [(.t 24)], none⟩,
             ⟨some 26, .bin .add (.t 22) (.t 25), none⟩,
             ⟨some 27, .call K.f48 [(.t 19), (.t 21), (.t 26)], none⟩]
           [[], [], [1], [], [], [4], [4, 5], [3, 4, 5, 6], [0, 1, 2, 3, 4, 5, 6, 7]] [([0, 1, 2, 3, 4, 5], 6, [2]), ([7], 8, [])] []))))))))))))))⟩
theorem eq_f111 (Φ : Calls') (a0 a1 a2 : AV) (H : AH) (Q : Post) : fnE1 Φ ir_f111 [a0, a1, a2] H Q = f111 Φ a0 a1 a2 H Q := by kernel_rfl
def f125 (Φ : Calls') (a0 : AV) (H : AH) (Q : Post) : Prop :=
 DoH (aboxv H false 6 a0) fun x1 H2 =>
 Do (aload H2 6 true x1) fun x3 =>
Φ K.f151 [x3] H2 fun x4 H5 =>
 Do (abin .gtr x4 (.int .i64 64)) fun x6 =>
 Gd x6 true (
 Q (.int .i64 5) H5) (
 Do (aload H5 6 true x1) fun x7 =>
Φ K.f152 [x7] H5 fun x8 H9 =>
 Q x8 H9)
noncomputable def ir_f125 : AFunc := decF Go.Proofs.YtggbkidckoecfaaGreatDoor.rb.C ⟨125,[],[],none,[],[]⟩
theorem eq_f125 (Φ : Calls') (a0 : AV) (H : AH) (Q : Post) : fnE1 Φ ir_f125 [a0] H Q = f125 Φ a0 H Q := by kernel_rfl
def f126_k1 (Φ : Calls') (x1 : AV) (Q : Post) : List AV → AH → Prop := fun j10 H11 =>
 Gd3 (sl j10 0) false (
 Do (afaddr 3 x1) fun x16 =>
 Do (aload H11 1 false x16) fun x17 =>
Φ K.f155 [x17, (.fn K.f156 [])] H11 fun x18 H19 =>
 Q x18 H19) (
 Q (.bool true) H11) (
 False)
def f126_k2 (Φ : Calls') (x1 : AV) (Q : Post) : List AV → AH → Prop := fun j3 H4 =>
 Gd3 (sl j3 0) false (
 Do (afaddr 5 x1) fun x12 =>
 Do (aload H4 1 false x12) fun x13 =>
Φ K.f154 [x13, (.fn K.f126 [])] H4 fun x14 H15 =>
 JoinP (f126_k1 Φ x1 Q) [x14] H15) (
 JoinP (f126_k1 Φ x1 Q) [(.bool true)] H4) (
 False)
def f126 (Φ : Calls') (a0 : AV) (H : AH) (Q : Post) : Prop :=
 DoH (aboxv H false 6 a0) fun x1 H2 =>
 Do (afaddr 2 x1) fun x5 =>
 Do (aload H2 1 false x5) fun x6 =>
 Gd3 x6 true (
 Do (aload H2 6 true x1) fun x7 =>
Φ K.f153 [x7] H2 fun x8 H9 =>
 JoinP (f126_k2 Φ x1 Q) [x8] H9) (
 JoinP (f126_k2 Φ x1 Q) [(.bool false)] H2) (
 False)
noncomputable def ir_f126 : AFunc := decF Go.Proofs.YtggbkidckoecfaaGreatDoor.rb.C ⟨126,[],[],none,[],[]⟩
theorem eq_f126 (Φ : Calls') (a0 : AV) (H : AH) (Q : Post) : fnE1 Φ ir_f126 [a0] H Q = f126 Φ a0 H Q := by kernel_rfl
def f127_k1 (Φ : Calls') (x1 x3 : AV) (Q : Post) : List AV → AH → Prop := fun j5 H6 =>
 Do (aload H6 6 true x1) fun x46 =>
Φ K.f157 [x46] H6 fun x47 H48 =>
 Do (aextract 0 x47) fun x49 =>
 Do (aextract 1 x47) fun x50 =>
 DoH (some (abox H48 true [.int .i64 0, .int .i64 0, .lst .nil 0 [], .int .i64 0])) fun x51 H52 =>
 Do (astore H52 4 x51 x49) fun H53 =>
 Do (afaddr 0 x51) fun x54 =>
 Do (aload H53 2 true x54) fun x55 =>
 Do (astore H53 2 x3 x55) fun H56 =>
 Do (aload H56 2 true x3) fun x57 =>
 Q (.tup [x57, x50]) H56
def f127_k2 (Φ : Calls') (x1 x3 x8 : AV) (Q : Post) : List AV → AH → Prop := fun j9 H10 =>
 Gd (sl j9 0) true (
 Do (afaddr 1 x1) fun x12 =>
 Do (aload H10 1 false x12) fun x13 =>
 Do (afaddr 1 x1) fun x14 =>
 Do (aload H10 1 false x14) fun x15 =>
 Do (abuild [.int .i64 0, .int .i64 0] [(0, 1, x13), (1, 1, x15)]) fun x16 =>
 Do (astore H10 2 x3 x16) fun H17 =>
 Do (aload H17 2 true x3) fun x18 =>
 Q (.tup [x18, (.bool true)]) H17) (
 Do (abin .eql x8 (.int .i64 5)) fun x19 =>
 Gd x19 true (
 Do (afaddr 5 x1) fun x20 =>
 Do (aload H10 1 false x20) fun x21 =>
 Do (aiaddr none 6 x21 (.int .i64 0)) fun x22 =>
 Do (aload H10 6 true x22) fun x23 =>
Φ K.f127 [x23] H10 fun x24 H25 =>
 Do (aextract 0 x24) fun x26 =>
 Do (aextract 1 x24) fun x27 =>
 DoH (some (abox H25 true [.int .i64 0, .int .i64 0])) fun x28 H29 =>
 Do (astore H29 2 x28 x26) fun H30 =>
 Do (afaddr 0 x28) fun x31 =>
 Do (aload H30 1 false x31) fun x32 =>
 Do (afaddr 4 x1) fun x33 =>
 Do (aload H30 1 false x33) fun x34 =>
 Do (abin .mul x32 x34) fun x35 =>
 Do (afaddr 0 x28) fun x36 =>
 Do (astore H30 1 x36 x35) fun H37 =>
 Do (aload H37 2 true x28) fun x38 =>
 Gd3 x27 true (
 Do (afaddr 0 x28) fun x39 =>
 Do (aload H37 1 false x39) fun x40 =>
 Do (abin .leq x40 (.int .i64 65536)) fun x41 =>
 Do (astore H37 2 x3 x38) fun H42 =>
(((.bool true) : AV) = .bool true → aload H42 1 false x39 = some x40) ∧
(Do (aload H42 2 true x3) fun x43 =>
 Q (.tup [x43, x41]) H42)) (
 Do (astore H37 2 x3 x38) fun H44 =>
(((.bool false) : AV) = .bool true → aload H44 1 false (.tup []) = some (.tup [])) ∧
(Do (aload H44 2 true x3) fun x45 =>
 Q (.tup [x45, (.bool false)]) H44)) (
 False)) (
 JoinP (f127_k1 Φ x1 x3 Q) [] H10))
def f127 (Φ : Calls') (a0 : AV) (H : AH) (Q : Post) : Prop :=
 DoH (aboxv H false 6 a0) fun x1 H2 =>
 DoH (some (abox H2 true [.int .i64 0, .int .i64 0])) fun x3 H4 =>
 Do (afaddr 0 x1) fun x7 =>
 Do (aload H4 1 false x7) fun x8 =>
 Do (abin .eql x8 (.int .i64 1)) fun x11 =>
 Gd x11 true (
 JoinP (f127_k2 Φ x1 x3 x8 Q) [x11] H4) (
 Do (abin .eql x8 (.int .i64 2)) fun x58 =>
 JoinP (f127_k2 Φ x1 x3 x8 Q) [x58] H4)
noncomputable def ir_f127 : AFunc := decF Go.Proofs.YtggbkidckoecfaaGreatDoor.rb.C ⟨127,[2,4,6],[],none,[],[]⟩
theorem eq_f127 (Φ : Calls') (a0 : AV) (H : AH) (Q : Post) : fnE1 Φ ir_f127 [a0] H Q = f127 Φ a0 H Q := by kernel_rfl
def f128_l1 (Φ : Calls') (a0 a1 x1 : AV) (Q : Post) : (List AV × AH) → ((List AV × AH) → Prop) → Prop := fun s2 L3 =>
 Do (abin .lss (sl s2.1 0) x1) fun x4 =>
 Gd x4 true (
 Do (aiaddr none 1 a0 (sl s2.1 0)) fun x5 =>
 Do (aload s2.2 1 false x5) fun x6 =>
 Do (abin .eql a1 x6) fun x7 =>
 Gd x7 true (
 Q (sl s2.1 0) s2.2) (
 Do (abin .add (sl s2.1 0) (.int .i64 1)) fun x8 =>
 L3 ([x8], s2.2))) (
 Q (.int .i64 (-1)) s2.2)
def f128 (Φ : Calls') (a0 a1 : AV) (H : AH) (Q : Post) : Prop :=
 Do (alen false a0) fun x1 =>
 LoopP (f128_l1 Φ a0 a1 x1 Q) ([(.int .i64 0)], H)
noncomputable def ir_f128 : AFunc := decF Go.Proofs.YtggbkidckoecfaaGreatDoor.rb.C ⟨128,[],[[8]],none,[],[]⟩
theorem eq_f128 (Φ : Calls') (a0 a1 : AV) (H : AH) (Q : Post) : fnE1 Φ ir_f128 [a0, a1] H Q = f128 Φ a0 a1 H Q := by kernel_rfl
def f131_k1 (Φ : Calls') (x1 : AV) (Q : Post) : List AV → AH → Prop := fun j3 H4 =>
 Do (abuild [.bool false, .bool false, .bool false, .int .i64 0, .bool false, .bool false] []) fun x41 =>
 Do (astore H4 6 x1 x41) fun H42 =>
 Do (aload H42 6 true x1) fun x43 =>
 Q (.tup [x43, (.bool false)]) H42
def f131_k2 (Φ : Calls') (a0 x1 : AV) (Q : Post) : List AV → AH → Prop := fun j11 H12 =>
 Gd (sl j11 0) true (
 Do (abuild [.bool false, .bool false, .bool false, .int .i64 0, .bool false, .bool false] [(2, 1, (.bool true)), (3, 1, (.int .i64 1))]) fun x14 =>
 Do (astore H12 6 x1 x14) fun H15 =>
 Do (aload H15 6 true x1) fun x16 =>
 Q (.tup [x16, (.bool true)]) H15) (
 Do (abin .eql a0 (.int .i64 5)) fun x17 =>
 Gd x17 true (
 Do (abuild [.bool false, .bool false, .bool false, .int .i64 0, .bool false, .bool false] [(0, 1, (.bool true)), (1, 1, (.bool true)), (2, 1, (.bool true))]) fun x18 =>
 Do (astore H12 6 x1 x18) fun H19 =>
 Do (aload H19 6 true x1) fun x20 =>
 Q (.tup [x20, (.bool true)]) H19) (
 Do (abin .eql a0 (.int .i64 6)) fun x21 =>
 Gd x21 true (
 Do (abuild [.bool false, .bool false, .bool false, .int .i64 0, .bool false, .bool false] [(2, 1, (.bool true)), (3, 1, (.int .i64 2))]) fun x22 =>
 Do (astore H12 6 x1 x22) fun H23 =>
 Do (aload H23 6 true x1) fun x24 =>
 Q (.tup [x24, (.bool true)]) H23) (
 Do (abin .eql a0 (.int .i64 7)) fun x25 =>
 Gd x25 true (
 Do (abuild [.bool false, .bool false, .bool false, .int .i64 0, .bool false, .bool false] []) fun x26 =>
 Do (astore H12 6 x1 x26) fun H27 =>
 Do (aload H27 6 true x1) fun x28 =>
 Q (.tup [x28, (.bool true)]) H27) (
 Do (abin .eql a0 (.int .i64 8)) fun x29 =>
 Gd x29 true (
 Do (abuild [.bool false, .bool false, .bool false, .int .i64 0, .bool false, .bool false] [(3, 1, (.int .i64 1)), (4, 1, (.bool true)), (5, 1, (.bool true))]) fun x30 =>
 Do (astore H12 6 x1 x30) fun H31 =>
 Do (aload H31 6 true x1) fun x32 =>
 Q (.tup [x32, (.bool true)]) H31) (
 Do (abin .eql a0 (.int .i64 9)) fun x33 =>
 Gd x33 true (
 Do (abuild [.bool false, .bool false, .bool false, .int .i64 0, .bool false, .bool false] [(3, 1, (.int .i64 1)), (4, 1, (.bool true))]) fun x34 =>
 Do (astore H12 6 x1 x34) fun H35 =>
 Do (aload H35 6 true x1) fun x36 =>
 Q (.tup [x36, (.bool true)]) H35) (
 Do (abin .eql a0 (.int .i64 10)) fun x37 =>
 Gd x37 true (
 Do (abuild [.bool false, .bool false, .bool false, .int .i64 0, .bool false, .bool false] [(3, 1, (.int .i64 1))]) fun x38 =>
 Do (astore H12 6 x1 x38) fun H39 =>
 Do (aload H39 6 true x1) fun x40 =>
 Q (.tup [x40, (.bool true)]) H39) (
 JoinP (f131_k1 Φ x1 Q) [] H12)))))))
def f131_k3 (Φ : Calls') (a0 x1 : AV) (Q : Post) : List AV → AH → Prop := fun j5 H6 =>
 Gd (sl j5 0) true (
 Do (abuild [.bool false, .bool false, .bool false, .int .i64 0, .bool false, .bool false] [(0, 1, (.bool true)), (3, 1, (.int .i64 1))]) fun x8 =>
 Do (astore H6 6 x1 x8) fun H9 =>
 Do (aload H9 6 true x1) fun x10 =>
 Q (.tup [x10, (.bool true)]) H9) (
 Do (abin .eql a0 (.int .i64 3)) fun x13 =>
 Gd x13 true (
 JoinP (f131_k2 Φ a0 x1 Q) [x13] H6) (
 Do (abin .eql a0 (.int .i64 4)) fun x44 =>
 JoinP (f131_k2 Φ a0 x1 Q) [x44] H6))
def f131 (Φ : Calls') (a0 : AV) (H : AH) (Q : Post) : Prop :=
 DoH (some (abox H true [.bool false, .bool false, .bool false, .int .i64 0, .bool false, .bool false])) fun x1 H2 =>
 Do (abin .eql a0 (.int .i64 1)) fun x7 =>
 Gd x7 true (
 JoinP (f131_k3 Φ a0 x1 Q) [x7] H2) (
 Do (abin .eql a0 (.int .i64 2)) fun x45 =>
 JoinP (f131_k3 Φ a0 x1 Q) [x45] H2)
noncomputable def ir_f131 : AFunc := decF Go.Proofs.YtggbkidckoecfaaGreatDoor.rb.C ⟨131,[2],[],none,[],[]⟩
theorem eq_f131 (Φ : Calls') (a0 : AV) (H : AH) (Q : Post) : fnE1 Φ ir_f131 [a0] H Q = f131 Φ a0 H Q := by kernel_rfl
def f132 (Φ : Calls') (a0 : AV) (H : AH) (Q : Post) : Prop :=
 DoH (aboxv H false 2 a0) fun x1 H2 =>
 Do (afaddr 0 x1) fun x3 =>
 Do (aload H2 1 false x3) fun x4 =>
 Do (abin .eql x4 (.str [])) fun x5 =>
 Gd3 x5 true (
 Do (afaddr 1 x1) fun x6 =>
 Do (aload H2 1 false x6) fun x7 =>
 Do (alen false x7) fun x8 =>
 Do (abin .eql x8 (.int .i64 0)) fun x9 =>
 Q x9 H2) (
 Q (.bool false) H2) (
 False)
noncomputable def ir_f132 : AFunc := decF Go.Proofs.YtggbkidckoecfaaGreatDoor.rb.C ⟨132,[],[],none,[],[]⟩
theorem eq_f132 (Φ : Calls') (a0 : AV) (H : AH) (Q : Post) : fnE1 Φ ir_f132 [a0] H Q = f132 Φ a0 H Q := by kernel_rfl
def f133_k1 (Φ : Calls') (x3 x14 : AV) (Q : Post) : List AV → AH → Prop := fun j24 H25 =>
 Do (aload H25 6 true x14) fun x53 =>
 Do (astore H25 6 x3 x53) fun H54 =>
 Do (aload H54 6 true x3) fun x55 =>
 Q (.tup [x55, (.int .i64 0)]) H54
def f133_l2 (Φ : Calls') (x3 x14 x27 x28 : AV) (Q : Post) : (List AV × AH) → ((List AV × AH) → Prop) → Prop := fun s29 L30 =>
 Do (abin .lss (sl s29.1 0) x28) fun x31 =>
 Gd x31 true (
 Do (aiaddr none 2 x27 (sl s29.1 0)) fun x32 =>
 Do (aload s29.2 2 true x32) fun x33 =>
 DoH (some (abox s29.2 true [.str [], .lst .nil 0 []])) fun x34 H35 =>
 Do (astore H35 2 x34 x33) fun H36 =>
 Do (aload H36 6 true x14) fun x37 =>
 Do (aload H36 2 true x34) fun x38 =>
Φ K.f160 [x37, x38] H36 fun x39 H40 =>
 Do (aextract 0 x39) fun x41 =>
 Do (aextract 1 x39) fun x42 =>
 DoH (some (abox H40 true [.int .i64 0, .int .i64 0, .bool false, .lst .nil 0 [], .int .i64 0, .lst .nil 0 []])) fun x43 H44 =>
 Do (astore H44 6 x43 x41) fun H45 =>
 Do (abin .neq x42 (.int .i64 0)) fun x46 =>
 Gd x46 true (
 Do (abuild [.int .i64 0, .int .i64 0, .bool false, .lst .nil 0 [], .int .i64 0, .lst .nil 0 []] []) fun x47 =>
 Do (astore H45 6 x3 x47) fun H48 =>
 Do (aload H48 6 true x3) fun x49 =>
 Q (.tup [x49, x42]) H48) (
 Do (aload H45 6 true x43) fun x50 =>
 Do (astore H45 6 x14 x50) fun H51 =>
 Do (abin .add (sl s29.1 0) (.int .i64 1)) fun x52 =>
 L30 ([x52], H51))) (
 JoinP (f133_k1 Φ x3 x14 Q) [] s29.2)
def f133 (Φ : Calls') (a0 a1 : AV) (H : AH) (Q : Post) : Prop :=
 DoH (aboxv H false 2 a1) fun x1 H2 =>
 DoH (some (abox H2 true [.int .i64 0, .int .i64 0, .bool false, .lst .nil 0 [], .int .i64 0, .lst .nil 0 []])) fun x3 H4 =>
Φ K.f97 [a0, (.fn K.f159 [x1])] H4 fun x5 H6 =>
 Do (abin .lss x5 (.int .i64 0)) fun x7 =>
 Gd x7 true (
 Do (abuild [.int .i64 0, .int .i64 0, .bool false, .lst .nil 0 [], .int .i64 0, .lst .nil 0 []] []) fun x8 =>
 Do (astore H6 6 x3 x8) fun H9 =>
 Do (aload H9 6 true x3) fun x10 =>
 Q (.tup [x10, (.int .i64 6)]) H9) (
 Do (aiaddr none 7 a0 x5) fun x11 =>
 Do (afaddr 1 x11) fun x12 =>
 Do (aload H6 6 true x12) fun x13 =>
 DoH (some (abox H6 true [.int .i64 0, .int .i64 0, .bool false, .lst .nil 0 [], .int .i64 0, .lst .nil 0 []])) fun x14 H15 =>
 Do (astore H15 6 x14 x13) fun H16 =>
 Do (aload H16 6 true x14) fun x17 =>
Φ K.f125 [x17] H16 fun x18 H19 =>
 Do (abin .neq x18 (.int .i64 0)) fun x20 =>
 Gd x20 true (
 Do (abuild [.int .i64 0, .int .i64 0, .bool false, .lst .nil 0 [], .int .i64 0, .lst .nil 0 []] []) fun x21 =>
 Do (astore H19 6 x3 x21) fun H22 =>
 Do (aload H22 6 true x3) fun x23 =>
 Q (.tup [x23, x18]) H22) (
 Do (afaddr 1 x1) fun x26 =>
 Do (aload H19 1 false x26) fun x27 =>
 Do (alen false x27) fun x28 =>
 LoopP (f133_l2 Φ x3 x14 x27 x28 Q) ([(.int .i64 0)], H19)))
noncomputable def ir_f133 : AFunc := decF Go.Proofs.YtggbkidckoecfaaGreatDoor.rb.C ⟨133,[4,7,10,11],[[33]],none,[],[]⟩
theorem eq_f133 (Φ : Calls') (a0 a1 : AV) (H : AH) (Q : Post) : fnE1 Φ ir_f133 [a0, a1] H Q = f133 Φ a0 a1 H Q := by kernel_rfl
def f134_k1 (Φ : Calls') (x1 : AV) (Q : Post) : List AV → AH → Prop := fun j3 H4 =>
 Do (afaddr 0 x1) fun x20 =>
 Do (aload H4 1 false x20) fun x21 =>
 Do (abin .eql x21 (.int .i64 2)) fun x22 =>
 Gd3 x22 true (
 Do (afaddr 1 x1) fun x23 =>
 Do (aload H4 1 false x23) fun x24 =>
 Do (abin .leq x24 (.int .i64 8)) fun x25 =>
 Q x25 H4) (
 Q (.bool false) H4) (
 False)
def f134_k2 (Φ : Calls') (x1 : AV) (Q : Post) : List AV → AH → Prop := fun j11 H12 =>
 Gd (sl j11 0) true (
 Do (afaddr 0 x1) fun x14 =>
 Do (aload H12 1 false x14) fun x15 =>
 Do (abin .eql x15 (.int .i64 2)) fun x16 =>
 Gd3 x16 true (
 Do (afaddr 1 x1) fun x17 =>
 Do (aload H12 1 false x17) fun x18 =>
 Do (abin .eql x18 (.int .i64 16)) fun x19 =>
 Q x19 H12) (
 Q (.bool false) H12) (
 False)) (
 JoinP (f134_k1 Φ x1 Q) [] H12)
def f134_k3 (Φ : Calls') (a0 x1 : AV) (Q : Post) : List AV → AH → Prop := fun j5 H6 =>
 Gd (sl j5 0) true (
 Do (afaddr 0 x1) fun x8 =>
 Do (aload H6 1 false x8) fun x9 =>
 Do (abin .eql x9 (.int .i64 1)) fun x10 =>
 Q x10 H6) (
 Do (abin .eql a0 (.int .i64 5)) fun x13 =>
 Gd x13 true (
 JoinP (f134_k2 Φ x1 Q) [x13] H6) (
 Do (abin .eql a0 (.int .i64 6)) fun x26 =>
 JoinP (f134_k2 Φ x1 Q) [x26] H6))
def f134 (Φ : Calls') (a0 a1 : AV) (H : AH) (Q : Post) : Prop :=
 DoH (aboxv H false 6 a1) fun x1 H2 =>
 Do (abin .eql a0 (.int .i64 3)) fun x7 =>
 Gd x7 true (
 JoinP (f134_k3 Φ a0 x1 Q) [x7] H2) (
 Do (abin .eql a0 (.int .i64 14)) fun x27 =>
 JoinP (f134_k3 Φ a0 x1 Q) [x27] H2)
noncomputable def ir_f134 : AFunc := decF Go.Proofs.YtggbkidckoecfaaGreatDoor.rb.C ⟨134,[],[],none,[],[]⟩
theorem eq_f134 (Φ : Calls') (a0 a1 : AV) (H : AH) (Q : Post) : fnE1 Φ ir_f134 [a0, a1] H Q = f134 Φ a0 a1 H Q := by kernel_rfl
def f135_k1 (Φ : Calls') (a0 a2 x1 : AV) (Q : Post) : List AV → AH → Prop := fun j33 H34 =>
 Do (afaddr 7 x1) fun x45 =>
 Do (aload H34 1 false x45) fun x46 =>
Φ K.f103 [a0, x46, a2] H34 fun x47 H48 =>
 Q (.tup []) H48
def f135_k2 (Φ : Calls') (a0 a2 x1 : AV) (Q : Post) : List AV → AH → Prop := fun j22 H23 =>
 Do (afaddr 0 x1) fun x35 =>
 Do (aload H23 1 false x35) fun x36 =>
 Do (abin .geq x36 (.int .i64 4)) fun x37 =>
 Gd x37 true (
 Do (afaddr 0 x1) fun x38 =>
 Do (aload H23 1 false x38) fun x39 =>
 Do (abin .add (.int .i64 10) x39) fun x40 =>
 Do (afaddr 5 x1) fun x41 =>
 Do (aload H23 2 true x41) fun x42 =>
Φ K.f102 [a0, x40, x42, a2] H23 fun x43 H44 =>
 JoinP (f135_k1 Φ a0 a2 x1 Q) [] H44) (
 JoinP (f135_k1 Φ a0 a2 x1 Q) [] H23)
def f135 (Φ : Calls') (a0 a1 a2 : AV) (H : AH) (Q : Post) : Prop :=
 DoH (aboxv H false 8 a1) fun x1 H2 =>
 Do (abin .leq a2 (.int .i64 64)) fun x3 =>
Φ K.f98 [a0, x3, (.int .i64 5)] H2 fun x4 H5 =>
 Do (aload H5 8 true x1) fun x6 =>
Φ K.f161 [x6] H5 fun x7 H8 =>
Φ K.f98 [a0, x7, (.int .i64 4)] H8 fun x9 H10 =>
 Do (afaddr 0 x1) fun x11 =>
 Do (aload H10 1 false x11) fun x12 =>
 Do (abin .add (.int .i64 10) x12) fun x13 =>
 Do (afaddr 4 x1) fun x14 =>
 Do (aload H10 1 false x14) fun x15 =>
Φ K.f100 [x13, x15] H10 fun x16 H17 =>
Φ K.f98 [a0, x16, (.int .i64 11)] H17 fun x18 H19 =>
Φ K.f47 [a0] H19 fun x20 H21 =>
 Gd x20 true (
 Q (.tup []) H21) (
 Do (afaddr 0 x1) fun x24 =>
 Do (aload H21 1 false x24) fun x25 =>
 Do (abin .eql x25 (.int .i64 2)) fun x26 =>
 Gd x26 true (
 Do (afaddr 2 x1) fun x27 =>
 Do (aload H21 1 false x27) fun x28 =>
Φ K.f101 [a0, x28] H21 fun x29 H30 =>
Φ K.f98 [a0, x29, (.int .i64 6)] H30 fun x31 H32 =>
 JoinP (f135_k2 Φ a0 a2 x1 Q) [] H32) (
 JoinP (f135_k2 Φ a0 a2 x1 Q) [] H21))
noncomputable def ir_f135 : AFunc := decF Go.Proofs.YtggbkidckoecfaaGreatDoor.rb.C ⟨135,[],[],none,[],[]⟩
theorem eq_f135 (Φ : Calls') (a0 a1 a2 : AV) (H : AH) (Q : Post) : fnE1 Φ ir_f135 [a0, a1, a2] H Q = f135 Φ a0 a1 a2 H Q := by kernel_rfl
def f136_k1 (Φ : Calls') (x1 x3 : AV) (Q : Post) : List AV → AH → Prop := fun j5 H6 =>
 Do (aload H6 2 true x3) fun x27 =>
 Do (astore H6 2 x1 x27) fun H28 =>
 Do (aload H28 2 true x1) fun x29 =>
 Q x29 H28
def f136_l2 (Φ : Calls') (a0 a1 x1 x3 x7 : AV) (Q : Post) : (List AV × AH) → ((List AV × AH) → Prop) → Prop := fun s8 L9 =>
 Do (abin .lss (sl s8.1 1) x7) fun x10 =>
 Gd x10 true (
 Do (aiaddr none 8 a1 (sl s8.1 1)) fun x11 =>
 Do (aload s8.2 8 true x11) fun x12 =>
 DoH (some (abox s8.2 true [.int .i64 0, .int .u64 0, .str [], .int .i64 0, .int .i64 0, .str [], .lst .nil 0 [], .lst .nil 0 []])) fun x13 H14 =>
 Do (astore H14 8 x13 x12) fun H15 =>
 Do (aload H15 8 true x13) fun x16 =>
Φ K.f109 [a0, x16, (sl s8.1 0)] H15 fun x17 H18 =>
 Do (aiaddr (some 2) 1 x3 (sl s8.1 1)) fun x19 =>
 Do (astore H18 1 x19 x17) fun H20 =>
 Do (abin .add (sl s8.1 1) (.int .i64 1)) fun x21 =>
 Do (aslice 8 a1 (some (sl s8.1 1)) (some x21) none) fun x22 =>
Φ K.f110 [x22] H20 fun x23 H24 =>
 Do (abin .add (sl s8.1 0) x23) fun x25 =>
 Do (abin .add (sl s8.1 1) (.int .i64 1)) fun x26 =>
 L9 ([x25, x26], H24)) (
 JoinP (f136_k1 Φ x1 x3 Q) [] s8.2)
def f136 (Φ : Calls') (a0 a1 a2 : AV) (H : AH) (Q : Post) : Prop :=
 DoH (some (abox H true [.int .u64 0, .int .u64 0])) fun x1 H2 =>
 DoH (some (abox H2 true [.int .u64 0, .int .u64 0])) fun x3 H4 =>
 Do (alen false a1) fun x7 =>
 LoopP (f136_l2 Φ a0 a1 x1 x3 x7 Q) ([a2, (.int .i64 0)], H4)
noncomputable def ir_f136 : AFunc := decF Go.Proofs.YtggbkidckoecfaaGreatDoor.rb.C ⟨136,[6,7,9],[[2,12]],none,[],[]⟩
theorem eq_f136 (Φ : Calls') (a0 a1 a2 : AV) (H : AH) (Q : Post) : fnE1 Φ ir_f136 [a0, a1, a2] H Q = f136 Φ a0 a1 a2 H Q := by kernel_rfl
def f137 (Φ : Calls') (a0 a1 a2 a3 : AV) (H : AH) (Q : Post) : Prop :=
Φ K.f162 [a1] H fun x1 H2 =>
 Do (aun .not x1) fun x3 =>
 Gd x3 true (
 Q a0 H2) (
Φ K.f70 [a2] H2 fun x4 H5 =>
 Do (abin .shl x4 a1) fun x6 =>
 Do (abin .andNot a0 x6) fun x7 =>
Φ K.f70 [a2] H5 fun x8 H9 =>
 Do (abin .and a3 x8) fun x10 =>
 Do (abin .shl x10 a1) fun x11 =>
 Do (abin .or x7 x11) fun x12 =>
 Q x12 H9)
noncomputable def ir_f137 : AFunc := decF Go.Proofs.YtggbkidckoecfaaGreatDoor.rb.C ⟨137,[],[],none,[],[]⟩
theorem eq_f137 (Φ : Calls') (a0 a1 a2 a3 : AV) (H : AH) (Q : Post) : fnE1 Φ ir_f137 [a0, a1, a2, a3] H Q = f137 Φ a0 a1 a2 a3 H Q := by kernel_rfl
def f138_k1 (Φ : Calls') (x3 x19 x57 : AV) (Q : Post) : List AV → AH → Prop := fun j59 H60 =>
 Do (afaddr 0 x19) fun x80 =>
 Do (aload H60 1 false x80) fun x81 =>
 Do (anilck x57) fun x82 =>
 Do (afaddr 6 x82) fun x83 =>
 Do (afaddr 2 x83) fun x84 =>
 Do (astore H60 1 x84 x81) fun H85 =>
 Do (anilck x57) fun x86 =>
 Do (afaddr 6 x86) fun x87 =>
 Do (aload H85 6 true x87) fun x88 =>
 Do (astore H85 6 x3 x88) fun H89 =>
 Do (aload H89 6 true x3) fun x90 =>
 Q (.tup [x90, (.int .i64 0)]) H89
def f138_l2 (Φ : Calls') (x3 x19 x57 x62 x63 : AV) (Q : Post) : (List AV × AH) → ((List AV × AH) → Prop) → Prop := fun s64 L65 =>
 Do (abin .lss (sl s64.1 0) x63) fun x66 =>
 Gd x66 true (
 Do (aiaddr none 2 x62 (sl s64.1 0)) fun x67 =>
 Do (aload s64.2 2 true x67) fun x68 =>
 DoH (some (abox s64.2 true [.str [], .lst .nil 0 []])) fun x69 H70 =>
 Do (astore H70 2 x69 x68) fun H71 =>
 Do (aload H71 2 true x69) fun x72 =>
Φ K.f165 [x57, x72] H71 fun x73 H74 =>
 Do (aun .not x73) fun x75 =>
 Gd x75 true (
 Do (abuild [.int .i64 0, .int .i64 0, .int .i64 0, .bool false, .int .i64 0, .int .i64 0] []) fun x76 =>
 Do (astore H74 6 x3 x76) fun H77 =>
 Do (aload H77 6 true x3) fun x78 =>
 Q (.tup [x78, (.int .i64 14)]) H77) (
 Do (abin .add (sl s64.1 0) (.int .i64 1)) fun x79 =>
 L65 ([x79], H74))) (
 JoinP (f138_k1 Φ x3 x19 x57 Q) [] s64.2)
def f138_k3 (Φ : Calls') (a0 a2 x1 x3 x7 x19 : AV) (Q : Post) : List AV → AH → Prop := fun j22 H23 =>
Φ K.f97 [a0, (.fn K.f164 [x1])] H23 fun x47 H48 =>
 Do (aiaddr none 7 a0 x47) fun x49 =>
 Do (afaddr 1 x49) fun x50 =>
 Do (aload H48 6 true x50) fun x51 =>
 Do (aiaddr none 3 x7 x47) fun x52 =>
 Do (afaddr 1 x52) fun x53 =>
 Do (aload H48 2 true x53) fun x54 =>
 Do (abuild [.int .i64 0, .int .i64 0, .int .i64 0, .bool false, .int .i64 0, .int .i64 0] [(0, 2, x54)]) fun x55 =>
 Do (abuild [.int .i64 0, .int .i64 0, .bool false, .lst .nil 0 [], .int .i64 0, .lst .nil 0 [], .int .i64 0, .int .i64 0, .int .i64 0, .bool false, .int .i64 0, .int .i64 0, .lst .nil 0 []] [(0, 6, x51), (6, 6, x55), (12, 1, a2)]) fun x56 =>
 DoH (aboxv H48 true 13 x56) fun x57 H58 =>
 Do (afaddr 1 x1) fun x61 =>
 Do (aload H58 1 false x61) fun x62 =>
 Do (alen false x62) fun x63 =>
 LoopP (f138_l2 Φ x3 x19 x57 x62 x63 Q) ([(.int .i64 0)], H58)
def f138_k4 (Φ : Calls') (a0 a2 x1 x3 x7 x19 : AV) (Q : Post) : List AV → AH → Prop := fun j28 H29 =>
 Gd (sl j28 0) true (
 Do (abuild [.int .i64 0, .int .i64 0, .int .i64 0, .bool false, .int .i64 0, .int .i64 0] []) fun x36 =>
 Do (astore H29 6 x3 x36) fun H37 =>
 Do (aload H37 6 true x3) fun x38 =>
 Q (.tup [x38, (.int .i64 8)]) H37) (
 Do (alen false a2) fun x39 =>
 Do (aload H29 2 true x1) fun x40 =>
Φ K.f163 [x40] H29 fun x41 H42 =>
 Do (abin .neq x39 x41) fun x43 =>
 Gd x43 true (
 Do (abuild [.int .i64 0, .int .i64 0, .int .i64 0, .bool false, .int .i64 0, .int .i64 0] []) fun x44 =>
 Do (astore H42 6 x3 x44) fun H45 =>
 Do (aload H45 6 true x3) fun x46 =>
 Q (.tup [x46, (.int .i64 1)]) H45) (
 JoinP (f138_k3 Φ a0 a2 x1 x3 x7 x19 Q) [] H42))
def f138 (Φ : Calls') (a0 a1 a2 : AV) (H : AH) (Q : Post) : Prop :=
 DoH (aboxv H false 2 a1) fun x1 H2 =>
 DoH (some (abox H2 true [.int .i64 0, .int .i64 0, .int .i64 0, .bool false, .int .i64 0, .int .i64 0])) fun x3 H4 =>
Φ K.f32 [a0] H4 fun x5 H6 =>
 Do (aextract 0 x5) fun x7 =>
 Do (aextract 1 x5) fun x8 =>
 Do (aextract 2 x5) fun x9 =>
 Do (abin .neq x9 (.int .i64 0)) fun x10 =>
 Gd x10 true (
 Do (abuild [.int .i64 0, .int .i64 0, .int .i64 0, .bool false, .int .i64 0, .int .i64 0] []) fun x11 =>
 Do (astore H6 6 x3 x11) fun H12 =>
 Do (aload H12 6 true x3) fun x13 =>
 Q (.tup [x13, x9]) H12) (
 Do (aload H6 2 true x1) fun x14 =>
Φ K.f133 [a0, x14] H6 fun x15 H16 =>
 Do (aextract 0 x15) fun x17 =>
 Do (aextract 1 x15) fun x18 =>
 DoH (some (abox H16 true [.int .i64 0, .int .i64 0, .bool false, .lst .nil 0 [], .int .i64 0, .lst .nil 0 []])) fun x19 H20 =>
 Do (astore H20 6 x19 x17) fun H21 =>
 Do (abin .neq x18 (.int .i64 0)) fun x24 =>
 Gd x24 true (
 Do (abuild [.int .i64 0, .int .i64 0, .int .i64 0, .bool false, .int .i64 0, .int .i64 0] []) fun x25 =>
 Do (astore H21 6 x3 x25) fun H26 =>
 Do (aload H26 6 true x3) fun x27 =>
 Q (.tup [x27, x18]) H26) (
 Do (afaddr 0 x19) fun x30 =>
 Do (aload H21 1 false x30) fun x31 =>
 Do (abin .neq x31 (.int .i64 1)) fun x32 =>
 Gd3 x32 true (
 Do (afaddr 0 x19) fun x33 =>
 Do (aload H21 1 false x33) fun x34 =>
 Do (abin .neq x34 (.int .i64 2)) fun x35 =>
 JoinP (f138_k4 Φ a0 a2 x1 x3 x7 x19 Q) [x35] H21) (
 JoinP (f138_k4 Φ a0 a2 x1 x3 x7 x19 Q) [(.bool false)] H21) (
 False)))
noncomputable def ir_f138 : AFunc := decF Go.Proofs.YtggbkidckoecfaaGreatDoor.rb.C ⟨138,[6,11,15,70],[[74]],none,[],[]⟩
theorem eq_f138 (Φ : Calls') (a0 a1 a2 : AV) (H : AH) (Q : Post) : fnE1 Φ ir_f138 [a0, a1, a2] H Q = f138 Φ a0 a1 a2 H Q := by kernel_rfl
def f139_l1 (Φ : Calls') (a0 a1 x1 : AV) (Q : Post) : (List AV × AH) → ((List AV × AH) → Prop) → Prop := fun s2 L3 =>
 Do (abin .lss (sl s2.1 0) x1) fun x4 =>
 Gd x4 true (
 Do (aiaddr none 2 a0 (sl s2.1 0)) fun x5 =>
 Do (aload s2.2 2 true x5) fun x6 =>
∃ k9 c10, a1 = .fn k9 c10 ∧ Φ (fkey k9) (fargs k9 [x6] c10) s2.2 fun x7 H8 =>
 Gd x7 true (
 Q (sl s2.1 0) H8) (
 Do (abin .add (sl s2.1 0) (.int .i64 1)) fun x11 =>
 L3 ([x11], H8))) (
 Q (.int .i64 (-1)) s2.2)
def f139 (Φ : Calls') (a0 a1 : AV) (H : AH) (Q : Post) : Prop :=
 Do (alen false a0) fun x1 =>
 LoopP (f139_l1 Φ a0 a1 x1 Q) ([(.int .i64 0)], H)
noncomputable def ir_f139 : AFunc := decF Go.Proofs.YtggbkidckoecfaaGreatDoor.rb.C ⟨139,[],[[8]],none,[],[]⟩
theorem eq_f139 (Φ : Calls') (a0 a1 : AV) (H : AH) (Q : Post) : fnE1 Φ ir_f139 [a0, a1] H Q = f139 Φ a0 a1 H Q := by kernel_rfl
def f140 (Φ : Calls') (a0 a1 : AV) (H : AH) (Q : Post) : Prop :=
 DoH (aboxv H false 2 a0) fun x1 H2 =>
 Do (afaddr 0 x1) fun x3 =>
 Do (aload H2 1 false x3) fun x4 =>
 Do (aload H2 1 false a1) fun x5 =>
 Do (abin .eql x4 x5) fun x6 =>
 Q x6 H2
noncomputable def ir_f140 : AFunc := decF Go.Proofs.YtggbkidckoecfaaGreatDoor.rb.C ⟨140,[],[],none,[],[]⟩
theorem eq_f140 (Φ : Calls') (a0 a1 : AV) (H : AH) (Q : Post) : fnE1 Φ ir_f140 [a0, a1] H Q = f140 Φ a0 a1 H Q := by kernel_rfl
def f141_k1 (Φ : Calls') (Q : Post) : List AV → AH → Prop := fun j1 H2 =>
 Gd (sl j1 0) true (
 Q (.int .u64 1) H2) (
 Q (.int .u64 0) H2)
def f141 (Φ : Calls') (a0 a1 a2 : AV) (H : AH) (Q : Post) : Prop :=
 Do (abin .eql a0 (.int .i64 1)) fun x3 =>
 Gd x3 true (
 Do (abin .add a1 a2) fun x4 =>
 Q x4 H) (
 Do (abin .eql a0 (.int .i64 2)) fun x5 =>
 Gd x5 true (
 Do (abin .sub a1 a2) fun x6 =>
 Q x6 H) (
 Do (abin .eql a0 (.int .i64 3)) fun x7 =>
 Gd x7 true (
 Do (abin .mul a1 a2) fun x8 =>
 Q x8 H) (
 Do (abin .eql a0 (.int .i64 4)) fun x9 =>
 Gd x9 true (
 Do (abin .and a1 a2) fun x10 =>
 Q x10 H) (
 Do (abin .eql a0 (.int .i64 5)) fun x11 =>
 Gd x11 true (
 Do (abin .or a1 a2) fun x12 =>
 Q x12 H) (
 Do (abin .eql a0 (.int .i64 6)) fun x13 =>
 Gd x13 true (
 Do (abin .xor a1 a2) fun x14 =>
 Q x14 H) (
 Do (abin .eql a0 (.int .i64 7)) fun x15 =>
 Gd x15 true (
 Do (abin .rem a2 (.int .u64 64)) fun x16 =>
 Do (abin .shl a1 x16) fun x17 =>
 Q x17 H) (
 Do (abin .eql a0 (.int .i64 8)) fun x18 =>
 Gd x18 true (
 Do (abin .rem a2 (.int .u64 64)) fun x19 =>
 Do (abin .shr a1 x19) fun x20 =>
 Q x20 H) (
 Do (abin .eql a0 (.int .i64 9)) fun x21 =>
 Gd x21 true (
 Do (abin .eql a1 a2) fun x22 =>
 JoinP (f141_k1 Φ Q) [x22] H) (
 Do (abin .eql a0 (.int .i64 10)) fun x23 =>
 Gd x23 true (
 Do (abin .neq a1 a2) fun x24 =>
 JoinP (f141_k1 Φ Q) [x24] H) (
 Do (abin .lss a1 a2) fun x25 =>
 JoinP (f141_k1 Φ Q) [x25] H))))))))))
noncomputable def ir_f141 : AFunc := decF Go.Proofs.YtggbkidckoecfaaGreatDoor.rb.C ⟨141,[],[],none,[],[]⟩
theorem eq_f141 (Φ : Calls') (a0 a1 a2 : AV) (H : AH) (Q : Post) : fnE1 Φ ir_f141 [a0, a1, a2] H Q = f141 Φ a0 a1 a2 H Q := by kernel_rfl
def f142_k1 (Φ : Calls') (a0 x9 x32 : AV) (Q : Post) : List AV → AH → Prop := fun j35 H36 =>
 Do (aload H36 13 true x32) fun x46 =>
Φ K.f106 [a0, x46] H36 fun x47 H48 =>
 Do (aidx 2 1 false x47 (.int .i64 0)) fun x49 =>
 Do (afaddr 3 x9) fun x50 =>
 Do (aload H48 1 false x50) fun x51 =>
 Gd x51 true (
 Do (afaddr 4 x9) fun x52 =>
 Do (aload H48 1 false x52) fun x53 =>
 Do (afaddr 5 x9) fun x54 =>
 Do (aload H48 1 false x54) fun x55 =>
Φ K.f166 [x49, x53, x55] H48 fun x56 H57 =>
 Q x56 H57) (
 Q x49 H48)
def f142 (Φ : Calls') (a0 a1 a2 : AV) (H : AH) (Q : Post) : Prop :=
 DoH (aboxv H false 8 a1) fun x1 H2 =>
 Do (afaddr 5 x1) fun x3 =>
 Do (aload H2 2 true x3) fun x4 =>
Φ K.f105 [a0, x4, a2] H2 fun x5 H6 =>
 Do (aextract 0 x5) fun x7 =>
 Do (aextract 1 x5) fun x8 =>
 DoH (some (abox H6 true [.int .i64 0, .int .i64 0, .int .i64 0, .bool false, .int .i64 0, .int .i64 0])) fun x9 H10 =>
 Do (astore H10 6 x9 x7) fun H11 =>
 Do (aun .not x8) fun x12 =>
 Gd x12 true (
 Q (.int .u64 0) H11) (
 Do (afaddr 5 x1) fun x13 =>
 Do (aload H11 2 true x13) fun x14 =>
Φ K.f107 [x14] H11 fun x15 H16 =>
 Do (abin .add a2 x15) fun x17 =>
 Do (aload H16 6 true x9) fun x18 =>
 Do (afaddr 4 x1) fun x19 =>
 Do (aload H16 1 false x19) fun x20 =>
 Do (afaddr 7 x1) fun x21 =>
 Do (aload H16 1 false x21) fun x22 =>
 Do (afaddr 7 x1) fun x23 =>
 Do (aload H16 1 false x23) fun x24 =>
Φ K.f136 [a0, x22, x17] H16 fun x25 H26 =>
(aload H26 6 true x9 = some x18) ∧
(aload H26 1 false x19 = some x20) ∧
(aload H26 1 false x23 = some x24) ∧
(Φ K.f110 [x24] H26 fun x27 H28 =>
(aload H28 6 true x9 = some x18) ∧
(aload H28 1 false x19 = some x20) ∧
(Do (abin .add x17 x27) fun x29 =>
 Do (abin .add x29 (.int .i64 1)) fun x30 =>
 Do (abuild [.int .i64 0, .int .i64 0, .int .i64 0, .int .i64 0, .int .i64 0, .int .i64 0, .bool false, .int .i64 0, .int .i64 0, .int .i64 0, .int .i64 0, .int .u64 0, .int .u64 0] [(0, 1, (.int .i64 1)), (3, 6, x18), (9, 1, x20), (11, 2, x25), (1, 1, x30)]) fun x31 =>
 DoH (some (abox H28 true [.int .i64 0, .int .i64 0, .int .i64 0, .int .i64 0, .int .i64 0, .int .i64 0, .bool false, .int .i64 0, .int .i64 0, .int .i64 0, .int .i64 0, .int .u64 0, .int .u64 0])) fun x32 H33 =>
(aload H33 6 true x9 = some x18) ∧
(aload H33 1 false x19 = some x20) ∧
(aload H33 1 false x21 = some x22) ∧
(aload H33 1 false x23 = some x24) ∧
(Do (astore H33 13 x32 x31) fun H34 =>
 Do (afaddr 0 x1) fun x37 =>
 Do (aload H34 1 false x37) fun x38 =>
 Do (abin .geq x38 (.int .i64 6)) fun x39 =>
 Gd x39 true (
 Do (afaddr 0 x1) fun x40 =>
 Do (aload H34 1 false x40) fun x41 =>
 Do (afaddr 0 x32) fun x42 =>
 Do (astore H34 1 x42 (.int .i64 3)) fun H43 =>
(aload H43 1 false x40 = some x41) ∧
(Do (afaddr 10 x32) fun x44 =>
 Do (astore H43 1 x44 x41) fun H45 =>
 JoinP (f142_k1 Φ a0 x9 x32 Q) [] H45)) (
 JoinP (f142_k1 Φ a0 x9 x32 Q) [] H34)))))
noncomputable def ir_f142 : AFunc := decF Go.Proofs.YtggbkidckoecfaaGreatDoor.rb.C ⟨142,[7,9],[],none,[],[]⟩
theorem eq_f142 (Φ : Calls') (a0 a1 a2 : AV) (H : AH) (Q : Post) : fnE1 Φ ir_f142 [a0, a1, a2] H Q = f142 Φ a0 a1 a2 H Q := by kernel_rfl
def f151 (Φ : Calls') (a0 : AV) (H : AH) (Q : Post) : Prop :=
 DoH (aboxv H false 6 a0) fun x1 H2 =>
 Do (aload H2 6 true x1) fun x3 =>
Φ K.f176 [x3, (.int .i64 65)] H2 fun x4 H5 =>
 Q x4 H5
noncomputable def ir_f151 : AFunc := decF Go.Proofs.YtggbkidckoecfaaGreatDoor.rb.C ⟨151,[],[],none,[],[]⟩
theorem eq_f151 (Φ : Calls') (a0 : AV) (H : AH) (Q : Post) : fnE1 Φ ir_f151 [a0] H Q = f151 Φ a0 H Q := by kernel_rfl
def f152_k1 (Φ : Calls') (x1 : AV) (Q : Post) : List AV → AH → Prop := fun j22 H23 =>
 Do (afaddr 5 x1) fun x32 =>
 Do (aload H23 1 false x32) fun x33 =>
 Do (aiaddr none 6 x33 (.int .i64 0)) fun x34 =>
 Do (aload H23 6 true x34) fun x35 =>
Φ K.f152 [x35] H23 fun x36 H37 =>
 Q x36 H37
def f152_k2 (Φ : Calls') (x1 : AV) (Q : Post) : List AV → AH → Prop := fun j24 H25 =>
 Gd (sl j24 0) true (
 Q (.int .i64 9) H25) (
 JoinP (f152_k1 Φ x1 Q) [] H25)
def f152 (Φ : Calls') (a0 : AV) (H : AH) (Q : Post) : Prop :=
 DoH (aboxv H false 6 a0) fun x1 H2 =>
 Do (aload H2 6 true x1) fun x3 =>
Φ K.f177 [x3] H2 fun x4 H5 =>
 Do (aun .not x4) fun x6 =>
 Gd x6 true (
 Q (.int .i64 8) H5) (
 Do (afaddr 0 x1) fun x7 =>
 Do (aload H5 1 false x7) fun x8 =>
 Do (abin .eql x8 (.int .i64 1)) fun x9 =>
 Gd x9 true (
 Do (afaddr 1 x1) fun x10 =>
 Do (aload H5 1 false x10) fun x11 =>
Φ K.f178 [x11, (.int .i64 8)] H5 fun x12 H13 =>
 Do (aun .not x12) fun x14 =>
 Gd x14 true (
 Q (.int .i64 9) H13) (
 Q (.int .i64 0) H13)) (
 Do (abin .eql x8 (.int .i64 2)) fun x15 =>
 Gd x15 true (
 Do (afaddr 1 x1) fun x16 =>
 Do (aload H5 1 false x16) fun x17 =>
Φ K.f178 [x17, (.int .i64 16)] H5 fun x18 H19 =>
 Do (aun .not x18) fun x20 =>
 Gd x20 true (
 Q (.int .i64 9) H19) (
 Q (.int .i64 0) H19)) (
 Do (abin .eql x8 (.int .i64 5)) fun x21 =>
 Gd x21 true (
 Do (afaddr 4 x1) fun x26 =>
 Do (aload H5 1 false x26) fun x27 =>
 Do (abin .lss x27 (.int .i64 1)) fun x28 =>
 Gd3 x28 false (
 Do (afaddr 4 x1) fun x29 =>
 Do (aload H5 1 false x29) fun x30 =>
 Do (abin .gtr x30 (.int .i64 65536)) fun x31 =>
 JoinP (f152_k2 Φ x1 Q) [x31] H5) (
 JoinP (f152_k2 Φ x1 Q) [(.bool true)] H5) (
 False)) (
 Do (aload H5 6 true x1) fun x38 =>
Φ K.f179 [x38] H5 fun x39 H40 =>
 Q x39 H40))))
noncomputable def ir_f152 : AFunc := decF Go.Proofs.YtggbkidckoecfaaGreatDoor.rb.C ⟨152,[],[],none,[],[]⟩
theorem eq_f152 (Φ : Calls') (a0 : AV) (H : AH) (Q : Post) : fnE1 Φ ir_f152 [a0] H Q = f152 Φ a0 H Q := by kernel_rfl
def f153_k1 (Φ : Calls') (x1 : AV) (Q : Post) : List AV → AH → Prop := fun j11 H12 =>
 Gd3 (sl j11 0) false (
 Do (afaddr 3 x1) fun x17 =>
 Do (aload H12 1 false x17) fun x18 =>
Φ K.f155 [x18, (.fn K.f180 [])] H12 fun x19 H20 =>
 Q x19 H20) (
 Q (.bool true) H12) (
 False)
def f153_k2 (Φ : Calls') (x1 : AV) (Q : Post) : List AV → AH → Prop := fun j3 H4 =>
 Gd3 (sl j3 0) false (
 Do (afaddr 5 x1) fun x13 =>
 Do (aload H4 1 false x13) fun x14 =>
Φ K.f154 [x14, (.fn K.f153 [])] H4 fun x15 H16 =>
 JoinP (f153_k1 Φ x1 Q) [x15] H16) (
 JoinP (f153_k1 Φ x1 Q) [(.bool true)] H4) (
 False)
def f153 (Φ : Calls') (a0 : AV) (H : AH) (Q : Post) : Prop :=
 DoH (aboxv H false 6 a0) fun x1 H2 =>
 Do (afaddr 0 x1) fun x5 =>
 Do (aload H2 1 false x5) fun x6 =>
 Do (abin .eql x6 (.int .i64 2)) fun x7 =>
 Gd3 x7 true (
 Do (afaddr 1 x1) fun x8 =>
 Do (aload H2 1 false x8) fun x9 =>
 Do (abin .gtr x9 (.int .i64 1)) fun x10 =>
 JoinP (f153_k2 Φ x1 Q) [x10] H2) (
 JoinP (f153_k2 Φ x1 Q) [(.bool false)] H2) (
 False)
noncomputable def ir_f153 : AFunc := decF Go.Proofs.YtggbkidckoecfaaGreatDoor.rb.C ⟨153,[],[],none,[],[]⟩
theorem eq_f153 (Φ : Calls') (a0 : AV) (H : AH) (Q : Post) : fnE1 Φ ir_f153 [a0] H Q = f153 Φ a0 H Q := by kernel_rfl
def f154 (Φ : Calls') (a0 a1 : AV) (H : AH) (Q : Post) : Prop :=
Φ K.f181 [a0, a1] H fun x1 H2 =>
 Do (abin .geq x1 (.int .i64 0)) fun x3 =>
 Q x3 H2
noncomputable def ir_f154 : AFunc := decF Go.Proofs.YtggbkidckoecfaaGreatDoor.rb.C ⟨154,[],[],none,[],[]⟩
theorem eq_f154 (Φ : Calls') (a0 a1 : AV) (H : AH) (Q : Post) : fnE1 Φ ir_f154 [a0, a1] H Q = f154 Φ a0 a1 H Q := by kernel_rfl
def f155 (Φ : Calls') (a0 a1 : AV) (H : AH) (Q : Post) : Prop :=
Φ K.f182 [a0, a1] H fun x1 H2 =>
 Do (abin .geq x1 (.int .i64 0)) fun x3 =>
 Q x3 H2
noncomputable def ir_f155 : AFunc := decF Go.Proofs.YtggbkidckoecfaaGreatDoor.rb.C ⟨155,[],[],none,[],[]⟩
theorem eq_f155 (Φ : Calls') (a0 a1 : AV) (H : AH) (Q : Post) : fnE1 Φ ir_f155 [a0, a1] H Q = f155 Φ a0 a1 H Q := by kernel_rfl
def f156 (Φ : Calls') (a0 : AV) (H : AH) (Q : Post) : Prop :=
 DoH (aboxv H false 9 a0) fun x1 H2 =>
 Do (afaddr 1 x1) fun x3 =>
 Do (aload H2 6 true x3) fun x4 =>
Φ K.f126 [x4] H2 fun x5 H6 =>
 Q x5 H6
noncomputable def ir_f156 : AFunc := decF Go.Proofs.YtggbkidckoecfaaGreatDoor.rb.C ⟨156,[],[],none,[],[]⟩
theorem eq_f156 (Φ : Calls') (a0 : AV) (H : AH) (Q : Post) : fnE1 Φ ir_f156 [a0] H Q = f156 Φ a0 H Q := by kernel_rfl
def f157_k1 (Φ : Calls') (s15 : List AV × AH) (L16 : (List AV × AH) → Prop) (Q : Post) : List AV → AH → Prop := fun j18 H19 =>
 Do (abin .add (sl s15.1 0) (.int .i64 1)) fun x77 =>
 L16 ([x77], H19)
def f157_k2 (Φ : Calls') (x7 : AV) (s15 : List AV × AH) (L16 : (List AV × AH) → Prop) (Q : Post) : List AV → AH → Prop := fun j58 H59 =>
 Do (afaddr 0 x7) fun x65 =>
 Do (afaddr 0 x65) fun x66 =>
 Do (aload H59 1 false x66) fun x67 =>
 Do (afaddr 3 x7) fun x68 =>
 Do (aload H59 1 false x68) fun x69 =>
Φ K.f185 [x69, (.int .i64 8)] H59 fun x70 H71 =>
(aload H71 1 false x66 = some x67) ∧
(Do (abin .quo x70 (.int .i64 8)) fun x72 =>
 Do (aminmax true [x67, x72]) fun x73 =>
 Do (afaddr 0 x7) fun x74 =>
 Do (afaddr 0 x74) fun x75 =>
 Do (astore H71 1 x75 x73) fun H76 =>
 JoinP (f157_k1 Φ s15 L16 Q) [] H76)
def f157_k3 (Φ : Calls') (x7 x22 x31 x42 : AV) (s15 : List AV × AH) (L16 : (List AV × AH) → Prop) (Q : Post) : List AV → AH → Prop := fun j51 H52 =>
 Do (afaddr 7 x22) fun x60 =>
 Do (aload H52 1 false x60) fun x61 =>
 Gd x61 true (
 Do (aload H52 9 true x22) fun x62 =>
Φ K.f184 [x7, x62] H52 fun x63 H64 =>
 JoinP (f157_k2 Φ x7 s15 L16 Q) [] H64) (
 Do (afaddr 3 x7) fun x78 =>
 Do (aload H52 1 false x78) fun x79 =>
Φ K.f185 [x79, (.int .i64 8)] H52 fun x80 H81 =>
 Do (abin .quo x80 (.int .i64 8)) fun x82 =>
Φ K.f185 [x82, x42] H81 fun x83 H84 =>
 Do (afaddr 2 x7) fun x85 =>
 Do (aload H84 1 false x85) fun x86 =>
 Do (afaddr 0 x31) fun x87 =>
 Do (aload H84 1 false x87) fun x88 =>
 Do (abuild [.int .i64 0, .int .i64 0] [(0, 1, x83), (1, 1, x88)]) fun x89 =>
 Do (afaddr 1 x22) fun x90 =>
 Do (afaddr 0 x90) fun x91 =>
 Do (aload H84 1 false x91) fun x92 =>
 Do (abuild [.int .i64 0, .int .i64 0, .int .i64 0, .bool false, .int .i64 0, .int .i64 0] [(0, 2, x89), (2, 1, x92)]) fun x93 =>
 DoH (abslice H84 false 6 1 [.int .i64 0, .int .i64 0, .int .i64 0, .bool false, .int .i64 0, .int .i64 0] [(0, 6, x93)]) fun x94 H95 =>
 DoH (aappend H95 false 6 48 x86 x94) fun x96 H97 =>
 Do (afaddr 2 x7) fun x98 =>
 Do (astore H97 1 x98 x96) fun H99 =>
 Do (afaddr 0 x31) fun x100 =>
 Do (aload H99 1 false x100) fun x101 =>
 Do (abin .add x83 x101) fun x102 =>
 Do (abin .mul (.int .i64 8) x102) fun x103 =>
 Do (afaddr 3 x7) fun x104 =>
 Do (astore H99 1 x104 x103) fun H105 =>
 JoinP (f157_k2 Φ x7 s15 L16 Q) [] H105)
def f157_k4 (Φ : Calls') (x3 x7 : AV) (Q : Post) : List AV → AH → Prop := fun j10 H11 =>
 Do (afaddr 0 x7) fun x106 =>
 Do (afaddr 0 x106) fun x107 =>
 Do (aload H11 1 false x107) fun x108 =>
 Do (afaddr 0 x7) fun x109 =>
 Do (afaddr 1 x109) fun x110 =>
 Do (aload H11 1 false x110) fun x111 =>
Φ K.f185 [x108, x111] H11 fun x112 H113 =>
 Do (afaddr 0 x7) fun x114 =>
 Do (afaddr 0 x114) fun x115 =>
 Do (astore H113 1 x115 x112) fun H116 =>
 Do (aload H116 4 true x7) fun x117 =>
 Do (afaddr 0 x7) fun x118 =>
 Do (afaddr 0 x118) fun x119 =>
 Do (aload H116 1 false x119) fun x120 =>
 Do (abin .leq x120 (.int .i64 65536)) fun x121 =>
 Do (astore H116 4 x3 x117) fun H122 =>
(aload H122 1 false x119 = some x120) ∧
(Do (aload H122 4 true x3) fun x123 =>
 Q (.tup [x123, x121]) H122)
def f157_l5 (Φ : Calls') (x1 x3 x7 x13 x14 : AV) (Q : Post) : (List AV × AH) → ((List AV × AH) → Prop) → Prop := fun s15 L16 =>
 Do (abin .lss (sl s15.1 0) x14) fun x17 =>
 Gd x17 true (
 Do (aiaddr none 9 x13 (sl s15.1 0)) fun x20 =>
 Do (aload s15.2 9 true x20) fun x21 =>
 DoH (some (abox s15.2 true [.str [], .int .i64 0, .int .i64 0, .bool false, .lst .nil 0 [], .int .i64 0, .lst .nil 0 [], .bool false, .int .i64 0])) fun x22 H23 =>
 Do (astore H23 9 x22 x21) fun H24 =>
 Do (afaddr 1 x22) fun x25 =>
 Do (aload H24 6 true x25) fun x26 =>
Φ K.f127 [x26] H24 fun x27 H28 =>
 Do (aextract 0 x27) fun x29 =>
 Do (aextract 1 x27) fun x30 =>
 DoH (some (abox H28 true [.int .i64 0, .int .i64 0])) fun x31 H32 =>
 Do (astore H32 2 x31 x29) fun H33 =>
 Do (aun .not x30) fun x34 =>
 Gd x34 true (
 Do (abuild [.int .i64 0, .int .i64 0, .lst .nil 0 [], .int .i64 0] []) fun x35 =>
 Do (astore H33 4 x3 x35) fun H36 =>
 Do (aload H36 4 true x3) fun x37 =>
 Q (.tup [x37, (.bool false)]) H36) (
 Do (aload H33 6 true x1) fun x38 =>
 Do (aload H33 9 true x22) fun x39 =>
 Do (afaddr 1 x31) fun x40 =>
 Do (aload H33 1 false x40) fun x41 =>
Φ K.f183 [x38, x39, x41] H33 fun x42 H43 =>
 Do (afaddr 0 x7) fun x44 =>
 Do (afaddr 1 x44) fun x45 =>
 Do (aload H43 1 false x45) fun x46 =>
 Do (aminmax true [x46, x42]) fun x47 =>
 Do (afaddr 0 x7) fun x48 =>
 Do (afaddr 1 x48) fun x49 =>
 Do (astore H43 1 x49 x47) fun H50 =>
 Do (afaddr 0 x1) fun x53 =>
 Do (aload H50 1 false x53) fun x54 =>
 Do (abin .eql x54 (.int .i64 4)) fun x55 =>
 Gd x55 true (
 Do (afaddr 3 x7) fun x56 =>
 Do (astore H50 1 x56 (.int .i64 0)) fun H57 =>
 JoinP (f157_k3 Φ x7 x22 x31 x42 s15 L16 Q) [] H57) (
 JoinP (f157_k3 Φ x7 x22 x31 x42 s15 L16 Q) [] H50))) (
 JoinP (f157_k4 Φ x3 x7 Q) [] s15.2)
def f157 (Φ : Calls') (a0 : AV) (H : AH) (Q : Post) : Prop :=
 DoH (aboxv H false 6 a0) fun x1 H2 =>
 DoH (some (abox H2 true [.int .i64 0, .int .i64 0, .lst .nil 0 [], .int .i64 0])) fun x3 H4 =>
 Do (abuild [.int .i64 0, .int .i64 0] [(0, 1, (.int .i64 0)), (1, 1, (.int .i64 1))]) fun x5 =>
 Do (abuild [.int .i64 0, .int .i64 0, .lst .nil 0 [], .int .i64 0] [(0, 2, x5)]) fun x6 =>
 DoH (some (abox H4 true [.int .i64 0, .int .i64 0, .lst .nil 0 [], .int .i64 0])) fun x7 H8 =>
 Do (astore H8 4 x7 x6) fun H9 =>
 Do (afaddr 3 x1) fun x12 =>
 Do (aload H9 1 false x12) fun x13 =>
 Do (alen false x13) fun x14 =>
 LoopP (f157_l5 Φ x1 x3 x7 x13 x14 Q) ([(.int .i64 0)], H9)
noncomputable def ir_f157 : AFunc := decF Go.Proofs.YtggbkidckoecfaaGreatDoor.rb.C ⟨157,[2,4,6,7],[[16]],none,[],[]⟩
theorem eq_f157 (Φ : Calls') (a0 : AV) (H : AH) (Q : Post) : fnE1 Φ ir_f157 [a0] H Q = f157 Φ a0 H Q := by kernel_rfl
def f159 (Φ : Calls') (a0 a1 : AV) (H : AH) (Q : Post) : Prop :=
 DoH (aboxv H false 7 a0) fun x1 H2 =>
 Do (afaddr 0 x1) fun x3 =>
 Do (aload H2 1 false x3) fun x4 =>
 Do (afaddr 0 a1) fun x5 =>
 Do (aload H2 1 false x5) fun x6 =>
 Do (abin .eql x4 x6) fun x7 =>
 Q x7 H2
noncomputable def ir_f159 : AFunc := decF Go.Proofs.YtggbkidckoecfaaGreatDoor.rb.C ⟨159,[],[],none,[],[]⟩
theorem eq_f159 (Φ : Calls') (a0 a1 : AV) (H : AH) (Q : Post) : fnE1 Φ ir_f159 [a0, a1] H Q = f159 Φ a0 a1 H Q := by kernel_rfl
def f160_k1 (Φ : Calls') (x1 x3 x5 : AV) (Q : Post) : List AV → AH → Prop := fun j15 H16 =>
 Do (afaddr 3 x1) fun x59 =>
 Do (aload H16 1 false x59) fun x60 =>
Φ K.f182 [x60, (.fn K.f188 [x3])] H16 fun x61 H62 =>
 Do (abin .lss x61 (.int .i64 0)) fun x63 =>
 Gd x63 true (
 Do (abuild [.int .i64 0, .int .i64 0, .bool false, .lst .nil 0 [], .int .i64 0, .lst .nil 0 []] []) fun x64 =>
 Do (astore H62 6 x5 x64) fun H65 =>
 Do (aload H65 6 true x5) fun x66 =>
 Q (.tup [x66, (.int .i64 6)]) H65) (
 Do (afaddr 3 x1) fun x67 =>
 Do (aload H62 1 false x67) fun x68 =>
 Do (aiaddr none 9 x68 x61) fun x69 =>
 Do (afaddr 1 x69) fun x70 =>
 Do (aload H62 6 true x70) fun x71 =>
 Do (astore H62 6 x5 x71) fun H72 =>
 Do (aload H72 6 true x5) fun x73 =>
 Q (.tup [x73, (.int .i64 0)]) H72)
def f160_k2 (Φ : Calls') (x1 x3 x5 : AV) (Q : Post) : List AV → AH → Prop := fun j49 H50 =>
 Gd (sl j49 0) true (
 Do (abuild [.int .i64 0, .int .i64 0, .bool false, .lst .nil 0 [], .int .i64 0, .lst .nil 0 []] []) fun x56 =>
 Do (astore H50 6 x5 x56) fun H57 =>
 Do (aload H57 6 true x5) fun x58 =>
 Q (.tup [x58, (.int .i64 8)]) H57) (
 JoinP (f160_k1 Φ x1 x3 x5 Q) [] H50)
def f160_k3 (Φ : Calls') (x1 x3 x5 : AV) (j7 : List AV) (Q : Post) : List AV → AH → Prop := fun j34 H35 =>
 Gd (sl j34 0) true (
 Do (afaddr 5 x1) fun x43 =>
 Do (aload H35 1 false x43) fun x44 =>
 Do (aiaddr none 6 x44 (.int .i64 0)) fun x45 =>
 Do (aload H35 6 true x45) fun x46 =>
 Do (astore H35 6 x5 x46) fun H47 =>
 Do (aload H47 6 true x5) fun x48 =>
 Q (.tup [x48, (.int .i64 0)]) H47) (
 Do (afaddr 1 x3) fun x51 =>
 Do (aload H35 1 false x51) fun x52 =>
 Do (alen false x52) fun x53 =>
 Do (abin .eql x53 (.int .i64 1)) fun x54 =>
 Gd3 x54 false (
 Do (aun .not (sl j7 0)) fun x55 =>
 JoinP (f160_k2 Φ x1 x3 x5 Q) [x55] H35) (
 JoinP (f160_k2 Φ x1 x3 x5 Q) [(.bool true)] H35) (
 False))
def f160_k4 (Φ : Calls') (x1 x3 x5 : AV) (j7 : List AV) (Q : Post) : List AV → AH → Prop := fun j17 H18 =>
 Gd (sl j17 0) true (
 Do (abuild [.int .i64 0, .int .i64 0, .bool false, .lst .nil 0 [], .int .i64 0, .lst .nil 0 []] []) fun x31 =>
 Do (astore H18 6 x5 x31) fun H32 =>
 Do (aload H32 6 true x5) fun x33 =>
 Q (.tup [x33, (.int .i64 8)]) H32) (
 Do (afaddr 1 x3) fun x36 =>
 Do (aload H18 1 false x36) fun x37 =>
 Do (alen false x37) fun x38 =>
 Do (abin .eql x38 (.int .i64 1)) fun x39 =>
 Gd3 x39 true (
 Do (afaddr 0 x1) fun x40 =>
 Do (aload H18 1 false x40) fun x41 =>
 Do (abin .eql x41 (.int .i64 5)) fun x42 =>
 JoinP (f160_k3 Φ x1 x3 x5 j7 Q) [x42] H18) (
 JoinP (f160_k3 Φ x1 x3 x5 j7 Q) [(.bool false)] H18) (
 False))
def f160_k5 (Φ : Calls') (x1 x3 x5 : AV) (Q : Post) : List AV → AH → Prop := fun j7 H8 =>
 Do (afaddr 1 x3) fun x19 =>
 Do (aload H8 1 false x19) fun x20 =>
 Do (alen false x20) fun x21 =>
 Do (abin .gtr x21 (.int .i64 1)) fun x22 =>
 Gd3 x22 false (
 Do (afaddr 1 x3) fun x23 =>
 Do (aload H8 1 false x23) fun x24 =>
 Do (alen false x24) fun x25 =>
 Do (abin .eql x25 (.int .i64 1)) fun x26 =>
 Do (afaddr 0 x3) fun x27 =>
 Do (aload H8 1 false x27) fun x28 =>
 Do (abin .neq x28 (.str [])) fun x29 =>
 Do (abeq false x26 x29) fun x30 =>
 JoinP (f160_k4 Φ x1 x3 x5 j7 Q) [x30] H8) (
 JoinP (f160_k4 Φ x1 x3 x5 j7 Q) [(.bool true)] H8) (
 False)
def f160 (Φ : Calls') (a0 a1 : AV) (H : AH) (Q : Post) : Prop :=
 DoH (aboxv H false 6 a0) fun x1 H2 =>
 DoH (aboxv H2 false 2 a1) fun x3 H4 =>
 DoH (some (abox H4 true [.int .i64 0, .int .i64 0, .bool false, .lst .nil 0 [], .int .i64 0, .lst .nil 0 []])) fun x5 H6 =>
 Do (afaddr 0 x1) fun x9 =>
 Do (aload H6 1 false x9) fun x10 =>
 Do (abin .eql x10 (.int .i64 3)) fun x11 =>
 Gd3 x11 false (
 Do (afaddr 0 x1) fun x12 =>
 Do (aload H6 1 false x12) fun x13 =>
 Do (abin .eql x13 (.int .i64 4)) fun x14 =>
 JoinP (f160_k5 Φ x1 x3 x5 Q) [x14] H6) (
 JoinP (f160_k5 Φ x1 x3 x5 Q) [(.bool true)] H6) (
 False)
noncomputable def ir_f160 : AFunc := decF Go.Proofs.YtggbkidckoecfaaGreatDoor.rb.C ⟨160,[4],[],none,[],[]⟩
theorem eq_f160 (Φ : Calls') (a0 a1 : AV) (H : AH) (Q : Post) : fnE1 Φ ir_f160 [a0, a1] H Q = f160 Φ a0 a1 H Q := by kernel_rfl
def f161_k1 (Φ : Calls') (x1 : AV) (j3 : List AV) (Q : Post) : List AV → AH → Prop := fun j41 H42 =>
 Gd3 (sl j41 0) true (
 Do (afaddr 7 x1) fun x47 =>
 Do (aload H42 1 false x47) fun x48 =>
 Do (alen false x48) fun x49 =>
 Do (abin .eql x49 (sl j3 0)) fun x50 =>
 Q x50 H42) (
 Q (.bool false) H42) (
 False)
def f161_k2 (Φ : Calls') (x1 : AV) (j3 : List AV) (Q : Post) : List AV → AH → Prop := fun j29 H30 =>
 Gd3 (sl j29 0) true (
 Gd3 (sl j3 1) false (
 Do (afaddr 5 x1) fun x43 =>
 Do (aload H30 2 true x43) fun x44 =>
Φ K.f132 [x44] H30 fun x45 H46 =>
 JoinP (f161_k1 Φ x1 j3 Q) [x45] H46) (
 JoinP (f161_k1 Φ x1 j3 Q) [(.bool true)] H30) (
 False)) (
 JoinP (f161_k1 Φ x1 j3 Q) [(.bool false)] H30) (
 False)
def f161_k3 (Φ : Calls') (x1 x12 : AV) (j3 : List AV) (Q : Post) : List AV → AH → Prop := fun j21 H22 =>
 Gd3 (sl j21 0) true (
 Gd3 x12 true (
 Do (afaddr 3 x1) fun x31 =>
 Do (aload H22 1 false x31) fun x32 =>
 Do (abin .geq x32 (.int .i64 1)) fun x33 =>
 Gd3 x33 true (
 Do (afaddr 3 x1) fun x34 =>
 Do (aload H22 1 false x34) fun x35 =>
 Do (abin .leq x35 (.int .i64 11)) fun x36 =>
 Gd3 x36 false (
 Do (aun .not x12) fun x37 =>
 Gd3 x37 true (
 Do (afaddr 3 x1) fun x38 =>
 Do (aload H22 1 false x38) fun x39 =>
 Do (abin .eql x39 (.int .i64 0)) fun x40 =>
 JoinP (f161_k2 Φ x1 j3 Q) [x40] H22) (
 JoinP (f161_k2 Φ x1 j3 Q) [(.bool false)] H22) (
 False)) (
 JoinP (f161_k2 Φ x1 j3 Q) [(.bool true)] H22) (
 False)) (
 Do (aun .not x12) fun x51 =>
 Gd3 x51 true (
 Do (afaddr 3 x1) fun x52 =>
 Do (aload H22 1 false x52) fun x53 =>
 Do (abin .eql x53 (.int .i64 0)) fun x54 =>
 JoinP (f161_k2 Φ x1 j3 Q) [x54] H22) (
 JoinP (f161_k2 Φ x1 j3 Q) [(.bool false)] H22) (
 False)) (
 False)) (
 Do (aun .not x12) fun x55 =>
 Gd3 x55 true (
 Do (afaddr 3 x1) fun x56 =>
 Do (aload H22 1 false x56) fun x57 =>
 Do (abin .eql x57 (.int .i64 0)) fun x58 =>
 JoinP (f161_k2 Φ x1 j3 Q) [x58] H22) (
 JoinP (f161_k2 Φ x1 j3 Q) [(.bool false)] H22) (
 False)) (
 False)) (
 JoinP (f161_k2 Φ x1 j3 Q) [(.bool false)] H22) (
 False)
def f161_k4 (Φ : Calls') (x1 x12 : AV) (j3 : List AV) (Q : Post) : List AV → AH → Prop := fun j13 H14 =>
 Gd3 (sl j13 0) true (
 Do (afaddr 0 x1) fun x23 =>
 Do (aload H14 1 false x23) fun x24 =>
 Do (abin .eql x24 (.int .i64 2)) fun x25 =>
 Gd3 x25 false (
 Do (afaddr 2 x1) fun x26 =>
 Do (aload H14 1 false x26) fun x27 =>
 Do (abin .eql x27 (.str [])) fun x28 =>
 JoinP (f161_k3 Φ x1 x12 j3 Q) [x28] H14) (
 JoinP (f161_k3 Φ x1 x12 j3 Q) [(.bool true)] H14) (
 False)) (
 JoinP (f161_k3 Φ x1 x12 j3 Q) [(.bool false)] H14) (
 False)
def f161_k5 (Φ : Calls') (x1 : AV) (Q : Post) : List AV → AH → Prop := fun j3 H4 =>
 Do (afaddr 0 x1) fun x10 =>
 Do (aload H4 1 false x10) fun x11 =>
 Do (abin .eql x11 (.int .i64 3)) fun x12 =>
 Do (afaddr 0 x1) fun x15 =>
 Do (aload H4 1 false x15) fun x16 =>
 Do (abin .eql x16 (.int .i64 1)) fun x17 =>
 Gd3 x17 false (
 Do (afaddr 1 x1) fun x18 =>
 Do (aload H4 1 false x18) fun x19 =>
 Do (abin .eql x19 (.int .u64 0)) fun x20 =>
 JoinP (f161_k4 Φ x1 x12 j3 Q) [x20] H4) (
 JoinP (f161_k4 Φ x1 x12 j3 Q) [(.bool true)] H4) (
 False)
def f161_k6 (Φ : Calls') (x1 x6 : AV) (Q : Post) : List AV → AH → Prop := fun j63 H64 =>
 Gd (sl j63 0) true (
 JoinP (f161_k5 Φ x1 Q) [(.int .i64 1), (.bool true)] H64) (
 Do (abin .eql x6 (.int .i64 8)) fun x66 =>
 Gd x66 true (
 JoinP (f161_k5 Φ x1 Q) [(.int .i64 2), (.bool true)] H64) (
 Q (.bool false) H64))
def f161_k7 (Φ : Calls') (x1 x6 : AV) (Q : Post) : List AV → AH → Prop := fun j60 H61 =>
 Gd (sl j60 0) true (
 JoinP (f161_k5 Φ x1 Q) [(.int .i64 0), (.bool true)] H61) (
 Do (abin .eql x6 (.int .i64 6)) fun x65 =>
 Gd x65 true (
 JoinP (f161_k6 Φ x1 x6 Q) [x65] H61) (
 Do (abin .eql x6 (.int .i64 7)) fun x67 =>
 JoinP (f161_k6 Φ x1 x6 Q) [x67] H61))
def f161_k8 (Φ : Calls') (x1 x6 : AV) (Q : Post) : List AV → AH → Prop := fun j7 H8 =>
 Gd (sl j7 0) true (
 JoinP (f161_k5 Φ x1 Q) [(.int .i64 0), (.bool false)] H8) (
 Do (abin .eql x6 (.int .i64 3)) fun x59 =>
 Gd x59 true (
 JoinP (f161_k5 Φ x1 Q) [(.int .i64 2), (.bool false)] H8) (
 Do (abin .eql x6 (.int .i64 4)) fun x62 =>
 Gd x62 true (
 JoinP (f161_k7 Φ x1 x6 Q) [x62] H8) (
 Do (abin .eql x6 (.int .i64 5)) fun x68 =>
 JoinP (f161_k7 Φ x1 x6 Q) [x68] H8)))
def f161 (Φ : Calls') (a0 : AV) (H : AH) (Q : Post) : Prop :=
 DoH (aboxv H false 8 a0) fun x1 H2 =>
 Do (afaddr 0 x1) fun x5 =>
 Do (aload H2 1 false x5) fun x6 =>
 Do (abin .eql x6 (.int .i64 1)) fun x9 =>
 Gd x9 true (
 JoinP (f161_k8 Φ x1 x6 Q) [x9] H2) (
 Do (abin .eql x6 (.int .i64 2)) fun x69 =>
 JoinP (f161_k8 Φ x1 x6 Q) [x69] H2)
noncomputable def ir_f161 : AFunc := decF Go.Proofs.YtggbkidckoecfaaGreatDoor.rb.C ⟨161,[],[],none,[],[]⟩
theorem eq_f161 (Φ : Calls') (a0 : AV) (H : AH) (Q : Post) : fnE1 Φ ir_f161 [a0] H Q = f161 Φ a0 H Q := by kernel_rfl
def f162 (Φ : Calls') (a0 : AV) (H : AH) (Q : Post) : Prop :=
 Do (abin .geq a0 (.int .i64 0)) fun x1 =>
 Gd3 x1 true (
 Do (abin .lss a0 (.int .i64 64)) fun x2 =>
 Q x2 H) (
 Q (.bool false) H) (
 False)
noncomputable def ir_f162 : AFunc := decF Go.Proofs.YtggbkidckoecfaaGreatDoor.rb.C ⟨162,[],[],none,[],[]⟩
theorem eq_f162 (Φ : Calls') (a0 : AV) (H : AH) (Q : Post) : fnE1 Φ ir_f162 [a0] H Q = f162 Φ a0 H Q := by kernel_rfl
end Rb.S

namespace Rb.S
open Go
def f163_l1 (Φ : Calls') (x4 x5 : AV) (Q : Post) : (List AV × AH) → ((List AV × AH) → Prop) → Prop := fun s6 L7 =>
 Do (abin .lss (sl s6.1 1) x5) fun x8 =>
 Gd x8 true (
 Do (aiaddr none 2 x4 (sl s6.1 1)) fun x9 =>
 Do (aload s6.2 2 true x9) fun x10 =>
 DoH (some (abox s6.2 true [.str [], .lst .nil 0 []])) fun x11 H12 =>
 Do (astore H12 2 x11 x10) fun H13 =>
 Do (afaddr 1 x11) fun x14 =>
 Do (aload H13 1 false x14) fun x15 =>
 Do (alen false x15) fun x16 =>
 Do (abin .add (sl s6.1 0) x16) fun x17 =>
 Do (abin .add (sl s6.1 1) (.int .i64 1)) fun x18 =>
 L7 ([x17, x18], H13)) (
 Q (sl s6.1 0) s6.2)
def f163 (Φ : Calls') (a0 : AV) (H : AH) (Q : Post) : Prop :=
 DoH (aboxv H false 2 a0) fun x1 H2 =>
 Do (afaddr 1 x1) fun x3 =>
 Do (aload H2 1 false x3) fun x4 =>
 Do (alen false x4) fun x5 =>
 LoopP (f163_l1 Φ x4 x5 Q) ([(.int .i64 0), (.int .i64 0)], H2)
noncomputable def ir_f163 : AFunc := decF Go.Proofs.YtggbkidckoecfaaGreatDoor.rb.C ⟨163,[5],[[3,9]],none,[],[]⟩
theorem eq_f163 (Φ : Calls') (a0 : AV) (H : AH) (Q : Post) : fnE1 Φ ir_f163 [a0] H Q = f163 Φ a0 H Q := by kernel_rfl
def f164 (Φ : Calls') (a0 a1 : AV) (H : AH) (Q : Post) : Prop :=
 DoH (aboxv H false 7 a0) fun x1 H2 =>
 Do (afaddr 0 x1) fun x3 =>
 Do (aload H2 1 false x3) fun x4 =>
 Do (afaddr 0 a1) fun x5 =>
 Do (aload H2 1 false x5) fun x6 =>
 Do (abin .eql x4 x6) fun x7 =>
 Q x7 H2
noncomputable def ir_f164 : AFunc := decF Go.Proofs.YtggbkidckoecfaaGreatDoor.rb.C ⟨164,[],[],none,[],[]⟩
theorem eq_f164 (Φ : Calls') (a0 a1 : AV) (H : AH) (Q : Post) : fnE1 Φ ir_f164 [a0, a1] H Q = f164 Φ a0 a1 H Q := by kernel_rfl
def f165 (Φ : Calls') (a0 a1 : AV) (H : AH) (Q : Post) : Prop :=
 DoH (aboxv H false 2 a1) fun x1 H2 =>
 Do (afaddr 1 x1) fun x3 =>
 Do (aload H2 1 false x3) fun x4 =>
 Do (alen false x4) fun x5 =>
 Do (abin .eql x5 (.int .i64 1)) fun x6 =>
 Gd x6 true (
 Do (anilck a0) fun x7 =>
 Do (afaddr 12 x7) fun x8 =>
 Do (aload H2 1 false x8) fun x9 =>
 Do (aiaddr none 1 x9 (.int .i64 0)) fun x10 =>
 Do (aload H2 1 false x10) fun x11 =>
 Do (anilck a0) fun x12 =>
 Do (afaddr 12 x12) fun x13 =>
 Do (aload H2 1 false x13) fun x14 =>
 Do (aslice 1 x14 (some (.int .i64 1)) none none) fun x15 =>
 Do (anilck a0) fun x16 =>
 Do (afaddr 12 x16) fun x17 =>
 Do (astore H2 1 x17 x15) fun H18 =>
 Do (anilck a0) fun x19 =>
 Do (afaddr 0 x19) fun x20 =>
 Do (afaddr 4 x20) fun x21 =>
 Do (aload H18 1 false x21) fun x22 =>
 Do (aconv .u64 x22) fun x23 =>
 Do (abin .geq x11 x23) fun x24 =>
 Gd x24 true (
 Q (.bool false) H18) (
 Do (anilck a0) fun x25 =>
 Do (afaddr 0 x25) fun x26 =>
 Do (afaddr 5 x26) fun x27 =>
 Do (aload H18 1 false x27) fun x28 =>
 Do (aiaddr none 6 x28 (.int .i64 0)) fun x29 =>
 Do (aload H18 6 true x29) fun x30 =>
 Do (anilck a0) fun x31 =>
 Do (afaddr 0 x31) fun x32 =>
 Do (astore H18 6 x32 x30) fun H33 =>
 Do (anilck a0) fun x34 =>
 Do (afaddr 0 x34) fun x35 =>
 Do (aload H33 6 true x35) fun x36 =>
Φ K.f67 [x36] H33 fun x37 H38 =>
 Do (aextract 0 x37) fun x39 =>
 Do (aextract 1 x37) fun x40 =>
 Do (aextract 2 x37) fun x41 =>
 Do (anilck a0) fun x42 =>
 Do (afaddr 6 x42) fun x43 =>
 Do (afaddr 0 x43) fun x44 =>
 Do (afaddr 0 x44) fun x45 =>
 Do (aload H38 1 false x45) fun x46 =>
 Do (aconv .i64 x11) fun x47 =>
 Do (abin .mul x47 x39) fun x48 =>
 Do (abin .add x46 x48) fun x49 =>
 Do (anilck a0) fun x50 =>
 Do (afaddr 6 x50) fun x51 =>
 Do (afaddr 0 x51) fun x52 =>
 Do (afaddr 0 x52) fun x53 =>
 Do (astore H38 1 x53 x49) fun H54 =>
 Do (anilck a0) fun x55 =>
 Do (afaddr 6 x55) fun x56 =>
 Do (afaddr 0 x56) fun x57 =>
 Do (afaddr 1 x57) fun x58 =>
 Do (astore H54 1 x58 x39) fun H59 =>
 Q (.bool true) H59)) (
 Do (anilck a0) fun x60 =>
 Do (afaddr 0 x60) fun x61 =>
 Do (afaddr 3 x61) fun x62 =>
 Do (aload H2 1 false x62) fun x63 =>
Φ K.f182 [x63, (.fn K.f189 [x1])] H2 fun x64 H65 =>
 Do (anilck a0) fun x66 =>
 Do (afaddr 0 x66) fun x67 =>
 Do (aload H65 6 true x67) fun x68 =>
Φ K.f190 [x68] H65 fun x69 H70 =>
 Do (aextract 0 x69) fun x71 =>
 Do (aextract 1 x69) fun x72 =>
 Do (aiaddr none 6 x71 x64) fun x73 =>
 Do (aload H70 6 true x73) fun x74 =>
 DoH (some (abox H70 true [.int .i64 0, .int .i64 0, .int .i64 0, .bool false, .int .i64 0, .int .i64 0])) fun x75 H76 =>
 Do (astore H76 6 x75 x74) fun H77 =>
 Do (afaddr 0 x75) fun x78 =>
 Do (afaddr 0 x78) fun x79 =>
 Do (aload H77 1 false x79) fun x80 =>
 Do (anilck a0) fun x81 =>
 Do (afaddr 6 x81) fun x82 =>
 Do (afaddr 0 x82) fun x83 =>
 Do (afaddr 0 x83) fun x84 =>
 Do (aload H77 1 false x84) fun x85 =>
 Do (abin .add x80 x85) fun x86 =>
 Do (afaddr 0 x75) fun x87 =>
 Do (afaddr 0 x87) fun x88 =>
 Do (astore H77 1 x88 x86) fun H89 =>
 Do (aload H89 6 true x75) fun x90 =>
 Do (anilck a0) fun x91 =>
 Do (afaddr 0 x91) fun x92 =>
 Do (afaddr 3 x92) fun x93 =>
 Do (aload H89 1 false x93) fun x94 =>
 Do (aiaddr none 9 x94 x64) fun x95 =>
 Do (afaddr 1 x95) fun x96 =>
 Do (aload H89 6 true x96) fun x97 =>
 Do (anilck a0) fun x98 =>
 Do (afaddr 6 x98) fun x99 =>
 Do (astore H89 6 x99 x90) fun H100 =>
 Do (anilck a0) fun x101 =>
 Do (afaddr 0 x101) fun x102 =>
 Do (astore H100 6 x102 x97) fun H103 =>
 Q (.bool true) H103)
noncomputable def ir_f165 : AFunc := decF Go.Proofs.YtggbkidckoecfaaGreatDoor.rb.C ⟨165,[12],[],none,[],[]⟩
theorem eq_f165 (Φ : Calls') (a0 a1 : AV) (H : AH) (Q : Post) : fnE1 Φ ir_f165 [a0, a1] H Q = f165 Φ a0 a1 H Q := by kernel_rfl
def f166 (Φ : Calls') (a0 a1 a2 : AV) (H : AH) (Q : Post) : Prop :=
Φ K.f162 [a1] H fun x1 H2 =>
 Do (aun .not x1) fun x3 =>
 Gd x3 true (
 Q (.int .u64 0) H2) (
 Do (abin .shr a0 a1) fun x4 =>
Φ K.f70 [a2] H2 fun x5 H6 =>
 Do (abin .and x4 x5) fun x7 =>
 Q x7 H6)
noncomputable def ir_f166 : AFunc := decF Go.Proofs.YtggbkidckoecfaaGreatDoor.rb.C ⟨166,[],[],none,[],[]⟩
theorem eq_f166 (Φ : Calls') (a0 a1 a2 : AV) (H : AH) (Q : Post) : fnE1 Φ ir_f166 [a0, a1, a2] H Q = f166 Φ a0 a1 a2 H Q := by kernel_rfl
def f176_k1 (Φ : Calls') (Q : Post) : List AV → AH → Prop := fun j3 H4 =>
 Do (abin .add (sl j3 0) (.int .i64 1)) fun x43 =>
 Q x43 H4
def f176_l2 (Φ : Calls') (a1 x27 x28 : AV) (Q : Post) : (List AV × AH) → ((List AV × AH) → Prop) → Prop := fun s29 L30 =>
 Do (abin .lss (sl s29.1 1) x28) fun x31 =>
 Gd x31 true (
 Do (aiaddr none 6 x27 (sl s29.1 1)) fun x32 =>
 Do (aload s29.2 6 true x32) fun x33 =>
 DoH (some (abox s29.2 true [.int .i64 0, .int .i64 0, .bool false, .lst .nil 0 [], .int .i64 0, .lst .nil 0 []])) fun x34 H35 =>
 Do (astore H35 6 x34 x33) fun H36 =>
 Do (aload H36 6 true x34) fun x37 =>
 Do (abin .sub a1 (.int .i64 1)) fun x38 =>
Φ K.f176 [x37, x38] H36 fun x39 H40 =>
 Do (aminmax true [(sl s29.1 0), x39]) fun x41 =>
 Do (abin .add (sl s29.1 1) (.int .i64 1)) fun x42 =>
 L30 ([x41, x42], H40)) (
 JoinP (f176_k1 Φ Q) [(sl s29.1 0)] s29.2)
def f176_k3 (Φ : Calls') (a1 x1 : AV) (Q : Post) : List AV → AH → Prop := fun j6 H7 =>
 Do (afaddr 5 x1) fun x26 =>
 Do (aload H7 1 false x26) fun x27 =>
 Do (alen false x27) fun x28 =>
 LoopP (f176_l2 Φ a1 x27 x28 Q) ([(sl j6 0), (.int .i64 0)], H7)
def f176_l4 (Φ : Calls') (a1 x1 x9 x10 : AV) (Q : Post) : (List AV × AH) → ((List AV × AH) → Prop) → Prop := fun s11 L12 =>
 Do (abin .lss (sl s11.1 1) x10) fun x13 =>
 Gd x13 true (
 Do (aiaddr none 9 x9 (sl s11.1 1)) fun x14 =>
 Do (aload s11.2 9 true x14) fun x15 =>
 DoH (some (abox s11.2 true [.str [], .int .i64 0, .int .i64 0, .bool false, .lst .nil 0 [], .int .i64 0, .lst .nil 0 [], .bool false, .int .i64 0])) fun x16 H17 =>
 Do (astore H17 9 x16 x15) fun H18 =>
 Do (afaddr 1 x16) fun x19 =>
 Do (aload H18 6 true x19) fun x20 =>
 Do (abin .sub a1 (.int .i64 1)) fun x21 =>
Φ K.f176 [x20, x21] H18 fun x22 H23 =>
 Do (aminmax true [(sl s11.1 0), x22]) fun x24 =>
 Do (abin .add (sl s11.1 1) (.int .i64 1)) fun x25 =>
 L12 ([x24, x25], H23)) (
 JoinP (f176_k3 Φ a1 x1 Q) [(sl s11.1 0)] s11.2)
def f176 (Φ : Calls') (a0 a1 : AV) (H : AH) (Q : Post) : Prop :=
 DoH (aboxv H false 6 a0) fun x1 H2 =>
 Do (abin .gtr a1 (.int .i64 1)) fun x5 =>
 Gd x5 true (
 Do (afaddr 3 x1) fun x8 =>
 Do (aload H2 1 false x8) fun x9 =>
 Do (alen false x9) fun x10 =>
 LoopP (f176_l4 Φ a1 x1 x9 x10 Q) ([(.int .i64 0), (.int .i64 0)], H2)) (
 JoinP (f176_k1 Φ Q) [(.int .i64 0)] H2)
noncomputable def ir_f176 : AFunc := decF Go.Proofs.YtggbkidckoecfaaGreatDoor.rb.C ⟨176,[7,9],[[5,15],[5,30]],none,[],[]⟩
theorem eq_f176 (Φ : Calls') (a0 a1 : AV) (H : AH) (Q : Post) : fnE1 Φ ir_f176 [a0, a1] H Q = f176 Φ a0 a1 H Q := by kernel_rfl
def f177_k1 (Φ : Calls') (x1 x21 : AV) (Q : Post) : List AV → AH → Prop := fun j40 H41 =>
 Gd3 (sl j40 0) true (
 Do (aun .not x21) fun x49 =>
 Gd3 x49 false (
 Do (afaddr 5 x1) fun x50 =>
 Do (aload H41 1 false x50) fun x51 =>
 Do (alen false x51) fun x52 =>
 Do (abin .eql x52 (.int .i64 1)) fun x53 =>
 Q x53 H41) (
 Q (.bool true) H41) (
 False)) (
 Q (.bool false) H41) (
 False)
def f177_k2 (Φ : Calls') (x1 x21 : AV) (Q : Post) : List AV → AH → Prop := fun j31 H32 =>
 Gd3 (sl j31 0) true (
 Gd3 x21 false (
 Do (afaddr 4 x1) fun x42 =>
 Do (aload H32 1 false x42) fun x43 =>
 Do (abin .eql x43 (.int .i64 0)) fun x44 =>
 Gd3 x44 true (
 Do (afaddr 5 x1) fun x45 =>
 Do (aload H32 1 false x45) fun x46 =>
 Do (alen false x46) fun x47 =>
 Do (abin .eql x47 (.int .i64 0)) fun x48 =>
 JoinP (f177_k1 Φ x1 x21 Q) [x48] H32) (
 JoinP (f177_k1 Φ x1 x21 Q) [(.bool false)] H32) (
 False)) (
 JoinP (f177_k1 Φ x1 x21 Q) [(.bool true)] H32) (
 False)) (
 JoinP (f177_k1 Φ x1 x21 Q) [(.bool false)] H32) (
 False)
def f177_k3 (Φ : Calls') (x1 x21 : AV) (j11 : List AV) (Q : Post) : List AV → AH → Prop := fun j26 H27 =>
 Gd3 (sl j26 0) true (
 Gd3 (sl j11 0) false (
 Do (afaddr 2 x1) fun x33 =>
 Do (aload H27 1 false x33) fun x34 =>
 Do (aun .not x34) fun x35 =>
 Gd3 x35 true (
 Do (afaddr 3 x1) fun x36 =>
 Do (aload H27 1 false x36) fun x37 =>
 Do (alen false x37) fun x38 =>
 Do (abin .eql x38 (.int .i64 0)) fun x39 =>
 JoinP (f177_k2 Φ x1 x21 Q) [x39] H27) (
 JoinP (f177_k2 Φ x1 x21 Q) [(.bool false)] H27) (
 False)) (
 JoinP (f177_k2 Φ x1 x21 Q) [(.bool true)] H27) (
 False)) (
 JoinP (f177_k2 Φ x1 x21 Q) [(.bool false)] H27) (
 False)
def f177_k4 (Φ : Calls') (x1 x21 : AV) (j3 : List AV) (j11 : List AV) (Q : Post) : List AV → AH → Prop := fun j24 H25 =>
 Gd3 (sl j24 0) true (
 Gd3 (sl j3 0) false (
 Do (afaddr 1 x1) fun x28 =>
 Do (aload H25 1 false x28) fun x29 =>
 Do (abin .eql x29 (.int .i64 0)) fun x30 =>
 JoinP (f177_k3 Φ x1 x21 j11 Q) [x30] H25) (
 JoinP (f177_k3 Φ x1 x21 j11 Q) [(.bool true)] H25) (
 False)) (
 JoinP (f177_k3 Φ x1 x21 j11 Q) [(.bool false)] H25) (
 False)
def f177_k5 (Φ : Calls') (x1 x21 : AV) (j3 : List AV) (j11 : List AV) (Q : Post) : List AV → AH → Prop := fun j22 H23 =>
 Gd3 (sl j22 0) false (
 JoinP (f177_k4 Φ x1 x21 j3 j11 Q) [x21] H23) (
 JoinP (f177_k4 Φ x1 x21 j3 j11 Q) [(.bool true)] H23) (
 False)
def f177_k6 (Φ : Calls') (x1 : AV) (j3 : List AV) (Q : Post) : List AV → AH → Prop := fun j11 H12 =>
 Do (afaddr 0 x1) fun x19 =>
 Do (aload H12 1 false x19) fun x20 =>
 Do (abin .eql x20 (.int .i64 5)) fun x21 =>
 Gd3 (sl j3 0) false (
 JoinP (f177_k5 Φ x1 x21 j3 j11 Q) [(sl j11 0)] H12) (
 JoinP (f177_k5 Φ x1 x21 j3 j11 Q) [(.bool true)] H12) (
 False)
def f177_k7 (Φ : Calls') (x1 : AV) (Q : Post) : List AV → AH → Prop := fun j3 H4 =>
 Do (afaddr 0 x1) fun x13 =>
 Do (aload H4 1 false x13) fun x14 =>
 Do (abin .eql x14 (.int .i64 3)) fun x15 =>
 Gd3 x15 false (
 Do (afaddr 0 x1) fun x16 =>
 Do (aload H4 1 false x16) fun x17 =>
 Do (abin .eql x17 (.int .i64 4)) fun x18 =>
 JoinP (f177_k6 Φ x1 j3 Q) [x18] H4) (
 JoinP (f177_k6 Φ x1 j3 Q) [(.bool true)] H4) (
 False)
def f177 (Φ : Calls') (a0 : AV) (H : AH) (Q : Post) : Prop :=
 DoH (aboxv H false 6 a0) fun x1 H2 =>
 Do (afaddr 0 x1) fun x5 =>
 Do (aload H2 1 false x5) fun x6 =>
 Do (abin .eql x6 (.int .i64 1)) fun x7 =>
 Gd3 x7 false (
 Do (afaddr 0 x1) fun x8 =>
 Do (aload H2 1 false x8) fun x9 =>
 Do (abin .eql x9 (.int .i64 2)) fun x10 =>
 JoinP (f177_k7 Φ x1 Q) [x10] H2) (
 JoinP (f177_k7 Φ x1 Q) [(.bool true)] H2) (
 False)
noncomputable def ir_f177 : AFunc := decF Go.Proofs.YtggbkidckoecfaaGreatDoor.rb.C ⟨177,[],[],none,[],[]⟩
theorem eq_f177 (Φ : Calls') (a0 : AV) (H : AH) (Q : Post) : fnE1 Φ ir_f177 [a0] H Q = f177 Φ a0 H Q := by kernel_rfl
def f178_k1 (Φ : Calls') (a0 : AV) (Q : Post) : List AV → AH → Prop := fun j1 H2 =>
 Gd3 (sl j1 0) true (
 Do (abin .sub a0 (.int .i64 1)) fun x5 =>
 Do (abin .and a0 x5) fun x6 =>
 Do (abin .eql x6 (.int .i64 0)) fun x7 =>
 Q x7 H2) (
 Q (.bool false) H2) (
 False)
def f178 (Φ : Calls') (a0 a1 : AV) (H : AH) (Q : Post) : Prop :=
 Do (abin .geq a0 (.int .i64 1)) fun x3 =>
 Gd3 x3 true (
 Do (abin .leq a0 a1) fun x4 =>
 JoinP (f178_k1 Φ a0 Q) [x4] H) (
 JoinP (f178_k1 Φ a0 Q) [(.bool false)] H) (
 False)
noncomputable def ir_f178 : AFunc := decF Go.Proofs.YtggbkidckoecfaaGreatDoor.rb.C ⟨178,[],[],none,[],[]⟩
theorem eq_f178 (Φ : Calls') (a0 a1 : AV) (H : AH) (Q : Post) : fnE1 Φ ir_f178 [a0, a1] H Q = f178 Φ a0 a1 H Q := by kernel_rfl
def f179_l1 (Φ : Calls') (x1 x17 : AV) (Q : Post) : (List AV × AH) → ((List AV × AH) → Prop) → Prop := fun s18 L19 =>
 Do (abin .lss (sl s18.1 0) x17) fun x20 =>
 Gd x20 true (
 Do (aload s18.2 6 true x1) fun x21 =>
Φ K.f203 [x21, (sl s18.1 0)] s18.2 fun x22 H23 =>
 Do (abin .neq x22 (.int .i64 0)) fun x24 =>
 Gd x24 true (
 Q x22 H23) (
 Do (abin .add (sl s18.1 0) (.int .i64 1)) fun x25 =>
 L19 ([x25], H23))) (
 Q (.int .i64 0) s18.2)
def f179_k2 (Φ : Calls') (x1 : AV) (Q : Post) : List AV → AH → Prop := fun j3 H4 =>
 Do (afaddr 3 x1) fun x15 =>
 Do (aload H4 1 false x15) fun x16 =>
 Do (alen false x16) fun x17 =>
 LoopP (f179_l1 Φ x1 x17 Q) ([(.int .i64 0)], H4)
def f179_k3 (Φ : Calls') (x1 : AV) (Q : Post) : List AV → AH → Prop := fun j5 H6 =>
 Gd (sl j5 0) true (
 Q (.int .i64 12) H6) (
 JoinP (f179_k2 Φ x1 Q) [] H6)
def f179 (Φ : Calls') (a0 : AV) (H : AH) (Q : Post) : Prop :=
 DoH (aboxv H false 6 a0) fun x1 H2 =>
 Do (afaddr 3 x1) fun x7 =>
 Do (aload H2 1 false x7) fun x8 =>
 Do (alen false x8) fun x9 =>
 Do (abin .lss x9 (.int .i64 1)) fun x10 =>
 Gd3 x10 false (
 Do (afaddr 3 x1) fun x11 =>
 Do (aload H2 1 false x11) fun x12 =>
 Do (alen false x12) fun x13 =>
 Do (abin .gtr x13 (.int .i64 32)) fun x14 =>
 JoinP (f179_k3 Φ x1 Q) [x14] H2) (
 JoinP (f179_k3 Φ x1 Q) [(.bool true)] H2) (
 False)
noncomputable def ir_f179 : AFunc := decF Go.Proofs.YtggbkidckoecfaaGreatDoor.rb.C ⟨179,[],[[18]],none,[],[]⟩
theorem eq_f179 (Φ : Calls') (a0 : AV) (H : AH) (Q : Post) : fnE1 Φ ir_f179 [a0] H Q = f179 Φ a0 H Q := by kernel_rfl
def f180 (Φ : Calls') (a0 : AV) (H : AH) (Q : Post) : Prop :=
 DoH (aboxv H false 9 a0) fun x1 H2 =>
 Do (afaddr 1 x1) fun x3 =>
 Do (aload H2 6 true x3) fun x4 =>
Φ K.f153 [x4] H2 fun x5 H6 =>
 Q x5 H6
noncomputable def ir_f180 : AFunc := decF Go.Proofs.YtggbkidckoecfaaGreatDoor.rb.C ⟨180,[],[],none,[],[]⟩
theorem eq_f180 (Φ : Calls') (a0 : AV) (H : AH) (Q : Post) : fnE1 Φ ir_f180 [a0] H Q = f180 Φ a0 H Q := by kernel_rfl
def f181_l1 (Φ : Calls') (a0 a1 x1 : AV) (Q : Post) : (List AV × AH) → ((List AV × AH) → Prop) → Prop := fun s2 L3 =>
 Do (abin .lss (sl s2.1 0) x1) fun x4 =>
 Gd x4 true (
 Do (aiaddr none 6 a0 (sl s2.1 0)) fun x5 =>
 Do (aload s2.2 6 true x5) fun x6 =>
∃ k9 c10, a1 = .fn k9 c10 ∧ Φ (fkey k9) (fargs k9 [x6] c10) s2.2 fun x7 H8 =>
 Gd x7 true (
 Q (sl s2.1 0) H8) (
 Do (abin .add (sl s2.1 0) (.int .i64 1)) fun x11 =>
 L3 ([x11], H8))) (
 Q (.int .i64 (-1)) s2.2)
def f181 (Φ : Calls') (a0 a1 : AV) (H : AH) (Q : Post) : Prop :=
 Do (alen false a0) fun x1 =>
 LoopP (f181_l1 Φ a0 a1 x1 Q) ([(.int .i64 0)], H)
noncomputable def ir_f181 : AFunc := decF Go.Proofs.YtggbkidckoecfaaGreatDoor.rb.C ⟨181,[],[[8]],none,[],[]⟩
theorem eq_f181 (Φ : Calls') (a0 a1 : AV) (H : AH) (Q : Post) : fnE1 Φ ir_f181 [a0, a1] H Q = f181 Φ a0 a1 H Q := by kernel_rfl
def f182_l1 (Φ : Calls') (a0 a1 x1 : AV) (Q : Post) : (List AV × AH) → ((List AV × AH) → Prop) → Prop := fun s2 L3 =>
 Do (abin .lss (sl s2.1 0) x1) fun x4 =>
 Gd x4 true (
 Do (aiaddr none 9 a0 (sl s2.1 0)) fun x5 =>
 Do (aload s2.2 9 true x5) fun x6 =>
∃ k9 c10, a1 = .fn k9 c10 ∧ Φ (fkey k9) (fargs k9 [x6] c10) s2.2 fun x7 H8 =>
 Gd x7 true (
 Q (sl s2.1 0) H8) (
 Do (abin .add (sl s2.1 0) (.int .i64 1)) fun x11 =>
 L3 ([x11], H8))) (
 Q (.int .i64 (-1)) s2.2)
def f182 (Φ : Calls') (a0 a1 : AV) (H : AH) (Q : Post) : Prop :=
 Do (alen false a0) fun x1 =>
 LoopP (f182_l1 Φ a0 a1 x1 Q) ([(.int .i64 0)], H)
noncomputable def ir_f182 : AFunc := decF Go.Proofs.YtggbkidckoecfaaGreatDoor.rb.C ⟨182,[],[[8]],none,[],[]⟩
theorem eq_f182 (Φ : Calls') (a0 a1 : AV) (H : AH) (Q : Post) : fnE1 Φ ir_f182 [a0, a1] H Q = f182 Φ a0 a1 H Q := by kernel_rfl
def f183_k1 (Φ : Calls') (a2 x3 : AV) (Q : Post) : List AV → AH → Prop := fun j5 H6 =>
 Gd (sl j5 0) true (
 Q (.int .i64 1) H6) (
 Do (afaddr 7 x3) fun x14 =>
 Do (aload H6 1 false x14) fun x15 =>
 Gd x15 true (
 Do (afaddr 1 x3) fun x16 =>
 Do (afaddr 1 x16) fun x17 =>
 Do (aload H6 1 false x17) fun x18 =>
 Q x18 H6) (
 Q a2 H6))
def f183 (Φ : Calls') (a0 a1 a2 : AV) (H : AH) (Q : Post) : Prop :=
 DoH (aboxv H false 6 a0) fun x1 H2 =>
 DoH (aboxv H2 false 9 a1) fun x3 H4 =>
 Do (afaddr 2 x1) fun x7 =>
 Do (aload H4 1 false x7) fun x8 =>
 Gd3 x8 false (
 Do (afaddr 7 x3) fun x9 =>
 Do (aload H4 1 false x9) fun x10 =>
 Gd3 x10 true (
 Do (afaddr 8 x3) fun x11 =>
 Do (aload H4 1 false x11) fun x12 =>
 Do (abin .eql x12 (.int .i64 0)) fun x13 =>
 JoinP (f183_k1 Φ a2 x3 Q) [x13] H4) (
 JoinP (f183_k1 Φ a2 x3 Q) [(.bool false)] H4) (
 False)) (
 JoinP (f183_k1 Φ a2 x3 Q) [(.bool true)] H4) (
 False)
noncomputable def ir_f183 : AFunc := decF Go.Proofs.YtggbkidckoecfaaGreatDoor.rb.C ⟨183,[],[],none,[],[]⟩
theorem eq_f183 (Φ : Calls') (a0 a1 a2 : AV) (H : AH) (Q : Post) : fnE1 Φ ir_f183 [a0, a1, a2] H Q = f183 Φ a0 a1 a2 H Q := by kernel_rfl
def f184_k1 (Φ : Calls') (a0 x1 : AV) (Q : Post) : List AV → AH → Prop := fun j38 H39 =>
 Do (anilck a0) fun x61 =>
 Do (afaddr 3 x61) fun x62 =>
 Do (aload H39 1 false x62) fun x63 =>
 Do (abin .quo x63 (.int .i64 8)) fun x64 =>
 Do (anilck a0) fun x65 =>
 Do (afaddr 3 x65) fun x66 =>
 Do (aload H39 1 false x66) fun x67 =>
 Do (afaddr 8 x1) fun x68 =>
 Do (aload H39 1 false x68) fun x69 =>
 Do (abin .add x67 x69) fun x70 =>
 Do (abin .sub x70 (.int .i64 1)) fun x71 =>
 Do (abin .quo x71 (.int .i64 8)) fun x72 =>
 Do (anilck a0) fun x73 =>
 Do (afaddr 2 x73) fun x74 =>
 Do (aload H39 1 false x74) fun x75 =>
 Do (abin .sub x72 x64) fun x76 =>
 Do (abin .add x76 (.int .i64 1)) fun x77 =>
 Do (abuild [.int .i64 0, .int .i64 0] [(0, 1, x64), (1, 1, x77)]) fun x78 =>
 Do (anilck a0) fun x79 =>
 Do (afaddr 3 x79) fun x80 =>
 Do (aload H39 1 false x80) fun x81 =>
 Do (abin .rem x81 (.int .i64 8)) fun x82 =>
 Do (afaddr 8 x1) fun x83 =>
 Do (aload H39 1 false x83) fun x84 =>
 Do (abuild [.int .i64 0, .int .i64 0, .int .i64 0, .bool false, .int .i64 0, .int .i64 0] [(0, 2, x78), (2, 1, (.int .i64 1)), (3, 1, (.bool true)), (4, 1, x82), (5, 1, x84)]) fun x85 =>
 DoH (abslice H39 false 6 1 [.int .i64 0, .int .i64 0, .int .i64 0, .bool false, .int .i64 0, .int .i64 0] [(0, 6, x85)]) fun x86 H87 =>
 DoH (aappend H87 false 6 48 x75 x86) fun x88 H89 =>
 Do (anilck a0) fun x90 =>
 Do (afaddr 2 x90) fun x91 =>
 Do (astore H89 1 x91 x88) fun H92 =>
 Do (anilck a0) fun x93 =>
 Do (afaddr 3 x93) fun x94 =>
 Do (aload H92 1 false x94) fun x95 =>
 Do (afaddr 8 x1) fun x96 =>
 Do (aload H92 1 false x96) fun x97 =>
 Do (abin .add x95 x97) fun x98 =>
 Do (anilck a0) fun x99 =>
 Do (afaddr 3 x99) fun x100 =>
 Do (astore H92 1 x100 x98) fun H101 =>
 Q (.tup []) H101
def f184 (Φ : Calls') (a0 a1 : AV) (H : AH) (Q : Post) : Prop :=
 DoH (aboxv H false 9 a1) fun x1 H2 =>
 Do (afaddr 1 x1) fun x3 =>
 Do (afaddr 1 x3) fun x4 =>
 Do (aload H2 1 false x4) fun x5 =>
 Do (abin .mul (.int .i64 8) x5) fun x6 =>
 Do (afaddr 8 x1) fun x7 =>
 Do (aload H2 1 false x7) fun x8 =>
 Do (abin .eql x8 (.int .i64 0)) fun x9 =>
 Gd x9 true (
 Do (anilck a0) fun x10 =>
 Do (afaddr 3 x10) fun x11 =>
 Do (aload H2 1 false x11) fun x12 =>
Φ K.f185 [x12, x6] H2 fun x13 H14 =>
 Do (anilck a0) fun x15 =>
 Do (afaddr 3 x15) fun x16 =>
 Do (astore H14 1 x16 x13) fun H17 =>
 Do (anilck a0) fun x18 =>
 Do (afaddr 2 x18) fun x19 =>
 Do (aload H17 1 false x19) fun x20 =>
 Do (anilck a0) fun x21 =>
 Do (afaddr 3 x21) fun x22 =>
 Do (aload H17 1 false x22) fun x23 =>
 Do (abin .quo x23 (.int .i64 8)) fun x24 =>
 Do (abuild [.int .i64 0, .int .i64 0] [(0, 1, x24)]) fun x25 =>
 Do (anilck a0) fun x26 =>
 Do (afaddr 3 x26) fun x27 =>
 Do (aload H17 1 false x27) fun x28 =>
 Do (abin .rem x28 (.int .i64 8)) fun x29 =>
 Do (abuild [.int .i64 0, .int .i64 0, .int .i64 0, .bool false, .int .i64 0, .int .i64 0] [(0, 2, x25), (2, 1, (.int .i64 1)), (3, 1, (.bool true)), (4, 1, x29)]) fun x30 =>
 DoH (abslice H17 false 6 1 [.int .i64 0, .int .i64 0, .int .i64 0, .bool false, .int .i64 0, .int .i64 0] [(0, 6, x30)]) fun x31 H32 =>
 DoH (aappend H32 false 6 48 x20 x31) fun x33 H34 =>
 Do (anilck a0) fun x35 =>
 Do (afaddr 2 x35) fun x36 =>
 Do (astore H34 1 x36 x33) fun H37 =>
 Q (.tup []) H37) (
 Do (anilck a0) fun x40 =>
 Do (afaddr 3 x40) fun x41 =>
 Do (aload H2 1 false x41) fun x42 =>
 Do (abin .quo x42 x6) fun x43 =>
 Do (anilck a0) fun x44 =>
 Do (afaddr 3 x44) fun x45 =>
 Do (aload H2 1 false x45) fun x46 =>
 Do (afaddr 8 x1) fun x47 =>
 Do (aload H2 1 false x47) fun x48 =>
 Do (abin .add x46 x48) fun x49 =>
 Do (abin .sub x49 (.int .i64 1)) fun x50 =>
 Do (abin .quo x50 x6) fun x51 =>
 Do (abin .neq x43 x51) fun x52 =>
 Gd x52 true (
 Do (anilck a0) fun x53 =>
 Do (afaddr 3 x53) fun x54 =>
 Do (aload H2 1 false x54) fun x55 =>
Φ K.f185 [x55, x6] H2 fun x56 H57 =>
 Do (anilck a0) fun x58 =>
 Do (afaddr 3 x58) fun x59 =>
 Do (astore H57 1 x59 x56) fun H60 =>
 JoinP (f184_k1 Φ a0 x1 Q) [] H60) (
 JoinP (f184_k1 Φ a0 x1 Q) [] H2))
noncomputable def ir_f184 : AFunc := decF Go.Proofs.YtggbkidckoecfaaGreatDoor.rb.C ⟨184,[],[],none,[],[]⟩
theorem eq_f184 (Φ : Calls') (a0 a1 : AV) (H : AH) (Q : Post) : fnE1 Φ ir_f184 [a0, a1] H Q = f184 Φ a0 a1 H Q := by kernel_rfl
def f185 (Φ : Calls') (a0 a1 : AV) (H : AH) (Q : Post) : Prop :=
 Do (abin .add a0 a1) fun x1 =>
 Do (abin .sub x1 (.int .i64 1)) fun x2 =>
 Do (abin .quo x2 a1) fun x3 =>
 Do (abin .mul x3 a1) fun x4 =>
 Q x4 H
noncomputable def ir_f185 : AFunc := decF Go.Proofs.YtggbkidckoecfaaGreatDoor.rb.C ⟨185,[],[],none,[],[]⟩
theorem eq_f185 (Φ : Calls') (a0 a1 : AV) (H : AH) (Q : Post) : fnE1 Φ ir_f185 [a0, a1] H Q = f185 Φ a0 a1 H Q := by kernel_rfl
def f188 (Φ : Calls') (a0 a1 : AV) (H : AH) (Q : Post) : Prop :=
 DoH (aboxv H false 9 a0) fun x1 H2 =>
 Do (afaddr 0 x1) fun x3 =>
 Do (aload H2 1 false x3) fun x4 =>
 Do (afaddr 0 a1) fun x5 =>
 Do (aload H2 1 false x5) fun x6 =>
 Do (abin .eql x4 x6) fun x7 =>
 Q x7 H2
noncomputable def ir_f188 : AFunc := decF Go.Proofs.YtggbkidckoecfaaGreatDoor.rb.C ⟨188,[],[],none,[],[]⟩
theorem eq_f188 (Φ : Calls') (a0 a1 : AV) (H : AH) (Q : Post) : fnE1 Φ ir_f188 [a0, a1] H Q = f188 Φ a0 a1 H Q := by kernel_rfl
def f189 (Φ : Calls') (a0 a1 : AV) (H : AH) (Q : Post) : Prop :=
 DoH (aboxv H false 9 a0) fun x1 H2 =>
 Do (afaddr 0 x1) fun x3 =>
 Do (aload H2 1 false x3) fun x4 =>
 Do (afaddr 0 a1) fun x5 =>
 Do (aload H2 1 false x5) fun x6 =>
 Do (abin .eql x4 x6) fun x7 =>
 Q x7 H2
noncomputable def ir_f189 : AFunc := decF Go.Proofs.YtggbkidckoecfaaGreatDoor.rb.C ⟨189,[],[],none,[],[]⟩
theorem eq_f189 (Φ : Calls') (a0 a1 : AV) (H : AH) (Q : Post) : fnE1 Φ ir_f189 [a0, a1] H Q = f189 Φ a0 a1 H Q := by kernel_rfl
def f190_k1 (Φ : Calls') (x1 : AV) (Q : Post) : List AV → AH → Prop := fun j12 H13 =>
 Do (aload H13 6 true x1) fun x22 =>
Φ K.f157 [x22] H13 fun x23 H24 =>
 Do (aextract 0 x23) fun x25 =>
 Do (aextract 1 x23) fun x26 =>
 DoH (some (abox H24 true [.int .i64 0, .int .i64 0, .lst .nil 0 [], .int .i64 0])) fun x27 H28 =>
 Do (astore H28 4 x27 x25) fun H29 =>
 Do (afaddr 2 x27) fun x30 =>
 Do (aload H29 1 false x30) fun x31 =>
 Q (.tup [x31, (.int .i64 0)]) H29
def f190_k2 (Φ : Calls') (x1 : AV) (Q : Post) : List AV → AH → Prop := fun j14 H15 =>
 Gd (sl j14 0) true (
 Q (.tup [(.lst .nil 0 []), (.int .i64 8)]) H15) (
 JoinP (f190_k1 Φ x1 Q) [] H15)
def f190 (Φ : Calls') (a0 : AV) (H : AH) (Q : Post) : Prop :=
 DoH (aboxv H false 6 a0) fun x1 H2 =>
 Do (aload H2 6 true x1) fun x3 =>
Φ K.f93 [x3] H2 fun x4 H5 =>
 Do (aextract 0 x4) fun x6 =>
 Do (aextract 1 x4) fun x7 =>
 DoH (some (abox H5 true [.int .i64 0, .int .i64 0])) fun x8 H9 =>
 Do (astore H9 2 x8 x6) fun H10 =>
 Do (abin .neq x7 (.int .i64 0)) fun x11 =>
 Gd x11 true (
 Q (.tup [(.lst .nil 0 []), x7]) H10) (
 Do (afaddr 0 x1) fun x16 =>
 Do (aload H10 1 false x16) fun x17 =>
 Do (abin .neq x17 (.int .i64 3)) fun x18 =>
 Gd3 x18 true (
 Do (afaddr 0 x1) fun x19 =>
 Do (aload H10 1 false x19) fun x20 =>
 Do (abin .neq x20 (.int .i64 4)) fun x21 =>
 JoinP (f190_k2 Φ x1 Q) [x21] H10) (
 JoinP (f190_k2 Φ x1 Q) [(.bool false)] H10) (
 False))
noncomputable def ir_f190 : AFunc := decF Go.Proofs.YtggbkidckoecfaaGreatDoor.rb.C ⟨190,[4,6],[],none,[],[]⟩
theorem eq_f190 (Φ : Calls') (a0 : AV) (H : AH) (Q : Post) : fnE1 Φ ir_f190 [a0] H Q = f190 Φ a0 H Q := by kernel_rfl
def f203_k1 (Φ : Calls') (Q : Post) : List AV → AH → Prop := fun j58 H59 =>
 Gd (sl j58 0) true (
 Q (.int .i64 9) H59) (
 Q (.int .i64 0) H59)
def f203_k2 (Φ : Calls') (x7 : AV) (Q : Post) : List AV → AH → Prop := fun j40 H41 =>
 Gd (sl j40 0) true (
 Q (.int .i64 8) H41) (
 Do (afaddr 7 x7) fun x60 =>
 Do (aload H41 1 false x60) fun x61 =>
 Gd3 x61 true (
 Do (afaddr 8 x7) fun x62 =>
 Do (aload H41 1 false x62) fun x63 =>
 Do (abin .lss x63 (.int .i64 0)) fun x64 =>
 Gd3 x64 false (
 Do (afaddr 8 x7) fun x65 =>
 Do (aload H41 1 false x65) fun x66 =>
 Do (afaddr 1 x7) fun x67 =>
 Do (afaddr 1 x67) fun x68 =>
 Do (aload H41 1 false x68) fun x69 =>
 Do (abin .mul (.int .i64 8) x69) fun x70 =>
 Do (abin .gtr x66 x70) fun x71 =>
 Gd3 x71 false (
 Do (afaddr 8 x7) fun x72 =>
 Do (aload H41 1 false x72) fun x73 =>
 Do (abin .eql x73 (.int .i64 0)) fun x74 =>
 Gd3 x74 true (
 Do (afaddr 0 x7) fun x75 =>
 Do (aload H41 1 false x75) fun x76 =>
 Do (abin .neq x76 (.str [])) fun x77 =>
 JoinP (f203_k1 Φ Q) [x77] H41) (
 JoinP (f203_k1 Φ Q) [(.bool false)] H41) (
 False)) (
 JoinP (f203_k1 Φ Q) [(.bool true)] H41) (
 False)) (
 JoinP (f203_k1 Φ Q) [(.bool true)] H41) (
 False)) (
 JoinP (f203_k1 Φ Q) [(.bool false)] H41) (
 False))
def f203_k3 (Φ : Calls') (x1 x7 : AV) (Q : Post) : List AV → AH → Prop := fun j42 H43 =>
 Gd3 (sl j42 0) false (
 Do (afaddr 7 x7) fun x50 =>
 Do (aload H43 1 false x50) fun x51 =>
 Gd3 x51 true (
 Do (afaddr 1 x7) fun x52 =>
 Do (afaddr 0 x52) fun x53 =>
 Do (aload H43 1 false x53) fun x54 =>
 Do (abin .neq x54 (.int .i64 1)) fun x55 =>
 Gd3 x55 false (
 Do (afaddr 2 x1) fun x56 =>
 Do (aload H43 1 false x56) fun x57 =>
 JoinP (f203_k2 Φ x7 Q) [x57] H43) (
 JoinP (f203_k2 Φ x7 Q) [(.bool true)] H43) (
 False)) (
 JoinP (f203_k2 Φ x7 Q) [(.bool false)] H43) (
 False)) (
 JoinP (f203_k2 Φ x7 Q) [(.bool true)] H43) (
 False)
def f203_k4 (Φ : Calls') (x1 x7 : AV) (Q : Post) : List AV → AH → Prop := fun j10 H11 =>
 Do (afaddr 1 x7) fun x35 =>
 Do (aload H11 6 true x35) fun x36 =>
Φ K.f152 [x36] H11 fun x37 H38 =>
 Do (abin .neq x37 (.int .i64 0)) fun x39 =>
 Gd x39 true (
 Q x37 H38) (
 Do (afaddr 7 x7) fun x44 =>
 Do (aload H38 1 false x44) fun x45 =>
 Do (aun .not x45) fun x46 =>
 Gd3 x46 true (
 Do (afaddr 8 x7) fun x47 =>
 Do (aload H38 1 false x47) fun x48 =>
 Do (abin .neq x48 (.int .i64 0)) fun x49 =>
 JoinP (f203_k3 Φ x1 x7 Q) [x49] H38) (
 JoinP (f203_k3 Φ x1 x7 Q) [(.bool false)] H38) (
 False))
def f203_k5 (Φ : Calls') (x1 x7 : AV) (Q : Post) : List AV → AH → Prop := fun j25 H26 =>
 Gd (sl j25 0) true (
 Q (.int .i64 7) H26) (
 JoinP (f203_k4 Φ x1 x7 Q) [] H26)
def f203_k6 (Φ : Calls') (a1 x1 x7 : AV) (Q : Post) : List AV → AH → Prop := fun j12 H13 =>
 Gd (sl j12 0) true (
 Q (.int .i64 6) H13) (
 Do (afaddr 0 x7) fun x27 =>
 Do (aload H13 1 false x27) fun x28 =>
 Do (abin .neq x28 (.str [])) fun x29 =>
 Gd3 x29 true (
 Do (afaddr 3 x1) fun x30 =>
 Do (aload H13 1 false x30) fun x31 =>
 Do (aslice 9 x31 none (some a1) none) fun x32 =>
Φ K.f155 [x32, (.fn K.f209 [x7])] H13 fun x33 H34 =>
 JoinP (f203_k5 Φ x1 x7 Q) [x33] H34) (
 JoinP (f203_k5 Φ x1 x7 Q) [(.bool false)] H13) (
 False))
def f203 (Φ : Calls') (a0 a1 : AV) (H : AH) (Q : Post) : Prop :=
 DoH (aboxv H false 6 a0) fun x1 H2 =>
 Do (afaddr 3 x1) fun x3 =>
 Do (aload H2 1 false x3) fun x4 =>
 Do (aiaddr none 9 x4 a1) fun x5 =>
 Do (aload H2 9 true x5) fun x6 =>
 DoH (some (abox H2 true [.str [], .int .i64 0, .int .i64 0, .bool false, .lst .nil 0 [], .int .i64 0, .lst .nil 0 [], .bool false, .int .i64 0])) fun x7 H8 =>
 Do (astore H8 9 x7 x6) fun H9 =>
 Do (afaddr 0 x7) fun x14 =>
 Do (aload H9 1 false x14) fun x15 =>
Φ K.f71 [x15] H9 fun x16 H17 =>
 Do (aun .not x16) fun x18 =>
 Gd3 x18 true (
 Do (afaddr 0 x7) fun x19 =>
 Do (aload H17 1 false x19) fun x20 =>
 Do (abin .neq x20 (.str [])) fun x21 =>
 Gd3 x21 false (
 Do (afaddr 7 x7) fun x22 =>
 Do (aload H17 1 false x22) fun x23 =>
 Do (aun .not x23) fun x24 =>
 JoinP (f203_k6 Φ a1 x1 x7 Q) [x24] H17) (
 JoinP (f203_k6 Φ a1 x1 x7 Q) [(.bool true)] H17) (
 False)) (
 JoinP (f203_k6 Φ a1 x1 x7 Q) [(.bool false)] H17) (
 False)
noncomputable def ir_f203 : AFunc := decF Go.Proofs.YtggbkidckoecfaaGreatDoor.rb.C ⟨203,[5],[],none,[],[]⟩
theorem eq_f203 (Φ : Calls') (a0 a1 : AV) (H : AH) (Q : Post) : fnE1 Φ ir_f203 [a0, a1] H Q = f203 Φ a0 a1 H Q := by kernel_rfl
def f209 (Φ : Calls') (a0 a1 : AV) (H : AH) (Q : Post) : Prop :=
 DoH (aboxv H false 9 a0) fun x1 H2 =>
 Do (afaddr 0 x1) fun x3 =>
 Do (aload H2 1 false x3) fun x4 =>
 Do (afaddr 0 a1) fun x5 =>
 Do (aload H2 1 false x5) fun x6 =>
 Do (abin .eql x4 x6) fun x7 =>
 Q x7 H2
noncomputable def ir_f209 : AFunc := decF Go.Proofs.YtggbkidckoecfaaGreatDoor.rb.C ⟨209,[],[],none,[],[]⟩
theorem eq_f209 (Φ : Calls') (a0 a1 : AV) (H : AH) (Q : Post) : fnE1 Φ ir_f209 [a0, a1] H Q = f209 Φ a0 a1 H Q := by kernel_rfl
noncomputable def tab_Chk : Tab := [
  (K.f5, ir_f5),
  (K.f6, ir_f6),
  (K.f12, ir_f12),
  (K.f18, ir_f18),
  (K.f19, ir_f19),
  (K.f32, ir_f32),
  (K.f45, ir_f45),
  (K.f46, ir_f46),
  (K.f47, ir_f47),
  (K.f48, ir_f48),
  (K.f67, ir_f67),
  (K.f70, ir_f70),
  (K.f71, ir_f71),
  (K.f72, ir_f72),
  (K.f73, ir_f73),
  (K.f74, ir_f74),
  (K.f75, ir_f75),
  (K.f76, ir_f76),
  (K.f77, ir_f77),
  (K.f78, ir_f78),
  (K.f93, ir_f93),
  (K.f94, ir_f94),
  (K.f95, ir_f95),
  (K.f97, ir_f97),
  (K.f98, ir_f98),
  (K.f99, ir_f99),
  (K.f100, ir_f100),
  (K.f101, ir_f101),
  (K.f102, ir_f102),
  (K.f103, ir_f103),
  (K.f104, ir_f104),
  (K.f105, ir_f105),
  (K.f106, ir_f106),
  (K.f107, ir_f107),
  (K.f108, ir_f108),
  (K.f109, ir_f109),
  (K.f110, ir_f110),
  (K.f111, ir_f111),
  (K.f125, ir_f125),
  (K.f126, ir_f126),
  (K.f127, ir_f127),
  (K.f128, ir_f128),
  (K.f131, ir_f131),
  (K.f132, ir_f132),
  (K.f133, ir_f133),
  (K.f134, ir_f134),
  (K.f135, ir_f135),
  (K.f136, ir_f136),
  (K.f137, ir_f137),
  (K.f138, ir_f138),
  (K.f139, ir_f139),
  (K.f140, ir_f140),
  (K.f141, ir_f141),
  (K.f142, ir_f142),
  (K.f151, ir_f151),
  (K.f152, ir_f152),
  (K.f153, ir_f153),
  (K.f154, ir_f154),
  (K.f155, ir_f155),
  (K.f156, ir_f156),
  (K.f157, ir_f157),
  (K.f159, ir_f159),
  (K.f160, ir_f160),
  (K.f161, ir_f161),
  (K.f162, ir_f162),
  (K.f163, ir_f163),
  (K.f164, ir_f164),
  (K.f165, ir_f165),
  (K.f166, ir_f166),
  (K.f176, ir_f176),
  (K.f177, ir_f177),
  (K.f178, ir_f178),
  (K.f179, ir_f179),
  (K.f180, ir_f180),
  (K.f181, ir_f181),
  (K.f182, ir_f182),
  (K.f183, ir_f183),
  (K.f184, ir_f184),
  (K.f185, ir_f185),
  (K.f188, ir_f188),
  (K.f189, ir_f189),
  (K.f190, ir_f190),
  (K.f203, ir_f203),
  (K.f209, ir_f209)]
section
variable {Φ : Calls'} (hT : Cl Φ tab_Chk) {a0 a1 a2 a3 a4 a5 a6 a7 a8 a9 a10 a11 : AV} {H : AH} {Q : Post}
include hT
theorem cl_f5 (h : f5 Φ a0 a1 a2 a3 a4 H Q) : Φ K.f5 [a0, a1, a2, a3, a4] H Q := hT.call (by kernel_rfl) (by kernel_rfl) (by rw [eq_f5]; exact h)
theorem cl_f6 (h : f6 Φ a0 a1 a2 a3 H Q) : Φ K.f6 [a0, a1, a2, a3] H Q := hT.call (by kernel_rfl) (by kernel_rfl) (by rw [eq_f6]; exact h)
theorem cl_f12 (h : f12 Φ a0 a1 H Q) : Φ K.f12 [a0, a1] H Q := hT.call (by kernel_rfl) (by kernel_rfl) (by rw [eq_f12]; exact h)
theorem cl_f18 (h : f18 Φ a0 H Q) : Φ K.f18 [a0] H Q := hT.call (by kernel_rfl) (by kernel_rfl) (by rw [eq_f18]; exact h)
theorem cl_f19 (h : f19 Φ a0 a1 a2 a3 H Q) : Φ K.f19 [a0, a1, a2, a3] H Q := hT.call (by kernel_rfl) (by kernel_rfl) (by rw [eq_f19]; exact h)
theorem cl_f32 (h : f32 Φ a0 H Q) : Φ K.f32 [a0] H Q := hT.call (by kernel_rfl) (by kernel_rfl) (by rw [eq_f32]; exact h)
theorem cl_f45 (h : f45 Φ a0 H Q) : Φ K.f45 [a0] H Q := hT.call (by kernel_rfl) (by kernel_rfl) (by rw [eq_f45]; exact h)
theorem cl_f46 (h : f46 Φ a0 a1 a2 H Q) : Φ K.f46 [a0, a1, a2] H Q := hT.call (by kernel_rfl) (by kernel_rfl) (by rw [eq_f46]; exact h)
theorem cl_f47 (h : f47 Φ a0 H Q) : Φ K.f47 [a0] H Q := hT.call (by kernel_rfl) (by kernel_rfl) (by rw [eq_f47]; exact h)
theorem cl_f48 (h : f48 Φ a0 a1 a2 H Q) : Φ K.f48 [a0, a1, a2] H Q := hT.call (by kernel_rfl) (by kernel_rfl) (by rw [eq_f48]; exact h)
theorem cl_f67 (h : f67 Φ a0 H Q) : Φ K.f67 [a0] H Q := hT.call (by kernel_rfl) (by kernel_rfl) (by rw [eq_f67]; exact h)
theorem cl_f70 (h : f70 Φ a0 H Q) : Φ K.f70 [a0] H Q := hT.call (by kernel_rfl) (by kernel_rfl) (by rw [eq_f70]; exact h)
theorem cl_f71 (h : f71 Φ a0 H Q) : Φ K.f71 [a0] H Q := hT.call (by kernel_rfl) (by kernel_rfl) (by rw [eq_f71]; exact h)
theorem cl_f72 (h : f72 Φ a0 H Q) : Φ K.f72 [a0] H Q := hT.call (by kernel_rfl) (by kernel_rfl) (by rw [eq_f72]; exact h)
theorem cl_f73 (h : f73 Φ a0 a1 H Q) : Φ K.f73 [a0, a1] H Q := hT.call (by kernel_rfl) (by kernel_rfl) (by rw [eq_f73]; exact h)
theorem cl_f74 (h : f74 Φ a0 a1 H Q) : Φ K.f74 [a0, a1] H Q := hT.call (by kernel_rfl) (by kernel_rfl) (by rw [eq_f74]; exact h)
theorem cl_f75 (h : f75 Φ a0 a1 a2 H Q) : Φ K.f75 [a0, a1, a2] H Q := hT.call (by kernel_rfl) (by kernel_rfl) (by rw [eq_f75]; exact h)
theorem cl_f76 (h : f76 Φ a0 H Q) : Φ K.f76 [a0] H Q := hT.call (by kernel_rfl) (by kernel_rfl) (by rw [eq_f76]; exact h)
theorem cl_f77 (h : f77 Φ a0 a1 a2 H Q) : Φ K.f77 [a0, a1, a2] H Q := hT.call (by kernel_rfl) (by kernel_rfl) (by rw [eq_f77]; exact h)
theorem cl_f78 (h : f78 Φ a0 H Q) : Φ K.f78 [a0] H Q := hT.call (by kernel_rfl) (by kernel_rfl) (by rw [eq_f78]; exact h)
theorem cl_f93 (h : f93 Φ a0 H Q) : Φ K.f93 [a0] H Q := hT.call (by kernel_rfl) (by kernel_rfl) (by rw [eq_f93]; exact h)
theorem cl_f94 (h : f94 Φ a0 H Q) : Φ K.f94 [a0] H Q := hT.call (by kernel_rfl) (by kernel_rfl) (by rw [eq_f94]; exact h)
theorem cl_f95 (h : f95 Φ a0 a1 H Q) : Φ K.f95 [a0, a1] H Q := hT.call (by kernel_rfl) (by kernel_rfl) (by rw [eq_f95]; exact h)
theorem cl_f97 (h : f97 Φ a0 a1 H Q) : Φ K.f97 [a0, a1] H Q := hT.call (by kernel_rfl) (by kernel_rfl) (by rw [eq_f97]; exact h)
theorem cl_f98 (h : f98 Φ a0 a1 a2 H Q) : Φ K.f98 [a0, a1, a2] H Q := hT.call (by kernel_rfl) (by kernel_rfl) (by rw [eq_f98]; exact h)
theorem cl_f99 (h : f99 Φ a0 H Q) : Φ K.f99 [a0] H Q := hT.call (by kernel_rfl) (by kernel_rfl) (by rw [eq_f99]; exact h)
theorem cl_f100 (h : f100 Φ a0 a1 H Q) : Φ K.f100 [a0, a1] H Q := hT.call (by kernel_rfl) (by kernel_rfl) (by rw [eq_f100]; exact h)
theorem cl_f101 (h : f101 Φ a0 a1 H Q) : Φ K.f101 [a0, a1] H Q := hT.call (by kernel_rfl) (by kernel_rfl) (by rw [eq_f101]; exact h)
theorem cl_f102 (h : f102 Φ a0 a1 a2 a3 H Q) : Φ K.f102 [a0, a1, a2, a3] H Q := hT.call (by kernel_rfl) (by kernel_rfl) (by rw [eq_f102]; exact h)
theorem cl_f103 (h : f103 Φ a0 a1 a2 H Q) : Φ K.f103 [a0, a1, a2] H Q := hT.call (by kernel_rfl) (by kernel_rfl) (by rw [eq_f103]; exact h)
theorem cl_f104 (h : f104 Φ a0 a1 a2 H Q) : Φ K.f104 [a0, a1, a2] H Q := hT.call (by kernel_rfl) (by kernel_rfl) (by rw [eq_f104]; exact h)
theorem cl_f105 (h : f105 Φ a0 a1 a2 H Q) : Φ K.f105 [a0, a1, a2] H Q := hT.call (by kernel_rfl) (by kernel_rfl) (by rw [eq_f105]; exact h)
theorem cl_f106 (h : f106 Φ a0 a1 H Q) : Φ K.f106 [a0, a1] H Q := hT.call (by kernel_rfl) (by kernel_rfl) (by rw [eq_f106]; exact h)
theorem cl_f107 (h : f107 Φ a0 H Q) : Φ K.f107 [a0] H Q := hT.call (by kernel_rfl) (by kernel_rfl) (by rw [eq_f107]; exact h)
theorem cl_f108 (h : f108 Φ a0 a1 H Q) : Φ K.f108 [a0, a1] H Q := hT.call (by kernel_rfl) (by kernel_rfl) (by rw [eq_f108]; exact h)
theorem cl_f109 (h : f109 Φ a0 a1 a2 H Q) : Φ K.f109 [a0, a1, a2] H Q := hT.call (by kernel_rfl) (by kernel_rfl) (by rw [eq_f109]; exact h)
theorem cl_f110 (h : f110 Φ a0 H Q) : Φ K.f110 [a0] H Q := hT.call (by kernel_rfl) (by kernel_rfl) (by rw [eq_f110]; exact h)
theorem cl_f111 (h : f111 Φ a0 a1 a2 H Q) : Φ K.f111 [a0, a1, a2] H Q := hT.call (by kernel_rfl) (by kernel_rfl) (by rw [eq_f111]; exact h)
theorem cl_f125 (h : f125 Φ a0 H Q) : Φ K.f125 [a0] H Q := hT.call (by kernel_rfl) (by kernel_rfl) (by rw [eq_f125]; exact h)
theorem cl_f126 (h : f126 Φ a0 H Q) : Φ K.f126 [a0] H Q := hT.call (by kernel_rfl) (by kernel_rfl) (by rw [eq_f126]; exact h)
theorem cl_f127 (h : f127 Φ a0 H Q) : Φ K.f127 [a0] H Q := hT.call (by kernel_rfl) (by kernel_rfl) (by rw [eq_f127]; exact h)
theorem cl_f128 (h : f128 Φ a0 a1 H Q) : Φ K.f128 [a0, a1] H Q := hT.call (by kernel_rfl) (by kernel_rfl) (by rw [eq_f128]; exact h)
theorem cl_f131 (h : f131 Φ a0 H Q) : Φ K.f131 [a0] H Q := hT.call (by kernel_rfl) (by kernel_rfl) (by rw [eq_f131]; exact h)
theorem cl_f132 (h : f132 Φ a0 H Q) : Φ K.f132 [a0] H Q := hT.call (by kernel_rfl) (by kernel_rfl) (by rw [eq_f132]; exact h)
theorem cl_f133 (h : f133 Φ a0 a1 H Q) : Φ K.f133 [a0, a1] H Q := hT.call (by kernel_rfl) (by kernel_rfl) (by rw [eq_f133]; exact h)
theorem cl_f134 (h : f134 Φ a0 a1 H Q) : Φ K.f134 [a0, a1] H Q := hT.call (by kernel_rfl) (by kernel_rfl) (by rw [eq_f134]; exact h)
theorem cl_f135 (h : f135 Φ a0 a1 a2 H Q) : Φ K.f135 [a0, a1, a2] H Q := hT.call (by kernel_rfl) (by kernel_rfl) (by rw [eq_f135]; exact h)
theorem cl_f136 (h : f136 Φ a0 a1 a2 H Q) : Φ K.f136 [a0, a1, a2] H Q := hT.call (by kernel_rfl) (by kernel_rfl) (by rw [eq_f136]; exact h)
theorem cl_f137 (h : f137 Φ a0 a1 a2 a3 H Q) : Φ K.f137 [a0, a1, a2, a3] H Q := hT.call (by kernel_rfl) (by kernel_rfl) (by rw [eq_f137]; exact h)
theorem cl_f138 (h : f138 Φ a0 a1 a2 H Q) : Φ K.f138 [a0, a1, a2] H Q := hT.call (by kernel_rfl) (by kernel_rfl) (by rw [eq_f138]; exact h)
theorem cl_f139 (h : f139 Φ a0 a1 H Q) : Φ K.f139 [a0, a1] H Q := hT.call (by kernel_rfl) (by kernel_rfl) (by rw [eq_f139]; exact h)
theorem cl_f140 (h : f140 Φ a0 a1 H Q) : Φ K.f140 [a0, a1] H Q := hT.call (by kernel_rfl) (by kernel_rfl) (by rw [eq_f140]; exact h)
theorem cl_f141 (h : f141 Φ a0 a1 a2 H Q) : Φ K.f141 [a0, a1, a2] H Q := hT.call (by kernel_rfl) (by kernel_rfl) (by rw [eq_f141]; exact h)
theorem cl_f142 (h : f142 Φ a0 a1 a2 H Q) : Φ K.f142 [a0, a1, a2] H Q := hT.call (by kernel_rfl) (by kernel_rfl) (by rw [eq_f142]; exact h)
theorem cl_f151 (h : f151 Φ a0 H Q) : Φ K.f151 [a0] H Q := hT.call (by kernel_rfl) (by kernel_rfl) (by rw [eq_f151]; exact h)
theorem cl_f152 (h : f152 Φ a0 H Q) : Φ K.f152 [a0] H Q := hT.call (by kernel_rfl) (by kernel_rfl) (by rw [eq_f152]; exact h)
theorem cl_f153 (h : f153 Φ a0 H Q) : Φ K.f153 [a0] H Q := hT.call (by kernel_rfl) (by kernel_rfl) (by rw [eq_f153]; exact h)
theorem cl_f154 (h : f154 Φ a0 a1 H Q) : Φ K.f154 [a0, a1] H Q := hT.call (by kernel_rfl) (by kernel_rfl) (by rw [eq_f154]; exact h)
theorem cl_f155 (h : f155 Φ a0 a1 H Q) : Φ K.f155 [a0, a1] H Q := hT.call (by kernel_rfl) (by kernel_rfl) (by rw [eq_f155]; exact h)
theorem cl_f156 (h : f156 Φ a0 H Q) : Φ K.f156 [a0] H Q := hT.call (by kernel_rfl) (by kernel_rfl) (by rw [eq_f156]; exact h)
theorem cl_f157 (h : f157 Φ a0 H Q) : Φ K.f157 [a0] H Q := hT.call (by kernel_rfl) (by kernel_rfl) (by rw [eq_f157]; exact h)
theorem cl_f159 (h : f159 Φ a0 a1 H Q) : Φ K.f159 [a0, a1] H Q := hT.call (by kernel_rfl) (by kernel_rfl) (by rw [eq_f159]; exact h)
theorem cl_f160 (h : f160 Φ a0 a1 H Q) : Φ K.f160 [a0, a1] H Q := hT.call (by kernel_rfl) (by kernel_rfl) (by rw [eq_f160]; exact h)
theorem cl_f161 (h : f161 Φ a0 H Q) : Φ K.f161 [a0] H Q := hT.call (by kernel_rfl) (by kernel_rfl) (by rw [eq_f161]; exact h)
theorem cl_f162 (h : f162 Φ a0 H Q) : Φ K.f162 [a0] H Q := hT.call (by kernel_rfl) (by kernel_rfl) (by rw [eq_f162]; exact h)
theorem cl_f163 (h : f163 Φ a0 H Q) : Φ K.f163 [a0] H Q := hT.call (by kernel_rfl) (by kernel_rfl) (by rw [eq_f163]; exact h)
theorem cl_f164 (h : f164 Φ a0 a1 H Q) : Φ K.f164 [a0, a1] H Q := hT.call (by kernel_rfl) (by kernel_rfl) (by rw [eq_f164]; exact h)
theorem cl_f165 (h : f165 Φ a0 a1 H Q) : Φ K.f165 [a0, a1] H Q := hT.call (by kernel_rfl) (by kernel_rfl) (by rw [eq_f165]; exact h)
theorem cl_f166 (h : f166 Φ a0 a1 a2 H Q) : Φ K.f166 [a0, a1, a2] H Q := hT.call (by kernel_rfl) (by kernel_rfl) (by rw [eq_f166]; exact h)
theorem cl_f176 (h : f176 Φ a0 a1 H Q) : Φ K.f176 [a0, a1] H Q := hT.call (by kernel_rfl) (by kernel_rfl) (by rw [eq_f176]; exact h)
theorem cl_f177 (h : f177 Φ a0 H Q) : Φ K.f177 [a0] H Q := hT.call (by kernel_rfl) (by kernel_rfl) (by rw [eq_f177]; exact h)
theorem cl_f178 (h : f178 Φ a0 a1 H Q) : Φ K.f178 [a0, a1] H Q := hT.call (by kernel_rfl) (by kernel_rfl) (by rw [eq_f178]; exact h)
theorem cl_f179 (h : f179 Φ a0 H Q) : Φ K.f179 [a0] H Q := hT.call (by kernel_rfl) (by kernel_rfl) (by rw [eq_f179]; exact h)
theorem cl_f180 (h : f180 Φ a0 H Q) : Φ K.f180 [a0] H Q := hT.call (by kernel_rfl) (by kernel_rfl) (by rw [eq_f180]; exact h)
theorem cl_f181 (h : f181 Φ a0 a1 H Q) : Φ K.f181 [a0, a1] H Q := hT.call (by kernel_rfl) (by kernel_rfl) (by rw [eq_f181]; exact h)
theorem cl_f182 (h : f182 Φ a0 a1 H Q) : Φ K.f182 [a0, a1] H Q := hT.call (by kernel_rfl) (by kernel_rfl) (by rw [eq_f182]; exact h)
theorem cl_f183 (h : f183 Φ a0 a1 a2 H Q) : Φ K.f183 [a0, a1, a2] H Q := hT.call (by kernel_rfl) (by kernel_rfl) (by rw [eq_f183]; exact h)
theorem cl_f184 (h : f184 Φ a0 a1 H Q) : Φ K.f184 [a0, a1] H Q := hT.call (by kernel_rfl) (by kernel_rfl) (by rw [eq_f184]; exact h)
theorem cl_f185 (h : f185 Φ a0 a1 H Q) : Φ K.f185 [a0, a1] H Q := hT.call (by kernel_rfl) (by kernel_rfl) (by rw [eq_f185]; exact h)
theorem cl_f188 (h : f188 Φ a0 a1 H Q) : Φ K.f188 [a0, a1] H Q := hT.call (by kernel_rfl) (by kernel_rfl) (by rw [eq_f188]; exact h)
theorem cl_f189 (h : f189 Φ a0 a1 H Q) : Φ K.f189 [a0, a1] H Q := hT.call (by kernel_rfl) (by kernel_rfl) (by rw [eq_f189]; exact h)
theorem cl_f190 (h : f190 Φ a0 H Q) : Φ K.f190 [a0] H Q := hT.call (by kernel_rfl) (by kernel_rfl) (by rw [eq_f190]; exact h)
theorem cl_f203 (h : f203 Φ a0 a1 H Q) : Φ K.f203 [a0, a1] H Q := hT.call (by kernel_rfl) (by kernel_rfl) (by rw [eq_f203]; exact h)
theorem cl_f209 (h : f209 Φ a0 a1 H Q) : Φ K.f209 [a0, a1] H Q := hT.call (by kernel_rfl) (by kernel_rfl) (by rw [eq_f209]; exact h)
end
end Rb.S

namespace Go.Proofs.YtggbkidckoecfaaGreatDoor.rb
open Rb
theorem cl_Chk : Cl (ACall C) S.tab_Chk := Cl.of (ACall_mono C) (closed_of (idC_fok _ _) (by kernel_rfl))
end Go.Proofs.YtggbkidckoecfaaGreatDoor.rb

namespace Rb
open Go Go.RowKit
def allFz (W : World) : Nat → Nat → Prop := fun b o => ∃ V, W.cell? ⟨b, o, none⟩ = some V
theorem law_calls {C : Ctx} {key : Nat} {f : FuncId} {args : List AV} {Vs : Array Value} {W : World} (hf : C.F key = some f) (h : ACall C key args AH.mt (fun v _ => v = .bool true)) (hG : GOX C W (Ghost.mt (allFz W)) AH.mt)
  (hargs : VRs C.F W (Ghost.mt (allFz W)) args Vs) : Calls C.P f Vs W fun e W' => e = .returned (.bool true) ∧ Below W.heap.size W W' := by
 refine Calls.mono (h.2 f hf _ W Vs hG (Rel.mt fun _ _ h => h) hargs) fun e w' he => ?_
 obtain ⟨V, v, H', G', rfl, rfl, hv, _, hst⟩ := he
 obtain rfl := hv.bool_inv
 exact ⟨rfl, hst.below⟩
theorem fptr_of_tab {F : FTab} {W : World} {g : Nat} {k : IntKind} {zs : List Int} (h : ∀ i, i < zs.length → W.cell? ⟨g, i, none⟩ = some (.int k (zs.getD i 0))) : VR F W (Ghost.mt (allFz W)) (.fptr (zs.map (.int k))) (.pointer (some ⟨g, 0, none⟩)) := by
 refine .fptr _ g 0 (fun j => .int k (zs.getD j 0)) (fun j c hj => ?_) fun j c hj => ?_
 · have hl : j < zs.length := by simpa using (List.getElem?_eq_some_iff.1 hj).1
   rw [Nat.zero_add]
   exact ⟨⟨_, h j hl⟩, h j hl⟩
 · have hl : j < zs.length := by simpa using (List.getElem?_eq_some_iff.1 hj).1
   have : c = .int k (zs.getD j 0) := by
    rw [List.getElem?_map, List.getElem?_eq_getElem hl] at hj
    simp only [Option.map_some, Option.some.injEq] at hj
    rw [← hj, List.getD_eq_getElem?_getD, List.getElem?_eq_getElem hl]; rfl
   rw [this]
   exact .int _ _
theorem VRs.two {F : FTab} {w : World} {G : Ghost} {c d : AV} {V U : Value} (h : VR F w G c V) (h' : VR F w G d U) : VRs F w G [c, d] #[V, U] := ⟨rfl, fun j c' V' hc hV => by
  rcases j with _ | _ | j
  · simp at hc hV; subst hc; subst hV; exact h
  · simp at hc hV; subst hc; subst hV; exact h'
  · simp at hc⟩
theorem VR_string {F : FTab} {w : World} {G : Ghost} (b : ByteArray) : VR F w G (.str b.data.toList) (.string b) := by
 have h : (⟨b.data.toList.toArray⟩ : ByteArray) = b := by cases b; simp
 have := VR.str (F := F) (w := w) (G := G) b.data.toList
 rwa [h] at this
theorem asciiSpace_eq : asciiSpace = (Go.Lib.asciiSpaceTab.map (AV.int .u8)) := by kernel_rfl
theorem size_of_var {P : Program} {W : World} {name : String} {g : Nat} {cs : Array Value} (hg : P.globalNamed name = some g) (h : W.var? P name = some cs) : ∃ cs' t fr, W.heap[g]? = some (.cells cs' t fr) ∧ cs'.size = cs.size := by
 unfold World.var? at h
 rw [hg] at h
 simp only [Option.bind_some] at h
 split at h
 · rename_i cs' t fr heq
   cases h
   exact ⟨_, _, _, heq, rfl⟩
 · cases h
end Rb

namespace Rb
open Go Go.RowKit
section
variable {H : Type} {enc : TypeId × Value → H} {P : Program} {w : World} {sp : Nat → Bool} {held : Bool} {F : FTab}
def Dec (F : FTab) (enc : TypeId × Value → H) (P : Program) (w : World) (sp : Nat → Bool) (held : Bool) (n : Nat) (t : TypeId) {α : Type} (cells : α → List AV) (ok : α → Prop) : Prop :=
 ∀ fuel, fuel ≤ n → ∀ cs d ps, DataW.trod enc P w 0 sp held fuel t cs = some (d, ps) → (∀ m ∈ d.weights P t, m ≤ reachBytes) → ∃ x, ok x ∧ VRs F w (Ghost.mt (allFz w)) (cells x) cs.toArray
theorem Dec.mono {n m : Nat} {t : TypeId} {α : Type} {cells : α → List AV} {ok : α → Prop} (h : Dec F enc P w sp held n t cells ok) (hm : m ≤ n) : Dec F enc P w sp held m t cells ok :=
 fun fuel hf cs d ps ht hw => h fuel (Nat.le_trans hf hm) cs d ps ht hw
theorem Dec.zero {t : TypeId} {α : Type} {cells : α → List AV} {ok : α → Prop} : Dec F enc P w sp held 0 t cells ok := by
 intro fuel hf cs d ps h _
 obtain rfl : fuel = 0 := by omega
 simp [DataW.trod] at h
theorem Dec.int {n : Nat} {t : TypeId} {k : IntKind} (ht : P.underlying t = some (.int k)) : Dec F enc P w sp held n t (fun z : Int => [.int k z]) (fun z => k.min ≤ z ∧ z ≤ k.max) := by
 intro fuel _ cs d ps h _
 obtain ⟨z, rfl, _, hw⟩ := DataW.trod_int ht h
 exact ⟨z, by simpa [Lit.wf] using hw, VRs.one (.int _ _)⟩
theorem Dec.bool {n : Nat} {t : TypeId} (ht : P.underlying t = some .bool) : Dec F enc P w sp held n t (fun z : Bool => [.bool z]) (fun _ => True) := by
 intro fuel _ cs d ps h _
 obtain ⟨z, rfl, _⟩ := DataW.trod_bool ht h
 exact ⟨z, trivial, VRs.one (.bool _)⟩
theorem Dec.string {n : Nat} {t : TypeId} (ht : P.underlying t = some .string) : Dec F enc P w sp held n t (fun z : List UInt8 => [.str z]) (fun z => z.length ≤ 140737488351232) := by
 intro fuel _ cs d ps h hw
 obtain ⟨s, rfl, hd, hl⟩ := DataW.trod_string ht h
 refine ⟨s.data.toList, ?_, VRs.one (VR_string s)⟩
 obtain rfl : d = _ := congrArg Prod.fst hd
 exact hw _ (by simp [DataW.weights])
theorem weights_mem_all {H : Type} {P : Program} {e : TypeId} : ∀ {ds : List (DataW H)} {j : Nat} {d : DataW H}, ds[j]? = some d → ∀ n ∈ d.weights P e, n ∈ DataW.weightsAll P e ds
 | d0 :: ds, 0, d, hd, n, hn => by
  simp only [List.getElem?_cons_zero, Option.some.injEq] at hd
  subst hd
  simp only [DataW.weightsAll, List.mem_append]
  exact .inl hn
 | d0 :: ds, j + 1, d, hd, n, hn => by
  simp only [List.getElem?_cons_succ] at hd
  simp only [DataW.weightsAll, List.mem_append]
  exact .inr (weights_mem_all hd n hn)
def lstA {α : Type} (cells : α → List AV) (xs : List α) : AV := .lst .dead xs.length (xs.flatMap cells)
theorem exists_list {α : Type} {p : Nat → α → Prop} : ∀ (n : Nat), (∀ i, i < n → ∃ x, p i x) → ∃ xs : List α, xs.length = n ∧ ∀ i x, xs[i]? = some x → p i x := by
 intro n
 induction n with
 | zero => intro _; exact ⟨[], rfl, fun i x h => by simp at h⟩
 | succ n ih =>
  intro h
  obtain ⟨xs, hl, hx⟩ := ih fun i hi => h i (by omega)
  obtain ⟨y, hy⟩ := h n (by omega)
  refine ⟨xs ++ [y], by simp [hl], fun i x hi => ?_⟩
  by_cases hlt : i < n
  · rw [List.getElem?_append_left (by omega)] at hi
    exact hx i x hi
  · rw [List.getElem?_append_right (by omega)] at hi
    have : i - xs.length = 0 := by
     rcases Nat.eq_zero_or_pos (i - xs.length) with h | h
     · exact h
     · rw [List.getElem?_eq_none (by simp; omega)] at hi; cases hi
    rw [this] at hi
    simp at hi
    subst hi
    have : i = n := by omega
    rw [this]; exact hy
theorem flat_get {α : Type} {cells : α → List AV} {sz : Nat} (hc : ∀ x, (cells x).length = sz) : ∀ (xs : List α) (j : Nat) (c : AV), (xs.flatMap cells)[j]? = some c → ∃ i k x, j = i * sz + k ∧ k < sz ∧ xs[i]? = some x ∧ (cells x)[k]? = some c := by
 intro xs
 induction xs with
 | nil => intro j c h; simp at h
 | cons y ys ih =>
  intro j c h
  rw [List.flatMap_cons] at h
  by_cases hj : j < sz
  · rw [List.getElem?_append_left (by rw [hc]; exact hj)] at h
    exact ⟨0, j, y, by omega, hj, rfl, h⟩
  · rw [List.getElem?_append_right (by rw [hc]; omega), hc] at h
    obtain ⟨i, k, x, h1, h2, h3, h4⟩ := ih _ _ h
    refine ⟨i + 1, k, x, ?_, h2, by simpa using h3, h4⟩
    rw [Nat.add_mul]; omega
theorem add_at {b o m : Nat} : (Addr.mk b o none).add m = ⟨b, o + m, none⟩ := by
 unfold Addr.add
 split
 · rename_i h; subst h; rfl
 · rfl
theorem Dec.slice {n : Nat} {t e : TypeId} {α : Type} {cells : α → List AV} {ok : α → Prop} (ht : P.underlying t = some (.slice e)) {sz : Nat} (hs : P.cellsOf e = sz) (hz : 0 < sz) (hc : ∀ x, (cells x).length = sz) (h : Dec F enc P w sp held n e cells ok) :
  Dec F enc P w sp held (n + 1) t (fun xs : List α => [lstA cells xs]) (fun xs => xs.length ≤ maxLen ∧ ∀ x ∈ xs, ok x) := by
 intro fuel hf cs d ps hd hwt
 rcases DataW.trod_slice ht hd with ⟨rfl, _⟩ | ⟨a, len, cap, elems, rest, m, rfl, rfl, hdx, _, hle, hcap, hel, helems, _⟩
 · exact ⟨[], ⟨Nat.zero_le _, by simp⟩, VRs.one (.lst0 _ _)⟩
 · have each : ∀ i, i < len → ∃ x, ok x ∧ ∃ ci, w.cells? 0 (a.add (i * sz)) sz = some ci ∧ VRs F w (Ghost.mt (allFz w)) (cells x) ci.toArray := by
     intro i hi
     have h1 := helems i hi
     rw [List.getElem?_eq_getElem (by omega), hs] at h1
     obtain ⟨ci, h2, h3⟩ := Option.bind_eq_some_iff.1 h1
     obtain ⟨x, hx, hv⟩ := h m (by omega) ci _ _ h3 (fun q hq => hwt q (by
       obtain rfl : d = _ := congrArg Prod.fst hdx
       simp only [DataW.weights, ht]
       refine List.mem_cons_of_mem _ (List.mem_append_left _ ?_)
       exact weights_mem_all (j := i) (by rw [List.getElem?_map, List.getElem?_eq_getElem (by omega)]; rfl) q hq))
     exact ⟨x, hx, ci, h2, hv⟩
   obtain ⟨xs, hl, hx⟩ := exists_list len each
   refine ⟨xs, ⟨by omega, fun x hxm => ?_⟩, VRs.one ?_⟩
   · obtain ⟨i, hi, e⟩ := List.mem_iff_getElem.1 hxm
     exact (hx i x (by rw [List.getElem?_eq_getElem hi, e])).1
   · rcases Nat.eq_zero_or_pos len with h0 | h0
     · subst h0
       obtain rfl := List.length_eq_zero_iff.1 hl
       exact .lst0 _ _
     ·
       have hsp : a.spot = none := by
        obtain ⟨x, _, ci, h2, _⟩ := each 0 h0
        obtain ⟨_, h3, h4⟩ := World.cells?_some h2
        have h5 := h4 0 hz
        rw [List.getElem?_eq_getElem (by omega)] at h5
        rw [Nat.zero_mul] at h5
        have e0 : (a.add 0).add 0 = a := by simp [Addr.add]
        rw [e0] at h5
        unfold World.cell? at h5
        split at h5
        · split at h5
          · cases h5
          · rename_i hn; cases ha : a.spot with
            | none => rfl
            | some _ => rw [ha] at hn; simp at hn
        · cases h5
       obtain ⟨b, o, spt⟩ := a
       simp only at hsp
       subst hsp
       have key : ∀ (j : Nat) (c : AV), (xs.flatMap cells)[j]? = some c → ∃ V, w.cell? ⟨b, o + j, none⟩ = some V ∧ VR F w (Ghost.mt (allFz w)) c V := by
        intro j c hj
        obtain ⟨i, k, x, rfl, hk, hxi, hck⟩ := flat_get hc xs j c hj
        obtain ⟨_, ci, h2, hv⟩ := hx i x hxi
        obtain ⟨_, h3, h4⟩ := World.cells?_some h2
        have h5 := h4 k hk
        rw [add_at, add_at, List.getElem?_eq_getElem (by omega)] at h5
        refine ⟨ci[k], by rw [← Nat.add_assoc]; exact h5, hv.2 k c _ hck (by simp [List.getElem?_eq_getElem (show k < ci.length by omega)])⟩
       unfold lstA
       rw [hl]
       refine .lst .dead len _ b o cap (fun j => (w.cell? ⟨b, o + j, none⟩).getD undef) trivial hle (fun j c hj => ?_) fun j c hj => ?_
       · obtain ⟨V, h1, _⟩ := key j c hj
         exact ⟨⟨V, h1⟩, by rw [h1]; rfl⟩
       · obtain ⟨V, h1, h2⟩ := key j c hj
         rw [h1]; exact h2
def chainB (P : Program) : Nat → List (TypeId × Nat) → Bool
 | _, [] => true
 | off, (t, o) :: r => o == off && chainB P (off + P.cellsOf t) r
def totC (P : Program) : List (TypeId × Nat) → Nat
 | [] => 0
 | (t, _) :: r => P.cellsOf t + totC P r
def DecL (F : FTab) (enc : TypeId × Value → H) (P : Program) (w : World) (sp : Nat → Bool) (held : Bool) (n : Nat) (L : List (TypeId × Nat)) {α : Type} (cells : α → List AV) (ok : α → Prop) : Prop :=
 ∀ m, m ≤ n → ∀ (off : Nat) (cs : List Value), chainB P off L = true → (∀ f ∈ L, ∃ y, DataW.trod enc P w 0 sp held m f.1 ((cs.drop f.2).take (P.cellsOf f.1)) = some y ∧ ∀ q ∈ y.1.weights P f.1, q ≤ reachBytes) →
  ∃ x, ok x ∧ VRs F w (Ghost.mt (allFz w)) (cells x) ((cs.drop off).take (totC P L)).toArray
theorem DecL.nil {n : Nat} : DecL F enc P w sp held n [] (fun _ : Unit => []) (fun _ => True) := by
 intro m _ off cs _ _
 exact ⟨(), trivial, by simp only [totC, List.take_zero]; exact VRs.nil⟩
theorem DecL.cons {n : Nat} {t : TypeId} {o : Nat} {L : List (TypeId × Nat)} {α β : Type} {c1 : α → List AV} {c2 : β → List AV} {o1 : α → Prop} {o2 : β → Prop} (h1 : Dec F enc P w sp held n t c1 o1) (h2 : DecL F enc P w sp held n L c2 o2) :
  DecL F enc P w sp held n ((t, o) :: L) (fun x : α × β => c1 x.1 ++ c2 x.2) (fun x => o1 x.1 ∧ o2 x.2) := by
 intro m hm off cs hch hf
 simp only [chainB, Bool.and_eq_true, beq_iff_eq] at hch
 obtain ⟨rfl, hch⟩ := hch
 obtain ⟨⟨d, ps⟩, hy, hyw⟩ := hf (t, o) (by simp)
 obtain ⟨x, hx, hv⟩ := h1 m hm _ _ _ hy hyw
 obtain ⟨y, hy2, hv2⟩ := h2 m hm _ cs hch fun f hfm => hf f (by simp [hfm])
 refine ⟨(x, y), ⟨hx, hy2⟩, ?_⟩
 have e : ((cs.drop o).take (totC P ((t, o) :: L))) = (cs.drop o).take (P.cellsOf t) ++ (cs.drop (o + P.cellsOf t)).take (totC P L) := by
  simp only [totC]
  rw [List.take_add, List.drop_drop]
 rw [e]
 have := hv.app hv2
 simpa using this
theorem Dec.struct {n : Nat} {t : TypeId} {fs : Array Field} (ht : P.underlying t = some (.struct fs)) {L : List (TypeId × Nat)} (hL : fs.toList.map (fun f => (f.type, f.offset)) = L) (hch : chainB P 0 L = true) (htot : P.cellsOf t = totC P L)
  {α : Type} {cells : α → List AV} {ok : α → Prop} (h : DecL F enc P w sp held n L cells ok) : Dec F enc P w sp held (n + 1) t cells ok := by
 intro fuel hf cs d ps hd hwt
 obtain ⟨xs, m, rfl, hdx, hlen, hxl, hfs⟩ := DataW.trod_struct ht hd
 obtain ⟨x, hx, hv⟩ := h m (by omega) 0 cs hch fun f hfm => by
  rw [← hL] at hfm
  obtain ⟨g, hg, rfl⟩ := List.mem_map.1 hfm
  obtain ⟨i, hi, e⟩ := List.mem_iff_getElem.1 hg
  have hi' : i < fs.size := by simpa using hi
  have h1 := hfs i g (by rw [Array.getElem?_eq_getElem hi']; congr 1)
  rw [List.getElem?_eq_getElem (by omega)] at h1
  refine ⟨_, h1, fun q hq => hwt q ?_⟩
  obtain rfl : d = _ := congrArg Prod.fst hdx
  simp only [DataW.weights, ht]
  exact DataW.weights_mem_each (j := i) (t := g.type) (by rw [List.getElem?_map, List.getElem?_eq_getElem hi, e]; rfl) (by rw [List.getElem?_map, List.getElem?_eq_getElem (by omega)]; rfl) q hq
 refine ⟨x, hx, ?_⟩
 rw [List.drop_zero, ← htot, ← hlen, List.take_length] at hv
 exact hv
theorem Dec.map {n : Nat} {t : TypeId} {α β : Type} {c1 : α → List AV} {c2 : β → List AV} {o1 : α → Prop} {o2 : β → Prop} (g : α → β) (hc : ∀ x, c2 (g x) = c1 x) (ho : ∀ x, o1 x → o2 (g x)) (h : Dec F enc P w sp held n t c1 o1) : Dec F enc P w sp held n t c2 o2 := by
 intro fuel hf cs d ps hd hw
 obtain ⟨x, hx, hv⟩ := h fuel hf cs d ps hd hw
 exact ⟨g x, ho x hx, by rw [hc]; exact hv⟩
theorem Dec.arg {t : TypeId} {α : Type} {cells : α → List AV} {ok : α → Prop} (h : ∀ n, Dec F enc P w sp held n t cells ok) {v : Value} {d : DataW H} {ps : List MemPlace} (hd : DataW.Trod enc P w 0 sp held t v d ps) (hw : ∀ m ∈ d.weights P t, m ≤ reachBytes) : ∃ x, ok x ∧ VRs F w (Ghost.mt (allFz w)) (cells x) v.cells := by
 obtain ⟨fuel, hf⟩ := hd
 obtain ⟨x, hx, hv⟩ := h fuel fuel (Nat.le_refl _) _ _ _ hf hw
 exact ⟨x, hx, by simpa using hv⟩
end
end Rb

namespace Rb
open Go
mutual
structure GType where
 kind : Int
 size : Int
 packed : Bool
 fields : List GField
 count : Int
 elem : List GType
structure GField where
 name : List UInt8
 type : GType
 bits : Bool
 width : Int
end
mutual
def GType.cells : GType → List AV
 | .mk kind size packed fields count elem => [.int .i64 kind, .int .i64 size, .bool packed, .lst .dead fields.length (GField.all fields), .int .i64 count, .lst .dead elem.length (GType.all elem)]
def GType.all : List GType → List AV
 | [] => []
 | x :: r => GType.cells x ++ GType.all r
def GField.cells : GField → List AV
 | .mk name type bits width => .str name :: (GType.cells type ++ [.bool bits, .int .i64 width])
def GField.all : List GField → List AV
 | [] => []
 | x :: r => GField.cells x ++ GField.all r
end
theorem GType.all_eq : ∀ xs : List GType, GType.all xs = xs.flatMap GType.cells
 | [] => rfl
 | x :: r => by rw [GType.all, GType.all_eq r, List.flatMap_cons]
theorem GField.all_eq : ∀ xs : List GField, GField.all xs = xs.flatMap GField.cells
 | [] => rfl
 | x :: r => by rw [GField.all, GField.all_eq r, List.flatMap_cons]
theorem GType.cells_eq (x : GType) : x.cells = [.int .i64 x.kind, .int .i64 x.size, .bool x.packed, lstA GField.cells x.fields, .int .i64 x.count, lstA GType.cells x.elem] := by
 cases x; simp only [GType.cells, GType.all_eq, GField.all_eq, lstA]
theorem GField.cells_eq (x : GField) : x.cells = .str x.name :: (x.type.cells ++ [.bool x.bits, .int .i64 x.width]) := by
 cases x; rfl
theorem GType.len (x : GType) : x.cells.length = 6 := by rw [GType.cells_eq]; rfl
theorem GField.len (x : GField) : x.cells.length = 9 := by rw [GField.cells_eq]; simp [GType.len]
def i64ok (z : Int) : Prop := -9223372036854775808 ≤ z ∧ z ≤ 9223372036854775807
mutual
def GType.ok : GType → Prop
 | .mk kind size packed fields count elem => i64ok kind ∧ i64ok size ∧ fields.length ≤ maxLen ∧ GField.oks fields ∧ i64ok count ∧ elem.length ≤ maxLen ∧ GType.oks elem
def GType.oks : List GType → Prop
 | [] => True
 | x :: r => GType.ok x ∧ GType.oks r
def GField.ok : GField → Prop
 | .mk name type bits width => name.length ≤ 140737488351232 ∧ GType.ok type ∧ i64ok width
def GField.oks : List GField → Prop
 | [] => True
 | x :: r => GField.ok x ∧ GField.oks r
end
theorem GType.oks_iff : ∀ {xs : List GType}, GType.oks xs ↔ ∀ x ∈ xs, x.ok
 | [] => by simp [GType.oks]
 | x :: r => by simp [GType.oks, GType.oks_iff (xs := r)]
theorem GField.oks_iff : ∀ {xs : List GField}, GField.oks xs ↔ ∀ x ∈ xs, x.ok
 | [] => by simp [GField.oks]
 | x :: r => by simp [GField.oks, GField.oks_iff (xs := r)]
section
variable {H : Type} {enc : TypeId × Value → H} {P : Program} {w : World} {sp : Nat → Bool} {held : Bool} {F : FTab}
structure TyOK (P : Program) (ti tb ts tT tF sT sF : TypeId) (fT fF : Array Field) : Prop where
 int : P.underlying ti = some (.int .i64)
 bool : P.underlying tb = some .bool
 str : P.underlying ts = some .string
 typ : P.underlying tT = some (.struct fT)
 fld : P.underlying tF = some (.struct fF)
 slT : P.underlying sT = some (.slice tT)
 slF : P.underlying sF = some (.slice tF)
 lT : fT.toList.map (fun f => (f.type, f.offset)) = [(ti, 0), (ti, 1), (tb, 2), (sF, 3), (ti, 4), (sT, 5)]
 lF : fF.toList.map (fun f => (f.type, f.offset)) = [(ts, 0), (tT, 1), (tb, 7), (ti, 8)]
 cT : P.cellsOf tT = 6
 cF : P.cellsOf tF = 9
 c1 : ∀ t ∈ [ti, tb, ts, sT, sF], P.cellsOf t = 1
theorem Dec_type {ti tb ts tT tF sT sF : TypeId} {fT fF : Array Field} (h : TyOK P ti tb ts tT tF sT sF fT fF) : ∀ n, Dec F enc P w sp held n tT GType.cells GType.ok := by
 have c1 : P.cellsOf ti = 1 := h.c1 _ (by simp)
 have c2 : P.cellsOf tb = 1 := h.c1 _ (by simp)
 have c3 : P.cellsOf ts = 1 := h.c1 _ (by simp)
 have c4 : P.cellsOf sT = 1 := h.c1 _ (by simp)
 have c5 : P.cellsOf sF = 1 := h.c1 _ (by simp)
 have int : ∀ n, Dec F enc P w sp held n ti (fun z : Int => [.int .i64 z]) i64ok := fun n => Dec.map id (fun _ => rfl) (fun x hx => by
   simp only [IntKind.min, IntKind.max, IntKind.signed, IntKind.bits, if_true] at hx
   show -9223372036854775808 ≤ x ∧ x ≤ 9223372036854775807
   omega) (Dec.int h.int)
 intro n
 induction n using Nat.strongRecOn with
 | _ n ih =>
  cases n with
  | zero => exact Dec.zero
  | succ n =>
   have ihT : Dec F enc P w sp held n tT GType.cells GType.ok := ih n (by omega)
   have ihF : Dec F enc P w sp held n tF GField.cells GField.ok := by
    cases n with
    | zero => exact Dec.zero
    | succ n =>
     refine Dec.map (fun (x : List UInt8 × GType × Bool × Int × Unit) => (⟨x.1, x.2.1, x.2.2.1, x.2.2.2.1⟩ : GField)) (fun x => ?_) (fun x hx => ?_)
      (Dec.struct h.fld h.lF (by simp [chainB, c1, c2, c3, h.cT]) (by simp [totC, c1, c2, c3, h.cT, h.cF])
        (DecL.cons (Dec.string h.str) (DecL.cons (ih n (by omega)) (DecL.cons (Dec.bool h.bool) (DecL.cons (int n) DecL.nil)))))
     · simp [GField.cells]
     · exact ⟨hx.1, hx.2.1, hx.2.2.2.1⟩
   refine Dec.map (fun (x : Int × Int × Bool × List GField × Int × List GType × Unit) => (⟨x.1, x.2.1, x.2.2.1, x.2.2.2.1, x.2.2.2.2.1, x.2.2.2.2.2.1⟩ : GType)) (fun x => ?_) (fun x hx => ?_)
    (Dec.struct h.typ h.lT (by simp [chainB, c1, c2, c4, c5]) (by simp [totC, c1, c2, c4, c5, h.cT])
      (DecL.cons (int n) (DecL.cons (int n) (DecL.cons (Dec.bool h.bool) (DecL.cons (Dec.mono (Dec.slice h.slF h.cF (by decide) GField.len ihF) (Nat.le_succ n)) (DecL.cons (int n) (DecL.cons (Dec.mono (Dec.slice h.slT h.cT (by decide) GType.len ihT) (Nat.le_succ n)) DecL.nil)))))))
   · rw [GType.cells_eq]; rfl
   · obtain ⟨h1, h2, _, ⟨h3, h4⟩, h5, ⟨h6, h7⟩, _⟩ := hx
     exact ⟨h1, h2, h3, GField.oks_iff.2 h4, h5, h6, GType.oks_iff.2 h7⟩
end
end Rb

namespace Rb
open Go
mutual
structure GExpr where
 kind : Int
 n : Int
 name : List UInt8
 op : Int
 order : Int
 place : GPlace
 kids : List GExpr
structure GPlace where
 var : List UInt8
 parts : List GPart
structure GPart where
 field : List UInt8
 index : List GExpr
end
mutual
def GExpr.cells : GExpr → List AV
 | .mk kind n name op order place kids => .int .i64 kind :: .int .u64 n :: .str name :: .int .i64 op :: .int .i64 order :: (GPlace.cells place ++ [.lst .dead kids.length (GExpr.all kids)])
def GExpr.all : List GExpr → List AV
 | [] => []
 | x :: r => GExpr.cells x ++ GExpr.all r
def GPlace.cells : GPlace → List AV
 | .mk var parts => [.str var, .lst .dead parts.length (GPart.all parts)]
def GPart.cells : GPart → List AV
 | .mk field index => [.str field, .lst .dead index.length (GExpr.all index)]
def GPart.all : List GPart → List AV
 | [] => []
 | x :: r => GPart.cells x ++ GPart.all r
end
theorem GExpr.all_eq : ∀ xs : List GExpr, GExpr.all xs = xs.flatMap GExpr.cells
 | [] => rfl
 | x :: r => by rw [GExpr.all, GExpr.all_eq r, List.flatMap_cons]
theorem GPart.all_eq : ∀ xs : List GPart, GPart.all xs = xs.flatMap GPart.cells
 | [] => rfl
 | x :: r => by rw [GPart.all, GPart.all_eq r, List.flatMap_cons]
theorem GPlace.cells_eq (x : GPlace) : x.cells = [.str x.var, lstA GPart.cells x.parts] := by
 cases x; simp only [GPlace.cells, GPart.all_eq, lstA]
theorem GPart.cells_eq (x : GPart) : x.cells = [.str x.field, lstA GExpr.cells x.index] := by
 cases x; simp only [GPart.cells, GExpr.all_eq, lstA]
theorem GExpr.cells_eq (x : GExpr) : x.cells = .int .i64 x.kind :: .int .u64 x.n :: .str x.name :: .int .i64 x.op :: .int .i64 x.order :: (x.place.cells ++ [lstA GExpr.cells x.kids]) := by
 cases x; simp only [GExpr.cells, GExpr.all_eq, lstA]
theorem GPlace.len (x : GPlace) : x.cells.length = 2 := by rw [GPlace.cells_eq]; rfl
theorem GPart.len (x : GPart) : x.cells.length = 2 := by rw [GPart.cells_eq]; rfl
theorem GExpr.len (x : GExpr) : x.cells.length = 8 := by rw [GExpr.cells_eq]; simp [GPlace.len]
def u64ok (z : Int) : Prop := 0 ≤ z ∧ z ≤ 18446744073709551615
mutual
def GExpr.ok : GExpr → Prop
 | .mk kind n name op order place kids => i64ok kind ∧ u64ok n ∧ name.length ≤ 140737488351232 ∧ i64ok op ∧ i64ok order ∧ GPlace.ok place ∧ kids.length ≤ maxLen ∧ GExpr.oks kids
def GExpr.oks : List GExpr → Prop
 | [] => True
 | x :: r => GExpr.ok x ∧ GExpr.oks r
def GPlace.ok : GPlace → Prop
 | .mk var parts => var.length ≤ 140737488351232 ∧ parts.length ≤ maxLen ∧ GPart.oks parts
def GPart.ok : GPart → Prop
 | .mk field index => field.length ≤ 140737488351232 ∧ index.length ≤ maxLen ∧ GExpr.oks index
def GPart.oks : List GPart → Prop
 | [] => True
 | x :: r => GPart.ok x ∧ GPart.oks r
end
theorem GExpr.oks_iff : ∀ {xs : List GExpr}, GExpr.oks xs ↔ ∀ x ∈ xs, x.ok
 | [] => by simp [GExpr.oks]
 | x :: r => by simp [GExpr.oks, GExpr.oks_iff (xs := r)]
theorem GPart.oks_iff : ∀ {xs : List GPart}, GPart.oks xs ↔ ∀ x ∈ xs, x.ok
 | [] => by simp [GPart.oks]
 | x :: r => by simp [GPart.oks, GPart.oks_iff (xs := r)]
structure GVar where
 name : List UInt8
 type : GType
def GVar.cells (x : GVar) : List AV := .str x.name :: x.type.cells
theorem GVar.len (x : GVar) : x.cells.length = 7 := by simp [GVar.cells, GType.len]
def GVar.ok (x : GVar) : Prop := x.name.length ≤ 140737488351232 ∧ x.type.ok
section
variable {H : Type} {enc : TypeId × Value → H} {P : Program} {w : World} {sp : Nat → Bool} {held : Bool} {F : FTab}
theorem Dec.i64 {n : Nat} {ti : TypeId} (h : P.underlying ti = some (.int .i64)) : Dec F enc P w sp held n ti (fun z : Int => [.int .i64 z]) i64ok := Dec.map id (fun _ => rfl) (fun x hx => by
    simp only [IntKind.min, IntKind.max, IntKind.signed, IntKind.bits, if_true] at hx
    show -9223372036854775808 ≤ x ∧ x ≤ 9223372036854775807
    omega) (Dec.int h)
theorem Dec.u64 {n : Nat} {ti : TypeId} (h : P.underlying ti = some (.int .u64)) : Dec F enc P w sp held n ti (fun z : Int => [.int .u64 z]) u64ok := Dec.map id (fun _ => rfl) (fun x hx => by
    simp [IntKind.min, IntKind.max, IntKind.signed, IntKind.bits] at hx
    show 0 ≤ x ∧ x ≤ 18446744073709551615
    omega) (Dec.int h)
structure ExOK (P : Program) (ti tu ts tE tL tR sE sR : TypeId) (fE fL fR : Array Field) : Prop where
 int : P.underlying ti = some (.int .i64)
 u64 : P.underlying tu = some (.int .u64)
 str : P.underlying ts = some .string
 exp : P.underlying tE = some (.struct fE)
 pla : P.underlying tL = some (.struct fL)
 par : P.underlying tR = some (.struct fR)
 slE : P.underlying sE = some (.slice tE)
 slR : P.underlying sR = some (.slice tR)
 lE : fE.toList.map (fun f => (f.type, f.offset)) = [(ti, 0), (tu, 1), (ts, 2), (ti, 3), (ti, 4), (tL, 5), (sE, 7)]
 lL : fL.toList.map (fun f => (f.type, f.offset)) = [(ts, 0), (sR, 1)]
 lR : fR.toList.map (fun f => (f.type, f.offset)) = [(ts, 0), (sE, 1)]
 cE : P.cellsOf tE = 8
 cL : P.cellsOf tL = 2
 cR : P.cellsOf tR = 2
 c1 : ∀ t ∈ [ti, tu, ts, sE, sR], P.cellsOf t = 1
theorem Dec_exprs {ti tu ts tE tL tR sE sR : TypeId} {fE fL fR : Array Field} (h : ExOK P ti tu ts tE tL tR sE sR fE fL fR) :
  ∀ n, Dec F enc P w sp held n tE GExpr.cells GExpr.ok ∧ Dec F enc P w sp held n tL GPlace.cells GPlace.ok ∧ Dec F enc P w sp held n tR GPart.cells GPart.ok := by
 have c1 : P.cellsOf ti = 1 := h.c1 _ (by simp)
 have c2 : P.cellsOf tu = 1 := h.c1 _ (by simp)
 have c3 : P.cellsOf ts = 1 := h.c1 _ (by simp)
 have c4 : P.cellsOf sE = 1 := h.c1 _ (by simp)
 have c5 : P.cellsOf sR = 1 := h.c1 _ (by simp)
 intro n
 induction n with
 | zero => exact ⟨Dec.zero, Dec.zero, Dec.zero⟩
 | succ n ih =>
  obtain ⟨iE, iL, iR⟩ := ih
  have kE := Dec.mono (Dec.slice h.slE h.cE (by decide) GExpr.len iE) (Nat.le_succ n)
  have kR := Dec.mono (Dec.slice h.slR h.cR (by decide) GPart.len iR) (Nat.le_succ n)
  refine ⟨?_, ?_, ?_⟩
  · refine Dec.map (fun (x : Int × Int × List UInt8 × Int × Int × GPlace × List GExpr × Unit) => (⟨x.1, x.2.1, x.2.2.1, x.2.2.2.1, x.2.2.2.2.1, x.2.2.2.2.2.1, x.2.2.2.2.2.2.1⟩ : GExpr)) (fun x => ?_) (fun x hx => ?_)
      (Dec.struct h.exp h.lE (by simp [chainB, c1, c2, c3, c4, h.cL]) (by simp [totC, c1, c2, c3, c4, h.cL, h.cE])
        (DecL.cons (Dec.i64 h.int) (DecL.cons (Dec.u64 h.u64) (DecL.cons (Dec.string h.str) (DecL.cons (Dec.i64 h.int) (DecL.cons (Dec.i64 h.int) (DecL.cons iL (DecL.cons kE DecL.nil))))))))
    · rw [GExpr.cells_eq]; simp
    · obtain ⟨h1, h2, h3, h4, h5, h6, ⟨h7, h8⟩, _⟩ := hx
      exact ⟨h1, h2, h3, h4, h5, h6, h7, GExpr.oks_iff.2 h8⟩
  · refine Dec.map (fun (x : List UInt8 × List GPart × Unit) => (⟨x.1, x.2.1⟩ : GPlace)) (fun x => ?_) (fun x hx => ?_)
      (Dec.struct h.pla h.lL (by simp [chainB, c3, c5]) (by simp [totC, c3, c5, h.cL]) (DecL.cons (Dec.string h.str) (DecL.cons kR DecL.nil)))
    · rw [GPlace.cells_eq]; rfl
    · obtain ⟨h1, ⟨h2, h3⟩, _⟩ := hx
      exact ⟨h1, h2, GPart.oks_iff.2 h3⟩
  · refine Dec.map (fun (x : List UInt8 × List GExpr × Unit) => (⟨x.1, x.2.1⟩ : GPart)) (fun x => ?_) (fun x hx => ?_)
      (Dec.struct h.par h.lR (by simp [chainB, c3, c4]) (by simp [totC, c3, c4, h.cR]) (DecL.cons (Dec.string h.str) (DecL.cons kE DecL.nil)))
    · rw [GPart.cells_eq]; rfl
    · obtain ⟨h1, ⟨h2, h3⟩, _⟩ := hx
      exact ⟨h1, h2, GExpr.oks_iff.2 h3⟩
end
end Rb

namespace Rb
open Go
structure GStmt where
 kind : Int
 line : Int
 name : List UInt8
 name2 : List UInt8
 order : Int
 place : GPlace
 exprs : List GExpr
 thn : List GStmt
 els : List GStmt
mutual
def GStmt.cells : GStmt → List AV
 | .mk kind line name name2 order place exprs thn els => .int .i64 kind :: .int .i64 line :: .str name :: .str name2 :: .int .i64 order :: (GPlace.cells place ++ [lstA GExpr.cells exprs, .lst .dead thn.length (GStmt.all thn), .lst .dead els.length (GStmt.all els)])
def GStmt.all : List GStmt → List AV
 | [] => []
 | x :: r => GStmt.cells x ++ GStmt.all r
end
theorem GStmt.all_eq : ∀ xs : List GStmt, GStmt.all xs = xs.flatMap GStmt.cells
 | [] => rfl
 | x :: r => by rw [GStmt.all, GStmt.all_eq r, List.flatMap_cons]
theorem GStmt.cells_eq (x : GStmt) : x.cells = .int .i64 x.kind :: .int .i64 x.line :: .str x.name :: .str x.name2 :: .int .i64 x.order :: (x.place.cells ++ [lstA GExpr.cells x.exprs, lstA GStmt.cells x.thn, lstA GStmt.cells x.els]) := by
 cases x; simp only [GStmt.cells, GStmt.all_eq, lstA]
theorem GStmt.len (x : GStmt) : x.cells.length = 10 := by rw [GStmt.cells_eq]; simp [GPlace.len]
mutual
def GStmt.ok : GStmt → Prop
 | .mk kind line name name2 order place exprs thn els => i64ok kind ∧ i64ok line ∧ name.length ≤ 140737488351232 ∧ name2.length ≤ 140737488351232 ∧ i64ok order ∧ GPlace.ok place ∧ exprs.length ≤ maxLen ∧ GExpr.oks exprs ∧ thn.length ≤ maxLen ∧ GStmt.oks thn ∧ els.length ≤ maxLen ∧ GStmt.oks els
def GStmt.oks : List GStmt → Prop
 | [] => True
 | x :: r => GStmt.ok x ∧ GStmt.oks r
end
theorem GStmt.oks_iff : ∀ {xs : List GStmt}, GStmt.oks xs ↔ ∀ x ∈ xs, x.ok
 | [] => by simp [GStmt.oks]
 | x :: r => by simp [GStmt.oks, GStmt.oks_iff (xs := r)]
structure GProg where
 vars : List GVar
 threads : List (List GStmt)
def thrCells (l : List GStmt) : List AV := [lstA GStmt.cells l]
def GProg.cells (x : GProg) : List AV := [lstA GVar.cells x.vars, lstA thrCells x.threads]
def GProg.ok (x : GProg) : Prop := (x.vars.length ≤ maxLen ∧ ∀ v ∈ x.vars, v.ok) ∧ x.threads.length ≤ maxLen ∧ ∀ t ∈ x.threads, t.length ≤ maxLen ∧ ∀ s ∈ t, s.ok
section
variable {H : Type} {enc : TypeId × Value → H} {P : Program} {w : World} {sp : Nat → Bool} {held : Bool} {F : FTab}
theorem Dec_var {ts tT tV : TypeId} {fV : Array Field} (hs : P.underlying ts = some .string) (c3 : P.cellsOf ts = 1) (cT : P.cellsOf tT = 6) (hT : ∀ n, Dec F enc P w sp held n tT GType.cells GType.ok)
  (hV : P.underlying tV = some (.struct fV)) (lV : fV.toList.map (fun f => (f.type, f.offset)) = [(ts, 0), (tT, 1)]) (cV : P.cellsOf tV = 7) : ∀ n, Dec F enc P w sp held n tV GVar.cells GVar.ok := by
 intro n
 refine Dec.mono (n := n + 1) ?_ (Nat.le_succ n)
 refine Dec.map (fun (x : List UInt8 × GType × Unit) => (⟨x.1, x.2.1⟩ : GVar)) (fun x => ?_) (fun x hx => ?_)
  (Dec.struct hV lV (by simp [chainB, c3]) (by simp [totC, c3, cT, cV]) (DecL.cons (Dec.string hs) (DecL.cons (hT n) DecL.nil)))
 · simp [GVar.cells]
 · exact ⟨hx.1, hx.2.1⟩
theorem Dec_stmt {ti tu ts tE tL tR sE sR tS sS : TypeId} {fE fL fR fS : Array Field} (h : ExOK P ti tu ts tE tL tR sE sR fE fL fR) (hS : P.underlying tS = some (.struct fS)) (slS : P.underlying sS = some (.slice tS))
  (lS : fS.toList.map (fun f => (f.type, f.offset)) = [(ti, 0), (ti, 1), (ts, 2), (ts, 3), (ti, 4), (tL, 5), (sE, 7), (sS, 8), (sS, 9)]) (cS : P.cellsOf tS = 10) (csS : P.cellsOf sS = 1) :
  ∀ n, Dec F enc P w sp held n tS GStmt.cells GStmt.ok := by
 have c1 : P.cellsOf ti = 1 := h.c1 _ (by simp)
 have c3 : P.cellsOf ts = 1 := h.c1 _ (by simp)
 have c4 : P.cellsOf sE = 1 := h.c1 _ (by simp)
 intro n
 induction n with
 | zero => exact Dec.zero
 | succ n ih =>
  have kE := Dec.mono (Dec.slice h.slE h.cE (by decide) GExpr.len (Dec_exprs (F := F) (enc := enc) (w := w) (sp := sp) (held := held) h n).1) (Nat.le_succ n)
  have kS := Dec.mono (Dec.slice slS cS (by decide) GStmt.len ih) (Nat.le_succ n)
  refine Dec.map (fun (x : Int × Int × List UInt8 × List UInt8 × Int × GPlace × List GExpr × List GStmt × List GStmt × Unit) => (⟨x.1, x.2.1, x.2.2.1, x.2.2.2.1, x.2.2.2.2.1, x.2.2.2.2.2.1, x.2.2.2.2.2.2.1, x.2.2.2.2.2.2.2.1, x.2.2.2.2.2.2.2.2.1⟩ : GStmt)) (fun x => ?_) (fun x hx => ?_)
   (Dec.struct hS lS (by simp [chainB, c1, c3, c4, csS, h.cL]) (by simp [totC, c1, c3, c4, csS, h.cL, cS])
     (DecL.cons (Dec.i64 h.int) (DecL.cons (Dec.i64 h.int) (DecL.cons (Dec.string h.str) (DecL.cons (Dec.string h.str) (DecL.cons (Dec.i64 h.int) (DecL.cons (Dec_exprs h n).2.1 (DecL.cons kE (DecL.cons kS (DecL.cons kS DecL.nil))))))))))
  · rw [GStmt.cells_eq]; simp
  · obtain ⟨h1, h2, h3, h4, h5, h6, ⟨h7, h8⟩, ⟨h9, h10⟩, ⟨h11, h12⟩, _⟩ := hx
    exact ⟨h1, h2, h3, h4, h5, h6, h7, GExpr.oks_iff.2 h8, h9, GStmt.oks_iff.2 h10, h11, GStmt.oks_iff.2 h12⟩
theorem Dec_prog {tV sV tS sS ssS tP : TypeId} {fP : Array Field} (hV : ∀ n, Dec F enc P w sp held n tV GVar.cells GVar.ok) (hS : ∀ n, Dec F enc P w sp held n tS GStmt.cells GStmt.ok)
  (slV : P.underlying sV = some (.slice tV)) (slS : P.underlying sS = some (.slice tS)) (slSS : P.underlying ssS = some (.slice sS)) (cV : P.cellsOf tV = 7) (cS : P.cellsOf tS = 10) (csS : P.cellsOf sS = 1) (csV : P.cellsOf sV = 1) (cssS : P.cellsOf ssS = 1)
  (hP : P.underlying tP = some (.struct fP)) (lP : fP.toList.map (fun f => (f.type, f.offset)) = [(sV, 0), (ssS, 1)]) (cP : P.cellsOf tP = 2) : ∀ n, Dec F enc P w sp held n tP GProg.cells GProg.ok := by
 intro n
 refine Dec.mono (n := n + 2 + 1) ?_ (by omega)
 have k1 : Dec F enc P w sp held (n + 2) sV (fun xs : List GVar => [lstA GVar.cells xs]) (fun xs => xs.length ≤ maxLen ∧ ∀ x ∈ xs, x.ok) := Dec.slice slV cV (by decide) GVar.len (hV (n + 1))
 have k2 : Dec F enc P w sp held (n + 1) sS thrCells (fun xs => xs.length ≤ maxLen ∧ ∀ x ∈ xs, x.ok) := Dec.slice slS cS (by decide) GStmt.len (hS n)
 have k3 : Dec F enc P w sp held (n + 2) ssS (fun xs : List (List GStmt) => [lstA thrCells xs]) (fun xs => xs.length ≤ maxLen ∧ ∀ x ∈ xs, x.length ≤ maxLen ∧ ∀ y ∈ x, y.ok) := Dec.slice slSS csS (by decide) (fun _ => rfl) k2
 refine Dec.map (fun (x : List GVar × List (List GStmt) × Unit) => (⟨x.1, x.2.1⟩ : GProg)) (fun x => ?_) (fun x hx => ?_)
  (Dec.struct hP lP (by simp [chainB, csV]) (by simp [totC, csV, cssS, cP]) (DecL.cons k1 (DecL.cons k3 DecL.nil)))
 · simp [GProg.cells]
 · exact ⟨hx.1, hx.2.1⟩
end
end Rb

namespace Rb
open Go
@[simp] theorem Do_of {α : Type} (a : α) (K : α → Prop) : Do (some a) K ↔ K a := ⟨fun ⟨b, h, k⟩ => by cases h; exact k, fun h => ⟨a, rfl, h⟩⟩
@[simp] theorem DoH_some (v : AV) (H : AH) (K : Post) : DoH (some (v, H)) K ↔ K v H := ⟨fun ⟨a, b, h, k⟩ => by cases h; exact k, fun h => ⟨v, H, rfl, h⟩⟩
@[simp] theorem Gd_true (b : Bool) (A B : Prop) : Gd (.bool b) true A B ↔ if b = true then A else B := Iff.rfl
@[simp] theorem Gd_false (b : Bool) (A B : Prop) : Gd (.bool b) false A B ↔ if b = false then A else B := Iff.rfl
@[simp] theorem JoinP_def (K : List AV → AH → Prop) (st : List AV) (H : AH) : JoinP K st H ↔ K st H := Iff.rfl
@[simp] theorem sl_zero (a : AV) (l : List AV) : sl (a :: l) 0 = a := rfl
@[simp] theorem sl_succ (a : AV) (l : List AV) (i : Nat) : sl (a :: l) (i + 1) = sl l i := rfl
section
variable (k : IntKind) (a b : Int)
@[simp] theorem abin_add : abin .add (.int k a) (.int k b) = some (.int k (k.wrap (a + b))) := by simp [abin, abinInt]
@[simp] theorem abin_sub : abin .sub (.int k a) (.int k b) = some (.int k (k.wrap (a - b))) := by simp [abin, abinInt]
@[simp] theorem abin_mul : abin .mul (.int k a) (.int k b) = some (.int k (k.wrap (a * b))) := by simp [abin, abinInt]
@[simp] theorem abin_eql : abin .eql (.int k a) (.int k b) = some (.bool (a == b)) := by simp [abin, abinInt]
@[simp] theorem abin_neq : abin .neq (.int k a) (.int k b) = some (.bool (a != b)) := by simp [abin, abinInt]
@[simp] theorem abin_lss : abin .lss (.int k a) (.int k b) = some (.bool (decide (a < b))) := by simp [abin, abinInt]
@[simp] theorem abin_leq : abin .leq (.int k a) (.int k b) = some (.bool (decide (a ≤ b))) := by simp [abin, abinInt]
@[simp] theorem abin_gtr : abin .gtr (.int k a) (.int k b) = some (.bool (decide (a > b))) := by simp [abin, abinInt]
@[simp] theorem abin_geq : abin .geq (.int k a) (.int k b) = some (.bool (decide (a ≥ b))) := by simp [abin, abinInt]
theorem abin_rem (h : b ≠ 0) : abin .rem (.int k a) (.int k b) = some (.int k (a.tmod b)) := by simp [abin, abinInt, h]
theorem abin_quo (h : b ≠ 0) : abin .quo (.int k a) (.int k b) = some (.int k (k.wrap (a.tdiv b))) := by simp [abin, abinInt, h]
@[simp] theorem abin_and : abin .and (.int k a) (.int k b) = some (.int k (k.wrap (BitVec.ofInt k.bits a &&& BitVec.ofInt k.bits b).toNat)) := by simp [abin, abinInt, bitsOp]
@[simp] theorem abin_or : abin .or (.int k a) (.int k b) = some (.int k (k.wrap (BitVec.ofInt k.bits a ||| BitVec.ofInt k.bits b).toNat)) := by simp [abin, abinInt, bitsOp]
@[simp] theorem abin_xor : abin .xor (.int k a) (.int k b) = some (.int k (k.wrap (BitVec.ofInt k.bits a ^^^ BitVec.ofInt k.bits b).toNat)) := by simp [abin, abinInt, bitsOp]
theorem abin_shr (k' : IntKind) (h : 0 ≤ b) : abin .shr (.int k a) (.int k' b) = some (.int k (a.fdiv (2 ^ (min b.toNat k.bits)))) := by simp [abin, abinInt, Int.not_lt.2 h]
theorem abin_shl (k' : IntKind) (h : 0 ≤ b) : abin .shl (.int k a) (.int k' b) = some (.int k (k.wrap (a * 2 ^ (min b.toNat k.bits)))) := by simp [abin, abinInt, Int.not_lt.2 h]
@[simp] theorem aconv_int (k' : IntKind) : aconv k' (.int k a) = some (.int k' (k'.wrap a)) := rfl
@[simp] theorem abeq_def (neg : Bool) (x y : Bool) : abeq neg (.bool x) (.bool y) = some (.bool (if neg then !(x == y) else x == y)) := rfl
@[simp] theorem aun_not (x : Bool) : aun .not (.bool x) = some (.bool !x) := rfl
end
@[simp] theorem alen_lst (tk : Tok) (n : Nat) (cs : List AV) : alen false (.lst tk n cs) = some (.int .i64 n) := rfl
@[simp] theorem alen_row (id o n sz : Nat) : alen false (.row id o n sz) = some (.int .i64 n) := rfl
@[simp] theorem alen_str (s : List UInt8) : alen true (.str s) = some (.int .i64 s.length) := rfl
end Rb

namespace Rb
open Go
def AH.Ext (H H' : AH) : Prop := H.n ≤ H'.n ∧ ∀ i, i < H.n → H'.o i = H.o i
theorem AH.Ext.refl (H : AH) : AH.Ext H H := ⟨Nat.le_refl _, fun _ _ => rfl⟩
theorem AH.Ext.trans {a b c : AH} (h : AH.Ext a b) (k : AH.Ext b c) : AH.Ext a c := ⟨Nat.le_trans h.1 k.1, fun i hi => (k.2 i (Nat.lt_of_lt_of_le hi h.1)).trans (h.2 i hi)⟩
theorem AH.Ext.push (H : AH) (x : AObj) : AH.Ext H (H.push x) := ⟨Nat.le_succ _, fun i hi => if_neg (Nat.ne_of_lt hi)⟩
theorem AH.Ext.set {H H' : AH} (h : AH.Ext H H') {i : Nat} (hi : H.n ≤ i) (x : AObj) : AH.Ext H (H'.set i x) := ⟨h.1, fun j hj => by
  simp only [AH.set]; rw [if_neg (by omega)]; exact h.2 j hj⟩
@[simp] theorem AH.push_n (H : AH) (x : AObj) : (H.push x).n = H.n + 1 := rfl
@[simp] theorem AH.set_n (H : AH) (i : Nat) (x : AObj) : (H.set i x).n = H.n := rfl
theorem AH.push_self (H : AH) (x : AObj) : (H.push x).o H.n = x := if_pos rfl
theorem AH.push_ne (H : AH) (x : AObj) {i : Nat} (h : i ≠ H.n) : (H.push x).o i = H.o i := if_neg h
theorem AH.set_self (H : AH) (i : Nat) (x : AObj) : (H.set i x).o i = x := if_pos rfl
theorem AH.set_ne (H : AH) {i j : Nat} (x : AObj) (h : j ≠ i) : (H.set i x).o j = H.o j := if_neg h
theorem wrap_i64 {n : Int} (h1 : -9223372036854775808 ≤ n) (h2 : n ≤ 9223372036854775807) : IntKind.wrap .i64 n = n := by
 simp [IntKind.wrap, IntKind.signed, IntKind.bits]; omega
def Lst (H0 H : AH) (sz : Nat) (x : AV) (len : Nat) (cells : List AV) : Prop :=
 AH.Ext H0 H ∧ ∃ tk, x = .lst tk len cells ∧ cells.length = len * sz ∧ ((tk = .nil ∧ len = 0) ∨ ∃ t, tk = .own t ∧ H0.n ≤ t ∧ t < H.n ∧ H.o t = .tok (len * sz) sz)
theorem Lst.nil (H : AH) (sz : Nat) : Lst H H sz (.lst .nil 0 []) 0 [] := ⟨AH.Ext.refl H, .nil, rfl, by simp, .inl ⟨rfl, rfl⟩⟩
theorem Lst.append {H0 H : AH} {sz bytes len m : Nat} {x y : AV} {cells news : List AV} {K : Post} (h : Lst H0 H sz x len cells) (hy : acells H sz y = some (m, news)) (hn : news.length = m * sz) (hs : news.all AV.scalar = true) (hm : m ≠ 0)
  (hb : (len + m) * bytes ≤ 140737488355328) (hl : len + m ≤ 9223372036854775807) (hK : ∀ x' H', Lst H0 H' sz x' (len + m) (cells ++ news) → K x' H') : DoH (aappend H false sz bytes x y) K := by
 obtain ⟨hx, tk, rfl, hc, htk⟩ := h
 have hlen : (cells ++ news).length = (len + m) * sz := by simp [hc, hn, Nat.add_mul]
 rcases htk with ⟨rfl, rfl⟩ | ⟨t, rfl, h1, h2, h3⟩
 · refine ⟨.lst (.own H.n) (0 + m) (cells ++ news), H.push (.tok ((0 + m) * sz) sz), ?_, hK _ _ ⟨hx.trans (AH.Ext.push _ _), _, rfl, hlen, .inr ⟨H.n, rfl, hx.1, Nat.lt_succ_self _, AH.push_self _ _⟩⟩⟩
   simp only [aappend, hy, hs, not_true_eq_false, if_false, if_neg hm]
   rw [if_neg (by simp only [Decidable.not_not]; exact ⟨hc, hb, hl⟩)]
 · refine ⟨.lst (.own H.n) (len + m) (cells ++ news), (H.set t .gone).push (.tok ((len + m) * sz) sz), ?_, hK _ _ ⟨(hx.set h1 _).trans (AH.Ext.push _ _), _, rfl, hlen, .inr ⟨H.n, rfl, hx.1, Nat.lt_succ_self _, AH.push_self _ _⟩⟩⟩
   simp only [aappend, hy, hs, not_true_eq_false, if_false, if_neg hm]
   rw [if_neg (by simp only [Decidable.not_not]; exact ⟨hc, hb, hl⟩)]
   simp [h3]
def At (H : AH) (id : Nat) (x : AObj) : Prop := id < H.n ∧ H.o id = x
theorem At.new (H : AH) (x : AObj) : At (H.push x) H.n x := ⟨Nat.lt_succ_self _, AH.push_self H x⟩
theorem At.ext {H H' : AH} {id : Nat} {x : AObj} (h : At H id x) (hE : AH.Ext H H') : At H' id x := ⟨Nat.lt_of_lt_of_le h.1 hE.1, (hE.2 id h.1).trans h.2⟩
theorem At.push {H : AH} {id : Nat} {x : AObj} (h : At H id x) (y : AObj) : At (H.push y) id x := h.ext (AH.Ext.push H y)
theorem At.set_ne {H : AH} {id i : Nat} {x : AObj} (h : At H id x) (hne : id ≠ i) (y : AObj) : At (H.set i y) id x := ⟨h.1, (AH.set_ne H y hne).trans h.2⟩
theorem At.set {H : AH} {id : Nat} {x : AObj} (h : At H id x) (y : AObj) : At (H.set id y) id y := ⟨h.1, AH.set_self H id y⟩
theorem At.ne {H : AH} {id i : Nat} {x y : AObj} (h : At H id x) (k : At H i y) (hxy : x ≠ y) : id ≠ i := fun e => hxy (by rw [← h.2, ← k.2, e])
theorem At.lt_new {H : AH} {id : Nat} {x : AObj} (h : At H id x) : id ≠ H.n := Nat.ne_of_lt h.1
theorem At.load {H : AH} {id : Nat} {cs : List AV} (h : At H id (.row cs)) (n o : Nat) (agg : Bool) : aload H n agg (.ptr id o) = takeCells cs o n agg := by simp [aload, h.2]
theorem At.store {H : AH} {id : Nat} {cs : List AV} (h : At H id (.row cs)) (n o : Nat) (v : AV) : astore H n (.ptr id o) v = if v.known ∧ v.cells.length = n ∧ v.cells.all AV.scalar ∧ o + n ≤ cs.length then some (H.set id (.row (setCells cs o v.cells))) else none := by simp [astore, h.2]
end Rb

namespace Rb
open Go
@[simp] theorem Gd3_true (b : Bool) (A B C : Prop) : Gd3 (.bool b) true A B C ↔ if b = true then A else B := Iff.rfl
@[simp] theorem Gd3_false (b : Bool) (A B C : Prop) : Gd3 (.bool b) false A B C ↔ if b = false then A else B := Iff.rfl
@[simp] theorem Gd3_tup (want : Bool) (A B C : Prop) : Gd3 (.tup []) want A B C ↔ C := Iff.rfl
theorem ite_both {c : Prop} [Decidable c] {A B : Prop} (h1 : c → A) (h2 : ¬ c → B) : if c then A else B := by
 split
 · exact h1 ‹_›
 · exact h2 ‹_›
theorem drop_nil_le {α : Type} {xs : List α} {i : Nat} (h : xs.drop i = []) : xs.length ≤ i := by simpa using h
theorem drop_cons_lt {α : Type} {xs ys : List α} {i : Nat} {y : α} (h : xs.drop i = y :: ys) : i < xs.length ∧ xs[i]? = some y ∧ xs.drop (i + 1) = ys := by
 have hlt : i < xs.length := by
  rcases Nat.lt_or_ge i xs.length with h' | h'
  · exact h'
  · rw [List.drop_eq_nil_of_le h'] at h; cases h
 refine ⟨hlt, ?_, ?_⟩
 · have := congrArg (fun l => l[0]?) h
   simpa using this
 · have := congrArg List.tail h
   simpa using this
end Rb

namespace Rb
open Go
section
variable {α : Type} {cells : α → List AV} {sz : Nat}
theorem flatMap_drop (hc : ∀ x, (cells x).length = sz) : ∀ (xs : List α) (i : Nat), (xs.flatMap cells).drop (i * sz) = (xs.drop i).flatMap cells := by
 intro xs i
 induction i generalizing xs with
 | zero => simp
 | succ i ih =>
  cases xs with
  | nil => simp
  | cons x xs =>
   rw [List.flatMap_cons, List.drop_succ_cons, ← ih]
   rw [show (i + 1) * sz = (cells x).length + i * sz by rw [hc, Nat.add_mul, Nat.one_mul, Nat.add_comm], ← List.drop_drop, List.drop_left]
theorem flatMap_len (hc : ∀ x, (cells x).length = sz) (xs : List α) : (xs.flatMap cells).length = xs.length * sz := by
 induction xs with
 | nil => simp
 | cons x xs ih => rw [List.flatMap_cons, List.length_append, ih, hc, List.length_cons, Nat.add_mul]; omega
def elA (cells : α → List AV) (sz : Nat) (xs : List α) (i : Nat) : AV := .fptr ((xs.flatMap cells).drop (i * sz))
theorem lstA_addr {xs : List α} {i : Nat} (hi : i < xs.length) : aiaddr none sz (lstA cells xs) (.int .i64 i) = some (elA cells sz xs i) := by
 simp only [lstA, aiaddr]
 rw [if_pos ⟨by omega, by omega⟩]; rfl
theorem elA_load (hc : ∀ x, (cells x).length = sz) (hz : 0 < sz) (H : AH) {xs : List α} {i : Nat} {x : α} (hx : xs[i]? = some x) : aload H sz true (elA cells sz xs i) = some (.agg (cells x)) := by
 have hlt := (List.getElem?_eq_some_iff.1 hx).1
 have hd : xs.drop i = x :: xs.drop (i + 1) := by
  rw [List.drop_eq_getElem_cons hlt]
  rw [List.getElem?_eq_getElem hlt] at hx
  simp at hx
  rw [hx]
 show takeCells ((xs.flatMap cells).drop (i * sz)) 0 sz true = _
 rw [flatMap_drop hc, hd, List.flatMap_cons]
 unfold takeCells
 rw [if_pos (by rw [List.length_append, hc]; omega)]
 simp only [if_true, List.drop_zero]
 rw [List.take_append_of_le_length (by rw [hc]; omega), List.take_of_length_le (by rw [hc]; omega)]
def IndexFuncL (sz : Nat) (Φ : Calls') (a0 : AV) (a1 : AV) (x1 : AV) (Q : Post) : (List AV × AH) → ((List AV × AH) → Prop) → Prop := fun s2 L3 =>
 Do (abin .lss (sl s2.1 0) x1) fun x4 =>
 Gd x4 true (
 Do (aiaddr none sz a0 (sl s2.1 0)) fun x5 =>
 Do (aload s2.2 sz true x5) fun x6 =>
 ∃ k9 c10, a1 = .fn k9 c10 ∧ Φ (fkey k9) (fargs k9 [x6] c10) s2.2 fun x7 H8 =>
 Gd x7 true (
 Q (sl s2.1 0) H8) (
 Do (abin .add (sl s2.1 0) (.int .i64 1)) fun x11 =>
 L3 ([x11], H8))) (
 Q (.int .i64 (-1)) s2.2)
def IndexFunc (sz : Nat) (Φ : Calls') (a0 : AV) (a1 : AV) (H : AH) (Q : Post) : Prop :=
 Do (alen false a0) fun x1 =>
 LoopP (IndexFuncL sz Φ a0 a1 x1 Q) ([(.int .i64 0)], H)
def idxI : Option Nat → Int
 | some i => i
 | none => -1
theorem IndexFunc_spec {Φ : Calls'} (hc : ∀ x, (cells x).length = sz) (hz : 0 < sz) {p : α → Bool} {key : Nat} {caps : List AV} {xs : List α} {H : AH} (hf : ∀ x ∈ xs, ∀ (R : Post), R (.bool (p x)) H → Φ key ([.agg (cells x)] ++ caps) H R) (hl : xs.length ≤ 9223372036854775807) {Q : Post}
  (hQ : Q (.int .i64 (idxI (xs.findIdx? p))) H) (hkb : bkey key = none := by first | assumption | rfl) : IndexFunc sz Φ (lstA cells xs) (.fn key caps) H Q := by
 unfold IndexFunc
 have hlen : alen false (lstA cells xs) = some (.int .i64 xs.length) := rfl
 rw [hlen]
 simp only [Do_of]
 have main : ∀ (ys : List α) (i : Nat), xs.drop i = ys → Q (.int .i64 (idxI ((ys.findIdx? p).map (· + i)))) H → LoopP (IndexFuncL sz Φ (lstA cells xs) (.fn key caps) (.int .i64 xs.length) Q) ([.int .i64 i], H) := by
  intro ys
  induction ys with
  | nil =>
   intro i hi hq
   have hle := drop_nil_le hi
   refine LoopP.step ?_
   simp only [IndexFuncL, sl_zero, abin_lss, Do_of, Gd_true]
   rw [if_neg (by simp only [decide_eq_true_eq]; omega)]
   simpa [idxI] using hq
  | cons y ys ih =>
   intro i hi hq
   obtain ⟨hlt, hy, hd⟩ := drop_cons_lt hi
   refine LoopP.step ?_
   simp only [IndexFuncL, sl_zero, abin_lss, Do_of, Gd_true]
   rw [if_pos (by simp only [decide_eq_true_eq]; omega), lstA_addr hlt]
   simp only [Do_of]
   rw [elA_load hc hz H hy]
   simp only [Do_of]
   refine ⟨key, caps, rfl, ?_⟩
   rw [fkey_none hkb, fargs_none hkb]
   refine hf y (List.mem_of_getElem? hy) _ ?_
   simp only [Gd_true]
   rw [List.findIdx?_cons] at hq
   by_cases he : p y = true
   · rw [if_pos he]
     rw [if_pos he] at hq
     simpa [idxI] using hq
   · rw [if_neg he]
     rw [if_neg he] at hq
     simp only [abin_add, Do_of]
     rw [wrap_i64 (by omega) (by omega), show ((i : Int) + 1) = ((i + 1 : Nat) : Int) by simp]
     refine ih (i + 1) hd ?_
     have : (List.findIdx? p ys).map (· + (i + 1)) = ((List.findIdx? p ys).map (· + 1)).map (· + i) := by
      rw [Option.map_map]; congr 1; funext k; simp only [Function.comp]; omega
     rw [this]; exact hq
 refine main xs 0 rfl ?_
 simpa using hQ
end
end Rb

namespace Rb
open Go
theorem frozs_app (a b : List AV) : AV.frozs (a ++ b) = (AV.frozs a && AV.frozs b) := by
 rw [frozs_all, frozs_all, frozs_all, List.all_append]
mutual
theorem GType.froz : ∀ x : GType, AV.frozs x.cells = true
 | .mk kind size packed fields count elem => by
  simp only [GType.cells, AV.frozs, AV.froz, Tok.free, GField.allFroz fields, GType.allFroz elem, Bool.and_self]
theorem GType.allFroz : ∀ xs : List GType, AV.frozs (GType.all xs) = true
 | [] => rfl
 | x :: r => by rw [GType.all, frozs_app, GType.froz x, GType.allFroz r]; rfl
theorem GField.froz : ∀ x : GField, AV.frozs x.cells = true
 | .mk name type bits width => by
  simp only [GField.cells, AV.frozs, AV.froz, frozs_app, GType.froz type, Bool.and_self]
theorem GField.allFroz : ∀ xs : List GField, AV.frozs (GField.all xs) = true
 | [] => rfl
 | x :: r => by rw [GField.all, frozs_app, GField.froz x, GField.allFroz r]; rfl
end
mutual
theorem GExpr.froz : ∀ x : GExpr, AV.frozs x.cells = true
 | .mk kind n name op order place kids => by
  simp only [GExpr.cells, AV.frozs, AV.froz, frozs_app, Tok.free, GPlace.froz place, GExpr.allFroz kids, Bool.and_self]
theorem GExpr.allFroz : ∀ xs : List GExpr, AV.frozs (GExpr.all xs) = true
 | [] => rfl
 | x :: r => by rw [GExpr.all, frozs_app, GExpr.froz x, GExpr.allFroz r]; rfl
theorem GPlace.froz : ∀ x : GPlace, AV.frozs x.cells = true
 | .mk var parts => by simp only [GPlace.cells, AV.frozs, AV.froz, Tok.free, GPart.allFroz parts, Bool.and_self]
theorem GPart.froz : ∀ x : GPart, AV.frozs x.cells = true
 | .mk field index => by simp only [GPart.cells, AV.frozs, AV.froz, Tok.free, GExpr.allFroz index, Bool.and_self]
theorem GPart.allFroz : ∀ xs : List GPart, AV.frozs (GPart.all xs) = true
 | [] => rfl
 | x :: r => by rw [GPart.all, frozs_app, GPart.froz x, GPart.allFroz r]; rfl
end
theorem lstA_froz {α : Type} {cells : α → List AV} (h : ∀ x, AV.frozs (cells x) = true) (xs : List α) : (lstA cells xs).froz = true := by
 have : AV.frozs (xs.flatMap cells) = true := by
  induction xs with
  | nil => rfl
  | cons x xs ih => rw [List.flatMap_cons, frozs_app, h, ih]; rfl
 simp only [lstA, AV.froz, Tok.free, this, Bool.and_self]
theorem GVar.froz (x : GVar) : AV.frozs x.cells = true := by simp only [GVar.cells, AV.frozs, AV.froz, GType.froz, Bool.and_self]
mutual
theorem GStmt.froz : ∀ x : GStmt, AV.frozs x.cells = true
 | .mk kind line name name2 order place exprs thn els => by
  simp only [GStmt.cells, AV.frozs, AV.froz, frozs_app, Tok.free, GPlace.froz place, lstA_froz GExpr.froz exprs, GStmt.allFroz thn, GStmt.allFroz els, Bool.and_self]
theorem GStmt.allFroz : ∀ xs : List GStmt, AV.frozs (GStmt.all xs) = true
 | [] => rfl
 | x :: r => by rw [GStmt.all, frozs_app, GStmt.froz x, GStmt.allFroz r]; rfl
end
theorem thr_froz (l : List GStmt) : AV.frozs (thrCells l) = true := by simp only [thrCells, AV.frozs, lstA_froz GStmt.froz, Bool.and_self]
theorem GProg.froz (x : GProg) : AV.frozs x.cells = true := by simp only [GProg.cells, AV.frozs, lstA_froz GVar.froz, lstA_froz thr_froz, Bool.and_self]
end Rb

namespace Rb
open Go
@[simp] theorem AH.push_set (H : AH) (x y : AObj) : (H.push x).set H.n y = H.push y := by
 simp only [AH.push, AH.set]
 congr 1
 funext j
 split <;> rfl
@[simp] theorem load_push (H : AH) (cs : List AV) (n o : Nat) (agg : Bool) : aload (H.push (.row cs)) n agg (.ptr H.n o) = takeCells cs o n agg := by
 simp [aload, AH.push_self]
theorem store_push (H : AH) (cs : List AV) (n o : Nat) (v : AV) (h1 : v.known = true) (h2 : v.cells.length = n) (h3 : v.cells.all AV.scalar = true) (h4 : o + n ≤ cs.length) : astore (H.push (.row cs)) n (.ptr H.n o) v = some (H.push (.row (setCells cs o v.cells))) := by
 rw [(At.new H (.row cs)).store, if_pos ⟨h1, h2, h3, h4⟩, AH.push_set]
theorem setCells_all {xs ys : List AV} : ∀ {k : Nat}, k + ys.length = xs.length → setCells xs k ys = xs.take k ++ ys := by
 induction ys generalizing xs with
 | nil => intro k h; simp only [setCells]; rw [List.append_nil, List.take_of_length_le (by simp at h; omega)]
 | cons y ys ih =>
  intro k h
  simp only [setCells]
  rw [ih (by simp at h ⊢; omega)]
  have hk : k < xs.length := by simp at h; omega
  rw [List.take_add_one, List.getElem?_set_self hk, List.take_set_of_le (by omega)]
  simp
theorem store_new (H : AH) (zs cs : List AV) (n : Nat) (h2 : cs.length = n) (h3 : cs.all AV.scalar = true) (h4 : zs.length = n) : astore (H.push (.row zs)) n (.ptr H.n 0) (.agg cs) = some (H.push (.row cs)) := by
 rw [store_push H zs n 0 (.agg cs) rfl h2 h3 (by omega)]
 congr 3
 show setCells zs 0 cs = cs
 rw [setCells_all (by omega)]; rfl
theorem takeCells_app {a b : List AV} {n : Nat} (h : a.length = n) : takeCells (a ++ b) 0 n true = some (.agg a) := by
 unfold takeCells
 rw [if_pos (by rw [List.length_append]; omega)]
 simp only [if_true, List.drop_zero]
 rw [List.take_append_of_le_length (by omega), List.take_of_length_le (by omega)]
theorem takeCells_whole {a : List AV} {n : Nat} (h : a.length = n) : takeCells a 0 n true = some (.agg a) := by
 have := takeCells_app (a := a) (b := []) h
 rwa [List.append_nil] at this
theorem takeCells_drop {cs : List AV} {o n : Nat} {agg : Bool} (h : o ≤ cs.length) : takeCells cs o n agg = takeCells (cs.drop o) 0 n agg := by
 by_cases hl : o + n ≤ cs.length
 · have hl' : 0 + n ≤ (cs.drop o).length := by rw [List.length_drop]; omega
   unfold takeCells
   simp only [hl, hl', if_true]
   cases agg <;> simp
 · have hl' : ¬ 0 + n ≤ (cs.drop o).length := by rw [List.length_drop]; omega
   unfold takeCells
   simp only [hl, hl', if_false]
mutual
theorem GType.scalar : ∀ x : GType, x.cells.all AV.scalar = true
 | .mk kind size packed fields count elem => by simp [GType.cells, AV.scalar]
theorem GField.scalar : ∀ x : GField, x.cells.all AV.scalar = true
 | .mk name type bits width => by simp only [GField.cells, List.all_cons, List.all_append, GType.scalar type]; rfl
end
theorem GPlace.scalar (x : GPlace) : x.cells.all AV.scalar = true := by rw [GPlace.cells_eq]; rfl
theorem GPart.scalar (x : GPart) : x.cells.all AV.scalar = true := by rw [GPart.cells_eq]; rfl
theorem GExpr.scalar (x : GExpr) : x.cells.all AV.scalar = true := by rw [GExpr.cells_eq]; simp only [List.all_cons, List.all_append, GPlace.scalar]; rfl
theorem GStmt.scalar (x : GStmt) : x.cells.all AV.scalar = true := by rw [GStmt.cells_eq]; simp only [List.all_cons, List.all_append, GPlace.scalar]; rfl
theorem GVar.scalar (x : GVar) : x.cells.all AV.scalar = true := by simp only [GVar.cells, List.all_cons, GType.scalar]; rfl
end Rb

namespace Rb
open Go
def i1 (k : IntKind) (z : Int) : List AV := [.int k z]
section
variable {α : Type} {c : α → AV}
theorem one_load (H : AH) {xs : List α} {i : Nat} {x : α} (hx : xs[i]? = some x) : aload H 1 false (elA (fun x => [c x]) 1 xs i) = some (c x) := by
 have hlt := (List.getElem?_eq_some_iff.1 hx).1
 have hd : xs.drop i = x :: xs.drop (i + 1) := by
  rw [List.drop_eq_getElem_cons hlt]
  rw [List.getElem?_eq_getElem hlt] at hx
  simp at hx
  rw [hx]
 show takeCells ((xs.flatMap fun x => [c x]).drop (i * 1)) 0 1 false = _
 rw [flatMap_drop (sz := 1) (fun _ => rfl), hd, List.flatMap_cons]
 rfl
end
theorem lstA_len' {α : Type} (cells : α → List AV) (xs : List α) : alen false (lstA cells xs) = some (.int .i64 xs.length) := rfl
end Rb

namespace Rb
open Go
def Val (Φ : Calls') (k : Nat) (args : List AV) (v : AV) : Prop := ∀ (H : AH) (Q : Post), Q v H → Φ k args H Q
theorem Val.of {C : Ctx} (hGT : GTok C) {k : Nat} {args : List AV} {v : AV} (ha : AV.frozs args = true) (hv : v.froz = true) (h : ∀ Q : Post, (∀ H', Q v H') → ACall C k args AH.mt Q) : Val (ACall C) k args v :=
 fun H Q hQ => ACall.frame2 (Q := fun u _ => u = v) hGT (h _ fun _ => rfl) ha H Q fun u _ hu => by subst hu; exact ⟨hv, hQ⟩
def isLet (c : UInt8) : Bool := decide (97 ≤ c.toNat) && decide (c.toNat ≤ 122)
def isDig (c : UInt8) : Bool := decide (48 ≤ c.toNat) && decide (c.toNat ≤ 57)
def isPart (c : UInt8) : Bool := isLet c || isDig c || decide (c.toNat = 95)
def nameOk : List UInt8 → Bool
 | [] => false
 | c :: r => decide (r.length < 16) && isLet c && r.all isPart
theorem decodeN_lo {n b0 b1 b2 b3 : Nat} (h : b0 < 128) : Go.Lib.decodeN n b0 b1 b2 b3 = (b0, 1) := by unfold Go.Lib.decodeN; rw [if_pos h]
theorem decodeN_hi {n b0 b1 b2 b3 : Nat} (h : ¬ b0 < 128) : 128 ≤ (Go.Lib.decodeN n b0 b1 b2 b3).1 := by
 unfold Go.Lib.decodeN
 rw [if_neg h]
 repeat' split
 all_goals (dsimp only; omega)
theorem decode_lo {s : List UInt8} {i : Nat} {c : UInt8} (hc : s[i]? = some c) (h : c.toNat < 128) : Utf8.decode ⟨s.toArray⟩ i = (c.toNat, 1) := by
 have e : (ByteArray.mk s.toArray).get! i = c := by
  show s.toArray[i]! = c
  have hi := (List.getElem?_eq_some_iff.1 hc).1
  rw [getElem!_pos s.toArray i (by simpa using hi)]
  simp [List.getElem?_eq_getElem hi] at hc
  simpa using hc
 rw [Go.Lib.decode_at, e, decodeN_lo h]
theorem decode_hi {s : List UInt8} {i : Nat} {c : UInt8} (hc : s[i]? = some c) (h : ¬ c.toNat < 128) : 128 ≤ (Utf8.decode ⟨s.toArray⟩ i).1 := by
 have e : (ByteArray.mk s.toArray).get! i = c := by
  show s.toArray[i]! = c
  have hi := (List.getElem?_eq_some_iff.1 hc).1
  rw [getElem!_pos s.toArray i (by simpa using hi)]
  simp [List.getElem?_eq_getElem hi] at hc
  simpa using hc
 rw [Go.Lib.decode_at, e]
 exact decodeN_hi h
def pow2 (n most : Int) : Bool := (n == 1 || n == 2 || n == 4 || n == 8 || n == 16) && decide (n ≤ most)
def onlyM (kind size : Int) (packed : Bool) (nf : Nat) (count : Int) (ne : Nat) : Bool :=
 if kind = 1 ∨ kind = 2 then !packed && nf == 0 && count == 0 && ne == 0
 else if kind = 3 ∨ kind = 4 then size == 0 && count == 0 && ne == 0
 else if kind = 5 then size == 0 && !packed && nf == 0 && ne == 1
 else false
mutual
def sndT : GType → Int
 | .mk kind size packed fields count elem =>
  if onlyM kind size packed fields.length count elem.length = false then 8
  else if kind = 1 then (if pow2 size 8 then 0 else 9)
  else if kind = 2 then (if pow2 size 16 then 0 else 9)
  else if kind = 5 then (if count < 1 ∨ 65536 < count then 9 else sndE elem)
  else if fields.length < 1 ∨ 32 < fields.length then 12
  else sndFs packed [] fields
def sndE : List GType → Int
 | [] => 0
 | t :: _ => sndT t
def sndF (packed : Bool) (seen : List (List UInt8)) : GField → Int
 | .mk name type bits width =>
  if nameOk name = false ∧ (name ≠ [] ∨ bits = false) then 6
  else if name ≠ [] ∧ seen.contains name = true then 7
  else if sndT type ≠ 0 then sndT type
  else if (bits = false ∧ width ≠ 0) ∨ (bits = true ∧ (type.kind ≠ 1 ∨ packed = true)) then 8
  else if bits = true ∧ (width < 0 ∨ 8 * type.size < width ∨ (width = 0 ∧ name ≠ [])) then 9
  else 0
def sndFs (packed : Bool) (seen : List (List UInt8)) : List GField → Int
 | [] => 0
 | f :: r => if sndF packed seen f ≠ 0 then sndF packed seen f else sndFs packed (seen ++ [f.name]) r
end
mutual
def depT (most : Nat) : GType → Int
 | .mk kind size packed fields count elem => if 1 < most then max (depFs (most - 1) fields) (depEs (most - 1) elem) + 1 else 1
def depF (most : Nat) : GField → Int
 | .mk name type bits width => depT most type
def depFs (most : Nat) : List GField → Int
 | [] => 0
 | f :: r => max (depF most f) (depFs most r)
def depEs (most : Nat) : List GType → Int
 | [] => 0
 | t :: r => max (depT most t) (depEs most r)
end
def soundM (t : GType) : Int := if 64 < depT 65 t then 5 else sndT t
theorem GType.ind {P : GType → Prop} (h : ∀ t : GType, (∀ f ∈ t.fields, P f.type) → (∀ e ∈ t.elem, P e) → P t) : ∀ t, P t := by
 have main : ∀ (n : Nat) (t : GType), sizeOf t < n → P t := by
  intro n
  induction n with
  | zero => intro t ht; omega
  | succ n ih =>
   intro t ht
   refine h t (fun f hf => ih _ ?_) fun e he => ih _ ?_
   · cases t with
     | mk kind size packed fields count elem =>
      have := List.sizeOf_lt_of_mem hf
      cases f with
      | mk name type bits width => simp at this ht ⊢; omega
   · cases t with
     | mk kind size packed fields count elem =>
      have := List.sizeOf_lt_of_mem he
      simp at this ht ⊢; omega
 exact fun t => main _ t (Nat.lt_succ_self _)
end Rb

namespace Rb
open Go
theorem ty_box (t : GType) (H : AH) : aboxv H false 6 (.agg t.cells) = some (.fptr t.cells, H) := by unfold aboxv; rw [if_pos ⟨rfl, t.len⟩]; rfl
theorem ty_addr (t : GType) (i : Nat) : afaddr i (.fptr t.cells) = some (.fptr (t.cells.drop i)) := rfl
theorem ty_l0 (t : GType) (H : AH) : aload H 1 false (.fptr (t.cells.drop 0)) = some (.int .i64 t.kind) := by rw [GType.cells_eq]; rfl
theorem ty_l1 (t : GType) (H : AH) : aload H 1 false (.fptr (t.cells.drop 1)) = some (.int .i64 t.size) := by rw [GType.cells_eq]; rfl
theorem ty_l2 (t : GType) (H : AH) : aload H 1 false (.fptr (t.cells.drop 2)) = some (.bool t.packed) := by rw [GType.cells_eq]; rfl
theorem ty_l3 (t : GType) (H : AH) : aload H 1 false (.fptr (t.cells.drop 3)) = some (lstA GField.cells t.fields) := by rw [GType.cells_eq]; rfl
theorem ty_l4 (t : GType) (H : AH) : aload H 1 false (.fptr (t.cells.drop 4)) = some (.int .i64 t.count) := by rw [GType.cells_eq]; rfl
theorem ty_l5 (t : GType) (H : AH) : aload H 1 false (.fptr (t.cells.drop 5)) = some (lstA GType.cells t.elem) := by rw [GType.cells_eq]; rfl
theorem ty_all (t : GType) (H : AH) : aload H 6 true (.fptr t.cells) = some (.agg t.cells) := takeCells_whole t.len
theorem fd_t0 (f : GField) : takeCells f.cells 0 1 false = some (.str f.name) := by cases f with | mk n t b w => cases t; rfl
theorem fd_t7 (f : GField) : takeCells f.cells 7 1 false = some (.bool f.bits) := by cases f with | mk n t b w => cases t; rfl
theorem fd_t8 (f : GField) : takeCells f.cells 8 1 false = some (.int .i64 f.width) := by cases f with | mk n t b w => cases t; rfl
theorem fd_t1 (f : GField) : takeCells f.cells 1 6 true = some (.agg f.type.cells) := by cases f with | mk n t b w => cases t; rfl
theorem fd_k (f : GField) : takeCells f.cells 1 1 false = some (.int .i64 f.type.kind) := by cases f with | mk n t b w => cases t; rfl
theorem fd_s (f : GField) : takeCells f.cells 2 1 false = some (.int .i64 f.type.size) := by cases f with | mk n t b w => cases t; rfl
theorem wrap_i32 {n : Int} (h1 : -2147483648 ≤ n) (h2 : n ≤ 2147483647) : IntKind.wrap .i32 n = n := by
 simp [IntKind.wrap, IntKind.signed, IntKind.bits]; omega
theorem abin_streq' (s t : List UInt8) : abin .eql (.str s) (.str t) = some (.bool (s == t)) := rfl
theorem abin_strne (s t : List UInt8) : abin .neq (.str s) (.str t) = some (.bool (!(s == t))) := rfl
theorem max_int (a b : Int) : aminmax true [.int .i64 a, .int .i64 b] = some (.int .i64 (max a b)) := by
 simp only [aminmax, mmAll, mm2, if_true]
 congr 2
 show (if a < b then b else a) = max a b
 omega
def partI (n : Int) : Bool := (decide (97 ≤ n) && decide (n ≤ 122)) || (decide (48 ≤ n) && decide (n ≤ 57)) || decide (n = 95)
theorem partI_lo (c : UInt8) : partI (c.toNat : Int) = isPart c := by
 rw [Bool.eq_iff_iff]; simp [partI, isPart, isLet, isDig]; omega
theorem partI_hi {n : Int} (h : 128 ≤ n) : partI n = false := by
 rw [Bool.eq_false_iff]; simp [partI]; omega
theorem isPart_hi {c : UInt8} (h : ¬ c.toNat < 128) : isPart c = false := by
 rw [Bool.eq_false_iff]; simp [isPart, isLet, isDig]; omega
theorem letI_eq (c : UInt8) : (decide (97 ≤ (c.toNat : Int)) && decide ((c.toNat : Int) ≤ 122)) = isLet c := by
 rw [Bool.eq_iff_iff]; simp [isLet]; omega
section
variable {Φ : Calls'} {H : AH} {Q : Post}
theorem kind_letter_spec {n : Int} (hQ : Q (.bool (decide (97 ≤ n) && decide (n ≤ 122))) H) : S.f94 Φ (.int .i32 n) H Q := by
 simp only [S.f94, abin_geq, abin_leq, Do_of, Gd3_true]
 refine ite_both (fun h => ?_) (fun h => ?_)
 · simp only [ge_iff_le, decide_eq_true_eq] at h
   simpa [h] using hQ
 · simp only [ge_iff_le, decide_eq_true_eq] at h
   simpa [h] using hQ
theorem asnext_some {id pos : Nat} {s : List UInt8} (h : At H id (.siter s pos)) (hp : pos < s.length) : asnext H (.ptr id 0) = some (.tup [.bool true, .int .i64 pos, .int .i32 (Utf8.decode ⟨s.toArray⟩ pos).1], H.set id (.siter s (pos + (Utf8.decode ⟨s.toArray⟩ pos).2))) := by
 simp [asnext, h.2, hp]
theorem asnext_none {id pos : Nat} {s : List UInt8} (h : At H id (.siter s pos)) (hp : s.length ≤ pos) : asnext H (.ptr id 0) = some (.tup [.bool false], H) := by
 simp [asnext, h.2, Nat.not_lt.2 hp]
theorem name_body {n : Int} {L : (List AV × AH) → Prop} (hT : Cl Φ S.tab_Chk) (hbad : partI n = false → Q (.bool false) H) (hgood : partI n = true → L ([], H)) :
  Φ K.f94 [.int .i32 n] H fun x28 H29 =>
   Do (aun .not x28) fun x30 =>
   Gd3 x30 true (
   Do (abin .neq (.int .i32 n) (.int .i32 95)) fun x31 =>
   JoinP (S.f71_k2 Φ (.int .i32 n) L Q) [x31] H29) (
   JoinP (S.f71_k2 Φ (.int .i32 n) L Q) [(.bool false)] H29) (
   False) := by
 refine S.cl_f94 hT (kind_letter_spec ?_)
 have k1 : ∀ b : Bool, b = !partI n → JoinP (S.f71_k1 Φ L Q) [.bool b] H := by
  intro b hb
  simp only [JoinP_def, S.f71_k1, sl_zero, Gd_true]
  refine ite_both (fun h => ?_) (fun h => ?_)
  · exact hbad (by rw [h] at hb; simpa using hb.symm)
  · exact hgood (by simp only [Bool.not_eq_true] at h; rw [h] at hb; simpa using hb.symm)
 simp only [aun_not, Do_of, Gd3_true, abin_neq, JoinP_def, S.f71_k2, sl_zero, abin_lss, abin_gtr, Gd3_false, Bool.false_eq_true, if_false] at k1 ⊢
 generalize S.f71_k1 Φ L Q = KK at k1 ⊢
 repeat' (refine ite_both (fun h => ?_) (fun h => ?_))
 all_goals (refine k1 _ ?_; simp only [Bool.not_eq_true', Bool.and_eq_false_imp, decide_eq_true_eq, decide_eq_false_iff_not, bne_iff_ne, ne_eq, Bool.not_eq_true, Bool.not_eq_false] at *; rw [Bool.eq_iff_iff]; simp [partI]; omega)
theorem kind_Name_spec (hT : Cl Φ S.tab_Chk) {s : List UInt8} (hQ : ∀ H', Q (.bool (nameOk s)) H') : S.f71 Φ (.str s) H Q := by
 have main : ∀ (ys : List UInt8) (pos id : Nat) (H : AH), s.drop pos = ys → At H id (.siter s pos) → (∀ H', Q (.bool (ys.all isPart)) H') → LoopP (S.f71_l3 Φ (.ptr id 0) Q) ([], H) := by
  intro ys
  induction ys with
  | nil =>
   intro pos id H hd hat hq
   have hle := drop_nil_le hd
   refine LoopP.step ?_
   simp only [S.f71_l3]
   rw [asnext_none hat hle]
   simp only [DoH_some, aextract, List.getElem?_cons_zero, Do_of, Gd_true, Bool.false_eq_true, if_false]
   simpa using hq H
  | cons y ys ih =>
   intro pos id H hd hat hq
   obtain ⟨hlt, hy, hd'⟩ := drop_cons_lt hd
   refine LoopP.step ?_
   simp only [S.f71_l3]
   rw [asnext_some hat hlt]
   simp only [DoH_some, aextract, List.getElem?_cons_zero, List.getElem?_cons_succ, Do_of, Gd_true, if_true]
   refine name_body hT (fun hb => ?_) (fun hg => ?_)
   · by_cases hlo : y.toNat < 128
     · rw [decode_lo hy hlo] at hb
       simp only [partI_lo] at hb
       have := hq (H.set id (.siter s (pos + (Utf8.decode ⟨s.toArray⟩ pos).2)))
       simpa [hb] using this
     · have := hq (H.set id (.siter s (pos + (Utf8.decode ⟨s.toArray⟩ pos).2)))
       simpa [isPart_hi hlo] using this
   · by_cases hlo : y.toNat < 128
     · rw [decode_lo hy hlo] at hg ⊢
       simp only [partI_lo] at hg
       exact ih (pos + 1) id _ hd' (hat.set _) fun H' => by simpa [hg] using hq H'
     · rw [partI_hi (by have := decode_hi hy hlo; omega)] at hg
       cases hg
 unfold S.f71
 simp only [alen_str, abin_lss, abin_gtr, Do_of, Gd3_false, JoinP_def]
 cases s with
 | nil =>
  simp [S.f71_k6, S.f71_k5, JoinP_def, sl_zero, Gd3_false, Gd_true]
  simpa [nameOk] using hQ H
 | cons c r =>
  rw [if_pos (by simp; omega)]
  have k5 : ∀ b : Bool, (b = false → nameOk (c :: r) = r.all isPart ∧ isPart c = true) → (b = true → nameOk (c :: r) = false) → ∀ H, S.f71_k5 Φ (.str (c :: r)) Q [.bool b] H := by
   intro b h1 h2 H
   simp only [S.f71_k5, sl_zero, Gd_true]
   refine ite_both (fun h => ?_) (fun h => ?_)
   · have := hQ H; rw [h2 h] at this; exact this
   · simp only [Bool.not_eq_true] at h
     obtain ⟨g1, g2⟩ := h1 h
     simp only [JoinP_def, S.f71_k4, asrange, DoH_some]
     refine main (c :: r) 0 H.n _ rfl (At.new H _) fun H' => ?_
     have := hQ H'
     rw [g1] at this
     simpa [g2] using this
  simp only [S.f71_k6, sl_zero, Gd3_false, JoinP_def]
  refine ite_both (fun h => ?_) (fun h => ?_)
  · have hx : aidxs (.str (c :: r)) (.int .i64 0) = some (.int .u8 c.toNat) := by simp [aidxs]
    have hc := c.toNat_lt
    rw [hx]
    simp only [Do_of, aconv_int]
    rw [wrap_i32 (by omega) (by omega)]
    refine S.cl_f94 hT (kind_letter_spec ?_)
    rw [letI_eq]
    simp only [aun_not, Do_of]
    have hl : r.length < 16 := by simp at h; omega
    refine k5 _ (fun hb => ?_) (fun hb => ?_) _
    · have : isLet c = true := by simpa using hb
      exact ⟨by simp [nameOk, hl, this], by simp [isPart, this]⟩
    · have : isLet c = false := by simpa using hb
      simp [nameOk, this]
  · refine k5 _ (fun hb => by cases hb) (fun _ => ?_) _
    have hl : ¬ r.length < 16 := by simp at h; omega
    simp [nameOk, hl]
end
end Rb

namespace Rb
open Go
mutual
theorem dep_le : ∀ (t : GType) (m : Nat), 1 ≤ m → 1 ≤ depT m t ∧ depT m t ≤ m
 | .mk kind size packed fields count elem, m, hm => by
  simp only [depT]
  split
  · rename_i h
    have h1 := depFs_le fields (m - 1) (by omega)
    have h2 := depEs_le elem (m - 1) (by omega)
    omega
  · omega
theorem depF_le : ∀ (f : GField) (m : Nat), 1 ≤ m → 0 ≤ depF m f ∧ depF m f ≤ m
 | .mk name type bits width, m, hm => by
  have := dep_le type m hm
  simp only [depF]; omega
theorem depFs_le : ∀ (l : List GField) (m : Nat), 1 ≤ m → 0 ≤ depFs m l ∧ depFs m l ≤ m
 | [], m, hm => by simp only [depFs]; omega
 | f :: r, m, hm => by
  have h1 := depF_le f m hm
  have h2 := depFs_le r m hm
  simp only [depFs]; omega
theorem depEs_le : ∀ (l : List GType) (m : Nat), 1 ≤ m → 0 ≤ depEs m l ∧ depEs m l ≤ m
 | [], m, hm => by simp only [depEs]; omega
 | t :: r, m, hm => by
  have h1 := dep_le t m hm
  have h2 := depEs_le r m hm
  simp only [depEs]; omega
end
theorem depF_eq (f : GField) (m : Nat) : depF m f = depT m f.type := by cases f; rfl
theorem depT_eq (t : GType) (m : Nat) : depT m t = if 1 < m then max (depFs (m - 1) t.fields) (depEs (m - 1) t.elem) + 1 else 1 := by cases t; rfl
theorem sndT_eq (t : GType) : sndT t = if onlyM t.kind t.size t.packed t.fields.length t.count t.elem.length = false then 8
  else if t.kind = 1 then (if pow2 t.size 8 then 0 else 9)
  else if t.kind = 2 then (if pow2 t.size 16 then 0 else 9)
  else if t.kind = 5 then (if t.count < 1 ∨ 65536 < t.count then 9 else sndE t.elem)
  else if t.fields.length < 1 ∨ 32 < t.fields.length then 12
  else sndFs t.packed [] t.fields := by cases t; rfl
theorem sndF_eq (packed : Bool) (seen : List (List UInt8)) (f : GField) : sndF packed seen f = if nameOk f.name = false ∧ (f.name ≠ [] ∨ f.bits = false) then 6
  else if f.name ≠ [] ∧ seen.contains f.name = true then 7
  else if sndT f.type ≠ 0 then sndT f.type
  else if (f.bits = false ∧ f.width ≠ 0) ∨ (f.bits = true ∧ (f.type.kind ≠ 1 ∨ packed = true)) then 8
  else if f.bits = true ∧ (f.width < 0 ∨ 8 * f.type.size < f.width ∨ (f.width = 0 ∧ f.name ≠ [])) then 9
  else 0 := by cases f; rfl
section
variable {Φ : Calls'} {H : AH} {Q : Post}
theorem kind_power_spec {n most : Int} (hm : most = 8 ∨ most = 16) (hQ : Q (.bool (pow2 n most)) H) : S.f178 Φ (.int .i64 n) (.int .i64 most) H Q := by
 have e : ∀ b : Bool, b = pow2 n most → Q (.bool b) H := fun b h => by rw [h]; exact hQ
 simp only [S.f178, S.f178_k1, JoinP_def, sl_zero, abin_geq, abin_leq, Do_of, Gd3_true, Bool.false_eq_true, if_false]
 refine ite_both (fun h1 => ?_) (fun h1 => ?_)
 · refine ite_both (fun h2 => ?_) (fun h2 => ?_)
   · simp only [ge_iff_le, decide_eq_true_eq] at h1 h2
     have : n = 1 ∨ n = 2 ∨ n = 3 ∨ n = 4 ∨ n = 5 ∨ n = 6 ∨ n = 7 ∨ n = 8 ∨ n = 9 ∨ n = 10 ∨ n = 11 ∨ n = 12 ∨ n = 13 ∨ n = 14 ∨ n = 15 ∨ n = 16 := by omega
     have hle : decide (n ≤ most) = true := by simpa using h2
     simp only [abin_sub, Do_of, abin_and, abin_eql]
     refine e _ ?_
     unfold pow2
     rw [hle, Bool.and_true]
     clear hle h2 h1 hQ e
     rcases this with rfl | rfl | rfl | rfl | rfl | rfl | rfl | rfl | rfl | rfl | rfl | rfl | rfl | rfl | rfl | rfl <;> decide
   · refine e _ ?_
     simp only [decide_eq_true_eq] at h2
     simp [pow2, h2]
 · refine e _ ?_
   simp only [ge_iff_le, decide_eq_true_eq] at h1
   have : n ≠ 1 ∧ n ≠ 2 ∧ n ≠ 4 ∧ n ≠ 8 ∧ n ≠ 16 := by omega
   simp [pow2, this]
theorem kind_only_spec {t : GType} (hQ : Q (.bool (onlyM t.kind t.size t.packed t.fields.length t.count t.elem.length)) H) : S.f177 Φ (.agg t.cells) H Q := by
 have e : ∀ b : Bool, b = onlyM t.kind t.size t.packed t.fields.length t.count t.elem.length → Q (.bool b) H := fun b h => by rw [h]; exact hQ
 clear hQ
 simp only [S.f177, S.f177_k1, S.f177_k2, S.f177_k3, S.f177_k4, S.f177_k5, S.f177_k6, S.f177_k7, ty_box, DoH_some, ty_addr, ty_l0, ty_l1, ty_l2, ty_l3, ty_l4, ty_l5, lstA_len', JoinP_def, sl_zero, abin_eql, aun_not, Do_of, Gd3_true, Gd3_false]
 generalize t.kind = k at *
 generalize t.size = sz at *
 generalize t.packed = pk at *
 generalize t.fields.length = nf at *
 generalize t.count = ct at *
 generalize t.elem.length = ne at *
 by_cases h1 : k = 1
 · subst h1
   simp only [BEq.rfl, Int.reduceBEq, Bool.true_eq_false, Bool.false_eq_true, if_true, if_false, Bool.not_false, Bool.not_true]
   repeat' (refine ite_both (fun h => ?_) (fun h => ?_))
   all_goals (refine e _ ?_; simp_all [onlyM])
 by_cases h2 : k = 2
 · subst h2
   simp only [BEq.rfl, Int.reduceBEq, Bool.true_eq_false, Bool.false_eq_true, if_true, if_false, Bool.not_false, Bool.not_true]
   repeat' (refine ite_both (fun h => ?_) (fun h => ?_))
   all_goals (refine e _ ?_; simp_all [onlyM])
 by_cases h3 : k = 3
 · subst h3
   simp only [BEq.rfl, Int.reduceBEq, Bool.true_eq_false, Bool.false_eq_true, if_true, if_false, Bool.not_false, Bool.not_true]
   repeat' (refine ite_both (fun h => ?_) (fun h => ?_))
   all_goals (refine e _ ?_; simp_all [onlyM])
 by_cases h4 : k = 4
 · subst h4
   simp only [BEq.rfl, Int.reduceBEq, Bool.true_eq_false, Bool.false_eq_true, if_true, if_false, Bool.not_false, Bool.not_true]
   repeat' (refine ite_both (fun h => ?_) (fun h => ?_))
   all_goals (refine e _ ?_; simp_all [onlyM])
 by_cases h5 : k = 5
 · subst h5
   simp only [BEq.rfl, Int.reduceBEq, Bool.true_eq_false, Bool.false_eq_true, if_true, if_false, Bool.not_false, Bool.not_true]
   repeat' (refine ite_both (fun h => ?_) (fun h => ?_))
   all_goals (refine e _ ?_; simp_all [onlyM]) <;> (rw [Bool.eq_iff_iff]; simp; try omega)
 · have g1 : (k == 1) = false := by simpa using h1
   have g2 : (k == 2) = false := by simpa using h2
   have g3 : (k == 3) = false := by simpa using h3
   have g4 : (k == 4) = false := by simpa using h4
   have g5 : (k == 5) = false := by simpa using h5
   simp only [g1, g2, g3, g4, g5, Bool.true_eq_false, Bool.false_eq_true, if_true, if_false, Bool.not_false, Bool.not_true]
   repeat' (refine ite_both (fun h => ?_) (fun h => ?_))
   all_goals (refine e _ ?_; simp_all [onlyM])
theorem kind_depth_spec {t : GType} {m : Nat} (h1 : 1 ≤ m) (h2 : m ≤ 65) (hlf : t.fields.length ≤ maxLen) (hle : t.elem.length ≤ maxLen)
  (hf : 1 < m → ∀ f ∈ t.fields, Val Φ K.f176 [.agg f.type.cells, .int .i64 ((m - 1 : Nat) : Int)] (.int .i64 (depT (m - 1) f.type)))
  (he : 1 < m → ∀ x ∈ t.elem, Val Φ K.f176 [.agg x.cells, .int .i64 ((m - 1 : Nat) : Int)] (.int .i64 (depT (m - 1) x)))
  (hQ : ∀ H', Q (.int .i64 (depT m t)) H') : S.f176 Φ (.agg t.cells) (.int .i64 m) H Q := by
 have hm : maxLen = 9223372036854775807 := by decide
 rw [hm] at hlf hle
 have k1 : ∀ (v : Int) (H : AH), 0 ≤ v → v ≤ 64 → v + 1 = depT m t → JoinP (S.f176_k1 Φ Q) [.int .i64 v] H := by
  intro v H hv0 hv1 hv
  simp only [JoinP_def, S.f176_k1, sl_zero, abin_add, Do_of]
  rw [wrap_i64 (by omega) (by omega), hv]
  exact hQ H
 unfold S.f176
 simp only [ty_box, DoH_some, abin_gtr, Do_of, Gd_true]
 refine ite_both (fun h => ?_) (fun h => ?_)
 · have hm1 : 1 < m := by simp at h; omega
   have hsub : IntKind.wrap .i64 ((m : Int) - 1) = ((m - 1 : Nat) : Int) := by rw [wrap_i64 (by omega) (by omega)]; omega
   have dE := depEs_le t.elem (m - 1) (by omega)
   have dF := depFs_le t.fields (m - 1) (by omega)
   have hfin : depT m t = max (depFs (m - 1) t.fields) (depEs (m - 1) t.elem) + 1 := by rw [depT_eq, if_pos hm1]
   have loopE : ∀ (xs : List GType) (i : Nat) (acc : Int) (H : AH), t.elem.drop i = xs → 0 ≤ acc → acc ≤ 64 → max acc (depEs (m - 1) xs) + 1 = depT m t →
     LoopP (S.f176_l2 Φ (.int .i64 m) (lstA GType.cells t.elem) (.int .i64 t.elem.length) Q) ([.int .i64 acc, .int .i64 i], H) := by
    intro xs
    induction xs with
    | nil =>
     intro i acc H hd ha0 ha1 ha
     have hle' := drop_nil_le hd
     refine LoopP.step ?_
     simp only [S.f176_l2, sl_zero, sl_succ, abin_lss, Do_of, Gd_true]
     rw [if_neg (by simp only [decide_eq_true_eq]; omega)]
     refine k1 _ _ ha0 ha1 ?_
     simp only [depEs] at ha
     omega
    | cons x xs ih =>
     intro i acc H hd ha0 ha1 ha
     obtain ⟨hlt, hx, hd'⟩ := drop_cons_lt hd
     have hmem := List.mem_of_getElem? hx
     refine LoopP.step ?_
     simp only [S.f176_l2, sl_zero, sl_succ, abin_lss, Do_of, Gd_true]
     rw [if_pos (by simp only [decide_eq_true_eq]; omega), lstA_addr hlt]
     simp only [Do_of]
     rw [elA_load GType.len (by decide) _ hx]
     simp only [Do_of, DoH_some, abox, if_true]
     rw [store_new _ _ _ 6 x.len x.scalar rfl]
     simp only [Do_of]
     rw [load_push, takeCells_whole x.len]
     simp only [Do_of, abin_sub, hsub]
     refine he hm1 x hmem _ _ ?_
     have hb := dep_le x (m - 1) (by omega)
     rw [max_int]
     simp only [Do_of, abin_add]
     rw [wrap_i64 (by omega) (by omega), show ((i : Int) + 1) = ((i + 1 : Nat) : Int) by simp]
     refine ih (i + 1) _ _ hd' (by omega) (by omega) ?_
     simp only [depEs] at ha
     omega
   have k3 : ∀ (acc : Int) (H : AH), 0 ≤ acc → acc ≤ 64 → max acc (depEs (m - 1) t.elem) + 1 = depT m t → JoinP (S.f176_k3 Φ (.int .i64 m) (.fptr t.cells) Q) [.int .i64 acc] H := by
    intro acc H ha0 ha1 ha
    simp only [JoinP_def, S.f176_k3, sl_zero, ty_addr, ty_l5, lstA_len', Do_of]
    exact loopE t.elem 0 acc H rfl ha0 ha1 ha
   have loopF : ∀ (xs : List GField) (i : Nat) (acc : Int) (H : AH), t.fields.drop i = xs → 0 ≤ acc → acc ≤ 64 → max (max acc (depFs (m - 1) xs)) (depEs (m - 1) t.elem) + 1 = depT m t →
     LoopP (S.f176_l4 Φ (.int .i64 m) (.fptr t.cells) (lstA GField.cells t.fields) (.int .i64 t.fields.length) Q) ([.int .i64 acc, .int .i64 i], H) := by
    intro xs
    induction xs with
    | nil =>
     intro i acc H hd ha0 ha1 ha
     have hle' := drop_nil_le hd
     refine LoopP.step ?_
     simp only [S.f176_l4, sl_zero, sl_succ, abin_lss, Do_of, Gd_true]
     rw [if_neg (by simp only [decide_eq_true_eq]; omega)]
     refine k3 _ _ ha0 ha1 ?_
     simp only [depFs] at ha
     omega
    | cons x xs ih =>
     intro i acc H hd ha0 ha1 ha
     obtain ⟨hlt, hx, hd'⟩ := drop_cons_lt hd
     have hmem := List.mem_of_getElem? hx
     refine LoopP.step ?_
     simp only [S.f176_l4, sl_zero, sl_succ, abin_lss, Do_of, Gd_true]
     rw [if_pos (by simp only [decide_eq_true_eq]; omega), lstA_addr hlt]
     simp only [Do_of]
     rw [elA_load GField.len (by decide) _ hx]
     simp only [Do_of, DoH_some, abox, if_true]
     rw [store_new _ _ _ 9 x.len x.scalar rfl]
     simp only [Do_of, afaddr, Nat.zero_add]
     rw [load_push, fd_t1]
     simp only [Do_of, abin_sub, hsub]
     refine hf hm1 x hmem _ _ ?_
     have hb := dep_le x.type (m - 1) (by omega)
     rw [max_int]
     simp only [Do_of, abin_add]
     rw [wrap_i64 (by omega) (by omega), show ((i : Int) + 1) = ((i + 1 : Nat) : Int) by simp]
     refine ih (i + 1) _ _ hd' (by omega) (by omega) ?_
     simp only [depFs, depF_eq] at ha
     omega
   simp only [ty_addr, ty_l3, lstA_len', Do_of]
   refine loopF t.fields 0 0 H rfl (by omega) (by omega) ?_
   omega
 · have hm1 : m = 1 := by simp at h; omega
   subst hm1
   refine k1 0 H (by omega) (by omega) ?_
   rw [depT_eq]; rfl
end
end Rb
