/- A part of the proof (part 5): see the last text. -/
import Derived.Test.YtaiaeodekdehhaaGreatDoorRb4
import Derived.Test.YtaiaeodekdehhaaGreatDoorRb2
import Derived.KernelRfl
import Derived.Test.YtaiaeodekdehhaaGreatDoorTie
import Derived.Test.YtaiaeodekdehhaaGreatDoorCards
/- Known calls, found by runs. By runs.py. -/
set_option linter.unusedVariables false
namespace Go.Proofs.YtaiaeodekdehhaaGreatDoor.rb
open Rb
noncomputable section
def RbM240 : List (Nat × List AV × AV) := [
  (115, [.str [118,97,114,32,116,104,114,101,97,100,32,115,116,114,117,99,116,32,117,110,105,111,110,32,112,97,99,107,101,100,32,117,56,32,117,49,54,32,117,51,50,32,117,54,52,32,97,56,32,97,49,54,32,97,51,50,32,97,54,52,32,97,49,50,56,32,108,101,116,32,115,101,116,32,119,114,105,116,101,32,115,116,111,114,101,32,108,111,97,100,50,32,115,116,111,114,101,50,32,102,101,110,99,101,32,105,102,32,101,108,115,101,32,119,104,105,108,101,32,112,114,105,110,116,32,114,101,97,100,32,108,111,97,100,32,97,100,100,32,115,119,97,112,32,99,97,115,32,114,108,120,32,97,99,113,32,114,101,108,32,115,99]], .lst .dead 34 [.str [118,97,114],.str [116,104,114,101,97,100],.str [115,116,114,117,99,116],.str [117,110,105,111,110],.str [112,97,99,107,101,100],.str [117,56],.str [117,49,54],.str [117,51,50],.str [117,54,52],.str [97,56],.str [97,49,54],.str [97,51,50],.str [97,54,52],.str [97,49,50,56],.str [108,101,116],.str [115,101,116],.str [119,114,105,116,101],.str [115,116,111,114,101],.str [108,111,97,100,50],.str [115,116,111,114,101,50],.str [102,101,110,99,101],.str [105,102],.str [101,108,115,101],.str [119,104,105,108,101],.str [112,114,105,110,116],.str [114,101,97,100],.str [108,111,97,100],.str [97,100,100],.str [115,119,97,112],.str [99,97,115],.str [114,108,120],.str [97,99,113],.str [114,101,108],.str [115,99]]),
  (192, [.lst .dead 34 [.str [118,97,114],.str [116,104,114,101,97,100],.str [115,116,114,117,99,116],.str [117,110,105,111,110],.str [112,97,99,107,101,100],.str [117,56],.str [117,49,54],.str [117,51,50],.str [117,54,52],.str [97,56],.str [97,49,54],.str [97,51,50],.str [97,54,52],.str [97,49,50,56],.str [108,101,116],.str [115,101,116],.str [119,114,105,116,101],.str [115,116,111,114,101],.str [108,111,97,100,50],.str [115,116,111,114,101,50],.str [102,101,110,99,101],.str [105,102],.str [101,108,115,101],.str [119,104,105,108,101],.str [112,114,105,110,116],.str [114,101,97,100],.str [108,111,97,100],.str [97,100,100],.str [115,119,97,112],.str [99,97,115],.str [114,108,120],.str [97,99,113],.str [114,101,108],.str [115,99]],.str [120]], .int .i64 (.negSucc 0)),
  (192, [.lst .dead 34 [.str [118,97,114],.str [116,104,114,101,97,100],.str [115,116,114,117,99,116],.str [117,110,105,111,110],.str [112,97,99,107,101,100],.str [117,56],.str [117,49,54],.str [117,51,50],.str [117,54,52],.str [97,56],.str [97,49,54],.str [97,51,50],.str [97,54,52],.str [97,49,50,56],.str [108,101,116],.str [115,101,116],.str [119,114,105,116,101],.str [115,116,111,114,101],.str [108,111,97,100,50],.str [115,116,111,114,101,50],.str [102,101,110,99,101],.str [105,102],.str [101,108,115,101],.str [119,104,105,108,101],.str [112,114,105,110,116],.str [114,101,97,100],.str [108,111,97,100],.str [97,100,100],.str [115,119,97,112],.str [99,97,115],.str [114,108,120],.str [97,99,113],.str [114,101,108],.str [115,99]],.str [97]], .int .i64 (.negSucc 0)),
  (192, [.lst .dead 34 [.str [118,97,114],.str [116,104,114,101,97,100],.str [115,116,114,117,99,116],.str [117,110,105,111,110],.str [112,97,99,107,101,100],.str [117,56],.str [117,49,54],.str [117,51,50],.str [117,54,52],.str [97,56],.str [97,49,54],.str [97,51,50],.str [97,54,52],.str [97,49,50,56],.str [108,101,116],.str [115,101,116],.str [119,114,105,116,101],.str [115,116,111,114,101],.str [108,111,97,100,50],.str [115,116,111,114,101,50],.str [102,101,110,99,101],.str [105,102],.str [101,108,115,101],.str [119,104,105,108,101],.str [112,114,105,110,116],.str [114,101,97,100],.str [108,111,97,100],.str [97,100,100],.str [115,119,97,112],.str [99,97,115],.str [114,108,120],.str [97,99,113],.str [114,101,108],.str [115,99]],.str [98]], .int .i64 (.negSucc 0)),
  (278, [.agg [.int .i64 (.ofNat 2),.int .i64 (.ofNat 16),.bool false,.lst .dead 0 [],.int .i64 (.ofNat 0),.lst .dead 0 []]], .bool true),
  (94, [.int .u8 (.ofNat 100)], .agg [.int .i64 (.ofNat 0),.int .i64 (.ofNat 5),.bool false,.int .u32 (.ofNat 0),.int .i64 (.ofNat 31)]),
  (97, [.agg [.int .i64 (.ofNat 0),.int .i64 (.ofNat 5),.bool false,.int .u32 (.ofNat 0),.int .i64 (.ofNat 31)]], .int .u32 (.ofNat 31)),
  (94, [.int .u8 (.ofNat 105)], .agg [.int .i64 (.ofNat 5),.int .i64 (.ofNat 16),.bool false,.int .u32 (.ofNat 0),.int .i64 (.ofNat 65535)]),
  (97, [.agg [.int .i64 (.ofNat 5),.int .i64 (.ofNat 16),.bool false,.int .u32 (.ofNat 0),.int .i64 (.ofNat 65535)]], .int .u32 (.ofNat 2097120)),
  (94, [.int .u8 (.ofNat 113)], .agg [.int .i64 (.ofNat 21),.int .i64 (.ofNat 2),.bool false,.int .u32 (.ofNat 0),.int .i64 (.ofNat 3)]),
  (96, [.agg [.int .i64 (.ofNat 21),.int .i64 (.ofNat 2),.bool false,.int .u32 (.ofNat 0),.int .i64 (.ofNat 3)],.int .i64 (.ofNat 0)], .bool true),
  (97, [.agg [.int .i64 (.ofNat 21),.int .i64 (.ofNat 2),.bool false,.int .u32 (.ofNat 0),.int .i64 (.ofNat 3)]], .int .u32 (.ofNat 6291456)),
  (93, [.int .i64 (.ofNat 7)], .agg [.int .u32 (.ofNat 2852126720),.str [100,110,109]]),
  (96, [.agg [.int .i64 (.ofNat 0),.int .i64 (.ofNat 5),.bool false,.int .u32 (.ofNat 0),.int .i64 (.ofNat 31)],.int .i64 (.ofNat 1)], .bool true),
  (94, [.int .u8 (.ofNat 110)], .agg [.int .i64 (.ofNat 5),.int .i64 (.ofNat 5),.bool false,.int .u32 (.ofNat 0),.int .i64 (.ofNat 31)]),
  (96, [.agg [.int .i64 (.ofNat 5),.int .i64 (.ofNat 5),.bool false,.int .u32 (.ofNat 0),.int .i64 (.ofNat 31)],.int .i64 (.ofNat 31)], .bool true),
  (97, [.agg [.int .i64 (.ofNat 5),.int .i64 (.ofNat 5),.bool false,.int .u32 (.ofNat 0),.int .i64 (.ofNat 31)]], .int .u32 (.ofNat 992)),
  (94, [.int .u8 (.ofNat 109)], .agg [.int .i64 (.ofNat 16),.int .i64 (.ofNat 5),.bool false,.int .u32 (.ofNat 0),.int .i64 (.ofNat 31)]),
  (96, [.agg [.int .i64 (.ofNat 16),.int .i64 (.ofNat 5),.bool false,.int .u32 (.ofNat 0),.int .i64 (.ofNat 31)],.int .i64 (.ofNat 0)], .bool true),
  (97, [.agg [.int .i64 (.ofNat 16),.int .i64 (.ofNat 5),.bool false,.int .u32 (.ofNat 0),.int .i64 (.ofNat 31)]], .int .u32 (.ofNat 2031616)),
  (96, [.agg [.int .i64 (.ofNat 0),.int .i64 (.ofNat 5),.bool false,.int .u32 (.ofNat 0),.int .i64 (.ofNat 31)],.int .i64 (.ofNat 2)], .bool true),
  (93, [.int .i64 (.ofNat 26)], .agg [.int .u32 (.ofNat 3363799040),.str [100,97,101]]),
  (96, [.agg [.int .i64 (.ofNat 0),.int .i64 (.ofNat 5),.bool false,.int .u32 (.ofNat 0),.int .i64 (.ofNat 31)],.int .i64 (.ofNat 14)], .bool true),
  (94, [.int .u8 (.ofNat 97)], .agg [.int .i64 (.ofNat 5),.int .i64 (.ofNat 5),.bool false,.int .u32 (.ofNat 0),.int .i64 (.ofNat 30)]),
  (96, [.agg [.int .i64 (.ofNat 5),.int .i64 (.ofNat 5),.bool false,.int .u32 (.ofNat 0),.int .i64 (.ofNat 30)],.int .i64 (.ofNat 0)], .bool true),
  (97, [.agg [.int .i64 (.ofNat 5),.int .i64 (.ofNat 5),.bool false,.int .u32 (.ofNat 0),.int .i64 (.ofNat 30)]], .int .u32 (.ofNat 992)),
  (97, [.agg [.int .i64 (.ofNat 10),.int .i64 (.ofNat 5),.bool false,.int .u32 (.ofNat 0),.int .i64 (.ofNat 31)]], .int .u32 (.ofNat 31744)),
  (93, [.int .i64 (.ofNat 27)], .agg [.int .u32 (.ofNat 3357540352),.str [100,97,101,109]]),
  (93, [.int .i64 (.ofNat 16)], .agg [.int .u32 (.ofNat 3036676096),.str [100,120]]),
  (94, [.int .u8 (.ofNat 120)], .agg [.int .i64 (.ofNat 5),.int .i64 (.ofNat 19),.bool true,.int .u32 (.ofNat 0),.int .i64 (.ofNat 0)]),
  (97, [.agg [.int .i64 (.ofNat 5),.int .i64 (.ofNat 19),.bool true,.int .u32 (.ofNat 0),.int .i64 (.ofNat 0)]], .int .u32 (.ofNat 16777184)),
  (96, [.agg [.int .i64 (.ofNat 5),.int .i64 (.ofNat 5),.bool false,.int .u32 (.ofNat 0),.int .i64 (.ofNat 31)],.int .i64 (.ofNat 0)], .bool true),
  (96, [.agg [.int .i64 (.ofNat 16),.int .i64 (.ofNat 5),.bool false,.int .u32 (.ofNat 0),.int .i64 (.ofNat 31)],.int .i64 (.ofNat 31)], .bool true),
  (94, [.int .u8 (.ofNat 115)], .agg [.int .i64 (.ofNat 30),.int .i64 (.ofNat 2),.bool false,.int .u32 (.ofNat 0),.int .i64 (.ofNat 3)]),
  (97, [.agg [.int .i64 (.ofNat 30),.int .i64 (.ofNat 2),.bool false,.int .u32 (.ofNat 0),.int .i64 (.ofNat 3)]], .int .u32 (.ofNat 3221225472)),
  (96, [.agg [.int .i64 (.ofNat 30),.int .i64 (.ofNat 2),.bool false,.int .u32 (.ofNat 0),.int .i64 (.ofNat 3)],.int .i64 (.ofNat 3)], .bool true),
  (59, [.agg [.int .i64 (.ofNat 65536),.int .i64 (.ofNat 16)]], .bool true)]
def RbM241 : List (Nat × List AV × AV) := [
  (15, [.str [118,97,114,32,120,32,97,49,50,56,32,59,32,116,104,114,101,97,100,32,123,32,108,101,116,32,97,32,61,32,48,32,59,32,108,101,116,32,98,32,61,32,48,32,59,32,108,111,97,100,50,32,97,99,113,32,120,32,97,32,98,32,59,32,125]], .tup [.agg [.lst .dead 1 [.str [120],.int .i64 (.ofNat 2),.int .i64 (.ofNat 16),.bool false,.lst .dead 0 [],.int .i64 (.ofNat 0),.lst .dead 0 []],.lst .dead 1 [.lst .dead 3 [.int .i64 (.ofNat 1),.int .i64 (.ofNat 1),.str [97],.str [],.int .i64 (.ofNat 0),.str [],.lst .dead 0 [],.lst .dead 1 [.int .i64 (.ofNat 1),.int .u64 (.ofNat 0),.str [],.int .i64 (.ofNat 0),.int .i64 (.ofNat 0),.str [],.lst .dead 0 [],.lst .dead 0 []],.lst .dead 0 [],.lst .dead 0 [],.int .i64 (.ofNat 1),.int .i64 (.ofNat 1),.str [98],.str [],.int .i64 (.ofNat 0),.str [],.lst .dead 0 [],.lst .dead 1 [.int .i64 (.ofNat 1),.int .u64 (.ofNat 0),.str [],.int .i64 (.ofNat 0),.int .i64 (.ofNat 0),.str [],.lst .dead 0 [],.lst .dead 0 []],.lst .dead 0 [],.lst .dead 0 [],.int .i64 (.ofNat 5),.int .i64 (.ofNat 1),.str [97],.str [98],.int .i64 (.ofNat 2),.str [120],.lst .dead 0 [],.lst .dead 0 [],.lst .dead 0 [],.lst .dead 0 []]]],.agg [.int .i64 (.ofNat 0),.int .i64 (.ofNat 0)]]),
  (131, [.agg [.int .i64 (.ofNat 2),.int .i64 (.ofNat 16),.bool false,.lst .dead 0 [],.int .i64 (.ofNat 0),.lst .dead 0 []]], .int .i64 (.ofNat 0)),
  (48, [.agg [.int .i64 (.ofNat 1),.int .i64 (.ofNat 28),.int .i64 (.ofNat 0),.int .i64 (.ofNat 0),.int .i64 (.ofNat 0),.int .i64 (.ofNat 0),.int .i64 (.ofNat 16)]], .tup [.int .u32 (.ofNat 3531604508),.int .i64 (.ofNat 0)]),
  (48, [.agg [.int .i64 (.ofNat 2),.int .i64 (.ofNat 28),.int .i64 (.ofNat 0),.int .i64 (.ofNat 0),.int .i64 (.ofNat 1),.int .i64 (.ofNat 0),.int .i64 (.ofNat 1)]], .tup [.int .u32 (.ofNat 4070572092),.int .i64 (.ofNat 0)]),
  (48, [.agg [.int .i64 (.ofNat 1),.int .i64 (.ofNat 0),.int .i64 (.ofNat 0),.int .i64 (.ofNat 0),.int .i64 (.ofNat 0),.int .i64 (.ofNat 0),.int .i64 (.ofNat 0)]], .tup [.int .u32 (.ofNat 3531603968),.int .i64 (.ofNat 0)]),
  (48, [.agg [.int .i64 (.ofNat 7),.int .i64 (.ofNat 1),.int .i64 (.ofNat 31),.int .i64 (.ofNat 0),.int .i64 (.ofNat 0),.int .i64 (.ofNat 0),.int .i64 (.ofNat 0)]], .tup [.int .u32 (.ofNat 2852127713),.int .i64 (.ofNat 0)]),
  (48, [.agg [.int .i64 (.ofNat 7),.int .i64 (.ofNat 2),.int .i64 (.ofNat 31),.int .i64 (.ofNat 0),.int .i64 (.ofNat 0),.int .i64 (.ofNat 0),.int .i64 (.ofNat 0)]], .tup [.int .u32 (.ofNat 2852127714),.int .i64 (.ofNat 0)]),
  (48, [.agg [.int .i64 (.ofNat 1),.int .i64 (.ofNat 0),.int .i64 (.ofNat 0),.int .i64 (.ofNat 0),.int .i64 (.ofNat 1),.int .i64 (.ofNat 0),.int .i64 (.ofNat 1)]], .tup [.int .u32 (.ofNat 3533701152),.int .i64 (.ofNat 0)]),
  (48, [.agg [.int .i64 (.ofNat 26),.int .i64 (.ofNat 14),.int .i64 (.ofNat 0),.int .i64 (.ofNat 0),.int .i64 (.ofNat 12),.int .i64 (.ofNat 0),.int .i64 (.ofNat 0)]], .tup [.int .u32 (.ofNat 3363811342),.int .i64 (.ofNat 0)]),
  (48, [.agg [.int .i64 (.ofNat 27),.int .i64 (.ofNat 14),.int .i64 (.ofNat 0),.int .i64 (.ofNat 13),.int .i64 (.ofNat 12),.int .i64 (.ofNat 0),.int .i64 (.ofNat 0)]], .tup [.int .u32 (.ofNat 3358404622),.int .i64 (.ofNat 0)]),
  (48, [.agg [.int .i64 (.ofNat 16),.int .i64 (.ofNat 13),.int .i64 (.ofNat 0),.int .i64 (.ofNat 0),.int .i64 (.ofNat 0),.int .i64 (.ofNat 0),.int .i64 (.negSucc 1)]], .tup [.int .u32 (.ofNat 3053453261),.int .i64 (.ofNat 0)]),
  (48, [.agg [.int .i64 (.ofNat 7),.int .i64 (.ofNat 3),.int .i64 (.ofNat 31),.int .i64 (.ofNat 14),.int .i64 (.ofNat 0),.int .i64 (.ofNat 0),.int .i64 (.ofNat 0)]], .tup [.int .u32 (.ofNat 2853045219),.int .i64 (.ofNat 0)]),
  (48, [.agg [.int .i64 (.ofNat 7),.int .i64 (.ofNat 4),.int .i64 (.ofNat 31),.int .i64 (.ofNat 12),.int .i64 (.ofNat 0),.int .i64 (.ofNat 0),.int .i64 (.ofNat 0)]], .tup [.int .u32 (.ofNat 2852914148),.int .i64 (.ofNat 0)]),
  (48, [.agg [.int .i64 (.ofNat 7),.int .i64 (.ofNat 1),.int .i64 (.ofNat 31),.int .i64 (.ofNat 3),.int .i64 (.ofNat 0),.int .i64 (.ofNat 0),.int .i64 (.ofNat 0)]], .tup [.int .u32 (.ofNat 2852324321),.int .i64 (.ofNat 0)]),
  (48, [.agg [.int .i64 (.ofNat 7),.int .i64 (.ofNat 2),.int .i64 (.ofNat 31),.int .i64 (.ofNat 4),.int .i64 (.ofNat 0),.int .i64 (.ofNat 0),.int .i64 (.ofNat 0)]], .tup [.int .u32 (.ofNat 2852389858),.int .i64 (.ofNat 0)]),
  (50, [.int .u32 (.ofNat 4070572092)], .tup [.agg [.int .i64 (.ofNat 2),.int .i64 (.ofNat 28),.int .i64 (.ofNat 0),.int .i64 (.ofNat 0),.int .i64 (.ofNat 1),.int .i64 (.ofNat 0),.int .i64 (.ofNat 1)],.int .i64 (.ofNat 0)]),
  (99, [.int .i64 (.ofNat 1),.int .u32 (.ofNat 3531603968)], .tup [.agg [.int .i64 (.ofNat 1),.int .i64 (.ofNat 0),.int .i64 (.ofNat 0),.int .i64 (.ofNat 0),.int .i64 (.ofNat 0),.int .i64 (.ofNat 0),.int .i64 (.ofNat 0)],.bool true]),
  (158, [.agg [.int .i64 (.ofNat 0),.int .i64 (.ofNat 5),.bool false,.int .u32 (.ofNat 0),.int .i64 (.ofNat 31)],.int .u8 (.ofNat 100),.int .u32 (.ofNat 2852127713)], .tup [.int .i64 (.ofNat 1),.bool true]),
  (158, [.agg [.int .i64 (.ofNat 0),.int .i64 (.ofNat 5),.bool false,.int .u32 (.ofNat 0),.int .i64 (.ofNat 31)],.int .u8 (.ofNat 100),.int .u32 (.ofNat 2852127714)], .tup [.int .i64 (.ofNat 2),.bool true]),
  (158, [.agg [.int .i64 (.ofNat 0),.int .i64 (.ofNat 5),.bool false,.int .u32 (.ofNat 0),.int .i64 (.ofNat 31)],.int .u8 (.ofNat 100),.int .u32 (.ofNat 3363811342)], .tup [.int .i64 (.ofNat 14),.bool true]),
  (158, [.agg [.int .i64 (.ofNat 5),.int .i64 (.ofNat 5),.bool false,.int .u32 (.ofNat 0),.int .i64 (.ofNat 31)],.int .u8 (.ofNat 110),.int .u32 (.ofNat 3363811342)], .tup [.int .i64 (.ofNat 0),.bool true]),
  (158, [.agg [.int .i64 (.ofNat 16),.int .i64 (.ofNat 5),.bool false,.int .u32 (.ofNat 0),.int .i64 (.ofNat 31)],.int .u8 (.ofNat 109),.int .u32 (.ofNat 3363811342)], .tup [.int .i64 (.ofNat 31),.bool true]),
  (158, [.agg [.int .i64 (.ofNat 5),.int .i64 (.ofNat 5),.bool false,.int .u32 (.ofNat 0),.int .i64 (.ofNat 30)],.int .u8 (.ofNat 97),.int .u32 (.ofNat 3363811342)], .tup [.int .i64 (.ofNat 0),.bool true]),
  (158, [.agg [.int .i64 (.ofNat 30),.int .i64 (.ofNat 2),.bool false,.int .u32 (.ofNat 0),.int .i64 (.ofNat 3)],.int .u8 (.ofNat 115),.int .u32 (.ofNat 3363811342)], .tup [.int .i64 (.ofNat 3),.bool true]),
  (158, [.agg [.int .i64 (.ofNat 0),.int .i64 (.ofNat 5),.bool false,.int .u32 (.ofNat 0),.int .i64 (.ofNat 31)],.int .u8 (.ofNat 100),.int .u32 (.ofNat 3358404622)], .tup [.int .i64 (.ofNat 14),.bool true]),
  (158, [.agg [.int .i64 (.ofNat 5),.int .i64 (.ofNat 5),.bool false,.int .u32 (.ofNat 0),.int .i64 (.ofNat 31)],.int .u8 (.ofNat 110),.int .u32 (.ofNat 3358404622)], .tup [.int .i64 (.ofNat 0),.bool true]),
  (158, [.agg [.int .i64 (.ofNat 16),.int .i64 (.ofNat 5),.bool false,.int .u32 (.ofNat 0),.int .i64 (.ofNat 31)],.int .u8 (.ofNat 109),.int .u32 (.ofNat 3358404622)], .tup [.int .i64 (.ofNat 13),.bool true]),
  (158, [.agg [.int .i64 (.ofNat 5),.int .i64 (.ofNat 5),.bool false,.int .u32 (.ofNat 0),.int .i64 (.ofNat 30)],.int .u8 (.ofNat 97),.int .u32 (.ofNat 3358404622)], .tup [.int .i64 (.ofNat 0),.bool true]),
  (158, [.agg [.int .i64 (.ofNat 30),.int .i64 (.ofNat 2),.bool false,.int .u32 (.ofNat 0),.int .i64 (.ofNat 3)],.int .u8 (.ofNat 115),.int .u32 (.ofNat 3358404622)], .tup [.int .i64 (.ofNat 3),.bool true]),
  (158, [.agg [.int .i64 (.ofNat 0),.int .i64 (.ofNat 5),.bool false,.int .u32 (.ofNat 0),.int .i64 (.ofNat 31)],.int .u8 (.ofNat 100),.int .u32 (.ofNat 3053453261)], .tup [.int .i64 (.ofNat 13),.bool true]),
  (158, [.agg [.int .i64 (.ofNat 5),.int .i64 (.ofNat 5),.bool false,.int .u32 (.ofNat 0),.int .i64 (.ofNat 31)],.int .u8 (.ofNat 110),.int .u32 (.ofNat 3053453261)], .tup [.int .i64 (.ofNat 30),.bool true]),
  (158, [.agg [.int .i64 (.ofNat 16),.int .i64 (.ofNat 5),.bool false,.int .u32 (.ofNat 0),.int .i64 (.ofNat 31)],.int .u8 (.ofNat 109),.int .u32 (.ofNat 3053453261)], .tup [.int .i64 (.ofNat 31),.bool true]),
  (158, [.agg [.int .i64 (.ofNat 0),.int .i64 (.ofNat 5),.bool false,.int .u32 (.ofNat 0),.int .i64 (.ofNat 31)],.int .u8 (.ofNat 100),.int .u32 (.ofNat 2853045219)], .tup [.int .i64 (.ofNat 3),.bool true]),
  (158, [.agg [.int .i64 (.ofNat 0),.int .i64 (.ofNat 5),.bool false,.int .u32 (.ofNat 0),.int .i64 (.ofNat 31)],.int .u8 (.ofNat 100),.int .u32 (.ofNat 2852914148)], .tup [.int .i64 (.ofNat 4),.bool true]),
  (158, [.agg [.int .i64 (.ofNat 0),.int .i64 (.ofNat 5),.bool false,.int .u32 (.ofNat 0),.int .i64 (.ofNat 31)],.int .u8 (.ofNat 100),.int .u32 (.ofNat 2852324321)], .tup [.int .i64 (.ofNat 1),.bool true]),
  (158, [.agg [.int .i64 (.ofNat 0),.int .i64 (.ofNat 5),.bool false,.int .u32 (.ofNat 0),.int .i64 (.ofNat 31)],.int .u8 (.ofNat 100),.int .u32 (.ofNat 2852389858)], .tup [.int .i64 (.ofNat 2),.bool true]),
  (158, [.agg [.int .i64 (.ofNat 0),.int .i64 (.ofNat 5),.bool false,.int .u32 (.ofNat 0),.int .i64 (.ofNat 31)],.int .u8 (.ofNat 100),.int .u32 (.ofNat 3556769793)], .tup [.int .i64 (.ofNat 1),.bool true]),
  (158, [.agg [.int .i64 (.ofNat 5),.int .i64 (.ofNat 5),.bool false,.int .u32 (.ofNat 0),.int .i64 (.ofNat 31)],.int .u8 (.ofNat 110),.int .u32 (.ofNat 3556769793)], .tup [.int .i64 (.ofNat 0),.bool true]),
  (158, [.agg [.int .i64 (.ofNat 16),.int .i64 (.ofNat 5),.bool false,.int .u32 (.ofNat 0),.int .i64 (.ofNat 31)],.int .u8 (.ofNat 109),.int .u32 (.ofNat 3556769793)], .tup [.int .i64 (.ofNat 0),.bool true]),
  (158, [.agg [.int .i64 (.ofNat 5),.int .i64 (.ofNat 5),.bool false,.int .u32 (.ofNat 0),.int .i64 (.ofNat 30)],.int .u8 (.ofNat 97),.int .u32 (.ofNat 3556769793)], .tup [.int .i64 (.ofNat 0),.bool true]),
  (158, [.agg [.int .i64 (.ofNat 30),.int .i64 (.ofNat 2),.bool false,.int .u32 (.ofNat 0),.int .i64 (.ofNat 3)],.int .u8 (.ofNat 115),.int .u32 (.ofNat 3556769793)], .tup [.int .i64 (.ofNat 3),.bool true]),
  (29, [.agg [.int .i64 (.ofNat 65536),.int .i64 (.ofNat 16)]], .agg [.int .i64 (.ofNat 65536),.int .i64 (.ofNat 65552)])]
def RbM242 : List (Nat × List AV × AV) := [
  (77, [.agg [.int .i64 (.ofNat 2),.int .i64 (.ofNat 16),.bool false,.lst .dead 0 [],.int .i64 (.ofNat 0),.lst .dead 0 []]], .tup [.agg [.int .i64 (.ofNat 16),.int .i64 (.ofNat 16)],.int .i64 (.ofNat 0)]),
  (50, [.int .u32 (.ofNat 2852127713)], .tup [.agg [.int .i64 (.ofNat 7),.int .i64 (.ofNat 1),.int .i64 (.ofNat 31),.int .i64 (.ofNat 0),.int .i64 (.ofNat 0),.int .i64 (.ofNat 0),.int .i64 (.ofNat 0)],.int .i64 (.ofNat 0)]),
  (50, [.int .u32 (.ofNat 2852127714)], .tup [.agg [.int .i64 (.ofNat 7),.int .i64 (.ofNat 2),.int .i64 (.ofNat 31),.int .i64 (.ofNat 0),.int .i64 (.ofNat 0),.int .i64 (.ofNat 0),.int .i64 (.ofNat 0)],.int .i64 (.ofNat 0)]),
  (99, [.int .i64 (.ofNat 17),.int .u32 (.ofNat 3363811342)], .tup [.agg [.int .i64 (.ofNat 17),.int .i64 (.ofNat 14),.int .i64 (.ofNat 0),.int .i64 (.ofNat 0),.int .i64 (.ofNat 0),.int .i64 (.ofNat 3),.int .i64 (.ofNat 4076)],.bool false]),
  (99, [.int .i64 (.ofNat 18),.int .u32 (.ofNat 3363811342)], .tup [.agg [.int .i64 (.ofNat 18),.int .i64 (.ofNat 14),.int .i64 (.ofNat 0),.int .i64 (.ofNat 0),.int .i64 (.ofNat 0),.int .i64 (.ofNat 3),.int .i64 (.ofNat 4076)],.bool false]),
  (99, [.int .i64 (.ofNat 17),.int .u32 (.ofNat 3358404622)], .tup [.agg [.int .i64 (.ofNat 17),.int .i64 (.ofNat 14),.int .i64 (.ofNat 0),.int .i64 (.ofNat 0),.int .i64 (.ofNat 0),.int .i64 (.ofNat 3),.int .i64 (.ofNat 2892)],.bool false]),
  (99, [.int .i64 (.ofNat 18),.int .u32 (.ofNat 3358404622)], .tup [.agg [.int .i64 (.ofNat 18),.int .i64 (.ofNat 14),.int .i64 (.ofNat 0),.int .i64 (.ofNat 0),.int .i64 (.ofNat 0),.int .i64 (.ofNat 3),.int .i64 (.ofNat 2892)],.bool false]),
  (50, [.int .u32 (.ofNat 3053453261)], .tup [.agg [.int .i64 (.ofNat 16),.int .i64 (.ofNat 13),.int .i64 (.ofNat 0),.int .i64 (.ofNat 0),.int .i64 (.ofNat 0),.int .i64 (.ofNat 0),.int .i64 (.negSucc 1)],.int .i64 (.ofNat 0)]),
  (50, [.int .u32 (.ofNat 2853045219)], .tup [.agg [.int .i64 (.ofNat 7),.int .i64 (.ofNat 3),.int .i64 (.ofNat 31),.int .i64 (.ofNat 14),.int .i64 (.ofNat 0),.int .i64 (.ofNat 0),.int .i64 (.ofNat 0)],.int .i64 (.ofNat 0)]),
  (50, [.int .u32 (.ofNat 2852914148)], .tup [.agg [.int .i64 (.ofNat 7),.int .i64 (.ofNat 4),.int .i64 (.ofNat 31),.int .i64 (.ofNat 12),.int .i64 (.ofNat 0),.int .i64 (.ofNat 0),.int .i64 (.ofNat 0)],.int .i64 (.ofNat 0)]),
  (50, [.int .u32 (.ofNat 2852324321)], .tup [.agg [.int .i64 (.ofNat 7),.int .i64 (.ofNat 1),.int .i64 (.ofNat 31),.int .i64 (.ofNat 3),.int .i64 (.ofNat 0),.int .i64 (.ofNat 0),.int .i64 (.ofNat 0)],.int .i64 (.ofNat 0)]),
  (50, [.int .u32 (.ofNat 2852389858)], .tup [.agg [.int .i64 (.ofNat 7),.int .i64 (.ofNat 2),.int .i64 (.ofNat 31),.int .i64 (.ofNat 4),.int .i64 (.ofNat 0),.int .i64 (.ofNat 0),.int .i64 (.ofNat 0)],.int .i64 (.ofNat 0)]),
  (99, [.int .i64 (.ofNat 17),.int .u32 (.ofNat 3556769793)], .tup [.agg [.int .i64 (.ofNat 17),.int .i64 (.ofNat 1),.int .i64 (.ofNat 0),.int .i64 (.ofNat 0),.int .i64 (.ofNat 0),.int .i64 (.ofNat 3),.int .i64 (.ofNat 0)],.bool false]),
  (99, [.int .i64 (.ofNat 18),.int .u32 (.ofNat 3556769793)], .tup [.agg [.int .i64 (.ofNat 18),.int .i64 (.ofNat 1),.int .i64 (.ofNat 0),.int .i64 (.ofNat 0),.int .i64 (.ofNat 0),.int .i64 (.ofNat 3),.int .i64 (.ofNat 0)],.bool false])]
def RbM243 : List (Nat × List AV × AV) := [
  (16, [.agg [.lst .dead 1 [.str [120],.int .i64 (.ofNat 2),.int .i64 (.ofNat 16),.bool false,.lst .dead 0 [],.int .i64 (.ofNat 0),.lst .dead 0 []],.lst .dead 1 [.lst .dead 3 [.int .i64 (.ofNat 1),.int .i64 (.ofNat 1),.str [97],.str [],.int .i64 (.ofNat 0),.str [],.lst .dead 0 [],.lst .dead 1 [.int .i64 (.ofNat 1),.int .u64 (.ofNat 0),.str [],.int .i64 (.ofNat 0),.int .i64 (.ofNat 0),.str [],.lst .dead 0 [],.lst .dead 0 []],.lst .dead 0 [],.lst .dead 0 [],.int .i64 (.ofNat 1),.int .i64 (.ofNat 1),.str [98],.str [],.int .i64 (.ofNat 0),.str [],.lst .dead 0 [],.lst .dead 1 [.int .i64 (.ofNat 1),.int .u64 (.ofNat 0),.str [],.int .i64 (.ofNat 0),.int .i64 (.ofNat 0),.str [],.lst .dead 0 [],.lst .dead 0 []],.lst .dead 0 [],.lst .dead 0 [],.int .i64 (.ofNat 5),.int .i64 (.ofNat 1),.str [97],.str [98],.int .i64 (.ofNat 2),.str [120],.lst .dead 0 [],.lst .dead 0 [],.lst .dead 0 [],.lst .dead 0 []]]]], .agg [.int .i64 (.ofNat 0),.int .i64 (.ofNat 0)]),
  (50, [.int .u32 (.ofNat 3363811342)], .tup [.agg [.int .i64 (.ofNat 26),.int .i64 (.ofNat 14),.int .i64 (.ofNat 0),.int .i64 (.ofNat 0),.int .i64 (.ofNat 12),.int .i64 (.ofNat 0),.int .i64 (.ofNat 0)],.int .i64 (.ofNat 0)]),
  (50, [.int .u32 (.ofNat 3358404622)], .tup [.agg [.int .i64 (.ofNat 27),.int .i64 (.ofNat 14),.int .i64 (.ofNat 0),.int .i64 (.ofNat 13),.int .i64 (.ofNat 12),.int .i64 (.ofNat 0),.int .i64 (.ofNat 0)],.int .i64 (.ofNat 0)]),
  (50, [.int .u32 (.ofNat 3556769793)], .tup [.agg [.int .i64 (.ofNat 31),.int .i64 (.ofNat 0),.int .i64 (.ofNat 0),.int .i64 (.ofNat 0),.int .i64 (.ofNat 0),.int .i64 (.ofNat 0),.int .i64 (.ofNat 0)],.int .i64 (.ofNat 0)])]
theorem RbM240_run : forced (allW (runG []) RbM240) = true := by kernel_rfl
theorem RbM240_ok : MemoOK (ACall C) (memL (RbM240 ++ [])) := memL_appW gtC (runG_ok memL_nil) memL_nil (of_forced RbM240_run)
theorem RbM241_run : forced (allW (runG (RbM240 ++ [])) RbM241) = true := by kernel_rfl
theorem RbM241_ok : MemoOK (ACall C) (memL (RbM241 ++ (RbM240 ++ []))) := memL_appW gtC (runG_ok RbM240_ok) RbM240_ok (of_forced RbM241_run)
theorem RbM242_run : forced (allW (runG (RbM241 ++ (RbM240 ++ []))) RbM242) = true := by kernel_rfl
theorem RbM242_ok : MemoOK (ACall C) (memL (RbM242 ++ (RbM241 ++ (RbM240 ++ [])))) := memL_appW gtC (runG_ok RbM241_ok) RbM241_ok (of_forced RbM242_run)
theorem RbM243_run : forced (allW (runG (RbM242 ++ (RbM241 ++ (RbM240 ++ [])))) RbM243) = true := by kernel_rfl
theorem RbM243_ok : MemoOK (ACall C) (memL (RbM243 ++ (RbM242 ++ (RbM241 ++ (RbM240 ++ []))))) := memL_appW gtC (runG_ok RbM242_ok) RbM242_ok (of_forced RbM243_run)
end
end Go.Proofs.YtaiaeodekdehhaaGreatDoor.rb

/- Known calls, found by runs. By runs.py. -/
set_option linter.unusedVariables false
namespace Go.Proofs.YtaiaeodekdehhaaGreatDoor.rb
open Rb
noncomputable section
def RbM244 : List (Nat × List AV × AV) := [
  (5, [], .bool true)]
theorem RbM244_run : forced (allW (runG (RbM243 ++ (RbM242 ++ (RbM241 ++ (RbM240 ++ []))))) RbM244) = true := by kernel_rfl
theorem RbM244_ok : MemoOK (ACall C) (memL (RbM244 ++ (RbM243 ++ (RbM242 ++ (RbM241 ++ (RbM240 ++ [])))))) := memL_appW gtC (runG_ok RbM243_ok) RbM243_ok (of_forced RbM244_run)
theorem RbM24_root0 : forced (allW (runG (RbM244 ++ (RbM243 ++ (RbM242 ++ (RbM241 ++ (RbM240 ++ [])))))) [(5, [], .bool true)]) = true := by kernel_rfl
theorem RbM24_rootok0 : MemoOK (ACall C) (memL [(5, [], .bool true)]) := memL_appW gtC (runG_ok RbM244_ok) memL_nil (N := [(5, [], .bool true)]) (of_forced RbM24_root0)
end
end Go.Proofs.YtaiaeodekdehhaaGreatDoor.rb

/- The functions' keys. By spec.py. -/
namespace Rb.K
abbrev rabbetlaw24_PairAlike : Nat := 3
abbrev rabbetref21_Sound : Nat := 4
abbrev rabbetlaw24_awake : Nat := 5
abbrev pair_Alike : Nat := 6
abbrev rabbetref21_event : Nat := 7
abbrev rabbetref21_paired : Nat := 8
abbrev rabbetref21_has : Nat := 9
abbrev span_Meets : Nat := 14
abbrev span_of : Nat := 29
abbrev span_bytes_both : Nat := 30
abbrev span_bytes_empty : Nat := 31
abbrev span_sound : Nat := 59
end Rb.K

/- Functions in the small language, and what they mean. By spec.py. -/
set_option linter.unusedVariables false
namespace Rb.S
open Go

/-! rabbet/rabbetlaw24.PairAlike -/
def rabbetlaw24_PairAlike_k1 (Φ : Calls') (s19 : List AV × AH) (L20 : (List AV × AH) → Prop) (Q : Post) : List AV → AH → Prop := fun j22 H23 =>
 Do (abin .add (sl s19.1 1) (.int .i64 1)) fun x72 =>
 L20 ([(sl j22 0), x72], H23)
def rabbetlaw24_PairAlike_k2 (Φ : Calls') (x34 : AV) (x36 : AV) (s19 : List AV × AH) (L20 : (List AV × AH) → Prop) (Q : Post) : List AV → AH → Prop := fun j40 H41 =>
 Gd3 (sl s19.1 0) true (
 Do (aun .not (sl j40 0)) fun x68 =>
 Gd3 x68 false (
 Do (aload H41 2 true x34) fun x69 =>
 Do (aload H41 2 true x36) fun x70 =>
 Do (aeqAgg false [.n, .n] x69 x70) fun x71 =>
 JoinP (rabbetlaw24_PairAlike_k1 Φ s19 L20 Q) [x71] H41) (
 JoinP (rabbetlaw24_PairAlike_k1 Φ s19 L20 Q) [(.bool true)] H41) (
 False)) (
 JoinP (rabbetlaw24_PairAlike_k1 Φ s19 L20 Q) [(.bool false)] H41) (
 False)
def rabbetlaw24_PairAlike_k3 (Φ : Calls') (x34 : AV) (x36 : AV) (s19 : List AV × AH) (L20 : (List AV × AH) → Prop) (Q : Post) : List AV → AH → Prop := fun j50 H51 =>
 Gd3 (sl j50 0) true (
 Do (afaddr 0 x36) fun x60 =>
 Do (aload H51 1 false x60) fun x61 =>
 Do (afaddr 0 x34) fun x62 =>
 Do (aload H51 1 false x62) fun x63 =>
 Do (afaddr 1 x34) fun x64 =>
 Do (aload H51 1 false x64) fun x65 =>
 Do (abin .add x63 x65) fun x66 =>
 Do (abin .lss x61 x66) fun x67 =>
 JoinP (rabbetlaw24_PairAlike_k2 Φ x34 x36 s19 L20 Q) [x67] H51) (
 JoinP (rabbetlaw24_PairAlike_k2 Φ x34 x36 s19 L20 Q) [(.bool false)] H51) (
 False)
def rabbetlaw24_PairAlike_k4 (Φ : Calls') (x34 : AV) (x36 : AV) (s19 : List AV × AH) (L20 : (List AV × AH) → Prop) (Q : Post) : List AV → AH → Prop := fun j42 H43 =>
 Gd3 (sl j42 0) true (
 Do (afaddr 0 x34) fun x52 =>
 Do (aload H43 1 false x52) fun x53 =>
 Do (afaddr 0 x36) fun x54 =>
 Do (aload H43 1 false x54) fun x55 =>
 Do (afaddr 1 x36) fun x56 =>
 Do (aload H43 1 false x56) fun x57 =>
 Do (abin .add x55 x57) fun x58 =>
 Do (abin .lss x53 x58) fun x59 =>
 JoinP (rabbetlaw24_PairAlike_k3 Φ x34 x36 s19 L20 Q) [x59] H43) (
 JoinP (rabbetlaw24_PairAlike_k3 Φ x34 x36 s19 L20 Q) [(.bool false)] H43) (
 False)
def rabbetlaw24_PairAlike_k5 (Φ : Calls') (s11 : List AV × AH) (L12 : (List AV × AH) → Prop) (Q : Post) : List AV → AH → Prop := fun j17 H18 =>
 Do (abin .add (sl s11.1 1) (.int .i64 1)) fun x73 =>
 L12 ([(sl j17 0), x73], H18)
def rabbetlaw24_PairAlike_l6 (Φ : Calls') (x1 : AV) (s11 : List AV × AH) (L12 : (List AV × AH) → Prop) (Q : Post) : (List AV × AH) → ((List AV × AH) → Prop) → Prop := fun s19 L20 =>
 Do (abin .lss (sl s19.1 1) (sl s11.1 1)) fun x21 =>
 Gd x21 true (
 Do (afaddr 0 x1) fun x24 =>
 Do (aload s19.2 1 false x24) fun x25 =>
 Do (aiaddr none 11 x25 (sl s11.1 1)) fun x26 =>
 Do (afaddr 5 x26) fun x27 =>
 Do (aload s19.2 2 true x27) fun x28 =>
 Do (afaddr 0 x1) fun x29 =>
 Do (aload s19.2 1 false x29) fun x30 =>
 Do (aiaddr none 11 x30 (sl s19.1 1)) fun x31 =>
 Do (afaddr 5 x31) fun x32 =>
 Do (aload s19.2 2 true x32) fun x33 =>
 DoH (some (abox s19.2 true [.int .i64 0, .int .i64 0])) fun x34 H35 =>
(aload H35 1 false x24 = some x25) ∧
(aload H35 2 true x27 = some x28) ∧
(aload H35 1 false x29 = some x30) ∧
(aload H35 2 true x32 = some x33) ∧
(DoH (some (abox H35 true [.int .i64 0, .int .i64 0])) fun x36 H37 =>
(aload H37 1 false x24 = some x25) ∧
(aload H37 2 true x27 = some x28) ∧
(aload H37 1 false x29 = some x30) ∧
(aload H37 2 true x32 = some x33) ∧
(Do (astore H37 2 x34 x28) fun H38 =>
(aload H38 1 false x29 = some x30) ∧
(aload H38 2 true x32 = some x33) ∧
(Do (astore H38 2 x36 x33) fun H39 =>
 Do (afaddr 1 x34) fun x44 =>
 Do (aload H39 1 false x44) fun x45 =>
 Do (abin .gtr x45 (.int .i64 0)) fun x46 =>
 Gd3 x46 true (
 Do (afaddr 1 x36) fun x47 =>
 Do (aload H39 1 false x47) fun x48 =>
 Do (abin .gtr x48 (.int .i64 0)) fun x49 =>
 JoinP (rabbetlaw24_PairAlike_k4 Φ x34 x36 s19 L20 Q) [x49] H39) (
 JoinP (rabbetlaw24_PairAlike_k4 Φ x34 x36 s19 L20 Q) [(.bool false)] H39) (
 False))))) (
 JoinP (rabbetlaw24_PairAlike_k5 Φ s11 L12 Q) [(sl s19.1 0)] s19.2)
def rabbetlaw24_PairAlike_k7 (Φ : Calls') (x1 : AV) (Q : Post) : List AV → AH → Prop := fun j9 H10 =>
Φ K.rabbetlaw24_awake [] H10 fun x74 H75 =>
 Gd3 x74 true (
 Do (aload H75 4 true x1) fun x76 =>
Φ K.pair_Alike [x76] H75 fun x77 H78 =>
 Do (abeq false x77 (sl j9 0)) fun x79 =>
 Q x79 H78) (
 Q (.bool false) H75) (
 False)
def rabbetlaw24_PairAlike_l8 (Φ : Calls') (x1 : AV) (Q : Post) : (List AV × AH) → ((List AV × AH) → Prop) → Prop := fun s11 L12 =>
 Do (afaddr 0 x1) fun x13 =>
 Do (aload s11.2 1 false x13) fun x14 =>
 Do (alen false x14) fun x15 =>
 Do (abin .lss (sl s11.1 1) x15) fun x16 =>
 Gd x16 true (
 LoopP (rabbetlaw24_PairAlike_l6 Φ x1 s11 L12 Q) ([(sl s11.1 0), (.int .i64 0)], s11.2)) (
 JoinP (rabbetlaw24_PairAlike_k7 Φ x1 Q) [(sl s11.1 0)] s11.2)
def rabbetlaw24_PairAlike (Φ : Calls') (a0 : AV) (H : AH) (Q : Post) : Prop :=
 DoH (aboxv H false 4 a0) fun x1 H2 =>
 Do (aload H2 4 true x1) fun x3 =>
Φ K.rabbetref21_Sound [x3] H2 fun x4 H5 =>
 Do (aun .not x4) fun x6 =>
 Gd x6 true (
Φ K.rabbetlaw24_awake [] H5 fun x7 H8 =>
 Q x7 H8) (
 LoopP (rabbetlaw24_PairAlike_l8 Φ x1 Q) ([(.bool true), (.int .i64 0)], H5))
def ir_rabbetlaw24_PairAlike : AFunc := ⟨82, [.tmp 2],
 .seq (.region [
   ⟨some 1, .box false 4 (.t 0), none⟩,
   ⟨some 2, .mv (.k (.bool false)), none⟩])
 (.seq (.seq (.region [
   ⟨some 9, .load 4 true (.t 1), none⟩,
   ⟨some 10, .call K.rabbetref21_Sound [(.t 9)], none⟩,
   ⟨some 11, .un .not (.t 10), none⟩])
 (.cond (.t 11) (.seq (.region [
     ⟨some 12, .call K.rabbetlaw24_awake [], none⟩,
     ⟨some 2, .mv (.t 12), none⟩])
   (.ret))
   (.skip)))
 (.seq (.region [
   ⟨some 3, .mv (.k (.bool true)), none⟩])
 (.join [3] [4, 5, 6, 7, 8, 13, 14, 15, 16, 17, 18, 19, 20, 21, 22, 23, 24, 25, 26, 27, 28, 29, 30, 31, 32, 33, 34, 35, 36, 37, 38, 39, 40, 41, 42, 43, 44, 45, 46, 47, 48, 49, 50, 51, 52, 53, 54, 55, 56, 57, 58, 59, 60, 61, 62, 63, 64, 65, 66, 67, 68, 69, 70, 71, 72, 73, 74] (.seq (.region [
   ⟨some 4, .mv (.k (.int .i64 0)), none⟩])
 (.block 0 (.loop [3, 4] [5, 6, 7, 8, 13, 14, 15, 16, 17, 18, 19, 20, 21, 22, 23, 24, 25, 26, 27, 28, 29, 30, 31, 32, 33, 34, 35, 36, 37, 38, 39, 40, 41, 42, 43, 44, 45, 46, 47, 48, 49, 50, 51, 52, 53, 54, 55, 56, 57, 58, 59, 60, 61, 62, 63, 64, 65, 66, 67, 68, 69, 70, 71, 72, 73, 74] (.seq (.seq (.region [
   ⟨some 13, .mv (.t 4), none⟩,
   ⟨some 14, .faddr 0 (.t 1), none⟩,
   ⟨some 15, .load 1 false (.t 14), none⟩,
   ⟨some 16, .len false (.t 15), none⟩,
   ⟨some 17, .bin .lss (.t 13) (.t 16), none⟩])
 (.cond (.t 17) (.skip)
   (.exit 0)))
 (.join [3] [5, 6, 7, 8, 20, 21, 22, 23, 24, 25, 26, 27, 28, 29, 30, 31, 32, 33, 34, 35, 36, 37, 38, 39, 40, 41, 42, 43, 44, 45, 46, 47, 48, 49, 50, 51, 52, 53, 54, 55, 56, 57, 58, 59, 60, 61, 62, 63, 64, 65, 66, 67, 68, 69, 70, 71, 72, 73, 74] (.block 1 (.seq (.region [
   ⟨some 5, .mv (.k (.int .i64 0)), none⟩])
 (.block 2 (.loop [3, 5] [6, 7, 8, 20, 21, 22, 23, 24, 25, 26, 27, 28, 29, 30, 31, 32, 33, 34, 35, 36, 37, 38, 39, 40, 41, 42, 43, 44, 45, 46, 47, 48, 49, 50, 51, 52, 53, 54, 55, 56, 57, 58, 59, 60, 61, 62, 63, 64, 65, 66, 67, 68, 69, 70, 71, 72, 73, 74] (.seq (.seq (.region [
   ⟨some 20, .mv (.t 5), none⟩,
   ⟨some 21, .mv (.t 4), none⟩,
   ⟨some 22, .bin .lss (.t 20) (.t 21), none⟩])
 (.cond (.t 22) (.skip)
   (.exit 2)))
 (.join [3] [6, 7, 8, 25, 26, 27, 28, 29, 30, 31, 32, 33, 34, 35, 36, 37, 38, 39, 40, 41, 42, 43, 44, 45, 46, 47, 48, 49, 50, 51, 52, 53, 54, 55, 56, 57, 58, 59, 60, 61, 62, 63, 64, 65, 66, 67, 68, 69, 70, 71, 72, 73, 74] (.block 3 (.seq (.draw [
   ⟨some 25, .faddr 0 (.t 1), none⟩,
   ⟨some 26, .load 1 false (.t 25), none⟩,
   ⟨some 27, .mv (.t 4), none⟩,
   ⟨some 28, .iaddr none 11 (.t 26) (.t 27), none⟩,
   ⟨some 29, .faddr 5 (.t 28), none⟩,
   ⟨some 30, .load 2 true (.t 29), none⟩,
   ⟨some 31, .faddr 0 (.t 1), none⟩,
   ⟨some 32, .load 1 false (.t 31), none⟩,
   ⟨some 33, .mv (.t 5), none⟩,
   ⟨some 34, .iaddr none 11 (.t 32) (.t 33), none⟩,
   ⟨some 35, .faddr 5 (.t 34), none⟩,
   ⟨some 36, .load 2 true (.t 35), none⟩,
   ⟨some 6, .alloc true [.int .i64 0, .int .i64 0], none⟩,
   ⟨some 7, .alloc true [.int .i64 0, .int .i64 0], none⟩,
   ⟨none, .store 2 (.t 6) (.t 30), none⟩,
   ⟨none, .store 2 (.t 7) (.t 36), none⟩]
 [[], [0], [], [0, 1, 2], [0, 1, 2, 3], [0, 1, 2, 3, 4], [], [6], [], [6, 7, 8], [6, 7, 8, 9], [6, 7, 8, 9, 10], [], [], [0, 1, 2, 3, 4, 5, 12, 13], [0, 1, 2, 3, 4, 5, 6, 7, 8, 9, 10, 11, 12, 13, 14]] [([0, 1, 2, 3, 4, 5, 6, 7, 8, 9, 10, 11], 12, [1, 5, 7, 11]), ([], 13, [1, 5, 7, 11]), ([], 14, [7, 11]), ([], 15, [])] [])
 (.join [8] [37, 38, 39, 40, 41, 42, 43, 44, 45, 46, 47, 48, 49, 50, 51, 52, 53, 54, 55, 56, 57, 58, 59, 60, 61, 62, 63, 64] (.rjoin [44] [37, 38, 39, 40, 41, 42, 43] [
   ⟨some 37, .faddr 1 (.t 6), none⟩,
   ⟨some 38, .load 1 false (.t 37), none⟩,
   ⟨some 39, .bin .gtr (.t 38) (.k (.int .i64 0)), none⟩,
   ⟨some 40, .mv (.t 39), none⟩,
   ⟨some 41, .faddr 1 (.t 7), some (40, true)⟩,
   ⟨some 42, .load 1 false (.t 41), some (40, true)⟩,
   ⟨some 43, .bin .gtr (.t 42) (.k (.int .i64 0)), some (40, true)⟩,
   ⟨some 44, .pick (.t 40) (.t 43) (.k (.bool false)), none⟩]
 (.rjoin [54] [45, 46, 47, 48, 49, 50, 51, 52, 53] [
   ⟨some 45, .mv (.t 44), none⟩,
   ⟨some 46, .faddr 0 (.t 6), some (45, true)⟩,
   ⟨some 47, .load 1 false (.t 46), some (45, true)⟩,
   ⟨some 48, .faddr 0 (.t 7), some (45, true)⟩,
   ⟨some 49, .load 1 false (.t 48), some (45, true)⟩,
   ⟨some 50, .faddr 1 (.t 7), some (45, true)⟩,
   ⟨some 51, .load 1 false (.t 50), some (45, true)⟩,
   ⟨some 52, .bin .add (.t 49) (.t 51), some (45, true)⟩,
   ⟨some 53, .bin .lss (.t 47) (.t 52), some (45, true)⟩,
   ⟨some 54, .pick (.t 45) (.t 53) (.k (.bool false)), none⟩]
 (.region [
   ⟨some 55, .mv (.t 54), none⟩,
   ⟨some 56, .faddr 0 (.t 7), some (55, true)⟩,
   ⟨some 57, .load 1 false (.t 56), some (55, true)⟩,
   ⟨some 58, .faddr 0 (.t 6), some (55, true)⟩,
   ⟨some 59, .load 1 false (.t 58), some (55, true)⟩,
   ⟨some 60, .faddr 1 (.t 6), some (55, true)⟩,
   ⟨some 61, .load 1 false (.t 60), some (55, true)⟩,
   ⟨some 62, .bin .add (.t 59) (.t 61), some (55, true)⟩,
   ⟨some 63, .bin .lss (.t 57) (.t 62), some (55, true)⟩,
   ⟨some 64, .pick (.t 55) (.t 63) (.k (.bool false)), none⟩,
   ⟨some 8, .mv (.t 64), none⟩])))
 (.region [
   ⟨some 65, .mv (.t 3), none⟩,
   ⟨some 66, .mv (.t 65), none⟩,
   ⟨some 67, .mv (.t 8), some (66, true)⟩,
   ⟨some 68, .un .not (.t 67), some (66, true)⟩,
   ⟨some 69, .mv (.t 68), some (66, true)⟩,
   ⟨some 70, .load 2 true (.t 6), some (69, false)⟩,
   ⟨some 71, .load 2 true (.t 7), some (69, false)⟩,
   ⟨some 72, .eqagg false [.n, .n] (.t 70) (.t 71), some (69, false)⟩,
   ⟨some 73, .pick (.t 69) (.k (.bool true)) (.t 72), some (66, true)⟩,
   ⟨some 74, .pick (.t 66) (.t 73) (.k (.bool false)), none⟩,
   ⟨some 3, .mv (.t 74), none⟩]))))
 (.region [
   ⟨some 23, .mv (.t 5), none⟩,
   ⟨some 24, .bin .add (.t 23) (.k (.int .i64 1)), none⟩,
   ⟨some 5, .mv (.t 24), none⟩])))))))
 (.region [
   ⟨some 18, .mv (.t 4), none⟩,
   ⟨some 19, .bin .add (.t 18) (.k (.int .i64 1)), none⟩,
   ⟨some 4, .mv (.t 19), none⟩]))))))
 (.seq (.region [
   ⟨some 75, .call K.rabbetlaw24_awake [], none⟩,
   ⟨some 76, .mv (.t 75), none⟩,
   ⟨some 77, .load 4 true (.t 1), some (76, true)⟩,
   ⟨some 78, .call K.pair_Alike [(.t 77)], some (76, true)⟩,
   ⟨some 79, .mv (.t 3), some (76, true)⟩,
   ⟨some 80, .beq false (.t 78) (.t 79), some (76, true)⟩,
   ⟨some 81, .pick (.t 76) (.t 80) (.k (.bool false)), none⟩,
   ⟨some 2, .mv (.t 81), none⟩])
 (.ret)))))⟩
theorem eq_rabbetlaw24_PairAlike (Φ : Calls') (a0 : AV) (H : AH) (Q : Post) : fnE1 Φ ir_rabbetlaw24_PairAlike [a0] H Q = rabbetlaw24_PairAlike Φ a0 H Q := by kernel_rfl

/-! rabbet/rabbetref21.Sound -/
def rabbetref21_Sound_k1 (Φ : Calls') (s38 : List AV × AH) (L39 : (List AV × AH) → Prop) (Q : Post) : List AV → AH → Prop := fun j44 H45 =>
 Do (abin .add (sl s38.1 0) (.int .i64 1)) fun x56 =>
 L39 ([x56], H45)
def rabbetref21_Sound_k2 (Φ : Calls') (s38 : List AV × AH) (L39 : (List AV × AH) → Prop) (Q : Post) : List AV → AH → Prop := fun j46 H47 =>
 Gd (sl j46 0) true (
 Q (.bool false) H47) (
 JoinP (rabbetref21_Sound_k1 Φ s38 L39 Q) [] H47)
def rabbetref21_Sound_k3 (Φ : Calls') (s69 : List AV × AH) (L70 : (List AV × AH) → Prop) (Q : Post) : List AV → AH → Prop := fun j75 H76 =>
 Do (abin .add (sl s69.1 1) (.int .i64 1)) fun x92 =>
 L70 ([(sl j75 0), x92], H76)
def rabbetref21_Sound_k4 (Φ : Calls') (s69 : List AV × AH) (L70 : (List AV × AH) → Prop) (Q : Post) : List AV → AH → Prop := fun j77 H78 =>
 Gd (sl j77 0) true (
 Do (abin .add (sl s69.1 0) (.int .i64 1)) fun x91 =>
 JoinP (rabbetref21_Sound_k3 Φ s69 L70 Q) [x91] H78) (
 JoinP (rabbetref21_Sound_k3 Φ s69 L70 Q) [(sl s69.1 0)] H78)
def rabbetref21_Sound_k5 (Φ : Calls') (s99 : List AV × AH) (L100 : (List AV × AH) → Prop) (Q : Post) : List AV → AH → Prop := fun j102 H103 =>
 Do (abin .add (sl s99.1 0) (.int .i64 1)) fun x148 =>
 L100 ([x148], H103)
def rabbetref21_Sound_l6 (Φ : Calls') (x1 : AV) (x109 : AV) (s59 : List AV × AH) (s99 : List AV × AH) (L100 : (List AV × AH) → Prop) (Q : Post) : (List AV × AH) → ((List AV × AH) → Prop) → Prop := fun s137 L138 =>
 Do (abin .lss (sl s137.1 0) (sl s99.1 0)) fun x139 =>
 Gd x139 true (
 Do (afaddr 2 x1) fun x140 =>
 Do (aload s137.2 1 false x140) fun x141 =>
 Do (aiaddr none 1 x141 (sl s59.1 0)) fun x142 =>
 Do (aload s137.2 1 false x142) fun x143 =>
 Do (aiaddr none 1 x143 (sl s137.1 0)) fun x144 =>
 Do (aload s137.2 1 false x144) fun x145 =>
 Do (abin .eql x145 x109) fun x146 =>
 Gd x146 true (
 Q (.bool false) s137.2) (
 Do (abin .add (sl s137.1 0) (.int .i64 1)) fun x147 =>
 L138 ([x147], s137.2))) (
 JoinP (rabbetref21_Sound_k5 Φ s99 L100 Q) [] s137.2)
def rabbetref21_Sound_k7 (Φ : Calls') (x1 : AV) (x109 : AV) (s59 : List AV × AH) (s99 : List AV × AH) (L100 : (List AV × AH) → Prop) (Q : Post) : List AV → AH → Prop := fun j110 H111 =>
 LoopP (rabbetref21_Sound_l6 Φ x1 x109 s59 s99 L100 Q) ([(.int .i64 0)], H111)
def rabbetref21_Sound_k8 (Φ : Calls') (x1 : AV) (x109 : AV) (s59 : List AV × AH) (s99 : List AV × AH) (L100 : (List AV × AH) → Prop) (Q : Post) : List AV → AH → Prop := fun j112 H113 =>
 Gd (sl j112 0) true (
 Q (.bool false) H113) (
 JoinP (rabbetref21_Sound_k7 Φ x1 x109 s59 s99 L100 Q) [] H113)
def rabbetref21_Sound_k9 (Φ : Calls') (x1 : AV) (x66 : AV) (x109 : AV) (s59 : List AV × AH) (s99 : List AV × AH) (L100 : (List AV × AH) → Prop) (Q : Post) : List AV → AH → Prop := fun j121 H122 =>
 Gd3 (sl j121 0) false (
 Do (afaddr 0 x1) fun x129 =>
 Do (aload H122 1 false x129) fun x130 =>
 Do (aiaddr none 11 x130 x109) fun x131 =>
 Do (afaddr 5 x131) fun x132 =>
 Do (aload H122 2 true x132) fun x133 =>
Φ K.rabbetref21_has [x133, x66] H122 fun x134 H135 =>
 Do (aun .not x134) fun x136 =>
 JoinP (rabbetref21_Sound_k8 Φ x1 x109 s59 s99 L100 Q) [x136] H135) (
 JoinP (rabbetref21_Sound_k8 Φ x1 x109 s59 s99 L100 Q) [(.bool true)] H122) (
 False)
def rabbetref21_Sound_k10 (Φ : Calls') (x1 : AV) (x66 : AV) (x109 : AV) (s59 : List AV × AH) (s99 : List AV × AH) (L100 : (List AV × AH) → Prop) (Q : Post) : List AV → AH → Prop := fun j114 H115 =>
 Gd3 (sl j114 0) false (
 Do (afaddr 0 x1) fun x123 =>
 Do (aload H115 1 false x123) fun x124 =>
 Do (aiaddr none 11 x124 x109) fun x125 =>
 Do (afaddr 3 x125) fun x126 =>
 Do (aload H115 1 false x126) fun x127 =>
 Do (aun .not x127) fun x128 =>
 JoinP (rabbetref21_Sound_k9 Φ x1 x66 x109 s59 s99 L100 Q) [x128] H115) (
 JoinP (rabbetref21_Sound_k9 Φ x1 x66 x109 s59 s99 L100 Q) [(.bool true)] H115) (
 False)
def rabbetref21_Sound_k11 (Φ : Calls') (s59 : List AV × AH) (L60 : (List AV × AH) → Prop) (Q : Post) : List AV → AH → Prop := fun j64 H65 =>
 Do (abin .add (sl s59.1 0) (.int .i64 1)) fun x149 =>
 L60 ([x149], H65)
def rabbetref21_Sound_l12 (Φ : Calls') (x1 : AV) (x66 : AV) (s59 : List AV × AH) (L60 : (List AV × AH) → Prop) (j67 : List AV) (Q : Post) : (List AV × AH) → ((List AV × AH) → Prop) → Prop := fun s99 L100 =>
 Do (abin .lss (sl s99.1 0) (sl j67 0)) fun x101 =>
 Gd x101 true (
 Do (afaddr 2 x1) fun x104 =>
 Do (aload s99.2 1 false x104) fun x105 =>
 Do (aiaddr none 1 x105 (sl s59.1 0)) fun x106 =>
 Do (aload s99.2 1 false x106) fun x107 =>
 Do (aiaddr none 1 x107 (sl s99.1 0)) fun x108 =>
 Do (aload s99.2 1 false x108) fun x109 =>
 Do (abin .lss x109 (.int .i64 0)) fun x116 =>
 Gd3 x116 false (
 Do (afaddr 0 x1) fun x117 =>
 Do (aload s99.2 1 false x117) fun x118 =>
 Do (alen false x118) fun x119 =>
 Do (abin .geq x109 x119) fun x120 =>
 JoinP (rabbetref21_Sound_k10 Φ x1 x66 x109 s59 s99 L100 Q) [x120] s99.2) (
 JoinP (rabbetref21_Sound_k10 Φ x1 x66 x109 s59 s99 L100 Q) [(.bool true)] s99.2) (
 False)) (
 JoinP (rabbetref21_Sound_k11 Φ s59 L60 Q) [] s99.2)
def rabbetref21_Sound_k13 (Φ : Calls') (x1 : AV) (x66 : AV) (s59 : List AV × AH) (L60 : (List AV × AH) → Prop) (Q : Post) : List AV → AH → Prop := fun j67 H68 =>
 Do (afaddr 2 x1) fun x93 =>
 Do (aload H68 1 false x93) fun x94 =>
 Do (aiaddr none 1 x94 (sl s59.1 0)) fun x95 =>
 Do (aload H68 1 false x95) fun x96 =>
 Do (alen false x96) fun x97 =>
 Do (abin .neq (sl j67 0) x97) fun x98 =>
 Gd x98 true (
 Q (.bool false) H68) (
 LoopP (rabbetref21_Sound_l12 Φ x1 x66 s59 L60 j67 Q) ([(.int .i64 0)], H68))
def rabbetref21_Sound_l14 (Φ : Calls') (x1 : AV) (x66 : AV) (s59 : List AV × AH) (L60 : (List AV × AH) → Prop) (Q : Post) : (List AV × AH) → ((List AV × AH) → Prop) → Prop := fun s69 L70 =>
 Do (afaddr 0 x1) fun x71 =>
 Do (aload s69.2 1 false x71) fun x72 =>
 Do (alen false x72) fun x73 =>
 Do (abin .lss (sl s69.1 1) x73) fun x74 =>
 Gd x74 true (
 Do (afaddr 0 x1) fun x79 =>
 Do (aload s69.2 1 false x79) fun x80 =>
 Do (aiaddr none 11 x80 (sl s69.1 1)) fun x81 =>
 Do (afaddr 3 x81) fun x82 =>
 Do (aload s69.2 1 false x82) fun x83 =>
 Gd3 x83 true (
 Do (afaddr 0 x1) fun x84 =>
 Do (aload s69.2 1 false x84) fun x85 =>
 Do (aiaddr none 11 x85 (sl s69.1 1)) fun x86 =>
 Do (afaddr 5 x86) fun x87 =>
 Do (aload s69.2 2 true x87) fun x88 =>
Φ K.rabbetref21_has [x88, x66] s69.2 fun x89 H90 =>
 JoinP (rabbetref21_Sound_k4 Φ s69 L70 Q) [x89] H90) (
 JoinP (rabbetref21_Sound_k4 Φ s69 L70 Q) [(.bool false)] s69.2) (
 False)) (
 JoinP (rabbetref21_Sound_k13 Φ x1 x66 s59 L60 Q) [(sl s69.1 0)] s69.2)
def rabbetref21_Sound_k15 (Φ : Calls') (s158 : List AV × AH) (L159 : (List AV × AH) → Prop) (Q : Post) : List AV → AH → Prop := fun j166 H167 =>
 Do (abin .add (sl s158.1 0) (.int .i64 1)) fun x205 =>
 L159 ([x205], H167)
def rabbetref21_Sound_k16 (Φ : Calls') (s158 : List AV × AH) (L159 : (List AV × AH) → Prop) (Q : Post) : List AV → AH → Prop := fun j174 H175 =>
 Gd (sl j174 0) true (
 Q (.bool false) H175) (
 JoinP (rabbetref21_Sound_k15 Φ s158 L159 Q) [] H175)
def rabbetref21_Sound_k17 (Φ : Calls') (s150 : List AV × AH) (L151 : (List AV × AH) → Prop) (Q : Post) : List AV → AH → Prop := fun j156 H157 =>
 Do (abin .add (sl s150.1 0) (.int .i64 1)) fun x206 =>
 L151 ([x206], H157)
def rabbetref21_Sound_l18 (Φ : Calls') (x1 : AV) (s150 : List AV × AH) (L151 : (List AV × AH) → Prop) (Q : Post) : (List AV × AH) → ((List AV × AH) → Prop) → Prop := fun s158 L159 =>
 Do (afaddr 1 x1) fun x160 =>
 Do (aload s158.2 1 false x160) fun x161 =>
 Do (aiaddr none 1 x161 (sl s150.1 0)) fun x162 =>
 Do (aload s158.2 1 false x162) fun x163 =>
 Do (alen false x163) fun x164 =>
 Do (abin .lss (sl s158.1 0) x164) fun x165 =>
 Gd x165 true (
 Do (afaddr 1 x1) fun x168 =>
 Do (aload s158.2 1 false x168) fun x169 =>
 Do (aiaddr none 1 x169 (sl s150.1 0)) fun x170 =>
 Do (aload s158.2 1 false x170) fun x171 =>
 Do (aiaddr none 1 x171 (sl s158.1 0)) fun x172 =>
 Do (aload s158.2 1 false x172) fun x173 =>
 Do (abin .lss x173 (.int .i64 0)) fun x176 =>
 Gd3 x176 false (
 Do (afaddr 0 x1) fun x177 =>
 Do (aload s158.2 1 false x177) fun x178 =>
 Do (alen false x178) fun x179 =>
 Do (abin .gtr x173 x179) fun x180 =>
 Gd3 x180 false (
 Do (abin .gtr x173 (.int .i64 0)) fun x181 =>
 Gd3 x181 true (
 Do (afaddr 0 x1) fun x182 =>
 Do (aload s158.2 1 false x182) fun x183 =>
 Do (abin .sub x173 (.int .i64 1)) fun x184 =>
 Do (aiaddr none 11 x183 x184) fun x185 =>
 Do (afaddr 3 x185) fun x186 =>
 Do (aload s158.2 1 false x186) fun x187 =>
 Do (aun .not x187) fun x188 =>
 Gd3 x188 false (
 Do (afaddr 0 x1) fun x189 =>
 Do (aload s158.2 1 false x189) fun x190 =>
 Do (abin .sub x173 (.int .i64 1)) fun x191 =>
 Do (aiaddr none 11 x190 x191) fun x192 =>
 Do (afaddr 5 x192) fun x193 =>
 Do (aload s158.2 2 true x193) fun x194 =>
 Do (afaddr 0 x1) fun x195 =>
 Do (aload s158.2 1 false x195) fun x196 =>
 Do (aiaddr none 11 x196 (sl s150.1 0)) fun x197 =>
 Do (afaddr 5 x197) fun x198 =>
 Do (afaddr 0 x198) fun x199 =>
 Do (aload s158.2 1 false x199) fun x200 =>
 Do (abin .add x200 (sl s158.1 0)) fun x201 =>
Φ K.rabbetref21_has [x194, x201] s158.2 fun x202 H203 =>
 Do (aun .not x202) fun x204 =>
 JoinP (rabbetref21_Sound_k16 Φ s158 L159 Q) [x204] H203) (
 JoinP (rabbetref21_Sound_k16 Φ s158 L159 Q) [(.bool true)] s158.2) (
 False)) (
 JoinP (rabbetref21_Sound_k16 Φ s158 L159 Q) [(.bool false)] s158.2) (
 False)) (
 JoinP (rabbetref21_Sound_k16 Φ s158 L159 Q) [(.bool true)] s158.2) (
 False)) (
 JoinP (rabbetref21_Sound_k16 Φ s158 L159 Q) [(.bool true)] s158.2) (
 False)) (
 JoinP (rabbetref21_Sound_k17 Φ s150 L151 Q) [] s158.2)
def rabbetref21_Sound_l19 (Φ : Calls') (x1 : AV) (Q : Post) : (List AV × AH) → ((List AV × AH) → Prop) → Prop := fun s150 L151 =>
 Do (afaddr 0 x1) fun x152 =>
 Do (aload s150.2 1 false x152) fun x153 =>
 Do (alen false x153) fun x154 =>
 Do (abin .lss (sl s150.1 0) x154) fun x155 =>
 Gd x155 true (
 LoopP (rabbetref21_Sound_l18 Φ x1 s150 L151 Q) ([(.int .i64 0)], s150.2)) (
 Q (.bool true) s150.2)
def rabbetref21_Sound_k20 (Φ : Calls') (x1 : AV) (Q : Post) : List AV → AH → Prop := fun j57 H58 =>
 LoopP (rabbetref21_Sound_l19 Φ x1 Q) ([(.int .i64 0)], H58)
def rabbetref21_Sound_l21 (Φ : Calls') (x1 : AV) (Q : Post) : (List AV × AH) → ((List AV × AH) → Prop) → Prop := fun s59 L60 =>
 Do (afaddr 3 x1) fun x61 =>
 Do (aload s59.2 1 false x61) fun x62 =>
 Do (abin .lss (sl s59.1 0) x62) fun x63 =>
 Gd x63 true (
 Do (abin .add (.int .i64 65536) (sl s59.1 0)) fun x66 =>
 LoopP (rabbetref21_Sound_l14 Φ x1 x66 s59 L60 Q) ([(.int .i64 0), (.int .i64 0)], s59.2)) (
 JoinP (rabbetref21_Sound_k20 Φ x1 Q) [] s59.2)
def rabbetref21_Sound_k22 (Φ : Calls') (x1 : AV) (Q : Post) : List AV → AH → Prop := fun j36 H37 =>
 LoopP (rabbetref21_Sound_l21 Φ x1 Q) ([(.int .i64 0)], H37)
def rabbetref21_Sound_l23 (Φ : Calls') (x1 : AV) (Q : Post) : (List AV × AH) → ((List AV × AH) → Prop) → Prop := fun s38 L39 =>
 Do (afaddr 0 x1) fun x40 =>
 Do (aload s38.2 1 false x40) fun x41 =>
 Do (alen false x41) fun x42 =>
 Do (abin .lss (sl s38.1 0) x42) fun x43 =>
 Gd x43 true (
 Do (aload s38.2 4 true x1) fun x48 =>
Φ K.rabbetref21_event [x48, (sl s38.1 0)] s38.2 fun x49 H50 =>
 Do (aun .not x49) fun x51 =>
 Gd3 x51 false (
 Do (aload H50 4 true x1) fun x52 =>
Φ K.rabbetref21_paired [x52, (sl s38.1 0)] H50 fun x53 H54 =>
 Do (aun .not x53) fun x55 =>
 JoinP (rabbetref21_Sound_k2 Φ s38 L39 Q) [x55] H54) (
 JoinP (rabbetref21_Sound_k2 Φ s38 L39 Q) [(.bool true)] H50) (
 False)) (
 JoinP (rabbetref21_Sound_k22 Φ x1 Q) [] s38.2)
def rabbetref21_Sound_k24 (Φ : Calls') (x1 : AV) (Q : Post) : List AV → AH → Prop := fun j3 H4 =>
 LoopP (rabbetref21_Sound_l23 Φ x1 Q) ([(.int .i64 0)], H4)
def rabbetref21_Sound_k25 (Φ : Calls') (x1 : AV) (Q : Post) : List AV → AH → Prop := fun j5 H6 =>
 Gd (sl j5 0) true (
 Q (.bool false) H6) (
 JoinP (rabbetref21_Sound_k24 Φ x1 Q) [] H6)
def rabbetref21_Sound_k26 (Φ : Calls') (x1 : AV) (Q : Post) : List AV → AH → Prop := fun j25 H26 =>
 Gd3 (sl j25 0) false (
 Do (afaddr 2 x1) fun x30 =>
 Do (aload H26 1 false x30) fun x31 =>
 Do (alen false x31) fun x32 =>
 Do (afaddr 3 x1) fun x33 =>
 Do (aload H26 1 false x33) fun x34 =>
 Do (abin .neq x32 x34) fun x35 =>
 JoinP (rabbetref21_Sound_k25 Φ x1 Q) [x35] H26) (
 JoinP (rabbetref21_Sound_k25 Φ x1 Q) [(.bool true)] H26) (
 False)
def rabbetref21_Sound_k27 (Φ : Calls') (x1 : AV) (Q : Post) : List AV → AH → Prop := fun j20 H21 =>
 Gd3 (sl j20 0) false (
 Do (afaddr 3 x1) fun x27 =>
 Do (aload H21 1 false x27) fun x28 =>
 Do (abin .gtr x28 (.int .i64 65536)) fun x29 =>
 JoinP (rabbetref21_Sound_k26 Φ x1 Q) [x29] H21) (
 JoinP (rabbetref21_Sound_k26 Φ x1 Q) [(.bool true)] H21) (
 False)
def rabbetref21_Sound_k28 (Φ : Calls') (x1 : AV) (Q : Post) : List AV → AH → Prop := fun j7 H8 =>
 Gd3 (sl j7 0) false (
 Do (afaddr 3 x1) fun x22 =>
 Do (aload H8 1 false x22) fun x23 =>
 Do (abin .lss x23 (.int .i64 0)) fun x24 =>
 JoinP (rabbetref21_Sound_k27 Φ x1 Q) [x24] H8) (
 JoinP (rabbetref21_Sound_k27 Φ x1 Q) [(.bool true)] H8) (
 False)
def rabbetref21_Sound (Φ : Calls') (a0 : AV) (H : AH) (Q : Post) : Prop :=
 DoH (aboxv H false 4 a0) fun x1 H2 =>
 Do (afaddr 0 x1) fun x9 =>
 Do (aload H2 1 false x9) fun x10 =>
 Do (alen false x10) fun x11 =>
 Do (abin .gtr x11 (.int .i64 64)) fun x12 =>
 Gd3 x12 false (
 Do (afaddr 1 x1) fun x13 =>
 Do (aload H2 1 false x13) fun x14 =>
 Do (alen false x14) fun x15 =>
 Do (afaddr 0 x1) fun x16 =>
 Do (aload H2 1 false x16) fun x17 =>
 Do (alen false x17) fun x18 =>
 Do (abin .neq x15 x18) fun x19 =>
 JoinP (rabbetref21_Sound_k28 Φ x1 Q) [x19] H2) (
 JoinP (rabbetref21_Sound_k28 Φ x1 Q) [(.bool true)] H2) (
 False)
def ir_rabbetref21_Sound : AFunc := ⟨228, [.tmp 2],
 .seq (.region [
   ⟨some 1, .box false 4 (.t 0), none⟩,
   ⟨some 2, .mv (.k (.bool false)), none⟩])
 (.join [] [2, 14, 15, 16, 17, 18, 19, 20, 21, 22, 23, 24, 25, 26, 27, 28, 29, 30, 31, 32, 33, 34, 35, 36, 37, 38, 39, 40, 41, 42, 43, 44] (.join [44] [14, 15, 16, 17, 18, 19, 20, 21, 22, 23, 24, 25, 26, 27, 28, 29, 30, 31, 32, 33, 34, 35, 36, 37, 38, 39, 40, 41, 42, 43] (.rjoin [26] [14, 15, 16, 17, 18, 19, 20, 21, 22, 23, 24, 25] [
   ⟨some 14, .faddr 0 (.t 1), none⟩,
   ⟨some 15, .load 1 false (.t 14), none⟩,
   ⟨some 16, .len false (.t 15), none⟩,
   ⟨some 17, .bin .gtr (.t 16) (.k (.int .i64 64)), none⟩,
   ⟨some 18, .mv (.t 17), none⟩,
   ⟨some 19, .faddr 1 (.t 1), some (18, false)⟩,
   ⟨some 20, .load 1 false (.t 19), some (18, false)⟩,
   ⟨some 21, .len false (.t 20), some (18, false)⟩,
   ⟨some 22, .faddr 0 (.t 1), some (18, false)⟩,
   ⟨some 23, .load 1 false (.t 22), some (18, false)⟩,
   ⟨some 24, .len false (.t 23), some (18, false)⟩,
   ⟨some 25, .bin .neq (.t 21) (.t 24), some (18, false)⟩,
   ⟨some 26, .pick (.t 18) (.k (.bool true)) (.t 25), none⟩]
 (.rjoin [31] [27, 28, 29, 30] [
   ⟨some 27, .mv (.t 26), none⟩,
   ⟨some 28, .faddr 3 (.t 1), some (27, false)⟩,
   ⟨some 29, .load 1 false (.t 28), some (27, false)⟩,
   ⟨some 30, .bin .lss (.t 29) (.k (.int .i64 0)), some (27, false)⟩,
   ⟨some 31, .pick (.t 27) (.k (.bool true)) (.t 30), none⟩]
 (.rjoin [36] [32, 33, 34, 35] [
   ⟨some 32, .mv (.t 31), none⟩,
   ⟨some 33, .faddr 3 (.t 1), some (32, false)⟩,
   ⟨some 34, .load 1 false (.t 33), some (32, false)⟩,
   ⟨some 35, .bin .gtr (.t 34) (.k (.int .i64 65536)), some (32, false)⟩,
   ⟨some 36, .pick (.t 32) (.k (.bool true)) (.t 35), none⟩]
 (.region [
   ⟨some 37, .mv (.t 36), none⟩,
   ⟨some 38, .faddr 2 (.t 1), some (37, false)⟩,
   ⟨some 39, .load 1 false (.t 38), some (37, false)⟩,
   ⟨some 40, .len false (.t 39), some (37, false)⟩,
   ⟨some 41, .faddr 3 (.t 1), some (37, false)⟩,
   ⟨some 42, .load 1 false (.t 41), some (37, false)⟩,
   ⟨some 43, .bin .neq (.t 40) (.t 42), some (37, false)⟩,
   ⟨some 44, .pick (.t 37) (.k (.bool true)) (.t 43), none⟩]))))
 (.cond (.t 44) (.seq (.region [
     ⟨some 2, .mv (.k (.bool false)), none⟩])
   (.ret))
   (.skip)))
 (.join [] [2, 3, 45, 46, 47, 48, 49, 50, 51, 52, 53, 54, 55, 56, 57, 58, 59, 60, 61] (.seq (.region [
   ⟨some 3, .mv (.k (.int .i64 0)), none⟩])
 (.block 0 (.loop [3] [2, 45, 46, 47, 48, 49, 50, 51, 52, 53, 54, 55, 56, 57, 58, 59, 60, 61] (.seq (.seq (.region [
   ⟨some 45, .mv (.t 3), none⟩,
   ⟨some 46, .faddr 0 (.t 1), none⟩,
   ⟨some 47, .load 1 false (.t 46), none⟩,
   ⟨some 48, .len false (.t 47), none⟩,
   ⟨some 49, .bin .lss (.t 45) (.t 48), none⟩])
 (.cond (.t 49) (.skip)
   (.exit 0)))
 (.join [] [2, 52, 53, 54, 55, 56, 57, 58, 59, 60, 61] (.block 1 (.join [61] [52, 53, 54, 55, 56, 57, 58, 59, 60] (.region [
   ⟨some 52, .load 4 true (.t 1), none⟩,
   ⟨some 53, .mv (.t 3), none⟩,
   ⟨some 54, .call K.rabbetref21_event [(.t 52), (.t 53)], none⟩,
   ⟨some 55, .un .not (.t 54), none⟩,
   ⟨some 56, .mv (.t 55), none⟩,
   ⟨some 57, .load 4 true (.t 1), some (56, false)⟩,
   ⟨some 58, .mv (.t 3), some (56, false)⟩,
   ⟨some 59, .call K.rabbetref21_paired [(.t 57), (.t 58)], some (56, false)⟩,
   ⟨some 60, .un .not (.t 59), some (56, false)⟩,
   ⟨some 61, .pick (.t 56) (.k (.bool true)) (.t 60), none⟩])
 (.cond (.t 61) (.seq (.region [
     ⟨some 2, .mv (.k (.bool false)), none⟩])
   (.ret))
   (.skip))))
 (.region [
   ⟨some 50, .mv (.t 3), none⟩,
   ⟨some 51, .bin .add (.t 50) (.k (.int .i64 1)), none⟩,
   ⟨some 3, .mv (.t 51), none⟩]))))))
 (.join [] [2, 4, 5, 6, 7, 8, 9, 10, 62, 63, 64, 65, 66, 67, 68, 69, 70, 71, 72, 73, 74, 75, 76, 77, 78, 79, 80, 81, 82, 83, 84, 85, 86, 87, 88, 89, 90, 91, 92, 93, 94, 95, 96, 97, 98, 99, 100, 101, 102, 103, 104, 105, 106, 107, 108, 109, 110, 111, 112, 113, 114, 115, 116, 117, 118, 119, 120, 121, 122, 123, 124, 125, 126, 127, 128, 129, 130, 131, 132, 133, 134, 135, 136, 137, 138, 139, 140, 141, 142, 143, 144, 145, 146, 147, 148, 149, 150, 151, 152, 153, 154, 155, 156, 157, 158, 159] (.seq (.region [
   ⟨some 4, .mv (.k (.int .i64 0)), none⟩])
 (.block 2 (.loop [4] [2, 5, 6, 7, 8, 9, 10, 62, 63, 64, 65, 66, 67, 68, 69, 70, 71, 72, 73, 74, 75, 76, 77, 78, 79, 80, 81, 82, 83, 84, 85, 86, 87, 88, 89, 90, 91, 92, 93, 94, 95, 96, 97, 98, 99, 100, 101, 102, 103, 104, 105, 106, 107, 108, 109, 110, 111, 112, 113, 114, 115, 116, 117, 118, 119, 120, 121, 122, 123, 124, 125, 126, 127, 128, 129, 130, 131, 132, 133, 134, 135, 136, 137, 138, 139, 140, 141, 142, 143, 144, 145, 146, 147, 148, 149, 150, 151, 152, 153, 154, 155, 156, 157, 158, 159] (.seq (.seq (.region [
   ⟨some 62, .mv (.t 4), none⟩,
   ⟨some 63, .faddr 3 (.t 1), none⟩,
   ⟨some 64, .load 1 false (.t 63), none⟩,
   ⟨some 65, .bin .lss (.t 62) (.t 64), none⟩])
 (.cond (.t 65) (.skip)
   (.exit 2)))
 (.join [] [2, 5, 6, 7, 8, 9, 10, 68, 69, 70, 71, 72, 73, 74, 75, 76, 77, 78, 79, 80, 81, 82, 83, 84, 85, 86, 87, 88, 89, 90, 91, 92, 93, 94, 95, 96, 97, 98, 99, 100, 101, 102, 103, 104, 105, 106, 107, 108, 109, 110, 111, 112, 113, 114, 115, 116, 117, 118, 119, 120, 121, 122, 123, 124, 125, 126, 127, 128, 129, 130, 131, 132, 133, 134, 135, 136, 137, 138, 139, 140, 141, 142, 143, 144, 145, 146, 147, 148, 149, 150, 151, 152, 153, 154, 155, 156, 157, 158, 159] (.block 3 (.seq (.region [
   ⟨some 68, .mv (.t 4), none⟩,
   ⟨some 69, .bin .add (.k (.int .i64 65536)) (.t 68), none⟩,
   ⟨some 5, .mv (.t 69), none⟩])
 (.seq (.region [
   ⟨some 6, .mv (.k (.int .i64 0)), none⟩])
 (.join [6] [7, 70, 71, 72, 73, 74, 75, 76, 77, 78, 79, 80, 81, 82, 83, 84, 85, 86, 87, 88, 89, 90, 91, 92, 93, 94] (.seq (.region [
   ⟨some 7, .mv (.k (.int .i64 0)), none⟩])
 (.block 4 (.loop [6, 7] [70, 71, 72, 73, 74, 75, 76, 77, 78, 79, 80, 81, 82, 83, 84, 85, 86, 87, 88, 89, 90, 91, 92, 93, 94] (.seq (.seq (.region [
   ⟨some 70, .mv (.t 7), none⟩,
   ⟨some 71, .faddr 0 (.t 1), none⟩,
   ⟨some 72, .load 1 false (.t 71), none⟩,
   ⟨some 73, .len false (.t 72), none⟩,
   ⟨some 74, .bin .lss (.t 70) (.t 73), none⟩])
 (.cond (.t 74) (.skip)
   (.exit 4)))
 (.join [6] [77, 78, 79, 80, 81, 82, 83, 84, 85, 86, 87, 88, 89, 90, 91, 92, 93, 94] (.block 5 (.join [92] [77, 78, 79, 80, 81, 82, 83, 84, 85, 86, 87, 88, 89, 90, 91] (.region [
   ⟨some 77, .faddr 0 (.t 1), none⟩,
   ⟨some 78, .load 1 false (.t 77), none⟩,
   ⟨some 79, .mv (.t 7), none⟩,
   ⟨some 80, .iaddr none 11 (.t 78) (.t 79), none⟩,
   ⟨some 81, .faddr 3 (.t 80), none⟩,
   ⟨some 82, .load 1 false (.t 81), none⟩,
   ⟨some 83, .mv (.t 82), none⟩,
   ⟨some 84, .faddr 0 (.t 1), some (83, true)⟩,
   ⟨some 85, .load 1 false (.t 84), some (83, true)⟩,
   ⟨some 86, .mv (.t 7), some (83, true)⟩,
   ⟨some 87, .iaddr none 11 (.t 85) (.t 86), some (83, true)⟩,
   ⟨some 88, .faddr 5 (.t 87), some (83, true)⟩,
   ⟨some 89, .load 2 true (.t 88), some (83, true)⟩,
   ⟨some 90, .mv (.t 5), some (83, true)⟩,
   ⟨some 91, .call K.rabbetref21_has [(.t 89), (.t 90)], some (83, true)⟩,
   ⟨some 92, .pick (.t 83) (.t 91) (.k (.bool false)), none⟩])
 (.cond (.t 92) (.region [
     ⟨some 93, .mv (.t 6), none⟩,
     ⟨some 94, .bin .add (.t 93) (.k (.int .i64 1)), none⟩,
     ⟨some 6, .mv (.t 94), none⟩])
   (.skip))))
 (.region [
   ⟨some 75, .mv (.t 7), none⟩,
   ⟨some 76, .bin .add (.t 75) (.k (.int .i64 1)), none⟩,
   ⟨some 7, .mv (.t 76), none⟩]))))))
 (.seq (.seq (.region [
   ⟨some 95, .mv (.t 6), none⟩,
   ⟨some 96, .faddr 2 (.t 1), none⟩,
   ⟨some 97, .load 1 false (.t 96), none⟩,
   ⟨some 98, .mv (.t 4), none⟩,
   ⟨some 99, .iaddr none 1 (.t 97) (.t 98), none⟩,
   ⟨some 100, .load 1 false (.t 99), none⟩,
   ⟨some 101, .len false (.t 100), none⟩,
   ⟨some 102, .bin .neq (.t 95) (.t 101), none⟩])
 (.cond (.t 102) (.seq (.region [
     ⟨some 2, .mv (.k (.bool false)), none⟩])
   (.ret))
   (.skip)))
 (.seq (.region [
   ⟨some 8, .mv (.k (.int .i64 0)), none⟩])
 (.block 6 (.loop [8] [2, 9, 10, 103, 104, 105, 106, 107, 108, 109, 110, 111, 112, 113, 114, 115, 116, 117, 118, 119, 120, 121, 122, 123, 124, 125, 126, 127, 128, 129, 130, 131, 132, 133, 134, 135, 136, 137, 138, 139, 140, 141, 142, 143, 144, 145, 146, 147, 148, 149, 150, 151, 152, 153, 154, 155, 156, 157, 158, 159] (.seq (.seq (.region [
   ⟨some 103, .mv (.t 8), none⟩,
   ⟨some 104, .mv (.t 6), none⟩,
   ⟨some 105, .bin .lss (.t 103) (.t 104), none⟩])
 (.cond (.t 105) (.skip)
   (.exit 6)))
 (.join [] [2, 9, 10, 108, 109, 110, 111, 112, 113, 114, 115, 116, 117, 118, 119, 120, 121, 122, 123, 124, 125, 126, 127, 128, 129, 130, 131, 132, 133, 134, 135, 136, 137, 138, 139, 140, 141, 142, 143, 144, 145, 146, 147, 148, 149, 150, 151, 152, 153, 154, 155, 156, 157, 158, 159] (.block 7 (.seq (.region [
   ⟨some 108, .faddr 2 (.t 1), none⟩,
   ⟨some 109, .load 1 false (.t 108), none⟩,
   ⟨some 110, .mv (.t 4), none⟩,
   ⟨some 111, .iaddr none 1 (.t 109) (.t 110), none⟩,
   ⟨some 112, .load 1 false (.t 111), none⟩,
   ⟨some 113, .mv (.t 8), none⟩,
   ⟨some 114, .iaddr none 1 (.t 112) (.t 113), none⟩,
   ⟨some 115, .load 1 false (.t 114), none⟩,
   ⟨some 9, .mv (.t 115), none⟩])
 (.join [] [2, 116, 117, 118, 119, 120, 121, 122, 123, 124, 125, 126, 127, 128, 129, 130, 131, 132, 133, 134, 135, 136, 137, 138, 139, 140, 141, 142, 143, 144] (.join [144] [116, 117, 118, 119, 120, 121, 122, 123, 124, 125, 126, 127, 128, 129, 130, 131, 132, 133, 134, 135, 136, 137, 138, 139, 140, 141, 142, 143] (.rjoin [124] [116, 117, 118, 119, 120, 121, 122, 123] [
   ⟨some 116, .mv (.t 9), none⟩,
   ⟨some 117, .bin .lss (.t 116) (.k (.int .i64 0)), none⟩,
   ⟨some 118, .mv (.t 117), none⟩,
   ⟨some 119, .mv (.t 9), some (118, false)⟩,
   ⟨some 120, .faddr 0 (.t 1), some (118, false)⟩,
   ⟨some 121, .load 1 false (.t 120), some (118, false)⟩,
   ⟨some 122, .len false (.t 121), some (118, false)⟩,
   ⟨some 123, .bin .geq (.t 119) (.t 122), some (118, false)⟩,
   ⟨some 124, .pick (.t 118) (.k (.bool true)) (.t 123), none⟩]
 (.rjoin [133] [125, 126, 127, 128, 129, 130, 131, 132] [
   ⟨some 125, .mv (.t 124), none⟩,
   ⟨some 126, .faddr 0 (.t 1), some (125, false)⟩,
   ⟨some 127, .load 1 false (.t 126), some (125, false)⟩,
   ⟨some 128, .mv (.t 9), some (125, false)⟩,
   ⟨some 129, .iaddr none 11 (.t 127) (.t 128), some (125, false)⟩,
   ⟨some 130, .faddr 3 (.t 129), some (125, false)⟩,
   ⟨some 131, .load 1 false (.t 130), some (125, false)⟩,
   ⟨some 132, .un .not (.t 131), some (125, false)⟩,
   ⟨some 133, .pick (.t 125) (.k (.bool true)) (.t 132), none⟩]
 (.region [
   ⟨some 134, .mv (.t 133), none⟩,
   ⟨some 135, .faddr 0 (.t 1), some (134, false)⟩,
   ⟨some 136, .load 1 false (.t 135), some (134, false)⟩,
   ⟨some 137, .mv (.t 9), some (134, false)⟩,
   ⟨some 138, .iaddr none 11 (.t 136) (.t 137), some (134, false)⟩,
   ⟨some 139, .faddr 5 (.t 138), some (134, false)⟩,
   ⟨some 140, .load 2 true (.t 139), some (134, false)⟩,
   ⟨some 141, .mv (.t 5), some (134, false)⟩,
   ⟨some 142, .call K.rabbetref21_has [(.t 140), (.t 141)], some (134, false)⟩,
   ⟨some 143, .un .not (.t 142), some (134, false)⟩,
   ⟨some 144, .pick (.t 134) (.k (.bool true)) (.t 143), none⟩])))
 (.cond (.t 144) (.seq (.region [
     ⟨some 2, .mv (.k (.bool false)), none⟩])
   (.ret))
   (.skip)))
 (.seq (.region [
   ⟨some 10, .mv (.k (.int .i64 0)), none⟩])
 (.block 8 (.loop [10] [2, 145, 146, 147, 148, 149, 150, 151, 152, 153, 154, 155, 156, 157, 158, 159] (.seq (.seq (.region [
   ⟨some 145, .mv (.t 10), none⟩,
   ⟨some 146, .mv (.t 8), none⟩,
   ⟨some 147, .bin .lss (.t 145) (.t 146), none⟩])
 (.cond (.t 147) (.skip)
   (.exit 8)))
 (.seq (.block 9 (.seq (.region [
   ⟨some 150, .faddr 2 (.t 1), none⟩,
   ⟨some 151, .load 1 false (.t 150), none⟩,
   ⟨some 152, .mv (.t 4), none⟩,
   ⟨some 153, .iaddr none 1 (.t 151) (.t 152), none⟩,
   ⟨some 154, .load 1 false (.t 153), none⟩,
   ⟨some 155, .mv (.t 10), none⟩,
   ⟨some 156, .iaddr none 1 (.t 154) (.t 155), none⟩,
   ⟨some 157, .load 1 false (.t 156), none⟩,
   ⟨some 158, .mv (.t 9), none⟩,
   ⟨some 159, .bin .eql (.t 157) (.t 158), none⟩])
 (.cond (.t 159) (.seq (.region [
     ⟨some 2, .mv (.k (.bool false)), none⟩])
   (.ret))
   (.skip))))
 (.region [
   ⟨some 148, .mv (.t 10), none⟩,
   ⟨some 149, .bin .add (.t 148) (.k (.int .i64 1)), none⟩,
   ⟨some 10, .mv (.t 149), none⟩])))))))))
 (.region [
   ⟨some 106, .mv (.t 8), none⟩,
   ⟨some 107, .bin .add (.t 106) (.k (.int .i64 1)), none⟩,
   ⟨some 8, .mv (.t 107), none⟩])))))))))))
 (.region [
   ⟨some 66, .mv (.t 4), none⟩,
   ⟨some 67, .bin .add (.t 66) (.k (.int .i64 1)), none⟩,
   ⟨some 4, .mv (.t 67), none⟩]))))))
 (.seq (.seq (.region [
   ⟨some 11, .mv (.k (.int .i64 0)), none⟩])
 (.block 10 (.loop [11] [2, 12, 13, 160, 161, 162, 163, 164, 165, 166, 167, 168, 169, 170, 171, 172, 173, 174, 175, 176, 177, 178, 179, 180, 181, 182, 183, 184, 185, 186, 187, 188, 189, 190, 191, 192, 193, 194, 195, 196, 197, 198, 199, 200, 201, 202, 203, 204, 205, 206, 207, 208, 209, 210, 211, 212, 213, 214, 215, 216, 217, 218, 219, 220, 221, 222, 223, 224, 225, 226, 227] (.seq (.seq (.region [
   ⟨some 160, .mv (.t 11), none⟩,
   ⟨some 161, .faddr 0 (.t 1), none⟩,
   ⟨some 162, .load 1 false (.t 161), none⟩,
   ⟨some 163, .len false (.t 162), none⟩,
   ⟨some 164, .bin .lss (.t 160) (.t 163), none⟩])
 (.cond (.t 164) (.skip)
   (.exit 10)))
 (.join [] [2, 12, 13, 167, 168, 169, 170, 171, 172, 173, 174, 175, 176, 177, 178, 179, 180, 181, 182, 183, 184, 185, 186, 187, 188, 189, 190, 191, 192, 193, 194, 195, 196, 197, 198, 199, 200, 201, 202, 203, 204, 205, 206, 207, 208, 209, 210, 211, 212, 213, 214, 215, 216, 217, 218, 219, 220, 221, 222, 223, 224, 225, 226, 227] (.block 11 (.seq (.region [
   ⟨some 12, .mv (.k (.int .i64 0)), none⟩])
 (.block 12 (.loop [12] [2, 13, 167, 168, 169, 170, 171, 172, 173, 174, 175, 176, 177, 178, 179, 180, 181, 182, 183, 184, 185, 186, 187, 188, 189, 190, 191, 192, 193, 194, 195, 196, 197, 198, 199, 200, 201, 202, 203, 204, 205, 206, 207, 208, 209, 210, 211, 212, 213, 214, 215, 216, 217, 218, 219, 220, 221, 222, 223, 224, 225, 226, 227] (.seq (.seq (.region [
   ⟨some 167, .mv (.t 12), none⟩,
   ⟨some 168, .faddr 1 (.t 1), none⟩,
   ⟨some 169, .load 1 false (.t 168), none⟩,
   ⟨some 170, .mv (.t 11), none⟩,
   ⟨some 171, .iaddr none 1 (.t 169) (.t 170), none⟩,
   ⟨some 172, .load 1 false (.t 171), none⟩,
   ⟨some 173, .len false (.t 172), none⟩,
   ⟨some 174, .bin .lss (.t 167) (.t 173), none⟩])
 (.cond (.t 174) (.skip)
   (.exit 12)))
 (.join [] [2, 13, 177, 178, 179, 180, 181, 182, 183, 184, 185, 186, 187, 188, 189, 190, 191, 192, 193, 194, 195, 196, 197, 198, 199, 200, 201, 202, 203, 204, 205, 206, 207, 208, 209, 210, 211, 212, 213, 214, 215, 216, 217, 218, 219, 220, 221, 222, 223, 224, 225, 226, 227] (.block 13 (.seq (.region [
   ⟨some 177, .faddr 1 (.t 1), none⟩,
   ⟨some 178, .load 1 false (.t 177), none⟩,
   ⟨some 179, .mv (.t 11), none⟩,
   ⟨some 180, .iaddr none 1 (.t 178) (.t 179), none⟩,
   ⟨some 181, .load 1 false (.t 180), none⟩,
   ⟨some 182, .mv (.t 12), none⟩,
   ⟨some 183, .iaddr none 1 (.t 181) (.t 182), none⟩,
   ⟨some 184, .load 1 false (.t 183), none⟩,
   ⟨some 13, .mv (.t 184), none⟩])
 (.join [227] [185, 186, 187, 188, 189, 190, 191, 192, 193, 194, 195, 196, 197, 198, 199, 200, 201, 202, 203, 204, 205, 206, 207, 208, 209, 210, 211, 212, 213, 214, 215, 216, 217, 218, 219, 220, 221, 222, 223, 224, 225, 226] (.draw [
   ⟨some 185, .mv (.t 13), none⟩,
   ⟨some 186, .bin .lss (.t 185) (.k (.int .i64 0)), none⟩,
   ⟨some 187, .mv (.t 186), none⟩,
   ⟨some 188, .mv (.t 13), some (187, false)⟩,
   ⟨some 189, .faddr 0 (.t 1), some (187, false)⟩,
   ⟨some 190, .load 1 false (.t 189), some (187, false)⟩,
   ⟨some 191, .len false (.t 190), some (187, false)⟩,
   ⟨some 192, .bin .gtr (.t 188) (.t 191), some (187, false)⟩,
   ⟨some 193, .pick (.t 187) (.k (.bool true)) (.t 192), none⟩,
   ⟨some 194, .mv (.t 193), none⟩,
   ⟨some 195, .mv (.t 13), some (194, false)⟩,
   ⟨some 196, .bin .gtr (.t 195) (.k (.int .i64 0)), some (194, false)⟩,
   ⟨some 197, .mv (.t 196), some (194, false)⟩,
   ⟨some 198, .faddr 0 (.t 1), some (197, true)⟩,
   ⟨some 199, .load 1 false (.t 198), some (197, true)⟩,
   ⟨some 200, .mv (.t 13), some (197, true)⟩,
   ⟨some 201, .bin .sub (.t 200) (.k (.int .i64 1)), some (197, true)⟩,
   ⟨some 202, .iaddr none 11 (.t 199) (.t 201), some (197, true)⟩,
   ⟨some 203, .faddr 3 (.t 202), some (197, true)⟩,
   ⟨some 204, .load 1 false (.t 203), some (197, true)⟩,
   ⟨some 205, .un .not (.t 204), some (197, true)⟩,
   ⟨some 206, .mv (.t 205), some (197, true)⟩,
   ⟨some 207, .faddr 0 (.t 1), some (206, false)⟩,
   ⟨some 208, .load 1 false (.t 207), some (206, false)⟩,
   ⟨some 209, .mv (.t 13), some (206, false)⟩,
   ⟨some 210, .bin .sub (.t 209) (.k (.int .i64 1)), some (206, false)⟩,
   ⟨some 211, .iaddr none 11 (.t 208) (.t 210), some (206, false)⟩,
   ⟨some 212, .faddr 5 (.t 211), some (206, false)⟩,
   ⟨some 213, .load 2 true (.t 212), some (206, false)⟩,
   ⟨some 214, .faddr 0 (.t 1), some (206, false)⟩,
   ⟨some 215, .load 1 false (.t 214), some (206, false)⟩,
   ⟨some 216, .mv (.t 11), some (206, false)⟩,
   ⟨some 217, .iaddr none 11 (.t 215) (.t 216), some (206, false)⟩,
   ⟨some 218, .faddr 5 (.t 217), some (206, false)⟩,
   ⟨some 219, .faddr 0 (.t 218), some (206, false)⟩,
   ⟨some 220, .load 1 false (.t 219), some (206, false)⟩,
   ⟨some 221, .mv (.t 12), some (206, false)⟩,
   ⟨some 222, .bin .add (.t 220) (.t 221), some (206, false)⟩,
   ⟨some 223, .call K.rabbetref21_has [(.t 213), (.t 222)], some (206, false)⟩,
   ⟨some 224, .un .not (.t 223), some (206, false)⟩,
   ⟨some 225, .pick (.t 206) (.k (.bool true)) (.t 224), some (197, true)⟩,
   ⟨some 226, .pick (.t 197) (.t 225) (.k (.bool false)), some (194, false)⟩,
   ⟨some 227, .pick (.t 194) (.k (.bool true)) (.t 226), none⟩]
 [[], [0], [0, 1], [0, 1, 2], [0, 1, 2], [0, 1, 2, 4], [0, 1, 2, 4, 5], [0, 1, 2, 3, 4, 5, 6], [0, 1, 2, 3, 4, 5, 6, 7], [0, 1, 2, 3, 4, 5, 6, 7, 8], [0, 1, 2, 3, 4, 5, 6, 7, 8, 9], [0, 1, 2, 3, 4, 5, 6, 7, 8, 9, 10], [0, 1, 2, 3, 4, 5, 6, 7, 8, 9, 10, 11], [0, 1, 2, 3, 4, 5, 6, 7, 8, 9, 10, 11, 12], [0, 1, 2, 3, 4, 5, 6, 7, 8, 9, 10, 11, 12, 13], [0, 1, 2, 3, 4, 5, 6, 7, 8, 9, 10, 11, 12], [0, 1, 2, 3, 4, 5, 6, 7, 8, 9, 10, 11, 12, 15], [0, 1, 2, 3, 4, 5, 6, 7, 8, 9, 10, 11, 12, 13, 14, 15, 16], [0, 1, 2, 3, 4, 5, 6, 7, 8, 9, 10, 11, 12, 13, 14, 15, 16, 17], [0, 1, 2, 3, 4, 5, 6, 7, 8, 9, 10, 11, 12, 13, 14, 15, 16, 17, 18], [0, 1, 2, 3, 4, 5, 6, 7, 8, 9, 10, 11, 12, 13, 14, 15, 16, 17, 18, 19], [0, 1, 2, 3, 4, 5, 6, 7, 8, 9, 10, 11, 12, 13, 14, 15, 16, 17, 18, 19, 20], [0, 1, 2, 3, 4, 5, 6, 7, 8, 9, 10, 11, 12, 13, 14, 15, 16, 17, 18, 19, 20, 21], [0, 1, 2, 3, 4, 5, 6, 7, 8, 9, 10, 11, 12, 13, 14, 15, 16, 17, 18, 19, 20, 21, 22], [0, 1, 2, 3, 4, 5, 6, 7, 8, 9, 10, 11, 12, 13, 14, 15, 16, 17, 18, 19, 20, 21], [0, 1, 2, 3, 4, 5, 6, 7, 8, 9, 10, 11, 12, 13, 14, 15, 16, 17, 18, 19, 20, 21, 24], [0, 1, 2, 3, 4, 5, 6, 7, 8, 9, 10, 11, 12, 13, 14, 15, 16, 17, 18, 19, 20, 21, 22, 23, 24, 25], [0, 1, 2, 3, 4, 5, 6, 7, 8, 9, 10, 11, 12, 13, 14, 15, 16, 17, 18, 19, 20, 21, 22, 23, 24, 25, 26], [0, 1, 2, 3, 4, 5, 6, 7, 8, 9, 10, 11, 12, 13, 14, 15, 16, 17, 18, 19, 20, 21, 22, 23, 24, 25, 26, 27], [0, 1, 2, 3, 4, 5, 6, 7, 8, 9, 10, 11, 12, 13, 14, 15, 16, 17, 18, 19, 20, 21], [0, 1, 2, 3, 4, 5, 6, 7, 8, 9, 10, 11, 12, 13, 14, 15, 16, 17, 18, 19, 20, 21, 29], [0, 1, 2, 3, 4, 5, 6, 7, 8, 9, 10, 11, 12, 13, 14, 15, 16, 17, 18, 19, 20, 21], [0, 1, 2, 3, 4, 5, 6, 7, 8, 9, 10, 11, 12, 13, 14, 15, 16, 17, 18, 19, 20, 21, 29, 30, 31], [0, 1, 2, 3, 4, 5, 6, 7, 8, 9, 10, 11, 12, 13, 14, 15, 16, 17, 18, 19, 20, 21, 29, 30, 31, 32], [0, 1, 2, 3, 4, 5, 6, 7, 8, 9, 10, 11, 12, 13, 14, 15, 16, 17, 18, 19, 20, 21, 29, 30, 31, 32, 33], [0, 1, 2, 3, 4, 5, 6, 7, 8, 9, 10, 11, 12, 13, 14, 15, 16, 17, 18, 19, 20, 21, 29, 30, 31, 32, 33, 34], [0, 1, 2, 3, 4, 5, 6, 7, 8, 9, 10, 11, 12, 13, 14, 15, 16, 17, 18, 19, 20, 21], [0, 1, 2, 3, 4, 5, 6, 7, 8, 9, 10, 11, 12, 13, 14, 15, 16, 17, 18, 19, 20, 21, 29, 30, 31, 32, 33, 34, 35, 36], [0, 1, 2, 3, 4, 5, 6, 7, 8, 9, 10, 11, 12, 13, 14, 15, 16, 17, 18, 19, 20, 21, 22, 23, 24, 25, 26, 27, 28, 29, 30, 31, 32, 33, 34, 35, 36, 37], [0, 1, 2, 3, 4, 5, 6, 7, 8, 9, 10, 11, 12, 13, 14, 15, 16, 17, 18, 19, 20, 21, 22, 23, 24, 25, 26, 27, 28, 29, 30, 31, 32, 33, 34, 35, 36, 37, 38], [0, 1, 2, 3, 4, 5, 6, 7, 8, 9, 10, 11, 12, 13, 14, 15, 16, 17, 18, 19, 20, 21, 22, 23, 24, 25, 26, 27, 28, 29, 30, 31, 32, 33, 34, 35, 36, 37, 38, 39], [0, 1, 2, 3, 4, 5, 6, 7, 8, 9, 10, 11, 12, 13, 14, 15, 16, 17, 18, 19, 20, 21, 22, 23, 24, 25, 26, 27, 28, 29, 30, 31, 32, 33, 34, 35, 36, 37, 38, 39, 40], [0, 1, 2, 3, 4, 5, 6, 7, 8, 9, 10, 11, 12, 13, 14, 15, 16, 17, 18, 19, 20, 21, 22, 23, 24, 25, 26, 27, 28, 29, 30, 31, 32, 33, 34, 35, 36, 37, 38, 39, 40, 41]] [([0, 1, 2, 3, 4, 5, 6, 7, 8, 9, 10, 11, 12, 13, 14, 15, 16, 17, 18, 19, 20, 21, 22, 23, 24, 25, 26, 27, 28, 29, 30, 31, 32, 33, 34, 35, 36, 37], 38, [])] [39, 40, 41, 42])
 (.cond (.t 227) (.seq (.region [
     ⟨some 2, .mv (.k (.bool false)), none⟩])
   (.ret))
   (.skip)))))
 (.region [
   ⟨some 175, .mv (.t 12), none⟩,
   ⟨some 176, .bin .add (.t 175) (.k (.int .i64 1)), none⟩,
   ⟨some 12, .mv (.t 176), none⟩])))))))
 (.region [
   ⟨some 165, .mv (.t 11), none⟩,
   ⟨some 166, .bin .add (.t 165) (.k (.int .i64 1)), none⟩,
   ⟨some 11, .mv (.t 166), none⟩]))))))
 (.seq (.region [
   ⟨some 2, .mv (.k (.bool true)), none⟩])
 (.ret))))))⟩
theorem eq_rabbetref21_Sound (Φ : Calls') (a0 : AV) (H : AH) (Q : Post) : fnE1 Φ ir_rabbetref21_Sound [a0] H Q = rabbetref21_Sound Φ a0 H Q := by kernel_rfl

/-! rabbet/pair.Alike -/
def pair_Alike_k1 (Φ : Calls') (s20 : List AV × AH) (L21 : (List AV × AH) → Prop) (Q : Post) : List AV → AH → Prop := fun j23 H24 =>
 Do (abin .add (sl s20.1 0) (.int .i64 1)) fun x43 =>
 L21 ([x43], H24)
def pair_Alike_k2 (Φ : Calls') (s20 : List AV × AH) (L21 : (List AV × AH) → Prop) (Q : Post) : List AV → AH → Prop := fun j30 H31 =>
 Gd (sl j30 0) true (
 Q (.bool false) H31) (
 JoinP (pair_Alike_k1 Φ s20 L21 Q) [] H31)
def pair_Alike_k3 (Φ : Calls') (s6 : List AV × AH) (L7 : (List AV × AH) → Prop) (Q : Post) : List AV → AH → Prop := fun j9 H10 =>
 Do (abin .add (sl s6.1 0) (.int .i64 1)) fun x44 =>
 L7 ([x44], H10)
def pair_Alike_l4 (Φ : Calls') (x13 : AV) (x18 : AV) (x19 : AV) (s6 : List AV × AH) (L7 : (List AV × AH) → Prop) (Q : Post) : (List AV × AH) → ((List AV × AH) → Prop) → Prop := fun s20 L21 =>
 Do (abin .lss (sl s20.1 0) x19) fun x22 =>
 Gd x22 true (
 Do (aiaddr none 11 x18 (sl s20.1 0)) fun x25 =>
 Do (aload s20.2 11 true x25) fun x26 =>
 DoH (some (abox s20.2 true [.int .i64 0, .int .i64 0, .bool false, .bool false, .bool false, .int .i64 0, .int .i64 0, .lst .nil 0 [], .int .i64 0, .bool false, .int .i64 0])) fun x27 H28 =>
 Do (astore H28 11 x27 x26) fun H29 =>
 Do (afaddr 5 x13) fun x32 =>
 Do (aload H29 2 true x32) fun x33 =>
 Do (afaddr 5 x27) fun x34 =>
 Do (aload H29 2 true x34) fun x35 =>
Φ K.span_Meets [x33, x35] H29 fun x36 H37 =>
 Gd3 x36 true (
 Do (afaddr 5 x13) fun x38 =>
 Do (aload H37 2 true x38) fun x39 =>
 Do (afaddr 5 x27) fun x40 =>
 Do (aload H37 2 true x40) fun x41 =>
 Do (aeqAgg true [.n, .n] x39 x41) fun x42 =>
 JoinP (pair_Alike_k2 Φ s20 L21 Q) [x42] H37) (
 JoinP (pair_Alike_k2 Φ s20 L21 Q) [(.bool false)] H37) (
 False)) (
 JoinP (pair_Alike_k3 Φ s6 L7 Q) [] s20.2)
def pair_Alike_l5 (Φ : Calls') (x1 : AV) (x4 : AV) (x5 : AV) (Q : Post) : (List AV × AH) → ((List AV × AH) → Prop) → Prop := fun s6 L7 =>
 Do (abin .lss (sl s6.1 0) x5) fun x8 =>
 Gd x8 true (
 Do (aiaddr none 11 x4 (sl s6.1 0)) fun x11 =>
 Do (aload s6.2 11 true x11) fun x12 =>
 DoH (some (abox s6.2 true [.int .i64 0, .int .i64 0, .bool false, .bool false, .bool false, .int .i64 0, .int .i64 0, .lst .nil 0 [], .int .i64 0, .bool false, .int .i64 0])) fun x13 H14 =>
 Do (astore H14 11 x13 x12) fun H15 =>
 Do (afaddr 0 x1) fun x16 =>
 Do (aload H15 1 false x16) fun x17 =>
 Do (aslice 11 x17 none (some (sl s6.1 0)) none) fun x18 =>
 Do (alen false x18) fun x19 =>
 LoopP (pair_Alike_l4 Φ x13 x18 x19 s6 L7 Q) ([(.int .i64 0)], H15)) (
 Q (.bool true) s6.2)
def pair_Alike (Φ : Calls') (a0 : AV) (H : AH) (Q : Post) : Prop :=
 DoH (aboxv H false 4 a0) fun x1 H2 =>
 Do (afaddr 0 x1) fun x3 =>
 Do (aload H2 1 false x3) fun x4 =>
 Do (alen false x4) fun x5 =>
 LoopP (pair_Alike_l5 Φ x1 x4 x5 Q) ([(.int .i64 0)], H2)
def ir_pair_Alike : AFunc := ⟨38, [.tmp 2],
 .seq (.region [
   ⟨some 1, .box false 4 (.t 0), none⟩,
   ⟨some 2, .mv (.k (.bool false)), none⟩])
 (.seq (.seq (.region [
   ⟨some 7, .faddr 0 (.t 1), none⟩,
   ⟨some 8, .load 1 false (.t 7), none⟩,
   ⟨some 9, .len false (.t 8), none⟩,
   ⟨some 10, .mv (.k (.int .i64 0)), none⟩])
 (.block 0 (.loop [10] [2, 3, 4, 6, 11, 12, 13, 14, 15, 16, 17, 18, 19, 20, 21, 22, 23, 24, 25, 26, 27, 28, 29, 30, 31, 32, 33, 34, 35, 36, 37] (.seq (.region [
   ⟨some 11, .bin .lss (.t 10) (.t 9), none⟩])
 (.seq (.cond (.t 11) (.skip)
   (.exit 0))
 (.join [] [2, 3, 4, 6, 12, 13, 14, 15, 16, 17, 18, 19, 20, 21, 22, 23, 24, 25, 26, 27, 28, 29, 30, 31, 32, 33, 34, 35, 36] (.block 1 (.seq (.region [
   ⟨some 12, .mv (.t 10), none⟩,
   ⟨some 13, .iaddr none 11 (.t 8) (.t 10), none⟩,
   ⟨some 14, .load 11 true (.t 13), none⟩,
   ⟨some 4, .alloc true [.int .i64 0, .int .i64 0, .bool false, .bool false, .bool false, .int .i64 0, .int .i64 0, .lst .nil 0 [], .int .i64 0, .bool false, .int .i64 0], none⟩,
   ⟨some 3, .mv (.t 12), none⟩,
   ⟨none, .store 11 (.t 4) (.t 14), none⟩])
 (.seq (.region [
   ⟨some 15, .faddr 0 (.t 1), none⟩,
   ⟨some 16, .load 1 false (.t 15), none⟩,
   ⟨some 17, .mv (.t 3), none⟩,
   ⟨some 18, .slice 11 (.t 16) none (some (.t 17)) none, none⟩,
   ⟨some 19, .len false (.t 18), none⟩,
   ⟨some 20, .mv (.k (.int .i64 0)), none⟩])
 (.block 2 (.loop [20] [2, 6, 21, 22, 23, 24, 25, 26, 27, 28, 29, 30, 31, 32, 33, 34, 35, 36] (.seq (.region [
   ⟨some 21, .bin .lss (.t 20) (.t 19), none⟩])
 (.seq (.cond (.t 21) (.skip)
   (.exit 2))
 (.join [] [2, 6, 22, 23, 24, 25, 26, 27, 28, 29, 30, 31, 32, 33, 34, 35] (.block 3 (.seq (.region [
   ⟨some 22, .iaddr none 11 (.t 18) (.t 20), none⟩,
   ⟨some 23, .load 11 true (.t 22), none⟩,
   ⟨some 6, .alloc true [.int .i64 0, .int .i64 0, .bool false, .bool false, .bool false, .int .i64 0, .int .i64 0, .lst .nil 0 [], .int .i64 0, .bool false, .int .i64 0], none⟩,
   ⟨none, .store 11 (.t 6) (.t 23), none⟩])
 (.join [35] [24, 25, 26, 27, 28, 29, 30, 31, 32, 33, 34] (.region [
   ⟨some 24, .faddr 5 (.t 4), none⟩,
   ⟨some 25, .load 2 true (.t 24), none⟩,
   ⟨some 26, .faddr 5 (.t 6), none⟩,
   ⟨some 27, .load 2 true (.t 26), none⟩,
   ⟨some 28, .call K.span_Meets [(.t 25), (.t 27)], none⟩,
   ⟨some 29, .mv (.t 28), none⟩,
   ⟨some 30, .faddr 5 (.t 4), some (29, true)⟩,
   ⟨some 31, .load 2 true (.t 30), some (29, true)⟩,
   ⟨some 32, .faddr 5 (.t 6), some (29, true)⟩,
   ⟨some 33, .load 2 true (.t 32), some (29, true)⟩,
   ⟨some 34, .eqagg true [.n, .n] (.t 31) (.t 33), some (29, true)⟩,
   ⟨some 35, .pick (.t 29) (.t 34) (.k (.bool false)), none⟩])
 (.cond (.t 35) (.seq (.region [
     ⟨some 2, .mv (.k (.bool false)), none⟩])
   (.ret))
   (.skip)))))
 (.region [
   ⟨some 36, .bin .add (.t 20) (.k (.int .i64 1)), none⟩,
   ⟨some 20, .mv (.t 36), none⟩])))))))))
 (.region [
   ⟨some 37, .bin .add (.t 10) (.k (.int .i64 1)), none⟩,
   ⟨some 10, .mv (.t 37), none⟩])))))))
 (.seq (.region [
   ⟨some 2, .mv (.k (.bool true)), none⟩])
 (.ret)))⟩
theorem eq_pair_Alike (Φ : Calls') (a0 : AV) (H : AH) (Q : Post) : fnE1 Φ ir_pair_Alike [a0] H Q = pair_Alike Φ a0 H Q := by kernel_rfl

/-! rabbet/rabbetref21.event -/
def rabbetref21_event_k1 (Φ : Calls') (a1 : AV) (x1 : AV) (Q : Post) : List AV → AH → Prop := fun j50 H51 =>
 Gd3 (sl j50 0) true (
 Do (afaddr 1 x1) fun x59 =>
 Do (aload H51 1 false x59) fun x60 =>
 Do (aiaddr none 1 x60 a1) fun x61 =>
 Do (aload H51 1 false x61) fun x62 =>
 Do (alen false x62) fun x63 =>
 Do (abin .eql x63 (.int .i64 0)) fun x64 =>
 Q x64 H51) (
 Q (.bool false) H51) (
 False)
def rabbetref21_event_k2 (Φ : Calls') (a1 : AV) (x1 : AV) (x7 : AV) (Q : Post) : List AV → AH → Prop := fun j65 H66 =>
 Do (afaddr 2 x7) fun x105 =>
 Do (aload H66 1 false x105) fun x106 =>
 Gd x106 true (
 Do (afaddr 1 x1) fun x107 =>
 Do (aload H66 1 false x107) fun x108 =>
 Do (aiaddr none 1 x108 a1) fun x109 =>
 Do (aload H66 1 false x109) fun x110 =>
 Do (alen false x110) fun x111 =>
 Do (afaddr 5 x7) fun x112 =>
 Do (afaddr 1 x112) fun x113 =>
 Do (aload H66 1 false x113) fun x114 =>
 Do (abin .eql x111 x114) fun x115 =>
 Q x115 H66) (
 Do (afaddr 1 x1) fun x116 =>
 Do (aload H66 1 false x116) fun x117 =>
 Do (aiaddr none 1 x117 a1) fun x118 =>
 Do (aload H66 1 false x118) fun x119 =>
 Do (alen false x119) fun x120 =>
 Do (abin .eql x120 (.int .i64 0)) fun x121 =>
 Q x121 H66)
def rabbetref21_event_k3 (Φ : Calls') (a1 : AV) (x1 : AV) (x7 : AV) (Q : Post) : List AV → AH → Prop := fun j67 H68 =>
 Gd (sl j67 0) true (
 Q (.bool false) H68) (
 JoinP (rabbetref21_event_k2 Φ a1 x1 x7 Q) [] H68)
def rabbetref21_event_k4 (Φ : Calls') (a1 : AV) (x1 : AV) (x7 : AV) (Q : Post) : List AV → AH → Prop := fun j85 H86 =>
 Gd3 (sl j85 0) false (
 Do (afaddr 5 x7) fun x94 =>
 Do (afaddr 0 x94) fun x95 =>
 Do (aload H86 1 false x95) fun x96 =>
 Do (afaddr 5 x7) fun x97 =>
 Do (afaddr 1 x97) fun x98 =>
 Do (aload H86 1 false x98) fun x99 =>
 Do (abin .add x96 x99) fun x100 =>
 Do (afaddr 3 x1) fun x101 =>
 Do (aload H86 1 false x101) fun x102 =>
 Do (abin .add (.int .i64 65536) x102) fun x103 =>
 Do (abin .gtr x100 x103) fun x104 =>
 JoinP (rabbetref21_event_k3 Φ a1 x1 x7 Q) [x104] H86) (
 JoinP (rabbetref21_event_k3 Φ a1 x1 x7 Q) [(.bool true)] H86) (
 False)
def rabbetref21_event_k5 (Φ : Calls') (a1 : AV) (x1 : AV) (x7 : AV) (Q : Post) : List AV → AH → Prop := fun j79 H80 =>
 Gd3 (sl j79 0) false (
 Do (afaddr 5 x7) fun x87 =>
 Do (afaddr 0 x87) fun x88 =>
 Do (aload H80 1 false x88) fun x89 =>
 Do (afaddr 3 x1) fun x90 =>
 Do (aload H80 1 false x90) fun x91 =>
 Do (abin .add (.int .i64 65536) x91) fun x92 =>
 Do (abin .gtr x89 x92) fun x93 =>
 JoinP (rabbetref21_event_k4 Φ a1 x1 x7 Q) [x93] H80) (
 JoinP (rabbetref21_event_k4 Φ a1 x1 x7 Q) [(.bool true)] H80) (
 False)
def rabbetref21_event_k6 (Φ : Calls') (a1 : AV) (x1 : AV) (x7 : AV) (Q : Post) : List AV → AH → Prop := fun j69 H70 =>
 Gd3 (sl j69 0) false (
 Do (afaddr 5 x7) fun x81 =>
 Do (afaddr 0 x81) fun x82 =>
 Do (aload H70 1 false x82) fun x83 =>
 Do (abin .lss x83 (.int .i64 65536)) fun x84 =>
 JoinP (rabbetref21_event_k5 Φ a1 x1 x7 Q) [x84] H70) (
 JoinP (rabbetref21_event_k5 Φ a1 x1 x7 Q) [(.bool true)] H70) (
 False)
def rabbetref21_event_k7 (Φ : Calls') (a1 : AV) (x1 : AV) (x7 : AV) (Q : Post) : List AV → AH → Prop := fun j25 H26 =>
 Do (afaddr 4 x7) fun x48 =>
 Do (aload H26 1 false x48) fun x49 =>
 Gd x49 true (
 Do (afaddr 5 x7) fun x52 =>
 Do (aload H26 2 true x52) fun x53 =>
 Do (abuild [.int .i64 0, .int .i64 0] []) fun x54 =>
 Do (aeqAgg false [.n, .n] x53 x54) fun x55 =>
 Gd3 x55 true (
 Do (afaddr 10 x7) fun x56 =>
 Do (aload H26 1 false x56) fun x57 =>
 Do (abin .eql x57 (.int .i64 0)) fun x58 =>
 JoinP (rabbetref21_event_k1 Φ a1 x1 Q) [x58] H26) (
 JoinP (rabbetref21_event_k1 Φ a1 x1 Q) [(.bool false)] H26) (
 False)) (
 Do (afaddr 5 x7) fun x71 =>
 Do (afaddr 1 x71) fun x72 =>
 Do (aload H26 1 false x72) fun x73 =>
 Do (abin .lss x73 (.int .i64 1)) fun x74 =>
 Gd3 x74 false (
 Do (afaddr 5 x7) fun x75 =>
 Do (afaddr 1 x75) fun x76 =>
 Do (aload H26 1 false x76) fun x77 =>
 Do (abin .gtr x77 (.int .i64 16)) fun x78 =>
 JoinP (rabbetref21_event_k6 Φ a1 x1 x7 Q) [x78] H26) (
 JoinP (rabbetref21_event_k6 Φ a1 x1 x7 Q) [(.bool true)] H26) (
 False))
def rabbetref21_event_k8 (Φ : Calls') (a1 : AV) (x1 : AV) (x7 : AV) (Q : Post) : List AV → AH → Prop := fun j27 H28 =>
 Gd (sl j27 0) true (
 Q (.bool false) H28) (
 JoinP (rabbetref21_event_k7 Φ a1 x1 x7 Q) [] H28)
def rabbetref21_event_k9 (Φ : Calls') (a1 : AV) (x1 : AV) (x7 : AV) (Q : Post) : List AV → AH → Prop := fun j40 H41 =>
 Gd3 (sl j40 0) false (
 Do (afaddr 8 x7) fun x45 =>
 Do (aload H41 1 false x45) fun x46 =>
 Do (abin .gtr x46 (.int .i64 4)) fun x47 =>
 JoinP (rabbetref21_event_k8 Φ a1 x1 x7 Q) [x47] H41) (
 JoinP (rabbetref21_event_k8 Φ a1 x1 x7 Q) [(.bool true)] H41) (
 False)
def rabbetref21_event_k10 (Φ : Calls') (a1 : AV) (x1 : AV) (x7 : AV) (Q : Post) : List AV → AH → Prop := fun j35 H36 =>
 Gd3 (sl j35 0) false (
 Do (afaddr 8 x7) fun x42 =>
 Do (aload H36 1 false x42) fun x43 =>
 Do (abin .lss x43 (.int .i64 0)) fun x44 =>
 JoinP (rabbetref21_event_k9 Φ a1 x1 x7 Q) [x44] H36) (
 JoinP (rabbetref21_event_k9 Φ a1 x1 x7 Q) [(.bool true)] H36) (
 False)
def rabbetref21_event_k11 (Φ : Calls') (a1 : AV) (x1 : AV) (x7 : AV) (Q : Post) : List AV → AH → Prop := fun j29 H30 =>
 Gd3 (sl j29 0) false (
 Do (afaddr 0 x7) fun x37 =>
 Do (aload H30 1 false x37) fun x38 =>
 Do (abin .gtr x38 (.int .i64 7)) fun x39 =>
 JoinP (rabbetref21_event_k10 Φ a1 x1 x7 Q) [x39] H30) (
 JoinP (rabbetref21_event_k10 Φ a1 x1 x7 Q) [(.bool true)] H30) (
 False)
def rabbetref21_event_k12 (Φ : Calls') (a1 : AV) (x1 : AV) (x7 : AV) (Q : Post) : List AV → AH → Prop := fun j20 H21 =>
 Do (abin .neq (sl j20 0) (.int .i64 1)) fun x31 =>
 Gd3 x31 false (
 Do (afaddr 0 x7) fun x32 =>
 Do (aload H21 1 false x32) fun x33 =>
 Do (abin .lss x33 (.int .i64 0)) fun x34 =>
 JoinP (rabbetref21_event_k11 Φ a1 x1 x7 Q) [x34] H21) (
 JoinP (rabbetref21_event_k11 Φ a1 x1 x7 Q) [(.bool true)] H21) (
 False)
def rabbetref21_event_k13 (Φ : Calls') (a1 : AV) (x1 : AV) (x7 : AV) (Q : Post) : List AV → AH → Prop := fun j15 H16 =>
 Do (afaddr 4 x7) fun x22 =>
 Do (aload H16 1 false x22) fun x23 =>
 Gd x23 true (
 Do (abin .add (sl j15 0) (.int .i64 1)) fun x24 =>
 JoinP (rabbetref21_event_k12 Φ a1 x1 x7 Q) [x24] H16) (
 JoinP (rabbetref21_event_k12 Φ a1 x1 x7 Q) [(sl j15 0)] H16)
def rabbetref21_event_k14 (Φ : Calls') (a1 : AV) (x1 : AV) (x7 : AV) (Q : Post) : List AV → AH → Prop := fun j10 H11 =>
 Do (afaddr 3 x7) fun x17 =>
 Do (aload H11 1 false x17) fun x18 =>
 Gd x18 true (
 Do (abin .add (sl j10 0) (.int .i64 1)) fun x19 =>
 JoinP (rabbetref21_event_k13 Φ a1 x1 x7 Q) [x19] H11) (
 JoinP (rabbetref21_event_k13 Φ a1 x1 x7 Q) [(sl j10 0)] H11)
def rabbetref21_event (Φ : Calls') (a0 : AV) (a1 : AV) (H : AH) (Q : Post) : Prop :=
 DoH (aboxv H false 4 a0) fun x1 H2 =>
 Do (afaddr 0 x1) fun x3 =>
 Do (aload H2 1 false x3) fun x4 =>
 Do (aiaddr none 11 x4 a1) fun x5 =>
 Do (aload H2 11 true x5) fun x6 =>
 DoH (some (abox H2 true [.int .i64 0, .int .i64 0, .bool false, .bool false, .bool false, .int .i64 0, .int .i64 0, .lst .nil 0 [], .int .i64 0, .bool false, .int .i64 0])) fun x7 H8 =>
 Do (astore H8 11 x7 x6) fun H9 =>
 Do (afaddr 2 x7) fun x12 =>
 Do (aload H9 1 false x12) fun x13 =>
 Gd x13 true (
 Do (abin .add (.int .i64 0) (.int .i64 1)) fun x14 =>
 JoinP (rabbetref21_event_k14 Φ a1 x1 x7 Q) [x14] H9) (
 JoinP (rabbetref21_event_k14 Φ a1 x1 x7 Q) [(.int .i64 0)] H9)
def ir_rabbetref21_event : AFunc := ⟨123, [.tmp 4],
 .seq (.region [
   ⟨some 2, .box false 4 (.t 0), none⟩,
   ⟨some 4, .mv (.k (.bool false)), none⟩])
 (.seq (.region [
   ⟨some 7, .faddr 0 (.t 2), none⟩,
   ⟨some 8, .load 1 false (.t 7), none⟩,
   ⟨some 9, .mv (.t 1), none⟩,
   ⟨some 10, .iaddr none 11 (.t 8) (.t 9), none⟩,
   ⟨some 11, .load 11 true (.t 10), none⟩,
   ⟨some 5, .alloc true [.int .i64 0, .int .i64 0, .bool false, .bool false, .bool false, .int .i64 0, .int .i64 0, .lst .nil 0 [], .int .i64 0, .bool false, .int .i64 0], none⟩,
   ⟨none, .store 11 (.t 5) (.t 11), none⟩])
 (.seq (.region [
   ⟨some 6, .mv (.k (.int .i64 0)), none⟩])
 (.join [6] [12, 13, 14, 15] (.seq (.region [
   ⟨some 12, .faddr 2 (.t 5), none⟩,
   ⟨some 13, .load 1 false (.t 12), none⟩])
 (.cond (.t 13) (.region [
     ⟨some 14, .mv (.t 6), none⟩,
     ⟨some 15, .bin .add (.t 14) (.k (.int .i64 1)), none⟩,
     ⟨some 6, .mv (.t 15), none⟩])
   (.skip)))
 (.join [6] [16, 17, 18, 19] (.seq (.region [
   ⟨some 16, .faddr 3 (.t 5), none⟩,
   ⟨some 17, .load 1 false (.t 16), none⟩])
 (.cond (.t 17) (.region [
     ⟨some 18, .mv (.t 6), none⟩,
     ⟨some 19, .bin .add (.t 18) (.k (.int .i64 1)), none⟩,
     ⟨some 6, .mv (.t 19), none⟩])
   (.skip)))
 (.join [6] [20, 21, 22, 23] (.seq (.region [
   ⟨some 20, .faddr 4 (.t 5), none⟩,
   ⟨some 21, .load 1 false (.t 20), none⟩])
 (.cond (.t 21) (.region [
     ⟨some 22, .mv (.t 6), none⟩,
     ⟨some 23, .bin .add (.t 22) (.k (.int .i64 1)), none⟩,
     ⟨some 6, .mv (.t 23), none⟩])
   (.skip)))
 (.join [] [4, 24, 25, 26, 27, 28, 29, 30, 31, 32, 33, 34, 35, 36, 37, 38, 39, 40, 41, 42, 43, 44, 45] (.join [45] [24, 25, 26, 27, 28, 29, 30, 31, 32, 33, 34, 35, 36, 37, 38, 39, 40, 41, 42, 43, 44] (.rjoin [30] [24, 25, 26, 27, 28, 29] [
   ⟨some 24, .mv (.t 6), none⟩,
   ⟨some 25, .bin .neq (.t 24) (.k (.int .i64 1)), none⟩,
   ⟨some 26, .mv (.t 25), none⟩,
   ⟨some 27, .faddr 0 (.t 5), some (26, false)⟩,
   ⟨some 28, .load 1 false (.t 27), some (26, false)⟩,
   ⟨some 29, .bin .lss (.t 28) (.k (.int .i64 0)), some (26, false)⟩,
   ⟨some 30, .pick (.t 26) (.k (.bool true)) (.t 29), none⟩]
 (.rjoin [35] [31, 32, 33, 34] [
   ⟨some 31, .mv (.t 30), none⟩,
   ⟨some 32, .faddr 0 (.t 5), some (31, false)⟩,
   ⟨some 33, .load 1 false (.t 32), some (31, false)⟩,
   ⟨some 34, .bin .gtr (.t 33) (.k (.int .i64 7)), some (31, false)⟩,
   ⟨some 35, .pick (.t 31) (.k (.bool true)) (.t 34), none⟩]
 (.rjoin [40] [36, 37, 38, 39] [
   ⟨some 36, .mv (.t 35), none⟩,
   ⟨some 37, .faddr 8 (.t 5), some (36, false)⟩,
   ⟨some 38, .load 1 false (.t 37), some (36, false)⟩,
   ⟨some 39, .bin .lss (.t 38) (.k (.int .i64 0)), some (36, false)⟩,
   ⟨some 40, .pick (.t 36) (.k (.bool true)) (.t 39), none⟩]
 (.region [
   ⟨some 41, .mv (.t 40), none⟩,
   ⟨some 42, .faddr 8 (.t 5), some (41, false)⟩,
   ⟨some 43, .load 1 false (.t 42), some (41, false)⟩,
   ⟨some 44, .bin .gtr (.t 43) (.k (.int .i64 4)), some (41, false)⟩,
   ⟨some 45, .pick (.t 41) (.k (.bool true)) (.t 44), none⟩]))))
 (.cond (.t 45) (.seq (.region [
     ⟨some 4, .mv (.k (.bool false)), none⟩])
   (.ret))
   (.skip)))
 (.seq (.seq (.region [
   ⟨some 46, .faddr 4 (.t 5), none⟩,
   ⟨some 47, .load 1 false (.t 46), none⟩])
 (.cond (.t 47) (.seq (.rjoin [56] [48, 49, 50, 51, 52, 53, 54, 55] [
     ⟨some 48, .faddr 5 (.t 5), none⟩,
     ⟨some 49, .load 2 true (.t 48), none⟩,
     ⟨some 50, .build [.int .i64 0, .int .i64 0] [], none⟩,
     ⟨some 51, .eqagg false [.n, .n] (.t 49) (.t 50), none⟩,
     ⟨some 52, .mv (.t 51), none⟩,
     ⟨some 53, .faddr 10 (.t 5), some (52, true)⟩,
     ⟨some 54, .load 1 false (.t 53), some (52, true)⟩,
     ⟨some 55, .bin .eql (.t 54) (.k (.int .i64 0)), some (52, true)⟩,
     ⟨some 56, .pick (.t 52) (.t 55) (.k (.bool false)), none⟩]
   (.region [
     ⟨some 57, .mv (.t 56), none⟩,
     ⟨some 58, .faddr 1 (.t 2), some (57, true)⟩,
     ⟨some 59, .load 1 false (.t 58), some (57, true)⟩,
     ⟨some 60, .mv (.t 1), some (57, true)⟩,
     ⟨some 61, .iaddr none 1 (.t 59) (.t 60), some (57, true)⟩,
     ⟨some 62, .load 1 false (.t 61), some (57, true)⟩,
     ⟨some 63, .len false (.t 62), some (57, true)⟩,
     ⟨some 64, .bin .eql (.t 63) (.k (.int .i64 0)), some (57, true)⟩,
     ⟨some 65, .pick (.t 57) (.t 64) (.k (.bool false)), none⟩,
     ⟨some 4, .mv (.t 65), none⟩]))
   (.ret))
   (.skip)))
 (.join [] [4, 66, 67, 68, 69, 70, 71, 72, 73, 74, 75, 76, 77, 78, 79, 80, 81, 82, 83, 84, 85, 86, 87, 88, 89, 90, 91, 92, 93, 94, 95, 96, 97, 98, 99, 100, 101, 102, 103] (.join [103] [66, 67, 68, 69, 70, 71, 72, 73, 74, 75, 76, 77, 78, 79, 80, 81, 82, 83, 84, 85, 86, 87, 88, 89, 90, 91, 92, 93, 94, 95, 96, 97, 98, 99, 100, 101, 102] (.rjoin [75] [66, 67, 68, 69, 70, 71, 72, 73, 74] [
   ⟨some 66, .faddr 5 (.t 5), none⟩,
   ⟨some 67, .faddr 1 (.t 66), none⟩,
   ⟨some 68, .load 1 false (.t 67), none⟩,
   ⟨some 69, .bin .lss (.t 68) (.k (.int .i64 1)), none⟩,
   ⟨some 70, .mv (.t 69), none⟩,
   ⟨some 71, .faddr 5 (.t 5), some (70, false)⟩,
   ⟨some 72, .faddr 1 (.t 71), some (70, false)⟩,
   ⟨some 73, .load 1 false (.t 72), some (70, false)⟩,
   ⟨some 74, .bin .gtr (.t 73) (.k (.int .i64 16)), some (70, false)⟩,
   ⟨some 75, .pick (.t 70) (.k (.bool true)) (.t 74), none⟩]
 (.rjoin [81] [76, 77, 78, 79, 80] [
   ⟨some 76, .mv (.t 75), none⟩,
   ⟨some 77, .faddr 5 (.t 5), some (76, false)⟩,
   ⟨some 78, .faddr 0 (.t 77), some (76, false)⟩,
   ⟨some 79, .load 1 false (.t 78), some (76, false)⟩,
   ⟨some 80, .bin .lss (.t 79) (.k (.int .i64 65536)), some (76, false)⟩,
   ⟨some 81, .pick (.t 76) (.k (.bool true)) (.t 80), none⟩]
 (.rjoin [90] [82, 83, 84, 85, 86, 87, 88, 89] [
   ⟨some 82, .mv (.t 81), none⟩,
   ⟨some 83, .faddr 5 (.t 5), some (82, false)⟩,
   ⟨some 84, .faddr 0 (.t 83), some (82, false)⟩,
   ⟨some 85, .load 1 false (.t 84), some (82, false)⟩,
   ⟨some 86, .faddr 3 (.t 2), some (82, false)⟩,
   ⟨some 87, .load 1 false (.t 86), some (82, false)⟩,
   ⟨some 88, .bin .add (.k (.int .i64 65536)) (.t 87), some (82, false)⟩,
   ⟨some 89, .bin .gtr (.t 85) (.t 88), some (82, false)⟩,
   ⟨some 90, .pick (.t 82) (.k (.bool true)) (.t 89), none⟩]
 (.region [
   ⟨some 91, .mv (.t 90), none⟩,
   ⟨some 92, .faddr 5 (.t 5), some (91, false)⟩,
   ⟨some 93, .faddr 0 (.t 92), some (91, false)⟩,
   ⟨some 94, .load 1 false (.t 93), some (91, false)⟩,
   ⟨some 95, .faddr 5 (.t 5), some (91, false)⟩,
   ⟨some 96, .faddr 1 (.t 95), some (91, false)⟩,
   ⟨some 97, .load 1 false (.t 96), some (91, false)⟩,
   ⟨some 98, .bin .add (.t 94) (.t 97), some (91, false)⟩,
   ⟨some 99, .faddr 3 (.t 2), some (91, false)⟩,
   ⟨some 100, .load 1 false (.t 99), some (91, false)⟩,
   ⟨some 101, .bin .add (.k (.int .i64 65536)) (.t 100), some (91, false)⟩,
   ⟨some 102, .bin .gtr (.t 98) (.t 101), some (91, false)⟩,
   ⟨some 103, .pick (.t 91) (.k (.bool true)) (.t 102), none⟩]))))
 (.cond (.t 103) (.seq (.region [
     ⟨some 4, .mv (.k (.bool false)), none⟩])
   (.ret))
   (.skip)))
 (.seq (.seq (.region [
   ⟨some 104, .faddr 2 (.t 5), none⟩,
   ⟨some 105, .load 1 false (.t 104), none⟩])
 (.cond (.t 105) (.seq (.draw [
     ⟨some 106, .faddr 1 (.t 2), none⟩,
     ⟨some 107, .load 1 false (.t 106), none⟩,
     ⟨some 108, .mv (.t 1), none⟩,
     ⟨some 109, .iaddr none 1 (.t 107) (.t 108), none⟩,
     ⟨some 110, .load 1 false (.t 109), none⟩,
     ⟨some 111, .len false (.t 110), none⟩,
     ⟨some 112, .faddr 5 (.t 5), none⟩,
     ⟨some 113, .faddr 1 (.t 112), none⟩,
     ⟨some 114, .load 1 false (.t 113), none⟩,
     ⟨some 115, .bin .eql (.t 111) (.t 114), none⟩,
     ⟨some 4, .mv (.t 115), none⟩]
   [[], [0], [], [0, 1, 2], [0, 1, 2, 3], [0, 1, 2, 3, 4], [], [6], [6, 7], [0, 1, 2, 3, 4, 5, 6, 7, 8], [0, 1, 2, 3, 4, 5, 6, 7, 8, 9]] [] [0, 1, 2, 3, 4, 5, 6, 7, 8, 9, 10])
   (.ret))
   (.skip)))
 (.seq (.region [
   ⟨some 116, .faddr 1 (.t 2), none⟩,
   ⟨some 117, .load 1 false (.t 116), none⟩,
   ⟨some 118, .mv (.t 1), none⟩,
   ⟨some 119, .iaddr none 1 (.t 117) (.t 118), none⟩,
   ⟨some 120, .load 1 false (.t 119), none⟩,
   ⟨some 121, .len false (.t 120), none⟩,
   ⟨some 122, .bin .eql (.t 121) (.k (.int .i64 0)), none⟩,
   ⟨some 4, .mv (.t 122), none⟩])
 (.ret)))))))))))⟩
theorem eq_rabbetref21_event (Φ : Calls') (a0 a1 : AV) (H : AH) (Q : Post) : fnE1 Φ ir_rabbetref21_event [a0, a1] H Q = rabbetref21_event Φ a0 a1 H Q := by kernel_rfl

/-! rabbet/rabbetref21.paired -/
def rabbetref21_paired_k1 (Φ : Calls') (a1 : AV) (x7 : AV) (x40 : AV) (Q : Post) : List AV → AH → Prop := fun j74 H75 =>
 Gd3 (sl j74 0) true (
 Do (afaddr 2 x7) fun x81 =>
 Do (aload H75 1 false x81) fun x82 =>
 Do (abin .lss a1 x40) fun x83 =>
 Do (abeq false x82 x83) fun x84 =>
 Q x84 H75) (
 Q (.bool false) H75) (
 False)
def rabbetref21_paired_k2 (Φ : Calls') (a1 : AV) (x7 : AV) (x33 : AV) (x40 : AV) (Q : Post) : List AV → AH → Prop := fun j67 H68 =>
 Gd3 (sl j67 0) true (
 Do (afaddr 5 x7) fun x76 =>
 Do (aload H68 2 true x76) fun x77 =>
 Do (afaddr 5 x33) fun x78 =>
 Do (aload H68 2 true x78) fun x79 =>
 Do (aeqAgg false [.n, .n] x77 x79) fun x80 =>
 JoinP (rabbetref21_paired_k1 Φ a1 x7 x40 Q) [x80] H68) (
 JoinP (rabbetref21_paired_k1 Φ a1 x7 x40 Q) [(.bool false)] H68) (
 False)
def rabbetref21_paired_k3 (Φ : Calls') (a1 : AV) (x7 : AV) (x33 : AV) (x40 : AV) (Q : Post) : List AV → AH → Prop := fun j63 H64 =>
 Gd3 (sl j63 0) true (
 Do (afaddr 0 x7) fun x69 =>
 Do (aload H64 1 false x69) fun x70 =>
 Do (afaddr 0 x33) fun x71 =>
 Do (aload H64 1 false x71) fun x72 =>
 Do (abin .eql x70 x72) fun x73 =>
 JoinP (rabbetref21_paired_k2 Φ a1 x7 x33 x40 Q) [x73] H64) (
 JoinP (rabbetref21_paired_k2 Φ a1 x7 x33 x40 Q) [(.bool false)] H64) (
 False)
def rabbetref21_paired_k4 (Φ : Calls') (a1 : AV) (x7 : AV) (x33 : AV) (x40 : AV) (x43 : AV) (Q : Post) : List AV → AH → Prop := fun j55 H56 =>
 Gd3 (sl j55 0) true (
 Do (afaddr 3 x43) fun x65 =>
 Do (aload H56 1 false x65) fun x66 =>
 JoinP (rabbetref21_paired_k3 Φ a1 x7 x33 x40 Q) [x66] H56) (
 JoinP (rabbetref21_paired_k3 Φ a1 x7 x33 x40 Q) [(.bool false)] H56) (
 False)
def rabbetref21_paired_k5 (Φ : Calls') (a1 : AV) (x7 : AV) (x33 : AV) (x40 : AV) (x41 : AV) (x43 : AV) (Q : Post) : List AV → AH → Prop := fun j47 H48 =>
 Do (afaddr 10 x33) fun x57 =>
 Do (aload H48 1 false x57) fun x58 =>
 Do (abin .add a1 (.int .i64 1)) fun x59 =>
 Do (abin .eql x58 x59) fun x60 =>
 Gd3 x60 true (
 Do (afaddr 2 x41) fun x61 =>
 Do (aload H48 1 false x61) fun x62 =>
 JoinP (rabbetref21_paired_k4 Φ a1 x7 x33 x40 x43 Q) [x62] H48) (
 JoinP (rabbetref21_paired_k4 Φ a1 x7 x33 x40 x43 Q) [(.bool false)] H48) (
 False)
def rabbetref21_paired_k6 (Φ : Calls') (a1 : AV) (x1 : AV) (x7 : AV) (Q : Post) : List AV → AH → Prop := fun j13 H14 =>
 Do (afaddr 0 x1) fun x26 =>
 Do (aload H14 1 false x26) fun x27 =>
 Do (afaddr 10 x7) fun x28 =>
 Do (aload H14 1 false x28) fun x29 =>
 Do (abin .sub x29 (.int .i64 1)) fun x30 =>
 Do (aiaddr none 11 x27 x30) fun x31 =>
 Do (aload H14 11 true x31) fun x32 =>
 DoH (some (abox H14 true [.int .i64 0, .int .i64 0, .bool false, .bool false, .bool false, .int .i64 0, .int .i64 0, .lst .nil 0 [], .int .i64 0, .bool false, .int .i64 0])) fun x33 H34 =>
 Do (astore H34 11 x33 x32) fun H35 =>
 Do (aload H35 11 true x7) fun x36 =>
 Do (aload H35 11 true x33) fun x37 =>
 Do (afaddr 10 x7) fun x38 =>
 Do (aload H35 1 false x38) fun x39 =>
 Do (abin .sub x39 (.int .i64 1)) fun x40 =>
 DoH (some (abox H35 true [.int .i64 0, .int .i64 0, .bool false, .bool false, .bool false, .int .i64 0, .int .i64 0, .lst .nil 0 [], .int .i64 0, .bool false, .int .i64 0])) fun x41 H42 =>
(aload H42 11 true x7 = some x36) ∧
(aload H42 11 true x33 = some x37) ∧
(aload H42 1 false x38 = some x39) ∧
(DoH (some (abox H42 true [.int .i64 0, .int .i64 0, .bool false, .bool false, .bool false, .int .i64 0, .int .i64 0, .lst .nil 0 [], .int .i64 0, .bool false, .int .i64 0])) fun x43 H44 =>
(aload H44 11 true x7 = some x36) ∧
(aload H44 11 true x33 = some x37) ∧
(aload H44 1 false x38 = some x39) ∧
(Do (astore H44 11 x41 x36) fun H45 =>
(aload H45 11 true x33 = some x37) ∧
(aload H45 1 false x38 = some x39) ∧
(Do (astore H45 11 x43 x37) fun H46 =>
(aload H46 1 false x38 = some x39) ∧
(Do (afaddr 3 x7) fun x49 =>
 Do (aload H46 1 false x49) fun x50 =>
 Gd x50 true (
 Do (aload H46 11 true x33) fun x51 =>
 Do (aload H46 11 true x7) fun x52 =>
 Do (astore H46 11 x41 x51) fun H53 =>
(aload H53 11 true x7 = some x52) ∧
(Do (astore H53 11 x43 x52) fun H54 =>
 JoinP (rabbetref21_paired_k5 Φ a1 x7 x33 x40 x41 x43 Q) [] H54)) (
 JoinP (rabbetref21_paired_k5 Φ a1 x7 x33 x40 x41 x43 Q) [] H46)))))
def rabbetref21_paired_k7 (Φ : Calls') (a1 : AV) (x1 : AV) (x7 : AV) (Q : Post) : List AV → AH → Prop := fun j15 H16 =>
 Gd (sl j15 0) true (
 Q (.bool false) H16) (
 JoinP (rabbetref21_paired_k6 Φ a1 x1 x7 Q) [] H16)
def rabbetref21_paired (Φ : Calls') (a0 : AV) (a1 : AV) (H : AH) (Q : Post) : Prop :=
 DoH (aboxv H false 4 a0) fun x1 H2 =>
 Do (afaddr 0 x1) fun x3 =>
 Do (aload H2 1 false x3) fun x4 =>
 Do (aiaddr none 11 x4 a1) fun x5 =>
 Do (aload H2 11 true x5) fun x6 =>
 DoH (some (abox H2 true [.int .i64 0, .int .i64 0, .bool false, .bool false, .bool false, .int .i64 0, .int .i64 0, .lst .nil 0 [], .int .i64 0, .bool false, .int .i64 0])) fun x7 H8 =>
 Do (astore H8 11 x7 x6) fun H9 =>
 Do (afaddr 10 x7) fun x10 =>
 Do (aload H9 1 false x10) fun x11 =>
 Do (abin .eql x11 (.int .i64 0)) fun x12 =>
 Gd x12 true (
 Q (.bool true) H9) (
 Do (afaddr 10 x7) fun x17 =>
 Do (aload H9 1 false x17) fun x18 =>
 Do (abin .lss x18 (.int .i64 1)) fun x19 =>
 Gd3 x19 false (
 Do (afaddr 10 x7) fun x20 =>
 Do (aload H9 1 false x20) fun x21 =>
 Do (afaddr 0 x1) fun x22 =>
 Do (aload H9 1 false x22) fun x23 =>
 Do (alen false x23) fun x24 =>
 Do (abin .gtr x21 x24) fun x25 =>
 JoinP (rabbetref21_paired_k7 Φ a1 x1 x7 Q) [x25] H9) (
 JoinP (rabbetref21_paired_k7 Φ a1 x1 x7 Q) [(.bool true)] H9) (
 False))
def ir_rabbetref21_paired : AFunc := ⟨80, [.tmp 4],
 .seq (.region [
   ⟨some 2, .box false 4 (.t 0), none⟩,
   ⟨some 4, .mv (.k (.bool false)), none⟩])
 (.seq (.region [
   ⟨some 10, .faddr 0 (.t 2), none⟩,
   ⟨some 11, .load 1 false (.t 10), none⟩,
   ⟨some 12, .mv (.t 1), none⟩,
   ⟨some 13, .iaddr none 11 (.t 11) (.t 12), none⟩,
   ⟨some 14, .load 11 true (.t 13), none⟩,
   ⟨some 5, .alloc true [.int .i64 0, .int .i64 0, .bool false, .bool false, .bool false, .int .i64 0, .int .i64 0, .lst .nil 0 [], .int .i64 0, .bool false, .int .i64 0], none⟩,
   ⟨none, .store 11 (.t 5) (.t 14), none⟩])
 (.seq (.seq (.region [
   ⟨some 15, .faddr 10 (.t 5), none⟩,
   ⟨some 16, .load 1 false (.t 15), none⟩,
   ⟨some 17, .bin .eql (.t 16) (.k (.int .i64 0)), none⟩])
 (.cond (.t 17) (.seq (.region [
     ⟨some 4, .mv (.k (.bool true)), none⟩])
   (.ret))
   (.skip)))
 (.join [] [4, 18, 19, 20, 21, 22, 23, 24, 25, 26, 27, 28] (.join [28] [18, 19, 20, 21, 22, 23, 24, 25, 26, 27] (.region [
   ⟨some 18, .faddr 10 (.t 5), none⟩,
   ⟨some 19, .load 1 false (.t 18), none⟩,
   ⟨some 20, .bin .lss (.t 19) (.k (.int .i64 1)), none⟩,
   ⟨some 21, .mv (.t 20), none⟩,
   ⟨some 22, .faddr 10 (.t 5), some (21, false)⟩,
   ⟨some 23, .load 1 false (.t 22), some (21, false)⟩,
   ⟨some 24, .faddr 0 (.t 2), some (21, false)⟩,
   ⟨some 25, .load 1 false (.t 24), some (21, false)⟩,
   ⟨some 26, .len false (.t 25), some (21, false)⟩,
   ⟨some 27, .bin .gtr (.t 23) (.t 26), some (21, false)⟩,
   ⟨some 28, .pick (.t 21) (.k (.bool true)) (.t 27), none⟩])
 (.cond (.t 28) (.seq (.region [
     ⟨some 4, .mv (.k (.bool false)), none⟩])
   (.ret))
   (.skip)))
 (.seq (.region [
   ⟨some 29, .faddr 0 (.t 2), none⟩,
   ⟨some 30, .load 1 false (.t 29), none⟩,
   ⟨some 31, .faddr 10 (.t 5), none⟩,
   ⟨some 32, .load 1 false (.t 31), none⟩,
   ⟨some 33, .bin .sub (.t 32) (.k (.int .i64 1)), none⟩,
   ⟨some 34, .iaddr none 11 (.t 30) (.t 33), none⟩,
   ⟨some 35, .load 11 true (.t 34), none⟩,
   ⟨some 6, .alloc true [.int .i64 0, .int .i64 0, .bool false, .bool false, .bool false, .int .i64 0, .int .i64 0, .lst .nil 0 [], .int .i64 0, .bool false, .int .i64 0], none⟩,
   ⟨none, .store 11 (.t 6) (.t 35), none⟩])
 (.seq (.draw [
   ⟨some 36, .load 11 true (.t 5), none⟩,
   ⟨some 37, .load 11 true (.t 6), none⟩,
   ⟨some 38, .faddr 10 (.t 5), none⟩,
   ⟨some 39, .load 1 false (.t 38), none⟩,
   ⟨some 40, .bin .sub (.t 39) (.k (.int .i64 1)), none⟩,
   ⟨some 7, .alloc true [.int .i64 0, .int .i64 0, .bool false, .bool false, .bool false, .int .i64 0, .int .i64 0, .lst .nil 0 [], .int .i64 0, .bool false, .int .i64 0], none⟩,
   ⟨some 8, .alloc true [.int .i64 0, .int .i64 0, .bool false, .bool false, .bool false, .int .i64 0, .int .i64 0, .lst .nil 0 [], .int .i64 0, .bool false, .int .i64 0], none⟩,
   ⟨none, .store 11 (.t 7) (.t 36), none⟩,
   ⟨none, .store 11 (.t 8) (.t 37), none⟩,
   ⟨some 9, .mv (.t 40), none⟩]
 [[], [], [], [2], [2, 3], [], [], [0, 5, 6], [0, 1, 5, 6, 7], [0, 1, 2, 3, 4, 5, 6, 7, 8]] [([0, 1, 2, 3, 4], 5, [0, 1, 3]), ([], 6, [0, 1, 3]), ([], 7, [1, 3]), ([], 8, [3])] [9])
 (.join [] [41, 42, 43, 44] (.seq (.region [
   ⟨some 41, .faddr 3 (.t 5), none⟩,
   ⟨some 42, .load 1 false (.t 41), none⟩])
 (.cond (.t 42) (.draw [
     ⟨some 43, .load 11 true (.t 6), none⟩,
     ⟨some 44, .load 11 true (.t 5), none⟩,
     ⟨none, .store 11 (.t 7) (.t 43), none⟩,
     ⟨none, .store 11 (.t 8) (.t 44), none⟩]
   [[], [], [0], [0, 1, 2]] [([0, 1], 2, [1]), ([], 3, [])] [])
   (.skip)))
 (.seq (.rjoin [53] [45, 46, 47, 48, 49, 50, 51, 52] [
   ⟨some 45, .faddr 10 (.t 6), none⟩,
   ⟨some 46, .load 1 false (.t 45), none⟩,
   ⟨some 47, .mv (.t 1), none⟩,
   ⟨some 48, .bin .add (.t 47) (.k (.int .i64 1)), none⟩,
   ⟨some 49, .bin .eql (.t 46) (.t 48), none⟩,
   ⟨some 50, .mv (.t 49), none⟩,
   ⟨some 51, .faddr 2 (.t 7), some (50, true)⟩,
   ⟨some 52, .load 1 false (.t 51), some (50, true)⟩,
   ⟨some 53, .pick (.t 50) (.t 52) (.k (.bool false)), none⟩]
 (.rjoin [57] [54, 55, 56] [
   ⟨some 54, .mv (.t 53), none⟩,
   ⟨some 55, .faddr 3 (.t 8), some (54, true)⟩,
   ⟨some 56, .load 1 false (.t 55), some (54, true)⟩,
   ⟨some 57, .pick (.t 54) (.t 56) (.k (.bool false)), none⟩]
 (.rjoin [64] [58, 59, 60, 61, 62, 63] [
   ⟨some 58, .mv (.t 57), none⟩,
   ⟨some 59, .faddr 0 (.t 5), some (58, true)⟩,
   ⟨some 60, .load 1 false (.t 59), some (58, true)⟩,
   ⟨some 61, .faddr 0 (.t 6), some (58, true)⟩,
   ⟨some 62, .load 1 false (.t 61), some (58, true)⟩,
   ⟨some 63, .bin .eql (.t 60) (.t 62), some (58, true)⟩,
   ⟨some 64, .pick (.t 58) (.t 63) (.k (.bool false)), none⟩]
 (.rjoin [71] [65, 66, 67, 68, 69, 70] [
   ⟨some 65, .mv (.t 64), none⟩,
   ⟨some 66, .faddr 5 (.t 5), some (65, true)⟩,
   ⟨some 67, .load 2 true (.t 66), some (65, true)⟩,
   ⟨some 68, .faddr 5 (.t 6), some (65, true)⟩,
   ⟨some 69, .load 2 true (.t 68), some (65, true)⟩,
   ⟨some 70, .eqagg false [.n, .n] (.t 67) (.t 69), some (65, true)⟩,
   ⟨some 71, .pick (.t 65) (.t 70) (.k (.bool false)), none⟩]
 (.region [
   ⟨some 72, .mv (.t 71), none⟩,
   ⟨some 73, .faddr 2 (.t 5), some (72, true)⟩,
   ⟨some 74, .load 1 false (.t 73), some (72, true)⟩,
   ⟨some 75, .mv (.t 1), some (72, true)⟩,
   ⟨some 76, .mv (.t 9), some (72, true)⟩,
   ⟨some 77, .bin .lss (.t 75) (.t 76), some (72, true)⟩,
   ⟨some 78, .beq false (.t 74) (.t 77), some (72, true)⟩,
   ⟨some 79, .pick (.t 72) (.t 78) (.k (.bool false)), none⟩,
   ⟨some 4, .mv (.t 79), none⟩])))))
 (.ret))))))))⟩
theorem eq_rabbetref21_paired (Φ : Calls') (a0 a1 : AV) (H : AH) (Q : Post) : fnE1 Φ ir_rabbetref21_paired [a0, a1] H Q = rabbetref21_paired Φ a0 a1 H Q := by kernel_rfl

/-! rabbet/rabbetref21.has -/
def rabbetref21_has (Φ : Calls') (a0 : AV) (a1 : AV) (H : AH) (Q : Post) : Prop :=
 DoH (aboxv H false 2 a0) fun x1 H2 =>
 Do (afaddr 0 x1) fun x3 =>
 Do (aload H2 1 false x3) fun x4 =>
 Do (abin .geq a1 x4) fun x5 =>
 Gd3 x5 true (
 Do (afaddr 0 x1) fun x6 =>
 Do (aload H2 1 false x6) fun x7 =>
 Do (afaddr 1 x1) fun x8 =>
 Do (aload H2 1 false x8) fun x9 =>
 Do (abin .add x7 x9) fun x10 =>
 Do (abin .lss a1 x10) fun x11 =>
 Q x11 H2) (
 Q (.bool false) H2) (
 False)
def ir_rabbetref21_has : AFunc := ⟨18, [.tmp 4],
 .seq (.region [
   ⟨some 2, .box false 2 (.t 0), none⟩,
   ⟨some 4, .mv (.k (.bool false)), none⟩])
 (.seq (.region [
   ⟨some 5, .mv (.t 1), none⟩,
   ⟨some 6, .faddr 0 (.t 2), none⟩,
   ⟨some 7, .load 1 false (.t 6), none⟩,
   ⟨some 8, .bin .geq (.t 5) (.t 7), none⟩,
   ⟨some 9, .mv (.t 8), none⟩,
   ⟨some 10, .mv (.t 1), some (9, true)⟩,
   ⟨some 11, .faddr 0 (.t 2), some (9, true)⟩,
   ⟨some 12, .load 1 false (.t 11), some (9, true)⟩,
   ⟨some 13, .faddr 1 (.t 2), some (9, true)⟩,
   ⟨some 14, .load 1 false (.t 13), some (9, true)⟩,
   ⟨some 15, .bin .add (.t 12) (.t 14), some (9, true)⟩,
   ⟨some 16, .bin .lss (.t 10) (.t 15), some (9, true)⟩,
   ⟨some 17, .pick (.t 9) (.t 16) (.k (.bool false)), none⟩,
   ⟨some 4, .mv (.t 17), none⟩])
 (.ret))⟩
theorem eq_rabbetref21_has (Φ : Calls') (a0 a1 : AV) (H : AH) (Q : Post) : fnE1 Φ ir_rabbetref21_has [a0, a1] H Q = rabbetref21_has Φ a0 a1 H Q := by kernel_rfl

/-! rabbet/span.Meets -/
def span_Meets (Φ : Calls') (a0 : AV) (a1 : AV) (H : AH) (Q : Post) : Prop :=
 DoH (aboxv H false 2 a0) fun x1 H2 =>
 DoH (aboxv H2 false 2 a1) fun x3 H4 =>
 Do (aload H4 2 true x1) fun x5 =>
 Do (aload H4 2 true x3) fun x6 =>
Φ K.span_of [x5] H4 fun x7 H8 =>
(aload H8 2 true x3 = some x6) ∧
(Φ K.span_of [x6] H8 fun x9 H10 =>
Φ K.span_bytes_both [x7, x9] H10 fun x11 H12 =>
Φ K.span_bytes_empty [x11] H12 fun x13 H14 =>
 Do (aun .not x13) fun x15 =>
 Q x15 H14)
def ir_span_Meets : AFunc := ⟨12, [.tmp 4],
 .seq (.region [
   ⟨some 2, .box false 2 (.t 0), none⟩,
   ⟨some 3, .box false 2 (.t 1), none⟩,
   ⟨some 4, .mv (.k (.bool false)), none⟩])
 (.seq (.draw [
   ⟨some 5, .load 2 true (.t 2), none⟩,
   ⟨some 6, .call K.span_of [(.t 5)], none⟩,
   ⟨some 7, .load 2 true (.t 3), none⟩,
   ⟨some 8, .call K.span_of [(.t 7)], none⟩,
   ⟨some 9, .call K.span_bytes_both [(.t 6), (.t 8)], none⟩,
   ⟨some 10, .call K.span_bytes_empty [(.t 9)], none⟩,
   ⟨some 11, .un .not (.t 10), none⟩,
   ⟨some 4, .mv (.t 11), none⟩]
 [[], [0], [], [0, 1, 2], [0, 1, 2, 3], [0, 1, 2, 3, 4], [0, 1, 2, 3, 4, 5], [0, 1, 2, 3, 4, 5, 6]] [([0, 2], 1, [2]), ([], 3, []), ([], 4, []), ([], 5, [])] [6, 7])
 (.ret))⟩
theorem eq_span_Meets (Φ : Calls') (a0 a1 : AV) (H : AH) (Q : Post) : fnE1 Φ ir_span_Meets [a0, a1] H Q = span_Meets Φ a0 a1 H Q := by kernel_rfl

/-! rabbet/span.of -/
def span_of (Φ : Calls') (a0 : AV) (H : AH) (Q : Post) : Prop :=
 DoH (aboxv H false 2 a0) fun x1 H2 =>
 DoH (some (abox H2 true [.int .i64 0, .int .i64 0])) fun x3 H4 =>
 Do (aload H4 2 true x1) fun x5 =>
Φ K.span_sound [x5] H4 fun x6 H7 =>
 Do (aun .not x6) fun x8 =>
 Gd x8 true (
 Do (abuild [.int .i64 0, .int .i64 0] []) fun x9 =>
 Do (astore H7 2 x3 x9) fun H10 =>
 Do (aload H10 2 true x3) fun x11 =>
 Q x11 H10) (
 Do (afaddr 0 x1) fun x12 =>
 Do (aload H7 1 false x12) fun x13 =>
 Do (afaddr 0 x1) fun x14 =>
 Do (aload H7 1 false x14) fun x15 =>
 Do (afaddr 1 x1) fun x16 =>
 Do (aload H7 1 false x16) fun x17 =>
 Do (abin .add x15 x17) fun x18 =>
 Do (abuild [.int .i64 0, .int .i64 0] [(0, 1, x13), (1, 1, x18)]) fun x19 =>
 Do (astore H7 2 x3 x19) fun H20 =>
 Do (aload H20 2 true x3) fun x21 =>
 Q x21 H20)
def ir_span_of : AFunc := ⟨15, [.cell 2 2 true],
 .seq (.region [
   ⟨some 1, .box false 2 (.t 0), none⟩,
   ⟨some 2, .alloc true [.int .i64 0, .int .i64 0], none⟩])
 (.seq (.seq (.region [
   ⟨some 3, .load 2 true (.t 1), none⟩,
   ⟨some 4, .call K.span_sound [(.t 3)], none⟩,
   ⟨some 5, .un .not (.t 4), none⟩])
 (.cond (.t 5) (.seq (.region [
     ⟨some 6, .build [.int .i64 0, .int .i64 0] [], none⟩,
     ⟨none, .store 2 (.t 2) (.t 6), none⟩])
   (.ret))
   (.skip)))
 (.seq (.region [
   ⟨some 7, .faddr 0 (.t 1), none⟩,
   ⟨some 8, .load 1 false (.t 7), none⟩,
   ⟨some 9, .faddr 0 (.t 1), none⟩,
   ⟨some 10, .load 1 false (.t 9), none⟩,
   ⟨some 11, .faddr 1 (.t 1), none⟩,
   ⟨some 12, .load 1 false (.t 11), none⟩,
   ⟨some 13, .bin .add (.t 10) (.t 12), none⟩,
   ⟨some 14, .build [.int .i64 0, .int .i64 0] [(0, 1, (.t 8)), (1, 1, (.t 13))], none⟩,
   ⟨none, .store 2 (.t 2) (.t 14), none⟩])
 (.ret)))⟩
theorem eq_span_of (Φ : Calls') (a0 : AV) (H : AH) (Q : Post) : fnE1 Φ ir_span_of [a0] H Q = span_of Φ a0 H Q := by kernel_rfl

/-! (rabbet/span.bytes).both -/
def span_bytes_both (Φ : Calls') (a0 : AV) (a1 : AV) (H : AH) (Q : Post) : Prop :=
 DoH (aboxv H false 2 a0) fun x1 H2 =>
 DoH (aboxv H2 false 2 a1) fun x3 H4 =>
 DoH (some (abox H4 true [.int .i64 0, .int .i64 0])) fun x5 H6 =>
 Do (afaddr 0 x1) fun x7 =>
 Do (aload H6 1 false x7) fun x8 =>
 Do (afaddr 0 x3) fun x9 =>
 Do (aload H6 1 false x9) fun x10 =>
 Do (aminmax true [x8, x10]) fun x11 =>
 Do (afaddr 1 x1) fun x12 =>
 Do (aload H6 1 false x12) fun x13 =>
 Do (afaddr 1 x3) fun x14 =>
 Do (aload H6 1 false x14) fun x15 =>
 Do (aminmax false [x13, x15]) fun x16 =>
 Do (abuild [.int .i64 0, .int .i64 0] [(0, 1, x11), (1, 1, x16)]) fun x17 =>
 DoH (some (abox H6 true [.int .i64 0, .int .i64 0])) fun x18 H19 =>
 Do (astore H19 2 x18 x17) fun H20 =>
 Do (afaddr 0 x18) fun x21 =>
 Do (aload H20 1 false x21) fun x22 =>
 Do (afaddr 1 x18) fun x23 =>
 Do (aload H20 1 false x23) fun x24 =>
 Do (abin .geq x22 x24) fun x25 =>
 Gd x25 true (
 Do (abuild [.int .i64 0, .int .i64 0] []) fun x26 =>
 Do (astore H20 2 x5 x26) fun H27 =>
 Do (aload H27 2 true x5) fun x28 =>
 Q x28 H27) (
 Do (aload H20 2 true x18) fun x29 =>
 Do (astore H20 2 x5 x29) fun H30 =>
 Do (aload H30 2 true x5) fun x31 =>
 Q x31 H30)
def ir_span_bytes_both : AFunc := ⟨24, [.cell 4 2 true],
 .seq (.region [
   ⟨some 2, .box false 2 (.t 0), none⟩,
   ⟨some 3, .box false 2 (.t 1), none⟩,
   ⟨some 4, .alloc true [.int .i64 0, .int .i64 0], none⟩])
 (.seq (.region [
   ⟨some 6, .faddr 0 (.t 2), none⟩,
   ⟨some 7, .load 1 false (.t 6), none⟩,
   ⟨some 8, .faddr 0 (.t 3), none⟩,
   ⟨some 9, .load 1 false (.t 8), none⟩,
   ⟨some 10, .minmax true [(.t 7), (.t 9)], none⟩,
   ⟨some 11, .faddr 1 (.t 2), none⟩,
   ⟨some 12, .load 1 false (.t 11), none⟩,
   ⟨some 13, .faddr 1 (.t 3), none⟩,
   ⟨some 14, .load 1 false (.t 13), none⟩,
   ⟨some 15, .minmax false [(.t 12), (.t 14)], none⟩,
   ⟨some 16, .build [.int .i64 0, .int .i64 0] [(0, 1, (.t 10)), (1, 1, (.t 15))], none⟩,
   ⟨some 5, .alloc true [.int .i64 0, .int .i64 0], none⟩,
   ⟨none, .store 2 (.t 5) (.t 16), none⟩])
 (.seq (.seq (.region [
   ⟨some 17, .faddr 0 (.t 5), none⟩,
   ⟨some 18, .load 1 false (.t 17), none⟩,
   ⟨some 19, .faddr 1 (.t 5), none⟩,
   ⟨some 20, .load 1 false (.t 19), none⟩,
   ⟨some 21, .bin .geq (.t 18) (.t 20), none⟩])
 (.cond (.t 21) (.seq (.region [
     ⟨some 22, .build [.int .i64 0, .int .i64 0] [], none⟩,
     ⟨none, .store 2 (.t 4) (.t 22), none⟩])
   (.ret))
   (.skip)))
 (.seq (.region [
   ⟨some 23, .load 2 true (.t 5), none⟩,
   ⟨none, .store 2 (.t 4) (.t 23), none⟩])
 (.ret))))⟩
theorem eq_span_bytes_both (Φ : Calls') (a0 a1 : AV) (H : AH) (Q : Post) : fnE1 Φ ir_span_bytes_both [a0, a1] H Q = span_bytes_both Φ a0 a1 H Q := by kernel_rfl

/-! (rabbet/span.bytes).empty -/
def span_bytes_empty (Φ : Calls') (a0 : AV) (H : AH) (Q : Post) : Prop :=
 DoH (aboxv H false 2 a0) fun x1 H2 =>
 Do (afaddr 0 x1) fun x3 =>
 Do (aload H2 1 false x3) fun x4 =>
 Do (afaddr 1 x1) fun x5 =>
 Do (aload H2 1 false x5) fun x6 =>
 Do (abin .eql x4 x6) fun x7 =>
 Q x7 H2
def ir_span_bytes_empty : AFunc := ⟨8, [.tmp 2],
 .seq (.region [
   ⟨some 1, .box false 2 (.t 0), none⟩,
   ⟨some 2, .mv (.k (.bool false)), none⟩])
 (.seq (.region [
   ⟨some 3, .faddr 0 (.t 1), none⟩,
   ⟨some 4, .load 1 false (.t 3), none⟩,
   ⟨some 5, .faddr 1 (.t 1), none⟩,
   ⟨some 6, .load 1 false (.t 5), none⟩,
   ⟨some 7, .bin .eql (.t 4) (.t 6), none⟩,
   ⟨some 2, .mv (.t 7), none⟩])
 (.ret))⟩
theorem eq_span_bytes_empty (Φ : Calls') (a0 : AV) (H : AH) (Q : Post) : fnE1 Φ ir_span_bytes_empty [a0] H Q = span_bytes_empty Φ a0 H Q := by kernel_rfl

/-! rabbet/span.sound -/
def span_sound_k1 (Φ : Calls') (x1 : AV) (Q : Post) : List AV → AH → Prop := fun j11 H12 =>
 Gd3 (sl j11 0) true (
 Do (afaddr 1 x1) fun x16 =>
 Do (aload H12 1 false x16) fun x17 =>
 Do (abin .leq x17 (.int .i64 1048576)) fun x18 =>
 Q x18 H12) (
 Q (.bool false) H12) (
 False)
def span_sound_k2 (Φ : Calls') (x1 : AV) (Q : Post) : List AV → AH → Prop := fun j3 H4 =>
 Gd3 (sl j3 0) true (
 Do (afaddr 1 x1) fun x13 =>
 Do (aload H4 1 false x13) fun x14 =>
 Do (abin .geq x14 (.int .i64 0)) fun x15 =>
 JoinP (span_sound_k1 Φ x1 Q) [x15] H4) (
 JoinP (span_sound_k1 Φ x1 Q) [(.bool false)] H4) (
 False)
def span_sound (Φ : Calls') (a0 : AV) (H : AH) (Q : Post) : Prop :=
 DoH (aboxv H false 2 a0) fun x1 H2 =>
 Do (afaddr 0 x1) fun x5 =>
 Do (aload H2 1 false x5) fun x6 =>
 Do (abin .geq x6 (.int .i64 0)) fun x7 =>
 Gd3 x7 true (
 Do (afaddr 0 x1) fun x8 =>
 Do (aload H2 1 false x8) fun x9 =>
 Do (abin .leq x9 (.int .i64 1099511627776)) fun x10 =>
 JoinP (span_sound_k2 Φ x1 Q) [x10] H2) (
 JoinP (span_sound_k2 Φ x1 Q) [(.bool false)] H2) (
 False)
def ir_span_sound : AFunc := ⟨21, [.tmp 2],
 .seq (.region [
   ⟨some 1, .box false 2 (.t 0), none⟩,
   ⟨some 2, .mv (.k (.bool false)), none⟩])
 (.seq (.rjoin [10] [3, 4, 5, 6, 7, 8, 9] [
   ⟨some 3, .faddr 0 (.t 1), none⟩,
   ⟨some 4, .load 1 false (.t 3), none⟩,
   ⟨some 5, .bin .geq (.t 4) (.k (.int .i64 0)), none⟩,
   ⟨some 6, .mv (.t 5), none⟩,
   ⟨some 7, .faddr 0 (.t 1), some (6, true)⟩,
   ⟨some 8, .load 1 false (.t 7), some (6, true)⟩,
   ⟨some 9, .bin .leq (.t 8) (.k (.int .i64 1099511627776)), some (6, true)⟩,
   ⟨some 10, .pick (.t 6) (.t 9) (.k (.bool false)), none⟩]
 (.rjoin [15] [11, 12, 13, 14] [
   ⟨some 11, .mv (.t 10), none⟩,
   ⟨some 12, .faddr 1 (.t 1), some (11, true)⟩,
   ⟨some 13, .load 1 false (.t 12), some (11, true)⟩,
   ⟨some 14, .bin .geq (.t 13) (.k (.int .i64 0)), some (11, true)⟩,
   ⟨some 15, .pick (.t 11) (.t 14) (.k (.bool false)), none⟩]
 (.region [
   ⟨some 16, .mv (.t 15), none⟩,
   ⟨some 17, .faddr 1 (.t 1), some (16, true)⟩,
   ⟨some 18, .load 1 false (.t 17), some (16, true)⟩,
   ⟨some 19, .bin .leq (.t 18) (.k (.int .i64 1048576)), some (16, true)⟩,
   ⟨some 20, .pick (.t 16) (.t 19) (.k (.bool false)), none⟩,
   ⟨some 2, .mv (.t 20), none⟩])))
 (.ret))⟩
theorem eq_span_sound (Φ : Calls') (a0 : AV) (H : AH) (Q : Post) : fnE1 Φ ir_span_sound [a0] H Q = span_sound Φ a0 H Q := by kernel_rfl

def tab_Pa : Tab := [
  (K.rabbetlaw24_PairAlike, ir_rabbetlaw24_PairAlike),
  (K.rabbetref21_Sound, ir_rabbetref21_Sound),
  (K.pair_Alike, ir_pair_Alike),
  (K.rabbetref21_event, ir_rabbetref21_event),
  (K.rabbetref21_paired, ir_rabbetref21_paired),
  (K.rabbetref21_has, ir_rabbetref21_has),
  (K.span_Meets, ir_span_Meets),
  (K.span_of, ir_span_of),
  (K.span_bytes_both, ir_span_bytes_both),
  (K.span_bytes_empty, ir_span_bytes_empty),
  (K.span_sound, ir_span_sound)]

theorem cl_rabbetlaw24_PairAlike {Φ : Calls'} (hT : Cl Φ tab_Pa) {a0 : AV} {H : AH} {Q : Post} (h : rabbetlaw24_PairAlike Φ a0 H Q) : Φ K.rabbetlaw24_PairAlike [a0] H Q := hT.call (by kernel_rfl) (by kernel_rfl) (by rw [eq_rabbetlaw24_PairAlike]; exact h)
theorem cl_rabbetref21_Sound {Φ : Calls'} (hT : Cl Φ tab_Pa) {a0 : AV} {H : AH} {Q : Post} (h : rabbetref21_Sound Φ a0 H Q) : Φ K.rabbetref21_Sound [a0] H Q := hT.call (by kernel_rfl) (by kernel_rfl) (by rw [eq_rabbetref21_Sound]; exact h)
theorem cl_pair_Alike {Φ : Calls'} (hT : Cl Φ tab_Pa) {a0 : AV} {H : AH} {Q : Post} (h : pair_Alike Φ a0 H Q) : Φ K.pair_Alike [a0] H Q := hT.call (by kernel_rfl) (by kernel_rfl) (by rw [eq_pair_Alike]; exact h)
theorem cl_rabbetref21_event {Φ : Calls'} (hT : Cl Φ tab_Pa) {a0 a1 : AV} {H : AH} {Q : Post} (h : rabbetref21_event Φ a0 a1 H Q) : Φ K.rabbetref21_event [a0, a1] H Q := hT.call (by kernel_rfl) (by kernel_rfl) (by rw [eq_rabbetref21_event]; exact h)
theorem cl_rabbetref21_paired {Φ : Calls'} (hT : Cl Φ tab_Pa) {a0 a1 : AV} {H : AH} {Q : Post} (h : rabbetref21_paired Φ a0 a1 H Q) : Φ K.rabbetref21_paired [a0, a1] H Q := hT.call (by kernel_rfl) (by kernel_rfl) (by rw [eq_rabbetref21_paired]; exact h)
theorem cl_rabbetref21_has {Φ : Calls'} (hT : Cl Φ tab_Pa) {a0 a1 : AV} {H : AH} {Q : Post} (h : rabbetref21_has Φ a0 a1 H Q) : Φ K.rabbetref21_has [a0, a1] H Q := hT.call (by kernel_rfl) (by kernel_rfl) (by rw [eq_rabbetref21_has]; exact h)
theorem cl_span_Meets {Φ : Calls'} (hT : Cl Φ tab_Pa) {a0 a1 : AV} {H : AH} {Q : Post} (h : span_Meets Φ a0 a1 H Q) : Φ K.span_Meets [a0, a1] H Q := hT.call (by kernel_rfl) (by kernel_rfl) (by rw [eq_span_Meets]; exact h)
theorem cl_span_of {Φ : Calls'} (hT : Cl Φ tab_Pa) {a0 : AV} {H : AH} {Q : Post} (h : span_of Φ a0 H Q) : Φ K.span_of [a0] H Q := hT.call (by kernel_rfl) (by kernel_rfl) (by rw [eq_span_of]; exact h)
theorem cl_span_bytes_both {Φ : Calls'} (hT : Cl Φ tab_Pa) {a0 a1 : AV} {H : AH} {Q : Post} (h : span_bytes_both Φ a0 a1 H Q) : Φ K.span_bytes_both [a0, a1] H Q := hT.call (by kernel_rfl) (by kernel_rfl) (by rw [eq_span_bytes_both]; exact h)
theorem cl_span_bytes_empty {Φ : Calls'} (hT : Cl Φ tab_Pa) {a0 : AV} {H : AH} {Q : Post} (h : span_bytes_empty Φ a0 H Q) : Φ K.span_bytes_empty [a0] H Q := hT.call (by kernel_rfl) (by kernel_rfl) (by rw [eq_span_bytes_empty]; exact h)
theorem cl_span_sound {Φ : Calls'} (hT : Cl Φ tab_Pa) {a0 : AV} {H : AH} {Q : Post} (h : span_sound Φ a0 H Q) : Φ K.span_sound [a0] H Q := hT.call (by kernel_rfl) (by kernel_rfl) (by rw [eq_span_sound]; exact h)
end Rb.S

/- The texts are the program's. By spec.py. -/
set_option linter.unusedVariables false
namespace Go.Proofs.YtaiaeodekdehhaaGreatDoor.rb
open Rb
theorem cl_Pa : Cl (ACall C) S.tab_Pa := Cl.of (ACall_mono C) (closed_of (idC_fok _ _) (by kernel_rfl))
end Go.Proofs.YtaiaeodekdehhaaGreatDoor.rb

/- The types of the api, as Lean's: executions. -/
set_option linter.unusedVariables false
set_option linter.unusedSimpArgs false
namespace Rb
open Go
structure GEvent where
  thread : Int
  site : Int
  rd : Bool
  wr : Bool
  fn : Bool
  at_ : Int
  len_ : Int
  data : List Int
  order : Int
  excl : Bool
  pair : Int
def GEvent.cells (e : GEvent) : List AV := [.int .i64 e.thread, .int .i64 e.site, .bool e.rd, .bool e.wr, .bool e.fn, .int .i64 e.at_, .int .i64 e.len_, lstA (i1 .u8) e.data, .int .i64 e.order, .bool e.excl, .int .i64 e.pair]
def liC (l : List Int) : List AV := [lstA (i1 .i64) l]
structure GExec where
  events : List GEvent
  from_ : List (List Int)
  after : List (List Int)
  size : Int
def GExec.cells (x : GExec) : List AV := [lstA GEvent.cells x.events, lstA liC x.from_, lstA liC x.after, .int .i64 x.size]
theorem GEvent.len (e : GEvent) : e.cells.length = 11 := rfl
theorem GExec.len (x : GExec) : x.cells.length = 4 := rfl
def i64r (z : Int) : Prop := IntKind.min .i64 ≤ z ∧ z ≤ IntKind.max .i64
theorem i64r.lo {z : Int} (h : i64r z) : -9223372036854775808 ≤ z := by have := h.1; simp [IntKind.min, IntKind.signed, IntKind.bits] at this; omega
theorem i64r.hi {z : Int} (h : i64r z) : z ≤ 9223372036854775807 := by have := h.2; simp [IntKind.max, IntKind.signed, IntKind.bits] at this; omega
structure GEvent.ok (e : GEvent) : Prop where
  thread : i64r e.thread
  site : i64r e.site
  at_ : i64r e.at_
  len_ : i64r e.len_
  order : i64r e.order
  pair : i64r e.pair
structure GExec.ok (x : GExec) : Prop where
  events : x.events.length ≤ maxLen ∧ ∀ e ∈ x.events, e.ok
  from_ : x.from_.length ≤ maxLen ∧ ∀ l ∈ x.from_, l.length ≤ maxLen ∧ ∀ z ∈ l, i64r z
  after : x.after.length ≤ maxLen ∧ ∀ l ∈ x.after, l.length ≤ maxLen ∧ ∀ z ∈ l, i64r z
  size : i64r x.size

section
variable {H : Type} {enc : TypeId × Value → H} {P : Program} {w : World} {sp : Nat → Bool} {held : Bool} {F : FTab}
theorem Dec_event {ti tb tu tS sU tE : TypeId} {fS fE : Array Field} (hi : P.underlying ti = some (.int .i64)) (hb : P.underlying tb = some .bool) (hu : P.underlying tu = some (.int .u8)) (hS : P.underlying tS = some (.struct fS)) (lS : fS.toList.map (fun f => (f.type, f.offset)) = [(ti, 0), (ti, 1)])
    (hU : P.underlying sU = some (.slice tu)) (hE : P.underlying tE = some (.struct fE)) (lE : fE.toList.map (fun f => (f.type, f.offset)) = [(ti, 0), (ti, 1), (tb, 2), (tb, 3), (tb, 4), (tS, 5), (sU, 7), (ti, 8), (tb, 9), (ti, 10)])
    (ci : P.cellsOf ti = 1) (cb : P.cellsOf tb = 1) (cu : P.cellsOf tu = 1) (cS : P.cellsOf tS = 2) (cU : P.cellsOf sU = 1) (cE : P.cellsOf tE = 11) : ∀ n, Dec F enc P w sp held n tE GEvent.cells GEvent.ok := by
  intro n
  refine Dec.mono (n := n + 1 + 1) ?_ (by omega)
  have kS : Dec F enc P w sp held (n + 1) tS _ _ := Dec.struct hS lS (by simp [chainB, ci]) (by simp [totC, ci, cS]) (DecL.cons (Dec.int hi) (DecL.cons (Dec.int hi) DecL.nil))
  have kU : Dec F enc P w sp held (n + 1) sU (fun xs : List Int => [lstA (i1 .u8) xs]) _ := Dec.slice hU cu (by decide) (fun _ => rfl) (Dec.int hu)
  refine Dec.map (fun (x : Int × Int × Bool × Bool × Bool × (Int × Int × Unit) × List Int × Int × Bool × Int × Unit) => (⟨x.1, x.2.1, x.2.2.1, x.2.2.2.1, x.2.2.2.2.1, x.2.2.2.2.2.1.1, x.2.2.2.2.2.1.2.1, x.2.2.2.2.2.2.1, x.2.2.2.2.2.2.2.1, x.2.2.2.2.2.2.2.2.1, x.2.2.2.2.2.2.2.2.2.1⟩ : GEvent)) (fun x => ?_) (fun x hx => ?_)
    (Dec.struct hE lE (by simp [chainB, ci, cb, cS, cU]) (by simp [totC, ci, cb, cS, cU, cE]) (DecL.cons (Dec.int hi) (DecL.cons (Dec.int hi) (DecL.cons (Dec.bool hb) (DecL.cons (Dec.bool hb) (DecL.cons (Dec.bool hb) (DecL.cons kS (DecL.cons kU (DecL.cons (Dec.int hi) (DecL.cons (Dec.bool hb) (DecL.cons (Dec.int hi) DecL.nil)))))))))))
  · rfl
  · obtain ⟨h1, h2, _, _, _, ⟨h6, h7, _⟩, h8, h9, _, h10, _⟩ := hx
    exact ⟨h1, h2, h6, h7, h9, h10⟩
theorem Dec_exec {ti tE sE sI ssI tX : TypeId} {fX : Array Field} (hi : P.underlying ti = some (.int .i64)) (hev : ∀ n, Dec F enc P w sp held n tE GEvent.cells GEvent.ok) (slE : P.underlying sE = some (.slice tE)) (slI : P.underlying sI = some (.slice ti)) (slSI : P.underlying ssI = some (.slice sI))
    (hX : P.underlying tX = some (.struct fX)) (lX : fX.toList.map (fun f => (f.type, f.offset)) = [(sE, 0), (ssI, 1), (ssI, 2), (ti, 3)]) (ci : P.cellsOf ti = 1) (cE : P.cellsOf tE = 11) (csE : P.cellsOf sE = 1) (csI : P.cellsOf sI = 1) (cssI : P.cellsOf ssI = 1) (cX : P.cellsOf tX = 4) : ∀ n, Dec F enc P w sp held n tX GExec.cells GExec.ok := by
  intro n
  refine Dec.mono (n := n + 2 + 1) ?_ (by omega)
  have k1 : Dec F enc P w sp held (n + 2) sE (fun xs : List GEvent => [lstA GEvent.cells xs]) _ := Dec.slice slE cE (by decide) GEvent.len (hev (n + 1))
  have k2 : Dec F enc P w sp held (n + 1) sI liC _ := Dec.slice slI ci (by decide) (fun _ => rfl) (Dec.int hi)
  have k3 : Dec F enc P w sp held (n + 2) ssI (fun xs : List (List Int) => [lstA liC xs]) _ := Dec.slice slSI csI (by decide) (fun _ => rfl) k2
  refine Dec.map (fun (x : List GEvent × List (List Int) × List (List Int) × Int × Unit) => (⟨x.1, x.2.1, x.2.2.1, x.2.2.2.1⟩ : GExec)) (fun x => ?_) (fun x hx => ?_)
    (Dec.struct hX lX (by simp [chainB, csE, cssI, ci]) (by simp [totC, csE, cssI, ci, cX]) (DecL.cons k1 (DecL.cons k3 (DecL.cons k3 (DecL.cons (Dec.int hi) DecL.nil)))))
  · rfl
  · obtain ⟨h1, h2, h3, h4, _⟩ := hx
    exact ⟨h1, h2, h3, h4⟩
end
end Rb

/- Law 24: spans, and when two meet. -/
set_option linter.unusedVariables false
set_option linter.unusedSimpArgs false
namespace Rb
open Go
def sp2 (a l : Int) : List AV := [.int .i64 a, .int .i64 l]
theorem sp_box (a l : Int) (H : AH) : aboxv H false 2 (.agg (sp2 a l)) = some (.fptr (sp2 a l), H) := by unfold aboxv; rw [if_pos ⟨rfl, rfl⟩]; rfl
theorem sp_a0 (a l : Int) : afaddr 0 (.fptr (sp2 a l)) = some (.fptr (sp2 a l)) := rfl
theorem sp_a1 (a l : Int) : afaddr 1 (.fptr (sp2 a l)) = some (.fptr [.int .i64 l]) := rfl
theorem sp_l0 (a l : Int) (H : AH) : aload H 1 false (.fptr (sp2 a l)) = some (.int .i64 a) := rfl
theorem sp_l1 (l : Int) (H : AH) : aload H 1 false (.fptr [.int .i64 l]) = some (.int .i64 l) := rfl
theorem sp_all (a l : Int) (H : AH) : aload H 2 true (.fptr (sp2 a l)) = some (.agg (sp2 a l)) := rfl
theorem afaddr_ptr (k id o : Nat) : afaddr k (.ptr id o) = some (.ptr id (o + k)) := rfl
theorem tk_l0 (a l : Int) : takeCells (sp2 a l) 0 1 false = some (.int .i64 a) := rfl
theorem tk_l1 (a l : Int) : takeCells (sp2 a l) 1 1 false = some (.int .i64 l) := rfl
theorem tk_all (a l : Int) : takeCells (sp2 a l) 0 2 true = some (.agg (sp2 a l)) := rfl
theorem z2 : [AV.int .i64 0, AV.int .i64 0] = sp2 0 0 := rfl
theorem bd2 : abuild (sp2 0 0) [] = some (.agg (sp2 0 0)) := rfl
theorem bd2' (a b : Int) : abuild (sp2 0 0) [(0, 1, .int .i64 a), (1, 1, .int .i64 b)] = some (.agg (sp2 a b)) := rfl
theorem sp_st (H : AH) (a b c d : Int) : astore (H.push (.row (sp2 a b))) 2 (.ptr H.n 0) (.agg (sp2 c d)) = some (H.push (.row (sp2 c d))) := store_new H _ _ 2 rfl rfl rfl
theorem max_int2 (a b : Int) : aminmax true [.int .i64 a, .int .i64 b] = some (.int .i64 (max a b)) := by
  simp only [aminmax, mmAll, mm2, if_true]
  congr 2
  show (if a < b then b else a) = max a b
  omega
theorem min_int2 (a b : Int) : aminmax false [.int .i64 a, .int .i64 b] = some (.int .i64 (min a b)) := by
  simp only [aminmax, mmAll, mm2, Bool.false_eq_true, if_false]
  congr 2
  show (if b < a then b else a) = min a b
  omega
theorem sp_st2 (H : AH) (x : AObj) (c d : Int) : astore ((H.push (.row (sp2 0 0))).push x) 2 (.ptr H.n 0) (.agg (sp2 c d)) = some (((H.push (.row (sp2 0 0))).push x).set H.n (.row (sp2 c d))) := by
  rw [((At.new H _).push x).store, if_pos ⟨rfl, rfl, rfl, by decide⟩]; rfl
theorem sp_ld2 (H : AH) (y x : AObj) (c d : Int) : aload (((H.push y).push x).set H.n (.row (sp2 c d))) 2 true (.ptr H.n 0) = some (.agg (sp2 c d)) := by
  rw [(At.set ((At.new H y).push x) _).load]; rfl

/-- A span of a sound execution's event. -/
def SpanOk (a l : Int) : Prop := (a = 0 ∧ l = 0) ∨ (1 ≤ l ∧ l ≤ 16 ∧ 65536 ≤ a ∧ a ≤ 131072)
def meetsB (a l b m : Int) : Bool := decide (l > 0) && (decide (m > 0) && (decide (a < b + m) && decide (b < a + l)))
section
variable {Φ : Calls'} {H : AH} {Q : Post}
theorem span_sound_spec {a l : Int} (h : SpanOk a l) (hQ : Q (.bool true) H) : S.span_sound Φ (.agg (sp2 a l)) H Q := by
  unfold S.span_sound
  have e1 : decide (a ≥ 0) = true := by rcases h with ⟨rfl, rfl⟩ | ⟨h1, h2, h3, h4⟩ <;> simp <;> omega
  have e2 : decide (a ≤ 1099511627776) = true := by rcases h with ⟨rfl, rfl⟩ | ⟨h1, h2, h3, h4⟩ <;> simp <;> omega
  have e3 : decide (l ≥ 0) = true := by rcases h with ⟨rfl, rfl⟩ | ⟨h1, h2, h3, h4⟩ <;> simp <;> omega
  have e4 : decide (l ≤ 1048576) = true := by rcases h with ⟨rfl, rfl⟩ | ⟨h1, h2, h3, h4⟩ <;> simp <;> omega
  simp only [sp_box, DoH_some, sp_a0, Do_of, sp_l0, abin_geq, Gd3_true, e1, if_true, abin_leq, e2, JoinP_def, S.span_sound_k2, sl_zero, sp_a1, sp_l1, e3, S.span_sound_k1, e4]
  exact hQ

theorem span_of_spec (hT : Cl Φ S.tab_Pa) {a l : Int} (h : SpanOk a l) (hQ : ∀ H', AH.Ext H H' → Q (.agg (sp2 a (a + l))) H') : S.span_of Φ (.agg (sp2 a l)) H Q := by
  unfold S.span_of
  simp only [sp_box, DoH_some, z2, abox, if_true, sp_all, Do_of]
  refine S.cl_span_sound hT (span_sound_spec h ?_)
  have w : IntKind.wrap .i64 (a + l) = a + l := by rcases h with ⟨rfl, rfl⟩ | ⟨h1, h2, h3, h4⟩ <;> exact wrap_i64 (by omega) (by omega)
  simp only [aun_not, Do_of, Gd_true, Bool.not_true, Bool.false_eq_true, if_false, sp_a0, sp_l0, sp_a1, sp_l1, abin_add, w, bd2', sp_st, load_push, tk_all]
  exact hQ _ (AH.Ext.push _ _)

theorem span_both_spec {a b c d : Int} (hQ : ∀ H', AH.Ext H H' → Q (.agg (if max a c ≥ min b d then sp2 0 0 else sp2 (max a c) (min b d))) H') : S.span_bytes_both Φ (.agg (sp2 a b)) (.agg (sp2 c d)) H Q := by
  unfold S.span_bytes_both
  have hid : ((H.push (.row (sp2 0 0))).push (.row (sp2 0 0))).n = H.n + 2 := rfl
  simp only [sp_box, DoH_some, z2, abox, if_true, sp_a0, sp_l0, sp_a1, sp_l1, Do_of, max_int2, min_int2, bd2']
  simp only [sp_st, afaddr_ptr, load_push, Nat.zero_add, tk_l0, tk_l1, Do_of, abin_geq, Gd_true, decide_eq_true_eq, bd2, tk_all, sp_st2, sp_ld2]
  have hx : AH.Ext H ((H.push (.row (sp2 0 0))).push (.row (sp2 (max a c) (min b d)))) := (AH.Ext.push _ _).trans (AH.Ext.push _ _)
  by_cases hm : max a c ≥ min b d
  · rw [if_pos hm]
    have := hQ (((H.push (.row (sp2 0 0))).push (.row (sp2 (max a c) (min b d)))).set H.n (.row (sp2 0 0))) (hx.set (Nat.le_refl _) _)
    rwa [if_pos hm] at this
  · rw [if_neg hm]
    have := hQ (((H.push (.row (sp2 0 0))).push (.row (sp2 (max a c) (min b d)))).set H.n (.row (sp2 (max a c) (min b d)))) (hx.set (Nat.le_refl _) _)
    rwa [if_neg hm] at this

theorem span_empty_spec {a b : Int} (hQ : Q (.bool (a == b)) H) : S.span_bytes_empty Φ (.agg (sp2 a b)) H Q := by
  unfold S.span_bytes_empty
  simp only [sp_box, DoH_some, sp_a0, sp_l0, sp_a1, sp_l1, Do_of, abin_eql]
  exact hQ

theorem Meets_spec (hT : Cl Φ S.tab_Pa) {a l b m : Int} (h1 : SpanOk a l) (h2 : SpanOk b m) (hQ : ∀ H', AH.Ext H H' → Q (.bool (meetsB a l b m)) H') : S.span_Meets Φ (.agg (sp2 a l)) (.agg (sp2 b m)) H Q := by
  unfold S.span_Meets
  simp only [sp_box, DoH_some, sp_all, Do_of]
  refine S.cl_span_of hT (span_of_spec hT h1 fun H1 e1 => ⟨trivial, ?_⟩)
  refine S.cl_span_of hT (span_of_spec hT h2 fun H2 e2 => ?_)
  refine S.cl_span_bytes_both hT (span_both_spec fun H3 e3 => ?_)
  have e := e1.trans (e2.trans e3)
  by_cases hm : max a b ≥ min (a + l) (b + m)
  · rw [if_pos hm]
    refine S.cl_span_bytes_empty hT (span_empty_spec ?_)
    simp only [aun_not, Do_of]
    have hb : meetsB a l b m = false := by
      cases hx : meetsB a l b m with
      | false => rfl
      | true =>
        simp only [meetsB, Bool.and_eq_true, decide_eq_true_eq] at hx
        omega
    have := hQ H3 e
    rw [hb] at this
    exact this
  · rw [if_neg hm]
    refine S.cl_span_bytes_empty hT (span_empty_spec ?_)
    simp only [aun_not, Do_of]
    have hb : meetsB a l b m = true := by
      simp only [meetsB, Bool.and_eq_true, decide_eq_true_eq]
      omega
    have hne : (max a b == min (a + l) (b + m)) = false := by rw [beq_eq_false_iff_ne]; omega
    have := hQ H3 e
    rw [hb] at this
    rw [hne]
    exact this
end
end Rb

/- Law 24: whether an execution is sound: some answer, and what it says of the spans. -/
set_option linter.unusedVariables false
set_option linter.unusedSimpArgs false
namespace Rb
open Go
theorem gx_box (x : GExec) (H : AH) : aboxv H false 4 (.agg x.cells) = some (.fptr x.cells, H) := by unfold aboxv; rw [if_pos ⟨rfl, rfl⟩]; rfl
theorem gx_addr (x : GExec) (i : Nat) : afaddr i (.fptr x.cells) = some (.fptr (x.cells.drop i)) := rfl
theorem gx_all (x : GExec) (H : AH) : aload H 4 true (.fptr x.cells) = some (.agg x.cells) := rfl
theorem gx_l0 (x : GExec) (H : AH) : aload H 1 false (.fptr (x.cells.drop 0)) = some (lstA GEvent.cells x.events) := rfl
theorem gx_l1 (x : GExec) (H : AH) : aload H 1 false (.fptr (x.cells.drop 1)) = some (lstA liC x.from_) := rfl
theorem gx_l2 (x : GExec) (H : AH) : aload H 1 false (.fptr (x.cells.drop 2)) = some (lstA liC x.after) := rfl
theorem gx_l3 (x : GExec) (H : AH) : aload H 1 false (.fptr (x.cells.drop 3)) = some (.int .i64 x.size) := rfl
/-- A field of an event of a list. -/
def evF (xs : List GEvent) (i k : Nat) : AV := .fptr (((xs.flatMap GEvent.cells).drop (i * 11)).drop k)
theorem ev_addr {xs : List GEvent} {i : Nat} (hi : i < xs.length) : aiaddr none 11 (lstA GEvent.cells xs) (.int .i64 i) = some (elA GEvent.cells 11 xs i) := lstA_addr hi
theorem ev_fa (xs : List GEvent) (i k : Nat) : afaddr k (elA GEvent.cells 11 xs i) = some (evF xs i k) := rfl
theorem ev_drop {xs : List GEvent} {i : Nat} {e : GEvent} (hi : xs[i]? = some e) : (xs.flatMap GEvent.cells).drop (i * 11) = e.cells ++ (xs.drop (i + 1)).flatMap GEvent.cells := by
  rw [flatMap_drop GEvent.len]
  have hlt := (List.getElem?_eq_some_iff.1 hi).1
  have hd : xs.drop i = e :: xs.drop (i + 1) := by
    rw [List.drop_eq_getElem_cons hlt]
    rw [List.getElem?_eq_getElem hlt] at hi
    simp at hi
    rw [hi]
  rw [hd, List.flatMap_cons]
theorem ev_all {xs : List GEvent} {i : Nat} {e : GEvent} (hi : xs[i]? = some e) (H : AH) : aload H 11 true (elA GEvent.cells 11 xs i) = some (.agg e.cells) := elA_load GEvent.len (by decide) H hi
theorem ev_l3 {xs : List GEvent} {i : Nat} {e : GEvent} (hi : xs[i]? = some e) (H : AH) : aload H 1 false (evF xs i 3) = some (.bool e.wr) := by unfold evF; rw [ev_drop hi]; rfl
theorem ev_l5 {xs : List GEvent} {i : Nat} {e : GEvent} (hi : xs[i]? = some e) (H : AH) : aload H 2 true (evF xs i 5) = some (.agg (sp2 e.at_ e.len_)) := by unfold evF; rw [ev_drop hi]; rfl
theorem ev_f0 {xs : List GEvent} {i : Nat} : afaddr 0 (evF xs i 5) = some (evF xs i 5) := rfl
theorem ev_l50 {xs : List GEvent} {i : Nat} {e : GEvent} (hi : xs[i]? = some e) (H : AH) : aload H 1 false (evF xs i 5) = some (.int .i64 e.at_) := by unfold evF; rw [ev_drop hi]; rfl
theorem li_addr {xs : List (List Int)} {i : Nat} (hi : i < xs.length) : aiaddr none 1 (lstA liC xs) (.int .i64 i) = some (elA liC 1 xs i) := lstA_addr hi
theorem li_load {xs : List (List Int)} {i : Nat} {l : List Int} (hi : xs[i]? = some l) (H : AH) : aload H 1 false (elA liC 1 xs i) = some (lstA (i1 .i64) l) := one_load (c := fun l : List Int => lstA (i1 .i64) l) H hi
theorem il_addr {l : List Int} {i : Nat} (hi : i < l.length) : aiaddr none 1 (lstA (i1 .i64) l) (.int .i64 i) = some (elA (i1 .i64) 1 l i) := lstA_addr hi
theorem int_nat {z : Int} (h : 0 ≤ z) : AV.int .i64 z = .int .i64 ((z.toNat : Nat) : Int) := by rw [Int.toNat_of_nonneg h]
/-- A row of an event. -/
theorem er0 (e : GEvent) : takeCells e.cells 0 1 false = some (.int .i64 e.thread) := rfl
theorem er2 (e : GEvent) : takeCells e.cells 2 1 false = some (.bool e.rd) := rfl
theorem er3 (e : GEvent) : takeCells e.cells 3 1 false = some (.bool e.wr) := rfl
theorem er4 (e : GEvent) : takeCells e.cells 4 1 false = some (.bool e.fn) := rfl
theorem er5 (e : GEvent) : takeCells e.cells 5 2 true = some (.agg (sp2 e.at_ e.len_)) := rfl
theorem er50 (e : GEvent) : takeCells e.cells 5 1 false = some (.int .i64 e.at_) := rfl
theorem er51 (e : GEvent) : takeCells e.cells 6 1 false = some (.int .i64 e.len_) := rfl
theorem er8 (e : GEvent) : takeCells e.cells 8 1 false = some (.int .i64 e.order) := rfl
theorem er10 (e : GEvent) : takeCells e.cells 10 1 false = some (.int .i64 e.pair) := rfl
theorem erA (e : GEvent) : takeCells e.cells 0 11 true = some (.agg e.cells) := rfl
def zEv : List AV := [.int .i64 0, .int .i64 0, .bool false, .bool false, .bool false, .int .i64 0, .int .i64 0, .lst .nil 0 [], .int .i64 0, .bool false, .int .i64 0]
theorem zEv_eq : [AV.int .i64 0, .int .i64 0, .bool false, .bool false, .bool false, .int .i64 0, .int .i64 0, .lst .nil 0 [], .int .i64 0, .bool false, .int .i64 0] = zEv := rfl
theorem GEvent.scal (e : GEvent) : e.cells.all AV.scalar = true := rfl
theorem ev_st (H : AH) (e : GEvent) : astore (H.push (.row zEv)) 11 (.ptr H.n 0) (.agg e.cells) = some (H.push (.row e.cells)) := store_new H _ _ 11 rfl e.scal rfl
theorem eqS (a b c d : Int) : aeqAgg false [.n, .n] (.agg (sp2 a b)) (.agg (sp2 c d)) = some (.bool (a == c && (b == d && true))) := rfl
theorem neS (a b c d : Int) : aeqAgg true [.n, .n] (.agg (sp2 a b)) (.agg (sp2 c d)) = some (.bool (!(a == c && (b == d && true)))) := rfl

section
variable {Φ : Calls'} {H : AH} {Q : Post}
theorem event_spec {x : GExec} {n : Nat} {e : GEvent} {l : List Int} (hn : x.events[n]? = some e) (hl : x.from_[n]? = some l) (hs0 : 0 ≤ x.size) (hs : x.size ≤ 65536) (hQ : ∀ b H', (b = true → SpanOk e.at_ e.len_) → Q (.bool b) H') :
    S.rabbetref21_event Φ (.agg x.cells) (.int .i64 n) H Q := by
  have hnl := (List.getElem?_eq_some_iff.1 hn).1
  have hll := (List.getElem?_eq_some_iff.1 hl).1
  unfold S.rabbetref21_event
  simp only [gx_box, DoH_some, gx_addr, gx_l0, ev_addr hnl, ev_all hn, Do_of, abox, if_true, zEv_eq, ev_st, afaddr_ptr, load_push, Nat.zero_add, er2, Gd_true, abin_add, JoinP_def]
  generalize hK : H.push (.row e.cells) = K
  have ld : ∀ m o agg, aload K m agg (.ptr H.n o) = takeCells e.cells o m agg := fun m o agg => by rw [← hK]; exact load_push _ _ _ _ _
  have k1 : ∀ b, (b = true → SpanOk e.at_ e.len_) → S.rabbetref21_event_k1 Φ (.int .i64 n) (.fptr x.cells) Q [.bool b] K := by
    intro b hb
    simp only [S.rabbetref21_event_k1, sl_zero, Gd3_true, gx_addr, gx_l1, li_addr hll, li_load hl, lstA_len', Do_of, abin_eql]
    exact ite_both (fun h => hQ _ _ fun _ => hb h) fun _ => hQ _ _ fun h => by cases h
  have k2 : SpanOk e.at_ e.len_ → S.rabbetref21_event_k2 Φ (.int .i64 n) (.fptr x.cells) (.ptr H.n 0) Q [] K := by
    intro hb
    simp only [S.rabbetref21_event_k2, afaddr_ptr, ld, Nat.zero_add, er2, Nat.reduceAdd, er51, Gd_true, gx_addr, gx_l1, li_addr hll, li_load hl, lstA_len', Do_of, abin_eql]
    exact ite_both (fun h => hQ _ _ fun _ => hb) fun _ => hQ _ _ fun _ => hb
  have k3 : ∀ b, (b = false → SpanOk e.at_ e.len_) → S.rabbetref21_event_k3 Φ (.int .i64 n) (.fptr x.cells) (.ptr H.n 0) Q [.bool b] K := by
    intro b hb
    simp only [S.rabbetref21_event_k3, sl_zero, Gd_true, JoinP_def]
    exact ite_both (fun h => hQ _ _ fun h => by cases h) fun h => k2 (hb (by simpa using h))
  have k4 : ∀ b, (b = false → SpanOk e.at_ e.len_) → S.rabbetref21_event_k4 Φ (.int .i64 n) (.fptr x.cells) (.ptr H.n 0) Q [.bool b] K := by
    intro b hb
    simp only [S.rabbetref21_event_k4, sl_zero, Gd3_false, JoinP_def, afaddr_ptr, ld, Nat.zero_add, Nat.reduceAdd, er50, er51, Do_of, abin_add, gx_addr, gx_l3, abin_gtr]
    exact ite_both (fun h => k3 _ fun _ => hb h) fun _ => k3 _ fun h => by cases h
  have k5 : ∀ b, (b = false → 1 ≤ e.len_ ∧ e.len_ ≤ 16 ∧ 65536 ≤ e.at_) → S.rabbetref21_event_k5 Φ (.int .i64 n) (.fptr x.cells) (.ptr H.n 0) Q [.bool b] K := by
    intro b hb
    have w : IntKind.wrap .i64 (65536 + x.size) = 65536 + x.size := wrap_i64 (by omega) (by omega)
    simp only [S.rabbetref21_event_k5, sl_zero, Gd3_false, JoinP_def, afaddr_ptr, ld, Nat.zero_add, Nat.reduceAdd, Nat.add_zero, er50, er51, Do_of, abin_add, gx_addr, gx_l3, abin_gtr, w]
    exact ite_both (fun h => k4 _ fun h2 => by
      obtain ⟨h1, h3, h4⟩ := hb h
      simp only [decide_eq_false_iff_not] at h2
      exact .inr ⟨h1, h3, h4, by omega⟩) fun _ => k4 _ fun h => by cases h
  have k6 : ∀ b, (b = false → 1 ≤ e.len_ ∧ e.len_ ≤ 16) → S.rabbetref21_event_k6 Φ (.int .i64 n) (.fptr x.cells) (.ptr H.n 0) Q [.bool b] K := by
    intro b hb
    simp only [S.rabbetref21_event_k6, sl_zero, Gd3_false, JoinP_def, afaddr_ptr, ld, Nat.zero_add, Nat.reduceAdd, Nat.add_zero, er50, er51, Do_of, abin_lss]
    exact ite_both (fun h => k5 _ fun h2 => by
      obtain ⟨h1, h3⟩ := hb h
      simp only [decide_eq_false_iff_not] at h2
      exact ⟨h1, h3, by omega⟩) fun _ => k5 _ fun h => by cases h
  have k7 : S.rabbetref21_event_k7 Φ (.int .i64 n) (.fptr x.cells) (.ptr H.n 0) Q [] K := by
    simp only [S.rabbetref21_event_k7, Gd3_true, Gd3_false, Gd_true, JoinP_def, afaddr_ptr, ld, Nat.zero_add, Nat.reduceAdd, Nat.add_zero, er4, er5, er51, er10, z2, bd2, eqS, Do_of, abin_lss, abin_gtr, abin_eql]
    refine ite_both (fun _ => ?_) fun _ => ?_
    · refine ite_both (fun h => k1 _ fun _ => ?_) fun _ => k1 _ fun h => by cases h
      simp only [Bool.and_eq_true, beq_iff_eq] at h
      exact .inl ⟨h.1, h.2.1⟩
    · refine ite_both (fun h => k6 _ fun h2 => ?_) fun _ => k6 _ fun h => by cases h
      simp only [decide_eq_false_iff_not] at h h2
      omega
  have k8 : ∀ b, S.rabbetref21_event_k8 Φ (.int .i64 n) (.fptr x.cells) (.ptr H.n 0) Q [.bool b] K := by
    intro b
    simp only [S.rabbetref21_event_k8, sl_zero, Gd_true, JoinP_def]
    exact ite_both (fun h => hQ _ _ fun h => by cases h) fun _ => k7
  have k9 : ∀ b, S.rabbetref21_event_k9 Φ (.int .i64 n) (.fptr x.cells) (.ptr H.n 0) Q [.bool b] K := by
    intro b
    simp only [S.rabbetref21_event_k9, sl_zero, Gd3_false, JoinP_def, afaddr_ptr, ld, Nat.zero_add, er8, Do_of, abin_gtr]
    exact ite_both (fun _ => k8 _) fun _ => k8 _
  have k10 : ∀ b, S.rabbetref21_event_k10 Φ (.int .i64 n) (.fptr x.cells) (.ptr H.n 0) Q [.bool b] K := by
    intro b
    simp only [S.rabbetref21_event_k10, sl_zero, Gd3_false, JoinP_def, afaddr_ptr, ld, Nat.zero_add, er8, Do_of, abin_lss]
    exact ite_both (fun _ => k9 _) fun _ => k9 _
  have k11 : ∀ b, S.rabbetref21_event_k11 Φ (.int .i64 n) (.fptr x.cells) (.ptr H.n 0) Q [.bool b] K := by
    intro b
    simp only [S.rabbetref21_event_k11, sl_zero, Gd3_false, JoinP_def, afaddr_ptr, ld, Nat.zero_add, er0, Do_of, abin_gtr]
    exact ite_both (fun _ => k10 _) fun _ => k10 _
  have k12 : ∀ c, S.rabbetref21_event_k12 Φ (.int .i64 n) (.fptr x.cells) (.ptr H.n 0) Q [.int .i64 c] K := by
    intro c
    simp only [S.rabbetref21_event_k12, sl_zero, Gd3_false, JoinP_def, afaddr_ptr, ld, Nat.zero_add, er0, Do_of, abin_lss, abin_neq]
    exact ite_both (fun _ => k11 _) fun _ => k11 _
  have k13 : ∀ c, S.rabbetref21_event_k13 Φ (.int .i64 n) (.fptr x.cells) (.ptr H.n 0) Q [.int .i64 c] K := by
    intro c
    simp only [S.rabbetref21_event_k13, sl_zero, Gd_true, JoinP_def, afaddr_ptr, ld, Nat.zero_add, er4, Do_of, abin_add]
    exact ite_both (fun _ => k12 _) fun _ => k12 _
  have k14 : ∀ c, S.rabbetref21_event_k14 Φ (.int .i64 n) (.fptr x.cells) (.ptr H.n 0) Q [.int .i64 c] K := by
    intro c
    simp only [S.rabbetref21_event_k14, sl_zero, Gd_true, JoinP_def, afaddr_ptr, ld, Nat.zero_add, er3, Do_of, abin_add]
    exact ite_both (fun _ => k13 _) fun _ => k13 _
  exact ite_both (fun _ => k14 _) fun _ => k14 _
end
end Rb

/- Law 24: whether an execution is sound. -/
set_option linter.unusedVariables false
set_option linter.unusedSimpArgs false
namespace Rb
open Go
section
variable {Φ : Calls'} {H : AH} {Q : Post}
theorem has_spec {a l z : Int} (hQ : ∀ b, Q (.bool b) H) : S.rabbetref21_has Φ (.agg (sp2 a l)) (.int .i64 z) H Q := by
  unfold S.rabbetref21_has
  simp only [sp_box, DoH_some, sp_a0, sp_l0, sp_a1, sp_l1, Do_of, abin_geq, abin_add, abin_lss, Gd3_true]
  exact ite_both (fun _ => hQ _) fun _ => hQ _

theorem paired_spec {x : GExec} {n : Nat} {e : GEvent} (hn : x.events[n]? = some e) (hlen : x.events.length ≤ 64) (hQ : ∀ b H', Q (.bool b) H') :
    S.rabbetref21_paired Φ (.agg x.cells) (.int .i64 n) H Q := by
  have hnl := (List.getElem?_eq_some_iff.1 hn).1
  unfold S.rabbetref21_paired
  simp only [gx_box, DoH_some, gx_addr, gx_l0, ev_addr hnl, ev_all hn, Do_of, abox, if_true, zEv_eq, ev_st, afaddr_ptr, load_push, Nat.zero_add, er10, Gd_true, Gd3_false, abin_eql, abin_lss, abin_gtr, lstA_len', JoinP_def]
  have key : ∀ (K : AH) (i7 i33 i41 i43 : Nat) (f g h : GEvent) (k : Int), At K i7 (.row e.cells) → At K i33 (.row f.cells) → At K i41 (.row g.cells) → At K i43 (.row h.cells) →
      S.rabbetref21_paired_k5 Φ (.int .i64 n) (.ptr i7 0) (.ptr i33 0) (.int .i64 k) (.ptr i41 0) (.ptr i43 0) Q [] K := by
    intro K i7 i33 i41 i43 f g h k a7 a33 a41 a43
    have k1 : ∀ b, S.rabbetref21_paired_k1 Φ (.int .i64 n) (.ptr i7 0) (.int .i64 k) Q [.bool b] K := by
      intro b
      simp only [S.rabbetref21_paired_k1, sl_zero, Gd3_true, afaddr_ptr, a7.load, Nat.zero_add, er2, Do_of, abin_lss, abeq_def]
      exact ite_both (fun _ => hQ _ _) fun _ => hQ _ _
    have k2 : ∀ b, S.rabbetref21_paired_k2 Φ (.int .i64 n) (.ptr i7 0) (.ptr i33 0) (.int .i64 k) Q [.bool b] K := by
      intro b
      simp only [S.rabbetref21_paired_k2, sl_zero, Gd3_true, JoinP_def, afaddr_ptr, a7.load, a33.load, Nat.zero_add, er5, Do_of, eqS]
      exact ite_both (fun _ => k1 _) fun _ => k1 _
    have k3 : ∀ b, S.rabbetref21_paired_k3 Φ (.int .i64 n) (.ptr i7 0) (.ptr i33 0) (.int .i64 k) Q [.bool b] K := by
      intro b
      simp only [S.rabbetref21_paired_k3, sl_zero, Gd3_true, JoinP_def, afaddr_ptr, a7.load, a33.load, Nat.zero_add, er0, Do_of, abin_eql]
      exact ite_both (fun _ => k2 _) fun _ => k2 _
    have k4 : ∀ b, S.rabbetref21_paired_k4 Φ (.int .i64 n) (.ptr i7 0) (.ptr i33 0) (.int .i64 k) (.ptr i43 0) Q [.bool b] K := by
      intro b
      simp only [S.rabbetref21_paired_k4, sl_zero, Gd3_true, JoinP_def, afaddr_ptr, a43.load, Nat.zero_add, er3, Do_of]
      exact ite_both (fun _ => k3 _) fun _ => k3 _
    simp only [S.rabbetref21_paired_k5, Gd3_true, JoinP_def, afaddr_ptr, a41.load, a33.load, Nat.zero_add, er2, er10, Do_of, abin_add, abin_eql]
    exact ite_both (fun _ => k4 _) fun _ => k4 _
  have k6 : 1 ≤ e.pair → e.pair ≤ x.events.length → S.rabbetref21_paired_k6 Φ (.int .i64 n) (.fptr x.cells) (.ptr H.n 0) Q [] (H.push (.row e.cells)) := by
    intro h1 h2
    have w : IntKind.wrap .i64 (e.pair - 1) = (((e.pair - 1).toNat : Nat) : Int) := by rw [wrap_i64 (by omega) (by omega)]; omega
    have hil : (e.pair - 1).toNat < x.events.length := by omega
    obtain ⟨f, hf⟩ : ∃ f, x.events[(e.pair - 1).toNat]? = some f := ⟨_, List.getElem?_eq_getElem hil⟩
    have a7 := At.new H (.row e.cells)
    generalize hK : H.push (.row e.cells) = K at a7
    simp only [S.rabbetref21_paired_k6, gx_addr, gx_l0, Do_of, afaddr_ptr, a7.load, Nat.zero_add, er10, abin_sub, w, ev_addr hil, ev_all hf, abox, if_true, zEv_eq, DoH_some, ev_st]
    have b33 := At.new K (.row f.cells)
    have b7 := a7.push (.row f.cells)
    generalize hK2 : K.push (.row f.cells) = K2 at b33 b7
    simp only [b7.load, b33.load, erA, er10, Do_of, abin_sub, w]
    have c7 := b7.push (.row zEv)
    have c33 := b33.push (.row zEv)
    have c41 := At.new K2 (.row zEv)
    generalize hK3 : K2.push (.row zEv) = K3 at c7 c33 c41
    simp only [c7.load, c33.load, erA, er10, Do_of, true_and]
    have d7 := c7.push (.row zEv)
    have d33 := c33.push (.row zEv)
    have d41 := c41.push (.row zEv)
    have d43 := At.new K3 (.row zEv)
    have n1 : K.n ≠ K2.n := by rw [← hK2]; exact Nat.ne_of_lt (Nat.lt_succ_self _)
    have n2 : H.n ≠ K2.n := a7.push (.row f.cells) |>.lt_new |> fun h => by rw [hK2] at h; exact h
    have n3 : K2.n ≠ K3.n := by rw [← hK3]; exact Nat.ne_of_lt (Nat.lt_succ_self _)
    have n4 : K.n ≠ K3.n := c33.lt_new
    have n5 : H.n ≠ K3.n := c7.lt_new
    generalize hK4 : K3.push (.row zEv) = K4 at d7 d33 d41 d43
    have st : ∀ (M : AH) (i : Nat) (c : List AV) (g : GEvent), At M i (.row c) → c.length = 11 → astore M 11 (.ptr i 0) (.agg g.cells) = some (M.set i (.row g.cells)) := by
      intro M i c g ha hc
      rw [ha.store, if_pos ⟨rfl, rfl, g.scal, by omega⟩]
      congr 3
      show setCells c 0 g.cells = g.cells
      rw [setCells_all (by simp [GEvent.cells, hc])]; rfl
    simp only [d7.load, d33.load, erA, er10, Do_of, true_and, st K4 K2.n zEv e d41 rfl]
    have e7 := d7.set_ne n2 (.row e.cells)
    have e33 := d33.set_ne n1 (.row e.cells)
    have e43 := d43.set_ne n3.symm (.row e.cells)
    have e41 := d41.set (.row e.cells)
    generalize hK5 : K4.set K2.n (.row e.cells) = K5 at e7 e33 e41 e43
    simp only [e7.load, e33.load, erA, er10, Do_of, true_and, st K5 K3.n zEv f e43 rfl]
    have f7 := e7.set_ne n5 (.row f.cells)
    have f33 := e33.set_ne n4 (.row f.cells)
    have f43 := e43.set (.row f.cells)
    have f41 := e41.set_ne n3 (.row f.cells)
    generalize hK6 : K5.set K3.n (.row f.cells) = K6 at f7 f33 f41 f43
    simp only [f7.load, f33.load, erA, er10, er3, Do_of, true_and, Nat.zero_add, Gd_true, JoinP_def, afaddr_ptr]
    refine ite_both (fun _ => ?_) fun _ => key _ _ _ _ _ _ _ _ _ f7 f33 f41 f43
    simp only [st K6 K2.n e.cells f f41 rfl, Do_of]
    have g7 := f7.set_ne n2 (.row f.cells)
    have g33 := f33.set_ne n1 (.row f.cells)
    have g43 := f43.set_ne n3.symm (.row f.cells)
    have g41 := f41.set (.row f.cells)
    generalize hK7 : K6.set K2.n (.row f.cells) = K7 at g7 g33 g41 g43
    simp only [g7.load, erA, true_and, st K7 K3.n f.cells e g43 rfl, Do_of]
    exact key _ _ _ _ _ _ _ _ _ (g7.set_ne n5 _) (g33.set_ne n4 _) (g41.set_ne n3 _) (g43.set _)
  refine ite_both (fun _ => hQ _ _) fun hz => ?_
  have k7 : ∀ b, (b = false → 1 ≤ e.pair ∧ e.pair ≤ x.events.length) → S.rabbetref21_paired_k7 Φ (.int .i64 n) (.fptr x.cells) (.ptr H.n 0) Q [.bool b] (H.push (.row e.cells)) := by
    intro b hb
    simp only [S.rabbetref21_paired_k7, sl_zero, Gd_true, JoinP_def]
    refine ite_both (fun _ => hQ _ _) fun h => ?_
    have := hb (by simpa using h)
    exact k6 this.1 this.2
  refine ite_both (fun h => k7 _ fun h2 => ?_) fun _ => k7 _ fun h => by cases h
  simp only [decide_eq_false_iff_not] at h h2
  omega
end
end Rb

/- Law 24: whether an execution is sound. -/
set_option linter.unusedVariables false
set_option linter.unusedSimpArgs false
namespace Rb
open Go
/-- What a sound execution's spans are. -/
def SoundF (x : GExec) : Prop := x.events.length ≤ 64 ∧ ∀ e ∈ x.events, SpanOk e.at_ e.len_
section
variable {Φ : Calls'} {H : AH} {Q : Post}
theorem succ_i {i : Nat} (h : i < 9223372036854775807) : IntKind.wrap .i64 ((i : Int) + 1) = ((i + 1 : Nat) : Int) := by rw [wrap_i64 (by omega) (by omega)]; simp

theorem Sound_spec (hT : Cl Φ S.tab_Pa) {x : GExec} (hx : x.ok) (hQ : ∀ b H', (b = true → SoundF x) → Q (.bool b) H') : S.rabbetref21_Sound Φ (.agg x.cells) H Q := by
  have hfl : ∀ l ∈ x.from_, l.length ≤ 9223372036854775807 := fun l hl => (hx.from_.2 l hl).1
  have hal : ∀ l ∈ x.after, l.length ≤ 9223372036854775807 := fun l hl => (hx.after.2 l hl).1
  -- past the first checks
  have body : x.events.length ≤ 64 → x.from_.length = x.events.length → 0 ≤ x.size → x.size ≤ 65536 → (x.after.length : Int) = x.size → ∀ H', LoopP (S.rabbetref21_Sound_l23 Φ (.fptr x.cells) Q) ([.int .i64 0], H') := by
    intro h64 hfe h0 h1 has
    -- each read's sources
    have k20 : SoundF x → ∀ H', S.rabbetref21_Sound_k20 Φ (.fptr x.cells) Q [] H' := by
      intro hF
      have inner : ∀ (n : Nat) (e : GEvent) (l : List Int) (Hs : AH) (L : (List AV × AH) → Prop), x.events[n]? = some e → x.from_[n]? = some l → (∀ H', L ([.int .i64 ((n + 1 : Nat) : Int)], H')) →
          ∀ m j, j + m = l.length → ∀ H', LoopP (S.rabbetref21_Sound_l18 Φ (.fptr x.cells) ([.int .i64 n], Hs) L Q) ([.int .i64 (j : Nat)], H') := by
        intro n e l Hs L hn hl hL m
        have hnl := (List.getElem?_eq_some_iff.1 hn).1
        have hll := (List.getElem?_eq_some_iff.1 hl).1
        have hlm := hfl l (List.mem_of_getElem? hl)
        have k17 : ∀ H', S.rabbetref21_Sound_k17 Φ ([.int .i64 n], Hs) L Q [] H' := by
          intro H'
          simp only [S.rabbetref21_Sound_k17, sl_zero, abin_add, Do_of, succ_i (show n < 9223372036854775807 by omega)]
          exact hL H'
        induction m with
        | zero =>
          intro j hj H'
          refine LoopP.step ?_
          simp only [S.rabbetref21_Sound_l18, sl_zero, gx_addr, gx_l1, li_addr hll, li_load hl, lstA_len', Do_of, abin_lss, Gd_true, JoinP_def]
          rw [if_neg (by simp only [decide_eq_true_eq]; omega)]
          exact k17 H'
        | succ m ih =>
          intro j hj H'
          have hjl : j < l.length := by omega
          obtain ⟨z, hz⟩ : ∃ z, l[j]? = some z := ⟨_, List.getElem?_eq_getElem hjl⟩
          have k15 : ∀ H', S.rabbetref21_Sound_k15 Φ ([.int .i64 (j : Nat)], H') (LoopP (S.rabbetref21_Sound_l18 Φ (.fptr x.cells) ([.int .i64 n], Hs) L Q)) Q [] H' := by
            intro H'
            simp only [S.rabbetref21_Sound_k15, sl_zero, abin_add, Do_of, succ_i (show j < 9223372036854775807 by omega)]
            exact ih (j + 1) (by omega) H'
          have k15' : ∀ H0 H', S.rabbetref21_Sound_k15 Φ ([.int .i64 (j : Nat)], H0) (LoopP (S.rabbetref21_Sound_l18 Φ (.fptr x.cells) ([.int .i64 n], Hs) L Q)) Q [] H' := by
            intro H0 H'
            simp only [S.rabbetref21_Sound_k15, sl_zero, abin_add, Do_of, succ_i (show j < 9223372036854775807 by omega)]
            exact ih (j + 1) (by omega) H'
          have k16 : ∀ H0 b H', S.rabbetref21_Sound_k16 Φ ([.int .i64 (j : Nat)], H0) (LoopP (S.rabbetref21_Sound_l18 Φ (.fptr x.cells) ([.int .i64 n], Hs) L Q)) Q [.bool b] H' := by
            intro H0 b H'
            simp only [S.rabbetref21_Sound_k16, sl_zero, Gd_true, JoinP_def]
            exact ite_both (fun _ => hQ _ _ fun h => by cases h) fun _ => k15' H0 H'
          refine LoopP.step ?_
          simp only [S.rabbetref21_Sound_l18, sl_zero, gx_addr, gx_l0, gx_l1, li_addr hll, li_load hl, lstA_len', il_addr hjl, num_load _ hz, Do_of, abin_lss, abin_gtr, Gd_true, Gd3_true, Gd3_false, JoinP_def]
          rw [if_pos (by simp only [decide_eq_true_eq]; omega)]
          refine ite_both (fun g1 => ?_) fun _ => k16 _ _ _
          refine ite_both (fun g2 => ?_) fun _ => k16 _ _ _
          refine ite_both (fun g3 => ?_) fun _ => k16 _ _ _
          simp only [decide_eq_false_iff_not] at g1 g2
          simp only [decide_eq_true_eq] at g3
          have w : IntKind.wrap .i64 (z - 1) = (((z - 1).toNat : Nat) : Int) := by rw [wrap_i64 (by omega) (by omega)]; omega
          have hwl : (z - 1).toNat < x.events.length := by omega
          obtain ⟨f, hf⟩ : ∃ f, x.events[(z - 1).toNat]? = some f := ⟨_, List.getElem?_eq_getElem hwl⟩
          simp only [abin_sub, w, ev_addr hwl, ev_fa, ev_l3 hf, ev_l5 hf, aun_not, ev_addr hnl, ev_f0, ev_l50 hn, abin_add, Do_of]
          refine ite_both (fun _ => ?_) fun _ => k16 _ _ _
          refine S.cl_rabbetref21_has hT (has_spec fun b => ?_)
          simp only [aun_not, Do_of]
          exact k16 _ _ _
      have outer : ∀ m n, n + m = x.events.length → ∀ H', LoopP (S.rabbetref21_Sound_l19 Φ (.fptr x.cells) Q) ([.int .i64 (n : Nat)], H') := by
        intro m
        induction m with
        | zero =>
          intro n hn H'
          refine LoopP.step ?_
          simp only [S.rabbetref21_Sound_l19, sl_zero, gx_addr, gx_l0, lstA_len', Do_of, abin_lss, Gd_true]
          rw [if_neg (by simp only [decide_eq_true_eq]; omega)]
          exact hQ _ _ fun _ => hF
        | succ m ih =>
          intro n hn H'
          have hnl : n < x.events.length := by omega
          obtain ⟨e, he⟩ : ∃ e, x.events[n]? = some e := ⟨_, List.getElem?_eq_getElem hnl⟩
          obtain ⟨l, hl⟩ : ∃ l, x.from_[n]? = some l := ⟨_, List.getElem?_eq_getElem (show n < x.from_.length by omega)⟩
          refine LoopP.step ?_
          simp only [S.rabbetref21_Sound_l19, sl_zero, gx_addr, gx_l0, lstA_len', Do_of, abin_lss, Gd_true]
          rw [if_pos (by simp only [decide_eq_true_eq]; omega)]
          exact inner n e l _ _ he hl (fun H'' => ih (n + 1) (by omega) H'') l.length 0 (by omega) H'
      intro H'
      exact outer x.events.length 0 (by omega) H'
    -- each byte's writes
    have k22 : SoundF x → ∀ H', S.rabbetref21_Sound_k22 Φ (.fptr x.cells) Q [] H' := by
      intro hF
      have inner : ∀ (i : Nat) (l : List Int) (u : Int) (Hs : AH) (L : (List AV × AH) → Prop), x.after[i]? = some l → (∀ H', L ([.int .i64 ((i + 1 : Nat) : Int)], H')) →
          ∀ m k, k + m = l.length → ∀ H', LoopP (S.rabbetref21_Sound_l12 Φ (.fptr x.cells) (.int .i64 u) ([.int .i64 i], Hs) L [.int .i64 l.length] Q) ([.int .i64 (k : Nat)], H') := by
        intro i l u Hs L hl hL m
        have hil := (List.getElem?_eq_some_iff.1 hl).1
        have hlm := hal l (List.mem_of_getElem? hl)
        have k11 : ∀ H', S.rabbetref21_Sound_k11 Φ ([.int .i64 i], Hs) L Q [] H' := by
          intro H'
          simp only [S.rabbetref21_Sound_k11, sl_zero, abin_add, Do_of, succ_i (show i < 9223372036854775807 by omega)]
          exact hL H'
        induction m with
        | zero =>
          intro k hk H'
          refine LoopP.step ?_
          simp only [S.rabbetref21_Sound_l12, sl_zero, Do_of, abin_lss, Gd_true, JoinP_def]
          rw [if_neg (by simp only [decide_eq_true_eq]; omega)]
          exact k11 H'
        | succ m ih =>
          intro k hk H'
          have hkl : k < l.length := by omega
          obtain ⟨z, hz⟩ : ∃ z, l[k]? = some z := ⟨_, List.getElem?_eq_getElem hkl⟩
          generalize hLL : LoopP (S.rabbetref21_Sound_l12 Φ (.fptr x.cells) (.int .i64 u) ([.int .i64 i], Hs) L [.int .i64 l.length] Q) = LL at ih ⊢
          have hLLs : LL ([.int .i64 (k : Nat)], H') = LoopP (S.rabbetref21_Sound_l12 Φ (.fptr x.cells) (.int .i64 u) ([.int .i64 i], Hs) L [.int .i64 l.length] Q) ([.int .i64 (k : Nat)], H') := by rw [hLL]
          rw [hLLs]
          refine LoopP.step ?_
          rw [hLL]
          have k5 : ∀ H0 H', S.rabbetref21_Sound_k5 Φ ([.int .i64 (k : Nat)], H0) LL Q [] H' := by
            intro H0 H'
            simp only [S.rabbetref21_Sound_k5, sl_zero, abin_add, Do_of, succ_i (show k < 9223372036854775807 by omega)]
            exact ih (k + 1) (by omega) H'
          have l6 : ∀ m j, j + m = k → ∀ H0 H', LoopP (S.rabbetref21_Sound_l6 Φ (.fptr x.cells) (.int .i64 z) ([.int .i64 i], Hs) ([.int .i64 (k : Nat)], H0) LL Q) ([.int .i64 (j : Nat)], H') := by
            intro m
            induction m with
            | zero =>
              intro j hj H0 H'
              refine LoopP.step ?_
              simp only [S.rabbetref21_Sound_l6, sl_zero, Do_of, abin_lss, Gd_true, JoinP_def]
              rw [if_neg (by simp only [decide_eq_true_eq]; omega)]
              exact k5 H0 H'
            | succ m ih2 =>
              intro j hj H0 H'
              have hjl : j < l.length := by omega
              obtain ⟨y, hy⟩ : ∃ y, l[j]? = some y := ⟨_, List.getElem?_eq_getElem hjl⟩
              refine LoopP.step ?_
              simp only [S.rabbetref21_Sound_l6, sl_zero, Do_of, abin_lss, Gd_true, JoinP_def, gx_addr, gx_l2, li_addr hil, li_load hl, il_addr hjl, num_load _ hy, abin_eql, abin_add, succ_i (show j < 9223372036854775807 by omega)]
              rw [if_pos (by simp only [decide_eq_true_eq]; omega)]
              exact ite_both (fun _ => hQ _ _ fun h => by cases h) fun _ => ih2 (j + 1) (by omega) H0 H'
          have k8 : ∀ H0 b H', S.rabbetref21_Sound_k8 Φ (.fptr x.cells) (.int .i64 z) ([.int .i64 i], Hs) ([.int .i64 (k : Nat)], H0) LL Q [.bool b] H' := by
            intro H0 b H'
            simp only [S.rabbetref21_Sound_k8, S.rabbetref21_Sound_k7, sl_zero, Gd_true, JoinP_def]
            exact ite_both (fun _ => hQ _ _ fun h => by cases h) fun _ => l6 k 0 (by omega) H0 H'
          have k9 : 0 ≤ z → z < x.events.length → ∀ H0 b H', S.rabbetref21_Sound_k9 Φ (.fptr x.cells) (.int .i64 u) (.int .i64 z) ([.int .i64 i], Hs) ([.int .i64 (k : Nat)], H0) LL Q [.bool b] H' := by
            intro z0 z1 H0 b H'
            have hzl : z.toNat < x.events.length := by omega
            obtain ⟨f, hf⟩ : ∃ f, x.events[z.toNat]? = some f := ⟨_, List.getElem?_eq_getElem hzl⟩
            rw [int_nat z0]
            simp only [S.rabbetref21_Sound_k9, sl_zero, Gd3_false, JoinP_def, gx_addr, gx_l0, ev_addr hzl, ev_fa, ev_l5 hf, Do_of]
            rw [← int_nat z0]
            refine ite_both (fun _ => ?_) fun _ => k8 _ _ _
            refine S.cl_rabbetref21_has hT (has_spec fun b => ?_)
            simp only [aun_not, Do_of]
            exact k8 _ _ _
          have k10 : ∀ H0 b H', (b = false → 0 ≤ z ∧ z < x.events.length) → S.rabbetref21_Sound_k10 Φ (.fptr x.cells) (.int .i64 u) (.int .i64 z) ([.int .i64 i], Hs) ([.int .i64 (k : Nat)], H0) LL Q [.bool b] H' := by
            intro H0 b H' hb
            cases b with
            | true =>
              simp only [S.rabbetref21_Sound_k10, S.rabbetref21_Sound_k9, sl_zero, Gd3_false, JoinP_def, Bool.true_eq_false, if_false]
              exact k8 _ _ _
            | false =>
              obtain ⟨z0, z1⟩ := hb rfl
              have hzl : z.toNat < x.events.length := by omega
              obtain ⟨f, hf⟩ : ∃ f, x.events[z.toNat]? = some f := ⟨_, List.getElem?_eq_getElem hzl⟩
              rw [int_nat z0]
              simp only [S.rabbetref21_Sound_k10, sl_zero, Gd3_false, JoinP_def, gx_addr, gx_l0, ev_addr hzl, ev_fa, ev_l3 hf, Do_of, aun_not, if_true]
              rw [← int_nat z0]
              exact k9 z0 z1 _ _ _
          simp only [S.rabbetref21_Sound_l12, sl_zero, Do_of, abin_lss, abin_geq, Gd_true, Gd3_false, JoinP_def, gx_addr, gx_l0, gx_l2, li_addr hil, li_load hl, lstA_len', il_addr hkl, num_load _ hz]
          rw [if_pos (by simp only [decide_eq_true_eq]; omega)]
          refine ite_both (fun g1 => k10 _ _ _ fun g2 => ?_) fun _ => k10 _ _ _ fun h => by cases h
          simp only [decide_eq_false_iff_not] at g1 g2
          omega
      have count : ∀ (i : Nat) (l : List Int) (u : Int) (Hs : AH) (L : (List AV × AH) → Prop), x.after[i]? = some l → (∀ H', L ([.int .i64 ((i + 1 : Nat) : Int)], H')) →
          ∀ m n, n + m = x.events.length → ∀ c H', LoopP (S.rabbetref21_Sound_l14 Φ (.fptr x.cells) (.int .i64 u) ([.int .i64 i], Hs) L Q) ([.int .i64 c, .int .i64 (n : Nat)], H') := by
        intro i l u Hs L hl hL m
        have hil := (List.getElem?_eq_some_iff.1 hl).1
        have k13 : ∀ c H', S.rabbetref21_Sound_k13 Φ (.fptr x.cells) (.int .i64 u) ([.int .i64 i], Hs) L Q [.int .i64 c] H' := by
          intro c H'
          simp only [S.rabbetref21_Sound_k13, sl_zero, Do_of, abin_neq, Gd_true, gx_addr, gx_l2, li_addr hil, li_load hl, lstA_len']
          refine ite_both (fun _ => hQ _ _ fun h => by cases h) fun h => ?_
          have hc : c = l.length := by simpa using h
          subst hc
          exact inner i l u Hs L hl hL l.length 0 (by omega) H'
        induction m with
        | zero =>
          intro n hn c H'
          refine LoopP.step ?_
          simp only [S.rabbetref21_Sound_l14, sl_zero, sl_succ, gx_addr, gx_l0, lstA_len', Do_of, abin_lss, Gd_true, JoinP_def]
          rw [if_neg (by simp only [decide_eq_true_eq]; omega)]
          exact k13 c H'
        | succ m ih =>
          intro n hn c H'
          have hnl : n < x.events.length := by omega
          obtain ⟨e, he⟩ : ∃ e, x.events[n]? = some e := ⟨_, List.getElem?_eq_getElem hnl⟩
          have k3 : ∀ H0 c' d' H', S.rabbetref21_Sound_k3 Φ ([.int .i64 c', .int .i64 (n : Nat)], H0) (LoopP (S.rabbetref21_Sound_l14 Φ (.fptr x.cells) (.int .i64 u) ([.int .i64 i], Hs) L Q)) Q [.int .i64 d'] H' := by
            intro H0 c' d' H'
            simp only [S.rabbetref21_Sound_k3, sl_zero, sl_succ, abin_add, Do_of, succ_i (show n < 9223372036854775807 by omega)]
            exact ih (n + 1) (by omega) _ H'
          have k4 : ∀ H0 c' b H', S.rabbetref21_Sound_k4 Φ ([.int .i64 c', .int .i64 (n : Nat)], H0) (LoopP (S.rabbetref21_Sound_l14 Φ (.fptr x.cells) (.int .i64 u) ([.int .i64 i], Hs) L Q)) Q [.bool b] H' := by
            intro H0 c' b H'
            simp only [S.rabbetref21_Sound_k4, sl_zero, Gd_true, JoinP_def, abin_add, Do_of]
            exact ite_both (fun _ => k3 _ _ _ _) fun _ => k3 _ _ _ _
          refine LoopP.step ?_
          simp only [S.rabbetref21_Sound_l14, sl_zero, sl_succ, gx_addr, gx_l0, lstA_len', Do_of, abin_lss, Gd_true, Gd3_true, JoinP_def, ev_addr hnl, ev_fa, ev_l3 he, ev_l5 he]
          rw [if_pos (by simp only [decide_eq_true_eq]; omega)]
          refine ite_both (fun _ => ?_) fun _ => k4 _ _ _ _
          exact S.cl_rabbetref21_has hT (has_spec fun b => k4 _ _ _ _)
      have outer : ∀ m i, i + m = x.after.length → ∀ H', LoopP (S.rabbetref21_Sound_l21 Φ (.fptr x.cells) Q) ([.int .i64 (i : Nat)], H') := by
        intro m
        induction m with
        | zero =>
          intro i hi H'
          refine LoopP.step ?_
          simp only [S.rabbetref21_Sound_l21, sl_zero, gx_addr, gx_l3, Do_of, abin_lss, Gd_true, JoinP_def]
          rw [if_neg (by simp only [decide_eq_true_eq]; omega)]
          exact k20 hF H'
        | succ m ih =>
          intro i hi H'
          have hil : i < x.after.length := by omega
          obtain ⟨l, hl⟩ : ∃ l, x.after[i]? = some l := ⟨_, List.getElem?_eq_getElem hil⟩
          refine LoopP.step ?_
          simp only [S.rabbetref21_Sound_l21, sl_zero, gx_addr, gx_l3, Do_of, abin_lss, Gd_true, JoinP_def, abin_add]
          rw [if_pos (by simp only [decide_eq_true_eq]; omega)]
          exact count i l _ _ _ hl (fun H'' => ih (i + 1) (by omega) H'') x.events.length 0 (by omega) _ H'
      intro H'
      exact outer x.after.length 0 (by omega) H'
    have main : ∀ m n, n + m = x.events.length → (∀ k e, k < n → x.events[k]? = some e → SpanOk e.at_ e.len_) → ∀ H', LoopP (S.rabbetref21_Sound_l23 Φ (.fptr x.cells) Q) ([.int .i64 (n : Nat)], H') := by
      intro m
      induction m with
      | zero =>
        intro n hn hok H'
        refine LoopP.step ?_
        simp only [S.rabbetref21_Sound_l23, sl_zero, gx_addr, gx_l0, lstA_len', Do_of, abin_lss, Gd_true, JoinP_def]
        rw [if_neg (by simp only [decide_eq_true_eq]; omega)]
        refine k22 ⟨h64, fun e he => ?_⟩ H'
        obtain ⟨k, hk⟩ := List.getElem?_of_mem he
        exact hok k e (by have := (List.getElem?_eq_some_iff.1 hk).1; omega) hk
      | succ m ih =>
        intro n hn hok H'
        have hnl : n < x.events.length := by omega
        obtain ⟨e, he⟩ : ∃ e, x.events[n]? = some e := ⟨_, List.getElem?_eq_getElem hnl⟩
        obtain ⟨l, hl⟩ : ∃ l, x.from_[n]? = some l := ⟨_, List.getElem?_eq_getElem (show n < x.from_.length by omega)⟩
        refine LoopP.step ?_
        simp only [S.rabbetref21_Sound_l23, sl_zero, gx_addr, gx_l0, gx_all, lstA_len', Do_of, abin_lss, Gd_true, JoinP_def]
        rw [if_pos (by simp only [decide_eq_true_eq]; omega)]
        refine S.cl_rabbetref21_event hT (event_spec he hl h0 h1 fun b H1 hb => ?_)
        simp only [aun_not, Do_of, Gd3_false]
        have k2 : ∀ H0 c H2, (c = false → b = true) → S.rabbetref21_Sound_k2 Φ ([.int .i64 (n : Nat)], H0) (LoopP (S.rabbetref21_Sound_l23 Φ (.fptr x.cells) Q)) Q [.bool c] H2 := by
          intro H0 c H2 hc
          simp only [S.rabbetref21_Sound_k2, S.rabbetref21_Sound_k1, sl_zero, Gd_true, JoinP_def, abin_add, Do_of, succ_i (show n < 9223372036854775807 by omega)]
          refine ite_both (fun _ => hQ _ _ fun h => by cases h) fun h => ?_
          refine ih (n + 1) (by omega) (fun k e' hk hk' => ?_) H2
          by_cases hkn : k = n
          · subst hkn
            rw [he] at hk'; cases hk'
            exact hb (hc (by simpa using h))
          · exact hok k e' (by omega) hk'
        refine ite_both (fun g => ?_) fun g => k2 _ _ _ fun h => by cases h
        refine S.cl_rabbetref21_paired hT (paired_spec he h64 fun c H2 => ?_)
        simp only [aun_not, Do_of]
        exact k2 _ _ _ fun _ => by simpa using g
    intro H'
    exact main x.events.length 0 (by omega) (fun k e hk => by omega) H'
  unfold S.rabbetref21_Sound
  simp only [gx_box, DoH_some, gx_addr, gx_l0, gx_l1, lstA_len', Do_of, abin_gtr, abin_neq, Gd3_false, JoinP_def]
  have k25 : ∀ b, (b = false → x.events.length ≤ 64 ∧ x.from_.length = x.events.length ∧ 0 ≤ x.size ∧ x.size ≤ 65536 ∧ (x.after.length : Int) = x.size) → S.rabbetref21_Sound_k25 Φ (.fptr x.cells) Q [.bool b] H := by
    intro b hb
    simp only [S.rabbetref21_Sound_k25, S.rabbetref21_Sound_k24, sl_zero, Gd_true, JoinP_def]
    refine ite_both (fun _ => hQ _ _ fun h => by cases h) fun h => ?_
    obtain ⟨a, b, c, d, e⟩ := hb (by simpa using h)
    exact body a b c d e H
  have k26 : ∀ b, (b = false → x.events.length ≤ 64 ∧ x.from_.length = x.events.length ∧ 0 ≤ x.size ∧ x.size ≤ 65536) → S.rabbetref21_Sound_k26 Φ (.fptr x.cells) Q [.bool b] H := by
    intro b hb
    simp only [S.rabbetref21_Sound_k26, sl_zero, Gd3_false, JoinP_def, gx_addr, gx_l2, gx_l3, lstA_len', Do_of, abin_neq]
    refine ite_both (fun g => k25 _ fun h => ?_) fun _ => k25 _ fun h => by cases h
    obtain ⟨a, b, c, d⟩ := hb g
    exact ⟨a, b, c, d, by simpa using h⟩
  have k27 : ∀ b, (b = false → x.events.length ≤ 64 ∧ x.from_.length = x.events.length ∧ 0 ≤ x.size) → S.rabbetref21_Sound_k27 Φ (.fptr x.cells) Q [.bool b] H := by
    intro b hb
    simp only [S.rabbetref21_Sound_k27, sl_zero, Gd3_false, JoinP_def, gx_addr, gx_l3, Do_of, abin_gtr]
    refine ite_both (fun g => k26 _ fun h => ?_) fun _ => k26 _ fun h => by cases h
    obtain ⟨a, b, c⟩ := hb g
    simp only [decide_eq_false_iff_not] at h
    exact ⟨a, b, c, by omega⟩
  have k28 : ∀ b, (b = false → x.events.length ≤ 64 ∧ x.from_.length = x.events.length) → S.rabbetref21_Sound_k28 Φ (.fptr x.cells) Q [.bool b] H := by
    intro b hb
    simp only [S.rabbetref21_Sound_k28, sl_zero, Gd3_false, JoinP_def, gx_addr, gx_l3, Do_of, abin_lss]
    refine ite_both (fun g => k27 _ fun h => ?_) fun _ => k27 _ fun h => by cases h
    obtain ⟨a, b⟩ := hb g
    simp only [decide_eq_false_iff_not] at h
    exact ⟨a, b, by omega⟩
  refine ite_both (fun g => k28 _ fun h => ?_) fun _ => k28 _ fun h => by cases h
  simp only [decide_eq_false_iff_not] at g
  have h : (x.from_.length : Int) = x.events.length := by simpa using h
  exact ⟨by omega, by omega⟩
end
end Rb

/- Law 24: pair.Alike, and the law. -/
set_option linter.unusedVariables false
set_option linter.unusedSimpArgs false
namespace Rb
open Go
section
variable {α : Type} {cells : α → List AV} {sz : Nat}
theorem flatMap_takeE (hc : ∀ x, (cells x).length = sz) : ∀ (xs : List α) (i : Nat), (xs.flatMap cells).take (i * sz) = (xs.take i).flatMap cells := by
  intro xs i
  induction i generalizing xs with
  | zero => simp
  | succ i ih =>
    cases xs with
    | nil => simp
    | cons x xs =>
      rw [List.flatMap_cons, List.take_succ_cons, List.flatMap_cons, ← ih]
      rw [show (i + 1) * sz = (cells x).length + i * sz by rw [hc, Nat.add_mul, Nat.one_mul, Nat.add_comm], List.take_length_add_append]
theorem slice_takeE (hc : ∀ x, (cells x).length = sz) {xs : List α} {n : Nat} (hn : n ≤ xs.length) : aslice sz (lstA cells xs) none (some (.int .i64 n)) none = some (lstA cells (xs.take n)) := by
  simp only [lstA, aslice, abound, Option.map_none]
  rw [if_pos (by omega)]
  simp only
  rw [if_pos ⟨Nat.zero_le _, by omega, flatMap_len hc xs⟩]
  by_cases h : n = xs.length
  · rw [if_pos (by simp; omega), h, List.take_length]
  · rw [if_neg (by omega)]
    have : ((n : Int)).toNat = n := by omega
    simp only [this, if_true, Nat.sub_zero, Nat.zero_mul, List.drop_zero, flatMap_takeE hc]
    rw [List.length_take, Nat.min_eq_left hn]
end

/-- Two events: if they meet, they have the same bytes. -/
def pOk (e f : GEvent) : Bool := !meetsB e.at_ e.len_ f.at_ f.len_ || (e.at_ == f.at_ && (e.len_ == f.len_ && true))
def goB : List GEvent → List GEvent → Bool
  | _, [] => true
  | seen, e :: r => seen.all (pOk e) && goB (seen ++ [e]) r

section
variable {Φ : Calls'} {H : AH} {Q : Post}
theorem Alike_spec (hT : Cl Φ S.tab_Pa) {x : GExec} (hF : SoundF x) (hQ : ∀ H', Q (.bool (goB [] x.events)) H') : S.pair_Alike Φ (.agg x.cells) H Q := by
  obtain ⟨h64, hsp⟩ := hF
  unfold S.pair_Alike
  simp only [gx_box, DoH_some, gx_addr, gx_l0, lstA_len', Do_of]
  have inner : ∀ (i : Nat) (e : GEvent) (id : Nat) (Hs : AH) (L : (List AV × AH) → Prop), x.events[i]? = some e →
      ∀ ys k, (x.events.take i).drop k = ys → ∀ H', At H' id (.row e.cells) → (ys.all (pOk e) = true → ∀ H', L ([.int .i64 ((i + 1 : Nat) : Int)], H')) → (ys.all (pOk e) = false → ∀ H', Q (.bool false) H') →
      LoopP (S.pair_Alike_l4 Φ (.ptr id 0) (lstA GEvent.cells (x.events.take i)) (.int .i64 (x.events.take i).length) ([.int .i64 (i : Nat)], Hs) L Q) ([.int .i64 (k : Nat)], H') := by
    intro i e id Hs L he ys
    have hil := (List.getElem?_eq_some_iff.1 he).1
    have hoe := hsp e (List.mem_of_getElem? he)
    induction ys with
    | nil =>
      intro k hk H' ha hL hN
      have hle := drop_nil_le hk
      refine LoopP.step ?_
      simp only [S.pair_Alike_l4, S.pair_Alike_k3, sl_zero, Do_of, abin_lss, Gd_true, JoinP_def, abin_add, succ_i (show i < 9223372036854775807 by omega)]
      rw [if_neg (by simp only [decide_eq_true_eq]; omega)]
      exact hL rfl H'
    | cons f ys ih =>
      intro k hk H' ha hL hN
      obtain ⟨hlt, hf, hd⟩ := drop_cons_lt hk
      have hfm : f ∈ x.events := List.mem_of_mem_take (List.mem_of_getElem? hf)
      have hof := hsp f hfm
      have hkk : k < 64 := by have := List.length_take_le i x.events; have : (x.events.take i).length ≤ x.events.length := by simp [List.length_take]; omega
                              omega
      refine LoopP.step ?_
      simp only [S.pair_Alike_l4, sl_zero, Do_of, abin_lss, Gd_true, JoinP_def, ev_addr hlt, ev_all hf, abox, if_true, zEv_eq, DoH_some, ev_st, afaddr_ptr, load_push, Nat.zero_add, er5, (ha.push (.row f.cells)).load]
      rw [if_pos (by simp only [decide_eq_true_eq]; omega)]
      refine S.cl_span_Meets hT (Meets_spec hT hoe hof fun H2 e2 => ?_)
      have a2 := (ha.push (.row f.cells)).ext e2
      have b2 := (At.new H' (.row f.cells)).ext e2
      simp only [Gd3_true, a2.load, b2.load, er5, Do_of, neS]
      rw [List.all_cons] at hL hN
      have k2 : ∀ H0 b, b = !pOk e f → S.pair_Alike_k2 Φ ([.int .i64 (k : Nat)], H0) (LoopP (S.pair_Alike_l4 Φ (.ptr id 0) (lstA GEvent.cells (x.events.take i)) (.int .i64 (x.events.take i).length) ([.int .i64 (i : Nat)], Hs) L Q)) Q [.bool b] H2 := by
        intro H0 b hb
        simp only [S.pair_Alike_k2, S.pair_Alike_k1, sl_zero, Gd_true, JoinP_def, abin_add, Do_of, succ_i (show k < 9223372036854775807 by omega)]
        refine ite_both (fun h => ?_) fun h => ?_
        · have hp : pOk e f = false := by rw [h] at hb; simpa using hb.symm
          exact hN (by rw [hp]; rfl) H2
        · have hp : pOk e f = true := by
            have : b = false := by simpa using h
            rw [this] at hb
            simpa using hb.symm
          rw [hp, Bool.true_and] at hL hN
          exact ih (k + 1) hd H2 a2 hL hN
      refine ite_both (fun hm => k2 _ _ ?_) fun hm => k2 _ _ ?_
      · simp only [pOk, hm, Bool.not_true, Bool.false_or]
      · have hm' : meetsB e.at_ e.len_ f.at_ f.len_ = false := by simpa using hm
        simp only [pOk, hm', Bool.not_false, Bool.true_or, Bool.not_true]
  have outer : ∀ ys i, x.events.drop i = ys → ∀ H', (∀ H', Q (.bool (goB (x.events.take i) ys)) H') → LoopP (S.pair_Alike_l5 Φ (.fptr x.cells) (lstA GEvent.cells x.events) (.int .i64 x.events.length) Q) ([.int .i64 (i : Nat)], H') := by
    intro ys
    induction ys with
    | nil =>
      intro i hi H' hq
      have hle := drop_nil_le hi
      refine LoopP.step ?_
      simp only [S.pair_Alike_l5, sl_zero, Do_of, abin_lss, Gd_true]
      rw [if_neg (by simp only [decide_eq_true_eq]; omega)]
      exact hq H'
    | cons e ys ih =>
      intro i hi H' hq
      obtain ⟨hlt, he, hd⟩ := drop_cons_lt hi
      refine LoopP.step ?_
      simp only [S.pair_Alike_l5, sl_zero, Do_of, abin_lss, Gd_true, ev_addr hlt, ev_all he, abox, if_true, zEv_eq, DoH_some, ev_st, gx_addr, gx_l0, slice_takeE GEvent.len (Nat.le_of_lt hlt), lstA_len']
      rw [if_pos (by simp only [decide_eq_true_eq]; omega)]
      have htk : x.events.take (i + 1) = x.events.take i ++ [e] := by rw [List.take_add_one, he]; rfl
      simp only [goB] at hq
      refine inner i e _ _ _ he (x.events.take i) 0 (by simp) _ (At.new _ _) (fun hall H2 => ih (i + 1) hd H2 fun H3 => ?_) fun hall H2 => ?_
      · have := hq H3
        rw [hall, Bool.true_and] at this
        rw [htk]
        exact this
      · have := hq H2
        rw [hall, Bool.false_and] at this
        exact this
  exact outer x.events 0 rfl H fun H' => by simpa using hQ H'

theorem PairAlike_spec (hT : Cl Φ S.tab_Pa) (hawake : ∀ H Q, Q (.bool true) H → Φ K.rabbetlaw24_awake [] H Q) {x : GExec} (hx : x.ok) (hQ : ∀ H', Q (.bool true) H') : S.rabbetlaw24_PairAlike Φ (.agg x.cells) H Q := by
  unfold S.rabbetlaw24_PairAlike
  simp only [gx_box, DoH_some, gx_all, Do_of]
  refine S.cl_rabbetref21_Sound hT (Sound_spec hT hx fun b H1 hb => ?_)
  simp only [aun_not, Do_of, Gd_true]
  refine ite_both (fun _ => hawake _ _ (hQ _)) fun hbt => ?_
  have hF : SoundF x := hb (by simpa using hbt)
  obtain ⟨h64, hsp⟩ := hF
  have k7 : ∀ w, w = goB [] x.events → ∀ H', S.rabbetlaw24_PairAlike_k7 Φ (.fptr x.cells) Q [.bool w] H' := by
    intro w hw H'
    unfold S.rabbetlaw24_PairAlike_k7
    refine hawake _ _ ?_
    simp only [Gd3_true, if_true, gx_all, Do_of, sl_zero]
    refine S.cl_pair_Alike hT (Alike_spec hT ⟨h64, hsp⟩ fun H2 => ?_)
    simp only [abeq_def, Do_of, hw, beq_self_eq_true, Bool.false_eq_true, if_false]
    exact hQ _
  have inner : ∀ (i : Nat) (e : GEvent) (w0 : Bool) (Hs : AH) (L : (List AV × AH) → Prop), x.events[i]? = some e →
      ∀ ys k, (x.events.take i).drop k = ys → ∀ w H', (∀ H', L ([.bool (w && ys.all (pOk e)), .int .i64 ((i + 1 : Nat) : Int)], H')) →
      LoopP (S.rabbetlaw24_PairAlike_l6 Φ (.fptr x.cells) ([.bool w0, .int .i64 (i : Nat)], Hs) L Q) ([.bool w, .int .i64 (k : Nat)], H') := by
    intro i e w0 Hs L he ys
    have hil := (List.getElem?_eq_some_iff.1 he).1
    have hoe := hsp e (List.mem_of_getElem? he)
    have hlen : (x.events.take i).length = i := by rw [List.length_take]; omega
    induction ys with
    | nil =>
      intro k hk w H' hL
      have hle := drop_nil_le hk
      refine LoopP.step ?_
      simp only [S.rabbetlaw24_PairAlike_l6, S.rabbetlaw24_PairAlike_k5, sl_zero, sl_succ, Do_of, abin_lss, Gd_true, JoinP_def, abin_add, succ_i (show i < 9223372036854775807 by omega)]
      rw [if_neg (by simp only [decide_eq_true_eq]; omega)]
      simpa using hL H'
    | cons f ys ih =>
      intro k hk w H' hL
      obtain ⟨hlt, hf0, hd⟩ := drop_cons_lt hk
      have hki : k < i := by omega
      have hkl : k < x.events.length := by omega
      have hf : x.events[k]? = some f := by rw [List.getElem?_take, if_pos hki] at hf0; exact hf0
      have hof := hsp f (List.mem_of_getElem? hf)
      rw [List.all_cons] at hL
      refine LoopP.step ?_
      simp only [S.rabbetlaw24_PairAlike_l6, sl_zero, sl_succ, Do_of, abin_lss, abin_gtr, Gd_true, Gd3_true, JoinP_def, gx_addr, gx_l0, ev_addr hil, ev_addr hkl, ev_fa, ev_l5 he, ev_l5 hf, abox, if_true, z2, DoH_some, true_and]
      rw [if_pos (by simp only [decide_eq_true_eq]; omega)]
      have a1 := (At.new H' (.row (sp2 0 0))).push (.row (sp2 0 0))
      have b1 := At.new (H'.push (.row (sp2 0 0))) (.row (sp2 0 0))
      have hne : H'.n ≠ (H'.push (.row (sp2 0 0))).n := Nat.ne_of_lt (Nat.lt_succ_self _)
      generalize hM1 : (H'.push (.row (sp2 0 0))).n = ib at b1 hne
      generalize hM2 : (H'.push (.row (sp2 0 0))).push (.row (sp2 0 0)) = M at a1 b1
      have st : ∀ (N : AH) (id : Nat) (a l : Int), At N id (.row (sp2 0 0)) → astore N 2 (.ptr id 0) (.agg (sp2 a l)) = some (N.set id (.row (sp2 a l))) := by
        intro N id a l ha
        rw [ha.store, if_pos ⟨rfl, rfl, rfl, by decide⟩]; rfl
      simp only [st M H'.n e.at_ e.len_ a1, Do_of]
      have a2 := a1.set (.row (sp2 e.at_ e.len_))
      have b2 := b1.set_ne hne.symm (.row (sp2 e.at_ e.len_))
      generalize hM3 : M.set H'.n (.row (sp2 e.at_ e.len_)) = M3 at a2 b2
      simp only [st M3 ib f.at_ f.len_ b2, Do_of]
      have a3 := a2.set_ne hne (.row (sp2 f.at_ f.len_))
      have b3 := b2.set (.row (sp2 f.at_ f.len_))
      generalize hM4 : M3.set ib (.row (sp2 f.at_ f.len_)) = M4 at a3 b3
      have w1 : IntKind.wrap .i64 (f.at_ + f.len_) = f.at_ + f.len_ := by rcases hof with ⟨h1, h2⟩ | ⟨h1, h2, h3, h4⟩ <;> exact wrap_i64 (by omega) (by omega)
      have w2 : IntKind.wrap .i64 (e.at_ + e.len_) = e.at_ + e.len_ := by rcases hoe with ⟨h1, h2⟩ | ⟨h1, h2, h3, h4⟩ <;> exact wrap_i64 (by omega) (by omega)
      simp only [afaddr_ptr, a3.load, b3.load, Nat.zero_add, tk_l1, Do_of, abin_gtr, Gd3_true, JoinP_def]
      have k1 : ∀ H0 b, b = (w && pOk e f) → S.rabbetlaw24_PairAlike_k1 Φ ([.bool w, .int .i64 (k : Nat)], H0) (LoopP (S.rabbetlaw24_PairAlike_l6 Φ (.fptr x.cells) ([.bool w0, .int .i64 (i : Nat)], Hs) L Q)) Q [.bool b] M4 := by
        intro H0 b hb
        simp only [S.rabbetlaw24_PairAlike_k1, sl_zero, sl_succ, abin_add, Do_of, succ_i (show k < 9223372036854775807 by omega)]
        refine ih (k + 1) hd b M4 fun H5 => ?_
        rw [hb, Bool.and_assoc]
        exact hL H5
      have k2 : ∀ H0 b, b = meetsB e.at_ e.len_ f.at_ f.len_ → S.rabbetlaw24_PairAlike_k2 Φ (.ptr H'.n 0) (.ptr ib 0) ([.bool w, .int .i64 (k : Nat)], H0) (LoopP (S.rabbetlaw24_PairAlike_l6 Φ (.fptr x.cells) ([.bool w0, .int .i64 (i : Nat)], Hs) L Q)) Q [.bool b] M4 := by
        intro H0 b hb
        simp only [S.rabbetlaw24_PairAlike_k2, sl_zero, Gd3_true, Gd3_false, aun_not, JoinP_def, a3.load, b3.load, tk_all, Do_of, eqS]
        refine ite_both (fun hw => ?_) fun hw => k1 _ _ ?_
        · refine ite_both (fun hm => k1 _ _ ?_) fun hm => k1 _ _ ?_
          · have : meetsB e.at_ e.len_ f.at_ f.len_ = true := by rw [← hb]; simpa using hm
            rw [hw, pOk, this]; rfl
          · have : meetsB e.at_ e.len_ f.at_ f.len_ = false := by rw [← hb]; simpa using hm
            rw [hw, pOk, this]; rfl
        · have : w = false := by simpa using hw
          rw [this]; rfl
      have k3 : ∀ H0 b, (b = (decide (e.len_ > 0) && (decide (f.len_ > 0) && decide (e.at_ < f.at_ + f.len_)))) → S.rabbetlaw24_PairAlike_k3 Φ (.ptr H'.n 0) (.ptr ib 0) ([.bool w, .int .i64 (k : Nat)], H0) (LoopP (S.rabbetlaw24_PairAlike_l6 Φ (.fptr x.cells) ([.bool w0, .int .i64 (i : Nat)], Hs) L Q)) Q [.bool b] M4 := by
        intro H0 b hb
        simp only [S.rabbetlaw24_PairAlike_k3, sl_zero, Gd3_true, JoinP_def, afaddr_ptr, a3.load, b3.load, Nat.zero_add, tk_l0, tk_l1, Do_of, abin_add, w2, abin_lss]
        refine ite_both (fun h => k2 _ _ ?_) fun h => k2 _ _ ?_
        · rw [h] at hb
          have hb' := hb.symm
          simp only [Bool.and_eq_true] at hb'
          simp only [meetsB, hb'.1, hb'.2.1, hb'.2.2, Bool.true_and]
        · have hb' : (decide (e.len_ > 0) && (decide (f.len_ > 0) && decide (e.at_ < f.at_ + f.len_))) = false := by rw [← hb]; simpa using h
          cases hm : meetsB e.at_ e.len_ f.at_ f.len_ with
          | false => rfl
          | true =>
            simp only [meetsB, Bool.and_eq_true] at hm
            rw [hm.1, hm.2.1, hm.2.2.1] at hb'
            cases hb'
      have k4 : ∀ H0 b, (b = (decide (e.len_ > 0) && decide (f.len_ > 0))) → S.rabbetlaw24_PairAlike_k4 Φ (.ptr H'.n 0) (.ptr ib 0) ([.bool w, .int .i64 (k : Nat)], H0) (LoopP (S.rabbetlaw24_PairAlike_l6 Φ (.fptr x.cells) ([.bool w0, .int .i64 (i : Nat)], Hs) L Q)) Q [.bool b] M4 := by
        intro H0 b hb
        simp only [S.rabbetlaw24_PairAlike_k4, sl_zero, Gd3_true, JoinP_def, afaddr_ptr, a3.load, b3.load, Nat.zero_add, tk_l0, tk_l1, Do_of, abin_add, w1, abin_lss]
        refine ite_both (fun h => k3 _ _ ?_) fun h => k3 _ _ ?_
        · rw [h] at hb
          have hb' := hb.symm
          simp only [Bool.and_eq_true] at hb'
          rw [hb'.1, hb'.2]; rfl
        · have hb' : (decide (e.len_ > 0) && decide (f.len_ > 0)) = false := by rw [← hb]; simpa using h
          rw [← Bool.and_assoc, hb']; rfl
      refine ite_both (fun h => k4 _ _ ?_) fun h => k4 _ _ ?_
      · rw [h]; rfl
      · have : decide (e.len_ > 0) = false := by simpa using h
        rw [this]; rfl
  have outer : ∀ ys i, x.events.drop i = ys → ∀ w H', (w && goB (x.events.take i) ys) = goB [] x.events → LoopP (S.rabbetlaw24_PairAlike_l8 Φ (.fptr x.cells) Q) ([.bool w, .int .i64 (i : Nat)], H') := by
    intro ys
    induction ys with
    | nil =>
      intro i hi w H' hw
      have hle := drop_nil_le hi
      refine LoopP.step ?_
      simp only [S.rabbetlaw24_PairAlike_l8, sl_zero, sl_succ, gx_addr, gx_l0, lstA_len', Do_of, abin_lss, Gd_true, JoinP_def]
      rw [if_neg (by simp only [decide_eq_true_eq]; omega)]
      exact k7 w (by simpa [goB] using hw) H'
    | cons e ys ih =>
      intro i hi w H' hw
      obtain ⟨hlt, he, hd⟩ := drop_cons_lt hi
      refine LoopP.step ?_
      simp only [S.rabbetlaw24_PairAlike_l8, sl_zero, sl_succ, gx_addr, gx_l0, lstA_len', Do_of, abin_lss, Gd_true]
      rw [if_pos (by simp only [decide_eq_true_eq]; omega)]
      have htk : x.events.take (i + 1) = x.events.take i ++ [e] := by rw [List.take_add_one, he]; rfl
      refine inner i e w _ _ he (x.events.take i) 0 (by simp) w H' fun H2 => ih (i + 1) hd _ H2 ?_
      rw [htk, Bool.and_assoc]
      exact hw
  exact outer x.events 0 rfl true H1 (by simp)
end
end Rb

/- Law 24, PairAlike. -/
set_option linter.unusedVariables false
namespace Go.Proofs.YtaiaeodekdehhaaGreatDoor.rb
open Rb
theorem pairAlike.any (x : GExec) (hx : x.ok) : ACall C K.rabbetlaw24_PairAlike [.agg x.cells] AH.mt (fun v _ => v = .bool true) :=
  S.cl_rabbetlaw24_PairAlike cl_Pa (PairAlike_spec cl_Pa (fun H Q hQ => RbM24_rootok0 K.rabbetlaw24_awake [] (.bool true) rfl H Q hQ) hx fun _ => rfl)
end Go.Proofs.YtaiaeodekdehhaaGreatDoor.rb

/- What all laws of the seat share: the variables that the text of the program lays. By wrap.py. -/
set_option linter.unusedVariables false
namespace Go.Proofs.YtaiaeodekdehhaaGreatDoor.rb
open Rb Go.ChangeShapes Go.WideShapes Go.ChangeAt Go.RowKit

theorem own : ownKnob Tryz.prog.godebug = none := by kernel_rfl
theorem laidOut : laidOutB Tryz.prog = true := by kernel_rfl
theorem gT : Tryz.prog.globalNamed "strings.asciiSpace" = some 0 := by kernel_rfl
theorem gTType : (Tryz.prog.globals[0]?).map (·.type) = some 331 := by kernel_rfl
theorem cellsU : Tryz.prog.cellsOf 5 = 1 := by kernel_rfl
theorem cellsT : Tryz.prog.cellsOf 331 = 256 := by kernel_rfl
def laidVars : List (String × DataW Unit) := Rows.pairAlikeRow.laid

theorem tab_eq : (Rows.laid_strings_asciiSpace : DataW Unit) = Go.Lib.tabData .u8 Go.Lib.asciiSpaceTab := by kernel_rfl
theorem tab_mem : (("strings.asciiSpace", Go.Lib.tabData .u8 Go.Lib.asciiSpaceTab) : String × DataW Unit) ∈ laidVars := by
  rw [← tab_eq]; exact .tail _ (.tail _ (.tail _ (.tail _ (.tail _ (.tail _ (.head _))))))
theorem tab_of {W : World} (h : laidMet Tryz.prog laidVars W) : Go.Lib.TabIs Tryz.prog W "strings.asciiSpace" .u8 Go.Lib.asciiSpaceTab := by
  obtain ⟨g', t', cs, fuel, p, hg', ht', hvar, hd⟩ := Go.Lib.laidMet.reads h tab_mem
  obtain rfl := Option.some.inj (gT.symm.trans hg')
  obtain rfl := Option.some.inj (gTType.symm.trans ht')
  unfold Go.Lib.TabIs
  rw [hvar, ← Go.Lib.cells_of_tab Tryz.underlying331 Tryz.underlying5 cellsU cellsT hd]

theorem gok {W : World} (h : laidMet Tryz.prog laidVars W) : GOK C W (Ghost.mt (allFz W)) := by
  intro g l hg
  have ht := tab_of h
  change gt g = some l at hg
  unfold gt at hg
  split at hg
  · rename_i e
    subst e
    cases hg
    rw [asciiSpace_eq]
    exact fptr_of_tab fun i hi => ht.cell gT i hi
  · cases hg

/-- A world in which the variables hold what their initialisers lay. -/
noncomputable def laidWorld (os : Os) : World :=
  let N := (World.settled Tryz.prog os).heap.size
  let w0 := World.holding Tryz.prog os ⟨#[.cells #[.string ⟨#[118, 97, 108, 117, 101, 32, 111, 117, 116, 32, 111, 102, 32, 114, 97, 110, 103, 101]⟩] 471, .cells #[.string ⟨#[105, 110, 118, 97, 108, 105, 100, 32, 115, 121, 110, 116, 97, 120]⟩] 471, .cells #[.int .u16 9, .int .u16 13, .int .u16 1, .int .u16 32, .int .u16 133, .int .u16 101, .int .u16 160, .int .u16 5760, .int .u16 5600, .int .u16 8192, .int .u16 8202, .int .u16 1, .int .u16 8232, .int .u16 8233, .int .u16 1, .int .u16 8239, .int .u16 8287, .int .u16 48, .int .u16 12288, .int .u16 12288, .int .u16 1] 445, .cells #[.slice (some ⟨N + 2, 0, none⟩) 7 7, .slice none 0 0, .int .i64 2] 442], #[], []⟩
  let put (h : Array Obj) (g : Nat) (cs : Array Value) : Array Obj := h.modify g fun
    | .cells _ t frozen => .cells cs t frozen
    | o => o
  { w0 with heap := put (put (put (put (put (put (put (w0.heap) 6 #[.int .u8 0, .int .u8 1, .int .u8 28, .int .u8 2, .int .u8 29, .int .u8 14, .int .u8 24, .int .u8 3, .int .u8 30, .int .u8 22, .int .u8 20, .int .u8 15, .int .u8 25, .int .u8 17, .int .u8 4, .int .u8 8, .int .u8 31, .int .u8 27, .int .u8 13, .int .u8 23, .int .u8 21, .int .u8 19, .int .u8 16, .int .u8 7, .int .u8 26, .int .u8 12, .int .u8 18, .int .u8 6, .int .u8 11, .int .u8 5, .int .u8 10, .int .u8 9]) 7 #[.int .u8 0, .int .u8 1, .int .u8 56, .int .u8 2, .int .u8 57, .int .u8 49, .int .u8 28, .int .u8 3, .int .u8 61, .int .u8 58, .int .u8 42, .int .u8 50, .int .u8 38, .int .u8 29, .int .u8 17, .int .u8 4, .int .u8 62, .int .u8 47, .int .u8 59, .int .u8 36, .int .u8 45, .int .u8 43, .int .u8 51, .int .u8 22, .int .u8 53, .int .u8 39, .int .u8 33, .int .u8 30, .int .u8 24, .int .u8 18, .int .u8 12, .int .u8 5, .int .u8 63, .int .u8 55, .int .u8 48, .int .u8 27, .int .u8 60, .int .u8 41, .int .u8 37, .int .u8 16, .int .u8 46, .int .u8 35, .int .u8 44, .int .u8 21, .int .u8 52, .int .u8 32, .int .u8 23, .int .u8 11, .int .u8 54, .int .u8 26, .int .u8 40, .int .u8 15, .int .u8 34, .int .u8 20, .int .u8 31, .int .u8 10, .int .u8 25, .int .u8 14, .int .u8 19, .int .u8 9, .int .u8 13, .int .u8 8, .int .u8 7, .int .u8 6]) 5 #[.int .u64 1, .int .u64 10, .int .u64 100, .int .u64 1000, .int .u64 10000, .int .u64 100000, .int .u64 1000000, .int .u64 10000000, .int .u64 100000000, .int .u64 1000000000, .int .u64 10000000000, .int .u64 100000000000, .int .u64 1000000000000, .int .u64 10000000000000, .int .u64 100000000000000, .int .u64 1000000000000000, .int .u64 10000000000000000, .int .u64 100000000000000000, .int .u64 1000000000000000000, .int .u64 10000000000000000000]) 3 #[.iface 469 (.pointer (some ⟨N + 0, 0, none⟩))]) 2 #[.iface 469 (.pointer (some ⟨N + 1, 0, none⟩))]) 1 #[.pointer (some ⟨N + 3, 0, none⟩)]) 0 #[.int .u8 0, .int .u8 0, .int .u8 0, .int .u8 0, .int .u8 0, .int .u8 0, .int .u8 0, .int .u8 0, .int .u8 0, .int .u8 1, .int .u8 1, .int .u8 1, .int .u8 1, .int .u8 1, .int .u8 0, .int .u8 0, .int .u8 0, .int .u8 0, .int .u8 0, .int .u8 0, .int .u8 0, .int .u8 0, .int .u8 0, .int .u8 0, .int .u8 0, .int .u8 0, .int .u8 0, .int .u8 0, .int .u8 0, .int .u8 0, .int .u8 0, .int .u8 0, .int .u8 1, .int .u8 0, .int .u8 0, .int .u8 0, .int .u8 0, .int .u8 0, .int .u8 0, .int .u8 0, .int .u8 0, .int .u8 0, .int .u8 0, .int .u8 0, .int .u8 0, .int .u8 0, .int .u8 0, .int .u8 0, .int .u8 0, .int .u8 0, .int .u8 0, .int .u8 0, .int .u8 0, .int .u8 0, .int .u8 0, .int .u8 0, .int .u8 0, .int .u8 0, .int .u8 0, .int .u8 0, .int .u8 0, .int .u8 0, .int .u8 0, .int .u8 0, .int .u8 0, .int .u8 0, .int .u8 0, .int .u8 0, .int .u8 0, .int .u8 0, .int .u8 0, .int .u8 0, .int .u8 0, .int .u8 0, .int .u8 0, .int .u8 0, .int .u8 0, .int .u8 0, .int .u8 0, .int .u8 0, .int .u8 0, .int .u8 0, .int .u8 0, .int .u8 0, .int .u8 0, .int .u8 0, .int .u8 0, .int .u8 0, .int .u8 0, .int .u8 0, .int .u8 0, .int .u8 0, .int .u8 0, .int .u8 0, .int .u8 0, .int .u8 0, .int .u8 0, .int .u8 0, .int .u8 0, .int .u8 0, .int .u8 0, .int .u8 0, .int .u8 0, .int .u8 0, .int .u8 0, .int .u8 0, .int .u8 0, .int .u8 0, .int .u8 0, .int .u8 0, .int .u8 0, .int .u8 0, .int .u8 0, .int .u8 0, .int .u8 0, .int .u8 0, .int .u8 0, .int .u8 0, .int .u8 0, .int .u8 0, .int .u8 0, .int .u8 0, .int .u8 0, .int .u8 0, .int .u8 0, .int .u8 0, .int .u8 0, .int .u8 0, .int .u8 0, .int .u8 0, .int .u8 0, .int .u8 0, .int .u8 0, .int .u8 0, .int .u8 0, .int .u8 0, .int .u8 0, .int .u8 0, .int .u8 0, .int .u8 0, .int .u8 0, .int .u8 0, .int .u8 0, .int .u8 0, .int .u8 0, .int .u8 0, .int .u8 0, .int .u8 0, .int .u8 0, .int .u8 0, .int .u8 0, .int .u8 0, .int .u8 0, .int .u8 0, .int .u8 0, .int .u8 0, .int .u8 0, .int .u8 0, .int .u8 0, .int .u8 0, .int .u8 0, .int .u8 0, .int .u8 0, .int .u8 0, .int .u8 0, .int .u8 0, .int .u8 0, .int .u8 0, .int .u8 0, .int .u8 0, .int .u8 0, .int .u8 0, .int .u8 0, .int .u8 0, .int .u8 0, .int .u8 0, .int .u8 0, .int .u8 0, .int .u8 0, .int .u8 0, .int .u8 0, .int .u8 0, .int .u8 0, .int .u8 0, .int .u8 0, .int .u8 0, .int .u8 0, .int .u8 0, .int .u8 0, .int .u8 0, .int .u8 0, .int .u8 0, .int .u8 0, .int .u8 0, .int .u8 0, .int .u8 0, .int .u8 0, .int .u8 0, .int .u8 0, .int .u8 0, .int .u8 0, .int .u8 0, .int .u8 0, .int .u8 0, .int .u8 0, .int .u8 0, .int .u8 0, .int .u8 0, .int .u8 0, .int .u8 0, .int .u8 0, .int .u8 0, .int .u8 0, .int .u8 0, .int .u8 0, .int .u8 0, .int .u8 0, .int .u8 0, .int .u8 0, .int .u8 0, .int .u8 0, .int .u8 0, .int .u8 0, .int .u8 0, .int .u8 0, .int .u8 0, .int .u8 0, .int .u8 0, .int .u8 0, .int .u8 0, .int .u8 0, .int .u8 0, .int .u8 0, .int .u8 0, .int .u8 0, .int .u8 0, .int .u8 0, .int .u8 0, .int .u8 0, .int .u8 0, .int .u8 0, .int .u8 0, .int .u8 0, .int .u8 0, .int .u8 0, .int .u8 0, .int .u8 0, .int .u8 0, .int .u8 0, .int .u8 0, .int .u8 0, .int .u8 0, .int .u8 0, .int .u8 0, .int .u8 0, .int .u8 0] }
theorem laid_met (os : Os) (args : Array Value) : laidMet Tryz.prog laidVars ((laidWorld os).forCall (fun _ _ => 0) ⟨#[], args, []⟩).memory :=
  laidMet_of_run3 10 (by kernel_rfl) (by kernel_rfl) (by kernel_rfl)
theorem laid_shaped (os : Os) (args : Array Value) : ((laidWorld os).forCall (fun _ _ => 0) ⟨#[], args, []⟩).Shaped Tryz.prog := World.shaped_of_RefB (by kernel_rfl) (by kernel_rfl)
end Go.Proofs.YtaiaeodekdehhaaGreatDoor.rb

/- The api's types at the seat's numbers. By wrap.py. -/
set_option linter.unusedVariables false
namespace Go.Proofs.YtaiaeodekdehhaaGreatDoor.rb
open Rb
variable {H : Type} {enc : TypeId × Value → H} {w : World} {sp : Nat → Bool} {held : Bool} {F : FTab}
theorem tyOK : ∃ fT fF, TyOK Tryz.prog 3 4 9 111 185 109 108 fT fF := ⟨_, _, Tryz.underlying3, Tryz.underlying4, Tryz.underlying9, Tryz.underlying111, Tryz.underlying185, Tryz.underlying109, Tryz.underlying108, rfl, rfl, by kernel_rfl, by kernel_rfl, fun t ht => by
  simp only [List.mem_cons, List.not_mem_nil, or_false] at ht
  rcases ht with rfl | rfl | rfl | rfl | rfl <;> kernel_rfl⟩
theorem decType (n : Nat) : Dec F enc Tryz.prog w sp held n 111 GType.cells GType.ok := let ⟨_, _, h⟩ := tyOK; Dec_type h n
theorem exOK : ∃ fE fL fR, ExOK Tryz.prog 3 139 9 281 91 335 187 89 fE fL fR := ⟨_, _, _, Tryz.underlying3, Tryz.underlying139, Tryz.underlying9, Tryz.underlying281, Tryz.underlying91, Tryz.underlying335, Tryz.underlying187, Tryz.underlying89, rfl, rfl, rfl, by kernel_rfl, by kernel_rfl, by kernel_rfl, fun t ht => by
  simp only [List.mem_cons, List.not_mem_nil, or_false] at ht
  rcases ht with rfl | rfl | rfl | rfl | rfl <;> kernel_rfl⟩
theorem decPlace (n : Nat) : Dec F enc Tryz.prog w sp held n 91 GPlace.cells GPlace.ok := let ⟨_, _, _, h⟩ := exOK; (Dec_exprs h n).2.1
theorem decVar (n : Nat) : Dec F enc Tryz.prog w sp held n 114 GVar.cells GVar.ok := Dec_var Tryz.underlying9 (by kernel_rfl) (by kernel_rfl) decType Tryz.underlying114 rfl (by kernel_rfl) n
theorem decVars (n : Nat) : Dec F enc Tryz.prog w sp held n 36 (fun xs : List GVar => [lstA GVar.cells xs]) (fun xs => xs.length ≤ maxLen ∧ ∀ x ∈ xs, x.ok) := Dec.mono (Dec.slice Tryz.underlying36 (by kernel_rfl) (by decide) GVar.len (decVar n)) (Nat.le_succ n)
theorem decStmt (n : Nat) : Dec F enc Tryz.prog w sp held n 189 GStmt.cells GStmt.ok := let ⟨_, _, _, h⟩ := exOK; Dec_stmt h Tryz.underlying189 Tryz.underlying116 rfl (by kernel_rfl) (by kernel_rfl) n
theorem decProg (n : Nat) : Dec F enc Tryz.prog w sp held n 39 GProg.cells GProg.ok := Dec_prog decVar decStmt Tryz.underlying36 Tryz.underlying116 Tryz.underlying37 (by kernel_rfl) (by kernel_rfl) (by kernel_rfl) (by kernel_rfl) (by kernel_rfl) Tryz.underlying39 rfl (by kernel_rfl) n
theorem decEvent (n : Nat) : Dec F enc Tryz.prog w sp held n 32 GEvent.cells GEvent.ok := Dec_event Tryz.underlying3 Tryz.underlying4 Tryz.underlying5 Tryz.underlying29 (by kernel_rfl) Tryz.underlying30 Tryz.underlying32 (by kernel_rfl) (by kernel_rfl) (by kernel_rfl) (by kernel_rfl) (by kernel_rfl) (by kernel_rfl) (by kernel_rfl) n
theorem decExec (n : Nat) : Dec F enc Tryz.prog w sp held n 25 GExec.cells GExec.ok := Dec_exec Tryz.underlying3 decEvent Tryz.underlying22 Tryz.underlying35 Tryz.underlying23 Tryz.underlying25 (by kernel_rfl) (by kernel_rfl) (by kernel_rfl) (by kernel_rfl) (by kernel_rfl) (by kernel_rfl) (by kernel_rfl) n
end Go.Proofs.YtaiaeodekdehhaaGreatDoor.rb
