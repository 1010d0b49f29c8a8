/- A part of the proof (part 4): see the last text. -/
import Derived.Test.YtklmnikdhpkifaaGreatDoorRb3
import Derived.Test.YtklmnikdhpkifaaGreatDoorRb2
import Derived.KernelRfl
import Derived.LaidLaws
import Derived.LaidHandle
import Derived.Lib.LaidU8
import Derived.Deep.DeepLaidRun
import Derived.Handed
import Derived.JoinedOf
import Derived.SevenTiedAt
import Derived.ProofKit
import Derived.Lib.Space
import Derived.ChangeArms
import Derived.Test.YtklmnikdhpkifaaGreatDoorTie
import Derived.Test.YtklmnikdhpkifaaGreatDoorCards
/- Known calls, found by runs. By runs.py. -/
set_option linter.unusedVariables false
namespace Go.Proofs.YtklmnikdhpkifaaGreatDoor.rb
open Rb
noncomputable section
def RbM200 : List (Nat × List AV × AV) := [
  (197, [.int .u8 (.ofNat 32)], .bool false),
  (105, [.str [118,97,114,32,116,104,114,101,97,100,32,115,116,114,117,99,116,32,117,110,105,111,110,32,112,97,99,107,101,100,32,117,56,32,117,49,54,32,117,51,50,32,117,54,52,32,97,56,32,97,49,54,32,97,51,50,32,97,54,52,32,97,49,50,56,32,108,101,116,32,115,101,116,32,119,114,105,116,101,32,115,116,111,114,101,32,108,111,97,100,50,32,115,116,111,114,101,50,32,102,101,110,99,101,32,105,102,32,101,108,115,101,32,119,104,105,108,101,32,112,114,105,110,116,32,114,101,97,100,32,108,111,97,100,32,97,100,100,32,115,119,97,112,32,99,97,115,32,114,108,120,32,97,99,113,32,114,101,108,32,115,99]], .lst .dead 34 [.str [118,97,114],.str [116,104,114,101,97,100],.str [115,116,114,117,99,116],.str [117,110,105,111,110],.str [112,97,99,107,101,100],.str [117,56],.str [117,49,54],.str [117,51,50],.str [117,54,52],.str [97,56],.str [97,49,54],.str [97,51,50],.str [97,54,52],.str [97,49,50,56],.str [108,101,116],.str [115,101,116],.str [119,114,105,116,101],.str [115,116,111,114,101],.str [108,111,97,100,50],.str [115,116,111,114,101,50],.str [102,101,110,99,101],.str [105,102],.str [101,108,115,101],.str [119,104,105,108,101],.str [112,114,105,110,116],.str [114,101,97,100],.str [108,111,97,100],.str [97,100,100],.str [115,119,97,112],.str [99,97,115],.str [114,108,120],.str [97,99,113],.str [114,101,108],.str [115,99]]),
  (141, [.lst .dead 34 [.str [118,97,114],.str [116,104,114,101,97,100],.str [115,116,114,117,99,116],.str [117,110,105,111,110],.str [112,97,99,107,101,100],.str [117,56],.str [117,49,54],.str [117,51,50],.str [117,54,52],.str [97,56],.str [97,49,54],.str [97,51,50],.str [97,54,52],.str [97,49,50,56],.str [108,101,116],.str [115,101,116],.str [119,114,105,116,101],.str [115,116,111,114,101],.str [108,111,97,100,50],.str [115,116,111,114,101,50],.str [102,101,110,99,101],.str [105,102],.str [101,108,115,101],.str [119,104,105,108,101],.str [112,114,105,110,116],.str [114,101,97,100],.str [108,111,97,100],.str [97,100,100],.str [115,119,97,112],.str [99,97,115],.str [114,108,120],.str [97,99,113],.str [114,101,108],.str [115,99]],.str [120]], .int .i64 (.negSucc 0)),
  (141, [.lst .dead 34 [.str [118,97,114],.str [116,104,114,101,97,100],.str [115,116,114,117,99,116],.str [117,110,105,111,110],.str [112,97,99,107,101,100],.str [117,56],.str [117,49,54],.str [117,51,50],.str [117,54,52],.str [97,56],.str [97,49,54],.str [97,51,50],.str [97,54,52],.str [97,49,50,56],.str [108,101,116],.str [115,101,116],.str [119,114,105,116,101],.str [115,116,111,114,101],.str [108,111,97,100,50],.str [115,116,111,114,101,50],.str [102,101,110,99,101],.str [105,102],.str [101,108,115,101],.str [119,104,105,108,101],.str [112,114,105,110,116],.str [114,101,97,100],.str [108,111,97,100],.str [97,100,100],.str [115,119,97,112],.str [99,97,115],.str [114,108,120],.str [97,99,113],.str [114,101,108],.str [115,99]],.str [97]], .int .i64 (.negSucc 0)),
  (97, [.str [120]], .bool true),
  (298, [.agg [.int .i64 (.ofNat 2),.int .i64 (.ofNat 4),.bool false,.lst .dead 0 [],.int .i64 (.ofNat 0),.lst .dead 0 []],.int .i64 (.ofNat 65)], .int .i64 (.ofNat 1)),
  (299, [.agg [.int .i64 (.ofNat 2),.int .i64 (.ofNat 4),.bool false,.lst .dead 0 [],.int .i64 (.ofNat 0),.lst .dead 0 []]], .bool true),
  (300, [.int .i64 (.ofNat 4),.int .i64 (.ofNat 16)], .bool true),
  (177, [.agg [.int .i64 (.ofNat 2),.int .i64 (.ofNat 4),.bool false,.lst .dead 0 [],.int .i64 (.ofNat 0),.lst .dead 0 []]], .bool false),
  (178, [.agg [.int .i64 (.ofNat 2),.int .i64 (.ofNat 4),.bool false,.lst .dead 0 [],.int .i64 (.ofNat 0),.lst .dead 0 []]], .tup [.agg [.int .i64 (.ofNat 4),.int .i64 (.ofNat 4)],.bool true]),
  (180, [.agg [.str [],.lst .dead 0 []]], .bool true),
  (131, [.int .i64 (.ofNat 1),.int .i64 (.ofNat 0)], .bool true),
  (126, [.int .i32 (.ofNat 97)], .bool true),
  (250, [.agg [.int .i64 (.ofNat 6),.int .u64 (.ofNat 0),.str [],.int .i64 (.ofNat 0),.int .i64 (.ofNat 1),.str [120],.lst .dead 0 [],.lst .dead 1 [.int .i64 (.ofNat 1),.int .u64 (.ofNat 5),.str [],.int .i64 (.ofNat 0),.int .i64 (.ofNat 0),.str [],.lst .dead 0 [],.lst .dead 0 []]]], .bool true),
  (131, [.int .i64 (.ofNat 16),.int .i64 (.ofNat 1)], .bool true),
  (127, [.lst .dead 1 [.str [120],.int .i64 (.ofNat 2),.int .i64 (.ofNat 4),.bool false,.lst .dead 0 [],.int .i64 (.ofNat 0),.lst .dead 0 []],.fn 248 [.fptr [.str [120],.lst .dead 0 []]]], .int .i64 (.ofNat 0)),
  (182, [.int .i64 (.ofNat 16),.agg [.int .i64 (.ofNat 2),.int .i64 (.ofNat 4),.bool false,.lst .dead 0 [],.int .i64 (.ofNat 0),.lst .dead 0 []]], .bool true),
  (131, [.int .i64 (.ofNat 11),.int .i64 (.ofNat 0)], .bool true),
  (179, [.int .i64 (.ofNat 10)], .tup [.agg [.bool false,.bool false,.bool false,.int .i64 (.ofNat 1),.bool false,.bool false],.bool true]),
  (131, [.int .i64 (.ofNat 10),.int .i64 (.ofNat 0)], .bool true),
  (131, [.int .i64 (.ofNat 12),.int .i64 (.ofNat 0)], .bool true),
  (273, [.lst .dead 4 [.int .i64 (.ofNat 0),.int .i64 (.ofNat 0),.int .i64 (.ofNat 2),.int .i64 (.ofNat 1),.int .i64 (.ofNat 1),.int .i64 (.ofNat 2),.int .i64 (.ofNat 2),.int .i64 (.ofNat 2),.int .i64 (.ofNat 3),.int .i64 (.ofNat 3),.int .i64 (.ofNat 3),.int .i64 (.ofNat 4)],.int .i64 (.ofNat 0),.int .i64 (.ofNat 4),.fn 150 []], .tup []),
  (277, [.int .u64 (.ofNat 0)], .int .i64 (.ofNat 0)),
  (276, [.lst .dead 0 [],.int .i64 (.ofNat 0),.int .i64 (.ofNat 0),.int .i64 (.ofNat 0),.fn 213 []], .tup []),
  (163, [.int .i64 (.ofNat 1)], .agg [.int .u32 (.ofNat 3531603968),.str [100,105,113]]),
  (164, [.int .u8 (.ofNat 100)], .agg [.int .i64 (.ofNat 0),.int .i64 (.ofNat 5),.bool false,.int .u32 (.ofNat 0),.int .i64 (.ofNat 31)]),
  (166, [.agg [.int .i64 (.ofNat 0),.int .i64 (.ofNat 5),.bool false,.int .u32 (.ofNat 0),.int .i64 (.ofNat 31)],.int .i64 (.ofNat 28)], .bool true),
  (167, [.agg [.int .i64 (.ofNat 0),.int .i64 (.ofNat 5),.bool false,.int .u32 (.ofNat 0),.int .i64 (.ofNat 31)]], .int .u32 (.ofNat 31)),
  (164, [.int .u8 (.ofNat 105)], .agg [.int .i64 (.ofNat 5),.int .i64 (.ofNat 16),.bool false,.int .u32 (.ofNat 0),.int .i64 (.ofNat 65535)]),
  (167, [.agg [.int .i64 (.ofNat 5),.int .i64 (.ofNat 16),.bool false,.int .u32 (.ofNat 0),.int .i64 (.ofNat 65535)]], .int .u32 (.ofNat 2097120)),
  (164, [.int .u8 (.ofNat 113)], .agg [.int .i64 (.ofNat 21),.int .i64 (.ofNat 2),.bool false,.int .u32 (.ofNat 0),.int .i64 (.ofNat 3)]),
  (166, [.agg [.int .i64 (.ofNat 21),.int .i64 (.ofNat 2),.bool false,.int .u32 (.ofNat 0),.int .i64 (.ofNat 3)],.int .i64 (.ofNat 0)], .bool true),
  (167, [.agg [.int .i64 (.ofNat 21),.int .i64 (.ofNat 2),.bool false,.int .u32 (.ofNat 0),.int .i64 (.ofNat 3)]], .int .u32 (.ofNat 6291456)),
  (163, [.int .i64 (.ofNat 2)], .agg [.int .u32 (.ofNat 4068474880),.str [100,105,113]]),
  (166, [.agg [.int .i64 (.ofNat 5),.int .i64 (.ofNat 16),.bool false,.int .u32 (.ofNat 0),.int .i64 (.ofNat 65535)],.int .i64 (.ofNat 1)], .bool true),
  (166, [.agg [.int .i64 (.ofNat 21),.int .i64 (.ofNat 2),.bool false,.int .u32 (.ofNat 0),.int .i64 (.ofNat 3)],.int .i64 (.ofNat 1)], .bool true),
  (166, [.agg [.int .i64 (.ofNat 0),.int .i64 (.ofNat 5),.bool false,.int .u32 (.ofNat 0),.int .i64 (.ofNat 31)],.int .i64 (.ofNat 0)], .bool true),
  (166, [.agg [.int .i64 (.ofNat 0),.int .i64 (.ofNat 5),.bool false,.int .u32 (.ofNat 0),.int .i64 (.ofNat 31)],.int .i64 (.ofNat 1)], .bool true),
  (291, [.int .i64 (.ofNat 21)], .agg [.int .u32 (.ofNat 140475392),.str [100,97,115]]),
  (166, [.agg [.int .i64 (.ofNat 0),.int .i64 (.ofNat 5),.bool false,.int .u32 (.ofNat 0),.int .i64 (.ofNat 31)],.int .i64 (.ofNat 14)], .bool true),
  (164, [.int .u8 (.ofNat 97)], .agg [.int .i64 (.ofNat 5),.int .i64 (.ofNat 5),.bool false,.int .u32 (.ofNat 0),.int .i64 (.ofNat 30)]),
  (166, [.agg [.int .i64 (.ofNat 5),.int .i64 (.ofNat 5),.bool false,.int .u32 (.ofNat 0),.int .i64 (.ofNat 30)],.int .i64 (.ofNat 1)], .bool true),
  (167, [.agg [.int .i64 (.ofNat 5),.int .i64 (.ofNat 5),.bool false,.int .u32 (.ofNat 0),.int .i64 (.ofNat 30)]], .int .u32 (.ofNat 992)),
  (164, [.int .u8 (.ofNat 115)], .agg [.int .i64 (.ofNat 30),.int .i64 (.ofNat 2),.bool false,.int .u32 (.ofNat 0),.int .i64 (.ofNat 3)]),
  (166, [.agg [.int .i64 (.ofNat 30),.int .i64 (.ofNat 2),.bool false,.int .u32 (.ofNat 0),.int .i64 (.ofNat 3)],.int .i64 (.ofNat 2)], .bool true),
  (167, [.agg [.int .i64 (.ofNat 30),.int .i64 (.ofNat 2),.bool false,.int .u32 (.ofNat 0),.int .i64 (.ofNat 3)]], .int .u32 (.ofNat 3221225472)),
  (163, [.int .i64 (.ofNat 3)], .agg [.int .u32 (.ofNat 2332033024),.str [100,110,109]]),
  (166, [.agg [.int .i64 (.ofNat 0),.int .i64 (.ofNat 5),.bool false,.int .u32 (.ofNat 0),.int .i64 (.ofNat 31)],.int .i64 (.ofNat 12)], .bool true),
  (164, [.int .u8 (.ofNat 110)], .agg [.int .i64 (.ofNat 5),.int .i64 (.ofNat 5),.bool false,.int .u32 (.ofNat 0),.int .i64 (.ofNat 31)]),
  (167, [.agg [.int .i64 (.ofNat 5),.int .i64 (.ofNat 5),.bool false,.int .u32 (.ofNat 0),.int .i64 (.ofNat 31)]], .int .u32 (.ofNat 992)),
  (164, [.int .u8 (.ofNat 109)], .agg [.int .i64 (.ofNat 16),.int .i64 (.ofNat 5),.bool false,.int .u32 (.ofNat 0),.int .i64 (.ofNat 31)]),
  (166, [.agg [.int .i64 (.ofNat 16),.int .i64 (.ofNat 5),.bool false,.int .u32 (.ofNat 0),.int .i64 (.ofNat 31)],.int .i64 (.ofNat 0)], .bool true),
  (167, [.agg [.int .i64 (.ofNat 16),.int .i64 (.ofNat 5),.bool false,.int .u32 (.ofNat 0),.int .i64 (.ofNat 31)]], .int .u32 (.ofNat 2031616)),
  (291, [.int .i64 (.ofNat 23)], .agg [.int .u32 (.ofNat 134249472),.str [100,97,115,109]]),
  (166, [.agg [.int .i64 (.ofNat 16),.int .i64 (.ofNat 5),.bool false,.int .u32 (.ofNat 0),.int .i64 (.ofNat 31)],.int .i64 (.ofNat 13)], .bool true),
  (231, [.int .i64 (.ofNat 16)], .agg [.int .u32 (.ofNat 3036676096),.str [100,120]]),
  (166, [.agg [.int .i64 (.ofNat 0),.int .i64 (.ofNat 5),.bool false,.int .u32 (.ofNat 0),.int .i64 (.ofNat 31)],.int .i64 (.ofNat 13)], .bool true),
  (164, [.int .u8 (.ofNat 120)], .agg [.int .i64 (.ofNat 5),.int .i64 (.ofNat 19),.bool true,.int .u32 (.ofNat 0),.int .i64 (.ofNat 0)]),
  (166, [.agg [.int .i64 (.ofNat 5),.int .i64 (.ofNat 19),.bool true,.int .u32 (.ofNat 0),.int .i64 (.ofNat 0)],.int .i64 (.negSucc 2)], .bool true),
  (167, [.agg [.int .i64 (.ofNat 5),.int .i64 (.ofNat 19),.bool true,.int .u32 (.ofNat 0),.int .i64 (.ofNat 0)]], .int .u32 (.ofNat 16777184)),
  (163, [.int .i64 (.ofNat 7)], .agg [.int .u32 (.ofNat 2852126720),.str [100,110,109]]),
  (166, [.agg [.int .i64 (.ofNat 0),.int .i64 (.ofNat 5),.bool false,.int .u32 (.ofNat 0),.int .i64 (.ofNat 31)],.int .i64 (.ofNat 2)], .bool true),
  (166, [.agg [.int .i64 (.ofNat 5),.int .i64 (.ofNat 5),.bool false,.int .u32 (.ofNat 0),.int .i64 (.ofNat 31)],.int .i64 (.ofNat 31)], .bool true),
  (166, [.agg [.int .i64 (.ofNat 16),.int .i64 (.ofNat 5),.bool false,.int .u32 (.ofNat 0),.int .i64 (.ofNat 31)],.int .i64 (.ofNat 14)], .bool true),
  (166, [.agg [.int .i64 (.ofNat 16),.int .i64 (.ofNat 5),.bool false,.int .u32 (.ofNat 0),.int .i64 (.ofNat 31)],.int .i64 (.ofNat 2)], .bool true),
  (231, [.int .i64 (.ofNat 31)], .agg [.int .u32 (.ofNat 3556769793),.str [105]]),
  (236, [.agg [.str [],.lst .dead 0 []]], .int .i64 (.ofNat 0)),
  (166, [.agg [.int .i64 (.ofNat 5),.int .i64 (.ofNat 5),.bool false,.int .u32 (.ofNat 0),.int .i64 (.ofNat 31)],.int .i64 (.ofNat 1)], .bool true),
  (166, [.agg [.int .i64 (.ofNat 16),.int .i64 (.ofNat 5),.bool false,.int .u32 (.ofNat 0),.int .i64 (.ofNat 31)],.int .i64 (.ofNat 31)], .bool true),
  (163, [.int .i64 (.ofNat 5)], .agg [.int .u32 (.ofNat 3942645760),.str [100,110,109]]),
  (163, [.int .i64 (.ofNat 6)], .agg [.int .u32 (.ofNat 2315255808),.str [100,110,109]]),
  (163, [.int .i64 (.ofNat 9)], .agg [.int .u32 (.ofNat 2600500224),.str [100,110,109]]),
  (163, [.int .i64 (.ofNat 10)], .agg [.int .u32 (.ofNat 2596282368),.str [100,110,109]]),
  (163, [.int .i64 (.ofNat 11)], .agg [.int .u32 (.ofNat 2596283392),.str [100,110,109]]),
  (163, [.int .i64 (.ofNat 12)], .agg [.int .u32 (.ofNat 2594113504),.str [100,107]]),
  (167, [.agg [.int .i64 (.ofNat 12),.int .i64 (.ofNat 2),.bool false,.int .u32 (.ofNat 1),.int .i64 (.ofNat 3)]], .int .u32 (.ofNat 12288)),
  (163, [.int .i64 (.ofNat 13)], .agg [.int .u32 (.ofNat 335544320),.str [98]]),
  (164, [.int .u8 (.ofNat 98)], .agg [.int .i64 (.ofNat 0),.int .i64 (.ofNat 26),.bool true,.int .u32 (.ofNat 0),.int .i64 (.ofNat 0)]),
  (167, [.agg [.int .i64 (.ofNat 0),.int .i64 (.ofNat 26),.bool true,.int .u32 (.ofNat 0),.int .i64 (.ofNat 0)]], .int .u32 (.ofNat 67108863)),
  (163, [.int .i64 (.ofNat 14)], .agg [.int .u32 (.ofNat 1409286144),.str [120,99]]),
  (167, [.agg [.int .i64 (.ofNat 0),.int .i64 (.ofNat 2),.bool false,.int .u32 (.ofNat 0),.int .i64 (.ofNat 3)]], .int .u32 (.ofNat 3)),
  (163, [.int .i64 (.ofNat 15)], .agg [.int .u32 (.ofNat 3019898880),.str [100,120]]),
  (231, [.int .i64 (.ofNat 17)], .agg [.int .u32 (.ofNat 960495616),.str [100,97,111,115]]),
  (164, [.int .u8 (.ofNat 111)], .agg [.int .i64 (.ofNat 10),.int .i64 (.ofNat 12),.bool false,.int .u32 (.ofNat 0),.int .i64 (.ofNat 4095)]),
  (167, [.agg [.int .i64 (.ofNat 10),.int .i64 (.ofNat 12),.bool false,.int .u32 (.ofNat 0),.int .i64 (.ofNat 4095)]], .int .u32 (.ofNat 4193280)),
  (231, [.int .i64 (.ofNat 18)], .agg [.int .u32 (.ofNat 956301312),.str [100,97,111,115]]),
  (231, [.int .i64 (.ofNat 19)], .agg [.int .u32 (.ofNat 148896768),.str [100,97,115]]),
  (231, [.int .i64 (.ofNat 20)], .agg [.int .u32 (.ofNat 144702464),.str [100,97,115]]),
  (231, [.int .i64 (.ofNat 22)], .agg [.int .u32 (.ofNat 140508160),.str [100,97,115]]),
  (166, [.agg [.int .i64 (.ofNat 5),.int .i64 (.ofNat 5),.bool false,.int .u32 (.ofNat 0),.int .i64 (.ofNat 31)],.int .i64 (.ofNat 29)], .bool true),
  (166, [.agg [.int .i64 (.ofNat 30),.int .i64 (.ofNat 2),.bool false,.int .u32 (.ofNat 0),.int .i64 (.ofNat 3)],.int .i64 (.ofNat 3)], .bool true),
  (163, [.int .i64 (.ofNat 24)], .agg [.int .u32 (.ofNat 134282240),.str [100,97,115,109]]),
  (163, [.int .i64 (.ofNat 25)], .agg [.int .u32 (.ofNat 3363766272),.str [100,97,101]]),
  (164, [.int .u8 (.ofNat 101)], .agg [.int .i64 (.ofNat 10),.int .i64 (.ofNat 5),.bool false,.int .u32 (.ofNat 0),.int .i64 (.ofNat 31)]),
  (167, [.agg [.int .i64 (.ofNat 10),.int .i64 (.ofNat 5),.bool false,.int .u32 (.ofNat 0),.int .i64 (.ofNat 31)]], .int .u32 (.ofNat 31744)),
  (166, [.agg [.int .i64 (.ofNat 10),.int .i64 (.ofNat 5),.bool false,.int .u32 (.ofNat 0),.int .i64 (.ofNat 31)],.int .i64 (.ofNat 0)], .bool true),
  (163, [.int .i64 (.ofNat 26)], .agg [.int .u32 (.ofNat 3363799040),.str [100,97,101]]),
  (163, [.int .i64 (.ofNat 27)], .agg [.int .u32 (.ofNat 3357540352),.str [100,97,101,109]]),
  (163, [.int .i64 (.ofNat 28)], .agg [.int .u32 (.ofNat 3357573120),.str [100,97,101,109]]),
  (117, [.int .i64 (.ofNat 29),.int .u32 (.ofNat 3556769825)], .tup [.agg [.int .i64 (.ofNat 0),.int .i64 (.ofNat 0),.int .i64 (.ofNat 0),.int .i64 (.ofNat 0),.int .i64 (.ofNat 0),.int .i64 (.ofNat 0),.int .i64 (.ofNat 0)],.bool false]),
  (166, [.agg [.int .i64 (.ofNat 5),.int .i64 (.ofNat 5),.bool false,.int .u32 (.ofNat 0),.int .i64 (.ofNat 31)],.int .i64 (.ofNat 0)], .bool true),
  (166, [.agg [.int .i64 (.ofNat 5),.int .i64 (.ofNat 5),.bool false,.int .u32 (.ofNat 0),.int .i64 (.ofNat 30)],.int .i64 (.ofNat 0)], .bool true),
  (117, [.int .i64 (.ofNat 29),.int .u32 (.ofNat 3556769793)], .tup [.agg [.int .i64 (.ofNat 0),.int .i64 (.ofNat 0),.int .i64 (.ofNat 0),.int .i64 (.ofNat 0),.int .i64 (.ofNat 0),.int .i64 (.ofNat 0),.int .i64 (.ofNat 0)],.bool false]),
  (170, [.agg [.int .i64 (.ofNat 65536),.int .i64 (.ofNat 4)]], .bool true)]
def RbM201 : List (Nat × List AV × AV) := [
  (65, [.str [97]], .bool false),
  (241, [.agg [.int .i64 (.ofNat 2),.int .i64 (.ofNat 4),.bool false,.lst .dead 0 [],.int .i64 (.ofNat 0),.lst .dead 0 []]], .int .i64 (.ofNat 1)),
  (242, [.agg [.int .i64 (.ofNat 2),.int .i64 (.ofNat 4),.bool false,.lst .dead 0 [],.int .i64 (.ofNat 0),.lst .dead 0 []]], .int .i64 (.ofNat 0)),
  (130, [.agg [.int .i64 (.ofNat 1),.int .i64 (.ofNat 1),.str [97],.str [],.int .i64 (.ofNat 0),.str [],.lst .dead 0 [],.lst .dead 1 [.int .i64 (.ofNat 6),.int .u64 (.ofNat 0),.str [],.int .i64 (.ofNat 0),.int .i64 (.ofNat 1),.str [120],.lst .dead 0 [],.lst .dead 1 [.int .i64 (.ofNat 1),.int .u64 (.ofNat 5),.str [],.int .i64 (.ofNat 0),.int .i64 (.ofNat 0),.str [],.lst .dead 0 [],.lst .dead 0 []]],.lst .dead 0 [],.lst .dead 0 []]], .bool true),
  (97, [.str [97]], .bool true),
  (250, [.agg [.int .i64 (.ofNat 1),.int .u64 (.ofNat 5),.str [],.int .i64 (.ofNat 0),.int .i64 (.ofNat 0),.str [],.lst .dead 0 [],.lst .dead 0 []]], .bool true),
  (130, [.agg [.int .i64 (.ofNat 10),.int .i64 (.ofNat 1),.str [],.str [],.int .i64 (.ofNat 0),.str [],.lst .dead 0 [],.lst .dead 1 [.int .i64 (.ofNat 2),.int .u64 (.ofNat 0),.str [97],.int .i64 (.ofNat 0),.int .i64 (.ofNat 0),.str [],.lst .dead 0 [],.lst .dead 0 []],.lst .dead 0 [],.lst .dead 0 []]], .bool true),
  (250, [.agg [.int .i64 (.ofNat 2),.int .u64 (.ofNat 0),.str [97],.int .i64 (.ofNat 0),.int .i64 (.ofNat 0),.str [],.lst .dead 0 [],.lst .dead 0 []]], .bool true),
  (168, [.agg [.int .i64 (.ofNat 0),.int .i64 (.ofNat 5),.bool false,.int .u32 (.ofNat 0),.int .i64 (.ofNat 31)],.int .u8 (.ofNat 100),.int .i64 (.ofNat 28)], .int .u32 (.ofNat 28)),
  (168, [.agg [.int .i64 (.ofNat 21),.int .i64 (.ofNat 2),.bool false,.int .u32 (.ofNat 0),.int .i64 (.ofNat 3)],.int .u8 (.ofNat 113),.int .i64 (.ofNat 0)], .int .u32 (.ofNat 0)),
  (168, [.agg [.int .i64 (.ofNat 5),.int .i64 (.ofNat 16),.bool false,.int .u32 (.ofNat 0),.int .i64 (.ofNat 65535)],.int .u8 (.ofNat 105),.int .i64 (.ofNat 1)], .int .u32 (.ofNat 32)),
  (168, [.agg [.int .i64 (.ofNat 21),.int .i64 (.ofNat 2),.bool false,.int .u32 (.ofNat 0),.int .i64 (.ofNat 3)],.int .u8 (.ofNat 113),.int .i64 (.ofNat 1)], .int .u32 (.ofNat 2097152)),
  (168, [.agg [.int .i64 (.ofNat 0),.int .i64 (.ofNat 5),.bool false,.int .u32 (.ofNat 0),.int .i64 (.ofNat 31)],.int .u8 (.ofNat 100),.int .i64 (.ofNat 0)], .int .u32 (.ofNat 0)),
  (231, [.int .i64 (.ofNat 21)], .agg [.int .u32 (.ofNat 140475392),.str [100,97,115]]),
  (168, [.agg [.int .i64 (.ofNat 5),.int .i64 (.ofNat 5),.bool false,.int .u32 (.ofNat 0),.int .i64 (.ofNat 30)],.int .u8 (.ofNat 97),.int .i64 (.ofNat 1)], .int .u32 (.ofNat 32)),
  (168, [.agg [.int .i64 (.ofNat 30),.int .i64 (.ofNat 2),.bool false,.int .u32 (.ofNat 0),.int .i64 (.ofNat 3)],.int .u8 (.ofNat 115),.int .i64 (.ofNat 2)], .int .u32 (.ofNat 2147483648)),
  (168, [.agg [.int .i64 (.ofNat 0),.int .i64 (.ofNat 5),.bool false,.int .u32 (.ofNat 0),.int .i64 (.ofNat 31)],.int .u8 (.ofNat 100),.int .i64 (.ofNat 12)], .int .u32 (.ofNat 12)),
  (231, [.int .i64 (.ofNat 23)], .agg [.int .u32 (.ofNat 134249472),.str [100,97,115,109]]),
  (163, [.int .i64 (.ofNat 16)], .agg [.int .u32 (.ofNat 3036676096),.str [100,120]]),
  (168, [.agg [.int .i64 (.ofNat 5),.int .i64 (.ofNat 5),.bool false,.int .u32 (.ofNat 0),.int .i64 (.ofNat 31)],.int .u8 (.ofNat 110),.int .i64 (.ofNat 31)], .int .u32 (.ofNat 992)),
  (163, [.int .i64 (.ofNat 31)], .agg [.int .u32 (.ofNat 3556769793),.str [105]]),
  (239, [.lst .dead 1 [.int .i64 (.ofNat 1),.int .u64 (.ofNat 5),.str [],.int .i64 (.ofNat 0),.int .i64 (.ofNat 0),.str [],.lst .dead 0 [],.lst .dead 0 []]], .int .i64 (.ofNat 0)),
  (117, [.int .i64 (.ofNat 1),.int .u32 (.ofNat 4070572092)], .tup [.agg [.int .i64 (.ofNat 1),.int .i64 (.ofNat 28),.int .i64 (.ofNat 0),.int .i64 (.ofNat 0),.int .i64 (.ofNat 1),.int .i64 (.ofNat 0),.int .i64 (.ofNat 1)],.bool false]),
  (117, [.int .i64 (.ofNat 2),.int .u32 (.ofNat 4070572092)], .tup [.agg [.int .i64 (.ofNat 2),.int .i64 (.ofNat 28),.int .i64 (.ofNat 0),.int .i64 (.ofNat 0),.int .i64 (.ofNat 1),.int .i64 (.ofNat 0),.int .i64 (.ofNat 1)],.bool true]),
  (117, [.int .i64 (.ofNat 1),.int .u32 (.ofNat 3531604128)], .tup [.agg [.int .i64 (.ofNat 1),.int .i64 (.ofNat 0),.int .i64 (.ofNat 0),.int .i64 (.ofNat 0),.int .i64 (.ofNat 0),.int .i64 (.ofNat 0),.int .i64 (.ofNat 5)],.bool true]),
  (117, [.int .i64 (.ofNat 1),.int .u32 (.ofNat 3533701153)], .tup [.agg [.int .i64 (.ofNat 1),.int .i64 (.ofNat 1),.int .i64 (.ofNat 0),.int .i64 (.ofNat 0),.int .i64 (.ofNat 1),.int .i64 (.ofNat 0),.int .i64 (.ofNat 1)],.bool true]),
  (169, [.agg [.int .i64 (.ofNat 0),.int .i64 (.ofNat 5),.bool false,.int .u32 (.ofNat 0),.int .i64 (.ofNat 31)],.int .u8 (.ofNat 100),.int .u32 (.ofNat 2287959086)], .tup [.int .i64 (.ofNat 14),.bool true]),
  (169, [.agg [.int .i64 (.ofNat 5),.int .i64 (.ofNat 5),.bool false,.int .u32 (.ofNat 0),.int .i64 (.ofNat 31)],.int .u8 (.ofNat 110),.int .u32 (.ofNat 2287959086)], .tup [.int .i64 (.ofNat 1),.bool true]),
  (169, [.agg [.int .i64 (.ofNat 16),.int .i64 (.ofNat 5),.bool false,.int .u32 (.ofNat 0),.int .i64 (.ofNat 31)],.int .u8 (.ofNat 109),.int .u32 (.ofNat 2287959086)], .tup [.int .i64 (.ofNat 31),.bool true]),
  (117, [.int .i64 (.ofNat 13),.int .u32 (.ofNat 2287959086)], .tup [.agg [.int .i64 (.ofNat 13),.int .i64 (.ofNat 0),.int .i64 (.ofNat 0),.int .i64 (.ofNat 0),.int .i64 (.ofNat 0),.int .i64 (.ofNat 0),.int .i64 (.ofNat 6257710)],.bool false]),
  (169, [.agg [.int .i64 (.ofNat 5),.int .i64 (.ofNat 19),.bool true,.int .u32 (.ofNat 0),.int .i64 (.ofNat 0)],.int .u8 (.ofNat 120),.int .u32 (.ofNat 2287959086)], .tup [.int .i64 (.ofNat 195553),.bool true]),
  (163, [.int .i64 (.ofNat 17)], .agg [.int .u32 (.ofNat 960495616),.str [100,97,111,115]]),
  (169, [.agg [.int .i64 (.ofNat 5),.int .i64 (.ofNat 5),.bool false,.int .u32 (.ofNat 0),.int .i64 (.ofNat 30)],.int .u8 (.ofNat 97),.int .u32 (.ofNat 2287959086)], .tup [.int .i64 (.ofNat 1),.bool true]),
  (169, [.agg [.int .i64 (.ofNat 30),.int .i64 (.ofNat 2),.bool false,.int .u32 (.ofNat 0),.int .i64 (.ofNat 3)],.int .u8 (.ofNat 115),.int .u32 (.ofNat 2287959086)], .tup [.int .i64 (.ofNat 2),.bool true]),
  (163, [.int .i64 (.ofNat 18)], .agg [.int .u32 (.ofNat 956301312),.str [100,97,111,115]]),
  (163, [.int .i64 (.ofNat 19)], .agg [.int .u32 (.ofNat 148896768),.str [100,97,115]]),
  (163, [.int .i64 (.ofNat 20)], .agg [.int .u32 (.ofNat 144702464),.str [100,97,115]]),
  (117, [.int .i64 (.ofNat 1),.int .u32 (.ofNat 2332033484)], .tup [.agg [.int .i64 (.ofNat 1),.int .i64 (.ofNat 12),.int .i64 (.ofNat 0),.int .i64 (.ofNat 0),.int .i64 (.ofNat 0),.int .i64 (.ofNat 0),.int .i64 (.ofNat 14)],.bool false]),
  (117, [.int .i64 (.ofNat 2),.int .u32 (.ofNat 2332033484)], .tup [.agg [.int .i64 (.ofNat 2),.int .i64 (.ofNat 12),.int .i64 (.ofNat 0),.int .i64 (.ofNat 0),.int .i64 (.ofNat 0),.int .i64 (.ofNat 0),.int .i64 (.ofNat 14)],.bool false]),
  (117, [.int .i64 (.ofNat 3),.int .u32 (.ofNat 2332033484)], .tup [.agg [.int .i64 (.ofNat 3),.int .i64 (.ofNat 12),.int .i64 (.ofNat 14),.int .i64 (.ofNat 0),.int .i64 (.ofNat 0),.int .i64 (.ofNat 0),.int .i64 (.ofNat 0)],.bool true]),
  (169, [.agg [.int .i64 (.ofNat 0),.int .i64 (.ofNat 5),.bool false,.int .u32 (.ofNat 0),.int .i64 (.ofNat 31)],.int .u8 (.ofNat 100),.int .u32 (.ofNat 2282585132)], .tup [.int .i64 (.ofNat 12),.bool true]),
  (169, [.agg [.int .i64 (.ofNat 5),.int .i64 (.ofNat 5),.bool false,.int .u32 (.ofNat 0),.int .i64 (.ofNat 31)],.int .u8 (.ofNat 110),.int .u32 (.ofNat 2282585132)], .tup [.int .i64 (.ofNat 1),.bool true]),
  (169, [.agg [.int .i64 (.ofNat 16),.int .i64 (.ofNat 5),.bool false,.int .u32 (.ofNat 0),.int .i64 (.ofNat 31)],.int .u8 (.ofNat 109),.int .u32 (.ofNat 2282585132)], .tup [.int .i64 (.ofNat 13),.bool true]),
  (117, [.int .i64 (.ofNat 13),.int .u32 (.ofNat 2282585132)], .tup [.agg [.int .i64 (.ofNat 13),.int .i64 (.ofNat 0),.int .i64 (.ofNat 0),.int .i64 (.ofNat 0),.int .i64 (.ofNat 0),.int .i64 (.ofNat 0),.int .i64 (.ofNat 883756)],.bool false]),
  (169, [.agg [.int .i64 (.ofNat 5),.int .i64 (.ofNat 19),.bool true,.int .u32 (.ofNat 0),.int .i64 (.ofNat 0)],.int .u8 (.ofNat 120),.int .u32 (.ofNat 2282585132)], .tup [.int .i64 (.ofNat 27617),.bool true]),
  (169, [.agg [.int .i64 (.ofNat 5),.int .i64 (.ofNat 5),.bool false,.int .u32 (.ofNat 0),.int .i64 (.ofNat 30)],.int .u8 (.ofNat 97),.int .u32 (.ofNat 2282585132)], .tup [.int .i64 (.ofNat 1),.bool true]),
  (169, [.agg [.int .i64 (.ofNat 30),.int .i64 (.ofNat 2),.bool false,.int .u32 (.ofNat 0),.int .i64 (.ofNat 3)],.int .u8 (.ofNat 115),.int .u32 (.ofNat 2282585132)], .tup [.int .i64 (.ofNat 2),.bool true]),
  (169, [.agg [.int .i64 (.ofNat 0),.int .i64 (.ofNat 5),.bool false,.int .u32 (.ofNat 0),.int .i64 (.ofNat 31)],.int .u8 (.ofNat 100),.int .u32 (.ofNat 3053453229)], .tup [.int .i64 (.ofNat 13),.bool true]),
  (169, [.agg [.int .i64 (.ofNat 5),.int .i64 (.ofNat 5),.bool false,.int .u32 (.ofNat 0),.int .i64 (.ofNat 31)],.int .u8 (.ofNat 110),.int .u32 (.ofNat 3053453229)], .tup [.int .i64 (.ofNat 29),.bool true]),
  (169, [.agg [.int .i64 (.ofNat 16),.int .i64 (.ofNat 5),.bool false,.int .u32 (.ofNat 0),.int .i64 (.ofNat 31)],.int .u8 (.ofNat 109),.int .u32 (.ofNat 3053453229)], .tup [.int .i64 (.ofNat 31),.bool true]),
  (117, [.int .i64 (.ofNat 13),.int .u32 (.ofNat 3053453229)], .tup [.agg [.int .i64 (.ofNat 13),.int .i64 (.ofNat 0),.int .i64 (.ofNat 0),.int .i64 (.ofNat 0),.int .i64 (.ofNat 0),.int .i64 (.ofNat 0),.int .i64 (.ofNat 33554349)],.bool false]),
  (169, [.agg [.int .i64 (.ofNat 5),.int .i64 (.ofNat 19),.bool true,.int .u32 (.ofNat 0),.int .i64 (.ofNat 0)],.int .u8 (.ofNat 120),.int .u32 (.ofNat 3053453229)], .tup [.int .i64 (.negSucc 2),.bool true]),
  (169, [.agg [.int .i64 (.ofNat 0),.int .i64 (.ofNat 5),.bool false,.int .u32 (.ofNat 0),.int .i64 (.ofNat 31)],.int .u8 (.ofNat 100),.int .u32 (.ofNat 2853045218)], .tup [.int .i64 (.ofNat 2),.bool true]),
  (169, [.agg [.int .i64 (.ofNat 5),.int .i64 (.ofNat 5),.bool false,.int .u32 (.ofNat 0),.int .i64 (.ofNat 31)],.int .u8 (.ofNat 110),.int .u32 (.ofNat 2853045218)], .tup [.int .i64 (.ofNat 31),.bool true]),
  (169, [.agg [.int .i64 (.ofNat 16),.int .i64 (.ofNat 5),.bool false,.int .u32 (.ofNat 0),.int .i64 (.ofNat 31)],.int .u8 (.ofNat 109),.int .u32 (.ofNat 2853045218)], .tup [.int .i64 (.ofNat 14),.bool true]),
  (169, [.agg [.int .i64 (.ofNat 0),.int .i64 (.ofNat 5),.bool false,.int .u32 (.ofNat 0),.int .i64 (.ofNat 31)],.int .u8 (.ofNat 100),.int .u32 (.ofNat 2852258784)], .tup [.int .i64 (.ofNat 0),.bool true]),
  (169, [.agg [.int .i64 (.ofNat 5),.int .i64 (.ofNat 5),.bool false,.int .u32 (.ofNat 0),.int .i64 (.ofNat 31)],.int .u8 (.ofNat 110),.int .u32 (.ofNat 2852258784)], .tup [.int .i64 (.ofNat 31),.bool true]),
  (169, [.agg [.int .i64 (.ofNat 16),.int .i64 (.ofNat 5),.bool false,.int .u32 (.ofNat 0),.int .i64 (.ofNat 31)],.int .u8 (.ofNat 109),.int .u32 (.ofNat 2852258784)], .tup [.int .i64 (.ofNat 2),.bool true]),
  (169, [.agg [.int .i64 (.ofNat 0),.int .i64 (.ofNat 5),.bool false,.int .u32 (.ofNat 0),.int .i64 (.ofNat 31)],.int .u8 (.ofNat 100),.int .u32 (.ofNat 3556769825)], .tup [.int .i64 (.ofNat 1),.bool true]),
  (169, [.agg [.int .i64 (.ofNat 5),.int .i64 (.ofNat 5),.bool false,.int .u32 (.ofNat 0),.int .i64 (.ofNat 31)],.int .u8 (.ofNat 110),.int .u32 (.ofNat 3556769825)], .tup [.int .i64 (.ofNat 1),.bool true]),
  (169, [.agg [.int .i64 (.ofNat 16),.int .i64 (.ofNat 5),.bool false,.int .u32 (.ofNat 0),.int .i64 (.ofNat 31)],.int .u8 (.ofNat 109),.int .u32 (.ofNat 3556769825)], .tup [.int .i64 (.ofNat 0),.bool true]),
  (117, [.int .i64 (.ofNat 13),.int .u32 (.ofNat 3556769825)], .tup [.agg [.int .i64 (.ofNat 13),.int .i64 (.ofNat 0),.int .i64 (.ofNat 0),.int .i64 (.ofNat 0),.int .i64 (.ofNat 0),.int .i64 (.ofNat 0),.int .i64 (.ofNat 33)],.bool false]),
  (169, [.agg [.int .i64 (.ofNat 5),.int .i64 (.ofNat 19),.bool true,.int .u32 (.ofNat 0),.int .i64 (.ofNat 0)],.int .u8 (.ofNat 120),.int .u32 (.ofNat 3556769825)], .tup [.int .i64 (.ofNat 1),.bool true]),
  (169, [.agg [.int .i64 (.ofNat 5),.int .i64 (.ofNat 5),.bool false,.int .u32 (.ofNat 0),.int .i64 (.ofNat 30)],.int .u8 (.ofNat 97),.int .u32 (.ofNat 3556769825)], .tup [.int .i64 (.ofNat 1),.bool true]),
  (169, [.agg [.int .i64 (.ofNat 30),.int .i64 (.ofNat 2),.bool false,.int .u32 (.ofNat 0),.int .i64 (.ofNat 3)],.int .u8 (.ofNat 115),.int .u32 (.ofNat 3556769825)], .tup [.int .i64 (.ofNat 3),.bool true]),
  (169, [.agg [.int .i64 (.ofNat 10),.int .i64 (.ofNat 5),.bool false,.int .u32 (.ofNat 0),.int .i64 (.ofNat 31)],.int .u8 (.ofNat 101),.int .u32 (.ofNat 3556769825)], .tup [.int .i64 (.ofNat 0),.bool true]),
  (169, [.agg [.int .i64 (.ofNat 0),.int .i64 (.ofNat 5),.bool false,.int .u32 (.ofNat 0),.int .i64 (.ofNat 31)],.int .u8 (.ofNat 100),.int .u32 (.ofNat 3556769793)], .tup [.int .i64 (.ofNat 1),.bool true]),
  (169, [.agg [.int .i64 (.ofNat 5),.int .i64 (.ofNat 16),.bool false,.int .u32 (.ofNat 0),.int .i64 (.ofNat 65535)],.int .u8 (.ofNat 105),.int .u32 (.ofNat 3556769793)], .tup [.int .i64 (.ofNat 0),.bool true]),
  (169, [.agg [.int .i64 (.ofNat 5),.int .i64 (.ofNat 5),.bool false,.int .u32 (.ofNat 0),.int .i64 (.ofNat 31)],.int .u8 (.ofNat 110),.int .u32 (.ofNat 3556769793)], .tup [.int .i64 (.ofNat 0),.bool true]),
  (169, [.agg [.int .i64 (.ofNat 16),.int .i64 (.ofNat 5),.bool false,.int .u32 (.ofNat 0),.int .i64 (.ofNat 31)],.int .u8 (.ofNat 109),.int .u32 (.ofNat 3556769793)], .tup [.int .i64 (.ofNat 0),.bool true]),
  (117, [.int .i64 (.ofNat 13),.int .u32 (.ofNat 3556769793)], .tup [.agg [.int .i64 (.ofNat 13),.int .i64 (.ofNat 0),.int .i64 (.ofNat 0),.int .i64 (.ofNat 0),.int .i64 (.ofNat 0),.int .i64 (.ofNat 0),.int .i64 (.ofNat 1)],.bool false]),
  (169, [.agg [.int .i64 (.ofNat 5),.int .i64 (.ofNat 19),.bool true,.int .u32 (.ofNat 0),.int .i64 (.ofNat 0)],.int .u8 (.ofNat 120),.int .u32 (.ofNat 3556769793)], .tup [.int .i64 (.ofNat 0),.bool true]),
  (169, [.agg [.int .i64 (.ofNat 5),.int .i64 (.ofNat 5),.bool false,.int .u32 (.ofNat 0),.int .i64 (.ofNat 30)],.int .u8 (.ofNat 97),.int .u32 (.ofNat 3556769793)], .tup [.int .i64 (.ofNat 0),.bool true]),
  (169, [.agg [.int .i64 (.ofNat 30),.int .i64 (.ofNat 2),.bool false,.int .u32 (.ofNat 0),.int .i64 (.ofNat 3)],.int .u8 (.ofNat 115),.int .u32 (.ofNat 3556769793)], .tup [.int .i64 (.ofNat 3),.bool true]),
  (169, [.agg [.int .i64 (.ofNat 10),.int .i64 (.ofNat 5),.bool false,.int .u32 (.ofNat 0),.int .i64 (.ofNat 31)],.int .u8 (.ofNat 101),.int .u32 (.ofNat 3556769793)], .tup [.int .i64 (.ofNat 0),.bool true]),
  (86, [.agg [.int .i64 (.ofNat 65536),.int .i64 (.ofNat 4)],.agg [.int .i64 (.ofNat 65536),.int .i64 (.ofNat 2064)]], .bool true)]
def RbM202 : List (Nat × List AV × AV) := [
  (16, [.str [118,97,114,32,120,32,97,51,50,32,59,32,116,104,114,101,97,100,32,123,32,108,101,116,32,97,32,61,32,97,100,100,32,114,108,120,32,120,32,53,32,59,32,112,114,105,110,116,32,97,32,59,32,125,32,116,104,114,101,97,100,32,123,32,108,101,116,32,97,32,61,32,97,100,100,32,114,108,120,32,120,32,53,32,59,32,112,114,105,110,116,32,97,32,59,32,125]], .tup [.agg [.lst .dead 1 [.str [120],.int .i64 (.ofNat 2),.int .i64 (.ofNat 4),.bool false,.lst .dead 0 [],.int .i64 (.ofNat 0),.lst .dead 0 []],.lst .dead 2 [.lst .dead 2 [.int .i64 (.ofNat 1),.int .i64 (.ofNat 1),.str [97],.str [],.int .i64 (.ofNat 0),.str [],.lst .dead 0 [],.lst .dead 1 [.int .i64 (.ofNat 6),.int .u64 (.ofNat 0),.str [],.int .i64 (.ofNat 0),.int .i64 (.ofNat 1),.str [120],.lst .dead 0 [],.lst .dead 1 [.int .i64 (.ofNat 1),.int .u64 (.ofNat 5),.str [],.int .i64 (.ofNat 0),.int .i64 (.ofNat 0),.str [],.lst .dead 0 [],.lst .dead 0 []]],.lst .dead 0 [],.lst .dead 0 [],.int .i64 (.ofNat 10),.int .i64 (.ofNat 1),.str [],.str [],.int .i64 (.ofNat 0),.str [],.lst .dead 0 [],.lst .dead 1 [.int .i64 (.ofNat 2),.int .u64 (.ofNat 0),.str [97],.int .i64 (.ofNat 0),.int .i64 (.ofNat 0),.str [],.lst .dead 0 [],.lst .dead 0 []],.lst .dead 0 [],.lst .dead 0 []],.lst .dead 2 [.int .i64 (.ofNat 1),.int .i64 (.ofNat 1),.str [97],.str [],.int .i64 (.ofNat 0),.str [],.lst .dead 0 [],.lst .dead 1 [.int .i64 (.ofNat 6),.int .u64 (.ofNat 0),.str [],.int .i64 (.ofNat 0),.int .i64 (.ofNat 1),.str [120],.lst .dead 0 [],.lst .dead 1 [.int .i64 (.ofNat 1),.int .u64 (.ofNat 5),.str [],.int .i64 (.ofNat 0),.int .i64 (.ofNat 0),.str [],.lst .dead 0 [],.lst .dead 0 []]],.lst .dead 0 [],.lst .dead 0 [],.int .i64 (.ofNat 10),.int .i64 (.ofNat 1),.str [],.str [],.int .i64 (.ofNat 0),.str [],.lst .dead 0 [],.lst .dead 1 [.int .i64 (.ofNat 2),.int .u64 (.ofNat 0),.str [97],.int .i64 (.ofNat 0),.int .i64 (.ofNat 0),.str [],.lst .dead 0 [],.lst .dead 0 []],.lst .dead 0 [],.lst .dead 0 []]]],.agg [.int .i64 (.ofNat 0),.int .i64 (.ofNat 0)]]),
  (176, [.agg [.int .i64 (.ofNat 2),.int .i64 (.ofNat 4),.bool false,.lst .dead 0 [],.int .i64 (.ofNat 0),.lst .dead 0 []]], .int .i64 (.ofNat 0)),
  (116, [.agg [.int .i64 (.ofNat 1),.int .i64 (.ofNat 28),.int .i64 (.ofNat 0),.int .i64 (.ofNat 0),.int .i64 (.ofNat 0),.int .i64 (.ofNat 0),.int .i64 (.ofNat 16)]], .tup [.int .u32 (.ofNat 3531604508),.int .i64 (.ofNat 0)]),
  (116, [.agg [.int .i64 (.ofNat 2),.int .i64 (.ofNat 28),.int .i64 (.ofNat 0),.int .i64 (.ofNat 0),.int .i64 (.ofNat 1),.int .i64 (.ofNat 0),.int .i64 (.ofNat 1)]], .tup [.int .u32 (.ofNat 4070572092),.int .i64 (.ofNat 0)]),
  (116, [.agg [.int .i64 (.ofNat 1),.int .i64 (.ofNat 0),.int .i64 (.ofNat 0),.int .i64 (.ofNat 0),.int .i64 (.ofNat 0),.int .i64 (.ofNat 0),.int .i64 (.ofNat 5)]], .tup [.int .u32 (.ofNat 3531604128),.int .i64 (.ofNat 0)]),
  (116, [.agg [.int .i64 (.ofNat 1),.int .i64 (.ofNat 1),.int .i64 (.ofNat 0),.int .i64 (.ofNat 0),.int .i64 (.ofNat 1),.int .i64 (.ofNat 0),.int .i64 (.ofNat 1)]], .tup [.int .u32 (.ofNat 3533701153),.int .i64 (.ofNat 0)]),
  (163, [.int .i64 (.ofNat 21)], .agg [.int .u32 (.ofNat 140475392),.str [100,97,115]]),
  (116, [.agg [.int .i64 (.ofNat 3),.int .i64 (.ofNat 12),.int .i64 (.ofNat 14),.int .i64 (.ofNat 0),.int .i64 (.ofNat 0),.int .i64 (.ofNat 0),.int .i64 (.ofNat 0)]], .tup [.int .u32 (.ofNat 2332033484),.int .i64 (.ofNat 0)]),
  (163, [.int .i64 (.ofNat 23)], .agg [.int .u32 (.ofNat 134249472),.str [100,97,115,109]]),
  (116, [.agg [.int .i64 (.ofNat 16),.int .i64 (.ofNat 13),.int .i64 (.ofNat 0),.int .i64 (.ofNat 0),.int .i64 (.ofNat 0),.int .i64 (.ofNat 0),.int .i64 (.negSucc 2)]], .tup [.int .u32 (.ofNat 3053453229),.int .i64 (.ofNat 0)]),
  (116, [.agg [.int .i64 (.ofNat 7),.int .i64 (.ofNat 2),.int .i64 (.ofNat 31),.int .i64 (.ofNat 14),.int .i64 (.ofNat 0),.int .i64 (.ofNat 0),.int .i64 (.ofNat 0)]], .tup [.int .u32 (.ofNat 2853045218),.int .i64 (.ofNat 0)]),
  (116, [.agg [.int .i64 (.ofNat 7),.int .i64 (.ofNat 0),.int .i64 (.ofNat 31),.int .i64 (.ofNat 2),.int .i64 (.ofNat 0),.int .i64 (.ofNat 0),.int .i64 (.ofNat 0)]], .tup [.int .u32 (.ofNat 2852258784),.int .i64 (.ofNat 0)]),
  (116, [.agg [.int .i64 (.ofNat 31),.int .i64 (.ofNat 0),.int .i64 (.ofNat 0),.int .i64 (.ofNat 0),.int .i64 (.ofNat 0),.int .i64 (.ofNat 0),.int .i64 (.ofNat 1)]], .tup [.int .u32 (.ofNat 3556769825),.int .i64 (.ofNat 0)]),
  (116, [.agg [.int .i64 (.ofNat 31),.int .i64 (.ofNat 0),.int .i64 (.ofNat 0),.int .i64 (.ofNat 0),.int .i64 (.ofNat 0),.int .i64 (.ofNat 0),.int .i64 (.ofNat 0)]], .tup [.int .u32 (.ofNat 3556769793),.int .i64 (.ofNat 0)]),
  (116, [.agg [.int .i64 (.ofNat 1),.int .i64 (.ofNat 28),.int .i64 (.ofNat 0),.int .i64 (.ofNat 0),.int .i64 (.ofNat 0),.int .i64 (.ofNat 0),.int .i64 (.ofNat 1040)]], .tup [.int .u32 (.ofNat 3531637276),.int .i64 (.ofNat 0)]),
  (239, [.lst .dead 1 [.int .i64 (.ofNat 6),.int .u64 (.ofNat 0),.str [],.int .i64 (.ofNat 0),.int .i64 (.ofNat 1),.str [120],.lst .dead 0 [],.lst .dead 1 [.int .i64 (.ofNat 1),.int .u64 (.ofNat 5),.str [],.int .i64 (.ofNat 0),.int .i64 (.ofNat 0),.str [],.lst .dead 0 [],.lst .dead 0 []]]], .int .i64 (.ofNat 1)),
  (117, [.int .i64 (.ofNat 1),.int .u32 (.ofNat 2287959086)], .tup [.agg [.int .i64 (.ofNat 1),.int .i64 (.ofNat 14),.int .i64 (.ofNat 0),.int .i64 (.ofNat 0),.int .i64 (.ofNat 2),.int .i64 (.ofNat 0),.int .i64 (.ofNat 64481)],.bool false]),
  (117, [.int .i64 (.ofNat 2),.int .u32 (.ofNat 2287959086)], .tup [.agg [.int .i64 (.ofNat 2),.int .i64 (.ofNat 14),.int .i64 (.ofNat 0),.int .i64 (.ofNat 0),.int .i64 (.ofNat 2),.int .i64 (.ofNat 0),.int .i64 (.ofNat 64481)],.bool false]),
  (117, [.int .i64 (.ofNat 3),.int .u32 (.ofNat 2287959086)], .tup [.agg [.int .i64 (.ofNat 3),.int .i64 (.ofNat 14),.int .i64 (.ofNat 1),.int .i64 (.ofNat 31),.int .i64 (.ofNat 0),.int .i64 (.ofNat 0),.int .i64 (.ofNat 0)],.bool false]),
  (117, [.int .i64 (.ofNat 4),.int .u32 (.ofNat 2287959086)], .tup [.agg [.int .i64 (.ofNat 4),.int .i64 (.ofNat 14),.int .i64 (.ofNat 1),.int .i64 (.ofNat 31),.int .i64 (.ofNat 0),.int .i64 (.ofNat 0),.int .i64 (.ofNat 0)],.bool false]),
  (117, [.int .i64 (.ofNat 5),.int .u32 (.ofNat 2287959086)], .tup [.agg [.int .i64 (.ofNat 5),.int .i64 (.ofNat 14),.int .i64 (.ofNat 1),.int .i64 (.ofNat 31),.int .i64 (.ofNat 0),.int .i64 (.ofNat 0),.int .i64 (.ofNat 0)],.bool false]),
  (117, [.int .i64 (.ofNat 6),.int .u32 (.ofNat 2287959086)], .tup [.agg [.int .i64 (.ofNat 6),.int .i64 (.ofNat 14),.int .i64 (.ofNat 1),.int .i64 (.ofNat 31),.int .i64 (.ofNat 0),.int .i64 (.ofNat 0),.int .i64 (.ofNat 0)],.bool false]),
  (117, [.int .i64 (.ofNat 7),.int .u32 (.ofNat 2287959086)], .tup [.agg [.int .i64 (.ofNat 7),.int .i64 (.ofNat 14),.int .i64 (.ofNat 1),.int .i64 (.ofNat 31),.int .i64 (.ofNat 0),.int .i64 (.ofNat 0),.int .i64 (.ofNat 0)],.bool false]),
  (117, [.int .i64 (.ofNat 8),.int .u32 (.ofNat 2287959086)], .tup [.agg [.int .i64 (.ofNat 8),.int .i64 (.ofNat 14),.int .i64 (.ofNat 1),.int .i64 (.ofNat 31),.int .i64 (.ofNat 0),.int .i64 (.ofNat 0),.int .i64 (.ofNat 0)],.bool false]),
  (117, [.int .i64 (.ofNat 9),.int .u32 (.ofNat 2287959086)], .tup [.agg [.int .i64 (.ofNat 9),.int .i64 (.ofNat 14),.int .i64 (.ofNat 1),.int .i64 (.ofNat 31),.int .i64 (.ofNat 0),.int .i64 (.ofNat 0),.int .i64 (.ofNat 0)],.bool false]),
  (117, [.int .i64 (.ofNat 10),.int .u32 (.ofNat 2287959086)], .tup [.agg [.int .i64 (.ofNat 10),.int .i64 (.ofNat 14),.int .i64 (.ofNat 1),.int .i64 (.ofNat 31),.int .i64 (.ofNat 0),.int .i64 (.ofNat 0),.int .i64 (.ofNat 0)],.bool false]),
  (117, [.int .i64 (.ofNat 11),.int .u32 (.ofNat 2287959086)], .tup [.agg [.int .i64 (.ofNat 11),.int .i64 (.ofNat 14),.int .i64 (.ofNat 1),.int .i64 (.ofNat 31),.int .i64 (.ofNat 0),.int .i64 (.ofNat 0),.int .i64 (.ofNat 0)],.bool false]),
  (117, [.int .i64 (.ofNat 12),.int .u32 (.ofNat 2287959086)], .tup [.agg [.int .i64 (.ofNat 12),.int .i64 (.ofNat 14),.int .i64 (.ofNat 0),.int .i64 (.ofNat 0),.int .i64 (.ofNat 2),.int .i64 (.ofNat 0),.int .i64 (.ofNat 0)],.bool false]),
  (117, [.int .i64 (.ofNat 14),.int .u32 (.ofNat 2287959086)], .tup [.agg [.int .i64 (.ofNat 14),.int .i64 (.ofNat 0),.int .i64 (.ofNat 0),.int .i64 (.ofNat 0),.int .i64 (.ofNat 2),.int .i64 (.ofNat 0),.int .i64 (.ofNat 195553)],.bool false]),
  (117, [.int .i64 (.ofNat 15),.int .u32 (.ofNat 2287959086)], .tup [.agg [.int .i64 (.ofNat 15),.int .i64 (.ofNat 14),.int .i64 (.ofNat 0),.int .i64 (.ofNat 0),.int .i64 (.ofNat 0),.int .i64 (.ofNat 0),.int .i64 (.ofNat 195553)],.bool false]),
  (117, [.int .i64 (.ofNat 16),.int .u32 (.ofNat 2287959086)], .tup [.agg [.int .i64 (.ofNat 16),.int .i64 (.ofNat 14),.int .i64 (.ofNat 0),.int .i64 (.ofNat 0),.int .i64 (.ofNat 0),.int .i64 (.ofNat 0),.int .i64 (.ofNat 195553)],.bool false]),
  (117, [.int .i64 (.ofNat 17),.int .u32 (.ofNat 2287959086)], .tup [.agg [.int .i64 (.ofNat 17),.int .i64 (.ofNat 14),.int .i64 (.ofNat 1),.int .i64 (.ofNat 0),.int .i64 (.ofNat 0),.int .i64 (.ofNat 2),.int .i64 (.ofNat 2015)],.bool false]),
  (117, [.int .i64 (.ofNat 18),.int .u32 (.ofNat 2287959086)], .tup [.agg [.int .i64 (.ofNat 18),.int .i64 (.ofNat 14),.int .i64 (.ofNat 1),.int .i64 (.ofNat 0),.int .i64 (.ofNat 0),.int .i64 (.ofNat 2),.int .i64 (.ofNat 2015)],.bool false]),
  (117, [.int .i64 (.ofNat 19),.int .u32 (.ofNat 2287959086)], .tup [.agg [.int .i64 (.ofNat 19),.int .i64 (.ofNat 14),.int .i64 (.ofNat 1),.int .i64 (.ofNat 0),.int .i64 (.ofNat 0),.int .i64 (.ofNat 2),.int .i64 (.ofNat 0)],.bool false]),
  (117, [.int .i64 (.ofNat 20),.int .u32 (.ofNat 2287959086)], .tup [.agg [.int .i64 (.ofNat 20),.int .i64 (.ofNat 14),.int .i64 (.ofNat 1),.int .i64 (.ofNat 0),.int .i64 (.ofNat 0),.int .i64 (.ofNat 2),.int .i64 (.ofNat 0)],.bool false]),
  (117, [.int .i64 (.ofNat 1),.int .u32 (.ofNat 2282585132)], .tup [.agg [.int .i64 (.ofNat 1),.int .i64 (.ofNat 12),.int .i64 (.ofNat 0),.int .i64 (.ofNat 0),.int .i64 (.ofNat 0),.int .i64 (.ofNat 0),.int .i64 (.ofNat 27617)],.bool false]),
  (117, [.int .i64 (.ofNat 2),.int .u32 (.ofNat 2282585132)], .tup [.agg [.int .i64 (.ofNat 2),.int .i64 (.ofNat 12),.int .i64 (.ofNat 0),.int .i64 (.ofNat 0),.int .i64 (.ofNat 0),.int .i64 (.ofNat 0),.int .i64 (.ofNat 27617)],.bool false]),
  (117, [.int .i64 (.ofNat 3),.int .u32 (.ofNat 2282585132)], .tup [.agg [.int .i64 (.ofNat 3),.int .i64 (.ofNat 12),.int .i64 (.ofNat 1),.int .i64 (.ofNat 13),.int .i64 (.ofNat 0),.int .i64 (.ofNat 0),.int .i64 (.ofNat 0)],.bool false]),
  (117, [.int .i64 (.ofNat 4),.int .u32 (.ofNat 2282585132)], .tup [.agg [.int .i64 (.ofNat 4),.int .i64 (.ofNat 12),.int .i64 (.ofNat 1),.int .i64 (.ofNat 13),.int .i64 (.ofNat 0),.int .i64 (.ofNat 0),.int .i64 (.ofNat 0)],.bool false]),
  (117, [.int .i64 (.ofNat 5),.int .u32 (.ofNat 2282585132)], .tup [.agg [.int .i64 (.ofNat 5),.int .i64 (.ofNat 12),.int .i64 (.ofNat 1),.int .i64 (.ofNat 13),.int .i64 (.ofNat 0),.int .i64 (.ofNat 0),.int .i64 (.ofNat 0)],.bool false]),
  (117, [.int .i64 (.ofNat 6),.int .u32 (.ofNat 2282585132)], .tup [.agg [.int .i64 (.ofNat 6),.int .i64 (.ofNat 12),.int .i64 (.ofNat 1),.int .i64 (.ofNat 13),.int .i64 (.ofNat 0),.int .i64 (.ofNat 0),.int .i64 (.ofNat 0)],.bool false]),
  (117, [.int .i64 (.ofNat 7),.int .u32 (.ofNat 2282585132)], .tup [.agg [.int .i64 (.ofNat 7),.int .i64 (.ofNat 12),.int .i64 (.ofNat 1),.int .i64 (.ofNat 13),.int .i64 (.ofNat 0),.int .i64 (.ofNat 0),.int .i64 (.ofNat 0)],.bool false]),
  (117, [.int .i64 (.ofNat 8),.int .u32 (.ofNat 2282585132)], .tup [.agg [.int .i64 (.ofNat 8),.int .i64 (.ofNat 12),.int .i64 (.ofNat 1),.int .i64 (.ofNat 13),.int .i64 (.ofNat 0),.int .i64 (.ofNat 0),.int .i64 (.ofNat 0)],.bool false]),
  (117, [.int .i64 (.ofNat 9),.int .u32 (.ofNat 2282585132)], .tup [.agg [.int .i64 (.ofNat 9),.int .i64 (.ofNat 12),.int .i64 (.ofNat 1),.int .i64 (.ofNat 13),.int .i64 (.ofNat 0),.int .i64 (.ofNat 0),.int .i64 (.ofNat 0)],.bool false]),
  (117, [.int .i64 (.ofNat 10),.int .u32 (.ofNat 2282585132)], .tup [.agg [.int .i64 (.ofNat 10),.int .i64 (.ofNat 12),.int .i64 (.ofNat 1),.int .i64 (.ofNat 13),.int .i64 (.ofNat 0),.int .i64 (.ofNat 0),.int .i64 (.ofNat 0)],.bool false]),
  (117, [.int .i64 (.ofNat 11),.int .u32 (.ofNat 2282585132)], .tup [.agg [.int .i64 (.ofNat 11),.int .i64 (.ofNat 12),.int .i64 (.ofNat 1),.int .i64 (.ofNat 13),.int .i64 (.ofNat 0),.int .i64 (.ofNat 0),.int .i64 (.ofNat 0)],.bool false]),
  (117, [.int .i64 (.ofNat 12),.int .u32 (.ofNat 2282585132)], .tup [.agg [.int .i64 (.ofNat 12),.int .i64 (.ofNat 12),.int .i64 (.ofNat 0),.int .i64 (.ofNat 0),.int .i64 (.ofNat 2),.int .i64 (.ofNat 0),.int .i64 (.ofNat 0)],.bool false]),
  (117, [.int .i64 (.ofNat 14),.int .u32 (.ofNat 2282585132)], .tup [.agg [.int .i64 (.ofNat 14),.int .i64 (.ofNat 0),.int .i64 (.ofNat 0),.int .i64 (.ofNat 0),.int .i64 (.ofNat 0),.int .i64 (.ofNat 0),.int .i64 (.ofNat 27617)],.bool false]),
  (117, [.int .i64 (.ofNat 15),.int .u32 (.ofNat 2282585132)], .tup [.agg [.int .i64 (.ofNat 15),.int .i64 (.ofNat 12),.int .i64 (.ofNat 0),.int .i64 (.ofNat 0),.int .i64 (.ofNat 0),.int .i64 (.ofNat 0),.int .i64 (.ofNat 27617)],.bool false]),
  (117, [.int .i64 (.ofNat 16),.int .u32 (.ofNat 2282585132)], .tup [.agg [.int .i64 (.ofNat 16),.int .i64 (.ofNat 12),.int .i64 (.ofNat 0),.int .i64 (.ofNat 0),.int .i64 (.ofNat 0),.int .i64 (.ofNat 0),.int .i64 (.ofNat 27617)],.bool false]),
  (117, [.int .i64 (.ofNat 17),.int .u32 (.ofNat 2282585132)], .tup [.agg [.int .i64 (.ofNat 17),.int .i64 (.ofNat 12),.int .i64 (.ofNat 1),.int .i64 (.ofNat 0),.int .i64 (.ofNat 0),.int .i64 (.ofNat 2),.int .i64 (.ofNat 863)],.bool false]),
  (117, [.int .i64 (.ofNat 18),.int .u32 (.ofNat 2282585132)], .tup [.agg [.int .i64 (.ofNat 18),.int .i64 (.ofNat 12),.int .i64 (.ofNat 1),.int .i64 (.ofNat 0),.int .i64 (.ofNat 0),.int .i64 (.ofNat 2),.int .i64 (.ofNat 863)],.bool false]),
  (117, [.int .i64 (.ofNat 19),.int .u32 (.ofNat 2282585132)], .tup [.agg [.int .i64 (.ofNat 19),.int .i64 (.ofNat 12),.int .i64 (.ofNat 1),.int .i64 (.ofNat 0),.int .i64 (.ofNat 0),.int .i64 (.ofNat 2),.int .i64 (.ofNat 0)],.bool false]),
  (117, [.int .i64 (.ofNat 20),.int .u32 (.ofNat 2282585132)], .tup [.agg [.int .i64 (.ofNat 20),.int .i64 (.ofNat 12),.int .i64 (.ofNat 1),.int .i64 (.ofNat 0),.int .i64 (.ofNat 0),.int .i64 (.ofNat 2),.int .i64 (.ofNat 0)],.bool false]),
  (117, [.int .i64 (.ofNat 22),.int .u32 (.ofNat 2282585132)], .tup [.agg [.int .i64 (.ofNat 22),.int .i64 (.ofNat 12),.int .i64 (.ofNat 1),.int .i64 (.ofNat 0),.int .i64 (.ofNat 0),.int .i64 (.ofNat 2),.int .i64 (.ofNat 0)],.bool false]),
  (117, [.int .i64 (.ofNat 1),.int .u32 (.ofNat 3053453229)], .tup [.agg [.int .i64 (.ofNat 1),.int .i64 (.ofNat 13),.int .i64 (.ofNat 0),.int .i64 (.ofNat 0),.int .i64 (.ofNat 3),.int .i64 (.ofNat 0),.int .i64 (.ofNat 65533)],.bool false]),
  (117, [.int .i64 (.ofNat 2),.int .u32 (.ofNat 3053453229)], .tup [.agg [.int .i64 (.ofNat 2),.int .i64 (.ofNat 13),.int .i64 (.ofNat 0),.int .i64 (.ofNat 0),.int .i64 (.ofNat 3),.int .i64 (.ofNat 0),.int .i64 (.ofNat 65533)],.bool false]),
  (117, [.int .i64 (.ofNat 3),.int .u32 (.ofNat 3053453229)], .tup [.agg [.int .i64 (.ofNat 3),.int .i64 (.ofNat 13),.int .i64 (.ofNat 29),.int .i64 (.ofNat 31),.int .i64 (.ofNat 0),.int .i64 (.ofNat 0),.int .i64 (.ofNat 0)],.bool false]),
  (117, [.int .i64 (.ofNat 4),.int .u32 (.ofNat 3053453229)], .tup [.agg [.int .i64 (.ofNat 4),.int .i64 (.ofNat 13),.int .i64 (.ofNat 29),.int .i64 (.ofNat 31),.int .i64 (.ofNat 0),.int .i64 (.ofNat 0),.int .i64 (.ofNat 0)],.bool false]),
  (117, [.int .i64 (.ofNat 5),.int .u32 (.ofNat 3053453229)], .tup [.agg [.int .i64 (.ofNat 5),.int .i64 (.ofNat 13),.int .i64 (.ofNat 29),.int .i64 (.ofNat 31),.int .i64 (.ofNat 0),.int .i64 (.ofNat 0),.int .i64 (.ofNat 0)],.bool false]),
  (117, [.int .i64 (.ofNat 6),.int .u32 (.ofNat 3053453229)], .tup [.agg [.int .i64 (.ofNat 6),.int .i64 (.ofNat 13),.int .i64 (.ofNat 29),.int .i64 (.ofNat 31),.int .i64 (.ofNat 0),.int .i64 (.ofNat 0),.int .i64 (.ofNat 0)],.bool false]),
  (117, [.int .i64 (.ofNat 7),.int .u32 (.ofNat 3053453229)], .tup [.agg [.int .i64 (.ofNat 7),.int .i64 (.ofNat 13),.int .i64 (.ofNat 29),.int .i64 (.ofNat 31),.int .i64 (.ofNat 0),.int .i64 (.ofNat 0),.int .i64 (.ofNat 0)],.bool false]),
  (117, [.int .i64 (.ofNat 8),.int .u32 (.ofNat 3053453229)], .tup [.agg [.int .i64 (.ofNat 8),.int .i64 (.ofNat 13),.int .i64 (.ofNat 29),.int .i64 (.ofNat 31),.int .i64 (.ofNat 0),.int .i64 (.ofNat 0),.int .i64 (.ofNat 0)],.bool false]),
  (117, [.int .i64 (.ofNat 9),.int .u32 (.ofNat 3053453229)], .tup [.agg [.int .i64 (.ofNat 9),.int .i64 (.ofNat 13),.int .i64 (.ofNat 29),.int .i64 (.ofNat 31),.int .i64 (.ofNat 0),.int .i64 (.ofNat 0),.int .i64 (.ofNat 0)],.bool false]),
  (117, [.int .i64 (.ofNat 10),.int .u32 (.ofNat 3053453229)], .tup [.agg [.int .i64 (.ofNat 10),.int .i64 (.ofNat 13),.int .i64 (.ofNat 29),.int .i64 (.ofNat 31),.int .i64 (.ofNat 0),.int .i64 (.ofNat 0),.int .i64 (.ofNat 0)],.bool false]),
  (117, [.int .i64 (.ofNat 11),.int .u32 (.ofNat 3053453229)], .tup [.agg [.int .i64 (.ofNat 11),.int .i64 (.ofNat 13),.int .i64 (.ofNat 29),.int .i64 (.ofNat 31),.int .i64 (.ofNat 0),.int .i64 (.ofNat 0),.int .i64 (.ofNat 0)],.bool false]),
  (117, [.int .i64 (.ofNat 12),.int .u32 (.ofNat 3053453229)], .tup [.agg [.int .i64 (.ofNat 12),.int .i64 (.ofNat 13),.int .i64 (.ofNat 0),.int .i64 (.ofNat 0),.int .i64 (.ofNat 2),.int .i64 (.ofNat 0),.int .i64 (.ofNat 0)],.bool false]),
  (117, [.int .i64 (.ofNat 14),.int .u32 (.ofNat 3053453229)], .tup [.agg [.int .i64 (.ofNat 14),.int .i64 (.ofNat 0),.int .i64 (.ofNat 0),.int .i64 (.ofNat 0),.int .i64 (.ofNat 1),.int .i64 (.ofNat 0),.int .i64 (.negSucc 2)],.bool false]),
  (117, [.int .i64 (.ofNat 15),.int .u32 (.ofNat 3053453229)], .tup [.agg [.int .i64 (.ofNat 15),.int .i64 (.ofNat 13),.int .i64 (.ofNat 0),.int .i64 (.ofNat 0),.int .i64 (.ofNat 0),.int .i64 (.ofNat 0),.int .i64 (.negSucc 2)],.bool false]),
  (117, [.int .i64 (.ofNat 16),.int .u32 (.ofNat 3053453229)], .tup [.agg [.int .i64 (.ofNat 16),.int .i64 (.ofNat 13),.int .i64 (.ofNat 0),.int .i64 (.ofNat 0),.int .i64 (.ofNat 0),.int .i64 (.ofNat 0),.int .i64 (.negSucc 2)],.bool true]),
  (117, [.int .i64 (.ofNat 1),.int .u32 (.ofNat 2853045218)], .tup [.agg [.int .i64 (.ofNat 1),.int .i64 (.ofNat 2),.int .i64 (.ofNat 0),.int .i64 (.ofNat 0),.int .i64 (.ofNat 0),.int .i64 (.ofNat 0),.int .i64 (.ofNat 28703)],.bool false]),
  (117, [.int .i64 (.ofNat 2),.int .u32 (.ofNat 2853045218)], .tup [.agg [.int .i64 (.ofNat 2),.int .i64 (.ofNat 2),.int .i64 (.ofNat 0),.int .i64 (.ofNat 0),.int .i64 (.ofNat 0),.int .i64 (.ofNat 0),.int .i64 (.ofNat 28703)],.bool false]),
  (117, [.int .i64 (.ofNat 3),.int .u32 (.ofNat 2853045218)], .tup [.agg [.int .i64 (.ofNat 3),.int .i64 (.ofNat 2),.int .i64 (.ofNat 31),.int .i64 (.ofNat 14),.int .i64 (.ofNat 0),.int .i64 (.ofNat 0),.int .i64 (.ofNat 0)],.bool false]),
  (117, [.int .i64 (.ofNat 4),.int .u32 (.ofNat 2853045218)], .tup [.agg [.int .i64 (.ofNat 4),.int .i64 (.ofNat 2),.int .i64 (.ofNat 31),.int .i64 (.ofNat 14),.int .i64 (.ofNat 0),.int .i64 (.ofNat 0),.int .i64 (.ofNat 0)],.bool false]),
  (117, [.int .i64 (.ofNat 5),.int .u32 (.ofNat 2853045218)], .tup [.agg [.int .i64 (.ofNat 5),.int .i64 (.ofNat 2),.int .i64 (.ofNat 31),.int .i64 (.ofNat 14),.int .i64 (.ofNat 0),.int .i64 (.ofNat 0),.int .i64 (.ofNat 0)],.bool false]),
  (117, [.int .i64 (.ofNat 6),.int .u32 (.ofNat 2853045218)], .tup [.agg [.int .i64 (.ofNat 6),.int .i64 (.ofNat 2),.int .i64 (.ofNat 31),.int .i64 (.ofNat 14),.int .i64 (.ofNat 0),.int .i64 (.ofNat 0),.int .i64 (.ofNat 0)],.bool false]),
  (117, [.int .i64 (.ofNat 7),.int .u32 (.ofNat 2853045218)], .tup [.agg [.int .i64 (.ofNat 7),.int .i64 (.ofNat 2),.int .i64 (.ofNat 31),.int .i64 (.ofNat 14),.int .i64 (.ofNat 0),.int .i64 (.ofNat 0),.int .i64 (.ofNat 0)],.bool true]),
  (117, [.int .i64 (.ofNat 1),.int .u32 (.ofNat 2852258784)], .tup [.agg [.int .i64 (.ofNat 1),.int .i64 (.ofNat 0),.int .i64 (.ofNat 0),.int .i64 (.ofNat 0),.int .i64 (.ofNat 0),.int .i64 (.ofNat 0),.int .i64 (.ofNat 4127)],.bool false]),
  (117, [.int .i64 (.ofNat 2),.int .u32 (.ofNat 2852258784)], .tup [.agg [.int .i64 (.ofNat 2),.int .i64 (.ofNat 0),.int .i64 (.ofNat 0),.int .i64 (.ofNat 0),.int .i64 (.ofNat 0),.int .i64 (.ofNat 0),.int .i64 (.ofNat 4127)],.bool false]),
  (117, [.int .i64 (.ofNat 3),.int .u32 (.ofNat 2852258784)], .tup [.agg [.int .i64 (.ofNat 3),.int .i64 (.ofNat 0),.int .i64 (.ofNat 31),.int .i64 (.ofNat 2),.int .i64 (.ofNat 0),.int .i64 (.ofNat 0),.int .i64 (.ofNat 0)],.bool false]),
  (117, [.int .i64 (.ofNat 4),.int .u32 (.ofNat 2852258784)], .tup [.agg [.int .i64 (.ofNat 4),.int .i64 (.ofNat 0),.int .i64 (.ofNat 31),.int .i64 (.ofNat 2),.int .i64 (.ofNat 0),.int .i64 (.ofNat 0),.int .i64 (.ofNat 0)],.bool false]),
  (117, [.int .i64 (.ofNat 5),.int .u32 (.ofNat 2852258784)], .tup [.agg [.int .i64 (.ofNat 5),.int .i64 (.ofNat 0),.int .i64 (.ofNat 31),.int .i64 (.ofNat 2),.int .i64 (.ofNat 0),.int .i64 (.ofNat 0),.int .i64 (.ofNat 0)],.bool false]),
  (117, [.int .i64 (.ofNat 6),.int .u32 (.ofNat 2852258784)], .tup [.agg [.int .i64 (.ofNat 6),.int .i64 (.ofNat 0),.int .i64 (.ofNat 31),.int .i64 (.ofNat 2),.int .i64 (.ofNat 0),.int .i64 (.ofNat 0),.int .i64 (.ofNat 0)],.bool false]),
  (117, [.int .i64 (.ofNat 7),.int .u32 (.ofNat 2852258784)], .tup [.agg [.int .i64 (.ofNat 7),.int .i64 (.ofNat 0),.int .i64 (.ofNat 31),.int .i64 (.ofNat 2),.int .i64 (.ofNat 0),.int .i64 (.ofNat 0),.int .i64 (.ofNat 0)],.bool true]),
  (117, [.int .i64 (.ofNat 1),.int .u32 (.ofNat 3556769825)], .tup [.agg [.int .i64 (.ofNat 1),.int .i64 (.ofNat 1),.int .i64 (.ofNat 0),.int .i64 (.ofNat 0),.int .i64 (.ofNat 0),.int .i64 (.ofNat 0),.int .i64 (.ofNat 1)],.bool false]),
  (117, [.int .i64 (.ofNat 2),.int .u32 (.ofNat 3556769825)], .tup [.agg [.int .i64 (.ofNat 2),.int .i64 (.ofNat 1),.int .i64 (.ofNat 0),.int .i64 (.ofNat 0),.int .i64 (.ofNat 0),.int .i64 (.ofNat 0),.int .i64 (.ofNat 1)],.bool false]),
  (117, [.int .i64 (.ofNat 3),.int .u32 (.ofNat 3556769825)], .tup [.agg [.int .i64 (.ofNat 3),.int .i64 (.ofNat 1),.int .i64 (.ofNat 1),.int .i64 (.ofNat 0),.int .i64 (.ofNat 0),.int .i64 (.ofNat 0),.int .i64 (.ofNat 0)],.bool false]),
  (117, [.int .i64 (.ofNat 4),.int .u32 (.ofNat 3556769825)], .tup [.agg [.int .i64 (.ofNat 4),.int .i64 (.ofNat 1),.int .i64 (.ofNat 1),.int .i64 (.ofNat 0),.int .i64 (.ofNat 0),.int .i64 (.ofNat 0),.int .i64 (.ofNat 0)],.bool false]),
  (117, [.int .i64 (.ofNat 5),.int .u32 (.ofNat 3556769825)], .tup [.agg [.int .i64 (.ofNat 5),.int .i64 (.ofNat 1),.int .i64 (.ofNat 1),.int .i64 (.ofNat 0),.int .i64 (.ofNat 0),.int .i64 (.ofNat 0),.int .i64 (.ofNat 0)],.bool false]),
  (117, [.int .i64 (.ofNat 6),.int .u32 (.ofNat 3556769825)], .tup [.agg [.int .i64 (.ofNat 6),.int .i64 (.ofNat 1),.int .i64 (.ofNat 1),.int .i64 (.ofNat 0),.int .i64 (.ofNat 0),.int .i64 (.ofNat 0),.int .i64 (.ofNat 0)],.bool false]),
  (117, [.int .i64 (.ofNat 7),.int .u32 (.ofNat 3556769825)], .tup [.agg [.int .i64 (.ofNat 7),.int .i64 (.ofNat 1),.int .i64 (.ofNat 1),.int .i64 (.ofNat 0),.int .i64 (.ofNat 0),.int .i64 (.ofNat 0),.int .i64 (.ofNat 0)],.bool false]),
  (117, [.int .i64 (.ofNat 8),.int .u32 (.ofNat 3556769825)], .tup [.agg [.int .i64 (.ofNat 8),.int .i64 (.ofNat 1),.int .i64 (.ofNat 1),.int .i64 (.ofNat 0),.int .i64 (.ofNat 0),.int .i64 (.ofNat 0),.int .i64 (.ofNat 0)],.bool false]),
  (117, [.int .i64 (.ofNat 9),.int .u32 (.ofNat 3556769825)], .tup [.agg [.int .i64 (.ofNat 9),.int .i64 (.ofNat 1),.int .i64 (.ofNat 1),.int .i64 (.ofNat 0),.int .i64 (.ofNat 0),.int .i64 (.ofNat 0),.int .i64 (.ofNat 0)],.bool false]),
  (117, [.int .i64 (.ofNat 10),.int .u32 (.ofNat 3556769825)], .tup [.agg [.int .i64 (.ofNat 10),.int .i64 (.ofNat 1),.int .i64 (.ofNat 1),.int .i64 (.ofNat 0),.int .i64 (.ofNat 0),.int .i64 (.ofNat 0),.int .i64 (.ofNat 0)],.bool false]),
  (117, [.int .i64 (.ofNat 11),.int .u32 (.ofNat 3556769825)], .tup [.agg [.int .i64 (.ofNat 11),.int .i64 (.ofNat 1),.int .i64 (.ofNat 1),.int .i64 (.ofNat 0),.int .i64 (.ofNat 0),.int .i64 (.ofNat 0),.int .i64 (.ofNat 0)],.bool false]),
  (117, [.int .i64 (.ofNat 12),.int .u32 (.ofNat 3556769825)], .tup [.agg [.int .i64 (.ofNat 12),.int .i64 (.ofNat 1),.int .i64 (.ofNat 0),.int .i64 (.ofNat 0),.int .i64 (.ofNat 1),.int .i64 (.ofNat 0),.int .i64 (.ofNat 0)],.bool false]),
  (117, [.int .i64 (.ofNat 14),.int .u32 (.ofNat 3556769825)], .tup [.agg [.int .i64 (.ofNat 14),.int .i64 (.ofNat 0),.int .i64 (.ofNat 0),.int .i64 (.ofNat 0),.int .i64 (.ofNat 1),.int .i64 (.ofNat 0),.int .i64 (.ofNat 1)],.bool false]),
  (117, [.int .i64 (.ofNat 15),.int .u32 (.ofNat 3556769825)], .tup [.agg [.int .i64 (.ofNat 15),.int .i64 (.ofNat 1),.int .i64 (.ofNat 0),.int .i64 (.ofNat 0),.int .i64 (.ofNat 0),.int .i64 (.ofNat 0),.int .i64 (.ofNat 1)],.bool false]),
  (117, [.int .i64 (.ofNat 16),.int .u32 (.ofNat 3556769825)], .tup [.agg [.int .i64 (.ofNat 16),.int .i64 (.ofNat 1),.int .i64 (.ofNat 0),.int .i64 (.ofNat 0),.int .i64 (.ofNat 0),.int .i64 (.ofNat 0),.int .i64 (.ofNat 1)],.bool false]),
  (117, [.int .i64 (.ofNat 17),.int .u32 (.ofNat 3556769825)], .tup [.agg [.int .i64 (.ofNat 17),.int .i64 (.ofNat 1),.int .i64 (.ofNat 1),.int .i64 (.ofNat 0),.int .i64 (.ofNat 0),.int .i64 (.ofNat 3),.int .i64 (.ofNat 0)],.bool false]),
  (117, [.int .i64 (.ofNat 18),.int .u32 (.ofNat 3556769825)], .tup [.agg [.int .i64 (.ofNat 18),.int .i64 (.ofNat 1),.int .i64 (.ofNat 1),.int .i64 (.ofNat 0),.int .i64 (.ofNat 0),.int .i64 (.ofNat 3),.int .i64 (.ofNat 0)],.bool false]),
  (117, [.int .i64 (.ofNat 19),.int .u32 (.ofNat 3556769825)], .tup [.agg [.int .i64 (.ofNat 19),.int .i64 (.ofNat 1),.int .i64 (.ofNat 1),.int .i64 (.ofNat 0),.int .i64 (.ofNat 0),.int .i64 (.ofNat 3),.int .i64 (.ofNat 0)],.bool false]),
  (117, [.int .i64 (.ofNat 20),.int .u32 (.ofNat 3556769825)], .tup [.agg [.int .i64 (.ofNat 20),.int .i64 (.ofNat 1),.int .i64 (.ofNat 1),.int .i64 (.ofNat 0),.int .i64 (.ofNat 0),.int .i64 (.ofNat 3),.int .i64 (.ofNat 0)],.bool false]),
  (117, [.int .i64 (.ofNat 22),.int .u32 (.ofNat 3556769825)], .tup [.agg [.int .i64 (.ofNat 22),.int .i64 (.ofNat 1),.int .i64 (.ofNat 1),.int .i64 (.ofNat 0),.int .i64 (.ofNat 0),.int .i64 (.ofNat 3),.int .i64 (.ofNat 0)],.bool false]),
  (117, [.int .i64 (.ofNat 24),.int .u32 (.ofNat 3556769825)], .tup [.agg [.int .i64 (.ofNat 24),.int .i64 (.ofNat 1),.int .i64 (.ofNat 1),.int .i64 (.ofNat 0),.int .i64 (.ofNat 0),.int .i64 (.ofNat 3),.int .i64 (.ofNat 0)],.bool false]),
  (117, [.int .i64 (.ofNat 25),.int .u32 (.ofNat 3556769825)], .tup [.agg [.int .i64 (.ofNat 25),.int .i64 (.ofNat 1),.int .i64 (.ofNat 1),.int .i64 (.ofNat 0),.int .i64 (.ofNat 0),.int .i64 (.ofNat 0),.int .i64 (.ofNat 0)],.bool false]),
  (117, [.int .i64 (.ofNat 26),.int .u32 (.ofNat 3556769825)], .tup [.agg [.int .i64 (.ofNat 26),.int .i64 (.ofNat 1),.int .i64 (.ofNat 1),.int .i64 (.ofNat 0),.int .i64 (.ofNat 0),.int .i64 (.ofNat 0),.int .i64 (.ofNat 0)],.bool false]),
  (117, [.int .i64 (.ofNat 27),.int .u32 (.ofNat 3556769825)], .tup [.agg [.int .i64 (.ofNat 27),.int .i64 (.ofNat 1),.int .i64 (.ofNat 1),.int .i64 (.ofNat 0),.int .i64 (.ofNat 0),.int .i64 (.ofNat 0),.int .i64 (.ofNat 0)],.bool false]),
  (117, [.int .i64 (.ofNat 28),.int .u32 (.ofNat 3556769825)], .tup [.agg [.int .i64 (.ofNat 28),.int .i64 (.ofNat 1),.int .i64 (.ofNat 1),.int .i64 (.ofNat 0),.int .i64 (.ofNat 0),.int .i64 (.ofNat 0),.int .i64 (.ofNat 0)],.bool false]),
  (117, [.int .i64 (.ofNat 1),.int .u32 (.ofNat 3556769793)], .tup [.agg [.int .i64 (.ofNat 1),.int .i64 (.ofNat 1),.int .i64 (.ofNat 0),.int .i64 (.ofNat 0),.int .i64 (.ofNat 0),.int .i64 (.ofNat 0),.int .i64 (.ofNat 0)],.bool false]),
  (117, [.int .i64 (.ofNat 2),.int .u32 (.ofNat 3556769793)], .tup [.agg [.int .i64 (.ofNat 2),.int .i64 (.ofNat 1),.int .i64 (.ofNat 0),.int .i64 (.ofNat 0),.int .i64 (.ofNat 0),.int .i64 (.ofNat 0),.int .i64 (.ofNat 0)],.bool false]),
  (117, [.int .i64 (.ofNat 3),.int .u32 (.ofNat 3556769793)], .tup [.agg [.int .i64 (.ofNat 3),.int .i64 (.ofNat 1),.int .i64 (.ofNat 0),.int .i64 (.ofNat 0),.int .i64 (.ofNat 0),.int .i64 (.ofNat 0),.int .i64 (.ofNat 0)],.bool false]),
  (117, [.int .i64 (.ofNat 4),.int .u32 (.ofNat 3556769793)], .tup [.agg [.int .i64 (.ofNat 4),.int .i64 (.ofNat 1),.int .i64 (.ofNat 0),.int .i64 (.ofNat 0),.int .i64 (.ofNat 0),.int .i64 (.ofNat 0),.int .i64 (.ofNat 0)],.bool false]),
  (117, [.int .i64 (.ofNat 5),.int .u32 (.ofNat 3556769793)], .tup [.agg [.int .i64 (.ofNat 5),.int .i64 (.ofNat 1),.int .i64 (.ofNat 0),.int .i64 (.ofNat 0),.int .i64 (.ofNat 0),.int .i64 (.ofNat 0),.int .i64 (.ofNat 0)],.bool false]),
  (117, [.int .i64 (.ofNat 6),.int .u32 (.ofNat 3556769793)], .tup [.agg [.int .i64 (.ofNat 6),.int .i64 (.ofNat 1),.int .i64 (.ofNat 0),.int .i64 (.ofNat 0),.int .i64 (.ofNat 0),.int .i64 (.ofNat 0),.int .i64 (.ofNat 0)],.bool false]),
  (117, [.int .i64 (.ofNat 7),.int .u32 (.ofNat 3556769793)], .tup [.agg [.int .i64 (.ofNat 7),.int .i64 (.ofNat 1),.int .i64 (.ofNat 0),.int .i64 (.ofNat 0),.int .i64 (.ofNat 0),.int .i64 (.ofNat 0),.int .i64 (.ofNat 0)],.bool false]),
  (117, [.int .i64 (.ofNat 8),.int .u32 (.ofNat 3556769793)], .tup [.agg [.int .i64 (.ofNat 8),.int .i64 (.ofNat 1),.int .i64 (.ofNat 0),.int .i64 (.ofNat 0),.int .i64 (.ofNat 0),.int .i64 (.ofNat 0),.int .i64 (.ofNat 0)],.bool false]),
  (117, [.int .i64 (.ofNat 9),.int .u32 (.ofNat 3556769793)], .tup [.agg [.int .i64 (.ofNat 9),.int .i64 (.ofNat 1),.int .i64 (.ofNat 0),.int .i64 (.ofNat 0),.int .i64 (.ofNat 0),.int .i64 (.ofNat 0),.int .i64 (.ofNat 0)],.bool false]),
  (117, [.int .i64 (.ofNat 10),.int .u32 (.ofNat 3556769793)], .tup [.agg [.int .i64 (.ofNat 10),.int .i64 (.ofNat 1),.int .i64 (.ofNat 0),.int .i64 (.ofNat 0),.int .i64 (.ofNat 0),.int .i64 (.ofNat 0),.int .i64 (.ofNat 0)],.bool false]),
  (117, [.int .i64 (.ofNat 11),.int .u32 (.ofNat 3556769793)], .tup [.agg [.int .i64 (.ofNat 11),.int .i64 (.ofNat 1),.int .i64 (.ofNat 0),.int .i64 (.ofNat 0),.int .i64 (.ofNat 0),.int .i64 (.ofNat 0),.int .i64 (.ofNat 0)],.bool false]),
  (117, [.int .i64 (.ofNat 12),.int .u32 (.ofNat 3556769793)], .tup [.agg [.int .i64 (.ofNat 12),.int .i64 (.ofNat 1),.int .i64 (.ofNat 0),.int .i64 (.ofNat 0),.int .i64 (.ofNat 1),.int .i64 (.ofNat 0),.int .i64 (.ofNat 0)],.bool false]),
  (117, [.int .i64 (.ofNat 14),.int .u32 (.ofNat 3556769793)], .tup [.agg [.int .i64 (.ofNat 14),.int .i64 (.ofNat 0),.int .i64 (.ofNat 0),.int .i64 (.ofNat 0),.int .i64 (.ofNat 1),.int .i64 (.ofNat 0),.int .i64 (.ofNat 0)],.bool false]),
  (117, [.int .i64 (.ofNat 15),.int .u32 (.ofNat 3556769793)], .tup [.agg [.int .i64 (.ofNat 15),.int .i64 (.ofNat 1),.int .i64 (.ofNat 0),.int .i64 (.ofNat 0),.int .i64 (.ofNat 0),.int .i64 (.ofNat 0),.int .i64 (.ofNat 0)],.bool false]),
  (117, [.int .i64 (.ofNat 16),.int .u32 (.ofNat 3556769793)], .tup [.agg [.int .i64 (.ofNat 16),.int .i64 (.ofNat 1),.int .i64 (.ofNat 0),.int .i64 (.ofNat 0),.int .i64 (.ofNat 0),.int .i64 (.ofNat 0),.int .i64 (.ofNat 0)],.bool false])]
def RbM203 : List (Nat × List AV × AV) := [
  (117, [.int .i64 (.ofNat 17),.int .u32 (.ofNat 3556769793)], .tup [.agg [.int .i64 (.ofNat 17),.int .i64 (.ofNat 1),.int .i64 (.ofNat 0),.int .i64 (.ofNat 0),.int .i64 (.ofNat 0),.int .i64 (.ofNat 3),.int .i64 (.ofNat 0)],.bool false]),
  (117, [.int .i64 (.ofNat 18),.int .u32 (.ofNat 3556769793)], .tup [.agg [.int .i64 (.ofNat 18),.int .i64 (.ofNat 1),.int .i64 (.ofNat 0),.int .i64 (.ofNat 0),.int .i64 (.ofNat 0),.int .i64 (.ofNat 3),.int .i64 (.ofNat 0)],.bool false]),
  (117, [.int .i64 (.ofNat 19),.int .u32 (.ofNat 3556769793)], .tup [.agg [.int .i64 (.ofNat 19),.int .i64 (.ofNat 1),.int .i64 (.ofNat 0),.int .i64 (.ofNat 0),.int .i64 (.ofNat 0),.int .i64 (.ofNat 3),.int .i64 (.ofNat 0)],.bool false]),
  (117, [.int .i64 (.ofNat 20),.int .u32 (.ofNat 3556769793)], .tup [.agg [.int .i64 (.ofNat 20),.int .i64 (.ofNat 1),.int .i64 (.ofNat 0),.int .i64 (.ofNat 0),.int .i64 (.ofNat 0),.int .i64 (.ofNat 3),.int .i64 (.ofNat 0)],.bool false]),
  (117, [.int .i64 (.ofNat 22),.int .u32 (.ofNat 3556769793)], .tup [.agg [.int .i64 (.ofNat 22),.int .i64 (.ofNat 1),.int .i64 (.ofNat 0),.int .i64 (.ofNat 0),.int .i64 (.ofNat 0),.int .i64 (.ofNat 3),.int .i64 (.ofNat 0)],.bool false]),
  (117, [.int .i64 (.ofNat 24),.int .u32 (.ofNat 3556769793)], .tup [.agg [.int .i64 (.ofNat 24),.int .i64 (.ofNat 1),.int .i64 (.ofNat 0),.int .i64 (.ofNat 0),.int .i64 (.ofNat 0),.int .i64 (.ofNat 3),.int .i64 (.ofNat 0)],.bool false]),
  (117, [.int .i64 (.ofNat 25),.int .u32 (.ofNat 3556769793)], .tup [.agg [.int .i64 (.ofNat 25),.int .i64 (.ofNat 1),.int .i64 (.ofNat 0),.int .i64 (.ofNat 0),.int .i64 (.ofNat 0),.int .i64 (.ofNat 0),.int .i64 (.ofNat 0)],.bool false]),
  (117, [.int .i64 (.ofNat 26),.int .u32 (.ofNat 3556769793)], .tup [.agg [.int .i64 (.ofNat 26),.int .i64 (.ofNat 1),.int .i64 (.ofNat 0),.int .i64 (.ofNat 0),.int .i64 (.ofNat 0),.int .i64 (.ofNat 0),.int .i64 (.ofNat 0)],.bool false]),
  (117, [.int .i64 (.ofNat 27),.int .u32 (.ofNat 3556769793)], .tup [.agg [.int .i64 (.ofNat 27),.int .i64 (.ofNat 1),.int .i64 (.ofNat 0),.int .i64 (.ofNat 0),.int .i64 (.ofNat 0),.int .i64 (.ofNat 0),.int .i64 (.ofNat 0)],.bool false]),
  (117, [.int .i64 (.ofNat 28),.int .u32 (.ofNat 3556769793)], .tup [.agg [.int .i64 (.ofNat 28),.int .i64 (.ofNat 1),.int .i64 (.ofNat 0),.int .i64 (.ofNat 0),.int .i64 (.ofNat 0),.int .i64 (.ofNat 0),.int .i64 (.ofNat 0)],.bool false])]
def RbM204 : List (Nat × List AV × AV) := [
  (128, [.agg [.int .i64 (.ofNat 2),.int .i64 (.ofNat 4),.bool false,.lst .dead 0 [],.int .i64 (.ofNat 0),.lst .dead 0 []]], .tup [.agg [.int .i64 (.ofNat 4),.int .i64 (.ofNat 4)],.int .i64 (.ofNat 0)]),
  (181, [.lst .dead 1 [.str [120],.int .i64 (.ofNat 2),.int .i64 (.ofNat 4),.bool false,.lst .dead 0 [],.int .i64 (.ofNat 0),.lst .dead 0 []],.agg [.str [120],.lst .dead 0 []]], .tup [.agg [.int .i64 (.ofNat 2),.int .i64 (.ofNat 4),.bool false,.lst .dead 0 [],.int .i64 (.ofNat 0),.lst .dead 0 []],.int .i64 (.ofNat 0)]),
  (116, [.agg [.int .i64 (.ofNat 21),.int .i64 (.ofNat 14),.int .i64 (.ofNat 1),.int .i64 (.ofNat 0),.int .i64 (.ofNat 0),.int .i64 (.ofNat 2),.int .i64 (.ofNat 0)]], .tup [.int .u32 (.ofNat 2287959086),.int .i64 (.ofNat 0)]),
  (116, [.agg [.int .i64 (.ofNat 23),.int .i64 (.ofNat 12),.int .i64 (.ofNat 1),.int .i64 (.ofNat 13),.int .i64 (.ofNat 0),.int .i64 (.ofNat 2),.int .i64 (.ofNat 0)]], .tup [.int .u32 (.ofNat 2282585132),.int .i64 (.ofNat 0)]),
  (174, [.lst .dead 1 [.int .i64 (.ofNat 1),.int .i64 (.ofNat 1),.str [97],.str [],.int .i64 (.ofNat 0),.str [],.lst .dead 0 [],.lst .dead 1 [.int .i64 (.ofNat 6),.int .u64 (.ofNat 0),.str [],.int .i64 (.ofNat 0),.int .i64 (.ofNat 1),.str [120],.lst .dead 0 [],.lst .dead 1 [.int .i64 (.ofNat 1),.int .u64 (.ofNat 5),.str [],.int .i64 (.ofNat 0),.int .i64 (.ofNat 0),.str [],.lst .dead 0 [],.lst .dead 0 []]],.lst .dead 0 [],.lst .dead 0 []]], .int .i64 (.ofNat 1)),
  (117, [.int .i64 (.ofNat 21),.int .u32 (.ofNat 2287959086)], .tup [.agg [.int .i64 (.ofNat 21),.int .i64 (.ofNat 14),.int .i64 (.ofNat 1),.int .i64 (.ofNat 0),.int .i64 (.ofNat 0),.int .i64 (.ofNat 2),.int .i64 (.ofNat 0)],.bool true]),
  (117, [.int .i64 (.ofNat 21),.int .u32 (.ofNat 2282585132)], .tup [.agg [.int .i64 (.ofNat 21),.int .i64 (.ofNat 12),.int .i64 (.ofNat 1),.int .i64 (.ofNat 0),.int .i64 (.ofNat 0),.int .i64 (.ofNat 2),.int .i64 (.ofNat 0)],.bool false]),
  (117, [.int .i64 (.ofNat 23),.int .u32 (.ofNat 2282585132)], .tup [.agg [.int .i64 (.ofNat 23),.int .i64 (.ofNat 12),.int .i64 (.ofNat 1),.int .i64 (.ofNat 13),.int .i64 (.ofNat 0),.int .i64 (.ofNat 2),.int .i64 (.ofNat 0)],.bool true]),
  (77, [.int .u32 (.ofNat 3053453229)], .tup [.agg [.int .i64 (.ofNat 16),.int .i64 (.ofNat 13),.int .i64 (.ofNat 0),.int .i64 (.ofNat 0),.int .i64 (.ofNat 0),.int .i64 (.ofNat 0),.int .i64 (.negSucc 2)],.int .i64 (.ofNat 0)]),
  (117, [.int .i64 (.ofNat 21),.int .u32 (.ofNat 3556769825)], .tup [.agg [.int .i64 (.ofNat 21),.int .i64 (.ofNat 1),.int .i64 (.ofNat 1),.int .i64 (.ofNat 0),.int .i64 (.ofNat 0),.int .i64 (.ofNat 3),.int .i64 (.ofNat 0)],.bool false]),
  (117, [.int .i64 (.ofNat 23),.int .u32 (.ofNat 3556769825)], .tup [.agg [.int .i64 (.ofNat 23),.int .i64 (.ofNat 1),.int .i64 (.ofNat 1),.int .i64 (.ofNat 0),.int .i64 (.ofNat 0),.int .i64 (.ofNat 3),.int .i64 (.ofNat 0)],.bool false]),
  (117, [.int .i64 (.ofNat 21),.int .u32 (.ofNat 3556769793)], .tup [.agg [.int .i64 (.ofNat 21),.int .i64 (.ofNat 1),.int .i64 (.ofNat 0),.int .i64 (.ofNat 0),.int .i64 (.ofNat 0),.int .i64 (.ofNat 3),.int .i64 (.ofNat 0)],.bool false]),
  (117, [.int .i64 (.ofNat 23),.int .u32 (.ofNat 3556769793)], .tup [.agg [.int .i64 (.ofNat 23),.int .i64 (.ofNat 1),.int .i64 (.ofNat 0),.int .i64 (.ofNat 0),.int .i64 (.ofNat 0),.int .i64 (.ofNat 3),.int .i64 (.ofNat 0)],.bool false])]
def RbM205 : List (Nat × List AV × AV) := [
  (100, [.agg [.int .i64 (.ofNat 2),.int .i64 (.ofNat 4),.bool false,.lst .dead 0 [],.int .i64 (.ofNat 0),.lst .dead 0 []]], .tup [.int .i64 (.ofNat 4),.int .i64 (.ofNat 4),.int .i64 (.ofNat 0)]),
  (77, [.int .u32 (.ofNat 2287959086)], .tup [.agg [.int .i64 (.ofNat 21),.int .i64 (.ofNat 14),.int .i64 (.ofNat 1),.int .i64 (.ofNat 0),.int .i64 (.ofNat 0),.int .i64 (.ofNat 2),.int .i64 (.ofNat 0)],.int .i64 (.ofNat 0)]),
  (77, [.int .u32 (.ofNat 2282585132)], .tup [.agg [.int .i64 (.ofNat 23),.int .i64 (.ofNat 12),.int .i64 (.ofNat 1),.int .i64 (.ofNat 13),.int .i64 (.ofNat 0),.int .i64 (.ofNat 2),.int .i64 (.ofNat 0)],.int .i64 (.ofNat 0)]),
  (77, [.int .u32 (.ofNat 3556769825)], .tup [.agg [.int .i64 (.ofNat 31),.int .i64 (.ofNat 0),.int .i64 (.ofNat 0),.int .i64 (.ofNat 0),.int .i64 (.ofNat 0),.int .i64 (.ofNat 0),.int .i64 (.ofNat 1)],.int .i64 (.ofNat 0)]),
  (77, [.int .u32 (.ofNat 3556769793)], .tup [.agg [.int .i64 (.ofNat 31),.int .i64 (.ofNat 0),.int .i64 (.ofNat 0),.int .i64 (.ofNat 0),.int .i64 (.ofNat 0),.int .i64 (.ofNat 0),.int .i64 (.ofNat 0)],.int .i64 (.ofNat 0)])]
def RbM206 : List (Nat × List AV × AV) := [
  (55, [.lst .dead 1 [.str [120],.int .i64 (.ofNat 2),.int .i64 (.ofNat 4),.bool false,.lst .dead 0 [],.int .i64 (.ofNat 0),.lst .dead 0 []]], .int .i64 (.ofNat 0)),
  (73, [.lst .dead 1 [.str [120],.int .i64 (.ofNat 2),.int .i64 (.ofNat 4),.bool false,.lst .dead 0 [],.int .i64 (.ofNat 0),.lst .dead 0 []]], .tup [.lst .dead 1 [.str [120],.int .i64 (.ofNat 65536),.int .i64 (.ofNat 4)],.int .i64 (.ofNat 4),.int .i64 (.ofNat 0)])]
def RbM207 : List (Nat × List AV × AV) := [
  (24, [.agg [.lst .dead 1 [.str [120],.int .i64 (.ofNat 2),.int .i64 (.ofNat 4),.bool false,.lst .dead 0 [],.int .i64 (.ofNat 0),.lst .dead 0 []],.lst .dead 2 [.lst .dead 2 [.int .i64 (.ofNat 1),.int .i64 (.ofNat 1),.str [97],.str [],.int .i64 (.ofNat 0),.str [],.lst .dead 0 [],.lst .dead 1 [.int .i64 (.ofNat 6),.int .u64 (.ofNat 0),.str [],.int .i64 (.ofNat 0),.int .i64 (.ofNat 1),.str [120],.lst .dead 0 [],.lst .dead 1 [.int .i64 (.ofNat 1),.int .u64 (.ofNat 5),.str [],.int .i64 (.ofNat 0),.int .i64 (.ofNat 0),.str [],.lst .dead 0 [],.lst .dead 0 []]],.lst .dead 0 [],.lst .dead 0 [],.int .i64 (.ofNat 10),.int .i64 (.ofNat 1),.str [],.str [],.int .i64 (.ofNat 0),.str [],.lst .dead 0 [],.lst .dead 1 [.int .i64 (.ofNat 2),.int .u64 (.ofNat 0),.str [97],.int .i64 (.ofNat 0),.int .i64 (.ofNat 0),.str [],.lst .dead 0 [],.lst .dead 0 []],.lst .dead 0 [],.lst .dead 0 []],.lst .dead 2 [.int .i64 (.ofNat 1),.int .i64 (.ofNat 1),.str [97],.str [],.int .i64 (.ofNat 0),.str [],.lst .dead 0 [],.lst .dead 1 [.int .i64 (.ofNat 6),.int .u64 (.ofNat 0),.str [],.int .i64 (.ofNat 0),.int .i64 (.ofNat 1),.str [120],.lst .dead 0 [],.lst .dead 1 [.int .i64 (.ofNat 1),.int .u64 (.ofNat 5),.str [],.int .i64 (.ofNat 0),.int .i64 (.ofNat 0),.str [],.lst .dead 0 [],.lst .dead 0 []]],.lst .dead 0 [],.lst .dead 0 [],.int .i64 (.ofNat 10),.int .i64 (.ofNat 1),.str [],.str [],.int .i64 (.ofNat 0),.str [],.lst .dead 0 [],.lst .dead 1 [.int .i64 (.ofNat 2),.int .u64 (.ofNat 0),.str [97],.int .i64 (.ofNat 0),.int .i64 (.ofNat 0),.str [],.lst .dead 0 [],.lst .dead 0 []],.lst .dead 0 [],.lst .dead 0 []]]]], .agg [.int .i64 (.ofNat 0),.int .i64 (.ofNat 0)]),
  (293, [.lst .dead 1 [.str [120],.int .i64 (.ofNat 2),.int .i64 (.ofNat 4),.bool false,.lst .dead 0 [],.int .i64 (.ofNat 0),.lst .dead 0 []],.agg [.str [120],.lst .dead 0 []],.lst .dead 0 []], .tup [.agg [.int .i64 (.ofNat 65536),.int .i64 (.ofNat 4),.int .i64 (.ofNat 2),.bool false,.int .i64 (.ofNat 0),.int .i64 (.ofNat 0)],.int .i64 (.ofNat 0)])]
def RbM208 : List (Nat × List AV × AV) := [
  (58, [.agg [.lst .dead 1 [.str [120],.int .i64 (.ofNat 2),.int .i64 (.ofNat 4),.bool false,.lst .dead 0 [],.int .i64 (.ofNat 0),.lst .dead 0 []],.lst .dead 2 [.lst .dead 2 [.int .i64 (.ofNat 1),.int .i64 (.ofNat 1),.str [97],.str [],.int .i64 (.ofNat 0),.str [],.lst .dead 0 [],.lst .dead 1 [.int .i64 (.ofNat 6),.int .u64 (.ofNat 0),.str [],.int .i64 (.ofNat 0),.int .i64 (.ofNat 1),.str [120],.lst .dead 0 [],.lst .dead 1 [.int .i64 (.ofNat 1),.int .u64 (.ofNat 5),.str [],.int .i64 (.ofNat 0),.int .i64 (.ofNat 0),.str [],.lst .dead 0 [],.lst .dead 0 []]],.lst .dead 0 [],.lst .dead 0 [],.int .i64 (.ofNat 10),.int .i64 (.ofNat 1),.str [],.str [],.int .i64 (.ofNat 0),.str [],.lst .dead 0 [],.lst .dead 1 [.int .i64 (.ofNat 2),.int .u64 (.ofNat 0),.str [97],.int .i64 (.ofNat 0),.int .i64 (.ofNat 0),.str [],.lst .dead 0 [],.lst .dead 0 []],.lst .dead 0 [],.lst .dead 0 []],.lst .dead 2 [.int .i64 (.ofNat 1),.int .i64 (.ofNat 1),.str [97],.str [],.int .i64 (.ofNat 0),.str [],.lst .dead 0 [],.lst .dead 1 [.int .i64 (.ofNat 6),.int .u64 (.ofNat 0),.str [],.int .i64 (.ofNat 0),.int .i64 (.ofNat 1),.str [120],.lst .dead 0 [],.lst .dead 1 [.int .i64 (.ofNat 1),.int .u64 (.ofNat 5),.str [],.int .i64 (.ofNat 0),.int .i64 (.ofNat 0),.str [],.lst .dead 0 [],.lst .dead 0 []]],.lst .dead 0 [],.lst .dead 0 [],.int .i64 (.ofNat 10),.int .i64 (.ofNat 1),.str [],.str [],.int .i64 (.ofNat 0),.str [],.lst .dead 0 [],.lst .dead 1 [.int .i64 (.ofNat 2),.int .u64 (.ofNat 0),.str [97],.int .i64 (.ofNat 0),.int .i64 (.ofNat 0),.str [],.lst .dead 0 [],.lst .dead 0 []],.lst .dead 0 [],.lst .dead 0 []]]],.int .i64 (.ofNat 0)], .tup [.lst .dead 5 [.int .i64 (.ofNat 1),.int .i64 (.ofNat 0),.int .i64 (.negSucc 0),.int .i64 (.negSucc 0),.int .i64 (.negSucc 0),.int .i64 (.negSucc 0),.int .u64 (.ofNat 5),.int .i64 (.ofNat 0),.int .i64 (.ofNat 0),.int .i64 (.ofNat 0),.int .i64 (.ofNat 0),.int .i64 (.ofNat 0),.int .i64 (.ofNat 1),.int .i64 (.ofNat 1),.int .i64 (.ofNat 1),.int .i64 (.negSucc 0),.int .i64 (.negSucc 0),.int .i64 (.negSucc 0),.int .i64 (.negSucc 0),.int .u64 (.ofNat 65536),.int .i64 (.ofNat 0),.int .i64 (.ofNat 0),.int .i64 (.ofNat 0),.int .i64 (.ofNat 0),.int .i64 (.ofNat 0),.int .i64 (.ofNat 1),.int .i64 (.ofNat 8),.int .i64 (.ofNat 2),.int .i64 (.negSucc 0),.int .i64 (.ofNat 1),.int .i64 (.ofNat 0),.int .i64 (.negSucc 0),.int .u64 (.ofNat 0),.int .i64 (.ofNat 0),.int .i64 (.ofNat 4),.int .i64 (.ofNat 1),.int .i64 (.ofNat 0),.int .i64 (.ofNat 1),.int .i64 (.ofNat 1),.int .i64 (.ofNat 2),.int .i64 (.ofNat 3),.int .i64 (.negSucc 0),.int .i64 (.ofNat 2),.int .i64 (.negSucc 0),.int .i64 (.negSucc 0),.int .u64 (.ofNat 0),.int .i64 (.ofNat 0),.int .i64 (.ofNat 0),.int .i64 (.ofNat 0),.int .i64 (.ofNat 0),.int .i64 (.ofNat 0),.int .i64 (.ofNat 1),.int .i64 (.ofNat 18),.int .i64 (.negSucc 0),.int .i64 (.negSucc 0),.int .i64 (.ofNat 3),.int .i64 (.negSucc 0),.int .i64 (.negSucc 0),.int .u64 (.ofNat 0),.int .i64 (.ofNat 0),.int .i64 (.ofNat 0),.int .i64 (.ofNat 0),.int .i64 (.ofNat 0),.int .i64 (.ofNat 0),.int .i64 (.ofNat 1)],.int .i64 (.ofNat 4),.agg [.int .i64 (.ofNat 0),.int .i64 (.ofNat 0)]]),
  (58, [.agg [.lst .dead 1 [.str [120],.int .i64 (.ofNat 2),.int .i64 (.ofNat 4),.bool false,.lst .dead 0 [],.int .i64 (.ofNat 0),.lst .dead 0 []],.lst .dead 2 [.lst .dead 2 [.int .i64 (.ofNat 1),.int .i64 (.ofNat 1),.str [97],.str [],.int .i64 (.ofNat 0),.str [],.lst .dead 0 [],.lst .dead 1 [.int .i64 (.ofNat 6),.int .u64 (.ofNat 0),.str [],.int .i64 (.ofNat 0),.int .i64 (.ofNat 1),.str [120],.lst .dead 0 [],.lst .dead 1 [.int .i64 (.ofNat 1),.int .u64 (.ofNat 5),.str [],.int .i64 (.ofNat 0),.int .i64 (.ofNat 0),.str [],.lst .dead 0 [],.lst .dead 0 []]],.lst .dead 0 [],.lst .dead 0 [],.int .i64 (.ofNat 10),.int .i64 (.ofNat 1),.str [],.str [],.int .i64 (.ofNat 0),.str [],.lst .dead 0 [],.lst .dead 1 [.int .i64 (.ofNat 2),.int .u64 (.ofNat 0),.str [97],.int .i64 (.ofNat 0),.int .i64 (.ofNat 0),.str [],.lst .dead 0 [],.lst .dead 0 []],.lst .dead 0 [],.lst .dead 0 []],.lst .dead 2 [.int .i64 (.ofNat 1),.int .i64 (.ofNat 1),.str [97],.str [],.int .i64 (.ofNat 0),.str [],.lst .dead 0 [],.lst .dead 1 [.int .i64 (.ofNat 6),.int .u64 (.ofNat 0),.str [],.int .i64 (.ofNat 0),.int .i64 (.ofNat 1),.str [120],.lst .dead 0 [],.lst .dead 1 [.int .i64 (.ofNat 1),.int .u64 (.ofNat 5),.str [],.int .i64 (.ofNat 0),.int .i64 (.ofNat 0),.str [],.lst .dead 0 [],.lst .dead 0 []]],.lst .dead 0 [],.lst .dead 0 [],.int .i64 (.ofNat 10),.int .i64 (.ofNat 1),.str [],.str [],.int .i64 (.ofNat 0),.str [],.lst .dead 0 [],.lst .dead 1 [.int .i64 (.ofNat 2),.int .u64 (.ofNat 0),.str [97],.int .i64 (.ofNat 0),.int .i64 (.ofNat 0),.str [],.lst .dead 0 [],.lst .dead 0 []],.lst .dead 0 [],.lst .dead 0 []]]],.int .i64 (.ofNat 1)], .tup [.lst .dead 5 [.int .i64 (.ofNat 1),.int .i64 (.ofNat 0),.int .i64 (.negSucc 0),.int .i64 (.negSucc 0),.int .i64 (.negSucc 0),.int .i64 (.negSucc 0),.int .u64 (.ofNat 5),.int .i64 (.ofNat 0),.int .i64 (.ofNat 0),.int .i64 (.ofNat 0),.int .i64 (.ofNat 0),.int .i64 (.ofNat 0),.int .i64 (.ofNat 1),.int .i64 (.ofNat 1),.int .i64 (.ofNat 1),.int .i64 (.negSucc 0),.int .i64 (.negSucc 0),.int .i64 (.negSucc 0),.int .i64 (.negSucc 0),.int .u64 (.ofNat 65536),.int .i64 (.ofNat 0),.int .i64 (.ofNat 0),.int .i64 (.ofNat 0),.int .i64 (.ofNat 0),.int .i64 (.ofNat 0),.int .i64 (.ofNat 1),.int .i64 (.ofNat 8),.int .i64 (.ofNat 2),.int .i64 (.negSucc 0),.int .i64 (.ofNat 1),.int .i64 (.ofNat 0),.int .i64 (.negSucc 0),.int .u64 (.ofNat 0),.int .i64 (.ofNat 0),.int .i64 (.ofNat 4),.int .i64 (.ofNat 1),.int .i64 (.ofNat 0),.int .i64 (.ofNat 1),.int .i64 (.ofNat 1),.int .i64 (.ofNat 2),.int .i64 (.ofNat 3),.int .i64 (.negSucc 0),.int .i64 (.ofNat 2),.int .i64 (.negSucc 0),.int .i64 (.negSucc 0),.int .u64 (.ofNat 0),.int .i64 (.ofNat 0),.int .i64 (.ofNat 0),.int .i64 (.ofNat 0),.int .i64 (.ofNat 0),.int .i64 (.ofNat 0),.int .i64 (.ofNat 1),.int .i64 (.ofNat 18),.int .i64 (.negSucc 0),.int .i64 (.negSucc 0),.int .i64 (.ofNat 3),.int .i64 (.negSucc 0),.int .i64 (.negSucc 0),.int .u64 (.ofNat 0),.int .i64 (.ofNat 0),.int .i64 (.ofNat 0),.int .i64 (.ofNat 0),.int .i64 (.ofNat 0),.int .i64 (.ofNat 0),.int .i64 (.ofNat 1)],.int .i64 (.ofNat 4),.agg [.int .i64 (.ofNat 0),.int .i64 (.ofNat 0)]]),
  (95, [.agg [.lst .dead 1 [.str [120],.int .i64 (.ofNat 2),.int .i64 (.ofNat 4),.bool false,.lst .dead 0 [],.int .i64 (.ofNat 0),.lst .dead 0 []],.lst .dead 2 [.lst .dead 2 [.int .i64 (.ofNat 1),.int .i64 (.ofNat 1),.str [97],.str [],.int .i64 (.ofNat 0),.str [],.lst .dead 0 [],.lst .dead 1 [.int .i64 (.ofNat 6),.int .u64 (.ofNat 0),.str [],.int .i64 (.ofNat 0),.int .i64 (.ofNat 1),.str [120],.lst .dead 0 [],.lst .dead 1 [.int .i64 (.ofNat 1),.int .u64 (.ofNat 5),.str [],.int .i64 (.ofNat 0),.int .i64 (.ofNat 0),.str [],.lst .dead 0 [],.lst .dead 0 []]],.lst .dead 0 [],.lst .dead 0 [],.int .i64 (.ofNat 10),.int .i64 (.ofNat 1),.str [],.str [],.int .i64 (.ofNat 0),.str [],.lst .dead 0 [],.lst .dead 1 [.int .i64 (.ofNat 2),.int .u64 (.ofNat 0),.str [97],.int .i64 (.ofNat 0),.int .i64 (.ofNat 0),.str [],.lst .dead 0 [],.lst .dead 0 []],.lst .dead 0 [],.lst .dead 0 []],.lst .dead 2 [.int .i64 (.ofNat 1),.int .i64 (.ofNat 1),.str [97],.str [],.int .i64 (.ofNat 0),.str [],.lst .dead 0 [],.lst .dead 1 [.int .i64 (.ofNat 6),.int .u64 (.ofNat 0),.str [],.int .i64 (.ofNat 0),.int .i64 (.ofNat 1),.str [120],.lst .dead 0 [],.lst .dead 1 [.int .i64 (.ofNat 1),.int .u64 (.ofNat 5),.str [],.int .i64 (.ofNat 0),.int .i64 (.ofNat 0),.str [],.lst .dead 0 [],.lst .dead 0 []]],.lst .dead 0 [],.lst .dead 0 [],.int .i64 (.ofNat 10),.int .i64 (.ofNat 1),.str [],.str [],.int .i64 (.ofNat 0),.str [],.lst .dead 0 [],.lst .dead 1 [.int .i64 (.ofNat 2),.int .u64 (.ofNat 0),.str [97],.int .i64 (.ofNat 0),.int .i64 (.ofNat 0),.str [],.lst .dead 0 [],.lst .dead 0 []],.lst .dead 0 [],.lst .dead 0 []]]],.int .i64 (.ofNat 0),.lst .dead 0 [],.int .i64 (.ofNat 65536)], .tup [.agg [.int .i64 (.ofNat 3),.int .i64 (.ofNat 1),.int .i64 (.ofNat 1),.int .i64 (.ofNat 65536),.int .i64 (.ofNat 4),.int .i64 (.ofNat 2),.bool false,.int .i64 (.ofNat 0),.int .i64 (.ofNat 0),.int .i64 (.ofNat 1),.int .i64 (.ofNat 6),.int .u64 (.ofNat 5),.int .u64 (.ofNat 0)],.int .i64 (.ofNat 0),.lst .dead 0 [],.int .i64 (.ofNat 0)]),
  (95, [.agg [.lst .dead 1 [.str [120],.int .i64 (.ofNat 2),.int .i64 (.ofNat 4),.bool false,.lst .dead 0 [],.int .i64 (.ofNat 0),.lst .dead 0 []],.lst .dead 2 [.lst .dead 2 [.int .i64 (.ofNat 1),.int .i64 (.ofNat 1),.str [97],.str [],.int .i64 (.ofNat 0),.str [],.lst .dead 0 [],.lst .dead 1 [.int .i64 (.ofNat 6),.int .u64 (.ofNat 0),.str [],.int .i64 (.ofNat 0),.int .i64 (.ofNat 1),.str [120],.lst .dead 0 [],.lst .dead 1 [.int .i64 (.ofNat 1),.int .u64 (.ofNat 5),.str [],.int .i64 (.ofNat 0),.int .i64 (.ofNat 0),.str [],.lst .dead 0 [],.lst .dead 0 []]],.lst .dead 0 [],.lst .dead 0 [],.int .i64 (.ofNat 10),.int .i64 (.ofNat 1),.str [],.str [],.int .i64 (.ofNat 0),.str [],.lst .dead 0 [],.lst .dead 1 [.int .i64 (.ofNat 2),.int .u64 (.ofNat 0),.str [97],.int .i64 (.ofNat 0),.int .i64 (.ofNat 0),.str [],.lst .dead 0 [],.lst .dead 0 []],.lst .dead 0 [],.lst .dead 0 []],.lst .dead 2 [.int .i64 (.ofNat 1),.int .i64 (.ofNat 1),.str [97],.str [],.int .i64 (.ofNat 0),.str [],.lst .dead 0 [],.lst .dead 1 [.int .i64 (.ofNat 6),.int .u64 (.ofNat 0),.str [],.int .i64 (.ofNat 0),.int .i64 (.ofNat 1),.str [120],.lst .dead 0 [],.lst .dead 1 [.int .i64 (.ofNat 1),.int .u64 (.ofNat 5),.str [],.int .i64 (.ofNat 0),.int .i64 (.ofNat 0),.str [],.lst .dead 0 [],.lst .dead 0 []]],.lst .dead 0 [],.lst .dead 0 [],.int .i64 (.ofNat 10),.int .i64 (.ofNat 1),.str [],.str [],.int .i64 (.ofNat 0),.str [],.lst .dead 0 [],.lst .dead 1 [.int .i64 (.ofNat 2),.int .u64 (.ofNat 0),.str [97],.int .i64 (.ofNat 0),.int .i64 (.ofNat 0),.str [],.lst .dead 0 [],.lst .dead 0 []],.lst .dead 0 [],.lst .dead 0 []]]],.int .i64 (.ofNat 1),.lst .dead 0 [],.int .i64 (.ofNat 65536)], .tup [.agg [.int .i64 (.ofNat 3),.int .i64 (.ofNat 1),.int .i64 (.ofNat 1),.int .i64 (.ofNat 65536),.int .i64 (.ofNat 4),.int .i64 (.ofNat 2),.bool false,.int .i64 (.ofNat 0),.int .i64 (.ofNat 0),.int .i64 (.ofNat 1),.int .i64 (.ofNat 6),.int .u64 (.ofNat 5),.int .u64 (.ofNat 0)],.int .i64 (.ofNat 0),.lst .dead 0 [],.int .i64 (.ofNat 0)]),
  (95, [.agg [.lst .dead 1 [.str [120],.int .i64 (.ofNat 2),.int .i64 (.ofNat 4),.bool false,.lst .dead 0 [],.int .i64 (.ofNat 0),.lst .dead 0 []],.lst .dead 2 [.lst .dead 2 [.int .i64 (.ofNat 1),.int .i64 (.ofNat 1),.str [97],.str [],.int .i64 (.ofNat 0),.str [],.lst .dead 0 [],.lst .dead 1 [.int .i64 (.ofNat 6),.int .u64 (.ofNat 0),.str [],.int .i64 (.ofNat 0),.int .i64 (.ofNat 1),.str [120],.lst .dead 0 [],.lst .dead 1 [.int .i64 (.ofNat 1),.int .u64 (.ofNat 5),.str [],.int .i64 (.ofNat 0),.int .i64 (.ofNat 0),.str [],.lst .dead 0 [],.lst .dead 0 []]],.lst .dead 0 [],.lst .dead 0 [],.int .i64 (.ofNat 10),.int .i64 (.ofNat 1),.str [],.str [],.int .i64 (.ofNat 0),.str [],.lst .dead 0 [],.lst .dead 1 [.int .i64 (.ofNat 2),.int .u64 (.ofNat 0),.str [97],.int .i64 (.ofNat 0),.int .i64 (.ofNat 0),.str [],.lst .dead 0 [],.lst .dead 0 []],.lst .dead 0 [],.lst .dead 0 []],.lst .dead 2 [.int .i64 (.ofNat 1),.int .i64 (.ofNat 1),.str [97],.str [],.int .i64 (.ofNat 0),.str [],.lst .dead 0 [],.lst .dead 1 [.int .i64 (.ofNat 6),.int .u64 (.ofNat 0),.str [],.int .i64 (.ofNat 0),.int .i64 (.ofNat 1),.str [120],.lst .dead 0 [],.lst .dead 1 [.int .i64 (.ofNat 1),.int .u64 (.ofNat 5),.str [],.int .i64 (.ofNat 0),.int .i64 (.ofNat 0),.str [],.lst .dead 0 [],.lst .dead 0 []]],.lst .dead 0 [],.lst .dead 0 [],.int .i64 (.ofNat 10),.int .i64 (.ofNat 1),.str [],.str [],.int .i64 (.ofNat 0),.str [],.lst .dead 0 [],.lst .dead 1 [.int .i64 (.ofNat 2),.int .u64 (.ofNat 0),.str [97],.int .i64 (.ofNat 0),.int .i64 (.ofNat 0),.str [],.lst .dead 0 [],.lst .dead 0 []],.lst .dead 0 [],.lst .dead 0 []]]],.int .i64 (.ofNat 0),.lst .dead 1 [.int .u64 (.ofNat 0),.int .u64 (.ofNat 0)],.int .i64 (.ofNat 65536)], .tup [.agg [.int .i64 (.ofNat 0),.int .i64 (.ofNat 0),.int .i64 (.ofNat 0),.int .i64 (.ofNat 0),.int .i64 (.ofNat 0),.int .i64 (.ofNat 0),.bool false,.int .i64 (.ofNat 0),.int .i64 (.ofNat 0),.int .i64 (.ofNat 0),.int .i64 (.ofNat 0),.int .u64 (.ofNat 0),.int .u64 (.ofNat 0)],.int .i64 (.ofNat 1),.lst .dead 1 [.int .u64 (.ofNat 0)],.int .i64 (.ofNat 0)]),
  (95, [.agg [.lst .dead 1 [.str [120],.int .i64 (.ofNat 2),.int .i64 (.ofNat 4),.bool false,.lst .dead 0 [],.int .i64 (.ofNat 0),.lst .dead 0 []],.lst .dead 2 [.lst .dead 2 [.int .i64 (.ofNat 1),.int .i64 (.ofNat 1),.str [97],.str [],.int .i64 (.ofNat 0),.str [],.lst .dead 0 [],.lst .dead 1 [.int .i64 (.ofNat 6),.int .u64 (.ofNat 0),.str [],.int .i64 (.ofNat 0),.int .i64 (.ofNat 1),.str [120],.lst .dead 0 [],.lst .dead 1 [.int .i64 (.ofNat 1),.int .u64 (.ofNat 5),.str [],.int .i64 (.ofNat 0),.int .i64 (.ofNat 0),.str [],.lst .dead 0 [],.lst .dead 0 []]],.lst .dead 0 [],.lst .dead 0 [],.int .i64 (.ofNat 10),.int .i64 (.ofNat 1),.str [],.str [],.int .i64 (.ofNat 0),.str [],.lst .dead 0 [],.lst .dead 1 [.int .i64 (.ofNat 2),.int .u64 (.ofNat 0),.str [97],.int .i64 (.ofNat 0),.int .i64 (.ofNat 0),.str [],.lst .dead 0 [],.lst .dead 0 []],.lst .dead 0 [],.lst .dead 0 []],.lst .dead 2 [.int .i64 (.ofNat 1),.int .i64 (.ofNat 1),.str [97],.str [],.int .i64 (.ofNat 0),.str [],.lst .dead 0 [],.lst .dead 1 [.int .i64 (.ofNat 6),.int .u64 (.ofNat 0),.str [],.int .i64 (.ofNat 0),.int .i64 (.ofNat 1),.str [120],.lst .dead 0 [],.lst .dead 1 [.int .i64 (.ofNat 1),.int .u64 (.ofNat 5),.str [],.int .i64 (.ofNat 0),.int .i64 (.ofNat 0),.str [],.lst .dead 0 [],.lst .dead 0 []]],.lst .dead 0 [],.lst .dead 0 [],.int .i64 (.ofNat 10),.int .i64 (.ofNat 1),.str [],.str [],.int .i64 (.ofNat 0),.str [],.lst .dead 0 [],.lst .dead 1 [.int .i64 (.ofNat 2),.int .u64 (.ofNat 0),.str [97],.int .i64 (.ofNat 0),.int .i64 (.ofNat 0),.str [],.lst .dead 0 [],.lst .dead 0 []],.lst .dead 0 [],.lst .dead 0 []]]],.int .i64 (.ofNat 1),.lst .dead 1 [.int .u64 (.ofNat 5),.int .u64 (.ofNat 0)],.int .i64 (.ofNat 65536)], .tup [.agg [.int .i64 (.ofNat 0),.int .i64 (.ofNat 0),.int .i64 (.ofNat 0),.int .i64 (.ofNat 0),.int .i64 (.ofNat 0),.int .i64 (.ofNat 0),.bool false,.int .i64 (.ofNat 0),.int .i64 (.ofNat 0),.int .i64 (.ofNat 0),.int .i64 (.ofNat 0),.int .u64 (.ofNat 0),.int .u64 (.ofNat 0)],.int .i64 (.ofNat 1),.lst .dead 1 [.int .u64 (.ofNat 5)],.int .i64 (.ofNat 0)])]
def RbM209 : List (Nat × List AV × AV) := [
  (9, [.agg [.lst .dead 1 [.str [120],.int .i64 (.ofNat 2),.int .i64 (.ofNat 4),.bool false,.lst .dead 0 [],.int .i64 (.ofNat 0),.lst .dead 0 []],.lst .dead 2 [.lst .dead 2 [.int .i64 (.ofNat 1),.int .i64 (.ofNat 1),.str [97],.str [],.int .i64 (.ofNat 0),.str [],.lst .dead 0 [],.lst .dead 1 [.int .i64 (.ofNat 6),.int .u64 (.ofNat 0),.str [],.int .i64 (.ofNat 0),.int .i64 (.ofNat 1),.str [120],.lst .dead 0 [],.lst .dead 1 [.int .i64 (.ofNat 1),.int .u64 (.ofNat 5),.str [],.int .i64 (.ofNat 0),.int .i64 (.ofNat 0),.str [],.lst .dead 0 [],.lst .dead 0 []]],.lst .dead 0 [],.lst .dead 0 [],.int .i64 (.ofNat 10),.int .i64 (.ofNat 1),.str [],.str [],.int .i64 (.ofNat 0),.str [],.lst .dead 0 [],.lst .dead 1 [.int .i64 (.ofNat 2),.int .u64 (.ofNat 0),.str [97],.int .i64 (.ofNat 0),.int .i64 (.ofNat 0),.str [],.lst .dead 0 [],.lst .dead 0 []],.lst .dead 0 [],.lst .dead 0 []],.lst .dead 2 [.int .i64 (.ofNat 1),.int .i64 (.ofNat 1),.str [97],.str [],.int .i64 (.ofNat 0),.str [],.lst .dead 0 [],.lst .dead 1 [.int .i64 (.ofNat 6),.int .u64 (.ofNat 0),.str [],.int .i64 (.ofNat 0),.int .i64 (.ofNat 1),.str [120],.lst .dead 0 [],.lst .dead 1 [.int .i64 (.ofNat 1),.int .u64 (.ofNat 5),.str [],.int .i64 (.ofNat 0),.int .i64 (.ofNat 0),.str [],.lst .dead 0 [],.lst .dead 0 []]],.lst .dead 0 [],.lst .dead 0 [],.int .i64 (.ofNat 10),.int .i64 (.ofNat 1),.str [],.str [],.int .i64 (.ofNat 0),.str [],.lst .dead 0 [],.lst .dead 1 [.int .i64 (.ofNat 2),.int .u64 (.ofNat 0),.str [97],.int .i64 (.ofNat 0),.int .i64 (.ofNat 0),.str [],.lst .dead 0 [],.lst .dead 0 []],.lst .dead 0 [],.lst .dead 0 []]]],.int .i64 (.ofNat 5000)], .tup [.agg [.lst .dead 4 [.int .u8 (.ofNat 10),.int .u8 (.ofNat 0),.int .u8 (.ofNat 0),.int .u8 (.ofNat 0)],.lst .dead 2 [.lst .dead 1 [.int .u64 (.ofNat 0)],.lst .dead 1 [.int .u64 (.ofNat 5)]],.lst .dead 2 [.int .i64 (.ofNat 1),.int .i64 (.ofNat 1)]],.agg [.lst .dead 4 [.int .u8 (.ofNat 10),.int .u8 (.ofNat 0),.int .u8 (.ofNat 0),.int .u8 (.ofNat 0)],.lst .dead 2 [.lst .dead 1 [.int .u64 (.ofNat 0)],.lst .dead 1 [.int .u64 (.ofNat 5)]],.lst .dead 2 [.int .i64 (.ofNat 1),.int .i64 (.ofNat 1)]],.int .i64 (.ofNat 0)])]
def RbM2010 : List (Nat × List AV × AV) := [
  (10, [.agg [.lst .dead 1 [.str [120],.int .i64 (.ofNat 2),.int .i64 (.ofNat 4),.bool false,.lst .dead 0 [],.int .i64 (.ofNat 0),.lst .dead 0 []],.lst .dead 2 [.lst .dead 2 [.int .i64 (.ofNat 1),.int .i64 (.ofNat 1),.str [97],.str [],.int .i64 (.ofNat 0),.str [],.lst .dead 0 [],.lst .dead 1 [.int .i64 (.ofNat 6),.int .u64 (.ofNat 0),.str [],.int .i64 (.ofNat 0),.int .i64 (.ofNat 1),.str [120],.lst .dead 0 [],.lst .dead 1 [.int .i64 (.ofNat 1),.int .u64 (.ofNat 5),.str [],.int .i64 (.ofNat 0),.int .i64 (.ofNat 0),.str [],.lst .dead 0 [],.lst .dead 0 []]],.lst .dead 0 [],.lst .dead 0 [],.int .i64 (.ofNat 10),.int .i64 (.ofNat 1),.str [],.str [],.int .i64 (.ofNat 0),.str [],.lst .dead 0 [],.lst .dead 1 [.int .i64 (.ofNat 2),.int .u64 (.ofNat 0),.str [97],.int .i64 (.ofNat 0),.int .i64 (.ofNat 0),.str [],.lst .dead 0 [],.lst .dead 0 []],.lst .dead 0 [],.lst .dead 0 []],.lst .dead 2 [.int .i64 (.ofNat 1),.int .i64 (.ofNat 1),.str [97],.str [],.int .i64 (.ofNat 0),.str [],.lst .dead 0 [],.lst .dead 1 [.int .i64 (.ofNat 6),.int .u64 (.ofNat 0),.str [],.int .i64 (.ofNat 0),.int .i64 (.ofNat 1),.str [120],.lst .dead 0 [],.lst .dead 1 [.int .i64 (.ofNat 1),.int .u64 (.ofNat 5),.str [],.int .i64 (.ofNat 0),.int .i64 (.ofNat 0),.str [],.lst .dead 0 [],.lst .dead 0 []]],.lst .dead 0 [],.lst .dead 0 [],.int .i64 (.ofNat 10),.int .i64 (.ofNat 1),.str [],.str [],.int .i64 (.ofNat 0),.str [],.lst .dead 0 [],.lst .dead 1 [.int .i64 (.ofNat 2),.int .u64 (.ofNat 0),.str [97],.int .i64 (.ofNat 0),.int .i64 (.ofNat 0),.str [],.lst .dead 0 [],.lst .dead 0 []],.lst .dead 0 [],.lst .dead 0 []]]],.lst .dead 1 [.int .i64 (.ofNat 3),.int .i64 (.ofNat 5000),.int .i64 (.ofNat 0)]], .tup [.agg [.lst .dead 4 [.int .u8 (.ofNat 10),.int .u8 (.ofNat 0),.int .u8 (.ofNat 0),.int .u8 (.ofNat 0)],.lst .dead 2 [.lst .dead 1 [.int .u64 (.ofNat 0)],.lst .dead 1 [.int .u64 (.ofNat 5)]],.lst .dead 2 [.int .i64 (.ofNat 1),.int .i64 (.ofNat 1)]],.agg [.lst .dead 4 [.int .u8 (.ofNat 10),.int .u8 (.ofNat 0),.int .u8 (.ofNat 0),.int .u8 (.ofNat 0)],.lst .dead 2 [.lst .dead 1 [.int .u64 (.ofNat 0)],.lst .dead 1 [.int .u64 (.ofNat 5)]],.lst .dead 2 [.int .i64 (.ofNat 1),.int .i64 (.ofNat 1)]],.int .i64 (.ofNat 0)])]
theorem RbM200_run : forced (allW (runG []) RbM200) = true := by kernel_rfl
theorem RbM200_ok : MemoOK (ACall C) (memL (RbM200 ++ [])) := memL_appW gtC (runG_ok memL_nil) memL_nil (of_forced RbM200_run)
theorem RbM201_run : forced (allW (runG (RbM200 ++ [])) RbM201) = true := by kernel_rfl
theorem RbM201_ok : MemoOK (ACall C) (memL (RbM201 ++ (RbM200 ++ []))) := memL_appW gtC (runG_ok RbM200_ok) RbM200_ok (of_forced RbM201_run)
theorem RbM202_run : forced (allW (runG (RbM201 ++ (RbM200 ++ []))) RbM202) = true := by kernel_rfl
theorem RbM202_ok : MemoOK (ACall C) (memL (RbM202 ++ (RbM201 ++ (RbM200 ++ [])))) := memL_appW gtC (runG_ok RbM201_ok) RbM201_ok (of_forced RbM202_run)
theorem RbM203_run : forced (allW (runG (RbM202 ++ (RbM201 ++ (RbM200 ++ [])))) RbM203) = true := by kernel_rfl
theorem RbM203_ok : MemoOK (ACall C) (memL (RbM203 ++ (RbM202 ++ (RbM201 ++ (RbM200 ++ []))))) := memL_appW gtC (runG_ok RbM202_ok) RbM202_ok (of_forced RbM203_run)
theorem RbM204_run : forced (allW (runG (RbM203 ++ (RbM202 ++ (RbM201 ++ (RbM200 ++ []))))) RbM204) = true := by kernel_rfl
theorem RbM204_ok : MemoOK (ACall C) (memL (RbM204 ++ (RbM203 ++ (RbM202 ++ (RbM201 ++ (RbM200 ++ [])))))) := memL_appW gtC (runG_ok RbM203_ok) RbM203_ok (of_forced RbM204_run)
theorem RbM205_run : forced (allW (runG (RbM204 ++ (RbM203 ++ (RbM202 ++ (RbM201 ++ (RbM200 ++ [])))))) RbM205) = true := by kernel_rfl
theorem RbM205_ok : MemoOK (ACall C) (memL (RbM205 ++ (RbM204 ++ (RbM203 ++ (RbM202 ++ (RbM201 ++ (RbM200 ++ []))))))) := memL_appW gtC (runG_ok RbM204_ok) RbM204_ok (of_forced RbM205_run)
theorem RbM206_run : forced (allW (runG (RbM205 ++ (RbM204 ++ (RbM203 ++ (RbM202 ++ (RbM201 ++ (RbM200 ++ []))))))) RbM206) = true := by kernel_rfl
theorem RbM206_ok : MemoOK (ACall C) (memL (RbM206 ++ (RbM205 ++ (RbM204 ++ (RbM203 ++ (RbM202 ++ (RbM201 ++ (RbM200 ++ [])))))))) := memL_appW gtC (runG_ok RbM205_ok) RbM205_ok (of_forced RbM206_run)
theorem RbM207_run : forced (allW (runG (RbM206 ++ (RbM205 ++ (RbM204 ++ (RbM203 ++ (RbM202 ++ (RbM201 ++ (RbM200 ++ [])))))))) RbM207) = true := by kernel_rfl
theorem RbM207_ok : MemoOK (ACall C) (memL (RbM207 ++ (RbM206 ++ (RbM205 ++ (RbM204 ++ (RbM203 ++ (RbM202 ++ (RbM201 ++ (RbM200 ++ []))))))))) := memL_appW gtC (runG_ok RbM206_ok) RbM206_ok (of_forced RbM207_run)
theorem RbM208_run : forced (allW (runG (RbM207 ++ (RbM206 ++ (RbM205 ++ (RbM204 ++ (RbM203 ++ (RbM202 ++ (RbM201 ++ (RbM200 ++ []))))))))) RbM208) = true := by kernel_rfl
theorem RbM208_ok : MemoOK (ACall C) (memL (RbM208 ++ (RbM207 ++ (RbM206 ++ (RbM205 ++ (RbM204 ++ (RbM203 ++ (RbM202 ++ (RbM201 ++ (RbM200 ++ [])))))))))) := memL_appW gtC (runG_ok RbM207_ok) RbM207_ok (of_forced RbM208_run)
theorem RbM209_run : forced (allW (runG (RbM208 ++ (RbM207 ++ (RbM206 ++ (RbM205 ++ (RbM204 ++ (RbM203 ++ (RbM202 ++ (RbM201 ++ (RbM200 ++ [])))))))))) RbM209) = true := by kernel_rfl
theorem RbM209_ok : MemoOK (ACall C) (memL (RbM209 ++ (RbM208 ++ (RbM207 ++ (RbM206 ++ (RbM205 ++ (RbM204 ++ (RbM203 ++ (RbM202 ++ (RbM201 ++ (RbM200 ++ []))))))))))) := memL_appW gtC (runG_ok RbM208_ok) RbM208_ok (of_forced RbM209_run)
theorem RbM2010_run : forced (allW (runG (RbM209 ++ (RbM208 ++ (RbM207 ++ (RbM206 ++ (RbM205 ++ (RbM204 ++ (RbM203 ++ (RbM202 ++ (RbM201 ++ (RbM200 ++ []))))))))))) RbM2010) = true := by kernel_rfl
theorem RbM2010_ok : MemoOK (ACall C) (memL (RbM2010 ++ (RbM209 ++ (RbM208 ++ (RbM207 ++ (RbM206 ++ (RbM205 ++ (RbM204 ++ (RbM203 ++ (RbM202 ++ (RbM201 ++ (RbM200 ++ [])))))))))))) := memL_appW gtC (runG_ok RbM209_ok) RbM209_ok (of_forced RbM2010_run)
theorem RbM20_root0 : forced (allW (runG (RbM2010 ++ (RbM209 ++ (RbM208 ++ (RbM207 ++ (RbM206 ++ (RbM205 ++ (RbM204 ++ (RbM203 ++ (RbM202 ++ (RbM201 ++ (RbM200 ++ [])))))))))))) [(6, [], .bool true)]) = true := by kernel_rfl
theorem RbM20_rootok0 : MemoOK (ACall C) (memL [(6, [], .bool true)]) := memL_appW gtC (runG_ok RbM2010_ok) memL_nil (N := [(6, [], .bool true)]) (of_forced RbM20_root0)
end
end Go.Proofs.YtklmnikdhpkifaaGreatDoor.rb

/- The functions' keys. By spec.py. -/
namespace Rb.K
abbrev rabbetlaw20_TurnSame : Nat := 3
abbrev rabbetref01_Ints : Nat := 4
abbrev rabbetref01_Same : Nat := 5
abbrev rabbetlaw20_awake : Nat := 6
abbrev turn_Same : Nat := 7
abbrev slices_Equal___byte_byte_ : Nat := 12
abbrev slices_Equal___int_int_ : Nat := 13
abbrev slices_EqualFunc_____uint64_____uint64___uint64___uint64_ : Nat := 14
abbrev slices_Equal___uint64_uint64_ : Nat := 15
end Rb.K

/- Functions in the small language, and what they mean. By spec.py. -/
set_option linter.unusedVariables false
namespace Rb.S
open Go

/-! rabbet/rabbetlaw20.TurnSame -/
def rabbetlaw20_TurnSame_k1 (Φ : Calls') (x1 : AV) (x3 : AV) (s33 : List AV × AH) (L34 : (List AV × AH) → Prop) (Q : Post) : List AV → AH → Prop := fun j35 H36 =>
 Do (afaddr 1 x1) fun x43 =>
 Do (aload H36 1 false x43) fun x44 =>
 Do (aiaddr none 1 x44 (sl s33.1 1)) fun x45 =>
 Do (aload H36 1 false x45) fun x46 =>
 Do (afaddr 1 x3) fun x47 =>
 Do (aload H36 1 false x47) fun x48 =>
 Do (aiaddr none 1 x48 (sl s33.1 1)) fun x49 =>
 Do (aload H36 1 false x49) fun x50 =>
Φ K.rabbetref01_Same [x46, x50] H36 fun x51 H52 =>
 Do (abin .add (sl s33.1 1) (.int .i64 1)) fun x53 =>
 L34 ([x51, x53], H52)
def rabbetlaw20_TurnSame_k2 (Φ : Calls') (x1 : AV) (x3 : AV) (Q : Post) : List AV → AH → Prop := fun j31 H32 =>
Φ K.rabbetlaw20_awake [] H32 fun x54 H55 =>
 Gd3 x54 true (
 Do (aload H55 3 true x1) fun x56 =>
 Do (aload H55 3 true x3) fun x57 =>
Φ K.turn_Same [x56, x57] H55 fun x58 H59 =>
 Do (abeq false x58 (sl j31 0)) fun x60 =>
 Q x60 H59) (
 Q (.bool false) H55) (
 False)
def rabbetlaw20_TurnSame_k3 (Φ : Calls') (x1 : AV) (x3 : AV) (s33 : List AV × AH) (L34 : (List AV × AH) → Prop) (Q : Post) : List AV → AH → Prop := fun j37 H38 =>
 Gd (sl j37 0) true (
 JoinP (rabbetlaw20_TurnSame_k1 Φ x1 x3 s33 L34 Q) [] H38) (
 JoinP (rabbetlaw20_TurnSame_k2 Φ x1 x3 Q) [(sl s33.1 0)] H38)
def rabbetlaw20_TurnSame_l4 (Φ : Calls') (x1 : AV) (x3 : AV) (Q : Post) : (List AV × AH) → ((List AV × AH) → Prop) → Prop := fun s33 L34 =>
 Do (afaddr 1 x1) fun x39 =>
 Do (aload s33.2 1 false x39) fun x40 =>
 Do (alen false x40) fun x41 =>
 Do (abin .lss (sl s33.1 1) x41) fun x42 =>
 Gd3 x42 true (
 JoinP (rabbetlaw20_TurnSame_k3 Φ x1 x3 s33 L34 Q) [(sl s33.1 0)] s33.2) (
 JoinP (rabbetlaw20_TurnSame_k3 Φ x1 x3 s33 L34 Q) [(.bool false)] s33.2) (
 False)
def rabbetlaw20_TurnSame_k5 (Φ : Calls') (x1 : AV) (x3 : AV) (Q : Post) : List AV → AH → Prop := fun j5 H6 =>
 LoopP (rabbetlaw20_TurnSame_l4 Φ x1 x3 Q) ([(sl j5 0), (.int .i64 0)], H6)
def rabbetlaw20_TurnSame_k6 (Φ : Calls') (x1 : AV) (x3 : AV) (Q : Post) : List AV → AH → Prop := fun j7 H8 =>
 Gd3 (sl j7 0) true (
 Do (afaddr 1 x1) fun x24 =>
 Do (aload H8 1 false x24) fun x25 =>
 Do (alen false x25) fun x26 =>
 Do (afaddr 1 x3) fun x27 =>
 Do (aload H8 1 false x27) fun x28 =>
 Do (alen false x28) fun x29 =>
 Do (abin .eql x26 x29) fun x30 =>
 JoinP (rabbetlaw20_TurnSame_k5 Φ x1 x3 Q) [x30] H8) (
 JoinP (rabbetlaw20_TurnSame_k5 Φ x1 x3 Q) [(.bool false)] H8) (
 False)
def rabbetlaw20_TurnSame (Φ : Calls') (a0 : AV) (a1 : AV) (H : AH) (Q : Post) : Prop :=
 DoH (aboxv H false 3 a0) fun x1 H2 =>
 DoH (aboxv H2 false 3 a1) fun x3 H4 =>
 Do (afaddr 0 x1) fun x9 =>
 Do (aload H4 1 false x9) fun x10 =>
 Do (abstr H4 x10) fun x11 =>
 Do (afaddr 0 x3) fun x13 =>
 Do (aload H4 1 false x13) fun x14 =>
 Do (abstr H4 x14) fun x15 =>
 Do (abin .eql x11 x15) fun x17 =>
 Gd3 x17 true (
 Do (afaddr 2 x1) fun x18 =>
 Do (aload H4 1 false x18) fun x19 =>
 Do (afaddr 2 x3) fun x20 =>
 Do (aload H4 1 false x20) fun x21 =>
Φ K.rabbetref01_Ints [x19, x21] H4 fun x22 H23 =>
 JoinP (rabbetlaw20_TurnSame_k6 Φ x1 x3 Q) [x22] H23) (
 JoinP (rabbetlaw20_TurnSame_k6 Φ x1 x3 Q) [(.bool false)] H4) (
 False)
def ir_rabbetlaw20_TurnSame : AFunc := ⟨59, [.tmp 4],
 .seq (.region [
   ⟨some 2, .box false 3 (.t 0), none⟩,
   ⟨some 3, .box false 3 (.t 1), none⟩,
   ⟨some 4, .mv (.k (.bool false)), none⟩])
 (.join [5] [7, 8, 9, 10, 11, 12, 13, 14, 15, 16, 17, 18, 19, 20, 21, 22, 23, 24, 25, 26, 27, 28, 29] (.rjoin [20] [7, 8, 9, 10, 11, 12, 13, 14, 15, 16, 17, 18, 19] [
   ⟨some 7, .faddr 0 (.t 2), none⟩,
   ⟨some 8, .load 1 false (.t 7), none⟩,
   ⟨some 9, .bstr (.t 8), none⟩,
   ⟨some 10, .faddr 0 (.t 3), none⟩,
   ⟨some 11, .load 1 false (.t 10), none⟩,
   ⟨some 12, .bstr (.t 11), none⟩,
   ⟨some 13, .bin .eql (.t 9) (.t 12), none⟩,
   ⟨some 14, .mv (.t 13), none⟩,
   ⟨some 15, .faddr 2 (.t 2), some (14, true)⟩,
   ⟨some 16, .load 1 false (.t 15), some (14, true)⟩,
   ⟨some 17, .faddr 2 (.t 3), some (14, true)⟩,
   ⟨some 18, .load 1 false (.t 17), some (14, true)⟩,
   ⟨some 19, .call K.rabbetref01_Ints [(.t 16), (.t 18)], some (14, true)⟩,
   ⟨some 20, .pick (.t 14) (.t 19) (.k (.bool false)), none⟩]
 (.region [
   ⟨some 21, .mv (.t 20), none⟩,
   ⟨some 22, .faddr 1 (.t 2), some (21, true)⟩,
   ⟨some 23, .load 1 false (.t 22), some (21, true)⟩,
   ⟨some 24, .len false (.t 23), some (21, true)⟩,
   ⟨some 25, .faddr 1 (.t 3), some (21, true)⟩,
   ⟨some 26, .load 1 false (.t 25), some (21, true)⟩,
   ⟨some 27, .len false (.t 26), some (21, true)⟩,
   ⟨some 28, .bin .eql (.t 24) (.t 27), some (21, true)⟩,
   ⟨some 29, .pick (.t 21) (.t 28) (.k (.bool false)), none⟩,
   ⟨some 5, .mv (.t 29), none⟩]))
 (.join [5] [6, 30, 31, 32, 33, 34, 35, 36, 37, 38, 39, 40, 41, 42, 43, 44, 45, 46, 47, 48, 49, 50] (.seq (.region [
   ⟨some 6, .mv (.k (.int .i64 0)), none⟩])
 (.block 0 (.loop [5, 6] [30, 31, 32, 33, 34, 35, 36, 37, 38, 39, 40, 41, 42, 43, 44, 45, 46, 47, 48, 49, 50] (.join [] [30, 31, 32, 33, 34, 35, 36, 37] (.join [37] [30, 31, 32, 33, 34, 35, 36] (.region [
   ⟨some 30, .mv (.t 6), none⟩,
   ⟨some 31, .faddr 1 (.t 2), none⟩,
   ⟨some 32, .load 1 false (.t 31), none⟩,
   ⟨some 33, .len false (.t 32), none⟩,
   ⟨some 34, .bin .lss (.t 30) (.t 33), none⟩,
   ⟨some 35, .mv (.t 34), none⟩,
   ⟨some 36, .mv (.t 5), some (35, true)⟩,
   ⟨some 37, .pick (.t 35) (.t 36) (.k (.bool false)), none⟩])
 (.cond (.t 37) (.skip)
   (.exit 0)))
 (.seq (.block 1 (.draw [
   ⟨some 40, .faddr 1 (.t 2), none⟩,
   ⟨some 41, .load 1 false (.t 40), none⟩,
   ⟨some 42, .mv (.t 6), none⟩,
   ⟨some 43, .iaddr none 1 (.t 41) (.t 42), none⟩,
   ⟨some 44, .load 1 false (.t 43), none⟩,
   ⟨some 45, .faddr 1 (.t 3), none⟩,
   ⟨some 46, .load 1 false (.t 45), none⟩,
   ⟨some 47, .mv (.t 6), none⟩,
   ⟨some 48, .iaddr none 1 (.t 46) (.t 47), none⟩,
   ⟨some 49, .load 1 false (.t 48), none⟩,
   ⟨some 50, .call K.rabbetref01_Same [(.t 44), (.t 49)], none⟩,
   ⟨some 5, .mv (.t 50), none⟩]
 [[], [0], [], [0, 1, 2], [0, 1, 2, 3], [], [5], [], [5, 6, 7], [5, 6, 7, 8], [0, 1, 2, 3, 4, 5, 6, 7, 8, 9], [0, 1, 2, 3, 4, 5, 6, 7, 8, 9, 10]] [([0, 1, 2, 3, 4, 5, 6, 7, 8, 9], 10, [])] [11]))
 (.region [
   ⟨some 38, .mv (.t 6), none⟩,
   ⟨some 39, .bin .add (.t 38) (.k (.int .i64 1)), none⟩,
   ⟨some 6, .mv (.t 39), none⟩]))))))
 (.seq (.region [
   ⟨some 51, .call K.rabbetlaw20_awake [], none⟩,
   ⟨some 52, .mv (.t 51), none⟩,
   ⟨some 53, .load 3 true (.t 2), some (52, true)⟩,
   ⟨some 54, .load 3 true (.t 3), some (52, true)⟩,
   ⟨some 55, .call K.turn_Same [(.t 53), (.t 54)], some (52, true)⟩,
   ⟨some 56, .mv (.t 5), some (52, true)⟩,
   ⟨some 57, .beq false (.t 55) (.t 56), some (52, true)⟩,
   ⟨some 58, .pick (.t 52) (.t 57) (.k (.bool false)), none⟩,
   ⟨some 4, .mv (.t 58), none⟩])
 (.ret))))⟩
theorem eq_rabbetlaw20_TurnSame (Φ : Calls') (a0 a1 : AV) (H : AH) (Q : Post) : fnE1 Φ ir_rabbetlaw20_TurnSame [a0, a1] H Q = rabbetlaw20_TurnSame Φ a0 a1 H Q := by kernel_rfl

/-! rabbet/rabbetref01.Ints -/
def rabbetref01_Ints_l1 (Φ : Calls') (a0 : AV) (a1 : AV) (Q : Post) : (List AV × AH) → ((List AV × AH) → Prop) → Prop := fun s4 L5 =>
 Do (alen false a0) fun x6 =>
 Do (abin .lss (sl s4.1 0) x6) fun x7 =>
 Gd x7 true (
 Do (aiaddr none 1 a0 (sl s4.1 0)) fun x8 =>
 Do (aload s4.2 1 false x8) fun x9 =>
 Do (aiaddr none 1 a1 (sl s4.1 0)) fun x10 =>
 Do (aload s4.2 1 false x10) fun x11 =>
 Do (abin .neq x9 x11) fun x12 =>
 Gd x12 true (
 Q (.bool false) s4.2) (
 Do (abin .add (sl s4.1 0) (.int .i64 1)) fun x13 =>
 L5 ([x13], s4.2))) (
 Q (.bool true) s4.2)
def rabbetref01_Ints (Φ : Calls') (a0 : AV) (a1 : AV) (H : AH) (Q : Post) : Prop :=
 Do (alen false a0) fun x1 =>
 Do (alen false a1) fun x2 =>
 Do (abin .neq x1 x2) fun x3 =>
 Gd x3 true (
 Q (.bool false) H) (
 LoopP (rabbetref01_Ints_l1 Φ a0 a1 Q) ([(.int .i64 0)], H))
def ir_rabbetref01_Ints : AFunc := ⟨26, [.tmp 4],
 .seq (.region [
   ⟨some 4, .mv (.k (.bool false)), none⟩])
 (.seq (.seq (.region [
   ⟨some 6, .mv (.t 0), none⟩,
   ⟨some 7, .len false (.t 6), none⟩,
   ⟨some 8, .mv (.t 1), none⟩,
   ⟨some 9, .len false (.t 8), none⟩,
   ⟨some 10, .bin .neq (.t 7) (.t 9), none⟩])
 (.cond (.t 10) (.seq (.region [
     ⟨some 4, .mv (.k (.bool false)), none⟩])
   (.ret))
   (.skip)))
 (.seq (.seq (.region [
   ⟨some 5, .mv (.k (.int .i64 0)), none⟩])
 (.block 0 (.loop [5] [4, 11, 12, 13, 14, 15, 16, 17, 18, 19, 20, 21, 22, 23, 24, 25] (.seq (.seq (.region [
   ⟨some 11, .mv (.t 5), none⟩,
   ⟨some 12, .mv (.t 0), none⟩,
   ⟨some 13, .len false (.t 12), none⟩,
   ⟨some 14, .bin .lss (.t 11) (.t 13), none⟩])
 (.cond (.t 14) (.skip)
   (.exit 0)))
 (.seq (.block 1 (.seq (.draw [
   ⟨some 17, .mv (.t 0), none⟩,
   ⟨some 18, .mv (.t 5), none⟩,
   ⟨some 19, .iaddr none 1 (.t 17) (.t 18), none⟩,
   ⟨some 20, .load 1 false (.t 19), none⟩,
   ⟨some 21, .mv (.t 1), none⟩,
   ⟨some 22, .mv (.t 5), none⟩,
   ⟨some 23, .iaddr none 1 (.t 21) (.t 22), none⟩,
   ⟨some 24, .load 1 false (.t 23), none⟩,
   ⟨some 25, .bin .neq (.t 20) (.t 24), none⟩]
 [[], [], [0, 1], [0, 1, 2], [], [], [4, 5], [4, 5, 6], [0, 1, 2, 3, 4, 5, 6, 7]] [] [0, 1, 2, 3, 4, 5, 6, 7, 8])
 (.cond (.t 25) (.seq (.region [
     ⟨some 4, .mv (.k (.bool false)), none⟩])
   (.ret))
   (.skip))))
 (.region [
   ⟨some 15, .mv (.t 5), none⟩,
   ⟨some 16, .bin .add (.t 15) (.k (.int .i64 1)), none⟩,
   ⟨some 5, .mv (.t 16), none⟩]))))))
 (.seq (.region [
   ⟨some 4, .mv (.k (.bool true)), none⟩])
 (.ret))))⟩
theorem eq_rabbetref01_Ints (Φ : Calls') (a0 a1 : AV) (H : AH) (Q : Post) : fnE1 Φ ir_rabbetref01_Ints [a0, a1] H Q = rabbetref01_Ints Φ a0 a1 H Q := by kernel_rfl

/-! rabbet/rabbetref01.Same -/
def rabbetref01_Same_l1 (Φ : Calls') (a0 : AV) (a1 : AV) (Q : Post) : (List AV × AH) → ((List AV × AH) → Prop) → Prop := fun s4 L5 =>
 Do (alen false a0) fun x6 =>
 Do (abin .lss (sl s4.1 0) x6) fun x7 =>
 Gd x7 true (
 Do (aiaddr none 1 a0 (sl s4.1 0)) fun x8 =>
 Do (aload s4.2 1 false x8) fun x9 =>
 Do (aiaddr none 1 a1 (sl s4.1 0)) fun x10 =>
 Do (aload s4.2 1 false x10) fun x11 =>
 Do (abin .neq x9 x11) fun x12 =>
 Gd x12 true (
 Q (.bool false) s4.2) (
 Do (abin .add (sl s4.1 0) (.int .i64 1)) fun x13 =>
 L5 ([x13], s4.2))) (
 Q (.bool true) s4.2)
def rabbetref01_Same (Φ : Calls') (a0 : AV) (a1 : AV) (H : AH) (Q : Post) : Prop :=
 Do (alen false a0) fun x1 =>
 Do (alen false a1) fun x2 =>
 Do (abin .neq x1 x2) fun x3 =>
 Gd x3 true (
 Q (.bool false) H) (
 LoopP (rabbetref01_Same_l1 Φ a0 a1 Q) ([(.int .i64 0)], H))
def ir_rabbetref01_Same : AFunc := ⟨26, [.tmp 4],
 .seq (.region [
   ⟨some 4, .mv (.k (.bool false)), none⟩])
 (.seq (.seq (.region [
   ⟨some 6, .mv (.t 0), none⟩,
   ⟨some 7, .len false (.t 6), none⟩,
   ⟨some 8, .mv (.t 1), none⟩,
   ⟨some 9, .len false (.t 8), none⟩,
   ⟨some 10, .bin .neq (.t 7) (.t 9), none⟩])
 (.cond (.t 10) (.seq (.region [
     ⟨some 4, .mv (.k (.bool false)), none⟩])
   (.ret))
   (.skip)))
 (.seq (.seq (.region [
   ⟨some 5, .mv (.k (.int .i64 0)), none⟩])
 (.block 0 (.loop [5] [4, 11, 12, 13, 14, 15, 16, 17, 18, 19, 20, 21, 22, 23, 24, 25] (.seq (.seq (.region [
   ⟨some 11, .mv (.t 5), none⟩,
   ⟨some 12, .mv (.t 0), none⟩,
   ⟨some 13, .len false (.t 12), none⟩,
   ⟨some 14, .bin .lss (.t 11) (.t 13), none⟩])
 (.cond (.t 14) (.skip)
   (.exit 0)))
 (.seq (.block 1 (.seq (.draw [
   ⟨some 17, .mv (.t 0), none⟩,
   ⟨some 18, .mv (.t 5), none⟩,
   ⟨some 19, .iaddr none 1 (.t 17) (.t 18), none⟩,
   ⟨some 20, .load 1 false (.t 19), none⟩,
   ⟨some 21, .mv (.t 1), none⟩,
   ⟨some 22, .mv (.t 5), none⟩,
   ⟨some 23, .iaddr none 1 (.t 21) (.t 22), none⟩,
   ⟨some 24, .load 1 false (.t 23), none⟩,
   ⟨some 25, .bin .neq (.t 20) (.t 24), none⟩]
 [[], [], [0, 1], [0, 1, 2], [], [], [4, 5], [4, 5, 6], [0, 1, 2, 3, 4, 5, 6, 7]] [] [0, 1, 2, 3, 4, 5, 6, 7, 8])
 (.cond (.t 25) (.seq (.region [
     ⟨some 4, .mv (.k (.bool false)), none⟩])
   (.ret))
   (.skip))))
 (.region [
   ⟨some 15, .mv (.t 5), none⟩,
   ⟨some 16, .bin .add (.t 15) (.k (.int .i64 1)), none⟩,
   ⟨some 5, .mv (.t 16), none⟩]))))))
 (.seq (.region [
   ⟨some 4, .mv (.k (.bool true)), none⟩])
 (.ret))))⟩
theorem eq_rabbetref01_Same (Φ : Calls') (a0 a1 : AV) (H : AH) (Q : Post) : fnE1 Φ ir_rabbetref01_Same [a0, a1] H Q = rabbetref01_Same Φ a0 a1 H Q := by kernel_rfl

/-! rabbet/turn.Same -/
def turn_Same_k1 (Φ : Calls') (x1 : AV) (x3 : AV) (Q : Post) : List AV → AH → Prop := fun j5 H6 =>
 Gd3 (sl j5 0) true (
 Do (afaddr 1 x1) fun x19 =>
 Do (aload H6 1 false x19) fun x20 =>
 Do (afaddr 1 x3) fun x21 =>
 Do (aload H6 1 false x21) fun x22 =>
Φ K.slices_EqualFunc_____uint64_____uint64___uint64___uint64_ [x20, x22, (.fn K.slices_Equal___uint64_uint64_ [])] H6 fun x23 H24 =>
 Q x23 H24) (
 Q (.bool false) H6) (
 False)
def turn_Same (Φ : Calls') (a0 : AV) (a1 : AV) (H : AH) (Q : Post) : Prop :=
 DoH (aboxv H false 3 a0) fun x1 H2 =>
 DoH (aboxv H2 false 3 a1) fun x3 H4 =>
 Do (afaddr 0 x1) fun x7 =>
 Do (aload H4 1 false x7) fun x8 =>
 Do (afaddr 0 x3) fun x9 =>
 Do (aload H4 1 false x9) fun x10 =>
Φ K.slices_Equal___byte_byte_ [x8, x10] H4 fun x11 H12 =>
 Gd3 x11 true (
 Do (afaddr 2 x1) fun x13 =>
 Do (aload H12 1 false x13) fun x14 =>
 Do (afaddr 2 x3) fun x15 =>
 Do (aload H12 1 false x15) fun x16 =>
Φ K.slices_Equal___int_int_ [x14, x16] H12 fun x17 H18 =>
 JoinP (turn_Same_k1 Φ x1 x3 Q) [x17] H18) (
 JoinP (turn_Same_k1 Φ x1 x3 Q) [(.bool false)] H12) (
 False)
def ir_turn_Same : AFunc := ⟨24, [.tmp 4],
 .seq (.region [
   ⟨some 2, .box false 3 (.t 0), none⟩,
   ⟨some 3, .box false 3 (.t 1), none⟩,
   ⟨some 4, .mv (.k (.bool false)), none⟩])
 (.seq (.rjoin [16] [5, 6, 7, 8, 9, 10, 11, 12, 13, 14, 15] [
   ⟨some 5, .faddr 0 (.t 2), none⟩,
   ⟨some 6, .load 1 false (.t 5), none⟩,
   ⟨some 7, .faddr 0 (.t 3), none⟩,
   ⟨some 8, .load 1 false (.t 7), none⟩,
   ⟨some 9, .call K.slices_Equal___byte_byte_ [(.t 6), (.t 8)], none⟩,
   ⟨some 10, .mv (.t 9), none⟩,
   ⟨some 11, .faddr 2 (.t 2), some (10, true)⟩,
   ⟨some 12, .load 1 false (.t 11), some (10, true)⟩,
   ⟨some 13, .faddr 2 (.t 3), some (10, true)⟩,
   ⟨some 14, .load 1 false (.t 13), some (10, true)⟩,
   ⟨some 15, .call K.slices_Equal___int_int_ [(.t 12), (.t 14)], some (10, true)⟩,
   ⟨some 16, .pick (.t 10) (.t 15) (.k (.bool false)), none⟩]
 (.region [
   ⟨some 17, .mv (.t 16), none⟩,
   ⟨some 18, .faddr 1 (.t 2), some (17, true)⟩,
   ⟨some 19, .load 1 false (.t 18), some (17, true)⟩,
   ⟨some 20, .faddr 1 (.t 3), some (17, true)⟩,
   ⟨some 21, .load 1 false (.t 20), some (17, true)⟩,
   ⟨some 22, .call K.slices_EqualFunc_____uint64_____uint64___uint64___uint64_ [(.t 19), (.t 21), (.k (.fn K.slices_Equal___uint64_uint64_ []))], some (17, true)⟩,
   ⟨some 23, .pick (.t 17) (.t 22) (.k (.bool false)), none⟩,
   ⟨some 4, .mv (.t 23), none⟩]))
 (.ret))⟩
theorem eq_turn_Same (Φ : Calls') (a0 a1 : AV) (H : AH) (Q : Post) : fnE1 Φ ir_turn_Same [a0, a1] H Q = turn_Same Φ a0 a1 H Q := by kernel_rfl

/-! slices.Equal[[]byte,byte] -/
def slices_Equal___byte_byte__l1 (Φ : Calls') (a0 : AV) (a1 : AV) (x4 : AV) (Q : Post) : (List AV × AH) → ((List AV × AH) → Prop) → Prop := fun s5 L6 =>
 Do (abin .lss (sl s5.1 0) x4) fun x7 =>
 Gd x7 true (
 Do (aiaddr none 1 a0 (sl s5.1 0)) fun x8 =>
 Do (aload s5.2 1 false x8) fun x9 =>
 Do (aiaddr none 1 a1 (sl s5.1 0)) fun x10 =>
 Do (aload s5.2 1 false x10) fun x11 =>
 Do (abin .neq x9 x11) fun x12 =>
 Gd x12 true (
 Q (.bool false) s5.2) (
 Do (abin .add (sl s5.1 0) (.int .i64 1)) fun x13 =>
 L6 ([x13], s5.2))) (
 Q (.bool true) s5.2)
def slices_Equal___byte_byte_ (Φ : Calls') (a0 : AV) (a1 : AV) (H : AH) (Q : Post) : Prop :=
 Do (alen false a0) fun x1 =>
 Do (alen false a1) fun x2 =>
 Do (abin .neq x1 x2) fun x3 =>
 Gd x3 true (
 Q (.bool false) H) (
 Do (alen false a0) fun x4 =>
 LoopP (slices_Equal___byte_byte__l1 Φ a0 a1 x4 Q) ([(.int .i64 0)], H))
def ir_slices_Equal___byte_byte_ : AFunc := ⟨26, [.tmp 4],
 .seq (.region [
   ⟨some 4, .mv (.k (.bool false)), none⟩])
 (.seq (.seq (.region [
   ⟨some 6, .mv (.t 0), none⟩,
   ⟨some 7, .len false (.t 6), none⟩,
   ⟨some 8, .mv (.t 1), none⟩,
   ⟨some 9, .len false (.t 8), none⟩,
   ⟨some 10, .bin .neq (.t 7) (.t 9), none⟩])
 (.cond (.t 10) (.seq (.region [
     ⟨some 4, .mv (.k (.bool false)), none⟩])
   (.ret))
   (.skip)))
 (.seq (.seq (.region [
   ⟨some 11, .mv (.t 0), none⟩,
   ⟨some 12, .len false (.t 11), none⟩,
   ⟨some 13, .mv (.k (.int .i64 0)), none⟩])
 (.block 0 (.loop [13] [4, 5, 14, 15, 16, 17, 18, 19, 20, 21, 22, 23, 24, 25] (.seq (.region [
   ⟨some 14, .bin .lss (.t 13) (.t 12), none⟩])
 (.seq (.cond (.t 14) (.skip)
   (.exit 0))
 (.seq (.block 1 (.seq (.region [
   ⟨some 15, .mv (.t 13), none⟩,
   ⟨some 5, .mv (.t 15), none⟩])
 (.seq (.draw [
   ⟨some 16, .mv (.t 0), none⟩,
   ⟨some 17, .mv (.t 5), none⟩,
   ⟨some 18, .iaddr none 1 (.t 16) (.t 17), none⟩,
   ⟨some 19, .load 1 false (.t 18), none⟩,
   ⟨some 20, .mv (.t 1), none⟩,
   ⟨some 21, .mv (.t 5), none⟩,
   ⟨some 22, .iaddr none 1 (.t 20) (.t 21), none⟩,
   ⟨some 23, .load 1 false (.t 22), none⟩,
   ⟨some 24, .bin .neq (.t 19) (.t 23), none⟩]
 [[], [], [0, 1], [0, 1, 2], [], [], [4, 5], [4, 5, 6], [0, 1, 2, 3, 4, 5, 6, 7]] [] [0, 1, 2, 3, 4, 5, 6, 7, 8])
 (.cond (.t 24) (.seq (.region [
     ⟨some 4, .mv (.k (.bool false)), none⟩])
   (.ret))
   (.skip)))))
 (.region [
   ⟨some 25, .bin .add (.t 13) (.k (.int .i64 1)), none⟩,
   ⟨some 13, .mv (.t 25), none⟩])))))))
 (.seq (.region [
   ⟨some 4, .mv (.k (.bool true)), none⟩])
 (.ret))))⟩
theorem eq_slices_Equal___byte_byte_ (Φ : Calls') (a0 a1 : AV) (H : AH) (Q : Post) : fnE1 Φ ir_slices_Equal___byte_byte_ [a0, a1] H Q = slices_Equal___byte_byte_ Φ a0 a1 H Q := by kernel_rfl

/-! slices.Equal[[]int,int] -/
def slices_Equal___int_int__l1 (Φ : Calls') (a0 : AV) (a1 : AV) (x4 : AV) (Q : Post) : (List AV × AH) → ((List AV × AH) → Prop) → Prop := fun s5 L6 =>
 Do (abin .lss (sl s5.1 0) x4) fun x7 =>
 Gd x7 true (
 Do (aiaddr none 1 a0 (sl s5.1 0)) fun x8 =>
 Do (aload s5.2 1 false x8) fun x9 =>
 Do (aiaddr none 1 a1 (sl s5.1 0)) fun x10 =>
 Do (aload s5.2 1 false x10) fun x11 =>
 Do (abin .neq x9 x11) fun x12 =>
 Gd x12 true (
 Q (.bool false) s5.2) (
 Do (abin .add (sl s5.1 0) (.int .i64 1)) fun x13 =>
 L6 ([x13], s5.2))) (
 Q (.bool true) s5.2)
def slices_Equal___int_int_ (Φ : Calls') (a0 : AV) (a1 : AV) (H : AH) (Q : Post) : Prop :=
 Do (alen false a0) fun x1 =>
 Do (alen false a1) fun x2 =>
 Do (abin .neq x1 x2) fun x3 =>
 Gd x3 true (
 Q (.bool false) H) (
 Do (alen false a0) fun x4 =>
 LoopP (slices_Equal___int_int__l1 Φ a0 a1 x4 Q) ([(.int .i64 0)], H))
def ir_slices_Equal___int_int_ : AFunc := ⟨26, [.tmp 4],
 .seq (.region [
   ⟨some 4, .mv (.k (.bool false)), none⟩])
 (.seq (.seq (.region [
   ⟨some 6, .mv (.t 0), none⟩,
   ⟨some 7, .len false (.t 6), none⟩,
   ⟨some 8, .mv (.t 1), none⟩,
   ⟨some 9, .len false (.t 8), none⟩,
   ⟨some 10, .bin .neq (.t 7) (.t 9), none⟩])
 (.cond (.t 10) (.seq (.region [
     ⟨some 4, .mv (.k (.bool false)), none⟩])
   (.ret))
   (.skip)))
 (.seq (.seq (.region [
   ⟨some 11, .mv (.t 0), none⟩,
   ⟨some 12, .len false (.t 11), none⟩,
   ⟨some 13, .mv (.k (.int .i64 0)), none⟩])
 (.block 0 (.loop [13] [4, 5, 14, 15, 16, 17, 18, 19, 20, 21, 22, 23, 24, 25] (.seq (.region [
   ⟨some 14, .bin .lss (.t 13) (.t 12), none⟩])
 (.seq (.cond (.t 14) (.skip)
   (.exit 0))
 (.seq (.block 1 (.seq (.region [
   ⟨some 15, .mv (.t 13), none⟩,
   ⟨some 5, .mv (.t 15), none⟩])
 (.seq (.draw [
   ⟨some 16, .mv (.t 0), none⟩,
   ⟨some 17, .mv (.t 5), none⟩,
   ⟨some 18, .iaddr none 1 (.t 16) (.t 17), none⟩,
   ⟨some 19, .load 1 false (.t 18), none⟩,
   ⟨some 20, .mv (.t 1), none⟩,
   ⟨some 21, .mv (.t 5), none⟩,
   ⟨some 22, .iaddr none 1 (.t 20) (.t 21), none⟩,
   ⟨some 23, .load 1 false (.t 22), none⟩,
   ⟨some 24, .bin .neq (.t 19) (.t 23), none⟩]
 [[], [], [0, 1], [0, 1, 2], [], [], [4, 5], [4, 5, 6], [0, 1, 2, 3, 4, 5, 6, 7]] [] [0, 1, 2, 3, 4, 5, 6, 7, 8])
 (.cond (.t 24) (.seq (.region [
     ⟨some 4, .mv (.k (.bool false)), none⟩])
   (.ret))
   (.skip)))))
 (.region [
   ⟨some 25, .bin .add (.t 13) (.k (.int .i64 1)), none⟩,
   ⟨some 13, .mv (.t 25), none⟩])))))))
 (.seq (.region [
   ⟨some 4, .mv (.k (.bool true)), none⟩])
 (.ret))))⟩
theorem eq_slices_Equal___int_int_ (Φ : Calls') (a0 a1 : AV) (H : AH) (Q : Post) : fnE1 Φ ir_slices_Equal___int_int_ [a0, a1] H Q = slices_Equal___int_int_ Φ a0 a1 H Q := by kernel_rfl

/-! slices.EqualFunc[[][]uint64,[][]uint64,[]uint64,[]uint64] -/
def slices_EqualFunc_____uint64_____uint64___uint64___uint64__l1 (Φ : Calls') (a0 : AV) (a1 : AV) (a2 : AV) (x4 : AV) (Q : Post) : (List AV × AH) → ((List AV × AH) → Prop) → Prop := fun s5 L6 =>
 Do (abin .lss (sl s5.1 0) x4) fun x7 =>
 Gd x7 true (
 Do (aiaddr none 1 a0 (sl s5.1 0)) fun x8 =>
 Do (aload s5.2 1 false x8) fun x9 =>
 Do (aiaddr none 1 a1 (sl s5.1 0)) fun x10 =>
 Do (aload s5.2 1 false x10) fun x11 =>
∃ k14 c15, a2 = .fn k14 c15 ∧ Φ k14 ([x9, x11] ++ c15) s5.2 fun x12 H13 =>
 Do (aun .not x12) fun x16 =>
 Gd x16 true (
 Q (.bool false) H13) (
 Do (abin .add (sl s5.1 0) (.int .i64 1)) fun x17 =>
 L6 ([x17], H13))) (
 Q (.bool true) s5.2)
def slices_EqualFunc_____uint64_____uint64___uint64___uint64_ (Φ : Calls') (a0 : AV) (a1 : AV) (a2 : AV) (H : AH) (Q : Post) : Prop :=
 Do (alen false a0) fun x1 =>
 Do (alen false a1) fun x2 =>
 Do (abin .neq x1 x2) fun x3 =>
 Gd x3 true (
 Q (.bool false) H) (
 Do (alen false a0) fun x4 =>
 LoopP (slices_EqualFunc_____uint64_____uint64___uint64___uint64__l1 Φ a0 a1 a2 x4 Q) ([(.int .i64 0)], H))
def ir_slices_EqualFunc_____uint64_____uint64___uint64___uint64_ : AFunc := ⟨32, [.tmp 6],
 .seq (.region [
   ⟨some 6, .mv (.k (.bool false)), none⟩])
 (.seq (.seq (.region [
   ⟨some 10, .mv (.t 0), none⟩,
   ⟨some 11, .len false (.t 10), none⟩,
   ⟨some 12, .mv (.t 1), none⟩,
   ⟨some 13, .len false (.t 12), none⟩,
   ⟨some 14, .bin .neq (.t 11) (.t 13), none⟩])
 (.cond (.t 14) (.seq (.region [
     ⟨some 6, .mv (.k (.bool false)), none⟩])
   (.ret))
   (.skip)))
 (.seq (.seq (.region [
   ⟨some 15, .mv (.t 0), none⟩,
   ⟨some 16, .len false (.t 15), none⟩,
   ⟨some 17, .mv (.k (.int .i64 0)), none⟩])
 (.block 0 (.loop [17] [6, 7, 8, 9, 18, 19, 20, 21, 22, 23, 24, 25, 26, 27, 28, 29, 30, 31] (.seq (.region [
   ⟨some 18, .bin .lss (.t 17) (.t 16), none⟩])
 (.seq (.cond (.t 18) (.skip)
   (.exit 0))
 (.seq (.block 1 (.seq (.region [
   ⟨some 19, .mv (.t 17), none⟩,
   ⟨some 20, .iaddr none 1 (.t 15) (.t 17), none⟩,
   ⟨some 21, .load 1 false (.t 20), none⟩,
   ⟨some 7, .mv (.t 19), none⟩,
   ⟨some 8, .mv (.t 21), none⟩])
 (.seq (.region [
   ⟨some 22, .mv (.t 1), none⟩,
   ⟨some 23, .mv (.t 7), none⟩,
   ⟨some 24, .iaddr none 1 (.t 22) (.t 23), none⟩,
   ⟨some 25, .load 1 false (.t 24), none⟩,
   ⟨some 9, .mv (.t 25), none⟩])
 (.seq (.region [
   ⟨some 26, .mv (.t 2), none⟩,
   ⟨some 27, .mv (.t 8), none⟩,
   ⟨some 28, .mv (.t 9), none⟩,
   ⟨some 29, .callv (.t 26) [(.t 27), (.t 28)], none⟩,
   ⟨some 30, .un .not (.t 29), none⟩])
 (.cond (.t 30) (.seq (.region [
     ⟨some 6, .mv (.k (.bool false)), none⟩])
   (.ret))
   (.skip))))))
 (.region [
   ⟨some 31, .bin .add (.t 17) (.k (.int .i64 1)), none⟩,
   ⟨some 17, .mv (.t 31), none⟩])))))))
 (.seq (.region [
   ⟨some 6, .mv (.k (.bool true)), none⟩])
 (.ret))))⟩
theorem eq_slices_EqualFunc_____uint64_____uint64___uint64___uint64_ (Φ : Calls') (a0 a1 a2 : AV) (H : AH) (Q : Post) : fnE1 Φ ir_slices_EqualFunc_____uint64_____uint64___uint64___uint64_ [a0, a1, a2] H Q = slices_EqualFunc_____uint64_____uint64___uint64___uint64_ Φ a0 a1 a2 H Q := by kernel_rfl

/-! slices.Equal[[]uint64,uint64] -/
def slices_Equal___uint64_uint64__l1 (Φ : Calls') (a0 : AV) (a1 : AV) (x4 : AV) (Q : Post) : (List AV × AH) → ((List AV × AH) → Prop) → Prop := fun s5 L6 =>
 Do (abin .lss (sl s5.1 0) x4) fun x7 =>
 Gd x7 true (
 Do (aiaddr none 1 a0 (sl s5.1 0)) fun x8 =>
 Do (aload s5.2 1 false x8) fun x9 =>
 Do (aiaddr none 1 a1 (sl s5.1 0)) fun x10 =>
 Do (aload s5.2 1 false x10) fun x11 =>
 Do (abin .neq x9 x11) fun x12 =>
 Gd x12 true (
 Q (.bool false) s5.2) (
 Do (abin .add (sl s5.1 0) (.int .i64 1)) fun x13 =>
 L6 ([x13], s5.2))) (
 Q (.bool true) s5.2)
def slices_Equal___uint64_uint64_ (Φ : Calls') (a0 : AV) (a1 : AV) (H : AH) (Q : Post) : Prop :=
 Do (alen false a0) fun x1 =>
 Do (alen false a1) fun x2 =>
 Do (abin .neq x1 x2) fun x3 =>
 Gd x3 true (
 Q (.bool false) H) (
 Do (alen false a0) fun x4 =>
 LoopP (slices_Equal___uint64_uint64__l1 Φ a0 a1 x4 Q) ([(.int .i64 0)], H))
def ir_slices_Equal___uint64_uint64_ : AFunc := ⟨26, [.tmp 4],
 .seq (.region [
   ⟨some 4, .mv (.k (.bool false)), none⟩])
 (.seq (.seq (.region [
   ⟨some 6, .mv (.t 0), none⟩,
   ⟨some 7, .len false (.t 6), none⟩,
   ⟨some 8, .mv (.t 1), none⟩,
   ⟨some 9, .len false (.t 8), none⟩,
   ⟨some 10, .bin .neq (.t 7) (.t 9), none⟩])
 (.cond (.t 10) (.seq (.region [
     ⟨some 4, .mv (.k (.bool false)), none⟩])
   (.ret))
   (.skip)))
 (.seq (.seq (.region [
   ⟨some 11, .mv (.t 0), none⟩,
   ⟨some 12, .len false (.t 11), none⟩,
   ⟨some 13, .mv (.k (.int .i64 0)), none⟩])
 (.block 0 (.loop [13] [4, 5, 14, 15, 16, 17, 18, 19, 20, 21, 22, 23, 24, 25] (.seq (.region [
   ⟨some 14, .bin .lss (.t 13) (.t 12), none⟩])
 (.seq (.cond (.t 14) (.skip)
   (.exit 0))
 (.seq (.block 1 (.seq (.region [
   ⟨some 15, .mv (.t 13), none⟩,
   ⟨some 5, .mv (.t 15), none⟩])
 (.seq (.draw [
   ⟨some 16, .mv (.t 0), none⟩,
   ⟨some 17, .mv (.t 5), none⟩,
   ⟨some 18, .iaddr none 1 (.t 16) (.t 17), none⟩,
   ⟨some 19, .load 1 false (.t 18), none⟩,
   ⟨some 20, .mv (.t 1), none⟩,
   ⟨some 21, .mv (.t 5), none⟩,
   ⟨some 22, .iaddr none 1 (.t 20) (.t 21), none⟩,
   ⟨some 23, .load 1 false (.t 22), none⟩,
   ⟨some 24, .bin .neq (.t 19) (.t 23), none⟩]
 [[], [], [0, 1], [0, 1, 2], [], [], [4, 5], [4, 5, 6], [0, 1, 2, 3, 4, 5, 6, 7]] [] [0, 1, 2, 3, 4, 5, 6, 7, 8])
 (.cond (.t 24) (.seq (.region [
     ⟨some 4, .mv (.k (.bool false)), none⟩])
   (.ret))
   (.skip)))))
 (.region [
   ⟨some 25, .bin .add (.t 13) (.k (.int .i64 1)), none⟩,
   ⟨some 13, .mv (.t 25), none⟩])))))))
 (.seq (.region [
   ⟨some 4, .mv (.k (.bool true)), none⟩])
 (.ret))))⟩
theorem eq_slices_Equal___uint64_uint64_ (Φ : Calls') (a0 a1 : AV) (H : AH) (Q : Post) : fnE1 Φ ir_slices_Equal___uint64_uint64_ [a0, a1] H Q = slices_Equal___uint64_uint64_ Φ a0 a1 H Q := by kernel_rfl

def tab_T20 : Tab := [
  (K.rabbetlaw20_TurnSame, ir_rabbetlaw20_TurnSame),
  (K.rabbetref01_Ints, ir_rabbetref01_Ints),
  (K.rabbetref01_Same, ir_rabbetref01_Same),
  (K.turn_Same, ir_turn_Same),
  (K.slices_Equal___byte_byte_, ir_slices_Equal___byte_byte_),
  (K.slices_Equal___int_int_, ir_slices_Equal___int_int_),
  (K.slices_EqualFunc_____uint64_____uint64___uint64___uint64_, ir_slices_EqualFunc_____uint64_____uint64___uint64___uint64_),
  (K.slices_Equal___uint64_uint64_, ir_slices_Equal___uint64_uint64_)]

theorem cl_rabbetlaw20_TurnSame {Φ : Calls'} (hT : Cl Φ tab_T20) {a0 a1 : AV} {H : AH} {Q : Post} (h : rabbetlaw20_TurnSame Φ a0 a1 H Q) : Φ K.rabbetlaw20_TurnSame [a0, a1] H Q := hT.call (by kernel_rfl) (by kernel_rfl) (by rw [eq_rabbetlaw20_TurnSame]; exact h)
theorem cl_rabbetref01_Ints {Φ : Calls'} (hT : Cl Φ tab_T20) {a0 a1 : AV} {H : AH} {Q : Post} (h : rabbetref01_Ints Φ a0 a1 H Q) : Φ K.rabbetref01_Ints [a0, a1] H Q := hT.call (by kernel_rfl) (by kernel_rfl) (by rw [eq_rabbetref01_Ints]; exact h)
theorem cl_rabbetref01_Same {Φ : Calls'} (hT : Cl Φ tab_T20) {a0 a1 : AV} {H : AH} {Q : Post} (h : rabbetref01_Same Φ a0 a1 H Q) : Φ K.rabbetref01_Same [a0, a1] H Q := hT.call (by kernel_rfl) (by kernel_rfl) (by rw [eq_rabbetref01_Same]; exact h)
theorem cl_turn_Same {Φ : Calls'} (hT : Cl Φ tab_T20) {a0 a1 : AV} {H : AH} {Q : Post} (h : turn_Same Φ a0 a1 H Q) : Φ K.turn_Same [a0, a1] H Q := hT.call (by kernel_rfl) (by kernel_rfl) (by rw [eq_turn_Same]; exact h)
theorem cl_slices_Equal___byte_byte_ {Φ : Calls'} (hT : Cl Φ tab_T20) {a0 a1 : AV} {H : AH} {Q : Post} (h : slices_Equal___byte_byte_ Φ a0 a1 H Q) : Φ K.slices_Equal___byte_byte_ [a0, a1] H Q := hT.call (by kernel_rfl) (by kernel_rfl) (by rw [eq_slices_Equal___byte_byte_]; exact h)
theorem cl_slices_Equal___int_int_ {Φ : Calls'} (hT : Cl Φ tab_T20) {a0 a1 : AV} {H : AH} {Q : Post} (h : slices_Equal___int_int_ Φ a0 a1 H Q) : Φ K.slices_Equal___int_int_ [a0, a1] H Q := hT.call (by kernel_rfl) (by kernel_rfl) (by rw [eq_slices_Equal___int_int_]; exact h)
theorem cl_slices_EqualFunc_____uint64_____uint64___uint64___uint64_ {Φ : Calls'} (hT : Cl Φ tab_T20) {a0 a1 a2 : AV} {H : AH} {Q : Post} (h : slices_EqualFunc_____uint64_____uint64___uint64___uint64_ Φ a0 a1 a2 H Q) : Φ K.slices_EqualFunc_____uint64_____uint64___uint64___uint64_ [a0, a1, a2] H Q := hT.call (by kernel_rfl) (by kernel_rfl) (by rw [eq_slices_EqualFunc_____uint64_____uint64___uint64___uint64_]; exact h)
theorem cl_slices_Equal___uint64_uint64_ {Φ : Calls'} (hT : Cl Φ tab_T20) {a0 a1 : AV} {H : AH} {Q : Post} (h : slices_Equal___uint64_uint64_ Φ a0 a1 H Q) : Φ K.slices_Equal___uint64_uint64_ [a0, a1] H Q := hT.call (by kernel_rfl) (by kernel_rfl) (by rw [eq_slices_Equal___uint64_uint64_]; exact h)
end Rb.S

/- The texts are the program's. By spec.py. -/
set_option linter.unusedVariables false
namespace Go.Proofs.YtklmnikdhpkifaaGreatDoor.rb
open Rb
theorem cl_T20 : Cl (ACall C) S.tab_T20 := Cl.of (ACall_mono C) (closed_of (idC_fok _ _) (by kernel_rfl))
end Go.Proofs.YtklmnikdhpkifaaGreatDoor.rb

/- From what a law's function does to the statement. -/
set_option linter.unusedVariables false
namespace Rb
open Go Go.RowKit

/-- All that is there may be read, and nothing is written: frozen. -/
def allFz (W : World) : Nat → Nat → Prop := fun b o => ∃ V, W.cell? ⟨b, o, none⟩ = some V

theorem law_calls {C : Ctx} {key : Nat} {f : FuncId} {args : List AV} {Vs : Array Value} {W : World} (hf : C.F key = some f) (h : ACall C key args AH.mt (fun v _ => v = .bool true)) (hG : GOK C W (Ghost.mt (allFz W)))
    (hargs : VRs C.F W (Ghost.mt (allFz W)) args Vs) : Calls C.P f Vs W fun e W' => e = .returned (.bool true) ∧ Below W.heap.size W W' := by
  refine Calls.mono (h f hf _ W Vs hG (Rel.mt fun _ _ h => h) hargs) fun e w' he => ?_
  obtain ⟨V, v, H', G', rfl, rfl, hv, _, hst⟩ := he
  obtain rfl := hv.bool_inv
  exact ⟨rfl, hst.below⟩

/-- A variable that holds small numbers. -/
theorem fptr_of_tab {F : FTab} {W : World} {g : Nat} {k : IntKind} {zs : List Int} (h : ∀ i, i < zs.length → W.cell? ⟨g, i, none⟩ = some (.int k (zs.getD i 0))) : VR F W (Ghost.mt (allFz W)) (.fptr (zs.map (.int k))) (.pointer (some ⟨g, 0, none⟩)) := by
  refine .fptr _ g 0 (fun j => .int k (zs.getD j 0)) (fun j c hj => ?_) fun j c hj => ?_
  · have hl : j < zs.length := by simpa using (List.getElem?_eq_some_iff.1 hj).1
    rw [Nat.zero_add]
    exact ⟨⟨_, h j hl⟩, h j hl⟩
  · have hl : j < zs.length := by simpa using (List.getElem?_eq_some_iff.1 hj).1
    have : c = .int k (zs.getD j 0) := by
      rw [List.getElem?_map, List.getElem?_eq_getElem hl] at hj
      simp only [Option.map_some, Option.some.injEq] at hj
      rw [← hj, List.getD_eq_getElem?_getD, List.getElem?_eq_getElem hl]; rfl
    rw [this]
    exact .int _ _

theorem VRs.two {F : FTab} {w : World} {G : Ghost} {c d : AV} {V U : Value} (h : VR F w G c V) (h' : VR F w G d U) : VRs F w G [c, d] #[V, U] := ⟨rfl, fun j c' V' hc hV => by
  rcases j with _ | _ | j
  · simp at hc hV; subst hc; subst hV; exact h
  · simp at hc hV; subst hc; subst hV; exact h'
  · simp at hc⟩
theorem VRs.three {F : FTab} {w : World} {G : Ghost} {c d e : AV} {V U X : Value} (h : VR F w G c V) (h' : VR F w G d U) (h'' : VR F w G e X) : VRs F w G [c, d, e] #[V, U, X] := ⟨rfl, fun j c' V' hc hV => by
  rcases j with _ | _ | _ | j
  · simp at hc hV; subst hc; subst hV; exact h
  · simp at hc hV; subst hc; subst hV; exact h'
  · simp at hc hV; subst hc; subst hV; exact h''
  · simp at hc⟩

theorem VR_string {F : FTab} {w : World} {G : Ghost} (b : ByteArray) : VR F w G (.str b.data.toList) (.string b) := by
  have h : (⟨b.data.toList.toArray⟩ : ByteArray) = b := by cases b; simp
  have := VR.str (F := F) (w := w) (G := G) b.data.toList
  rwa [h] at this

theorem asciiSpace_eq : asciiSpace = (Go.Lib.asciiSpaceTab.map (AV.int .u8)) := by kernel_rfl
end Rb

/- What comes in as data, as abstract values: typed readings. -/
set_option linter.unusedVariables false
set_option linter.unusedSimpArgs false
namespace Rb
open Go Go.RowKit

section
variable {H : Type} {enc : TypeId × Value → H} {P : Program} {w : World} {sp : Nat → Bool} {held : Bool} {F : FTab}

/-- A type's cells, read as data with so much fuel, are those of a typed value. -/
def Dec (F : FTab) (enc : TypeId × Value → H) (P : Program) (w : World) (sp : Nat → Bool) (held : Bool) (n : Nat) (t : TypeId) {α : Type} (cells : α → List AV) (ok : α → Prop) : Prop :=
  ∀ fuel, fuel ≤ n → ∀ cs d ps, DataW.trod enc P w 0 sp held fuel t cs = some (d, ps) → ∃ x, ok x ∧ VRs F w (Ghost.mt (allFz w)) (cells x) cs.toArray

theorem Dec.mono {n m : Nat} {t : TypeId} {α : Type} {cells : α → List AV} {ok : α → Prop} (h : Dec F enc P w sp held n t cells ok) (hm : m ≤ n) : Dec F enc P w sp held m t cells ok :=
  fun fuel hf cs d ps ht => h fuel (Nat.le_trans hf hm) cs d ps ht

theorem Dec.zero {t : TypeId} {α : Type} {cells : α → List AV} {ok : α → Prop} : Dec F enc P w sp held 0 t cells ok := by
  intro fuel hf cs d ps h
  obtain rfl : fuel = 0 := by omega
  simp [DataW.trod] at h

theorem Dec.int {n : Nat} {t : TypeId} {k : IntKind} (ht : P.underlying t = some (.int k)) : Dec F enc P w sp held n t (fun z : Int => [.int k z]) (fun z => k.min ≤ z ∧ z ≤ k.max) := by
  intro fuel _ cs d ps h
  obtain ⟨z, rfl, _, hw⟩ := DataW.trod_int ht h
  exact ⟨z, by simpa [Lit.wf] using hw, VRs.one (.int _ _)⟩

theorem Dec.bool {n : Nat} {t : TypeId} (ht : P.underlying t = some .bool) : Dec F enc P w sp held n t (fun z : Bool => [.bool z]) (fun _ => True) := by
  intro fuel _ cs d ps h
  obtain ⟨z, rfl, _⟩ := DataW.trod_bool ht h
  exact ⟨z, trivial, VRs.one (.bool _)⟩

theorem Dec.string {n : Nat} {t : TypeId} (ht : P.underlying t = some .string) : Dec F enc P w sp held n t (fun z : List UInt8 => [.str z]) (fun z => z.length ≤ maxLen) := by
  intro fuel _ cs d ps h
  obtain ⟨s, rfl, _, hl⟩ := DataW.trod_string ht h
  exact ⟨s.data.toList, by simpa using hl, VRs.one (VR_string s)⟩

/-- A slice of such. -/
def lstA {α : Type} (cells : α → List AV) (xs : List α) : AV := .lst .dead xs.length (xs.flatMap cells)

theorem exists_list {α : Type} {p : Nat → α → Prop} : ∀ (n : Nat), (∀ i, i < n → ∃ x, p i x) → ∃ xs : List α, xs.length = n ∧ ∀ i x, xs[i]? = some x → p i x := by
  intro n
  induction n with
  | zero => intro _; exact ⟨[], rfl, fun i x h => by simp at h⟩
  | succ n ih =>
    intro h
    obtain ⟨xs, hl, hx⟩ := ih fun i hi => h i (by omega)
    obtain ⟨y, hy⟩ := h n (by omega)
    refine ⟨xs ++ [y], by simp [hl], fun i x hi => ?_⟩
    by_cases hlt : i < n
    · rw [List.getElem?_append_left (by omega)] at hi
      exact hx i x hi
    · rw [List.getElem?_append_right (by omega)] at hi
      have : i - xs.length = 0 := by
        rcases Nat.eq_zero_or_pos (i - xs.length) with h | h
        · exact h
        · rw [List.getElem?_eq_none (by simp; omega)] at hi; cases hi
      rw [this] at hi
      simp at hi
      subst hi
      have : i = n := by omega
      rw [this]; exact hy

theorem flat_get {α : Type} {cells : α → List AV} {sz : Nat} (hc : ∀ x, (cells x).length = sz) : ∀ (xs : List α) (j : Nat) (c : AV), (xs.flatMap cells)[j]? = some c → ∃ i k x, j = i * sz + k ∧ k < sz ∧ xs[i]? = some x ∧ (cells x)[k]? = some c := by
  intro xs
  induction xs with
  | nil => intro j c h; simp at h
  | cons y ys ih =>
    intro j c h
    rw [List.flatMap_cons] at h
    by_cases hj : j < sz
    · rw [List.getElem?_append_left (by rw [hc]; exact hj)] at h
      exact ⟨0, j, y, by omega, hj, rfl, h⟩
    · rw [List.getElem?_append_right (by rw [hc]; omega), hc] at h
      obtain ⟨i, k, x, h1, h2, h3, h4⟩ := ih _ _ h
      refine ⟨i + 1, k, x, ?_, h2, by simpa using h3, h4⟩
      rw [Nat.add_mul]; omega

theorem add_at {b o m : Nat} : (Addr.mk b o none).add m = ⟨b, o + m, none⟩ := by
  unfold Addr.add
  split
  · rename_i h; subst h; rfl
  · rfl

theorem Dec.slice {n : Nat} {t e : TypeId} {α : Type} {cells : α → List AV} {ok : α → Prop} (ht : P.underlying t = some (.slice e)) {sz : Nat} (hs : P.cellsOf e = sz) (hz : 0 < sz) (hc : ∀ x, (cells x).length = sz) (h : Dec F enc P w sp held n e cells ok) :
    Dec F enc P w sp held (n + 1) t (fun xs : List α => [lstA cells xs]) (fun xs => xs.length ≤ maxLen ∧ ∀ x ∈ xs, ok x) := by
  intro fuel hf cs d ps hd
  rcases DataW.trod_slice ht hd with ⟨rfl, _⟩ | ⟨a, len, cap, elems, rest, m, rfl, rfl, _, _, hle, hcap, hel, helems, _⟩
  · exact ⟨[], ⟨Nat.zero_le _, by simp⟩, VRs.one (.lst0 _ _)⟩
  · have each : ∀ i, i < len → ∃ x, ok x ∧ ∃ ci, w.cells? 0 (a.add (i * sz)) sz = some ci ∧ VRs F w (Ghost.mt (allFz w)) (cells x) ci.toArray := by
      intro i hi
      have h1 := helems i hi
      rw [List.getElem?_eq_getElem (by omega), hs] at h1
      obtain ⟨ci, h2, h3⟩ := Option.bind_eq_some_iff.1 h1
      obtain ⟨x, hx, hv⟩ := h m (by omega) ci _ _ h3
      exact ⟨x, hx, ci, h2, hv⟩
    obtain ⟨xs, hl, hx⟩ := exists_list len each
    refine ⟨xs, ⟨by omega, fun x hxm => ?_⟩, VRs.one ?_⟩
    · obtain ⟨i, hi, e⟩ := List.mem_iff_getElem.1 hxm
      exact (hx i x (by rw [List.getElem?_eq_getElem hi, e])).1
    · rcases Nat.eq_zero_or_pos len with h0 | h0
      · subst h0
        obtain rfl := List.length_eq_zero_iff.1 hl
        exact .lst0 _ _
      · -- the address is plain
        have hsp : a.spot = none := by
          obtain ⟨x, _, ci, h2, _⟩ := each 0 h0
          obtain ⟨_, h3, h4⟩ := World.cells?_some h2
          have h5 := h4 0 hz
          rw [List.getElem?_eq_getElem (by omega)] at h5
          rw [Nat.zero_mul] at h5
          have e0 : (a.add 0).add 0 = a := by simp [Addr.add]
          rw [e0] at h5
          unfold World.cell? at h5
          split at h5
          · split at h5
            · cases h5
            · rename_i hn; cases ha : a.spot with
              | none => rfl
              | some _ => rw [ha] at hn; simp at hn
          · cases h5
        obtain ⟨b, o, spt⟩ := a
        simp only at hsp
        subst hsp
        have key : ∀ (j : Nat) (c : AV), (xs.flatMap cells)[j]? = some c → ∃ V, w.cell? ⟨b, o + j, none⟩ = some V ∧ VR F w (Ghost.mt (allFz w)) c V := by
          intro j c hj
          obtain ⟨i, k, x, rfl, hk, hxi, hck⟩ := flat_get hc xs j c hj
          obtain ⟨_, ci, h2, hv⟩ := hx i x hxi
          obtain ⟨_, h3, h4⟩ := World.cells?_some h2
          have h5 := h4 k hk
          rw [add_at, add_at, List.getElem?_eq_getElem (by omega)] at h5
          refine ⟨ci[k], by rw [← Nat.add_assoc]; exact h5, hv.2 k c _ hck (by simp [List.getElem?_eq_getElem (show k < ci.length by omega)])⟩
        unfold lstA
        rw [hl]
        refine .lst .dead len _ b o cap (fun j => (w.cell? ⟨b, o + j, none⟩).getD undef) trivial hle (fun j c hj => ?_) fun j c hj => ?_
        · obtain ⟨V, h1, _⟩ := key j c hj
          exact ⟨⟨V, h1⟩, by rw [h1]; rfl⟩
        · obtain ⟨V, h1, h2⟩ := key j c hj
          rw [h1]; exact h2

/-! Structs: their fields, one behind the other -/
def chainB (P : Program) : Nat → List (TypeId × Nat) → Bool
  | _, [] => true
  | off, (t, o) :: r => o == off && chainB P (off + P.cellsOf t) r
def totC (P : Program) : List (TypeId × Nat) → Nat
  | [] => 0
  | (t, _) :: r => P.cellsOf t + totC P r

def DecL (F : FTab) (enc : TypeId × Value → H) (P : Program) (w : World) (sp : Nat → Bool) (held : Bool) (n : Nat) (L : List (TypeId × Nat)) {α : Type} (cells : α → List AV) (ok : α → Prop) : Prop :=
  ∀ m, m ≤ n → ∀ (off : Nat) (cs : List Value), chainB P off L = true → (∀ f ∈ L, ∃ y, DataW.trod enc P w 0 sp held m f.1 ((cs.drop f.2).take (P.cellsOf f.1)) = some y) →
    ∃ x, ok x ∧ VRs F w (Ghost.mt (allFz w)) (cells x) ((cs.drop off).take (totC P L)).toArray

theorem DecL.nil {n : Nat} : DecL F enc P w sp held n [] (fun _ : Unit => []) (fun _ => True) := by
  intro m _ off cs _ _
  exact ⟨(), trivial, by simp only [totC, List.take_zero]; exact VRs.nil⟩

theorem DecL.cons {n : Nat} {t : TypeId} {o : Nat} {L : List (TypeId × Nat)} {α β : Type} {c1 : α → List AV} {c2 : β → List AV} {o1 : α → Prop} {o2 : β → Prop} (h1 : Dec F enc P w sp held n t c1 o1) (h2 : DecL F enc P w sp held n L c2 o2) :
    DecL F enc P w sp held n ((t, o) :: L) (fun x : α × β => c1 x.1 ++ c2 x.2) (fun x => o1 x.1 ∧ o2 x.2) := by
  intro m hm off cs hch hf
  simp only [chainB, Bool.and_eq_true, beq_iff_eq] at hch
  obtain ⟨rfl, hch⟩ := hch
  obtain ⟨⟨d, ps⟩, hy⟩ := hf (t, o) (by simp)
  obtain ⟨x, hx, hv⟩ := h1 m hm _ _ _ hy
  obtain ⟨y, hy2, hv2⟩ := h2 m hm _ cs hch fun f hfm => hf f (by simp [hfm])
  refine ⟨(x, y), ⟨hx, hy2⟩, ?_⟩
  have e : ((cs.drop o).take (totC P ((t, o) :: L))) = (cs.drop o).take (P.cellsOf t) ++ (cs.drop (o + P.cellsOf t)).take (totC P L) := by
    simp only [totC]
    rw [List.take_add, List.drop_drop]
  rw [e]
  have := hv.app hv2
  simpa using this

theorem Dec.struct {n : Nat} {t : TypeId} {fs : Array Field} (ht : P.underlying t = some (.struct fs)) {L : List (TypeId × Nat)} (hL : fs.toList.map (fun f => (f.type, f.offset)) = L) (hch : chainB P 0 L = true) (htot : P.cellsOf t = totC P L)
    {α : Type} {cells : α → List AV} {ok : α → Prop} (h : DecL F enc P w sp held n L cells ok) : Dec F enc P w sp held (n + 1) t cells ok := by
  intro fuel hf cs d ps hd
  obtain ⟨xs, m, rfl, _, hlen, hxl, hfs⟩ := DataW.trod_struct ht hd
  obtain ⟨x, hx, hv⟩ := h m (by omega) 0 cs hch fun f hfm => by
    rw [← hL] at hfm
    obtain ⟨g, hg, rfl⟩ := List.mem_map.1 hfm
    obtain ⟨i, hi, e⟩ := List.mem_iff_getElem.1 hg
    have hi' : i < fs.size := by simpa using hi
    have h1 := hfs i g (by rw [Array.getElem?_eq_getElem hi']; congr 1)
    rw [List.getElem?_eq_getElem (by omega)] at h1
    exact ⟨_, h1⟩
  refine ⟨x, hx, ?_⟩
  rw [List.drop_zero, ← htot, ← hlen, List.take_length] at hv
  exact hv

/-- The same values, told otherwise. -/
theorem Dec.map {n : Nat} {t : TypeId} {α β : Type} {c1 : α → List AV} {c2 : β → List AV} {o1 : α → Prop} {o2 : β → Prop} (g : α → β) (hc : ∀ x, c2 (g x) = c1 x) (ho : ∀ x, o1 x → o2 (g x)) (h : Dec F enc P w sp held n t c1 o1) : Dec F enc P w sp held n t c2 o2 := by
  intro fuel hf cs d ps hd
  obtain ⟨x, hx, hv⟩ := h fuel hf cs d ps hd
  exact ⟨g x, ho x hx, by rw [hc]; exact hv⟩

/-- An argument of a law. -/
theorem Dec.arg {t : TypeId} {α : Type} {cells : α → List AV} {ok : α → Prop} (h : ∀ n, Dec F enc P w sp held n t cells ok) {v : Value} {d : DataW H} {ps : List MemPlace} (hd : DataW.Trod enc P w 0 sp held t v d ps) : ∃ x, ok x ∧ VRs F w (Ghost.mt (allFz w)) (cells x) v.cells := by
  obtain ⟨fuel, hf⟩ := hd
  obtain ⟨x, hx, hv⟩ := h fuel fuel (Nat.le_refl _) _ _ _ hf
  exact ⟨x, hx, by simpa using hv⟩
end
end Rb

/- The types of the api, as Lean's: types and their fields. -/
set_option linter.unusedVariables false
set_option linter.unusedSimpArgs false
namespace Rb
open Go
mutual
structure GType where
  kind : Int
  size : Int
  packed : Bool
  fields : List GField
  count : Int
  elem : List GType
structure GField where
  name : List UInt8
  type : GType
  bits : Bool
  width : Int
end
mutual
def GType.cells : GType → List AV
  | .mk kind size packed fields count elem => [.int .i64 kind, .int .i64 size, .bool packed, .lst .dead fields.length (GField.all fields), .int .i64 count, .lst .dead elem.length (GType.all elem)]
def GType.all : List GType → List AV
  | [] => []
  | x :: r => GType.cells x ++ GType.all r
def GField.cells : GField → List AV
  | .mk name type bits width => .str name :: (GType.cells type ++ [.bool bits, .int .i64 width])
def GField.all : List GField → List AV
  | [] => []
  | x :: r => GField.cells x ++ GField.all r
end
theorem GType.all_eq : ∀ xs : List GType, GType.all xs = xs.flatMap GType.cells
  | [] => rfl
  | x :: r => by rw [GType.all, GType.all_eq r, List.flatMap_cons]
theorem GField.all_eq : ∀ xs : List GField, GField.all xs = xs.flatMap GField.cells
  | [] => rfl
  | x :: r => by rw [GField.all, GField.all_eq r, List.flatMap_cons]
theorem GType.cells_eq (x : GType) : x.cells = [.int .i64 x.kind, .int .i64 x.size, .bool x.packed, lstA GField.cells x.fields, .int .i64 x.count, lstA GType.cells x.elem] := by
  cases x; simp only [GType.cells, GType.all_eq, GField.all_eq, lstA]
theorem GField.cells_eq (x : GField) : x.cells = .str x.name :: (x.type.cells ++ [.bool x.bits, .int .i64 x.width]) := by
  cases x; rfl
theorem GType.len (x : GType) : x.cells.length = 6 := by rw [GType.cells_eq]; rfl
theorem GField.len (x : GField) : x.cells.length = 9 := by rw [GField.cells_eq]; simp [GType.len]

def i64ok (z : Int) : Prop := -9223372036854775808 ≤ z ∧ z ≤ 9223372036854775807
mutual
/-- Numbers are such as the machine holds, lists not too long. -/
def GType.ok : GType → Prop
  | .mk kind size packed fields count elem => i64ok kind ∧ i64ok size ∧ fields.length ≤ maxLen ∧ GField.oks fields ∧ i64ok count ∧ elem.length ≤ maxLen ∧ GType.oks elem
def GType.oks : List GType → Prop
  | [] => True
  | x :: r => GType.ok x ∧ GType.oks r
def GField.ok : GField → Prop
  | .mk name type bits width => name.length ≤ maxLen ∧ GType.ok type ∧ i64ok width
def GField.oks : List GField → Prop
  | [] => True
  | x :: r => GField.ok x ∧ GField.oks r
end
theorem GType.oks_iff : ∀ {xs : List GType}, GType.oks xs ↔ ∀ x ∈ xs, x.ok
  | [] => by simp [GType.oks]
  | x :: r => by simp [GType.oks, GType.oks_iff (xs := r)]
theorem GField.oks_iff : ∀ {xs : List GField}, GField.oks xs ↔ ∀ x ∈ xs, x.ok
  | [] => by simp [GField.oks]
  | x :: r => by simp [GField.oks, GField.oks_iff (xs := r)]

section
variable {H : Type} {enc : TypeId × Value → H} {P : Program} {w : World} {sp : Nat → Bool} {held : Bool} {F : FTab}

/-- What a program must say of its types. -/
structure TyOK (P : Program) (ti tb ts tT tF sT sF : TypeId) (fT fF : Array Field) : Prop where
  int : P.underlying ti = some (.int .i64)
  bool : P.underlying tb = some .bool
  str : P.underlying ts = some .string
  typ : P.underlying tT = some (.struct fT)
  fld : P.underlying tF = some (.struct fF)
  slT : P.underlying sT = some (.slice tT)
  slF : P.underlying sF = some (.slice tF)
  lT : fT.toList.map (fun f => (f.type, f.offset)) = [(ti, 0), (ti, 1), (tb, 2), (sF, 3), (ti, 4), (sT, 5)]
  lF : fF.toList.map (fun f => (f.type, f.offset)) = [(ts, 0), (tT, 1), (tb, 7), (ti, 8)]
  cT : P.cellsOf tT = 6
  cF : P.cellsOf tF = 9
  c1 : ∀ t ∈ [ti, tb, ts, sT, sF], P.cellsOf t = 1

theorem Dec_type {ti tb ts tT tF sT sF : TypeId} {fT fF : Array Field} (h : TyOK P ti tb ts tT tF sT sF fT fF) : ∀ n, Dec F enc P w sp held n tT GType.cells GType.ok := by
  have c1 : P.cellsOf ti = 1 := h.c1 _ (by simp)
  have c2 : P.cellsOf tb = 1 := h.c1 _ (by simp)
  have c3 : P.cellsOf ts = 1 := h.c1 _ (by simp)
  have c4 : P.cellsOf sT = 1 := h.c1 _ (by simp)
  have c5 : P.cellsOf sF = 1 := h.c1 _ (by simp)
  have int : ∀ n, Dec F enc P w sp held n ti (fun z : Int => [.int .i64 z]) i64ok := fun n => Dec.map id (fun _ => rfl) (fun x hx => by
    simp only [IntKind.min, IntKind.max, IntKind.signed, IntKind.bits, if_true] at hx
    show -9223372036854775808 ≤ x ∧ x ≤ 9223372036854775807
    omega) (Dec.int h.int)
  intro n
  induction n using Nat.strongRecOn with
  | _ n ih =>
    cases n with
    | zero => exact Dec.zero
    | succ n =>
      have ihT : Dec F enc P w sp held n tT GType.cells GType.ok := ih n (by omega)
      have ihF : Dec F enc P w sp held n tF GField.cells GField.ok := by
        cases n with
        | zero => exact Dec.zero
        | succ n =>
          refine Dec.map (fun (x : List UInt8 × GType × Bool × Int × Unit) => (⟨x.1, x.2.1, x.2.2.1, x.2.2.2.1⟩ : GField)) (fun x => ?_) (fun x hx => ?_)
            (Dec.struct h.fld h.lF (by simp [chainB, c1, c2, c3, h.cT]) (by simp [totC, c1, c2, c3, h.cT, h.cF])
              (DecL.cons (Dec.string h.str) (DecL.cons (ih n (by omega)) (DecL.cons (Dec.bool h.bool) (DecL.cons (int n) DecL.nil)))))
          · simp [GField.cells]
          · exact ⟨hx.1, hx.2.1, hx.2.2.2.1⟩
      refine Dec.map (fun (x : Int × Int × Bool × List GField × Int × List GType × Unit) => (⟨x.1, x.2.1, x.2.2.1, x.2.2.2.1, x.2.2.2.2.1, x.2.2.2.2.2.1⟩ : GType)) (fun x => ?_) (fun x hx => ?_)
        (Dec.struct h.typ h.lT (by simp [chainB, c1, c2, c4, c5]) (by simp [totC, c1, c2, c4, c5, h.cT])
          (DecL.cons (int n) (DecL.cons (int n) (DecL.cons (Dec.bool h.bool) (DecL.cons (Dec.mono (Dec.slice h.slF h.cF (by decide) GField.len ihF) (Nat.le_succ n)) (DecL.cons (int n) (DecL.cons (Dec.mono (Dec.slice h.slT h.cT (by decide) GType.len ihT) (Nat.le_succ n)) DecL.nil)))))))
      · rw [GType.cells_eq]; rfl
      · obtain ⟨h1, h2, _, ⟨h3, h4⟩, h5, ⟨h6, h7⟩, _⟩ := hx
        exact ⟨h1, h2, h3, GField.oks_iff.2 h4, h5, h6, GType.oks_iff.2 h7⟩
end
end Rb

/- The types of the api, as Lean's: expressions, places, variables. -/
set_option linter.unusedVariables false
set_option linter.unusedSimpArgs false
namespace Rb
open Go
mutual
structure GExpr where
  kind : Int
  n : Int
  name : List UInt8
  op : Int
  order : Int
  place : GPlace
  kids : List GExpr
structure GPlace where
  var : List UInt8
  parts : List GPart
structure GPart where
  field : List UInt8
  index : List GExpr
end
mutual
def GExpr.cells : GExpr → List AV
  | .mk kind n name op order place kids => .int .i64 kind :: .int .u64 n :: .str name :: .int .i64 op :: .int .i64 order :: (GPlace.cells place ++ [.lst .dead kids.length (GExpr.all kids)])
def GExpr.all : List GExpr → List AV
  | [] => []
  | x :: r => GExpr.cells x ++ GExpr.all r
def GPlace.cells : GPlace → List AV
  | .mk var parts => [.str var, .lst .dead parts.length (GPart.all parts)]
def GPart.cells : GPart → List AV
  | .mk field index => [.str field, .lst .dead index.length (GExpr.all index)]
def GPart.all : List GPart → List AV
  | [] => []
  | x :: r => GPart.cells x ++ GPart.all r
end
theorem GExpr.all_eq : ∀ xs : List GExpr, GExpr.all xs = xs.flatMap GExpr.cells
  | [] => rfl
  | x :: r => by rw [GExpr.all, GExpr.all_eq r, List.flatMap_cons]
theorem GPart.all_eq : ∀ xs : List GPart, GPart.all xs = xs.flatMap GPart.cells
  | [] => rfl
  | x :: r => by rw [GPart.all, GPart.all_eq r, List.flatMap_cons]
theorem GPlace.cells_eq (x : GPlace) : x.cells = [.str x.var, lstA GPart.cells x.parts] := by
  cases x; simp only [GPlace.cells, GPart.all_eq, lstA]
theorem GPart.cells_eq (x : GPart) : x.cells = [.str x.field, lstA GExpr.cells x.index] := by
  cases x; simp only [GPart.cells, GExpr.all_eq, lstA]
theorem GExpr.cells_eq (x : GExpr) : x.cells = .int .i64 x.kind :: .int .u64 x.n :: .str x.name :: .int .i64 x.op :: .int .i64 x.order :: (x.place.cells ++ [lstA GExpr.cells x.kids]) := by
  cases x; simp only [GExpr.cells, GExpr.all_eq, lstA]
theorem GPlace.len (x : GPlace) : x.cells.length = 2 := by rw [GPlace.cells_eq]; rfl
theorem GPart.len (x : GPart) : x.cells.length = 2 := by rw [GPart.cells_eq]; rfl
theorem GExpr.len (x : GExpr) : x.cells.length = 8 := by rw [GExpr.cells_eq]; simp [GPlace.len]

def u64ok (z : Int) : Prop := 0 ≤ z ∧ z ≤ 18446744073709551615
mutual
def GExpr.ok : GExpr → Prop
  | .mk kind n name op order place kids => i64ok kind ∧ u64ok n ∧ name.length ≤ maxLen ∧ i64ok op ∧ i64ok order ∧ GPlace.ok place ∧ kids.length ≤ maxLen ∧ GExpr.oks kids
def GExpr.oks : List GExpr → Prop
  | [] => True
  | x :: r => GExpr.ok x ∧ GExpr.oks r
def GPlace.ok : GPlace → Prop
  | .mk var parts => var.length ≤ maxLen ∧ parts.length ≤ maxLen ∧ GPart.oks parts
def GPart.ok : GPart → Prop
  | .mk field index => field.length ≤ maxLen ∧ index.length ≤ maxLen ∧ GExpr.oks index
def GPart.oks : List GPart → Prop
  | [] => True
  | x :: r => GPart.ok x ∧ GPart.oks r
end
theorem GExpr.oks_iff : ∀ {xs : List GExpr}, GExpr.oks xs ↔ ∀ x ∈ xs, x.ok
  | [] => by simp [GExpr.oks]
  | x :: r => by simp [GExpr.oks, GExpr.oks_iff (xs := r)]
theorem GPart.oks_iff : ∀ {xs : List GPart}, GPart.oks xs ↔ ∀ x ∈ xs, x.ok
  | [] => by simp [GPart.oks]
  | x :: r => by simp [GPart.oks, GPart.oks_iff (xs := r)]

structure GVar where
  name : List UInt8
  type : GType
def GVar.cells (x : GVar) : List AV := .str x.name :: x.type.cells
theorem GVar.len (x : GVar) : x.cells.length = 7 := by simp [GVar.cells, GType.len]
def GVar.ok (x : GVar) : Prop := x.name.length ≤ maxLen ∧ x.type.ok

section
variable {H : Type} {enc : TypeId × Value → H} {P : Program} {w : World} {sp : Nat → Bool} {held : Bool} {F : FTab}

theorem Dec.i64 {n : Nat} {ti : TypeId} (h : P.underlying ti = some (.int .i64)) : Dec F enc P w sp held n ti (fun z : Int => [.int .i64 z]) i64ok := Dec.map id (fun _ => rfl) (fun x hx => by
    simp only [IntKind.min, IntKind.max, IntKind.signed, IntKind.bits, if_true] at hx
    show -9223372036854775808 ≤ x ∧ x ≤ 9223372036854775807
    omega) (Dec.int h)
theorem Dec.u64 {n : Nat} {ti : TypeId} (h : P.underlying ti = some (.int .u64)) : Dec F enc P w sp held n ti (fun z : Int => [.int .u64 z]) u64ok := Dec.map id (fun _ => rfl) (fun x hx => by
    simp [IntKind.min, IntKind.max, IntKind.signed, IntKind.bits] at hx
    show 0 ≤ x ∧ x ≤ 18446744073709551615
    omega) (Dec.int h)

structure ExOK (P : Program) (ti tu ts tE tL tR sE sR : TypeId) (fE fL fR : Array Field) : Prop where
  int : P.underlying ti = some (.int .i64)
  u64 : P.underlying tu = some (.int .u64)
  str : P.underlying ts = some .string
  exp : P.underlying tE = some (.struct fE)
  pla : P.underlying tL = some (.struct fL)
  par : P.underlying tR = some (.struct fR)
  slE : P.underlying sE = some (.slice tE)
  slR : P.underlying sR = some (.slice tR)
  lE : fE.toList.map (fun f => (f.type, f.offset)) = [(ti, 0), (tu, 1), (ts, 2), (ti, 3), (ti, 4), (tL, 5), (sE, 7)]
  lL : fL.toList.map (fun f => (f.type, f.offset)) = [(ts, 0), (sR, 1)]
  lR : fR.toList.map (fun f => (f.type, f.offset)) = [(ts, 0), (sE, 1)]
  cE : P.cellsOf tE = 8
  cL : P.cellsOf tL = 2
  cR : P.cellsOf tR = 2
  c1 : ∀ t ∈ [ti, tu, ts, sE, sR], P.cellsOf t = 1

theorem Dec_exprs {ti tu ts tE tL tR sE sR : TypeId} {fE fL fR : Array Field} (h : ExOK P ti tu ts tE tL tR sE sR fE fL fR) :
    ∀ n, Dec F enc P w sp held n tE GExpr.cells GExpr.ok ∧ Dec F enc P w sp held n tL GPlace.cells GPlace.ok ∧ Dec F enc P w sp held n tR GPart.cells GPart.ok := by
  have c1 : P.cellsOf ti = 1 := h.c1 _ (by simp)
  have c2 : P.cellsOf tu = 1 := h.c1 _ (by simp)
  have c3 : P.cellsOf ts = 1 := h.c1 _ (by simp)
  have c4 : P.cellsOf sE = 1 := h.c1 _ (by simp)
  have c5 : P.cellsOf sR = 1 := h.c1 _ (by simp)
  intro n
  induction n with
  | zero => exact ⟨Dec.zero, Dec.zero, Dec.zero⟩
  | succ n ih =>
    obtain ⟨iE, iL, iR⟩ := ih
    have kE := Dec.mono (Dec.slice h.slE h.cE (by decide) GExpr.len iE) (Nat.le_succ n)
    have kR := Dec.mono (Dec.slice h.slR h.cR (by decide) GPart.len iR) (Nat.le_succ n)
    refine ⟨?_, ?_, ?_⟩
    · refine Dec.map (fun (x : Int × Int × List UInt8 × Int × Int × GPlace × List GExpr × Unit) => (⟨x.1, x.2.1, x.2.2.1, x.2.2.2.1, x.2.2.2.2.1, x.2.2.2.2.2.1, x.2.2.2.2.2.2.1⟩ : GExpr)) (fun x => ?_) (fun x hx => ?_)
        (Dec.struct h.exp h.lE (by simp [chainB, c1, c2, c3, c4, h.cL]) (by simp [totC, c1, c2, c3, c4, h.cL, h.cE])
          (DecL.cons (Dec.i64 h.int) (DecL.cons (Dec.u64 h.u64) (DecL.cons (Dec.string h.str) (DecL.cons (Dec.i64 h.int) (DecL.cons (Dec.i64 h.int) (DecL.cons iL (DecL.cons kE DecL.nil))))))))
      · rw [GExpr.cells_eq]; simp
      · obtain ⟨h1, h2, h3, h4, h5, h6, ⟨h7, h8⟩, _⟩ := hx
        exact ⟨h1, h2, h3, h4, h5, h6, h7, GExpr.oks_iff.2 h8⟩
    · refine Dec.map (fun (x : List UInt8 × List GPart × Unit) => (⟨x.1, x.2.1⟩ : GPlace)) (fun x => ?_) (fun x hx => ?_)
        (Dec.struct h.pla h.lL (by simp [chainB, c3, c5]) (by simp [totC, c3, c5, h.cL]) (DecL.cons (Dec.string h.str) (DecL.cons kR DecL.nil)))
      · rw [GPlace.cells_eq]; rfl
      · obtain ⟨h1, ⟨h2, h3⟩, _⟩ := hx
        exact ⟨h1, h2, GPart.oks_iff.2 h3⟩
    · refine Dec.map (fun (x : List UInt8 × List GExpr × Unit) => (⟨x.1, x.2.1⟩ : GPart)) (fun x => ?_) (fun x hx => ?_)
        (Dec.struct h.par h.lR (by simp [chainB, c3, c4]) (by simp [totC, c3, c4, h.cR]) (DecL.cons (Dec.string h.str) (DecL.cons kE DecL.nil)))
      · rw [GPart.cells_eq]; rfl
      · obtain ⟨h1, ⟨h2, h3⟩, _⟩ := hx
        exact ⟨h1, h2, GExpr.oks_iff.2 h3⟩
end
end Rb

/- The types of the api, as Lean's: statements, programs. -/
set_option linter.unusedVariables false
set_option linter.unusedSimpArgs false
namespace Rb
open Go
structure GStmt where
  kind : Int
  line : Int
  name : List UInt8
  name2 : List UInt8
  order : Int
  place : GPlace
  exprs : List GExpr
  thn : List GStmt
  els : List GStmt
mutual
def GStmt.cells : GStmt → List AV
  | .mk kind line name name2 order place exprs thn els => .int .i64 kind :: .int .i64 line :: .str name :: .str name2 :: .int .i64 order :: (GPlace.cells place ++ [lstA GExpr.cells exprs, .lst .dead thn.length (GStmt.all thn), .lst .dead els.length (GStmt.all els)])
def GStmt.all : List GStmt → List AV
  | [] => []
  | x :: r => GStmt.cells x ++ GStmt.all r
end
theorem GStmt.all_eq : ∀ xs : List GStmt, GStmt.all xs = xs.flatMap GStmt.cells
  | [] => rfl
  | x :: r => by rw [GStmt.all, GStmt.all_eq r, List.flatMap_cons]
theorem GStmt.cells_eq (x : GStmt) : x.cells = .int .i64 x.kind :: .int .i64 x.line :: .str x.name :: .str x.name2 :: .int .i64 x.order :: (x.place.cells ++ [lstA GExpr.cells x.exprs, lstA GStmt.cells x.thn, lstA GStmt.cells x.els]) := by
  cases x; simp only [GStmt.cells, GStmt.all_eq, lstA]
theorem GStmt.len (x : GStmt) : x.cells.length = 10 := by rw [GStmt.cells_eq]; simp [GPlace.len]
mutual
def GStmt.ok : GStmt → Prop
  | .mk kind line name name2 order place exprs thn els => i64ok kind ∧ i64ok line ∧ name.length ≤ maxLen ∧ name2.length ≤ maxLen ∧ i64ok order ∧ GPlace.ok place ∧ exprs.length ≤ maxLen ∧ GExpr.oks exprs ∧ thn.length ≤ maxLen ∧ GStmt.oks thn ∧ els.length ≤ maxLen ∧ GStmt.oks els
def GStmt.oks : List GStmt → Prop
  | [] => True
  | x :: r => GStmt.ok x ∧ GStmt.oks r
end
theorem GStmt.oks_iff : ∀ {xs : List GStmt}, GStmt.oks xs ↔ ∀ x ∈ xs, x.ok
  | [] => by simp [GStmt.oks]
  | x :: r => by simp [GStmt.oks, GStmt.oks_iff (xs := r)]

structure GProg where
  vars : List GVar
  threads : List (List GStmt)
def thrCells (l : List GStmt) : List AV := [lstA GStmt.cells l]
def GProg.cells (x : GProg) : List AV := [lstA GVar.cells x.vars, lstA thrCells x.threads]
def GProg.ok (x : GProg) : Prop := (x.vars.length ≤ maxLen ∧ ∀ v ∈ x.vars, v.ok) ∧ x.threads.length ≤ maxLen ∧ ∀ t ∈ x.threads, t.length ≤ maxLen ∧ ∀ s ∈ t, s.ok

section
variable {H : Type} {enc : TypeId × Value → H} {P : Program} {w : World} {sp : Nat → Bool} {held : Bool} {F : FTab}

theorem Dec_var {ts tT tV : TypeId} {fV : Array Field} (hs : P.underlying ts = some .string) (c3 : P.cellsOf ts = 1) (cT : P.cellsOf tT = 6) (hT : ∀ n, Dec F enc P w sp held n tT GType.cells GType.ok)
    (hV : P.underlying tV = some (.struct fV)) (lV : fV.toList.map (fun f => (f.type, f.offset)) = [(ts, 0), (tT, 1)]) (cV : P.cellsOf tV = 7) : ∀ n, Dec F enc P w sp held n tV GVar.cells GVar.ok := by
  intro n
  refine Dec.mono (n := n + 1) ?_ (Nat.le_succ n)
  refine Dec.map (fun (x : List UInt8 × GType × Unit) => (⟨x.1, x.2.1⟩ : GVar)) (fun x => ?_) (fun x hx => ?_)
    (Dec.struct hV lV (by simp [chainB, c3]) (by simp [totC, c3, cT, cV]) (DecL.cons (Dec.string hs) (DecL.cons (hT n) DecL.nil)))
  · simp [GVar.cells]
  · exact ⟨hx.1, hx.2.1⟩

theorem Dec_stmt {ti tu ts tE tL tR sE sR tS sS : TypeId} {fE fL fR fS : Array Field} (h : ExOK P ti tu ts tE tL tR sE sR fE fL fR) (hS : P.underlying tS = some (.struct fS)) (slS : P.underlying sS = some (.slice tS))
    (lS : fS.toList.map (fun f => (f.type, f.offset)) = [(ti, 0), (ti, 1), (ts, 2), (ts, 3), (ti, 4), (tL, 5), (sE, 7), (sS, 8), (sS, 9)]) (cS : P.cellsOf tS = 10) (csS : P.cellsOf sS = 1) :
    ∀ n, Dec F enc P w sp held n tS GStmt.cells GStmt.ok := by
  have c1 : P.cellsOf ti = 1 := h.c1 _ (by simp)
  have c3 : P.cellsOf ts = 1 := h.c1 _ (by simp)
  have c4 : P.cellsOf sE = 1 := h.c1 _ (by simp)
  intro n
  induction n with
  | zero => exact Dec.zero
  | succ n ih =>
    have kE := Dec.mono (Dec.slice h.slE h.cE (by decide) GExpr.len (Dec_exprs (F := F) (enc := enc) (w := w) (sp := sp) (held := held) h n).1) (Nat.le_succ n)
    have kS := Dec.mono (Dec.slice slS cS (by decide) GStmt.len ih) (Nat.le_succ n)
    refine Dec.map (fun (x : Int × Int × List UInt8 × List UInt8 × Int × GPlace × List GExpr × List GStmt × List GStmt × Unit) => (⟨x.1, x.2.1, x.2.2.1, x.2.2.2.1, x.2.2.2.2.1, x.2.2.2.2.2.1, x.2.2.2.2.2.2.1, x.2.2.2.2.2.2.2.1, x.2.2.2.2.2.2.2.2.1⟩ : GStmt)) (fun x => ?_) (fun x hx => ?_)
      (Dec.struct hS lS (by simp [chainB, c1, c3, c4, csS, h.cL]) (by simp [totC, c1, c3, c4, csS, h.cL, cS])
        (DecL.cons (Dec.i64 h.int) (DecL.cons (Dec.i64 h.int) (DecL.cons (Dec.string h.str) (DecL.cons (Dec.string h.str) (DecL.cons (Dec.i64 h.int) (DecL.cons (Dec_exprs h n).2.1 (DecL.cons kE (DecL.cons kS (DecL.cons kS DecL.nil))))))))))
    · rw [GStmt.cells_eq]; simp
    · obtain ⟨h1, h2, h3, h4, h5, h6, ⟨h7, h8⟩, ⟨h9, h10⟩, ⟨h11, h12⟩, _⟩ := hx
      exact ⟨h1, h2, h3, h4, h5, h6, h7, GExpr.oks_iff.2 h8, h9, GStmt.oks_iff.2 h10, h11, GStmt.oks_iff.2 h12⟩

theorem Dec_prog {tV sV tS sS ssS tP : TypeId} {fP : Array Field} (hV : ∀ n, Dec F enc P w sp held n tV GVar.cells GVar.ok) (hS : ∀ n, Dec F enc P w sp held n tS GStmt.cells GStmt.ok)
    (slV : P.underlying sV = some (.slice tV)) (slS : P.underlying sS = some (.slice tS)) (slSS : P.underlying ssS = some (.slice sS)) (cV : P.cellsOf tV = 7) (cS : P.cellsOf tS = 10) (csS : P.cellsOf sS = 1) (csV : P.cellsOf sV = 1) (cssS : P.cellsOf ssS = 1)
    (hP : P.underlying tP = some (.struct fP)) (lP : fP.toList.map (fun f => (f.type, f.offset)) = [(sV, 0), (ssS, 1)]) (cP : P.cellsOf tP = 2) : ∀ n, Dec F enc P w sp held n tP GProg.cells GProg.ok := by
  intro n
  refine Dec.mono (n := n + 2 + 1) ?_ (by omega)
  have k1 : Dec F enc P w sp held (n + 2) sV (fun xs : List GVar => [lstA GVar.cells xs]) (fun xs => xs.length ≤ maxLen ∧ ∀ x ∈ xs, x.ok) := Dec.slice slV cV (by decide) GVar.len (hV (n + 1))
  have k2 : Dec F enc P w sp held (n + 1) sS thrCells (fun xs => xs.length ≤ maxLen ∧ ∀ x ∈ xs, x.ok) := Dec.slice slS cS (by decide) GStmt.len (hS n)
  have k3 : Dec F enc P w sp held (n + 2) ssS (fun xs : List (List GStmt) => [lstA thrCells xs]) (fun xs => xs.length ≤ maxLen ∧ ∀ x ∈ xs, x.length ≤ maxLen ∧ ∀ y ∈ x, y.ok) := Dec.slice slSS csS (by decide) (fun _ => rfl) k2
  refine Dec.map (fun (x : List GVar × List (List GStmt) × Unit) => (⟨x.1, x.2.1⟩ : GProg)) (fun x => ?_) (fun x hx => ?_)
    (Dec.struct hP lP (by simp [chainB, csV]) (by simp [totC, csV, cssS, cP]) (DecL.cons k1 (DecL.cons k3 DecL.nil)))
  · simp [GProg.cells]
  · exact ⟨hx.1, hx.2.1⟩
end
end Rb

/- Laws for reading what a function means, by simp. -/
set_option linter.unusedVariables false
namespace Rb
open Go

@[simp] theorem Do_of {α : Type} (a : α) (K : α → Prop) : Do (some a) K ↔ K a := ⟨fun ⟨b, h, k⟩ => by cases h; exact k, fun h => ⟨a, rfl, h⟩⟩
@[simp] theorem DoH_some (v : AV) (H : AH) (K : Post) : DoH (some (v, H)) K ↔ K v H := ⟨fun ⟨a, b, h, k⟩ => by cases h; exact k, fun h => ⟨v, H, rfl, h⟩⟩
@[simp] theorem Gd_true (b : Bool) (A B : Prop) : Gd (.bool b) true A B ↔ if b = true then A else B := Iff.rfl
@[simp] theorem Gd_false (b : Bool) (A B : Prop) : Gd (.bool b) false A B ↔ if b = false then A else B := Iff.rfl
@[simp] theorem JoinP_def (K : List AV → AH → Prop) (st : List AV) (H : AH) : JoinP K st H ↔ K st H := Iff.rfl
@[simp] theorem sl_zero (a : AV) (l : List AV) : sl (a :: l) 0 = a := rfl
@[simp] theorem sl_succ (a : AV) (l : List AV) (i : Nat) : sl (a :: l) (i + 1) = sl l i := rfl

section
variable (k : IntKind) (a b : Int)
@[simp] theorem abin_add : abin .add (.int k a) (.int k b) = some (.int k (k.wrap (a + b))) := by simp [abin, abinInt]
@[simp] theorem abin_sub : abin .sub (.int k a) (.int k b) = some (.int k (k.wrap (a - b))) := by simp [abin, abinInt]
@[simp] theorem abin_mul : abin .mul (.int k a) (.int k b) = some (.int k (k.wrap (a * b))) := by simp [abin, abinInt]
@[simp] theorem abin_eql : abin .eql (.int k a) (.int k b) = some (.bool (a == b)) := by simp [abin, abinInt]
@[simp] theorem abin_neq : abin .neq (.int k a) (.int k b) = some (.bool (a != b)) := by simp [abin, abinInt]
@[simp] theorem abin_lss : abin .lss (.int k a) (.int k b) = some (.bool (decide (a < b))) := by simp [abin, abinInt]
@[simp] theorem abin_leq : abin .leq (.int k a) (.int k b) = some (.bool (decide (a ≤ b))) := by simp [abin, abinInt]
@[simp] theorem abin_gtr : abin .gtr (.int k a) (.int k b) = some (.bool (decide (a > b))) := by simp [abin, abinInt]
@[simp] theorem abin_geq : abin .geq (.int k a) (.int k b) = some (.bool (decide (a ≥ b))) := by simp [abin, abinInt]
theorem abin_rem (h : b ≠ 0) : abin .rem (.int k a) (.int k b) = some (.int k (a.tmod b)) := by simp [abin, abinInt, h]
theorem abin_quo (h : b ≠ 0) : abin .quo (.int k a) (.int k b) = some (.int k (k.wrap (a.tdiv b))) := by simp [abin, abinInt, h]
@[simp] theorem abin_and : abin .and (.int k a) (.int k b) = some (.int k (k.wrap (BitVec.ofInt k.bits a &&& BitVec.ofInt k.bits b).toNat)) := by simp [abin, abinInt, bitsOp]
@[simp] theorem abin_or : abin .or (.int k a) (.int k b) = some (.int k (k.wrap (BitVec.ofInt k.bits a ||| BitVec.ofInt k.bits b).toNat)) := by simp [abin, abinInt, bitsOp]
@[simp] theorem abin_xor : abin .xor (.int k a) (.int k b) = some (.int k (k.wrap (BitVec.ofInt k.bits a ^^^ BitVec.ofInt k.bits b).toNat)) := by simp [abin, abinInt, bitsOp]
theorem abin_shr (k' : IntKind) (h : 0 ≤ b) : abin .shr (.int k a) (.int k' b) = some (.int k (a.fdiv (2 ^ (min b.toNat k.bits)))) := by simp [abin, abinInt, Int.not_lt.2 h]
theorem abin_shl (k' : IntKind) (h : 0 ≤ b) : abin .shl (.int k a) (.int k' b) = some (.int k (k.wrap (a * 2 ^ (min b.toNat k.bits)))) := by simp [abin, abinInt, Int.not_lt.2 h]
@[simp] theorem aconv_int (k' : IntKind) : aconv k' (.int k a) = some (.int k' (k'.wrap a)) := rfl
@[simp] theorem abeq_def (neg : Bool) (x y : Bool) : abeq neg (.bool x) (.bool y) = some (.bool (if neg then !(x == y) else x == y)) := rfl
@[simp] theorem aun_not (x : Bool) : aun .not (.bool x) = some (.bool !x) := rfl
end
@[simp] theorem alen_lst (tk : Tok) (n : Nat) (cs : List AV) : alen false (.lst tk n cs) = some (.int .i64 n) := rfl
@[simp] theorem alen_row (id o n sz : Nat) : alen false (.row id o n sz) = some (.int .i64 n) := rfl
@[simp] theorem alen_str (s : List UInt8) : alen true (.str s) = some (.int .i64 s.length) := rfl

end Rb

/- Memory that only grew; numbers. -/
set_option linter.unusedVariables false
namespace Rb
open Go

/-- What was there is as it was. -/
def AH.Ext (H H' : AH) : Prop := H.n ≤ H'.n ∧ ∀ i, i < H.n → H'.o i = H.o i
theorem AH.Ext.refl (H : AH) : AH.Ext H H := ⟨Nat.le_refl _, fun _ _ => rfl⟩
theorem AH.Ext.trans {a b c : AH} (h : AH.Ext a b) (k : AH.Ext b c) : AH.Ext a c := ⟨Nat.le_trans h.1 k.1, fun i hi => (k.2 i (Nat.lt_of_lt_of_le hi h.1)).trans (h.2 i hi)⟩
theorem AH.Ext.push (H : AH) (x : AObj) : AH.Ext H (H.push x) := ⟨Nat.le_succ _, fun i hi => if_neg (Nat.ne_of_lt hi)⟩
theorem AH.Ext.set {H H' : AH} (h : AH.Ext H H') {i : Nat} (hi : H.n ≤ i) (x : AObj) : AH.Ext H (H'.set i x) := ⟨h.1, fun j hj => by
  simp only [AH.set]; rw [if_neg (by omega)]; exact h.2 j hj⟩
@[simp] theorem AH.push_n (H : AH) (x : AObj) : (H.push x).n = H.n + 1 := rfl
@[simp] theorem AH.set_n (H : AH) (i : Nat) (x : AObj) : (H.set i x).n = H.n := rfl
theorem AH.push_self (H : AH) (x : AObj) : (H.push x).o H.n = x := if_pos rfl
theorem AH.push_ne (H : AH) (x : AObj) {i : Nat} (h : i ≠ H.n) : (H.push x).o i = H.o i := if_neg h
theorem AH.set_self (H : AH) (i : Nat) (x : AObj) : (H.set i x).o i = x := if_pos rfl
theorem AH.set_ne (H : AH) {i j : Nat} (x : AObj) (h : j ≠ i) : (H.set i x).o j = H.o j := if_neg h

theorem wrap_i64 {n : Int} (h1 : -9223372036854775808 ≤ n) (h2 : n ≤ 9223372036854775807) : IntKind.wrap .i64 n = n := by
  simp [IntKind.wrap, IntKind.signed, IntKind.bits]; omega
theorem wrap_u64 {n : Int} (h1 : 0 ≤ n) (h2 : n < 18446744073709551616) : IntKind.wrap .u64 n = n := by
  simp [IntKind.wrap, IntKind.signed, IntKind.bits]; omega
theorem wrap_u8 {n : Int} (h1 : 0 ≤ n) (h2 : n < 256) : IntKind.wrap .u8 n = n := by
  simp [IntKind.wrap, IntKind.signed, IntKind.bits]; omega
theorem wrap_u32 {n : Int} (h1 : 0 ≤ n) (h2 : n < 4294967296) : IntKind.wrap .u32 n = n := by
  simp [IntKind.wrap, IntKind.signed, IntKind.bits]; omega

/-- A list that grows at its end, and that nobody else holds. -/
def Lst (H0 H : AH) (sz : Nat) (x : AV) (len : Nat) (cells : List AV) : Prop :=
  AH.Ext H0 H ∧ ∃ tk, x = .lst tk len cells ∧ cells.length = len * sz ∧ ((tk = .nil ∧ len = 0) ∨ ∃ t, tk = .own t ∧ H0.n ≤ t ∧ t < H.n ∧ H.o t = .tok (len * sz) sz)

theorem Lst.nil (H : AH) (sz : Nat) : Lst H H sz (.lst .nil 0 []) 0 [] := ⟨AH.Ext.refl H, .nil, rfl, by simp, .inl ⟨rfl, rfl⟩⟩

theorem Lst.append {H0 H : AH} {sz bytes len m : Nat} {x y : AV} {cells news : List AV} {K : Post} (h : Lst H0 H sz x len cells) (hy : acells H sz y = some (m, news)) (hn : news.length = m * sz) (hs : news.all AV.scalar = true) (hm : m ≠ 0)
    (hb : (len + m) * bytes ≤ 140737488355328) (hl : len + m ≤ 9223372036854775807) (hK : ∀ x' H', Lst H0 H' sz x' (len + m) (cells ++ news) → K x' H') : DoH (aappend H false sz bytes x y) K := by
  obtain ⟨hx, tk, rfl, hc, htk⟩ := h
  have hlen : (cells ++ news).length = (len + m) * sz := by simp [hc, hn, Nat.add_mul]
  rcases htk with ⟨rfl, rfl⟩ | ⟨t, rfl, h1, h2, h3⟩
  · refine ⟨.lst (.own H.n) (0 + m) (cells ++ news), H.push (.tok ((0 + m) * sz) sz), ?_, hK _ _ ⟨hx.trans (AH.Ext.push _ _), _, rfl, hlen, .inr ⟨H.n, rfl, hx.1, Nat.lt_succ_self _, AH.push_self _ _⟩⟩⟩
    simp only [aappend, hy, hs, not_true_eq_false, if_false, if_neg hm]
    rw [if_neg (by simp only [Decidable.not_not]; exact ⟨hc, hb, hl⟩)]
  · refine ⟨.lst (.own H.n) (len + m) (cells ++ news), (H.set t .gone).push (.tok ((len + m) * sz) sz), ?_, hK _ _ ⟨(hx.set h1 _).trans (AH.Ext.push _ _), _, rfl, hlen, .inr ⟨H.n, rfl, hx.1, Nat.lt_succ_self _, AH.push_self _ _⟩⟩⟩
    simp only [aappend, hy, hs, not_true_eq_false, if_false, if_neg hm]
    rw [if_neg (by simp only [Decidable.not_not]; exact ⟨hc, hb, hl⟩)]
    simp [h3]

/-- What stands at a place. -/
def At (H : AH) (id : Nat) (x : AObj) : Prop := id < H.n ∧ H.o id = x
theorem At.new (H : AH) (x : AObj) : At (H.push x) H.n x := ⟨Nat.lt_succ_self _, AH.push_self H x⟩
theorem At.ext {H H' : AH} {id : Nat} {x : AObj} (h : At H id x) (hE : AH.Ext H H') : At H' id x := ⟨Nat.lt_of_lt_of_le h.1 hE.1, (hE.2 id h.1).trans h.2⟩
theorem At.push {H : AH} {id : Nat} {x : AObj} (h : At H id x) (y : AObj) : At (H.push y) id x := h.ext (AH.Ext.push H y)
theorem At.set_ne {H : AH} {id i : Nat} {x : AObj} (h : At H id x) (hne : id ≠ i) (y : AObj) : At (H.set i y) id x := ⟨h.1, (AH.set_ne H y hne).trans h.2⟩
theorem At.set {H : AH} {id : Nat} {x : AObj} (h : At H id x) (y : AObj) : At (H.set id y) id y := ⟨h.1, AH.set_self H id y⟩
theorem At.ne {H : AH} {id i : Nat} {x y : AObj} (h : At H id x) (k : At H i y) (hxy : x ≠ y) : id ≠ i := fun e => hxy (by rw [← h.2, ← k.2, e])
theorem At.lt_new {H : AH} {id : Nat} {x : AObj} (h : At H id x) : id ≠ H.n := Nat.ne_of_lt h.1

theorem At.load {H : AH} {id : Nat} {cs : List AV} (h : At H id (.row cs)) (n o : Nat) (agg : Bool) : aload H n agg (.ptr id o) = takeCells cs o n agg := by simp [aload, h.2]
theorem At.store {H : AH} {id : Nat} {cs : List AV} (h : At H id (.row cs)) (n o : Nat) (v : AV) : astore H n (.ptr id o) v = if v.known ∧ v.cells.length = n ∧ v.cells.all AV.scalar ∧ o + n ≤ cs.length then some (H.set id (.row (setCells cs o v.cells))) else none := by simp [astore, h.2]

end Rb

/- More laws for reading. -/
set_option linter.unusedVariables false
namespace Rb
open Go
@[simp] theorem Gd3_true (b : Bool) (A B C : Prop) : Gd3 (.bool b) true A B C ↔ if b = true then A else B := Iff.rfl
@[simp] theorem Gd3_false (b : Bool) (A B C : Prop) : Gd3 (.bool b) false A B C ↔ if b = false then A else B := Iff.rfl
@[simp] theorem Gd3_tup (want : Bool) (A B C : Prop) : Gd3 (.tup []) want A B C ↔ C := Iff.rfl
theorem ite_both {c : Prop} [Decidable c] {A B : Prop} (h1 : c → A) (h2 : ¬ c → B) : if c then A else B := by
  split
  · exact h1 ‹_›
  · exact h2 ‹_›
theorem drop_nil_le {α : Type} {xs : List α} {i : Nat} (h : xs.drop i = []) : xs.length ≤ i := by simpa using h
theorem drop_cons_lt {α : Type} {xs ys : List α} {i : Nat} {y : α} (h : xs.drop i = y :: ys) : i < xs.length ∧ xs[i]? = some y ∧ xs.drop (i + 1) = ys := by
  have hlt : i < xs.length := by
    rcases Nat.lt_or_ge i xs.length with h' | h'
    · exact h'
    · rw [List.drop_eq_nil_of_le h'] at h; cases h
  refine ⟨hlt, ?_, ?_⟩
  · have := congrArg (fun l => l[0]?) h
    simpa using this
  · have := congrArg List.tail h
    simpa using this
end Rb

/- Slices of typed values: reading an element; slices.IndexFunc. -/
set_option linter.unusedVariables false
set_option linter.unusedSimpArgs false
namespace Rb
open Go

section
variable {α : Type} {cells : α → List AV} {sz : Nat}

theorem flatMap_drop (hc : ∀ x, (cells x).length = sz) : ∀ (xs : List α) (i : Nat), (xs.flatMap cells).drop (i * sz) = (xs.drop i).flatMap cells := by
  intro xs i
  induction i generalizing xs with
  | zero => simp
  | succ i ih =>
    cases xs with
    | nil => simp
    | cons x xs =>
      rw [List.flatMap_cons, List.drop_succ_cons, ← ih]
      rw [show (i + 1) * sz = (cells x).length + i * sz by rw [hc, Nat.add_mul, Nat.one_mul, Nat.add_comm], ← List.drop_drop, List.drop_left]

theorem flatMap_len (hc : ∀ x, (cells x).length = sz) (xs : List α) : (xs.flatMap cells).length = xs.length * sz := by
  induction xs with
  | nil => simp
  | cons x xs ih => rw [List.flatMap_cons, List.length_append, ih, hc, List.length_cons, Nat.add_mul]; omega

/-- The address of an element. -/
def elA (cells : α → List AV) (sz : Nat) (xs : List α) (i : Nat) : AV := .fptr ((xs.flatMap cells).drop (i * sz))

theorem lstA_addr {xs : List α} {i : Nat} (hi : i < xs.length) : aiaddr none sz (lstA cells xs) (.int .i64 i) = some (elA cells sz xs i) := by
  simp only [lstA, aiaddr]
  rw [if_pos ⟨by omega, by omega⟩]; rfl

theorem elA_load (hc : ∀ x, (cells x).length = sz) (hz : 0 < sz) (H : AH) {xs : List α} {i : Nat} {x : α} (hx : xs[i]? = some x) : aload H sz true (elA cells sz xs i) = some (.agg (cells x)) := by
  have hlt := (List.getElem?_eq_some_iff.1 hx).1
  have hd : xs.drop i = x :: xs.drop (i + 1) := by
    rw [List.drop_eq_getElem_cons hlt]
    rw [List.getElem?_eq_getElem hlt] at hx
    simp at hx
    rw [hx]
  show takeCells ((xs.flatMap cells).drop (i * sz)) 0 sz true = _
  rw [flatMap_drop hc, hd, List.flatMap_cons]
  unfold takeCells
  rw [if_pos (by rw [List.length_append, hc]; omega)]
  simp only [if_true, List.drop_zero]
  rw [List.take_append_of_le_length (by rw [hc]; omega), List.take_of_length_le (by rw [hc]; omega)]

def IndexFuncL (sz : Nat) (Φ : Calls') (a0 : AV) (a1 : AV) (x1 : AV) (Q : Post) : (List AV × AH) → ((List AV × AH) → Prop) → Prop := fun s2 L3 =>
  Do (abin .lss (sl s2.1 0) x1) fun x4 =>
  Gd x4 true (
  Do (aiaddr none sz a0 (sl s2.1 0)) fun x5 =>
  Do (aload s2.2 sz true x5) fun x6 =>
  ∃ k9 c10, a1 = .fn k9 c10 ∧ Φ k9 ([x6] ++ c10) s2.2 fun x7 H8 =>
  Gd x7 true (
  Q (sl s2.1 0) H8) (
  Do (abin .add (sl s2.1 0) (.int .i64 1)) fun x11 =>
  L3 ([x11], H8))) (
  Q (.int .i64 (-1)) s2.2)
def IndexFunc (sz : Nat) (Φ : Calls') (a0 : AV) (a1 : AV) (H : AH) (Q : Post) : Prop :=
  Do (alen false a0) fun x1 =>
  LoopP (IndexFuncL sz Φ a0 a1 x1 Q) ([(.int .i64 0)], H)

def idxI : Option Nat → Int
  | some i => i
  | none => -1

theorem IndexFunc_spec {Φ : Calls'} (hc : ∀ x, (cells x).length = sz) (hz : 0 < sz) {p : α → Bool} {key : Nat} {caps : List AV} {xs : List α} {H : AH} (hf : ∀ x ∈ xs, ∀ (R : Post), R (.bool (p x)) H → Φ key ([.agg (cells x)] ++ caps) H R) (hl : xs.length ≤ 9223372036854775807) {Q : Post}
    (hQ : Q (.int .i64 (idxI (xs.findIdx? p))) H) : IndexFunc sz Φ (lstA cells xs) (.fn key caps) H Q := by
  unfold IndexFunc
  have hlen : alen false (lstA cells xs) = some (.int .i64 xs.length) := rfl
  rw [hlen]
  simp only [Do_of]
  have main : ∀ (ys : List α) (i : Nat), xs.drop i = ys → Q (.int .i64 (idxI ((ys.findIdx? p).map (· + i)))) H → LoopP (IndexFuncL sz Φ (lstA cells xs) (.fn key caps) (.int .i64 xs.length) Q) ([.int .i64 i], H) := by
    intro ys
    induction ys with
    | nil =>
      intro i hi hq
      have hle := drop_nil_le hi
      refine LoopP.step ?_
      simp only [IndexFuncL, sl_zero, abin_lss, Do_of, Gd_true]
      rw [if_neg (by simp only [decide_eq_true_eq]; omega)]
      simpa [idxI] using hq
    | cons y ys ih =>
      intro i hi hq
      obtain ⟨hlt, hy, hd⟩ := drop_cons_lt hi
      refine LoopP.step ?_
      simp only [IndexFuncL, sl_zero, abin_lss, Do_of, Gd_true]
      rw [if_pos (by simp only [decide_eq_true_eq]; omega), lstA_addr hlt]
      simp only [Do_of]
      rw [elA_load hc hz H hy]
      simp only [Do_of]
      refine ⟨key, caps, rfl, hf y (List.mem_of_getElem? hy) _ ?_⟩
      simp only [Gd_true]
      rw [List.findIdx?_cons] at hq
      by_cases he : p y = true
      · rw [if_pos he]
        rw [if_pos he] at hq
        simpa [idxI] using hq
      · rw [if_neg he]
        rw [if_neg he] at hq
        simp only [abin_add, Do_of]
        rw [wrap_i64 (by omega) (by omega), show ((i : Int) + 1) = ((i + 1 : Nat) : Int) by simp]
        refine ih (i + 1) hd ?_
        have : (List.findIdx? p ys).map (· + (i + 1)) = ((List.findIdx? p ys).map (· + 1)).map (· + i) := by
          rw [Option.map_map]; congr 1; funext k; simp only [Function.comp]; omega
        rw [this]; exact hq
  refine main xs 0 rfl ?_
  simpa using hQ
end
end Rb

/- Typed values are frozen. -/
set_option linter.unusedVariables false
set_option linter.unusedSimpArgs false
namespace Rb
open Go

theorem frozs_app (a b : List AV) : AV.frozs (a ++ b) = (AV.frozs a && AV.frozs b) := by
  rw [frozs_all, frozs_all, frozs_all, List.all_append]

mutual
theorem GType.froz : ∀ x : GType, AV.frozs x.cells = true
  | .mk kind size packed fields count elem => by
    simp only [GType.cells, AV.frozs, AV.froz, Tok.free, GField.allFroz fields, GType.allFroz elem, Bool.and_self]
theorem GType.allFroz : ∀ xs : List GType, AV.frozs (GType.all xs) = true
  | [] => rfl
  | x :: r => by rw [GType.all, frozs_app, GType.froz x, GType.allFroz r]; rfl
theorem GField.froz : ∀ x : GField, AV.frozs x.cells = true
  | .mk name type bits width => by
    simp only [GField.cells, AV.frozs, AV.froz, frozs_app, GType.froz type, Bool.and_self]
theorem GField.allFroz : ∀ xs : List GField, AV.frozs (GField.all xs) = true
  | [] => rfl
  | x :: r => by rw [GField.all, frozs_app, GField.froz x, GField.allFroz r]; rfl
end
mutual
theorem GExpr.froz : ∀ x : GExpr, AV.frozs x.cells = true
  | .mk kind n name op order place kids => by
    simp only [GExpr.cells, AV.frozs, AV.froz, frozs_app, Tok.free, GPlace.froz place, GExpr.allFroz kids, Bool.and_self]
theorem GExpr.allFroz : ∀ xs : List GExpr, AV.frozs (GExpr.all xs) = true
  | [] => rfl
  | x :: r => by rw [GExpr.all, frozs_app, GExpr.froz x, GExpr.allFroz r]; rfl
theorem GPlace.froz : ∀ x : GPlace, AV.frozs x.cells = true
  | .mk var parts => by simp only [GPlace.cells, AV.frozs, AV.froz, Tok.free, GPart.allFroz parts, Bool.and_self]
theorem GPart.froz : ∀ x : GPart, AV.frozs x.cells = true
  | .mk field index => by simp only [GPart.cells, AV.frozs, AV.froz, Tok.free, GExpr.allFroz index, Bool.and_self]
theorem GPart.allFroz : ∀ xs : List GPart, AV.frozs (GPart.all xs) = true
  | [] => rfl
  | x :: r => by rw [GPart.all, frozs_app, GPart.froz x, GPart.allFroz r]; rfl
end
theorem lstA_froz {α : Type} {cells : α → List AV} (h : ∀ x, AV.frozs (cells x) = true) (xs : List α) : (lstA cells xs).froz = true := by
  have : AV.frozs (xs.flatMap cells) = true := by
    induction xs with
    | nil => rfl
    | cons x xs ih => rw [List.flatMap_cons, frozs_app, h, ih]; rfl
  simp only [lstA, AV.froz, Tok.free, this, Bool.and_self]
theorem GVar.froz (x : GVar) : AV.frozs x.cells = true := by simp only [GVar.cells, AV.frozs, AV.froz, GType.froz, Bool.and_self]
mutual
theorem GStmt.froz : ∀ x : GStmt, AV.frozs x.cells = true
  | .mk kind line name name2 order place exprs thn els => by
    simp only [GStmt.cells, AV.frozs, AV.froz, frozs_app, Tok.free, GPlace.froz place, lstA_froz GExpr.froz exprs, GStmt.allFroz thn, GStmt.allFroz els, Bool.and_self]
theorem GStmt.allFroz : ∀ xs : List GStmt, AV.frozs (GStmt.all xs) = true
  | [] => rfl
  | x :: r => by rw [GStmt.all, frozs_app, GStmt.froz x, GStmt.allFroz r]; rfl
end
theorem thr_froz (l : List GStmt) : AV.frozs (thrCells l) = true := by simp only [thrCells, AV.frozs, lstA_froz GStmt.froz, Bool.and_self]
theorem GProg.froz (x : GProg) : AV.frozs x.cells = true := by simp only [GProg.cells, AV.frozs, lstA_froz GVar.froz, lstA_froz thr_froz, Bool.and_self]
end Rb

/- New variables, and what is read of them. -/
set_option linter.unusedVariables false
set_option linter.unusedSimpArgs false
namespace Rb
open Go

@[simp] theorem AH.push_set (H : AH) (x y : AObj) : (H.push x).set H.n y = H.push y := by
  simp only [AH.push, AH.set]
  congr 1
  funext j
  split <;> rfl
@[simp] theorem load_push (H : AH) (cs : List AV) (n o : Nat) (agg : Bool) : aload (H.push (.row cs)) n agg (.ptr H.n o) = takeCells cs o n agg := by
  simp [aload, AH.push_self]
theorem store_push (H : AH) (cs : List AV) (n o : Nat) (v : AV) (h1 : v.known = true) (h2 : v.cells.length = n) (h3 : v.cells.all AV.scalar = true) (h4 : o + n ≤ cs.length) : astore (H.push (.row cs)) n (.ptr H.n o) v = some (H.push (.row (setCells cs o v.cells))) := by
  rw [(At.new H (.row cs)).store, if_pos ⟨h1, h2, h3, h4⟩, AH.push_set]
theorem setCells_all {xs ys : List AV} : ∀ {k : Nat}, k + ys.length = xs.length → setCells xs k ys = xs.take k ++ ys := by
  induction ys generalizing xs with
  | nil => intro k h; simp only [setCells]; rw [List.append_nil, List.take_of_length_le (by simp at h; omega)]
  | cons y ys ih =>
    intro k h
    simp only [setCells]
    rw [ih (by simp at h ⊢; omega)]
    have hk : k < xs.length := by simp at h; omega
    rw [List.take_add_one, List.getElem?_set_self hk, List.take_set_of_le (by omega)]
    simp
/-- A new variable gets a struct. -/
theorem store_new (H : AH) (zs cs : List AV) (n : Nat) (h2 : cs.length = n) (h3 : cs.all AV.scalar = true) (h4 : zs.length = n) : astore (H.push (.row zs)) n (.ptr H.n 0) (.agg cs) = some (H.push (.row cs)) := by
  rw [store_push H zs n 0 (.agg cs) rfl h2 h3 (by omega)]
  congr 3
  show setCells zs 0 cs = cs
  rw [setCells_all (by omega)]; rfl

theorem takeCells_app {a b : List AV} {n : Nat} (h : a.length = n) : takeCells (a ++ b) 0 n true = some (.agg a) := by
  unfold takeCells
  rw [if_pos (by rw [List.length_append]; omega)]
  simp only [if_true, List.drop_zero]
  rw [List.take_append_of_le_length (by omega), List.take_of_length_le (by omega)]
theorem takeCells_whole {a : List AV} {n : Nat} (h : a.length = n) : takeCells a 0 n true = some (.agg a) := by
  have := takeCells_app (a := a) (b := []) h
  rwa [List.append_nil] at this
theorem takeCells_drop {cs : List AV} {o n : Nat} {agg : Bool} (h : o ≤ cs.length) : takeCells cs o n agg = takeCells (cs.drop o) 0 n agg := by
  by_cases hl : o + n ≤ cs.length
  · have hl' : 0 + n ≤ (cs.drop o).length := by rw [List.length_drop]; omega
    unfold takeCells
    simp only [hl, hl', if_true]
    cases agg <;> simp
  · have hl' : ¬ 0 + n ≤ (cs.drop o).length := by rw [List.length_drop]; omega
    unfold takeCells
    simp only [hl, hl', if_false]

/-- Frozen values may lie in a cell. -/
theorem froz_scalar : ∀ {cs : List AV}, (∀ c ∈ cs, c.scalar = true) → cs.all AV.scalar = true := fun h => List.all_eq_true.2 h
mutual
theorem GType.scalar : ∀ x : GType, x.cells.all AV.scalar = true
  | .mk kind size packed fields count elem => by simp [GType.cells, AV.scalar]
theorem GField.scalar : ∀ x : GField, x.cells.all AV.scalar = true
  | .mk name type bits width => by simp only [GField.cells, List.all_cons, List.all_append, GType.scalar type]; rfl
end
theorem GPlace.scalar (x : GPlace) : x.cells.all AV.scalar = true := by rw [GPlace.cells_eq]; rfl
theorem GPart.scalar (x : GPart) : x.cells.all AV.scalar = true := by rw [GPart.cells_eq]; rfl
theorem GExpr.scalar (x : GExpr) : x.cells.all AV.scalar = true := by rw [GExpr.cells_eq]; simp only [List.all_cons, List.all_append, GPlace.scalar]; rfl
theorem GStmt.scalar (x : GStmt) : x.cells.all AV.scalar = true := by rw [GStmt.cells_eq]; simp only [List.all_cons, List.all_append, GPlace.scalar]; rfl
theorem GVar.scalar (x : GVar) : x.cells.all AV.scalar = true := by simp only [GVar.cells, List.all_cons, GType.scalar]; rfl
end Rb

/- Slices of numbers held against one another. -/
set_option linter.unusedVariables false
set_option linter.unusedSimpArgs false
namespace Rb
open Go

/-- A number's cell. -/
def i1 (k : IntKind) (z : Int) : List AV := [.int k z]
theorem i1_len (k : IntKind) (z : Int) : (i1 k z).length = 1 := rfl

section
variable {α : Type} {c : α → AV}
theorem one_load (H : AH) {xs : List α} {i : Nat} {x : α} (hx : xs[i]? = some x) : aload H 1 false (elA (fun x => [c x]) 1 xs i) = some (c x) := by
  have hlt := (List.getElem?_eq_some_iff.1 hx).1
  have hd : xs.drop i = x :: xs.drop (i + 1) := by
    rw [List.drop_eq_getElem_cons hlt]
    rw [List.getElem?_eq_getElem hlt] at hx
    simp at hx
    rw [hx]
  show takeCells ((xs.flatMap fun x => [c x]).drop (i * 1)) 0 1 false = _
  rw [flatMap_drop (sz := 1) (fun _ => rfl), hd, List.flatMap_cons]
  rfl
end
theorem num_load {k : IntKind} (H : AH) {xs : List Int} {i : Nat} {x : Int} (hx : xs[i]? = some x) : aload H 1 false (elA (i1 k) 1 xs i) = some (.int k x) := one_load H hx

def EqualL (a0 : AV) (a1 : AV) (x4 : AV) (Q : Post) : (List AV × AH) → ((List AV × AH) → Prop) → Prop := fun s5 L6 =>
 Do (abin .lss (sl s5.1 0) x4) fun x7 =>
 Gd x7 true (
 Do (aiaddr none 1 a0 (sl s5.1 0)) fun x8 =>
 Do (aload s5.2 1 false x8) fun x9 =>
 Do (aiaddr none 1 a1 (sl s5.1 0)) fun x10 =>
 Do (aload s5.2 1 false x10) fun x11 =>
 Do (abin .neq x9 x11) fun x12 =>
 Gd x12 true (
 Q (.bool false) s5.2) (
 Do (abin .add (sl s5.1 0) (.int .i64 1)) fun x13 =>
 L6 ([x13], s5.2))) (
 Q (.bool true) s5.2)
/-- slices.Equal of numbers. -/
def Equal (a0 : AV) (a1 : AV) (H : AH) (Q : Post) : Prop :=
 Do (alen false a0) fun x1 =>
 Do (alen false a1) fun x2 =>
 Do (abin .neq x1 x2) fun x3 =>
 Gd x3 true (
 Q (.bool false) H) (
 Do (alen false a0) fun x4 =>
 LoopP (EqualL a0 a1 x4 Q) ([(.int .i64 0)], H))

theorem lstA_len' {α : Type} (cells : α → List AV) (xs : List α) : alen false (lstA cells xs) = some (.int .i64 xs.length) := rfl
theorem ne_len {α : Type} {xs ys : List α} [BEq α] [LawfulBEq α] (h : xs.length ≠ ys.length) : (xs == ys) = false := by
  rw [beq_eq_false_iff_ne]; intro e; exact h (by rw [e])

theorem Equal_spec {k : IntKind} {xs ys : List Int} {H : AH} {Q : Post} (hl : xs.length ≤ 9223372036854775807) (hQ : Q (.bool (xs == ys)) H) : Equal (lstA (i1 k) xs) (lstA (i1 k) ys) H Q := by
  unfold Equal
  simp only [lstA_len', Do_of, abin_neq, Gd_true]
  by_cases he : xs.length = ys.length
  · rw [if_neg (by simp [he])]
    have main : ∀ (us vs : List Int) (i : Nat), xs.drop i = us → ys.drop i = vs → us.length = vs.length → Q (.bool (us == vs)) H → LoopP (EqualL (lstA (i1 k) xs) (lstA (i1 k) ys) (.int .i64 xs.length) Q) ([.int .i64 i], H) := by
      intro us
      induction us with
      | nil =>
        intro vs i hu hv hlen hq
        have hle := drop_nil_le hu
        obtain rfl : vs = [] := by cases vs with | nil => rfl | cons _ _ => cases hlen
        refine LoopP.step ?_
        simp only [EqualL, sl_zero, abin_lss, Do_of, Gd_true]
        rw [if_neg (by simp only [decide_eq_true_eq]; omega)]
        exact hq
      | cons u us ih =>
        intro vs i hu hv hlen hq
        cases vs with
        | nil => cases hlen
        | cons v vs =>
          obtain ⟨hlt, hu1, hu2⟩ := drop_cons_lt hu
          obtain ⟨hlt', hv1, hv2⟩ := drop_cons_lt hv
          refine LoopP.step ?_
          simp only [EqualL, sl_zero, abin_lss, Do_of, Gd_true]
          rw [if_pos (by simp only [decide_eq_true_eq]; omega), lstA_addr hlt, lstA_addr hlt']
          simp only [Do_of]
          rw [num_load H hu1, num_load H hv1]
          simp only [Do_of, abin_neq, Gd_true]
          by_cases hx : u = v
          · subst hx
            rw [if_neg (by simp)]
            simp only [abin_add, Do_of]
            rw [wrap_i64 (by omega) (by omega), show ((i : Int) + 1) = ((i + 1 : Nat) : Int) by simp]
            refine ih vs (i + 1) hu2 hv2 (by simpa using hlen) ?_
            simpa using hq
          · rw [if_pos (by simpa using hx)]
            have : (u :: us == v :: vs) = false := by rw [beq_eq_false_iff_ne]; intro e; cases e; exact hx rfl
            rw [this] at hq; exact hq
    exact main xs ys 0 rfl rfl he hQ
  · rw [if_pos (by simpa using fun e => he (by omega))]
    rw [ne_len he] at hQ; exact hQ

def SameL (a0 : AV) (a1 : AV) (Q : Post) : (List AV × AH) → ((List AV × AH) → Prop) → Prop := fun s4 L5 =>
 Do (alen false a0) fun x6 =>
 Do (abin .lss (sl s4.1 0) x6) fun x7 =>
 Gd x7 true (
 Do (aiaddr none 1 a0 (sl s4.1 0)) fun x8 =>
 Do (aload s4.2 1 false x8) fun x9 =>
 Do (aiaddr none 1 a1 (sl s4.1 0)) fun x10 =>
 Do (aload s4.2 1 false x10) fun x11 =>
 Do (abin .neq x9 x11) fun x12 =>
 Gd x12 true (
 Q (.bool false) s4.2) (
 Do (abin .add (sl s4.1 0) (.int .i64 1)) fun x13 =>
 L5 ([x13], s4.2))) (
 Q (.bool true) s4.2)
def SameD (a0 : AV) (a1 : AV) (H : AH) (Q : Post) : Prop :=
 Do (alen false a0) fun x1 =>
 Do (alen false a1) fun x2 =>
 Do (abin .neq x1 x2) fun x3 =>
 Gd x3 true (
 Q (.bool false) H) (
 LoopP (SameL a0 a1 Q) ([(.int .i64 0)], H))
theorem SameD_spec {k : IntKind} {xs ys : List Int} {H : AH} {Q : Post} (hl : xs.length ≤ 9223372036854775807) (hQ : Q (.bool (xs == ys)) H) : SameD (lstA (i1 k) xs) (lstA (i1 k) ys) H Q := by
  have e : SameL (lstA (i1 k) xs) (lstA (i1 k) ys) Q = EqualL (lstA (i1 k) xs) (lstA (i1 k) ys) (.int .i64 xs.length) Q := by
    funext s L
    unfold SameL EqualL
    rw [lstA_len']
    simp only [Do_of]
  have := Equal_spec (k := k) (ys := ys) hl hQ
  unfold Equal at this
  unfold SameD
  rw [e]
  simp only [lstA_len', Do_of] at this ⊢
  exact this

/-- Bytes as a text. -/
theorem bytes_str {H : AH} : ∀ {xs : List Int}, (∀ x ∈ xs, 0 ≤ x ∧ x ≤ 255) → abstr H (lstA (i1 .u8) xs) = some (.str (xs.map fun x => UInt8.ofNat x.toNat)) := by
  intro xs hx
  have h1 : ∀ ys : List Int, cellBytes (ys.flatMap (i1 .u8)) = some (ys.map fun x => UInt8.ofNat x.toNat) := by
    intro ys
    induction ys with
    | nil => rfl
    | cons y ys ih =>
      rw [List.flatMap_cons]
      show cellBytes (.int .u8 y :: ys.flatMap (i1 .u8)) = _
      unfold cellBytes
      rw [ih]; rfl
  simp only [abstr, lstA, acells]
  rw [if_pos (by rw [flatMap_len (i1_len _)])]
  simp only [h1, Option.map_some]
theorem bytes_eq {xs ys : List Int} (hx : ∀ x ∈ xs, 0 ≤ x ∧ x ≤ 255) (hy : ∀ x ∈ ys, 0 ≤ x ∧ x ≤ 255) : ((xs.map fun x => UInt8.ofNat x.toNat) == ys.map fun x => UInt8.ofNat x.toNat) = (xs == ys) := by
  rw [Bool.eq_iff_iff]
  simp only [beq_iff_eq]
  constructor
  · intro h
    induction xs generalizing ys with
    | nil => cases ys with | nil => rfl | cons _ _ => cases h
    | cons x xs ih =>
      cases ys with
      | nil => cases h
      | cons y ys =>
        simp only [List.map_cons, List.cons.injEq] at h
        obtain ⟨h1, h2⟩ := h
        have h3 := hx x (by simp)
        have h4 := hy y (by simp)
        have h5 := congrArg UInt8.toNat h1
        simp only [UInt8.toNat_ofNat'] at h5
        rw [ih (fun z hz => hx z (by simp [hz])) (fun z hz => hy z (by simp [hz])) h2]
        congr 1
        omega
  · intro h; rw [h]
end Rb

/- Law 20, TurnSame: whether two outcomes are one. -/
set_option linter.unusedVariables false
set_option linter.unusedSimpArgs false
namespace Rb
open Go

/-- An outcome. -/
structure GOut where
  bytes : List Int
  prints : List (List Int)
  ends : List Int
def prC (p : List Int) : List AV := [lstA (i1 .u64) p]
def GOut.cells (o : GOut) : List AV := [lstA (i1 .u8) o.bytes, lstA prC o.prints, lstA (i1 .i64) o.ends]
structure GOut.ok (o : GOut) : Prop where
  bytes : ∀ x ∈ o.bytes, 0 ≤ x ∧ x ≤ 255
  lb : o.bytes.length ≤ 9223372036854775807
  lp : o.prints.length ≤ 9223372036854775807
  le : o.ends.length ≤ 9223372036854775807
  lq : ∀ p ∈ o.prints, p.length ≤ 9223372036854775807

theorem GOut.ok_of {x1 : List Int} {x2 : List (List Int)} {x3 : List Int} (h1 : x1.length ≤ maxLen ∧ ∀ z ∈ x1, IntKind.min .u8 ≤ z ∧ z ≤ IntKind.max .u8) (h2 : x2.length ≤ maxLen ∧ ∀ p ∈ x2, p.length ≤ maxLen ∧ ∀ z ∈ p, IntKind.min .u64 ≤ z ∧ z ≤ IntKind.max .u64)
    (h3 : x3.length ≤ maxLen ∧ ∀ z ∈ x3, IntKind.min .i64 ≤ z ∧ z ≤ IntKind.max .i64) : GOut.ok ⟨x1, x2, x3⟩ := by
  have hm : maxLen = 9223372036854775807 := by decide
  rw [hm] at h1 h2 h3
  refine ⟨fun z hz => ?_, h1.1, h2.1, h3.1, fun p hp => ?_⟩
  · have := h1.2 z hz
    simp [IntKind.min, IntKind.max, IntKind.signed, IntKind.bits] at this
    omega
  · exact (h2.2 p hp).1
theorem out_box (o : GOut) (H : AH) : aboxv H false 3 (.agg o.cells) = some (.fptr o.cells, H) := by unfold aboxv; rw [if_pos ⟨rfl, rfl⟩]; rfl
theorem out_f0 (o : GOut) : afaddr 0 (.fptr o.cells) = some (.fptr (o.cells.drop 0)) := rfl
theorem out_f1 (o : GOut) : afaddr 1 (.fptr o.cells) = some (.fptr (o.cells.drop 1)) := rfl
theorem out_f2 (o : GOut) : afaddr 2 (.fptr o.cells) = some (.fptr (o.cells.drop 2)) := rfl
theorem out_l0 (o : GOut) (H : AH) : aload H 1 false (.fptr (o.cells.drop 0)) = some (lstA (i1 .u8) o.bytes) := rfl
theorem out_l1 (o : GOut) (H : AH) : aload H 1 false (.fptr (o.cells.drop 1)) = some (lstA prC o.prints) := rfl
theorem out_l2 (o : GOut) (H : AH) : aload H 1 false (.fptr (o.cells.drop 2)) = some (lstA (i1 .i64) o.ends) := rfl
theorem out_all (o : GOut) (H : AH) : aload H 3 true (.fptr o.cells) = some (.agg o.cells) := rfl
theorem abin_streq (s t : List UInt8) : abin .eql (.str s) (.str t) = some (.bool (s == t)) := rfl

def GOut.same (a b : GOut) : Bool := a.bytes == b.bytes && (a.ends == b.ends && a.prints == b.prints)

section
variable {Φ : Calls'} (hT : Cl Φ S.tab_T20) {H : AH} {Q : Post}
include hT
theorem same64 {xs ys : List Int} (hl : xs.length ≤ 9223372036854775807) (hQ : Q (.bool (xs == ys)) H) : Φ K.rabbetref01_Same [lstA (i1 .u64) xs, lstA (i1 .u64) ys] H Q := S.cl_rabbetref01_Same hT (SameD_spec hl hQ)
theorem sameInts {xs ys : List Int} (hl : xs.length ≤ 9223372036854775807) (hQ : Q (.bool (xs == ys)) H) : Φ K.rabbetref01_Ints [lstA (i1 .i64) xs, lstA (i1 .i64) ys] H Q := S.cl_rabbetref01_Ints hT (SameD_spec hl hQ)
theorem equal64 {xs ys : List Int} (hl : xs.length ≤ 9223372036854775807) (hQ : Q (.bool (xs == ys)) H) : Φ K.slices_Equal___uint64_uint64_ [lstA (i1 .u64) xs, lstA (i1 .u64) ys] H Q := S.cl_slices_Equal___uint64_uint64_ hT (Equal_spec hl hQ)
theorem equalInts {xs ys : List Int} (hl : xs.length ≤ 9223372036854775807) (hQ : Q (.bool (xs == ys)) H) : Φ K.slices_Equal___int_int_ [lstA (i1 .i64) xs, lstA (i1 .i64) ys] H Q := S.cl_slices_Equal___int_int_ hT (Equal_spec hl hQ)
theorem equalBytes {xs ys : List Int} (hl : xs.length ≤ 9223372036854775807) (hQ : Q (.bool (xs == ys)) H) : Φ K.slices_Equal___byte_byte_ [lstA (i1 .u8) xs, lstA (i1 .u8) ys] H Q := S.cl_slices_Equal___byte_byte_ hT (Equal_spec hl hQ)

theorem equalFunc {xs ys : List (List Int)} (hl : xs.length ≤ 9223372036854775807) (hq : ∀ p ∈ xs, p.length ≤ 9223372036854775807) (hQ : Q (.bool (xs == ys)) H) :
    S.slices_EqualFunc_____uint64_____uint64___uint64___uint64_ Φ (lstA prC xs) (lstA prC ys) (.fn K.slices_Equal___uint64_uint64_ []) H Q := by
  unfold S.slices_EqualFunc_____uint64_____uint64___uint64___uint64_
  simp only [lstA_len', Do_of, abin_neq, Gd_true]
  by_cases he : xs.length = ys.length
  · rw [if_neg (by simp [he])]
    have main : ∀ (us vs : List (List Int)) (i : Nat), xs.drop i = us → ys.drop i = vs → us.length = vs.length → Q (.bool (us == vs)) H →
        LoopP (S.slices_EqualFunc_____uint64_____uint64___uint64___uint64__l1 Φ (lstA prC xs) (lstA prC ys) (.fn K.slices_Equal___uint64_uint64_ []) (.int .i64 xs.length) Q) ([.int .i64 i], H) := by
      intro us
      induction us with
      | nil =>
        intro vs i hu hv hlen hq'
        have hle := drop_nil_le hu
        obtain rfl : vs = [] := by cases vs with | nil => rfl | cons _ _ => cases hlen
        refine LoopP.step ?_
        simp only [S.slices_EqualFunc_____uint64_____uint64___uint64___uint64__l1, sl_zero, abin_lss, Do_of, Gd_true]
        rw [if_neg (by simp only [decide_eq_true_eq]; omega)]
        exact hq'
      | cons u us ih =>
        intro vs i hu hv hlen hq'
        cases vs with
        | nil => cases hlen
        | cons v vs =>
          obtain ⟨hlt, hu1, hu2⟩ := drop_cons_lt hu
          obtain ⟨hlt', hv1, hv2⟩ := drop_cons_lt hv
          refine LoopP.step ?_
          simp only [S.slices_EqualFunc_____uint64_____uint64___uint64___uint64__l1, sl_zero, abin_lss, Do_of, Gd_true]
          rw [if_pos (by simp only [decide_eq_true_eq]; omega), lstA_addr hlt, lstA_addr hlt']
          simp only [Do_of]
          have r1 : aload H 1 false (elA prC 1 xs i) = some (lstA (i1 .u64) u) := one_load (c := fun p => lstA (i1 .u64) p) H hu1
          have r2 : aload H 1 false (elA prC 1 ys i) = some (lstA (i1 .u64) v) := one_load (c := fun p => lstA (i1 .u64) p) H hv1
          rw [r1, r2]
          simp only [Do_of]
          refine ⟨_, _, rfl, equal64 hT (hq u (List.mem_of_getElem? hu1)) ?_⟩
          simp only [aun_not, Do_of, Gd_true]
          by_cases hx : u = v
          · subst hx
            rw [if_neg (by simp)]
            simp only [abin_add, Do_of]
            rw [wrap_i64 (by omega) (by omega), show ((i : Int) + 1) = ((i + 1 : Nat) : Int) by simp]
            refine ih vs (i + 1) hu2 hv2 (by simpa using hlen) ?_
            simpa using hq'
          · rw [if_pos (by simpa using hx)]
            have : (u :: us == v :: vs) = false := by rw [beq_eq_false_iff_ne]; intro e; cases e; exact hx rfl
            rw [this] at hq'; exact hq'
    exact main xs ys 0 rfl rfl he hQ
  · rw [if_pos (by simpa using fun e => he (by omega))]
    rw [ne_len he] at hQ; exact hQ

theorem turn_Same_spec {a b : GOut} (ha : a.ok) (hQ : Q (.bool (a.same b)) H) : S.turn_Same Φ (.agg a.cells) (.agg b.cells) H Q := by
  unfold S.turn_Same
  simp only [out_box, DoH_some, out_f0, out_f1, out_f2, out_l0, out_l1, out_l2, Do_of]
  refine equalBytes hT ha.lb ?_
  have k1 : ∀ w : Bool, a.same b = (w && a.prints == b.prints) → JoinP (S.turn_Same_k1 Φ (.fptr a.cells) (.fptr b.cells) Q) [.bool w] H := by
    intro w hw
    simp only [JoinP_def, S.turn_Same_k1, sl_zero, Gd3_true, out_f1, out_l1, Do_of]
    cases w with
    | false => rw [if_neg (by simp)]; rw [hw] at hQ; exact hQ
    | true =>
      rw [if_pos rfl]
      refine S.cl_slices_EqualFunc_____uint64_____uint64___uint64___uint64_ hT (equalFunc hT ha.lp ha.lq ?_)
      rw [hw, Bool.true_and] at hQ; exact hQ
  simp only [Gd3_true]
  refine ite_both (fun h => ?_) (fun h => ?_)
  · refine equalInts hT ha.le (k1 _ ?_)
    rw [GOut.same, h, Bool.true_and]
  · refine k1 _ ?_
    simp only [Bool.not_eq_true] at h
    rw [GOut.same, h]; rfl

theorem TurnSame_spec (hw : ∀ (H : AH) (Q : Post), Q (.bool true) H → Φ K.rabbetlaw20_awake [] H Q) {a b : GOut} (ha : a.ok) (hb : b.ok) (hQ : Q (.bool true) H) : S.rabbetlaw20_TurnSame Φ (.agg a.cells) (.agg b.cells) H Q := by
  unfold S.rabbetlaw20_TurnSame
  simp only [out_box, DoH_some, out_f0, out_f1, out_f2, out_l0, out_l1, out_l2, Do_of, bytes_str ha.bytes, bytes_str hb.bytes, abin_streq, bytes_eq ha.bytes hb.bytes, Gd3_true]
  have k2 : S.rabbetlaw20_TurnSame_k2 Φ (.fptr a.cells) (.fptr b.cells) Q [.bool (a.same b)] H := by
    simp only [S.rabbetlaw20_TurnSame_k2, sl_zero]
    refine hw _ _ ?_
    simp only [Gd3_true, if_true, out_all, Do_of]
    refine S.cl_turn_Same hT (turn_Same_spec hT ha ?_)
    simp only [abeq_def, Bool.false_eq_true, if_false, BEq.rfl, Do_of]
    exact hQ
  have k5 : ∀ w : Bool, (w = true → a.prints.length = b.prints.length) → a.same b = (w && a.prints == b.prints) → S.rabbetlaw20_TurnSame_k5 Φ (.fptr a.cells) (.fptr b.cells) Q [.bool w] H := by
    intro w hl hw0
    have main : ∀ (us vs : List (List Int)) (i : Nat) (w : Bool), a.prints.drop i = us → b.prints.drop i = vs → (w = true → us.length = vs.length) → a.same b = (w && us == vs) →
        LoopP (S.rabbetlaw20_TurnSame_l4 Φ (.fptr a.cells) (.fptr b.cells) Q) ([.bool w, .int .i64 i], H) := by
      intro us
      induction us with
      | nil =>
        intro vs i w hu hv hlen hs
        have hle := drop_nil_le hu
        refine LoopP.step ?_
        simp only [S.rabbetlaw20_TurnSame_l4, sl_zero, sl_succ, out_f1, out_l1, lstA_len', abin_lss, Do_of, Gd3_true]
        rw [if_neg (by simp only [decide_eq_true_eq]; omega)]
        simp only [JoinP_def, S.rabbetlaw20_TurnSame_k3, sl_zero, Gd_true, Bool.false_eq_true, if_false]
        have : a.same b = w := by
          cases w with
          | false => simpa using hs
          | true =>
            obtain rfl : vs = [] := by cases vs with | nil => rfl | cons _ _ => have := hlen rfl; cases this
            simpa using hs
        rw [← this]; exact k2
      | cons u us ih =>
        intro vs i w hu hv hlen hs
        obtain ⟨hlt, hu1, hu2⟩ := drop_cons_lt hu
        refine LoopP.step ?_
        simp only [S.rabbetlaw20_TurnSame_l4, sl_zero, sl_succ, out_f1, out_l1, lstA_len', abin_lss, Do_of, Gd3_true]
        rw [if_pos (by simp only [decide_eq_true_eq]; omega)]
        simp only [JoinP_def, S.rabbetlaw20_TurnSame_k3, sl_zero, Gd_true]
        cases w with
        | false =>
          rw [if_neg (by simp)]
          have : a.same b = false := by simpa using hs
          rw [← this]; exact k2
        | true =>
          rw [if_pos rfl]
          cases vs with
          | nil => have := hlen rfl; cases this
          | cons v vs =>
            obtain ⟨hlt', hv1, hv2⟩ := drop_cons_lt hv
            simp only [S.rabbetlaw20_TurnSame_k1, sl_zero, sl_succ, out_f1, out_l1, Do_of]
            rw [lstA_addr hlt, lstA_addr hlt']
            have r1 : aload H 1 false (elA prC 1 a.prints i) = some (lstA (i1 .u64) u) := one_load (c := fun p => lstA (i1 .u64) p) H hu1
            have r2 : aload H 1 false (elA prC 1 b.prints i) = some (lstA (i1 .u64) v) := one_load (c := fun p => lstA (i1 .u64) p) H hv1
            simp only [Do_of, r1, r2]
            refine same64 hT (ha.lq u (List.mem_of_getElem? hu1)) ?_
            simp only [abin_add, Do_of]
            have := ha.lp
            rw [wrap_i64 (by omega) (by omega), show ((i : Int) + 1) = ((i + 1 : Nat) : Int) by simp]
            refine ih vs (i + 1) _ hu2 hv2 (fun _ => by have := hlen rfl; simpa using this) ?_
            rw [hs, Bool.true_and]
            rfl
    simp only [S.rabbetlaw20_TurnSame_k5, sl_zero]
    exact main _ _ 0 w rfl rfl hl hw0
  have k6 : ∀ w : Bool, w = (a.bytes == b.bytes && a.ends == b.ends) → JoinP (S.rabbetlaw20_TurnSame_k6 Φ (.fptr a.cells) (.fptr b.cells) Q) [.bool w] H := by
    intro w hw0
    have e : a.same b = (w && a.prints == b.prints) := by rw [hw0, GOut.same, Bool.and_assoc]
    simp only [JoinP_def, S.rabbetlaw20_TurnSame_k6, sl_zero, out_f1, out_l1, lstA_len', abin_eql, Do_of, Gd3_true]
    refine ite_both (fun h => ?_) (fun h => ?_)
    · refine k5 _ (fun h' => by simp at h'; omega) ?_
      rw [e, h, Bool.true_and]
      by_cases hl : a.prints.length = b.prints.length
      · simp [hl]
      · rw [ne_len hl]; simp
    · refine k5 _ (fun h' => by cases h') ?_
      rw [e]; simp only [Bool.not_eq_true] at h; rw [h]; first | done | rfl
  refine ite_both (fun h => ?_) (fun h => ?_)
  · refine sameInts hT ha.le (k6 _ ?_)
    rw [h, Bool.true_and]
  · refine k6 _ ?_
    simp only [Bool.not_eq_true] at h
    rw [h]; first | done | rfl
end
end Rb

/- Law 20, TurnSame. -/
set_option linter.unusedVariables false
namespace Go.Proofs.YtklmnikdhpkifaaGreatDoor.rb
open Rb
theorem turnSame.any (a : GOut) (ha : a.ok) (b : GOut) (hb : b.ok) : ACall C K.rabbetlaw20_TurnSame [.agg a.cells, .agg b.cells] AH.mt (fun v _ => v = .bool true) :=
  S.cl_rabbetlaw20_TurnSame cl_T20 (TurnSame_spec cl_T20 (fun H Q hQ => RbM20_rootok0 K.rabbetlaw20_awake [] (.bool true) rfl H Q hQ) ha hb rfl)
end Go.Proofs.YtklmnikdhpkifaaGreatDoor.rb

/- What all laws of the seat share: the variables that the text of the program lays. By wrap.py. -/
set_option linter.unusedVariables false
namespace Go.Proofs.YtklmnikdhpkifaaGreatDoor.rb
open Rb Go.ChangeShapes Go.WideShapes Go.ChangeAt Go.RowKit

theorem own : ownKnob Tryz.prog.godebug = none := by kernel_rfl
theorem laidOut : laidOutB Tryz.prog = true := by kernel_rfl
theorem gT : Tryz.prog.globalNamed "strings.asciiSpace" = some 0 := by kernel_rfl
theorem gTType : (Tryz.prog.globals[0]?).map (·.type) = some 275 := by kernel_rfl
theorem cellsU : Tryz.prog.cellsOf 5 = 1 := by kernel_rfl
theorem cellsT : Tryz.prog.cellsOf 275 = 256 := by kernel_rfl
def laidVars : List (String × DataW Unit) := Rows.turnSameRow.laid

theorem tab_eq : (Rows.laid_strings_asciiSpace : DataW Unit) = Go.Lib.tabData .u8 Go.Lib.asciiSpaceTab := by kernel_rfl
theorem tab_mem : (("strings.asciiSpace", Go.Lib.tabData .u8 Go.Lib.asciiSpaceTab) : String × DataW Unit) ∈ laidVars := by
  rw [← tab_eq]; exact .tail _ (.tail _ (.tail _ (.tail _ (.tail _ (.tail _ (.head _))))))
theorem tab_of {W : World} (h : laidMet Tryz.prog laidVars W) : Go.Lib.TabIs Tryz.prog W "strings.asciiSpace" .u8 Go.Lib.asciiSpaceTab := by
  obtain ⟨g', t', cs, fuel, p, hg', ht', hvar, hd⟩ := Go.Lib.laidMet.reads h tab_mem
  obtain rfl := Option.some.inj (gT.symm.trans hg')
  obtain rfl := Option.some.inj (gTType.symm.trans ht')
  unfold Go.Lib.TabIs
  rw [hvar, ← Go.Lib.cells_of_tab Tryz.underlying275 Tryz.underlying5 cellsU cellsT hd]

theorem gok {W : World} (h : laidMet Tryz.prog laidVars W) : GOK C W (Ghost.mt (allFz W)) := by
  intro g l hg
  have ht := tab_of h
  change gt g = some l at hg
  unfold gt at hg
  split at hg
  · rename_i e
    subst e
    cases hg
    rw [asciiSpace_eq]
    exact fptr_of_tab fun i hi => ht.cell gT i hi
  · cases hg

/-- A world in which the variables hold what their initialisers lay. -/
noncomputable def laidWorld (os : Os) : World :=
  let N := (World.settled Tryz.prog os).heap.size
  let w0 := World.holding Tryz.prog os ⟨#[.cells #[.string ⟨#[118, 97, 108, 117, 101, 32, 111, 117, 116, 32, 111, 102, 32, 114, 97, 110, 103, 101]⟩] 462, .cells #[.string ⟨#[105, 110, 118, 97, 108, 105, 100, 32, 115, 121, 110, 116, 97, 120]⟩] 462, .cells #[.int .u16 9, .int .u16 13, .int .u16 1, .int .u16 32, .int .u16 133, .int .u16 101, .int .u16 160, .int .u16 5760, .int .u16 5600, .int .u16 8192, .int .u16 8202, .int .u16 1, .int .u16 8232, .int .u16 8233, .int .u16 1, .int .u16 8239, .int .u16 8287, .int .u16 48, .int .u16 12288, .int .u16 12288, .int .u16 1] 415, .cells #[.slice (some ⟨N + 2, 0, none⟩) 7 7, .slice none 0 0, .int .i64 2] 412], #[], []⟩
  let put (h : Array Obj) (g : Nat) (cs : Array Value) : Array Obj := h.modify g fun
    | .cells _ t frozen => .cells cs t frozen
    | o => o
  { w0 with heap := put (put (put (put (put (put (put (w0.heap) 6 #[.int .u8 0, .int .u8 1, .int .u8 28, .int .u8 2, .int .u8 29, .int .u8 14, .int .u8 24, .int .u8 3, .int .u8 30, .int .u8 22, .int .u8 20, .int .u8 15, .int .u8 25, .int .u8 17, .int .u8 4, .int .u8 8, .int .u8 31, .int .u8 27, .int .u8 13, .int .u8 23, .int .u8 21, .int .u8 19, .int .u8 16, .int .u8 7, .int .u8 26, .int .u8 12, .int .u8 18, .int .u8 6, .int .u8 11, .int .u8 5, .int .u8 10, .int .u8 9]) 7 #[.int .u8 0, .int .u8 1, .int .u8 56, .int .u8 2, .int .u8 57, .int .u8 49, .int .u8 28, .int .u8 3, .int .u8 61, .int .u8 58, .int .u8 42, .int .u8 50, .int .u8 38, .int .u8 29, .int .u8 17, .int .u8 4, .int .u8 62, .int .u8 47, .int .u8 59, .int .u8 36, .int .u8 45, .int .u8 43, .int .u8 51, .int .u8 22, .int .u8 53, .int .u8 39, .int .u8 33, .int .u8 30, .int .u8 24, .int .u8 18, .int .u8 12, .int .u8 5, .int .u8 63, .int .u8 55, .int .u8 48, .int .u8 27, .int .u8 60, .int .u8 41, .int .u8 37, .int .u8 16, .int .u8 46, .int .u8 35, .int .u8 44, .int .u8 21, .int .u8 52, .int .u8 32, .int .u8 23, .int .u8 11, .int .u8 54, .int .u8 26, .int .u8 40, .int .u8 15, .int .u8 34, .int .u8 20, .int .u8 31, .int .u8 10, .int .u8 25, .int .u8 14, .int .u8 19, .int .u8 9, .int .u8 13, .int .u8 8, .int .u8 7, .int .u8 6]) 5 #[.int .u64 1, .int .u64 10, .int .u64 100, .int .u64 1000, .int .u64 10000, .int .u64 100000, .int .u64 1000000, .int .u64 10000000, .int .u64 100000000, .int .u64 1000000000, .int .u64 10000000000, .int .u64 100000000000, .int .u64 1000000000000, .int .u64 10000000000000, .int .u64 100000000000000, .int .u64 1000000000000000, .int .u64 10000000000000000, .int .u64 100000000000000000, .int .u64 1000000000000000000, .int .u64 10000000000000000000]) 3 #[.iface 460 (.pointer (some ⟨N + 0, 0, none⟩))]) 2 #[.iface 460 (.pointer (some ⟨N + 1, 0, none⟩))]) 1 #[.pointer (some ⟨N + 3, 0, none⟩)]) 0 #[.int .u8 0, .int .u8 0, .int .u8 0, .int .u8 0, .int .u8 0, .int .u8 0, .int .u8 0, .int .u8 0, .int .u8 0, .int .u8 1, .int .u8 1, .int .u8 1, .int .u8 1, .int .u8 1, .int .u8 0, .int .u8 0, .int .u8 0, .int .u8 0, .int .u8 0, .int .u8 0, .int .u8 0, .int .u8 0, .int .u8 0, .int .u8 0, .int .u8 0, .int .u8 0, .int .u8 0, .int .u8 0, .int .u8 0, .int .u8 0, .int .u8 0, .int .u8 0, .int .u8 1, .int .u8 0, .int .u8 0, .int .u8 0, .int .u8 0, .int .u8 0, .int .u8 0, .int .u8 0, .int .u8 0, .int .u8 0, .int .u8 0, .int .u8 0, .int .u8 0, .int .u8 0, .int .u8 0, .int .u8 0, .int .u8 0, .int .u8 0, .int .u8 0, .int .u8 0, .int .u8 0, .int .u8 0, .int .u8 0, .int .u8 0, .int .u8 0, .int .u8 0, .int .u8 0, .int .u8 0, .int .u8 0, .int .u8 0, .int .u8 0, .int .u8 0, .int .u8 0, .int .u8 0, .int .u8 0, .int .u8 0, .int .u8 0, .int .u8 0, .int .u8 0, .int .u8 0, .int .u8 0, .int .u8 0, .int .u8 0, .int .u8 0, .int .u8 0, .int .u8 0, .int .u8 0, .int .u8 0, .int .u8 0, .int .u8 0, .int .u8 0, .int .u8 0, .int .u8 0, .int .u8 0, .int .u8 0, .int .u8 0, .int .u8 0, .int .u8 0, .int .u8 0, .int .u8 0, .int .u8 0, .int .u8 0, .int .u8 0, .int .u8 0, .int .u8 0, .int .u8 0, .int .u8 0, .int .u8 0, .int .u8 0, .int .u8 0, .int .u8 0, .int .u8 0, .int .u8 0, .int .u8 0, .int .u8 0, .int .u8 0, .int .u8 0, .int .u8 0, .int .u8 0, .int .u8 0, .int .u8 0, .int .u8 0, .int .u8 0, .int .u8 0, .int .u8 0, .int .u8 0, .int .u8 0, .int .u8 0, .int .u8 0, .int .u8 0, .int .u8 0, .int .u8 0, .int .u8 0, .int .u8 0, .int .u8 0, .int .u8 0, .int .u8 0, .int .u8 0, .int .u8 0, .int .u8 0, .int .u8 0, .int .u8 0, .int .u8 0, .int .u8 0, .int .u8 0, .int .u8 0, .int .u8 0, .int .u8 0, .int .u8 0, .int .u8 0, .int .u8 0, .int .u8 0, .int .u8 0, .int .u8 0, .int .u8 0, .int .u8 0, .int .u8 0, .int .u8 0, .int .u8 0, .int .u8 0, .int .u8 0, .int .u8 0, .int .u8 0, .int .u8 0, .int .u8 0, .int .u8 0, .int .u8 0, .int .u8 0, .int .u8 0, .int .u8 0, .int .u8 0, .int .u8 0, .int .u8 0, .int .u8 0, .int .u8 0, .int .u8 0, .int .u8 0, .int .u8 0, .int .u8 0, .int .u8 0, .int .u8 0, .int .u8 0, .int .u8 0, .int .u8 0, .int .u8 0, .int .u8 0, .int .u8 0, .int .u8 0, .int .u8 0, .int .u8 0, .int .u8 0, .int .u8 0, .int .u8 0, .int .u8 0, .int .u8 0, .int .u8 0, .int .u8 0, .int .u8 0, .int .u8 0, .int .u8 0, .int .u8 0, .int .u8 0, .int .u8 0, .int .u8 0, .int .u8 0, .int .u8 0, .int .u8 0, .int .u8 0, .int .u8 0, .int .u8 0, .int .u8 0, .int .u8 0, .int .u8 0, .int .u8 0, .int .u8 0, .int .u8 0, .int .u8 0, .int .u8 0, .int .u8 0, .int .u8 0, .int .u8 0, .int .u8 0, .int .u8 0, .int .u8 0, .int .u8 0, .int .u8 0, .int .u8 0, .int .u8 0, .int .u8 0, .int .u8 0, .int .u8 0, .int .u8 0, .int .u8 0, .int .u8 0, .int .u8 0, .int .u8 0, .int .u8 0, .int .u8 0, .int .u8 0, .int .u8 0, .int .u8 0, .int .u8 0, .int .u8 0, .int .u8 0, .int .u8 0, .int .u8 0, .int .u8 0, .int .u8 0, .int .u8 0, .int .u8 0, .int .u8 0, .int .u8 0, .int .u8 0, .int .u8 0, .int .u8 0, .int .u8 0, .int .u8 0, .int .u8 0, .int .u8 0, .int .u8 0, .int .u8 0, .int .u8 0, .int .u8 0, .int .u8 0] }
theorem laid_met (os : Os) (args : Array Value) : laidMet Tryz.prog laidVars ((laidWorld os).forCall (fun _ _ => 0) ⟨#[], args, []⟩).memory :=
  laidMet_of_run3 10 (by kernel_rfl) (by kernel_rfl) (by kernel_rfl)
theorem laid_shaped (os : Os) (args : Array Value) : ((laidWorld os).forCall (fun _ _ => 0) ⟨#[], args, []⟩).Shaped Tryz.prog := World.shaped_of_RefB (by kernel_rfl) (by kernel_rfl)
end Go.Proofs.YtklmnikdhpkifaaGreatDoor.rb
