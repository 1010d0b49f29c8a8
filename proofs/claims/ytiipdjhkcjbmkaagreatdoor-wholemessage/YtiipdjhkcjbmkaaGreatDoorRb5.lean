/- A part of the proof (part 5): see the last text. -/
import Derived.Test.YtiipdjhkcjbmkaaGreatDoorRb4
set_option linter.unusedVariables false
namespace Go.Proofs.YtiipdjhkcjbmkaaGreatDoor.rb
open Rb
noncomputable section
def RbM25v0 : AV := .lst .dead 34 [.str [118,97,114],.str [116,104,114,101,97,100],.str [115,116,114,117,99,116],.str [117,110,105,111,110],.str [112,97,99,107,101,100],.str [117,56],.str [117,49,54],.str [117,51,50],.str [117,54,52],.str [97,56],.str [97,49,54],.str [97,51,50],.str [97,54,52],.str [97,49,50,56],.str [108,101,116],.str [115,101,116],.str [119,114,105,116,101],.str [115,116,111,114,101],.str [108,111,97,100,50],.str [115,116,111,114,101,50],.str [102,101,110,99,101],.str [105,102],.str [101,108,115,101],.str [119,104,105,108,101],.str [112,114,105,110,116],.str [114,101,97,100],.str [108,111,97,100],.str [97,100,100],.str [115,119,97,112],.str [99,97,115],.str [114,108,120],.str [97,99,113],.str [114,101,108],.str [115,99]]
def RbM25v1 : AV := .agg [.int .i64 (.ofNat 2),.int .i64 (.ofNat 4),.bool false,.lst .dead 0 [],.int .i64 (.ofNat 0),.lst .dead 0 []]
def RbM25v2 : AV := .agg [.int .i64 (.ofNat 1),.int .i64 (.ofNat 4),.bool false,.lst .dead 0 [],.int .i64 (.ofNat 0),.lst .dead 0 []]
def RbM25v3 : AV := .tup [.agg [.int .i64 (.ofNat 4),.int .i64 (.ofNat 4)],.bool true]
def RbM25v4 : AV := .tup [.agg [.bool false,.bool false,.bool true,.int .i64 (.ofNat 1),.bool false,.bool false],.bool true]
def RbM25v5 : AV := .agg [.str [120],.int .i64 (.ofNat 1),.int .i64 (.ofNat 4),.bool false,.lst .dead 0 [],.int .i64 (.ofNat 0),.lst .dead 0 []]
def RbM25v6 : AV := .lst .dead 2 [.str [120],.int .i64 (.ofNat 1),.int .i64 (.ofNat 4),.bool false,.lst .dead 0 [],.int .i64 (.ofNat 0),.lst .dead 0 [],.str [102],.int .i64 (.ofNat 2),.int .i64 (.ofNat 4),.bool false,.lst .dead 0 [],.int .i64 (.ofNat 0),.lst .dead 0 []]
def RbM25v7 : AV := .agg [.int .i64 (.ofNat 0),.int .i64 (.ofNat 5),.bool false,.int .u32 (.ofNat 0),.int .i64 (.ofNat 31)]
def RbM25v8 : AV := .agg [.int .i64 (.ofNat 5),.int .i64 (.ofNat 16),.bool false,.int .u32 (.ofNat 0),.int .i64 (.ofNat 65535)]
def RbM25v9 : AV := .agg [.int .i64 (.ofNat 21),.int .i64 (.ofNat 2),.bool false,.int .u32 (.ofNat 0),.int .i64 (.ofNat 3)]
def RbM25v10 : AV := .agg [.int .i64 (.ofNat 5),.int .i64 (.ofNat 5),.bool false,.int .u32 (.ofNat 0),.int .i64 (.ofNat 30)]
def RbM25v11 : AV := .agg [.int .i64 (.ofNat 10),.int .i64 (.ofNat 12),.bool false,.int .u32 (.ofNat 0),.int .i64 (.ofNat 4095)]
def RbM25v12 : AV := .agg [.int .i64 (.ofNat 30),.int .i64 (.ofNat 2),.bool false,.int .u32 (.ofNat 0),.int .i64 (.ofNat 3)]
def RbM25v13 : AV := .agg [.int .i64 (.ofNat 5),.int .i64 (.ofNat 5),.bool false,.int .u32 (.ofNat 0),.int .i64 (.ofNat 31)]
def RbM25v14 : AV := .agg [.int .i64 (.ofNat 16),.int .i64 (.ofNat 5),.bool false,.int .u32 (.ofNat 0),.int .i64 (.ofNat 31)]
def RbM25v15 : AV := .lst .dead 2 [.str [120],.int .i64 (.ofNat 65536),.int .i64 (.ofNat 4),.str [102],.int .i64 (.ofNat 65540),.int .i64 (.ofNat 4)]
def RbM25v16 : AV := .agg [.lst .dead 2 [.lst .dead 10 [.int .u32 (.ofNat 3531604508),.int .u32 (.ofNat 4070572092),.int .u32 (.ofNat 3531604000),.int .u32 (.ofNat 3533701153),.int .u32 (.ofNat 3103784992),.int .u32 (.ofNat 3531604000),.int .u32 (.ofNat 3531604097),.int .u32 (.ofNat 4070572065),.int .u32 (.ofNat 2292186144),.int .u32 (.ofNat 3556769793)],.lst .dead 10 [.int .u32 (.ofNat 3531637276),.int .u32 (.ofNat 4070572092),.int .u32 (.ofNat 3531604096),.int .u32 (.ofNat 4070572064),.int .u32 (.ofNat 2296380417),.int .u32 (.ofNat 2852193248),.int .u32 (.ofNat 3533701152),.int .u32 (.ofNat 3107979265),.int .u32 (.ofNat 3556769857),.int .u32 (.ofNat 3556769793)]],.lst .dead 2 [.lst .dead 10 [.int .i64 (.ofNat 0),.int .i64 (.ofNat 0),.int .i64 (.ofNat 0),.int .i64 (.ofNat 0),.int .i64 (.ofNat 0),.int .i64 (.ofNat 0),.int .i64 (.ofNat 0),.int .i64 (.ofNat 0),.int .i64 (.ofNat 1),.int .i64 (.ofNat 0),.int .i64 (.ofNat 0),.int .i64 (.ofNat 1),.int .i64 (.ofNat 0),.int .i64 (.ofNat 1),.int .i64 (.ofNat 1),.int .i64 (.ofNat 0),.int .i64 (.ofNat 0),.int .i64 (.ofNat 1),.int .i64 (.ofNat 0),.int .i64 (.ofNat 0),.int .i64 (.ofNat 1),.int .i64 (.ofNat 0),.int .i64 (.ofNat 0),.int .i64 (.ofNat 1),.int .i64 (.ofNat 0),.int .i64 (.ofNat 2),.int .i64 (.ofNat 1),.int .i64 (.ofNat 0),.int .i64 (.ofNat 0),.int .i64 (.ofNat 1)],.lst .dead 10 [.int .i64 (.ofNat 1),.int .i64 (.ofNat 0),.int .i64 (.ofNat 0),.int .i64 (.ofNat 1),.int .i64 (.ofNat 0),.int .i64 (.ofNat 0),.int .i64 (.ofNat 1),.int .i64 (.ofNat 0),.int .i64 (.ofNat 1),.int .i64 (.ofNat 1),.int .i64 (.ofNat 0),.int .i64 (.ofNat 1),.int .i64 (.ofNat 1),.int .i64 (.ofNat 1),.int .i64 (.ofNat 1),.int .i64 (.ofNat 1),.int .i64 (.ofNat 0),.int .i64 (.ofNat 1),.int .i64 (.ofNat 1),.int .i64 (.ofNat 0),.int .i64 (.ofNat 1),.int .i64 (.ofNat 1),.int .i64 (.ofNat 2),.int .i64 (.ofNat 1),.int .i64 (.ofNat 1),.int .i64 (.ofNat 0),.int .i64 (.ofNat 1),.int .i64 (.ofNat 1),.int .i64 (.ofNat 0),.int .i64 (.ofNat 1)]],RbM25v15,.int .i64 (.ofNat 8)]
def RbM25v17 : AV := .agg [.int .i64 (.ofNat 12),.int .i64 (.ofNat 2),.bool false,.int .u32 (.ofNat 1),.int .i64 (.ofNat 3)]
def RbM25v18 : AV := .agg [.int .i64 (.ofNat 0),.int .i64 (.ofNat 26),.bool true,.int .u32 (.ofNat 0),.int .i64 (.ofNat 0)]
def RbM25v19 : AV := .agg [.int .i64 (.ofNat 5),.int .i64 (.ofNat 19),.bool true,.int .u32 (.ofNat 0),.int .i64 (.ofNat 0)]
def RbM25v20 : AV := .agg [.int .i64 (.ofNat 0),.int .i64 (.ofNat 2),.bool false,.int .u32 (.ofNat 0),.int .i64 (.ofNat 3)]
def RbM25v21 : AV := .agg [.int .i64 (.ofNat 10),.int .i64 (.ofNat 5),.bool false,.int .u32 (.ofNat 0),.int .i64 (.ofNat 31)]
def RbM25v22 : AV := .agg [.int .i64 (.ofNat 8),.int .i64 (.ofNat 4),.bool false,.int .u32 (.ofNat 0),.int .i64 (.ofNat 2)]
def RbM25v23 : AV := .lst .dead 4 [.int .u8 (.ofNat 1),.int .u8 (.ofNat 0),.int .u8 (.ofNat 0),.int .u8 (.ofNat 0)]
def RbM25v24 : AV := .lst .dead 4 [.int .u8 (.ofNat 0),.int .u8 (.ofNat 0),.int .u8 (.ofNat 0),.int .u8 (.ofNat 0)]
def RbM25v25 : AV := .lst .dead 4 [.int .i64 (.ofNat 0),.int .i64 (.ofNat 0),.int .i64 (.ofNat 0),.int .i64 (.ofNat 0)]
def RbM25v26 : AV := .lst .dead 4 [.lst .dead 0 [],.lst .dead 0 [],RbM25v25,RbM25v25]
def RbM25v27 : AV := .lst .dead 8 [.lst .dead 1 [.int .i64 (.ofNat 0)],.lst .dead 1 [.int .i64 (.ofNat 0)],.lst .dead 1 [.int .i64 (.ofNat 0)],.lst .dead 1 [.int .i64 (.ofNat 0)],.lst .dead 1 [.int .i64 (.ofNat 1)],.lst .dead 1 [.int .i64 (.ofNat 1)],.lst .dead 1 [.int .i64 (.ofNat 1)],.lst .dead 1 [.int .i64 (.ofNat 1)]]
def RbM25v28 : AV := .agg [.lst .dead 4 [.int .i64 (.ofNat 0),.int .i64 (.ofNat 1),.bool false,.bool true,.bool false,.int .i64 (.ofNat 65536),.int .i64 (.ofNat 4),RbM25v23,.int .i64 (.ofNat 0),.bool false,.int .i64 (.ofNat 0),.int .i64 (.ofNat 0),.int .i64 (.ofNat 2),.bool false,.bool true,.bool false,.int .i64 (.ofNat 65540),.int .i64 (.ofNat 4),RbM25v23,.int .i64 (.ofNat 4),.bool false,.int .i64 (.ofNat 0),.int .i64 (.ofNat 1),.int .i64 (.ofNat 1),.bool true,.bool false,.bool false,.int .i64 (.ofNat 65540),.int .i64 (.ofNat 4),RbM25v24,.int .i64 (.ofNat 4),.bool false,.int .i64 (.ofNat 0),.int .i64 (.ofNat 1),.int .i64 (.ofNat 2),.bool true,.bool false,.bool false,.int .i64 (.ofNat 65536),.int .i64 (.ofNat 4),RbM25v24,.int .i64 (.ofNat 0),.bool false,.int .i64 (.ofNat 0)],RbM25v26,RbM25v27,.int .i64 (.ofNat 8)]
def RbM25v29 : AV := .agg [.int .u64 (.ofNat 6),.int .u64 (.ofNat 12),.int .u64 (.ofNat 3),.int .u64 (.ofNat 4),.int .u64 (.ofNat 2),.int .u64 (.ofNat 0),.int .u64 (.ofNat 0),.int .u64 (.ofNat 6)]
def RbM25v30 : AV := .agg [.int .i64 (.ofNat 1),.int .i64 (.ofNat 1),.bool false,.lst .dead 0 [],.int .i64 (.ofNat 0),.lst .dead 0 []]
def RbM25v31 : AV := .lst .dead 3 [.int .i64 (.ofNat 1),.int .i64 (.ofNat 0),.int .i64 (.negSucc 0),.int .i64 (.negSucc 0),.int .i64 (.negSucc 0),.int .i64 (.negSucc 0),.int .u64 (.ofNat 7),.int .i64 (.ofNat 0),.int .i64 (.ofNat 0),.int .i64 (.ofNat 0),.int .i64 (.ofNat 0),.int .i64 (.ofNat 0),.int .i64 (.ofNat 1),.int .i64 (.ofNat 1),.int .i64 (.ofNat 1),.int .i64 (.negSucc 0),.int .i64 (.negSucc 0),.int .i64 (.negSucc 0),.int .i64 (.negSucc 0),.int .u64 (.ofNat 65536),.int .i64 (.ofNat 0),.int .i64 (.ofNat 0),.int .i64 (.ofNat 0),.int .i64 (.ofNat 0),.int .i64 (.ofNat 0),.int .i64 (.ofNat 1),.int .i64 (.ofNat 5),.int .i64 (.negSucc 0),.int .i64 (.negSucc 0),.int .i64 (.ofNat 1),.int .i64 (.ofNat 0),.int .i64 (.negSucc 0),.int .u64 (.ofNat 0),.int .i64 (.ofNat 0),.int .i64 (.ofNat 1),.int .i64 (.ofNat 0),.int .i64 (.ofNat 0),.int .i64 (.ofNat 1),.int .i64 (.ofNat 1)]
def RbM25v32 : AV := .agg [.lst .dead 4 [.int .i64 (.ofNat 0),.int .i64 (.ofNat 1),.bool false,.bool true,.bool false,.int .i64 (.ofNat 65536),.int .i64 (.ofNat 4),RbM25v23,.int .i64 (.ofNat 0),.bool false,.int .i64 (.ofNat 0),.int .i64 (.ofNat 0),.int .i64 (.ofNat 2),.bool false,.bool true,.bool false,.int .i64 (.ofNat 65540),.int .i64 (.ofNat 4),RbM25v23,.int .i64 (.ofNat 3),.bool false,.int .i64 (.ofNat 0),.int .i64 (.ofNat 1),.int .i64 (.ofNat 1),.bool true,.bool false,.bool false,.int .i64 (.ofNat 65540),.int .i64 (.ofNat 4),RbM25v24,.int .i64 (.ofNat 2),.bool false,.int .i64 (.ofNat 0),.int .i64 (.ofNat 1),.int .i64 (.ofNat 2),.bool true,.bool false,.bool false,.int .i64 (.ofNat 65536),.int .i64 (.ofNat 4),RbM25v24,.int .i64 (.ofNat 0),.bool false,.int .i64 (.ofNat 0)],RbM25v26,RbM25v27,.int .i64 (.ofNat 8)]
def RbM25v33 : AV := .agg [.int .u64 (.ofNat 6),.int .u64 (.ofNat 12),.int .u64 (.ofNat 3),.int .u64 (.ofNat 4),.int .u64 (.ofNat 2),.int .u64 (.ofNat 0),.int .u64 (.ofNat 0),.int .u64 (.ofNat 0)]
def RbM25v34 : AV := .lst .dead 4 [.int .i64 (.ofNat 1),.int .i64 (.ofNat 1),.int .i64 (.ofNat 1),.int .i64 (.ofNat 1)]
def RbM25v35 : AV := .lst .dead 4 [.lst .dead 0 [],.lst .dead 0 [],RbM25v25,RbM25v34]
def RbM25v36 : AV := .agg [.lst .dead 4 [.int .i64 (.ofNat 0),.int .i64 (.ofNat 1),.bool false,.bool true,.bool false,.int .i64 (.ofNat 65536),.int .i64 (.ofNat 4),RbM25v23,.int .i64 (.ofNat 0),.bool false,.int .i64 (.ofNat 0),.int .i64 (.ofNat 0),.int .i64 (.ofNat 2),.bool false,.bool true,.bool false,.int .i64 (.ofNat 65540),.int .i64 (.ofNat 4),RbM25v23,.int .i64 (.ofNat 4),.bool false,.int .i64 (.ofNat 0),.int .i64 (.ofNat 1),.int .i64 (.ofNat 1),.bool true,.bool false,.bool false,.int .i64 (.ofNat 65540),.int .i64 (.ofNat 4),RbM25v24,.int .i64 (.ofNat 4),.bool false,.int .i64 (.ofNat 0),.int .i64 (.ofNat 1),.int .i64 (.ofNat 2),.bool true,.bool false,.bool false,.int .i64 (.ofNat 65536),.int .i64 (.ofNat 4),RbM25v23,.int .i64 (.ofNat 0),.bool false,.int .i64 (.ofNat 0)],RbM25v35,RbM25v27,.int .i64 (.ofNat 8)]
def RbM25v37 : AV := .agg [.lst .dead 4 [.int .i64 (.ofNat 0),.int .i64 (.ofNat 1),.bool false,.bool true,.bool false,.int .i64 (.ofNat 65536),.int .i64 (.ofNat 4),RbM25v23,.int .i64 (.ofNat 0),.bool false,.int .i64 (.ofNat 0),.int .i64 (.ofNat 0),.int .i64 (.ofNat 2),.bool false,.bool true,.bool false,.int .i64 (.ofNat 65540),.int .i64 (.ofNat 4),RbM25v23,.int .i64 (.ofNat 3),.bool false,.int .i64 (.ofNat 0),.int .i64 (.ofNat 1),.int .i64 (.ofNat 1),.bool true,.bool false,.bool false,.int .i64 (.ofNat 65540),.int .i64 (.ofNat 4),RbM25v24,.int .i64 (.ofNat 2),.bool false,.int .i64 (.ofNat 0),.int .i64 (.ofNat 1),.int .i64 (.ofNat 2),.bool true,.bool false,.bool false,.int .i64 (.ofNat 65536),.int .i64 (.ofNat 4),RbM25v23,.int .i64 (.ofNat 0),.bool false,.int .i64 (.ofNat 0)],RbM25v35,RbM25v27,.int .i64 (.ofNat 8)]
def RbM25v38 : AV := .lst .dead 4 [.int .i64 (.ofNat 2),.int .i64 (.ofNat 2),.int .i64 (.ofNat 2),.int .i64 (.ofNat 2)]
def RbM25v39 : AV := .lst .dead 4 [.lst .dead 0 [],.lst .dead 0 [],RbM25v38,RbM25v25]
def RbM25v40 : AV := .agg [.lst .dead 4 [.int .i64 (.ofNat 0),.int .i64 (.ofNat 1),.bool false,.bool true,.bool false,.int .i64 (.ofNat 65536),.int .i64 (.ofNat 4),RbM25v23,.int .i64 (.ofNat 0),.bool false,.int .i64 (.ofNat 0),.int .i64 (.ofNat 0),.int .i64 (.ofNat 2),.bool false,.bool true,.bool false,.int .i64 (.ofNat 65540),.int .i64 (.ofNat 4),RbM25v23,.int .i64 (.ofNat 4),.bool false,.int .i64 (.ofNat 0),.int .i64 (.ofNat 1),.int .i64 (.ofNat 1),.bool true,.bool false,.bool false,.int .i64 (.ofNat 65540),.int .i64 (.ofNat 4),RbM25v23,.int .i64 (.ofNat 4),.bool false,.int .i64 (.ofNat 0),.int .i64 (.ofNat 1),.int .i64 (.ofNat 2),.bool true,.bool false,.bool false,.int .i64 (.ofNat 65536),.int .i64 (.ofNat 4),RbM25v24,.int .i64 (.ofNat 0),.bool false,.int .i64 (.ofNat 0)],RbM25v39,RbM25v27,.int .i64 (.ofNat 8)]
def RbM25v41 : AV := .agg [.lst .dead 4 [.int .i64 (.ofNat 0),.int .i64 (.ofNat 1),.bool false,.bool true,.bool false,.int .i64 (.ofNat 65536),.int .i64 (.ofNat 4),RbM25v23,.int .i64 (.ofNat 0),.bool false,.int .i64 (.ofNat 0),.int .i64 (.ofNat 0),.int .i64 (.ofNat 2),.bool false,.bool true,.bool false,.int .i64 (.ofNat 65540),.int .i64 (.ofNat 4),RbM25v23,.int .i64 (.ofNat 3),.bool false,.int .i64 (.ofNat 0),.int .i64 (.ofNat 1),.int .i64 (.ofNat 1),.bool true,.bool false,.bool false,.int .i64 (.ofNat 65540),.int .i64 (.ofNat 4),RbM25v23,.int .i64 (.ofNat 2),.bool false,.int .i64 (.ofNat 0),.int .i64 (.ofNat 1),.int .i64 (.ofNat 2),.bool true,.bool false,.bool false,.int .i64 (.ofNat 65536),.int .i64 (.ofNat 4),RbM25v24,.int .i64 (.ofNat 0),.bool false,.int .i64 (.ofNat 0)],RbM25v39,RbM25v27,.int .i64 (.ofNat 8)]
def RbM25v42 : AV := .lst .dead 4 [.lst .dead 0 [],.lst .dead 0 [],RbM25v38,RbM25v34]
def RbM25v43 : AV := .agg [.lst .dead 4 [.int .i64 (.ofNat 0),.int .i64 (.ofNat 1),.bool false,.bool true,.bool false,.int .i64 (.ofNat 65536),.int .i64 (.ofNat 4),RbM25v23,.int .i64 (.ofNat 0),.bool false,.int .i64 (.ofNat 0),.int .i64 (.ofNat 0),.int .i64 (.ofNat 2),.bool false,.bool true,.bool false,.int .i64 (.ofNat 65540),.int .i64 (.ofNat 4),RbM25v23,.int .i64 (.ofNat 4),.bool false,.int .i64 (.ofNat 0),.int .i64 (.ofNat 1),.int .i64 (.ofNat 1),.bool true,.bool false,.bool false,.int .i64 (.ofNat 65540),.int .i64 (.ofNat 4),RbM25v23,.int .i64 (.ofNat 4),.bool false,.int .i64 (.ofNat 0),.int .i64 (.ofNat 1),.int .i64 (.ofNat 2),.bool true,.bool false,.bool false,.int .i64 (.ofNat 65536),.int .i64 (.ofNat 4),RbM25v23,.int .i64 (.ofNat 0),.bool false,.int .i64 (.ofNat 0)],RbM25v42,RbM25v27,.int .i64 (.ofNat 8)]
def RbM25v44 : AV := .agg [.lst .dead 4 [.int .i64 (.ofNat 0),.int .i64 (.ofNat 1),.bool false,.bool true,.bool false,.int .i64 (.ofNat 65536),.int .i64 (.ofNat 4),RbM25v23,.int .i64 (.ofNat 0),.bool false,.int .i64 (.ofNat 0),.int .i64 (.ofNat 0),.int .i64 (.ofNat 2),.bool false,.bool true,.bool false,.int .i64 (.ofNat 65540),.int .i64 (.ofNat 4),RbM25v23,.int .i64 (.ofNat 3),.bool false,.int .i64 (.ofNat 0),.int .i64 (.ofNat 1),.int .i64 (.ofNat 1),.bool true,.bool false,.bool false,.int .i64 (.ofNat 65540),.int .i64 (.ofNat 4),RbM25v23,.int .i64 (.ofNat 2),.bool false,.int .i64 (.ofNat 0),.int .i64 (.ofNat 1),.int .i64 (.ofNat 2),.bool true,.bool false,.bool false,.int .i64 (.ofNat 65536),.int .i64 (.ofNat 4),RbM25v23,.int .i64 (.ofNat 0),.bool false,.int .i64 (.ofNat 0)],RbM25v42,RbM25v27,.int .i64 (.ofNat 8)]
def RbM250 : List (Nat × List AV × AV) := [
  (247, [.int .u8 (.ofNat 97)], .bool true),
  (247, [.int .u8 (.ofNat 114)], .bool true),
  (247, [.int .u8 (.ofNat 32)], .bool false),
  (249, [.int .u8 (.ofNat 32)], .bool false),
  (247, [.int .u8 (.ofNat 120)], .bool true),
  (249, [.int .u8 (.ofNat 59)], .bool false),
  (247, [.int .u8 (.ofNat 116)], .bool true),
  (247, [.int .u8 (.ofNat 101)], .bool true),
  (311, [.int .u8 (.ofNat 100)], .bool true),
  (255, [.str [49],.int .i64 (.ofNat 10),.int .i64 (.ofNat 64)], .tup [.int .u64 (.ofNat 1),.nilif]),
  (94, [.str [120]], .bool true),
  (175, [.str [118,97,114,32,116,104,114,101,97,100,32,115,116,114,117,99,116,32,117,110,105,111,110,32,112,97,99,107,101,100,32,117,56,32,117,49,54,32,117,51,50,32,117,54,52,32,97,56,32,97,49,54,32,97,51,50,32,97,54,52,32,97,49,50,56,32,108,101,116,32,115,101,116,32,119,114,105,116,101,32,115,116,111,114,101,32,108,111,97,100,50,32,115,116,111,114,101,50,32,102,101,110,99,101,32,105,102,32,101,108,115,101,32,119,104,105,108,101,32,112,114,105,110,116,32,114,101,97,100,32,108,111,97,100,32,97,100,100,32,115,119,97,112,32,99,97,115,32,114,108,120,32,97,99,113,32,114,101,108,32,115,99]], RbM25v0),
  (252, [RbM25v0,.str [120]], .int .i64 (.negSucc 0)),
  (252, [RbM25v0,.str [102]], .int .i64 (.negSucc 0)),
  (98, [.str [97,51,50]], .tup [RbM25v1,.bool true]),
  (176, [.str [49]], .bool true),
  (252, [RbM25v0,.str [97]], .int .i64 (.negSucc 0)),
  (252, [RbM25v0,.str [108,111,97,100]], .int .i64 (.ofNat 26)),
  (252, [RbM25v0,.str [114,101,97,100]], .int .i64 (.ofNat 25)),
  (183, [.int .i32 (.ofNat 120)], .bool true),
  (326, [RbM25v2,.int .i64 (.ofNat 65)], .int .i64 (.ofNat 1)),
  (327, [RbM25v2], .bool true),
  (328, [.int .i64 (.ofNat 4),.int .i64 (.ofNat 8)], .bool true),
  (331, [.lst .dead 0 [],.fn 192 []], .int .i64 (.negSucc 0)),
  (332, [.lst .dead 0 [],.fn 269 []], .int .i64 (.negSucc 0)),
  (193, [RbM25v2], RbM25v3),
  (183, [.int .i32 (.ofNat 102)], .bool true),
  (326, [RbM25v1,.int .i64 (.ofNat 65)], .int .i64 (.ofNat 1)),
  (327, [RbM25v1], .bool true),
  (328, [.int .i64 (.ofNat 4),.int .i64 (.ofNat 16)], .bool true),
  (193, [RbM25v1], RbM25v3),
  (259, [.int .i64 (.ofNat 3)], RbM25v4),
  (187, [.int .i64 (.ofNat 3),.int .i64 (.ofNat 0)], .bool true),
  (323, [RbM25v5,.fptr [.str [120],.lst .dead 0 []]], .bool true),
  (260, [.agg [.str [],.lst .dead 0 []]], .bool true),
  (187, [.int .i64 (.ofNat 11),.int .i64 (.ofNat 0)], .bool true),
  (259, [.int .i64 (.ofNat 4)], RbM25v4),
  (323, [RbM25v5,.fptr [.str [102],.lst .dead 0 []]], .bool false),
  (323, [.agg [.str [102],.int .i64 (.ofNat 2),.int .i64 (.ofNat 4),.bool false,.lst .dead 0 [],.int .i64 (.ofNat 0),.lst .dead 0 []],.fptr [.str [102],.lst .dead 0 []]], .bool true),
  (262, [.int .i64 (.ofNat 4),RbM25v1], .bool true),
  (187, [.int .i64 (.ofNat 1),.int .i64 (.ofNat 0)], .bool true),
  (183, [.int .i32 (.ofNat 97)], .bool true),
  (174, [.lst .dead 0 [],.str [97]], .bool false),
  (325, [.agg [.int .i64 (.ofNat 5),.int .u64 (.ofNat 0),.str [],.int .i64 (.ofNat 0),.int .i64 (.ofNat 4),.str [102],.lst .dead 0 [],.lst .dead 0 []]], .bool true),
  (262, [.int .i64 (.ofNat 15),RbM25v1], .bool true),
  (259, [.int .i64 (.ofNat 10)], .tup [.agg [.bool false,.bool false,.bool false,.int .i64 (.ofNat 1),.bool false,.bool false],.bool true]),
  (187, [.int .i64 (.ofNat 10),.int .i64 (.ofNat 0)], .bool true),
  (325, [.agg [.int .i64 (.ofNat 4),.int .u64 (.ofNat 0),.str [],.int .i64 (.ofNat 0),.int .i64 (.ofNat 0),.str [120],.lst .dead 0 [],.lst .dead 0 []]], .bool true),
  (187, [.int .i64 (.ofNat 14),.int .i64 (.ofNat 0)], .bool true),
  (262, [.int .i64 (.ofNat 14),RbM25v2], .bool true),
  (184, [RbM25v6,.fn 356 [.fptr [.str [120],.lst .dead 0 []]]], .int .i64 (.ofNat 0)),
  (359, [.int .i64 (.ofNat 65536),.int .i64 (.ofNat 16)], .int .i64 (.ofNat 16)),
  (239, [.int .i64 (.ofNat 1)], .agg [.int .i64 (.ofNat 1),.int .i64 (.negSucc 0),.int .i64 (.negSucc 0),.int .i64 (.negSucc 0),.int .i64 (.negSucc 0),.int .i64 (.negSucc 0),.int .u64 (.ofNat 0),.int .i64 (.ofNat 0),.int .i64 (.ofNat 0),.int .i64 (.ofNat 0),.int .i64 (.ofNat 0),.int .i64 (.ofNat 0),.int .i64 (.ofNat 0)]),
  (167, [.agg [.int .i64 (.ofNat 65536),.int .i64 (.ofNat 4)]], .bool true),
  (184, [RbM25v6,.fn 356 [.fptr [.str [102],.lst .dead 0 []]]], .int .i64 (.ofNat 1)),
  (359, [.int .i64 (.ofNat 65540),.int .i64 (.ofNat 16)], .int .i64 (.ofNat 4)),
  (278, [.int .i64 (.negSucc 0)], .bool true),
  (112, [.int .i64 (.ofNat 1),.int .i64 (.ofNat 0)], .int .i64 (.ofNat 1)),
  (111, [.lst .dead 2 [.int .i64 (.ofNat 1),.int .i64 (.ofNat 1)]], .int .i64 (.ofNat 1)),
  (112, [.int .i64 (.ofNat 2),.int .i64 (.ofNat 1)], .int .i64 (.ofNat 1)),
  (112, [.int .i64 (.ofNat 4),.int .i64 (.ofNat 3)], .int .i64 (.ofNat 1)),
  (112, [.int .i64 (.ofNat 3),.int .i64 (.ofNat 2)], .int .i64 (.ofNat 1)),
  (346, [.int .u64 (.ofNat 0)], .int .i64 (.ofNat 0)),
  (337, [.lst .dead 0 [],.int .i64 (.ofNat 0),.int .i64 (.ofNat 0),.fn 198 []], .tup []),
  (275, [.int .u64 (.ofNat 1)], .int .i64 (.ofNat 1)),
  (202, [.int .i64 (.ofNat 28),.int .u64 (.ofNat 65552)], .lst .dead 2 [.int .i64 (.ofNat 1),.int .i64 (.ofNat 28),.int .i64 (.ofNat 0),.int .i64 (.ofNat 0),.int .i64 (.ofNat 0),.int .i64 (.ofNat 0),.int .i64 (.ofNat 16),.int .i64 (.ofNat 2),.int .i64 (.ofNat 28),.int .i64 (.ofNat 0),.int .i64 (.ofNat 0),.int .i64 (.ofNat 1),.int .i64 (.ofNat 0),.int .i64 (.ofNat 1)]),
  (202, [.int .i64 (.ofNat 0),.int .u64 (.ofNat 1)], .lst .dead 1 [.int .i64 (.ofNat 1),.int .i64 (.ofNat 0),.int .i64 (.ofNat 0),.int .i64 (.ofNat 0),.int .i64 (.ofNat 0),.int .i64 (.ofNat 0),.int .i64 (.ofNat 1)]),
  (202, [.int .i64 (.ofNat 1),.int .u64 (.ofNat 65536)], .lst .dead 1 [.int .i64 (.ofNat 1),.int .i64 (.ofNat 1),.int .i64 (.ofNat 0),.int .i64 (.ofNat 0),.int .i64 (.ofNat 1),.int .i64 (.ofNat 0),.int .i64 (.ofNat 1)]),
  (286, [.int .i64 (.ofNat 4)], .int .i64 (.ofNat 2)),
  (202, [.int .i64 (.ofNat 1),.int .u64 (.ofNat 65540)], .lst .dead 2 [.int .i64 (.ofNat 1),.int .i64 (.ofNat 1),.int .i64 (.ofNat 0),.int .i64 (.ofNat 0),.int .i64 (.ofNat 0),.int .i64 (.ofNat 0),.int .i64 (.ofNat 4),.int .i64 (.ofNat 2),.int .i64 (.ofNat 1),.int .i64 (.ofNat 0),.int .i64 (.ofNat 0),.int .i64 (.ofNat 1),.int .i64 (.ofNat 0),.int .i64 (.ofNat 1)]),
  (123, [.int .i64 (.ofNat 1)], .agg [.int .u32 (.ofNat 3531603968),.str [100,105,113]]),
  (124, [.int .u8 (.ofNat 100)], RbM25v7),
  (126, [RbM25v7,.int .i64 (.ofNat 28)], .bool true),
  (127, [RbM25v7], .int .u32 (.ofNat 31)),
  (124, [.int .u8 (.ofNat 105)], RbM25v8),
  (126, [RbM25v8,.int .i64 (.ofNat 16)], .bool true),
  (127, [RbM25v8], .int .u32 (.ofNat 2097120)),
  (124, [.int .u8 (.ofNat 113)], RbM25v9),
  (126, [RbM25v9,.int .i64 (.ofNat 0)], .bool true),
  (127, [RbM25v9], .int .u32 (.ofNat 6291456)),
  (123, [.int .i64 (.ofNat 2)], .agg [.int .u32 (.ofNat 4068474880),.str [100,105,113]]),
  (126, [RbM25v8,.int .i64 (.ofNat 1)], .bool true),
  (126, [RbM25v9,.int .i64 (.ofNat 1)], .bool true),
  (126, [RbM25v7,.int .i64 (.ofNat 0)], .bool true),
  (126, [RbM25v7,.int .i64 (.ofNat 1)], .bool true),
  (289, [.int .i64 (.ofNat 18)], .agg [.int .u32 (.ofNat 956301312),.str [100,97,111,115]]),
  (124, [.int .u8 (.ofNat 97)], RbM25v10),
  (126, [RbM25v10,.int .i64 (.ofNat 1)], .bool true),
  (127, [RbM25v10], .int .u32 (.ofNat 992)),
  (124, [.int .u8 (.ofNat 111)], RbM25v11),
  (126, [RbM25v11,.int .i64 (.ofNat 0)], .bool true),
  (127, [RbM25v11], .int .u32 (.ofNat 4193280)),
  (124, [.int .u8 (.ofNat 115)], RbM25v12),
  (126, [RbM25v12,.int .i64 (.ofNat 2)], .bool true),
  (127, [RbM25v12], .int .u32 (.ofNat 3221225472)),
  (126, [RbM25v8,.int .i64 (.ofNat 4)], .bool true),
  (289, [.int .i64 (.ofNat 20)], .agg [.int .u32 (.ofNat 144702464),.str [100,97,115]]),
  (216, [.int .i64 (.ofNat 31)], .agg [.int .u32 (.ofNat 3556769793),.str [105]]),
  (126, [RbM25v8,.int .i64 (.ofNat 0)], .bool true),
  (202, [.int .i64 (.ofNat 28),.int .u64 (.ofNat 66576)], .lst .dead 2 [.int .i64 (.ofNat 1),.int .i64 (.ofNat 28),.int .i64 (.ofNat 0),.int .i64 (.ofNat 0),.int .i64 (.ofNat 0),.int .i64 (.ofNat 0),.int .i64 (.ofNat 1040),.int .i64 (.ofNat 2),.int .i64 (.ofNat 28),.int .i64 (.ofNat 0),.int .i64 (.ofNat 0),.int .i64 (.ofNat 1),.int .i64 (.ofNat 0),.int .i64 (.ofNat 1)]),
  (202, [.int .i64 (.ofNat 0),.int .u64 (.ofNat 65540)], .lst .dead 2 [.int .i64 (.ofNat 1),.int .i64 (.ofNat 0),.int .i64 (.ofNat 0),.int .i64 (.ofNat 0),.int .i64 (.ofNat 0),.int .i64 (.ofNat 0),.int .i64 (.ofNat 4),.int .i64 (.ofNat 2),.int .i64 (.ofNat 0),.int .i64 (.ofNat 0),.int .i64 (.ofNat 0),.int .i64 (.ofNat 1),.int .i64 (.ofNat 0),.int .i64 (.ofNat 1)]),
  (202, [.int .i64 (.ofNat 0),.int .u64 (.ofNat 65536)], .lst .dead 1 [.int .i64 (.ofNat 1),.int .i64 (.ofNat 0),.int .i64 (.ofNat 0),.int .i64 (.ofNat 0),.int .i64 (.ofNat 1),.int .i64 (.ofNat 0),.int .i64 (.ofNat 1)]),
  (126, [RbM25v8,.int .i64 (.ofNat 1040)], .bool true),
  (289, [.int .i64 (.ofNat 19)], .agg [.int .u32 (.ofNat 148896768),.str [100,97,115]]),
  (126, [RbM25v10,.int .i64 (.ofNat 0)], .bool true),
  (123, [.int .i64 (.ofNat 7)], .agg [.int .u32 (.ofNat 2852126720),.str [100,110,109]]),
  (124, [.int .u8 (.ofNat 110)], RbM25v13),
  (126, [RbM25v13,.int .i64 (.ofNat 31)], .bool true),
  (127, [RbM25v13], .int .u32 (.ofNat 992)),
  (124, [.int .u8 (.ofNat 109)], RbM25v14),
  (126, [RbM25v14,.int .i64 (.ofNat 1)], .bool true),
  (127, [RbM25v14], .int .u32 (.ofNat 2031616)),
  (289, [.int .i64 (.ofNat 17)], .agg [.int .u32 (.ofNat 960495616),.str [100,97,111,115]]),
  (126, [RbM25v8,.int .i64 (.ofNat 2)], .bool true),
  (17, [RbM25v16,.int .i64 (.ofNat 1)], .agg [.int .i64 (.ofNat 66576),.int .i64 (.ofNat 1024)]),
  (123, [.int .i64 (.ofNat 3)], .agg [.int .u32 (.ofNat 2332033024),.str [100,110,109]]),
  (126, [RbM25v13,.int .i64 (.ofNat 1)], .bool true),
  (126, [RbM25v14,.int .i64 (.ofNat 0)], .bool true),
  (123, [.int .i64 (.ofNat 4)], .agg [.int .u32 (.ofNat 3405774848),.str [100,110,109]]),
  (123, [.int .i64 (.ofNat 5)], .agg [.int .u32 (.ofNat 3942645760),.str [100,110,109]]),
  (123, [.int .i64 (.ofNat 6)], .agg [.int .u32 (.ofNat 2315255808),.str [100,110,109]]),
  (123, [.int .i64 (.ofNat 8)], .agg [.int .u32 (.ofNat 3388997632),.str [100,110,109]]),
  (123, [.int .i64 (.ofNat 9)], .agg [.int .u32 (.ofNat 2600500224),.str [100,110,109]]),
  (123, [.int .i64 (.ofNat 10)], .agg [.int .u32 (.ofNat 2596282368),.str [100,110,109]]),
  (123, [.int .i64 (.ofNat 11)], .agg [.int .u32 (.ofNat 2596283392),.str [100,110,109]]),
  (123, [.int .i64 (.ofNat 12)], .agg [.int .u32 (.ofNat 2594113504),.str [100,107]]),
  (124, [.int .u8 (.ofNat 107)], RbM25v17),
  (127, [RbM25v17], .int .u32 (.ofNat 12288)),
  (126, [RbM25v17,.int .i64 (.ofNat 1)], .bool true),
  (216, [.int .i64 (.ofNat 13)], .agg [.int .u32 (.ofNat 335544320),.str [98]]),
  (124, [.int .u8 (.ofNat 98)], RbM25v18),
  (127, [RbM25v18], .int .u32 (.ofNat 67108863)),
  (126, [RbM25v18,.int .i64 (.ofNat 16777248)], .bool true),
  (216, [.int .i64 (.ofNat 14)], .agg [.int .u32 (.ofNat 1409286144),.str [120,99]]),
  (124, [.int .u8 (.ofNat 120)], RbM25v19),
  (127, [RbM25v19], .int .u32 (.ofNat 16777184)),
  (126, [RbM25v19,.int .i64 (.ofNat 1)], .bool true),
  (124, [.int .u8 (.ofNat 99)], RbM25v20),
  (127, [RbM25v20], .int .u32 (.ofNat 3)),
  (126, [RbM25v20,.int .i64 (.ofNat 0)], .bool true),
  (216, [.int .i64 (.ofNat 15)], .agg [.int .u32 (.ofNat 3019898880),.str [100,120]]),
  (216, [.int .i64 (.ofNat 16)], .agg [.int .u32 (.ofNat 3036676096),.str [100,120]]),
  (126, [RbM25v8,.int .i64 (.ofNat 65505)], .bool true),
  (126, [RbM25v14,.int .i64 (.ofNat 31)], .bool true),
  (126, [RbM25v17,.int .i64 (.ofNat 2)], .bool true),
  (126, [RbM25v18,.int .i64 (.ofNat 10484768)], .bool true),
  (126, [RbM25v19,.int .i64 (.negSucc 196638)], .bool true),
  (126, [RbM25v11,.int .i64 (.ofNat 2047)], .bool true),
  (126, [RbM25v13,.int .i64 (.ofNat 0)], .bool true),
  (126, [RbM25v18,.int .i64 (.ofNat 1)], .bool true),
  (126, [RbM25v19,.int .i64 (.ofNat 0)], .bool true),
  (126, [RbM25v20,.int .i64 (.ofNat 1)], .bool true),
  (126, [RbM25v12,.int .i64 (.ofNat 3)], .bool true),
  (289, [.int .i64 (.ofNat 21)], .agg [.int .u32 (.ofNat 140475392),.str [100,97,115]]),
  (289, [.int .i64 (.ofNat 22)], .agg [.int .u32 (.ofNat 140508160),.str [100,97,115]]),
  (289, [.int .i64 (.ofNat 23)], .agg [.int .u32 (.ofNat 134249472),.str [100,97,115,109]]),
  (289, [.int .i64 (.ofNat 24)], .agg [.int .u32 (.ofNat 134282240),.str [100,97,115,109]]),
  (289, [.int .i64 (.ofNat 25)], .agg [.int .u32 (.ofNat 3363766272),.str [100,97,101]]),
  (124, [.int .u8 (.ofNat 101)], RbM25v21),
  (127, [RbM25v21], .int .u32 (.ofNat 31744)),
  (126, [RbM25v21,.int .i64 (.ofNat 0)], .bool true),
  (289, [.int .i64 (.ofNat 26)], .agg [.int .u32 (.ofNat 3363799040),.str [100,97,101]]),
  (289, [.int .i64 (.ofNat 27)], .agg [.int .u32 (.ofNat 3357540352),.str [100,97,101,109]]),
  (289, [.int .i64 (.ofNat 28)], .agg [.int .u32 (.ofNat 3357573120),.str [100,97,101,109]]),
  (216, [.int .i64 (.ofNat 29)], .agg [.int .u32 (.ofNat 3573756095),.str [102]]),
  (124, [.int .u8 (.ofNat 102)], RbM25v22),
  (127, [RbM25v22], .int .u32 (.ofNat 3840)),
  (217, [], .agg [.int .u32 (.ofNat 11),.int .u32 (.ofNat 9),.int .u32 (.ofNat 10)]),
  (216, [.int .i64 (.ofNat 30)], .agg [.int .u32 (.ofNat 3573759839),.str [122]]),
  (126, [RbM25v8,.int .i64 (.ofNat 65504)], .bool true),
  (126, [RbM25v9,.int .i64 (.ofNat 2)], .bool true),
  (126, [RbM25v18,.int .i64 (.ofNat 14679041)], .bool true),
  (126, [RbM25v19,.int .i64 (.negSucc 65567)], .bool true),
  (126, [RbM25v8,.int .i64 (.ofNat 2079)], .bool true),
  (126, [RbM25v18,.int .i64 (.ofNat 20971521)], .bool true),
  (126, [RbM25v19,.int .i64 (.ofNat 131072)], .bool true),
  (126, [RbM25v13,.int .i64 (.ofNat 2)], .bool true),
  (126, [RbM25v18,.int .i64 (.ofNat 65)], .bool true),
  (126, [RbM25v19,.int .i64 (.ofNat 2)], .bool true),
  (126, [RbM25v10,.int .i64 (.ofNat 2)], .bool true),
  (219, [.int .i64 (.ofNat 1),.int .i64 (.ofNat 17),.int .i64 (.ofNat 28)], .bool false),
  (219, [.int .i64 (.ofNat 2),.int .i64 (.ofNat 17),.int .i64 (.ofNat 28)], .bool false),
  (137, [.int .i64 (.ofNat 16)], .int .u64 (.ofNat 65535)),
  (131, [.int .i64 (.ofNat 18)], .bool true),
  (132, [.int .i64 (.ofNat 18)], .bool true),
  (136, [.int .i64 (.ofNat 18)], .bool false),
  (137, [.int .i64 (.ofNat 32)], .int .u64 (.ofNat 4294967295)),
  (85, [.agg [.int .i64 (.ofNat 65536),.int .i64 (.ofNat 65540)]], .bool false),
  (167, [.agg [.int .i64 (.ofNat 65536),.int .i64 (.ofNat 8)]], .bool true),
  (84, [.agg [.int .i64 (.ofNat 65536),.int .i64 (.ofNat 65540)],.agg [.int .i64 (.ofNat 65536),.int .i64 (.ofNat 65544)]], .agg [.int .i64 (.ofNat 65536),.int .i64 (.ofNat 65540)]),
  (220, [.int .u64 (.ofNat 1),.int .i64 (.ofNat 4)], RbM25v23),
  (167, [.agg [.int .i64 (.ofNat 65540),.int .i64 (.ofNat 4)]], .bool true),
  (85, [.agg [.int .i64 (.ofNat 65540),.int .i64 (.ofNat 65544)]], .bool false),
  (84, [.agg [.int .i64 (.ofNat 65540),.int .i64 (.ofNat 65544)],.agg [.int .i64 (.ofNat 65536),.int .i64 (.ofNat 65544)]], .agg [.int .i64 (.ofNat 65540),.int .i64 (.ofNat 65544)]),
  (219, [.int .i64 (.ofNat 31),.int .i64 (.ofNat 17),.int .i64 (.ofNat 28)], .bool false),
  (132, [.int .i64 (.ofNat 19)], .bool false),
  (220, [.int .u64 (.ofNat 0),.int .i64 (.ofNat 4)], RbM25v24),
  (132, [.int .i64 (.ofNat 17)], .bool false),
  (158, [.lst .dead 1 [.int .i64 (.ofNat 0)]], .fn 229 [.fptr [.lst .dead 1 [.int .i64 (.ofNat 0)]]]),
  (159, [.lst .dead 1 [.int .i64 (.ofNat 0)]], .lst .dead 1 [.int .i64 (.ofNat 0)]),
  (167, [.agg [.int .i64 (.ofNat 65536),.int .i64 (.ofNat 1)]], .bool true),
  (85, [.agg [.int .i64 (.ofNat 65536),.int .i64 (.ofNat 65537)]], .bool false),
  (84, [.agg [.int .i64 (.ofNat 65536),.int .i64 (.ofNat 65537)],.agg [.int .i64 (.ofNat 65536),.int .i64 (.ofNat 65540)]], .agg [.int .i64 (.ofNat 65536),.int .i64 (.ofNat 65537)]),
  (231, [.lst .dead 1 [.int .i64 (.ofNat 0)],.int .i64 (.ofNat 0)], .int .i64 (.ofNat 0)),
  (84, [.agg [.int .i64 (.ofNat 65536),.int .i64 (.ofNat 65537)],.agg [.int .i64 (.ofNat 65540),.int .i64 (.ofNat 65544)]], .agg [.int .i64 (.ofNat 0),.int .i64 (.ofNat 0)]),
  (167, [.agg [.int .i64 (.ofNat 65537),.int .i64 (.ofNat 1)]], .bool true),
  (85, [.agg [.int .i64 (.ofNat 65537),.int .i64 (.ofNat 65538)]], .bool false),
  (84, [.agg [.int .i64 (.ofNat 65537),.int .i64 (.ofNat 65538)],.agg [.int .i64 (.ofNat 65536),.int .i64 (.ofNat 65540)]], .agg [.int .i64 (.ofNat 65537),.int .i64 (.ofNat 65538)]),
  (84, [.agg [.int .i64 (.ofNat 65537),.int .i64 (.ofNat 65538)],.agg [.int .i64 (.ofNat 65540),.int .i64 (.ofNat 65544)]], .agg [.int .i64 (.ofNat 0),.int .i64 (.ofNat 0)]),
  (167, [.agg [.int .i64 (.ofNat 65538),.int .i64 (.ofNat 1)]], .bool true),
  (85, [.agg [.int .i64 (.ofNat 65538),.int .i64 (.ofNat 65539)]], .bool false),
  (84, [.agg [.int .i64 (.ofNat 65538),.int .i64 (.ofNat 65539)],.agg [.int .i64 (.ofNat 65536),.int .i64 (.ofNat 65540)]], .agg [.int .i64 (.ofNat 65538),.int .i64 (.ofNat 65539)]),
  (84, [.agg [.int .i64 (.ofNat 65538),.int .i64 (.ofNat 65539)],.agg [.int .i64 (.ofNat 65540),.int .i64 (.ofNat 65544)]], .agg [.int .i64 (.ofNat 0),.int .i64 (.ofNat 0)]),
  (167, [.agg [.int .i64 (.ofNat 65539),.int .i64 (.ofNat 1)]], .bool true),
  (85, [.agg [.int .i64 (.ofNat 65539),.int .i64 (.ofNat 65540)]], .bool false),
  (84, [.agg [.int .i64 (.ofNat 65539),.int .i64 (.ofNat 65540)],.agg [.int .i64 (.ofNat 65536),.int .i64 (.ofNat 65540)]], .agg [.int .i64 (.ofNat 65539),.int .i64 (.ofNat 65540)]),
  (84, [.agg [.int .i64 (.ofNat 65539),.int .i64 (.ofNat 65540)],.agg [.int .i64 (.ofNat 65540),.int .i64 (.ofNat 65544)]], .agg [.int .i64 (.ofNat 0),.int .i64 (.ofNat 0)]),
  (158, [.lst .dead 1 [.int .i64 (.ofNat 1)]], .fn 229 [.fptr [.lst .dead 1 [.int .i64 (.ofNat 1)]]]),
  (159, [.lst .dead 1 [.int .i64 (.ofNat 1)]], .lst .dead 1 [.int .i64 (.ofNat 1)]),
  (167, [.agg [.int .i64 (.ofNat 65540),.int .i64 (.ofNat 1)]], .bool true),
  (85, [.agg [.int .i64 (.ofNat 65540),.int .i64 (.ofNat 65541)]], .bool false),
  (84, [.agg [.int .i64 (.ofNat 65540),.int .i64 (.ofNat 65541)],.agg [.int .i64 (.ofNat 65540),.int .i64 (.ofNat 65544)]], .agg [.int .i64 (.ofNat 65540),.int .i64 (.ofNat 65541)]),
  (84, [.agg [.int .i64 (.ofNat 65540),.int .i64 (.ofNat 65541)],.agg [.int .i64 (.ofNat 65536),.int .i64 (.ofNat 65540)]], .agg [.int .i64 (.ofNat 0),.int .i64 (.ofNat 0)]),
  (231, [.lst .dead 1 [.int .i64 (.ofNat 1)],.int .i64 (.ofNat 1)], .int .i64 (.ofNat 0)),
  (167, [.agg [.int .i64 (.ofNat 65541),.int .i64 (.ofNat 1)]], .bool true),
  (85, [.agg [.int .i64 (.ofNat 65541),.int .i64 (.ofNat 65542)]], .bool false),
  (84, [.agg [.int .i64 (.ofNat 65541),.int .i64 (.ofNat 65542)],.agg [.int .i64 (.ofNat 65540),.int .i64 (.ofNat 65544)]], .agg [.int .i64 (.ofNat 65541),.int .i64 (.ofNat 65542)]),
  (84, [.agg [.int .i64 (.ofNat 65541),.int .i64 (.ofNat 65542)],.agg [.int .i64 (.ofNat 65536),.int .i64 (.ofNat 65540)]], .agg [.int .i64 (.ofNat 0),.int .i64 (.ofNat 0)]),
  (167, [.agg [.int .i64 (.ofNat 65542),.int .i64 (.ofNat 1)]], .bool true),
  (85, [.agg [.int .i64 (.ofNat 65542),.int .i64 (.ofNat 65543)]], .bool false),
  (84, [.agg [.int .i64 (.ofNat 65542),.int .i64 (.ofNat 65543)],.agg [.int .i64 (.ofNat 65540),.int .i64 (.ofNat 65544)]], .agg [.int .i64 (.ofNat 65542),.int .i64 (.ofNat 65543)]),
  (84, [.agg [.int .i64 (.ofNat 65542),.int .i64 (.ofNat 65543)],.agg [.int .i64 (.ofNat 65536),.int .i64 (.ofNat 65540)]], .agg [.int .i64 (.ofNat 0),.int .i64 (.ofNat 0)]),
  (167, [.agg [.int .i64 (.ofNat 65543),.int .i64 (.ofNat 1)]], .bool true),
  (85, [.agg [.int .i64 (.ofNat 65543),.int .i64 (.ofNat 65544)]], .bool false),
  (84, [.agg [.int .i64 (.ofNat 65543),.int .i64 (.ofNat 65544)],.agg [.int .i64 (.ofNat 65540),.int .i64 (.ofNat 65544)]], .agg [.int .i64 (.ofNat 65543),.int .i64 (.ofNat 65544)]),
  (84, [.agg [.int .i64 (.ofNat 65543),.int .i64 (.ofNat 65544)],.agg [.int .i64 (.ofNat 65536),.int .i64 (.ofNat 65540)]], .agg [.int .i64 (.ofNat 0),.int .i64 (.ofNat 0)]),
  (84, [.agg [.int .i64 (.ofNat 65536),.int .i64 (.ofNat 65540)],.agg [.int .i64 (.ofNat 65540),.int .i64 (.ofNat 65544)]], .agg [.int .i64 (.ofNat 0),.int .i64 (.ofNat 0)]),
  (85, [.agg [.int .i64 (.ofNat 0),.int .i64 (.ofNat 0)]], .bool true),
  (84, [.agg [.int .i64 (.ofNat 65540),.int .i64 (.ofNat 65544)],.agg [.int .i64 (.ofNat 65536),.int .i64 (.ofNat 65540)]], .agg [.int .i64 (.ofNat 0),.int .i64 (.ofNat 0)]),
  (231, [RbM25v25,.int .i64 (.ofNat 1)], .int .i64 (.negSucc 0)),
  (231, [RbM25v25,.int .i64 (.ofNat 2)], .int .i64 (.negSucc 0)),
  (163, [.lst .dead 0 [],.int .i64 (.ofNat 3)], .bool false),
  (231, [RbM25v25,.int .i64 (.ofNat 3)], .int .i64 (.negSucc 0)),
  (163, [.lst .dead 0 [],.int .i64 (.ofNat 4)], .bool false),
  (231, [RbM25v25,.int .i64 (.ofNat 4)], .int .i64 (.negSucc 0)),
  (231, [.lst .dead 1 [.int .i64 (.ofNat 0)],.int .i64 (.ofNat 1)], .int .i64 (.negSucc 0)),
  (231, [.lst .dead 1 [.int .i64 (.ofNat 1)],.int .i64 (.ofNat 0)], .int .i64 (.negSucc 0)),
  (231, [.lst .dead 1 [.int .i64 (.ofNat 0)],.int .i64 (.ofNat 2)], .int .i64 (.negSucc 0)),
  (231, [.lst .dead 1 [.int .i64 (.ofNat 1)],.int .i64 (.ofNat 2)], .int .i64 (.negSucc 0)),
  (231, [.lst .dead 1 [.int .i64 (.ofNat 0)],.int .i64 (.ofNat 3)], .int .i64 (.negSucc 0)),
  (231, [.lst .dead 1 [.int .i64 (.ofNat 1)],.int .i64 (.ofNat 3)], .int .i64 (.negSucc 0)),
  (154, [.int .i64 (.ofNat 4)], .int .u64 (.ofNat 15)),
  (80, [.int .u64 (.ofNat 2)], .int .i64 (.ofNat 1)),
  (34, [RbM25v28], RbM25v29),
  (80, [.int .u64 (.ofNat 4)], .int .i64 (.ofNat 2)),
  (80, [.int .u64 (.ofNat 8)], .int .i64 (.ofNat 3)),
  (255, [.str [55],.int .i64 (.ofNat 10),.int .i64 (.ofNat 64)], .tup [.int .u64 (.ofNat 7),.nilif]),
  (326, [RbM25v30,.int .i64 (.ofNat 65)], .int .i64 (.ofNat 1)),
  (327, [RbM25v30], .bool true),
  (328, [.int .i64 (.ofNat 1),.int .i64 (.ofNat 8)], .bool true),
  (193, [RbM25v30], .tup [.agg [.int .i64 (.ofNat 1),.int .i64 (.ofNat 1)],.bool true]),
  (118, [RbM25v31], .lst .dead 0 []),
  (202, [.int .i64 (.ofNat 0),.int .u64 (.ofNat 7)], .lst .dead 1 [.int .i64 (.ofNat 1),.int .i64 (.ofNat 0),.int .i64 (.ofNat 0),.int .i64 (.ofNat 0),.int .i64 (.ofNat 0),.int .i64 (.ofNat 0),.int .i64 (.ofNat 7)]),
  (126, [RbM25v8,.int .i64 (.ofNat 7)], .bool true),
  (126, [RbM25v12,.int .i64 (.ofNat 0)], .bool true),
  (325, [.agg [.int .i64 (.ofNat 5),.int .u64 (.ofNat 0),.str [],.int .i64 (.ofNat 0),.int .i64 (.ofNat 2),.str [102],.lst .dead 0 [],.lst .dead 0 []]], .bool true),
  (34, [RbM25v32], RbM25v33),
  (231, [RbM25v34,.int .i64 (.ofNat 2)], .int .i64 (.negSucc 0)),
  (231, [RbM25v34,.int .i64 (.ofNat 3)], .int .i64 (.negSucc 0)),
  (34, [RbM25v36], RbM25v29),
  (34, [RbM25v37], RbM25v33),
  (231, [RbM25v38,.int .i64 (.ofNat 1)], .int .i64 (.negSucc 0)),
  (231, [RbM25v38,.int .i64 (.ofNat 4)], .int .i64 (.negSucc 0)),
  (34, [RbM25v40], RbM25v29),
  (34, [RbM25v41], RbM25v33),
  (34, [RbM25v43], RbM25v29),
  (34, [RbM25v44], RbM25v33)]
theorem RbM250_run : forced (allW (runG []) RbM250) = true := by kernel_rfl
def RbM25T0 : List (Nat × List AV × AV) := RbM250 ++ []
theorem RbM250_ok : MemoOK (ACall C) (memL RbM25T0) := memL_appW gtC (runG_ok memL_nil) memL_nil (of_forced RbM250_run)
def RbM25v45 : AV := .lst .dead 1 [.int .i64 (.ofNat 1),.int .u64 (.ofNat 1),.str [],.int .i64 (.ofNat 0),.int .i64 (.ofNat 0),.str [],.lst .dead 0 [],.lst .dead 0 []]
def RbM25v46 : AV := .lst .dead 1 [.int .i64 (.ofNat 5),.int .u64 (.ofNat 0),.str [],.int .i64 (.ofNat 0),.int .i64 (.ofNat 4),.str [102],.lst .dead 0 [],.lst .dead 0 []]
def RbM25v47 : AV := .lst .dead 1 [.int .i64 (.ofNat 4),.int .u64 (.ofNat 0),.str [],.int .i64 (.ofNat 0),.int .i64 (.ofNat 0),.str [120],.lst .dead 0 [],.lst .dead 0 []]
def RbM25v48 : AV := .lst .dead 1 [.int .i64 (.ofNat 1),.int .u64 (.ofNat 7),.str [],.int .i64 (.ofNat 0),.int .i64 (.ofNat 0),.str [],.lst .dead 0 [],.lst .dead 0 []]
def RbM25v49 : AV := .agg [.int .i64 (.ofNat 1),.int .i64 (.ofNat 0),.int .i64 (.ofNat 0),.int .i64 (.ofNat 0),.int .i64 (.ofNat 0),.int .i64 (.ofNat 0),.int .i64 (.ofNat 7)]
def RbM25v50 : AV := .lst .dead 1 [.int .i64 (.ofNat 5),.int .u64 (.ofNat 0),.str [],.int .i64 (.ofNat 0),.int .i64 (.ofNat 2),.str [102],.lst .dead 0 [],.lst .dead 0 []]
def RbM251 : List (Nat × List AV × AV) := [
  (311, [.int .u8 (.ofNat 97)], .bool true),
  (311, [.int .u8 (.ofNat 114)], .bool true),
  (311, [.int .u8 (.ofNat 32)], .bool false),
  (311, [.int .u8 (.ofNat 116)], .bool true),
  (311, [.int .u8 (.ofNat 101)], .bool true),
  (177, [.str [49],.int .i64 (.ofNat 10),.int .i64 (.ofNat 64)], .tup [.int .u64 (.ofNat 1),.nilif]),
  (174, [RbM25v0,.str [120]], .bool false),
  (174, [RbM25v0,.str [102]], .bool false),
  (95, [.str [97]], .bool false),
  (103, [.str [120]], .bool true),
  (264, [RbM25v2], .int .i64 (.ofNat 1)),
  (265, [RbM25v2], .int .i64 (.ofNat 0)),
  (267, [.lst .dead 0 [],.fn 192 []], .bool false),
  (268, [.lst .dead 0 [],.fn 269 []], .bool false),
  (103, [.str [102]], .bool true),
  (264, [RbM25v1], .int .i64 (.ofNat 1)),
  (265, [RbM25v1], .int .i64 (.ofNat 0)),
  (186, [.agg [.int .i64 (.ofNat 3),.int .i64 (.ofNat 1),.str [],.str [],.int .i64 (.ofNat 0),.str [120],.lst .dead 0 [],RbM25v45,.lst .dead 0 [],.lst .dead 0 []]], .bool true),
  (184, [RbM25v6,.fn 323 [.fptr [.str [120],.lst .dead 0 []]]], .int .i64 (.ofNat 0)),
  (325, [.agg [.int .i64 (.ofNat 1),.int .u64 (.ofNat 1),.str [],.int .i64 (.ofNat 0),.int .i64 (.ofNat 0),.str [],.lst .dead 0 [],.lst .dead 0 []]], .bool true),
  (186, [.agg [.int .i64 (.ofNat 4),.int .i64 (.ofNat 1),.str [],.str [],.int .i64 (.ofNat 4),.str [102],.lst .dead 0 [],RbM25v45,.lst .dead 0 [],.lst .dead 0 []]], .bool true),
  (184, [RbM25v6,.fn 323 [.fptr [.str [102],.lst .dead 0 []]]], .int .i64 (.ofNat 1)),
  (186, [.agg [.int .i64 (.ofNat 1),.int .i64 (.ofNat 1),.str [97],.str [],.int .i64 (.ofNat 0),.str [],.lst .dead 0 [],RbM25v46,.lst .dead 0 [],.lst .dead 0 []]], .bool true),
  (103, [.str [97]], .bool true),
  (186, [.agg [.int .i64 (.ofNat 10),.int .i64 (.ofNat 1),.str [],.str [],.int .i64 (.ofNat 0),.str [],.lst .dead 0 [],RbM25v47,.lst .dead 0 [],.lst .dead 0 []]], .bool true),
  (384, [.agg [.int .i64 (.ofNat 65536),.int .i64 (.ofNat 4)]], .lst .dead 1 [.int .i64 (.ofNat 65536),.int .i64 (.ofNat 4)]),
  (271, [.lst .dead 4 [.int .i64 (.ofNat 0),.int .i64 (.ofNat 0),.int .i64 (.ofNat 2),.int .i64 (.ofNat 1),.int .i64 (.ofNat 1),.int .i64 (.ofNat 2),.int .i64 (.ofNat 2),.int .i64 (.ofNat 3),.int .i64 (.ofNat 5),.int .i64 (.ofNat 3),.int .i64 (.ofNat 4),.int .i64 (.ofNat 5)],.int .i64 (.ofNat 0),.int .i64 (.ofNat 4),.fn 110 []], .tup []),
  (275, [.int .u64 (.ofNat 0)], .int .i64 (.ofNat 0)),
  (274, [.lst .dead 0 [],.int .i64 (.ofNat 0),.int .i64 (.ofNat 0),.int .i64 (.ofNat 0),.fn 198 []], .tup []),
  (128, [RbM25v7,.int .u8 (.ofNat 100),.int .i64 (.ofNat 28)], .int .u32 (.ofNat 28)),
  (128, [RbM25v8,.int .u8 (.ofNat 105),.int .i64 (.ofNat 16)], .int .u32 (.ofNat 512)),
  (128, [RbM25v9,.int .u8 (.ofNat 113),.int .i64 (.ofNat 0)], .int .u32 (.ofNat 0)),
  (128, [RbM25v8,.int .u8 (.ofNat 105),.int .i64 (.ofNat 1)], .int .u32 (.ofNat 32)),
  (128, [RbM25v9,.int .u8 (.ofNat 113),.int .i64 (.ofNat 1)], .int .u32 (.ofNat 2097152)),
  (128, [RbM25v7,.int .u8 (.ofNat 100),.int .i64 (.ofNat 0)], .int .u32 (.ofNat 0)),
  (128, [RbM25v7,.int .u8 (.ofNat 100),.int .i64 (.ofNat 1)], .int .u32 (.ofNat 1)),
  (216, [.int .i64 (.ofNat 18)], .agg [.int .u32 (.ofNat 956301312),.str [100,97,111,115]]),
  (128, [RbM25v10,.int .u8 (.ofNat 97),.int .i64 (.ofNat 1)], .int .u32 (.ofNat 32)),
  (128, [RbM25v11,.int .u8 (.ofNat 111),.int .i64 (.ofNat 0)], .int .u32 (.ofNat 0)),
  (128, [RbM25v12,.int .u8 (.ofNat 115),.int .i64 (.ofNat 2)], .int .u32 (.ofNat 2147483648)),
  (128, [RbM25v8,.int .u8 (.ofNat 105),.int .i64 (.ofNat 4)], .int .u32 (.ofNat 128)),
  (216, [.int .i64 (.ofNat 20)], .agg [.int .u32 (.ofNat 144702464),.str [100,97,115]]),
  (123, [.int .i64 (.ofNat 31)], .agg [.int .u32 (.ofNat 3556769793),.str [105]]),
  (128, [RbM25v8,.int .u8 (.ofNat 105),.int .i64 (.ofNat 0)], .int .u32 (.ofNat 0)),
  (271, [.lst .dead 5 [.int .i64 (.ofNat 0),.int .i64 (.ofNat 0),.int .i64 (.ofNat 1),.int .i64 (.ofNat 1),.int .i64 (.ofNat 1),.int .i64 (.ofNat 2),.int .i64 (.ofNat 2),.int .i64 (.ofNat 2),.int .i64 (.ofNat 2),.int .i64 (.ofNat 3),.int .i64 (.ofNat 3),.int .i64 (.ofNat 4),.int .i64 (.ofNat 4),.int .i64 (.ofNat 4),.int .i64 (.ofNat 5)],.int .i64 (.ofNat 0),.int .i64 (.ofNat 5),.fn 110 []], .tup []),
  (128, [RbM25v8,.int .u8 (.ofNat 105),.int .i64 (.ofNat 1040)], .int .u32 (.ofNat 33280)),
  (216, [.int .i64 (.ofNat 19)], .agg [.int .u32 (.ofNat 148896768),.str [100,97,115]]),
  (128, [RbM25v10,.int .u8 (.ofNat 97),.int .i64 (.ofNat 0)], .int .u32 (.ofNat 0)),
  (128, [RbM25v13,.int .u8 (.ofNat 110),.int .i64 (.ofNat 31)], .int .u32 (.ofNat 992)),
  (128, [RbM25v14,.int .u8 (.ofNat 109),.int .i64 (.ofNat 1)], .int .u32 (.ofNat 65536)),
  (216, [.int .i64 (.ofNat 17)], .agg [.int .u32 (.ofNat 960495616),.str [100,97,111,115]]),
  (128, [RbM25v8,.int .u8 (.ofNat 105),.int .i64 (.ofNat 2)], .int .u32 (.ofNat 64)),
  (218, [RbM25v7,.int .u8 (.ofNat 100),.int .u32 (.ofNat 3531604508)], .tup [.int .i64 (.ofNat 28),.bool true]),
  (218, [RbM25v8,.int .u8 (.ofNat 105),.int .u32 (.ofNat 3531604508)], .tup [.int .i64 (.ofNat 16),.bool true]),
  (218, [RbM25v9,.int .u8 (.ofNat 113),.int .u32 (.ofNat 3531604508)], .tup [.int .i64 (.ofNat 0),.bool true]),
  (218, [RbM25v7,.int .u8 (.ofNat 100),.int .u32 (.ofNat 4070572092)], .tup [.int .i64 (.ofNat 28),.bool true]),
  (218, [RbM25v8,.int .u8 (.ofNat 105),.int .u32 (.ofNat 4070572092)], .tup [.int .i64 (.ofNat 1),.bool true]),
  (218, [RbM25v9,.int .u8 (.ofNat 113),.int .u32 (.ofNat 4070572092)], .tup [.int .i64 (.ofNat 1),.bool true]),
  (218, [RbM25v7,.int .u8 (.ofNat 100),.int .u32 (.ofNat 3531604000)], .tup [.int .i64 (.ofNat 0),.bool true]),
  (218, [RbM25v8,.int .u8 (.ofNat 105),.int .u32 (.ofNat 3531604000)], .tup [.int .i64 (.ofNat 1),.bool true]),
  (218, [RbM25v9,.int .u8 (.ofNat 113),.int .u32 (.ofNat 3531604000)], .tup [.int .i64 (.ofNat 0),.bool true]),
  (218, [RbM25v7,.int .u8 (.ofNat 100),.int .u32 (.ofNat 3533701153)], .tup [.int .i64 (.ofNat 1),.bool true]),
  (218, [RbM25v8,.int .u8 (.ofNat 105),.int .u32 (.ofNat 3533701153)], .tup [.int .i64 (.ofNat 1),.bool true]),
  (218, [RbM25v9,.int .u8 (.ofNat 113),.int .u32 (.ofNat 3533701153)], .tup [.int .i64 (.ofNat 1),.bool true]),
  (218, [RbM25v7,.int .u8 (.ofNat 100),.int .u32 (.ofNat 3103784992)], .tup [.int .i64 (.ofNat 0),.bool true]),
  (218, [RbM25v8,.int .u8 (.ofNat 105),.int .u32 (.ofNat 3103784992)], .tup [.int .i64 (.ofNat 1),.bool true]),
  (218, [RbM25v9,.int .u8 (.ofNat 113),.int .u32 (.ofNat 3103784992)], .tup [.int .i64 (.ofNat 0),.bool true]),
  (218, [RbM25v13,.int .u8 (.ofNat 110),.int .u32 (.ofNat 3103784992)], .tup [.int .i64 (.ofNat 1),.bool true]),
  (218, [RbM25v14,.int .u8 (.ofNat 109),.int .u32 (.ofNat 3103784992)], .tup [.int .i64 (.ofNat 0),.bool true]),
  (218, [RbM25v17,.int .u8 (.ofNat 107),.int .u32 (.ofNat 3103784992)], .tup [.int .i64 (.ofNat 1),.bool true]),
  (123, [.int .i64 (.ofNat 13)], .agg [.int .u32 (.ofNat 335544320),.str [98]]),
  (218, [RbM25v18,.int .u8 (.ofNat 98),.int .u32 (.ofNat 3103784992)], .tup [.int .i64 (.ofNat 16777248),.bool true]),
  (123, [.int .i64 (.ofNat 14)], .agg [.int .u32 (.ofNat 1409286144),.str [120,99]]),
  (218, [RbM25v19,.int .u8 (.ofNat 120),.int .u32 (.ofNat 3103784992)], .tup [.int .i64 (.ofNat 1),.bool true]),
  (218, [RbM25v20,.int .u8 (.ofNat 99),.int .u32 (.ofNat 3103784992)], .tup [.int .i64 (.ofNat 0),.bool true]),
  (123, [.int .i64 (.ofNat 15)], .agg [.int .u32 (.ofNat 3019898880),.str [100,120]]),
  (123, [.int .i64 (.ofNat 16)], .agg [.int .u32 (.ofNat 3036676096),.str [100,120]]),
  (218, [RbM25v10,.int .u8 (.ofNat 97),.int .u32 (.ofNat 3103784992)], .tup [.int .i64 (.ofNat 1),.bool true]),
  (218, [RbM25v11,.int .u8 (.ofNat 111),.int .u32 (.ofNat 3103784992)], .tup [.int .i64 (.ofNat 0),.bool true]),
  (218, [RbM25v12,.int .u8 (.ofNat 115),.int .u32 (.ofNat 3103784992)], .tup [.int .i64 (.ofNat 2),.bool true]),
  (218, [RbM25v7,.int .u8 (.ofNat 100),.int .u32 (.ofNat 3531604097)], .tup [.int .i64 (.ofNat 1),.bool true]),
  (218, [RbM25v8,.int .u8 (.ofNat 105),.int .u32 (.ofNat 3531604097)], .tup [.int .i64 (.ofNat 4),.bool true]),
  (218, [RbM25v9,.int .u8 (.ofNat 113),.int .u32 (.ofNat 3531604097)], .tup [.int .i64 (.ofNat 0),.bool true]),
  (218, [RbM25v7,.int .u8 (.ofNat 100),.int .u32 (.ofNat 4070572065)], .tup [.int .i64 (.ofNat 1),.bool true]),
  (218, [RbM25v8,.int .u8 (.ofNat 105),.int .u32 (.ofNat 4070572065)], .tup [.int .i64 (.ofNat 1),.bool true]),
  (218, [RbM25v9,.int .u8 (.ofNat 113),.int .u32 (.ofNat 4070572065)], .tup [.int .i64 (.ofNat 1),.bool true]),
  (218, [RbM25v7,.int .u8 (.ofNat 100),.int .u32 (.ofNat 2292186144)], .tup [.int .i64 (.ofNat 0),.bool true]),
  (218, [RbM25v8,.int .u8 (.ofNat 105),.int .u32 (.ofNat 2292186144)], .tup [.int .i64 (.ofNat 65505),.bool true]),
  (218, [RbM25v9,.int .u8 (.ofNat 113),.int .u32 (.ofNat 2292186144)], .tup [.int .i64 (.ofNat 0),.bool true]),
  (218, [RbM25v13,.int .u8 (.ofNat 110),.int .u32 (.ofNat 2292186144)], .tup [.int .i64 (.ofNat 1),.bool true]),
  (218, [RbM25v14,.int .u8 (.ofNat 109),.int .u32 (.ofNat 2292186144)], .tup [.int .i64 (.ofNat 31),.bool true]),
  (218, [RbM25v17,.int .u8 (.ofNat 107),.int .u32 (.ofNat 2292186144)], .tup [.int .i64 (.ofNat 2),.bool true]),
  (218, [RbM25v18,.int .u8 (.ofNat 98),.int .u32 (.ofNat 2292186144)], .tup [.int .i64 (.ofNat 10484768),.bool true]),
  (218, [RbM25v19,.int .u8 (.ofNat 120),.int .u32 (.ofNat 2292186144)], .tup [.int .i64 (.negSucc 196638),.bool true]),
  (218, [RbM25v20,.int .u8 (.ofNat 99),.int .u32 (.ofNat 2292186144)], .tup [.int .i64 (.ofNat 0),.bool true]),
  (218, [RbM25v10,.int .u8 (.ofNat 97),.int .u32 (.ofNat 2292186144)], .tup [.int .i64 (.ofNat 1),.bool true]),
  (218, [RbM25v11,.int .u8 (.ofNat 111),.int .u32 (.ofNat 2292186144)], .tup [.int .i64 (.ofNat 2047),.bool true]),
  (218, [RbM25v12,.int .u8 (.ofNat 115),.int .u32 (.ofNat 2292186144)], .tup [.int .i64 (.ofNat 2),.bool true]),
  (218, [RbM25v7,.int .u8 (.ofNat 100),.int .u32 (.ofNat 3556769793)], .tup [.int .i64 (.ofNat 1),.bool true]),
  (218, [RbM25v8,.int .u8 (.ofNat 105),.int .u32 (.ofNat 3556769793)], .tup [.int .i64 (.ofNat 0),.bool true]),
  (218, [RbM25v9,.int .u8 (.ofNat 113),.int .u32 (.ofNat 3556769793)], .tup [.int .i64 (.ofNat 0),.bool true]),
  (218, [RbM25v13,.int .u8 (.ofNat 110),.int .u32 (.ofNat 3556769793)], .tup [.int .i64 (.ofNat 0),.bool true]),
  (218, [RbM25v14,.int .u8 (.ofNat 109),.int .u32 (.ofNat 3556769793)], .tup [.int .i64 (.ofNat 0),.bool true]),
  (218, [RbM25v17,.int .u8 (.ofNat 107),.int .u32 (.ofNat 3556769793)], .tup [.int .i64 (.ofNat 1),.bool true]),
  (218, [RbM25v18,.int .u8 (.ofNat 98),.int .u32 (.ofNat 3556769793)], .tup [.int .i64 (.ofNat 1),.bool true]),
  (218, [RbM25v19,.int .u8 (.ofNat 120),.int .u32 (.ofNat 3556769793)], .tup [.int .i64 (.ofNat 0),.bool true]),
  (218, [RbM25v20,.int .u8 (.ofNat 99),.int .u32 (.ofNat 3556769793)], .tup [.int .i64 (.ofNat 1),.bool true]),
  (218, [RbM25v10,.int .u8 (.ofNat 97),.int .u32 (.ofNat 3556769793)], .tup [.int .i64 (.ofNat 0),.bool true]),
  (218, [RbM25v11,.int .u8 (.ofNat 111),.int .u32 (.ofNat 3556769793)], .tup [.int .i64 (.ofNat 0),.bool true]),
  (218, [RbM25v12,.int .u8 (.ofNat 115),.int .u32 (.ofNat 3556769793)], .tup [.int .i64 (.ofNat 3),.bool true]),
  (216, [.int .i64 (.ofNat 21)], .agg [.int .u32 (.ofNat 140475392),.str [100,97,115]]),
  (216, [.int .i64 (.ofNat 22)], .agg [.int .u32 (.ofNat 140508160),.str [100,97,115]]),
  (216, [.int .i64 (.ofNat 23)], .agg [.int .u32 (.ofNat 134249472),.str [100,97,115,109]]),
  (216, [.int .i64 (.ofNat 24)], .agg [.int .u32 (.ofNat 134282240),.str [100,97,115,109]]),
  (216, [.int .i64 (.ofNat 25)], .agg [.int .u32 (.ofNat 3363766272),.str [100,97,101]]),
  (218, [RbM25v21,.int .u8 (.ofNat 101),.int .u32 (.ofNat 3556769793)], .tup [.int .i64 (.ofNat 0),.bool true]),
  (216, [.int .i64 (.ofNat 26)], .agg [.int .u32 (.ofNat 3363799040),.str [100,97,101]]),
  (216, [.int .i64 (.ofNat 27)], .agg [.int .u32 (.ofNat 3357540352),.str [100,97,101,109]]),
  (216, [.int .i64 (.ofNat 28)], .agg [.int .u32 (.ofNat 3357573120),.str [100,97,101,109]]),
  (123, [.int .i64 (.ofNat 29)], .agg [.int .u32 (.ofNat 3573756095),.str [102]]),
  (218, [RbM25v22,.int .u8 (.ofNat 102),.int .u32 (.ofNat 3556769793)], .tup [.int .i64 (.ofNat 0),.bool false]),
  (123, [.int .i64 (.ofNat 30)], .agg [.int .u32 (.ofNat 3573759839),.str [122]]),
  (218, [RbM25v7,.int .u8 (.ofNat 100),.int .u32 (.ofNat 3531637276)], .tup [.int .i64 (.ofNat 28),.bool true]),
  (218, [RbM25v8,.int .u8 (.ofNat 105),.int .u32 (.ofNat 3531637276)], .tup [.int .i64 (.ofNat 1040),.bool true]),
  (218, [RbM25v9,.int .u8 (.ofNat 113),.int .u32 (.ofNat 3531637276)], .tup [.int .i64 (.ofNat 0),.bool true]),
  (218, [RbM25v7,.int .u8 (.ofNat 100),.int .u32 (.ofNat 3531604096)], .tup [.int .i64 (.ofNat 0),.bool true]),
  (218, [RbM25v8,.int .u8 (.ofNat 105),.int .u32 (.ofNat 3531604096)], .tup [.int .i64 (.ofNat 4),.bool true]),
  (218, [RbM25v9,.int .u8 (.ofNat 113),.int .u32 (.ofNat 3531604096)], .tup [.int .i64 (.ofNat 0),.bool true]),
  (218, [RbM25v7,.int .u8 (.ofNat 100),.int .u32 (.ofNat 4070572064)], .tup [.int .i64 (.ofNat 0),.bool true]),
  (218, [RbM25v8,.int .u8 (.ofNat 105),.int .u32 (.ofNat 4070572064)], .tup [.int .i64 (.ofNat 1),.bool true]),
  (218, [RbM25v9,.int .u8 (.ofNat 113),.int .u32 (.ofNat 4070572064)], .tup [.int .i64 (.ofNat 1),.bool true]),
  (218, [RbM25v7,.int .u8 (.ofNat 100),.int .u32 (.ofNat 2296380417)], .tup [.int .i64 (.ofNat 1),.bool true]),
  (218, [RbM25v8,.int .u8 (.ofNat 105),.int .u32 (.ofNat 2296380417)], .tup [.int .i64 (.ofNat 65504),.bool true]),
  (218, [RbM25v9,.int .u8 (.ofNat 113),.int .u32 (.ofNat 2296380417)], .tup [.int .i64 (.ofNat 2),.bool true]),
  (218, [RbM25v13,.int .u8 (.ofNat 110),.int .u32 (.ofNat 2296380417)], .tup [.int .i64 (.ofNat 0),.bool true]),
  (218, [RbM25v14,.int .u8 (.ofNat 109),.int .u32 (.ofNat 2296380417)], .tup [.int .i64 (.ofNat 31),.bool true]),
  (218, [RbM25v17,.int .u8 (.ofNat 107),.int .u32 (.ofNat 2296380417)], .tup [.int .i64 (.ofNat 2),.bool true]),
  (218, [RbM25v18,.int .u8 (.ofNat 98),.int .u32 (.ofNat 2296380417)], .tup [.int .i64 (.ofNat 14679041),.bool true]),
  (218, [RbM25v19,.int .u8 (.ofNat 120),.int .u32 (.ofNat 2296380417)], .tup [.int .i64 (.negSucc 65567),.bool true]),
  (218, [RbM25v20,.int .u8 (.ofNat 99),.int .u32 (.ofNat 2296380417)], .tup [.int .i64 (.ofNat 1),.bool true]),
  (218, [RbM25v10,.int .u8 (.ofNat 97),.int .u32 (.ofNat 2296380417)], .tup [.int .i64 (.ofNat 0),.bool true]),
  (218, [RbM25v11,.int .u8 (.ofNat 111),.int .u32 (.ofNat 2296380417)], .tup [.int .i64 (.ofNat 2047),.bool true]),
  (218, [RbM25v12,.int .u8 (.ofNat 115),.int .u32 (.ofNat 2296380417)], .tup [.int .i64 (.ofNat 2),.bool true]),
  (218, [RbM25v7,.int .u8 (.ofNat 100),.int .u32 (.ofNat 2852193248)], .tup [.int .i64 (.ofNat 0),.bool true]),
  (218, [RbM25v8,.int .u8 (.ofNat 105),.int .u32 (.ofNat 2852193248)], .tup [.int .i64 (.ofNat 2079),.bool true]),
  (218, [RbM25v9,.int .u8 (.ofNat 113),.int .u32 (.ofNat 2852193248)], .tup [.int .i64 (.ofNat 0),.bool true]),
  (218, [RbM25v13,.int .u8 (.ofNat 110),.int .u32 (.ofNat 2852193248)], .tup [.int .i64 (.ofNat 31),.bool true]),
  (218, [RbM25v14,.int .u8 (.ofNat 109),.int .u32 (.ofNat 2852193248)], .tup [.int .i64 (.ofNat 1),.bool true]),
  (218, [RbM25v7,.int .u8 (.ofNat 100),.int .u32 (.ofNat 3533701152)], .tup [.int .i64 (.ofNat 0),.bool true]),
  (218, [RbM25v8,.int .u8 (.ofNat 105),.int .u32 (.ofNat 3533701152)], .tup [.int .i64 (.ofNat 1),.bool true]),
  (218, [RbM25v9,.int .u8 (.ofNat 113),.int .u32 (.ofNat 3533701152)], .tup [.int .i64 (.ofNat 1),.bool true]),
  (218, [RbM25v7,.int .u8 (.ofNat 100),.int .u32 (.ofNat 3107979265)], .tup [.int .i64 (.ofNat 1),.bool true]),
  (218, [RbM25v8,.int .u8 (.ofNat 105),.int .u32 (.ofNat 3107979265)], .tup [.int .i64 (.ofNat 0),.bool true]),
  (218, [RbM25v9,.int .u8 (.ofNat 113),.int .u32 (.ofNat 3107979265)], .tup [.int .i64 (.ofNat 2),.bool true]),
  (218, [RbM25v13,.int .u8 (.ofNat 110),.int .u32 (.ofNat 3107979265)], .tup [.int .i64 (.ofNat 0),.bool true]),
  (218, [RbM25v14,.int .u8 (.ofNat 109),.int .u32 (.ofNat 3107979265)], .tup [.int .i64 (.ofNat 0),.bool true]),
  (218, [RbM25v17,.int .u8 (.ofNat 107),.int .u32 (.ofNat 3107979265)], .tup [.int .i64 (.ofNat 1),.bool true]),
  (218, [RbM25v18,.int .u8 (.ofNat 98),.int .u32 (.ofNat 3107979265)], .tup [.int .i64 (.ofNat 20971521),.bool true]),
  (218, [RbM25v19,.int .u8 (.ofNat 120),.int .u32 (.ofNat 3107979265)], .tup [.int .i64 (.ofNat 131072),.bool true]),
  (218, [RbM25v20,.int .u8 (.ofNat 99),.int .u32 (.ofNat 3107979265)], .tup [.int .i64 (.ofNat 1),.bool true]),
  (218, [RbM25v10,.int .u8 (.ofNat 97),.int .u32 (.ofNat 3107979265)], .tup [.int .i64 (.ofNat 0),.bool true]),
  (218, [RbM25v11,.int .u8 (.ofNat 111),.int .u32 (.ofNat 3107979265)], .tup [.int .i64 (.ofNat 0),.bool true]),
  (218, [RbM25v12,.int .u8 (.ofNat 115),.int .u32 (.ofNat 3107979265)], .tup [.int .i64 (.ofNat 2),.bool true]),
  (218, [RbM25v7,.int .u8 (.ofNat 100),.int .u32 (.ofNat 3556769857)], .tup [.int .i64 (.ofNat 1),.bool true]),
  (218, [RbM25v8,.int .u8 (.ofNat 105),.int .u32 (.ofNat 3556769857)], .tup [.int .i64 (.ofNat 2),.bool true]),
  (218, [RbM25v9,.int .u8 (.ofNat 113),.int .u32 (.ofNat 3556769857)], .tup [.int .i64 (.ofNat 0),.bool true]),
  (218, [RbM25v13,.int .u8 (.ofNat 110),.int .u32 (.ofNat 3556769857)], .tup [.int .i64 (.ofNat 2),.bool true]),
  (218, [RbM25v14,.int .u8 (.ofNat 109),.int .u32 (.ofNat 3556769857)], .tup [.int .i64 (.ofNat 0),.bool true]),
  (218, [RbM25v17,.int .u8 (.ofNat 107),.int .u32 (.ofNat 3556769857)], .tup [.int .i64 (.ofNat 1),.bool true]),
  (218, [RbM25v18,.int .u8 (.ofNat 98),.int .u32 (.ofNat 3556769857)], .tup [.int .i64 (.ofNat 65),.bool true]),
  (218, [RbM25v19,.int .u8 (.ofNat 120),.int .u32 (.ofNat 3556769857)], .tup [.int .i64 (.ofNat 2),.bool true]),
  (218, [RbM25v20,.int .u8 (.ofNat 99),.int .u32 (.ofNat 3556769857)], .tup [.int .i64 (.ofNat 1),.bool true]),
  (218, [RbM25v10,.int .u8 (.ofNat 97),.int .u32 (.ofNat 3556769857)], .tup [.int .i64 (.ofNat 2),.bool true]),
  (218, [RbM25v11,.int .u8 (.ofNat 111),.int .u32 (.ofNat 3556769857)], .tup [.int .i64 (.ofNat 0),.bool true]),
  (218, [RbM25v12,.int .u8 (.ofNat 115),.int .u32 (.ofNat 3556769857)], .tup [.int .i64 (.ofNat 3),.bool true]),
  (218, [RbM25v21,.int .u8 (.ofNat 101),.int .u32 (.ofNat 3556769857)], .tup [.int .i64 (.ofNat 0),.bool true]),
  (218, [RbM25v22,.int .u8 (.ofNat 102),.int .u32 (.ofNat 3556769857)], .tup [.int .i64 (.ofNat 0),.bool false]),
  (131, [.int .i64 (.ofNat 1)], .bool false),
  (222, [.int .u64 (.ofNat 16),.int .i64 (.ofNat 16),.int .i64 (.ofNat 16),.int .u64 (.ofNat 1)], .int .u64 (.ofNat 65552)),
  (83, [.agg [.int .i64 (.ofNat 65536),.int .i64 (.ofNat 4)]], .agg [.int .i64 (.ofNat 65536),.int .i64 (.ofNat 65540)]),
  (83, [.agg [.int .i64 (.ofNat 65536),.int .i64 (.ofNat 8)]], .agg [.int .i64 (.ofNat 65536),.int .i64 (.ofNat 65544)]),
  (138, [.agg [.int .u64 (.ofNat 1),.int .u64 (.ofNat 0)],.int .i64 (.ofNat 4)], RbM25v23),
  (222, [.int .u64 (.ofNat 4),.int .i64 (.ofNat 16),.int .i64 (.ofNat 16),.int .u64 (.ofNat 1)], .int .u64 (.ofNat 65540)),
  (83, [.agg [.int .i64 (.ofNat 65540),.int .i64 (.ofNat 4)]], .agg [.int .i64 (.ofNat 65540),.int .i64 (.ofNat 65544)]),
  (83, [.agg [.int .i64 (.ofNat 65536),.int .i64 (.ofNat 1)]], .agg [.int .i64 (.ofNat 65536),.int .i64 (.ofNat 65537)]),
  (163, [.lst .dead 1 [.int .i64 (.ofNat 0)],.int .i64 (.ofNat 0)], .bool true),
  (83, [.agg [.int .i64 (.ofNat 65537),.int .i64 (.ofNat 1)]], .agg [.int .i64 (.ofNat 65537),.int .i64 (.ofNat 65538)]),
  (83, [.agg [.int .i64 (.ofNat 65538),.int .i64 (.ofNat 1)]], .agg [.int .i64 (.ofNat 65538),.int .i64 (.ofNat 65539)]),
  (83, [.agg [.int .i64 (.ofNat 65539),.int .i64 (.ofNat 1)]], .agg [.int .i64 (.ofNat 65539),.int .i64 (.ofNat 65540)]),
  (83, [.agg [.int .i64 (.ofNat 65540),.int .i64 (.ofNat 1)]], .agg [.int .i64 (.ofNat 65540),.int .i64 (.ofNat 65541)]),
  (163, [.lst .dead 1 [.int .i64 (.ofNat 1)],.int .i64 (.ofNat 1)], .bool true),
  (83, [.agg [.int .i64 (.ofNat 65541),.int .i64 (.ofNat 1)]], .agg [.int .i64 (.ofNat 65541),.int .i64 (.ofNat 65542)]),
  (83, [.agg [.int .i64 (.ofNat 65542),.int .i64 (.ofNat 1)]], .agg [.int .i64 (.ofNat 65542),.int .i64 (.ofNat 65543)]),
  (83, [.agg [.int .i64 (.ofNat 65543),.int .i64 (.ofNat 1)]], .agg [.int .i64 (.ofNat 65543),.int .i64 (.ofNat 65544)]),
  (225, [.lst .dead 1 [.int .i64 (.ofNat 0)],.int .i64 (.ofNat 0)], .int .i64 (.ofNat 0)),
  (225, [.lst .dead 1 [.int .i64 (.ofNat 0)],.int .i64 (.ofNat 1)], .int .i64 (.negSucc 0)),
  (225, [.lst .dead 1 [.int .i64 (.ofNat 1)],.int .i64 (.ofNat 0)], .int .i64 (.negSucc 0)),
  (225, [.lst .dead 1 [.int .i64 (.ofNat 1)],.int .i64 (.ofNat 1)], .int .i64 (.ofNat 0)),
  (225, [.lst .dead 1 [.int .i64 (.ofNat 0)],.int .i64 (.ofNat 2)], .int .i64 (.negSucc 0)),
  (225, [.lst .dead 1 [.int .i64 (.ofNat 1)],.int .i64 (.ofNat 2)], .int .i64 (.negSucc 0)),
  (225, [.lst .dead 1 [.int .i64 (.ofNat 0)],.int .i64 (.ofNat 3)], .int .i64 (.negSucc 0)),
  (225, [.lst .dead 1 [.int .i64 (.ofNat 1)],.int .i64 (.ofNat 3)], .int .i64 (.negSucc 0)),
  (265, [RbM25v30], .int .i64 (.ofNat 0)),
  (186, [.agg [.int .i64 (.ofNat 3),.int .i64 (.ofNat 1),.str [],.str [],.int .i64 (.ofNat 0),.str [120],.lst .dead 0 [],RbM25v48,.lst .dead 0 [],.lst .dead 0 []]], .bool true),
  (325, [.agg [.int .i64 (.ofNat 1),.int .u64 (.ofNat 7),.str [],.int .i64 (.ofNat 0),.int .i64 (.ofNat 0),.str [],.lst .dead 0 [],.lst .dead 0 []]], .bool true),
  (384, [.agg [.int .i64 (.ofNat 65536),.int .i64 (.ofNat 1)]], .lst .dead 1 [.int .i64 (.ofNat 65536),.int .i64 (.ofNat 1)]),
  (194, [.lst .dead 2 [.int .i64 (.ofNat 0),.int .i64 (.ofNat 0),.int .i64 (.ofNat 2),.int .i64 (.ofNat 1),.int .i64 (.ofNat 1),.int .i64 (.ofNat 2)],.int .i64 (.ofNat 2),.fn 110 []], .tup []),
  (128, [RbM25v8,.int .u8 (.ofNat 105),.int .i64 (.ofNat 7)], .int .u32 (.ofNat 224)),
  (128, [RbM25v12,.int .u8 (.ofNat 115),.int .i64 (.ofNat 0)], .int .u32 (.ofNat 0)),
  (129, [.int .i64 (.ofNat 1),.int .u32 (.ofNat 3531604192)], .tup [RbM25v49,.bool true]),
  (218, [RbM25v7,.int .u8 (.ofNat 100),.int .u32 (.ofNat 956301344)], .tup [.int .i64 (.ofNat 0),.bool true]),
  (218, [RbM25v8,.int .u8 (.ofNat 105),.int .u32 (.ofNat 956301344)], .tup [.int .i64 (.ofNat 1),.bool true]),
  (218, [RbM25v9,.int .u8 (.ofNat 113),.int .u32 (.ofNat 956301344)], .tup [.int .i64 (.ofNat 0),.bool true]),
  (218, [RbM25v13,.int .u8 (.ofNat 110),.int .u32 (.ofNat 956301344)], .tup [.int .i64 (.ofNat 1),.bool true]),
  (218, [RbM25v14,.int .u8 (.ofNat 109),.int .u32 (.ofNat 956301344)], .tup [.int .i64 (.ofNat 0),.bool true]),
  (218, [RbM25v19,.int .u8 (.ofNat 120),.int .u32 (.ofNat 956301344)], .tup [.int .i64 (.ofNat 1),.bool true]),
  (218, [RbM25v10,.int .u8 (.ofNat 97),.int .u32 (.ofNat 956301344)], .tup [.int .i64 (.ofNat 1),.bool true]),
  (218, [RbM25v11,.int .u8 (.ofNat 111),.int .u32 (.ofNat 956301344)], .tup [.int .i64 (.ofNat 0),.bool true]),
  (218, [RbM25v12,.int .u8 (.ofNat 115),.int .u32 (.ofNat 956301344)], .tup [.int .i64 (.ofNat 0),.bool true]),
  (186, [.agg [.int .i64 (.ofNat 4),.int .i64 (.ofNat 1),.str [],.str [],.int .i64 (.ofNat 3),.str [102],.lst .dead 0 [],RbM25v45,.lst .dead 0 [],.lst .dead 0 []]], .bool true),
  (186, [.agg [.int .i64 (.ofNat 1),.int .i64 (.ofNat 1),.str [97],.str [],.int .i64 (.ofNat 0),.str [],.lst .dead 0 [],RbM25v50,.lst .dead 0 [],.lst .dead 0 []]], .bool true)]
theorem RbM251_run : forced (allW (runG RbM25T0) RbM251) = true := by kernel_rfl
def RbM25T1 : List (Nat × List AV × AV) := RbM251 ++ RbM25T0
theorem RbM251_ok : MemoOK (ACall C) (memL RbM25T1) := memL_appW gtC (runG_ok RbM250_ok) RbM250_ok (of_forced RbM251_run)
def RbM25v51 : AV := .agg [.int .i64 (.ofNat 1),.int .i64 (.ofNat 28),.int .i64 (.ofNat 0),.int .i64 (.ofNat 0),.int .i64 (.ofNat 0),.int .i64 (.ofNat 0),.int .i64 (.ofNat 16)]
def RbM25v52 : AV := .agg [.int .i64 (.ofNat 2),.int .i64 (.ofNat 28),.int .i64 (.ofNat 0),.int .i64 (.ofNat 0),.int .i64 (.ofNat 1),.int .i64 (.ofNat 0),.int .i64 (.ofNat 1)]
def RbM25v53 : AV := .agg [.int .i64 (.ofNat 1),.int .i64 (.ofNat 0),.int .i64 (.ofNat 0),.int .i64 (.ofNat 0),.int .i64 (.ofNat 0),.int .i64 (.ofNat 0),.int .i64 (.ofNat 1)]
def RbM25v54 : AV := .agg [.int .i64 (.ofNat 1),.int .i64 (.ofNat 1),.int .i64 (.ofNat 0),.int .i64 (.ofNat 0),.int .i64 (.ofNat 1),.int .i64 (.ofNat 0),.int .i64 (.ofNat 1)]
def RbM25v55 : AV := .agg [.int .i64 (.ofNat 1),.int .i64 (.ofNat 1),.int .i64 (.ofNat 0),.int .i64 (.ofNat 0),.int .i64 (.ofNat 0),.int .i64 (.ofNat 0),.int .i64 (.ofNat 4)]
def RbM25v56 : AV := .agg [.int .i64 (.ofNat 2),.int .i64 (.ofNat 1),.int .i64 (.ofNat 0),.int .i64 (.ofNat 0),.int .i64 (.ofNat 1),.int .i64 (.ofNat 0),.int .i64 (.ofNat 1)]
def RbM25v57 : AV := .agg [.int .i64 (.ofNat 31),.int .i64 (.ofNat 0),.int .i64 (.ofNat 0),.int .i64 (.ofNat 0),.int .i64 (.ofNat 0),.int .i64 (.ofNat 0),.int .i64 (.ofNat 0)]
def RbM25v58 : AV := .agg [.int .i64 (.ofNat 1),.int .i64 (.ofNat 28),.int .i64 (.ofNat 0),.int .i64 (.ofNat 0),.int .i64 (.ofNat 0),.int .i64 (.ofNat 0),.int .i64 (.ofNat 1040)]
def RbM25v59 : AV := .agg [.int .i64 (.ofNat 1),.int .i64 (.ofNat 0),.int .i64 (.ofNat 0),.int .i64 (.ofNat 0),.int .i64 (.ofNat 0),.int .i64 (.ofNat 0),.int .i64 (.ofNat 4)]
def RbM25v60 : AV := .agg [.int .i64 (.ofNat 2),.int .i64 (.ofNat 0),.int .i64 (.ofNat 0),.int .i64 (.ofNat 0),.int .i64 (.ofNat 1),.int .i64 (.ofNat 0),.int .i64 (.ofNat 1)]
def RbM25v61 : AV := .agg [.int .i64 (.ofNat 7),.int .i64 (.ofNat 0),.int .i64 (.ofNat 31),.int .i64 (.ofNat 1),.int .i64 (.ofNat 0),.int .i64 (.ofNat 0),.int .i64 (.ofNat 0)]
def RbM25v62 : AV := .agg [.int .i64 (.ofNat 1),.int .i64 (.ofNat 0),.int .i64 (.ofNat 0),.int .i64 (.ofNat 0),.int .i64 (.ofNat 1),.int .i64 (.ofNat 0),.int .i64 (.ofNat 1)]
def RbM25v63 : AV := .agg [.int .i64 (.ofNat 31),.int .i64 (.ofNat 0),.int .i64 (.ofNat 0),.int .i64 (.ofNat 0),.int .i64 (.ofNat 0),.int .i64 (.ofNat 0),.int .i64 (.ofNat 2)]
def RbM25v64 : AV := .tup [.agg [.int .i64 (.ofNat 2),.int .i64 (.ofNat 0),.int .i64 (.ofNat 0),.int .i64 (.ofNat 0),.int .i64 (.ofNat 0),.int .i64 (.ofNat 0),.int .i64 (.ofNat 1)],.bool false]
def RbM25v65 : AV := .tup [.agg [.int .i64 (.ofNat 3),.int .i64 (.ofNat 0),.int .i64 (.ofNat 1),.int .i64 (.ofNat 0),.int .i64 (.ofNat 0),.int .i64 (.ofNat 0),.int .i64 (.ofNat 0)],.bool false]
def RbM25v66 : AV := .tup [.agg [.int .i64 (.ofNat 4),.int .i64 (.ofNat 0),.int .i64 (.ofNat 1),.int .i64 (.ofNat 0),.int .i64 (.ofNat 0),.int .i64 (.ofNat 0),.int .i64 (.ofNat 0)],.bool false]
def RbM25v67 : AV := .tup [.agg [.int .i64 (.ofNat 5),.int .i64 (.ofNat 0),.int .i64 (.ofNat 1),.int .i64 (.ofNat 0),.int .i64 (.ofNat 0),.int .i64 (.ofNat 0),.int .i64 (.ofNat 0)],.bool false]
def RbM25v68 : AV := .tup [.agg [.int .i64 (.ofNat 6),.int .i64 (.ofNat 0),.int .i64 (.ofNat 1),.int .i64 (.ofNat 0),.int .i64 (.ofNat 0),.int .i64 (.ofNat 0),.int .i64 (.ofNat 0)],.bool false]
def RbM25v69 : AV := .tup [.agg [.int .i64 (.ofNat 7),.int .i64 (.ofNat 0),.int .i64 (.ofNat 1),.int .i64 (.ofNat 0),.int .i64 (.ofNat 0),.int .i64 (.ofNat 0),.int .i64 (.ofNat 0)],.bool false]
def RbM25v70 : AV := .tup [.agg [.int .i64 (.ofNat 8),.int .i64 (.ofNat 0),.int .i64 (.ofNat 1),.int .i64 (.ofNat 0),.int .i64 (.ofNat 0),.int .i64 (.ofNat 0),.int .i64 (.ofNat 0)],.bool false]
def RbM25v71 : AV := .tup [.agg [.int .i64 (.ofNat 9),.int .i64 (.ofNat 0),.int .i64 (.ofNat 1),.int .i64 (.ofNat 0),.int .i64 (.ofNat 0),.int .i64 (.ofNat 0),.int .i64 (.ofNat 0)],.bool false]
def RbM25v72 : AV := .tup [.agg [.int .i64 (.ofNat 10),.int .i64 (.ofNat 0),.int .i64 (.ofNat 1),.int .i64 (.ofNat 0),.int .i64 (.ofNat 0),.int .i64 (.ofNat 0),.int .i64 (.ofNat 0)],.bool false]
def RbM25v73 : AV := .tup [.agg [.int .i64 (.ofNat 11),.int .i64 (.ofNat 0),.int .i64 (.ofNat 1),.int .i64 (.ofNat 0),.int .i64 (.ofNat 0),.int .i64 (.ofNat 0),.int .i64 (.ofNat 0)],.bool false]
def RbM25v74 : AV := .tup [.agg [.int .i64 (.ofNat 12),.int .i64 (.ofNat 0),.int .i64 (.ofNat 0),.int .i64 (.ofNat 0),.int .i64 (.ofNat 1),.int .i64 (.ofNat 0),.int .i64 (.ofNat 0)],.bool false]
def RbM25v75 : AV := .tup [.agg [.int .i64 (.ofNat 13),.int .i64 (.ofNat 0),.int .i64 (.ofNat 0),.int .i64 (.ofNat 0),.int .i64 (.ofNat 0),.int .i64 (.ofNat 0),.int .i64 (.ofNat 16777248)],.bool false]
def RbM25v76 : AV := .tup [.agg [.int .i64 (.ofNat 14),.int .i64 (.ofNat 0),.int .i64 (.ofNat 0),.int .i64 (.ofNat 0),.int .i64 (.ofNat 0),.int .i64 (.ofNat 0),.int .i64 (.ofNat 1)],.bool false]
def RbM25v77 : AV := .tup [.agg [.int .i64 (.ofNat 15),.int .i64 (.ofNat 0),.int .i64 (.ofNat 0),.int .i64 (.ofNat 0),.int .i64 (.ofNat 0),.int .i64 (.ofNat 0),.int .i64 (.ofNat 1)],.bool false]
def RbM25v78 : AV := .tup [.agg [.int .i64 (.ofNat 16),.int .i64 (.ofNat 0),.int .i64 (.ofNat 0),.int .i64 (.ofNat 0),.int .i64 (.ofNat 0),.int .i64 (.ofNat 0),.int .i64 (.ofNat 1)],.bool false]
def RbM25v79 : AV := .tup [.agg [.int .i64 (.ofNat 3),.int .i64 (.ofNat 1),.int .i64 (.ofNat 0),.int .i64 (.ofNat 0),.int .i64 (.ofNat 0),.int .i64 (.ofNat 0),.int .i64 (.ofNat 0)],.bool false]
def RbM25v80 : AV := .tup [.agg [.int .i64 (.ofNat 4),.int .i64 (.ofNat 1),.int .i64 (.ofNat 0),.int .i64 (.ofNat 0),.int .i64 (.ofNat 0),.int .i64 (.ofNat 0),.int .i64 (.ofNat 0)],.bool false]
def RbM25v81 : AV := .tup [.agg [.int .i64 (.ofNat 5),.int .i64 (.ofNat 1),.int .i64 (.ofNat 0),.int .i64 (.ofNat 0),.int .i64 (.ofNat 0),.int .i64 (.ofNat 0),.int .i64 (.ofNat 0)],.bool false]
def RbM25v82 : AV := .tup [.agg [.int .i64 (.ofNat 6),.int .i64 (.ofNat 1),.int .i64 (.ofNat 0),.int .i64 (.ofNat 0),.int .i64 (.ofNat 0),.int .i64 (.ofNat 0),.int .i64 (.ofNat 0)],.bool false]
def RbM25v83 : AV := .tup [.agg [.int .i64 (.ofNat 7),.int .i64 (.ofNat 1),.int .i64 (.ofNat 0),.int .i64 (.ofNat 0),.int .i64 (.ofNat 0),.int .i64 (.ofNat 0),.int .i64 (.ofNat 0)],.bool false]
def RbM25v84 : AV := .tup [.agg [.int .i64 (.ofNat 8),.int .i64 (.ofNat 1),.int .i64 (.ofNat 0),.int .i64 (.ofNat 0),.int .i64 (.ofNat 0),.int .i64 (.ofNat 0),.int .i64 (.ofNat 0)],.bool false]
def RbM25v85 : AV := .tup [.agg [.int .i64 (.ofNat 9),.int .i64 (.ofNat 1),.int .i64 (.ofNat 0),.int .i64 (.ofNat 0),.int .i64 (.ofNat 0),.int .i64 (.ofNat 0),.int .i64 (.ofNat 0)],.bool false]
def RbM25v86 : AV := .tup [.agg [.int .i64 (.ofNat 10),.int .i64 (.ofNat 1),.int .i64 (.ofNat 0),.int .i64 (.ofNat 0),.int .i64 (.ofNat 0),.int .i64 (.ofNat 0),.int .i64 (.ofNat 0)],.bool false]
def RbM25v87 : AV := .tup [.agg [.int .i64 (.ofNat 11),.int .i64 (.ofNat 1),.int .i64 (.ofNat 0),.int .i64 (.ofNat 0),.int .i64 (.ofNat 0),.int .i64 (.ofNat 0),.int .i64 (.ofNat 0)],.bool false]
def RbM25v88 : AV := .tup [.agg [.int .i64 (.ofNat 12),.int .i64 (.ofNat 1),.int .i64 (.ofNat 0),.int .i64 (.ofNat 0),.int .i64 (.ofNat 1),.int .i64 (.ofNat 0),.int .i64 (.ofNat 0)],.bool false]
def RbM25v89 : AV := .tup [.agg [.int .i64 (.ofNat 0),.int .i64 (.ofNat 0),.int .i64 (.ofNat 0),.int .i64 (.ofNat 0),.int .i64 (.ofNat 0),.int .i64 (.ofNat 0),.int .i64 (.ofNat 0)],.bool false]
def RbM25v90 : AV := .tup [.agg [.int .i64 (.ofNat 30),.int .i64 (.ofNat 0),.int .i64 (.ofNat 0),.int .i64 (.ofNat 0),.int .i64 (.ofNat 0),.int .i64 (.ofNat 0),.int .i64 (.ofNat 0)],.bool false]
def RbM252 : List (Nat × List AV × AV) := [
  (90, [.str [118,97,114,32,120,32,117,51,50,32,59,32,118,97,114,32,102,32,97,51,50,32,59,32,116,104,114,101,97,100,32,123,32,119,114,105,116,101,32,120,32,61,32,49,32,59,32,115,116,111,114,101,32,115,99,32,102,32,61,32,49,32,59,32,125,32,116,104,114,101,97,100,32,123,32,108,101,116,32,97,32,61,32,108,111,97,100,32,115,99,32,102,32,59,32,112,114,105,110,116,32,114,101,97,100,32,120,32,59,32,125]], .tup [.lst .dead 36 [.str [118,97,114],.int .i64 (.ofNat 1),.str [120],.int .i64 (.ofNat 1),.str [117,51,50],.int .i64 (.ofNat 1),.str [59],.int .i64 (.ofNat 1),.str [118,97,114],.int .i64 (.ofNat 1),.str [102],.int .i64 (.ofNat 1),.str [97,51,50],.int .i64 (.ofNat 1),.str [59],.int .i64 (.ofNat 1),.str [116,104,114,101,97,100],.int .i64 (.ofNat 1),.str [123],.int .i64 (.ofNat 1),.str [119,114,105,116,101],.int .i64 (.ofNat 1),.str [120],.int .i64 (.ofNat 1),.str [61],.int .i64 (.ofNat 1),.str [49],.int .i64 (.ofNat 1),.str [59],.int .i64 (.ofNat 1),.str [115,116,111,114,101],.int .i64 (.ofNat 1),.str [115,99],.int .i64 (.ofNat 1),.str [102],.int .i64 (.ofNat 1),.str [61],.int .i64 (.ofNat 1),.str [49],.int .i64 (.ofNat 1),.str [59],.int .i64 (.ofNat 1),.str [125],.int .i64 (.ofNat 1),.str [116,104,114,101,97,100],.int .i64 (.ofNat 1),.str [123],.int .i64 (.ofNat 1),.str [108,101,116],.int .i64 (.ofNat 1),.str [97],.int .i64 (.ofNat 1),.str [61],.int .i64 (.ofNat 1),.str [108,111,97,100],.int .i64 (.ofNat 1),.str [115,99],.int .i64 (.ofNat 1),.str [102],.int .i64 (.ofNat 1),.str [59],.int .i64 (.ofNat 1),.str [112,114,105,110,116],.int .i64 (.ofNat 1),.str [114,101,97,100],.int .i64 (.ofNat 1),.str [120],.int .i64 (.ofNat 1),.str [59],.int .i64 (.ofNat 1),.str [125],.int .i64 (.ofNat 1)],.agg [.int .i64 (.ofNat 0),.int .i64 (.ofNat 0)]]),
  (95, [.str [120]], .bool false),
  (95, [.str [102]], .bool false),
  (191, [RbM25v2], .int .i64 (.ofNat 0)),
  (192, [RbM25v2], .bool false),
  (191, [RbM25v1], .int .i64 (.ofNat 0)),
  (192, [RbM25v1], .bool false),
  (360, [.agg [.int .i64 (.ofNat 65536),.int .i64 (.ofNat 4),.int .i64 (.ofNat 0),.bool false,.int .i64 (.ofNat 0),.int .i64 (.ofNat 0),.int .i64 (.negSucc 0),.int .i64 (.ofNat 16)]], .lst .dead 1 [.int .i64 (.ofNat 0),.int .i64 (.ofNat 4)]),
  (197, [.lst .dead 0 [],.fn 198 []], .tup []),
  (57, [RbM25v51], .tup [.int .u32 (.ofNat 3531604508),.int .i64 (.ofNat 0)]),
  (57, [RbM25v52], .tup [.int .u32 (.ofNat 4070572092),.int .i64 (.ofNat 0)]),
  (57, [RbM25v53], .tup [.int .u32 (.ofNat 3531604000),.int .i64 (.ofNat 0)]),
  (57, [RbM25v54], .tup [.int .u32 (.ofNat 3533701153),.int .i64 (.ofNat 0)]),
  (123, [.int .i64 (.ofNat 18)], .agg [.int .u32 (.ofNat 956301312),.str [100,97,111,115]]),
  (57, [RbM25v55], .tup [.int .u32 (.ofNat 3531604097),.int .i64 (.ofNat 0)]),
  (57, [RbM25v56], .tup [.int .u32 (.ofNat 4070572065),.int .i64 (.ofNat 0)]),
  (123, [.int .i64 (.ofNat 20)], .agg [.int .u32 (.ofNat 144702464),.str [100,97,115]]),
  (57, [RbM25v57], .tup [.int .u32 (.ofNat 3556769793),.int .i64 (.ofNat 0)]),
  (57, [RbM25v58], .tup [.int .u32 (.ofNat 3531637276),.int .i64 (.ofNat 0)]),
  (57, [RbM25v59], .tup [.int .u32 (.ofNat 3531604096),.int .i64 (.ofNat 0)]),
  (57, [RbM25v60], .tup [.int .u32 (.ofNat 4070572064),.int .i64 (.ofNat 0)]),
  (123, [.int .i64 (.ofNat 19)], .agg [.int .u32 (.ofNat 148896768),.str [100,97,115]]),
  (57, [RbM25v61], .tup [.int .u32 (.ofNat 2852193248),.int .i64 (.ofNat 0)]),
  (57, [RbM25v62], .tup [.int .u32 (.ofNat 3533701152),.int .i64 (.ofNat 0)]),
  (123, [.int .i64 (.ofNat 17)], .agg [.int .u32 (.ofNat 960495616),.str [100,97,111,115]]),
  (57, [RbM25v63], .tup [.int .u32 (.ofNat 3556769857),.int .i64 (.ofNat 0)]),
  (129, [.int .i64 (.ofNat 1),.int .u32 (.ofNat 3531604508)], .tup [RbM25v51,.bool true]),
  (129, [.int .i64 (.ofNat 1),.int .u32 (.ofNat 4070572092)], .tup [.agg [.int .i64 (.ofNat 1),.int .i64 (.ofNat 28),.int .i64 (.ofNat 0),.int .i64 (.ofNat 0),.int .i64 (.ofNat 1),.int .i64 (.ofNat 0),.int .i64 (.ofNat 1)],.bool false]),
  (129, [.int .i64 (.ofNat 2),.int .u32 (.ofNat 4070572092)], .tup [RbM25v52,.bool true]),
  (129, [.int .i64 (.ofNat 1),.int .u32 (.ofNat 3531604000)], .tup [RbM25v53,.bool true]),
  (129, [.int .i64 (.ofNat 1),.int .u32 (.ofNat 3533701153)], .tup [RbM25v54,.bool true]),
  (129, [.int .i64 (.ofNat 1),.int .u32 (.ofNat 3103784992)], .tup [RbM25v53,.bool false]),
  (129, [.int .i64 (.ofNat 2),.int .u32 (.ofNat 3103784992)], RbM25v64),
  (129, [.int .i64 (.ofNat 3),.int .u32 (.ofNat 3103784992)], RbM25v65),
  (129, [.int .i64 (.ofNat 4),.int .u32 (.ofNat 3103784992)], RbM25v66),
  (129, [.int .i64 (.ofNat 5),.int .u32 (.ofNat 3103784992)], RbM25v67),
  (129, [.int .i64 (.ofNat 6),.int .u32 (.ofNat 3103784992)], RbM25v68),
  (129, [.int .i64 (.ofNat 7),.int .u32 (.ofNat 3103784992)], RbM25v69),
  (129, [.int .i64 (.ofNat 8),.int .u32 (.ofNat 3103784992)], RbM25v70),
  (129, [.int .i64 (.ofNat 9),.int .u32 (.ofNat 3103784992)], RbM25v71),
  (129, [.int .i64 (.ofNat 10),.int .u32 (.ofNat 3103784992)], RbM25v72),
  (129, [.int .i64 (.ofNat 11),.int .u32 (.ofNat 3103784992)], RbM25v73),
  (129, [.int .i64 (.ofNat 12),.int .u32 (.ofNat 3103784992)], RbM25v74),
  (129, [.int .i64 (.ofNat 13),.int .u32 (.ofNat 3103784992)], RbM25v75),
  (129, [.int .i64 (.ofNat 14),.int .u32 (.ofNat 3103784992)], RbM25v76),
  (129, [.int .i64 (.ofNat 15),.int .u32 (.ofNat 3103784992)], RbM25v77),
  (129, [.int .i64 (.ofNat 16),.int .u32 (.ofNat 3103784992)], RbM25v78),
  (129, [.int .i64 (.ofNat 1),.int .u32 (.ofNat 3531604097)], .tup [RbM25v55,.bool true]),
  (129, [.int .i64 (.ofNat 1),.int .u32 (.ofNat 4070572065)], .tup [RbM25v54,.bool false]),
  (129, [.int .i64 (.ofNat 2),.int .u32 (.ofNat 4070572065)], .tup [RbM25v56,.bool true]),
  (129, [.int .i64 (.ofNat 1),.int .u32 (.ofNat 2292186144)], .tup [.agg [.int .i64 (.ofNat 1),.int .i64 (.ofNat 0),.int .i64 (.ofNat 0),.int .i64 (.ofNat 0),.int .i64 (.ofNat 0),.int .i64 (.ofNat 0),.int .i64 (.ofNat 65505)],.bool false]),
  (129, [.int .i64 (.ofNat 2),.int .u32 (.ofNat 2292186144)], .tup [.agg [.int .i64 (.ofNat 2),.int .i64 (.ofNat 0),.int .i64 (.ofNat 0),.int .i64 (.ofNat 0),.int .i64 (.ofNat 0),.int .i64 (.ofNat 0),.int .i64 (.ofNat 65505)],.bool false]),
  (129, [.int .i64 (.ofNat 3),.int .u32 (.ofNat 2292186144)], .tup [.agg [.int .i64 (.ofNat 3),.int .i64 (.ofNat 0),.int .i64 (.ofNat 1),.int .i64 (.ofNat 31),.int .i64 (.ofNat 0),.int .i64 (.ofNat 0),.int .i64 (.ofNat 0)],.bool false]),
  (129, [.int .i64 (.ofNat 4),.int .u32 (.ofNat 2292186144)], .tup [.agg [.int .i64 (.ofNat 4),.int .i64 (.ofNat 0),.int .i64 (.ofNat 1),.int .i64 (.ofNat 31),.int .i64 (.ofNat 0),.int .i64 (.ofNat 0),.int .i64 (.ofNat 0)],.bool false]),
  (129, [.int .i64 (.ofNat 5),.int .u32 (.ofNat 2292186144)], .tup [.agg [.int .i64 (.ofNat 5),.int .i64 (.ofNat 0),.int .i64 (.ofNat 1),.int .i64 (.ofNat 31),.int .i64 (.ofNat 0),.int .i64 (.ofNat 0),.int .i64 (.ofNat 0)],.bool false]),
  (129, [.int .i64 (.ofNat 6),.int .u32 (.ofNat 2292186144)], .tup [.agg [.int .i64 (.ofNat 6),.int .i64 (.ofNat 0),.int .i64 (.ofNat 1),.int .i64 (.ofNat 31),.int .i64 (.ofNat 0),.int .i64 (.ofNat 0),.int .i64 (.ofNat 0)],.bool false]),
  (129, [.int .i64 (.ofNat 7),.int .u32 (.ofNat 2292186144)], .tup [.agg [.int .i64 (.ofNat 7),.int .i64 (.ofNat 0),.int .i64 (.ofNat 1),.int .i64 (.ofNat 31),.int .i64 (.ofNat 0),.int .i64 (.ofNat 0),.int .i64 (.ofNat 0)],.bool false]),
  (129, [.int .i64 (.ofNat 8),.int .u32 (.ofNat 2292186144)], .tup [.agg [.int .i64 (.ofNat 8),.int .i64 (.ofNat 0),.int .i64 (.ofNat 1),.int .i64 (.ofNat 31),.int .i64 (.ofNat 0),.int .i64 (.ofNat 0),.int .i64 (.ofNat 0)],.bool false]),
  (129, [.int .i64 (.ofNat 9),.int .u32 (.ofNat 2292186144)], .tup [.agg [.int .i64 (.ofNat 9),.int .i64 (.ofNat 0),.int .i64 (.ofNat 1),.int .i64 (.ofNat 31),.int .i64 (.ofNat 0),.int .i64 (.ofNat 0),.int .i64 (.ofNat 0)],.bool false]),
  (129, [.int .i64 (.ofNat 10),.int .u32 (.ofNat 2292186144)], .tup [.agg [.int .i64 (.ofNat 10),.int .i64 (.ofNat 0),.int .i64 (.ofNat 1),.int .i64 (.ofNat 31),.int .i64 (.ofNat 0),.int .i64 (.ofNat 0),.int .i64 (.ofNat 0)],.bool false]),
  (129, [.int .i64 (.ofNat 11),.int .u32 (.ofNat 2292186144)], .tup [.agg [.int .i64 (.ofNat 11),.int .i64 (.ofNat 0),.int .i64 (.ofNat 1),.int .i64 (.ofNat 31),.int .i64 (.ofNat 0),.int .i64 (.ofNat 0),.int .i64 (.ofNat 0)],.bool false]),
  (129, [.int .i64 (.ofNat 12),.int .u32 (.ofNat 2292186144)], .tup [.agg [.int .i64 (.ofNat 12),.int .i64 (.ofNat 0),.int .i64 (.ofNat 0),.int .i64 (.ofNat 0),.int .i64 (.ofNat 2),.int .i64 (.ofNat 0),.int .i64 (.ofNat 0)],.bool false]),
  (129, [.int .i64 (.ofNat 13),.int .u32 (.ofNat 2292186144)], .tup [.agg [.int .i64 (.ofNat 13),.int .i64 (.ofNat 0),.int .i64 (.ofNat 0),.int .i64 (.ofNat 0),.int .i64 (.ofNat 0),.int .i64 (.ofNat 0),.int .i64 (.ofNat 10484768)],.bool false]),
  (129, [.int .i64 (.ofNat 14),.int .u32 (.ofNat 2292186144)], .tup [.agg [.int .i64 (.ofNat 14),.int .i64 (.ofNat 0),.int .i64 (.ofNat 0),.int .i64 (.ofNat 0),.int .i64 (.ofNat 0),.int .i64 (.ofNat 0),.int .i64 (.negSucc 196638)],.bool false]),
  (129, [.int .i64 (.ofNat 15),.int .u32 (.ofNat 2292186144)], .tup [.agg [.int .i64 (.ofNat 15),.int .i64 (.ofNat 0),.int .i64 (.ofNat 0),.int .i64 (.ofNat 0),.int .i64 (.ofNat 0),.int .i64 (.ofNat 0),.int .i64 (.negSucc 196638)],.bool false]),
  (129, [.int .i64 (.ofNat 16),.int .u32 (.ofNat 2292186144)], .tup [.agg [.int .i64 (.ofNat 16),.int .i64 (.ofNat 0),.int .i64 (.ofNat 0),.int .i64 (.ofNat 0),.int .i64 (.ofNat 0),.int .i64 (.ofNat 0),.int .i64 (.negSucc 196638)],.bool false]),
  (129, [.int .i64 (.ofNat 1),.int .u32 (.ofNat 3556769793)], .tup [.agg [.int .i64 (.ofNat 1),.int .i64 (.ofNat 1),.int .i64 (.ofNat 0),.int .i64 (.ofNat 0),.int .i64 (.ofNat 0),.int .i64 (.ofNat 0),.int .i64 (.ofNat 0)],.bool false]),
  (129, [.int .i64 (.ofNat 2),.int .u32 (.ofNat 3556769793)], .tup [.agg [.int .i64 (.ofNat 2),.int .i64 (.ofNat 1),.int .i64 (.ofNat 0),.int .i64 (.ofNat 0),.int .i64 (.ofNat 0),.int .i64 (.ofNat 0),.int .i64 (.ofNat 0)],.bool false]),
  (129, [.int .i64 (.ofNat 3),.int .u32 (.ofNat 3556769793)], RbM25v79),
  (129, [.int .i64 (.ofNat 4),.int .u32 (.ofNat 3556769793)], RbM25v80),
  (129, [.int .i64 (.ofNat 5),.int .u32 (.ofNat 3556769793)], RbM25v81),
  (129, [.int .i64 (.ofNat 6),.int .u32 (.ofNat 3556769793)], RbM25v82),
  (129, [.int .i64 (.ofNat 7),.int .u32 (.ofNat 3556769793)], RbM25v83),
  (129, [.int .i64 (.ofNat 8),.int .u32 (.ofNat 3556769793)], RbM25v84),
  (129, [.int .i64 (.ofNat 9),.int .u32 (.ofNat 3556769793)], RbM25v85),
  (129, [.int .i64 (.ofNat 10),.int .u32 (.ofNat 3556769793)], RbM25v86),
  (129, [.int .i64 (.ofNat 11),.int .u32 (.ofNat 3556769793)], RbM25v87),
  (129, [.int .i64 (.ofNat 12),.int .u32 (.ofNat 3556769793)], RbM25v88),
  (129, [.int .i64 (.ofNat 13),.int .u32 (.ofNat 3556769793)], .tup [.agg [.int .i64 (.ofNat 13),.int .i64 (.ofNat 0),.int .i64 (.ofNat 0),.int .i64 (.ofNat 0),.int .i64 (.ofNat 0),.int .i64 (.ofNat 0),.int .i64 (.ofNat 1)],.bool false]),
  (129, [.int .i64 (.ofNat 14),.int .u32 (.ofNat 3556769793)], .tup [.agg [.int .i64 (.ofNat 14),.int .i64 (.ofNat 0),.int .i64 (.ofNat 0),.int .i64 (.ofNat 0),.int .i64 (.ofNat 1),.int .i64 (.ofNat 0),.int .i64 (.ofNat 0)],.bool false]),
  (129, [.int .i64 (.ofNat 15),.int .u32 (.ofNat 3556769793)], .tup [.agg [.int .i64 (.ofNat 15),.int .i64 (.ofNat 1),.int .i64 (.ofNat 0),.int .i64 (.ofNat 0),.int .i64 (.ofNat 0),.int .i64 (.ofNat 0),.int .i64 (.ofNat 0)],.bool false]),
  (129, [.int .i64 (.ofNat 16),.int .u32 (.ofNat 3556769793)], .tup [.agg [.int .i64 (.ofNat 16),.int .i64 (.ofNat 1),.int .i64 (.ofNat 0),.int .i64 (.ofNat 0),.int .i64 (.ofNat 0),.int .i64 (.ofNat 0),.int .i64 (.ofNat 0)],.bool false]),
  (123, [.int .i64 (.ofNat 21)], .agg [.int .u32 (.ofNat 140475392),.str [100,97,115]]),
  (123, [.int .i64 (.ofNat 22)], .agg [.int .u32 (.ofNat 140508160),.str [100,97,115]]),
  (123, [.int .i64 (.ofNat 23)], .agg [.int .u32 (.ofNat 134249472),.str [100,97,115,109]]),
  (123, [.int .i64 (.ofNat 24)], .agg [.int .u32 (.ofNat 134282240),.str [100,97,115,109]]),
  (123, [.int .i64 (.ofNat 25)], .agg [.int .u32 (.ofNat 3363766272),.str [100,97,101]]),
  (123, [.int .i64 (.ofNat 26)], .agg [.int .u32 (.ofNat 3363799040),.str [100,97,101]]),
  (123, [.int .i64 (.ofNat 27)], .agg [.int .u32 (.ofNat 3357540352),.str [100,97,101,109]]),
  (123, [.int .i64 (.ofNat 28)], .agg [.int .u32 (.ofNat 3357573120),.str [100,97,101,109]]),
  (129, [.int .i64 (.ofNat 29),.int .u32 (.ofNat 3556769793)], RbM25v89),
  (129, [.int .i64 (.ofNat 30),.int .u32 (.ofNat 3556769793)], RbM25v90),
  (129, [.int .i64 (.ofNat 31),.int .u32 (.ofNat 3556769793)], .tup [RbM25v57,.bool true]),
  (129, [.int .i64 (.ofNat 1),.int .u32 (.ofNat 3531637276)], .tup [RbM25v58,.bool true]),
  (129, [.int .i64 (.ofNat 1),.int .u32 (.ofNat 3531604096)], .tup [RbM25v59,.bool true]),
  (129, [.int .i64 (.ofNat 1),.int .u32 (.ofNat 4070572064)], .tup [RbM25v62,.bool false]),
  (129, [.int .i64 (.ofNat 2),.int .u32 (.ofNat 4070572064)], .tup [RbM25v60,.bool true]),
  (129, [.int .i64 (.ofNat 1),.int .u32 (.ofNat 2296380417)], .tup [.agg [.int .i64 (.ofNat 1),.int .i64 (.ofNat 1),.int .i64 (.ofNat 0),.int .i64 (.ofNat 0),.int .i64 (.ofNat 2),.int .i64 (.ofNat 0),.int .i64 (.ofNat 65504)],.bool false]),
  (129, [.int .i64 (.ofNat 2),.int .u32 (.ofNat 2296380417)], .tup [.agg [.int .i64 (.ofNat 2),.int .i64 (.ofNat 1),.int .i64 (.ofNat 0),.int .i64 (.ofNat 0),.int .i64 (.ofNat 2),.int .i64 (.ofNat 0),.int .i64 (.ofNat 65504)],.bool false]),
  (129, [.int .i64 (.ofNat 3),.int .u32 (.ofNat 2296380417)], .tup [.agg [.int .i64 (.ofNat 3),.int .i64 (.ofNat 1),.int .i64 (.ofNat 0),.int .i64 (.ofNat 31),.int .i64 (.ofNat 0),.int .i64 (.ofNat 0),.int .i64 (.ofNat 0)],.bool false]),
  (129, [.int .i64 (.ofNat 4),.int .u32 (.ofNat 2296380417)], .tup [.agg [.int .i64 (.ofNat 4),.int .i64 (.ofNat 1),.int .i64 (.ofNat 0),.int .i64 (.ofNat 31),.int .i64 (.ofNat 0),.int .i64 (.ofNat 0),.int .i64 (.ofNat 0)],.bool false]),
  (129, [.int .i64 (.ofNat 5),.int .u32 (.ofNat 2296380417)], .tup [.agg [.int .i64 (.ofNat 5),.int .i64 (.ofNat 1),.int .i64 (.ofNat 0),.int .i64 (.ofNat 31),.int .i64 (.ofNat 0),.int .i64 (.ofNat 0),.int .i64 (.ofNat 0)],.bool false]),
  (129, [.int .i64 (.ofNat 6),.int .u32 (.ofNat 2296380417)], .tup [.agg [.int .i64 (.ofNat 6),.int .i64 (.ofNat 1),.int .i64 (.ofNat 0),.int .i64 (.ofNat 31),.int .i64 (.ofNat 0),.int .i64 (.ofNat 0),.int .i64 (.ofNat 0)],.bool false]),
  (129, [.int .i64 (.ofNat 7),.int .u32 (.ofNat 2296380417)], .tup [.agg [.int .i64 (.ofNat 7),.int .i64 (.ofNat 1),.int .i64 (.ofNat 0),.int .i64 (.ofNat 31),.int .i64 (.ofNat 0),.int .i64 (.ofNat 0),.int .i64 (.ofNat 0)],.bool false]),
  (129, [.int .i64 (.ofNat 8),.int .u32 (.ofNat 2296380417)], .tup [.agg [.int .i64 (.ofNat 8),.int .i64 (.ofNat 1),.int .i64 (.ofNat 0),.int .i64 (.ofNat 31),.int .i64 (.ofNat 0),.int .i64 (.ofNat 0),.int .i64 (.ofNat 0)],.bool false]),
  (129, [.int .i64 (.ofNat 9),.int .u32 (.ofNat 2296380417)], .tup [.agg [.int .i64 (.ofNat 9),.int .i64 (.ofNat 1),.int .i64 (.ofNat 0),.int .i64 (.ofNat 31),.int .i64 (.ofNat 0),.int .i64 (.ofNat 0),.int .i64 (.ofNat 0)],.bool false]),
  (129, [.int .i64 (.ofNat 10),.int .u32 (.ofNat 2296380417)], .tup [.agg [.int .i64 (.ofNat 10),.int .i64 (.ofNat 1),.int .i64 (.ofNat 0),.int .i64 (.ofNat 31),.int .i64 (.ofNat 0),.int .i64 (.ofNat 0),.int .i64 (.ofNat 0)],.bool false]),
  (129, [.int .i64 (.ofNat 11),.int .u32 (.ofNat 2296380417)], .tup [.agg [.int .i64 (.ofNat 11),.int .i64 (.ofNat 1),.int .i64 (.ofNat 0),.int .i64 (.ofNat 31),.int .i64 (.ofNat 0),.int .i64 (.ofNat 0),.int .i64 (.ofNat 0)],.bool false]),
  (129, [.int .i64 (.ofNat 12),.int .u32 (.ofNat 2296380417)], .tup [.agg [.int .i64 (.ofNat 12),.int .i64 (.ofNat 1),.int .i64 (.ofNat 0),.int .i64 (.ofNat 0),.int .i64 (.ofNat 2),.int .i64 (.ofNat 0),.int .i64 (.ofNat 0)],.bool false]),
  (129, [.int .i64 (.ofNat 13),.int .u32 (.ofNat 2296380417)], .tup [.agg [.int .i64 (.ofNat 13),.int .i64 (.ofNat 0),.int .i64 (.ofNat 0),.int .i64 (.ofNat 0),.int .i64 (.ofNat 0),.int .i64 (.ofNat 0),.int .i64 (.ofNat 14679041)],.bool false]),
  (129, [.int .i64 (.ofNat 14),.int .u32 (.ofNat 2296380417)], .tup [.agg [.int .i64 (.ofNat 14),.int .i64 (.ofNat 0),.int .i64 (.ofNat 0),.int .i64 (.ofNat 0),.int .i64 (.ofNat 1),.int .i64 (.ofNat 0),.int .i64 (.negSucc 65567)],.bool false]),
  (129, [.int .i64 (.ofNat 15),.int .u32 (.ofNat 2296380417)], .tup [.agg [.int .i64 (.ofNat 15),.int .i64 (.ofNat 1),.int .i64 (.ofNat 0),.int .i64 (.ofNat 0),.int .i64 (.ofNat 0),.int .i64 (.ofNat 0),.int .i64 (.negSucc 65567)],.bool false]),
  (129, [.int .i64 (.ofNat 16),.int .u32 (.ofNat 2296380417)], .tup [.agg [.int .i64 (.ofNat 16),.int .i64 (.ofNat 1),.int .i64 (.ofNat 0),.int .i64 (.ofNat 0),.int .i64 (.ofNat 0),.int .i64 (.ofNat 0),.int .i64 (.negSucc 65567)],.bool false]),
  (129, [.int .i64 (.ofNat 1),.int .u32 (.ofNat 2852193248)], .tup [.agg [.int .i64 (.ofNat 1),.int .i64 (.ofNat 0),.int .i64 (.ofNat 0),.int .i64 (.ofNat 0),.int .i64 (.ofNat 0),.int .i64 (.ofNat 0),.int .i64 (.ofNat 2079)],.bool false]),
  (129, [.int .i64 (.ofNat 2),.int .u32 (.ofNat 2852193248)], .tup [.agg [.int .i64 (.ofNat 2),.int .i64 (.ofNat 0),.int .i64 (.ofNat 0),.int .i64 (.ofNat 0),.int .i64 (.ofNat 0),.int .i64 (.ofNat 0),.int .i64 (.ofNat 2079)],.bool false]),
  (129, [.int .i64 (.ofNat 3),.int .u32 (.ofNat 2852193248)], .tup [.agg [.int .i64 (.ofNat 3),.int .i64 (.ofNat 0),.int .i64 (.ofNat 31),.int .i64 (.ofNat 1),.int .i64 (.ofNat 0),.int .i64 (.ofNat 0),.int .i64 (.ofNat 0)],.bool false]),
  (129, [.int .i64 (.ofNat 4),.int .u32 (.ofNat 2852193248)], .tup [.agg [.int .i64 (.ofNat 4),.int .i64 (.ofNat 0),.int .i64 (.ofNat 31),.int .i64 (.ofNat 1),.int .i64 (.ofNat 0),.int .i64 (.ofNat 0),.int .i64 (.ofNat 0)],.bool false]),
  (129, [.int .i64 (.ofNat 5),.int .u32 (.ofNat 2852193248)], .tup [.agg [.int .i64 (.ofNat 5),.int .i64 (.ofNat 0),.int .i64 (.ofNat 31),.int .i64 (.ofNat 1),.int .i64 (.ofNat 0),.int .i64 (.ofNat 0),.int .i64 (.ofNat 0)],.bool false]),
  (129, [.int .i64 (.ofNat 6),.int .u32 (.ofNat 2852193248)], .tup [.agg [.int .i64 (.ofNat 6),.int .i64 (.ofNat 0),.int .i64 (.ofNat 31),.int .i64 (.ofNat 1),.int .i64 (.ofNat 0),.int .i64 (.ofNat 0),.int .i64 (.ofNat 0)],.bool false]),
  (129, [.int .i64 (.ofNat 7),.int .u32 (.ofNat 2852193248)], .tup [RbM25v61,.bool true]),
  (129, [.int .i64 (.ofNat 1),.int .u32 (.ofNat 3533701152)], .tup [RbM25v62,.bool true]),
  (129, [.int .i64 (.ofNat 1),.int .u32 (.ofNat 3107979265)], .tup [.agg [.int .i64 (.ofNat 1),.int .i64 (.ofNat 1),.int .i64 (.ofNat 0),.int .i64 (.ofNat 0),.int .i64 (.ofNat 2),.int .i64 (.ofNat 0),.int .i64 (.ofNat 0)],.bool false]),
  (129, [.int .i64 (.ofNat 2),.int .u32 (.ofNat 3107979265)], .tup [.agg [.int .i64 (.ofNat 2),.int .i64 (.ofNat 1),.int .i64 (.ofNat 0),.int .i64 (.ofNat 0),.int .i64 (.ofNat 2),.int .i64 (.ofNat 0),.int .i64 (.ofNat 0)],.bool false]),
  (129, [.int .i64 (.ofNat 3),.int .u32 (.ofNat 3107979265)], RbM25v79),
  (129, [.int .i64 (.ofNat 4),.int .u32 (.ofNat 3107979265)], RbM25v80),
  (129, [.int .i64 (.ofNat 5),.int .u32 (.ofNat 3107979265)], RbM25v81),
  (129, [.int .i64 (.ofNat 6),.int .u32 (.ofNat 3107979265)], RbM25v82),
  (129, [.int .i64 (.ofNat 7),.int .u32 (.ofNat 3107979265)], RbM25v83),
  (129, [.int .i64 (.ofNat 8),.int .u32 (.ofNat 3107979265)], RbM25v84),
  (129, [.int .i64 (.ofNat 9),.int .u32 (.ofNat 3107979265)], RbM25v85),
  (129, [.int .i64 (.ofNat 10),.int .u32 (.ofNat 3107979265)], RbM25v86),
  (129, [.int .i64 (.ofNat 11),.int .u32 (.ofNat 3107979265)], RbM25v87),
  (129, [.int .i64 (.ofNat 12),.int .u32 (.ofNat 3107979265)], RbM25v88),
  (129, [.int .i64 (.ofNat 13),.int .u32 (.ofNat 3107979265)], .tup [.agg [.int .i64 (.ofNat 13),.int .i64 (.ofNat 0),.int .i64 (.ofNat 0),.int .i64 (.ofNat 0),.int .i64 (.ofNat 0),.int .i64 (.ofNat 0),.int .i64 (.ofNat 20971521)],.bool false]),
  (129, [.int .i64 (.ofNat 14),.int .u32 (.ofNat 3107979265)], .tup [.agg [.int .i64 (.ofNat 14),.int .i64 (.ofNat 0),.int .i64 (.ofNat 0),.int .i64 (.ofNat 0),.int .i64 (.ofNat 1),.int .i64 (.ofNat 0),.int .i64 (.ofNat 131072)],.bool false]),
  (129, [.int .i64 (.ofNat 15),.int .u32 (.ofNat 3107979265)], .tup [.agg [.int .i64 (.ofNat 15),.int .i64 (.ofNat 1),.int .i64 (.ofNat 0),.int .i64 (.ofNat 0),.int .i64 (.ofNat 0),.int .i64 (.ofNat 0),.int .i64 (.ofNat 131072)],.bool false]),
  (129, [.int .i64 (.ofNat 16),.int .u32 (.ofNat 3107979265)], .tup [.agg [.int .i64 (.ofNat 16),.int .i64 (.ofNat 1),.int .i64 (.ofNat 0),.int .i64 (.ofNat 0),.int .i64 (.ofNat 0),.int .i64 (.ofNat 0),.int .i64 (.ofNat 131072)],.bool false]),
  (129, [.int .i64 (.ofNat 1),.int .u32 (.ofNat 3556769857)], .tup [.agg [.int .i64 (.ofNat 1),.int .i64 (.ofNat 1),.int .i64 (.ofNat 0),.int .i64 (.ofNat 0),.int .i64 (.ofNat 0),.int .i64 (.ofNat 0),.int .i64 (.ofNat 2)],.bool false]),
  (129, [.int .i64 (.ofNat 2),.int .u32 (.ofNat 3556769857)], .tup [.agg [.int .i64 (.ofNat 2),.int .i64 (.ofNat 1),.int .i64 (.ofNat 0),.int .i64 (.ofNat 0),.int .i64 (.ofNat 0),.int .i64 (.ofNat 0),.int .i64 (.ofNat 2)],.bool false]),
  (129, [.int .i64 (.ofNat 3),.int .u32 (.ofNat 3556769857)], .tup [.agg [.int .i64 (.ofNat 3),.int .i64 (.ofNat 1),.int .i64 (.ofNat 2),.int .i64 (.ofNat 0),.int .i64 (.ofNat 0),.int .i64 (.ofNat 0),.int .i64 (.ofNat 0)],.bool false]),
  (129, [.int .i64 (.ofNat 4),.int .u32 (.ofNat 3556769857)], .tup [.agg [.int .i64 (.ofNat 4),.int .i64 (.ofNat 1),.int .i64 (.ofNat 2),.int .i64 (.ofNat 0),.int .i64 (.ofNat 0),.int .i64 (.ofNat 0),.int .i64 (.ofNat 0)],.bool false]),
  (129, [.int .i64 (.ofNat 5),.int .u32 (.ofNat 3556769857)], .tup [.agg [.int .i64 (.ofNat 5),.int .i64 (.ofNat 1),.int .i64 (.ofNat 2),.int .i64 (.ofNat 0),.int .i64 (.ofNat 0),.int .i64 (.ofNat 0),.int .i64 (.ofNat 0)],.bool false]),
  (129, [.int .i64 (.ofNat 6),.int .u32 (.ofNat 3556769857)], .tup [.agg [.int .i64 (.ofNat 6),.int .i64 (.ofNat 1),.int .i64 (.ofNat 2),.int .i64 (.ofNat 0),.int .i64 (.ofNat 0),.int .i64 (.ofNat 0),.int .i64 (.ofNat 0)],.bool false]),
  (129, [.int .i64 (.ofNat 7),.int .u32 (.ofNat 3556769857)], .tup [.agg [.int .i64 (.ofNat 7),.int .i64 (.ofNat 1),.int .i64 (.ofNat 2),.int .i64 (.ofNat 0),.int .i64 (.ofNat 0),.int .i64 (.ofNat 0),.int .i64 (.ofNat 0)],.bool false]),
  (129, [.int .i64 (.ofNat 8),.int .u32 (.ofNat 3556769857)], .tup [.agg [.int .i64 (.ofNat 8),.int .i64 (.ofNat 1),.int .i64 (.ofNat 2),.int .i64 (.ofNat 0),.int .i64 (.ofNat 0),.int .i64 (.ofNat 0),.int .i64 (.ofNat 0)],.bool false]),
  (129, [.int .i64 (.ofNat 9),.int .u32 (.ofNat 3556769857)], .tup [.agg [.int .i64 (.ofNat 9),.int .i64 (.ofNat 1),.int .i64 (.ofNat 2),.int .i64 (.ofNat 0),.int .i64 (.ofNat 0),.int .i64 (.ofNat 0),.int .i64 (.ofNat 0)],.bool false]),
  (129, [.int .i64 (.ofNat 10),.int .u32 (.ofNat 3556769857)], .tup [.agg [.int .i64 (.ofNat 10),.int .i64 (.ofNat 1),.int .i64 (.ofNat 2),.int .i64 (.ofNat 0),.int .i64 (.ofNat 0),.int .i64 (.ofNat 0),.int .i64 (.ofNat 0)],.bool false]),
  (129, [.int .i64 (.ofNat 11),.int .u32 (.ofNat 3556769857)], .tup [.agg [.int .i64 (.ofNat 11),.int .i64 (.ofNat 1),.int .i64 (.ofNat 2),.int .i64 (.ofNat 0),.int .i64 (.ofNat 0),.int .i64 (.ofNat 0),.int .i64 (.ofNat 0)],.bool false]),
  (129, [.int .i64 (.ofNat 12),.int .u32 (.ofNat 3556769857)], RbM25v88),
  (129, [.int .i64 (.ofNat 13),.int .u32 (.ofNat 3556769857)], .tup [.agg [.int .i64 (.ofNat 13),.int .i64 (.ofNat 0),.int .i64 (.ofNat 0),.int .i64 (.ofNat 0),.int .i64 (.ofNat 0),.int .i64 (.ofNat 0),.int .i64 (.ofNat 65)],.bool false]),
  (129, [.int .i64 (.ofNat 14),.int .u32 (.ofNat 3556769857)], .tup [.agg [.int .i64 (.ofNat 14),.int .i64 (.ofNat 0),.int .i64 (.ofNat 0),.int .i64 (.ofNat 0),.int .i64 (.ofNat 1),.int .i64 (.ofNat 0),.int .i64 (.ofNat 2)],.bool false]),
  (129, [.int .i64 (.ofNat 15),.int .u32 (.ofNat 3556769857)], .tup [.agg [.int .i64 (.ofNat 15),.int .i64 (.ofNat 1),.int .i64 (.ofNat 0),.int .i64 (.ofNat 0),.int .i64 (.ofNat 0),.int .i64 (.ofNat 0),.int .i64 (.ofNat 2)],.bool false]),
  (129, [.int .i64 (.ofNat 16),.int .u32 (.ofNat 3556769857)], .tup [.agg [.int .i64 (.ofNat 16),.int .i64 (.ofNat 1),.int .i64 (.ofNat 0),.int .i64 (.ofNat 0),.int .i64 (.ofNat 0),.int .i64 (.ofNat 0),.int .i64 (.ofNat 2)],.bool false]),
  (129, [.int .i64 (.ofNat 29),.int .u32 (.ofNat 3556769857)], RbM25v89),
  (129, [.int .i64 (.ofNat 30),.int .u32 (.ofNat 3556769857)], RbM25v90),
  (129, [.int .i64 (.ofNat 31),.int .u32 (.ofNat 3556769857)], .tup [RbM25v63,.bool true]),
  (140, [.agg [.int .i64 (.ofNat 65536),.int .i64 (.ofNat 4)],.agg [.int .i64 (.ofNat 65536),.int .i64 (.ofNat 8)]], .bool true),
  (140, [.agg [.int .i64 (.ofNat 65540),.int .i64 (.ofNat 4)],.agg [.int .i64 (.ofNat 65536),.int .i64 (.ofNat 8)]], .bool true),
  (140, [.agg [.int .i64 (.ofNat 65536),.int .i64 (.ofNat 1)],.agg [.int .i64 (.ofNat 65536),.int .i64 (.ofNat 4)]], .bool true),
  (140, [.agg [.int .i64 (.ofNat 65536),.int .i64 (.ofNat 1)],.agg [.int .i64 (.ofNat 65540),.int .i64 (.ofNat 4)]], .bool false),
  (140, [.agg [.int .i64 (.ofNat 65537),.int .i64 (.ofNat 1)],.agg [.int .i64 (.ofNat 65536),.int .i64 (.ofNat 4)]], .bool true),
  (140, [.agg [.int .i64 (.ofNat 65537),.int .i64 (.ofNat 1)],.agg [.int .i64 (.ofNat 65540),.int .i64 (.ofNat 4)]], .bool false),
  (140, [.agg [.int .i64 (.ofNat 65538),.int .i64 (.ofNat 1)],.agg [.int .i64 (.ofNat 65536),.int .i64 (.ofNat 4)]], .bool true),
  (140, [.agg [.int .i64 (.ofNat 65538),.int .i64 (.ofNat 1)],.agg [.int .i64 (.ofNat 65540),.int .i64 (.ofNat 4)]], .bool false),
  (140, [.agg [.int .i64 (.ofNat 65539),.int .i64 (.ofNat 1)],.agg [.int .i64 (.ofNat 65536),.int .i64 (.ofNat 4)]], .bool true),
  (140, [.agg [.int .i64 (.ofNat 65539),.int .i64 (.ofNat 1)],.agg [.int .i64 (.ofNat 65540),.int .i64 (.ofNat 4)]], .bool false),
  (140, [.agg [.int .i64 (.ofNat 65540),.int .i64 (.ofNat 1)],.agg [.int .i64 (.ofNat 65540),.int .i64 (.ofNat 4)]], .bool true),
  (140, [.agg [.int .i64 (.ofNat 65540),.int .i64 (.ofNat 1)],.agg [.int .i64 (.ofNat 65536),.int .i64 (.ofNat 4)]], .bool false),
  (140, [.agg [.int .i64 (.ofNat 65541),.int .i64 (.ofNat 1)],.agg [.int .i64 (.ofNat 65540),.int .i64 (.ofNat 4)]], .bool true),
  (140, [.agg [.int .i64 (.ofNat 65541),.int .i64 (.ofNat 1)],.agg [.int .i64 (.ofNat 65536),.int .i64 (.ofNat 4)]], .bool false),
  (140, [.agg [.int .i64 (.ofNat 65542),.int .i64 (.ofNat 1)],.agg [.int .i64 (.ofNat 65540),.int .i64 (.ofNat 4)]], .bool true),
  (140, [.agg [.int .i64 (.ofNat 65542),.int .i64 (.ofNat 1)],.agg [.int .i64 (.ofNat 65536),.int .i64 (.ofNat 4)]], .bool false),
  (140, [.agg [.int .i64 (.ofNat 65543),.int .i64 (.ofNat 1)],.agg [.int .i64 (.ofNat 65540),.int .i64 (.ofNat 4)]], .bool true),
  (140, [.agg [.int .i64 (.ofNat 65543),.int .i64 (.ofNat 1)],.agg [.int .i64 (.ofNat 65536),.int .i64 (.ofNat 4)]], .bool false),
  (39, [.agg [.int .i64 (.ofNat 65536),.int .i64 (.ofNat 4)],.agg [.int .i64 (.ofNat 65540),.int .i64 (.ofNat 4)]], .bool false),
  (39, [.agg [.int .i64 (.ofNat 65540),.int .i64 (.ofNat 4)],.agg [.int .i64 (.ofNat 65536),.int .i64 (.ofNat 4)]], .bool false),
  (224, [.lst .dead 1 [.int .i64 (.ofNat 0)],.fptr [.int .i64 (.ofNat 0)],.fptr [.int .i64 (.ofNat 1)]], .bool false),
  (224, [.lst .dead 1 [.int .i64 (.ofNat 1)],.fptr [.int .i64 (.ofNat 0)],.fptr [.int .i64 (.ofNat 1)]], .bool false),
  (224, [.lst .dead 1 [.int .i64 (.ofNat 0)],.fptr [.int .i64 (.ofNat 0)],.fptr [.int .i64 (.ofNat 2)]], .bool false),
  (224, [.lst .dead 1 [.int .i64 (.ofNat 1)],.fptr [.int .i64 (.ofNat 0)],.fptr [.int .i64 (.ofNat 2)]], .bool false),
  (224, [.lst .dead 1 [.int .i64 (.ofNat 0)],.fptr [.int .i64 (.ofNat 0)],.fptr [.int .i64 (.ofNat 3)]], .bool false),
  (224, [.lst .dead 1 [.int .i64 (.ofNat 1)],.fptr [.int .i64 (.ofNat 0)],.fptr [.int .i64 (.ofNat 3)]], .bool false),
  (224, [.lst .dead 1 [.int .i64 (.ofNat 0)],.fptr [.int .i64 (.ofNat 1)],.fptr [.int .i64 (.ofNat 0)]], .bool false),
  (224, [.lst .dead 1 [.int .i64 (.ofNat 1)],.fptr [.int .i64 (.ofNat 1)],.fptr [.int .i64 (.ofNat 0)]], .bool false),
  (224, [.lst .dead 1 [.int .i64 (.ofNat 0)],.fptr [.int .i64 (.ofNat 1)],.fptr [.int .i64 (.ofNat 2)]], .bool false),
  (224, [.lst .dead 1 [.int .i64 (.ofNat 1)],.fptr [.int .i64 (.ofNat 1)],.fptr [.int .i64 (.ofNat 2)]], .bool false),
  (224, [.lst .dead 1 [.int .i64 (.ofNat 0)],.fptr [.int .i64 (.ofNat 1)],.fptr [.int .i64 (.ofNat 3)]], .bool false),
  (224, [.lst .dead 1 [.int .i64 (.ofNat 1)],.fptr [.int .i64 (.ofNat 1)],.fptr [.int .i64 (.ofNat 3)]], .bool false),
  (224, [.lst .dead 1 [.int .i64 (.ofNat 0)],.fptr [.int .i64 (.ofNat 2)],.fptr [.int .i64 (.ofNat 0)]], .bool false),
  (224, [.lst .dead 1 [.int .i64 (.ofNat 1)],.fptr [.int .i64 (.ofNat 2)],.fptr [.int .i64 (.ofNat 0)]], .bool false),
  (224, [.lst .dead 1 [.int .i64 (.ofNat 0)],.fptr [.int .i64 (.ofNat 2)],.fptr [.int .i64 (.ofNat 1)]], .bool false),
  (224, [.lst .dead 1 [.int .i64 (.ofNat 1)],.fptr [.int .i64 (.ofNat 2)],.fptr [.int .i64 (.ofNat 1)]], .bool false),
  (224, [.lst .dead 1 [.int .i64 (.ofNat 0)],.fptr [.int .i64 (.ofNat 2)],.fptr [.int .i64 (.ofNat 3)]], .bool false),
  (224, [.lst .dead 1 [.int .i64 (.ofNat 1)],.fptr [.int .i64 (.ofNat 2)],.fptr [.int .i64 (.ofNat 3)]], .bool false),
  (224, [.lst .dead 1 [.int .i64 (.ofNat 0)],.fptr [.int .i64 (.ofNat 3)],.fptr [.int .i64 (.ofNat 0)]], .bool false),
  (224, [.lst .dead 1 [.int .i64 (.ofNat 1)],.fptr [.int .i64 (.ofNat 3)],.fptr [.int .i64 (.ofNat 0)]], .bool false),
  (224, [.lst .dead 1 [.int .i64 (.ofNat 0)],.fptr [.int .i64 (.ofNat 3)],.fptr [.int .i64 (.ofNat 1)]], .bool false),
  (224, [.lst .dead 1 [.int .i64 (.ofNat 1)],.fptr [.int .i64 (.ofNat 3)],.fptr [.int .i64 (.ofNat 1)]], .bool false),
  (224, [.lst .dead 1 [.int .i64 (.ofNat 0)],.fptr [.int .i64 (.ofNat 3)],.fptr [.int .i64 (.ofNat 2)]], .bool false),
  (224, [.lst .dead 1 [.int .i64 (.ofNat 1)],.fptr [.int .i64 (.ofNat 3)],.fptr [.int .i64 (.ofNat 2)]], .bool false),
  (90, [.str [118,97,114,32,120,32,117,56,32,59,32,116,104,114,101,97,100,32,123,32,119,114,105,116,101,32,120,32,61,32,55,32,59,32,125]], .tup [.lst .dead 12 [.str [118,97,114],.int .i64 (.ofNat 1),.str [120],.int .i64 (.ofNat 1),.str [117,56],.int .i64 (.ofNat 1),.str [59],.int .i64 (.ofNat 1),.str [116,104,114,101,97,100],.int .i64 (.ofNat 1),.str [123],.int .i64 (.ofNat 1),.str [119,114,105,116,101],.int .i64 (.ofNat 1),.str [120],.int .i64 (.ofNat 1),.str [61],.int .i64 (.ofNat 1),.str [55],.int .i64 (.ofNat 1),.str [59],.int .i64 (.ofNat 1),.str [125],.int .i64 (.ofNat 1)],.agg [.int .i64 (.ofNat 0),.int .i64 (.ofNat 0)]]),
  (191, [RbM25v30], .int .i64 (.ofNat 0)),
  (192, [RbM25v30], .bool false),
  (57, [RbM25v49], .tup [.int .u32 (.ofNat 3531604192),.int .i64 (.ofNat 0)]),
  (129, [.int .i64 (.ofNat 1),.int .u32 (.ofNat 956301344)], .tup [RbM25v53,.bool false]),
  (129, [.int .i64 (.ofNat 2),.int .u32 (.ofNat 956301344)], RbM25v64),
  (129, [.int .i64 (.ofNat 3),.int .u32 (.ofNat 956301344)], RbM25v65),
  (129, [.int .i64 (.ofNat 4),.int .u32 (.ofNat 956301344)], RbM25v66),
  (129, [.int .i64 (.ofNat 5),.int .u32 (.ofNat 956301344)], RbM25v67),
  (129, [.int .i64 (.ofNat 6),.int .u32 (.ofNat 956301344)], RbM25v68),
  (129, [.int .i64 (.ofNat 7),.int .u32 (.ofNat 956301344)], RbM25v69)]
theorem RbM252_run : forced (allW (runG RbM25T1) RbM252) = true := by kernel_rfl
def RbM25T2 : List (Nat × List AV × AV) := RbM252 ++ RbM25T1
theorem RbM252_ok : MemoOK (ACall C) (memL RbM25T2) := memL_appW gtC (runG_ok RbM251_ok) RbM251_ok (of_forced RbM252_run)
def RbM253 : List (Nat × List AV × AV) := [
  (129, [.int .i64 (.ofNat 8),.int .u32 (.ofNat 956301344)], RbM25v70),
  (129, [.int .i64 (.ofNat 9),.int .u32 (.ofNat 956301344)], RbM25v71),
  (129, [.int .i64 (.ofNat 10),.int .u32 (.ofNat 956301344)], RbM25v72),
  (129, [.int .i64 (.ofNat 11),.int .u32 (.ofNat 956301344)], RbM25v73),
  (129, [.int .i64 (.ofNat 12),.int .u32 (.ofNat 956301344)], RbM25v74),
  (129, [.int .i64 (.ofNat 13),.int .u32 (.ofNat 956301344)], RbM25v75),
  (129, [.int .i64 (.ofNat 14),.int .u32 (.ofNat 956301344)], RbM25v76),
  (129, [.int .i64 (.ofNat 15),.int .u32 (.ofNat 956301344)], RbM25v77),
  (129, [.int .i64 (.ofNat 16),.int .u32 (.ofNat 956301344)], RbM25v78),
  (140, [.agg [.int .i64 (.ofNat 65536),.int .i64 (.ofNat 1)],.agg [.int .i64 (.ofNat 65536),.int .i64 (.ofNat 1040)]], .bool true),
  (90, [.str [118,97,114,32,120,32,117,51,50,32,59,32,118,97,114,32,102,32,97,51,50,32,59,32,116,104,114,101,97,100,32,123,32,119,114,105,116,101,32,120,32,61,32,49,32,59,32,115,116,111,114,101,32,114,101,108,32,102,32,61,32,49,32,59,32,125,32,116,104,114,101,97,100,32,123,32,108,101,116,32,97,32,61,32,108,111,97,100,32,97,99,113,32,102,32,59,32,112,114,105,110,116,32,114,101,97,100,32,120,32,59,32,125]], .tup [.lst .dead 36 [.str [118,97,114],.int .i64 (.ofNat 1),.str [120],.int .i64 (.ofNat 1),.str [117,51,50],.int .i64 (.ofNat 1),.str [59],.int .i64 (.ofNat 1),.str [118,97,114],.int .i64 (.ofNat 1),.str [102],.int .i64 (.ofNat 1),.str [97,51,50],.int .i64 (.ofNat 1),.str [59],.int .i64 (.ofNat 1),.str [116,104,114,101,97,100],.int .i64 (.ofNat 1),.str [123],.int .i64 (.ofNat 1),.str [119,114,105,116,101],.int .i64 (.ofNat 1),.str [120],.int .i64 (.ofNat 1),.str [61],.int .i64 (.ofNat 1),.str [49],.int .i64 (.ofNat 1),.str [59],.int .i64 (.ofNat 1),.str [115,116,111,114,101],.int .i64 (.ofNat 1),.str [114,101,108],.int .i64 (.ofNat 1),.str [102],.int .i64 (.ofNat 1),.str [61],.int .i64 (.ofNat 1),.str [49],.int .i64 (.ofNat 1),.str [59],.int .i64 (.ofNat 1),.str [125],.int .i64 (.ofNat 1),.str [116,104,114,101,97,100],.int .i64 (.ofNat 1),.str [123],.int .i64 (.ofNat 1),.str [108,101,116],.int .i64 (.ofNat 1),.str [97],.int .i64 (.ofNat 1),.str [61],.int .i64 (.ofNat 1),.str [108,111,97,100],.int .i64 (.ofNat 1),.str [97,99,113],.int .i64 (.ofNat 1),.str [102],.int .i64 (.ofNat 1),.str [59],.int .i64 (.ofNat 1),.str [112,114,105,110,116],.int .i64 (.ofNat 1),.str [114,101,97,100],.int .i64 (.ofNat 1),.str [120],.int .i64 (.ofNat 1),.str [59],.int .i64 (.ofNat 1),.str [125],.int .i64 (.ofNat 1)],.agg [.int .i64 (.ofNat 0),.int .i64 (.ofNat 0)]])]
theorem RbM253_run : forced (allW (runG RbM25T2) RbM253) = true := by kernel_rfl
def RbM25T3 : List (Nat × List AV × AV) := RbM253 ++ RbM25T2
theorem RbM253_ok : MemoOK (ACall C) (memL RbM25T3) := memL_appW gtC (runG_ok RbM252_ok) RbM252_ok (of_forced RbM253_run)
def RbM25v91 : AV := .agg [RbM25v6,.lst .dead 2 [.lst .dead 2 [.int .i64 (.ofNat 3),.int .i64 (.ofNat 1),.str [],.str [],.int .i64 (.ofNat 0),.str [120],.lst .dead 0 [],RbM25v45,.lst .dead 0 [],.lst .dead 0 [],.int .i64 (.ofNat 4),.int .i64 (.ofNat 1),.str [],.str [],.int .i64 (.ofNat 4),.str [102],.lst .dead 0 [],RbM25v45,.lst .dead 0 [],.lst .dead 0 []],.lst .dead 2 [.int .i64 (.ofNat 1),.int .i64 (.ofNat 1),.str [97],.str [],.int .i64 (.ofNat 0),.str [],.lst .dead 0 [],RbM25v46,.lst .dead 0 [],.lst .dead 0 [],.int .i64 (.ofNat 10),.int .i64 (.ofNat 1),.str [],.str [],.int .i64 (.ofNat 0),.str [],.lst .dead 0 [],RbM25v47,.lst .dead 0 [],.lst .dead 0 []]]]
def RbM25v92 : AV := .tup [.agg [.int .i64 (.ofNat 4),.int .i64 (.ofNat 4)],.int .i64 (.ofNat 0)]
def RbM25v93 : AV := .agg [.int .i64 (.ofNat 18),.int .i64 (.ofNat 0),.int .i64 (.ofNat 1),.int .i64 (.ofNat 0),.int .i64 (.ofNat 0),.int .i64 (.ofNat 2),.int .i64 (.ofNat 0)]
def RbM25v94 : AV := .agg [.int .i64 (.ofNat 20),.int .i64 (.ofNat 0),.int .i64 (.ofNat 1),.int .i64 (.ofNat 0),.int .i64 (.ofNat 0),.int .i64 (.ofNat 2),.int .i64 (.ofNat 0)]
def RbM25v95 : AV := .agg [.int .i64 (.ofNat 19),.int .i64 (.ofNat 1),.int .i64 (.ofNat 0),.int .i64 (.ofNat 0),.int .i64 (.ofNat 0),.int .i64 (.ofNat 2),.int .i64 (.ofNat 0)]
def RbM25v96 : AV := .agg [.int .i64 (.ofNat 17),.int .i64 (.ofNat 1),.int .i64 (.ofNat 0),.int .i64 (.ofNat 0),.int .i64 (.ofNat 0),.int .i64 (.ofNat 2),.int .i64 (.ofNat 0)]
def RbM25v97 : AV := .agg [.int .u64 (.ofNat 1),.int .u64 (.ofNat 65536),.int .u64 (.ofNat 0),.int .u64 (.ofNat 0),.int .u64 (.ofNat 0),.int .u64 (.ofNat 0),.int .u64 (.ofNat 0),.int .u64 (.ofNat 0),.int .u64 (.ofNat 0),.int .u64 (.ofNat 0),.int .u64 (.ofNat 0),.int .u64 (.ofNat 0),.int .u64 (.ofNat 0),.int .u64 (.ofNat 0),.int .u64 (.ofNat 0),.int .u64 (.ofNat 0),.int .u64 (.ofNat 0),.int .u64 (.ofNat 0),.int .u64 (.ofNat 0),.int .u64 (.ofNat 0),.int .u64 (.ofNat 0),.int .u64 (.ofNat 0),.int .u64 (.ofNat 0),.int .u64 (.ofNat 0),.int .u64 (.ofNat 0),.int .u64 (.ofNat 0),.int .u64 (.ofNat 0),.int .u64 (.ofNat 0),.int .u64 (.ofNat 65552),.int .u64 (.ofNat 0),.int .u64 (.ofNat 0),.int .i64 (.ofNat 6),.bool false,.bool false,.int .i64 (.ofNat 0),.int .i64 (.ofNat 0)]
def RbM25v98 : AV := .agg [.int .u64 (.ofNat 1),.int .u64 (.ofNat 4),.int .u64 (.ofNat 0),.int .u64 (.ofNat 0),.int .u64 (.ofNat 0),.int .u64 (.ofNat 0),.int .u64 (.ofNat 0),.int .u64 (.ofNat 0),.int .u64 (.ofNat 0),.int .u64 (.ofNat 0),.int .u64 (.ofNat 0),.int .u64 (.ofNat 0),.int .u64 (.ofNat 0),.int .u64 (.ofNat 0),.int .u64 (.ofNat 0),.int .u64 (.ofNat 0),.int .u64 (.ofNat 0),.int .u64 (.ofNat 0),.int .u64 (.ofNat 0),.int .u64 (.ofNat 0),.int .u64 (.ofNat 0),.int .u64 (.ofNat 0),.int .u64 (.ofNat 0),.int .u64 (.ofNat 0),.int .u64 (.ofNat 0),.int .u64 (.ofNat 0),.int .u64 (.ofNat 0),.int .u64 (.ofNat 0),.int .u64 (.ofNat 65552),.int .u64 (.ofNat 0),.int .u64 (.ofNat 0),.int .i64 (.ofNat 7),.bool false,.bool false,.int .i64 (.ofNat 0),.int .i64 (.ofNat 0)]
def RbM25v99 : AV := .agg [.int .u64 (.ofNat 1),.int .u64 (.ofNat 65540),.int .u64 (.ofNat 0),.int .u64 (.ofNat 0),.int .u64 (.ofNat 0),.int .u64 (.ofNat 0),.int .u64 (.ofNat 0),.int .u64 (.ofNat 0),.int .u64 (.ofNat 0),.int .u64 (.ofNat 0),.int .u64 (.ofNat 0),.int .u64 (.ofNat 0),.int .u64 (.ofNat 0),.int .u64 (.ofNat 0),.int .u64 (.ofNat 0),.int .u64 (.ofNat 0),.int .u64 (.ofNat 0),.int .u64 (.ofNat 0),.int .u64 (.ofNat 0),.int .u64 (.ofNat 0),.int .u64 (.ofNat 0),.int .u64 (.ofNat 0),.int .u64 (.ofNat 0),.int .u64 (.ofNat 0),.int .u64 (.ofNat 0),.int .u64 (.ofNat 0),.int .u64 (.ofNat 0),.int .u64 (.ofNat 0),.int .u64 (.ofNat 65552),.int .u64 (.ofNat 0),.int .u64 (.ofNat 0),.int .i64 (.ofNat 8),.bool false,.bool false,.int .i64 (.ofNat 0),.int .i64 (.ofNat 0)]
def RbM25v100 : AV := .agg [.int .u64 (.ofNat 0),.int .u64 (.ofNat 0),.int .u64 (.ofNat 0),.int .u64 (.ofNat 0),.int .u64 (.ofNat 0),.int .u64 (.ofNat 0),.int .u64 (.ofNat 0),.int .u64 (.ofNat 0),.int .u64 (.ofNat 0),.int .u64 (.ofNat 0),.int .u64 (.ofNat 0),.int .u64 (.ofNat 0),.int .u64 (.ofNat 0),.int .u64 (.ofNat 0),.int .u64 (.ofNat 0),.int .u64 (.ofNat 0),.int .u64 (.ofNat 0),.int .u64 (.ofNat 0),.int .u64 (.ofNat 0),.int .u64 (.ofNat 0),.int .u64 (.ofNat 0),.int .u64 (.ofNat 0),.int .u64 (.ofNat 0),.int .u64 (.ofNat 0),.int .u64 (.ofNat 0),.int .u64 (.ofNat 0),.int .u64 (.ofNat 0),.int .u64 (.ofNat 0),.int .u64 (.ofNat 0),.int .u64 (.ofNat 0),.int .u64 (.ofNat 0),.int .i64 (.ofNat 0),.bool false,.bool false,.int .i64 (.ofNat 0),.int .i64 (.ofNat 0)]
def RbM25v101 : AV := .agg [.int .u64 (.ofNat 0),.int .u64 (.ofNat 0),.int .u64 (.ofNat 0),.int .u64 (.ofNat 0),.int .u64 (.ofNat 0),.int .u64 (.ofNat 0),.int .u64 (.ofNat 0),.int .u64 (.ofNat 0),.int .u64 (.ofNat 0),.int .u64 (.ofNat 0),.int .u64 (.ofNat 0),.int .u64 (.ofNat 0),.int .u64 (.ofNat 0),.int .u64 (.ofNat 0),.int .u64 (.ofNat 0),.int .u64 (.ofNat 0),.int .u64 (.ofNat 0),.int .u64 (.ofNat 0),.int .u64 (.ofNat 0),.int .u64 (.ofNat 0),.int .u64 (.ofNat 0),.int .u64 (.ofNat 0),.int .u64 (.ofNat 0),.int .u64 (.ofNat 0),.int .u64 (.ofNat 0),.int .u64 (.ofNat 0),.int .u64 (.ofNat 0),.int .u64 (.ofNat 0),.int .u64 (.ofNat 1040),.int .u64 (.ofNat 0),.int .u64 (.ofNat 0),.int .i64 (.ofNat 1),.bool false,.bool false,.int .i64 (.ofNat 0),.int .i64 (.ofNat 0)]
def RbM25v102 : AV := .agg [.int .u64 (.ofNat 0),.int .u64 (.ofNat 0),.int .u64 (.ofNat 0),.int .u64 (.ofNat 0),.int .u64 (.ofNat 0),.int .u64 (.ofNat 0),.int .u64 (.ofNat 0),.int .u64 (.ofNat 0),.int .u64 (.ofNat 0),.int .u64 (.ofNat 0),.int .u64 (.ofNat 0),.int .u64 (.ofNat 0),.int .u64 (.ofNat 0),.int .u64 (.ofNat 0),.int .u64 (.ofNat 0),.int .u64 (.ofNat 0),.int .u64 (.ofNat 0),.int .u64 (.ofNat 0),.int .u64 (.ofNat 0),.int .u64 (.ofNat 0),.int .u64 (.ofNat 0),.int .u64 (.ofNat 0),.int .u64 (.ofNat 0),.int .u64 (.ofNat 0),.int .u64 (.ofNat 0),.int .u64 (.ofNat 0),.int .u64 (.ofNat 0),.int .u64 (.ofNat 0),.int .u64 (.ofNat 66576),.int .u64 (.ofNat 0),.int .u64 (.ofNat 0),.int .i64 (.ofNat 2),.bool false,.bool false,.int .i64 (.ofNat 0),.int .i64 (.ofNat 0)]
def RbM25v103 : AV := .agg [.int .u64 (.ofNat 4),.int .u64 (.ofNat 0),.int .u64 (.ofNat 0),.int .u64 (.ofNat 0),.int .u64 (.ofNat 0),.int .u64 (.ofNat 0),.int .u64 (.ofNat 0),.int .u64 (.ofNat 0),.int .u64 (.ofNat 0),.int .u64 (.ofNat 0),.int .u64 (.ofNat 0),.int .u64 (.ofNat 0),.int .u64 (.ofNat 0),.int .u64 (.ofNat 0),.int .u64 (.ofNat 0),.int .u64 (.ofNat 0),.int .u64 (.ofNat 0),.int .u64 (.ofNat 0),.int .u64 (.ofNat 0),.int .u64 (.ofNat 0),.int .u64 (.ofNat 0),.int .u64 (.ofNat 0),.int .u64 (.ofNat 0),.int .u64 (.ofNat 0),.int .u64 (.ofNat 0),.int .u64 (.ofNat 0),.int .u64 (.ofNat 0),.int .u64 (.ofNat 0),.int .u64 (.ofNat 66576),.int .u64 (.ofNat 0),.int .u64 (.ofNat 0),.int .i64 (.ofNat 3),.bool false,.bool false,.int .i64 (.ofNat 0),.int .i64 (.ofNat 0)]
def RbM25v104 : AV := .agg [.int .u64 (.ofNat 65540),.int .u64 (.ofNat 0),.int .u64 (.ofNat 0),.int .u64 (.ofNat 0),.int .u64 (.ofNat 0),.int .u64 (.ofNat 0),.int .u64 (.ofNat 0),.int .u64 (.ofNat 0),.int .u64 (.ofNat 0),.int .u64 (.ofNat 0),.int .u64 (.ofNat 0),.int .u64 (.ofNat 0),.int .u64 (.ofNat 0),.int .u64 (.ofNat 0),.int .u64 (.ofNat 0),.int .u64 (.ofNat 0),.int .u64 (.ofNat 0),.int .u64 (.ofNat 0),.int .u64 (.ofNat 0),.int .u64 (.ofNat 0),.int .u64 (.ofNat 0),.int .u64 (.ofNat 0),.int .u64 (.ofNat 0),.int .u64 (.ofNat 0),.int .u64 (.ofNat 0),.int .u64 (.ofNat 0),.int .u64 (.ofNat 0),.int .u64 (.ofNat 0),.int .u64 (.ofNat 66576),.int .u64 (.ofNat 0),.int .u64 (.ofNat 0),.int .i64 (.ofNat 4),.bool false,.bool false,.int .i64 (.ofNat 0),.int .i64 (.ofNat 0)]
def RbM25v105 : AV := .agg [.int .u64 (.ofNat 65540),.int .u64 (.ofNat 0),.int .u64 (.ofNat 0),.int .u64 (.ofNat 0),.int .u64 (.ofNat 0),.int .u64 (.ofNat 0),.int .u64 (.ofNat 0),.int .u64 (.ofNat 0),.int .u64 (.ofNat 0),.int .u64 (.ofNat 0),.int .u64 (.ofNat 0),.int .u64 (.ofNat 0),.int .u64 (.ofNat 0),.int .u64 (.ofNat 0),.int .u64 (.ofNat 0),.int .u64 (.ofNat 0),.int .u64 (.ofNat 0),.int .u64 (.ofNat 0),.int .u64 (.ofNat 0),.int .u64 (.ofNat 0),.int .u64 (.ofNat 0),.int .u64 (.ofNat 0),.int .u64 (.ofNat 0),.int .u64 (.ofNat 0),.int .u64 (.ofNat 0),.int .u64 (.ofNat 0),.int .u64 (.ofNat 0),.int .u64 (.ofNat 0),.int .u64 (.ofNat 66576),.int .u64 (.ofNat 0),.int .u64 (.ofNat 0),.int .i64 (.ofNat 5),.bool false,.bool false,.int .i64 (.ofNat 0),.int .i64 (.ofNat 0)]
def RbM25v106 : AV := .lst .dead 1 [.str [120],.int .i64 (.ofNat 1),.int .i64 (.ofNat 1),.bool false,.lst .dead 0 [],.int .i64 (.ofNat 0),.lst .dead 0 []]
def RbM25v107 : AV := .agg [RbM25v106,.lst .dead 1 [.lst .dead 1 [.int .i64 (.ofNat 3),.int .i64 (.ofNat 1),.str [],.str [],.int .i64 (.ofNat 0),.str [120],.lst .dead 0 [],RbM25v48,.lst .dead 0 [],.lst .dead 0 []]]]
def RbM25v108 : AV := .agg [.int .i64 (.ofNat 18),.int .i64 (.ofNat 0),.int .i64 (.ofNat 1),.int .i64 (.ofNat 0),.int .i64 (.ofNat 0),.int .i64 (.ofNat 0),.int .i64 (.ofNat 0)]
def RbM25v109 : AV := .agg [.int .u64 (.ofNat 0),.int .u64 (.ofNat 0),.int .u64 (.ofNat 0),.int .u64 (.ofNat 0),.int .u64 (.ofNat 0),.int .u64 (.ofNat 0),.int .u64 (.ofNat 0),.int .u64 (.ofNat 0),.int .u64 (.ofNat 0),.int .u64 (.ofNat 0),.int .u64 (.ofNat 0),.int .u64 (.ofNat 0),.int .u64 (.ofNat 0),.int .u64 (.ofNat 0),.int .u64 (.ofNat 0),.int .u64 (.ofNat 0),.int .u64 (.ofNat 0),.int .u64 (.ofNat 0),.int .u64 (.ofNat 0),.int .u64 (.ofNat 0),.int .u64 (.ofNat 0),.int .u64 (.ofNat 0),.int .u64 (.ofNat 0),.int .u64 (.ofNat 0),.int .u64 (.ofNat 0),.int .u64 (.ofNat 0),.int .u64 (.ofNat 0),.int .u64 (.ofNat 0),.int .u64 (.ofNat 65552),.int .u64 (.ofNat 0),.int .u64 (.ofNat 0),.int .i64 (.ofNat 2),.bool false,.bool false,.int .i64 (.ofNat 0),.int .i64 (.ofNat 0)]
def RbM25v110 : AV := .agg [.int .u64 (.ofNat 7),.int .u64 (.ofNat 0),.int .u64 (.ofNat 0),.int .u64 (.ofNat 0),.int .u64 (.ofNat 0),.int .u64 (.ofNat 0),.int .u64 (.ofNat 0),.int .u64 (.ofNat 0),.int .u64 (.ofNat 0),.int .u64 (.ofNat 0),.int .u64 (.ofNat 0),.int .u64 (.ofNat 0),.int .u64 (.ofNat 0),.int .u64 (.ofNat 0),.int .u64 (.ofNat 0),.int .u64 (.ofNat 0),.int .u64 (.ofNat 0),.int .u64 (.ofNat 0),.int .u64 (.ofNat 0),.int .u64 (.ofNat 0),.int .u64 (.ofNat 0),.int .u64 (.ofNat 0),.int .u64 (.ofNat 0),.int .u64 (.ofNat 0),.int .u64 (.ofNat 0),.int .u64 (.ofNat 0),.int .u64 (.ofNat 0),.int .u64 (.ofNat 0),.int .u64 (.ofNat 65552),.int .u64 (.ofNat 0),.int .u64 (.ofNat 0),.int .i64 (.ofNat 3),.bool false,.bool false,.int .i64 (.ofNat 0),.int .i64 (.ofNat 0)]
def RbM25v111 : AV := .agg [RbM25v6,.lst .dead 2 [.lst .dead 2 [.int .i64 (.ofNat 3),.int .i64 (.ofNat 1),.str [],.str [],.int .i64 (.ofNat 0),.str [120],.lst .dead 0 [],RbM25v45,.lst .dead 0 [],.lst .dead 0 [],.int .i64 (.ofNat 4),.int .i64 (.ofNat 1),.str [],.str [],.int .i64 (.ofNat 3),.str [102],.lst .dead 0 [],RbM25v45,.lst .dead 0 [],.lst .dead 0 []],.lst .dead 2 [.int .i64 (.ofNat 1),.int .i64 (.ofNat 1),.str [97],.str [],.int .i64 (.ofNat 0),.str [],.lst .dead 0 [],RbM25v50,.lst .dead 0 [],.lst .dead 0 [],.int .i64 (.ofNat 10),.int .i64 (.ofNat 1),.str [],.str [],.int .i64 (.ofNat 0),.str [],.lst .dead 0 [],RbM25v47,.lst .dead 0 [],.lst .dead 0 []]]]
def RbM25v112 : AV := .agg [.int .u64 (.ofNat 65540),.int .u64 (.ofNat 1),.int .u64 (.ofNat 0),.int .u64 (.ofNat 0),.int .u64 (.ofNat 0),.int .u64 (.ofNat 0),.int .u64 (.ofNat 0),.int .u64 (.ofNat 0),.int .u64 (.ofNat 0),.int .u64 (.ofNat 0),.int .u64 (.ofNat 0),.int .u64 (.ofNat 0),.int .u64 (.ofNat 0),.int .u64 (.ofNat 0),.int .u64 (.ofNat 0),.int .u64 (.ofNat 0),.int .u64 (.ofNat 0),.int .u64 (.ofNat 0),.int .u64 (.ofNat 0),.int .u64 (.ofNat 0),.int .u64 (.ofNat 0),.int .u64 (.ofNat 0),.int .u64 (.ofNat 0),.int .u64 (.ofNat 0),.int .u64 (.ofNat 0),.int .u64 (.ofNat 0),.int .u64 (.ofNat 0),.int .u64 (.ofNat 0),.int .u64 (.ofNat 66576),.int .u64 (.ofNat 0),.int .u64 (.ofNat 0),.int .i64 (.ofNat 5),.bool false,.bool false,.int .i64 (.ofNat 0),.int .i64 (.ofNat 0)]
def RbM254 : List (Nat × List AV × AV) := [
  (12, [.str [118,97,114,32,120,32,117,51,50,32,59,32,118,97,114,32,102,32,97,51,50,32,59,32,116,104,114,101,97,100,32,123,32,119,114,105,116,101,32,120,32,61,32,49,32,59,32,115,116,111,114,101,32,115,99,32,102,32,61,32,49,32,59,32,125,32,116,104,114,101,97,100,32,123,32,108,101,116,32,97,32,61,32,108,111,97,100,32,115,99,32,102,32,59,32,112,114,105,110,116,32,114,101,97,100,32,120,32,59,32,125]], .tup [RbM25v91,.agg [.int .i64 (.ofNat 0),.int .i64 (.ofNat 0)]]),
  (107, [RbM25v2], RbM25v92),
  (107, [RbM25v1], RbM25v92),
  (261, [RbM25v6,.agg [.str [120],.lst .dead 0 []]], .tup [RbM25v2,.int .i64 (.ofNat 0)]),
  (261, [RbM25v6,.agg [.str [102],.lst .dead 0 []]], .tup [RbM25v1,.int .i64 (.ofNat 0)]),
  (57, [RbM25v93], .tup [.int .u32 (.ofNat 3103784992),.int .i64 (.ofNat 0)]),
  (57, [RbM25v94], .tup [.int .u32 (.ofNat 2292186144),.int .i64 (.ofNat 0)]),
  (57, [RbM25v95], .tup [.int .u32 (.ofNat 2296380417),.int .i64 (.ofNat 0)]),
  (57, [RbM25v96], .tup [.int .u32 (.ofNat 3107979265),.int .i64 (.ofNat 0)]),
  (59, [.int .u32 (.ofNat 3531604508)], .tup [RbM25v51,.int .i64 (.ofNat 0)]),
  (59, [.int .u32 (.ofNat 4070572092)], .tup [RbM25v52,.int .i64 (.ofNat 0)]),
  (59, [.int .u32 (.ofNat 3531604000)], .tup [RbM25v53,.int .i64 (.ofNat 0)]),
  (59, [.int .u32 (.ofNat 3533701153)], .tup [RbM25v54,.int .i64 (.ofNat 0)]),
  (129, [.int .i64 (.ofNat 17),.int .u32 (.ofNat 3103784992)], .tup [.agg [.int .i64 (.ofNat 17),.int .i64 (.ofNat 0),.int .i64 (.ofNat 1),.int .i64 (.ofNat 0),.int .i64 (.ofNat 0),.int .i64 (.ofNat 2),.int .i64 (.ofNat 0)],.bool false]),
  (129, [.int .i64 (.ofNat 18),.int .u32 (.ofNat 3103784992)], .tup [RbM25v93,.bool true]),
  (59, [.int .u32 (.ofNat 3531604097)], .tup [RbM25v55,.int .i64 (.ofNat 0)]),
  (59, [.int .u32 (.ofNat 4070572065)], .tup [RbM25v56,.int .i64 (.ofNat 0)]),
  (129, [.int .i64 (.ofNat 17),.int .u32 (.ofNat 2292186144)], .tup [.agg [.int .i64 (.ofNat 17),.int .i64 (.ofNat 0),.int .i64 (.ofNat 1),.int .i64 (.ofNat 0),.int .i64 (.ofNat 0),.int .i64 (.ofNat 2),.int .i64 (.ofNat 2047)],.bool false]),
  (129, [.int .i64 (.ofNat 18),.int .u32 (.ofNat 2292186144)], .tup [.agg [.int .i64 (.ofNat 18),.int .i64 (.ofNat 0),.int .i64 (.ofNat 1),.int .i64 (.ofNat 0),.int .i64 (.ofNat 0),.int .i64 (.ofNat 2),.int .i64 (.ofNat 2047)],.bool false]),
  (129, [.int .i64 (.ofNat 19),.int .u32 (.ofNat 2292186144)], .tup [.agg [.int .i64 (.ofNat 19),.int .i64 (.ofNat 0),.int .i64 (.ofNat 1),.int .i64 (.ofNat 0),.int .i64 (.ofNat 0),.int .i64 (.ofNat 2),.int .i64 (.ofNat 0)],.bool false]),
  (129, [.int .i64 (.ofNat 20),.int .u32 (.ofNat 2292186144)], .tup [RbM25v94,.bool true]),
  (129, [.int .i64 (.ofNat 17),.int .u32 (.ofNat 3556769793)], .tup [.agg [.int .i64 (.ofNat 17),.int .i64 (.ofNat 1),.int .i64 (.ofNat 0),.int .i64 (.ofNat 0),.int .i64 (.ofNat 0),.int .i64 (.ofNat 3),.int .i64 (.ofNat 0)],.bool false]),
  (129, [.int .i64 (.ofNat 18),.int .u32 (.ofNat 3556769793)], .tup [.agg [.int .i64 (.ofNat 18),.int .i64 (.ofNat 1),.int .i64 (.ofNat 0),.int .i64 (.ofNat 0),.int .i64 (.ofNat 0),.int .i64 (.ofNat 3),.int .i64 (.ofNat 0)],.bool false]),
  (129, [.int .i64 (.ofNat 19),.int .u32 (.ofNat 3556769793)], .tup [.agg [.int .i64 (.ofNat 19),.int .i64 (.ofNat 1),.int .i64 (.ofNat 0),.int .i64 (.ofNat 0),.int .i64 (.ofNat 0),.int .i64 (.ofNat 3),.int .i64 (.ofNat 0)],.bool false]),
  (129, [.int .i64 (.ofNat 20),.int .u32 (.ofNat 3556769793)], .tup [.agg [.int .i64 (.ofNat 20),.int .i64 (.ofNat 1),.int .i64 (.ofNat 0),.int .i64 (.ofNat 0),.int .i64 (.ofNat 0),.int .i64 (.ofNat 3),.int .i64 (.ofNat 0)],.bool false]),
  (129, [.int .i64 (.ofNat 21),.int .u32 (.ofNat 3556769793)], .tup [.agg [.int .i64 (.ofNat 21),.int .i64 (.ofNat 1),.int .i64 (.ofNat 0),.int .i64 (.ofNat 0),.int .i64 (.ofNat 0),.int .i64 (.ofNat 3),.int .i64 (.ofNat 0)],.bool false]),
  (129, [.int .i64 (.ofNat 22),.int .u32 (.ofNat 3556769793)], .tup [.agg [.int .i64 (.ofNat 22),.int .i64 (.ofNat 1),.int .i64 (.ofNat 0),.int .i64 (.ofNat 0),.int .i64 (.ofNat 0),.int .i64 (.ofNat 3),.int .i64 (.ofNat 0)],.bool false]),
  (129, [.int .i64 (.ofNat 23),.int .u32 (.ofNat 3556769793)], .tup [.agg [.int .i64 (.ofNat 23),.int .i64 (.ofNat 1),.int .i64 (.ofNat 0),.int .i64 (.ofNat 0),.int .i64 (.ofNat 0),.int .i64 (.ofNat 3),.int .i64 (.ofNat 0)],.bool false]),
  (129, [.int .i64 (.ofNat 24),.int .u32 (.ofNat 3556769793)], .tup [.agg [.int .i64 (.ofNat 24),.int .i64 (.ofNat 1),.int .i64 (.ofNat 0),.int .i64 (.ofNat 0),.int .i64 (.ofNat 0),.int .i64 (.ofNat 3),.int .i64 (.ofNat 0)],.bool false]),
  (129, [.int .i64 (.ofNat 25),.int .u32 (.ofNat 3556769793)], .tup [.agg [.int .i64 (.ofNat 25),.int .i64 (.ofNat 1),.int .i64 (.ofNat 0),.int .i64 (.ofNat 0),.int .i64 (.ofNat 0),.int .i64 (.ofNat 0),.int .i64 (.ofNat 0)],.bool false]),
  (129, [.int .i64 (.ofNat 26),.int .u32 (.ofNat 3556769793)], .tup [.agg [.int .i64 (.ofNat 26),.int .i64 (.ofNat 1),.int .i64 (.ofNat 0),.int .i64 (.ofNat 0),.int .i64 (.ofNat 0),.int .i64 (.ofNat 0),.int .i64 (.ofNat 0)],.bool false]),
  (129, [.int .i64 (.ofNat 27),.int .u32 (.ofNat 3556769793)], .tup [.agg [.int .i64 (.ofNat 27),.int .i64 (.ofNat 1),.int .i64 (.ofNat 0),.int .i64 (.ofNat 0),.int .i64 (.ofNat 0),.int .i64 (.ofNat 0),.int .i64 (.ofNat 0)],.bool false]),
  (129, [.int .i64 (.ofNat 28),.int .u32 (.ofNat 3556769793)], .tup [.agg [.int .i64 (.ofNat 28),.int .i64 (.ofNat 1),.int .i64 (.ofNat 0),.int .i64 (.ofNat 0),.int .i64 (.ofNat 0),.int .i64 (.ofNat 0),.int .i64 (.ofNat 0)],.bool false]),
  (59, [.int .u32 (.ofNat 3531637276)], .tup [RbM25v58,.int .i64 (.ofNat 0)]),
  (59, [.int .u32 (.ofNat 3531604096)], .tup [RbM25v59,.int .i64 (.ofNat 0)]),
  (59, [.int .u32 (.ofNat 4070572064)], .tup [RbM25v60,.int .i64 (.ofNat 0)]),
  (129, [.int .i64 (.ofNat 17),.int .u32 (.ofNat 2296380417)], .tup [.agg [.int .i64 (.ofNat 17),.int .i64 (.ofNat 1),.int .i64 (.ofNat 0),.int .i64 (.ofNat 0),.int .i64 (.ofNat 0),.int .i64 (.ofNat 2),.int .i64 (.ofNat 2047)],.bool false]),
  (129, [.int .i64 (.ofNat 18),.int .u32 (.ofNat 2296380417)], .tup [.agg [.int .i64 (.ofNat 18),.int .i64 (.ofNat 1),.int .i64 (.ofNat 0),.int .i64 (.ofNat 0),.int .i64 (.ofNat 0),.int .i64 (.ofNat 2),.int .i64 (.ofNat 2047)],.bool false]),
  (129, [.int .i64 (.ofNat 19),.int .u32 (.ofNat 2296380417)], .tup [RbM25v95,.bool true]),
  (59, [.int .u32 (.ofNat 2852193248)], .tup [RbM25v61,.int .i64 (.ofNat 0)]),
  (59, [.int .u32 (.ofNat 3533701152)], .tup [RbM25v62,.int .i64 (.ofNat 0)]),
  (129, [.int .i64 (.ofNat 17),.int .u32 (.ofNat 3107979265)], .tup [RbM25v96,.bool true]),
  (129, [.int .i64 (.ofNat 17),.int .u32 (.ofNat 3556769857)], .tup [.agg [.int .i64 (.ofNat 17),.int .i64 (.ofNat 1),.int .i64 (.ofNat 2),.int .i64 (.ofNat 0),.int .i64 (.ofNat 0),.int .i64 (.ofNat 3),.int .i64 (.ofNat 0)],.bool false]),
  (129, [.int .i64 (.ofNat 18),.int .u32 (.ofNat 3556769857)], .tup [.agg [.int .i64 (.ofNat 18),.int .i64 (.ofNat 1),.int .i64 (.ofNat 2),.int .i64 (.ofNat 0),.int .i64 (.ofNat 0),.int .i64 (.ofNat 3),.int .i64 (.ofNat 0)],.bool false]),
  (129, [.int .i64 (.ofNat 19),.int .u32 (.ofNat 3556769857)], .tup [.agg [.int .i64 (.ofNat 19),.int .i64 (.ofNat 1),.int .i64 (.ofNat 2),.int .i64 (.ofNat 0),.int .i64 (.ofNat 0),.int .i64 (.ofNat 3),.int .i64 (.ofNat 0)],.bool false]),
  (129, [.int .i64 (.ofNat 20),.int .u32 (.ofNat 3556769857)], .tup [.agg [.int .i64 (.ofNat 20),.int .i64 (.ofNat 1),.int .i64 (.ofNat 2),.int .i64 (.ofNat 0),.int .i64 (.ofNat 0),.int .i64 (.ofNat 3),.int .i64 (.ofNat 0)],.bool false]),
  (129, [.int .i64 (.ofNat 21),.int .u32 (.ofNat 3556769857)], .tup [.agg [.int .i64 (.ofNat 21),.int .i64 (.ofNat 1),.int .i64 (.ofNat 2),.int .i64 (.ofNat 0),.int .i64 (.ofNat 0),.int .i64 (.ofNat 3),.int .i64 (.ofNat 0)],.bool false]),
  (129, [.int .i64 (.ofNat 22),.int .u32 (.ofNat 3556769857)], .tup [.agg [.int .i64 (.ofNat 22),.int .i64 (.ofNat 1),.int .i64 (.ofNat 2),.int .i64 (.ofNat 0),.int .i64 (.ofNat 0),.int .i64 (.ofNat 3),.int .i64 (.ofNat 0)],.bool false]),
  (129, [.int .i64 (.ofNat 23),.int .u32 (.ofNat 3556769857)], .tup [.agg [.int .i64 (.ofNat 23),.int .i64 (.ofNat 1),.int .i64 (.ofNat 2),.int .i64 (.ofNat 0),.int .i64 (.ofNat 0),.int .i64 (.ofNat 3),.int .i64 (.ofNat 0)],.bool false]),
  (129, [.int .i64 (.ofNat 24),.int .u32 (.ofNat 3556769857)], .tup [.agg [.int .i64 (.ofNat 24),.int .i64 (.ofNat 1),.int .i64 (.ofNat 2),.int .i64 (.ofNat 0),.int .i64 (.ofNat 0),.int .i64 (.ofNat 3),.int .i64 (.ofNat 0)],.bool false]),
  (129, [.int .i64 (.ofNat 25),.int .u32 (.ofNat 3556769857)], .tup [.agg [.int .i64 (.ofNat 25),.int .i64 (.ofNat 1),.int .i64 (.ofNat 2),.int .i64 (.ofNat 0),.int .i64 (.ofNat 0),.int .i64 (.ofNat 0),.int .i64 (.ofNat 0)],.bool false]),
  (129, [.int .i64 (.ofNat 26),.int .u32 (.ofNat 3556769857)], .tup [.agg [.int .i64 (.ofNat 26),.int .i64 (.ofNat 1),.int .i64 (.ofNat 2),.int .i64 (.ofNat 0),.int .i64 (.ofNat 0),.int .i64 (.ofNat 0),.int .i64 (.ofNat 0)],.bool false]),
  (129, [.int .i64 (.ofNat 27),.int .u32 (.ofNat 3556769857)], .tup [.agg [.int .i64 (.ofNat 27),.int .i64 (.ofNat 1),.int .i64 (.ofNat 2),.int .i64 (.ofNat 0),.int .i64 (.ofNat 0),.int .i64 (.ofNat 0),.int .i64 (.ofNat 0)],.bool false]),
  (129, [.int .i64 (.ofNat 28),.int .u32 (.ofNat 3556769857)], .tup [.agg [.int .i64 (.ofNat 28),.int .i64 (.ofNat 1),.int .i64 (.ofNat 2),.int .i64 (.ofNat 0),.int .i64 (.ofNat 0),.int .i64 (.ofNat 0),.int .i64 (.ofNat 0)],.bool false]),
  (130, [RbM25v51], .bool true),
  (130, [RbM25v52], .bool true),
  (130, [RbM25v53], .bool true),
  (130, [RbM25v54], .bool true),
  (65, [RbM25v97,RbM25v55,.agg [.int .u64 (.ofNat 0),.int .u64 (.ofNat 0)],.bool true], .tup [RbM25v98,.int .i64 (.ofNat 0)]),
  (65, [RbM25v98,RbM25v56,.agg [.int .u64 (.ofNat 0),.int .u64 (.ofNat 0)],.bool true], .tup [RbM25v99,.int .i64 (.ofNat 0)]),
  (130, [RbM25v57], .bool true),
  (65, [RbM25v100,RbM25v58,.agg [.int .u64 (.ofNat 0),.int .u64 (.ofNat 0)],.bool true], .tup [RbM25v101,.int .i64 (.ofNat 0)]),
  (65, [RbM25v102,RbM25v59,.agg [.int .u64 (.ofNat 0),.int .u64 (.ofNat 0)],.bool true], .tup [RbM25v103,.int .i64 (.ofNat 0)]),
  (65, [RbM25v103,RbM25v60,.agg [.int .u64 (.ofNat 0),.int .u64 (.ofNat 0)],.bool true], .tup [RbM25v104,.int .i64 (.ofNat 0)]),
  (65, [RbM25v105,RbM25v61,.agg [.int .u64 (.ofNat 0),.int .u64 (.ofNat 0)],.bool true], .tup [.agg [.int .u64 (.ofNat 0),.int .u64 (.ofNat 0),.int .u64 (.ofNat 0),.int .u64 (.ofNat 0),.int .u64 (.ofNat 0),.int .u64 (.ofNat 0),.int .u64 (.ofNat 0),.int .u64 (.ofNat 0),.int .u64 (.ofNat 0),.int .u64 (.ofNat 0),.int .u64 (.ofNat 0),.int .u64 (.ofNat 0),.int .u64 (.ofNat 0),.int .u64 (.ofNat 0),.int .u64 (.ofNat 0),.int .u64 (.ofNat 0),.int .u64 (.ofNat 0),.int .u64 (.ofNat 0),.int .u64 (.ofNat 0),.int .u64 (.ofNat 0),.int .u64 (.ofNat 0),.int .u64 (.ofNat 0),.int .u64 (.ofNat 0),.int .u64 (.ofNat 0),.int .u64 (.ofNat 0),.int .u64 (.ofNat 0),.int .u64 (.ofNat 0),.int .u64 (.ofNat 0),.int .u64 (.ofNat 66576),.int .u64 (.ofNat 0),.int .u64 (.ofNat 0),.int .i64 (.ofNat 6),.bool false,.bool false,.int .i64 (.ofNat 0),.int .i64 (.ofNat 0)],.int .i64 (.ofNat 0)]),
  (73, [RbM25v28], .bool true),
  (291, [RbM25v27,.fn 224 [.fptr [.int .i64 (.ofNat 0)],.fptr [.int .i64 (.ofNat 1)]]], .int .i64 (.negSucc 0)),
  (291, [RbM25v27,.fn 224 [.fptr [.int .i64 (.ofNat 0)],.fptr [.int .i64 (.ofNat 2)]]], .int .i64 (.negSucc 0)),
  (291, [RbM25v27,.fn 224 [.fptr [.int .i64 (.ofNat 0)],.fptr [.int .i64 (.ofNat 3)]]], .int .i64 (.negSucc 0)),
  (291, [RbM25v27,.fn 224 [.fptr [.int .i64 (.ofNat 1)],.fptr [.int .i64 (.ofNat 0)]]], .int .i64 (.negSucc 0)),
  (291, [RbM25v27,.fn 224 [.fptr [.int .i64 (.ofNat 1)],.fptr [.int .i64 (.ofNat 2)]]], .int .i64 (.negSucc 0)),
  (291, [RbM25v27,.fn 224 [.fptr [.int .i64 (.ofNat 1)],.fptr [.int .i64 (.ofNat 3)]]], .int .i64 (.negSucc 0)),
  (291, [RbM25v27,.fn 224 [.fptr [.int .i64 (.ofNat 2)],.fptr [.int .i64 (.ofNat 0)]]], .int .i64 (.negSucc 0)),
  (291, [RbM25v27,.fn 224 [.fptr [.int .i64 (.ofNat 2)],.fptr [.int .i64 (.ofNat 1)]]], .int .i64 (.negSucc 0)),
  (291, [RbM25v27,.fn 224 [.fptr [.int .i64 (.ofNat 2)],.fptr [.int .i64 (.ofNat 3)]]], .int .i64 (.negSucc 0)),
  (291, [RbM25v27,.fn 224 [.fptr [.int .i64 (.ofNat 3)],.fptr [.int .i64 (.ofNat 0)]]], .int .i64 (.negSucc 0)),
  (291, [RbM25v27,.fn 224 [.fptr [.int .i64 (.ofNat 3)],.fptr [.int .i64 (.ofNat 1)]]], .int .i64 (.negSucc 0)),
  (291, [RbM25v27,.fn 224 [.fptr [.int .i64 (.ofNat 3)],.fptr [.int .i64 (.ofNat 2)]]], .int .i64 (.negSucc 0)),
  (12, [.str [118,97,114,32,120,32,117,56,32,59,32,116,104,114,101,97,100,32,123,32,119,114,105,116,101,32,120,32,61,32,55,32,59,32,125]], .tup [RbM25v107,.agg [.int .i64 (.ofNat 0),.int .i64 (.ofNat 0)]]),
  (107, [RbM25v30], .tup [.agg [.int .i64 (.ofNat 1),.int .i64 (.ofNat 1)],.int .i64 (.ofNat 0)]),
  (261, [RbM25v106,.agg [.str [120],.lst .dead 0 []]], .tup [RbM25v30,.int .i64 (.ofNat 0)]),
  (57, [RbM25v108], .tup [.int .u32 (.ofNat 956301344),.int .i64 (.ofNat 0)]),
  (129, [.int .i64 (.ofNat 17),.int .u32 (.ofNat 956301344)], .tup [.agg [.int .i64 (.ofNat 17),.int .i64 (.ofNat 0),.int .i64 (.ofNat 1),.int .i64 (.ofNat 0),.int .i64 (.ofNat 0),.int .i64 (.ofNat 0),.int .i64 (.ofNat 0)],.bool false]),
  (129, [.int .i64 (.ofNat 18),.int .u32 (.ofNat 956301344)], .tup [RbM25v108,.bool true]),
  (65, [RbM25v109,RbM25v49,.agg [.int .u64 (.ofNat 0),.int .u64 (.ofNat 0)],.bool false], .tup [RbM25v110,.int .i64 (.ofNat 0)]),
  (12, [.str [118,97,114,32,120,32,117,51,50,32,59,32,118,97,114,32,102,32,97,51,50,32,59,32,116,104,114,101,97,100,32,123,32,119,114,105,116,101,32,120,32,61,32,49,32,59,32,115,116,111,114,101,32,114,101,108,32,102,32,61,32,49,32,59,32,125,32,116,104,114,101,97,100,32,123,32,108,101,116,32,97,32,61,32,108,111,97,100,32,97,99,113,32,102,32,59,32,112,114,105,110,116,32,114,101,97,100,32,120,32,59,32,125]], .tup [RbM25v111,.agg [.int .i64 (.ofNat 0),.int .i64 (.ofNat 0)]]),
  (73, [RbM25v32], .bool true),
  (73, [RbM25v36], .bool true),
  (73, [RbM25v37], .bool true),
  (65, [RbM25v112,RbM25v61,.agg [.int .u64 (.ofNat 0),.int .u64 (.ofNat 0)],.bool true], .tup [.agg [.int .u64 (.ofNat 1),.int .u64 (.ofNat 1),.int .u64 (.ofNat 0),.int .u64 (.ofNat 0),.int .u64 (.ofNat 0),.int .u64 (.ofNat 0),.int .u64 (.ofNat 0),.int .u64 (.ofNat 0),.int .u64 (.ofNat 0),.int .u64 (.ofNat 0),.int .u64 (.ofNat 0),.int .u64 (.ofNat 0),.int .u64 (.ofNat 0),.int .u64 (.ofNat 0),.int .u64 (.ofNat 0),.int .u64 (.ofNat 0),.int .u64 (.ofNat 0),.int .u64 (.ofNat 0),.int .u64 (.ofNat 0),.int .u64 (.ofNat 0),.int .u64 (.ofNat 0),.int .u64 (.ofNat 0),.int .u64 (.ofNat 0),.int .u64 (.ofNat 0),.int .u64 (.ofNat 0),.int .u64 (.ofNat 0),.int .u64 (.ofNat 0),.int .u64 (.ofNat 0),.int .u64 (.ofNat 66576),.int .u64 (.ofNat 0),.int .u64 (.ofNat 0),.int .i64 (.ofNat 6),.bool false,.bool false,.int .i64 (.ofNat 0),.int .i64 (.ofNat 0)],.int .i64 (.ofNat 0)]),
  (73, [RbM25v40], .bool true),
  (73, [RbM25v41], .bool true),
  (73, [RbM25v43], .bool true)]
theorem RbM254_run : forced (allW (runG RbM25T3) RbM254) = true := by kernel_rfl
def RbM25T4 : List (Nat × List AV × AV) := RbM254 ++ RbM25T3
theorem RbM254_ok : MemoOK (ACall C) (memL RbM25T4) := memL_appW gtC (runG_ok RbM253_ok) RbM253_ok (of_forced RbM254_run)
def RbM255 : List (Nat × List AV × AV) := [
  (73, [RbM25v44], .bool true)]
theorem RbM255_run : forced (allW (runG RbM25T4) RbM255) = true := by kernel_rfl
def RbM25T5 : List (Nat × List AV × AV) := RbM255 ++ RbM25T4
theorem RbM255_ok : MemoOK (ACall C) (memL RbM25T5) := memL_appW gtC (runG_ok RbM254_ok) RbM254_ok (of_forced RbM255_run)
def RbM25v113 : AV := .tup [.int .i64 (.ofNat 4),.int .i64 (.ofNat 4),.int .i64 (.ofNat 0)]
def RbM25v114 : AV := .agg [.int .u64 (.ofNat 0),.int .u64 (.ofNat 0),.int .u64 (.ofNat 0),.int .u64 (.ofNat 0),.int .u64 (.ofNat 0),.int .u64 (.ofNat 0),.int .u64 (.ofNat 0),.int .u64 (.ofNat 0),.int .u64 (.ofNat 0),.int .u64 (.ofNat 0),.int .u64 (.ofNat 0),.int .u64 (.ofNat 0),.int .u64 (.ofNat 0),.int .u64 (.ofNat 0),.int .u64 (.ofNat 0),.int .u64 (.ofNat 0),.int .u64 (.ofNat 0),.int .u64 (.ofNat 0),.int .u64 (.ofNat 0),.int .u64 (.ofNat 0),.int .u64 (.ofNat 0),.int .u64 (.ofNat 0),.int .u64 (.ofNat 0),.int .u64 (.ofNat 0),.int .u64 (.ofNat 0),.int .u64 (.ofNat 0),.int .u64 (.ofNat 0),.int .u64 (.ofNat 0),.int .u64 (.ofNat 16),.int .u64 (.ofNat 0),.int .u64 (.ofNat 0),.int .i64 (.ofNat 1),.bool false,.bool false,.int .i64 (.ofNat 0),.int .i64 (.ofNat 0)]
def RbM25v115 : AV := .agg [.int .u64 (.ofNat 1),.int .u64 (.ofNat 0),.int .u64 (.ofNat 0),.int .u64 (.ofNat 0),.int .u64 (.ofNat 0),.int .u64 (.ofNat 0),.int .u64 (.ofNat 0),.int .u64 (.ofNat 0),.int .u64 (.ofNat 0),.int .u64 (.ofNat 0),.int .u64 (.ofNat 0),.int .u64 (.ofNat 0),.int .u64 (.ofNat 0),.int .u64 (.ofNat 0),.int .u64 (.ofNat 0),.int .u64 (.ofNat 0),.int .u64 (.ofNat 0),.int .u64 (.ofNat 0),.int .u64 (.ofNat 0),.int .u64 (.ofNat 0),.int .u64 (.ofNat 0),.int .u64 (.ofNat 0),.int .u64 (.ofNat 0),.int .u64 (.ofNat 0),.int .u64 (.ofNat 0),.int .u64 (.ofNat 0),.int .u64 (.ofNat 0),.int .u64 (.ofNat 0),.int .u64 (.ofNat 65552),.int .u64 (.ofNat 0),.int .u64 (.ofNat 0),.int .i64 (.ofNat 3),.bool false,.bool false,.int .i64 (.ofNat 0),.int .i64 (.ofNat 0)]
def RbM25v116 : AV := .agg [.int .u64 (.ofNat 1),.int .u64 (.ofNat 65536),.int .u64 (.ofNat 0),.int .u64 (.ofNat 0),.int .u64 (.ofNat 0),.int .u64 (.ofNat 0),.int .u64 (.ofNat 0),.int .u64 (.ofNat 0),.int .u64 (.ofNat 0),.int .u64 (.ofNat 0),.int .u64 (.ofNat 0),.int .u64 (.ofNat 0),.int .u64 (.ofNat 0),.int .u64 (.ofNat 0),.int .u64 (.ofNat 0),.int .u64 (.ofNat 0),.int .u64 (.ofNat 0),.int .u64 (.ofNat 0),.int .u64 (.ofNat 0),.int .u64 (.ofNat 0),.int .u64 (.ofNat 0),.int .u64 (.ofNat 0),.int .u64 (.ofNat 0),.int .u64 (.ofNat 0),.int .u64 (.ofNat 0),.int .u64 (.ofNat 0),.int .u64 (.ofNat 0),.int .u64 (.ofNat 0),.int .u64 (.ofNat 65552),.int .u64 (.ofNat 0),.int .u64 (.ofNat 0),.int .i64 (.ofNat 4),.bool false,.bool false,.int .i64 (.ofNat 0),.int .i64 (.ofNat 0)]
def RbM25v117 : AV := .agg [.int .u64 (.ofNat 1),.int .u64 (.ofNat 65536),.int .u64 (.ofNat 0),.int .u64 (.ofNat 0),.int .u64 (.ofNat 0),.int .u64 (.ofNat 0),.int .u64 (.ofNat 0),.int .u64 (.ofNat 0),.int .u64 (.ofNat 0),.int .u64 (.ofNat 0),.int .u64 (.ofNat 0),.int .u64 (.ofNat 0),.int .u64 (.ofNat 0),.int .u64 (.ofNat 0),.int .u64 (.ofNat 0),.int .u64 (.ofNat 0),.int .u64 (.ofNat 0),.int .u64 (.ofNat 0),.int .u64 (.ofNat 0),.int .u64 (.ofNat 0),.int .u64 (.ofNat 0),.int .u64 (.ofNat 0),.int .u64 (.ofNat 0),.int .u64 (.ofNat 0),.int .u64 (.ofNat 0),.int .u64 (.ofNat 0),.int .u64 (.ofNat 0),.int .u64 (.ofNat 0),.int .u64 (.ofNat 65552),.int .u64 (.ofNat 0),.int .u64 (.ofNat 0),.int .i64 (.ofNat 5),.bool false,.bool false,.int .i64 (.ofNat 0),.int .i64 (.ofNat 0)]
def RbM25v118 : AV := .tup [.agg [.bool false,.int .i64 (.ofNat 65536),.int .i64 (.ofNat 4),.bool false,.bool false,.bool false,.int .u64 (.ofNat 0),.int .u64 (.ofNat 0)],.bool true]
def RbM25v119 : AV := .agg [.int .u64 (.ofNat 7),.int .u64 (.ofNat 65536),.int .u64 (.ofNat 0),.int .u64 (.ofNat 0),.int .u64 (.ofNat 0),.int .u64 (.ofNat 0),.int .u64 (.ofNat 0),.int .u64 (.ofNat 0),.int .u64 (.ofNat 0),.int .u64 (.ofNat 0),.int .u64 (.ofNat 0),.int .u64 (.ofNat 0),.int .u64 (.ofNat 0),.int .u64 (.ofNat 0),.int .u64 (.ofNat 0),.int .u64 (.ofNat 0),.int .u64 (.ofNat 0),.int .u64 (.ofNat 0),.int .u64 (.ofNat 0),.int .u64 (.ofNat 0),.int .u64 (.ofNat 0),.int .u64 (.ofNat 0),.int .u64 (.ofNat 0),.int .u64 (.ofNat 0),.int .u64 (.ofNat 0),.int .u64 (.ofNat 0),.int .u64 (.ofNat 0),.int .u64 (.ofNat 0),.int .u64 (.ofNat 65552),.int .u64 (.ofNat 0),.int .u64 (.ofNat 0),.int .i64 (.ofNat 4),.bool false,.bool false,.int .i64 (.ofNat 0),.int .i64 (.ofNat 0)]
def RbM25v120 : AV := .agg [.int .u64 (.ofNat 7),.int .u64 (.ofNat 65536),.int .u64 (.ofNat 0),.int .u64 (.ofNat 0),.int .u64 (.ofNat 0),.int .u64 (.ofNat 0),.int .u64 (.ofNat 0),.int .u64 (.ofNat 0),.int .u64 (.ofNat 0),.int .u64 (.ofNat 0),.int .u64 (.ofNat 0),.int .u64 (.ofNat 0),.int .u64 (.ofNat 0),.int .u64 (.ofNat 0),.int .u64 (.ofNat 0),.int .u64 (.ofNat 0),.int .u64 (.ofNat 0),.int .u64 (.ofNat 0),.int .u64 (.ofNat 0),.int .u64 (.ofNat 0),.int .u64 (.ofNat 0),.int .u64 (.ofNat 0),.int .u64 (.ofNat 0),.int .u64 (.ofNat 0),.int .u64 (.ofNat 0),.int .u64 (.ofNat 0),.int .u64 (.ofNat 0),.int .u64 (.ofNat 0),.int .u64 (.ofNat 65552),.int .u64 (.ofNat 0),.int .u64 (.ofNat 0),.int .i64 (.ofNat 5),.bool false,.bool false,.int .i64 (.ofNat 0),.int .i64 (.ofNat 0)]
def RbM256 : List (Nat × List AV × AV) := [
  (4, [.str [118,97,114,32,120,32,117,51,50,32,59,32,118,97,114,32,102,32,97,51,50,32,59,32,116,104,114,101,97,100,32,123,32,119,114,105,116,101,32,120,32,61,32,49,32,59,32,115,116,111,114,101,32,115,99,32,102,32,61,32,49,32,59,32,125,32,116,104,114,101,97,100,32,123,32,108,101,116,32,97,32,61,32,108,111,97,100,32,115,99,32,102,32,59,32,112,114,105,110,116,32,114,101,97,100,32,120,32,59,32,125]], RbM25v91),
  (52, [RbM25v2], RbM25v113),
  (52, [RbM25v1], RbM25v113),
  (59, [.int .u32 (.ofNat 3103784992)], .tup [RbM25v93,.int .i64 (.ofNat 0)]),
  (59, [.int .u32 (.ofNat 2292186144)], .tup [RbM25v94,.int .i64 (.ofNat 0)]),
  (59, [.int .u32 (.ofNat 3556769793)], .tup [RbM25v57,.int .i64 (.ofNat 0)]),
  (59, [.int .u32 (.ofNat 2296380417)], .tup [RbM25v95,.int .i64 (.ofNat 0)]),
  (59, [.int .u32 (.ofNat 3107979265)], .tup [RbM25v96,.int .i64 (.ofNat 0)]),
  (59, [.int .u32 (.ofNat 3556769857)], .tup [RbM25v63,.int .i64 (.ofNat 0)]),
  (65, [RbM25v100,RbM25v51,.agg [.int .u64 (.ofNat 0),.int .u64 (.ofNat 0)],.bool true], .tup [RbM25v114,.int .i64 (.ofNat 0)]),
  (65, [RbM25v114,RbM25v52,.agg [.int .u64 (.ofNat 0),.int .u64 (.ofNat 0)],.bool true], .tup [RbM25v109,.int .i64 (.ofNat 0)]),
  (65, [RbM25v109,RbM25v53,.agg [.int .u64 (.ofNat 0),.int .u64 (.ofNat 0)],.bool true], .tup [RbM25v115,.int .i64 (.ofNat 0)]),
  (65, [RbM25v115,RbM25v54,.agg [.int .u64 (.ofNat 0),.int .u64 (.ofNat 0)],.bool true], .tup [RbM25v116,.int .i64 (.ofNat 0)]),
  (60, [RbM25v116,RbM25v93], .tup [.agg [.bool true,.int .i64 (.ofNat 65536),.int .i64 (.ofNat 4),.bool false,.bool false,.bool false,.int .u64 (.ofNat 1),.int .u64 (.ofNat 0)],.bool true]),
  (65, [RbM25v116,RbM25v93,.agg [.int .u64 (.ofNat 0),.int .u64 (.ofNat 0)],.bool true], .tup [RbM25v117,.int .i64 (.ofNat 0)]),
  (65, [RbM25v117,RbM25v53,.agg [.int .u64 (.ofNat 0),.int .u64 (.ofNat 0)],.bool true], .tup [RbM25v97,.int .i64 (.ofNat 0)]),
  (60, [RbM25v99,RbM25v94], .tup [.agg [.bool true,.int .i64 (.ofNat 65540),.int .i64 (.ofNat 4),.bool false,.bool false,.bool true,.int .u64 (.ofNat 1),.int .u64 (.ofNat 0)],.bool true]),
  (65, [RbM25v99,RbM25v94,.agg [.int .u64 (.ofNat 0),.int .u64 (.ofNat 0)],.bool true], .tup [.agg [.int .u64 (.ofNat 1),.int .u64 (.ofNat 65540),.int .u64 (.ofNat 0),.int .u64 (.ofNat 0),.int .u64 (.ofNat 0),.int .u64 (.ofNat 0),.int .u64 (.ofNat 0),.int .u64 (.ofNat 0),.int .u64 (.ofNat 0),.int .u64 (.ofNat 0),.int .u64 (.ofNat 0),.int .u64 (.ofNat 0),.int .u64 (.ofNat 0),.int .u64 (.ofNat 0),.int .u64 (.ofNat 0),.int .u64 (.ofNat 0),.int .u64 (.ofNat 0),.int .u64 (.ofNat 0),.int .u64 (.ofNat 0),.int .u64 (.ofNat 0),.int .u64 (.ofNat 0),.int .u64 (.ofNat 0),.int .u64 (.ofNat 0),.int .u64 (.ofNat 0),.int .u64 (.ofNat 0),.int .u64 (.ofNat 0),.int .u64 (.ofNat 0),.int .u64 (.ofNat 0),.int .u64 (.ofNat 65552),.int .u64 (.ofNat 0),.int .u64 (.ofNat 0),.int .i64 (.ofNat 9),.bool false,.bool false,.int .i64 (.ofNat 0),.int .i64 (.ofNat 0)],.int .i64 (.ofNat 0)]),
  (65, [RbM25v101,RbM25v52,.agg [.int .u64 (.ofNat 0),.int .u64 (.ofNat 0)],.bool true], .tup [RbM25v102,.int .i64 (.ofNat 0)]),
  (60, [RbM25v104,RbM25v95], .tup [.agg [.bool false,.int .i64 (.ofNat 65540),.int .i64 (.ofNat 4),.bool false,.bool true,.bool false,.int .u64 (.ofNat 0),.int .u64 (.ofNat 0)],.bool true]),
  (65, [RbM25v104,RbM25v95,.agg [.int .u64 (.ofNat 0),.int .u64 (.ofNat 0)],.bool true], .tup [RbM25v105,.int .i64 (.ofNat 0)]),
  (60, [.agg [.int .u64 (.ofNat 65536),.int .u64 (.ofNat 0),.int .u64 (.ofNat 0),.int .u64 (.ofNat 0),.int .u64 (.ofNat 0),.int .u64 (.ofNat 0),.int .u64 (.ofNat 0),.int .u64 (.ofNat 0),.int .u64 (.ofNat 0),.int .u64 (.ofNat 0),.int .u64 (.ofNat 0),.int .u64 (.ofNat 0),.int .u64 (.ofNat 0),.int .u64 (.ofNat 0),.int .u64 (.ofNat 0),.int .u64 (.ofNat 0),.int .u64 (.ofNat 0),.int .u64 (.ofNat 0),.int .u64 (.ofNat 0),.int .u64 (.ofNat 0),.int .u64 (.ofNat 0),.int .u64 (.ofNat 0),.int .u64 (.ofNat 0),.int .u64 (.ofNat 0),.int .u64 (.ofNat 0),.int .u64 (.ofNat 0),.int .u64 (.ofNat 0),.int .u64 (.ofNat 0),.int .u64 (.ofNat 66576),.int .u64 (.ofNat 0),.int .u64 (.ofNat 0),.int .i64 (.ofNat 7),.bool false,.bool false,.int .i64 (.ofNat 0),.int .i64 (.ofNat 0)],RbM25v96], RbM25v118),
  (27, [RbM25v28], .bool true),
  (52, [RbM25v30], .tup [.int .i64 (.ofNat 1),.int .i64 (.ofNat 1),.int .i64 (.ofNat 0)]),
  (59, [.int .u32 (.ofNat 956301344)], .tup [RbM25v108,.int .i64 (.ofNat 0)]),
  (65, [RbM25v100,RbM25v51,.agg [.int .u64 (.ofNat 0),.int .u64 (.ofNat 0)],.bool false], .tup [RbM25v114,.int .i64 (.ofNat 0)]),
  (65, [RbM25v114,RbM25v52,.agg [.int .u64 (.ofNat 0),.int .u64 (.ofNat 0)],.bool false], .tup [RbM25v109,.int .i64 (.ofNat 0)]),
  (65, [RbM25v110,RbM25v54,.agg [.int .u64 (.ofNat 0),.int .u64 (.ofNat 0)],.bool false], .tup [RbM25v119,.int .i64 (.ofNat 0)]),
  (60, [RbM25v119,RbM25v108], .tup [.agg [.bool true,.int .i64 (.ofNat 65536),.int .i64 (.ofNat 1),.bool false,.bool false,.bool false,.int .u64 (.ofNat 7),.int .u64 (.ofNat 0)],.bool true]),
  (65, [RbM25v119,RbM25v108,.agg [.int .u64 (.ofNat 0),.int .u64 (.ofNat 0)],.bool true], .tup [RbM25v120,.int .i64 (.ofNat 0)]),
  (65, [RbM25v120,RbM25v57,.agg [.int .u64 (.ofNat 0),.int .u64 (.ofNat 0)],.bool false], .tup [.agg [.int .u64 (.ofNat 7),.int .u64 (.ofNat 65536),.int .u64 (.ofNat 0),.int .u64 (.ofNat 0),.int .u64 (.ofNat 0),.int .u64 (.ofNat 0),.int .u64 (.ofNat 0),.int .u64 (.ofNat 0),.int .u64 (.ofNat 0),.int .u64 (.ofNat 0),.int .u64 (.ofNat 0),.int .u64 (.ofNat 0),.int .u64 (.ofNat 0),.int .u64 (.ofNat 0),.int .u64 (.ofNat 0),.int .u64 (.ofNat 0),.int .u64 (.ofNat 0),.int .u64 (.ofNat 0),.int .u64 (.ofNat 0),.int .u64 (.ofNat 0),.int .u64 (.ofNat 0),.int .u64 (.ofNat 0),.int .u64 (.ofNat 0),.int .u64 (.ofNat 0),.int .u64 (.ofNat 0),.int .u64 (.ofNat 0),.int .u64 (.ofNat 0),.int .u64 (.ofNat 0),.int .u64 (.ofNat 65552),.int .u64 (.ofNat 0),.int .u64 (.ofNat 0),.int .i64 (.ofNat 6),.bool false,.bool false,.int .i64 (.ofNat 0),.int .i64 (.ofNat 0)],.int .i64 (.ofNat 0)]),
  (4, [.str [118,97,114,32,120,32,117,51,50,32,59,32,118,97,114,32,102,32,97,51,50,32,59,32,116,104,114,101,97,100,32,123,32,119,114,105,116,101,32,120,32,61,32,49,32,59,32,115,116,111,114,101,32,114,101,108,32,102,32,61,32,49,32,59,32,125,32,116,104,114,101,97,100,32,123,32,108,101,116,32,97,32,61,32,108,111,97,100,32,97,99,113,32,102,32,59,32,112,114,105,110,116,32,114,101,97,100,32,120,32,59,32,125]], RbM25v111),
  (27, [RbM25v32], .bool true),
  (27, [RbM25v36], .bool true),
  (27, [RbM25v37], .bool true),
  (65, [RbM25v104,RbM25v95,.agg [.int .u64 (.ofNat 1),.int .u64 (.ofNat 0)],.bool true], .tup [RbM25v112,.int .i64 (.ofNat 0)]),
  (60, [.agg [.int .u64 (.ofNat 65536),.int .u64 (.ofNat 1),.int .u64 (.ofNat 0),.int .u64 (.ofNat 0),.int .u64 (.ofNat 0),.int .u64 (.ofNat 0),.int .u64 (.ofNat 0),.int .u64 (.ofNat 0),.int .u64 (.ofNat 0),.int .u64 (.ofNat 0),.int .u64 (.ofNat 0),.int .u64 (.ofNat 0),.int .u64 (.ofNat 0),.int .u64 (.ofNat 0),.int .u64 (.ofNat 0),.int .u64 (.ofNat 0),.int .u64 (.ofNat 0),.int .u64 (.ofNat 0),.int .u64 (.ofNat 0),.int .u64 (.ofNat 0),.int .u64 (.ofNat 0),.int .u64 (.ofNat 0),.int .u64 (.ofNat 0),.int .u64 (.ofNat 0),.int .u64 (.ofNat 0),.int .u64 (.ofNat 0),.int .u64 (.ofNat 0),.int .u64 (.ofNat 0),.int .u64 (.ofNat 66576),.int .u64 (.ofNat 0),.int .u64 (.ofNat 0),.int .i64 (.ofNat 7),.bool false,.bool false,.int .i64 (.ofNat 0),.int .i64 (.ofNat 0)],RbM25v96], RbM25v118),
  (27, [RbM25v40], .bool true),
  (27, [RbM25v41], .bool true),
  (27, [RbM25v43], .bool true),
  (27, [RbM25v44], .bool true)]
theorem RbM256_run : forced (allW (runG RbM25T5) RbM256) = true := by kernel_rfl
def RbM25T6 : List (Nat × List AV × AV) := RbM256 ++ RbM25T5
theorem RbM256_ok : MemoOK (ACall C) (memL RbM25T6) := memL_appW gtC (runG_ok RbM255_ok) RbM255_ok (of_forced RbM256_run)
def RbM257 : List (Nat × List AV × AV) := [
  (49, [RbM25v6], .int .i64 (.ofNat 0)),
  (14, [RbM25v6], .tup [RbM25v15,.int .i64 (.ofNat 8),.int .i64 (.ofNat 0)])]
theorem RbM257_run : forced (allW (runG RbM25T6) RbM257) = true := by kernel_rfl
def RbM25T7 : List (Nat × List AV × AV) := RbM257 ++ RbM25T6
theorem RbM257_ok : MemoOK (ACall C) (memL RbM25T7) := memL_appW gtC (runG_ok RbM256_ok) RbM256_ok (of_forced RbM257_run)
def RbM258 : List (Nat × List AV × AV) := [
  (9, [RbM25v28], .tup [.bool true,.int .i64 (.ofNat 0)])]
theorem RbM258_run : forced (allW (runG RbM25T7) RbM258) = true := by kernel_rfl
def RbM25T8 : List (Nat × List AV × AV) := RbM258 ++ RbM25T7
theorem RbM258_ok : MemoOK (ACall C) (memL RbM25T8) := memL_appW gtC (runG_ok RbM257_ok) RbM257_ok (of_forced RbM258_run)
def RbM25v121 : AV := .lst .dead 1 [.str [120],.int .i64 (.ofNat 65536),.int .i64 (.ofNat 1)]
def RbM259 : List (Nat × List AV × AV) := [
  (10, [RbM25v28], .tup [.int .i64 (.ofNat 0),.int .i64 (.ofNat 3),.bool true]),
  (49, [RbM25v106], .int .i64 (.ofNat 0)),
  (14, [RbM25v106], .tup [RbM25v121,.int .i64 (.ofNat 1),.int .i64 (.ofNat 0)])]
theorem RbM259_run : forced (allW (runG RbM25T8) RbM259) = true := by kernel_rfl
def RbM25T9 : List (Nat × List AV × AV) := RbM259 ++ RbM25T8
theorem RbM259_ok : MemoOK (ACall C) (memL RbM25T9) := memL_appW gtC (runG_ok RbM258_ok) RbM258_ok (of_forced RbM259_run)
def RbM2510 : List (Nat × List AV × AV) := [
  (9, [RbM25v32], .tup [.bool true,.int .i64 (.ofNat 0)])]
theorem RbM2510_run : forced (allW (runG RbM25T9) RbM2510) = true := by kernel_rfl
def RbM25T10 : List (Nat × List AV × AV) := RbM2510 ++ RbM25T9
theorem RbM2510_ok : MemoOK (ACall C) (memL RbM25T10) := memL_appW gtC (runG_ok RbM259_ok) RbM259_ok (of_forced RbM2510_run)
def RbM2511 : List (Nat × List AV × AV) := [
  (10, [RbM25v32], .tup [.int .i64 (.ofNat 0),.int .i64 (.ofNat 3),.bool true])]
theorem RbM2511_run : forced (allW (runG RbM25T10) RbM2511) = true := by kernel_rfl
def RbM25T11 : List (Nat × List AV × AV) := RbM2511 ++ RbM25T10
theorem RbM2511_ok : MemoOK (ACall C) (memL RbM25T11) := memL_appW gtC (runG_ok RbM2510_ok) RbM2510_ok (of_forced RbM2511_run)
def RbM2512 : List (Nat × List AV × AV) := [
  (9, [RbM25v36], .tup [.bool true,.int .i64 (.ofNat 0)])]
theorem RbM2512_run : forced (allW (runG RbM25T11) RbM2512) = true := by kernel_rfl
def RbM25T12 : List (Nat × List AV × AV) := RbM2512 ++ RbM25T11
theorem RbM2512_ok : MemoOK (ACall C) (memL RbM25T12) := memL_appW gtC (runG_ok RbM2511_ok) RbM2511_ok (of_forced RbM2512_run)
def RbM2513 : List (Nat × List AV × AV) := [
  (10, [RbM25v36], .tup [.int .i64 (.ofNat 0),.int .i64 (.ofNat 3),.bool true])]
theorem RbM2513_run : forced (allW (runG RbM25T12) RbM2513) = true := by kernel_rfl
def RbM25T13 : List (Nat × List AV × AV) := RbM2513 ++ RbM25T12
theorem RbM2513_ok : MemoOK (ACall C) (memL RbM25T13) := memL_appW gtC (runG_ok RbM2512_ok) RbM2512_ok (of_forced RbM2513_run)
def RbM2514 : List (Nat × List AV × AV) := [
  (9, [RbM25v37], .tup [.bool true,.int .i64 (.ofNat 0)])]
theorem RbM2514_run : forced (allW (runG RbM25T13) RbM2514) = true := by kernel_rfl
def RbM25T14 : List (Nat × List AV × AV) := RbM2514 ++ RbM25T13
theorem RbM2514_ok : MemoOK (ACall C) (memL RbM25T14) := memL_appW gtC (runG_ok RbM2513_ok) RbM2513_ok (of_forced RbM2514_run)
def RbM2515 : List (Nat × List AV × AV) := [
  (10, [RbM25v37], .tup [.int .i64 (.ofNat 0),.int .i64 (.ofNat 3),.bool true])]
theorem RbM2515_run : forced (allW (runG RbM25T14) RbM2515) = true := by kernel_rfl
def RbM25T15 : List (Nat × List AV × AV) := RbM2515 ++ RbM25T14
theorem RbM2515_ok : MemoOK (ACall C) (memL RbM25T15) := memL_appW gtC (runG_ok RbM2514_ok) RbM2514_ok (of_forced RbM2515_run)
def RbM2516 : List (Nat × List AV × AV) := [
  (9, [RbM25v40], .tup [.bool false,.int .i64 (.ofNat 0)])]
theorem RbM2516_run : forced (allW (runG RbM25T15) RbM2516) = true := by kernel_rfl
def RbM25T16 : List (Nat × List AV × AV) := RbM2516 ++ RbM25T15
theorem RbM2516_ok : MemoOK (ACall C) (memL RbM25T16) := memL_appW gtC (runG_ok RbM2515_ok) RbM2515_ok (of_forced RbM2516_run)
end
end Go.Proofs.YtiipdjhkcjbmkaaGreatDoor.rb
