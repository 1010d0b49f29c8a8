/- A part of the proof (part 4): see the last text. -/
import Derived.Test.YtggbkidckoecfaaGreatDoorRb3
import Derived.Test.YtggbkidckoecfaaGreatDoorRb1
import Derived.Test.YtggbkidckoecfaaGreatDoorRb2
import Derived.KernelRfl
import Derived.LaidLaws
import Derived.LaidHandle
import Derived.Lib.LaidU8
import Derived.Deep.DeepLaidRun
import Derived.Handed
import Derived.JoinedOf
import Derived.SevenTiedAt
import Derived.ProofKit
import Derived.Lib.Space
import Derived.ChangeArms
import Derived.SizedLaws
import Derived.Lib.DecodeN
set_option linter.unusedVariables false
set_option linter.unusedSimpArgs false
open BEq renaming rfl→ZW
open BitVec renaming ofInt→KT
open Bool renaming and_self→ZN, eq_false_iff→YV, eq_iff_iff→YG, false_eq_true→Yf, not_eq_false'→Z2, not_eq_false→ZV, not_eq_true'→Yu, not_eq_true→ZU, not_false→ZZ, not_true→Z0, true_eq_false→ZY
open ByteArray renaming mk→Wq
open Decidable renaming not_not→ZC
open Go.Addr renaming add→Zq
open Go.DataW renaming Trod→Zx, trod→Zj, weightsAll→Zm, weights→Zl
open Go.IntKind renaming bits→Wv, max→Zz, min→Zy, signed→Wu, wrap→Xv
open Go.Lib renaming decodeN→ZR, decode_at→ZS
open Go.Utf8 renaming decode→Wg
open Go.World renaming cells?_some→Zr
open Iff renaming rfl→ZA
open Int renaming not_lt→ZB, reduceBEq→ZX
open List renaming all_append→ZM, all_cons→Y6, any_eq_true→YW, append_nil→ZO, cons_append→Yi, drop_drop→Zt, drop_eq_getElem_cons→ZH, drop_succ_cons→ZD, drop_zero→Zv, findIdx?_cons→ZK, findIdx?→ZL, flatMap_cons→Zi, getElem?_append_left→XZ, getElem?_append_right→X0, getElem?_cons_succ→Zo, getElem?_cons_zero→Zn, getElem?_eq_getElem→Xc, getElem?_eq_some_iff→Wh, getElem?_map→Xb, length_append→ZG, length_drop→ZQ, length_eq_one_iff→Z3, length_take→Z1, mem_append→YB, mem_of_getElem?→Y7, sizeOf_lt_of_mem→ZT, take_add_one→ZP, take_append_of_le_length→ZI, take_length→Zw, take_of_length_le→ZJ
open Nat renaming add_assoc→WD, add_comm→ZF, add_mul→WT, add_zero→WW, eq_zero_or_pos→Zp, le_refl→hT, le_succ→W4, le_trans→At, lt_of_lt_of_le→AH, lt_succ_self→Y9, ne_of_lt→W5, one_mul→ZE, zero_add→W7, zero_le→WS, zero_mul→Zs
open Option renaming map_eq_some_iff→Zu, map_some→Wz, some→Wy
open Prod renaming fst→Zk
namespace Go.Proofs.YtggbkidckoecfaaGreatDoor.rb
open Rb
noncomputable section
def ju:List (Nat×List I×I):=[
  (96,[.str [118,97,114,32,116,104,114,101,97,100,32,115,116,114,117,99,116,32,117,110,105,111,110,32,112,97,99,107,101,100,32,117,56,32,117,49,54,32,117,51,50,32,117,54,52,32,97,56,32,97,49,54,32,97,51,50,32,97,54,52,32,97,49,50,56,32,108,101,116,32,115,101,116,32,119,114,105,116,101,32,115,116,111,114,101,32,108,111,97,100,50,32,115,116,111,114,101,50,32,102,101,110,99,101,32,105,102,32,101,108,115,101,32,119,104,105,108,101,32,112,114,105,110,116,32,114,101,97,100,32,108,111,97,100,32,97,100,100,32,115,119,97,112,32,99,97,115,32,114,108,120,32,97,99,113,32,114,101,108,32,115,99]],.av .dead 34 [.str [118,97,114],.str [116,104,114,101,97,100],.str [115,116,114,117,99,116],.str [117,110,105,111,110],.str [112,97,99,107,101,100],.str [117,56],.str [117,49,54],.str [117,51,50],.str [117,54,52],.str [97,56],.str [97,49,54],.str [97,51,50],.str [97,54,52],.str [97,49,50,56],.str [108,101,116],.str [115,101,116],.str [119,114,105,116,101],.str [115,116,111,114,101],.str [108,111,97,100,50],.str [115,116,111,114,101,50],.str [102,101,110,99,101],.str [105,102],.str [101,108,115,101],.str [119,104,105,108,101],.str [112,114,105,110,116],.str [114,101,97,100],.str [108,111,97,100],.str [97,100,100],.str [115,119,97,112],.str [99,97,115],.str [114,108,120],.str [97,99,113],.str [114,101,108],.str [115,99]]),
  (128,[.av .dead 34 [.str [118,97,114],.str [116,104,114,101,97,100],.str [115,116,114,117,99,116],.str [117,110,105,111,110],.str [112,97,99,107,101,100],.str [117,56],.str [117,49,54],.str [117,51,50],.str [117,54,52],.str [97,56],.str [97,49,54],.str [97,51,50],.str [97,54,52],.str [97,49,50,56],.str [108,101,116],.str [115,101,116],.str [119,114,105,116,101],.str [115,116,111,114,101],.str [108,111,97,100,50],.str [115,116,111,114,101,50],.str [102,101,110,99,101],.str [105,102],.str [101,108,115,101],.str [119,104,105,108,101],.str [112,114,105,110,116],.str [114,101,97,100],.str [108,111,97,100],.str [97,100,100],.str [115,119,97,112],.str [99,97,115],.str [114,108,120],.str [97,99,113],.str [114,101,108],.str [115,99]],.str [120]],.int .i64 (.negSucc 0)),
  (128,[.av .dead 34 [.str [118,97,114],.str [116,104,114,101,97,100],.str [115,116,114,117,99,116],.str [117,110,105,111,110],.str [112,97,99,107,101,100],.str [117,56],.str [117,49,54],.str [117,51,50],.str [117,54,52],.str [97,56],.str [97,49,54],.str [97,51,50],.str [97,54,52],.str [97,49,50,56],.str [108,101,116],.str [115,101,116],.str [119,114,105,116,101],.str [115,116,111,114,101],.str [108,111,97,100,50],.str [115,116,111,114,101,50],.str [102,101,110,99,101],.str [105,102],.str [101,108,115,101],.str [119,104,105,108,101],.str [112,114,105,110,116],.str [114,101,97,100],.str [108,111,97,100],.str [97,100,100],.str [115,119,97,112],.str [99,97,115],.str [114,108,120],.str [97,99,113],.str [114,101,108],.str [115,99]],.str [97]],.int .i64 (.negSucc 0)),
  (151,[.agg [.int .i64 (.ofNat 1),.int .i64 (.ofNat 2),.bool false,.av .dead 0 [],.int .i64 (.ofNat 0),.av .dead 0 []]],.int .i64 (.ofNat 1)),
  (177,[.agg [.int .i64 (.ofNat 1),.int .i64 (.ofNat 2),.bool false,.av .dead 0 [],.int .i64 (.ofNat 0),.av .dead 0 []]],.bool true),
  (110,[.av .dead 2 [.int .i64 (.ofNat 4),.int .u64 (.ofNat 0),.str [],.int .i64 (.ofNat 0),.int .i64 (.ofNat 0),.str [120],.av .dead 0 [],.av .dead 0 [],.int .i64 (.ofNat 1),.int .u64 (.ofNat 3),.str [],.int .i64 (.ofNat 0),.int .i64 (.ofNat 0),.str [],.av .dead 0 [],.av .dead 0 []]],.int .i64 (.ofNat 1)),
  (110,[.av .dead 1 [.int .i64 (.ofNat 2),.int .u64 (.ofNat 0),.str [97],.int .i64 (.ofNat 0),.int .i64 (.ofNat 0),.str [],.av .dead 0 [],.av .dead 0 []]],.int .i64 (.ofNat 0))]
def kr:List (Nat×List I×I):=[
  (59,[.str [118,97,114,32,120,32,117,49,54,32,59,32,116,104,114,101,97,100,32,123,32,108,101,116,32,97,32,61,32,40,32,114,101,97,100,32,120,32,43,32,51,32,41,32,59,32,119,114,105,116,101,32,120,32,61,32,97,32,59,32,112,114,105,110,116,32,97,32,59,32,125]],.aM [.agg [.av .dead 1 [.str [120],.int .i64 (.ofNat 1),.int .i64 (.ofNat 2),.bool false,.av .dead 0 [],.int .i64 (.ofNat 0),.av .dead 0 []],.av .dead 1 [.av .dead 3 [.int .i64 (.ofNat 1),.int .i64 (.ofNat 1),.str [97],.str [],.int .i64 (.ofNat 0),.str [],.av .dead 0 [],.av .dead 1 [.int .i64 (.ofNat 3),.int .u64 (.ofNat 0),.str [],.int .i64 (.ofNat 1),.int .i64 (.ofNat 0),.str [],.av .dead 0 [],.av .dead 2 [.int .i64 (.ofNat 4),.int .u64 (.ofNat 0),.str [],.int .i64 (.ofNat 0),.int .i64 (.ofNat 0),.str [120],.av .dead 0 [],.av .dead 0 [],.int .i64 (.ofNat 1),.int .u64 (.ofNat 3),.str [],.int .i64 (.ofNat 0),.int .i64 (.ofNat 0),.str [],.av .dead 0 [],.av .dead 0 []]],.av .dead 0 [],.av .dead 0 [],.int .i64 (.ofNat 3),.int .i64 (.ofNat 1),.str [],.str [],.int .i64 (.ofNat 0),.str [120],.av .dead 0 [],.av .dead 1 [.int .i64 (.ofNat 2),.int .u64 (.ofNat 0),.str [97],.int .i64 (.ofNat 0),.int .i64 (.ofNat 0),.str [],.av .dead 0 [],.av .dead 0 []],.av .dead 0 [],.av .dead 0 [],.int .i64 (.ofNat 10),.int .i64 (.ofNat 1),.str [],.str [],.int .i64 (.ofNat 0),.str [],.av .dead 0 [],.av .dead 1 [.int .i64 (.ofNat 2),.int .u64 (.ofNat 0),.str [97],.int .i64 (.ofNat 0),.int .i64 (.ofNat 0),.str [],.av .dead 0 [],.av .dead 0 []],.av .dead 0 [],.av .dead 0 []]]],.agg [.int .i64 (.ofNat 0),.int .i64 (.ofNat 0)]]),
  (152,[.agg [.int .i64 (.ofNat 1),.int .i64 (.ofNat 2),.bool false,.av .dead 0 [],.int .i64 (.ofNat 0),.av .dead 0 []]],.int .i64 (.ofNat 0))]
def lG:List (Nat×List I×I):=[
  (93,[.agg [.int .i64 (.ofNat 1),.int .i64 (.ofNat 2),.bool false,.av .dead 0 [],.int .i64 (.ofNat 0),.av .dead 0 []]],.aM [.agg [.int .i64 (.ofNat 2),.int .i64 (.ofNat 2)],.int .i64 (.ofNat 0)]),
  (133,[.av .dead 1 [.str [120],.int .i64 (.ofNat 1),.int .i64 (.ofNat 2),.bool false,.av .dead 0 [],.int .i64 (.ofNat 0),.av .dead 0 []],.agg [.str [120],.av .dead 0 []]],.aM [.agg [.int .i64 (.ofNat 1),.int .i64 (.ofNat 2),.bool false,.av .dead 0 [],.int .i64 (.ofNat 0),.av .dead 0 []],.int .i64 (.ofNat 0)])]
def nt:List (Nat×List I×I):=[
  (18,[.agg [.av .dead 1 [.str [120],.int .i64 (.ofNat 1),.int .i64 (.ofNat 2),.bool false,.av .dead 0 [],.int .i64 (.ofNat 0),.av .dead 0 []],.av .dead 1 [.av .dead 3 [.int .i64 (.ofNat 1),.int .i64 (.ofNat 1),.str [97],.str [],.int .i64 (.ofNat 0),.str [],.av .dead 0 [],.av .dead 1 [.int .i64 (.ofNat 3),.int .u64 (.ofNat 0),.str [],.int .i64 (.ofNat 1),.int .i64 (.ofNat 0),.str [],.av .dead 0 [],.av .dead 2 [.int .i64 (.ofNat 4),.int .u64 (.ofNat 0),.str [],.int .i64 (.ofNat 0),.int .i64 (.ofNat 0),.str [120],.av .dead 0 [],.av .dead 0 [],.int .i64 (.ofNat 1),.int .u64 (.ofNat 3),.str [],.int .i64 (.ofNat 0),.int .i64 (.ofNat 0),.str [],.av .dead 0 [],.av .dead 0 []]],.av .dead 0 [],.av .dead 0 [],.int .i64 (.ofNat 3),.int .i64 (.ofNat 1),.str [],.str [],.int .i64 (.ofNat 0),.str [120],.av .dead 0 [],.av .dead 1 [.int .i64 (.ofNat 2),.int .u64 (.ofNat 0),.str [97],.int .i64 (.ofNat 0),.int .i64 (.ofNat 0),.str [],.av .dead 0 [],.av .dead 0 []],.av .dead 0 [],.av .dead 0 [],.int .i64 (.ofNat 10),.int .i64 (.ofNat 1),.str [],.str [],.int .i64 (.ofNat 0),.str [],.av .dead 0 [],.av .dead 1 [.int .i64 (.ofNat 2),.int .u64 (.ofNat 0),.str [97],.int .i64 (.ofNat 0),.int .i64 (.ofNat 0),.str [],.av .dead 0 [],.av .dead 0 []],.av .dead 0 [],.av .dead 0 []]]]],.agg [.int .i64 (.ofNat 0),.int .i64 (.ofNat 0)]),
  (32,[.av .dead 1 [.str [120],.int .i64 (.ofNat 1),.int .i64 (.ofNat 2),.bool false,.av .dead 0 [],.int .i64 (.ofNat 0),.av .dead 0 []]],.aM [.av .dead 1 [.str [120],.int .i64 (.ofNat 65536),.int .i64 (.ofNat 2)],.int .i64 (.ofNat 2),.int .i64 (.ofNat 0)])]
def qD:List (Nat×List I×I):=[
  (138,[.av .dead 1 [.str [120],.int .i64 (.ofNat 1),.int .i64 (.ofNat 2),.bool false,.av .dead 0 [],.int .i64 (.ofNat 0),.av .dead 0 []],.agg [.str [120],.av .dead 0 []],.av .dead 0 []],.aM [.agg [.int .i64 (.ofNat 65536),.int .i64 (.ofNat 2),.int .i64 (.ofNat 1),.bool false,.int .i64 (.ofNat 0),.int .i64 (.ofNat 0)],.int .i64 (.ofNat 0)])]
def zC:List (Nat×List I×I):=[
  (8,[],.bool true)]
theorem NT:forced (kZ (my []) ju)=true:=by kernel_rfl
theorem zD:hj (aj C) (gI (ju++[])):=mr lD (ns zy) zy (dF NT)
theorem NU:forced (kZ (my (ju++[])) kr)=true:=by kernel_rfl
theorem Ev:hj (aj C) (gI (kr++(ju++[]))):=mr lD (ns zD) zD (dF NU)
theorem NV:forced (kZ (my (kr++(ju++[]))) lG)=true:=by kernel_rfl
theorem Ew:hj (aj C) (gI (lG++(kr++(ju++[])))):=mr lD (ns Ev) Ev (dF NV)
theorem NW:forced (kZ (my (lG++(kr++(ju++[])))) nt)=true:=by kernel_rfl
theorem Ex:hj (aj C) (gI (nt++(lG++(kr++(ju++[]))))):=mr lD (ns Ew) Ew (dF NW)
theorem NX:forced (kZ (my (nt++(lG++(kr++(ju++[]))))) qD)=true:=by kernel_rfl
theorem Ey:hj (aj C) (gI (qD++(nt++(lG++(kr++(ju++[])))))):=mr lD (ns Ex) Ex (dF NX)
theorem NY:forced (kZ (my (qD++(nt++(lG++(kr++(ju++[])))))) zC)=true:=by kernel_rfl
theorem NZ:hj (aj C) (gI (zC++(qD++(nt++(lG++(kr++(ju++[]))))))):=mr lD (ns Ey) Ey (dF NY)
theorem N0:forced (kZ (my (zC++(qD++(nt++(lG++(kr++(ju++[]))))))) [(8,[],.bool true)])=true:=by kernel_rfl
theorem N1:hj (aj C) (gI [(8,[],.bool true)]):=mr lD (ns NZ) zy (N:=[(8,[],.bool true)]) (dF N0)
end
end Go.Proofs.YtggbkidckoecfaaGreatDoor.rb

namespace Rb.K
end Rb.K

namespace Rb.S
open Go
open Go.Proofs.YtggbkidckoecfaaGreatDoor.rb (C)
def zE(Φ:ae)(c:I)(Q:ad):a:=λd b=>
 aQ (sl d 0) true (
 Do (bj false c) λe=>
 Do (N .eql e J) λf=>
 Q f b) (
 Q P b) (
 False)
def zF(Φ:ae)(d b:I)(Q:ad):a:=λe c=>
 aQ (sl e 0) true (
 Do (N .eql d J) λf=>
 U (zE Φ b Q) [f] c) (
 U (zE Φ b Q) [P] c) (
 False)
def zG(Φ:ae)(d e f:I)(Q:ad):a:=λg c=>
 aQ (sl g 0) true (
 Do (O c 13 true f) λh=>
 Do (ba [J,J,J,J,J,J,P,J,J,J,J,af 0,af 0] []) λi=>
 Do (ir false [.n,.n,.n,.n,.n,.n,.b,.n,.n,.n,.n,.n,.n] h i) λj=>
 U (zF Φ d e Q) [j] c) (
 U (zF Φ d e Q) [P] c) (
 False)
def zH(Φ:ae)(c:I)(Q:ad):a:=λd b=>
 aQ (sl d 0) true (
 Do (bj false c) λe=>
 Do (N .eql e J) λf=>
 Q f b) (
 Q P b) (
 False)
def zI(Φ:ae)(d b:I)(Q:ad):a:=λe c=>
 aQ (sl e 0) true (
 Do (N .eql d J) λf=>
 U (zH Φ b Q) [f] c) (
 U (zH Φ b Q) [P] c) (
 False)
def zJ(Φ:ae)(d e f:I)(Q:ad):a:=λg c=>
 aQ (sl g 0) true (
 Do (O c 13 true f) λh=>
 Do (ba [J,J,J,J,J,J,P,J,J,J,J,af 0,af 0] []) λi=>
 Do (ir false [.n,.n,.n,.n,.n,.n,.b,.n,.n,.n,.n,.n,.n] h i) λj=>
 U (zI Φ d e Q) [j] c) (
 U (zI Φ d e Q) [P] c) (
 False)
def zK(Φ:ae)(c d:I)(Q:ad):a:=λe b=>
 aQ (sl e 0) true (
 Do (M 14 d) λf=>
 Do (O b 1 false f) λg=>
Φ 12 [c,g] b λh i=>
 Q h i) (
 Q P b) (
 False)
def zL(Φ:ae)(e d b:I)(Q:ad):a:=λf c=>
 aQ (sl f 0) true (
 Do (M 13 b) λg=>
 Do (O c 1 false g) λh=>
 Do (N .eql e h) λi=>
 U (zK Φ d b Q) [i] c) (
 U (zK Φ d b Q) [P] c) (
 False)
def zM(Φ:ae)(d e f c:I)(Q:ad):a:=λg b=>
 aQ (sl g 0) true (
 Do (O b 13 true f) λh=>
 Do (M 0 c) λi=>
 Do (O b 13 true i) λj=>
Φ 11 [h,j] b λk l=>
 U (zL Φ d e c Q) [k] l) (
 U (zL Φ d e c Q) [P] b) (
 False)
def oO(Φ:ae)(Y m b c f d:I)(n:List I)(o:List I)(Q:ad):a:=λi g=>
 Do (N .neq (sl i 0) J) λp=>
 L p true (
Φ 8 [] g λq j=>
 aQ q true (
 Do (N .eql f (sl i 0)) λr=>
 U (zG Φ b c d Q) [r] j) (
 U (zG Φ b c d Q) [P] j) (
 False)) (
 Do (O g 2 true m) λs=>
Φ 9 [s,Y] g λt u=>
Φ 10 [t,(sl n 0),(sl o 0)] u λv w=>
 aJ (some (aR w true [J,J,J,J,J,J,P,J,J,J,J,af 0,af 0,J,ar,P])) λe x=>
 Do (ax x 16 e v) λh=>
 Do (M 15 e) λy=>
 Do (O h 1 false y) λz=>
 L z true (
Φ 8 [] h λA k=>
 aQ A true (
 Do (N .eql f (D 16)) λB=>
 U (zJ Φ b c d Q) [B] k) (
 U (zJ Φ b c d Q) [P] k) (
 False)) (
Φ 8 [] h λC l=>
 aQ C true (
 Do (N .eql f J) λE=>
 U (zM Φ b c d e Q) [E] l) (
 U (zM Φ b c d e Q) [P] l) (
 False)))
def mz(Φ:ae)(Y b c d e f j:I)(g:List I)(h:List I)(Q:ad):a:=λk i=>
 L (sl k 0) true (
 U (oO Φ Y b c d e f g h Q) [(D 1)] i) (
 U (oO Φ Y b c d e f g h Q) [j] i)
def tK(Φ:ae)(Y b:I)(c:List I)(Q:ad):a:=λd l=>
 Do (O l 2 true b) λn=>
Φ 6 [n,Y,(sl c 0),(sl d 0)] l λe o=>
 Do (bI 0 e) λp=>
 Do (bI 1 e) λi=>
 Do (bI 2 e) λj=>
 Do (bI 3 e) λk=>
 aJ (some (aR o true [J,J,J,J,J,J,P,J,J,J,J,af 0,af 0])) λf q=>
 Do (ax q 13 f p) λm=>
 Do (O m 2 true b) λr=>
Φ 7 [r] m λs g=>
 Do (j_ 1 1 false s) λh=>
 Do (N .eql h J) λt=>
 aQ t true (
 Do (N .lss Y J) λu=>
 aQ u false (
 Do (M 1 b) λv=>
 Do (O g 1 false v) λw=>
 Do (bj false w) λx=>
 Do (N .geq Y x) λy=>
 U (mz Φ Y b i j k f h c d Q) [y] g) (
 U (mz Φ Y b i j k f h c d Q) [bd] g) (
 False)) (
 U (mz Φ Y b i j k f h c d Q) [P] g) (
 False)
def tM(Φ:ae)(Y b c:I)(Q:ad):a:=λd e=>
 Do (N .gtr b (D 3000)) λf=>
 L f true (
 U (tK Φ Y c d Q) [(D 3000)] e) (
 U (tK Φ Y c d Q) [b] e)
def f3(Φ:ae)(a0 Y a b:I)(H:Z)(Q:ad):Prop:=
 aJ (bg H false 2 a0) λc d=>
 Do (bj false a) λe=>
 Do (N .gtr e (D 60)) λf=>
 L f true (
 Do (c6 2 a none (some (D 60)) none) λg=>
 U (tM Φ Y b c Q) [g] d) (
 U (tM Φ Y b c Q) [a] d)
noncomputable def Ez:bw:=bD C ⟨3,[9,14],[],none,[],[]⟩
def EA(Φ:ae)(Y f g h c:I)(Q:ad):a:=λp d=>
 Do (O d 2 true h) λi=>
Φ 19 [i,Y,f,g] d λb j=>
 Do (bI 0 b) λk=>
 Do (bI 1 b) λl=>
 Do (bI 2 b) λm=>
 Do (bI 3 b) λn=>
 Do (ax j 13 c k) λe=>
 Do (O e 13 true c) λo=>
 Q (.aM [o,l,m,n]) e
def tN(Φ:ae)(Y e f g b:I)(Q:ad):a:=λh c=>
 L (sl h 0) true (
 Do (ba [J,J,J,J,J,J,P,J,J,J,J,af 0,af 0] []) λi=>
 Do (ax c 13 b i) λd=>
 Do (O d 13 true b) λj=>
 Q (.aM [j,J,ar,(D 1)]) d) (
 U (EA Φ Y e f g b Q) [] c)
def f6(Φ:ae)(a0 Y f g:I)(H:Z)(Q:ad):Prop:=
 aJ (bg H false 2 a0) λb k=>
 aJ (some (aR k true [J,J,J,J,J,J,P,J,J,J,J,af 0,af 0])) λc h=>
 Do (O h 2 true b) λl=>
Φ 18 [l] h λm n=>
 aJ (some (aR n true [J,J])) λd o=>
 Do (ax o 2 d m) λa=>
 Do (M 1 d) λp=>
 Do (O a 1 false p) λq=>
 Do (N .neq q J) λr=>
 L r true (
 Do (ba [J,J,J,J,J,J,P,J,J,J,J,af 0,af 0] []) λs=>
 Do (M 1 d) λi=>
 Do (O a 1 false i) λj=>
 Do (ax a 13 c s) λe=>
(O e 1 false i=some j) ∧
(Do (O e 13 true c) λt=>
 Q (.aM [t,J,ar,j]) e)) (
 Do (N .lss Y J) λu=>
 aQ u false (
 Do (M 1 b) λv=>
 Do (O a 1 false v) λw=>
 Do (bj false w) λx=>
 Do (N .geq Y x) λy=>
 U (tN Φ Y f g b c Q) [y] a) (
 U (tN Φ Y f g b c Q) [bd] a) (
 False))
noncomputable def EB:bw:=bD C ⟨6,[8,12],[],none,[],[]⟩
def EC(Φ:ae)(b:ST)(c:LT)(Q:ad):a:=λf d=>
 Do (N .add (sl b.1 0) (D 1)) λe=>
 c ([e],d)
def ED(Φ:ae)(b g:I)(h:ST)(i:LT)(Q:ad):a:=λo c=>
 Do (M 1 g) λj=>
 Do (O c 6 true j) λk=>
Φ 22 [k] c λd e=>
 Do (N .neq d J) λl=>
 L l true (
 Do (ba [J,J] [(1,1,d)]) λm=>
 Do (ax e 2 b m) λf=>
 Do (O f 2 true b) λn=>
 Q n f) (
 U (EC Φ h i Q) [] e)
def tO(Φ:ae)(f b c:I)(d:ST)(g:LT)(Q:ad):BT:=λa h=>
 Do (N .lss (sl a.1 0) (sl d.1 0)) λi=>
 L i true (
 Do (M 0 f) λj=>
 Do (O a.2 1 false j) λk=>
 Do (aU none 7 k (sl a.1 0)) λl=>
 Do (M 0 l) λm=>
 Do (O a.2 1 false m) λn=>
 Do (M 0 c) λo=>
 Do (O a.2 1 false o) λp=>
 Do (N .eql n p) λq=>
 L q true (
 Do (ba [J,J] [(1,1,(D 7))]) λr=>
 Do (ax a.2 2 b r) λe=>
 Do (O e 2 true b) λs=>
 Q s e) (
 Do (N .add (sl a.1 0) (D 1)) λt=>
 h ([t],a.2))) (
 U (ED Φ b c d g Q) [] a.2)
def EE(Φ:ae)(b c d:I)(e:ST)(f:LT)(Q:ad):a:=λh g=>
 au (tO Φ b c d e f Q) ([J],g)
def tP(Φ:ae)(e b f:I)(g:ST)(h:LT)(Q:ad):a:=λi c=>
 L (sl i 0) true (
 Do (ba [J,J] [(1,1,(D 6))]) λj=>
 Do (ax c 2 b j) λd=>
 Do (O d 2 true b) λk=>
 Q k d) (
 U (EE Φ e b f g h Q) [] c)
def EF(Φ:ae)(b:I)(Q:ad):a:=λg d=>
 Do (ba [J,J] []) λe=>
 Do (ax d 2 b e) λc=>
 Do (O c 2 true b) λf=>
 Q f c
def qE(Φ:ae)(c d:I)(Q:ad):BT:=λa h=>
 Do (M 1 c) λi=>
 Do (O a.2 1 false i) λj=>
 Do (bj false j) λk=>
 Do (N .lss (sl a.1 0) k) λl=>
 L l true (
 Do (M 0 c) λm=>
 Do (O a.2 1 false m) λn=>
 Do (ba [ar,J,J,J,J] [(0,1,n)]) λo=>
 aJ (bg a.2 true 5 o) λe f=>
 Do (M 1 c) λp=>
 Do (O f 1 false p) λq=>
 Do (aU none 1 q (sl a.1 0)) λr=>
 Do (O f 1 false r) λs=>
Φ 24 [e,s,ar,(D 1)] f λE b=>
 Do (aO e) λt=>
 Do (M 3 t) λu=>
 Do (M 1 u) λv=>
 Do (O b 1 false v) λw=>
 Do (N .neq w J) λx=>
 L x true (
 Do (aO e) λy=>
 Do (M 3 y) λz=>
 Do (O b 2 true z) λA=>
 Do (ax b 2 d A) λg=>
 Do (O g 2 true d) λB=>
 Q B g) (
 Do (N .add (sl a.1 0) (D 1)) λC=>
 h ([C],b))) (
 U (EF Φ d Q) [] a.2)
def EG(Φ:ae)(d b:I)(Q:ad):a:=λn e=>
 Do (M 0 d) λi=>
 Do (O e 1 false i) λj=>
Φ 23 [j] e λc f=>
 Do (bI 0 c) λo=>
 Do (bI 1 c) λp=>
 Do (bI 2 c) λg=>
 Do (N .neq g J) λk=>
 L k true (
 Do (ba [J,J] [(1,1,g)]) λl=>
 Do (ax f 2 b l) λh=>
 Do (O h 2 true b) λm=>
 Q m h) (
 au (qE Φ d b Q) ([J],f))
def oP(Φ:ae)(b d:I)(Q:ad):BT:=λa f=>
 Do (M 0 b) λh=>
 Do (O a.2 1 false h) λi=>
 Do (bj false i) λj=>
 Do (N .lss (sl a.1 0) j) λk=>
 L k true (
 Do (M 0 b) λl=>
 Do (O a.2 1 false l) λm=>
 Do (aU none 7 m (sl a.1 0)) λn=>
 Do (O a.2 7 true n) λo=>
 aJ (some (aR a.2 true [.str [],J,J,P,ar,J,ar])) λc p=>
 Do (ax p 7 c o) λg=>
 Do (M 0 c) λq=>
 Do (O g 1 false q) λr=>
Φ 20 [r] g λs e=>
 Do (cM .not s) λt=>
 aQ t false (
 Do (M 0 c) λu=>
 Do (O e 1 false u) λv=>
Φ 21 [v] e λw x=>
 U (tP Φ b d c a f Q) [w] x) (
 U (tP Φ b d c a f Q) [bd] e) (
 False)) (
 U (EG Φ b d Q) [] a.2)
def zN(Φ:ae)(b c:I)(Q:ad):a:=λe d=>
 au (oP Φ b c Q) ([J],d)
def tQ(Φ:ae)(e b:I)(Q:ad):a:=λf c=>
 L (sl f 0) true (
 Do (ba [J,J] [(1,1,(D 12))]) λg=>
 Do (ax c 2 b g) λd=>
 Do (O d 2 true b) λh=>
 Q h d) (
 U (zN Φ e b Q) [] c)
def tS(Φ:ae)(b d:I)(Q:ad):a:=λe c=>
 aQ (sl e 0) false (
 Do (M 1 b) λf=>
 Do (O c 1 false f) λg=>
 Do (bj false g) λh=>
 Do (N .gtr h (D 8)) λi=>
 U (tQ Φ b d Q) [i] c) (
 U (tQ Φ b d Q) [bd] c) (
 False)
def f7(Φ:ae)(a0:I)(H:Z)(Q:ad):Prop:=
 aJ (bg H false 2 a0) λa d=>
 aJ (some (aR d true [J,J])) λc b=>
 Do (M 0 a) λe=>
 Do (O b 1 false e) λf=>
 Do (bj false f) λg=>
 Do (N .gtr g (D 32)) λh=>
 aQ h false (
 Do (M 1 a) λi=>
 Do (O b 1 false i) λj=>
 Do (bj false j) λk=>
 Do (N .eql k J) λl=>
 U (tS Φ a c Q) [l] b) (
 U (tS Φ a c Q) [bd] b) (
 False)
noncomputable def EH:bw:=bD C ⟨7,[2,4,94],[[3],[5],[10]],none,[],[]⟩
def f9(Φ:ae)(a0 Y:I)(H:Z)(Q:ad):Prop:=
 aJ (bg H false 2 a0) λb c=>
 Do (M 0 b) λe=>
 Do (O c 1 false e) λf=>
 Do (ba [ar,ar,ar,ar,J,J,J] [(0,1,f)]) λg=>
 aJ (bg c true 7 g) λd a=>
 Do (M 1 b) λh=>
 Do (O a 1 false h) λi=>
 Do (aU none 1 i Y) λj=>
 Do (O a 1 false j) λk=>
Φ 27 [d,k] a λm l=>
 Q d l
noncomputable def EI:bw:=bD C ⟨9,[9],[],none,[],[]⟩
def iL(Φ:ae)(c:LT)(Q:ad):a:=λb d=>
 Do (N .add (sl b 4) (D 1)) λe=>
 c ([(sl b 0),(sl b 1),(sl b 2),(sl b 3),e],d)
def tU(Φ:ae)(c:I)(b:ST)(d:LT)(Q:ad):a:=λe f=>
 Do (N .sub c (D 1)) λg=>
 Do (c6 1 (sl b.1 1) none (some g) none) λh=>
 U (iL Φ d Q) [(sl b.1 0),h,(sl b.1 2),(sl b.1 3),(sl e 0)] f
def tV(Φ:ae)(c d e:I)(f:ST)(g:LT)(h:List I)(Q:ad):a:=λo b=>
 Do (aU (some 2) 1 c J) λi=>
 Do (O b 1 false i) λj=>
 aJ (c9 b false 1 1 [af 0] [(0,1,j)]) λk l=>
 aJ (cX l true 1 8 e k) λm n=>
 U (iL Φ g Q) [(sl f.1 0),m,d,P,(sl h 0)] n
def oQ(Φ:ae)(l i r j c e:I)(d:ST)(f:LT)(Q:ad):a:=λg b=>
 Do (c6 1 (sl d.1 1) none (some r) none) λh=>
 Do (M 0 i) λs=>
 Do (O b 1 false s) λm=>
 Do (N .eql m (D 7)) λt=>
 L t true (
 Do (M 3 j) λu=>
 Do (M 3 u) λv=>
 Do (O b 1 false v) λw=>
 L w true (
 Do (aU (some 2) 1 c J) λx=>
 Do (O b 1 false x) λy=>
 Do (M 3 j) λz=>
 Do (M 4 z) λA=>
 Do (O b 1 false A) λB=>
 Do (M 3 j) λC=>
 Do (M 5 C) λE=>
 Do (O b 1 false E) λF=>
Φ 31 [y,B,F] b λG H=>
 Do (aU (some 2) 1 c J) λK=>
 Do (ax H 1 K G) λR=>
 U (tV Φ c e h d f g Q) [] R) (
 U (tV Φ c e h d f g Q) [] b)) (
 Do (N .eql m (D 9)) λS=>
 L S true (
 Do (M 2 i) λT=>
 Do (O b 1 false T) λV=>
 Do (M 3 i) λn=>
 Do (O b 1 false n) λo=>
 Do (aU (some 2) 1 c J) λW=>
 Do (O b 1 false W) λX=>
 Do (aU (some 2) 1 c (D 1)) λp=>
 Do (O b 1 false p) λq=>
 Do (aU none 1 l V) λY=>
 Do (ax b 1 Y X) λk=>
(O k 1 false n=some o) ∧
(O k 1 false p=some q) ∧
(Do (aU none 1 l o) λZ=>
 Do (ax k 1 Z q) λaa=>
 U (iL Φ f Q) [(sl d.1 0),h,e,P,(sl g 0)] aa)) (
 U (iL Φ f Q) [(sl d.1 0),h,e,P,(sl g 0)] b))
def lH(Φ:ae)(f g h i j c:I)(b:ST)(d:LT)(Q:ad):a:=λk e=>
 L (sl k 0) true (
 Do (N .sub (sl b.1 4) (D 1)) λl=>
 U (iL Φ d Q) [(sl b.1 0),(sl b.1 1),c,bd,l] e) (
 U (oQ Φ f g h i j c b d Q) [(sl b.1 4)] e)
def lI(Φ:ae)(c d e f g h:I)(b:ST)(i:LT)(Q:ad):a:=λk j=>
 aQ (sl k 0) true (
 Do (cM .not (sl b.1 3)) λl=>
 U (lH Φ c d e f g h b i Q) [l] j) (
 U (lH Φ c d e f g h b i Q) [P] j) (
 False)
def h9(Φ:ae)(Y h i j f k c:I)(b:ST)(l:LT)(Q:ad):a:=λF d=>
 Do (bj false Y) λp=>
 Do (N .eql (sl b.1 2) p) λq=>
 L q true (
 Do (O d 13 true c) λr=>
 Do (M 0 i) λs=>
 Do (ax d 13 s r) λm=>
 Do (O m 16 true i) λt=>
 Do (ax m 16 h t) λn=>
 Do (O n 16 true h) λu=>
 Q u n) (
 Do (aU none 2 Y (sl b.1 2)) λv=>
 Do (O d 2 true v) λw=>
 aJ (some (aR d true [af 0,af 0])) λg x=>
 Do (ax x 2 g w) λe=>
 Do (N .add (sl b.1 2) (D 1)) λo=>
 Do (M 0 f) λy=>
 Do (O e 1 false y) λz=>
 Do (N .eql z (D 8)) λA=>
 aQ A true (
 Do (M 3 c) λB=>
 Do (M 3 B) λC=>
 Do (O e 1 false C) λE=>
 U (lI Φ j f k c g o b l Q) [E] e) (
 U (lI Φ j f k c g o b l Q) [P] e) (
 False))
def EJ(Φ:ae)(b c:I)(Q:ad):a:=λj f=>
 Do (M 13 c) λg=>
 Do (ax f 1 g (D 1)) λd=>
 Do (O d 16 true c) λh=>
 Do (ax d 16 b h) λe=>
 Do (O e 16 true b) λi=>
 Q i e
def er(Φ:ae)(a0 Y h i k:I)(Q:ad):BT:=λa c=>
 Do (aO a0) λs=>
 Do (M 1 s) λt=>
 Do (O a.2 1 false t) λu=>
 Do (bj false u) λv=>
 Do (N .lss (sl a.1 4) v) λw=>
 L w true (
 Do (aO a0) λx=>
 Do (M 1 x) λy=>
 Do (O a.2 1 false y) λz=>
 Do (aU none 10 z (sl a.1 4)) λA=>
 Do (O a.2 10 true A) λB=>
 aJ (some (aR a.2 true [J,af 0,J,J,.str [],ar,J,J,J,J])) λd C=>
 Do (ax C 10 d B) λb=>
 Do (bj false (sl a.1 1)) λe=>
 Do (M 0 d) λE=>
 Do (O b 1 false E) λg=>
 Do (N .eql g (D 1)) λF=>
 L F true (
 Do (N .lss (sl a.1 0) (D 1)) λG=>
 L G true (
 Do (ba [J,J,J,J,J,J,P,J,J,J,J,af 0,af 0,J,ar,P] [(15,1,bd)]) λH=>
 Do (ax b 16 h H) λn=>
 Do (O n 16 true h) λK=>
 Q K n) (
 Do (N .sub (sl a.1 0) (D 1)) λR=>
 U (iL Φ c Q) [R,(sl a.1 1),(sl a.1 2),(sl a.1 3),(sl a.1 4)] b)) (
 Do (N .eql g (D 2)) λS=>
 L S true (
 Do (M 1 d) λT=>
 Do (O b 1 false T) λV=>
 aJ (c9 b false 1 1 [af 0] [(0,1,V)]) λW X=>
 aJ (cX X true 1 8 (sl a.1 1) W) λZ aa=>
 U (iL Φ c Q) [(sl a.1 0),Z,(sl a.1 2),(sl a.1 3),(sl a.1 4)] aa) (
 Do (N .eql g (D 3)) λab=>
 L ab true (
 Do (M 2 d) λac=>
 Do (O b 1 false ac) λag=>
 Do (aU none 1 k ag) λah=>
 Do (O b 1 false ah) λai=>
 aJ (c9 b false 1 1 [af 0] [(0,1,ai)]) λaj ak=>
 aJ (cX ak true 1 8 (sl a.1 1) aj) λal am=>
 U (iL Φ c Q) [(sl a.1 0),al,(sl a.1 2),(sl a.1 3),(sl a.1 4)] am) (
 Do (N .eql g (D 4)) λan=>
 L an true (
 Do (M 2 d) λao=>
 Do (O b 1 false ao) λap=>
 Do (N .sub e (D 1)) λaq=>
 Do (aU none 1 (sl a.1 1) aq) λau=>
 Do (O b 1 false au) λav=>
 Do (aU none 1 k ap) λaw=>
 Do (ax b 1 aw av) λay=>
 Do (N .sub e (D 1)) λaz=>
 Do (c6 1 (sl a.1 1) none (some az) none) λaA=>
 U (iL Φ c Q) [(sl a.1 0),aA,(sl a.1 2),(sl a.1 3),(sl a.1 4)] ay) (
 Do (N .eql g (D 5)) λaB=>
 L aB true (
 Do (M 2 d) λaC=>
 Do (O b 1 false aC) λaD=>
 Do (N .sub e (D 2)) λaE=>
 Do (aU none 1 (sl a.1 1) aE) λaF=>
 Do (O b 1 false aF) λaG=>
 Do (N .sub e (D 1)) λaH=>
 Do (aU none 1 (sl a.1 1) aH) λaI=>
 Do (O b 1 false aI) λaK=>
Φ 28 [aD,aG,aK] b λaL aM=>
 Do (N .sub e (D 2)) λaN=>
 Do (c6 1 (sl a.1 1) none (some aN) none) λaP=>
 aJ (c9 aM false 1 1 [af 0] [(0,1,aL)]) λaQ aS=>
 aJ (cX aS true 1 8 aP aQ) λaT aV=>
 U (iL Φ c Q) [(sl a.1 0),aT,(sl a.1 2),(sl a.1 3),(sl a.1 4)] aV) (
 Do (N .eql g (D 6)) λaW=>
 L aW true (
 Do (N .sub e (D 1)) λaX=>
 Do (aU none 1 (sl a.1 1) aX) λaY=>
 Do (O b 1 false aY) λaZ=>
 Do (M 1 d) λa1=>
 Do (O b 1 false a1) λa2=>
 Do (N .geq aZ a2) λa3=>
 L a3 true (
 Do (M 13 i) λa4=>
 Do (ax b 1 a4 (D 2)) λo=>
 Do (O o 16 true i) λa5=>
 Do (ax o 16 h a5) λp=>
 Do (O p 16 true h) λa6=>
 Q a6 p) (
 U (iL Φ c Q) [(sl a.1 0),(sl a.1 1),(sl a.1 2),(sl a.1 3),(sl a.1 4)] b)) (
 Do (N .eql g (D 11)) λa7=>
 L a7 true (
 Do (M 2 d) λa8=>
 Do (O b 1 false a8) λa9=>
 Do (N .sub a9 (D 1)) λa_=>
 U (iL Φ c Q) [(sl a.1 0),(sl a.1 1),(sl a.1 2),(sl a.1 3),a_] b) (
 Do (N .eql g (D 12)) λbb=>
 L bb true (
 Do (N .sub e (D 1)) λbc=>
 Do (aU none 1 (sl a.1 1) bc) λbe=>
 Do (O b 1 false be) λbf=>
 Do (N .eql bf (af 0)) λbg=>
 L bg true (
 Do (M 2 d) λbh=>
 Do (O b 1 false bh) λbi=>
 Do (N .sub bi (D 1)) λbk=>
 U (tU Φ e a c Q) [bk] b) (
 U (tU Φ e a c Q) [(sl a.1 4)] b)) (
 Do (N .eql g (D 13)) λbl=>
 L bl true (
 Do (M 14 i) λbm=>
 Do (O b 1 false bm) λbn=>
 Do (N .sub e (D 1)) λbo=>
 Do (aU none 1 (sl a.1 1) bo) λbp=>
 Do (O b 1 false bp) λbq=>
 aJ (c9 b false 1 1 [af 0] [(0,1,bq)]) λbr bs=>
 aJ (cX bs true 1 8 bn br) λbt bu=>
 Do (M 14 i) λbv=>
 Do (ax bu 1 bv bt) λbw=>
 Do (N .sub e (D 1)) λbx=>
 Do (c6 1 (sl a.1 1) none (some bx) none) λbz=>
 U (iL Φ c Q) [(sl a.1 0),bz,(sl a.1 2),(sl a.1 3),(sl a.1 4)] bw) (
 Do (O b 10 true d) λbA=>
Φ 29 [a0,bA,(sl a.1 1),(sl a.1 3)] b λq bB=>
 Do (bI 0 q) λbC=>
 Do (bI 1 q) λm=>
 aJ (some (aR bB true [J,J,J,J,J,J,P,J,J,J,J,af 0,af 0])) λf bD=>
 Do (ax bD 13 f bC) λj=>
 L (sl a.1 3) true (
 Do (N .sub (sl a.1 2) (D 1)) λbE=>
 Do (aU none 2 Y bE) λbF=>
 Do (aU (some 2) 1 bF J) λbG=>
 Do (O j 1 false bG) λbH=>
 Do (M 3 f) λbJ=>
 Do (M 4 bJ) λbK=>
 Do (O j 1 false bK) λbL=>
 Do (M 3 f) λbM=>
 Do (M 5 bM) λbN=>
 Do (O j 1 false bN) λbO=>
 Do (M 11 f) λbP=>
 Do (aU (some 2) 1 bP J) λbQ=>
 Do (O j 1 false bQ) λbR=>
Φ 30 [bH,bL,bO,bR] j λbS bT=>
 Do (M 11 f) λbU=>
 Do (aU (some 2) 1 bU J) λbV=>
 Do (ax bT 1 bV bS) λl=>
 Do (M 3 f) λbW=>
 Do (M 0 bW) λbX=>
 Do (M 1 bX) λbY=>
 Do (O l 1 false bY) λr=>
 Do (N .lss r (D 8)) λbZ=>
 L bZ true (
 Do (M 11 f) λb0=>
 Do (aU (some 2) 1 b0 J) λb1=>
 Do (O l 1 false b1) λb2=>
 Do (N .mul (D 8) r) λb3=>
 Do (gP .u64 b3) λb4=>
 Do (N .shl (af 1) b4) λb5=>
 Do (N .rem b2 b5) λb6=>
 Do (M 11 f) λb7=>
 Do (aU (some 2) 1 b7 J) λb8=>
 Do (ax l 1 b8 b6) λb9=>
 U (h9 Φ Y h i k d m f a c Q) [] b9) (
 U (h9 Φ Y h i k d m f a c Q) [] l)) (
 U (h9 Φ Y h i k d m f a c Q) [] j))))))))))) (
 U (EJ Φ h i Q) [] a.2)
def f10(Φ:ae)(a0 Y d:I)(H:Z)(Q:ad):Prop:=
 aJ (some (aR H true [J,J,J,J,J,J,P,J,J,J,J,af 0,af 0,J,ar,P])) λe f=>
 Do (ba [J,J,J,J,J,J,P,J,J,J,J,af 0,af 0,J,ar,P] []) λg=>
 aJ (some (aR f true [J,J,J,J,J,J,P,J,J,J,J,af 0,af 0,J,ar,P])) λa h=>
 Do (ax h 16 a g) λi=>
 aJ (c9 i false 1 0 [af 0] []) λj b=>
 Do (aO a0) λk=>
 Do (M 4 k) λl=>
 Do (O b 1 false l) λc=>
 aJ (lu b true 1 8 [af 0] c c) λm n=>
 au (er Φ a0 Y e a m Q) ([d,j,J,P,J],n)
noncomputable def EK:bw:=bD C ⟨10,[6,7,13,16,20,27,61,71,108,151,252],[[2,8,10,11,12]],none,[],[]⟩
def zO(Φ:ae)(c d:I)(Q:ad):a:=λe b=>
 aQ (sl e 0) true (
 Do (M 11 c) λf=>
 Do (O b 2 true f) λg=>
 Do (M 11 d) λh=>
 Do (O b 2 true h) λi=>
 Do (ir false [.n,.n] g i) λj=>
 Q j b) (
 Q P b) (
 False)
def zP(Φ:ae)(c d:I)(Q:ad):a:=λe b=>
 aQ (sl e 0) true (
 Do (M 10 c) λf=>
 Do (O b 1 false f) λg=>
 Do (M 10 d) λh=>
 Do (O b 1 false h) λi=>
 Do (N .eql g i) λj=>
 U (zO Φ c d Q) [j] b) (
 U (zO Φ c d Q) [P] b) (
 False)
def zQ(Φ:ae)(c d:I)(Q:ad):a:=λe b=>
 aQ (sl e 0) true (
 Do (M 9 c) λf=>
 Do (O b 1 false f) λg=>
 Do (M 9 d) λh=>
 Do (O b 1 false h) λi=>
 Do (N .eql g i) λj=>
 U (zP Φ c d Q) [j] b) (
 U (zP Φ c d Q) [P] b) (
 False)
def zR(Φ:ae)(d e:I)(Q:ad):a:=λf c=>
 aQ (sl f 0) true (
 Do (M 3 d) λg=>
 Do (O c 6 true g) λh=>
 Do (M 3 e) λi=>
 Do (O c 6 true i) λj=>
 Do (ir false [.n,.n,.n,.b,.n,.n] h j) λk=>
 U (zQ Φ d e Q) [k] c) (
 U (zQ Φ d e Q) [P] c) (
 False)
def zS(Φ:ae)(c d:I)(Q:ad):a:=λe b=>
 aQ (sl e 0) true (
 Do (M 2 c) λf=>
 Do (O b 1 false f) λg=>
 Do (M 2 d) λh=>
 Do (O b 1 false h) λi=>
 Do (N .eql g i) λj=>
 U (zR Φ c d Q) [j] b) (
 U (zR Φ c d Q) [P] b) (
 False)
def f11(Φ:ae)(a0 Y:I)(H:Z)(Q:ad):Prop:=
 aJ (bg H false 13 a0) λb d=>
 aJ (bg d false 13 Y) λc a=>
 Do (M 0 b) λe=>
 Do (O a 1 false e) λf=>
 Do (M 0 c) λg=>
 Do (O a 1 false g) λh=>
 Do (N .eql f h) λi=>
 aQ i true (
 Do (M 1 b) λj=>
 Do (O a 1 false j) λk=>
 Do (M 1 c) λl=>
 Do (O a 1 false l) λm=>
 Do (N .eql k m) λn=>
 U (zS Φ b c Q) [n] a) (
 U (zS Φ b c Q) [P] a) (
 False)
noncomputable def EL:bw:=bD C ⟨11,[],[],none,[],[]⟩
def tW(Φ:ae)(a0 Y:I)(Q:ad):BT:=λa b=>
 Do (bj false a0) λc=>
 Do (N .lss (sl a.1 0) c) λd=>
 L d true (
 Do (aU none 1 a0 (sl a.1 0)) λe=>
 Do (O a.2 1 false e) λf=>
 Do (aU none 1 Y (sl a.1 0)) λg=>
 Do (O a.2 1 false g) λh=>
 Do (N .neq f h) λi=>
 L i true (
 Q P a.2) (
 Do (N .add (sl a.1 0) (D 1)) λj=>
 b ([j],a.2))) (
 Q bd a.2)
def f12(Φ:ae)(a0 Y:I)(H:Z)(Q:ad):Prop:=
 Do (bj false a0) λa=>
 Do (bj false Y) λb=>
 Do (N .neq a b) λc=>
 L c true (
 Q P H) (
 au (tW Φ a0 Y Q) ([J],H))
noncomputable def EM:bw:=bD C ⟨12,[],[[5]],none,[],[]⟩
def EN(Φ:ae)(b:I)(Q:ad):a:=λg d=>
 Do (ba [J,J] []) λe=>
 Do (ax d 2 b e) λc=>
 Do (O c 2 true b) λf=>
 Q f c
def tX(Φ:ae)(f b g h:I)(Q:ad):BT:=λa i=>
 Do (N .lss (sl a.1 0) h) λj=>
 L j true (
 Do (aU none 1 g (sl a.1 0)) λk=>
 Do (O a.2 1 false k) λl=>
 Do (M 0 f) λm=>
 Do (O a.2 1 false m) λn=>
 Do (ba [ar,ar,J,J,J,J] [(0,1,n)]) λo=>
 aJ (bg a.2 true 6 o) λc p=>
Φ 46 [c,l,(D 1)] p λx q=>
Φ 47 [c] q λr d=>
 L r true (
 Do (aO c) λs=>
 Do (M 4 s) λt=>
 Do (O d 2 true t) λu=>
 Do (ax d 2 b u) λe=>
 Do (O e 2 true b) λv=>
 Q v e) (
 Do (N .add (sl a.1 0) (D 1)) λw=>
 i ([w],d))) (
 U (EN Φ b Q) [] a.2)
def zT(Φ:ae)(b c:I)(Q:ad):a:=λp e=>
 Do (M 0 b) λi=>
 Do (O e 1 false i) λj=>
Φ 45 [j] e λf d=>
 Do (N .neq f J) λk=>
 L k true (
 Do (ba [J,J] [(1,1,f)]) λl=>
 Do (ax d 2 c l) λg=>
 Do (O g 2 true c) λm=>
 Q m g) (
 Do (M 1 b) λn=>
 Do (O d 1 false n) λh=>
 Do (bj false h) λo=>
 au (tX Φ b c h o Q) ([J],d))
def tY(Φ:ae)(e b:I)(Q:ad):a:=λf c=>
 L (sl f 0) true (
 Do (ba [J,J] [(1,1,(D 12))]) λg=>
 Do (ax c 2 b g) λd=>
 Do (O d 2 true b) λh=>
 Q h d) (
 U (zT Φ e b Q) [] c)
def tZ(Φ:ae)(b d:I)(Q:ad):a:=λe c=>
 aQ (sl e 0) false (
 Do (M 1 b) λf=>
 Do (O c 1 false f) λg=>
 Do (bj false g) λh=>
 Do (N .gtr h (D 8)) λi=>
 U (tY Φ b d Q) [i] c) (
 U (tY Φ b d Q) [bd] c) (
 False)
def f18(Φ:ae)(a0:I)(H:Z)(Q:ad):Prop:=
 aJ (bg H false 2 a0) λa d=>
 aJ (some (aR d true [J,J])) λc b=>
 Do (M 0 a) λe=>
 Do (O b 1 false e) λf=>
 Do (bj false f) λg=>
 Do (N .gtr g (D 32)) λh=>
 aQ h false (
 Do (M 1 a) λi=>
 Do (O b 1 false i) λj=>
 Do (bj false j) λk=>
 Do (N .lss k (D 1)) λl=>
 U (tZ Φ a c Q) [l] b) (
 U (tZ Φ a c Q) [bd] b) (
 False)
noncomputable def EO:bw:=bD C ⟨18,[2,41],[[34]],none,[],[]⟩
def oR(Φ:ae)(e d:I)(Q:ad):a:=λp b=>
 Do (aO d) λj=>
 Do (M 7 j) λk=>
 Do (O b 13 true k) λl=>
 Do (aO d) λm=>
 Do (M 6 m) λf=>
 Do (O b 1 false f) λg=>
 Do (aO d) λn=>
 Do (M 3 n) λh=>
 Do (O b 1 false h) λi=>
 Do (ax b 13 e l) λc=>
(O c 1 false f=some g) ∧
(O c 1 false h=some i) ∧
(Do (O c 13 true e) λo=>
 Q (.aM [o,g,i,J]) c)
def f19(Φ:ae)(a0 Y h i:I)(H:Z)(Q:ad):Prop:=
 aJ (bg H false 2 a0) λe j=>
 aJ (some (aR j true [J,J,J,J,J,J,P,J,J,J,J,af 0,af 0])) λc f=>
 Do (M 0 e) λk=>
 Do (O f 1 false k) λl=>
 Do (ba [ar,ar,ar,ar,J,J,J,J,J,J,J,J,J,P,J,J,J,J,af 0,af 0,P,P] [(0,1,l),(1,1,h),(5,1,i)]) λm=>
 aJ (bg f true 22 m) λa d=>
 Do (M 1 e) λn=>
 Do (O d 1 false n) λo=>
 Do (aU none 1 o Y) λp=>
 Do (O d 1 false p) λq=>
Φ 48 [a,q,J] d λE b=>
 Do (aO a) λr=>
 Do (M 21 r) λs=>
 Do (O b 1 false s) λt=>
 L t true (
 Do (ba [J,J,J,J,J,J,P,J,J,J,J,af 0,af 0] []) λu=>
 Do (ax b 13 c u) λg=>
 Do (O g 13 true c) λv=>
 Q (.aM [v,J,ar,(D 16)]) g) (
 Do (aO a) λw=>
 Do (M 20 w) λx=>
 Do (O b 1 false x) λy=>
 Do (cM .not y) λz=>
 L z true (
 Do (aO a) λA=>
 Do (M 6 A) λB=>
 Do (ax b 1 B (D 1)) λC=>
 U (oR Φ c a Q) [] C) (
 U (oR Φ c a Q) [] b))
noncomputable def EP:bw:=bD C ⟨19,[8,18],[],none,[],[]⟩
def ER(Φ:ae)(b:ST)(c:LT)(Q:ad):a:=λf d=>
 Do (N .add (sl b.1 0) (D 1)) λe=>
 c ([e],d)
def nu(Φ:ae)(c:ST)(d:LT)(Q:ad):a:=λe b=>
 L (sl e 0) true (
 Q P b) (
 U (ER Φ c d Q) [] b)
def t_(Φ:ae)(e:I)(b:ST)(c:LT)(Q:ad):a:=λf d=>
 Do (cM .not (sl f 0)) λg=>
 aQ g true (
 Do (N .eql (sl b.1 0) J) λh=>
 aQ h false (
 Do (N .neq e (.int .u8 95)) λi=>
 aQ i true (
 Do (N .lss e (.int .u8 48)) λj=>
 aQ j false (
 Do (N .gtr e (.int .u8 57)) λk=>
 U (nu Φ b c Q) [k] d) (
 U (nu Φ b c Q) [bd] d) (
 False)) (
 U (nu Φ b c Q) [P] d) (
 False)) (
 U (nu Φ b c Q) [bd] d) (
 False)) (
 U (nu Φ b c Q) [P] d) (
 False)
def oS(Φ:ae)(a0:I)(Q:ad):BT:=λa c=>
 Do (bj true a0) λd=>
 Do (N .lss (sl a.1 0) d) λe=>
 L e true (
 Do (iZ a0 (sl a.1 0)) λb=>
 Do (N .geq b (.int .u8 97)) λf=>
 aQ f true (
 Do (N .leq b (.int .u8 122)) λg=>
 U (t_ Φ b a c Q) [g] a.2) (
 U (t_ Φ b a c Q) [P] a.2) (
 False)) (
 Q bd a.2)
def zU(Φ:ae)(a0:I)(Q:ad):a:=λc b=>
 au (oS Φ a0 Q) ([J],b)
def ua(Φ:ae)(a0:I)(Q:ad):a:=λc b=>
 L (sl c 0) true (
 Q P b) (
 U (zU Φ a0 Q) [] b)
def f20(Φ:ae)(a0:I)(H:Z)(Q:ad):Prop:=
 Do (bj true a0) λa=>
 Do (N .eql a J) λb=>
 aQ b false (
 Do (bj true a0) λc=>
 Do (N .gtr c (D 16)) λd=>
 U (ua Φ a0 Q) [d] H) (
 U (ua Φ a0 Q) [bd] H) (
 False)
noncomputable def ES:bw:=bD C ⟨20,[],[[3]],none,[],[]⟩
def ub(Φ:ae)(a0 b:I)(Q:ad):BT:=λa c=>
 Do (bj false b) λd=>
 Do (N .lss (sl a.1 0) d) λe=>
 L e true (
 Do (aU none 1 b (sl a.1 0)) λf=>
 Do (O a.2 1 false f) λg=>
 Do (N .eql g a0) λh=>
 L h true (
 Q bd a.2) (
 Do (N .add (sl a.1 0) (D 1)) λi=>
 c ([i],a.2))) (
 Q P a.2)
def f21(Φ:ae)(a0:I)(H:Z)(Q:ad):Prop:=
Φ 49 [] H λa b=>
 au (ub Φ a0 a Q) ([J],b)
noncomputable def ET:bw:=bD C ⟨21,[],[[4]],none,[],[]⟩
def qF(Φ:ae)(c:List I)(Q:ad):a:=λd b=>
 L (sl d 0) true (
 Q (D 9) b) (
 Q (sl c 0) b)
def qG(Φ:ae)(d:I)(Q:ad):a:=λb c=>
 Do (N .eql (sl b 0) J) λe=>
 aQ e true (
 Do (O c 6 true d) λf=>
Φ 52 [f] c λg h=>
 Do (j_ 4 1 false g) λi=>
 U (qF Φ b Q) [i] h) (
 U (qF Φ b Q) [P] c) (
 False)
def uc(Φ:ae)(b d:I)(Q:ad):a:=λe c=>
 L (sl e 0) true (
 U (qG Φ b Q) [(D 10)] c) (
 U (qG Φ b Q) [d] c)
def f22(Φ:ae)(a0:I)(H:Z)(Q:ad):Prop:=
 aJ (bg H false 6 a0) λa d=>
 Do (O d 6 true a) λe=>
Φ 50 [e] d λb c=>
 Do (N .eql b J) λf=>
 aQ f true (
 Do (O c 6 true a) λg=>
Φ 51 [g] c λh i=>
 U (uc Φ a b Q) [h] i) (
 U (uc Φ a b Q) [P] c) (
 False)
noncomputable def EU:bw:=bD C ⟨22,[],[],none,[],[]⟩
def EW(Φ:ae)(c:ST)(d:LT)(Q:ad):a:=λb e=>
 Do (N .add (sl c.1 2) (D 1)) λf=>
 d ([(sl b 0),(sl b 1),f],e)
def zV(Φ:ae)(a0 e:I)(b:ST)(h:LT)(Q:ad):a:=λf c=>
 Do (aU none 7 a0 (sl b.1 2)) λi=>
 Do (M 0 i) λj=>
 Do (O c 1 false j) λk=>
 Do (N .add (D 65536) (sl f 0)) λl=>
 Do (M 0 e) λm=>
 Do (O c 1 false m) λn=>
 Do (ba [J,J] [(0,1,l),(1,1,n)]) λo=>
 Do (ba [.str [],J,J] [(0,1,k),(1,2,o)]) λp=>
 aJ (c9 c false 3 1 [.str [],J,J] [(0,3,p)]) λq r=>
 aJ (cX r false 3 32 (sl b.1 0) q) λs d=>
 Do (M 0 e) λt=>
 Do (O d 1 false t) λu=>
 Do (N .add (sl f 0) u) λg=>
 Do (N .gtr g (D 65536)) λv=>
 L v true (
 Q (.aM [ar,J,(D 9)]) d) (
 U (EW Φ b h Q) [s,g] d)
def ud(Φ:ae)(a0 b:I)(c:ST)(d:LT)(Q:ad):BT:=λa e=>
 Do (M 1 b) λf=>
 Do (O a.2 1 false f) λg=>
 Do (N .rem (sl a.1 0) g) λh=>
 Do (N .neq h J) λi=>
 L i true (
 Do (N .add (sl a.1 0) (D 1)) λj=>
 e ([j],a.2)) (
 U (zV Φ a0 b c d Q) [(sl a.1 0)] a.2)
def EX(Φ:ae)(Q:ad):a:=λb c=>
 Q (.aM [(sl b 0),(sl b 1),J]) c
def oT(Φ:ae)(a0:I)(Q:ad):BT:=λa c=>
 Do (bj false a0) λd=>
 Do (N .lss (sl a.1 2) d) λe=>
 L e true (
 Do (aU none 7 a0 (sl a.1 2)) λf=>
 Do (M 1 f) λg=>
 Do (O a.2 6 true g) λh=>
Φ 52 [h] a.2 λi j=>
 aJ (some (aR j true [J,J,ar,ar,P])) λb k=>
 Do (ax k 5 b i) λl=>
 au (ud Φ a0 b a c Q) ([(sl a.1 1)],l)) (
 U (EX Φ Q) [(sl a.1 0),(sl a.1 1)] a.2)
def EY(Φ:ae)(a0:I)(Q:ad):a:=λc b=>
 au (oT Φ a0 Q) ([ar,J,J],b)
def ue(Φ:ae)(a0:I)(Q:ad):BT:=λa d=>
 Do (bj false a0) λe=>
 Do (N .lss (sl a.1 0) e) λf=>
 L f true (
 Do (aU none 7 a0 (sl a.1 0)) λg=>
 Do (M 1 g) λh=>
 Do (O a.2 6 true h) λi=>
Φ 22 [i] a.2 λb c=>
 Do (N .neq b J) λj=>
 L j true (
 Q (.aM [ar,J,b]) c) (
 Do (N .add (sl a.1 0) (D 1)) λk=>
 d ([k],c))) (
 U (EY Φ a0 Q) [] a.2)
def f23(Φ:ae)(a0:I)(H:Z)(Q:ad):Prop:=
 au (ue Φ a0 Q) ([J],H)
noncomputable def EZ:bw:=bD C ⟨23,[10],[[6],[5,8,9],[8]],none,[],[]⟩
def zW(Φ:ae)(b:ST)(c:LT)(Q:ad):a:=λd e=>
 Do (N .add (sl b.1 1) (D 1)) λf=>
 c ([(sl d 0),f],e)
def uf(Φ:ae)(a0 c d:I)(g:ST)(h:LT)(b:List I)(Q:ad):a:=λp e=>
 Do (M 8 d) λi=>
 Do (O e 1 false i) λj=>
 Do (N .add c (D 1)) λk=>
Φ 24 [a0,j,(sl b 0),k] e λq f=>
 Do (M 9 d) λl=>
 Do (O f 1 false l) λm=>
 Do (N .add c (D 1)) λn=>
Φ 24 [a0,m,(sl b 0),n] f λr o=>
 U (zW Φ g h Q) [(sl b 0)] o
def ug(Φ:ae)(a0 f b:I)(g:ST)(h:LT)(Q:ad):a:=λc d=>
 Do (M 0 b) λj=>
 Do (O d 1 false j) λk=>
 Do (N .eql k (D 5)) λl=>
 L l true (
 Do (M 2 b) λm=>
 Do (O d 1 false m) λn=>
Φ 56 [(sl c 0),n] d λo p=>
Φ 53 [a0,o,(D 6)] p λA i=>
 Do (M 3 b) λq=>
 Do (O i 1 false q) λr=>
Φ 56 [(sl c 0),r] i λs t=>
Φ 53 [a0,s,(D 6)] t λB e=>
 Do (M 2 b) λu=>
 Do (O e 1 false u) λv=>
 Do (M 3 b) λw=>
 Do (O e 1 false w) λx=>
 Do (N .neq v x) λy=>
Φ 53 [a0,y,(D 7)] e λC z=>
 U (uf Φ a0 f b g h c Q) [] z) (
 U (uf Φ a0 f b g h c Q) [] d)
def oU(Φ:ae)(a0 e b:I)(c:ST)(f:LT)(Q:ad):a:=λz g=>
 Do (M 7 b) λi=>
 Do (O g 1 false i) λj=>
Φ 58 [a0,j,(sl c.1 0),e] g λA d=>
 Do (M 0 b) λk=>
 Do (O d 1 false k) λl=>
 Do (N .eql l (D 1)) λm=>
 L m true (
 Do (M 2 b) λn=>
 Do (O d 1 false n) λo=>
 aJ (c9 d false 1 1 [.str []] [(0,1,o)]) λp q=>
 aJ (cX q false 1 16 (sl c.1 0) p) λr h=>
 Do (aO a0) λs=>
 Do (M 1 s) λt=>
 Do (O h 1 false t) λu=>
 Do (N .add u (D 1)) λv=>
 Do (aO a0) λw=>
 Do (M 1 w) λx=>
 Do (ax h 1 x v) λy=>
 U (ug Φ a0 e b c f Q) [r] y) (
 U (ug Φ a0 e b c f Q) [(sl c.1 0)] d)
def uh(Φ:ae)(a0 f b:I)(c:ST)(g:LT)(Q:ad):a:=λr d=>
 Do (M 2 b) λh=>
 Do (O d 1 false h) λi=>
Φ 56 [(sl c.1 0),i] d λj k=>
 Do (cM .not j) λl=>
Φ 53 [a0,l,(D 7)] k λs e=>
 Do (aO a0) λm=>
 Do (M 1 m) λn=>
 Do (O e 1 false n) λo=>
 Do (N .lss o (D 40)) λp=>
Φ 53 [a0,p,(D 12)] e λt q=>
 U (oU Φ a0 f b c g Q) [] q
def ui(Φ:ae)(a0 d b:I)(e:ST)(f:LT)(Q:ad):a:=λg c=>
 L (sl g 0) true (
 Do (M 0 b) λh=>
 Do (O c 1 false h) λi=>
 Do (M 5 b) λj=>
 Do (O c 2 true j) λk=>
Φ 57 [a0,i,k,(sl e.1 0),d] c λm l=>
 U (oU Φ a0 d b e f Q) [] l) (
 U (oU Φ a0 d b e f Q) [] c)
def E0(Φ:ae)(a0 e b:I)(d:ST)(f:LT)(Q:ad):a:=λK c=>
 Do (M 0 b) λh=>
 Do (O c 1 false h) λi=>
 Do (N .eql i (D 1)) λj=>
 L j true (
 Do (M 2 b) λk=>
 Do (O c 1 false k) λl=>
Φ 20 [l] c λm g=>
 aQ m true (
 Do (M 2 b) λn=>
 Do (O g 1 false n) λo=>
Φ 21 [o] g λp q=>
 Do (cM .not p) λr=>
Φ 53 [a0,r,(D 6)] q λR s=>
 U (uh Φ a0 e b d f Q) [] s) (
Φ 53 [a0,P,(D 6)] g λS t=>
 U (uh Φ a0 e b d f Q) [] t) (
 False)) (
 Do (M 0 b) λu=>
 Do (O c 1 false u) λv=>
 Do (N .eql v (D 2)) λw=>
 L w true (
 Do (M 2 b) λx=>
 Do (O c 1 false x) λy=>
Φ 56 [(sl d.1 0),y] c λz A=>
Φ 53 [a0,z,(D 6)] A λT B=>
 U (oU Φ a0 e b d f Q) [] B) (
 Do (M 0 b) λC=>
 Do (O c 1 false C) λE=>
 Do (N .geq E (D 3)) λF=>
 aQ F true (
 Do (M 0 b) λG=>
 Do (O c 1 false G) λH=>
 Do (N .leq H (D 6)) λJ=>
 U (ui Φ a0 e b d f Q) [J] c) (
 U (ui Φ a0 e b d f Q) [P] c) (
 False)))
def qH(Φ:ae)(a0 c d:I)(e:ST)(f:LT)(Q:ad):a:=λg b=>
 L (sl g 0) true (
 Q (.aM []) b) (
 U (E0 Φ a0 c d e f Q) [] b)
def uj(Φ:ae)(a0 d b:I)(e:ST)(f:LT)(Q:ad):a:=λg c=>
 aQ (sl g 0) false (
 Do (M 0 b) λh=>
 Do (O c 1 false h) λi=>
 Do (M 4 b) λj=>
 Do (O c 1 false j) λk=>
Φ 55 [i,k] c λl m=>
Φ 53 [a0,l,(D 11)] m λn o=>
 Do (cM .not n) λp=>
 U (qH Φ a0 d b e f Q) [p] o) (
 U (qH Φ a0 d b e f Q) [bd] c) (
 False)
def E1(Φ:ae)(a0 Y c:I)(d:ST)(f:LT)(Q:ad):a:=λz g=>
 Do (aU none 10 Y (sl d.1 1)) λi=>
 Do (O g 10 true i) λj=>
 aJ (some (aR g true [J,J,.str [],.str [],J,.str [],ar,ar,ar,ar])) λb k=>
 Do (ax k 10 b j) λh=>
 Do (M 1 b) λl=>
 Do (O h 1 false l) λm=>
 Do (aO a0) λn=>
 Do (M 2 n) λo=>
 Do (ax h 1 o m) λp=>
 Do (N .leq c (D 64)) λq=>
Φ 53 [a0,q,(D 5)] p λr e=>
 Do (cM .not r) λs=>
 aQ s false (
 Do (O e 10 true b) λt=>
Φ 54 [t] e λu v=>
Φ 53 [a0,u,(D 4)] v λw x=>
 Do (cM .not w) λy=>
 U (uj Φ a0 c b d f Q) [y] x) (
 U (uj Φ a0 c b d f Q) [bd] e) (
 False)
def uk(Φ:ae)(a0 Y c:I)(d:ST)(e:LT)(Q:ad):a:=λf b=>
 L (sl f 0) true (
 U (E1 Φ a0 Y c d e Q) [] b) (
 Q (.aM []) b)
def lJ(Φ:ae)(a0 Y b:I)(Q:ad):BT:=λa c=>
 Do (bj false Y) λd=>
 Do (N .lss (sl a.1 1) d) λe=>
 aQ e true (
 Do (aO a0) λf=>
 Do (M 3 f) λg=>
 Do (M 1 g) λh=>
 Do (O a.2 1 false h) λi=>
 Do (N .eql i J) λj=>
 U (uk Φ a0 Y b a c Q) [j] a.2) (
 U (uk Φ a0 Y b a c Q) [P] a.2) (
 False)
def f24(Φ:ae)(a0 Y a b:I)(H:Z)(Q:ad):Prop:=
 aJ (c9 H false 1 0 [.str []] []) λc d=>
 aJ (cX d false 1 16 c a) λe f=>
 au (lJ Φ a0 Y b Q) ([e,J],f)
noncomputable def E2:bw:=bD C ⟨24,[10],[[8,9]],none,[],[]⟩
def jv(Φ:ae)(b:ST)(c:LT)(Q:ad):a:=λf d=>
 Do (N .add (sl b.1 0) (D 1)) λe=>
 c ([e],d)
def um(Φ:ae)(a0 c k:I)(d:ST)(e:LT)(Q:ad):a:=λl f=>
 L (sl l 0) true (
 Do (aO a0) λm=>
 Do (M 1 m) λn=>
 Do (O f 1 false n) λo=>
 Do (bj false o) λp=>
 Do (ba [J,af 0,J,J,.str [],ar,J,J,J,J] [(0,1,(D 12))]) λq=>
Φ 60 [a0,q] f λai i=>
 Do (M 8 c) λr=>
 Do (O i 1 false r) λs=>
Φ 27 [a0,s] i λaj j=>
 Do (aO a0) λt=>
 Do (M 1 t) λu=>
 Do (O j 1 false u) λv=>
 Do (bj false v) λw=>
 Do (ba [J,af 0,J,J,.str [],ar,J,J,J,J] [(0,1,(D 11)),(2,1,k)]) λx=>
Φ 60 [a0,x] j λak g=>
 Do (aO a0) λy=>
 Do (M 1 y) λz=>
 Do (O g 1 false z) λA=>
 Do (aO a0) λB=>
 Do (M 1 B) λC=>
 Do (O g 1 false C) λE=>
 Do (bj false E) λF=>
 Do (aU none 10 A p) λG=>
 Do (M 2 G) λH=>
 Do (ax g 1 H F) λb=>
 Do (M 0 c) λK=>
 Do (O b 1 false K) λP=>
 Do (N .eql P (D 8)) λR=>
 L R true (
 Do (M 9 c) λS=>
 Do (O b 1 false S) λT=>
Φ 27 [a0,T] b λal h=>
 Do (aO a0) λV=>
 Do (M 1 V) λW=>
 Do (O h 1 false W) λX=>
 Do (aO a0) λY=>
 Do (M 1 Y) λZ=>
 Do (O h 1 false Z) λaa=>
 Do (bj false aa) λab=>
 Do (aU none 10 X w) λac=>
 Do (M 2 ac) λag=>
 Do (ax h 1 ag ab) λah=>
 U (jv Φ d e Q) [] ah) (
 U (jv Φ d e Q) [] b)) (
 U (jv Φ d e Q) [] f)
def nw(Φ:ae)(a0 b r g:I)(d:ST)(e:LT)(Q:ad):a:=λv c=>
 L (sl v 0) true (
 Do (aO a0) λw=>
 Do (M 5 w) λx=>
 Do (O c 1 false x) λy=>
 Do (N .add y (D 1)) λz=>
 Do (aO a0) λA=>
 Do (M 5 A) λB=>
 Do (ax c 1 B z) λh=>
 Do (M 5 b) λC=>
 Do (O h 2 true C) λE=>
 Do (M 0 b) λF=>
 Do (O h 1 false F) λG=>
 Do (M 4 b) λH=>
 Do (O h 1 false H) λK=>
 Do (aO a0) λP=>
 Do (M 5 P) λR=>
 Do (O h 1 false R) λS=>
 Do (ba [J,af 0,J,J,.str [],ar,J,J,J,J] [(0,1,(D 8)),(4,2,E),(6,1,G),(7,1,K),(8,1,S)]) λT=>
Φ 60 [a0,T] h λaJ V=>
 U (jv Φ d e Q) [] V) (
 Do (N .eql g (D 5)) λW=>
 L W true (
 Do (aO a0) λX=>
 Do (M 5 X) λY=>
 Do (O c 1 false Y) λZ=>
 Do (N .add Z (D 1)) λaa=>
 Do (aO a0) λab=>
 Do (M 5 ab) λac=>
 Do (ax c 1 ac aa) λf=>
 Do (M 5 b) λk=>
 Do (O f 2 true k) λl=>
 Do (M 4 b) λm=>
 Do (O f 1 false m) λn=>
 Do (aO a0) λag=>
 Do (M 5 ag) λo=>
 Do (O f 1 false o) λp=>
 Do (M 2 b) λah=>
 Do (O f 1 false ah) λai=>
 Do (M 3 b) λs=>
 Do (O f 1 false s) λt=>
Φ 63 [a0,ai] f λaj i=>
(O i 2 true k=some l) ∧
(O i 1 false m=some n) ∧
(O i 1 false o=some p) ∧
(O i 1 false s=some t) ∧
(Φ 63 [a0,t] i λak j=>
(O j 2 true k=some l) ∧
(O j 1 false m=some n) ∧
(O j 1 false o=some p) ∧
(Do (ba [J,af 0,J,J,.str [],ar,J,J,J,J] [(0,1,(D 9)),(4,2,l),(7,1,n),(8,1,p),(2,1,aj),(3,1,ak)]) λal=>
Φ 60 [a0,al] j λaK am=>
 U (jv Φ d e Q) [] am))) (
 Do (N .eql g (D 7)) λan=>
 L an true (
 Do (aO a0) λao=>
 Do (M 5 ao) λap=>
 Do (O c 1 false ap) λaq=>
 Do (N .add aq (D 1)) λau=>
 Do (aO a0) λav=>
 Do (M 5 av) λaw=>
 Do (ax c 1 aw au) λq=>
 Do (M 4 b) λay=>
 Do (O q 1 false ay) λaz=>
 Do (aO a0) λaA=>
 Do (M 5 aA) λaB=>
 Do (O q 1 false aB) λaC=>
 Do (ba [J,af 0,J,J,.str [],ar,J,J,J,J] [(0,1,(D 10)),(7,1,az),(8,1,aC)]) λaD=>
Φ 60 [a0,aD] q λaL aE=>
 U (jv Φ d e Q) [] aE) (
 Do (N .eql g (D 10)) λaF=>
 L aF true (
 Do (ba [J,af 0,J,J,.str [],ar,J,J,J,J] [(0,1,(D 13))]) λaG=>
Φ 60 [a0,aG] c λaM aH=>
 U (jv Φ d e Q) [] aH) (
 Do (N .eql g (D 8)) λu=>
 L u true (
 U (um Φ a0 b r d e Q) [u] c) (
 Do (N .eql g (D 9)) λaI=>
 U (um Φ a0 b r d e Q) [aI] c)))))
def zX(Φ:ae)(a0 d g:I)(e:ST)(f:LT)(Q:ad):a:=λaq b=>
 Do (M 0 d) λm=>
 Do (O b 1 false m) λc=>
 Do (N .eql c (D 1)) λn=>
 L n true (
 Do (aO a0) λo=>
 Do (M 2 o) λp=>
 Do (O b 1 false p) λq=>
 Do (M 2 d) λr=>
 Do (O b 1 false r) λs=>
 aJ (c9 b false 1 1 [.str []] [(0,1,s)]) λt u=>
 aJ (cX u true 1 16 q t) λv w=>
 Do (aO a0) λx=>
 Do (M 2 x) λy=>
 Do (ax w 1 y v) λh=>
 Do (aO a0) λz=>
 Do (M 3 z) λA=>
 Do (O h 1 false A) λB=>
 Do (aO a0) λC=>
 Do (M 4 C) λE=>
 Do (O h 1 false E) λF=>
 aJ (c9 h false 1 1 [J] [(0,1,F)]) λG H=>
 aJ (cX H true 1 8 B G) λK P=>
 Do (aO a0) λR=>
 Do (M 3 R) λS=>
 Do (ax P 1 S K) λi=>
 Do (aO a0) λT=>
 Do (M 4 T) λV=>
 Do (O i 1 false V) λW=>
 Do (ba [J,af 0,J,J,.str [],ar,J,J,J,J] [(0,1,(D 4)),(2,1,W)]) λX=>
Φ 60 [a0,X] i λau j=>
 Do (aO a0) λY=>
 Do (M 4 Y) λZ=>
 Do (O j 1 false Z) λaa=>
 Do (N .add aa (D 1)) λab=>
 Do (aO a0) λac=>
 Do (M 4 ac) λag=>
 Do (ax j 1 ag ab) λah=>
 U (jv Φ e f Q) [] ah) (
 Do (N .eql c (D 2)) λai=>
 L ai true (
 Do (M 2 d) λaj=>
 Do (O b 1 false aj) λak=>
Φ 63 [a0,ak] b λal am=>
 Do (ba [J,af 0,J,J,.str [],ar,J,J,J,J] [(0,1,(D 4)),(2,1,al)]) λan=>
Φ 60 [a0,an] am λav ao=>
 U (jv Φ e f Q) [] ao) (
 Do (N .eql c (D 3)) λk=>
 L k true (
 U (nw Φ a0 d g c e f Q) [k] b) (
 Do (N .eql c (D 4)) λl=>
 L l true (
 U (nw Φ a0 d g c e f Q) [l] b) (
 Do (N .eql c (D 6)) λap=>
 U (nw Φ a0 d g c e f Q) [ap] b))))
def uo(Φ:ae)(a0 b c:I)(d:ST)(e:LT)(Q:ad):BT:=λa f=>
 Do (M 7 b) λg=>
 Do (O a.2 1 false g) λh=>
 Do (bj false h) λi=>
 Do (N .lss (sl a.1 0) i) λj=>
 L j true (
 Do (M 7 b) λk=>
 Do (O a.2 1 false k) λl=>
 Do (aU none 8 l (sl a.1 0)) λm=>
 Do (O a.2 8 true m) λn=>
Φ 62 [a0,n] a.2 λq o=>
 Do (N .add (sl a.1 0) (D 1)) λp=>
 f ([p],o)) (
 U (zX Φ a0 b c d e Q) [] a.2)
def E3(Φ:ae)(a0 b:I)(Q:ad):a:=λr c=>
 Do (aO a0) λe=>
 Do (M 2 e) λf=>
 Do (O c 1 false f) λg=>
 Do (c6 1 g none (some b) none) λh=>
 Do (aO a0) λi=>
 Do (M 2 i) λj=>
 Do (ax c 1 j h) λd=>
 Do (aO a0) λk=>
 Do (M 3 k) λl=>
 Do (O d 1 false l) λm=>
 Do (c6 1 m none (some b) none) λn=>
 Do (aO a0) λo=>
 Do (M 3 o) λp=>
 Do (ax d 1 p n) λq=>
 Q (.aM []) q
def jX(Φ:ae)(a0 Y f:I)(Q:ad):BT:=λa g=>
 Do (bj false Y) λh=>
 Do (N .lss (sl a.1 0) h) λi=>
 L i true (
 Do (aU none 10 Y (sl a.1 0)) λj=>
 Do (O a.2 10 true j) λk=>
 aJ (some (aR a.2 true [J,J,.str [],.str [],J,.str [],ar,ar,ar,ar])) λb l=>
 Do (ax l 10 b k) λc=>
 Do (M 1 b) λm=>
 Do (O c 1 false m) λn=>
 Do (aO a0) λo=>
 Do (M 6 o) λp=>
 Do (ax c 1 p n) λq=>
 Do (ba [J,af 0,J,J,.str [],ar,J,J,J,J] [(0,1,(D 1))]) λr=>
Φ 60 [a0,r] q λy d=>
 Do (M 5 b) λs=>
 Do (O d 2 true s) λt=>
Φ 61 [a0,t] d λz e=>
 Do (aO a0) λu=>
 Do (M 1 u) λv=>
 Do (O e 1 false v) λw=>
 Do (bj false w) λx=>
 au (uo Φ a0 b x a g Q) ([J],e)) (
 U (E3 Φ a0 f Q) [] a.2)
def f27(Φ:ae)(a0 Y:I)(H:Z)(Q:ad):Prop:=
 Do (aO a0) λa=>
 Do (M 2 a) λb=>
 Do (O H 1 false b) λc=>
 Do (bj false c) λd=>
 au (jX Φ a0 Y d Q) ([J],H)
noncomputable def E4:bw:=bD C ⟨27,[6,69,82],[[5],[8]],none,[],[]⟩
def qI(Φ:ae)(Q:ad):a:=λc b=>
 L (sl c 0) true (
 Q (af 1) b) (
 Q (af 0) b)
def f28(Φ:ae)(a0 Y a:I)(H:Z)(Q:ad):Prop:=
 Do (N .eql a0 (D 1)) λb=>
 L b true (
 Do (N .add Y a) λc=>
 Q c H) (
 Do (N .eql a0 (D 2)) λd=>
 L d true (
 Do (N .sub Y a) λe=>
 Q e H) (
 Do (N .eql a0 (D 3)) λf=>
 L f true (
 Do (N .mul Y a) λg=>
 Q g H) (
 Do (N .eql a0 (D 4)) λh=>
 L h true (
 Do (N .and Y a) λi=>
 Q i H) (
 Do (N .eql a0 (D 5)) λj=>
 L j true (
 Do (N .or Y a) λk=>
 Q k H) (
 Do (N .eql a0 (D 6)) λl=>
 L l true (
 Do (N .xor Y a) λm=>
 Q m H) (
 Do (N .eql a0 (D 7)) λn=>
 L n true (
 Do (N .rem a (af 64)) λo=>
 Do (N .shl Y o) λp=>
 Q p H) (
 Do (N .eql a0 (D 8)) λq=>
 L q true (
 Do (N .rem a (af 64)) λr=>
 Do (N .shr Y r) λs=>
 Q s H) (
 Do (N .eql a0 (D 9)) λt=>
 L t true (
 Do (N .eql Y a) λu=>
 U (qI Φ Q) [u] H) (
 Do (N .eql a0 (D 10)) λv=>
 L v true (
 Do (N .neq Y a) λw=>
 U (qI Φ Q) [w] H) (
 Do (N .eql a0 (D 11)) λx=>
 L x true (
 Do (N .lss Y a) λy=>
 U (qI Φ Q) [y] H) (
 U (qI Φ Q) [P] H)))))))))))
noncomputable def E5:bw:=bD C ⟨28,[],[],none,[],[]⟩
def qJ(Φ:ae)(b e f g:I)(Q:ad):a:=λk c=>
 Do (O c 13 true e) λh=>
 Do (N .sub f g) λi=>
 Do (ax c 13 b h) λd=>
 Do (O d 13 true b) λj=>
 Q (.aM [j,i]) d
def uq(Φ:ae)(d b e f g:I)(Q:ad):a:=λh c=>
 L (sl h 0) true (
 Do (M 3 b) λi=>
 Do (M 3 i) λj=>
 Do (O c 1 false j) λk=>
 Do (cM .not k) λl=>
 L l true (
 Do (M 11 b) λm=>
 Do (aU (some 2) 1 m J) λn=>
 Do (O c 1 false n) λo=>
 Do (N .mul (D 8) g) λp=>
 Do (gP .u64 p) λq=>
 Do (N .shl (af 1) q) λr=>
 Do (N .rem o r) λs=>
 Do (M 11 b) λt=>
 Do (aU (some 2) 1 t J) λu=>
 Do (ax c 1 u s) λv=>
 U (qJ Φ d b e f Q) [] v) (
 U (qJ Φ d b e f Q) [] c)) (
 U (qJ Φ d b e f Q) [] c)
def ur(Φ:ae)(e b f g:I)(Q:ad):a:=λo c=>
 Do (M 3 b) λh=>
 Do (M 0 h) λi=>
 Do (M 1 i) λj=>
 Do (O c 1 false j) λd=>
 Do (M 0 b) λk=>
 Do (O c 1 false k) λl=>
 Do (N .eql l (D 2)) λm=>
 aQ m true (
 Do (N .lss d (D 8)) λn=>
 U (uq Φ e b f g d Q) [n] c) (
 U (uq Φ e b f g d Q) [P] c) (
 False)
def oV(Φ:ae)(d e b c f:I)(g:List I)(Q:ad):BT:=λa h=>
 Do (N .lss (sl a.1 0) (sl g 0)) λi=>
 L i true (
 Do (N .add c (sl a.1 0)) λj=>
 Do (aU none 1 d j) λk=>
 Do (O a.2 1 false k) λl=>
 Do (M 11 b) λm=>
 Do (aU (some 2) 1 m (sl a.1 0)) λn=>
 Do (ax a.2 1 n l) λo=>
 Do (N .add (sl a.1 0) (D 1)) λp=>
 h ([p],o)) (
 U (ur Φ e b c f Q) [] a.2)
def uu(Φ:ae)(g d b e f:I)(h:List I)(Q:ad):a:=λl c=>
 Do (M 0 b) λi=>
 Do (O c 1 false i) λj=>
 Do (N .gtr j (D 1)) λk=>
 L k true (
 au (oV Φ g d b e f h Q) ([J],c)) (
 U (ur Φ d b e f Q) [] c)
def uv(Φ:ae)(d l e b f g:I)(h:List I)(Q:ad):a:=λm c=>
 L (sl m 0) true (
 Do (M 6 l) λi=>
 Do (O c 1 false i) λj=>
 Do (M 0 b) λn=>
 Do (ax c 1 n (D 3)) λk=>
(O k 1 false i=some j) ∧
(Do (M 10 b) λo=>
 Do (ax k 1 o j) λp=>
 U (uu Φ d e b f g h Q) [] p)) (
 U (uu Φ d e b f g h Q) [] c)
def uw(Φ:ae)(d b e f g h:I)(i:List I)(Q:ad):a:=λp c=>
 Do (M 0 b) λj=>
 Do (O c 1 false j) λk=>
 Do (N .eql k (D 7)) λl=>
 aQ l true (
 Do (M 6 b) λm=>
 Do (O c 1 false m) λn=>
 Do (N .geq n (D 6)) λo=>
 U (uv Φ d b e f g h i Q) [o] c) (
 U (uv Φ d b e f g h i Q) [P] c) (
 False)
def qK(Φ:ae)(c d e b f g:I)(h:List I)(Q:ad):a:=λj i=>
 L (sl j 0) true (
 Do (M 0 b) λk=>
 Do (ax i 1 k (D 2)) λl=>
 U (uw Φ c d e b f g h Q) [] l) (
 U (uw Φ c d e b f g h Q) [] i)
def ny(Φ:ae)(a0 d m b i c:I)(Q:ad):a:=λg k=>
 Do (bj false d) λn=>
 Do (N .sub n (sl g 0)) λe=>
 Do (M 4 b) λo=>
 Do (O k 2 true o) λp=>
Φ 64 [p] k λh j=>
 Do (aO a0) λq=>
 Do (M 0 q) λr=>
 Do (O j 1 false r) λs=>
 Do (M 4 b) λt=>
 Do (O j 2 true t) λu=>
 Do (N .sub e h) λv=>
 Do (c6 1 d (some v) (some e) none) λw=>
Φ 65 [s,u,w] j λl x=>
 Do (bI 0 l) λy=>
 Do (bI 1 l) λL=>
 Do (M 3 c) λz=>
 Do (ax x 6 z y) λA=>
 Do (M 0 c) λB=>
 Do (ax A 1 B (D 1)) λf=>
 Do (M 0 b) λC=>
 Do (O f 1 false C) λE=>
 Do (N .eql E (D 8)) λF=>
 aQ F true (
 aQ m false (
 Do (M 3 c) λG=>
 Do (M 3 G) λH=>
 Do (O f 1 false H) λJ=>
 Do (cM .not J) λK=>
 U (qK Φ d b i c e h g Q) [K] f) (
 U (qK Φ d b i c e h g Q) [bd] f) (
 False)) (
 U (qK Φ d b i c e h g Q) [P] f) (
 False)
def ux(Φ:ae)(a0 b c d e f:I)(Q:ad):a:=λh g=>
 L (sl h 0) true (
 U (ny Φ a0 b c d e f Q) [(D 2)] g) (
 U (ny Φ a0 b c d e f Q) [J] g)
def qL(Φ:ae)(a0 d e b f g:I)(Q:ad):a:=λh c=>
 L (sl h 0) true (
 U (ny Φ a0 d e b f g Q) [(D 1)] c) (
 Do (M 0 b) λi=>
 Do (O c 1 false i) λj=>
 Do (N .eql j (D 7)) λk=>
 aQ k true (
 Do (M 6 b) λl=>
 Do (O c 1 false l) λm=>
 Do (N .eql m (D 8)) λn=>
 U (ux Φ a0 d e b f g Q) [n] c) (
 U (ux Φ a0 d e b f g Q) [P] c) (
 False))
def f29(Φ:ae)(a0 Y e f:I)(H:Z)(Q:ad):Prop:=
 aJ (bg H false 10 Y) λa i=>
 aJ (some (aR i true [J,J,J,J,J,J,P,J,J,J,J,af 0,af 0])) λc g=>
 Do (M 8 a) λj=>
 Do (O g 1 false j) λk=>
 Do (M 9 a) λl=>
 Do (O g 1 false l) λm=>
 Do (M 7 a) λn=>
 Do (O g 1 false n) λo=>
 Do (ba [J,J,J,J,J,J,P,J,J,J,J,af 0,af 0] [(0,1,(D 4)),(1,1,k),(2,1,m),(9,1,o)]) λp=>
 aJ (some (aR g true [J,J,J,J,J,J,P,J,J,J,J,af 0,af 0])) λd q=>
 Do (ax q 13 d p) λb=>
 Do (M 0 a) λr=>
 Do (O b 1 false r) λs=>
 Do (N .eql s (D 10)) λt=>
 L t true (
 Do (O b 13 true d) λu=>
 Do (bj false e) λv=>
 Do (ax b 13 c u) λh=>
 Do (O h 13 true c) λw=>
 Q (.aM [w,v]) h) (
 Do (M 0 a) λx=>
 Do (O b 1 false x) λy=>
 Do (N .eql y (D 8)) λz=>
 L z true (
 Do (M 6 a) λA=>
 Do (O b 1 false A) λB=>
 Do (N .eql B (D 6)) λC=>
 L C true (
 U (ny Φ a0 e f a c d Q) [(D 2)] b) (
 U (ny Φ a0 e f a c d Q) [(D 1)] b)) (
 Do (M 0 a) λE=>
 Do (O b 1 false E) λF=>
 Do (N .eql F (D 7)) λG=>
 aQ G true (
 Do (M 6 a) λK=>
 Do (O b 1 false K) λR=>
 Do (N .eql R (D 6)) λS=>
 aQ S false (
 Do (M 6 a) λT=>
 Do (O b 1 false T) λV=>
 Do (N .eql V (D 7)) λW=>
 U (qL Φ a0 e f a c d Q) [W] b) (
 U (qL Φ a0 e f a c d Q) [bd] b) (
 False)) (
 U (qL Φ a0 e f a c d Q) [P] b) (
 False)))
noncomputable def E6:bw:=bD C ⟨29,[8,10],[[14]],none,[],[]⟩
def E7(Φ:ae)(b:ST)(c:LT)(Q:ad):a:=λd e=>
 Do (N .add (sl b.1 1) (D 1)) λf=>
 c ([(sl d 0),f],e)
def uy(Φ:ae)(b:ST)(c:LT)(Q:ad):a:=λd e=>
 Do (gP .u64 (sl b.1 1)) λf=>
 Do (N .shl (sl d 0) f) λg=>
 Do (N .or (sl b.1 0) g) λh=>
 U (E7 Φ b c Q) [h] e
def uz(Φ:ae)(Y e f:I)(b:ST)(c:LT)(Q:ad):a:=λg d=>
 L (sl g 0) true (
 Do (N .sub (sl b.1 1) Y) λh=>
Φ 66 [e,h] d λi j=>
 U (uy Φ b c Q) [i] j) (
 U (uy Φ b c Q) [f] d)
def uA(Φ:ae)(Y g c d:I)(b:ST)(e:LT)(Q:ad):a:=λh f=>
 aQ (sl h 0) true (
 Do (N .sub (sl b.1 1) Y) λi=>
 Do (N .lss i g) λj=>
 U (uz Φ Y c d b e Q) [j] f) (
 U (uz Φ Y c d b e Q) [P] f) (
 False)
def nz(Φ:ae)(a0 Y a b:I)(Q:ad):BT:=λs1 c=>
 Do (N .lss (sl s1.1 1) (D 64)) λf=>
 L f true (
Φ 66 [a0,(sl s1.1 1)] s1.2 λd e=>
 Do (N .geq Y J) λg=>
 aQ g true (
 Do (N .leq Y (sl s1.1 1)) λh=>
 U (uA Φ Y a b d s1 c Q) [h] e) (
 U (uA Φ Y a b d s1 c Q) [P] e) (
 False)) (
 Q (sl s1.1 0) s1.2)
def f30(Φ:ae)(a0 Y a b:I)(H:Z)(Q:ad):Prop:=
 au (nz Φ a0 Y a b Q) ([(af 0),J],H)
noncomputable def E8:bw:=bD C ⟨30,[],[[9,10]],none,[],[]⟩
def E9(Φ:ae)(a0 Y:I)(b:ST)(c:LT)(Q:ad):a:=λl d=>
 Do (N .add Y (sl b.1 1)) λe=>
Φ 66 [a0,e] d λf g=>
 Do (gP .u64 (sl b.1 1)) λh=>
 Do (N .shl f h) λi=>
 Do (N .or (sl b.1 0) i) λj=>
 Do (N .add (sl b.1 1) (D 1)) λk=>
 c ([j,k],g)
def oW(Φ:ae)(a0 Y:I)(b:ST)(d:LT)(Q:ad):a:=λe c=>
 L (sl e 0) true (
 U (E9 Φ a0 Y b d Q) [] c) (
 Q (sl b.1 0) c)
def qM(Φ:ae)(a0 Y c:I)(Q:ad):BT:=λa b=>
 Do (N .lss (sl a.1 1) c) λd=>
 aQ d true (
 Do (N .lss (sl a.1 1) (D 64)) λe=>
 U (oW Φ a0 Y a b Q) [e] a.2) (
 U (oW Φ a0 Y a b Q) [P] a.2) (
 False)
def E_(Φ:ae)(a0 Y b:I)(Q:ad):a:=λd c=>
 au (qM Φ a0 Y b Q) ([(af 0),J],c)
def uB(Φ:ae)(a0 Y c:I)(Q:ad):a:=λd b=>
 L (sl d 0) true (
 Q (af 0) b) (
 U (E_ Φ a0 Y c Q) [] b)
def f31(Φ:ae)(a0 Y a:I)(H:Z)(Q:ad):Prop:=
 Do (N .lss Y J) λb=>
 aQ b false (
 Do (N .gtr Y (D 63)) λc=>
 U (uB Φ a0 Y a Q) [c] H) (
 U (uB Φ a0 Y a Q) [bd] H) (
 False)
noncomputable def Fa:bw:=bD C ⟨31,[],[[7,8]],none,[],[]⟩
def Fb(Φ:ae)(c:ST)(d:LT)(Q:ad):a:=λb e=>
 Do (N .add (sl c.1 2) (D 1)) λf=>
 d ([(sl b 0),(sl b 1),f],e)
def uC(Φ:ae)(f b:I)(c:ST)(g:LT)(Q:ad):a:=λd e=>
 Do (M 0 f) λh=>
 Do (O e 1 false h) λi=>
 Do (N .add (D 65536) (sl d 0)) λj=>
 Do (ba [J,J] [(0,1,j),(1,1,b)]) λk=>
 Do (ba [.str [],J,J] [(0,1,i),(1,2,k)]) λl=>
 aJ (c9 e false 3 1 [.str [],J,J] [(0,3,l)]) λm n=>
 aJ (cX n false 3 32 (sl c.1 0) m) λo p=>
 Do (N .add (sl d 0) b) λq=>
 U (Fb Φ c g Q) [o,q] p
def Fc(Φ:ae)(Q:ad):a:=λb c=>
 Do (N .gtr (sl b 1) (D 65536)) λd=>
 L d true (
 Q (.aM [ar,J,(D 9)]) c) (
 Q (.aM [(sl b 0),(sl b 1),J]) c)
def qN(Φ:ae)(a0 k:I)(Q:ad):BT:=λa f=>
 Do (N .lss (sl a.1 2) k) λl=>
 L l true (
 Do (aU none 7 a0 (sl a.1 2)) λm=>
 Do (O a.2 7 true m) λn=>
 aJ (some (aR a.2 true [.str [],J,J,P,ar,J,ar])) λb o=>
 Do (ax o 7 b n) λg=>
 Do (M 1 b) λp=>
 Do (O g 6 true p) λq=>
Φ 67 [q] g λc d=>
 Do (bI 0 c) λh=>
 Do (bI 1 c) λe=>
 Do (bI 2 c) λi=>
 Do (N .neq i J) λr=>
 L r true (
 Q (.aM [ar,J,i]) d) (
 Do (N .add (sl a.1 1) e) λs=>
 Do (N .sub s (D 1)) λt=>
 Do (N .quo t e) λu=>
 Do (N .mul u e) λj=>
 Do (N .gtr j (D 65536)) λv=>
 L v true (
 U (uC Φ b h a f Q) [(D 65537)] d) (
 U (uC Φ b h a f Q) [j] d))) (
 U (Fc Φ Q) [(sl a.1 0),(sl a.1 1)] a.2)
def f32(Φ:ae)(a0:I)(H:Z)(Q:ad):Prop:=
 Do (bj false a0) λa=>
 au (qN Φ a0 a Q) ([ar,J,J],H)
noncomputable def Fe:bw:=bD C ⟨32,[8],[[5,6,14]],none,[],[]⟩
def Ff(Φ:ae)(b:ST)(c:LT)(Q:ad):a:=λd e=>
 Do (N .add (sl b.1 1) (D 1)) λf=>
 c ([(sl d 0),f],e)
def zY(Φ:ae)(h:I)(d:ST)(i:LT)(Q:ad):a:=λs e=>
 Do (M 1 h) λj=>
 Do (O e 6 true j) λk=>
Φ 67 [k] e λb f=>
 Do (bI 0 b) λl=>
 Do (bI 1 b) λc=>
 Do (bI 2 b) λg=>
 Do (N .neq g J) λm=>
 L m true (
 Q g f) (
 Do (N .add (sl d.1 0) c) λn=>
 Do (N .sub n (D 1)) λo=>
 Do (N .quo o c) λp=>
 Do (N .mul p c) λq=>
 Do (N .add q l) λr=>
 U (Ff Φ d i Q) [r] f)
def uD(Φ:ae)(a0 b:I)(c:ST)(f:LT)(Q:ad):a:=λg d=>
 L (sl g 0) true (
 Q (D 6) d) (
 Do (c6 7 a0 none (some (sl c.1 1)) none) λh=>
Φ 73 [h,(.fn 74 [b])] d λi e=>
 L i true (
 Q (D 7) e) (
 U (zY Φ b c f Q) [] e))
def Fg(Φ:ae)(Q:ad):a:=λc b=>
 Do (N .gtr (sl c 0) (D 65536)) λd=>
 L d true (
 Q (D 9) b) (
 Q J b)
def oX(Φ:ae)(a0 f:I)(Q:ad):BT:=λa d=>
 Do (N .lss (sl a.1 1) f) λg=>
 L g true (
 Do (aU none 7 a0 (sl a.1 1)) λh=>
 Do (O a.2 7 true h) λi=>
 aJ (some (aR a.2 true [.str [],J,J,P,ar,J,ar])) λb j=>
 Do (ax j 7 b i) λe=>
 Do (M 0 b) λk=>
 Do (O e 1 false k) λl=>
Φ 71 [l] e λm c=>
 Do (cM .not m) λn=>
 aQ n false (
 Do (M 0 b) λo=>
 Do (O c 1 false o) λp=>
Φ 72 [p] c λq r=>
 U (uD Φ a0 b a d Q) [q] r) (
 U (uD Φ a0 b a d Q) [bd] c) (
 False)) (
 U (Fg Φ Q) [(sl a.1 0)] a.2)
def f45(Φ:ae)(a0:I)(H:Z)(Q:ad):Prop:=
 Do (bj false a0) λa=>
 Do (N .gtr a (D 32)) λb=>
 L b true (
 Q (D 12) H) (
 Do (bj false a0) λc=>
 au (oX Φ a0 c Q) ([J,J],H))
noncomputable def Fh:bw:=bD C ⟨45,[5],[[3,14]],none,[],[]⟩
def uE(Φ:ae)(b:ST)(c:LT)(Q:ad):a:=λf d=>
 Do (N .add (sl b.1 0) (D 1)) λe=>
 c ([e],d)
def Fi(Φ:ae)(a0 c:I)(Q:ad):a:=λk b=>
 Do (aO a0) λd=>
 Do (M 1 d) λe=>
 Do (O b 1 false e) λf=>
 Do (c6 1 f none (some c) none) λg=>
 Do (aO a0) λh=>
 Do (M 1 h) λi=>
 Do (ax b 1 i g) λj=>
 Q (.aM []) j
def qO(Φ:ae)(a0 Y f g h:I)(Q:ad):BT:=λa d=>
 Do (N .lss (sl a.1 0) h) λi=>
 L i true (
 Do (aU none 10 Y (sl a.1 0)) λj=>
 Do (O a.2 10 true j) λk=>
 aJ (some (aR a.2 true [J,J,.str [],.str [],J,.str [],ar,ar,ar,ar])) λb l=>
 Do (ax l 10 b k) λm=>
Φ 47 [a0] m λn c=>
 Do (cM .not n) λo=>
 L o true (
 Do (M 1 b) λp=>
 Do (O c 1 false p) λq=>
 Do (aO a0) λr=>
 Do (M 3 r) λs=>
 Do (ax c 1 s q) λe=>
 Do (O e 10 true b) λt=>
Φ 75 [a0,t,f] e λv u=>
 U (uE Φ a d Q) [] u) (
 U (uE Φ a d Q) [] c)) (
 U (Fi Φ a0 g Q) [] a.2)
def f46(Φ:ae)(a0 Y a:I)(H:Z)(Q:ad):Prop:=
 Do (aO a0) λb=>
 Do (M 1 b) λc=>
 Do (O H 1 false c) λd=>
 Do (bj false d) λe=>
 Do (bj false Y) λf=>
 au (qO Φ a0 Y a e f Q) ([J],H)
noncomputable def Fj:bw:=bD C ⟨46,[8],[[16]],none,[],[]⟩
def f47(Φ:ae)(a0:I)(H:Z)(Q:ad):Prop:=
 Do (aO a0) λa=>
 Do (M 4 a) λb=>
 Do (M 1 b) λc=>
 Do (O H 1 false c) λd=>
 Do (N .neq d J) λe=>
 Q e H
noncomputable def Fk:bw:=bD C ⟨47,[],[],none,[],[]⟩
def uF(Φ:ae)(a0 c:I)(Q:ad):a:=λk b=>
 Do (aO a0) λd=>
 Do (M 2 d) λe=>
 Do (O b 1 false e) λf=>
 Do (c6 2 f none (some c) none) λg=>
 Do (aO a0) λh=>
 Do (M 2 h) λi=>
 Do (ax b 1 i g) λj=>
 Q (.aM []) j
def lK(Φ:ae)(a0 Y e f:I)(Q:ad):BT:=λa g=>
 Do (N .lss (sl a.1 1) f) λh=>
 L h true (
 Do (aU none 10 Y (sl a.1 1)) λi=>
 Do (O a.2 10 true i) λj=>
 aJ (some (aR a.2 true [J,J,.str [],.str [],J,.str [],ar,ar,ar,ar])) λc k=>
 Do (ax k 10 c j) λb=>
 Do (aO a0) λl=>
 Do (M 20 l) λm=>
 Do (O b 1 false m) λn=>
 L n true (
 Q (.aM []) b) (
 Do (M 1 c) λo=>
 Do (O b 1 false o) λp=>
 Do (aO a0) λq=>
 Do (M 4 q) λr=>
 Do (ax b 1 r p) λs=>
Φ 76 [a0] s λB d=>
 Do (O d 10 true c) λt=>
Φ 77 [a0,t,(sl a.1 0)] d λC u=>
 Do (N .add (sl a.1 1) (D 1)) λv=>
 Do (c6 10 Y (some (sl a.1 1)) (some v) none) λw=>
Φ 78 [w] u λx y=>
 Do (N .add (sl a.1 0) x) λz=>
 Do (N .add (sl a.1 1) (D 1)) λA=>
 g ([z,A],y))) (
 U (uF Φ a0 e Q) [] a.2)
def f48(Φ:ae)(a0 Y a:I)(H:Z)(Q:ad):Prop:=
 Do (aO a0) λb=>
 Do (M 2 b) λc=>
 Do (O H 1 false c) λd=>
 Do (bj false d) λe=>
 Do (bj false Y) λf=>
 au (lK Φ a0 Y e f Q) ([a,J],H)
noncomputable def Fl:bw:=bD C ⟨48,[8],[[2,16]],none,[],[]⟩
def f49(Φ:ae)(H:Z)(Q:ad):Prop:=
 aJ (c9 H false 1 34 [.str []] [(0,1,(.str [118,97,114])),(1,1,(.str [116,104,114,101,97,100])),(2,1,(.str [115,116,114,117,99,116])),(3,1,(.str [117,110,105,111,110])),(4,1,(.str [112,97,99,107,101,100])),(5,1,(.str [117,56])),(6,1,(.str [117,49,54])),(7,1,(.str [117,51,50])),(8,1,(.str [117,54,52])),(9,1,(.str [97,56])),(10,1,(.str [97,49,54])),(11,1,(.str [97,51,50])),(12,1,(.str [97,54,52])),(13,1,(.str [97,49,50,56])),(14,1,(.str [108,101,116])),(15,1,(.str [115,101,116])),(16,1,(.str [119,114,105,116,101])),(17,1,(.str [115,116,111,114,101])),(18,1,(.str [108,111,97,100,50])),(19,1,(.str [115,116,111,114,101,50])),(20,1,(.str [102,101,110,99,101])),(21,1,(.str [105,102])),(22,1,(.str [101,108,115,101])),(23,1,(.str [119,104,105,108,101])),(24,1,(.str [112,114,105,110,116])),(25,1,(.str [114,101,97,100])),(26,1,(.str [108,111,97,100])),(27,1,(.str [97,100,100])),(28,1,(.str [115,119,97,112])),(29,1,(.str [99,97,115])),(30,1,(.str [114,108,120])),(31,1,(.str [97,99,113])),(32,1,(.str [114,101,108])),(33,1,(.str [115,99]))]) λa b=>
 Q a b
noncomputable def Fm:bw:=bD C ⟨49,[],[],none,[],[]⟩
def f50(Φ:ae)(a0:I)(H:Z)(Q:ad):Prop:=
 aJ (bg H false 6 a0) λb c=>
 Do (O c 6 true b) λd=>
Φ 79 [d,(D 65)] c λe a=>
 Do (N .gtr e (D 64)) λf=>
 L f true (
 Q (D 5) a) (
 Do (O a 6 true b) λg=>
Φ 80 [g] a λh i=>
 Q h i)
noncomputable def Fo:bw:=bD C ⟨50,[],[],none,[],[]⟩
def uG(Φ:ae)(b:ST)(c:LT)(Q:ad):a:=λd e=>
 Do (N .add (sl b.1 1) (D 1)) λf=>
 c ([(sl d 0),f],e)
def uH(Φ:ae)(b:ST)(c:LT)(Q:ad):a:=λd e=>
 Do (N .add (sl b.1 1) (D 1)) λf=>
 c ([(sl d 0),f],e)
def uI(Φ:ae)(b:I)(Q:ad):BT:=λa c=>
 Do (M 3 b) λd=>
 Do (O a.2 1 false d) λe=>
 Do (bj false e) λf=>
 Do (N .lss (sl a.1 1) f) λg=>
 L g true (
 aQ (sl a.1 0) false (
 Do (M 3 b) λh=>
 Do (O a.2 1 false h) λi=>
 Do (aU none 9 i (sl a.1 1)) λj=>
 Do (M 1 j) λk=>
 Do (O a.2 6 true k) λl=>
Φ 51 [l] a.2 λm n=>
 U (uH Φ a c Q) [m] n) (
 U (uH Φ a c Q) [bd] a.2) (
 False)) (
 Q (sl a.1 0) a.2)
def Fp(Φ:ae)(b:I)(Q:ad):a:=λc d=>
 au (uI Φ b Q) ([(sl c 0),J],d)
def uJ(Φ:ae)(b:I)(Q:ad):BT:=λa c=>
 Do (M 5 b) λd=>
 Do (O a.2 1 false d) λe=>
 Do (bj false e) λf=>
 Do (N .lss (sl a.1 1) f) λg=>
 L g true (
 aQ (sl a.1 0) false (
 Do (M 5 b) λh=>
 Do (O a.2 1 false h) λi=>
 Do (aU none 6 i (sl a.1 1)) λj=>
 Do (O a.2 6 true j) λk=>
Φ 51 [k] a.2 λl m=>
 U (uG Φ a c Q) [l] m) (
 U (uG Φ a c Q) [bd] a.2) (
 False)) (
 U (Fp Φ b Q) [(sl a.1 0)] a.2)
def uK(Φ:ae)(b:I)(Q:ad):a:=λc d=>
 au (uJ Φ b Q) ([(sl c 0),J],d)
def f51(Φ:ae)(a0:I)(H:Z)(Q:ad):Prop:=
 aJ (bg H false 6 a0) λa b=>
 Do (M 2 a) λc=>
 Do (O b 1 false c) λd=>
 aQ d true (
 Do (O b 6 true a) λe=>
Φ 81 [e] b λf g=>
 U (uK Φ a Q) [f] g) (
 U (uK Φ a Q) [P] b) (
 False)
noncomputable def Fq:bw:=bD C ⟨51,[],[[3,4],[3,5]],none,[],[]⟩
def Fs(Φ:ae)(f c d:I)(Q:ad):a:=λp b=>
 Do (M 0 d) λg=>
 Do (O b 1 false g) λh=>
 Do (M 4 f) λi=>
 Do (O b 1 false i) λj=>
 Do (N .mul h j) λk=>
 Do (M 1 d) λl=>
 Do (O b 1 false l) λm=>
 Do (ba [J,J,ar,ar,P] [(0,1,k),(1,1,m)]) λn=>
 Do (ax b 5 c n) λe=>
 Do (O e 5 true c) λo=>
 Q o e
def uL(Φ:ae)(f b d:I)(Q:ad):a:=λg c=>
 L (sl g 0) true (
 Do (M 1 d) λh=>
 Do (O c 1 false h) λi=>
 Do (ba [J,J,ar,ar,P] [(1,1,i),(4,1,bd)]) λj=>
 Do (ax c 5 b j) λe=>
 Do (O e 5 true b) λk=>
 Q k e) (
 U (Fs Φ f b d Q) [] c)
def uM(Φ:ae)(c:ST)(d:LT)(Q:ad):a:=λb e=>
 Do (N .add (sl c.1 2) (D 1)) λf=>
 d ([(sl b 0),(sl b 1),f],e)
def uN(Φ:ae)(c d:I)(e:ST)(f:LT)(g:List I)(Q:ad):a:=λh b=>
 Do (M 1 c) λi=>
 Do (O b 1 false i) λj=>
 Do (N .gtr (sl h 0) j) λk=>
 L k true (
 Do (M 1 c) λl=>
 Do (ax b 1 l (sl h 0)) λm=>
 U (uM Φ e f Q) [d,(sl g 0)] m) (
 U (uM Φ e f Q) [d,(sl g 0)] b)
def qP(Φ:ae)(b c h:I)(d:ST)(e:LT)(f:List I)(Q:ad):a:=λi g=>
 L (sl i 0) true (
 U (uN Φ b c d e f Q) [(D 1)] g) (
 U (uN Φ b c d e f Q) [h] g)
def uO(Φ:ae)(i c j k d:I)(e:ST)(f:LT)(l:List I)(Q:ad):a:=λg b=>
 Do (M 1 k) λm=>
 Do (O b 1 false m) λh=>
 Do (M 2 i) λn=>
 Do (O b 1 false n) λo=>
 aQ o false (
 Do (M 7 j) λp=>
 Do (O b 1 false p) λq=>
 aQ q true (
 Do (N .eql (sl l 1) J) λr=>
 U (qP Φ c d h e f g Q) [r] b) (
 U (qP Φ c d h e f g Q) [P] b) (
 False)) (
 U (qP Φ c d h e f g Q) [bd] b) (
 False)
def zZ(Φ:ae)(f b g h:I)(c:ST)(i:LT)(d:List I)(Q:ad):a:=λj k=>
 Do (M 2 b) λn=>
 Do (O k 1 false n) λo=>
 aJ (c9 k false 1 1 [J] [(0,1,(sl j 0))]) λp q=>
 aJ (cX q false 1 8 o p) λr s=>
 Do (M 2 b) λt=>
 Do (ax s 1 t r) λl=>
 Do (M 3 b) λu=>
 Do (O l 1 false u) λv=>
 aJ (c9 l false 1 1 [J] [(0,1,(sl d 1))]) λw x=>
 aJ (cX x false 1 8 v w) λy z=>
 Do (M 3 b) λA=>
 Do (ax z 1 A y) λm=>
 Do (N .add (sl j 0) (sl d 1)) λe=>
 Do (N .gtr e (sl c.1 1)) λB=>
 L B true (
 U (uO Φ f b g h e c i d Q) [e] m) (
 U (uO Φ f b g h e c i d Q) [(sl c.1 1)] m)
def uP(Φ:ae)(c d e f:I)(g:ST)(h:LT)(b:List I)(Q:ad):BT:=λa i=>
 Do (N .rem (sl a.1 0) (sl b 0)) λj=>
 Do (N .neq j J) λk=>
 L k true (
 Do (N .add (sl a.1 0) (D 1)) λl=>
 i ([l],a.2)) (
 U (zZ Φ c d e f g h b Q) [(sl a.1 0)] a.2)
def qQ(Φ:ae)(b c d e:I)(f:ST)(g:LT)(h:List I)(Q:ad):a:=λi j=>
 au (uP Φ b c d e f g i Q) ([(sl h 0)],j)
def uQ(Φ:ae)(b c d e f k:I)(g:ST)(h:LT)(i:List I)(Q:ad):a:=λl j=>
 L (sl l 0) true (
 U (qQ Φ b c d e g h i Q) [k,f] j) (
 U (qQ Φ b c d e g h i Q) [(D 1),f] j)
def uR(Φ:ae)(g h b i l:I)(j:ST)(k:LT)(d:List I)(Q:ad):a:=λm c=>
 Do (M 7 b) λn=>
 Do (O c 1 false n) λo=>
 L o true (
 Do (M 8 b) λp=>
 Do (O c 1 false p) λe=>
 Do (M 1 b) λq=>
 Do (M 1 q) λr=>
 Do (O c 1 false r) λs=>
 Do (N .mul (D 8) s) λf=>
 Do (N .eql e J) λt=>
 aQ t false (
 Do (N .rem (sl d 0) f) λu=>
 Do (N .add u e) λv=>
 Do (N .gtr v f) λw=>
 U (uQ Φ g h b i e f j k d Q) [w] c) (
 U (uQ Φ g h b i e f j k d Q) [bd] c) (
 False)) (
 U (qQ Φ g h b i j k d Q) [(sl m 0),l] c)
def uS(Φ:ae)(d e f c:I)(g:ST)(h:LT)(Q:ad):a:=λi b=>
 Do (M 1 c) λk=>
 Do (O b 1 false k) λl=>
 Do (N .mul (D 8) l) λm=>
 Do (M 0 c) λn=>
 Do (O b 1 false n) λo=>
 Do (N .mul (D 8) o) λj=>
 Do (M 2 d) λp=>
 Do (O b 1 false p) λq=>
 L q true (
 U (uR Φ d e f c j g h i Q) [(D 8)] b) (
 U (uR Φ d e f c j g h i Q) [m] b)
def z1(Φ:ae)(c b:I)(Q:ad):a:=λg h=>
 Do (N .quo (sl g 0) (D 8)) λi=>
 Do (M 0 b) λj=>
 Do (ax h 1 j i) λd=>
 Do (M 0 b) λk=>
 Do (O d 1 false k) λl=>
 Do (N .gtr l (D 65536)) λm=>
 Do (M 4 b) λn=>
 Do (ax d 1 n m) λe=>
 Do (O e 5 true b) λo=>
 Do (ax e 5 c o) λf=>
 Do (O f 5 true c) λp=>
 Q p f
def uT(Φ:ae)(c b:I)(Q:ad):BT:=λa d=>
 Do (M 1 b) λe=>
 Do (O a.2 1 false e) λf=>
 Do (N .mul (D 8) f) λg=>
 Do (N .rem (sl a.1 0) g) λh=>
 Do (N .neq h J) λi=>
 L i true (
 Do (N .add (sl a.1 0) (D 1)) λj=>
 d ([j],a.2)) (
 U (z1 Φ c b Q) [(sl a.1 0)] a.2)
def Ft(Φ:ae)(b c:I)(Q:ad):a:=λd e=>
 au (uT Φ b c Q) ([(sl d 0)],e)
def i9(Φ:ae)(b f g:I)(Q:ad):BT:=λa h=>
 Do (M 3 b) λk=>
 Do (O a.2 1 false k) λl=>
 Do (bj false l) λm=>
 Do (N .lss (sl a.1 2) m) λn=>
 L n true (
 Do (M 3 b) λo=>
 Do (O a.2 1 false o) λp=>
 Do (aU none 9 p (sl a.1 2)) λq=>
 Do (O a.2 9 true q) λr=>
 aJ (some (aR a.2 true [.str [],J,J,P,ar,J,ar,P,J])) λd s=>
 Do (ax s 9 d r) λi=>
 Do (M 1 d) λt=>
 Do (O i 6 true t) λu=>
Φ 52 [u] i λv w=>
 aJ (some (aR w true [J,J,ar,ar,P])) λe x=>
 Do (ax x 5 e v) λc=>
 Do (M 4 e) λy=>
 Do (O c 1 false y) λz=>
 L z true (
 Do (ba [J,J,ar,ar,P] [(1,1,(D 1)),(4,1,bd)]) λA=>
 Do (ax c 5 f A) λj=>
 Do (O j 5 true f) λB=>
 Q B j) (
 Do (M 0 b) λC=>
 Do (O c 1 false C) λE=>
 Do (N .eql E (D 4)) λF=>
 L F true (
 U (uS Φ b g d e a h Q) [J] c) (
 U (uS Φ b g d e a h Q) [(sl a.1 0)] c))) (
 U (Ft Φ f g Q) [(sl a.1 1)] a.2)
def Fu(Φ:ae)(c d:I)(Q:ad):a:=λi e=>
 Do (ba [J,J,ar,ar,P] [(1,1,(D 1))]) λf=>
 aJ (some (aR e true [J,J,ar,ar,P])) λb g=>
 Do (ax g 5 b f) λh=>
 au (i9 Φ c d b Q) ([J,J,J],h)
def qR(Φ:ae)(b d h:I)(Q:ad):a:=λi c=>
 L (sl i 0) true (
 Do (M 1 b) λj=>
 Do (O c 1 false j) λk=>
 Do (M 1 b) λl=>
 Do (O c 1 false l) λm=>
 Do (ba [J,J,ar,ar,P] [(0,1,k),(1,1,m)]) λn=>
 Do (ax c 5 d n) λg=>
 Do (O g 5 true d) λo=>
 Q o g) (
 Do (N .eql h (D 5)) λp=>
 L p true (
 Do (M 5 b) λq=>
 Do (O c 1 false q) λr=>
 Do (aU none 6 r J) λs=>
 Do (O c 6 true s) λt=>
Φ 52 [t] c λu v=>
 aJ (some (aR v true [J,J,ar,ar,P])) λe w=>
 Do (ax w 5 e u) λf=>
 Do (M 4 e) λx=>
 Do (O f 1 false x) λy=>
 aQ y false (
 Do (M 0 e) λz=>
 Do (O f 1 false z) λA=>
 Do (M 4 b) λB=>
 Do (O f 1 false B) λC=>
 Do (N .mul A C) λE=>
 Do (N .gtr E (D 65536)) λF=>
 U (uL Φ b d e Q) [F] f) (
 U (uL Φ b d e Q) [bd] f) (
 False)) (
 U (Fu Φ b d Q) [] c))
def f52(Φ:ae)(a0:I)(H:Z)(Q:ad):Prop:=
 aJ (bg H false 6 a0) λb f=>
 aJ (some (aR f true [J,J,ar,ar,P])) λd c=>
 Do (M 0 b) λg=>
 Do (O c 1 false g) λa=>
 Do (N .eql a (D 1)) λe=>
 L e true (
 U (qR Φ b d a Q) [e] c) (
 Do (N .eql a (D 2)) λh=>
 U (qR Φ b d a Q) [h] c)
noncomputable def Fv:bw:=bD C ⟨52,[2,3,4,8,9],[[5,6,7],[5],[6]],none,[],[]⟩
def uU(Φ:ae)(a0:I)(Q:ad):a:=λh b=>
 Do (aO a0) λc=>
 Do (M 3 c) λd=>
 Do (M 1 d) λe=>
 Do (O b 1 false e) λf=>
 Do (N .eql f J) λg=>
 Q g b
def uV(Φ:ae)(a0 c:I)(Q:ad):a:=λd b=>
 L (sl d 0) true (
 Do (aO a0) λe=>
 Do (M 2 e) λf=>
 Do (O b 1 false f) λg=>
 Do (ba [J,J] [(0,1,g),(1,1,c)]) λh=>
 Do (aO a0) λi=>
 Do (M 3 i) λj=>
 Do (ax b 2 j h) λk=>
 U (uU Φ a0 Q) [] k) (
 U (uU Φ a0 Q) [] b)
def f53(Φ:ae)(a0 Y a:I)(H:Z)(Q:ad):Prop:=
 Do (aO a0) λb=>
 Do (M 3 b) λc=>
 Do (M 1 c) λd=>
 Do (O H 1 false d) λe=>
 Do (N .eql e J) λf=>
 aQ f true (
 Do (cM .not Y) λg=>
 U (uV Φ a0 a Q) [g] H) (
 U (uV Φ a0 a Q) [P] H) (
 False)
noncomputable def Fw:bw:=bD C ⟨53,[],[],none,[],[]⟩
def oY(Φ:ae)(c:I)(Q:ad):a:=λd b=>
 aQ (sl d 0) true (
 Do (M 0 c) λe=>
 Do (O b 1 false e) λf=>
 Do (N .eql f (D 8)) λg=>
 aQ g false (
 Do (M 9 c) λh=>
 Do (O b 1 false h) λi=>
 Do (bj false i) λj=>
 Do (N .eql j J) λk=>
 Q k b) (
 Q bd b) (
 False)) (
 Q P b) (
 False)
def qS(Φ:ae)(b:I)(Q:ad):a:=λd c=>
 aQ (sl d 0) true (
 Do (M 0 b) λe=>
 Do (O c 1 false e) λf=>
 Do (N .eql f (D 8)) λg=>
 aQ g false (
 Do (M 0 b) λh=>
 Do (O c 1 false h) λi=>
 Do (N .eql i (D 9)) λj=>
 aQ j false (
 Do (M 8 b) λk=>
 Do (O c 1 false k) λl=>
 Do (bj false l) λm=>
 Do (N .eql m J) λn=>
 U (oY Φ b Q) [n] c) (
 U (oY Φ b Q) [bd] c) (
 False)) (
 U (oY Φ b Q) [bd] c) (
 False)) (
 U (oY Φ b Q) [P] c) (
 False)
def qT(Φ:ae)(b:I)(d:List I)(Q:ad):a:=λe c=>
 aQ (sl e 0) true (
 aQ (sl d 0) false (
 Do (M 5 b) λf=>
 Do (O c 2 true f) λg=>
Φ 82 [g] c λh i=>
 U (qS Φ b Q) [h] i) (
 U (qS Φ b Q) [bd] c) (
 False)) (
 U (qS Φ b Q) [P] c) (
 False)
def uW(Φ:ae)(b:I)(d:List I)(Q:ad):a:=λe c=>
 aQ (sl e 0) true (
 Do (M 0 b) λf=>
 Do (O c 1 false f) λg=>
 Do (N .eql g (D 5)) λh=>
 aQ h false (
 Do (M 3 b) λi=>
 Do (O c 1 false i) λj=>
 Do (N .eql j (.str [])) λk=>
 U (qT Φ b d Q) [k] c) (
 U (qT Φ b d Q) [bd] c) (
 False)) (
 U (qT Φ b d Q) [P] c) (
 False)
def uX(Φ:ae)(b:I)(e:List I)(Q:ad):a:=λd c=>
 aQ (sl e 0) false (
 Do (M 2 b) λf=>
 Do (O c 1 false f) λg=>
 Do (N .eql g (.str [])) λh=>
 U (uW Φ b d Q) [h] c) (
 U (uW Φ b d Q) [bd] c) (
 False)
def uY(Φ:ae)(b:I)(Q:ad):a:=λd c=>
 Do (M 0 b) λe=>
 Do (O c 1 false e) λf=>
 Do (N .geq f (D 3)) λg=>
 aQ g true (
 Do (M 0 b) λh=>
 Do (O c 1 false h) λi=>
 Do (N .leq i (D 6)) λj=>
 U (uX Φ b d Q) [j] c) (
 U (uX Φ b d Q) [P] c) (
 False)
def uZ(Φ:ae)(b:I)(Q:ad):a:=λd c=>
 aQ (sl d 0) false (
 Do (M 0 b) λe=>
 Do (O c 1 false e) λf=>
 Do (N .eql f (D 5)) λg=>
 U (uY Φ b Q) [g] c) (
 U (uY Φ b Q) [bd] c) (
 False)
def z6(Φ:ae)(b:I)(Q:ad):a:=λj c=>
 Do (M 0 b) λd=>
 Do (O c 1 false d) λe=>
 Do (N .eql e (D 1)) λf=>
 aQ f false (
 Do (M 0 b) λg=>
 Do (O c 1 false g) λh=>
 Do (N .eql h (D 2)) λi=>
 U (uZ Φ b Q) [i] c) (
 U (uZ Φ b Q) [bd] c) (
 False)
def qU(Φ:ae)(c:I)(Q:ad):a:=λd b=>
 L (sl d 0) true (
 Q P b) (
 U (z6 Φ c Q) [] b)
def f54(Φ:ae)(a0:I)(H:Z)(Q:ad):Prop:=
 aJ (bg H false 10 a0) λb c=>
 aJ (c9 c false 1 11 [J] [(0,1,(D (-1))),(1,1,(D 1)),(2,1,(D 1)),(3,1,(D 1)),(4,1,(D 1)),(5,1,J),(6,1,(D 2)),(7,1,J),(8,1,(D 1)),(9,1,(D 1)),(10,1,(D 1))]) λd a=>
 Do (M 0 b) λe=>
 Do (O a 1 false e) λf=>
 Do (N .lss f (D 1)) λg=>
 aQ g false (
 Do (M 0 b) λh=>
 Do (O a 1 false h) λi=>
 Do (N .gtr i (D 10)) λj=>
 aQ j false (
 Do (M 7 b) λk=>
 Do (O a 1 false k) λl=>
 Do (bj false l) λm=>
 Do (M 0 b) λn=>
 Do (O a 1 false n) λo=>
 Do (aU none 1 d o) λp=>
 Do (O a 1 false p) λq=>
 Do (N .neq m q) λr=>
 U (qU Φ b Q) [r] a) (
 U (qU Φ b Q) [bd] a) (
 False)) (
 U (qU Φ b Q) [bd] a) (
 False)
noncomputable def Fx:bw:=bD C ⟨54,[],[],none,[],[]⟩
def u0(Φ:ae)(Y:I)(b:List I)(Q:ad):BT:=λa c=>
 Do (bj true (sl b 0)) λd=>
 Do (N .lss (sl a.1 0) d) λe=>
 L e true (
 Do (iZ (sl b 0) (sl a.1 0)) λf=>
 Do (N .sub f (.int .u8 48)) λg=>
 Do (gP .i64 g) λh=>
 Do (N .eql Y h) λi=>
 L i true (
 Q bd a.2) (
 Do (N .add (sl a.1 0) (D 1)) λj=>
 c ([j],a.2))) (
 Q P a.2)
def mA(Φ:ae)(Y:I)(Q:ad):a:=λb c=>
 au (u0 Φ Y b Q) ([J],c)
def u1(Φ:ae)(a0 Y:I)(Q:ad):a:=λc b=>
 L (sl c 0) true (
 U (mA Φ Y Q) [(.str [49,50,51,52])] b) (
 Do (N .eql a0 (D 7)) λd=>
 L d true (
 U (mA Φ Y Q) [(.str [50,51,52])] b) (
 U (mA Φ Y Q) [(.str [48])] b))
def z7(Φ:ae)(a0 Y:I)(Q:ad):a:=λe b=>
 L (sl e 0) true (
 U (mA Φ Y Q) [(.str [49,50,52])] b) (
 Do (N .eql a0 (D 16)) λc=>
 L c true (
 U (u1 Φ a0 Y Q) [c] b) (
 Do (N .eql a0 (D 17)) λd=>
 L d true (
 U (u1 Φ a0 Y Q) [d] b) (
 Do (N .eql a0 (D 18)) λf=>
 U (u1 Φ a0 Y Q) [f] b)))
def z8(Φ:ae)(a0 Y:I)(Q:ad):a:=λd b=>
 L (sl d 0) true (
 U (mA Φ Y Q) [(.str [49,51,52])] b) (
 Do (N .eql a0 (D 5)) λc=>
 L c true (
 U (z7 Φ a0 Y Q) [c] b) (
 Do (N .eql a0 (D 15)) λe=>
 U (z7 Φ a0 Y Q) [e] b))
def f55(Φ:ae)(a0 Y:I)(H:Z)(Q:ad):Prop:=
 Do (N .eql a0 (D 4)) λa=>
 L a true (
 U (z8 Φ a0 Y Q) [a] H) (
 Do (N .eql a0 (D 6)) λb=>
 U (z8 Φ a0 Y Q) [b] H)
noncomputable def Fy:bw:=bD C ⟨55,[],[[6]],none,[],[]⟩
def u2(Φ:ae)(a0 Y:I)(Q:ad):BT:=λs1 a=>
 Do (bj false a0) λb=>
 Do (N .lss (sl s1.1 0) b) λc=>
 L c true (
 Do (aU none 1 a0 (sl s1.1 0)) λd=>
 Do (O s1.2 1 false d) λe=>
 Do (N .eql e Y) λf=>
 L f true (
 Q bd s1.2) (
 Do (N .add (sl s1.1 0) (D 1)) λg=>
 a ([g],s1.2))) (
 Q P s1.2)
def f56(Φ:ae)(a0 Y:I)(H:Z)(Q:ad):Prop:=
 au (u2 Φ a0 Y Q) ([J],H)
noncomputable def Fz:bw:=bD C ⟨56,[],[[5]],none,[],[]⟩
def u3(Φ:ae)(a0 c d b:I)(Q:ad):BT:=λa e=>
 Do (M 1 b) λf=>
 Do (O a.2 1 false f) λg=>
 Do (bj false g) λh=>
 Do (N .lss (sl a.1 0) h) λi=>
 L i true (
 Do (M 1 b) λj=>
 Do (O a.2 1 false j) λk=>
 Do (aU none 2 k (sl a.1 0)) λl=>
 Do (M 1 l) λm=>
 Do (O a.2 1 false m) λn=>
Φ 58 [a0,n,c,d] a.2 λq o=>
 Do (N .add (sl a.1 0) (D 1)) λp=>
 e ([p],o)) (
 Q (.aM []) a.2)
def qV(Φ:ae)(a0 b c d:I)(Q:ad):a:=λe f=>
Φ 53 [a0,(sl e 0),(D 8)] f λh g=>
 au (u3 Φ a0 b c d Q) ([J],g)
def u4(Φ:ae)(a0 c d e f:I)(g:List I)(Q:ad):a:=λh b=>
 L (sl h 0) true (
 Do (M 0 f) λi=>
 Do (O b 1 false i) λj=>
 Do (N .eql j (D 2)) λk=>
 aQ k true (
 Do (M 1 f) λl=>
 Do (O b 1 false l) λm=>
 Do (N .eql m (D 16)) λn=>
 U (qV Φ a0 c d e Q) [n] b) (
 U (qV Φ a0 c d e Q) [P] b) (
 False)) (
 U (qV Φ a0 c d e Q) [(sl g 0)] b)
def u5(Φ:ae)(a0 Y b c d e:I)(Q:ad):a:=λf g=>
 Do (N .eql Y (D 5)) λh=>
 aQ h false (
 Do (N .eql Y (D 6)) λi=>
 U (u4 Φ a0 b c d e f Q) [i] g) (
 U (u4 Φ a0 b c d e f Q) [bd] g) (
 False)
def u6(Φ:ae)(a0 Y d e f b:I)(g:List I)(Q:ad):a:=λh c=>
 L (sl h 0) true (
 Do (M 0 b) λi=>
 Do (O c 1 false i) λj=>
 Do (N .eql j (D 1)) λk=>
 U (u5 Φ a0 Y d e f b Q) [k] c) (
 U (u5 Φ a0 Y d e f b Q) [(sl g 0)] c)
def u7(Φ:ae)(a0 Y b c d e:I)(Q:ad):a:=λf g=>
 Do (N .eql Y (D 3)) λh=>
 aQ h false (
 Do (N .eql Y (D 14)) λi=>
 U (u6 Φ a0 Y b c d e f Q) [i] g) (
 U (u6 Φ a0 Y b c d e f Q) [bd] g) (
 False)
def f57(Φ:ae)(a0 Y m f g:I)(H:Z)(Q:ad):Prop:=
 aJ (bg H false 2 m) λd a=>
 Do (aO a0) λn=>
 Do (M 3 n) λo=>
 Do (M 1 o) λp=>
 Do (O a 1 false p) λq=>
 Do (N .neq q J) λr=>
 L r true (
 Q (.aM []) a) (
 Do (aO a0) λs=>
 Do (M 0 s) λh=>
 Do (O a 1 false h) λi=>
 Do (O a 2 true d) λj=>
Φ 83 [i,j] a λk t=>
 Do (bI 0 k) λu=>
 Do (bI 1 k) λl=>
 aJ (some (aR t true [J,J,P,ar,J,ar])) λb e=>
(O e 1 false h=some i) ∧
(O e 2 true d=some j) ∧
(Do (ax e 6 b u) λv=>
 Do (N .eql l J) λw=>
Φ 53 [a0,w,l] v λx c=>
 Do (cM .not x) λy=>
 L y true (
 Q (.aM []) c) (
 Do (M 0 b) λz=>
 Do (O c 1 false z) λA=>
 Do (N .eql A (D 2)) λB=>
 aQ B true (
 Do (M 1 b) λC=>
 Do (O c 1 false C) λE=>
 Do (N .leq E (D 8)) λF=>
 U (u7 Φ a0 Y f g d b Q) [F] c) (
 U (u7 Φ a0 Y f g d b Q) [P] c) (
 False))))
noncomputable def FA:bw:=bD C ⟨57,[10],[[13]],none,[],[]⟩
def FB(Φ:ae)(b:ST)(c:LT)(Q:ad):a:=λf d=>
 Do (N .add (sl b.1 0) (D 1)) λe=>
 c ([e],d)
def u9(Φ:ae)(a0 c d e:I)(f:ST)(g:LT)(Q:ad):a:=λl b=>
 Do (M 7 e) λh=>
 Do (O b 1 false h) λi=>
 Do (N .add d (D 1)) λj=>
Φ 58 [a0,i,c,j] b λm k=>
 U (FB Φ f g Q) [] k
def u_(Φ:ae)(a0 d e b:I)(f:ST)(g:LT)(Q:ad):a:=λr c=>
 Do (M 0 b) λh=>
 Do (O c 1 false h) λi=>
 Do (N .geq i (D 4)) λj=>
 L j true (
 Do (M 0 b) λk=>
 Do (O c 1 false k) λl=>
 Do (N .add (D 10) l) λm=>
 Do (M 5 b) λn=>
 Do (O c 2 true n) λo=>
 Do (N .add e (D 1)) λp=>
Φ 57 [a0,m,o,d,p] c λs q=>
 U (u9 Φ a0 d e b f g Q) [] q) (
 U (u9 Φ a0 d e b f g Q) [] c)
def FC(Φ:ae)(a0 d e b:I)(f:ST)(g:LT)(Q:ad):a:=λp c=>
 Do (M 0 b) λh=>
 Do (O c 1 false h) λi=>
 Do (N .eql i (D 2)) λj=>
 L j true (
 Do (M 2 b) λk=>
 Do (O c 1 false k) λl=>
Φ 56 [d,l] c λm n=>
Φ 53 [a0,m,(D 6)] n λq o=>
 U (u_ Φ a0 d e b f g Q) [] o) (
 U (u_ Φ a0 d e b f g Q) [] c)
def qW(Φ:ae)(a0 c d e:I)(f:ST)(g:LT)(Q:ad):a:=λh b=>
 L (sl h 0) true (
 Q (.aM []) b) (
 U (FC Φ a0 c d e f g Q) [] b)
def va(Φ:ae)(a0 d e b:I)(f:ST)(g:LT)(Q:ad):a:=λh c=>
 aQ (sl h 0) false (
 Do (M 0 b) λi=>
 Do (O c 1 false i) λj=>
 Do (N .add (D 10) j) λk=>
 Do (M 4 b) λl=>
 Do (O c 1 false l) λm=>
Φ 55 [k,m] c λn o=>
Φ 53 [a0,n,(D 11)] o λp q=>
 Do (cM .not p) λr=>
 U (qW Φ a0 d e b f g Q) [r] q) (
 U (qW Φ a0 d e b f g Q) [bd] c) (
 False)
def FD(Φ:ae)(a0 Y f c:I)(d:ST)(g:LT)(Q:ad):a:=λv h=>
 Do (aU none 8 Y (sl d.1 0)) λi=>
 Do (O h 8 true i) λj=>
 aJ (some (aR h true [J,af 0,.str [],J,J,.str [],ar,ar])) λb k=>
 Do (ax k 8 b j) λl=>
 Do (N .lss c (D 64)) λm=>
Φ 53 [a0,m,(D 5)] l λn e=>
 Do (cM .not n) λo=>
 aQ o false (
 Do (O e 8 true b) λp=>
Φ 84 [p] e λq r=>
Φ 53 [a0,q,(D 4)] r λs t=>
 Do (cM .not s) λu=>
 U (va Φ a0 f c b d g Q) [u] t) (
 U (va Φ a0 f c b d g Q) [bd] e) (
 False)
def vb(Φ:ae)(a0 Y c d:I)(e:ST)(f:LT)(Q:ad):a:=λg b=>
 L (sl g 0) true (
 U (FD Φ a0 Y c d e f Q) [] b) (
 Q (.aM []) b)
def oZ(Φ:ae)(a0 Y a b:I)(Q:ad):BT:=λs1 c=>
 Do (bj false Y) λd=>
 Do (N .lss (sl s1.1 0) d) λe=>
 aQ e true (
 Do (aO a0) λf=>
 Do (M 3 f) λg=>
 Do (M 1 g) λh=>
 Do (O s1.2 1 false h) λi=>
 Do (N .eql i J) λj=>
 U (vb Φ a0 Y a b s1 c Q) [j] s1.2) (
 U (vb Φ a0 Y a b s1 c Q) [P] s1.2) (
 False)
def f58(Φ:ae)(a0 Y a b:I)(H:Z)(Q:ad):Prop:=
 au (oZ Φ a0 Y a b Q) ([J],H)
noncomputable def FE:bw:=bD C ⟨58,[9],[[8]],none,[],[]⟩
def f60(Φ:ae)(a0 Y:I)(H:Z)(Q:ad):Prop:=
 aJ (bg H true 10 Y) λb c=>
 Do (aO a0) λd=>
 Do (M 6 d) λe=>
 Do (O c 1 false e) λf=>
 Do (M 9 b) λg=>
 Do (ax c 1 g f) λa=>
 Do (aO a0) λh=>
 Do (M 1 h) λi=>
 Do (O a 1 false i) λj=>
 Do (O a 10 true b) λk=>
 aJ (c9 a false 10 1 [J,af 0,J,J,.str [],ar,J,J,J,J] [(0,10,k)]) λl m=>
 aJ (cX m true 10 104 j l) λn o=>
 Do (aO a0) λp=>
 Do (M 1 p) λq=>
 Do (ax o 1 q n) λr=>
 Q (.aM []) r
noncomputable def FF:bw:=bD C ⟨60,[3,16],[],none,[],[]⟩
def vc(Φ:ae)(b:ST)(c:LT)(Q:ad):a:=λf d=>
 Do (N .add (sl b.1 0) (D 1)) λe=>
 c ([e],d)
def vd(Φ:ae)(a0 b:I)(Q:ad):BT:=λa e=>
 Do (M 1 b) λo=>
 Do (O a.2 1 false o) λp=>
 Do (bj false p) λq=>
 Do (N .lss (sl a.1 0) q) λr=>
 L r true (
 Do (M 1 b) λs=>
 Do (O a.2 1 false s) λt=>
 Do (aU none 2 t (sl a.1 0)) λu=>
 Do (M 1 u) λv=>
 Do (O a.2 1 false v) λw=>
 Do (bj false w) λx=>
 Do (N .eql x (D 1)) λy=>
 L y true (
 Do (M 1 b) λz=>
 Do (O a.2 1 false z) λA=>
 Do (aU none 2 A (sl a.1 0)) λB=>
 Do (M 1 B) λC=>
 Do (O a.2 1 false C) λE=>
 Do (aU none 8 E J) λF=>
 Do (O a.2 8 true F) λG=>
Φ 62 [a0,G] a.2 λaa c=>
 Do (aO a0) λH=>
 Do (M 0 H) λf=>
 Do (O c 1 false f) λg=>
 Do (M 0 b) λh=>
 Do (O c 1 false h) λi=>
 Do (M 1 b) λj=>
 Do (O c 1 false j) λk=>
 Do (c6 2 k none (some (sl a.1 0)) none) λK=>
 Do (ba [.str [],ar] [(0,1,i),(1,1,K)]) λR=>
Φ 83 [g,R] c λl S=>
 Do (bI 0 l) λT=>
 Do (bI 1 l) λab=>
 aJ (some (aR S true [J,J,P,ar,J,ar])) λm d=>
(O d 1 false f=some g) ∧
(O d 1 false h=some i) ∧
(O d 1 false j=some k) ∧
(Do (ax d 6 m T) λn=>
 Do (M 4 m) λV=>
 Do (O n 1 false V) λW=>
 Do (gP .u64 W) λX=>
 Do (ba [J,af 0,J,J,.str [],ar,J,J,J,J] [(0,1,(D 6)),(1,1,X)]) λY=>
Φ 60 [a0,Y] n λac Z=>
 U (vc Φ a e Q) [] Z)) (
 U (vc Φ a e Q) [] a.2)) (
 Q (.aM []) a.2)
def f61(Φ:ae)(a0 Y:I)(H:Z)(Q:ad):Prop:=
 aJ (bg H false 2 Y) λa b=>
 au (vd Φ a0 a Q) ([J],b)
noncomputable def FG:bw:=bD C ⟨61,[5],[[4]],none,[],[]⟩
def z_(Φ:ae)(a0 c:I)(Q:ad):a:=λW b=>
 Do (M 0 c) λf=>
 Do (O b 1 false f) λe=>
 Do (N .eql e (D 1)) λg=>
 L g true (
 Do (M 1 c) λh=>
 Do (O b 1 false h) λi=>
 Do (ba [J,af 0,J,J,.str [],ar,J,J,J,J] [(0,1,(D 2)),(1,1,i)]) λj=>
Φ 60 [a0,j] b λX k=>
 Q (.aM []) k) (
 Do (N .eql e (D 2)) λl=>
 L l true (
 Do (M 2 c) λm=>
 Do (O b 1 false m) λn=>
Φ 63 [a0,n] b λo p=>
 Do (ba [J,af 0,J,J,.str [],ar,J,J,J,J] [(0,1,(D 3)),(2,1,o)]) λq=>
Φ 60 [a0,q] p λY r=>
 Q (.aM []) r) (
 Do (N .eql e (D 3)) λs=>
 L s true (
 Do (M 3 c) λt=>
 Do (O b 1 false t) λu=>
 Do (ba [J,af 0,J,J,.str [],ar,J,J,J,J] [(0,1,(D 5)),(2,1,u)]) λv=>
Φ 60 [a0,v] b λZ w=>
 Q (.aM []) w) (
 Do (aO a0) λx=>
 Do (M 5 x) λy=>
 Do (O b 1 false y) λz=>
 Do (N .add z (D 1)) λA=>
 Do (aO a0) λB=>
 Do (M 5 B) λC=>
 Do (ax b 1 C A) λd=>
 Do (M 5 c) λE=>
 Do (O d 2 true E) λF=>
 Do (M 0 c) λG=>
 Do (O d 1 false G) λH=>
 Do (M 4 c) λK=>
 Do (O d 1 false K) λP=>
 Do (aO a0) λR=>
 Do (M 5 R) λS=>
 Do (O d 1 false S) λT=>
 Do (ba [J,af 0,J,J,.str [],ar,J,J,J,J] [(0,1,(D 7)),(4,2,F),(6,1,H),(7,1,P),(8,1,T)]) λU=>
Φ 60 [a0,U] d λaa V=>
 Q (.aM []) V)))
def ve(Φ:ae)(a0 b:I)(Q:ad):BT:=λa c=>
 Do (M 7 b) λd=>
 Do (O a.2 1 false d) λe=>
 Do (bj false e) λf=>
 Do (N .lss (sl a.1 0) f) λg=>
 L g true (
 Do (M 7 b) λh=>
 Do (O a.2 1 false h) λi=>
 Do (aU none 8 i (sl a.1 0)) λj=>
 Do (O a.2 8 true j) λk=>
Φ 62 [a0,k] a.2 λn l=>
 Do (N .add (sl a.1 0) (D 1)) λm=>
 c ([m],l)) (
 U (z_ Φ a0 b Q) [] a.2)
def f62(Φ:ae)(a0 Y:I)(H:Z)(Q:ad):Prop:=
 aJ (bg H false 8 Y) λa c=>
 Do (ba [J,af 0,J,J,.str [],ar,J,J,J,J] [(0,1,(D 1))]) λd=>
Φ 60 [a0,d] c λh b=>
 Do (M 5 a) λe=>
 Do (O b 2 true e) λf=>
Φ 61 [a0,f] b λi g=>
 au (ve Φ a0 a Q) ([J],g)
noncomputable def FH:bw:=bD C ⟨62,[],[[4]],none,[],[]⟩
def vf(Φ:ae)(b:ST)(c:LT)(Q:ad):a:=λd e=>
 Do (N .add (sl b.1 1) (D 1)) λf=>
 c ([(sl d 0),f],e)
def qX(Φ:ae)(a0 Y:I)(Q:ad):BT:=λs1 a=>
 Do (aO a0) λb=>
 Do (M 2 b) λc=>
 Do (O s1.2 1 false c) λd=>
 Do (bj false d) λe=>
 Do (N .lss (sl s1.1 1) e) λf=>
 L f true (
 Do (aO a0) λg=>
 Do (M 2 g) λh=>
 Do (O s1.2 1 false h) λi=>
 Do (aU none 1 i (sl s1.1 1)) λj=>
 Do (O s1.2 1 false j) λk=>
 Do (N .eql k Y) λl=>
 L l true (
 Do (aO a0) λm=>
 Do (M 3 m) λn=>
 Do (O s1.2 1 false n) λo=>
 Do (aU none 1 o (sl s1.1 1)) λp=>
 Do (O s1.2 1 false p) λq=>
 U (vf Φ s1 a Q) [q] s1.2) (
 U (vf Φ s1 a Q) [(sl s1.1 0)] s1.2)) (
 Q (sl s1.1 0) s1.2)
def f63(Φ:ae)(a0 Y:I)(H:Z)(Q:ad):Prop:=
 au (qX Φ a0 Y Q) ([(D (-1)),J],H)
noncomputable def FI:bw:=bD C ⟨63,[],[[5,6]],none,[],[]⟩
def vg(Φ:ae)(b:I)(Q:ad):BT:=λa c=>
 Do (M 1 b) λd=>
 Do (O a.2 1 false d) λe=>
 Do (bj false e) λf=>
 Do (N .lss (sl a.1 1) f) λg=>
 L g true (
 Do (M 1 b) λh=>
 Do (O a.2 1 false h) λi=>
 Do (aU none 2 i (sl a.1 1)) λj=>
 Do (M 1 j) λk=>
 Do (O a.2 1 false k) λl=>
 Do (bj false l) λm=>
 Do (N .add (sl a.1 0) m) λn=>
 Do (N .add (sl a.1 1) (D 1)) λo=>
 c ([n,o],a.2)) (
 Q (sl a.1 0) a.2)
def f64(Φ:ae)(a0:I)(H:Z)(Q:ad):Prop:=
 aJ (bg H false 2 a0) λa b=>
 au (vg Φ a Q) ([J,J],b)
noncomputable def FJ:bw:=bD C ⟨64,[],[[3,4]],none,[],[]⟩
end Rb.S

namespace Rb.S
open Go
open Go.Proofs.YtggbkidckoecfaaGreatDoor.rb (C)
def vi(Φ:ae)(b:ST)(c:LT)(Q:ad):a:=λf d=>
 Do (N .sub (sl b.1 0) (D 1)) λe=>
 c ([e],d)
def vj(Φ:ae)(b:ST)(c:LT)(Q:ad):a:=λd e=>
 Do (N .add (sl b.1 1) (D 1)) λf=>
 c ([(sl d 0),f],e)
def FL(Φ:ae)(b d i:I)(f:ST)(j:LT)(Q:ad):a:=λg c=>
 Do (M 0 b) λk=>
 Do (M 0 k) λl=>
 Do (O c 1 false l) λm=>
 Do (O c 6 true d) λn=>
 Do (O c 5 true i) λo=>
Φ 92 [n,o,(sl g 0)] c λp q=>
 Do (ax q 6 b p) λh=>
 Do (M 0 b) λr=>
 Do (M 0 r) λs=>
 Do (O h 1 false s) λt=>
 Do (N .add t m) λu=>
 Do (M 0 b) λv=>
 Do (M 0 v) λw=>
 Do (ax h 1 w u) λe=>
 Do (M 3 d) λx=>
 Do (O e 1 false x) λy=>
 Do (aU none 9 y (sl g 0)) λz=>
 Do (M 1 z) λA=>
 Do (O e 6 true A) λB=>
 Do (ax e 6 d B) λC=>
 U (vj Φ f j Q) [(sl f.1 0)] C
def vk(Φ:ae)(d e b f:I)(c:ST)(g:LT)(Q:ad):BT:=λa h=>
 Do (M 3 b) λi=>
 Do (O a.2 1 false i) λj=>
 Do (aU none 9 j (sl a.1 0)) λk=>
 Do (M 0 k) λl=>
 Do (O a.2 1 false l) λm=>
 Do (M 1 d) λn=>
 Do (O a.2 1 false n) λo=>
 Do (aU none 2 o (sl c.1 1)) λp=>
 Do (M 0 p) λq=>
 Do (O a.2 1 false q) λr=>
 Do (N .neq m r) λs=>
 L s true (
 Do (N .add (sl a.1 0) (D 1)) λt=>
 h ([t],a.2)) (
 U (FL Φ e b f c g Q) [(sl a.1 0)] a.2)
def FM(Φ:ae)(b c g:I)(Q:ad):a:=λm d=>
 Do (M 0 g) λh=>
 Do (O d 1 false h) λi=>
 Do (M 2 c) λj=>
 Do (ax d 1 j i) λe=>
 Do (O e 6 true c) λk=>
 Do (ax e 6 b k) λf=>
 Do (O f 6 true b) λl=>
 Q (.aM [l,bd]) f
def qY(Φ:ae)(g d e c b:I)(Q:ad):BT:=λa h=>
 Do (M 1 d) λm=>
 Do (O a.2 1 false m) λn=>
 Do (bj false n) λo=>
 Do (N .lss (sl a.1 1) o) λp=>
 L p true (
 Do (M 1 d) λq=>
 Do (O a.2 1 false q) λr=>
 Do (aU none 2 r (sl a.1 1)) λs=>
 Do (M 1 s) λt=>
 Do (O a.2 1 false t) λu=>
 Do (bj false u) λv=>
 Do (N .eql v (D 1)) λw=>
 L w true (
 Do (aU none 1 g (sl a.1 0)) λx=>
 Do (O a.2 1 false x) λy=>
 Do (M 4 b) λz=>
 Do (O a.2 1 false z) λA=>
 Do (gP .u64 A) λB=>
 Do (N .geq y B) λC=>
 L C true (
 Do (ba [J,J,J,P,J,J] []) λE=>
 Do (ax a.2 6 e E) λi=>
 Do (O i 6 true e) λF=>
 Q (.aM [F,P]) i) (
 Do (M 5 b) λG=>
 Do (O a.2 1 false G) λH=>
 Do (aU none 6 H J) λK=>
 Do (O a.2 6 true K) λR=>
 Do (ax a.2 6 b R) λj=>
 Do (O j 6 true b) λS=>
Φ 52 [S] j λT f=>
 Do (j_ 0 1 false T) λk=>
 Do (M 0 c) λV=>
 Do (M 0 V) λW=>
 Do (O f 1 false W) λX=>
 Do (aU none 1 g (sl a.1 0)) λY=>
 Do (O f 1 false Y) λZ=>
 Do (gP .i64 Z) λaa=>
 Do (N .mul aa k) λab=>
 Do (N .add X ab) λac=>
 Do (ba [J,J] [(0,1,ac),(1,1,k)]) λaf=>
 Do (M 0 c) λag=>
 Do (ax f 2 ag af) λah=>
 Do (N .add (sl a.1 0) (D 1)) λai=>
 U (vj Φ a h Q) [ai] ah)) (
 Do (O a.2 6 true b) λaj=>
Φ 52 [aj] a.2 λak al=>
 aJ (some (aR al true [J,J,ar,ar,P])) λl am=>
 Do (ax am 5 l ak) λan=>
 au (vk Φ d c b l a h Q) ([J],an))) (
 U (FM Φ e c b Q) [] a.2)
def FN(Φ:ae)(b c d e f:I)(Q:ad):a:=λh g=>
 au (qY Φ b c d e f Q) ([J,J],g)
def vm(Φ:ae)(a0 g b h i c d:I)(Q:ad):BT:=λa e=>
 Do (N .geq (sl a.1 0) J) λj=>
 L j true (
 Do (aU none 7 a0 (sl a.1 0)) λk=>
 Do (M 0 k) λl=>
 Do (O a.2 1 false l) λm=>
 Do (M 0 b) λn=>
 Do (O a.2 1 false n) λo=>
 Do (N .eql m o) λp=>
 L p true (
 Do (aU none 3 i (sl a.1 0)) λq=>
 Do (M 1 q) λr=>
 Do (O a.2 2 true r) λs=>
 Do (M 0 c) λt=>
 Do (ax a.2 2 t s) λf=>
 Do (aU none 7 a0 (sl a.1 0)) λu=>
 Do (M 1 u) λv=>
 Do (O f 6 true v) λw=>
 Do (ax f 6 d w) λx=>
 U (vi Φ a e Q) [] x) (
 U (vi Φ a e Q) [] a.2)) (
 U (FN Φ g b h c d Q) [] a.2)
def f65(Φ:ae)(a0 Y d:I)(H:Z)(Q:ad):Prop:=
 aJ (bg H false 2 Y) λe f=>
 aJ (some (aR f true [J,J,J,P,J,J])) λg h=>
Φ 23 [a0] h λa i=>
 Do (bI 0 a) λj=>
 Do (bI 1 a) λs=>
 Do (bI 2 a) λt=>
 Do (ba [J,J,J,P,J,J] []) λk=>
 aJ (some (aR i true [J,J,J,P,J,J])) λb l=>
 Do (ax l 6 b k) λm=>
 Do (ba [J,J,P,ar,J,ar] []) λn=>
 aJ (some (aR m true [J,J,P,ar,J,ar])) λc o=>
 Do (ax o 6 c n) λp=>
 Do (bj false a0) λq=>
 Do (N .sub q (D 1)) λr=>
 au (vm Φ a0 d e g j b c Q) ([r],p)
noncomputable def FO:bw:=bD C ⟨65,[6,11,12,17],[[13],[14,15],[18]],none,[],[]⟩
def FP(Φ:ae)(a0 Y:I)(Q:ad):a:=λf b=>
 Do (gP .u64 Y) λc=>
 Do (N .shr a0 c) λd=>
 Do (N .rem d (af 2)) λe=>
 Q e b
def vn(Φ:ae)(a0 Y:I)(Q:ad):a:=λc b=>
 L (sl c 0) true (
 Q (af 0) b) (
 U (FP Φ a0 Y Q) [] b)
def f66(Φ:ae)(a0 Y:I)(H:Z)(Q:ad):Prop:=
 Do (N .lss Y J) λa=>
 aQ a false (
 Do (N .gtr Y (D 63)) λb=>
 U (vn Φ a0 Y Q) [b] H) (
 U (vn Φ a0 Y Q) [bd] H) (
 False)
noncomputable def FQ:bw:=bD C ⟨66,[],[],none,[],[]⟩
def f67(Φ:ae)(a0:I)(H:Z)(Q:ad):Prop:=
 aJ (bg H false 6 a0) λe c=>
 Do (O c 6 true e) λf=>
Φ 93 [f] c λd g=>
 Do (bI 0 d) λh=>
 Do (bI 1 d) λi=>
 aJ (some (aR g true [J,J])) λa j=>
 Do (ax j 2 a h) λb=>
 Do (M 0 a) λk=>
 Do (O b 1 false k) λl=>
 Do (M 1 a) λm=>
 Do (O b 1 false m) λn=>
 Q (.aM [l,n,i]) b
noncomputable def FR:bw:=bD C ⟨67,[5],[],none,[],[]⟩
def f70(Φ:ae)(a0:I)(H:Z)(Q:ad):Prop:=
 Do (N .lss a0 (D 1)) λa=>
 L a true (
 Q (af 0) H) (
 Do (N .geq a0 (D 64)) λb=>
 L b true (
 Q (af 18446744073709551615) H) (
 Do (N .shl (af 1) a0) λc=>
 Do (N .sub c (af 1)) λd=>
 Q d H))
noncomputable def FT:bw:=bD C ⟨70,[],[],none,[],[]⟩
def o0(Φ:ae)(c:LT)(Q:ad):a:=λd b=>
 L (sl d 0) true (
 Q P b) (
 c ([],b))
def qZ(Φ:ae)(d:I)(b:LT)(Q:ad):a:=λe c=>
 aQ (sl e 0) true (
 Do (N .lss d (.int .i32 48)) λf=>
 aQ f false (
 Do (N .gtr d (.int .i32 57)) λg=>
 U (o0 Φ b Q) [g] c) (
 U (o0 Φ b Q) [bd] c) (
 False)) (
 U (o0 Φ b Q) [P] c) (
 False)
def vo(Φ:ae)(f:I)(Q:ad):BT:=λg b=>
 aJ (kJ g.2 f) λc d=>
 Do (bI 0 c) λh=>
 L h true (
 Do (bI 2 c) λa=>
Φ 94 [a] d λi e=>
 Do (cM .not i) λj=>
 aQ j true (
 Do (N .neq a (.int .i32 95)) λk=>
 U (qZ Φ a b Q) [k] e) (
 U (qZ Φ a b Q) [P] e) (
 False)) (
 Q bd d)
def FU(Φ:ae)(a0:I)(Q:ad):a:=λe b=>
 aJ (m5 b a0) λc d=>
 au (vo Φ c Q) ([],d)
def q0(Φ:ae)(a0:I)(Q:ad):a:=λc b=>
 L (sl c 0) true (
 Q P b) (
 U (FU Φ a0 Q) [] b)
def vp(Φ:ae)(a0:I)(Q:ad):a:=λc b=>
 aQ (sl c 0) false (
 Do (iZ a0 J) λd=>
 Do (gP .i32 d) λe=>
Φ 94 [e] b λf g=>
 Do (cM .not f) λh=>
 U (q0 Φ a0 Q) [h] g) (
 U (q0 Φ a0 Q) [bd] b) (
 False)
def f71(Φ:ae)(a0:I)(H:Z)(Q:ad):Prop:=
 Do (bj true a0) λa=>
 Do (N .lss a (D 1)) λb=>
 aQ b false (
 Do (bj true a0) λc=>
 Do (N .gtr c (D 16)) λd=>
 U (vp Φ a0 Q) [d] H) (
 U (vp Φ a0 Q) [bd] H) (
 False)
noncomputable def FV:bw:=bD C ⟨71,[],[[]],none,[],[]⟩
def f72(Φ:ae)(a0:I)(H:Z)(Q:ad):Prop:=
Φ 96 [(.str [118,97,114,32,116,104,114,101,97,100,32,115,116,114,117,99,116,32,117,110,105,111,110,32,112,97,99,107,101,100,32,117,56,32,117,49,54,32,117,51,50,32,117,54,52,32,97,56,32,97,49,54,32,97,51,50,32,97,54,52,32,97,49,50,56,32,108,101,116,32,115,101,116,32,119,114,105,116,101,32,115,116,111,114,101,32,108,111,97,100,50,32,115,116,111,114,101,50,32,102,101,110,99,101,32,105,102,32,101,108,115,101,32,119,104,105,108,101,32,112,114,105,110,116,32,114,101,97,100,32,108,111,97,100,32,97,100,100,32,115,119,97,112,32,99,97,115,32,114,108,120,32,97,99,113,32,114,101,108,32,115,99])] H λa b=>
Φ 95 [a,a0] b λc d=>
 Q c d
noncomputable def FW:bw:=bD C ⟨72,[],[],none,[],[]⟩
def f73(Φ:ae)(a0 Y:I)(H:Z)(Q:ad):Prop:=
Φ 97 [a0,Y] H λa b=>
 Do (N .geq a J) λc=>
 Q c b
noncomputable def FX:bw:=bD C ⟨73,[],[],none,[],[]⟩
def f74(Φ:ae)(a0 Y:I)(H:Z)(Q:ad):Prop:=
 aJ (bg H false 7 a0) λb a=>
 Do (M 0 b) λc=>
 Do (O a 1 false c) λd=>
 Do (M 0 Y) λe=>
 Do (O a 1 false e) λf=>
 Do (N .eql d f) λg=>
 Q g a
noncomputable def FY:bw:=bD C ⟨74,[],[],none,[],[]⟩
def q1(Φ:ae)(a0 c b:I)(Q:ad):a:=λr d=>
 Do (M 8 b) λg=>
 Do (O d 1 false g) λh=>
 Do (N .add c (D 1)) λi=>
Φ 46 [a0,h,i] d λs e=>
 Do (M 1 b) λj=>
 Do (O e 1 false j) λk=>
 Do (aO a0) λl=>
 Do (M 3 l) λm=>
 Do (ax e 1 m k) λf=>
 Do (M 9 b) λn=>
 Do (O f 1 false n) λo=>
 Do (N .add c (D 1)) λp=>
Φ 46 [a0,o,p] f λt q=>
 Q (.aM []) q
def o3(Φ:ae)(a0 d b:I)(Q:ad):a:=λac f=>
 Do (M 7 b) λj=>
 Do (O f 1 false j) λk=>
Φ 103 [a0,k,d] f λaf c=>
 Do (M 0 b) λl=>
 Do (O c 1 false l) λg=>
 Do (N .eql g (D 1)) λm=>
 L m true (
 Do (aO a0) λn=>
 Do (M 1 n) λo=>
 Do (O c 1 false o) λp=>
 Do (M 2 b) λq=>
 Do (O c 1 false q) λr=>
 aJ (c9 c false 1 1 [.str []] [(0,1,r)]) λs t=>
 aJ (cX t true 1 16 p s) λu v=>
 Do (aO a0) λw=>
 Do (M 1 w) λx=>
 Do (ax v 1 x u) λh=>
 Do (aO a0) λy=>
 Do (M 2 y) λz=>
 Do (O h 1 false z) λA=>
 Do (N .add A (D 1)) λB=>
 Do (aO a0) λC=>
 Do (M 2 C) λE=>
 Do (ax h 1 E B) λF=>
 U (q1 Φ a0 d b Q) [] F) (
 Do (N .eql g (D 5)) λG=>
 L G true (
 Do (M 2 b) λH=>
 Do (O c 1 false H) λJ=>
Φ 101 [a0,J] c λK P=>
Φ 98 [a0,K,(D 6)] P λag i=>
 Do (M 3 b) λR=>
 Do (O i 1 false R) λS=>
Φ 101 [a0,S] i λT V=>
Φ 98 [a0,T,(D 6)] V λah e=>
 Do (M 2 b) λW=>
 Do (O e 1 false W) λX=>
 Do (M 3 b) λY=>
 Do (O e 1 false Y) λZ=>
 Do (N .neq X Z) λaa=>
Φ 98 [a0,aa,(D 7)] e λai ab=>
 U (q1 Φ a0 d b Q) [] ab) (
 U (q1 Φ a0 d b Q) [] c))
def vq(Φ:ae)(a0 e b:I)(Q:ad):a:=λp c=>
 Do (M 2 b) λf=>
 Do (O c 1 false f) λg=>
Φ 101 [a0,g] c λh i=>
 Do (cM .not h) λj=>
Φ 98 [a0,j,(D 7)] i λq d=>
 Do (aO a0) λk=>
 Do (M 2 k) λl=>
 Do (O d 1 false l) λm=>
 Do (N .lss m (D 40)) λn=>
Φ 98 [a0,n,(D 12)] d λr o=>
 U (o3 Φ a0 e b Q) [] o
def o4(Φ:ae)(a0 d b:I)(Q:ad):a:=λe c=>
 L (sl e 0) true (
 Do (M 0 b) λf=>
 Do (O c 1 false f) λg=>
 Do (M 5 b) λh=>
 Do (O c 2 true h) λi=>
Φ 102 [a0,g,i,d] c λk j=>
 U (o3 Φ a0 d b Q) [] j) (
 U (o3 Φ a0 d b Q) [] c)
def f75(Φ:ae)(a0 Y c:I)(H:Z)(Q:ad):Prop:=
 aJ (bg H false 10 Y) λa k=>
 Do (N .leq c (D 64)) λl=>
Φ 98 [a0,l,(D 5)] k λaa g=>
 Do (O g 10 true a) λm=>
Φ 99 [m] g λn o=>
Φ 98 [a0,n,(D 4)] o λab e=>
 Do (M 0 a) λp=>
 Do (O e 1 false p) λq=>
 Do (M 4 a) λr=>
 Do (O e 1 false r) λs=>
Φ 100 [q,s] e λt u=>
Φ 98 [a0,t,(D 11)] u λac b=>
 Do (M 0 a) λv=>
 Do (O b 1 false v) λd=>
 Do (N .eql d (D 1)) λw=>
 L w true (
 Do (M 2 a) λx=>
 Do (O b 1 false x) λy=>
Φ 71 [y] b λz f=>
 aQ z true (
 Do (M 2 a) λA=>
 Do (O f 1 false A) λB=>
Φ 72 [B] f λC E=>
 Do (cM .not C) λF=>
Φ 98 [a0,F,(D 6)] E λaf G=>
 U (vq Φ a0 c a Q) [] G) (
Φ 98 [a0,P,(D 6)] f λag J=>
 U (vq Φ a0 c a Q) [] J) (
 False)) (
 Do (N .eql d (D 2)) λK=>
 L K true (
 Do (M 2 a) λR=>
 Do (O b 1 false R) λS=>
Φ 101 [a0,S] b λT V=>
Φ 98 [a0,T,(D 6)] V λah W=>
 U (o3 Φ a0 c a Q) [] W) (
 Do (N .eql d (D 3)) λh=>
 L h true (
 U (o4 Φ a0 c a Q) [h] b) (
 Do (N .eql d (D 4)) λi=>
 L i true (
 U (o4 Φ a0 c a Q) [i] b) (
 Do (N .eql d (D 5)) λj=>
 L j true (
 U (o4 Φ a0 c a Q) [j] b) (
 Do (N .eql d (D 6)) λX=>
 U (o4 Φ a0 c a Q) [X] b)))))
noncomputable def FZ:bw:=bD C ⟨75,[87],[],none,[],[]⟩
def vr(Φ:ae)(a0:I)(Q:ad):a:=λj b=>
 Do (aO a0) λc=>
 Do (M 5 c) λd=>
 Do (O b 1 false d) λe=>
 Do (N .sub e (D 1)) λf=>
 Do (aO a0) λg=>
 Do (M 5 g) λh=>
 Do (ax b 1 h f) λi=>
 Q (.aM []) i
def f76(Φ:ae)(a0:I)(H:Z)(Q:ad):Prop:=
 Do (aO a0) λa=>
 Do (M 20 a) λb=>
 Do (O H 1 false b) λc=>
 L c true (
 Q (.aM []) H) (
 Do (aO a0) λd=>
 Do (M 5 d) λe=>
 Do (O H 1 false e) λf=>
 Do (N .lss f (D 1)) λg=>
 L g true (
 Do (aO a0) λh=>
 Do (M 20 h) λi=>
 Do (ax H 1 i bd) λj=>
 Do (aO a0) λk=>
 Do (M 21 k) λl=>
 Do (ax j 1 l bd) λm=>
 U (vr Φ a0 Q) [] m) (
 U (vr Φ a0 Q) [] H))
noncomputable def F0:bw:=bD C ⟨76,[],[],none,[],[]⟩
def F1(Φ:ae)(a0 h b:I)(i:LT)(Q:ad):a:=λs c=>
 Do (M 8 b) λd=>
 Do (O c 1 false d) λe=>
 Do (M 7 b) λj=>
 Do (O c 1 false j) λk=>
Φ 110 [k] c λl f=>
(O f 1 false d=some e) ∧
(Do (N .add h l) λm=>
Φ 48 [a0,e,m] f λt g=>
 Do (M 1 b) λn=>
 Do (O g 1 false n) λo=>
 Do (aO a0) λp=>
 Do (M 4 p) λq=>
 Do (ax g 1 q o) λr=>
 i ([],r))
def vt(Φ:ae)(a0 c d:I)(e:LT)(Q:ad):a:=λf b=>
 L (sl f 0) true (
 U (F1 Φ a0 c d e Q) [] b) (
 Q (.aM []) b)
def Aa(Φ:ae)(a0 a b:I)(Q:ad):BT:=λc e=>
 Do (M 7 b) λf=>
 Do (O c.2 1 false f) λg=>
 Do (aU none 8 g J) λh=>
 Do (O c.2 8 true h) λi=>
Φ 109 [a0,i,a] c.2 λj d=>
 Do (N .neq j (af 0)) λk=>
 aQ k true (
 Do (aO a0) λl=>
 Do (M 20 l) λm=>
 Do (O d 1 false m) λn=>
 Do (cM .not n) λo=>
 U (vt Φ a0 a b e Q) [o] d) (
 U (vt Φ a0 a b e Q) [P] d) (
 False)
def mB(Φ:ae)(a0 e b l:I)(Q:ad):a:=λA c=>
 L (sl A 0) true (
 Do (O c 10 true b) λB=>
Φ 104 [a0,B,e] c λaA C=>
 Q (.aM []) C) (
 Do (N .eql l (D 5)) λE=>
 L E true (
 Do (M 5 b) λF=>
 Do (O c 2 true F) λG=>
Φ 105 [a0,G,e] c λu H=>
 Do (bI 0 u) λK=>
 Do (bI 1 u) λR=>
 aJ (some (aR H true [J,J,J,P,J,J])) λg S=>
 Do (ax S 6 g K) λf=>
 L R true (
 Do (O f 6 true g) λm=>
 Do (M 4 b) λn=>
 Do (O f 1 false n) λo=>
 Do (M 5 b) λv=>
 Do (O f 2 true v) λw=>
Φ 107 [w] f λT p=>
(O p 6 true g=some m) ∧
(O p 1 false n=some o) ∧
(Do (N .add e T) λU=>
 Do (N .add U (D 1)) λV=>
 Do (ba [J,J,J,J,J,J,P,J,J,J,J,af 0,af 0] [(0,1,(D 1)),(3,6,m),(9,1,o),(1,1,V)]) λW=>
Φ 106 [a0,W] p λX Y=>
 aJ (some (aR Y true [af 0,af 0])) λq h=>
(O h 6 true g=some m) ∧
(O h 1 false n=some o) ∧
(O h 2 true v=some w) ∧
(Do (ax h 2 q X) λd=>
 Do (aO a0) λZ=>
 Do (M 20 Z) λaa=>
 Do (O d 1 false aa) λab=>
 Do (cM .not ab) λac=>
 L ac true (
 Do (M 2 b) λag=>
 Do (O d 1 false ag) λah=>
 Do (M 3 b) λx=>
 Do (O d 1 false x) λy=>
 Do (aU (some 2) 1 q J) λr=>
 Do (O d 1 false r) λs=>
 Do (aU (some 2) 1 q (D 1)) λi=>
 Do (O d 1 false i) λj=>
Φ 108 [a0,ah] d λai k=>
(O k 1 false x=some y) ∧
(O k 1 false r=some s) ∧
(O k 1 false i=some j) ∧
(Φ 108 [a0,y] k λaj t=>
(O t 1 false r=some s) ∧
(O t 1 false i=some j) ∧
(Do (aO ai) λak=>
 Do (ax t 1 ak s) λz=>
(O z 1 false i=some j) ∧
(Do (aO aj) λal=>
 Do (ax z 1 al j) λam=>
 Q (.aM []) am)))) (
 Q (.aM []) d)))) (
 Q (.aM []) f)) (
 Do (N .eql l (D 7)) λan=>
 L an true (
 Do (M 4 b) λao=>
 Do (O c 1 false ao) λap=>
 Do (N .add e (D 1)) λaq=>
 Do (ba [J,J,J,J,J,J,P,J,J,J,J,af 0,af 0] [(0,1,(D 4)),(9,1,ap),(1,1,aq)]) λar=>
Φ 106 [a0,ar] c λaB av=>
 Q (.aM []) av) (
 Do (N .eql l (D 9)) λaw=>
 L aw true (
 au (Aa Φ a0 e b Q) ([],c)) (
 Do (O c 10 true b) λay=>
Φ 111 [a0,ay,e] c λaC az=>
 Q (.aM []) az))))
def f77(Φ:ae)(a0 Y d:I)(H:Z)(Q:ad):Prop:=
 aJ (bg H false 10 Y) λb c=>
 Do (M 0 b) λg=>
 Do (O c 1 false g) λa=>
 Do (N .eql a (D 3)) λe=>
 L e true (
 U (mB Φ a0 d b a Q) [e] c) (
 Do (N .eql a (D 4)) λf=>
 L f true (
 U (mB Φ a0 d b a Q) [f] c) (
 Do (N .eql a (D 6)) λh=>
 U (mB Φ a0 d b a Q) [h] c))
noncomputable def F2:bw:=bD C ⟨77,[6,8],[[]],none,[],[]⟩
def Ab(Φ:ae)(b:ST)(c:LT)(Q:ad):a:=λd e=>
 Do (N .add (sl b.1 1) (D 1)) λf=>
 c ([(sl d 0),f],e)
def vu(Φ:ae)(b:I)(c:ST)(d:LT)(Q:ad):a:=λf e=>
 L (sl f 0) true (
 Do (N .add b (D 1)) λg=>
 U (Ab Φ c d Q) [g] e) (
 U (Ab Φ c d Q) [b] e)
def q2(Φ:ae)(a0 o:I)(Q:ad):BT:=λs2 j=>
 Do (N .lss (sl s2.1 1) o) λp=>
 L p true (
 Do (aU none 10 a0 (sl s2.1 1)) λq=>
 Do (O s2.2 10 true q) λr=>
 aJ (some (aR s2.2 true [J,J,.str [],.str [],J,.str [],ar,ar,ar,ar])) λa s=>
 Do (ax s 10 a r) λb=>
 Do (M 5 a) λt=>
 Do (O b 2 true t) λu=>
 Do (M 7 a) λk=>
 Do (O b 1 false k) λl=>
 Do (M 8 a) λg=>
 Do (O b 1 false g) λh=>
 Do (M 9 a) λc=>
 Do (O b 1 false c) λd=>
Φ 107 [u] b λv e=>
(O e 1 false k=some l) ∧
(O e 1 false g=some h) ∧
(O e 1 false c=some d) ∧
(Φ 110 [l] e λw i=>
(O i 1 false g=some h) ∧
(O i 1 false c=some d) ∧
(Do (N .add v w) λx=>
Φ 78 [h] i λy m=>
(O m 1 false c=some d) ∧
(Do (N .add x y) λz=>
Φ 78 [d] m λA f=>
 Do (N .add z A) λB=>
 Do (N .add (sl s2.1 0) B) λn=>
 Do (M 0 a) λC=>
 Do (O f 1 false C) λE=>
 Do (N .geq E (D 3)) λF=>
 aQ F true (
 Do (M 0 a) λG=>
 Do (O f 1 false G) λH=>
 Do (N .leq H (D 7)) λK=>
 U (vu Φ n s2 j Q) [K] f) (
 U (vu Φ n s2 j Q) [P] f) (
 False))))) (
 Q (sl s2.1 0) s2.2)
def f78(Φ:ae)(a0:I)(H:Z)(Q:ad):Prop:=
 Do (bj false a0) λa=>
 au (q2 Φ a0 a Q) ([J,J],H)
noncomputable def F3:bw:=bD C ⟨78,[5],[[3,8]],none,[],[]⟩
def vv(Φ:ae)(b:ST)(c:LT)(Q:ad):a:=λd e=>
 Do (N .add (sl b.1 1) (D 1)) λf=>
 c ([(sl d 0),f],e)
def F4(Φ:ae)(Y g:I)(b:ST)(d:LT)(Q:ad):a:=λo c=>
 Do (M 3 g) λh=>
 Do (O c 1 false h) λi=>
 Do (aU none 9 i (sl b.1 1)) λj=>
 Do (M 1 j) λk=>
 Do (O c 6 true k) λl=>
 Do (N .sub Y (D 1)) λm=>
Φ 79 [l,m] c λe f=>
 Do (N .gtr e (sl b.1 0)) λn=>
 L n true (
 U (vv Φ b d Q) [e] f) (
 U (vv Φ b d Q) [(sl b.1 0)] f)
def vw(Φ:ae)(b:ST)(c:LT)(Q:ad):a:=λd e=>
 Do (N .add (sl b.1 1) (D 1)) λf=>
 c ([(sl d 0),f],e)
def F5(Φ:ae)(Y g:I)(b:ST)(d:LT)(Q:ad):a:=λn c=>
 Do (M 5 g) λh=>
 Do (O c 1 false h) λi=>
 Do (aU none 6 i (sl b.1 1)) λj=>
 Do (O c 6 true j) λk=>
 Do (N .sub Y (D 1)) λl=>
Φ 79 [k,l] c λe f=>
 Do (N .gtr e (sl b.1 0)) λm=>
 L m true (
 U (vw Φ b d Q) [e] f) (
 U (vw Φ b d Q) [(sl b.1 0)] f)
def Ac(Φ:ae)(Q:ad):a:=λb c=>
 Do (N .add (sl b 0) (D 1)) λd=>
 Q d c
def vx(Φ:ae)(Y d:I)(b:ST)(e:LT)(Q:ad):a:=λf c=>
 L (sl f 0) true (
 U (F5 Φ Y d b e Q) [] c) (
 U (Ac Φ Q) [(sl b.1 0)] c)
def q3(Φ:ae)(Y b:I)(Q:ad):BT:=λa c=>
 Do (M 5 b) λd=>
 Do (O a.2 1 false d) λe=>
 Do (bj false e) λf=>
 Do (N .lss (sl a.1 1) f) λg=>
 aQ g true (
 Do (N .gtr Y (D 1)) λh=>
 U (vx Φ Y b a c Q) [h] a.2) (
 U (vx Φ Y b a c Q) [P] a.2) (
 False)
def Ad(Φ:ae)(Y b:I)(Q:ad):a:=λc d=>
 au (q3 Φ Y b Q) ([(sl c 0),J],d)
def vy(Φ:ae)(Y b:I)(c:ST)(e:LT)(Q:ad):a:=λf d=>
 L (sl f 0) true (
 U (F4 Φ Y b c e Q) [] d) (
 U (Ad Φ Y b Q) [(sl c.1 0)] d)
def q4(Φ:ae)(Y b:I)(Q:ad):BT:=λa c=>
 Do (M 3 b) λd=>
 Do (O a.2 1 false d) λe=>
 Do (bj false e) λf=>
 Do (N .lss (sl a.1 1) f) λg=>
 aQ g true (
 Do (N .gtr Y (D 1)) λh=>
 U (vy Φ Y b a c Q) [h] a.2) (
 U (vy Φ Y b a c Q) [P] a.2) (
 False)
def f79(Φ:ae)(a0 Y:I)(H:Z)(Q:ad):Prop:=
 aJ (bg H false 6 a0) λa b=>
 au (q4 Φ Y a Q) ([J,J],b)
noncomputable def F6:bw:=bD C ⟨79,[],[[5,6],[5,8]],none,[],[]⟩
def q5(Φ:ae)(Q:ad):a:=λc b=>
 L (sl c 0) true (
 Q (D 9) b) (
 Q J b)
def vz(Φ:ae)(c:I)(Q:ad):a:=λd b=>
 aQ (sl d 0) false (
 Do (M 0 c) λe=>
 Do (O b 1 false e) λf=>
 Do (N .eql f (D 2)) λg=>
 aQ g true (
 Do (M 1 c) λh=>
 Do (O b 1 false h) λi=>
Φ 112 [i,(D 16)] b λj k=>
 Do (cM .not j) λl=>
 U (q5 Φ Q) [l] k) (
 U (q5 Φ Q) [P] b) (
 False)) (
 U (q5 Φ Q) [bd] b) (
 False)
def Ae(Φ:ae)(b:I)(Q:ad):a:=λl c=>
 Do (M 0 b) λd=>
 Do (O c 1 false d) λe=>
 Do (N .eql e (D 1)) λf=>
 aQ f true (
 Do (M 1 b) λg=>
 Do (O c 1 false g) λh=>
Φ 112 [h,(D 8)] c λi j=>
 Do (cM .not i) λk=>
 U (vz Φ b Q) [k] j) (
 U (vz Φ b Q) [P] c) (
 False)
def vA(Φ:ae)(c:I)(Q:ad):a:=λd b=>
 L (sl d 0) true (
 Q (D 8) b) (
 U (Ae Φ c Q) [] b)
def vC(Φ:ae)(b:I)(Q:ad):a:=λd c=>
 aQ (sl d 0) false (
 Do (M 5 b) λe=>
 Do (O c 1 false e) λf=>
 Do (bj false f) λg=>
 Do (N .gtr g J) λh=>
 U (vA Φ b Q) [h] c) (
 U (vA Φ b Q) [bd] c) (
 False)
def vD(Φ:ae)(b:I)(Q:ad):a:=λd c=>
 aQ (sl d 0) false (
 Do (M 4 b) λe=>
 Do (O c 1 false e) λf=>
 Do (N .neq f J) λg=>
 U (vC Φ b Q) [g] c) (
 U (vC Φ b Q) [bd] c) (
 False)
def F7(Φ:ae)(c:I)(Q:ad):a:=λj b=>
 Do (M 5 c) λd=>
 Do (O b 1 false d) λe=>
 Do (aU none 6 e J) λf=>
 Do (O b 6 true f) λg=>
Φ 80 [g] b λh i=>
 Q h i
def vF(Φ:ae)(c:I)(Q:ad):a:=λd b=>
 L (sl d 0) true (
 Q (D 9) b) (
 U (F7 Φ c Q) [] b)
def Af(Φ:ae)(b:I)(Q:ad):a:=λj c=>
 Do (M 4 b) λd=>
 Do (O c 1 false d) λe=>
 Do (N .lss e (D 1)) λf=>
 aQ f false (
 Do (M 4 b) λg=>
 Do (O c 1 false g) λh=>
 Do (N .gtr h (D 65536)) λi=>
 U (vF Φ b Q) [i] c) (
 U (vF Φ b Q) [bd] c) (
 False)
def vG(Φ:ae)(c:I)(Q:ad):a:=λd b=>
 L (sl d 0) true (
 Q (D 8) b) (
 U (Af Φ c Q) [] b)
def vH(Φ:ae)(b:I)(Q:ad):a:=λd c=>
 aQ (sl d 0) false (
 Do (M 5 b) λe=>
 Do (O c 1 false e) λf=>
 Do (bj false f) λg=>
 Do (N .neq g (D 1)) λh=>
 U (vG Φ b Q) [h] c) (
 U (vG Φ b Q) [bd] c) (
 False)
def vI(Φ:ae)(b:I)(Q:ad):a:=λd c=>
 aQ (sl d 0) false (
 Do (M 1 b) λe=>
 Do (O c 1 false e) λf=>
 Do (N .neq f J) λg=>
 U (vH Φ b Q) [g] c) (
 U (vH Φ b Q) [bd] c) (
 False)
def F8(Φ:ae)(b:ST)(c:LT)(Q:ad):a:=λf d=>
 Do (N .add (sl b.1 0) (D 1)) λe=>
 c ([e],d)
def vJ(Φ:ae)(c:ST)(d:LT)(Q:ad):a:=λe b=>
 L (sl e 0) true (
 Q (D 7) b) (
 U (F8 Φ c d Q) [] b)
def Ag(Φ:ae)(b:ST)(c:LT)(Q:ad):a:=λf d=>
 Do (N .add (sl b.1 0) (D 1)) λe=>
 c ([e],d)
def nA(Φ:ae)(c:ST)(d:LT)(Q:ad):a:=λe b=>
 L (sl e 0) true (
 Q (D 9) b) (
 U (Ag Φ c d Q) [] b)
def F9(Φ:ae)(c:I)(d:ST)(e:LT)(Q:ad):a:=λx b=>
 Do (M 7 c) λf=>
 Do (O b 1 false f) λg=>
 aQ g true (
 Do (M 8 c) λh=>
 Do (O b 1 false h) λi=>
 Do (N .lss i J) λj=>
 aQ j false (
 Do (M 8 c) λk=>
 Do (O b 1 false k) λl=>
 Do (M 1 c) λm=>
 Do (M 1 m) λn=>
 Do (O b 1 false n) λo=>
 Do (N .mul (D 8) o) λp=>
 Do (N .gtr l p) λq=>
 aQ q false (
 Do (M 8 c) λr=>
 Do (O b 1 false r) λs=>
 Do (N .eql s J) λt=>
 aQ t true (
 Do (M 0 c) λu=>
 Do (O b 1 false u) λv=>
 Do (N .neq v (.str [])) λw=>
 U (nA Φ d e Q) [w] b) (
 U (nA Φ d e Q) [P] b) (
 False)) (
 U (nA Φ d e Q) [bd] b) (
 False)) (
 U (nA Φ d e Q) [bd] b) (
 False)) (
 U (nA Φ d e Q) [P] b) (
 False)
def o5(Φ:ae)(c:I)(d:ST)(e:LT)(Q:ad):a:=λf b=>
 L (sl f 0) true (
 Q (D 8) b) (
 U (F9 Φ c d e Q) [] b)
def vK(Φ:ae)(f c:I)(d:ST)(e:LT)(Q:ad):a:=λg b=>
 aQ (sl g 0) false (
 Do (M 7 c) λh=>
 Do (O b 1 false h) λi=>
 aQ i true (
 Do (M 2 f) λj=>
 Do (O b 1 false j) λk=>
 aQ k false (
 Do (M 1 c) λl=>
 Do (M 0 l) λm=>
 Do (O b 1 false m) λn=>
 Do (N .neq n (D 1)) λo=>
 U (o5 Φ c d e Q) [o] b) (
 U (o5 Φ c d e Q) [bd] b) (
 False)) (
 U (o5 Φ c d e Q) [P] b) (
 False)) (
 U (o5 Φ c d e Q) [bd] b) (
 False)
def Ah(Φ:ae)(d b:I)(e:ST)(f:LT)(Q:ad):a:=λr g=>
 Do (M 1 b) λi=>
 Do (O g 6 true i) λj=>
Φ 80 [j] g λh c=>
 Do (N .neq h J) λk=>
 L k true (
 Q h c) (
 Do (M 7 b) λl=>
 Do (O c 1 false l) λm=>
 Do (cM .not m) λn=>
 aQ n true (
 Do (M 8 b) λo=>
 Do (O c 1 false o) λp=>
 Do (N .neq p J) λq=>
 U (vK Φ d b e f Q) [q] c) (
 U (vK Φ d b e f Q) [P] c) (
 False))
def q6(Φ:ae)(c b:I)(d:ST)(f:LT)(Q:ad):BT:=λa e=>
 Do (N .lss (sl a.1 0) (sl d.1 0)) λg=>
 L g true (
 Do (M 0 b) λh=>
 Do (O a.2 1 false h) λi=>
 Do (N .neq i (.str [])) λj=>
 aQ j true (
 Do (M 3 c) λk=>
 Do (O a.2 1 false k) λl=>
 Do (aU none 9 l (sl a.1 0)) λm=>
 Do (M 0 m) λn=>
 Do (O a.2 1 false n) λo=>
 Do (M 0 b) λp=>
 Do (O a.2 1 false p) λq=>
 Do (N .eql o q) λr=>
 U (vJ Φ a e Q) [r] a.2) (
 U (vJ Φ a e Q) [P] a.2) (
 False)) (
 U (Ah Φ c b d f Q) [] a.2)
def F_(Φ:ae)(b c:I)(d:ST)(e:LT)(Q:ad):a:=λg f=>
 au (q6 Φ b c d e Q) ([J],f)
def q7(Φ:ae)(c d:I)(e:ST)(f:LT)(Q:ad):a:=λg b=>
 L (sl g 0) true (
 Q (D 6) b) (
 U (F_ Φ c d e f Q) [] b)
def o6(Φ:ae)(c:I)(Q:ad):BT:=λa e=>
 Do (M 3 c) λg=>
 Do (O a.2 1 false g) λh=>
 Do (bj false h) λi=>
 Do (N .lss (sl a.1 0) i) λj=>
 L j true (
 Do (M 3 c) λk=>
 Do (O a.2 1 false k) λl=>
 Do (aU none 9 l (sl a.1 0)) λm=>
 Do (O a.2 9 true m) λn=>
 aJ (some (aR a.2 true [.str [],J,J,P,ar,J,ar,P,J])) λb o=>
 Do (ax o 9 b n) λf=>
 Do (M 0 b) λp=>
 Do (O f 1 false p) λq=>
Φ 20 [q] f λr d=>
 Do (cM .not r) λs=>
 aQ s true (
 Do (M 0 b) λt=>
 Do (O d 1 false t) λu=>
 Do (N .eql u (.str [])) λv=>
 aQ v true (
 Do (M 7 b) λw=>
 Do (O d 1 false w) λx=>
 Do (cM .not x) λy=>
 U (q7 Φ c b a e Q) [y] d) (
 Do (cM .not P) λz=>
 U (q7 Φ c b a e Q) [z] d) (
 False)) (
 U (q7 Φ c b a e Q) [P] d) (
 False)) (
 Q J a.2)
def Ga(Φ:ae)(b:I)(Q:ad):a:=λd c=>
 au (o6 Φ b Q) ([J],c)
def vL(Φ:ae)(c:I)(Q:ad):a:=λd b=>
 L (sl d 0) true (
 Q (D 12) b) (
 U (Ga Φ c Q) [] b)
def Ai(Φ:ae)(b:I)(Q:ad):a:=λl c=>
 Do (M 3 b) λd=>
 Do (O c 1 false d) λe=>
 Do (bj false e) λf=>
 Do (N .eql f J) λg=>
 aQ g false (
 Do (M 3 b) λh=>
 Do (O c 1 false h) λi=>
 Do (bj false i) λj=>
 Do (N .gtr j (D 32)) λk=>
 U (vL Φ b Q) [k] c) (
 U (vL Φ b Q) [bd] c) (
 False)
def vM(Φ:ae)(c:I)(Q:ad):a:=λd b=>
 L (sl d 0) true (
 Q (D 8) b) (
 U (Ai Φ c Q) [] b)
def vN(Φ:ae)(b:I)(Q:ad):a:=λd c=>
 aQ (sl d 0) false (
 Do (M 5 b) λe=>
 Do (O c 1 false e) λf=>
 Do (bj false f) λg=>
 Do (N .gtr g J) λh=>
 U (vM Φ b Q) [h] c) (
 U (vM Φ b Q) [bd] c) (
 False)
def vO(Φ:ae)(c:I)(Q:ad):a:=λd b=>
 L (sl d 0) true (
 Do (M 1 c) λe=>
 Do (O b 1 false e) λf=>
 Do (N .neq f J) λg=>
 aQ g false (
 Do (M 4 c) λh=>
 Do (O b 1 false h) λi=>
 Do (N .neq i J) λj=>
 U (vN Φ c Q) [j] b) (
 U (vN Φ c Q) [bd] b) (
 False)) (
 Q (D 8) b)
def o7(Φ:ae)(b d:I)(Q:ad):a:=λf c=>
 L (sl f 0) true (
 Do (M 2 b) λg=>
 Do (O c 1 false g) λh=>
 aQ h false (
 Do (M 3 b) λi=>
 Do (O c 1 false i) λj=>
 Do (bj false j) λk=>
 Do (N .gtr k J) λl=>
 U (vD Φ b Q) [l] c) (
 U (vD Φ b Q) [bd] c) (
 False)) (
 Do (N .eql d (D 5)) λm=>
 L m true (
 Do (M 2 b) λn=>
 Do (O c 1 false n) λo=>
 aQ o false (
 Do (M 3 b) λp=>
 Do (O c 1 false p) λq=>
 Do (bj false q) λr=>
 Do (N .gtr r J) λs=>
 U (vI Φ b Q) [s] c) (
 U (vI Φ b Q) [bd] c) (
 False)) (
 Do (N .eql d (D 3)) λe=>
 L e true (
 U (vO Φ b Q) [e] c) (
 Do (N .eql d (D 4)) λt=>
 U (vO Φ b Q) [t] c)))
def f80(Φ:ae)(a0:I)(H:Z)(Q:ad):Prop:=
 aJ (bg H false 6 a0) λb c=>
 Do (M 0 b) λe=>
 Do (O c 1 false e) λa=>
 Do (N .eql a (D 1)) λd=>
 L d true (
 U (o7 Φ b a Q) [d] c) (
 Do (N .eql a (D 2)) λf=>
 U (o7 Φ b a Q) [f] c)
noncomputable def Gb:bw:=bD C ⟨80,[4],[[3],[5]],none,[],[]⟩
def vQ(Φ:ae)(b:ST)(c:LT)(Q:ad):a:=λd e=>
 Do (N .add (sl b.1 1) (D 1)) λf=>
 c ([(sl d 0),f],e)
def vT(Φ:ae)(b:ST)(c:LT)(Q:ad):a:=λd e=>
 Do (N .add (sl b.1 1) (D 1)) λf=>
 c ([(sl d 0),f],e)
def vU(Φ:ae)(b:I)(Q:ad):BT:=λa c=>
 Do (M 3 b) λd=>
 Do (O a.2 1 false d) λe=>
 Do (bj false e) λf=>
 Do (N .lss (sl a.1 1) f) λg=>
 L g true (
 aQ (sl a.1 0) false (
 Do (M 3 b) λh=>
 Do (O a.2 1 false h) λi=>
 Do (aU none 9 i (sl a.1 1)) λj=>
 Do (M 1 j) λk=>
 Do (O a.2 6 true k) λl=>
Φ 81 [l] a.2 λm n=>
 U (vT Φ a c Q) [m] n) (
 U (vT Φ a c Q) [bd] a.2) (
 False)) (
 Q (sl a.1 0) a.2)
def Gc(Φ:ae)(b:I)(Q:ad):a:=λc d=>
 au (vU Φ b Q) ([(sl c 0),J],d)
def vV(Φ:ae)(b:I)(Q:ad):BT:=λa c=>
 Do (M 5 b) λd=>
 Do (O a.2 1 false d) λe=>
 Do (bj false e) λf=>
 Do (N .lss (sl a.1 1) f) λg=>
 L g true (
 aQ (sl a.1 0) false (
 Do (M 5 b) λh=>
 Do (O a.2 1 false h) λi=>
 Do (aU none 6 i (sl a.1 1)) λj=>
 Do (O a.2 6 true j) λk=>
Φ 81 [k] a.2 λl m=>
 U (vQ Φ a c Q) [l] m) (
 U (vQ Φ a c Q) [bd] a.2) (
 False)) (
 U (Gc Φ b Q) [(sl a.1 0)] a.2)
def vW(Φ:ae)(b:I)(Q:ad):a:=λc d=>
 au (vV Φ b Q) ([(sl c 0),J],d)
def f81(Φ:ae)(a0:I)(H:Z)(Q:ad):Prop:=
 aJ (bg H false 6 a0) λa b=>
 Do (M 0 a) λc=>
 Do (O b 1 false c) λd=>
 Do (N .eql d (D 2)) λe=>
 aQ e true (
 Do (M 1 a) λf=>
 Do (O b 1 false f) λg=>
 Do (N .gtr g (D 1)) λh=>
 U (vW Φ a Q) [h] b) (
 U (vW Φ a Q) [P] b) (
 False)
noncomputable def Ge:bw:=bD C ⟨81,[],[[3,4],[3,5]],none,[],[]⟩
def f82(Φ:ae)(a0:I)(H:Z)(Q:ad):Prop:=
 aJ (bg H false 2 a0) λb a=>
 Do (M 0 b) λc=>
 Do (O a 1 false c) λd=>
 Do (N .eql d (.str [])) λe=>
 aQ e true (
 Do (M 1 b) λf=>
 Do (O a 1 false f) λg=>
 Do (bj false g) λh=>
 Do (N .eql h J) λi=>
 Q i a) (
 Q P a) (
 False)
noncomputable def Gf:bw:=bD C ⟨82,[],[],none,[],[]⟩
def vX(Φ:ae)(b:ST)(c:LT)(Q:ad):a:=λd e=>
 Do (N .sub (sl b.1 1) (D 1)) λf=>
 c ([(sl d 0),f],e)
def nB(Φ:ae)(b:ST)(c:LT)(Q:ad):a:=λd e=>
 Do (N .add (sl b.1 1) (D 1)) λf=>
 c ([(sl d 0),f],e)
def vY(Φ:ae)(b:ST)(c:LT)(Q:ad):a:=λd e=>
 Do (N .add (sl b.1 1) (D 1)) λf=>
 c ([(sl d 0),f],e)
def Gg(Φ:ae)(d f g:I)(c:ST)(e:LT)(Q:ad):a:=λv b=>
 Do (M 3 d) λh=>
 Do (O b 1 false h) λi=>
 Do (aU none 9 i (sl c.1 1)) λj=>
 Do (M 0 j) λk=>
 Do (O b 1 false k) λl=>
 Do (M 0 f) λm=>
 Do (O b 1 false m) λn=>
 Do (N .eql l n) λo=>
 L o true (
 Do (M 3 d) λp=>
 Do (O b 1 false p) λq=>
 Do (aU none 9 q (sl c.1 1)) λr=>
 Do (M 1 r) λs=>
 Do (O b 6 true s) λt=>
 Do (ax b 6 g t) λu=>
 U (vY Φ c e Q) [J] u) (
 U (vY Φ c e Q) [(sl c.1 0)] b)
def vZ(Φ:ae)(c d:I)(e:ST)(f:LT)(Q:ad):a:=λg b=>
 Do (O b 6 true d) λh=>
 Do (ax b 6 c h) λi=>
 U (nB Φ e f Q) [(sl g 0)] i
def o8(Φ:ae)(b f c:I)(g:ST)(h:LT)(d:ST)(i:LT)(Q:ad):a:=λj e=>
 L (sl j 0) true (
 U (Gg Φ b f c d i Q) [] e) (
 U (vZ Φ b c g h Q) [(sl d.1 0)] e)
def q8(Φ:ae)(b c d:I)(e:ST)(f:LT)(Q:ad):BT:=λa g=>
 Do (M 3 b) λh=>
 Do (O a.2 1 false h) λi=>
 Do (bj false i) λj=>
 Do (N .lss (sl a.1 1) j) λk=>
 aQ k true (
 Do (N .neq (sl a.1 0) J) λl=>
 U (o8 Φ b c d e f a g Q) [l] a.2) (
 U (o8 Φ b c d e f a g Q) [P] a.2) (
 False)
def q9(Φ:ae)(f g:I)(b:ST)(c:LT)(Q:ad):a:=λh d=>
 L (sl h 0) true (
 Do (ba [J,J,P,ar,J,ar] []) λi=>
 aJ (some (aR d true [J,J,P,ar,J,ar])) λe j=>
 Do (ax j 6 e i) λk=>
 au (q8 Φ f g e b c Q) ([(D 6),J],k)) (
 U (nB Φ b c Q) [(D 8)] d)
def v7(Φ:ae)(b d:I)(e:ST)(f:LT)(Q:ad):a:=λg c=>
 aQ (sl g 0) true (
 Do (M 0 b) λh=>
 Do (O c 1 false h) λi=>
 Do (N .eql i (D 3)) λj=>
 aQ j false (
 Do (M 0 b) λk=>
 Do (O c 1 false k) λl=>
 Do (N .eql l (D 4)) λm=>
 U (q9 Φ b d e f Q) [m] c) (
 U (q9 Φ b d e f Q) [bd] c) (
 False)) (
 U (q9 Φ b d e f Q) [P] c) (
 False)
def v8(Φ:ae)(c d:I)(e:ST)(f:LT)(Q:ad):a:=λg b=>
 L (sl g 0) true (
 Do (M 5 c) λh=>
 Do (O b 1 false h) λi=>
 Do (aU none 6 i J) λj=>
 Do (O b 6 true j) λk=>
 Do (ax b 6 c k) λl=>
 U (nB Φ e f Q) [(sl e.1 0)] l) (
 Do (M 1 d) λm=>
 Do (O b 1 false m) λn=>
 Do (bj false n) λo=>
 Do (N .eql o J) λp=>
 aQ p true (
 Do (M 0 d) λq=>
 Do (O b 1 false q) λr=>
 Do (N .neq r (.str [])) λs=>
 U (v7 Φ c d e f Q) [s] b) (
 U (v7 Φ c d e f Q) [P] b) (
 False))
def v_(Φ:ae)(b d:I)(e:ST)(f:LT)(Q:ad):a:=λg c=>
 aQ (sl g 0) true (
 Do (M 0 b) λh=>
 Do (O c 1 false h) λi=>
 Do (N .eql i (D 5)) λj=>
 U (v8 Φ b d e f Q) [j] c) (
 U (v8 Φ b d e f Q) [P] c) (
 False)
def Gh(Φ:ae)(h f:I)(d:ST)(g:LT)(Q:ad):a:=λu e=>
 Do (M 1 h) λi=>
 Do (O e 1 false i) λj=>
 Do (aU none 2 j (sl d.1 1)) λk=>
 Do (O e 2 true k) λl=>
 aJ (some (aR e true [.str [],ar])) λb m=>
 Do (ax m 2 b l) λc=>
 Do (M 1 b) λn=>
 Do (O c 1 false n) λo=>
 Do (bj false o) λp=>
 Do (N .eql p (D 1)) λq=>
 aQ q true (
 Do (M 0 b) λr=>
 Do (O c 1 false r) λs=>
 Do (N .eql s (.str [])) λt=>
 U (v_ Φ f b d g Q) [t] c) (
 U (v_ Φ f b d g Q) [P] c) (
 False)
def q_(Φ:ae)(b g:I)(Q:ad):a:=λd c=>
 Do (N .neq (sl d 0) J) λh=>
 L h true (
 Do (ba [J,J,P,ar,J,ar] []) λi=>
 Do (ax c 6 b i) λe=>
 Do (O e 6 true b) λj=>
 Q (.aM [j,(sl d 0)]) e) (
 Do (O c 6 true g) λk=>
 Do (ax c 6 b k) λf=>
 Do (O f 6 true b) λl=>
 Q (.aM [l,J]) f)
def o9(Φ:ae)(e f b:I)(c:ST)(g:LT)(Q:ad):a:=λh d=>
 L (sl h 0) true (
 U (Gh Φ e b c g Q) [] d) (
 U (q_ Φ f b Q) [(sl c.1 0)] d)
def nC(Φ:ae)(b c d:I)(Q:ad):BT:=λa e=>
 Do (M 1 b) λf=>
 Do (O a.2 1 false f) λg=>
 Do (bj false g) λh=>
 Do (N .lss (sl a.1 1) h) λi=>
 aQ i true (
 Do (N .eql (sl a.1 0) J) λj=>
 U (o9 Φ b c d a e Q) [j] a.2) (
 U (o9 Φ b c d a e Q) [P] a.2) (
 False)
def Aj(Φ:ae)(a0 h b:I)(Q:ad):a:=λe c=>
 Do (N .lss (sl e 0) J) λi=>
 L i true (
 Do (ba [J,J,P,ar,J,ar] []) λj=>
 Do (ax c 6 b j) λf=>
 Do (O f 6 true b) λk=>
 Q (.aM [k,(D 6)]) f) (
 Do (aU none 7 a0 (sl e 0)) λl=>
 Do (M 1 l) λm=>
 Do (O c 6 true m) λn=>
 aJ (some (aR c true [J,J,P,ar,J,ar])) λd o=>
 Do (ax o 6 d n) λg=>
 Do (O g 6 true d) λp=>
Φ 50 [p] g λq r=>
 au (nC Φ h b d Q) ([q,J],r))
def re(Φ:ae)(a0 b d:I)(Q:ad):BT:=λa c=>
 Do (N .geq (sl a.1 1) J) λe=>
 L e true (
 Do (aU none 7 a0 (sl a.1 1)) λf=>
 Do (M 0 f) λg=>
 Do (O a.2 1 false g) λh=>
 Do (M 0 b) λi=>
 Do (O a.2 1 false i) λj=>
 Do (N .eql h j) λk=>
 L k true (
 U (vX Φ a c Q) [(sl a.1 1)] a.2) (
 U (vX Φ a c Q) [(sl a.1 0)] a.2)) (
 U (Aj Φ a0 b d Q) [(sl a.1 0)] a.2)
def f83(Φ:ae)(a0 Y:I)(H:Z)(Q:ad):Prop:=
 aJ (bg H false 2 Y) λa b=>
 aJ (some (aR b true [J,J,P,ar,J,ar])) λc d=>
 Do (bj false a0) λe=>
 Do (N .sub e (D 1)) λf=>
 au (re Φ a0 a c Q) ([(D (-1)),f],d)
noncomputable def Gi:bw:=bD C ⟨83,[4,8,11,12],[[6,7],[9,10],[9,13]],none,[],[]⟩
def wa(Φ:ae)(c:I)(Q:ad):a:=λd b=>
 aQ (sl d 0) true (
 Do (M 0 c) λe=>
 Do (O b 1 false e) λf=>
 Do (N .geq f (D 4)) λg=>
 aQ g false (
 Do (M 5 c) λh=>
 Do (O b 2 true h) λi=>
Φ 82 [i] b λj k=>
 Q j k) (
 Q bd b) (
 False)) (
 Q P b) (
 False)
def wb(Φ:ae)(b:I)(Q:ad):a:=λd c=>
 aQ (sl d 0) true (
 Do (M 3 b) λe=>
 Do (O c 1 false e) λf=>
 Do (N .leq f (D 11)) λg=>
 U (wa Φ b Q) [g] c) (
 U (wa Φ b Q) [P] c) (
 False)
def wc(Φ:ae)(b:I)(Q:ad):a:=λd c=>
 aQ (sl d 0) true (
 Do (M 3 b) λe=>
 Do (O c 1 false e) λf=>
 Do (N .geq f J) λg=>
 U (wb Φ b Q) [g] c) (
 U (wb Φ b Q) [P] c) (
 False)
def rf(Φ:ae)(b:I)(Q:ad):a:=λd c=>
 aQ (sl d 0) true (
 Do (M 0 b) λe=>
 Do (O c 1 false e) λf=>
 Do (N .eql f (D 3)) λg=>
 Do (M 3 b) λh=>
 Do (O c 1 false h) λi=>
 Do (N .neq i J) λj=>
 Do (j9 false g j) λk=>
 U (wc Φ b Q) [k] c) (
 U (wc Φ b Q) [P] c) (
 False)
def we(Φ:ae)(b:I)(Q:ad):a:=λd c=>
 aQ (sl d 0) true (
 Do (M 2 b) λe=>
 Do (O c 1 false e) λf=>
 Do (N .eql f (.str [])) λg=>
 aQ g false (
 Do (M 0 b) λh=>
 Do (O c 1 false h) λi=>
 Do (N .eql i (D 2)) λj=>
 U (rf Φ b Q) [j] c) (
 U (rf Φ b Q) [bd] c) (
 False)) (
 U (rf Φ b Q) [P] c) (
 False)
def Ak(Φ:ae)(b:I)(Q:ad):a:=λj c=>
 Do (M 1 b) λd=>
 Do (O c 1 false d) λe=>
 Do (N .eql e (af 0)) λf=>
 aQ f false (
 Do (M 0 b) λg=>
 Do (O c 1 false g) λh=>
 Do (N .eql h (D 1)) λi=>
 U (we Φ b Q) [i] c) (
 U (we Φ b Q) [bd] c) (
 False)
def rh(Φ:ae)(c:I)(Q:ad):a:=λd b=>
 L (sl d 0) true (
 Q P b) (
 U (Ak Φ c Q) [] b)
def f84(Φ:ae)(a0:I)(H:Z)(Q:ad):Prop:=
 aJ (bg H false 8 a0) λb c=>
 aJ (c9 c false 1 9 [J] [(0,1,(D (-1))),(1,1,J),(2,1,J),(3,1,(D 2)),(4,1,J),(5,1,J),(6,1,(D 1)),(7,1,(D 1)),(8,1,(D 2))]) λd a=>
 Do (M 0 b) λe=>
 Do (O a 1 false e) λf=>
 Do (N .lss f (D 1)) λg=>
 aQ g false (
 Do (M 0 b) λh=>
 Do (O a 1 false h) λi=>
 Do (N .gtr i (D 8)) λj=>
 aQ j false (
 Do (M 7 b) λk=>
 Do (O a 1 false k) λl=>
 Do (bj false l) λm=>
 Do (M 0 b) λn=>
 Do (O a 1 false n) λo=>
 Do (aU none 1 d o) λp=>
 Do (O a 1 false p) λq=>
 Do (N .neq m q) λr=>
 U (rh Φ b Q) [r] a) (
 U (rh Φ b Q) [bd] a) (
 False)) (
 U (rh Φ b Q) [bd] a) (
 False)
noncomputable def Gj:bw:=bD C ⟨84,[],[],none,[],[]⟩
def wg(Φ:ae)(b e:I)(Q:ad):a:=λh c=>
 Do (O c 6 true e) λf=>
 Do (ax c 6 b f) λd=>
 Do (O d 6 true b) λg=>
 Q g d
def f92(Φ:ae)(a0 Y f:I)(H:Z)(Q:ad):Prop:=
 aJ (bg H false 6 a0) λl m=>
 aJ (bg m false 5 Y) λi n=>
 aJ (some (aR n true [J,J,J,P,J,J])) λc g=>
 Do (M 3 l) λo=>
 Do (O g 1 false o) λp=>
 Do (aU none 9 p f) λq=>
 Do (O g 9 true q) λr=>
 aJ (some (aR g true [.str [],J,J,P,ar,J,ar,P,J])) λh s=>
 Do (ax s 9 h r) λa=>
 Do (M 2 i) λt=>
 Do (O a 1 false t) λu=>
 Do (aU none 1 u f) λv=>
 Do (O a 1 false v) λb=>
 Do (M 3 i) λw=>
 Do (O a 1 false w) λx=>
 Do (aU none 1 x f) λy=>
 Do (O a 1 false y) λd=>
 Do (M 7 h) λz=>
 Do (O a 1 false z) λA=>
 Do (cM .not A) λB=>
 L B true (
 Do (N .quo b (D 8)) λC=>
 Do (N .quo d (D 8)) λE=>
 Do (ba [J,J] [(0,1,C),(1,1,E)]) λF=>
 Do (M 1 h) λG=>
 Do (M 0 G) λK=>
 Do (O a 1 false K) λR=>
 Do (ba [J,J,J,P,J,J] [(0,2,F),(2,1,R)]) λS=>
 Do (ax a 6 c S) λj=>
 Do (O j 6 true c) λT=>
 Q T j) (
 Do (N .quo b (D 8)) λV=>
 Do (ba [J,J] [(0,1,V)]) λW=>
 Do (N .rem b (D 8)) λX=>
 Do (ba [J,J,J,P,J,J] [(0,2,W),(2,1,(D 1)),(3,1,bd),(4,1,X),(5,1,d)]) λaa=>
 aJ (some (aR a true [J,J,J,P,J,J])) λe ab=>
 Do (ax ab 6 e aa) λk=>
 Do (N .gtr d J) λac=>
 L ac true (
 Do (N .add b d) λaf=>
 Do (N .sub af (D 1)) λag=>
 Do (N .quo ag (D 8)) λah=>
 Do (N .quo b (D 8)) λai=>
 Do (N .sub ah ai) λaj=>
 Do (N .add aj (D 1)) λak=>
 Do (M 0 e) λal=>
 Do (M 1 al) λam=>
 Do (ax k 1 am ak) λan=>
 U (wg Φ c e Q) [] an) (
 U (wg Φ c e Q) [] k))
noncomputable def Gk:bw:=bD C ⟨92,[6,7,10],[],none,[],[]⟩
def f93(Φ:ae)(a0:I)(H:Z)(Q:ad):Prop:=
 aJ (bg H false 6 a0) λb n=>
 aJ (some (aR n true [J,J])) λa f=>
 Do (O f 6 true b) λo=>
Φ 125 [o] f λg c=>
 Do (N .neq g J) λp=>
 L p true (
 Do (ba [J,J] []) λq=>
 Do (ax c 2 a q) λh=>
 Do (O h 2 true a) λr=>
 Q (.aM [r,g]) h) (
 Do (O c 6 true b) λs=>
Φ 126 [s] c λt d=>
 L t true (
 Do (ba [J,J] []) λu=>
 Do (ax d 2 a u) λi=>
 Do (O i 2 true a) λv=>
 Q (.aM [v,(D 10)]) i) (
 Do (O d 6 true b) λw=>
Φ 127 [w] d λj x=>
 Do (bI 0 j) λy=>
 Do (bI 1 j) λz=>
 aJ (some (aR x true [J,J])) λk A=>
 Do (ax A 2 k y) λe=>
 Do (cM .not z) λB=>
 L B true (
 Do (ba [J,J] []) λC=>
 Do (ax e 2 a C) λl=>
 Do (O l 2 true a) λE=>
 Q (.aM [E,(D 9)]) l) (
 Do (O e 2 true k) λF=>
 Do (ax e 2 a F) λm=>
 Do (O m 2 true a) λG=>
 Q (.aM [G,J]) m)))
noncomputable def Gl:bw:=bD C ⟨93,[2,5],[],none,[],[]⟩
def f94(Φ:ae)(a0:I)(H:Z)(Q:ad):Prop:=
 Do (N .geq a0 (.int .i32 97)) λa=>
 aQ a true (
 Do (N .leq a0 (.int .i32 122)) λb=>
 Q b H) (
 Q P H) (
 False)
noncomputable def Gm:bw:=bD C ⟨94,[],[],none,[],[]⟩
def f95(Φ:ae)(a0 Y:I)(H:Z)(Q:ad):Prop:=
Φ 128 [a0,Y] H λa b=>
 Do (N .geq a J) λc=>
 Q c b
noncomputable def Gn:bw:=bD C ⟨95,[],[],none,[],[]⟩
def N2(Φ:ae)(a0 Y d:I)(Q:ad):BT:=λs2 e=>
 Do (N .lss (sl s2.1 0) d) λf=>
 L f true (
 Do (aU none 7 a0 (sl s2.1 0)) λg=>
 Do (O s2.2 7 true g) λh=>
∃a b,Y = .fn a b∧Φ (jL a) (jM a [h] b) s2.2 λi c=>
 L i true (
 Q (sl s2.1 0) c) (
 Do (N .add (sl s2.1 0) (D 1)) λj=>
 e ([j],c))) (
 Q (D (-1)) s2.2)
def f97(Φ:ae)(a0 Y:I)(H:Z)(Q:ad):Prop:=
 Do (bj false a0) λa=>
 au (N2 Φ a0 Y a Q) ([J],H)
noncomputable def Gp:bw:=bD C ⟨97,[],[[8]],none,[],[]⟩
def wh(Φ:ae)(a0 c:I)(Q:ad):a:=λd b=>
 L (sl d 0) true (
 Do (aO a0) λe=>
 Do (M 3 e) λf=>
 Do (O b 1 false f) λg=>
 Do (ba [J,J] [(0,1,g),(1,1,c)]) λh=>
 Do (aO a0) λi=>
 Do (M 4 i) λj=>
 Do (ax b 2 j h) λk=>
 Q (.aM []) k) (
 Q (.aM []) b)
def f98(Φ:ae)(a0 Y a:I)(H:Z)(Q:ad):Prop:=
 Do (cM .not Y) λb=>
 aQ b true (
Φ 47 [a0] H λc d=>
 Do (cM .not c) λe=>
 U (wh Φ a0 a Q) [e] d) (
 U (wh Φ a0 a Q) [P] H) (
 False)
noncomputable def Gq:bw:=bD C ⟨98,[],[],none,[],[]⟩
def o_(Φ:ae)(c d:I)(Q:ad):a:=λe b=>
 aQ (sl e 0) true (
 Do (M 5 d) λf=>
 Do (O b 1 false f) λg=>
 aQ g false (
 Do (M 9 c) λh=>
 Do (O b 1 false h) λi=>
 Do (bj false i) λj=>
 Do (N .eql j J) λk=>
 Q k b) (
 Q bd b) (
 False)) (
 Q P b) (
 False)
def ri(Φ:ae)(c d:I)(Q:ad):a:=λe b=>
 aQ (sl e 0) true (
 Do (M 4 d) λf=>
 Do (O b 1 false f) λg=>
 aQ g false (
 Do (M 8 c) λh=>
 Do (O b 1 false h) λi=>
 Do (bj false i) λj=>
 Do (N .eql j J) λk=>
 U (o_ Φ c d Q) [k] b) (
 U (o_ Φ c d Q) [bd] b) (
 False)) (
 U (o_ Φ c d Q) [P] b) (
 False)
def pa(Φ:ae)(c d:I)(Q:ad):a:=λe b=>
 aQ (sl e 0) true (
 Do (M 7 c) λf=>
 Do (O b 1 false f) λg=>
 Do (bj false g) λh=>
 Do (M 3 d) λi=>
 Do (O b 1 false i) λj=>
 Do (N .eql h j) λk=>
 U (ri Φ c d Q) [k] b) (
 U (ri Φ c d Q) [P] b) (
 False)
def pb(Φ:ae)(c d:I)(Q:ad):a:=λe b=>
 aQ (sl e 0) true (
 Do (M 2 d) λf=>
 Do (O b 1 false f) λg=>
 aQ g false (
 Do (M 5 c) λh=>
 Do (O b 2 true h) λi=>
Φ 132 [i] b λj k=>
 U (pa Φ c d Q) [j] k) (
 U (pa Φ c d Q) [bd] b) (
 False)) (
 U (pa Φ c d Q) [P] b) (
 False)
def pd(Φ:ae)(c d:I)(Q:ad):a:=λe b=>
 aQ (sl e 0) true (
 Do (M 1 d) λf=>
 Do (O b 1 false f) λg=>
 aQ g false (
 Do (M 3 c) λh=>
 Do (O b 1 false h) λi=>
 Do (N .eql i (.str [])) λj=>
 U (pb Φ c d Q) [j] b) (
 U (pb Φ c d Q) [bd] b) (
 False)) (
 U (pb Φ c d Q) [P] b) (
 False)
def f99(Φ:ae)(a0:I)(H:Z)(Q:ad):Prop:=
 aJ (bg H false 10 a0) λa d=>
 Do (M 0 a) λf=>
 Do (O d 1 false f) λg=>
Φ 131 [g] d λe h=>
 Do (bI 0 e) λi=>
 Do (bI 1 e) λj=>
 aJ (some (aR h true [P,P,P,J,P,P])) λb k=>
 Do (ax k 6 b i) λc=>
 aQ j true (
 Do (M 0 b) λl=>
 Do (O c 1 false l) λm=>
 aQ m false (
 Do (M 2 a) λn=>
 Do (O c 1 false n) λo=>
 Do (N .eql o (.str [])) λp=>
 U (pd Φ a b Q) [p] c) (
 U (pd Φ a b Q) [bd] c) (
 False)) (
 U (pd Φ a b Q) [P] c) (
 False)
noncomputable def Gr:bw:=bD C ⟨99,[3],[],none,[],[]⟩
def Al(Φ:ae)(Y:I)(Q:ad):a:=λc b=>
 aQ (sl c 0) false (
 Do (N .eql Y (D 4)) λd=>
 Q d b) (
 Q bd b) (
 False)
def Am(Φ:ae)(Y:I)(Q:ad):a:=λc b=>
 aQ (sl c 0) false (
 Do (N .eql Y (D 4)) λd=>
 Q d b) (
 Q bd b) (
 False)
def Gs(Φ:ae)(Y:I)(Q:ad):a:=λd b=>
 Do (N .eql Y J) λc=>
 Q c b
def wi(Φ:ae)(a0 Y:I)(Q:ad):a:=λc b=>
 L (sl c 0) true (
 Do (N .geq Y (D 1)) λd=>
 aQ d true (
 Do (N .leq Y (D 4)) λe=>
 Q e b) (
 Q P b) (
 False)) (
 Do (N .eql a0 (D 7)) λf=>
 L f true (
 Do (N .geq Y (D 2)) λg=>
 aQ g true (
 Do (N .leq Y (D 4)) λh=>
 Q h b) (
 Q P b) (
 False)) (
 U (Gs Φ Y Q) [] b))
def An(Φ:ae)(a0 Y:I)(Q:ad):a:=λe b=>
 L (sl e 0) true (
 Do (N .eql Y (D 1)) λf=>
 aQ f false (
 Do (N .eql Y (D 2)) λg=>
 U (Am Φ Y Q) [g] b) (
 U (Am Φ Y Q) [bd] b) (
 False)) (
 Do (N .eql a0 (D 16)) λc=>
 L c true (
 U (wi Φ a0 Y Q) [c] b) (
 Do (N .eql a0 (D 17)) λd=>
 L d true (
 U (wi Φ a0 Y Q) [d] b) (
 Do (N .eql a0 (D 18)) λh=>
 U (wi Φ a0 Y Q) [h] b)))
def Ao(Φ:ae)(a0 Y:I)(Q:ad):a:=λd b=>
 L (sl d 0) true (
 Do (N .eql Y (D 1)) λe=>
 aQ e false (
 Do (N .eql Y (D 3)) λf=>
 U (Al Φ Y Q) [f] b) (
 U (Al Φ Y Q) [bd] b) (
 False)) (
 Do (N .eql a0 (D 5)) λc=>
 L c true (
 U (An Φ a0 Y Q) [c] b) (
 Do (N .eql a0 (D 15)) λg=>
 U (An Φ a0 Y Q) [g] b))
def f100(Φ:ae)(a0 Y:I)(H:Z)(Q:ad):Prop:=
 Do (N .eql a0 (D 4)) λa=>
 L a true (
 U (Ao Φ a0 Y Q) [a] H) (
 Do (N .eql a0 (D 6)) λb=>
 U (Ao Φ a0 Y Q) [b] H)
noncomputable def Gt:bw:=bD C ⟨100,[],[],none,[],[]⟩
def f101(Φ:ae)(a0 Y:I)(H:Z)(Q:ad):Prop:=
 Do (aO a0) λa=>
 Do (M 1 a) λb=>
 Do (O H 1 false b) λc=>
Φ 95 [c,Y] H λd e=>
 Q d e
noncomputable def Gu:bw:=bD C ⟨101,[],[],none,[],[]⟩
def Gv(Φ:ae)(b:ST)(c:LT)(Q:ad):a:=λf d=>
 Do (N .add (sl b.1 0) (D 1)) λe=>
 c ([e],d)
def wj(Φ:ae)(a0 d e f:I)(g:ST)(h:LT)(Q:ad):BT:=λa i=>
 Do (N .lss (sl a.1 0) f) λj=>
 L j true (
 Do (aU none 8 e (sl a.1 0)) λk=>
 Do (O a.2 8 true k) λl=>
 aJ (some (aR a.2 true [J,af 0,.str [],J,J,.str [],ar,ar])) λb m=>
 Do (ax m 8 b l) λc=>
 Do (O c 8 true b) λn=>
 Do (N .add d (D 1)) λo=>
Φ 135 [a0,n,o] c λr p=>
 Do (N .add (sl a.1 0) (D 1)) λq=>
 i ([q],p)) (
 U (Gv Φ g h Q) [] a.2)
def rj(Φ:ae)(a0 e f g:I)(Q:ad):BT:=λa h=>
 Do (N .lss (sl a.1 0) g) λi=>
 L i true (
 Do (aU none 2 f (sl a.1 0)) λj=>
 Do (O a.2 2 true j) λk=>
 aJ (some (aR a.2 true [.str [],ar])) λb l=>
 Do (ax l 2 b k) λc=>
 Do (M 1 b) λm=>
 Do (O c 1 false m) λd=>
 Do (bj false d) λn=>
 au (wj Φ a0 e d n a h Q) ([J],c)) (
 Q (.aM []) a.2)
def wk(Φ:ae)(a0 d e:I)(Q:ad):a:=λh b=>
 Do (M 1 e) λf=>
 Do (O b 1 false f) λc=>
 Do (bj false c) λg=>
 au (rj Φ a0 d c g Q) ([J],b)
def f102(Φ:ae)(a0 Y l e:I)(H:Z)(Q:ad):Prop:=
 aJ (bg H false 2 l) λa m=>
Φ 47 [a0] m λn b=>
 L n true (
 Q (.aM []) b) (
 Do (aO a0) λo=>
 Do (M 0 o) λf=>
 Do (O b 1 false f) λg=>
 Do (O b 2 true a) λh=>
Φ 133 [g,h] b λi p=>
 Do (bI 0 i) λq=>
 Do (bI 1 i) λj=>
 aJ (some (aR p true [J,J,P,ar,J,ar])) λk c=>
(O c 1 false f=some g) ∧
(O c 2 true a=some h) ∧
(Do (ax c 6 k q) λr=>
 Do (N .eql j J) λs=>
Φ 98 [a0,s,j] r λA t=>
Φ 47 [a0] t λu d=>
 aQ u false (
 Do (O d 6 true k) λv=>
Φ 134 [Y,v] d λw x=>
Φ 98 [a0,w,(D 8)] x λB y=>
 U (wk Φ a0 e a Q) [] y) (
Φ 98 [a0,bd,(D 8)] d λC z=>
 U (wk Φ a0 e a Q) [] z) (
 False)))
noncomputable def Gw:bw:=bD C ⟨102,[8,11,13],[[42],[49]],none,[],[]⟩
def wm(Φ:ae)(b:ST)(c:LT)(Q:ad):a:=λf d=>
 Do (N .add (sl b.1 0) (D 1)) λe=>
 c ([e],d)
def rk(Φ:ae)(a0 Y d e:I)(Q:ad):BT:=λs2 b=>
 Do (N .lss (sl s2.1 0) e) λf=>
 L f true (
 Do (aU none 8 Y (sl s2.1 0)) λg=>
 Do (O s2.2 8 true g) λh=>
 aJ (some (aR s2.2 true [J,af 0,.str [],J,J,.str [],ar,ar])) λc i=>
 Do (ax i 8 c h) λj=>
Φ 47 [a0] j λk a=>
 Do (cM .not k) λl=>
 L l true (
 Do (O a 8 true c) λm=>
 Do (N .add d (D 1)) λn=>
Φ 135 [a0,m,n] a λp o=>
 U (wm Φ s2 b Q) [] o) (
 U (wm Φ s2 b Q) [] a)) (
 Q (.aM []) s2.2)
def f103(Φ:ae)(a0 Y a:I)(H:Z)(Q:ad):Prop:=
 Do (bj false Y) λb=>
 au (rk Φ a0 Y a b Q) ([J],H)
noncomputable def Gx:bw:=bD C ⟨103,[7],[[10]],none,[],[]⟩
def wo(Φ:ae)(a0 h b:I)(Q:ad):a:=λt c=>
 Do (M 11 b) λi=>
 Do (aU (some 2) 1 i J) λd=>
 Do (O c 1 false d) λe=>
 Do (M 0 h) λj=>
 Do (M 1 j) λk=>
 Do (O c 1 false k) λl=>
 Do (N .mul (D 8) l) λm=>
 Do (M 11 b) λn=>
Φ 70 [m] c λo f=>
(O f 1 false d=some e) ∧
(Do (N .and e o) λp=>
 Do (aU (some 2) 1 n J) λq=>
 Do (ax f 1 q p) λg=>
 Do (O g 13 true b) λr=>
Φ 106 [a0,r] g λu s=>
 Q (.aM []) s)
def f104(Φ:ae)(a0 Y p:I)(H:Z)(Q:ad):Prop:=
 aJ (bg H false 10 Y) λc q=>
 Do (M 5 c) λw=>
 Do (O q 2 true w) λx=>
Φ 105 [a0,x,p] q λr y=>
 Do (bI 0 r) λz=>
 Do (bI 1 r) λA=>
 aJ (some (aR y true [J,J,J,P,J,J])) λa B=>
 Do (ax B 6 a z) λl=>
 Do (cM .not A) λC=>
 L C true (
 Q (.aM []) l) (
 Do (M 5 c) λE=>
 Do (O l 2 true E) λF=>
Φ 107 [F] l λG d=>
 Do (N .add p G) λs=>
 Do (O d 6 true a) λh=>
 Do (M 4 c) λi=>
 Do (O d 1 false i) λj=>
 Do (M 7 c) λt=>
 Do (O d 1 false t) λu=>
 Do (M 7 c) λm=>
 Do (O d 1 false m) λn=>
Φ 136 [a0,u,s] d λK k=>
(O k 6 true a=some h) ∧
(O k 1 false i=some j) ∧
(O k 1 false m=some n) ∧
(Φ 110 [n] k λR o=>
(O o 6 true a=some h) ∧
(O o 1 false i=some j) ∧
(Do (N .add s R) λS=>
 Do (N .add S (D 1)) λT=>
 Do (ba [J,J,J,J,J,J,P,J,J,J,J,af 0,af 0] [(0,1,(D 2)),(3,6,h),(9,1,j),(11,2,K),(1,1,T)]) λV=>
 aJ (some (aR o true [J,J,J,J,J,J,P,J,J,J,J,af 0,af 0])) λb e=>
(O e 6 true a=some h) ∧
(O e 1 false i=some j) ∧
(O e 1 false t=some u) ∧
(O e 1 false m=some n) ∧
(Do (ax e 13 b V) λf=>
 Do (M 3 a) λW=>
 Do (O f 1 false W) λX=>
 L X true (
 Do (O f 6 true a) λaa=>
 Do (M 1 b) λab=>
 Do (O f 1 false ab) λac=>
 Do (ba [J,J,J,J,J,J,P,J,J,J,J,af 0,af 0] [(0,1,(D 1)),(3,6,aa),(1,1,ac)]) λag=>
Φ 106 [a0,ag] f λah ai=>
 aJ (some (aR ai true [af 0,af 0])) λv aj=>
 Do (ax aj 2 v ah) λg=>
 Do (aU (some 2) 1 v J) λak=>
 Do (O g 1 false ak) λal=>
 Do (M 4 a) λam=>
 Do (O g 1 false am) λan=>
 Do (M 5 a) λao=>
 Do (O g 1 false ao) λap=>
 Do (M 11 b) λaq=>
 Do (aU (some 2) 1 aq J) λar=>
 Do (O g 1 false ar) λau=>
Φ 137 [al,an,ap,au] g λav aw=>
 Do (M 11 b) λay=>
 Do (aU (some 2) 1 ay J) λaz=>
 Do (ax aw 1 az av) λaA=>
 U (wo Φ a0 a b Q) [] aA) (
 U (wo Φ a0 a b Q) [] f)))))
noncomputable def Gy:bw:=bD C ⟨104,[6,8,9],[],none,[],[]⟩
def wq(Φ:ae)(c:ST)(d:LT)(Q:ad):a:=λb e=>
 Do (N .add (sl c.1 2) (D 1)) λf=>
 d ([(sl b 0),(sl b 1),f],e)
def Gz(Φ:ae)(a0 d e:I)(Q:ad):a:=λm b=>
 Do (aO a0) λn=>
 Do (M 0 n) λf=>
 Do (O b 1 false f) λg=>
 Do (O b 2 true d) λh=>
Φ 138 [g,h,(sl m 0)] b λi o=>
 Do (bI 0 i) λp=>
 Do (bI 1 i) λs=>
 aJ (some (aR o true [J,J,J,P,J,J])) λj c=>
(O c 1 false f=some g) ∧
(O c 2 true d=some h) ∧
(Do (ax c 6 j p) λk=>
 Do (O k 6 true j) λq=>
 Do (ax k 6 e q) λl=>
 Do (O l 6 true e) λr=>
 Q (.aM [r,bd]) l)
def rl(Φ:ae)(a0 h c v w:I)(Q:ad):BT:=λa j=>
 Do (N .lss (sl a.1 2) w) λx=>
 L x true (
 Do (aU none 2 v (sl a.1 2)) λy=>
 Do (O a.2 2 true y) λz=>
 aJ (some (aR a.2 true [.str [],ar])) λe A=>
 Do (ax A 2 e z) λd=>
 Do (M 1 e) λB=>
 Do (O d 1 false B) λC=>
 Do (bj false C) λE=>
 Do (N .eql E J) λF=>
 L F true (
 U (wq Φ a j Q) [(sl a.1 0),(sl a.1 1)] d) (
 Do (M 1 e) λG=>
 Do (O d 1 false G) λH=>
 Do (aU none 8 H J) λK=>
 Do (O d 8 true K) λR=>
Φ 109 [a0,R,(sl a.1 0)] d λS T=>
 aJ (c9 T false 1 1 [af 0] [(0,1,S)]) λV W=>
 aJ (cX W false 1 8 (sl a.1 1) V) λi k=>
 Do (M 1 e) λX=>
 Do (O k 1 false X) λY=>
Φ 110 [Y] k λZ b=>
 Do (N .add (sl a.1 0) Z) λaa=>
 Do (aO a0) λab=>
 Do (M 20 ab) λac=>
 Do (O b 1 false ac) λag=>
 L ag true (
 Do (ba [J,J,J,P,J,J] []) λah=>
 Do (ax b 6 c ah) λl=>
 Do (O l 6 true c) λai=>
 Q (.aM [ai,P]) l) (
 Do (aO a0) λaj=>
 Do (M 0 aj) λm=>
 Do (O b 1 false m) λn=>
 Do (M 0 h) λo=>
 Do (O b 1 false o) λp=>
 Do (M 1 h) λq=>
 Do (O b 1 false q) λr=>
 Do (c6 2 r none (some (sl a.1 2)) none) λak=>
 Do (ba [.str [],ar] [(0,1,p),(1,1,ak)]) λal=>
Φ 133 [n,al] b λs am=>
 Do (bI 0 s) λan=>
 Do (bI 1 s) λaI=>
 aJ (some (aR am true [J,J,P,ar,J,ar])) λt f=>
(O f 1 false m=some n) ∧
(O f 1 false o=some p) ∧
(O f 1 false q=some r) ∧
(Do (ax f 6 t an) λg=>
 Do (bj false i) λao=>
 Do (N .sub ao (D 1)) λap=>
 Do (aU none 1 i ap) λaq=>
 Do (O g 1 false aq) λau=>
 Do (M 4 t) λav=>
 Do (O g 1 false av) λaw=>
 Do (gP .u64 aw) λay=>
 Do (N .geq au ay) λaz=>
 L az true (
 Do (aO a0) λaA=>
 Do (M 6 aA) λaB=>
 Do (ax g 1 aB (D 2)) λaC=>
 Do (aO a0) λaD=>
 Do (M 20 aD) λaE=>
 Do (ax aC 1 aE bd) λaF=>
 Do (ba [J,J,J,P,J,J] []) λaG=>
 Do (ax aF 6 c aG) λu=>
 Do (O u 6 true c) λaH=>
 Q (.aM [aH,P]) u) (
 U (wq Φ a j Q) [aa,i] g))))) (
 U (Gz Φ a0 h c Q) [(sl a.1 1)] a.2)
def f105(Φ:ae)(a0 Y d:I)(H:Z)(Q:ad):Prop:=
 aJ (bg H false 2 Y) λa e=>
 aJ (some (aR e true [J,J,J,P,J,J])) λf b=>
 Do (M 1 a) λg=>
 Do (O b 1 false g) λc=>
 Do (bj false c) λh=>
 au (rl Φ a0 a f c h Q) ([d,ar,J],b)
noncomputable def GA:bw:=bD C ⟨105,[6,10,11,13],[[2,8,18]],none,[],[]⟩
def f106(Φ:ae)(a0 Y:I)(H:Z)(Q:ad):Prop:=
 aJ (bg H false 13 Y) λj k=>
 aJ (some (aR k true [af 0,af 0])) λb a=>
 Do (aO a0) λl=>
 Do (M 20 l) λm=>
 Do (O a 1 false m) λn=>
 L n true (
 Do (ba [af 0,af 0] []) λo=>
 Do (ax a 2 b o) λc=>
 Do (O c 2 true b) λp=>
 Q p c) (
 Do (aO a0) λq=>
 Do (M 1 q) λr=>
 Do (O a 1 false r) λs=>
 Do (bj false s) λt=>
 Do (N .eql t J) λu=>
 L u true (
 Do (O a 13 true j) λv=>
 Do (aO a0) λw=>
 Do (M 7 w) λx=>
 Do (ax a 13 x v) λy=>
 Do (aO a0) λz=>
 Do (M 20 z) λA=>
 Do (ax y 1 A bd) λd=>
 Do (aO a0) λB=>
 Do (M 4 B) λC=>
 Do (O d 1 false C) λE=>
 Do (aO a0) λF=>
 Do (M 7 F) λG=>
 Do (M 2 G) λK=>
 Do (ax d 1 K E) λP=>
 Do (ba [af 0,af 0] []) λR=>
 Do (ax P 2 b R) λe=>
 Do (O e 2 true b) λS=>
 Q S e) (
 Do (aO a0) λT=>
 Do (M 1 T) λU=>
 Do (O a 1 false U) λV=>
 Do (aU none 2 V J) λW=>
 Do (O a 2 true W) λX=>
 aJ (some (aR a true [af 0,af 0])) λf aa=>
 Do (ax aa 2 f X) λg=>
 Do (aO a0) λab=>
 Do (M 1 ab) λac=>
 Do (O g 1 false ac) λag=>
 Do (c6 2 ag (some (D 1)) none none) λah=>
 Do (aO a0) λai=>
 Do (M 1 ai) λaj=>
 Do (ax g 1 aj ah) λh=>
 Do (O h 2 true f) λak=>
 Do (ax h 2 b ak) λi=>
 Do (O i 2 true b) λal=>
 Q al i))
noncomputable def GB:bw:=bD C ⟨106,[4,5],[],none,[],[]⟩
def wt(Φ:ae)(d e:I)(Q:ad):BT:=λa f=>
 Do (N .lss (sl a.1 1) e) λg=>
 L g true (
 Do (aU none 2 d (sl a.1 1)) λh=>
 Do (O a.2 2 true h) λi=>
 aJ (some (aR a.2 true [.str [],ar])) λb j=>
 Do (ax j 2 b i) λc=>
 Do (M 1 b) λk=>
 Do (O c 1 false k) λl=>
Φ 110 [l] c λm n=>
 Do (N .add (sl a.1 0) m) λo=>
 Do (N .add (sl a.1 1) (D 1)) λp=>
 f ([o,p],n)) (
 Q (sl a.1 0) a.2)
def f107(Φ:ae)(a0:I)(H:Z)(Q:ad):Prop:=
 aJ (bg H false 2 a0) λc a=>
 Do (M 1 c) λd=>
 Do (O a 1 false d) λb=>
 Do (bj false b) λe=>
 au (wt Φ b e Q) ([J,J],a)
noncomputable def GC:bw:=bD C ⟨107,[5],[[3,9]],none,[],[]⟩
def f108(Φ:ae)(a0 Y:I)(H:Z)(Q:ad):Prop:=
 aJ (bg H false 1 Y) λc a=>
 Do (aO a0) λd=>
 Do (M 2 d) λe=>
 Do (O a 1 false e) λf=>
Φ 139 [f,(.fn 140 [c])] a λg b=>
 Do (aO a0) λh=>
 Do (M 2 h) λi=>
 Do (O b 1 false i) λj=>
 Do (aU none 2 j g) λk=>
 Do (M 1 k) λl=>
 Q l b
noncomputable def GD:bw:=bD C ⟨108,[],[],none,[],[]⟩
def f109(Φ:ae)(a0 Y d:I)(H:Z)(Q:ad):Prop:=
 aJ (bg H false 8 Y) λb m=>
Φ 76 [a0] m λah a=>
 Do (aO a0) λn=>
 Do (M 20 n) λo=>
 Do (O a 1 false o) λp=>
 L p true (
 Q (af 0) a) (
 Do (M 0 b) λq=>
 Do (O a 1 false q) λe=>
 Do (N .eql e (D 1)) λr=>
 L r true (
 Do (M 1 b) λs=>
 Do (O a 1 false s) λt=>
 Q t a) (
 Do (N .eql e (D 2)) λu=>
 L u true (
 Do (M 2 b) λv=>
 Do (O a 1 false v) λw=>
Φ 108 [a0,w] a λx g=>
 Do (aO x) λy=>
 Do (O g 1 false y) λz=>
 Q z g) (
 Do (N .eql e (D 3)) λA=>
 L A true (
 Do (M 7 b) λB=>
 Do (O a 1 false B) λC=>
 Do (aU none 8 C J) λE=>
 Do (O a 8 true E) λF=>
Φ 109 [a0,F,d] a λG c=>
 Do (M 7 b) λh=>
 Do (O c 1 false h) λi=>
 Do (aU none 8 i (D 1)) λj=>
 Do (O c 8 true j) λk=>
 Do (M 7 b) λK=>
 Do (O c 1 false K) λP=>
 Do (c6 8 P none (some (D 1)) none) λR=>
Φ 110 [R] c λS f=>
(O f 1 false h=some i) ∧
(O f 8 true j=some k) ∧
(Do (N .add d S) λT=>
Φ 109 [a0,k,T] f λU l=>
 Do (M 3 b) λV=>
 Do (O l 1 false V) λW=>
Φ 141 [W,G,U] l λX aa=>
 Q X aa)) (
 Do (O a 8 true b) λab=>
Φ 142 [a0,ab,d] a λac ag=>
 Q ac ag))))
noncomputable def GF:bw:=bD C ⟨109,[],[],none,[],[]⟩
def wu(Φ:ae)(b:ST)(c:LT)(Q:ad):a:=λd e=>
 Do (N .add (sl b.1 1) (D 1)) λf=>
 c ([(sl d 0),f],e)
def wv(Φ:ae)(a0 i:I)(Q:ad):BT:=λs2 d=>
 Do (N .lss (sl s2.1 1) i) λj=>
 L j true (
 Do (aU none 8 a0 (sl s2.1 1)) λk=>
 Do (O s2.2 8 true k) λl=>
 aJ (some (aR s2.2 true [J,af 0,.str [],J,J,.str [],ar,ar])) λa m=>
 Do (ax m 8 a l) λb=>
 Do (M 5 a) λn=>
 Do (O b 2 true n) λo=>
 Do (M 7 a) λe=>
 Do (O b 1 false e) λf=>
Φ 107 [o] b λp g=>
(O g 1 false e=some f) ∧
(Φ 110 [f] g λq c=>
 Do (N .add p q) λr=>
 Do (N .add (sl s2.1 0) r) λh=>
 Do (M 0 a) λs=>
 Do (O c 1 false s) λt=>
 Do (N .geq t (D 4)) λu=>
 L u true (
 Do (N .add h (D 1)) λv=>
 U (wu Φ s2 d Q) [v] c) (
 U (wu Φ s2 d Q) [h] c))) (
 Q (sl s2.1 0) s2.2)
def f110(Φ:ae)(a0:I)(H:Z)(Q:ad):Prop:=
 Do (bj false a0) λa=>
 au (wv Φ a0 a Q) ([J,J],H)
noncomputable def GG:bw:=bD C ⟨110,[5],[[3,8]],none,[],[]⟩
def f111(Φ:ae)(a0 Y e:I)(H:Z)(Q:ad):Prop:=
 aJ (bg H false 10 Y) λb d=>
 Do (M 7 b) λk=>
 Do (O d 1 false k) λl=>
 Do (aU none 8 l J) λm=>
 Do (O d 8 true m) λn=>
Φ 109 [a0,n,e] d λc f=>
 Do (M 7 b) λo=>
 Do (O f 1 false o) λp=>
Φ 110 [p] f λq a=>
 Do (N .add e q) λg=>
 Do (aO a0) λr=>
 Do (M 20 r) λs=>
 Do (O a 1 false s) λt=>
 L t true (
 Q (.aM []) a) (
 Do (M 0 b) λu=>
 Do (O a 1 false u) λv=>
 Do (N .eql v (D 1)) λw=>
 L w true (
 Do (aO a0) λx=>
 Do (M 2 x) λy=>
 Do (O a 1 false y) λz=>
 Do (M 2 b) λA=>
 Do (O a 1 false A) λB=>
 Do (ba [.str [],af 0] [(0,1,B),(1,1,c)]) λC=>
 aJ (c9 a false 2 1 [.str [],af 0] [(0,2,C)]) λE F=>
 aJ (cX F true 2 24 z E) λG K=>
 Do (aO a0) λP=>
 Do (M 2 P) λR=>
 Do (ax K 1 R G) λS=>
 Q (.aM []) S) (
 Do (M 0 b) λT=>
 Do (O a 1 false T) λU=>
 Do (N .eql U (D 2)) λV=>
 L V true (
 Do (M 2 b) λW=>
 Do (O a 1 false W) λX=>
Φ 108 [a0,X] a λaa ab=>
 Do (aO aa) λac=>
 Do (ax ab 1 ac c) λag=>
 Q (.aM []) ag) (
 Do (M 0 b) λah=>
 Do (O a 1 false ah) λai=>
 Do (N .eql ai (D 10)) λaj=>
 L aj true (
 Do (aO a0) λak=>
 Do (M 3 ak) λal=>
 Do (O a 1 false al) λam=>
 aJ (c9 a false 1 1 [af 0] [(0,1,c)]) λan ao=>
 aJ (cX ao false 1 8 am an) λap aq=>
 Do (aO a0) λar=>
 Do (M 3 ar) λau=>
 Do (ax aq 1 au ap) λav=>
 Q (.aM []) av) (
 Do (N .neq c (af 0)) λaw=>
 L aw true (
 Do (M 8 b) λay=>
 Do (O a 1 false ay) λaz=>
Φ 48 [a0,az,g] a λaG aA=>
 Q (.aM []) aA) (
 Do (M 9 b) λh=>
 Do (O a 1 false h) λi=>
 Do (M 8 b) λaB=>
 Do (O a 1 false aB) λaC=>
Φ 78 [aC] a λaD j=>
(O j 1 false h=some i) ∧
(Do (N .add g aD) λaE=>
Φ 48 [a0,i,aE] j λaH aF=>
 Q (.aM []) aF))))))
noncomputable def GH:bw:=bD C ⟨111,[47],[],none,[],[]⟩
def pe(Φ:ae)(a0 Y:I)(Q:ad):BT:=λs1 a=>
 Do (N .leq (sl s1.1 0) Y) λb=>
 L b true (
 Do (N .eql a0 (sl s1.1 0)) λc=>
 L c true (
 Q bd s1.2) (
 Do (N .mul (D 2) (sl s1.1 0)) λd=>
 a ([d],s1.2))) (
 Q P s1.2)
def f112(Φ:ae)(a0 Y:I)(H:Z)(Q:ad):Prop:=
 au (pe Φ a0 Y Q) ([(D 1)],H)
noncomputable def GI:bw:=bD C ⟨112,[],[[5]],none,[],[]⟩
def f125(Φ:ae)(a0:I)(H:Z)(Q:ad):Prop:=
 aJ (bg H false 6 a0) λb c=>
 Do (O c 6 true b) λd=>
Φ 151 [d] c λe a=>
 Do (N .gtr e (D 64)) λf=>
 L f true (
 Q (D 5) a) (
 Do (O a 6 true b) λg=>
Φ 152 [g] a λh i=>
 Q h i)
noncomputable def GJ:bw:=bD C ⟨125,[],[],none,[],[]⟩
def wx(Φ:ae)(c:I)(Q:ad):a:=λd b=>
 aQ (sl d 0) false (
 Do (M 3 c) λe=>
 Do (O b 1 false e) λf=>
Φ 155 [f,(.fn 156 [])] b λg h=>
 Q g h) (
 Q bd b) (
 False)
def wy(Φ:ae)(b:I)(Q:ad):a:=λd c=>
 aQ (sl d 0) false (
 Do (M 5 b) λe=>
 Do (O c 1 false e) λf=>
Φ 154 [f,(.fn 126 [])] c λg h=>
 U (wx Φ b Q) [g] h) (
 U (wx Φ b Q) [bd] c) (
 False)
def f126(Φ:ae)(a0:I)(H:Z)(Q:ad):Prop:=
 aJ (bg H false 6 a0) λa b=>
 Do (M 2 a) λc=>
 Do (O b 1 false c) λd=>
 aQ d true (
 Do (O b 6 true a) λe=>
Φ 153 [e] b λf g=>
 U (wy Φ a Q) [f] g) (
 U (wy Φ a Q) [P] b) (
 False)
noncomputable def GK:bw:=bD C ⟨126,[],[],none,[],[]⟩
def GL(Φ:ae)(h b:I)(Q:ad):a:=λq c=>
 Do (O c 6 true h) λi=>
Φ 157 [i] c λd j=>
 Do (bI 0 d) λk=>
 Do (bI 1 d) λl=>
 aJ (some (aR j true [J,J,ar,J])) λe m=>
 Do (ax m 4 e k) λf=>
 Do (M 0 e) λn=>
 Do (O f 2 true n) λo=>
 Do (ax f 2 b o) λg=>
 Do (O g 2 true b) λp=>
 Q (.aM [p,l]) g
def wA(Φ:ae)(d b o:I)(Q:ad):a:=λp c=>
 L (sl p 0) true (
 Do (M 1 d) λq=>
 Do (O c 1 false q) λr=>
 Do (M 1 d) λs=>
 Do (O c 1 false s) λt=>
 Do (ba [J,J] [(0,1,r),(1,1,t)]) λu=>
 Do (ax c 2 b u) λj=>
 Do (O j 2 true b) λv=>
 Q (.aM [v,bd]) j) (
 Do (N .eql o (D 5)) λw=>
 L w true (
 Do (M 5 d) λx=>
 Do (O c 1 false x) λy=>
 Do (aU none 6 y J) λz=>
 Do (O c 6 true z) λA=>
Φ 127 [A] c λk B=>
 Do (bI 0 k) λC=>
 Do (bI 1 k) λE=>
 aJ (some (aR B true [J,J])) λe F=>
 Do (ax F 2 e C) λg=>
 Do (M 0 e) λG=>
 Do (O g 1 false G) λH=>
 Do (M 4 d) λK=>
 Do (O g 1 false K) λR=>
 Do (N .mul H R) λS=>
 Do (M 0 e) λT=>
 Do (ax g 1 T S) λf=>
 Do (O f 2 true e) λl=>
 aQ E true (
 Do (M 0 e) λm=>
 Do (O f 1 false m) λn=>
 Do (N .leq n (D 65536)) λV=>
 Do (ax f 2 b l) λh=>
(((bd):I) = bd→O h 1 false m=some n) ∧
(Do (O h 2 true b) λW=>
 Q (.aM [W,V]) h)) (
 Do (ax f 2 b l) λi=>
(((P):I) = bd→O i 1 false (.aM [])=some (.aM [])) ∧
(Do (O i 2 true b) λX=>
 Q (.aM [X,P]) i)) (
 False)) (
 U (GL Φ d b Q) [] c))
def f127(Φ:ae)(a0:I)(H:Z)(Q:ad):Prop:=
 aJ (bg H false 6 a0) λb f=>
 aJ (some (aR f true [J,J])) λd c=>
 Do (M 0 b) λg=>
 Do (O c 1 false g) λa=>
 Do (N .eql a (D 1)) λe=>
 L e true (
 U (wA Φ b d a Q) [e] c) (
 Do (N .eql a (D 2)) λh=>
 U (wA Φ b d a Q) [h] c)
noncomputable def GM:bw:=bD C ⟨127,[2,4,6],[],none,[],[]⟩
def wB(Φ:ae)(a0 Y a:I)(Q:ad):BT:=λs2 b=>
 Do (N .lss (sl s2.1 0) a) λc=>
 L c true (
 Do (aU none 1 a0 (sl s2.1 0)) λd=>
 Do (O s2.2 1 false d) λe=>
 Do (N .eql Y e) λf=>
 L f true (
 Q (sl s2.1 0) s2.2) (
 Do (N .add (sl s2.1 0) (D 1)) λg=>
 b ([g],s2.2))) (
 Q (D (-1)) s2.2)
def f128(Φ:ae)(a0 Y:I)(H:Z)(Q:ad):Prop:=
 Do (bj false a0) λa=>
 au (wB Φ a0 Y a Q) ([J],H)
noncomputable def GN:bw:=bD C ⟨128,[],[[8]],none,[],[]⟩
def GO(Φ:ae)(b:I)(Q:ad):a:=λg d=>
 Do (ba [P,P,P,J,P,P] []) λe=>
 Do (ax d 6 b e) λc=>
 Do (O c 6 true b) λf=>
 Q (.aM [f,P]) c
def Ap(Φ:ae)(a0 b:I)(Q:ad):a:=λk c=>
 L (sl k 0) true (
 Do (ba [P,P,P,J,P,P] [(2,1,bd),(3,1,(D 1))]) λl=>
 Do (ax c 6 b l) λd=>
 Do (O d 6 true b) λm=>
 Q (.aM [m,bd]) d) (
 Do (N .eql a0 (D 5)) λn=>
 L n true (
 Do (ba [P,P,P,J,P,P] [(0,1,bd),(1,1,bd),(2,1,bd)]) λo=>
 Do (ax c 6 b o) λe=>
 Do (O e 6 true b) λp=>
 Q (.aM [p,bd]) e) (
 Do (N .eql a0 (D 6)) λq=>
 L q true (
 Do (ba [P,P,P,J,P,P] [(2,1,bd),(3,1,(D 2))]) λr=>
 Do (ax c 6 b r) λf=>
 Do (O f 6 true b) λs=>
 Q (.aM [s,bd]) f) (
 Do (N .eql a0 (D 7)) λt=>
 L t true (
 Do (ba [P,P,P,J,P,P] []) λu=>
 Do (ax c 6 b u) λg=>
 Do (O g 6 true b) λv=>
 Q (.aM [v,bd]) g) (
 Do (N .eql a0 (D 8)) λw=>
 L w true (
 Do (ba [P,P,P,J,P,P] [(3,1,(D 1)),(4,1,bd),(5,1,bd)]) λx=>
 Do (ax c 6 b x) λh=>
 Do (O h 6 true b) λy=>
 Q (.aM [y,bd]) h) (
 Do (N .eql a0 (D 9)) λz=>
 L z true (
 Do (ba [P,P,P,J,P,P] [(3,1,(D 1)),(4,1,bd)]) λA=>
 Do (ax c 6 b A) λi=>
 Do (O i 6 true b) λB=>
 Q (.aM [B,bd]) i) (
 Do (N .eql a0 (D 10)) λC=>
 L C true (
 Do (ba [P,P,P,J,P,P] [(3,1,(D 1))]) λE=>
 Do (ax c 6 b E) λj=>
 Do (O j 6 true b) λF=>
 Q (.aM [F,bd]) j) (
 U (GO Φ b Q) [] c)))))))
def Aq(Φ:ae)(a0 b:I)(Q:ad):a:=λf c=>
 L (sl f 0) true (
 Do (ba [P,P,P,J,P,P] [(0,1,bd),(3,1,(D 1))]) λg=>
 Do (ax c 6 b g) λd=>
 Do (O d 6 true b) λh=>
 Q (.aM [h,bd]) d) (
 Do (N .eql a0 (D 3)) λe=>
 L e true (
 U (Ap Φ a0 b Q) [e] c) (
 Do (N .eql a0 (D 4)) λi=>
 U (Ap Φ a0 b Q) [i] c))
def f131(Φ:ae)(a0:I)(H:Z)(Q:ad):Prop:=
 aJ (some (aR H true [P,P,P,J,P,P])) λa b=>
 Do (N .eql a0 (D 1)) λc=>
 L c true (
 U (Aq Φ a0 a Q) [c] b) (
 Do (N .eql a0 (D 2)) λd=>
 U (Aq Φ a0 a Q) [d] b)
noncomputable def GP:bw:=bD C ⟨131,[2],[],none,[],[]⟩
def f132(Φ:ae)(a0:I)(H:Z)(Q:ad):Prop:=
 aJ (bg H false 2 a0) λb a=>
 Do (M 0 b) λc=>
 Do (O a 1 false c) λd=>
 Do (N .eql d (.str [])) λe=>
 aQ e true (
 Do (M 1 b) λf=>
 Do (O a 1 false f) λg=>
 Do (bj false g) λh=>
 Do (N .eql h J) λi=>
 Q i a) (
 Q P a) (
 False)
noncomputable def GQ:bw:=bD C ⟨132,[],[],none,[],[]⟩
def GR(Φ:ae)(b e:I)(Q:ad):a:=λh c=>
 Do (O c 6 true e) λf=>
 Do (ax c 6 b f) λd=>
 Do (O d 6 true b) λg=>
 Q (.aM [g,J]) d
def wC(Φ:ae)(b c k l:I)(Q:ad):BT:=λa m=>
 Do (N .lss (sl a.1 0) l) λn=>
 L n true (
 Do (aU none 2 k (sl a.1 0)) λo=>
 Do (O a.2 2 true o) λp=>
 aJ (some (aR a.2 true [.str [],ar])) λf q=>
 Do (ax q 2 f p) λd=>
 Do (O d 6 true c) λr=>
 Do (O d 2 true f) λs=>
Φ 160 [r,s] d λg t=>
 Do (bI 0 g) λu=>
 Do (bI 1 g) λh=>
 aJ (some (aR t true [J,J,P,ar,J,ar])) λi v=>
 Do (ax v 6 i u) λe=>
 Do (N .neq h J) λw=>
 L w true (
 Do (ba [J,J,P,ar,J,ar] []) λx=>
 Do (ax e 6 b x) λj=>
 Do (O j 6 true b) λy=>
 Q (.aM [y,h]) j) (
 Do (O e 6 true i) λz=>
 Do (ax e 6 c z) λA=>
 Do (N .add (sl a.1 0) (D 1)) λB=>
 m ([B],A))) (
 U (GR Φ b c Q) [] a.2)
def f133(Φ:ae)(a0 Y:I)(H:Z)(Q:ad):Prop:=
 aJ (bg H false 2 Y) λe l=>
 aJ (some (aR l true [J,J,P,ar,J,ar])) λa m=>
Φ 97 [a0,(.fn 159 [e])] m λf b=>
 Do (N .lss f J) λn=>
 L n true (
 Do (ba [J,J,P,ar,J,ar] []) λo=>
 Do (ax b 6 a o) λg=>
 Do (O g 6 true a) λp=>
 Q (.aM [p,(D 6)]) g) (
 Do (aU none 7 a0 f) λq=>
 Do (M 1 q) λr=>
 Do (O b 6 true r) λs=>
 aJ (some (aR b true [J,J,P,ar,J,ar])) λc t=>
 Do (ax t 6 c s) λh=>
 Do (O h 6 true c) λu=>
Φ 125 [u] h λi d=>
 Do (N .neq i J) λv=>
 L v true (
 Do (ba [J,J,P,ar,J,ar] []) λw=>
 Do (ax d 6 a w) λj=>
 Do (O j 6 true a) λx=>
 Q (.aM [x,i]) j) (
 Do (M 1 e) λy=>
 Do (O d 1 false y) λk=>
 Do (bj false k) λz=>
 au (wC Φ a c k z Q) ([J],d)))
noncomputable def GS:bw:=bD C ⟨133,[4,7,10,11],[[33]],none,[],[]⟩
def GU(Φ:ae)(c:I)(Q:ad):a:=λj b=>
 Do (M 0 c) λd=>
 Do (O b 1 false d) λe=>
 Do (N .eql e (D 2)) λf=>
 aQ f true (
 Do (M 1 c) λg=>
 Do (O b 1 false g) λh=>
 Do (N .leq h (D 8)) λi=>
 Q i b) (
 Q P b) (
 False)
def Ar(Φ:ae)(c:I)(Q:ad):a:=λd b=>
 L (sl d 0) true (
 Do (M 0 c) λe=>
 Do (O b 1 false e) λf=>
 Do (N .eql f (D 2)) λg=>
 aQ g true (
 Do (M 1 c) λh=>
 Do (O b 1 false h) λi=>
 Do (N .eql i (D 16)) λj=>
 Q j b) (
 Q P b) (
 False)) (
 U (GU Φ c Q) [] b)
def As(Φ:ae)(a0 c:I)(Q:ad):a:=λe b=>
 L (sl e 0) true (
 Do (M 0 c) λf=>
 Do (O b 1 false f) λg=>
 Do (N .eql g (D 1)) λh=>
 Q h b) (
 Do (N .eql a0 (D 5)) λd=>
 L d true (
 U (Ar Φ c Q) [d] b) (
 Do (N .eql a0 (D 6)) λi=>
 U (Ar Φ c Q) [i] b))
def f134(Φ:ae)(a0 Y:I)(H:Z)(Q:ad):Prop:=
 aJ (bg H false 6 Y) λa b=>
 Do (N .eql a0 (D 3)) λc=>
 L c true (
 U (As Φ a0 a Q) [c] b) (
 Do (N .eql a0 (D 14)) λd=>
 U (As Φ a0 a Q) [d] b)
noncomputable def GV:bw:=bD C ⟨134,[],[],none,[],[]⟩
def wD(Φ:ae)(a0 c d:I)(Q:ad):a:=λh b=>
 Do (M 7 d) λe=>
 Do (O b 1 false e) λf=>
Φ 103 [a0,f,c] b λi g=>
 Q (.aM []) g
def wE(Φ:ae)(a0 d b:I)(Q:ad):a:=λn c=>
 Do (M 0 b) λe=>
 Do (O c 1 false e) λf=>
 Do (N .geq f (D 4)) λg=>
 L g true (
 Do (M 0 b) λh=>
 Do (O c 1 false h) λi=>
 Do (N .add (D 10) i) λj=>
 Do (M 5 b) λk=>
 Do (O c 2 true k) λl=>
Φ 102 [a0,j,l,d] c λo m=>
 U (wD Φ a0 d b Q) [] m) (
 U (wD Φ a0 d b Q) [] c)
def f135(Φ:ae)(a0 Y c:I)(H:Z)(Q:ad):Prop:=
 aJ (bg H false 8 Y) λa f=>
 Do (N .leq c (D 64)) λg=>
Φ 98 [a0,g,(D 5)] f λB e=>
 Do (O e 8 true a) λh=>
Φ 161 [h] e λi j=>
Φ 98 [a0,i,(D 4)] j λC d=>
 Do (M 0 a) λk=>
 Do (O d 1 false k) λl=>
 Do (N .add (D 10) l) λm=>
 Do (M 4 a) λn=>
 Do (O d 1 false n) λo=>
Φ 100 [m,o] d λp q=>
Φ 98 [a0,p,(D 11)] q λE r=>
Φ 47 [a0] r λs b=>
 L s true (
 Q (.aM []) b) (
 Do (M 0 a) λt=>
 Do (O b 1 false t) λu=>
 Do (N .eql u (D 2)) λv=>
 L v true (
 Do (M 2 a) λw=>
 Do (O b 1 false w) λx=>
Φ 101 [a0,x] b λy z=>
Φ 98 [a0,y,(D 6)] z λF A=>
 U (wE Φ a0 c a Q) [] A) (
 U (wE Φ a0 c a Q) [] b))
noncomputable def GW:bw:=bD C ⟨135,[],[],none,[],[]⟩
def GX(Φ:ae)(b e:I)(Q:ad):a:=λh c=>
 Do (O c 2 true e) λf=>
 Do (ax c 2 b f) λd=>
 Do (O d 2 true b) λg=>
 Q g d
def wF(Φ:ae)(a0 Y e b f:I)(Q:ad):BT:=λa g=>
 Do (N .lss (sl a.1 1) f) λh=>
 L h true (
 Do (aU none 8 Y (sl a.1 1)) λi=>
 Do (O a.2 8 true i) λj=>
 aJ (some (aR a.2 true [J,af 0,.str [],J,J,.str [],ar,ar])) λc k=>
 Do (ax k 8 c j) λd=>
 Do (O d 8 true c) λl=>
Φ 109 [a0,l,(sl a.1 0)] d λm n=>
 Do (aU (some 2) 1 b (sl a.1 1)) λo=>
 Do (ax n 1 o m) λp=>
 Do (N .add (sl a.1 1) (D 1)) λq=>
 Do (c6 8 Y (some (sl a.1 1)) (some q) none) λr=>
Φ 110 [r] p λs t=>
 Do (N .add (sl a.1 0) s) λu=>
 Do (N .add (sl a.1 1) (D 1)) λv=>
 g ([u,v],t)) (
 U (GX Φ e b Q) [] a.2)
def f136(Φ:ae)(a0 Y a:I)(H:Z)(Q:ad):Prop:=
 aJ (some (aR H true [af 0,af 0])) λb c=>
 aJ (some (aR c true [af 0,af 0])) λd e=>
 Do (bj false Y) λf=>
 au (wF Φ a0 Y b d f Q) ([a,J],e)
noncomputable def GY:bw:=bD C ⟨136,[6,7,9],[[2,12]],none,[],[]⟩
def f137(Φ:ae)(a0 Y a c:I)(H:Z)(Q:ad):Prop:=
Φ 162 [Y] H λd b=>
 Do (cM .not d) λe=>
 L e true (
 Q a0 b) (
Φ 70 [a] b λf g=>
 Do (N .shl f Y) λh=>
 Do (N .andNot a0 h) λi=>
Φ 70 [a] g λj k=>
 Do (N .and c j) λl=>
 Do (N .shl l Y) λm=>
 Do (N .or i m) λn=>
 Q n k)
noncomputable def GZ:bw:=bD C ⟨137,[],[],none,[],[]⟩
def G1(Φ:ae)(b g c:I)(Q:ad):a:=λq d=>
 Do (M 0 g) λh=>
 Do (O d 1 false h) λi=>
 Do (aO c) λj=>
 Do (M 6 j) λk=>
 Do (M 2 k) λl=>
 Do (ax d 1 l i) λe=>
 Do (aO c) λm=>
 Do (M 6 m) λn=>
 Do (O e 6 true n) λo=>
 Do (ax e 6 b o) λf=>
 Do (O f 6 true b) λp=>
 Q (.aM [p,J]) f
def wG(Φ:ae)(b h c i j:I)(Q:ad):BT:=λa k=>
 Do (N .lss (sl a.1 0) j) λl=>
 L l true (
 Do (aU none 2 i (sl a.1 0)) λm=>
 Do (O a.2 2 true m) λn=>
 aJ (some (aR a.2 true [.str [],ar])) λd o=>
 Do (ax o 2 d n) λe=>
 Do (O e 2 true d) λp=>
Φ 165 [c,p] e λq f=>
 Do (cM .not q) λr=>
 L r true (
 Do (ba [J,J,J,P,J,J] []) λs=>
 Do (ax f 6 b s) λg=>
 Do (O g 6 true b) λt=>
 Q (.aM [t,(D 14)]) g) (
 Do (N .add (sl a.1 0) (D 1)) λu=>
 k ([u],f))) (
 U (G1 Φ b h c Q) [] a.2)
def G2(Φ:ae)(a0 g c h i j:I)(Q:ad):a:=λw k=>
Φ 97 [a0,(.fn 164 [c])] k λd b=>
 Do (aU none 7 a0 d) λl=>
 Do (M 1 l) λm=>
 Do (O b 6 true m) λn=>
 Do (aU none 3 i d) λo=>
 Do (M 1 o) λp=>
 Do (O b 2 true p) λq=>
 Do (ba [J,J,J,P,J,J] [(0,2,q)]) λr=>
 Do (ba [J,J,P,ar,J,ar,J,J,J,P,J,J,ar] [(0,6,n),(6,6,r),(12,1,g)]) λs=>
 aJ (bg b true 13 s) λt e=>
 Do (M 1 c) λu=>
 Do (O e 1 false u) λf=>
 Do (bj false f) λv=>
 au (wG Φ h j t f v Q) ([J],e)
def wH(Φ:ae)(a0 d e b i j:I)(Q:ad):a:=λk c=>
 L (sl k 0) true (
 Do (ba [J,J,J,P,J,J] []) λl=>
 Do (ax c 6 b l) λf=>
 Do (O f 6 true b) λm=>
 Q (.aM [m,(D 8)]) f) (
 Do (bj false d) λn=>
 Do (O c 2 true e) λo=>
Φ 163 [o] c λp g=>
 Do (N .neq n p) λq=>
 L q true (
 Do (ba [J,J,J,P,J,J] []) λr=>
 Do (ax g 6 b r) λh=>
 Do (O h 6 true b) λs=>
 Q (.aM [s,(D 1)]) h) (
 U (G2 Φ a0 d e b i j Q) [] g))
def f138(Φ:ae)(a0 Y g:I)(H:Z)(Q:ad):Prop:=
 aJ (bg H false 2 Y) λd n=>
 aJ (some (aR n true [J,J,J,P,J,J])) λa o=>
Φ 32 [a0] o λe f=>
 Do (bI 0 e) λh=>
 Do (bI 1 e) λG=>
 Do (bI 2 e) λi=>
 Do (N .neq i J) λp=>
 L p true (
 Do (ba [J,J,J,P,J,J] []) λq=>
 Do (ax f 6 a q) λj=>
 Do (O j 6 true a) λr=>
 Q (.aM [r,i]) j) (
 Do (O f 2 true d) λs=>
Φ 133 [a0,s] f λk t=>
 Do (bI 0 k) λu=>
 Do (bI 1 k) λl=>
 aJ (some (aR t true [J,J,P,ar,J,ar])) λb v=>
 Do (ax v 6 b u) λc=>
 Do (N .neq l J) λw=>
 L w true (
 Do (ba [J,J,J,P,J,J] []) λx=>
 Do (ax c 6 a x) λm=>
 Do (O m 6 true a) λy=>
 Q (.aM [y,l]) m) (
 Do (M 0 b) λz=>
 Do (O c 1 false z) λA=>
 Do (N .neq A (D 1)) λB=>
 aQ B true (
 Do (M 0 b) λC=>
 Do (O c 1 false C) λE=>
 Do (N .neq E (D 2)) λF=>
 U (wH Φ a0 g d a h b Q) [F] c) (
 U (wH Φ a0 g d a h b Q) [P] c) (
 False)))
noncomputable def G3:bw:=bD C ⟨138,[6,11,15,70],[[74]],none,[],[]⟩
def Au(Φ:ae)(a0 Y d:I)(Q:ad):BT:=λs2 e=>
 Do (N .lss (sl s2.1 0) d) λf=>
 L f true (
 Do (aU none 2 a0 (sl s2.1 0)) λg=>
 Do (O s2.2 2 true g) λh=>
∃a b,Y = .fn a b∧Φ (jL a) (jM a [h] b) s2.2 λi c=>
 L i true (
 Q (sl s2.1 0) c) (
 Do (N .add (sl s2.1 0) (D 1)) λj=>
 e ([j],c))) (
 Q (D (-1)) s2.2)
def f139(Φ:ae)(a0 Y:I)(H:Z)(Q:ad):Prop:=
 Do (bj false a0) λa=>
 au (Au Φ a0 Y a Q) ([J],H)
noncomputable def G4:bw:=bD C ⟨139,[],[[8]],none,[],[]⟩
def f140(Φ:ae)(a0 Y:I)(H:Z)(Q:ad):Prop:=
 aJ (bg H false 2 a0) λb a=>
 Do (M 0 b) λc=>
 Do (O a 1 false c) λd=>
 Do (O a 1 false Y) λe=>
 Do (N .eql d e) λf=>
 Q f a
noncomputable def G5:bw:=bD C ⟨140,[],[],none,[],[]⟩
def wI(Φ:ae)(Q:ad):a:=λc b=>
 L (sl c 0) true (
 Q (af 1) b) (
 Q (af 0) b)
def f141(Φ:ae)(a0 Y a:I)(H:Z)(Q:ad):Prop:=
 Do (N .eql a0 (D 1)) λb=>
 L b true (
 Do (N .add Y a) λc=>
 Q c H) (
 Do (N .eql a0 (D 2)) λd=>
 L d true (
 Do (N .sub Y a) λe=>
 Q e H) (
 Do (N .eql a0 (D 3)) λf=>
 L f true (
 Do (N .mul Y a) λg=>
 Q g H) (
 Do (N .eql a0 (D 4)) λh=>
 L h true (
 Do (N .and Y a) λi=>
 Q i H) (
 Do (N .eql a0 (D 5)) λj=>
 L j true (
 Do (N .or Y a) λk=>
 Q k H) (
 Do (N .eql a0 (D 6)) λl=>
 L l true (
 Do (N .xor Y a) λm=>
 Q m H) (
 Do (N .eql a0 (D 7)) λn=>
 L n true (
 Do (N .rem a (af 64)) λo=>
 Do (N .shl Y o) λp=>
 Q p H) (
 Do (N .eql a0 (D 8)) λq=>
 L q true (
 Do (N .rem a (af 64)) λr=>
 Do (N .shr Y r) λs=>
 Q s H) (
 Do (N .eql a0 (D 9)) λt=>
 L t true (
 Do (N .eql Y a) λu=>
 U (wI Φ Q) [u] H) (
 Do (N .eql a0 (D 10)) λv=>
 L v true (
 Do (N .neq Y a) λw=>
 U (wI Φ Q) [w] H) (
 Do (N .lss Y a) λx=>
 U (wI Φ Q) [x] H))))))))))
noncomputable def G6:bw:=bD C ⟨141,[],[],none,[],[]⟩
def wJ(Φ:ae)(a0 c f:I)(Q:ad):a:=λq d=>
 Do (O d 13 true f) λg=>
Φ 106 [a0,g] d λh b=>
 Do (m4 2 1 false h J) λe=>
 Do (M 3 c) λi=>
 Do (O b 1 false i) λj=>
 L j true (
 Do (M 4 c) λk=>
 Do (O b 1 false k) λl=>
 Do (M 5 c) λm=>
 Do (O b 1 false m) λn=>
Φ 166 [e,l,n] b λo p=>
 Q o p) (
 Q e b)
def f142(Φ:ae)(a0 Y o:I)(H:Z)(Q:ad):Prop:=
 aJ (bg H false 8 Y) λa p=>
 Do (M 5 a) λx=>
 Do (O p 2 true x) λy=>
Φ 105 [a0,y,o] p λq z=>
 Do (bI 0 q) λA=>
 Do (bI 1 q) λB=>
 aJ (some (aR z true [J,J,J,P,J,J])) λb C=>
 Do (ax C 6 b A) λk=>
 Do (cM .not B) λE=>
 L E true (
 Q (af 0) k) (
 Do (M 5 a) λF=>
 Do (O k 2 true F) λG=>
Φ 107 [G] k λK c=>
 Do (N .add o K) λr=>
 Do (O c 6 true b) λf=>
 Do (M 4 a) λg=>
 Do (O c 1 false g) λh=>
 Do (M 7 a) λs=>
 Do (O c 1 false s) λt=>
 Do (M 7 a) λl=>
 Do (O c 1 false l) λm=>
Φ 136 [a0,t,r] c λR i=>
(O i 6 true b=some f) ∧
(O i 1 false g=some h) ∧
(O i 1 false l=some m) ∧
(Φ 110 [m] i λS n=>
(O n 6 true b=some f) ∧
(O n 1 false g=some h) ∧
(Do (N .add r S) λT=>
 Do (N .add T (D 1)) λV=>
 Do (ba [J,J,J,J,J,J,P,J,J,J,J,af 0,af 0] [(0,1,(D 1)),(3,6,f),(9,1,h),(11,2,R),(1,1,V)]) λW=>
 aJ (some (aR n true [J,J,J,J,J,J,P,J,J,J,J,af 0,af 0])) λd e=>
(O e 6 true b=some f) ∧
(O e 1 false g=some h) ∧
(O e 1 false s=some t) ∧
(O e 1 false l=some m) ∧
(Do (ax e 13 d W) λj=>
 Do (M 0 a) λX=>
 Do (O j 1 false X) λaa=>
 Do (N .geq aa (D 6)) λab=>
 L ab true (
 Do (M 0 a) λu=>
 Do (O j 1 false u) λv=>
 Do (M 0 d) λac=>
 Do (ax j 1 ac (D 3)) λw=>
(O w 1 false u=some v) ∧
(Do (M 10 d) λag=>
 Do (ax w 1 ag v) λah=>
 U (wJ Φ a0 b d Q) [] ah)) (
 U (wJ Φ a0 b d Q) [] j)))))
noncomputable def G7:bw:=bD C ⟨142,[7,9],[],none,[],[]⟩
def f151(Φ:ae)(a0:I)(H:Z)(Q:ad):Prop:=
 aJ (bg H false 6 a0) λb a=>
 Do (O a 6 true b) λc=>
Φ 176 [c,(D 65)] a λd e=>
 Q d e
noncomputable def G8:bw:=bD C ⟨151,[],[],none,[],[]⟩
def G9(Φ:ae)(c:I)(Q:ad):a:=λj b=>
 Do (M 5 c) λd=>
 Do (O b 1 false d) λe=>
 Do (aU none 6 e J) λf=>
 Do (O b 6 true f) λg=>
Φ 152 [g] b λh i=>
 Q h i
def wK(Φ:ae)(c:I)(Q:ad):a:=λd b=>
 L (sl d 0) true (
 Q (D 9) b) (
 U (G9 Φ c Q) [] b)
def f152(Φ:ae)(a0:I)(H:Z)(Q:ad):Prop:=
 aJ (bg H false 6 a0) λb d=>
 Do (O d 6 true b) λg=>
Φ 177 [g] d λh a=>
 Do (cM .not h) λi=>
 L i true (
 Q (D 8) a) (
 Do (M 0 b) λj=>
 Do (O a 1 false j) λc=>
 Do (N .eql c (D 1)) λk=>
 L k true (
 Do (M 1 b) λl=>
 Do (O a 1 false l) λm=>
Φ 178 [m,(D 8)] a λn e=>
 Do (cM .not n) λo=>
 L o true (
 Q (D 9) e) (
 Q J e)) (
 Do (N .eql c (D 2)) λp=>
 L p true (
 Do (M 1 b) λq=>
 Do (O a 1 false q) λr=>
Φ 178 [r,(D 16)] a λs f=>
 Do (cM .not s) λt=>
 L t true (
 Q (D 9) f) (
 Q J f)) (
 Do (N .eql c (D 5)) λu=>
 L u true (
 Do (M 4 b) λv=>
 Do (O a 1 false v) λw=>
 Do (N .lss w (D 1)) λx=>
 aQ x false (
 Do (M 4 b) λy=>
 Do (O a 1 false y) λz=>
 Do (N .gtr z (D 65536)) λA=>
 U (wK Φ b Q) [A] a) (
 U (wK Φ b Q) [bd] a) (
 False)) (
 Do (O a 6 true b) λB=>
Φ 179 [B] a λC E=>
 Q C E))))
noncomputable def G_:bw:=bD C ⟨152,[],[],none,[],[]⟩
def wL(Φ:ae)(c:I)(Q:ad):a:=λd b=>
 aQ (sl d 0) false (
 Do (M 3 c) λe=>
 Do (O b 1 false e) λf=>
Φ 155 [f,(.fn 180 [])] b λg h=>
 Q g h) (
 Q bd b) (
 False)
def wM(Φ:ae)(b:I)(Q:ad):a:=λd c=>
 aQ (sl d 0) false (
 Do (M 5 b) λe=>
 Do (O c 1 false e) λf=>
Φ 154 [f,(.fn 153 [])] c λg h=>
 U (wL Φ b Q) [g] h) (
 U (wL Φ b Q) [bd] c) (
 False)
def f153(Φ:ae)(a0:I)(H:Z)(Q:ad):Prop:=
 aJ (bg H false 6 a0) λa b=>
 Do (M 0 a) λc=>
 Do (O b 1 false c) λd=>
 Do (N .eql d (D 2)) λe=>
 aQ e true (
 Do (M 1 a) λf=>
 Do (O b 1 false f) λg=>
 Do (N .gtr g (D 1)) λh=>
 U (wM Φ a Q) [h] b) (
 U (wM Φ a Q) [P] b) (
 False)
noncomputable def Ha:bw:=bD C ⟨153,[],[],none,[],[]⟩
def f154(Φ:ae)(a0 Y:I)(H:Z)(Q:ad):Prop:=
Φ 181 [a0,Y] H λa b=>
 Do (N .geq a J) λc=>
 Q c b
noncomputable def Hb:bw:=bD C ⟨154,[],[],none,[],[]⟩
def f155(Φ:ae)(a0 Y:I)(H:Z)(Q:ad):Prop:=
Φ 182 [a0,Y] H λa b=>
 Do (N .geq a J) λc=>
 Q c b
noncomputable def Hc:bw:=bD C ⟨155,[],[],none,[],[]⟩
def f156(Φ:ae)(a0:I)(H:Z)(Q:ad):Prop:=
 aJ (bg H false 9 a0) λb a=>
 Do (M 1 b) λc=>
 Do (O a 6 true c) λd=>
Φ 126 [d] a λe f=>
 Q e f
noncomputable def Hd:bw:=bD C ⟨156,[],[],none,[],[]⟩
def He(Φ:ae)(b:ST)(c:LT)(Q:ad):a:=λf d=>
 Do (N .add (sl b.1 0) (D 1)) λe=>
 c ([e],d)
def wN(Φ:ae)(b:I)(g:ST)(h:LT)(Q:ad):a:=λr c=>
 Do (M 0 b) λi=>
 Do (M 0 i) λd=>
 Do (O c 1 false d) λe=>
 Do (M 3 b) λj=>
 Do (O c 1 false j) λk=>
Φ 185 [k,(D 8)] c λl f=>
(O f 1 false d=some e) ∧
(Do (N .quo l (D 8)) λm=>
 Do (ka true [e,m]) λn=>
 Do (M 0 b) λo=>
 Do (M 0 o) λp=>
 Do (ax f 1 p n) λq=>
 U (He Φ g h Q) [] q)
def wO(Φ:ae)(b e f k:I)(g:ST)(h:LT)(Q:ad):a:=λY c=>
 Do (M 7 e) λl=>
 Do (O c 1 false l) λm=>
 L m true (
 Do (O c 9 true e) λn=>
Φ 184 [b,n] c λZ o=>
 U (wN Φ b g h Q) [] o) (
 Do (M 3 b) λp=>
 Do (O c 1 false p) λq=>
Φ 185 [q,(D 8)] c λr s=>
 Do (N .quo r (D 8)) λt=>
Φ 185 [t,k] s λi d=>
 Do (M 2 b) λu=>
 Do (O d 1 false u) λv=>
 Do (M 0 f) λw=>
 Do (O d 1 false w) λx=>
 Do (ba [J,J] [(0,1,i),(1,1,x)]) λy=>
 Do (M 1 e) λz=>
 Do (M 0 z) λA=>
 Do (O d 1 false A) λB=>
 Do (ba [J,J,J,P,J,J] [(0,2,y),(2,1,B)]) λC=>
 aJ (c9 d false 6 1 [J,J,J,P,J,J] [(0,6,C)]) λE F=>
 aJ (cX F false 6 48 v E) λG H=>
 Do (M 2 b) λK=>
 Do (ax H 1 K G) λj=>
 Do (M 0 f) λR=>
 Do (O j 1 false R) λS=>
 Do (N .add i S) λT=>
 Do (N .mul (D 8) T) λV=>
 Do (M 3 b) λW=>
 Do (ax j 1 W V) λX=>
 U (wN Φ b g h Q) [] X)
def Hf(Φ:ae)(f b:I)(Q:ad):a:=λw c=>
 Do (M 0 b) λi=>
 Do (M 0 i) λj=>
 Do (O c 1 false j) λk=>
 Do (M 0 b) λl=>
 Do (M 1 l) λm=>
 Do (O c 1 false m) λn=>
Φ 185 [k,n] c λo p=>
 Do (M 0 b) λq=>
 Do (M 0 q) λr=>
 Do (ax p 1 r o) λd=>
 Do (O d 4 true b) λs=>
 Do (M 0 b) λt=>
 Do (M 0 t) λg=>
 Do (O d 1 false g) λh=>
 Do (N .leq h (D 65536)) λu=>
 Do (ax d 4 f s) λe=>
(O e 1 false g=some h) ∧
(Do (O e 4 true f) λv=>
 Q (.aM [v,u]) e)
def nD(Φ:ae)(i f b o p:I)(Q:ad):BT:=λa j=>
 Do (N .lss (sl a.1 0) p) λq=>
 L q true (
 Do (aU none 9 o (sl a.1 0)) λr=>
 Do (O a.2 9 true r) λs=>
 aJ (some (aR a.2 true [.str [],J,J,P,ar,J,ar,P,J])) λc t=>
 Do (ax t 9 c s) λk=>
 Do (M 1 c) λu=>
 Do (O k 6 true u) λv=>
Φ 127 [v] k λl w=>
 Do (bI 0 l) λx=>
 Do (bI 1 l) λy=>
 aJ (some (aR w true [J,J])) λe z=>
 Do (ax z 2 e x) λd=>
 Do (cM .not y) λA=>
 L A true (
 Do (ba [J,J,ar,J] []) λB=>
 Do (ax d 4 f B) λm=>
 Do (O m 4 true f) λC=>
 Q (.aM [C,P]) m) (
 Do (O d 6 true i) λE=>
 Do (O d 9 true c) λF=>
 Do (M 1 e) λG=>
 Do (O d 1 false G) λH=>
Φ 183 [E,F,H] d λg n=>
 Do (M 0 b) λK=>
 Do (M 1 K) λR=>
 Do (O n 1 false R) λS=>
 Do (ka true [S,g]) λT=>
 Do (M 0 b) λV=>
 Do (M 1 V) λW=>
 Do (ax n 1 W T) λh=>
 Do (M 0 i) λX=>
 Do (O h 1 false X) λY=>
 Do (N .eql Y (D 4)) λZ=>
 L Z true (
 Do (M 3 b) λaa=>
 Do (ax h 1 aa J) λab=>
 U (wO Φ b c e g a j Q) [] ab) (
 U (wO Φ b c e g a j Q) [] h))) (
 U (Hf Φ f b Q) [] a.2)
def f157(Φ:ae)(a0:I)(H:Z)(Q:ad):Prop:=
 aJ (bg H false 6 a0) λa e=>
 aJ (some (aR e true [J,J,ar,J])) λf g=>
 Do (ba [J,J] [(0,1,J),(1,1,(D 1))]) λh=>
 Do (ba [J,J,ar,J] [(0,2,h)]) λi=>
 aJ (some (aR g true [J,J,ar,J])) λb j=>
 Do (ax j 4 b i) λc=>
 Do (M 3 a) λk=>
 Do (O c 1 false k) λd=>
 Do (bj false d) λl=>
 au (nD Φ a f b d l Q) ([J],c)
noncomputable def Hg:bw:=bD C ⟨157,[2,4,6,7],[[16]],none,[],[]⟩
def f159(Φ:ae)(a0 Y:I)(H:Z)(Q:ad):Prop:=
 aJ (bg H false 7 a0) λb a=>
 Do (M 0 b) λc=>
 Do (O a 1 false c) λd=>
 Do (M 0 Y) λe=>
 Do (O a 1 false e) λf=>
 Do (N .eql d f) λg=>
 Q g a
noncomputable def Hh:bw:=bD C ⟨159,[],[],none,[],[]⟩
end Rb.S

namespace Rb.S
open Go
open Go.Proofs.YtggbkidckoecfaaGreatDoor.rb (C)
def Hi(Φ:ae)(d i b:I)(Q:ad):a:=λu e=>
 Do (M 3 d) λj=>
 Do (O e 1 false j) λk=>
Φ 182 [k,(.fn 188 [i])] e λf c=>
 Do (N .lss f J) λl=>
 L l true (
 Do (ba [J,J,P,ar,J,ar] []) λm=>
 Do (ax c 6 b m) λg=>
 Do (O g 6 true b) λn=>
 Q (.aM [n,(D 6)]) g) (
 Do (M 3 d) λo=>
 Do (O c 1 false o) λp=>
 Do (aU none 9 p f) λq=>
 Do (M 1 q) λr=>
 Do (O c 6 true r) λs=>
 Do (ax c 6 b s) λh=>
 Do (O h 6 true b) λt=>
 Q (.aM [t,J]) h)
def wP(Φ:ae)(e f b:I)(Q:ad):a:=λg c=>
 L (sl g 0) true (
 Do (ba [J,J,P,ar,J,ar] []) λh=>
 Do (ax c 6 b h) λd=>
 Do (O d 6 true b) λi=>
 Q (.aM [i,(D 8)]) d) (
 U (Hi Φ e f b Q) [] c)
def wQ(Φ:ae)(d e c:I)(g:List I)(Q:ad):a:=λh b=>
 L (sl h 0) true (
 Do (M 5 d) λi=>
 Do (O b 1 false i) λj=>
 Do (aU none 6 j J) λk=>
 Do (O b 6 true k) λl=>
 Do (ax b 6 c l) λf=>
 Do (O f 6 true c) λm=>
 Q (.aM [m,J]) f) (
 Do (M 1 e) λn=>
 Do (O b 1 false n) λo=>
 Do (bj false o) λp=>
 Do (N .eql p (D 1)) λq=>
 aQ q false (
 Do (cM .not (sl g 0)) λr=>
 U (wP Φ d e c Q) [r] b) (
 U (wP Φ d e c Q) [bd] b) (
 False))
def wR(Φ:ae)(d e c:I)(f:List I)(Q:ad):a:=λh b=>
 L (sl h 0) true (
 Do (ba [J,J,P,ar,J,ar] []) λi=>
 Do (ax b 6 c i) λg=>
 Do (O g 6 true c) λj=>
 Q (.aM [j,(D 8)]) g) (
 Do (M 1 e) λk=>
 Do (O b 1 false k) λl=>
 Do (bj false l) λm=>
 Do (N .eql m (D 1)) λn=>
 aQ n true (
 Do (M 0 d) λo=>
 Do (O b 1 false o) λp=>
 Do (N .eql p (D 5)) λq=>
 U (wQ Φ d e c f Q) [q] b) (
 U (wQ Φ d e c f Q) [P] b) (
 False))
def wS(Φ:ae)(d b e:I)(Q:ad):a:=λf c=>
 Do (M 1 b) λg=>
 Do (O c 1 false g) λh=>
 Do (bj false h) λi=>
 Do (N .gtr i (D 1)) λj=>
 aQ j false (
 Do (M 1 b) λk=>
 Do (O c 1 false k) λl=>
 Do (bj false l) λm=>
 Do (N .eql m (D 1)) λn=>
 Do (M 0 b) λo=>
 Do (O c 1 false o) λp=>
 Do (N .neq p (.str [])) λq=>
 Do (j9 false n q) λr=>
 U (wR Φ d b e f Q) [r] c) (
 U (wR Φ d b e f Q) [bd] c) (
 False)
def f160(Φ:ae)(a0 Y:I)(H:Z)(Q:ad):Prop:=
 aJ (bg H false 6 a0) λa e=>
 aJ (bg e false 2 Y) λc f=>
 aJ (some (aR f true [J,J,P,ar,J,ar])) λd b=>
 Do (M 0 a) λg=>
 Do (O b 1 false g) λh=>
 Do (N .eql h (D 3)) λi=>
 aQ i false (
 Do (M 0 a) λj=>
 Do (O b 1 false j) λk=>
 Do (N .eql k (D 4)) λl=>
 U (wS Φ a c d Q) [l] b) (
 U (wS Φ a c d Q) [bd] b) (
 False)
noncomputable def Hj:bw:=bD C ⟨160,[4],[],none,[],[]⟩
def rm(Φ:ae)(c:I)(d:List I)(Q:ad):a:=λe b=>
 aQ (sl e 0) true (
 Do (M 7 c) λf=>
 Do (O b 1 false f) λg=>
 Do (bj false g) λh=>
 Do (N .eql h (sl d 0)) λi=>
 Q i b) (
 Q P b) (
 False)
def k0(Φ:ae)(b:I)(c:List I)(Q:ad):a:=λe d=>
 aQ (sl e 0) true (
 aQ (sl c 1) false (
 Do (M 5 b) λf=>
 Do (O d 2 true f) λg=>
Φ 132 [g] d λh i=>
 U (rm Φ b c Q) [h] i) (
 U (rm Φ b c Q) [bd] d) (
 False)) (
 U (rm Φ b c Q) [P] d) (
 False)
def rp(Φ:ae)(b e:I)(d:List I)(Q:ad):a:=λf c=>
 aQ (sl f 0) true (
 aQ e true (
 Do (M 3 b) λg=>
 Do (O c 1 false g) λh=>
 Do (N .geq h (D 1)) λi=>
 aQ i true (
 Do (M 3 b) λj=>
 Do (O c 1 false j) λk=>
 Do (N .leq k (D 11)) λl=>
 aQ l false (
 Do (cM .not e) λm=>
 aQ m true (
 Do (M 3 b) λn=>
 Do (O c 1 false n) λo=>
 Do (N .eql o J) λp=>
 U (k0 Φ b d Q) [p] c) (
 U (k0 Φ b d Q) [P] c) (
 False)) (
 U (k0 Φ b d Q) [bd] c) (
 False)) (
 Do (cM .not e) λq=>
 aQ q true (
 Do (M 3 b) λr=>
 Do (O c 1 false r) λs=>
 Do (N .eql s J) λt=>
 U (k0 Φ b d Q) [t] c) (
 U (k0 Φ b d Q) [P] c) (
 False)) (
 False)) (
 Do (cM .not e) λu=>
 aQ u true (
 Do (M 3 b) λv=>
 Do (O c 1 false v) λw=>
 Do (N .eql w J) λx=>
 U (k0 Φ b d Q) [x] c) (
 U (k0 Φ b d Q) [P] c) (
 False)) (
 False)) (
 U (k0 Φ b d Q) [P] c) (
 False)
def wT(Φ:ae)(b d:I)(e:List I)(Q:ad):a:=λf c=>
 aQ (sl f 0) true (
 Do (M 0 b) λg=>
 Do (O c 1 false g) λh=>
 Do (N .eql h (D 2)) λi=>
 aQ i false (
 Do (M 2 b) λj=>
 Do (O c 1 false j) λk=>
 Do (N .eql k (.str [])) λl=>
 U (rp Φ b d e Q) [l] c) (
 U (rp Φ b d e Q) [bd] c) (
 False)) (
 U (rp Φ b d e Q) [P] c) (
 False)
def mC(Φ:ae)(b:I)(Q:ad):a:=λd c=>
 Do (M 0 b) λf=>
 Do (O c 1 false f) λg=>
 Do (N .eql g (D 3)) λe=>
 Do (M 0 b) λh=>
 Do (O c 1 false h) λi=>
 Do (N .eql i (D 1)) λj=>
 aQ j false (
 Do (M 1 b) λk=>
 Do (O c 1 false k) λl=>
 Do (N .eql l (af 0)) λm=>
 U (wT Φ b e d Q) [m] c) (
 U (wT Φ b e d Q) [bd] c) (
 False)
def Av(Φ:ae)(c d:I)(Q:ad):a:=λe b=>
 L (sl e 0) true (
 U (mC Φ c Q) [(D 1),bd] b) (
 Do (N .eql d (D 8)) λf=>
 L f true (
 U (mC Φ c Q) [(D 2),bd] b) (
 Q P b))
def Aw(Φ:ae)(c b:I)(Q:ad):a:=λf d=>
 L (sl f 0) true (
 U (mC Φ c Q) [J,bd] d) (
 Do (N .eql b (D 6)) λe=>
 L e true (
 U (Av Φ c b Q) [e] d) (
 Do (N .eql b (D 7)) λg=>
 U (Av Φ c b Q) [g] d))
def Ax(Φ:ae)(c b:I)(Q:ad):a:=λf d=>
 L (sl f 0) true (
 U (mC Φ c Q) [J,P] d) (
 Do (N .eql b (D 3)) λg=>
 L g true (
 U (mC Φ c Q) [(D 2),P] d) (
 Do (N .eql b (D 4)) λe=>
 L e true (
 U (Aw Φ c b Q) [e] d) (
 Do (N .eql b (D 5)) λh=>
 U (Aw Φ c b Q) [h] d)))
def f161(Φ:ae)(a0:I)(H:Z)(Q:ad):Prop:=
 aJ (bg H false 8 a0) λb c=>
 Do (M 0 b) λe=>
 Do (O c 1 false e) λa=>
 Do (N .eql a (D 1)) λd=>
 L d true (
 U (Ax Φ b a Q) [d] c) (
 Do (N .eql a (D 2)) λf=>
 U (Ax Φ b a Q) [f] c)
noncomputable def Hk:bw:=bD C ⟨161,[],[],none,[],[]⟩
def f162(Φ:ae)(a0:I)(H:Z)(Q:ad):Prop:=
 Do (N .geq a0 J) λa=>
 aQ a true (
 Do (N .lss a0 (D 64)) λb=>
 Q b H) (
 Q P H) (
 False)
noncomputable def Hl:bw:=bD C ⟨162,[],[],none,[],[]⟩
def wU(Φ:ae)(d e:I)(Q:ad):BT:=λa f=>
 Do (N .lss (sl a.1 1) e) λg=>
 L g true (
 Do (aU none 2 d (sl a.1 1)) λh=>
 Do (O a.2 2 true h) λi=>
 aJ (some (aR a.2 true [.str [],ar])) λb j=>
 Do (ax j 2 b i) λc=>
 Do (M 1 b) λk=>
 Do (O c 1 false k) λl=>
 Do (bj false l) λm=>
 Do (N .add (sl a.1 0) m) λn=>
 Do (N .add (sl a.1 1) (D 1)) λo=>
 f ([n,o],c)) (
 Q (sl a.1 0) a.2)
def f163(Φ:ae)(a0:I)(H:Z)(Q:ad):Prop:=
 aJ (bg H false 2 a0) λc a=>
 Do (M 1 c) λd=>
 Do (O a 1 false d) λb=>
 Do (bj false b) λe=>
 au (wU Φ b e Q) ([J,J],a)
noncomputable def Hm:bw:=bD C ⟨163,[5],[[3,9]],none,[],[]⟩
def f164(Φ:ae)(a0 Y:I)(H:Z)(Q:ad):Prop:=
 aJ (bg H false 7 a0) λb a=>
 Do (M 0 b) λc=>
 Do (O a 1 false c) λd=>
 Do (M 0 Y) λe=>
 Do (O a 1 false e) λf=>
 Do (N .eql d f) λg=>
 Q g a
noncomputable def Hn:bw:=bD C ⟨164,[],[],none,[],[]⟩
def f165(Φ:ae)(a0 Y:I)(H:Z)(Q:ad):Prop:=
 aJ (bg H false 2 Y) λg a=>
 Do (M 1 g) λp=>
 Do (O a 1 false p) λq=>
 Do (bj false q) λr=>
 Do (N .eql r (D 1)) λs=>
 L s true (
 Do (aO a0) λt=>
 Do (M 12 t) λu=>
 Do (O a 1 false u) λv=>
 Do (aU none 1 v J) λw=>
 Do (O a 1 false w) λh=>
 Do (aO a0) λx=>
 Do (M 12 x) λy=>
 Do (O a 1 false y) λz=>
 Do (c6 1 z (some (D 1)) none none) λA=>
 Do (aO a0) λB=>
 Do (M 12 B) λC=>
 Do (ax a 1 C A) λb=>
 Do (aO a0) λE=>
 Do (M 0 E) λF=>
 Do (M 4 F) λG=>
 Do (O b 1 false G) λK=>
 Do (gP .u64 K) λR=>
 Do (N .geq h R) λS=>
 L S true (
 Q P b) (
 Do (aO a0) λT=>
 Do (M 0 T) λU=>
 Do (M 5 U) λV=>
 Do (O b 1 false V) λW=>
 Do (aU none 6 W J) λX=>
 Do (O b 6 true X) λaa=>
 Do (aO a0) λab=>
 Do (M 0 ab) λac=>
 Do (ax b 6 ac aa) λi=>
 Do (aO a0) λaf=>
 Do (M 0 af) λag=>
 Do (O i 6 true ag) λah=>
Φ 67 [ah] i λe j=>
 Do (bI 0 e) λk=>
 Do (bI 1 e) λbk=>
 Do (bI 2 e) λbl=>
 Do (aO a0) λai=>
 Do (M 6 ai) λaj=>
 Do (M 0 aj) λak=>
 Do (M 0 ak) λal=>
 Do (O j 1 false al) λam=>
 Do (gP .i64 h) λan=>
 Do (N .mul an k) λao=>
 Do (N .add am ao) λap=>
 Do (aO a0) λaq=>
 Do (M 6 aq) λar=>
 Do (M 0 ar) λau=>
 Do (M 0 au) λav=>
 Do (ax j 1 av ap) λaw=>
 Do (aO a0) λay=>
 Do (M 6 ay) λaz=>
 Do (M 0 az) λaA=>
 Do (M 1 aA) λaB=>
 Do (ax aw 1 aB k) λaC=>
 Q bd aC)) (
 Do (aO a0) λaD=>
 Do (M 0 aD) λaE=>
 Do (M 3 aE) λaF=>
 Do (O a 1 false aF) λaG=>
Φ 182 [aG,(.fn 189 [g])] a λl m=>
 Do (aO a0) λaH=>
 Do (M 0 aH) λaI=>
 Do (O m 6 true aI) λaK=>
Φ 190 [aK] m λn o=>
 Do (bI 0 n) λaL=>
 Do (bI 1 n) λbm=>
 Do (aU none 6 aL l) λaM=>
 Do (O o 6 true aM) λaN=>
 aJ (some (aR o true [J,J,J,P,J,J])) λc aP=>
 Do (ax aP 6 c aN) λf=>
 Do (M 0 c) λaQ=>
 Do (M 0 aQ) λaS=>
 Do (O f 1 false aS) λaT=>
 Do (aO a0) λaV=>
 Do (M 6 aV) λaW=>
 Do (M 0 aW) λaX=>
 Do (M 0 aX) λaY=>
 Do (O f 1 false aY) λaZ=>
 Do (N .add aT aZ) λa1=>
 Do (M 0 c) λa2=>
 Do (M 0 a2) λa3=>
 Do (ax f 1 a3 a1) λd=>
 Do (O d 6 true c) λa4=>
 Do (aO a0) λa5=>
 Do (M 0 a5) λa6=>
 Do (M 3 a6) λa7=>
 Do (O d 1 false a7) λa8=>
 Do (aU none 9 a8 l) λa9=>
 Do (M 1 a9) λa_=>
 Do (O d 6 true a_) λba=>
 Do (aO a0) λbb=>
 Do (M 6 bb) λbc=>
 Do (ax d 6 bc a4) λbe=>
 Do (aO a0) λbf=>
 Do (M 0 bf) λbh=>
 Do (ax be 6 bh ba) λbi=>
 Q bd bi)
noncomputable def Ho:bw:=bD C ⟨165,[12],[],none,[],[]⟩
def f166(Φ:ae)(a0 Y a2:I)(H:Z)(Q:ad):Prop:=
Φ 162 [Y] H λb a=>
 Do (cM .not b) λc=>
 L c true (
 Q (af 0) a) (
 Do (N .shr a0 Y) λd=>
Φ 70 [a2] a λe f=>
 Do (N .and d e) λg=>
 Q g f)
noncomputable def Hp:bw:=bD C ⟨166,[],[],none,[],[]⟩
def wV(Φ:ae)(Q:ad):a:=λb c=>
 Do (N .add (sl b 0) (D 1)) λd=>
 Q d c
def wW(Φ:ae)(Y d e:I)(Q:ad):BT:=λa f=>
 Do (N .lss (sl a.1 1) e) λg=>
 L g true (
 Do (aU none 6 d (sl a.1 1)) λh=>
 Do (O a.2 6 true h) λi=>
 aJ (some (aR a.2 true [J,J,P,ar,J,ar])) λb j=>
 Do (ax j 6 b i) λc=>
 Do (O c 6 true b) λk=>
 Do (N .sub Y (D 1)) λl=>
Φ 176 [k,l] c λm n=>
 Do (ka true [(sl a.1 0),m]) λo=>
 Do (N .add (sl a.1 1) (D 1)) λp=>
 f ([o,p],n)) (
 U (wV Φ Q) [(sl a.1 0)] a.2)
def Ay(Φ:ae)(Y d:I)(Q:ad):a:=λe b=>
 Do (M 5 d) λf=>
 Do (O b 1 false f) λc=>
 Do (bj false c) λg=>
 au (wW Φ Y c g Q) ([(sl e 0),J],b)
def wX(Φ:ae)(Y d e f:I)(Q:ad):BT:=λa g=>
 Do (N .lss (sl a.1 1) f) λh=>
 L h true (
 Do (aU none 9 e (sl a.1 1)) λi=>
 Do (O a.2 9 true i) λj=>
 aJ (some (aR a.2 true [.str [],J,J,P,ar,J,ar,P,J])) λb k=>
 Do (ax k 9 b j) λc=>
 Do (M 1 b) λl=>
 Do (O c 6 true l) λm=>
 Do (N .sub Y (D 1)) λn=>
Φ 176 [m,n] c λo p=>
 Do (ka true [(sl a.1 0),o]) λq=>
 Do (N .add (sl a.1 1) (D 1)) λr=>
 g ([q,r],p)) (
 U (Ay Φ Y d Q) [(sl a.1 0)] a.2)
def f176(Φ:ae)(a0 Y:I)(H:Z)(Q:ad):Prop:=
 aJ (bg H false 6 a0) λb a=>
 Do (N .gtr Y (D 1)) λd=>
 L d true (
 Do (M 3 b) λe=>
 Do (O a 1 false e) λc=>
 Do (bj false c) λf=>
 au (wX Φ Y b c f Q) ([J,J],a)) (
 U (wV Φ Q) [J] a)
noncomputable def Hq:bw:=bD C ⟨176,[7,9],[[5,15],[5,30]],none,[],[]⟩
def rq(Φ:ae)(c d:I)(Q:ad):a:=λe b=>
 aQ (sl e 0) true (
 Do (cM .not d) λf=>
 aQ f false (
 Do (M 5 c) λg=>
 Do (O b 1 false g) λh=>
 Do (bj false h) λi=>
 Do (N .eql i (D 1)) λj=>
 Q j b) (
 Q bd b) (
 False)) (
 Q P b) (
 False)
def rr(Φ:ae)(b d:I)(Q:ad):a:=λe c=>
 aQ (sl e 0) true (
 aQ d false (
 Do (M 4 b) λf=>
 Do (O c 1 false f) λg=>
 Do (N .eql g J) λh=>
 aQ h true (
 Do (M 5 b) λi=>
 Do (O c 1 false i) λj=>
 Do (bj false j) λk=>
 Do (N .eql k J) λl=>
 U (rq Φ b d Q) [l] c) (
 U (rq Φ b d Q) [P] c) (
 False)) (
 U (rq Φ b d Q) [bd] c) (
 False)) (
 U (rq Φ b d Q) [P] c) (
 False)
def wY(Φ:ae)(b d:I)(e:List I)(Q:ad):a:=λf c=>
 aQ (sl f 0) true (
 aQ (sl e 0) false (
 Do (M 2 b) λg=>
 Do (O c 1 false g) λh=>
 Do (cM .not h) λi=>
 aQ i true (
 Do (M 3 b) λj=>
 Do (O c 1 false j) λk=>
 Do (bj false k) λl=>
 Do (N .eql l J) λm=>
 U (rr Φ b d Q) [m] c) (
 U (rr Φ b d Q) [P] c) (
 False)) (
 U (rr Φ b d Q) [bd] c) (
 False)) (
 U (rr Φ b d Q) [P] c) (
 False)
def Az(Φ:ae)(b d:I)(f:List I)(e:List I)(Q:ad):a:=λg c=>
 aQ (sl g 0) true (
 aQ (sl f 0) false (
 Do (M 1 b) λh=>
 Do (O c 1 false h) λi=>
 Do (N .eql i J) λj=>
 U (wY Φ b d e Q) [j] c) (
 U (wY Φ b d e Q) [bd] c) (
 False)) (
 U (wY Φ b d e Q) [P] c) (
 False)
def AA(Φ:ae)(c b:I)(d:List I)(e:List I)(Q:ad):a:=λg f=>
 aQ (sl g 0) false (
 U (Az Φ c b d e Q) [b] f) (
 U (Az Φ c b d e Q) [bd] f) (
 False)
def AB(Φ:ae)(b:I)(c:List I)(Q:ad):a:=λd e=>
 Do (M 0 b) λg=>
 Do (O e 1 false g) λh=>
 Do (N .eql h (D 5)) λf=>
 aQ (sl c 0) false (
 U (AA Φ b f c d Q) [(sl d 0)] e) (
 U (AA Φ b f c d Q) [bd] e) (
 False)
def AD(Φ:ae)(b:I)(Q:ad):a:=λd c=>
 Do (M 0 b) λe=>
 Do (O c 1 false e) λf=>
 Do (N .eql f (D 3)) λg=>
 aQ g false (
 Do (M 0 b) λh=>
 Do (O c 1 false h) λi=>
 Do (N .eql i (D 4)) λj=>
 U (AB Φ b d Q) [j] c) (
 U (AB Φ b d Q) [bd] c) (
 False)
def f177(Φ:ae)(a0:I)(H:Z)(Q:ad):Prop:=
 aJ (bg H false 6 a0) λa b=>
 Do (M 0 a) λc=>
 Do (O b 1 false c) λd=>
 Do (N .eql d (D 1)) λe=>
 aQ e false (
 Do (M 0 a) λf=>
 Do (O b 1 false f) λg=>
 Do (N .eql g (D 2)) λh=>
 U (AD Φ a Q) [h] b) (
 U (AD Φ a Q) [bd] b) (
 False)
noncomputable def Hr:bw:=bD C ⟨177,[],[],none,[],[]⟩
def AE(Φ:ae)(a0:I)(Q:ad):a:=λc b=>
 aQ (sl c 0) true (
 Do (N .sub a0 (D 1)) λd=>
 Do (N .and a0 d) λe=>
 Do (N .eql e J) λf=>
 Q f b) (
 Q P b) (
 False)
def f178(Φ:ae)(a0 Y:I)(H:Z)(Q:ad):Prop:=
 Do (N .geq a0 (D 1)) λa=>
 aQ a true (
 Do (N .leq a0 Y) λb=>
 U (AE Φ a0 Q) [b] H) (
 U (AE Φ a0 Q) [P] H) (
 False)
noncomputable def Hs:bw:=bD C ⟨178,[],[],none,[],[]⟩
def wZ(Φ:ae)(d e:I)(Q:ad):BT:=λa f=>
 Do (N .lss (sl a.1 0) e) λg=>
 L g true (
 Do (O a.2 6 true d) λh=>
Φ 203 [h,(sl a.1 0)] a.2 λb c=>
 Do (N .neq b J) λi=>
 L i true (
 Q b c) (
 Do (N .add (sl a.1 0) (D 1)) λj=>
 f ([j],c))) (
 Q J a.2)
def Ht(Φ:ae)(b:I)(Q:ad):a:=λg c=>
 Do (M 3 b) λd=>
 Do (O c 1 false d) λe=>
 Do (bj false e) λf=>
 au (wZ Φ b f Q) ([J],c)
def w4(Φ:ae)(c:I)(Q:ad):a:=λd b=>
 L (sl d 0) true (
 Q (D 12) b) (
 U (Ht Φ c Q) [] b)
def f179(Φ:ae)(a0:I)(H:Z)(Q:ad):Prop:=
 aJ (bg H false 6 a0) λa b=>
 Do (M 3 a) λc=>
 Do (O b 1 false c) λd=>
 Do (bj false d) λe=>
 Do (N .lss e (D 1)) λf=>
 aQ f false (
 Do (M 3 a) λg=>
 Do (O b 1 false g) λh=>
 Do (bj false h) λi=>
 Do (N .gtr i (D 32)) λj=>
 U (w4 Φ a Q) [j] b) (
 U (w4 Φ a Q) [bd] b) (
 False)
noncomputable def Hu:bw:=bD C ⟨179,[],[[18]],none,[],[]⟩
def f180(Φ:ae)(a0:I)(H:Z)(Q:ad):Prop:=
 aJ (bg H false 9 a0) λb a=>
 Do (M 1 b) λc=>
 Do (O a 6 true c) λd=>
Φ 153 [d] a λe f=>
 Q e f
noncomputable def Hv:bw:=bD C ⟨180,[],[],none,[],[]⟩
def N3(Φ:ae)(a0 Y d:I)(Q:ad):BT:=λs2 e=>
 Do (N .lss (sl s2.1 0) d) λf=>
 L f true (
 Do (aU none 6 a0 (sl s2.1 0)) λg=>
 Do (O s2.2 6 true g) λh=>
∃a b,Y = .fn a b∧Φ (jL a) (jM a [h] b) s2.2 λi c=>
 L i true (
 Q (sl s2.1 0) c) (
 Do (N .add (sl s2.1 0) (D 1)) λj=>
 e ([j],c))) (
 Q (D (-1)) s2.2)
def f181(Φ:ae)(a0 Y:I)(H:Z)(Q:ad):Prop:=
 Do (bj false a0) λa=>
 au (N3 Φ a0 Y a Q) ([J],H)
noncomputable def Hw:bw:=bD C ⟨181,[],[[8]],none,[],[]⟩
def N4(Φ:ae)(a0 Y d:I)(Q:ad):BT:=λs2 e=>
 Do (N .lss (sl s2.1 0) d) λf=>
 L f true (
 Do (aU none 9 a0 (sl s2.1 0)) λg=>
 Do (O s2.2 9 true g) λh=>
∃a b,Y = .fn a b∧Φ (jL a) (jM a [h] b) s2.2 λi c=>
 L i true (
 Q (sl s2.1 0) c) (
 Do (N .add (sl s2.1 0) (D 1)) λj=>
 e ([j],c))) (
 Q (D (-1)) s2.2)
def f182(Φ:ae)(a0 Y:I)(H:Z)(Q:ad):Prop:=
 Do (bj false a0) λa=>
 au (N4 Φ a0 Y a Q) ([J],H)
noncomputable def Hx:bw:=bD C ⟨182,[],[[8]],none,[],[]⟩
def w5(Φ:ae)(a2 c:I)(Q:ad):a:=λd b=>
 L (sl d 0) true (
 Q (D 1) b) (
 Do (M 7 c) λe=>
 Do (O b 1 false e) λf=>
 L f true (
 Do (M 1 c) λg=>
 Do (M 1 g) λh=>
 Do (O b 1 false h) λi=>
 Q i b) (
 Q a2 b))
def f183(Φ:ae)(a0 Y a2:I)(H:Z)(Q:ad):Prop:=
 aJ (bg H false 6 a0) λc d=>
 aJ (bg d false 9 Y) λb a=>
 Do (M 2 c) λe=>
 Do (O a 1 false e) λf=>
 aQ f false (
 Do (M 7 b) λg=>
 Do (O a 1 false g) λh=>
 aQ h true (
 Do (M 8 b) λi=>
 Do (O a 1 false i) λj=>
 Do (N .eql j J) λk=>
 U (w5 Φ a2 b Q) [k] a) (
 U (w5 Φ a2 b Q) [P] a) (
 False)) (
 U (w5 Φ a2 b Q) [bd] a) (
 False)
noncomputable def Hy:bw:=bD C ⟨183,[],[],none,[],[]⟩
def w6(Φ:ae)(a0 c:I)(Q:ad):a:=λaa b=>
 Do (aO a0) λf=>
 Do (M 3 f) λg=>
 Do (O b 1 false g) λh=>
 Do (N .quo h (D 8)) λe=>
 Do (aO a0) λi=>
 Do (M 3 i) λj=>
 Do (O b 1 false j) λk=>
 Do (M 8 c) λl=>
 Do (O b 1 false l) λm=>
 Do (N .add k m) λn=>
 Do (N .sub n (D 1)) λo=>
 Do (N .quo o (D 8)) λp=>
 Do (aO a0) λq=>
 Do (M 2 q) λr=>
 Do (O b 1 false r) λs=>
 Do (N .sub p e) λt=>
 Do (N .add t (D 1)) λu=>
 Do (ba [J,J] [(0,1,e),(1,1,u)]) λv=>
 Do (aO a0) λw=>
 Do (M 3 w) λx=>
 Do (O b 1 false x) λy=>
 Do (N .rem y (D 8)) λz=>
 Do (M 8 c) λA=>
 Do (O b 1 false A) λB=>
 Do (ba [J,J,J,P,J,J] [(0,2,v),(2,1,(D 1)),(3,1,bd),(4,1,z),(5,1,B)]) λC=>
 aJ (c9 b false 6 1 [J,J,J,P,J,J] [(0,6,C)]) λE F=>
 aJ (cX F false 6 48 s E) λG H=>
 Do (aO a0) λK=>
 Do (M 2 K) λL=>
 Do (ax H 1 L G) λd=>
 Do (aO a0) λR=>
 Do (M 3 R) λS=>
 Do (O d 1 false S) λT=>
 Do (M 8 c) λU=>
 Do (O d 1 false U) λV=>
 Do (N .add T V) λW=>
 Do (aO a0) λX=>
 Do (M 3 X) λY=>
 Do (ax d 1 Y W) λZ=>
 Q (.aM []) Z
def f184(Φ:ae)(a0 Y:I)(H:Z)(Q:ad):Prop:=
 aJ (bg H false 9 Y) λb a=>
 Do (M 1 b) λe=>
 Do (M 1 e) λf=>
 Do (O a 1 false f) λg=>
 Do (N .mul (D 8) g) λc=>
 Do (M 8 b) λh=>
 Do (O a 1 false h) λi=>
 Do (N .eql i J) λj=>
 L j true (
 Do (aO a0) λk=>
 Do (M 3 k) λl=>
 Do (O a 1 false l) λm=>
Φ 185 [m,c] a λn o=>
 Do (aO a0) λp=>
 Do (M 3 p) λq=>
 Do (ax o 1 q n) λd=>
 Do (aO a0) λr=>
 Do (M 2 r) λs=>
 Do (O d 1 false s) λt=>
 Do (aO a0) λu=>
 Do (M 3 u) λv=>
 Do (O d 1 false v) λw=>
 Do (N .quo w (D 8)) λx=>
 Do (ba [J,J] [(0,1,x)]) λy=>
 Do (aO a0) λz=>
 Do (M 3 z) λA=>
 Do (O d 1 false A) λB=>
 Do (N .rem B (D 8)) λC=>
 Do (ba [J,J,J,P,J,J] [(0,2,y),(2,1,(D 1)),(3,1,bd),(4,1,C)]) λE=>
 aJ (c9 d false 6 1 [J,J,J,P,J,J] [(0,6,E)]) λF G=>
 aJ (cX G false 6 48 t F) λK R=>
 Do (aO a0) λS=>
 Do (M 2 S) λT=>
 Do (ax R 1 T K) λV=>
 Q (.aM []) V) (
 Do (aO a0) λW=>
 Do (M 3 W) λX=>
 Do (O a 1 false X) λaa=>
 Do (N .quo aa c) λab=>
 Do (aO a0) λac=>
 Do (M 3 ac) λaf=>
 Do (O a 1 false af) λag=>
 Do (M 8 b) λah=>
 Do (O a 1 false ah) λai=>
 Do (N .add ag ai) λaj=>
 Do (N .sub aj (D 1)) λak=>
 Do (N .quo ak c) λal=>
 Do (N .neq ab al) λam=>
 L am true (
 Do (aO a0) λan=>
 Do (M 3 an) λao=>
 Do (O a 1 false ao) λap=>
Φ 185 [ap,c] a λaq ar=>
 Do (aO a0) λau=>
 Do (M 3 au) λav=>
 Do (ax ar 1 av aq) λaw=>
 U (w6 Φ a0 b Q) [] aw) (
 U (w6 Φ a0 b Q) [] a))
noncomputable def Hz:bw:=bD C ⟨184,[],[],none,[],[]⟩
def f185(Φ:ae)(a0 Y:I)(H:Z)(Q:ad):Prop:=
 Do (N .add a0 Y) λa=>
 Do (N .sub a (D 1)) λb=>
 Do (N .quo b Y) λc=>
 Do (N .mul c Y) λd=>
 Q d H
noncomputable def HA:bw:=bD C ⟨185,[],[],none,[],[]⟩
def f188(Φ:ae)(a0 Y:I)(H:Z)(Q:ad):Prop:=
 aJ (bg H false 9 a0) λb a=>
 Do (M 0 b) λc=>
 Do (O a 1 false c) λd=>
 Do (M 0 Y) λe=>
 Do (O a 1 false e) λf=>
 Do (N .eql d f) λg=>
 Q g a
noncomputable def HB:bw:=bD C ⟨188,[],[],none,[],[]⟩
def f189(Φ:ae)(a0 Y:I)(H:Z)(Q:ad):Prop:=
 aJ (bg H false 9 a0) λb a=>
 Do (M 0 b) λc=>
 Do (O a 1 false c) λd=>
 Do (M 0 Y) λe=>
 Do (O a 1 false e) λf=>
 Do (N .eql d f) λg=>
 Q g a
noncomputable def HC:bw:=bD C ⟨189,[],[],none,[],[]⟩
def HD(Φ:ae)(f:I)(Q:ad):a:=λm b=>
 Do (O b 6 true f) λg=>
Φ 157 [g] b λc h=>
 Do (bI 0 c) λi=>
 Do (bI 1 c) λn=>
 aJ (some (aR h true [J,J,ar,J])) λd j=>
 Do (ax j 4 d i) λe=>
 Do (M 2 d) λk=>
 Do (O e 1 false k) λl=>
 Q (.aM [l,J]) e
def w7(Φ:ae)(c:I)(Q:ad):a:=λd b=>
 L (sl d 0) true (
 Q (.aM [ar,(D 8)]) b) (
 U (HD Φ c Q) [] b)
def f190(Φ:ae)(a0:I)(H:Z)(Q:ad):Prop:=
 aJ (bg H false 6 a0) λa c=>
 Do (O c 6 true a) λf=>
Φ 93 [f] c λd g=>
 Do (bI 0 d) λh=>
 Do (bI 1 d) λe=>
 aJ (some (aR g true [J,J])) λi j=>
 Do (ax j 2 i h) λb=>
 Do (N .neq e J) λk=>
 L k true (
 Q (.aM [ar,e]) b) (
 Do (M 0 a) λl=>
 Do (O b 1 false l) λm=>
 Do (N .neq m (D 3)) λn=>
 aQ n true (
 Do (M 0 a) λo=>
 Do (O b 1 false o) λp=>
 Do (N .neq p (D 4)) λq=>
 U (w7 Φ a Q) [q] b) (
 U (w7 Φ a Q) [P] b) (
 False))
noncomputable def HE:bw:=bD C ⟨190,[4,6],[],none,[],[]⟩
def nE(Φ:ae)(Q:ad):a:=λc b=>
 L (sl c 0) true (
 Q (D 9) b) (
 Q J b)
def pf(Φ:ae)(c:I)(Q:ad):a:=λd b=>
 L (sl d 0) true (
 Q (D 8) b) (
 Do (M 7 c) λe=>
 Do (O b 1 false e) λf=>
 aQ f true (
 Do (M 8 c) λg=>
 Do (O b 1 false g) λh=>
 Do (N .lss h J) λi=>
 aQ i false (
 Do (M 8 c) λj=>
 Do (O b 1 false j) λk=>
 Do (M 1 c) λl=>
 Do (M 1 l) λm=>
 Do (O b 1 false m) λn=>
 Do (N .mul (D 8) n) λo=>
 Do (N .gtr k o) λp=>
 aQ p false (
 Do (M 8 c) λq=>
 Do (O b 1 false q) λr=>
 Do (N .eql r J) λs=>
 aQ s true (
 Do (M 0 c) λt=>
 Do (O b 1 false t) λu=>
 Do (N .neq u (.str [])) λv=>
 U (nE Φ Q) [v] b) (
 U (nE Φ Q) [P] b) (
 False)) (
 U (nE Φ Q) [bd] b) (
 False)) (
 U (nE Φ Q) [bd] b) (
 False)) (
 U (nE Φ Q) [P] b) (
 False))
def w8(Φ:ae)(d c:I)(Q:ad):a:=λe b=>
 aQ (sl e 0) false (
 Do (M 7 c) λf=>
 Do (O b 1 false f) λg=>
 aQ g true (
 Do (M 1 c) λh=>
 Do (M 0 h) λi=>
 Do (O b 1 false i) λj=>
 Do (N .neq j (D 1)) λk=>
 aQ k false (
 Do (M 2 d) λl=>
 Do (O b 1 false l) λm=>
 U (pf Φ c Q) [m] b) (
 U (pf Φ c Q) [bd] b) (
 False)) (
 U (pf Φ c Q) [P] b) (
 False)) (
 U (pf Φ c Q) [bd] b) (
 False)
def AF(Φ:ae)(d b:I)(Q:ad):a:=λp e=>
 Do (M 1 b) λg=>
 Do (O e 6 true g) λh=>
Φ 152 [h] e λf c=>
 Do (N .neq f J) λi=>
 L i true (
 Q f c) (
 Do (M 7 b) λj=>
 Do (O c 1 false j) λk=>
 Do (cM .not k) λl=>
 aQ l true (
 Do (M 8 b) λm=>
 Do (O c 1 false m) λn=>
 Do (N .neq n J) λo=>
 U (w8 Φ d b Q) [o] c) (
 U (w8 Φ d b Q) [P] c) (
 False))
def w9(Φ:ae)(c d:I)(Q:ad):a:=λe b=>
 L (sl e 0) true (
 Q (D 7) b) (
 U (AF Φ c d Q) [] b)
def ru(Φ:ae)(Y d c:I)(Q:ad):a:=λe b=>
 L (sl e 0) true (
 Q (D 6) b) (
 Do (M 0 c) λf=>
 Do (O b 1 false f) λg=>
 Do (N .neq g (.str [])) λh=>
 aQ h true (
 Do (M 3 d) λi=>
 Do (O b 1 false i) λj=>
 Do (c6 9 j none (some Y) none) λk=>
Φ 155 [k,(.fn 209 [c])] b λl m=>
 U (w9 Φ d c Q) [l] m) (
 U (w9 Φ d c Q) [P] b) (
 False))
def f203(Φ:ae)(a0 Y:I)(H:Z)(Q:ad):Prop:=
 aJ (bg H false 6 a0) λc d=>
 Do (M 3 c) λf=>
 Do (O d 1 false f) λg=>
 Do (aU none 9 g Y) λh=>
 Do (O d 9 true h) λi=>
 aJ (some (aR d true [.str [],J,J,P,ar,J,ar,P,J])) λa j=>
 Do (ax j 9 a i) λe=>
 Do (M 0 a) λk=>
 Do (O e 1 false k) λl=>
Φ 71 [l] e λm b=>
 Do (cM .not m) λn=>
 aQ n true (
 Do (M 0 a) λo=>
 Do (O b 1 false o) λp=>
 Do (N .neq p (.str [])) λq=>
 aQ q false (
 Do (M 7 a) λr=>
 Do (O b 1 false r) λs=>
 Do (cM .not s) λt=>
 U (ru Φ Y c a Q) [t] b) (
 U (ru Φ Y c a Q) [bd] b) (
 False)) (
 U (ru Φ Y c a Q) [P] b) (
 False)
noncomputable def HF:bw:=bD C ⟨203,[5],[],none,[],[]⟩
def f209(Φ:ae)(a0 Y:I)(H:Z)(Q:ad):Prop:=
 aJ (bg H false 9 a0) λb a=>
 Do (M 0 b) λc=>
 Do (O a 1 false c) λd=>
 Do (M 0 Y) λe=>
 Do (O a 1 false e) λf=>
 Do (N .eql d f) λg=>
 Q g a
noncomputable def HG:bw:=bD C ⟨209,[],[],none,[],[]⟩
noncomputable def cr:iI:=[
  (3,Ez),
  (6,EB),
  (7,EH),
  (9,EI),
  (10,EK),
  (11,EL),
  (12,EM),
  (18,EO),
  (19,EP),
  (20,ES),
  (21,ET),
  (22,EU),
  (23,EZ),
  (24,E2),
  (27,E4),
  (28,E5),
  (29,E6),
  (30,E8),
  (31,Fa),
  (32,Fe),
  (45,Fh),
  (46,Fj),
  (47,Fk),
  (48,Fl),
  (49,Fm),
  (50,Fo),
  (51,Fq),
  (52,Fv),
  (53,Fw),
  (54,Fx),
  (55,Fy),
  (56,Fz),
  (57,FA),
  (58,FE),
  (60,FF),
  (61,FG),
  (62,FH),
  (63,FI),
  (64,FJ),
  (65,FO),
  (66,FQ),
  (67,FR),
  (70,FT),
  (71,FV),
  (72,FW),
  (73,FX),
  (74,FY),
  (75,FZ),
  (76,F0),
  (77,F2),
  (78,F3),
  (79,F6),
  (80,Gb),
  (81,Ge),
  (82,Gf),
  (83,Gi),
  (84,Gj),
  (92,Gk),
  (93,Gl),
  (94,Gm),
  (95,Gn),
  (97,Gp),
  (98,Gq),
  (99,Gr),
  (100,Gt),
  (101,Gu),
  (102,Gw),
  (103,Gx),
  (104,Gy),
  (105,GA),
  (106,GB),
  (107,GC),
  (108,GD),
  (109,GF),
  (110,GG),
  (111,GH),
  (112,GI),
  (125,GJ),
  (126,GK),
  (127,GM),
  (128,GN),
  (131,GP),
  (132,GQ),
  (133,GS),
  (134,GV),
  (135,GW),
  (136,GY),
  (137,GZ),
  (138,G3),
  (139,G4),
  (140,G5),
  (141,G6),
  (142,G7),
  (151,G8),
  (152,G_),
  (153,Ha),
  (154,Hb),
  (155,Hc),
  (156,Hd),
  (157,Hg),
  (159,Hh),
  (160,Hj),
  (161,Hk),
  (162,Hl),
  (163,Hm),
  (164,Hn),
  (165,Ho),
  (166,Hp),
  (176,Hq),
  (177,Hr),
  (178,Hs),
  (179,Hu),
  (180,Hv),
  (181,Hw),
  (182,Hx),
  (183,Hy),
  (184,Hz),
  (185,HA),
  (188,HB),
  (189,HC),
  (190,HE),
  (203,HF),
  (209,HG)]
section
variable{Φ:ae}(W:Cl Φ cr){a0 Y a2 a3 a4 a5 a6 a7 a8 a9 HH nF:I}{H:Z}{Q:ad}
include W
theorem N5(h:f3 Φ a0 Y a2 a3 H Q):Φ 3 [a0,Y,a2,a3] H Q:=W.c (f:=Ez) h
theorem N6(h:f6 Φ a0 Y a2 a3 H Q):Φ 6 [a0,Y,a2,a3] H Q:=W.c (f:=EB) h
theorem N7(h:f7 Φ a0 H Q):Φ 7 [a0] H Q:=W.c (f:=EH) h
theorem N8(h:f9 Φ a0 Y H Q):Φ 9 [a0,Y] H Q:=W.c (f:=EI) h
theorem N9(h:f10 Φ a0 Y a2 H Q):Φ 10 [a0,Y,a2] H Q:=W.c (f:=EK) h
theorem N_(h:f11 Φ a0 Y H Q):Φ 11 [a0,Y] H Q:=W.c (f:=EL) h
theorem Oa(h:f12 Φ a0 Y H Q):Φ 12 [a0,Y] H Q:=W.c (f:=EM) h
theorem Ob(h:f18 Φ a0 H Q):Φ 18 [a0] H Q:=W.c (f:=EO) h
theorem HI(h:f19 Φ a0 Y a2 a3 H Q):Φ 19 [a0,Y,a2,a3] H Q:=W.c (f:=EP) h
theorem AG(h:f20 Φ a0 H Q):Φ 20 [a0] H Q:=W.c (f:=ES) h
theorem Oc(h:f21 Φ a0 H Q):Φ 21 [a0] H Q:=W.c (f:=ET) h
theorem Od(h:f22 Φ a0 H Q):Φ 22 [a0] H Q:=W.c (f:=EU) h
theorem Oe(h:f23 Φ a0 H Q):Φ 23 [a0] H Q:=W.c (f:=EZ) h
theorem Of(h:f24 Φ a0 Y a2 a3 H Q):Φ 24 [a0,Y,a2,a3] H Q:=W.c (f:=E2) h
theorem Og(h:f27 Φ a0 Y H Q):Φ 27 [a0,Y] H Q:=W.c (f:=E4) h
theorem Oh(h:f28 Φ a0 Y a2 H Q):Φ 28 [a0,Y,a2] H Q:=W.c (f:=E5) h
theorem HJ(h:f29 Φ a0 Y a2 a3 H Q):Φ 29 [a0,Y,a2,a3] H Q:=W.c (f:=E6) h
theorem Oi(h:f30 Φ a0 Y a2 a3 H Q):Φ 30 [a0,Y,a2,a3] H Q:=W.c (f:=E8) h
theorem Oj(h:f31 Φ a0 Y a2 H Q):Φ 31 [a0,Y,a2] H Q:=W.c (f:=Fa) h
theorem Ok(h:f32 Φ a0 H Q):Φ 32 [a0] H Q:=W.c (f:=Fe) h
theorem Ol(h:f45 Φ a0 H Q):Φ 45 [a0] H Q:=W.c (f:=Fh) h
theorem Om(h:f46 Φ a0 Y a2 H Q):Φ 46 [a0,Y,a2] H Q:=W.c (f:=Fj) h
theorem nG(h:f47 Φ a0 H Q):Φ 47 [a0] H Q:=W.c (f:=Fk) h
theorem HK(h:f48 Φ a0 Y a2 H Q):Φ 48 [a0,Y,a2] H Q:=W.c (f:=Fl) h
theorem On(h:f49 Φ H Q):Φ 49 [] H Q:=W.c (f:=Fm) h
theorem Oo(h:f50 Φ a0 H Q):Φ 50 [a0] H Q:=W.c (f:=Fo) h
theorem Oq(h:f51 Φ a0 H Q):Φ 51 [a0] H Q:=W.c (f:=Fq) h
theorem Ot(h:f52 Φ a0 H Q):Φ 52 [a0] H Q:=W.c (f:=Fv) h
theorem Ou(h:f53 Φ a0 Y a2 H Q):Φ 53 [a0,Y,a2] H Q:=W.c (f:=Fw) h
theorem Ov(h:f54 Φ a0 H Q):Φ 54 [a0] H Q:=W.c (f:=Fx) h
theorem Ow(h:f55 Φ a0 Y H Q):Φ 55 [a0,Y] H Q:=W.c (f:=Fy) h
theorem Ox(h:f56 Φ a0 Y H Q):Φ 56 [a0,Y] H Q:=W.c (f:=Fz) h
theorem Oy(h:f57 Φ a0 Y a2 a3 a4 H Q):Φ 57 [a0,Y,a2,a3,a4] H Q:=W.c (f:=FA) h
theorem Oz(h:f58 Φ a0 Y a2 a3 H Q):Φ 58 [a0,Y,a2,a3] H Q:=W.c (f:=FE) h
theorem OA(h:f60 Φ a0 Y H Q):Φ 60 [a0,Y] H Q:=W.c (f:=FF) h
theorem OB(h:f61 Φ a0 Y H Q):Φ 61 [a0,Y] H Q:=W.c (f:=FG) h
theorem OC(h:f62 Φ a0 Y H Q):Φ 62 [a0,Y] H Q:=W.c (f:=FH) h
theorem OD(h:f63 Φ a0 Y H Q):Φ 63 [a0,Y] H Q:=W.c (f:=FI) h
theorem OE(h:f64 Φ a0 H Q):Φ 64 [a0] H Q:=W.c (f:=FJ) h
theorem OG(h:f65 Φ a0 Y a2 H Q):Φ 65 [a0,Y,a2] H Q:=W.c (f:=FO) h
theorem OH(h:f66 Φ a0 Y H Q):Φ 66 [a0,Y] H Q:=W.c (f:=FQ) h
theorem OI(h:f67 Φ a0 H Q):Φ 67 [a0] H Q:=W.c (f:=FR) h
theorem OJ(h:f70 Φ a0 H Q):Φ 70 [a0] H Q:=W.c (f:=FT) h
theorem OK(h:f71 Φ a0 H Q):Φ 71 [a0] H Q:=W.c (f:=FV) h
theorem OL(h:f72 Φ a0 H Q):Φ 72 [a0] H Q:=W.c (f:=FW) h
theorem OM(h:f73 Φ a0 Y H Q):Φ 73 [a0,Y] H Q:=W.c (f:=FX) h
theorem ON(h:f74 Φ a0 Y H Q):Φ 74 [a0,Y] H Q:=W.c (f:=FY) h
theorem OO(h:f75 Φ a0 Y a2 H Q):Φ 75 [a0,Y,a2] H Q:=W.c (f:=FZ) h
theorem OP(h:f76 Φ a0 H Q):Φ 76 [a0] H Q:=W.c (f:=F0) h
theorem OQ(h:f77 Φ a0 Y a2 H Q):Φ 77 [a0,Y,a2] H Q:=W.c (f:=F2) h
theorem OR(h:f78 Φ a0 H Q):Φ 78 [a0] H Q:=W.c (f:=F3) h
theorem OS(h:f79 Φ a0 Y H Q):Φ 79 [a0,Y] H Q:=W.c (f:=F6) h
theorem OT(h:f80 Φ a0 H Q):Φ 80 [a0] H Q:=W.c (f:=Gb) h
theorem OU(h:f81 Φ a0 H Q):Φ 81 [a0] H Q:=W.c (f:=Ge) h
theorem OV(h:f82 Φ a0 H Q):Φ 82 [a0] H Q:=W.c (f:=Gf) h
theorem OW(h:f83 Φ a0 Y H Q):Φ 83 [a0,Y] H Q:=W.c (f:=Gi) h
theorem OX(h:f84 Φ a0 H Q):Φ 84 [a0] H Q:=W.c (f:=Gj) h
theorem OY(h:f92 Φ a0 Y a2 H Q):Φ 92 [a0,Y,a2] H Q:=W.c (f:=Gk) h
theorem HL(h:f93 Φ a0 H Q):Φ 93 [a0] H Q:=W.c (f:=Gl) h
theorem HM(h:f94 Φ a0 H Q):Φ 94 [a0] H Q:=W.c (f:=Gm) h
theorem OZ(h:f95 Φ a0 Y H Q):Φ 95 [a0,Y] H Q:=W.c (f:=Gn) h
theorem AJ(h:f97 Φ a0 Y H Q):Φ 97 [a0,Y] H Q:=W.c (f:=Gp) h
theorem O0(h:f98 Φ a0 Y a2 H Q):Φ 98 [a0,Y,a2] H Q:=W.c (f:=Gq) h
theorem O1(h:f99 Φ a0 H Q):Φ 99 [a0] H Q:=W.c (f:=Gr) h
theorem O2(h:f100 Φ a0 Y H Q):Φ 100 [a0,Y] H Q:=W.c (f:=Gt) h
theorem O3(h:f101 Φ a0 Y H Q):Φ 101 [a0,Y] H Q:=W.c (f:=Gu) h
theorem O4(h:f102 Φ a0 Y a2 a3 H Q):Φ 102 [a0,Y,a2,a3] H Q:=W.c (f:=Gw) h
theorem O5(h:f103 Φ a0 Y a2 H Q):Φ 103 [a0,Y,a2] H Q:=W.c (f:=Gx) h
theorem O6(h:f104 Φ a0 Y a2 H Q):Φ 104 [a0,Y,a2] H Q:=W.c (f:=Gy) h
theorem O7(h:f105 Φ a0 Y a2 H Q):Φ 105 [a0,Y,a2] H Q:=W.c (f:=GA) h
theorem O8(h:f106 Φ a0 Y H Q):Φ 106 [a0,Y] H Q:=W.c (f:=GB) h
theorem O9(h:f107 Φ a0 H Q):Φ 107 [a0] H Q:=W.c (f:=GC) h
theorem O_(h:f108 Φ a0 Y H Q):Φ 108 [a0,Y] H Q:=W.c (f:=GD) h
theorem Pa(h:f109 Φ a0 Y a2 H Q):Φ 109 [a0,Y,a2] H Q:=W.c (f:=GF) h
theorem Pb(h:f110 Φ a0 H Q):Φ 110 [a0] H Q:=W.c (f:=GG) h
theorem Pc(h:f111 Φ a0 Y a2 H Q):Φ 111 [a0,Y,a2] H Q:=W.c (f:=GH) h
theorem HN(h:f112 Φ a0 Y H Q):Φ 112 [a0,Y] H Q:=W.c (f:=GI) h
theorem Pe(h:f125 Φ a0 H Q):Φ 125 [a0] H Q:=W.c (f:=GJ) h
theorem Pf(h:f126 Φ a0 H Q):Φ 126 [a0] H Q:=W.c (f:=GK) h
theorem Pg(h:f127 Φ a0 H Q):Φ 127 [a0] H Q:=W.c (f:=GM) h
theorem Ph(h:f128 Φ a0 Y H Q):Φ 128 [a0,Y] H Q:=W.c (f:=GN) h
theorem Pj(h:f131 Φ a0 H Q):Φ 131 [a0] H Q:=W.c (f:=GP) h
theorem HO(h:f132 Φ a0 H Q):Φ 132 [a0] H Q:=W.c (f:=GQ) h
theorem Pk(h:f133 Φ a0 Y H Q):Φ 133 [a0,Y] H Q:=W.c (f:=GS) h
theorem Pl(h:f134 Φ a0 Y H Q):Φ 134 [a0,Y] H Q:=W.c (f:=GV) h
theorem Pm(h:f135 Φ a0 Y a2 H Q):Φ 135 [a0,Y,a2] H Q:=W.c (f:=GW) h
theorem Pn(h:f136 Φ a0 Y a2 H Q):Φ 136 [a0,Y,a2] H Q:=W.c (f:=GY) h
theorem Po(h:f137 Φ a0 Y a2 a3 H Q):Φ 137 [a0,Y,a2,a3] H Q:=W.c (f:=GZ) h
theorem Pp(h:f138 Φ a0 Y a2 H Q):Φ 138 [a0,Y,a2] H Q:=W.c (f:=G3) h
theorem Pq(h:f139 Φ a0 Y H Q):Φ 139 [a0,Y] H Q:=W.c (f:=G4) h
theorem Pr(h:f140 Φ a0 Y H Q):Φ 140 [a0,Y] H Q:=W.c (f:=G5) h
theorem Ps(h:f141 Φ a0 Y a2 H Q):Φ 141 [a0,Y,a2] H Q:=W.c (f:=G6) h
theorem Pt(h:f142 Φ a0 Y a2 H Q):Φ 142 [a0,Y,a2] H Q:=W.c (f:=G7) h
theorem Pu(h:f151 Φ a0 H Q):Φ 151 [a0] H Q:=W.c (f:=G8) h
theorem Pv(h:f152 Φ a0 H Q):Φ 152 [a0] H Q:=W.c (f:=G_) h
theorem Pw(h:f153 Φ a0 H Q):Φ 153 [a0] H Q:=W.c (f:=Ha) h
theorem Px(h:f154 Φ a0 Y H Q):Φ 154 [a0,Y] H Q:=W.c (f:=Hb) h
theorem Py(h:f155 Φ a0 Y H Q):Φ 155 [a0,Y] H Q:=W.c (f:=Hc) h
theorem Pz(h:f156 Φ a0 H Q):Φ 156 [a0] H Q:=W.c (f:=Hd) h
theorem HP(h:f157 Φ a0 H Q):Φ 157 [a0] H Q:=W.c (f:=Hg) h
theorem PA(h:f159 Φ a0 Y H Q):Φ 159 [a0,Y] H Q:=W.c (f:=Hh) h
theorem PB(h:f160 Φ a0 Y H Q):Φ 160 [a0,Y] H Q:=W.c (f:=Hj) h
theorem PC(h:f161 Φ a0 H Q):Φ 161 [a0] H Q:=W.c (f:=Hk) h
theorem PD(h:f162 Φ a0 H Q):Φ 162 [a0] H Q:=W.c (f:=Hl) h
theorem PE(h:f163 Φ a0 H Q):Φ 163 [a0] H Q:=W.c (f:=Hm) h
theorem PF(h:f164 Φ a0 Y H Q):Φ 164 [a0,Y] H Q:=W.c (f:=Hn) h
theorem PG(h:f165 Φ a0 Y H Q):Φ 165 [a0,Y] H Q:=W.c (f:=Ho) h
theorem PH(h:f166 Φ a0 Y a2 H Q):Φ 166 [a0,Y,a2] H Q:=W.c (f:=Hp) h
theorem PI(h:f176 Φ a0 Y H Q):Φ 176 [a0,Y] H Q:=W.c (f:=Hq) h
theorem PJ(h:f177 Φ a0 H Q):Φ 177 [a0] H Q:=W.c (f:=Hr) h
theorem HQ(h:f178 Φ a0 Y H Q):Φ 178 [a0,Y] H Q:=W.c (f:=Hs) h
theorem PK(h:f179 Φ a0 H Q):Φ 179 [a0] H Q:=W.c (f:=Hu) h
theorem PM(h:f180 Φ a0 H Q):Φ 180 [a0] H Q:=W.c (f:=Hv) h
theorem PN(h:f181 Φ a0 Y H Q):Φ 181 [a0,Y] H Q:=W.c (f:=Hw) h
theorem AK(h:f182 Φ a0 Y H Q):Φ 182 [a0,Y] H Q:=W.c (f:=Hx) h
theorem PO(h:f183 Φ a0 Y a2 H Q):Φ 183 [a0,Y,a2] H Q:=W.c (f:=Hy) h
theorem PQ(h:f184 Φ a0 Y H Q):Φ 184 [a0,Y] H Q:=W.c (f:=Hz) h
theorem pg(h:f185 Φ a0 Y H Q):Φ 185 [a0,Y] H Q:=W.c (f:=HA) h
theorem PR(h:f188 Φ a0 Y H Q):Φ 188 [a0,Y] H Q:=W.c (f:=HB) h
theorem PS(h:f189 Φ a0 Y H Q):Φ 189 [a0,Y] H Q:=W.c (f:=HC) h
theorem PT(h:f190 Φ a0 H Q):Φ 190 [a0] H Q:=W.c (f:=HE) h
theorem PU(h:f203 Φ a0 Y H Q):Φ 203 [a0,Y] H Q:=W.c (f:=HF) h
theorem PV(h:f209 Φ a0 Y H Q):Φ 209 [a0,Y] H Q:=W.c (f:=HG) h
end
end Rb.S

namespace Go.Proofs.YtggbkidckoecfaaGreatDoor.rb
open Rb
theorem AL:Cl (aj C) S.cr:=Cl.of (s4 C) (M3 (Eo _ _) (by kernel_rfl))
end Go.Proofs.YtggbkidckoecfaaGreatDoor.rb

namespace Rb
open Go Go.RowKit
variable{W w:World}{F:dk}{g:Nat}{G:b4}
def ku(W:World):Nat→Nat→Prop:=λb o=>∃V,W.cell? ⟨b,o,none⟩=some V
theorem PW{C:Ctx}{a:Nat}{f:FuncId}{b:List I}{Vs:Array Value}(hf:C.F a=some f)(h:aj C a b Z.mt (λv _=>v = .bool true))(c:eS C W (b4.mt (ku W)) Z.mt)
  (d:bo C.F W (b4.mt (ku W)) b Vs):Calls C.P f Vs W λe g=>e = .returned (.bool true)∧Below W.heap.size W g:=by
 refine Calls.mono (h.2 f hf _ W Vs c (Rel.mt λ_ _ h=>h) d) λe R he=>?_;obtain⟨V,v,H',G',rfl,rfl,hv,_,i⟩:=he;obtain rfl:=hv.iC;exact⟨rfl,i.below⟩
theorem AM{k:IntKind}{a:List Int}(h:∀i,i<a.length→W.cell? ⟨g,i,none⟩=some (.int k (a.getD i 0))):VR F W (b4.mt (ku W)) (.ak (a.map (.int k))) (.pointer (some ⟨g,0,none⟩)):=by
 refine .ak _ g 0 (λj=> .int k (a.getD j 0)) (λj c b=>?_) λj c b=>?_
 · have hl:j<a.length:=by simpa using(Wh.1 b).1
   rw[W7];exact⟨⟨_,h j hl⟩,h j hl⟩
 · have hl:j<a.length:=by simpa using(Wh.1 b).1
   have:c = .int k (a.getD j 0):=by rw[Xb,Xc hl]at b;simp only[Wz,Wy.injEq]at b;rw[←b,List.getD_eq_getElem?_getD,Xc hl];rfl
   rw[this];exact .int _ _
theorem bo.two{c d:I}{V U:Value}(h:VR F w G c V)(b:VR F w G d U):bo F w G [c,d] #[V,U]:=⟨rfl,λj c' e hc a=>by
  rcases j with _|_|j
  ·simp at hc a;subst hc;subst a;exact h
  ·simp at hc a;subst hc;subst a;exact b
  ·simp at hc⟩
theorem PX(b:ByteArray):VR F w G (.str b.data.toList) (.string b):=by
 have h:(⟨b.data.toList.toArray⟩:ByteArray)=b:=by cases b;simp
 have:=VR.str (F:=F) (w:=w) (G:=G) b.data.toList;rwa [h]at this
theorem PY:DL=(Go.Lib.asciiSpaceTab.map (I.int .u8)):=by kernel_rfl
theorem AN{P:Program}{name:String}{cs:Array Value}(b:P.globalNamed name=some g)(h:W.var? P name=some cs):∃a t fr,W.heap[g]?=some (.cells a t fr)∧a.size=cs.size:=by
 unfold World.var? at h;rw[b]at h;simp only[Option.bind_some]at h;split at h
 · rename_i a t fr heq;cases h;exact⟨_,_,_,heq,rfl⟩
 ·cases h
end Rb

namespace Rb
open Go Go.RowKit
variable{t:TypeId}{n m sz:Nat}{α β:Type}{v:Value}{ps:List MemPlace}
mutual
def i_:I→Nat
 | .str s=>s.length+1
 | .av _ _ cs=>dz cs+1
 |_=>1
def dz:List I→Nat
 |[]=>0
 |x::r=>i_ x+dz r
end
theorem lM:∀a b:List I,dz (a++b)=dz a+dz b
 |[],b=>by simp[dz]
 |x::r,b=>by simp only[Yi,dz,lM r b,WD]
mutual
def dB{H:Type}:DataW H→Nat
 | .lit (.string bytes)=>bytes.length+1
 | .lit _=>1
 | .nil=>1
 | .ptr d=>dB d+1
 | .slice elems spare=>kv elems+kv spare+1
 | .agg parts=>kv parts+1
 | .iface _ d=>dB d+1
 | .map entries=>w_ entries+1
 | .held _=>1
def kv{H:Type}:List (DataW H)→Nat
 |[]=>0
 |d::r=>dB d+kv r
def w_{H:Type}:List (Lit×DataW H)→Nat
 |[]=>0
 |x::r=>HR x+w_ r
def HR{H:Type}:Lit×DataW H→Nat
 |(.string bytes,d)=>bytes.length+dB d+1
 |(_,d)=>dB d+1
end
theorem HS{H:Type}{α:Type}{cells:α→List I}:∀(xs:List α)(a:List (DataW H)),xs.length=a.length→(∀(i:Nat)(x:α)(d:DataW H),xs[i]?=some x→a[i]?=some d→dz (cells x)≤dB d)→dz (xs.flatMap cells)≤kv a
 |[],a,_,_=>by simp[dz]
 |x::r,[],h,_=>by simp at h
 | x::r,d::a,h,k=>by have c:=k 0 x d rfl rfl;have f:=HS r a (by simpa using h) λi y e b he=>k (i+1) y e (by simpa using b) (by simpa using he);rw[Zi,lM,kv];omega
section
variable{H:Type}{enc:TypeId×Value→H}{P:Program}{w:World}{sp:Nat→Bool}{held:Bool}{F:dk}
def bL(F:dk)(enc:TypeId×Value→H)(P:Program)(w:World)(sp:Nat→Bool)(held:Bool)(n:Nat)(t:TypeId){α:Type}(cells:α→List I)(a:α→Prop):Prop:=∀fuel,fuel≤n→∀cs d ps,Zj enc P w 0 sp held fuel t cs=some (d,ps)→(∀m∈d.weights P t,m≤reachBytes)→∃x,a x∧bo F w (b4.mt (ku w)) (cells x) cs.toArray∧dz (cells x)≤dB d
theorem bL.mono{cells:α→List I}{ok:α→Prop}(h:bL F enc P w sp held n t cells ok)(a:m≤n):bL F enc P w sp held m t cells ok:=λfuel hf cs d ps ht hw=>h fuel (At hf a) cs d ps ht hw
theorem bL.zero{cells:α→List I}{ok:α→Prop}:bL F enc P w sp held 0 t cells ok:=by
 intro fuel hf cs d ps h _;obtain rfl:fuel=0:=by omega
 simp[Zj]at h
theorem bL.int{k:IntKind}(ht:P.underlying t=some (.int k)):bL F enc P w sp held n t (λz:Int=>[.int k z]) (λz=>k.min≤z∧z≤k.max):=by intro fuel _ cs d ps h _;obtain⟨z,rfl,a,hw⟩:=DataW.trod_int ht h;obtain rfl:d=_:=congrArg Zk a;exact⟨z,by simpa[Lit.wf]using hw,bo.one (.int _ _),by simp[dz,i_,dB]⟩
theorem bL.bool(ht:P.underlying t=some .bool):bL F enc P w sp held n t (λz:Bool=>[.bool z]) (λ_=>True):=by intro fuel _ cs d ps h _;obtain⟨z,rfl,a⟩:=DataW.trod_bool ht h;obtain rfl:d=_:=congrArg Zk a;exact⟨z,trivial,bo.one (.bool _),by simp[dz,i_,dB]⟩
theorem bL.string(ht:P.underlying t=some .string):bL F enc P w sp held n t (λz:List UInt8=>[.str z]) (λz=>z.length≤140737488351232):=by intro fuel _ cs d ps h hw;obtain⟨s,rfl,a,hl⟩:=DataW.trod_string ht h;obtain rfl:d=_:=congrArg Zk a;exact⟨s.data.toList,hw _ (by simp[Zl]),bo.one (PX s),by simp[dz,i_,dB]⟩
theorem HT{H:Type}{P:Program}{e:TypeId}:∀{b:List (DataW H)}{j:Nat}{d:DataW H},b[j]?=some d→∀n∈d.weights P e,n∈Zm P e b
 | d0::b,0,d,a,n,c=>by simp only[Zn,Wy.injEq]at a;subst a;simp only[Zm,YB];exact .inl c
 | d0::b,j+1,d,a,n,c=>by simp only[Zo]at a;simp only[Zm,YB];exact .inr (HT a n c)
def aD{α:Type}(cells:α→List I)(xs:List α):I:= .av .dead xs.length (xs.flatMap cells)
theorem PZ{p:Nat→α→Prop}:∀(n:Nat),(∀i,i<n→∃x,p i x)→∃xs:List α,xs.length=n∧∀i x,xs[i]?=some x→p i x:=by
 intro n;induction n with
 |zero=>intro _;exact⟨[],rfl,λi x h=>by simp at h⟩
 | succ n a=>
  intro h;obtain⟨xs,hl,b⟩:=a λi hi=>h i (by omega);obtain⟨y,c⟩:=h n (by omega);refine⟨xs++[y],by simp[hl],λi x hi=>?_⟩;by_cases d:i<n
  · rw[XZ (by omega)]at hi;exact b i x hi
  · rw [X0 (by omega)]at hi;have:i-xs.length=0:=by
     rcases Zp (i-xs.length)with h|h
     ·exact h
     ·rw[List.getElem?_eq_none (by simp;omega)]at hi;cases hi
    rw[this]at hi;simp at hi;subst hi;have:i=n:=by omega
    rw[this];exact c
theorem P0{cells:α→List I}(hc:∀x,(cells x).length=sz):∀(xs:List α)(j:Nat)(c:I),(xs.flatMap cells)[j]?=some c→∃i k x,j=i*sz+k∧k<sz∧xs[i]?=some x∧(cells x)[k]?=some c:=by
 intro xs;induction xs with
 |nil=>intro j c h;simp at h
 | cons y g b=>
  intro j c h;rw[Zi]at h;by_cases a:j<sz
  · rw[XZ (by rw[hc];exact a)]at h;exact⟨0,j,y,by omega,a,rfl,h⟩
  · rw[X0 (by rw[hc];omega),hc]at h;obtain⟨i,k,x,l,d,e,f⟩:=b _ _ h;refine⟨i+1,k,x,?_,d,by simpa using e,f⟩;rw[WT];omega
theorem HU{b o m:Nat}:(Addr.mk b o none).add m=⟨b,o+m,none⟩:=by
 unfold Zq;split
 ·rename_i h;subst h;rfl
 ·rfl
theorem bL.slice{t e:TypeId}{cells:α→List I}{v:α→Prop}(ht:P.underlying t=some (.slice e))(hs:P.cellsOf e=sz)(E:0<sz)(hc:∀x,(cells x).length=sz)(h:bL F enc P w sp held n e cells v) :
  bL F enc P w sp held (n+1) t (λxs:List α=>[aD cells xs]) (λxs=>xs.length≤maxLen∧∀x∈xs,v x):=by
 intro fuel hf cs d ps G H;rcases DataW.trod_slice ht G with⟨rfl,u⟩|⟨a,len,cap,elems,rest,m,rfl,rfl,u,_,hle,S,T,J,_⟩
 · obtain rfl:d=_:=congrArg Zk u;exact⟨[],⟨WS _,by simp⟩,bo.one (.fB _ _),by simp[aD,dz,i_,dB]⟩
 · have each : ∀i,i<len→∃x,(v x∧∀p,(elems.map (·.1))[i]?=some p→dz (cells x)≤dB p)∧∃ci,w.cells? 0 (a.add (i*sz)) sz=some ci∧bo F w (b4.mt (ku w)) (cells x) ci.toArray:=by
     intro i hi;have g:=J i hi;rw[Xc (by omega),hs]at g;obtain⟨ci,l,y⟩:=Option.bind_eq_some_iff.1 g;obtain ⟨x,r,hv,K⟩:=h m (by omega) ci _ _ y (λq L=>H q (by obtain rfl:d=_:=congrArg Zk u;simp only[Zl,ht];refine List.mem_cons_of_mem _ (List.mem_append_left _ ?_);exact HT (j:=i) (by rw[Xb,Xc (by omega)];rfl) q L))
     exact ⟨x,⟨r,λp z=>by rw[Xb,Xc (by omega)]at z;simp only[Wz,Wy.injEq]at z;rw[←z];exact K⟩,ci,l,hv⟩
   obtain⟨xs,hl,r⟩:=PZ len each;have M:dz [aD cells xs]≤dB d:=by obtain rfl:d=_:=congrArg Zk u;have:=HS xs (elems.map (·.1)) (by simp;omega) λi x p g l=>(r i x g).1.2 p l;simp only[aD,dz,i_,dB];omega
   refine⟨xs,⟨by omega,λx N=>?_⟩,bo.one ?_,M⟩
   · obtain⟨i,hi,e⟩:=List.mem_iff_getElem.1 N;exact(r i x (by rw[Xc hi,e])).1.1
   · rcases Zp len with A|A
     · subst A;obtain rfl:=List.length_eq_zero_iff.1 hl;exact .fB _ _
     ·
       have C:a.spot=none:=by
        obtain⟨x,_,ci,l,_⟩:=each 0 A;obtain⟨_,y,B⟩:=Zr l;have f:=B 0 E;rw[Xc (by omega),Zs]at f;have e0:(a.add 0).add 0=a:=by simp[Zq]
        rw[e0]at f;unfold World.cell? at f;split at f
        · split at f
          ·cases f
          · rename_i D;cases O:a.spot with
            |none=>rfl
            |some _=>rw[O]at D;simp at D
        ·cases f
       obtain⟨b,o,U⟩:=a;simp only at C;subst C;have key:∀(j:Nat)(c:I),(xs.flatMap cells)[j]?=some c→∃V,w.cell? ⟨b,o+j,none⟩=some V∧VR F w (b4.mt (ku w)) c V:=by intro j c s;obtain⟨i,k,x,rfl,hk,Q,R⟩:=P0 hc xs j c s;obtain⟨_,ci,l,hv⟩:=r i x Q;obtain⟨_,y,B⟩:=Zr l;have f:=B k hk;rw[HU,HU,Xc (by omega)]at f;refine⟨ci[k],by rw[←WD];exact f,hv.2 k c _ R (by simp[Xc (show k<ci.length by omega)])⟩
       unfold aD;rw[hl];refine .av .dead len _ b o cap (λj=>(w.cell? ⟨b,o+j,none⟩).getD undef) trivial hle (λj c s=>?_) λj c s=>?_
       · obtain⟨V,g,_⟩:=key j c s;exact⟨⟨V,g⟩,by rw[g];rfl⟩
       · obtain⟨V,g,l⟩:=key j c s;rw[g];exact l
def jY(P:Program):Nat→List (TypeId×Nat)→Bool
 |_,[]=>true
 |off,(t,o)::r=>o==off&&jY P (off+P.cellsOf t) r
def iM(P:Program):List (TypeId×Nat)→Nat
 |[]=>0
 |(t,_)::r=>P.cellsOf t+iM P r
def dj(F:dk)(enc:TypeId×Value→H)(P:Program)(w:World)(sp:Nat→Bool)(held:Bool)(n:Nat)(L:List (TypeId×Nat)){α:Type}(cells:α→List I)(a:α→Prop):Prop:=
 ∀ m,m≤n→∀(off:Nat)(cs:List Value)(ds:List (DataW H)),jY P off L=true→ds.length=L.length→(∀(i:Nat)(f:TypeId×Nat)(d:DataW H),L[i]?=some f→ds[i]?=some d→(∃ps,Zj enc P w 0 sp held m f.1 ((cs.drop f.2).take (P.cellsOf f.1))=some (d,ps))∧∀q∈d.weights P f.1,q≤reachBytes) →
  ∃x,a x∧bo F w (b4.mt (ku w)) (cells x) ((cs.drop off).take (iM P L)).toArray∧dz (cells x)≤kv ds
theorem dj.nil:dj F enc P w sp held n [] (λ_:Unit=>[]) (λ_=>True):=by intro m _ off cs ds _ _ _;exact⟨(),trivial,by simp only[iM,List.take_zero];exact bo.nil,WS _⟩
theorem dj.cons{o:Nat}{L:List (TypeId×Nat)}{c1:α→List I}{b:β→List I}{o1:α→Prop}{o2:β→Prop}(c:bL F enc P w sp held n t c1 o1)(g:dj F enc P w sp held n L b o2) :
  dj F enc P w sp held n ((t,o)::L) (λx:α×β=>c1 x.1++b x.2) (λx=>o1 x.1∧o2 x.2):=by
 intro m hm off cs ds a hlen hf;simp only[jY,Bool.and_eq_true,b9]at a;obtain⟨rfl,a⟩:=a
 match ds,hlen with
 |d::r,hlen=>
 obtain⟨⟨ps,h⟩,j⟩:=hf 0 (t,o) d rfl rfl;obtain⟨x,k,hv,q⟩:=c m hm _ _ _ h j;obtain⟨y,l,p,s⟩:=g m hm _ cs r a (by simpa using hlen) λi f e hi he=>hf (i+1) f e (by simpa using hi) (by simpa using he);refine⟨(x,y),⟨k,l⟩,?_,by simp only[lM,kv];omega⟩;have e:((cs.drop o).take (iM P ((t,o)::L)))=(cs.drop o).take (P.cellsOf t)++(cs.drop (o+P.cellsOf t)).take (iM P L):=by simp only[iM];rw[List.take_add,Zt]
 rw[e];have:=hv.app p;simpa using this
theorem bL.struct{n:Nat}{fs:Array Field}(ht:P.underlying t=some (.struct fs)){L:List (TypeId×Nat)}(a:fs.toList.map (λf=>(f.type,f.offset))=L)(o:jY P 0 L=true)(p:P.cellsOf t=iM P L)
  {α:Type} {cells:α→List I} {ok:α→Prop} (h:dj F enc P w sp held n L cells ok):bL F enc P w sp held (n+1) t cells ok:=by
 intro fuel hf cs d ps r s;obtain⟨xs,m,rfl,b,hlen,u,v⟩:=DataW.trod_struct ht r;obtain ⟨x,y,hv,B⟩:=h m (by omega) 0 cs (xs.map (·.1)) o (by rw[←a];simp[u]) λi f C hf c=>by rw[←a,Xb]at hf;obtain⟨g,e,rfl⟩:=Zu.1 hf;rw[Xb]at c;obtain⟨z,k,rfl⟩:=Zu.1 c;have l:=v i g (by rw[←Array.getElem?_toList];exact e);rw[k]at l;refine⟨⟨z.2,l⟩,λq A=>s q ?_⟩;obtain rfl:d=_:=congrArg Zk b;simp only[Zl,ht];exact DataW.weights_mem_each (j:=i) (t:=g.type) (by rw[Xb,e];rfl) (by rw[Xb,k];rfl) q A
 obtain rfl:d=_:=congrArg Zk b;refine⟨x,y,?_,by simp only[dB];omega⟩;rw[Zv,←p,←hlen,Zw]at hv;exact hv
theorem bL.map{c1:α→List I}{a:β→List I}{o1:α→Prop}{o2:β→Prop}(g:α→β)(hc:∀x,a (g x)=c1 x)(b:∀x,o1 x→o2 (g x))(h:bL F enc P w sp held n t c1 o1):bL F enc P w sp held n t a o2:=by intro fuel hf cs d ps c hw;obtain⟨x,e,hv,f⟩:=h fuel hf cs d ps c hw;exact⟨g x,b x e,by rw[hc];exact hv,by rw[hc];exact f⟩
theorem bL.HV{cells:α→List I}{a:α→Prop}(h:∀n,bL F enc P w sp held n t cells a){d:DataW H}(b:Zx enc P w 0 sp held t v d ps)(c:∀m∈d.weights P t,m≤reachBytes):∃x,a x∧bo F w (b4.mt (ku w)) (cells x) v.cells∧dz (cells x)≤dB d:=by obtain⟨fuel,hf⟩:=b;obtain⟨x,e,hv,f⟩:=h fuel fuel (hT _) _ _ _ hf c;exact⟨x,e,by simpa using hv,f⟩
theorem bL.arg{cells:α→List I}{a:α→Prop}(h:∀n,bL F enc P w sp held n t cells a){d:DataW H}(b:Zx enc P w 0 sp held t v d ps)(c:∀m∈d.weights P t,m≤reachBytes):∃x,a x∧bo F w (b4.mt (ku w)) (cells x) v.cells:=let ⟨x,e,hv,_⟩:=bL.HV h b c;⟨x,e,hv⟩
end
end Rb

namespace Rb
open Go
mutual
structure aC where
 kind:Int
 size:Int
 packed:Bool
 aI:List aT
 bZ:Int
 bf:List aC
structure aT where
 name:List UInt8
 type:aC
 bits:Bool
 bn:Int
end
mutual
def aC.cells:aC→List I
 | .mk kind size packed aI bZ bf=>[.int .i64 kind,.int .i64 size,.bool packed,.av .dead aI.length (aT.all aI),.int .i64 bZ,.av .dead bf.length (aC.all bf)]
def aC.all:List aC→List I
 |[]=>[]
 |x::r=>aC.cells x++aC.all r
def aT.cells:aT→List I
 | .mk name type bits bn=> .str name::(aC.cells type++[.bool bits,.int .i64 bn])
def aT.all:List aT→List I
 |[]=>[]
 |x::r=>aT.cells x++aT.all r
end
theorem aC.all_eq:∀xs:List aC,aC.all xs=xs.flatMap aC.cells
 |[]=>rfl
 |x::r=>by rw[aC.all,aC.all_eq r,Zi]
theorem aT.all_eq:∀xs:List aT,aT.all xs=xs.flatMap aT.cells
 |[]=>rfl
 |x::r=>by rw[aT.all,aT.all_eq r,Zi]
theorem aC.be(x:aC):x.cells=[.int .i64 x.kind,.int .i64 x.size,.bool x.packed,aD aT.cells x.aI,.int .i64 x.bZ,aD aC.cells x.bf]:=by cases x;simp only[aC.cells,aC.all_eq,aT.all_eq,aD]
theorem aT.be(x:aT):x.cells = .str x.name::(x.type.cells++[.bool x.bits,.int .i64 x.bn]):=by cases x;rfl
theorem aC.len(x:aC):x.cells.length=6:=by rw[aC.be];rfl
theorem aT.len(x:aT):x.cells.length=9:=by rw[aT.be];simp[aC.len]
def jZ(z:Int):Prop:= -9223372036854775808≤z∧z≤9223372036854775807
mutual
def aC.ok:aC→Prop
 | .mk kind size packed aI bZ bf=>jZ kind∧jZ size∧aI.length≤maxLen∧aT.dZ aI∧jZ bZ∧bf.length≤maxLen∧aC.dZ bf
def aC.dZ:List aC→Prop
 |[]=>True
 |x::r=>aC.ok x∧aC.dZ r
def aT.ok:aT→Prop
 | .mk name type bits bn=>name.length≤140737488351232∧aC.ok type∧jZ bn
def aT.dZ:List aT→Prop
 |[]=>True
 |x::r=>aT.ok x∧aT.dZ r
end
theorem aC.ek:∀{xs:List aC},aC.dZ xs↔∀x∈xs,x.ok
 |[]=>by simp[aC.dZ]
 |x::r=>by simp[aC.dZ,aC.ek (xs:=r)]
theorem aT.ek:∀{xs:List aT},aT.dZ xs↔∀x∈xs,x.ok
 |[]=>by simp[aT.dZ]
 |x::r=>by simp[aT.dZ,aT.ek (xs:=r)]
section
variable{H:Type}{enc:TypeId×Value→H}{P:Program}{w:World}{sp:Nat→Bool}{held:Bool}{F:dk}
structure HW(P:Program)(ti tb ts tT tF sT sF:TypeId)(fT fF:Array Field):Prop where
 int:P.underlying ti=some (.int .i64)
 bool:P.underlying tb=some .bool
 str:P.underlying ts=some .string
 P1:P.underlying tT=some (.struct fT)
 P2:P.underlying tF=some (.struct fF)
 P3:P.underlying sT=some (.slice tT)
 P4:P.underlying sF=some (.slice tF)
 lT:fT.toList.map (λf=>(f.type,f.offset))=[(ti,0),(ti,1),(tb,2),(sF,3),(ti,4),(sT,5)]
 lF:fF.toList.map (λf=>(f.type,f.offset))=[(ts,0),(tT,1),(tb,7),(ti,8)]
 cT:P.cellsOf tT=6
 cF:P.cellsOf tF=9
 c1:∀t∈[ti,tb,ts,sT,sF],P.cellsOf t=1
theorem P5{ti tb ts tT tF sT sF:TypeId}{fT fF:Array Field}(h:HW P ti tb ts tT tF sT sF fT fF):∀n,bL F enc P w sp held n tT aC.cells aC.ok:=by
 have c1:P.cellsOf ti=1:=h.c1 _ (by simp);have b:P.cellsOf tb=1:=h.c1 _ (by simp);have c3:P.cellsOf ts=1:=h.c1 _ (by simp);have c:P.cellsOf sT=1:=h.c1 _ (by simp);have c5:P.cellsOf sF=1:=h.c1 _ (by simp);have int:∀n,bL F enc P w sp held n ti (λz:Int=>[.int .i64 z]) jZ:=λn=>bL.map id (λ_=>rfl) (λx a=>by simp only[Zy,Zz,Wu,Wv,aY]at a;show -9223372036854775808≤x∧x≤9223372036854775807;omega) (bL.int h.int)
 intro n;induction n using Nat.strongRecOn with
 | _ n d=>
  cases n with
  |zero=>exact bL.zero
  | succ n=>
   have e:bL F enc P w sp held n tT aC.cells aC.ok:=d n (by omega);have f:bL F enc P w sp held n tF aT.cells aT.ok:=by
    cases n with
    |zero=>exact bL.zero
    | succ n=>
     refine bL.map (λ(x:List UInt8×aC×Bool×Int×Unit)=>(⟨x.1,x.2.1,x.2.2.1,x.2.2.2.1⟩:aT)) (λx=>?_) (λx a=>?_)
      (bL.struct h.P2 h.lF (by simp[jY,c1,b,c3,h.cT]) (by simp[iM,c1,b,c3,h.cT,h.cF])
        (dj.cons (bL.string h.str) (dj.cons (d n (by omega)) (dj.cons (bL.bool h.bool) (dj.cons (int n) dj.nil)))))
     ·simp[aT.cells]
     ·exact⟨a.1,a.2.1,a.2.2.2.1⟩
   refine bL.map (λ(x:Int×Int×Bool×List aT×Int×List aC×Unit)=>(⟨x.1,x.2.1,x.2.2.1,x.2.2.2.1,x.2.2.2.2.1,x.2.2.2.2.2.1⟩:aC)) (λx=>?_) (λx a=>?_)
    (bL.struct h.P1 h.lT (by simp[jY,c1,b,c,c5]) (by simp[iM,c1,b,c,c5,h.cT])
      (dj.cons (int n) (dj.cons (int n) (dj.cons (bL.bool h.bool) (dj.cons (bL.mono (bL.slice h.P4 h.cF (by decide) aT.len f) (W4 n)) (dj.cons (int n) (dj.cons (bL.mono (bL.slice h.P3 h.cT (by decide) aC.len e) (W4 n)) dj.nil)))))))
   ·rw[aC.be];rfl
   · obtain⟨g,i,_,⟨j,k⟩,l,⟨m,o⟩,_⟩:=a;exact⟨g,i,j,aT.ek.2 k,l,m,aC.ek.2 o⟩
end
end Rb

namespace Rb
open Go
variable{ti:TypeId}{n:Nat}
mutual
structure aA where
 kind:Int
 n:Int
 name:List UInt8
 op:Int
 aG:Int
 place:aW
 a_:List aA
structure aW where
 var:List UInt8
 aK:List aX
structure aX where
 field:List UInt8
 aZ:List aA
end
mutual
def aA.cells:aA→List I
 | .mk kind n name op aG place a_=> .int .i64 kind :: .int .u64 n :: .str name :: .int .i64 op :: .int .i64 aG::(aW.cells place++[.av .dead a_.length (aA.all a_)])
def aA.all:List aA→List I
 |[]=>[]
 |x::r=>aA.cells x++aA.all r
def aW.cells:aW→List I
 | .mk var aK=>[.str var,.av .dead aK.length (aX.all aK)]
def aX.cells:aX→List I
 | .mk field aZ=>[.str field,.av .dead aZ.length (aA.all aZ)]
def aX.all:List aX→List I
 |[]=>[]
 |x::r=>aX.cells x++aX.all r
end
theorem aA.all_eq:∀xs:List aA,aA.all xs=xs.flatMap aA.cells
 |[]=>rfl
 |x::r=>by rw[aA.all,aA.all_eq r,Zi]
theorem aX.all_eq:∀xs:List aX,aX.all xs=xs.flatMap aX.cells
 |[]=>rfl
 |x::r=>by rw[aX.all,aX.all_eq r,Zi]
theorem aW.be(x:aW):x.cells=[.str x.var,aD aX.cells x.aK]:=by cases x;simp only[aW.cells,aX.all_eq,aD]
theorem aX.be(x:aX):x.cells=[.str x.field,aD aA.cells x.aZ]:=by cases x;simp only[aX.cells,aA.all_eq,aD]
theorem aA.be(x:aA):x.cells = .int .i64 x.kind :: .int .u64 x.n :: .str x.name :: .int .i64 x.op :: .int .i64 x.aG::(x.place.cells++[aD aA.cells x.a_]):=by cases x;simp only[aA.cells,aA.all_eq,aD]
theorem aW.len(x:aW):x.cells.length=2:=by rw[aW.be];rfl
theorem aX.len(x:aX):x.cells.length=2:=by rw[aX.be];rfl
theorem aA.len(x:aA):x.cells.length=8:=by rw[aA.be];simp[aW.len]
def bx(z:Int):Prop:=0≤z∧z≤18446744073709551615
mutual
def aA.ok:aA→Prop
 | .mk kind n name op aG place a_=>jZ kind∧bx n∧name.length≤140737488351232∧jZ op∧jZ aG∧aW.ok place∧a_.length≤maxLen∧aA.dZ a_
def aA.dZ:List aA→Prop
 |[]=>True
 |x::r=>aA.ok x∧aA.dZ r
def aW.ok:aW→Prop
 | .mk var aK=>var.length≤140737488351232∧aK.length≤maxLen∧aX.dZ aK
def aX.ok:aX→Prop
 | .mk field aZ=>field.length≤140737488351232∧aZ.length≤maxLen∧aA.dZ aZ
def aX.dZ:List aX→Prop
 |[]=>True
 |x::r=>aX.ok x∧aX.dZ r
end
theorem aA.ek:∀{xs:List aA},aA.dZ xs↔∀x∈xs,x.ok
 |[]=>by simp[aA.dZ]
 |x::r=>by simp[aA.dZ,aA.ek (xs:=r)]
theorem aX.ek:∀{xs:List aX},aX.dZ xs↔∀x∈xs,x.ok
 |[]=>by simp[aX.dZ]
 |x::r=>by simp[aX.dZ,aX.ek (xs:=r)]
structure aE where
 name:List UInt8
 type:aC
def aE.cells(x:aE):List I:= .str x.name::x.type.cells
theorem aE.len(x:aE):x.cells.length=7:=by simp[aE.cells,aC.len]
def aE.ok(x:aE):Prop:=x.name.length≤140737488351232∧x.type.ok
section
variable{H:Type}{enc:TypeId×Value→H}{P:Program}{w:World}{sp:Nat→Bool}{held:Bool}{F:dk}
theorem bL.i64(h:P.underlying ti=some (.int .i64)):bL F enc P w sp held n ti (λz:Int=>[.int .i64 z]) jZ:=bL.map id (λ_=>rfl) (λx a=>by simp only[Zy,Zz,Wu,Wv,aY]at a;show -9223372036854775808≤x∧x≤9223372036854775807;omega) (bL.int h)
theorem bL.u64(h:P.underlying ti=some (.int .u64)):bL F enc P w sp held n ti (λz:Int=>[.int .u64 z]) bx:=bL.map id (λ_=>rfl) (λx a=>by simp[Zy,Zz,Wu,Wv]at a;show 0≤x∧x≤18446744073709551615;omega) (bL.int h)
structure AO(P:Program)(ti tu ts tE tL tR sE sR:TypeId)(fE fL fR:Array Field):Prop where
 int:P.underlying ti=some (.int .i64)
 u64:P.underlying tu=some (.int .u64)
 str:P.underlying ts=some .string
 exp:P.underlying tE=some (.struct fE)
 P6:P.underlying tL=some (.struct fL)
 par:P.underlying tR=some (.struct fR)
 HX:P.underlying sE=some (.slice tE)
 P7:P.underlying sR=some (.slice tR)
 lE:fE.toList.map (λf=>(f.type,f.offset))=[(ti,0),(tu,1),(ts,2),(ti,3),(ti,4),(tL,5),(sE,7)]
 lL:fL.toList.map (λf=>(f.type,f.offset))=[(ts,0),(sR,1)]
 lR:fR.toList.map (λf=>(f.type,f.offset))=[(ts,0),(sE,1)]
 cE:P.cellsOf tE=8
 cL:P.cellsOf tL=2
 cR:P.cellsOf tR=2
 c1:∀t∈[ti,tu,ts,sE,sR],P.cellsOf t=1
theorem HY{ti tu ts tE tL tR sE sR:TypeId}{fE fL fR:Array Field}(h:AO P ti tu ts tE tL tR sE sR fE fL fR) :
  ∀n,bL F enc P w sp held n tE aA.cells aA.ok∧bL F enc P w sp held n tL aW.cells aW.ok∧bL F enc P w sp held n tR aX.cells aX.ok:=by
 have c1:P.cellsOf ti=1:=h.c1 _ (by simp);have f:P.cellsOf tu=1:=h.c1 _ (by simp);have c3:P.cellsOf ts=1:=h.c1 _ (by simp);have e:P.cellsOf sE=1:=h.c1 _ (by simp);have c5:P.cellsOf sR=1:=h.c1 _ (by simp);intro n;induction n with
 |zero=>exact⟨bL.zero,bL.zero,bL.zero⟩
 | succ n i=>
  obtain⟨j,k,l⟩:=i;have g:=bL.mono (bL.slice h.HX h.cE (by decide) aA.len j) (W4 n);have m:=bL.mono (bL.slice h.P7 h.cR (by decide) aX.len l) (W4 n);refine⟨?_,?_,?_⟩
  · refine bL.map (λ(x:Int×Int×List UInt8×Int×Int×aW×List aA×Unit)=>(⟨x.1,x.2.1,x.2.2.1,x.2.2.2.1,x.2.2.2.2.1,x.2.2.2.2.2.1,x.2.2.2.2.2.2.1⟩:aA)) (λx=>?_) (λx a=>?_)
      (bL.struct h.exp h.lE (by simp[jY,c1,f,c3,e,h.cL]) (by simp[iM,c1,f,c3,e,h.cL,h.cE])
        (dj.cons (bL.i64 h.int) (dj.cons (bL.u64 h.u64) (dj.cons (bL.string h.str) (dj.cons (bL.i64 h.int) (dj.cons (bL.i64 h.int) (dj.cons k (dj.cons g dj.nil))))))))
    ·rw[aA.be];simp
    · obtain⟨b,c,d,o,p,q,⟨r,s⟩,_⟩:=a;exact⟨b,c,d,o,p,q,r,aA.ek.2 s⟩
  · refine bL.map (λ(x:List UInt8×List aX×Unit)=>(⟨x.1,x.2.1⟩:aW)) (λx=>?_) (λx a=>?_)
      (bL.struct h.P6 h.lL (by simp[jY,c3,c5]) (by simp[iM,c3,c5,h.cL]) (dj.cons (bL.string h.str) (dj.cons m dj.nil)))
    ·rw[aW.be];rfl
    · obtain⟨b,⟨c,d⟩,_⟩:=a;exact⟨b,c,aX.ek.2 d⟩
  · refine bL.map (λ(x:List UInt8×List aA×Unit)=>(⟨x.1,x.2.1⟩:aX)) (λx=>?_) (λx a=>?_)
      (bL.struct h.par h.lR (by simp[jY,c3,e]) (by simp[iM,c3,e,h.cR]) (dj.cons (bL.string h.str) (dj.cons g dj.nil)))
    ·rw[aX.be];rfl
    · obtain⟨b,⟨c,d⟩,_⟩:=a;exact⟨b,c,aA.ek.2 d⟩
end
end Rb

namespace Rb
open Go
structure ay where
 kind:Int
 V:Int
 name:List UInt8
 bQ:List UInt8
 aG:Int
 place:aW
 aF:List aA
 aP:List ay
 bq:List ay
mutual
def ay.cells:ay→List I
 | .mk kind V name bQ aG place aF aP bq=> .int .i64 kind :: .int .i64 V :: .str name :: .str bQ :: .int .i64 aG::(aW.cells place++[aD aA.cells aF,.av .dead aP.length (ay.all aP),.av .dead bq.length (ay.all bq)])
def ay.all:List ay→List I
 |[]=>[]
 |x::r=>ay.cells x++ay.all r
end
theorem ay.all_eq:∀xs:List ay,ay.all xs=xs.flatMap ay.cells
 |[]=>rfl
 |x::r=>by rw[ay.all,ay.all_eq r,Zi]
theorem ay.be(x:ay):x.cells = .int .i64 x.kind :: .int .i64 x.V :: .str x.name :: .str x.bQ :: .int .i64 x.aG::(x.place.cells++[aD aA.cells x.aF,aD ay.cells x.aP,aD ay.cells x.bq]):=by cases x;simp only[ay.cells,ay.all_eq,aD]
theorem ay.len(x:ay):x.cells.length=10:=by rw[ay.be];simp[aW.len]
mutual
def ay.ok:ay→Prop
 | .mk kind V name bQ aG place aF aP bq=>jZ kind∧jZ V∧name.length≤140737488351232∧bQ.length≤140737488351232∧jZ aG∧aW.ok place∧aF.length≤maxLen∧aA.dZ aF∧aP.length≤maxLen∧ay.dZ aP∧bq.length≤maxLen∧ay.dZ bq
def ay.dZ:List ay→Prop
 |[]=>True
 |x::r=>ay.ok x∧ay.dZ r
end
theorem ay.ek:∀{xs:List ay},ay.dZ xs↔∀x∈xs,x.ok
 |[]=>by simp[ay.dZ]
 |x::r=>by simp[ay.dZ,ay.ek (xs:=r)]
structure eA where
 B:List aE
 cG:List (List ay)
def gK(l:List ay):List I:=[aD ay.cells l]
def eA.cells(x:eA):List I:=[aD aE.cells x.B,aD gK x.cG]
def eA.ok(x:eA):Prop:=(x.B.length≤maxLen∧∀v∈x.B,v.ok)∧x.cG.length≤maxLen∧∀t∈x.cG,t.length≤maxLen∧∀s∈t,s.ok
section
variable{H:Type}{enc:TypeId×Value→H}{P:Program}{w:World}{sp:Nat→Bool}{held:Bool}{F:dk}
theorem P8{ts tT a:TypeId}{b:Array Field}(hs:P.underlying ts=some .string)(c:P.cellsOf ts=1)(cT:P.cellsOf tT=6)(W:∀n,bL F enc P w sp held n tT aC.cells aC.ok)
  (e:P.underlying a=some (.struct b)) (g:b.toList.map (λf=>(f.type,f.offset))=[(ts,0),(tT,1)]) (h:P.cellsOf a=7):∀n,bL F enc P w sp held n a aE.cells aE.ok:=by
 intro n;refine bL.mono (n:=n+1) ?_ (W4 n);refine bL.map (λ(x:List UInt8×aC×Unit)=>(⟨x.1,x.2.1⟩:aE)) (λx=>?_) (λx d=>?_)
  (bL.struct e g (by simp[jY,c]) (by simp[iM,c,cT,h]) (dj.cons (bL.string hs) (dj.cons (W n) dj.nil)))
 ·simp[aE.cells]
 ·exact⟨d.1,d.2.1⟩
theorem P9{ti tu ts tE tL tR sE sR a b:TypeId}{fE fL fR c:Array Field}(h:AO P ti tu ts tE tL tR sE sR fE fL fR)(j:P.underlying a=some (.struct c))(k:P.underlying b=some (.slice a))
  (l:c.toList.map (λf=>(f.type,f.offset))=[(ti,0),(ti,1),(ts,2),(ts,3),(ti,4),(tL,5),(sE,7),(b,8),(b,9)]) (d:P.cellsOf a=10) (e:P.cellsOf b=1) :
  ∀n,bL F enc P w sp held n a ay.cells ay.ok:=by
 have c1:P.cellsOf ti=1:=h.c1 _ (by simp);have c3:P.cellsOf ts=1:=h.c1 _ (by simp);have g:P.cellsOf sE=1:=h.c1 _ (by simp);intro n;induction n with
 |zero=>exact bL.zero
 | succ n m=>
  have o:=bL.mono (bL.slice h.HX h.cE (by decide) aA.len (HY (F:=F) (enc:=enc) (w:=w) (sp:=sp) (held:=held) h n).1) (W4 n);have i:=bL.mono (bL.slice k d (by decide) ay.len m) (W4 n);refine bL.map (λ(x:Int×Int×List UInt8×List UInt8×Int×aW×List aA×List ay×List ay×Unit)=>(⟨x.1,x.2.1,x.2.2.1,x.2.2.2.1,x.2.2.2.2.1,x.2.2.2.2.2.1,x.2.2.2.2.2.2.1,x.2.2.2.2.2.2.2.1,x.2.2.2.2.2.2.2.2.1⟩:ay)) (λx=>?_) (λx p=>?_)
   (bL.struct j l (by simp[jY,c1,c3,g,e,h.cL]) (by simp[iM,c1,c3,g,e,h.cL,d])
     (dj.cons (bL.i64 h.int) (dj.cons (bL.i64 h.int) (dj.cons (bL.string h.str) (dj.cons (bL.string h.str) (dj.cons (bL.i64 h.int) (dj.cons (HY h n).2.1 (dj.cons o (dj.cons i (dj.cons i dj.nil))))))))))
  ·rw[ay.be];simp
  · obtain⟨q,r,s,t,u,v,⟨y,z⟩,⟨A,B⟩,⟨C,D⟩,_⟩:=p;exact⟨q,r,s,t,u,v,y,aA.ek.2 z,A,ay.ek.2 B,C,ay.ek.2 D⟩
theorem P_{d a e b c g:TypeId}{h:Array Field}(k:∀n,bL F enc P w sp held n d aE.cells aE.ok)(l:∀n,bL F enc P w sp held n e ay.cells ay.ok)
  (m:P.underlying a=some (.slice d)) (o:P.underlying b=some (.slice e)) (p:P.underlying c=some (.slice b)) (q:P.cellsOf d=7) (r:P.cellsOf e=10) (s:P.cellsOf b=1) (i:P.cellsOf a=1) (t:P.cellsOf c=1)
  (u:P.underlying g=some (.struct h)) (v:h.toList.map (λf=>(f.type,f.offset))=[(a,0),(c,1)]) (z:P.cellsOf g=2):∀n,bL F enc P w sp held n g eA.cells eA.ok:=by
 intro n;refine bL.mono (n:=n+2+1) ?_ (by omega);have A:bL F enc P w sp held (n+2) a (λxs:List aE=>[aD aE.cells xs]) (λxs=>xs.length≤maxLen∧∀x∈xs,x.ok):=bL.slice m q (by decide) aE.len (k (n+1));have B:bL F enc P w sp held (n+1) b gK (λxs=>xs.length≤maxLen∧∀x∈xs,x.ok):=bL.slice o r (by decide) ay.len (l n);have C:bL F enc P w sp held (n+2) c (λxs:List (List ay)=>[aD gK xs]) (λxs=>xs.length≤maxLen∧∀x∈xs,x.length≤maxLen∧∀y∈x,y.ok):=bL.slice p s (by decide) (λ_=>rfl) B;refine bL.map (λ(x:List aE×List (List ay)×Unit)=>(⟨x.1,x.2.1⟩:eA)) (λx=>?_) (λx j=>?_)
  (bL.struct u v (by simp[jY,i]) (by simp[iM,i,t,z]) (dj.cons A (dj.cons C dj.nil)))
 ·simp[eA.cells]
 ·exact⟨j.1,j.2.1⟩
end
end Rb

namespace Rb
open Go
@[simp] theorem G {α:Type} (a:α) (K:α→Prop):Do (some a) K↔K a:=⟨λ⟨b,h,k⟩=>by cases h;exact k,λh=>⟨a,rfl,h⟩⟩
@[simp] theorem aV (v:I) (H:Z) (K:ad):aJ (some (v,H)) K↔K v H:=⟨λ⟨a,b,h,k⟩=>by cases h;exact k,λh=>⟨v,H,rfl,h⟩⟩
@[simp] theorem ai (b:Bool) (A B:Prop):L (.bool b) true A B↔if b=true then A else B:=ZA
@[simp] theorem V9 (b:Bool) (A B:Prop):L (.bool b) false A B↔if b=false then A else B:=ZA
@[simp] theorem aB (K:List I→Z→Prop) (st:List I) (H:Z):U K st H↔K st H:=ZA
@[simp] theorem aq (a:I) (l:List I):sl (a::l) 0=a:=rfl
@[simp] theorem bh (a:I) (l:List I) (i:Nat):sl (a::l) (i+1)=sl l i:=rfl
section
variable(k:IntKind)(a b:Int)
@[simp] theorem bu:N .add (.int k a) (.int k b)=some (.int k (k.wrap (a+b))):=by simp[N,gO]
@[simp] theorem dA:N .sub (.int k a) (.int k b)=some (.int k (k.wrap (a-b))):=by simp[N,gO]
@[simp] theorem fD:N .mul (.int k a) (.int k b)=some (.int k (k.wrap (a*b))):=by simp[N,gO]
@[simp] theorem bc:N .eql (.int k a) (.int k b)=some (.bool (a==b)):=by simp[N,gO]
@[simp] theorem cU:N .neq (.int k a) (.int k b)=some (.bool (a != b)):=by simp[N,gO]
@[simp] theorem bb:N .lss (.int k a) (.int k b)=some (.bool (decide (a<b))):=by simp[N,gO]
@[simp] theorem gR:N .leq (.int k a) (.int k b)=some (.bool (decide (a≤b))):=by simp[N,gO]
@[simp] theorem dv:N .gtr (.int k a) (.int k b)=some (.bool (decide (a>b))):=by simp[N,gO]
@[simp] theorem eu:N .geq (.int k a) (.int k b)=some (.bool (decide (a≥b))):=by simp[N,gO]
theorem iN(h:b≠0):N .rem (.int k a) (.int k b)=some (.int k (a.tmod b)):=by simp[N,gO,h]
theorem jw(h:b≠0):N .quo (.int k a) (.int k b)=some (.int k (k.wrap (a.tdiv b))):=by simp[N,gO,h]
@[simp] theorem nH:N .and (.int k a) (.int k b)=some (.int k (k.wrap (KT k.bits a &&& KT k.bits b).toNat)):=by simp[N,gO,m3]
@[simp] theorem rv:N .or (.int k a) (.int k b)=some (.int k (k.wrap (KT k.bits a ||| KT k.bits b).toNat)):=by simp[N,gO,m3]
@[simp] theorem HZ:N .xor (.int k a) (.int k b)=some (.int k (k.wrap (KT k.bits a ^^^ KT k.bits b).toNat)):=by simp[N,gO,m3]
theorem ry(c:IntKind)(h:0≤b):N .shr (.int k a) (.int c b)=some (.int k (a.fdiv (2^(min b.toNat k.bits)))):=by simp[N,gO,ZB.2 h]
theorem lN(c:IntKind)(h:0≤b):N .shl (.int k a) (.int c b)=some (.int k (k.wrap (a*2^(min b.toNat k.bits)))):=by simp[N,gO,ZB.2 h]
@[simp] theorem j0 (b:IntKind):gP b (.int k a)=some (.int b (b.wrap a)):=rfl
@[simp] theorem Qa (neg:Bool) (x y:Bool):j9 neg (.bool x) (.bool y)=some (.bool (if neg then !(x==y)else x==y)):=rfl
@[simp] theorem cV (x:Bool):cM .not (.bool x)=some (.bool !x):=rfl
end
@[simp] theorem V_ (tk:Tok) (n:Nat) (cs:List I):bj false (.av tk n cs)=some (D n):=rfl
@[simp] theorem Qb (id o n sz:Nat):bj false (.row id o n sz)=some (D n):=rfl
@[simp] theorem ph (s:List UInt8):bj true (.str s)=some (D s.length):=rfl
end Rb

namespace Rb
open Go
variable{id i:Nat}{x:cN}{n:Int}{cs:List I}
def Z.Ext(H H':Z):Prop:=H.n≤H'.n∧∀i,i<H.n→H'.o i=H.o i
theorem Z.Ext.refl(H:Z):Z.Ext H H:=⟨hT _,λ_ _=>rfl⟩
theorem Z.Ext.trans{a b c:Z}(h:Z.Ext a b)(k:Z.Ext b c):Z.Ext a c:=⟨At h.1 k.1,λi hi=>(k.2 i (AH hi h.1)).trans (h.2 i hi)⟩
theorem Z.Ext.push(H:Z)(x:cN):Z.Ext H (H.push x):=⟨W4 _,λi hi=>ab (W5 hi)⟩
theorem Z.Ext.set{H H':Z}(h:Z.Ext H H')(hi:H.n≤i)(x:cN):Z.Ext H (H'.set i x):=⟨h.1,λj a=>by simp only[Z.set];rw[bF];exact h.2 j a⟩
@[simp] theorem Z.Wa (H:Z) (x:cN):(H.push x).n=H.n+1:=rfl
@[simp] theorem Z.Wb (H:Z) (i:Nat) (x:cN):(H.set i x).n=H.n:=rfl
theorem Z.pj(H:Z)(x:cN):(H.push x).o H.n=x:=aa rfl
theorem Z.Qc(H:Z)(x:cN)(h:i≠H.n):(H.push x).o i=H.o i:=ab h
theorem Z.Qd(H:Z)(i:Nat)(x:cN):(H.set i x).o i=x:=aa rfl
theorem Z.br(H:Z){i j:Nat}(x:cN)(h:j≠i):(H.set i x).o j=H.o j:=ab h
theorem wrap_i64(a : -9223372036854775808≤n)(b:n≤9223372036854775807):Xv .i64 n=n:=by simp[Xv,Wu,Wv];omega
theorem wrap_u64(a:0≤n)(b:n<18446744073709551616):Xv .u64 n=n:=by simp[Xv,Wu,Wv];omega
theorem wrap_u8(a:0≤n)(b:n<256):Xv .u8 n=n:=by simp[Xv,Wu,Wv];omega
def hJ(H0 H:Z)(sz:Nat)(x:I)(len:Nat)(cells:List I):Prop:=Z.Ext H0 H∧∃tk,x = .av tk len cells∧cells.length=len*sz∧((tk = .nil∧len=0)∨∃t,tk = .own t∧H0.n≤t∧t<H.n∧H.o t = .tok (len*sz) sz)
theorem hJ.nil(H:Z)(sz:Nat):hJ H H sz ar 0 []:=⟨Z.Ext.refl H,.nil,rfl,by simp,.inl ⟨rfl,rfl⟩⟩
theorem hJ.append{H0 H:Z}{sz b len m:Nat}{x y:I}{cells news:List I}{K:ad}(h:hJ H0 H sz x len cells)(c:hC H sz y=some (m,news))(i:news.length=m*sz)(hs:news.all I.scalar=true)(d:m≠0)
  (e:(len+m)*b≤140737488355328) (hl:len+m≤9223372036854775807) (f:∀g H',hJ H0 H' sz g (len+m) (cells++news)→K g H'):aJ (cX H false sz b x y) K:=by
 obtain⟨a,tk,rfl,hc,j⟩:=h;have hlen:(cells++news).length=(len+m)*sz:=by simp[hc,i,WT]
 rcases j with⟨rfl,rfl⟩|⟨t,rfl,k,o,l⟩
 · refine⟨.av (.own H.n) (0+m) (cells++news),H.push (.tok ((0+m)*sz) sz),?_,f _ _ ⟨a.trans (Z.Ext.push _ _),_,rfl,hlen,.inr ⟨H.n,rfl,a.1,Y9 _,Z.pj _ _⟩⟩⟩;simp only[cX,c,hs,not_true_eq_false,cu,ab d];rw[ab (by simp only[ZC];exact⟨hc,e,hl⟩)]
 · refine⟨.av (.own H.n) (len+m) (cells++news),(H.set t .gone).push (.tok ((len+m)*sz) sz),?_,f _ _ ⟨(a.set k _).trans (Z.Ext.push _ _),_,rfl,hlen,.inr ⟨H.n,rfl,a.1,Y9 _,Z.pj _ _⟩⟩⟩;simp only[cX,c,hs,not_true_eq_false,cu,ab d];rw[ab (by simp only[ZC];exact⟨hc,e,hl⟩)];simp[l]
def T(H:Z)(id:Nat)(x:cN):Prop:=id<H.n∧H.o id=x
theorem T.new(H:Z)(x:cN):T (H.push x) H.n x:=⟨Y9 _,Z.pj H x⟩
theorem T.ext{H H':Z}(h:T H id x)(a:Z.Ext H H'):T H' id x:=⟨AH h.1 a.1,(a.2 id h.1).trans h.2⟩
theorem T.push{H:Z}(h:T H id x)(y:cN):T (H.push y) id x:=h.ext (Z.Ext.push H y)
theorem T.br{H:Z}(h:T H id x)(a:id≠i)(y:cN):T (H.set i y) id x:=⟨h.1,(Z.br H y a).trans h.2⟩
theorem T.set{H:Z}(h:T H id x)(y:cN):T (H.set id y) id y:=⟨h.1,Z.Qd H id y⟩
theorem T.ne{H:Z}{x y:cN}(h:T H id x)(k:T H i y)(a:x≠y):id≠i:=λe=>a (by rw[←h.2,←k.2,e])
theorem T.gS{H:Z}(h:T H id x):id≠H.n:=W5 h.1
theorem T.load{H:Z}(h:T H id (.row cs))(n o:Nat)(agg:Bool):O H n agg (.ptr id o)=bW cs o n agg:=by simp[O,h.2]
theorem T.store{H:Z}(h:T H id (.row cs))(n o:Nat)(v:I):ax H n (.ptr id o) v=if v.known∧v.cells.length=n∧v.cells.all I.scalar∧o+n≤cs.length then some (H.set id (.row (setCells cs o v.cells)))else none:=by simp[ax,h.2]
theorem bM(a : -9223372036854775808≤n:=by omega)(b:n≤9223372036854775807:=by omega):Xv .i64 n=n:=wrap_i64 a b
theorem xb(a:0≤n:=by omega)(b:n<18446744073709551616:=by omega):Xv .u64 n=n:=wrap_u64 a b
end Rb

namespace Rb
open Go
variable{α:Type}{i:Nat}
@[simp] theorem bG (b:Bool) (A B C:Prop):aQ (.bool b) true A B C↔if b=true then A else B:=ZA
@[simp] theorem b7 (b:Bool) (A B C:Prop):aQ (.bool b) false A B C↔if b=false then A else B:=ZA
@[simp] theorem Wc (want:Bool) (A B C:Prop):aQ (.aM []) want A B C↔C:=ZA
theorem aH{c:Prop}[Decidable c]{A B:Prop}(a:c→A)(b:¬c→B):if c then A else B:=by
 split
 ·exact a ‹_›
 ·exact b ‹_›
theorem db{xs:List α}(h:xs.drop i=[]):xs.length≤i:=by simpa using h
theorem c8{xs b:List α}{y:α}(h:xs.drop i=y::b):i<xs.length∧xs[i]?=some y∧xs.drop (i+1)=b:=by
 have c:i<xs.length:=by
  rcases Nat.lt_or_ge i xs.length with a|a
  ·exact a
  ·rw[List.drop_eq_nil_of_le a]at h;cases h
 refine⟨c,?_,?_⟩
 · have:=congrArg (λl=>l[0]?) h;simpa using this
 · have:=congrArg List.tail h;simpa using this
end Rb

namespace Rb
open Go
section
variable{α:Type}{cells:α→List I}{sz:Nat}
theorem nI(hc:∀x,(cells x).length=sz):∀(xs:List α)(i:Nat),(xs.flatMap cells).drop (i*sz)=(xs.drop i).flatMap cells:=by
 intro xs i;induction i generalizing xs with
 |zero=>simp
 | succ i a=>
  cases xs with
  |nil=>simp
  | cons x xs=>rw[Zi,ZD,←a,show(i+1)*sz=(cells x).length+i*sz by rw[hc,WT,ZE,ZF],←Zt,List.drop_left]
theorem Qe(hc:∀x,(cells x).length=sz)(xs:List α):(xs.flatMap cells).length=xs.length*sz:=by
 induction xs with
 |nil=>simp
 |cons x xs a=>rw[Zi,ZG,a,hc,List.length_cons,WT];omega
def d_(cells:α→List I)(sz:Nat)(xs:List α)(i:Nat):I:= .ak ((xs.flatMap cells).drop (i*sz))
theorem cp{xs:List α}{i:Nat}(hi:i<xs.length):aU none sz (aD cells xs) (D i)=some (d_ cells sz xs i):=by simp only[aD,aU];rw[aa ⟨by omega,by omega⟩];rfl
theorem dd(hc:∀x,(cells x).length=sz)(d:0<sz)(H:Z){xs:List α}{i:Nat}{x:α}(a:xs[i]?=some x):O H sz true (d_ cells sz xs i)=some (.agg (cells x)):=by
 have b:=(Wh.1 a).1;have c:xs.drop i=x::xs.drop (i+1):=by rw[ZH b];rw[Xc b]at a;simp at a;rw[a]
 show bW ((xs.flatMap cells).drop (i*sz)) 0 sz true=_;rw[nI hc,c,Zi];unfold bW;rw[aa (by rw[ZG,hc];omega)];simp only[aY,Zv];rw[ZI (by rw[hc];omega),ZJ (by rw[hc];omega)]
def xc(sz:Nat)(Φ:ae)(a0:I)(Y:I)(d:I)(Q:ad):(List I×Z)→((List I×Z)→Prop)→Prop:=λs2 e=>
 Do (N .lss (sl s2.1 0) d) λf=>
 L f true (
 Do (aU none sz a0 (sl s2.1 0)) λg=>
 Do (O s2.2 sz true g) λh=>
 ∃a b,Y = .fn a b∧Φ (jL a) (jM a [h] b) s2.2 λi c=>
 L i true (
 Q (sl s2.1 0) c) (
 Do (N .add (sl s2.1 0) (D 1)) λj=>
 e ([j],c))) (
 Q (D (-1)) s2.2)
def rz(sz:Nat)(Φ:ae)(a0:I)(Y:I)(H:Z)(Q:ad):Prop:=
 Do (bj false a0) λa=>
 au (xc sz Φ a0 Y a Q) ([J],H)
def e8:Option Nat→Int
 |some i=>i
 |none=> -1
theorem AP{Φ:ae}(hc:∀x,(cells x).length=sz)(f:0<sz){p:α→Bool}{c:Nat}{b_:List I}{xs:List α}{H:Z}(hf:∀x∈xs,∀(R:ad),R (.bool (p x)) H→Φ c ([.agg (cells x)]++b_) H R)(hl:xs.length≤9223372036854775807){Q:ad}
  (g:Q (D (e8 (xs.findIdx? p))) H) (d:gA c=none:=by first|assumption|rfl):rz sz Φ (aD cells xs) (.fn c b_) H Q:=by
 unfold rz;have hlen:bj false (aD cells xs)=some (D xs.length):=rfl;rw[hlen];simp only[G];have main:∀(a:List α)(i:Nat),xs.drop i=a→Q (D (e8 ((a.findIdx? p).map (·+ i)))) H→au (xc sz Φ (aD cells xs) (.fn c b_) (D xs.length) Q) ([D i],H):=by
  intro a;induction a with
  | nil=>intro i hi b;have hle:=db hi;refine au.step ?_;simp only[xc,aq,bb,G,ai];rw[cZ];simpa[e8]using b
  | cons y a h=>
   intro i hi b;obtain⟨j,e,l⟩:=c8 hi;refine au.step ?_;simp only[xc,aq,bb,G,ai];rw[ch,cp j];simp only[G];rw[dd hc f H e];simp only[G];refine⟨c,b_,rfl,?_⟩;rw[yu d,yv d];refine hf y (Y7 e) _ ?_;simp only[ai];rw[ZK]at b;by_cases he:p y=true
   · rw[aa he];rw[aa he]at b;simpa[e8]using b
   · rw [ab he];rw[ab he]at b;simp only[bu,G];rw[bM,fb i];refine h (i+1) l ?_;have:(ZL p a).map (·+ (i+1))=((ZL p a).map (·+ 1)).map (·+ i):=by
      rw[Option.map_map];congr 1;funext k;simp only[Function.comp];omega
     rw[this];exact b
 refine main xs 0 rfl ?_;simpa using g
end
end Rb

namespace Rb
open Go
theorem lO(a b:List I):I.cv (a++b)=(I.cv a&&I.cv b):=by rw[qu,qu,qu,ZM]
mutual
theorem aC.b6:∀x:aC,I.cv x.cells=true
 | .mk kind size packed aI bZ bf=>by simp only[aC.cells,I.cv,I.b6,Tok.free,aT.h_ aI,aC.h_ bf,ZN]
theorem aC.h_:∀xs:List aC,I.cv (aC.all xs)=true
 |[]=>rfl
 |x::r=>by rw[aC.all,lO,aC.b6 x,aC.h_ r];rfl
theorem aT.b6:∀x:aT,I.cv x.cells=true
 | .mk name type bits bn=>by simp only[aT.cells,I.cv,I.b6,lO,aC.b6 type,ZN]
theorem aT.h_:∀xs:List aT,I.cv (aT.all xs)=true
 |[]=>rfl
 |x::r=>by rw[aT.all,lO,aT.b6 x,aT.h_ r];rfl
end
mutual
theorem aA.b6:∀x:aA,I.cv x.cells=true
 | .mk kind n name op aG place a_=>by simp only[aA.cells,I.cv,I.b6,lO,Tok.free,aW.b6 place,aA.h_ a_,ZN]
theorem aA.h_:∀xs:List aA,I.cv (aA.all xs)=true
 |[]=>rfl
 |x::r=>by rw[aA.all,lO,aA.b6 x,aA.h_ r];rfl
theorem aW.b6:∀x:aW,I.cv x.cells=true
 | .mk var aK=>by simp only[aW.cells,I.cv,I.b6,Tok.free,aX.h_ aK,ZN]
theorem aX.b6:∀x:aX,I.cv x.cells=true
 | .mk field aZ=>by simp only[aX.cells,I.cv,I.b6,Tok.free,aA.h_ aZ,ZN]
theorem aX.h_:∀xs:List aX,I.cv (aX.all xs)=true
 |[]=>rfl
 |x::r=>by rw[aX.all,lO,aX.b6 x,aX.h_ r];rfl
end
theorem k1{α:Type}{cells:α→List I}(h:∀x,I.cv (cells x)=true)(xs:List α):(aD cells xs).b6=true:=by
 have:I.cv (xs.flatMap cells)=true:=by
  induction xs with
  |nil=>rfl
  |cons x xs a=>rw[Zi,lO,h,a];rfl
 simp only[aD,I.b6,Tok.free,this,ZN]
theorem aE.b6(x:aE):I.cv x.cells=true:=by simp only[aE.cells,I.cv,I.b6,aC.b6,ZN]
mutual
theorem ay.b6:∀x:ay,I.cv x.cells=true
 | .mk kind V name bQ aG place aF aP bq=>by simp only[ay.cells,I.cv,I.b6,lO,Tok.free,aW.b6 place,k1 aA.b6 aF,ay.h_ aP,ay.h_ bq,ZN]
theorem ay.h_:∀xs:List ay,I.cv (ay.all xs)=true
 |[]=>rfl
 |x::r=>by rw[ay.all,lO,ay.b6 x,ay.h_ r];rfl
end
theorem Qf(l:List ay):I.cv (gK l)=true:=by simp only[gK,I.cv,k1 ay.b6,ZN]
theorem eA.b6(x:eA):I.cv x.cells=true:=by simp only[eA.cells,I.cv,k1 aE.b6,k1 Qf,ZN]
end Rb

namespace Rb
open Go
@[simp] theorem Z.Qg (H:Z) (x y:cN):(H.push x).set H.n y=H.push y:=by simp only[Z.push,Z.set];congr 1;funext j;split<;>rfl
@[simp] theorem e9 (H:Z) (cs:List I) (n o:Nat) (agg:Bool):O (H.push (.row cs)) n agg (.ptr H.n o)=bW cs o n agg:=by simp[O,Z.pj]
theorem Qh(H:Z)(cs:List I)(n o:Nat)(v:I)(a:v.known=true)(b:v.cells.length=n)(c:v.cells.all I.scalar=true)(d:o+n≤cs.length):ax (H.push (.row cs)) n (.ptr H.n o) v=some (H.push (.row (setCells cs o v.cells))):=by rw[(T.new H (.row cs)).store,aa ⟨a,b,c,d⟩,Z.Qg]
theorem H2{xs a:List I}:∀{k:Nat},k+a.length=xs.length→setCells xs k a=xs.take k++a:=by
 induction a generalizing xs with
 |nil=>intro k h;simp only[setCells];rw[ZO,ZJ (by simp at h;omega)]
 | cons y a b=>
  intro k h;simp only[setCells];rw[b (by simp at h ⊢;omega)];have hk:k<xs.length:=by simp at h;omega
  rw[ZP,List.getElem?_set_self hk,List.take_set_of_le (by omega)];simp
theorem bO(H:Z)(a cs:List I)(n:Nat)(b:cs.length=n)(c:cs.all I.scalar=true)(d:a.length=n):ax (H.push (.row a)) n (.ptr H.n 0) (.agg cs)=some (H.push (.row cs)):=by rw[Qh H a n 0 (.agg cs) rfl b c (by omega)];congr 3;show setCells a 0 cs=cs;rw[H2 (by omega)];rfl
theorem k2{a b:List I}{n:Nat}(h:a.length=n):bW (a++b) 0 n true=some (.agg a):=by unfold bW;rw[aa (by rw[ZG];omega)];simp only[aY,Zv];rw[ZI (by omega),ZJ (by omega)]
theorem eM{a:List I}{n:Nat}(h:a.length=n):bW a 0 n true=some (.agg a):=by have:=k2 (a:=a) (b:=[]) h;rwa [ZO]at this
theorem Qi{cs:List I}{o n:Nat}{agg:Bool}(h:o≤cs.length):bW cs o n agg=bW (cs.drop o) 0 n agg:=by
 by_cases hl:o+n≤cs.length
 · have a:0+n≤(cs.drop o).length:=by rw[ZQ];omega
   unfold bW;simp only[hl,a,aY];cases agg<;>simp
 · have a:¬0+n≤(cs.drop o).length:=by rw[ZQ];omega
   unfold bW;simp only[hl,a,cu]
mutual
theorem aC.scalar:∀x:aC,x.cells.all I.scalar=true
 | .mk kind size packed aI bZ bf=>by simp[aC.cells,I.scalar]
theorem aT.scalar:∀x:aT,x.cells.all I.scalar=true
 | .mk name type bits bn=>by simp only[aT.cells,Y6,ZM,aC.scalar type];rfl
end
theorem aW.scalar(x:aW):x.cells.all I.scalar=true:=by rw[aW.be];rfl
theorem aX.scalar(x:aX):x.cells.all I.scalar=true:=by rw[aX.be];rfl
theorem aA.scalar(x:aA):x.cells.all I.scalar=true:=by rw[aA.be];simp only[Y6,ZM,aW.scalar];rfl
theorem ay.scalar(x:ay):x.cells.all I.scalar=true:=by rw[ay.be];simp only[Y6,ZM,aW.scalar];rfl
theorem aE.scalar(x:aE):x.cells.all I.scalar=true:=by simp only[aE.cells,Y6,aC.scalar];rfl
end Rb

namespace Rb
open Go
def i1(k:IntKind)(z:Int):List I:=[.int k z]
section
variable{α:Type}{c:α→I}
theorem rA(H:Z){xs:List α}{i:Nat}{x:α}(a:xs[i]?=some x):O H 1 false (d_ (λx=>[c x]) 1 xs i)=some (c x):=by
 have b:=(Wh.1 a).1;have d:xs.drop i=x::xs.drop (i+1):=by rw[ZH b];rw[Xc b]at a;simp at a;rw[a]
 show bW ((xs.flatMap λx=>[c x]).drop (i*1)) 0 1 false=_;rw[nI (sz:=1) (λ_=>rfl),d,Zi];rfl
end
theorem bH{α:Type}(cells:α→List I)(xs:List α):bj false (aD cells xs)=some (D xs.length):=rfl
end Rb

namespace Rb
open Go
variable{n b0 b1 b2 b3 i:Nat}{s:List UInt8}{c:UInt8}
def bR(Φ:ae)(k:Nat)(a:List I)(v:I):Prop:=∀(H:Z)(Q:ad),Q v H→Φ k a H Q
theorem bR.of{C:Ctx}(aw:cY C){k:Nat}{a:List I}{v:I}(b:I.cv a=true)(hv:v.b6=true)(h:∀Q:ad,(∀H',Q v H')→aj C k a Z.mt Q):bR (aj C) k a v:=λH Q c=>aj.Ea (Q:=λu _=>u=v) aw (h _ λ_=>rfl) b H Q λu _ hu=>by subst hu;exact⟨hv,c⟩
def isLet(c:UInt8):Bool:=decide (97≤c.toNat)&&decide (c.toNat≤122)
def rB(c:UInt8):Bool:=decide (48≤c.toNat)&&decide (c.toNat≤57)
def hK(c:UInt8):Bool:=isLet c||rB c||decide (c.toNat=95)
def dL:List UInt8→Bool
 |[]=>false
 |c::r=>decide (r.length<16)&&isLet c&&r.all hK
theorem Qj(h:b0<128):ZR n b0 b1 b2 b3=(b0,1):=by unfold ZR;rw[aa h]
theorem Qk(h:¬b0<128):128≤(ZR n b0 b1 b2 b3).1:=by
 unfold ZR;rw[ab h]
 repeat' split
 all_goals (dsimp only;omega)
theorem H3(hc:s[i]?=some c)(h:c.toNat<128):Wg ⟨s.toArray⟩ i=(c.toNat,1):=by
 have e:(Wq s.toArray).get! i=c:=by show s.toArray[i]! = c;have hi:=(Wh.1 hc).1;rw[getElem!_pos s.toArray i (by simpa using hi)];simp[Xc hi]at hc;simpa using hc
 rw[ZS,e,Qj h]
theorem Ql(hc:s[i]?=some c)(h:¬c.toNat<128):128≤(Wg ⟨s.toArray⟩ i).1:=by
 have e:(Wq s.toArray).get! i=c:=by show s.toArray[i]! = c;have hi:=(Wh.1 hc).1;rw[getElem!_pos s.toArray i (by simpa using hi)];simp[Xc hi]at hc;simpa using hc
 rw[ZS,e];exact Qk h
def dU(n a:Int):Bool:=(n==1||n==2||n==4||n==8||n==16)&&decide (n≤a)
def fG(kind b:Int)(packed:Bool)(c:Nat)(bZ:Int)(a:Nat):Bool:=
 if kind=1∨kind=2 then !packed&&c==0&&bZ==0&&a==0
 else if kind=3∨kind=4 then b==0&&bZ==0&&a==0
 else if kind=5 then b==0&&!packed&&c==0&&a==1
 else false
mutual
def cO:aC→Int
 | .mk kind size packed aI bZ bf=>
  if fG kind size packed aI.length bZ bf.length=false then 8
  else if kind=1 then(if dU size 8 then 0 else 9)
  else if kind=2 then(if dU size 16 then 0 else 9)
  else if kind=5 then(if bZ<1∨65536<bZ then 9 else H4 bf)
  else if aI.length<1∨32<aI.length then 12
  else fp packed [] aI
def H4:List aC→Int
 |[]=>0
 |t::_=>cO t
def gp(packed:Bool)(seen:List (List UInt8)):aT→Int
 | .mk name type bits bn=>
  if dL name=false∧(name≠[]∨bits=false)then 6
  else if name≠[]∧seen.contains name=true then 7
  else if cO type≠0 then cO type
  else if(bits=false∧bn≠0)∨(bits=true∧(type.kind≠1∨packed=true))then 8
  else if bits=true∧(bn<0∨8*type.size<bn∨(bn=0∧name≠[]))then 9
  else 0
def fp(packed:Bool)(seen:List (List UInt8)):List aT→Int
 |[]=>0
 |f::r=>if gp packed seen f≠0 then gp packed seen f else fp packed (seen++[f.name]) r
end
mutual
def ea(a:Nat):aC→Int
 | .mk kind size packed aI bZ bf=>if 1<a then max (e2 (a-1) aI) (eB (a-1) bf)+1 else 1
def rC(a:Nat):aT→Int
 | .mk name type bits bn=>ea a type
def e2(a:Nat):List aT→Int
 |[]=>0
 |f::r=>max (rC a f) (e2 a r)
def eB(a:Nat):List aC→Int
 |[]=>0
 |t::r=>max (ea a t) (eB a r)
end
def dP(t:aC):Int:=if 64<ea 65 t then 5 else cO t
theorem aC.ind{P:aC→Prop}(h:∀t:aC,(∀f∈t.aI,P f.type)→(∀e∈t.bf,P e)→P t):∀t,P t:=by
 have main:∀(n:Nat)(t:aC),sizeOf t<n→P t:=by
  intro n;induction n with
  |zero=>intro t ht;omega
  | succ n a=>
   intro t ht;refine h t (λf hf=>a _ ?_) λe he=>a _ ?_
   · cases t with
     | mk kind size packed aI bZ bf=>
      have:=ZT hf;cases f with
      |mk name type bits bn=>simp at this ht ⊢;omega
   · cases t with
     | mk kind size packed aI bZ bf=>have:=ZT he;simp at this ht ⊢;omega
 exact λt=>main _ t (Y9 _)
end Rb

namespace Rb
open Go
variable{n:Int}{s:List UInt8}{id pos:Nat}
theorem fH(t:aC)(H:Z):bg H false 6 (.agg t.cells)=some (.ak t.cells,H):=by unfold bg;rw[aa ⟨rfl,t.len⟩];rfl
theorem cw(t:aC)(i:Nat):M i (.ak t.cells)=some (.ak (t.cells.drop i)):=rfl
theorem ia(t:aC)(H:Z):O H 1 false (.ak (t.cells.drop 0))=some (D t.kind):=by rw[aC.be];rfl
theorem kx(t:aC)(H:Z):O H 1 false (.ak (t.cells.drop 1))=some (D t.size):=by rw[aC.be];rfl
theorem k3(t:aC)(H:Z):O H 1 false (.ak (t.cells.drop 2))=some (.bool t.packed):=by rw[aC.be];rfl
theorem fq(t:aC)(H:Z):O H 1 false (.ak (t.cells.drop 3))=some (aD aT.cells t.aI):=by rw[aC.be];rfl
theorem mD(t:aC)(H:Z):O H 1 false (.ak (t.cells.drop 4))=some (D t.bZ):=by rw[aC.be];rfl
theorem gL(t:aC)(H:Z):O H 1 false (.ak (t.cells.drop 5))=some (aD aC.cells t.bf):=by rw[aC.be];rfl
theorem iO(t:aC)(H:Z):O H 6 true (.ak t.cells)=some (.agg t.cells):=eM t.len
theorem pk(f:aT):bW f.cells 0 1 false=some (.str f.name):=by cases f with|mk n t b w=>cases t;rfl
theorem AQ(f:aT):bW f.cells 7 1 false=some (.bool f.bits):=by cases f with|mk n t b w=>cases t;rfl
theorem H5(f:aT):bW f.cells 8 1 false=some (D f.bn):=by cases f with|mk n t b w=>cases t;rfl
theorem xd(f:aT):bW f.cells 1 6 true=some (.agg f.type.cells):=by cases f with|mk n t b w=>cases t;rfl
theorem AR(f:aT):bW f.cells 1 1 false=some (D f.type.kind):=by cases f with|mk n t b w=>cases t;rfl
theorem H6(f:aT):bW f.cells 2 1 false=some (D f.type.size):=by cases f with|mk n t b w=>cases t;rfl
theorem wrap_i32(a : -2147483648≤n)(b:n≤2147483647):Xv .i32 n=n:=by simp[Xv,Wu,Wv];omega
theorem fc(s t:List UInt8):N .eql (.str s) (.str t)=some (.bool (s==t)):=rfl
theorem ky(s t:List UInt8):N .neq (.str s) (.str t)=some (.bool (!(s==t))):=rfl
theorem AU(a b:Int):ka true [D a,D b]=some (D (max a b)):=by simp only[ka,p1,yt,aY];congr 2;show(if a<b then b else a)=max a b;omega
def mE(n:Int):Bool:=(decide (97≤n)&&decide (n≤122))||(decide (48≤n)&&decide (n≤57))||decide (n=95)
theorem H7(c:UInt8):mE (c.toNat:Int)=hK c:=by rw[YG];simp[mE,hK,isLet,rB];omega
theorem Qm(h:128≤n):mE n=false:=by rw[YV];simp[mE];omega
theorem Qn{c:UInt8}(h:¬c.toNat<128):hK c=false:=by rw[YV];simp[hK,isLet,rB];omega
theorem Qo(c:UInt8):(decide (97≤(c.toNat:Int))&&decide ((c.toNat:Int)≤122))=isLet c:=by rw[YG];simp[isLet];omega
section
variable{Φ:ae}{H:Z}{Q:ad}
theorem H8(a:Q (.bool (decide (97≤n)&&decide (n≤122))) H):S.f94 Φ (.int .i32 n) H Q:=by
 simp only[S.f94,eu,gR,G,bG];apply aH<;>intro h
 · simp only[ge_iff_le,dh]at h;simpa[h]using a
 · simp only[ge_iff_le,dh]at h;simpa[h]using a
theorem Qp(h:T H id (.hB s pos))(a:pos<s.length):kJ H (.ptr id 0)=some (.aM [bd,D pos,.int .i32 (Wg ⟨s.toArray⟩ pos).1],H.set id (.hB s (pos+(Wg ⟨s.toArray⟩ pos).2))):=by simp[kJ,h.2,a]
theorem Qq(h:T H id (.hB s pos))(a:s.length≤pos):kJ H (.ptr id 0)=some (.aM [P],H):=by simp[kJ,h.2,Nat.not_lt.2 a]
theorem Qr{L:(List I×Z)→Prop}(W:Cl Φ S.cr)(e:mE n=false→Q P H)(f:mE n=true→L ([],H)) :
  Φ 94 [.int .i32 n] H λg d=>
   Do (cM .not g) λi=>
   aQ i true (
   Do (N .neq (.int .i32 n) (.int .i32 95)) λj=>
   U (S.qZ Φ (.int .i32 n) L Q) [j] d) (
   U (S.qZ Φ (.int .i32 n) L Q) [P] d) (
   False):=by
 refine S.HM W (H8 ?_);have c:∀b:Bool,b=!mE n→U (S.o0 Φ L Q) [.bool b] H:=by
  intro b a;simp only[aB,S.o0,aq,ai];apply aH<;>intro h
  ·exact e (by rw[h]at a;simpa using a.symm)
  ·exact f (by simp only[ZU]at h;rw[h]at a;simpa using a.symm)
 simp only[cV,G,bG,cU,aB,S.qZ,aq,bb,dv,b7,Yf,cu]at c ⊢;generalize S.o0 Φ L Q=k at c ⊢
 repeat' (apply aH<;>intro h)
 all_goals (refine c _ ?_;simp only[Yu,Bool.and_eq_false_imp,dh,decide_eq_false_iff_not,bne_iff_ne,ne_eq,ZU,ZV]at *;rw[YG];simp[mE];omega)
theorem Qs(W:Cl Φ S.cr)(j:∀H',Q (.bool (dL s)) H'):S.f71 Φ (.str s) H Q:=by
 have main:∀(d:List UInt8)(pos id:Nat)(H:Z),s.drop pos=d→T H id (.hB s pos)→(∀H',Q (.bool (d.all hK)) H')→au (S.vo Φ (.ptr id 0) Q) ([],H):=by
  intro d;induction d with
  | nil=>intro pos id H k i e;have hle:=db k;refine au.step ?_;simp only[S.vo];rw[Qq i hle];simp only[aV,bI,Zn,G,ai,Yf,cu];simpa using e H
  | cons y d o=>
   intro pos id H k i e;obtain⟨p,l,q⟩:=c8 k;refine au.step ?_;simp only[S.vo];rw[Qp i p];simp only[aV,bI,Zn,Zo,G,ai,aY];refine Qr W (λa=>?_) (λf=>?_)
   · by_cases g:y.toNat<128
     · rw[H3 l g]at a;simp only[H7]at a;have:=e (H.set id (.hB s (pos+(Wg ⟨s.toArray⟩ pos).2)));simpa[a]using this
     · have:=e (H.set id (.hB s (pos+(Wg ⟨s.toArray⟩ pos).2)));simpa[Qn g]using this
   · by_cases g:y.toNat<128
     · rw[H3 l g]at f ⊢;simp only[H7]at f;exact o (pos+1) id _ q (i.set _) λH'=>by simpa[f]using e H'
     · rw[Qm (by have:=Ql l g;omega)]at f;cases f
 unfold S.f71;simp only[ph,bb,dv,G,b7,aB];cases s with
 | nil=>simp[S.vp,S.q0,aB,aq,b7,ai];simpa[dL]using j H
 | cons c r=>
  rw[oc];have m:∀b:Bool,(b=false→dL (c::r)=r.all hK∧hK c=true)→(b=true→dL (c::r)=false)→∀H,S.q0 Φ (.str (c::r)) Q [.bool b] H:=by
   intro b t u H;simp only[S.q0,aq,ai];apply aH<;>intro h
   ·have:=j H;rw[u h]at this;exact this
   · simp only[ZU]at h;obtain⟨g1,g2⟩:=t h;simp only[aB,S.FU,m5,aV];refine main (c::r) 0 H.n _ rfl (T.new H _) λH'=>?_;have:=j H';rw[g1]at this;simpa[g2]using this
  simp only[S.vp,aq,b7,aB];apply aH<;>intro h
  · have v:iZ (.str (c::r)) (J)=some (.int .u8 c.toNat):=by simp[iZ]
    have hc:=c.toNat_lt;rw[v];simp only[G,j0];rw[wrap_i32 (by omega) (by omega)];refine S.HM W (H8 ?_);rw[Qo];simp only[cV,G];have hl:r.length<16:=by simp at h;omega
    refine m _ (λa=>?_) (λa=>?_) _
    · have:isLet c=true:=by simpa using a
      exact⟨by simp[dL,hl,this],by simp[hK,this]⟩
    · have:isLet c=false:=by simpa using a
      simp[dL,this]
  · refine m _ (λa=>by cases a) (λ_=>?_) _;have hl:¬r.length<16:=by simp at h;omega
    simp[dL,hl]
end
end Rb

namespace Rb
open Go
mutual
theorem pn:∀(t:aC)(m:Nat),1≤m→1≤ea m t∧ea m t≤m
 | .mk kind size packed aI bZ bf,m,hm=>by
  simp only[ea];split
  · rename_i h;have a:=xe aI (m-1) (by omega);have b:=AW bf (m-1) (by omega);omega
  ·omega
theorem Qt:∀(f:aT)(m:Nat),1≤m→0≤rC m f∧rC m f≤m
 | .mk name type bits bn,m,hm=>by have:=pn type m hm;simp only[rC];omega
theorem xe:∀(l:List aT)(m:Nat),1≤m→0≤e2 m l∧e2 m l≤m
 |[],m,hm=>by simp only[e2];omega
 | f::r,m,hm=>by have a:=Qt f m hm;have b:=xe r m hm;simp only[e2];omega
theorem AW:∀(l:List aC)(m:Nat),1≤m→0≤eB m l∧eB m l≤m
 |[],m,hm=>by simp only[eB];omega
 | t::r,m,hm=>by have a:=pn t m hm;have b:=AW r m hm;simp only[eB];omega
end
theorem rD(f:aT)(m:Nat):rC m f=ea m f.type:=by cases f;rfl
theorem nJ(t:aC)(m:Nat):ea m t=if 1<m then max (e2 (m-1) t.aI) (eB (m-1) t.bf)+1 else 1:=by cases t;rfl
theorem gT(t:aC):cO t=if fG t.kind t.size t.packed t.aI.length t.bZ t.bf.length=false then 8
  else if t.kind=1 then(if dU t.size 8 then 0 else 9)
  else if t.kind=2 then(if dU t.size 16 then 0 else 9)
  else if t.kind=5 then(if t.bZ<1∨65536<t.bZ then 9 else H4 t.bf)
  else if t.aI.length<1∨32<t.aI.length then 12
  else fp t.packed [] t.aI:=by cases t;rfl
theorem k4(packed:Bool)(a:List (List UInt8))(f:aT):gp packed a f=if dL f.name=false∧(f.name≠[]∨f.bits=false)then 6
  else if f.name≠[]∧a.contains f.name=true then 7
  else if cO f.type≠0 then cO f.type
  else if(f.bits=false∧f.bn≠0)∨(f.bits=true∧(f.type.kind≠1∨packed=true))then 8
  else if f.bits=true∧(f.bn<0∨8*f.type.size<f.bn∨(f.bn=0∧f.name≠[]))then 9
  else 0:=by cases f;rfl
section
variable{Φ:ae}{H:Z}{Q:ad}
theorem H9{n a:Int}(g:a=8∨a=16)(f:Q (.bool (dU n a)) H):S.f178 Φ (D n) (D a) H Q:=by
 have e:∀b:Bool,b=dU n a→Q (.bool b) H:=λb h=>by rw[h];exact f
 simp only[S.f178,S.AE,aB,aq,eu,gR,G,bG,Yf,cu];apply aH<;>intro d
 · apply aH<;>intro c
   · simp only[ge_iff_le,dh]at d c;have:n=1∨n=2∨n=3∨n=4∨n=5∨n=6∨n=7∨n=8∨n=9∨n=10∨n=11∨n=12∨n=13∨n=14∨n=15∨n=16:=by omega
     have hle:decide (n≤a)=true:=by simpa using c
     simp only[dA,G,nH,bc];refine e _ ?_;unfold dU;rw[hle,Bool.and_true];clear hle c d f e;rcases this with rfl|rfl|rfl|rfl|rfl|rfl|rfl|rfl|rfl|rfl|rfl|rfl|rfl|rfl|rfl|rfl<;>decide
   · refine e _ ?_;simp only[dh]at c;simp[dU,c]
 · refine e _ ?_;simp only[ge_iff_le,dh]at d;have:n≠1∧n≠2∧n≠4∧n≠8∧n≠16:=by omega
   simp[dU,this]
theorem Qu{t:aC}(a:Q (.bool (fG t.kind t.size t.packed t.aI.length t.bZ t.bf.length)) H):S.f177 Φ (.agg t.cells) H Q:=by
 have e:∀b:Bool,b=fG t.kind t.size t.packed t.aI.length t.bZ t.bf.length→Q (.bool b) H:=λb h=>by rw[h];exact a
 clear a;simp only[S.f177,S.rq,S.rr,S.wY,S.Az,S.AA,S.AB,S.AD,fH,aV,cw,ia,kx,k3,fq,mD,gL,bH,aB,aq,bc,cV,G,bG,b7];generalize t.kind=k at *;generalize t.size=sz at *;generalize t.packed=j at *;generalize t.aI.length=l at *;generalize t.bZ=m at *;generalize t.bf.length=ne at *;by_cases c:k=1
 · subst c;simp only[ZW,ZX,ZY,Yf,aY,cu,ZZ,Z0]
   repeat' (apply aH<;>intro h)
   all_goals (refine e _ ?_;simp_all [fG])
 by_cases d:k=2
 · subst d;simp only[ZW,ZX,ZY,Yf,aY,cu,ZZ,Z0]
   repeat' (apply aH<;>intro h)
   all_goals (refine e _ ?_;simp_all [fG])
 by_cases f:k=3
 · subst f;simp only[ZW,ZX,ZY,Yf,aY,cu,ZZ,Z0]
   repeat' (apply aH<;>intro h)
   all_goals (refine e _ ?_;simp_all [fG])
 by_cases g:k=4
 · subst g;simp only[ZW,ZX,ZY,Yf,aY,cu,ZZ,Z0]
   repeat' (apply aH<;>intro h)
   all_goals (refine e _ ?_;simp_all [fG])
 by_cases i:k=5
 · subst i;simp only[ZW,ZX,ZY,Yf,aY,cu,ZZ,Z0]
   repeat' (apply aH<;>intro h)
   all_goals (refine e _ ?_;simp_all [fG])<;>(rw[YG];simp;try omega)
 · have g1:(k==1)=false:=by simpa using c
   have g2:(k==2)=false:=by simpa using d
   have g3:(k==3)=false:=by simpa using f
   have g4:(k==4)=false:=by simpa using g
   have g5:(k==5)=false:=by simpa using i
   simp only[g1,g2,g3,g4,g5,ZY,Yf,aY,cu,ZZ,Z0]
   repeat' (apply aH<;>intro h)
   all_goals (refine e _ ?_;simp_all [fG])
theorem Qv{t:aC}{m:Nat}(B:1≤m)(C:m≤65)(q:t.aI.length≤maxLen)(r:t.bf.length≤maxLen)
  (hf:1<m→∀f∈t.aI,bR Φ 176 [.agg f.type.cells,D ((m-1:Nat):Int)] (D (ea (m-1) f.type)))
  (he:1<m→∀x∈t.bf,bR Φ 176 [.agg x.cells,D ((m-1:Nat):Int)] (D (ea (m-1) x)))
  (s:∀H',Q (D (ea m t)) H'):S.f176 Φ (.agg t.cells) (D m) H Q:=by
 have hm:maxLen=9223372036854775807:=by decide
 rw[hm]at q r;have o:∀(v:Int)(H:Z),0≤v→v≤64→v+1=ea m t→U (S.wV Φ Q) [D v] H:=by intro v H E F hv;simp only[aB,S.wV,aq,bu,G];rw[bM,hv];exact s H
 unfold S.f176;simp only[fH,aV,dv,G,ai];apply aH<;>intro h
 · have e:1<m:=by simp at h;omega
   have p:Xv .i64 ((m:Int)-1)=((m-1:Nat):Int):=by rw[bM];omega
   have I:=AW t.bf (m-1) (by omega);have J:=xe t.aI (m-1) (by omega);have K:ea m t=max (e2 (m-1) t.aI) (eB (m-1) t.bf)+1:=by rw[nJ,aa e]
   have u:∀(xs:List aC)(i:Nat)(acc:Int)(H:Z),t.bf.drop i=xs→0≤acc→acc≤64→max acc (eB (m-1) xs)+1=ea m t →
     au (S.wW Φ (D m) (aD aC.cells t.bf) (D t.bf.length) Q) ([D acc,D i],H):=by
    intro xs;induction xs with
    | nil=>intro i acc H b c d a;have w:=db b;refine au.step ?_;simp only[S.wW,aq,bh,bb,G,ai];rw[cZ];refine o _ _ c d ?_;simp only[eB]at a;omega
    | cons x xs j=>intro i acc H b c d a;obtain⟨k,g,l⟩:=c8 b;have n:=Y7 g;refine au.step ?_;simp only[S.wW,aq,bh,bb,G,ai];rw[ch,cp k];simp only[G];rw[dd aC.len (by decide) _ g];simp only[G,aV,aR,aY];rw[bO _ _ _ 6 x.len x.scalar rfl];simp only[G];rw[e9,eM x.len];simp only[G,dA,p];refine he e x n _ _ ?_;have y:=pn x (m-1) (by omega);rw[AU];simp only[G,bu];rw[bM,fb i];refine j (i+1) _ _ l (by omega) (by omega) ?_;simp only[eB]at a;omega
   have z:∀(acc:Int)(H:Z),0≤acc→acc≤64→max acc (eB (m-1) t.bf)+1=ea m t→U (S.Ay Φ (D m) (.ak t.cells) Q) [D acc] H:=by intro acc H c d a;simp only[aB,S.Ay,aq,cw,gL,bH,G];exact u t.bf 0 acc H rfl c d a
   have A:∀(xs:List aT)(i:Nat)(acc:Int)(H:Z),t.aI.drop i=xs→0≤acc→acc≤64→max (max acc (e2 (m-1) xs)) (eB (m-1) t.bf)+1=ea m t →
     au (S.wX Φ (D m) (.ak t.cells) (aD aT.cells t.aI) (D t.aI.length) Q) ([D acc,D i],H):=by
    intro xs;induction xs with
    | nil=>intro i acc H b c d a;have w:=db b;refine au.step ?_;simp only[S.wX,aq,bh,bb,G,ai];rw[cZ];refine z _ _ c d ?_;simp only[e2]at a;omega
    | cons x xs j=>intro i acc H b c d a;obtain⟨k,g,l⟩:=c8 b;have n:=Y7 g;refine au.step ?_;simp only[S.wX,aq,bh,bb,G,ai];rw[ch,cp k];simp only[G];rw[dd aT.len (by decide) _ g];simp only[G,aV,aR,aY];rw[bO _ _ _ 9 x.len x.scalar rfl];simp only[G,M,W7];rw[e9,xd];simp only[G,dA,p];refine hf e x n _ _ ?_;have y:=pn x.type (m-1) (by omega);rw[AU];simp only[G,bu];rw[bM,fb i];refine j (i+1) _ _ l (by omega) (by omega) ?_;simp only[e2,rD]at a;omega
   simp only[cw,fq,bH,G];refine A t.aI 0 0 H rfl (by omega) (by omega) ?_;omega
 · have e:m=1:=by simp at h;omega
   subst e;refine o 0 H (by omega) (by omega) ?_;rw[nJ];rfl
end
end Rb

namespace Rb
open Go
variable{t:aC}{p:aT→Bool}{key:Nat}{b_:List I}{xs:List aT}
section
variable{α:Type}{cells:α→List I}{sz:Nat}
theorem Qw(hc:∀x,(cells x).length=sz):∀(xs:List α)(i:Nat),(xs.flatMap cells).take (i*sz)=(xs.take i).flatMap cells:=by
 intro xs i;induction i generalizing xs with
 |zero=>simp
 | succ i a=>
  cases xs with
  |nil=>simp
  | cons x xs=>rw[Zi,List.take_succ_cons,Zi,←a,show(i+1)*sz=(cells x).length+i*sz by rw[hc,WT,ZE,ZF],List.take_length_add_append]
theorem H_(hc:∀x,(cells x).length=sz){xs:List α}{n:Nat}(a:n≤xs.length):c6 sz (aD cells xs) none (some (D n)) none=some (aD cells (xs.take n)):=by
 simp only[aD,c6,eJ,Option.map_none];rw[df];simp only;rw[aa ⟨WS _,by omega,Qe hc xs⟩];by_cases h:n=xs.length
 ·rw[oc,h,Zw]
 · rw[bF];have:((n:Int)).toNat=n:=by omega
   simp only[this,aY,Nat.sub_zero,Zs,Zv,Qw hc];rw[Z1,Nat.min_eq_left a]
end
theorem xf{α:Type}(p:α→Bool)(xs:List α):decide (e8 (xs.findIdx? p)≥0)=xs.any p:=by
 cases hf:xs.findIdx? p with
 | none=>
  rw[List.findIdx?_eq_none_iff]at hf;have:xs.any p=false:=by simpa using hf
  rw[this];rfl
 | some i=>
  obtain⟨hi,a,_⟩:=List.findIdx?_eq_some_iff_getElem.1 hf;have:xs.any p=true:=by rw[YW];exact⟨xs[i],List.getElem_mem hi,a⟩
  rw[this];simp[e8]
section
variable{Φ:ae}{H:Z}{Q:ad}
theorem fieldIndex(hf:∀x∈xs,∀(R:ad),R (.bool (p x)) H→Φ key ([.agg x.cells]++b_) H R)(hl:xs.length≤9223372036854775807)
  (a:Q (D (e8 (xs.findIdx? p))) H) (b:gA key=none:=by first|assumption|rfl):S.f182 Φ (aD aT.cells xs) (.fn key b_) H Q:=by
 have h:rz 9 Φ (aD aT.cells xs) (.fn key b_) H Q:=AP aT.len (by decide) hf hl a;exact h
theorem AX(W:Cl Φ S.cr)(hf:∀x∈xs,∀(R:ad),R (.bool (p x)) H→Φ key ([.agg x.cells]++b_) H R)(hl:xs.length≤9223372036854775807)
  (a:Q (.bool (xs.any p)) H) (b:gA key=none:=by first|assumption|rfl):Φ 155 [aD aT.cells xs,.fn key b_] H Q:=by
 refine S.Py W ?_;unfold S.f155;refine S.AK W (fieldIndex hf hl ?_);simp only[eu,G,xf];exact a
theorem Qx{g:aT}{cs:List I}{id:Nat}{s:List UInt8}(a:T H id (.row cs))(ht:bW cs 0 1 false=some (.str s))(b:Q (.bool (g.name==s)) H):S.f209 Φ (.agg g.cells) (.ptr id 0) H Q:=by
 unfold S.f209;have c:bg H false 9 (.agg g.cells)=some (.ak g.cells,H):=by unfold bg;rw[aa ⟨rfl,g.len⟩];rfl
 rw[c];have d:O H 1 false (.ak (g.cells.drop 0))=some (.str g.name):=pk g;have l1:O H 1 false (.ptr id 0)=some (.str s):=by rw[a.load];exact ht
 simp only[aV,M,G,d,WW,l1,fc];exact b
theorem Qy(W:Cl Φ S.cr){i:Nat}{f:aT}(hi:t.aI[i]?=some f)(hl:t.aI.length≤32)(hs:bR Φ 152 [.agg f.type.cells] (D (cO f.type)))(F:∀s,bR Φ 71 [.str s] (.bool (dL s)))
  (I:∀H',Q (D (gp t.packed ((t.aI.take i).map aT.name) f)) H'):S.f203 Φ (.agg t.cells) (D i) H Q:=by
 have A:=(Wh.1 hi).1;unfold S.f203;simp only[fH,aV,cw,fq,G];rw[cp A];simp only[G];rw[dd aT.len (by decide) _ hi];simp only[G,aV,aR,aY];rw[bO _ _ _ 9 f.len f.scalar rfl];simp only[G,M,WW,W7];have m:O (H.push (.row f.cells)) 1 false (.ptr H.n 0)=some (.str f.name):=by rw[e9,pk]
 have o:O (H.push (.row f.cells)) 1 false (.ptr H.n 7)=some (.bool f.bits):=by rw[e9,AQ]
 have B:O (H.push (.row f.cells)) 1 false (.ptr H.n 8)=some (D f.bn):=by rw[e9,H5]
 have r1:O (H.push (.row f.cells)) 6 true (.ptr H.n 1)=some (.agg f.type.cells):=by rw[e9,xd]
 have J:O (H.push (.row f.cells)) 1 false (.ptr H.n 1)=some (D f.type.kind):=by rw[e9,AR]
 have rs:O (H.push (.row f.cells)) 1 false (.ptr H.n 2)=some (D f.type.size):=by rw[e9,H6]
 have K:=T.new H (.row f.cells);generalize ac:H.push (.row f.cells)=H1 at *;have fin:∀v,v=gp t.packed ((t.aI.take i).map aT.name) f→Q (D v) H1:=λv h=>by rw[h];exact I H1
 rw[m];simp only[G];refine F _ _ _ ?_;have L : ¬ (dL f.name=false∧(f.name≠[]∨f.bits=false))→¬(f.name≠[]∧((t.aI.take i).map aT.name).contains f.name=true)→S.AF Φ (.ak t.cells) (.ptr H.n 0) Q [] H1:=by
  intro d N;have e1:gp t.packed ((t.aI.take i).map aT.name) f=if cO f.type≠0 then cO f.type
    else if(f.bits=false∧f.bn≠0)∨(f.bits=true∧(f.type.kind≠1∨t.packed=true))then 8
    else if f.bits=true∧(f.bn<0∨8*f.type.size<f.bn∨(f.bn=0∧f.name≠[]))then 9
    else 0:=by rw[k4,ab d,ab N]
  rw[e1]at fin;clear e1;simp only[S.AF,M,W7,G,r1];refine hs _ _ ?_;simp only[cU,G,ai];apply aH<;>intro h
  ·exact fin _ (by rw[aa (by simpa using h)])
  · have e : cO f.type=0:=by simpa using h
    rw[ab (by simpa using e)]at fin;have q : ∀ b:Bool,(b=true↔((f.bits=false∧f.bn≠0)∨(f.bits=true∧(f.type.kind≠1∨t.packed=true))))→U (S.pf Φ (.ptr H.n 0) Q) [.bool b] H1:=by
     intro b c;simp only[aB,S.pf,aq,ai,M,W7,G,o];apply aH<;>intro h
     ·exact fin _ (by rw[aa (c.1 h)])
     · have j : ¬((f.bits=false∧f.bn≠0)∨(f.bits=true∧(f.type.kind≠1∨t.packed=true))):=λx=>h (c.2 x);rw[ab j]at fin;have k:∀b:Bool,(b=true↔(f.bits=true∧(f.bn<0∨8*f.type.size<f.bn∨(f.bn=0∧f.name≠[]))))→U (S.nE Φ Q) [.bool b] H1:=by
        intro b c;simp only[aB,S.nE,aq,ai];apply aH<;>intro h
        ·exact fin _ (by rw[aa (c.1 h)])
        ·exact fin _ (by rw[ab λx=>h (c.2 x)])
       simp only[bG];apply aH<;>intro a
       · have P:f.type.kind=1:=by
           by_cases hk:f.type.kind=1
           ·exact hk
           ·exact absurd (.inr ⟨a,.inl hk⟩) j
         have ad:1≤f.type.size∧f.type.size≤8:=by
          rw[gT,P]at e;split at e
          ·cases e
          · simp only[aY]at e;split at e
            · rename_i V;simp[dU]at V;omega
            ·cases e
         simp only[B,bb,G,b7];apply aH<;>intro hw
         · simp only[rs,G,fD];rw[bM];simp only[dv,G,b7];apply aH<;>intro r
           · simp only[bc,G,bG];apply aH<;>intro u
             · simp only[m,G,ky];refine k _ ?_;simp only[decide_eq_false_iff_not,gt_iff_lt,b9]at hw r u;simp[a,u];omega
             · refine k _ ?_;simp only[decide_eq_false_iff_not,gt_iff_lt,b9]at hw r u;simp[a,u];omega
           · refine k _ ?_;simp only[decide_eq_false_iff_not,ZC,gt_iff_lt]at r;simp[a,r]
         · refine k _ ?_;simp only[decide_eq_false_iff_not,ZC]at hw;simp[a,hw]
       · refine k _ ?_;simp[a]
    have C : ∀b:Bool,(b=true↔(f.bits=false∧f.bn≠0))→U (S.w8 Φ (.ak t.cells) (.ptr H.n 0) Q) [.bool b] H1:=by
     intro b c;simp only[aB,S.w8,aq,b7,M,W7,G,o];apply aH<;>intro h
     · have j:¬(f.bits=false∧f.bn≠0):=λx=>by rw[c.2 x]at h;cases h
       simp only[bG];apply aH<;>intro a
       · simp only[J,cU,G,b7];apply aH<;>intro hk
         · have X:O H1 1 false (.ak (t.cells.drop 2))=some (.bool t.packed):=k3 t H1;simp only[X,G];refine q _ ?_;simp only[bne_eq_false_iff_eq]at hk;simp[a,hk]
         · refine q _ ?_;simp only[ZV,bne_iff_ne,ne_eq]at hk;simp[a,hk]
       · refine q _ ?_;simp only[ZU]at a;simp only[a]at j ⊢;simp at j;simp[j]
     · refine q _ ?_;have:=c.1 (by simpa using h);simp[this]
    simp only[M,W7,G,o,cV,bG,B,cU];apply aH<;>intro a
    · refine C _ ?_;simp only[Yu]at a;simp[a]
    · refine C _ ?_;simp only[Yu,ZV]at a;simp[a]
 have E:∀b:Bool,¬(dL f.name=false∧(f.name≠[]∨f.bits=false))→(b=true↔(f.name≠[]∧((t.aI.take i).map aT.name).contains f.name=true))→U (S.w9 Φ (.ak t.cells) (.ptr H.n 0) Q) [.bool b] H1:=by
  intro b d c;simp only[aB,S.w9,aq,ai];apply aH<;>intro h
  ·exact fin _ (by rw[k4,ab d,aa (c.1 h)])
  ·exact L d λx=>h (c.2 x)
 have z : ∀b:Bool,(b=true↔(dL f.name=false∧(f.name≠[]∨f.bits=false)))→U (S.ru Φ (D i) (.ak t.cells) (.ptr H.n 0) Q) [.bool b] H1:=by
  intro b c;simp only[aB,S.ru,aq,ai,M,W7,WW,G,m,ky,bG];apply aH<;>intro h
  ·exact fin _ (by rw[k4,aa (c.1 h)])
  · have d:¬(dL f.name=false∧(f.name≠[]∨f.bits=false)):=λx=>h (c.2 x);apply aH<;>intro w
    · have Y:O H1 1 false (.ak (t.cells.drop 3))=some (aD aT.cells t.aI):=fq t H1;simp only[Y,G];rw[H_ aT.len (Nat.le_of_lt A)];simp only[G];refine AX W (p:=λg=>g.name==f.name) (λx ae R Z=>?_) (by rw[Z1];omega) ?_
      ·exact S.PV W (Qx K (pk f) Z)
      · refine E _ d ?_;simp only[Yu,beq_eq_false_iff_ne,ne_eq]at w;rw[YW,List.contains_iff_mem,List.mem_map];simp only[b9,ne_eq,w,not_false_eq_true,true_and]
    · refine E _ d ?_;simp only[Yu,beq_eq_false_iff_ne,ne_eq,ZC]at w;simp[w]
 simp only[cV,G,bG,m,ky,b7,o];apply aH<;>intro l
 · simp only[Yu]at l;apply aH<;>intro y
   · refine z _ ?_;simp only[Z2,b9]at y;simp[l,y,dL]
   · refine z _ ?_;simp only[Z2,b9]at y;simp[l,y]
 · refine z _ ?_;simp only[Yu,ZV]at l;simp[l]
theorem Qz(hl:t.aI.length≤maxLen)
  (j:t.aI.length≤32→∀(i:Nat)(f:aT),t.aI[i]?=some f→bR Φ 203 [.agg t.cells,D i] (D (gp t.packed ((t.aI.take i).map aT.name) f)))
  (d:Q (D (if t.aI.length<1∨32<t.aI.length then 12 else fp t.packed [] t.aI)) H):S.f179 Φ (.agg t.cells) H Q:=by
 have fin:∀v,v=(if t.aI.length<1∨32<t.aI.length then 12 else fp t.packed [] t.aI)→Q (D v) H:=λv h=>by rw[h];exact d
 clear d;unfold S.f179;simp only[fH,aV,cw,fq,bH,bb,dv,G,b7];have e : ∀b:Bool,(b=true↔(t.aI.length<1∨32<t.aI.length))→U (S.w4 Φ (.ak t.cells) Q) [.bool b] H:=by
  intro b g;simp only[aB,S.w4,aq,ai];apply aH<;>intro h
  ·exact fin _ (by rw[aa (g.1 h)])
  · have k:¬(t.aI.length<1∨32<t.aI.length):=λx=>h (g.2 x);rw[ab k]at fin;simp only[S.Ht,cw,fq,bH,G];have main:∀(rest:List aT)(i:Nat),t.aI.drop i=rest→fp t.packed ((t.aI.take i).map aT.name) rest=fp t.packed [] t.aI→au (S.wZ Φ (.ak t.cells) (D t.aI.length) Q) ([D i],H):=by
     intro rest;induction rest with
     | nil=>intro i a hs;have hle:=db a;refine au.step ?_;simp only[S.wZ,aq,bb,G,ai];rw[cZ];exact fin _ (by rw[←hs];rfl)
     | cons f rest l=>
      intro i a hs;obtain⟨n,hf,m⟩:=c8 a;refine au.step ?_;simp only[S.wZ,aq,bb,G,ai];rw[ch];simp only[iO,G];refine j (by omega) i f hf _ _ ?_;simp only[cU,G,ai];simp only[fp]at hs;apply aH<;>intro h
      · have c:gp t.packed ((t.aI.take i).map aT.name) f≠0:=by simpa using h
        rw[aa c]at hs;exact fin _ hs
      · have c:¬gp t.packed ((t.aI.take i).map aT.name) f≠0:=by simpa using h
        rw[ab c]at hs;simp only[bu,G];rw[bM,fb i];refine l (i+1) m ?_;rw[ZP,hf];simpa using hs
    exact main t.aI 0 rfl rfl
 apply aH<;>intro h
 · refine e _ ?_;simp only[decide_eq_false_iff_not]at h;simp only[dh,gt_iff_lt];omega
 · refine e _ ?_;simp only[decide_eq_false_iff_not,ZC]at h;simp only[true_iff];omega
theorem QA(W:Cl Φ S.cr)(k:bR Φ 179 [.agg t.cells] (D (if t.aI.length<1∨32<t.aI.length then 12 else fp t.packed [] t.aI)))
  (l:∀e∈t.bf,bR Φ 152 [.agg e.cells] (D (cO e))) (f:Q (D (cO t)) H):S.f152 Φ (.agg t.cells) H Q:=by
 have fin:∀v,v=cO t→Q (D v) H:=λv h=>by rw[h];exact f
 clear f;rw[gT]at fin;unfold S.f152;simp only[fH,aV,iO,G];refine S.PJ W (Qu ?_);simp only[cV,G,ai];apply aH<;>intro h
 ·exact fin _ (by rw[aa (by simpa using h)])
 · have c : fG t.kind t.size t.packed t.aI.length t.bZ t.bf.length=true:=by simpa using h
   rw[c]at fin;simp only[ZY,cu]at fin;simp only[cw,ia,kx,mD,gL,bc,bb,dv,G,ai,b7,b9];apply aH<;>intro g
   · rw[aa g]at fin;refine S.HQ W (H9 (.inl rfl) ?_);simp only[cV,G,ai];apply aH<;>intro a
     ·exact fin _ (by rw[ab (by simpa using a)])
     ·exact fin _ (by rw[aa (by simpa using a)])
   · rw [ab g]at fin;apply aH<;>intro a
     · rw[aa a]at fin;refine S.HQ W (H9 (.inr rfl) ?_);simp only[cV,G,ai];apply aH<;>intro a
       ·exact fin _ (by rw[ab (by simpa using a)])
       ·exact fin _ (by rw[aa (by simpa using a)])
     · rw [ab a]at fin;apply aH<;>intro d
       · rw [aa d]at fin;obtain ⟨e,he⟩:∃e,t.bf=[e]:=by
          have:t.bf.length=1:=by simp only[fG,d]at c;simp at c;exact c.2
          exact Z3.1 this
         have i:∀b:Bool,(b=true↔(t.bZ<1∨65536<t.bZ))→U (S.wK Φ (.ak t.cells) Q) [.bool b] H:=by
          intro b j;simp only[aB,S.wK,aq,ai];apply aH<;>intro h
          ·exact fin _ (by rw[aa (j.1 h)])
          · rw[ab λx=>h (j.2 x)]at fin;simp only[S.G9,cw,gL,G];have m:aU none 6 (aD aC.cells t.bf) (J)=some (d_ aC.cells 6 t.bf 0):=cp (by rw[he];simp);rw[m];simp only[G];rw[dd aC.len (by decide) _ (show t.bf[0]?=some e by rw[he];rfl)];simp only[G];refine l e (by rw[he];simp) _ _ ?_;exact fin _ (by rw[he];rfl)
         apply aH<;>intro h
         · refine i _ ?_;have n:¬t.bZ<1:=by simpa using h
           simp only[dh,gt_iff_lt];omega
         · refine i _ ?_;have n:t.bZ<1:=by simpa using h
           simp only[true_iff];omega
       · rw[ab d]at fin;refine k _ _ ?_;exact fin _ rfl
end
section
variable{C:Ctx}(aw:cY C)(W:Cl (aj C) S.cr)
include aw W
theorem AY(s:List UInt8):bR (aj C) 71 [.str s] (.bool (dL s)):=bR.of aw rfl rfl λQ a=>S.OK W (Qs W a)
theorem QB:∀(m:Nat),1≤m→m≤65→∀t:aC,t.ok→bR (aj C) 176 [.agg t.cells,D m] (D (ea m t)):=by
 intro m;induction m with
 |zero=>intro h;omega
 | succ m c=>
  intro _ hm t ht;have a:t.aI.length≤maxLen∧(∀f∈t.aI,f.ok)∧t.bf.length≤maxLen∧∀e∈t.bf,e.ok:=by
   cases t with
   | mk kind size packed aI bZ bf=>obtain⟨_,_,b,d,_,g,i⟩:=ht;exact⟨b,aT.ek.1 d,g,aC.ek.1 i⟩
  refine bR.of aw (by simp[I.cv,I.b6,aC.b6]) rfl λQ j=>S.PI W (Qv (by omega) hm a.1 a.2.2.1 (λb f hf=>?_) (λb e he=>?_) j)
  · have:=c (by omega) (by omega) f.type (by have:=a.2.1 f hf;cases f;exact this.2.1);exact this
  ·exact c (by omega) (by omega) e (a.2.2.2 e he)
theorem QC:∀t:aC,t.ok→bR (aj C) 152 [.agg t.cells] (D (cO t)):=by
 refine aC.ind λt d g ht=>?_;have b:t.aI.length≤maxLen∧(∀f∈t.aI,f.ok)∧t.bf.length≤maxLen∧∀e∈t.bf,e.ok:=by
  cases t with
  | mk kind size packed aI bZ bf=>obtain⟨_,_,h,j,_,k,l⟩:=ht;exact⟨h,aT.ek.1 j,k,aC.ek.1 l⟩
 have m:t.aI.length≤32→∀(i:Nat)(f:aT),t.aI[i]?=some f→bR (aj C) 203 [.agg t.cells,D i] (D (gp t.packed ((t.aI.take i).map aT.name) f)):=by intro hl i f hf;have c:=Y7 hf;exact bR.of aw (by simp[I.cv,I.b6,aC.b6]) rfl λQ a=>S.PU W (Qy W hf hl (d f c (by have:=b.2.1 f c;cases f;exact this.2.1)) (AY aw W) a)
 have n:bR (aj C) 179 [.agg t.cells] (D (if t.aI.length<1∨32<t.aI.length then 12 else fp t.packed [] t.aI)):=
  λH Q a=>S.PK W (Qz b.1 m a)
 exact λH Q a=>S.Pv W (QA W n (λe he=>g e he (b.2.2.2 e he)) a)
theorem Ia(t:aC)(ht:t.ok):bR (aj C) 125 [.agg t.cells] (D (dP t)):=by
 intro H Q a;refine S.Pe W ?_;unfold S.f125;simp only[fH,aV,iO,G];refine S.Pu W ?_;unfold S.f151;simp only[fH,aV,iO,G];refine QB aw W 65 (by omega) (by omega) t ht _ _ ?_;simp only[dv,G,ai];unfold dP at a;apply aH<;>intro h
 ·rw[aa (by simpa using h)]at a;exact a
 · rw[ab (by simpa using h)]at a;exact QC aw W t ht _ _ a
end
end Rb

namespace Rb
open Go
variable{t:aC}{x:aX}{id n:Nat}{cs:List I}
def dm:List I:=[J,J,P,ar,J,ar]
def gb(r:Int×aC):I:=if r.1=0 then .aM [.agg r.2.cells,J]else .aM [.agg dm,D r.1]
def de(t:aC)(x:aX):Int×aC:=
 if 1<x.aZ.length∨(x.aZ.length=1↔x.field≠[])then(8,t)
 else if x.aZ.length=1∧t.kind=5 then(match t.bf with|e::_=>(0,e)|[]=>(8,t))
 else if x.aZ.length=1∨¬(t.kind=3∨t.kind=4)then(8,t)
 else match t.aI.find? (λf=>f.name==x.field)with|some f=>(0,f.type)|none=>(6,t)
def eN:aC→List aX→Int×aC
 |t,[]=>(0,t)
 |t,p::r=>if(de t p).1≠0 then de t p else eN (de t p).2 r
def bP(B:List aE)(x:aW):Int×aC:=
 match B.find? (λv=>v.name==x.var)with
 |none=>(6,⟨0,0,false,[],0,[]⟩)
 |some v=>if dP v.type≠0 then(dP v.type,v.type)else eN v.type x.aK
theorem nK{packed:Bool}:∀{l:List aT}{seen:List (List UInt8)},fp packed seen l=0→∀f∈l,cO f.type=0
 |[],_,_,f,hf=>by cases hf
 | g :: r,seen,h,f,hf=>by
  simp only[fp]at h;have a:gp packed seen g=0:=by
   by_cases b:gp packed seen g=0
   ·exact b
   ·rw[aa b]at h;exact absurd h b
  rw[ab (by simpa using a)]at h;rcases List.mem_cons.1 hf with rfl|hf
  · rw [k4]at a;split at a
    ·cases a
    · split at a
      ·cases a
      · split at a
        ·rename_i b;exact absurd a b
        ·rename_i b;simpa using b
  ·exact nK h f hf
theorem k5(h:cO t=0)(hk:t.kind=5):∃e,t.bf=[e]∧cO e=0:=by
 rw[gT,hk]at h;split at h
 ·cases h
 · rename_i a;simp only[ZV]at a;obtain ⟨e,he⟩:∃e,t.bf=[e]:=by
    have:t.bf.length=1:=by simp[fG]at a;exact a.2
    exact Z3.1 this
   refine⟨e,he,?_⟩;simp at h;split at h
   ·cases h
   ·rw[he]at h;exact h
theorem mF(h:cO t=0)(hk:t.kind=3∨t.kind=4):(∀f∈t.aI,cO f.type=0)∧t.aI.length≤32:=by
 rw[gT]at h;have a:t.kind≠1:=by omega
 have b:t.kind≠2:=by omega
 have c:t.kind≠5:=by omega
 rw[ab a,ab b,ab c]at h;split at h
 ·cases h
 · split at h
   ·cases h
   ·exact⟨λf hf=>nK h f hf,by omega⟩
theorem Ib(h:cO t=0)(a:(de t x).1=0):cO (de t x).2=0:=by
 unfold de at a ⊢;split
 ·rename_i hc;rw[aa hc]at a;cases a
 · rename_i hc;rw[ab hc]at a;split
   ·rename_i hc;obtain⟨e,he,hs⟩:=k5 h hc.2;rw[he];exact hs
   · rename_i hc;rw[ab hc]at a;split
     ·rename_i hc;rw[aa hc]at a;cases a
     · rename_i hc;rw[ab hc]at a;split
       · rename_i f hf;exact(mF h (by omega)).1 f (List.mem_of_find?_eq_some hf)
       ·rename_i hf;rw[hf]at a;cases a
theorem lP{α:Type}(p:α→Bool)(xs:List α):(∃i x,xs.findIdx? p=some i∧xs.find? p=some x∧xs[i]?=some x)∨(xs.findIdx? p=none∧xs.find? p=none):=by
 induction xs with
 |nil=>right;simp
 | cons y e c=>
  rw[ZK,List.find?_cons];by_cases h:p y=true
  ·left;exact⟨0,y,by simp[h],by simp[h],rfl⟩
  · simp only[h,cu,Yf];rcases c with⟨i,x,a,b,d⟩|⟨a,b⟩
    ·left;exact⟨i+1,x,by simp[a],by simp[b],by simpa using d⟩
    ·right;simp[a,b]
section
variable{Φ:ae}{H:Z}{Q:ad}
theorem T.put{H:Z}{cs a:List I}(h:T H id (.row cs))(hc:cs.length=n)(b:a.length=n)(hs:a.all I.scalar=true):ax H n (.ptr id 0) (.agg a)=some (H.set id (.row a)):=by rw[h.store,aa ⟨rfl,b,hs,by omega⟩];congr 3;show setCells cs 0 a=a;rw[H2 (by omega)];rfl
theorem T.all{H:Z}(h:T H id (.row cs))(hc:cs.length=n):O H n true (.ptr id 0)=some (.agg cs):=by rw[h.load,eM hc]
theorem Ic(x:aX)(H:Z):bg H false 2 (.agg x.cells)=some (.ak x.cells,H):=by unfold bg;rw[aa ⟨rfl,x.len⟩];rfl
theorem xg(x:aX)(i:Nat):M i (.ak x.cells)=some (.ak (x.cells.drop i)):=rfl
theorem AZ(x:aX)(H:Z):O H 1 false (.ak (x.cells.drop 0))=some (.str x.field):=by rw[aX.be];rfl
theorem xh(x:aX)(H:Z):O H 1 false (.ak (x.cells.drop 1))=some (aD aA.cells x.aZ):=by rw[aX.be];rfl
theorem xi:ba [J,J,P,ar,J,ar] []=some (.agg dm):=rfl
theorem QD{g:aT}(a:Q (.bool (g.name==x.field)) H):S.f188 Φ (.agg g.cells) (.ak x.cells) H Q:=by
 unfold S.f188;have b:bg H false 9 (.agg g.cells)=some (.ak g.cells,H):=by unfold bg;rw[aa ⟨rfl,g.len⟩];rfl
 have c:O H 1 false (.ak (g.cells.drop 0))=some (.str g.name):=pk g;have l1:O H 1 false (.ak (x.cells.drop 0))=some (.str x.field):=AZ x H;rw[b];simp only[aV,M,G,c,l1,fc];exact a
theorem QE(W:Cl Φ S.cr)(hs:cO t=0)(hl:x.aZ.length≤maxLen)(w:∀H',Q (gb (de t x)) H'):S.f160 Φ (.agg t.cells) (.agg x.cells) H Q:=by
 have fin:∀v H',v=gb (de t x)→Q v H':=λv H' h=>by rw[h];exact w H'
 clear w;unfold S.f160;simp only[fH,Ic,aV,cw,ia,bc,G,b7,aB,aR,aY];have j:=T.new H (.row dm);change T (H.push (.row [J,J,P,ar,J,ar])) H.n _ at j;generalize (H.push (.row [J,J,P,ar,J,ar]))=H1 at *;generalize H.n=id at *;have bad:∀e:Int,e≠0→(de t x).1=e→Do (ba [J,J,P,ar,J,ar] []) λN=>
   Do (ax H1 6 (.ptr id 0) N) λz=>
   Do (O z 6 true (.ptr id 0)) λU=>
   Q (.aM [U,(D e)]) z:=by
  intro e he h;rw[xi];simp only[G];rw[j.put (n:=6) rfl rfl rfl];simp only[G];rw[(j.set _).all (n:=6) rfl];simp only[G];refine fin _ _ ?_;unfold gb;rw[h,ab he]
 have A:∀u:aC,de t x=(0,u)→∀H1,T H1 id (.row dm)→Do (ax H1 6 (.ptr id 0) (.agg u.cells)) λB=>
   Do (O B 6 true (.ptr id 0)) λV=>
   Q (.aM [V,J]) B:=by
  intro u hu H1 j;rw[j.put (n:=6) rfl u.len u.scalar];simp only[G];rw[(j.set _).all u.len];simp only[G];refine fin _ _ ?_;unfold gb;rw[hu];rfl
 have C : ∀ b : Bool,(b=true↔(t.kind=3∨t.kind=4))→S.wS Φ (.ak t.cells) (.ak x.cells) (.ptr id 0) Q [.bool b] H1:=by
  intro b X;have E : ∀ c : Bool,(c=true↔(1<x.aZ.length∨(x.aZ.length=1↔x.field≠[])))→S.wR Φ (.ak t.cells) (.ak x.cells) (.ptr id 0) [.bool b] Q [.bool c] H1:=by
   intro c hc;simp only[S.wR,aq,ai];apply aH<;>intro h
   ·exact bad 8 (by decide) (by unfold de;rw[aa (hc.1 h)])
   · have k : ¬(1<x.aZ.length∨(x.aZ.length=1↔x.field≠[])):=λy=>h (hc.2 y);have F : ∀d:Bool,(d=true↔(x.aZ.length=1∧t.kind=5))→S.wQ Φ (.ak t.cells) (.ak x.cells) (.ptr id 0) [.bool b] Q [.bool d] H1:=by
      intro d l;simp only[S.wQ,aq,ai];apply aH<;>intro h
      · obtain⟨a,I⟩:=l.1 h;obtain⟨e,he,_⟩:=k5 hs I;simp only[cw,gL,G];have Y:aU none 6 (aD aC.cells t.bf) (J)=some (d_ aC.cells 6 t.bf 0):=cp (by rw[he];simp);rw[Y];simp only[G];rw[dd aC.len (by decide) _ (show t.bf[0]?=some e by rw[he];rfl)];simp only[G];exact A e (by unfold de;rw[ab k,aa ⟨a,I⟩,he]) _ j
      · have o : ¬(x.aZ.length=1∧t.kind=5):=λy=>h (l.2 y);have K : ∀g:Bool,(g=true↔(x.aZ.length=1∨¬(t.kind=3∨t.kind=4)))→S.wP Φ (.ak t.cells) (.ak x.cells) (.ptr id 0) Q [.bool g] H1:=by
         intro g L;simp only[S.wP,aq,ai];apply aH<;>intro h
         ·exact bad 8 (by decide) (by unfold de;rw[ab k,ab o,aa (L.1 h)])
         · have n3:¬(x.aZ.length=1∨¬(t.kind=3∨t.kind=4)):=λy=>h (L.2 y);have Z:t.kind=3∨t.kind=4:=by omega
           obtain⟨_,hlen⟩:=mF hs Z;simp only[aB,S.Hi,cw,fq,G];refine S.AK W ?_;refine fieldIndex (p:=λf=>f.name==x.field) (λf _ R ac=>S.PR W (QD ac)) (by omega) ?_;simp only[bb,G,ai];rcases lP (λf:aT=>f.name==x.field) t.aI with⟨i,f,a,q,m⟩|⟨a,q⟩
           · rw [a];have r:=(Wh.1 m).1;rw[ab (by show ¬(decide ((i:Int)<0)=true);rw[dh];omega)];simp only[e8];rw[cp r];have ad:O H1 6 true (.ak (((t.aI.flatMap aT.cells).drop (i*9)).drop 1))=some (.agg f.type.cells):=by
              show bW _ 0 6 true=_;rw[nI aT.len];have l:t.aI.drop i=f::t.aI.drop (i+1):=by rw[ZH r];rw[Xc r]at m;simp at m;rw[m]
              rw[l,Zi,aT.be,Yi,ZD,Zv,List.append_assoc];exact k2 f.type.len
             simp only[G,d_,M,ad];exact A f.type (by unfold de;rw[ab k,ab o,ab n3,q]) _ j
           · rw[a,aa (by simp[e8])];exact bad 6 (by decide) (by unfold de;rw[ab k,ab o,ab n3,q])
        simp only[xg,xh,bH,bc,G,b7,aB,cV];apply aH<;>intro h
        · refine K _ ?_;simp only[beq_eq_false_iff_ne,ne_eq]at h;have:¬x.aZ.length=1:=by omega
          rw[←X];simp[this]
        · refine K _ ?_;simp only[ZV,b9]at h;have:x.aZ.length=1:=by omega
          simp[this]
     simp only[xg,xh,bH,bc,G,bG,aB,cw,ia];apply aH<;>intro h
     · refine F _ ?_;simp only[b9]at h;have:x.aZ.length=1:=by omega
       simp[this]
     · refine F _ ?_;simp only[b9]at h;have:¬x.aZ.length=1:=by omega
       simp[this]
  simp only[S.wS,xg,AZ,xh,bH,dv,bc,ky,Qa,Yf,cu,G,b7,aB];apply aH<;>intro h
  · refine E _ ?_;simp only[decide_eq_false_iff_not,gt_iff_lt]at h;have s:¬1<x.aZ.length:=by omega
    simp only[s,false_or];by_cases hf:x.field=[]
    · by_cases a:x.aZ.length=1
      ·simp[hf,a]
      · have:¬((x.aZ.length:Int)=1):=by omega
        simp[hf,a,this]
    · by_cases a:x.aZ.length=1
      ·simp[hf,a]
      · have e1:((x.aZ.length:Int)==1)=false:=by rw[beq_eq_false_iff_ne];omega
        have ae:x.field.isEmpty=false:=by simpa using hf
        simp[hf,a,e1,ae]
  · refine E _ ?_;simp only[decide_eq_false_iff_not,gt_iff_lt,ZC]at h;have s:1<x.aZ.length:=by omega
    simp[s]
 apply aH<;>intro h
 · refine C _ ?_;simp only[beq_eq_false_iff_ne,ne_eq]at h;simp[h]
 · refine C _ ?_;simp only[ZV,b9]at h;simp[h]
end
end Rb
