/- A part of the proof (part 4): see the last text. -/
import Derived.Test.YtbomedgnnklgbaaGreatDoorRb3
import Derived.Test.YtbomedgnnklgbaaGreatDoorRb1
import Derived.Test.YtbomedgnnklgbaaGreatDoorRb2
import Derived.KernelRfl
import Derived.LaidLaws
import Derived.LaidHandle
import Derived.Lib.LaidU8
import Derived.Deep.DeepLaidRun
import Derived.Handed
import Derived.JoinedOf
import Derived.SevenTiedAt
import Derived.ProofKit
import Derived.Lib.Space
import Derived.ChangeArms
import Derived.SizedLaws
import Derived.Lib.DecodeN
set_option linter.unusedVariables false
set_option linter.unusedSectionVars false
set_option linter.unusedSimpArgs false
open BitVec renaming ofInt→VR
open Bool renaming and_eq_true→Z3, and_self→ac0, false_eq_true→abS
open ByteArray renaming mk→Z6
open Decidable renaming not_not→adC
open Go.Addr renaming add→adt
open Go.DataW renaming trod→ado, weightsAll→adr, weights→adq
open Go.IntKind renaming bits→aaa, i64→aa7, max→adz, min→ady, signed→Z_, wrap→aa8
open Go.Lib renaming decodeN→adL, decode_at→adM
open Go.Utf8 renaming decode→ZW
open Go.World renaming cells?_some→adu
open Iff renaming rfl→adA
open Int renaming not_lt→adB
open List renaming all_append→adI, all_cons→acM, all_eq_true→aaW, append_nil→adJ, drop_drop→adv, drop_eq_getElem_cons→adE, drop_succ_cons→ac2, drop_zero→adx, findIdx?→adH, flatMap_cons→adn, getElem?_append_left→abB, getElem?_append_right→abC, getElem?_eq_getElem→aaQ, getElem?_eq_some_iff→ZX, getElem?_map→aaP, getElem?_of_mem→adO, getElem?_take_of_lt→abY, length_append→adD, length_drop→adK, length_take→adS, mem_append→ace, mem_map→acE, replicate→ZU, sizeOf_lt_of_mem→adN, take_append_of_le_length→adF, take_of_length_le→adG
open Nat renaming add_assoc→aai, add_mul→aaw, eq_zero_or_pos→ads, le_refl→np, le_succ→aaD, le_trans→sl, lt_of_lt_of_le→AV, lt_succ_self→acP, mod_eq_of_lt→adR, mul_add_mod→adQ, mul_comm→adP, mul_le_mul_right→abc, ne_of_lt→aaI, succ_mul→abX, zero_add→aaK, zero_le→aav
open Option renaming map_eq_some_iff→adw, map_some→aae, some→aad
open Prod renaming fst→adp
open Sum renaming elim→adm
namespace Go.Proofs.YtbomedgnnklgbaaGreatDoor.rb
open Rb
noncomputable section
def j1:List (Nat×List I×I):=[
  (58,[.str [118,97,114,32,116,104,114,101,97,100,32,115,116,114,117,99,116,32,117,110,105,111,110,32,112,97,99,107,101,100,32,117,56,32,117,49,54,32,117,51,50,32,117,54,52,32,97,56,32,97,49,54,32,97,51,50,32,97,54,52,32,97,49,50,56,32,108,101,116,32,115,101,116,32,119,114,105,116,101,32,115,116,111,114,101,32,108,111,97,100,50,32,115,116,111,114,101,50,32,102,101,110,99,101,32,105,102,32,101,108,115,101,32,119,104,105,108,101,32,112,114,105,110,116,32,114,101,97,100,32,108,111,97,100,32,97,100,100,32,115,119,97,112,32,99,97,115,32,114,108,120,32,97,99,113,32,114,101,108,32,115,99]],.ab .dead 34 [.str [118,97,114],.str [116,104,114,101,97,100],.str [115,116,114,117,99,116],.str [117,110,105,111,110],.str [112,97,99,107,101,100],.str [117,56],.str [117,49,54],.str [117,51,50],.str [117,54,52],.str [97,56],.str [97,49,54],.str [97,51,50],.str [97,54,52],.str [97,49,50,56],.str [108,101,116],.str [115,101,116],.str [119,114,105,116,101],.str [115,116,111,114,101],.str [108,111,97,100,50],.str [115,116,111,114,101,50],.str [102,101,110,99,101],.str [105,102],.str [101,108,115,101],.str [119,104,105,108,101],.str [112,114,105,110,116],.str [114,101,97,100],.str [108,111,97,100],.str [97,100,100],.str [115,119,97,112],.str [99,97,115],.str [114,108,120],.str [97,99,113],.str [114,101,108],.str [115,99]]),
  (106,[.ab .dead 34 [.str [118,97,114],.str [116,104,114,101,97,100],.str [115,116,114,117,99,116],.str [117,110,105,111,110],.str [112,97,99,107,101,100],.str [117,56],.str [117,49,54],.str [117,51,50],.str [117,54,52],.str [97,56],.str [97,49,54],.str [97,51,50],.str [97,54,52],.str [97,49,50,56],.str [108,101,116],.str [115,101,116],.str [119,114,105,116,101],.str [115,116,111,114,101],.str [108,111,97,100,50],.str [115,116,111,114,101,50],.str [102,101,110,99,101],.str [105,102],.str [101,108,115,101],.str [119,104,105,108,101],.str [112,114,105,110,116],.str [114,101,97,100],.str [108,111,97,100],.str [97,100,100],.str [115,119,97,112],.str [99,97,115],.str [114,108,120],.str [97,99,113],.str [114,101,108],.str [115,99]],.str [120]],.int .i64 (.negSucc 0)),
  (165,[.agg [.int .i64 (.ofNat 1),.int .i64 (.ofNat 4),.bool false,.ab .dead 0 [],.int .i64 (.ofNat 0),.ab .dead 0 []]],.bool true),
  (19,[.agg [.int .i64 (.ofNat 2),.int .i64 (.ofNat 28),.int .i64 (.ofNat 0),.int .i64 (.ofNat 0),.int .i64 (.ofNat 1),.int .i64 (.ofNat 0),.int .i64 (.ofNat 1)]],.ar [.int .u32 (.ofNat 4070572092),.int .i64 (.ofNat 0)])]
def lJ:List (Nat×List I×I):=[
  (20,[.str [118,97,114,32,120,32,117,51,50,32,59,32,116,104,114,101,97,100,32,123,32,119,114,105,116,101,32,120,32,61,32,55,32,59,32,125,32,116,104,114,101,97,100,32,123,32,112,114,105,110,116,32,114,101,97,100,32,120,32,59,32,125]],.ar [.agg [.ab .dead 1 [.str [120],.int .i64 (.ofNat 1),.int .i64 (.ofNat 4),.bool false,.ab .dead 0 [],.int .i64 (.ofNat 0),.ab .dead 0 []],.ab .dead 2 [.ab .dead 1 [.int .i64 (.ofNat 3),.int .i64 (.ofNat 1),.str [],.str [],.int .i64 (.ofNat 0),.str [120],.ab .dead 0 [],.ab .dead 1 [.int .i64 (.ofNat 1),.int .u64 (.ofNat 7),.str [],.int .i64 (.ofNat 0),.int .i64 (.ofNat 0),.str [],.ab .dead 0 [],.ab .dead 0 []],.ab .dead 0 [],.ab .dead 0 []],.ab .dead 1 [.int .i64 (.ofNat 10),.int .i64 (.ofNat 1),.str [],.str [],.int .i64 (.ofNat 0),.str [],.ab .dead 0 [],.ab .dead 1 [.int .i64 (.ofNat 4),.int .u64 (.ofNat 0),.str [],.int .i64 (.ofNat 0),.int .i64 (.ofNat 0),.str [120],.ab .dead 0 [],.ab .dead 0 []],.ab .dead 0 [],.ab .dead 0 []]]],.agg [.int .i64 (.ofNat 0),.int .i64 (.ofNat 0)]]),
  (66,[.agg [.int .i64 (.ofNat 1),.int .i64 (.ofNat 4),.bool false,.ab .dead 0 [],.int .i64 (.ofNat 0),.ab .dead 0 []]],.int .i64 (.ofNat 0))]
def nF:List (Nat×List I×I):=[
  (26,[.agg [.int .i64 (.ofNat 1),.int .i64 (.ofNat 4),.bool false,.ab .dead 0 [],.int .i64 (.ofNat 0),.ab .dead 0 []]],.ar [.agg [.int .i64 (.ofNat 4),.int .i64 (.ofNat 4)],.int .i64 (.ofNat 0)])]
def qP:List (Nat×List I×I):=[
  (6,[.agg [.ab .dead 1 [.str [120],.int .i64 (.ofNat 1),.int .i64 (.ofNat 4),.bool false,.ab .dead 0 [],.int .i64 (.ofNat 0),.ab .dead 0 []],.ab .dead 2 [.ab .dead 1 [.int .i64 (.ofNat 3),.int .i64 (.ofNat 1),.str [],.str [],.int .i64 (.ofNat 0),.str [120],.ab .dead 0 [],.ab .dead 1 [.int .i64 (.ofNat 1),.int .u64 (.ofNat 7),.str [],.int .i64 (.ofNat 0),.int .i64 (.ofNat 0),.str [],.ab .dead 0 [],.ab .dead 0 []],.ab .dead 0 [],.ab .dead 0 []],.ab .dead 1 [.int .i64 (.ofNat 10),.int .i64 (.ofNat 1),.str [],.str [],.int .i64 (.ofNat 0),.str [],.ab .dead 0 [],.ab .dead 1 [.int .i64 (.ofNat 4),.int .u64 (.ofNat 0),.str [],.int .i64 (.ofNat 0),.int .i64 (.ofNat 0),.str [120],.ab .dead 0 [],.ab .dead 0 []],.ab .dead 0 [],.ab .dead 0 []]]]],.agg [.int .i64 (.ofNat 0),.int .i64 (.ofNat 0)])]
def zY:List (Nat×List I×I):=[
  (4,[.agg [.ab .dead 1 [.str [120],.int .i64 (.ofNat 1),.int .i64 (.ofNat 4),.bool false,.ab .dead 0 [],.int .i64 (.ofNat 0),.ab .dead 0 []],.ab .dead 2 [.ab .dead 1 [.int .i64 (.ofNat 3),.int .i64 (.ofNat 1),.str [],.str [],.int .i64 (.ofNat 0),.str [120],.ab .dead 0 [],.ab .dead 1 [.int .i64 (.ofNat 1),.int .u64 (.ofNat 7),.str [],.int .i64 (.ofNat 0),.int .i64 (.ofNat 0),.str [],.ab .dead 0 [],.ab .dead 0 []],.ab .dead 0 [],.ab .dead 0 []],.ab .dead 1 [.int .i64 (.ofNat 10),.int .i64 (.ofNat 1),.str [],.str [],.int .i64 (.ofNat 0),.str [],.ab .dead 0 [],.ab .dead 1 [.int .i64 (.ofNat 4),.int .u64 (.ofNat 0),.str [],.int .i64 (.ofNat 0),.int .i64 (.ofNat 0),.str [120],.ab .dead 0 [],.ab .dead 0 []],.ab .dead 0 [],.ab .dead 0 []]]]],.ar [.agg [.ab .dead 2 [.ab .dead 6 [.int .u32 (.ofNat 3531604508),.int .u32 (.ofNat 4070572092),.int .u32 (.ofNat 3531604192),.int .u32 (.ofNat 3533701153),.int .u32 (.ofNat 3103784992),.int .u32 (.ofNat 3556769793)],.ab .dead 6 [.int .u32 (.ofNat 3531637276),.int .u32 (.ofNat 4070572092),.int .u32 (.ofNat 3533701152),.int .u32 (.ofNat 3107979265),.int .u32 (.ofNat 3556769857),.int .u32 (.ofNat 3556769793)]],.ab .dead 2 [.ab .dead 6 [.int .i64 (.ofNat 0),.int .i64 (.ofNat 0),.int .i64 (.ofNat 0),.int .i64 (.ofNat 0),.int .i64 (.ofNat 0),.int .i64 (.ofNat 0),.int .i64 (.ofNat 0),.int .i64 (.ofNat 0),.int .i64 (.ofNat 1),.int .i64 (.ofNat 0),.int .i64 (.ofNat 0),.int .i64 (.ofNat 1),.int .i64 (.ofNat 0),.int .i64 (.ofNat 1),.int .i64 (.ofNat 1),.int .i64 (.ofNat 0),.int .i64 (.ofNat 0),.int .i64 (.ofNat 1)],.ab .dead 6 [.int .i64 (.ofNat 1),.int .i64 (.ofNat 0),.int .i64 (.ofNat 0),.int .i64 (.ofNat 1),.int .i64 (.ofNat 0),.int .i64 (.ofNat 0),.int .i64 (.ofNat 1),.int .i64 (.ofNat 0),.int .i64 (.ofNat 1),.int .i64 (.ofNat 1),.int .i64 (.ofNat 1),.int .i64 (.ofNat 1),.int .i64 (.ofNat 1),.int .i64 (.ofNat 0),.int .i64 (.ofNat 1),.int .i64 (.ofNat 1),.int .i64 (.ofNat 0),.int .i64 (.ofNat 1)]],.ab .dead 1 [.str [120],.int .i64 (.ofNat 65536),.int .i64 (.ofNat 4)],.int .i64 (.ofNat 4)],.agg [.int .i64 (.ofNat 0),.int .i64 (.ofNat 0)]])]
theorem Qa:forced (kV (mA []) j1)=true:=by kernel_rfl
theorem EZ:gz (b7 C) (fP (j1++[])):=mz kW (nE qK) qK (c4 Qa)
theorem Qb:forced (kV (mA (j1++[])) lJ)=true:=by kernel_rfl
theorem E0:gz (b7 C) (fP (lJ++(j1++[]))):=mz kW (nE EZ) EZ (c4 Qb)
theorem Qc:forced (kV (mA (lJ++(j1++[]))) nF)=true:=by kernel_rfl
theorem E1:gz (b7 C) (fP (nF++(lJ++(j1++[])))):=mz kW (nE E0) E0 (c4 Qc)
theorem Qd:forced (kV (mA (nF++(lJ++(j1++[])))) qP)=true:=by kernel_rfl
theorem E2:gz (b7 C) (fP (qP++(nF++(lJ++(j1++[]))))):=mz kW (nE E1) E1 (c4 Qd)
theorem Qe:forced (kV (mA (qP++(nF++(lJ++(j1++[]))))) zY)=true:=by kernel_rfl
theorem Qf:gz (b7 C) (fP (zY++(qP++(nF++(lJ++(j1++[])))))):=mz kW (nE E2) E2 (c4 Qe)
theorem Qg:forced (kV (mA (zY++(qP++(nF++(lJ++(j1++[])))))) [(5,[],.bool true)])=true:=by kernel_rfl
theorem Qh:gz (b7 C) (fP [(5,[],.bool true)]):=mz kW (nE Qf) qK (N:=[(5,[],.bool true)]) (c4 Qg)
end
end Go.Proofs.YtbomedgnnklgbaaGreatDoor.rb

namespace Rb.K
end Rb.K

namespace Rb.S
open Go
open Go.Proofs.YtbomedgnnklgbaaGreatDoor.rb (C)
noncomputable def zZ : List (TypeId × Nat × Option (Nat × Bool)) := j0 C "Len" [9,181,183,336,338,355]
noncomputable def ud : List (TypeId × Nat × Option (Nat × Bool)) := j0 C "Less" [9,181,183,336,338,355]
noncomputable def E3 : List (TypeId × Nat × Option (Nat × Bool)) := j0 C "Pop" [9,181,183,336,338,355]
noncomputable def E4 : List (TypeId × Nat × Option (Nat × Bool)) := j0 C "Push" [9,181,183,336,338,355]
noncomputable def ue : List (TypeId × Nat × Option (Nat × Bool)) := j0 C "Swap" [9,181,183,336,338,355]
def E5(Φ:ae)(b:ST)(c:LT)(Q:ad):a:=λf d=>
 Do (M .add (D b.1 0) (J 1)) λe=>
 c ([e],d)
def z1(Φ:ae)(c:ST)(d:LT)(Q:ad):a:=λe b=>
 Gd (D e 0) true (
 Q P b) (
 G (E5 Φ c d Q) [] b)
def E6(Φ:ae)(b:ST)(c:LT)(Q:ad):a:=λf d=>
 Do (M .add (D b.1 0) (J 1)) λe=>
 c ([e],d)
def uf(Φ:ae)(c d:I)(b:ST)(f:LT)(Q:ad):BT:=λa e=>
 Do (aa 0 c) λg=>
 Do (Z a.2 1 false g) λh=>
 Do (aG none 1 h (D b.1 0)) λi=>
 Do (Z a.2 1 false i) λj=>
 Do (aU false j) λk=>
 Do (M .lss (D a.1 0) k) λl=>
 Gd l true (
 Do (aa 0 c) λm=>
 Do (Z a.2 1 false m) λo=>
 Do (aG none 1 o (D b.1 0)) λp=>
 Do (Z a.2 1 false p) λq=>
 Do (aG none 1 q (D a.1 0)) λr=>
 Do (Z a.2 1 false r) λs=>
 Do (aa 0 d) λt=>
 Do (Z a.2 1 false t) λu=>
 Do (aG none 1 u (D b.1 0)) λv=>
 Do (Z a.2 1 false v) λw=>
 Do (aG none 1 w (D a.1 0)) λx=>
 Do (Z a.2 1 false x) λy=>
 Do (M .neq s y) λz=>
 aM z false (
 Do (aa 1 c) λA=>
 Do (Z a.2 1 false A) λB=>
 Do (aG none 1 B (D b.1 0)) λC=>
 Do (Z a.2 1 false C) λE=>
 Do (aG none 3 E (D a.1 0)) λF=>
 Do (Z a.2 3 true F) λH=>
 Do (aa 1 d) λJ=>
 Do (Z a.2 1 false J) λK=>
 Do (aG none 1 K (D b.1 0)) λL=>
 Do (Z a.2 1 false L) λN=>
 Do (aG none 3 N (D a.1 0)) λO=>
 Do (Z a.2 3 true O) λP=>
 Do (iO true [.n,.n,.n] H P) λR=>
 G (z1 Φ a e Q) [R] a.2) (
 G (z1 Φ a e Q) [bg] a.2) (
 False)) (
 G (E6 Φ b f Q) [] a.2)
def qQ(Φ:ae)(b c:I)(Q:ad):BT:=λa d=>
 Do (aa 0 b) λe=>
 Do (Z a.2 1 false e) λf=>
 Do (aU false f) λg=>
 Do (M .lss (D a.1 0) g) λh=>
 Gd h true (
 Do (aa 0 b) λi=>
 Do (Z a.2 1 false i) λj=>
 Do (aG none 1 j (D a.1 0)) λk=>
 Do (Z a.2 1 false k) λl=>
 Do (aU false l) λm=>
 Do (aa 0 c) λn=>
 Do (Z a.2 1 false n) λo=>
 Do (aG none 1 o (D a.1 0)) λp=>
 Do (Z a.2 1 false p) λq=>
 Do (aU false q) λr=>
 Do (M .neq m r) λs=>
 Gd s true (
 Q P a.2) (
 av (uf Φ b c a d Q) ([O],a.2))) (
 Q bg a.2)
def z6(Φ:ae)(b c:I)(Q:ad):a:=λe d=>
 av (qQ Φ b c Q) ([O],d)
def z7(Φ:ae)(c d:I)(Q:ad):a:=λe b=>
 Gd (D e 0) true (
 Q P b) (
 G (z6 Φ c d Q) [] b)
def z8(Φ:ae)(c d:I)(Q:ad):a:=λe b=>
 aM (D e 0) false (
 Do (aa 3 c) λf=>
 Do (Z b 1 false f) λg=>
 Do (aa 3 d) λh=>
 Do (Z b 1 false h) λi=>
 Do (M .neq g i) λj=>
 G (z7 Φ c d Q) [j] b) (
 G (z7 Φ c d Q) [bg] b) (
 False)
def ug(Φ:ae)(k f:I)(Q:ad):a:=λS l=>
 Do (aa 0 k) λb=>
 Do (Z l 1 false b) λc=>
 au (b8 l false 1 0 [aw] []) λr m=>
 Do (aa 1 k) λg=>
 Do (Z m 1 false g) λh=>
 au (b8 m false 1 1 [aw] [(0,1,aw)]) λs t=>
 au (bH t false 1 24 r h) λu n=>
(Z n 1 false b=some c) ∧
(au (bH n false 1 24 u s) λv o=>
(Z o 1 false b=some c) ∧
(Do (aB [aw,aw] [(0,1,c),(1,1,v)]) λw=>
Φ 4 [w] o λp x=>
 Do (aY 0 p) λy=>
 Do (aY 1 p) λz=>
 au (some (aK x true [aw,aw,aw,O])) λe i=>
(Z i 1 false b=some c) ∧
(Z i 1 false g=some h) ∧
(au (some (aK i true [O,O])) λq j=>
(Z j 1 false b=some c) ∧
(Z j 1 false g=some h) ∧
(Do (Y j 4 e y) λA=>
 Do (Y A 2 q z) λd=>
 Do (aa 1 q) λB=>
 Do (Z d 1 false B) λC=>
 Do (M .neq C O) λD=>
 aM D false (
 Do (aa 0 e) λE=>
 Do (Z d 1 false E) λF=>
 Do (aU false F) λH=>
 Do (aa 0 f) λK=>
 Do (Z d 1 false K) λL=>
 Do (aU false L) λN=>
 Do (M .add N (J 1)) λP=>
 Do (M .neq H P) λR=>
 G (z8 Φ f e Q) [R] d) (
 G (z8 Φ f e Q) [bg] d) (
 False)))))
def uh(Φ:ae)(c d:I)(Q:ad):a:=λe b=>
 Gd (D e 0) true (
Φ 5 [] b λf g=>
 Q f g) (
 G (ug Φ c d Q) [] b)
def ui(Φ:ae)(b d:I)(Q:ad):a:=λe c=>
 aM (D e 0) false (
 Do (aa 1 b) λf=>
 Do (Z c 1 false f) λg=>
 Do (aU false g) λh=>
 Do (M .geq h (J 8)) λi=>
 G (uh Φ b d Q) [i] c) (
 G (uh Φ b d Q) [bg] c) (
 False)
def f3(Φ:ae)(a0:I)(H:AH)(Q:ad):Prop:=
 au (aL H false 2 a0) λa H2=>
 Do (Z H2 2 true a) λf=>
Φ 4 [f] H2 λd g=>
 Do (aY 0 d) λh=>
 Do (aY 1 d) λi=>
 au (some (aK g true [aw,aw,aw,O])) λb j=>
 au (some (aK j true [O,O])) λe k=>
 Do (Y k 4 b h) λl=>
 Do (Y l 2 e i) λm=>
Φ 5 [] m λn c=>
 Do (cO .not n) λo=>
 aM o false (
 Do (aa 1 e) λp=>
 Do (Z c 1 false p) λq=>
 Do (M .neq q O) λr=>
 G (ui Φ a b Q) [r] c) (
 G (ui Φ a b Q) [bg] c) (
 False)
noncomputable def E7:aF:=A C ⟨3,[3,4,5,6],[[7],[8]],none,[],[]⟩
def E8(Φ:ae)(c d f:I)(Q:ad):a:=λp g=>
 au (fb g f) λh i=>
 au (fb i h) λj e=>
 Do (Z e 4 true j) λk=>
 Do (aB [O,O] []) λl=>
 Do (Y e 4 c k) λm=>
 Do (Y m 2 d l) λb=>
 Do (Z b 4 true c) λn=>
 Do (Z b 2 true d) λo=>
 Q (.ar [n,o]) b
def uj(Φ:ae)(n e f c o:I)(Q:ad):BT:=λa p=>
 Do (M .lss (D a.1 0) o) λq=>
 Gd q true (
 Do (Z a.2 2 true n) λr=>
 Do (Z a.2 4 true c) λs=>
Φ 8 [r,s,(D a.1 0)] a.2 λg t=>
 Do (aY 0 g) λu=>
 Do (aY 1 g) λv=>
 Do (aY 2 g) λw=>
 au (some (aK t true [O,O])) λd x=>
 Do (Y x 2 d w) λb=>
 Do (aa 1 d) λy=>
 Do (Z b 1 false y) λz=>
 Do (M .neq z O) λA=>
 Gd A true (
 Do (aB [aw,aw,aw,O] []) λB=>
 Do (Z b 2 true d) λi=>
 Do (Y b 4 e B) λj=>
(Z j 2 true d=some i) ∧
(Do (Y j 2 f i) λh=>
 Do (Z h 4 true e) λC=>
 Do (Z h 2 true f) λE=>
 Q (.ar [C,E]) h)) (
 Do (aa 0 c) λF=>
 Do (Z b 1 false F) λH=>
 Do (aa 1 c) λk=>
 Do (Z b 1 false k) λl=>
 Do (aG none 1 H (D a.1 0)) λK=>
 Do (Y b 1 K u) λm=>
(Z m 1 false k=some l) ∧
(Do (aG none 1 l (D a.1 0)) λL=>
 Do (Y m 1 L v) λN=>
 Do (M .add (D a.1 0) (J 1)) λP=>
 p ([P],N)))) (
 G (E8 Φ e f c Q) [] a.2)
def f4(Φ:ae)(a0:I)(H:AH)(Q:ad):Prop:=
 au (aL H false 2 a0) λa H2=>
 au (some (aK H2 true [aw,aw,aw,O])) λe r=>
 au (some (aK r true [O,O])) λf i=>
 Do (Z i 2 true a) λs=>
Φ 6 [s] i λt u=>
 au (some (aK u true [O,O])) λc v=>
 Do (Y v 2 c t) λd=>
 Do (aa 1 c) λw=>
 Do (Z d 1 false w) λx=>
 Do (M .neq x O) λy=>
 Gd y true (
 Do (aB [aw,aw,aw,O] []) λz=>
 Do (Z d 2 true c) λj=>
 Do (Y d 4 e z) λk=>
(Z k 2 true c=some j) ∧
(Do (Y k 2 f j) λg=>
 Do (Z g 4 true e) λA=>
 Do (Z g 2 true f) λB=>
 Q (.ar [A,B]) g)) (
 au (some (aK d true [aw,aw,aw,O])) λb l=>
 Do (aa 0 a) λC=>
 Do (Z l 1 false C) λD=>
Φ 7 [D] l λh E=>
 Do (aY 0 h) λF=>
 Do (aY 1 h) λG=>
 Do (aY 2 h) λah=>
 Do (aa 2 b) λJ=>
 Do (Y E 1 J F) λK=>
 Do (aa 3 b) λL=>
 Do (Y K 1 L G) λm=>
 Do (aa 1 a) λN=>
 Do (Z m 1 false N) λP=>
 Do (aU false P) λn=>
 au (ir m true 1 24 [aw] n n) λR S=>
 Do (aa 0 b) λT=>
 Do (Y S 1 T R) λo=>
 Do (aa 1 a) λU=>
 Do (Z o 1 false U) λV=>
 Do (aU false V) λp=>
 au (ir o true 1 24 [aw] p p) λW X=>
 Do (aa 1 b) λab=>
 Do (Y X 1 ab W) λq=>
 Do (aa 1 a) λac=>
 Do (Z q 1 false ac) λaf=>
 Do (aU false af) λag=>
 av (uj Φ a e f b ag Q) ([O],q))
noncomputable def E9:aF:=A C ⟨4,[2,3,4,5,9,29,34],[[39]],none,[],[(16,[5,5])]⟩
def f5(Φ:ae)(H:AH)(Q:ad):Prop:=
Φ 9 [(.str [118,97,114,32,120,32,117,51,50,32,59,32,116,104,114,101,97,100,32,123,32,119,114,105,116,101,32,120,32,61,32,55,32,59,32,125,32,116,104,114,101,97,100,32,123,32,112,114,105,110,116,32,114,101,97,100,32,120,32,59,32,125])] H λc H2=>
 Do (aY 0 c) λg=>
 Do (aY 1 c) λh=>
 au (some (aK H2 true [aw,aw,aw,O])) λb i=>
 au (some (aK i true [O,O])) λd j=>
 Do (Y j 4 b g) λk=>
 Do (Y k 2 d h) λl=>
Φ 9 [(.str [116,104,114,101,97,100,32,123,32,112,114,105,110,116,32,121,32,59,32,125])] l λe m=>
 Do (aY 0 e) λo=>
 Do (aY 1 e) λp=>
 au (some (aK m true [aw,aw,aw,O])) λq r=>
 au (some (aK r true [O,O])) λf s=>
 Do (Y s 4 q o) λt=>
 Do (Y t 2 f p) λa=>
 Do (aa 1 d) λu=>
 Do (Z a 1 false u) λv=>
 Do (M .eql v O) λw=>
 aM w true (
 Do (Z a 2 true f) λx=>
 Do (aB [O,O] [(0,1,(J 1)),(1,1,(J 6))]) λy=>
 Do (iO false [.n,.n] x y) λz=>
 aM z true (
 Do (aa 0 b) λA=>
 Do (Z a 1 false A) λB=>
 Do (aU false B) λC=>
 Do (M .eql C (J 2)) λD=>
 aM D true (
 Do (aa 1 b) λE=>
 Do (Z a 1 false E) λF=>
 Do (aG none 1 F O) λG=>
 Do (Z a 1 false G) λI=>
 Do (aU false I) λK=>
 Do (aa 0 b) λL=>
 Do (Z a 1 false L) λN=>
 Do (aG none 1 N O) λR=>
 Do (Z a 1 false R) λS=>
 Do (aU false S) λT=>
 Do (M .eql K T) λU=>
 aM U true (
 Do (aa 3 b) λV=>
 Do (Z a 1 false V) λW=>
 Do (M .eql W (J 4)) λX=>
 aM X true (
 Do (Z a 4 true b) λab=>
 Do (aB [O,O] [(0,1,(J 66576)),(1,1,(J 1024))]) λac=>
Φ 10 [ab,(J 1)] a λaf ag=>
 Do (iO false [.n,.n] af ac) λah=>
 Q ah ag) (
 Q P a) (
 False)) (
 Q P a) (
 False)) (
 Q P a) (
 False)) (
 Q P a) (
 False)) (
 Q P a) (
 False)
noncomputable def Qi:aF:=A C ⟨5,[1,2,3,4],[],none,[],[]⟩
def E_(Φ:ae)(b:I)(Q:ad):a:=λg d=>
 Do (aB [O,O] []) λe=>
 Do (Y d 2 b e) λc=>
 Do (Z c 2 true b) λf=>
 Q f c
def uk(Φ:ae)(f b g h:I)(Q:ad):BT:=λa i=>
 Do (M .lss (D a.1 0) h) λj=>
 Gd j true (
 Do (aG none 1 g (D a.1 0)) λk=>
 Do (Z a.2 1 false k) λl=>
 Do (aa 0 f) λm=>
 Do (Z a.2 1 false m) λn=>
 Do (aB [aw,aw,O,O,O,O] [(0,1,n)]) λo=>
 au (aL a.2 true 6 o) λc p=>
Φ 12 [c,l,(J 1)] p λx q=>
Φ 13 [c] q λr d=>
 Gd r true (
 Do (aD c) λs=>
 Do (aa 4 s) λt=>
 Do (Z d 2 true t) λu=>
 Do (Y d 2 b u) λe=>
 Do (Z e 2 true b) λv=>
 Q v e) (
 Do (M .add (D a.1 0) (J 1)) λw=>
 i ([w],d))) (
 G (E_ Φ b Q) [] a.2)
def z_(Φ:ae)(b c:I)(Q:ad):a:=λp e=>
 Do (aa 0 b) λi=>
 Do (Z e 1 false i) λj=>
Φ 11 [j] e λf d=>
 Do (M .neq f O) λk=>
 Gd k true (
 Do (aB [O,O] [(1,1,f)]) λl=>
 Do (Y d 2 c l) λg=>
 Do (Z g 2 true c) λm=>
 Q m g) (
 Do (aa 1 b) λn=>
 Do (Z d 1 false n) λh=>
 Do (aU false h) λo=>
 av (uk Φ b c h o Q) ([O],d))
def uo(Φ:ae)(e b:I)(Q:ad):a:=λf c=>
 Gd (D f 0) true (
 Do (aB [O,O] [(1,1,(J 12))]) λg=>
 Do (Y c 2 b g) λd=>
 Do (Z d 2 true b) λh=>
 Q h d) (
 G (z_ Φ e b Q) [] c)
def uq(Φ:ae)(b d:I)(Q:ad):a:=λe c=>
 aM (D e 0) false (
 Do (aa 1 b) λf=>
 Do (Z c 1 false f) λg=>
 Do (aU false g) λh=>
 Do (M .gtr h (J 8)) λi=>
 G (uo Φ b d Q) [i] c) (
 G (uo Φ b d Q) [bg] c) (
 False)
def f6(Φ:ae)(a0:I)(H:AH)(Q:ad):Prop:=
 au (aL H false 2 a0) λa H2=>
 au (some (aK H2 true [O,O])) λc b=>
 Do (aa 0 a) λd=>
 Do (Z b 1 false d) λe=>
 Do (aU false e) λf=>
 Do (M .gtr f (J 32)) λg=>
 aM g false (
 Do (aa 1 a) λh=>
 Do (Z b 1 false h) λi=>
 Do (aU false i) λj=>
 Do (M .lss j (J 1)) λk=>
 G (uq Φ a c Q) [k] b) (
 G (uq Φ a c Q) [bg] b) (
 False)
noncomputable def Fa:aF:=A C ⟨6,[2,41],[[34]],none,[],[]⟩
def Fb(Φ:ae)(c:ST)(d:LT)(Q:ad):a:=λb e=>
 Do (M .add (D c.1 2) (J 1)) λf=>
 d ([(D b 0),(D b 1),f],e)
def ur(Φ:ae)(f b:I)(c:ST)(g:LT)(Q:ad):a:=λd e=>
 Do (aa 0 f) λh=>
 Do (Z e 1 false h) λi=>
 Do (M .add (J 65536) (D d 0)) λj=>
 Do (aB [O,O] [(0,1,j),(1,1,b)]) λk=>
 Do (aB [.str [],O,O] [(0,1,i),(1,2,k)]) λl=>
 au (b8 e false 3 1 [.str [],O,O] [(0,3,l)]) λm n=>
 au (bH n false 3 32 (D c.1 0) m) λo p=>
 Do (M .add (D d 0) b) λq=>
 G (Fb Φ c g Q) [o,q] p
def Fc(Φ:ae)(Q:ad):a:=λb H2=>
 Do (M .gtr (D b 1) (J 65536)) λc=>
 Gd c true (
 Q (.ar [aw,O,(J 9)]) H2) (
 Q (.ar [(D b 0),(D b 1),O]) H2)
def qR(Φ:ae)(a0 k:I)(Q:ad):BT:=λa f=>
 Do (M .lss (D a.1 2) k) λl=>
 Gd l true (
 Do (aG none 7 a0 (D a.1 2)) λm=>
 Do (Z a.2 7 true m) λn=>
 au (some (aK a.2 true [.str [],O,O,P,aw,O,aw])) λb o=>
 Do (Y o 7 b n) λg=>
 Do (aa 1 b) λp=>
 Do (Z g 6 true p) λq=>
Φ 14 [q] g λc d=>
 Do (aY 0 c) λh=>
 Do (aY 1 c) λe=>
 Do (aY 2 c) λi=>
 Do (M .neq i O) λr=>
 Gd r true (
 Q (.ar [aw,O,i]) d) (
 Do (M .add (D a.1 1) e) λs=>
 Do (M .sub s (J 1)) λt=>
 Do (M .quo t e) λu=>
 Do (M .mul u e) λj=>
 Do (M .gtr j (J 65536)) λv=>
 Gd v true (
 G (ur Φ b h a f Q) [(J 65537)] d) (
 G (ur Φ b h a f Q) [j] d))) (
 G (Fc Φ Q) [(D a.1 0),(D a.1 1)] a.2)
def f7(Φ:ae)(a0:I)(H:AH)(Q:ad):Prop:=
 Do (aU false a0) λa=>
 av (qR Φ a0 a Q) ([aw,O,O],H)
noncomputable def Fe:aF:=A C ⟨7,[8],[[5,6,14]],none,[],[]⟩
def Ff(Φ:ae)(b:I)(Q:ad):a:=λc e=>
 Do (aB [O,O] []) λf=>
 Do (Y e 2 b f) λd=>
 Do (Z d 2 true b) λg=>
 Q (.ar [(D c 0),(D c 1),g]) d
def qS(Φ:ae)(i b j k l m:I)(Q:ad):BT:=λa n=>
 Do (M .lss (D a.1 2) m) λo=>
 Gd o true (
 Do (aG none 7 j (D a.1 2)) λp=>
 Do (Z a.2 7 true p) λq=>
 au (some (aK a.2 true [O,O,O,O,O,O,O])) λd r=>
 Do (Y r 7 d q) λe=>
 Do (Z e 7 true d) λs=>
Φ 19 [s] e λf g=>
 Do (aY 0 f) λt=>
 Do (aY 1 f) λu=>
 Do (M .neq u O) λv=>
 Gd v true (
 Do (aB [O,O] [(1,1,(J 12))]) λw=>
 Do (Y g 2 b w) λh=>
 Do (Z h 2 true b) λx=>
 Q (.ar [aw,aw,x]) h) (
 au (b8 g false 1 1 [.int .u32 0] [(0,1,t)]) λy z=>
 au (bH z false 1 4 (D a.1 0) y) λA c=>
 Do (aG none 1 k (D a.1 2)) λB=>
 Do (Z c 1 false B) λC=>
 Do (aG none 1 l (D a.1 2)) λE=>
 Do (Z c 1 false E) λF=>
 Do (aB [O,O,O] [(0,1,i),(1,1,C),(2,1,F)]) λH=>
 au (b8 c false 3 1 [O,O,O] [(0,3,H)]) λK L=>
 au (bH L false 3 24 (D a.1 1) K) λN P=>
 Do (M .add (D a.1 2) (J 1)) λR=>
 n ([A,N,R],P))) (
 G (Ff Φ b Q) [(D a.1 0),(D a.1 1)] a.2)
def f8(Φ:ae)(a0 W d:I)(H:AH)(Q:ad):Prop:=
 au (aL H false 2 a0) λr H2=>
 au (aL H2 false 4 W) λs t=>
 au (some (aK t true [O,O])) λa h=>
 Do (Z h 2 true r) λu=>
Φ 15 [u,d] h λe v=>
 Do (aY 0 e) λi=>
 Do (aY 1 e) λj=>
 Do (aY 2 e) λw=>
 au (some (aK v true [O,O])) λf x=>
 Do (Y x 2 f w) λb=>
 Do (aa 1 f) λy=>
 Do (Z b 1 false y) λz=>
 Do (M .neq z O) λA=>
 Gd A true (
 Do (Z b 2 true f) λB=>
 Do (Y b 2 a B) λk=>
 Do (Z k 2 true a) λC=>
 Q (.ar [aw,aw,C]) k) (
Φ 17 [i,j] b λD E=>
Φ 16 [D,j,(J 7)] E λl g=>
 Do (aY 0 l) λF=>
 Do (aY 1 l) λG=>
 Do (M .mul (J 8) G) λK=>
 Do (M .gtr K (J 1024)) λL=>
 Gd L true (
 Do (aB [O,O] [(1,1,(J 12))]) λN=>
 Do (Y g 2 a N) λm=>
 Do (Z m 2 true a) λP=>
 Q (.ar [aw,aw,P]) m) (
 Do (Z g 4 true s) λR=>
Φ 10 [R,d] g λS T=>
 Do (jS 0 1 false S) λU=>
 Do (dK .u64 U) λV=>
Φ 18 [i,F,V] T λc n=>
 Do (aY 0 c) λo=>
 Do (aY 1 c) λX=>
 Do (aY 2 c) λab=>
 Do (aY 3 c) λp=>
 Do (M .neq p O) λac=>
 Gd ac true (
 Do (aB [O,O] [(1,1,p)]) λaf=>
 Do (Y n 2 a af) λq=>
 Do (Z q 2 true a) λag=>
 Q (.ar [aw,aw,ag]) q) (
 Do (aU false o) λah=>
 av (qS Φ d a o X ab ah Q) ([aw,aw,O],n))))
noncomputable def Fg:aF:=A C ⟨8,[8,11,21],[[18,19,66]],none,[],[]⟩
def f9(Φ:ae)(a0:I)(H:AH)(Q:ad):Prop:=
 au (some (aK H true [aw,aw,aw,O])) λb H2=>
 au (some (aK H2 true [O,O])) λc l=>
Φ 20 [a0] l λg m=>
 Do (aY 0 g) λn=>
 Do (aY 1 g) λo=>
 au (some (aK m true [aw,aw])) λh p=>
 au (some (aK p true [O,O])) λd q=>
 Do (Y q 2 h n) λr=>
 Do (Y r 2 d o) λa=>
 Do (aa 1 d) λs=>
 Do (Z a 1 false s) λt=>
 Do (M .neq t O) λu=>
 Gd u true (
 Do (aB [aw,aw,aw,O] []) λv=>
 Do (Z a 2 true d) λi=>
 Do (Y a 4 b v) λj=>
(Z j 2 true d=some i) ∧
(Do (Y j 2 c i) λe=>
 Do (Z e 4 true b) λw=>
 Do (Z e 2 true c) λx=>
 Q (.ar [w,x]) e)) (
 Do (Z a 2 true h) λy=>
Φ 4 [y] a λk z=>
 Do (aY 0 k) λA=>
 Do (aY 1 k) λB=>
 Do (Y z 4 b A) λC=>
 Do (Y C 2 c B) λf=>
 Do (Z f 4 true b) λD=>
 Do (Z f 2 true c) λE=>
 Q (.ar [D,E]) f)
noncomputable def Qj:aF:=A C ⟨9,[2,3,4,5],[],none,[],[]⟩
def Fh(Φ:ae)(W e b:I)(Q:ad):a:=λq c=>
 Do (aa 3 e) λf=>
 Do (Z c 1 false f) λg=>
 Do (M .add g (J 16)) λh=>
 Do (M .sub h (J 1)) λi=>
 Do (M .quo i (J 16)) λj=>
 Do (M .mul j (J 16)) λk=>
 Do (M .add (J 65536) k) λl=>
 Do (M .mul W (J 1024)) λm=>
 Do (M .add l m) λn=>
 Do (aB [O,O] [(0,1,n),(1,1,(J 1024))]) λo=>
 Do (Y c 2 b o) λd=>
 Do (Z d 2 true b) λp=>
 Q p d
def Aa(Φ:ae)(W e b:I)(Q:ad):a:=λf c=>
 Gd (D f 0) true (
 Do (aB [O,O] []) λg=>
 Do (Y c 2 b g) λd=>
 Do (Z d 2 true b) λh=>
 Q h d) (
 G (Fh Φ W e b Q) [] c)
def Ab(Φ:ae)(W b d:I)(Q:ad):a:=λe c=>
 aM (D e 0) false (
 Do (aa 3 b) λf=>
 Do (Z c 1 false f) λg=>
 Do (M .gtr g (J 65536)) λh=>
 G (Aa Φ W b d Q) [h] c) (
 G (Aa Φ W b d Q) [bg] c) (
 False)
def Ac(Φ:ae)(W b d:I)(Q:ad):a:=λe c=>
 aM (D e 0) false (
 Do (aa 3 b) λf=>
 Do (Z c 1 false f) λg=>
 Do (M .lss g O) λh=>
 G (Ab Φ W b d Q) [h] c) (
 G (Ab Φ W b d Q) [bg] c) (
 False)
def Ad(Φ:ae)(W b c:I)(Q:ad):a:=λe d=>
 aM (D e 0) false (
 Do (M .geq W (J 8)) λf=>
 G (Ac Φ W b c Q) [f] d) (
 G (Ac Φ W b c Q) [bg] d) (
 False)
def f10(Φ:ae)(a0 W:I)(H:AH)(Q:ad):Prop:=
 au (aL H false 4 a0) λa H2=>
 au (some (aK H2 true [O,O])) λc b=>
 Do (M .lss W O) λd=>
 aM d false (
 Do (aa 0 a) λe=>
 Do (Z b 1 false e) λf=>
 Do (aU false f) λg=>
 Do (M .geq W g) λh=>
 G (Ad Φ W a c Q) [h] b) (
 G (Ad Φ W a c Q) [bg] b) (
 False)
noncomputable def Fi:aF:=A C ⟨10,[4],[],none,[],[]⟩
def Fj(Φ:ae)(b:ST)(c:LT)(Q:ad):a:=λd e=>
 Do (M .add (D b.1 1) (J 1)) λf=>
 c ([(D d 0),f],e)
def Ae(Φ:ae)(h:I)(d:ST)(i:LT)(Q:ad):a:=λs e=>
 Do (aa 1 h) λj=>
 Do (Z e 6 true j) λk=>
Φ 14 [k] e λb f=>
 Do (aY 0 b) λl=>
 Do (aY 1 b) λc=>
 Do (aY 2 b) λg=>
 Do (M .neq g O) λm=>
 Gd m true (
 Q g f) (
 Do (M .add (D d.1 0) c) λn=>
 Do (M .sub n (J 1)) λo=>
 Do (M .quo o c) λp=>
 Do (M .mul p c) λq=>
 Do (M .add q l) λr=>
 G (Fj Φ d i Q) [r] f)
def uu(Φ:ae)(a0 b:I)(c:ST)(f:LT)(Q:ad):a:=λg d=>
 Gd (D g 0) true (
 Q (J 6) d) (
 Do (c9 7 a0 none (some (D c.1 1)) none) λh=>
Φ 23 [h,(.fn 24 [b])] d λi e=>
 Gd i true (
 Q (J 7) e) (
 G (Ae Φ b c f Q) [] e))
def Fk(Φ:ae)(Q:ad):a:=λc b=>
 Do (M .gtr (D c 0) (J 65536)) λd=>
 Gd d true (
 Q (J 9) b) (
 Q O b)
def pk(Φ:ae)(a0 f:I)(Q:ad):BT:=λa d=>
 Do (M .lss (D a.1 1) f) λg=>
 Gd g true (
 Do (aG none 7 a0 (D a.1 1)) λh=>
 Do (Z a.2 7 true h) λi=>
 au (some (aK a.2 true [.str [],O,O,P,aw,O,aw])) λb j=>
 Do (Y j 7 b i) λe=>
 Do (aa 0 b) λk=>
 Do (Z e 1 false k) λl=>
Φ 21 [l] e λm c=>
 Do (cO .not m) λn=>
 aM n false (
 Do (aa 0 b) λo=>
 Do (Z c 1 false o) λp=>
Φ 22 [p] c λq r=>
 G (uu Φ a0 b a d Q) [q] r) (
 G (uu Φ a0 b a d Q) [bg] c) (
 False)) (
 G (Fk Φ Q) [(D a.1 0)] a.2)
def f11(Φ:ae)(a0:I)(H:AH)(Q:ad):Prop:=
 Do (aU false a0) λa=>
 Do (M .gtr a (J 32)) λb=>
 Gd b true (
 Q (J 12) H) (
 Do (aU false a0) λc=>
 av (pk Φ a0 c Q) ([O,O],H))
noncomputable def Fl:aF:=A C ⟨11,[5],[[3,14]],none,[],[]⟩
def uv(Φ:ae)(b:ST)(c:LT)(Q:ad):a:=λf d=>
 Do (M .add (D b.1 0) (J 1)) λe=>
 c ([e],d)
def Fo(Φ:ae)(a0 c:I)(Q:ad):a:=λk b=>
 Do (aD a0) λd=>
 Do (aa 1 d) λe=>
 Do (Z b 1 false e) λf=>
 Do (c9 1 f none (some c) none) λg=>
 Do (aD a0) λh=>
 Do (aa 1 h) λi=>
 Do (Y b 1 i g) λj=>
 Q (.ar []) j
def qT(Φ:ae)(a0 W f g h:I)(Q:ad):BT:=λa d=>
 Do (M .lss (D a.1 0) h) λi=>
 Gd i true (
 Do (aG none 10 W (D a.1 0)) λj=>
 Do (Z a.2 10 true j) λk=>
 au (some (aK a.2 true [O,O,.str [],.str [],O,.str [],aw,aw,aw,aw])) λb l=>
 Do (Y l 10 b k) λm=>
Φ 13 [a0] m λn c=>
 Do (cO .not n) λo=>
 Gd o true (
 Do (aa 1 b) λp=>
 Do (Z c 1 false p) λq=>
 Do (aD a0) λr=>
 Do (aa 3 r) λs=>
 Do (Y c 1 s q) λe=>
 Do (Z e 10 true b) λt=>
Φ 25 [a0,t,f] e λv u=>
 G (uv Φ a d Q) [] u) (
 G (uv Φ a d Q) [] c)) (
 G (Fo Φ a0 g Q) [] a.2)
def f12(Φ:ae)(a0 W a:I)(H:AH)(Q:ad):Prop:=
 Do (aD a0) λb=>
 Do (aa 1 b) λc=>
 Do (Z H 1 false c) λd=>
 Do (aU false d) λe=>
 Do (aU false W) λf=>
 av (qT Φ a0 W a e f Q) ([O],H)
noncomputable def Fp:aF:=A C ⟨12,[8],[[16]],none,[],[]⟩
def f13(Φ:ae)(a0:I)(H:AH)(Q:ad):Prop:=
 Do (aD a0) λa=>
 Do (aa 4 a) λb=>
 Do (aa 1 b) λc=>
 Do (Z H 1 false c) λd=>
 Do (M .neq d O) λe=>
 Q e H
noncomputable def Fq:aF:=A C ⟨13,[],[],none,[],[]⟩
def f14(Φ:ae)(a0:I)(H:AH)(Q:ad):Prop:=
 au (aL H false 6 a0) λd H2=>
 Do (Z H2 6 true d) λe=>
Φ 26 [e] H2 λc f=>
 Do (aY 0 c) λg=>
 Do (aY 1 c) λh=>
 au (some (aK f true [O,O])) λa i=>
 Do (Y i 2 a g) λb=>
 Do (aa 0 a) λj=>
 Do (Z b 1 false j) λk=>
 Do (aa 1 a) λl=>
 Do (Z b 1 false l) λm=>
 Q (.ar [k,m,h]) b
noncomputable def Fs:aF:=A C ⟨14,[5],[],none,[],[]⟩
def Ft(Φ:ae)(W e c:I)(Q:ad):a:=λN h=>
 Do (aa 0 e) λl=>
 Do (Z h 1 false l) λm=>
Φ 7 [m] h λf i=>
 Do (aY 0 f) λn=>
 Do (aY 1 f) λP=>
 Do (aY 2 f) λR=>
 Do (aa 0 e) λo=>
 Do (Z i 1 false o) λp=>
 Do (aB [aw,aw,aw,O,O,aw,O,aw] [(0,1,p),(1,1,n)]) λq=>
 au (aL i true 8 q) λd g=>
 Do (aa 1 e) λr=>
 Do (Z g 1 false r) λs=>
 Do (aG none 1 s W) λt=>
 Do (Z g 1 false t) λu=>
Φ 27 [d,u] g λS b=>
 Do (aD d) λv=>
 Do (aa 2 v) λw=>
 Do (Z b 1 false w) λx=>
 Do (aU false x) λy=>
 Do (M .gtr y (J 16384)) λz=>
 Gd z true (
 Do (aB [O,O] [(1,1,(J 12))]) λA=>
 Do (Y b 2 c A) λj=>
 Do (Z j 2 true c) λB=>
 Q (.ar [aw,O,B]) j) (
 Do (aD d) λC=>
 Do (aa 2 C) λD=>
 Do (Z b 1 false D) λE=>
 Do (aD d) λF=>
 Do (aa 3 F) λG=>
 Do (Z b 1 false G) λH=>
 Do (aB [O,O] []) λK=>
 Do (Y b 2 c K) λk=>
 Do (Z k 2 true c) λL=>
 Q (.ar [E,H,L]) k)
def Af(Φ:ae)(W e b:I)(Q:ad):a:=λf c=>
 Gd (D f 0) true (
 Do (aB [O,O] [(1,1,(J 1))]) λg=>
 Do (Y c 2 b g) λd=>
 Do (Z d 2 true b) λh=>
 Q (.ar [aw,O,h]) d) (
 G (Ft Φ W e b Q) [] c)
def f15(Φ:ae)(a0 W:I)(H:AH)(Q:ad):Prop:=
 au (aL H false 2 a0) λb H2=>
 au (some (aK H2 true [O,O])) λc e=>
 Do (Z e 2 true b) λg=>
Φ 6 [g] e λh i=>
 au (some (aK i true [O,O])) λd j=>
 Do (Y j 2 d h) λa=>
 Do (aa 1 d) λk=>
 Do (Z a 1 false k) λl=>
 Do (M .neq l O) λm=>
 Gd m true (
 Do (Z a 2 true d) λn=>
 Do (Y a 2 c n) λf=>
 Do (Z f 2 true c) λo=>
 Q (.ar [aw,O,o]) f) (
 Do (M .lss W O) λp=>
 aM p false (
 Do (aa 1 b) λq=>
 Do (Z a 1 false q) λr=>
 Do (aU false r) λs=>
 Do (M .geq W s) λt=>
 G (Af Φ W b c Q) [t] a) (
 G (Af Φ W b c Q) [bg] a) (
 False))
noncomputable def Fu:aF:=A C ⟨15,[6,7,39],[],none,[],[]⟩
def nG(Φ:ae)(b:ST)(c:LT)(Q:ad):a:=λf d=>
 Do (M .add (D b.1 0) (J 1)) λe=>
 c ([e],d)
def Ag(Φ:ae)(f g h b:I)(i:ST)(j:LT)(Q:ad):a:=λR k=>
 Do (aa 1 b) λs=>
 Do (Z k 1 false s) λt=>
∃d l,(.fn 33 []:I) = .fn d l∧Φ (fJ d) (fK d [g,t] l) k λS m=>
 Do (aa 1 b) λu=>
 Do (Z m 1 false u) λv=>
∃e n,(.fn 33 []:I) = .fn e n∧Φ (fJ e) (fK e [h,v] n) m λT o=>
 Do (aa 2 b) λw=>
 Do (Z o 1 false w) λx=>
Φ 34 [g,x] o λp c=>
 Do (aY 0 p) λy=>
 Do (aY 1 p) λz=>
 Gd z true (
 Do (aa 0 b) λA=>
 Do (Z c 1 false A) λB=>
 Do (aG none 1 f B) λC=>
 Do (Y c 1 C y) λD=>
 G (nG Φ i j Q) [] D) (
 Do (aa 2 b) λE=>
 Do (Z c 1 false E) λF=>
Φ 34 [h,F] c λq r=>
 Do (aY 0 q) λH=>
 Do (aY 1 q) λU=>
 Do (aa 0 b) λK=>
 Do (Z r 1 false K) λL=>
 Do (M .sub (J (-1)) H) λN=>
 Do (aG none 1 f L) λO=>
 Do (Y r 1 O N) λP=>
 G (nG Φ i j Q) [] P)
def uw(Φ:ae)(e f g h:I)(b:ST)(c:LT)(Q:ad):a:=λi d=>
 Gd (D i 0) true (
 G (nG Φ b c Q) [] d) (
 G (Ag Φ e f g h b c Q) [] d)
def Fv(Φ:ae)(c d:I)(Q:ad):a:=λj e=>
 au (fb e c) λf b=>
 Do (aD d) λg=>
 Do (aa 2 g) λh=>
 Do (Z b 1 false h) λi=>
 Q (.ar [f,i]) b
def lK(Φ:ae)(h c f e i:I)(Q:ad):BT:=λa g=>
 Do (M .lss (D a.1 0) i) λj=>
 Gd j true (
 Do (aG none 3 h (D a.1 0)) λk=>
 Do (Z a.2 3 true k) λl=>
 au (some (aK a.2 true [O,O,O])) λb m=>
 Do (Y m 3 b l) λd=>
 Do (aa 0 b) λn=>
 Do (Z d 1 false n) λo=>
 Do (M .lss o O) λp=>
 aM p false (
 Do (aa 0 b) λq=>
 Do (Z d 1 false q) λr=>
 Do (aU false c) λs=>
 Do (M .geq r s) λt=>
 G (uw Φ c f e b a g Q) [t] d) (
 G (uw Φ c f e b a g Q) [bg] d) (
 False)) (
 G (Fv Φ c e Q) [] a.2)
def f16(Φ:ae)(a0 W c:I)(H:AH)(Q:ad):Prop:=
Φ 28 [a0] H λa H2=>
Φ 29 [a,(.fn 30 [])] H2 λp d=>
 Do (eP true [W,O]) λb=>
 au (ir d true 1 8 [O] b b) λe f=>
 Do (eP true [c,O]) λg=>
 Do (aB [aw,aw,O,O] [(3,1,g)]) λh=>
 au (aL f true 4 h) λi j=>
 Do (aU false a0) λk=>
 Do (aB [aw,aw,O,O] [(3,1,k)]) λl=>
 au (aL j true 4 l) λm n=>
 Do (aU false a) λo=>
 av (lK Φ a e i m o Q) ([O],n)
noncomputable def Fw:aF:=A C ⟨16,[14,25,29,33],[[36]],none,[],[(18,[9])]⟩
def ux(Φ:ae)(b:ST)(c:LT)(Q:ad):a:=λf d=>
 Do (M .add (D b.1 0) (J 1)) λe=>
 c ([e],d)
def uy(Φ:ae)(c:I)(H:AH)(d:ST)(e:ST)(f:LT)(Q:ad):a:=λk b=>
 Do (f_ b .n (.dx) false (.map H.n) c) λg=>
 Do (aD g) λh=>
 Do (aa 2 h) λi=>
 Do (Y b 1 i (D d.1 0)) λj=>
 G (ux Φ e f Q) [] j
def Fx(Φ:ae)(b:ST)(c:LT)(Q:ad):a:=λf d=>
 Do (M .add (D b.1 0) (J 1)) λe=>
 c ([e],d)
def nH(Φ:ae)(W e f:I)(H:AH)(c:ST)(g:LT)(Q:ad):BT:=λa d=>
 Do (M .lss (D a.1 0) f) λh=>
 Gd h true (
 Do (aG none 1 e (D a.1 0)) λi=>
 Do (Z a.2 1 false i) λb=>
 Do (M .geq b W) λj=>
 Gd j true (
 G (ux Φ a d Q) [] a.2) (
 Do (f_ a.2 .n (.dx) false (.map H.n) b) λk=>
 Do (h3 .p false k) λl=>
 Gd l true (
 Do (aB [O,O,O] [(0,1,b),(1,1,(D c.1 0)),(2,1,(D c.1 0))]) λm=>
 au (aL a.2 true 3 m) λo q=>
 Do (jj q .n (.map H.n) b o) λr=>
 G (uy Φ b H c a d Q) [] r) (
 G (uy Φ b H c a d Q) [] a.2))) (
 G (Fx Φ c g Q) [] a.2)
def uz(Φ:ae)(b:ST)(c:LT)(Q:ad):a:=λd e=>
 Do (M .add (D b.1 1) (J 1)) λf=>
 c ([(D d 0),f],e)
def Ah(Φ:ae)(b:ST)(c:LT)(Q:ad):a:=λd e=>
 Do (M .add (D b.1 1) (J 1)) λf=>
 c ([(D d 0),f],e)
def uA(Φ:ae)(f g:I)(h:List I)(i:LT)(Q:ad):BT:=λa b=>
 Do (M .lss (D a.1 1) g) λj=>
 Gd j true (
 Do (aG none 2 f (D a.1 1)) λk=>
 Do (Z a.2 2 true k) λl=>
 au (some (aK a.2 true [O,O])) λc m=>
 Do (Y m 2 c l) λd=>
 Do (Z d 2 true c) λn=>
Φ 39 [(D h 0),n] d λo e=>
 aM o false (
 G (Ah Φ a b Q) [(D a.1 0)] e) (
 G (Ah Φ a b Q) [bg] e) (
 False)) (
 i ([(D a.1 0)],a.2))
def Fy(Φ:ae)(b:List I)(Q:ad):a:=λf c=>
 au (fb c (D b 0)) λd e=>
 Q d e
def pn(Φ:ae)(b:I)(c:List I)(Q:ad):BT:=λa d=>
 Gd (D a.1 0) true (
 Do (aU false b) λe=>
 av (uA Φ b e c d Q) ([P,O],a.2)) (
 G (Fy Φ c Q) [] a.2)
def Fz(Φ:ae)(a0:I)(Q:ad):a:=λb c=>
Φ 38 [a0] c λd e=>
 av (pn Φ d b Q) ([bg],e)
def uB(Φ:ae)(a0 d:I)(H:AH)(Q:ad):BT:=λa b=>
 Do (M .lss (D a.1 1) d) λe=>
 Gd e true (
 Do (f_ a.2 .n (.dx) false (.map H.n) (D a.1 1)) λc=>
 Do (h3 .p true c) λf=>
 Gd f true (
 Do (aD c) λg=>
 Do (Z a.2 3 true g) λh=>
 au (b8 a.2 false 3 1 [O,O,O] [(0,3,h)]) λi j=>
 au (bH j true 3 24 (D a.1 0) i) λk l=>
 G (uz Φ a b Q) [k] l) (
 G (uz Φ a b Q) [(D a.1 0)] a.2)) (
 G (Fz Φ a0 Q) [(D a.1 0)] a.2)
def Ai(Φ:ae)(a0 W:I)(H:AH)(Q:ad):a:=λd b=>
 Do (eP true [W,O]) λc=>
 av (uB Φ a0 c H Q) ([aw,O],b)
def uC(Φ:ae)(a0 W g:I)(H:AH)(Q:ad):BT:=λa h=>
 Do (M .lss (D a.1 0) g) λi=>
 Gd i true (
 Do (aG none 13 a0 (D a.1 0)) λj=>
 Do (Z a.2 13 true j) λk=>
 au (some (aK a.2 true [O,O,O,O,O,O,bP 0,O,O,O,O,O,O])) λb l=>
 Do (Y l 13 b k) λc=>
 Do (Z c 13 true b) λm=>
 Do (Z c 13 true b) λd=>
Φ 36 [m] c λn e=>
(Z e 13 true b=some d) ∧
(Φ 37 [d] e λo p=>
 au (b8 p false 1 2 [aw] [(0,1,n),(1,1,o)]) λq r=>
Φ 35 [q] r λf s=>
 Do (aU false f) λt=>
 av (nH Φ W f t H a h Q) ([O],s))) (
 G (Ai Φ a0 W H Q) [] a.2)
def f17(Φ:ae)(a0 W:I)(H:AH)(Q:ad):Prop:=
 Do (aU false a0) λa=>
 av (uC Φ a0 W a H Q) ([O],(H.push (.map [])))
noncomputable def FA:aF:=A C ⟨17,[7,16,49,73],[[20],[32],[10,60],[14],[14,80]],none,[],[(31,[10])]⟩
def FB(Φ:ae)(b:ST)(c:LT)(Q:ad):a:=λf d=>
 Do (M .add (D b.1 0) (J 1)) λe=>
 c ([e],d)
def uD(Φ:ae)(d c e:I)(f:ST)(g:LT)(Q:ad):a:=λs b=>
 Do (aD d) λh=>
 Do (aa 1 h) λi=>
 Do (Z b 1 false i) λj=>
 Do (aa 0 c) λk=>
 Do (Z b 1 false k) λl=>
 Do (aa 0 c) λm=>
 Do (Z b 1 false m) λn=>
 Do (M .sub e n) λo=>
 Do (aG none 7 j l) λp=>
 Do (aa 6 p) λq=>
 Do (Y b 1 q o) λr=>
 G (FB Φ f g Q) [] r
def FC(Φ:ae)(d:I)(Q:ad):a:=λz b=>
 Do (aD d) λf=>
 Do (aa 7 f) λg=>
 Do (Z b 1 false g) λh=>
 Do (M .neq h O) λi=>
 Gd i true (
 Do (aD d) λj=>
 Do (aa 7 j) λk=>
 Do (Z b 1 false k) λl=>
 Q (.ar [aw,aw,aw,l]) b) (
 au (fb b d) λm n=>
 au (fb n m) λo p=>
 au (fb p o) λe c=>
 Do (aD e) λq=>
 Do (aa 1 q) λr=>
 Do (Z c 1 false r) λs=>
 Do (aD e) λt=>
 Do (aa 2 t) λu=>
 Do (Z c 1 false u) λv=>
 Do (aD e) λw=>
 Do (aa 3 w) λx=>
 Do (Z c 1 false x) λy=>
 Q (.ar [s,v,y,O]) c)
def qU(Φ:ae)(b h i:I)(Q:ad):BT:=λa e=>
 Do (M .lss (D a.1 0) i) λj=>
 Gd j true (
 Do (aG none 2 h (D a.1 0)) λk=>
 Do (Z a.2 2 true k) λl=>
 au (some (aK a.2 true [O,O])) λd m=>
 Do (Y m 2 d l) λc=>
 Do (aD b) λo=>
 Do (aa 5 o) λp=>
 Do (Z c 1 false p) λq=>
 Do (aa 1 d) λr=>
 Do (Z c 1 false r) λs=>
 Do (f_ c .n O true q s) λf=>
 Do (aY 0 f) λg=>
 Do (aY 1 f) λt=>
 Do (cO .not t) λu=>
 Gd u true (
 Do (aD b) λv=>
 Do (aa 7 v) λw=>
 Do (Y c 1 w (J 1)) λx=>
 G (uD Φ b d g a e Q) [] x) (
 G (uD Φ b d g a e Q) [] c)) (
 G (FC Φ b Q) [] a.2)
def FD(Φ:ae)(b:I)(Q:ad):a:=λj e=>
 Do (aB [O,O,O,O,O,O,O] [(0,1,(J 31))]) λf=>
Φ 42 [b,f] e λk c=>
 Do (aD b) λg=>
 Do (aa 6 g) λh=>
 Do (Z c 1 false h) λd=>
 Do (aU false d) λi=>
 av (qU Φ b d i Q) ([O],c)
def uE(Φ:ae)(a0 b e:I)(Q:ad):BT:=λa f=>
 Do (M .lss (D a.1 0) e) λg=>
 Gd g true (
 Do (aG none 13 a0 (D a.1 0)) λh=>
 Do (Z a.2 13 true h) λi=>
 au (some (aK a.2 true [O,O,O,O,O,O,bP 0,O,O,O,O,O,O])) λc j=>
 Do (Y j 13 c i) λd=>
 Do (Z d 13 true c) λk=>
Φ 41 [b,k] d λn l=>
 Do (M .add (D a.1 0) (J 1)) λm=>
 f ([m],l)) (
 G (FD Φ b Q) [] a.2)
def f18(Φ:ae)(a0 W b:I)(H:AH)(Q:ad):Prop:=
 Do (aB [aw,aw,aw,aw,O,.eO,aw,O] [(0,1,W),(5,1,(.map H.n))]) λc=>
 au (aL (H.push (.map [])) true 8 c) λa d=>
Φ 40 [a,(J 28),b] d λg e=>
 Do (aU false a0) λf=>
 av (uE Φ a0 a f Q) ([O],e)
noncomputable def FE:aF:=A C ⟨18,[12,14,20],[[26],[42]],none,[],[(19,[10,10,10])]⟩
def uF(Φ:ae)(b:ST)(c:LT)(Q:ad):a:=λd e=>
 Do (M .add (D b.1 1) (J 1)) λf=>
 c ([(D d 0),f],e)
def FF(Φ:ae)(c d:I)(Q:ad):a:=λe b=>
 Do (Z b 7 true d) λf=>
 Do (aa 0 c) λg=>
 Do (Z b 1 false g) λh=>
 Do (aB [O,O,O,O,O,O,O] [(0,1,h)]) λi=>
 Do (iO true [.n,.n,.n,.n,.n,.n,.n] f i) λj=>
 Gd j true (
 Q (.ar [(.int .u32 0),(J 2)]) b) (
 Q (.ar [(D e 0),O]) b)
def uG(Φ:ae)(m h n o:I)(Q:ad):BT:=λa i=>
 Do (M .lss (D a.1 1) o) λp=>
 Gd p true (
 Do (aG none 1 n (D a.1 1)) λq=>
 Do (Z a.2 1 false q) λd=>
 Do (M .eql d (.int .u8 122)) λr=>
 Gd r true (
 G (uF Φ a i Q) [(D a.1 0)] a.2) (
Φ 44 [d] a.2 λs t=>
 au (some (aK t true [O,O,P,.int .u32 0,O])) λb u=>
 Do (Y u 5 b s) λv=>
Φ 45 [h,d] v λe f=>
 Do (Z f 5 true b) λw=>
 Do (aD e) λx=>
 Do (Z f 1 false x) λy=>
Φ 46 [w,y] f λz c=>
 Do (cO .not z) λA=>
 Gd A true (
 Q (.ar [(.int .u32 0),(J 2)]) c) (
 Do (Z c 5 true b) λB=>
 Do (Z c 5 true b) λj=>
 Do (aD e) λk=>
 Do (Z c 1 false k) λl=>
Φ 47 [B] c λC g=>
(Z g 5 true b=some j) ∧
(Z g 1 false k=some l) ∧
(Do (M .andNot (D a.1 0) C) λE=>
Φ 48 [j,d,l] g λF H=>
 Do (M .or E F) λK=>
 Do (aD e) λL=>
 Do (Y H 1 L O) λN=>
 G (uF Φ a i Q) [K] N)))) (
 G (FF Φ m h Q) [(D a.1 0)] a.2)
def f19(Φ:ae)(a0:I)(H:AH)(Q:ad):Prop:=
 au (aL H false 7 a0) λc H2=>
 Do (aa 0 c) λg=>
 Do (Z H2 1 false g) λh=>
Φ 43 [h] H2 λi j=>
 au (some (aK j true [.int .u32 0,.str []])) λb k=>
 Do (Y k 2 b i) λa=>
 Do (aa 1 b) λl=>
 Do (Z a 1 false l) λm=>
 Do (M .eql m (.str [])) λn=>
 Gd n true (
 Q (.ar [(.int .u32 0),(J 2)]) a) (
 Do (aa 0 b) λo=>
 Do (Z a 1 false o) λp=>
 Do (Z a 7 true c) λq=>
 au (some (aK a true [O,O,O,O,O,O,O])) λd r=>
 Do (Y r 7 d q) λe=>
 Do (aa 1 b) λs=>
 Do (Z e 1 false s) λt=>
 Do (me t) λf=>
 Do (aU false f) λu=>
 av (uG Φ c d f u Q) ([p,O],e))
noncomputable def FG:aF:=A C ⟨19,[4,6,9],[[5,24]],none,[],[]⟩
def po(Φ:ae)(c:LT)(Q:ad):a:=λd b=>
 Gd (D d 0) true (
 Q P b) (
 c ([],b))
def qV(Φ:ae)(d:I)(b:LT)(Q:ad):a:=λe c=>
 aM (D e 0) true (
 Do (M .lss d (.int .i32 48)) λf=>
 aM f false (
 Do (M .gtr d (.int .i32 57)) λg=>
 G (po Φ b Q) [g] c) (
 G (po Φ b Q) [bg] c) (
 False)) (
 G (po Φ b Q) [P] c) (
 False)
def uH(Φ:ae)(f:I)(Q:ad):BT:=λg b=>
 au (ky g.2 f) λc d=>
 Do (aY 0 c) λh=>
 Gd h true (
 Do (aY 2 c) λa=>
Φ 56 [a] d λi e=>
 Do (cO .not i) λj=>
 aM j true (
 Do (M .neq a (.int .i32 95)) λk=>
 G (qV Φ a b Q) [k] e) (
 G (qV Φ a b Q) [P] e) (
 False)) (
 Q bg d)
def FH(Φ:ae)(a0:I)(Q:ad):a:=λd H2=>
 au (mU H2 a0) λb c=>
 av (uH Φ b Q) ([],c)
def qW(Φ:ae)(a0:I)(Q:ad):a:=λc b=>
 Gd (D c 0) true (
 Q P b) (
 G (FH Φ a0 Q) [] b)
def uI(Φ:ae)(a0:I)(Q:ad):a:=λc b=>
 aM (D c 0) false (
 Do (ji a0 O) λd=>
 Do (dK .i32 d) λe=>
Φ 56 [e] b λf g=>
 Do (cO .not f) λh=>
 G (qW Φ a0 Q) [h] g) (
 G (qW Φ a0 Q) [bg] b) (
 False)
def f21(Φ:ae)(a0:I)(H:AH)(Q:ad):Prop:=
 Do (aU true a0) λa=>
 Do (M .lss a (J 1)) λb=>
 aM b false (
 Do (aU true a0) λc=>
 Do (M .gtr c (J 16)) λd=>
 G (uI Φ a0 Q) [d] H) (
 G (uI Φ a0 Q) [bg] H) (
 False)
noncomputable def FI:aF:=A C ⟨21,[],[[]],none,[],[]⟩
def f22(Φ:ae)(a0:I)(H:AH)(Q:ad):Prop:=
Φ 58 [(.str [118,97,114,32,116,104,114,101,97,100,32,115,116,114,117,99,116,32,117,110,105,111,110,32,112,97,99,107,101,100,32,117,56,32,117,49,54,32,117,51,50,32,117,54,52,32,97,56,32,97,49,54,32,97,51,50,32,97,54,52,32,97,49,50,56,32,108,101,116,32,115,101,116,32,119,114,105,116,101,32,115,116,111,114,101,32,108,111,97,100,50,32,115,116,111,114,101,50,32,102,101,110,99,101,32,105,102,32,101,108,115,101,32,119,104,105,108,101,32,112,114,105,110,116,32,114,101,97,100,32,108,111,97,100,32,97,100,100,32,115,119,97,112,32,99,97,115,32,114,108,120,32,97,99,113,32,114,101,108,32,115,99])] H λa H2=>
Φ 57 [a,a0] H2 λb c=>
 Q b c
noncomputable def FJ:aF:=A C ⟨22,[],[],none,[],[]⟩
def f23(Φ:ae)(a0 W:I)(H:AH)(Q:ad):Prop:=
Φ 59 [a0,W] H λa H2=>
 Do (M .geq a O) λb=>
 Q b H2
noncomputable def FL:aF:=A C ⟨23,[],[],none,[],[]⟩
def f24(Φ:ae)(a0 W:I)(H:AH)(Q:ad):Prop:=
 au (aL H false 7 a0) λa H2=>
 Do (aa 0 a) λb=>
 Do (Z H2 1 false b) λc=>
 Do (aa 0 W) λd=>
 Do (Z H2 1 false d) λe=>
 Do (M .eql c e) λf=>
 Q f H2
noncomputable def FM:aF:=A C ⟨24,[],[],none,[],[]⟩
def qX(Φ:ae)(a0 c b:I)(Q:ad):a:=λr d=>
 Do (aa 8 b) λg=>
 Do (Z d 1 false g) λh=>
 Do (M .add c (J 1)) λi=>
Φ 12 [a0,h,i] d λs e=>
 Do (aa 1 b) λj=>
 Do (Z e 1 false j) λk=>
 Do (aD a0) λl=>
 Do (aa 3 l) λm=>
 Do (Y e 1 m k) λf=>
 Do (aa 9 b) λn=>
 Do (Z f 1 false n) λo=>
 Do (M .add c (J 1)) λp=>
Φ 12 [a0,o,p] f λt q=>
 Q (.ar []) q
def pq(Φ:ae)(a0 d b:I)(Q:ad):a:=λac f=>
 Do (aa 7 b) λj=>
 Do (Z f 1 false j) λk=>
Φ 65 [a0,k,d] f λaf c=>
 Do (aa 0 b) λl=>
 Do (Z c 1 false l) λg=>
 Do (M .eql g (J 1)) λm=>
 Gd m true (
 Do (aD a0) λn=>
 Do (aa 1 n) λo=>
 Do (Z c 1 false o) λp=>
 Do (aa 2 b) λq=>
 Do (Z c 1 false q) λr=>
 au (b8 c false 1 1 [.str []] [(0,1,r)]) λs t=>
 au (bH t true 1 16 p s) λu v=>
 Do (aD a0) λw=>
 Do (aa 1 w) λx=>
 Do (Y v 1 x u) λh=>
 Do (aD a0) λy=>
 Do (aa 2 y) λz=>
 Do (Z h 1 false z) λA=>
 Do (M .add A (J 1)) λB=>
 Do (aD a0) λC=>
 Do (aa 2 C) λD=>
 Do (Y h 1 D B) λE=>
 G (qX Φ a0 d b Q) [] E) (
 Do (M .eql g (J 5)) λF=>
 Gd F true (
 Do (aa 2 b) λH=>
 Do (Z c 1 false H) λK=>
Φ 63 [a0,K] c λL N=>
Φ 60 [a0,L,(J 6)] N λag i=>
 Do (aa 3 b) λO=>
 Do (Z i 1 false O) λP=>
Φ 63 [a0,P] i λR S=>
Φ 60 [a0,R,(J 6)] S λah e=>
 Do (aa 2 b) λT=>
 Do (Z e 1 false T) λU=>
 Do (aa 3 b) λV=>
 Do (Z e 1 false V) λW=>
 Do (M .neq U W) λX=>
Φ 60 [a0,X,(J 7)] e λai ab=>
 G (qX Φ a0 d b Q) [] ab) (
 G (qX Φ a0 d b Q) [] c))
def uJ(Φ:ae)(a0 e b:I)(Q:ad):a:=λp c=>
 Do (aa 2 b) λf=>
 Do (Z c 1 false f) λg=>
Φ 63 [a0,g] c λh i=>
 Do (cO .not h) λj=>
Φ 60 [a0,j,(J 7)] i λq d=>
 Do (aD a0) λk=>
 Do (aa 2 k) λl=>
 Do (Z d 1 false l) λm=>
 Do (M .lss m (J 40)) λn=>
Φ 60 [a0,n,(J 12)] d λr o=>
 G (pq Φ a0 e b Q) [] o
def ps(Φ:ae)(a0 d b:I)(Q:ad):a:=λe c=>
 Gd (D e 0) true (
 Do (aa 0 b) λf=>
 Do (Z c 1 false f) λg=>
 Do (aa 5 b) λh=>
 Do (Z c 2 true h) λi=>
Φ 64 [a0,g,i,d] c λk j=>
 G (pq Φ a0 d b Q) [] j) (
 G (pq Φ a0 d b Q) [] c)
def f25(Φ:ae)(a0 W c:I)(H:AH)(Q:ad):Prop:=
 au (aL H false 10 W) λa H2=>
 Do (M .leq c (J 64)) λk=>
Φ 60 [a0,k,(J 5)] H2 λU g=>
 Do (Z g 10 true a) λl=>
Φ 61 [l] g λm n=>
Φ 60 [a0,m,(J 4)] n λV e=>
 Do (aa 0 a) λo=>
 Do (Z e 1 false o) λp=>
 Do (aa 4 a) λq=>
 Do (Z e 1 false q) λr=>
Φ 62 [p,r] e λs t=>
Φ 60 [a0,s,(J 11)] t λX b=>
 Do (aa 0 a) λu=>
 Do (Z b 1 false u) λd=>
 Do (M .eql d (J 1)) λv=>
 Gd v true (
 Do (aa 2 a) λw=>
 Do (Z b 1 false w) λx=>
Φ 21 [x] b λy f=>
 aM y true (
 Do (aa 2 a) λz=>
 Do (Z f 1 false z) λA=>
Φ 22 [A] f λB C=>
 Do (cO .not B) λD=>
Φ 60 [a0,D,(J 6)] C λY E=>
 G (uJ Φ a0 c a Q) [] E) (
Φ 60 [a0,P,(J 6)] f λab F=>
 G (uJ Φ a0 c a Q) [] F) (
 False)) (
 Do (M .eql d (J 2)) λK=>
 Gd K true (
 Do (aa 2 a) λL=>
 Do (Z b 1 false L) λN=>
Φ 63 [a0,N] b λO R=>
Φ 60 [a0,O,(J 6)] R λac S=>
 G (pq Φ a0 c a Q) [] S) (
 Do (M .eql d (J 3)) λh=>
 Gd h true (
 G (ps Φ a0 c a Q) [h] b) (
 Do (M .eql d (J 4)) λi=>
 Gd i true (
 G (ps Φ a0 c a Q) [i] b) (
 Do (M .eql d (J 5)) λj=>
 Gd j true (
 G (ps Φ a0 c a Q) [j] b) (
 Do (M .eql d (J 6)) λT=>
 G (ps Φ a0 c a Q) [T] b)))))
noncomputable def FN:aF:=A C ⟨25,[87],[],none,[],[]⟩
def f26(Φ:ae)(a0:I)(H:AH)(Q:ad):Prop:=
 au (aL H false 6 a0) λb H2=>
 au (some (aK H2 true [O,O])) λa f=>
 Do (Z f 6 true b) λn=>
Φ 66 [n] f λg c=>
 Do (M .neq g O) λo=>
 Gd o true (
 Do (aB [O,O] []) λp=>
 Do (Y c 2 a p) λh=>
 Do (Z h 2 true a) λq=>
 Q (.ar [q,g]) h) (
 Do (Z c 6 true b) λr=>
Φ 67 [r] c λs d=>
 Gd s true (
 Do (aB [O,O] []) λt=>
 Do (Y d 2 a t) λi=>
 Do (Z i 2 true a) λu=>
 Q (.ar [u,(J 10)]) i) (
 Do (Z d 6 true b) λv=>
Φ 68 [v] d λj w=>
 Do (aY 0 j) λx=>
 Do (aY 1 j) λy=>
 au (some (aK w true [O,O])) λk z=>
 Do (Y z 2 k x) λe=>
 Do (cO .not y) λA=>
 Gd A true (
 Do (aB [O,O] []) λB=>
 Do (Y e 2 a B) λl=>
 Do (Z l 2 true a) λC=>
 Q (.ar [C,(J 9)]) l) (
 Do (Z e 2 true k) λD=>
 Do (Y e 2 a D) λm=>
 Do (Z m 2 true a) λE=>
 Q (.ar [E,O]) m)))
noncomputable def FO:aF:=A C ⟨26,[2,5],[],none,[],[]⟩
def FP(Φ:ae)(a0 c:I)(Q:ad):a:=λk b=>
 Do (aD a0) λd=>
 Do (aa 7 d) λe=>
 Do (Z b 1 false e) λf=>
 Do (c9 2 f none (some c) none) λg=>
 Do (aD a0) λh=>
 Do (aa 7 h) λi=>
 Do (Y b 1 i g) λj=>
 Q (.ar []) j
def uK(Φ:ae)(a0 W e f:I)(Q:ad):BT:=λa g=>
 Do (M .lss (D a.1 0) f) λh=>
 Gd h true (
 Do (aG none 10 W (D a.1 0)) λi=>
 Do (Z a.2 10 true i) λj=>
 au (some (aK a.2 true [O,O,.str [],.str [],O,.str [],aw,aw,aw,aw])) λb k=>
 Do (Y k 10 b j) λc=>
 Do (aa 1 b) λl=>
 Do (Z c 1 false l) λm=>
 Do (aD a0) λn=>
 Do (aa 6 n) λo=>
 Do (Y c 1 o m) λd=>
 Do (Z d 10 true b) λp=>
Φ 69 [a0,p] d λs q=>
 Do (M .add (D a.1 0) (J 1)) λr=>
 g ([r],q)) (
 G (FP Φ a0 e Q) [] a.2)
def f27(Φ:ae)(a0 W:I)(H:AH)(Q:ad):Prop:=
 Do (aD a0) λa=>
 Do (aa 7 a) λb=>
 Do (Z H 1 false b) λc=>
 Do (aU false c) λd=>
 Do (aU false W) λe=>
 av (uK Φ a0 W d e Q) ([O],H)
noncomputable def FQ:aF:=A C ⟨27,[6],[[14]],none,[],[]⟩
def f28(Φ:ae)(a0:I)(H:AH)(Q:ad):Prop:=
 Do (h3 .s false a0) λa=>
 Gd a true (
 Q aw H) (
 au (b8 H false 3 0 [O,O,O] []) λb c=>
 au (bH c true 3 24 b a0) λd e=>
 Q d e)
noncomputable def FR:aF:=A C ⟨28,[7],[],none,[],[]⟩
def f29(Φ:ae)(a0 W:I)(H:AH)(Q:ad):Prop:=
 Do (aU false a0) λa=>
Φ 70 [a0,a,W] H λc b=>
 Q (.ar []) b
noncomputable def FT:aF:=A C ⟨29,[],[],none,[],[]⟩
def f30(Φ:ae)(a0 W:I)(H:AH)(Q:ad):Prop:=
 au (aL H false 3 a0) λc H2=>
 au (aL H2 false 3 W) λd a=>
 Do (aa 1 c) λi=>
 Do (Z a 1 false i) λj=>
 Do (aa 1 d) λk=>
 Do (Z a 1 false k) λl=>
 Do (aa 0 c) λe=>
 Do (Z a 1 false e) λf=>
 Do (aa 0 d) λg=>
 Do (Z a 1 false g) λh=>
Φ 32 [j,l] a λm b=>
(Z b 1 false e=some f) ∧
(Z b 1 false g=some h) ∧
(Φ 32 [f,h] b λn o=>
 au (b8 o false 1 2 [O] [(0,1,m),(1,1,n)]) λp q=>
Φ 31 [p] q λr s=>
 Q r s)
noncomputable def FU:aF:=A C ⟨30,[],[],none,[],[]⟩
def uL(Φ:ae)(a0 b:I)(Q:ad):BT:=λs2 c=>
 Do (M .lss (D s2.1 0) b) λd=>
 Gd d true (
 Do (aG none 1 a0 (D s2.1 0)) λe=>
 Do (Z s2.2 1 false e) λa=>
 Do (M .neq a O) λf=>
 Gd f true (
 Q a s2.2) (
 Do (M .add (D s2.1 0) (J 1)) λg=>
 c ([g],s2.2))) (
 Q O s2.2)
def f31(Φ:ae)(a0:I)(H:AH)(Q:ad):Prop:=
 Do (aU false a0) λa=>
 av (uL Φ a0 a Q) ([O],H)
noncomputable def FV:aF:=A C ⟨31,[],[[8]],none,[],[]⟩
def f32(Φ:ae)(a0 W:I)(H:AH)(Q:ad):Prop:=
Φ 71 [a0] H λc H2=>
Φ 71 [W] H2 λb a=>
 Gd c true (
 Gd b true (
 Q O a) (
 Q (J (-1)) a)) (
 Gd b true (
 Q (J 1) a) (
 Do (M .lss a0 W) λd=>
 Gd d true (
 Q (J (-1)) a) (
 Do (M .gtr a0 W) λe=>
 Gd e true (
 Q (J 1) a) (
 Q O a))))
noncomputable def FW:aF:=A C ⟨32,[],[],none,[],[]⟩
def FX(Φ:ae)(a0:I)(g:LT)(Q:ad):a:=λu d=>
 Do (aD a0) λh=>
 Do (aa 0 h) λb=>
 Do (Z d 1 false b) λc=>
 Do (aD a0) λi=>
 Do (aa 1 i) λj=>
Φ 72 [(.iface 183 j)] d λk e=>
(Z e 1 false b=some c) ∧
(au (c7 e (.kB 181) [k]) λl f=>
(Z f 1 false b=some c) ∧
(Do (jS 1 1 false l) λm=>
 au (b8 f false 1 1 [O] [(0,1,m)]) λn o=>
 au (bH o true 1 8 c n) λp q=>
 Do (aD a0) λr=>
 Do (aa 0 r) λs=>
 Do (Y q 1 s p) λt=>
 g ([],t)))
def Aj(Φ:ae)(a0:I)(Q:ad):a:=λf H2=>
 Do (aD a0) λb=>
 Do (aa 0 b) λc=>
 Do (Z H2 1 false c) λd=>
Φ 73 [d,(.fn 74 [])] H2 λg e=>
 Q (.ar []) e
def qY(Φ:ae)(a0:I)(c:LT)(Q:ad):a:=λd b=>
 Gd (D d 0) true (
 G (FX Φ a0 c Q) [] b) (
 G (Aj Φ a0 Q) [] b)
def qZ(Φ:ae)(a0 W:I)(Q:ad):BT:=λa b=>
 Do (aD a0) λc=>
 Do (aa 1 c) λd=>
 Do (Z a.2 1 false d) λe=>
 Do (aU false e) λf=>
 Do (M .gtr f O) λg=>
 aM g true (
 Do (aD a0) λh=>
 Do (aa 1 h) λi=>
 Do (Z a.2 1 false i) λj=>
 Do (aG none 2 j O) λk=>
 Do (aa 0 k) λl=>
 Do (Z a.2 1 false l) λm=>
 Do (M .lss m W) λn=>
 G (qY Φ a0 b Q) [n] a.2) (
 G (qY Φ a0 b Q) [P] a.2) (
 False)
def f33(Φ:ae)(a0 W:I)(H:AH)(Q:ad):Prop:=
 av (qZ Φ a0 W Q) ([],H)
noncomputable def FY:aF:=A C ⟨33,[34],[[]],none,[],[]⟩
def uM(Φ:ae)(a0 W:I)(Q:ad):a:=λb c=>
 Do (aD a0) λd=>
 Do (aa 1 d) λe=>
 Do (aB [O,O] [(0,1,W),(1,1,(D b 0))]) λf=>
Φ 75 [(.iface 183 e),(.iface 181 f)] c λh g=>
 Q (.ar [(D b 0),bg]) g
def f34(Φ:ae)(a0 W:I)(H:AH)(Q:ad):Prop:=
 Do (aD a0) λb=>
 Do (aa 2 b) λc=>
 Do (Z H 1 false c) λd=>
 Do (aD a0) λe=>
 Do (aa 0 e) λf=>
 Do (Z H 1 false f) λg=>
 Do (aU false g) λa=>
 Do (M .gtr a O) λh=>
 Gd h true (
 Do (aD a0) λi=>
 Do (aa 0 i) λj=>
 Do (Z H 1 false j) λk=>
 Do (M .sub a (J 1)) λl=>
 Do (aG none 1 k l) λm=>
 Do (Z H 1 false m) λn=>
 Do (aD a0) λo=>
 Do (aa 0 o) λp=>
 Do (Z H 1 false p) λq=>
 Do (M .sub a (J 1)) λr=>
 Do (c9 1 q none (some r) none) λs=>
 Do (aD a0) λt=>
 Do (aa 0 t) λu=>
 Do (Y H 1 u s) λv=>
 G (uM Φ a0 W Q) [n] v) (
 Do (aD a0) λw=>
 Do (aa 2 w) λx=>
 Do (Z H 1 false x) λy=>
 Do (aD a0) λz=>
 Do (aa 3 z) λA=>
 Do (Z H 1 false A) λB=>
 Do (M .geq y B) λC=>
 Gd C true (
 Q (.ar [O,P]) H) (
 Do (aD a0) λD=>
 Do (aa 2 D) λE=>
 Do (Z H 1 false E) λF=>
 Do (M .add F (J 1)) λK=>
 Do (aD a0) λL=>
 Do (aa 2 L) λN=>
 Do (Y H 1 N K) λR=>
 G (uM Φ a0 W Q) [d] R))
noncomputable def FZ:aF:=A C ⟨34,[],[],none,[],[]⟩
def uN(Φ:ae)(b:ST)(c:LT)(Q:ad):a:=λd e=>
 Do (M .add (D b.1 1) (J 1)) λf=>
 c ([(D d 0),f],e)
def uO(Φ:ae)(a0 b:I)(Q:ad):BT:=λa c=>
 Do (M .lss (D a.1 1) b) λd=>
 Gd d true (
 Do (aG none 1 a0 (D a.1 1)) λe=>
 Do (Z a.2 1 false e) λf=>
 au (bH a.2 false 1 8 (D a.1 0) f) λg h=>
 Do (M .add (D a.1 1) (J 1)) λi=>
 c ([g,i],h)) (
 Q (D a.1 0) a.2)
def F0(Φ:ae)(a0:I)(Q:ad):a:=λb H2=>
Φ 76 [aw,(D b 0)] H2 λc d=>
 Do (aU false a0) λe=>
 av (uO Φ a0 e Q) ([c,O],d)
def uP(Φ:ae)(a0 d:I)(Q:ad):BT:=λa c=>
 Do (M .lss (D a.1 1) d) λe=>
 Gd e true (
 Do (aG none 1 a0 (D a.1 1)) λf=>
 Do (Z a.2 1 false f) λg=>
 Do (aU false g) λh=>
 Do (M .add (D a.1 0) h) λb=>
 Do (M .lss b O) λi=>
 Gd i true (
 au (c7 a.2 .stuck []) λk j=>
 G (uN Φ a c Q) [b] j) (
 G (uN Φ a c Q) [b] a.2)) (
 G (F0 Φ a0 Q) [(D a.1 0)] a.2)
def f35(Φ:ae)(a0:I)(H:AH)(Q:ad):Prop:=
 Do (aU false a0) λa=>
 av (uP Φ a0 a Q) ([O,O],H)
noncomputable def F1:aF:=A C ⟨35,[],[[3,11],[6,27]],none,[],[]⟩
def f36(Φ:ae)(a0:I)(H:AH)(Q:ad):Prop:=
 au (aL H false 13 a0) λa H2=>
 Do (aa 3 a) λb=>
 Do (Z H2 1 false b) λc=>
 Do (aa 4 a) λd=>
 Do (Z H2 1 false d) λe=>
 Do (aa 5 a) λf=>
 Do (Z H2 1 false f) λg=>
 au (b8 H2 true 1 3 [O] [(0,1,c),(1,1,e),(2,1,g)]) λh i=>
Φ 77 [h] i λj k=>
 Q j k
noncomputable def F2:aF:=A C ⟨36,[9],[],none,[],[]⟩
def f37(Φ:ae)(a0:I)(H:AH)(Q:ad):Prop:=
 au (aL H false 13 a0) λa H2=>
 Do (aa 1 a) λb=>
 Do (Z H2 1 false b) λc=>
 Do (aa 2 a) λd=>
 Do (Z H2 1 false d) λe=>
 au (b8 H2 true 1 2 [O] [(0,1,c),(1,1,e)]) λf g=>
Φ 77 [f] g λh i=>
 Q h i
noncomputable def F3:aF:=A C ⟨37,[7],[],none,[],[]⟩
def pv(Φ:ae)(b:ST)(c:LT)(Q:ad):a:=λd e=>
 Do (M .add (D b.1 1) (J 1)) λf=>
 c ([(D d 0),f],e)
def uQ(Φ:ae)(f:I)(H:AH)(b:ST)(d:LT)(Q:ad):a:=λg c=>
 Gd (D g 0) true (
 Do (aa 10 f) λh=>
 Do (Z c 1 false h) λi=>
 Do (f_ c .n O true (.map H.n) i) λe=>
 Do (aY 0 e) λj=>
 Do (aY 1 e) λk=>
 Gd k true (
 Do (aB [O,O] [(0,1,j),(1,1,(D b.1 1))]) λl=>
 au (b8 c false 2 1 [O,O] [(0,2,l)]) λm o=>
 au (bH o false 2 16 (D b.1 0) m) λp q=>
 G (pv Φ b d Q) [p] q) (
 G (pv Φ b d Q) [(D b.1 0)] c)) (
 G (pv Φ b d Q) [(D b.1 0)] c)
def pw(Φ:ae)(a0 g:I)(H:AH)(Q:ad):BT:=λa d=>
 Do (M .lss (D a.1 1) g) λh=>
 Gd h true (
 Do (aG none 13 a0 (D a.1 1)) λi=>
 Do (Z a.2 13 true i) λj=>
 au (some (aK a.2 true [O,O,O,O,O,O,bP 0,O,O,O,O,O,O])) λb k=>
 Do (Y k 13 b j) λc=>
 Do (aa 0 b) λl=>
 Do (Z c 1 false l) λe=>
 Do (M .eql e (J 14)) λm=>
 Gd m true (
 Do (aa 10 b) λo=>
 Do (Z c 1 false o) λp=>
 Do (jj c .n (.map H.n) p (D a.1 1)) λq=>
 G (pv Φ a d Q) [(D a.1 0)] q) (
 Do (M .eql e (J 15)) λf=>
 Gd f true (
 G (uQ Φ b H a d Q) [f] c) (
 Do (M .eql e (J 16)) λr=>
 G (uQ Φ b H a d Q) [r] c))) (
 Q (D a.1 0) a.2)
def f38(Φ:ae)(a0:I)(H:AH)(Q:ad):Prop:=
 Do (aU false a0) λa=>
 av (pw Φ a0 a H Q) ([aw,O],(H.push (.map [])))
noncomputable def F4:aF:=A C ⟨38,[6],[[4,12]],none,[],[]⟩
def uR(Φ:ae)(b:ST)(c:LT)(Q:ad):a:=λd e=>
 Do (M .add (D b.1 1) (J 1)) λf=>
 c ([(D d 0),f],e)
def py(Φ:ae)(e f:I)(b:ST)(d:LT)(Q:ad):a:=λg c=>
 Gd (D g 0) true (
 Do (aa 1 e) λh=>
 Do (Z c 1 false h) λi=>
 Do (aD f) λj=>
 Do (aa 2 j) λk=>
 Do (Y c 1 k i) λl=>
 G (uR Φ b d Q) [bg] l) (
 G (uR Φ b d Q) [(D b.1 0)] c)
def q0(Φ:ae)(a0 b e:I)(Q:ad):BT:=λa d=>
 Do (M .lss (D a.1 1) e) λf=>
 Gd f true (
 Do (aG none 3 a0 (D a.1 1)) λc=>
 Do (aD c) λg=>
 Do (aa 1 g) λh=>
 Do (Z a.2 1 false h) λi=>
 Do (aa 0 b) λj=>
 Do (Z a.2 1 false j) λk=>
 Do (M .lss i k) λl=>
 aM l true (
 Do (aD c) λm=>
 Do (aa 2 m) λn=>
 Do (Z a.2 1 false n) λo=>
 Do (aa 0 b) λp=>
 Do (Z a.2 1 false p) λq=>
 Do (M .geq o q) λr=>
 aM r true (
 Do (aD c) λs=>
 Do (aa 2 s) λt=>
 Do (Z a.2 1 false t) λu=>
 Do (aa 1 b) λv=>
 Do (Z a.2 1 false v) λw=>
 Do (M .lss u w) λx=>
 G (py Φ b c a d Q) [x] a.2) (
 G (py Φ b c a d Q) [P] a.2) (
 False)) (
 G (py Φ b c a d Q) [P] a.2) (
 False)) (
 Q (D a.1 0) a.2)
def f39(Φ:ae)(a0 W:I)(H:AH)(Q:ad):Prop:=
 au (aL H false 2 W) λa H2=>
 Do (aU false a0) λb=>
 av (q0 Φ a0 a b Q) ([P,O],H2)
noncomputable def F5:aF:=A C ⟨39,[],[[5,10]],none,[],[]⟩
def uS(Φ:ae)(a0 d e:I)(Q:ad):BT:=λa f=>
 Do (M .lss (D a.1 0) e) λg=>
 Gd g true (
 Do (aG none 7 d (D a.1 0)) λh=>
 Do (Z a.2 7 true h) λi=>
 au (some (aK a.2 true [O,O,O,O,O,O,O])) λb j=>
 Do (Y j 7 b i) λc=>
 Do (Z c 7 true b) λk=>
Φ 42 [a0,k] c λn l=>
 Do (M .add (D a.1 0) (J 1)) λm=>
 f ([m],l)) (
 Q (.ar []) a.2)
def f40(Φ:ae)(a0 W b:I)(H:AH)(Q:ad):Prop:=
Φ 78 [W,b] H λa H2=>
 Do (aU false a) λc=>
 av (uS Φ a0 a c Q) ([O],H2)
noncomputable def F6:aF:=A C ⟨40,[7],[[12]],none,[],[]⟩
def uT(Φ:ae)(a0 c:I)(Q:ad):a:=λd b=>
 Do (aa 11 c) λe=>
 Do (Z b 1 false e) λf=>
 Do (aB [O,O,O,O,O,O,O] [(0,1,(J 29)),(6,1,(D d 0))]) λg=>
Φ 89 [a0,f,g] b λi h=>
 Q (.ar []) h
def uU(Φ:ae)(a0 c d:I)(Q:ad):a:=λe b=>
 Gd (D e 0) true (
 Do (Z b 13 true c) λf=>
Φ 90 [a0,f] b λv g=>
 Q (.ar []) g) (
 Do (M .eql d (J 17)) λh=>
 Gd h true (
 Do (Z b 13 true c) λi=>
Φ 91 [a0,i] b λw j=>
 Q (.ar []) j) (
 Do (M .eql d (J 18)) λk=>
 Gd k true (
 Do (aa 3 c) λl=>
 Do (Z b 1 false l) λm=>
Φ 82 [a0,m,(J 8)] b λn o=>
 Do (M .add (J 1) n) λp=>
 Do (aB [O,O,O,O,O,O,O] [(0,1,(J 31)),(6,1,p)]) λq=>
Φ 42 [a0,q] o λx r=>
 Q (.ar []) r) (
 Do (aD a0) λs=>
 Do (aa 7 s) λt=>
 Do (Y b 1 t (J 1)) λu=>
 Q (.ar []) u)))
def uV(Φ:ae)(a0 c d:I)(Q:ad):a:=λf b=>
 Gd (D f 0) true (
 Do (Z b 13 true c) λg=>
Φ 88 [a0,g] b λz h=>
 Q (.ar []) h) (
 Do (M .eql d (J 13)) λi=>
 Gd i true (
 Do (aa 9 c) λj=>
 Do (Z b 1 false j) λk=>
 Do (M .eql k (J 2)) λl=>
 Gd l true (
 G (uT Φ a0 c Q) [(J 1)] b) (
 G (uT Φ a0 c Q) [O] b)) (
 Do (M .eql d (J 14)) λm=>
 Gd m true (
 Do (aD a0) λo=>
 Do (aa 5 o) λp=>
 Do (Z b 1 false p) λq=>
 Do (aa 10 c) λr=>
 Do (Z b 1 false r) λs=>
 Do (aD a0) λt=>
 Do (aa 1 t) λu=>
 Do (Z b 1 false u) λv=>
 Do (aU false v) λw=>
 Do (jj b .n q s w) λx=>
 Q (.ar []) x) (
 Do (M .eql d (J 15)) λe=>
 Gd e true (
 G (uU Φ a0 c d Q) [e] b) (
 Do (M .eql d (J 16)) λy=>
 G (uU Φ a0 c d Q) [y] b))))
def uW(Φ:ae)(a0 d c:I)(Q:ad):a:=λf b=>
 Gd (D f 0) true (
 Do (Z b 13 true d) λg=>
Φ 86 [a0,g] b λm h=>
 Q (.ar []) h) (
 Do (M .eql c (J 10)) λi=>
 Gd i true (
 Do (Z b 13 true d) λj=>
Φ 87 [a0,j] b λn k=>
 Q (.ar []) k) (
 Do (M .eql c (J 11)) λe=>
 Gd e true (
 G (uV Φ a0 d c Q) [e] b) (
 Do (M .eql c (J 12)) λl=>
 G (uV Φ a0 d c Q) [l] b)))
def uX(Φ:ae)(a0 d b:I)(Q:ad):a:=λf c=>
 Gd (D f 0) true (
 Do (Z c 13 true d) λg=>
Φ 85 [a0,g] c λj h=>
 Q (.ar []) h) (
 Do (M .eql b (J 8)) λe=>
 Gd e true (
 G (uW Φ a0 d b Q) [e] c) (
 Do (M .eql b (J 9)) λi=>
 G (uW Φ a0 d b Q) [i] c))
def uY(Φ:ae)(a0 d b:I)(Q:ad):a:=λf c=>
 Gd (D f 0) true (
 Do (Z c 13 true d) λg=>
Φ 84 [a0,g] c λj h=>
 Q (.ar []) h) (
 Do (M .eql b (J 5)) λe=>
 Gd e true (
 G (uX Φ a0 d b Q) [e] c) (
 Do (M .eql b (J 7)) λi=>
 G (uX Φ a0 d b Q) [i] c))
def f41(Φ:ae)(a0 W:I)(H:AH)(Q:ad):Prop:=
 au (aL H false 13 W) λa H2=>
 Do (aa 12 a) λk=>
 Do (Z H2 1 false k) λl=>
 Do (aD a0) λm=>
 Do (aa 4 m) λn=>
 Do (Y H2 1 n l) λb=>
 Do (aa 0 a) λo=>
 Do (Z b 1 false o) λc=>
 Do (M .eql c (J 1)) λp=>
 Gd p true (
 Do (aa 1 a) λq=>
 Do (Z b 1 false q) λr=>
Φ 79 [a0,r,(J 11)] b λd e=>
 Do (aa 6 a) λs=>
 Do (Z e 1 false s) λt=>
Φ 40 [a0,d,t] e λK f=>
 Do (aa 1 a) λu=>
 Do (Z f 1 false u) λv=>
Φ 80 [a0,v,d] f λL w=>
 Q (.ar []) w) (
 Do (M .eql c (J 2)) λx=>
 Gd x true (
 Do (aa 1 a) λg=>
 Do (Z b 1 false g) λh=>
 Do (aa 3 a) λy=>
 Do (Z b 1 false y) λz=>
Φ 82 [a0,z,(J 8)] b λA i=>
(Z i 1 false g=some h) ∧
(Φ 81 [a0,h,A] i λN B=>
 Q (.ar []) B)) (
 Do (M .eql c (J 3)) λC=>
 Gd C true (
 Do (Z b 13 true a) λD=>
Φ 83 [a0,D] b λO E=>
 Q (.ar []) E) (
 Do (M .eql c (J 4)) λj=>
 Gd j true (
 G (uY Φ a0 a c Q) [j] b) (
 Do (M .eql c (J 6)) λF=>
 G (uY Φ a0 a c Q) [F] b))))
noncomputable def F7:aF:=A C ⟨41,[],[],none,[],[]⟩
def f42(Φ:ae)(a0 W:I)(H:AH)(Q:ad):Prop:=
 au (aL H false 7 W) λa H2=>
 Do (Z H2 7 true a) λb=>
Φ 89 [a0,O,b] H2 λd c=>
 Q (.ar []) c
noncomputable def F8:aF:=A C ⟨42,[],[],none,[],[]⟩
def f43(Φ:ae)(a0:I)(H:AH)(Q:ad):Prop:=
 au (some (aK H true [.int .u32 0,.str []])) λa H2=>
 Do (M .eql a0 (J 1)) λo=>
 Gd o true (
 Do (aB [.int .u32 0,.str []] [(0,1,(.int .u32 3531603968)),(1,1,(.str [100,105,113]))]) λp=>
 Do (Y H2 2 a p) λb=>
 Do (Z b 2 true a) λq=>
 Q q b) (
 Do (M .eql a0 (J 2)) λr=>
 Gd r true (
 Do (aB [.int .u32 0,.str []] [(0,1,(.int .u32 4068474880)),(1,1,(.str [100,105,113]))]) λs=>
 Do (Y H2 2 a s) λc=>
 Do (Z c 2 true a) λt=>
 Q t c) (
 Do (M .eql a0 (J 3)) λu=>
 Gd u true (
 Do (aB [.int .u32 0,.str []] [(0,1,(.int .u32 2332033024)),(1,1,(.str [100,110,109]))]) λv=>
 Do (Y H2 2 a v) λd=>
 Do (Z d 2 true a) λw=>
 Q w d) (
 Do (M .eql a0 (J 4)) λx=>
 Gd x true (
 Do (aB [.int .u32 0,.str []] [(0,1,(.int .u32 3405774848)),(1,1,(.str [100,110,109]))]) λy=>
 Do (Y H2 2 a y) λe=>
 Do (Z e 2 true a) λz=>
 Q z e) (
 Do (M .eql a0 (J 5)) λA=>
 Gd A true (
 Do (aB [.int .u32 0,.str []] [(0,1,(.int .u32 3942645760)),(1,1,(.str [100,110,109]))]) λB=>
 Do (Y H2 2 a B) λf=>
 Do (Z f 2 true a) λC=>
 Q C f) (
 Do (M .eql a0 (J 6)) λD=>
 Gd D true (
 Do (aB [.int .u32 0,.str []] [(0,1,(.int .u32 2315255808)),(1,1,(.str [100,110,109]))]) λE=>
 Do (Y H2 2 a E) λg=>
 Do (Z g 2 true a) λF=>
 Q F g) (
 Do (M .eql a0 (J 7)) λG=>
 Gd G true (
 Do (aB [.int .u32 0,.str []] [(0,1,(.int .u32 2852126720)),(1,1,(.str [100,110,109]))]) λK=>
 Do (Y H2 2 a K) λh=>
 Do (Z h 2 true a) λL=>
 Q L h) (
 Do (M .eql a0 (J 8)) λN=>
 Gd N true (
 Do (aB [.int .u32 0,.str []] [(0,1,(.int .u32 3388997632)),(1,1,(.str [100,110,109]))]) λO=>
 Do (Y H2 2 a O) λi=>
 Do (Z i 2 true a) λP=>
 Q P i) (
 Do (M .eql a0 (J 9)) λR=>
 Gd R true (
 Do (aB [.int .u32 0,.str []] [(0,1,(.int .u32 2600500224)),(1,1,(.str [100,110,109]))]) λS=>
 Do (Y H2 2 a S) λj=>
 Do (Z j 2 true a) λT=>
 Q T j) (
 Do (M .eql a0 (J 10)) λU=>
 Gd U true (
 Do (aB [.int .u32 0,.str []] [(0,1,(.int .u32 2596282368)),(1,1,(.str [100,110,109]))]) λV=>
 Do (Y H2 2 a V) λk=>
 Do (Z k 2 true a) λW=>
 Q W k) (
 Do (M .eql a0 (J 11)) λX=>
 Gd X true (
 Do (aB [.int .u32 0,.str []] [(0,1,(.int .u32 2596283392)),(1,1,(.str [100,110,109]))]) λaa=>
 Do (Y H2 2 a aa) λl=>
 Do (Z l 2 true a) λab=>
 Q ab l) (
 Do (M .eql a0 (J 12)) λac=>
 Gd ac true (
 Do (aB [.int .u32 0,.str []] [(0,1,(.int .u32 2594113504)),(1,1,(.str [100,107]))]) λaf=>
 Do (Y H2 2 a af) λm=>
 Do (Z m 2 true a) λag=>
 Q ag m) (
Φ 92 [a0] H2 λah ai=>
 Do (Y ai 2 a ah) λn=>
 Do (Z n 2 true a) λaj=>
 Q aj n))))))))))))
noncomputable def F9:aF:=A C ⟨43,[2],[],none,[],[]⟩
def f44(Φ:ae)(a0:I)(H:AH)(Q:ad):Prop:=
 au (some (aK H true [O,O,P,.int .u32 0,O])) λa H2=>
 Do (M .eql a0 (.int .u8 100)) λq=>
 Gd q true (
 Do (aB [O,O,P,.int .u32 0,O] [(0,1,O),(1,1,(J 5)),(4,1,(J 31))]) λr=>
 Do (Y H2 5 a r) λb=>
 Do (Z b 5 true a) λs=>
 Q s b) (
 Do (M .eql a0 (.int .u8 110)) λt=>
 Gd t true (
 Do (aB [O,O,P,.int .u32 0,O] [(0,1,(J 5)),(1,1,(J 5)),(4,1,(J 31))]) λu=>
 Do (Y H2 5 a u) λc=>
 Do (Z c 5 true a) λv=>
 Q v c) (
 Do (M .eql a0 (.int .u8 97)) λw=>
 Gd w true (
 Do (aB [O,O,P,.int .u32 0,O] [(0,1,(J 5)),(1,1,(J 5)),(4,1,(J 30))]) λx=>
 Do (Y H2 5 a x) λd=>
 Do (Z d 5 true a) λy=>
 Q y d) (
 Do (M .eql a0 (.int .u8 109)) λz=>
 Gd z true (
 Do (aB [O,O,P,.int .u32 0,O] [(0,1,(J 16)),(1,1,(J 5)),(4,1,(J 31))]) λA=>
 Do (Y H2 5 a A) λe=>
 Do (Z e 5 true a) λB=>
 Q B e) (
 Do (M .eql a0 (.int .u8 101)) λC=>
 Gd C true (
 Do (aB [O,O,P,.int .u32 0,O] [(0,1,(J 10)),(1,1,(J 5)),(4,1,(J 31))]) λD=>
 Do (Y H2 5 a D) λf=>
 Do (Z f 5 true a) λE=>
 Q E f) (
 Do (M .eql a0 (.int .u8 113)) λF=>
 Gd F true (
 Do (aB [O,O,P,.int .u32 0,O] [(0,1,(J 21)),(1,1,(J 2)),(4,1,(J 3))]) λG=>
 Do (Y H2 5 a G) λg=>
 Do (Z g 5 true a) λK=>
 Q K g) (
 Do (M .eql a0 (.int .u8 99)) λL=>
 Gd L true (
 Do (aB [O,O,P,.int .u32 0,O] [(0,1,O),(1,1,(J 2)),(4,1,(J 3))]) λN=>
 Do (Y H2 5 a N) λh=>
 Do (Z h 5 true a) λR=>
 Q R h) (
 Do (M .eql a0 (.int .u8 107)) λS=>
 Gd S true (
 Do (aB [O,O,P,.int .u32 0,O] [(0,1,(J 12)),(1,1,(J 2)),(4,1,(J 3)),(3,1,(.int .u32 1))]) λT=>
 Do (Y H2 5 a T) λi=>
 Do (Z i 5 true a) λU=>
 Q U i) (
 Do (M .eql a0 (.int .u8 115)) λV=>
 Gd V true (
 Do (aB [O,O,P,.int .u32 0,O] [(0,1,(J 30)),(1,1,(J 2)),(4,1,(J 3))]) λW=>
 Do (Y H2 5 a W) λj=>
 Do (Z j 5 true a) λX=>
 Q X j) (
 Do (M .eql a0 (.int .u8 105)) λaa=>
 Gd aa true (
 Do (aB [O,O,P,.int .u32 0,O] [(0,1,(J 5)),(1,1,(J 16)),(4,1,(J 65535))]) λab=>
 Do (Y H2 5 a ab) λk=>
 Do (Z k 5 true a) λac=>
 Q ac k) (
 Do (M .eql a0 (.int .u8 111)) λaf=>
 Gd af true (
 Do (aB [O,O,P,.int .u32 0,O] [(0,1,(J 10)),(1,1,(J 12)),(4,1,(J 4095))]) λag=>
 Do (Y H2 5 a ag) λl=>
 Do (Z l 5 true a) λah=>
 Q ah l) (
 Do (M .eql a0 (.int .u8 98)) λai=>
 Gd ai true (
 Do (aB [O,O,P,.int .u32 0,O] [(0,1,O),(1,1,(J 26)),(2,1,bg)]) λaj=>
 Do (Y H2 5 a aj) λm=>
 Do (Z m 5 true a) λak=>
 Q ak m) (
 Do (M .eql a0 (.int .u8 120)) λal=>
 Gd al true (
 Do (aB [O,O,P,.int .u32 0,O] [(0,1,(J 5)),(1,1,(J 19)),(2,1,bg)]) λam=>
 Do (Y H2 5 a am) λn=>
 Do (Z n 5 true a) λan=>
 Q an n) (
 Do (M .eql a0 (.int .u8 102)) λao=>
 Gd ao true (
 Do (aB [O,O,P,.int .u32 0,O] [(0,1,(J 8)),(1,1,(J 4)),(4,1,(J 2))]) λap=>
 Do (Y H2 5 a ap) λo=>
 Do (Z o 5 true a) λaq=>
 Q aq o) (
 Do (aB [O,O,P,.int .u32 0,O] []) λar=>
 Do (Y H2 5 a ar) λp=>
 Do (Z p 5 true a) λav=>
 Q av p))))))))))))))
noncomputable def F_:aF:=A C ⟨44,[2],[],none,[],[]⟩
def Ga(Φ:ae)(a0:I)(Q:ad):a:=λd H2=>
 Do (aD a0) λb=>
 Do (aa 6 b) λc=>
 Q c H2
def q1(Φ:ae)(a0 W:I)(Q:ad):a:=λc b=>
 Gd (D c 0) true (
 Do (aD a0) λd=>
 Do (aa 4 d) λe=>
 Q e b) (
 Do (M .eql W (.int .u8 115)) λf=>
 Gd f true (
 Do (aD a0) λg=>
 Do (aa 5 g) λh=>
 Q h b) (
 G (Ga Φ a0 Q) [] b))
def Ak(Φ:ae)(a0 W:I)(Q:ad):a:=λf b=>
 Gd (D f 0) true (
 Do (aD a0) λg=>
 Do (aa 2 g) λh=>
 Q h b) (
 Do (M .eql W (.int .u8 109)) λi=>
 Gd i true (
 Do (aD a0) λj=>
 Do (aa 3 j) λk=>
 Q k b) (
 Do (M .eql W (.int .u8 101)) λc=>
 Gd c true (
 G (q1 Φ a0 W Q) [c] b) (
 Do (M .eql W (.int .u8 113)) λd=>
 Gd d true (
 G (q1 Φ a0 W Q) [d] b) (
 Do (M .eql W (.int .u8 99)) λe=>
 Gd e true (
 G (q1 Φ a0 W Q) [e] b) (
 Do (M .eql W (.int .u8 107)) λl=>
 G (q1 Φ a0 W Q) [l] b)))))
def f45(Φ:ae)(a0 W:I)(H:AH)(Q:ad):Prop:=
 Do (M .eql W (.int .u8 100)) λb=>
 Gd b true (
 Do (aD a0) λc=>
 Do (aa 1 c) λd=>
 Q d H) (
 Do (M .eql W (.int .u8 110)) λa=>
 Gd a true (
 G (Ak Φ a0 W Q) [a] H) (
 Do (M .eql W (.int .u8 97)) λe=>
 G (Ak Φ a0 W Q) [e] H))
noncomputable def Gb:aF:=A C ⟨45,[],[],none,[],[]⟩
def f46(Φ:ae)(a0 W:I)(H:AH)(Q:ad):Prop:=
 au (aL H false 5 a0) λa H2=>
 Do (aa 2 a) λb=>
 Do (Z H2 1 false b) λc=>
 Gd c true (
 Do (aa 1 a) λd=>
 Do (Z H2 1 false d) λe=>
 Do (M .sub e (J 1)) λf=>
 Do (M .shl (J 1) f) λg=>
 Do (cO .neg g) λh=>
 Do (M .geq W h) λi=>
 aM i true (
 Do (aa 1 a) λj=>
 Do (Z H2 1 false j) λk=>
 Do (M .sub k (J 1)) λl=>
 Do (M .shl (J 1) l) λm=>
 Do (M .lss W m) λn=>
 Q n H2) (
 Q P H2) (
 False)) (
 Do (M .geq W O) λo=>
 aM o true (
 Do (aa 4 a) λp=>
 Do (Z H2 1 false p) λq=>
 Do (M .leq W q) λr=>
 Q r H2) (
 Q P H2) (
 False))
noncomputable def Gc:aF:=A C ⟨46,[],[],none,[],[]⟩
def f47(Φ:ae)(a0:I)(H:AH)(Q:ad):Prop:=
 au (aL H false 5 a0) λa H2=>
 Do (aa 1 a) λb=>
 Do (Z H2 1 false b) λc=>
 Do (M .shl (.int .u32 1) c) λd=>
 Do (M .sub d (.int .u32 1)) λe=>
 Do (aa 0 a) λf=>
 Do (Z H2 1 false f) λg=>
 Do (M .shl e g) λh=>
 Q h H2
noncomputable def Ge:aF:=A C ⟨47,[],[],none,[],[]⟩
def uZ(Φ:ae)(c:I)(Q:ad):a:=λg b=>
 Do (aa 0 c) λd=>
 Do (Z b 1 false d) λe=>
 Do (M .shl (D g 0) e) λh=>
 Do (Z b 5 true c) λi=>
Φ 47 [i] b λj f=>
(Z f 1 false d=some e) ∧
(Do (M .and h j) λk=>
 Q k f)
def f48(Φ:ae)(a0 W b:I)(H:AH)(Q:ad):Prop:=
 au (aL H false 5 a0) λa H2=>
 Do (dK .u32 b) λc=>
 Do (aa 3 a) λd=>
 Do (Z H2 1 false d) λe=>
 Do (M .xor c e) λf=>
 Do (M .eql W (.int .u8 102)) λg=>
 Gd g true (
Φ 93 [] H2 λh i=>
 Do (kv 3 1 false h b) λj=>
 G (uZ Φ a Q) [j] i) (
 G (uZ Φ a Q) [f] H2)
noncomputable def Gf:aF:=A C ⟨48,[],[],none,[],[]⟩
def f56(Φ:ae)(a0:I)(H:AH)(Q:ad):Prop:=
 Do (M .geq a0 (.int .i32 97)) λa=>
 aM a true (
 Do (M .leq a0 (.int .i32 122)) λb=>
 Q b H) (
 Q P H) (
 False)
noncomputable def Gg:aF:=A C ⟨56,[],[],none,[],[]⟩
def f57(Φ:ae)(a0 W:I)(H:AH)(Q:ad):Prop:=
Φ 106 [a0,W] H λa H2=>
 Do (M .geq a O) λb=>
 Q b H2
noncomputable def Gh:aF:=A C ⟨57,[],[],none,[],[]⟩
def Qk(Φ:ae)(a0 W d:I)(Q:ad):BT:=λs2 e=>
 Do (M .lss (D s2.1 0) d) λf=>
 Gd f true (
 Do (aG none 7 a0 (D s2.1 0)) λg=>
 Do (Z s2.2 7 true g) λh=>
∃a b,W = .fn a b∧Φ (fJ a) (fK a [h] b) s2.2 λi c=>
 Gd i true (
 Q (D s2.1 0) c) (
 Do (M .add (D s2.1 0) (J 1)) λj=>
 e ([j],c))) (
 Q (J (-1)) s2.2)
def f59(Φ:ae)(a0 W:I)(H:AH)(Q:ad):Prop:=
 Do (aU false a0) λa=>
 av (Qk Φ a0 W a Q) ([O],H)
noncomputable def Gi:aF:=A C ⟨59,[],[[8]],none,[],[]⟩
def u0(Φ:ae)(a0 b:I)(Q:ad):a:=λc H2=>
 Gd (D c 0) true (
 Do (aD a0) λd=>
 Do (aa 3 d) λe=>
 Do (Z H2 1 false e) λf=>
 Do (aB [O,O] [(0,1,f),(1,1,b)]) λg=>
 Do (aD a0) λh=>
 Do (aa 4 h) λi=>
 Do (Y H2 2 i g) λj=>
 Q (.ar []) j) (
 Q (.ar []) H2)
def f60(Φ:ae)(a0 W a:I)(H:AH)(Q:ad):Prop:=
 Do (cO .not W) λb=>
 aM b true (
Φ 13 [a0] H λc d=>
 Do (cO .not c) λe=>
 G (u0 Φ a0 a Q) [e] d) (
 G (u0 Φ a0 a Q) [P] H) (
 False)
noncomputable def Gj:aF:=A C ⟨60,[],[],none,[],[]⟩
def pz(Φ:ae)(c d:I)(Q:ad):a:=λe b=>
 aM (D e 0) true (
 Do (aa 5 d) λf=>
 Do (Z b 1 false f) λg=>
 aM g false (
 Do (aa 9 c) λh=>
 Do (Z b 1 false h) λi=>
 Do (aU false i) λj=>
 Do (M .eql j O) λk=>
 Q k b) (
 Q bg b) (
 False)) (
 Q P b) (
 False)
def q2(Φ:ae)(c d:I)(Q:ad):a:=λe b=>
 aM (D e 0) true (
 Do (aa 4 d) λf=>
 Do (Z b 1 false f) λg=>
 aM g false (
 Do (aa 8 c) λh=>
 Do (Z b 1 false h) λi=>
 Do (aU false i) λj=>
 Do (M .eql j O) λk=>
 G (pz Φ c d Q) [k] b) (
 G (pz Φ c d Q) [bg] b) (
 False)) (
 G (pz Φ c d Q) [P] b) (
 False)
def pA(Φ:ae)(c d:I)(Q:ad):a:=λe b=>
 aM (D e 0) true (
 Do (aa 7 c) λf=>
 Do (Z b 1 false f) λg=>
 Do (aU false g) λh=>
 Do (aa 3 d) λi=>
 Do (Z b 1 false i) λj=>
 Do (M .eql h j) λk=>
 G (q2 Φ c d Q) [k] b) (
 G (q2 Φ c d Q) [P] b) (
 False)
def pB(Φ:ae)(c d:I)(Q:ad):a:=λe b=>
 aM (D e 0) true (
 Do (aa 2 d) λf=>
 Do (Z b 1 false f) λg=>
 aM g false (
 Do (aa 5 c) λh=>
 Do (Z b 2 true h) λi=>
Φ 110 [i] b λj k=>
 G (pA Φ c d Q) [j] k) (
 G (pA Φ c d Q) [bg] b) (
 False)) (
 G (pA Φ c d Q) [P] b) (
 False)
def pC(Φ:ae)(c d:I)(Q:ad):a:=λe b=>
 aM (D e 0) true (
 Do (aa 1 d) λf=>
 Do (Z b 1 false f) λg=>
 aM g false (
 Do (aa 3 c) λh=>
 Do (Z b 1 false h) λi=>
 Do (M .eql i (.str [])) λj=>
 G (pB Φ c d Q) [j] b) (
 G (pB Φ c d Q) [bg] b) (
 False)) (
 G (pB Φ c d Q) [P] b) (
 False)
def f61(Φ:ae)(a0:I)(H:AH)(Q:ad):Prop:=
 au (aL H false 10 a0) λa H2=>
 Do (aa 0 a) λe=>
 Do (Z H2 1 false e) λf=>
Φ 109 [f] H2 λd g=>
 Do (aY 0 d) λh=>
 Do (aY 1 d) λi=>
 au (some (aK g true [P,P,P,O,P,P])) λb j=>
 Do (Y j 6 b h) λc=>
 aM i true (
 Do (aa 0 b) λk=>
 Do (Z c 1 false k) λl=>
 aM l false (
 Do (aa 2 a) λm=>
 Do (Z c 1 false m) λn=>
 Do (M .eql n (.str [])) λo=>
 G (pC Φ a b Q) [o] c) (
 G (pC Φ a b Q) [bg] c) (
 False)) (
 G (pC Φ a b Q) [P] c) (
 False)
noncomputable def Gk:aF:=A C ⟨61,[3],[],none,[],[]⟩
def Al(Φ:ae)(W:I)(Q:ad):a:=λc b=>
 aM (D c 0) false (
 Do (M .eql W (J 4)) λd=>
 Q d b) (
 Q bg b) (
 False)
def Am(Φ:ae)(W:I)(Q:ad):a:=λc b=>
 aM (D c 0) false (
 Do (M .eql W (J 4)) λd=>
 Q d b) (
 Q bg b) (
 False)
def Gl(Φ:ae)(W:I)(Q:ad):a:=λc H2=>
 Do (M .eql W O) λb=>
 Q b H2
def u1(Φ:ae)(a0 W:I)(Q:ad):a:=λc b=>
 Gd (D c 0) true (
 Do (M .geq W (J 1)) λd=>
 aM d true (
 Do (M .leq W (J 4)) λe=>
 Q e b) (
 Q P b) (
 False)) (
 Do (M .eql a0 (J 7)) λf=>
 Gd f true (
 Do (M .geq W (J 2)) λg=>
 aM g true (
 Do (M .leq W (J 4)) λh=>
 Q h b) (
 Q P b) (
 False)) (
 G (Gl Φ W Q) [] b))
def An(Φ:ae)(a0 W:I)(Q:ad):a:=λe b=>
 Gd (D e 0) true (
 Do (M .eql W (J 1)) λf=>
 aM f false (
 Do (M .eql W (J 2)) λg=>
 G (Am Φ W Q) [g] b) (
 G (Am Φ W Q) [bg] b) (
 False)) (
 Do (M .eql a0 (J 16)) λc=>
 Gd c true (
 G (u1 Φ a0 W Q) [c] b) (
 Do (M .eql a0 (J 17)) λd=>
 Gd d true (
 G (u1 Φ a0 W Q) [d] b) (
 Do (M .eql a0 (J 18)) λh=>
 G (u1 Φ a0 W Q) [h] b)))
def Ao(Φ:ae)(a0 W:I)(Q:ad):a:=λd b=>
 Gd (D d 0) true (
 Do (M .eql W (J 1)) λe=>
 aM e false (
 Do (M .eql W (J 3)) λf=>
 G (Al Φ W Q) [f] b) (
 G (Al Φ W Q) [bg] b) (
 False)) (
 Do (M .eql a0 (J 5)) λc=>
 Gd c true (
 G (An Φ a0 W Q) [c] b) (
 Do (M .eql a0 (J 15)) λg=>
 G (An Φ a0 W Q) [g] b))
def f62(Φ:ae)(a0 W:I)(H:AH)(Q:ad):Prop:=
 Do (M .eql a0 (J 4)) λa=>
 Gd a true (
 G (Ao Φ a0 W Q) [a] H) (
 Do (M .eql a0 (J 6)) λb=>
 G (Ao Φ a0 W Q) [b] H)
noncomputable def Gm:aF:=A C ⟨62,[],[],none,[],[]⟩
def f63(Φ:ae)(a0 W:I)(H:AH)(Q:ad):Prop:=
 Do (aD a0) λa=>
 Do (aa 1 a) λb=>
 Do (Z H 1 false b) λc=>
Φ 57 [c,W] H λd e=>
 Q d e
noncomputable def Gn:aF:=A C ⟨63,[],[],none,[],[]⟩
def Gp(Φ:ae)(b:ST)(c:LT)(Q:ad):a:=λf d=>
 Do (M .add (D b.1 0) (J 1)) λe=>
 c ([e],d)
def u2(Φ:ae)(a0 d e f:I)(g:ST)(h:LT)(Q:ad):BT:=λa i=>
 Do (M .lss (D a.1 0) f) λj=>
 Gd j true (
 Do (aG none 8 e (D a.1 0)) λk=>
 Do (Z a.2 8 true k) λl=>
 au (some (aK a.2 true [O,bP 0,.str [],O,O,.str [],aw,aw])) λb m=>
 Do (Y m 8 b l) λc=>
 Do (Z c 8 true b) λn=>
 Do (M .add d (J 1)) λo=>
Φ 113 [a0,n,o] c λr p=>
 Do (M .add (D a.1 0) (J 1)) λq=>
 i ([q],p)) (
 G (Gp Φ g h Q) [] a.2)
def q3(Φ:ae)(a0 e f g:I)(Q:ad):BT:=λa h=>
 Do (M .lss (D a.1 0) g) λi=>
 Gd i true (
 Do (aG none 2 f (D a.1 0)) λj=>
 Do (Z a.2 2 true j) λk=>
 au (some (aK a.2 true [.str [],aw])) λb l=>
 Do (Y l 2 b k) λc=>
 Do (aa 1 b) λm=>
 Do (Z c 1 false m) λd=>
 Do (aU false d) λn=>
 av (u2 Φ a0 e d n a h Q) ([O],c)) (
 Q (.ar []) a.2)
def u3(Φ:ae)(a0 d e:I)(Q:ad):a:=λh b=>
 Do (aa 1 e) λf=>
 Do (Z b 1 false f) λc=>
 Do (aU false c) λg=>
 av (q3 Φ a0 d c g Q) ([O],b)
def f64(Φ:ae)(a0 W l e:I)(H:AH)(Q:ad):Prop:=
 au (aL H false 2 l) λa H2=>
Φ 13 [a0] H2 λm b=>
 Gd m true (
 Q (.ar []) b) (
 Do (aD a0) λn=>
 Do (aa 0 n) λf=>
 Do (Z b 1 false f) λg=>
 Do (Z b 2 true a) λh=>
Φ 111 [g,h] b λi o=>
 Do (aY 0 i) λp=>
 Do (aY 1 i) λj=>
 au (some (aK o true [O,O,P,aw,O,aw])) λk c=>
(Z c 1 false f=some g) ∧
(Z c 2 true a=some h) ∧
(Do (Y c 6 k p) λq=>
 Do (M .eql j O) λr=>
Φ 60 [a0,r,j] q λz s=>
Φ 13 [a0] s λt d=>
 aM t false (
 Do (Z d 6 true k) λu=>
Φ 112 [W,u] d λv w=>
Φ 60 [a0,v,(J 8)] w λA x=>
 G (u3 Φ a0 e a Q) [] x) (
Φ 60 [a0,bg,(J 8)] d λB y=>
 G (u3 Φ a0 e a Q) [] y) (
 False)))
noncomputable def Gq:aF:=A C ⟨64,[8,11,13],[[42],[49]],none,[],[]⟩
def u4(Φ:ae)(b:ST)(c:LT)(Q:ad):a:=λf d=>
 Do (M .add (D b.1 0) (J 1)) λe=>
 c ([e],d)
def q4(Φ:ae)(a0 W d e:I)(Q:ad):BT:=λs2 b=>
 Do (M .lss (D s2.1 0) e) λf=>
 Gd f true (
 Do (aG none 8 W (D s2.1 0)) λg=>
 Do (Z s2.2 8 true g) λh=>
 au (some (aK s2.2 true [O,bP 0,.str [],O,O,.str [],aw,aw])) λc i=>
 Do (Y i 8 c h) λj=>
Φ 13 [a0] j λk a=>
 Do (cO .not k) λl=>
 Gd l true (
 Do (Z a 8 true c) λm=>
 Do (M .add d (J 1)) λn=>
Φ 113 [a0,m,n] a λp o=>
 G (u4 Φ s2 b Q) [] o) (
 G (u4 Φ s2 b Q) [] a)) (
 Q (.ar []) s2.2)
def f65(Φ:ae)(a0 W a:I)(H:AH)(Q:ad):Prop:=
 Do (aU false W) λb=>
 av (q4 Φ a0 W a b Q) ([O],H)
noncomputable def Gr:aF:=A C ⟨65,[7],[[10]],none,[],[]⟩
def f66(Φ:ae)(a0:I)(H:AH)(Q:ad):Prop:=
 au (aL H false 6 a0) λb H2=>
 Do (Z H2 6 true b) λc=>
Φ 114 [c] H2 λd a=>
 Do (M .gtr d (J 64)) λe=>
 Gd e true (
 Q (J 5) a) (
 Do (Z a 6 true b) λf=>
Φ 115 [f] a λg h=>
 Q g h)
noncomputable def Gs:aF:=A C ⟨66,[],[],none,[],[]⟩
def u5(Φ:ae)(c:I)(Q:ad):a:=λd b=>
 aM (D d 0) false (
 Do (aa 3 c) λe=>
 Do (Z b 1 false e) λf=>
Φ 118 [f,(.fn 119 [])] b λg h=>
 Q g h) (
 Q bg b) (
 False)
def u6(Φ:ae)(b:I)(Q:ad):a:=λd c=>
 aM (D d 0) false (
 Do (aa 5 b) λe=>
 Do (Z c 1 false e) λf=>
Φ 117 [f,(.fn 67 [])] c λg h=>
 G (u5 Φ b Q) [g] h) (
 G (u5 Φ b Q) [bg] c) (
 False)
def f67(Φ:ae)(a0:I)(H:AH)(Q:ad):Prop:=
 au (aL H false 6 a0) λa H2=>
 Do (aa 2 a) λb=>
 Do (Z H2 1 false b) λc=>
 aM c true (
 Do (Z H2 6 true a) λd=>
Φ 116 [d] H2 λe f=>
 G (u6 Φ a Q) [e] f) (
 G (u6 Φ a Q) [P] H2) (
 False)
noncomputable def Gt:aF:=A C ⟨67,[],[],none,[],[]⟩
def Gu(Φ:ae)(h b:I)(Q:ad):a:=λq c=>
 Do (Z c 6 true h) λi=>
Φ 120 [i] c λd j=>
 Do (aY 0 d) λk=>
 Do (aY 1 d) λl=>
 au (some (aK j true [O,O,aw,O])) λe m=>
 Do (Y m 4 e k) λf=>
 Do (aa 0 e) λn=>
 Do (Z f 2 true n) λo=>
 Do (Y f 2 b o) λg=>
 Do (Z g 2 true b) λp=>
 Q (.ar [p,l]) g
def u7(Φ:ae)(d b o:I)(Q:ad):a:=λp c=>
 Gd (D p 0) true (
 Do (aa 1 d) λq=>
 Do (Z c 1 false q) λr=>
 Do (aa 1 d) λs=>
 Do (Z c 1 false s) λt=>
 Do (aB [O,O] [(0,1,r),(1,1,t)]) λu=>
 Do (Y c 2 b u) λj=>
 Do (Z j 2 true b) λv=>
 Q (.ar [v,bg]) j) (
 Do (M .eql o (J 5)) λw=>
 Gd w true (
 Do (aa 5 d) λx=>
 Do (Z c 1 false x) λy=>
 Do (aG none 6 y O) λz=>
 Do (Z c 6 true z) λA=>
Φ 68 [A] c λk B=>
 Do (aY 0 k) λC=>
 Do (aY 1 k) λE=>
 au (some (aK B true [O,O])) λe F=>
 Do (Y F 2 e C) λg=>
 Do (aa 0 e) λH=>
 Do (Z g 1 false H) λK=>
 Do (aa 4 d) λL=>
 Do (Z g 1 false L) λN=>
 Do (M .mul K N) λR=>
 Do (aa 0 e) λS=>
 Do (Y g 1 S R) λf=>
 Do (Z f 2 true e) λl=>
 aM E true (
 Do (aa 0 e) λm=>
 Do (Z f 1 false m) λn=>
 Do (M .leq n (J 65536)) λT=>
 Do (Y f 2 b l) λh=>
(((bg):I) = bg→Z h 1 false m=some n) ∧
(Do (Z h 2 true b) λU=>
 Q (.ar [U,T]) h)) (
 Do (Y f 2 b l) λi=>
(((P):I) = bg→Z i 1 false (.ar [])=some (.ar [])) ∧
(Do (Z i 2 true b) λV=>
 Q (.ar [V,P]) i)) (
 False)) (
 G (Gu Φ d b Q) [] c))
def f68(Φ:ae)(a0:I)(H:AH)(Q:ad):Prop:=
 au (aL H false 6 a0) λb H2=>
 au (some (aK H2 true [O,O])) λd c=>
 Do (aa 0 b) λf=>
 Do (Z c 1 false f) λa=>
 Do (M .eql a (J 1)) λe=>
 Gd e true (
 G (u7 Φ b d a Q) [e] c) (
 Do (M .eql a (J 2)) λg=>
 G (u7 Φ b d a Q) [g] c)
noncomputable def Gv:aF:=A C ⟨68,[2,4,6],[],none,[],[]⟩
def u9(Φ:ae)(a0 c d:I)(Q:ad):a:=λn b=>
 Gd (D n 0) true (
 Do (Z b 10 true c) λo=>
Φ 126 [a0,o] b λam p=>
 Q (.ar []) p) (
 Do (M .eql d (J 5)) λq=>
 Gd q true (
 Do (Z b 10 true c) λr=>
Φ 127 [a0,r] b λan s=>
 Q (.ar []) s) (
 Do (M .eql d (J 7)) λt=>
 Gd t true (
Φ 128 [(J 13)] b λu v=>
 au (some (aK v true [O,O,O,O,O,O,bP 0,O,O,O,O,O,O])) λe w=>
 Do (Y w 13 e u) λf=>
 Do (aa 4 c) λi=>
 Do (Z f 1 false i) λj=>
 Do (aa 0 c) λx=>
 Do (Z f 1 false x) λy=>
 Do (aa 4 c) λz=>
 Do (Z f 1 false z) λA=>
 Do (aB [.str [],aw] []) λB=>
 Do (aa 9 e) λC=>
Φ 129 [a0,y,A,B] f λE k=>
(Z k 1 false i=some j) ∧
(Do (Y k 1 C j) λF=>
 Do (aa 11 e) λG=>
 Do (Y F 1 G E) λl=>
 Do (Z l 13 true e) λH=>
Φ 130 [a0,H] l λao K=>
 Q (.ar []) K)) (
 Do (M .eql d (J 8)) λL=>
 Gd L true (
 Do (Z b 10 true c) λN=>
Φ 131 [a0,N] b λap P=>
 Q (.ar []) P) (
 Do (M .eql d (J 9)) λR=>
 Gd R true (
 Do (Z b 10 true c) λS=>
Φ 132 [a0,S] b λaq T=>
 Q (.ar []) T) (
 Do (M .eql d (J 10)) λU=>
 Gd U true (
Φ 128 [(J 18)] b λV W=>
 au (some (aK W true [O,O,O,O,O,O,bP 0,O,O,O,O,O,O])) λg X=>
 Do (Y X 13 g V) λh=>
 Do (aa 7 c) λab=>
 Do (Z h 1 false ab) λac=>
 Do (aG none 8 ac O) λaf=>
 Do (Z h 8 true af) λag=>
Φ 121 [a0,ag] h λah ai=>
 Do (aa 3 g) λaj=>
 Do (Y ai 1 aj ah) λm=>
 Do (Z m 13 true g) λak=>
Φ 130 [a0,ak] m λav al=>
 Q (.ar []) al) (
 Q (.ar []) b))))))
def f69(Φ:ae)(a0 W:I)(H:AH)(Q:ad):Prop:=
 au (aL H false 10 W) λa H2=>
 Do (aa 0 a) λg=>
 Do (Z H2 1 false g) λb=>
 Do (M .eql b (J 1)) λh=>
 Gd h true (
 Do (aa 7 a) λi=>
 Do (Z H2 1 false i) λj=>
 Do (aG none 8 j O) λk=>
 Do (Z H2 8 true k) λl=>
Φ 121 [a0,l] H2 λm n=>
Φ 122 [a0] n λd o=>
Φ 123 [a0,d,m] o λaj c=>
 Do (aD a0) λp=>
 Do (aa 7 p) λq=>
 Do (Z c 1 false q) λr=>
 Do (aa 2 a) λs=>
 Do (Z c 1 false s) λt=>
 Do (aB [.str [],O] [(0,1,t),(1,1,d)]) λu=>
 au (b8 c false 2 1 [.str [],O] [(0,2,u)]) λv w=>
 au (bH w true 2 24 r v) λx y=>
 Do (aD a0) λz=>
 Do (aa 7 z) λA=>
 Do (Y y 1 A x) λB=>
 Q (.ar []) B) (
 Do (M .eql b (J 2)) λC=>
 Gd C true (
 Do (aa 7 a) λD=>
 Do (Z H2 1 false D) λE=>
 Do (aG none 8 E O) λF=>
 Do (Z H2 8 true F) λK=>
Φ 121 [a0,K] H2 λL e=>
 Do (aa 2 a) λN=>
 Do (Z e 1 false N) λP=>
Φ 124 [a0,P] e λR S=>
Φ 123 [a0,R,L] S λak T=>
 Q (.ar []) T) (
 Do (M .eql b (J 3)) λU=>
 Gd U true (
 Do (aa 5 a) λV=>
 Do (Z H2 2 true V) λX=>
 Do (aa 7 a) λab=>
 Do (Z H2 1 false ab) λac=>
 Do (aG none 8 ac O) λaf=>
 Do (Z H2 8 true af) λag=>
Φ 125 [a0,X,ag] H2 λal ah=>
 Q (.ar []) ah) (
 Do (M .eql b (J 4)) λf=>
 Gd f true (
 G (u9 Φ a0 a b Q) [f] H2) (
 Do (M .eql b (J 6)) λai=>
 G (u9 Φ a0 a b Q) [ai] H2))))
noncomputable def Gw:aF:=A C ⟨69,[7,8,35],[],none,[],[]⟩
def u_(Φ:ae)(b:ST)(c:LT)(Q:ad):a:=λf d=>
 Do (M .mul (D b.1 0) (J 2)) λe=>
 c ([e],d)
def Ap(Φ:ae)(a0 W g:I)(b:ST)(c:LT)(Q:ad):a:=λd e=>
 Do (M .add (D d 0) (D b.1 0)) λf=>
 Do (M .lss f W) λh=>
 Gd h true (
Φ 134 [a0,(D d 0),f,W,g] e λj i=>
 G (u_ Φ b c Q) [] i) (
 G (u_ Φ b c Q) [] e)
def va(Φ:ae)(a0 W c:I)(b:ST)(d:LT)(Q:ad):BT:=λa e=>
 Do (M .leq (D a.1 1) W) λf=>
 Gd f true (
 Do (M .add (D a.1 0) (D b.1 0)) λg=>
Φ 134 [a0,(D a.1 0),g,(D a.1 1),c] a.2 λk h=>
 Do (M .mul (J 2) (D b.1 0)) λi=>
 Do (M .add (D a.1 1) i) λj=>
 e ([(D a.1 1),j],h)) (
 G (Ap Φ a0 W c b d Q) [(D a.1 0)] a.2)
def nI(Φ:ae)(a0 W b:I)(Q:ad):BT:=λa c=>
 Do (M .lss (D a.1 0) W) λd=>
 Gd d true (
 Do (M .mul (J 2) (D a.1 0)) λe=>
 av (va Φ a0 W b a c Q) ([O,e],a.2)) (
 Q (.ar []) a.2)
def vb(Φ:ae)(a0 W b:I)(Q:ad):a:=λc H2=>
Φ 133 [a0,(D c 0),W,b] H2 λe d=>
 av (nI Φ a0 W b Q) ([(J 20)],d)
def q5(Φ:ae)(a0 W b:I)(Q:ad):BT:=λa c=>
 Do (M .leq (D a.1 1) W) λd=>
 Gd d true (
Φ 133 [a0,(D a.1 0),(D a.1 1),b] a.2 λg e=>
 Do (M .add (D a.1 1) (J 20)) λf=>
 c ([(D a.1 1),f],e)) (
 G (vb Φ a0 W b Q) [(D a.1 0)] a.2)
def f70(Φ:ae)(a0 W a:I)(H:AH)(Q:ad):Prop:=
 av (q5 Φ a0 W a Q) ([O,(J 20)],H)
noncomputable def Gx:aF:=A C ⟨70,[],[[7,8],[6],[7,8]],none,[],[]⟩
def f71(Φ:ae)(a0:I)(H:AH)(Q:ad):Prop:=
 Do (M .neq a0 a0) λa=>
 Q a H
noncomputable def Gy:aF:=A C ⟨71,[],[],none,[],[]⟩
def f72(Φ:ae)(a0:I)(H:AH)(Q:ad):Prop:=
∃t3 d a e,a0 = .iface t3 d∧fI zZ t3=some a∧h4 H a.2 d=some e∧Φ a.1 (e::[]) H λl H2=>
 Do (M .sub l (J 1)) λf=>
∃t10 g b h,a0 = .iface t10 g∧fI ue t10=some b∧h4 H2 b.2 g=some h∧Φ b.1 (h::[O,f]) H2 λp m=>
Φ 135 [a0,O,f] m λq i=>
∃t18 j c k,a0 = .iface t18 j∧fI E3 t18=some c∧h4 i c.2 j=some k∧Φ c.1 (k::[]) i λn o=>
 Q n o
noncomputable def Gz:aF:=A C ⟨72,[],[],none,[9,181,183,336,338,355],[]⟩
def f74(Φ:ae)(a0 W:I)(H:AH)(Q:ad):Prop:=
 Do (M .sub W a0) λa=>
 Q a H
noncomputable def GA:aF:=A C ⟨74,[],[],none,[],[]⟩
def f75(Φ:ae)(a0 W:I)(H:AH)(Q:ad):Prop:=
∃t3 c a d,a0 = .iface t3 c∧fI E4 t3=some a∧h4 H a.2 c=some d∧Φ a.1 (d::[W]) H λk H2=>
∃t9 e b f,a0 = .iface t9 e∧fI zZ t9=some b∧h4 H2 b.2 e=some f∧Φ b.1 (f::[]) H2 λg h=>
 Do (M .sub g (J 1)) λi=>
Φ 138 [a0,i] h λl j=>
 Q (.ar []) j
noncomputable def GB:aF:=A C ⟨75,[],[],none,[9,181,183,336,338,355],[]⟩
def Aq(Φ:ae)(a0 W:I)(Q:ad):a:=λm H2=>
 Do (kA a0) λc=>
 Do (aU false a0) λd=>
 Do (M .sub c d) λe=>
 Do (M .sub W e) λb=>
 Do (M .gtr b O) λf=>
 Gd f true (
 Do (kA a0) λg=>
 Do (c9 1 a0 none (some g) none) λh=>
 au (c7 H2 (.grow 1 8 [O]) [h,b]) λi j=>
 Do (aU false a0) λk=>
 Do (c9 1 i none (some k) none) λl=>
 Q l j) (
 Q a0 H2)
def f76(Φ:ae)(a0 W:I)(H:AH)(Q:ad):Prop:=
 Do (M .lss W O) λa=>
 Gd a true (
 au (c7 H .stuck []) λc b=>
 G (Aq Φ a0 W Q) [] b) (
 G (Aq Φ a0 W Q) [] H)
noncomputable def GC:aF:=A C ⟨76,[],[],none,[],[]⟩
def f77(Φ:ae)(a0:I)(H:AH)(Q:ad):Prop:=
Φ 139 [a0,(.fn 140 [])] H λa H2=>
 Q a H2
noncomputable def GD:aF:=A C ⟨77,[],[],none,[],[]⟩
def pD(Φ:ae)(b:ST)(c:LT)(Q:ad):a:=λd e=>
 Do (M .add (D b.1 1) (J 1)) λf=>
 c ([(D d 0),f],e)
def GF(Φ:ae)(a0:I)(Q:ad):a:=λb H2=>
 Do (aU false (D b 0)) λc=>
 Do (M .eql c O) λd=>
 Gd d true (
 Do (aB [O,O,O,O,O,O,O] [(0,1,(J 1)),(1,1,a0)]) λe=>
 au (b8 H2 false 7 1 [O,O,O,O,O,O,O] [(0,7,e)]) λf g=>
 au (bH g false 7 56 (D b 0) f) λh i=>
 Q h i) (
 Q (D b 0) H2)
def pE(Φ:ae)(a0 W:I)(Q:ad):BT:=λa b=>
 Do (M .lss (D a.1 1) (J 4)) λd=>
 Gd d true (
 Do (M .mul (J 16) (D a.1 1)) λe=>
 Do (M .shr W e) λf=>
 Do (M .and f (bP 65535)) λg=>
 Do (dK .i64 g) λc=>
 Do (M .eql c O) λh=>
 Gd h true (
 G (pD Φ a b Q) [(D a.1 0)] a.2) (
 Do (aU false (D a.1 0)) λi=>
 Do (M .eql i O) λj=>
 Gd j true (
 Do (aB [O,O,O,O,O,O,O] [(0,1,(J 1)),(1,1,a0),(4,1,(D a.1 1)),(6,1,c)]) λk=>
 au (b8 a.2 false 7 1 [O,O,O,O,O,O,O] [(0,7,k)]) λl m=>
 au (bH m false 7 56 (D a.1 0) l) λn o=>
 G (pD Φ a b Q) [n] o) (
 Do (aB [O,O,O,O,O,O,O] [(0,1,(J 2)),(1,1,a0),(4,1,(D a.1 1)),(6,1,c)]) λp=>
 au (b8 a.2 false 7 1 [O,O,O,O,O,O,O] [(0,7,p)]) λq r=>
 au (bH r false 7 56 (D a.1 0) q) λs t=>
 G (pD Φ a b Q) [s] t))) (
 G (GF Φ a0 Q) [(D a.1 0)] a.2)
def f78(Φ:ae)(a0 W:I)(H:AH)(Q:ad):Prop:=
 av (pE Φ a0 W Q) ([aw,O],H)
noncomputable def GG:aF:=A C ⟨78,[],[[5,8]],none,[],[]⟩
def f79(Φ:ae)(a0 W b:I)(H:AH)(Q:ad):Prop:=
Φ 141 [a0,W] H λa H2=>
 Do (M .geq a O) λc=>
 Gd c true (
 Q a H2) (
 Q b H2)
noncomputable def GH:aF:=A C ⟨79,[],[],none,[],[]⟩
def f80(Φ:ae)(a0 W b:I)(H:AH)(Q:ad):Prop:=
Φ 141 [a0,W] H λa H2=>
 Do (M .lss a O) λc=>
 Gd c true (
 Do (M .sub (J (-1)) a) λd=>
 Do (aB [O,O,O,O,O,O,O] [(0,1,(J 18)),(1,1,b),(2,1,(J 28)),(5,1,(J 3)),(6,1,d)]) λe=>
Φ 42 [a0,e] H2 λg f=>
 Q (.ar []) f) (
 Q (.ar []) H2)
noncomputable def GI:aF:=A C ⟨80,[],[],none,[],[]⟩
def f81(Φ:ae)(a0 W b:I)(H:AH)(Q:ad):Prop:=
Φ 79 [a0,W,(J 11)] H λa H2=>
Φ 142 [a0,a,b] H2 λe c=>
Φ 80 [a0,W,a] c λf d=>
 Q (.ar []) d
noncomputable def GJ:aF:=A C ⟨81,[],[],none,[],[]⟩
def f82(Φ:ae)(a0 W b:I)(H:AH)(Q:ad):Prop:=
Φ 141 [a0,W] H λa H2=>
 Do (M .geq a O) λc=>
 Gd c true (
 Q a H2) (
 Do (M .sub (J (-1)) a) λd=>
 Do (aB [O,O,O,O,O,O,O] [(0,1,(J 17)),(1,1,b),(2,1,(J 28)),(5,1,(J 3)),(6,1,d)]) λe=>
Φ 42 [a0,e] H2 λg f=>
 Q b f)
noncomputable def GK:aF:=A C ⟨82,[],[],none,[],[]⟩
def vc(Φ:ae)(a0 c d:I)(Q:ad):a:=λh b=>
 Do (aa 1 c) λe=>
 Do (Z b 1 false e) λf=>
Φ 80 [a0,f,d] b λi g=>
 Q (.ar []) g
def f83(Φ:ae)(a0 W:I)(H:AH)(Q:ad):Prop:=
 au (aL H false 13 W) λa H2=>
 Do (aa 3 a) λo=>
 Do (Z H2 1 false o) λp=>
 Do (aa 4 a) λf=>
 Do (Z H2 1 false f) λg=>
 Do (aa 1 a) λc=>
 Do (Z H2 1 false c) λd=>
Φ 82 [a0,p,(J 8)] H2 λh e=>
(Z e 1 false f=some g) ∧
(Z e 1 false c=some d) ∧
(Φ 82 [a0,g,(J 9)] e λi j=>
(Z j 1 false c=some d) ∧
(Φ 79 [a0,d,(J 11)] j λb k=>
 Do (aa 7 a) λq=>
 Do (Z k 1 false q) λr=>
Φ 143 [r] k λl m=>
 Do (M .neq l O) λs=>
 Gd s true (
 Do (aB [O,O,O,O,O,O,O] [(0,1,l),(1,1,b),(2,1,h),(3,1,i)]) λt=>
Φ 42 [a0,t] m λC u=>
 G (vc Φ a0 a b Q) [] u) (
 Do (aB [O,O,O,O,O,O,O] [(0,1,(J 5)),(1,1,(J 31)),(2,1,h),(3,1,i)]) λv=>
Φ 42 [a0,v] m λD n=>
 Do (aa 7 a) λw=>
 Do (Z n 1 false w) λx=>
Φ 144 [x] n λy z=>
 Do (aB [O,O,O,O,O,O,O] [(0,1,(J 12)),(1,1,b),(4,1,y)]) λA=>
Φ 42 [a0,A] z λE B=>
 G (vc Φ a0 a b Q) [] B)))
noncomputable def GL:aF:=A C ⟨83,[],[],none,[],[]⟩
def f84(Φ:ae)(a0 W:I)(H:AH)(Q:ad):Prop:=
 au (aL H false 13 W) λa H2=>
 Do (Z H2 13 true a) λo=>
 Do (aa 1 a) λi=>
 Do (Z H2 1 false i) λj=>
Φ 145 [a0,o] H2 λp k=>
(Z k 1 false i=some j) ∧
(Φ 79 [a0,j,(J 11)] k λl b=>
 Do (aa 11 a) λc=>
 Do (Z b 1 false c) λd=>
 Do (aa 9 a) λq=>
 Do (Z b 1 false q) λr=>
 Do (aa 8 a) λe=>
 Do (Z b 1 false e) λf=>
Φ 147 [r] b λs g=>
(Z g 1 false c=some d) ∧
(Z g 1 false e=some f) ∧
(Φ 146 [s,(J 19),(J 17)] g λt h=>
(Z h 1 false c=some d) ∧
(Z h 1 false e=some f) ∧
(Φ 148 [f] h λu m=>
(Z m 1 false c=some d) ∧
(Do (aB [O,O,O,O,O,O,O] [(0,1,t),(1,1,l),(2,1,p),(5,1,u)]) λv=>
Φ 89 [a0,d,v] m λz n=>
 Do (aa 1 a) λw=>
 Do (Z n 1 false w) λx=>
Φ 80 [a0,x,l] n λA y=>
 Q (.ar []) y))))
noncomputable def GM:aF:=A C ⟨84,[],[],none,[],[]⟩
def f85(Φ:ae)(a0 W:I)(H:AH)(Q:ad):Prop:=
 au (aL H false 13 W) λa H2=>
 Do (Z H2 13 true a) λm=>
 Do (aa 4 a) λi=>
 Do (Z H2 1 false i) λj=>
Φ 145 [a0,m] H2 λn k=>
(Z k 1 false i=some j) ∧
(Φ 82 [a0,j,(J 9)] k λo b=>
 Do (aa 11 a) λc=>
 Do (Z b 1 false c) λd=>
 Do (aa 9 a) λp=>
 Do (Z b 1 false p) λq=>
 Do (aa 8 a) λe=>
 Do (Z b 1 false e) λf=>
Φ 149 [q] b λr g=>
(Z g 1 false c=some d) ∧
(Z g 1 false e=some f) ∧
(Φ 146 [r,(J 20),(J 18)] g λs h=>
(Z h 1 false c=some d) ∧
(Z h 1 false e=some f) ∧
(Φ 148 [f] h λt l=>
(Z l 1 false c=some d) ∧
(Do (aB [O,O,O,O,O,O,O] [(0,1,s),(1,1,o),(2,1,n),(5,1,t)]) λu=>
Φ 89 [a0,d,u] l λw v=>
 Q (.ar []) v))))
noncomputable def GN:aF:=A C ⟨85,[],[],none,[],[]⟩
end Rb.S

namespace Rb.S
open Go
open Go.Proofs.YtbomedgnnklgbaaGreatDoor.rb (C)
def vd(Φ:ae)(a0 b e f g h:I)(Q:ad):a:=λi c=>
 Do (aa 11 b) λj=>
 Do (Z c 1 false j) λk=>
 Do (aB [O,O,O,O,O,O,O] [(0,1,f),(3,1,(J 13)),(1,1,(D i 0)),(2,1,e),(5,1,h)]) λl=>
Φ 89 [a0,k,l] c λq m=>
Φ 150 [a0,g] m λr d=>
 Do (aa 1 b) λn=>
 Do (Z d 1 false n) λo=>
Φ 81 [a0,o,(J 14)] d λs p=>
 Q (.ar []) p
def f86(Φ:ae)(a0 W:I)(H:AH)(Q:ad):Prop:=
 au (aL H false 13 W) λa H2=>
 Do (aa 3 a) λt=>
 Do (Z H2 1 false t) λu=>
 Do (aa 4 a) λj=>
 Do (Z H2 1 false j) λk=>
Φ 82 [a0,u,(J 8)] H2 λb l=>
(Z l 1 false j=some k) ∧
(Φ 82 [a0,k,(J 9)] l λm c=>
 Do (aa 9 a) λv=>
 Do (Z c 1 false v) λw=>
 Do (aa 9 a) λd=>
 Do (Z c 1 false d) λe=>
Φ 147 [w] c λx n=>
(Z n 1 false d=some e) ∧
(Φ 146 [x,(J 22),(J 21)] n λy o=>
(Z o 1 false d=some e) ∧
(Φ 149 [e] o λz A=>
Φ 146 [z,(J 24),(J 23)] A λp f=>
 Do (aD a0) λB=>
 Do (aa 1 B) λq=>
 Do (Z f 1 false q) λr=>
 Do (aU false r) λs=>
 Do (aa 8 a) λC=>
 Do (Z f 1 false C) λD=>
Φ 148 [D] f λg h=>
(Z h 1 false q=some r) ∧
(Do (aa 11 a) λE=>
 Do (Z h 1 false E) λF=>
 Do (aB [O,O,O,O,O,O,O] [(0,1,y),(1,1,(J 14)),(2,1,b),(5,1,g)]) λK=>
Φ 89 [a0,F,K] h λT i=>
 Do (aa 0 a) λL=>
 Do (Z i 1 false L) λN=>
 Do (M .eql N (J 8)) λP=>
 Gd P true (
 Do (aB [O,O,O,O,O,O,O] [(0,1,(J 3)),(1,1,(J 12)),(2,1,(J 14)),(3,1,m)]) λR=>
Φ 42 [a0,R] i λU S=>
 G (vd Φ a0 a b p s g Q) [(J 12)] S) (
 G (vd Φ a0 a b p s g Q) [m] i)))))
noncomputable def GO:aF:=A C ⟨86,[],[],none,[],[]⟩
def ve(Φ:ae)(a0 b d h i j e:I)(Q:ad):a:=λk c=>
 Do (aD a0) λl=>
 Do (aa 1 l) λm=>
 Do (Z c 1 false m) λn=>
 Do (aU false n) λo=>
 Do (aa 11 b) λp=>
 Do (Z c 1 false p) λq=>
 Do (aB [O,O,O,O,O,O,O] [(0,1,i),(1,1,(J 14)),(2,1,d),(5,1,e)]) λr=>
Φ 89 [a0,q,r] c λK s=>
 Do (aB [O,O,O,O,O,O,O] [(0,1,(J 5)),(1,1,(J 31)),(2,1,(J 14)),(3,1,(D k 0))]) λt=>
Φ 42 [a0,t] s λL u=>
 Do (aB [O,O,O,O,O,O,O] [(0,1,(J 14)),(4,1,(J 1)),(6,1,(J 4))]) λv=>
Φ 42 [a0,v] u λM f=>
 Do (aa 11 b) λw=>
 Do (Z f 1 false w) λx=>
 Do (aB [O,O,O,O,O,O,O] [(0,1,j),(3,1,(J 13)),(1,1,h),(2,1,d),(5,1,e)]) λy=>
Φ 89 [a0,x,y] f λN z=>
Φ 150 [a0,o] z λP A=>
 Do (aB [O,O,O,O,O,O,O] [(0,1,(J 13)),(6,1,(J 2))]) λB=>
Φ 42 [a0,B] A λR C=>
 Do (aB [O,O,O,O,O,O,O] [(0,1,(J 30))]) λE=>
Φ 42 [a0,E] C λS g=>
 Do (aa 1 b) λF=>
 Do (Z g 1 false F) λG=>
Φ 81 [a0,G,(J 14)] g λT H=>
 Q (.ar []) H
def f87(Φ:ae)(a0 W:I)(H:AH)(Q:ad):Prop:=
 au (aL H false 13 W) λa H2=>
 Do (aa 3 a) λu=>
 Do (Z H2 1 false u) λv=>
 Do (aa 4 a) λi=>
 Do (Z H2 1 false i) λj=>
 Do (aa 5 a) λc=>
 Do (Z H2 1 false c) λd=>
Φ 82 [a0,v,(J 8)] H2 λk e=>
(Z e 1 false i=some j) ∧
(Z e 1 false c=some d) ∧
(Φ 82 [a0,j,(J 9)] e λl m=>
(Z m 1 false c=some d) ∧
(Φ 82 [a0,d,(J 10)] m λn f=>
 Do (aa 9 a) λw=>
 Do (Z f 1 false w) λx=>
 Do (aa 9 a) λg=>
 Do (Z f 1 false g) λh=>
Φ 147 [x] f λy o=>
(Z o 1 false g=some h) ∧
(Φ 146 [y,(J 22),(J 21)] o λp q=>
(Z q 1 false g=some h) ∧
(Φ 149 [h] q λz A=>
Φ 146 [z,(J 24),(J 23)] A λr s=>
 Do (aa 8 a) λB=>
 Do (Z s 1 false B) λC=>
Φ 148 [C] s λt b=>
 Do (aa 8 a) λD=>
 Do (Z b 1 false D) λE=>
 Do (M .lss E (J 8)) λF=>
 Gd F true (
 Do (aa 8 a) λK=>
 Do (Z b 1 false K) λL=>
 Do (M .mul (J 8) L) λN=>
 Do (M .shl (bP 1) N) λP=>
 Do (M .sub P (bP 1)) λR=>
Φ 40 [a0,(J 12),R] b λV S=>
 Do (aB [O,O,O,O,O,O,O] [(0,1,(J 6)),(1,1,(J 12)),(2,1,l),(3,1,(J 12))]) λT=>
Φ 42 [a0,T] S λX U=>
 G (ve Φ a0 a k n p r t Q) [(J 12)] U) (
 G (ve Φ a0 a k n p r t Q) [l] b)))))
noncomputable def GP:aF:=A C ⟨87,[],[],none,[],[]⟩
def vf(Φ:ae)(a0 b e:I)(i:List I)(j:List I)(Q:ad):a:=λf d=>
 Do (aD a0) λk=>
 Do (aa 1 k) λl=>
 Do (Z d 1 false l) λm=>
 Do (aU false m) λn=>
 Do (aa 11 b) λo=>
 Do (Z d 1 false o) λp=>
 Do (aB [O,O,O,O,O,O,O] [(0,1,(D i 0)),(1,1,(J 14)),(4,1,(J 12)),(2,1,e)]) λq=>
Φ 89 [a0,p,q] d λE g=>
 Do (aa 11 b) λr=>
 Do (Z g 1 false r) λs=>
 Do (aB [O,O,O,O,O,O,O] [(0,1,(D j 0)),(3,1,(J 13)),(1,1,(D f 0)),(4,1,(D f 1)),(2,1,e)]) λt=>
Φ 89 [a0,s,t] g λF u=>
Φ 150 [a0,n] u λG c=>
 Do (aa 0 b) λv=>
 Do (Z c 1 false v) λw=>
 Do (M .eql w (J 11)) λx=>
 Gd x true (
 Do (aa 1 b) λy=>
 Do (Z c 1 false y) λz=>
Φ 81 [a0,z,(J 14)] c λH h=>
 Do (aa 2 b) λA=>
 Do (Z h 1 false A) λB=>
Φ 81 [a0,B,(J 12)] h λK C=>
 Q (.ar []) C) (
 Q (.ar []) c)
def q6(Φ:ae)(a0 b d:I)(e:List I)(Q:ad):a:=λf c=>
 Do (aa 0 b) λj=>
 Do (Z c 1 false j) λk=>
 Do (M .eql k (J 12)) λl=>
 Gd l true (
 Do (aa 4 b) λm=>
 Do (Z c 1 false m) λn=>
 Do (aa 5 b) λg=>
 Do (Z c 1 false g) λh=>
Φ 82 [a0,n,(J 9)] c λo i=>
(Z i 1 false g=some h) ∧
(Φ 82 [a0,h,(J 10)] i λp q=>
 G (vf Φ a0 b d e f Q) [o,p] q)) (
 G (vf Φ a0 b d e f Q) [(J 14),(J 12)] c)
def vg(Φ:ae)(a0 b d:I)(Q:ad):a:=λe c=>
 Do (aa 9 b) λf=>
 Do (Z c 1 false f) λg=>
 Do (M .eql g (J 4)) λh=>
 aM h false (
 Do (aa 0 b) λi=>
 Do (Z c 1 false i) λj=>
 Do (M .eql j (J 12)) λk=>
 aM k true (
 Do (aa 9 b) λl=>
 Do (Z c 1 false l) λm=>
Φ 149 [m] c λn o=>
Φ 146 [n,(J 28),(J 27)] o λp q=>
 G (q6 Φ a0 b d e Q) [p] q) (
Φ 146 [P,(J 28),(J 27)] c λr s=>
 G (q6 Φ a0 b d e Q) [r] s) (
 False)) (
Φ 146 [bg,(J 28),(J 27)] c λt u=>
 G (q6 Φ a0 b d e Q) [t] u) (
 False)
def f88(Φ:ae)(a0 W:I)(H:AH)(Q:ad):Prop:=
 au (aL H false 13 W) λa H2=>
 Do (aa 3 a) λd=>
 Do (Z H2 1 false d) λe=>
Φ 82 [a0,e,(J 8)] H2 λc b=>
 Do (aa 0 a) λf=>
 Do (Z b 1 false f) λg=>
 Do (M .eql g (J 11)) λh=>
 aM h true (
 Do (aa 9 a) λi=>
 Do (Z b 1 false i) λj=>
Φ 147 [j] b λk l=>
Φ 146 [k,(J 26),(J 25)] l λm n=>
 G (vg Φ a0 a c Q) [m] n) (
Φ 146 [P,(J 26),(J 25)] b λo p=>
 G (vg Φ a0 a c Q) [o] p) (
 False)
noncomputable def GQ:aF:=A C ⟨88,[],[],none,[],[]⟩
def f89(Φ:ae)(a0 W c:I)(H:AH)(Q:ad):Prop:=
 au (aL H false 7 c) λd H2=>
 Do (aD a0) λe=>
 Do (aa 1 e) λf=>
 Do (Z H2 1 false f) λg=>
 Do (Z H2 7 true d) λh=>
 au (b8 H2 false 7 1 [O,O,O,O,O,O,O] [(0,7,h)]) λi j=>
 au (bH j true 7 56 g i) λk l=>
 Do (aD a0) λm=>
 Do (aa 1 m) λn=>
 Do (Y l 1 n k) λb=>
 Do (aD a0) λo=>
 Do (aa 2 o) λp=>
 Do (Z b 1 false p) λq=>
 au (b8 b false 1 1 [O] [(0,1,W)]) λr s=>
 au (bH s true 1 8 q r) λt u=>
 Do (aD a0) λv=>
 Do (aa 2 v) λw=>
 Do (Y u 1 w t) λa=>
 Do (aD a0) λx=>
 Do (aa 3 x) λy=>
 Do (Z a 1 false y) λz=>
 Do (aD a0) λA=>
 Do (aa 4 A) λB=>
 Do (Z a 1 false B) λC=>
 au (b8 a false 1 1 [O] [(0,1,C)]) λD E=>
 au (bH E true 1 8 z D) λF G=>
 Do (aD a0) λJ=>
 Do (aa 3 J) λK=>
 Do (Y G 1 K F) λL=>
 Q (.ar []) L
noncomputable def GU:aF:=A C ⟨89,[13,23,36],[],none,[],[]⟩
def vi(Φ:ae)(a0 d e:I)(Q:ad):a:=λx b=>
 Do (aD a0) λf=>
 Do (aa 6 f) λg=>
 Do (Z b 1 false g) λh=>
 Do (aD a0) λi=>
 Do (aa 1 i) λj=>
 Do (Z b 1 false j) λk=>
 Do (aU false k) λl=>
 Do (aa 10 d) λm=>
 Do (Z b 1 false m) λn=>
 Do (aB [O,O] [(0,1,l),(1,1,n)]) λo=>
 au (b8 b false 2 1 [O,O] [(0,2,o)]) λp q=>
 au (bH q false 2 16 h p) λr s=>
 Do (aD a0) λt=>
 Do (aa 6 t) λu=>
 Do (Y s 1 u r) λc=>
 Do (Z c 7 true e) λv=>
Φ 42 [a0,v] c λy w=>
 Q (.ar []) w
def f90(Φ:ae)(a0 W:I)(H:AH)(Q:ad):Prop:=
 au (aL H false 13 W) λa H2=>
 Do (aB [O,O,O,O,O,O,O] [(0,1,(J 13))]) λd=>
 au (some (aK H2 true [O,O,O,O,O,O,O])) λb e=>
 Do (Y e 7 b d) λc=>
 Do (aa 0 a) λf=>
 Do (Z c 1 false f) λg=>
 Do (M .eql g (J 16)) λh=>
 Gd h true (
 Do (aa 3 a) λi=>
 Do (Z c 1 false i) λj=>
Φ 82 [a0,j,(J 8)] c λk l=>
 Do (aB [O,O,O,O,O,O,O] [(0,1,(J 15)),(1,1,k)]) λm=>
 Do (Y l 7 b m) λn=>
 G (vi Φ a0 a b Q) [] n) (
 G (vi Φ a0 a b Q) [] c)
noncomputable def GV:aF:=A C ⟨90,[4],[],none,[],[]⟩
def f91(Φ:ae)(a0 W:I)(H:AH)(Q:ad):Prop:=
 au (aL H false 13 W) λa H2=>
 Do (aa 3 a) λc=>
 Do (Z H2 1 false c) λd=>
Φ 82 [a0,d,(J 8)] H2 λe b=>
 Do (aa 6 a) λf=>
 Do (Z b 1 false f) λg=>
Φ 40 [a0,(J 14),g] b λo h=>
 Do (aB [O,O,O,O,O,O,O] [(0,1,(J 5)),(1,1,(J 31)),(2,1,e),(3,1,(J 14))]) λi=>
Φ 42 [a0,i] h λp j=>
 Do (aB [O,O,O,O,O,O,O] [(0,1,(J 14)),(4,1,(J 3)),(6,1,(J 2))]) λk=>
Φ 42 [a0,k] j λq l=>
 Do (aB [O,O,O,O,O,O,O] [(0,1,(J 32)),(6,1,(J 1))]) λm=>
Φ 42 [a0,m] l λr n=>
 Q (.ar []) n
noncomputable def GW:aF:=A C ⟨91,[],[],none,[],[]⟩
def f92(Φ:ae)(a0:I)(H:AH)(Q:ad):Prop:=
 au (some (aK H true [.int .u32 0,.str []])) λa H2=>
 Do (M .eql a0 (J 13)) λk=>
 Gd k true (
 Do (aB [.int .u32 0,.str []] [(0,1,(.int .u32 335544320)),(1,1,(.str [98]))]) λl=>
 Do (Y H2 2 a l) λb=>
 Do (Z b 2 true a) λm=>
 Q m b) (
 Do (M .eql a0 (J 14)) λn=>
 Gd n true (
 Do (aB [.int .u32 0,.str []] [(0,1,(.int .u32 1409286144)),(1,1,(.str [120,99]))]) λo=>
 Do (Y H2 2 a o) λc=>
 Do (Z c 2 true a) λp=>
 Q p c) (
 Do (M .eql a0 (J 15)) λq=>
 Gd q true (
 Do (aB [.int .u32 0,.str []] [(0,1,(.int .u32 3019898880)),(1,1,(.str [100,120]))]) λr=>
 Do (Y H2 2 a r) λd=>
 Do (Z d 2 true a) λs=>
 Q s d) (
 Do (M .eql a0 (J 16)) λt=>
 Gd t true (
 Do (aB [.int .u32 0,.str []] [(0,1,(.int .u32 3036676096)),(1,1,(.str [100,120]))]) λu=>
 Do (Y H2 2 a u) λe=>
 Do (Z e 2 true a) λv=>
 Q v e) (
 Do (M .eql a0 (J 29)) λw=>
 Gd w true (
 Do (aB [.int .u32 0,.str []] [(0,1,(.int .u32 3573756095)),(1,1,(.str [102]))]) λx=>
 Do (Y H2 2 a x) λf=>
 Do (Z f 2 true a) λy=>
 Q y f) (
 Do (M .eql a0 (J 30)) λz=>
 Gd z true (
 Do (aB [.int .u32 0,.str []] [(0,1,(.int .u32 3573759839)),(1,1,(.str [122]))]) λA=>
 Do (Y H2 2 a A) λg=>
 Do (Z g 2 true a) λB=>
 Q B g) (
 Do (M .eql a0 (J 31)) λC=>
 Gd C true (
 Do (aB [.int .u32 0,.str []] [(0,1,(.int .u32 3556769793)),(1,1,(.str [105]))]) λD=>
 Do (Y H2 2 a D) λh=>
 Do (Z h 2 true a) λE=>
 Q E h) (
 Do (M .eql a0 (J 32)) λF=>
 Gd F true (
 Do (aB [.int .u32 0,.str []] [(0,1,(.int .u32 3558866944)),(1,1,(.str [105]))]) λG=>
 Do (Y H2 2 a G) λi=>
 Do (Z i 2 true a) λK=>
 Q K i) (
Φ 151 [a0] H2 λL N=>
 Do (Y N 2 a L) λj=>
 Do (Z j 2 true a) λO=>
 Q O j))))))))
noncomputable def GX:aF:=A C ⟨92,[2],[],none,[],[]⟩
def f93(Φ:ae)(H:AH)(Q:ad):Prop:=
 au (some (aK H true [.int .u32 0,.int .u32 0,.int .u32 0])) λa H2=>
 Do (aB [.int .u32 0,.int .u32 0,.int .u32 0] [(0,1,(.int .u32 11)),(1,1,(.int .u32 9)),(2,1,(.int .u32 10))]) λc=>
 Do (Y H2 3 a c) λb=>
 Do (Z b 3 true a) λd=>
 Q d b
noncomputable def GY:aF:=A C ⟨93,[0],[],none,[],[]⟩
def vj(Φ:ae)(a0 W a:I)(Q:ad):BT:=λs2 b=>
 Do (M .lss (D s2.1 0) a) λc=>
 Gd c true (
 Do (aG none 1 a0 (D s2.1 0)) λd=>
 Do (Z s2.2 1 false d) λe=>
 Do (M .eql W e) λf=>
 Gd f true (
 Q (D s2.1 0) s2.2) (
 Do (M .add (D s2.1 0) (J 1)) λg=>
 b ([g],s2.2))) (
 Q (J (-1)) s2.2)
def f106(Φ:ae)(a0 W:I)(H:AH)(Q:ad):Prop:=
 Do (aU false a0) λa=>
 av (vj Φ a0 W a Q) ([O],H)
noncomputable def GZ:aF:=A C ⟨106,[],[[8]],none,[],[]⟩
def G1(Φ:ae)(b:I)(Q:ad):a:=λg d=>
 Do (aB [P,P,P,O,P,P] []) λe=>
 Do (Y d 6 b e) λc=>
 Do (Z c 6 true b) λf=>
 Q (.ar [f,P]) c
def Ar(Φ:ae)(a0 b:I)(Q:ad):a:=λk c=>
 Gd (D k 0) true (
 Do (aB [P,P,P,O,P,P] [(2,1,bg),(3,1,(J 1))]) λl=>
 Do (Y c 6 b l) λd=>
 Do (Z d 6 true b) λm=>
 Q (.ar [m,bg]) d) (
 Do (M .eql a0 (J 5)) λn=>
 Gd n true (
 Do (aB [P,P,P,O,P,P] [(0,1,bg),(1,1,bg),(2,1,bg)]) λo=>
 Do (Y c 6 b o) λe=>
 Do (Z e 6 true b) λp=>
 Q (.ar [p,bg]) e) (
 Do (M .eql a0 (J 6)) λq=>
 Gd q true (
 Do (aB [P,P,P,O,P,P] [(2,1,bg),(3,1,(J 2))]) λr=>
 Do (Y c 6 b r) λf=>
 Do (Z f 6 true b) λs=>
 Q (.ar [s,bg]) f) (
 Do (M .eql a0 (J 7)) λt=>
 Gd t true (
 Do (aB [P,P,P,O,P,P] []) λu=>
 Do (Y c 6 b u) λg=>
 Do (Z g 6 true b) λv=>
 Q (.ar [v,bg]) g) (
 Do (M .eql a0 (J 8)) λw=>
 Gd w true (
 Do (aB [P,P,P,O,P,P] [(3,1,(J 1)),(4,1,bg),(5,1,bg)]) λx=>
 Do (Y c 6 b x) λh=>
 Do (Z h 6 true b) λy=>
 Q (.ar [y,bg]) h) (
 Do (M .eql a0 (J 9)) λz=>
 Gd z true (
 Do (aB [P,P,P,O,P,P] [(3,1,(J 1)),(4,1,bg)]) λA=>
 Do (Y c 6 b A) λi=>
 Do (Z i 6 true b) λB=>
 Q (.ar [B,bg]) i) (
 Do (M .eql a0 (J 10)) λC=>
 Gd C true (
 Do (aB [P,P,P,O,P,P] [(3,1,(J 1))]) λE=>
 Do (Y c 6 b E) λj=>
 Do (Z j 6 true b) λF=>
 Q (.ar [F,bg]) j) (
 G (G1 Φ b Q) [] c)))))))
def As(Φ:ae)(a0 b:I)(Q:ad):a:=λf c=>
 Gd (D f 0) true (
 Do (aB [P,P,P,O,P,P] [(0,1,bg),(3,1,(J 1))]) λg=>
 Do (Y c 6 b g) λd=>
 Do (Z d 6 true b) λh=>
 Q (.ar [h,bg]) d) (
 Do (M .eql a0 (J 3)) λe=>
 Gd e true (
 G (Ar Φ a0 b Q) [e] c) (
 Do (M .eql a0 (J 4)) λi=>
 G (Ar Φ a0 b Q) [i] c))
def f109(Φ:ae)(a0:I)(H:AH)(Q:ad):Prop:=
 au (some (aK H true [P,P,P,O,P,P])) λa H2=>
 Do (M .eql a0 (J 1)) λb=>
 Gd b true (
 G (As Φ a0 a Q) [b] H2) (
 Do (M .eql a0 (J 2)) λc=>
 G (As Φ a0 a Q) [c] H2)
noncomputable def G2:aF:=A C ⟨109,[2],[],none,[],[]⟩
def f110(Φ:ae)(a0:I)(H:AH)(Q:ad):Prop:=
 au (aL H false 2 a0) λa H2=>
 Do (aa 0 a) λb=>
 Do (Z H2 1 false b) λc=>
 Do (M .eql c (.str [])) λd=>
 aM d true (
 Do (aa 1 a) λe=>
 Do (Z H2 1 false e) λf=>
 Do (aU false f) λg=>
 Do (M .eql g O) λh=>
 Q h H2) (
 Q P H2) (
 False)
noncomputable def G3:aF:=A C ⟨110,[],[],none,[],[]⟩
def G4(Φ:ae)(b e:I)(Q:ad):a:=λh c=>
 Do (Z c 6 true e) λf=>
 Do (Y c 6 b f) λd=>
 Do (Z d 6 true b) λg=>
 Q (.ar [g,O]) d
def vk(Φ:ae)(b c k l:I)(Q:ad):BT:=λa m=>
 Do (M .lss (D a.1 0) l) λn=>
 Gd n true (
 Do (aG none 2 k (D a.1 0)) λo=>
 Do (Z a.2 2 true o) λp=>
 au (some (aK a.2 true [.str [],aw])) λf q=>
 Do (Y q 2 f p) λd=>
 Do (Z d 6 true c) λr=>
 Do (Z d 2 true f) λs=>
Φ 162 [r,s] d λg t=>
 Do (aY 0 g) λu=>
 Do (aY 1 g) λh=>
 au (some (aK t true [O,O,P,aw,O,aw])) λi v=>
 Do (Y v 6 i u) λe=>
 Do (M .neq h O) λw=>
 Gd w true (
 Do (aB [O,O,P,aw,O,aw] []) λx=>
 Do (Y e 6 b x) λj=>
 Do (Z j 6 true b) λy=>
 Q (.ar [y,h]) j) (
 Do (Z e 6 true i) λz=>
 Do (Y e 6 c z) λA=>
 Do (M .add (D a.1 0) (J 1)) λB=>
 m ([B],A))) (
 G (G4 Φ b c Q) [] a.2)
def f111(Φ:ae)(a0 W:I)(H:AH)(Q:ad):Prop:=
 au (aL H false 2 W) λe H2=>
 au (some (aK H2 true [O,O,P,aw,O,aw])) λa l=>
Φ 59 [a0,(.fn 161 [e])] l λf b=>
 Do (M .lss f O) λm=>
 Gd m true (
 Do (aB [O,O,P,aw,O,aw] []) λn=>
 Do (Y b 6 a n) λg=>
 Do (Z g 6 true a) λo=>
 Q (.ar [o,(J 6)]) g) (
 Do (aG none 7 a0 f) λp=>
 Do (aa 1 p) λq=>
 Do (Z b 6 true q) λr=>
 au (some (aK b true [O,O,P,aw,O,aw])) λc s=>
 Do (Y s 6 c r) λh=>
 Do (Z h 6 true c) λt=>
Φ 66 [t] h λi d=>
 Do (M .neq i O) λu=>
 Gd u true (
 Do (aB [O,O,P,aw,O,aw] []) λv=>
 Do (Y d 6 a v) λj=>
 Do (Z j 6 true a) λw=>
 Q (.ar [w,i]) j) (
 Do (aa 1 e) λx=>
 Do (Z d 1 false x) λk=>
 Do (aU false k) λy=>
 av (vk Φ a c k y Q) ([O],d)))
noncomputable def G5:aF:=A C ⟨111,[4,7,10,11],[[33]],none,[],[]⟩
def G6(Φ:ae)(c:I)(Q:ad):a:=λj b=>
 Do (aa 0 c) λd=>
 Do (Z b 1 false d) λe=>
 Do (M .eql e (J 2)) λf=>
 aM f true (
 Do (aa 1 c) λg=>
 Do (Z b 1 false g) λh=>
 Do (M .leq h (J 8)) λi=>
 Q i b) (
 Q P b) (
 False)
def Au(Φ:ae)(c:I)(Q:ad):a:=λd b=>
 Gd (D d 0) true (
 Do (aa 0 c) λe=>
 Do (Z b 1 false e) λf=>
 Do (M .eql f (J 2)) λg=>
 aM g true (
 Do (aa 1 c) λh=>
 Do (Z b 1 false h) λi=>
 Do (M .eql i (J 16)) λj=>
 Q j b) (
 Q P b) (
 False)) (
 G (G6 Φ c Q) [] b)
def Av(Φ:ae)(a0 c:I)(Q:ad):a:=λe b=>
 Gd (D e 0) true (
 Do (aa 0 c) λf=>
 Do (Z b 1 false f) λg=>
 Do (M .eql g (J 1)) λh=>
 Q h b) (
 Do (M .eql a0 (J 5)) λd=>
 Gd d true (
 G (Au Φ c Q) [d] b) (
 Do (M .eql a0 (J 6)) λi=>
 G (Au Φ c Q) [i] b))
def f112(Φ:ae)(a0 W:I)(H:AH)(Q:ad):Prop:=
 au (aL H false 6 W) λa H2=>
 Do (M .eql a0 (J 3)) λb=>
 Gd b true (
 G (Av Φ a0 a Q) [b] H2) (
 Do (M .eql a0 (J 14)) λc=>
 G (Av Φ a0 a Q) [c] H2)
noncomputable def G7:aF:=A C ⟨112,[],[],none,[],[]⟩
def vm(Φ:ae)(a0 c d:I)(Q:ad):a:=λh b=>
 Do (aa 7 d) λe=>
 Do (Z b 1 false e) λf=>
Φ 65 [a0,f,c] b λi g=>
 Q (.ar []) g
def vn(Φ:ae)(a0 d b:I)(Q:ad):a:=λn c=>
 Do (aa 0 b) λe=>
 Do (Z c 1 false e) λf=>
 Do (M .geq f (J 4)) λg=>
 Gd g true (
 Do (aa 0 b) λh=>
 Do (Z c 1 false h) λi=>
 Do (M .add (J 10) i) λj=>
 Do (aa 5 b) λk=>
 Do (Z c 2 true k) λl=>
Φ 64 [a0,j,l,d] c λo m=>
 G (vm Φ a0 d b Q) [] m) (
 G (vm Φ a0 d b Q) [] c)
def f113(Φ:ae)(a0 W c:I)(H:AH)(Q:ad):Prop:=
 au (aL H false 8 W) λa H2=>
 Do (M .leq c (J 64)) λf=>
Φ 60 [a0,f,(J 5)] H2 λA e=>
 Do (Z e 8 true a) λg=>
Φ 163 [g] e λh i=>
Φ 60 [a0,h,(J 4)] i λB d=>
 Do (aa 0 a) λj=>
 Do (Z d 1 false j) λk=>
 Do (M .add (J 10) k) λl=>
 Do (aa 4 a) λm=>
 Do (Z d 1 false m) λn=>
Φ 62 [l,n] d λo p=>
Φ 60 [a0,o,(J 11)] p λC q=>
Φ 13 [a0] q λr b=>
 Gd r true (
 Q (.ar []) b) (
 Do (aa 0 a) λs=>
 Do (Z b 1 false s) λt=>
 Do (M .eql t (J 2)) λu=>
 Gd u true (
 Do (aa 2 a) λv=>
 Do (Z b 1 false v) λw=>
Φ 63 [a0,w] b λx y=>
Φ 60 [a0,x,(J 6)] y λD z=>
 G (vn Φ a0 c a Q) [] z) (
 G (vn Φ a0 c a Q) [] b))
noncomputable def G8:aF:=A C ⟨113,[],[],none,[],[]⟩
def f114(Φ:ae)(a0:I)(H:AH)(Q:ad):Prop:=
 au (aL H false 6 a0) λa H2=>
 Do (Z H2 6 true a) λb=>
Φ 164 [b,(J 65)] H2 λc d=>
 Q c d
noncomputable def G9:aF:=A C ⟨114,[],[],none,[],[]⟩
def G_(Φ:ae)(c:I)(Q:ad):a:=λj b=>
 Do (aa 5 c) λd=>
 Do (Z b 1 false d) λe=>
 Do (aG none 6 e O) λf=>
 Do (Z b 6 true f) λg=>
Φ 115 [g] b λh i=>
 Q h i
def vo(Φ:ae)(c:I)(Q:ad):a:=λd b=>
 Gd (D d 0) true (
 Q (J 9) b) (
 G (G_ Φ c Q) [] b)
def f115(Φ:ae)(a0:I)(H:AH)(Q:ad):Prop:=
 au (aL H false 6 a0) λb H2=>
 Do (Z H2 6 true b) λf=>
Φ 165 [f] H2 λg a=>
 Do (cO .not g) λh=>
 Gd h true (
 Q (J 8) a) (
 Do (aa 0 b) λi=>
 Do (Z a 1 false i) λc=>
 Do (M .eql c (J 1)) λj=>
 Gd j true (
 Do (aa 1 b) λk=>
 Do (Z a 1 false k) λl=>
Φ 166 [l,(J 8)] a λm d=>
 Do (cO .not m) λn=>
 Gd n true (
 Q (J 9) d) (
 Q O d)) (
 Do (M .eql c (J 2)) λo=>
 Gd o true (
 Do (aa 1 b) λp=>
 Do (Z a 1 false p) λq=>
Φ 166 [q,(J 16)] a λr e=>
 Do (cO .not r) λs=>
 Gd s true (
 Q (J 9) e) (
 Q O e)) (
 Do (M .eql c (J 5)) λt=>
 Gd t true (
 Do (aa 4 b) λu=>
 Do (Z a 1 false u) λv=>
 Do (M .lss v (J 1)) λw=>
 aM w false (
 Do (aa 4 b) λx=>
 Do (Z a 1 false x) λy=>
 Do (M .gtr y (J 65536)) λz=>
 G (vo Φ b Q) [z] a) (
 G (vo Φ b Q) [bg] a) (
 False)) (
 Do (Z a 6 true b) λA=>
Φ 167 [A] a λB C=>
 Q B C))))
noncomputable def Ha:aF:=A C ⟨115,[],[],none,[],[]⟩
def vp(Φ:ae)(c:I)(Q:ad):a:=λd b=>
 aM (D d 0) false (
 Do (aa 3 c) λe=>
 Do (Z b 1 false e) λf=>
Φ 118 [f,(.fn 168 [])] b λg h=>
 Q g h) (
 Q bg b) (
 False)
def vq(Φ:ae)(b:I)(Q:ad):a:=λd c=>
 aM (D d 0) false (
 Do (aa 5 b) λe=>
 Do (Z c 1 false e) λf=>
Φ 117 [f,(.fn 116 [])] c λg h=>
 G (vp Φ b Q) [g] h) (
 G (vp Φ b Q) [bg] c) (
 False)
def f116(Φ:ae)(a0:I)(H:AH)(Q:ad):Prop:=
 au (aL H false 6 a0) λa H2=>
 Do (aa 0 a) λb=>
 Do (Z H2 1 false b) λc=>
 Do (M .eql c (J 2)) λd=>
 aM d true (
 Do (aa 1 a) λe=>
 Do (Z H2 1 false e) λf=>
 Do (M .gtr f (J 1)) λg=>
 G (vq Φ a Q) [g] H2) (
 G (vq Φ a Q) [P] H2) (
 False)
noncomputable def Hb:aF:=A C ⟨116,[],[],none,[],[]⟩
def f117(Φ:ae)(a0 W:I)(H:AH)(Q:ad):Prop:=
Φ 169 [a0,W] H λa H2=>
 Do (M .geq a O) λb=>
 Q b H2
noncomputable def Hc:aF:=A C ⟨117,[],[],none,[],[]⟩
def f118(Φ:ae)(a0 W:I)(H:AH)(Q:ad):Prop:=
Φ 170 [a0,W] H λa H2=>
 Do (M .geq a O) λb=>
 Q b H2
noncomputable def Hd:aF:=A C ⟨118,[],[],none,[],[]⟩
def f119(Φ:ae)(a0:I)(H:AH)(Q:ad):Prop:=
 au (aL H false 9 a0) λa H2=>
 Do (aa 1 a) λb=>
 Do (Z H2 6 true b) λc=>
Φ 67 [c] H2 λd e=>
 Q d e
noncomputable def He:aF:=A C ⟨119,[],[],none,[],[]⟩
def Hf(Φ:ae)(b:ST)(c:LT)(Q:ad):a:=λf d=>
 Do (M .add (D b.1 0) (J 1)) λe=>
 c ([e],d)
def vr(Φ:ae)(b:I)(g:ST)(h:LT)(Q:ad):a:=λr c=>
 Do (aa 0 b) λi=>
 Do (aa 0 i) λd=>
 Do (Z c 1 false d) λe=>
 Do (aa 3 b) λj=>
 Do (Z c 1 false j) λk=>
Φ 173 [k,(J 8)] c λl f=>
(Z f 1 false d=some e) ∧
(Do (M .quo l (J 8)) λm=>
 Do (eP true [e,m]) λn=>
 Do (aa 0 b) λo=>
 Do (aa 0 o) λp=>
 Do (Y f 1 p n) λq=>
 G (Hf Φ g h Q) [] q)
def vt(Φ:ae)(b e f k:I)(g:ST)(h:LT)(Q:ad):a:=λV c=>
 Do (aa 7 e) λl=>
 Do (Z c 1 false l) λm=>
 Gd m true (
 Do (Z c 9 true e) λn=>
Φ 172 [b,n] c λW o=>
 G (vr Φ b g h Q) [] o) (
 Do (aa 3 b) λp=>
 Do (Z c 1 false p) λq=>
Φ 173 [q,(J 8)] c λr s=>
 Do (M .quo r (J 8)) λt=>
Φ 173 [t,k] s λi d=>
 Do (aa 2 b) λu=>
 Do (Z d 1 false u) λv=>
 Do (aa 0 f) λw=>
 Do (Z d 1 false w) λx=>
 Do (aB [O,O] [(0,1,i),(1,1,x)]) λy=>
 Do (aa 1 e) λz=>
 Do (aa 0 z) λA=>
 Do (Z d 1 false A) λB=>
 Do (aB [O,O,O,P,O,O] [(0,2,y),(2,1,B)]) λC=>
 au (b8 d false 6 1 [O,O,O,P,O,O] [(0,6,C)]) λD E=>
 au (bH E false 6 48 v D) λF H=>
 Do (aa 2 b) λK=>
 Do (Y H 1 K F) λj=>
 Do (aa 0 f) λL=>
 Do (Z j 1 false L) λN=>
 Do (M .add i N) λR=>
 Do (M .mul (J 8) R) λS=>
 Do (aa 3 b) λT=>
 Do (Y j 1 T S) λU=>
 G (vr Φ b g h Q) [] U)
def Hg(Φ:ae)(f b:I)(Q:ad):a:=λw c=>
 Do (aa 0 b) λi=>
 Do (aa 0 i) λj=>
 Do (Z c 1 false j) λk=>
 Do (aa 0 b) λl=>
 Do (aa 1 l) λm=>
 Do (Z c 1 false m) λn=>
Φ 173 [k,n] c λo p=>
 Do (aa 0 b) λq=>
 Do (aa 0 q) λr=>
 Do (Y p 1 r o) λd=>
 Do (Z d 4 true b) λs=>
 Do (aa 0 b) λt=>
 Do (aa 0 t) λg=>
 Do (Z d 1 false g) λh=>
 Do (M .leq h (J 65536)) λu=>
 Do (Y d 4 f s) λe=>
(Z e 1 false g=some h) ∧
(Do (Z e 4 true f) λv=>
 Q (.ar [v,u]) e)
def nJ(Φ:ae)(i f b o p:I)(Q:ad):BT:=λa j=>
 Do (M .lss (D a.1 0) p) λq=>
 Gd q true (
 Do (aG none 9 o (D a.1 0)) λr=>
 Do (Z a.2 9 true r) λs=>
 au (some (aK a.2 true [.str [],O,O,P,aw,O,aw,P,O])) λc t=>
 Do (Y t 9 c s) λk=>
 Do (aa 1 c) λu=>
 Do (Z k 6 true u) λv=>
Φ 68 [v] k λl w=>
 Do (aY 0 l) λx=>
 Do (aY 1 l) λy=>
 au (some (aK w true [O,O])) λe z=>
 Do (Y z 2 e x) λd=>
 Do (cO .not y) λA=>
 Gd A true (
 Do (aB [O,O,aw,O] []) λB=>
 Do (Y d 4 f B) λm=>
 Do (Z m 4 true f) λC=>
 Q (.ar [C,P]) m) (
 Do (Z d 6 true i) λE=>
 Do (Z d 9 true c) λF=>
 Do (aa 1 e) λH=>
 Do (Z d 1 false H) λK=>
Φ 171 [E,F,K] d λg n=>
 Do (aa 0 b) λL=>
 Do (aa 1 L) λN=>
 Do (Z n 1 false N) λR=>
 Do (eP true [R,g]) λS=>
 Do (aa 0 b) λT=>
 Do (aa 1 T) λU=>
 Do (Y n 1 U S) λh=>
 Do (aa 0 i) λV=>
 Do (Z h 1 false V) λW=>
 Do (M .eql W (J 4)) λX=>
 Gd X true (
 Do (aa 3 b) λab=>
 Do (Y h 1 ab O) λac=>
 G (vt Φ b c e g a j Q) [] ac) (
 G (vt Φ b c e g a j Q) [] h))) (
 G (Hg Φ f b Q) [] a.2)
def f120(Φ:ae)(a0:I)(H:AH)(Q:ad):Prop:=
 au (aL H false 6 a0) λa H2=>
 au (some (aK H2 true [O,O,aw,O])) λe f=>
 Do (aB [O,O] [(0,1,O),(1,1,(J 1))]) λg=>
 Do (aB [O,O,aw,O] [(0,2,g)]) λh=>
 au (some (aK f true [O,O,aw,O])) λb i=>
 Do (Y i 4 b h) λc=>
 Do (aa 3 a) λj=>
 Do (Z c 1 false j) λd=>
 Do (aU false d) λk=>
 av (nJ Φ a e b d k Q) ([O],c)
noncomputable def Hh:aF:=A C ⟨120,[2,4,6,7],[[16]],none,[],[]⟩
def f121(Φ:ae)(a0 W:I)(H:AH)(Q:ad):Prop:=
 au (aL H false 8 W) λa H2=>
 Do (aa 0 a) λg=>
 Do (Z H2 1 false g) λb=>
 Do (M .eql b (J 1)) λh=>
 Gd h true (
 Do (aa 1 a) λi=>
 Do (Z H2 1 false i) λj=>
Φ 174 [a0,j] H2 λk l=>
 Q k l) (
 Do (M .eql b (J 2)) λm=>
 Gd m true (
 Do (aa 2 a) λn=>
 Do (Z H2 1 false n) λo=>
Φ 124 [a0,o] H2 λp q=>
 Q p q) (
 Do (M .eql b (J 3)) λr=>
 Gd r true (
 Do (aa 7 a) λs=>
 Do (Z H2 1 false s) λt=>
 Do (aG none 8 t O) λu=>
 Do (Z H2 8 true u) λv=>
Φ 121 [a0,v] H2 λw c=>
 Do (aa 3 a) λd=>
 Do (Z c 1 false d) λe=>
 Do (aa 7 a) λx=>
 Do (Z c 1 false x) λy=>
 Do (aG none 8 y (J 1)) λz=>
 Do (Z c 8 true z) λA=>
Φ 121 [a0,A] c λB f=>
(Z f 1 false d=some e) ∧
(Φ 175 [a0,e,w,B] f λC D=>
 Q C D)) (
 Do (M .eql b (J 4)) λE=>
 Gd E true (
 Do (aa 5 a) λF=>
 Do (Z H2 2 true F) λG=>
Φ 176 [a0,G] H2 λK L=>
 Q K L) (
 Do (Z H2 8 true a) λN=>
Φ 177 [a0,N] H2 λP R=>
 Q P R))))
noncomputable def Hi:aF:=A C ⟨121,[],[],none,[],[]⟩
def f122(Φ:ae)(a0:I)(H:AH)(Q:ad):Prop:=
 Do (aD a0) λb=>
 Do (aa 3 b) λc=>
 Do (Z H 1 false c) λd=>
 Do (M .add d (J 1)) λe=>
 Do (aD a0) λf=>
 Do (aa 3 f) λg=>
 Do (Y H 1 g e) λa=>
 Do (aD a0) λh=>
 Do (aa 3 h) λi=>
 Do (Z a 1 false i) λj=>
 Do (M .sub j (J 1)) λk=>
 Q k a
noncomputable def Hj:aF:=A C ⟨122,[],[],none,[],[]⟩
def f123(Φ:ae)(a0 W c:I)(H:AH)(Q:ad):Prop:=
Φ 128 [(J 2)] H λd H2=>
 au (some (aK H2 true [O,O,O,O,O,O,bP 0,O,O,O,O,O,O])) λa e=>
 Do (Y e 13 a d) λf=>
 Do (aa 1 a) λg=>
 Do (Y f 1 g W) λh=>
 Do (aa 3 a) λi=>
 Do (Y h 1 i c) λb=>
 Do (Z b 13 true a) λj=>
Φ 130 [a0,j] b λl k=>
 Q (.ar []) k
noncomputable def Hk:aF:=A C ⟨123,[6],[],none,[],[]⟩
def f124(Φ:ae)(a0 W:I)(H:AH)(Q:ad):Prop:=
 au (aL H false 1 W) λb H2=>
 Do (aD a0) λc=>
 Do (aa 7 c) λd=>
 Do (Z H2 1 false d) λe=>
Φ 178 [e,(.fn 179 [b])] H2 λf a=>
 Do (aD a0) λg=>
 Do (aa 7 g) λh=>
 Do (Z a 1 false h) λi=>
 Do (aG none 2 i f) λj=>
 Do (aa 1 j) λk=>
 Do (Z a 1 false k) λl=>
 Q l a
noncomputable def Hl:aF:=A C ⟨124,[],[],none,[],[]⟩
def vu(Φ:ae)(a0 c d e:I)(Q:ad):a:=λf b=>
 Do (Z b 8 true c) λg=>
Φ 185 [a0,g,d,(D f 0),e] b λi h=>
 Q (.ar []) h
def f125(Φ:ae)(a0 W t:I)(H:AH)(Q:ad):Prop:=
 au (aL H false 2 W) λi H2=>
 au (aL H2 false 8 t) λu j=>
 Do (Z j 2 true i) λv=>
Φ 180 [a0,v] j λw x=>
 au (some (aK x true [O,O,O,P,O,O,O,O])) λa y=>
 Do (Y y 8 a w) λk=>
 Do (Z k 8 true u) λz=>
Φ 121 [a0,z] k λl m=>
 Do (Z m 8 true a) λA=>
Φ 181 [a0,A] m λc n=>
 Do (Z n 2 true i) λB=>
Φ 129 [a0,(J 3),O,B] n λd b=>
 Do (aa 0 a) λC=>
 Do (aa 3 C) λD=>
 Do (Z b 1 false D) λE=>
 Gd E true (
 Do (Z b 8 true a) λF=>
Φ 182 [a0,F,c,d] b λK e=>
 Do (aa 0 a) λL=>
 Do (aa 5 L) λN=>
 Do (Z e 1 false N) λR=>
 Do (aa 0 a) λS=>
 Do (aa 4 S) λo=>
 Do (Z e 1 false o) λp=>
Φ 184 [R] e λT q=>
(Z q 1 false o=some p) ∧
(Do (M .shl T p) λU=>
 Do (cO .xor U) λV=>
Φ 183 [a0,(J 4),K,V] q λX f=>
 Do (aa 0 a) λab=>
 Do (aa 5 ab) λac=>
 Do (Z f 1 false ac) λaf=>
 Do (aa 0 a) λag=>
 Do (aa 4 ag) λg=>
 Do (Z f 1 false g) λh=>
 Do (dK .u64 h) λah=>
Φ 184 [af] f λai r=>
(Z r 1 false g=some h) ∧
(Φ 183 [a0,(J 4),l,ai] r λaj s=>
(Z s 1 false g=some h) ∧
(Φ 183 [a0,(J 7),aj,ah] s λak al=>
Φ 175 [a0,(J 5),X,ak] al λam an=>
 G (vu Φ a0 a c d Q) [am] an)))) (
 G (vu Φ a0 a c d Q) [l] b)
noncomputable def Hm:aF:=A C ⟨125,[6],[],none,[],[]⟩
def vv(Φ:ae)(a0 d h c:I)(Q:ad):a:=λG i=>
 Do (Z i 8 true h) λn=>
Φ 181 [a0,n] i λo p=>
 Do (aa 3 c) λq=>
 Do (Y p 1 q o) λb=>
 Do (aa 0 h) λr=>
 Do (aa 0 r) λs=>
 Do (aa 1 s) λj=>
 Do (Z b 1 false j) λk=>
 Do (aa 4 d) λe=>
 Do (Z b 1 false e) λf=>
 Do (aa 0 d) λt=>
 Do (Z b 1 false t) λu=>
 Do (aa 4 d) λv=>
 Do (Z b 1 false v) λw=>
 Do (aa 5 d) λx=>
 Do (Z b 2 true x) λy=>
 Do (aa 8 c) λz=>
Φ 129 [a0,u,w,y] b λA g=>
(Z g 1 false j=some k) ∧
(Z g 1 false e=some f) ∧
(Do (Y g 1 z k) λl=>
(Z l 1 false e=some f) ∧
(Do (aa 9 c) λB=>
 Do (Y l 1 B f) λC=>
 Do (aa 11 c) λD=>
 Do (Y C 1 D A) λm=>
 Do (Z m 13 true c) λE=>
Φ 130 [a0,E] m λH F=>
 Q (.ar []) F))
def f126(Φ:ae)(a0 W:I)(H:AH)(Q:ad):Prop:=
 au (aL H false 10 W) λa H2=>
 Do (aa 5 a) λg=>
 Do (Z H2 2 true g) λh=>
Φ 180 [a0,h] H2 λi j=>
 au (some (aK j true [O,O,O,P,O,O,O,O])) λc k=>
 Do (Y k 8 c i) λl=>
Φ 128 [(J 7)] l λm n=>
 au (some (aK n true [O,O,O,O,O,O,bP 0,O,O,O,O,O,O])) λb o=>
 Do (Y o 13 b m) λd=>
 Do (aa 7 a) λp=>
 Do (Z d 1 false p) λq=>
 Do (aG none 8 q O) λr=>
 Do (Z d 8 true r) λs=>
Φ 121 [a0,s] d λt u=>
 Do (aa 4 b) λv=>
 Do (Y u 1 v t) λe=>
 Do (aa 0 a) λw=>
 Do (Z e 1 false w) λx=>
 Do (M .eql x (J 6)) λy=>
 Gd y true (
 Do (aa 0 b) λz=>
 Do (Y e 1 z (J 12)) λf=>
 Do (aa 7 a) λA=>
 Do (Z f 1 false A) λB=>
 Do (aG none 8 B (J 1)) λC=>
 Do (Z f 8 true C) λD=>
Φ 121 [a0,D] f λE F=>
 Do (aa 5 b) λK=>
 Do (Y F 1 K E) λL=>
 G (vv Φ a0 a c b Q) [] L) (
 G (vv Φ a0 a c b Q) [] e)
noncomputable def Hn:aF:=A C ⟨126,[4,5],[],none,[],[]⟩
def f127(Φ:ae)(a0 W:I)(H:AH)(Q:ad):Prop:=
 au (aL H false 10 W) λb H2=>
 Do (aa 5 b) λE=>
 Do (Z H2 2 true E) λF=>
Φ 180 [a0,F] H2 λG K=>
 au (some (aK K true [O,O,O,P,O,O,O,O])) λj L=>
 Do (Y L 8 j G) λM=>
Φ 128 [(J 11)] M λN R=>
 au (some (aK R true [O,O,O,O,O,O,bP 0,O,O,O,O,O,O])) λa S=>
 Do (Y S 13 a N) λv=>
 Do (Z v 8 true j) λT=>
Φ 181 [a0,T] v λU V=>
 Do (aa 3 a) λX=>
 Do (Y V 1 X U) λe=>
 Do (aa 0 j) λab=>
 Do (aa 0 ab) λac=>
 Do (aa 1 ac) λf=>
 Do (Z e 1 false f) λg=>
 Do (aa 4 b) λc=>
 Do (Z e 1 false c) λd=>
 Do (aa 0 b) λk=>
 Do (Z e 1 false k) λl=>
 Do (aa 4 b) λm=>
 Do (Z e 1 false m) λn=>
 Do (aa 5 b) λo=>
 Do (Z e 2 true o) λp=>
Φ 122 [a0] e λaf h=>
(Z h 1 false f=some g) ∧
(Z h 1 false c=some d) ∧
(Z h 1 false k=some l) ∧
(Z h 1 false m=some n) ∧
(Z h 2 true o=some p) ∧
(Do (aa 1 a) λag=>
Φ 122 [a0] h λah i=>
(Z i 1 false f=some g) ∧
(Z i 1 false c=some d) ∧
(Z i 1 false k=some l) ∧
(Z i 1 false m=some n) ∧
(Z i 2 true o=some p) ∧
(Φ 129 [a0,l,n,p] i λai q=>
(Z q 1 false f=some g) ∧
(Z q 1 false c=some d) ∧
(Do (Y q 1 ag af) λr=>
(Z r 1 false f=some g) ∧
(Z r 1 false c=some d) ∧
(Do (aa 2 a) λaj=>
 Do (Y r 1 aj ah) λs=>
(Z s 1 false f=some g) ∧
(Z s 1 false c=some d) ∧
(Do (aa 8 a) λak=>
 Do (Y s 1 ak g) λw=>
(Z w 1 false c=some d) ∧
(Do (aa 9 a) λal=>
 Do (Y w 1 al d) λam=>
 Do (aa 11 a) λan=>
 Do (Y am 1 an ai) λx=>
 Do (Z x 13 true a) λao=>
Φ 130 [a0,ao] x λaA t=>
 Do (aa 2 b) λap=>
 Do (Z t 1 false ap) λaq=>
 Do (aa 1 a) λy=>
 Do (Z t 1 false y) λz=>
Φ 124 [a0,aq] t λav A=>
(Z A 1 false y=some z) ∧
(Φ 123 [a0,av,z] A λaB u=>
 Do (aa 3 b) λaw=>
 Do (Z u 1 false aw) λax=>
 Do (aa 2 a) λB=>
 Do (Z u 1 false B) λC=>
Φ 124 [a0,ax] u λay D=>
(Z D 1 false B=some C) ∧
(Φ 123 [a0,ay,C] D λaC az=>
 Q (.ar []) az))))))))
noncomputable def Ho:aF:=A C ⟨127,[4,5],[],none,[],[]⟩
def f128(Φ:ae)(a0:I)(H:AH)(Q:ad):Prop:=
 au (some (aK H true [O,O,O,O,O,O,bP 0,O,O,O,O,O,O])) λa H2=>
 Do (aB [O,O,O,O,O,O,bP 0,O,O,O,O,O,O] [(0,1,a0),(1,1,(J (-1))),(2,1,(J (-1))),(3,1,(J (-1))),(4,1,(J (-1))),(5,1,(J (-1)))]) λc=>
 Do (Y H2 13 a c) λb=>
 Do (Z b 13 true a) λd=>
 Q d b
noncomputable def Hp:aF:=A C ⟨128,[2],[],none,[],[]⟩
def f129(Φ:ae)(a0 W b c:I)(H:AH)(Q:ad):Prop:=
 au (aL H false 2 c) λd H2=>
 Do (aD a0) λe=>
 Do (aa 5 e) λf=>
 Do (Z H2 1 false f) λg=>
 Do (aD a0) λh=>
 Do (aa 6 h) λi=>
 Do (Z H2 1 false i) λj=>
 Do (Z H2 2 true d) λk=>
 Do (aB [O,O,O,.str [],aw] [(0,1,W),(1,1,b),(2,1,j),(3,2,k)]) λl=>
 au (b8 H2 false 5 1 [O,O,O,.str [],aw] [(0,5,l)]) λm n=>
 au (bH n false 5 64 g m) λo p=>
 Do (aD a0) λq=>
 Do (aa 5 q) λr=>
 Do (Y p 1 r o) λa=>
 Do (aD a0) λs=>
 Do (aa 5 s) λt=>
 Do (Z a 1 false t) λu=>
 Do (aU false u) λv=>
 Q v a
noncomputable def Hq:aF:=A C ⟨129,[],[],none,[],[]⟩
def f130(Φ:ae)(a0 W:I)(H:AH)(Q:ad):Prop:=
 au (aL H true 13 W) λb H2=>
 Do (aD a0) λc=>
 Do (aa 6 c) λd=>
 Do (Z H2 1 false d) λe=>
 Do (aa 12 b) λf=>
 Do (Y H2 1 f e) λa=>
 Do (aD a0) λg=>
 Do (aa 2 g) λh=>
 Do (Z a 1 false h) λi=>
 Do (Z a 13 true b) λj=>
 au (b8 a false 13 1 [O,O,O,O,O,O,bP 0,O,O,O,O,O,O] [(0,13,j)]) λk l=>
 au (bH l false 13 104 i k) λm n=>
 Do (aD a0) λo=>
 Do (aa 2 o) λp=>
 Do (Y n 1 p m) λq=>
 Q (.ar []) q
noncomputable def Hr:aF:=A C ⟨130,[3],[],none,[],[]⟩
def f131(Φ:ae)(a0 W:I)(H:AH)(Q:ad):Prop:=
 au (aL H false 10 W) λa H2=>
Φ 186 [a0] H2 λc i=>
Φ 186 [a0] i λd b=>
 Do (aa 7 a) λj=>
 Do (Z b 1 false j) λk=>
 Do (aG none 8 k O) λl=>
 Do (Z b 8 true l) λm=>
Φ 121 [a0,m] b λn o=>
Φ 187 [a0,c,n] o λF e=>
 Do (aa 8 a) λp=>
 Do (Z e 1 false p) λq=>
Φ 27 [a0,q] e λG f=>
 Do (aa 1 a) λr=>
 Do (Z f 1 false r) λs=>
 Do (aD a0) λt=>
 Do (aa 6 t) λu=>
 Do (Y f 1 u s) λv=>
Φ 187 [a0,d,(J (-1))] v λK w=>
Φ 188 [a0,c] w λL g=>
 Do (aa 9 a) λx=>
 Do (Z g 1 false x) λy=>
Φ 27 [a0,y] g λM h=>
 Do (aa 1 a) λz=>
 Do (Z h 1 false z) λA=>
 Do (aD a0) λB=>
 Do (aa 6 B) λC=>
 Do (Y h 1 C A) λD=>
Φ 188 [a0,d] D λN E=>
 Q (.ar []) E
noncomputable def Hs:aF:=A C ⟨131,[],[],none,[],[]⟩
def f132(Φ:ae)(a0 W:I)(H:AH)(Q:ad):Prop:=
 au (aL H false 10 W) λa H2=>
Φ 186 [a0] H2 λc g=>
Φ 186 [a0] g λd h=>
Φ 188 [a0,c] h λx b=>
 Do (aa 7 a) λi=>
 Do (Z b 1 false i) λj=>
 Do (aG none 8 j O) λk=>
 Do (Z b 8 true k) λl=>
Φ 121 [a0,l] b λm n=>
Φ 187 [a0,d,m] n λy e=>
 Do (aa 8 a) λo=>
 Do (Z e 1 false o) λp=>
Φ 27 [a0,p] e λz f=>
 Do (aa 1 a) λq=>
 Do (Z f 1 false q) λr=>
 Do (aD a0) λs=>
 Do (aa 6 s) λt=>
 Do (Y f 1 t r) λu=>
Φ 187 [a0,c,(J (-1))] u λA v=>
Φ 188 [a0,d] v λB w=>
 Q (.ar []) w
noncomputable def Ht:aF:=A C ⟨132,[],[],none,[],[]⟩
def Hu(Φ:ae)(a0:I)(b:ST)(d:LT)(Q:ad):a:=λp c=>
 Do (M .sub (D b.1 0) (J 1)) λe=>
 Do (M .sub (D b.1 0) (J 1)) λf=>
 Do (aG none 3 a0 f) λg=>
 Do (Z c 3 true g) λh=>
 Do (aG none 3 a0 (D b.1 0)) λi=>
 Do (Z c 3 true i) λj=>
 Do (aG none 3 a0 (D b.1 0)) λk=>
 Do (Y c 3 k h) λl=>
 Do (aG none 3 a0 e) λm=>
 Do (Y l 3 m j) λn=>
 Do (M .sub (D b.1 0) (J 1)) λo=>
 d ([o],n)
def Aw(Φ:ae)(b:ST)(c:LT)(Q:ad):a:=λf d=>
 Do (M .add (D b.1 0) (J 1)) λe=>
 c ([e],d)
def pF(Φ:ae)(a0:I)(c:ST)(d:LT)(e:ST)(f:LT)(Q:ad):a:=λg b=>
 Gd (D g 0) true (
 G (Hu Φ a0 e f Q) [] b) (
 G (Aw Φ c d Q) [] b)
def q7(Φ:ae)(a0 W g:I)(c:ST)(d:LT)(Q:ad):BT:=λa e=>
 Do (M .gtr (D a.1 0) W) λh=>
 aM h true (
 Do (aG none 3 a0 (D a.1 0)) λi=>
 Do (Z a.2 3 true i) λj=>
 Do (M .sub (D a.1 0) (J 1)) λk=>
 Do (aG none 3 a0 k) λl=>
 Do (Z a.2 3 true l) λm=>
∃b f,g = .fn b f∧Φ (fJ b) (fK b [j,m] f) a.2 λn o=>
 Do (M .lss n O) λp=>
 G (pF Φ a0 c d a e Q) [p] o) (
 G (pF Φ a0 c d a e Q) [P] a.2) (
 False)
def mB(Φ:ae)(a0 W a b:I)(Q:ad):BT:=λs2 c=>
 Do (M .lss (D s2.1 0) a) λd=>
 Gd d true (
 av (q7 Φ a0 W b s2 c Q) ([(D s2.1 0)],s2.2)) (
 Q (.ar []) s2.2)
def f133(Φ:ae)(a0 W a b:I)(H:AH)(Q:ad):Prop:=
 Do (M .add W (J 1)) λc=>
 av (mB Φ a0 W a b Q) ([c],H)
noncomputable def Hv:aF:=A C ⟨133,[],[[8],[9]],none,[],[]⟩
def vw(Φ:ae)(a0:I)(b:List I)(Q:ad):BT:=λa c=>
 Do (M .sub (D b 0) (J 1)) λd=>
 Do (M .lss (D a.1 0) d) λe=>
 Gd e true (
 Do (M .add (D a.1 0) (J 1)) λf=>
 Do (M .add (D a.1 0) (J 1)) λg=>
 Do (aG none 3 a0 g) λh=>
 Do (Z a.2 3 true h) λi=>
 Do (aG none 3 a0 (D a.1 0)) λj=>
 Do (Z a.2 3 true j) λk=>
 Do (aG none 3 a0 (D a.1 0)) λl=>
 Do (Y a.2 3 l i) λm=>
 Do (aG none 3 a0 f) λn=>
 Do (Y m 3 n k) λo=>
 Do (M .add (D a.1 0) (J 1)) λp=>
 c ([p],o)) (
 Q (.ar []) a.2)
def Ax(Φ:ae)(a0 W:I)(Q:ad):a:=λb c=>
 av (vw Φ a0 b Q) ([W],c)
def vx(Φ:ae)(a0 W g:I)(Q:ad):BT:=λa d=>
 Do (M .lss (D a.1 0) (D a.1 1)) λh=>
 Gd h true (
 Do (M .add (D a.1 0) (D a.1 1)) λi=>
 Do (dK .u64 i) λj=>
 Do (M .shr j (bP 1)) λk=>
 Do (dK .i64 k) λb=>
 Do (aG none 3 a0 b) λl=>
 Do (Z a.2 3 true l) λm=>
 Do (aG none 3 a0 W) λn=>
 Do (Z a.2 3 true n) λo=>
∃c e,g = .fn c e∧Φ (fJ c) (fK c [m,o] e) a.2 λp f=>
 Do (M .lss p O) λq=>
 Gd q true (
 Do (M .add b (J 1)) λr=>
 d ([r,(D a.1 1)],f)) (
 d ([(D a.1 0),b],f))) (
 G (Ax Φ a0 W Q) [(D a.1 0)] a.2)
def vy(Φ:ae)(a0:I)(b:List I)(Q:ad):BT:=λa c=>
 Do (M .gtr (D a.1 0) (D b 0)) λd=>
 Gd d true (
 Do (M .sub (D a.1 0) (J 1)) λe=>
 Do (M .sub (D a.1 0) (J 1)) λf=>
 Do (aG none 3 a0 f) λg=>
 Do (Z a.2 3 true g) λh=>
 Do (aG none 3 a0 (D a.1 0)) λi=>
 Do (Z a.2 3 true i) λj=>
 Do (aG none 3 a0 (D a.1 0)) λk=>
 Do (Y a.2 3 k h) λl=>
 Do (aG none 3 a0 e) λm=>
 Do (Y l 3 m j) λn=>
 Do (M .sub (D a.1 0) (J 1)) λo=>
 c ([o],n)) (
 Q (.ar []) a.2)
def Ay(Φ:ae)(a0 b:I)(Q:ad):a:=λc d=>
 av (vy Φ a0 c Q) ([b],d)
def vz(Φ:ae)(a0 d h:I)(Q:ad):BT:=λa e=>
 Do (M .lss (D a.1 0) (D a.1 1)) λi=>
 Gd i true (
 Do (M .add (D a.1 0) (D a.1 1)) λj=>
 Do (dK .u64 j) λk=>
 Do (M .shr k (bP 1)) λl=>
 Do (dK .i64 l) λb=>
 Do (aG none 3 a0 d) λm=>
 Do (Z a.2 3 true m) λn=>
 Do (aG none 3 a0 b) λo=>
 Do (Z a.2 3 true o) λp=>
∃c f,h = .fn c f∧Φ (fJ c) (fK c [n,p] f) a.2 λq g=>
 Do (M .lss q O) λr=>
 Do (cO .not r) λs=>
 Gd s true (
 Do (M .add b (J 1)) λt=>
 e ([t,(D a.1 1)],g)) (
 e ([(D a.1 0),b],g))) (
 G (Ay Φ a0 d Q) [(D a.1 0)] a.2)
def vA(Φ:ae)(a0 c d e f:I)(Q:ad):a:=λg b=>
 Gd (D g 0) true (
Φ 134 [a0,e,f,c,d] b λi h=>
 Q (.ar []) h) (
 Q (.ar []) b)
def vC(Φ:ae)(a0 c e d b:I)(Q:ad):a:=λi f=>
 Do (M .lss d b) λg=>
 aM g true (
 Do (M .lss b c) λh=>
 G (vA Φ a0 c e d b Q) [h] f) (
 G (vA Φ a0 c e d b Q) [P] f) (
 False)
def vD(Φ:ae)(a0 W d b c e:I)(g:List I)(Q:ad):a:=λh f=>
 Gd (D h 0) true (
Φ 134 [a0,W,(D g 0),c,b] f λj i=>
 G (vC Φ a0 d b c e Q) [] i) (
 G (vC Φ a0 d b c e Q) [] f)
def vF(Φ:ae)(a0 W d e c f:I)(b:List I)(Q:ad):a:=λj g=>
 Do (M .lss W (D b 0)) λh=>
 aM h true (
 Do (M .lss (D b 0) c) λi=>
 G (vD Φ a0 W d e c f b Q) [i] g) (
 G (vD Φ a0 W d e c f b Q) [P] g) (
 False)
def vG(Φ:ae)(a0 W h e b f c:I)(d:List I)(Q:ad):a:=λi g=>
 Gd (D i 0) true (
Φ 189 [a0,(D d 0),h,c,b] g λk j=>
 G (vF Φ a0 W e b f c d Q) [] j) (
 G (vF Φ a0 W e b f c d Q) [] g)
def Az(Φ:ae)(a0 W b e f g i:I)(Q:ad):a:=λc h=>
 Do (M .sub i (D c 0)) λd=>
 Do (M .lss (D c 0) b) λj=>
 aM j true (
 Do (M .lss b d) λk=>
 G (vG Φ a0 W b e f g d c Q) [k] h) (
 G (vG Φ a0 W b e f g d c Q) [P] h) (
 False)
def vH(Φ:ae)(a0 W h i d j k l:I)(Q:ad):BT:=λa e=>
 Do (M .lss (D a.1 0) (D a.1 1)) λm=>
 Gd m true (
 Do (M .add (D a.1 0) (D a.1 1)) λn=>
 Do (dK .u64 n) λo=>
 Do (M .shr o (bP 1)) λp=>
 Do (dK .i64 p) λb=>
 Do (M .sub l b) λq=>
 Do (aG none 3 a0 q) λr=>
 Do (Z a.2 3 true r) λs=>
 Do (aG none 3 a0 b) λt=>
 Do (Z a.2 3 true t) λu=>
∃c f,d = .fn c f∧Φ (fJ c) (fK c [s,u] f) a.2 λv g=>
 Do (M .lss v O) λw=>
 Do (cO .not w) λx=>
 Gd x true (
 Do (M .add b (J 1)) λy=>
 e ([y,(D a.1 1)],g)) (
 e ([(D a.1 0),b],g))) (
 G (Az Φ a0 W h i d j k Q) [(D a.1 0)] a.2)
def vI(Φ:ae)(a0 W d e f g b:I)(Q:ad):a:=λc h=>
 Do (M .sub b (J 1)) λi=>
 av (vH Φ a0 W d e f g b i Q) ([(D c 0),(D c 1)],h)
def f134(Φ:ae)(a0 W a b d:I)(H:AH)(Q:ad):Prop:=
 Do (M .sub a W) λf=>
 Do (M .eql f (J 1)) λg=>
 Gd g true (
 av (vx Φ a0 W d Q) ([a,b],H)) (
 Do (M .sub b a) λh=>
 Do (M .eql h (J 1)) λi=>
 Gd i true (
 av (vz Φ a0 a d Q) ([W,a],H)) (
 Do (M .add W b) λj=>
 Do (dK .u64 j) λk=>
 Do (M .shr k (bP 1)) λl=>
 Do (dK .i64 l) λc=>
 Do (M .add c a) λe=>
 Do (M .gtr a c) λm=>
 Gd m true (
 Do (M .sub e b) λn=>
 G (vI Φ a0 W a b d c e Q) [n,c] H) (
 G (vI Φ a0 W a b d c e Q) [W,a] H)))
noncomputable def Hw:aF:=A C ⟨134,[],[[10,11],[13],[14,15],[17],[20,21]],none,[],[]⟩
def vJ(Φ:ae)(W:I)(Q:ad):a:=λb H2=>
 Do (M .gtr (D b 0) W) λc=>
 Q c H2
def vK(Φ:ae)(a0 W:I)(b:ST)(l:LT)(Q:ad):a:=λc g=>
∃t28 h d i,a0 = .iface t28 h∧fI ud t28=some d∧h4 g d.2 h=some i∧Φ d.1 (i::[(D c 0),(D b.1 0)]) g λm e=>
 Do (cO .not m) λn=>
 Gd n true (
 G (vJ Φ W Q) [(D b.1 0)] e) (
∃t35 j f k,a0 = .iface t35 j∧fI ue t35=some f∧h4 e f.2 j=some k∧Φ f.1 (k::[(D b.1 0),(D c 0)]) e λp o=>
 l ([(D c 0)],o))
def vL(Φ:ae)(a0 W e f:I)(b:ST)(c:LT)(Q:ad):a:=λg d=>
 Gd (D g 0) true (
 G (vK Φ a0 W b c Q) [f] d) (
 G (vK Φ a0 W b c Q) [e] d)
def Hx(Φ:ae)(a0 W j b:I)(f:ST)(g:LT)(Q:ad):a:=λn d=>
 Do (M .add b (J 1)) λc=>
 Do (M .lss c j) λk=>
 aM k true (
∃t22 h e i,a0 = .iface t22 h∧fI ud t22=some e∧h4 d e.2 h=some i∧Φ e.1 (i::[c,b]) d λl m=>
 G (vL Φ a0 W b c f g Q) [l] m) (
 G (vL Φ a0 W b c f g Q) [P] d) (
 False)
def vM(Φ:ae)(a0 W d e:I)(b:ST)(f:LT)(Q:ad):a:=λg c=>
 Gd (D g 0) true (
 G (vJ Φ W Q) [(D b.1 0)] c) (
 G (Hx Φ a0 W d e b f Q) [] c)
def q8(Φ:ae)(a0 W c:I)(Q:ad):BT:=λa d=>
 Do (M .mul (J 2) (D a.1 0)) λe=>
 Do (M .add e (J 1)) λb=>
 Do (M .geq b c) λf=>
 aM f false (
 Do (M .lss b O) λg=>
 G (vM Φ a0 W c b a d Q) [g] a.2) (
 G (vM Φ a0 W c b a d Q) [bg] a.2) (
 False)
def f135(Φ:ae)(a0 W a:I)(H:AH)(Q:ad):Prop:=
 av (q8 Φ a0 W a Q) ([W],H)
noncomputable def Hy:aF:=A C ⟨135,[],[[7]],none,[9,181,183,336,338,355],[]⟩
def Hz(Φ:ae)(a0 c:I)(g:ST)(h:LT)(Q:ad):a:=λj d=>
∃t19 e b f,a0 = .iface t19 e∧fI ue t19=some b∧h4 d b.2 e=some f∧Φ b.1 (f::[c,(D g.1 0)]) d λk i=>
 h ([c],i)
def vN(Φ:ae)(a0 c:I)(d:ST)(e:LT)(Q:ad):a:=λf b=>
 Gd (D f 0) true (
 Q (.ar []) b) (
 G (Hz Φ a0 c d e Q) [] b)
def AA(Φ:ae)(a0:I)(Q:ad):BT:=λs1 c=>
 Do (M .sub (D s1.1 0) (J 1)) λf=>
 Do (M .quo f (J 2)) λa=>
 Do (M .eql a (D s1.1 0)) λg=>
 aM g false (
∃t12 d b e,a0 = .iface t12 d∧fI ud t12=some b∧h4 s1.2 b.2 d=some e∧Φ b.1 (e::[(D s1.1 0),a]) s1.2 λh i=>
 Do (cO .not h) λj=>
 G (vN Φ a0 a s1 c Q) [j] i) (
 G (vN Φ a0 a s1 c Q) [bg] s1.2) (
 False)
def f138(Φ:ae)(a0 W:I)(H:AH)(Q:ad):Prop:=
 av (AA Φ a0 Q) ([W],H)
noncomputable def HA:aF:=A C ⟨138,[],[[1]],none,[9,181,183,336,338,355],[]⟩
def AB(Φ:ae)(b:ST)(c:LT)(Q:ad):a:=λd e=>
 Do (M .add (D b.1 1) (J 1)) λf=>
 c ([(D d 0),f],e)
def HB(Φ:ae)(a0:I)(Q:ad):a:=λb c=>
 Do (c9 1 a0 (some (D b 0)) none none) λd=>
 au (c7 c (.clear 1 [O]) [d]) λg e=>
 Do (c9 1 a0 none (some (D b 0)) none) λf=>
 Q f e
def q9(Φ:ae)(a0 W:I)(Q:ad):BT:=λa c=>
 Do (aU false a0) λg=>
 Do (M .lss (D a.1 1) g) λh=>
 Gd h true (
 Do (aG none 1 a0 (D a.1 1)) λi=>
 Do (Z a.2 1 false i) λd=>
∃b e,W = .fn b e∧Φ (fJ b) (fK b [d] e) a.2 λj f=>
 Do (cO .not j) λk=>
 Gd k true (
 Do (aG none 1 a0 (D a.1 0)) λl=>
 Do (Y f 1 l d) λm=>
 Do (M .add (D a.1 0) (J 1)) λn=>
 G (AB Φ a c Q) [n] m) (
 G (AB Φ a c Q) [(D a.1 0)] f)) (
 G (HB Φ a0 Q) [(D a.1 0)] a.2)
def f139(Φ:ae)(a0 W:I)(H:AH)(Q:ad):Prop:=
Φ 200 [a0,W] H λa H2=>
 Do (M .eql a (J (-1))) λb=>
 Gd b true (
 Q a0 H2) (
 Do (M .add a (J 1)) λc=>
 av (q9 Φ a0 W Q) ([a,c],H2))
noncomputable def HC:aF:=A C ⟨139,[],[[5,6]],none,[],[]⟩
def f140(Φ:ae)(a0:I)(H:AH)(Q:ad):Prop:=
 Do (M .lss a0 O) λa=>
 Q a H
noncomputable def HD:aF:=A C ⟨140,[],[],none,[],[]⟩
def HE(Φ:ae)(a0 W:I)(Q:ad):a:=λg H2=>
 Do (aD a0) λb=>
 Do (aa 0 b) λc=>
 Do (Z H2 1 false c) λd=>
 Do (aG none 1 d W) λe=>
 Do (Z H2 1 false e) λf=>
 Q f H2
def vO(Φ:ae)(a0 W:I)(Q:ad):a:=λc b=>
 Gd (D c 0) true (
 Do (aD a0) λd=>
 Do (aa 7 d) λe=>
 Do (Y b 1 e (J 1)) λf=>
 Q O f) (
 G (HE Φ a0 W Q) [] b)
def f141(Φ:ae)(a0 W:I)(H:AH)(Q:ad):Prop:=
 Do (M .lss W O) λa=>
 aM a false (
 Do (aD a0) λb=>
 Do (aa 0 b) λc=>
 Do (Z H 1 false c) λd=>
 Do (aU false d) λe=>
 Do (M .geq W e) λf=>
 G (vO Φ a0 W Q) [f] H) (
 G (vO Φ a0 W Q) [bg] H) (
 False)
noncomputable def HF:aF:=A C ⟨141,[],[],none,[],[]⟩
def f142(Φ:ae)(a0 W a:I)(H:AH)(Q:ad):Prop:=
 Do (aB [O,O,O,O,O,O,O] [(0,1,(J 7)),(1,1,W),(2,1,(J 31)),(3,1,a)]) λb=>
Φ 42 [a0,b] H λd c=>
 Q (.ar []) c
noncomputable def HG:aF:=A C ⟨142,[],[],none,[],[]⟩
def f143(Φ:ae)(a0:I)(H:AH)(Q:ad):Prop:=
 Do (M .eql a0 (J 1)) λa=>
 Gd a true (
 Q (J 3) H) (
 Do (M .eql a0 (J 2)) λb=>
 Gd b true (
 Q (J 4) H) (
 Do (M .eql a0 (J 3)) λc=>
 Gd c true (
 Q (J 9) H) (
 Do (M .eql a0 (J 4)) λd=>
 Gd d true (
 Q (J 6) H) (
 Do (M .eql a0 (J 5)) λe=>
 Gd e true (
 Q (J 7) H) (
 Do (M .eql a0 (J 6)) λf=>
 Gd f true (
 Q (J 8) H) (
 Do (M .eql a0 (J 7)) λg=>
 Gd g true (
 Q (J 10) H) (
 Do (M .eql a0 (J 8)) λh=>
 Gd h true (
 Q (J 11) H) (
 Q O H))))))))
noncomputable def HH:aF:=A C ⟨143,[],[],none,[],[]⟩
def f144(Φ:ae)(a0:I)(H:AH)(Q:ad):Prop:=
 Do (M .eql a0 (J 9)) λa=>
 Gd a true (
 Q O H) (
 Do (M .eql a0 (J 10)) λb=>
 Gd b true (
 Q (J 1) H) (
 Q (J 3) H))
noncomputable def HI:aF:=A C ⟨144,[],[],none,[],[]⟩
def f145(Φ:ae)(a0 W:I)(H:AH)(Q:ad):Prop:=
 au (aL H false 13 W) λb H2=>
 Do (aa 3 b) λd=>
 Do (Z H2 1 false d) λe=>
Φ 82 [a0,e,(J 8)] H2 λc a=>
 Do (aa 6 b) λf=>
 Do (Z a 1 false f) λg=>
 Do (M .eql g (bP 0)) λh=>
 Gd h true (
 Q c a) (
 Do (aa 6 b) λi=>
 Do (Z a 1 false i) λj=>
Φ 40 [a0,(J 14),j] a λn k=>
 Do (aB [O,O,O,O,O,O,O] [(0,1,(J 3)),(1,1,(J 8)),(2,1,c),(3,1,(J 14))]) λl=>
Φ 42 [a0,l] k λo m=>
 Q (J 8) m)
noncomputable def HJ:aF:=A C ⟨145,[],[],none,[],[]⟩
def f146(Φ:ae)(a0 W a:I)(H:AH)(Q:ad):Prop:=
 Gd a0 true (
 Q W H) (
 Q a H)
noncomputable def HK:aF:=A C ⟨146,[],[],none,[],[]⟩
def f147(Φ:ae)(a0:I)(H:AH)(Q:ad):Prop:=
 Do (M .eql a0 (J 2)) λa=>
 aM a false (
 Do (M .eql a0 (J 4)) λb=>
 Q b H) (
 Q bg H) (
 False)
noncomputable def HL:aF:=A C ⟨147,[],[],none,[],[]⟩
def q_(Φ:ae)(a0:I)(Q:ad):BT:=λs1 a=>
 Do (M .shl (J 1) (D s1.1 0)) λb=>
 Do (M .lss b a0) λc=>
 Gd c true (
 Do (M .add (D s1.1 0) (J 1)) λd=>
 a ([d],s1.2)) (
 Q (D s1.1 0) s1.2)
def f148(Φ:ae)(a0:I)(H:AH)(Q:ad):Prop:=
 av (q_ Φ a0 Q) ([O],H)
noncomputable def HM:aF:=A C ⟨148,[],[[3]],none,[],[]⟩
def f149(Φ:ae)(a0:I)(H:AH)(Q:ad):Prop:=
 Do (M .eql a0 (J 3)) λa=>
 aM a false (
 Do (M .eql a0 (J 4)) λb=>
 Q b H) (
 Q bg H) (
 False)
noncomputable def HN:aF:=A C ⟨149,[],[],none,[],[]⟩
def f150(Φ:ae)(a0 W:I)(H:AH)(Q:ad):Prop:=
 Do (aD a0) λa=>
 Do (aa 1 a) λb=>
 Do (Z H 1 false b) λc=>
 Do (aU false c) λd=>
 Do (M .sub W d) λe=>
 Do (aB [O,O,O,O,O,O,O] [(0,1,(J 16)),(1,1,(J 13)),(6,1,e)]) λf=>
Φ 42 [a0,f] H λh g=>
 Q (.ar []) g
noncomputable def HO:aF:=A C ⟨150,[],[],none,[],[]⟩
def f151(Φ:ae)(a0:I)(H:AH)(Q:ad):Prop:=
 au (some (aK H true [.int .u32 0,.str []])) λa H2=>
 Do (M .eql a0 (J 17)) λo=>
 Gd o true (
 Do (aB [.int .u32 0,.str []] [(0,1,(.int .u32 960495616)),(1,1,(.str [100,97,111,115]))]) λp=>
 Do (Y H2 2 a p) λb=>
 Do (Z b 2 true a) λq=>
 Q q b) (
 Do (M .eql a0 (J 18)) λr=>
 Gd r true (
 Do (aB [.int .u32 0,.str []] [(0,1,(.int .u32 956301312)),(1,1,(.str [100,97,111,115]))]) λs=>
 Do (Y H2 2 a s) λc=>
 Do (Z c 2 true a) λt=>
 Q t c) (
 Do (M .eql a0 (J 19)) λu=>
 Gd u true (
 Do (aB [.int .u32 0,.str []] [(0,1,(.int .u32 148896768)),(1,1,(.str [100,97,115]))]) λv=>
 Do (Y H2 2 a v) λd=>
 Do (Z d 2 true a) λw=>
 Q w d) (
 Do (M .eql a0 (J 20)) λx=>
 Gd x true (
 Do (aB [.int .u32 0,.str []] [(0,1,(.int .u32 144702464)),(1,1,(.str [100,97,115]))]) λy=>
 Do (Y H2 2 a y) λe=>
 Do (Z e 2 true a) λz=>
 Q z e) (
 Do (M .eql a0 (J 21)) λA=>
 Gd A true (
 Do (aB [.int .u32 0,.str []] [(0,1,(.int .u32 140475392)),(1,1,(.str [100,97,115]))]) λB=>
 Do (Y H2 2 a B) λf=>
 Do (Z f 2 true a) λC=>
 Q C f) (
 Do (M .eql a0 (J 22)) λD=>
 Gd D true (
 Do (aB [.int .u32 0,.str []] [(0,1,(.int .u32 140508160)),(1,1,(.str [100,97,115]))]) λE=>
 Do (Y H2 2 a E) λg=>
 Do (Z g 2 true a) λF=>
 Q F g) (
 Do (M .eql a0 (J 23)) λG=>
 Gd G true (
 Do (aB [.int .u32 0,.str []] [(0,1,(.int .u32 134249472)),(1,1,(.str [100,97,115,109]))]) λK=>
 Do (Y H2 2 a K) λh=>
 Do (Z h 2 true a) λL=>
 Q L h) (
 Do (M .eql a0 (J 24)) λN=>
 Gd N true (
 Do (aB [.int .u32 0,.str []] [(0,1,(.int .u32 134282240)),(1,1,(.str [100,97,115,109]))]) λO=>
 Do (Y H2 2 a O) λi=>
 Do (Z i 2 true a) λP=>
 Q P i) (
 Do (M .eql a0 (J 25)) λR=>
 Gd R true (
 Do (aB [.int .u32 0,.str []] [(0,1,(.int .u32 3363766272)),(1,1,(.str [100,97,101]))]) λS=>
 Do (Y H2 2 a S) λj=>
 Do (Z j 2 true a) λT=>
 Q T j) (
 Do (M .eql a0 (J 26)) λU=>
 Gd U true (
 Do (aB [.int .u32 0,.str []] [(0,1,(.int .u32 3363799040)),(1,1,(.str [100,97,101]))]) λV=>
 Do (Y H2 2 a V) λk=>
 Do (Z k 2 true a) λW=>
 Q W k) (
 Do (M .eql a0 (J 27)) λX=>
 Gd X true (
 Do (aB [.int .u32 0,.str []] [(0,1,(.int .u32 3357540352)),(1,1,(.str [100,97,101,109]))]) λaa=>
 Do (Y H2 2 a aa) λl=>
 Do (Z l 2 true a) λab=>
 Q ab l) (
 Do (M .eql a0 (J 28)) λac=>
 Gd ac true (
 Do (aB [.int .u32 0,.str []] [(0,1,(.int .u32 3357573120)),(1,1,(.str [100,97,101,109]))]) λaf=>
 Do (Y H2 2 a af) λm=>
 Do (Z m 2 true a) λag=>
 Q ag m) (
 Do (aB [.int .u32 0,.str []] []) λah=>
 Do (Y H2 2 a ah) λn=>
 Do (Z n 2 true a) λai=>
 Q ai n))))))))))))
noncomputable def HP:aF:=A C ⟨151,[2],[],none,[],[]⟩
def f161(Φ:ae)(a0 W:I)(H:AH)(Q:ad):Prop:=
 au (aL H false 7 a0) λa H2=>
 Do (aa 0 a) λb=>
 Do (Z H2 1 false b) λc=>
 Do (aa 0 W) λd=>
 Do (Z H2 1 false d) λe=>
 Do (M .eql c e) λf=>
 Q f H2
noncomputable def HQ:aF:=A C ⟨161,[],[],none,[],[]⟩
def HR(Φ:ae)(d i b:I)(Q:ad):a:=λu e=>
 Do (aa 3 d) λj=>
 Do (Z e 1 false j) λk=>
Φ 170 [k,(.fn 212 [i])] e λf c=>
 Do (M .lss f O) λl=>
 Gd l true (
 Do (aB [O,O,P,aw,O,aw] []) λm=>
 Do (Y c 6 b m) λg=>
 Do (Z g 6 true b) λn=>
 Q (.ar [n,(J 6)]) g) (
 Do (aa 3 d) λo=>
 Do (Z c 1 false o) λp=>
 Do (aG none 9 p f) λq=>
 Do (aa 1 q) λr=>
 Do (Z c 6 true r) λs=>
 Do (Y c 6 b s) λh=>
 Do (Z h 6 true b) λt=>
 Q (.ar [t,O]) h)
def vQ(Φ:ae)(e f b:I)(Q:ad):a:=λg c=>
 Gd (D g 0) true (
 Do (aB [O,O,P,aw,O,aw] []) λh=>
 Do (Y c 6 b h) λd=>
 Do (Z d 6 true b) λi=>
 Q (.ar [i,(J 8)]) d) (
 G (HR Φ e f b Q) [] c)
def vT(Φ:ae)(d e c:I)(g:List I)(Q:ad):a:=λh b=>
 Gd (D h 0) true (
 Do (aa 5 d) λi=>
 Do (Z b 1 false i) λj=>
 Do (aG none 6 j O) λk=>
 Do (Z b 6 true k) λl=>
 Do (Y b 6 c l) λf=>
 Do (Z f 6 true c) λm=>
 Q (.ar [m,O]) f) (
 Do (aa 1 e) λn=>
 Do (Z b 1 false n) λo=>
 Do (aU false o) λp=>
 Do (M .eql p (J 1)) λq=>
 aM q false (
 Do (cO .not (D g 0)) λr=>
 G (vQ Φ d e c Q) [r] b) (
 G (vQ Φ d e c Q) [bg] b) (
 False))
def vU(Φ:ae)(d e c:I)(f:List I)(Q:ad):a:=λh b=>
 Gd (D h 0) true (
 Do (aB [O,O,P,aw,O,aw] []) λi=>
 Do (Y b 6 c i) λg=>
 Do (Z g 6 true c) λj=>
 Q (.ar [j,(J 8)]) g) (
 Do (aa 1 e) λk=>
 Do (Z b 1 false k) λl=>
 Do (aU false l) λm=>
 Do (M .eql m (J 1)) λn=>
 aM n true (
 Do (aa 0 d) λo=>
 Do (Z b 1 false o) λp=>
 Do (M .eql p (J 5)) λq=>
 G (vT Φ d e c f Q) [q] b) (
 G (vT Φ d e c f Q) [P] b) (
 False))
def vV(Φ:ae)(d b e:I)(Q:ad):a:=λf c=>
 Do (aa 1 b) λg=>
 Do (Z c 1 false g) λh=>
 Do (aU false h) λi=>
 Do (M .gtr i (J 1)) λj=>
 aM j false (
 Do (aa 1 b) λk=>
 Do (Z c 1 false k) λl=>
 Do (aU false l) λm=>
 Do (M .eql m (J 1)) λn=>
 Do (aa 0 b) λo=>
 Do (Z c 1 false o) λp=>
 Do (M .neq p (.str [])) λq=>
 Do (ku false n q) λr=>
 G (vU Φ d b e f Q) [r] c) (
 G (vU Φ d b e f Q) [bg] c) (
 False)
def f162(Φ:ae)(a0 W:I)(H:AH)(Q:ad):Prop:=
 au (aL H false 6 a0) λa H2=>
 au (aL H2 false 2 W) λc e=>
 au (some (aK e true [O,O,P,aw,O,aw])) λd b=>
 Do (aa 0 a) λf=>
 Do (Z b 1 false f) λg=>
 Do (M .eql g (J 3)) λh=>
 aM h false (
 Do (aa 0 a) λi=>
 Do (Z b 1 false i) λj=>
 Do (M .eql j (J 4)) λk=>
 G (vV Φ a c d Q) [k] b) (
 G (vV Φ a c d Q) [bg] b) (
 False)
noncomputable def HS:aF:=A C ⟨162,[4],[],none,[],[]⟩
def re(Φ:ae)(c:I)(d:List I)(Q:ad):a:=λe b=>
 aM (D e 0) true (
 Do (aa 7 c) λf=>
 Do (Z b 1 false f) λg=>
 Do (aU false g) λh=>
 Do (M .eql h (D d 0)) λi=>
 Q i b) (
 Q P b) (
 False)
def kX(Φ:ae)(b:I)(c:List I)(Q:ad):a:=λe d=>
 aM (D e 0) true (
 aM (D c 1) false (
 Do (aa 5 b) λf=>
 Do (Z d 2 true f) λg=>
Φ 110 [g] d λh i=>
 G (re Φ b c Q) [h] i) (
 G (re Φ b c Q) [bg] d) (
 False)) (
 G (re Φ b c Q) [P] d) (
 False)
def rf(Φ:ae)(b e:I)(d:List I)(Q:ad):a:=λf c=>
 aM (D f 0) true (
 aM e true (
 Do (aa 3 b) λg=>
 Do (Z c 1 false g) λh=>
 Do (M .geq h (J 1)) λi=>
 aM i true (
 Do (aa 3 b) λj=>
 Do (Z c 1 false j) λk=>
 Do (M .leq k (J 11)) λl=>
 aM l false (
 Do (cO .not e) λm=>
 aM m true (
 Do (aa 3 b) λn=>
 Do (Z c 1 false n) λo=>
 Do (M .eql o O) λp=>
 G (kX Φ b d Q) [p] c) (
 G (kX Φ b d Q) [P] c) (
 False)) (
 G (kX Φ b d Q) [bg] c) (
 False)) (
 Do (cO .not e) λq=>
 aM q true (
 Do (aa 3 b) λr=>
 Do (Z c 1 false r) λs=>
 Do (M .eql s O) λt=>
 G (kX Φ b d Q) [t] c) (
 G (kX Φ b d Q) [P] c) (
 False)) (
 False)) (
 Do (cO .not e) λu=>
 aM u true (
 Do (aa 3 b) λv=>
 Do (Z c 1 false v) λw=>
 Do (M .eql w O) λx=>
 G (kX Φ b d Q) [x] c) (
 G (kX Φ b d Q) [P] c) (
 False)) (
 False)) (
 G (kX Φ b d Q) [P] c) (
 False)
def vW(Φ:ae)(b d:I)(e:List I)(Q:ad):a:=λf c=>
 aM (D f 0) true (
 Do (aa 0 b) λg=>
 Do (Z c 1 false g) λh=>
 Do (M .eql h (J 2)) λi=>
 aM i false (
 Do (aa 2 b) λj=>
 Do (Z c 1 false j) λk=>
 Do (M .eql k (.str [])) λl=>
 G (rf Φ b d e Q) [l] c) (
 G (rf Φ b d e Q) [bg] c) (
 False)) (
 G (rf Φ b d e Q) [P] c) (
 False)
def mC(Φ:ae)(b:I)(Q:ad):a:=λd c=>
 Do (aa 0 b) λf=>
 Do (Z c 1 false f) λg=>
 Do (M .eql g (J 3)) λe=>
 Do (aa 0 b) λh=>
 Do (Z c 1 false h) λi=>
 Do (M .eql i (J 1)) λj=>
 aM j false (
 Do (aa 1 b) λk=>
 Do (Z c 1 false k) λl=>
 Do (M .eql l (bP 0)) λm=>
 G (vW Φ b e d Q) [m] c) (
 G (vW Φ b e d Q) [bg] c) (
 False)
def AD(Φ:ae)(c d:I)(Q:ad):a:=λe b=>
 Gd (D e 0) true (
 G (mC Φ c Q) [(J 1),bg] b) (
 Do (M .eql d (J 8)) λf=>
 Gd f true (
 G (mC Φ c Q) [(J 2),bg] b) (
 Q P b))
def AE(Φ:ae)(c b:I)(Q:ad):a:=λf d=>
 Gd (D f 0) true (
 G (mC Φ c Q) [O,bg] d) (
 Do (M .eql b (J 6)) λe=>
 Gd e true (
 G (AD Φ c b Q) [e] d) (
 Do (M .eql b (J 7)) λg=>
 G (AD Φ c b Q) [g] d))
def AF(Φ:ae)(c b:I)(Q:ad):a:=λf d=>
 Gd (D f 0) true (
 G (mC Φ c Q) [O,P] d) (
 Do (M .eql b (J 3)) λg=>
 Gd g true (
 G (mC Φ c Q) [(J 2),P] d) (
 Do (M .eql b (J 4)) λe=>
 Gd e true (
 G (AE Φ c b Q) [e] d) (
 Do (M .eql b (J 5)) λh=>
 G (AE Φ c b Q) [h] d)))
def f163(Φ:ae)(a0:I)(H:AH)(Q:ad):Prop:=
 au (aL H false 8 a0) λb H2=>
 Do (aa 0 b) λd=>
 Do (Z H2 1 false d) λa=>
 Do (M .eql a (J 1)) λc=>
 Gd c true (
 G (AF Φ b a Q) [c] H2) (
 Do (M .eql a (J 2)) λe=>
 G (AF Φ b a Q) [e] H2)
noncomputable def HT:aF:=A C ⟨163,[],[],none,[],[]⟩
def vX(Φ:ae)(Q:ad):a:=λb c=>
 Do (M .add (D b 0) (J 1)) λd=>
 Q d c
def vY(Φ:ae)(W d e:I)(Q:ad):BT:=λa f=>
 Do (M .lss (D a.1 1) e) λg=>
 Gd g true (
 Do (aG none 6 d (D a.1 1)) λh=>
 Do (Z a.2 6 true h) λi=>
 au (some (aK a.2 true [O,O,P,aw,O,aw])) λb j=>
 Do (Y j 6 b i) λc=>
 Do (Z c 6 true b) λk=>
 Do (M .sub W (J 1)) λl=>
Φ 164 [k,l] c λm n=>
 Do (eP true [(D a.1 0),m]) λo=>
 Do (M .add (D a.1 1) (J 1)) λp=>
 f ([o,p],n)) (
 G (vX Φ Q) [(D a.1 0)] a.2)
def AG(Φ:ae)(W d:I)(Q:ad):a:=λe b=>
 Do (aa 5 d) λf=>
 Do (Z b 1 false f) λc=>
 Do (aU false c) λg=>
 av (vY Φ W c g Q) ([(D e 0),O],b)
def vZ(Φ:ae)(W d e f:I)(Q:ad):BT:=λa g=>
 Do (M .lss (D a.1 1) f) λh=>
 Gd h true (
 Do (aG none 9 e (D a.1 1)) λi=>
 Do (Z a.2 9 true i) λj=>
 au (some (aK a.2 true [.str [],O,O,P,aw,O,aw,P,O])) λb k=>
 Do (Y k 9 b j) λc=>
 Do (aa 1 b) λl=>
 Do (Z c 6 true l) λm=>
 Do (M .sub W (J 1)) λn=>
Φ 164 [m,n] c λo p=>
 Do (eP true [(D a.1 0),o]) λq=>
 Do (M .add (D a.1 1) (J 1)) λr=>
 g ([q,r],p)) (
 G (AG Φ W d Q) [(D a.1 0)] a.2)
def f164(Φ:ae)(a0 W:I)(H:AH)(Q:ad):Prop:=
 au (aL H false 6 a0) λa H2=>
 Do (M .gtr W (J 1)) λc=>
 Gd c true (
 Do (aa 3 a) λd=>
 Do (Z H2 1 false d) λb=>
 Do (aU false b) λe=>
 av (vZ Φ W a b e Q) ([O,O],H2)) (
 G (vX Φ Q) [O] H2)
noncomputable def HU:aF:=A C ⟨164,[7,9],[[5,15],[5,30]],none,[],[]⟩
def rh(Φ:ae)(c d:I)(Q:ad):a:=λe b=>
 aM (D e 0) true (
 Do (cO .not d) λf=>
 aM f false (
 Do (aa 5 c) λg=>
 Do (Z b 1 false g) λh=>
 Do (aU false h) λi=>
 Do (M .eql i (J 1)) λj=>
 Q j b) (
 Q bg b) (
 False)) (
 Q P b) (
 False)
def ri(Φ:ae)(b d:I)(Q:ad):a:=λe c=>
 aM (D e 0) true (
 aM d false (
 Do (aa 4 b) λf=>
 Do (Z c 1 false f) λg=>
 Do (M .eql g O) λh=>
 aM h true (
 Do (aa 5 b) λi=>
 Do (Z c 1 false i) λj=>
 Do (aU false j) λk=>
 Do (M .eql k O) λl=>
 G (rh Φ b d Q) [l] c) (
 G (rh Φ b d Q) [P] c) (
 False)) (
 G (rh Φ b d Q) [bg] c) (
 False)) (
 G (rh Φ b d Q) [P] c) (
 False)
def v7(Φ:ae)(b d:I)(e:List I)(Q:ad):a:=λf c=>
 aM (D f 0) true (
 aM (D e 0) false (
 Do (aa 2 b) λg=>
 Do (Z c 1 false g) λh=>
 Do (cO .not h) λi=>
 aM i true (
 Do (aa 3 b) λj=>
 Do (Z c 1 false j) λk=>
 Do (aU false k) λl=>
 Do (M .eql l O) λm=>
 G (ri Φ b d Q) [m] c) (
 G (ri Φ b d Q) [P] c) (
 False)) (
 G (ri Φ b d Q) [bg] c) (
 False)) (
 G (ri Φ b d Q) [P] c) (
 False)
def AJ(Φ:ae)(b d:I)(f:List I)(e:List I)(Q:ad):a:=λg c=>
 aM (D g 0) true (
 aM (D f 0) false (
 Do (aa 1 b) λh=>
 Do (Z c 1 false h) λi=>
 Do (M .eql i O) λj=>
 G (v7 Φ b d e Q) [j] c) (
 G (v7 Φ b d e Q) [bg] c) (
 False)) (
 G (v7 Φ b d e Q) [P] c) (
 False)
def AK(Φ:ae)(c b:I)(d:List I)(e:List I)(Q:ad):a:=λg f=>
 aM (D g 0) false (
 G (AJ Φ c b d e Q) [b] f) (
 G (AJ Φ c b d e Q) [bg] f) (
 False)
def AL(Φ:ae)(b:I)(c:List I)(Q:ad):a:=λd e=>
 Do (aa 0 b) λg=>
 Do (Z e 1 false g) λh=>
 Do (M .eql h (J 5)) λf=>
 aM (D c 0) false (
 G (AK Φ b f c d Q) [(D d 0)] e) (
 G (AK Φ b f c d Q) [bg] e) (
 False)
def AM(Φ:ae)(b:I)(Q:ad):a:=λd c=>
 Do (aa 0 b) λe=>
 Do (Z c 1 false e) λf=>
 Do (M .eql f (J 3)) λg=>
 aM g false (
 Do (aa 0 b) λh=>
 Do (Z c 1 false h) λi=>
 Do (M .eql i (J 4)) λj=>
 G (AL Φ b d Q) [j] c) (
 G (AL Φ b d Q) [bg] c) (
 False)
def f165(Φ:ae)(a0:I)(H:AH)(Q:ad):Prop:=
 au (aL H false 6 a0) λa H2=>
 Do (aa 0 a) λb=>
 Do (Z H2 1 false b) λc=>
 Do (M .eql c (J 1)) λd=>
 aM d false (
 Do (aa 0 a) λe=>
 Do (Z H2 1 false e) λf=>
 Do (M .eql f (J 2)) λg=>
 G (AM Φ a Q) [g] H2) (
 G (AM Φ a Q) [bg] H2) (
 False)
noncomputable def HV:aF:=A C ⟨165,[],[],none,[],[]⟩
def AN(Φ:ae)(a0:I)(Q:ad):a:=λb H2=>
 aM (D b 0) true (
 Do (M .sub a0 (J 1)) λc=>
 Do (M .and a0 c) λd=>
 Do (M .eql d O) λe=>
 Q e H2) (
 Q P H2) (
 False)
def f166(Φ:ae)(a0 W:I)(H:AH)(Q:ad):Prop:=
 Do (M .geq a0 (J 1)) λa=>
 aM a true (
 Do (M .leq a0 W) λb=>
 G (AN Φ a0 Q) [b] H) (
 G (AN Φ a0 Q) [P] H) (
 False)
noncomputable def HW:aF:=A C ⟨166,[],[],none,[],[]⟩
def v8(Φ:ae)(d e:I)(Q:ad):BT:=λa f=>
 Do (M .lss (D a.1 0) e) λg=>
 Gd g true (
 Do (Z a.2 6 true d) λh=>
Φ 213 [h,(D a.1 0)] a.2 λb c=>
 Do (M .neq b O) λi=>
 Gd i true (
 Q b c) (
 Do (M .add (D a.1 0) (J 1)) λj=>
 f ([j],c))) (
 Q O a.2)
def HX(Φ:ae)(b:I)(Q:ad):a:=λg c=>
 Do (aa 3 b) λd=>
 Do (Z c 1 false d) λe=>
 Do (aU false e) λf=>
 av (v8 Φ b f Q) ([O],c)
def v_(Φ:ae)(c:I)(Q:ad):a:=λd b=>
 Gd (D d 0) true (
 Q (J 12) b) (
 G (HX Φ c Q) [] b)
def f167(Φ:ae)(a0:I)(H:AH)(Q:ad):Prop:=
 au (aL H false 6 a0) λa H2=>
 Do (aa 3 a) λb=>
 Do (Z H2 1 false b) λc=>
 Do (aU false c) λd=>
 Do (M .lss d (J 1)) λe=>
 aM e false (
 Do (aa 3 a) λf=>
 Do (Z H2 1 false f) λg=>
 Do (aU false g) λh=>
 Do (M .gtr h (J 32)) λi=>
 G (v_ Φ a Q) [i] H2) (
 G (v_ Φ a Q) [bg] H2) (
 False)
noncomputable def HY:aF:=A C ⟨167,[],[[18]],none,[],[]⟩
def f168(Φ:ae)(a0:I)(H:AH)(Q:ad):Prop:=
 au (aL H false 9 a0) λa H2=>
 Do (aa 1 a) λb=>
 Do (Z H2 6 true b) λc=>
Φ 116 [c] H2 λd e=>
 Q d e
noncomputable def HZ:aF:=A C ⟨168,[],[],none,[],[]⟩
def Ql(Φ:ae)(a0 W d:I)(Q:ad):BT:=λs2 e=>
 Do (M .lss (D s2.1 0) d) λf=>
 Gd f true (
 Do (aG none 6 a0 (D s2.1 0)) λg=>
 Do (Z s2.2 6 true g) λh=>
∃a b,W = .fn a b∧Φ (fJ a) (fK a [h] b) s2.2 λi c=>
 Gd i true (
 Q (D s2.1 0) c) (
 Do (M .add (D s2.1 0) (J 1)) λj=>
 e ([j],c))) (
 Q (J (-1)) s2.2)
def f169(Φ:ae)(a0 W:I)(H:AH)(Q:ad):Prop:=
 Do (aU false a0) λa=>
 av (Ql Φ a0 W a Q) ([O],H)
noncomputable def H3:aF:=A C ⟨169,[],[[8]],none,[],[]⟩
def Qm(Φ:ae)(a0 W d:I)(Q:ad):BT:=λs2 e=>
 Do (M .lss (D s2.1 0) d) λf=>
 Gd f true (
 Do (aG none 9 a0 (D s2.1 0)) λg=>
 Do (Z s2.2 9 true g) λh=>
∃a b,W = .fn a b∧Φ (fJ a) (fK a [h] b) s2.2 λi c=>
 Gd i true (
 Q (D s2.1 0) c) (
 Do (M .add (D s2.1 0) (J 1)) λj=>
 e ([j],c))) (
 Q (J (-1)) s2.2)
def f170(Φ:ae)(a0 W:I)(H:AH)(Q:ad):Prop:=
 Do (aU false a0) λa=>
 av (Qm Φ a0 W a Q) ([O],H)
noncomputable def H4:aF:=A C ⟨170,[],[[8]],none,[],[]⟩
def wa(Φ:ae)(d c:I)(Q:ad):a:=λe b=>
 Gd (D e 0) true (
 Q (J 1) b) (
 Do (aa 7 c) λf=>
 Do (Z b 1 false f) λg=>
 Gd g true (
 Do (aa 1 c) λh=>
 Do (aa 1 h) λi=>
 Do (Z b 1 false i) λj=>
 Q j b) (
 Q d b))
def f171(Φ:ae)(a0 W c:I)(H:AH)(Q:ad):Prop:=
 au (aL H false 6 a0) λd H2=>
 au (aL H2 false 9 W) λb a=>
 Do (aa 2 d) λe=>
 Do (Z a 1 false e) λf=>
 aM f false (
 Do (aa 7 b) λg=>
 Do (Z a 1 false g) λh=>
 aM h true (
 Do (aa 8 b) λi=>
 Do (Z a 1 false i) λj=>
 Do (M .eql j O) λk=>
 G (wa Φ c b Q) [k] a) (
 G (wa Φ c b Q) [P] a) (
 False)) (
 G (wa Φ c b Q) [bg] a) (
 False)
noncomputable def H5:aF:=A C ⟨171,[],[],none,[],[]⟩
def wb(Φ:ae)(a0 c:I)(Q:ad):a:=λab b=>
 Do (aD a0) λf=>
 Do (aa 3 f) λg=>
 Do (Z b 1 false g) λh=>
 Do (M .quo h (J 8)) λe=>
 Do (aD a0) λi=>
 Do (aa 3 i) λj=>
 Do (Z b 1 false j) λk=>
 Do (aa 8 c) λl=>
 Do (Z b 1 false l) λm=>
 Do (M .add k m) λn=>
 Do (M .sub n (J 1)) λo=>
 Do (M .quo o (J 8)) λp=>
 Do (aD a0) λq=>
 Do (aa 2 q) λr=>
 Do (Z b 1 false r) λs=>
 Do (M .sub p e) λt=>
 Do (M .add t (J 1)) λu=>
 Do (aB [O,O] [(0,1,e),(1,1,u)]) λv=>
 Do (aD a0) λw=>
 Do (aa 3 w) λx=>
 Do (Z b 1 false x) λy=>
 Do (M .rem y (J 8)) λz=>
 Do (aa 8 c) λA=>
 Do (Z b 1 false A) λB=>
 Do (aB [O,O,O,P,O,O] [(0,2,v),(2,1,(J 1)),(3,1,bg),(4,1,z),(5,1,B)]) λC=>
 au (b8 b false 6 1 [O,O,O,P,O,O] [(0,6,C)]) λD E=>
 au (bH E false 6 48 s D) λF G=>
 Do (aD a0) λH=>
 Do (aa 2 H) λK=>
 Do (Y G 1 K F) λd=>
 Do (aD a0) λL=>
 Do (aa 3 L) λN=>
 Do (Z d 1 false N) λR=>
 Do (aa 8 c) λS=>
 Do (Z d 1 false S) λT=>
 Do (M .add R T) λU=>
 Do (aD a0) λV=>
 Do (aa 3 V) λW=>
 Do (Y d 1 W U) λX=>
 Q (.ar []) X
def f172(Φ:ae)(a0 W:I)(H:AH)(Q:ad):Prop:=
 au (aL H false 9 W) λa H2=>
 Do (aa 1 a) λd=>
 Do (aa 1 d) λe=>
 Do (Z H2 1 false e) λf=>
 Do (M .mul (J 8) f) λb=>
 Do (aa 8 a) λg=>
 Do (Z H2 1 false g) λh=>
 Do (M .eql h O) λi=>
 Gd i true (
 Do (aD a0) λj=>
 Do (aa 3 j) λk=>
 Do (Z H2 1 false k) λl=>
Φ 173 [l,b] H2 λm n=>
 Do (aD a0) λo=>
 Do (aa 3 o) λp=>
 Do (Y n 1 p m) λc=>
 Do (aD a0) λq=>
 Do (aa 2 q) λr=>
 Do (Z c 1 false r) λs=>
 Do (aD a0) λt=>
 Do (aa 3 t) λu=>
 Do (Z c 1 false u) λv=>
 Do (M .quo v (J 8)) λw=>
 Do (aB [O,O] [(0,1,w)]) λx=>
 Do (aD a0) λy=>
 Do (aa 3 y) λz=>
 Do (Z c 1 false z) λA=>
 Do (M .rem A (J 8)) λB=>
 Do (aB [O,O,O,P,O,O] [(0,2,x),(2,1,(J 1)),(3,1,bg),(4,1,B)]) λC=>
 au (b8 c false 6 1 [O,O,O,P,O,O] [(0,6,C)]) λD E=>
 au (bH E false 6 48 s D) λF K=>
 Do (aD a0) λL=>
 Do (aa 2 L) λN=>
 Do (Y K 1 N F) λR=>
 Q (.ar []) R) (
 Do (aD a0) λS=>
 Do (aa 3 S) λT=>
 Do (Z H2 1 false T) λU=>
 Do (M .quo U b) λV=>
 Do (aD a0) λX=>
 Do (aa 3 X) λab=>
 Do (Z H2 1 false ab) λac=>
 Do (aa 8 a) λaf=>
 Do (Z H2 1 false af) λag=>
 Do (M .add ac ag) λah=>
 Do (M .sub ah (J 1)) λai=>
 Do (M .quo ai b) λaj=>
 Do (M .neq V aj) λak=>
 Gd ak true (
 Do (aD a0) λal=>
 Do (aa 3 al) λam=>
 Do (Z H2 1 false am) λan=>
Φ 173 [an,b] H2 λao ap=>
 Do (aD a0) λaq=>
 Do (aa 3 aq) λav=>
 Do (Y ap 1 av ao) λaw=>
 G (wb Φ a0 a Q) [] aw) (
 G (wb Φ a0 a Q) [] H2))
noncomputable def H6:aF:=A C ⟨172,[],[],none,[],[]⟩
def f173(Φ:ae)(a0 W:I)(H:AH)(Q:ad):Prop:=
 Do (M .add a0 W) λa=>
 Do (M .sub a (J 1)) λb=>
 Do (M .quo b W) λc=>
 Do (M .mul c W) λd=>
 Q d H
noncomputable def H7:aF:=A C ⟨173,[],[],none,[],[]⟩
def f174(Φ:ae)(a0 W:I)(H:AH)(Q:ad):Prop:=
Φ 128 [(J 1)] H λd H2=>
 au (some (aK H2 true [O,O,O,O,O,O,bP 0,O,O,O,O,O,O])) λa e=>
 Do (Y e 13 a d) λf=>
Φ 122 [a0] f λg h=>
 Do (aa 1 a) λi=>
 Do (Y h 1 i g) λj=>
 Do (aa 6 a) λk=>
 Do (Y j 1 k W) λb=>
 Do (Z b 13 true a) λl=>
Φ 130 [a0,l] b λo c=>
 Do (aa 1 a) λm=>
 Do (Z c 1 false m) λn=>
 Q n c
noncomputable def H8:aF:=A C ⟨174,[5],[],none,[],[]⟩
def f175(Φ:ae)(a0 W d e:I)(H:AH)(Q:ad):Prop:=
Φ 128 [(J 3)] H λf H2=>
 au (some (aK H2 true [O,O,O,O,O,O,bP 0,O,O,O,O,O,O])) λa g=>
 Do (Y g 13 a f) λh=>
Φ 122 [a0] h λi j=>
 Do (aa 1 a) λk=>
 Do (Y j 1 k i) λl=>
 Do (aa 7 a) λm=>
 Do (Y l 1 m W) λn=>
 Do (aa 3 a) λo=>
 Do (Y n 1 o d) λp=>
 Do (aa 4 a) λq=>
 Do (Y p 1 q e) λb=>
 Do (Z b 13 true a) λr=>
Φ 130 [a0,r] b λu c=>
 Do (aa 1 a) λs=>
 Do (Z c 1 false s) λt=>
 Q t c
noncomputable def H9:aF:=A C ⟨175,[9],[],none,[],[]⟩
def f176(Φ:ae)(a0 W:I)(H:AH)(Q:ad):Prop:=
 au (aL H false 2 W) λd H2=>
 Do (Z H2 2 true d) λl=>
Φ 180 [a0,l] H2 λm n=>
 au (some (aK n true [O,O,O,P,O,O,O,O])) λa o=>
 Do (Y o 8 a m) λe=>
 Do (Z e 8 true a) λp=>
Φ 181 [a0,p] e λq c=>
 Do (Z c 8 true a) λf=>
 Do (Z c 2 true d) λr=>
Φ 129 [a0,(J 14),O,r] c λs g=>
(Z g 8 true a=some f) ∧
(Φ 182 [a0,f,q,s] g λh b=>
 Do (aa 0 a) λt=>
 Do (aa 3 t) λu=>
 Do (Z b 1 false u) λv=>
 Gd v true (
 Do (aa 0 a) λw=>
 Do (aa 4 w) λx=>
 Do (Z b 1 false x) λy=>
 Do (dK .u64 y) λz=>
 Do (aa 0 a) λA=>
 Do (aa 5 A) λi=>
 Do (Z b 1 false i) λj=>
Φ 183 [a0,(J 8),h,z] b λB k=>
(Z k 1 false i=some j) ∧
(Φ 184 [j] k λC D=>
Φ 183 [a0,(J 4),B,C] D λE F=>
 Q E F)) (
 Q h b))
noncomputable def H_:aF:=A C ⟨176,[5],[],none,[],[]⟩
def wc(Φ:ae)(a0 g l b:I)(Q:ad):a:=λR m=>
 Do (Z m 8 true l) λw=>
Φ 181 [a0,w] m λx y=>
 Do (aa 3 b) λz=>
 Do (Y y 1 z x) λc=>
 Do (aa 0 l) λA=>
 Do (aa 0 A) λB=>
 Do (aa 1 B) λh=>
 Do (Z c 1 false h) λi=>
 Do (aa 4 g) λe=>
 Do (Z c 1 false e) λf=>
 Do (aa 0 g) λn=>
 Do (Z c 1 false n) λo=>
 Do (M .add (J 10) o) λC=>
 Do (aa 4 g) λp=>
 Do (Z c 1 false p) λq=>
 Do (aa 5 g) λr=>
 Do (Z c 2 true r) λs=>
Φ 122 [a0] c λD d=>
(Z d 1 false h=some i) ∧
(Z d 1 false e=some f) ∧
(Z d 1 false n=some o) ∧
(Z d 1 false p=some q) ∧
(Z d 2 true r=some s) ∧
(Do (aa 1 b) λE=>
Φ 129 [a0,C,q,s] d λF j=>
(Z j 1 false h=some i) ∧
(Z j 1 false e=some f) ∧
(Do (Y j 1 E D) λk=>
(Z k 1 false h=some i) ∧
(Z k 1 false e=some f) ∧
(Do (aa 8 b) λG=>
 Do (Y k 1 G i) λt=>
(Z t 1 false e=some f) ∧
(Do (aa 9 b) λH=>
 Do (Y t 1 H f) λK=>
 Do (aa 11 b) λL=>
 Do (Y K 1 L F) λu=>
 Do (Z u 13 true b) λN=>
Φ 130 [a0,N] u λS v=>
 Do (aa 1 b) λO=>
 Do (Z v 1 false O) λP=>
 Q P v))))
def we(Φ:ae)(a0 c e d:I)(f:List I)(Q:ad):a:=λn b=>
 Do (aa 0 c) λg=>
 Do (Z b 1 false g) λh=>
 Do (M .eql h (J 8)) λi=>
 Gd i true (
 Do (aG none 1 (D f 0) (J 1)) λj=>
 Do (Z b 1 false j) λk=>
 Do (aa 5 d) λl=>
 Do (Y b 1 l k) λm=>
 G (wc Φ a0 c e d Q) [] m) (
 G (wc Φ a0 c e d Q) [] b)
def AO(Φ:ae)(a0 b f:I)(Q:ad):a:=λe g=>
 Do (aa 0 b) λi=>
 Do (Z g 1 false i) λj=>
 Do (M .sub j (J 5)) λk=>
 Do (M .add k (J 6)) λl=>
Φ 128 [l] g λm n=>
 au (some (aK n true [O,O,O,O,O,O,bP 0,O,O,O,O,O,O])) λc o=>
 Do (Y o 13 c m) λd=>
 Do (aa 0 b) λp=>
 Do (Z d 1 false p) λq=>
 Do (M .neq q (J 5)) λr=>
 Gd r true (
 Do (aa 0 b) λs=>
 Do (Z d 1 false s) λt=>
 Do (M .sub t (J 6)) λu=>
 Do (M .add u (J 8)) λv=>
 Do (aa 0 c) λw=>
 Do (Y d 1 w v) λh=>
 Do (aG none 1 (D e 0) O) λx=>
 Do (Z h 1 false x) λy=>
 Do (aa 4 c) λz=>
 Do (Y h 1 z y) λA=>
 G (we Φ a0 b f c e Q) [] A) (
 G (we Φ a0 b f c e Q) [] d)
def wg(Φ:ae)(a0 d e f g:I)(Q:ad):BT:=λa h=>
 Do (M .lss (D a.1 1) g) λi=>
 Gd i true (
 Do (aG none 8 f (D a.1 1)) λj=>
 Do (Z a.2 8 true j) λk=>
 au (some (aK a.2 true [O,bP 0,.str [],O,O,.str [],aw,aw])) λb l=>
 Do (Y l 8 b k) λc=>
 Do (Z c 8 true b) λm=>
Φ 121 [a0,m] c λn o=>
 au (b8 o false 1 1 [O] [(0,1,n)]) λp q=>
 au (bH q true 1 8 (D a.1 0) p) λr s=>
 Do (M .add (D a.1 1) (J 1)) λt=>
 h ([r,t],s)) (
 G (AO Φ a0 d e Q) [(D a.1 0)] a.2)
def f177(Φ:ae)(a0 W:I)(H:AH)(Q:ad):Prop:=
 au (aL H false 8 W) λa H2=>
 Do (aa 5 a) λe=>
 Do (Z H2 2 true e) λf=>
Φ 180 [a0,f] H2 λg h=>
 au (some (aK h true [O,O,O,P,O,O,O,O])) λb i=>
 Do (Y i 8 b g) λc=>
 Do (aa 7 a) λj=>
 Do (Z c 1 false j) λd=>
 Do (aU false d) λk=>
 av (wg Φ a0 a b d k Q) ([aw,O],c)
noncomputable def Ia:aF:=A C ⟨177,[5,8,9,26],[[6,17]],none,[],[]⟩
def AP(Φ:ae)(a0 W d:I)(Q:ad):BT:=λs2 e=>
 Do (M .lss (D s2.1 0) d) λf=>
 Gd f true (
 Do (aG none 2 a0 (D s2.1 0)) λg=>
 Do (Z s2.2 2 true g) λh=>
∃a b,W = .fn a b∧Φ (fJ a) (fK a [h] b) s2.2 λi c=>
 Gd i true (
 Q (D s2.1 0) c) (
 Do (M .add (D s2.1 0) (J 1)) λj=>
 e ([j],c))) (
 Q (J (-1)) s2.2)
def f178(Φ:ae)(a0 W:I)(H:AH)(Q:ad):Prop:=
 Do (aU false a0) λa=>
 av (AP Φ a0 W a Q) ([O],H)
noncomputable def Ib:aF:=A C ⟨178,[],[[8]],none,[],[]⟩
def f179(Φ:ae)(a0 W:I)(H:AH)(Q:ad):Prop:=
 au (aL H false 2 a0) λa H2=>
 Do (aa 0 a) λb=>
 Do (Z H2 1 false b) λc=>
 Do (Z H2 1 false W) λd=>
 Do (M .eql c d) λe=>
 Q e H2
noncomputable def Ic:aF:=A C ⟨179,[],[],none,[],[]⟩
def wi(Φ:ae)(b:ST)(c:LT)(Q:ad):a:=λf d=>
 Do (M .add (D b.1 0) (J 1)) λe=>
 c ([e],d)
def wj(Φ:ae)(b c:I)(h:ST)(i:LT)(Q:ad):a:=λr j=>
 Do (aa 0 b) λk=>
 Do (aa 0 k) λl=>
 Do (aa 1 l) λm=>
 Do (Y j 1 m c) λd=>
 Do (aa 7 b) λe=>
 Do (Z d 1 false e) λf=>
Φ 217 [c,(J 16)] d λn g=>
(Z g 1 false e=some f) ∧
(Do (eP false [f,n]) λo=>
 Do (aa 7 b) λp=>
 Do (Y g 1 p o) λq=>
 G (wi Φ h i Q) [] q)
def Ie(Φ:ae)(d b:I)(Q:ad):a:=λs c=>
 Do (aa 7 b) λe=>
 Do (Z c 1 false e) λf=>
 Do (aa 0 b) λj=>
 Do (aa 0 j) λk=>
 Do (aa 0 k) λl=>
 Do (Z c 1 false l) λm=>
Φ 217 [m,(J 16)] c λn g=>
(Z g 1 false e=some f) ∧
(Do (eP false [f,n]) λo=>
 Do (aa 7 b) λp=>
 Do (Y g 1 p o) λh=>
 Do (Z h 8 true b) λq=>
 Do (Y h 8 d q) λi=>
 Do (Z i 8 true d) λr=>
 Q r i)
def nK(Φ:ae)(a0 H b a K L:I)(Q:ad):BT:=λc j=>
 Do (M .lss (D c.1 0) L) λN=>
 Gd N true (
 Do (aG none 2 K (D c.1 0)) λR=>
 Do (Z c.2 2 true R) λS=>
 au (some (aK c.2 true [.str [],aw])) λe T=>
 Do (Y T 2 e S) λd=>
 Do (aa 1 e) λU=>
 Do (Z d 1 false U) λV=>
 Do (aU false V) λW=>
 Do (M .eql W O) λX=>
 Gd X true (
 Do (aa 3 b) λab=>
 Do (Z d 1 false ab) λac=>
Φ 170 [ac,(.fn 215 [e])] d λp q=>
 Do (Z q 6 true b) λaf=>
Φ 216 [af] q λr s=>
 Do (aY 0 r) λag=>
 Do (aY 1 r) λba=>
 Do (aG none 6 ag p) λah=>
 Do (Z s 6 true ah) λai=>
 au (some (aK s true [O,O,O,P,O,O])) λf aj=>
 Do (Y aj 6 f ai) λk=>
 Do (aa 0 f) λak=>
 Do (aa 0 ak) λal=>
 Do (Z k 1 false al) λam=>
 Do (aa 0 a) λan=>
 Do (aa 0 an) λao=>
 Do (aa 0 ao) λap=>
 Do (Z k 1 false ap) λaq=>
 Do (M .add am aq) λar=>
 Do (aa 0 f) λav=>
 Do (aa 0 av) λax=>
 Do (Y k 1 ax ar) λg=>
 Do (Z g 6 true f) λay=>
 Do (aa 3 b) λt=>
 Do (Z g 1 false t) λu=>
 Do (aG none 9 u p) λaz=>
 Do (aa 1 az) λv=>
 Do (Z g 6 true v) λw=>
 Do (aa 0 a) λaA=>
 Do (Y g 6 aA ay) λl=>
(Z l 1 false t=some u) ∧
(Z l 6 true v=some w) ∧
(Do (Y l 6 b w) λaB=>
 G (wi Φ c j Q) [] aB)) (
 Do (aa 1 e) λaC=>
 Do (Z d 1 false aC) λaD=>
 Do (aG none 8 aD O) λaE=>
 Do (Z d 8 true aE) λaF=>
Φ 121 [a0,aF] d λx aH=>
Φ 128 [(J 17)] aH λaI aJ=>
 au (some (aK aJ true [O,O,O,O,O,O,bP 0,O,O,O,O,O,O])) λh aL=>
 Do (Y aL 13 h aI) λy=>
 Do (aa 4 b) λz=>
 Do (Z y 1 false z) λA=>
 Do (dK .u64 A) λaM=>
 Do (aa 3 h) λaN=>
 Do (Y y 1 aN x) λB=>
(Z B 1 false z=some A) ∧
(Do (aa 6 h) λaO=>
 Do (Y B 1 aO aM) λC=>
 Do (Z C 13 true h) λaP=>
Φ 130 [a0,aP] C λbb m=>
 Do (aa 5 b) λaQ=>
 Do (Z m 1 false aQ) λaR=>
 Do (aG none 6 aR O) λaS=>
 Do (Z m 6 true aS) λaT=>
 Do (Y m 6 b aT) λE=>
 Do (Z E 6 true b) λaV=>
Φ 14 [aV] E λn aW=>
 Do (aY 0 n) λo=>
 Do (aY 1 n) λbc=>
 Do (aY 2 n) λbd=>
 Do (dK .u64 o) λaX=>
Φ 183 [a0,(J 3),x,aX] aW λF i=>
 Do (aa 6 a) λaZ=>
 Do (Z i 1 false aZ) λa1=>
 Do (M .eql a1 (J (-1))) λa2=>
 Gd a2 true (
 Do (aa 6 a) λa3=>
 Do (Y i 1 a3 F) λa4=>
 G (wj Φ a o c j Q) [] a4) (
 Do (aa 6 a) λa5=>
 Do (Z i 1 false a5) λa6=>
Φ 175 [a0,(J 1),a6,F] i λa7 a8=>
 Do (aa 6 a) λa9=>
 Do (Y a8 1 a9 a7) λa_=>
 G (wj Φ a o c j Q) [] a_)))) (
 G (Ie Φ H a Q) [] c.2)
def f180(Φ:ae)(a0 W:I)(H:AH)(Q:ad):Prop:=
 au (aL H false 2 W) λc H2=>
 au (some (aK H2 true [O,O,O,P,O,O,O,O])) λj d=>
 Do (aD a0) λk=>
 Do (aa 0 k) λl=>
 Do (Z d 1 false l) λm=>
Φ 59 [m,(.fn 214 [c])] d λe a=>
 Do (aD a0) λn=>
 Do (aa 0 n) λo=>
 Do (Z a 1 false o) λp=>
 Do (aG none 7 p e) λq=>
 Do (aa 1 q) λr=>
 Do (Z a 6 true r) λs=>
 au (some (aK a true [O,O,P,aw,O,aw])) λf t=>
 Do (Y t 6 f s) λb=>
 Do (aD a0) λu=>
 Do (aa 1 u) λv=>
 Do (Z b 1 false v) λw=>
 Do (aG none 3 w e) λx=>
 Do (aa 1 x) λy=>
 Do (Z b 2 true y) λz=>
 Do (aB [O,O,O,P,O,O] [(0,2,z)]) λA=>
 Do (aB [O,O,O,P,O,O,O,O] [(0,6,A),(6,1,(J (-1))),(7,1,(J 16))]) λB=>
 au (some (aK b true [O,O,O,P,O,O,O,O])) λg C=>
 Do (Y C 8 g B) λh=>
 Do (aa 1 c) λD=>
 Do (Z h 1 false D) λi=>
 Do (aU false i) λE=>
 av (nK Φ a0 j f g i E Q) ([O],h)
noncomputable def Ig:aF:=A C ⟨180,[4,6,7,9,13,15],[[46]],none,[],[]⟩
def f181(Φ:ae)(a0 W:I)(H:AH)(Q:ad):Prop:=
 au (aL H false 8 W) λa H2=>
 Do (aa 6 a) λb=>
 Do (Z H2 1 false b) λc=>
 Do (M .eql c (J (-1))) λd=>
 Gd d true (
 Do (aa 0 a) λe=>
 Do (aa 0 e) λf=>
 Do (aa 0 f) λg=>
 Do (Z H2 1 false g) λh=>
 Do (dK .u64 h) λi=>
Φ 174 [a0,i] H2 λj k=>
 Q j k) (
 Do (aa 6 a) λl=>
 Do (Z H2 1 false l) λm=>
 Do (aa 0 a) λn=>
 Do (aa 0 n) λo=>
 Do (aa 0 o) λp=>
 Do (Z H2 1 false p) λq=>
 Do (dK .u64 q) λr=>
Φ 183 [a0,(J 1),m,r] H2 λs t=>
 Q s t)
noncomputable def Ih:aF:=A C ⟨181,[],[],none,[],[]⟩
def wm(Φ:ae)(b:ST)(c:LT)(Q:ad):a:=λd e=>
 Do (M .add (D b.1 1) (J 1)) λf=>
 c ([(D d 0),f],e)
def wo(Φ:ae)(a0 r s t u:I)(Q:ad):BT:=λa m=>
 Do (M .lss (D a.1 1) u) λv=>
 Gd v true (
 Do (aG none 2 t (D a.1 1)) λw=>
 Do (Z a.2 2 true w) λx=>
 au (some (aK a.2 true [O,O])) λe y=>
 Do (Y y 2 e x) λz=>
Φ 128 [(J 4)] z λA B=>
 au (some (aK B true [O,O,O,O,O,O,bP 0,O,O,O,O,O,O])) λb C=>
 Do (Y C 13 b A) λh=>
 Do (aa 0 e) λf=>
 Do (Z h 1 false f) λg=>
 Do (dK .u64 g) λE=>
 Do (aa 1 e) λc=>
 Do (Z h 1 false c) λd=>
Φ 122 [a0] h λF i=>
(Z i 1 false f=some g) ∧
(Z i 1 false c=some d) ∧
(Do (aa 1 b) λH=>
 Do (Y i 1 H F) λj=>
(Z j 1 false f=some g) ∧
(Z j 1 false c=some d) ∧
(Do (aa 3 b) λK=>
 Do (Y j 1 K r) λk=>
(Z k 1 false f=some g) ∧
(Z k 1 false c=some d) ∧
(Do (aa 6 b) λL=>
 Do (Y k 1 L E) λn=>
(Z n 1 false c=some d) ∧
(Do (aa 8 b) λN=>
 Do (Y n 1 N d) λP=>
 Do (aa 11 b) λR=>
 Do (Y P 1 R s) λo=>
 Do (Z o 13 true b) λS=>
Φ 130 [a0,S] o λah l=>
 Do (aa 1 b) λT=>
 Do (Z l 1 false T) λU=>
 Do (aa 0 e) λV=>
 Do (Z l 1 false V) λW=>
 Do (M .mul (J 8) W) λX=>
 Do (dK .u64 X) λab=>
Φ 183 [a0,(J 7),U,ab] l λp q=>
 Do (M .eql (D a.1 0) (J (-1))) λac=>
 Gd ac true (
 G (wm Φ a m Q) [p] q) (
Φ 175 [a0,(J 5),(D a.1 0),p] q λaf ag=>
 G (wm Φ a m Q) [af] ag)))))) (
 Q (D a.1 0) a.2)
def f182(Φ:ae)(a0 W b c:I)(H:AH)(Q:ad):Prop:=
 au (aL H false 8 W) λd H2=>
 Do (Z H2 8 true d) λe=>
Φ 218 [e] H2 λa f=>
 Do (aU false a) λg=>
 av (wo Φ a0 b c a g Q) ([(J (-1)),O],f)
noncomputable def Ii:aF:=A C ⟨182,[11,12],[[9,17]],none,[],[]⟩
def AQ(Φ:ae)(a0 W b c:I)(Q:ad):a:=λh H2=>
Φ 174 [a0,c] H2 λd e=>
Φ 175 [a0,W,b,d] e λf g=>
 Q f g
def nL(Φ:ae)(a0 W b d:I)(Q:ad):a:=λe c=>
 Gd (D e 0) true (
 Q b c) (
 G (AQ Φ a0 W b d Q) [] c)
def f183(Φ:ae)(a0 W b a:I)(H:AH)(Q:ad):Prop:=
 Do (M .eql a (bP 0)) λc=>
 aM c true (
 Do (M .eql W (J 1)) λd=>
 aM d false (
 Do (M .eql W (J 7)) λe=>
 aM e false (
 Do (M .eql W (J 8)) λf=>
 aM f false (
 Do (M .eql W (J 5)) λg=>
 G (nL Φ a0 W b a Q) [g] H) (
 G (nL Φ a0 W b a Q) [bg] H) (
 False)) (
 G (nL Φ a0 W b a Q) [bg] H) (
 False)) (
 G (nL Φ a0 W b a Q) [bg] H) (
 False)) (
 G (nL Φ a0 W b a Q) [P] H) (
 False)
noncomputable def Ij:aF:=A C ⟨183,[],[],none,[],[]⟩
def f184(Φ:ae)(a0:I)(H:AH)(Q:ad):Prop:=
 Do (M .geq a0 (J 64)) λa=>
 Gd a true (
 Q (bP 18446744073709551615) H) (
 Do (M .shl (bP 1) a0) λb=>
 Do (M .sub b (bP 1)) λc=>
 Q c H)
noncomputable def Ik:aF:=A C ⟨184,[],[],none,[],[]⟩
def wq(Φ:ae)(a0 m n o p q:I)(Q:ad):BT:=λb r=>
 Do (M .lss (D b.1 0) q) λs=>
 Gd s true (
 Do (aG none 2 p (D b.1 0)) λt=>
 Do (Z b.2 2 true t) λu=>
 au (some (aK b.2 true [O,O])) λc v=>
 Do (Y v 2 c u) λw=>
Φ 128 [(J 5)] w λx y=>
 au (some (aK y true [O,O,O,O,O,O,bP 0,O,O,O,O,O,O])) λa z=>
 Do (Y z 13 a x) λd=>
 Do (aa 0 c) λh=>
 Do (Z d 1 false h) λi=>
 Do (dK .u64 i) λA=>
 Do (aa 1 c) λe=>
 Do (Z d 1 false e) λf=>
 Do (aa 3 a) λB=>
 Do (Y d 1 B m) λg=>
(Z g 1 false h=some i) ∧
(Z g 1 false e=some f) ∧
(Do (aa 6 a) λC=>
 Do (Y g 1 C A) λj=>
(Z j 1 false e=some f) ∧
(Do (aa 8 a) λE=>
 Do (Y j 1 E f) λF=>
 Do (aa 11 a) λG=>
 Do (Y F 1 G o) λk=>
 Do (aa 0 c) λH=>
 Do (Z k 1 false H) λK=>
 Do (M .mul (J 8) K) λL=>
 Do (dK .u64 L) λN=>
Φ 183 [a0,(J 8),n,N] k λP R=>
 Do (aa 4 a) λS=>
 Do (Y R 1 S P) λl=>
 Do (Z l 13 true a) λT=>
Φ 130 [a0,T] l λW U=>
 Do (M .add (D b.1 0) (J 1)) λV=>
 r ([V],U)))) (
 Q (.ar []) b.2)
def f185(Φ:ae)(a0 W b c d:I)(H:AH)(Q:ad):Prop:=
 au (aL H false 8 W) λe H2=>
 Do (Z H2 8 true e) λf=>
Φ 218 [f] H2 λa g=>
 Do (aU false a) λh=>
 av (wq Φ a0 b c d a h Q) ([O],g)
noncomputable def Il:aF:=A C ⟨185,[11,12],[[16]],none,[],[]⟩
def f186(Φ:ae)(a0:I)(H:AH)(Q:ad):Prop:=
 Do (aD a0) λb=>
 Do (aa 4 b) λc=>
 Do (Z H 1 false c) λd=>
 Do (M .add d (J 1)) λe=>
 Do (aD a0) λf=>
 Do (aa 4 f) λg=>
 Do (Y H 1 g e) λa=>
 Do (aD a0) λh=>
 Do (aa 4 h) λi=>
 Do (Z a 1 false i) λj=>
 Q j a
noncomputable def Im:aF:=A C ⟨186,[],[],none,[],[]⟩
def wt(Φ:ae)(a0 W b:I)(Q:ad):a:=λh d=>
 Do (aa 10 b) λe=>
 Do (Y d 1 e W) λc=>
 Do (Z c 13 true b) λf=>
Φ 130 [a0,f] c λi g=>
 Q (.ar []) g
def f187(Φ:ae)(a0 W b:I)(H:AH)(Q:ad):Prop:=
Φ 128 [(J 15)] H λd H2=>
 au (some (aK H2 true [O,O,O,O,O,O,bP 0,O,O,O,O,O,O])) λa e=>
 Do (Y e 13 a d) λc=>
 Do (M .neq b (J (-1))) λf=>
 Gd f true (
 Do (aa 0 a) λg=>
 Do (Y c 1 g (J 16)) λh=>
 Do (aa 3 a) λi=>
 Do (Y h 1 i b) λj=>
 G (wt Φ a0 W a Q) [] j) (
 G (wt Φ a0 W a Q) [] c)
noncomputable def Io:aF:=A C ⟨187,[6],[],none,[],[]⟩
def f188(Φ:ae)(a0 W:I)(H:AH)(Q:ad):Prop:=
Φ 128 [(J 14)] H λc H2=>
 au (some (aK H2 true [O,O,O,O,O,O,bP 0,O,O,O,O,O,O])) λa d=>
 Do (Y d 13 a c) λe=>
 Do (aa 10 a) λf=>
 Do (Y e 1 f W) λb=>
 Do (Z b 13 true a) λg=>
Φ 130 [a0,g] b λi h=>
 Q (.ar []) h
noncomputable def Ip:aF:=A C ⟨188,[4],[],none,[],[]⟩
end Rb.S

namespace Rb.S
open Go
open Go.Proofs.YtbomedgnnklgbaaGreatDoor.rb (C)
def Iq(Φ:ae)(a0 a2 a4:I)(Q:ad):a:=λb c=>
 Do (M .sub a2 (D b 0)) λd=>
Φ 219 [a0,d,a2,(D b 0),a4] c λf e=>
 Q (.ar []) e
def AR(Φ:ae)(a0 a2 a4:I)(Q:ad):BT:=λa b=>
 Do (M .neq (D a.1 0) (D a.1 1)) λc=>
 Gd c true (
 Do (M .gtr (D a.1 0) (D a.1 1)) λd=>
 Gd d true (
 Do (M .sub a2 (D a.1 0)) λe=>
Φ 219 [a0,e,a2,(D a.1 1),a4] a.2 λm f=>
 Do (M .sub (D a.1 0) (D a.1 1)) λg=>
 b ([g,(D a.1 1)],f)) (
 Do (M .sub a2 (D a.1 0)) λh=>
 Do (M .add a2 (D a.1 1)) λi=>
 Do (M .sub i (D a.1 0)) λj=>
Φ 219 [a0,h,j,(D a.1 0),a4] a.2 λn k=>
 Do (M .sub (D a.1 1) (D a.1 0)) λl=>
 b ([(D a.1 0),l],k))) (
 G (Iq Φ a0 a2 a4 Q) [(D a.1 0)] a.2)
def f189(Φ:ae)(a0 W a2 a3 a4:I)(H:AH)(Q:ad):Prop:=
 Do (M .sub a2 W) λa=>
 Do (M .sub a3 a2) λb=>
 av (AR Φ a0 a2 a4 Q) ([a,b],H)
noncomputable def Ir:aF:=A C ⟨189,[],[[10,11]],none,[],[]⟩
def wu(Φ:ae)(a0 W d:I)(Q:ad):BT:=λs2 e=>
 Do (M .lss (D s2.1 0) d) λf=>
 Gd f true (
 Do (aG none 1 a0 (D s2.1 0)) λg=>
 Do (Z s2.2 1 false g) λh=>
∃a b,W = .fn a b∧Φ (fJ a) (fK a [h] b) s2.2 λi c=>
 Gd i true (
 Q (D s2.1 0) c) (
 Do (M .add (D s2.1 0) (J 1)) λj=>
 e ([j],c))) (
 Q (J (-1)) s2.2)
def f200(Φ:ae)(a0 W:I)(H:AH)(Q:ad):Prop:=
 Do (aU false a0) λa=>
 av (wu Φ a0 W a Q) ([O],H)
noncomputable def Is:aF:=A C ⟨200,[],[[8]],none,[],[]⟩
def f212(Φ:ae)(a0 W:I)(H:AH)(Q:ad):Prop:=
 au (aL H false 9 a0) λa H2=>
 Do (aa 0 a) λb=>
 Do (Z H2 1 false b) λc=>
 Do (aa 0 W) λd=>
 Do (Z H2 1 false d) λe=>
 Do (M .eql c e) λf=>
 Q f H2
noncomputable def It:aF:=A C ⟨212,[],[],none,[],[]⟩
def nM(Φ:ae)(Q:ad):a:=λc b=>
 Gd (D c 0) true (
 Q (J 9) b) (
 Q O b)
def pG(Φ:ae)(c:I)(Q:ad):a:=λd b=>
 Gd (D d 0) true (
 Q (J 8) b) (
 Do (aa 7 c) λe=>
 Do (Z b 1 false e) λf=>
 aM f true (
 Do (aa 8 c) λg=>
 Do (Z b 1 false g) λh=>
 Do (M .lss h O) λi=>
 aM i false (
 Do (aa 8 c) λj=>
 Do (Z b 1 false j) λk=>
 Do (aa 1 c) λl=>
 Do (aa 1 l) λm=>
 Do (Z b 1 false m) λn=>
 Do (M .mul (J 8) n) λo=>
 Do (M .gtr k o) λp=>
 aM p false (
 Do (aa 8 c) λq=>
 Do (Z b 1 false q) λr=>
 Do (M .eql r O) λs=>
 aM s true (
 Do (aa 0 c) λt=>
 Do (Z b 1 false t) λu=>
 Do (M .neq u (.str [])) λv=>
 G (nM Φ Q) [v] b) (
 G (nM Φ Q) [P] b) (
 False)) (
 G (nM Φ Q) [bg] b) (
 False)) (
 G (nM Φ Q) [bg] b) (
 False)) (
 G (nM Φ Q) [P] b) (
 False))
def wv(Φ:ae)(d c:I)(Q:ad):a:=λe b=>
 aM (D e 0) false (
 Do (aa 7 c) λf=>
 Do (Z b 1 false f) λg=>
 aM g true (
 Do (aa 1 c) λh=>
 Do (aa 0 h) λi=>
 Do (Z b 1 false i) λj=>
 Do (M .neq j (J 1)) λk=>
 aM k false (
 Do (aa 2 d) λl=>
 Do (Z b 1 false l) λm=>
 G (pG Φ c Q) [m] b) (
 G (pG Φ c Q) [bg] b) (
 False)) (
 G (pG Φ c Q) [P] b) (
 False)) (
 G (pG Φ c Q) [bg] b) (
 False)
def AU(Φ:ae)(d b:I)(Q:ad):a:=λp e=>
 Do (aa 1 b) λg=>
 Do (Z e 6 true g) λh=>
Φ 115 [h] e λf c=>
 Do (M .neq f O) λi=>
 Gd i true (
 Q f c) (
 Do (aa 7 b) λj=>
 Do (Z c 1 false j) λk=>
 Do (cO .not k) λl=>
 aM l true (
 Do (aa 8 b) λm=>
 Do (Z c 1 false m) λn=>
 Do (M .neq n O) λo=>
 G (wv Φ d b Q) [o] c) (
 G (wv Φ d b Q) [P] c) (
 False))
def wx(Φ:ae)(c d:I)(Q:ad):a:=λe b=>
 Gd (D e 0) true (
 Q (J 7) b) (
 G (AU Φ c d Q) [] b)
def rj(Φ:ae)(W d c:I)(Q:ad):a:=λe b=>
 Gd (D e 0) true (
 Q (J 6) b) (
 Do (aa 0 c) λf=>
 Do (Z b 1 false f) λg=>
 Do (M .neq g (.str [])) λh=>
 aM h true (
 Do (aa 3 d) λi=>
 Do (Z b 1 false i) λj=>
 Do (c9 9 j none (some W) none) λk=>
Φ 118 [k,(.fn 237 [c])] b λl m=>
 G (wx Φ d c Q) [l] m) (
 G (wx Φ d c Q) [P] b) (
 False))
def f213(Φ:ae)(a0 W:I)(H:AH)(Q:ad):Prop:=
 au (aL H false 6 a0) λc H2=>
 Do (aa 3 c) λe=>
 Do (Z H2 1 false e) λf=>
 Do (aG none 9 f W) λg=>
 Do (Z H2 9 true g) λh=>
 au (some (aK H2 true [.str [],O,O,P,aw,O,aw,P,O])) λa i=>
 Do (Y i 9 a h) λd=>
 Do (aa 0 a) λj=>
 Do (Z d 1 false j) λk=>
Φ 21 [k] d λl b=>
 Do (cO .not l) λm=>
 aM m true (
 Do (aa 0 a) λn=>
 Do (Z b 1 false n) λo=>
 Do (M .neq o (.str [])) λp=>
 aM p false (
 Do (aa 7 a) λq=>
 Do (Z b 1 false q) λr=>
 Do (cO .not r) λs=>
 G (rj Φ W c a Q) [s] b) (
 G (rj Φ W c a Q) [bg] b) (
 False)) (
 G (rj Φ W c a Q) [P] b) (
 False)
noncomputable def Iu:aF:=A C ⟨213,[5],[],none,[],[]⟩
def f214(Φ:ae)(a0 W:I)(H:AH)(Q:ad):Prop:=
 au (aL H false 7 a0) λa H2=>
 Do (aa 0 a) λb=>
 Do (Z H2 1 false b) λc=>
 Do (aa 0 W) λd=>
 Do (Z H2 1 false d) λe=>
 Do (M .eql c e) λf=>
 Q f H2
noncomputable def Iw:aF:=A C ⟨214,[],[],none,[],[]⟩
def f215(Φ:ae)(a0 W:I)(H:AH)(Q:ad):Prop:=
 au (aL H false 9 a0) λa H2=>
 Do (aa 0 a) λb=>
 Do (Z H2 1 false b) λc=>
 Do (aa 0 W) λd=>
 Do (Z H2 1 false d) λe=>
 Do (M .eql c e) λf=>
 Q f H2
noncomputable def Ix:aF:=A C ⟨215,[],[],none,[],[]⟩
def Iy(Φ:ae)(f:I)(Q:ad):a:=λm b=>
 Do (Z b 6 true f) λg=>
Φ 120 [g] b λc h=>
 Do (aY 0 c) λi=>
 Do (aY 1 c) λn=>
 au (some (aK h true [O,O,aw,O])) λd j=>
 Do (Y j 4 d i) λe=>
 Do (aa 2 d) λk=>
 Do (Z e 1 false k) λl=>
 Q (.ar [l,O]) e
def wy(Φ:ae)(c:I)(Q:ad):a:=λd b=>
 Gd (D d 0) true (
 Q (.ar [aw,(J 8)]) b) (
 G (Iy Φ c Q) [] b)
def f216(Φ:ae)(a0:I)(H:AH)(Q:ad):Prop:=
 au (aL H false 6 a0) λa H2=>
 Do (Z H2 6 true a) λe=>
Φ 26 [e] H2 λc f=>
 Do (aY 0 c) λg=>
 Do (aY 1 c) λd=>
 au (some (aK f true [O,O])) λh i=>
 Do (Y i 2 h g) λb=>
 Do (M .neq d O) λj=>
 Gd j true (
 Q (.ar [aw,d]) b) (
 Do (aa 0 a) λk=>
 Do (Z b 1 false k) λl=>
 Do (M .neq l (J 3)) λm=>
 aM m true (
 Do (aa 0 a) λn=>
 Do (Z b 1 false n) λo=>
 Do (M .neq o (J 4)) λp=>
 G (wy Φ a Q) [p] b) (
 G (wy Φ a Q) [P] b) (
 False))
noncomputable def Iz:aF:=A C ⟨216,[4,6],[],none,[],[]⟩
def IA(Φ:ae)(b:ST)(c:LT)(Q:ad):a:=λf d=>
 Do (M .quo (D b.1 0) (J 2)) λe=>
 c ([e],d)
def wB(Φ:ae)(b:ST)(d:LT)(Q:ad):a:=λe c=>
 Gd (D e 0) true (
 G (IA Φ b d Q) [] c) (
 Q (D b.1 0) c)
def wC(Φ:ae)(a0:I)(Q:ad):BT:=λs1 a=>
 Do (M .gtr (D s1.1 0) (J 1)) λb=>
 aM b true (
 Do (M .rem a0 (D s1.1 0)) λc=>
 Do (M .neq c O) λd=>
 G (wB Φ s1 a Q) [d] s1.2) (
 G (wB Φ s1 a Q) [P] s1.2) (
 False)
def f217(Φ:ae)(a0 W:I)(H:AH)(Q:ad):Prop:=
 av (wC Φ a0 Q) ([W],H)
noncomputable def IB:aF:=A C ⟨217,[],[[1]],none,[],[]⟩
def wE(Φ:ae)(d e f:I)(Q:ad):BT:=λa g=>
 Do (M .lss (D a.1 1) f) λh=>
 Gd h true (
 Do (aG none 2 e (D a.1 1)) λi=>
 Do (Z a.2 2 true i) λj=>
 au (some (aK a.2 true [O,O])) λc k=>
 Do (Y k 2 c j) λb=>
 Do (aa 0 c) λl=>
 Do (Z b 1 false l) λm=>
 Do (aa 0 d) λn=>
 Do (aa 0 n) λo=>
 Do (aa 0 o) λp=>
 Do (Z b 1 false p) λq=>
 Do (M .sub m q) λr=>
 Do (aa 1 c) λs=>
 Do (Z b 1 false s) λt=>
 Do (aB [O,O] [(0,1,r),(1,1,t)]) λu=>
 au (b8 b false 2 1 [O,O] [(0,2,u)]) λv w=>
 au (bH w false 2 16 (D a.1 0) v) λx y=>
 Do (M .add (D a.1 1) (J 1)) λz=>
 g ([x,z],y)) (
 Q (D a.1 0) a.2)
def IC(Φ:ae)(b:ST)(d:LT)(Q:ad):a:=λc e=>
 Do (aB [O,O] [(0,1,(D b.1 1)),(1,1,(D c 0))]) λf=>
 au (b8 e false 2 1 [O,O] [(0,2,f)]) λg h=>
 au (bH h false 2 16 (D b.1 0) g) λi j=>
 Do (M .add (D b.1 1) (D c 0)) λk=>
 d ([i,k],j)
def AW(Φ:ae)(c:I)(b:ST)(d:LT)(Q:ad):BT:=λa e=>
 Do (aa 0 c) λf=>
 Do (aa 0 f) λg=>
 Do (aa 1 g) λh=>
 Do (Z a.2 1 false h) λi=>
 Do (M .sub i (D b.1 1)) λj=>
 Do (M .gtr (D a.1 0) j) λk=>
 Gd k true (
 Do (M .quo (D a.1 0) (J 2)) λl=>
 e ([l],a.2)) (
 G (IC Φ b d Q) [(D a.1 0)] a.2)
def wF(Φ:ae)(b:I)(Q:ad):BT:=λa c=>
 Do (aa 0 b) λd=>
 Do (aa 0 d) λe=>
 Do (aa 1 e) λf=>
 Do (Z a.2 1 false f) λg=>
 Do (M .lss (D a.1 1) g) λh=>
 Gd h true (
 Do (aa 7 b) λi=>
 Do (Z a.2 1 false i) λj=>
 Do (eP false [j,(J 8)]) λk=>
Φ 217 [(D a.1 1),k] a.2 λl m=>
 av (AW Φ b a c Q) ([l],m)) (
 Q (D a.1 0) a.2)
def f218(Φ:ae)(a0:I)(H:AH)(Q:ad):Prop:=
 au (aL H false 8 a0) λa H2=>
 Do (aa 6 a) λc=>
 Do (Z H2 1 false c) λd=>
 Do (M .eql d (J (-1))) λe=>
 Gd e true (
 Do (aa 0 a) λf=>
 Do (aa 0 f) λg=>
 Do (Z H2 2 true g) λh=>
Φ 238 [h] H2 λb i=>
 Do (aU false b) λj=>
 av (wE Φ a b j Q) ([aw,O],i)) (
 av (wF Φ a Q) ([aw,O],H2))
noncomputable def ID:aF:=A C ⟨218,[5],[[3,16],[3,6],[7]],none,[],[]⟩
def wG(Φ:ae)(a0 W a2 a3:I)(Q:ad):BT:=λs1 a=>
 Do (M .lss (D s1.1 0) a3) λb=>
 Gd b true (
 Do (M .add W (D s1.1 0)) λc=>
 Do (M .add a2 (D s1.1 0)) λd=>
 Do (M .add a2 (D s1.1 0)) λe=>
 Do (aG none 3 a0 e) λf=>
 Do (Z s1.2 3 true f) λg=>
 Do (M .add W (D s1.1 0)) λh=>
 Do (aG none 3 a0 h) λi=>
 Do (Z s1.2 3 true i) λj=>
 Do (aG none 3 a0 c) λk=>
 Do (Y s1.2 3 k g) λl=>
 Do (aG none 3 a0 d) λm=>
 Do (Y l 3 m j) λn=>
 Do (M .add (D s1.1 0) (J 1)) λo=>
 a ([o],n)) (
 Q (.ar []) s1.2)
def f219(Φ:ae)(a0 W a2 a3 a4:I)(H:AH)(Q:ad):Prop:=
 av (wG Φ a0 W a2 a3 Q) ([O],H)
noncomputable def IE:aF:=A C ⟨219,[],[[10]],none,[],[]⟩
def f237(Φ:ae)(a0 W:I)(H:AH)(Q:ad):Prop:=
 au (aL H false 9 a0) λa H2=>
 Do (aa 0 a) λb=>
 Do (Z H2 1 false b) λc=>
 Do (aa 0 W) λd=>
 Do (Z H2 1 false d) λe=>
 Do (M .eql c e) λf=>
 Q f H2
noncomputable def IF:aF:=A C ⟨237,[],[],none,[],[]⟩
def IG(Φ:ae)(b:ST)(c:LT)(Q:ad):a:=λf d=>
 Do (M .quo (D b.1 0) (J 2)) λe=>
 c ([e],d)
def IH(Φ:ae)(b:I)(g:ST)(h:LT)(Q:ad):a:=λc d=>
 Do (aa 0 b) λi=>
 Do (Z d 1 false i) λj=>
 Do (aB [O,O] [(0,1,j),(1,1,(D c 0))]) λk=>
 au (b8 d false 2 1 [O,O] [(0,2,k)]) λl m=>
 au (bH m false 2 16 (D g.1 0) l) λn e=>
 Do (aa 0 b) λo=>
 Do (Z e 1 false o) λp=>
 Do (M .add p (D c 0)) λq=>
 Do (aa 0 b) λr=>
 Do (Y e 1 r q) λf=>
 Do (aa 1 b) λs=>
 Do (Z f 1 false s) λt=>
 Do (M .sub t (D c 0)) λu=>
 Do (aa 1 b) λv=>
 Do (Y f 1 v u) λw=>
 h ([n],w)
def wH(Φ:ae)(d:I)(e:ST)(f:LT)(b:ST)(g:LT)(Q:ad):a:=λh c=>
 Gd (D h 0) true (
 G (IG Φ b g Q) [] c) (
 G (IH Φ d e f Q) [(D b.1 0)] c)
def wI(Φ:ae)(b:I)(c:ST)(d:LT)(Q:ad):BT:=λa e=>
 Do (aa 1 b) λf=>
 Do (Z a.2 1 false f) λg=>
 Do (M .gtr (D a.1 0) g) λh=>
 aM h false (
 Do (aa 0 b) λi=>
 Do (Z a.2 1 false i) λj=>
 Do (M .rem j (D a.1 0)) λk=>
 Do (M .neq k O) λl=>
 G (wH Φ b c d a e Q) [l] a.2) (
 G (wH Φ b c d a e Q) [bg] a.2) (
 False)
def pH(Φ:ae)(b:I)(Q:ad):BT:=λa c=>
 Do (aa 1 b) λd=>
 Do (Z a.2 1 false d) λe=>
 Do (M .gtr e O) λf=>
 Gd f true (
 av (wI Φ b a c Q) ([(J 8)],a.2)) (
 Q (D a.1 0) a.2)
def AX(Φ:ae)(b:I)(Q:ad):a:=λd c=>
 av (pH Φ b Q) ([aw],c)
def wJ(Φ:ae)(c:I)(Q:ad):a:=λd b=>
 Gd (D d 0) true (
 Q aw b) (
 G (AX Φ c Q) [] b)
def pI(Φ:ae)(b:I)(Q:ad):a:=λd c=>
 aM (D d 0) false (
 Do (aa 0 b) λe=>
 Do (Z c 1 false e) λf=>
 Do (aa 1 b) λg=>
 Do (Z c 1 false g) λh=>
 Do (M .add f h) λi=>
 Do (M .gtr i (J 1099511627776)) λj=>
 G (wJ Φ b Q) [j] c) (
 G (wJ Φ b Q) [bg] c) (
 False)
def f238(Φ:ae)(a0:I)(H:AH)(Q:ad):Prop:=
 au (aL H true 2 a0) λa H2=>
 Do (Z H2 2 true a) λc=>
Φ 245 [c] H2 λd b=>
 Do (cO .not d) λe=>
 aM e false (
 Do (aa 1 a) λf=>
 Do (Z b 1 false f) λg=>
 Do (M .gtr g (J 64)) λh=>
 G (pI Φ a Q) [h] b) (
 G (pI Φ a Q) [bg] b) (
 False)
noncomputable def II:aF:=A C ⟨238,[1],[[3],[4]],none,[],[]⟩
def AY(Φ:ae)(c:I)(Q:ad):a:=λd b=>
 aM (D d 0) true (
 Do (aa 1 c) λe=>
 Do (Z b 1 false e) λf=>
 Do (M .leq f (J 1048576)) λg=>
 Q g b) (
 Q P b) (
 False)
def AZ(Φ:ae)(b:I)(Q:ad):a:=λd c=>
 aM (D d 0) true (
 Do (aa 1 b) λe=>
 Do (Z c 1 false e) λf=>
 Do (M .geq f O) λg=>
 G (AY Φ b Q) [g] c) (
 G (AY Φ b Q) [P] c) (
 False)
def f245(Φ:ae)(a0:I)(H:AH)(Q:ad):Prop:=
 au (aL H false 2 a0) λa H2=>
 Do (aa 0 a) λb=>
 Do (Z H2 1 false b) λc=>
 Do (M .geq c O) λd=>
 aM d true (
 Do (aa 0 a) λe=>
 Do (Z H2 1 false e) λf=>
 Do (M .leq f (J 1099511627776)) λg=>
 G (AZ Φ a Q) [g] H2) (
 G (AZ Φ a Q) [P] H2) (
 False)
noncomputable def IJ:aF:=A C ⟨245,[],[],none,[],[]⟩
def f275(Φ:ae)(a0:I)(H:AH)(Q:ad):Prop:=
 Do (aU false a0) λa=>
 Q a H
noncomputable def IK:aF:=A C ⟨275,[],[],none,[],[]⟩
def f276(Φ:ae)(a0 W a2:I)(H:AH)(Q:ad):Prop:=
 Do (aG none 2 a0 W) λa=>
 Do (aa 0 a) λb=>
 Do (Z H 1 false b) λc=>
 Do (aG none 2 a0 a2) λd=>
 Do (aa 0 d) λe=>
 Do (Z H 1 false e) λf=>
 Do (M .lss c f) λg=>
 Q g H
noncomputable def IL:aF:=A C ⟨276,[],[],none,[],[]⟩
def f277(Φ:ae)(a0 W a2:I)(H:AH)(Q:ad):Prop:=
 Do (aG none 2 a0 a2) λa=>
 Do (Z H 2 true a) λb=>
 Do (aG none 2 a0 W) λc=>
 Do (Z H 2 true c) λd=>
 Do (aG none 2 a0 W) λe=>
 Do (Y H 2 e b) λf=>
 Do (aG none 2 a0 a2) λg=>
 Do (Y f 2 g d) λh=>
 Q (.ar []) h
noncomputable def IM:aF:=A C ⟨277,[],[],none,[],[]⟩
def f278(Φ:ae)(a0:I)(H:AH)(Q:ad):Prop:=
 Do (aD a0) λc=>
 Do (Z H 1 false c) λa=>
 Do (aU false a) λd=>
 Do (M .sub d (J 1)) λe=>
 Do (c9 2 a none (some e) none) λf=>
 Do (aD a0) λg=>
 Do (Y H 1 g f) λb=>
 Do (aU false a) λh=>
 Do (M .sub h (J 1)) λi=>
 Do (aG none 2 a i) λj=>
 Do (Z b 2 true j) λk=>
 Q (.iface 181 k) b
noncomputable def IP:aF:=A C ⟨278,[],[],none,[],[]⟩
def f279(Φ:ae)(a0 W:I)(H:AH)(Q:ad):Prop:=
 Do (aD a0) λa=>
 Do (Z H 1 false a) λb=>
 au (c7 H (.kB 181) [W]) λd c=>
(Z c 1 false a=some b) ∧
(au (b8 c false 2 1 [O,O] [(0,2,d)]) λe f=>
 au (bH f true 2 16 b e) λg h=>
 Do (aD a0) λi=>
 Do (Y h 1 i g) λj=>
 Q (.ar []) j)
noncomputable def IQ:aF:=A C ⟨279,[11],[],none,[],[]⟩
noncomputable def ba:ha:=[
  (3,E7),
  (4,E9),
  (5,Qi),
  (6,Fa),
  (7,Fe),
  (8,Fg),
  (9,Qj),
  (10,Fi),
  (11,Fl),
  (12,Fp),
  (13,Fq),
  (14,Fs),
  (15,Fu),
  (16,Fw),
  (17,FA),
  (18,FE),
  (19,FG),
  (21,FI),
  (22,FJ),
  (23,FL),
  (24,FM),
  (25,FN),
  (26,FO),
  (27,FQ),
  (28,FR),
  (29,FT),
  (30,FU),
  (31,FV),
  (32,FW),
  (33,FY),
  (34,FZ),
  (35,F1),
  (36,F2),
  (37,F3),
  (38,F4),
  (39,F5),
  (40,F6),
  (41,F7),
  (42,F8),
  (43,F9),
  (44,F_),
  (45,Gb),
  (46,Gc),
  (47,Ge),
  (48,Gf),
  (56,Gg),
  (57,Gh),
  (59,Gi),
  (60,Gj),
  (61,Gk),
  (62,Gm),
  (63,Gn),
  (64,Gq),
  (65,Gr),
  (66,Gs),
  (67,Gt),
  (68,Gv),
  (69,Gw),
  (70,Gx),
  (71,Gy),
  (72,Gz),
  (74,GA),
  (75,GB),
  (76,GC),
  (77,GD),
  (78,GG),
  (79,GH),
  (80,GI),
  (81,GJ),
  (82,GK),
  (83,GL),
  (84,GM),
  (85,GN),
  (86,GO),
  (87,GP),
  (88,GQ),
  (89,GU),
  (90,GV),
  (91,GW),
  (92,GX),
  (93,GY),
  (106,GZ),
  (109,G2),
  (110,G3),
  (111,G5),
  (112,G7),
  (113,G8),
  (114,G9),
  (115,Ha),
  (116,Hb),
  (117,Hc),
  (118,Hd),
  (119,He),
  (120,Hh),
  (121,Hi),
  (122,Hj),
  (123,Hk),
  (124,Hl),
  (125,Hm),
  (126,Hn),
  (127,Ho),
  (128,Hp),
  (129,Hq),
  (130,Hr),
  (131,Hs),
  (132,Ht),
  (133,Hv),
  (134,Hw),
  (135,Hy),
  (138,HA),
  (139,HC),
  (140,HD),
  (141,HF),
  (142,HG),
  (143,HH),
  (144,HI),
  (145,HJ),
  (146,HK),
  (147,HL),
  (148,HM),
  (149,HN),
  (150,HO),
  (151,HP),
  (161,HQ),
  (162,HS),
  (163,HT),
  (164,HU),
  (165,HV),
  (166,HW),
  (167,HY),
  (168,HZ),
  (169,H3),
  (170,H4),
  (171,H5),
  (172,H6),
  (173,H7),
  (174,H8),
  (175,H9),
  (176,H_),
  (177,Ia),
  (178,Ib),
  (179,Ic),
  (180,Ig),
  (181,Ih),
  (182,Ii),
  (183,Ij),
  (184,Ik),
  (185,Il),
  (186,Im),
  (187,Io),
  (188,Ip),
  (189,Ir),
  (200,Is),
  (212,It),
  (213,Iu),
  (214,Iw),
  (215,Ix),
  (216,Iz),
  (217,IB),
  (218,ID),
  (219,IE),
  (237,IF),
  (238,II),
  (245,IJ),
  (275,IK),
  (276,IL),
  (277,IM),
  (278,IP),
  (279,IQ)]
section
variable{Φ:ae}(hT:Cl Φ ba){a0 W a2 a3 a4 a5 a6 a7 a8 a9 Zy Zz:I}{H:AH}{Q:ad}
include hT
theorem Qn(h:f3 Φ a0 H Q):Φ 3 [a0] H Q:=hT.c (f:=E7) h
theorem IU(h:f4 Φ a0 H Q):Φ 4 [a0] H Q:=hT.c (f:=E9) h
theorem Qo(h:f6 Φ a0 H Q):Φ 6 [a0] H Q:=hT.c (f:=Fa) h
theorem Qp(h:f7 Φ a0 H Q):Φ 7 [a0] H Q:=hT.c (f:=Fe) h
theorem Qq(h:f8 Φ a0 W a2 H Q):Φ 8 [a0,W,a2] H Q:=hT.c (f:=Fg) h
theorem Qr(h:f10 Φ a0 W H Q):Φ 10 [a0,W] H Q:=hT.c (f:=Fi) h
theorem Qs(h:f11 Φ a0 H Q):Φ 11 [a0] H Q:=hT.c (f:=Fl) h
theorem Qt(h:f12 Φ a0 W a2 H Q):Φ 12 [a0,W,a2] H Q:=hT.c (f:=Fp) h
theorem nN(h:f13 Φ a0 H Q):Φ 13 [a0] H Q:=hT.c (f:=Fq) h
theorem Qu(h:f14 Φ a0 H Q):Φ 14 [a0] H Q:=hT.c (f:=Fs) h
theorem Qv(h:f15 Φ a0 W H Q):Φ 15 [a0,W] H Q:=hT.c (f:=Fu) h
theorem Qw(h:f16 Φ a0 W a2 H Q):Φ 16 [a0,W,a2] H Q:=hT.c (f:=Fw) h
theorem Qx(h:f17 Φ a0 W H Q):Φ 17 [a0,W] H Q:=hT.c (f:=FA) h
theorem Qy(h:f18 Φ a0 W a2 H Q):Φ 18 [a0,W,a2] H Q:=hT.c (f:=FE) h
theorem Qz(h:f19 Φ a0 H Q):Φ 19 [a0] H Q:=hT.c (f:=FG) h
theorem QA(h:f21 Φ a0 H Q):Φ 21 [a0] H Q:=hT.c (f:=FI) h
theorem QB(h:f22 Φ a0 H Q):Φ 22 [a0] H Q:=hT.c (f:=FJ) h
theorem QC(h:f23 Φ a0 W H Q):Φ 23 [a0,W] H Q:=hT.c (f:=FL) h
theorem QD(h:f24 Φ a0 W H Q):Φ 24 [a0,W] H Q:=hT.c (f:=FM) h
theorem QE(h:f25 Φ a0 W a2 H Q):Φ 25 [a0,W,a2] H Q:=hT.c (f:=FN) h
theorem IW(h:f26 Φ a0 H Q):Φ 26 [a0] H Q:=hT.c (f:=FO) h
theorem QF(h:f27 Φ a0 W H Q):Φ 27 [a0,W] H Q:=hT.c (f:=FQ) h
theorem QG(h:f28 Φ a0 H Q):Φ 28 [a0] H Q:=hT.c (f:=FR) h
theorem IX(h:f29 Φ a0 W H Q):Φ 29 [a0,W] H Q:=hT.c (f:=FT) h
theorem QH(h:f30 Φ a0 W H Q):Φ 30 [a0,W] H Q:=hT.c (f:=FU) h
theorem QI(h:f31 Φ a0 H Q):Φ 31 [a0] H Q:=hT.c (f:=FV) h
theorem QJ(h:f32 Φ a0 W H Q):Φ 32 [a0,W] H Q:=hT.c (f:=FW) h
theorem QK(h:f33 Φ a0 W H Q):Φ 33 [a0,W] H Q:=hT.c (f:=FY) h
theorem QL(h:f34 Φ a0 W H Q):Φ 34 [a0,W] H Q:=hT.c (f:=FZ) h
theorem QM(h:f35 Φ a0 H Q):Φ 35 [a0] H Q:=hT.c (f:=F1) h
theorem QN(h:f36 Φ a0 H Q):Φ 36 [a0] H Q:=hT.c (f:=F2) h
theorem QO(h:f37 Φ a0 H Q):Φ 37 [a0] H Q:=hT.c (f:=F3) h
theorem QP(h:f38 Φ a0 H Q):Φ 38 [a0] H Q:=hT.c (f:=F4) h
theorem QQ(h:f39 Φ a0 W H Q):Φ 39 [a0,W] H Q:=hT.c (f:=F5) h
theorem QR(h:f40 Φ a0 W a2 H Q):Φ 40 [a0,W,a2] H Q:=hT.c (f:=F6) h
theorem QS(h:f41 Φ a0 W H Q):Φ 41 [a0,W] H Q:=hT.c (f:=F7) h
theorem QT(h:f42 Φ a0 W H Q):Φ 42 [a0,W] H Q:=hT.c (f:=F8) h
theorem QU(h:f43 Φ a0 H Q):Φ 43 [a0] H Q:=hT.c (f:=F9) h
theorem QV(h:f44 Φ a0 H Q):Φ 44 [a0] H Q:=hT.c (f:=F_) h
theorem QW(h:f45 Φ a0 W H Q):Φ 45 [a0,W] H Q:=hT.c (f:=Gb) h
theorem QX(h:f46 Φ a0 W H Q):Φ 46 [a0,W] H Q:=hT.c (f:=Gc) h
theorem QY(h:f47 Φ a0 H Q):Φ 47 [a0] H Q:=hT.c (f:=Ge) h
theorem QZ(h:f48 Φ a0 W a2 H Q):Φ 48 [a0,W,a2] H Q:=hT.c (f:=Gf) h
theorem IY(h:f56 Φ a0 H Q):Φ 56 [a0] H Q:=hT.c (f:=Gg) h
theorem Q0(h:f57 Φ a0 W H Q):Φ 57 [a0,W] H Q:=hT.c (f:=Gh) h
theorem A0(h:f59 Φ a0 W H Q):Φ 59 [a0,W] H Q:=hT.c (f:=Gi) h
theorem Q1(h:f60 Φ a0 W a2 H Q):Φ 60 [a0,W,a2] H Q:=hT.c (f:=Gj) h
theorem Q2(h:f61 Φ a0 H Q):Φ 61 [a0] H Q:=hT.c (f:=Gk) h
theorem Q3(h:f62 Φ a0 W H Q):Φ 62 [a0,W] H Q:=hT.c (f:=Gm) h
theorem Q4(h:f63 Φ a0 W H Q):Φ 63 [a0,W] H Q:=hT.c (f:=Gn) h
theorem Q5(h:f64 Φ a0 W a2 a3 H Q):Φ 64 [a0,W,a2,a3] H Q:=hT.c (f:=Gq) h
theorem Q6(h:f65 Φ a0 W a2 H Q):Φ 65 [a0,W,a2] H Q:=hT.c (f:=Gr) h
theorem Q7(h:f66 Φ a0 H Q):Φ 66 [a0] H Q:=hT.c (f:=Gs) h
theorem Q8(h:f67 Φ a0 H Q):Φ 67 [a0] H Q:=hT.c (f:=Gt) h
theorem Q9(h:f68 Φ a0 H Q):Φ 68 [a0] H Q:=hT.c (f:=Gv) h
theorem Q_(h:f69 Φ a0 W H Q):Φ 69 [a0,W] H Q:=hT.c (f:=Gw) h
theorem IZ(h:f70 Φ a0 W a2 H Q):Φ 70 [a0,W,a2] H Q:=hT.c (f:=Gx) h
theorem Rc(h:f71 Φ a0 H Q):Φ 71 [a0] H Q:=hT.c (f:=Gy) h
theorem Re(h:f72 Φ a0 H Q):Φ 72 [a0] H Q:=hT.c (f:=Gz) h
theorem Rf(h:f74 Φ a0 W H Q):Φ 74 [a0,W] H Q:=hT.c (f:=GA) h
theorem Rh(h:f75 Φ a0 W H Q):Φ 75 [a0,W] H Q:=hT.c (f:=GB) h
theorem Ri(h:f76 Φ a0 W H Q):Φ 76 [a0,W] H Q:=hT.c (f:=GC) h
theorem Rj(h:f77 Φ a0 H Q):Φ 77 [a0] H Q:=hT.c (f:=GD) h
theorem Rk(h:f78 Φ a0 W H Q):Φ 78 [a0,W] H Q:=hT.c (f:=GG) h
theorem Rl(h:f79 Φ a0 W a2 H Q):Φ 79 [a0,W,a2] H Q:=hT.c (f:=GH) h
theorem Rm(h:f80 Φ a0 W a2 H Q):Φ 80 [a0,W,a2] H Q:=hT.c (f:=GI) h
theorem Rn(h:f81 Φ a0 W a2 H Q):Φ 81 [a0,W,a2] H Q:=hT.c (f:=GJ) h
theorem Ro(h:f82 Φ a0 W a2 H Q):Φ 82 [a0,W,a2] H Q:=hT.c (f:=GK) h
theorem Rq(h:f83 Φ a0 W H Q):Φ 83 [a0,W] H Q:=hT.c (f:=GL) h
theorem Rr(h:f84 Φ a0 W H Q):Φ 84 [a0,W] H Q:=hT.c (f:=GM) h
theorem Rs(h:f85 Φ a0 W H Q):Φ 85 [a0,W] H Q:=hT.c (f:=GN) h
theorem Rt(h:f86 Φ a0 W H Q):Φ 86 [a0,W] H Q:=hT.c (f:=GO) h
theorem Ru(h:f87 Φ a0 W H Q):Φ 87 [a0,W] H Q:=hT.c (f:=GP) h
theorem Rv(h:f88 Φ a0 W H Q):Φ 88 [a0,W] H Q:=hT.c (f:=GQ) h
theorem Rx(h:f89 Φ a0 W a2 H Q):Φ 89 [a0,W,a2] H Q:=hT.c (f:=GU) h
theorem Ry(h:f90 Φ a0 W H Q):Φ 90 [a0,W] H Q:=hT.c (f:=GV) h
theorem Rz(h:f91 Φ a0 W H Q):Φ 91 [a0,W] H Q:=hT.c (f:=GW) h
theorem RA(h:f92 Φ a0 H Q):Φ 92 [a0] H Q:=hT.c (f:=GX) h
theorem RB(h:f93 Φ H Q):Φ 93 [] H Q:=hT.c (f:=GY) h
theorem RC(h:f106 Φ a0 W H Q):Φ 106 [a0,W] H Q:=hT.c (f:=GZ) h
theorem RD(h:f109 Φ a0 H Q):Φ 109 [a0] H Q:=hT.c (f:=G2) h
theorem I0(h:f110 Φ a0 H Q):Φ 110 [a0] H Q:=hT.c (f:=G3) h
theorem RE(h:f111 Φ a0 W H Q):Φ 111 [a0,W] H Q:=hT.c (f:=G5) h
theorem RF(h:f112 Φ a0 W H Q):Φ 112 [a0,W] H Q:=hT.c (f:=G7) h
theorem RG(h:f113 Φ a0 W a2 H Q):Φ 113 [a0,W,a2] H Q:=hT.c (f:=G8) h
theorem RH(h:f114 Φ a0 H Q):Φ 114 [a0] H Q:=hT.c (f:=G9) h
theorem RJ(h:f115 Φ a0 H Q):Φ 115 [a0] H Q:=hT.c (f:=Ha) h
theorem RK(h:f116 Φ a0 H Q):Φ 116 [a0] H Q:=hT.c (f:=Hb) h
theorem RL(h:f117 Φ a0 W H Q):Φ 117 [a0,W] H Q:=hT.c (f:=Hc) h
theorem RM(h:f118 Φ a0 W H Q):Φ 118 [a0,W] H Q:=hT.c (f:=Hd) h
theorem RN(h:f119 Φ a0 H Q):Φ 119 [a0] H Q:=hT.c (f:=He) h
theorem I1(h:f120 Φ a0 H Q):Φ 120 [a0] H Q:=hT.c (f:=Hh) h
theorem RO(h:f121 Φ a0 W H Q):Φ 121 [a0,W] H Q:=hT.c (f:=Hi) h
theorem RP(h:f122 Φ a0 H Q):Φ 122 [a0] H Q:=hT.c (f:=Hj) h
theorem RQ(h:f123 Φ a0 W a2 H Q):Φ 123 [a0,W,a2] H Q:=hT.c (f:=Hk) h
theorem RR(h:f124 Φ a0 W H Q):Φ 124 [a0,W] H Q:=hT.c (f:=Hl) h
theorem RT(h:f125 Φ a0 W a2 H Q):Φ 125 [a0,W,a2] H Q:=hT.c (f:=Hm) h
theorem RU(h:f126 Φ a0 W H Q):Φ 126 [a0,W] H Q:=hT.c (f:=Hn) h
theorem RV(h:f127 Φ a0 W H Q):Φ 127 [a0,W] H Q:=hT.c (f:=Ho) h
theorem RW(h:f128 Φ a0 H Q):Φ 128 [a0] H Q:=hT.c (f:=Hp) h
theorem RX(h:f129 Φ a0 W a2 a3 H Q):Φ 129 [a0,W,a2,a3] H Q:=hT.c (f:=Hq) h
theorem RY(h:f130 Φ a0 W H Q):Φ 130 [a0,W] H Q:=hT.c (f:=Hr) h
theorem RZ(h:f131 Φ a0 W H Q):Φ 131 [a0,W] H Q:=hT.c (f:=Hs) h
theorem R0(h:f132 Φ a0 W H Q):Φ 132 [a0,W] H Q:=hT.c (f:=Ht) h
theorem I2(h:f133 Φ a0 W a2 a3 H Q):Φ 133 [a0,W,a2,a3] H Q:=hT.c (f:=Hv) h
theorem R1(h:f134 Φ a0 W a2 a3 a4 H Q):Φ 134 [a0,W,a2,a3,a4] H Q:=hT.c (f:=Hw) h
theorem R2(h:f135 Φ a0 W a2 H Q):Φ 135 [a0,W,a2] H Q:=hT.c (f:=Hy) h
theorem R3(h:f138 Φ a0 W H Q):Φ 138 [a0,W] H Q:=hT.c (f:=HA) h
theorem R4(h:f139 Φ a0 W H Q):Φ 139 [a0,W] H Q:=hT.c (f:=HC) h
theorem R5(h:f140 Φ a0 H Q):Φ 140 [a0] H Q:=hT.c (f:=HD) h
theorem R6(h:f141 Φ a0 W H Q):Φ 141 [a0,W] H Q:=hT.c (f:=HF) h
theorem R7(h:f142 Φ a0 W a2 H Q):Φ 142 [a0,W,a2] H Q:=hT.c (f:=HG) h
theorem R8(h:f143 Φ a0 H Q):Φ 143 [a0] H Q:=hT.c (f:=HH) h
theorem R9(h:f144 Φ a0 H Q):Φ 144 [a0] H Q:=hT.c (f:=HI) h
theorem R_(h:f145 Φ a0 W H Q):Φ 145 [a0,W] H Q:=hT.c (f:=HJ) h
theorem Sa(h:f146 Φ a0 W a2 H Q):Φ 146 [a0,W,a2] H Q:=hT.c (f:=HK) h
theorem Sb(h:f147 Φ a0 H Q):Φ 147 [a0] H Q:=hT.c (f:=HL) h
theorem Sc(h:f148 Φ a0 H Q):Φ 148 [a0] H Q:=hT.c (f:=HM) h
theorem Sd(h:f149 Φ a0 H Q):Φ 149 [a0] H Q:=hT.c (f:=HN) h
theorem Se(h:f150 Φ a0 W H Q):Φ 150 [a0,W] H Q:=hT.c (f:=HO) h
theorem Sf(h:f151 Φ a0 H Q):Φ 151 [a0] H Q:=hT.c (f:=HP) h
theorem Sg(h:f161 Φ a0 W H Q):Φ 161 [a0,W] H Q:=hT.c (f:=HQ) h
theorem Sh(h:f162 Φ a0 W H Q):Φ 162 [a0,W] H Q:=hT.c (f:=HS) h
theorem Si(h:f163 Φ a0 H Q):Φ 163 [a0] H Q:=hT.c (f:=HT) h
theorem Sj(h:f164 Φ a0 W H Q):Φ 164 [a0,W] H Q:=hT.c (f:=HU) h
theorem Sk(h:f165 Φ a0 H Q):Φ 165 [a0] H Q:=hT.c (f:=HV) h
theorem I3(h:f166 Φ a0 W H Q):Φ 166 [a0,W] H Q:=hT.c (f:=HW) h
theorem Sl(h:f167 Φ a0 H Q):Φ 167 [a0] H Q:=hT.c (f:=HY) h
theorem Sm(h:f168 Φ a0 H Q):Φ 168 [a0] H Q:=hT.c (f:=HZ) h
theorem Sn(h:f169 Φ a0 W H Q):Φ 169 [a0,W] H Q:=hT.c (f:=H3) h
theorem A1(h:f170 Φ a0 W H Q):Φ 170 [a0,W] H Q:=hT.c (f:=H4) h
theorem Sp(h:f171 Φ a0 W a2 H Q):Φ 171 [a0,W,a2] H Q:=hT.c (f:=H5) h
theorem Sq(h:f172 Φ a0 W H Q):Φ 172 [a0,W] H Q:=hT.c (f:=H6) h
theorem pJ(h:f173 Φ a0 W H Q):Φ 173 [a0,W] H Q:=hT.c (f:=H7) h
theorem Sr(h:f174 Φ a0 W H Q):Φ 174 [a0,W] H Q:=hT.c (f:=H8) h
theorem Ss(h:f175 Φ a0 W a2 a3 H Q):Φ 175 [a0,W,a2,a3] H Q:=hT.c (f:=H9) h
theorem Su(h:f176 Φ a0 W H Q):Φ 176 [a0,W] H Q:=hT.c (f:=H_) h
theorem Sv(h:f177 Φ a0 W H Q):Φ 177 [a0,W] H Q:=hT.c (f:=Ia) h
theorem Sw(h:f178 Φ a0 W H Q):Φ 178 [a0,W] H Q:=hT.c (f:=Ib) h
theorem Sx(h:f179 Φ a0 W H Q):Φ 179 [a0,W] H Q:=hT.c (f:=Ic) h
theorem Sy(h:f180 Φ a0 W H Q):Φ 180 [a0,W] H Q:=hT.c (f:=Ig) h
theorem Sz(h:f181 Φ a0 W H Q):Φ 181 [a0,W] H Q:=hT.c (f:=Ih) h
theorem SA(h:f182 Φ a0 W a2 a3 H Q):Φ 182 [a0,W,a2,a3] H Q:=hT.c (f:=Ii) h
theorem SB(h:f183 Φ a0 W a2 a3 H Q):Φ 183 [a0,W,a2,a3] H Q:=hT.c (f:=Ij) h
theorem SC(h:f184 Φ a0 H Q):Φ 184 [a0] H Q:=hT.c (f:=Ik) h
theorem SD(h:f185 Φ a0 W a2 a3 a4 H Q):Φ 185 [a0,W,a2,a3,a4] H Q:=hT.c (f:=Il) h
theorem SE(h:f186 Φ a0 H Q):Φ 186 [a0] H Q:=hT.c (f:=Im) h
theorem SF(h:f187 Φ a0 W a2 H Q):Φ 187 [a0,W,a2] H Q:=hT.c (f:=Io) h
theorem SG(h:f188 Φ a0 W H Q):Φ 188 [a0,W] H Q:=hT.c (f:=Ip) h
theorem SH(h:f189 Φ a0 W a2 a3 a4 H Q):Φ 189 [a0,W,a2,a3,a4] H Q:=hT.c (f:=Ir) h
theorem SI(h:f200 Φ a0 W H Q):Φ 200 [a0,W] H Q:=hT.c (f:=Is) h
theorem SJ(h:f212 Φ a0 W H Q):Φ 212 [a0,W] H Q:=hT.c (f:=It) h
theorem SK(h:f213 Φ a0 W H Q):Φ 213 [a0,W] H Q:=hT.c (f:=Iu) h
theorem SL(h:f214 Φ a0 W H Q):Φ 214 [a0,W] H Q:=hT.c (f:=Iw) h
theorem SM(h:f215 Φ a0 W H Q):Φ 215 [a0,W] H Q:=hT.c (f:=Ix) h
theorem SN(h:f216 Φ a0 H Q):Φ 216 [a0] H Q:=hT.c (f:=Iz) h
theorem SO(h:f217 Φ a0 W H Q):Φ 217 [a0,W] H Q:=hT.c (f:=IB) h
theorem SP(h:f218 Φ a0 H Q):Φ 218 [a0] H Q:=hT.c (f:=ID) h
theorem SQ(h:f219 Φ a0 W a2 a3 a4 H Q):Φ 219 [a0,W,a2,a3,a4] H Q:=hT.c (f:=IE) h
theorem SR(h:f237 Φ a0 W H Q):Φ 237 [a0,W] H Q:=hT.c (f:=IF) h
theorem SS(h:f238 Φ a0 H Q):Φ 238 [a0] H Q:=hT.c (f:=II) h
theorem SU(h:f245 Φ a0 H Q):Φ 245 [a0] H Q:=hT.c (f:=IJ) h
theorem I4(h:f275 Φ a0 H Q):Φ 275 [a0] H Q:=hT.c (f:=IK) h
theorem SV(h:f276 Φ a0 W a2 H Q):Φ 276 [a0,W,a2] H Q:=hT.c (f:=IL) h
theorem SX(h:f277 Φ a0 W a2 H Q):Φ 277 [a0,W,a2] H Q:=hT.c (f:=IM) h
theorem SY(h:f278 Φ a0 H Q):Φ 278 [a0] H Q:=hT.c (f:=IP) h
theorem SZ(h:f279 Φ a0 W H Q):Φ 279 [a0,W] H Q:=hT.c (f:=IQ) h
end
end Rb.S

namespace Rb
open Go
variable{Y X:Type}{C:Ctx}{k:Nat}{args:List I}{H:AH}{Q:ad}
structure Pt(Φ Ψ:ae){X:Type}(T:ae→(X→Prop)→Prop):Prop where
 mono:∀K K':X→Prop,(∀x,K x→K' x)→T Ψ K→T Ψ K'
 pt:∀K,T Φ K→∃x,K x∧T Ψ (λy=>y=x)
section
variable{Φ Ψ:ae}
theorem Pt.ret(x:X):Pt Φ Ψ (λ_ (K:X→Prop)=>K x):=⟨λ_ _ h k=>h x k,λ_ k=>⟨x,k,rfl⟩⟩
theorem Pt.fail:Pt Φ Ψ (λ_ (_:X→Prop)=>False):=⟨λ_ _ _ k=>k,λ_ k=>k.elim⟩
theorem Pt.bind{T:ae→(X→Prop)→Prop}{U:X→ae→(Y→Prop)→Prop}(h:Pt Φ Ψ T)(k:∀x,Pt Φ Ψ (U x)):Pt Φ Ψ (λΦ K=>T Φ λx=>U x Φ K):=
 ⟨λK K' a=>h.mono _ _ λx=>(k x).mono K K' a,λK hT=>by obtain⟨x,b,ht⟩:=h.pt _ hT;obtain⟨y,c,hu⟩:=(k x).pt _ b;exact⟨y,c,h.mono _ _ (λd e=>by subst e;exact hu) ht⟩⟩
theorem Pt.map{T:ae→(X→Prop)→Prop}(h:Pt Φ Ψ T)(f:X→Y):Pt Φ Ψ (λΦ K=>T Φ λx=>K (f x)):=h.bind (U:=λx _ K=>K (f x)) λx=> .ret (f x)
theorem Pt.I5{U:X→ae→(Y→Prop)→Prop}(o:Option X)(k:∀x,Pt Φ Ψ (U x)):Pt Φ Ψ (λΦ K=>Do o λx=>U x Φ K):=
 ⟨λK K' c ⟨a,e,b⟩=>⟨a,e,(k a).mono K K' c b⟩,λK ⟨a,e,b⟩=>by obtain⟨y,d,hu⟩:=(k a).pt _ b;exact⟨y,d,a,e,hu⟩⟩
theorem Pt.I6{U:I→AH→ae→(Y→Prop)→Prop}(o:Option (I×AH))(k:∀v H,Pt Φ Ψ (U v H)):Pt Φ Ψ (λΦ K=>au o λv H=>U v H Φ K):=
 ⟨λK K' b ⟨v,H,e,a⟩=>⟨v,H,e,(k v H).mono K K' b a⟩,λK ⟨v,H,e,a⟩=>by obtain⟨y,c,hu⟩:=(k v H).pt _ a;exact⟨y,c,v,H,e,hu⟩⟩
theorem Pt.and{U:ae→(Y→Prop)→Prop}(p:Prop)(k:Pt Φ Ψ U):Pt Φ Ψ (λΦ K=>p∧U Φ K):=
 ⟨λK K' a h=>⟨h.1,k.mono K K' a h.2⟩,λK h=>by obtain⟨y,b,hu⟩:=k.pt _ h.2;exact⟨y,b,h.1,hu⟩⟩
theorem Pt.ex{A Y:Type}{U:A→ae→(Y→Prop)→Prop}(k:∀a,Pt Φ Ψ (U a)):Pt Φ Ψ (λΦ K=>∃a,U a Φ K):=
 ⟨λK K' b ⟨a,h⟩=>⟨a,(k a).mono K K' b h⟩,λK ⟨a,h⟩=>by obtain⟨y,c,hu⟩:=(k a).pt _ h;exact⟨y,c,a,hu⟩⟩
theorem Pt.gd{A B:ae→(Y→Prop)→Prop}(v:I)(c:Bool)(a:Pt Φ Ψ A)(b:Pt Φ Ψ B):Pt Φ Ψ (λΦ K=>Gd v c (A Φ K) (B Φ K)):=by
 cases v with
 | bool x=>
  show Pt Φ Ψ (λΦ K=>if x=c then A Φ K else B Φ K);by_cases h:x=c
  ·simp only[h,aR];exact a
  ·simp only[h,bz];exact b
 |_=>exact .fail
theorem Pt.I7{A B D:ae→(Y→Prop)→Prop}(v:I)(c:Bool)(a:Pt Φ Ψ A)(b:Pt Φ Ψ B)(d:Pt Φ Ψ D):Pt Φ Ψ (λΦ K=>aM v c (A Φ K) (B Φ K) (D Φ K)):=by
 cases v with
 | bool x=>
  show Pt Φ Ψ (λΦ K=>if x=c then A Φ K else B Φ K);by_cases h:x=c
  ·simp only[h,aR];exact a
  ·simp only[h,bz];exact b
 | ar l=>cases l with
  |nil=>exact d
  |cons x r=>exact .fail
 |_=>exact .fail
theorem Pt.loop{S X:Type}{F:S→ae→(S ⊕ X→Prop)→Prop}(h:∀s,Pt Φ Ψ (F s))(s:S):Pt Φ Ψ (λΦ (K:X→Prop)=>av (λs L=>F s Φ (adm L K)) s):=by
 refine⟨λK K' b hl=>?_,λK hl=>?_⟩
 · refine hl (λs=>av (λs L=>F s Ψ (adm L K')) s) λs L hs hL=>av.step ((h s).mono _ _ (λz a=>?_) hs);cases z with
   |inl t=>exact hL t a
   |inr x=>exact b x a
 · refine hl (λs=>∃x,K x∧av (λs L=>F s Ψ (adm L λy=>y=x)) s) λs L hs hL=>?_;obtain⟨z,a,ht⟩:=(h s).pt _ hs;cases z with
   | inl t=>obtain⟨x,c,d⟩:=hL t a;exact⟨x,c,av.step ((h s).mono _ _ (λz e=>by subst e;exact d) ht)⟩
   |inr x=>exact⟨x,a,av.step ((h s).mono _ _ (λz e=>by subst e;rfl) ht)⟩
def I8(Φ Ψ:ae):Prop:=∀k args H,Pt Φ Ψ (λΦ (K:I×AH→Prop)=>Φ k args H λv h=>K (v,h))
variable(bQ:I8 Φ Ψ)
include bQ
theorem wK(a:Env)(H:AH)(op:dj):Pt Φ Ψ (λΦ (K:I×AH→Prop)=>b4 Φ a H (λv h=>K (v,h)) op):=by
 cases op
 case pick=>exact .gd _ _ (.ret _) (.ret _)
 case call=>exact bQ _ _ _
 case gU=>exact .ex λkey=> .ex λbE=> .and _ (bQ _ _ _)
 case inv=>exact .ex λt=> .ex λv=> .ex λr=> .ex λu=> .and _ (.and _ (.and _ (bQ _ _ _)))
 all_goals first
  |exact .ret _
  |exact .I5 _ λv=> .ret _
  |exact .I6 _ λv h=> .ret _
theorem pK:∀(ops:List br)(env:Env)(H:AH),Pt Φ Ψ (λΦ (K:Env×AH→Prop)=>fM Φ ops env H λe h=>K (e,h))
 |[],env,H=> .ret (env,H)
 | o::r,env,H=>by
  simp only[fM];cases o.guard with
  |none=>exact(wK bQ env H o.op).bind (U:=λx Φ K=>fM Φ r (bI env o.dst x.1) x.2 λe h=>K (e,h)) λx=>pK r _ _
  | some g=>obtain⟨s,want⟩:=g;exact .I7 _ _ ((wK bQ _ H o.op).bind (U:=λx Φ K=>fM Φ r (bI (env.set s (.bool want)) o.dst x.1) x.2 λe h=>K (e,h)) λx=>pK r _ _) (pK r _ _) (pK r _ _)
theorem I9(o:br)(a:Env)(H:AH):Pt Φ Ψ (λΦ (K:Env×AH→Prop)=>hz Φ o a H λe h=>K (e,h)):=by
 unfold hz;cases o.guard with
 |none=>exact(wK bQ a H o.op).map λx=>(bI a o.dst x.1,x.2)
 | some g=>obtain⟨s,want⟩:=g;exact .I7 _ _ ((wK bQ _ H o.op).map λx=>(bI (a.set s (.bool want)) o.dst x.1,x.2)) (.ret _) (.ret _)
theorem A2(ops:List br):∀(l:List Nat)(env:Env)(H:AH),Pt Φ Ψ (λΦ (K:Env×AH→Prop)=>iR Φ ops l env H λe h=>K (e,h))
 |[],env,H=> .ret (env,H)
 | i::r,env,H=>by
  simp only[iR];cases ops[i]? with
  |none=>exact .fail
  |some o=>exact(I9 bQ o env H).bind (U:=λx Φ K=>iR Φ ops r x.1 x.2 λe h=>K (e,h)) λx=>A2 ops r _ _
theorem I_{Y:Type}{U:ae→(Y→Prop)→Prop}(ops:List br)(a:Env)(H:AH)(k:Pt Φ Ψ U):∀l:List Nat,Pt Φ Ψ (λΦ K=>e4 ops a H (U Φ K) l)
 |[]=>k
 |i::r=> .and _ (I_ ops a H k r)
theorem Ja(ops:List br)(a:List Nat):∀(a_:List (List Nat×Nat×List Nat)) (env:Env) (H:AH),Pt Φ Ψ (λΦ (K:Env×AH→Prop)=>gq Φ ops a a_ env H λe h=>K (e,h))
 |[],env,H=>A2 bQ ops a env H
 | (b,e,st)::r,env,H=>by
  simp only[gq];refine (A2 bQ ops b env H).bind (U:=λx Φ K=>match ops[e]? with
    |some o=>hz Φ o x.1 x.2 λc H2=>e4 ops x.1 H2 (gq Φ ops a r c H2 λe h=>K (e,h)) st
    |none=>False) λx=>?_
  cases ops[e]? with
  |none=>exact .fail
  |some o=>exact(I9 bQ o x.1 x.2).bind (U:=λy Φ K=>e4 ops x.1 y.2 (gq Φ ops a r y.1 y.2 λe h=>K (e,h)) st) λy=>I_ bQ ops x.1 y.2 (Ja ops a r y.1 y.2) st
def A3(vs:List Nat):ea→Env→AH→(List I×AH) ⊕ (ea×Env×AH)
 | .normal,e,h=> .inl (du e vs,h)
 | .exit i,e,h=> .inr (.exit i,e,h)
 | .ret,e,h=> .inr (.ret,e,h)
theorem j2:∀(c:eE)(env:Env)(H:AH),Pt Φ Ψ (λΦ (K:ea×Env×AH→Prop)=>dy Φ c env H λa e h=>K (a,e,h))
 | .skip,env,H=> .ret (ea.normal,env,H)
 | .region ops,env,H=>(pK bQ ops env H).map λx=>(ea.normal,x.1,x.2)
 | .draw ops _ a_ last,env,H=>(Ja bQ ops last a_ env H).map λx=>(ea.normal,x.1,x.2)
 | .seq a b,env,H=>by
  refine (j2 a env H).bind (U:=λx Φ K=>match x.1 with
    | .normal=>dy Φ b x.2.1 x.2.2 λa e h=>K (a,e,h)
    |e=>K (e,x.2.1,x.2.2)) λx=>?_
  obtain⟨d,e,h⟩:=x;cases d with
  |normal=>exact j2 b e h
  |exit i=>exact .ret _
  |ret=>exact .ret _
 | .join vs ks a b,env,H=>by
  refine (j2 a env H).bind (U:=λx Φ K=>match x.1 with
    | .normal=>dy Φ b (fi (dW env ks) vs (du x.2.1 vs)) x.2.2 λa e h=>K (a,e,h)
    |e=>K (e,x.2.1,x.2.2)) λx=>?_
  obtain⟨d,e,h⟩:=x;cases d with
  |normal=>exact j2 b _ h
  |exit i=>exact .ret _
  |ret=>exact .ret _
 | .cond x a b,env,H=> .gd _ _ (j2 a env H) (j2 b env H)
 | .block id a,env,H=>by
  refine (j2 a env H).bind (U:=λx Φ K=>match x.1 with
    | .exit f=>if f=id then K (.normal,x.2.1,x.2.2)else K (.exit f,x.2.1,x.2.2)
    |e=>K (e,x.2.1,x.2.2)) λx=>?_
  obtain⟨d,e,h⟩:=x;cases d with
  |normal=>exact .ret _
  | exit i=>
   show Pt Φ Ψ λΦ (K:ea×Env×AH→Prop)=>if i=id then K (.normal,e,h)else K (.exit i,e,h)
   by_cases hi:i=id
   ·simp only[hi,aR];exact .ret _
   ·simp only[hi,bz];exact .ret _
  |ret=>exact .ret _
 | .loop vs ks a,env,H=>by
  have h:=Pt.loop (F:=λ(s:List I×AH) Φ (Z:(List I×AH) ⊕ (ea×Env×AH)→Prop)=>dy Φ a (fi (dW env ks) vs s.1) s.2 λd e h=>Z (A3 vs d e h)) (λs=>(j2 a _ s.2).map λx=>A3 vs x.1 x.2.1 x.2.2) (du env vs,H);have e:(λΦ (K:ea×Env×AH→Prop)=>dy Φ (.loop vs ks a) env H λa e h=>K (a,e,h))=λΦ K=>av (λ(s:List I×AH) L=>dy Φ a (fi (dW env ks) vs s.1) s.2 λd e h=>adm L K (A3 vs d e h)) (du env vs,H):=by funext Φ K;simp only[dy];congr 1;funext s L;congr 1;funext d e h;cases d<;>rfl
  rw[e];exact h
 | .exit id,env,H=> .ret (ea.exit id,env,H)
 | .ret,env,H=> .ret (ea.ret,env,H)
 | .freeze t a,env,H=> .I6 _ λv h=>j2 a _ h
 | .gW vs ks ops b,env,H=>by have h:=(pK bQ ops env H).bind (U:=λx Φ (K:ea×Env×AH→Prop)=>dy Φ b (fi (dW env ks) vs (du x.1 vs)) x.2 λa e h=>K (a,e,h)) λx=>j2 b (fi (dW env ks) vs (du x.1 vs)) x.2;exact h
theorem wL(a:Env)(H:AH):∀rs:List iu,Pt Φ Ψ (λ_ (K:List I→Prop)=>jo a H rs K)
 |[]=> .ret []
 | .tmp t::r=>by have h:=(wL a H r).map λvs=>a.getD t .bot::vs;exact h
 | .cell t n agg::r=> .I5 _ λv=>(wL a H r).map λvs=>v::vs
theorem Jb(f:aF)(args:List I)(H:AH):Pt Φ Ψ (λΦ (K:I×AH→Prop)=>mW Φ f args H λv h=>K (v,h)):=by
 refine (j2 bQ f.body (args++ZU (f.ntmps-args.length) .bot) H).bind (U:=λx _ K=>match x.1 with
   | .exit _=>False
   |_=>jo x.2.1 x.2.2 f.results λvs=>K (jU vs,x.2.2)) λx=>?_
 obtain⟨a,e,h⟩:=x;cases a with
 |exit i=>exact .fail
 |normal=>exact(wL bQ e h f.results).map λvs=>(jU vs,h)
 |ret=>exact(wL bQ e h f.results).map λvs=>(jU vs,h)
end
def ai(C:Ctx):ae:=λk args H Q=>∃v H',Q v H'∧b7 C k args H λa b=>a=v∧b=H'
theorem ai.to(h:ai C k args H Q):b7 C k args H Q:=by obtain⟨v,H',q,h⟩:=h;exact mi C _ _ _ _ _ (λa b e=>by obtain⟨rfl,rfl⟩:=e;exact q) h
theorem wM(C:Ctx):h8 (ai C):=by intro k args H Q b a h;obtain⟨v,H',q,h⟩:=h;exact⟨v,H',a v H' q,h⟩
theorem Jc(C:Ctx):I8 (ai C) (b7 C):=λk args H=>⟨λK K' c h=>mi C _ _ _ _ _ (λa b=>c (a,b)) h,λK ⟨v,H',q,h⟩=>⟨(v,H'),q,mi C _ _ _ _ _ (λa b e=>by obtain⟨rfl,rfl⟩:=e;rfl) h⟩⟩
theorem S0(a:jt C){T:ha}(h:jY C T=true):nn (ai C) T:=by intro k f hk args H Q hs;obtain⟨⟨v,H'⟩,q,hf⟩:=(Jb (Jc C) f args H).pt (λx=>Q x.1 x.2) hs;exact⟨v,H',q,Oh a h k f hk args H _ ((Jb (Jc C) f args H).mono (λx=>x=(v,H')) (λx=>x.1=v∧x.2=H') (λx e=>by rw[e];exact⟨rfl,rfl⟩) hf)⟩
theorem ai.one(h:ai C k args H Q):∃v H',Q v H'∧ai C k args H λa b=>a=v∧b=H':=by obtain⟨v,H',q,h⟩:=h;exact⟨v,H',q,v,H',⟨rfl,rfl⟩,h⟩
end Rb

namespace Rb
open Go
variable{C:Ctx}{key:Nat}{args:List I}{Q:ad}
theorem ai.cB{H:AH}(h:ai C key args H (λv H'=>Q v.cB H')):ai C key args H Q:=by obtain⟨v,H',q,h⟩:=h;exact⟨v.cB,H',q,b7.cB (mi C _ _ _ _ _ (λa b e=>by obtain⟨rfl,rfl⟩:=e;exact⟨rfl,rfl⟩) h)⟩
theorem ai.tz(aq:bT C)(h:ai C key args AH.mt Q)(c:I.bF args=true)(H:AH)(K:ad)(d:∀v H',Q v H'→v.bh=true∧K v H):ai C key args H K:=by obtain⟨v,H',q,h⟩:=h;obtain⟨h1,f⟩:=d v H' q;exact⟨v,H,f,b7.tz aq h c H _ λa b e=>by obtain⟨rfl,rfl⟩:=e;exact⟨h1,rfl,rfl⟩⟩
end Rb

namespace Rb
open Go
theorem Jd{C:Ctx}:∀{T:ha}{n:Nat},jY C (T.take n)=true→jY C (T.drop n)=true→jY C T=true
 |[],_,_,_=>rfl
 |_::_,0,_,h=>h
 | (k,f)::T,n+1,h1,a=>by simp only[List.take_succ_cons,ac2,jY,Z3]at h1 a ⊢;exact⟨h1.1,Jd h1.2 a⟩
end Rb
namespace Go.Proofs.YtbomedgnnklgbaaGreatDoor.rb
open Rb
theorem S1:jY C (S.ba.take 120)=true:=by kernel_rfl
theorem S2:jY C (S.ba.drop 120)=true:=by kernel_rfl
theorem A4:Cl (ai C) S.ba:=Cl.of (wM C) (S0 (Ek _ _) (Jd S1 S2))
end Go.Proofs.YtbomedgnnklgbaaGreatDoor.rb

namespace Rb
open Go Go.RowKit
variable{F:cJ}{W w:World}{G:bj}{g:Nat}{c d:I}{V U:Value}
def kY(W:World):Nat→Nat→Prop:=λb o=>∃V,W.cell? ⟨b,o,none⟩=some V
theorem S3{C:Ctx}{key:Nat}{f:FuncId}{args:List I}{Vs:Array Value}(hf:C.F key=some f)(h:b7 C key args AH.mt (λv _=>v = .bool true))(a:dN C W (bj.mt (kY W)) AH.mt)
  (b:aP C.F W (bj.mt (kY W)) args Vs):Calls C.P f Vs W λe c=>e = .returned (.bool true)∧Below W.heap.size W c:=by
 refine Calls.mono (h.2 f hf _ W Vs a (Rel.mt λ_ _ h=>h) b) λe w' he=>?_;obtain⟨V,v,H',G',rfl,rfl,hv,_,d⟩:=he;obtain rfl:=hv.h6;exact⟨rfl,d.below⟩
theorem A5{k:IntKind}{zs:List Int}(h:∀i,i<zs.length→W.cell? ⟨g,i,none⟩=some (.int k (zs.getD i 0))):R F W (bj.mt (kY W)) (.aj (zs.map (.int k))) (.pointer (some ⟨g,0,none⟩)):=by
 refine .aj _ g 0 (λj=> .int k (zs.getD j 0)) (λj c a=>?_) λj c a=>?_
 · have hl:j<zs.length:=by simpa using(ZX.1 a).1
   rw[aaK];exact⟨⟨_,h j hl⟩,h j hl⟩
 · have hl:j<zs.length:=by simpa using(ZX.1 a).1
   have:c = .int k (zs.getD j 0):=by rw[aaP,aaQ hl]at a;simp only[aae,aad.injEq]at a;rw[←a,List.getD_eq_getElem?_getD,aaQ hl];rfl
   rw[this];exact .int _ _
theorem aP.two(h:R F w G c V)(b:R F w G d U):aP F w G [c,d] #[V,U]:=⟨rfl,λj c' e hc a=>by
  rcases j with _|_|j
  ·simp at hc a;subst hc;subst a;exact h
  ·simp at hc a;subst hc;subst a;exact b
  ·simp at hc⟩
theorem aP.three{c d e:I}{V U X:Value}(h:R F w G c V)(b:R F w G d U)(f:R F w G e X):aP F w G [c,d,e] #[V,U,X]:=⟨rfl,λj c' g hc a=>by
  rcases j with _|_|_|j
  ·simp at hc a;subst hc;subst a;exact h
  ·simp at hc a;subst hc;subst a;exact b
  ·simp at hc a;subst hc;subst a;exact f
  ·simp at hc⟩
theorem S4(b:ByteArray):R F w G (.str b.data.toList) (.string b):=by
 have h:(⟨b.data.toList.toArray⟩:ByteArray)=b:=by cases b;simp
 have:=R.str (F:=F) (w:=w) (G:=G) b.data.toList;rwa [h]at this
theorem S5:DS=(Go.Lib.asciiSpaceTab.map (I.int .u8)):=by kernel_rfl
theorem A6{P:Program}{b:String}{cs:Array Value}(c:P.globalNamed b=some g)(h:W.var? P b=some cs):∃a t fr,W.heap[g]?=some (.cells a t fr)∧a.size=cs.size:=by
 unfold World.var? at h;rw[c]at h;simp only[Option.bind_some]at h;split at h
 · rename_i a t fr heq;cases h;exact⟨_,_,_,heq,rfl⟩
 ·cases h
end Rb

namespace Rb
open Go Go.RowKit
variable{t:TypeId}{n m sz:Nat}{α β:Type}
mutual
def iV:I→Nat
 | .str s=>s.length+1
 | .ab _ _ cs=>cX cs+1
 |_=>1
def cX:List I→Nat
 |[]=>0
 |x::r=>iV x+cX r
end
theorem lM:∀a b:List I,cX (a++b)=cX a+cX b
 |[],b=>by simp[cX]
 |x::r,b=>by simp only[List.cons_append,cX,lM r b,aai]
mutual
def dB{H:Type}:DataW H→Nat
 | .lit (.string bytes)=>bytes.length+1
 | .lit _=>1
 | .nil=>1
 | .ptr d=>dB d+1
 | .slice elems spare=>kZ elems+kZ spare+1
 | .agg parts=>kZ parts+1
 | .iface _ d=>dB d+1
 | .map entries=>wO entries+1
 | .held _=>1
def kZ{H:Type}:List (DataW H)→Nat
 |[]=>0
 |d::r=>dB d+kZ r
def wO{H:Type}:List (Lit×DataW H)→Nat
 |[]=>0
 |x::r=>Je x+wO r
def Je{H:Type}:Lit×DataW H→Nat
 |(.string bytes,d)=>bytes.length+dB d+1
 |(_,d)=>dB d+1
end
theorem Jf{H:Type}{α:Type}{cells:α→List I}:∀(xs:List α)(a:List (DataW H)),xs.length=a.length→(∀(i:Nat)(x:α)(d:DataW H),xs[i]?=some x→a[i]?=some d→cX (cells x)≤dB d)→cX (xs.flatMap cells)≤kZ a
 |[],a,_,_=>by simp[cX]
 |x::r,[],h,_=>by simp at h
 | x::r,d::a,h,k=>by have c:=k 0 x d rfl rfl;have h1:=Jf r a (by simpa using h) λi y e b he=>k (i+1) y e (by simpa using b) (by simpa using he);rw[adn,lM,kZ];omega
section
variable{H:Type}{enc:TypeId×Value→H}{P:Program}{w:World}{sp:Nat→Bool}{held:Bool}{F:cJ}
def bm(F:cJ)(enc:TypeId×Value→H)(P:Program)(w:World)(sp:Nat→Bool)(held:Bool)(n:Nat)(t:TypeId){α:Type}(cells:α→List I)(a:α→Prop):Prop:=∀fuel,fuel≤n→∀cs d b,ado enc P w 0 sp held fuel t cs=some (d,b)→(∀m∈d.weights P t,m≤reachBytes)→∃x,a x∧aP F w (bj.mt (kY w)) (cells x) cs.toArray∧cX (cells x)≤dB d
theorem bm.mono{cells:α→List I}{ok:α→Prop}(h:bm F enc P w sp held n t cells ok)(a:m≤n):bm F enc P w sp held m t cells ok:=λfuel hf cs d b ht hw=>h fuel (sl hf a) cs d b ht hw
theorem bm.zero{cells:α→List I}{ok:α→Prop}:bm F enc P w sp held 0 t cells ok:=by
 intro fuel hf cs d a h _;obtain rfl:fuel=0:=by omega
 simp[ado]at h
theorem bm.int{k:IntKind}(ht:P.underlying t=some (.int k)):bm F enc P w sp held n t (λz:Int=>[.int k z]) (λz=>k.min≤z∧z≤k.max):=by intro fuel _ cs d b h _;obtain⟨z,rfl,a,hw⟩:=DataW.trod_int ht h;obtain rfl:d=_:=congrArg adp a;exact⟨z,by simpa[Lit.wf]using hw,aP.one (.int _ _),by simp[cX,iV,dB]⟩
theorem bm.bool(ht:P.underlying t=some .bool):bm F enc P w sp held n t (λz:Bool=>[.bool z]) (λ_=>True):=by intro fuel _ cs d b h _;obtain⟨z,rfl,a⟩:=DataW.trod_bool ht h;obtain rfl:d=_:=congrArg adp a;exact⟨z,trivial,aP.one (.bool _),by simp[cX,iV,dB]⟩
theorem bm.string(ht:P.underlying t=some .string):bm F enc P w sp held n t (λz:List UInt8=>[.str z]) (λz=>z.length≤140737488351232):=by intro fuel _ cs d b h hw;obtain⟨s,rfl,a,hl⟩:=DataW.trod_string ht h;obtain rfl:d=_:=congrArg adp a;exact⟨s.data.toList,hw _ (by simp[adq]),aP.one (S4 s),by simp[cX,iV,dB]⟩
theorem Jg{H:Type}{P:Program}{e:TypeId}:∀{b:List (DataW H)}{j:Nat}{d:DataW H},b[j]?=some d→∀n∈d.weights P e,n∈adr P e b
 | d0::b,0,d,a,n,c=>by simp only[List.getElem?_cons_zero,aad.injEq]at a;subst a;simp only[adr,ace];exact .inl c
 | d0::b,j+1,d,a,n,c=>by simp only[List.getElem?_cons_succ]at a;simp only[adr,ace];exact .inr (Jg a n c)
def aQ{α:Type}(cells:α→List I)(xs:List α):I:= .ab .dead xs.length (xs.flatMap cells)
theorem S6{p:Nat→α→Prop}:∀(n:Nat),(∀i,i<n→∃x,p i x)→∃xs:List α,xs.length=n∧∀i x,xs[i]?=some x→p i x:=by
 intro n;induction n with
 |zero=>intro _;exact⟨[],rfl,λi x h=>by simp at h⟩
 | succ n a=>
  intro h;obtain⟨xs,hl,b⟩:=a λi hi=>h i (by omega);obtain⟨y,c⟩:=h n (by omega);refine⟨xs++[y],by simp[hl],λi x hi=>?_⟩;by_cases d:i<n
  · rw[abB (by omega)]at hi;exact b i x hi
  · rw [abC (by omega)]at hi;have:i-xs.length=0:=by
     rcases ads (i-xs.length)with h|h
     ·exact h
     ·rw[List.getElem?_eq_none (by simp;omega)]at hi;cases hi
    rw[this]at hi;simp at hi;subst hi;have:i=n:=by omega
    rw[this];exact c
theorem S7{cells:α→List I}(hc:∀x,(cells x).length=sz):∀(xs:List α)(j:Nat)(c:I),(xs.flatMap cells)[j]?=some c→∃i k x,j=i*sz+k∧k<sz∧xs[i]?=some x∧(cells x)[k]?=some c:=by
 intro xs;induction xs with
 |nil=>intro j c h;simp at h
 | cons y g b=>
  intro j c h;rw[adn]at h;by_cases a:j<sz
  · rw[abB (by rw[hc];exact a)]at h;exact⟨0,j,y,by omega,a,rfl,h⟩
  · rw[abC (by rw[hc];omega),hc]at h;obtain⟨i,k,x,h1,d,e,f⟩:=b _ _ h;refine⟨i+1,k,x,?_,d,by simpa using e,f⟩;rw[aaw];omega
theorem Jh{b o m:Nat}:(Addr.mk b o none).add m=⟨b,o+m,none⟩:=by
 unfold adt;split
 ·rename_i h;subst h;rfl
 ·rfl
theorem bm.slice{t e:TypeId}{cells:α→List I}{u:α→Prop}(ht:P.underlying t=some (.slice e))(hs:P.cellsOf e=sz)(D:0<sz)(hc:∀x,(cells x).length=sz)(h:bm F enc P w sp held n e cells u) :
  bm F enc P w sp held (n+1) t (λxs:List α=>[aQ cells xs]) (λxs=>xs.length≤maxLen∧∀x∈xs,u x):=by
 intro fuel hf cs d Q E G;rcases DataW.trod_slice ht E with⟨rfl,s⟩|⟨a,len,cap,elems,rest,m,rfl,rfl,s,_,hle,S,T,H,_⟩
 · obtain rfl:d=_:=congrArg adp s;exact⟨[],⟨aav _,by simp⟩,aP.one (.eJ _ _),by simp[aQ,cX,iV,dB]⟩
 · have each : ∀i,i<len→∃x,(u x∧∀l,(elems.map (·.1))[i]?=some l→cX (cells x)≤dB l)∧∃ci,w.cells? 0 (a.add (i*sz)) sz=some ci∧aP F w (bj.mt (kY w)) (cells x) ci.toArray:=by
     intro i hi;have h1:=H i hi;rw[aaQ (by omega),hs]at h1;obtain⟨ci,g,v⟩:=Option.bind_eq_some_iff.1 h1;obtain ⟨x,p,hv,J⟩:=h m (by omega) ci _ _ v (λq K=>G q (by obtain rfl:d=_:=congrArg adp s;simp only[adq,ht];refine List.mem_cons_of_mem _ (List.mem_append_left _ ?_);exact Jg (j:=i) (by rw[aaP,aaQ (by omega)];rfl) q K))
     exact ⟨x,⟨p,λl y=>by rw[aaP,aaQ (by omega)]at y;simp only[aae,aad.injEq]at y;rw[←y];exact J⟩,ci,g,hv⟩
   obtain⟨xs,hl,p⟩:=S6 len each;have hB:cX [aQ cells xs]≤dB d:=by obtain rfl:d=_:=congrArg adp s;have:=Jf xs (elems.map (·.1)) (by simp;omega) λi x l h1 g=>(p i x h1).1.2 l g;simp only[aQ,cX,iV,dB];omega
   refine⟨xs,⟨by omega,λx L=>?_⟩,aP.one ?_,hB⟩
   · obtain⟨i,hi,e⟩:=List.mem_iff_getElem.1 L;exact(p i x (by rw[aaQ hi,e])).1.1
   · rcases ads len with z|z
     · subst z;obtain rfl:=List.length_eq_zero_iff.1 hl;exact .eJ _ _
     ·
       have B:a.spot=none:=by
        obtain⟨x,_,ci,g,_⟩:=each 0 z;obtain⟨_,v,A⟩:=adu g;have f:=A 0 D;rw[aaQ (by omega),Nat.zero_mul]at f;have e0:(a.add 0).add 0=a:=by simp[adt]
        rw[e0]at f;unfold World.cell? at f;split at f
        · split at f
          ·cases f
          · rename_i C;cases M:a.spot with
            |none=>rfl
            |some _=>rw[M]at C;simp at C
        ·cases f
       obtain⟨b,o,U⟩:=a;simp only at B;subst B;have key:∀(j:Nat)(c:I),(xs.flatMap cells)[j]?=some c→∃V,w.cell? ⟨b,o+j,none⟩=some V∧R F w (bj.mt (kY w)) c V:=by intro j c r;obtain⟨i,k,x,rfl,hk,N,O⟩:=S7 hc xs j c r;obtain⟨_,ci,g,hv⟩:=p i x N;obtain⟨_,v,A⟩:=adu g;have f:=A k hk;rw[Jh,Jh,aaQ (by omega)]at f;refine⟨ci[k],by rw[←aai];exact f,hv.2 k c _ O (by simp[aaQ (show k<ci.length by omega)])⟩
       unfold aQ;rw[hl];refine .ab .dead len _ b o cap (λj=>(w.cell? ⟨b,o+j,none⟩).getD undef) trivial hle (λj c r=>?_) λj c r=>?_
       · obtain⟨V,h1,_⟩:=key j c r;exact⟨⟨V,h1⟩,by rw[h1];rfl⟩
       · obtain⟨V,h1,g⟩:=key j c r;rw[h1];exact g
def jB(P:Program):Nat→List (TypeId×Nat)→Bool
 |_,[]=>true
 |off,(t,o)::r=>o==off&&jB P (off+P.cellsOf t) r
def ic(P:Program):List (TypeId×Nat)→Nat
 |[]=>0
 |(t,_)::r=>P.cellsOf t+ic P r
def cG(F:cJ)(enc:TypeId×Value→H)(P:Program)(w:World)(sp:Nat→Bool)(held:Bool)(n:Nat)(L:List (TypeId×Nat)){α:Type}(cells:α→List I)(a:α→Prop):Prop:=
 ∀ m,m≤n→∀(off:Nat)(cs:List Value)(ds:List (DataW H)),jB P off L=true→ds.length=L.length→(∀(i:Nat)(f:TypeId×Nat)(d:DataW H),L[i]?=some f→ds[i]?=some d→(∃b,ado enc P w 0 sp held m f.1 ((cs.drop f.2).take (P.cellsOf f.1))=some (d,b))∧∀q∈d.weights P f.1,q≤reachBytes) →
  ∃x,a x∧aP F w (bj.mt (kY w)) (cells x) ((cs.drop off).take (ic P L)).toArray∧cX (cells x)≤kZ ds
theorem cG.nil:cG F enc P w sp held n [] (λ_:Unit=>[]) (λ_=>True):=by intro m _ off cs ds _ _ _;exact⟨(),trivial,by simp only[ic,List.take_zero];exact aP.nil,aav _⟩
theorem cG.cons{o:Nat}{L:List (TypeId×Nat)}{b:α→List I}{c:β→List I}{o1:α→Prop}{o2:β→Prop}(g:bm F enc P w sp held n t b o1)(h:cG F enc P w sp held n L c o2) :
  cG F enc P w sp held n ((t,o)::L) (λx:α×β=>b x.1++c x.2) (λx=>o1 x.1∧o2 x.2):=by
 intro m hm off cs ds a hlen hf;simp only[jB,Z3,bK]at a;obtain⟨rfl,a⟩:=a
 match ds,hlen with
 |d::r,hlen=>
 obtain⟨⟨s,j⟩,k⟩:=hf 0 (t,o) d rfl rfl;obtain⟨x,l,hv,u⟩:=g m hm _ _ _ j k;obtain⟨y,p,q,v⟩:=h m hm _ cs r a (by simpa using hlen) λi f e hi he=>hf (i+1) f e (by simpa using hi) (by simpa using he);refine⟨(x,y),⟨l,p⟩,?_,by simp only[lM,kZ];omega⟩;have e:((cs.drop o).take (ic P ((t,o)::L)))=(cs.drop o).take (P.cellsOf t)++(cs.drop (o+P.cellsOf t)).take (ic P L):=by simp only[ic];rw[List.take_add,adv]
 rw[e];have:=hv.app q;simpa using this
theorem bm.struct{n:Nat}{fs:Array Field}(ht:P.underlying t=some (.struct fs)){L:List (TypeId×Nat)}(hL:fs.toList.map (λf=>(f.type,f.offset))=L)(k:jB P 0 L=true)(l:P.cellsOf t=ic P L)
  {α:Type} {cells:α→List I} {ok:α→Prop} (h:cG F enc P w sp held n L cells ok):bm F enc P w sp held (n+1) t cells ok:=by
 intro fuel hf cs d y o p;obtain⟨xs,m,rfl,a,hlen,r,s⟩:=DataW.trod_struct ht o;obtain ⟨x,u,hv,A⟩:=h m (by omega) 0 cs (xs.map (·.1)) k (by rw[←hL];simp[r]) λi f B hf b=>by rw[←hL,aaP]at hf;obtain⟨g,c,rfl⟩:=adw.1 hf;rw[aaP]at b;obtain⟨z,e,rfl⟩:=adw.1 b;have h1:=s i g (by rw[←Array.getElem?_toList];exact c);rw[e]at h1;refine⟨⟨z.2,h1⟩,λq v=>p q ?_⟩;obtain rfl:d=_:=congrArg adp a;simp only[adq,ht];exact DataW.weights_mem_each (j:=i) (t:=g.type) (by rw[aaP,c];rfl) (by rw[aaP,e];rfl) q v
 obtain rfl:d=_:=congrArg adp a;refine⟨x,u,?_,by simp only[dB];omega⟩;rw[adx,←l,←hlen,List.take_length]at hv;exact hv
theorem bm.map{a:α→List I}{b:β→List I}{o1:α→Prop}{o2:β→Prop}(g:α→β)(hc:∀x,b (g x)=a x)(c:∀x,o1 x→o2 (g x))(h:bm F enc P w sp held n t a o1):bm F enc P w sp held n t b o2:=by intro fuel hf cs d e f hw;obtain⟨x,i,hv,j⟩:=h fuel hf cs d e f hw;exact⟨g x,c x i,by rw[hc];exact hv,by rw[hc];exact j⟩
theorem bm.S8{cells:α→List I}{a:α→Prop}(h:∀n,bm F enc P w sp held n t cells a){v:Value}{d:DataW H}{b:List MemPlace}(c:DataW.Trod enc P w 0 sp held t v d b)(e:∀m∈d.weights P t,m≤reachBytes):∃x,a x∧aP F w (bj.mt (kY w)) (cells x) v.cells∧cX (cells x)≤dB d:=by obtain⟨fuel,hf⟩:=c;obtain⟨x,f,hv,g⟩:=h fuel fuel (np _) _ _ _ hf e;exact⟨x,f,by simpa using hv,g⟩
end
end Rb

namespace Rb
open Go
mutual
structure T where
 kind:Int
 size:Int
 packed:Bool
 aN:List aE
 b6:Int
 bq:List T
structure aE where
 E:List UInt8
 type:T
 bits:Bool
 bb:Int
end
mutual
def T.cells:T→List I
 | .mk kind size packed aN b6 bq=>[.int .i64 kind,.int .i64 size,.bool packed,.ab .dead aN.length (aE.all aN),.int .i64 b6,.ab .dead bq.length (T.all bq)]
def T.all:List T→List I
 |[]=>[]
 |x::r=>T.cells x++T.all r
def aE.cells:aE→List I
 | .mk E type bits bb=> .str E::(T.cells type++[.bool bits,.int .i64 bb])
def aE.all:List aE→List I
 |[]=>[]
 |x::r=>aE.cells x++aE.all r
end
theorem T.all_eq:∀xs:List T,T.all xs=xs.flatMap T.cells
 |[]=>rfl
 |x::r=>by rw[T.all,T.all_eq r,adn]
theorem aE.all_eq:∀xs:List aE,aE.all xs=xs.flatMap aE.cells
 |[]=>rfl
 |x::r=>by rw[aE.all,aE.all_eq r,adn]
theorem T.bN(x:T):x.cells=[.int .i64 x.kind,.int .i64 x.size,.bool x.packed,aQ aE.cells x.aN,.int .i64 x.b6,aQ T.cells x.bq]:=by cases x;simp only[T.cells,T.all_eq,aE.all_eq,aQ]
theorem aE.bN(x:aE):x.cells = .str x.E::(x.type.cells++[.bool x.bits,.int .i64 x.bb]):=by cases x;rfl
theorem T.len(x:T):x.cells.length=6:=by rw[T.bN];rfl
theorem aE.len(x:aE):x.cells.length=9:=by rw[aE.bN];simp[T.len]
def jC(z:Int):Prop:= -9223372036854775808≤z∧z≤9223372036854775807
mutual
def T.ok:T→Prop
 | .mk kind size packed aN b6 bq=>jC kind∧jC size∧aN.length≤maxLen∧aE.dR aN∧jC b6∧bq.length≤maxLen∧T.dR bq
def T.dR:List T→Prop
 |[]=>True
 |x::r=>T.ok x∧T.dR r
def aE.ok:aE→Prop
 | .mk E type bits bb=>E.length≤140737488351232∧T.ok type∧jC bb
def aE.dR:List aE→Prop
 |[]=>True
 |x::r=>aE.ok x∧aE.dR r
end
theorem T.dX:∀{xs:List T},T.dR xs↔∀x∈xs,x.ok
 |[]=>by simp[T.dR]
 |x::r=>by simp[T.dR,T.dX (xs:=r)]
theorem aE.dX:∀{xs:List aE},aE.dR xs↔∀x∈xs,x.ok
 |[]=>by simp[aE.dR]
 |x::r=>by simp[aE.dR,aE.dX (xs:=r)]
section
variable{H:Type}{enc:TypeId×Value→H}{P:Program}{w:World}{sp:Nat→Bool}{held:Bool}{F:cJ}
structure Ji(P:Program)(ti tb ts tT tF sT sF:TypeId)(fT fF:Array Field):Prop where
 int:P.underlying ti=some (.int .i64)
 bool:P.underlying tb=some .bool
 str:P.underlying ts=some .string
 S9:P.underlying tT=some (.struct fT)
 S_:P.underlying tF=some (.struct fF)
 Ta:P.underlying sT=some (.slice tT)
 Tb:P.underlying sF=some (.slice tF)
 lT:fT.toList.map (λf=>(f.type,f.offset))=[(ti,0),(ti,1),(tb,2),(sF,3),(ti,4),(sT,5)]
 lF:fF.toList.map (λf=>(f.type,f.offset))=[(ts,0),(tT,1),(tb,7),(ti,8)]
 cT:P.cellsOf tT=6
 cF:P.cellsOf tF=9
 c1:∀t∈[ti,tb,ts,sT,sF],P.cellsOf t=1
theorem Tc{ti tb ts tT tF sT sF:TypeId}{fT fF:Array Field}(h:Ji P ti tb ts tT tF sT sF fT fF):∀n,bm F enc P w sp held n tT T.cells T.ok:=by
 have c1:P.cellsOf ti=1:=h.c1 _ (by simp);have c2:P.cellsOf tb=1:=h.c1 _ (by simp);have c3:P.cellsOf ts=1:=h.c1 _ (by simp);have b:P.cellsOf sT=1:=h.c1 _ (by simp);have c5:P.cellsOf sF=1:=h.c1 _ (by simp);have int:∀n,bm F enc P w sp held n ti (λz:Int=>[.int .i64 z]) jC:=λn=>bm.map id (λ_=>rfl) (λx a=>by simp only[ady,adz,Z_,aaa,aR]at a;show -9223372036854775808≤x∧x≤9223372036854775807;omega) (bm.int h.int)
 intro n;induction n using Nat.strongRecOn with
 | _ n c=>
  cases n with
  |zero=>exact bm.zero
  | succ n=>
   have d:bm F enc P w sp held n tT T.cells T.ok:=c n (by omega);have e:bm F enc P w sp held n tF aE.cells aE.ok:=by
    cases n with
    |zero=>exact bm.zero
    | succ n=>
     refine bm.map (λ(x:List UInt8×T×Bool×Int×Unit)=>(⟨x.1,x.2.1,x.2.2.1,x.2.2.2.1⟩:aE)) (λx=>?_) (λx a=>?_)
      (bm.struct h.S_ h.lF (by simp[jB,c1,c2,c3,h.cT]) (by simp[ic,c1,c2,c3,h.cT,h.cF])
        (cG.cons (bm.string h.str) (cG.cons (c n (by omega)) (cG.cons (bm.bool h.bool) (cG.cons (int n) cG.nil)))))
     ·simp[aE.cells]
     ·exact⟨a.1,a.2.1,a.2.2.2.1⟩
   refine bm.map (λ(x:Int×Int×Bool×List aE×Int×List T×Unit)=>(⟨x.1,x.2.1,x.2.2.1,x.2.2.2.1,x.2.2.2.2.1,x.2.2.2.2.2.1⟩:T)) (λx=>?_) (λx a=>?_)
    (bm.struct h.S9 h.lT (by simp[jB,c1,c2,b,c5]) (by simp[ic,c1,c2,b,c5,h.cT])
      (cG.cons (int n) (cG.cons (int n) (cG.cons (bm.bool h.bool) (cG.cons (bm.mono (bm.slice h.Tb h.cF (by decide) aE.len e) (aaD n)) (cG.cons (int n) (cG.cons (bm.mono (bm.slice h.Ta h.cT (by decide) T.len d) (aaD n)) cG.nil)))))))
   ·rw[T.bN];rfl
   · obtain⟨h1,f,_,⟨g,i⟩,j,⟨k,l⟩,_⟩:=a;exact⟨h1,f,g,aE.dX.2 i,j,k,T.dX.2 l⟩
end
end Rb

namespace Rb
open Go
variable{ti:TypeId}{n:Nat}
mutual
structure aA where
 kind:Int
 n:Int
 E:List UInt8
 op:Int
 aW:Int
 place:aX
 bp:List aA
structure aX where
 var:List UInt8
 bf:List aV
structure aV where
 field:List UInt8
 bB:List aA
end
mutual
def aA.cells:aA→List I
 | .mk kind n E op aW place bp=> .int .i64 kind :: .int .u64 n :: .str E :: .int .i64 op :: .int .i64 aW::(aX.cells place++[.ab .dead bp.length (aA.all bp)])
def aA.all:List aA→List I
 |[]=>[]
 |x::r=>aA.cells x++aA.all r
def aX.cells:aX→List I
 | .mk var bf=>[.str var,.ab .dead bf.length (aV.all bf)]
def aV.cells:aV→List I
 | .mk field bB=>[.str field,.ab .dead bB.length (aA.all bB)]
def aV.all:List aV→List I
 |[]=>[]
 |x::r=>aV.cells x++aV.all r
end
theorem aA.all_eq:∀xs:List aA,aA.all xs=xs.flatMap aA.cells
 |[]=>rfl
 |x::r=>by rw[aA.all,aA.all_eq r,adn]
theorem aV.all_eq:∀xs:List aV,aV.all xs=xs.flatMap aV.cells
 |[]=>rfl
 |x::r=>by rw[aV.all,aV.all_eq r,adn]
theorem aX.bN(x:aX):x.cells=[.str x.var,aQ aV.cells x.bf]:=by cases x;simp only[aX.cells,aV.all_eq,aQ]
theorem aV.bN(x:aV):x.cells=[.str x.field,aQ aA.cells x.bB]:=by cases x;simp only[aV.cells,aA.all_eq,aQ]
theorem aA.bN(x:aA):x.cells = .int .i64 x.kind :: .int .u64 x.n :: .str x.E :: .int .i64 x.op :: .int .i64 x.aW::(x.place.cells++[aQ aA.cells x.bp]):=by cases x;simp only[aA.cells,aA.all_eq,aQ]
theorem aX.len(x:aX):x.cells.length=2:=by rw[aX.bN];rfl
theorem aV.len(x:aV):x.cells.length=2:=by rw[aV.bN];rfl
theorem aA.len(x:aA):x.cells.length=8:=by rw[aA.bN];simp[aX.len]
def mD(z:Int):Prop:=0≤z∧z≤18446744073709551615
mutual
def aA.ok:aA→Prop
 | .mk kind n E op aW place bp=>jC kind∧mD n∧E.length≤140737488351232∧jC op∧jC aW∧aX.ok place∧bp.length≤maxLen∧aA.dR bp
def aA.dR:List aA→Prop
 |[]=>True
 |x::r=>aA.ok x∧aA.dR r
def aX.ok:aX→Prop
 | .mk var bf=>var.length≤140737488351232∧bf.length≤maxLen∧aV.dR bf
def aV.ok:aV→Prop
 | .mk field bB=>field.length≤140737488351232∧bB.length≤maxLen∧aA.dR bB
def aV.dR:List aV→Prop
 |[]=>True
 |x::r=>aV.ok x∧aV.dR r
end
theorem aA.dX:∀{xs:List aA},aA.dR xs↔∀x∈xs,x.ok
 |[]=>by simp[aA.dR]
 |x::r=>by simp[aA.dR,aA.dX (xs:=r)]
theorem aV.dX:∀{xs:List aV},aV.dR xs↔∀x∈xs,x.ok
 |[]=>by simp[aV.dR]
 |x::r=>by simp[aV.dR,aV.dX (xs:=r)]
structure B where
 E:List UInt8
 type:T
def B.cells(x:B):List I:= .str x.E::x.type.cells
theorem B.len(x:B):x.cells.length=7:=by simp[B.cells,T.len]
def B.ok(x:B):Prop:=x.E.length≤140737488351232∧x.type.ok
section
variable{H:Type}{enc:TypeId×Value→H}{P:Program}{w:World}{sp:Nat→Bool}{held:Bool}{F:cJ}
theorem bm.i64(h:P.underlying ti=some (.int .i64)):bm F enc P w sp held n ti (λz:Int=>[.int .i64 z]) jC:=bm.map id (λ_=>rfl) (λx a=>by simp only[ady,adz,Z_,aaa,aR]at a;show -9223372036854775808≤x∧x≤9223372036854775807;omega) (bm.int h)
theorem bm.u64(h:P.underlying ti=some (.int .u64)):bm F enc P w sp held n ti (λz:Int=>[.int .u64 z]) mD:=bm.map id (λ_=>rfl) (λx a=>by simp[ady,adz,Z_,aaa]at a;show 0≤x∧x≤18446744073709551615;omega) (bm.int h)
structure A7(P:Program)(ti tu ts tE tL tR sE sR:TypeId)(fE fL fR:Array Field):Prop where
 int:P.underlying ti=some (.int .i64)
 u64:P.underlying tu=some (.int .u64)
 str:P.underlying ts=some .string
 exp:P.underlying tE=some (.struct fE)
 Td:P.underlying tL=some (.struct fL)
 par:P.underlying tR=some (.struct fR)
 Jj:P.underlying sE=some (.slice tE)
 Te:P.underlying sR=some (.slice tR)
 lE:fE.toList.map (λf=>(f.type,f.offset))=[(ti,0),(tu,1),(ts,2),(ti,3),(ti,4),(tL,5),(sE,7)]
 lL:fL.toList.map (λf=>(f.type,f.offset))=[(ts,0),(sR,1)]
 lR:fR.toList.map (λf=>(f.type,f.offset))=[(ts,0),(sE,1)]
 cE:P.cellsOf tE=8
 cL:P.cellsOf tL=2
 cR:P.cellsOf tR=2
 c1:∀t∈[ti,tu,ts,sE,sR],P.cellsOf t=1
theorem Jk{ti tu ts tE tL tR sE sR:TypeId}{fE fL fR:Array Field}(h:A7 P ti tu ts tE tL tR sE sR fE fL fR) :
  ∀n,bm F enc P w sp held n tE aA.cells aA.ok∧bm F enc P w sp held n tL aX.cells aX.ok∧bm F enc P w sp held n tR aV.cells aV.ok:=by
 have c1:P.cellsOf ti=1:=h.c1 _ (by simp);have c2:P.cellsOf tu=1:=h.c1 _ (by simp);have c3:P.cellsOf ts=1:=h.c1 _ (by simp);have d:P.cellsOf sE=1:=h.c1 _ (by simp);have c5:P.cellsOf sR=1:=h.c1 _ (by simp);intro n;induction n with
 |zero=>exact⟨bm.zero,bm.zero,bm.zero⟩
 | succ n f=>
  obtain⟨g,i,j⟩:=f;have e:=bm.mono (bm.slice h.Jj h.cE (by decide) aA.len g) (aaD n);have k:=bm.mono (bm.slice h.Te h.cR (by decide) aV.len j) (aaD n);refine⟨?_,?_,?_⟩
  · refine bm.map (λ(x:Int×Int×List UInt8×Int×Int×aX×List aA×Unit)=>(⟨x.1,x.2.1,x.2.2.1,x.2.2.2.1,x.2.2.2.2.1,x.2.2.2.2.2.1,x.2.2.2.2.2.2.1⟩:aA)) (λx=>?_) (λx a=>?_)
      (bm.struct h.exp h.lE (by simp[jB,c1,c2,c3,d,h.cL]) (by simp[ic,c1,c2,c3,d,h.cL,h.cE])
        (cG.cons (bm.i64 h.int) (cG.cons (bm.u64 h.u64) (cG.cons (bm.string h.str) (cG.cons (bm.i64 h.int) (cG.cons (bm.i64 h.int) (cG.cons i (cG.cons e cG.nil))))))))
    ·rw[aA.bN];simp
    · obtain⟨h1,b,c,l,m,o,⟨p,q⟩,_⟩:=a;exact⟨h1,b,c,l,m,o,p,aA.dX.2 q⟩
  · refine bm.map (λ(x:List UInt8×List aV×Unit)=>(⟨x.1,x.2.1⟩:aX)) (λx=>?_) (λx a=>?_)
      (bm.struct h.Td h.lL (by simp[jB,c3,c5]) (by simp[ic,c3,c5,h.cL]) (cG.cons (bm.string h.str) (cG.cons k cG.nil)))
    ·rw[aX.bN];rfl
    · obtain⟨h1,⟨b,c⟩,_⟩:=a;exact⟨h1,b,aV.dX.2 c⟩
  · refine bm.map (λ(x:List UInt8×List aA×Unit)=>(⟨x.1,x.2.1⟩:aV)) (λx=>?_) (λx a=>?_)
      (bm.struct h.par h.lR (by simp[jB,c3,d]) (by simp[ic,c3,d,h.cR]) (cG.cons (bm.string h.str) (cG.cons e cG.nil)))
    ·rw[aV.bN];rfl
    · obtain⟨h1,⟨b,c⟩,_⟩:=a;exact⟨h1,b,aA.dX.2 c⟩
end
end Rb

namespace Rb
open Go
structure U where
 kind:Int
 V:Int
 E:List UInt8
 cq:List UInt8
 aW:Int
 place:aX
 bc:List aA
 be:List U
 bA:List U
mutual
def U.cells:U→List I
 | .mk kind V E cq aW place bc be bA=> .int .i64 kind :: .int .i64 V :: .str E :: .str cq :: .int .i64 aW::(aX.cells place++[aQ aA.cells bc,.ab .dead be.length (U.all be),.ab .dead bA.length (U.all bA)])
def U.all:List U→List I
 |[]=>[]
 |x::r=>U.cells x++U.all r
end
theorem U.all_eq:∀xs:List U,U.all xs=xs.flatMap U.cells
 |[]=>rfl
 |x::r=>by rw[U.all,U.all_eq r,adn]
theorem U.bN(x:U):x.cells = .int .i64 x.kind :: .int .i64 x.V :: .str x.E :: .str x.cq :: .int .i64 x.aW::(x.place.cells++[aQ aA.cells x.bc,aQ U.cells x.be,aQ U.cells x.bA]):=by cases x;simp only[U.cells,U.all_eq,aQ]
theorem U.len(x:U):x.cells.length=10:=by rw[U.bN];simp[aX.len]
mutual
def U.ok:U→Prop
 | .mk kind V E cq aW place bc be bA=>jC kind∧jC V∧E.length≤140737488351232∧cq.length≤140737488351232∧jC aW∧aX.ok place∧bc.length≤maxLen∧aA.dR bc∧be.length≤maxLen∧U.dR be∧bA.length≤maxLen∧U.dR bA
def U.dR:List U→Prop
 |[]=>True
 |x::r=>U.ok x∧U.dR r
end
theorem U.dX:∀{xs:List U},U.dR xs↔∀x∈xs,x.ok
 |[]=>by simp[U.dR]
 |x::r=>by simp[U.dR,U.dX (xs:=r)]
structure cH where
 vars:List B
 bo:List (List U)
def el(l:List U):List I:=[aQ U.cells l]
def cH.cells(x:cH):List I:=[aQ B.cells x.vars,aQ el x.bo]
def cH.ok(x:cH):Prop:=(x.vars.length≤maxLen∧∀v∈x.vars,v.ok)∧x.bo.length≤maxLen∧∀t∈x.bo,t.length≤maxLen∧∀s∈t,s.ok
section
variable{H:Type}{enc:TypeId×Value→H}{P:Program}{w:World}{sp:Nat→Bool}{held:Bool}{F:cJ}
theorem Tf{ts tT a:TypeId}{b:Array Field}(hs:P.underlying ts=some .string)(c:P.cellsOf ts=1)(cT:P.cellsOf tT=6)(hT:∀n,bm F enc P w sp held n tT T.cells T.ok)
  (e:P.underlying a=some (.struct b)) (g:b.toList.map (λf=>(f.type,f.offset))=[(ts,0),(tT,1)]) (h:P.cellsOf a=7):∀n,bm F enc P w sp held n a B.cells B.ok:=by
 intro n;refine bm.mono (n:=n+1) ?_ (aaD n);refine bm.map (λ(x:List UInt8×T×Unit)=>(⟨x.1,x.2.1⟩:B)) (λx=>?_) (λx d=>?_)
  (bm.struct e g (by simp[jB,c]) (by simp[ic,c,cT,h]) (cG.cons (bm.string hs) (cG.cons (hT n) cG.nil)))
 ·simp[B.cells]
 ·exact⟨d.1,d.2.1⟩
theorem Tg{ti tu ts tE tL tR sE sR a b:TypeId}{fE fL fR c:Array Field}(h:A7 P ti tu ts tE tL tR sE sR fE fL fR)(hS:P.underlying a=some (.struct c))(j:P.underlying b=some (.slice a))
  (k:c.toList.map (λf=>(f.type,f.offset))=[(ti,0),(ti,1),(ts,2),(ts,3),(ti,4),(tL,5),(sE,7),(b,8),(b,9)]) (d:P.cellsOf a=10) (e:P.cellsOf b=1) :
  ∀n,bm F enc P w sp held n a U.cells U.ok:=by
 have c1:P.cellsOf ti=1:=h.c1 _ (by simp);have c3:P.cellsOf ts=1:=h.c1 _ (by simp);have g:P.cellsOf sE=1:=h.c1 _ (by simp);intro n;induction n with
 |zero=>exact bm.zero
 | succ n l=>
  have m:=bm.mono (bm.slice h.Jj h.cE (by decide) aA.len (Jk (F:=F) (enc:=enc) (w:=w) (sp:=sp) (held:=held) h n).1) (aaD n);have i:=bm.mono (bm.slice j d (by decide) U.len l) (aaD n);refine bm.map (λ(x:Int×Int×List UInt8×List UInt8×Int×aX×List aA×List U×List U×Unit)=>(⟨x.1,x.2.1,x.2.2.1,x.2.2.2.1,x.2.2.2.2.1,x.2.2.2.2.2.1,x.2.2.2.2.2.2.1,x.2.2.2.2.2.2.2.1,x.2.2.2.2.2.2.2.2.1⟩:U)) (λx=>?_) (λx o=>?_)
   (bm.struct hS k (by simp[jB,c1,c3,g,e,h.cL]) (by simp[ic,c1,c3,g,e,h.cL,d])
     (cG.cons (bm.i64 h.int) (cG.cons (bm.i64 h.int) (cG.cons (bm.string h.str) (cG.cons (bm.string h.str) (cG.cons (bm.i64 h.int) (cG.cons (Jk h n).2.1 (cG.cons m (cG.cons i (cG.cons i cG.nil))))))))))
  ·rw[U.bN];simp
  · obtain⟨h1,p,q,r,s,t,⟨u,v⟩,⟨y,z⟩,⟨A,B⟩,_⟩:=o;exact⟨h1,p,q,r,s,t,u,aA.dX.2 v,y,U.dX.2 z,A,U.dX.2 B⟩
theorem Th{c sV d a b e:TypeId}{g:Array Field}(j:∀n,bm F enc P w sp held n c B.cells B.ok)(hS:∀n,bm F enc P w sp held n d U.cells U.ok)
  (k:P.underlying sV=some (.slice c)) (l:P.underlying a=some (.slice d)) (m:P.underlying b=some (.slice a)) (o:P.cellsOf c=7) (p:P.cellsOf d=10) (q:P.cellsOf a=1) (h:P.cellsOf sV=1) (r:P.cellsOf b=1)
  (s:P.underlying e=some (.struct g)) (t:g.toList.map (λf=>(f.type,f.offset))=[(sV,0),(b,1)]) (u:P.cellsOf e=2):∀n,bm F enc P w sp held n e cH.cells cH.ok:=by
 intro n;refine bm.mono (n:=n+2+1) ?_ (by omega);have k1:bm F enc P w sp held (n+2) sV (λxs:List B=>[aQ B.cells xs]) (λxs=>xs.length≤maxLen∧∀x∈xs,x.ok):=bm.slice k o (by decide) B.len (j (n+1));have k2:bm F enc P w sp held (n+1) a el (λxs=>xs.length≤maxLen∧∀x∈xs,x.ok):=bm.slice l p (by decide) U.len (hS n);have v:bm F enc P w sp held (n+2) b (λxs:List (List U)=>[aQ el xs]) (λxs=>xs.length≤maxLen∧∀x∈xs,x.length≤maxLen∧∀y∈x,y.ok):=bm.slice m q (by decide) (λ_=>rfl) k2;refine bm.map (λ(x:List B×List (List U)×Unit)=>(⟨x.1,x.2.1⟩:cH)) (λx=>?_) (λx i=>?_)
  (bm.struct s t (by simp[jB,h]) (by simp[ic,h,r,u]) (cG.cons k1 (cG.cons v cG.nil)))
 ·simp[cH.cells]
 ·exact⟨i.1,i.2.1⟩
end
end Rb

namespace Rb
open Go
@[simp] theorem X {α:Type} (a:α) (K:α→Prop):Do (some a) K↔K a:=⟨λ⟨b,h,k⟩=>by cases h;exact k,λh=>⟨a,rfl,h⟩⟩
@[simp] theorem aH (v:I) (H:AH) (K:ad):au (some (v,H)) K↔K v H:=⟨λ⟨a,b,h,k⟩=>by cases h;exact k,λh=>⟨v,H,rfl,h⟩⟩
@[simp] theorem F (b:Bool) (A B:Prop):Gd (.bool b) true A B↔if b=true then A else B:=adA
@[simp] theorem ZA (b:Bool) (A B:Prop):Gd (.bool b) false A B↔if b=false then A else B:=adA
@[simp] theorem aC (K:List I→AH→Prop) (st:List I) (H:AH):G K st H↔K st H:=adA
@[simp] theorem ax (a:I) (l:List I):D (a::l) 0=a:=rfl
@[simp] theorem bR (a:I) (l:List I) (i:Nat):D (a::l) (i+1)=D l i:=rfl
section
variable(k:IntKind)(a b:Int)
@[simp] theorem bu:M .add (.int k a) (.int k b)=some (.int k (k.wrap (a+b))):=by simp[M,cg]
@[simp] theorem cU:M .sub (.int k a) (.int k b)=some (.int k (k.wrap (a-b))):=by simp[M,cg]
@[simp] theorem gC:M .mul (.int k a) (.int k b)=some (.int k (k.wrap (a*b))):=by simp[M,cg]
@[simp] theorem b5:M .eql (.int k a) (.int k b)=some (.bool (a==b)):=by simp[M,cg]
@[simp] theorem dc:M .neq (.int k a) (.int k b)=some (.bool (a != b)):=by simp[M,cg]
@[simp] theorem aS:M .lss (.int k a) (.int k b)=some (.bool (decide (a<b))):=by simp[M,cg]
@[simp] theorem hK:M .leq (.int k a) (.int k b)=some (.bool (decide (a≤b))):=by simp[M,cg]
@[simp] theorem dC:M .gtr (.int k a) (.int k b)=some (.bool (decide (a>b))):=by simp[M,cg]
@[simp] theorem eQ:M .geq (.int k a) (.int k b)=some (.bool (decide (a≥b))):=by simp[M,cg]
theorem wP(h:b≠0):M .rem (.int k a) (.int k b)=some (.int k (a.tmod b)):=by simp[M,cg,h]
theorem j3(h:b≠0):M .quo (.int k a) (.int k b)=some (.int k (k.wrap (a.tdiv b))):=by simp[M,cg,h]
@[simp] theorem A8:M .and (.int k a) (.int k b)=some (.int k (k.wrap (VR k.bits a &&& VR k.bits b).toNat)):=by simp[M,cg,jh]
@[simp] theorem Ti:M .or (.int k a) (.int k b)=some (.int k (k.wrap (VR k.bits a ||| VR k.bits b).toNat)):=by simp[M,cg,jh]
@[simp] theorem Tj:M .xor (.int k a) (.int k b)=some (.int k (k.wrap (VR k.bits a ^^^ VR k.bits b).toNat)):=by simp[M,cg,jh]
theorem Jl(k':IntKind)(h:0≤b):M .shr (.int k a) (.int k' b)=some (.int k (a.fdiv (2^(min b.toNat k.bits)))):=by simp[M,cg,adB.2 h]
theorem rk(k':IntKind)(h:0≤b):M .shl (.int k a) (.int k' b)=some (.int k (k.wrap (a*2^(min b.toNat k.bits)))):=by simp[M,cg,adB.2 h]
@[simp] theorem ie (k':IntKind):dK k' (.int k a)=some (.int k' (k'.wrap a)):=rfl
@[simp] theorem Tk (neg:Bool) (x y:Bool):ku neg (.bool x) (.bool y)=some (.bool (if neg then !(x==y)else x==y)):=rfl
@[simp] theorem eg (x:Bool):cO .not (.bool x)=some (.bool !x):=rfl
end
@[simp] theorem fQ (tk:Tok) (n:Nat) (cs:List I):aU false (.ab tk n cs)=some (J n):=rfl
@[simp] theorem k0 (id o n sz:Nat):aU false (.row id o n sz)=some (J n):=rfl
@[simp] theorem Tl (s:List UInt8):aU true (.str s)=some (J s.length):=rfl
end Rb

namespace Rb
open Go
variable{id i:Nat}{x:bS}{n:Int}{cs:List I}
def AH.Ext(H H':AH):Prop:=H.n≤H'.n∧∀i,i<H.n→H'.o i=H.o i
theorem AH.Ext.refl(H:AH):AH.Ext H H:=⟨np _,λ_ _=>rfl⟩
theorem AH.Ext.trans{a b c:AH}(h:AH.Ext a b)(k:AH.Ext b c):AH.Ext a c:=⟨sl h.1 k.1,λi hi=>(k.2 i (AV hi h.1)).trans (h.2 i hi)⟩
theorem AH.Ext.push(H:AH)(x:bS):AH.Ext H (H.push x):=⟨aaD _,λi hi=>ak (aaI hi)⟩
theorem AH.Ext.set{H H':AH}(h:AH.Ext H H')(hi:H.n≤i)(x:bS):AH.Ext H (H'.set i x):=⟨h.1,λj a=>by simp only[AH.set];rw[bM];exact h.2 j a⟩
@[simp] theorem AH.ZB (H:AH) (x:bS):(H.push x).n=H.n+1:=rfl
@[simp] theorem AH.ZC (H:AH) (i:Nat) (x:bS):(H.set i x).n=H.n:=rfl
theorem AH.pL(H:AH)(x:bS):(H.push x).o H.n=x:=af rfl
theorem AH.Jm(H:AH)(x:bS)(h:i≠H.n):(H.push x).o i=H.o i:=ak h
theorem AH.Tm(H:AH)(i:Nat)(x:bS):(H.set i x).o i=x:=af rfl
theorem AH.aZ(H:AH){i j:Nat}(x:bS)(h:j≠i):(H.set i x).o j=H.o j:=ak h
theorem wrap_i64(a : -9223372036854775808≤n)(b:n≤9223372036854775807):aa8 .i64 n=n:=by simp[aa8,Z_,aaa];omega
theorem wrap_u64(a:0≤n)(b:n<18446744073709551616):aa8 .u64 n=n:=by simp[aa8,Z_,aaa];omega
def hh(H0 H:AH)(sz:Nat)(x:I)(len:Nat)(cells:List I):Prop:=AH.Ext H0 H∧∃tk,x = .ab tk len cells∧cells.length=len*sz∧((tk = .nil∧len=0)∨∃t,tk = .own t∧H0.n≤t∧t<H.n∧H.o t = .tok (len*sz) sz)
theorem hh.nil(H:AH)(sz:Nat):hh H H sz aw 0 []:=⟨AH.Ext.refl H,.nil,rfl,by simp,.inl ⟨rfl,rfl⟩⟩
theorem hh.append{H0 H:AH}{sz bytes len m:Nat}{x y:I}{cells news:List I}{K:ad}(h:hh H0 H sz x len cells)(b:dQ H sz y=some (m,news))(g:news.length=m*sz)(hs:news.all I.scalar=true)(c:m≠0)
  (d:(len+m)*bytes≤140737488355328) (hl:len+m≤9223372036854775807) (e:∀f H',hh H0 H' sz f (len+m) (cells++news)→K f H'):au (bH H false sz bytes x y) K:=by
 obtain⟨a,tk,rfl,hc,i⟩:=h;have hlen:(cells++news).length=(len+m)*sz:=by simp[hc,g,aaw]
 rcases i with⟨rfl,rfl⟩|⟨t,rfl,h1,k,j⟩
 · refine⟨.ab (.own H.n) (0+m) (cells++news),H.push (.tok ((0+m)*sz) sz),?_,e _ _ ⟨a.trans (AH.Ext.push _ _),_,rfl,hlen,.inr ⟨H.n,rfl,a.1,acP _,AH.pL _ _⟩⟩⟩;simp only[bH,b,hs,not_true_eq_false,bz,ak c];rw[ak (by simp only[adC];exact⟨hc,d,hl⟩)]
 · refine⟨.ab (.own H.n) (len+m) (cells++news),(H.set t .gone).push (.tok ((len+m)*sz) sz),?_,e _ _ ⟨(a.set h1 _).trans (AH.Ext.push _ _),_,rfl,hlen,.inr ⟨H.n,rfl,a.1,acP _,AH.pL _ _⟩⟩⟩;simp only[bH,b,hs,not_true_eq_false,bz,ak c];rw[ak (by simp only[adC];exact⟨hc,d,hl⟩)];simp[j]
def At(H:AH)(id:Nat)(x:bS):Prop:=id<H.n∧H.o id=x
theorem At.new(H:AH)(x:bS):At (H.push x) H.n x:=⟨acP _,AH.pL H x⟩
theorem At.ext{H H':AH}(h:At H id x)(hE:AH.Ext H H'):At H' id x:=⟨AV h.1 hE.1,(hE.2 id h.1).trans h.2⟩
theorem At.push{H:AH}(h:At H id x)(y:bS):At (H.push y) id x:=h.ext (AH.Ext.push H y)
theorem At.aZ{H:AH}(h:At H id x)(a:id≠i)(y:bS):At (H.set i y) id x:=⟨h.1,(AH.aZ H y a).trans h.2⟩
theorem At.set{H:AH}(h:At H id x)(y:bS):At (H.set id y) id y:=⟨h.1,AH.Tm H id y⟩
theorem At.ne{H:AH}{x y:bS}(h:At H id x)(k:At H i y)(a:x≠y):id≠i:=λe=>a (by rw[←h.2,←k.2,e])
theorem At.k3{H:AH}(h:At H id x):id≠H.n:=aaI h.1
theorem At.load{H:AH}(h:At H id (.row cs))(n o:Nat)(agg:Bool):Z H n agg (.ptr id o)=bw cs o n agg:=by simp[Z,h.2]
theorem At.store{H:AH}(h:At H id (.row cs))(n o:Nat)(v:I):Y H n (.ptr id o) v=if v.known∧v.cells.length=n∧v.cells.all I.scalar∧o+n≤cs.length then some (H.set id (.row (setCells cs o v.cells)))else none:=by simp[Y,h.2]
theorem bJ(a : -9223372036854775808≤n:=by omega)(b:n≤9223372036854775807:=by omega):aa8 .i64 n=n:=wrap_i64 a b
theorem Jn(a:0≤n:=by omega)(b:n<18446744073709551616:=by omega):aa8 .u64 n=n:=wrap_u64 a b
end Rb

namespace Rb
open Go
variable{α:Type}{i:Nat}
@[simp] theorem cD (b:Bool) (A B C:Prop):aM (.bool b) true A B C↔if b=true then A else B:=adA
@[simp] theorem cy (b:Bool) (A B C:Prop):aM (.bool b) false A B C↔if b=false then A else B:=adA
@[simp] theorem ZD (want:Bool) (A B C:Prop):aM (.ar []) want A B C↔C:=adA
theorem ay{c:Prop}[Decidable c]{A B:Prop}(a:c→A)(b:¬c→B):if c then A else B:=by
 split
 ·exact a ‹_›
 ·exact b ‹_›
theorem ff{xs:List α}(h:xs.drop i=[]):xs.length≤i:=by simpa using h
theorem eR{xs b:List α}{y:α}(h:xs.drop i=y::b):i<xs.length∧xs[i]?=some y∧xs.drop (i+1)=b:=by
 have c:i<xs.length:=by
  rcases Nat.lt_or_ge i xs.length with a|a
  ·exact a
  ·rw[List.drop_eq_nil_of_le a]at h;cases h
 refine⟨c,?_,?_⟩
 · have:=congrArg (λl=>l[0]?) h;simpa using this
 · have:=congrArg List.tail h;simpa using this
end Rb

namespace Rb
open Go
section
variable{α:Type}{cells:α→List I}{sz:Nat}
theorem wQ(hc:∀x,(cells x).length=sz):∀(xs:List α)(i:Nat),(xs.flatMap cells).drop (i*sz)=(xs.drop i).flatMap cells:=by
 intro xs i;induction i generalizing xs with
 |zero=>simp
 | succ i a=>
  cases xs with
  |nil=>simp
  | cons x xs=>rw[adn,ac2,←a,show(i+1)*sz=(cells x).length+i*sz by rw[hc,aaw,Nat.one_mul,Nat.add_comm],←adv,List.drop_left]
theorem Tn(hc:∀x,(cells x).length=sz)(xs:List α):(xs.flatMap cells).length=xs.length*sz:=by
 induction xs with
 |nil=>simp
 |cons x xs a=>rw[adn,adD,a,hc,List.length_cons,aaw];omega
def eS(cells:α→List I)(sz:Nat)(xs:List α)(i:Nat):I:= .aj ((xs.flatMap cells).drop (i*sz))
theorem dP{xs:List α}{i:Nat}(hi:i<xs.length):aG none sz (aQ cells xs) (J i)=some (eS cells sz xs i):=by simp only[aQ,aG];rw[af ⟨by omega,by omega⟩];rfl
theorem en(hc:∀x,(cells x).length=sz)(d:0<sz)(H:AH){xs:List α}{i:Nat}{x:α}(a:xs[i]?=some x):Z H sz true (eS cells sz xs i)=some (.agg (cells x)):=by
 have b:=(ZX.1 a).1;have c:xs.drop i=x::xs.drop (i+1):=by rw[adE b];rw[aaQ b]at a;simp at a;rw[a]
 show bw ((xs.flatMap cells).drop (i*sz)) 0 sz true=_;rw[wQ hc,c,adn];unfold bw;rw[af (by rw[adD,hc];omega)];simp only[aR,adx];rw[adF (by rw[hc];omega),adG (by rw[hc];omega)]
def wR(sz:Nat)(Φ:ae)(a0:I)(W:I)(d:I)(Q:ad):(List I×AH)→((List I×AH)→Prop)→Prop:=λs2 e=>
 Do (M .lss (D s2.1 0) d) λf=>
 Gd f true (
 Do (aG none sz a0 (D s2.1 0)) λg=>
 Do (Z s2.2 sz true g) λh=>
 ∃a b,W = .fn a b∧Φ (fJ a) (fK a [h] b) s2.2 λi c=>
 Gd i true (
 Q (D s2.1 0) c) (
 Do (M .add (D s2.1 0) (J 1)) λj=>
 e ([j],c))) (
 Q (J (-1)) s2.2)
def rl(sz:Nat)(Φ:ae)(a0:I)(W:I)(H:AH)(Q:ad):Prop:=
 Do (aU false a0) λa=>
 av (wR sz Φ a0 W a Q) ([O],H)
def ga:Option Nat→Int
 |some i=>i
 |none=> -1
theorem A9{Φ:ae}(hc:∀x,(cells x).length=sz)(e:0<sz){p:α→Bool}{key:Nat}{bE:List I}{xs:List α}{H:AH}(hf:∀x∈xs,∀(R:ad),R (.bool (p x)) H→Φ key ([.agg (cells x)]++bE) H R)(hl:xs.length≤9223372036854775807){Q:ad}
  (f:Q (J (ga (xs.findIdx? p))) H) (c:fD key=none:=by first|assumption|rfl):rl sz Φ (aQ cells xs) (.fn key bE) H Q:=by
 unfold rl;have hlen:aU false (aQ cells xs)=some (J xs.length):=rfl;rw[hlen];simp only[X];have main:∀(a:List α)(i:Nat),xs.drop i=a→Q (J (ga ((a.findIdx? p).map (·+ i)))) H→av (wR sz Φ (aQ cells xs) (.fn key bE) (J xs.length) Q) ([J i],H):=by
  intro a;induction a with
  | nil=>intro i hi b;have hle:=ff hi;refine av.step ?_;simp only[wR,ax,aS,X,F];rw[eT];simpa[ga]using b
  | cons y a g=>
   intro i hi b;obtain⟨h,d,j⟩:=eR hi;refine av.step ?_;simp only[wR,ax,aS,X,F];rw[eH,dP h];simp only[X];rw[en hc e H d];simp only[X];refine⟨key,bE,rfl,?_⟩;rw[yf c,yg c];refine hf y (List.mem_of_getElem? d) _ ?_;simp only[F];rw[List.findIdx?_cons]at b;by_cases he:p y=true
   · rw[af he];rw[af he]at b;simpa[ga]using b
   · rw [ak he];rw[ak he]at b;simp only[bu,X];rw[bJ,iW i];refine g (i+1) j ?_;have:(adH p a).map (·+ (i+1))=((adH p a).map (·+ 1)).map (·+ i):=by
      rw[Option.map_map];congr 1;funext k;simp only[Function.comp];omega
     rw[this];exact b
 refine main xs 0 rfl ?_;simpa using f
end
end Rb

namespace Rb
open Go
theorem lN(a b:List I):I.bF (a++b)=(I.bF a&&I.bF b):=by rw[kP,kP,kP,adI]
mutual
theorem T.bh:∀x:T,I.bF x.cells=true
 | .mk kind size packed aN b6 bq=>by simp only[T.cells,I.bF,I.bh,Tok.free,aE.hM aN,T.hM bq,ac0]
theorem T.hM:∀xs:List T,I.bF (T.all xs)=true
 |[]=>rfl
 |x::r=>by rw[T.all,lN,T.bh x,T.hM r];rfl
theorem aE.bh:∀x:aE,I.bF x.cells=true
 | .mk E type bits bb=>by simp only[aE.cells,I.bF,I.bh,lN,T.bh type,ac0]
theorem aE.hM:∀xs:List aE,I.bF (aE.all xs)=true
 |[]=>rfl
 |x::r=>by rw[aE.all,lN,aE.bh x,aE.hM r];rfl
end
mutual
theorem aA.bh:∀x:aA,I.bF x.cells=true
 | .mk kind n E op aW place bp=>by simp only[aA.cells,I.bF,I.bh,lN,Tok.free,aX.bh place,aA.hM bp,ac0]
theorem aA.hM:∀xs:List aA,I.bF (aA.all xs)=true
 |[]=>rfl
 |x::r=>by rw[aA.all,lN,aA.bh x,aA.hM r];rfl
theorem aX.bh:∀x:aX,I.bF x.cells=true
 | .mk var bf=>by simp only[aX.cells,I.bF,I.bh,Tok.free,aV.hM bf,ac0]
theorem aV.bh:∀x:aV,I.bF x.cells=true
 | .mk field bB=>by simp only[aV.cells,I.bF,I.bh,Tok.free,aA.hM bB,ac0]
theorem aV.hM:∀xs:List aV,I.bF (aV.all xs)=true
 |[]=>rfl
 |x::r=>by rw[aV.all,lN,aV.bh x,aV.hM r];rfl
end
theorem lO{α:Type}{cells:α→List I}(h:∀x,I.bF (cells x)=true)(xs:List α):(aQ cells xs).bh=true:=by
 have:I.bF (xs.flatMap cells)=true:=by
  induction xs with
  |nil=>rfl
  |cons x xs a=>rw[adn,lN,h,a];rfl
 simp only[aQ,I.bh,Tok.free,this,ac0]
theorem B.bh(x:B):I.bF x.cells=true:=by simp only[B.cells,I.bF,I.bh,T.bh,ac0]
mutual
theorem U.bh:∀x:U,I.bF x.cells=true
 | .mk kind V E cq aW place bc be bA=>by simp only[U.cells,I.bF,I.bh,lN,Tok.free,aX.bh place,lO aA.bh bc,U.hM be,U.hM bA,ac0]
theorem U.hM:∀xs:List U,I.bF (U.all xs)=true
 |[]=>rfl
 |x::r=>by rw[U.all,lN,U.bh x,U.hM r];rfl
end
theorem To(l:List U):I.bF (el l)=true:=by simp only[el,I.bF,lO U.bh,ac0]
theorem cH.bh(x:cH):I.bF x.cells=true:=by simp only[cH.cells,I.bF,lO B.bh,lO To,ac0]
end Rb

namespace Rb
open Go
@[simp] theorem AH.Tp (H:AH) (x y:bS):(H.push x).set H.n y=H.push y:=by simp only[AH.push,AH.set];congr 1;funext j;split<;>rfl
@[simp] theorem dS (H:AH) (cs:List I) (n o:Nat) (agg:Bool):Z (H.push (.row cs)) n agg (.ptr H.n o)=bw cs o n agg:=by simp[Z,AH.pL]
theorem Tq(H:AH)(cs:List I)(n o:Nat)(v:I)(a:v.known=true)(b:v.cells.length=n)(c:v.cells.all I.scalar=true)(d:o+n≤cs.length):Y (H.push (.row cs)) n (.ptr H.n o) v=some (H.push (.row (setCells cs o v.cells))):=by rw[(At.new H (.row cs)).store,af ⟨a,b,c,d⟩,AH.Tp]
theorem rm{xs a:List I}:∀{k:Nat},k+a.length=xs.length→setCells xs k a=xs.take k++a:=by
 induction a generalizing xs with
 |nil=>intro k h;simp only[setCells];rw[adJ,adG (by simp at h;omega)]
 | cons y a b=>
  intro k h;simp only[setCells];rw[b (by simp at h ⊢;omega)];have hk:k<xs.length:=by simp at h;omega
  rw[List.take_add_one,List.getElem?_set_self hk,List.take_set_of_le (by omega)];simp
theorem cC(H:AH)(zs cs:List I)(n:Nat)(a:cs.length=n)(b:cs.all I.scalar=true)(c:zs.length=n):Y (H.push (.row zs)) n (.ptr H.n 0) (.agg cs)=some (H.push (.row cs)):=by rw[Tq H zs n 0 (.agg cs) rfl a b (by omega)];congr 3;show setCells zs 0 cs=cs;rw[rm (by omega)];rfl
theorem rq{a b:List I}{n:Nat}(h:a.length=n):bw (a++b) 0 n true=some (.agg a):=by unfold bw;rw[af (by rw[adD];omega)];simp only[aR,adx];rw[adF (by omega),adG (by omega)]
theorem eh{a:List I}{n:Nat}(h:a.length=n):bw a 0 n true=some (.agg a):=by have:=rq (a:=a) (b:=[]) h;rwa [adJ]at this
theorem Tr{cs:List I}{o n:Nat}{agg:Bool}(h:o≤cs.length):bw cs o n agg=bw (cs.drop o) 0 n agg:=by
 by_cases hl:o+n≤cs.length
 · have a:0+n≤(cs.drop o).length:=by rw[adK];omega
   unfold bw;simp only[hl,a,aR];cases agg<;>simp
 · have a:¬0+n≤(cs.drop o).length:=by rw[adK];omega
   unfold bw;simp only[hl,a,bz]
mutual
theorem T.scalar:∀x:T,x.cells.all I.scalar=true
 | .mk kind size packed aN b6 bq=>by simp[T.cells,I.scalar]
theorem aE.scalar:∀x:aE,x.cells.all I.scalar=true
 | .mk E type bits bb=>by simp only[aE.cells,acM,adI,T.scalar type];rfl
end
theorem aX.scalar(x:aX):x.cells.all I.scalar=true:=by rw[aX.bN];rfl
theorem aV.scalar(x:aV):x.cells.all I.scalar=true:=by rw[aV.bN];rfl
theorem aA.scalar(x:aA):x.cells.all I.scalar=true:=by rw[aA.bN];simp only[acM,adI,aX.scalar];rfl
theorem U.scalar(x:U):x.cells.all I.scalar=true:=by rw[U.bN];simp only[acM,adI,aX.scalar];rfl
theorem B.scalar(x:B):x.cells.all I.scalar=true:=by simp only[B.cells,acM,T.scalar];rfl
end Rb

namespace Rb
open Go
def i1(k:IntKind)(z:Int):List I:=[.int k z]
section
variable{α:Type}{c:α→I}
theorem Jo(H:AH){xs:List α}{i:Nat}{x:α}(a:xs[i]?=some x):Z H 1 false (eS (λx=>[c x]) 1 xs i)=some (c x):=by
 have b:=(ZX.1 a).1;have d:xs.drop i=x::xs.drop (i+1):=by rw[adE b];rw[aaQ b]at a;simp at a;rw[a]
 show bw ((xs.flatMap λx=>[c x]).drop (i*1)) 0 1 false=_;rw[wQ (sz:=1) (λ_=>rfl),d,adn];rfl
end
theorem dL{α:Type}(cells:α→List I)(xs:List α):aU false (aQ cells xs)=some (J xs.length):=rfl
end Rb

namespace Rb
open Go
variable{n b0 b1 b2 b3 i:Nat}{s:List UInt8}{c:UInt8}
def bC(Φ:ae)(k:Nat)(args:List I)(v:I):Prop:=∀(H:AH)(Q:ad),Q v H→Φ k args H Q
theorem bC.of{C:Ctx}(aq:bT C){k:Nat}{args:List I}{v:I}(a:I.bF args=true)(hv:v.bh=true)(h:∀Q:ad,(∀H',Q v H')→ai C k args AH.mt Q):bC (ai C) k args v:=λH Q b=>ai.tz (Q:=λu _=>u=v) aq (h _ λ_=>rfl) a H Q λu _ hu=>by subst hu;exact⟨hv,b⟩
def isLet(c:UInt8):Bool:=decide (97≤c.toNat)&&decide (c.toNat≤122)
def A_(c:UInt8):Bool:=decide (48≤c.toNat)&&decide (c.toNat≤57)
def lP(c:UInt8):Bool:=isLet c||A_ c||decide (c.toNat=95)
def eU:List UInt8→Bool
 |[]=>false
 |c::r=>decide (r.length<16)&&isLet c&&r.all lP
theorem Ts(h:b0<128):adL n b0 b1 b2 b3=(b0,1):=by unfold adL;rw[af h]
theorem Tt(h:¬b0<128):128≤(adL n b0 b1 b2 b3).1:=by
 unfold adL;rw[ak h]
 repeat' split
 all_goals (dsimp only;omega)
theorem Jq(hc:s[i]?=some c)(h:c.toNat<128):ZW ⟨s.toArray⟩ i=(c.toNat,1):=by
 have e:(Z6 s.toArray).get! i=c:=by show s.toArray[i]! = c;have hi:=(ZX.1 hc).1;rw[getElem!_pos s.toArray i (by simpa using hi)];simp[aaQ hi]at hc;simpa using hc
 rw[adM,e,Ts h]
theorem Tu(hc:s[i]?=some c)(h:¬c.toNat<128):128≤(ZW ⟨s.toArray⟩ i).1:=by
 have e:(Z6 s.toArray).get! i=c:=by show s.toArray[i]! = c;have hi:=(ZX.1 hc).1;rw[getElem!_pos s.toArray i (by simpa using hi)];simp[aaQ hi]at hc;simpa using hc
 rw[adM,e];exact Tt h
def eV(n a:Int):Bool:=(n==1||n==2||n==4||n==8||n==16)&&decide (n≤a)
def hN(kind b:Int)(packed:Bool)(c:Nat)(b6:Int)(a:Nat):Bool:=
 if kind=1∨kind=2 then !packed&&c==0&&b6==0&&a==0
 else if kind=3∨kind=4 then b==0&&b6==0&&a==0
 else if kind=5 then b==0&&!packed&&c==0&&a==1
 else false
mutual
def cQ:T→Int
 | .mk kind size packed aN b6 bq=>
  if hN kind size packed aN.length b6 bq.length=false then 8
  else if kind=1 then(if eV size 8 then 0 else 9)
  else if kind=2 then(if eV size 16 then 0 else 9)
  else if kind=5 then(if b6<1∨65536<b6 then 9 else Jr bq)
  else if aN.length<1∨32<aN.length then 12
  else fg packed [] aN
def Jr:List T→Int
 |[]=>0
 |t::_=>cQ t
def gb(packed:Bool)(seen:List (List UInt8)):aE→Int
 | .mk E type bits bb=>
  if eU E=false∧(E≠[]∨bits=false)then 6
  else if E≠[]∧seen.contains E=true then 7
  else if cQ type≠0 then cQ type
  else if(bits=false∧bb≠0)∨(bits=true∧(type.kind≠1∨packed=true))then 8
  else if bits=true∧(bb<0∨8*type.size<bb∨(bb=0∧E≠[]))then 9
  else 0
def fg(packed:Bool)(seen:List (List UInt8)):List aE→Int
 |[]=>0
 |f::r=>if gb packed seen f≠0 then gb packed seen f else fg packed (seen++[f.E]) r
end
mutual
def eo(a:Nat):T→Int
 | .mk kind size packed aN b6 bq=>if 1<a then max (fo (a-1) aN) (e8 (a-1) bq)+1 else 1
def rr(a:Nat):aE→Int
 | .mk E type bits bb=>eo a type
def fo(a:Nat):List aE→Int
 |[]=>0
 |f::r=>max (rr a f) (fo a r)
def e8(a:Nat):List T→Int
 |[]=>0
 |t::r=>max (eo a t) (e8 a r)
end
def eW(t:T):Int:=if 64<eo 65 t then 5 else cQ t
theorem T.ind{P:T→Prop}(h:∀t:T,(∀f∈t.aN,P f.type)→(∀e∈t.bq,P e)→P t):∀t,P t:=by
 have main:∀(n:Nat)(t:T),sizeOf t<n→P t:=by
  intro n;induction n with
  |zero=>intro t ht;omega
  | succ n a=>
   intro t ht;refine h t (λf hf=>a _ ?_) λe he=>a _ ?_
   · cases t with
     | mk kind size packed aN b6 bq=>
      have:=adN hf;cases f with
      |mk E type bits bb=>simp at this ht ⊢;omega
   · cases t with
     | mk kind size packed aN b6 bq=>have:=adN he;simp at this ht ⊢;omega
 exact λt=>main _ t (acP _)
end Rb

namespace Rb
open Go
variable{op c:Int}{b:Bool}{A B:Prop}{zs cs:List I}{n:Nat}
theorem ig(a:b=true→A)(c:b=false→B):if b=true then A else B:=ay a λh=>c (by simpa using h)
theorem ru(a:b=false→A)(c:b=true→B):if b=false then A else B:=ay a λh=>c (by simpa using h)
def pM(op:Int):Int×List UInt8:=
 if op=17 then(960495616,[100,97,111,115])else
 if op=18 then(956301312,[100,97,111,115])else
 if op=19 then(148896768,[100,97,115])else
 if op=20 then(144702464,[100,97,115])else
 if op=21 then(140475392,[100,97,115])else
 if op=22 then(140508160,[100,97,115])else
 if op=23 then(134249472,[100,97,115,109])else
 if op=24 then(134282240,[100,97,115,109])else
 if op=25 then(3363766272,[100,97,101])else
 if op=26 then(3363799040,[100,97,101])else
 if op=27 then(3357540352,[100,97,101,109])else
 if op=28 then(3357573120,[100,97,101,109])else(0,[])
def pN(op:Int):Int×List UInt8:=
 if op=13 then(335544320,[98])else
 if op=14 then(1409286144,[120,99])else
 if op=15 then(3019898880,[100,120])else
 if op=16 then(3036676096,[100,120])else
 if op=29 then(3573756095,[102])else
 if op=30 then(3573759839,[122])else
 if op=31 then(3556769793,[105])else
 if op=32 then(3558866944,[105])else pM op
def ep(op:Int):Int×List UInt8:=
 if op=1 then(3531603968,[100,105,113])else
 if op=2 then(4068474880,[100,105,113])else
 if op=3 then(2332033024,[100,110,109])else
 if op=4 then(3405774848,[100,110,109])else
 if op=5 then(3942645760,[100,110,109])else
 if op=6 then(2315255808,[100,110,109])else
 if op=7 then(2852126720,[100,110,109])else
 if op=8 then(3388997632,[100,110,109])else
 if op=9 then(2600500224,[100,110,109])else
 if op=10 then(2596282368,[100,110,109])else
 if op=11 then(2596283392,[100,110,109])else
 if op=12 then(2594113504,[100,107])else pN op
def dd(c:Int):Int×Int×Bool×Int×Int:=
 if c=100 then(0,5,false,0,31)else
 if c=110 then(5,5,false,0,31)else
 if c=97 then(5,5,false,0,30)else
 if c=109 then(16,5,false,0,31)else
 if c=101 then(10,5,false,0,31)else
 if c=113 then(21,2,false,0,3)else
 if c=99 then(0,2,false,0,3)else
 if c=107 then(12,2,false,1,3)else
 if c=115 then(30,2,false,0,3)else
 if c=105 then(5,16,false,0,65535)else
 if c=111 then(10,12,false,0,4095)else
 if c=98 then(0,26,true,0,0)else
 if c=120 then(5,19,true,0,0)else
 if c=102 then(8,4,false,0,2)else(0,0,false,0,0)
def eC(f:Int×Int×Bool×Int×Int):List I:=[.int .i64 f.1,.int .i64 f.2.1,.bool f.2.2.1,.int .u32 f.2.2.2.1,.int .i64 f.2.2.2.2]
def Js(c:Int)(f:Int×Int×Bool×Int×Int):Prop:=0≤f.1∧f.1≤31∧0≤f.2.1∧f.2.1≤26∧(f.2.2.1=true→1≤f.2.1)∧(c=102→f.2.2.1=false∧f.2.2.2.2=2)
theorem wT{α:Type}{c:Prop}[Decidable c]{a b:α}(P:α→Prop)(d:c→P a)(e:¬c→P b):P (if c then a else b):=by
 split
 ·exact d ‹_›
 ·exact e ‹_›
theorem Ba(c:Int):Js c (dd c):=by
 unfold dd
 iterate 14 (refine wT (Js c) (λh=>by subst h;exact⟨by decide,by decide,by decide,by decide,by decide,by decide⟩) (λh=>?_))
 exact⟨by decide,by decide,by decide,by decide,by decide,λe=>absurd e (by omega)⟩
def lQ(r:Int×List UInt8):I:= .agg [.int .u32 r.1,.str r.2]
section
variable{Φ:ae}{H:AH}{Q:ad}
theorem nO{a:List (Nat×Nat×I)}(d:∀H',Q (.agg cs) H')(e:aB zs a=some (.agg cs))(b:cs.length=n)(f:cs.all I.scalar=true)(g:zs.length=n) :
  Do (aB zs a) λh=>Do (Y (H.push (.row zs)) n (.ptr H.n 0) h) λc=>Do (Z c n true (.ptr H.n 0)) λi=>Q i c:=by
 rw[e];simp only[X];rw[cC H zs cs n b f g];simp only[X];rw[(At.new H _).load,eh b];simp only[X];exact d _
theorem Jt(c:∀H',Q (.agg cs) H')(a:cs.length=n)(d:cs.all I.scalar=true)(e:zs.length=n) :
  Do (Y (H.push (.row zs)) n (.ptr H.n 0) (.agg cs)) λb=>Do (Z b n true (.ptr H.n 0)) λf=>Q f b:=by
 rw[cC H zs cs n a d e];simp only[X];rw[(At.new H _).load,eh a];simp only[X];exact c _
theorem Tv(a:∀H',Q (lQ (pM op)) H'):S.f151 Φ (.int .i64 op) H Q:=by
 unfold pM at a;unfold S.f151;simp only[aK,aH,aR,abS,bz,b5,X,F]
 iterate 12 (refine ig (λh=>(by rw[af (by simpa using h)]at a;exact nO a rfl rfl rfl rfl)) (λh=>?_);rw[ak (by simpa using h)]at a)
 exact nO a rfl rfl rfl rfl
theorem Tw(b:bC Φ 151 [.int .i64 op] (lQ (pM op)))(a:∀H',Q (lQ (pN op)) H'):S.f92 Φ (.int .i64 op) H Q:=by
 unfold pN at a;unfold S.f92;simp only[aK,aH,aR,abS,bz,b5,X,F]
 iterate 8 (refine ig (λh=>(by rw[af (by simpa using h)]at a;exact nO a rfl rfl rfl rfl)) (λh=>?_);rw[ak (by simpa using h)]at a)
 exact b _ _ (Jt a rfl rfl rfl)
theorem Tx(b:bC Φ 92 [.int .i64 op] (lQ (pN op)))(a:∀H',Q (lQ (ep op)) H'):S.f43 Φ (.int .i64 op) H Q:=by
 unfold ep at a;unfold S.f43;simp only[aK,aH,aR,abS,bz,b5,X,F]
 iterate 12 (refine ig (λh=>(by rw[af (by simpa using h)]at a;exact nO a rfl rfl rfl rfl)) (λh=>?_);rw[ak (by simpa using h)]at a)
 exact b _ _ (Jt a rfl rfl rfl)
theorem Ty(a:∀H',Q (.agg (eC (dd c))) H'):S.f44 Φ (.int .u8 c) H Q:=by
 unfold dd at a;unfold S.f44;simp only[aK,aH,aR,abS,bz,b5,X,F]
 iterate 14 (refine ig (λh=>(by rw[af (by simpa using h)]at a;exact nO a rfl rfl rfl rfl)) (λh=>?_);rw[ak (by simpa using h)]at a)
 exact nO a rfl rfl rfl rfl
def iB(c:Int):Nat:=if c=100 then 1 else if c=110∨c=97 then 2 else if c=109 then 3 else if c=101∨c=113∨c=99∨c=107 then 4 else if c=115 then 5 else 6
theorem Tz{id:Nat}(a:Q (.ptr id (iB c)) H):S.f45 Φ (.ptr id 0) (.int .u8 c) H Q:=by
 unfold iB at a;unfold S.f45;simp only[b5,X,F,aC,S.Ak,S.q1,S.Ga,ax,aD,aa,aaK]
 repeat' (apply ig<;>intro h)
 all_goals simp only[bK,beq_eq_false_iff_ne,ne_eq]at *
 all_goals (first|omega|skip)
 all_goals simp_all
end
section
variable{C:Ctx}(aq:bT C)(hT:Cl (ai C) S.ba)
include aq hT
theorem TA(op:Int):bC (ai C) 151 [.int .i64 op] (lQ (pM op)):=bC.of aq rfl rfl λQ a=>S.Sf hT (Tv a)
theorem TB(op:Int):bC (ai C) 92 [.int .i64 op] (lQ (pN op)):=bC.of aq rfl rfl λQ a=>S.RA hT (Tw (TA aq hT op) a)
theorem TC(op:Int):bC (ai C) 43 [.int .i64 op] (lQ (ep op)):=bC.of aq rfl rfl λQ a=>S.QU hT (Tx (TB aq hT op) a)
theorem TD(c:Int):bC (ai C) 44 [.int .u8 c] (.agg (eC (dd c))):=bC.of aq rfl rfl λQ a=>S.QV hT (Ty a)
end
end Rb

namespace Rb
open Go
variable{x c:Int}
abbrev iX:=Int×Int×Bool×Int×Int
def Bb(k:IntKind)(a b:Int):Int:=k.wrap (VR k.bits a &&& VR k.bits b).toNat
def Ju(k:IntKind)(a b:Int):Int:=k.wrap (VR k.bits a ||| VR k.bits b).toNat
def Jv(k:IntKind)(a b:Int):Int:=k.wrap (VR k.bits a ^^^ VR k.bits b).toNat
def Bc(k:IntKind)(a b:Int):Int:=k.wrap (VR k.bits a &&& ~~~VR k.bits b).toNat
def nP(k:IntKind)(a b:Int):Int:=k.wrap (a*2^(min b.toNat k.bits))
section
variable(k:IntKind)(a b:Int)
theorem TE:M .and (.int k a) (.int k b)=some (.int k (Bb k a b)):=A8 k a b
theorem TF:M .or (.int k a) (.int k b)=some (.int k (Ju k a b)):=Ti k a b
theorem TG:M .xor (.int k a) (.int k b)=some (.int k (Jv k a b)):=Tj k a b
theorem TI:M .andNot (.int k a) (.int k b)=some (.int k (Bc k a b)):=by simp[M,cg,jh,Bc]
theorem wU(k':IntKind)(h:0≤b):M .shl (.int k a) (.int k' b)=some (.int k (nP k a b)):=rk k a b k' h
theorem TJ:cO .neg (.int k a)=some (.int k (k.wrap (0-a))):=rfl
end
def rv(f:iX):Int:=nP .u32 (aa8 .u32 (nP .u32 1 f.2.1-1)) f.1
def hj(f:iX)(x:Int):Bool:=
 if f.2.2.1=true then decide (x≥aa8 .i64 (0-nP .i64 1 (aa8 .i64 (f.2.1-1))))&&decide (x<nP .i64 1 (aa8 .i64 (f.2.1-1)))
 else decide (x≥0)&&decide (x≤f.2.2.2.2)
def TK(x:Int):Int:=if x=0 then 11 else if x=1 then 9 else 10
def wW(c:Int)(x:Int):Int:=Bb .u32 (nP .u32 (if c=102 then TK x else Jv .u32 (aa8 .u32 x) (dd c).2.2.2.1) (dd c).1) (rv (dd c))
section
variable{Φ:ae}{H:AH}{Q:ad}
theorem Bd(f:iX)(H:AH):aL H false 5 (.agg (eC f))=some (.aj (eC f),H):=by unfold aL;rw[af ⟨rfl,rfl⟩];rfl
theorem wX(f:iX)(k:Nat):aa k (.aj (eC f))=some (.aj ((eC f).drop k)):=rfl
theorem Jw(f:iX)(H:AH):Z H 1 false (.aj ((eC f).drop 0))=some (.int .i64 f.1):=rfl
theorem iC(f:iX)(H:AH):Z H 1 false (.aj ((eC f).drop 1))=some (.int .i64 f.2.1):=rfl
theorem gD(f:iX)(H:AH):Z H 1 false (.aj ((eC f).drop 2))=some (.bool f.2.2.1):=rfl
theorem TL(f:iX)(H:AH):Z H 1 false (.aj ((eC f).drop 3))=some (.int .u32 f.2.2.2.1):=rfl
theorem TM(f:iX)(H:AH):Z H 1 false (.aj ((eC f).drop 4))=some (.int .i64 f.2.2.2.2):=rfl
theorem TN(f:iX)(H:AH):Z H 5 true (.aj (eC f))=some (.agg (eC f)):=rfl
theorem TO(a:∀H',Q (.agg [.int .u32 11,.int .u32 9,.int .u32 10]) H'):S.f93 Φ H Q:=by unfold S.f93;simp only[aK,aH,aR];exact nO a rfl rfl rfl rfl
theorem TP{f:iX}(a:0≤f.1)(b:0≤f.2.1)(c:∀H',Q (.int .u32 (rv f)) H'):S.f47 Φ (.agg (eC f)) H Q:=by unfold S.f47;simp only[Bd,aH,wX,Jw,iC,X];rw[wU _ _ _ _ b];simp only[X,cU];rw[wU _ _ _ _ a];simp only[X];exact c _
theorem TQ{f:iX}(b:f.2.2.1=true→1≤f.2.1)(c:f.2.1≤26)(a:∀H',Q (.bool (hj f x)) H'):S.f46 Φ (.agg (eC f)) (.int .i64 x) H Q:=by
 unfold S.f46;unfold hj at a;simp only[Bd,aH,wX,iC,gD,TM,X,F,cD,cU,eQ,hK,aS];apply ig<;>intro h
 · have:=b h;have e:aa8 .i64 (f.2.1-1)=f.2.1-1:=bJ;rw[af h,e]at a;rw[e,wU _ _ _ _ (by omega)];simp only[X,TJ,eQ,aS,cD];apply ig<;>intro h
   ·rw[h]at a;exact a _
   ·rw[h]at a;exact a _
 · rw[h]at a;apply ig<;>intro h
   ·rw[h]at a;exact a _
   ·rw[h]at a;exact a _
end
section
variable{C:Ctx}(aq:bT C)(hT:Cl (ai C) S.ba)
include aq hT
theorem TR:bC (ai C) 93 [] (.agg [.int .u32 11,.int .u32 9,.int .u32 10]):=bC.of aq rfl rfl λQ a=>S.RB hT (TO a)
theorem Jx(c:Int):bC (ai C) 47 [.agg (eC (dd c))] (.int .u32 (rv (dd c))):=by obtain⟨a,_,h1,_⟩:=Ba c;exact bC.of aq rfl rfl λQ b=>S.QY hT (TP a h1 b)
theorem TS(c x:Int):bC (ai C) 46 [.agg (eC (dd c)),.int .i64 x] (.bool (hj (dd c) x)):=by obtain⟨e,_,h1,a,b,_⟩:=Ba c;exact bC.of aq rfl rfl λQ d=>S.QX hT (TQ b a d)
theorem TU{H:AH}{Q:ad}(hf:hj (dd c) x=true)(a:∀H',Q (.int .u32 (wW c x)) H'):S.f48 (ai C) (.agg (eC (dd c))) (.int .u8 c) (.int .i64 x) H Q:=by
 unfold S.f48;unfold wW at a;have b:=Ba c;simp only[Bd,aH,wX,TL,X,ie,TG,b5,F,aC];have k1:∀v,(∀H',Q (.int .u32 (Bb .u32 (nP .u32 v (dd c).1) (rv (dd c)))) H')→S.uZ (ai C) (.aj (eC (dd c))) Q [.int .u32 v] H:=by intro v hv;simp only[S.uZ,wX,Jw,X,ax];rw[wU _ _ _ _ b.1];simp only[X,TN];refine Jx aq hT c _ _ ?_;simp only[true_and,TE,X];exact hv _
 apply ig<;>intro h
 · have hc:c=102:=by simpa using h
   rw[af hc]at a;obtain⟨d,e⟩:=b.2.2.2.2.2 hc;unfold hj at hf;rw[d,e]at hf;simp only[abS,bz,Z3,dO]at hf;refine TR aq hT _ _ ?_;have f:x=0∨x=1∨x=2:=by omega
   rcases f with rfl|rfl|rfl
   ·exact X _ _ |>.2 (k1 11 a)
   ·exact X _ _ |>.2 (k1 9 a)
   ·exact X _ _ |>.2 (k1 10 a)
 · rw[ak (by simpa using h)]at a;exact k1 _ a
theorem TV(hf:hj (dd c) x=true):bC (ai C) 48 [.agg (eC (dd c)),.int .u8 c,.int .i64 x] (.int .u32 (wW c x)):=bC.of aq rfl rfl λQ a=>S.QZ hT (TU aq hT hf a)
end
end Rb

namespace Rb
open Go
variable{xs i:List Int}{k:Nat}{H:AH}
abbrev IV(xs:List Int):List I:=xs.map (I.int .i64)
theorem ih(xs:List Int):(IV xs).length=xs.length:=by simp
theorem wY(xs:List Int):(IV xs).all I.scalar=true:=by rw[aaW];intro c hc;obtain⟨x,_,rfl⟩:=acE.1 hc;rfl
theorem TW(xs:List Int):I.bF (IV xs)=true:=by rw[kP,aaW];intro c hc;obtain⟨x,_,rfl⟩:=acE.1 hc;rfl
theorem Jy(h:k<xs.length):bw (IV xs) k 1 false=some (.int .i64 (xs.getD k 0)):=by unfold bw;rw[e5,de];simp[List.getD,h]
theorem TX(x:Int)(h:k<xs.length):setCells (IV xs) k [.int .i64 x]=IV (xs.set k x):=by
 induction xs generalizing k with
 |nil=>simp at h
 | cons a r b=>
  cases k with
  |zero=>rfl
  |succ k=>exact congrArg _ (b (Nat.lt_of_succ_lt_succ h))
theorem TY{id:Nat}(h:At H id (.row (IV xs)))(x:Int)(a:k<xs.length):Y H 1 (.ptr id k) (.int .i64 x)=some (H.set id (.row (IV (xs.set k x)))):=by rw[h.store,af ⟨rfl,rfl,rfl,by simp;omega⟩];exact congrArg (λz=>some (AH.set H id (.row z))) (TX x a)
theorem Be:∀(n:Nat)(xs c:List Int),xs.length=n→c.length=n→c6 (ZU n .n) (IV xs) (IV c)=some (xs==c)
 |0,[],[],_,_=>rfl
 | n+1,a::r,b::t,h1,d=>by show(if aa7=aa7 then(c6 (ZU n .n) (IV r) (IV t)).map (λx=>a==b&&x)else none)=_;rw[af rfl,Be n r t (by simpa using h1) (by simpa using d)];rfl
theorem TZ(c:Int):iB c<7∧1≤iB c:=by
 unfold iB
 repeat' split
 all_goals omega
theorem T1{s r:List UInt8}{c:UInt8}{i:Nat}(h:s.drop i=c::r)(H:AH):∃p,aG none 1 (.ab .dead s.length (byteCells s)) (.int .i64 i)=some p∧Z H 1 false p=some (.int .u8 c.toNat):=by
 obtain⟨b,a,_⟩:=eR h;refine⟨.aj ((byteCells s).drop i),?_,?_⟩
 · show(if 0≤(i:Int)∧(i:Int)<(s.length:Nat)then some (I.aj ((byteCells s).drop ((i:Int).toNat*1)))else none)=_;rw[af ⟨by omega,by omega⟩,Int.toNat_natCast,Nat.mul_one]
 · show bw ((byteCells s).drop i) 0 1 false=_;unfold bw;rw[af (by simp[byteCells];omega),de];simp[byteCells,a]
theorem T2(op:Int):(ep op).2.length≤9:=by
 unfold ep
 iterate 12 (refine wT (λz:Int×List UInt8=>z.2.length≤9) (λ_=>by decide) (λ_=>?_))
 unfold pN
 iterate 8 (refine wT (λz:Int×List UInt8=>z.2.length≤9) (λ_=>by decide) (λ_=>?_))
 unfold pM
 iterate 12 (refine wT (λz:Int×List UInt8=>z.2.length≤9) (λ_=>by decide) (λ_=>?_))
 decide
def k4(op:Int):List UInt8→List Int→Int→Int×Int
 |[],rest,w=>if rest=[op,0,0,0,0,0,0]then(w,0)else(0,2)
 | c::r,rest,w=>if(c.toNat:Int)=122 then k4 op r rest w else
  if hj (dd c.toNat) (rest.getD (iB c.toNat) 0)=true then
   k4 op r (rest.set (iB c.toNat) 0) (Ju .u32 (Bc .u32 w (rv (dd c.toNat))) (wW c.toNat (rest.getD (iB c.toNat) 0)))
  else(0,2)
def iD(i:List Int):Int×Int:=if(ep (i.getD 0 0)).2=[]then(0,2)else k4 (i.getD 0 0) (ep (i.getD 0 0)).2 i (ep (i.getD 0 0)).1
section
variable{C:Ctx}(aq:bT C)(hT:Cl (ai C) S.ba)
include aq hT
theorem T3(H:AH)(f:iX):Y (H.push (.row [.int .i64 0,.int .i64 0,.bool false,.int .u32 0,.int .i64 0])) 5 (.ptr H.n 0) (.agg (eC f))=some (H.push (.row (eC f))):=cC H _ _ 5 rfl rfl rfl
theorem T4(hl:i.length=7){Q:ad}(b:∀H',Q (.ar [.int .u32 (iD i).1,.int .i64 (iD i).2]) H'):S.f19 (ai C) (.agg (IV i)) H Q:=by
 unfold S.f19;have t:aL H false 7 (.agg (IV i))=some (.aj (IV i),H):=by unfold aL;rw[af ⟨rfl,by simpa[I.cells]using hl⟩];rfl
 have m:∀H,Z H 1 false (.aj (IV i))=some (.int .i64 (i.getD 0 0)):=λH=>Jy (by omega);have u:∀H,Z H 7 true (.aj (IV i))=some (.agg (IV i)):=λH=>eh (by simpa using hl);simp only[t,aH,aa,adx,X,m];refine TC aq hT _ _ _ ?_;simp only[lQ,aK,aR,aH];rw[cC H _ _ 2 rfl rfl rfl];have W:=At.new H (.row [.int .u32 (ep (i.getD 0 0)).1,.str (ep (i.getD 0 0)).2]);simp only[X];rw[W.load,show bw [.int .u32 (ep (i.getD 0 0)).1,.str (ep (i.getD 0 0)).2] (0+1) 1 false=some (.str (ep (i.getD 0 0)).2)from rfl];simp only[X,M,yd,F];unfold iD at b;apply ig<;>intro h
 · rw[af (by simpa using h)]at b;exact b _
 rw[ak (by simpa using h)]at b;rw[W.load,show bw [.int .u32 (ep (i.getD 0 0)).1,.str (ep (i.getD 0 0)).2] (0+0) 1 false=some (.int .u32 (ep (i.getD 0 0)).1)from rfl];simp only[X,u];have v:=(W.push (.row (IV i))).load 1 1 false;rw[cC _ _ _ 7 (by simpa using hl) (wY i) rfl];simp only[X,aaK];rw[v,show bw [.int .u32 (ep (i.getD 0 0)).1,.str (ep (i.getD 0 0)).2] 1 1 false=some (.str (ep (i.getD 0 0)).2)from rfl];simp only[X,me,fQ];have a2:=At.new (H.push (.row [.int .u32 (ep (i.getD 0 0)).1,.str (ep (i.getD 0 0)).2])) (.row (IV i));generalize (H.push (.row [.int .u32 (ep (i.getD 0 0)).1,.str (ep (i.getD 0 0)).2])).n=g at *;generalize (AH.push (H.push (.row [.int .u32 (ep (i.getD 0 0)).1,.str (ep (i.getD 0 0)).2])) (.row (IV i)))=H2 at *;generalize (ep (i.getD 0 0)).1=base at *;obtain⟨s,hs⟩:∃s,s=(ep (i.getD 0 0)).2:=⟨_,rfl⟩
 rw[←hs]at b ⊢;have main:∀(r:List UInt8)(k:Nat)(rest:List Int)(w:Int)(H:AH),s.drop k=r→s.length≤9→rest.length=7→At H g (.row (IV rest))→(∀H',Q (.ar [.int .u32 (k4 (i.getD 0 0) r rest w).1,.int .i64 (k4 (i.getD 0 0) r rest w).2]) H') →
   av (S.uG (ai C) (.aj (IV i)) (.ptr g 0) (.ab .dead s.length (byteCells s)) (.int .i64 s.length) Q) ([.int .u32 w,.int .i64 k],H):=by
  intro r;induction r with
  | nil=>
   intro k rest w H e j d a b;have hle:=ff e;refine av.step ?_;simp only[S.uG,ax,bR,aS,X,F];rw[eT];simp only[aC,S.FF,ax];rw[a.load,eh (by simpa using d)];simp only[X,aa,adx,m];rw[show aB [.int .i64 0,.int .i64 0,.int .i64 0,.int .i64 0,.int .i64 0,.int .i64 0,.int .i64 0] [(0,1,I.int .i64 (i.getD 0 0))]=some (.agg (IV [i.getD 0 0,0,0,0,0,0,0]))from rfl];simp only[X];rw[show iO true [.n,.n,.n,.n,.n,.n,.n] (.agg (IV rest)) (.agg (IV [i.getD 0 0,0,0,0,0,0,0]))=(c6 (ZU 7 .n) (IV rest) (IV [i.getD 0 0,0,0,0,0,0,0])).map λr=> .bool (if true then !r else r)from rfl,Be 7 _ _ d rfl];simp only[aae,X,F,aR];simp only[k4]at b;apply ig<;>intro h
   ·rw[ak (by simpa using h)]at b;exact b _
   ·rw[af (by simpa using h)]at b;exact b _
  | cons c r o=>
   intro k rest w H e j d a b;obtain⟨A,B,q⟩:=eR e;refine av.step ?_;simp only[S.uG,ax,bR,aS,X,F];rw[eH];obtain⟨p,x,y⟩:=T1 e H;rw[x];simp only[X];rw[y];simp only[X,b5,F];simp only[k4]at b;have hw:aa8 .i64 ((k:Int)+1)=((k+1:Nat):Int):=by rw[bJ];simp
   apply ig<;>intro h
   · rw[af (by simpa using h)]at b;simp only[aC,S.uF,ax,bR,bu,X,hw];exact o (k+1) rest w H q j d a b
   rw[ak (by simpa using h)]at b;refine TD aq hT _ _ _ ?_;simp only[aK,aR,aH];rw[T3 aq hT];simp only[X];have D:=TZ (c.toNat:Int);have b1:=a.push (.row (eC (dd c.toNat)));have b2:=At.new H (.row (eC (dd c.toNat)));have E:g≠H.n:=a.k3;generalize H.push (.row (eC (dd c.toNat)))=H1 at *;generalize H.n=z at *;refine S.QW hT (Tz ?_);have l:Z H1 5 true (.ptr z 0)=some (.agg (eC (dd c.toNat))):=by rw[b2.load];exact eh (n:=5) (a:=eC (dd c.toNat)) rfl
   rw[l];simp only[X,aD];have f:=b1.load 1 (iB c.toNat) false;rw[Jy (by omega)]at f;rw[f];simp only[X];refine TS aq hT _ _ _ _ ?_;simp only[eg,X,F];apply ig<;>intro h
   · rw[ak (by simpa using h)]at b;exact b _
   · have hf:hj (dd c.toNat) (rest.getD (iB c.toNat) 0)=true:=by simpa using h
     rw[af hf]at b;rw[l,f];simp only[X];refine Jx aq hT _ _ _ ?_;simp only[true_and,TI,X];refine⟨l,f,TV aq hT hf _ _ ?_⟩;simp only[TF,X];rw[TY b1 0 (by omega)];simp only[X,aC,S.uF,ax,bR,bu,hw];exact o (k+1) _ _ _ q j (by simpa using d) (b1.set _) b
 refine main s 0 i base H2 rfl ?_ hl a2 ?_
 ·rw[hs];exact T2 _
 ·exact b
theorem T5(hl:i.length=7):bC (ai C) 19 [.agg (IV i)] (.ar [.int .u32 (iD i).1,.int .i64 (iD i).2]):=bC.of aq (by simp only[I.bF,I.bh,TW,ac0]) rfl λQ a=>S.Qz hT (T4 aq hT hl a)
end
end Rb

namespace Rb
open Go
variable{S T:Nat→Prop}{es:List I}{x:I}{H':AH}
def KX(S:Nat→Prop)(H H':AH):Prop:=H.n≤H'.n∧∀i,i<H.n→¬S i→H'.o i=H.o i
theorem KX.refl(H:AH):KX S H H:=⟨np _,λ_ _ _=>rfl⟩
theorem KX.trans{H a H2:AH}(h:KX S H a)(k:KX T a H2)(hT:∀i,i<H.n→T i→S i):KX S H H2:=⟨sl h.1 k.1,λi hi hs=>(k.2 i (AV hi h.1) (λt=>hs (hT i hi t))).trans (h.2 i hi hs)⟩
theorem KX.tr{H a H2:AH}(h:KX S H a)(k:KX S a H2):KX S H H2:=h.trans k λ_ _ t=>t
theorem KX.mono{H H':AH}(h:KX S H H')(k:∀i,i<H.n→S i→T i):KX T H H':=⟨h.1,λi hi hs=>h.2 i hi λt=>hs (k i hi t)⟩
theorem KX.at{H H':AH}(h:KX S H H'){i:Nat}{o:bS}(a:At H i o)(hs:¬S i):At H' i o:=⟨AV a.1 h.1,(h.2 i a.1 hs).trans a.2⟩
theorem KX.set(H:AH){i:Nat}(hi:S i)(x:bS):KX S H (H.set i x):=⟨np _,λj a hs=>AH.aZ H x λe=>hs (e▸hi)⟩
theorem KX.push(H:AH)(x:bS):KX S H (H.push x):=⟨aaD _,λj a hs=>AH.Jm H x (aaI a)⟩
theorem KX.ext{H H':AH}(h:AH.Ext H H'):KX S H H':=⟨h.1,λi hi _=>h.2 i hi⟩
def El(sz:Nat)(P:Nat→Int→Prop)(es:List I):Prop:=es.length=sz∧∀k,k<sz→∃v,es[k]?=some (J v)∧P k v
theorem El.scalar{sz:Nat}{P:Nat→Int→Prop}(h:El sz P es):es.all I.scalar=true:=by rw[aaW];intro c hc;obtain⟨k,hk⟩:=adO hc;obtain⟨v,hv,_⟩:=h.2 k (by have:=(ZX.1 hk).1;rw[h.1]at this;exact this);rw[hk]at hv;cases hv;rfl
def Rw(sz:Nat)(P:Nat→Int→Prop)(H:AH)(id n:Nat):Prop:=∃cs:List I,cs.length=n*sz∧(∀j,j<n*sz→∃v,cs[j]?=some (J v)∧P (j%sz) v)∧At H id (.row cs)
section
variable{sz n id i k:Nat}{P:Nat→Int→Prop}{H:AH}
theorem Rw.lt(h:Rw sz P H id n):id<H.n:=by obtain⟨_,_,_,a⟩:=h;exact a.1
theorem Rw.kx(h:Rw sz P H id n)(k:KX S H H')(hs:¬S id):Rw sz P H' id n:=by obtain⟨cs,a,b,c⟩:=h;exact⟨cs,a,b,k.at c hs⟩
theorem wZ(hi:i<n)(a:k<sz):i*sz+k<n*sz:=by have:(i+1)*sz≤n*sz:=abc _ hi;rw[abX]at this;omega
theorem pO(a:k<sz):(i*sz+k)%sz=k:=by rw[adP,adQ,adR a]
theorem Rw.ld1(h:Rw sz P H id n)(hi:i<n)(d:k<sz):∃v,P k v∧Z H 1 false (.ptr id (i*sz+k))=some (J v):=by obtain⟨cs,a,b,c⟩:=h;obtain⟨v,h1,e⟩:=b _ (wZ hi d);rw[pO d]at e;refine⟨v,e,?_⟩;rw[c.load];unfold bw;rw[af (by have:=wZ hi d;omega),de];exact h1
theorem Rw.ld(h:Rw sz P H id n)(hi:i<n):∃es,El sz P es∧Z H sz true (.ptr id (i*sz))=some (.agg es):=by
 obtain⟨cs,a,b,c⟩:=h;have hle:i*sz+sz≤n*sz:=by have:(i+1)*sz≤n*sz:=abc _ hi;rwa [abX]at this
 refine⟨(cs.drop (i*sz)).take sz,⟨by rw[adS,adK];omega,λk hk=>?_⟩,?_⟩
 · obtain⟨v,h1,d⟩:=b _ (wZ hi hk);rw[pO hk]at d;exact⟨v,by rw[abY hk,List.getElem?_drop];exact h1,d⟩
 · rw[c.load];unfold bw;rw[cj,af rfl]
theorem Rw.st(h:Rw sz P H id n)(hi:i<n)(d:El sz P es):∃H',Y H sz (.ptr id (i*sz)) (.agg es)=some H'∧Rw sz P H' id n∧KX (·= id) H H':=by
 obtain⟨cs,a,b,c⟩:=h;have hle:i*sz+sz≤n*sz:=by have:(i+1)*sz≤n*sz:=abc _ hi;rwa [abX]at this
 refine⟨_,(by rw[c.store,af ⟨rfl,d.1,d.scalar,by omega⟩];rfl),⟨setCells cs (i*sz) es,by rw[oq,a],λj e=>?_,c.set _⟩,KX.set (S:=(·= id)) _ rfl _⟩;rw[mZ _ _ _ _ (by rw[d.1];omega)];split
 · rename_i f;rw[d.1]at f;obtain⟨v,h1,g⟩:=d.2 (j-i*sz) (by omega);exact⟨v,h1,by rw[show j=i*sz+(j-i*sz) by omega,pO (by omega)];exact g⟩
 ·exact b j e
theorem Rw.st1(h:Rw sz P H id n)(hi:i<n)(d:k<sz){v:Int}(hv:P k v):∃H',Y H 1 (.ptr id (i*sz+k)) (J v)=some H'∧Rw sz P H' id n∧KX (·= id) H H':=by
 obtain⟨cs,a,b,c⟩:=h;have hle:=wZ hi d;refine⟨_,(by rw[c.store,af ⟨rfl,rfl,rfl,by omega⟩];rfl),⟨setCells cs (i*sz+k) [J v],by rw[oq,a],λj e=>?_,c.set _⟩,KX.set (S:=(·= id)) _ rfl _⟩;rw[mZ _ _ _ _ (by simp;omega)];split
 · rename_i f;simp at f;obtain rfl:j=i*sz+k:=by omega
   exact⟨v,by simp,by rw[pO d];exact hv⟩
 ·exact b j e
theorem dY{len:Nat}(hi:i<len):aG none sz (.row id 0 len sz) (J (i:Nat))=some (.ptr id (i*sz)):=by unfold aG;dsimp only;rw[af ⟨by omega,by omega⟩];simp
end
def Ls(sz:Nat)(P:Nat→Int→Prop)(S:Nat→Prop)(H:AH)(x:I)(len:Nat):Prop:=(x = aw∧len=0)∨∃id n,x = .row id 0 len sz∧len≤n∧Rw sz P H id n∧S id
theorem Ls.kx{sz len:Nat}{P:Nat→Int→Prop}{H H':AH}(h:Ls sz P S H x len)(k:KX T H H')(hs:∀i,S i→¬T i):Ls sz P S H' x len:=by
 rcases h with h|⟨id,n,a,b,c,d⟩
 ·exact .inl h
 ·exact .inr ⟨id,n,a,b,c.kx k (hs _ d),d⟩
theorem Ls.mono{sz len:Nat}{P:Nat→Int→Prop}{H:AH}(h:Ls sz P S H x len)(hs:∀i,i<H.n→S i→T i):Ls sz P T H x len:=by
 rcases h with h|⟨id,n,a,b,c,d⟩
 ·exact .inl h
 ·exact .inr ⟨id,n,a,b,c,hs _ c.lt d⟩
theorem Ls.len{sz len:Nat}{P:Nat→Int→Prop}{H:AH}(h:Ls sz P S H x len):aU false x=some (J len):=by rcases h with⟨rfl,rfl⟩|⟨id,n,rfl,_⟩<;>rfl
theorem Ls.known{sz len:Nat}{P:Nat→Int→Prop}{H:AH}(h:Ls sz P S H x len):x.known=true∧x.scalar=true∧x.cells=[x]:=by rcases h with⟨rfl,rfl⟩|⟨id,n,rfl,_⟩<;>exact⟨rfl,rfl,rfl⟩
def gf(sz:Nat)(P:Nat→Int→Prop)(m:Nat)(es:List I):Prop:=es.length=m*sz∧∀j,j<m*sz→∃v,es[j]?=some (J v)∧P (j%sz) v
theorem gf.scalar{sz m:Nat}{P:Nat→Int→Prop}(h:gf sz P m es):es.all I.scalar=true:=by rw[aaW];intro c hc;obtain⟨k,hk⟩:=adO hc;obtain⟨v,hv,_⟩:=h.2 k (by have:=(ZX.1 hk).1;rw[h.1]at this;exact this);rw[hk]at hv;cases hv;rfl
theorem El.bA{sz:Nat}{P:Nat→Int→Prop}(h:El sz P es):gf sz P 1 es:=⟨by rw[h.1];omega,λj b=>by obtain⟨v,h1,a⟩:=h.2 j (by omega);exact⟨v,h1,by rw[adR (by omega)];exact a⟩⟩
theorem Bf{sz:Nat}{P:Nat→Int→Prop}(h:El sz P es)(tk:Tok)(H:AH):dQ H sz (.ab tk 1 es)=some (1,es):=by show(if es.length=1*sz then some (1,es)else none)=_;rw[af (by rw[h.1];omega)]
theorem Rw.cells{sz n id m:Nat}{P:Nat→Int→Prop}{H:AH}(h:Rw sz P H id n)(d:m≤n):∃es,dQ H sz (.row id 0 m sz)=some (m,es)∧gf sz P m es:=by
 obtain⟨cs,a,b,c⟩:=h;have hle:m*sz≤n*sz:=abc _ d;refine⟨(cs.drop 0).take (m*sz),?_,by rw[adS,adx];omega,λj e=>?_⟩
 · simp only[dQ,c.2];rw[cj]
 · obtain⟨v,h1,f⟩:=b j (by omega);exact⟨v,by rw[abY e,adx];exact h1,f⟩
theorem Ls.cells{sz m:Nat}{P:Nat→Int→Prop}{H:AH}(h:Ls sz P S H x m):∃es,dQ H sz x=some (m,es)∧gf sz P m es:=by
 rcases h with⟨rfl,rfl⟩|⟨id,n,rfl,a,r,_⟩
 ·exact⟨[],by simp[dQ],by simp,λj b=>by omega⟩
 ·exact r.cells a
theorem Ls.app{sz len bytes:Nat}{P:Nat→Int→Prop}{H:AH}(h:Ls sz P S H x len)(p:0<sz)(d:El sz P es){tk:Tok}(g:(len+1)*bytes≤140737488355328)(hl:len+1≤9223372036854775807) :
  ∃o H',bH H true sz bytes x (.ab tk 1 es)=some (o,H')∧Ls sz P (λi=>S i∨H.n≤i) H' o (len+1)∧KX S H H':=by
 have k:=Bf d tk H;rcases h with⟨rfl,rfl⟩|⟨id,n,rfl,q,⟨cs,a,b,c⟩,hS⟩
 · refine ⟨.row H.n 0 1 sz,H.push (.row es),?_,.inr ⟨H.n,1,rfl,np _,⟨es,by rw[d.1];omega,λj l=>?_,At.new _ _⟩,.inr (np _)⟩,KX.push _ _⟩
   · simp only[bH,k,d.scalar,not_true_eq_false,bz];rw[de,ak (by simp only[adC];exact⟨by simp,g,hl⟩)];rfl
   · obtain⟨v,h1,f⟩:=d.2 j (by omega);exact⟨v,h1,by rw[adR (by omega)];exact f⟩
 · have hmul:(len+1)*sz=len*sz+sz:=abX _ _;have hlen:len*sz≤n*sz:=abc _ q;by_cases hf:(len+1)*sz≤cs.length
   · have m:len+1≤n:=by
       rw[a]at hf;exact Nat.le_of_mul_le_mul_right hf p
     refine⟨.row id 0 (len+1) sz,H.set id (.row (setCells cs (len*sz) es)),?_,.inr ⟨id,n,rfl,m,⟨_,by rw[oq,a],λj l=>?_,c.set _⟩,.inl hS⟩,KX.set _ hS _⟩
     · simp only[bH,k,d.scalar,not_true_eq_false,bz,c.2];rw[de,ak (by simp only[adC];exact⟨trivial,trivial,g,hl⟩),af hf]
     · rw [mZ _ _ _ _ (by rw[d.1];omega)];split
       · rename_i r;rw[d.1]at r;obtain⟨v,h1,f⟩:=d.2 (j-len*sz) (by omega);exact⟨v,h1,by rw[show j=len*sz+(j-len*sz) by omega,pO (by omega)];exact f⟩
       ·exact b j l
   · have m:n=len:=by
       by_cases e:n=len
       ·exact e
       · exfalso;apply hf;rw[a];exact abc _ (by omega)
     subst m;refine⟨.row H.n 0 (n+1) sz,(H.set id .gone).push (.row (cs++es)),?_,.inr ⟨H.n,n+1,rfl,np _,⟨_,by rw[adD,a,d.1];omega,λj l=>?_,At.new (H.set id .gone) _⟩,.inr (np _)⟩,(KX.set H hS .gone).tr (KX.push _ _)⟩
     · simp only[bH,k,d.scalar,not_true_eq_false,bz,c.2];rw[de,ak (by simp only[adC];exact⟨trivial,trivial,g,hl⟩),ak hf,af a]
     · by_cases s:j<cs.length
       · rw[abB s];exact b j (by omega)
       · rw[abC (by omega)];obtain⟨v,h1,f⟩:=d.2 (j-cs.length) (by omega);exact⟨v,h1,by rw[show j=n*sz+(j-cs.length) by omega,pO (by omega)];exact f⟩
theorem Rw.app{mu:Bool}{sz n id len m bytes:Nat}{P:Nat→Int→Prop}{H:AH}{y:I}(h:Rw sz P H id n)(f:dQ H sz y=some (m,es))(d:gf sz P m es)(g:len+m≤n)(i:(len+m)*bytes≤140737488355328)(hl:len+m≤9223372036854775807) :
  ∃H',bH H mu sz bytes (.row id 0 len sz) y=some (.row id 0 (len+m) sz,H')∧Rw sz P H' id n∧KX (·= id) H H':=by
 obtain⟨cs,a,b,c⟩:=h;by_cases hm:m=0
 · subst hm;refine⟨H,?_,⟨cs,a,b,c⟩,KX.refl _⟩;simp only[bH,f,d.scalar,not_true_eq_false,bz,aR,c.2];rfl
 have hmul:(len+m)*sz=len*sz+m*sz:=aaw _ _ _;have p:(len+m)*sz≤n*sz:=abc _ g;refine⟨H.set id (.row (setCells cs (len*sz) es)),?_,⟨_,by rw[oq,a],λj k=>?_,c.set _⟩,KX.set (S:=(·= id)) _ rfl _⟩
 · simp only[bH,f,d.scalar,not_true_eq_false,bz,c.2];rw[ak hm,ak (by simp only[adC];exact⟨trivial,trivial,i,hl⟩),cj]
 · rw [mZ _ _ _ _ (by rw[d.1];omega)];split
   · rename_i l;rw[d.1]at l;obtain⟨v,h1,o⟩:=d.2 (j-len*sz) (by omega);refine⟨v,h1,?_⟩;have e:(len*sz+(j-len*sz))%sz=(j-len*sz)%sz:=by rw[adP len sz];exact adQ _ _ _
     rw[←show len*sz+(j-len*sz)=j by omega,e];exact o
   ·exact b j k
end Rb
