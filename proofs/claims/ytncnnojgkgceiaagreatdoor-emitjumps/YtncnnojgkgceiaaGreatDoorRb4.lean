/- A part of the proof (part 4): see the last text. -/
import Derived.Test.YtncnnojgkgceiaaGreatDoorRb3
import Derived.Test.YtncnnojgkgceiaaGreatDoorRb1
import Derived.Test.YtncnnojgkgceiaaGreatDoorRb2
import Derived.KernelRfl
import Derived.LaidLaws
import Derived.LaidHandle
import Derived.Lib.LaidU8
import Derived.Deep.DeepLaidRun
import Derived.Handed
import Derived.JoinedOf
import Derived.SevenTiedAt
import Derived.ProofKit
import Derived.Lib.Space
import Derived.ChangeArms
import Derived.SizedLaws
import Derived.Lib.DecodeN
set_option linter.unusedVariables false
set_option linter.unusedSimpArgs false
set_option linter.unusedSectionVars false
open BEq renaming rfl→aep
open BitVec renaming ofInt→KT
open Bool renaming and_eq_true→aaz, and_self→ady, eq_false_iff→ac7, eq_iff_iff→acS, false_eq_true→acq, not_eq_true→aeo, not_false→aes, not_true→aet, true_eq_false→aer
open ByteArray renaming mk→aaC
open Decidable renaming not_not→ad8
open Go.Addr renaming add→adZ
open Go.DataW renaming trod→adS, weightsAll→adV, weights→adU
open Go.IntKind renaming bits→aaH, i64→abE, max→ad5, min→ad4, signed→aaG, wrap→abF
open Go.Lib renaming decodeN→aeg, decode_at→aeh
open Go.Utf8 renaming decode→aas
open Go.World renaming cells?_some→ad0
open Iff renaming rfl→ad6
open Int renaming not_lt→ad7, reduceBEq→aeq
open List renaming all_append→aed, all_cons→adk, all_eq_true→abt, append_nil→aee, drop_drop→ad1, drop_eq_getElem_cons→ad_, drop_zero→ad3, findIdx?→aec, flatMap_cons→adR, getElem?_append_left→ab8, getElem?_append_right→ab9, getElem?_cons_succ→adX, getElem?_cons_zero→adW, getElem?_eq_getElem→abm, getElem?_eq_some_iff→aat, getElem?_map→abl, getElem?_of_mem→aej, getElem?_take_of_lt→acx, length_append→ad9, length_drop→aef, length_take→aen, mem_append→acN, mem_map→ada, mem_of_getElem?→adl, replicate→VR, sizeOf_lt_of_mem→aei, take_append_of_le_length→aea, take_of_length_le→aeb
open Nat renaming add_assoc→aaP, add_mul→aa3, eq_zero_or_pos→adY, le_refl→hT, le_succ→aa_, le_trans→np, lt_of_lt_of_le→sl, lt_succ_self→adn, mod_eq_of_lt→aem, mul_add_mod→ael, mul_comm→aek, mul_le_mul_right→abK, ne_of_lt→abe, succ_mul→acw, zero_add→abg, zero_le→aa2
open Option renaming map_eq_some_iff→ad2, map_some→aaL, some→aaK
open Prod renaming fst→adT
namespace Go.Proofs.YtncnnojgkgceiaaGreatDoor.rb
open Rb
noncomputable section
theorem Qo:forced (qW (Al []) [(5,[],.bool true)])=true:=by kernel_rfl
theorem Qp:j5 (ae C) (iB [(5,[],.bool true)]):=Ak qY (Fc uo) uo (N:=[(5,[],.bool true)]) (dj Qo)
end
end Go.Proofs.YtncnnojgkgceiaaGreatDoor.rb

namespace Rb.K
end Rb.K

namespace Rb.S
open Go
open Go.Proofs.YtncnnojgkgceiaaGreatDoor.rb (C)
noncomputable def Am : List (TypeId × Nat × Option (Nat × Bool)) := j6 C "Len" [9,136,138]
noncomputable def uu : List (TypeId × Nat × Option (Nat × Bool)) := j6 C "Less" [9,136,138]
noncomputable def Fe : List (TypeId × Nat × Option (Nat × Bool)) := j6 C "Pop" [9,136,138]
noncomputable def Ff : List (TypeId × Nat × Option (Nat × Bool)) := j6 C "Push" [9,136,138]
noncomputable def uv : List (TypeId × Nat × Option (Nat × Bool)) := j6 C "Swap" [9,136,138]
def Fg(Φ:ad)(b:ST)(c:LT)(Q:ab):a:=λf d=>
 Do (M .add (D b.1 0) (I 1)) λe=>
 c ([e],d)
def pz(Φ:ad)(c:ST)(d:LT)(Q:ab):a:=λe b=>
 L (D e 0) true (
 Q P b) (
 G (Fg Φ c d Q) [] b)
def uw(Φ:ad)(e f:J)(b:ST)(d:LT)(Q:ab):a:=λg c=>
 Do (M .neq f O) λh=>
 aN h false (
 aN (D g 0) true (
 Do (aL none 7 e (D b.1 0)) λi=>
 Do (aa 6 i) λj=>
 Do (W c 1 false j) λk=>
 Do (M .add (D b.1 0) k) λl=>
 Do (M .lss l O) λm=>
 aN m false (
 Do (aL none 7 e (D b.1 0)) λn=>
 Do (aa 6 n) λo=>
 Do (W c 1 false o) λp=>
 Do (M .add (D b.1 0) p) λq=>
 Do (aY false e) λr=>
 Do (M .geq q r) λs=>
 G (pz Φ b d Q) [s] c) (
 G (pz Φ b d Q) [aV] c) (
 False)) (
 G (pz Φ b d Q) [P] c) (
 False)) (
 G (pz Φ b d Q) [aV] c) (
 False)
def Fh(Φ:ad)(b:J)(Q:ab):a:=λj c=>
 Do (aY false b) λd=>
 Do (M .sub d (I 1)) λe=>
 Do (aL none 7 b e) λf=>
 Do (W c 7 true f) λg=>
 Do (aD [O,O,O,O,O,O,O] [(0,1,(I 31))]) λh=>
 Do (jk false [.n,.n,.n,.n,.n,.n,.n] g h) λi=>
 Q i c
def pA(Φ:ad)(b:J)(Q:ab):BT:=λa d=>
 Do (aY false b) λg=>
 Do (M .lss (D a.1 0) g) λh=>
 L h true (
 Do (aD [u 0,u 0,u 0,u 0,u 0,u 0,u 0,u 0,u 0,u 0,u 0,u 0,u 0,u 0,u 0,u 0,u 0,u 0,u 0,u 0,u 0,u 0,u 0,u 0,u 0,u 0,u 0,u 0,u 0,u 0,u 0,O,P,P,O,O] []) λi=>
 Do (aL none 7 b (D a.1 0)) λj=>
 Do (W a.2 7 true j) λk=>
 Do (aD [u 0,u 0] []) λl=>
Φ 9 [i,k,l,aV] a.2 λe m=>
 Do (bo 0 e) λn=>
 Do (bo 1 e) λf=>
 aw (some (aQ m true [u 0,u 0,u 0,u 0,u 0,u 0,u 0,u 0,u 0,u 0,u 0,u 0,u 0,u 0,u 0,u 0,u 0,u 0,u 0,u 0,u 0,u 0,u 0,u 0,u 0,u 0,u 0,u 0,u 0,u 0,u 0,O,P,P,O,O])) λo p=>
 Do (au p 36 o n) λc=>
 Do (aL none 7 b (D a.1 0)) λq=>
 Do (aa 0 q) λr=>
 Do (W c 1 false r) λs=>
 Do (M .geq s (I 13)) λt=>
 aN t true (
 Do (aL none 7 b (D a.1 0)) λv=>
 Do (aa 0 v) λw=>
 Do (W c 1 false w) λx=>
 Do (M .leq x (I 16)) λy=>
 G (uw Φ b f a d Q) [y] c) (
 G (uw Φ b f a d Q) [P] c) (
 False)) (
 G (Fh Φ b Q) [] a.2)
def An(Φ:ad)(b:J)(Q:ab):a:=λd c=>
 av (pA Φ b Q) ([O],c)
def ux(Φ:ad)(c d:J)(Q:ab):a:=λe b=>
 L (D e 0) true (
 Do (M .neq d O) λf=>
 Q f b) (
 G (An Φ c Q) [] b)
def uy(Φ:ad)(b c:J)(Q:ab):a:=λe d=>
 aN (D e 0) false (
 Do (aY false b) λf=>
 Do (M .eql f O) λg=>
 G (ux Φ b c Q) [g] d) (
 G (ux Φ b c Q) [aV] d) (
 False)
def Fi(Φ:ad)(i e f:J)(Q:ab):a:=λw j=>
Φ 7 [e,f] j λk l=>
 Do (M .rem i (.int .u8 8)) λm=>
 Do (db .i64 m) λn=>
Φ 6 [k,f,n] l λg o=>
 Do (bo 0 g) λp=>
 Do (bo 1 g) λx=>
Φ 8 [e,p,(u 1048576)] o λb h=>
 Do (bo 0 b) λc=>
 Do (bo 1 b) λy=>
 Do (bo 2 b) λq=>
 Do (bo 3 b) λd=>
 Do (M .neq d O) λr=>
 aN r false (
 Do (aY false q) λs=>
 Do (aY false c) λt=>
 Do (M .neq s t) λv=>
 G (uy Φ c d Q) [v] h) (
 G (uy Φ c d Q) [aV] h) (
 False)
def uz(Φ:ad)(c d e:J)(Q:ab):a:=λf b=>
 L (D f 0) true (
Φ 5 [] b λg h=>
 Q g h) (
 G (Fi Φ c d e Q) [] b)
def nE(Φ:ad)(c b d:J)(Q:ab):a:=λf e=>
 aN (D f 0) false (
 Do (aY false b) λg=>
 Do (M .gtr g (I 400)) λh=>
 G (uz Φ c b d Q) [h] e) (
 G (uz Φ c b d Q) [aV] e) (
 False)
def f3(Φ:ad)(a0 Y c:J)(H:AH)(Q:ab):Prop:=
 aw (aM H false 2 a0) λg H2=>
 Do (W H2 2 true g) λh=>
Φ 4 [h,Y] H2 λa i=>
 Do (bo 0 a) λd=>
 Do (bo 1 a) λe=>
 Do (bo 2 a) λj=>
 aw (some (aQ i true [O,O])) λf k=>
 Do (au k 2 f j) λl=>
Φ 5 [] l λm b=>
 Do (cC .not m) λn=>
 aN n false (
 Do (aa 1 f) λo=>
 Do (W b 1 false o) λp=>
 Do (M .neq p O) λq=>
 G (nE Φ c d e Q) [q] b) (
 G (nE Φ c d e Q) [aV] b) (
 False)
noncomputable def Fj:aF:=A C ⟨3,[9,17],[[16]],none,[],[]⟩
def Ao(Φ:ad)(Y e c:J)(Q:ab):a:=λP h=>
 Do (aa 0 e) λl=>
 Do (W h 1 false l) λm=>
Φ 11 [m] h λf i=>
 Do (bo 0 f) λn=>
 Do (bo 1 f) λR=>
 Do (bo 2 f) λS=>
 Do (aa 0 e) λo=>
 Do (W i 1 false o) λp=>
 Do (aD [aA,aA,aA,O,O,aA,O,aA] [(0,1,p),(1,1,n)]) λq=>
 aw (aM i true 8 q) λd g=>
 Do (aa 1 e) λr=>
 Do (W g 1 false r) λs=>
 Do (aL none 1 s Y) λt=>
 Do (W g 1 false t) λu=>
Φ 12 [d,u] g λT b=>
 Do (aC d) λv=>
 Do (aa 2 v) λw=>
 Do (W b 1 false w) λx=>
 Do (aY false x) λy=>
 Do (M .gtr y (I 16384)) λz=>
 L z true (
 Do (aD [O,O] [(1,1,(I 12))]) λA=>
 Do (au b 2 c A) λj=>
 Do (W j 2 true c) λB=>
 Q (.ar [aA,O,B]) j) (
 Do (aC d) λC=>
 Do (aa 2 C) λD=>
 Do (W b 1 false D) λE=>
 Do (aC d) λF=>
 Do (aa 3 F) λG=>
 Do (W b 1 false G) λH=>
 Do (aD [O,O] []) λK=>
 Do (au b 2 c K) λk=>
 Do (W k 2 true c) λN=>
 Q (.ar [E,H,N]) k)
def uA(Φ:ad)(Y e b:J)(Q:ab):a:=λf c=>
 L (D f 0) true (
 Do (aD [O,O] [(1,1,(I 1))]) λg=>
 Do (au c 2 b g) λd=>
 Do (W d 2 true b) λh=>
 Q (.ar [aA,O,h]) d) (
 G (Ao Φ Y e b Q) [] c)
def f4(Φ:ad)(a0 Y:J)(H:AH)(Q:ab):Prop:=
 aw (aM H false 2 a0) λb H2=>
 aw (some (aQ H2 true [O,O])) λc e=>
 Do (W e 2 true b) λg=>
Φ 10 [g] e λh i=>
 aw (some (aQ i true [O,O])) λd j=>
 Do (au j 2 d h) λa=>
 Do (aa 1 d) λk=>
 Do (W a 1 false k) λl=>
 Do (M .neq l O) λm=>
 L m true (
 Do (W a 2 true d) λn=>
 Do (au a 2 c n) λf=>
 Do (W f 2 true c) λo=>
 Q (.ar [aA,O,o]) f) (
 Do (M .lss Y O) λp=>
 aN p false (
 Do (aa 1 b) λq=>
 Do (W a 1 false q) λr=>
 Do (aY false r) λs=>
 Do (M .geq Y s) λt=>
 G (uA Φ Y b c Q) [t] a) (
 G (uA Φ Y b c Q) [aV] a) (
 False))
noncomputable def Fk:aF:=A C ⟨4,[6,7,39],[],none,[],[]⟩
def Fl(Φ:ad)(c:J)(Q:ab):a:=λd b=>
 aN (D d 0) true (
 Do (aY false c) λe=>
 Do (M .sub e (I 1)) λf=>
 Do (aL none 7 c f) λg=>
 Do (W b 7 true g) λh=>
 Do (aD [O,O,O,O,O,O,O] [(0,1,(I 31))]) λi=>
 Do (jk false [.n,.n,.n,.n,.n,.n,.n] h i) λj=>
 Q j b) (
 Q P b) (
 False)
def Fo(Φ:ad)(b d:J)(Q:ab):a:=λe c=>
 aN (D e 0) true (
 Do (aY false d) λf=>
 Do (aY false b) λg=>
 Do (M .eql f g) λh=>
 G (Fl Φ b Q) [h] c) (
 G (Fl Φ b Q) [P] c) (
 False)
def Fp(Φ:ad)(b e c:J)(Q:ab):a:=λf d=>
 aN (D f 0) true (
 Do (aY false e) λg=>
 Do (aY false b) λh=>
 Do (M .eql g h) λi=>
 G (Fo Φ b c Q) [i] d) (
 G (Fo Φ b c Q) [P] d) (
 False)
def Fq(Φ:ad)(b c d:J)(Q:ab):a:=λf e=>
 aN (D f 0) true (
 Do (aY false b) λg=>
 Do (M .gtr g (I 1)) λh=>
 G (Fp Φ b c d Q) [h] e) (
 G (Fp Φ b c d Q) [P] e) (
 False)
def Fs(Φ:ad)(b c d f:J)(Q:ab):a:=λg e=>
 aN (D g 0) true (
 Do (M .eql f (I 1)) λh=>
 G (Fq Φ b c d Q) [h] e) (
 G (Fq Φ b c d Q) [P] e) (
 False)
def Ft(Φ:ad)(b c d g e:J)(Q:ab):a:=λh f=>
 aN (D h 0) true (
 Do (M .eql g O) λi=>
 G (Fs Φ b c d e Q) [i] f) (
 G (Fs Φ b c d e Q) [P] f) (
 False)
def f5(Φ:ad)(H:AH)(Q:ab):Prop:=
Φ 13 [(I 3),(u 327680)] H λd H2=>
 Do (aD [O,O,O,O,O,O,u 0,O,O,O,O,O,O] [(0,1,(I 1)),(1,1,O),(2,1,(I (-1))),(3,1,(I (-1))),(4,1,(I (-1))),(5,1,(I (-1))),(6,1,(u 5)),(12,1,(I 7))]) λj=>
 aw (cb H2 false 13 1 [O,O,O,O,O,O,u 0,O,O,O,O,O,O] [(0,13,j)]) λk l=>
 aw (cb l false 1 1 [O] [(0,1,(I 2))]) λm o=>
Φ 8 [k,m,(u 131072)] o λa p=>
 Do (bo 0 a) λe=>
 Do (bo 1 a) λf=>
 Do (bo 2 a) λg=>
 Do (bo 3 a) λh=>
 Do (aD [O,O,O,O,O,O,u 0,O,O,O,O,O,O] [(0,1,(I 15)),(1,1,(I (-1))),(2,1,(I (-1))),(3,1,(I (-1))),(4,1,(I (-1))),(5,1,(I (-1))),(10,1,(I 1))]) λq=>
 aw (cb p false 13 1 [O,O,O,O,O,O,u 0,O,O,O,O,O,O] [(0,13,q)]) λr s=>
Φ 8 [r,aA,(u 0)] s λb c=>
 Do (bo 0 b) λA=>
 Do (bo 1 b) λB=>
 Do (bo 2 b) λC=>
 Do (bo 3 b) λi=>
 Do (aY false d) λt=>
 Do (M .eql t (I 1)) λv=>
 aN v true (
 Do (aL none 7 d O) λw=>
 Do (W c 7 true w) λx=>
 Do (aD [O,O,O,O,O,O,O] [(0,1,(I 1)),(1,1,(I 3)),(4,1,(I 1)),(6,1,(I 5))]) λy=>
 Do (jk false [.n,.n,.n,.n,.n,.n,.n] x y) λz=>
 G (Ft Φ e f g h i Q) [z] c) (
 G (Ft Φ e f g h i Q) [P] c) (
 False)
noncomputable def Qq:aF:=A C ⟨5,[],[],none,[],[]⟩
def nF(Φ:ad)(b:ST)(c:LT)(Q:ab):a:=λf d=>
 Do (M .add (D b.1 0) (I 1)) λe=>
 c ([e],d)
def Ap(Φ:ad)(f g h b:J)(i:ST)(j:LT)(Q:ab):a:=λS k=>
 Do (aa 1 b) λs=>
 Do (W k 1 false s) λt=>
∃d l,(.fn 19 []:J) = .fn d l∧Φ (fI d) (fJ d [g,t] l) k λT m=>
 Do (aa 1 b) λu=>
 Do (W m 1 false u) λv=>
∃e n,(.fn 19 []:J) = .fn e n∧Φ (fI e) (fJ e [h,v] n) m λU o=>
 Do (aa 2 b) λw=>
 Do (W o 1 false w) λx=>
Φ 20 [g,x] o λp c=>
 Do (bo 0 p) λy=>
 Do (bo 1 p) λz=>
 L z true (
 Do (aa 0 b) λA=>
 Do (W c 1 false A) λB=>
 Do (aL none 1 f B) λC=>
 Do (au c 1 C y) λD=>
 G (nF Φ i j Q) [] D) (
 Do (aa 2 b) λE=>
 Do (W c 1 false E) λF=>
Φ 20 [h,F] c λq r=>
 Do (bo 0 q) λH=>
 Do (bo 1 q) λV=>
 Do (aa 0 b) λK=>
 Do (W r 1 false K) λN=>
 Do (M .sub (I (-1)) H) λO=>
 Do (aL none 1 f N) λP=>
 Do (au r 1 P O) λR=>
 G (nF Φ i j Q) [] R)
def uB(Φ:ad)(e f g h:J)(b:ST)(c:LT)(Q:ab):a:=λi d=>
 L (D i 0) true (
 G (nF Φ b c Q) [] d) (
 G (Ap Φ e f g h b c Q) [] d)
def Fu(Φ:ad)(c d:J)(Q:ab):a:=λh b=>
 Do (aC d) λe=>
 Do (aa 2 e) λf=>
 Do (W b 1 false f) λg=>
 Q (.ar [c,g]) b
def lK(Φ:ad)(h c f e i:J)(Q:ab):BT:=λa g=>
 Do (M .lss (D a.1 0) i) λj=>
 L j true (
 Do (aL none 3 h (D a.1 0)) λk=>
 Do (W a.2 3 true k) λl=>
 aw (some (aQ a.2 true [O,O,O])) λb m=>
 Do (au m 3 b l) λd=>
 Do (aa 0 b) λn=>
 Do (W d 1 false n) λo=>
 Do (M .lss o O) λp=>
 aN p false (
 Do (aa 0 b) λq=>
 Do (W d 1 false q) λr=>
 Do (aY false c) λs=>
 Do (M .geq r s) λt=>
 G (uB Φ c f e b a g Q) [t] d) (
 G (uB Φ c f e b a g Q) [aV] d) (
 False)) (
 G (Fu Φ c e Q) [] a.2)
def f6(Φ:ad)(a0 Y c:J)(H:AH)(Q:ab):Prop:=
Φ 14 [a0] H λa H2=>
Φ 15 [a,(.fn 16 [])] H2 λp d=>
 Do (eL true [Y,O]) λb=>
 aw (kz d true 1 8 [O] b b) λe f=>
 Do (eL true [c,O]) λg=>
 Do (aD [aA,aA,O,O] [(3,1,g)]) λh=>
 aw (aM f true 4 h) λi j=>
 Do (aY false a0) λk=>
 Do (aD [aA,aA,O,O] [(3,1,k)]) λl=>
 aw (aM j true 4 l) λm n=>
 Do (aY false a) λo=>
 av (lK Φ a e i m o Q) ([O],n)
noncomputable def Fv:aF:=A C ⟨6,[14,25,29,33],[[36]],none,[],[]⟩
def uC(Φ:ad)(b:ST)(c:LT)(Q:ab):a:=λf d=>
 Do (M .add (D b.1 0) (I 1)) λe=>
 c ([e],d)
def uD(Φ:ad)(c:J)(H:AH)(d:ST)(e:ST)(f:LT)(Q:ab):a:=λk b=>
 Do (fX b .n (.dm) false (.map H.n) c) λg=>
 Do (aC g) λh=>
 Do (aa 2 h) λi=>
 Do (au b 1 i (D d.1 0)) λj=>
 G (uC Φ e f Q) [] j
def Fw(Φ:ad)(b:ST)(c:LT)(Q:ab):a:=λf d=>
 Do (M .add (D b.1 0) (I 1)) λe=>
 c ([e],d)
def nG(Φ:ad)(Y e f:J)(H:AH)(c:ST)(g:LT)(Q:ab):BT:=λa d=>
 Do (M .lss (D a.1 0) f) λh=>
 L h true (
 Do (aL none 1 e (D a.1 0)) λi=>
 Do (W a.2 1 false i) λb=>
 Do (M .geq b Y) λj=>
 L j true (
 G (uC Φ a d Q) [] a.2) (
 Do (fX a.2 .n (.dm) false (.map H.n) b) λk=>
 Do (h2 .p false k) λl=>
 L l true (
 Do (aD [O,O,O] [(0,1,b),(1,1,(D c.1 0)),(2,1,(D c.1 0))]) λm=>
 aw (aM a.2 true 3 m) λo q=>
 Do (jm q .n (.map H.n) b o) λr=>
 G (uD Φ b H c a d Q) [] r) (
 G (uD Φ b H c a d Q) [] a.2))) (
 G (Fw Φ c g Q) [] a.2)
def uE(Φ:ad)(b:ST)(c:LT)(Q:ab):a:=λd e=>
 Do (M .add (D b.1 1) (I 1)) λf=>
 c ([(D d 0),f],e)
def Aq(Φ:ad)(b:ST)(c:LT)(Q:ab):a:=λd e=>
 Do (M .add (D b.1 1) (I 1)) λf=>
 c ([(D d 0),f],e)
def uF(Φ:ad)(f g:J)(h:List J)(i:LT)(Q:ab):BT:=λa b=>
 Do (M .lss (D a.1 1) g) λj=>
 L j true (
 Do (aL none 2 f (D a.1 1)) λk=>
 Do (W a.2 2 true k) λl=>
 aw (some (aQ a.2 true [O,O])) λc m=>
 Do (au m 2 c l) λd=>
 Do (W d 2 true c) λn=>
Φ 25 [(D h 0),n] d λo e=>
 aN o false (
 G (Aq Φ a b Q) [(D a.1 0)] e) (
 G (Aq Φ a b Q) [aV] e) (
 False)) (
 i ([(D a.1 0)],a.2))
def pB(Φ:ad)(b:J)(c:List J)(Q:ab):BT:=λa d=>
 L (D a.1 0) true (
 Do (aY false b) λe=>
 av (uF Φ b e c d Q) ([P,O],a.2)) (
 Q (D c 0) a.2)
def Fx(Φ:ad)(a0:J)(Q:ab):a:=λb c=>
Φ 24 [a0] c λd e=>
 av (pB Φ d b Q) ([aV],e)
def uG(Φ:ad)(a0 d:J)(H:AH)(Q:ab):BT:=λa b=>
 Do (M .lss (D a.1 1) d) λe=>
 L e true (
 Do (fX a.2 .n (.dm) false (.map H.n) (D a.1 1)) λc=>
 Do (h2 .p true c) λf=>
 L f true (
 Do (aC c) λg=>
 Do (W a.2 3 true g) λh=>
 aw (cb a.2 false 3 1 [O,O,O] [(0,3,h)]) λi j=>
 aw (bR j true 3 24 (D a.1 0) i) λk l=>
 G (uE Φ a b Q) [k] l) (
 G (uE Φ a b Q) [(D a.1 0)] a.2)) (
 G (Fx Φ a0 Q) [(D a.1 0)] a.2)
def Ar(Φ:ad)(a0 Y:J)(H:AH)(Q:ab):a:=λd b=>
 Do (eL true [Y,O]) λc=>
 av (uG Φ a0 c H Q) ([aA,O],b)
def uH(Φ:ad)(a0 Y g:J)(H:AH)(Q:ab):BT:=λa h=>
 Do (M .lss (D a.1 0) g) λi=>
 L i true (
 Do (aL none 13 a0 (D a.1 0)) λj=>
 Do (W a.2 13 true j) λk=>
 aw (some (aQ a.2 true [O,O,O,O,O,O,u 0,O,O,O,O,O,O])) λb l=>
 Do (au l 13 b k) λc=>
 Do (W c 13 true b) λm=>
 Do (W c 13 true b) λd=>
Φ 22 [m] c λn e=>
(W e 13 true b=some d) ∧
(Φ 23 [d] e λo p=>
 aw (cb p false 1 2 [aA] [(0,1,n),(1,1,o)]) λq r=>
Φ 21 [q] r λf s=>
 Do (aY false f) λt=>
 av (nG Φ Y f t H a h Q) ([O],s))) (
 G (Ar Φ a0 Y H Q) [] a.2)
def f7(Φ:ad)(a0 Y:J)(H:AH)(Q:ab):Prop:=
 Do (aY false a0) λa=>
 av (uH Φ a0 Y a H Q) ([O],(H.push (.map [])))
noncomputable def Fy:aF:=A C ⟨7,[7,16,49,73],[[20],[32],[10,60],[14],[14,80]],none,[],[]⟩
def Fz(Φ:ad)(b:ST)(c:LT)(Q:ab):a:=λf d=>
 Do (M .add (D b.1 0) (I 1)) λe=>
 c ([e],d)
def uI(Φ:ad)(d c e:J)(f:ST)(g:LT)(Q:ab):a:=λs b=>
 Do (aC d) λh=>
 Do (aa 1 h) λi=>
 Do (W b 1 false i) λj=>
 Do (aa 0 c) λk=>
 Do (W b 1 false k) λl=>
 Do (aa 0 c) λm=>
 Do (W b 1 false m) λn=>
 Do (M .sub e n) λo=>
 Do (aL none 7 j l) λp=>
 Do (aa 6 p) λq=>
 Do (au b 1 q o) λr=>
 G (Fz Φ f g Q) [] r
def FA(Φ:ad)(c:J)(Q:ab):a:=λt b=>
 Do (aC c) λd=>
 Do (aa 7 d) λe=>
 Do (W b 1 false e) λf=>
 Do (M .neq f O) λg=>
 L g true (
 Do (aC c) λh=>
 Do (aa 7 h) λi=>
 Do (W b 1 false i) λj=>
 Q (.ar [aA,aA,aA,j]) b) (
 Do (aC c) λk=>
 Do (aa 1 k) λl=>
 Do (W b 1 false l) λm=>
 Do (aC c) λn=>
 Do (aa 2 n) λo=>
 Do (W b 1 false o) λp=>
 Do (aC c) λq=>
 Do (aa 3 q) λr=>
 Do (W b 1 false r) λs=>
 Q (.ar [m,p,s,O]) b)
def qZ(Φ:ad)(b h i:J)(Q:ab):BT:=λa e=>
 Do (M .lss (D a.1 0) i) λj=>
 L j true (
 Do (aL none 2 h (D a.1 0)) λk=>
 Do (W a.2 2 true k) λl=>
 aw (some (aQ a.2 true [O,O])) λd m=>
 Do (au m 2 d l) λc=>
 Do (aC b) λo=>
 Do (aa 5 o) λp=>
 Do (W c 1 false p) λq=>
 Do (aa 1 d) λr=>
 Do (W c 1 false r) λs=>
 Do (fX c .n O true q s) λf=>
 Do (bo 0 f) λg=>
 Do (bo 1 f) λt=>
 Do (cC .not t) λu=>
 L u true (
 Do (aC b) λv=>
 Do (aa 7 v) λw=>
 Do (au c 1 w (I 1)) λx=>
 G (uI Φ b d g a e Q) [] x) (
 G (uI Φ b d g a e Q) [] c)) (
 G (FA Φ b Q) [] a.2)
def FB(Φ:ad)(b:J)(Q:ab):a:=λj e=>
 Do (aD [O,O,O,O,O,O,O] [(0,1,(I 31))]) λf=>
Φ 28 [b,f] e λk c=>
 Do (aC b) λg=>
 Do (aa 6 g) λh=>
 Do (W c 1 false h) λd=>
 Do (aY false d) λi=>
 av (qZ Φ b d i Q) ([O],c)
def uJ(Φ:ad)(a0 b e:J)(Q:ab):BT:=λa f=>
 Do (M .lss (D a.1 0) e) λg=>
 L g true (
 Do (aL none 13 a0 (D a.1 0)) λh=>
 Do (W a.2 13 true h) λi=>
 aw (some (aQ a.2 true [O,O,O,O,O,O,u 0,O,O,O,O,O,O])) λc j=>
 Do (au j 13 c i) λd=>
 Do (W d 13 true c) λk=>
Φ 27 [b,k] d λn l=>
 Do (M .add (D a.1 0) (I 1)) λm=>
 f ([m],l)) (
 G (FB Φ b Q) [] a.2)
def f8(Φ:ad)(a0 Y b:J)(H:AH)(Q:ab):Prop:=
 Do (aD [aA,aA,aA,aA,O,.eK,aA,O] [(0,1,Y),(5,1,(.map H.n))]) λc=>
 aw (aM (H.push (.map [])) true 8 c) λa d=>
Φ 26 [a,(I 28),b] d λg e=>
 Do (aY false a0) λf=>
 av (uJ Φ a0 a f Q) ([O],e)
noncomputable def FC:aF:=A C ⟨8,[12,14,20],[[26],[42]],none,[],[]⟩
def pC(Φ:ad)(b c:J)(f:List J)(Q:ab):a:=λk g=>
 Do (aa 31 b) λh=>
 Do (au g 1 h (D f 0)) λd=>
 Do (W d 36 true b) λi=>
 Do (au d 36 c i) λe=>
 Do (W e 36 true c) λj=>
 Q (.ar [j,O]) e
def uK(Φ:ad)(b d e f:J)(g:List J)(Q:ab):a:=λk c=>
 Do (aa 1 d) λh=>
 Do (W c 1 false h) λi=>
Φ 35 [b,i,f] c λl j=>
 G (pC Φ b e g Q) [] j
def uL(Φ:ad)(n b c o e:J)(Q:ab):a:=λf i=>
 Do (W i 7 true c) λp=>
Φ 31 [b,p] i λj g=>
 Do (bo 0 j) λh=>
 Do (bo 1 j) λq=>
 Do (aa 0 c) λr=>
 Do (W g 1 false r) λs=>
 Do (M .eql s (I 30)) λt=>
 L t true (
 Do (aD [O,O] []) λv=>
 Do (aa 34 b) λw=>
 Do (au g 2 w v) λx=>
 G (pC Φ b e f Q) [] x) (
 Do (aa 0 c) λy=>
 Do (W g 1 false y) λz=>
Φ 32 [z] g λA d=>
 L A true (
 Do (W d 7 true c) λB=>
 Do (W d 2 true o) λC=>
Φ 33 [b,B,C,n] d λac D=>
 G (pC Φ b e f Q) [] D) (
 L q true (
 Do (aa 0 c) λE=>
 Do (W d 1 false E) λF=>
 Do (M .eql F (I 5)) λH=>
 L H true (
 Do (M .eql h (u 0)) λK=>
 Do (aa 2 c) λN=>
 Do (W d 1 false N) λP=>
 Do (aa 3 c) λk=>
 Do (W d 1 false k) λl=>
Φ 34 [b,P] d λR m=>
(W m 1 false k=some l) ∧
(Φ 34 [b,l] m λS T=>
 Do (M .geq R S) λU=>
 Do (aa 32 b) λV=>
 Do (au T 1 V K) λX=>
 Do (aa 33 b) λY=>
 Do (au X 1 Y U) λZ=>
 G (uK Φ b c e h f Q) [] Z)) (
 G (uK Φ b c e h f Q) [] d)) (
 G (pC Φ b e f Q) [] d)))
def f9(Φ:ad)(a0 Y j f:J)(H:AH)(Q:ab):Prop:=
 aw (aM H true 36 a0) λa H2=>
 aw (aM H2 false 7 Y) λb k=>
 aw (aM k false 2 j) λg l=>
 aw (some (aQ l true [u 0,u 0,u 0,u 0,u 0,u 0,u 0,u 0,u 0,u 0,u 0,u 0,u 0,u 0,u 0,u 0,u 0,u 0,u 0,u 0,u 0,u 0,u 0,u 0,u 0,u 0,u 0,u 0,u 0,u 0,u 0,O,P,P,O,O])) λc h=>
 Do (W h 7 true b) λm=>
Φ 29 [m] h λn d=>
 Do (cC .not n) λo=>
 L o true (
 Do (aD [u 0,u 0,u 0,u 0,u 0,u 0,u 0,u 0,u 0,u 0,u 0,u 0,u 0,u 0,u 0,u 0,u 0,u 0,u 0,u 0,u 0,u 0,u 0,u 0,u 0,u 0,u 0,u 0,u 0,u 0,u 0,O,P,P,O,O] []) λp=>
 Do (au d 36 c p) λi=>
 Do (W i 36 true c) λq=>
 Q (.ar [q,(I 2)]) i) (
 Do (aa 31 a) λr=>
 Do (W d 1 false r) λs=>
 Do (M .add s (I 1)) λt=>
 Do (W d 7 true b) λv=>
Φ 30 [a,v] d λw e=>
 L w true (
 Do (aa 31 a) λx=>
 Do (W e 1 false x) λy=>
 Do (aa 6 b) λz=>
 Do (W e 1 false z) λA=>
 Do (M .add y A) λB=>
 G (uL Φ f a b g c Q) [B] e) (
 G (uL Φ f a b g c Q) [t] e))
noncomputable def FD:aF:=A C ⟨9,[4,8],[],none,[],[]⟩
def FE(Φ:ad)(b:J)(Q:ab):a:=λg d=>
 Do (aD [O,O] []) λe=>
 Do (au d 2 b e) λc=>
 Do (W c 2 true b) λf=>
 Q f c
def uM(Φ:ad)(f b g h:J)(Q:ab):BT:=λa i=>
 Do (M .lss (D a.1 0) h) λj=>
 L j true (
 Do (aL none 1 g (D a.1 0)) λk=>
 Do (W a.2 1 false k) λl=>
 Do (aa 0 f) λm=>
 Do (W a.2 1 false m) λn=>
 Do (aD [aA,aA,O,O,O,O] [(0,1,n)]) λo=>
 aw (aM a.2 true 6 o) λc p=>
Φ 37 [c,l,(I 1)] p λx q=>
Φ 38 [c] q λr d=>
 L r true (
 Do (aC c) λs=>
 Do (aa 4 s) λt=>
 Do (W d 2 true t) λu=>
 Do (au d 2 b u) λe=>
 Do (W e 2 true b) λv=>
 Q v e) (
 Do (M .add (D a.1 0) (I 1)) λw=>
 i ([w],d))) (
 G (FE Φ b Q) [] a.2)
def As(Φ:ad)(b c:J)(Q:ab):a:=λp e=>
 Do (aa 0 b) λi=>
 Do (W e 1 false i) λj=>
Φ 36 [j] e λf d=>
 Do (M .neq f O) λk=>
 L k true (
 Do (aD [O,O] [(1,1,f)]) λl=>
 Do (au d 2 c l) λg=>
 Do (W g 2 true c) λm=>
 Q m g) (
 Do (aa 1 b) λn=>
 Do (W d 1 false n) λh=>
 Do (aY false h) λo=>
 av (uM Φ b c h o Q) ([O],d))
def uN(Φ:ad)(e b:J)(Q:ab):a:=λf c=>
 L (D f 0) true (
 Do (aD [O,O] [(1,1,(I 12))]) λg=>
 Do (au c 2 b g) λd=>
 Do (W d 2 true b) λh=>
 Q h d) (
 G (As Φ e b Q) [] c)
def uO(Φ:ad)(b d:J)(Q:ab):a:=λe c=>
 aN (D e 0) false (
 Do (aa 1 b) λf=>
 Do (W c 1 false f) λg=>
 Do (aY false g) λh=>
 Do (M .gtr h (I 8)) λi=>
 G (uN Φ b d Q) [i] c) (
 G (uN Φ b d Q) [aV] c) (
 False)
def f10(Φ:ad)(a0:J)(H:AH)(Q:ab):Prop:=
 aw (aM H false 2 a0) λa H2=>
 aw (some (aQ H2 true [O,O])) λc b=>
 Do (aa 0 a) λd=>
 Do (W b 1 false d) λe=>
 Do (aY false e) λf=>
 Do (M .gtr f (I 32)) λg=>
 aN g false (
 Do (aa 1 a) λh=>
 Do (W b 1 false h) λi=>
 Do (aY false i) λj=>
 Do (M .lss j (I 1)) λk=>
 G (uO Φ a c Q) [k] b) (
 G (uO Φ a c Q) [aV] b) (
 False)
noncomputable def FF:aF:=A C ⟨10,[2,41],[[34]],none,[],[]⟩
def FG(Φ:ad)(c:ST)(d:LT)(Q:ab):a:=λb e=>
 Do (M .add (D c.1 2) (I 1)) λf=>
 d ([(D b 0),(D b 1),f],e)
def uP(Φ:ad)(f b:J)(c:ST)(g:LT)(Q:ab):a:=λd e=>
 Do (aa 0 f) λh=>
 Do (W e 1 false h) λi=>
 Do (M .add (I 65536) (D d 0)) λj=>
 Do (aD [O,O] [(0,1,j),(1,1,b)]) λk=>
 Do (aD [.str [],O,O] [(0,1,i),(1,2,k)]) λl=>
 aw (cb e false 3 1 [.str [],O,O] [(0,3,l)]) λm n=>
 aw (bR n false 3 32 (D c.1 0) m) λo p=>
 Do (M .add (D d 0) b) λq=>
 G (FG Φ c g Q) [o,q] p
def FH(Φ:ad)(Q:ab):a:=λb H2=>
 Do (M .gtr (D b 1) (I 65536)) λc=>
 L c true (
 Q (.ar [aA,O,(I 9)]) H2) (
 Q (.ar [(D b 0),(D b 1),O]) H2)
def q0(Φ:ad)(a0 k:J)(Q:ab):BT:=λa f=>
 Do (M .lss (D a.1 2) k) λl=>
 L l true (
 Do (aL none 7 a0 (D a.1 2)) λm=>
 Do (W a.2 7 true m) λn=>
 aw (some (aQ a.2 true [.str [],O,O,P,aA,O,aA])) λb o=>
 Do (au o 7 b n) λg=>
 Do (aa 1 b) λp=>
 Do (W g 6 true p) λq=>
Φ 39 [q] g λc d=>
 Do (bo 0 c) λh=>
 Do (bo 1 c) λe=>
 Do (bo 2 c) λi=>
 Do (M .neq i O) λr=>
 L r true (
 Q (.ar [aA,O,i]) d) (
 Do (M .add (D a.1 1) e) λs=>
 Do (M .sub s (I 1)) λt=>
 Do (M .quo t e) λu=>
 Do (M .mul u e) λj=>
 Do (M .gtr j (I 65536)) λv=>
 L v true (
 G (uP Φ b h a f Q) [(I 65537)] d) (
 G (uP Φ b h a f Q) [j] d))) (
 G (FH Φ Q) [(D a.1 0),(D a.1 1)] a.2)
def f11(Φ:ad)(a0:J)(H:AH)(Q:ab):Prop:=
 Do (aY false a0) λa=>
 av (q0 Φ a0 a Q) ([aA,O,O],H)
noncomputable def FI:aF:=A C ⟨11,[8],[[5,6,14]],none,[],[]⟩
def FJ(Φ:ad)(a0 c:J)(Q:ab):a:=λk b=>
 Do (aC a0) λd=>
 Do (aa 7 d) λe=>
 Do (W b 1 false e) λf=>
 Do (c6 2 f none (some c) none) λg=>
 Do (aC a0) λh=>
 Do (aa 7 h) λi=>
 Do (au b 1 i g) λj=>
 Q (.ar []) j
def uQ(Φ:ad)(a0 Y e f:J)(Q:ab):BT:=λa g=>
 Do (M .lss (D a.1 0) f) λh=>
 L h true (
 Do (aL none 10 Y (D a.1 0)) λi=>
 Do (W a.2 10 true i) λj=>
 aw (some (aQ a.2 true [O,O,.str [],.str [],O,.str [],aA,aA,aA,aA])) λb k=>
 Do (au k 10 b j) λc=>
 Do (aa 1 b) λl=>
 Do (W c 1 false l) λm=>
 Do (aC a0) λn=>
 Do (aa 6 n) λo=>
 Do (au c 1 o m) λd=>
 Do (W d 10 true b) λp=>
Φ 40 [a0,p] d λs q=>
 Do (M .add (D a.1 0) (I 1)) λr=>
 g ([r],q)) (
 G (FJ Φ a0 e Q) [] a.2)
def f12(Φ:ad)(a0 Y:J)(H:AH)(Q:ab):Prop:=
 Do (aC a0) λa=>
 Do (aa 7 a) λb=>
 Do (W H 1 false b) λc=>
 Do (aY false c) λd=>
 Do (aY false Y) λe=>
 av (uQ Φ a0 Y d e Q) ([O],H)
noncomputable def FL:aF:=A C ⟨12,[6],[[14]],none,[],[]⟩
def pD(Φ:ad)(b:ST)(c:LT)(Q:ab):a:=λd e=>
 Do (M .add (D b.1 1) (I 1)) λf=>
 c ([(D d 0),f],e)
def FM(Φ:ad)(a0:J)(Q:ab):a:=λb H2=>
 Do (aY false (D b 0)) λc=>
 Do (M .eql c O) λd=>
 L d true (
 Do (aD [O,O,O,O,O,O,O] [(0,1,(I 1)),(1,1,a0)]) λe=>
 aw (cb H2 false 7 1 [O,O,O,O,O,O,O] [(0,7,e)]) λf g=>
 aw (bR g false 7 56 (D b 0) f) λh i=>
 Q h i) (
 Q (D b 0) H2)
def pE(Φ:ad)(a0 Y:J)(Q:ab):BT:=λa b=>
 Do (M .lss (D a.1 1) (I 4)) λd=>
 L d true (
 Do (M .mul (I 16) (D a.1 1)) λe=>
 Do (M .shr Y e) λf=>
 Do (M .and f (u 65535)) λg=>
 Do (db .i64 g) λc=>
 Do (M .eql c O) λh=>
 L h true (
 G (pD Φ a b Q) [(D a.1 0)] a.2) (
 Do (aY false (D a.1 0)) λi=>
 Do (M .eql i O) λj=>
 L j true (
 Do (aD [O,O,O,O,O,O,O] [(0,1,(I 1)),(1,1,a0),(4,1,(D a.1 1)),(6,1,c)]) λk=>
 aw (cb a.2 false 7 1 [O,O,O,O,O,O,O] [(0,7,k)]) λl m=>
 aw (bR m false 7 56 (D a.1 0) l) λn o=>
 G (pD Φ a b Q) [n] o) (
 Do (aD [O,O,O,O,O,O,O] [(0,1,(I 2)),(1,1,a0),(4,1,(D a.1 1)),(6,1,c)]) λp=>
 aw (cb a.2 false 7 1 [O,O,O,O,O,O,O] [(0,7,p)]) λq r=>
 aw (bR r false 7 56 (D a.1 0) q) λs t=>
 G (pD Φ a b Q) [s] t))) (
 G (FM Φ a0 Q) [(D a.1 0)] a.2)
def f13(Φ:ad)(a0 Y:J)(H:AH)(Q:ab):Prop:=
 av (pE Φ a0 Y Q) ([aA,O],H)
noncomputable def FN:aF:=A C ⟨13,[],[[5,8]],none,[],[]⟩
def f14(Φ:ad)(a0:J)(H:AH)(Q:ab):Prop:=
 Do (h2 .s false a0) λa=>
 L a true (
 Q aA H) (
 aw (cb H false 3 0 [O,O,O] []) λb c=>
 aw (bR c true 3 24 b a0) λd e=>
 Q d e)
noncomputable def FO:aF:=A C ⟨14,[7],[],none,[],[]⟩
def f15(Φ:ad)(a0 Y:J)(H:AH)(Q:ab):Prop:=
 Do (aY false a0) λa=>
Φ 41 [a0,a,Y] H λc b=>
 Q (.ar []) b
noncomputable def FP:aF:=A C ⟨15,[],[],none,[],[]⟩
def f16(Φ:ad)(a0 Y:J)(H:AH)(Q:ab):Prop:=
 aw (aM H false 3 a0) λc H2=>
 aw (aM H2 false 3 Y) λd a=>
 Do (aa 1 c) λi=>
 Do (W a 1 false i) λj=>
 Do (aa 1 d) λk=>
 Do (W a 1 false k) λl=>
 Do (aa 0 c) λe=>
 Do (W a 1 false e) λf=>
 Do (aa 0 d) λg=>
 Do (W a 1 false g) λh=>
Φ 18 [j,l] a λm b=>
(W b 1 false e=some f) ∧
(W b 1 false g=some h) ∧
(Φ 18 [f,h] b λn o=>
 aw (cb o false 1 2 [O] [(0,1,m),(1,1,n)]) λp q=>
Φ 17 [p] q λr s=>
 Q r s)
noncomputable def FQ:aF:=A C ⟨16,[],[],none,[],[]⟩
def uR(Φ:ad)(a0 b:J)(Q:ab):BT:=λs2 c=>
 Do (M .lss (D s2.1 0) b) λd=>
 L d true (
 Do (aL none 1 a0 (D s2.1 0)) λe=>
 Do (W s2.2 1 false e) λa=>
 Do (M .neq a O) λf=>
 L f true (
 Q a s2.2) (
 Do (M .add (D s2.1 0) (I 1)) λg=>
 c ([g],s2.2))) (
 Q O s2.2)
def f17(Φ:ad)(a0:J)(H:AH)(Q:ab):Prop:=
 Do (aY false a0) λa=>
 av (uR Φ a0 a Q) ([O],H)
noncomputable def FR:aF:=A C ⟨17,[],[[8]],none,[],[]⟩
def f18(Φ:ad)(a0 Y:J)(H:AH)(Q:ab):Prop:=
Φ 42 [a0] H λc H2=>
Φ 42 [Y] H2 λb a=>
 L c true (
 L b true (
 Q O a) (
 Q (I (-1)) a)) (
 L b true (
 Q (I 1) a) (
 Do (M .lss a0 Y) λd=>
 L d true (
 Q (I (-1)) a) (
 Do (M .gtr a0 Y) λe=>
 L e true (
 Q (I 1) a) (
 Q O a))))
noncomputable def FT:aF:=A C ⟨18,[],[],none,[],[]⟩
def FU(Φ:ad)(a0:J)(g:LT)(Q:ab):a:=λu d=>
 Do (aC a0) λh=>
 Do (aa 0 h) λb=>
 Do (W d 1 false b) λc=>
 Do (aC a0) λi=>
 Do (aa 1 i) λj=>
Φ 43 [(.iface 138 j)] d λk e=>
(W e 1 false b=some c) ∧
(aw (c4 e (.kC 136) [k]) λl f=>
(W f 1 false b=some c) ∧
(Do (ly 1 1 false l) λm=>
 aw (cb f false 1 1 [O] [(0,1,m)]) λn o=>
 aw (bR o true 1 8 c n) λp q=>
 Do (aC a0) λr=>
 Do (aa 0 r) λs=>
 Do (au q 1 s p) λt=>
 g ([],t)))
def Au(Φ:ad)(a0:J)(Q:ab):a:=λf H2=>
 Do (aC a0) λb=>
 Do (aa 0 b) λc=>
 Do (W H2 1 false c) λd=>
Φ 44 [d,(.fn 45 [])] H2 λg e=>
 Q (.ar []) e
def q1(Φ:ad)(a0:J)(c:LT)(Q:ab):a:=λd b=>
 L (D d 0) true (
 G (FU Φ a0 c Q) [] b) (
 G (Au Φ a0 Q) [] b)
def q2(Φ:ad)(a0 Y:J)(Q:ab):BT:=λa b=>
 Do (aC a0) λc=>
 Do (aa 1 c) λd=>
 Do (W a.2 1 false d) λe=>
 Do (aY false e) λf=>
 Do (M .gtr f O) λg=>
 aN g true (
 Do (aC a0) λh=>
 Do (aa 1 h) λi=>
 Do (W a.2 1 false i) λj=>
 Do (aL none 2 j O) λk=>
 Do (aa 0 k) λl=>
 Do (W a.2 1 false l) λm=>
 Do (M .lss m Y) λn=>
 G (q1 Φ a0 b Q) [n] a.2) (
 G (q1 Φ a0 b Q) [P] a.2) (
 False)
def f19(Φ:ad)(a0 Y:J)(H:AH)(Q:ab):Prop:=
 av (q2 Φ a0 Y Q) ([],H)
noncomputable def FV:aF:=A C ⟨19,[34],[[]],none,[],[]⟩
def uS(Φ:ad)(a0 Y:J)(Q:ab):a:=λb c=>
 Do (aC a0) λd=>
 Do (aa 1 d) λe=>
 Do (aD [O,O] [(0,1,Y),(1,1,(D b 0))]) λf=>
Φ 46 [(.iface 138 e),(.iface 136 f)] c λh g=>
 Q (.ar [(D b 0),aV]) g
def f20(Φ:ad)(a0 Y:J)(H:AH)(Q:ab):Prop:=
 Do (aC a0) λb=>
 Do (aa 2 b) λc=>
 Do (W H 1 false c) λd=>
 Do (aC a0) λe=>
 Do (aa 0 e) λf=>
 Do (W H 1 false f) λg=>
 Do (aY false g) λa=>
 Do (M .gtr a O) λh=>
 L h true (
 Do (aC a0) λi=>
 Do (aa 0 i) λj=>
 Do (W H 1 false j) λk=>
 Do (M .sub a (I 1)) λl=>
 Do (aL none 1 k l) λm=>
 Do (W H 1 false m) λn=>
 Do (aC a0) λo=>
 Do (aa 0 o) λp=>
 Do (W H 1 false p) λq=>
 Do (M .sub a (I 1)) λr=>
 Do (c6 1 q none (some r) none) λs=>
 Do (aC a0) λt=>
 Do (aa 0 t) λu=>
 Do (au H 1 u s) λv=>
 G (uS Φ a0 Y Q) [n] v) (
 Do (aC a0) λw=>
 Do (aa 2 w) λx=>
 Do (W H 1 false x) λy=>
 Do (aC a0) λz=>
 Do (aa 3 z) λA=>
 Do (W H 1 false A) λB=>
 Do (M .geq y B) λC=>
 L C true (
 Q (.ar [O,P]) H) (
 Do (aC a0) λD=>
 Do (aa 2 D) λE=>
 Do (W H 1 false E) λF=>
 Do (M .add F (I 1)) λK=>
 Do (aC a0) λN=>
 Do (aa 2 N) λR=>
 Do (au H 1 R K) λS=>
 G (uS Φ a0 Y Q) [d] S))
noncomputable def FW:aF:=A C ⟨20,[],[],none,[],[]⟩
def uT(Φ:ad)(b:ST)(c:LT)(Q:ab):a:=λd e=>
 Do (M .add (D b.1 1) (I 1)) λf=>
 c ([(D d 0),f],e)
def uU(Φ:ad)(a0 b:J)(Q:ab):BT:=λa c=>
 Do (M .lss (D a.1 1) b) λd=>
 L d true (
 Do (aL none 1 a0 (D a.1 1)) λe=>
 Do (W a.2 1 false e) λf=>
 aw (bR a.2 false 1 8 (D a.1 0) f) λg h=>
 Do (M .add (D a.1 1) (I 1)) λi=>
 c ([g,i],h)) (
 Q (D a.1 0) a.2)
def FX(Φ:ad)(a0:J)(Q:ab):a:=λb H2=>
Φ 47 [aA,(D b 0)] H2 λc d=>
 Do (aY false a0) λe=>
 av (uU Φ a0 e Q) ([c,O],d)
def uV(Φ:ad)(a0 d:J)(Q:ab):BT:=λa c=>
 Do (M .lss (D a.1 1) d) λe=>
 L e true (
 Do (aL none 1 a0 (D a.1 1)) λf=>
 Do (W a.2 1 false f) λg=>
 Do (aY false g) λh=>
 Do (M .add (D a.1 0) h) λb=>
 Do (M .lss b O) λi=>
 L i true (
 aw (c4 a.2 .stuck []) λk j=>
 G (uT Φ a c Q) [b] j) (
 G (uT Φ a c Q) [b] a.2)) (
 G (FX Φ a0 Q) [(D a.1 0)] a.2)
def f21(Φ:ad)(a0:J)(H:AH)(Q:ab):Prop:=
 Do (aY false a0) λa=>
 av (uV Φ a0 a Q) ([O,O],H)
noncomputable def FY:aF:=A C ⟨21,[],[[3,11],[6,27]],none,[],[]⟩
def f22(Φ:ad)(a0:J)(H:AH)(Q:ab):Prop:=
 aw (aM H false 13 a0) λa H2=>
 Do (aa 3 a) λb=>
 Do (W H2 1 false b) λc=>
 Do (aa 4 a) λd=>
 Do (W H2 1 false d) λe=>
 Do (aa 5 a) λf=>
 Do (W H2 1 false f) λg=>
 aw (cb H2 true 1 3 [O] [(0,1,c),(1,1,e),(2,1,g)]) λh i=>
Φ 48 [h] i λj k=>
 Q j k
noncomputable def FZ:aF:=A C ⟨22,[9],[],none,[],[]⟩
def f23(Φ:ad)(a0:J)(H:AH)(Q:ab):Prop:=
 aw (aM H false 13 a0) λa H2=>
 Do (aa 1 a) λb=>
 Do (W H2 1 false b) λc=>
 Do (aa 2 a) λd=>
 Do (W H2 1 false d) λe=>
 aw (cb H2 true 1 2 [O] [(0,1,c),(1,1,e)]) λf g=>
Φ 48 [f] g λh i=>
 Q h i
noncomputable def F0:aF:=A C ⟨23,[7],[],none,[],[]⟩
def pF(Φ:ad)(b:ST)(c:LT)(Q:ab):a:=λd e=>
 Do (M .add (D b.1 1) (I 1)) λf=>
 c ([(D d 0),f],e)
def uW(Φ:ad)(f:J)(H:AH)(b:ST)(d:LT)(Q:ab):a:=λg c=>
 L (D g 0) true (
 Do (aa 10 f) λh=>
 Do (W c 1 false h) λi=>
 Do (fX c .n O true (.map H.n) i) λe=>
 Do (bo 0 e) λj=>
 Do (bo 1 e) λk=>
 L k true (
 Do (aD [O,O] [(0,1,j),(1,1,(D b.1 1))]) λl=>
 aw (cb c false 2 1 [O,O] [(0,2,l)]) λm o=>
 aw (bR o false 2 16 (D b.1 0) m) λp q=>
 G (pF Φ b d Q) [p] q) (
 G (pF Φ b d Q) [(D b.1 0)] c)) (
 G (pF Φ b d Q) [(D b.1 0)] c)
def pG(Φ:ad)(a0 g:J)(H:AH)(Q:ab):BT:=λa d=>
 Do (M .lss (D a.1 1) g) λh=>
 L h true (
 Do (aL none 13 a0 (D a.1 1)) λi=>
 Do (W a.2 13 true i) λj=>
 aw (some (aQ a.2 true [O,O,O,O,O,O,u 0,O,O,O,O,O,O])) λb k=>
 Do (au k 13 b j) λc=>
 Do (aa 0 b) λl=>
 Do (W c 1 false l) λe=>
 Do (M .eql e (I 14)) λm=>
 L m true (
 Do (aa 10 b) λo=>
 Do (W c 1 false o) λp=>
 Do (jm c .n (.map H.n) p (D a.1 1)) λq=>
 G (pF Φ a d Q) [(D a.1 0)] q) (
 Do (M .eql e (I 15)) λf=>
 L f true (
 G (uW Φ b H a d Q) [f] c) (
 Do (M .eql e (I 16)) λr=>
 G (uW Φ b H a d Q) [r] c))) (
 Q (D a.1 0) a.2)
def f24(Φ:ad)(a0:J)(H:AH)(Q:ab):Prop:=
 Do (aY false a0) λa=>
 av (pG Φ a0 a H Q) ([aA,O],(H.push (.map [])))
noncomputable def F1:aF:=A C ⟨24,[6],[[4,12]],none,[],[]⟩
def uX(Φ:ad)(b:ST)(c:LT)(Q:ab):a:=λd e=>
 Do (M .add (D b.1 1) (I 1)) λf=>
 c ([(D d 0),f],e)
def pH(Φ:ad)(e f:J)(b:ST)(d:LT)(Q:ab):a:=λg c=>
 L (D g 0) true (
 Do (aa 1 e) λh=>
 Do (W c 1 false h) λi=>
 Do (aC f) λj=>
 Do (aa 2 j) λk=>
 Do (au c 1 k i) λl=>
 G (uX Φ b d Q) [aV] l) (
 G (uX Φ b d Q) [(D b.1 0)] c)
def q3(Φ:ad)(a0 b e:J)(Q:ab):BT:=λa d=>
 Do (M .lss (D a.1 1) e) λf=>
 L f true (
 Do (aL none 3 a0 (D a.1 1)) λc=>
 Do (aC c) λg=>
 Do (aa 1 g) λh=>
 Do (W a.2 1 false h) λi=>
 Do (aa 0 b) λj=>
 Do (W a.2 1 false j) λk=>
 Do (M .lss i k) λl=>
 aN l true (
 Do (aC c) λm=>
 Do (aa 2 m) λn=>
 Do (W a.2 1 false n) λo=>
 Do (aa 0 b) λp=>
 Do (W a.2 1 false p) λq=>
 Do (M .geq o q) λr=>
 aN r true (
 Do (aC c) λs=>
 Do (aa 2 s) λt=>
 Do (W a.2 1 false t) λu=>
 Do (aa 1 b) λv=>
 Do (W a.2 1 false v) λw=>
 Do (M .lss u w) λx=>
 G (pH Φ b c a d Q) [x] a.2) (
 G (pH Φ b c a d Q) [P] a.2) (
 False)) (
 G (pH Φ b c a d Q) [P] a.2) (
 False)) (
 Q (D a.1 0) a.2)
def f25(Φ:ad)(a0 Y:J)(H:AH)(Q:ab):Prop:=
 aw (aM H false 2 Y) λa H2=>
 Do (aY false a0) λb=>
 av (q3 Φ a0 a b Q) ([P,O],H2)
noncomputable def F2:aF:=A C ⟨25,[],[[5,10]],none,[],[]⟩
def uY(Φ:ad)(a0 d e:J)(Q:ab):BT:=λa f=>
 Do (M .lss (D a.1 0) e) λg=>
 L g true (
 Do (aL none 7 d (D a.1 0)) λh=>
 Do (W a.2 7 true h) λi=>
 aw (some (aQ a.2 true [O,O,O,O,O,O,O])) λb j=>
 Do (au j 7 b i) λc=>
 Do (W c 7 true b) λk=>
Φ 28 [a0,k] c λn l=>
 Do (M .add (D a.1 0) (I 1)) λm=>
 f ([m],l)) (
 Q (.ar []) a.2)
def f26(Φ:ad)(a0 Y b:J)(H:AH)(Q:ab):Prop:=
Φ 13 [Y,b] H λa H2=>
 Do (aY false a) λc=>
 av (uY Φ a0 a c Q) ([O],H2)
noncomputable def F3:aF:=A C ⟨26,[7],[[12]],none,[],[]⟩
def uZ(Φ:ad)(a0 c:J)(Q:ab):a:=λd b=>
 Do (aa 11 c) λe=>
 Do (W b 1 false e) λf=>
 Do (aD [O,O,O,O,O,O,O] [(0,1,(I 29)),(6,1,(D d 0))]) λg=>
Φ 59 [a0,f,g] b λi h=>
 Q (.ar []) h
def u0(Φ:ad)(a0 c d:J)(Q:ab):a:=λe b=>
 L (D e 0) true (
 Do (W b 13 true c) λf=>
Φ 60 [a0,f] b λv g=>
 Q (.ar []) g) (
 Do (M .eql d (I 17)) λh=>
 L h true (
 Do (W b 13 true c) λi=>
Φ 61 [a0,i] b λw j=>
 Q (.ar []) j) (
 Do (M .eql d (I 18)) λk=>
 L k true (
 Do (aa 3 c) λl=>
 Do (W b 1 false l) λm=>
Φ 52 [a0,m,(I 8)] b λn o=>
 Do (M .add (I 1) n) λp=>
 Do (aD [O,O,O,O,O,O,O] [(0,1,(I 31)),(6,1,p)]) λq=>
Φ 28 [a0,q] o λx r=>
 Q (.ar []) r) (
 Do (aC a0) λs=>
 Do (aa 7 s) λt=>
 Do (au b 1 t (I 1)) λu=>
 Q (.ar []) u)))
def u1(Φ:ad)(a0 c d:J)(Q:ab):a:=λf b=>
 L (D f 0) true (
 Do (W b 13 true c) λg=>
Φ 58 [a0,g] b λz h=>
 Q (.ar []) h) (
 Do (M .eql d (I 13)) λi=>
 L i true (
 Do (aa 9 c) λj=>
 Do (W b 1 false j) λk=>
 Do (M .eql k (I 2)) λl=>
 L l true (
 G (uZ Φ a0 c Q) [(I 1)] b) (
 G (uZ Φ a0 c Q) [O] b)) (
 Do (M .eql d (I 14)) λm=>
 L m true (
 Do (aC a0) λo=>
 Do (aa 5 o) λp=>
 Do (W b 1 false p) λq=>
 Do (aa 10 c) λr=>
 Do (W b 1 false r) λs=>
 Do (aC a0) λt=>
 Do (aa 1 t) λu=>
 Do (W b 1 false u) λv=>
 Do (aY false v) λw=>
 Do (jm b .n q s w) λx=>
 Q (.ar []) x) (
 Do (M .eql d (I 15)) λe=>
 L e true (
 G (u0 Φ a0 c d Q) [e] b) (
 Do (M .eql d (I 16)) λy=>
 G (u0 Φ a0 c d Q) [y] b))))
def u2(Φ:ad)(a0 d c:J)(Q:ab):a:=λf b=>
 L (D f 0) true (
 Do (W b 13 true d) λg=>
Φ 56 [a0,g] b λm h=>
 Q (.ar []) h) (
 Do (M .eql c (I 10)) λi=>
 L i true (
 Do (W b 13 true d) λj=>
Φ 57 [a0,j] b λn k=>
 Q (.ar []) k) (
 Do (M .eql c (I 11)) λe=>
 L e true (
 G (u1 Φ a0 d c Q) [e] b) (
 Do (M .eql c (I 12)) λl=>
 G (u1 Φ a0 d c Q) [l] b)))
def u3(Φ:ad)(a0 d b:J)(Q:ab):a:=λf c=>
 L (D f 0) true (
 Do (W c 13 true d) λg=>
Φ 55 [a0,g] c λj h=>
 Q (.ar []) h) (
 Do (M .eql b (I 8)) λe=>
 L e true (
 G (u2 Φ a0 d b Q) [e] c) (
 Do (M .eql b (I 9)) λi=>
 G (u2 Φ a0 d b Q) [i] c))
def u4(Φ:ad)(a0 d b:J)(Q:ab):a:=λf c=>
 L (D f 0) true (
 Do (W c 13 true d) λg=>
Φ 54 [a0,g] c λj h=>
 Q (.ar []) h) (
 Do (M .eql b (I 5)) λe=>
 L e true (
 G (u3 Φ a0 d b Q) [e] c) (
 Do (M .eql b (I 7)) λi=>
 G (u3 Φ a0 d b Q) [i] c))
def f27(Φ:ad)(a0 Y:J)(H:AH)(Q:ab):Prop:=
 aw (aM H false 13 Y) λa H2=>
 Do (aa 12 a) λk=>
 Do (W H2 1 false k) λl=>
 Do (aC a0) λm=>
 Do (aa 4 m) λn=>
 Do (au H2 1 n l) λb=>
 Do (aa 0 a) λo=>
 Do (W b 1 false o) λc=>
 Do (M .eql c (I 1)) λp=>
 L p true (
 Do (aa 1 a) λq=>
 Do (W b 1 false q) λr=>
Φ 49 [a0,r,(I 11)] b λd e=>
 Do (aa 6 a) λs=>
 Do (W e 1 false s) λt=>
Φ 26 [a0,d,t] e λK f=>
 Do (aa 1 a) λu=>
 Do (W f 1 false u) λv=>
Φ 50 [a0,v,d] f λN w=>
 Q (.ar []) w) (
 Do (M .eql c (I 2)) λx=>
 L x true (
 Do (aa 1 a) λg=>
 Do (W b 1 false g) λh=>
 Do (aa 3 a) λy=>
 Do (W b 1 false y) λz=>
Φ 52 [a0,z,(I 8)] b λA i=>
(W i 1 false g=some h) ∧
(Φ 51 [a0,h,A] i λO B=>
 Q (.ar []) B)) (
 Do (M .eql c (I 3)) λC=>
 L C true (
 Do (W b 13 true a) λD=>
Φ 53 [a0,D] b λP E=>
 Q (.ar []) E) (
 Do (M .eql c (I 4)) λj=>
 L j true (
 G (u4 Φ a0 a c Q) [j] b) (
 Do (M .eql c (I 6)) λF=>
 G (u4 Φ a0 a c Q) [F] b))))
noncomputable def F4:aF:=A C ⟨27,[],[],none,[],[]⟩
def f28(Φ:ad)(a0 Y:J)(H:AH)(Q:ab):Prop:=
 aw (aM H false 7 Y) λa H2=>
 Do (W H2 7 true a) λb=>
Φ 59 [a0,O,b] H2 λd c=>
 Q (.ar []) c
noncomputable def F5:aF:=A C ⟨28,[],[],none,[],[]⟩
def f29(Φ:ad)(a0:J)(H:AH)(Q:ab):Prop:=
 aw (aM H false 7 a0) λb H2=>
 Do (W H2 7 true b) λc=>
Φ 62 [c] H2 λa d=>
 Do (bo 0 a) λg=>
 Do (bo 1 a) λe=>
 Do (M .eql e O) λf=>
 Q f d
noncomputable def F6:aF:=A C ⟨29,[],[],none,[],[]⟩
def f30(Φ:ad)(a0 Y:J)(H:AH)(Q:ab):Prop:=
 aw (aM H false 7 Y) λa H2=>
 Do (aa 0 a) λc=>
 Do (W H2 1 false c) λb=>
 Do (M .eql b (I 13)) λd=>
 L d true (
 Q aV H2) (
 Do (M .eql b (I 14)) λe=>
 L e true (
 Do (aa 4 a) λf=>
 Do (W H2 1 false f) λg=>
Φ 63 [a0,g] H2 λh i=>
 Q h i) (
 Do (M .eql b (I 15)) λj=>
 L j true (
 Do (aa 1 a) λk=>
 Do (W H2 1 false k) λl=>
Φ 34 [a0,l] H2 λm n=>
 Do (M .eql m (u 0)) λo=>
 Q o n) (
 Do (M .eql b (I 16)) λp=>
 L p true (
 Do (aa 1 a) λq=>
 Do (W H2 1 false q) λr=>
Φ 34 [a0,r] H2 λs t=>
 Do (M .neq s (u 0)) λv=>
 Q v t) (
 Q P H2))))
noncomputable def F7:aF:=A C ⟨30,[],[],none,[],[]⟩
def u5(Φ:ad)(a0 g c d e:J)(Q:ab):a:=λh b=>
 L (D h 0) true (
 Do (M .sub c d) λi=>
 Q (.ar [i,aV]) b) (
 Do (M .eql e (I 6)) λj=>
 L j true (
 Do (M .and c d) λk=>
 Q (.ar [k,aV]) b) (
 Do (M .eql e (I 7)) λl=>
 L l true (
 Do (M .or c d) λm=>
 Q (.ar [m,aV]) b) (
 Do (M .eql e (I 8)) λn=>
 L n true (
 Do (M .xor c d) λo=>
 Q (.ar [o,aV]) b) (
 Do (M .eql e (I 9)) λp=>
 L p true (
 Do (M .mul c d) λq=>
 Q (.ar [q,aV]) b) (
 Do (M .eql e (I 10)) λr=>
 L r true (
 Do (M .rem d (u 64)) λs=>
 Do (M .shl c s) λt=>
 Q (.ar [t,aV]) b) (
 Do (M .eql e (I 11)) λv=>
 L v true (
 Do (M .rem d (u 64)) λw=>
 Do (M .shr c w) λx=>
 Q (.ar [x,aV]) b) (
 Do (M .eql e (I 12)) λy=>
 L y true (
 Do (aa 4 g) λz=>
 Do (W b 1 false z) λA=>
Φ 63 [a0,A] b λB f=>
 L B true (
 Q (.ar [(u 1),aV]) f) (
 Q (.ar [(u 0),aV]) f)) (
 Q (.ar [(u 0),P]) b))))))))
def f31(Φ:ad)(a0 Y:J)(H:AH)(Q:ab):Prop:=
 aw (aM H false 7 Y) λb H2=>
 Do (aa 2 b) λo=>
 Do (W H2 1 false o) λp=>
 Do (aa 3 b) λg=>
 Do (W H2 1 false g) λh=>
Φ 34 [a0,p] H2 λd i=>
(W i 1 false g=some h) ∧
(Φ 34 [a0,h] i λe a=>
 Do (aa 0 b) λq=>
 Do (W a 1 false q) λc=>
 Do (M .eql c (I 1)) λr=>
 L r true (
 Do (aa 6 b) λs=>
 Do (W a 1 false s) λt=>
 Do (db .u64 t) λu=>
 Do (aa 4 b) λv=>
 Do (W a 1 false v) λw=>
 Do (M .mul (I 16) w) λx=>
 Do (M .shl u x) λy=>
 Q (.ar [y,aV]) a) (
 Do (M .eql c (I 2)) λz=>
 L z true (
 Do (aa 1 b) λA=>
 Do (W a 1 false A) λB=>
 Do (aa 4 b) λj=>
 Do (W a 1 false j) λk=>
 Do (M .mul (I 16) k) λC=>
 Do (aa 6 b) λl=>
 Do (W a 1 false l) λm=>
 Do (db .u64 m) λD=>
Φ 34 [a0,B] a λE f=>
(W f 1 false j=some k) ∧
(W f 1 false l=some m) ∧
(Φ 64 [E,C,(I 16),D] f λF K=>
 Q (.ar [F,aV]) K)) (
 Do (M .eql c (I 3)) λN=>
 L N true (
 Do (M .add d e) λO=>
 Q (.ar [O,aV]) a) (
 Do (M .eql c (I 4)) λn=>
 L n true (
 G (u5 Φ a0 b d e c Q) [n] a) (
 Do (M .eql c (I 5)) λP=>
 G (u5 Φ a0 b d e c Q) [P] a)))))
noncomputable def F8:aF:=A C ⟨31,[],[],none,[],[]⟩
def f32(Φ:ad)(a0:J)(H:AH)(Q:ab):Prop:=
Φ 65 [a0,(I 17),(I 28)] H λa H2=>
 Q a H2
noncomputable def F9:aF:=A C ⟨32,[],[],none,[],[]⟩
def u6(Φ:ad)(a0 c:J)(Q:ab):a:=λd b=>
 Do (aa 3 c) λe=>
 Do (W b 1 false e) λf=>
Φ 35 [a0,f,(D d 0)] b λl g=>
 Do (aD [O,O] []) λh=>
 Do (aC a0) λi=>
 Do (aa 34 i) λj=>
 Do (au g 2 j h) λk=>
 Q (.ar []) k
def u7(Φ:ad)(a0 q b e f:J)(Q:ab):a:=λr d=>
 L (D r 0) true (
 L q true (
 G (u6 Φ a0 b Q) [(u 0)] d) (
 G (u6 Φ a0 b Q) [(u 1)] d)) (
 Do (aa 0 b) λs=>
 Do (W d 1 false s) λt=>
Φ 67 [t] d λv g=>
 L v true (
 Q (.ar []) g) (
 Do (aa 0 b) λw=>
 Do (W g 1 false w) λx=>
Φ 69 [x] g λy c=>
 L y true (
 Do (aa 1 b) λz=>
 Do (W c 1 false z) λA=>
 Do (aL (some 2) 1 e O) λB=>
 Do (W c 1 false B) λC=>
Φ 35 [a0,A,C] c λaj h=>
 Do (aa 4 b) λE=>
 Do (W h 1 false E) λF=>
 Do (aL (some 2) 1 e (I 1)) λH=>
 Do (W h 1 false H) λK=>
Φ 35 [a0,F,K] h λak k=>
 Do (W k 2 true f) λN=>
 Do (aC a0) λP=>
 Do (aa 34 P) λR=>
 Do (au k 2 R N) λS=>
 Q (.ar []) S) (
 Do (aa 1 b) λl=>
 Do (W c 1 false l) λm=>
 Do (aL (some 2) 1 e O) λn=>
 Do (W c 1 false n) λo=>
 Do (aa 1 f) λT=>
 Do (W c 1 false T) λU=>
 Do (M .mul (I 8) U) λV=>
Φ 70 [V] c λX i=>
(W i 1 false l=some m) ∧
(W i 1 false n=some o) ∧
(Do (M .and o X) λY=>
Φ 35 [a0,m,Y] i λal p=>
 Do (aa 0 b) λZ=>
 Do (W p 1 false Z) λac=>
Φ 68 [ac] p λae j=>
 L ae true (
 Do (W j 2 true f) λaf=>
 Do (aC a0) λag=>
 Do (aa 34 ag) λah=>
 Do (au j 2 ah af) λai=>
 Q (.ar []) ai) (
 Q (.ar []) j)))))
def f33(Φ:ad)(a0 Y h d:J)(H:AH)(Q:ab):Prop:=
 aw (aM H false 7 Y) λa H2=>
 aw (aM H2 false 2 h) λe f=>
 Do (W f 7 true a) λi=>
Φ 66 [a0,i] f λj k=>
 aw (some (aQ k true [O,O])) λb l=>
 Do (au l 2 b j) λg=>
 Do (aa 0 a) λm=>
 Do (W g 1 false m) λn=>
Φ 67 [n] g λo c=>
 aN o true (
 Do (aa 0 a) λp=>
 Do (W c 1 false p) λq=>
Φ 68 [q] c λr s=>
 G (u7 Φ a0 d a e b Q) [r] s) (
 G (u7 Φ a0 d a e b Q) [P] c) (
 False)
noncomputable def F_:aF:=A C ⟨33,[8],[],none,[],[]⟩
def f34(Φ:ad)(a0 Y:J)(H:AH)(Q:ab):Prop:=
 Do (M .eql Y (I 31)) λa=>
 L a true (
 Q (u 0) H) (
 Do (aC a0) λb=>
 Do (aa 0 b) λc=>
 Do (aL (some 31) 1 c Y) λd=>
 Do (W H 1 false d) λe=>
 Q e H)
noncomputable def Ga:aF:=A C ⟨34,[],[],none,[],[]⟩
def f35(Φ:ad)(a0 Y a:J)(H:AH)(Q:ab):Prop:=
 Do (M .neq Y (I 31)) λb=>
 L b true (
 Do (aC a0) λc=>
 Do (aa 0 c) λd=>
 Do (aL (some 31) 1 d Y) λe=>
 Do (au H 1 e a) λf=>
 Q (.ar []) f) (
 Q (.ar []) H)
noncomputable def Gb:aF:=A C ⟨35,[],[],none,[],[]⟩
def Gc(Φ:ad)(b:ST)(c:LT)(Q:ab):a:=λd e=>
 Do (M .add (D b.1 1) (I 1)) λf=>
 c ([(D d 0),f],e)
def Av(Φ:ad)(h:J)(d:ST)(i:LT)(Q:ab):a:=λs e=>
 Do (aa 1 h) λj=>
 Do (W e 6 true j) λk=>
Φ 39 [k] e λb f=>
 Do (bo 0 b) λl=>
 Do (bo 1 b) λc=>
 Do (bo 2 b) λg=>
 Do (M .neq g O) λm=>
 L m true (
 Q g f) (
 Do (M .add (D d.1 0) c) λn=>
 Do (M .sub n (I 1)) λo=>
 Do (M .quo o c) λp=>
 Do (M .mul p c) λq=>
 Do (M .add q l) λr=>
 G (Gc Φ d i Q) [r] f)
def u9(Φ:ad)(a0 b:J)(c:ST)(f:LT)(Q:ab):a:=λg d=>
 L (D g 0) true (
 Q (I 6) d) (
 Do (c6 7 a0 none (some (D c.1 1)) none) λh=>
Φ 73 [h,(.fn 74 [b])] d λi e=>
 L i true (
 Q (I 7) e) (
 G (Av Φ b c f Q) [] e))
def Ge(Φ:ad)(Q:ab):a:=λc b=>
 Do (M .gtr (D c 0) (I 65536)) λd=>
 L d true (
 Q (I 9) b) (
 Q O b)
def pI(Φ:ad)(a0 f:J)(Q:ab):BT:=λa d=>
 Do (M .lss (D a.1 1) f) λg=>
 L g true (
 Do (aL none 7 a0 (D a.1 1)) λh=>
 Do (W a.2 7 true h) λi=>
 aw (some (aQ a.2 true [.str [],O,O,P,aA,O,aA])) λb j=>
 Do (au j 7 b i) λe=>
 Do (aa 0 b) λk=>
 Do (W e 1 false k) λl=>
Φ 71 [l] e λm c=>
 Do (cC .not m) λn=>
 aN n false (
 Do (aa 0 b) λo=>
 Do (W c 1 false o) λp=>
Φ 72 [p] c λq r=>
 G (u9 Φ a0 b a d Q) [q] r) (
 G (u9 Φ a0 b a d Q) [aV] c) (
 False)) (
 G (Ge Φ Q) [(D a.1 0)] a.2)
def f36(Φ:ad)(a0:J)(H:AH)(Q:ab):Prop:=
 Do (aY false a0) λa=>
 Do (M .gtr a (I 32)) λb=>
 L b true (
 Q (I 12) H) (
 Do (aY false a0) λc=>
 av (pI Φ a0 c Q) ([O,O],H))
noncomputable def Gf:aF:=A C ⟨36,[5],[[3,14]],none,[],[]⟩
def u_(Φ:ad)(b:ST)(c:LT)(Q:ab):a:=λf d=>
 Do (M .add (D b.1 0) (I 1)) λe=>
 c ([e],d)
def Gg(Φ:ad)(a0 c:J)(Q:ab):a:=λk b=>
 Do (aC a0) λd=>
 Do (aa 1 d) λe=>
 Do (W b 1 false e) λf=>
 Do (c6 1 f none (some c) none) λg=>
 Do (aC a0) λh=>
 Do (aa 1 h) λi=>
 Do (au b 1 i g) λj=>
 Q (.ar []) j
def q4(Φ:ad)(a0 Y f g h:J)(Q:ab):BT:=λa d=>
 Do (M .lss (D a.1 0) h) λi=>
 L i true (
 Do (aL none 10 Y (D a.1 0)) λj=>
 Do (W a.2 10 true j) λk=>
 aw (some (aQ a.2 true [O,O,.str [],.str [],O,.str [],aA,aA,aA,aA])) λb l=>
 Do (au l 10 b k) λm=>
Φ 38 [a0] m λn c=>
 Do (cC .not n) λo=>
 L o true (
 Do (aa 1 b) λp=>
 Do (W c 1 false p) λq=>
 Do (aC a0) λr=>
 Do (aa 3 r) λs=>
 Do (au c 1 s q) λe=>
 Do (W e 10 true b) λt=>
Φ 75 [a0,t,f] e λv u=>
 G (u_ Φ a d Q) [] u) (
 G (u_ Φ a d Q) [] c)) (
 G (Gg Φ a0 g Q) [] a.2)
def f37(Φ:ad)(a0 Y a:J)(H:AH)(Q:ab):Prop:=
 Do (aC a0) λb=>
 Do (aa 1 b) λc=>
 Do (W H 1 false c) λd=>
 Do (aY false d) λe=>
 Do (aY false Y) λf=>
 av (q4 Φ a0 Y a e f Q) ([O],H)
noncomputable def Gh:aF:=A C ⟨37,[8],[[16]],none,[],[]⟩
def f38(Φ:ad)(a0:J)(H:AH)(Q:ab):Prop:=
 Do (aC a0) λa=>
 Do (aa 4 a) λb=>
 Do (aa 1 b) λc=>
 Do (W H 1 false c) λd=>
 Do (M .neq d O) λe=>
 Q e H
noncomputable def Gi:aF:=A C ⟨38,[],[],none,[],[]⟩
def f39(Φ:ad)(a0:J)(H:AH)(Q:ab):Prop:=
 aw (aM H false 6 a0) λd H2=>
 Do (W H2 6 true d) λe=>
Φ 76 [e] H2 λc f=>
 Do (bo 0 c) λg=>
 Do (bo 1 c) λh=>
 aw (some (aQ f true [O,O])) λa i=>
 Do (au i 2 a g) λb=>
 Do (aa 0 a) λj=>
 Do (W b 1 false j) λk=>
 Do (aa 1 a) λl=>
 Do (W b 1 false l) λm=>
 Q (.ar [k,m,h]) b
noncomputable def Gj:aF:=A C ⟨39,[5],[],none,[],[]⟩
def va(Φ:ad)(a0 c d:J)(Q:ab):a:=λn b=>
 L (D n 0) true (
 Do (W b 10 true c) λo=>
Φ 82 [a0,o] b λan p=>
 Q (.ar []) p) (
 Do (M .eql d (I 5)) λq=>
 L q true (
 Do (W b 10 true c) λr=>
Φ 83 [a0,r] b λao s=>
 Q (.ar []) s) (
 Do (M .eql d (I 7)) λt=>
 L t true (
Φ 84 [(I 13)] b λv w=>
 aw (some (aQ w true [O,O,O,O,O,O,u 0,O,O,O,O,O,O])) λe x=>
 Do (au x 13 e v) λf=>
 Do (aa 4 c) λi=>
 Do (W f 1 false i) λj=>
 Do (aa 0 c) λy=>
 Do (W f 1 false y) λz=>
 Do (aa 4 c) λA=>
 Do (W f 1 false A) λB=>
 Do (aD [.str [],aA] []) λC=>
 Do (aa 9 e) λE=>
Φ 85 [a0,z,B,C] f λF k=>
(W k 1 false i=some j) ∧
(Do (au k 1 E j) λG=>
 Do (aa 11 e) λH=>
 Do (au G 1 H F) λl=>
 Do (W l 13 true e) λK=>
Φ 86 [a0,K] l λap N=>
 Q (.ar []) N)) (
 Do (M .eql d (I 8)) λP=>
 L P true (
 Do (W b 10 true c) λR=>
Φ 87 [a0,R] b λaq S=>
 Q (.ar []) S) (
 Do (M .eql d (I 9)) λT=>
 L T true (
 Do (W b 10 true c) λU=>
Φ 88 [a0,U] b λav V=>
 Q (.ar []) V) (
 Do (M .eql d (I 10)) λX=>
 L X true (
Φ 84 [(I 18)] b λY Z=>
 aw (some (aQ Z true [O,O,O,O,O,O,u 0,O,O,O,O,O,O])) λg ac=>
 Do (au ac 13 g Y) λh=>
 Do (aa 7 c) λae=>
 Do (W h 1 false ae) λaf=>
 Do (aL none 8 af O) λag=>
 Do (W h 8 true ag) λah=>
Φ 77 [a0,ah] h λai aj=>
 Do (aa 3 g) λak=>
 Do (au aj 1 ak ai) λm=>
 Do (W m 13 true g) λal=>
Φ 86 [a0,al] m λax am=>
 Q (.ar []) am) (
 Q (.ar []) b))))))
def f40(Φ:ad)(a0 Y:J)(H:AH)(Q:ab):Prop:=
 aw (aM H false 10 Y) λa H2=>
 Do (aa 0 a) λg=>
 Do (W H2 1 false g) λb=>
 Do (M .eql b (I 1)) λh=>
 L h true (
 Do (aa 7 a) λi=>
 Do (W H2 1 false i) λj=>
 Do (aL none 8 j O) λk=>
 Do (W H2 8 true k) λl=>
Φ 77 [a0,l] H2 λm n=>
Φ 78 [a0] n λd o=>
Φ 79 [a0,d,m] o λaj c=>
 Do (aC a0) λp=>
 Do (aa 7 p) λq=>
 Do (W c 1 false q) λr=>
 Do (aa 2 a) λs=>
 Do (W c 1 false s) λt=>
 Do (aD [.str [],O] [(0,1,t),(1,1,d)]) λu=>
 aw (cb c false 2 1 [.str [],O] [(0,2,u)]) λv w=>
 aw (bR w true 2 24 r v) λx y=>
 Do (aC a0) λz=>
 Do (aa 7 z) λA=>
 Do (au y 1 A x) λB=>
 Q (.ar []) B) (
 Do (M .eql b (I 2)) λC=>
 L C true (
 Do (aa 7 a) λD=>
 Do (W H2 1 false D) λE=>
 Do (aL none 8 E O) λF=>
 Do (W H2 8 true F) λK=>
Φ 77 [a0,K] H2 λN e=>
 Do (aa 2 a) λP=>
 Do (W e 1 false P) λR=>
Φ 80 [a0,R] e λS T=>
Φ 79 [a0,S,N] T λak U=>
 Q (.ar []) U) (
 Do (M .eql b (I 3)) λV=>
 L V true (
 Do (aa 5 a) λX=>
 Do (W H2 2 true X) λZ=>
 Do (aa 7 a) λac=>
 Do (W H2 1 false ac) λae=>
 Do (aL none 8 ae O) λaf=>
 Do (W H2 8 true af) λag=>
Φ 81 [a0,Z,ag] H2 λal ah=>
 Q (.ar []) ah) (
 Do (M .eql b (I 4)) λf=>
 L f true (
 G (va Φ a0 a b Q) [f] H2) (
 Do (M .eql b (I 6)) λai=>
 G (va Φ a0 a b Q) [ai] H2))))
noncomputable def Gk:aF:=A C ⟨40,[7,8,35],[],none,[],[]⟩
def vb(Φ:ad)(b:ST)(c:LT)(Q:ab):a:=λf d=>
 Do (M .mul (D b.1 0) (I 2)) λe=>
 c ([e],d)
def Aw(Φ:ad)(a0 Y g:J)(b:ST)(c:LT)(Q:ab):a:=λd e=>
 Do (M .add (D d 0) (D b.1 0)) λf=>
 Do (M .lss f Y) λh=>
 L h true (
Φ 90 [a0,(D d 0),f,Y,g] e λj i=>
 G (vb Φ b c Q) [] i) (
 G (vb Φ b c Q) [] e)
def vc(Φ:ad)(a0 Y c:J)(b:ST)(d:LT)(Q:ab):BT:=λa e=>
 Do (M .leq (D a.1 1) Y) λf=>
 L f true (
 Do (M .add (D a.1 0) (D b.1 0)) λg=>
Φ 90 [a0,(D a.1 0),g,(D a.1 1),c] a.2 λk h=>
 Do (M .mul (I 2) (D b.1 0)) λi=>
 Do (M .add (D a.1 1) i) λj=>
 e ([(D a.1 1),j],h)) (
 G (Aw Φ a0 Y c b d Q) [(D a.1 0)] a.2)
def nH(Φ:ad)(a0 Y b:J)(Q:ab):BT:=λa c=>
 Do (M .lss (D a.1 0) Y) λd=>
 L d true (
 Do (M .mul (I 2) (D a.1 0)) λe=>
 av (vc Φ a0 Y b a c Q) ([O,e],a.2)) (
 Q (.ar []) a.2)
def vd(Φ:ad)(a0 Y b:J)(Q:ab):a:=λc H2=>
Φ 89 [a0,(D c 0),Y,b] H2 λe d=>
 av (nH Φ a0 Y b Q) ([(I 20)],d)
def q5(Φ:ad)(a0 Y b:J)(Q:ab):BT:=λa c=>
 Do (M .leq (D a.1 1) Y) λd=>
 L d true (
Φ 89 [a0,(D a.1 0),(D a.1 1),b] a.2 λg e=>
 Do (M .add (D a.1 1) (I 20)) λf=>
 c ([(D a.1 1),f],e)) (
 G (vd Φ a0 Y b Q) [(D a.1 0)] a.2)
def f41(Φ:ad)(a0 Y a:J)(H:AH)(Q:ab):Prop:=
 av (q5 Φ a0 Y a Q) ([O,(I 20)],H)
noncomputable def Gl:aF:=A C ⟨41,[],[[7,8],[6],[7,8]],none,[],[]⟩
def f42(Φ:ad)(a0:J)(H:AH)(Q:ab):Prop:=
 Do (M .neq a0 a0) λa=>
 Q a H
noncomputable def Gm:aF:=A C ⟨42,[],[],none,[],[]⟩
def f43(Φ:ad)(a0:J)(H:AH)(Q:ab):Prop:=
∃t3 d a e,a0 = .iface t3 d∧fH Am t3=some a∧h3 H a.2 d=some e∧Φ a.1 (e::[]) H λl H2=>
 Do (M .sub l (I 1)) λf=>
∃t10 g b h,a0 = .iface t10 g∧fH uv t10=some b∧h3 H2 b.2 g=some h∧Φ b.1 (h::[O,f]) H2 λp m=>
Φ 91 [a0,O,f] m λq i=>
∃t18 j c k,a0 = .iface t18 j∧fH Fe t18=some c∧h3 i c.2 j=some k∧Φ c.1 (k::[]) i λn o=>
 Q n o
noncomputable def Gn:aF:=A C ⟨43,[],[],none,[9,136,138],[]⟩
def f45(Φ:ad)(a0 Y:J)(H:AH)(Q:ab):Prop:=
 Do (M .sub Y a0) λa=>
 Q a H
noncomputable def Gp:aF:=A C ⟨45,[],[],none,[],[]⟩
def f46(Φ:ad)(a0 Y:J)(H:AH)(Q:ab):Prop:=
∃t3 c a d,a0 = .iface t3 c∧fH Ff t3=some a∧h3 H a.2 c=some d∧Φ a.1 (d::[Y]) H λk H2=>
∃t9 e b f,a0 = .iface t9 e∧fH Am t9=some b∧h3 H2 b.2 e=some f∧Φ b.1 (f::[]) H2 λg h=>
 Do (M .sub g (I 1)) λi=>
Φ 94 [a0,i] h λl j=>
 Q (.ar []) j
noncomputable def Gq:aF:=A C ⟨46,[],[],none,[9,136,138],[]⟩
def Ax(Φ:ad)(a0 Y:J)(Q:ab):a:=λm H2=>
 Do (kB a0) λc=>
 Do (aY false a0) λd=>
 Do (M .sub c d) λe=>
 Do (M .sub Y e) λb=>
 Do (M .gtr b O) λf=>
 L f true (
 Do (kB a0) λg=>
 Do (c6 1 a0 none (some g) none) λh=>
 aw (c4 H2 (.grow 1 8 [O]) [h,b]) λi j=>
 Do (aY false a0) λk=>
 Do (c6 1 i none (some k) none) λl=>
 Q l j) (
 Q a0 H2)
def f47(Φ:ad)(a0 Y:J)(H:AH)(Q:ab):Prop:=
 Do (M .lss Y O) λa=>
 L a true (
 aw (c4 H .stuck []) λc b=>
 G (Ax Φ a0 Y Q) [] b) (
 G (Ax Φ a0 Y Q) [] H)
noncomputable def Gr:aF:=A C ⟨47,[],[],none,[],[]⟩
def f48(Φ:ad)(a0:J)(H:AH)(Q:ab):Prop:=
Φ 95 [a0,(.fn 96 [])] H λa H2=>
 Q a H2
noncomputable def Gs:aF:=A C ⟨48,[],[],none,[],[]⟩
def f49(Φ:ad)(a0 Y b:J)(H:AH)(Q:ab):Prop:=
Φ 97 [a0,Y] H λa H2=>
 Do (M .geq a O) λc=>
 L c true (
 Q a H2) (
 Q b H2)
noncomputable def Gt:aF:=A C ⟨49,[],[],none,[],[]⟩
def f50(Φ:ad)(a0 Y b:J)(H:AH)(Q:ab):Prop:=
Φ 97 [a0,Y] H λa H2=>
 Do (M .lss a O) λc=>
 L c true (
 Do (M .sub (I (-1)) a) λd=>
 Do (aD [O,O,O,O,O,O,O] [(0,1,(I 18)),(1,1,b),(2,1,(I 28)),(5,1,(I 3)),(6,1,d)]) λe=>
Φ 28 [a0,e] H2 λg f=>
 Q (.ar []) f) (
 Q (.ar []) H2)
noncomputable def Gu:aF:=A C ⟨50,[],[],none,[],[]⟩
def f51(Φ:ad)(a0 Y b:J)(H:AH)(Q:ab):Prop:=
Φ 49 [a0,Y,(I 11)] H λa H2=>
Φ 98 [a0,a,b] H2 λe c=>
Φ 50 [a0,Y,a] c λf d=>
 Q (.ar []) d
noncomputable def Gv:aF:=A C ⟨51,[],[],none,[],[]⟩
def f52(Φ:ad)(a0 Y b:J)(H:AH)(Q:ab):Prop:=
Φ 97 [a0,Y] H λa H2=>
 Do (M .geq a O) λc=>
 L c true (
 Q a H2) (
 Do (M .sub (I (-1)) a) λd=>
 Do (aD [O,O,O,O,O,O,O] [(0,1,(I 17)),(1,1,b),(2,1,(I 28)),(5,1,(I 3)),(6,1,d)]) λe=>
Φ 28 [a0,e] H2 λg f=>
 Q b f)
noncomputable def Gw:aF:=A C ⟨52,[],[],none,[],[]⟩
def ve(Φ:ad)(a0 c d:J)(Q:ab):a:=λh b=>
 Do (aa 1 c) λe=>
 Do (W b 1 false e) λf=>
Φ 50 [a0,f,d] b λi g=>
 Q (.ar []) g
def f53(Φ:ad)(a0 Y:J)(H:AH)(Q:ab):Prop:=
 aw (aM H false 13 Y) λa H2=>
 Do (aa 3 a) λo=>
 Do (W H2 1 false o) λp=>
 Do (aa 4 a) λf=>
 Do (W H2 1 false f) λg=>
 Do (aa 1 a) λc=>
 Do (W H2 1 false c) λd=>
Φ 52 [a0,p,(I 8)] H2 λh e=>
(W e 1 false f=some g) ∧
(W e 1 false c=some d) ∧
(Φ 52 [a0,g,(I 9)] e λi j=>
(W j 1 false c=some d) ∧
(Φ 49 [a0,d,(I 11)] j λb k=>
 Do (aa 7 a) λq=>
 Do (W k 1 false q) λr=>
Φ 99 [r] k λl m=>
 Do (M .neq l O) λs=>
 L s true (
 Do (aD [O,O,O,O,O,O,O] [(0,1,l),(1,1,b),(2,1,h),(3,1,i)]) λt=>
Φ 28 [a0,t] m λC u=>
 G (ve Φ a0 a b Q) [] u) (
 Do (aD [O,O,O,O,O,O,O] [(0,1,(I 5)),(1,1,(I 31)),(2,1,h),(3,1,i)]) λv=>
Φ 28 [a0,v] m λD n=>
 Do (aa 7 a) λw=>
 Do (W n 1 false w) λx=>
Φ 100 [x] n λy z=>
 Do (aD [O,O,O,O,O,O,O] [(0,1,(I 12)),(1,1,b),(4,1,y)]) λA=>
Φ 28 [a0,A] z λE B=>
 G (ve Φ a0 a b Q) [] B)))
noncomputable def Gx:aF:=A C ⟨53,[],[],none,[],[]⟩
def f54(Φ:ad)(a0 Y:J)(H:AH)(Q:ab):Prop:=
 aw (aM H false 13 Y) λa H2=>
 Do (W H2 13 true a) λo=>
 Do (aa 1 a) λi=>
 Do (W H2 1 false i) λj=>
Φ 101 [a0,o] H2 λp k=>
(W k 1 false i=some j) ∧
(Φ 49 [a0,j,(I 11)] k λl b=>
 Do (aa 11 a) λc=>
 Do (W b 1 false c) λd=>
 Do (aa 9 a) λq=>
 Do (W b 1 false q) λr=>
 Do (aa 8 a) λe=>
 Do (W b 1 false e) λf=>
Φ 103 [r] b λs g=>
(W g 1 false c=some d) ∧
(W g 1 false e=some f) ∧
(Φ 102 [s,(I 19),(I 17)] g λt h=>
(W h 1 false c=some d) ∧
(W h 1 false e=some f) ∧
(Φ 104 [f] h λu m=>
(W m 1 false c=some d) ∧
(Do (aD [O,O,O,O,O,O,O] [(0,1,t),(1,1,l),(2,1,p),(5,1,u)]) λv=>
Φ 59 [a0,d,v] m λz n=>
 Do (aa 1 a) λw=>
 Do (W n 1 false w) λx=>
Φ 50 [a0,x,l] n λA y=>
 Q (.ar []) y))))
noncomputable def Gy:aF:=A C ⟨54,[],[],none,[],[]⟩
def f55(Φ:ad)(a0 Y:J)(H:AH)(Q:ab):Prop:=
 aw (aM H false 13 Y) λa H2=>
 Do (W H2 13 true a) λm=>
 Do (aa 4 a) λi=>
 Do (W H2 1 false i) λj=>
Φ 101 [a0,m] H2 λn k=>
(W k 1 false i=some j) ∧
(Φ 52 [a0,j,(I 9)] k λo b=>
 Do (aa 11 a) λc=>
 Do (W b 1 false c) λd=>
 Do (aa 9 a) λp=>
 Do (W b 1 false p) λq=>
 Do (aa 8 a) λe=>
 Do (W b 1 false e) λf=>
Φ 105 [q] b λr g=>
(W g 1 false c=some d) ∧
(W g 1 false e=some f) ∧
(Φ 102 [r,(I 20),(I 18)] g λs h=>
(W h 1 false c=some d) ∧
(W h 1 false e=some f) ∧
(Φ 104 [f] h λt l=>
(W l 1 false c=some d) ∧
(Do (aD [O,O,O,O,O,O,O] [(0,1,s),(1,1,o),(2,1,n),(5,1,t)]) λu=>
Φ 59 [a0,d,u] l λw v=>
 Q (.ar []) v))))
noncomputable def Gz:aF:=A C ⟨55,[],[],none,[],[]⟩
def vf(Φ:ad)(a0 b e f g h:J)(Q:ab):a:=λi c=>
 Do (aa 11 b) λj=>
 Do (W c 1 false j) λk=>
 Do (aD [O,O,O,O,O,O,O] [(0,1,f),(3,1,(I 13)),(1,1,(D i 0)),(2,1,e),(5,1,h)]) λl=>
Φ 59 [a0,k,l] c λq m=>
Φ 106 [a0,g] m λr d=>
 Do (aa 1 b) λn=>
 Do (W d 1 false n) λo=>
Φ 51 [a0,o,(I 14)] d λs p=>
 Q (.ar []) p
def f56(Φ:ad)(a0 Y:J)(H:AH)(Q:ab):Prop:=
 aw (aM H false 13 Y) λa H2=>
 Do (aa 3 a) λt=>
 Do (W H2 1 false t) λu=>
 Do (aa 4 a) λj=>
 Do (W H2 1 false j) λk=>
Φ 52 [a0,u,(I 8)] H2 λb l=>
(W l 1 false j=some k) ∧
(Φ 52 [a0,k,(I 9)] l λm c=>
 Do (aa 9 a) λv=>
 Do (W c 1 false v) λw=>
 Do (aa 9 a) λd=>
 Do (W c 1 false d) λe=>
Φ 103 [w] c λx n=>
(W n 1 false d=some e) ∧
(Φ 102 [x,(I 22),(I 21)] n λy o=>
(W o 1 false d=some e) ∧
(Φ 105 [e] o λz A=>
Φ 102 [z,(I 24),(I 23)] A λp f=>
 Do (aC a0) λB=>
 Do (aa 1 B) λq=>
 Do (W f 1 false q) λr=>
 Do (aY false r) λs=>
 Do (aa 8 a) λC=>
 Do (W f 1 false C) λD=>
Φ 104 [D] f λg h=>
(W h 1 false q=some r) ∧
(Do (aa 11 a) λE=>
 Do (W h 1 false E) λF=>
 Do (aD [O,O,O,O,O,O,O] [(0,1,y),(1,1,(I 14)),(2,1,b),(5,1,g)]) λK=>
Φ 59 [a0,F,K] h λU i=>
 Do (aa 0 a) λN=>
 Do (W i 1 false N) λP=>
 Do (M .eql P (I 8)) λR=>
 L R true (
 Do (aD [O,O,O,O,O,O,O] [(0,1,(I 3)),(1,1,(I 12)),(2,1,(I 14)),(3,1,m)]) λS=>
Φ 28 [a0,S] i λV T=>
 G (vf Φ a0 a b p s g Q) [(I 12)] T) (
 G (vf Φ a0 a b p s g Q) [m] i)))))
noncomputable def GA:aF:=A C ⟨56,[],[],none,[],[]⟩
def vg(Φ:ad)(a0 b d h i j e:J)(Q:ab):a:=λk c=>
 Do (aC a0) λl=>
 Do (aa 1 l) λm=>
 Do (W c 1 false m) λn=>
 Do (aY false n) λo=>
 Do (aa 11 b) λp=>
 Do (W c 1 false p) λq=>
 Do (aD [O,O,O,O,O,O,O] [(0,1,i),(1,1,(I 14)),(2,1,d),(5,1,e)]) λr=>
Φ 59 [a0,q,r] c λK s=>
 Do (aD [O,O,O,O,O,O,O] [(0,1,(I 5)),(1,1,(I 31)),(2,1,(I 14)),(3,1,(D k 0))]) λt=>
Φ 28 [a0,t] s λL u=>
 Do (aD [O,O,O,O,O,O,O] [(0,1,(I 14)),(4,1,(I 1)),(6,1,(I 4))]) λv=>
Φ 28 [a0,v] u λM f=>
 Do (aa 11 b) λw=>
 Do (W f 1 false w) λx=>
 Do (aD [O,O,O,O,O,O,O] [(0,1,j),(3,1,(I 13)),(1,1,h),(2,1,d),(5,1,e)]) λy=>
Φ 59 [a0,x,y] f λN z=>
Φ 106 [a0,o] z λP A=>
 Do (aD [O,O,O,O,O,O,O] [(0,1,(I 13)),(6,1,(I 2))]) λB=>
Φ 28 [a0,B] A λR C=>
 Do (aD [O,O,O,O,O,O,O] [(0,1,(I 30))]) λE=>
Φ 28 [a0,E] C λS g=>
 Do (aa 1 b) λF=>
 Do (W g 1 false F) λG=>
Φ 51 [a0,G,(I 14)] g λT H=>
 Q (.ar []) H
def f57(Φ:ad)(a0 Y:J)(H:AH)(Q:ab):Prop:=
 aw (aM H false 13 Y) λa H2=>
 Do (aa 3 a) λv=>
 Do (W H2 1 false v) λw=>
 Do (aa 4 a) λi=>
 Do (W H2 1 false i) λj=>
 Do (aa 5 a) λc=>
 Do (W H2 1 false c) λd=>
Φ 52 [a0,w,(I 8)] H2 λk e=>
(W e 1 false i=some j) ∧
(W e 1 false c=some d) ∧
(Φ 52 [a0,j,(I 9)] e λl m=>
(W m 1 false c=some d) ∧
(Φ 52 [a0,d,(I 10)] m λn f=>
 Do (aa 9 a) λx=>
 Do (W f 1 false x) λy=>
 Do (aa 9 a) λg=>
 Do (W f 1 false g) λh=>
Φ 103 [y] f λz o=>
(W o 1 false g=some h) ∧
(Φ 102 [z,(I 22),(I 21)] o λp q=>
(W q 1 false g=some h) ∧
(Φ 105 [h] q λA B=>
Φ 102 [A,(I 24),(I 23)] B λr s=>
 Do (aa 8 a) λC=>
 Do (W s 1 false C) λD=>
Φ 104 [D] s λt b=>
 Do (aa 8 a) λE=>
 Do (W b 1 false E) λF=>
 Do (M .lss F (I 8)) λK=>
 L K true (
 Do (aa 8 a) λN=>
 Do (W b 1 false N) λP=>
 Do (M .mul (I 8) P) λR=>
 Do (M .shl (u 1) R) λS=>
 Do (M .sub S (u 1)) λT=>
Φ 26 [a0,(I 12),T] b λZ U=>
 Do (aD [O,O,O,O,O,O,O] [(0,1,(I 6)),(1,1,(I 12)),(2,1,l),(3,1,(I 12))]) λV=>
Φ 28 [a0,V] U λac X=>
 G (vg Φ a0 a k n p r t Q) [(I 12)] X) (
 G (vg Φ a0 a k n p r t Q) [l] b)))))
noncomputable def GB:aF:=A C ⟨57,[],[],none,[],[]⟩
def vi(Φ:ad)(a0 b e:J)(i:List J)(j:List J)(Q:ab):a:=λf d=>
 Do (aC a0) λk=>
 Do (aa 1 k) λl=>
 Do (W d 1 false l) λm=>
 Do (aY false m) λn=>
 Do (aa 11 b) λo=>
 Do (W d 1 false o) λp=>
 Do (aD [O,O,O,O,O,O,O] [(0,1,(D i 0)),(1,1,(I 14)),(4,1,(I 12)),(2,1,e)]) λq=>
Φ 59 [a0,p,q] d λE g=>
 Do (aa 11 b) λr=>
 Do (W g 1 false r) λs=>
 Do (aD [O,O,O,O,O,O,O] [(0,1,(D j 0)),(3,1,(I 13)),(1,1,(D f 0)),(4,1,(D f 1)),(2,1,e)]) λt=>
Φ 59 [a0,s,t] g λF u=>
Φ 106 [a0,n] u λG c=>
 Do (aa 0 b) λv=>
 Do (W c 1 false v) λw=>
 Do (M .eql w (I 11)) λx=>
 L x true (
 Do (aa 1 b) λy=>
 Do (W c 1 false y) λz=>
Φ 51 [a0,z,(I 14)] c λH h=>
 Do (aa 2 b) λA=>
 Do (W h 1 false A) λB=>
Φ 51 [a0,B,(I 12)] h λK C=>
 Q (.ar []) C) (
 Q (.ar []) c)
def q6(Φ:ad)(a0 b d:J)(e:List J)(Q:ab):a:=λf c=>
 Do (aa 0 b) λj=>
 Do (W c 1 false j) λk=>
 Do (M .eql k (I 12)) λl=>
 L l true (
 Do (aa 4 b) λm=>
 Do (W c 1 false m) λn=>
 Do (aa 5 b) λg=>
 Do (W c 1 false g) λh=>
Φ 52 [a0,n,(I 9)] c λo i=>
(W i 1 false g=some h) ∧
(Φ 52 [a0,h,(I 10)] i λp q=>
 G (vi Φ a0 b d e f Q) [o,p] q)) (
 G (vi Φ a0 b d e f Q) [(I 14),(I 12)] c)
def vj(Φ:ad)(a0 b d:J)(Q:ab):a:=λe c=>
 Do (aa 9 b) λf=>
 Do (W c 1 false f) λg=>
 Do (M .eql g (I 4)) λh=>
 aN h false (
 Do (aa 0 b) λi=>
 Do (W c 1 false i) λj=>
 Do (M .eql j (I 12)) λk=>
 aN k true (
 Do (aa 9 b) λl=>
 Do (W c 1 false l) λm=>
Φ 105 [m] c λn o=>
Φ 102 [n,(I 28),(I 27)] o λp q=>
 G (q6 Φ a0 b d e Q) [p] q) (
Φ 102 [P,(I 28),(I 27)] c λr s=>
 G (q6 Φ a0 b d e Q) [r] s) (
 False)) (
Φ 102 [aV,(I 28),(I 27)] c λt u=>
 G (q6 Φ a0 b d e Q) [t] u) (
 False)
def f58(Φ:ad)(a0 Y:J)(H:AH)(Q:ab):Prop:=
 aw (aM H false 13 Y) λa H2=>
 Do (aa 3 a) λd=>
 Do (W H2 1 false d) λe=>
Φ 52 [a0,e,(I 8)] H2 λc b=>
 Do (aa 0 a) λf=>
 Do (W b 1 false f) λg=>
 Do (M .eql g (I 11)) λh=>
 aN h true (
 Do (aa 9 a) λi=>
 Do (W b 1 false i) λj=>
Φ 103 [j] b λk l=>
Φ 102 [k,(I 26),(I 25)] l λm n=>
 G (vj Φ a0 a c Q) [m] n) (
Φ 102 [P,(I 26),(I 25)] b λo p=>
 G (vj Φ a0 a c Q) [o] p) (
 False)
noncomputable def GC:aF:=A C ⟨58,[],[],none,[],[]⟩
def f59(Φ:ad)(a0 Y c:J)(H:AH)(Q:ab):Prop:=
 aw (aM H false 7 c) λd H2=>
 Do (aC a0) λe=>
 Do (aa 1 e) λf=>
 Do (W H2 1 false f) λg=>
 Do (W H2 7 true d) λh=>
 aw (cb H2 false 7 1 [O,O,O,O,O,O,O] [(0,7,h)]) λi j=>
 aw (bR j true 7 56 g i) λk l=>
 Do (aC a0) λm=>
 Do (aa 1 m) λn=>
 Do (au l 1 n k) λb=>
 Do (aC a0) λo=>
 Do (aa 2 o) λp=>
 Do (W b 1 false p) λq=>
 aw (cb b false 1 1 [O] [(0,1,Y)]) λr s=>
 aw (bR s true 1 8 q r) λt u=>
 Do (aC a0) λv=>
 Do (aa 2 v) λw=>
 Do (au u 1 w t) λa=>
 Do (aC a0) λx=>
 Do (aa 3 x) λy=>
 Do (W a 1 false y) λz=>
 Do (aC a0) λA=>
 Do (aa 4 A) λB=>
 Do (W a 1 false B) λC=>
 aw (cb a false 1 1 [O] [(0,1,C)]) λD E=>
 aw (bR E true 1 8 z D) λF G=>
 Do (aC a0) λI=>
 Do (aa 3 I) λK=>
 Do (au G 1 K F) λL=>
 Q (.ar []) L
noncomputable def GD:aF:=A C ⟨59,[13,23,36],[],none,[],[]⟩
def vk(Φ:ad)(a0 d e:J)(Q:ab):a:=λx b=>
 Do (aC a0) λf=>
 Do (aa 6 f) λg=>
 Do (W b 1 false g) λh=>
 Do (aC a0) λi=>
 Do (aa 1 i) λj=>
 Do (W b 1 false j) λk=>
 Do (aY false k) λl=>
 Do (aa 10 d) λm=>
 Do (W b 1 false m) λn=>
 Do (aD [O,O] [(0,1,l),(1,1,n)]) λo=>
 aw (cb b false 2 1 [O,O] [(0,2,o)]) λp q=>
 aw (bR q false 2 16 h p) λr s=>
 Do (aC a0) λt=>
 Do (aa 6 t) λu=>
 Do (au s 1 u r) λc=>
 Do (W c 7 true e) λv=>
Φ 28 [a0,v] c λy w=>
 Q (.ar []) w
def f60(Φ:ad)(a0 Y:J)(H:AH)(Q:ab):Prop:=
 aw (aM H false 13 Y) λa H2=>
 Do (aD [O,O,O,O,O,O,O] [(0,1,(I 13))]) λd=>
 aw (some (aQ H2 true [O,O,O,O,O,O,O])) λb e=>
 Do (au e 7 b d) λc=>
 Do (aa 0 a) λf=>
 Do (W c 1 false f) λg=>
 Do (M .eql g (I 16)) λh=>
 L h true (
 Do (aa 3 a) λi=>
 Do (W c 1 false i) λj=>
Φ 52 [a0,j,(I 8)] c λk l=>
 Do (aD [O,O,O,O,O,O,O] [(0,1,(I 15)),(1,1,k)]) λm=>
 Do (au l 7 b m) λn=>
 G (vk Φ a0 a b Q) [] n) (
 G (vk Φ a0 a b Q) [] c)
noncomputable def GF:aF:=A C ⟨60,[4],[],none,[],[]⟩
def f61(Φ:ad)(a0 Y:J)(H:AH)(Q:ab):Prop:=
 aw (aM H false 13 Y) λa H2=>
 Do (aa 3 a) λc=>
 Do (W H2 1 false c) λd=>
Φ 52 [a0,d,(I 8)] H2 λe b=>
 Do (aa 6 a) λf=>
 Do (W b 1 false f) λg=>
Φ 26 [a0,(I 14),g] b λo h=>
 Do (aD [O,O,O,O,O,O,O] [(0,1,(I 5)),(1,1,(I 31)),(2,1,e),(3,1,(I 14))]) λi=>
Φ 28 [a0,i] h λp j=>
 Do (aD [O,O,O,O,O,O,O] [(0,1,(I 14)),(4,1,(I 3)),(6,1,(I 2))]) λk=>
Φ 28 [a0,k] j λq l=>
 Do (aD [O,O,O,O,O,O,O] [(0,1,(I 32)),(6,1,(I 1))]) λm=>
Φ 28 [a0,m] l λr n=>
 Q (.ar []) n
noncomputable def GG:aF:=A C ⟨61,[],[],none,[],[]⟩
def vm(Φ:ad)(b:ST)(c:LT)(Q:ab):a:=λd e=>
 Do (M .add (D b.1 1) (I 1)) λf=>
 c ([(D d 0),f],e)
def GH(Φ:ad)(c d:J)(Q:ab):a:=λe b=>
 Do (W b 7 true d) λf=>
 Do (aa 0 c) λg=>
 Do (W b 1 false g) λh=>
 Do (aD [O,O,O,O,O,O,O] [(0,1,h)]) λi=>
 Do (jk true [.n,.n,.n,.n,.n,.n,.n] f i) λj=>
 L j true (
 Q (.ar [(.int .u32 0),(I 2)]) b) (
 Q (.ar [(D e 0),O]) b)
def vn(Φ:ad)(m h n o:J)(Q:ab):BT:=λa i=>
 Do (M .lss (D a.1 1) o) λp=>
 L p true (
 Do (aL none 1 n (D a.1 1)) λq=>
 Do (W a.2 1 false q) λd=>
 Do (M .eql d (.int .u8 122)) λr=>
 L r true (
 G (vm Φ a i Q) [(D a.1 0)] a.2) (
Φ 108 [d] a.2 λs t=>
 aw (some (aQ t true [O,O,P,.int .u32 0,O])) λb u=>
 Do (au u 5 b s) λv=>
Φ 109 [h,d] v λe f=>
 Do (W f 5 true b) λw=>
 Do (aC e) λx=>
 Do (W f 1 false x) λy=>
Φ 110 [w,y] f λz c=>
 Do (cC .not z) λA=>
 L A true (
 Q (.ar [(.int .u32 0),(I 2)]) c) (
 Do (W c 5 true b) λB=>
 Do (W c 5 true b) λj=>
 Do (aC e) λk=>
 Do (W c 1 false k) λl=>
Φ 111 [B] c λC g=>
(W g 5 true b=some j) ∧
(W g 1 false k=some l) ∧
(Do (M .andNot (D a.1 0) C) λE=>
Φ 112 [j,d,l] g λF H=>
 Do (M .or E F) λK=>
 Do (aC e) λN=>
 Do (au H 1 N O) λR=>
 G (vm Φ a i Q) [K] R)))) (
 G (GH Φ m h Q) [(D a.1 0)] a.2)
def f62(Φ:ad)(a0:J)(H:AH)(Q:ab):Prop:=
 aw (aM H false 7 a0) λc H2=>
 Do (aa 0 c) λg=>
 Do (W H2 1 false g) λh=>
Φ 107 [h] H2 λi j=>
 aw (some (aQ j true [.int .u32 0,.str []])) λb k=>
 Do (au k 2 b i) λa=>
 Do (aa 1 b) λl=>
 Do (W a 1 false l) λm=>
 Do (M .eql m (.str [])) λn=>
 L n true (
 Q (.ar [(.int .u32 0),(I 2)]) a) (
 Do (aa 0 b) λo=>
 Do (W a 1 false o) λp=>
 Do (W a 7 true c) λq=>
 aw (some (aQ a true [O,O,O,O,O,O,O])) λd r=>
 Do (au r 7 d q) λe=>
 Do (aa 1 b) λs=>
 Do (W e 1 false s) λt=>
 Do (mf t) λf=>
 Do (aY false f) λu=>
 av (vn Φ c d f u Q) ([p,O],e))
noncomputable def GI:aF:=A C ⟨62,[4,6,9],[[5,24]],none,[],[]⟩
def f63(Φ:ad)(a0 Y:J)(H:AH)(Q:ab):Prop:=
 Do (M .eql Y O) λa=>
 L a true (
 Do (aC a0) λb=>
 Do (aa 32 b) λc=>
 Do (W H 1 false c) λd=>
 Q d H) (
 Do (M .eql Y (I 1)) λe=>
 L e true (
 Do (aC a0) λf=>
 Do (aa 32 f) λg=>
 Do (W H 1 false g) λh=>
 Do (cC .not h) λi=>
 Q i H) (
 Do (M .eql Y (I 2)) λj=>
 L j true (
 Do (aC a0) λk=>
 Do (aa 33 k) λl=>
 Do (W H 1 false l) λm=>
 Q m H) (
 Do (aC a0) λn=>
 Do (aa 33 n) λo=>
 Do (W H 1 false o) λp=>
 Do (cC .not p) λq=>
 Q q H)))
noncomputable def GJ:aF:=A C ⟨63,[],[],none,[],[]⟩
def f64(Φ:ad)(a0 Y a b:J)(H:AH)(Q:ab):Prop:=
Φ 113 [Y] H λc H2=>
 Do (cC .not c) λd=>
 L d true (
 Q a0 H2) (
Φ 70 [a] H2 λe f=>
 Do (M .shl e Y) λg=>
 Do (M .andNot a0 g) λh=>
Φ 70 [a] f λi j=>
 Do (M .and b i) λk=>
 Do (M .shl k Y) λl=>
 Do (M .or h l) λm=>
 Q m j)
noncomputable def GK:aF:=A C ⟨64,[],[],none,[],[]⟩
def f65(Φ:ad)(a0 Y a:J)(H:AH)(Q:ab):Prop:=
 Do (M .geq a0 Y) λb=>
 aN b true (
 Do (M .leq a0 a) λc=>
 Q c H) (
 Q P H) (
 False)
noncomputable def GL:aF:=A C ⟨65,[],[],none,[],[]⟩
def vo(Φ:ad)(b:J)(c:List J)(Q:ab):a:=λd e=>
 Do (M .geq (D d 0) (u 1099511627776)) λh=>
 L h true (
 Do (aD [O,O] [(0,1,(I (-1))),(1,1,(D c 0))]) λi=>
 Do (au e 2 b i) λf=>
 Do (W f 2 true b) λj=>
 Q j f) (
 Do (db .i64 (D d 0)) λk=>
 Do (aD [O,O] [(0,1,k),(1,1,(D c 0))]) λl=>
 Do (au e 2 b l) λg=>
 Do (W g 2 true b) λm=>
 Q m g)
def vp(Φ:ad)(c d e:J)(f:List J)(Q:ab):a:=λg b=>
 L (D g 0) true (
 Do (aa 6 c) λh=>
 Do (W b 1 false h) λi=>
 Do (db .u64 i) λj=>
 Do (aa 5 c) λk=>
 Do (W b 1 false k) λl=>
 Do (M .shl j l) λm=>
 Do (M .add e m) λn=>
 G (vo Φ d f Q) [n] b) (
 G (vo Φ d f Q) [e] b)
def vq(Φ:ad)(a0 b d:J)(Q:ab):a:=λe f=>
 Do (aa 2 b) λh=>
 Do (W f 1 false h) λi=>
Φ 34 [a0,i] f λg c=>
 Do (aa 0 b) λj=>
 Do (W c 1 false j) λk=>
 Do (M .eql k (I 17)) λl=>
 aN l false (
 Do (aa 0 b) λm=>
 Do (W c 1 false m) λn=>
 Do (M .eql n (I 18)) λo=>
 G (vp Φ b d g e Q) [o] c) (
 G (vp Φ b d g e Q) [aV] c) (
 False)
def f66(Φ:ad)(a0 Y:J)(H:AH)(Q:ab):Prop:=
 aw (aM H false 7 Y) λa H2=>
 aw (some (aQ H2 true [O,O])) λc b=>
 Do (aa 5 a) λe=>
 Do (W b 1 false e) λf=>
 Do (M .shl (I 1) f) λg=>
 Do (aa 0 a) λh=>
 Do (W b 1 false h) λi=>
Φ 69 [i] b λj d=>
 L j true (
 G (vq Φ a0 a c Q) [(I 16)] d) (
 G (vq Φ a0 a c Q) [g] d)
noncomputable def GM:aF:=A C ⟨66,[4],[],none,[],[]⟩
def Ay(Φ:ad)(a0:J)(Q:ab):a:=λc b=>
 aN (D c 0) false (
 Do (M .eql a0 (I 28)) λd=>
 Q d b) (
 Q aV b) (
 False)
def Az(Φ:ad)(a0:J)(Q:ab):a:=λc b=>
 aN (D c 0) false (
 Do (M .eql a0 (I 27)) λd=>
 G (Ay Φ a0 Q) [d] b) (
 G (Ay Φ a0 Q) [aV] b) (
 False)
def AA(Φ:ad)(a0:J)(Q:ab):a:=λc b=>
 aN (D c 0) false (
 Do (M .eql a0 (I 24)) λd=>
 G (Az Φ a0 Q) [d] b) (
 G (Az Φ a0 Q) [aV] b) (
 False)
def AB(Φ:ad)(a0:J)(Q:ab):a:=λb H2=>
 aN (D b 0) false (
 Do (M .eql a0 (I 23)) λc=>
 G (AA Φ a0 Q) [c] H2) (
 G (AA Φ a0 Q) [aV] H2) (
 False)
def f67(Φ:ad)(a0:J)(H:AH)(Q:ab):Prop:=
 Do (M .eql a0 (I 18)) λa=>
 aN a false (
 Do (M .eql a0 (I 20)) λb=>
 G (AB Φ a0 Q) [b] H) (
 G (AB Φ a0 Q) [aV] H) (
 False)
noncomputable def GN:aF:=A C ⟨67,[],[],none,[],[]⟩
def f68(Φ:ad)(a0:J)(H:AH)(Q:ab):Prop:=
Φ 65 [a0,(I 21),(I 28)] H λa H2=>
 Q a H2
noncomputable def GO:aF:=A C ⟨68,[],[],none,[],[]⟩
def f69(Φ:ad)(a0:J)(H:AH)(Q:ab):Prop:=
Φ 65 [a0,(I 25),(I 28)] H λa H2=>
 Q a H2
noncomputable def GP:aF:=A C ⟨69,[],[],none,[],[]⟩
def f70(Φ:ad)(a0:J)(H:AH)(Q:ab):Prop:=
 Do (M .lss a0 (I 1)) λa=>
 L a true (
 Q (u 0) H) (
 Do (M .geq a0 (I 64)) λb=>
 L b true (
 Q (u 18446744073709551615) H) (
 Do (M .shl (u 1) a0) λc=>
 Do (M .sub c (u 1)) λd=>
 Q d H))
noncomputable def GQ:aF:=A C ⟨70,[],[],none,[],[]⟩
def pJ(Φ:ad)(c:LT)(Q:ab):a:=λd b=>
 L (D d 0) true (
 Q P b) (
 c ([],b))
def q7(Φ:ad)(d:J)(b:LT)(Q:ab):a:=λe c=>
 aN (D e 0) true (
 Do (M .lss d (.int .i32 48)) λf=>
 aN f false (
 Do (M .gtr d (.int .i32 57)) λg=>
 G (pJ Φ b Q) [g] c) (
 G (pJ Φ b Q) [aV] c) (
 False)) (
 G (pJ Φ b Q) [P] c) (
 False)
def vr(Φ:ad)(f:J)(Q:ab):BT:=λg b=>
 aw (ky g.2 f) λc d=>
 Do (bo 0 c) λh=>
 L h true (
 Do (bo 2 c) λa=>
Φ 114 [a] d λi e=>
 Do (cC .not i) λj=>
 aN j true (
 Do (M .neq a (.int .i32 95)) λk=>
 G (q7 Φ a b Q) [k] e) (
 G (q7 Φ a b Q) [P] e) (
 False)) (
 Q aV d)
def GU(Φ:ad)(a0:J)(Q:ab):a:=λd H2=>
 aw (mW H2 a0) λb c=>
 av (vr Φ b Q) ([],c)
def q8(Φ:ad)(a0:J)(Q:ab):a:=λc b=>
 L (D c 0) true (
 Q P b) (
 G (GU Φ a0 Q) [] b)
def vt(Φ:ad)(a0:J)(Q:ab):a:=λc b=>
 aN (D c 0) false (
 Do (jl a0 O) λd=>
 Do (db .i32 d) λe=>
Φ 114 [e] b λf g=>
 Do (cC .not f) λh=>
 G (q8 Φ a0 Q) [h] g) (
 G (q8 Φ a0 Q) [aV] b) (
 False)
def f71(Φ:ad)(a0:J)(H:AH)(Q:ab):Prop:=
 Do (aY true a0) λa=>
 Do (M .lss a (I 1)) λb=>
 aN b false (
 Do (aY true a0) λc=>
 Do (M .gtr c (I 16)) λd=>
 G (vt Φ a0 Q) [d] H) (
 G (vt Φ a0 Q) [aV] H) (
 False)
noncomputable def GV:aF:=A C ⟨71,[],[[]],none,[],[]⟩
def f72(Φ:ad)(a0:J)(H:AH)(Q:ab):Prop:=
Φ 116 [(.str [118,97,114,32,116,104,114,101,97,100,32,115,116,114,117,99,116,32,117,110,105,111,110,32,112,97,99,107,101,100,32,117,56,32,117,49,54,32,117,51,50,32,117,54,52,32,97,56,32,97,49,54,32,97,51,50,32,97,54,52,32,97,49,50,56,32,108,101,116,32,115,101,116,32,119,114,105,116,101,32,115,116,111,114,101,32,108,111,97,100,50,32,115,116,111,114,101,50,32,102,101,110,99,101,32,105,102,32,101,108,115,101,32,119,104,105,108,101,32,112,114,105,110,116,32,114,101,97,100,32,108,111,97,100,32,97,100,100,32,115,119,97,112,32,99,97,115,32,114,108,120,32,97,99,113,32,114,101,108,32,115,99])] H λa H2=>
Φ 115 [a,a0] H2 λb c=>
 Q b c
noncomputable def GW:aF:=A C ⟨72,[],[],none,[],[]⟩
def f73(Φ:ad)(a0 Y:J)(H:AH)(Q:ab):Prop:=
Φ 117 [a0,Y] H λa H2=>
 Do (M .geq a O) λb=>
 Q b H2
noncomputable def GX:aF:=A C ⟨73,[],[],none,[],[]⟩
def f74(Φ:ad)(a0 Y:J)(H:AH)(Q:ab):Prop:=
 aw (aM H false 7 a0) λa H2=>
 Do (aa 0 a) λb=>
 Do (W H2 1 false b) λc=>
 Do (aa 0 Y) λd=>
 Do (W H2 1 false d) λe=>
 Do (M .eql c e) λf=>
 Q f H2
noncomputable def GY:aF:=A C ⟨74,[],[],none,[],[]⟩
def q9(Φ:ad)(a0 c b:J)(Q:ab):a:=λr d=>
 Do (aa 8 b) λg=>
 Do (W d 1 false g) λh=>
 Do (M .add c (I 1)) λi=>
Φ 37 [a0,h,i] d λs e=>
 Do (aa 1 b) λj=>
 Do (W e 1 false j) λk=>
 Do (aC a0) λl=>
 Do (aa 3 l) λm=>
 Do (au e 1 m k) λf=>
 Do (aa 9 b) λn=>
 Do (W f 1 false n) λo=>
 Do (M .add c (I 1)) λp=>
Φ 37 [a0,o,p] f λt q=>
 Q (.ar []) q
def pK(Φ:ad)(a0 d b:J)(Q:ab):a:=λae f=>
 Do (aa 7 b) λj=>
 Do (W f 1 false j) λk=>
Φ 123 [a0,k,d] f λaf c=>
 Do (aa 0 b) λl=>
 Do (W c 1 false l) λg=>
 Do (M .eql g (I 1)) λm=>
 L m true (
 Do (aC a0) λn=>
 Do (aa 1 n) λo=>
 Do (W c 1 false o) λp=>
 Do (aa 2 b) λq=>
 Do (W c 1 false q) λr=>
 aw (cb c false 1 1 [.str []] [(0,1,r)]) λs t=>
 aw (bR t true 1 16 p s) λu v=>
 Do (aC a0) λw=>
 Do (aa 1 w) λx=>
 Do (au v 1 x u) λh=>
 Do (aC a0) λy=>
 Do (aa 2 y) λz=>
 Do (W h 1 false z) λA=>
 Do (M .add A (I 1)) λB=>
 Do (aC a0) λC=>
 Do (aa 2 C) λD=>
 Do (au h 1 D B) λE=>
 G (q9 Φ a0 d b Q) [] E) (
 Do (M .eql g (I 5)) λF=>
 L F true (
 Do (aa 2 b) λH=>
 Do (W c 1 false H) λK=>
Φ 121 [a0,K] c λN O=>
Φ 118 [a0,N,(I 6)] O λag i=>
 Do (aa 3 b) λP=>
 Do (W i 1 false P) λR=>
Φ 121 [a0,R] i λS T=>
Φ 118 [a0,S,(I 6)] T λah e=>
 Do (aa 2 b) λU=>
 Do (W e 1 false U) λV=>
 Do (aa 3 b) λX=>
 Do (W e 1 false X) λY=>
 Do (M .neq V Y) λZ=>
Φ 118 [a0,Z,(I 7)] e λai ac=>
 G (q9 Φ a0 d b Q) [] ac) (
 G (q9 Φ a0 d b Q) [] c))
def vu(Φ:ad)(a0 e b:J)(Q:ab):a:=λp c=>
 Do (aa 2 b) λf=>
 Do (W c 1 false f) λg=>
Φ 121 [a0,g] c λh i=>
 Do (cC .not h) λj=>
Φ 118 [a0,j,(I 7)] i λq d=>
 Do (aC a0) λk=>
 Do (aa 2 k) λl=>
 Do (W d 1 false l) λm=>
 Do (M .lss m (I 40)) λn=>
Φ 118 [a0,n,(I 12)] d λr o=>
 G (pK Φ a0 e b Q) [] o
def pL(Φ:ad)(a0 d b:J)(Q:ab):a:=λe c=>
 L (D e 0) true (
 Do (aa 0 b) λf=>
 Do (W c 1 false f) λg=>
 Do (aa 5 b) λh=>
 Do (W c 2 true h) λi=>
Φ 122 [a0,g,i,d] c λk j=>
 G (pK Φ a0 d b Q) [] j) (
 G (pK Φ a0 d b Q) [] c)
def f75(Φ:ad)(a0 Y c:J)(H:AH)(Q:ab):Prop:=
 aw (aM H false 10 Y) λa H2=>
 Do (M .leq c (I 64)) λk=>
Φ 118 [a0,k,(I 5)] H2 λV g=>
 Do (W g 10 true a) λl=>
Φ 119 [l] g λm n=>
Φ 118 [a0,m,(I 4)] n λX e=>
 Do (aa 0 a) λo=>
 Do (W e 1 false o) λp=>
 Do (aa 4 a) λq=>
 Do (W e 1 false q) λr=>
Φ 120 [p,r] e λs t=>
Φ 118 [a0,s,(I 11)] t λZ b=>
 Do (aa 0 a) λu=>
 Do (W b 1 false u) λd=>
 Do (M .eql d (I 1)) λv=>
 L v true (
 Do (aa 2 a) λw=>
 Do (W b 1 false w) λx=>
Φ 71 [x] b λy f=>
 aN y true (
 Do (aa 2 a) λz=>
 Do (W f 1 false z) λA=>
Φ 72 [A] f λB C=>
 Do (cC .not B) λD=>
Φ 118 [a0,D,(I 6)] C λac E=>
 G (vu Φ a0 c a Q) [] E) (
Φ 118 [a0,P,(I 6)] f λae F=>
 G (vu Φ a0 c a Q) [] F) (
 False)) (
 Do (M .eql d (I 2)) λK=>
 L K true (
 Do (aa 2 a) λN=>
 Do (W b 1 false N) λO=>
Φ 121 [a0,O] b λR S=>
Φ 118 [a0,R,(I 6)] S λaf T=>
 G (pK Φ a0 c a Q) [] T) (
 Do (M .eql d (I 3)) λh=>
 L h true (
 G (pL Φ a0 c a Q) [h] b) (
 Do (M .eql d (I 4)) λi=>
 L i true (
 G (pL Φ a0 c a Q) [i] b) (
 Do (M .eql d (I 5)) λj=>
 L j true (
 G (pL Φ a0 c a Q) [j] b) (
 Do (M .eql d (I 6)) λU=>
 G (pL Φ a0 c a Q) [U] b)))))
noncomputable def GZ:aF:=A C ⟨75,[87],[],none,[],[]⟩
def f76(Φ:ad)(a0:J)(H:AH)(Q:ab):Prop:=
 aw (aM H false 6 a0) λb H2=>
 aw (some (aQ H2 true [O,O])) λa f=>
 Do (W f 6 true b) λn=>
Φ 124 [n] f λg c=>
 Do (M .neq g O) λo=>
 L o true (
 Do (aD [O,O] []) λp=>
 Do (au c 2 a p) λh=>
 Do (W h 2 true a) λq=>
 Q (.ar [q,g]) h) (
 Do (W c 6 true b) λr=>
Φ 125 [r] c λs d=>
 L s true (
 Do (aD [O,O] []) λt=>
 Do (au d 2 a t) λi=>
 Do (W i 2 true a) λu=>
 Q (.ar [u,(I 10)]) i) (
 Do (W d 6 true b) λv=>
Φ 126 [v] d λj w=>
 Do (bo 0 j) λx=>
 Do (bo 1 j) λy=>
 aw (some (aQ w true [O,O])) λk z=>
 Do (au z 2 k x) λe=>
 Do (cC .not y) λA=>
 L A true (
 Do (aD [O,O] []) λB=>
 Do (au e 2 a B) λl=>
 Do (W l 2 true a) λC=>
 Q (.ar [C,(I 9)]) l) (
 Do (W e 2 true k) λD=>
 Do (au e 2 a D) λm=>
 Do (W m 2 true a) λE=>
 Q (.ar [E,O]) m)))
noncomputable def G1:aF:=A C ⟨76,[2,5],[],none,[],[]⟩
def f77(Φ:ad)(a0 Y:J)(H:AH)(Q:ab):Prop:=
 aw (aM H false 8 Y) λa H2=>
 Do (aa 0 a) λg=>
 Do (W H2 1 false g) λb=>
 Do (M .eql b (I 1)) λh=>
 L h true (
 Do (aa 1 a) λi=>
 Do (W H2 1 false i) λj=>
Φ 127 [a0,j] H2 λk l=>
 Q k l) (
 Do (M .eql b (I 2)) λm=>
 L m true (
 Do (aa 2 a) λn=>
 Do (W H2 1 false n) λo=>
Φ 80 [a0,o] H2 λp q=>
 Q p q) (
 Do (M .eql b (I 3)) λr=>
 L r true (
 Do (aa 7 a) λs=>
 Do (W H2 1 false s) λt=>
 Do (aL none 8 t O) λu=>
 Do (W H2 8 true u) λv=>
Φ 77 [a0,v] H2 λw c=>
 Do (aa 3 a) λd=>
 Do (W c 1 false d) λe=>
 Do (aa 7 a) λx=>
 Do (W c 1 false x) λy=>
 Do (aL none 8 y (I 1)) λz=>
 Do (W c 8 true z) λA=>
Φ 77 [a0,A] c λB f=>
(W f 1 false d=some e) ∧
(Φ 128 [a0,e,w,B] f λC D=>
 Q C D)) (
 Do (M .eql b (I 4)) λE=>
 L E true (
 Do (aa 5 a) λF=>
 Do (W H2 2 true F) λG=>
Φ 129 [a0,G] H2 λK N=>
 Q K N) (
 Do (W H2 8 true a) λP=>
Φ 130 [a0,P] H2 λR S=>
 Q R S))))
noncomputable def G2:aF:=A C ⟨77,[],[],none,[],[]⟩
def f78(Φ:ad)(a0:J)(H:AH)(Q:ab):Prop:=
 Do (aC a0) λb=>
 Do (aa 3 b) λc=>
 Do (W H 1 false c) λd=>
 Do (M .add d (I 1)) λe=>
 Do (aC a0) λf=>
 Do (aa 3 f) λg=>
 Do (au H 1 g e) λa=>
 Do (aC a0) λh=>
 Do (aa 3 h) λi=>
 Do (W a 1 false i) λj=>
 Do (M .sub j (I 1)) λk=>
 Q k a
noncomputable def G3:aF:=A C ⟨78,[],[],none,[],[]⟩
def f79(Φ:ad)(a0 Y c:J)(H:AH)(Q:ab):Prop:=
Φ 84 [(I 2)] H λd H2=>
 aw (some (aQ H2 true [O,O,O,O,O,O,u 0,O,O,O,O,O,O])) λa e=>
 Do (au e 13 a d) λf=>
 Do (aa 1 a) λg=>
 Do (au f 1 g Y) λh=>
 Do (aa 3 a) λi=>
 Do (au h 1 i c) λb=>
 Do (W b 13 true a) λj=>
Φ 86 [a0,j] b λl k=>
 Q (.ar []) k
noncomputable def G4:aF:=A C ⟨79,[6],[],none,[],[]⟩
def f80(Φ:ad)(a0 Y:J)(H:AH)(Q:ab):Prop:=
 aw (aM H false 1 Y) λb H2=>
 Do (aC a0) λc=>
 Do (aa 7 c) λd=>
 Do (W H2 1 false d) λe=>
Φ 131 [e,(.fn 132 [b])] H2 λf a=>
 Do (aC a0) λg=>
 Do (aa 7 g) λh=>
 Do (W a 1 false h) λi=>
 Do (aL none 2 i f) λj=>
 Do (aa 1 j) λk=>
 Do (W a 1 false k) λl=>
 Q l a
noncomputable def G5:aF:=A C ⟨80,[],[],none,[],[]⟩
end Rb.S

namespace Rb.S
open Go
open Go.Proofs.YtncnnojgkgceiaaGreatDoor.rb (C)
def vv(Φ:ad)(a0 c d e:J)(Q:ab):a:=λf b=>
 Do (W b 8 true c) λg=>
Φ 138 [a0,g,d,(D f 0),e] b λi h=>
 Q (.ar []) h
def f81(Φ:ad)(a0 Y t:J)(H:AH)(Q:ab):Prop:=
 aw (aM H false 2 Y) λi H2=>
 aw (aM H2 false 8 t) λu j=>
 Do (W j 2 true i) λv=>
Φ 133 [a0,v] j λw x=>
 aw (some (aQ x true [O,O,O,P,O,O,O,O])) λa y=>
 Do (au y 8 a w) λk=>
 Do (W k 8 true u) λz=>
Φ 77 [a0,z] k λl m=>
 Do (W m 8 true a) λA=>
Φ 134 [a0,A] m λc n=>
 Do (W n 2 true i) λB=>
Φ 85 [a0,(I 3),O,B] n λd b=>
 Do (aa 0 a) λC=>
 Do (aa 3 C) λD=>
 Do (W b 1 false D) λE=>
 L E true (
 Do (W b 8 true a) λF=>
Φ 135 [a0,F,c,d] b λK e=>
 Do (aa 0 a) λN=>
 Do (aa 5 N) λR=>
 Do (W e 1 false R) λS=>
 Do (aa 0 a) λT=>
 Do (aa 4 T) λo=>
 Do (W e 1 false o) λp=>
Φ 137 [S] e λU q=>
(W q 1 false o=some p) ∧
(Do (M .shl U p) λV=>
 Do (cC .xor V) λX=>
Φ 136 [a0,(I 4),K,X] q λZ f=>
 Do (aa 0 a) λac=>
 Do (aa 5 ac) λae=>
 Do (W f 1 false ae) λaf=>
 Do (aa 0 a) λag=>
 Do (aa 4 ag) λg=>
 Do (W f 1 false g) λh=>
 Do (db .u64 h) λah=>
Φ 137 [af] f λai r=>
(W r 1 false g=some h) ∧
(Φ 136 [a0,(I 4),l,ai] r λaj s=>
(W s 1 false g=some h) ∧
(Φ 136 [a0,(I 7),aj,ah] s λak al=>
Φ 128 [a0,(I 5),Z,ak] al λam an=>
 G (vv Φ a0 a c d Q) [am] an)))) (
 G (vv Φ a0 a c d Q) [l] b)
noncomputable def G6:aF:=A C ⟨81,[6],[],none,[],[]⟩
def vw(Φ:ad)(a0 d h c:J)(Q:ab):a:=λG i=>
 Do (W i 8 true h) λn=>
Φ 134 [a0,n] i λo p=>
 Do (aa 3 c) λq=>
 Do (au p 1 q o) λb=>
 Do (aa 0 h) λr=>
 Do (aa 0 r) λs=>
 Do (aa 1 s) λj=>
 Do (W b 1 false j) λk=>
 Do (aa 4 d) λe=>
 Do (W b 1 false e) λf=>
 Do (aa 0 d) λt=>
 Do (W b 1 false t) λu=>
 Do (aa 4 d) λv=>
 Do (W b 1 false v) λw=>
 Do (aa 5 d) λx=>
 Do (W b 2 true x) λy=>
 Do (aa 8 c) λz=>
Φ 85 [a0,u,w,y] b λA g=>
(W g 1 false j=some k) ∧
(W g 1 false e=some f) ∧
(Do (au g 1 z k) λl=>
(W l 1 false e=some f) ∧
(Do (aa 9 c) λB=>
 Do (au l 1 B f) λC=>
 Do (aa 11 c) λD=>
 Do (au C 1 D A) λm=>
 Do (W m 13 true c) λE=>
Φ 86 [a0,E] m λH F=>
 Q (.ar []) F))
def f82(Φ:ad)(a0 Y:J)(H:AH)(Q:ab):Prop:=
 aw (aM H false 10 Y) λa H2=>
 Do (aa 5 a) λg=>
 Do (W H2 2 true g) λh=>
Φ 133 [a0,h] H2 λi j=>
 aw (some (aQ j true [O,O,O,P,O,O,O,O])) λc k=>
 Do (au k 8 c i) λl=>
Φ 84 [(I 7)] l λm n=>
 aw (some (aQ n true [O,O,O,O,O,O,u 0,O,O,O,O,O,O])) λb o=>
 Do (au o 13 b m) λd=>
 Do (aa 7 a) λp=>
 Do (W d 1 false p) λq=>
 Do (aL none 8 q O) λr=>
 Do (W d 8 true r) λs=>
Φ 77 [a0,s] d λt v=>
 Do (aa 4 b) λw=>
 Do (au v 1 w t) λe=>
 Do (aa 0 a) λx=>
 Do (W e 1 false x) λy=>
 Do (M .eql y (I 6)) λz=>
 L z true (
 Do (aa 0 b) λA=>
 Do (au e 1 A (I 12)) λf=>
 Do (aa 7 a) λB=>
 Do (W f 1 false B) λC=>
 Do (aL none 8 C (I 1)) λD=>
 Do (W f 8 true D) λE=>
Φ 77 [a0,E] f λF K=>
 Do (aa 5 b) λN=>
 Do (au K 1 N F) λR=>
 G (vw Φ a0 a c b Q) [] R) (
 G (vw Φ a0 a c b Q) [] e)
noncomputable def G7:aF:=A C ⟨82,[4,5],[],none,[],[]⟩
def f83(Φ:ad)(a0 Y:J)(H:AH)(Q:ab):Prop:=
 aw (aM H false 10 Y) λb H2=>
 Do (aa 5 b) λF=>
 Do (W H2 2 true F) λG=>
Φ 133 [a0,G] H2 λK L=>
 aw (some (aQ L true [O,O,O,P,O,O,O,O])) λj M=>
 Do (au M 8 j K) λN=>
Φ 84 [(I 11)] N λR S=>
 aw (some (aQ S true [O,O,O,O,O,O,u 0,O,O,O,O,O,O])) λa T=>
 Do (au T 13 a R) λw=>
 Do (W w 8 true j) λU=>
Φ 134 [a0,U] w λV X=>
 Do (aa 3 a) λZ=>
 Do (au X 1 Z V) λe=>
 Do (aa 0 j) λac=>
 Do (aa 0 ac) λae=>
 Do (aa 1 ae) λf=>
 Do (W e 1 false f) λg=>
 Do (aa 4 b) λc=>
 Do (W e 1 false c) λd=>
 Do (aa 0 b) λk=>
 Do (W e 1 false k) λl=>
 Do (aa 4 b) λm=>
 Do (W e 1 false m) λn=>
 Do (aa 5 b) λo=>
 Do (W e 2 true o) λp=>
Φ 78 [a0] e λaf h=>
(W h 1 false f=some g) ∧
(W h 1 false c=some d) ∧
(W h 1 false k=some l) ∧
(W h 1 false m=some n) ∧
(W h 2 true o=some p) ∧
(Do (aa 1 a) λag=>
Φ 78 [a0] h λah i=>
(W i 1 false f=some g) ∧
(W i 1 false c=some d) ∧
(W i 1 false k=some l) ∧
(W i 1 false m=some n) ∧
(W i 2 true o=some p) ∧
(Φ 85 [a0,l,n,p] i λai q=>
(W q 1 false f=some g) ∧
(W q 1 false c=some d) ∧
(Do (au q 1 ag af) λr=>
(W r 1 false f=some g) ∧
(W r 1 false c=some d) ∧
(Do (aa 2 a) λaj=>
 Do (au r 1 aj ah) λs=>
(W s 1 false f=some g) ∧
(W s 1 false c=some d) ∧
(Do (aa 8 a) λak=>
 Do (au s 1 ak g) λx=>
(W x 1 false c=some d) ∧
(Do (aa 9 a) λal=>
 Do (au x 1 al d) λam=>
 Do (aa 11 a) λan=>
 Do (au am 1 an ai) λy=>
 Do (W y 13 true a) λao=>
Φ 86 [a0,ao] y λaB t=>
 Do (aa 2 b) λap=>
 Do (W t 1 false ap) λaq=>
 Do (aa 1 a) λz=>
 Do (W t 1 false z) λA=>
Φ 80 [a0,aq] t λav B=>
(W B 1 false z=some A) ∧
(Φ 79 [a0,av,A] B λaC v=>
 Do (aa 3 b) λax=>
 Do (W v 1 false ax) λay=>
 Do (aa 2 a) λC=>
 Do (W v 1 false C) λD=>
Φ 80 [a0,ay] v λaz E=>
(W E 1 false C=some D) ∧
(Φ 79 [a0,az,D] E λaD aA=>
 Q (.ar []) aA))))))))
noncomputable def G8:aF:=A C ⟨83,[4,5],[],none,[],[]⟩
def f84(Φ:ad)(a0:J)(H:AH)(Q:ab):Prop:=
 aw (some (aQ H true [O,O,O,O,O,O,u 0,O,O,O,O,O,O])) λa H2=>
 Do (aD [O,O,O,O,O,O,u 0,O,O,O,O,O,O] [(0,1,a0),(1,1,(I (-1))),(2,1,(I (-1))),(3,1,(I (-1))),(4,1,(I (-1))),(5,1,(I (-1)))]) λc=>
 Do (au H2 13 a c) λb=>
 Do (W b 13 true a) λd=>
 Q d b
noncomputable def G9:aF:=A C ⟨84,[2],[],none,[],[]⟩
def f85(Φ:ad)(a0 Y b c:J)(H:AH)(Q:ab):Prop:=
 aw (aM H false 2 c) λd H2=>
 Do (aC a0) λe=>
 Do (aa 5 e) λf=>
 Do (W H2 1 false f) λg=>
 Do (aC a0) λh=>
 Do (aa 6 h) λi=>
 Do (W H2 1 false i) λj=>
 Do (W H2 2 true d) λk=>
 Do (aD [O,O,O,.str [],aA] [(0,1,Y),(1,1,b),(2,1,j),(3,2,k)]) λl=>
 aw (cb H2 false 5 1 [O,O,O,.str [],aA] [(0,5,l)]) λm n=>
 aw (bR n false 5 64 g m) λo p=>
 Do (aC a0) λq=>
 Do (aa 5 q) λr=>
 Do (au p 1 r o) λa=>
 Do (aC a0) λs=>
 Do (aa 5 s) λt=>
 Do (W a 1 false t) λu=>
 Do (aY false u) λv=>
 Q v a
noncomputable def G_:aF:=A C ⟨85,[],[],none,[],[]⟩
def f86(Φ:ad)(a0 Y:J)(H:AH)(Q:ab):Prop:=
 aw (aM H true 13 Y) λb H2=>
 Do (aC a0) λc=>
 Do (aa 6 c) λd=>
 Do (W H2 1 false d) λe=>
 Do (aa 12 b) λf=>
 Do (au H2 1 f e) λa=>
 Do (aC a0) λg=>
 Do (aa 2 g) λh=>
 Do (W a 1 false h) λi=>
 Do (W a 13 true b) λj=>
 aw (cb a false 13 1 [O,O,O,O,O,O,u 0,O,O,O,O,O,O] [(0,13,j)]) λk l=>
 aw (bR l false 13 104 i k) λm n=>
 Do (aC a0) λo=>
 Do (aa 2 o) λp=>
 Do (au n 1 p m) λq=>
 Q (.ar []) q
noncomputable def Ha:aF:=A C ⟨86,[3],[],none,[],[]⟩
def f87(Φ:ad)(a0 Y:J)(H:AH)(Q:ab):Prop:=
 aw (aM H false 10 Y) λa H2=>
Φ 139 [a0] H2 λc i=>
Φ 139 [a0] i λd b=>
 Do (aa 7 a) λj=>
 Do (W b 1 false j) λk=>
 Do (aL none 8 k O) λl=>
 Do (W b 8 true l) λm=>
Φ 77 [a0,m] b λn o=>
Φ 140 [a0,c,n] o λF e=>
 Do (aa 8 a) λp=>
 Do (W e 1 false p) λq=>
Φ 12 [a0,q] e λG f=>
 Do (aa 1 a) λr=>
 Do (W f 1 false r) λs=>
 Do (aC a0) λt=>
 Do (aa 6 t) λu=>
 Do (au f 1 u s) λv=>
Φ 140 [a0,d,(I (-1))] v λK w=>
Φ 141 [a0,c] w λL g=>
 Do (aa 9 a) λx=>
 Do (W g 1 false x) λy=>
Φ 12 [a0,y] g λM h=>
 Do (aa 1 a) λz=>
 Do (W h 1 false z) λA=>
 Do (aC a0) λB=>
 Do (aa 6 B) λC=>
 Do (au h 1 C A) λD=>
Φ 141 [a0,d] D λN E=>
 Q (.ar []) E
noncomputable def Hb:aF:=A C ⟨87,[],[],none,[],[]⟩
def f88(Φ:ad)(a0 Y:J)(H:AH)(Q:ab):Prop:=
 aw (aM H false 10 Y) λa H2=>
Φ 139 [a0] H2 λc g=>
Φ 139 [a0] g λd h=>
Φ 141 [a0,c] h λx b=>
 Do (aa 7 a) λi=>
 Do (W b 1 false i) λj=>
 Do (aL none 8 j O) λk=>
 Do (W b 8 true k) λl=>
Φ 77 [a0,l] b λm n=>
Φ 140 [a0,d,m] n λy e=>
 Do (aa 8 a) λo=>
 Do (W e 1 false o) λp=>
Φ 12 [a0,p] e λz f=>
 Do (aa 1 a) λq=>
 Do (W f 1 false q) λr=>
 Do (aC a0) λs=>
 Do (aa 6 s) λt=>
 Do (au f 1 t r) λu=>
Φ 140 [a0,c,(I (-1))] u λA v=>
Φ 141 [a0,d] v λB w=>
 Q (.ar []) w
noncomputable def Hc:aF:=A C ⟨88,[],[],none,[],[]⟩
def Hd(Φ:ad)(a0:J)(b:ST)(d:LT)(Q:ab):a:=λp c=>
 Do (M .sub (D b.1 0) (I 1)) λe=>
 Do (M .sub (D b.1 0) (I 1)) λf=>
 Do (aL none 3 a0 f) λg=>
 Do (W c 3 true g) λh=>
 Do (aL none 3 a0 (D b.1 0)) λi=>
 Do (W c 3 true i) λj=>
 Do (aL none 3 a0 (D b.1 0)) λk=>
 Do (au c 3 k h) λl=>
 Do (aL none 3 a0 e) λm=>
 Do (au l 3 m j) λn=>
 Do (M .sub (D b.1 0) (I 1)) λo=>
 d ([o],n)
def AD(Φ:ad)(b:ST)(c:LT)(Q:ab):a:=λf d=>
 Do (M .add (D b.1 0) (I 1)) λe=>
 c ([e],d)
def pM(Φ:ad)(a0:J)(c:ST)(d:LT)(e:ST)(f:LT)(Q:ab):a:=λg b=>
 L (D g 0) true (
 G (Hd Φ a0 e f Q) [] b) (
 G (AD Φ c d Q) [] b)
def q_(Φ:ad)(a0 Y g:J)(c:ST)(d:LT)(Q:ab):BT:=λa e=>
 Do (M .gtr (D a.1 0) Y) λh=>
 aN h true (
 Do (aL none 3 a0 (D a.1 0)) λi=>
 Do (W a.2 3 true i) λj=>
 Do (M .sub (D a.1 0) (I 1)) λk=>
 Do (aL none 3 a0 k) λl=>
 Do (W a.2 3 true l) λm=>
∃b f,g = .fn b f∧Φ (fI b) (fJ b [j,m] f) a.2 λn o=>
 Do (M .lss n O) λp=>
 G (pM Φ a0 c d a e Q) [p] o) (
 G (pM Φ a0 c d a e Q) [P] a.2) (
 False)
def mA(Φ:ad)(a0 Y a b:J)(Q:ab):BT:=λs2 c=>
 Do (M .lss (D s2.1 0) a) λd=>
 L d true (
 av (q_ Φ a0 Y b s2 c Q) ([(D s2.1 0)],s2.2)) (
 Q (.ar []) s2.2)
def f89(Φ:ad)(a0 Y a b:J)(H:AH)(Q:ab):Prop:=
 Do (M .add Y (I 1)) λc=>
 av (mA Φ a0 Y a b Q) ([c],H)
noncomputable def He:aF:=A C ⟨89,[],[[8],[9]],none,[],[]⟩
def vx(Φ:ad)(a0:J)(b:List J)(Q:ab):BT:=λa c=>
 Do (M .sub (D b 0) (I 1)) λd=>
 Do (M .lss (D a.1 0) d) λe=>
 L e true (
 Do (M .add (D a.1 0) (I 1)) λf=>
 Do (M .add (D a.1 0) (I 1)) λg=>
 Do (aL none 3 a0 g) λh=>
 Do (W a.2 3 true h) λi=>
 Do (aL none 3 a0 (D a.1 0)) λj=>
 Do (W a.2 3 true j) λk=>
 Do (aL none 3 a0 (D a.1 0)) λl=>
 Do (au a.2 3 l i) λm=>
 Do (aL none 3 a0 f) λn=>
 Do (au m 3 n k) λo=>
 Do (M .add (D a.1 0) (I 1)) λp=>
 c ([p],o)) (
 Q (.ar []) a.2)
def AE(Φ:ad)(a0 Y:J)(Q:ab):a:=λb c=>
 av (vx Φ a0 b Q) ([Y],c)
def vy(Φ:ad)(a0 Y g:J)(Q:ab):BT:=λa d=>
 Do (M .lss (D a.1 0) (D a.1 1)) λh=>
 L h true (
 Do (M .add (D a.1 0) (D a.1 1)) λi=>
 Do (db .u64 i) λj=>
 Do (M .shr j (u 1)) λk=>
 Do (db .i64 k) λb=>
 Do (aL none 3 a0 b) λl=>
 Do (W a.2 3 true l) λm=>
 Do (aL none 3 a0 Y) λn=>
 Do (W a.2 3 true n) λo=>
∃c e,g = .fn c e∧Φ (fI c) (fJ c [m,o] e) a.2 λp f=>
 Do (M .lss p O) λq=>
 L q true (
 Do (M .add b (I 1)) λr=>
 d ([r,(D a.1 1)],f)) (
 d ([(D a.1 0),b],f))) (
 G (AE Φ a0 Y Q) [(D a.1 0)] a.2)
def vz(Φ:ad)(a0:J)(b:List J)(Q:ab):BT:=λa c=>
 Do (M .gtr (D a.1 0) (D b 0)) λd=>
 L d true (
 Do (M .sub (D a.1 0) (I 1)) λe=>
 Do (M .sub (D a.1 0) (I 1)) λf=>
 Do (aL none 3 a0 f) λg=>
 Do (W a.2 3 true g) λh=>
 Do (aL none 3 a0 (D a.1 0)) λi=>
 Do (W a.2 3 true i) λj=>
 Do (aL none 3 a0 (D a.1 0)) λk=>
 Do (au a.2 3 k h) λl=>
 Do (aL none 3 a0 e) λm=>
 Do (au l 3 m j) λn=>
 Do (M .sub (D a.1 0) (I 1)) λo=>
 c ([o],n)) (
 Q (.ar []) a.2)
def AF(Φ:ad)(a0 b:J)(Q:ab):a:=λc d=>
 av (vz Φ a0 c Q) ([b],d)
def vA(Φ:ad)(a0 d h:J)(Q:ab):BT:=λa e=>
 Do (M .lss (D a.1 0) (D a.1 1)) λi=>
 L i true (
 Do (M .add (D a.1 0) (D a.1 1)) λj=>
 Do (db .u64 j) λk=>
 Do (M .shr k (u 1)) λl=>
 Do (db .i64 l) λb=>
 Do (aL none 3 a0 d) λm=>
 Do (W a.2 3 true m) λn=>
 Do (aL none 3 a0 b) λo=>
 Do (W a.2 3 true o) λp=>
∃c f,h = .fn c f∧Φ (fI c) (fJ c [n,p] f) a.2 λq g=>
 Do (M .lss q O) λr=>
 Do (cC .not r) λs=>
 L s true (
 Do (M .add b (I 1)) λt=>
 e ([t,(D a.1 1)],g)) (
 e ([(D a.1 0),b],g))) (
 G (AF Φ a0 d Q) [(D a.1 0)] a.2)
def vC(Φ:ad)(a0 c d e f:J)(Q:ab):a:=λg b=>
 L (D g 0) true (
Φ 90 [a0,e,f,c,d] b λi h=>
 Q (.ar []) h) (
 Q (.ar []) b)
def vD(Φ:ad)(a0 c e d b:J)(Q:ab):a:=λi f=>
 Do (M .lss d b) λg=>
 aN g true (
 Do (M .lss b c) λh=>
 G (vC Φ a0 c e d b Q) [h] f) (
 G (vC Φ a0 c e d b Q) [P] f) (
 False)
def vF(Φ:ad)(a0 Y d b c e:J)(g:List J)(Q:ab):a:=λh f=>
 L (D h 0) true (
Φ 90 [a0,Y,(D g 0),c,b] f λj i=>
 G (vD Φ a0 d b c e Q) [] i) (
 G (vD Φ a0 d b c e Q) [] f)
def vG(Φ:ad)(a0 Y d e c f:J)(b:List J)(Q:ab):a:=λj g=>
 Do (M .lss Y (D b 0)) λh=>
 aN h true (
 Do (M .lss (D b 0) c) λi=>
 G (vF Φ a0 Y d e c f b Q) [i] g) (
 G (vF Φ a0 Y d e c f b Q) [P] g) (
 False)
def vH(Φ:ad)(a0 Y h e b f c:J)(d:List J)(Q:ab):a:=λi g=>
 L (D i 0) true (
Φ 142 [a0,(D d 0),h,c,b] g λk j=>
 G (vG Φ a0 Y e b f c d Q) [] j) (
 G (vG Φ a0 Y e b f c d Q) [] g)
def AG(Φ:ad)(a0 Y b e f g i:J)(Q:ab):a:=λc h=>
 Do (M .sub i (D c 0)) λd=>
 Do (M .lss (D c 0) b) λj=>
 aN j true (
 Do (M .lss b d) λk=>
 G (vH Φ a0 Y b e f g d c Q) [k] h) (
 G (vH Φ a0 Y b e f g d c Q) [P] h) (
 False)
def vI(Φ:ad)(a0 Y h i d j k l:J)(Q:ab):BT:=λa e=>
 Do (M .lss (D a.1 0) (D a.1 1)) λm=>
 L m true (
 Do (M .add (D a.1 0) (D a.1 1)) λn=>
 Do (db .u64 n) λo=>
 Do (M .shr o (u 1)) λp=>
 Do (db .i64 p) λb=>
 Do (M .sub l b) λq=>
 Do (aL none 3 a0 q) λr=>
 Do (W a.2 3 true r) λs=>
 Do (aL none 3 a0 b) λt=>
 Do (W a.2 3 true t) λv=>
∃c f,d = .fn c f∧Φ (fI c) (fJ c [s,v] f) a.2 λw g=>
 Do (M .lss w O) λx=>
 Do (cC .not x) λy=>
 L y true (
 Do (M .add b (I 1)) λz=>
 e ([z,(D a.1 1)],g)) (
 e ([(D a.1 0),b],g))) (
 G (AG Φ a0 Y h i d j k Q) [(D a.1 0)] a.2)
def vJ(Φ:ad)(a0 Y d e f g b:J)(Q:ab):a:=λc h=>
 Do (M .sub b (I 1)) λi=>
 av (vI Φ a0 Y d e f g b i Q) ([(D c 0),(D c 1)],h)
def f90(Φ:ad)(a0 Y a b d:J)(H:AH)(Q:ab):Prop:=
 Do (M .sub a Y) λf=>
 Do (M .eql f (I 1)) λg=>
 L g true (
 av (vy Φ a0 Y d Q) ([a,b],H)) (
 Do (M .sub b a) λh=>
 Do (M .eql h (I 1)) λi=>
 L i true (
 av (vA Φ a0 a d Q) ([Y,a],H)) (
 Do (M .add Y b) λj=>
 Do (db .u64 j) λk=>
 Do (M .shr k (u 1)) λl=>
 Do (db .i64 l) λc=>
 Do (M .add c a) λe=>
 Do (M .gtr a c) λm=>
 L m true (
 Do (M .sub e b) λn=>
 G (vJ Φ a0 Y a b d c e Q) [n,c] H) (
 G (vJ Φ a0 Y a b d c e Q) [Y,a] H)))
noncomputable def Hf:aF:=A C ⟨90,[],[[10,11],[13],[14,15],[17],[20,21]],none,[],[]⟩
def vK(Φ:ad)(Y:J)(Q:ab):a:=λb H2=>
 Do (M .gtr (D b 0) Y) λc=>
 Q c H2
def vL(Φ:ad)(a0 Y:J)(b:ST)(l:LT)(Q:ab):a:=λc g=>
∃t28 h d i,a0 = .iface t28 h∧fH uu t28=some d∧h3 g d.2 h=some i∧Φ d.1 (i::[(D c 0),(D b.1 0)]) g λm e=>
 Do (cC .not m) λn=>
 L n true (
 G (vK Φ Y Q) [(D b.1 0)] e) (
∃t35 j f k,a0 = .iface t35 j∧fH uv t35=some f∧h3 e f.2 j=some k∧Φ f.1 (k::[(D b.1 0),(D c 0)]) e λp o=>
 l ([(D c 0)],o))
def vM(Φ:ad)(a0 Y e f:J)(b:ST)(c:LT)(Q:ab):a:=λg d=>
 L (D g 0) true (
 G (vL Φ a0 Y b c Q) [f] d) (
 G (vL Φ a0 Y b c Q) [e] d)
def Hg(Φ:ad)(a0 Y j b:J)(f:ST)(g:LT)(Q:ab):a:=λn d=>
 Do (M .add b (I 1)) λc=>
 Do (M .lss c j) λk=>
 aN k true (
∃t22 h e i,a0 = .iface t22 h∧fH uu t22=some e∧h3 d e.2 h=some i∧Φ e.1 (i::[c,b]) d λl m=>
 G (vM Φ a0 Y b c f g Q) [l] m) (
 G (vM Φ a0 Y b c f g Q) [P] d) (
 False)
def vN(Φ:ad)(a0 Y d e:J)(b:ST)(f:LT)(Q:ab):a:=λg c=>
 L (D g 0) true (
 G (vK Φ Y Q) [(D b.1 0)] c) (
 G (Hg Φ a0 Y d e b f Q) [] c)
def re(Φ:ad)(a0 Y c:J)(Q:ab):BT:=λa d=>
 Do (M .mul (I 2) (D a.1 0)) λe=>
 Do (M .add e (I 1)) λb=>
 Do (M .geq b c) λf=>
 aN f false (
 Do (M .lss b O) λg=>
 G (vN Φ a0 Y c b a d Q) [g] a.2) (
 G (vN Φ a0 Y c b a d Q) [aV] a.2) (
 False)
def f91(Φ:ad)(a0 Y a:J)(H:AH)(Q:ab):Prop:=
 av (re Φ a0 Y a Q) ([Y],H)
noncomputable def Hh:aF:=A C ⟨91,[],[[7]],none,[9,136,138],[]⟩
def Hi(Φ:ad)(a0 c:J)(g:ST)(h:LT)(Q:ab):a:=λj d=>
∃t19 e b f,a0 = .iface t19 e∧fH uv t19=some b∧h3 d b.2 e=some f∧Φ b.1 (f::[c,(D g.1 0)]) d λk i=>
 h ([c],i)
def vO(Φ:ad)(a0 c:J)(d:ST)(e:LT)(Q:ab):a:=λf b=>
 L (D f 0) true (
 Q (.ar []) b) (
 G (Hi Φ a0 c d e Q) [] b)
def AJ(Φ:ad)(a0:J)(Q:ab):BT:=λs1 c=>
 Do (M .sub (D s1.1 0) (I 1)) λf=>
 Do (M .quo f (I 2)) λa=>
 Do (M .eql a (D s1.1 0)) λg=>
 aN g false (
∃t12 d b e,a0 = .iface t12 d∧fH uu t12=some b∧h3 s1.2 b.2 d=some e∧Φ b.1 (e::[(D s1.1 0),a]) s1.2 λh i=>
 Do (cC .not h) λj=>
 G (vO Φ a0 a s1 c Q) [j] i) (
 G (vO Φ a0 a s1 c Q) [aV] s1.2) (
 False)
def f94(Φ:ad)(a0 Y:J)(H:AH)(Q:ab):Prop:=
 av (AJ Φ a0 Q) ([Y],H)
noncomputable def Hj:aF:=A C ⟨94,[],[[1]],none,[9,136,138],[]⟩
def AK(Φ:ad)(b:ST)(c:LT)(Q:ab):a:=λd e=>
 Do (M .add (D b.1 1) (I 1)) λf=>
 c ([(D d 0),f],e)
def Hk(Φ:ad)(a0:J)(Q:ab):a:=λb c=>
 Do (c6 1 a0 (some (D b 0)) none none) λd=>
 aw (c4 c (.clear 1 [O]) [d]) λg e=>
 Do (c6 1 a0 none (some (D b 0)) none) λf=>
 Q f e
def rf(Φ:ad)(a0 Y:J)(Q:ab):BT:=λa c=>
 Do (aY false a0) λg=>
 Do (M .lss (D a.1 1) g) λh=>
 L h true (
 Do (aL none 1 a0 (D a.1 1)) λi=>
 Do (W a.2 1 false i) λd=>
∃b e,Y = .fn b e∧Φ (fI b) (fJ b [d] e) a.2 λj f=>
 Do (cC .not j) λk=>
 L k true (
 Do (aL none 1 a0 (D a.1 0)) λl=>
 Do (au f 1 l d) λm=>
 Do (M .add (D a.1 0) (I 1)) λn=>
 G (AK Φ a c Q) [n] m) (
 G (AK Φ a c Q) [(D a.1 0)] f)) (
 G (Hk Φ a0 Q) [(D a.1 0)] a.2)
def f95(Φ:ad)(a0 Y:J)(H:AH)(Q:ab):Prop:=
Φ 153 [a0,Y] H λa H2=>
 Do (M .eql a (I (-1))) λb=>
 L b true (
 Q a0 H2) (
 Do (M .add a (I 1)) λc=>
 av (rf Φ a0 Y Q) ([a,c],H2))
noncomputable def Hl:aF:=A C ⟨95,[],[[5,6]],none,[],[]⟩
def f96(Φ:ad)(a0:J)(H:AH)(Q:ab):Prop:=
 Do (M .lss a0 O) λa=>
 Q a H
noncomputable def Hm:aF:=A C ⟨96,[],[],none,[],[]⟩
def Hn(Φ:ad)(a0 Y:J)(Q:ab):a:=λg H2=>
 Do (aC a0) λb=>
 Do (aa 0 b) λc=>
 Do (W H2 1 false c) λd=>
 Do (aL none 1 d Y) λe=>
 Do (W H2 1 false e) λf=>
 Q f H2
def vQ(Φ:ad)(a0 Y:J)(Q:ab):a:=λc b=>
 L (D c 0) true (
 Do (aC a0) λd=>
 Do (aa 7 d) λe=>
 Do (au b 1 e (I 1)) λf=>
 Q O f) (
 G (Hn Φ a0 Y Q) [] b)
def f97(Φ:ad)(a0 Y:J)(H:AH)(Q:ab):Prop:=
 Do (M .lss Y O) λa=>
 aN a false (
 Do (aC a0) λb=>
 Do (aa 0 b) λc=>
 Do (W H 1 false c) λd=>
 Do (aY false d) λe=>
 Do (M .geq Y e) λf=>
 G (vQ Φ a0 Y Q) [f] H) (
 G (vQ Φ a0 Y Q) [aV] H) (
 False)
noncomputable def Ho:aF:=A C ⟨97,[],[],none,[],[]⟩
def f98(Φ:ad)(a0 Y a:J)(H:AH)(Q:ab):Prop:=
 Do (aD [O,O,O,O,O,O,O] [(0,1,(I 7)),(1,1,Y),(2,1,(I 31)),(3,1,a)]) λb=>
Φ 28 [a0,b] H λd c=>
 Q (.ar []) c
noncomputable def Hp:aF:=A C ⟨98,[],[],none,[],[]⟩
def f99(Φ:ad)(a0:J)(H:AH)(Q:ab):Prop:=
 Do (M .eql a0 (I 1)) λa=>
 L a true (
 Q (I 3) H) (
 Do (M .eql a0 (I 2)) λb=>
 L b true (
 Q (I 4) H) (
 Do (M .eql a0 (I 3)) λc=>
 L c true (
 Q (I 9) H) (
 Do (M .eql a0 (I 4)) λd=>
 L d true (
 Q (I 6) H) (
 Do (M .eql a0 (I 5)) λe=>
 L e true (
 Q (I 7) H) (
 Do (M .eql a0 (I 6)) λf=>
 L f true (
 Q (I 8) H) (
 Do (M .eql a0 (I 7)) λg=>
 L g true (
 Q (I 10) H) (
 Do (M .eql a0 (I 8)) λh=>
 L h true (
 Q (I 11) H) (
 Q O H))))))))
noncomputable def Hq:aF:=A C ⟨99,[],[],none,[],[]⟩
def f100(Φ:ad)(a0:J)(H:AH)(Q:ab):Prop:=
 Do (M .eql a0 (I 9)) λa=>
 L a true (
 Q O H) (
 Do (M .eql a0 (I 10)) λb=>
 L b true (
 Q (I 1) H) (
 Q (I 3) H))
noncomputable def Hr:aF:=A C ⟨100,[],[],none,[],[]⟩
def f101(Φ:ad)(a0 Y:J)(H:AH)(Q:ab):Prop:=
 aw (aM H false 13 Y) λb H2=>
 Do (aa 3 b) λd=>
 Do (W H2 1 false d) λe=>
Φ 52 [a0,e,(I 8)] H2 λc a=>
 Do (aa 6 b) λf=>
 Do (W a 1 false f) λg=>
 Do (M .eql g (u 0)) λh=>
 L h true (
 Q c a) (
 Do (aa 6 b) λi=>
 Do (W a 1 false i) λj=>
Φ 26 [a0,(I 14),j] a λn k=>
 Do (aD [O,O,O,O,O,O,O] [(0,1,(I 3)),(1,1,(I 8)),(2,1,c),(3,1,(I 14))]) λl=>
Φ 28 [a0,l] k λo m=>
 Q (I 8) m)
noncomputable def Hs:aF:=A C ⟨101,[],[],none,[],[]⟩
def f102(Φ:ad)(a0 Y a:J)(H:AH)(Q:ab):Prop:=
 L a0 true (
 Q Y H) (
 Q a H)
noncomputable def Ht:aF:=A C ⟨102,[],[],none,[],[]⟩
def f103(Φ:ad)(a0:J)(H:AH)(Q:ab):Prop:=
 Do (M .eql a0 (I 2)) λa=>
 aN a false (
 Do (M .eql a0 (I 4)) λb=>
 Q b H) (
 Q aV H) (
 False)
noncomputable def Hu:aF:=A C ⟨103,[],[],none,[],[]⟩
def rh(Φ:ad)(a0:J)(Q:ab):BT:=λs1 a=>
 Do (M .shl (I 1) (D s1.1 0)) λb=>
 Do (M .lss b a0) λc=>
 L c true (
 Do (M .add (D s1.1 0) (I 1)) λd=>
 a ([d],s1.2)) (
 Q (D s1.1 0) s1.2)
def f104(Φ:ad)(a0:J)(H:AH)(Q:ab):Prop:=
 av (rh Φ a0 Q) ([O],H)
noncomputable def Hv:aF:=A C ⟨104,[],[[3]],none,[],[]⟩
def f105(Φ:ad)(a0:J)(H:AH)(Q:ab):Prop:=
 Do (M .eql a0 (I 3)) λa=>
 aN a false (
 Do (M .eql a0 (I 4)) λb=>
 Q b H) (
 Q aV H) (
 False)
noncomputable def Hw:aF:=A C ⟨105,[],[],none,[],[]⟩
def f106(Φ:ad)(a0 Y:J)(H:AH)(Q:ab):Prop:=
 Do (aC a0) λa=>
 Do (aa 1 a) λb=>
 Do (W H 1 false b) λc=>
 Do (aY false c) λd=>
 Do (M .sub Y d) λe=>
 Do (aD [O,O,O,O,O,O,O] [(0,1,(I 16)),(1,1,(I 13)),(6,1,e)]) λf=>
Φ 28 [a0,f] H λh g=>
 Q (.ar []) g
noncomputable def Hx:aF:=A C ⟨106,[],[],none,[],[]⟩
def f107(Φ:ad)(a0:J)(H:AH)(Q:ab):Prop:=
 aw (some (aQ H true [.int .u32 0,.str []])) λa H2=>
 Do (M .eql a0 (I 1)) λo=>
 L o true (
 Do (aD [.int .u32 0,.str []] [(0,1,(.int .u32 3531603968)),(1,1,(.str [100,105,113]))]) λp=>
 Do (au H2 2 a p) λb=>
 Do (W b 2 true a) λq=>
 Q q b) (
 Do (M .eql a0 (I 2)) λr=>
 L r true (
 Do (aD [.int .u32 0,.str []] [(0,1,(.int .u32 4068474880)),(1,1,(.str [100,105,113]))]) λs=>
 Do (au H2 2 a s) λc=>
 Do (W c 2 true a) λt=>
 Q t c) (
 Do (M .eql a0 (I 3)) λu=>
 L u true (
 Do (aD [.int .u32 0,.str []] [(0,1,(.int .u32 2332033024)),(1,1,(.str [100,110,109]))]) λv=>
 Do (au H2 2 a v) λd=>
 Do (W d 2 true a) λw=>
 Q w d) (
 Do (M .eql a0 (I 4)) λx=>
 L x true (
 Do (aD [.int .u32 0,.str []] [(0,1,(.int .u32 3405774848)),(1,1,(.str [100,110,109]))]) λy=>
 Do (au H2 2 a y) λe=>
 Do (W e 2 true a) λz=>
 Q z e) (
 Do (M .eql a0 (I 5)) λA=>
 L A true (
 Do (aD [.int .u32 0,.str []] [(0,1,(.int .u32 3942645760)),(1,1,(.str [100,110,109]))]) λB=>
 Do (au H2 2 a B) λf=>
 Do (W f 2 true a) λC=>
 Q C f) (
 Do (M .eql a0 (I 6)) λD=>
 L D true (
 Do (aD [.int .u32 0,.str []] [(0,1,(.int .u32 2315255808)),(1,1,(.str [100,110,109]))]) λE=>
 Do (au H2 2 a E) λg=>
 Do (W g 2 true a) λF=>
 Q F g) (
 Do (M .eql a0 (I 7)) λG=>
 L G true (
 Do (aD [.int .u32 0,.str []] [(0,1,(.int .u32 2852126720)),(1,1,(.str [100,110,109]))]) λK=>
 Do (au H2 2 a K) λh=>
 Do (W h 2 true a) λN=>
 Q N h) (
 Do (M .eql a0 (I 8)) λO=>
 L O true (
 Do (aD [.int .u32 0,.str []] [(0,1,(.int .u32 3388997632)),(1,1,(.str [100,110,109]))]) λP=>
 Do (au H2 2 a P) λi=>
 Do (W i 2 true a) λR=>
 Q R i) (
 Do (M .eql a0 (I 9)) λS=>
 L S true (
 Do (aD [.int .u32 0,.str []] [(0,1,(.int .u32 2600500224)),(1,1,(.str [100,110,109]))]) λT=>
 Do (au H2 2 a T) λj=>
 Do (W j 2 true a) λU=>
 Q U j) (
 Do (M .eql a0 (I 10)) λV=>
 L V true (
 Do (aD [.int .u32 0,.str []] [(0,1,(.int .u32 2596282368)),(1,1,(.str [100,110,109]))]) λX=>
 Do (au H2 2 a X) λk=>
 Do (W k 2 true a) λY=>
 Q Y k) (
 Do (M .eql a0 (I 11)) λZ=>
 L Z true (
 Do (aD [.int .u32 0,.str []] [(0,1,(.int .u32 2596283392)),(1,1,(.str [100,110,109]))]) λaa=>
 Do (au H2 2 a aa) λl=>
 Do (W l 2 true a) λac=>
 Q ac l) (
 Do (M .eql a0 (I 12)) λae=>
 L ae true (
 Do (aD [.int .u32 0,.str []] [(0,1,(.int .u32 2594113504)),(1,1,(.str [100,107]))]) λaf=>
 Do (au H2 2 a af) λm=>
 Do (W m 2 true a) λag=>
 Q ag m) (
Φ 154 [a0] H2 λah ai=>
 Do (au ai 2 a ah) λn=>
 Do (W n 2 true a) λaj=>
 Q aj n))))))))))))
noncomputable def Hy:aF:=A C ⟨107,[2],[],none,[],[]⟩
def f108(Φ:ad)(a0:J)(H:AH)(Q:ab):Prop:=
 aw (some (aQ H true [O,O,P,.int .u32 0,O])) λa H2=>
 Do (M .eql a0 (.int .u8 100)) λq=>
 L q true (
 Do (aD [O,O,P,.int .u32 0,O] [(0,1,O),(1,1,(I 5)),(4,1,(I 31))]) λr=>
 Do (au H2 5 a r) λb=>
 Do (W b 5 true a) λs=>
 Q s b) (
 Do (M .eql a0 (.int .u8 110)) λt=>
 L t true (
 Do (aD [O,O,P,.int .u32 0,O] [(0,1,(I 5)),(1,1,(I 5)),(4,1,(I 31))]) λu=>
 Do (au H2 5 a u) λc=>
 Do (W c 5 true a) λv=>
 Q v c) (
 Do (M .eql a0 (.int .u8 97)) λw=>
 L w true (
 Do (aD [O,O,P,.int .u32 0,O] [(0,1,(I 5)),(1,1,(I 5)),(4,1,(I 30))]) λx=>
 Do (au H2 5 a x) λd=>
 Do (W d 5 true a) λy=>
 Q y d) (
 Do (M .eql a0 (.int .u8 109)) λz=>
 L z true (
 Do (aD [O,O,P,.int .u32 0,O] [(0,1,(I 16)),(1,1,(I 5)),(4,1,(I 31))]) λA=>
 Do (au H2 5 a A) λe=>
 Do (W e 5 true a) λB=>
 Q B e) (
 Do (M .eql a0 (.int .u8 101)) λC=>
 L C true (
 Do (aD [O,O,P,.int .u32 0,O] [(0,1,(I 10)),(1,1,(I 5)),(4,1,(I 31))]) λD=>
 Do (au H2 5 a D) λf=>
 Do (W f 5 true a) λE=>
 Q E f) (
 Do (M .eql a0 (.int .u8 113)) λF=>
 L F true (
 Do (aD [O,O,P,.int .u32 0,O] [(0,1,(I 21)),(1,1,(I 2)),(4,1,(I 3))]) λG=>
 Do (au H2 5 a G) λg=>
 Do (W g 5 true a) λK=>
 Q K g) (
 Do (M .eql a0 (.int .u8 99)) λN=>
 L N true (
 Do (aD [O,O,P,.int .u32 0,O] [(0,1,O),(1,1,(I 2)),(4,1,(I 3))]) λR=>
 Do (au H2 5 a R) λh=>
 Do (W h 5 true a) λS=>
 Q S h) (
 Do (M .eql a0 (.int .u8 107)) λT=>
 L T true (
 Do (aD [O,O,P,.int .u32 0,O] [(0,1,(I 12)),(1,1,(I 2)),(4,1,(I 3)),(3,1,(.int .u32 1))]) λU=>
 Do (au H2 5 a U) λi=>
 Do (W i 5 true a) λV=>
 Q V i) (
 Do (M .eql a0 (.int .u8 115)) λX=>
 L X true (
 Do (aD [O,O,P,.int .u32 0,O] [(0,1,(I 30)),(1,1,(I 2)),(4,1,(I 3))]) λY=>
 Do (au H2 5 a Y) λj=>
 Do (W j 5 true a) λZ=>
 Q Z j) (
 Do (M .eql a0 (.int .u8 105)) λaa=>
 L aa true (
 Do (aD [O,O,P,.int .u32 0,O] [(0,1,(I 5)),(1,1,(I 16)),(4,1,(I 65535))]) λac=>
 Do (au H2 5 a ac) λk=>
 Do (W k 5 true a) λae=>
 Q ae k) (
 Do (M .eql a0 (.int .u8 111)) λaf=>
 L af true (
 Do (aD [O,O,P,.int .u32 0,O] [(0,1,(I 10)),(1,1,(I 12)),(4,1,(I 4095))]) λag=>
 Do (au H2 5 a ag) λl=>
 Do (W l 5 true a) λah=>
 Q ah l) (
 Do (M .eql a0 (.int .u8 98)) λai=>
 L ai true (
 Do (aD [O,O,P,.int .u32 0,O] [(0,1,O),(1,1,(I 26)),(2,1,aV)]) λaj=>
 Do (au H2 5 a aj) λm=>
 Do (W m 5 true a) λak=>
 Q ak m) (
 Do (M .eql a0 (.int .u8 120)) λal=>
 L al true (
 Do (aD [O,O,P,.int .u32 0,O] [(0,1,(I 5)),(1,1,(I 19)),(2,1,aV)]) λam=>
 Do (au H2 5 a am) λn=>
 Do (W n 5 true a) λan=>
 Q an n) (
 Do (M .eql a0 (.int .u8 102)) λao=>
 L ao true (
 Do (aD [O,O,P,.int .u32 0,O] [(0,1,(I 8)),(1,1,(I 4)),(4,1,(I 2))]) λap=>
 Do (au H2 5 a ap) λo=>
 Do (W o 5 true a) λaq=>
 Q aq o) (
 Do (aD [O,O,P,.int .u32 0,O] []) λar=>
 Do (au H2 5 a ar) λp=>
 Do (W p 5 true a) λav=>
 Q av p))))))))))))))
noncomputable def Hz:aF:=A C ⟨108,[2],[],none,[],[]⟩
def HA(Φ:ad)(a0:J)(Q:ab):a:=λd H2=>
 Do (aC a0) λb=>
 Do (aa 6 b) λc=>
 Q c H2
def ri(Φ:ad)(a0 Y:J)(Q:ab):a:=λc b=>
 L (D c 0) true (
 Do (aC a0) λd=>
 Do (aa 4 d) λe=>
 Q e b) (
 Do (M .eql Y (.int .u8 115)) λf=>
 L f true (
 Do (aC a0) λg=>
 Do (aa 5 g) λh=>
 Q h b) (
 G (HA Φ a0 Q) [] b))
def AL(Φ:ad)(a0 Y:J)(Q:ab):a:=λf b=>
 L (D f 0) true (
 Do (aC a0) λg=>
 Do (aa 2 g) λh=>
 Q h b) (
 Do (M .eql Y (.int .u8 109)) λi=>
 L i true (
 Do (aC a0) λj=>
 Do (aa 3 j) λk=>
 Q k b) (
 Do (M .eql Y (.int .u8 101)) λc=>
 L c true (
 G (ri Φ a0 Y Q) [c] b) (
 Do (M .eql Y (.int .u8 113)) λd=>
 L d true (
 G (ri Φ a0 Y Q) [d] b) (
 Do (M .eql Y (.int .u8 99)) λe=>
 L e true (
 G (ri Φ a0 Y Q) [e] b) (
 Do (M .eql Y (.int .u8 107)) λl=>
 G (ri Φ a0 Y Q) [l] b)))))
def f109(Φ:ad)(a0 Y:J)(H:AH)(Q:ab):Prop:=
 Do (M .eql Y (.int .u8 100)) λb=>
 L b true (
 Do (aC a0) λc=>
 Do (aa 1 c) λd=>
 Q d H) (
 Do (M .eql Y (.int .u8 110)) λa=>
 L a true (
 G (AL Φ a0 Y Q) [a] H) (
 Do (M .eql Y (.int .u8 97)) λe=>
 G (AL Φ a0 Y Q) [e] H))
noncomputable def HB:aF:=A C ⟨109,[],[],none,[],[]⟩
def f110(Φ:ad)(a0 Y:J)(H:AH)(Q:ab):Prop:=
 aw (aM H false 5 a0) λa H2=>
 Do (aa 2 a) λb=>
 Do (W H2 1 false b) λc=>
 L c true (
 Do (aa 1 a) λd=>
 Do (W H2 1 false d) λe=>
 Do (M .sub e (I 1)) λf=>
 Do (M .shl (I 1) f) λg=>
 Do (cC .neg g) λh=>
 Do (M .geq Y h) λi=>
 aN i true (
 Do (aa 1 a) λj=>
 Do (W H2 1 false j) λk=>
 Do (M .sub k (I 1)) λl=>
 Do (M .shl (I 1) l) λm=>
 Do (M .lss Y m) λn=>
 Q n H2) (
 Q P H2) (
 False)) (
 Do (M .geq Y O) λo=>
 aN o true (
 Do (aa 4 a) λp=>
 Do (W H2 1 false p) λq=>
 Do (M .leq Y q) λr=>
 Q r H2) (
 Q P H2) (
 False))
noncomputable def HC:aF:=A C ⟨110,[],[],none,[],[]⟩
def f111(Φ:ad)(a0:J)(H:AH)(Q:ab):Prop:=
 aw (aM H false 5 a0) λa H2=>
 Do (aa 1 a) λb=>
 Do (W H2 1 false b) λc=>
 Do (M .shl (.int .u32 1) c) λd=>
 Do (M .sub d (.int .u32 1)) λe=>
 Do (aa 0 a) λf=>
 Do (W H2 1 false f) λg=>
 Do (M .shl e g) λh=>
 Q h H2
noncomputable def HD:aF:=A C ⟨111,[],[],none,[],[]⟩
def vT(Φ:ad)(c:J)(Q:ab):a:=λg b=>
 Do (aa 0 c) λd=>
 Do (W b 1 false d) λe=>
 Do (M .shl (D g 0) e) λh=>
 Do (W b 5 true c) λi=>
Φ 111 [i] b λj f=>
(W f 1 false d=some e) ∧
(Do (M .and h j) λk=>
 Q k f)
def f112(Φ:ad)(a0 Y b:J)(H:AH)(Q:ab):Prop:=
 aw (aM H false 5 a0) λa H2=>
 Do (db .u32 b) λc=>
 Do (aa 3 a) λd=>
 Do (W H2 1 false d) λe=>
 Do (M .xor c e) λf=>
 Do (M .eql Y (.int .u8 102)) λg=>
 L g true (
Φ 155 [] H2 λh i=>
 Do (kv 3 1 false h b) λj=>
 G (vT Φ a Q) [j] i) (
 G (vT Φ a Q) [f] H2)
noncomputable def HE:aF:=A C ⟨112,[],[],none,[],[]⟩
def f113(Φ:ad)(a0:J)(H:AH)(Q:ab):Prop:=
 Do (M .geq a0 O) λa=>
 aN a true (
 Do (M .lss a0 (I 64)) λb=>
 Q b H) (
 Q P H) (
 False)
noncomputable def HF:aF:=A C ⟨113,[],[],none,[],[]⟩
def f114(Φ:ad)(a0:J)(H:AH)(Q:ab):Prop:=
 Do (M .geq a0 (.int .i32 97)) λa=>
 aN a true (
 Do (M .leq a0 (.int .i32 122)) λb=>
 Q b H) (
 Q P H) (
 False)
noncomputable def HG:aF:=A C ⟨114,[],[],none,[],[]⟩
def f115(Φ:ad)(a0 Y:J)(H:AH)(Q:ab):Prop:=
Φ 156 [a0,Y] H λa H2=>
 Do (M .geq a O) λb=>
 Q b H2
noncomputable def HH:aF:=A C ⟨115,[],[],none,[],[]⟩
def Qr(Φ:ad)(a0 Y d:J)(Q:ab):BT:=λs2 e=>
 Do (M .lss (D s2.1 0) d) λf=>
 L f true (
 Do (aL none 7 a0 (D s2.1 0)) λg=>
 Do (W s2.2 7 true g) λh=>
∃a b,Y = .fn a b∧Φ (fI a) (fJ a [h] b) s2.2 λi c=>
 L i true (
 Q (D s2.1 0) c) (
 Do (M .add (D s2.1 0) (I 1)) λj=>
 e ([j],c))) (
 Q (I (-1)) s2.2)
def f117(Φ:ad)(a0 Y:J)(H:AH)(Q:ab):Prop:=
 Do (aY false a0) λa=>
 av (Qr Φ a0 Y a Q) ([O],H)
noncomputable def HI:aF:=A C ⟨117,[],[[8]],none,[],[]⟩
def vU(Φ:ad)(a0 b:J)(Q:ab):a:=λc H2=>
 L (D c 0) true (
 Do (aC a0) λd=>
 Do (aa 3 d) λe=>
 Do (W H2 1 false e) λf=>
 Do (aD [O,O] [(0,1,f),(1,1,b)]) λg=>
 Do (aC a0) λh=>
 Do (aa 4 h) λi=>
 Do (au H2 2 i g) λj=>
 Q (.ar []) j) (
 Q (.ar []) H2)
def f118(Φ:ad)(a0 Y a:J)(H:AH)(Q:ab):Prop:=
 Do (cC .not Y) λb=>
 aN b true (
Φ 38 [a0] H λc d=>
 Do (cC .not c) λe=>
 G (vU Φ a0 a Q) [e] d) (
 G (vU Φ a0 a Q) [P] H) (
 False)
noncomputable def HJ:aF:=A C ⟨118,[],[],none,[],[]⟩
def pN(Φ:ad)(c d:J)(Q:ab):a:=λe b=>
 aN (D e 0) true (
 Do (aa 5 d) λf=>
 Do (W b 1 false f) λg=>
 aN g false (
 Do (aa 9 c) λh=>
 Do (W b 1 false h) λi=>
 Do (aY false i) λj=>
 Do (M .eql j O) λk=>
 Q k b) (
 Q aV b) (
 False)) (
 Q P b) (
 False)
def rj(Φ:ad)(c d:J)(Q:ab):a:=λe b=>
 aN (D e 0) true (
 Do (aa 4 d) λf=>
 Do (W b 1 false f) λg=>
 aN g false (
 Do (aa 8 c) λh=>
 Do (W b 1 false h) λi=>
 Do (aY false i) λj=>
 Do (M .eql j O) λk=>
 G (pN Φ c d Q) [k] b) (
 G (pN Φ c d Q) [aV] b) (
 False)) (
 G (pN Φ c d Q) [P] b) (
 False)
def pO(Φ:ad)(c d:J)(Q:ab):a:=λe b=>
 aN (D e 0) true (
 Do (aa 7 c) λf=>
 Do (W b 1 false f) λg=>
 Do (aY false g) λh=>
 Do (aa 3 d) λi=>
 Do (W b 1 false i) λj=>
 Do (M .eql h j) λk=>
 G (rj Φ c d Q) [k] b) (
 G (rj Φ c d Q) [P] b) (
 False)
def pP(Φ:ad)(c d:J)(Q:ab):a:=λe b=>
 aN (D e 0) true (
 Do (aa 2 d) λf=>
 Do (W b 1 false f) λg=>
 aN g false (
 Do (aa 5 c) λh=>
 Do (W b 2 true h) λi=>
Φ 160 [i] b λj k=>
 G (pO Φ c d Q) [j] k) (
 G (pO Φ c d Q) [aV] b) (
 False)) (
 G (pO Φ c d Q) [P] b) (
 False)
def pQ(Φ:ad)(c d:J)(Q:ab):a:=λe b=>
 aN (D e 0) true (
 Do (aa 1 d) λf=>
 Do (W b 1 false f) λg=>
 aN g false (
 Do (aa 3 c) λh=>
 Do (W b 1 false h) λi=>
 Do (M .eql i (.str [])) λj=>
 G (pP Φ c d Q) [j] b) (
 G (pP Φ c d Q) [aV] b) (
 False)) (
 G (pP Φ c d Q) [P] b) (
 False)
def f119(Φ:ad)(a0:J)(H:AH)(Q:ab):Prop:=
 aw (aM H false 10 a0) λa H2=>
 Do (aa 0 a) λe=>
 Do (W H2 1 false e) λf=>
Φ 159 [f] H2 λd g=>
 Do (bo 0 d) λh=>
 Do (bo 1 d) λi=>
 aw (some (aQ g true [P,P,P,O,P,P])) λb j=>
 Do (au j 6 b h) λc=>
 aN i true (
 Do (aa 0 b) λk=>
 Do (W c 1 false k) λl=>
 aN l false (
 Do (aa 2 a) λm=>
 Do (W c 1 false m) λn=>
 Do (M .eql n (.str [])) λo=>
 G (pQ Φ a b Q) [o] c) (
 G (pQ Φ a b Q) [aV] c) (
 False)) (
 G (pQ Φ a b Q) [P] c) (
 False)
noncomputable def HK:aF:=A C ⟨119,[3],[],none,[],[]⟩
def AM(Φ:ad)(Y:J)(Q:ab):a:=λc b=>
 aN (D c 0) false (
 Do (M .eql Y (I 4)) λd=>
 Q d b) (
 Q aV b) (
 False)
def AN(Φ:ad)(Y:J)(Q:ab):a:=λc b=>
 aN (D c 0) false (
 Do (M .eql Y (I 4)) λd=>
 Q d b) (
 Q aV b) (
 False)
def HL(Φ:ad)(Y:J)(Q:ab):a:=λc H2=>
 Do (M .eql Y O) λb=>
 Q b H2
def vV(Φ:ad)(a0 Y:J)(Q:ab):a:=λc b=>
 L (D c 0) true (
 Do (M .geq Y (I 1)) λd=>
 aN d true (
 Do (M .leq Y (I 4)) λe=>
 Q e b) (
 Q P b) (
 False)) (
 Do (M .eql a0 (I 7)) λf=>
 L f true (
 Do (M .geq Y (I 2)) λg=>
 aN g true (
 Do (M .leq Y (I 4)) λh=>
 Q h b) (
 Q P b) (
 False)) (
 G (HL Φ Y Q) [] b))
def AO(Φ:ad)(a0 Y:J)(Q:ab):a:=λe b=>
 L (D e 0) true (
 Do (M .eql Y (I 1)) λf=>
 aN f false (
 Do (M .eql Y (I 2)) λg=>
 G (AN Φ Y Q) [g] b) (
 G (AN Φ Y Q) [aV] b) (
 False)) (
 Do (M .eql a0 (I 16)) λc=>
 L c true (
 G (vV Φ a0 Y Q) [c] b) (
 Do (M .eql a0 (I 17)) λd=>
 L d true (
 G (vV Φ a0 Y Q) [d] b) (
 Do (M .eql a0 (I 18)) λh=>
 G (vV Φ a0 Y Q) [h] b)))
def AP(Φ:ad)(a0 Y:J)(Q:ab):a:=λd b=>
 L (D d 0) true (
 Do (M .eql Y (I 1)) λe=>
 aN e false (
 Do (M .eql Y (I 3)) λf=>
 G (AM Φ Y Q) [f] b) (
 G (AM Φ Y Q) [aV] b) (
 False)) (
 Do (M .eql a0 (I 5)) λc=>
 L c true (
 G (AO Φ a0 Y Q) [c] b) (
 Do (M .eql a0 (I 15)) λg=>
 G (AO Φ a0 Y Q) [g] b))
def f120(Φ:ad)(a0 Y:J)(H:AH)(Q:ab):Prop:=
 Do (M .eql a0 (I 4)) λa=>
 L a true (
 G (AP Φ a0 Y Q) [a] H) (
 Do (M .eql a0 (I 6)) λb=>
 G (AP Φ a0 Y Q) [b] H)
noncomputable def HM:aF:=A C ⟨120,[],[],none,[],[]⟩
def f121(Φ:ad)(a0 Y:J)(H:AH)(Q:ab):Prop:=
 Do (aC a0) λa=>
 Do (aa 1 a) λb=>
 Do (W H 1 false b) λc=>
Φ 115 [c,Y] H λd e=>
 Q d e
noncomputable def HN:aF:=A C ⟨121,[],[],none,[],[]⟩
def HO(Φ:ad)(b:ST)(c:LT)(Q:ab):a:=λf d=>
 Do (M .add (D b.1 0) (I 1)) λe=>
 c ([e],d)
def vW(Φ:ad)(a0 d e f:J)(g:ST)(h:LT)(Q:ab):BT:=λa i=>
 Do (M .lss (D a.1 0) f) λj=>
 L j true (
 Do (aL none 8 e (D a.1 0)) λk=>
 Do (W a.2 8 true k) λl=>
 aw (some (aQ a.2 true [O,u 0,.str [],O,O,.str [],aA,aA])) λb m=>
 Do (au m 8 b l) λc=>
 Do (W c 8 true b) λn=>
 Do (M .add d (I 1)) λo=>
Φ 163 [a0,n,o] c λr p=>
 Do (M .add (D a.1 0) (I 1)) λq=>
 i ([q],p)) (
 G (HO Φ g h Q) [] a.2)
def rk(Φ:ad)(a0 e f g:J)(Q:ab):BT:=λa h=>
 Do (M .lss (D a.1 0) g) λi=>
 L i true (
 Do (aL none 2 f (D a.1 0)) λj=>
 Do (W a.2 2 true j) λk=>
 aw (some (aQ a.2 true [.str [],aA])) λb l=>
 Do (au l 2 b k) λc=>
 Do (aa 1 b) λm=>
 Do (W c 1 false m) λd=>
 Do (aY false d) λn=>
 av (vW Φ a0 e d n a h Q) ([O],c)) (
 Q (.ar []) a.2)
def vX(Φ:ad)(a0 d e:J)(Q:ab):a:=λh b=>
 Do (aa 1 e) λf=>
 Do (W b 1 false f) λc=>
 Do (aY false c) λg=>
 av (rk Φ a0 d c g Q) ([O],b)
def f122(Φ:ad)(a0 Y l e:J)(H:AH)(Q:ab):Prop:=
 aw (aM H false 2 l) λa H2=>
Φ 38 [a0] H2 λm b=>
 L m true (
 Q (.ar []) b) (
 Do (aC a0) λn=>
 Do (aa 0 n) λf=>
 Do (W b 1 false f) λg=>
 Do (W b 2 true a) λh=>
Φ 161 [g,h] b λi o=>
 Do (bo 0 i) λp=>
 Do (bo 1 i) λj=>
 aw (some (aQ o true [O,O,P,aA,O,aA])) λk c=>
(W c 1 false f=some g) ∧
(W c 2 true a=some h) ∧
(Do (au c 6 k p) λq=>
 Do (M .eql j O) λr=>
Φ 118 [a0,r,j] q λz s=>
Φ 38 [a0] s λt d=>
 aN t false (
 Do (W d 6 true k) λu=>
Φ 162 [Y,u] d λv w=>
Φ 118 [a0,v,(I 8)] w λA x=>
 G (vX Φ a0 e a Q) [] x) (
Φ 118 [a0,aV,(I 8)] d λB y=>
 G (vX Φ a0 e a Q) [] y) (
 False)))
noncomputable def HP:aF:=A C ⟨122,[8,11,13],[[42],[49]],none,[],[]⟩
def vY(Φ:ad)(b:ST)(c:LT)(Q:ab):a:=λf d=>
 Do (M .add (D b.1 0) (I 1)) λe=>
 c ([e],d)
def rm(Φ:ad)(a0 Y d e:J)(Q:ab):BT:=λs2 b=>
 Do (M .lss (D s2.1 0) e) λf=>
 L f true (
 Do (aL none 8 Y (D s2.1 0)) λg=>
 Do (W s2.2 8 true g) λh=>
 aw (some (aQ s2.2 true [O,u 0,.str [],O,O,.str [],aA,aA])) λc i=>
 Do (au i 8 c h) λj=>
Φ 38 [a0] j λk a=>
 Do (cC .not k) λl=>
 L l true (
 Do (W a 8 true c) λm=>
 Do (M .add d (I 1)) λn=>
Φ 163 [a0,m,n] a λp o=>
 G (vY Φ s2 b Q) [] o) (
 G (vY Φ s2 b Q) [] a)) (
 Q (.ar []) s2.2)
def f123(Φ:ad)(a0 Y a:J)(H:AH)(Q:ab):Prop:=
 Do (aY false Y) λb=>
 av (rm Φ a0 Y a b Q) ([O],H)
noncomputable def HQ:aF:=A C ⟨123,[7],[[10]],none,[],[]⟩
def f124(Φ:ad)(a0:J)(H:AH)(Q:ab):Prop:=
 aw (aM H false 6 a0) λb H2=>
 Do (W H2 6 true b) λc=>
Φ 164 [c] H2 λd a=>
 Do (M .gtr d (I 64)) λe=>
 L e true (
 Q (I 5) a) (
 Do (W a 6 true b) λf=>
Φ 165 [f] a λg h=>
 Q g h)
noncomputable def HR:aF:=A C ⟨124,[],[],none,[],[]⟩
def vZ(Φ:ad)(c:J)(Q:ab):a:=λd b=>
 aN (D d 0) false (
 Do (aa 3 c) λe=>
 Do (W b 1 false e) λf=>
Φ 168 [f,(.fn 169 [])] b λg h=>
 Q g h) (
 Q aV b) (
 False)
def v7(Φ:ad)(b:J)(Q:ab):a:=λd c=>
 aN (D d 0) false (
 Do (aa 5 b) λe=>
 Do (W c 1 false e) λf=>
Φ 167 [f,(.fn 125 [])] c λg h=>
 G (vZ Φ b Q) [g] h) (
 G (vZ Φ b Q) [aV] c) (
 False)
def f125(Φ:ad)(a0:J)(H:AH)(Q:ab):Prop:=
 aw (aM H false 6 a0) λa H2=>
 Do (aa 2 a) λb=>
 Do (W H2 1 false b) λc=>
 aN c true (
 Do (W H2 6 true a) λd=>
Φ 166 [d] H2 λe f=>
 G (v7 Φ a Q) [e] f) (
 G (v7 Φ a Q) [P] H2) (
 False)
noncomputable def HS:aF:=A C ⟨125,[],[],none,[],[]⟩
def HT(Φ:ad)(h b:J)(Q:ab):a:=λq c=>
 Do (W c 6 true h) λi=>
Φ 170 [i] c λd j=>
 Do (bo 0 d) λk=>
 Do (bo 1 d) λl=>
 aw (some (aQ j true [O,O,aA,O])) λe m=>
 Do (au m 4 e k) λf=>
 Do (aa 0 e) λn=>
 Do (W f 2 true n) λo=>
 Do (au f 2 b o) λg=>
 Do (W g 2 true b) λp=>
 Q (.ar [p,l]) g
def v8(Φ:ad)(d b o:J)(Q:ab):a:=λp c=>
 L (D p 0) true (
 Do (aa 1 d) λq=>
 Do (W c 1 false q) λr=>
 Do (aa 1 d) λs=>
 Do (W c 1 false s) λt=>
 Do (aD [O,O] [(0,1,r),(1,1,t)]) λu=>
 Do (au c 2 b u) λj=>
 Do (W j 2 true b) λv=>
 Q (.ar [v,aV]) j) (
 Do (M .eql o (I 5)) λw=>
 L w true (
 Do (aa 5 d) λx=>
 Do (W c 1 false x) λy=>
 Do (aL none 6 y O) λz=>
 Do (W c 6 true z) λA=>
Φ 126 [A] c λk B=>
 Do (bo 0 k) λC=>
 Do (bo 1 k) λE=>
 aw (some (aQ B true [O,O])) λe F=>
 Do (au F 2 e C) λg=>
 Do (aa 0 e) λH=>
 Do (W g 1 false H) λK=>
 Do (aa 4 d) λN=>
 Do (W g 1 false N) λR=>
 Do (M .mul K R) λS=>
 Do (aa 0 e) λT=>
 Do (au g 1 T S) λf=>
 Do (W f 2 true e) λl=>
 aN E true (
 Do (aa 0 e) λm=>
 Do (W f 1 false m) λn=>
 Do (M .leq n (I 65536)) λU=>
 Do (au f 2 b l) λh=>
(((aV):J) = aV→W h 1 false m=some n) ∧
(Do (W h 2 true b) λV=>
 Q (.ar [V,U]) h)) (
 Do (au f 2 b l) λi=>
(((P):J) = aV→W i 1 false (.ar [])=some (.ar [])) ∧
(Do (W i 2 true b) λX=>
 Q (.ar [X,P]) i)) (
 False)) (
 G (HT Φ d b Q) [] c))
def f126(Φ:ad)(a0:J)(H:AH)(Q:ab):Prop:=
 aw (aM H false 6 a0) λb H2=>
 aw (some (aQ H2 true [O,O])) λd c=>
 Do (aa 0 b) λf=>
 Do (W c 1 false f) λa=>
 Do (M .eql a (I 1)) λe=>
 L e true (
 G (v8 Φ b d a Q) [e] c) (
 Do (M .eql a (I 2)) λg=>
 G (v8 Φ b d a Q) [g] c)
noncomputable def HU:aF:=A C ⟨126,[2,4,6],[],none,[],[]⟩
def f127(Φ:ad)(a0 Y:J)(H:AH)(Q:ab):Prop:=
Φ 84 [(I 1)] H λd H2=>
 aw (some (aQ H2 true [O,O,O,O,O,O,u 0,O,O,O,O,O,O])) λa e=>
 Do (au e 13 a d) λf=>
Φ 78 [a0] f λg h=>
 Do (aa 1 a) λi=>
 Do (au h 1 i g) λj=>
 Do (aa 6 a) λk=>
 Do (au j 1 k Y) λb=>
 Do (W b 13 true a) λl=>
Φ 86 [a0,l] b λo c=>
 Do (aa 1 a) λm=>
 Do (W c 1 false m) λn=>
 Q n c
noncomputable def HV:aF:=A C ⟨127,[5],[],none,[],[]⟩
def f128(Φ:ad)(a0 Y d e:J)(H:AH)(Q:ab):Prop:=
Φ 84 [(I 3)] H λf H2=>
 aw (some (aQ H2 true [O,O,O,O,O,O,u 0,O,O,O,O,O,O])) λa g=>
 Do (au g 13 a f) λh=>
Φ 78 [a0] h λi j=>
 Do (aa 1 a) λk=>
 Do (au j 1 k i) λl=>
 Do (aa 7 a) λm=>
 Do (au l 1 m Y) λn=>
 Do (aa 3 a) λo=>
 Do (au n 1 o d) λp=>
 Do (aa 4 a) λq=>
 Do (au p 1 q e) λb=>
 Do (W b 13 true a) λr=>
Φ 86 [a0,r] b λv c=>
 Do (aa 1 a) λs=>
 Do (W c 1 false s) λt=>
 Q t c
noncomputable def HW:aF:=A C ⟨128,[9],[],none,[],[]⟩
def f129(Φ:ad)(a0 Y:J)(H:AH)(Q:ab):Prop:=
 aw (aM H false 2 Y) λd H2=>
 Do (W H2 2 true d) λl=>
Φ 133 [a0,l] H2 λm n=>
 aw (some (aQ n true [O,O,O,P,O,O,O,O])) λa o=>
 Do (au o 8 a m) λe=>
 Do (W e 8 true a) λp=>
Φ 134 [a0,p] e λq c=>
 Do (W c 8 true a) λf=>
 Do (W c 2 true d) λr=>
Φ 85 [a0,(I 14),O,r] c λs g=>
(W g 8 true a=some f) ∧
(Φ 135 [a0,f,q,s] g λh b=>
 Do (aa 0 a) λt=>
 Do (aa 3 t) λu=>
 Do (W b 1 false u) λv=>
 L v true (
 Do (aa 0 a) λw=>
 Do (aa 4 w) λx=>
 Do (W b 1 false x) λy=>
 Do (db .u64 y) λz=>
 Do (aa 0 a) λA=>
 Do (aa 5 A) λi=>
 Do (W b 1 false i) λj=>
Φ 136 [a0,(I 8),h,z] b λB k=>
(W k 1 false i=some j) ∧
(Φ 137 [j] k λC D=>
Φ 136 [a0,(I 4),B,C] D λE F=>
 Q E F)) (
 Q h b))
noncomputable def HX:aF:=A C ⟨129,[5],[],none,[],[]⟩
def v_(Φ:ad)(a0 g l b:J)(Q:ab):a:=λR m=>
 Do (W m 8 true l) λw=>
Φ 134 [a0,w] m λx y=>
 Do (aa 3 b) λz=>
 Do (au y 1 z x) λc=>
 Do (aa 0 l) λA=>
 Do (aa 0 A) λB=>
 Do (aa 1 B) λh=>
 Do (W c 1 false h) λi=>
 Do (aa 4 g) λe=>
 Do (W c 1 false e) λf=>
 Do (aa 0 g) λn=>
 Do (W c 1 false n) λo=>
 Do (M .add (I 10) o) λC=>
 Do (aa 4 g) λp=>
 Do (W c 1 false p) λq=>
 Do (aa 5 g) λr=>
 Do (W c 2 true r) λs=>
Φ 78 [a0] c λD d=>
(W d 1 false h=some i) ∧
(W d 1 false e=some f) ∧
(W d 1 false n=some o) ∧
(W d 1 false p=some q) ∧
(W d 2 true r=some s) ∧
(Do (aa 1 b) λE=>
Φ 85 [a0,C,q,s] d λF j=>
(W j 1 false h=some i) ∧
(W j 1 false e=some f) ∧
(Do (au j 1 E D) λk=>
(W k 1 false h=some i) ∧
(W k 1 false e=some f) ∧
(Do (aa 8 b) λG=>
 Do (au k 1 G i) λt=>
(W t 1 false e=some f) ∧
(Do (aa 9 b) λH=>
 Do (au t 1 H f) λK=>
 Do (aa 11 b) λL=>
 Do (au K 1 L F) λu=>
 Do (W u 13 true b) λN=>
Φ 86 [a0,N] u λS v=>
 Do (aa 1 b) λO=>
 Do (W v 1 false O) λP=>
 Q P v))))
def wb(Φ:ad)(a0 c e d:J)(f:List J)(Q:ab):a:=λn b=>
 Do (aa 0 c) λg=>
 Do (W b 1 false g) λh=>
 Do (M .eql h (I 8)) λi=>
 L i true (
 Do (aL none 1 (D f 0) (I 1)) λj=>
 Do (W b 1 false j) λk=>
 Do (aa 5 d) λl=>
 Do (au b 1 l k) λm=>
 G (v_ Φ a0 c e d Q) [] m) (
 G (v_ Φ a0 c e d Q) [] b)
def AQ(Φ:ad)(a0 b f:J)(Q:ab):a:=λe g=>
 Do (aa 0 b) λi=>
 Do (W g 1 false i) λj=>
 Do (M .sub j (I 5)) λk=>
 Do (M .add k (I 6)) λl=>
Φ 84 [l] g λm n=>
 aw (some (aQ n true [O,O,O,O,O,O,u 0,O,O,O,O,O,O])) λc o=>
 Do (au o 13 c m) λd=>
 Do (aa 0 b) λp=>
 Do (W d 1 false p) λq=>
 Do (M .neq q (I 5)) λr=>
 L r true (
 Do (aa 0 b) λs=>
 Do (W d 1 false s) λt=>
 Do (M .sub t (I 6)) λv=>
 Do (M .add v (I 8)) λw=>
 Do (aa 0 c) λx=>
 Do (au d 1 x w) λh=>
 Do (aL none 1 (D e 0) O) λy=>
 Do (W h 1 false y) λz=>
 Do (aa 4 c) λA=>
 Do (au h 1 A z) λB=>
 G (wb Φ a0 b f c e Q) [] B) (
 G (wb Φ a0 b f c e Q) [] d)
def wc(Φ:ad)(a0 d e f g:J)(Q:ab):BT:=λa h=>
 Do (M .lss (D a.1 1) g) λi=>
 L i true (
 Do (aL none 8 f (D a.1 1)) λj=>
 Do (W a.2 8 true j) λk=>
 aw (some (aQ a.2 true [O,u 0,.str [],O,O,.str [],aA,aA])) λb l=>
 Do (au l 8 b k) λc=>
 Do (W c 8 true b) λm=>
Φ 77 [a0,m] c λn o=>
 aw (cb o false 1 1 [O] [(0,1,n)]) λp q=>
 aw (bR q true 1 8 (D a.1 0) p) λr s=>
 Do (M .add (D a.1 1) (I 1)) λt=>
 h ([r,t],s)) (
 G (AQ Φ a0 d e Q) [(D a.1 0)] a.2)
def f130(Φ:ad)(a0 Y:J)(H:AH)(Q:ab):Prop:=
 aw (aM H false 8 Y) λa H2=>
 Do (aa 5 a) λe=>
 Do (W H2 2 true e) λf=>
Φ 133 [a0,f] H2 λg h=>
 aw (some (aQ h true [O,O,O,P,O,O,O,O])) λb i=>
 Do (au i 8 b g) λc=>
 Do (aa 7 a) λj=>
 Do (W c 1 false j) λd=>
 Do (aY false d) λk=>
 av (wc Φ a0 a b d k Q) ([aA,O],c)
noncomputable def HY:aF:=A C ⟨130,[5,8,9,26],[[6,17]],none,[],[]⟩
def AR(Φ:ad)(a0 Y d:J)(Q:ab):BT:=λs2 e=>
 Do (M .lss (D s2.1 0) d) λf=>
 L f true (
 Do (aL none 2 a0 (D s2.1 0)) λg=>
 Do (W s2.2 2 true g) λh=>
∃a b,Y = .fn a b∧Φ (fI a) (fJ a [h] b) s2.2 λi c=>
 L i true (
 Q (D s2.1 0) c) (
 Do (M .add (D s2.1 0) (I 1)) λj=>
 e ([j],c))) (
 Q (I (-1)) s2.2)
def f131(Φ:ad)(a0 Y:J)(H:AH)(Q:ab):Prop:=
 Do (aY false a0) λa=>
 av (AR Φ a0 Y a Q) ([O],H)
noncomputable def HZ:aF:=A C ⟨131,[],[[8]],none,[],[]⟩
def f132(Φ:ad)(a0 Y:J)(H:AH)(Q:ab):Prop:=
 aw (aM H false 2 a0) λa H2=>
 Do (aa 0 a) λb=>
 Do (W H2 1 false b) λc=>
 Do (W H2 1 false Y) λd=>
 Do (M .eql c d) λe=>
 Q e H2
noncomputable def H3:aF:=A C ⟨132,[],[],none,[],[]⟩
def we(Φ:ad)(b:ST)(c:LT)(Q:ab):a:=λf d=>
 Do (M .add (D b.1 0) (I 1)) λe=>
 c ([e],d)
def wg(Φ:ad)(b c:J)(h:ST)(i:LT)(Q:ab):a:=λr j=>
 Do (aa 0 b) λk=>
 Do (aa 0 k) λl=>
 Do (aa 1 l) λm=>
 Do (au j 1 m c) λd=>
 Do (aa 7 b) λe=>
 Do (W d 1 false e) λf=>
Φ 175 [c,(I 16)] d λn g=>
(W g 1 false e=some f) ∧
(Do (eL false [f,n]) λo=>
 Do (aa 7 b) λp=>
 Do (au g 1 p o) λq=>
 G (we Φ h i Q) [] q)
def H4(Φ:ad)(d b:J)(Q:ab):a:=λs c=>
 Do (aa 7 b) λe=>
 Do (W c 1 false e) λf=>
 Do (aa 0 b) λj=>
 Do (aa 0 j) λk=>
 Do (aa 0 k) λl=>
 Do (W c 1 false l) λm=>
Φ 175 [m,(I 16)] c λn g=>
(W g 1 false e=some f) ∧
(Do (eL false [f,n]) λo=>
 Do (aa 7 b) λp=>
 Do (au g 1 p o) λh=>
 Do (W h 8 true b) λq=>
 Do (au h 8 d q) λi=>
 Do (W i 8 true d) λr=>
 Q r i)
def nI(Φ:ad)(a0 K b a N R:J)(Q:ab):BT:=λc j=>
 Do (M .lss (D c.1 0) R) λS=>
 L S true (
 Do (aL none 2 N (D c.1 0)) λT=>
 Do (W c.2 2 true T) λU=>
 aw (some (aQ c.2 true [.str [],aA])) λe V=>
 Do (au V 2 e U) λd=>
 Do (aa 1 e) λX=>
 Do (W d 1 false X) λY=>
 Do (aY false Y) λZ=>
 Do (M .eql Z O) λac=>
 L ac true (
 Do (aa 3 b) λae=>
 Do (W d 1 false ae) λaf=>
Φ 172 [af,(.fn 173 [e])] d λp q=>
 Do (W q 6 true b) λag=>
Φ 174 [ag] q λr s=>
 Do (bo 0 r) λah=>
 Do (bo 1 r) λbb=>
 Do (aL none 6 ah p) λai=>
 Do (W s 6 true ai) λaj=>
 aw (some (aQ s true [O,O,O,P,O,O])) λf ak=>
 Do (au ak 6 f aj) λk=>
 Do (aa 0 f) λal=>
 Do (aa 0 al) λam=>
 Do (W k 1 false am) λan=>
 Do (aa 0 a) λao=>
 Do (aa 0 ao) λap=>
 Do (aa 0 ap) λaq=>
 Do (W k 1 false aq) λar=>
 Do (M .add an ar) λav=>
 Do (aa 0 f) λax=>
 Do (aa 0 ax) λay=>
 Do (au k 1 ay av) λg=>
 Do (W g 6 true f) λaz=>
 Do (aa 3 b) λt=>
 Do (W g 1 false t) λv=>
 Do (aL none 9 v p) λaB=>
 Do (aa 1 aB) λw=>
 Do (W g 6 true w) λx=>
 Do (aa 0 a) λaC=>
 Do (au g 6 aC az) λl=>
(W l 1 false t=some v) ∧
(W l 6 true w=some x) ∧
(Do (au l 6 b x) λaD=>
 G (we Φ c j Q) [] aD)) (
 Do (aa 1 e) λaE=>
 Do (W d 1 false aE) λaF=>
 Do (aL none 8 aF O) λaG=>
 Do (W d 8 true aG) λaH=>
Φ 77 [a0,aH] d λy aI=>
Φ 84 [(I 17)] aI λaJ aK=>
 aw (some (aQ aK true [O,O,O,O,O,O,u 0,O,O,O,O,O,O])) λh aM=>
 Do (au aM 13 h aJ) λz=>
 Do (aa 4 b) λA=>
 Do (W z 1 false A) λB=>
 Do (db .u64 B) λaN=>
 Do (aa 3 h) λaO=>
 Do (au z 1 aO y) λC=>
(W C 1 false A=some B) ∧
(Do (aa 6 h) λaP=>
 Do (au C 1 aP aN) λE=>
 Do (W E 13 true h) λaR=>
Φ 86 [a0,aR] E λbc m=>
 Do (aa 5 b) λaS=>
 Do (W m 1 false aS) λaT=>
 Do (aL none 6 aT O) λaU=>
 Do (W m 6 true aU) λaV=>
 Do (au m 6 b aV) λF=>
 Do (W F 6 true b) λaW=>
Φ 39 [aW] F λn aX=>
 Do (bo 0 n) λo=>
 Do (bo 1 n) λbd=>
 Do (bo 2 n) λbe=>
 Do (db .u64 o) λaZ=>
Φ 136 [a0,(I 3),y,aZ] aX λH i=>
 Do (aa 6 a) λa1=>
 Do (W i 1 false a1) λa2=>
 Do (M .eql a2 (I (-1))) λa3=>
 L a3 true (
 Do (aa 6 a) λa4=>
 Do (au i 1 a4 H) λa5=>
 G (wg Φ a o c j Q) [] a5) (
 Do (aa 6 a) λa6=>
 Do (W i 1 false a6) λa7=>
Φ 128 [a0,(I 1),a7,H] i λa8 a9=>
 Do (aa 6 a) λa_=>
 Do (au a9 1 a_ a8) λba=>
 G (wg Φ a o c j Q) [] ba)))) (
 G (H4 Φ K a Q) [] c.2)
def f133(Φ:ad)(a0 Y:J)(H:AH)(Q:ab):Prop:=
 aw (aM H false 2 Y) λc H2=>
 aw (some (aQ H2 true [O,O,O,P,O,O,O,O])) λj d=>
 Do (aC a0) λk=>
 Do (aa 0 k) λl=>
 Do (W d 1 false l) λm=>
Φ 117 [m,(.fn 171 [c])] d λe a=>
 Do (aC a0) λn=>
 Do (aa 0 n) λo=>
 Do (W a 1 false o) λp=>
 Do (aL none 7 p e) λq=>
 Do (aa 1 q) λr=>
 Do (W a 6 true r) λs=>
 aw (some (aQ a true [O,O,P,aA,O,aA])) λf t=>
 Do (au t 6 f s) λb=>
 Do (aC a0) λu=>
 Do (aa 1 u) λv=>
 Do (W b 1 false v) λw=>
 Do (aL none 3 w e) λx=>
 Do (aa 1 x) λy=>
 Do (W b 2 true y) λz=>
 Do (aD [O,O,O,P,O,O] [(0,2,z)]) λA=>
 Do (aD [O,O,O,P,O,O,O,O] [(0,6,A),(6,1,(I (-1))),(7,1,(I 16))]) λB=>
 aw (some (aQ b true [O,O,O,P,O,O,O,O])) λg C=>
 Do (au C 8 g B) λh=>
 Do (aa 1 c) λD=>
 Do (W h 1 false D) λi=>
 Do (aY false i) λE=>
 av (nI Φ a0 j f g i E Q) ([O],h)
noncomputable def H5:aF:=A C ⟨133,[4,6,7,9,13,15],[[46]],none,[],[]⟩
def f134(Φ:ad)(a0 Y:J)(H:AH)(Q:ab):Prop:=
 aw (aM H false 8 Y) λa H2=>
 Do (aa 6 a) λb=>
 Do (W H2 1 false b) λc=>
 Do (M .eql c (I (-1))) λd=>
 L d true (
 Do (aa 0 a) λe=>
 Do (aa 0 e) λf=>
 Do (aa 0 f) λg=>
 Do (W H2 1 false g) λh=>
 Do (db .u64 h) λi=>
Φ 127 [a0,i] H2 λj k=>
 Q j k) (
 Do (aa 6 a) λl=>
 Do (W H2 1 false l) λm=>
 Do (aa 0 a) λn=>
 Do (aa 0 n) λo=>
 Do (aa 0 o) λp=>
 Do (W H2 1 false p) λq=>
 Do (db .u64 q) λr=>
Φ 136 [a0,(I 1),m,r] H2 λs t=>
 Q s t)
noncomputable def H6:aF:=A C ⟨134,[],[],none,[],[]⟩
def wi(Φ:ad)(b:ST)(c:LT)(Q:ab):a:=λd e=>
 Do (M .add (D b.1 1) (I 1)) λf=>
 c ([(D d 0),f],e)
def wj(Φ:ad)(a0 r s t v:J)(Q:ab):BT:=λa m=>
 Do (M .lss (D a.1 1) v) λw=>
 L w true (
 Do (aL none 2 t (D a.1 1)) λx=>
 Do (W a.2 2 true x) λy=>
 aw (some (aQ a.2 true [O,O])) λe z=>
 Do (au z 2 e y) λA=>
Φ 84 [(I 4)] A λB C=>
 aw (some (aQ C true [O,O,O,O,O,O,u 0,O,O,O,O,O,O])) λb E=>
 Do (au E 13 b B) λh=>
 Do (aa 0 e) λf=>
 Do (W h 1 false f) λg=>
 Do (db .u64 g) λF=>
 Do (aa 1 e) λc=>
 Do (W h 1 false c) λd=>
Φ 78 [a0] h λH i=>
(W i 1 false f=some g) ∧
(W i 1 false c=some d) ∧
(Do (aa 1 b) λK=>
 Do (au i 1 K H) λj=>
(W j 1 false f=some g) ∧
(W j 1 false c=some d) ∧
(Do (aa 3 b) λN=>
 Do (au j 1 N r) λk=>
(W k 1 false f=some g) ∧
(W k 1 false c=some d) ∧
(Do (aa 6 b) λP=>
 Do (au k 1 P F) λn=>
(W n 1 false c=some d) ∧
(Do (aa 8 b) λR=>
 Do (au n 1 R d) λS=>
 Do (aa 11 b) λT=>
 Do (au S 1 T s) λo=>
 Do (W o 13 true b) λU=>
Φ 86 [a0,U] o λai l=>
 Do (aa 1 b) λV=>
 Do (W l 1 false V) λX=>
 Do (aa 0 e) λY=>
 Do (W l 1 false Y) λZ=>
 Do (M .mul (I 8) Z) λac=>
 Do (db .u64 ac) λae=>
Φ 136 [a0,(I 7),X,ae] l λp q=>
 Do (M .eql (D a.1 0) (I (-1))) λaf=>
 L af true (
 G (wi Φ a m Q) [p] q) (
Φ 128 [a0,(I 5),(D a.1 0),p] q λag ah=>
 G (wi Φ a m Q) [ag] ah)))))) (
 Q (D a.1 0) a.2)
def f135(Φ:ad)(a0 Y b c:J)(H:AH)(Q:ab):Prop:=
 aw (aM H false 8 Y) λd H2=>
 Do (W H2 8 true d) λe=>
Φ 176 [e] H2 λa f=>
 Do (aY false a) λg=>
 av (wj Φ a0 b c a g Q) ([(I (-1)),O],f)
noncomputable def H7:aF:=A C ⟨135,[11,12],[[9,17]],none,[],[]⟩
def AU(Φ:ad)(a0 Y b c:J)(Q:ab):a:=λh H2=>
Φ 127 [a0,c] H2 λd e=>
Φ 128 [a0,Y,b,d] e λf g=>
 Q f g
def nJ(Φ:ad)(a0 Y b d:J)(Q:ab):a:=λe c=>
 L (D e 0) true (
 Q b c) (
 G (AU Φ a0 Y b d Q) [] c)
def f136(Φ:ad)(a0 Y b a:J)(H:AH)(Q:ab):Prop:=
 Do (M .eql a (u 0)) λc=>
 aN c true (
 Do (M .eql Y (I 1)) λd=>
 aN d false (
 Do (M .eql Y (I 7)) λe=>
 aN e false (
 Do (M .eql Y (I 8)) λf=>
 aN f false (
 Do (M .eql Y (I 5)) λg=>
 G (nJ Φ a0 Y b a Q) [g] H) (
 G (nJ Φ a0 Y b a Q) [aV] H) (
 False)) (
 G (nJ Φ a0 Y b a Q) [aV] H) (
 False)) (
 G (nJ Φ a0 Y b a Q) [aV] H) (
 False)) (
 G (nJ Φ a0 Y b a Q) [P] H) (
 False)
noncomputable def H8:aF:=A C ⟨136,[],[],none,[],[]⟩
def f137(Φ:ad)(a0:J)(H:AH)(Q:ab):Prop:=
 Do (M .geq a0 (I 64)) λa=>
 L a true (
 Q (u 18446744073709551615) H) (
 Do (M .shl (u 1) a0) λb=>
 Do (M .sub b (u 1)) λc=>
 Q c H)
noncomputable def H9:aF:=A C ⟨137,[],[],none,[],[]⟩
def wk(Φ:ad)(a0 m n o p q:J)(Q:ab):BT:=λb r=>
 Do (M .lss (D b.1 0) q) λs=>
 L s true (
 Do (aL none 2 p (D b.1 0)) λt=>
 Do (W b.2 2 true t) λv=>
 aw (some (aQ b.2 true [O,O])) λc w=>
 Do (au w 2 c v) λx=>
Φ 84 [(I 5)] x λy z=>
 aw (some (aQ z true [O,O,O,O,O,O,u 0,O,O,O,O,O,O])) λa A=>
 Do (au A 13 a y) λd=>
 Do (aa 0 c) λh=>
 Do (W d 1 false h) λi=>
 Do (db .u64 i) λB=>
 Do (aa 1 c) λe=>
 Do (W d 1 false e) λf=>
 Do (aa 3 a) λC=>
 Do (au d 1 C m) λg=>
(W g 1 false h=some i) ∧
(W g 1 false e=some f) ∧
(Do (aa 6 a) λE=>
 Do (au g 1 E B) λj=>
(W j 1 false e=some f) ∧
(Do (aa 8 a) λF=>
 Do (au j 1 F f) λG=>
 Do (aa 11 a) λH=>
 Do (au G 1 H o) λk=>
 Do (aa 0 c) λK=>
 Do (W k 1 false K) λN=>
 Do (M .mul (I 8) N) λP=>
 Do (db .u64 P) λR=>
Φ 136 [a0,(I 8),n,R] k λS T=>
 Do (aa 4 a) λU=>
 Do (au T 1 U S) λl=>
 Do (W l 13 true a) λV=>
Φ 86 [a0,V] l λZ X=>
 Do (M .add (D b.1 0) (I 1)) λY=>
 r ([Y],X)))) (
 Q (.ar []) b.2)
def f138(Φ:ad)(a0 Y b c d:J)(H:AH)(Q:ab):Prop:=
 aw (aM H false 8 Y) λe H2=>
 Do (W H2 8 true e) λf=>
Φ 176 [f] H2 λa g=>
 Do (aY false a) λh=>
 av (wk Φ a0 b c d a h Q) ([O],g)
noncomputable def H_:aF:=A C ⟨138,[11,12],[[16]],none,[],[]⟩
def f139(Φ:ad)(a0:J)(H:AH)(Q:ab):Prop:=
 Do (aC a0) λb=>
 Do (aa 4 b) λc=>
 Do (W H 1 false c) λd=>
 Do (M .add d (I 1)) λe=>
 Do (aC a0) λf=>
 Do (aa 4 f) λg=>
 Do (au H 1 g e) λa=>
 Do (aC a0) λh=>
 Do (aa 4 h) λi=>
 Do (W a 1 false i) λj=>
 Q j a
noncomputable def Ia:aF:=A C ⟨139,[],[],none,[],[]⟩
def wm(Φ:ad)(a0 Y b:J)(Q:ab):a:=λh d=>
 Do (aa 10 b) λe=>
 Do (au d 1 e Y) λc=>
 Do (W c 13 true b) λf=>
Φ 86 [a0,f] c λi g=>
 Q (.ar []) g
def f140(Φ:ad)(a0 Y b:J)(H:AH)(Q:ab):Prop:=
Φ 84 [(I 15)] H λd H2=>
 aw (some (aQ H2 true [O,O,O,O,O,O,u 0,O,O,O,O,O,O])) λa e=>
 Do (au e 13 a d) λc=>
 Do (M .neq b (I (-1))) λf=>
 L f true (
 Do (aa 0 a) λg=>
 Do (au c 1 g (I 16)) λh=>
 Do (aa 3 a) λi=>
 Do (au h 1 i b) λj=>
 G (wm Φ a0 Y a Q) [] j) (
 G (wm Φ a0 Y a Q) [] c)
noncomputable def Ib:aF:=A C ⟨140,[6],[],none,[],[]⟩
def f141(Φ:ad)(a0 Y:J)(H:AH)(Q:ab):Prop:=
Φ 84 [(I 14)] H λc H2=>
 aw (some (aQ H2 true [O,O,O,O,O,O,u 0,O,O,O,O,O,O])) λa d=>
 Do (au d 13 a c) λe=>
 Do (aa 10 a) λf=>
 Do (au e 1 f Y) λb=>
 Do (W b 13 true a) λg=>
Φ 86 [a0,g] b λi h=>
 Q (.ar []) h
noncomputable def Ic:aF:=A C ⟨141,[4],[],none,[],[]⟩
def Ie(Φ:ad)(a0 b d:J)(Q:ab):a:=λc e=>
 Do (M .sub b (D c 0)) λf=>
Φ 177 [a0,f,b,(D c 0),d] e λh g=>
 Q (.ar []) g
def AW(Φ:ad)(a0 b c:J)(Q:ab):BT:=λa d=>
 Do (M .neq (D a.1 0) (D a.1 1)) λe=>
 L e true (
 Do (M .gtr (D a.1 0) (D a.1 1)) λf=>
 L f true (
 Do (M .sub b (D a.1 0)) λg=>
Φ 177 [a0,g,b,(D a.1 1),c] a.2 λo h=>
 Do (M .sub (D a.1 0) (D a.1 1)) λi=>
 d ([i,(D a.1 1)],h)) (
 Do (M .sub b (D a.1 0)) λj=>
 Do (M .add b (D a.1 1)) λk=>
 Do (M .sub k (D a.1 0)) λl=>
Φ 177 [a0,j,l,(D a.1 0),c] a.2 λp m=>
 Do (M .sub (D a.1 1) (D a.1 0)) λn=>
 d ([(D a.1 0),n],m))) (
 G (Ie Φ a0 b c Q) [(D a.1 0)] a.2)
def f142(Φ:ad)(a0 Y a b c:J)(H:AH)(Q:ab):Prop:=
 Do (M .sub a Y) λd=>
 Do (M .sub b a) λe=>
 av (AW Φ a0 a c Q) ([d,e],H)
noncomputable def Ig:aF:=A C ⟨142,[],[[10,11]],none,[],[]⟩
def wo(Φ:ad)(a0 Y d:J)(Q:ab):BT:=λs2 e=>
 Do (M .lss (D s2.1 0) d) λf=>
 L f true (
 Do (aL none 1 a0 (D s2.1 0)) λg=>
 Do (W s2.2 1 false g) λh=>
∃a b,Y = .fn a b∧Φ (fI a) (fJ a [h] b) s2.2 λi c=>
 L i true (
 Q (D s2.1 0) c) (
 Do (M .add (D s2.1 0) (I 1)) λj=>
 e ([j],c))) (
 Q (I (-1)) s2.2)
def f153(Φ:ad)(a0 Y:J)(H:AH)(Q:ab):Prop:=
 Do (aY false a0) λa=>
 av (wo Φ a0 Y a Q) ([O],H)
noncomputable def Ih:aF:=A C ⟨153,[],[[8]],none,[],[]⟩
def f154(Φ:ad)(a0:J)(H:AH)(Q:ab):Prop:=
 aw (some (aQ H true [.int .u32 0,.str []])) λa H2=>
 Do (M .eql a0 (I 13)) λk=>
 L k true (
 Do (aD [.int .u32 0,.str []] [(0,1,(.int .u32 335544320)),(1,1,(.str [98]))]) λl=>
 Do (au H2 2 a l) λb=>
 Do (W b 2 true a) λm=>
 Q m b) (
 Do (M .eql a0 (I 14)) λn=>
 L n true (
 Do (aD [.int .u32 0,.str []] [(0,1,(.int .u32 1409286144)),(1,1,(.str [120,99]))]) λo=>
 Do (au H2 2 a o) λc=>
 Do (W c 2 true a) λp=>
 Q p c) (
 Do (M .eql a0 (I 15)) λq=>
 L q true (
 Do (aD [.int .u32 0,.str []] [(0,1,(.int .u32 3019898880)),(1,1,(.str [100,120]))]) λr=>
 Do (au H2 2 a r) λd=>
 Do (W d 2 true a) λs=>
 Q s d) (
 Do (M .eql a0 (I 16)) λt=>
 L t true (
 Do (aD [.int .u32 0,.str []] [(0,1,(.int .u32 3036676096)),(1,1,(.str [100,120]))]) λu=>
 Do (au H2 2 a u) λe=>
 Do (W e 2 true a) λv=>
 Q v e) (
 Do (M .eql a0 (I 29)) λw=>
 L w true (
 Do (aD [.int .u32 0,.str []] [(0,1,(.int .u32 3573756095)),(1,1,(.str [102]))]) λx=>
 Do (au H2 2 a x) λf=>
 Do (W f 2 true a) λy=>
 Q y f) (
 Do (M .eql a0 (I 30)) λz=>
 L z true (
 Do (aD [.int .u32 0,.str []] [(0,1,(.int .u32 3573759839)),(1,1,(.str [122]))]) λA=>
 Do (au H2 2 a A) λg=>
 Do (W g 2 true a) λB=>
 Q B g) (
 Do (M .eql a0 (I 31)) λC=>
 L C true (
 Do (aD [.int .u32 0,.str []] [(0,1,(.int .u32 3556769793)),(1,1,(.str [105]))]) λD=>
 Do (au H2 2 a D) λh=>
 Do (W h 2 true a) λE=>
 Q E h) (
 Do (M .eql a0 (I 32)) λF=>
 L F true (
 Do (aD [.int .u32 0,.str []] [(0,1,(.int .u32 3558866944)),(1,1,(.str [105]))]) λG=>
 Do (au H2 2 a G) λi=>
 Do (W i 2 true a) λK=>
 Q K i) (
Φ 183 [a0] H2 λN O=>
 Do (au O 2 a N) λj=>
 Do (W j 2 true a) λP=>
 Q P j))))))))
noncomputable def Ii:aF:=A C ⟨154,[2],[],none,[],[]⟩
def f155(Φ:ad)(H:AH)(Q:ab):Prop:=
 aw (some (aQ H true [.int .u32 0,.int .u32 0,.int .u32 0])) λa H2=>
 Do (aD [.int .u32 0,.int .u32 0,.int .u32 0] [(0,1,(.int .u32 11)),(1,1,(.int .u32 9)),(2,1,(.int .u32 10))]) λc=>
 Do (au H2 3 a c) λb=>
 Do (W b 3 true a) λd=>
 Q d b
noncomputable def Ij:aF:=A C ⟨155,[0],[],none,[],[]⟩
def wq(Φ:ad)(a0 Y a:J)(Q:ab):BT:=λs2 b=>
 Do (M .lss (D s2.1 0) a) λc=>
 L c true (
 Do (aL none 1 a0 (D s2.1 0)) λd=>
 Do (W s2.2 1 false d) λe=>
 Do (M .eql Y e) λf=>
 L f true (
 Q (D s2.1 0) s2.2) (
 Do (M .add (D s2.1 0) (I 1)) λg=>
 b ([g],s2.2))) (
 Q (I (-1)) s2.2)
def f156(Φ:ad)(a0 Y:J)(H:AH)(Q:ab):Prop:=
 Do (aY false a0) λa=>
 av (wq Φ a0 Y a Q) ([O],H)
noncomputable def Ik:aF:=A C ⟨156,[],[[8]],none,[],[]⟩
def Il(Φ:ad)(b:J)(Q:ab):a:=λg d=>
 Do (aD [P,P,P,O,P,P] []) λe=>
 Do (au d 6 b e) λc=>
 Do (W c 6 true b) λf=>
 Q (.ar [f,P]) c
def AX(Φ:ad)(a0 b:J)(Q:ab):a:=λk c=>
 L (D k 0) true (
 Do (aD [P,P,P,O,P,P] [(2,1,aV),(3,1,(I 1))]) λl=>
 Do (au c 6 b l) λd=>
 Do (W d 6 true b) λm=>
 Q (.ar [m,aV]) d) (
 Do (M .eql a0 (I 5)) λn=>
 L n true (
 Do (aD [P,P,P,O,P,P] [(0,1,aV),(1,1,aV),(2,1,aV)]) λo=>
 Do (au c 6 b o) λe=>
 Do (W e 6 true b) λp=>
 Q (.ar [p,aV]) e) (
 Do (M .eql a0 (I 6)) λq=>
 L q true (
 Do (aD [P,P,P,O,P,P] [(2,1,aV),(3,1,(I 2))]) λr=>
 Do (au c 6 b r) λf=>
 Do (W f 6 true b) λs=>
 Q (.ar [s,aV]) f) (
 Do (M .eql a0 (I 7)) λt=>
 L t true (
 Do (aD [P,P,P,O,P,P] []) λu=>
 Do (au c 6 b u) λg=>
 Do (W g 6 true b) λv=>
 Q (.ar [v,aV]) g) (
 Do (M .eql a0 (I 8)) λw=>
 L w true (
 Do (aD [P,P,P,O,P,P] [(3,1,(I 1)),(4,1,aV),(5,1,aV)]) λx=>
 Do (au c 6 b x) λh=>
 Do (W h 6 true b) λy=>
 Q (.ar [y,aV]) h) (
 Do (M .eql a0 (I 9)) λz=>
 L z true (
 Do (aD [P,P,P,O,P,P] [(3,1,(I 1)),(4,1,aV)]) λA=>
 Do (au c 6 b A) λi=>
 Do (W i 6 true b) λB=>
 Q (.ar [B,aV]) i) (
 Do (M .eql a0 (I 10)) λC=>
 L C true (
 Do (aD [P,P,P,O,P,P] [(3,1,(I 1))]) λE=>
 Do (au c 6 b E) λj=>
 Do (W j 6 true b) λF=>
 Q (.ar [F,aV]) j) (
 G (Il Φ b Q) [] c)))))))
def AY(Φ:ad)(a0 b:J)(Q:ab):a:=λf c=>
 L (D f 0) true (
 Do (aD [P,P,P,O,P,P] [(0,1,aV),(3,1,(I 1))]) λg=>
 Do (au c 6 b g) λd=>
 Do (W d 6 true b) λh=>
 Q (.ar [h,aV]) d) (
 Do (M .eql a0 (I 3)) λe=>
 L e true (
 G (AX Φ a0 b Q) [e] c) (
 Do (M .eql a0 (I 4)) λi=>
 G (AX Φ a0 b Q) [i] c))
def f159(Φ:ad)(a0:J)(H:AH)(Q:ab):Prop:=
 aw (some (aQ H true [P,P,P,O,P,P])) λa H2=>
 Do (M .eql a0 (I 1)) λb=>
 L b true (
 G (AY Φ a0 a Q) [b] H2) (
 Do (M .eql a0 (I 2)) λc=>
 G (AY Φ a0 a Q) [c] H2)
noncomputable def Im:aF:=A C ⟨159,[2],[],none,[],[]⟩
def f160(Φ:ad)(a0:J)(H:AH)(Q:ab):Prop:=
 aw (aM H false 2 a0) λa H2=>
 Do (aa 0 a) λb=>
 Do (W H2 1 false b) λc=>
 Do (M .eql c (.str [])) λd=>
 aN d true (
 Do (aa 1 a) λe=>
 Do (W H2 1 false e) λf=>
 Do (aY false f) λg=>
 Do (M .eql g O) λh=>
 Q h H2) (
 Q P H2) (
 False)
noncomputable def Io:aF:=A C ⟨160,[],[],none,[],[]⟩
def Ip(Φ:ad)(b e:J)(Q:ab):a:=λh c=>
 Do (W c 6 true e) λf=>
 Do (au c 6 b f) λd=>
 Do (W d 6 true b) λg=>
 Q (.ar [g,O]) d
def wt(Φ:ad)(b c k l:J)(Q:ab):BT:=λa m=>
 Do (M .lss (D a.1 0) l) λn=>
 L n true (
 Do (aL none 2 k (D a.1 0)) λo=>
 Do (W a.2 2 true o) λp=>
 aw (some (aQ a.2 true [.str [],aA])) λf q=>
 Do (au q 2 f p) λd=>
 Do (W d 6 true c) λr=>
 Do (W d 2 true f) λs=>
Φ 186 [r,s] d λg t=>
 Do (bo 0 g) λu=>
 Do (bo 1 g) λh=>
 aw (some (aQ t true [O,O,P,aA,O,aA])) λi v=>
 Do (au v 6 i u) λe=>
 Do (M .neq h O) λw=>
 L w true (
 Do (aD [O,O,P,aA,O,aA] []) λx=>
 Do (au e 6 b x) λj=>
 Do (W j 6 true b) λy=>
 Q (.ar [y,h]) j) (
 Do (W e 6 true i) λz=>
 Do (au e 6 c z) λA=>
 Do (M .add (D a.1 0) (I 1)) λB=>
 m ([B],A))) (
 G (Ip Φ b c Q) [] a.2)
def f161(Φ:ad)(a0 Y:J)(H:AH)(Q:ab):Prop:=
 aw (aM H false 2 Y) λe H2=>
 aw (some (aQ H2 true [O,O,P,aA,O,aA])) λa l=>
Φ 117 [a0,(.fn 185 [e])] l λf b=>
 Do (M .lss f O) λm=>
 L m true (
 Do (aD [O,O,P,aA,O,aA] []) λn=>
 Do (au b 6 a n) λg=>
 Do (W g 6 true a) λo=>
 Q (.ar [o,(I 6)]) g) (
 Do (aL none 7 a0 f) λp=>
 Do (aa 1 p) λq=>
 Do (W b 6 true q) λr=>
 aw (some (aQ b true [O,O,P,aA,O,aA])) λc s=>
 Do (au s 6 c r) λh=>
 Do (W h 6 true c) λt=>
Φ 124 [t] h λi d=>
 Do (M .neq i O) λu=>
 L u true (
 Do (aD [O,O,P,aA,O,aA] []) λv=>
 Do (au d 6 a v) λj=>
 Do (W j 6 true a) λw=>
 Q (.ar [w,i]) j) (
 Do (aa 1 e) λx=>
 Do (W d 1 false x) λk=>
 Do (aY false k) λy=>
 av (wt Φ a c k y Q) ([O],d)))
noncomputable def Iq:aF:=A C ⟨161,[4,7,10,11],[[33]],none,[],[]⟩
def Ir(Φ:ad)(c:J)(Q:ab):a:=λj b=>
 Do (aa 0 c) λd=>
 Do (W b 1 false d) λe=>
 Do (M .eql e (I 2)) λf=>
 aN f true (
 Do (aa 1 c) λg=>
 Do (W b 1 false g) λh=>
 Do (M .leq h (I 8)) λi=>
 Q i b) (
 Q P b) (
 False)
def AZ(Φ:ad)(c:J)(Q:ab):a:=λd b=>
 L (D d 0) true (
 Do (aa 0 c) λe=>
 Do (W b 1 false e) λf=>
 Do (M .eql f (I 2)) λg=>
 aN g true (
 Do (aa 1 c) λh=>
 Do (W b 1 false h) λi=>
 Do (M .eql i (I 16)) λj=>
 Q j b) (
 Q P b) (
 False)) (
 G (Ir Φ c Q) [] b)
def A0(Φ:ad)(a0 c:J)(Q:ab):a:=λe b=>
 L (D e 0) true (
 Do (aa 0 c) λf=>
 Do (W b 1 false f) λg=>
 Do (M .eql g (I 1)) λh=>
 Q h b) (
 Do (M .eql a0 (I 5)) λd=>
 L d true (
 G (AZ Φ c Q) [d] b) (
 Do (M .eql a0 (I 6)) λi=>
 G (AZ Φ c Q) [i] b))
def f162(Φ:ad)(a0 Y:J)(H:AH)(Q:ab):Prop:=
 aw (aM H false 6 Y) λa H2=>
 Do (M .eql a0 (I 3)) λb=>
 L b true (
 G (A0 Φ a0 a Q) [b] H2) (
 Do (M .eql a0 (I 14)) λc=>
 G (A0 Φ a0 a Q) [c] H2)
noncomputable def Is:aF:=A C ⟨162,[],[],none,[],[]⟩
def wu(Φ:ad)(a0 c d:J)(Q:ab):a:=λh b=>
 Do (aa 7 d) λe=>
 Do (W b 1 false e) λf=>
Φ 123 [a0,f,c] b λi g=>
 Q (.ar []) g
def wv(Φ:ad)(a0 d b:J)(Q:ab):a:=λn c=>
 Do (aa 0 b) λe=>
 Do (W c 1 false e) λf=>
 Do (M .geq f (I 4)) λg=>
 L g true (
 Do (aa 0 b) λh=>
 Do (W c 1 false h) λi=>
 Do (M .add (I 10) i) λj=>
 Do (aa 5 b) λk=>
 Do (W c 2 true k) λl=>
Φ 122 [a0,j,l,d] c λo m=>
 G (wu Φ a0 d b Q) [] m) (
 G (wu Φ a0 d b Q) [] c)
def f163(Φ:ad)(a0 Y c:J)(H:AH)(Q:ab):Prop:=
 aw (aM H false 8 Y) λa H2=>
 Do (M .leq c (I 64)) λf=>
Φ 118 [a0,f,(I 5)] H2 λA e=>
 Do (W e 8 true a) λg=>
Φ 187 [g] e λh i=>
Φ 118 [a0,h,(I 4)] i λB d=>
 Do (aa 0 a) λj=>
 Do (W d 1 false j) λk=>
 Do (M .add (I 10) k) λl=>
 Do (aa 4 a) λm=>
 Do (W d 1 false m) λn=>
Φ 120 [l,n] d λo p=>
Φ 118 [a0,o,(I 11)] p λC q=>
Φ 38 [a0] q λr b=>
 L r true (
 Q (.ar []) b) (
 Do (aa 0 a) λs=>
 Do (W b 1 false s) λt=>
 Do (M .eql t (I 2)) λu=>
 L u true (
 Do (aa 2 a) λv=>
 Do (W b 1 false v) λw=>
Φ 121 [a0,w] b λx y=>
Φ 118 [a0,x,(I 6)] y λD z=>
 G (wv Φ a0 c a Q) [] z) (
 G (wv Φ a0 c a Q) [] b))
noncomputable def It:aF:=A C ⟨163,[],[],none,[],[]⟩
def f164(Φ:ad)(a0:J)(H:AH)(Q:ab):Prop:=
 aw (aM H false 6 a0) λa H2=>
 Do (W H2 6 true a) λb=>
Φ 188 [b,(I 65)] H2 λc d=>
 Q c d
noncomputable def Iu:aF:=A C ⟨164,[],[],none,[],[]⟩
def Iw(Φ:ad)(c:J)(Q:ab):a:=λj b=>
 Do (aa 5 c) λd=>
 Do (W b 1 false d) λe=>
 Do (aL none 6 e O) λf=>
 Do (W b 6 true f) λg=>
Φ 165 [g] b λh i=>
 Q h i
def wx(Φ:ad)(c:J)(Q:ab):a:=λd b=>
 L (D d 0) true (
 Q (I 9) b) (
 G (Iw Φ c Q) [] b)
def f165(Φ:ad)(a0:J)(H:AH)(Q:ab):Prop:=
 aw (aM H false 6 a0) λb H2=>
 Do (W H2 6 true b) λf=>
Φ 189 [f] H2 λg a=>
 Do (cC .not g) λh=>
 L h true (
 Q (I 8) a) (
 Do (aa 0 b) λi=>
 Do (W a 1 false i) λc=>
 Do (M .eql c (I 1)) λj=>
 L j true (
 Do (aa 1 b) λk=>
 Do (W a 1 false k) λl=>
Φ 190 [l,(I 8)] a λm d=>
 Do (cC .not m) λn=>
 L n true (
 Q (I 9) d) (
 Q O d)) (
 Do (M .eql c (I 2)) λo=>
 L o true (
 Do (aa 1 b) λp=>
 Do (W a 1 false p) λq=>
Φ 190 [q,(I 16)] a λr e=>
 Do (cC .not r) λs=>
 L s true (
 Q (I 9) e) (
 Q O e)) (
 Do (M .eql c (I 5)) λt=>
 L t true (
 Do (aa 4 b) λu=>
 Do (W a 1 false u) λv=>
 Do (M .lss v (I 1)) λw=>
 aN w false (
 Do (aa 4 b) λx=>
 Do (W a 1 false x) λy=>
 Do (M .gtr y (I 65536)) λz=>
 G (wx Φ b Q) [z] a) (
 G (wx Φ b Q) [aV] a) (
 False)) (
 Do (W a 6 true b) λA=>
Φ 191 [A] a λB C=>
 Q B C))))
noncomputable def Ix:aF:=A C ⟨165,[],[],none,[],[]⟩
def wy(Φ:ad)(c:J)(Q:ab):a:=λd b=>
 aN (D d 0) false (
 Do (aa 3 c) λe=>
 Do (W b 1 false e) λf=>
Φ 168 [f,(.fn 192 [])] b λg h=>
 Q g h) (
 Q aV b) (
 False)
def wB(Φ:ad)(b:J)(Q:ab):a:=λd c=>
 aN (D d 0) false (
 Do (aa 5 b) λe=>
 Do (W c 1 false e) λf=>
Φ 167 [f,(.fn 166 [])] c λg h=>
 G (wy Φ b Q) [g] h) (
 G (wy Φ b Q) [aV] c) (
 False)
def f166(Φ:ad)(a0:J)(H:AH)(Q:ab):Prop:=
 aw (aM H false 6 a0) λa H2=>
 Do (aa 0 a) λb=>
 Do (W H2 1 false b) λc=>
 Do (M .eql c (I 2)) λd=>
 aN d true (
 Do (aa 1 a) λe=>
 Do (W H2 1 false e) λf=>
 Do (M .gtr f (I 1)) λg=>
 G (wB Φ a Q) [g] H2) (
 G (wB Φ a Q) [P] H2) (
 False)
noncomputable def Iy:aF:=A C ⟨166,[],[],none,[],[]⟩
def f167(Φ:ad)(a0 Y:J)(H:AH)(Q:ab):Prop:=
Φ 193 [a0,Y] H λa H2=>
 Do (M .geq a O) λb=>
 Q b H2
noncomputable def Iz:aF:=A C ⟨167,[],[],none,[],[]⟩
def f168(Φ:ad)(a0 Y:J)(H:AH)(Q:ab):Prop:=
Φ 172 [a0,Y] H λa H2=>
 Do (M .geq a O) λb=>
 Q b H2
noncomputable def IA:aF:=A C ⟨168,[],[],none,[],[]⟩
def f169(Φ:ad)(a0:J)(H:AH)(Q:ab):Prop:=
 aw (aM H false 9 a0) λa H2=>
 Do (aa 1 a) λb=>
 Do (W H2 6 true b) λc=>
Φ 125 [c] H2 λd e=>
 Q d e
noncomputable def IB:aF:=A C ⟨169,[],[],none,[],[]⟩
def IC(Φ:ad)(b:ST)(c:LT)(Q:ab):a:=λf d=>
 Do (M .add (D b.1 0) (I 1)) λe=>
 c ([e],d)
def wC(Φ:ad)(b:J)(g:ST)(h:LT)(Q:ab):a:=λr c=>
 Do (aa 0 b) λi=>
 Do (aa 0 i) λd=>
 Do (W c 1 false d) λe=>
 Do (aa 3 b) λj=>
 Do (W c 1 false j) λk=>
Φ 196 [k,(I 8)] c λl f=>
(W f 1 false d=some e) ∧
(Do (M .quo l (I 8)) λm=>
 Do (eL true [e,m]) λn=>
 Do (aa 0 b) λo=>
 Do (aa 0 o) λp=>
 Do (au f 1 p n) λq=>
 G (IC Φ g h Q) [] q)
def wE(Φ:ad)(b e f k:J)(g:ST)(h:LT)(Q:ab):a:=λX c=>
 Do (aa 7 e) λl=>
 Do (W c 1 false l) λm=>
 L m true (
 Do (W c 9 true e) λn=>
Φ 195 [b,n] c λY o=>
 G (wC Φ b g h Q) [] o) (
 Do (aa 3 b) λp=>
 Do (W c 1 false p) λq=>
Φ 196 [q,(I 8)] c λr s=>
 Do (M .quo r (I 8)) λt=>
Φ 196 [t,k] s λi d=>
 Do (aa 2 b) λu=>
 Do (W d 1 false u) λv=>
 Do (aa 0 f) λw=>
 Do (W d 1 false w) λx=>
 Do (aD [O,O] [(0,1,i),(1,1,x)]) λy=>
 Do (aa 1 e) λz=>
 Do (aa 0 z) λA=>
 Do (W d 1 false A) λB=>
 Do (aD [O,O,O,P,O,O] [(0,2,y),(2,1,B)]) λC=>
 aw (cb d false 6 1 [O,O,O,P,O,O] [(0,6,C)]) λD E=>
 aw (bR E false 6 48 v D) λF H=>
 Do (aa 2 b) λK=>
 Do (au H 1 K F) λj=>
 Do (aa 0 f) λN=>
 Do (W j 1 false N) λR=>
 Do (M .add i R) λS=>
 Do (M .mul (I 8) S) λT=>
 Do (aa 3 b) λU=>
 Do (au j 1 U T) λV=>
 G (wC Φ b g h Q) [] V)
def ID(Φ:ad)(f b:J)(Q:ab):a:=λw c=>
 Do (aa 0 b) λi=>
 Do (aa 0 i) λj=>
 Do (W c 1 false j) λk=>
 Do (aa 0 b) λl=>
 Do (aa 1 l) λm=>
 Do (W c 1 false m) λn=>
Φ 196 [k,n] c λo p=>
 Do (aa 0 b) λq=>
 Do (aa 0 q) λr=>
 Do (au p 1 r o) λd=>
 Do (W d 4 true b) λs=>
 Do (aa 0 b) λt=>
 Do (aa 0 t) λg=>
 Do (W d 1 false g) λh=>
 Do (M .leq h (I 65536)) λu=>
 Do (au d 4 f s) λe=>
(W e 1 false g=some h) ∧
(Do (W e 4 true f) λv=>
 Q (.ar [v,u]) e)
def nK(Φ:ad)(i f b o p:J)(Q:ab):BT:=λa j=>
 Do (M .lss (D a.1 0) p) λq=>
 L q true (
 Do (aL none 9 o (D a.1 0)) λr=>
 Do (W a.2 9 true r) λs=>
 aw (some (aQ a.2 true [.str [],O,O,P,aA,O,aA,P,O])) λc t=>
 Do (au t 9 c s) λk=>
 Do (aa 1 c) λu=>
 Do (W k 6 true u) λv=>
Φ 126 [v] k λl w=>
 Do (bo 0 l) λx=>
 Do (bo 1 l) λy=>
 aw (some (aQ w true [O,O])) λe z=>
 Do (au z 2 e x) λd=>
 Do (cC .not y) λA=>
 L A true (
 Do (aD [O,O,aA,O] []) λB=>
 Do (au d 4 f B) λm=>
 Do (W m 4 true f) λC=>
 Q (.ar [C,P]) m) (
 Do (W d 6 true i) λE=>
 Do (W d 9 true c) λF=>
 Do (aa 1 e) λH=>
 Do (W d 1 false H) λK=>
Φ 194 [E,F,K] d λg n=>
 Do (aa 0 b) λN=>
 Do (aa 1 N) λR=>
 Do (W n 1 false R) λS=>
 Do (eL true [S,g]) λT=>
 Do (aa 0 b) λU=>
 Do (aa 1 U) λV=>
 Do (au n 1 V T) λh=>
 Do (aa 0 i) λX=>
 Do (W h 1 false X) λY=>
 Do (M .eql Y (I 4)) λZ=>
 L Z true (
 Do (aa 3 b) λac=>
 Do (au h 1 ac O) λae=>
 G (wE Φ b c e g a j Q) [] ae) (
 G (wE Φ b c e g a j Q) [] h))) (
 G (ID Φ f b Q) [] a.2)
def f170(Φ:ad)(a0:J)(H:AH)(Q:ab):Prop:=
 aw (aM H false 6 a0) λa H2=>
 aw (some (aQ H2 true [O,O,aA,O])) λe f=>
 Do (aD [O,O] [(0,1,O),(1,1,(I 1))]) λg=>
 Do (aD [O,O,aA,O] [(0,2,g)]) λh=>
 aw (some (aQ f true [O,O,aA,O])) λb i=>
 Do (au i 4 b h) λc=>
 Do (aa 3 a) λj=>
 Do (W c 1 false j) λd=>
 Do (aY false d) λk=>
 av (nK Φ a e b d k Q) ([O],c)
noncomputable def IE:aF:=A C ⟨170,[2,4,6,7],[[16]],none,[],[]⟩
def f171(Φ:ad)(a0 Y:J)(H:AH)(Q:ab):Prop:=
 aw (aM H false 7 a0) λa H2=>
 Do (aa 0 a) λb=>
 Do (W H2 1 false b) λc=>
 Do (aa 0 Y) λd=>
 Do (W H2 1 false d) λe=>
 Do (M .eql c e) λf=>
 Q f H2
noncomputable def IF:aF:=A C ⟨171,[],[],none,[],[]⟩
def Qs(Φ:ad)(a0 Y d:J)(Q:ab):BT:=λs2 e=>
 Do (M .lss (D s2.1 0) d) λf=>
 L f true (
 Do (aL none 9 a0 (D s2.1 0)) λg=>
 Do (W s2.2 9 true g) λh=>
∃a b,Y = .fn a b∧Φ (fI a) (fJ a [h] b) s2.2 λi c=>
 L i true (
 Q (D s2.1 0) c) (
 Do (M .add (D s2.1 0) (I 1)) λj=>
 e ([j],c))) (
 Q (I (-1)) s2.2)
def f172(Φ:ad)(a0 Y:J)(H:AH)(Q:ab):Prop:=
 Do (aY false a0) λa=>
 av (Qs Φ a0 Y a Q) ([O],H)
noncomputable def IG:aF:=A C ⟨172,[],[[8]],none,[],[]⟩
def f173(Φ:ad)(a0 Y:J)(H:AH)(Q:ab):Prop:=
 aw (aM H false 9 a0) λa H2=>
 Do (aa 0 a) λb=>
 Do (W H2 1 false b) λc=>
 Do (aa 0 Y) λd=>
 Do (W H2 1 false d) λe=>
 Do (M .eql c e) λf=>
 Q f H2
noncomputable def IH:aF:=A C ⟨173,[],[],none,[],[]⟩
def II(Φ:ad)(f:J)(Q:ab):a:=λm b=>
 Do (W b 6 true f) λg=>
Φ 170 [g] b λc h=>
 Do (bo 0 c) λi=>
 Do (bo 1 c) λn=>
 aw (some (aQ h true [O,O,aA,O])) λd j=>
 Do (au j 4 d i) λe=>
 Do (aa 2 d) λk=>
 Do (W e 1 false k) λl=>
 Q (.ar [l,O]) e
def wF(Φ:ad)(c:J)(Q:ab):a:=λd b=>
 L (D d 0) true (
 Q (.ar [aA,(I 8)]) b) (
 G (II Φ c Q) [] b)
def f174(Φ:ad)(a0:J)(H:AH)(Q:ab):Prop:=
 aw (aM H false 6 a0) λa H2=>
 Do (W H2 6 true a) λe=>
Φ 76 [e] H2 λc f=>
 Do (bo 0 c) λg=>
 Do (bo 1 c) λd=>
 aw (some (aQ f true [O,O])) λh i=>
 Do (au i 2 h g) λb=>
 Do (M .neq d O) λj=>
 L j true (
 Q (.ar [aA,d]) b) (
 Do (aa 0 a) λk=>
 Do (W b 1 false k) λl=>
 Do (M .neq l (I 3)) λm=>
 aN m true (
 Do (aa 0 a) λn=>
 Do (W b 1 false n) λo=>
 Do (M .neq o (I 4)) λp=>
 G (wF Φ a Q) [p] b) (
 G (wF Φ a Q) [P] b) (
 False))
noncomputable def IJ:aF:=A C ⟨174,[4,6],[],none,[],[]⟩
def IK(Φ:ad)(b:ST)(c:LT)(Q:ab):a:=λf d=>
 Do (M .quo (D b.1 0) (I 2)) λe=>
 c ([e],d)
def wG(Φ:ad)(b:ST)(d:LT)(Q:ab):a:=λe c=>
 L (D e 0) true (
 G (IK Φ b d Q) [] c) (
 Q (D b.1 0) c)
def wH(Φ:ad)(a0:J)(Q:ab):BT:=λs1 a=>
 Do (M .gtr (D s1.1 0) (I 1)) λb=>
 aN b true (
 Do (M .rem a0 (D s1.1 0)) λc=>
 Do (M .neq c O) λd=>
 G (wG Φ s1 a Q) [d] s1.2) (
 G (wG Φ s1 a Q) [P] s1.2) (
 False)
def f175(Φ:ad)(a0 Y:J)(H:AH)(Q:ab):Prop:=
 av (wH Φ a0 Q) ([Y],H)
noncomputable def IL:aF:=A C ⟨175,[],[[1]],none,[],[]⟩
def wI(Φ:ad)(d e f:J)(Q:ab):BT:=λa g=>
 Do (M .lss (D a.1 1) f) λh=>
 L h true (
 Do (aL none 2 e (D a.1 1)) λi=>
 Do (W a.2 2 true i) λj=>
 aw (some (aQ a.2 true [O,O])) λc k=>
 Do (au k 2 c j) λb=>
 Do (aa 0 c) λl=>
 Do (W b 1 false l) λm=>
 Do (aa 0 d) λn=>
 Do (aa 0 n) λo=>
 Do (aa 0 o) λp=>
 Do (W b 1 false p) λq=>
 Do (M .sub m q) λr=>
 Do (aa 1 c) λs=>
 Do (W b 1 false s) λt=>
 Do (aD [O,O] [(0,1,r),(1,1,t)]) λu=>
 aw (cb b false 2 1 [O,O] [(0,2,u)]) λv w=>
 aw (bR w false 2 16 (D a.1 0) v) λx y=>
 Do (M .add (D a.1 1) (I 1)) λz=>
 g ([x,z],y)) (
 Q (D a.1 0) a.2)
def IM(Φ:ad)(b:ST)(d:LT)(Q:ab):a:=λc e=>
 Do (aD [O,O] [(0,1,(D b.1 1)),(1,1,(D c 0))]) λf=>
 aw (cb e false 2 1 [O,O] [(0,2,f)]) λg h=>
 aw (bR h false 2 16 (D b.1 0) g) λi j=>
 Do (M .add (D b.1 1) (D c 0)) λk=>
 d ([i,k],j)
def A1(Φ:ad)(c:J)(b:ST)(d:LT)(Q:ab):BT:=λa e=>
 Do (aa 0 c) λf=>
 Do (aa 0 f) λg=>
 Do (aa 1 g) λh=>
 Do (W a.2 1 false h) λi=>
 Do (M .sub i (D b.1 1)) λj=>
 Do (M .gtr (D a.1 0) j) λk=>
 L k true (
 Do (M .quo (D a.1 0) (I 2)) λl=>
 e ([l],a.2)) (
 G (IM Φ b d Q) [(D a.1 0)] a.2)
def wJ(Φ:ad)(b:J)(Q:ab):BT:=λa c=>
 Do (aa 0 b) λd=>
 Do (aa 0 d) λe=>
 Do (aa 1 e) λf=>
 Do (W a.2 1 false f) λg=>
 Do (M .lss (D a.1 1) g) λh=>
 L h true (
 Do (aa 7 b) λi=>
 Do (W a.2 1 false i) λj=>
 Do (eL false [j,(I 8)]) λk=>
Φ 175 [(D a.1 1),k] a.2 λl m=>
 av (A1 Φ b a c Q) ([l],m)) (
 Q (D a.1 0) a.2)
def f176(Φ:ad)(a0:J)(H:AH)(Q:ab):Prop:=
 aw (aM H false 8 a0) λa H2=>
 Do (aa 6 a) λc=>
 Do (W H2 1 false c) λd=>
 Do (M .eql d (I (-1))) λe=>
 L e true (
 Do (aa 0 a) λf=>
 Do (aa 0 f) λg=>
 Do (W H2 2 true g) λh=>
Φ 197 [h] H2 λb i=>
 Do (aY false b) λj=>
 av (wI Φ a b j Q) ([aA,O],i)) (
 av (wJ Φ a Q) ([aA,O],H2))
noncomputable def IP:aF:=A C ⟨176,[5],[[3,16],[3,6],[7]],none,[],[]⟩
def wK(Φ:ad)(a0 Y a b:J)(Q:ab):BT:=λs1 c=>
 Do (M .lss (D s1.1 0) b) λd=>
 L d true (
 Do (M .add Y (D s1.1 0)) λe=>
 Do (M .add a (D s1.1 0)) λf=>
 Do (M .add a (D s1.1 0)) λg=>
 Do (aL none 3 a0 g) λh=>
 Do (W s1.2 3 true h) λi=>
 Do (M .add Y (D s1.1 0)) λj=>
 Do (aL none 3 a0 j) λk=>
 Do (W s1.2 3 true k) λl=>
 Do (aL none 3 a0 e) λm=>
 Do (au s1.2 3 m i) λn=>
 Do (aL none 3 a0 f) λo=>
 Do (au n 3 o l) λp=>
 Do (M .add (D s1.1 0) (I 1)) λq=>
 c ([q],p)) (
 Q (.ar []) s1.2)
def f177(Φ:ad)(a0 Y a b c:J)(H:AH)(Q:ab):Prop:=
 av (wK Φ a0 Y a b Q) ([O],H)
noncomputable def IQ:aF:=A C ⟨177,[],[[10]],none,[],[]⟩
def f183(Φ:ad)(a0:J)(H:AH)(Q:ab):Prop:=
 aw (some (aQ H true [.int .u32 0,.str []])) λa H2=>
 Do (M .eql a0 (I 17)) λo=>
 L o true (
 Do (aD [.int .u32 0,.str []] [(0,1,(.int .u32 960495616)),(1,1,(.str [100,97,111,115]))]) λp=>
 Do (au H2 2 a p) λb=>
 Do (W b 2 true a) λq=>
 Q q b) (
 Do (M .eql a0 (I 18)) λr=>
 L r true (
 Do (aD [.int .u32 0,.str []] [(0,1,(.int .u32 956301312)),(1,1,(.str [100,97,111,115]))]) λs=>
 Do (au H2 2 a s) λc=>
 Do (W c 2 true a) λt=>
 Q t c) (
 Do (M .eql a0 (I 19)) λu=>
 L u true (
 Do (aD [.int .u32 0,.str []] [(0,1,(.int .u32 148896768)),(1,1,(.str [100,97,115]))]) λv=>
 Do (au H2 2 a v) λd=>
 Do (W d 2 true a) λw=>
 Q w d) (
 Do (M .eql a0 (I 20)) λx=>
 L x true (
 Do (aD [.int .u32 0,.str []] [(0,1,(.int .u32 144702464)),(1,1,(.str [100,97,115]))]) λy=>
 Do (au H2 2 a y) λe=>
 Do (W e 2 true a) λz=>
 Q z e) (
 Do (M .eql a0 (I 21)) λA=>
 L A true (
 Do (aD [.int .u32 0,.str []] [(0,1,(.int .u32 140475392)),(1,1,(.str [100,97,115]))]) λB=>
 Do (au H2 2 a B) λf=>
 Do (W f 2 true a) λC=>
 Q C f) (
 Do (M .eql a0 (I 22)) λD=>
 L D true (
 Do (aD [.int .u32 0,.str []] [(0,1,(.int .u32 140508160)),(1,1,(.str [100,97,115]))]) λE=>
 Do (au H2 2 a E) λg=>
 Do (W g 2 true a) λF=>
 Q F g) (
 Do (M .eql a0 (I 23)) λG=>
 L G true (
 Do (aD [.int .u32 0,.str []] [(0,1,(.int .u32 134249472)),(1,1,(.str [100,97,115,109]))]) λK=>
 Do (au H2 2 a K) λh=>
 Do (W h 2 true a) λN=>
 Q N h) (
 Do (M .eql a0 (I 24)) λO=>
 L O true (
 Do (aD [.int .u32 0,.str []] [(0,1,(.int .u32 134282240)),(1,1,(.str [100,97,115,109]))]) λP=>
 Do (au H2 2 a P) λi=>
 Do (W i 2 true a) λR=>
 Q R i) (
 Do (M .eql a0 (I 25)) λS=>
 L S true (
 Do (aD [.int .u32 0,.str []] [(0,1,(.int .u32 3363766272)),(1,1,(.str [100,97,101]))]) λT=>
 Do (au H2 2 a T) λj=>
 Do (W j 2 true a) λU=>
 Q U j) (
 Do (M .eql a0 (I 26)) λV=>
 L V true (
 Do (aD [.int .u32 0,.str []] [(0,1,(.int .u32 3363799040)),(1,1,(.str [100,97,101]))]) λX=>
 Do (au H2 2 a X) λk=>
 Do (W k 2 true a) λY=>
 Q Y k) (
 Do (M .eql a0 (I 27)) λZ=>
 L Z true (
 Do (aD [.int .u32 0,.str []] [(0,1,(.int .u32 3357540352)),(1,1,(.str [100,97,101,109]))]) λaa=>
 Do (au H2 2 a aa) λl=>
 Do (W l 2 true a) λac=>
 Q ac l) (
 Do (M .eql a0 (I 28)) λae=>
 L ae true (
 Do (aD [.int .u32 0,.str []] [(0,1,(.int .u32 3357573120)),(1,1,(.str [100,97,101,109]))]) λaf=>
 Do (au H2 2 a af) λm=>
 Do (W m 2 true a) λag=>
 Q ag m) (
 Do (aD [.int .u32 0,.str []] []) λah=>
 Do (au H2 2 a ah) λn=>
 Do (W n 2 true a) λai=>
 Q ai n))))))))))))
noncomputable def IU:aF:=A C ⟨183,[2],[],none,[],[]⟩
def f185(Φ:ad)(a0 Y:J)(H:AH)(Q:ab):Prop:=
 aw (aM H false 7 a0) λa H2=>
 Do (aa 0 a) λb=>
 Do (W H2 1 false b) λc=>
 Do (aa 0 Y) λd=>
 Do (W H2 1 false d) λe=>
 Do (M .eql c e) λf=>
 Q f H2
noncomputable def IW:aF:=A C ⟨185,[],[],none,[],[]⟩
end Rb.S

namespace Rb.S
open Go
open Go.Proofs.YtncnnojgkgceiaaGreatDoor.rb (C)
def IX(Φ:ad)(d i b:J)(Q:ab):a:=λu e=>
 Do (aa 3 d) λj=>
 Do (W e 1 false j) λk=>
Φ 172 [k,(.fn 201 [i])] e λf c=>
 Do (M .lss f O) λl=>
 L l true (
 Do (aD [O,O,P,aA,O,aA] []) λm=>
 Do (au c 6 b m) λg=>
 Do (W g 6 true b) λn=>
 Q (.ar [n,(I 6)]) g) (
 Do (aa 3 d) λo=>
 Do (W c 1 false o) λp=>
 Do (aL none 9 p f) λq=>
 Do (aa 1 q) λr=>
 Do (W c 6 true r) λs=>
 Do (au c 6 b s) λh=>
 Do (W h 6 true b) λt=>
 Q (.ar [t,O]) h)
def wL(Φ:ad)(e f b:J)(Q:ab):a:=λg c=>
 L (D g 0) true (
 Do (aD [O,O,P,aA,O,aA] []) λh=>
 Do (au c 6 b h) λd=>
 Do (W d 6 true b) λi=>
 Q (.ar [i,(I 8)]) d) (
 G (IX Φ e f b Q) [] c)
def wM(Φ:ad)(d e c:J)(g:List J)(Q:ab):a:=λh b=>
 L (D h 0) true (
 Do (aa 5 d) λi=>
 Do (W b 1 false i) λj=>
 Do (aL none 6 j O) λk=>
 Do (W b 6 true k) λl=>
 Do (au b 6 c l) λf=>
 Do (W f 6 true c) λm=>
 Q (.ar [m,O]) f) (
 Do (aa 1 e) λn=>
 Do (W b 1 false n) λo=>
 Do (aY false o) λp=>
 Do (M .eql p (I 1)) λq=>
 aN q false (
 Do (cC .not (D g 0)) λr=>
 G (wL Φ d e c Q) [r] b) (
 G (wL Φ d e c Q) [aV] b) (
 False))
def wO(Φ:ad)(d e c:J)(f:List J)(Q:ab):a:=λh b=>
 L (D h 0) true (
 Do (aD [O,O,P,aA,O,aA] []) λi=>
 Do (au b 6 c i) λg=>
 Do (W g 6 true c) λj=>
 Q (.ar [j,(I 8)]) g) (
 Do (aa 1 e) λk=>
 Do (W b 1 false k) λl=>
 Do (aY false l) λm=>
 Do (M .eql m (I 1)) λn=>
 aN n true (
 Do (aa 0 d) λo=>
 Do (W b 1 false o) λp=>
 Do (M .eql p (I 5)) λq=>
 G (wM Φ d e c f Q) [q] b) (
 G (wM Φ d e c f Q) [P] b) (
 False))
def wP(Φ:ad)(d b e:J)(Q:ab):a:=λf c=>
 Do (aa 1 b) λg=>
 Do (W c 1 false g) λh=>
 Do (aY false h) λi=>
 Do (M .gtr i (I 1)) λj=>
 aN j false (
 Do (aa 1 b) λk=>
 Do (W c 1 false k) λl=>
 Do (aY false l) λm=>
 Do (M .eql m (I 1)) λn=>
 Do (aa 0 b) λo=>
 Do (W c 1 false o) λp=>
 Do (M .neq p (.str [])) λq=>
 Do (ku false n q) λr=>
 G (wO Φ d b e f Q) [r] c) (
 G (wO Φ d b e f Q) [aV] c) (
 False)
def f186(Φ:ad)(a0 Y:J)(H:AH)(Q:ab):Prop:=
 aw (aM H false 6 a0) λa H2=>
 aw (aM H2 false 2 Y) λc e=>
 aw (some (aQ e true [O,O,P,aA,O,aA])) λd b=>
 Do (aa 0 a) λf=>
 Do (W b 1 false f) λg=>
 Do (M .eql g (I 3)) λh=>
 aN h false (
 Do (aa 0 a) λi=>
 Do (W b 1 false i) λj=>
 Do (M .eql j (I 4)) λk=>
 G (wP Φ a c d Q) [k] b) (
 G (wP Φ a c d Q) [aV] b) (
 False)
noncomputable def IY:aF:=A C ⟨186,[4],[],none,[],[]⟩
def rq(Φ:ad)(c:J)(d:List J)(Q:ab):a:=λe b=>
 aN (D e 0) true (
 Do (aa 7 c) λf=>
 Do (W b 1 false f) λg=>
 Do (aY false g) λh=>
 Do (M .eql h (D d 0)) λi=>
 Q i b) (
 Q P b) (
 False)
def kX(Φ:ad)(b:J)(c:List J)(Q:ab):a:=λe d=>
 aN (D e 0) true (
 aN (D c 1) false (
 Do (aa 5 b) λf=>
 Do (W d 2 true f) λg=>
Φ 160 [g] d λh i=>
 G (rq Φ b c Q) [h] i) (
 G (rq Φ b c Q) [aV] d) (
 False)) (
 G (rq Φ b c Q) [P] d) (
 False)
def rr(Φ:ad)(b e:J)(d:List J)(Q:ab):a:=λf c=>
 aN (D f 0) true (
 aN e true (
 Do (aa 3 b) λg=>
 Do (W c 1 false g) λh=>
 Do (M .geq h (I 1)) λi=>
 aN i true (
 Do (aa 3 b) λj=>
 Do (W c 1 false j) λk=>
 Do (M .leq k (I 11)) λl=>
 aN l false (
 Do (cC .not e) λm=>
 aN m true (
 Do (aa 3 b) λn=>
 Do (W c 1 false n) λo=>
 Do (M .eql o O) λp=>
 G (kX Φ b d Q) [p] c) (
 G (kX Φ b d Q) [P] c) (
 False)) (
 G (kX Φ b d Q) [aV] c) (
 False)) (
 Do (cC .not e) λq=>
 aN q true (
 Do (aa 3 b) λr=>
 Do (W c 1 false r) λs=>
 Do (M .eql s O) λt=>
 G (kX Φ b d Q) [t] c) (
 G (kX Φ b d Q) [P] c) (
 False)) (
 False)) (
 Do (cC .not e) λu=>
 aN u true (
 Do (aa 3 b) λv=>
 Do (W c 1 false v) λw=>
 Do (M .eql w O) λx=>
 G (kX Φ b d Q) [x] c) (
 G (kX Φ b d Q) [P] c) (
 False)) (
 False)) (
 G (kX Φ b d Q) [P] c) (
 False)
def wQ(Φ:ad)(b d:J)(e:List J)(Q:ab):a:=λf c=>
 aN (D f 0) true (
 Do (aa 0 b) λg=>
 Do (W c 1 false g) λh=>
 Do (M .eql h (I 2)) λi=>
 aN i false (
 Do (aa 2 b) λj=>
 Do (W c 1 false j) λk=>
 Do (M .eql k (.str [])) λl=>
 G (rr Φ b d e Q) [l] c) (
 G (rr Φ b d e Q) [aV] c) (
 False)) (
 G (rr Φ b d e Q) [P] c) (
 False)
def mB(Φ:ad)(b:J)(Q:ab):a:=λd c=>
 Do (aa 0 b) λf=>
 Do (W c 1 false f) λg=>
 Do (M .eql g (I 3)) λe=>
 Do (aa 0 b) λh=>
 Do (W c 1 false h) λi=>
 Do (M .eql i (I 1)) λj=>
 aN j false (
 Do (aa 1 b) λk=>
 Do (W c 1 false k) λl=>
 Do (M .eql l (u 0)) λm=>
 G (wQ Φ b e d Q) [m] c) (
 G (wQ Φ b e d Q) [aV] c) (
 False)
def A2(Φ:ad)(c d:J)(Q:ab):a:=λe b=>
 L (D e 0) true (
 G (mB Φ c Q) [(I 1),aV] b) (
 Do (M .eql d (I 8)) λf=>
 L f true (
 G (mB Φ c Q) [(I 2),aV] b) (
 Q P b))
def A3(Φ:ad)(c b:J)(Q:ab):a:=λf d=>
 L (D f 0) true (
 G (mB Φ c Q) [O,aV] d) (
 Do (M .eql b (I 6)) λe=>
 L e true (
 G (A2 Φ c b Q) [e] d) (
 Do (M .eql b (I 7)) λg=>
 G (A2 Φ c b Q) [g] d))
def A4(Φ:ad)(c b:J)(Q:ab):a:=λf d=>
 L (D f 0) true (
 G (mB Φ c Q) [O,P] d) (
 Do (M .eql b (I 3)) λg=>
 L g true (
 G (mB Φ c Q) [(I 2),P] d) (
 Do (M .eql b (I 4)) λe=>
 L e true (
 G (A3 Φ c b Q) [e] d) (
 Do (M .eql b (I 5)) λh=>
 G (A3 Φ c b Q) [h] d)))
def f187(Φ:ad)(a0:J)(H:AH)(Q:ab):Prop:=
 aw (aM H false 8 a0) λb H2=>
 Do (aa 0 b) λd=>
 Do (W H2 1 false d) λa=>
 Do (M .eql a (I 1)) λc=>
 L c true (
 G (A4 Φ b a Q) [c] H2) (
 Do (M .eql a (I 2)) λe=>
 G (A4 Φ b a Q) [e] H2)
noncomputable def IZ:aF:=A C ⟨187,[],[],none,[],[]⟩
def wR(Φ:ad)(Q:ab):a:=λb c=>
 Do (M .add (D b 0) (I 1)) λd=>
 Q d c
def wT(Φ:ad)(Y d e:J)(Q:ab):BT:=λa f=>
 Do (M .lss (D a.1 1) e) λg=>
 L g true (
 Do (aL none 6 d (D a.1 1)) λh=>
 Do (W a.2 6 true h) λi=>
 aw (some (aQ a.2 true [O,O,P,aA,O,aA])) λb j=>
 Do (au j 6 b i) λc=>
 Do (W c 6 true b) λk=>
 Do (M .sub Y (I 1)) λl=>
Φ 188 [k,l] c λm n=>
 Do (eL true [(D a.1 0),m]) λo=>
 Do (M .add (D a.1 1) (I 1)) λp=>
 f ([o,p],n)) (
 G (wR Φ Q) [(D a.1 0)] a.2)
def A5(Φ:ad)(Y d:J)(Q:ab):a:=λe b=>
 Do (aa 5 d) λf=>
 Do (W b 1 false f) λc=>
 Do (aY false c) λg=>
 av (wT Φ Y c g Q) ([(D e 0),O],b)
def wU(Φ:ad)(Y d e f:J)(Q:ab):BT:=λa g=>
 Do (M .lss (D a.1 1) f) λh=>
 L h true (
 Do (aL none 9 e (D a.1 1)) λi=>
 Do (W a.2 9 true i) λj=>
 aw (some (aQ a.2 true [.str [],O,O,P,aA,O,aA,P,O])) λb k=>
 Do (au k 9 b j) λc=>
 Do (aa 1 b) λl=>
 Do (W c 6 true l) λm=>
 Do (M .sub Y (I 1)) λn=>
Φ 188 [m,n] c λo p=>
 Do (eL true [(D a.1 0),o]) λq=>
 Do (M .add (D a.1 1) (I 1)) λr=>
 g ([q,r],p)) (
 G (A5 Φ Y d Q) [(D a.1 0)] a.2)
def f188(Φ:ad)(a0 Y:J)(H:AH)(Q:ab):Prop:=
 aw (aM H false 6 a0) λa H2=>
 Do (M .gtr Y (I 1)) λc=>
 L c true (
 Do (aa 3 a) λd=>
 Do (W H2 1 false d) λb=>
 Do (aY false b) λe=>
 av (wU Φ Y a b e Q) ([O,O],H2)) (
 G (wR Φ Q) [O] H2)
noncomputable def I0:aF:=A C ⟨188,[7,9],[[5,15],[5,30]],none,[],[]⟩
def ru(Φ:ad)(c d:J)(Q:ab):a:=λe b=>
 aN (D e 0) true (
 Do (cC .not d) λf=>
 aN f false (
 Do (aa 5 c) λg=>
 Do (W b 1 false g) λh=>
 Do (aY false h) λi=>
 Do (M .eql i (I 1)) λj=>
 Q j b) (
 Q aV b) (
 False)) (
 Q P b) (
 False)
def rv(Φ:ad)(b d:J)(Q:ab):a:=λe c=>
 aN (D e 0) true (
 aN d false (
 Do (aa 4 b) λf=>
 Do (W c 1 false f) λg=>
 Do (M .eql g O) λh=>
 aN h true (
 Do (aa 5 b) λi=>
 Do (W c 1 false i) λj=>
 Do (aY false j) λk=>
 Do (M .eql k O) λl=>
 G (ru Φ b d Q) [l] c) (
 G (ru Φ b d Q) [P] c) (
 False)) (
 G (ru Φ b d Q) [aV] c) (
 False)) (
 G (ru Φ b d Q) [P] c) (
 False)
def wV(Φ:ad)(b d:J)(e:List J)(Q:ab):a:=λf c=>
 aN (D f 0) true (
 aN (D e 0) false (
 Do (aa 2 b) λg=>
 Do (W c 1 false g) λh=>
 Do (cC .not h) λi=>
 aN i true (
 Do (aa 3 b) λj=>
 Do (W c 1 false j) λk=>
 Do (aY false k) λl=>
 Do (M .eql l O) λm=>
 G (rv Φ b d Q) [m] c) (
 G (rv Φ b d Q) [P] c) (
 False)) (
 G (rv Φ b d Q) [aV] c) (
 False)) (
 G (rv Φ b d Q) [P] c) (
 False)
def A6(Φ:ad)(b d:J)(f:List J)(e:List J)(Q:ab):a:=λg c=>
 aN (D g 0) true (
 aN (D f 0) false (
 Do (aa 1 b) λh=>
 Do (W c 1 false h) λi=>
 Do (M .eql i O) λj=>
 G (wV Φ b d e Q) [j] c) (
 G (wV Φ b d e Q) [aV] c) (
 False)) (
 G (wV Φ b d e Q) [P] c) (
 False)
def A7(Φ:ad)(c b:J)(d:List J)(e:List J)(Q:ab):a:=λg f=>
 aN (D g 0) false (
 G (A6 Φ c b d e Q) [b] f) (
 G (A6 Φ c b d e Q) [aV] f) (
 False)
def A8(Φ:ad)(b:J)(c:List J)(Q:ab):a:=λd e=>
 Do (aa 0 b) λg=>
 Do (W e 1 false g) λh=>
 Do (M .eql h (I 5)) λf=>
 aN (D c 0) false (
 G (A7 Φ b f c d Q) [(D d 0)] e) (
 G (A7 Φ b f c d Q) [aV] e) (
 False)
def A9(Φ:ad)(b:J)(Q:ab):a:=λd c=>
 Do (aa 0 b) λe=>
 Do (W c 1 false e) λf=>
 Do (M .eql f (I 3)) λg=>
 aN g false (
 Do (aa 0 b) λh=>
 Do (W c 1 false h) λi=>
 Do (M .eql i (I 4)) λj=>
 G (A8 Φ b d Q) [j] c) (
 G (A8 Φ b d Q) [aV] c) (
 False)
def f189(Φ:ad)(a0:J)(H:AH)(Q:ab):Prop:=
 aw (aM H false 6 a0) λa H2=>
 Do (aa 0 a) λb=>
 Do (W H2 1 false b) λc=>
 Do (M .eql c (I 1)) λd=>
 aN d false (
 Do (aa 0 a) λe=>
 Do (W H2 1 false e) λf=>
 Do (M .eql f (I 2)) λg=>
 G (A9 Φ a Q) [g] H2) (
 G (A9 Φ a Q) [aV] H2) (
 False)
noncomputable def I1:aF:=A C ⟨189,[],[],none,[],[]⟩
def A_(Φ:ad)(a0:J)(Q:ab):a:=λb H2=>
 aN (D b 0) true (
 Do (M .sub a0 (I 1)) λc=>
 Do (M .and a0 c) λd=>
 Do (M .eql d O) λe=>
 Q e H2) (
 Q P H2) (
 False)
def f190(Φ:ad)(a0 Y:J)(H:AH)(Q:ab):Prop:=
 Do (M .geq a0 (I 1)) λa=>
 aN a true (
 Do (M .leq a0 Y) λb=>
 G (A_ Φ a0 Q) [b] H) (
 G (A_ Φ a0 Q) [P] H) (
 False)
noncomputable def I2:aF:=A C ⟨190,[],[],none,[],[]⟩
def wW(Φ:ad)(d e:J)(Q:ab):BT:=λa f=>
 Do (M .lss (D a.1 0) e) λg=>
 L g true (
 Do (W a.2 6 true d) λh=>
Φ 202 [h,(D a.1 0)] a.2 λb c=>
 Do (M .neq b O) λi=>
 L i true (
 Q b c) (
 Do (M .add (D a.1 0) (I 1)) λj=>
 f ([j],c))) (
 Q O a.2)
def I3(Φ:ad)(b:J)(Q:ab):a:=λg c=>
 Do (aa 3 b) λd=>
 Do (W c 1 false d) λe=>
 Do (aY false e) λf=>
 av (wW Φ b f Q) ([O],c)
def wX(Φ:ad)(c:J)(Q:ab):a:=λd b=>
 L (D d 0) true (
 Q (I 12) b) (
 G (I3 Φ c Q) [] b)
def f191(Φ:ad)(a0:J)(H:AH)(Q:ab):Prop:=
 aw (aM H false 6 a0) λa H2=>
 Do (aa 3 a) λb=>
 Do (W H2 1 false b) λc=>
 Do (aY false c) λd=>
 Do (M .lss d (I 1)) λe=>
 aN e false (
 Do (aa 3 a) λf=>
 Do (W H2 1 false f) λg=>
 Do (aY false g) λh=>
 Do (M .gtr h (I 32)) λi=>
 G (wX Φ a Q) [i] H2) (
 G (wX Φ a Q) [aV] H2) (
 False)
noncomputable def I4:aF:=A C ⟨191,[],[[18]],none,[],[]⟩
def f192(Φ:ad)(a0:J)(H:AH)(Q:ab):Prop:=
 aw (aM H false 9 a0) λa H2=>
 Do (aa 1 a) λb=>
 Do (W H2 6 true b) λc=>
Φ 166 [c] H2 λd e=>
 Q d e
noncomputable def I5:aF:=A C ⟨192,[],[],none,[],[]⟩
def Qt(Φ:ad)(a0 Y d:J)(Q:ab):BT:=λs2 e=>
 Do (M .lss (D s2.1 0) d) λf=>
 L f true (
 Do (aL none 6 a0 (D s2.1 0)) λg=>
 Do (W s2.2 6 true g) λh=>
∃a b,Y = .fn a b∧Φ (fI a) (fJ a [h] b) s2.2 λi c=>
 L i true (
 Q (D s2.1 0) c) (
 Do (M .add (D s2.1 0) (I 1)) λj=>
 e ([j],c))) (
 Q (I (-1)) s2.2)
def f193(Φ:ad)(a0 Y:J)(H:AH)(Q:ab):Prop:=
 Do (aY false a0) λa=>
 av (Qt Φ a0 Y a Q) ([O],H)
noncomputable def I6:aF:=A C ⟨193,[],[[8]],none,[],[]⟩
def wY(Φ:ad)(a2 c:J)(Q:ab):a:=λd b=>
 L (D d 0) true (
 Q (I 1) b) (
 Do (aa 7 c) λe=>
 Do (W b 1 false e) λf=>
 L f true (
 Do (aa 1 c) λg=>
 Do (aa 1 g) λh=>
 Do (W b 1 false h) λi=>
 Q i b) (
 Q a2 b))
def f194(Φ:ad)(a0 Y a2:J)(H:AH)(Q:ab):Prop:=
 aw (aM H false 6 a0) λc H2=>
 aw (aM H2 false 9 Y) λb a=>
 Do (aa 2 c) λd=>
 Do (W a 1 false d) λe=>
 aN e false (
 Do (aa 7 b) λf=>
 Do (W a 1 false f) λg=>
 aN g true (
 Do (aa 8 b) λh=>
 Do (W a 1 false h) λi=>
 Do (M .eql i O) λj=>
 G (wY Φ a2 b Q) [j] a) (
 G (wY Φ a2 b Q) [P] a) (
 False)) (
 G (wY Φ a2 b Q) [aV] a) (
 False)
noncomputable def I7:aF:=A C ⟨194,[],[],none,[],[]⟩
def wZ(Φ:ad)(a0 c:J)(Q:ab):a:=λZ b=>
 Do (aC a0) λf=>
 Do (aa 3 f) λg=>
 Do (W b 1 false g) λh=>
 Do (M .quo h (I 8)) λe=>
 Do (aC a0) λi=>
 Do (aa 3 i) λj=>
 Do (W b 1 false j) λk=>
 Do (aa 8 c) λl=>
 Do (W b 1 false l) λm=>
 Do (M .add k m) λn=>
 Do (M .sub n (I 1)) λo=>
 Do (M .quo o (I 8)) λp=>
 Do (aC a0) λq=>
 Do (aa 2 q) λr=>
 Do (W b 1 false r) λs=>
 Do (M .sub p e) λt=>
 Do (M .add t (I 1)) λu=>
 Do (aD [O,O] [(0,1,e),(1,1,u)]) λv=>
 Do (aC a0) λw=>
 Do (aa 3 w) λx=>
 Do (W b 1 false x) λy=>
 Do (M .rem y (I 8)) λz=>
 Do (aa 8 c) λA=>
 Do (W b 1 false A) λB=>
 Do (aD [O,O,O,P,O,O] [(0,2,v),(2,1,(I 1)),(3,1,aV),(4,1,z),(5,1,B)]) λC=>
 aw (cb b false 6 1 [O,O,O,P,O,O] [(0,6,C)]) λD E=>
 aw (bR E false 6 48 s D) λF G=>
 Do (aC a0) λH=>
 Do (aa 2 H) λK=>
 Do (au G 1 K F) λd=>
 Do (aC a0) λL=>
 Do (aa 3 L) λN=>
 Do (W d 1 false N) λR=>
 Do (aa 8 c) λS=>
 Do (W d 1 false S) λT=>
 Do (M .add R T) λU=>
 Do (aC a0) λV=>
 Do (aa 3 V) λX=>
 Do (au d 1 X U) λY=>
 Q (.ar []) Y
def f195(Φ:ad)(a0 Y:J)(H:AH)(Q:ab):Prop:=
 aw (aM H false 9 Y) λa H2=>
 Do (aa 1 a) λd=>
 Do (aa 1 d) λe=>
 Do (W H2 1 false e) λf=>
 Do (M .mul (I 8) f) λb=>
 Do (aa 8 a) λg=>
 Do (W H2 1 false g) λh=>
 Do (M .eql h O) λi=>
 L i true (
 Do (aC a0) λj=>
 Do (aa 3 j) λk=>
 Do (W H2 1 false k) λl=>
Φ 196 [l,b] H2 λm n=>
 Do (aC a0) λo=>
 Do (aa 3 o) λp=>
 Do (au n 1 p m) λc=>
 Do (aC a0) λq=>
 Do (aa 2 q) λr=>
 Do (W c 1 false r) λs=>
 Do (aC a0) λt=>
 Do (aa 3 t) λu=>
 Do (W c 1 false u) λv=>
 Do (M .quo v (I 8)) λw=>
 Do (aD [O,O] [(0,1,w)]) λx=>
 Do (aC a0) λy=>
 Do (aa 3 y) λz=>
 Do (W c 1 false z) λA=>
 Do (M .rem A (I 8)) λB=>
 Do (aD [O,O,O,P,O,O] [(0,2,x),(2,1,(I 1)),(3,1,aV),(4,1,B)]) λC=>
 aw (cb c false 6 1 [O,O,O,P,O,O] [(0,6,C)]) λD E=>
 aw (bR E false 6 48 s D) λF K=>
 Do (aC a0) λN=>
 Do (aa 2 N) λR=>
 Do (au K 1 R F) λS=>
 Q (.ar []) S) (
 Do (aC a0) λT=>
 Do (aa 3 T) λU=>
 Do (W H2 1 false U) λV=>
 Do (M .quo V b) λX=>
 Do (aC a0) λZ=>
 Do (aa 3 Z) λac=>
 Do (W H2 1 false ac) λae=>
 Do (aa 8 a) λaf=>
 Do (W H2 1 false af) λag=>
 Do (M .add ae ag) λah=>
 Do (M .sub ah (I 1)) λai=>
 Do (M .quo ai b) λaj=>
 Do (M .neq X aj) λak=>
 L ak true (
 Do (aC a0) λal=>
 Do (aa 3 al) λam=>
 Do (W H2 1 false am) λan=>
Φ 196 [an,b] H2 λao ap=>
 Do (aC a0) λaq=>
 Do (aa 3 aq) λav=>
 Do (au ap 1 av ao) λax=>
 G (wZ Φ a0 a Q) [] ax) (
 G (wZ Φ a0 a Q) [] H2))
noncomputable def I8:aF:=A C ⟨195,[],[],none,[],[]⟩
def f196(Φ:ad)(a0 Y:J)(H:AH)(Q:ab):Prop:=
 Do (M .add a0 Y) λa=>
 Do (M .sub a (I 1)) λb=>
 Do (M .quo b Y) λc=>
 Do (M .mul c Y) λd=>
 Q d H
noncomputable def I9:aF:=A C ⟨196,[],[],none,[],[]⟩
def I_(Φ:ad)(b:ST)(c:LT)(Q:ab):a:=λf d=>
 Do (M .quo (D b.1 0) (I 2)) λe=>
 c ([e],d)
def Ja(Φ:ad)(b:J)(g:ST)(h:LT)(Q:ab):a:=λc d=>
 Do (aa 0 b) λi=>
 Do (W d 1 false i) λj=>
 Do (aD [O,O] [(0,1,j),(1,1,(D c 0))]) λk=>
 aw (cb d false 2 1 [O,O] [(0,2,k)]) λl m=>
 aw (bR m false 2 16 (D g.1 0) l) λn e=>
 Do (aa 0 b) λo=>
 Do (W e 1 false o) λp=>
 Do (M .add p (D c 0)) λq=>
 Do (aa 0 b) λr=>
 Do (au e 1 r q) λf=>
 Do (aa 1 b) λs=>
 Do (W f 1 false s) λt=>
 Do (M .sub t (D c 0)) λu=>
 Do (aa 1 b) λv=>
 Do (au f 1 v u) λw=>
 h ([n],w)
def w4(Φ:ad)(d:J)(e:ST)(f:LT)(b:ST)(g:LT)(Q:ab):a:=λh c=>
 L (D h 0) true (
 G (I_ Φ b g Q) [] c) (
 G (Ja Φ d e f Q) [(D b.1 0)] c)
def w5(Φ:ad)(b:J)(c:ST)(d:LT)(Q:ab):BT:=λa e=>
 Do (aa 1 b) λf=>
 Do (W a.2 1 false f) λg=>
 Do (M .gtr (D a.1 0) g) λh=>
 aN h false (
 Do (aa 0 b) λi=>
 Do (W a.2 1 false i) λj=>
 Do (M .rem j (D a.1 0)) λk=>
 Do (M .neq k O) λl=>
 G (w4 Φ b c d a e Q) [l] a.2) (
 G (w4 Φ b c d a e Q) [aV] a.2) (
 False)
def pR(Φ:ad)(b:J)(Q:ab):BT:=λa c=>
 Do (aa 1 b) λd=>
 Do (W a.2 1 false d) λe=>
 Do (M .gtr e O) λf=>
 L f true (
 av (w5 Φ b a c Q) ([(I 8)],a.2)) (
 Q (D a.1 0) a.2)
def Ba(Φ:ad)(b:J)(Q:ab):a:=λd c=>
 av (pR Φ b Q) ([aA],c)
def w6(Φ:ad)(c:J)(Q:ab):a:=λd b=>
 L (D d 0) true (
 Q aA b) (
 G (Ba Φ c Q) [] b)
def pS(Φ:ad)(b:J)(Q:ab):a:=λd c=>
 aN (D d 0) false (
 Do (aa 0 b) λe=>
 Do (W c 1 false e) λf=>
 Do (aa 1 b) λg=>
 Do (W c 1 false g) λh=>
 Do (M .add f h) λi=>
 Do (M .gtr i (I 1099511627776)) λj=>
 G (w6 Φ b Q) [j] c) (
 G (w6 Φ b Q) [aV] c) (
 False)
def f197(Φ:ad)(a0:J)(H:AH)(Q:ab):Prop:=
 aw (aM H true 2 a0) λa H2=>
 Do (W H2 2 true a) λc=>
Φ 203 [c] H2 λd b=>
 Do (cC .not d) λe=>
 aN e false (
 Do (aa 1 a) λf=>
 Do (W b 1 false f) λg=>
 Do (M .gtr g (I 64)) λh=>
 G (pS Φ a Q) [h] b) (
 G (pS Φ a Q) [aV] b) (
 False)
noncomputable def Jb:aF:=A C ⟨197,[1],[[3],[4]],none,[],[]⟩
def f201(Φ:ad)(a0 Y:J)(H:AH)(Q:ab):Prop:=
 aw (aM H false 9 a0) λa H2=>
 Do (aa 0 a) λb=>
 Do (W H2 1 false b) λc=>
 Do (aa 0 Y) λd=>
 Do (W H2 1 false d) λe=>
 Do (M .eql c e) λf=>
 Q f H2
noncomputable def Jc:aF:=A C ⟨201,[],[],none,[],[]⟩
def nL(Φ:ad)(Q:ab):a:=λc b=>
 L (D c 0) true (
 Q (I 9) b) (
 Q O b)
def pT(Φ:ad)(c:J)(Q:ab):a:=λd b=>
 L (D d 0) true (
 Q (I 8) b) (
 Do (aa 7 c) λe=>
 Do (W b 1 false e) λf=>
 aN f true (
 Do (aa 8 c) λg=>
 Do (W b 1 false g) λh=>
 Do (M .lss h O) λi=>
 aN i false (
 Do (aa 8 c) λj=>
 Do (W b 1 false j) λk=>
 Do (aa 1 c) λl=>
 Do (aa 1 l) λm=>
 Do (W b 1 false m) λn=>
 Do (M .mul (I 8) n) λo=>
 Do (M .gtr k o) λp=>
 aN p false (
 Do (aa 8 c) λq=>
 Do (W b 1 false q) λr=>
 Do (M .eql r O) λs=>
 aN s true (
 Do (aa 0 c) λt=>
 Do (W b 1 false t) λu=>
 Do (M .neq u (.str [])) λv=>
 G (nL Φ Q) [v] b) (
 G (nL Φ Q) [P] b) (
 False)) (
 G (nL Φ Q) [aV] b) (
 False)) (
 G (nL Φ Q) [aV] b) (
 False)) (
 G (nL Φ Q) [P] b) (
 False))
def w7(Φ:ad)(d c:J)(Q:ab):a:=λe b=>
 aN (D e 0) false (
 Do (aa 7 c) λf=>
 Do (W b 1 false f) λg=>
 aN g true (
 Do (aa 1 c) λh=>
 Do (aa 0 h) λi=>
 Do (W b 1 false i) λj=>
 Do (M .neq j (I 1)) λk=>
 aN k false (
 Do (aa 2 d) λl=>
 Do (W b 1 false l) λm=>
 G (pT Φ c Q) [m] b) (
 G (pT Φ c Q) [aV] b) (
 False)) (
 G (pT Φ c Q) [P] b) (
 False)) (
 G (pT Φ c Q) [aV] b) (
 False)
def Bb(Φ:ad)(d b:J)(Q:ab):a:=λp e=>
 Do (aa 1 b) λg=>
 Do (W e 6 true g) λh=>
Φ 165 [h] e λf c=>
 Do (M .neq f O) λi=>
 L i true (
 Q f c) (
 Do (aa 7 b) λj=>
 Do (W c 1 false j) λk=>
 Do (cC .not k) λl=>
 aN l true (
 Do (aa 8 b) λm=>
 Do (W c 1 false m) λn=>
 Do (M .neq n O) λo=>
 G (w7 Φ d b Q) [o] c) (
 G (w7 Φ d b Q) [P] c) (
 False))
def w8(Φ:ad)(c d:J)(Q:ab):a:=λe b=>
 L (D e 0) true (
 Q (I 7) b) (
 G (Bb Φ c d Q) [] b)
def ry(Φ:ad)(Y d c:J)(Q:ab):a:=λe b=>
 L (D e 0) true (
 Q (I 6) b) (
 Do (aa 0 c) λf=>
 Do (W b 1 false f) λg=>
 Do (M .neq g (.str [])) λh=>
 aN h true (
 Do (aa 3 d) λi=>
 Do (W b 1 false i) λj=>
 Do (c6 9 j none (some Y) none) λk=>
Φ 168 [k,(.fn 204 [c])] b λl m=>
 G (w8 Φ d c Q) [l] m) (
 G (w8 Φ d c Q) [P] b) (
 False))
def f202(Φ:ad)(a0 Y:J)(H:AH)(Q:ab):Prop:=
 aw (aM H false 6 a0) λc H2=>
 Do (aa 3 c) λe=>
 Do (W H2 1 false e) λf=>
 Do (aL none 9 f Y) λg=>
 Do (W H2 9 true g) λh=>
 aw (some (aQ H2 true [.str [],O,O,P,aA,O,aA,P,O])) λa i=>
 Do (au i 9 a h) λd=>
 Do (aa 0 a) λj=>
 Do (W d 1 false j) λk=>
Φ 71 [k] d λl b=>
 Do (cC .not l) λm=>
 aN m true (
 Do (aa 0 a) λn=>
 Do (W b 1 false n) λo=>
 Do (M .neq o (.str [])) λp=>
 aN p false (
 Do (aa 7 a) λq=>
 Do (W b 1 false q) λr=>
 Do (cC .not r) λs=>
 G (ry Φ Y c a Q) [s] b) (
 G (ry Φ Y c a Q) [aV] b) (
 False)) (
 G (ry Φ Y c a Q) [P] b) (
 False)
noncomputable def Jd:aF:=A C ⟨202,[5],[],none,[],[]⟩
def Bc(Φ:ad)(c:J)(Q:ab):a:=λd b=>
 aN (D d 0) true (
 Do (aa 1 c) λe=>
 Do (W b 1 false e) λf=>
 Do (M .leq f (I 1048576)) λg=>
 Q g b) (
 Q P b) (
 False)
def Bd(Φ:ad)(b:J)(Q:ab):a:=λd c=>
 aN (D d 0) true (
 Do (aa 1 b) λe=>
 Do (W c 1 false e) λf=>
 Do (M .geq f O) λg=>
 G (Bc Φ b Q) [g] c) (
 G (Bc Φ b Q) [P] c) (
 False)
def f203(Φ:ad)(a0:J)(H:AH)(Q:ab):Prop:=
 aw (aM H false 2 a0) λa H2=>
 Do (aa 0 a) λb=>
 Do (W H2 1 false b) λc=>
 Do (M .geq c O) λd=>
 aN d true (
 Do (aa 0 a) λe=>
 Do (W H2 1 false e) λf=>
 Do (M .leq f (I 1099511627776)) λg=>
 G (Bd Φ a Q) [g] H2) (
 G (Bd Φ a Q) [P] H2) (
 False)
noncomputable def Je:aF:=A C ⟨203,[],[],none,[],[]⟩
def f204(Φ:ad)(a0 Y:J)(H:AH)(Q:ab):Prop:=
 aw (aM H false 9 a0) λa H2=>
 Do (aa 0 a) λb=>
 Do (W H2 1 false b) λc=>
 Do (aa 0 Y) λd=>
 Do (W H2 1 false d) λe=>
 Do (M .eql c e) λf=>
 Q f H2
noncomputable def Jf:aF:=A C ⟨204,[],[],none,[],[]⟩
def f221(Φ:ad)(a0:J)(H:AH)(Q:ab):Prop:=
 Do (aY false a0) λa=>
 Q a H
noncomputable def Jg:aF:=A C ⟨221,[],[],none,[],[]⟩
def f222(Φ:ad)(a0 Y a2:J)(H:AH)(Q:ab):Prop:=
 Do (aL none 2 a0 Y) λa=>
 Do (aa 0 a) λb=>
 Do (W H 1 false b) λc=>
 Do (aL none 2 a0 a2) λd=>
 Do (aa 0 d) λe=>
 Do (W H 1 false e) λf=>
 Do (M .lss c f) λg=>
 Q g H
noncomputable def Jh:aF:=A C ⟨222,[],[],none,[],[]⟩
def f223(Φ:ad)(a0 Y a2:J)(H:AH)(Q:ab):Prop:=
 Do (aL none 2 a0 a2) λa=>
 Do (W H 2 true a) λb=>
 Do (aL none 2 a0 Y) λc=>
 Do (W H 2 true c) λd=>
 Do (aL none 2 a0 Y) λe=>
 Do (au H 2 e b) λf=>
 Do (aL none 2 a0 a2) λg=>
 Do (au f 2 g d) λh=>
 Q (.ar []) h
noncomputable def Ji:aF:=A C ⟨223,[],[],none,[],[]⟩
def f224(Φ:ad)(a0:J)(H:AH)(Q:ab):Prop:=
 Do (aC a0) λc=>
 Do (W H 1 false c) λa=>
 Do (aY false a) λd=>
 Do (M .sub d (I 1)) λe=>
 Do (c6 2 a none (some e) none) λf=>
 Do (aC a0) λg=>
 Do (au H 1 g f) λb=>
 Do (aY false a) λh=>
 Do (M .sub h (I 1)) λi=>
 Do (aL none 2 a i) λj=>
 Do (W b 2 true j) λk=>
 Q (.iface 136 k) b
noncomputable def Jj:aF:=A C ⟨224,[],[],none,[],[]⟩
def f225(Φ:ad)(a0 Y:J)(H:AH)(Q:ab):Prop:=
 Do (aC a0) λa=>
 Do (W H 1 false a) λb=>
 aw (c4 H (.kC 136) [Y]) λd c=>
(W c 1 false a=some b) ∧
(aw (cb c false 2 1 [O,O] [(0,2,d)]) λe f=>
 aw (bR f true 2 16 b e) λg h=>
 Do (aC a0) λi=>
 Do (au h 1 i g) λj=>
 Q (.ar []) j)
noncomputable def Jk:aF:=A C ⟨225,[11],[],none,[],[]⟩
noncomputable def bg:h8:=[
  (3,Fj),
  (4,Fk),
  (5,Qq),
  (6,Fv),
  (7,Fy),
  (8,FC),
  (9,FD),
  (10,FF),
  (11,FI),
  (12,FL),
  (13,FN),
  (14,FO),
  (15,FP),
  (16,FQ),
  (17,FR),
  (18,FT),
  (19,FV),
  (20,FW),
  (21,FY),
  (22,FZ),
  (23,F0),
  (24,F1),
  (25,F2),
  (26,F3),
  (27,F4),
  (28,F5),
  (29,F6),
  (30,F7),
  (31,F8),
  (32,F9),
  (33,F_),
  (34,Ga),
  (35,Gb),
  (36,Gf),
  (37,Gh),
  (38,Gi),
  (39,Gj),
  (40,Gk),
  (41,Gl),
  (42,Gm),
  (43,Gn),
  (45,Gp),
  (46,Gq),
  (47,Gr),
  (48,Gs),
  (49,Gt),
  (50,Gu),
  (51,Gv),
  (52,Gw),
  (53,Gx),
  (54,Gy),
  (55,Gz),
  (56,GA),
  (57,GB),
  (58,GC),
  (59,GD),
  (60,GF),
  (61,GG),
  (62,GI),
  (63,GJ),
  (64,GK),
  (65,GL),
  (66,GM),
  (67,GN),
  (68,GO),
  (69,GP),
  (70,GQ),
  (71,GV),
  (72,GW),
  (73,GX),
  (74,GY),
  (75,GZ),
  (76,G1),
  (77,G2),
  (78,G3),
  (79,G4),
  (80,G5),
  (81,G6),
  (82,G7),
  (83,G8),
  (84,G9),
  (85,G_),
  (86,Ha),
  (87,Hb),
  (88,Hc),
  (89,He),
  (90,Hf),
  (91,Hh),
  (94,Hj),
  (95,Hl),
  (96,Hm),
  (97,Ho),
  (98,Hp),
  (99,Hq),
  (100,Hr),
  (101,Hs),
  (102,Ht),
  (103,Hu),
  (104,Hv),
  (105,Hw),
  (106,Hx),
  (107,Hy),
  (108,Hz),
  (109,HB),
  (110,HC),
  (111,HD),
  (112,HE),
  (113,HF),
  (114,HG),
  (115,HH),
  (117,HI),
  (118,HJ),
  (119,HK),
  (120,HM),
  (121,HN),
  (122,HP),
  (123,HQ),
  (124,HR),
  (125,HS),
  (126,HU),
  (127,HV),
  (128,HW),
  (129,HX),
  (130,HY),
  (131,HZ),
  (132,H3),
  (133,H5),
  (134,H6),
  (135,H7),
  (136,H8),
  (137,H9),
  (138,H_),
  (139,Ia),
  (140,Ib),
  (141,Ic),
  (142,Ig),
  (153,Ih),
  (154,Ii),
  (155,Ij),
  (156,Ik),
  (159,Im),
  (160,Io),
  (161,Iq),
  (162,Is),
  (163,It),
  (164,Iu),
  (165,Ix),
  (166,Iy),
  (167,Iz),
  (168,IA),
  (169,IB),
  (170,IE),
  (171,IF),
  (172,IG),
  (173,IH),
  (174,IJ),
  (175,IL),
  (176,IP),
  (177,IQ),
  (183,IU),
  (185,IW),
  (186,IY),
  (187,IZ),
  (188,I0),
  (189,I1),
  (190,I2),
  (191,I4),
  (192,I5),
  (193,I6),
  (194,I7),
  (195,I8),
  (196,I9),
  (197,Jb),
  (201,Jc),
  (202,Jd),
  (203,Je),
  (204,Jf),
  (221,Jg),
  (222,Jh),
  (223,Ji),
  (224,Jj),
  (225,Jk)]
section
variable{Φ:ad}(Z:Cl Φ bg){a0 Y a2 a3 a4 a5 a6 a7 a8 a9 Z7 Z8:J}{H:AH}{Q:ab}
include Z
theorem Qu(h:f3 Φ a0 Y a2 H Q):Φ 3 [a0,Y,a2] H Q:=Z.c (f:=Fj) h
theorem Qv(h:f4 Φ a0 Y H Q):Φ 4 [a0,Y] H Q:=Z.c (f:=Fk) h
theorem Qw(h:f6 Φ a0 Y a2 H Q):Φ 6 [a0,Y,a2] H Q:=Z.c (f:=Fv) h
theorem Qx(h:f7 Φ a0 Y H Q):Φ 7 [a0,Y] H Q:=Z.c (f:=Fy) h
theorem Qy(h:f8 Φ a0 Y a2 H Q):Φ 8 [a0,Y,a2] H Q:=Z.c (f:=FC) h
theorem Qz(h:f9 Φ a0 Y a2 a3 H Q):Φ 9 [a0,Y,a2,a3] H Q:=Z.c (f:=FD) h
theorem QA(h:f10 Φ a0 H Q):Φ 10 [a0] H Q:=Z.c (f:=FF) h
theorem QB(h:f11 Φ a0 H Q):Φ 11 [a0] H Q:=Z.c (f:=FI) h
theorem QC(h:f12 Φ a0 Y H Q):Φ 12 [a0,Y] H Q:=Z.c (f:=FL) h
theorem QD(h:f13 Φ a0 Y H Q):Φ 13 [a0,Y] H Q:=Z.c (f:=FN) h
theorem QE(h:f14 Φ a0 H Q):Φ 14 [a0] H Q:=Z.c (f:=FO) h
theorem Jl(h:f15 Φ a0 Y H Q):Φ 15 [a0,Y] H Q:=Z.c (f:=FP) h
theorem QF(h:f16 Φ a0 Y H Q):Φ 16 [a0,Y] H Q:=Z.c (f:=FQ) h
theorem QG(h:f17 Φ a0 H Q):Φ 17 [a0] H Q:=Z.c (f:=FR) h
theorem QH(h:f18 Φ a0 Y H Q):Φ 18 [a0,Y] H Q:=Z.c (f:=FT) h
theorem QI(h:f19 Φ a0 Y H Q):Φ 19 [a0,Y] H Q:=Z.c (f:=FV) h
theorem QJ(h:f20 Φ a0 Y H Q):Φ 20 [a0,Y] H Q:=Z.c (f:=FW) h
theorem QK(h:f21 Φ a0 H Q):Φ 21 [a0] H Q:=Z.c (f:=FY) h
theorem QL(h:f22 Φ a0 H Q):Φ 22 [a0] H Q:=Z.c (f:=FZ) h
theorem QM(h:f23 Φ a0 H Q):Φ 23 [a0] H Q:=Z.c (f:=F0) h
theorem QN(h:f24 Φ a0 H Q):Φ 24 [a0] H Q:=Z.c (f:=F1) h
theorem QO(h:f25 Φ a0 Y H Q):Φ 25 [a0,Y] H Q:=Z.c (f:=F2) h
theorem QP(h:f26 Φ a0 Y a2 H Q):Φ 26 [a0,Y,a2] H Q:=Z.c (f:=F3) h
theorem QQ(h:f27 Φ a0 Y H Q):Φ 27 [a0,Y] H Q:=Z.c (f:=F4) h
theorem QR(h:f28 Φ a0 Y H Q):Φ 28 [a0,Y] H Q:=Z.c (f:=F5) h
theorem QS(h:f29 Φ a0 H Q):Φ 29 [a0] H Q:=Z.c (f:=F6) h
theorem QT(h:f30 Φ a0 Y H Q):Φ 30 [a0,Y] H Q:=Z.c (f:=F7) h
theorem QU(h:f31 Φ a0 Y H Q):Φ 31 [a0,Y] H Q:=Z.c (f:=F8) h
theorem QV(h:f32 Φ a0 H Q):Φ 32 [a0] H Q:=Z.c (f:=F9) h
theorem QW(h:f33 Φ a0 Y a2 a3 H Q):Φ 33 [a0,Y,a2,a3] H Q:=Z.c (f:=F_) h
theorem QX(h:f34 Φ a0 Y H Q):Φ 34 [a0,Y] H Q:=Z.c (f:=Ga) h
theorem QY(h:f35 Φ a0 Y a2 H Q):Φ 35 [a0,Y,a2] H Q:=Z.c (f:=Gb) h
theorem QZ(h:f36 Φ a0 H Q):Φ 36 [a0] H Q:=Z.c (f:=Gf) h
theorem Q0(h:f37 Φ a0 Y a2 H Q):Φ 37 [a0,Y,a2] H Q:=Z.c (f:=Gh) h
theorem nM(h:f38 Φ a0 H Q):Φ 38 [a0] H Q:=Z.c (f:=Gi) h
theorem Q1(h:f39 Φ a0 H Q):Φ 39 [a0] H Q:=Z.c (f:=Gj) h
theorem Q2(h:f40 Φ a0 Y H Q):Φ 40 [a0,Y] H Q:=Z.c (f:=Gk) h
theorem Jm(h:f41 Φ a0 Y a2 H Q):Φ 41 [a0,Y,a2] H Q:=Z.c (f:=Gl) h
theorem Q3(h:f42 Φ a0 H Q):Φ 42 [a0] H Q:=Z.c (f:=Gm) h
theorem Q4(h:f43 Φ a0 H Q):Φ 43 [a0] H Q:=Z.c (f:=Gn) h
theorem Q5(h:f45 Φ a0 Y H Q):Φ 45 [a0,Y] H Q:=Z.c (f:=Gp) h
theorem Q6(h:f46 Φ a0 Y H Q):Φ 46 [a0,Y] H Q:=Z.c (f:=Gq) h
theorem Q7(h:f47 Φ a0 Y H Q):Φ 47 [a0,Y] H Q:=Z.c (f:=Gr) h
theorem Q8(h:f48 Φ a0 H Q):Φ 48 [a0] H Q:=Z.c (f:=Gs) h
theorem Q9(h:f49 Φ a0 Y a2 H Q):Φ 49 [a0,Y,a2] H Q:=Z.c (f:=Gt) h
theorem Q_(h:f50 Φ a0 Y a2 H Q):Φ 50 [a0,Y,a2] H Q:=Z.c (f:=Gu) h
theorem Rc(h:f51 Φ a0 Y a2 H Q):Φ 51 [a0,Y,a2] H Q:=Z.c (f:=Gv) h
theorem Re(h:f52 Φ a0 Y a2 H Q):Φ 52 [a0,Y,a2] H Q:=Z.c (f:=Gw) h
theorem Rf(h:f53 Φ a0 Y H Q):Φ 53 [a0,Y] H Q:=Z.c (f:=Gx) h
theorem Rh(h:f54 Φ a0 Y H Q):Φ 54 [a0,Y] H Q:=Z.c (f:=Gy) h
theorem Ri(h:f55 Φ a0 Y H Q):Φ 55 [a0,Y] H Q:=Z.c (f:=Gz) h
theorem Rj(h:f56 Φ a0 Y H Q):Φ 56 [a0,Y] H Q:=Z.c (f:=GA) h
theorem Rk(h:f57 Φ a0 Y H Q):Φ 57 [a0,Y] H Q:=Z.c (f:=GB) h
theorem Rl(h:f58 Φ a0 Y H Q):Φ 58 [a0,Y] H Q:=Z.c (f:=GC) h
theorem Rm(h:f59 Φ a0 Y a2 H Q):Φ 59 [a0,Y,a2] H Q:=Z.c (f:=GD) h
theorem Rn(h:f60 Φ a0 Y H Q):Φ 60 [a0,Y] H Q:=Z.c (f:=GF) h
theorem Ro(h:f61 Φ a0 Y H Q):Φ 61 [a0,Y] H Q:=Z.c (f:=GG) h
theorem Rq(h:f62 Φ a0 H Q):Φ 62 [a0] H Q:=Z.c (f:=GI) h
theorem Rr(h:f63 Φ a0 Y H Q):Φ 63 [a0,Y] H Q:=Z.c (f:=GJ) h
theorem Rs(h:f64 Φ a0 Y a2 a3 H Q):Φ 64 [a0,Y,a2,a3] H Q:=Z.c (f:=GK) h
theorem Rt(h:f65 Φ a0 Y a2 H Q):Φ 65 [a0,Y,a2] H Q:=Z.c (f:=GL) h
theorem Ru(h:f66 Φ a0 Y H Q):Φ 66 [a0,Y] H Q:=Z.c (f:=GM) h
theorem Rv(h:f67 Φ a0 H Q):Φ 67 [a0] H Q:=Z.c (f:=GN) h
theorem Rx(h:f68 Φ a0 H Q):Φ 68 [a0] H Q:=Z.c (f:=GO) h
theorem Ry(h:f69 Φ a0 H Q):Φ 69 [a0] H Q:=Z.c (f:=GP) h
theorem Rz(h:f70 Φ a0 H Q):Φ 70 [a0] H Q:=Z.c (f:=GQ) h
theorem RA(h:f71 Φ a0 H Q):Φ 71 [a0] H Q:=Z.c (f:=GV) h
theorem RB(h:f72 Φ a0 H Q):Φ 72 [a0] H Q:=Z.c (f:=GW) h
theorem RC(h:f73 Φ a0 Y H Q):Φ 73 [a0,Y] H Q:=Z.c (f:=GX) h
theorem RD(h:f74 Φ a0 Y H Q):Φ 74 [a0,Y] H Q:=Z.c (f:=GY) h
theorem RE(h:f75 Φ a0 Y a2 H Q):Φ 75 [a0,Y,a2] H Q:=Z.c (f:=GZ) h
theorem Jn(h:f76 Φ a0 H Q):Φ 76 [a0] H Q:=Z.c (f:=G1) h
theorem RF(h:f77 Φ a0 Y H Q):Φ 77 [a0,Y] H Q:=Z.c (f:=G2) h
theorem RG(h:f78 Φ a0 H Q):Φ 78 [a0] H Q:=Z.c (f:=G3) h
theorem RH(h:f79 Φ a0 Y a2 H Q):Φ 79 [a0,Y,a2] H Q:=Z.c (f:=G4) h
theorem RJ(h:f80 Φ a0 Y H Q):Φ 80 [a0,Y] H Q:=Z.c (f:=G5) h
theorem RK(h:f81 Φ a0 Y a2 H Q):Φ 81 [a0,Y,a2] H Q:=Z.c (f:=G6) h
theorem RL(h:f82 Φ a0 Y H Q):Φ 82 [a0,Y] H Q:=Z.c (f:=G7) h
theorem RM(h:f83 Φ a0 Y H Q):Φ 83 [a0,Y] H Q:=Z.c (f:=G8) h
theorem RN(h:f84 Φ a0 H Q):Φ 84 [a0] H Q:=Z.c (f:=G9) h
theorem RO(h:f85 Φ a0 Y a2 a3 H Q):Φ 85 [a0,Y,a2,a3] H Q:=Z.c (f:=G_) h
theorem RP(h:f86 Φ a0 Y H Q):Φ 86 [a0,Y] H Q:=Z.c (f:=Ha) h
theorem RQ(h:f87 Φ a0 Y H Q):Φ 87 [a0,Y] H Q:=Z.c (f:=Hb) h
theorem RR(h:f88 Φ a0 Y H Q):Φ 88 [a0,Y] H Q:=Z.c (f:=Hc) h
theorem Jo(h:f89 Φ a0 Y a2 a3 H Q):Φ 89 [a0,Y,a2,a3] H Q:=Z.c (f:=He) h
theorem RT(h:f90 Φ a0 Y a2 a3 a4 H Q):Φ 90 [a0,Y,a2,a3,a4] H Q:=Z.c (f:=Hf) h
theorem RU(h:f91 Φ a0 Y a2 H Q):Φ 91 [a0,Y,a2] H Q:=Z.c (f:=Hh) h
theorem RV(h:f94 Φ a0 Y H Q):Φ 94 [a0,Y] H Q:=Z.c (f:=Hj) h
theorem RW(h:f95 Φ a0 Y H Q):Φ 95 [a0,Y] H Q:=Z.c (f:=Hl) h
theorem RX(h:f96 Φ a0 H Q):Φ 96 [a0] H Q:=Z.c (f:=Hm) h
theorem RY(h:f97 Φ a0 Y H Q):Φ 97 [a0,Y] H Q:=Z.c (f:=Ho) h
theorem RZ(h:f98 Φ a0 Y a2 H Q):Φ 98 [a0,Y,a2] H Q:=Z.c (f:=Hp) h
theorem R0(h:f99 Φ a0 H Q):Φ 99 [a0] H Q:=Z.c (f:=Hq) h
theorem R1(h:f100 Φ a0 H Q):Φ 100 [a0] H Q:=Z.c (f:=Hr) h
theorem R2(h:f101 Φ a0 Y H Q):Φ 101 [a0,Y] H Q:=Z.c (f:=Hs) h
theorem R3(h:f102 Φ a0 Y a2 H Q):Φ 102 [a0,Y,a2] H Q:=Z.c (f:=Ht) h
theorem R4(h:f103 Φ a0 H Q):Φ 103 [a0] H Q:=Z.c (f:=Hu) h
theorem R5(h:f104 Φ a0 H Q):Φ 104 [a0] H Q:=Z.c (f:=Hv) h
theorem R6(h:f105 Φ a0 H Q):Φ 105 [a0] H Q:=Z.c (f:=Hw) h
theorem R7(h:f106 Φ a0 Y H Q):Φ 106 [a0,Y] H Q:=Z.c (f:=Hx) h
theorem R8(h:f107 Φ a0 H Q):Φ 107 [a0] H Q:=Z.c (f:=Hy) h
theorem R9(h:f108 Φ a0 H Q):Φ 108 [a0] H Q:=Z.c (f:=Hz) h
theorem R_(h:f109 Φ a0 Y H Q):Φ 109 [a0,Y] H Q:=Z.c (f:=HB) h
theorem Sa(h:f110 Φ a0 Y H Q):Φ 110 [a0,Y] H Q:=Z.c (f:=HC) h
theorem Sb(h:f111 Φ a0 H Q):Φ 111 [a0] H Q:=Z.c (f:=HD) h
theorem Sc(h:f112 Φ a0 Y a2 H Q):Φ 112 [a0,Y,a2] H Q:=Z.c (f:=HE) h
theorem Sd(h:f113 Φ a0 H Q):Φ 113 [a0] H Q:=Z.c (f:=HF) h
theorem Jq(h:f114 Φ a0 H Q):Φ 114 [a0] H Q:=Z.c (f:=HG) h
theorem Se(h:f115 Φ a0 Y H Q):Φ 115 [a0,Y] H Q:=Z.c (f:=HH) h
theorem Be(h:f117 Φ a0 Y H Q):Φ 117 [a0,Y] H Q:=Z.c (f:=HI) h
theorem Sf(h:f118 Φ a0 Y a2 H Q):Φ 118 [a0,Y,a2] H Q:=Z.c (f:=HJ) h
theorem Sg(h:f119 Φ a0 H Q):Φ 119 [a0] H Q:=Z.c (f:=HK) h
theorem Sh(h:f120 Φ a0 Y H Q):Φ 120 [a0,Y] H Q:=Z.c (f:=HM) h
theorem Si(h:f121 Φ a0 Y H Q):Φ 121 [a0,Y] H Q:=Z.c (f:=HN) h
theorem Sj(h:f122 Φ a0 Y a2 a3 H Q):Φ 122 [a0,Y,a2,a3] H Q:=Z.c (f:=HP) h
theorem Sk(h:f123 Φ a0 Y a2 H Q):Φ 123 [a0,Y,a2] H Q:=Z.c (f:=HQ) h
theorem Sl(h:f124 Φ a0 H Q):Φ 124 [a0] H Q:=Z.c (f:=HR) h
theorem Sm(h:f125 Φ a0 H Q):Φ 125 [a0] H Q:=Z.c (f:=HS) h
theorem Sn(h:f126 Φ a0 H Q):Φ 126 [a0] H Q:=Z.c (f:=HU) h
theorem Sp(h:f127 Φ a0 Y H Q):Φ 127 [a0,Y] H Q:=Z.c (f:=HV) h
theorem Sq(h:f128 Φ a0 Y a2 a3 H Q):Φ 128 [a0,Y,a2,a3] H Q:=Z.c (f:=HW) h
theorem Sr(h:f129 Φ a0 Y H Q):Φ 129 [a0,Y] H Q:=Z.c (f:=HX) h
theorem Ss(h:f130 Φ a0 Y H Q):Φ 130 [a0,Y] H Q:=Z.c (f:=HY) h
theorem Su(h:f131 Φ a0 Y H Q):Φ 131 [a0,Y] H Q:=Z.c (f:=HZ) h
theorem Sv(h:f132 Φ a0 Y H Q):Φ 132 [a0,Y] H Q:=Z.c (f:=H3) h
theorem Sw(h:f133 Φ a0 Y H Q):Φ 133 [a0,Y] H Q:=Z.c (f:=H5) h
theorem Sx(h:f134 Φ a0 Y H Q):Φ 134 [a0,Y] H Q:=Z.c (f:=H6) h
theorem Sy(h:f135 Φ a0 Y a2 a3 H Q):Φ 135 [a0,Y,a2,a3] H Q:=Z.c (f:=H7) h
theorem Sz(h:f136 Φ a0 Y a2 a3 H Q):Φ 136 [a0,Y,a2,a3] H Q:=Z.c (f:=H8) h
theorem SA(h:f137 Φ a0 H Q):Φ 137 [a0] H Q:=Z.c (f:=H9) h
theorem SB(h:f138 Φ a0 Y a2 a3 a4 H Q):Φ 138 [a0,Y,a2,a3,a4] H Q:=Z.c (f:=H_) h
theorem SC(h:f139 Φ a0 H Q):Φ 139 [a0] H Q:=Z.c (f:=Ia) h
theorem SD(h:f140 Φ a0 Y a2 H Q):Φ 140 [a0,Y,a2] H Q:=Z.c (f:=Ib) h
theorem SE(h:f141 Φ a0 Y H Q):Φ 141 [a0,Y] H Q:=Z.c (f:=Ic) h
theorem SF(h:f142 Φ a0 Y a2 a3 a4 H Q):Φ 142 [a0,Y,a2,a3,a4] H Q:=Z.c (f:=Ig) h
theorem SG(h:f153 Φ a0 Y H Q):Φ 153 [a0,Y] H Q:=Z.c (f:=Ih) h
theorem SH(h:f154 Φ a0 H Q):Φ 154 [a0] H Q:=Z.c (f:=Ii) h
theorem SI(h:f155 Φ H Q):Φ 155 [] H Q:=Z.c (f:=Ij) h
theorem SJ(h:f156 Φ a0 Y H Q):Φ 156 [a0,Y] H Q:=Z.c (f:=Ik) h
theorem SK(h:f159 Φ a0 H Q):Φ 159 [a0] H Q:=Z.c (f:=Im) h
theorem Jr(h:f160 Φ a0 H Q):Φ 160 [a0] H Q:=Z.c (f:=Io) h
theorem SL(h:f161 Φ a0 Y H Q):Φ 161 [a0,Y] H Q:=Z.c (f:=Iq) h
theorem SM(h:f162 Φ a0 Y H Q):Φ 162 [a0,Y] H Q:=Z.c (f:=Is) h
theorem SN(h:f163 Φ a0 Y a2 H Q):Φ 163 [a0,Y,a2] H Q:=Z.c (f:=It) h
theorem SO(h:f164 Φ a0 H Q):Φ 164 [a0] H Q:=Z.c (f:=Iu) h
theorem SP(h:f165 Φ a0 H Q):Φ 165 [a0] H Q:=Z.c (f:=Ix) h
theorem SQ(h:f166 Φ a0 H Q):Φ 166 [a0] H Q:=Z.c (f:=Iy) h
theorem SR(h:f167 Φ a0 Y H Q):Φ 167 [a0,Y] H Q:=Z.c (f:=Iz) h
theorem SS(h:f168 Φ a0 Y H Q):Φ 168 [a0,Y] H Q:=Z.c (f:=IA) h
theorem SU(h:f169 Φ a0 H Q):Φ 169 [a0] H Q:=Z.c (f:=IB) h
theorem Js(h:f170 Φ a0 H Q):Φ 170 [a0] H Q:=Z.c (f:=IE) h
theorem SV(h:f171 Φ a0 Y H Q):Φ 171 [a0,Y] H Q:=Z.c (f:=IF) h
theorem Bf(h:f172 Φ a0 Y H Q):Φ 172 [a0,Y] H Q:=Z.c (f:=IG) h
theorem SX(h:f173 Φ a0 Y H Q):Φ 173 [a0,Y] H Q:=Z.c (f:=IH) h
theorem SY(h:f174 Φ a0 H Q):Φ 174 [a0] H Q:=Z.c (f:=IJ) h
theorem SZ(h:f175 Φ a0 Y H Q):Φ 175 [a0,Y] H Q:=Z.c (f:=IL) h
theorem S0(h:f176 Φ a0 H Q):Φ 176 [a0] H Q:=Z.c (f:=IP) h
theorem S1(h:f177 Φ a0 Y a2 a3 a4 H Q):Φ 177 [a0,Y,a2,a3,a4] H Q:=Z.c (f:=IQ) h
theorem S2(h:f183 Φ a0 H Q):Φ 183 [a0] H Q:=Z.c (f:=IU) h
theorem S3(h:f185 Φ a0 Y H Q):Φ 185 [a0,Y] H Q:=Z.c (f:=IW) h
theorem S4(h:f186 Φ a0 Y H Q):Φ 186 [a0,Y] H Q:=Z.c (f:=IY) h
theorem S5(h:f187 Φ a0 H Q):Φ 187 [a0] H Q:=Z.c (f:=IZ) h
theorem S6(h:f188 Φ a0 Y H Q):Φ 188 [a0,Y] H Q:=Z.c (f:=I0) h
theorem S7(h:f189 Φ a0 H Q):Φ 189 [a0] H Q:=Z.c (f:=I1) h
theorem Jt(h:f190 Φ a0 Y H Q):Φ 190 [a0,Y] H Q:=Z.c (f:=I2) h
theorem S8(h:f191 Φ a0 H Q):Φ 191 [a0] H Q:=Z.c (f:=I4) h
theorem S9(h:f192 Φ a0 H Q):Φ 192 [a0] H Q:=Z.c (f:=I5) h
theorem S_(h:f193 Φ a0 Y H Q):Φ 193 [a0,Y] H Q:=Z.c (f:=I6) h
theorem Ta(h:f194 Φ a0 Y a2 H Q):Φ 194 [a0,Y,a2] H Q:=Z.c (f:=I7) h
theorem Tb(h:f195 Φ a0 Y H Q):Φ 195 [a0,Y] H Q:=Z.c (f:=I8) h
theorem pU(h:f196 Φ a0 Y H Q):Φ 196 [a0,Y] H Q:=Z.c (f:=I9) h
theorem Tc(h:f197 Φ a0 H Q):Φ 197 [a0] H Q:=Z.c (f:=Jb) h
theorem Td(h:f201 Φ a0 Y H Q):Φ 201 [a0,Y] H Q:=Z.c (f:=Jc) h
theorem Te(h:f202 Φ a0 Y H Q):Φ 202 [a0,Y] H Q:=Z.c (f:=Jd) h
theorem Tf(h:f203 Φ a0 H Q):Φ 203 [a0] H Q:=Z.c (f:=Je) h
theorem Tg(h:f204 Φ a0 Y H Q):Φ 204 [a0,Y] H Q:=Z.c (f:=Jf) h
theorem Ju(h:f221 Φ a0 H Q):Φ 221 [a0] H Q:=Z.c (f:=Jg) h
theorem Th(h:f222 Φ a0 Y a2 H Q):Φ 222 [a0,Y,a2] H Q:=Z.c (f:=Jh) h
theorem Ti(h:f223 Φ a0 Y a2 H Q):Φ 223 [a0,Y,a2] H Q:=Z.c (f:=Ji) h
theorem Tj(h:f224 Φ a0 H Q):Φ 224 [a0] H Q:=Z.c (f:=Jj) h
theorem Tk(h:f225 Φ a0 Y H Q):Φ 225 [a0,Y] H Q:=Z.c (f:=Jk) h
end
end Rb.S

namespace Go.Proofs.YtncnnojgkgceiaaGreatDoor.rb
open Rb
theorem Bg:Cl (ae C) S.bg:=Cl.of (tg C) (OC (EA _ _) (by kernel_rfl))
end Go.Proofs.YtncnnojgkgceiaaGreatDoor.rb

namespace Rb
open Go Go.RowKit
variable{W w:World}{F:cJ}{g:Nat}{G:bn}
def kY(W:World):Nat→Nat→Prop:=λb o=>∃V,W.cell? ⟨b,o,none⟩=some V
theorem Tl{C:Ctx}{key:Nat}{f:FuncId}{args:List J}{Vs:Array Value}(hf:C.F key=some f)(h:ae C key args AH.mt (λv _=>v = .bool true))(a:dE C W (bn.mt (kY W)) AH.mt)
  (b:aR C.F W (bn.mt (kY W)) args Vs):Calls C.P f Vs W λe c=>e = .returned (.bool true)∧Below W.heap.size W c:=by
 refine Calls.mono (h.2 f hf _ W Vs a (Rel.mt λ_ _ h=>h) b) λe w' he=>?_;obtain⟨V,v,H',G',rfl,rfl,hv,_,d⟩:=he;obtain rfl:=hv.h5;exact⟨rfl,d.below⟩
theorem Tm{k:IntKind}{zs:List Int}(h:∀i,i<zs.length→W.cell? ⟨g,i,none⟩=some (.int k (zs.getD i 0))):R F W (bn.mt (kY W)) (.ak (zs.map (.int k))) (.pointer (some ⟨g,0,none⟩)):=by
 refine .ak _ g 0 (λj=> .int k (zs.getD j 0)) (λj c a=>?_) λj c a=>?_
 · have hl:j<zs.length:=by simpa using(aat.1 a).1
   rw[abg];exact⟨⟨_,h j hl⟩,h j hl⟩
 · have hl:j<zs.length:=by simpa using(aat.1 a).1
   have:c = .int k (zs.getD j 0):=by rw[abl,abm hl]at a;simp only[aaL,aaK.injEq]at a;rw[←a,List.getD_eq_getElem?_getD,abm hl];rfl
   rw[this];exact .int _ _
theorem aR.three{c d e:J}{V U X:Value}(h:R F w G c V)(b:R F w G d U)(f:R F w G e X):aR F w G [c,d,e] #[V,U,X]:=⟨rfl,λj c' g hc a=>by
  rcases j with _|_|_|j
  ·simp at hc a;subst hc;subst a;exact h
  ·simp at hc a;subst hc;subst a;exact b
  ·simp at hc a;subst hc;subst a;exact f
  ·simp at hc⟩
theorem Tn(b:ByteArray):R F w G (.str b.data.toList) (.string b):=by
 have h:(⟨b.data.toList.toArray⟩:ByteArray)=b:=by cases b;simp
 have:=R.str (F:=F) (w:=w) (G:=G) b.data.toList;rwa [h]at this
theorem To:D6=(Go.Lib.asciiSpaceTab.map (J.int .u8)):=by kernel_rfl
theorem Tp{P:Program}{b:String}{cs:Array Value}(c:P.globalNamed b=some g)(h:W.var? P b=some cs):∃a t fr,W.heap[g]?=some (.cells a t fr)∧a.size=cs.size:=by
 unfold World.var? at h;rw[c]at h;simp only[Option.bind_some]at h;split at h
 · rename_i a t fr heq;cases h;exact⟨_,_,_,heq,rfl⟩
 ·cases h
end Rb

namespace Rb
open Go Go.RowKit
variable{t:TypeId}{n m sz:Nat}{α β:Type}
mutual
def iX:J→Nat
 | .str s=>s.length+1
 | .ax _ _ cs=>cV cs+1
 |_=>1
def cV:List J→Nat
 |[]=>0
 |x::r=>iX x+cV r
end
theorem lM:∀a b:List J,cV (a++b)=cV a+cV b
 |[],b=>by simp[cV]
 |x::r,b=>by simp only[List.cons_append,cV,lM r b,aaP]
mutual
def dB{H:Type}:DataW H→Nat
 | .lit (.string bytes)=>bytes.length+1
 | .lit _=>1
 | .nil=>1
 | .ptr d=>dB d+1
 | .slice elems spare=>kZ elems+kZ spare+1
 | .agg parts=>kZ parts+1
 | .iface _ d=>dB d+1
 | .map entries=>w9 entries+1
 | .held _=>1
def kZ{H:Type}:List (DataW H)→Nat
 |[]=>0
 |d::r=>dB d+kZ r
def w9{H:Type}:List (Lit×DataW H)→Nat
 |[]=>0
 |x::r=>Jv x+w9 r
def Jv{H:Type}:Lit×DataW H→Nat
 |(.string bytes,d)=>bytes.length+dB d+1
 |(_,d)=>dB d+1
end
theorem Jw{H:Type}{α:Type}{cells:α→List J}:∀(xs:List α)(a:List (DataW H)),xs.length=a.length→(∀(i:Nat)(x:α)(d:DataW H),xs[i]?=some x→a[i]?=some d→cV (cells x)≤dB d)→cV (xs.flatMap cells)≤kZ a
 |[],a,_,_=>by simp[cV]
 |x::r,[],h,_=>by simp at h
 | x::r,d::a,h,k=>by have c:=k 0 x d rfl rfl;have h1:=Jw r a (by simpa using h) λi y e b he=>k (i+1) y e (by simpa using b) (by simpa using he);rw[adR,lM,kZ];omega
section
variable{H:Type}{enc:TypeId×Value→H}{P:Program}{w:World}{sp:Nat→Bool}{held:Bool}{F:cJ}
def bp(F:cJ)(enc:TypeId×Value→H)(P:Program)(w:World)(sp:Nat→Bool)(held:Bool)(n:Nat)(t:TypeId){α:Type}(cells:α→List J)(a:α→Prop):Prop:=∀fuel,fuel≤n→∀cs d b,adS enc P w 0 sp held fuel t cs=some (d,b)→(∀m∈d.weights P t,m≤reachBytes)→∃x,a x∧aR F w (bn.mt (kY w)) (cells x) cs.toArray∧cV (cells x)≤dB d
theorem bp.mono{cells:α→List J}{ok:α→Prop}(h:bp F enc P w sp held n t cells ok)(a:m≤n):bp F enc P w sp held m t cells ok:=λfuel hf cs d b ht hw=>h fuel (np hf a) cs d b ht hw
theorem bp.zero{cells:α→List J}{ok:α→Prop}:bp F enc P w sp held 0 t cells ok:=by
 intro fuel hf cs d a h _;obtain rfl:fuel=0:=by omega
 simp[adS]at h
theorem bp.int{k:IntKind}(ht:P.underlying t=some (.int k)):bp F enc P w sp held n t (λz:Int=>[.int k z]) (λz=>k.min≤z∧z≤k.max):=by intro fuel _ cs d b h _;obtain⟨z,rfl,a,hw⟩:=DataW.trod_int ht h;obtain rfl:d=_:=congrArg adT a;exact⟨z,by simpa[Lit.wf]using hw,aR.one (.int _ _),by simp[cV,iX,dB]⟩
theorem bp.bool(ht:P.underlying t=some .bool):bp F enc P w sp held n t (λz:Bool=>[.bool z]) (λ_=>True):=by intro fuel _ cs d b h _;obtain⟨z,rfl,a⟩:=DataW.trod_bool ht h;obtain rfl:d=_:=congrArg adT a;exact⟨z,trivial,aR.one (.bool _),by simp[cV,iX,dB]⟩
theorem bp.string(ht:P.underlying t=some .string):bp F enc P w sp held n t (λz:List UInt8=>[.str z]) (λz=>z.length≤140737488351232):=by intro fuel _ cs d b h hw;obtain⟨s,rfl,a,hl⟩:=DataW.trod_string ht h;obtain rfl:d=_:=congrArg adT a;exact⟨s.data.toList,hw _ (by simp[adU]),aR.one (Tn s),by simp[cV,iX,dB]⟩
theorem Jx{H:Type}{P:Program}{e:TypeId}:∀{b:List (DataW H)}{j:Nat}{d:DataW H},b[j]?=some d→∀n∈d.weights P e,n∈adV P e b
 | d0::b,0,d,a,n,c=>by simp only[adW,aaK.injEq]at a;subst a;simp only[adV,acN];exact .inl c
 | d0::b,j+1,d,a,n,c=>by simp only[adX]at a;simp only[adV,acN];exact .inr (Jx a n c)
def aZ{α:Type}(cells:α→List J)(xs:List α):J:= .ax .dead xs.length (xs.flatMap cells)
theorem Tq{p:Nat→α→Prop}:∀(n:Nat),(∀i,i<n→∃x,p i x)→∃xs:List α,xs.length=n∧∀i x,xs[i]?=some x→p i x:=by
 intro n;induction n with
 |zero=>intro _;exact⟨[],rfl,λi x h=>by simp at h⟩
 | succ n a=>
  intro h;obtain⟨xs,hl,b⟩:=a λi hi=>h i (by omega);obtain⟨y,c⟩:=h n (by omega);refine⟨xs++[y],by simp[hl],λi x hi=>?_⟩;by_cases d:i<n
  · rw[ab8 (by omega)]at hi;exact b i x hi
  · rw [ab9 (by omega)]at hi;have:i-xs.length=0:=by
     rcases adY (i-xs.length)with h|h
     ·exact h
     ·rw[List.getElem?_eq_none (by simp;omega)]at hi;cases hi
    rw[this]at hi;simp at hi;subst hi;have:i=n:=by omega
    rw[this];exact c
theorem Tr{cells:α→List J}(hc:∀x,(cells x).length=sz):∀(xs:List α)(j:Nat)(c:J),(xs.flatMap cells)[j]?=some c→∃i k x,j=i*sz+k∧k<sz∧xs[i]?=some x∧(cells x)[k]?=some c:=by
 intro xs;induction xs with
 |nil=>intro j c h;simp at h
 | cons y g b=>
  intro j c h;rw[adR]at h;by_cases a:j<sz
  · rw[ab8 (by rw[hc];exact a)]at h;exact⟨0,j,y,by omega,a,rfl,h⟩
  · rw[ab9 (by rw[hc];omega),hc]at h;obtain⟨i,k,x,h1,d,e,f⟩:=b _ _ h;refine⟨i+1,k,x,?_,d,by simpa using e,f⟩;rw[aa3];omega
theorem Jy{b o m:Nat}:(Addr.mk b o none).add m=⟨b,o+m,none⟩:=by
 unfold adZ;split
 ·rename_i h;subst h;rfl
 ·rfl
theorem bp.slice{t e:TypeId}{cells:α→List J}{u:α→Prop}(ht:P.underlying t=some (.slice e))(hs:P.cellsOf e=sz)(D:0<sz)(hc:∀x,(cells x).length=sz)(h:bp F enc P w sp held n e cells u) :
  bp F enc P w sp held (n+1) t (λxs:List α=>[aZ cells xs]) (λxs=>xs.length≤maxLen∧∀x∈xs,u x):=by
 intro fuel hf cs d Q E G;rcases DataW.trod_slice ht E with⟨rfl,s⟩|⟨a,len,cap,elems,rest,m,rfl,rfl,s,_,hle,S,T,H,_⟩
 · obtain rfl:d=_:=congrArg adT s;exact⟨[],⟨aa2 _,by simp⟩,aR.one (.eE _ _),by simp[aZ,cV,iX,dB]⟩
 · have each : ∀i,i<len→∃x,(u x∧∀l,(elems.map (·.1))[i]?=some l→cV (cells x)≤dB l)∧∃ci,w.cells? 0 (a.add (i*sz)) sz=some ci∧aR F w (bn.mt (kY w)) (cells x) ci.toArray:=by
     intro i hi;have h1:=H i hi;rw[abm (by omega),hs]at h1;obtain⟨ci,g,v⟩:=Option.bind_eq_some_iff.1 h1;obtain ⟨x,p,hv,I⟩:=h m (by omega) ci _ _ v (λq K=>G q (by obtain rfl:d=_:=congrArg adT s;simp only[adU,ht];refine List.mem_cons_of_mem _ (List.mem_append_left _ ?_);exact Jx (j:=i) (by rw[abl,abm (by omega)];rfl) q K))
     exact ⟨x,⟨p,λl y=>by rw[abl,abm (by omega)]at y;simp only[aaL,aaK.injEq]at y;rw[←y];exact I⟩,ci,g,hv⟩
   obtain⟨xs,hl,p⟩:=Tq len each;have hB:cV [aZ cells xs]≤dB d:=by obtain rfl:d=_:=congrArg adT s;have:=Jw xs (elems.map (·.1)) (by simp;omega) λi x l h1 g=>(p i x h1).1.2 l g;simp only[aZ,cV,iX,dB];omega
   refine⟨xs,⟨by omega,λx L=>?_⟩,aR.one ?_,hB⟩
   · obtain⟨i,hi,e⟩:=List.mem_iff_getElem.1 L;exact(p i x (by rw[abm hi,e])).1.1
   · rcases adY len with z|z
     · subst z;obtain rfl:=List.length_eq_zero_iff.1 hl;exact .eE _ _
     ·
       have B:a.spot=none:=by
        obtain⟨x,_,ci,g,_⟩:=each 0 z;obtain⟨_,v,A⟩:=ad0 g;have f:=A 0 D;rw[abm (by omega),Nat.zero_mul]at f;have e0:(a.add 0).add 0=a:=by simp[adZ]
        rw[e0]at f;unfold World.cell? at f;split at f
        · split at f
          ·cases f
          · rename_i C;cases M:a.spot with
            |none=>rfl
            |some _=>rw[M]at C;simp at C
        ·cases f
       obtain⟨b,o,U⟩:=a;simp only at B;subst B;have key:∀(j:Nat)(c:J),(xs.flatMap cells)[j]?=some c→∃V,w.cell? ⟨b,o+j,none⟩=some V∧R F w (bn.mt (kY w)) c V:=by intro j c r;obtain⟨i,k,x,rfl,hk,N,O⟩:=Tr hc xs j c r;obtain⟨_,ci,g,hv⟩:=p i x N;obtain⟨_,v,A⟩:=ad0 g;have f:=A k hk;rw[Jy,Jy,abm (by omega)]at f;refine⟨ci[k],by rw[←aaP];exact f,hv.2 k c _ O (by simp[abm (show k<ci.length by omega)])⟩
       unfold aZ;rw[hl];refine .ax .dead len _ b o cap (λj=>(w.cell? ⟨b,o+j,none⟩).getD undef) trivial hle (λj c r=>?_) λj c r=>?_
       · obtain⟨V,h1,_⟩:=key j c r;exact⟨⟨V,h1⟩,by rw[h1];rfl⟩
       · obtain⟨V,h1,g⟩:=key j c r;rw[h1];exact g
def jC(P:Program):Nat→List (TypeId×Nat)→Bool
 |_,[]=>true
 |off,(t,o)::r=>o==off&&jC P (off+P.cellsOf t) r
def ib(P:Program):List (TypeId×Nat)→Nat
 |[]=>0
 |(t,_)::r=>P.cellsOf t+ib P r
def cD(F:cJ)(enc:TypeId×Value→H)(P:Program)(w:World)(sp:Nat→Bool)(held:Bool)(n:Nat)(L:List (TypeId×Nat)){α:Type}(cells:α→List J)(a:α→Prop):Prop:=
 ∀ m,m≤n→∀(off:Nat)(cs:List Value)(ds:List (DataW H)),jC P off L=true→ds.length=L.length→(∀(i:Nat)(f:TypeId×Nat)(d:DataW H),L[i]?=some f→ds[i]?=some d→(∃b,adS enc P w 0 sp held m f.1 ((cs.drop f.2).take (P.cellsOf f.1))=some (d,b))∧∀q∈d.weights P f.1,q≤reachBytes) →
  ∃x,a x∧aR F w (bn.mt (kY w)) (cells x) ((cs.drop off).take (ib P L)).toArray∧cV (cells x)≤kZ ds
theorem cD.nil:cD F enc P w sp held n [] (λ_:Unit=>[]) (λ_=>True):=by intro m _ off cs ds _ _ _;exact⟨(),trivial,by simp only[ib,List.take_zero];exact aR.nil,aa2 _⟩
theorem cD.cons{o:Nat}{L:List (TypeId×Nat)}{b:α→List J}{c:β→List J}{o1:α→Prop}{o2:β→Prop}(g:bp F enc P w sp held n t b o1)(h:cD F enc P w sp held n L c o2) :
  cD F enc P w sp held n ((t,o)::L) (λx:α×β=>b x.1++c x.2) (λx=>o1 x.1∧o2 x.2):=by
 intro m hm off cs ds a hlen hf;simp only[jC,aaz,bq]at a;obtain⟨rfl,a⟩:=a
 match ds,hlen with
 |d::r,hlen=>
 obtain⟨⟨s,j⟩,k⟩:=hf 0 (t,o) d rfl rfl;obtain⟨x,l,hv,u⟩:=g m hm _ _ _ j k;obtain⟨y,p,q,v⟩:=h m hm _ cs r a (by simpa using hlen) λi f e hi he=>hf (i+1) f e (by simpa using hi) (by simpa using he);refine⟨(x,y),⟨l,p⟩,?_,by simp only[lM,kZ];omega⟩;have e:((cs.drop o).take (ib P ((t,o)::L)))=(cs.drop o).take (P.cellsOf t)++(cs.drop (o+P.cellsOf t)).take (ib P L):=by simp only[ib];rw[List.take_add,ad1]
 rw[e];have:=hv.app q;simpa using this
theorem bp.struct{n:Nat}{fs:Array Field}(ht:P.underlying t=some (.struct fs)){L:List (TypeId×Nat)}(hL:fs.toList.map (λf=>(f.type,f.offset))=L)(k:jC P 0 L=true)(l:P.cellsOf t=ib P L)
  {α:Type} {cells:α→List J} {ok:α→Prop} (h:cD F enc P w sp held n L cells ok):bp F enc P w sp held (n+1) t cells ok:=by
 intro fuel hf cs d y o p;obtain⟨xs,m,rfl,a,hlen,r,s⟩:=DataW.trod_struct ht o;obtain ⟨x,u,hv,A⟩:=h m (by omega) 0 cs (xs.map (·.1)) k (by rw[←hL];simp[r]) λi f B hf b=>by rw[←hL,abl]at hf;obtain⟨g,c,rfl⟩:=ad2.1 hf;rw[abl]at b;obtain⟨z,e,rfl⟩:=ad2.1 b;have h1:=s i g (by rw[←Array.getElem?_toList];exact c);rw[e]at h1;refine⟨⟨z.2,h1⟩,λq v=>p q ?_⟩;obtain rfl:d=_:=congrArg adT a;simp only[adU,ht];exact DataW.weights_mem_each (j:=i) (t:=g.type) (by rw[abl,c];rfl) (by rw[abl,e];rfl) q v
 obtain rfl:d=_:=congrArg adT a;refine⟨x,u,?_,by simp only[dB];omega⟩;rw[ad3,←l,←hlen,List.take_length]at hv;exact hv
theorem bp.map{a:α→List J}{b:β→List J}{o1:α→Prop}{o2:β→Prop}(g:α→β)(hc:∀x,b (g x)=a x)(c:∀x,o1 x→o2 (g x))(h:bp F enc P w sp held n t a o1):bp F enc P w sp held n t b o2:=by intro fuel hf cs d e f hw;obtain⟨x,i,hv,j⟩:=h fuel hf cs d e f hw;exact⟨g x,c x i,by rw[hc];exact hv,by rw[hc];exact j⟩
theorem bp.Ts{cells:α→List J}{a:α→Prop}(h:∀n,bp F enc P w sp held n t cells a){v:Value}{d:DataW H}{b:List MemPlace}(c:DataW.Trod enc P w 0 sp held t v d b)(e:∀m∈d.weights P t,m≤reachBytes):∃x,a x∧aR F w (bn.mt (kY w)) (cells x) v.cells∧cV (cells x)≤dB d:=by obtain⟨fuel,hf⟩:=c;obtain⟨x,f,hv,g⟩:=h fuel fuel (hT _) _ _ _ hf e;exact⟨x,f,by simpa using hv,g⟩
end
end Rb

namespace Rb
open Go
mutual
structure T where
 kind:Int
 size:Int
 packed:Bool
 aP:List aJ
 b5:Int
 bw:List T
structure aJ where
 E:List UInt8
 type:T
 bits:Bool
 be:Int
end
mutual
def T.cells:T→List J
 | .mk kind size packed aP b5 bw=>[.int .i64 kind,.int .i64 size,.bool packed,.ax .dead aP.length (aJ.all aP),.int .i64 b5,.ax .dead bw.length (T.all bw)]
def T.all:List T→List J
 |[]=>[]
 |x::r=>T.cells x++T.all r
def aJ.cells:aJ→List J
 | .mk E type bits be=> .str E::(T.cells type++[.bool bits,.int .i64 be])
def aJ.all:List aJ→List J
 |[]=>[]
 |x::r=>aJ.cells x++aJ.all r
end
theorem T.all_eq:∀xs:List T,T.all xs=xs.flatMap T.cells
 |[]=>rfl
 |x::r=>by rw[T.all,T.all_eq r,adR]
theorem aJ.all_eq:∀xs:List aJ,aJ.all xs=xs.flatMap aJ.cells
 |[]=>rfl
 |x::r=>by rw[aJ.all,aJ.all_eq r,adR]
theorem T.bQ(x:T):x.cells=[.int .i64 x.kind,.int .i64 x.size,.bool x.packed,aZ aJ.cells x.aP,.int .i64 x.b5,aZ T.cells x.bw]:=by cases x;simp only[T.cells,T.all_eq,aJ.all_eq,aZ]
theorem aJ.bQ(x:aJ):x.cells = .str x.E::(x.type.cells++[.bool x.bits,.int .i64 x.be]):=by cases x;rfl
theorem T.len(x:T):x.cells.length=6:=by rw[T.bQ];rfl
theorem aJ.len(x:aJ):x.cells.length=9:=by rw[aJ.bQ];simp[T.len]
def jD(z:Int):Prop:= -9223372036854775808≤z∧z≤9223372036854775807
mutual
def T.ok:T→Prop
 | .mk kind size packed aP b5 bw=>jD kind∧jD size∧aP.length≤maxLen∧aJ.dN aP∧jD b5∧bw.length≤maxLen∧T.dN bw
def T.dN:List T→Prop
 |[]=>True
 |x::r=>T.ok x∧T.dN r
def aJ.ok:aJ→Prop
 | .mk E type bits be=>E.length≤140737488351232∧T.ok type∧jD be
def aJ.dN:List aJ→Prop
 |[]=>True
 |x::r=>aJ.ok x∧aJ.dN r
end
theorem T.dT:∀{xs:List T},T.dN xs↔∀x∈xs,x.ok
 |[]=>by simp[T.dN]
 |x::r=>by simp[T.dN,T.dT (xs:=r)]
theorem aJ.dT:∀{xs:List aJ},aJ.dN xs↔∀x∈xs,x.ok
 |[]=>by simp[aJ.dN]
 |x::r=>by simp[aJ.dN,aJ.dT (xs:=r)]
section
variable{H:Type}{enc:TypeId×Value→H}{P:Program}{w:World}{sp:Nat→Bool}{held:Bool}{F:cJ}
structure Jz(P:Program)(ti tb ts tT tF sT sF:TypeId)(fT fF:Array Field):Prop where
 int:P.underlying ti=some (.int .i64)
 bool:P.underlying tb=some .bool
 str:P.underlying ts=some .string
 Tt:P.underlying tT=some (.struct fT)
 Tu:P.underlying tF=some (.struct fF)
 Tv:P.underlying sT=some (.slice tT)
 Tw:P.underlying sF=some (.slice tF)
 lT:fT.toList.map (λf=>(f.type,f.offset))=[(ti,0),(ti,1),(tb,2),(sF,3),(ti,4),(sT,5)]
 lF:fF.toList.map (λf=>(f.type,f.offset))=[(ts,0),(tT,1),(tb,7),(ti,8)]
 cT:P.cellsOf tT=6
 cF:P.cellsOf tF=9
 c1:∀t∈[ti,tb,ts,sT,sF],P.cellsOf t=1
theorem Tx{ti tb ts tT tF sT sF:TypeId}{fT fF:Array Field}(h:Jz P ti tb ts tT tF sT sF fT fF):∀n,bp F enc P w sp held n tT T.cells T.ok:=by
 have c1:P.cellsOf ti=1:=h.c1 _ (by simp);have c2:P.cellsOf tb=1:=h.c1 _ (by simp);have c3:P.cellsOf ts=1:=h.c1 _ (by simp);have b:P.cellsOf sT=1:=h.c1 _ (by simp);have c5:P.cellsOf sF=1:=h.c1 _ (by simp);have int:∀n,bp F enc P w sp held n ti (λz:Int=>[.int .i64 z]) jD:=λn=>bp.map id (λ_=>rfl) (λx a=>by simp only[ad4,ad5,aaG,aaH,aT]at a;show -9223372036854775808≤x∧x≤9223372036854775807;omega) (bp.int h.int)
 intro n;induction n using Nat.strongRecOn with
 | _ n c=>
  cases n with
  |zero=>exact bp.zero
  | succ n=>
   have d:bp F enc P w sp held n tT T.cells T.ok:=c n (by omega);have e:bp F enc P w sp held n tF aJ.cells aJ.ok:=by
    cases n with
    |zero=>exact bp.zero
    | succ n=>
     refine bp.map (λ(x:List UInt8×T×Bool×Int×Unit)=>(⟨x.1,x.2.1,x.2.2.1,x.2.2.2.1⟩:aJ)) (λx=>?_) (λx a=>?_)
      (bp.struct h.Tu h.lF (by simp[jC,c1,c2,c3,h.cT]) (by simp[ib,c1,c2,c3,h.cT,h.cF])
        (cD.cons (bp.string h.str) (cD.cons (c n (by omega)) (cD.cons (bp.bool h.bool) (cD.cons (int n) cD.nil)))))
     ·simp[aJ.cells]
     ·exact⟨a.1,a.2.1,a.2.2.2.1⟩
   refine bp.map (λ(x:Int×Int×Bool×List aJ×Int×List T×Unit)=>(⟨x.1,x.2.1,x.2.2.1,x.2.2.2.1,x.2.2.2.2.1,x.2.2.2.2.2.1⟩:T)) (λx=>?_) (λx a=>?_)
    (bp.struct h.Tt h.lT (by simp[jC,c1,c2,b,c5]) (by simp[ib,c1,c2,b,c5,h.cT])
      (cD.cons (int n) (cD.cons (int n) (cD.cons (bp.bool h.bool) (cD.cons (bp.mono (bp.slice h.Tw h.cF (by decide) aJ.len e) (aa_ n)) (cD.cons (int n) (cD.cons (bp.mono (bp.slice h.Tv h.cT (by decide) T.len d) (aa_ n)) cD.nil)))))))
   ·rw[T.bQ];rfl
   · obtain⟨h1,f,_,⟨g,i⟩,j,⟨k,l⟩,_⟩:=a;exact⟨h1,f,g,aJ.dT.2 i,j,k,T.dT.2 l⟩
end
end Rb

namespace Rb
open Go
variable{ti:TypeId}{n:Nat}
mutual
structure U where
 kind:Int
 n:Int
 E:List UInt8
 op:Int
 aW:Int
 place:ba
 bu:List U
structure ba where
 var:List UInt8
 bm:List a_
structure a_ where
 field:List UInt8
 bD:List U
end
mutual
def U.cells:U→List J
 | .mk kind n E op aW place bu=> .int .i64 kind :: .int .u64 n :: .str E :: .int .i64 op :: .int .i64 aW::(ba.cells place++[.ax .dead bu.length (U.all bu)])
def U.all:List U→List J
 |[]=>[]
 |x::r=>U.cells x++U.all r
def ba.cells:ba→List J
 | .mk var bm=>[.str var,.ax .dead bm.length (a_.all bm)]
def a_.cells:a_→List J
 | .mk field bD=>[.str field,.ax .dead bD.length (U.all bD)]
def a_.all:List a_→List J
 |[]=>[]
 |x::r=>a_.cells x++a_.all r
end
theorem U.all_eq:∀xs:List U,U.all xs=xs.flatMap U.cells
 |[]=>rfl
 |x::r=>by rw[U.all,U.all_eq r,adR]
theorem a_.all_eq:∀xs:List a_,a_.all xs=xs.flatMap a_.cells
 |[]=>rfl
 |x::r=>by rw[a_.all,a_.all_eq r,adR]
theorem ba.bQ(x:ba):x.cells=[.str x.var,aZ a_.cells x.bm]:=by cases x;simp only[ba.cells,a_.all_eq,aZ]
theorem a_.bQ(x:a_):x.cells=[.str x.field,aZ U.cells x.bD]:=by cases x;simp only[a_.cells,U.all_eq,aZ]
theorem U.bQ(x:U):x.cells = .int .i64 x.kind :: .int .u64 x.n :: .str x.E :: .int .i64 x.op :: .int .i64 x.aW::(x.place.cells++[aZ U.cells x.bu]):=by cases x;simp only[U.cells,U.all_eq,aZ]
theorem ba.len(x:ba):x.cells.length=2:=by rw[ba.bQ];rfl
theorem a_.len(x:a_):x.cells.length=2:=by rw[a_.bQ];rfl
theorem U.len(x:U):x.cells.length=8:=by rw[U.bQ];simp[ba.len]
def mC(z:Int):Prop:=0≤z∧z≤18446744073709551615
mutual
def U.ok:U→Prop
 | .mk kind n E op aW place bu=>jD kind∧mC n∧E.length≤140737488351232∧jD op∧jD aW∧ba.ok place∧bu.length≤maxLen∧U.dN bu
def U.dN:List U→Prop
 |[]=>True
 |x::r=>U.ok x∧U.dN r
def ba.ok:ba→Prop
 | .mk var bm=>var.length≤140737488351232∧bm.length≤maxLen∧a_.dN bm
def a_.ok:a_→Prop
 | .mk field bD=>field.length≤140737488351232∧bD.length≤maxLen∧U.dN bD
def a_.dN:List a_→Prop
 |[]=>True
 |x::r=>a_.ok x∧a_.dN r
end
theorem U.dT:∀{xs:List U},U.dN xs↔∀x∈xs,x.ok
 |[]=>by simp[U.dN]
 |x::r=>by simp[U.dN,U.dT (xs:=r)]
theorem a_.dT:∀{xs:List a_},a_.dN xs↔∀x∈xs,x.ok
 |[]=>by simp[a_.dN]
 |x::r=>by simp[a_.dN,a_.dT (xs:=r)]
structure B where
 E:List UInt8
 type:T
def B.cells(x:B):List J:= .str x.E::x.type.cells
theorem B.len(x:B):x.cells.length=7:=by simp[B.cells,T.len]
def B.ok(x:B):Prop:=x.E.length≤140737488351232∧x.type.ok
section
variable{H:Type}{enc:TypeId×Value→H}{P:Program}{w:World}{sp:Nat→Bool}{held:Bool}{F:cJ}
theorem bp.i64(h:P.underlying ti=some (.int .i64)):bp F enc P w sp held n ti (λz:Int=>[.int .i64 z]) jD:=bp.map id (λ_=>rfl) (λx a=>by simp only[ad4,ad5,aaG,aaH,aT]at a;show -9223372036854775808≤x∧x≤9223372036854775807;omega) (bp.int h)
theorem bp.u64(h:P.underlying ti=some (.int .u64)):bp F enc P w sp held n ti (λz:Int=>[.int .u64 z]) mC:=bp.map id (λ_=>rfl) (λx a=>by simp[ad4,ad5,aaG,aaH]at a;show 0≤x∧x≤18446744073709551615;omega) (bp.int h)
structure Bh(P:Program)(ti tu ts tE tL tR sE sR:TypeId)(fE fL fR:Array Field):Prop where
 int:P.underlying ti=some (.int .i64)
 u64:P.underlying tu=some (.int .u64)
 str:P.underlying ts=some .string
 exp:P.underlying tE=some (.struct fE)
 Ty:P.underlying tL=some (.struct fL)
 par:P.underlying tR=some (.struct fR)
 JA:P.underlying sE=some (.slice tE)
 Tz:P.underlying sR=some (.slice tR)
 lE:fE.toList.map (λf=>(f.type,f.offset))=[(ti,0),(tu,1),(ts,2),(ti,3),(ti,4),(tL,5),(sE,7)]
 lL:fL.toList.map (λf=>(f.type,f.offset))=[(ts,0),(sR,1)]
 lR:fR.toList.map (λf=>(f.type,f.offset))=[(ts,0),(sE,1)]
 cE:P.cellsOf tE=8
 cL:P.cellsOf tL=2
 cR:P.cellsOf tR=2
 c1:∀t∈[ti,tu,ts,sE,sR],P.cellsOf t=1
theorem JB{ti tu ts tE tL tR sE sR:TypeId}{fE fL fR:Array Field}(h:Bh P ti tu ts tE tL tR sE sR fE fL fR) :
  ∀n,bp F enc P w sp held n tE U.cells U.ok∧bp F enc P w sp held n tL ba.cells ba.ok∧bp F enc P w sp held n tR a_.cells a_.ok:=by
 have c1:P.cellsOf ti=1:=h.c1 _ (by simp);have c2:P.cellsOf tu=1:=h.c1 _ (by simp);have c3:P.cellsOf ts=1:=h.c1 _ (by simp);have d:P.cellsOf sE=1:=h.c1 _ (by simp);have c5:P.cellsOf sR=1:=h.c1 _ (by simp);intro n;induction n with
 |zero=>exact⟨bp.zero,bp.zero,bp.zero⟩
 | succ n f=>
  obtain⟨g,i,j⟩:=f;have e:=bp.mono (bp.slice h.JA h.cE (by decide) U.len g) (aa_ n);have k:=bp.mono (bp.slice h.Tz h.cR (by decide) a_.len j) (aa_ n);refine⟨?_,?_,?_⟩
  · refine bp.map (λ(x:Int×Int×List UInt8×Int×Int×ba×List U×Unit)=>(⟨x.1,x.2.1,x.2.2.1,x.2.2.2.1,x.2.2.2.2.1,x.2.2.2.2.2.1,x.2.2.2.2.2.2.1⟩:U)) (λx=>?_) (λx a=>?_)
      (bp.struct h.exp h.lE (by simp[jC,c1,c2,c3,d,h.cL]) (by simp[ib,c1,c2,c3,d,h.cL,h.cE])
        (cD.cons (bp.i64 h.int) (cD.cons (bp.u64 h.u64) (cD.cons (bp.string h.str) (cD.cons (bp.i64 h.int) (cD.cons (bp.i64 h.int) (cD.cons i (cD.cons e cD.nil))))))))
    ·rw[U.bQ];simp
    · obtain⟨h1,b,c,l,m,o,⟨p,q⟩,_⟩:=a;exact⟨h1,b,c,l,m,o,p,U.dT.2 q⟩
  · refine bp.map (λ(x:List UInt8×List a_×Unit)=>(⟨x.1,x.2.1⟩:ba)) (λx=>?_) (λx a=>?_)
      (bp.struct h.Ty h.lL (by simp[jC,c3,c5]) (by simp[ib,c3,c5,h.cL]) (cD.cons (bp.string h.str) (cD.cons k cD.nil)))
    ·rw[ba.bQ];rfl
    · obtain⟨h1,⟨b,c⟩,_⟩:=a;exact⟨h1,b,a_.dT.2 c⟩
  · refine bp.map (λ(x:List UInt8×List U×Unit)=>(⟨x.1,x.2.1⟩:a_)) (λx=>?_) (λx a=>?_)
      (bp.struct h.par h.lR (by simp[jC,c3,d]) (by simp[ib,c3,d,h.cR]) (cD.cons (bp.string h.str) (cD.cons e cD.nil)))
    ·rw[a_.bQ];rfl
    · obtain⟨h1,⟨b,c⟩,_⟩:=a;exact⟨h1,b,U.dT.2 c⟩
end
end Rb

namespace Rb
open Go
structure aG where
 kind:Int
 V:Int
 E:List UInt8
 cp:List UInt8
 aW:Int
 place:ba
 bh:List U
 bj:List aG
 bC:List aG
mutual
def aG.cells:aG→List J
 | .mk kind V E cp aW place bh bj bC=> .int .i64 kind :: .int .i64 V :: .str E :: .str cp :: .int .i64 aW::(ba.cells place++[aZ U.cells bh,.ax .dead bj.length (aG.all bj),.ax .dead bC.length (aG.all bC)])
def aG.all:List aG→List J
 |[]=>[]
 |x::r=>aG.cells x++aG.all r
end
theorem aG.all_eq:∀xs:List aG,aG.all xs=xs.flatMap aG.cells
 |[]=>rfl
 |x::r=>by rw[aG.all,aG.all_eq r,adR]
theorem aG.bQ(x:aG):x.cells = .int .i64 x.kind :: .int .i64 x.V :: .str x.E :: .str x.cp :: .int .i64 x.aW::(x.place.cells++[aZ U.cells x.bh,aZ aG.cells x.bj,aZ aG.cells x.bC]):=by cases x;simp only[aG.cells,aG.all_eq,aZ]
theorem aG.len(x:aG):x.cells.length=10:=by rw[aG.bQ];simp[ba.len]
mutual
def aG.ok:aG→Prop
 | .mk kind V E cp aW place bh bj bC=>jD kind∧jD V∧E.length≤140737488351232∧cp.length≤140737488351232∧jD aW∧ba.ok place∧bh.length≤maxLen∧U.dN bh∧bj.length≤maxLen∧aG.dN bj∧bC.length≤maxLen∧aG.dN bC
def aG.dN:List aG→Prop
 |[]=>True
 |x::r=>aG.ok x∧aG.dN r
end
theorem aG.dT:∀{xs:List aG},aG.dN xs↔∀x∈xs,x.ok
 |[]=>by simp[aG.dN]
 |x::r=>by simp[aG.dN,aG.dT (xs:=r)]
structure ew where
 vars:List B
 dL:List (List aG)
def jE(l:List aG):List J:=[aZ aG.cells l]
def ew.cells(x:ew):List J:=[aZ B.cells x.vars,aZ jE x.dL]
def ew.ok(x:ew):Prop:=(x.vars.length≤maxLen∧∀v∈x.vars,v.ok)∧x.dL.length≤maxLen∧∀t∈x.dL,t.length≤maxLen∧∀s∈t,s.ok
section
variable{H:Type}{enc:TypeId×Value→H}{P:Program}{w:World}{sp:Nat→Bool}{held:Bool}{F:cJ}
theorem TA{ts tT a:TypeId}{b:Array Field}(hs:P.underlying ts=some .string)(c:P.cellsOf ts=1)(cT:P.cellsOf tT=6)(Z:∀n,bp F enc P w sp held n tT T.cells T.ok)
  (e:P.underlying a=some (.struct b)) (g:b.toList.map (λf=>(f.type,f.offset))=[(ts,0),(tT,1)]) (h:P.cellsOf a=7):∀n,bp F enc P w sp held n a B.cells B.ok:=by
 intro n;refine bp.mono (n:=n+1) ?_ (aa_ n);refine bp.map (λ(x:List UInt8×T×Unit)=>(⟨x.1,x.2.1⟩:B)) (λx=>?_) (λx d=>?_)
  (bp.struct e g (by simp[jC,c]) (by simp[ib,c,cT,h]) (cD.cons (bp.string hs) (cD.cons (Z n) cD.nil)))
 ·simp[B.cells]
 ·exact⟨d.1,d.2.1⟩
theorem TB{ti tu ts tE tL tR sE sR a b:TypeId}{fE fL fR c:Array Field}(h:Bh P ti tu ts tE tL tR sE sR fE fL fR)(hS:P.underlying a=some (.struct c))(j:P.underlying b=some (.slice a))
  (k:c.toList.map (λf=>(f.type,f.offset))=[(ti,0),(ti,1),(ts,2),(ts,3),(ti,4),(tL,5),(sE,7),(b,8),(b,9)]) (d:P.cellsOf a=10) (e:P.cellsOf b=1) :
  ∀n,bp F enc P w sp held n a aG.cells aG.ok:=by
 have c1:P.cellsOf ti=1:=h.c1 _ (by simp);have c3:P.cellsOf ts=1:=h.c1 _ (by simp);have g:P.cellsOf sE=1:=h.c1 _ (by simp);intro n;induction n with
 |zero=>exact bp.zero
 | succ n l=>
  have m:=bp.mono (bp.slice h.JA h.cE (by decide) U.len (JB (F:=F) (enc:=enc) (w:=w) (sp:=sp) (held:=held) h n).1) (aa_ n);have i:=bp.mono (bp.slice j d (by decide) aG.len l) (aa_ n);refine bp.map (λ(x:Int×Int×List UInt8×List UInt8×Int×ba×List U×List aG×List aG×Unit)=>(⟨x.1,x.2.1,x.2.2.1,x.2.2.2.1,x.2.2.2.2.1,x.2.2.2.2.2.1,x.2.2.2.2.2.2.1,x.2.2.2.2.2.2.2.1,x.2.2.2.2.2.2.2.2.1⟩:aG)) (λx=>?_) (λx o=>?_)
   (bp.struct hS k (by simp[jC,c1,c3,g,e,h.cL]) (by simp[ib,c1,c3,g,e,h.cL,d])
     (cD.cons (bp.i64 h.int) (cD.cons (bp.i64 h.int) (cD.cons (bp.string h.str) (cD.cons (bp.string h.str) (cD.cons (bp.i64 h.int) (cD.cons (JB h n).2.1 (cD.cons m (cD.cons i (cD.cons i cD.nil))))))))))
  ·rw[aG.bQ];simp
  · obtain⟨h1,p,q,r,s,t,⟨u,v⟩,⟨y,z⟩,⟨A,B⟩,_⟩:=o;exact⟨h1,p,q,r,s,t,u,U.dT.2 v,y,aG.dT.2 z,A,aG.dT.2 B⟩
theorem TC{d a e b c g:TypeId}{h:Array Field}(k:∀n,bp F enc P w sp held n d B.cells B.ok)(hS:∀n,bp F enc P w sp held n e aG.cells aG.ok)
  (l:P.underlying a=some (.slice d)) (m:P.underlying b=some (.slice e)) (o:P.underlying c=some (.slice b)) (p:P.cellsOf d=7) (q:P.cellsOf e=10) (r:P.cellsOf b=1) (i:P.cellsOf a=1) (s:P.cellsOf c=1)
  (t:P.underlying g=some (.struct h)) (u:h.toList.map (λf=>(f.type,f.offset))=[(a,0),(c,1)]) (v:P.cellsOf g=2):∀n,bp F enc P w sp held n g ew.cells ew.ok:=by
 intro n;refine bp.mono (n:=n+2+1) ?_ (by omega);have k1:bp F enc P w sp held (n+2) a (λxs:List B=>[aZ B.cells xs]) (λxs=>xs.length≤maxLen∧∀x∈xs,x.ok):=bp.slice l p (by decide) B.len (k (n+1));have k2:bp F enc P w sp held (n+1) b jE (λxs=>xs.length≤maxLen∧∀x∈xs,x.ok):=bp.slice m q (by decide) aG.len (hS n);have z:bp F enc P w sp held (n+2) c (λxs:List (List aG)=>[aZ jE xs]) (λxs=>xs.length≤maxLen∧∀x∈xs,x.length≤maxLen∧∀y∈x,y.ok):=bp.slice o r (by decide) (λ_=>rfl) k2;refine bp.map (λ(x:List B×List (List aG)×Unit)=>(⟨x.1,x.2.1⟩:ew)) (λx=>?_) (λx j=>?_)
  (bp.struct t u (by simp[jC,i]) (by simp[ib,i,s,v]) (cD.cons k1 (cD.cons z cD.nil)))
 ·simp[ew.cells]
 ·exact⟨j.1,j.2.1⟩
end
end Rb

namespace Rb
open Go
@[simp] theorem X {α:Type} (a:α) (K:α→Prop):Do (some a) K↔K a:=⟨λ⟨b,h,k⟩=>by cases h;exact k,λh=>⟨a,rfl,h⟩⟩
@[simp] theorem aK (v:J) (H:AH) (K:ab):aw (some (v,H)) K↔K v H:=⟨λ⟨a,b,h,k⟩=>by cases h;exact k,λh=>⟨v,H,rfl,h⟩⟩
@[simp] theorem F (b:Bool) (A B:Prop):L (.bool b) true A B↔if b=true then A else B:=ad6
@[simp] theorem Z9 (b:Bool) (A B:Prop):L (.bool b) false A B↔if b=false then A else B:=ad6
@[simp] theorem aE (K:List J→AH→Prop) (st:List J) (H:AH):G K st H↔K st H:=ad6
@[simp] theorem ay (a:J) (l:List J):D (a::l) 0=a:=rfl
@[simp] theorem bY (a:J) (l:List J) (i:Nat):D (a::l) (i+1)=D l i:=rfl
section
variable(k:IntKind)(a b:Int)
@[simp] theorem br:M .add (.int k a) (.int k b)=some (.int k (k.wrap (a+b))):=by simp[M,cc]
@[simp] theorem cM:M .sub (.int k a) (.int k b)=some (.int k (k.wrap (a-b))):=by simp[M,cc]
@[simp] theorem fY:M .mul (.int k a) (.int k b)=some (.int k (k.wrap (a*b))):=by simp[M,cc]
@[simp] theorem bL:M .eql (.int k a) (.int k b)=some (.bool (a==b)):=by simp[M,cc]
@[simp] theorem dA:M .neq (.int k a) (.int k b)=some (.bool (a != b)):=by simp[M,cc]
@[simp] theorem aU:M .lss (.int k a) (.int k b)=some (.bool (decide (a<b))):=by simp[M,cc]
@[simp] theorem gy:M .leq (.int k a) (.int k b)=some (.bool (decide (a≤b))):=by simp[M,cc]
@[simp] theorem dy:M .gtr (.int k a) (.int k b)=some (.bool (decide (a>b))):=by simp[M,cc]
@[simp] theorem ec:M .geq (.int k a) (.int k b)=some (.bool (decide (a≥b))):=by simp[M,cc]
theorem nN(h:b≠0):M .rem (.int k a) (.int k b)=some (.int k (a.tmod b)):=by simp[M,cc,h]
theorem k0(h:b≠0):M .quo (.int k a) (.int k b)=some (.int k (k.wrap (a.tdiv b))):=by simp[M,cc,h]
@[simp] theorem Bi:M .and (.int k a) (.int k b)=some (.int k (k.wrap (KT k.bits a &&& KT k.bits b).toNat)):=by simp[M,cc,jj]
@[simp] theorem TD:M .or (.int k a) (.int k b)=some (.int k (k.wrap (KT k.bits a ||| KT k.bits b).toNat)):=by simp[M,cc,jj]
@[simp] theorem TE:M .xor (.int k a) (.int k b)=some (.int k (k.wrap (KT k.bits a ^^^ KT k.bits b).toNat)):=by simp[M,cc,jj]
theorem Bj(k':IntKind)(h:0≤b):M .shr (.int k a) (.int k' b)=some (.int k (a.fdiv (2^(min b.toNat k.bits)))):=by simp[M,cc,ad7.2 h]
theorem rz(k':IntKind)(h:0≤b):M .shl (.int k a) (.int k' b)=some (.int k (k.wrap (a*2^(min b.toNat k.bits)))):=by simp[M,cc,ad7.2 h]
@[simp] theorem gz (k':IntKind):db k' (.int k a)=some (.int k' (k'.wrap a)):=rfl
@[simp] theorem TF (neg:Bool) (x y:Bool):ku neg (.bool x) (.bool y)=some (.bool (if neg then !(x==y)else x==y)):=rfl
@[simp] theorem dO (x:Bool):cC .not (.bool x)=some (.bool !x):=rfl
end
@[simp] theorem iC (tk:Tok) (n:Nat) (cs:List J):aY false (.ax tk n cs)=some (I n):=rfl
@[simp] theorem j7 (id o n sz:Nat):aY false (.row id o n sz)=some (I n):=rfl
@[simp] theorem TG (s:List UInt8):aY true (.str s)=some (I s.length):=rfl
end Rb

namespace Rb
open Go
variable{id i:Nat}{x:bS}{n:Int}{cs:List J}
def AH.Ext(H H':AH):Prop:=H.n≤H'.n∧∀i,i<H.n→H'.o i=H.o i
theorem AH.Ext.refl(H:AH):AH.Ext H H:=⟨hT _,λ_ _=>rfl⟩
theorem AH.Ext.trans{a b c:AH}(h:AH.Ext a b)(k:AH.Ext b c):AH.Ext a c:=⟨np h.1 k.1,λi hi=>(k.2 i (sl hi h.1)).trans (h.2 i hi)⟩
theorem AH.Ext.push(H:AH)(x:bS):AH.Ext H (H.push x):=⟨aa_ _,λi hi=>ai (abe hi)⟩
theorem AH.Ext.set{H H':AH}(h:AH.Ext H H')(hi:H.n≤i)(x:bS):AH.Ext H (H'.set i x):=⟨h.1,λj a=>by simp only[AH.set];rw[bO];exact h.2 j a⟩
@[simp] theorem AH.Z_ (H:AH) (x:bS):(H.push x).n=H.n+1:=rfl
@[simp] theorem AH.aaa (H:AH) (i:Nat) (x:bS):(H.set i x).n=H.n:=rfl
theorem AH.pV(H:AH)(x:bS):(H.push x).o H.n=x:=af rfl
theorem AH.JC(H:AH)(x:bS)(h:i≠H.n):(H.push x).o i=H.o i:=ai h
theorem AH.TI(H:AH)(i:Nat)(x:bS):(H.set i x).o i=x:=af rfl
theorem AH.cd(H:AH){i j:Nat}(x:bS)(h:j≠i):(H.set i x).o j=H.o j:=ai h
theorem wrap_i64(a : -9223372036854775808≤n)(b:n≤9223372036854775807):abF .i64 n=n:=by simp[abF,aaG,aaH];omega
theorem wrap_u64(a:0≤n)(b:n<18446744073709551616):abF .u64 n=n:=by simp[abF,aaG,aaH];omega
def gY(H0 H:AH)(sz:Nat)(x:J)(a:Nat)(cells:List J):Prop:=AH.Ext H0 H∧∃tk,x = .ax tk a cells∧cells.length=a*sz∧((tk = .nil∧a=0)∨∃t,tk = .own t∧H0.n≤t∧t<H.n∧H.o t = .tok (a*sz) sz)
theorem gY.nil(H:AH)(sz:Nat):gY H H sz aA 0 []:=⟨AH.Ext.refl H,.nil,rfl,by simp,.inl ⟨rfl,rfl⟩⟩
theorem gY.append{H0 H:AH}{sz bytes a m:Nat}{x y:J}{cells news:List J}{K:ab}(h:gY H0 H sz x a cells)(c:ef H sz y=some (m,news))(i:news.length=m*sz)(hs:news.all J.scalar=true)(d:m≠0)
  (e:(a+m)*bytes≤140737488355328) (hl:a+m≤9223372036854775807) (f:∀g H',gY H0 H' sz g (a+m) (cells++news)→K g H'):aw (bR H false sz bytes x y) K:=by
 obtain⟨b,tk,rfl,hc,j⟩:=h;have hlen:(cells++news).length=(a+m)*sz:=by simp[hc,i,aa3]
 rcases j with⟨rfl,rfl⟩|⟨t,rfl,h1,l,k⟩
 · refine⟨.ax (.own H.n) (0+m) (cells++news),H.push (.tok ((0+m)*sz) sz),?_,f _ _ ⟨b.trans (AH.Ext.push _ _),_,rfl,hlen,.inr ⟨H.n,rfl,b.1,adn _,AH.pV _ _⟩⟩⟩;simp only[bR,c,hs,not_true_eq_false,bz,ai d];rw[ai (by simp only[ad8];exact⟨hc,e,hl⟩)]
 · refine⟨.ax (.own H.n) (a+m) (cells++news),(H.set t .gone).push (.tok ((a+m)*sz) sz),?_,f _ _ ⟨(b.set h1 _).trans (AH.Ext.push _ _),_,rfl,hlen,.inr ⟨H.n,rfl,b.1,adn _,AH.pV _ _⟩⟩⟩;simp only[bR,c,hs,not_true_eq_false,bz,ai d];rw[ai (by simp only[ad8];exact⟨hc,e,hl⟩)];simp[k]
def At(H:AH)(id:Nat)(x:bS):Prop:=id<H.n∧H.o id=x
theorem At.new(H:AH)(x:bS):At (H.push x) H.n x:=⟨adn _,AH.pV H x⟩
theorem At.ext{H H':AH}(h:At H id x)(a:AH.Ext H H'):At H' id x:=⟨sl h.1 a.1,(a.2 id h.1).trans h.2⟩
theorem At.push{H:AH}(h:At H id x)(y:bS):At (H.push y) id x:=h.ext (AH.Ext.push H y)
theorem At.cd{H:AH}(h:At H id x)(a:id≠i)(y:bS):At (H.set i y) id x:=⟨h.1,(AH.cd H y a).trans h.2⟩
theorem At.set{H:AH}(h:At H id x)(y:bS):At (H.set id y) id y:=⟨h.1,AH.TI H id y⟩
theorem At.ne{H:AH}{x y:bS}(h:At H id x)(k:At H i y)(a:x≠y):id≠i:=λe=>a (by rw[←h.2,←k.2,e])
theorem At.jF{H:AH}(h:At H id x):id≠H.n:=abe h.1
theorem At.load{H:AH}(h:At H id (.row cs))(n o:Nat)(agg:Bool):W H n agg (.ptr id o)=bE cs o n agg:=by simp[W,h.2]
theorem At.store{H:AH}(h:At H id (.row cs))(n o:Nat)(v:J):au H n (.ptr id o) v=if v.known∧v.cells.length=n∧v.cells.all J.scalar∧o+n≤cs.length then some (H.set id (.row (setCells cs o v.cells)))else none:=by simp[au,h.2]
theorem bJ(a : -9223372036854775808≤n:=by omega)(b:n≤9223372036854775807:=by omega):abF .i64 n=n:=wrap_i64 a b
theorem JD(a:0≤n:=by omega)(b:n<18446744073709551616:=by omega):abF .u64 n=n:=wrap_u64 a b
end Rb

namespace Rb
open Go
variable{α:Type}{i:Nat}
@[simp] theorem cx (b:Bool) (A B C:Prop):aN (.bool b) true A B C↔if b=true then A else B:=ad6
@[simp] theorem ck (b:Bool) (A B C:Prop):aN (.bool b) false A B C↔if b=false then A else B:=ad6
@[simp] theorem aab (want:Bool) (A B C:Prop):aN (.ar []) want A B C↔C:=ad6
theorem aB{c:Prop}[Decidable c]{A B:Prop}(a:c→A)(b:¬c→B):if c then A else B:=by
 split
 ·exact a ‹_›
 ·exact b ‹_›
theorem fb{xs:List α}(h:xs.drop i=[]):xs.length≤i:=by simpa using h
theorem eN{xs b:List α}{y:α}(h:xs.drop i=y::b):i<xs.length∧xs[i]?=some y∧xs.drop (i+1)=b:=by
 have c:i<xs.length:=by
  rcases Nat.lt_or_ge i xs.length with a|a
  ·exact a
  ·rw[List.drop_eq_nil_of_le a]at h;cases h
 refine⟨c,?_,?_⟩
 · have:=congrArg (λl=>l[0]?) h;simpa using this
 · have:=congrArg List.tail h;simpa using this
end Rb

namespace Rb
open Go
section
variable{α:Type}{cells:α→List J}{sz:Nat}
theorem w_(hc:∀x,(cells x).length=sz):∀(xs:List α)(i:Nat),(xs.flatMap cells).drop (i*sz)=(xs.drop i).flatMap cells:=by
 intro xs i;induction i generalizing xs with
 |zero=>simp
 | succ i a=>
  cases xs with
  |nil=>simp
  | cons x xs=>rw[adR,List.drop_succ_cons,←a,show(i+1)*sz=(cells x).length+i*sz by rw[hc,aa3,Nat.one_mul,Nat.add_comm],←ad1,List.drop_left]
theorem TJ(hc:∀x,(cells x).length=sz)(xs:List α):(xs.flatMap cells).length=xs.length*sz:=by
 induction xs with
 |nil=>simp
 |cons x xs a=>rw[adR,ad9,a,hc,List.length_cons,aa3];omega
def eO(cells:α→List J)(sz:Nat)(xs:List α)(i:Nat):J:= .ak ((xs.flatMap cells).drop (i*sz))
theorem dF{xs:List α}{i:Nat}(hi:i<xs.length):aL none sz (aZ cells xs) (I i)=some (eO cells sz xs i):=by simp only[aZ,aL];rw[af ⟨by omega,by omega⟩];rfl
theorem eh(hc:∀x,(cells x).length=sz)(d:0<sz)(H:AH){xs:List α}{i:Nat}{x:α}(a:xs[i]?=some x):W H sz true (eO cells sz xs i)=some (.agg (cells x)):=by
 have b:=(aat.1 a).1;have c:xs.drop i=x::xs.drop (i+1):=by rw[ad_ b];rw[abm b]at a;simp at a;rw[a]
 show bE ((xs.flatMap cells).drop (i*sz)) 0 sz true=_;rw[w_ hc,c,adR];unfold bE;rw[af (by rw[ad9,hc];omega)];simp only[aT,ad3];rw[aea (by rw[hc];omega),aeb (by rw[hc];omega)]
def xc(sz:Nat)(Φ:ad)(a0:J)(Y:J)(d:J)(Q:ab):(List J×AH)→((List J×AH)→Prop)→Prop:=λs2 e=>
 Do (M .lss (D s2.1 0) d) λf=>
 L f true (
 Do (aL none sz a0 (D s2.1 0)) λg=>
 Do (W s2.2 sz true g) λh=>
 ∃a b,Y = .fn a b∧Φ (fI a) (fJ a [h] b) s2.2 λi c=>
 L i true (
 Q (D s2.1 0) c) (
 Do (M .add (D s2.1 0) (I 1)) λj=>
 e ([j],c))) (
 Q (I (-1)) s2.2)
def rA(sz:Nat)(Φ:ad)(a0:J)(Y:J)(H:AH)(Q:ab):Prop:=
 Do (aY false a0) λa=>
 av (xc sz Φ a0 Y a Q) ([O],H)
def fZ:Option Nat→Int
 |some i=>i
 |none=> -1
theorem Bk{Φ:ad}(hc:∀x,(cells x).length=sz)(e:0<sz){p:α→Bool}{key:Nat}{bH:List J}{xs:List α}{H:AH}(hf:∀x∈xs,∀(R:ab),R (.bool (p x)) H→Φ key ([.agg (cells x)]++bH) H R)(hl:xs.length≤9223372036854775807){Q:ab}
  (f:Q (I (fZ (xs.findIdx? p))) H) (c:fC key=none:=by first|assumption|rfl):rA sz Φ (aZ cells xs) (.fn key bH) H Q:=by
 unfold rA;have hlen:aY false (aZ cells xs)=some (I xs.length):=rfl;rw[hlen];simp only[X];have main:∀(a:List α)(i:Nat),xs.drop i=a→Q (I (fZ ((a.findIdx? p).map (·+ i)))) H→av (xc sz Φ (aZ cells xs) (.fn key bH) (I xs.length) Q) ([I i],H):=by
  intro a;induction a with
  | nil=>intro i hi b;have hle:=fb hi;refine av.step ?_;simp only[xc,ay,aU,X,F];rw[fO];simpa[fZ]using b
  | cons y a g=>
   intro i hi b;obtain⟨h,d,j⟩:=eN hi;refine av.step ?_;simp only[xc,ay,aU,X,F];rw[fc,dF h];simp only[X];rw[eh hc e H d];simp only[X];refine⟨key,bH,rfl,?_⟩;rw[yz c,yA c];refine hf y (adl d) _ ?_;simp only[F];rw[List.findIdx?_cons]at b;by_cases he:p y=true
   · rw[af he];rw[af he]at b;simpa[fZ]using b
   · rw [ai he];rw[ai he]at b;simp only[br,X];rw[bJ,iY i];refine g (i+1) j ?_;have:(aec p a).map (·+ (i+1))=((aec p a).map (·+ 1)).map (·+ i):=by
      rw[Option.map_map];congr 1;funext k;simp only[Function.comp];omega
     rw[this];exact b
 refine main xs 0 rfl ?_;simpa using f
end
end Rb

namespace Rb
open Go
theorem lN(a b:List J):J.b7 (a++b)=(J.b7 a&&J.b7 b):=by rw[ny,ny,ny,aed]
mutual
theorem T.bI:∀x:T,J.b7 x.cells=true
 | .mk kind size packed aP b5 bw=>by simp only[T.cells,J.b7,J.bI,Tok.free,aJ.hJ aP,T.hJ bw,ady]
theorem T.hJ:∀xs:List T,J.b7 (T.all xs)=true
 |[]=>rfl
 |x::r=>by rw[T.all,lN,T.bI x,T.hJ r];rfl
theorem aJ.bI:∀x:aJ,J.b7 x.cells=true
 | .mk E type bits be=>by simp only[aJ.cells,J.b7,J.bI,lN,T.bI type,ady]
theorem aJ.hJ:∀xs:List aJ,J.b7 (aJ.all xs)=true
 |[]=>rfl
 |x::r=>by rw[aJ.all,lN,aJ.bI x,aJ.hJ r];rfl
end
mutual
theorem U.bI:∀x:U,J.b7 x.cells=true
 | .mk kind n E op aW place bu=>by simp only[U.cells,J.b7,J.bI,lN,Tok.free,ba.bI place,U.hJ bu,ady]
theorem U.hJ:∀xs:List U,J.b7 (U.all xs)=true
 |[]=>rfl
 |x::r=>by rw[U.all,lN,U.bI x,U.hJ r];rfl
theorem ba.bI:∀x:ba,J.b7 x.cells=true
 | .mk var bm=>by simp only[ba.cells,J.b7,J.bI,Tok.free,a_.hJ bm,ady]
theorem a_.bI:∀x:a_,J.b7 x.cells=true
 | .mk field bD=>by simp only[a_.cells,J.b7,J.bI,Tok.free,U.hJ bD,ady]
theorem a_.hJ:∀xs:List a_,J.b7 (a_.all xs)=true
 |[]=>rfl
 |x::r=>by rw[a_.all,lN,a_.bI x,a_.hJ r];rfl
end
theorem nO{α:Type}{cells:α→List J}(h:∀x,J.b7 (cells x)=true)(xs:List α):(aZ cells xs).bI=true:=by
 have:J.b7 (xs.flatMap cells)=true:=by
  induction xs with
  |nil=>rfl
  |cons x xs a=>rw[adR,lN,h,a];rfl
 simp only[aZ,J.bI,Tok.free,this,ady]
theorem B.bI(x:B):J.b7 x.cells=true:=by simp only[B.cells,J.b7,J.bI,T.bI,ady]
mutual
theorem aG.bI:∀x:aG,J.b7 x.cells=true
 | .mk kind V E cp aW place bh bj bC=>by simp only[aG.cells,J.b7,J.bI,lN,Tok.free,ba.bI place,nO U.bI bh,aG.hJ bj,aG.hJ bC,ady]
theorem aG.hJ:∀xs:List aG,J.b7 (aG.all xs)=true
 |[]=>rfl
 |x::r=>by rw[aG.all,lN,aG.bI x,aG.hJ r];rfl
end
theorem TK(l:List aG):J.b7 (jE l)=true:=by simp only[jE,J.b7,nO aG.bI,ady]
theorem ew.bI(x:ew):J.b7 x.cells=true:=by simp only[ew.cells,J.b7,nO B.bI,nO TK,ady]
end Rb

namespace Rb
open Go
@[simp] theorem AH.TL (H:AH) (x y:bS):(H.push x).set H.n y=H.push y:=by simp only[AH.push,AH.set];congr 1;funext j;split<;>rfl
@[simp] theorem ey (H:AH) (cs:List J) (n o:Nat) (agg:Bool):W (H.push (.row cs)) n agg (.ptr H.n o)=bE cs o n agg:=by simp[W,AH.pV]
theorem TM(H:AH)(cs:List J)(n o:Nat)(v:J)(a:v.known=true)(b:v.cells.length=n)(c:v.cells.all J.scalar=true)(d:o+n≤cs.length):au (H.push (.row cs)) n (.ptr H.n o) v=some (H.push (.row (setCells cs o v.cells))):=by rw[(At.new H (.row cs)).store,af ⟨a,b,c,d⟩,AH.TL]
theorem pW{xs a:List J}:∀{k:Nat},k+a.length=xs.length→setCells xs k a=xs.take k++a:=by
 induction a generalizing xs with
 |nil=>intro k h;simp only[setCells];rw[aee,aeb (by simp at h;omega)]
 | cons y a b=>
  intro k h;simp only[setCells];rw[b (by simp at h ⊢;omega)];have hk:k<xs.length:=by simp at h;omega
  rw[List.take_add_one,List.getElem?_set_self hk,List.take_set_of_le (by omega)];simp
theorem cG(H:AH)(zs cs:List J)(n:Nat)(a:cs.length=n)(b:cs.all J.scalar=true)(c:zs.length=n):au (H.push (.row zs)) n (.ptr H.n 0) (.agg cs)=some (H.push (.row cs)):=by rw[TM H zs n 0 (.agg cs) rfl a b (by omega)];congr 3;show setCells zs 0 cs=cs;rw[pW (by omega)];rfl
theorem rB{a b:List J}{n:Nat}(h:a.length=n):bE (a++b) 0 n true=some (.agg a):=by unfold bE;rw[af (by rw[ad9];omega)];simp only[aT,ad3];rw[aea (by omega),aeb (by omega)]
theorem dP{a:List J}{n:Nat}(h:a.length=n):bE a 0 n true=some (.agg a):=by have:=rB (a:=a) (b:=[]) h;rwa [aee]at this
theorem JE{cs:List J}{o n:Nat}{agg:Bool}(h:o≤cs.length):bE cs o n agg=bE (cs.drop o) 0 n agg:=by
 by_cases hl:o+n≤cs.length
 · have a:0+n≤(cs.drop o).length:=by rw[aef];omega
   unfold bE;simp only[hl,a,aT];cases agg<;>simp
 · have a:¬0+n≤(cs.drop o).length:=by rw[aef];omega
   unfold bE;simp only[hl,a,bz]
mutual
theorem T.scalar:∀x:T,x.cells.all J.scalar=true
 | .mk kind size packed aP b5 bw=>by simp[T.cells,J.scalar]
theorem aJ.scalar:∀x:aJ,x.cells.all J.scalar=true
 | .mk E type bits be=>by simp only[aJ.cells,adk,aed,T.scalar type];rfl
end
theorem ba.scalar(x:ba):x.cells.all J.scalar=true:=by rw[ba.bQ];rfl
theorem a_.scalar(x:a_):x.cells.all J.scalar=true:=by rw[a_.bQ];rfl
theorem U.scalar(x:U):x.cells.all J.scalar=true:=by rw[U.bQ];simp only[adk,aed,ba.scalar];rfl
theorem aG.scalar(x:aG):x.cells.all J.scalar=true:=by rw[aG.bQ];simp only[adk,aed,ba.scalar];rfl
theorem B.scalar(x:B):x.cells.all J.scalar=true:=by simp only[B.cells,adk,T.scalar];rfl
end Rb

namespace Rb
open Go
def i1(k:IntKind)(z:Int):List J:=[.int k z]
section
variable{α:Type}{c:α→J}
theorem JF(H:AH){xs:List α}{i:Nat}{x:α}(a:xs[i]?=some x):W H 1 false (eO (λx=>[c x]) 1 xs i)=some (c x):=by
 have b:=(aat.1 a).1;have d:xs.drop i=x::xs.drop (i+1):=by rw[ad_ b];rw[abm b]at a;simp at a;rw[a]
 show bE ((xs.flatMap λx=>[c x]).drop (i*1)) 0 1 false=_;rw[w_ (sz:=1) (λ_=>rfl),d,adR];rfl
end
theorem dY{α:Type}(cells:α→List J)(xs:List α):aY false (aZ cells xs)=some (I xs.length):=rfl
end Rb

namespace Rb
open Go
variable{n b0 b1 b2 b3 i:Nat}{s:List UInt8}{c:UInt8}
def bF(Φ:ad)(k:Nat)(args:List J)(v:J):Prop:=∀(H:AH)(Q:ab),Q v H→Φ k args H Q
theorem bF.of{C:Ctx}(aj:bX C){k:Nat}{args:List J}{v:J}(a:J.b7 args=true)(hv:v.bI=true)(h:∀Q:ab,(∀H',Q v H')→ae C k args AH.mt Q):bF (ae C) k args v:=λH Q b=>ae.Ek (Q:=λu _=>u=v) aj (h _ λ_=>rfl) a H Q λu _ hu=>by subst hu;exact⟨hv,b⟩
def isLet(c:UInt8):Bool:=decide (97≤c.toNat)&&decide (c.toNat≤122)
def Bl(c:UInt8):Bool:=decide (48≤c.toNat)&&decide (c.toNat≤57)
def lO(c:UInt8):Bool:=isLet c||Bl c||decide (c.toNat=95)
def eP:List UInt8→Bool
 |[]=>false
 |c::r=>decide (r.length<16)&&isLet c&&r.all lO
theorem TN(h:b0<128):aeg n b0 b1 b2 b3=(b0,1):=by unfold aeg;rw[af h]
theorem TO(h:¬b0<128):128≤(aeg n b0 b1 b2 b3).1:=by
 unfold aeg;rw[ai h]
 repeat' split
 all_goals (dsimp only;omega)
theorem JG(hc:s[i]?=some c)(h:c.toNat<128):aas ⟨s.toArray⟩ i=(c.toNat,1):=by
 have e:(aaC s.toArray).get! i=c:=by show s.toArray[i]! = c;have hi:=(aat.1 hc).1;rw[getElem!_pos s.toArray i (by simpa using hi)];simp[abm hi]at hc;simpa using hc
 rw[aeh,e,TN h]
theorem TP(hc:s[i]?=some c)(h:¬c.toNat<128):128≤(aas ⟨s.toArray⟩ i).1:=by
 have e:(aaC s.toArray).get! i=c:=by show s.toArray[i]! = c;have hi:=(aat.1 hc).1;rw[getElem!_pos s.toArray i (by simpa using hi)];simp[abm hi]at hc;simpa using hc
 rw[aeh,e];exact TO h
def eQ(n a:Int):Bool:=(n==1||n==2||n==4||n==8||n==16)&&decide (n≤a)
def hK(kind b:Int)(packed:Bool)(c:Nat)(b5:Int)(a:Nat):Bool:=
 if kind=1∨kind=2 then !packed&&c==0&&b5==0&&a==0
 else if kind=3∨kind=4 then b==0&&b5==0&&a==0
 else if kind=5 then b==0&&!packed&&c==0&&a==1
 else false
mutual
def cQ:T→Int
 | .mk kind size packed aP b5 bw=>
  if hK kind size packed aP.length b5 bw.length=false then 8
  else if kind=1 then(if eQ size 8 then 0 else 9)
  else if kind=2 then(if eQ size 16 then 0 else 9)
  else if kind=5 then(if b5<1∨65536<b5 then 9 else JH bw)
  else if aP.length<1∨32<aP.length then 12
  else fe packed [] aP
def JH:List T→Int
 |[]=>0
 |t::_=>cQ t
def f_(packed:Bool)(seen:List (List UInt8)):aJ→Int
 | .mk E type bits be=>
  if eP E=false∧(E≠[]∨bits=false)then 6
  else if E≠[]∧seen.contains E=true then 7
  else if cQ type≠0 then cQ type
  else if(bits=false∧be≠0)∨(bits=true∧(type.kind≠1∨packed=true))then 8
  else if bits=true∧(be<0∨8*type.size<be∨(be=0∧E≠[]))then 9
  else 0
def fe(packed:Bool)(seen:List (List UInt8)):List aJ→Int
 |[]=>0
 |f::r=>if f_ packed seen f≠0 then f_ packed seen f else fe packed (seen++[f.E]) r
end
mutual
def ei(a:Nat):T→Int
 | .mk kind size packed aP b5 bw=>if 1<a then max (fj (a-1) aP) (e5 (a-1) bw)+1 else 1
def rC(a:Nat):aJ→Int
 | .mk E type bits be=>ei a type
def fj(a:Nat):List aJ→Int
 |[]=>0
 |f::r=>max (rC a f) (fj a r)
def e5(a:Nat):List T→Int
 |[]=>0
 |t::r=>max (ei a t) (e5 a r)
end
def eR(t:T):Int:=if 64<ei 65 t then 5 else cQ t
theorem T.ind{P:T→Prop}(h:∀t:T,(∀f∈t.aP,P f.type)→(∀e∈t.bw,P e)→P t):∀t,P t:=by
 have main:∀(n:Nat)(t:T),sizeOf t<n→P t:=by
  intro n;induction n with
  |zero=>intro t ht;omega
  | succ n a=>
   intro t ht;refine h t (λf hf=>a _ ?_) λe he=>a _ ?_
   · cases t with
     | mk kind size packed aP b5 bw=>
      have:=aei hf;cases f with
      |mk E type bits be=>simp at this ht ⊢;omega
   · cases t with
     | mk kind size packed aP b5 bw=>have:=aei he;simp at this ht ⊢;omega
 exact λt=>main _ t (adn _)
end Rb

namespace Rb
open Go
variable{op c:Int}{b:Bool}{A B:Prop}{zs cs:List J}{n:Nat}
theorem cz(a:b=true→A)(c:b=false→B):if b=true then A else B:=aB a λh=>c (by simpa using h)
theorem nP(a:b=false→A)(c:b=true→B):if b=false then A else B:=aB a λh=>c (by simpa using h)
def pX(op:Int):Int×List UInt8:=
 if op=17 then(960495616,[100,97,111,115])else
 if op=18 then(956301312,[100,97,111,115])else
 if op=19 then(148896768,[100,97,115])else
 if op=20 then(144702464,[100,97,115])else
 if op=21 then(140475392,[100,97,115])else
 if op=22 then(140508160,[100,97,115])else
 if op=23 then(134249472,[100,97,115,109])else
 if op=24 then(134282240,[100,97,115,109])else
 if op=25 then(3363766272,[100,97,101])else
 if op=26 then(3363799040,[100,97,101])else
 if op=27 then(3357540352,[100,97,101,109])else
 if op=28 then(3357573120,[100,97,101,109])else(0,[])
def pY(op:Int):Int×List UInt8:=
 if op=13 then(335544320,[98])else
 if op=14 then(1409286144,[120,99])else
 if op=15 then(3019898880,[100,120])else
 if op=16 then(3036676096,[100,120])else
 if op=29 then(3573756095,[102])else
 if op=30 then(3573759839,[122])else
 if op=31 then(3556769793,[105])else
 if op=32 then(3558866944,[105])else pX op
def ej(op:Int):Int×List UInt8:=
 if op=1 then(3531603968,[100,105,113])else
 if op=2 then(4068474880,[100,105,113])else
 if op=3 then(2332033024,[100,110,109])else
 if op=4 then(3405774848,[100,110,109])else
 if op=5 then(3942645760,[100,110,109])else
 if op=6 then(2315255808,[100,110,109])else
 if op=7 then(2852126720,[100,110,109])else
 if op=8 then(3388997632,[100,110,109])else
 if op=9 then(2600500224,[100,110,109])else
 if op=10 then(2596282368,[100,110,109])else
 if op=11 then(2596283392,[100,110,109])else
 if op=12 then(2594113504,[100,107])else pY op
def cq(c:Int):Int×Int×Bool×Int×Int:=
 if c=100 then(0,5,false,0,31)else
 if c=110 then(5,5,false,0,31)else
 if c=97 then(5,5,false,0,30)else
 if c=109 then(16,5,false,0,31)else
 if c=101 then(10,5,false,0,31)else
 if c=113 then(21,2,false,0,3)else
 if c=99 then(0,2,false,0,3)else
 if c=107 then(12,2,false,1,3)else
 if c=115 then(30,2,false,0,3)else
 if c=105 then(5,16,false,0,65535)else
 if c=111 then(10,12,false,0,4095)else
 if c=98 then(0,26,true,0,0)else
 if c=120 then(5,19,true,0,0)else
 if c=102 then(8,4,false,0,2)else(0,0,false,0,0)
def ez(f:Int×Int×Bool×Int×Int):List J:=[.int .i64 f.1,.int .i64 f.2.1,.bool f.2.2.1,.int .u32 f.2.2.2.1,.int .i64 f.2.2.2.2]
def JI(c:Int)(f:Int×Int×Bool×Int×Int):Prop:=0≤f.1∧f.1≤31∧0≤f.2.1∧f.2.1≤26∧(f.2.2.1=true→1≤f.2.1)∧(c=102→f.2.2.1=false∧f.2.2.2.2=2)
theorem iD{α:Type}{c:Prop}[Decidable c]{a b:α}(P:α→Prop)(d:c→P a)(e:¬c→P b):P (if c then a else b):=by
 split
 ·exact d ‹_›
 ·exact e ‹_›
theorem Bm(c:Int):JI c (cq c):=by
 unfold cq
 iterate 14 (refine iD (JI c) (λh=>by subst h;exact⟨by decide,by decide,by decide,by decide,by decide,by decide⟩) (λh=>?_))
 exact⟨by decide,by decide,by decide,by decide,by decide,λe=>absurd e (by omega)⟩
def lP(r:Int×List UInt8):J:= .agg [.int .u32 r.1,.str r.2]
section
variable{Φ:ad}{H:AH}{Q:ab}
theorem nQ{a:List (Nat×Nat×J)}(d:∀H',Q (.agg cs) H')(e:aD zs a=some (.agg cs))(b:cs.length=n)(f:cs.all J.scalar=true)(g:zs.length=n) :
  Do (aD zs a) λh=>Do (au (H.push (.row zs)) n (.ptr H.n 0) h) λc=>Do (W c n true (.ptr H.n 0)) λi=>Q i c:=by
 rw[e];simp only[X];rw[cG H zs cs n b f g];simp only[X];rw[(At.new H _).load,dP b];simp only[X];exact d _
theorem JJ(c:∀H',Q (.agg cs) H')(a:cs.length=n)(d:cs.all J.scalar=true)(e:zs.length=n) :
  Do (au (H.push (.row zs)) n (.ptr H.n 0) (.agg cs)) λb=>Do (W b n true (.ptr H.n 0)) λf=>Q f b:=by
 rw[cG H zs cs n a d e];simp only[X];rw[(At.new H _).load,dP a];simp only[X];exact c _
theorem TQ(a:∀H',Q (lP (pX op)) H'):S.f183 Φ (.int .i64 op) H Q:=by
 unfold pX at a;unfold S.f183;simp only[aQ,aK,aT,acq,bz,bL,X,F]
 iterate 12 (refine cz (λh=>(by rw[af (by simpa using h)]at a;exact nQ a rfl rfl rfl rfl)) (λh=>?_);rw[ai (by simpa using h)]at a)
 exact nQ a rfl rfl rfl rfl
theorem TR(b:bF Φ 183 [.int .i64 op] (lP (pX op)))(a:∀H',Q (lP (pY op)) H'):S.f154 Φ (.int .i64 op) H Q:=by
 unfold pY at a;unfold S.f154;simp only[aQ,aK,aT,acq,bz,bL,X,F]
 iterate 8 (refine cz (λh=>(by rw[af (by simpa using h)]at a;exact nQ a rfl rfl rfl rfl)) (λh=>?_);rw[ai (by simpa using h)]at a)
 exact b _ _ (JJ a rfl rfl rfl)
theorem TS(b:bF Φ 154 [.int .i64 op] (lP (pY op)))(a:∀H',Q (lP (ej op)) H'):S.f107 Φ (.int .i64 op) H Q:=by
 unfold ej at a;unfold S.f107;simp only[aQ,aK,aT,acq,bz,bL,X,F]
 iterate 12 (refine cz (λh=>(by rw[af (by simpa using h)]at a;exact nQ a rfl rfl rfl rfl)) (λh=>?_);rw[ai (by simpa using h)]at a)
 exact b _ _ (JJ a rfl rfl rfl)
theorem TU(a:∀H',Q (.agg (ez (cq c))) H'):S.f108 Φ (.int .u8 c) H Q:=by
 unfold cq at a;unfold S.f108;simp only[aQ,aK,aT,acq,bz,bL,X,F]
 iterate 14 (refine cz (λh=>(by rw[af (by simpa using h)]at a;exact nQ a rfl rfl rfl rfl)) (λh=>?_);rw[ai (by simpa using h)]at a)
 exact nQ a rfl rfl rfl rfl
def fk(c:Int):Nat:=if c=100 then 1 else if c=110∨c=97 then 2 else if c=109 then 3 else if c=101∨c=113∨c=99∨c=107 then 4 else if c=115 then 5 else 6
theorem TV{id:Nat}(a:Q (.ptr id (fk c)) H):S.f109 Φ (.ptr id 0) (.int .u8 c) H Q:=by
 unfold fk at a;unfold S.f109;simp only[bL,X,F,aE,S.AL,S.ri,S.HA,ay,aC,aa,abg]
 repeat' (apply cz<;>intro h)
 all_goals simp only[bq,beq_eq_false_iff_ne,ne_eq]at *
 all_goals (first|omega|skip)
 all_goals simp_all
end
section
variable{C:Ctx}(aj:bX C)(Z:Cl (ae C) S.bg)
include aj Z
theorem TW(op:Int):bF (ae C) 183 [.int .i64 op] (lP (pX op)):=bF.of aj rfl rfl λQ a=>S.S2 Z (TQ a)
theorem TX(op:Int):bF (ae C) 154 [.int .i64 op] (lP (pY op)):=bF.of aj rfl rfl λQ a=>S.SH Z (TR (TW aj Z op) a)
theorem TY(op:Int):bF (ae C) 107 [.int .i64 op] (lP (ej op)):=bF.of aj rfl rfl λQ a=>S.R8 Z (TS (TX aj Z op) a)
theorem TZ(c:Int):bF (ae C) 108 [.int .u8 c] (.agg (ez (cq c))):=bF.of aj rfl rfl λQ a=>S.R9 Z (TU a)
end
end Rb

namespace Rb
open Go
variable{x c:Int}
abbrev iE:=Int×Int×Bool×Int×Int
def nR(k:IntKind)(a b:Int):Int:=k.wrap (KT k.bits a &&& KT k.bits b).toNat
def xd(k:IntKind)(a b:Int):Int:=k.wrap (KT k.bits a ||| KT k.bits b).toNat
def Bn(k:IntKind)(a b:Int):Int:=k.wrap (KT k.bits a ^^^ KT k.bits b).toNat
def xe(k:IntKind)(a b:Int):Int:=k.wrap (KT k.bits a &&& ~~~KT k.bits b).toNat
def iF(k:IntKind)(a b:Int):Int:=k.wrap (a*2^(min b.toNat k.bits))
def xg(k:IntKind)(a b:Int):Int:=a.fdiv (2^(min b.toNat k.bits))
section
variable(k:IntKind)(a b:Int)
theorem xh:M .and (.int k a) (.int k b)=some (.int k (nR k a b)):=Bi k a b
theorem Bo:M .or (.int k a) (.int k b)=some (.int k (xd k a b)):=TD k a b
theorem JK:M .xor (.int k a) (.int k b)=some (.int k (Bn k a b)):=TE k a b
theorem JL:M .andNot (.int k a) (.int k b)=some (.int k (xe k a b)):=by simp[M,cc,jj,xe]
theorem j8(k':IntKind)(h:0≤b):M .shl (.int k a) (.int k' b)=some (.int k (iF k a b)):=rz k a b k' h
theorem T1(k':IntKind)(h:0≤b):M .shr (.int k a) (.int k' b)=some (.int k (xg k a b)):=Bj k a b k' h
theorem T2:cC .neg (.int k a)=some (.int k (k.wrap (0-a))):=rfl
end
def rD(f:iE):Int:=iF .u32 (abF .u32 (iF .u32 1 f.2.1-1)) f.1
def dG(f:iE)(x:Int):Bool:=
 if f.2.2.1=true then decide (x≥abF .i64 (0-iF .i64 1 (abF .i64 (f.2.1-1))))&&decide (x<iF .i64 1 (abF .i64 (f.2.1-1)))
 else decide (x≥0)&&decide (x≤f.2.2.2.2)
def T3(x:Int):Int:=if x=0 then 11 else if x=1 then 9 else 10
def xi(c:Int)(x:Int):Int:=nR .u32 (iF .u32 (if c=102 then T3 x else Bn .u32 (abF .u32 x) (cq c).2.2.2.1) (cq c).1) (rD (cq c))
section
variable{Φ:ad}{H:AH}{Q:ab}
theorem Bp(f:iE)(H:AH):aM H false 5 (.agg (ez f))=some (.ak (ez f),H):=by unfold aM;rw[af ⟨rfl,rfl⟩];rfl
theorem xj(f:iE)(k:Nat):aa k (.ak (ez f))=some (.ak ((ez f).drop k)):=rfl
theorem JM(f:iE)(H:AH):W H 1 false (.ak ((ez f).drop 0))=some (.int .i64 f.1):=rfl
theorem iG(f:iE)(H:AH):W H 1 false (.ak ((ez f).drop 1))=some (.int .i64 f.2.1):=rfl
theorem gA(f:iE)(H:AH):W H 1 false (.ak ((ez f).drop 2))=some (.bool f.2.2.1):=rfl
theorem T4(f:iE)(H:AH):W H 1 false (.ak ((ez f).drop 3))=some (.int .u32 f.2.2.2.1):=rfl
theorem T5(f:iE)(H:AH):W H 1 false (.ak ((ez f).drop 4))=some (.int .i64 f.2.2.2.2):=rfl
theorem T6(f:iE)(H:AH):W H 5 true (.ak (ez f))=some (.agg (ez f)):=rfl
theorem T7(a:∀H',Q (.agg [.int .u32 11,.int .u32 9,.int .u32 10]) H'):S.f155 Φ H Q:=by unfold S.f155;simp only[aQ,aK,aT];exact nQ a rfl rfl rfl rfl
theorem T8{f:iE}(a:0≤f.1)(b:0≤f.2.1)(c:∀H',Q (.int .u32 (rD f)) H'):S.f111 Φ (.agg (ez f)) H Q:=by unfold S.f111;simp only[Bp,aK,xj,JM,iG,X];rw[j8 _ _ _ _ b];simp only[X,cM];rw[j8 _ _ _ _ a];simp only[X];exact c _
theorem T9{f:iE}(b:f.2.2.1=true→1≤f.2.1)(c:f.2.1≤26)(a:∀H',Q (.bool (dG f x)) H'):S.f110 Φ (.agg (ez f)) (.int .i64 x) H Q:=by
 unfold S.f110;unfold dG at a;simp only[Bp,aK,xj,iG,gA,T5,X,F,cx,cM,ec,gy,aU];apply cz<;>intro h
 · have:=b h;have e:abF .i64 (f.2.1-1)=f.2.1-1:=bJ;rw[af h,e]at a;rw[e,j8 _ _ _ _ (by omega)];simp only[X,T2,ec,aU,cx];apply cz<;>intro h
   ·rw[h]at a;exact a _
   ·rw[h]at a;exact a _
 · rw[h]at a;apply cz<;>intro h
   ·rw[h]at a;exact a _
   ·rw[h]at a;exact a _
end
section
variable{C:Ctx}(aj:bX C)(Z:Cl (ae C) S.bg)
include aj Z
theorem T_:bF (ae C) 155 [] (.agg [.int .u32 11,.int .u32 9,.int .u32 10]):=bF.of aj rfl rfl λQ a=>S.SI Z (T7 a)
theorem JN(c:Int):bF (ae C) 111 [.agg (ez (cq c))] (.int .u32 (rD (cq c))):=by obtain⟨a,_,h1,_⟩:=Bm c;exact bF.of aj rfl rfl λQ b=>S.Sb Z (T8 a h1 b)
theorem Ua(c x:Int):bF (ae C) 110 [.agg (ez (cq c)),.int .i64 x] (.bool (dG (cq c) x)):=by obtain⟨e,_,h1,a,b,_⟩:=Bm c;exact bF.of aj rfl rfl λQ d=>S.Sa Z (T9 b a d)
theorem Ub{H:AH}{Q:ab}(hf:dG (cq c) x=true)(a:∀H',Q (.int .u32 (xi c x)) H'):S.f112 (ae C) (.agg (ez (cq c))) (.int .u8 c) (.int .i64 x) H Q:=by
 unfold S.f112;unfold xi at a;have b:=Bm c;simp only[Bp,aK,xj,T4,X,gz,JK,bL,F,aE];have k1:∀v,(∀H',Q (.int .u32 (nR .u32 (iF .u32 v (cq c).1) (rD (cq c)))) H')→S.vT (ae C) (.ak (ez (cq c))) Q [.int .u32 v] H:=by intro v hv;simp only[S.vT,xj,JM,X,ay];rw[j8 _ _ _ _ b.1];simp only[X,T6];refine JN aj Z c _ _ ?_;simp only[true_and,xh,X];exact hv _
 apply cz<;>intro h
 · have hc:c=102:=by simpa using h
   rw[af hc]at a;obtain⟨d,e⟩:=b.2.2.2.2.2 hc;unfold dG at hf;rw[d,e]at hf;simp only[acq,bz,aaz,dM]at hf;refine T_ aj Z _ _ ?_;have f:x=0∨x=1∨x=2:=by omega
   rcases f with rfl|rfl|rfl
   ·exact X _ _ |>.2 (k1 11 a)
   ·exact X _ _ |>.2 (k1 9 a)
   ·exact X _ _ |>.2 (k1 10 a)
 · rw[ai (by simpa using h)]at a;exact k1 _ a
theorem Uc(hf:dG (cq c) x=true):bF (ae C) 112 [.agg (ez (cq c)),.int .u8 c,.int .i64 x] (.int .u32 (xi c x)):=bF.of aj rfl rfl λQ a=>S.Sc Z (Ub aj Z hf a)
end
end Rb

namespace Rb
open Go
variable{xs i:List Int}{k:Nat}{H:AH}
abbrev IV(xs:List Int):List J:=xs.map (J.int .i64)
theorem jG(xs:List Int):(IV xs).length=xs.length:=by simp
theorem Bq(xs:List Int):(IV xs).all J.scalar=true:=by rw[abt];intro c hc;obtain⟨x,_,rfl⟩:=ada.1 hc;rfl
theorem JO(xs:List Int):J.b7 (IV xs)=true:=by rw[ny,abt];intro c hc;obtain⟨x,_,rfl⟩:=ada.1 hc;rfl
theorem Br(h:k<xs.length):bE (IV xs) k 1 false=some (.int .i64 (xs.getD k 0)):=by unfold bE;rw[e_,dC];simp[List.getD,h]
theorem Ud(x:Int)(h:k<xs.length):setCells (IV xs) k [.int .i64 x]=IV (xs.set k x):=by
 induction xs generalizing k with
 |nil=>simp at h
 | cons a r b=>
  cases k with
  |zero=>rfl
  |succ k=>exact congrArg _ (b (Nat.lt_of_succ_lt_succ h))
theorem Ue{id:Nat}(h:At H id (.row (IV xs)))(x:Int)(a:k<xs.length):au H 1 (.ptr id k) (.int .i64 x)=some (H.set id (.row (IV (xs.set k x)))):=by rw[h.store,af ⟨rfl,rfl,rfl,by simp;omega⟩];exact congrArg (λz=>some (AH.set H id (.row z))) (Ud x a)
theorem JP:∀(n:Nat)(xs c:List Int),xs.length=n→c.length=n→c0 (VR n .n) (IV xs) (IV c)=some (xs==c)
 |0,[],[],_,_=>rfl
 | n+1,a::r,b::t,h1,d=>by show(if abE=abE then(c0 (VR n .n) (IV r) (IV t)).map (λx=>a==b&&x)else none)=_;rw[af rfl,JP n r t (by simpa using h1) (by simpa using d)];rfl
theorem Ug(c:Int):fk c<7∧1≤fk c:=by
 unfold fk
 repeat' split
 all_goals omega
theorem Uh{s r:List UInt8}{c:UInt8}{i:Nat}(h:s.drop i=c::r)(H:AH):∃p,aL none 1 (.ax .dead s.length (byteCells s)) (.int .i64 i)=some p∧W H 1 false p=some (.int .u8 c.toNat):=by
 obtain⟨b,a,_⟩:=eN h;refine⟨.ak ((byteCells s).drop i),?_,?_⟩
 · show(if 0≤(i:Int)∧(i:Int)<(s.length:Nat)then some (J.ak ((byteCells s).drop ((i:Int).toNat*1)))else none)=_;rw[af ⟨by omega,by omega⟩,Int.toNat_natCast,Nat.mul_one]
 · show bE ((byteCells s).drop i) 0 1 false=_;unfold bE;rw[af (by simp[byteCells];omega),dC];simp[byteCells,a]
theorem Ui(op:Int):(ej op).2.length≤9:=by
 unfold ej
 iterate 12 (refine iD (λz:Int×List UInt8=>z.2.length≤9) (λ_=>by decide) (λ_=>?_))
 unfold pY
 iterate 8 (refine iD (λz:Int×List UInt8=>z.2.length≤9) (λ_=>by decide) (λ_=>?_))
 unfold pX
 iterate 12 (refine iD (λz:Int×List UInt8=>z.2.length≤9) (λ_=>by decide) (λ_=>?_))
 decide
def iZ(op:Int):List UInt8→List Int→Int→Int×Int
 |[],rest,w=>if rest=[op,0,0,0,0,0,0]then(w,0)else(0,2)
 | c::r,rest,w=>if(c.toNat:Int)=122 then iZ op r rest w else
  if dG (cq c.toNat) (rest.getD (fk c.toNat) 0)=true then
   iZ op r (rest.set (fk c.toNat) 0) (xd .u32 (xe .u32 w (rD (cq c.toNat))) (xi c.toNat (rest.getD (fk c.toNat) 0)))
  else(0,2)
def ga(i:List Int):Int×Int:=if(ej (i.getD 0 0)).2=[]then(0,2)else iZ (i.getD 0 0) (ej (i.getD 0 0)).2 i (ej (i.getD 0 0)).1
section
variable{C:Ctx}(aj:bX C)(Z:Cl (ae C) S.bg)
include aj Z
theorem Uj(H:AH)(f:iE):au (H.push (.row [.int .i64 0,.int .i64 0,.bool false,.int .u32 0,.int .i64 0])) 5 (.ptr H.n 0) (.agg (ez f))=some (H.push (.row (ez f))):=cG H _ _ 5 rfl rfl rfl
theorem Uk(hl:i.length=7){Q:ab}(b:∀H',Q (.ar [.int .u32 (ga i).1,.int .i64 (ga i).2]) H'):S.f62 (ae C) (.agg (IV i)) H Q:=by
 unfold S.f62;have t:aM H false 7 (.agg (IV i))=some (.ak (IV i),H):=by unfold aM;rw[af ⟨rfl,by simpa[J.cells]using hl⟩];rfl
 have m:∀H,W H 1 false (.ak (IV i))=some (.int .i64 (i.getD 0 0)):=λH=>Br (by omega);have u:∀H,W H 7 true (.ak (IV i))=some (.agg (IV i)):=λH=>dP (by simpa using hl);simp only[t,aK,aa,ad3,X,m];refine TY aj Z _ _ _ ?_;simp only[lP,aQ,aT,aK];rw[cG H _ _ 2 rfl rfl rfl];have Y:=At.new H (.row [.int .u32 (ej (i.getD 0 0)).1,.str (ej (i.getD 0 0)).2]);simp only[X];rw[Y.load,show bE [.int .u32 (ej (i.getD 0 0)).1,.str (ej (i.getD 0 0)).2] (0+1) 1 false=some (.str (ej (i.getD 0 0)).2)from rfl];simp only[X,M,yx,F];unfold ga at b;apply cz<;>intro h
 · rw[af (by simpa using h)]at b;exact b _
 rw[ai (by simpa using h)]at b;rw[Y.load,show bE [.int .u32 (ej (i.getD 0 0)).1,.str (ej (i.getD 0 0)).2] (0+0) 1 false=some (.int .u32 (ej (i.getD 0 0)).1)from rfl];simp only[X,u];have v:=(Y.push (.row (IV i))).load 1 1 false;rw[cG _ _ _ 7 (by simpa using hl) (Bq i) rfl];simp only[X,abg];rw[v,show bE [.int .u32 (ej (i.getD 0 0)).1,.str (ej (i.getD 0 0)).2] 1 1 false=some (.str (ej (i.getD 0 0)).2)from rfl];simp only[X,mf,iC];have a2:=At.new (H.push (.row [.int .u32 (ej (i.getD 0 0)).1,.str (ej (i.getD 0 0)).2])) (.row (IV i));generalize (H.push (.row [.int .u32 (ej (i.getD 0 0)).1,.str (ej (i.getD 0 0)).2])).n=g at *;generalize (AH.push (H.push (.row [.int .u32 (ej (i.getD 0 0)).1,.str (ej (i.getD 0 0)).2])) (.row (IV i)))=H2 at *;generalize (ej (i.getD 0 0)).1=base at *;obtain⟨s,hs⟩:∃s,s=(ej (i.getD 0 0)).2:=⟨_,rfl⟩
 rw[←hs]at b ⊢;have main:∀(r:List UInt8)(k:Nat)(rest:List Int)(w:Int)(H:AH),s.drop k=r→s.length≤9→rest.length=7→At H g (.row (IV rest))→(∀H',Q (.ar [.int .u32 (iZ (i.getD 0 0) r rest w).1,.int .i64 (iZ (i.getD 0 0) r rest w).2]) H') →
   av (S.vn (ae C) (.ak (IV i)) (.ptr g 0) (.ax .dead s.length (byteCells s)) (.int .i64 s.length) Q) ([.int .u32 w,.int .i64 k],H):=by
  intro r;induction r with
  | nil=>
   intro k rest w H e j d a b;have hle:=fb e;refine av.step ?_;simp only[S.vn,ay,bY,aU,X,F];rw[fO];simp only[aE,S.GH,ay];rw[a.load,dP (by simpa using d)];simp only[X,aa,ad3,m];rw[show aD [.int .i64 0,.int .i64 0,.int .i64 0,.int .i64 0,.int .i64 0,.int .i64 0,.int .i64 0] [(0,1,J.int .i64 (i.getD 0 0))]=some (.agg (IV [i.getD 0 0,0,0,0,0,0,0]))from rfl];simp only[X];rw[show jk true [.n,.n,.n,.n,.n,.n,.n] (.agg (IV rest)) (.agg (IV [i.getD 0 0,0,0,0,0,0,0]))=(c0 (VR 7 .n) (IV rest) (IV [i.getD 0 0,0,0,0,0,0,0])).map λr=> .bool (if true then !r else r)from rfl,JP 7 _ _ d rfl];simp only[aaL,X,F,aT];simp only[iZ]at b;apply cz<;>intro h
   ·rw[ai (by simpa using h)]at b;exact b _
   ·rw[af (by simpa using h)]at b;exact b _
  | cons c r o=>
   intro k rest w H e j d a b;obtain⟨A,B,q⟩:=eN e;refine av.step ?_;simp only[S.vn,ay,bY,aU,X,F];rw[fc];obtain⟨p,x,y⟩:=Uh e H;rw[x];simp only[X];rw[y];simp only[X,bL,F];simp only[iZ]at b;have hw:abF .i64 ((k:Int)+1)=((k+1:Nat):Int):=by rw[bJ];simp
   apply cz<;>intro h
   · rw[af (by simpa using h)]at b;simp only[aE,S.vm,ay,bY,br,X,hw];exact o (k+1) rest w H q j d a b
   rw[ai (by simpa using h)]at b;refine TZ aj Z _ _ _ ?_;simp only[aQ,aT,aK];rw[Uj aj Z];simp only[X];have D:=Ug (c.toNat:Int);have b1:=a.push (.row (ez (cq c.toNat)));have b2:=At.new H (.row (ez (cq c.toNat)));have E:g≠H.n:=a.jF;generalize H.push (.row (ez (cq c.toNat)))=H1 at *;generalize H.n=z at *;refine S.R_ Z (TV ?_);have l:W H1 5 true (.ptr z 0)=some (.agg (ez (cq c.toNat))):=by rw[b2.load];exact dP (n:=5) (a:=ez (cq c.toNat)) rfl
   rw[l];simp only[X,aC];have f:=b1.load 1 (fk c.toNat) false;rw[Br (by omega)]at f;rw[f];simp only[X];refine Ua aj Z _ _ _ _ ?_;simp only[dO,X,F];apply cz<;>intro h
   · rw[ai (by simpa using h)]at b;exact b _
   · have hf:dG (cq c.toNat) (rest.getD (fk c.toNat) 0)=true:=by simpa using h
     rw[af hf]at b;rw[l,f];simp only[X];refine JN aj Z _ _ _ ?_;simp only[true_and,JL,X];refine⟨l,f,Uc aj Z hf _ _ ?_⟩;simp only[Bo,X];rw[Ue b1 0 (by omega)];simp only[X,aE,S.vm,ay,bY,br,hw];exact o (k+1) _ _ _ q j (by simpa using d) (b1.set _) b
 refine main s 0 i base H2 rfl ?_ hl a2 ?_
 ·rw[hs];exact Ui _
 ·exact b
theorem Ul(hl:i.length=7):bF (ae C) 62 [.agg (IV i)] (.ar [.int .u32 (ga i).1,.int .i64 (ga i).2]):=bF.of aj (by simp only[J.b7,J.bI,JO,ady]) rfl λQ a=>S.Rq Z (Uk aj Z hl a)
end
end Rb

namespace Rb
open Go
variable{S T:Nat→Prop}{es:List J}{x:J}{H':AH}
def KX(S:Nat→Prop)(H H':AH):Prop:=H.n≤H'.n∧∀i,i<H.n→¬S i→H'.o i=H.o i
theorem KX.refl(H:AH):KX S H H:=⟨hT _,λ_ _ _=>rfl⟩
theorem KX.trans{H a H2:AH}(h:KX S H a)(k:KX T a H2)(Z:∀i,i<H.n→T i→S i):KX S H H2:=⟨np h.1 k.1,λi hi hs=>(k.2 i (sl hi h.1) (λt=>hs (Z i hi t))).trans (h.2 i hi hs)⟩
theorem KX.tr{H a H2:AH}(h:KX S H a)(k:KX S a H2):KX S H H2:=h.trans k λ_ _ t=>t
theorem KX.mono{H H':AH}(h:KX S H H')(k:∀i,i<H.n→S i→T i):KX T H H':=⟨h.1,λi hi hs=>h.2 i hi λt=>hs (k i hi t)⟩
theorem KX.at{H H':AH}(h:KX S H H'){i:Nat}{o:bS}(a:At H i o)(hs:¬S i):At H' i o:=⟨sl a.1 h.1,(h.2 i a.1 hs).trans a.2⟩
theorem KX.set(H:AH){i:Nat}(hi:S i)(x:bS):KX S H (H.set i x):=⟨hT _,λj a hs=>AH.cd H x λe=>hs (e▸hi)⟩
theorem KX.push(H:AH)(x:bS):KX S H (H.push x):=⟨aa_ _,λj a hs=>AH.JC H x (abe a)⟩
theorem KX.ext{H H':AH}(h:AH.Ext H H'):KX S H H':=⟨h.1,λi hi _=>h.2 i hi⟩
def El(sz:Nat)(P:Nat→Int→Prop)(es:List J):Prop:=es.length=sz∧∀k,k<sz→∃v,es[k]?=some (I v)∧P k v
theorem El.scalar{sz:Nat}{P:Nat→Int→Prop}(h:El sz P es):es.all J.scalar=true:=by rw[abt];intro c hc;obtain⟨k,hk⟩:=aej hc;obtain⟨v,hv,_⟩:=h.2 k (by have:=(aat.1 hk).1;rw[h.1]at this;exact this);rw[hk]at hv;cases hv;rfl
def Rw(sz:Nat)(P:Nat→Int→Prop)(H:AH)(id n:Nat):Prop:=∃cs:List J,cs.length=n*sz∧(∀j,j<n*sz→∃v,cs[j]?=some (I v)∧P (j%sz) v)∧At H id (.row cs)
section
variable{sz n id i k:Nat}{P:Nat→Int→Prop}{H:AH}
theorem Rw.lt(h:Rw sz P H id n):id<H.n:=by obtain⟨_,_,_,a⟩:=h;exact a.1
theorem Rw.kx(h:Rw sz P H id n)(k:KX S H H')(hs:¬S id):Rw sz P H' id n:=by obtain⟨cs,a,b,c⟩:=h;exact⟨cs,a,b,k.at c hs⟩
theorem xk(hi:i<n)(a:k<sz):i*sz+k<n*sz:=by have:(i+1)*sz≤n*sz:=abK _ hi;rw[acw]at this;omega
theorem pZ(a:k<sz):(i*sz+k)%sz=k:=by rw[aek,ael,aem a]
theorem Rw.ld1(h:Rw sz P H id n)(hi:i<n)(d:k<sz):∃v,P k v∧W H 1 false (.ptr id (i*sz+k))=some (I v):=by obtain⟨cs,a,b,c⟩:=h;obtain⟨v,h1,e⟩:=b _ (xk hi d);rw[pZ d]at e;refine⟨v,e,?_⟩;rw[c.load];unfold bE;rw[af (by have:=xk hi d;omega),dC];exact h1
theorem Rw.ld(h:Rw sz P H id n)(hi:i<n):∃es,El sz P es∧W H sz true (.ptr id (i*sz))=some (.agg es):=by
 obtain⟨cs,a,b,c⟩:=h;have hle:i*sz+sz≤n*sz:=by have:(i+1)*sz≤n*sz:=abK _ hi;rwa [acw]at this
 refine⟨(cs.drop (i*sz)).take sz,⟨by rw[aen,aef];omega,λk hk=>?_⟩,?_⟩
 · obtain⟨v,h1,d⟩:=b _ (xk hi hk);rw[pZ hk]at d;exact⟨v,by rw[acx hk,List.getElem?_drop];exact h1,d⟩
 · rw[c.load];unfold bE;rw[cA,af rfl]
theorem Rw.st(h:Rw sz P H id n)(hi:i<n)(d:El sz P es):∃H',au H sz (.ptr id (i*sz)) (.agg es)=some H'∧Rw sz P H' id n∧KX (·= id) H H':=by
 obtain⟨cs,a,b,c⟩:=h;have hle:i*sz+sz≤n*sz:=by have:(i+1)*sz≤n*sz:=abK _ hi;rwa [acw]at this
 refine⟨_,(by rw[c.store,af ⟨rfl,d.1,d.scalar,by omega⟩];rfl),⟨setCells cs (i*sz) es,by rw[oA,a],λj e=>?_,c.set _⟩,KX.set (S:=(·= id)) _ rfl _⟩;rw[m_ _ _ _ _ (by rw[d.1];omega)];split
 · rename_i f;rw[d.1]at f;obtain⟨v,h1,g⟩:=d.2 (j-i*sz) (by omega);exact⟨v,h1,by rw[show j=i*sz+(j-i*sz) by omega,pZ (by omega)];exact g⟩
 ·exact b j e
theorem Rw.st1(h:Rw sz P H id n)(hi:i<n)(d:k<sz){v:Int}(hv:P k v):∃H',au H 1 (.ptr id (i*sz+k)) (I v)=some H'∧Rw sz P H' id n∧KX (·= id) H H':=by
 obtain⟨cs,a,b,c⟩:=h;have hle:=xk hi d;refine⟨_,(by rw[c.store,af ⟨rfl,rfl,rfl,by omega⟩];rfl),⟨setCells cs (i*sz+k) [I v],by rw[oA,a],λj e=>?_,c.set _⟩,KX.set (S:=(·= id)) _ rfl _⟩;rw[m_ _ _ _ _ (by simp;omega)];split
 · rename_i f;simp at f;obtain rfl:j=i*sz+k:=by omega
   exact⟨v,by simp,by rw[pZ d];exact hv⟩
 ·exact b j e
theorem dH{a:Nat}(hi:i<a):aL none sz (.row id 0 a sz) (I (i:Nat))=some (.ptr id (i*sz)):=by unfold aL;dsimp only;rw[af ⟨by omega,by omega⟩];simp
end
def Ls(sz:Nat)(P:Nat→Int→Prop)(S:Nat→Prop)(H:AH)(x:J)(a:Nat):Prop:=(x = aA∧a=0)∨∃id n,x = .row id 0 a sz∧a≤n∧Rw sz P H id n∧S id
theorem Ls.kx{sz len:Nat}{P:Nat→Int→Prop}{H H':AH}(h:Ls sz P S H x len)(k:KX T H H')(hs:∀i,S i→¬T i):Ls sz P S H' x len:=by
 rcases h with h|⟨id,n,a,b,c,d⟩
 ·exact .inl h
 ·exact .inr ⟨id,n,a,b,c.kx k (hs _ d),d⟩
theorem Ls.mono{sz len:Nat}{P:Nat→Int→Prop}{H:AH}(h:Ls sz P S H x len)(hs:∀i,i<H.n→S i→T i):Ls sz P T H x len:=by
 rcases h with h|⟨id,n,a,b,c,d⟩
 ·exact .inl h
 ·exact .inr ⟨id,n,a,b,c,hs _ c.lt d⟩
theorem Ls.len{sz len:Nat}{P:Nat→Int→Prop}{H:AH}(h:Ls sz P S H x len):aY false x=some (I len):=by rcases h with⟨rfl,rfl⟩|⟨id,n,rfl,_⟩<;>rfl
theorem Ls.known{sz a:Nat}{P:Nat→Int→Prop}{H:AH}(h:Ls sz P S H x a):x.known=true∧x.scalar=true∧x.cells=[x]:=by rcases h with⟨rfl,rfl⟩|⟨id,n,rfl,_⟩<;>exact⟨rfl,rfl,rfl⟩
def p0(sz:Nat)(P:Nat→Int→Prop)(m:Nat)(es:List J):Prop:=es.length=m*sz∧∀j,j<m*sz→∃v,es[j]?=some (I v)∧P (j%sz) v
theorem p0.scalar{sz m:Nat}{P:Nat→Int→Prop}(h:p0 sz P m es):es.all J.scalar=true:=by rw[abt];intro c hc;obtain⟨k,hk⟩:=aej hc;obtain⟨v,hv,_⟩:=h.2 k (by have:=(aat.1 hk).1;rw[h.1]at this;exact this);rw[hk]at hv;cases hv;rfl
theorem El.bC{sz:Nat}{P:Nat→Int→Prop}(h:El sz P es):p0 sz P 1 es:=⟨by rw[h.1];omega,λj b=>by obtain⟨v,h1,a⟩:=h.2 j (by omega);exact⟨v,h1,by rw[aem (by omega)];exact a⟩⟩
theorem Bs{sz:Nat}{P:Nat→Int→Prop}(h:El sz P es)(tk:Tok)(H:AH):ef H sz (.ax tk 1 es)=some (1,es):=by show(if es.length=1*sz then some (1,es)else none)=_;rw[af (by rw[h.1];omega)]
theorem Rw.cells{sz n id m:Nat}{P:Nat→Int→Prop}{H:AH}(h:Rw sz P H id n)(d:m≤n):∃es,ef H sz (.row id 0 m sz)=some (m,es)∧p0 sz P m es:=by
 obtain⟨cs,a,b,c⟩:=h;have hle:m*sz≤n*sz:=abK _ d;refine⟨(cs.drop 0).take (m*sz),?_,by rw[aen,ad3];omega,λj e=>?_⟩
 · simp only[ef,c.2];rw[cA]
 · obtain⟨v,h1,f⟩:=b j (by omega);exact⟨v,by rw[acx e,ad3];exact h1,f⟩
theorem Ls.cells{sz m:Nat}{P:Nat→Int→Prop}{H:AH}(h:Ls sz P S H x m):∃es,ef H sz x=some (m,es)∧p0 sz P m es:=by
 rcases h with⟨rfl,rfl⟩|⟨id,n,rfl,a,r,_⟩
 ·exact⟨[],by simp[ef],by simp,λj b=>by omega⟩
 ·exact r.cells a
theorem Ls.app{sz len bytes:Nat}{P:Nat→Int→Prop}{H:AH}(h:Ls sz P S H x len)(p:0<sz)(d:El sz P es){tk:Tok}(g:(len+1)*bytes≤140737488355328)(hl:len+1≤9223372036854775807) :
  ∃o H',bR H true sz bytes x (.ax tk 1 es)=some (o,H')∧Ls sz P (λi=>S i∨H.n≤i) H' o (len+1)∧KX S H H':=by
 have k:=Bs d tk H;rcases h with⟨rfl,rfl⟩|⟨id,n,rfl,q,⟨cs,a,b,c⟩,hS⟩
 · refine ⟨.row H.n 0 1 sz,H.push (.row es),?_,.inr ⟨H.n,1,rfl,hT _,⟨es,by rw[d.1];omega,λj l=>?_,At.new _ _⟩,.inr (hT _)⟩,KX.push _ _⟩
   · simp only[bR,k,d.scalar,not_true_eq_false,bz];rw[dC,ai (by simp only[ad8];exact⟨by simp,g,hl⟩)];rfl
   · obtain⟨v,h1,f⟩:=d.2 j (by omega);exact⟨v,h1,by rw[aem (by omega)];exact f⟩
 · have hmul:(len+1)*sz=len*sz+sz:=acw _ _;have hlen:len*sz≤n*sz:=abK _ q;by_cases hf:(len+1)*sz≤cs.length
   · have m:len+1≤n:=by
       rw[a]at hf;exact Nat.le_of_mul_le_mul_right hf p
     refine⟨.row id 0 (len+1) sz,H.set id (.row (setCells cs (len*sz) es)),?_,.inr ⟨id,n,rfl,m,⟨_,by rw[oA,a],λj l=>?_,c.set _⟩,.inl hS⟩,KX.set _ hS _⟩
     · simp only[bR,k,d.scalar,not_true_eq_false,bz,c.2];rw[dC,ai (by simp only[ad8];exact⟨trivial,trivial,g,hl⟩),af hf]
     · rw [m_ _ _ _ _ (by rw[d.1];omega)];split
       · rename_i r;rw[d.1]at r;obtain⟨v,h1,f⟩:=d.2 (j-len*sz) (by omega);exact⟨v,h1,by rw[show j=len*sz+(j-len*sz) by omega,pZ (by omega)];exact f⟩
       ·exact b j l
   · have m:n=len:=by
       by_cases e:n=len
       ·exact e
       · exfalso;apply hf;rw[a];exact abK _ (by omega)
     subst m;refine⟨.row H.n 0 (n+1) sz,(H.set id .gone).push (.row (cs++es)),?_,.inr ⟨H.n,n+1,rfl,hT _,⟨_,by rw[ad9,a,d.1];omega,λj l=>?_,At.new (H.set id .gone) _⟩,.inr (hT _)⟩,(KX.set H hS .gone).tr (KX.push _ _)⟩
     · simp only[bR,k,d.scalar,not_true_eq_false,bz,c.2];rw[dC,ai (by simp only[ad8];exact⟨trivial,trivial,g,hl⟩),ai hf,af a]
     · by_cases s:j<cs.length
       · rw[ab8 s];exact b j (by omega)
       · rw[ab9 (by omega)];obtain⟨v,h1,f⟩:=d.2 (j-cs.length) (by omega);exact⟨v,h1,by rw[show j=n*sz+(j-cs.length) by omega,pZ (by omega)];exact f⟩
theorem Rw.app{mu:Bool}{sz n id d m bytes:Nat}{P:Nat→Int→Prop}{H:AH}{y:J}(h:Rw sz P H id n)(g:ef H sz y=some (m,es))(f:p0 sz P m es)(i:d+m≤n)(k:(d+m)*bytes≤140737488355328)(hl:d+m≤9223372036854775807) :
  ∃H',bR H mu sz bytes (.row id 0 d sz) y=some (.row id 0 (d+m) sz,H')∧Rw sz P H' id n∧KX (·= id) H H':=by
 obtain⟨cs,a,b,c⟩:=h;by_cases hm:m=0
 · subst hm;refine⟨H,?_,⟨cs,a,b,c⟩,KX.refl _⟩;simp only[bR,g,f.scalar,not_true_eq_false,bz,aT,c.2];rfl
 have hmul:(d+m)*sz=d*sz+m*sz:=aa3 _ _ _;have q:(d+m)*sz≤n*sz:=abK _ i;refine⟨H.set id (.row (setCells cs (d*sz) es)),?_,⟨_,by rw[oA,a],λj l=>?_,c.set _⟩,KX.set (S:=(·= id)) _ rfl _⟩
 · simp only[bR,g,f.scalar,not_true_eq_false,bz,c.2];rw[ai hm,ai (by simp only[ad8];exact⟨trivial,trivial,k,hl⟩),cA]
 · rw [m_ _ _ _ _ (by rw[f.1];omega)];split
   · rename_i o;rw[f.1]at o;obtain⟨v,h1,p⟩:=f.2 (j-d*sz) (by omega);refine⟨v,h1,?_⟩;have e:(d*sz+(j-d*sz))%sz=(j-d*sz)%sz:=by rw[aek d sz];exact ael _ _ _
     rw[←show d*sz+(j-d*sz)=j by omega,e];exact p
   ·exact b j l
end Rb

namespace Rb
open Go
variable{n:Int}{s:List UInt8}{id pos:Nat}
theorem gZ(t:T)(H:AH):aM H false 6 (.agg t.cells)=some (.ak t.cells,H):=by unfold aM;rw[af ⟨rfl,t.len⟩];rfl
theorem eA(t:T)(i:Nat):aa i (.ak t.cells)=some (.ak (t.cells.drop i)):=rfl
theorem lQ(t:T)(H:AH):W H 1 false (.ak (t.cells.drop 0))=some (I t.kind):=by rw[T.bQ];rfl
theorem rE(t:T)(H:AH):W H 1 false (.ak (t.cells.drop 1))=some (I t.size):=by rw[T.bQ];rfl
theorem xm(t:T)(H:AH):W H 1 false (.ak (t.cells.drop 2))=some (.bool t.packed):=by rw[T.bQ];rfl
theorem k3(t:T)(H:AH):W H 1 false (.ak (t.cells.drop 3))=some (aZ aJ.cells t.aP):=by rw[T.bQ];rfl
theorem Bt(t:T)(H:AH):W H 1 false (.ak (t.cells.drop 4))=some (I t.b5):=by rw[T.bQ];rfl
theorem mD(t:T)(H:AH):W H 1 false (.ak (t.cells.drop 5))=some (aZ T.cells t.bw):=by rw[T.bQ];rfl
theorem j9(t:T)(H:AH):W H 6 true (.ak t.cells)=some (.agg t.cells):=dP t.len
theorem rF(f:aJ):bE f.cells 0 1 false=some (.str f.E):=by cases f with|mk n t b w=>cases t;rfl
theorem JQ(f:aJ):bE f.cells 7 1 false=some (.bool f.bits):=by cases f with|mk n t b w=>cases t;rfl
theorem Um(f:aJ):bE f.cells 8 1 false=some (I f.be):=by cases f with|mk n t b w=>cases t;rfl
theorem Bu(f:aJ):bE f.cells 1 6 true=some (.agg f.type.cells):=by cases f with|mk n t b w=>cases t;rfl
theorem JR(f:aJ):bE f.cells 1 1 false=some (I f.type.kind):=by cases f with|mk n t b w=>cases t;rfl
theorem Un(f:aJ):bE f.cells 2 1 false=some (I f.type.size):=by cases f with|mk n t b w=>cases t;rfl
theorem wrap_i32(a : -2147483648≤n)(b:n≤2147483647):abF .i32 n=n:=by simp[abF,aaG,aaH];omega
theorem jH(s t:List UInt8):M .eql (.str s) (.str t)=some (.bool (s==t)):=rfl
theorem rG(s t:List UInt8):M .neq (.str s) (.str t)=some (.bool (!(s==t))):=rfl
theorem Bv(a b:Int):eL true [I a,I b]=some (I (max a b)):=by simp only[eL,mV,qg,aT];congr 2;show(if a<b then b else a)=max a b;omega
def mE(n:Int):Bool:=(decide (97≤n)&&decide (n≤122))||(decide (48≤n)&&decide (n≤57))||decide (n=95)
theorem JS(c:UInt8):mE (c.toNat:Int)=lO c:=by rw[acS];simp[mE,lO,isLet,Bl];omega
theorem Uo(h:128≤n):mE n=false:=by rw[ac7];simp[mE];omega
theorem Up{c:UInt8}(h:¬c.toNat<128):lO c=false:=by rw[ac7];simp[lO,isLet,Bl];omega
theorem Uq(c:UInt8):(decide (97≤(c.toNat:Int))&&decide ((c.toNat:Int)≤122))=isLet c:=by rw[acS];simp[isLet];omega
section
variable{Φ:ad}{H:AH}{Q:ab}
theorem JT(a:Q (.bool (decide (97≤n)&&decide (n≤122))) H):S.f114 Φ (.int .i32 n) H Q:=by
 simp only[S.f114,ec,gy,X,cx];apply aB<;>intro h
 · simp only[ge_iff_le,dM]at h;simpa[h]using a
 · simp only[ge_iff_le,dM]at h;simpa[h]using a
theorem Ur(h:At H id (.fD s pos))(a:pos<s.length):ky H (.ptr id 0)=some (.ar [aV,I pos,.int .i32 (aas ⟨s.toArray⟩ pos).1],H.set id (.fD s (pos+(aas ⟨s.toArray⟩ pos).2))):=by simp[ky,h.2,a]
theorem Us(h:At H id (.fD s pos))(a:s.length≤pos):ky H (.ptr id 0)=some (.ar [P],H):=by simp[ky,h.2,Nat.not_lt.2 a]
theorem Ut{L:(List J×AH)→Prop}(Z:Cl Φ S.bg)(d:mE n=false→Q P H)(e:mE n=true→L ([],H)) :
  Φ 114 [.int .i32 n] H λf c=>
   Do (cC .not f) λg=>
   aN g true (
   Do (M .neq (.int .i32 n) (.int .i32 95)) λi=>
   G (S.q7 Φ (.int .i32 n) L Q) [i] c) (
   G (S.q7 Φ (.int .i32 n) L Q) [P] c) (
   False):=by
 refine S.Jq Z (JT ?_);have k1:∀b:Bool,b=!mE n→G (S.pJ Φ L Q) [.bool b] H:=by
  intro b a;simp only[aE,S.pJ,ay,F];apply aB<;>intro h
  ·exact d (by rw[h]at a;simpa using a.symm)
  ·exact e (by simp only[aeo]at h;rw[h]at a;simpa using a.symm)
 simp only[dO,X,cx,dA,aE,S.q7,ay,aU,dy,ck,acq,bz]at k1 ⊢;generalize S.pJ Φ L Q=j at k1 ⊢
 repeat' (apply aB<;>intro h)
 all_goals (refine k1 _ ?_;simp only[Bool.not_eq_true',Bool.and_eq_false_imp,dM,decide_eq_false_iff_not,bne_iff_ne,ne_eq,aeo,Bool.not_eq_false]at *;rw[acS];simp[mE];omega)
theorem Uv(Z:Cl Φ S.bg)(j:∀H',Q (.bool (eP s)) H'):S.f71 Φ (.str s) H Q:=by
 have main:∀(d:List UInt8)(pos id:Nat)(H:AH),s.drop pos=d→At H id (.fD s pos)→(∀H',Q (.bool (d.all lO)) H')→av (S.vr Φ (.ptr id 0) Q) ([],H):=by
  intro d;induction d with
  | nil=>intro pos id H k i e;have hle:=fb k;refine av.step ?_;simp only[S.vr];rw[Us i hle];simp only[aK,bo,adW,X,F,acq,bz];simpa using e H
  | cons y d o=>
   intro pos id H k i e;obtain⟨p,l,q⟩:=eN k;refine av.step ?_;simp only[S.vr];rw[Ur i p];simp only[aK,bo,adW,adX,X,F,aT];refine Ut Z (λa=>?_) (λf=>?_)
   · by_cases g:y.toNat<128
     · rw[JG l g]at a;simp only[JS]at a;have:=e (H.set id (.fD s (pos+(aas ⟨s.toArray⟩ pos).2)));simpa[a]using this
     · have:=e (H.set id (.fD s (pos+(aas ⟨s.toArray⟩ pos).2)));simpa[Up g]using this
   · by_cases g:y.toNat<128
     · rw[JG l g]at f ⊢;simp only[JS]at f;exact o (pos+1) id _ q (i.set _) λH'=>by simpa[f]using e H'
     · rw[Uo (by have:=TP l g;omega)]at f;cases f
 unfold S.f71;simp only[TG,aU,dy,X,ck,aE];cases s with
 | nil=>simp[S.vt,S.q8,aE,ay,ck,F];simpa[eP]using j H
 | cons c r=>
  rw[e_];have m:∀b:Bool,(b=false→eP (c::r)=r.all lO∧lO c=true)→(b=true→eP (c::r)=false)→∀H,S.q8 Φ (.str (c::r)) Q [.bool b] H:=by
   intro b h1 t H;simp only[S.q8,ay,F];apply aB<;>intro h
   ·have:=j H;rw[t h]at this;exact this
   · simp only[aeo]at h;obtain⟨g1,g2⟩:=h1 h;simp only[aE,S.GU,mW,aK];refine main (c::r) 0 H.n _ rfl (At.new H _) λH'=>?_;have:=j H';rw[g1]at this;simpa[g2]using this
  simp only[S.vt,ay,ck,aE];apply aB<;>intro h
  · have u:jl (.str (c::r)) (O)=some (.int .u8 c.toNat):=by simp[jl]
    have hc:=c.toNat_lt;rw[u];simp only[X,gz];rw[wrap_i32 (by omega) (by omega)];refine S.Jq Z (JT ?_);rw[Uq];simp only[dO,X];have hl:r.length<16:=by simp at h;omega
    refine m _ (λa=>?_) (λa=>?_) _
    · have:isLet c=true:=by simpa using a
      exact⟨by simp[eP,hl,this],by simp[lO,this]⟩
    · have:isLet c=false:=by simpa using a
      simp[eP,this]
  · refine m _ (λa=>by cases a) (λ_=>?_) _;have hl:¬r.length<16:=by simp at h;omega
    simp[eP,hl]
end
end Rb

namespace Rb
open Go
mutual
theorem xp:∀(t:T)(m:Nat),1≤m→1≤ei m t∧ei m t≤m
 | .mk kind size packed aP b5 bw,m,hm=>by
  simp only[ei];split
  · rename_i h;have h1:=Bw aP (m-1) (by omega);have a:=Bz bw (m-1) (by omega);omega
  ·omega
theorem Uw:∀(f:aJ)(m:Nat),1≤m→0≤rC m f∧rC m f≤m
 | .mk E type bits be,m,hm=>by have:=xp type m hm;simp only[rC];omega
theorem Bw:∀(l:List aJ)(m:Nat),1≤m→0≤fj m l∧fj m l≤m
 |[],m,hm=>by simp only[fj];omega
 | f::r,m,hm=>by have h1:=Uw f m hm;have a:=Bw r m hm;simp only[fj];omega
theorem Bz:∀(l:List T)(m:Nat),1≤m→0≤e5 m l∧e5 m l≤m
 |[],m,hm=>by simp only[e5];omega
 | t::r,m,hm=>by have h1:=xp t m hm;have a:=Bz r m hm;simp only[e5];omega
end
theorem xq(f:aJ)(m:Nat):rC m f=ei m f.type:=by cases f;rfl
theorem p3(t:T)(m:Nat):ei m t=if 1<m then max (fj (m-1) t.aP) (e5 (m-1) t.bw)+1 else 1:=by cases t;rfl
theorem gB(t:T):cQ t=if hK t.kind t.size t.packed t.aP.length t.b5 t.bw.length=false then 8
  else if t.kind=1 then(if eQ t.size 8 then 0 else 9)
  else if t.kind=2 then(if eQ t.size 16 then 0 else 9)
  else if t.kind=5 then(if t.b5<1∨65536<t.b5 then 9 else JH t.bw)
  else if t.aP.length<1∨32<t.aP.length then 12
  else fe t.packed [] t.aP:=by cases t;rfl
theorem nS(packed:Bool)(a:List (List UInt8))(f:aJ):f_ packed a f=if eP f.E=false∧(f.E≠[]∨f.bits=false)then 6
  else if f.E≠[]∧a.contains f.E=true then 7
  else if cQ f.type≠0 then cQ f.type
  else if(f.bits=false∧f.be≠0)∨(f.bits=true∧(f.type.kind≠1∨packed=true))then 8
  else if f.bits=true∧(f.be<0∨8*f.type.size<f.be∨(f.be=0∧f.E≠[]))then 9
  else 0:=by cases f;rfl
section
variable{Φ:ad}{H:AH}{Q:ab}
theorem JU{n a:Int}(f:a=8∨a=16)(d:Q (.bool (eQ n a)) H):S.f190 Φ (I n) (I a) H Q:=by
 have e:∀b:Bool,b=eQ n a→Q (.bool b) H:=λb h=>by rw[h];exact d
 simp only[S.f190,S.A_,aE,ay,ec,gy,X,cx,acq,bz];apply aB<;>intro h1
 · apply aB<;>intro c
   · simp only[ge_iff_le,dM]at h1 c;have:n=1∨n=2∨n=3∨n=4∨n=5∨n=6∨n=7∨n=8∨n=9∨n=10∨n=11∨n=12∨n=13∨n=14∨n=15∨n=16:=by omega
     have hle:decide (n≤a)=true:=by simpa using c
     simp only[cM,X,Bi,bL];refine e _ ?_;unfold eQ;rw[hle,Bool.and_true];clear hle c h1 d e;rcases this with rfl|rfl|rfl|rfl|rfl|rfl|rfl|rfl|rfl|rfl|rfl|rfl|rfl|rfl|rfl|rfl<;>decide
   · refine e _ ?_;simp only[dM]at c;simp[eQ,c]
 · refine e _ ?_;simp only[ge_iff_le,dM]at h1;have:n≠1∧n≠2∧n≠4∧n≠8∧n≠16:=by omega
   simp[eQ,this]
theorem Ux{t:T}(a:Q (.bool (hK t.kind t.size t.packed t.aP.length t.b5 t.bw.length)) H):S.f189 Φ (.agg t.cells) H Q:=by
 have e:∀b:Bool,b=hK t.kind t.size t.packed t.aP.length t.b5 t.bw.length→Q (.bool b) H:=λb h=>by rw[h];exact a
 clear a;simp only[S.f189,S.ru,S.rv,S.wV,S.A6,S.A7,S.A8,S.A9,gZ,aK,eA,lQ,rE,xm,k3,Bt,mD,dY,aE,ay,bL,dO,X,cx,ck];generalize t.kind=k at *;generalize t.size=sz at *;generalize t.packed=i at *;generalize t.aP.length=j at *;generalize t.b5=l at *;generalize t.bw.length=ne at *;by_cases h1:k=1
 · subst h1;simp only[aep,aeq,aer,acq,aT,bz,aes,aet]
   repeat' (apply aB<;>intro h)
   all_goals (refine e _ ?_;simp_all [hK])
 by_cases c:k=2
 · subst c;simp only[aep,aeq,aer,acq,aT,bz,aes,aet]
   repeat' (apply aB<;>intro h)
   all_goals (refine e _ ?_;simp_all [hK])
 by_cases d:k=3
 · subst d;simp only[aep,aeq,aer,acq,aT,bz,aes,aet]
   repeat' (apply aB<;>intro h)
   all_goals (refine e _ ?_;simp_all [hK])
 by_cases f:k=4
 · subst f;simp only[aep,aeq,aer,acq,aT,bz,aes,aet]
   repeat' (apply aB<;>intro h)
   all_goals (refine e _ ?_;simp_all [hK])
 by_cases g:k=5
 · subst g;simp only[aep,aeq,aer,acq,aT,bz,aes,aet]
   repeat' (apply aB<;>intro h)
   all_goals (refine e _ ?_;simp_all [hK])<;>(rw[acS];simp;try omega)
 · have g1:(k==1)=false:=by simpa using h1
   have g2:(k==2)=false:=by simpa using c
   have g3:(k==3)=false:=by simpa using d
   have g4:(k==4)=false:=by simpa using f
   have g5:(k==5)=false:=by simpa using g
   simp only[g1,g2,g3,g4,g5,aer,acq,aT,bz,aes,aet]
   repeat' (apply aB<;>intro h)
   all_goals (refine e _ ?_;simp_all [hK])
theorem Uy{t:T}{m:Nat}(A:1≤m)(B:m≤65)(p:t.aP.length≤maxLen)(q:t.bw.length≤maxLen)
  (hf:1<m→∀f∈t.aP,bF Φ 188 [.agg f.type.cells,I ((m-1:Nat):Int)] (I (ei (m-1) f.type)))
  (he:1<m→∀x∈t.bw,bF Φ 188 [.agg x.cells,I ((m-1:Nat):Int)] (I (ei (m-1) x)))
  (r:∀H',Q (I (ei m t)) H'):S.f188 Φ (.agg t.cells) (I m) H Q:=by
 have hm:maxLen=9223372036854775807:=by decide
 rw[hm]at p q;have k1:∀(v:Int)(H:AH),0≤v→v≤64→v+1=ei m t→G (S.wR Φ Q) [I v] H:=by intro v H C D hv;simp only[aE,S.wR,ay,br,X];rw[bJ,hv];exact r H
 unfold S.f188;simp only[gZ,aK,dy,X,F];apply aB<;>intro h
 · have e:1<m:=by simp at h;omega
   have o:abF .i64 ((m:Int)-1)=((m-1:Nat):Int):=by rw[bJ];omega
   have E:=Bz t.bw (m-1) (by omega);have J:=Bw t.aP (m-1) (by omega);have K:ei m t=max (fj (m-1) t.aP) (e5 (m-1) t.bw)+1:=by rw[p3,af e]
   have s:∀(xs:List T)(i:Nat)(acc:Int)(H:AH),t.bw.drop i=xs→0≤acc→acc≤64→max acc (e5 (m-1) xs)+1=ei m t →
     av (S.wT Φ (I m) (aZ T.cells t.bw) (I t.bw.length) Q) ([I acc,I i],H):=by
    intro xs;induction xs with
    | nil=>intro i acc H b c d a;have u:=fb b;refine av.step ?_;simp only[S.wT,ay,bY,aU,X,F];rw[fO];refine k1 _ _ c d ?_;simp only[e5]at a;omega
    | cons x xs j=>intro i acc H b c d a;obtain⟨k,g,l⟩:=eN b;have n:=adl g;refine av.step ?_;simp only[S.wT,ay,bY,aU,X,F];rw[fc,dF k];simp only[X];rw[eh T.len (by decide) _ g];simp only[X,aK,aQ,aT];rw[cG _ _ _ 6 x.len x.scalar rfl];simp only[X];rw[ey,dP x.len];simp only[X,cM,o];refine he e x n _ _ ?_;have w:=xp x (m-1) (by omega);rw[Bv];simp only[X,br];rw[bJ,iY i];refine j (i+1) _ _ l (by omega) (by omega) ?_;simp only[e5]at a;omega
   have y:∀(acc:Int)(H:AH),0≤acc→acc≤64→max acc (e5 (m-1) t.bw)+1=ei m t→G (S.A5 Φ (I m) (.ak t.cells) Q) [I acc] H:=by intro acc H c d a;simp only[aE,S.A5,ay,eA,mD,dY,X];exact s t.bw 0 acc H rfl c d a
   have z:∀(xs:List aJ)(i:Nat)(acc:Int)(H:AH),t.aP.drop i=xs→0≤acc→acc≤64→max (max acc (fj (m-1) xs)) (e5 (m-1) t.bw)+1=ei m t →
     av (S.wU Φ (I m) (.ak t.cells) (aZ aJ.cells t.aP) (I t.aP.length) Q) ([I acc,I i],H):=by
    intro xs;induction xs with
    | nil=>intro i acc H b c d a;have u:=fb b;refine av.step ?_;simp only[S.wU,ay,bY,aU,X,F];rw[fO];refine y _ _ c d ?_;simp only[fj]at a;omega
    | cons x xs j=>intro i acc H b c d a;obtain⟨k,g,l⟩:=eN b;have n:=adl g;refine av.step ?_;simp only[S.wU,ay,bY,aU,X,F];rw[fc,dF k];simp only[X];rw[eh aJ.len (by decide) _ g];simp only[X,aK,aQ,aT];rw[cG _ _ _ 9 x.len x.scalar rfl];simp only[X,aa,abg];rw[ey,Bu];simp only[X,cM,o];refine hf e x n _ _ ?_;have w:=xp x.type (m-1) (by omega);rw[Bv];simp only[X,br];rw[bJ,iY i];refine j (i+1) _ _ l (by omega) (by omega) ?_;simp only[fj,xq]at a;omega
   simp only[eA,k3,dY,X];refine z t.aP 0 0 H rfl (by omega) (by omega) ?_;omega
 · have e:m=1:=by simp at h;omega
   subst e;refine k1 0 H (by omega) (by omega) ?_;rw[p3];rfl
end
end Rb
