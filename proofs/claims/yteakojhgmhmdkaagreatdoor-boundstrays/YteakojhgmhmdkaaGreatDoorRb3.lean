/- A part of the proof (part 3): see the last text. -/
import Derived.Test.YteakojhgmhmdkaaGreatDoorRb2
import Derived.Test.YteakojhgmhmdkaaGreatDoorRows
import Derived.KernelRfl
import Derived.WalkKit
import Derived.ProofKit
import Derived.Lib.Bytealg
import Derived.Laws.Externs
import Derived.Test.YteakojhgmhmdkaaGreatDoorRb1
import Derived.LaidLaws
import Derived.LaidHandle
import Derived.Lib.LaidU8
import Derived.Deep.DeepLaidRun
import Derived.Handed
import Derived.JoinedOf
import Derived.SevenTiedAt
import Derived.Lib.Space
import Derived.ChangeArms
import Derived.SizedLaws
import Derived.Below
import Derived.Lib.DecodeN
set_option linter.unusedVariables false
set_option linter.unusedSimpArgs false
open Array renaming getElem?_eq_some_iff→YL
open BEq renaming rfl→abY
open BitVec renaming ofInt→TH
open Bool renaming and_eq_true→X7, and_self→aa0, eq_false_iff→aaA, eq_iff_iff→aal, false_eq_true→ZV, not_eq_false'→ab4, not_eq_false→abX, not_eq_true'→Z_, not_eq_true→abW, not_false→ab1, not_true→ab2, true_eq_false→ab0
open ByteArray renaming mk→X_
open Decidable renaming not_not→abF
open Go.Addr renaming add→abt
open Go.DataW renaming Trod→abB, trod→abl, weightsAll→abo, weights→abn
open Go.Extern.BytealgIndexByte renaming indexByte→abj
open Go.IntKind renaming bits→Ye, max→abD, min→abC, signed→Yd, wrap→Zb
open Go.Lib renaming decodeN→abT, decode_at→abU, indexByte→abi
open Go.Utf8 renaming decode→X0
open Go.World renaming cell?→abw, cells?_some→abu
open Iff renaming rfl→abE
open Int renaming reduceBEq→abZ
open List renaming all_append→abP, all_cons→aaM, any_cons→ab6, any_eq_true→aaB, append_nil→abQ, cons_append→ZY, drop_drop→abx, drop_eq_getElem_cons→abK, drop_succ_cons→aa2, drop_zero→abz, findIdx?_cons→abN, findIdx?→abO, flatMap_cons→abk, getElem?_append_left→ZE, getElem?_append_right→ZF, getElem?_cons_succ→abq, getElem?_cons_zero→abp, getElem?_eq_getElem→YU, getElem?_eq_some_iff→X1, getElem?_map→YT, length_append→abI, length_cons→abJ, length_drop→abS, length_eq_one_iff→ab5, length_eq_zero_iff→Zo, length_nil→ab7, length_take→ab3, mem_append→aag, mem_cons→aan, mem_of_getElem?→aaN, sizeOf_lt_of_mem→abV, take_add_one→abR, take_append_of_le_length→abL, take_length→abA, take_of_length_le→abM
open Nat renaming add_assoc→Ym, add_comm→abH, add_mul→YA, add_zero→YD, eq_zero_or_pos→abr, le_refl→sl, le_succ→YH, le_trans→xl, lt_of_lt_of_le→AH, lt_succ_self→aaP, ne_of_lt→YM, one_mul→abG, zero_add→YO, zero_le→Yz, zero_mul→abv
open Option renaming map_eq_some_iff→aby, map_some→Yi, some→Yh
open Prod renaming fst→abm
namespace Go.Proofs.YteakojhgmhmdkaaGreatDoor.rb
open Rb
noncomputable def gt(g:Nat):Option (List I):=if g=0 then some Dg else if g=5 then some Eh else if g=7 then some Dh else none
noncomputable def C:Ctx:=lZ Tryz.prog gt
noncomputable def Ei:List Hint:=[
  ⟨3,[10,21,23,25,180],[[13,14],[17],[19,20],[24]],none,[],[]⟩,
  ⟨4,[11],[[7],[10,13]],none,[],[]⟩,
  ⟨5,[15],[[16],[17],[18,19]],none,[],[]⟩,
  ⟨7,[2,4,94],[[3],[5],[10]],none,[],[]⟩,
  ⟨8,[1],[],none,[],[]⟩,
  ⟨9,[6],[[1,5]],none,[],[]⟩,
  ⟨10,[7],[[5,6]],none,[],[]⟩,
  ⟨11,[9,13],[[7,25],[7,41]],none,[],[]⟩,
  ⟨12,[6,11,12,17],[[13],[14,15],[18]],none,[],[]⟩,
  ⟨13,[7],[[12]],none,[],[]⟩,
  ⟨14,[5,37],[],none,[],[]⟩,
  ⟨15,[8],[[5,6,14]],none,[],[]⟩,
  ⟨21,[],[[3]],none,[],[]⟩,
  ⟨22,[],[[4]],none,[],[]⟩,
  ⟨23,[],[],none,[],[]⟩,
  ⟨24,[10],[[6],[5,8,9],[8]],none,[],[]⟩,
  ⟨25,[10],[[8,9]],none,[],[]⟩,
  ⟨26,[2,3,4],[],none,[],[]⟩,
  ⟨27,[],[[2,7]],none,[],[]⟩,
  ⟨28,[8],[[2,7]],none,[],[]⟩,
  ⟨29,[4,8,11,12],[[6,7],[9,10],[9,13]],none,[],[]⟩,
  ⟨30,[4,16],[],none,[],[]⟩,
  ⟨31,[2,3,4,8,9],[[5,6,7],[5],[6]],none,[],[]⟩,
  ⟨32,[6,7,10],[],none,[],[]⟩,
  ⟨33,[],[],none,[],[]⟩,
  ⟨34,[],[],none,[],[]⟩,
  ⟨35,[5],[],none,[],[]⟩,
  ⟨36,[2,41],[[34]],none,[],[]⟩,
  ⟨37,[6],[[14]],none,[],[]⟩,
  ⟨38,[5],[],none,[],[]⟩,
  ⟨39,[4,7,10,11],[[33]],none,[],[]⟩,
  ⟨43,[],[[8]],none,[],[]⟩,
  ⟨46,[],[],none,[],[]⟩,
  ⟨47,[],[],none,[],[]⟩,
  ⟨48,[],[[3,4],[3,5]],none,[],[]⟩,
  ⟨49,[],[],none,[],[]⟩,
  ⟨50,[],[],none,[],[]⟩,
  ⟨51,[],[[6]],none,[],[]⟩,
  ⟨52,[],[[5]],none,[],[]⟩,
  ⟨53,[10],[[13]],none,[],[]⟩]
theorem Ot:il C Ei=true:=by kernel_rfl
noncomputable def Ej:List Hint:=[
  ⟨54,[9],[[8]],none,[],[]⟩,
  ⟨55,[2,3,5,6,7],[[],[]],none,[],[]⟩,
  ⟨56,[2,5],[],none,[],[]⟩,
  ⟨57,[6],[[8]],none,[],[]⟩,
  ⟨58,[],[],none,[],[]⟩,
  ⟨59,[],[[8]],none,[],[]⟩,
  ⟨60,[2],[],none,[],[]⟩,
  ⟨61,[],[],none,[],[]⟩,
  ⟨62,[4,5],[],none,[],[]⟩,
  ⟨63,[5],[[3,14]],none,[],[]⟩,
  ⟨64,[8],[[16]],none,[],[]⟩,
  ⟨65,[],[],none,[],[]⟩,
  ⟨66,[7,8],[],none,[],[]⟩,
  ⟨67,[],[],none,[],[]⟩,
  ⟨68,[],[],none,[],[]⟩,
  ⟨69,[4],[],none,[],[]⟩,
  ⟨70,[],[[8]],none,[],[]⟩,
  ⟨72,[4,6],[],none,[],[]⟩,
  ⟨73,[],[[5,6],[5,8]],none,[],[]⟩,
  ⟨74,[4],[[3],[5]],none,[],[]⟩,
  ⟨75,[],[[3,4],[3,5]],none,[],[]⟩,
  ⟨76,[],[],none,[],[]⟩,
  ⟨77,[],[],none,[],[]⟩,
  ⟨78,[3,5,37],[],none,[],[]⟩,
  ⟨79,[],[],none,[],[]⟩,
  ⟨80,[],[],none,[],[]⟩,
  ⟨81,[4,5,7],[[]],none,[],[]⟩,
  ⟨82,[],[],none,[],[]⟩,
  ⟨83,[],[[5]],none,[],[]⟩,
  ⟨84,[2],[],none,[],[]⟩,
  ⟨85,[],[],none,[],[]⟩,
  ⟨86,[2,4,6],[],none,[],[]⟩,
  ⟨87,[],[],none,[],[]⟩,
  ⟨88,[6,8,11,12],[[23]],none,[],[]⟩,
  ⟨89,[],[],none,[],[]⟩,
  ⟨90,[],[],none,[],[]⟩,
  ⟨91,[],[[8]],none,[],[]⟩,
  ⟨92,[],[],none,[],[]⟩,
  ⟨93,[],[[3],[3,5]],none,[],[]⟩,
  ⟨94,[],[],none,[],[]⟩]
theorem Ou:il C Ej=true:=by kernel_rfl
noncomputable def iR:List Hint:=[
  ⟨95,[],[[]],none,[],[]⟩,
  ⟨96,[],[],none,[],[]⟩,
  ⟨97,[],[],none,[],[]⟩,
  ⟨98,[],[],none,[],[]⟩,
  ⟨99,[],[],none,[],[]⟩,
  ⟨100,[],[],none,[],[]⟩,
  ⟨101,[],[],none,[],[]⟩,
  ⟨102,[6],[],none,[],[]⟩,
  ⟨103,[],[],none,[],[]⟩,
  ⟨104,[6],[],none,[],[]⟩,
  ⟨105,[4,5],[],none,[],[]⟩,
  ⟨106,[4,5],[],none,[],[]⟩,
  ⟨107,[2],[],none,[],[]⟩,
  ⟨108,[],[],none,[],[]⟩,
  ⟨109,[3],[],none,[],[]⟩,
  ⟨110,[],[],none,[],[]⟩,
  ⟨111,[],[],none,[],[]⟩,
  ⟨112,[],[],none,[],[]⟩,
  ⟨113,[],[],none,[],[]⟩,
  ⟨114,[],[],none,[],[]⟩,
  ⟨115,[2,4,6,7],[[16]],none,[],[]⟩,
  ⟨116,[],[[5]],none,[],[]⟩,
  ⟨117,[3,11],[[]],none,[],[]⟩,
  ⟨118,[],[],none,[],[]⟩,
  ⟨119,[],[],none,[],[]⟩,
  ⟨120,[],[],none,[],[]⟩,
  ⟨121,[],[],none,[],[]⟩,
  ⟨122,[],[],none,[],[]⟩,
  ⟨123,[],[],none,[],[]⟩,
  ⟨124,[2],[[11],[17]],none,[],[]⟩,
  ⟨125,[],[],none,[],[]⟩,
  ⟨126,[],[],none,[],[]⟩,
  ⟨127,[4,5],[],none,[],[]⟩,
  ⟨128,[4,5],[],none,[],[]⟩,
  ⟨129,[],[],none,[],[]⟩,
  ⟨130,[],[],none,[],[]⟩,
  ⟨131,[],[],none,[],[]⟩,
  ⟨132,[],[],none,[],[]⟩,
  ⟨133,[],[],none,[],[]⟩,
  ⟨134,[],[[1,2,3,10,11]],none,[],[]⟩]
theorem pL:il C iR=true:=by kernel_rfl
noncomputable def l8:List Hint:=[
  ⟨135,[],[],none,[],[]⟩,
  ⟨136,[],[],none,[],[]⟩,
  ⟨137,[],[],none,[],[]⟩,
  ⟨138,[],[],none,[],[]⟩,
  ⟨139,[41],[[3,4,5,6],[12],[10,11,12],[12]],some 9,[],[]⟩,
  ⟨140,[],[],none,[],[]⟩,
  ⟨141,[3],[],none,[],[]⟩,
  ⟨142,[],[],none,[],[]⟩,
  ⟨143,[],[],none,[],[]⟩,
  ⟨144,[8,11,13],[[42],[49]],none,[],[]⟩,
  ⟨145,[7],[[10]],none,[],[]⟩,
  ⟨146,[5],[],none,[],[]⟩,
  ⟨147,[9],[],none,[],[]⟩,
  ⟨148,[5],[],none,[],[]⟩,
  ⟨149,[5,8,9],[[6,17]],none,[],[]⟩,
  ⟨150,[],[[8]],none,[],[]⟩,
  ⟨151,[],[],none,[],[]⟩,
  ⟨152,[4,6,7,9,13,15],[[46]],none,[],[]⟩,
  ⟨153,[],[],none,[],[]⟩,
  ⟨154,[11,12],[[9,17]],none,[],[]⟩,
  ⟨155,[],[],none,[],[]⟩,
  ⟨156,[],[],none,[],[]⟩,
  ⟨157,[11,12],[[16]],none,[],[]⟩,
  ⟨158,[],[],none,[],[]⟩,
  ⟨159,[6],[],none,[],[]⟩,
  ⟨160,[4],[],none,[],[]⟩,
  ⟨161,[7,9],[[5,15],[5,30]],none,[],[]⟩,
  ⟨162,[],[],none,[],[]⟩,
  ⟨163,[],[],none,[],[]⟩,
  ⟨164,[],[[18]],none,[],[]⟩,
  ⟨165,[],[],none,[],[]⟩,
  ⟨166,[],[],none,[],[]⟩,
  ⟨167,[],[],none,[],[]⟩,
  ⟨168,[],[],none,[],[]⟩,
  ⟨169,[],[],none,[],[]⟩,
  ⟨170,[],[],none,[],[]⟩,
  ⟨171,[],[],none,[],[]⟩,
  ⟨172,[4,5],[[]],none,[],[]⟩,
  ⟨173,[],[[6]],none,[],[]⟩,
  ⟨174,[4],[],none,[],[]⟩]
theorem Ov:il C l8=true:=by kernel_rfl
noncomputable def Ek:List Hint:=[
  ⟨175,[4,6],[],none,[],[]⟩,
  ⟨176,[],[],none,[],[]⟩,
  ⟨177,[],[[8]],none,[],[]⟩,
  ⟨178,[],[[8],[9]],none,[],[]⟩,
  ⟨179,[],[[11],[12]],none,[],[]⟩,
  ⟨180,[9],[[11]],none,[],[]⟩,
  ⟨181,[11],[],none,[],[]⟩,
  ⟨182,[],[[8,9]],none,[],[]⟩,
  ⟨183,[],[[9,10],[9],[11],[12]],none,[],[]⟩,
  ⟨184,[],[[11,12],[11],[12]],none,[],[]⟩,
  ⟨185,[],[[12],[13],[12,13],[12],[13]],none,[],[]⟩,
  ⟨186,[],[],none,[],[]⟩,
  ⟨187,[],[],none,[],[]⟩,
  ⟨188,[],[[8]],none,[],[]⟩,
  ⟨189,[11,12,46],[[5,6],[49]],none,[],[]⟩,
  ⟨190,[],[],none,[],[]⟩,
  ⟨191,[2],[],none,[],[]⟩,
  ⟨192,[],[],none,[],[]⟩,
  ⟨193,[],[],none,[],[]⟩,
  ⟨194,[],[],none,[],[]⟩,
  ⟨195,[],[],none,[],[]⟩,
  ⟨196,[],[],none,[],[]⟩,
  ⟨197,[],[[1]],none,[],[]⟩,
  ⟨198,[5],[[3,16],[3,6],[7]],none,[],[]⟩,
  ⟨199,[5],[],none,[],[]⟩,
  ⟨200,[],[],none,[],[]⟩,
  ⟨201,[],[],none,[],[]⟩,
  ⟨202,[],[],none,[],[]⟩,
  ⟨203,[],[],none,[],[]⟩,
  ⟨204,[],[[6]],none,[],[]⟩,
  ⟨205,[],[[12,13,101]],none,[],[]⟩,
  ⟨206,[],[],none,[],[]⟩,
  ⟨207,[4,5,7],[],none,[],[]⟩,
  ⟨208,[8,9],[[22]],none,[],[]⟩,
  ⟨209,[],[[10]],none,[],[]⟩,
  ⟨210,[],[],none,[],[]⟩,
  ⟨211,[],[],none,[],[]⟩,
  ⟨212,[],[],none,[],[]⟩,
  ⟨213,[],[],none,[],[]⟩,
  ⟨214,[],[],none,[],[]⟩]
theorem Ow:il C Ek=true:=by kernel_rfl
noncomputable def rz:List Hint:=[
  ⟨215,[],[],none,[],[]⟩,
  ⟨216,[1],[[3],[4]],none,[],[]⟩,
  ⟨217,[],[],none,[],[]⟩,
  ⟨218,[],[[5]],none,[],[]⟩,
  ⟨219,[],[],none,[],[]⟩,
  ⟨220,[],[],none,[],[]⟩,
  ⟨221,[],[],none,[],[]⟩,
  ⟨222,[],[],none,[],[]⟩,
  ⟨223,[],[],none,[],[]⟩,
  ⟨224,[],[[3,4]],none,[],[]⟩,
  ⟨227,[15],[],none,[],[]⟩,
  ⟨228,[15],[],none,[],[]⟩,
  ⟨229,[],[[6]],none,[],[]⟩,
  ⟨230,[],[],none,[],[]⟩,
  ⟨231,[],[[20],[7,8]],none,[],[]⟩,
  ⟨232,[10],[[16],[7,8]],none,[],[]⟩,
  ⟨233,[],[],none,[],[]⟩,
  ⟨234,[],[],none,[],[]⟩,
  ⟨235,[9],[],none,[],[]⟩,
  ⟨236,[5],[],none,[],[]⟩,
  ⟨237,[],[],none,[],[]⟩,
  ⟨239,[],[],none,[],[]⟩,
  ⟨240,[5],[],none,[],[]⟩,
  ⟨241,[],[],none,[],[]⟩,
  ⟨242,[],[],none,[],[]⟩,
  ⟨243,[],[[1,4]],none,[],[]⟩,
  ⟨244,[12],[[1,13],[1,13]],none,[],[]⟩,
  ⟨245,[],[],none,[],[]⟩,
  ⟨246,[],[],none,[],[]⟩,
  ⟨247,[],[],none,[],[]⟩,
  ⟨248,[],[],none,[],[]⟩,
  ⟨249,[],[],none,[],[]⟩,
  ⟨250,[],[],none,[],[]⟩]
theorem Ox:il C rz=true:=by kernel_rfl
noncomputable def hs:List Hint:=Ei++(Ej++(iR++(l8++(Ek++(rz)))))
theorem Oy:il C hs=true:=pv Ot (pv Ou (pv pL (pv Ov (pv Ow (Ox)))))
end Go.Proofs.YteakojhgmhmdkaaGreatDoor.rb

namespace Go.Proofs.YteakojhgmhmdkaaGreatDoor.rb
open Rb
theorem Oz:∀g l,gt g=some l→I.bA l=true:=by
 intro g l h;unfold gt at h;split at h
 ·cases h;kernel_rfl
 split at h
 ·cases h;kernel_rfl
 split at h
 ·cases h;kernel_rfl
 cases h
theorem j2:bP C:=Oz
noncomputable def fn:Nat→Option rk:=rq C 4096 hs
theorem OA:yN (ai C) (uy fn):=Oj Oy 4096
end Go.Proofs.YteakojhgmhmdkaaGreatDoor.rb

namespace Go.Proofs.YteakojhgmhmdkaaGreatDoor.rb
open Rb Go.RowKit
set_option maxRecDepth 100000 in
theorem OB(s:ByteArray)(c:Int)(w:World):Calls Tryz.prog 234 #[.string s,.int .u8 c] w λe w'=>e = .returned (.int .i64 (abi s.data.toList c.toNat.toUInt8))∧w'=w:=by
 go_enter Tryz.func234,Tryz.ntmps234
 go_wp2
 rw[run_callFunc_extern Tryz.func238 (by kernel_rfl) (by kernel_rfl) (by kernel_rfl) (e:=abj) (by kernel_rfl),Go.Lib.run_indexByteString];simp only[Result.andThen];rw[Oper.upon_value]
 go_wp2
 go_ret
 exact⟨rfl,rfl⟩
theorem indexByte(s:List UInt8)(c:Int)(H:Z)(Q:ad)(hQ:Q (.int .i64 (abi s c.toNat.toUInt8)) H):ai C 234 [.str s,.int .u8 c] H Q:=by
 refine⟨⟨_,_,hQ⟩,λf hf G w Vs hG a b=>?_⟩;obtain rfl:f=234:=by
  have:C.F 234=some 234:=by kernel_rfl
  rw[this]at hf;exact(Yh.inj hf).symm
 obtain⟨hl,hv⟩:=b;obtain⟨d⟩:=Vs
 match d,hl with
 | [g,h],_=>have i:=(hv 0 _ g rfl rfl).iL;have h1:=(hv 1 _ h rfl rfl).e7;subst i h1;refine(OB ⟨s.toArray⟩ c w).mono λe w' ⟨he,hw⟩=>?_;subst hw;exact⟨_,_,H,G,he,hQ,.int _ _,a,Step.refl _ _ _⟩
noncomputable def zF(L:List (Nat×List I×I)):pk:=λk a=>cond (Nat.beq k 234) (match a with|[.str s,.int .u8 c]=>some (.int .i64 (abi s c.toNat.toUInt8))|_=>none) (zD L k a)
theorem OC{L:List (Nat×List I×I)}(b:gY (ai C) (fY L)):gY (ai C) (zF L):=by
 intro k a v h H Q hQ;unfold zF at h;cases hb:Nat.beq k 234 with
 |false=>rw[hb]at h;exact On b k a v h H Q hQ
 | true=>
  rw[hb]at h;obtain rfl:=Nat.eq_of_beq_eq_true hb;simp only[cond_true]at h;split at h
  ·cases h;exact indexByte _ _ H Q hQ
  ·cases h
noncomputable def rA(L:List (Nat×List I×I)):dC:=yM (zF L) (uy fn) 100
theorem uA{L:List (Nat×List I×I)}(a:gY (ai C) (fY L)):eQ (ai C) (rA L):=Ng (OC a) OA 100
end Go.Proofs.YteakojhgmhmdkaaGreatDoor.rb

namespace Rb.K
end Rb.K

namespace Rb.S
open Go
open Go.Proofs.YteakojhgmhmdkaaGreatDoor.rb (C)
def uB(Φ:aj)(b:ST)(c:LT)(Q:ad):a:=λf d=>
 Do (ab .add (G b.1 0) (M 1)) λe=>
 c ([e],d)
def pM(Φ:aj)(b:ST)(c:LT)(Q:ad):a:=λd e=>
 Do (ab .add (G b.1 1) (M 1)) λf=>
 c ([(G d 0),f],e)
def El(Φ:aj)(e f:I)(g:List I)(c:ST)(d:LT)(Q:ad):a:=λB b=>
 aL (G c.1 0) false (
 Do (cI .not (G g 0)) λh=>
 aL h false (
 Do (W 0 f) λi=>
 Do (O b 1 false i) λj=>
 Do (aO none 2 e (G c.1 1)) λk=>
 Do (W 0 k) λl=>
 Do (O b 1 false l) λm=>
 Do (ab .geq j m) λn=>
 aL n true (
 Do (W 0 f) λo=>
 Do (O b 1 false o) λp=>
 Do (W 1 f) λq=>
 Do (O b 1 false q) λr=>
 Do (ab .add p r) λs=>
 Do (aO none 2 e (G c.1 1)) λt=>
 Do (W 0 t) λu=>
 Do (O b 1 false u) λv=>
 Do (aO none 2 e (G c.1 1)) λw=>
 Do (W 1 w) λx=>
 Do (O b 1 false x) λy=>
 Do (ab .add v y) λz=>
 Do (ab .leq s z) λA=>
 N (pM Φ c d Q) [A] b) (
 N (pM Φ c d Q) [P] b) (
 False)) (
 N (pM Φ c d Q) [br] b) (
 False)) (
 N (pM Φ c d Q) [br] b) (
 False)
def zG(Φ:aj)(c:I)(d:ST)(Q:ad):a:=λe b=>
 aL (G e 0) true (
 Do (ab .eql c (G d.1 0)) λf=>
 Q f b) (
 Q P b) (
 False)
def zH(Φ:aj)(c f:I)(b:ST)(g:LT)(Q:ad):a:=λh d=>
 Do (cI .not (G h 0)) λi=>
 Gd i true (
Φ 8 [] d λj e=>
 aL j true (
 N (zG Φ c b Q) [f] e) (
 N (zG Φ c b Q) [P] e) (
 False)) (
 N (uB Φ b g Q) [] d)
def rB(Φ:aj)(d e f g:I)(h:ST)(i:LT)(j:List I)(b:ST)(k:LT)(Q:ad):a:=λl c=>
 Gd (G l 0) true (
 N (El Φ f g j b k Q) [] c) (
 N (zH Φ d e h i Q) [(G b.1 0)] c)
def pN(Φ:aj)(c d b j e:I)(f:ST)(g:LT)(h:List I)(Q:ad):BT:=λa i=>
 Do (bo false b) λk=>
 Do (ab .lss (G a.1 1) k) λl=>
 aL l true (
 N (rB Φ c d b e f g h a i Q) [j] a.2) (
 N (rB Φ c d b e f g h a i Q) [P] a.2) (
 False)
def uC(Φ:aj)(b c d e f:I)(g:ST)(h:LT)(Q:ad):a:=λi j=>
 aA (pN Φ b c d e f g h i Q) ([P,J],j)
def zI(Φ:aj)(d e f g b:I)(h:ST)(i:LT)(Q:ad):a:=λj c=>
 aL (G j 0) true (
 Do (W 1 b) λk=>
 Do (O c 1 false k) λl=>
 Do (ab .leq l (M 1048576)) λm=>
 N (uC Φ d e f g b h i Q) [m] c) (
 N (uC Φ d e f g b h i Q) [P] c) (
 False)
def zJ(Φ:aj)(d e f g b:I)(h:ST)(i:LT)(Q:ad):a:=λj c=>
 aL (G j 0) true (
 Do (W 1 b) λk=>
 Do (O c 1 false k) λl=>
 Do (ab .geq l (M 1)) λm=>
 N (zI Φ d e f g b h i Q) [m] c) (
 N (zI Φ d e f g b h i Q) [P] c) (
 False)
def zK(Φ:aj)(c:I)(Q:ad):a:=λd b=>
 aL (G d 0) true (
 Do (ab .eql c J) λe=>
 Q e b) (
 Q P b) (
 False)
def Em(Φ:aj)(b d:I)(Q:ad):a:=λh e=>
Φ 8 [] e λf c=>
 aL f true (
 Do (cI .not d) λg=>
 N (zK Φ b Q) [g] c) (
 N (zK Φ b Q) [P] c) (
 False)
def l9(Φ:aj)(l e f:I)(b:List I)(Q:ad):BT:=λa g=>
 Do (bo false (G b 0)) λm=>
 Do (ab .lss (G a.1 0) m) λn=>
 Gd n true (
 Do (aO none 11 (G b 0) (G a.1 0)) λo=>
 Do (W 3 o) λp=>
 Do (O a.2 1 false p) λq=>
 Do (cI .not q) λr=>
 Gd r true (
 N (uB Φ a g Q) [] a.2) (
 Do (O a.2 2 true l) λs=>
 Do (aO none 11 (G b 0) (G a.1 0)) λt=>
 Do (W 0 t) λu=>
 Do (O a.2 1 false u) λv=>
 Do (aO none 11 (G b 0) (G a.1 0)) λw=>
 Do (W 1 w) λx=>
 Do (O a.2 1 false x) λy=>
Φ 6 [s,v,y] a.2 λh i=>
 Do (bh 0 h) λj=>
 Do (bh 1 h) λk=>
 Do (aO none 11 (G b 0) (G a.1 0)) λz=>
 Do (W 5 z) λA=>
 Do (O i 2 true A) λB=>
 au (some (aJ i true [J,J])) λc C=>
 Do (Y C 2 c B) λd=>
 Do (W 0 c) λD=>
 Do (O d 1 false D) λE=>
 Do (ab .geq E J) λF=>
 aL F true (
 Do (W 0 c) λH=>
 Do (O d 1 false H) λK=>
 Do (ab .leq K (M 1099511627776)) λL=>
 N (zJ Φ e f j k c a g Q) [L] d) (
 N (zJ Φ e f j k c a g Q) [P] d) (
 False))) (
 N (Em Φ e f Q) [] a.2)
def uD(Φ:aj)(b:I)(Q:ad):a:=λc d=>
 Do (O d 2 true b) λf=>
Φ 13 [f,(G c 0)] d λe g=>
 Do (bh 0 e) λh=>
 Do (bh 1 e) λi=>
 aA (l9 Φ b h i c Q) ([J],g)
def f4(Φ:aj)(a0 a1:I)(H:Z)(Q:ad):Prop:=
 au (aK H false 2 a0) λa H2=>
 Do (bo false a1) λb=>
 Do (ab .gtr b (M 20)) λc=>
 Gd c true (
 Do (c9 11 a1 none (some (M 20)) none) λd=>
 N (uD Φ a Q) [d] H2) (
 N (uD Φ a Q) [a1] H2)
noncomputable def En:aT:=R C ⟨4,[11],[[7],[10,13]],none,[],[]⟩
def Eo(Φ:aj)(b:ST)(c:LT)(Q:ad):a:=λd e=>
 Do (ab .add (G b.1 1) (M 1)) λf=>
 c ([(G d 0),f],e)
def uE(Φ:aj)(e f g:I)(d:ST)(h:LT)(Q:ad):BT:=λa i=>
 Do (ab .lss (G a.1 1) g) λj=>
 Gd j true (
 Do (aO none 2 f (G a.1 1)) λk=>
 Do (O a.2 2 true k) λl=>
 au (some (aJ a.2 true [J,J])) λc m=>
 Do (Y m 2 c l) λb=>
 Do (aO none 3 e (G d.1 1)) λn=>
 Do (W 1 n) λo=>
 Do (W 0 o) λp=>
 Do (O b 1 false p) λq=>
 Do (W 0 c) λr=>
 Do (O b 1 false r) λs=>
 Do (ab .add q s) λt=>
 Do (W 1 c) λu=>
 Do (O b 1 false u) λv=>
 Do (bm [J,J] [(0,1,t),(1,1,v)]) λw=>
 au (dk b false 2 1 [J,J] [(0,2,w)]) λx y=>
 au (cp y false 2 16 (G a.1 0) x) λz A=>
 Do (ab .add (G a.1 1) (M 1)) λB=>
 i ([z,B],A)) (
 N (Eo Φ d h Q) [(G a.1 0)] a.2)
def Ep(Φ:aj)(Q:ad):a:=λb c=>
 Q (.ar [(G b 0),J]) c
def rC(Φ:aj)(a0 h i:I)(Q:ad):BT:=λa j=>
 Do (ab .lss (G a.1 1) i) λk=>
 Gd k true (
 Do (aO none 7 a0 (G a.1 1)) λl=>
 Do (O a.2 7 true l) λm=>
 au (some (aJ a.2 true [.str [],J,J,P,aQ,J,aQ])) λb n=>
 Do (Y n 7 b m) λc=>
 Do (W 1 b) λo=>
 Do (O c 6 true o) λp=>
Φ 30 [p] c λd e=>
 Do (bh 0 d) λf=>
 Do (bh 1 d) λg=>
 Do (ab .neq g J) λq=>
 Gd q true (
 Q (.ar [aQ,g]) e) (
 Do (bo false f) λr=>
 aA (uE Φ h f r a j Q) ([(G a.1 0),J],e))) (
 N (Ep Φ Q) [(G a.1 0)] a.2)
def f11(Φ:aj)(a0:I)(H:Z)(Q:ad):Prop:=
Φ 15 [a0] H λa H2=>
 Do (bh 0 a) λc=>
 Do (bh 1 a) λf=>
 Do (bh 2 a) λb=>
 Do (ab .neq b J) λd=>
 Gd d true (
 Q (.ar [aQ,b]) H2) (
 Do (bo false a0) λe=>
 aA (rC Φ a0 c e Q) ([aQ,J],H2))
noncomputable def Er:aT:=R C ⟨11,[9,13],[[7,25],[7,41]],none,[],[]⟩
def uF(Φ:aj)(b:ST)(c:LT)(Q:ad):a:=λf d=>
 Do (ab .add (G b.1 0) (M 1)) λe=>
 c ([e],d)
def uG(Φ:aj)(b:ST)(d:LT)(Q:ad):a:=λe c=>
 Gd (G e 0) true (
 Q (.ar [(G b.1 0),br]) c) (
 N (uF Φ b d Q) [] c)
def rD(Φ:aj)(a1 g h:I)(Q:ad):BT:=λa d=>
 Do (ab .lss (G a.1 0) h) λi=>
 Gd i true (
 Do (aO none 11 a1 (G a.1 0)) λj=>
 Do (O a.2 11 true j) λk=>
 au (some (aJ a.2 true [J,J,P,P,P,J,J,aQ,J,P,J])) λc l=>
 Do (Y l 11 c k) λb=>
 Do (W 3 c) λm=>
 Do (O b 1 false m) λn=>
 Do (cI .not n) λo=>
 Gd o true (
 N (uF Φ a d Q) [] b) (
 Do (O b 2 true g) λp=>
 Do (W 0 c) λq=>
 Do (O b 1 false q) λr=>
 Do (W 1 c) λs=>
 Do (O b 1 false s) λt=>
Φ 6 [p,r,t] b λe f=>
 Do (bh 0 e) λu=>
 Do (bh 1 e) λv=>
 Do (cI .not v) λw=>
 aL w false (
Φ 33 [u,(.fn 34 [c])] f λx y=>
 Do (cI .not x) λz=>
 N (uG Φ a d Q) [z] y) (
 N (uG Φ a d Q) [br] f) (
 False))) (
 Q (.ar [J,P]) a.2)
def f13(Φ:aj)(a0 a1:I)(H:Z)(Q:ad):Prop:=
 au (aK H false 2 a0) λa H2=>
 Do (bo false a1) λb=>
 aA (rD Φ a1 a b Q) ([J],H2)
noncomputable def Es:aT:=R C ⟨13,[7],[[12]],none,[],[]⟩
def zL(Φ:aj)(a1 b:I)(Q:ad):a:=λv e=>
 Do (W 0 b) λi=>
 Do (O e 1 false i) λj=>
Φ 15 [j] e λc f=>
 Do (bh 0 c) λk=>
 Do (bh 1 c) λw=>
 Do (bh 2 c) λx=>
 Do (W 0 b) λl=>
 Do (O f 1 false l) λm=>
 Do (bm [aQ,aQ,aQ,J,J,aQ,J,aQ] [(0,1,m),(1,1,k)]) λn=>
 au (aK f true 8 n) λg d=>
 Do (W 1 b) λo=>
 Do (O d 1 false o) λp=>
 Do (aO none 1 p a1) λq=>
 Do (O d 1 false q) λr=>
Φ 37 [g,r] d λy h=>
 Do (aX g) λs=>
 Do (W 5 s) λt=>
 Do (O h 1 false t) λu=>
 Q u h
def rE(Φ:aj)(a1 c:I)(Q:ad):a:=λd b=>
 Gd (G d 0) true (
 Q aQ b) (
 N (zL Φ a1 c Q) [] b)
def uH(Φ:aj)(a1 b:I)(Q:ad):a:=λd c=>
 aL (G d 0) false (
 Do (W 1 b) λe=>
 Do (O c 1 false e) λf=>
 Do (bo false f) λg=>
 Do (ab .geq a1 g) λh=>
 N (rE Φ a1 b Q) [h] c) (
 N (rE Φ a1 b Q) [br] c) (
 False)
def f14(Φ:aj)(a0 a1:I)(H:Z)(Q:ad):Prop:=
 au (aK H false 2 a0) λa H2=>
 Do (O H2 2 true a) λd=>
Φ 36 [d] H2 λe f=>
 au (some (aJ f true [J,J])) λc g=>
 Do (Y g 2 c e) λb=>
 Do (W 1 c) λh=>
 Do (O b 1 false h) λi=>
 Do (ab .neq i J) λj=>
 aL j false (
 Do (ab .lss a1 J) λk=>
 N (uH Φ a1 a Q) [k] b) (
 N (uH Φ a1 a Q) [br] b) (
 False)
noncomputable def Et:aT:=R C ⟨14,[5,37],[],none,[],[]⟩
def Eu(Φ:aj)(c:ST)(d:LT)(Q:ad):a:=λb e=>
 Do (ab .add (G c.1 2) (M 1)) λf=>
 d ([(G b 0),(G b 1),f],e)
def uI(Φ:aj)(f b:I)(c:ST)(g:LT)(Q:ad):a:=λd e=>
 Do (W 0 f) λh=>
 Do (O e 1 false h) λi=>
 Do (ab .add (M 65536) (G d 0)) λj=>
 Do (bm [J,J] [(0,1,j),(1,1,b)]) λk=>
 Do (bm [.str [],J,J] [(0,1,i),(1,2,k)]) λl=>
 au (dk e false 3 1 [.str [],J,J] [(0,3,l)]) λm n=>
 au (cp n false 3 32 (G c.1 0) m) λo p=>
 Do (ab .add (G d 0) b) λq=>
 N (Eu Φ c g Q) [o,q] p
def Ev(Φ:aj)(Q:ad):a:=λb H2=>
 Do (ab .gtr (G b 1) (M 65536)) λc=>
 Gd c true (
 Q (.ar [aQ,J,(M 9)]) H2) (
 Q (.ar [(G b 0),(G b 1),J]) H2)
def rF(Φ:aj)(a0 k:I)(Q:ad):BT:=λa f=>
 Do (ab .lss (G a.1 2) k) λl=>
 Gd l true (
 Do (aO none 7 a0 (G a.1 2)) λm=>
 Do (O a.2 7 true m) λn=>
 au (some (aJ a.2 true [.str [],J,J,P,aQ,J,aQ])) λb o=>
 Do (Y o 7 b n) λg=>
 Do (W 1 b) λp=>
 Do (O g 6 true p) λq=>
Φ 38 [q] g λc d=>
 Do (bh 0 c) λh=>
 Do (bh 1 c) λe=>
 Do (bh 2 c) λi=>
 Do (ab .neq i J) λr=>
 Gd r true (
 Q (.ar [aQ,J,i]) d) (
 Do (ab .add (G a.1 1) e) λs=>
 Do (ab .sub s (M 1)) λt=>
 Do (ab .quo t e) λu=>
 Do (ab .mul u e) λj=>
 Do (ab .gtr j (M 65536)) λv=>
 Gd v true (
 N (uI Φ b h a f Q) [(M 65537)] d) (
 N (uI Φ b h a f Q) [j] d))) (
 N (Ev Φ Q) [(G a.1 0),(G a.1 1)] a.2)
def f15(Φ:aj)(a0:I)(H:Z)(Q:ad):Prop:=
 Do (bo false a0) λa=>
 aA (rF Φ a0 a Q) ([aQ,J,J],H)
noncomputable def Ew:aT:=R C ⟨15,[8],[[5,6,14]],none,[],[]⟩
def zM(Φ:aj)(a0:I)(Q:ad):a:=λb H2=>
 aL (G b 0) false (
 Do (ab .geq a0 (M 16)) λc=>
 aL c true (
 Do (ab .leq a0 (M 18)) λd=>
 Q d H2) (
 Q P H2) (
 False)) (
 Q br H2) (
 False)
def f16(Φ:aj)(a0:I)(H:Z)(Q:ad):Prop:=
 Do (ab .geq a0 (M 3)) λa=>
 aL a true (
 Do (ab .leq a0 (M 6)) λb=>
 N (zM Φ a0 Q) [b] H) (
 N (zM Φ a0 Q) [P] H) (
 False)
noncomputable def Ex:aT:=R C ⟨16,[],[],none,[],[]⟩
def uJ(Φ:aj)(b:ST)(c:LT)(Q:ad):a:=λj9 d=>
 Do (ab .add (G b.1 1) (M 1)) λe=>
 c ([(G j9 0),e],d)
def rG(Φ:aj)(a0 d n o:I)(Q:ad):BT:=λa e=>
 Do (ab .lss (G a.1 1) o) λp=>
 Gd p true (
 Do (aO none 2 n (G a.1 1)) λq=>
 Do (O a.2 2 true q) λr=>
 au (some (aJ a.2 true [.str [],aQ])) λf s=>
 Do (Y s 2 f r) λb=>
 Do (W 1 f) λt=>
 Do (O b 1 false t) λu=>
 Do (bo false u) λv=>
 Do (ab .gtr v J) λw=>
 Gd w true (
 Do (W 0 d) λg=>
 Do (O b 1 false g) λh=>
 Do (W 1 d) λi=>
 Do (O b 1 false i) λj=>
 Do (c9 2 j none (some (G a.1 1)) none) λx=>
 Do (bm [.str [],aQ] [(0,1,h),(1,1,x)]) λy=>
Φ 39 [a0,y] b λk z=>
 Do (bh 0 k) λA=>
 Do (bh 1 k) λK=>
 au (some (aJ z true [J,J,P,aQ,J,aQ])) λl c=>
(O c 1 false g=some h) ∧
(O c 1 false i=some j) ∧
(Do (Y c 6 l A) λm=>
 Do (W 4 l) λB=>
 Do (O m 1 false B) λC=>
 au (dk m false 1 1 [J] [(0,1,C)]) λD E=>
 au (cp E false 1 8 (G a.1 0) D) λF H=>
 N (uJ Φ a e Q) [F] H)) (
 N (uJ Φ a e Q) [(G a.1 0)] b)) (
 Q (G a.1 0) a.2)
def f17(Φ:aj)(a0 a1:I)(H:Z)(Q:ad):Prop:=
 au (aK H false 2 a1) λa H2=>
 Do (W 1 a) λc=>
 Do (O H2 1 false c) λb=>
 Do (bo false b) λd=>
 aA (rG Φ a0 a b d Q) ([aQ,J],H2)
noncomputable def Ey:aT:=R C ⟨17,[7,8],[[5,13]],none,[],[]⟩
def f18(Φ:aj)(a0:I)(H:Z)(Q:ad):Prop:=
 au (aK H false 1 a0) λa H2=>
 Q (.fn 40 [a]) H2
noncomputable def Ez:aT:=R C ⟨18,[],[],none,[],[]⟩
def EA(Φ:aj)(b g c:I)(Q:ad):a:=λq d=>
 Do (W 0 g) λh=>
 Do (O d 1 false h) λi=>
 Do (aX c) λj=>
 Do (W 6 j) λk=>
 Do (W 2 k) λl=>
 Do (Y d 1 l i) λe=>
 Do (aX c) λm=>
 Do (W 6 m) λn=>
 Do (O e 6 true n) λo=>
 Do (Y e 6 b o) λf=>
 Do (O f 6 true b) λp=>
 Q (.ar [p,J]) f
def uK(Φ:aj)(b h c i j:I)(Q:ad):BT:=λa k=>
 Do (ab .lss (G a.1 0) j) λl=>
 Gd l true (
 Do (aO none 2 i (G a.1 0)) λm=>
 Do (O a.2 2 true m) λn=>
 au (some (aJ a.2 true [.str [],aQ])) λd o=>
 Do (Y o 2 d n) λe=>
 Do (O e 2 true d) λp=>
Φ 45 [c,p] e λq f=>
 Do (cI .not q) λr=>
 Gd r true (
 Do (bm [J,J,J,P,J,J] []) λs=>
 Do (Y f 6 b s) λg=>
 Do (O g 6 true b) λt=>
 Q (.ar [t,(M 14)]) g) (
 Do (ab .add (G a.1 0) (M 1)) λu=>
 k ([u],f))) (
 N (EA Φ b h c Q) [] a.2)
def EB(Φ:aj)(a0 g c h i j:I)(Q:ad):a:=λw k=>
Φ 43 [a0,(.fn 44 [c])] k λd b=>
 Do (aO none 7 a0 d) λl=>
 Do (W 1 l) λm=>
 Do (O b 6 true m) λn=>
 Do (aO none 3 i d) λo=>
 Do (W 1 o) λp=>
 Do (O b 2 true p) λq=>
 Do (bm [J,J,J,P,J,J] [(0,2,q)]) λr=>
 Do (bm [J,J,P,aQ,J,aQ,J,J,J,P,J,J,aQ] [(0,6,n),(6,6,r),(12,1,g)]) λs=>
 au (aK b true 13 s) λt e=>
 Do (W 1 c) λu=>
 Do (O e 1 false u) λf=>
 Do (bo false f) λv=>
 aA (uK Φ h j t f v Q) ([J],e)
def uL(Φ:aj)(a0 d e b i j:I)(Q:ad):a:=λk c=>
 Gd (G k 0) true (
 Do (bm [J,J,J,P,J,J] []) λl=>
 Do (Y c 6 b l) λf=>
 Do (O f 6 true b) λm=>
 Q (.ar [m,(M 8)]) f) (
 Do (bo false d) λn=>
 Do (O c 2 true e) λo=>
Φ 42 [o] c λp g=>
 Do (ab .neq n p) λq=>
 Gd q true (
 Do (bm [J,J,J,P,J,J] []) λr=>
 Do (Y g 6 b r) λh=>
 Do (O h 6 true b) λs=>
 Q (.ar [s,(M 1)]) h) (
 N (EB Φ a0 d e b i j Q) [] g))
def f19(Φ:aj)(a0 a1 g:I)(H:Z)(Q:ad):Prop:=
 au (aK H false 2 a1) λd H2=>
 au (some (aJ H2 true [J,J,J,P,J,J])) λa n=>
Φ 15 [a0] n λe f=>
 Do (bh 0 e) λh=>
 Do (bh 1 e) λE=>
 Do (bh 2 e) λi=>
 Do (ab .neq i J) λo=>
 Gd o true (
 Do (bm [J,J,J,P,J,J] []) λp=>
 Do (Y f 6 a p) λj=>
 Do (O j 6 true a) λq=>
 Q (.ar [q,i]) j) (
 Do (O f 2 true d) λr=>
Φ 39 [a0,r] f λk s=>
 Do (bh 0 k) λt=>
 Do (bh 1 k) λl=>
 au (some (aJ s true [J,J,P,aQ,J,aQ])) λb u=>
 Do (Y u 6 b t) λc=>
 Do (ab .neq l J) λv=>
 Gd v true (
 Do (bm [J,J,J,P,J,J] []) λw=>
 Do (Y c 6 a w) λm=>
 Do (O m 6 true a) λx=>
 Q (.ar [x,l]) m) (
 Do (W 0 b) λy=>
 Do (O c 1 false y) λz=>
 Do (ab .neq z (M 1)) λA=>
 aL A true (
 Do (W 0 b) λB=>
 Do (O c 1 false B) λC=>
 Do (ab .neq C (M 2)) λD=>
 N (uL Φ a0 g d a h b Q) [D] c) (
 N (uL Φ a0 g d a h b Q) [P] c) (
 False)))
noncomputable def EC:aT:=R C ⟨19,[6,11,15,70],[[74]],none,[],[]⟩
def uM(Φ:aj)(b:ST)(c:LT)(Q:ad):a:=λf d=>
 Do (ab .add (G b.1 0) (M 1)) λe=>
 c ([e],d)
def rH(Φ:aj)(e f:I)(c:ST)(d:LT)(Q:ad):a:=λg b=>
 Gd (G g 0) true (
 Do (O b 2 true f) λh=>
 Do (Y b 2 e h) λi=>
 N (uM Φ c d Q) [] i) (
 N (uM Φ c d Q) [] b)
def ED(Φ:aj)(b e:I)(Q:ad):a:=λj9 c=>
 Do (O c 2 true e) λf=>
 Do (Y c 2 b f) λd=>
 Do (O d 2 true b) λg=>
 Q g d
def pO(Φ:aj)(a0 g h b i:I)(Q:ad):BT:=λa e=>
 Do (ab .lss (G a.1 0) i) λj=>
 Gd j true (
 Do (aO none 2 a0 (G a.1 0)) λk=>
 Do (O a.2 2 true k) λl=>
 au (some (aJ a.2 true [J,J])) λc m=>
 Do (Y m 2 c l) λf=>
 Do (O f 2 true g) λn=>
 Do (O f 2 true c) λo=>
Φ 35 [n,o] f λp d=>
 aL p true (
 Do (W 1 b) λq=>
 Do (O d 1 false q) λr=>
 Do (ab .eql r J) λs=>
 aL s false (
 Do (W 1 c) λt=>
 Do (O d 1 false t) λu=>
 Do (W 1 b) λv=>
 Do (O d 1 false v) λw=>
 Do (ab .lss u w) λx=>
 N (rH Φ b c a e Q) [x] d) (
 N (rH Φ b c a e Q) [br] d) (
 False)) (
 N (rH Φ b c a e Q) [P] d) (
 False)) (
 N (ED Φ h b Q) [] a.2)
def f20(Φ:aj)(a0 a1:I)(H:Z)(Q:ad):Prop:=
 au (aK H false 2 a1) λb H2=>
 au (some (aJ H2 true [J,J])) λc d=>
 Do (bm [J,J] []) λe=>
 au (some (aJ d true [J,J])) λa f=>
 Do (Y f 2 a e) λg=>
 Do (bo false a0) λh=>
 aA (pO Φ a0 b c a h Q) ([J],g)
noncomputable def EE:aT:=R C ⟨20,[4,5,7],[[11]],none,[],[]⟩
def f30(Φ:aj)(a0:I)(H:Z)(Q:ad):Prop:=
 au (aK H false 6 a0) λc H2=>
 Do (O H2 6 true c) λi=>
Φ 56 [i] H2 λd j=>
 Do (bh 0 d) λk=>
 Do (bh 1 d) λe=>
 au (some (aJ j true [J,J])) λl m=>
 Do (Y m 2 l k) λf=>
 Do (ab .neq e J) λn=>
 Gd n true (
 Q (.ar [aQ,e]) f) (
 Do (bm [aQ,P] []) λo=>
 au (aK f true 2 o) λa g=>
 Do (O g 6 true c) λp=>
Φ 57 [a,p,J] g λy q=>
Φ 58 [a] q λz b=>
 Do (aX a) λr=>
 Do (W 1 r) λs=>
 Do (O b 1 false s) λt=>
 Gd t true (
 Q (.ar [aQ,(M 12)]) b) (
 au (jQ b a) λu h=>
 Do (aX u) λv=>
 Do (W 0 v) λw=>
 Do (O h 1 false w) λx=>
 Q (.ar [x,J]) h))
noncomputable def EF:aT:=R C ⟨30,[4,16],[],none,[],[(9,[6])]⟩
def f33(Φ:aj)(a0 a1:I)(H:Z)(Q:ad):Prop:=
Φ 59 [a0,a1] H λa H2=>
 Do (ab .geq a J) λb=>
 Q b H2
noncomputable def EG:aT:=R C ⟨33,[],[],none,[],[]⟩
def f34(Φ:aj)(a0 a1:I)(H:Z)(Q:ad):Prop:=
 au (aK H false 2 a0) λa H2=>
 Do (W 5 a1) λb=>
 Do (O H2 2 true b) λc=>
 Do (O H2 2 true a) λd=>
Φ 35 [c,d] H2 λe f=>
 Q e f
noncomputable def EH:aT:=R C ⟨34,[],[],none,[],[]⟩
def f35(Φ:aj)(a0 a1:I)(H:Z)(Q:ad):Prop:=
 au (aK H false 2 a0) λi H2=>
 au (aK H2 false 2 a1) λj e=>
 Do (O e 2 true i) λk=>
Φ 60 [k] e λl m=>
 au (some (aJ m true [J,J])) λa o=>
 Do (Y o 2 a l) λf=>
 Do (O f 2 true a) λp=>
Φ 61 [p] f λq b=>
 aL q false (
 Do (O b 2 true a) λg=>
 Do (O b 2 true j) λr=>
 Do (O b 2 true a) λc=>
Φ 60 [r] b λs d=>
(((P):I) = P→O d 2 true a=some g) ∧
(((P):I) = P→O d 2 true a=some c) ∧
(Φ 62 [g,s] d λt h=>
(((P):I) = P→O h 2 true a=some c) ∧
(Do (km false [.n,.n] t c) λu=>
 Q u h))) (
(((br):I) = P→O b 2 true a=some (.ar [])) ∧
(((br):I) = P→O b 2 true a=some (.ar [])) ∧
((((br):I) = P→O b 2 true a=some (.ar [])) ∧
(Q br b))) (
(((.ar []):I) = P→O b 2 true a=some (.ar [])) ∧
(((.ar []):I) = P→O b 2 true a=some (.ar [])) ∧
((((.ar []):I) = P→O b 2 true a=some (.ar [])) ∧
(False)))
noncomputable def EI:aT:=R C ⟨35,[5],[],none,[],[]⟩
def EJ(Φ:aj)(b:I)(Q:ad):a:=λg d=>
 Do (bm [J,J] []) λe=>
 Do (Y d 2 b e) λc=>
 Do (O c 2 true b) λf=>
 Q f c
def uN(Φ:aj)(f b g h:I)(Q:ad):BT:=λa i=>
 Do (ab .lss (G a.1 0) h) λj=>
 Gd j true (
 Do (aO none 1 g (G a.1 0)) λk=>
 Do (O a.2 1 false k) λl=>
 Do (W 0 f) λm=>
 Do (O a.2 1 false m) λn=>
 Do (bm [aQ,aQ,J,J,J,J] [(0,1,n)]) λo=>
 au (aK a.2 true 6 o) λc p=>
Φ 64 [c,l,(M 1)] p λx q=>
Φ 65 [c] q λr d=>
 Gd r true (
 Do (aX c) λs=>
 Do (W 4 s) λt=>
 Do (O d 2 true t) λu=>
 Do (Y d 2 b u) λe=>
 Do (O e 2 true b) λv=>
 Q v e) (
 Do (ab .add (G a.1 0) (M 1)) λw=>
 i ([w],d))) (
 N (EJ Φ b Q) [] a.2)
def zN(Φ:aj)(b c:I)(Q:ad):a:=λp e=>
 Do (W 0 b) λi=>
 Do (O e 1 false i) λj=>
Φ 63 [j] e λf d=>
 Do (ab .neq f J) λk=>
 Gd k true (
 Do (bm [J,J] [(1,1,f)]) λl=>
 Do (Y d 2 c l) λg=>
 Do (O g 2 true c) λm=>
 Q m g) (
 Do (W 1 b) λn=>
 Do (O d 1 false n) λh=>
 Do (bo false h) λo=>
 aA (uN Φ b c h o Q) ([J],d))
def uO(Φ:aj)(e b:I)(Q:ad):a:=λf c=>
 Gd (G f 0) true (
 Do (bm [J,J] [(1,1,(M 12))]) λg=>
 Do (Y c 2 b g) λd=>
 Do (O d 2 true b) λh=>
 Q h d) (
 N (zN Φ e b Q) [] c)
def uP(Φ:aj)(b d:I)(Q:ad):a:=λj9 c=>
 aL (G j9 0) false (
 Do (W 1 b) λe=>
 Do (O c 1 false e) λf=>
 Do (bo false f) λg=>
 Do (ab .gtr g (M 8)) λh=>
 N (uO Φ b d Q) [h] c) (
 N (uO Φ b d Q) [br] c) (
 False)
def f36(Φ:aj)(a0:I)(H:Z)(Q:ad):Prop:=
 au (aK H false 2 a0) λa H2=>
 au (some (aJ H2 true [J,J])) λc b=>
 Do (W 0 a) λd=>
 Do (O b 1 false d) λe=>
 Do (bo false e) λf=>
 Do (ab .gtr f (M 32)) λg=>
 aL g false (
 Do (W 1 a) λh=>
 Do (O b 1 false h) λi=>
 Do (bo false i) λj=>
 Do (ab .lss j (M 1)) λk=>
 N (uP Φ a c Q) [k] b) (
 N (uP Φ a c Q) [br] b) (
 False)
noncomputable def EK:aT:=R C ⟨36,[2,41],[[34]],none,[],[]⟩
def EL(Φ:aj)(a0 c:I)(Q:ad):a:=λk b=>
 Do (aX a0) λd=>
 Do (W 7 d) λe=>
 Do (O b 1 false e) λf=>
 Do (c9 2 f none (some c) none) λg=>
 Do (aX a0) λh=>
 Do (W 7 h) λi=>
 Do (Y b 1 i g) λj=>
 Q (.ar []) j
def uQ(Φ:aj)(a0 a1 e f:I)(Q:ad):BT:=λa g=>
 Do (ab .lss (G a.1 0) f) λh=>
 Gd h true (
 Do (aO none 10 a1 (G a.1 0)) λi=>
 Do (O a.2 10 true i) λj=>
 au (some (aJ a.2 true [J,J,.str [],.str [],J,.str [],aQ,aQ,aQ,aQ])) λb k=>
 Do (Y k 10 b j) λc=>
 Do (W 1 b) λl=>
 Do (O c 1 false l) λm=>
 Do (aX a0) λn=>
 Do (W 6 n) λo=>
 Do (Y c 1 o m) λd=>
 Do (O d 10 true b) λp=>
Φ 66 [a0,p] d λs q=>
 Do (ab .add (G a.1 0) (M 1)) λr=>
 g ([r],q)) (
 N (EL Φ a0 e Q) [] a.2)
def f37(Φ:aj)(a0 a1:I)(H:Z)(Q:ad):Prop:=
 Do (aX a0) λa=>
 Do (W 7 a) λb=>
 Do (O H 1 false b) λc=>
 Do (bo false c) λd=>
 Do (bo false a1) λe=>
 aA (uQ Φ a0 a1 d e Q) ([J],H)
noncomputable def EM:aT:=R C ⟨37,[6],[[14]],none,[],[]⟩
def f38(Φ:aj)(a0:I)(H:Z)(Q:ad):Prop:=
 au (aK H false 6 a0) λd H2=>
 Do (O H2 6 true d) λe=>
Φ 56 [e] H2 λc f=>
 Do (bh 0 c) λg=>
 Do (bh 1 c) λh=>
 au (some (aJ f true [J,J])) λa i=>
 Do (Y i 2 a g) λb=>
 Do (W 0 a) λj=>
 Do (O b 1 false j) λk=>
 Do (W 1 a) λl=>
 Do (O b 1 false l) λm=>
 Q (.ar [k,m,h]) b
noncomputable def EN:aT:=R C ⟨38,[5],[],none,[],[]⟩
def EO(Φ:aj)(b e:I)(Q:ad):a:=λh c=>
 Do (O c 6 true e) λf=>
 Do (Y c 6 b f) λd=>
 Do (O d 6 true b) λg=>
 Q (.ar [g,J]) d
def uR(Φ:aj)(b c k l:I)(Q:ad):BT:=λa m=>
 Do (ab .lss (G a.1 0) l) λn=>
 Gd n true (
 Do (aO none 2 k (G a.1 0)) λo=>
 Do (O a.2 2 true o) λp=>
 au (some (aJ a.2 true [.str [],aQ])) λf q=>
 Do (Y q 2 f p) λd=>
 Do (O d 6 true c) λr=>
 Do (O d 2 true f) λs=>
Φ 69 [r,s] d λg t=>
 Do (bh 0 g) λu=>
 Do (bh 1 g) λh=>
 au (some (aJ t true [J,J,P,aQ,J,aQ])) λi v=>
 Do (Y v 6 i u) λe=>
 Do (ab .neq h J) λw=>
 Gd w true (
 Do (bm [J,J,P,aQ,J,aQ] []) λx=>
 Do (Y e 6 b x) λj=>
 Do (O j 6 true b) λy=>
 Q (.ar [y,h]) j) (
 Do (O e 6 true i) λz=>
 Do (Y e 6 c z) λA=>
 Do (ab .add (G a.1 0) (M 1)) λB=>
 m ([B],A))) (
 N (EO Φ b c Q) [] a.2)
def f39(Φ:aj)(a0 a1:I)(H:Z)(Q:ad):Prop:=
 au (aK H false 2 a1) λe H2=>
 au (some (aJ H2 true [J,J,P,aQ,J,aQ])) λa l=>
Φ 43 [a0,(.fn 67 [e])] l λf b=>
 Do (ab .lss f J) λm=>
 Gd m true (
 Do (bm [J,J,P,aQ,J,aQ] []) λn=>
 Do (Y b 6 a n) λg=>
 Do (O g 6 true a) λo=>
 Q (.ar [o,(M 6)]) g) (
 Do (aO none 7 a0 f) λp=>
 Do (W 1 p) λq=>
 Do (O b 6 true q) λr=>
 au (some (aJ b true [J,J,P,aQ,J,aQ])) λc s=>
 Do (Y s 6 c r) λh=>
 Do (O h 6 true c) λt=>
Φ 68 [t] h λi d=>
 Do (ab .neq i J) λu=>
 Gd u true (
 Do (bm [J,J,P,aQ,J,aQ] []) λv=>
 Do (Y d 6 a v) λj=>
 Do (O j 6 true a) λw=>
 Q (.ar [w,i]) j) (
 Do (W 1 e) λx=>
 Do (O d 1 false x) λk=>
 Do (bo false k) λy=>
 aA (uR Φ a c k y Q) ([J],d)))
noncomputable def EP:aT:=R C ⟨39,[4,7,10,11],[[33]],none,[],[]⟩
def ER(Φ:aj)(c:LT)(Q:ad):a:=λgy b=>
 Do (ab .lss (G gy 0) J) λd=>
 Gd d true (
 Q (.ar []) b) (
 c ([],b))
def OD(Φ:aj)(a1 c:I)(d:LT)(Q:ad):BT:=λa e=>
 Do (ab .geq (G a.1 0) J) λf=>
 Gd f true (
 Do (aO none 1 c (G a.1 0)) λg=>
 Do (O a.2 1 false g) λh=>
 Do (ab .add h (bY 1)) λi=>
 Do (aO none 1 c (G a.1 0)) λj=>
 Do (Y a.2 1 j i) λb=>
 Do (aO none 1 c (G a.1 0)) λk=>
 Do (O b 1 false k) λl=>
 Do (O b 1 false a1) λm=>
 Do (aO none 1 m (G a.1 0)) λn=>
 Do (O b 1 false n) λo=>
 Do (e6 .u64 o) λp=>
 Do (ab .lss l p) λq=>
 Gd q true (
 N (ER Φ d Q) [(G a.1 0)] b) (
 Do (aO none 1 c (G a.1 0)) λr=>
 Do (Y b 1 r (bY 0)) λs=>
 Do (ab .sub (G a.1 0) (M 1)) λt=>
 e ([t],s))) (
 N (ER Φ d Q) [(G a.1 0)] a.2)
def OE(Φ:aj)(a0 a1 a:I)(Q:ad):BT:=λe f=>
Φ 41 [a] e.2 λg h=>
∃b c,a0 = .fn b c∧Φ (h_ b) (ia b [g] c) h λi d=>
 Do (cI .not i) λj=>
 Gd j true (
 Q (.ar []) d) (
 Do (bo false a) λk=>
 Do (ab .sub k (M 1)) λl=>
 aA (OD Φ a1 a f Q) ([l],d))
def f40(Φ:aj)(a0 a1:I)(H:Z)(Q:ad):Prop:=
 Do (O H 1 false a1) λb=>
 Do (bo false b) λa=>
 au (kn H true 1 8 [bY 0] a a) λc d=>
 aA (OE Φ a0 a1 c Q) ([],d)
noncomputable def OG:aT:=R C ⟨40,[7],[[],[4]],none,[],[]⟩
def f41(Φ:aj)(a0:I)(H:Z)(Q:ad):Prop:=
 Do (my .s false a0) λa=>
 Gd a true (
 Q aQ H) (
 au (dk H false 1 0 [bY 0] []) λb c=>
 au (cp c false 1 8 b a0) λd e=>
 Q d e)
noncomputable def ES:aT:=R C ⟨41,[],[],none,[],[]⟩
def uS(Φ:aj)(d e:I)(Q:ad):BT:=λa f=>
 Do (ab .lss (G a.1 1) e) λg=>
 Gd g true (
 Do (aO none 2 d (G a.1 1)) λh=>
 Do (O a.2 2 true h) λi=>
 au (some (aJ a.2 true [.str [],aQ])) λb j=>
 Do (Y j 2 b i) λc=>
 Do (W 1 b) λk=>
 Do (O c 1 false k) λl=>
 Do (bo false l) λm=>
 Do (ab .add (G a.1 0) m) λn=>
 Do (ab .add (G a.1 1) (M 1)) λo=>
 f ([n,o],c)) (
 Q (G a.1 0) a.2)
def f42(Φ:aj)(a0:I)(H:Z)(Q:ad):Prop:=
 au (aK H false 2 a0) λb H2=>
 Do (W 1 b) λc=>
 Do (O H2 1 false c) λa=>
 Do (bo false a) λd=>
 aA (uS Φ a d Q) ([J,J],H2)
noncomputable def ET:aT:=R C ⟨42,[5],[[3,9]],none,[],[]⟩
def OH(Φ:aj)(a0 a1 d:I)(Q:ad):BT:=λs2 e=>
 Do (ab .lss (G s2.1 0) d) λf=>
 Gd f true (
 Do (aO none 7 a0 (G s2.1 0)) λg=>
 Do (O s2.2 7 true g) λh=>
∃a b,a1 = .fn a b∧Φ (h_ a) (ia a [h] b) s2.2 λi c=>
 Gd i true (
 Q (G s2.1 0) c) (
 Do (ab .add (G s2.1 0) (M 1)) λj=>
 e ([j],c))) (
 Q (M (-1)) s2.2)
def f43(Φ:aj)(a0 a1:I)(H:Z)(Q:ad):Prop:=
 Do (bo false a0) λa=>
 aA (OH Φ a0 a1 a Q) ([J],H)
noncomputable def EW:aT:=R C ⟨43,[],[[8]],none,[],[]⟩
def f44(Φ:aj)(a0 a1:I)(H:Z)(Q:ad):Prop:=
 au (aK H false 7 a0) λa H2=>
 Do (W 0 a) λb=>
 Do (O H2 1 false b) λc=>
 Do (W 0 a1) λd=>
 Do (O H2 1 false d) λe=>
 Do (ab .eql c e) λf=>
 Q f H2
noncomputable def EY:aT:=R C ⟨44,[],[],none,[],[]⟩
def f45(Φ:aj)(a0 a1:I)(H:Z)(Q:ad):Prop:=
 au (aK H false 2 a1) λf H2=>
 Do (W 1 f) λo=>
 Do (O H2 1 false o) λp=>
 Do (bo false p) λq=>
 Do (ab .eql q (M 1)) λr=>
 Gd r true (
 Do (aX a0) λs=>
 Do (W 12 s) λt=>
 Do (O H2 1 false t) λu=>
 Do (aO none 1 u J) λv=>
 Do (O H2 1 false v) λg=>
 Do (aX a0) λw=>
 Do (W 12 w) λx=>
 Do (O H2 1 false x) λy=>
 Do (c9 1 y (some (M 1)) none none) λz=>
 Do (aX a0) λA=>
 Do (W 12 A) λB=>
 Do (Y H2 1 B z) λa=>
 Do (aX a0) λC=>
 Do (W 0 C) λD=>
 Do (W 4 D) λE=>
 Do (O a 1 false E) λF=>
 Do (e6 .u64 F) λG=>
 Do (ab .geq g G) λK=>
 Gd K true (
 Q P a) (
 Do (aX a0) λL=>
 Do (W 0 L) λN=>
 Do (W 5 N) λR=>
 Do (O a 1 false R) λS=>
 Do (aO none 6 S J) λT=>
 Do (O a 6 true T) λU=>
 Do (aX a0) λV=>
 Do (W 0 V) λX=>
 Do (Y a 6 X U) λh=>
 Do (aX a0) λaa=>
 Do (W 0 aa) λac=>
 Do (O h 6 true ac) λae=>
Φ 38 [ae] h λd i=>
 Do (bh 0 d) λj=>
 Do (bh 1 d) λbg=>
 Do (bh 2 d) λbi=>
 Do (aX a0) λaf=>
 Do (W 6 af) λag=>
 Do (W 0 ag) λah=>
 Do (W 0 ah) λai=>
 Do (O i 1 false ai) λak=>
 Do (e6 .i64 g) λal=>
 Do (ab .mul al j) λam=>
 Do (ab .add ak am) λan=>
 Do (aX a0) λao=>
 Do (W 6 ao) λap=>
 Do (W 0 ap) λaq=>
 Do (W 0 aq) λar=>
 Do (Y i 1 ar an) λav=>
 Do (aX a0) λaw=>
 Do (W 6 aw) λax=>
 Do (W 0 ax) λay=>
 Do (W 1 ay) λaz=>
 Do (Y av 1 az j) λaA=>
 Q br aA)) (
 Do (aX a0) λaB=>
 Do (W 0 aB) λaC=>
 Do (W 3 aC) λaD=>
 Do (O H2 1 false aD) λaE=>
Φ 70 [aE,(.fn 71 [f])] H2 λk l=>
 Do (aX a0) λaF=>
 Do (W 0 aF) λaG=>
 Do (O l 6 true aG) λaH=>
Φ 72 [aH] l λm n=>
 Do (bh 0 m) λaI=>
 Do (bh 1 m) λbj=>
 Do (aO none 6 aI k) λaL=>
 Do (O n 6 true aL) λaM=>
 au (some (aJ n true [J,J,J,P,J,J])) λb aN=>
 Do (Y aN 6 b aM) λe=>
 Do (W 0 b) λaP=>
 Do (W 0 aP) λaQ=>
 Do (O e 1 false aQ) λaR=>
 Do (aX a0) λaS=>
 Do (W 6 aS) λaT=>
 Do (W 0 aT) λaU=>
 Do (W 0 aU) λaV=>
 Do (O e 1 false aV) λaW=>
 Do (ab .add aR aW) λaY=>
 Do (W 0 b) λaZ=>
 Do (W 0 aZ) λa2=>
 Do (Y e 1 a2 aY) λc=>
 Do (O c 6 true b) λa3=>
 Do (aX a0) λa4=>
 Do (W 0 a4) λa5=>
 Do (W 3 a5) λa6=>
 Do (O c 1 false a6) λa7=>
 Do (aO none 9 a7 k) λa8=>
 Do (W 1 a8) λa9=>
 Do (O c 6 true a9) λa_=>
 Do (aX a0) λba=>
 Do (W 6 ba) λbb=>
 Do (Y c 6 bb a3) λbc=>
 Do (aX a0) λbd=>
 Do (W 0 bd) λbe=>
 Do (Y bc 6 be a_) λbf=>
 Q br bf)
noncomputable def EZ:aT:=R C ⟨45,[12],[],none,[],[]⟩
def f56(Φ:aj)(a0:I)(H:Z)(Q:ad):Prop:=
 au (aK H false 6 a0) λb H2=>
 au (some (aJ H2 true [J,J])) λa f=>
 Do (O f 6 true b) λn=>
Φ 68 [n] f λg c=>
 Do (ab .neq g J) λo=>
 Gd o true (
 Do (bm [J,J] []) λp=>
 Do (Y c 2 a p) λh=>
 Do (O h 2 true a) λq=>
 Q (.ar [q,g]) h) (
 Do (O c 6 true b) λr=>
Φ 85 [r] c λs d=>
 Gd s true (
 Do (bm [J,J] []) λt=>
 Do (Y d 2 a t) λi=>
 Do (O i 2 true a) λu=>
 Q (.ar [u,(M 10)]) i) (
 Do (O d 6 true b) λv=>
Φ 86 [v] d λj w=>
 Do (bh 0 j) λx=>
 Do (bh 1 j) λy=>
 au (some (aJ w true [J,J])) λk z=>
 Do (Y z 2 k x) λe=>
 Do (cI .not y) λA=>
 Gd A true (
 Do (bm [J,J] []) λB=>
 Do (Y e 2 a B) λl=>
 Do (O l 2 true a) λC=>
 Q (.ar [C,(M 9)]) l) (
 Do (O e 2 true k) λD=>
 Do (Y e 2 a D) λm=>
 Do (O m 2 true a) λE=>
 Q (.ar [E,J]) m)))
noncomputable def E0:aT:=R C ⟨56,[2,5],[],none,[],[]⟩
def E1(Φ:aj)(a0 d e f:I)(c:ST)(g:LT)(Q:ad):a:=λr b=>
 Do (W 5 e) λh=>
 Do (O b 1 false h) λi=>
 Do (aO none 6 i J) λj=>
 Do (O b 6 true j) λk=>
 Do (W 0 f) λl=>
 Do (O b 1 false l) λm=>
 Do (ab .mul (G c.1 0) m) λn=>
 Do (ab .add d n) λo=>
Φ 57 [a0,k,o] b λs p=>
 Do (ab .add (G c.1 0) (M 1)) λq=>
 g ([q],p)
def pP(Φ:aj)(a0 c d e:I)(f:ST)(g:LT)(Q:ad):a:=λh b=>
 Gd (G h 0) true (
 N (E1 Φ a0 c d e f g Q) [] b) (
 Q (.ar []) b)
def uT(Φ:aj)(a0 c d e:I)(f:ST)(g:LT)(Q:ad):a:=λh b=>
 aL (G h 0) true (
 Do (aX a0) λi=>
 Do (W 1 i) λj=>
 Do (O b 1 false j) λk=>
 Do (cI .not k) λl=>
 N (pP Φ a0 c d e f g Q) [l] b) (
 N (pP Φ a0 c d e f g Q) [P] b) (
 False)
def rI(Φ:aj)(a0 d b c:I)(Q:ad):BT:=λa e=>
 Do (W 4 b) λf=>
 Do (O a.2 1 false f) λg=>
 Do (ab .lss (G a.1 0) g) λh=>
 aL h true (
 Do (W 0 c) λi=>
 Do (O a.2 1 false i) λj=>
 Do (ab .gtr j J) λk=>
 N (uT Φ a0 d b c a e Q) [k] a.2) (
 N (uT Φ a0 d b c a e Q) [P] a.2) (
 False)
def uU(Φ:aj)(a0 d c g:I)(Q:ad):a:=λh b=>
 Gd (G h 0) true (
 Do (W 1 c) λi=>
 Do (O b 1 false i) λj=>
 Do (bm [J,J] [(0,1,d),(1,1,j)]) λk=>
Φ 87 [a0,k] b λx l=>
 Q (.ar []) l) (
 Do (ab .eql g (M 5)) λm=>
 Gd m true (
 Do (W 5 c) λn=>
 Do (O b 1 false n) λo=>
 Do (aO none 6 o J) λp=>
 Do (O b 6 true p) λq=>
Φ 86 [q] b λe r=>
 Do (bh 0 e) λs=>
 Do (bh 1 e) λy=>
 au (some (aJ r true [J,J])) λf t=>
 Do (Y t 2 f s) λu=>
 aA (rI Φ a0 d c f Q) ([J],u)) (
 Do (O b 6 true c) λv=>
Φ 88 [a0,v,d] b λz w=>
 Q (.ar []) w))
def f57(Φ:aj)(a0 a1 c:I)(H:Z)(Q:ad):Prop:=
 au (aK H false 6 a1) λb H2=>
 Do (W 0 b) λe=>
 Do (O H2 1 false e) λa=>
 Do (ab .eql a (M 1)) λd=>
 Gd d true (
 N (uU Φ a0 c b a Q) [d] H2) (
 Do (ab .eql a (M 2)) λf=>
 N (uU Φ a0 c b a Q) [f] H2)
noncomputable def E2:aT:=R C ⟨57,[6],[[8]],none,[],[]⟩
def f58(Φ:aj)(a0:I)(H:Z)(Q:ad):Prop:=
 Do (aX a0) λc=>
 Do (W 0 c) λd=>
 Do (O H 1 false d) λe=>
Φ 89 [e,(.fn 90 [])] H λA b=>
 Do (aX a0) λf=>
 Do (W 0 f) λg=>
 Do (O b 1 false g) λh=>
Φ 93 [h] b λi j=>
 Do (aX a0) λk=>
 Do (W 0 k) λl=>
 Do (Y j 1 l i) λa=>
 Do (aX a0) λm=>
 Do (W 1 m) λn=>
 Do (O a 1 false n) λo=>
 aL o false (
 Do (aX a0) λp=>
 Do (W 0 p) λq=>
 Do (O a 1 false q) λr=>
 Do (bo false r) λs=>
 Do (ab .gtr s (M 4096)) λt=>
 Do (aX a0) λu=>
 Do (W 1 u) λv=>
 Do (Y a 1 v t) λw=>
 Q (.ar []) w) (
 Do (aX a0) λx=>
 Do (W 1 x) λy=>
 Do (Y a 1 y br) λz=>
 Q (.ar []) z) (
 False)
noncomputable def E3:aT:=R C ⟨58,[],[],none,[],[]⟩
def OI(Φ:aj)(a0 a1 d:I)(Q:ad):BT:=λs2 e=>
 Do (ab .lss (G s2.1 0) d) λf=>
 Gd f true (
 Do (aO none 2 a0 (G s2.1 0)) λg=>
 Do (O s2.2 2 true g) λh=>
∃a b,a1 = .fn a b∧Φ (h_ a) (ia a [h] b) s2.2 λi c=>
 Gd i true (
 Q (G s2.1 0) c) (
 Do (ab .add (G s2.1 0) (M 1)) λj=>
 e ([j],c))) (
 Q (M (-1)) s2.2)
def f59(Φ:aj)(a0 a1:I)(H:Z)(Q:ad):Prop:=
 Do (bo false a0) λa=>
 aA (OI Φ a0 a1 a Q) ([J],H)
noncomputable def E4:aT:=R C ⟨59,[],[[8]],none,[],[]⟩
def f60(Φ:aj)(a0:I)(H:Z)(Q:ad):Prop:=
 au (aK H false 2 a0) λb H2=>
 au (some (aJ H2 true [J,J])) λc d=>
 Do (O d 2 true b) λg=>
Φ 94 [g] d λh a=>
 Do (cI .not h) λi=>
 Gd i true (
 Do (bm [J,J] []) λj=>
 Do (Y a 2 c j) λe=>
 Do (O e 2 true c) λk=>
 Q k e) (
 Do (W 0 b) λl=>
 Do (O a 1 false l) λm=>
 Do (W 0 b) λn=>
 Do (O a 1 false n) λo=>
 Do (W 1 b) λp=>
 Do (O a 1 false p) λq=>
 Do (ab .add o q) λr=>
 Do (bm [J,J] [(0,1,m),(1,1,r)]) λs=>
 Do (Y a 2 c s) λf=>
 Do (O f 2 true c) λt=>
 Q t f)
noncomputable def E5:aT:=R C ⟨60,[2],[],none,[],[]⟩
def f61(Φ:aj)(a0:I)(H:Z)(Q:ad):Prop:=
 au (aK H false 2 a0) λa H2=>
 Do (W 0 a) λb=>
 Do (O H2 1 false b) λc=>
 Do (W 1 a) λd=>
 Do (O H2 1 false d) λe=>
 Do (ab .eql c e) λf=>
 Q f H2
noncomputable def E6:aT:=R C ⟨61,[],[],none,[],[]⟩
def f62(Φ:aj)(a0 a1:I)(H:Z)(Q:ad):Prop:=
 au (aK H false 2 a0) λe H2=>
 au (aK H2 false 2 a1) λf i=>
 au (some (aJ i true [J,J])) λc a=>
 Do (W 0 e) λj=>
 Do (O a 1 false j) λk=>
 Do (W 0 f) λl=>
 Do (O a 1 false l) λm=>
 Do (fo true [k,m]) λn=>
 Do (W 1 e) λo=>
 Do (O a 1 false o) λp=>
 Do (W 1 f) λq=>
 Do (O a 1 false q) λr=>
 Do (fo false [p,r]) λs=>
 Do (bm [J,J] [(0,1,n),(1,1,s)]) λt=>
 au (some (aJ a true [J,J])) λd u=>
 Do (Y u 2 d t) λb=>
 Do (W 0 d) λv=>
 Do (O b 1 false v) λw=>
 Do (W 1 d) λx=>
 Do (O b 1 false x) λy=>
 Do (ab .geq w y) λz=>
 Gd z true (
 Do (bm [J,J] []) λA=>
 Do (Y b 2 c A) λg=>
 Do (O g 2 true c) λB=>
 Q B g) (
 Do (O b 2 true d) λC=>
 Do (Y b 2 c C) λh=>
 Do (O h 2 true c) λD=>
 Q D h)
noncomputable def E7:aT:=R C ⟨62,[4,5],[],none,[],[]⟩
def E8(Φ:aj)(b:ST)(c:LT)(Q:ad):a:=λj9 d=>
 Do (ab .add (G b.1 1) (M 1)) λe=>
 c ([(G j9 0),e],d)
def zO(Φ:aj)(h:I)(d:ST)(i:LT)(Q:ad):a:=λgy e=>
 Do (W 1 h) λj=>
 Do (O e 6 true j) λk=>
Φ 38 [k] e λb f=>
 Do (bh 0 b) λl=>
 Do (bh 1 b) λc=>
 Do (bh 2 b) λg=>
 Do (ab .neq g J) λm=>
 Gd m true (
 Q g f) (
 Do (ab .add (G d.1 0) c) λn=>
 Do (ab .sub n (M 1)) λo=>
 Do (ab .quo o c) λp=>
 Do (ab .mul p c) λq=>
 Do (ab .add q l) λr=>
 N (E8 Φ d i Q) [r] f)
def uV(Φ:aj)(a0 b:I)(c:ST)(f:LT)(Q:ad):a:=λg d=>
 Gd (G g 0) true (
 Q (M 6) d) (
 Do (c9 7 a0 none (some (G c.1 1)) none) λh=>
Φ 97 [h,(.fn 98 [b])] d λi e=>
 Gd i true (
 Q (M 7) e) (
 N (zO Φ b c f Q) [] e))
def E9(Φ:aj)(Q:ad):a:=λc b=>
 Do (ab .gtr (G c 0) (M 65536)) λd=>
 Gd d true (
 Q (M 9) b) (
 Q J b)
def pQ(Φ:aj)(a0 f:I)(Q:ad):BT:=λa d=>
 Do (ab .lss (G a.1 1) f) λg=>
 Gd g true (
 Do (aO none 7 a0 (G a.1 1)) λh=>
 Do (O a.2 7 true h) λi=>
 au (some (aJ a.2 true [.str [],J,J,P,aQ,J,aQ])) λb j=>
 Do (Y j 7 b i) λe=>
 Do (W 0 b) λk=>
 Do (O e 1 false k) λl=>
Φ 95 [l] e λm c=>
 Do (cI .not m) λn=>
 aL n false (
 Do (W 0 b) λo=>
 Do (O c 1 false o) λp=>
Φ 96 [p] c λq r=>
 N (uV Φ a0 b a d Q) [q] r) (
 N (uV Φ a0 b a d Q) [br] c) (
 False)) (
 N (E9 Φ Q) [(G a.1 0)] a.2)
def f63(Φ:aj)(a0:I)(H:Z)(Q:ad):Prop:=
 Do (bo false a0) λa=>
 Do (ab .gtr a (M 32)) λb=>
 Gd b true (
 Q (M 12) H) (
 Do (bo false a0) λc=>
 aA (pQ Φ a0 c Q) ([J,J],H))
noncomputable def E_:aT:=R C ⟨63,[5],[[3,14]],none,[],[]⟩
def uW(Φ:aj)(b:ST)(c:LT)(Q:ad):a:=λf d=>
 Do (ab .add (G b.1 0) (M 1)) λe=>
 c ([e],d)
def Fa(Φ:aj)(a0 c:I)(Q:ad):a:=λk b=>
 Do (aX a0) λd=>
 Do (W 1 d) λe=>
 Do (O b 1 false e) λf=>
 Do (c9 1 f none (some c) none) λg=>
 Do (aX a0) λh=>
 Do (W 1 h) λi=>
 Do (Y b 1 i g) λj=>
 Q (.ar []) j
def rJ(Φ:aj)(a0 a1 f g h:I)(Q:ad):BT:=λa d=>
 Do (ab .lss (G a.1 0) h) λi=>
 Gd i true (
 Do (aO none 10 a1 (G a.1 0)) λj=>
 Do (O a.2 10 true j) λk=>
 au (some (aJ a.2 true [J,J,.str [],.str [],J,.str [],aQ,aQ,aQ,aQ])) λb l=>
 Do (Y l 10 b k) λm=>
Φ 65 [a0] m λn c=>
 Do (cI .not n) λo=>
 Gd o true (
 Do (W 1 b) λp=>
 Do (O c 1 false p) λq=>
 Do (aX a0) λr=>
 Do (W 3 r) λs=>
 Do (Y c 1 s q) λe=>
 Do (O e 10 true b) λt=>
Φ 99 [a0,t,f] e λv u=>
 N (uW Φ a d Q) [] u) (
 N (uW Φ a d Q) [] c)) (
 N (Fa Φ a0 g Q) [] a.2)
def f64(Φ:aj)(a0 a1 a:I)(H:Z)(Q:ad):Prop:=
 Do (aX a0) λb=>
 Do (W 1 b) λc=>
 Do (O H 1 false c) λd=>
 Do (bo false d) λe=>
 Do (bo false a1) λf=>
 aA (rJ Φ a0 a1 a e f Q) ([J],H)
noncomputable def Fb:aT:=R C ⟨64,[8],[[16]],none,[],[]⟩
def f65(Φ:aj)(a0:I)(H:Z)(Q:ad):Prop:=
 Do (aX a0) λa=>
 Do (W 4 a) λb=>
 Do (W 1 b) λc=>
 Do (O H 1 false c) λd=>
 Do (ab .neq d J) λe=>
 Q e H
noncomputable def Fc:aT:=R C ⟨65,[],[],none,[],[]⟩
def uX(Φ:aj)(a0 c d:I)(Q:ad):a:=λn b=>
 Gd (G n 0) true (
 Do (O b 10 true c) λo=>
Φ 105 [a0,o] b λam p=>
 Q (.ar []) p) (
 Do (ab .eql d (M 5)) λq=>
 Gd q true (
 Do (O b 10 true c) λr=>
Φ 106 [a0,r] b λan s=>
 Q (.ar []) s) (
 Do (ab .eql d (M 7)) λt=>
 Gd t true (
Φ 107 [(M 13)] b λu v=>
 au (some (aJ v true [J,J,J,J,J,J,bY 0,J,J,J,J,J,J])) λe w=>
 Do (Y w 13 e u) λf=>
 Do (W 4 c) λi=>
 Do (O f 1 false i) λj=>
 Do (W 0 c) λx=>
 Do (O f 1 false x) λy=>
 Do (W 4 c) λz=>
 Do (O f 1 false z) λA=>
 Do (bm [.str [],aQ] []) λB=>
 Do (W 9 e) λC=>
Φ 108 [a0,y,A,B] f λD k=>
(O k 1 false i=some j) ∧
(Do (Y k 1 C j) λE=>
 Do (W 11 e) λF=>
 Do (Y E 1 F D) λl=>
 Do (O l 13 true e) λH=>
Φ 109 [a0,H] l λao K=>
 Q (.ar []) K)) (
 Do (ab .eql d (M 8)) λL=>
 Gd L true (
 Do (O b 10 true c) λN=>
Φ 110 [a0,N] b λap P=>
 Q (.ar []) P) (
 Do (ab .eql d (M 9)) λR=>
 Gd R true (
 Do (O b 10 true c) λS=>
Φ 111 [a0,S] b λaq T=>
 Q (.ar []) T) (
 Do (ab .eql d (M 10)) λU=>
 Gd U true (
Φ 107 [(M 18)] b λV X=>
 au (some (aJ X true [J,J,J,J,J,J,bY 0,J,J,J,J,J,J])) λg Z=>
 Do (Y Z 13 g V) λh=>
 Do (W 7 c) λaa=>
 Do (O h 1 false aa) λac=>
 Do (aO none 8 ac J) λae=>
 Do (O h 8 true ae) λaf=>
Φ 100 [a0,af] h λag ah=>
 Do (W 3 g) λai=>
 Do (Y ah 1 ai ag) λm=>
 Do (O m 13 true g) λak=>
Φ 109 [a0,ak] m λav al=>
 Q (.ar []) al) (
 Q (.ar []) b))))))
def f66(Φ:aj)(a0 a1:I)(H:Z)(Q:ad):Prop:=
 au (aK H false 10 a1) λa H2=>
 Do (W 0 a) λg=>
 Do (O H2 1 false g) λb=>
 Do (ab .eql b (M 1)) λh=>
 Gd h true (
 Do (W 7 a) λi=>
 Do (O H2 1 false i) λj=>
 Do (aO none 8 j J) λk=>
 Do (O H2 8 true k) λl=>
Φ 100 [a0,l] H2 λm n=>
Φ 101 [a0] n λd o=>
Φ 102 [a0,d,m] o λai c=>
 Do (aX a0) λp=>
 Do (W 7 p) λq=>
 Do (O c 1 false q) λr=>
 Do (W 2 a) λs=>
 Do (O c 1 false s) λt=>
 Do (bm [.str [],J] [(0,1,t),(1,1,d)]) λu=>
 au (dk c false 2 1 [.str [],J] [(0,2,u)]) λv w=>
 au (cp w true 2 24 r v) λx y=>
 Do (aX a0) λz=>
 Do (W 7 z) λA=>
 Do (Y y 1 A x) λB=>
 Q (.ar []) B) (
 Do (ab .eql b (M 2)) λC=>
 Gd C true (
 Do (W 7 a) λD=>
 Do (O H2 1 false D) λE=>
 Do (aO none 8 E J) λF=>
 Do (O H2 8 true F) λG=>
Φ 100 [a0,G] H2 λK e=>
 Do (W 2 a) λL=>
 Do (O e 1 false L) λP=>
Φ 103 [a0,P] e λR S=>
Φ 102 [a0,R,K] S λak T=>
 Q (.ar []) T) (
 Do (ab .eql b (M 3)) λU=>
 Gd U true (
 Do (W 5 a) λV=>
 Do (O H2 2 true V) λX=>
 Do (W 7 a) λaa=>
 Do (O H2 1 false aa) λac=>
 Do (aO none 8 ac J) λae=>
 Do (O H2 8 true ae) λaf=>
Φ 104 [a0,X,af] H2 λal ag=>
 Q (.ar []) ag) (
 Do (ab .eql b (M 4)) λf=>
 Gd f true (
 N (uX Φ a0 a b Q) [f] H2) (
 Do (ab .eql b (M 6)) λah=>
 N (uX Φ a0 a b Q) [ah] H2))))
noncomputable def Fe:aT:=R C ⟨66,[7,8,35],[],none,[],[]⟩
def f67(Φ:aj)(a0 a1:I)(H:Z)(Q:ad):Prop:=
 au (aK H false 7 a0) λa H2=>
 Do (W 0 a) λb=>
 Do (O H2 1 false b) λc=>
 Do (W 0 a1) λd=>
 Do (O H2 1 false d) λe=>
 Do (ab .eql c e) λf=>
 Q f H2
noncomputable def Ff:aT:=R C ⟨67,[],[],none,[],[]⟩
def f68(Φ:aj)(a0:I)(H:Z)(Q:ad):Prop:=
 au (aK H false 6 a0) λb H2=>
 Do (O H2 6 true b) λc=>
Φ 112 [c] H2 λd a=>
 Do (ab .gtr d (M 64)) λe=>
 Gd e true (
 Q (M 5) a) (
 Do (O a 6 true b) λf=>
Φ 113 [f] a λg h=>
 Q g h)
noncomputable def Fg:aT:=R C ⟨68,[],[],none,[],[]⟩
def Fh(Φ:aj)(d i b:I)(Q:ad):a:=λu e=>
 Do (W 3 d) λj=>
 Do (O e 1 false j) λk=>
Φ 70 [k,(.fn 114 [i])] e λf c=>
 Do (ab .lss f J) λl=>
 Gd l true (
 Do (bm [J,J,P,aQ,J,aQ] []) λm=>
 Do (Y c 6 b m) λg=>
 Do (O g 6 true b) λn=>
 Q (.ar [n,(M 6)]) g) (
 Do (W 3 d) λo=>
 Do (O c 1 false o) λp=>
 Do (aO none 9 p f) λq=>
 Do (W 1 q) λr=>
 Do (O c 6 true r) λs=>
 Do (Y c 6 b s) λh=>
 Do (O h 6 true b) λt=>
 Q (.ar [t,J]) h)
def uY(Φ:aj)(e f b:I)(Q:ad):a:=λg c=>
 Gd (G g 0) true (
 Do (bm [J,J,P,aQ,J,aQ] []) λh=>
 Do (Y c 6 b h) λd=>
 Do (O d 6 true b) λi=>
 Q (.ar [i,(M 8)]) d) (
 N (Fh Φ e f b Q) [] c)
def uZ(Φ:aj)(d e c:I)(g:List I)(Q:ad):a:=λh b=>
 Gd (G h 0) true (
 Do (W 5 d) λi=>
 Do (O b 1 false i) λj=>
 Do (aO none 6 j J) λk=>
 Do (O b 6 true k) λl=>
 Do (Y b 6 c l) λf=>
 Do (O f 6 true c) λm=>
 Q (.ar [m,J]) f) (
 Do (W 1 e) λn=>
 Do (O b 1 false n) λo=>
 Do (bo false o) λp=>
 Do (ab .eql p (M 1)) λq=>
 aL q false (
 Do (cI .not (G g 0)) λr=>
 N (uY Φ d e c Q) [r] b) (
 N (uY Φ d e c Q) [br] b) (
 False))
def u0(Φ:aj)(d e c:I)(f:List I)(Q:ad):a:=λh b=>
 Gd (G h 0) true (
 Do (bm [J,J,P,aQ,J,aQ] []) λi=>
 Do (Y b 6 c i) λg=>
 Do (O g 6 true c) λj=>
 Q (.ar [j,(M 8)]) g) (
 Do (W 1 e) λk=>
 Do (O b 1 false k) λl=>
 Do (bo false l) λm=>
 Do (ab .eql m (M 1)) λn=>
 aL n true (
 Do (W 0 d) λo=>
 Do (O b 1 false o) λp=>
 Do (ab .eql p (M 5)) λq=>
 N (uZ Φ d e c f Q) [q] b) (
 N (uZ Φ d e c f Q) [P] b) (
 False))
def u1(Φ:aj)(d b e:I)(Q:ad):a:=λf c=>
 Do (W 1 b) λg=>
 Do (O c 1 false g) λh=>
 Do (bo false h) λi=>
 Do (ab .gtr i (M 1)) λj=>
 aL j false (
 Do (W 1 b) λk=>
 Do (O c 1 false k) λl=>
 Do (bo false l) λm=>
 Do (ab .eql m (M 1)) λn=>
 Do (W 0 b) λo=>
 Do (O c 1 false o) λp=>
 Do (ab .neq p (.str [])) λq=>
 Do (kM false n q) λr=>
 N (u0 Φ d b e f Q) [r] c) (
 N (u0 Φ d b e f Q) [br] c) (
 False)
def f69(Φ:aj)(a0 a1:I)(H:Z)(Q:ad):Prop:=
 au (aK H false 6 a0) λa H2=>
 au (aK H2 false 2 a1) λc e=>
 au (some (aJ e true [J,J,P,aQ,J,aQ])) λd b=>
 Do (W 0 a) λf=>
 Do (O b 1 false f) λg=>
 Do (ab .eql g (M 3)) λh=>
 aL h false (
 Do (W 0 a) λi=>
 Do (O b 1 false i) λj=>
 Do (ab .eql j (M 4)) λk=>
 N (u1 Φ a c d Q) [k] b) (
 N (u1 Φ a c d Q) [br] b) (
 False)
noncomputable def Fi:aT:=R C ⟨69,[4],[],none,[],[]⟩
def OJ(Φ:aj)(a0 a1 d:I)(Q:ad):BT:=λs2 e=>
 Do (ab .lss (G s2.1 0) d) λf=>
 Gd f true (
 Do (aO none 9 a0 (G s2.1 0)) λg=>
 Do (O s2.2 9 true g) λh=>
∃a b,a1 = .fn a b∧Φ (h_ a) (ia a [h] b) s2.2 λi c=>
 Gd i true (
 Q (G s2.1 0) c) (
 Do (ab .add (G s2.1 0) (M 1)) λj=>
 e ([j],c))) (
 Q (M (-1)) s2.2)
def f70(Φ:aj)(a0 a1:I)(H:Z)(Q:ad):Prop:=
 Do (bo false a0) λa=>
 aA (OJ Φ a0 a1 a Q) ([J],H)
noncomputable def Fj:aT:=R C ⟨70,[],[[8]],none,[],[]⟩
def f71(Φ:aj)(a0 a1:I)(H:Z)(Q:ad):Prop:=
 au (aK H false 9 a0) λa H2=>
 Do (W 0 a) λb=>
 Do (O H2 1 false b) λc=>
 Do (W 0 a1) λd=>
 Do (O H2 1 false d) λe=>
 Do (ab .eql c e) λf=>
 Q f H2
noncomputable def Fk:aT:=R C ⟨71,[],[],none,[],[]⟩
def Fl(Φ:aj)(f:I)(Q:ad):a:=λm b=>
 Do (O b 6 true f) λg=>
Φ 115 [g] b λc h=>
 Do (bh 0 c) λi=>
 Do (bh 1 c) λn=>
 au (some (aJ h true [J,J,aQ,J])) λd j=>
 Do (Y j 4 d i) λe=>
 Do (W 2 d) λk=>
 Do (O e 1 false k) λl=>
 Q (.ar [l,J]) e
def u2(Φ:aj)(c:I)(Q:ad):a:=λgI b=>
 Gd (G gI 0) true (
 Q (.ar [aQ,(M 8)]) b) (
 N (Fl Φ c Q) [] b)
def f72(Φ:aj)(a0:I)(H:Z)(Q:ad):Prop:=
 au (aK H false 6 a0) λa H2=>
 Do (O H2 6 true a) λe=>
Φ 56 [e] H2 λc f=>
 Do (bh 0 c) λg=>
 Do (bh 1 c) λd=>
 au (some (aJ f true [J,J])) λh i=>
 Do (Y i 2 h g) λb=>
 Do (ab .neq d J) λj=>
 Gd j true (
 Q (.ar [aQ,d]) b) (
 Do (W 0 a) λk=>
 Do (O b 1 false k) λl=>
 Do (ab .neq l (M 3)) λm=>
 aL m true (
 Do (W 0 a) λn=>
 Do (O b 1 false n) λo=>
 Do (ab .neq o (M 4)) λp=>
 N (u2 Φ a Q) [p] b) (
 N (u2 Φ a Q) [P] b) (
 False))
noncomputable def Fm:aT:=R C ⟨72,[4,6],[],none,[],[]⟩
def u3(Φ:aj)(c:I)(Q:ad):a:=λd b=>
 aL (G d 0) false (
 Do (W 3 c) λe=>
 Do (O b 1 false e) λf=>
Φ 131 [f,(.fn 132 [])] b λg h=>
 Q g h) (
 Q br b) (
 False)
def u4(Φ:aj)(b:I)(Q:ad):a:=λd c=>
 aL (G d 0) false (
 Do (W 5 b) λe=>
 Do (O c 1 false e) λf=>
Φ 130 [f,(.fn 85 [])] c λg h=>
 N (u3 Φ b Q) [g] h) (
 N (u3 Φ b Q) [br] c) (
 False)
def f85(Φ:aj)(a0:I)(H:Z)(Q:ad):Prop:=
 au (aK H false 6 a0) λa H2=>
 Do (W 2 a) λb=>
 Do (O H2 1 false b) λc=>
 aL c true (
 Do (O H2 6 true a) λd=>
Φ 129 [d] H2 λe f=>
 N (u4 Φ a Q) [e] f) (
 N (u4 Φ a Q) [P] H2) (
 False)
noncomputable def Fo:aT:=R C ⟨85,[],[],none,[],[]⟩
def Fp(Φ:aj)(h b:I)(Q:ad):a:=λq c=>
 Do (O c 6 true h) λi=>
Φ 115 [i] c λd j=>
 Do (bh 0 d) λk=>
 Do (bh 1 d) λl=>
 au (some (aJ j true [J,J,aQ,J])) λe m=>
 Do (Y m 4 e k) λf=>
 Do (W 0 e) λn=>
 Do (O f 2 true n) λo=>
 Do (Y f 2 b o) λg=>
 Do (O g 2 true b) λp=>
 Q (.ar [p,l]) g
def u5(Φ:aj)(d b o:I)(Q:ad):a:=λj9 c=>
 Gd (G j9 0) true (
 Do (W 1 d) λp=>
 Do (O c 1 false p) λq=>
 Do (W 1 d) λr=>
 Do (O c 1 false r) λs=>
 Do (bm [J,J] [(0,1,q),(1,1,s)]) λt=>
 Do (Y c 2 b t) λj=>
 Do (O j 2 true b) λu=>
 Q (.ar [u,br]) j) (
 Do (ab .eql o (M 5)) λv=>
 Gd v true (
 Do (W 5 d) λw=>
 Do (O c 1 false w) λx=>
 Do (aO none 6 x J) λy=>
 Do (O c 6 true y) λz=>
Φ 86 [z] c λk A=>
 Do (bh 0 k) λB=>
 Do (bh 1 k) λC=>
 au (some (aJ A true [J,J])) λe D=>
 Do (Y D 2 e B) λg=>
 Do (W 0 e) λE=>
 Do (O g 1 false E) λF=>
 Do (W 4 d) λH=>
 Do (O g 1 false H) λK=>
 Do (ab .mul F K) λL=>
 Do (W 0 e) λR=>
 Do (Y g 1 R L) λf=>
 Do (O f 2 true e) λl=>
 aL C true (
 Do (W 0 e) λm=>
 Do (O f 1 false m) λn=>
 Do (ab .leq n (M 65536)) λS=>
 Do (Y f 2 b l) λh=>
(((br):I) = br→O h 1 false m=some n) ∧
(Do (O h 2 true b) λT=>
 Q (.ar [T,S]) h)) (
 Do (Y f 2 b l) λi=>
(((P):I) = br→O i 1 false (.ar [])=some (.ar [])) ∧
(Do (O i 2 true b) λU=>
 Q (.ar [U,P]) i)) (
 False)) (
 N (Fp Φ d b Q) [] c))
def f86(Φ:aj)(a0:I)(H:Z)(Q:ad):Prop:=
 au (aK H false 6 a0) λb H2=>
 au (some (aJ H2 true [J,J])) λd c=>
 Do (W 0 b) λf=>
 Do (O c 1 false f) λa=>
 Do (ab .eql a (M 1)) λe=>
 Gd e true (
 N (u5 Φ b d a Q) [e] c) (
 Do (ab .eql a (M 2)) λg=>
 N (u5 Φ b d a Q) [g] c)
noncomputable def Fq:aT:=R C ⟨86,[2,4,6],[],none,[],[]⟩
def u6(Φ:aj)(a0:I)(Q:ad):a:=λi b=>
 Do (aX a0) λc=>
 Do (W 0 c) λd=>
 Do (O b 1 false d) λe=>
 Do (bo false e) λf=>
 Do (ab .gtr f (M 8192)) λg=>
 Gd g true (
Φ 58 [a0] b λj h=>
 Q (.ar []) h) (
 Q (.ar []) b)
def f87(Φ:aj)(a0 a1:I)(H:Z)(Q:ad):Prop:=
 au (aK H false 2 a1) λa H2=>
 Do (aX a0) λb=>
 Do (W 1 b) λc=>
 Do (O H2 1 false c) λd=>
 Do (cI .not d) λe=>
 Gd e true (
 Do (aX a0) λf=>
 Do (W 0 f) λg=>
 Do (O H2 1 false g) λh=>
 Do (O H2 2 true a) λi=>
 au (dk H2 false 2 1 [J,J] [(0,2,i)]) λj k=>
 au (cp k true 2 16 h j) λl m=>
 Do (aX a0) λn=>
 Do (W 0 n) λo=>
 Do (Y m 1 o l) λp=>
 N (u6 Φ a0 Q) [] p) (
 N (u6 Φ a0 Q) [] H2)
noncomputable def Fs:aT:=R C ⟨87,[16],[],none,[],[]⟩
def pR(Φ:aj)(b:ST)(c:LT)(Q:ad):a:=λf d=>
 Do (ab .add (G b.1 0) (M 1)) λe=>
 c ([e],d)
def u7(Φ:aj)(h c g d:I)(e:ST)(f:LT)(Q:ad):a:=λL b=>
 Do (W 7 g) λi=>
 Do (O b 1 false i) λj=>
 Do (cI .not j) λk=>
 Gd k true (
 Do (O b 1 false h) λl=>
 Do (W 1 g) λm=>
 Do (O b 6 true m) λn=>
 Do (W 0 d) λo=>
 Do (O b 1 false o) λp=>
Φ 57 [l,n,p] b λM q=>
 N (pR Φ e f Q) [] q) (
 Do (W 1 c) λr=>
 Do (O b 1 false r) λs=>
 Do (ab .gtr s J) λt=>
 Gd t true (
 Do (W 0 d) λu=>
 Do (O b 1 false u) λv=>
 Do (W 1 d) λw=>
 Do (O b 1 false w) λx=>
 Do (ab .add v x) λy=>
 Do (W 0 c) λz=>
 Do (O b 1 false z) λA=>
 Do (ab .sub y A) λB=>
 Do (W 1 c) λC=>
 Do (Y b 1 C B) λD=>
 N (pR Φ e f Q) [] D) (
 Do (W 8 g) λE=>
 Do (O b 1 false E) λF=>
 Do (ab .gtr F J) λG=>
 Gd G true (
 Do (O b 2 true d) λH=>
 Do (Y b 2 c H) λK=>
 N (pR Φ e f Q) [] K) (
 N (pR Φ e f Q) [] b)))
def u9(Φ:aj)(b c e f:I)(g:ST)(h:LT)(Q:ad):a:=λk i=>
 Gd (G k 0) true (
∃d j,(.fn 133 [c,b]:I) = .fn d j∧Φ (h_ d) (ia d [] j) i λm l=>
 N (u7 Φ b c e f g h Q) [] l) (
 N (u7 Φ b c e f g h Q) [] i)
def u_(Φ:aj)(c i d e f:I)(g:ST)(h:LT)(Q:ad):a:=λj b=>
 aL (G j 0) false (
 Do (W 0 i) λk=>
 Do (O b 1 false k) λl=>
 Do (ab .eql l (M 4)) λm=>
 N (u9 Φ c d e f g h Q) [m] b) (
 N (u9 Φ c d e f g h Q) [br] b) (
 False)
def Ft(Φ:aj)(d e:I)(Q:ad):a:=λh f=>
∃b c,(.fn 133 [e,d]:I) = .fn b c∧Φ (h_ b) (ia b [] c) f λi g=>
 Q (.ar []) g
def rK(Φ:aj)(k e h l f m n:I)(Q:ad):BT:=λa i=>
 Do (ab .lss (G a.1 0) n) λo=>
 Gd o true (
 Do (aO none 9 m (G a.1 0)) λp=>
 Do (O a.2 9 true p) λq=>
 au (some (aJ a.2 true [.str [],J,J,P,aQ,J,aQ,P,J])) λb r=>
 Do (Y r 9 b q) λg=>
 Do (W 2 l) λs=>
 Do (O g 1 false s) λt=>
 Do (aO none 6 t (G a.1 0)) λu=>
 Do (W 0 u) λv=>
 Do (O g 2 true v) λw=>
 au (some (aJ g true [J,J])) λc x=>
 Do (Y x 2 c w) λj=>
 Do (W 0 c) λy=>
 Do (O j 1 false y) λz=>
 Do (ab .add z k) λA=>
 Do (W 0 c) λB=>
 Do (Y j 1 B A) λd=>
 Do (W 7 b) λC=>
 Do (O d 1 false C) λD=>
 Do (cI .not D) λE=>
 aL E false (
 Do (W 8 b) λF=>
 Do (O d 1 false F) λH=>
 Do (ab .eql H J) λK=>
 N (u_ Φ e h f b c a i Q) [K] d) (
 N (u_ Φ e h f b c a i Q) [br] d) (
 False)) (
 N (Ft Φ e f Q) [] a.2)
def f88(Φ:aj)(a0 a1 h:I)(H:Z)(Q:ad):Prop:=
 au (aK H false 1 a0) λi H2=>
 au (aK H2 false 6 a1) λa b=>
 Do (O b 6 true a) λj=>
Φ 115 [j] b λc k=>
 Do (bh 0 c) λl=>
 Do (bh 1 c) λs=>
 au (some (aJ k true [J,J,aQ,J])) λd m=>
 Do (Y m 4 d l) λn=>
 Do (bm [J,J] []) λo=>
 au (some (aJ n true [J,J])) λe p=>
 Do (Y p 2 e o) λf=>
 Do (W 3 a) λq=>
 Do (O f 1 false q) λg=>
 Do (bo false g) λr=>
 aA (rK Φ h i a d e g r Q) ([J],f)
noncomputable def Fu:aT:=R C ⟨88,[6,8,11,12],[[23]],none,[],[]⟩
def f90(Φ:aj)(a0 a1:I)(H:Z)(Q:ad):Prop:=
 au (aK H false 2 a0) λc H2=>
 au (aK H2 false 2 a1) λd a=>
 Do (W 0 c) λi=>
 Do (O a 1 false i) λj=>
 Do (W 0 d) λk=>
 Do (O a 1 false k) λl=>
 Do (W 1 c) λe=>
 Do (O a 1 false e) λf=>
 Do (W 1 d) λg=>
 Do (O a 1 false g) λh=>
Φ 92 [j,l] a λm b=>
(O b 1 false e=some f) ∧
(O b 1 false g=some h) ∧
(Φ 92 [f,h] b λn o=>
 au (dk o false 1 2 [J] [(0,1,m),(1,1,n)]) λp q=>
Φ 91 [p] q λr s=>
 Q r s)
noncomputable def Fv:aT:=R C ⟨90,[],[],none,[],[]⟩
def va(Φ:aj)(a0 b:I)(Q:ad):BT:=λs2 c=>
 Do (ab .lss (G s2.1 0) b) λd=>
 Gd d true (
 Do (aO none 1 a0 (G s2.1 0)) λe=>
 Do (O s2.2 1 false e) λa=>
 Do (ab .neq a J) λf=>
 Gd f true (
 Q a s2.2) (
 Do (ab .add (G s2.1 0) (M 1)) λg=>
 c ([g],s2.2))) (
 Q J s2.2)
def f91(Φ:aj)(a0:I)(H:Z)(Q:ad):Prop:=
 Do (bo false a0) λa=>
 aA (va Φ a0 a Q) ([J],H)
noncomputable def Fw:aT:=R C ⟨91,[],[[8]],none,[],[]⟩
def f92(Φ:aj)(a0 a1:I)(H:Z)(Q:ad):Prop:=
Φ 136 [a0] H λc H2=>
Φ 136 [a1] H2 λb a=>
 Gd c true (
 Gd b true (
 Q J a) (
 Q (M (-1)) a)) (
 Gd b true (
 Q (M 1) a) (
 Do (ab .lss a0 a1) λd=>
 Gd d true (
 Q (M (-1)) a) (
 Do (ab .gtr a0 a1) λe=>
 Gd e true (
 Q (M 1) a) (
 Q J a))))
noncomputable def Fx:aT:=R C ⟨92,[],[],none,[],[]⟩
def vb(Φ:aj)(b:ST)(c:LT)(Q:ad):a:=λd e=>
 Do (ab .add (G b.1 1) (M 1)) λf=>
 c ([(G d 0),f],e)
def Fy(Φ:aj)(a0:I)(Q:ad):a:=λgI b=>
 Do (c9 2 a0 (some (G gI 0)) none none) λc=>
 au (ei b (.clear 2 [J,J]) [c]) λf d=>
 Do (c9 2 a0 none (some (G gI 0)) none) λe=>
 Q e d
def vc(Φ:aj)(a0 b:I)(Q:ad):BT:=λa c=>
 Do (bo false b) λd=>
 Do (ab .lss (G a.1 1) d) λe=>
 Gd e true (
 Do (aO none 2 b (G a.1 1)) λf=>
 Do (O a.2 2 true f) λg=>
 Do (ab .sub (G a.1 1) (M 1)) λh=>
 Do (aO none 2 b h) λi=>
 Do (O a.2 2 true i) λj=>
 Do (km true [.n,.n] g j) λk=>
 Gd k true (
 Do (aO none 2 b (G a.1 1)) λl=>
 Do (O a.2 2 true l) λm=>
 Do (aO none 2 a0 (G a.1 0)) λo=>
 Do (Y a.2 2 o m) λp=>
 Do (ab .add (G a.1 0) (M 1)) λq=>
 N (vb Φ a c Q) [q] p) (
 N (vb Φ a c Q) [(G a.1 0)] a.2)) (
 N (Fy Φ a0 Q) [(G a.1 0)] a.2)
def vd(Φ:aj)(a0:I)(Q:ad):BT:=λa b=>
 Do (bo false a0) λc=>
 Do (ab .lss (G a.1 0) c) λd=>
 Gd d true (
 Do (aO none 2 a0 (G a.1 0)) λe=>
 Do (O a.2 2 true e) λf=>
 Do (ab .sub (G a.1 0) (M 1)) λg=>
 Do (aO none 2 a0 g) λh=>
 Do (O a.2 2 true h) λi=>
 Do (km false [.n,.n] f i) λj=>
 Gd j true (
 Do (c9 2 a0 (some (G a.1 0)) none none) λk=>
 aA (vc Φ a0 k Q) ([(G a.1 0),(M 1)],a.2)) (
 Do (ab .add (G a.1 0) (M 1)) λl=>
 b ([l],a.2))) (
 Q a0 a.2)
def f93(Φ:aj)(a0:I)(H:Z)(Q:ad):Prop:=
 Do (bo false a0) λa=>
 Do (ab .lss a (M 2)) λb=>
 Gd b true (
 Q a0 H) (
 aA (vd Φ a0 Q) ([(M 1)],H))
noncomputable def Fz:aT:=R C ⟨93,[],[[3],[3,5]],none,[],[]⟩
def ve(Φ:aj)(c:I)(Q:ad):a:=λd b=>
 aL (G d 0) true (
 Do (W 1 c) λe=>
 Do (O b 1 false e) λf=>
 Do (ab .leq f (M 1048576)) λg=>
 Q g b) (
 Q P b) (
 False)
def vf(Φ:aj)(b:I)(Q:ad):a:=λd c=>
 aL (G d 0) true (
 Do (W 1 b) λe=>
 Do (O c 1 false e) λf=>
 Do (ab .geq f J) λg=>
 N (ve Φ b Q) [g] c) (
 N (ve Φ b Q) [P] c) (
 False)
def f94(Φ:aj)(a0:I)(H:Z)(Q:ad):Prop:=
 au (aK H false 2 a0) λa H2=>
 Do (W 0 a) λb=>
 Do (O H2 1 false b) λc=>
 Do (ab .geq c J) λd=>
 aL d true (
 Do (W 0 a) λe=>
 Do (O H2 1 false e) λf=>
 Do (ab .leq f (M 1099511627776)) λg=>
 N (vf Φ a Q) [g] H2) (
 N (vf Φ a Q) [P] H2) (
 False)
noncomputable def FA:aT:=R C ⟨94,[],[],none,[],[]⟩
def pS(Φ:aj)(c:LT)(Q:ad):a:=λd b=>
 Gd (G d 0) true (
 Q P b) (
 c ([],b))
def rL(Φ:aj)(d:I)(b:LT)(Q:ad):a:=λe c=>
 aL (G e 0) true (
 Do (ab .lss d (.int .i32 48)) λf=>
 aL f false (
 Do (ab .gtr d (.int .i32 57)) λg=>
 N (pS Φ b Q) [g] c) (
 N (pS Φ b Q) [br] c) (
 False)) (
 N (pS Φ b Q) [P] c) (
 False)
def vg(Φ:aj)(f:I)(Q:ad):BT:=λg b=>
 au (kO g.2 f) λc d=>
 Do (bh 0 c) λh=>
 Gd h true (
 Do (bh 2 c) λa=>
Φ 137 [a] d λi e=>
 Do (cI .not i) λj=>
 aL j true (
 Do (ab .neq a (.int .i32 95)) λk=>
 N (rL Φ a b Q) [k] e) (
 N (rL Φ a b Q) [P] e) (
 False)) (
 Q br d)
def FB(Φ:aj)(a0:I)(Q:ad):a:=λd H2=>
 au (nj H2 a0) λb c=>
 aA (vg Φ b Q) ([],c)
def rM(Φ:aj)(a0:I)(Q:ad):a:=λc b=>
 Gd (G c 0) true (
 Q P b) (
 N (FB Φ a0 Q) [] b)
def vi(Φ:aj)(a0:I)(Q:ad):a:=λc b=>
 aL (G c 0) false (
 Do (jP a0 J) λd=>
 Do (e6 .i32 d) λe=>
Φ 137 [e] b λf g=>
 Do (cI .not f) λh=>
 N (rM Φ a0 Q) [h] g) (
 N (rM Φ a0 Q) [br] b) (
 False)
def f95(Φ:aj)(a0:I)(H:Z)(Q:ad):Prop:=
 Do (bo true a0) λa=>
 Do (ab .lss a (M 1)) λb=>
 aL b false (
 Do (bo true a0) λc=>
 Do (ab .gtr c (M 16)) λd=>
 N (vi Φ a0 Q) [d] H) (
 N (vi Φ a0 Q) [br] H) (
 False)
noncomputable def FC:aT:=R C ⟨95,[],[[]],none,[],[]⟩
def f96(Φ:aj)(a0:I)(H:Z)(Q:ad):Prop:=
Φ 139 [(.str [118,97,114,32,116,104,114,101,97,100,32,115,116,114,117,99,116,32,117,110,105,111,110,32,112,97,99,107,101,100,32,117,56,32,117,49,54,32,117,51,50,32,117,54,52,32,97,56,32,97,49,54,32,97,51,50,32,97,54,52,32,97,49,50,56,32,108,101,116,32,115,101,116,32,119,114,105,116,101,32,115,116,111,114,101,32,108,111,97,100,50,32,115,116,111,114,101,50,32,102,101,110,99,101,32,105,102,32,101,108,115,101,32,119,104,105,108,101,32,112,114,105,110,116,32,114,101,97,100,32,108,111,97,100,32,97,100,100,32,115,119,97,112,32,99,97,115,32,114,108,120,32,97,99,113,32,114,101,108,32,115,99])] H λa H2=>
Φ 138 [a,a0] H2 λb c=>
 Q b c
noncomputable def FD:aT:=R C ⟨96,[],[],none,[],[]⟩
def f97(Φ:aj)(a0 a1:I)(H:Z)(Q:ad):Prop:=
Φ 43 [a0,a1] H λa H2=>
 Do (ab .geq a J) λb=>
 Q b H2
noncomputable def FE:aT:=R C ⟨97,[],[],none,[],[]⟩
def f98(Φ:aj)(a0 a1:I)(H:Z)(Q:ad):Prop:=
 au (aK H false 7 a0) λa H2=>
 Do (W 0 a) λb=>
 Do (O H2 1 false b) λc=>
 Do (W 0 a1) λd=>
 Do (O H2 1 false d) λe=>
 Do (ab .eql c e) λf=>
 Q f H2
noncomputable def FF:aT:=R C ⟨98,[],[],none,[],[]⟩
def rN(Φ:aj)(a0 c b:I)(Q:ad):a:=λr d=>
 Do (W 8 b) λg=>
 Do (O d 1 false g) λh=>
 Do (ab .add c (M 1)) λi=>
Φ 64 [a0,h,i] d λs e=>
 Do (W 1 b) λj=>
 Do (O e 1 false j) λk=>
 Do (aX a0) λl=>
 Do (W 3 l) λm=>
 Do (Y e 1 m k) λf=>
 Do (W 9 b) λn=>
 Do (O f 1 false n) λo=>
 Do (ab .add c (M 1)) λp=>
Φ 64 [a0,o,p] f λt q=>
 Q (.ar []) q
def pT(Φ:aj)(a0 d b:I)(Q:ad):a:=λac f=>
 Do (W 7 b) λj=>
 Do (O f 1 false j) λk=>
Φ 145 [a0,k,d] f λae c=>
 Do (W 0 b) λl=>
 Do (O c 1 false l) λg=>
 Do (ab .eql g (M 1)) λm=>
 Gd m true (
 Do (aX a0) λn=>
 Do (W 1 n) λo=>
 Do (O c 1 false o) λp=>
 Do (W 2 b) λq=>
 Do (O c 1 false q) λr=>
 au (dk c false 1 1 [.str []] [(0,1,r)]) λs t=>
 au (cp t true 1 16 p s) λu v=>
 Do (aX a0) λw=>
 Do (W 1 w) λx=>
 Do (Y v 1 x u) λh=>
 Do (aX a0) λy=>
 Do (W 2 y) λz=>
 Do (O h 1 false z) λA=>
 Do (ab .add A (M 1)) λB=>
 Do (aX a0) λC=>
 Do (W 2 C) λD=>
 Do (Y h 1 D B) λE=>
 N (rN Φ a0 d b Q) [] E) (
 Do (ab .eql g (M 5)) λF=>
 Gd F true (
 Do (W 2 b) λG=>
 Do (O c 1 false G) λH=>
Φ 143 [a0,H] c λJ K=>
Φ 140 [a0,J,(M 6)] K λaf i=>
 Do (W 3 b) λL=>
 Do (O i 1 false L) λP=>
Φ 143 [a0,P] i λR S=>
Φ 140 [a0,R,(M 6)] S λag e=>
 Do (W 2 b) λT=>
 Do (O e 1 false T) λU=>
 Do (W 3 b) λV=>
 Do (O e 1 false V) λX=>
 Do (ab .neq U X) λZ=>
Φ 140 [a0,Z,(M 7)] e λah aa=>
 N (rN Φ a0 d b Q) [] aa) (
 N (rN Φ a0 d b Q) [] c))
def vj(Φ:aj)(a0 e b:I)(Q:ad):a:=λp c=>
 Do (W 2 b) λf=>
 Do (O c 1 false f) λg=>
Φ 143 [a0,g] c λh i=>
 Do (cI .not h) λj=>
Φ 140 [a0,j,(M 7)] i λq d=>
 Do (aX a0) λk=>
 Do (W 2 k) λl=>
 Do (O d 1 false l) λm=>
 Do (ab .lss m (M 40)) λn=>
Φ 140 [a0,n,(M 12)] d λr o=>
 N (pT Φ a0 e b Q) [] o
def pU(Φ:aj)(a0 d b:I)(Q:ad):a:=λe c=>
 Gd (G e 0) true (
 Do (W 0 b) λf=>
 Do (O c 1 false f) λg=>
 Do (W 5 b) λh=>
 Do (O c 2 true h) λi=>
Φ 144 [a0,g,i,d] c λk j=>
 N (pT Φ a0 d b Q) [] j) (
 N (pT Φ a0 d b Q) [] c)
def f99(Φ:aj)(a0 a1 c:I)(H:Z)(Q:ad):Prop:=
 au (aK H false 10 a1) λa H2=>
 Do (ab .leq c (M 64)) λk=>
Φ 140 [a0,k,(M 5)] H2 λU g=>
 Do (O g 10 true a) λl=>
Φ 141 [l] g λm n=>
Φ 140 [a0,m,(M 4)] n λV e=>
 Do (W 0 a) λo=>
 Do (O e 1 false o) λp=>
 Do (W 4 a) λq=>
 Do (O e 1 false q) λr=>
Φ 142 [p,r] e λs t=>
Φ 140 [a0,s,(M 11)] t λX b=>
 Do (W 0 a) λu=>
 Do (O b 1 false u) λd=>
 Do (ab .eql d (M 1)) λv=>
 Gd v true (
 Do (W 2 a) λw=>
 Do (O b 1 false w) λx=>
Φ 95 [x] b λy f=>
 aL y true (
 Do (W 2 a) λz=>
 Do (O f 1 false z) λA=>
Φ 96 [A] f λB C=>
 Do (cI .not B) λD=>
Φ 140 [a0,D,(M 6)] C λY E=>
 N (vj Φ a0 c a Q) [] E) (
Φ 140 [a0,P,(M 6)] f λaa F=>
 N (vj Φ a0 c a Q) [] F) (
 False)) (
 Do (ab .eql d (M 2)) λG=>
 Gd G true (
 Do (W 2 a) λJ=>
 Do (O b 1 false J) λK=>
Φ 143 [a0,K] b λL R=>
Φ 140 [a0,L,(M 6)] R λac S=>
 N (pT Φ a0 c a Q) [] S) (
 Do (ab .eql d (M 3)) λh=>
 Gd h true (
 N (pU Φ a0 c a Q) [h] b) (
 Do (ab .eql d (M 4)) λi=>
 Gd i true (
 N (pU Φ a0 c a Q) [i] b) (
 Do (ab .eql d (M 5)) λj=>
 Gd j true (
 N (pU Φ a0 c a Q) [j] b) (
 Do (ab .eql d (M 6)) λT=>
 N (pU Φ a0 c a Q) [T] b)))))
noncomputable def FG:aT:=R C ⟨99,[87],[],none,[],[]⟩
def f100(Φ:aj)(a0 a1:I)(H:Z)(Q:ad):Prop:=
 au (aK H false 8 a1) λa H2=>
 Do (W 0 a) λg=>
 Do (O H2 1 false g) λb=>
 Do (ab .eql b (M 1)) λh=>
 Gd h true (
 Do (W 1 a) λi=>
 Do (O H2 1 false i) λj=>
Φ 146 [a0,j] H2 λk l=>
 Q k l) (
 Do (ab .eql b (M 2)) λm=>
 Gd m true (
 Do (W 2 a) λn=>
 Do (O H2 1 false n) λo=>
Φ 103 [a0,o] H2 λp q=>
 Q p q) (
 Do (ab .eql b (M 3)) λr=>
 Gd r true (
 Do (W 7 a) λs=>
 Do (O H2 1 false s) λt=>
 Do (aO none 8 t J) λu=>
 Do (O H2 8 true u) λv=>
Φ 100 [a0,v] H2 λw c=>
 Do (W 3 a) λd=>
 Do (O c 1 false d) λe=>
 Do (W 7 a) λx=>
 Do (O c 1 false x) λy=>
 Do (aO none 8 y (M 1)) λz=>
 Do (O c 8 true z) λA=>
Φ 100 [a0,A] c λB f=>
(O f 1 false d=some e) ∧
(Φ 147 [a0,e,w,B] f λC D=>
 Q C D)) (
 Do (ab .eql b (M 4)) λE=>
 Gd E true (
 Do (W 5 a) λF=>
 Do (O H2 2 true F) λG=>
Φ 148 [a0,G] H2 λK L=>
 Q K L) (
 Do (O H2 8 true a) λN=>
Φ 149 [a0,N] H2 λP R=>
 Q P R))))
noncomputable def FH:aT:=R C ⟨100,[],[],none,[],[]⟩
def f101(Φ:aj)(a0:I)(H:Z)(Q:ad):Prop:=
 Do (aX a0) λb=>
 Do (W 3 b) λc=>
 Do (O H 1 false c) λd=>
 Do (ab .add d (M 1)) λe=>
 Do (aX a0) λf=>
 Do (W 3 f) λg=>
 Do (Y H 1 g e) λa=>
 Do (aX a0) λh=>
 Do (W 3 h) λi=>
 Do (O a 1 false i) λj=>
 Do (ab .sub j (M 1)) λk=>
 Q k a
noncomputable def FI:aT:=R C ⟨101,[],[],none,[],[]⟩
def f102(Φ:aj)(a0 a1 c:I)(H:Z)(Q:ad):Prop:=
Φ 107 [(M 2)] H λd H2=>
 au (some (aJ H2 true [J,J,J,J,J,J,bY 0,J,J,J,J,J,J])) λa e=>
 Do (Y e 13 a d) λf=>
 Do (W 1 a) λg=>
 Do (Y f 1 g a1) λh=>
 Do (W 3 a) λi=>
 Do (Y h 1 i c) λb=>
 Do (O b 13 true a) λj=>
Φ 109 [a0,j] b λl k=>
 Q (.ar []) k
noncomputable def FJ:aT:=R C ⟨102,[6],[],none,[],[]⟩
def f103(Φ:aj)(a0 a1:I)(H:Z)(Q:ad):Prop:=
 au (aK H false 1 a1) λb H2=>
 Do (aX a0) λc=>
 Do (W 7 c) λd=>
 Do (O H2 1 false d) λe=>
Φ 150 [e,(.fn 151 [b])] H2 λf a=>
 Do (aX a0) λg=>
 Do (W 7 g) λh=>
 Do (O a 1 false h) λi=>
 Do (aO none 2 i f) λj=>
 Do (W 1 j) λk=>
 Do (O a 1 false k) λl=>
 Q l a
noncomputable def FL:aT:=R C ⟨103,[],[],none,[],[]⟩
def vk(Φ:aj)(a0 c d e:I)(Q:ad):a:=λf b=>
 Do (O b 8 true c) λg=>
Φ 157 [a0,g,d,(G f 0),e] b λi h=>
 Q (.ar []) h
def f104(Φ:aj)(a0 a1 t:I)(H:Z)(Q:ad):Prop:=
 au (aK H false 2 a1) λi H2=>
 au (aK H2 false 8 t) λu j=>
 Do (O j 2 true i) λv=>
Φ 152 [a0,v] j λw x=>
 au (some (aJ x true [J,J,J,P,J,J,J,J])) λa y=>
 Do (Y y 8 a w) λk=>
 Do (O k 8 true u) λz=>
Φ 100 [a0,z] k λl m=>
 Do (O m 8 true a) λA=>
Φ 153 [a0,A] m λc n=>
 Do (O n 2 true i) λB=>
Φ 108 [a0,(M 3),J,B] n λd b=>
 Do (W 0 a) λC=>
 Do (W 3 C) λD=>
 Do (O b 1 false D) λE=>
 Gd E true (
 Do (O b 8 true a) λF=>
Φ 154 [a0,F,c,d] b λG e=>
 Do (W 0 a) λK=>
 Do (W 5 K) λL=>
 Do (O e 1 false L) λR=>
 Do (W 0 a) λS=>
 Do (W 4 S) λo=>
 Do (O e 1 false o) λp=>
Φ 156 [R] e λT q=>
(O q 1 false o=some p) ∧
(Do (ab .shl T p) λU=>
 Do (cI .xor U) λV=>
Φ 155 [a0,(M 4),G,V] q λX f=>
 Do (W 0 a) λaa=>
 Do (W 5 aa) λac=>
 Do (O f 1 false ac) λae=>
 Do (W 0 a) λaf=>
 Do (W 4 af) λg=>
 Do (O f 1 false g) λh=>
 Do (e6 .u64 h) λag=>
Φ 156 [ae] f λah r=>
(O r 1 false g=some h) ∧
(Φ 155 [a0,(M 4),l,ah] r λai s=>
(O s 1 false g=some h) ∧
(Φ 155 [a0,(M 7),ai,ag] s λak al=>
Φ 147 [a0,(M 5),X,ak] al λam an=>
 N (vk Φ a0 a c d Q) [am] an)))) (
 N (vk Φ a0 a c d Q) [l] b)
noncomputable def FM:aT:=R C ⟨104,[6],[],none,[],[]⟩
def vm(Φ:aj)(a0 d h c:I)(Q:ad):a:=λG i=>
 Do (O i 8 true h) λn=>
Φ 153 [a0,n] i λo p=>
 Do (W 3 c) λq=>
 Do (Y p 1 q o) λb=>
 Do (W 0 h) λr=>
 Do (W 0 r) λs=>
 Do (W 1 s) λj=>
 Do (O b 1 false j) λk=>
 Do (W 4 d) λe=>
 Do (O b 1 false e) λf=>
 Do (W 0 d) λt=>
 Do (O b 1 false t) λu=>
 Do (W 4 d) λv=>
 Do (O b 1 false v) λw=>
 Do (W 5 d) λx=>
 Do (O b 2 true x) λy=>
 Do (W 8 c) λz=>
Φ 108 [a0,u,w,y] b λA g=>
(O g 1 false j=some k) ∧
(O g 1 false e=some f) ∧
(Do (Y g 1 z k) λl=>
(O l 1 false e=some f) ∧
(Do (W 9 c) λB=>
 Do (Y l 1 B f) λC=>
 Do (W 11 c) λD=>
 Do (Y C 1 D A) λm=>
 Do (O m 13 true c) λE=>
Φ 109 [a0,E] m λH F=>
 Q (.ar []) F))
def f105(Φ:aj)(a0 a1:I)(H:Z)(Q:ad):Prop:=
 au (aK H false 10 a1) λa H2=>
 Do (W 5 a) λg=>
 Do (O H2 2 true g) λh=>
Φ 152 [a0,h] H2 λi j=>
 au (some (aJ j true [J,J,J,P,J,J,J,J])) λc k=>
 Do (Y k 8 c i) λl=>
Φ 107 [(M 7)] l λm n=>
 au (some (aJ n true [J,J,J,J,J,J,bY 0,J,J,J,J,J,J])) λb o=>
 Do (Y o 13 b m) λd=>
 Do (W 7 a) λp=>
 Do (O d 1 false p) λq=>
 Do (aO none 8 q J) λr=>
 Do (O d 8 true r) λs=>
Φ 100 [a0,s] d λt u=>
 Do (W 4 b) λv=>
 Do (Y u 1 v t) λe=>
 Do (W 0 a) λw=>
 Do (O e 1 false w) λx=>
 Do (ab .eql x (M 6)) λy=>
 Gd y true (
 Do (W 0 b) λz=>
 Do (Y e 1 z (M 12)) λf=>
 Do (W 7 a) λA=>
 Do (O f 1 false A) λB=>
 Do (aO none 8 B (M 1)) λC=>
 Do (O f 8 true C) λD=>
Φ 100 [a0,D] f λE F=>
 Do (W 5 b) λG=>
 Do (Y F 1 G E) λK=>
 N (vm Φ a0 a c b Q) [] K) (
 N (vm Φ a0 a c b Q) [] e)
noncomputable def FN:aT:=R C ⟨105,[4,5],[],none,[],[]⟩
def f106(Φ:aj)(a0 a1:I)(H:Z)(Q:ad):Prop:=
 au (aK H false 10 a1) λb H2=>
 Do (W 5 b) λE=>
 Do (O H2 2 true E) λF=>
Φ 152 [a0,F] H2 λG K=>
 au (some (aJ K true [J,J,J,P,J,J,J,J])) λj L=>
 Do (Y L 8 j G) λN=>
Φ 107 [(M 11)] N λR S=>
 au (some (aJ S true [J,J,J,J,J,J,bY 0,J,J,J,J,J,J])) λa T=>
 Do (Y T 13 a R) λv=>
 Do (O v 8 true j) λU=>
Φ 153 [a0,U] v λV X=>
 Do (W 3 a) λaa=>
 Do (Y X 1 aa V) λe=>
 Do (W 0 j) λab=>
 Do (W 0 ab) λac=>
 Do (W 1 ac) λf=>
 Do (O e 1 false f) λg=>
 Do (W 4 b) λc=>
 Do (O e 1 false c) λd=>
 Do (W 0 b) λk=>
 Do (O e 1 false k) λl=>
 Do (W 4 b) λm=>
 Do (O e 1 false m) λn=>
 Do (W 5 b) λo=>
 Do (O e 2 true o) λp=>
Φ 101 [a0] e λae h=>
(O h 1 false f=some g) ∧
(O h 1 false c=some d) ∧
(O h 1 false k=some l) ∧
(O h 1 false m=some n) ∧
(O h 2 true o=some p) ∧
(Do (W 1 a) λaf=>
Φ 101 [a0] h λag i=>
(O i 1 false f=some g) ∧
(O i 1 false c=some d) ∧
(O i 1 false k=some l) ∧
(O i 1 false m=some n) ∧
(O i 2 true o=some p) ∧
(Φ 108 [a0,l,n,p] i λah q=>
(O q 1 false f=some g) ∧
(O q 1 false c=some d) ∧
(Do (Y q 1 af ae) λr=>
(O r 1 false f=some g) ∧
(O r 1 false c=some d) ∧
(Do (W 2 a) λai=>
 Do (Y r 1 ai ag) λs=>
(O s 1 false f=some g) ∧
(O s 1 false c=some d) ∧
(Do (W 8 a) λak=>
 Do (Y s 1 ak g) λw=>
(O w 1 false c=some d) ∧
(Do (W 9 a) λal=>
 Do (Y w 1 al d) λam=>
 Do (W 11 a) λan=>
 Do (Y am 1 an ah) λx=>
 Do (O x 13 true a) λao=>
Φ 109 [a0,ao] x λaA t=>
 Do (W 2 b) λap=>
 Do (O t 1 false ap) λaq=>
 Do (W 1 a) λy=>
 Do (O t 1 false y) λz=>
Φ 103 [a0,aq] t λav A=>
(O A 1 false y=some z) ∧
(Φ 102 [a0,av,z] A λaB u=>
 Do (W 3 b) λaw=>
 Do (O u 1 false aw) λax=>
 Do (W 2 a) λB=>
 Do (O u 1 false B) λC=>
Φ 103 [a0,ax] u λay D=>
(O D 1 false B=some C) ∧
(Φ 102 [a0,ay,C] D λaC az=>
 Q (.ar []) az))))))))
noncomputable def FO:aT:=R C ⟨106,[4,5],[],none,[],[]⟩
def f107(Φ:aj)(a0:I)(H:Z)(Q:ad):Prop:=
 au (some (aJ H true [J,J,J,J,J,J,bY 0,J,J,J,J,J,J])) λa H2=>
 Do (bm [J,J,J,J,J,J,bY 0,J,J,J,J,J,J] [(0,1,a0),(1,1,(M (-1))),(2,1,(M (-1))),(3,1,(M (-1))),(4,1,(M (-1))),(5,1,(M (-1)))]) λc=>
 Do (Y H2 13 a c) λb=>
 Do (O b 13 true a) λd=>
 Q d b
noncomputable def FP:aT:=R C ⟨107,[2],[],none,[],[]⟩
def f108(Φ:aj)(a0 a1 b c:I)(H:Z)(Q:ad):Prop:=
 au (aK H false 2 c) λd H2=>
 Do (aX a0) λe=>
 Do (W 5 e) λf=>
 Do (O H2 1 false f) λg=>
 Do (aX a0) λh=>
 Do (W 6 h) λi=>
 Do (O H2 1 false i) λj=>
 Do (O H2 2 true d) λk=>
 Do (bm [J,J,J,.str [],aQ] [(0,1,a1),(1,1,b),(2,1,j),(3,2,k)]) λl=>
 au (dk H2 false 5 1 [J,J,J,.str [],aQ] [(0,5,l)]) λm n=>
 au (cp n false 5 64 g m) λo p=>
 Do (aX a0) λq=>
 Do (W 5 q) λr=>
 Do (Y p 1 r o) λa=>
 Do (aX a0) λs=>
 Do (W 5 s) λt=>
 Do (O a 1 false t) λu=>
 Do (bo false u) λv=>
 Q v a
noncomputable def FQ:aT:=R C ⟨108,[],[],none,[],[]⟩
def f109(Φ:aj)(a0 a1:I)(H:Z)(Q:ad):Prop:=
 au (aK H true 13 a1) λb H2=>
 Do (aX a0) λc=>
 Do (W 6 c) λd=>
 Do (O H2 1 false d) λe=>
 Do (W 12 b) λf=>
 Do (Y H2 1 f e) λa=>
 Do (aX a0) λg=>
 Do (W 2 g) λh=>
 Do (O a 1 false h) λi=>
 Do (O a 13 true b) λj=>
 au (dk a false 13 1 [J,J,J,J,J,J,bY 0,J,J,J,J,J,J] [(0,13,j)]) λk l=>
 au (cp l false 13 104 i k) λm n=>
 Do (aX a0) λo=>
 Do (W 2 o) λp=>
 Do (Y n 1 p m) λq=>
 Q (.ar []) q
noncomputable def FR:aT:=R C ⟨109,[3],[],none,[],[]⟩
def f110(Φ:aj)(a0 a1:I)(H:Z)(Q:ad):Prop:=
 au (aK H false 10 a1) λa H2=>
Φ 158 [a0] H2 λc i=>
Φ 158 [a0] i λd b=>
 Do (W 7 a) λj=>
 Do (O b 1 false j) λk=>
 Do (aO none 8 k J) λl=>
 Do (O b 8 true l) λm=>
Φ 100 [a0,m] b λn o=>
Φ 159 [a0,c,n] o λF e=>
 Do (W 8 a) λp=>
 Do (O e 1 false p) λq=>
Φ 37 [a0,q] e λG f=>
 Do (W 1 a) λr=>
 Do (O f 1 false r) λs=>
 Do (aX a0) λt=>
 Do (W 6 t) λu=>
 Do (Y f 1 u s) λv=>
Φ 159 [a0,d,(M (-1))] v λK w=>
Φ 160 [a0,c] w λL g=>
 Do (W 9 a) λx=>
 Do (O g 1 false x) λy=>
Φ 37 [a0,y] g λN h=>
 Do (W 1 a) λz=>
 Do (O h 1 false z) λA=>
 Do (aX a0) λB=>
 Do (W 6 B) λC=>
 Do (Y h 1 C A) λD=>
Φ 160 [a0,d] D λP E=>
 Q (.ar []) E
noncomputable def FT:aT:=R C ⟨110,[],[],none,[],[]⟩
def f111(Φ:aj)(a0 a1:I)(H:Z)(Q:ad):Prop:=
 au (aK H false 10 a1) λa H2=>
Φ 158 [a0] H2 λc g=>
Φ 158 [a0] g λd h=>
Φ 160 [a0,c] h λx b=>
 Do (W 7 a) λi=>
 Do (O b 1 false i) λj=>
 Do (aO none 8 j J) λk=>
 Do (O b 8 true k) λl=>
Φ 100 [a0,l] b λm n=>
Φ 159 [a0,d,m] n λy e=>
 Do (W 8 a) λo=>
 Do (O e 1 false o) λp=>
Φ 37 [a0,p] e λz f=>
 Do (W 1 a) λq=>
 Do (O f 1 false q) λr=>
 Do (aX a0) λs=>
 Do (W 6 s) λt=>
 Do (Y f 1 t r) λu=>
Φ 159 [a0,c,(M (-1))] u λA v=>
Φ 160 [a0,d] v λB w=>
 Q (.ar []) w
noncomputable def FU:aT:=R C ⟨111,[],[],none,[],[]⟩
def f112(Φ:aj)(a0:I)(H:Z)(Q:ad):Prop:=
 au (aK H false 6 a0) λa H2=>
 Do (O H2 6 true a) λb=>
Φ 161 [b,(M 65)] H2 λc d=>
 Q c d
noncomputable def FV:aT:=R C ⟨112,[],[],none,[],[]⟩
def FW(Φ:aj)(c:I)(Q:ad):a:=λj b=>
 Do (W 5 c) λd=>
 Do (O b 1 false d) λe=>
 Do (aO none 6 e J) λf=>
 Do (O b 6 true f) λg=>
Φ 113 [g] b λh i=>
 Q h i
def vn(Φ:aj)(c:I)(Q:ad):a:=λd b=>
 Gd (G d 0) true (
 Q (M 9) b) (
 N (FW Φ c Q) [] b)
def f113(Φ:aj)(a0:I)(H:Z)(Q:ad):Prop:=
 au (aK H false 6 a0) λb H2=>
 Do (O H2 6 true b) λf=>
Φ 162 [f] H2 λg a=>
 Do (cI .not g) λh=>
 Gd h true (
 Q (M 8) a) (
 Do (W 0 b) λi=>
 Do (O a 1 false i) λc=>
 Do (ab .eql c (M 1)) λj=>
 Gd j true (
 Do (W 1 b) λk=>
 Do (O a 1 false k) λl=>
Φ 163 [l,(M 8)] a λm d=>
 Do (cI .not m) λn=>
 Gd n true (
 Q (M 9) d) (
 Q J d)) (
 Do (ab .eql c (M 2)) λo=>
 Gd o true (
 Do (W 1 b) λp=>
 Do (O a 1 false p) λq=>
Φ 163 [q,(M 16)] a λr e=>
 Do (cI .not r) λs=>
 Gd s true (
 Q (M 9) e) (
 Q J e)) (
 Do (ab .eql c (M 5)) λt=>
 Gd t true (
 Do (W 4 b) λu=>
 Do (O a 1 false u) λv=>
 Do (ab .lss v (M 1)) λw=>
 aL w false (
 Do (W 4 b) λx=>
 Do (O a 1 false x) λy=>
 Do (ab .gtr y (M 65536)) λz=>
 N (vn Φ b Q) [z] a) (
 N (vn Φ b Q) [br] a) (
 False)) (
 Do (O a 6 true b) λA=>
Φ 164 [A] a λB C=>
 Q B C))))
noncomputable def FX:aT:=R C ⟨113,[],[],none,[],[]⟩
def f114(Φ:aj)(a0 a1:I)(H:Z)(Q:ad):Prop:=
 au (aK H false 9 a0) λa H2=>
 Do (W 0 a) λb=>
 Do (O H2 1 false b) λc=>
 Do (W 0 a1) λd=>
 Do (O H2 1 false d) λe=>
 Do (ab .eql c e) λf=>
 Q f H2
noncomputable def FY:aT:=R C ⟨114,[],[],none,[],[]⟩
def FZ(Φ:aj)(b:ST)(c:LT)(Q:ad):a:=λf d=>
 Do (ab .add (G b.1 0) (M 1)) λe=>
 c ([e],d)
def vo(Φ:aj)(b:I)(g:ST)(h:LT)(Q:ad):a:=λr c=>
 Do (W 0 b) λi=>
 Do (W 0 i) λd=>
 Do (O c 1 false d) λe=>
 Do (W 3 b) λj=>
 Do (O c 1 false j) λk=>
Φ 167 [k,(M 8)] c λl f=>
(O f 1 false d=some e) ∧
(Do (ab .quo l (M 8)) λm=>
 Do (fo true [e,m]) λn=>
 Do (W 0 b) λo=>
 Do (W 0 o) λp=>
 Do (Y f 1 p n) λq=>
 N (FZ Φ g h Q) [] q)
def vp(Φ:aj)(b e f k:I)(g:ST)(h:LT)(Q:ad):a:=λV c=>
 Do (W 7 e) λl=>
 Do (O c 1 false l) λm=>
 Gd m true (
 Do (O c 9 true e) λn=>
Φ 166 [b,n] c λX o=>
 N (vo Φ b g h Q) [] o) (
 Do (W 3 b) λp=>
 Do (O c 1 false p) λq=>
Φ 167 [q,(M 8)] c λr s=>
 Do (ab .quo r (M 8)) λt=>
Φ 167 [t,k] s λi d=>
 Do (W 2 b) λu=>
 Do (O d 1 false u) λv=>
 Do (W 0 f) λw=>
 Do (O d 1 false w) λx=>
 Do (bm [J,J] [(0,1,i),(1,1,x)]) λy=>
 Do (W 1 e) λz=>
 Do (W 0 z) λA=>
 Do (O d 1 false A) λB=>
 Do (bm [J,J,J,P,J,J] [(0,2,y),(2,1,B)]) λC=>
 au (dk d false 6 1 [J,J,J,P,J,J] [(0,6,C)]) λD E=>
 au (cp E false 6 48 v D) λF G=>
 Do (W 2 b) λH=>
 Do (Y G 1 H F) λj=>
 Do (W 0 f) λK=>
 Do (O j 1 false K) λL=>
 Do (ab .add i L) λR=>
 Do (ab .mul (M 8) R) λS=>
 Do (W 3 b) λT=>
 Do (Y j 1 T S) λU=>
 N (vo Φ b g h Q) [] U)
def F0(Φ:aj)(f b:I)(Q:ad):a:=λw c=>
 Do (W 0 b) λi=>
 Do (W 0 i) λj=>
 Do (O c 1 false j) λk=>
 Do (W 0 b) λl=>
 Do (W 1 l) λm=>
 Do (O c 1 false m) λn=>
Φ 167 [k,n] c λo p=>
 Do (W 0 b) λq=>
 Do (W 0 q) λr=>
 Do (Y p 1 r o) λd=>
 Do (O d 4 true b) λs=>
 Do (W 0 b) λt=>
 Do (W 0 t) λg=>
 Do (O d 1 false g) λh=>
 Do (ab .leq h (M 65536)) λu=>
 Do (Y d 4 f s) λe=>
(O e 1 false g=some h) ∧
(Do (O e 4 true f) λv=>
 Q (.ar [v,u]) e)
def nJ(Φ:aj)(i f b o p:I)(Q:ad):BT:=λa j=>
 Do (ab .lss (G a.1 0) p) λq=>
 Gd q true (
 Do (aO none 9 o (G a.1 0)) λr=>
 Do (O a.2 9 true r) λs=>
 au (some (aJ a.2 true [.str [],J,J,P,aQ,J,aQ,P,J])) λc t=>
 Do (Y t 9 c s) λk=>
 Do (W 1 c) λu=>
 Do (O k 6 true u) λv=>
Φ 86 [v] k λl w=>
 Do (bh 0 l) λx=>
 Do (bh 1 l) λy=>
 au (some (aJ w true [J,J])) λe z=>
 Do (Y z 2 e x) λd=>
 Do (cI .not y) λA=>
 Gd A true (
 Do (bm [J,J,aQ,J] []) λB=>
 Do (Y d 4 f B) λm=>
 Do (O m 4 true f) λC=>
 Q (.ar [C,P]) m) (
 Do (O d 6 true i) λD=>
 Do (O d 9 true c) λE=>
 Do (W 1 e) λF=>
 Do (O d 1 false F) λH=>
Φ 165 [D,E,H] d λg n=>
 Do (W 0 b) λK=>
 Do (W 1 K) λL=>
 Do (O n 1 false L) λR=>
 Do (fo true [R,g]) λS=>
 Do (W 0 b) λT=>
 Do (W 1 T) λU=>
 Do (Y n 1 U S) λh=>
 Do (W 0 i) λV=>
 Do (O h 1 false V) λX=>
 Do (ab .eql X (M 4)) λZ=>
 Gd Z true (
 Do (W 3 b) λaa=>
 Do (Y h 1 aa J) λac=>
 N (vp Φ b c e g a j Q) [] ac) (
 N (vp Φ b c e g a j Q) [] h))) (
 N (F0 Φ f b Q) [] a.2)
def f115(Φ:aj)(a0:I)(H:Z)(Q:ad):Prop:=
 au (aK H false 6 a0) λa H2=>
 au (some (aJ H2 true [J,J,aQ,J])) λe f=>
 Do (bm [J,J] [(0,1,J),(1,1,(M 1))]) λg=>
 Do (bm [J,J,aQ,J] [(0,2,g)]) λh=>
 au (some (aJ f true [J,J,aQ,J])) λb i=>
 Do (Y i 4 b h) λc=>
 Do (W 3 a) λj=>
 Do (O c 1 false j) λd=>
 Do (bo false d) λk=>
 aA (nJ Φ a e b d k Q) ([J],c)
noncomputable def F1:aT:=R C ⟨115,[2,4,6,7],[[16]],none,[],[]⟩
def vq(Φ:aj)(c:I)(Q:ad):a:=λd b=>
 aL (G d 0) false (
 Do (W 3 c) λe=>
 Do (O b 1 false e) λf=>
Φ 131 [f,(.fn 176 [])] b λg h=>
 Q g h) (
 Q br b) (
 False)
def vr(Φ:aj)(b:I)(Q:ad):a:=λd c=>
 aL (G d 0) false (
 Do (W 5 b) λe=>
 Do (O c 1 false e) λf=>
Φ 130 [f,(.fn 129 [])] c λg h=>
 N (vq Φ b Q) [g] h) (
 N (vq Φ b Q) [br] c) (
 False)
def f129(Φ:aj)(a0:I)(H:Z)(Q:ad):Prop:=
 au (aK H false 6 a0) λa H2=>
 Do (W 0 a) λb=>
 Do (O H2 1 false b) λc=>
 Do (ab .eql c (M 2)) λd=>
 aL d true (
 Do (W 1 a) λe=>
 Do (O H2 1 false e) λf=>
 Do (ab .gtr f (M 1)) λg=>
 N (vr Φ a Q) [g] H2) (
 N (vr Φ a Q) [P] H2) (
 False)
noncomputable def F2:aT:=R C ⟨129,[],[],none,[],[]⟩
def f130(Φ:aj)(a0 a1:I)(H:Z)(Q:ad):Prop:=
Φ 177 [a0,a1] H λa H2=>
 Do (ab .geq a J) λb=>
 Q b H2
noncomputable def F3:aT:=R C ⟨130,[],[],none,[],[]⟩
def f131(Φ:aj)(a0 a1:I)(H:Z)(Q:ad):Prop:=
Φ 70 [a0,a1] H λa H2=>
 Do (ab .geq a J) λb=>
 Q b H2
noncomputable def F4:aT:=R C ⟨131,[],[],none,[],[]⟩
def f132(Φ:aj)(a0:I)(H:Z)(Q:ad):Prop:=
 au (aK H false 9 a0) λa H2=>
 Do (W 1 a) λb=>
 Do (O H2 6 true b) λc=>
Φ 85 [c] H2 λd e=>
 Q d e
noncomputable def F5:aT:=R C ⟨132,[],[],none,[],[]⟩
def vt(Φ:aj)(a0:I)(Q:ad):a:=λd H2=>
 Do (bm [J,J] []) λb=>
 Do (Y H2 2 a0 b) λc=>
 Q (.ar []) c
def f133(Φ:aj)(a0 a1:I)(H:Z)(Q:ad):Prop:=
 Do (W 1 a0) λa=>
 Do (O H 1 false a) λb=>
 Do (ab .gtr b J) λc=>
 Gd c true (
 Do (O H 1 false a1) λd=>
 Do (O H 2 true a0) λe=>
Φ 87 [d,e] H λg f=>
 N (vt Φ a0 Q) [] f) (
 N (vt Φ a0 Q) [] H)
noncomputable def F6:aT:=R C ⟨133,[],[],none,[],[]⟩
def f136(Φ:aj)(a0:I)(H:Z)(Q:ad):Prop:=
 Do (ab .neq a0 a0) λa=>
 Q a H
noncomputable def F7:aT:=R C ⟨136,[],[],none,[],[]⟩
def f137(Φ:aj)(a0:I)(H:Z)(Q:ad):Prop:=
 Do (ab .geq a0 (.int .i32 97)) λa=>
 aL a true (
 Do (ab .leq a0 (.int .i32 122)) λb=>
 Q b H) (
 Q P H) (
 False)
noncomputable def F8:aT:=R C ⟨137,[],[],none,[],[]⟩
def f138(Φ:aj)(a0 a1:I)(H:Z)(Q:ad):Prop:=
Φ 188 [a0,a1] H λa H2=>
 Do (ab .geq a J) λb=>
 Q b H2
noncomputable def F9:aT:=R C ⟨138,[],[],none,[],[]⟩
def vu(Φ:aj)(a0 b:I)(Q:ad):a:=λc H2=>
 Gd (G c 0) true (
 Do (aX a0) λd=>
 Do (W 3 d) λe=>
 Do (O H2 1 false e) λf=>
 Do (bm [J,J] [(0,1,f),(1,1,b)]) λg=>
 Do (aX a0) λh=>
 Do (W 4 h) λi=>
 Do (Y H2 2 i g) λj=>
 Q (.ar []) j) (
 Q (.ar []) H2)
def f140(Φ:aj)(a0 a1 a:I)(H:Z)(Q:ad):Prop:=
 Do (cI .not a1) λb=>
 aL b true (
Φ 65 [a0] H λc d=>
 Do (cI .not c) λe=>
 N (vu Φ a0 a Q) [e] d) (
 N (vu Φ a0 a Q) [P] H) (
 False)
noncomputable def F_:aT:=R C ⟨140,[],[],none,[],[]⟩
def pV(Φ:aj)(c d:I)(Q:ad):a:=λe b=>
 aL (G e 0) true (
 Do (W 5 d) λf=>
 Do (O b 1 false f) λg=>
 aL g false (
 Do (W 9 c) λh=>
 Do (O b 1 false h) λi=>
 Do (bo false i) λj=>
 Do (ab .eql j J) λk=>
 Q k b) (
 Q br b) (
 False)) (
 Q P b) (
 False)
def rO(Φ:aj)(c d:I)(Q:ad):a:=λe b=>
 aL (G e 0) true (
 Do (W 4 d) λf=>
 Do (O b 1 false f) λg=>
 aL g false (
 Do (W 8 c) λh=>
 Do (O b 1 false h) λi=>
 Do (bo false i) λj=>
 Do (ab .eql j J) λk=>
 N (pV Φ c d Q) [k] b) (
 N (pV Φ c d Q) [br] b) (
 False)) (
 N (pV Φ c d Q) [P] b) (
 False)
def pW(Φ:aj)(c d:I)(Q:ad):a:=λe b=>
 aL (G e 0) true (
 Do (W 7 c) λf=>
 Do (O b 1 false f) λg=>
 Do (bo false g) λh=>
 Do (W 3 d) λi=>
 Do (O b 1 false i) λj=>
 Do (ab .eql h j) λk=>
 N (rO Φ c d Q) [k] b) (
 N (rO Φ c d Q) [P] b) (
 False)
def pX(Φ:aj)(c d:I)(Q:ad):a:=λe b=>
 aL (G e 0) true (
 Do (W 2 d) λf=>
 Do (O b 1 false f) λg=>
 aL g false (
 Do (W 5 c) λh=>
 Do (O b 2 true h) λi=>
Φ 192 [i] b λj k=>
 N (pW Φ c d Q) [j] k) (
 N (pW Φ c d Q) [br] b) (
 False)) (
 N (pW Φ c d Q) [P] b) (
 False)
def pY(Φ:aj)(c d:I)(Q:ad):a:=λe b=>
 aL (G e 0) true (
 Do (W 1 d) λf=>
 Do (O b 1 false f) λg=>
 aL g false (
 Do (W 3 c) λh=>
 Do (O b 1 false h) λi=>
 Do (ab .eql i (.str [])) λj=>
 N (pX Φ c d Q) [j] b) (
 N (pX Φ c d Q) [br] b) (
 False)) (
 N (pX Φ c d Q) [P] b) (
 False)
def f141(Φ:aj)(a0:I)(H:Z)(Q:ad):Prop:=
 au (aK H false 10 a0) λa H2=>
 Do (W 0 a) λe=>
 Do (O H2 1 false e) λf=>
Φ 191 [f] H2 λd g=>
 Do (bh 0 d) λh=>
 Do (bh 1 d) λi=>
 au (some (aJ g true [P,P,P,J,P,P])) λb j=>
 Do (Y j 6 b h) λc=>
 aL i true (
 Do (W 0 b) λk=>
 Do (O c 1 false k) λl=>
 aL l false (
 Do (W 2 a) λm=>
 Do (O c 1 false m) λn=>
 Do (ab .eql n (.str [])) λo=>
 N (pY Φ a b Q) [o] c) (
 N (pY Φ a b Q) [br] c) (
 False)) (
 N (pY Φ a b Q) [P] c) (
 False)
noncomputable def Ga:aT:=R C ⟨141,[3],[],none,[],[]⟩
end Rb.S

namespace Rb.S
open Go
open Go.Proofs.YteakojhgmhmdkaaGreatDoor.rb (C)
def zP(Φ:aj)(a1:I)(Q:ad):a:=λc b=>
 aL (G c 0) false (
 Do (ab .eql a1 (M 4)) λd=>
 Q d b) (
 Q br b) (
 False)
def zQ(Φ:aj)(a1:I)(Q:ad):a:=λgI b=>
 aL (G gI 0) false (
 Do (ab .eql a1 (M 4)) λc=>
 Q c b) (
 Q br b) (
 False)
def Gb(Φ:aj)(a1:I)(Q:ad):a:=λc H2=>
 Do (ab .eql a1 J) λb=>
 Q b H2
def vv(Φ:aj)(a0 a1:I)(Q:ad):a:=λc b=>
 Gd (G c 0) true (
 Do (ab .geq a1 (M 1)) λd=>
 aL d true (
 Do (ab .leq a1 (M 4)) λe=>
 Q e b) (
 Q P b) (
 False)) (
 Do (ab .eql a0 (M 7)) λf=>
 Gd f true (
 Do (ab .geq a1 (M 2)) λg=>
 aL g true (
 Do (ab .leq a1 (M 4)) λh=>
 Q h b) (
 Q P b) (
 False)) (
 N (Gb Φ a1 Q) [] b))
def zR(Φ:aj)(a0 a1:I)(Q:ad):a:=λe b=>
 Gd (G e 0) true (
 Do (ab .eql a1 (M 1)) λf=>
 aL f false (
 Do (ab .eql a1 (M 2)) λg=>
 N (zQ Φ a1 Q) [g] b) (
 N (zQ Φ a1 Q) [br] b) (
 False)) (
 Do (ab .eql a0 (M 16)) λc=>
 Gd c true (
 N (vv Φ a0 a1 Q) [c] b) (
 Do (ab .eql a0 (M 17)) λd=>
 Gd d true (
 N (vv Φ a0 a1 Q) [d] b) (
 Do (ab .eql a0 (M 18)) λh=>
 N (vv Φ a0 a1 Q) [h] b)))
def zS(Φ:aj)(a0 a1:I)(Q:ad):a:=λd b=>
 Gd (G d 0) true (
 Do (ab .eql a1 (M 1)) λe=>
 aL e false (
 Do (ab .eql a1 (M 3)) λf=>
 N (zP Φ a1 Q) [f] b) (
 N (zP Φ a1 Q) [br] b) (
 False)) (
 Do (ab .eql a0 (M 5)) λc=>
 Gd c true (
 N (zR Φ a0 a1 Q) [c] b) (
 Do (ab .eql a0 (M 15)) λg=>
 N (zR Φ a0 a1 Q) [g] b))
def f142(Φ:aj)(a0 a1:I)(H:Z)(Q:ad):Prop:=
 Do (ab .eql a0 (M 4)) λa=>
 Gd a true (
 N (zS Φ a0 a1 Q) [a] H) (
 Do (ab .eql a0 (M 6)) λb=>
 N (zS Φ a0 a1 Q) [b] H)
noncomputable def Gc:aT:=R C ⟨142,[],[],none,[],[]⟩
def f143(Φ:aj)(a0 a1:I)(H:Z)(Q:ad):Prop:=
 Do (aX a0) λa=>
 Do (W 1 a) λb=>
 Do (O H 1 false b) λc=>
Φ 138 [c,a1] H λd e=>
 Q d e
noncomputable def Ge:aT:=R C ⟨143,[],[],none,[],[]⟩
def Gf(Φ:aj)(b:ST)(c:LT)(Q:ad):a:=λf d=>
 Do (ab .add (G b.1 0) (M 1)) λe=>
 c ([e],d)
def vw(Φ:aj)(a0 a3 d e:I)(f:ST)(g:LT)(Q:ad):BT:=λa h=>
 Do (ab .lss (G a.1 0) e) λi=>
 Gd i true (
 Do (aO none 8 d (G a.1 0)) λj=>
 Do (O a.2 8 true j) λk=>
 au (some (aJ a.2 true [J,bY 0,.str [],J,J,.str [],aQ,aQ])) λb l=>
 Do (Y l 8 b k) λc=>
 Do (O c 8 true b) λm=>
 Do (ab .add a3 (M 1)) λn=>
Φ 194 [a0,m,n] c λq o=>
 Do (ab .add (G a.1 0) (M 1)) λp=>
 h ([p],o)) (
 N (Gf Φ f g Q) [] a.2)
def rP(Φ:aj)(a0 a3 e f:I)(Q:ad):BT:=λa g=>
 Do (ab .lss (G a.1 0) f) λh=>
 Gd h true (
 Do (aO none 2 e (G a.1 0)) λi=>
 Do (O a.2 2 true i) λj=>
 au (some (aJ a.2 true [.str [],aQ])) λb k=>
 Do (Y k 2 b j) λc=>
 Do (W 1 b) λl=>
 Do (O c 1 false l) λd=>
 Do (bo false d) λm=>
 aA (vw Φ a0 a3 d m a g Q) ([J],c)) (
 Q (.ar []) a.2)
def vx(Φ:aj)(a0 a3 d:I)(Q:ad):a:=λg b=>
 Do (W 1 d) λe=>
 Do (O b 1 false e) λc=>
 Do (bo false c) λf=>
 aA (rP Φ a0 a3 c f Q) ([J],b)
def f144(Φ:aj)(a0 a1 a2 a3:I)(H:Z)(Q:ad):Prop:=
 au (aK H false 2 a2) λa H2=>
Φ 65 [a0] H2 λk b=>
 Gd k true (
 Q (.ar []) b) (
 Do (aX a0) λl=>
 Do (W 0 l) λe=>
 Do (O b 1 false e) λf=>
 Do (O b 2 true a) λg=>
Φ 39 [f,g] b λh m=>
 Do (bh 0 h) λn=>
 Do (bh 1 h) λi=>
 au (some (aJ m true [J,J,P,aQ,J,aQ])) λj c=>
(O c 1 false e=some f) ∧
(O c 2 true a=some g) ∧
(Do (Y c 6 j n) λo=>
 Do (ab .eql i J) λp=>
Φ 140 [a0,p,i] o λx q=>
Φ 65 [a0] q λr d=>
 aL r false (
 Do (O d 6 true j) λs=>
Φ 193 [a1,s] d λt u=>
Φ 140 [a0,t,(M 8)] u λy v=>
 N (vx Φ a0 a3 a Q) [] v) (
Φ 140 [a0,br,(M 8)] d λz w=>
 N (vx Φ a0 a3 a Q) [] w) (
 False)))
noncomputable def Gg:aT:=R C ⟨144,[8,11,13],[[42],[49]],none,[],[]⟩
def vy(Φ:aj)(b:ST)(c:LT)(Q:ad):a:=λf d=>
 Do (ab .add (G b.1 0) (M 1)) λe=>
 c ([e],d)
def rQ(Φ:aj)(a0 a1 a2 d:I)(Q:ad):BT:=λs2 b=>
 Do (ab .lss (G s2.1 0) d) λe=>
 Gd e true (
 Do (aO none 8 a1 (G s2.1 0)) λf=>
 Do (O s2.2 8 true f) λg=>
 au (some (aJ s2.2 true [J,bY 0,.str [],J,J,.str [],aQ,aQ])) λc h=>
 Do (Y h 8 c g) λi=>
Φ 65 [a0] i λj a=>
 Do (cI .not j) λk=>
 Gd k true (
 Do (O a 8 true c) λl=>
 Do (ab .add a2 (M 1)) λm=>
Φ 194 [a0,l,m] a λo n=>
 N (vy Φ s2 b Q) [] n) (
 N (vy Φ s2 b Q) [] a)) (
 Q (.ar []) s2.2)
def f145(Φ:aj)(a0 a1 a2:I)(H:Z)(Q:ad):Prop:=
 Do (bo false a1) λa=>
 aA (rQ Φ a0 a1 a2 a Q) ([J],H)
noncomputable def Gh:aT:=R C ⟨145,[7],[[10]],none,[],[]⟩
def f146(Φ:aj)(a0 a1:I)(H:Z)(Q:ad):Prop:=
Φ 107 [(M 1)] H λd H2=>
 au (some (aJ H2 true [J,J,J,J,J,J,bY 0,J,J,J,J,J,J])) λa e=>
 Do (Y e 13 a d) λf=>
Φ 101 [a0] f λg h=>
 Do (W 1 a) λi=>
 Do (Y h 1 i g) λj=>
 Do (W 6 a) λk=>
 Do (Y j 1 k a1) λb=>
 Do (O b 13 true a) λl=>
Φ 109 [a0,l] b λo c=>
 Do (W 1 a) λm=>
 Do (O c 1 false m) λn=>
 Q n c
noncomputable def Gi:aT:=R C ⟨146,[5],[],none,[],[]⟩
def f147(Φ:aj)(a0 a1 a2 a3:I)(H:Z)(Q:ad):Prop:=
Φ 107 [(M 3)] H λd H2=>
 au (some (aJ H2 true [J,J,J,J,J,J,bY 0,J,J,J,J,J,J])) λa e=>
 Do (Y e 13 a d) λf=>
Φ 101 [a0] f λg h=>
 Do (W 1 a) λi=>
 Do (Y h 1 i g) λj=>
 Do (W 7 a) λk=>
 Do (Y j 1 k a1) λl=>
 Do (W 3 a) λm=>
 Do (Y l 1 m a2) λn=>
 Do (W 4 a) λo=>
 Do (Y n 1 o a3) λb=>
 Do (O b 13 true a) λp=>
Φ 109 [a0,p] b λs c=>
 Do (W 1 a) λq=>
 Do (O c 1 false q) λr=>
 Q r c
noncomputable def Gj:aT:=R C ⟨147,[9],[],none,[],[]⟩
def f148(Φ:aj)(a0 a1:I)(H:Z)(Q:ad):Prop:=
 au (aK H false 2 a1) λd H2=>
 Do (O H2 2 true d) λl=>
Φ 152 [a0,l] H2 λm n=>
 au (some (aJ n true [J,J,J,P,J,J,J,J])) λa o=>
 Do (Y o 8 a m) λe=>
 Do (O e 8 true a) λp=>
Φ 153 [a0,p] e λq c=>
 Do (O c 8 true a) λf=>
 Do (O c 2 true d) λr=>
Φ 108 [a0,(M 14),J,r] c λs g=>
(O g 8 true a=some f) ∧
(Φ 154 [a0,f,q,s] g λh b=>
 Do (W 0 a) λt=>
 Do (W 3 t) λu=>
 Do (O b 1 false u) λv=>
 Gd v true (
 Do (W 0 a) λw=>
 Do (W 4 w) λx=>
 Do (O b 1 false x) λy=>
 Do (e6 .u64 y) λz=>
 Do (W 0 a) λA=>
 Do (W 5 A) λi=>
 Do (O b 1 false i) λj=>
Φ 155 [a0,(M 8),h,z] b λB k=>
(O k 1 false i=some j) ∧
(Φ 156 [j] k λC D=>
Φ 155 [a0,(M 4),B,C] D λE F=>
 Q E F)) (
 Q h b))
noncomputable def Gk:aT:=R C ⟨148,[5],[],none,[],[]⟩
def vz(Φ:aj)(a0 g l b:I)(Q:ad):a:=λR m=>
 Do (O m 8 true l) λw=>
Φ 153 [a0,w] m λx y=>
 Do (W 3 b) λz=>
 Do (Y y 1 z x) λc=>
 Do (W 0 l) λA=>
 Do (W 0 A) λB=>
 Do (W 1 B) λh=>
 Do (O c 1 false h) λi=>
 Do (W 4 g) λe=>
 Do (O c 1 false e) λf=>
 Do (W 0 g) λn=>
 Do (O c 1 false n) λo=>
 Do (ab .add (M 10) o) λC=>
 Do (W 4 g) λp=>
 Do (O c 1 false p) λq=>
 Do (W 5 g) λr=>
 Do (O c 2 true r) λs=>
Φ 101 [a0] c λD d=>
(O d 1 false h=some i) ∧
(O d 1 false e=some f) ∧
(O d 1 false n=some o) ∧
(O d 1 false p=some q) ∧
(O d 2 true r=some s) ∧
(Do (W 1 b) λE=>
Φ 108 [a0,C,q,s] d λF j=>
(O j 1 false h=some i) ∧
(O j 1 false e=some f) ∧
(Do (Y j 1 E D) λk=>
(O k 1 false h=some i) ∧
(O k 1 false e=some f) ∧
(Do (W 8 b) λG=>
 Do (Y k 1 G i) λt=>
(O t 1 false e=some f) ∧
(Do (W 9 b) λH=>
 Do (Y t 1 H f) λJ=>
 Do (W 11 b) λK=>
 Do (Y J 1 K F) λu=>
 Do (O u 13 true b) λL=>
Φ 109 [a0,L] u λS v=>
 Do (W 1 b) λN=>
 Do (O v 1 false N) λP=>
 Q P v))))
def vA(Φ:aj)(a0 c e d:I)(f:List I)(Q:ad):a:=λn b=>
 Do (W 0 c) λg=>
 Do (O b 1 false g) λh=>
 Do (ab .eql h (M 8)) λi=>
 Gd i true (
 Do (aO none 1 (G f 0) (M 1)) λj=>
 Do (O b 1 false j) λk=>
 Do (W 5 d) λl=>
 Do (Y b 1 l k) λm=>
 N (vz Φ a0 c e d Q) [] m) (
 N (vz Φ a0 c e d Q) [] b)
def zT(Φ:aj)(a0 b f:I)(Q:ad):a:=λe g=>
 Do (W 0 b) λi=>
 Do (O g 1 false i) λj=>
 Do (ab .sub j (M 5)) λk=>
 Do (ab .add k (M 6)) λl=>
Φ 107 [l] g λm n=>
 au (some (aJ n true [J,J,J,J,J,J,bY 0,J,J,J,J,J,J])) λc o=>
 Do (Y o 13 c m) λd=>
 Do (W 0 b) λp=>
 Do (O d 1 false p) λq=>
 Do (ab .neq q (M 5)) λr=>
 Gd r true (
 Do (W 0 b) λs=>
 Do (O d 1 false s) λt=>
 Do (ab .sub t (M 6)) λu=>
 Do (ab .add u (M 8)) λv=>
 Do (W 0 c) λw=>
 Do (Y d 1 w v) λh=>
 Do (aO none 1 (G e 0) J) λx=>
 Do (O h 1 false x) λy=>
 Do (W 4 c) λz=>
 Do (Y h 1 z y) λA=>
 N (vA Φ a0 b f c e Q) [] A) (
 N (vA Φ a0 b f c e Q) [] d)
def vC(Φ:aj)(a0 d e f g:I)(Q:ad):BT:=λa h=>
 Do (ab .lss (G a.1 1) g) λi=>
 Gd i true (
 Do (aO none 8 f (G a.1 1)) λj=>
 Do (O a.2 8 true j) λk=>
 au (some (aJ a.2 true [J,bY 0,.str [],J,J,.str [],aQ,aQ])) λb l=>
 Do (Y l 8 b k) λc=>
 Do (O c 8 true b) λm=>
Φ 100 [a0,m] c λn o=>
 au (dk o false 1 1 [J] [(0,1,n)]) λp q=>
 au (cp q true 1 8 (G a.1 0) p) λr s=>
 Do (ab .add (G a.1 1) (M 1)) λt=>
 h ([r,t],s)) (
 N (zT Φ a0 d e Q) [(G a.1 0)] a.2)
def f149(Φ:aj)(a0 a1:I)(H:Z)(Q:ad):Prop:=
 au (aK H false 8 a1) λa H2=>
 Do (W 5 a) λe=>
 Do (O H2 2 true e) λf=>
Φ 152 [a0,f] H2 λg h=>
 au (some (aJ h true [J,J,J,P,J,J,J,J])) λb i=>
 Do (Y i 8 b g) λc=>
 Do (W 7 a) λj=>
 Do (O c 1 false j) λd=>
 Do (bo false d) λk=>
 aA (vC Φ a0 a b d k Q) ([aQ,J],c)
noncomputable def Gl:aT:=R C ⟨149,[5,8,9,26],[[6,17]],none,[],[]⟩
def zU(Φ:aj)(a0 a1 d:I)(Q:ad):BT:=λs2 e=>
 Do (ab .lss (G s2.1 0) d) λf=>
 Gd f true (
 Do (aO none 2 a0 (G s2.1 0)) λg=>
 Do (O s2.2 2 true g) λh=>
∃a b,a1 = .fn a b∧Φ (h_ a) (ia a [h] b) s2.2 λi c=>
 Gd i true (
 Q (G s2.1 0) c) (
 Do (ab .add (G s2.1 0) (M 1)) λj=>
 e ([j],c))) (
 Q (M (-1)) s2.2)
def f150(Φ:aj)(a0 a1:I)(H:Z)(Q:ad):Prop:=
 Do (bo false a0) λa=>
 aA (zU Φ a0 a1 a Q) ([J],H)
noncomputable def Gm:aT:=R C ⟨150,[],[[8]],none,[],[]⟩
def f151(Φ:aj)(a0 a1:I)(H:Z)(Q:ad):Prop:=
 au (aK H false 2 a0) λa H2=>
 Do (W 0 a) λb=>
 Do (O H2 1 false b) λc=>
 Do (O H2 1 false a1) λd=>
 Do (ab .eql c d) λe=>
 Q e H2
noncomputable def Gn:aT:=R C ⟨151,[],[],none,[],[]⟩
def vD(Φ:aj)(b:ST)(c:LT)(Q:ad):a:=λf d=>
 Do (ab .add (G b.1 0) (M 1)) λe=>
 c ([e],d)
def vF(Φ:aj)(b c:I)(h:ST)(i:LT)(Q:ad):a:=λr j=>
 Do (W 0 b) λk=>
 Do (W 0 k) λl=>
 Do (W 1 l) λm=>
 Do (Y j 1 m c) λd=>
 Do (W 7 b) λe=>
 Do (O d 1 false e) λf=>
Φ 197 [c,(M 16)] d λn g=>
(O g 1 false e=some f) ∧
(Do (fo false [f,n]) λo=>
 Do (W 7 b) λp=>
 Do (Y g 1 p o) λq=>
 N (vD Φ h i Q) [] q)
def Gp(Φ:aj)(d b:I)(Q:ad):a:=λs c=>
 Do (W 7 b) λe=>
 Do (O c 1 false e) λf=>
 Do (W 0 b) λj=>
 Do (W 0 j) λk=>
 Do (W 0 k) λl=>
 Do (O c 1 false l) λm=>
Φ 197 [m,(M 16)] c λn g=>
(O g 1 false e=some f) ∧
(Do (fo false [f,n]) λo=>
 Do (W 7 b) λp=>
 Do (Y g 1 p o) λh=>
 Do (O h 8 true b) λq=>
 Do (Y h 8 d q) λi=>
 Do (O i 8 true d) λr=>
 Q r i)
def nK(Φ:aj)(a0 F b a H K:I)(Q:ad):BT:=λc j=>
 Do (ab .lss (G c.1 0) K) λL=>
 Gd L true (
 Do (aO none 2 H (G c.1 0)) λR=>
 Do (O c.2 2 true R) λS=>
 au (some (aJ c.2 true [.str [],aQ])) λe T=>
 Do (Y T 2 e S) λd=>
 Do (W 1 e) λU=>
 Do (O d 1 false U) λV=>
 Do (bo false V) λX=>
 Do (ab .eql X J) λZ=>
 Gd Z true (
 Do (W 3 b) λaa=>
 Do (O d 1 false aa) λac=>
Φ 70 [ac,(.fn 196 [e])] d λp q=>
 Do (O q 6 true b) λae=>
Φ 72 [ae] q λr s=>
 Do (bh 0 r) λaf=>
 Do (bh 1 r) λa9=>
 Do (aO none 6 af p) λag=>
 Do (O s 6 true ag) λah=>
 au (some (aJ s true [J,J,J,P,J,J])) λf ai=>
 Do (Y ai 6 f ah) λk=>
 Do (W 0 f) λak=>
 Do (W 0 ak) λal=>
 Do (O k 1 false al) λam=>
 Do (W 0 a) λan=>
 Do (W 0 an) λao=>
 Do (W 0 ao) λap=>
 Do (O k 1 false ap) λaq=>
 Do (ab .add am aq) λar=>
 Do (W 0 f) λav=>
 Do (W 0 av) λaw=>
 Do (Y k 1 aw ar) λg=>
 Do (O g 6 true f) λax=>
 Do (W 3 b) λt=>
 Do (O g 1 false t) λu=>
 Do (aO none 9 u p) λay=>
 Do (W 1 ay) λv=>
 Do (O g 6 true v) λw=>
 Do (W 0 a) λaz=>
 Do (Y g 6 az ax) λl=>
(O l 1 false t=some u) ∧
(O l 6 true v=some w) ∧
(Do (Y l 6 b w) λaA=>
 N (vD Φ c j Q) [] aA)) (
 Do (W 1 e) λaB=>
 Do (O d 1 false aB) λaC=>
 Do (aO none 8 aC J) λaD=>
 Do (O d 8 true aD) λaE=>
Φ 100 [a0,aE] d λx aF=>
Φ 107 [(M 17)] aF λaG aH=>
 au (some (aJ aH true [J,J,J,J,J,J,bY 0,J,J,J,J,J,J])) λh aI=>
 Do (Y aI 13 h aG) λy=>
 Do (W 4 b) λz=>
 Do (O y 1 false z) λA=>
 Do (e6 .u64 A) λaK=>
 Do (W 3 h) λaL=>
 Do (Y y 1 aL x) λB=>
(O B 1 false z=some A) ∧
(Do (W 6 h) λaM=>
 Do (Y B 1 aM aK) λC=>
 Do (O C 13 true h) λaN=>
Φ 109 [a0,aN] C λa_ m=>
 Do (W 5 b) λaP=>
 Do (O m 1 false aP) λaR=>
 Do (aO none 6 aR J) λaS=>
 Do (O m 6 true aS) λaT=>
 Do (Y m 6 b aT) λD=>
 Do (O D 6 true b) λaU=>
Φ 38 [aU] D λn aV=>
 Do (bh 0 n) λo=>
 Do (bh 1 n) λba=>
 Do (bh 2 n) λbb=>
 Do (e6 .u64 o) λaW=>
Φ 155 [a0,(M 3),x,aW] aV λE i=>
 Do (W 6 a) λaX=>
 Do (O i 1 false aX) λaY=>
 Do (ab .eql aY (M (-1))) λaZ=>
 Gd aZ true (
 Do (W 6 a) λa1=>
 Do (Y i 1 a1 E) λa2=>
 N (vF Φ a o c j Q) [] a2) (
 Do (W 6 a) λa3=>
 Do (O i 1 false a3) λa4=>
Φ 147 [a0,(M 1),a4,E] i λa5 a6=>
 Do (W 6 a) λa7=>
 Do (Y a6 1 a7 a5) λa8=>
 N (vF Φ a o c j Q) [] a8)))) (
 N (Gp Φ F a Q) [] c.2)
def f152(Φ:aj)(a0 a1:I)(H:Z)(Q:ad):Prop:=
 au (aK H false 2 a1) λc H2=>
 au (some (aJ H2 true [J,J,J,P,J,J,J,J])) λj d=>
 Do (aX a0) λk=>
 Do (W 0 k) λl=>
 Do (O d 1 false l) λm=>
Φ 43 [m,(.fn 195 [c])] d λe a=>
 Do (aX a0) λn=>
 Do (W 0 n) λo=>
 Do (O a 1 false o) λp=>
 Do (aO none 7 p e) λq=>
 Do (W 1 q) λr=>
 Do (O a 6 true r) λs=>
 au (some (aJ a true [J,J,P,aQ,J,aQ])) λf t=>
 Do (Y t 6 f s) λb=>
 Do (aX a0) λu=>
 Do (W 1 u) λv=>
 Do (O b 1 false v) λw=>
 Do (aO none 3 w e) λx=>
 Do (W 1 x) λy=>
 Do (O b 2 true y) λz=>
 Do (bm [J,J,J,P,J,J] [(0,2,z)]) λA=>
 Do (bm [J,J,J,P,J,J,J,J] [(0,6,A),(6,1,(M (-1))),(7,1,(M 16))]) λB=>
 au (some (aJ b true [J,J,J,P,J,J,J,J])) λg C=>
 Do (Y C 8 g B) λh=>
 Do (W 1 c) λD=>
 Do (O h 1 false D) λi=>
 Do (bo false i) λE=>
 aA (nK Φ a0 j f g i E Q) ([J],h)
noncomputable def Gq:aT:=R C ⟨152,[4,6,7,9,13,15],[[46]],none,[],[]⟩
def f153(Φ:aj)(a0 a1:I)(H:Z)(Q:ad):Prop:=
 au (aK H false 8 a1) λa H2=>
 Do (W 6 a) λb=>
 Do (O H2 1 false b) λc=>
 Do (ab .eql c (M (-1))) λd=>
 Gd d true (
 Do (W 0 a) λe=>
 Do (W 0 e) λf=>
 Do (W 0 f) λg=>
 Do (O H2 1 false g) λh=>
 Do (e6 .u64 h) λi=>
Φ 146 [a0,i] H2 λj k=>
 Q j k) (
 Do (W 6 a) λl=>
 Do (O H2 1 false l) λm=>
 Do (W 0 a) λn=>
 Do (W 0 n) λo=>
 Do (W 0 o) λp=>
 Do (O H2 1 false p) λq=>
 Do (e6 .u64 q) λr=>
Φ 155 [a0,(M 1),m,r] H2 λs t=>
 Q s t)
noncomputable def Gr:aT:=R C ⟨153,[],[],none,[],[]⟩
def vG(Φ:aj)(b:ST)(c:LT)(Q:ad):a:=λd e=>
 Do (ab .add (G b.1 1) (M 1)) λf=>
 c ([(G d 0),f],e)
def vH(Φ:aj)(a0 a2 a3 r s:I)(Q:ad):BT:=λa m=>
 Do (ab .lss (G a.1 1) s) λt=>
 Gd t true (
 Do (aO none 2 r (G a.1 1)) λu=>
 Do (O a.2 2 true u) λv=>
 au (some (aJ a.2 true [J,J])) λe w=>
 Do (Y w 2 e v) λx=>
Φ 107 [(M 4)] x λy z=>
 au (some (aJ z true [J,J,J,J,J,J,bY 0,J,J,J,J,J,J])) λb A=>
 Do (Y A 13 b y) λh=>
 Do (W 0 e) λf=>
 Do (O h 1 false f) λg=>
 Do (e6 .u64 g) λB=>
 Do (W 1 e) λc=>
 Do (O h 1 false c) λd=>
Φ 101 [a0] h λC i=>
(O i 1 false f=some g) ∧
(O i 1 false c=some d) ∧
(Do (W 1 b) λD=>
 Do (Y i 1 D C) λj=>
(O j 1 false f=some g) ∧
(O j 1 false c=some d) ∧
(Do (W 3 b) λE=>
 Do (Y j 1 E a2) λk=>
(O k 1 false f=some g) ∧
(O k 1 false c=some d) ∧
(Do (W 6 b) λF=>
 Do (Y k 1 F B) λn=>
(O n 1 false c=some d) ∧
(Do (W 8 b) λH=>
 Do (Y n 1 H d) λK=>
 Do (W 11 b) λL=>
 Do (Y K 1 L a3) λo=>
 Do (O o 13 true b) λP=>
Φ 109 [a0,P] o λae l=>
 Do (W 1 b) λR=>
 Do (O l 1 false R) λS=>
 Do (W 0 e) λT=>
 Do (O l 1 false T) λU=>
 Do (ab .mul (M 8) U) λV=>
 Do (e6 .u64 V) λX=>
Φ 155 [a0,(M 7),S,X] l λp q=>
 Do (ab .eql (G a.1 0) (M (-1))) λZ=>
 Gd Z true (
 N (vG Φ a m Q) [p] q) (
Φ 147 [a0,(M 5),(G a.1 0),p] q λaa ac=>
 N (vG Φ a m Q) [aa] ac)))))) (
 Q (G a.1 0) a.2)
def f154(Φ:aj)(a0 a1 a2 a3:I)(H:Z)(Q:ad):Prop:=
 au (aK H false 8 a1) λb H2=>
 Do (O H2 8 true b) λc=>
Φ 198 [c] H2 λa d=>
 Do (bo false a) λe=>
 aA (vH Φ a0 a2 a3 a e Q) ([(M (-1)),J],d)
noncomputable def Gs:aT:=R C ⟨154,[11,12],[[9,17]],none,[],[]⟩
def zV(Φ:aj)(a0 a1 a2 a3:I)(Q:ad):a:=λf H2=>
Φ 146 [a0,a3] H2 λb c=>
Φ 147 [a0,a1,a2,b] c λd e=>
 Q d e
def nL(Φ:aj)(a0 a1 a2 a3:I)(Q:ad):a:=λc b=>
 Gd (G c 0) true (
 Q a2 b) (
 N (zV Φ a0 a1 a2 a3 Q) [] b)
def f155(Φ:aj)(a0 a1 a2 a3:I)(H:Z)(Q:ad):Prop:=
 Do (ab .eql a3 (bY 0)) λa=>
 aL a true (
 Do (ab .eql a1 (M 1)) λb=>
 aL b false (
 Do (ab .eql a1 (M 7)) λc=>
 aL c false (
 Do (ab .eql a1 (M 8)) λd=>
 aL d false (
 Do (ab .eql a1 (M 5)) λe=>
 N (nL Φ a0 a1 a2 a3 Q) [e] H) (
 N (nL Φ a0 a1 a2 a3 Q) [br] H) (
 False)) (
 N (nL Φ a0 a1 a2 a3 Q) [br] H) (
 False)) (
 N (nL Φ a0 a1 a2 a3 Q) [br] H) (
 False)) (
 N (nL Φ a0 a1 a2 a3 Q) [P] H) (
 False)
noncomputable def Gt:aT:=R C ⟨155,[],[],none,[],[]⟩
def f156(Φ:aj)(a0:I)(H:Z)(Q:ad):Prop:=
 Do (ab .geq a0 (M 64)) λa=>
 Gd a true (
 Q (bY 18446744073709551615) H) (
 Do (ab .shl (bY 1) a0) λb=>
 Do (ab .sub b (bY 1)) λc=>
 Q c H)
noncomputable def Gu:aT:=R C ⟨156,[],[],none,[],[]⟩
def vI(Φ:aj)(a0 a2 a3 a4 m n:I)(Q:ad):BT:=λb o=>
 Do (ab .lss (G b.1 0) n) λp=>
 Gd p true (
 Do (aO none 2 m (G b.1 0)) λq=>
 Do (O b.2 2 true q) λr=>
 au (some (aJ b.2 true [J,J])) λc s=>
 Do (Y s 2 c r) λt=>
Φ 107 [(M 5)] t λu v=>
 au (some (aJ v true [J,J,J,J,J,J,bY 0,J,J,J,J,J,J])) λa w=>
 Do (Y w 13 a u) λd=>
 Do (W 0 c) λh=>
 Do (O d 1 false h) λi=>
 Do (e6 .u64 i) λx=>
 Do (W 1 c) λe=>
 Do (O d 1 false e) λf=>
 Do (W 3 a) λy=>
 Do (Y d 1 y a2) λg=>
(O g 1 false h=some i) ∧
(O g 1 false e=some f) ∧
(Do (W 6 a) λz=>
 Do (Y g 1 z x) λj=>
(O j 1 false e=some f) ∧
(Do (W 8 a) λA=>
 Do (Y j 1 A f) λB=>
 Do (W 11 a) λC=>
 Do (Y B 1 C a4) λk=>
 Do (W 0 c) λD=>
 Do (O k 1 false D) λE=>
 Do (ab .mul (M 8) E) λF=>
 Do (e6 .u64 F) λH=>
Φ 155 [a0,(M 8),a3,H] k λK L=>
 Do (W 4 a) λN=>
 Do (Y L 1 N K) λl=>
 Do (O l 13 true a) λP=>
Φ 109 [a0,P] l λT R=>
 Do (ab .add (G b.1 0) (M 1)) λS=>
 o ([S],R)))) (
 Q (.ar []) b.2)
def f157(Φ:aj)(a0 a1 a2 a3 a4:I)(H:Z)(Q:ad):Prop:=
 au (aK H false 8 a1) λb H2=>
 Do (O H2 8 true b) λc=>
Φ 198 [c] H2 λa d=>
 Do (bo false a) λe=>
 aA (vI Φ a0 a2 a3 a4 a e Q) ([J],d)
noncomputable def Gv:aT:=R C ⟨157,[11,12],[[16]],none,[],[]⟩
def f158(Φ:aj)(a0:I)(H:Z)(Q:ad):Prop:=
 Do (aX a0) λb=>
 Do (W 4 b) λc=>
 Do (O H 1 false c) λd=>
 Do (ab .add d (M 1)) λe=>
 Do (aX a0) λf=>
 Do (W 4 f) λg=>
 Do (Y H 1 g e) λa=>
 Do (aX a0) λh=>
 Do (W 4 h) λi=>
 Do (O a 1 false i) λj=>
 Q j a
noncomputable def Gw:aT:=R C ⟨158,[],[],none,[],[]⟩
def vJ(Φ:aj)(a0 a1 b:I)(Q:ad):a:=λh d=>
 Do (W 10 b) λe=>
 Do (Y d 1 e a1) λc=>
 Do (O c 13 true b) λf=>
Φ 109 [a0,f] c λi g=>
 Q (.ar []) g
def f159(Φ:aj)(a0 a1 a2:I)(H:Z)(Q:ad):Prop:=
Φ 107 [(M 15)] H λc H2=>
 au (some (aJ H2 true [J,J,J,J,J,J,bY 0,J,J,J,J,J,J])) λa d=>
 Do (Y d 13 a c) λb=>
 Do (ab .neq a2 (M (-1))) λe=>
 Gd e true (
 Do (W 0 a) λf=>
 Do (Y b 1 f (M 16)) λg=>
 Do (W 3 a) λh=>
 Do (Y g 1 h a2) λi=>
 N (vJ Φ a0 a1 a Q) [] i) (
 N (vJ Φ a0 a1 a Q) [] b)
noncomputable def Gx:aT:=R C ⟨159,[6],[],none,[],[]⟩
def f160(Φ:aj)(a0 a1:I)(H:Z)(Q:ad):Prop:=
Φ 107 [(M 14)] H λc H2=>
 au (some (aJ H2 true [J,J,J,J,J,J,bY 0,J,J,J,J,J,J])) λa d=>
 Do (Y d 13 a c) λe=>
 Do (W 10 a) λf=>
 Do (Y e 1 f a1) λb=>
 Do (O b 13 true a) λg=>
Φ 109 [a0,g] b λi h=>
 Q (.ar []) h
noncomputable def Gy:aT:=R C ⟨160,[4],[],none,[],[]⟩
def vK(Φ:aj)(Q:ad):a:=λb c=>
 Do (ab .add (G b 0) (M 1)) λd=>
 Q d c
def vL(Φ:aj)(a1 d e:I)(Q:ad):BT:=λa f=>
 Do (ab .lss (G a.1 1) e) λg=>
 Gd g true (
 Do (aO none 6 d (G a.1 1)) λh=>
 Do (O a.2 6 true h) λi=>
 au (some (aJ a.2 true [J,J,P,aQ,J,aQ])) λb j=>
 Do (Y j 6 b i) λc=>
 Do (O c 6 true b) λk=>
 Do (ab .sub a1 (M 1)) λl=>
Φ 161 [k,l] c λm n=>
 Do (fo true [(G a.1 0),m]) λo=>
 Do (ab .add (G a.1 1) (M 1)) λp=>
 f ([o,p],n)) (
 N (vK Φ Q) [(G a.1 0)] a.2)
def zW(Φ:aj)(a1 d:I)(Q:ad):a:=λe b=>
 Do (W 5 d) λf=>
 Do (O b 1 false f) λc=>
 Do (bo false c) λg=>
 aA (vL Φ a1 c g Q) ([(G e 0),J],b)
def vM(Φ:aj)(a1 d e f:I)(Q:ad):BT:=λa g=>
 Do (ab .lss (G a.1 1) f) λh=>
 Gd h true (
 Do (aO none 9 e (G a.1 1)) λi=>
 Do (O a.2 9 true i) λj=>
 au (some (aJ a.2 true [.str [],J,J,P,aQ,J,aQ,P,J])) λb k=>
 Do (Y k 9 b j) λc=>
 Do (W 1 b) λl=>
 Do (O c 6 true l) λm=>
 Do (ab .sub a1 (M 1)) λn=>
Φ 161 [m,n] c λo p=>
 Do (fo true [(G a.1 0),o]) λq=>
 Do (ab .add (G a.1 1) (M 1)) λr=>
 g ([q,r],p)) (
 N (zW Φ a1 d Q) [(G a.1 0)] a.2)
def f161(Φ:aj)(a0 a1:I)(H:Z)(Q:ad):Prop:=
 au (aK H false 6 a0) λa H2=>
 Do (ab .gtr a1 (M 1)) λc=>
 Gd c true (
 Do (W 3 a) λd=>
 Do (O H2 1 false d) λb=>
 Do (bo false b) λe=>
 aA (vM Φ a1 a b e Q) ([J,J],H2)) (
 N (vK Φ Q) [J] H2)
noncomputable def Gz:aT:=R C ⟨161,[7,9],[[5,15],[5,30]],none,[],[]⟩
def rR(Φ:aj)(c d:I)(Q:ad):a:=λe b=>
 aL (G e 0) true (
 Do (cI .not d) λf=>
 aL f false (
 Do (W 5 c) λg=>
 Do (O b 1 false g) λh=>
 Do (bo false h) λi=>
 Do (ab .eql i (M 1)) λj=>
 Q j b) (
 Q br b) (
 False)) (
 Q P b) (
 False)
def rS(Φ:aj)(b d:I)(Q:ad):a:=λe c=>
 aL (G e 0) true (
 aL d false (
 Do (W 4 b) λf=>
 Do (O c 1 false f) λg=>
 Do (ab .eql g J) λh=>
 aL h true (
 Do (W 5 b) λi=>
 Do (O c 1 false i) λj=>
 Do (bo false j) λk=>
 Do (ab .eql k J) λl=>
 N (rR Φ b d Q) [l] c) (
 N (rR Φ b d Q) [P] c) (
 False)) (
 N (rR Φ b d Q) [br] c) (
 False)) (
 N (rR Φ b d Q) [P] c) (
 False)
def vN(Φ:aj)(b d:I)(e:List I)(Q:ad):a:=λf c=>
 aL (G f 0) true (
 aL (G e 0) false (
 Do (W 2 b) λg=>
 Do (O c 1 false g) λh=>
 Do (cI .not h) λi=>
 aL i true (
 Do (W 3 b) λj=>
 Do (O c 1 false j) λk=>
 Do (bo false k) λl=>
 Do (ab .eql l J) λm=>
 N (rS Φ b d Q) [m] c) (
 N (rS Φ b d Q) [P] c) (
 False)) (
 N (rS Φ b d Q) [br] c) (
 False)) (
 N (rS Φ b d Q) [P] c) (
 False)
def zX(Φ:aj)(b d:I)(f:List I)(e:List I)(Q:ad):a:=λg c=>
 aL (G g 0) true (
 aL (G f 0) false (
 Do (W 1 b) λh=>
 Do (O c 1 false h) λi=>
 Do (ab .eql i J) λj=>
 N (vN Φ b d e Q) [j] c) (
 N (vN Φ b d e Q) [br] c) (
 False)) (
 N (vN Φ b d e Q) [P] c) (
 False)
def zY(Φ:aj)(c b:I)(d:List I)(e:List I)(Q:ad):a:=λg f=>
 aL (G g 0) false (
 N (zX Φ c b d e Q) [b] f) (
 N (zX Φ c b d e Q) [br] f) (
 False)
def zZ(Φ:aj)(b:I)(c:List I)(Q:ad):a:=λd e=>
 Do (W 0 b) λg=>
 Do (O e 1 false g) λh=>
 Do (ab .eql h (M 5)) λf=>
 aL (G c 0) false (
 N (zY Φ b f c d Q) [(G d 0)] e) (
 N (zY Φ b f c d Q) [br] e) (
 False)
def z1(Φ:aj)(b:I)(Q:ad):a:=λd c=>
 Do (W 0 b) λe=>
 Do (O c 1 false e) λf=>
 Do (ab .eql f (M 3)) λg=>
 aL g false (
 Do (W 0 b) λh=>
 Do (O c 1 false h) λi=>
 Do (ab .eql i (M 4)) λj=>
 N (zZ Φ b d Q) [j] c) (
 N (zZ Φ b d Q) [br] c) (
 False)
def f162(Φ:aj)(a0:I)(H:Z)(Q:ad):Prop:=
 au (aK H false 6 a0) λa H2=>
 Do (W 0 a) λb=>
 Do (O H2 1 false b) λc=>
 Do (ab .eql c (M 1)) λd=>
 aL d false (
 Do (W 0 a) λe=>
 Do (O H2 1 false e) λf=>
 Do (ab .eql f (M 2)) λg=>
 N (z1 Φ a Q) [g] H2) (
 N (z1 Φ a Q) [br] H2) (
 False)
noncomputable def GA:aT:=R C ⟨162,[],[],none,[],[]⟩
def z6(Φ:aj)(a0:I)(Q:ad):a:=λb H2=>
 aL (G b 0) true (
 Do (ab .sub a0 (M 1)) λc=>
 Do (ab .and a0 c) λd=>
 Do (ab .eql d J) λe=>
 Q e H2) (
 Q P H2) (
 False)
def f163(Φ:aj)(a0 a1:I)(H:Z)(Q:ad):Prop:=
 Do (ab .geq a0 (M 1)) λa=>
 aL a true (
 Do (ab .leq a0 a1) λb=>
 N (z6 Φ a0 Q) [b] H) (
 N (z6 Φ a0 Q) [P] H) (
 False)
noncomputable def GB:aT:=R C ⟨163,[],[],none,[],[]⟩
def vO(Φ:aj)(d e:I)(Q:ad):BT:=λa f=>
 Do (ab .lss (G a.1 0) e) λg=>
 Gd g true (
 Do (O a.2 6 true d) λh=>
Φ 199 [h,(G a.1 0)] a.2 λb c=>
 Do (ab .neq b J) λi=>
 Gd i true (
 Q b c) (
 Do (ab .add (G a.1 0) (M 1)) λj=>
 f ([j],c))) (
 Q J a.2)
def GC(Φ:aj)(b:I)(Q:ad):a:=λg c=>
 Do (W 3 b) λd=>
 Do (O c 1 false d) λe=>
 Do (bo false e) λf=>
 aA (vO Φ b f Q) ([J],c)
def vQ(Φ:aj)(c:I)(Q:ad):a:=λd b=>
 Gd (G d 0) true (
 Q (M 12) b) (
 N (GC Φ c Q) [] b)
def f164(Φ:aj)(a0:I)(H:Z)(Q:ad):Prop:=
 au (aK H false 6 a0) λa H2=>
 Do (W 3 a) λb=>
 Do (O H2 1 false b) λc=>
 Do (bo false c) λd=>
 Do (ab .lss d (M 1)) λe=>
 aL e false (
 Do (W 3 a) λf=>
 Do (O H2 1 false f) λg=>
 Do (bo false g) λh=>
 Do (ab .gtr h (M 32)) λi=>
 N (vQ Φ a Q) [i] H2) (
 N (vQ Φ a Q) [br] H2) (
 False)
noncomputable def GD:aT:=R C ⟨164,[],[[18]],none,[],[]⟩
def vT(Φ:aj)(a2 c:I)(Q:ad):a:=λd b=>
 Gd (G d 0) true (
 Q (M 1) b) (
 Do (W 7 c) λe=>
 Do (O b 1 false e) λf=>
 Gd f true (
 Do (W 1 c) λg=>
 Do (W 1 g) λh=>
 Do (O b 1 false h) λi=>
 Q i b) (
 Q a2 b))
def f165(Φ:aj)(a0 a1 a2:I)(H:Z)(Q:ad):Prop:=
 au (aK H false 6 a0) λc H2=>
 au (aK H2 false 9 a1) λb a=>
 Do (W 2 c) λd=>
 Do (O a 1 false d) λe=>
 aL e false (
 Do (W 7 b) λf=>
 Do (O a 1 false f) λg=>
 aL g true (
 Do (W 8 b) λh=>
 Do (O a 1 false h) λi=>
 Do (ab .eql i J) λj=>
 N (vT Φ a2 b Q) [j] a) (
 N (vT Φ a2 b Q) [P] a) (
 False)) (
 N (vT Φ a2 b Q) [br] a) (
 False)
noncomputable def GF:aT:=R C ⟨165,[],[],none,[],[]⟩
def vU(Φ:aj)(a0 c:I)(Q:ad):a:=λaa b=>
 Do (aX a0) λf=>
 Do (W 3 f) λg=>
 Do (O b 1 false g) λh=>
 Do (ab .quo h (M 8)) λe=>
 Do (aX a0) λi=>
 Do (W 3 i) λj=>
 Do (O b 1 false j) λk=>
 Do (W 8 c) λl=>
 Do (O b 1 false l) λm=>
 Do (ab .add k m) λn=>
 Do (ab .sub n (M 1)) λo=>
 Do (ab .quo o (M 8)) λp=>
 Do (aX a0) λq=>
 Do (W 2 q) λr=>
 Do (O b 1 false r) λs=>
 Do (ab .sub p e) λt=>
 Do (ab .add t (M 1)) λu=>
 Do (bm [J,J] [(0,1,e),(1,1,u)]) λv=>
 Do (aX a0) λw=>
 Do (W 3 w) λx=>
 Do (O b 1 false x) λy=>
 Do (ab .rem y (M 8)) λz=>
 Do (W 8 c) λA=>
 Do (O b 1 false A) λB=>
 Do (bm [J,J,J,P,J,J] [(0,2,v),(2,1,(M 1)),(3,1,br),(4,1,z),(5,1,B)]) λC=>
 au (dk b false 6 1 [J,J,J,P,J,J] [(0,6,C)]) λD E=>
 au (cp E false 6 48 s D) λF G=>
 Do (aX a0) λH=>
 Do (W 2 H) λK=>
 Do (Y G 1 K F) λd=>
 Do (aX a0) λL=>
 Do (W 3 L) λN=>
 Do (O d 1 false N) λR=>
 Do (W 8 c) λS=>
 Do (O d 1 false S) λT=>
 Do (ab .add R T) λU=>
 Do (aX a0) λV=>
 Do (W 3 V) λX=>
 Do (Y d 1 X U) λZ=>
 Q (.ar []) Z
def f166(Φ:aj)(a0 a1:I)(H:Z)(Q:ad):Prop:=
 au (aK H false 9 a1) λa H2=>
 Do (W 1 a) λd=>
 Do (W 1 d) λe=>
 Do (O H2 1 false e) λf=>
 Do (ab .mul (M 8) f) λb=>
 Do (W 8 a) λg=>
 Do (O H2 1 false g) λh=>
 Do (ab .eql h J) λi=>
 Gd i true (
 Do (aX a0) λj=>
 Do (W 3 j) λk=>
 Do (O H2 1 false k) λl=>
Φ 167 [l,b] H2 λm n=>
 Do (aX a0) λo=>
 Do (W 3 o) λp=>
 Do (Y n 1 p m) λc=>
 Do (aX a0) λq=>
 Do (W 2 q) λr=>
 Do (O c 1 false r) λs=>
 Do (aX a0) λt=>
 Do (W 3 t) λu=>
 Do (O c 1 false u) λv=>
 Do (ab .quo v (M 8)) λw=>
 Do (bm [J,J] [(0,1,w)]) λx=>
 Do (aX a0) λy=>
 Do (W 3 y) λz=>
 Do (O c 1 false z) λA=>
 Do (ab .rem A (M 8)) λB=>
 Do (bm [J,J,J,P,J,J] [(0,2,x),(2,1,(M 1)),(3,1,br),(4,1,B)]) λC=>
 au (dk c false 6 1 [J,J,J,P,J,J] [(0,6,C)]) λD E=>
 au (cp E false 6 48 s D) λF G=>
 Do (aX a0) λK=>
 Do (W 2 K) λL=>
 Do (Y G 1 L F) λR=>
 Q (.ar []) R) (
 Do (aX a0) λS=>
 Do (W 3 S) λT=>
 Do (O H2 1 false T) λU=>
 Do (ab .quo U b) λV=>
 Do (aX a0) λX=>
 Do (W 3 X) λaa=>
 Do (O H2 1 false aa) λac=>
 Do (W 8 a) λae=>
 Do (O H2 1 false ae) λaf=>
 Do (ab .add ac af) λag=>
 Do (ab .sub ag (M 1)) λah=>
 Do (ab .quo ah b) λai=>
 Do (ab .neq V ai) λak=>
 Gd ak true (
 Do (aX a0) λal=>
 Do (W 3 al) λam=>
 Do (O H2 1 false am) λan=>
Φ 167 [an,b] H2 λao ap=>
 Do (aX a0) λaq=>
 Do (W 3 aq) λav=>
 Do (Y ap 1 av ao) λaw=>
 N (vU Φ a0 a Q) [] aw) (
 N (vU Φ a0 a Q) [] H2))
noncomputable def GG:aT:=R C ⟨166,[],[],none,[],[]⟩
def f167(Φ:aj)(a0 a1:I)(H:Z)(Q:ad):Prop:=
 Do (ab .add a0 a1) λa=>
 Do (ab .sub a (M 1)) λb=>
 Do (ab .quo b a1) λc=>
 Do (ab .mul c a1) λd=>
 Q d H
noncomputable def GH:aT:=R C ⟨167,[],[],none,[],[]⟩
def f176(Φ:aj)(a0:I)(H:Z)(Q:ad):Prop:=
 au (aK H false 9 a0) λa H2=>
 Do (W 1 a) λb=>
 Do (O H2 6 true b) λc=>
Φ 129 [c] H2 λd e=>
 Q d e
noncomputable def GI:aT:=R C ⟨176,[],[],none,[],[]⟩
def OK(Φ:aj)(a0 a1 d:I)(Q:ad):BT:=λs2 e=>
 Do (ab .lss (G s2.1 0) d) λf=>
 Gd f true (
 Do (aO none 6 a0 (G s2.1 0)) λg=>
 Do (O s2.2 6 true g) λh=>
∃a b,a1 = .fn a b∧Φ (h_ a) (ia a [h] b) s2.2 λi c=>
 Gd i true (
 Q (G s2.1 0) c) (
 Do (ab .add (G s2.1 0) (M 1)) λj=>
 e ([j],c))) (
 Q (M (-1)) s2.2)
def f177(Φ:aj)(a0 a1:I)(H:Z)(Q:ad):Prop:=
 Do (bo false a0) λa=>
 aA (OK Φ a0 a1 a Q) ([J],H)
noncomputable def GJ:aT:=R C ⟨177,[],[[8]],none,[],[]⟩
def vV(Φ:aj)(a0 a1 a:I)(Q:ad):BT:=λs2 b=>
 Do (ab .lss (G s2.1 0) a) λc=>
 Gd c true (
 Do (aO none 1 a0 (G s2.1 0)) λd=>
 Do (O s2.2 1 false d) λe=>
 Do (ab .eql a1 e) λf=>
 Gd f true (
 Q (G s2.1 0) s2.2) (
 Do (ab .add (G s2.1 0) (M 1)) λg=>
 b ([g],s2.2))) (
 Q (M (-1)) s2.2)
def f188(Φ:aj)(a0 a1:I)(H:Z)(Q:ad):Prop:=
 Do (bo false a0) λa=>
 aA (vV Φ a0 a1 a Q) ([J],H)
noncomputable def GK:aT:=R C ⟨188,[],[[8]],none,[],[]⟩
def GL(Φ:aj)(b:I)(Q:ad):a:=λg d=>
 Do (bm [P,P,P,J,P,P] []) λe=>
 Do (Y d 6 b e) λc=>
 Do (O c 6 true b) λf=>
 Q (.ar [f,P]) c
def z7(Φ:aj)(a0 b:I)(Q:ad):a:=λk c=>
 Gd (G k 0) true (
 Do (bm [P,P,P,J,P,P] [(2,1,br),(3,1,(M 1))]) λl=>
 Do (Y c 6 b l) λd=>
 Do (O d 6 true b) λm=>
 Q (.ar [m,br]) d) (
 Do (ab .eql a0 (M 5)) λn=>
 Gd n true (
 Do (bm [P,P,P,J,P,P] [(0,1,br),(1,1,br),(2,1,br)]) λo=>
 Do (Y c 6 b o) λe=>
 Do (O e 6 true b) λp=>
 Q (.ar [p,br]) e) (
 Do (ab .eql a0 (M 6)) λq=>
 Gd q true (
 Do (bm [P,P,P,J,P,P] [(2,1,br),(3,1,(M 2))]) λr=>
 Do (Y c 6 b r) λf=>
 Do (O f 6 true b) λs=>
 Q (.ar [s,br]) f) (
 Do (ab .eql a0 (M 7)) λt=>
 Gd t true (
 Do (bm [P,P,P,J,P,P] []) λu=>
 Do (Y c 6 b u) λg=>
 Do (O g 6 true b) λv=>
 Q (.ar [v,br]) g) (
 Do (ab .eql a0 (M 8)) λw=>
 Gd w true (
 Do (bm [P,P,P,J,P,P] [(3,1,(M 1)),(4,1,br),(5,1,br)]) λx=>
 Do (Y c 6 b x) λh=>
 Do (O h 6 true b) λy=>
 Q (.ar [y,br]) h) (
 Do (ab .eql a0 (M 9)) λz=>
 Gd z true (
 Do (bm [P,P,P,J,P,P] [(3,1,(M 1)),(4,1,br)]) λA=>
 Do (Y c 6 b A) λi=>
 Do (O i 6 true b) λB=>
 Q (.ar [B,br]) i) (
 Do (ab .eql a0 (M 10)) λC=>
 Gd C true (
 Do (bm [P,P,P,J,P,P] [(3,1,(M 1))]) λD=>
 Do (Y c 6 b D) λj=>
 Do (O j 6 true b) λE=>
 Q (.ar [E,br]) j) (
 N (GL Φ b Q) [] c)))))))
def z8(Φ:aj)(a0 b:I)(Q:ad):a:=λf c=>
 Gd (G f 0) true (
 Do (bm [P,P,P,J,P,P] [(0,1,br),(3,1,(M 1))]) λg=>
 Do (Y c 6 b g) λd=>
 Do (O d 6 true b) λh=>
 Q (.ar [h,br]) d) (
 Do (ab .eql a0 (M 3)) λe=>
 Gd e true (
 N (z7 Φ a0 b Q) [e] c) (
 Do (ab .eql a0 (M 4)) λi=>
 N (z7 Φ a0 b Q) [i] c))
def f191(Φ:aj)(a0:I)(H:Z)(Q:ad):Prop:=
 au (some (aJ H true [P,P,P,J,P,P])) λa H2=>
 Do (ab .eql a0 (M 1)) λb=>
 Gd b true (
 N (z8 Φ a0 a Q) [b] H2) (
 Do (ab .eql a0 (M 2)) λc=>
 N (z8 Φ a0 a Q) [c] H2)
noncomputable def GM:aT:=R C ⟨191,[2],[],none,[],[]⟩
def f192(Φ:aj)(a0:I)(H:Z)(Q:ad):Prop:=
 au (aK H false 2 a0) λa H2=>
 Do (W 0 a) λb=>
 Do (O H2 1 false b) λc=>
 Do (ab .eql c (.str [])) λd=>
 aL d true (
 Do (W 1 a) λe=>
 Do (O H2 1 false e) λf=>
 Do (bo false f) λg=>
 Do (ab .eql g J) λh=>
 Q h H2) (
 Q P H2) (
 False)
noncomputable def GN:aT:=R C ⟨192,[],[],none,[],[]⟩
def GO(Φ:aj)(c:I)(Q:ad):a:=λj b=>
 Do (W 0 c) λd=>
 Do (O b 1 false d) λe=>
 Do (ab .eql e (M 2)) λf=>
 aL f true (
 Do (W 1 c) λg=>
 Do (O b 1 false g) λh=>
 Do (ab .leq h (M 8)) λi=>
 Q i b) (
 Q P b) (
 False)
def z_(Φ:aj)(c:I)(Q:ad):a:=λd b=>
 Gd (G d 0) true (
 Do (W 0 c) λe=>
 Do (O b 1 false e) λf=>
 Do (ab .eql f (M 2)) λg=>
 aL g true (
 Do (W 1 c) λh=>
 Do (O b 1 false h) λi=>
 Do (ab .eql i (M 16)) λj=>
 Q j b) (
 Q P b) (
 False)) (
 N (GO Φ c Q) [] b)
def Aa(Φ:aj)(a0 c:I)(Q:ad):a:=λe b=>
 Gd (G e 0) true (
 Do (W 0 c) λf=>
 Do (O b 1 false f) λg=>
 Do (ab .eql g (M 1)) λh=>
 Q h b) (
 Do (ab .eql a0 (M 5)) λd=>
 Gd d true (
 N (z_ Φ c Q) [d] b) (
 Do (ab .eql a0 (M 6)) λi=>
 N (z_ Φ c Q) [i] b))
def f193(Φ:aj)(a0 a1:I)(H:Z)(Q:ad):Prop:=
 au (aK H false 6 a1) λa H2=>
 Do (ab .eql a0 (M 3)) λb=>
 Gd b true (
 N (Aa Φ a0 a Q) [b] H2) (
 Do (ab .eql a0 (M 14)) λc=>
 N (Aa Φ a0 a Q) [c] H2)
noncomputable def GP:aT:=R C ⟨193,[],[],none,[],[]⟩
def vW(Φ:aj)(a0 a2 c:I)(Q:ad):a:=λg b=>
 Do (W 7 c) λd=>
 Do (O b 1 false d) λe=>
Φ 145 [a0,e,a2] b λh f=>
 Q (.ar []) f
def vX(Φ:aj)(a0 a2 b:I)(Q:ad):a:=λm c=>
 Do (W 0 b) λd=>
 Do (O c 1 false d) λe=>
 Do (ab .geq e (M 4)) λf=>
 Gd f true (
 Do (W 0 b) λg=>
 Do (O c 1 false g) λh=>
 Do (ab .add (M 10) h) λi=>
 Do (W 5 b) λj=>
 Do (O c 2 true j) λk=>
Φ 144 [a0,i,k,a2] c λn l=>
 N (vW Φ a0 a2 b Q) [] l) (
 N (vW Φ a0 a2 b Q) [] c)
def f194(Φ:aj)(a0 a1 a2:I)(H:Z)(Q:ad):Prop:=
 au (aK H false 8 a1) λa H2=>
 Do (ab .leq a2 (M 64)) λe=>
Φ 140 [a0,e,(M 5)] H2 λz d=>
 Do (O d 8 true a) λf=>
Φ 215 [f] d λg h=>
Φ 140 [a0,g,(M 4)] h λA c=>
 Do (W 0 a) λi=>
 Do (O c 1 false i) λj=>
 Do (ab .add (M 10) j) λk=>
 Do (W 4 a) λl=>
 Do (O c 1 false l) λm=>
Φ 142 [k,m] c λn o=>
Φ 140 [a0,n,(M 11)] o λB p=>
Φ 65 [a0] p λq b=>
 Gd q true (
 Q (.ar []) b) (
 Do (W 0 a) λr=>
 Do (O b 1 false r) λs=>
 Do (ab .eql s (M 2)) λt=>
 Gd t true (
 Do (W 2 a) λu=>
 Do (O b 1 false u) λv=>
Φ 143 [a0,v] b λw x=>
Φ 140 [a0,w,(M 6)] x λC y=>
 N (vX Φ a0 a2 a Q) [] y) (
 N (vX Φ a0 a2 a Q) [] b))
noncomputable def GQ:aT:=R C ⟨194,[],[],none,[],[]⟩
def f195(Φ:aj)(a0 a1:I)(H:Z)(Q:ad):Prop:=
 au (aK H false 7 a0) λa H2=>
 Do (W 0 a) λb=>
 Do (O H2 1 false b) λc=>
 Do (W 0 a1) λd=>
 Do (O H2 1 false d) λe=>
 Do (ab .eql c e) λf=>
 Q f H2
noncomputable def GU:aT:=R C ⟨195,[],[],none,[],[]⟩
def f196(Φ:aj)(a0 a1:I)(H:Z)(Q:ad):Prop:=
 au (aK H false 9 a0) λa H2=>
 Do (W 0 a) λb=>
 Do (O H2 1 false b) λc=>
 Do (W 0 a1) λd=>
 Do (O H2 1 false d) λe=>
 Do (ab .eql c e) λf=>
 Q f H2
noncomputable def GV:aT:=R C ⟨196,[],[],none,[],[]⟩
def GW(Φ:aj)(b:ST)(c:LT)(Q:ad):a:=λf d=>
 Do (ab .quo (G b.1 0) (M 2)) λe=>
 c ([e],d)
def vY(Φ:aj)(b:ST)(d:LT)(Q:ad):a:=λe c=>
 Gd (G e 0) true (
 N (GW Φ b d Q) [] c) (
 Q (G b.1 0) c)
def vZ(Φ:aj)(a0:I)(Q:ad):BT:=λs1 a=>
 Do (ab .gtr (G s1.1 0) (M 1)) λb=>
 aL b true (
 Do (ab .rem a0 (G s1.1 0)) λc=>
 Do (ab .neq c J) λd=>
 N (vY Φ s1 a Q) [d] s1.2) (
 N (vY Φ s1 a Q) [P] s1.2) (
 False)
def f197(Φ:aj)(a0 a1:I)(H:Z)(Q:ad):Prop:=
 aA (vZ Φ a0 Q) ([a1],H)
noncomputable def GX:aT:=R C ⟨197,[],[[1]],none,[],[]⟩
def v7(Φ:aj)(d e f:I)(Q:ad):BT:=λa g=>
 Do (ab .lss (G a.1 1) f) λh=>
 Gd h true (
 Do (aO none 2 e (G a.1 1)) λi=>
 Do (O a.2 2 true i) λj=>
 au (some (aJ a.2 true [J,J])) λc k=>
 Do (Y k 2 c j) λb=>
 Do (W 0 c) λl=>
 Do (O b 1 false l) λm=>
 Do (W 0 d) λn=>
 Do (W 0 n) λo=>
 Do (W 0 o) λp=>
 Do (O b 1 false p) λq=>
 Do (ab .sub m q) λr=>
 Do (W 1 c) λs=>
 Do (O b 1 false s) λt=>
 Do (bm [J,J] [(0,1,r),(1,1,t)]) λu=>
 au (dk b false 2 1 [J,J] [(0,2,u)]) λv w=>
 au (cp w false 2 16 (G a.1 0) v) λx y=>
 Do (ab .add (G a.1 1) (M 1)) λz=>
 g ([x,z],y)) (
 Q (G a.1 0) a.2)
def GY(Φ:aj)(b:ST)(d:LT)(Q:ad):a:=λc e=>
 Do (bm [J,J] [(0,1,(G b.1 1)),(1,1,(G c 0))]) λf=>
 au (dk e false 2 1 [J,J] [(0,2,f)]) λg h=>
 au (cp h false 2 16 (G b.1 0) g) λi j=>
 Do (ab .add (G b.1 1) (G c 0)) λk=>
 d ([i,k],j)
def Ab(Φ:aj)(c:I)(b:ST)(d:LT)(Q:ad):BT:=λa e=>
 Do (W 0 c) λf=>
 Do (W 0 f) λg=>
 Do (W 1 g) λh=>
 Do (O a.2 1 false h) λi=>
 Do (ab .sub i (G b.1 1)) λj=>
 Do (ab .gtr (G a.1 0) j) λk=>
 Gd k true (
 Do (ab .quo (G a.1 0) (M 2)) λl=>
 e ([l],a.2)) (
 N (GY Φ b d Q) [(G a.1 0)] a.2)
def v8(Φ:aj)(b:I)(Q:ad):BT:=λa c=>
 Do (W 0 b) λd=>
 Do (W 0 d) λe=>
 Do (W 1 e) λf=>
 Do (O a.2 1 false f) λg=>
 Do (ab .lss (G a.1 1) g) λh=>
 Gd h true (
 Do (W 7 b) λi=>
 Do (O a.2 1 false i) λj=>
 Do (fo false [j,(M 8)]) λk=>
Φ 197 [(G a.1 1),k] a.2 λl m=>
 aA (Ab Φ b a c Q) ([l],m)) (
 Q (G a.1 0) a.2)
def f198(Φ:aj)(a0:I)(H:Z)(Q:ad):Prop:=
 au (aK H false 8 a0) λa H2=>
 Do (W 6 a) λc=>
 Do (O H2 1 false c) λd=>
 Do (ab .eql d (M (-1))) λe=>
 Gd e true (
 Do (W 0 a) λf=>
 Do (W 0 f) λg=>
 Do (O H2 2 true g) λh=>
Φ 216 [h] H2 λb i=>
 Do (bo false b) λj=>
 aA (v7 Φ a b j Q) ([aQ,J],i)) (
 aA (v8 Φ a Q) ([aQ,J],H2))
noncomputable def GZ:aT:=R C ⟨198,[5],[[3,16],[3,6],[7]],none,[],[]⟩
def nM(Φ:aj)(Q:ad):a:=λc b=>
 Gd (G c 0) true (
 Q (M 9) b) (
 Q J b)
def pZ(Φ:aj)(c:I)(Q:ad):a:=λd b=>
 Gd (G d 0) true (
 Q (M 8) b) (
 Do (W 7 c) λe=>
 Do (O b 1 false e) λf=>
 aL f true (
 Do (W 8 c) λg=>
 Do (O b 1 false g) λh=>
 Do (ab .lss h J) λi=>
 aL i false (
 Do (W 8 c) λj=>
 Do (O b 1 false j) λk=>
 Do (W 1 c) λl=>
 Do (W 1 l) λm=>
 Do (O b 1 false m) λn=>
 Do (ab .mul (M 8) n) λo=>
 Do (ab .gtr k o) λp=>
 aL p false (
 Do (W 8 c) λq=>
 Do (O b 1 false q) λr=>
 Do (ab .eql r J) λs=>
 aL s true (
 Do (W 0 c) λt=>
 Do (O b 1 false t) λu=>
 Do (ab .neq u (.str [])) λv=>
 N (nM Φ Q) [v] b) (
 N (nM Φ Q) [P] b) (
 False)) (
 N (nM Φ Q) [br] b) (
 False)) (
 N (nM Φ Q) [br] b) (
 False)) (
 N (nM Φ Q) [P] b) (
 False))
def v_(Φ:aj)(d c:I)(Q:ad):a:=λe b=>
 aL (G e 0) false (
 Do (W 7 c) λf=>
 Do (O b 1 false f) λg=>
 aL g true (
 Do (W 1 c) λh=>
 Do (W 0 h) λi=>
 Do (O b 1 false i) λj=>
 Do (ab .neq j (M 1)) λk=>
 aL k false (
 Do (W 2 d) λl=>
 Do (O b 1 false l) λm=>
 N (pZ Φ c Q) [m] b) (
 N (pZ Φ c Q) [br] b) (
 False)) (
 N (pZ Φ c Q) [P] b) (
 False)) (
 N (pZ Φ c Q) [br] b) (
 False)
def Ac(Φ:aj)(d b:I)(Q:ad):a:=λp e=>
 Do (W 1 b) λg=>
 Do (O e 6 true g) λh=>
Φ 113 [h] e λf c=>
 Do (ab .neq f J) λi=>
 Gd i true (
 Q f c) (
 Do (W 7 b) λj=>
 Do (O c 1 false j) λk=>
 Do (cI .not k) λl=>
 aL l true (
 Do (W 8 b) λm=>
 Do (O c 1 false m) λn=>
 Do (ab .neq n J) λo=>
 N (v_ Φ d b Q) [o] c) (
 N (v_ Φ d b Q) [P] c) (
 False))
def wa(Φ:aj)(c d:I)(Q:ad):a:=λe b=>
 Gd (G e 0) true (
 Q (M 7) b) (
 N (Ac Φ c d Q) [] b)
def rT(Φ:aj)(a1 d c:I)(Q:ad):a:=λe b=>
 Gd (G e 0) true (
 Q (M 6) b) (
 Do (W 0 c) λf=>
 Do (O b 1 false f) λg=>
 Do (ab .neq g (.str [])) λh=>
 aL h true (
 Do (W 3 d) λi=>
 Do (O b 1 false i) λj=>
 Do (c9 9 j none (some a1) none) λk=>
Φ 131 [k,(.fn 217 [c])] b λl m=>
 N (wa Φ d c Q) [l] m) (
 N (wa Φ d c Q) [P] b) (
 False))
def f199(Φ:aj)(a0 a1:I)(H:Z)(Q:ad):Prop:=
 au (aK H false 6 a0) λc H2=>
 Do (W 3 c) λe=>
 Do (O H2 1 false e) λf=>
 Do (aO none 9 f a1) λg=>
 Do (O H2 9 true g) λh=>
 au (some (aJ H2 true [.str [],J,J,P,aQ,J,aQ,P,J])) λa i=>
 Do (Y i 9 a h) λd=>
 Do (W 0 a) λj=>
 Do (O d 1 false j) λk=>
Φ 95 [k] d λl b=>
 Do (cI .not l) λm=>
 aL m true (
 Do (W 0 a) λn=>
 Do (O b 1 false n) λo=>
 Do (ab .neq o (.str [])) λp=>
 aL p false (
 Do (W 7 a) λq=>
 Do (O b 1 false q) λr=>
 Do (cI .not r) λs=>
 N (rT Φ a1 c a Q) [s] b) (
 N (rT Φ a1 c a Q) [br] b) (
 False)) (
 N (rT Φ a1 c a Q) [P] b) (
 False)
noncomputable def G1:aT:=R C ⟨199,[5],[],none,[],[]⟩
def rU(Φ:aj)(c:I)(d:List I)(Q:ad):a:=λe b=>
 aL (G e 0) true (
 Do (W 7 c) λf=>
 Do (O b 1 false f) λg=>
 Do (bo false g) λh=>
 Do (ab .eql h (G d 0)) λi=>
 Q i b) (
 Q P b) (
 False)
def ll(Φ:aj)(b:I)(c:List I)(Q:ad):a:=λe d=>
 aL (G e 0) true (
 aL (G c 1) false (
 Do (W 5 b) λf=>
 Do (O d 2 true f) λg=>
Φ 192 [g] d λh i=>
 N (rU Φ b c Q) [h] i) (
 N (rU Φ b c Q) [br] d) (
 False)) (
 N (rU Φ b c Q) [P] d) (
 False)
def rV(Φ:aj)(b e:I)(d:List I)(Q:ad):a:=λf c=>
 aL (G f 0) true (
 aL e true (
 Do (W 3 b) λg=>
 Do (O c 1 false g) λh=>
 Do (ab .geq h (M 1)) λi=>
 aL i true (
 Do (W 3 b) λj=>
 Do (O c 1 false j) λk=>
 Do (ab .leq k (M 11)) λl=>
 aL l false (
 Do (cI .not e) λm=>
 aL m true (
 Do (W 3 b) λn=>
 Do (O c 1 false n) λo=>
 Do (ab .eql o J) λp=>
 N (ll Φ b d Q) [p] c) (
 N (ll Φ b d Q) [P] c) (
 False)) (
 N (ll Φ b d Q) [br] c) (
 False)) (
 Do (cI .not e) λq=>
 aL q true (
 Do (W 3 b) λr=>
 Do (O c 1 false r) λs=>
 Do (ab .eql s J) λt=>
 N (ll Φ b d Q) [t] c) (
 N (ll Φ b d Q) [P] c) (
 False)) (
 False)) (
 Do (cI .not e) λu=>
 aL u true (
 Do (W 3 b) λv=>
 Do (O c 1 false v) λw=>
 Do (ab .eql w J) λx=>
 N (ll Φ b d Q) [x] c) (
 N (ll Φ b d Q) [P] c) (
 False)) (
 False)) (
 N (ll Φ b d Q) [P] c) (
 False)
def wb(Φ:aj)(b d:I)(e:List I)(Q:ad):a:=λf c=>
 aL (G f 0) true (
 Do (W 0 b) λg=>
 Do (O c 1 false g) λh=>
 Do (ab .eql h (M 2)) λi=>
 aL i false (
 Do (W 2 b) λj=>
 Do (O c 1 false j) λk=>
 Do (ab .eql k (.str [])) λl=>
 N (rV Φ b d e Q) [l] c) (
 N (rV Φ b d e Q) [br] c) (
 False)) (
 N (rV Φ b d e Q) [P] c) (
 False)
def mM(Φ:aj)(b:I)(Q:ad):a:=λd c=>
 Do (W 0 b) λf=>
 Do (O c 1 false f) λg=>
 Do (ab .eql g (M 3)) λe=>
 Do (W 0 b) λh=>
 Do (O c 1 false h) λi=>
 Do (ab .eql i (M 1)) λj=>
 aL j false (
 Do (W 1 b) λk=>
 Do (O c 1 false k) λl=>
 Do (ab .eql l (bY 0)) λm=>
 N (wb Φ b e d Q) [m] c) (
 N (wb Φ b e d Q) [br] c) (
 False)
def Ad(Φ:aj)(c d:I)(Q:ad):a:=λe b=>
 Gd (G e 0) true (
 N (mM Φ c Q) [(M 1),br] b) (
 Do (ab .eql d (M 8)) λf=>
 Gd f true (
 N (mM Φ c Q) [(M 2),br] b) (
 Q P b))
def Ae(Φ:aj)(c b:I)(Q:ad):a:=λf d=>
 Gd (G f 0) true (
 N (mM Φ c Q) [J,br] d) (
 Do (ab .eql b (M 6)) λe=>
 Gd e true (
 N (Ad Φ c b Q) [e] d) (
 Do (ab .eql b (M 7)) λg=>
 N (Ad Φ c b Q) [g] d))
def Af(Φ:aj)(c b:I)(Q:ad):a:=λf d=>
 Gd (G f 0) true (
 N (mM Φ c Q) [J,P] d) (
 Do (ab .eql b (M 3)) λg=>
 Gd g true (
 N (mM Φ c Q) [(M 2),P] d) (
 Do (ab .eql b (M 4)) λe=>
 Gd e true (
 N (Ae Φ c b Q) [e] d) (
 Do (ab .eql b (M 5)) λh=>
 N (Ae Φ c b Q) [h] d)))
def f215(Φ:aj)(a0:I)(H:Z)(Q:ad):Prop:=
 au (aK H false 8 a0) λb H2=>
 Do (W 0 b) λd=>
 Do (O H2 1 false d) λa=>
 Do (ab .eql a (M 1)) λc=>
 Gd c true (
 N (Af Φ b a Q) [c] H2) (
 Do (ab .eql a (M 2)) λe=>
 N (Af Φ b a Q) [e] H2)
noncomputable def G2:aT:=R C ⟨215,[],[],none,[],[]⟩
def G3(Φ:aj)(b:ST)(c:LT)(Q:ad):a:=λf d=>
 Do (ab .quo (G b.1 0) (M 2)) λe=>
 c ([e],d)
def G4(Φ:aj)(b:I)(g:ST)(h:LT)(Q:ad):a:=λc d=>
 Do (W 0 b) λi=>
 Do (O d 1 false i) λj=>
 Do (bm [J,J] [(0,1,j),(1,1,(G c 0))]) λk=>
 au (dk d false 2 1 [J,J] [(0,2,k)]) λl m=>
 au (cp m false 2 16 (G g.1 0) l) λn e=>
 Do (W 0 b) λo=>
 Do (O e 1 false o) λp=>
 Do (ab .add p (G c 0)) λq=>
 Do (W 0 b) λr=>
 Do (Y e 1 r q) λf=>
 Do (W 1 b) λs=>
 Do (O f 1 false s) λt=>
 Do (ab .sub t (G c 0)) λu=>
 Do (W 1 b) λv=>
 Do (Y f 1 v u) λw=>
 h ([n],w)
def wc(Φ:aj)(d:I)(e:ST)(f:LT)(b:ST)(g:LT)(Q:ad):a:=λh c=>
 Gd (G h 0) true (
 N (G3 Φ b g Q) [] c) (
 N (G4 Φ d e f Q) [(G b.1 0)] c)
def we(Φ:aj)(b:I)(c:ST)(d:LT)(Q:ad):BT:=λa e=>
 Do (W 1 b) λf=>
 Do (O a.2 1 false f) λg=>
 Do (ab .gtr (G a.1 0) g) λh=>
 aL h false (
 Do (W 0 b) λi=>
 Do (O a.2 1 false i) λj=>
 Do (ab .rem j (G a.1 0)) λk=>
 Do (ab .neq k J) λl=>
 N (wc Φ b c d a e Q) [l] a.2) (
 N (wc Φ b c d a e Q) [br] a.2) (
 False)
def p1(Φ:aj)(b:I)(Q:ad):BT:=λa c=>
 Do (W 1 b) λd=>
 Do (O a.2 1 false d) λe=>
 Do (ab .gtr e J) λf=>
 Gd f true (
 aA (we Φ b a c Q) ([(M 8)],a.2)) (
 Q (G a.1 0) a.2)
def Ag(Φ:aj)(b:I)(Q:ad):a:=λd c=>
 aA (p1 Φ b Q) ([aQ],c)
def wg(Φ:aj)(c:I)(Q:ad):a:=λd b=>
 Gd (G d 0) true (
 Q aQ b) (
 N (Ag Φ c Q) [] b)
def p2(Φ:aj)(b:I)(Q:ad):a:=λd c=>
 aL (G d 0) false (
 Do (W 0 b) λe=>
 Do (O c 1 false e) λf=>
 Do (W 1 b) λg=>
 Do (O c 1 false g) λh=>
 Do (ab .add f h) λi=>
 Do (ab .gtr i (M 1099511627776)) λj=>
 N (wg Φ b Q) [j] c) (
 N (wg Φ b Q) [br] c) (
 False)
def f216(Φ:aj)(a0:I)(H:Z)(Q:ad):Prop:=
 au (aK H true 2 a0) λa H2=>
 Do (O H2 2 true a) λc=>
Φ 94 [c] H2 λd b=>
 Do (cI .not d) λe=>
 aL e false (
 Do (W 1 a) λf=>
 Do (O b 1 false f) λg=>
 Do (ab .gtr g (M 64)) λh=>
 N (p2 Φ a Q) [h] b) (
 N (p2 Φ a Q) [br] b) (
 False)
noncomputable def G5:aT:=R C ⟨216,[1],[[3],[4]],none,[],[]⟩
def f217(Φ:aj)(a0 a1:I)(H:Z)(Q:ad):Prop:=
 au (aK H false 9 a0) λa H2=>
 Do (W 0 a) λb=>
 Do (O H2 1 false b) λc=>
 Do (W 0 a1) λd=>
 Do (O H2 1 false d) λe=>
 Do (ab .eql c e) λf=>
 Q f H2
noncomputable def G6:aT:=R C ⟨217,[],[],none,[],[]⟩
noncomputable def bu:iO:=[
  (4,En),
  (11,Er),
  (13,Es),
  (14,Et),
  (15,Ew),
  (16,Ex),
  (17,Ey),
  (18,Ez),
  (19,EC),
  (20,EE),
  (30,EF),
  (33,EG),
  (34,EH),
  (35,EI),
  (36,EK),
  (37,EM),
  (38,EN),
  (39,EP),
  (40,OG),
  (41,ES),
  (42,ET),
  (43,EW),
  (44,EY),
  (45,EZ),
  (56,E0),
  (57,E2),
  (58,E3),
  (59,E4),
  (60,E5),
  (61,E6),
  (62,E7),
  (63,E_),
  (64,Fb),
  (65,Fc),
  (66,Fe),
  (67,Ff),
  (68,Fg),
  (69,Fi),
  (70,Fj),
  (71,Fk),
  (72,Fm),
  (85,Fo),
  (86,Fq),
  (87,Fs),
  (88,Fu),
  (90,Fv),
  (91,Fw),
  (92,Fx),
  (93,Fz),
  (94,FA),
  (95,FC),
  (96,FD),
  (97,FE),
  (98,FF),
  (99,FG),
  (100,FH),
  (101,FI),
  (102,FJ),
  (103,FL),
  (104,FM),
  (105,FN),
  (106,FO),
  (107,FP),
  (108,FQ),
  (109,FR),
  (110,FT),
  (111,FU),
  (112,FV),
  (113,FX),
  (114,FY),
  (115,F1),
  (129,F2),
  (130,F3),
  (131,F4),
  (132,F5),
  (133,F6),
  (136,F7),
  (137,F8),
  (138,F9),
  (140,F_),
  (141,Ga),
  (142,Gc),
  (143,Ge),
  (144,Gg),
  (145,Gh),
  (146,Gi),
  (147,Gj),
  (148,Gk),
  (149,Gl),
  (150,Gm),
  (151,Gn),
  (152,Gq),
  (153,Gr),
  (154,Gs),
  (155,Gt),
  (156,Gu),
  (157,Gv),
  (158,Gw),
  (159,Gx),
  (160,Gy),
  (161,Gz),
  (162,GA),
  (163,GB),
  (164,GD),
  (165,GF),
  (166,GG),
  (167,GH),
  (176,GI),
  (177,GJ),
  (188,GK),
  (191,GM),
  (192,GN),
  (193,GP),
  (194,GQ),
  (195,GU),
  (196,GV),
  (197,GX),
  (198,GZ),
  (199,G1),
  (215,G2),
  (216,G5),
  (217,G6)]
section
variable{Φ:aj}(hT:Cl Φ bu){a0 a1 a2 a3 a4 a5 a6 a7 a8 a9 cS cu:I}{H:Z}{Q:ad}
include hT
theorem OL(h:f4 Φ a0 a1 H Q):Φ 4 [a0,a1] H Q:=hT.c (f:=En) h
theorem OM(h:f11 Φ a0 H Q):Φ 11 [a0] H Q:=hT.c (f:=Er) h
theorem ON(h:f13 Φ a0 a1 H Q):Φ 13 [a0,a1] H Q:=hT.c (f:=Es) h
theorem OO(h:f14 Φ a0 a1 H Q):Φ 14 [a0,a1] H Q:=hT.c (f:=Et) h
theorem OP(h:f15 Φ a0 H Q):Φ 15 [a0] H Q:=hT.c (f:=Ew) h
theorem OQ(h:f16 Φ a0 H Q):Φ 16 [a0] H Q:=hT.c (f:=Ex) h
theorem OR(h:f17 Φ a0 a1 H Q):Φ 17 [a0,a1] H Q:=hT.c (f:=Ey) h
theorem OS(h:f18 Φ a0 H Q):Φ 18 [a0] H Q:=hT.c (f:=Ez) h
theorem OT(h:f19 Φ a0 a1 a2 H Q):Φ 19 [a0,a1,a2] H Q:=hT.c (f:=EC) h
theorem OU(h:f20 Φ a0 a1 H Q):Φ 20 [a0,a1] H Q:=hT.c (f:=EE) h
theorem OV(h:f30 Φ a0 H Q):Φ 30 [a0] H Q:=hT.c (f:=EF) h
theorem OW(h:f33 Φ a0 a1 H Q):Φ 33 [a0,a1] H Q:=hT.c (f:=EG) h
theorem OX(h:f34 Φ a0 a1 H Q):Φ 34 [a0,a1] H Q:=hT.c (f:=EH) h
theorem OY(h:f35 Φ a0 a1 H Q):Φ 35 [a0,a1] H Q:=hT.c (f:=EI) h
theorem OZ(h:f36 Φ a0 H Q):Φ 36 [a0] H Q:=hT.c (f:=EK) h
theorem O0(h:f37 Φ a0 a1 H Q):Φ 37 [a0,a1] H Q:=hT.c (f:=EM) h
theorem O1(h:f38 Φ a0 H Q):Φ 38 [a0] H Q:=hT.c (f:=EN) h
theorem O2(h:f39 Φ a0 a1 H Q):Φ 39 [a0,a1] H Q:=hT.c (f:=EP) h
theorem O3(h:f41 Φ a0 H Q):Φ 41 [a0] H Q:=hT.c (f:=ES) h
theorem O4(h:f42 Φ a0 H Q):Φ 42 [a0] H Q:=hT.c (f:=ET) h
theorem wi(h:f43 Φ a0 a1 H Q):Φ 43 [a0,a1] H Q:=hT.c (f:=EW) h
theorem O5(h:f44 Φ a0 a1 H Q):Φ 44 [a0,a1] H Q:=hT.c (f:=EY) h
theorem O6(h:f45 Φ a0 a1 H Q):Φ 45 [a0,a1] H Q:=hT.c (f:=EZ) h
theorem Ah(h:f56 Φ a0 H Q):Φ 56 [a0] H Q:=hT.c (f:=E0) h
theorem O7(h:f57 Φ a0 a1 a2 H Q):Φ 57 [a0,a1,a2] H Q:=hT.c (f:=E2) h
theorem O8(h:f58 Φ a0 H Q):Φ 58 [a0] H Q:=hT.c (f:=E3) h
theorem O9(h:f59 Φ a0 a1 H Q):Φ 59 [a0,a1] H Q:=hT.c (f:=E4) h
theorem O_(h:f60 Φ a0 H Q):Φ 60 [a0] H Q:=hT.c (f:=E5) h
theorem Pa(h:f61 Φ a0 H Q):Φ 61 [a0] H Q:=hT.c (f:=E6) h
theorem Pb(h:f62 Φ a0 a1 H Q):Φ 62 [a0,a1] H Q:=hT.c (f:=E7) h
theorem Pc(h:f63 Φ a0 H Q):Φ 63 [a0] H Q:=hT.c (f:=E_) h
theorem Pe(h:f64 Φ a0 a1 a2 H Q):Φ 64 [a0,a1,a2] H Q:=hT.c (f:=Fb) h
theorem nN(h:f65 Φ a0 H Q):Φ 65 [a0] H Q:=hT.c (f:=Fc) h
theorem Pf(h:f66 Φ a0 a1 H Q):Φ 66 [a0,a1] H Q:=hT.c (f:=Fe) h
theorem Pg(h:f67 Φ a0 a1 H Q):Φ 67 [a0,a1] H Q:=hT.c (f:=Ff) h
theorem Ph(h:f68 Φ a0 H Q):Φ 68 [a0] H Q:=hT.c (f:=Fg) h
theorem Pj(h:f69 Φ a0 a1 H Q):Φ 69 [a0,a1] H Q:=hT.c (f:=Fi) h
theorem wj(h:f70 Φ a0 a1 H Q):Φ 70 [a0,a1] H Q:=hT.c (f:=Fj) h
theorem Pk(h:f71 Φ a0 a1 H Q):Φ 71 [a0,a1] H Q:=hT.c (f:=Fk) h
theorem Pl(h:f72 Φ a0 H Q):Φ 72 [a0] H Q:=hT.c (f:=Fm) h
theorem Pm(h:f85 Φ a0 H Q):Φ 85 [a0] H Q:=hT.c (f:=Fo) h
theorem Pn(h:f86 Φ a0 H Q):Φ 86 [a0] H Q:=hT.c (f:=Fq) h
theorem Po(h:f87 Φ a0 a1 H Q):Φ 87 [a0,a1] H Q:=hT.c (f:=Fs) h
theorem Pp(h:f88 Φ a0 a1 a2 H Q):Φ 88 [a0,a1,a2] H Q:=hT.c (f:=Fu) h
theorem Pq(h:f90 Φ a0 a1 H Q):Φ 90 [a0,a1] H Q:=hT.c (f:=Fv) h
theorem Pr(h:f91 Φ a0 H Q):Φ 91 [a0] H Q:=hT.c (f:=Fw) h
theorem Ps(h:f92 Φ a0 a1 H Q):Φ 92 [a0,a1] H Q:=hT.c (f:=Fx) h
theorem G7(h:f93 Φ a0 H Q):Φ 93 [a0] H Q:=hT.c (f:=Fz) h
theorem G8(h:f94 Φ a0 H Q):Φ 94 [a0] H Q:=hT.c (f:=FA) h
theorem Pt(h:f95 Φ a0 H Q):Φ 95 [a0] H Q:=hT.c (f:=FC) h
theorem Pu(h:f96 Φ a0 H Q):Φ 96 [a0] H Q:=hT.c (f:=FD) h
theorem Pv(h:f97 Φ a0 a1 H Q):Φ 97 [a0,a1] H Q:=hT.c (f:=FE) h
theorem Pw(h:f98 Φ a0 a1 H Q):Φ 98 [a0,a1] H Q:=hT.c (f:=FF) h
theorem Px(h:f99 Φ a0 a1 a2 H Q):Φ 99 [a0,a1,a2] H Q:=hT.c (f:=FG) h
theorem Py(h:f100 Φ a0 a1 H Q):Φ 100 [a0,a1] H Q:=hT.c (f:=FH) h
theorem Pz(h:f101 Φ a0 H Q):Φ 101 [a0] H Q:=hT.c (f:=FI) h
theorem PA(h:f102 Φ a0 a1 a2 H Q):Φ 102 [a0,a1,a2] H Q:=hT.c (f:=FJ) h
theorem PB(h:f103 Φ a0 a1 H Q):Φ 103 [a0,a1] H Q:=hT.c (f:=FL) h
theorem PC(h:f104 Φ a0 a1 a2 H Q):Φ 104 [a0,a1,a2] H Q:=hT.c (f:=FM) h
theorem PD(h:f105 Φ a0 a1 H Q):Φ 105 [a0,a1] H Q:=hT.c (f:=FN) h
theorem PE(h:f106 Φ a0 a1 H Q):Φ 106 [a0,a1] H Q:=hT.c (f:=FO) h
theorem PF(h:f107 Φ a0 H Q):Φ 107 [a0] H Q:=hT.c (f:=FP) h
theorem PG(h:f108 Φ a0 a1 a2 a3 H Q):Φ 108 [a0,a1,a2,a3] H Q:=hT.c (f:=FQ) h
theorem PH(h:f109 Φ a0 a1 H Q):Φ 109 [a0,a1] H Q:=hT.c (f:=FR) h
theorem PI(h:f110 Φ a0 a1 H Q):Φ 110 [a0,a1] H Q:=hT.c (f:=FT) h
theorem PJ(h:f111 Φ a0 a1 H Q):Φ 111 [a0,a1] H Q:=hT.c (f:=FU) h
theorem PK(h:f112 Φ a0 H Q):Φ 112 [a0] H Q:=hT.c (f:=FV) h
theorem PM(h:f113 Φ a0 H Q):Φ 113 [a0] H Q:=hT.c (f:=FX) h
theorem PN(h:f114 Φ a0 a1 H Q):Φ 114 [a0,a1] H Q:=hT.c (f:=FY) h
theorem Ai(h:f115 Φ a0 H Q):Φ 115 [a0] H Q:=hT.c (f:=F1) h
theorem PO(h:f129 Φ a0 H Q):Φ 129 [a0] H Q:=hT.c (f:=F2) h
theorem PQ(h:f130 Φ a0 a1 H Q):Φ 130 [a0,a1] H Q:=hT.c (f:=F3) h
theorem PR(h:f131 Φ a0 a1 H Q):Φ 131 [a0,a1] H Q:=hT.c (f:=F4) h
theorem PS(h:f132 Φ a0 H Q):Φ 132 [a0] H Q:=hT.c (f:=F5) h
theorem PT(h:f133 Φ a0 a1 H Q):Φ 133 [a0,a1] H Q:=hT.c (f:=F6) h
theorem PU(h:f136 Φ a0 H Q):Φ 136 [a0] H Q:=hT.c (f:=F7) h
theorem G9(h:f137 Φ a0 H Q):Φ 137 [a0] H Q:=hT.c (f:=F8) h
theorem PV(h:f138 Φ a0 a1 H Q):Φ 138 [a0,a1] H Q:=hT.c (f:=F9) h
theorem PW(h:f140 Φ a0 a1 a2 H Q):Φ 140 [a0,a1,a2] H Q:=hT.c (f:=F_) h
theorem PX(h:f141 Φ a0 H Q):Φ 141 [a0] H Q:=hT.c (f:=Ga) h
theorem PY(h:f142 Φ a0 a1 H Q):Φ 142 [a0,a1] H Q:=hT.c (f:=Gc) h
theorem PZ(h:f143 Φ a0 a1 H Q):Φ 143 [a0,a1] H Q:=hT.c (f:=Ge) h
theorem P0(h:f144 Φ a0 a1 a2 a3 H Q):Φ 144 [a0,a1,a2,a3] H Q:=hT.c (f:=Gg) h
theorem P1(h:f145 Φ a0 a1 a2 H Q):Φ 145 [a0,a1,a2] H Q:=hT.c (f:=Gh) h
theorem P3(h:f146 Φ a0 a1 H Q):Φ 146 [a0,a1] H Q:=hT.c (f:=Gi) h
theorem P4(h:f147 Φ a0 a1 a2 a3 H Q):Φ 147 [a0,a1,a2,a3] H Q:=hT.c (f:=Gj) h
theorem P5(h:f148 Φ a0 a1 H Q):Φ 148 [a0,a1] H Q:=hT.c (f:=Gk) h
theorem P6(h:f149 Φ a0 a1 H Q):Φ 149 [a0,a1] H Q:=hT.c (f:=Gl) h
theorem P7(h:f150 Φ a0 a1 H Q):Φ 150 [a0,a1] H Q:=hT.c (f:=Gm) h
theorem P9(h:f151 Φ a0 a1 H Q):Φ 151 [a0,a1] H Q:=hT.c (f:=Gn) h
theorem P_(h:f152 Φ a0 a1 H Q):Φ 152 [a0,a1] H Q:=hT.c (f:=Gq) h
theorem Qa(h:f153 Φ a0 a1 H Q):Φ 153 [a0,a1] H Q:=hT.c (f:=Gr) h
theorem Qb(h:f154 Φ a0 a1 a2 a3 H Q):Φ 154 [a0,a1,a2,a3] H Q:=hT.c (f:=Gs) h
theorem Qc(h:f155 Φ a0 a1 a2 a3 H Q):Φ 155 [a0,a1,a2,a3] H Q:=hT.c (f:=Gt) h
theorem Qd(h:f156 Φ a0 H Q):Φ 156 [a0] H Q:=hT.c (f:=Gu) h
theorem Qe(h:f157 Φ a0 a1 a2 a3 a4 H Q):Φ 157 [a0,a1,a2,a3,a4] H Q:=hT.c (f:=Gv) h
theorem Qf(h:f158 Φ a0 H Q):Φ 158 [a0] H Q:=hT.c (f:=Gw) h
theorem Qg(h:f159 Φ a0 a1 a2 H Q):Φ 159 [a0,a1,a2] H Q:=hT.c (f:=Gx) h
theorem Qh(h:f160 Φ a0 a1 H Q):Φ 160 [a0,a1] H Q:=hT.c (f:=Gy) h
theorem Qi(h:f161 Φ a0 a1 H Q):Φ 161 [a0,a1] H Q:=hT.c (f:=Gz) h
theorem Qj(h:f162 Φ a0 H Q):Φ 162 [a0] H Q:=hT.c (f:=GA) h
theorem G_(h:f163 Φ a0 a1 H Q):Φ 163 [a0,a1] H Q:=hT.c (f:=GB) h
theorem Qk(h:f164 Φ a0 H Q):Φ 164 [a0] H Q:=hT.c (f:=GD) h
theorem Ql(h:f165 Φ a0 a1 a2 H Q):Φ 165 [a0,a1,a2] H Q:=hT.c (f:=GF) h
theorem Qm(h:f166 Φ a0 a1 H Q):Φ 166 [a0,a1] H Q:=hT.c (f:=GG) h
theorem p3(h:f167 Φ a0 a1 H Q):Φ 167 [a0,a1] H Q:=hT.c (f:=GH) h
theorem Qn(h:f176 Φ a0 H Q):Φ 176 [a0] H Q:=hT.c (f:=GI) h
theorem Qo(h:f177 Φ a0 a1 H Q):Φ 177 [a0,a1] H Q:=hT.c (f:=GJ) h
theorem Qp(h:f188 Φ a0 a1 H Q):Φ 188 [a0,a1] H Q:=hT.c (f:=GK) h
theorem Qq(h:f191 Φ a0 H Q):Φ 191 [a0] H Q:=hT.c (f:=GM) h
theorem Ha(h:f192 Φ a0 H Q):Φ 192 [a0] H Q:=hT.c (f:=GN) h
theorem Qr(h:f193 Φ a0 a1 H Q):Φ 193 [a0,a1] H Q:=hT.c (f:=GP) h
theorem Qs(h:f194 Φ a0 a1 a2 H Q):Φ 194 [a0,a1,a2] H Q:=hT.c (f:=GQ) h
theorem Qt(h:f195 Φ a0 a1 H Q):Φ 195 [a0,a1] H Q:=hT.c (f:=GU) h
theorem Qu(h:f196 Φ a0 a1 H Q):Φ 196 [a0,a1] H Q:=hT.c (f:=GV) h
theorem Qv(h:f197 Φ a0 a1 H Q):Φ 197 [a0,a1] H Q:=hT.c (f:=GX) h
theorem Qw(h:f198 Φ a0 H Q):Φ 198 [a0] H Q:=hT.c (f:=GZ) h
theorem Qx(h:f199 Φ a0 a1 H Q):Φ 199 [a0,a1] H Q:=hT.c (f:=G1) h
theorem Qy(h:f215 Φ a0 H Q):Φ 215 [a0] H Q:=hT.c (f:=G2) h
theorem Qz(h:f216 Φ a0 H Q):Φ 216 [a0] H Q:=hT.c (f:=G5) h
theorem QA(h:f217 Φ a0 a1 H Q):Φ 217 [a0,a1] H Q:=hT.c (f:=G6) h
end
end Rb.S

namespace Go.Proofs.YteakojhgmhmdkaaGreatDoor.rb
open Rb
theorem nO:Cl (ai C) S.bu:=Cl.of (tr C) (MQ (pt _ _) (by kernel_rfl))
end Go.Proofs.YteakojhgmhmdkaaGreatDoor.rb

namespace Rb
open Go Go.RowKit
variable{F:cx}{W w:World}{G:aG}{g:Nat}{c d:I}{V U:Value}
def kx(W:World):Nat→Nat→Prop:=λb o=>∃V,W.cell? ⟨b,o,none⟩=some V
theorem QB{C:Ctx}{key:Nat}{f:FuncId}{args:List I}{Vs:Array Value}(hf:C.F key=some f)(h:ai C key args Z.mt (λv _=>v = .bool true))(hG:cq C W (aG.mt (kx W)) Z.mt)
  (a:aH C.F W (aG.mt (kx W)) args Vs):Calls C.P f Vs W λe W'=>e = .returned (.bool true)∧Below W.heap.size W W':=by
 refine Calls.mono (h.2 f hf _ W Vs hG (Rel.mt λ_ _ h=>h) a) λe w' he=>?_;obtain⟨V,v,H',G',rfl,rfl,hv,_,b⟩:=he;obtain rfl:=hv.iK;exact⟨rfl,b.below⟩
theorem Aj{k:IntKind}{a:List Int}(h:∀i,i<a.length→W.cell? ⟨g,i,none⟩=some (.int k (a.getD i 0))):VR F W (aG.mt (kx W)) (.af (a.map (.int k))) (.pointer (some ⟨g,0,none⟩)):=by
 refine .af _ g 0 (λj=> .int k (a.getD j 0)) (λj c b=>?_) λj c b=>?_
 · have hl:j<a.length:=by simpa using(X1.1 b).1
   rw[YO];exact⟨⟨_,h j hl⟩,h j hl⟩
 · have hl:j<a.length:=by simpa using(X1.1 b).1
   have:c = .int k (a.getD j 0):=by rw[YT,YU hl]at b;simp only[Yi,Yh.injEq]at b;rw[←b,List.getD_eq_getElem?_getD,YU hl];rfl
   rw[this];exact .int _ _
theorem aH.two(h:VR F w G c V)(b:VR F w G d U):aH F w G [c,d] #[V,U]:=⟨rfl,λj c' e hc a=>by
  rcases j with _|_|j
  ·simp at hc a;subst hc;subst a;exact h
  ·simp at hc a;subst hc;subst a;exact b
  ·simp at hc⟩
theorem aH.three{c d e:I}{V U X:Value}(h:VR F w G c V)(b:VR F w G d U)(f:VR F w G e X):aH F w G [c,d,e] #[V,U,X]:=⟨rfl,λj c' g hc a=>by
  rcases j with _|_|_|j
  ·simp at hc a;subst hc;subst a;exact h
  ·simp at hc a;subst hc;subst a;exact b
  ·simp at hc a;subst hc;subst a;exact f
  ·simp at hc⟩
theorem QC(b:ByteArray):VR F w G (.str b.data.toList) (.string b):=by
 have h:(⟨b.data.toList.toArray⟩:ByteArray)=b:=by cases b;simp
 have:=VR.str (F:=F) (w:=w) (G:=G) b.data.toList;rwa [h]at this
theorem QD:Dg=(Go.Lib.asciiSpaceTab.map (I.int .u8)):=by kernel_rfl
theorem Ak{P:Program}{a:String}{cs:Array Value}(b:P.globalNamed a=some g)(h:W.var? P a=some cs):∃cs' t fr,W.heap[g]?=some (.cells cs' t fr)∧cs'.size=cs.size:=by
 unfold World.var? at h;rw[b]at h;simp only[Option.bind_some]at h;split at h
 · rename_i cs' t fr heq;cases h;exact⟨_,_,_,heq,rfl⟩
 ·cases h
end Rb

namespace Rb
open Go Go.RowKit
variable{t:TypeId}{n m sz:Nat}{α β:Type}{v:Value}{ps:List MemPlace}
mutual
def jD:I→Nat
 | .str s=>s.length+1
 | .aq _ _ cs=>dd cs+1
 |_=>1
def dd:List I→Nat
 |[]=>0
 |x::r=>jD x+dd r
end
theorem l_:∀a b:List I,dd (a++b)=dd a+dd b
 |[],b=>by simp[dd]
 |x::r,b=>by simp only[ZY,dd,l_ r b,Ym]
mutual
def dB{H:Type}:DataW H→Nat
 | .lit (.string bytes)=>bytes.length+1
 | .lit _=>1
 | .nil=>1
 | .ptr d=>dB d+1
 | .slice elems spare=>lq elems+lq spare+1
 | .agg parts=>lq parts+1
 | .iface _ d=>dB d+1
 | .map entries=>wm entries+1
 | .held _=>1
def lq{H:Type}:List (DataW H)→Nat
 |[]=>0
 |d::r=>dB d+lq r
def wm{H:Type}:List (Lit×DataW H)→Nat
 |[]=>0
 |x::r=>Hb x+wm r
def Hb{H:Type}:Lit×DataW H→Nat
 |(.string bytes,d)=>bytes.length+dB d+1
 |(_,d)=>dB d+1
end
theorem Hc{H:Type}{α:Type}{cells:α→List I}:∀(xs:List α)(ds:List (DataW H)),xs.length=ds.length→(∀(i:Nat)(x:α)(d:DataW H),xs[i]?=some x→ds[i]?=some d→dd (cells x)≤dB d)→dd (xs.flatMap cells)≤lq ds
 |[],ds,_,_=>by simp[dd]
 |x::r,[],h,_=>by simp at h
 | x::r,d::ds,h,k=>by have b:=k 0 x d rfl rfl;have h1:=Hc r ds (by simpa using h) λi y e a he=>k (i+1) y e (by simpa using a) (by simpa using he);rw[abk,l_,lq];omega
section
variable{H:Type}{enc:TypeId×Value→H}{P:Program}{w:World}{sp:Nat→Bool}{held:Bool}{F:cx}
def Q(F:cx)(enc:TypeId×Value→H)(P:Program)(w:World)(sp:Nat→Bool)(held:Bool)(n:Nat)(t:TypeId){α:Type}(cells:α→List I)(a:α→Prop):Prop:=∀fuel,fuel≤n→∀cs d ps,abl enc P w 0 sp held fuel t cs=some (d,ps)→(∀m∈d.weights P t,m≤reachBytes)→∃x,a x∧aH F w (aG.mt (kx w)) (cells x) cs.toArray∧dd (cells x)≤dB d
theorem Q.mono{cells:α→List I}{ok:α→Prop}(h:Q F enc P w sp held n t cells ok)(a:m≤n):Q F enc P w sp held m t cells ok:=λfuel hf cs d ps ht hw=>h fuel (xl hf a) cs d ps ht hw
theorem Q.zero{cells:α→List I}{ok:α→Prop}:Q F enc P w sp held 0 t cells ok:=by
 intro fuel hf cs d ps h _;obtain rfl:fuel=0:=by omega
 simp[abl]at h
theorem Q.int{k:IntKind}(ht:P.underlying t=some (.int k)):Q F enc P w sp held n t (λz:Int=>[.int k z]) (λz=>k.min≤z∧z≤k.max):=by intro fuel _ cs d ps h _;obtain⟨z,rfl,a,hw⟩:=DataW.trod_int ht h;obtain rfl:d=_:=congrArg abm a;exact⟨z,by simpa[Lit.wf]using hw,aH.one (.int _ _),by simp[dd,jD,dB]⟩
theorem Q.bool(ht:P.underlying t=some .bool):Q F enc P w sp held n t (λz:Bool=>[.bool z]) (λ_=>True):=by intro fuel _ cs d ps h _;obtain⟨z,rfl,a⟩:=DataW.trod_bool ht h;obtain rfl:d=_:=congrArg abm a;exact⟨z,trivial,aH.one (.bool _),by simp[dd,jD,dB]⟩
theorem Q.string(ht:P.underlying t=some .string):Q F enc P w sp held n t (λz:List UInt8=>[.str z]) (λz=>z.length≤140737488351232):=by intro fuel _ cs d ps h hw;obtain⟨s,rfl,a,hl⟩:=DataW.trod_string ht h;obtain rfl:d=_:=congrArg abm a;exact⟨s.data.toList,hw _ (by simp[abn]),aH.one (QC s),by simp[dd,jD,dB]⟩
theorem Hd{H:Type}{P:Program}{e:TypeId}:∀{ds:List (DataW H)}{j:Nat}{d:DataW H},ds[j]?=some d→∀n∈d.weights P e,n∈abo P e ds
 | d0::ds,0,d,a,n,hn=>by simp only[abp,Yh.injEq]at a;subst a;simp only[abo,aag];exact .inl hn
 | d0::ds,j+1,d,a,n,hn=>by simp only[abq]at a;simp only[abo,aag];exact .inr (Hd a n hn)
def av{α:Type}(cells:α→List I)(xs:List α):I:= .aq .dead xs.length (xs.flatMap cells)
theorem QE{p:Nat→α→Prop}:∀(n:Nat),(∀i,i<n→∃x,p i x)→∃xs:List α,xs.length=n∧∀i x,xs[i]?=some x→p i x:=by
 intro n;induction n with
 |zero=>intro _;exact⟨[],rfl,λi x h=>by simp at h⟩
 | succ n a=>
  intro h;obtain⟨xs,hl,b⟩:=a λi hi=>h i (by omega);obtain⟨y,c⟩:=h n (by omega);refine⟨xs++[y],by simp[hl],λi x hi=>?_⟩;by_cases d:i<n
  · rw[ZE (by omega)]at hi;exact b i x hi
  · rw [ZF (by omega)]at hi;have:i-xs.length=0:=by
     rcases abr (i-xs.length)with h|h
     ·exact h
     ·rw[List.getElem?_eq_none (by simp;omega)]at hi;cases hi
    rw[this]at hi;simp at hi;subst hi;have:i=n:=by omega
    rw[this];exact c
theorem QF{cells:α→List I}(hc:∀x,(cells x).length=sz):∀(xs:List α)(j:Nat)(c:I),(xs.flatMap cells)[j]?=some c→∃i k x,j=i*sz+k∧k<sz∧xs[i]?=some x∧(cells x)[k]?=some c:=by
 intro xs;induction xs with
 |nil=>intro j c h;simp at h
 | cons y g b=>
  intro j c h;rw[abk]at h;by_cases a:j<sz
  · rw[ZE (by rw[hc];exact a)]at h;exact⟨0,j,y,by omega,a,rfl,h⟩
  · rw[ZF (by rw[hc];omega),hc]at h;obtain⟨i,k,x,h1,d,e,f⟩:=b _ _ h;refine⟨i+1,k,x,?_,d,by simpa using e,f⟩;rw[YA];omega
theorem He{b o m:Nat}:(Addr.mk b o none).add m=⟨b,o+m,none⟩:=by
 unfold abt;split
 ·rename_i h;subst h;rfl
 ·rfl
theorem Q.slice{t e:TypeId}{cells:α→List I}{u:α→Prop}(ht:P.underlying t=some (.slice e))(hs:P.cellsOf e=sz)(hz:0<sz)(hc:∀x,(cells x).length=sz)(h:Q F enc P w sp held n e cells u) :
  Q F enc P w sp held (n+1) t (λxs:List α=>[av cells xs]) (λxs=>xs.length≤maxLen∧∀x∈xs,u x):=by
 intro fuel hf cs d ps C D;rcases DataW.trod_slice ht C with⟨rfl,s⟩|⟨a,len,cap,elems,rest,m,rfl,rfl,s,_,hle,L,M,E,_⟩
 · obtain rfl:d=_:=congrArg abm s;exact⟨[],⟨Yz _,by simp⟩,aH.one (.e5 _ _),by simp[av,dd,jD,dB]⟩
 · have each : ∀i,i<len→∃x,(u x∧∀l,(elems.map (·.1))[i]?=some l→dd (cells x)≤dB l)∧∃ci,w.cells? 0 (a.add (i*sz)) sz=some ci∧aH F w (aG.mt (kx w)) (cells x) ci.toArray:=by
     intro i hi;have h1:=E i hi;rw[YU (by omega),hs]at h1;obtain⟨ci,g,v⟩:=Option.bind_eq_some_iff.1 h1;obtain ⟨x,p,hv,hb⟩:=h m (by omega) ci _ _ v (λq G=>D q (by obtain rfl:d=_:=congrArg abm s;simp only[abn,ht];refine List.mem_cons_of_mem _ (List.mem_append_left _ ?_);exact Hd (j:=i) (by rw[YT,YU (by omega)];rfl) q G))
     exact ⟨x,⟨p,λl y=>by rw[YT,YU (by omega)]at y;simp only[Yi,Yh.injEq]at y;rw[←y];exact hb⟩,ci,g,hv⟩
   obtain⟨xs,hl,p⟩:=QE len each;have hB:dd [av cells xs]≤dB d:=by obtain rfl:d=_:=congrArg abm s;have:=Hc xs (elems.map (·.1)) (by simp;omega) λi x l h1 g=>(p i x h1).1.2 l g;simp only[av,dd,jD,dB];omega
   refine⟨xs,⟨by omega,λx H=>?_⟩,aH.one ?_,hB⟩
   · obtain⟨i,hi,e⟩:=List.mem_iff_getElem.1 H;exact(p i x (by rw[YU hi,e])).1.1
   · rcases abr len with z|z
     · subst z;obtain rfl:=Zo.1 hl;exact .e5 _ _
     ·
       have B:a.spot=none:=by
        obtain⟨x,_,ci,g,_⟩:=each 0 z;obtain⟨_,v,A⟩:=abu g;have f:=A 0 hz;rw[YU (by omega),abv]at f;have e0:(a.add 0).add 0=a:=by simp[abt]
        rw[e0]at f;unfold abw at f;split at f
        · split at f
          ·cases f
          · rename_i hn;cases ha:a.spot with
            |none=>rfl
            |some _=>rw[ha]at hn;simp at hn
        ·cases f
       obtain⟨b,o,N⟩:=a;simp only at B;subst B;have key:∀(j:Nat)(c:I),(xs.flatMap cells)[j]?=some c→∃V,w.cell? ⟨b,o+j,none⟩=some V∧VR F w (aG.mt (kx w)) c V:=by intro j c r;obtain⟨i,k,x,rfl,hk,J,K⟩:=QF hc xs j c r;obtain⟨_,ci,g,hv⟩:=p i x J;obtain⟨_,v,A⟩:=abu g;have f:=A k hk;rw[He,He,YU (by omega)]at f;refine⟨ci[k],by rw[←Ym];exact f,hv.2 k c _ K (by simp[YU (show k<ci.length by omega)])⟩
       unfold av;rw[hl];refine .aq .dead len _ b o cap (λj=>(w.cell? ⟨b,o+j,none⟩).getD undef) trivial hle (λj c r=>?_) λj c r=>?_
       · obtain⟨V,h1,_⟩:=key j c r;exact⟨⟨V,h1⟩,by rw[h1];rfl⟩
       · obtain⟨V,h1,g⟩:=key j c r;rw[h1];exact g
def jh(P:Program):Nat→List (TypeId×Nat)→Bool
 |_,[]=>true
 |off,(t,o)::r=>o==off&&jh P (off+P.cellsOf t) r
def hU(P:Program):List (TypeId×Nat)→Nat
 |[]=>0
 |(t,_)::r=>P.cellsOf t+hU P r
def cb(F:cx)(enc:TypeId×Value→H)(P:Program)(w:World)(sp:Nat→Bool)(held:Bool)(n:Nat)(L:List (TypeId×Nat)){α:Type}(cells:α→List I)(a:α→Prop):Prop:=
 ∀ m,m≤n→∀(off:Nat)(cs:List Value)(ds:List (DataW H)),jh P off L=true→ds.length=L.length→(∀(i:Nat)(f:TypeId×Nat)(d:DataW H),L[i]?=some f→ds[i]?=some d→(∃ps,abl enc P w 0 sp held m f.1 ((cs.drop f.2).take (P.cellsOf f.1))=some (d,ps))∧∀q∈d.weights P f.1,q≤reachBytes) →
  ∃x,a x∧aH F w (aG.mt (kx w)) (cells x) ((cs.drop off).take (hU P L)).toArray∧dd (cells x)≤lq ds
theorem cb.nil:cb F enc P w sp held n [] (λ_:Unit=>[]) (λ_=>True):=by intro m _ off cs ds _ _ _;exact⟨(),trivial,by simp only[hU,List.take_zero];exact aH.nil,Yz _⟩
theorem cb.cons{o:Nat}{L:List (TypeId×Nat)}{b:α→List I}{c:β→List I}{o1:α→Prop}{o2:β→Prop}(g:Q F enc P w sp held n t b o1)(h:cb F enc P w sp held n L c o2) :
  cb F enc P w sp held n ((t,o)::L) (λx:α×β=>b x.1++c x.2) (λx=>o1 x.1∧o2 x.2):=by
 intro m hm off cs ds a hlen hf;simp only[jh,X7,bG]at a;obtain⟨rfl,a⟩:=a
 match ds,hlen with
 |d::r,hlen=>
 obtain⟨⟨ps,j⟩,k⟩:=hf 0 (t,o) d rfl rfl;obtain⟨x,l,hv,hb⟩:=g m hm _ _ _ j k;obtain⟨y,p,q,s⟩:=h m hm _ cs r a (by simpa using hlen) λi f e hi he=>hf (i+1) f e (by simpa using hi) (by simpa using he);refine⟨(x,y),⟨l,p⟩,?_,by simp only[l_,lq];omega⟩;have e:((cs.drop o).take (hU P ((t,o)::L)))=(cs.drop o).take (P.cellsOf t)++(cs.drop (o+P.cellsOf t)).take (hU P L):=by simp only[hU];rw[List.take_add,abx]
 rw[e];have:=hv.app q;simpa using this
theorem Q.struct{n:Nat}{fs:Array Field}(ht:P.underlying t=some (.struct fs)){L:List (TypeId×Nat)}(a:fs.toList.map (λf=>(f.type,f.offset))=L)(k:jh P 0 L=true)(l:P.cellsOf t=hU P L)
  {α:Type} {cells:α→List I} {ok:α→Prop} (h:cb F enc P w sp held n L cells ok):Q F enc P w sp held (n+1) t cells ok:=by
 intro fuel hf cs d ps o p;obtain⟨xs,m,rfl,b,hlen,r,s⟩:=DataW.trod_struct ht o;obtain ⟨x,u,hv,hb⟩:=h m (by omega) 0 cs (xs.map (·.1)) k (by rw[←a];simp[r]) λi f y hf c=>by rw[←a,YT]at hf;obtain⟨g,e,rfl⟩:=aby.1 hf;rw[YT]at c;obtain⟨z,hz,rfl⟩:=aby.1 c;have h1:=s i g (by rw[←Array.getElem?_toList];exact e);rw[hz]at h1;refine⟨⟨z.2,h1⟩,λq v=>p q ?_⟩;obtain rfl:d=_:=congrArg abm b;simp only[abn,ht];exact DataW.weights_mem_each (j:=i) (t:=g.type) (by rw[YT,e];rfl) (by rw[YT,hz];rfl) q v
 obtain rfl:d=_:=congrArg abm b;refine⟨x,u,?_,by simp only[dB];omega⟩;rw[abz,←l,←hlen,abA]at hv;exact hv
theorem Q.map{a:α→List I}{b:β→List I}{o1:α→Prop}{o2:β→Prop}(g:α→β)(hc:∀x,b (g x)=a x)(c:∀x,o1 x→o2 (g x))(h:Q F enc P w sp held n t a o1):Q F enc P w sp held n t b o2:=by intro fuel hf cs d ps e hw;obtain⟨x,f,hv,hb⟩:=h fuel hf cs d ps e hw;exact⟨g x,c x f,by rw[hc];exact hv,by rw[hc];exact hb⟩
theorem Q.Hf{cells:α→List I}{a:α→Prop}(h:∀n,Q F enc P w sp held n t cells a){d:DataW H}(b:abB enc P w 0 sp held t v d ps)(c:∀m∈d.weights P t,m≤reachBytes):∃x,a x∧aH F w (aG.mt (kx w)) (cells x) v.cells∧dd (cells x)≤dB d:=by obtain⟨fuel,hf⟩:=b;obtain⟨x,e,hv,hb⟩:=h fuel fuel (sl _) _ _ _ hf c;exact⟨x,e,by simpa using hv,hb⟩
theorem Q.arg{cells:α→List I}{a:α→Prop}(h:∀n,Q F enc P w sp held n t cells a){d:DataW H}(b:abB enc P w 0 sp held t v d ps)(c:∀m∈d.weights P t,m≤reachBytes):∃x,a x∧aH F w (aG.mt (kx w)) (cells x) v.cells:=let ⟨x,e,hv,_⟩:=Q.Hf h b c;⟨x,e,hv⟩
end
end Rb

namespace Rb
open Go
mutual
structure T where
 kind:Int
 size:Int
 packed:Bool
 aD:List ay
 bg:Int
 aU:List T
structure ay where
 E:List UInt8
 type:T
 bits:Bool
 aN:Int
end
mutual
def T.cells:T→List I
 | .mk kind size packed aD bg aU=>[.int .i64 kind,.int .i64 size,.bool packed,.aq .dead aD.length (ay.all aD),.int .i64 bg,.aq .dead aU.length (T.all aU)]
def T.all:List T→List I
 |[]=>[]
 |x::r=>T.cells x++T.all r
def ay.cells:ay→List I
 | .mk E type bits aN=> .str E::(T.cells type++[.bool bits,.int .i64 aN])
def ay.all:List ay→List I
 |[]=>[]
 |x::r=>ay.cells x++ay.all r
end
theorem T.all_eq:∀xs:List T,T.all xs=xs.flatMap T.cells
 |[]=>rfl
 |x::r=>by rw[T.all,T.all_eq r,abk]
theorem ay.all_eq:∀xs:List ay,ay.all xs=xs.flatMap ay.cells
 |[]=>rfl
 |x::r=>by rw[ay.all,ay.all_eq r,abk]
theorem T.bF(x:T):x.cells=[.int .i64 x.kind,.int .i64 x.size,.bool x.packed,av ay.cells x.aD,.int .i64 x.bg,av T.cells x.aU]:=by cases x;simp only[T.cells,T.all_eq,ay.all_eq,av]
theorem ay.bF(x:ay):x.cells = .str x.E::(x.type.cells++[.bool x.bits,.int .i64 x.aN]):=by cases x;rfl
theorem T.len(x:T):x.cells.length=6:=by rw[T.bF];rfl
theorem ay.len(x:ay):x.cells.length=9:=by rw[ay.bF];simp[T.len]
def jE(z:Int):Prop:= -9223372036854775808≤z∧z≤9223372036854775807
mutual
def T.ok:T→Prop
 | .mk kind size packed aD bg aU=>jE kind∧jE size∧aD.length≤maxLen∧ay.de aD∧jE bg∧aU.length≤maxLen∧T.de aU
def T.de:List T→Prop
 |[]=>True
 |x::r=>T.ok x∧T.de r
def ay.ok:ay→Prop
 | .mk E type bits aN=>E.length≤140737488351232∧T.ok type∧jE aN
def ay.de:List ay→Prop
 |[]=>True
 |x::r=>ay.ok x∧ay.de r
end
theorem T.dY:∀{xs:List T},T.de xs↔∀x∈xs,x.ok
 |[]=>by simp[T.de]
 |x::r=>by simp[T.de,T.dY (xs:=r)]
theorem ay.dY:∀{xs:List ay},ay.de xs↔∀x∈xs,x.ok
 |[]=>by simp[ay.de]
 |x::r=>by simp[ay.de,ay.dY (xs:=r)]
section
variable{H:Type}{enc:TypeId×Value→H}{P:Program}{w:World}{sp:Nat→Bool}{held:Bool}{F:cx}
structure Hg(P:Program)(ti tb ts tT tF sT sF:TypeId)(fT fF:Array Field):Prop where
 int:P.underlying ti=some (.int .i64)
 bool:P.underlying tb=some .bool
 str:P.underlying ts=some .string
 QG:P.underlying tT=some (.struct fT)
 QH:P.underlying tF=some (.struct fF)
 QI:P.underlying sT=some (.slice tT)
 QJ:P.underlying sF=some (.slice tF)
 lT:fT.toList.map (λf=>(f.type,f.offset))=[(ti,0),(ti,1),(tb,2),(sF,3),(ti,4),(sT,5)]
 lF:fF.toList.map (λf=>(f.type,f.offset))=[(ts,0),(tT,1),(tb,7),(ti,8)]
 cT:P.cellsOf tT=6
 cF:P.cellsOf tF=9
 c1:∀t∈[ti,tb,ts,sT,sF],P.cellsOf t=1
theorem QK{ti tb ts tT tF sT sF:TypeId}{fT fF:Array Field}(h:Hg P ti tb ts tT tF sT sF fT fF):∀n,Q F enc P w sp held n tT T.cells T.ok:=by
 have c1:P.cellsOf ti=1:=h.c1 _ (by simp);have c2:P.cellsOf tb=1:=h.c1 _ (by simp);have c3:P.cellsOf ts=1:=h.c1 _ (by simp);have b:P.cellsOf sT=1:=h.c1 _ (by simp);have c5:P.cellsOf sF=1:=h.c1 _ (by simp);have int:∀n,Q F enc P w sp held n ti (λz:Int=>[.int .i64 z]) jE:=λn=>Q.map id (λ_=>rfl) (λx a=>by simp only[abC,abD,Yd,Ye,aY]at a;show -9223372036854775808≤x∧x≤9223372036854775807;omega) (Q.int h.int)
 intro n;induction n using Nat.strongRecOn with
 | _ n c=>
  cases n with
  |zero=>exact Q.zero
  | succ n=>
   have d:Q F enc P w sp held n tT T.cells T.ok:=c n (by omega);have e:Q F enc P w sp held n tF ay.cells ay.ok:=by
    cases n with
    |zero=>exact Q.zero
    | succ n=>
     refine Q.map (λ(x:List UInt8×T×Bool×Int×Unit)=>(⟨x.1,x.2.1,x.2.2.1,x.2.2.2.1⟩:ay)) (λx=>?_) (λx a=>?_)
      (Q.struct h.QH h.lF (by simp[jh,c1,c2,c3,h.cT]) (by simp[hU,c1,c2,c3,h.cT,h.cF])
        (cb.cons (Q.string h.str) (cb.cons (c n (by omega)) (cb.cons (Q.bool h.bool) (cb.cons (int n) cb.nil)))))
     ·simp[ay.cells]
     ·exact⟨a.1,a.2.1,a.2.2.2.1⟩
   refine Q.map (λ(x:Int×Int×Bool×List ay×Int×List T×Unit)=>(⟨x.1,x.2.1,x.2.2.1,x.2.2.2.1,x.2.2.2.2.1,x.2.2.2.2.2.1⟩:T)) (λx=>?_) (λx a=>?_)
    (Q.struct h.QG h.lT (by simp[jh,c1,c2,b,c5]) (by simp[hU,c1,c2,b,c5,h.cT])
      (cb.cons (int n) (cb.cons (int n) (cb.cons (Q.bool h.bool) (cb.cons (Q.mono (Q.slice h.QJ h.cF (by decide) ay.len e) (YH n)) (cb.cons (int n) (cb.cons (Q.mono (Q.slice h.QI h.cT (by decide) T.len d) (YH n)) cb.nil)))))))
   ·rw[T.bF];rfl
   · obtain⟨h1,f,_,⟨g,i⟩,j,⟨k,l⟩,_⟩:=a;exact⟨h1,f,g,ay.dY.2 i,j,k,T.dY.2 l⟩
end
end Rb

namespace Rb
open Go
variable{ti:TypeId}{n:Nat}
mutual
structure X where
 kind:Int
 n:Int
 E:List UInt8
 op:Int
 aV:Int
 place:aM
 bn:List X
structure aM where
 var:List UInt8
 aC:List K
structure K where
 field:List UInt8
 bb:List X
end
mutual
def X.cells:X→List I
 | .mk kind n E op aV place bn=> .int .i64 kind :: .int .u64 n :: .str E :: .int .i64 op :: .int .i64 aV::(aM.cells place++[.aq .dead bn.length (X.all bn)])
def X.all:List X→List I
 |[]=>[]
 |x::r=>X.cells x++X.all r
def aM.cells:aM→List I
 | .mk var aC=>[.str var,.aq .dead aC.length (K.all aC)]
def K.cells:K→List I
 | .mk field bb=>[.str field,.aq .dead bb.length (X.all bb)]
def K.all:List K→List I
 |[]=>[]
 |x::r=>K.cells x++K.all r
end
theorem X.all_eq:∀xs:List X,X.all xs=xs.flatMap X.cells
 |[]=>rfl
 |x::r=>by rw[X.all,X.all_eq r,abk]
theorem K.all_eq:∀xs:List K,K.all xs=xs.flatMap K.cells
 |[]=>rfl
 |x::r=>by rw[K.all,K.all_eq r,abk]
theorem aM.bF(x:aM):x.cells=[.str x.var,av K.cells x.aC]:=by cases x;simp only[aM.cells,K.all_eq,av]
theorem K.bF(x:K):x.cells=[.str x.field,av X.cells x.bb]:=by cases x;simp only[K.cells,X.all_eq,av]
theorem X.bF(x:X):x.cells = .int .i64 x.kind :: .int .u64 x.n :: .str x.E :: .int .i64 x.op :: .int .i64 x.aV::(x.place.cells++[av X.cells x.bn]):=by cases x;simp only[X.cells,X.all_eq,av]
theorem aM.len(x:aM):x.cells.length=2:=by rw[aM.bF];rfl
theorem K.len(x:K):x.cells.length=2:=by rw[K.bF];rfl
theorem X.len(x:X):x.cells.length=8:=by rw[X.bF];simp[aM.len]
def ma(z:Int):Prop:=0≤z∧z≤18446744073709551615
mutual
def X.ok:X→Prop
 | .mk kind n E op aV place bn=>jE kind∧ma n∧E.length≤140737488351232∧jE op∧jE aV∧aM.ok place∧bn.length≤maxLen∧X.de bn
def X.de:List X→Prop
 |[]=>True
 |x::r=>X.ok x∧X.de r
def aM.ok:aM→Prop
 | .mk var aC=>var.length≤140737488351232∧aC.length≤maxLen∧K.de aC
def K.ok:K→Prop
 | .mk field bb=>field.length≤140737488351232∧bb.length≤maxLen∧X.de bb
def K.de:List K→Prop
 |[]=>True
 |x::r=>K.ok x∧K.de r
end
theorem X.dY:∀{xs:List X},X.de xs↔∀x∈xs,x.ok
 |[]=>by simp[X.de]
 |x::r=>by simp[X.de,X.dY (xs:=r)]
theorem K.dY:∀{xs:List K},K.de xs↔∀x∈xs,x.ok
 |[]=>by simp[K.de]
 |x::r=>by simp[K.de,K.dY (xs:=r)]
structure U where
 E:List UInt8
 type:T
def U.cells(x:U):List I:= .str x.E::x.type.cells
theorem U.len(x:U):x.cells.length=7:=by simp[U.cells,T.len]
def U.ok(x:U):Prop:=x.E.length≤140737488351232∧x.type.ok
section
variable{H:Type}{enc:TypeId×Value→H}{P:Program}{w:World}{sp:Nat→Bool}{held:Bool}{F:cx}
theorem Q.i64(h:P.underlying ti=some (.int .i64)):Q F enc P w sp held n ti (λz:Int=>[.int .i64 z]) jE:=Q.map id (λ_=>rfl) (λx a=>by simp only[abC,abD,Yd,Ye,aY]at a;show -9223372036854775808≤x∧x≤9223372036854775807;omega) (Q.int h)
theorem Q.u64(h:P.underlying ti=some (.int .u64)):Q F enc P w sp held n ti (λz:Int=>[.int .u64 z]) ma:=Q.map id (λ_=>rfl) (λx a=>by simp[abC,abD,Yd,Ye]at a;show 0≤x∧x≤18446744073709551615;omega) (Q.int h)
structure Al(P:Program)(ti tu ts tE tL tR sE sR:TypeId)(fE fL fR:Array Field):Prop where
 int:P.underlying ti=some (.int .i64)
 u64:P.underlying tu=some (.int .u64)
 str:P.underlying ts=some .string
 exp:P.underlying tE=some (.struct fE)
 QL:P.underlying tL=some (.struct fL)
 par:P.underlying tR=some (.struct fR)
 Hh:P.underlying sE=some (.slice tE)
 QM:P.underlying sR=some (.slice tR)
 lE:fE.toList.map (λf=>(f.type,f.offset))=[(ti,0),(tu,1),(ts,2),(ti,3),(ti,4),(tL,5),(sE,7)]
 lL:fL.toList.map (λf=>(f.type,f.offset))=[(ts,0),(sR,1)]
 lR:fR.toList.map (λf=>(f.type,f.offset))=[(ts,0),(sE,1)]
 cE:P.cellsOf tE=8
 cL:P.cellsOf tL=2
 cR:P.cellsOf tR=2
 c1:∀t∈[ti,tu,ts,sE,sR],P.cellsOf t=1
theorem Hi{ti tu ts tE tL tR sE sR:TypeId}{fE fL fR:Array Field}(h:Al P ti tu ts tE tL tR sE sR fE fL fR) :
  ∀n,Q F enc P w sp held n tE X.cells X.ok∧Q F enc P w sp held n tL aM.cells aM.ok∧Q F enc P w sp held n tR K.cells K.ok:=by
 have c1:P.cellsOf ti=1:=h.c1 _ (by simp);have c2:P.cellsOf tu=1:=h.c1 _ (by simp);have c3:P.cellsOf ts=1:=h.c1 _ (by simp);have d:P.cellsOf sE=1:=h.c1 _ (by simp);have c5:P.cellsOf sR=1:=h.c1 _ (by simp);intro n;induction n with
 |zero=>exact⟨Q.zero,Q.zero,Q.zero⟩
 | succ n f=>
  obtain⟨g,i,j⟩:=f;have e:=Q.mono (Q.slice h.Hh h.cE (by decide) X.len g) (YH n);have k:=Q.mono (Q.slice h.QM h.cR (by decide) K.len j) (YH n);refine⟨?_,?_,?_⟩
  · refine Q.map (λ(x:Int×Int×List UInt8×Int×Int×aM×List X×Unit)=>(⟨x.1,x.2.1,x.2.2.1,x.2.2.2.1,x.2.2.2.2.1,x.2.2.2.2.2.1,x.2.2.2.2.2.2.1⟩:X)) (λx=>?_) (λx a=>?_)
      (Q.struct h.exp h.lE (by simp[jh,c1,c2,c3,d,h.cL]) (by simp[hU,c1,c2,c3,d,h.cL,h.cE])
        (cb.cons (Q.i64 h.int) (cb.cons (Q.u64 h.u64) (cb.cons (Q.string h.str) (cb.cons (Q.i64 h.int) (cb.cons (Q.i64 h.int) (cb.cons i (cb.cons e cb.nil))))))))
    ·rw[X.bF];simp
    · obtain⟨h1,b,c,l,m,o,⟨p,q⟩,_⟩:=a;exact⟨h1,b,c,l,m,o,p,X.dY.2 q⟩
  · refine Q.map (λ(x:List UInt8×List K×Unit)=>(⟨x.1,x.2.1⟩:aM)) (λx=>?_) (λx a=>?_)
      (Q.struct h.QL h.lL (by simp[jh,c3,c5]) (by simp[hU,c3,c5,h.cL]) (cb.cons (Q.string h.str) (cb.cons k cb.nil)))
    ·rw[aM.bF];rfl
    · obtain⟨h1,⟨b,c⟩,_⟩:=a;exact⟨h1,b,K.dY.2 c⟩
  · refine Q.map (λ(x:List UInt8×List X×Unit)=>(⟨x.1,x.2.1⟩:K)) (λx=>?_) (λx a=>?_)
      (Q.struct h.par h.lR (by simp[jh,c3,d]) (by simp[hU,c3,d,h.cR]) (cb.cons (Q.string h.str) (cb.cons e cb.nil)))
    ·rw[K.bF];rfl
    · obtain⟨h1,⟨b,c⟩,_⟩:=a;exact⟨h1,b,X.dY.2 c⟩
end
end Rb

namespace Rb
open Go
structure aw where
 kind:Int
 V:Int
 E:List UInt8
 cg:List UInt8
 aV:Int
 place:aM
 bc:List X
 be:List aw
 bw:List aw
mutual
def aw.cells:aw→List I
 | .mk kind V E cg aV place bc be bw=> .int .i64 kind :: .int .i64 V :: .str E :: .str cg :: .int .i64 aV::(aM.cells place++[av X.cells bc,.aq .dead be.length (aw.all be),.aq .dead bw.length (aw.all bw)])
def aw.all:List aw→List I
 |[]=>[]
 |x::r=>aw.cells x++aw.all r
end
theorem aw.all_eq:∀xs:List aw,aw.all xs=xs.flatMap aw.cells
 |[]=>rfl
 |x::r=>by rw[aw.all,aw.all_eq r,abk]
theorem aw.bF(x:aw):x.cells = .int .i64 x.kind :: .int .i64 x.V :: .str x.E :: .str x.cg :: .int .i64 x.aV::(x.place.cells++[av X.cells x.bc,av aw.cells x.be,av aw.cells x.bw]):=by cases x;simp only[aw.cells,aw.all_eq,av]
theorem aw.len(x:aw):x.cells.length=10:=by rw[aw.bF];simp[aM.len]
mutual
def aw.ok:aw→Prop
 | .mk kind V E cg aV place bc be bw=>jE kind∧jE V∧E.length≤140737488351232∧cg.length≤140737488351232∧jE aV∧aM.ok place∧bc.length≤maxLen∧X.de bc∧be.length≤maxLen∧aw.de be∧bw.length≤maxLen∧aw.de bw
def aw.de:List aw→Prop
 |[]=>True
 |x::r=>aw.ok x∧aw.de r
end
theorem aw.dY:∀{xs:List aw},aw.de xs↔∀x∈xs,x.ok
 |[]=>by simp[aw.de]
 |x::r=>by simp[aw.de,aw.dY (xs:=r)]
structure cA where
 vars:List U
 dj:List (List aw)
def iS(l:List aw):List I:=[av aw.cells l]
def cA.cells(x:cA):List I:=[av U.cells x.vars,av iS x.dj]
def cA.ok(x:cA):Prop:=(x.vars.length≤maxLen∧∀v∈x.vars,v.ok)∧x.dj.length≤maxLen∧∀t∈x.dj,t.length≤maxLen∧∀s∈t,s.ok
section
variable{H:Type}{enc:TypeId×Value→H}{P:Program}{w:World}{sp:Nat→Bool}{held:Bool}{F:cx}
theorem QN{ts tT a:TypeId}{b:Array Field}(hs:P.underlying ts=some .string)(c:P.cellsOf ts=1)(cT:P.cellsOf tT=6)(hT:∀n,Q F enc P w sp held n tT T.cells T.ok)
  (e:P.underlying a=some (.struct b)) (g:b.toList.map (λf=>(f.type,f.offset))=[(ts,0),(tT,1)]) (h:P.cellsOf a=7):∀n,Q F enc P w sp held n a U.cells U.ok:=by
 intro n;refine Q.mono (n:=n+1) ?_ (YH n);refine Q.map (λ(x:List UInt8×T×Unit)=>(⟨x.1,x.2.1⟩:U)) (λx=>?_) (λx d=>?_)
  (Q.struct e g (by simp[jh,c]) (by simp[hU,c,cT,h]) (cb.cons (Q.string hs) (cb.cons (hT n) cb.nil)))
 ·simp[U.cells]
 ·exact⟨d.1,d.2.1⟩
theorem QO{ti tu ts tE tL tR sE sR a b:TypeId}{fE fL fR c:Array Field}(h:Al P ti tu ts tE tL tR sE sR fE fL fR)(hS:P.underlying a=some (.struct c))(j:P.underlying b=some (.slice a))
  (k:c.toList.map (λf=>(f.type,f.offset))=[(ti,0),(ti,1),(ts,2),(ts,3),(ti,4),(tL,5),(sE,7),(b,8),(b,9)]) (d:P.cellsOf a=10) (e:P.cellsOf b=1) :
  ∀n,Q F enc P w sp held n a aw.cells aw.ok:=by
 have c1:P.cellsOf ti=1:=h.c1 _ (by simp);have c3:P.cellsOf ts=1:=h.c1 _ (by simp);have g:P.cellsOf sE=1:=h.c1 _ (by simp);intro n;induction n with
 |zero=>exact Q.zero
 | succ n l=>
  have m:=Q.mono (Q.slice h.Hh h.cE (by decide) X.len (Hi (F:=F) (enc:=enc) (w:=w) (sp:=sp) (held:=held) h n).1) (YH n);have i:=Q.mono (Q.slice j d (by decide) aw.len l) (YH n);refine Q.map (λ(x:Int×Int×List UInt8×List UInt8×Int×aM×List X×List aw×List aw×Unit)=>(⟨x.1,x.2.1,x.2.2.1,x.2.2.2.1,x.2.2.2.2.1,x.2.2.2.2.2.1,x.2.2.2.2.2.2.1,x.2.2.2.2.2.2.2.1,x.2.2.2.2.2.2.2.2.1⟩:aw)) (λx=>?_) (λx o=>?_)
   (Q.struct hS k (by simp[jh,c1,c3,g,e,h.cL]) (by simp[hU,c1,c3,g,e,h.cL,d])
     (cb.cons (Q.i64 h.int) (cb.cons (Q.i64 h.int) (cb.cons (Q.string h.str) (cb.cons (Q.string h.str) (cb.cons (Q.i64 h.int) (cb.cons (Hi h n).2.1 (cb.cons m (cb.cons i (cb.cons i cb.nil))))))))))
  ·rw[aw.bF];simp
  · obtain⟨h1,p,q,r,s,t,⟨u,v⟩,⟨h9,y⟩,⟨z,A⟩,_⟩:=o;exact⟨h1,p,q,r,s,t,u,X.dY.2 v,h9,aw.dY.2 y,z,aw.dY.2 A⟩
theorem QP{d a e b c g:TypeId}{h:Array Field}(k:∀n,Q F enc P w sp held n d U.cells U.ok)(hS:∀n,Q F enc P w sp held n e aw.cells aw.ok)
  (l:P.underlying a=some (.slice d)) (m:P.underlying b=some (.slice e)) (o:P.underlying c=some (.slice b)) (p:P.cellsOf d=7) (q:P.cellsOf e=10) (r:P.cellsOf b=1) (i:P.cellsOf a=1) (s:P.cellsOf c=1)
  (t:P.underlying g=some (.struct h)) (u:h.toList.map (λf=>(f.type,f.offset))=[(a,0),(c,1)]) (v:P.cellsOf g=2):∀n,Q F enc P w sp held n g cA.cells cA.ok:=by
 intro n;refine Q.mono (n:=n+2+1) ?_ (by omega);have k1:Q F enc P w sp held (n+2) a (λxs:List U=>[av U.cells xs]) (λxs=>xs.length≤maxLen∧∀x∈xs,x.ok):=Q.slice l p (by decide) U.len (k (n+1));have k2:Q F enc P w sp held (n+1) b iS (λxs=>xs.length≤maxLen∧∀x∈xs,x.ok):=Q.slice m q (by decide) aw.len (hS n);have z:Q F enc P w sp held (n+2) c (λxs:List (List aw)=>[av iS xs]) (λxs=>xs.length≤maxLen∧∀x∈xs,x.length≤maxLen∧∀y∈x,y.ok):=Q.slice o r (by decide) (λ_=>rfl) k2;refine Q.map (λ(x:List U×List (List aw)×Unit)=>(⟨x.1,x.2.1⟩:cA)) (λx=>?_) (λx j=>?_)
  (Q.struct t u (by simp[jh,i]) (by simp[hU,i,s,v]) (cb.cons k1 (cb.cons z cb.nil)))
 ·simp[cA.cells]
 ·exact⟨j.1,j.2.1⟩
end
end Rb

namespace Rb
open Go
@[simp] theorem D {α:Type} (a:α) (K:α→Prop):Do (some a) K↔K a:=⟨λ⟨b,h,k⟩=>by cases h;exact k,λh=>⟨a,rfl,h⟩⟩
@[simp] theorem aP (v:I) (H:Z) (K:ad):au (some (v,H)) K↔K v H:=⟨λ⟨a,b,h,k⟩=>by cases h;exact k,λh=>⟨v,H,rfl,h⟩⟩
@[simp] theorem aB (b:Bool) (A B:Prop):Gd (.bool b) true A B↔if b=true then A else B:=abE
@[simp] theorem Xz (b:Bool) (A B:Prop):Gd (.bool b) false A B↔if b=false then A else B:=abE
@[simp] theorem aR (K:List I→Z→Prop) (st:List I) (H:Z):N K st H↔K st H:=abE
@[simp] theorem aE (a:I) (l:List I):G (a::l) 0=a:=rfl
@[simp] theorem cW (a:I) (l:List I) (i:Nat):G (a::l) (i+1)=G l i:=rfl
section
variable(k:IntKind)(a b:Int)
@[simp] theorem b4:ab .add (.int k a) (.int k b)=some (.int k (k.wrap (a+b))):=by simp[ab,cc]
@[simp] theorem fZ:ab .sub (.int k a) (.int k b)=some (.int k (k.wrap (a-b))):=by simp[ab,cc]
@[simp] theorem jF:ab .mul (.int k a) (.int k b)=some (.int k (k.wrap (a*b))):=by simp[ab,cc]
@[simp] theorem cJ:ab .eql (.int k a) (.int k b)=some (.bool (a==b)):=by simp[ab,cc]
@[simp] theorem dZ:ab .neq (.int k a) (.int k b)=some (.bool (a != b)):=by simp[ab,cc]
@[simp] theorem bD:ab .lss (.int k a) (.int k b)=some (.bool (decide (a<b))):=by simp[ab,cc]
@[simp] theorem ji:ab .leq (.int k a) (.int k b)=some (.bool (decide (a≤b))):=by simp[ab,cc]
@[simp] theorem eu:ab .gtr (.int k a) (.int k b)=some (.bool (decide (a>b))):=by simp[ab,cc]
@[simp] theorem f_:ab .geq (.int k a) (.int k b)=some (.bool (decide (a≥b))):=by simp[ab,cc]
theorem wo(h:b≠0):ab .rem (.int k a) (.int k b)=some (.int k (a.tmod b)):=by simp[ab,cc,h]
theorem mb(h:b≠0):ab .quo (.int k a) (.int k b)=some (.int k (k.wrap (a.tdiv b))):=by simp[ab,cc,h]
@[simp] theorem QQ:ab .and (.int k a) (.int k b)=some (.int k (k.wrap (TH k.bits a &&& TH k.bits b).toNat)):=by simp[ab,cc,kl]
@[simp] theorem XA:ab .or (.int k a) (.int k b)=some (.int k (k.wrap (TH k.bits a ||| TH k.bits b).toNat)):=by simp[ab,cc,kl]
@[simp] theorem XB:ab .xor (.int k a) (.int k b)=some (.int k (k.wrap (TH k.bits a ^^^ TH k.bits b).toNat)):=by simp[ab,cc,kl]
theorem Hj(k':IntKind)(h:0≤b):ab .shl (.int k a) (.int k' b)=some (.int k (k.wrap (a*2^(min b.toNat k.bits)))):=by simp[ab,cc,Int.not_lt.2 h]
@[simp] theorem j3 (k':IntKind):e6 k' (.int k a)=some (.int k' (k'.wrap a)):=rfl
@[simp] theorem QR (neg:Bool) (x y:Bool):kM neg (.bool x) (.bool y)=some (.bool (if neg then !(x==y)else x==y)):=rfl
@[simp] theorem dS (x:Bool):cI .not (.bool x)=some (.bool !x):=rfl
end
@[simp] theorem XC (tk:Tok) (n:Nat) (cs:List I):bo false (.aq tk n cs)=some (M n):=rfl
@[simp] theorem XD (id o n sz:Nat):bo false (.row id o n sz)=some (M n):=rfl
@[simp] theorem QS (s:List UInt8):bo true (.str s)=some (M s.length):=rfl
end Rb

namespace Rb
open Go
variable{id i:Nat}{x:bL}{n:Int}{cs:List I}
def Z.Ext(H H':Z):Prop:=H.n≤H'.n∧∀i,i<H.n→H'.o i=H.o i
theorem Z.Ext.refl(H:Z):Z.Ext H H:=⟨sl _,λ_ _=>rfl⟩
theorem Z.Ext.trans{a b c:Z}(h:Z.Ext a b)(k:Z.Ext b c):Z.Ext a c:=⟨xl h.1 k.1,λi hi=>(k.2 i (AH hi h.1)).trans (h.2 i hi)⟩
theorem Z.Ext.push(H:Z)(x:bL):Z.Ext H (H.push x):=⟨YH _,λi hi=>ae (YM hi)⟩
theorem Z.Ext.set{H H':Z}(h:Z.Ext H H')(hi:H.n≤i)(x:bL):Z.Ext H (H'.set i x):=⟨h.1,λj a=>by simp only[Z.set];rw[bC];exact h.2 j a⟩
@[simp] theorem Z.XE (H:Z) (x:bL):(H.push x).n=H.n+1:=rfl
@[simp] theorem Z.XG (H:Z) (i:Nat) (x:bL):(H.set i x).n=H.n:=rfl
theorem Z.p4(H:Z)(x:bL):(H.push x).o H.n=x:=aa rfl
theorem Z.QT(H:Z)(x:bL)(h:i≠H.n):(H.push x).o i=H.o i:=ae h
theorem Z.Hk(H:Z)(i:Nat)(x:bL):(H.set i x).o i=x:=aa rfl
theorem Z.bZ(H:Z){i j:Nat}(x:bL)(h:j≠i):(H.set i x).o j=H.o j:=ae h
theorem wrap_i64(a : -9223372036854775808≤n)(b:n≤9223372036854775807):Zb .i64 n=n:=by simp[Zb,Yd,Ye];omega
theorem wrap_u64(a:0≤n)(b:n<18446744073709551616):Zb .u64 n=n:=by simp[Zb,Yd,Ye];omega
def hV(H0 H:Z)(sz:Nat)(x:I)(a:Nat)(cells:List I):Prop:=Z.Ext H0 H∧∃tk,x = .aq tk a cells∧cells.length=a*sz∧((tk = .nil∧a=0)∨∃t,tk = .own t∧H0.n≤t∧t<H.n∧H.o t = .tok (a*sz) sz)
theorem hV.nil(H:Z)(sz:Nat):hV H H sz aQ 0 []:=⟨Z.Ext.refl H,.nil,rfl,by simp,.inl ⟨rfl,rfl⟩⟩
theorem hV.append{H0 H:Z}{sz c a m:Nat}{x y:I}{cells news:List I}{K:ad}(h:hV H0 H sz x a cells)(d:fe H sz y=some (m,news))(hn:news.length=m*sz)(hs:news.all I.scalar=true)(e:m≠0)
  (hb:(a+m)*c≤140737488355328) (hl:a+m≤9223372036854775807) (f:∀g H',hV H0 H' sz g (a+m) (cells++news)→K g H'):au (cp H false sz c x y) K:=by
 obtain⟨b,tk,rfl,hc,i⟩:=h;have hlen:(cells++news).length=(a+m)*sz:=by simp[hc,hn,YA]
 rcases i with⟨rfl,rfl⟩|⟨t,rfl,h1,k,j⟩
 · refine⟨.aq (.own H.n) (0+m) (cells++news),H.push (.tok ((0+m)*sz) sz),?_,f _ _ ⟨b.trans (Z.Ext.push _ _),_,rfl,hlen,.inr ⟨H.n,rfl,b.1,aaP _,Z.p4 _ _⟩⟩⟩;simp only[cp,d,hs,not_true_eq_false,bR,ae e];rw[ae (by simp only[abF];exact⟨hc,hb,hl⟩)]
 · refine⟨.aq (.own H.n) (a+m) (cells++news),(H.set t .gone).push (.tok ((a+m)*sz) sz),?_,f _ _ ⟨(b.set h1 _).trans (Z.Ext.push _ _),_,rfl,hlen,.inr ⟨H.n,rfl,b.1,aaP _,Z.p4 _ _⟩⟩⟩;simp only[cp,d,hs,not_true_eq_false,bR,ae e];rw[ae (by simp only[abF];exact⟨hc,hb,hl⟩)];simp[j]
def At(H:Z)(id:Nat)(x:bL):Prop:=id<H.n∧H.o id=x
theorem At.new(H:Z)(x:bL):At (H.push x) H.n x:=⟨aaP _,Z.p4 H x⟩
theorem At.ext{H H':Z}(h:At H id x)(a:Z.Ext H H'):At H' id x:=⟨AH h.1 a.1,(a.2 id h.1).trans h.2⟩
theorem At.push{H:Z}(h:At H id x)(y:bL):At (H.push y) id x:=h.ext (Z.Ext.push H y)
theorem At.bZ{H:Z}(h:At H id x)(a:id≠i)(y:bL):At (H.set i y) id x:=⟨h.1,(Z.bZ H y a).trans h.2⟩
theorem At.set{H:Z}(h:At H id x)(y:bL):At (H.set id y) id y:=⟨h.1,Z.Hk H id y⟩
theorem At.ne{H:Z}{x y:bL}(h:At H id x)(k:At H i y)(a:x≠y):id≠i:=λe=>a (by rw[←h.2,←k.2,e])
theorem At.lr{H:Z}(h:At H id x):id≠H.n:=YM h.1
theorem At.load{H:Z}(h:At H id (.row cs))(n o:Nat)(agg:Bool):O H n agg (.ptr id o)=bT cs o n agg:=by simp[O,h.2]
theorem At.store{H:Z}(h:At H id (.row cs))(n o:Nat)(v:I):Y H n (.ptr id o) v=if v.known∧v.cells.length=n∧v.cells.all I.scalar∧o+n≤cs.length then some (H.set id (.row (setCells cs o v.cells)))else none:=by simp[Y,h.2]
theorem bI(a : -9223372036854775808≤n:=by omega)(b:n≤9223372036854775807:=by omega):Zb .i64 n=n:=wrap_i64 a b
theorem Hl(a:0≤n:=by omega)(b:n<18446744073709551616:=by omega):Zb .u64 n=n:=wrap_u64 a b
end Rb

namespace Rb
open Go
variable{α:Type}{i:Nat}
@[simp] theorem cD (b:Bool) (A B C:Prop):aL (.bool b) true A B C↔if b=true then A else B:=abE
@[simp] theorem cv (b:Bool) (A B C:Prop):aL (.bool b) false A B C↔if b=false then A else B:=abE
@[simp] theorem XH (want:Bool) (A B C:Prop):aL (.ar []) want A B C↔C:=abE
theorem aF{c:Prop}[Decidable c]{A B:Prop}(a:c→A)(b:¬c→B):if c then A else B:=by
 split
 ·exact a ‹_›
 ·exact b ‹_›
theorem ek{xs:List α}(h:xs.drop i=[]):xs.length≤i:=by simpa using h
theorem ed{xs b:List α}{y:α}(h:xs.drop i=y::b):i<xs.length∧xs[i]?=some y∧xs.drop (i+1)=b:=by
 have c:i<xs.length:=by
  rcases Nat.lt_or_ge i xs.length with a|a
  ·exact a
  ·rw[List.drop_eq_nil_of_le a]at h;cases h
 refine⟨c,?_,?_⟩
 · have:=congrArg (λl=>l[0]?) h;simpa using this
 · have:=congrArg List.tail h;simpa using this
end Rb

namespace Rb
open Go
section
variable{α:Type}{cells:α→List I}{sz:Nat}
theorem nP(hc:∀x,(cells x).length=sz):∀(xs:List α)(i:Nat),(xs.flatMap cells).drop (i*sz)=(xs.drop i).flatMap cells:=by
 intro xs i;induction i generalizing xs with
 |zero=>simp
 | succ i a=>
  cases xs with
  |nil=>simp
  | cons x xs=>rw[abk,aa2,←a,show(i+1)*sz=(cells x).length+i*sz by rw[hc,YA,abG,abH],←abx,List.drop_left]
theorem Hm(hc:∀x,(cells x).length=sz)(xs:List α):(xs.flatMap cells).length=xs.length*sz:=by
 induction xs with
 |nil=>simp
 |cons x xs a=>rw[abk,abI,a,hc,abJ,YA];omega
def dE(cells:α→List I)(sz:Nat)(xs:List α)(i:Nat):I:= .af ((xs.flatMap cells).drop (i*sz))
theorem cK{xs:List α}{i:Nat}(hi:i<xs.length):aO none sz (av cells xs) (M i)=some (dE cells sz xs i):=by simp only[av,aO];rw[aa ⟨by omega,by omega⟩];rfl
theorem dz(hc:∀x,(cells x).length=sz)(hz:0<sz)(H:Z){xs:List α}{i:Nat}{x:α}(a:xs[i]?=some x):O H sz true (dE cells sz xs i)=some (.agg (cells x)):=by
 have b:=(X1.1 a).1;have c:xs.drop i=x::xs.drop (i+1):=by rw[abK b];rw[YU b]at a;simp at a;rw[a]
 show bT ((xs.flatMap cells).drop (i*sz)) 0 sz true=_;rw[nP hc,c,abk];unfold bT;rw[aa (by rw[abI,hc];omega)];simp only[aY,abz];rw[abL (by rw[hc];omega),abM (by rw[hc];omega)]
def wq(sz:Nat)(Φ:aj)(a0:I)(a1:I)(d:I)(Q:ad):(List I×Z)→((List I×Z)→Prop)→Prop:=λs2 e=>
 Do (ab .lss (G s2.1 0) d) λf=>
 Gd f true (
 Do (aO none sz a0 (G s2.1 0)) λg=>
 Do (O s2.2 sz true g) λh=>
 ∃a b,a1 = .fn a b∧Φ (h_ a) (ia a [h] b) s2.2 λi c=>
 Gd i true (
 Q (G s2.1 0) c) (
 Do (ab .add (G s2.1 0) (M 1)) λj=>
 e ([j],c))) (
 Q (M (-1)) s2.2)
def p5(sz:Nat)(Φ:aj)(a0:I)(a1:I)(H:Z)(Q:ad):Prop:=
 Do (bo false a0) λa=>
 aA (wq sz Φ a0 a1 a Q) ([J],H)
def fI:Option Nat→Int
 |some i=>i
 |none=> -1
theorem wt{Φ:aj}(hc:∀x,(cells x).length=sz)(hz:0<sz){p:α→Bool}{key:Nat}{bx:List I}{xs:List α}{H:Z}(hf:∀x∈xs,∀(R:ad),R (.bool (p x)) H→Φ key ([.agg (cells x)]++bx) H R)(hl:xs.length≤9223372036854775807){Q:ad}
  (hQ:Q (M (fI (xs.findIdx? p))) H) (c:fB key=none:=by first|assumption|rfl):p5 sz Φ (av cells xs) (.fn key bx) H Q:=by
 unfold p5;have hlen:bo false (av cells xs)=some (M xs.length):=rfl;rw[hlen];simp only[D];have main:∀(a:List α)(i:Nat),xs.drop i=a→Q (M (fI ((a.findIdx? p).map (·+ i)))) H→aA (wq sz Φ (av cells xs) (.fn key bx) (M xs.length) Q) ([M i],H):=by
  intro a;induction a with
  | nil=>intro i hi b;have hle:=ek hi;refine aA.step ?_;simp only[wq,aE,bD,D,aB];rw[ee];simpa[fI]using b
  | cons y a e=>
   intro i hi b;obtain⟨f,d,g⟩:=ed hi;refine aA.step ?_;simp only[wq,aE,bD,D,aB];rw[dU,cK f];simp only[D];rw[dz hc hz H d];simp only[D];refine⟨key,bx,rfl,?_⟩;rw[qI c,qJ c];refine hf y (aaN d) _ ?_;simp only[aB];rw[abN]at b;by_cases he:p y=true
   · rw[aa he];rw[aa he]at b;simpa[fI]using b
   · rw [ae he];rw[ae he]at b;simp only[b4,D];rw[bI,iT i];refine e (i+1) g ?_;have:(abO p a).map (·+ (i+1))=((abO p a).map (·+ 1)).map (·+ i):=by
      rw[Option.map_map];congr 1;funext k;simp only[Function.comp];omega
     rw[this];exact b
 refine main xs 0 rfl ?_;simpa using hQ
end
end Rb

namespace Rb
open Go
theorem mc(a b:List I):I.bA (a++b)=(I.bA a&&I.bA b):=by rw[q8,q8,q8,abP]
mutual
theorem T.a_:∀x:T,I.bA x.cells=true
 | .mk kind size packed aD bg aU=>by simp only[T.cells,I.bA,I.a_,Tok.free,ay.iq aD,T.iq aU,aa0]
theorem T.iq:∀xs:List T,I.bA (T.all xs)=true
 |[]=>rfl
 |x::r=>by rw[T.all,mc,T.a_ x,T.iq r];rfl
theorem ay.a_:∀x:ay,I.bA x.cells=true
 | .mk E type bits aN=>by simp only[ay.cells,I.bA,I.a_,mc,T.a_ type,aa0]
theorem ay.iq:∀xs:List ay,I.bA (ay.all xs)=true
 |[]=>rfl
 |x::r=>by rw[ay.all,mc,ay.a_ x,ay.iq r];rfl
end
mutual
theorem X.a_:∀x:X,I.bA x.cells=true
 | .mk kind n E op aV place bn=>by simp only[X.cells,I.bA,I.a_,mc,Tok.free,aM.a_ place,X.iq bn,aa0]
theorem X.iq:∀xs:List X,I.bA (X.all xs)=true
 |[]=>rfl
 |x::r=>by rw[X.all,mc,X.a_ x,X.iq r];rfl
theorem aM.a_:∀x:aM,I.bA x.cells=true
 | .mk var aC=>by simp only[aM.cells,I.bA,I.a_,Tok.free,K.iq aC,aa0]
theorem K.a_:∀x:K,I.bA x.cells=true
 | .mk field bb=>by simp only[K.cells,I.bA,I.a_,Tok.free,X.iq bb,aa0]
theorem K.iq:∀xs:List K,I.bA (K.all xs)=true
 |[]=>rfl
 |x::r=>by rw[K.all,mc,K.a_ x,K.iq r];rfl
end
theorem j4{α:Type}{cells:α→List I}(h:∀x,I.bA (cells x)=true)(xs:List α):(av cells xs).a_=true:=by
 have:I.bA (xs.flatMap cells)=true:=by
  induction xs with
  |nil=>rfl
  |cons x xs a=>rw[abk,mc,h,a];rfl
 simp only[av,I.a_,Tok.free,this,aa0]
theorem U.a_(x:U):I.bA x.cells=true:=by simp only[U.cells,I.bA,I.a_,T.a_,aa0]
mutual
theorem aw.a_:∀x:aw,I.bA x.cells=true
 | .mk kind V E cg aV place bc be bw=>by simp only[aw.cells,I.bA,I.a_,mc,Tok.free,aM.a_ place,j4 X.a_ bc,aw.iq be,aw.iq bw,aa0]
theorem aw.iq:∀xs:List aw,I.bA (aw.all xs)=true
 |[]=>rfl
 |x::r=>by rw[aw.all,mc,aw.a_ x,aw.iq r];rfl
end
theorem QU(l:List aw):I.bA (iS l)=true:=by simp only[iS,I.bA,j4 aw.a_,aa0]
theorem cA.a_(x:cA):I.bA x.cells=true:=by simp only[cA.cells,I.bA,j4 U.a_,j4 QU,aa0]
end Rb

namespace Rb
open Go
@[simp] theorem Z.Hn (H:Z) (x y:bL):(H.push x).set H.n y=H.push y:=by simp only[Z.push,Z.set];congr 1;funext j;split<;>rfl
@[simp] theorem eK (H:Z) (cs:List I) (n o:Nat) (agg:Bool):O (H.push (.row cs)) n agg (.ptr H.n o)=bT cs o n agg:=by simp[O,Z.p4]
theorem QV(H:Z)(cs:List I)(n o:Nat)(v:I)(a:v.known=true)(b:v.cells.length=n)(c:v.cells.all I.scalar=true)(d:o+n≤cs.length):Y (H.push (.row cs)) n (.ptr H.n o) v=some (H.push (.row (setCells cs o v.cells))):=by rw[(At.new H (.row cs)).store,aa ⟨a,b,c,d⟩,Z.Hn]
theorem Am{xs a:List I}:∀{k:Nat},k+a.length=xs.length→setCells xs k a=xs.take k++a:=by
 induction a generalizing xs with
 |nil=>intro k h;simp only[setCells];rw[abQ,abM (by simp at h;omega)]
 | cons y a b=>
  intro k h;simp only[setCells];rw[b (by simp at h ⊢;omega)];have hk:k<xs.length:=by simp at h;omega
  rw[abR,List.getElem?_set_self hk,List.take_set_of_le (by omega)];simp
theorem cM(H:Z)(a cs:List I)(n:Nat)(b:cs.length=n)(c:cs.all I.scalar=true)(d:a.length=n):Y (H.push (.row a)) n (.ptr H.n 0) (.agg cs)=some (H.push (.row cs)):=by rw[QV H a n 0 (.agg cs) rfl b c (by omega)];congr 3;show setCells a 0 cs=cs;rw[Am (by omega)];rfl
theorem p6{a b:List I}{n:Nat}(h:a.length=n):bT (a++b) 0 n true=some (.agg a):=by unfold bT;rw[aa (by rw[abI];omega)];simp only[aY,abz];rw[abL (by omega),abM (by omega)]
theorem gJ{a:List I}{n:Nat}(h:a.length=n):bT a 0 n true=some (.agg a):=by have:=p6 (a:=a) (b:=[]) h;rwa [abQ]at this
theorem QW{cs:List I}{o n:Nat}{agg:Bool}(h:o≤cs.length):bT cs o n agg=bT (cs.drop o) 0 n agg:=by
 by_cases hl:o+n≤cs.length
 · have a:0+n≤(cs.drop o).length:=by rw[abS];omega
   unfold bT;simp only[hl,a,aY];cases agg<;>simp
 · have a:¬0+n≤(cs.drop o).length:=by rw[abS];omega
   unfold bT;simp only[hl,a,bR]
mutual
theorem T.scalar:∀x:T,x.cells.all I.scalar=true
 | .mk kind size packed aD bg aU=>by simp[T.cells,I.scalar]
theorem ay.scalar:∀x:ay,x.cells.all I.scalar=true
 | .mk E type bits aN=>by simp only[ay.cells,aaM,abP,T.scalar type];rfl
end
theorem aM.scalar(x:aM):x.cells.all I.scalar=true:=by rw[aM.bF];rfl
theorem K.scalar(x:K):x.cells.all I.scalar=true:=by rw[K.bF];rfl
theorem X.scalar(x:X):x.cells.all I.scalar=true:=by rw[X.bF];simp only[aaM,abP,aM.scalar];rfl
theorem aw.scalar(x:aw):x.cells.all I.scalar=true:=by rw[aw.bF];simp only[aaM,abP,aM.scalar];rfl
theorem U.scalar(x:U):x.cells.all I.scalar=true:=by simp only[U.cells,aaM,T.scalar];rfl
end Rb

namespace Rb
open Go
def i1(k:IntKind)(z:Int):List I:=[.int k z]
section
variable{α:Type}{c:α→I}
theorem wu(H:Z){xs:List α}{i:Nat}{x:α}(a:xs[i]?=some x):O H 1 false (dE (λx=>[c x]) 1 xs i)=some (c x):=by
 have b:=(X1.1 a).1;have d:xs.drop i=x::xs.drop (i+1):=by rw[abK b];rw[YU b]at a;simp at a;rw[a]
 show bT ((xs.flatMap λx=>[c x]).drop (i*1)) 0 1 false=_;rw[nP (sz:=1) (λ_=>rfl),d,abk];rfl
end
theorem cO{α:Type}(cells:α→List I)(xs:List α):bo false (av cells xs)=some (M xs.length):=rfl
end Rb

namespace Rb
open Go Go.RowKit
variable{w w':World}{G:aG}{F:cx}{H:Z}
theorem wv{b o:Nat}{V:Value}(h:w.cell? ⟨b,o,none⟩=some V):b<w.heap.size:=by
 unfold abw at h;split at h
 · rename_i hb;exact(YL.1 hb).1
 ·cases h
theorem An(hb:Below w.heap.size w w'):GLe w G w' G:=⟨sl _,λ_ _=>rfl,λ_ _=>rfl,λ_ _ h=>h,λb o V _ hc=>by rw[hb.cell (p:=⟨b,o,none⟩) (wv hc)];exact hc⟩
theorem QX(hb:Below w.heap.size w w'){i:Nat}{x:bL}(h:eV F w G i x):eV F w' G i x:=by
 have g:=An (G:=G) hb;cases x with
 | row cs=>obtain⟨c,e,h1,a,d,f⟩:=h;refine⟨c,e,by rw[hb.block _ (YL.1 h1).1];exact h1,a,d,λj c l=>?_⟩;obtain⟨V,n,o⟩:=f j c l;exact⟨V,n,o.mono g⟩
 | tok k sz=>obtain⟨c,e,h1,a,d,f⟩:=h;exact⟨c,e,by rw[hb.block _ (YL.1 h1).1];exact h1,a,d,f⟩
 | map es=>obtain⟨c,e,h1,a,d,f⟩:=h;refine⟨c,e,by rw[hb.block _ (YL.1 h1).1];exact h1,a,d,λj k v l=>?_⟩;obtain⟨m,n,o,p⟩:=f j k v l;exact⟨m,n,o.mono g,p.mono g⟩
 | fQ s pos=>obtain⟨h1,a⟩:=h;exact⟨by rw[hb.block _ (YL.1 h1).1];exact h1,a⟩
 | h5 T u b=>obtain⟨v,h1,a⟩:=h;exact⟨v,by rw[hb.block _ (YL.1 h1).1];exact h1,a⟩
 | ki U bs=>obtain⟨c,z,h1,a⟩:=h;exact⟨c,z,by rw[hb.block _ (YL.1 h1).1];exact h1,a⟩
 |gone=>trivial
theorem QY(hb:Below w.heap.size w w')(h:Rel F w G H):Rel F w' G H:=
 ⟨h.n,h.over,λi=>QX hb (h.obj i),h.eW,λb o hf=>by obtain⟨V,a⟩:=h.eb b o hf;exact⟨V,by rw[hb.cell (p:=⟨b,o,none⟩) (wv a)];exact a⟩⟩
theorem QZ(hb:Below w.heap.size w w')(a:w.drawn≤w'.drawn)(h:Rel F w G H):Step w G H w' G H:=
 { An hb with
   size:=hb.size
   os:=hb.os
   tape:=hb.tape
   output:=hb.output
   dr:=a
   c8:=λk hk _=>hb.block k hk
   owned:=λi hl _=>⟨i,hl,rfl⟩
   ey:=λ_ _ hf=> .inl hf}
end Rb

namespace Rb
open Go
def u(p:Int×Int):List I:=[M p.1,M p.2]
def ef(l:List (Int×Int)):List (Int×Int):=l.mergeSort λx y=>!decide (y.1<x.1∨(y.1=x.1∧y.2<x.2))
theorem nQ(l:List (Int×Int)):(ef l).length=l.length:=List.length_mergeSort _
end Rb

namespace Rb
open Go
variable{n b0 b1 b2 b3 i:Nat}{s:List UInt8}{c:UInt8}
def bE(Φ:aj)(k:Nat)(args:List I)(v:I):Prop:=∀(H:Z)(Q:ad),Q v H→Φ k args H Q
theorem bE.of{C:Ctx}(ak:bP C){k:Nat}{args:List I}{v:I}(ha:I.bA args=true)(hv:v.a_=true)(h:∀Q:ad,(∀H',Q v H')→ai C k args Z.mt Q):bE (ai C) k args v:=λH Q hQ=>ai.Dx (Q:=λu _=>u=v) ak (h _ λ_=>rfl) ha H Q λu _ hu=>by subst hu;exact⟨hv,hQ⟩
def isLet(c:UInt8):Bool:=decide (97≤c.toNat)&&decide (c.toNat≤122)
def Ao(c:UInt8):Bool:=decide (48≤c.toNat)&&decide (c.toNat≤57)
def me(c:UInt8):Bool:=isLet c||Ao c||decide (c.toNat=95)
def fg:List UInt8→Bool
 |[]=>false
 |c::r=>decide (r.length<16)&&isLet c&&r.all me
theorem Q0(h:b0<128):abT n b0 b1 b2 b3=(b0,1):=by unfold abT;rw[aa h]
theorem Q1(h:¬b0<128):128≤(abT n b0 b1 b2 b3).1:=by
 unfold abT;rw[ae h]
 repeat' split
 all_goals (dsimp only;omega)
theorem Ho(hc:s[i]?=some c)(h:c.toNat<128):X0 ⟨s.toArray⟩ i=(c.toNat,1):=by
 have e:(X_ s.toArray).get! i=c:=by show s.toArray[i]! = c;have hi:=(X1.1 hc).1;rw[getElem!_pos s.toArray i (by simpa using hi)];simp[YU hi]at hc;simpa using hc
 rw[abU,e,Q0 h]
theorem Q2(hc:s[i]?=some c)(h:¬c.toNat<128):128≤(X0 ⟨s.toArray⟩ i).1:=by
 have e:(X_ s.toArray).get! i=c:=by show s.toArray[i]! = c;have hi:=(X1.1 hc).1;rw[getElem!_pos s.toArray i (by simpa using hi)];simp[YU hi]at hc;simpa using hc
 rw[abU,e];exact Q1 h
def fh(n a:Int):Bool:=(n==1||n==2||n==4||n==8||n==16)&&decide (n≤a)
def ir(kind b:Int)(packed:Bool)(c:Nat)(bg:Int)(a:Nat):Bool:=
 if kind=1∨kind=2 then !packed&&c==0&&bg==0&&a==0
 else if kind=3∨kind=4 then b==0&&bg==0&&a==0
 else if kind=5 then b==0&&!packed&&c==0&&a==1
 else false
mutual
def c6:T→Int
 | .mk kind size packed aD bg aU=>
  if ir kind size packed aD.length bg aU.length=false then 8
  else if kind=1 then(if fh size 8 then 0 else 9)
  else if kind=2 then(if fh size 16 then 0 else 9)
  else if kind=5 then(if bg<1∨65536<bg then 9 else Hp aU)
  else if aD.length<1∨32<aD.length then 12
  else fJ packed [] aD
def Hp:List T→Int
 |[]=>0
 |t::_=>c6 t
def gK(packed:Bool)(seen:List (List UInt8)):ay→Int
 | .mk E type bits aN=>
  if fg E=false∧(E≠[]∨bits=false)then 6
  else if E≠[]∧seen.contains E=true then 7
  else if c6 type≠0 then c6 type
  else if(bits=false∧aN≠0)∨(bits=true∧(type.kind≠1∨packed=true))then 8
  else if bits=true∧(aN<0∨8*type.size<aN∨(aN=0∧E≠[]))then 9
  else 0
def fJ(packed:Bool)(seen:List (List UInt8)):List ay→Int
 |[]=>0
 |f::r=>if gK packed seen f≠0 then gK packed seen f else fJ packed (seen++[f.E]) r
end
mutual
def dF(a:Nat):T→Int
 | .mk kind size packed aD bg aU=>if 1<a then max (fa (a-1) aD) (eS (a-1) aU)+1 else 1
def nR(a:Nat):ay→Int
 | .mk E type bits aN=>dF a type
def fa(a:Nat):List ay→Int
 |[]=>0
 |f::r=>max (nR a f) (fa a r)
def eS(a:Nat):List T→Int
 |[]=>0
 |t::r=>max (dF a t) (eS a r)
end
def eg(t:T):Int:=if 64<dF 65 t then 5 else c6 t
theorem T.ind{P:T→Prop}(h:∀t:T,(∀f∈t.aD,P f.type)→(∀e∈t.aU,P e)→P t):∀t,P t:=by
 have main:∀(n:Nat)(t:T),sizeOf t<n→P t:=by
  intro n;induction n with
  |zero=>intro t ht;omega
  | succ n a=>
   intro t ht;refine h t (λf hf=>a _ ?_) λe he=>a _ ?_
   · cases t with
     | mk kind size packed aD bg aU=>
      have:=abV hf;cases f with
      |mk E type bits aN=>simp at this ht ⊢;omega
   · cases t with
     | mk kind size packed aD bg aU=>have:=abV he;simp at this ht ⊢;omega
 exact λt=>main _ t (aaP _)
end Rb

namespace Rb
open Go
variable{n:Int}{s:List UInt8}{id pos:Nat}
theorem gz(t:T)(H:Z):aK H false 6 (.agg t.cells)=some (.af t.cells,H):=by unfold aK;rw[aa ⟨rfl,t.len⟩];rfl
theorem dV(t:T)(i:Nat):W i (.af t.cells)=some (.af (t.cells.drop i)):=rfl
theorem ky(t:T)(H:Z):O H 1 false (.af (t.cells.drop 0))=some (M t.kind):=by rw[T.bF];rfl
theorem p7(t:T)(H:Z):O H 1 false (.af (t.cells.drop 1))=some (M t.size):=by rw[T.bF];rfl
theorem wx(t:T)(H:Z):O H 1 false (.af (t.cells.drop 2))=some (.bool t.packed):=by rw[T.bF];rfl
theorem kz(t:T)(H:Z):O H 1 false (.af (t.cells.drop 3))=some (av ay.cells t.aD):=by rw[T.bF];rfl
theorem rW(t:T)(H:Z):O H 1 false (.af (t.cells.drop 4))=some (M t.bg):=by rw[T.bF];rfl
theorem ls(t:T)(H:Z):O H 1 false (.af (t.cells.drop 5))=some (av T.cells t.aU):=by rw[T.bF];rfl
theorem iU(t:T)(H:Z):O H 6 true (.af t.cells)=some (.agg t.cells):=gJ t.len
theorem p8(f:ay):bT f.cells 0 1 false=some (.str f.E):=by cases f with|mk n t b w=>cases t;rfl
theorem Ap(f:ay):bT f.cells 7 1 false=some (.bool f.bits):=by cases f with|mk n t b w=>cases t;rfl
theorem Hq(f:ay):bT f.cells 8 1 false=some (M f.aN):=by cases f with|mk n t b w=>cases t;rfl
theorem wy(f:ay):bT f.cells 1 6 true=some (.agg f.type.cells):=by cases f with|mk n t b w=>cases t;rfl
theorem Hr(f:ay):bT f.cells 1 1 false=some (M f.type.kind):=by cases f with|mk n t b w=>cases t;rfl
theorem Q3(f:ay):bT f.cells 2 1 false=some (M f.type.size):=by cases f with|mk n t b w=>cases t;rfl
theorem wrap_i32(a : -2147483648≤n)(b:n≤2147483647):Zb .i32 n=n:=by simp[Zb,Yd,Ye];omega
theorem jj(s t:List UInt8):ab .eql (.str s) (.str t)=some (.bool (s==t)):=rfl
theorem rX(s t:List UInt8):ab .neq (.str s) (.str t)=some (.bool (!(s==t))):=rfl
theorem Aq(a b:Int):fo true [M a,M b]=some (M (max a b)):=by simp only[fo,ni,qA,aY];congr 2;show(if a<b then b else a)=max a b;omega
def mN(n:Int):Bool:=(decide (97≤n)&&decide (n≤122))||(decide (48≤n)&&decide (n≤57))||decide (n=95)
theorem Hs(c:UInt8):mN (c.toNat:Int)=me c:=by rw[aal];simp[mN,me,isLet,Ao];omega
theorem Q4(h:128≤n):mN n=false:=by rw[aaA];simp[mN];omega
theorem Q5{c:UInt8}(h:¬c.toNat<128):me c=false:=by rw[aaA];simp[me,isLet,Ao];omega
theorem Q6(c:UInt8):(decide (97≤(c.toNat:Int))&&decide ((c.toNat:Int)≤122))=isLet c:=by rw[aal];simp[isLet];omega
section
variable{Φ:aj}{H:Z}{Q:ad}
theorem Ht(hQ:Q (.bool (decide (97≤n)&&decide (n≤122))) H):S.f137 Φ (.int .i32 n) H Q:=by
 simp only[S.f137,f_,ji,D,cD];apply aF<;>intro h
 · simp only[ge_iff_le,dQ]at h;simpa[h]using hQ
 · simp only[ge_iff_le,dQ]at h;simpa[h]using hQ
theorem Q7(h:At H id (.fQ s pos))(hp:pos<s.length):kO H (.ptr id 0)=some (.ar [br,M pos,.int .i32 (X0 ⟨s.toArray⟩ pos).1],H.set id (.fQ s (pos+(X0 ⟨s.toArray⟩ pos).2))):=by simp[kO,h.2,hp]
theorem Q8(h:At H id (.fQ s pos))(hp:s.length≤pos):kO H (.ptr id 0)=some (.ar [P],H):=by simp[kO,h.2,Nat.not_lt.2 hp]
theorem Q9{L:(List I×Z)→Prop}(hT:Cl Φ S.bu)(c:mN n=false→Q P H)(d:mN n=true→L ([],H)) :
  Φ 137 [.int .i32 n] H λe a=>
   Do (cI .not e) λf=>
   aL f true (
   Do (ab .neq (.int .i32 n) (.int .i32 95)) λg=>
   N (S.rL Φ (.int .i32 n) L Q) [g] a) (
   N (S.rL Φ (.int .i32 n) L Q) [P] a) (
   False):=by
 refine S.G9 hT (Ht ?_);have k1:∀b:Bool,b=!mN n→N (S.pS Φ L Q) [.bool b] H:=by
  intro b hb;simp only[aR,S.pS,aE,aB];apply aF<;>intro h
  ·exact c (by rw[h]at hb;simpa using hb.symm)
  ·exact d (by simp only[abW]at h;rw[h]at hb;simpa using hb.symm)
 simp only[dS,D,cD,dZ,aR,S.rL,aE,bD,eu,cv,ZV,bR]at k1 ⊢;generalize S.pS Φ L Q=i at k1 ⊢
 repeat' (apply aF<;>intro h)
 all_goals (refine k1 _ ?_;simp only[Z_,Bool.and_eq_false_imp,dQ,decide_eq_false_iff_not,bne_iff_ne,ne_eq,abW,abX]at *;rw[aal];simp[mN];omega)
theorem Q_(hT:Cl Φ S.bu)(hQ:∀H',Q (.bool (fg s)) H'):S.f95 Φ (.str s) H Q:=by
 have main:∀(a:List UInt8)(pos id:Nat)(H:Z),s.drop pos=a→At H id (.fQ s pos)→(∀H',Q (.bool (a.all me)) H')→aA (S.vg Φ (.ptr id 0) Q) ([],H):=by
  intro a;induction a with
  | nil=>intro pos id H i g d;have hle:=ek i;refine aA.step ?_;simp only[S.vg];rw[Q8 g hle];simp only[aP,bh,abp,D,aB,ZV,bR];simpa using d H
  | cons y a l=>
   intro pos id H i g d;obtain⟨m,j,o⟩:=ed i;refine aA.step ?_;simp only[S.vg];rw[Q7 g m];simp only[aP,bh,abp,abq,D,aB,aY];refine Q9 hT (λhb=>?_) (λe=>?_)
   · by_cases f:y.toNat<128
     · rw[Ho j f]at hb;simp only[Hs]at hb;have:=d (H.set id (.fQ s (pos+(X0 ⟨s.toArray⟩ pos).2)));simpa[hb]using this
     · have:=d (H.set id (.fQ s (pos+(X0 ⟨s.toArray⟩ pos).2)));simpa[Q5 f]using this
   · by_cases f:y.toNat<128
     · rw[Ho j f]at e ⊢;simp only[Hs]at e;exact l (pos+1) id _ o (g.set _) λH'=>by simpa[e]using d H'
     · rw[Q4 (by have:=Q2 j f;omega)]at e;cases e
 unfold S.f95;simp only[QS,bD,eu,D,cv,aR];cases s with
 | nil=>simp[S.vi,S.rM,aR,aE,cv,aB];simpa[fg]using hQ H
 | cons c r=>
  rw[oM];have k:∀b:Bool,(b=false→fg (c::r)=r.all me∧me c=true)→(b=true→fg (c::r)=false)→∀H,S.rM Φ (.str (c::r)) Q [.bool b] H:=by
   intro b h1 p H;simp only[S.rM,aE,aB];apply aF<;>intro h
   ·have:=hQ H;rw[p h]at this;exact this
   · simp only[abW]at h;obtain⟨g1,g2⟩:=h1 h;simp only[aR,S.FB,nj,aP];refine main (c::r) 0 H.n _ rfl (At.new H _) λH'=>?_;have:=hQ H';rw[g1]at this;simpa[g2]using this
  simp only[S.vi,aE,cv,aR];apply aF<;>intro h
  · have q:jP (.str (c::r)) (J)=some (.int .u8 c.toNat):=by simp[jP]
    have hc:=c.toNat_lt;rw[q];simp only[D,j3];rw[wrap_i32 (by omega) (by omega)];refine S.G9 hT (Ht ?_);rw[Q6];simp only[dS,D];have hl:r.length<16:=by simp at h;omega
    refine k _ (λhb=>?_) (λhb=>?_) _
    · have:isLet c=true:=by simpa using hb
      exact⟨by simp[fg,hl,this],by simp[me,this]⟩
    · have:isLet c=false:=by simpa using hb
      simp[fg,this]
  · refine k _ (λhb=>by cases hb) (λ_=>?_) _;have hl:¬r.length<16:=by simp at h;omega
    simp[fg,hl]
end
end Rb

namespace Rb
open Go
mutual
theorem wA:∀(t:T)(m:Nat),1≤m→1≤dF m t∧dF m t≤m
 | .mk kind size packed aD bg aU,m,hm=>by
  simp only[dF];split
  · rename_i h;have h1:=Ar aD (m-1) (by omega);have a:=As aU (m-1) (by omega);omega
  ·omega
theorem Ra:∀(f:ay)(m:Nat),1≤m→0≤nR m f∧nR m f≤m
 | .mk E type bits aN,m,hm=>by have:=wA type m hm;simp only[nR];omega
theorem Ar:∀(l:List ay)(m:Nat),1≤m→0≤fa m l∧fa m l≤m
 |[],m,hm=>by simp only[fa];omega
 | f::r,m,hm=>by have h1:=Ra f m hm;have a:=Ar r m hm;simp only[fa];omega
theorem As:∀(l:List T)(m:Nat),1≤m→0≤eS m l∧eS m l≤m
 |[],m,hm=>by simp only[eS];omega
 | t::r,m,hm=>by have h1:=wA t m hm;have a:=As r m hm;simp only[eS];omega
end
theorem wB(f:ay)(m:Nat):nR m f=dF m f.type:=by cases f;rfl
theorem p9(t:T)(m:Nat):dF m t=if 1<m then max (fa (m-1) t.aD) (eS (m-1) t.aU)+1 else 1:=by cases t;rfl
theorem gA(t:T):c6 t=if ir t.kind t.size t.packed t.aD.length t.bg t.aU.length=false then 8
  else if t.kind=1 then(if fh t.size 8 then 0 else 9)
  else if t.kind=2 then(if fh t.size 16 then 0 else 9)
  else if t.kind=5 then(if t.bg<1∨65536<t.bg then 9 else Hp t.aU)
  else if t.aD.length<1∨32<t.aD.length then 12
  else fJ t.packed [] t.aD:=by cases t;rfl
theorem nS(packed:Bool)(a:List (List UInt8))(f:ay):gK packed a f=if fg f.E=false∧(f.E≠[]∨f.bits=false)then 6
  else if f.E≠[]∧a.contains f.E=true then 7
  else if c6 f.type≠0 then c6 f.type
  else if(f.bits=false∧f.aN≠0)∨(f.bits=true∧(f.type.kind≠1∨packed=true))then 8
  else if f.bits=true∧(f.aN<0∨8*f.type.size<f.aN∨(f.aN=0∧f.E≠[]))then 9
  else 0:=by cases f;rfl
section
variable{Φ:aj}{H:Z}{Q:ad}
theorem Hu{n a:Int}(d:a=8∨a=16)(hQ:Q (.bool (fh n a)) H):S.f163 Φ (M n) (M a) H Q:=by
 have e:∀b:Bool,b=fh n a→Q (.bool b) H:=λb h=>by rw[h];exact hQ
 simp only[S.f163,S.z6,aR,aE,f_,ji,D,cD,ZV,bR];apply aF<;>intro h1
 · apply aF<;>intro c
   · simp only[ge_iff_le,dQ]at h1 c;have:n=1∨n=2∨n=3∨n=4∨n=5∨n=6∨n=7∨n=8∨n=9∨n=10∨n=11∨n=12∨n=13∨n=14∨n=15∨n=16:=by omega
     have hle:decide (n≤a)=true:=by simpa using c
     simp only[fZ,D,QQ,cJ];refine e _ ?_;unfold fh;rw[hle,Bool.and_true];clear hle c h1 hQ e;rcases this with rfl|rfl|rfl|rfl|rfl|rfl|rfl|rfl|rfl|rfl|rfl|rfl|rfl|rfl|rfl|rfl<;>decide
   · refine e _ ?_;simp only[dQ]at c;simp[fh,c]
 · refine e _ ?_;simp only[ge_iff_le,dQ]at h1;have:n≠1∧n≠2∧n≠4∧n≠8∧n≠16:=by omega
   simp[fh,this]
theorem Rc{t:T}(hQ:Q (.bool (ir t.kind t.size t.packed t.aD.length t.bg t.aU.length)) H):S.f162 Φ (.agg t.cells) H Q:=by
 have e:∀b:Bool,b=ir t.kind t.size t.packed t.aD.length t.bg t.aU.length→Q (.bool b) H:=λb h=>by rw[h];exact hQ
 clear hQ;simp only[S.f162,S.rR,S.rS,S.vN,S.zX,S.zY,S.zZ,S.z1,gz,aP,dV,ky,p7,wx,kz,rW,ls,cO,aR,aE,cJ,dS,D,cD,cv];generalize t.kind=k at *;generalize t.size=sz at *;generalize t.packed=g at *;generalize t.aD.length=i at *;generalize t.bg=j at *;generalize t.aU.length=ne at *;by_cases h1:k=1
 · subst h1;simp only[abY,abZ,ab0,ZV,aY,bR,ab1,ab2]
   repeat' (apply aF<;>intro h)
   all_goals (refine e _ ?_;simp_all [ir])
 by_cases a:k=2
 · subst a;simp only[abY,abZ,ab0,ZV,aY,bR,ab1,ab2]
   repeat' (apply aF<;>intro h)
   all_goals (refine e _ ?_;simp_all [ir])
 by_cases c:k=3
 · subst c;simp only[abY,abZ,ab0,ZV,aY,bR,ab1,ab2]
   repeat' (apply aF<;>intro h)
   all_goals (refine e _ ?_;simp_all [ir])
 by_cases d:k=4
 · subst d;simp only[abY,abZ,ab0,ZV,aY,bR,ab1,ab2]
   repeat' (apply aF<;>intro h)
   all_goals (refine e _ ?_;simp_all [ir])
 by_cases f:k=5
 · subst f;simp only[abY,abZ,ab0,ZV,aY,bR,ab1,ab2]
   repeat' (apply aF<;>intro h)
   all_goals (refine e _ ?_;simp_all [ir])<;>(rw[aal];simp;try omega)
 · have g1:(k==1)=false:=by simpa using h1
   have g2:(k==2)=false:=by simpa using a
   have g3:(k==3)=false:=by simpa using c
   have g4:(k==4)=false:=by simpa using d
   have g5:(k==5)=false:=by simpa using f
   simp only[g1,g2,g3,g4,g5,ab0,ZV,aY,bR,ab1,ab2]
   repeat' (apply aF<;>intro h)
   all_goals (refine e _ ?_;simp_all [ir])
theorem Re{t:T}{m:Nat}(w:1≤m)(y:m≤65)(o:t.aD.length≤maxLen)(p:t.aU.length≤maxLen)
  (hf:1<m→∀f∈t.aD,bE Φ 161 [.agg f.type.cells,M ((m-1:Nat):Int)] (M (dF (m-1) f.type)))
  (he:1<m→∀x∈t.aU,bE Φ 161 [.agg x.cells,M ((m-1:Nat):Int)] (M (dF (m-1) x)))
  (hQ:∀H',Q (M (dF m t)) H'):S.f161 Φ (.agg t.cells) (M m) H Q:=by
 have hm:maxLen=9223372036854775807:=by decide
 rw[hm]at o p;have k1:∀(v:Int)(H:Z),0≤v→v≤64→v+1=dF m t→N (S.vK Φ Q) [M v] H:=by intro v H z A hv;simp only[aR,S.vK,aE,b4,D];rw[bI,hv];exact hQ H
 unfold S.f161;simp only[gz,aP,eu,D,aB];apply aF<;>intro h
 · have d:1<m:=by simp at h;omega
   have n:Zb .i64 ((m:Int)-1)=((m-1:Nat):Int):=by rw[bI];omega
   have B:=As t.aU (m-1) (by omega);have C:=Ar t.aD (m-1) (by omega);have E:dF m t=max (fa (m-1) t.aD) (eS (m-1) t.aU)+1:=by rw[p9,aa d]
   have q:∀(xs:List T)(i:Nat)(acc:Int)(H:Z),t.aU.drop i=xs→0≤acc→acc≤64→max acc (eS (m-1) xs)+1=dF m t →
     aA (S.vL Φ (M m) (av T.cells t.aU) (M t.aU.length) Q) ([M acc,M i],H):=by
    intro xs;induction xs with
    | nil=>intro i acc H a b c ha;have r:=ek a;refine aA.step ?_;simp only[S.vL,aE,cW,bD,D,aB];rw[ee];refine k1 _ _ b c ?_;simp only[eS]at ha;omega
    | cons x xs g=>intro i acc H a b c ha;obtain⟨j,e,k⟩:=ed a;have l:=aaN e;refine aA.step ?_;simp only[S.vL,aE,cW,bD,D,aB];rw[dU,cK j];simp only[D];rw[dz T.len (by decide) _ e];simp only[D,aP,aJ,aY];rw[cM _ _ _ 6 x.len x.scalar rfl];simp only[D];rw[eK,gJ x.len];simp only[D,fZ,n];refine he d x l _ _ ?_;have hb:=wA x (m-1) (by omega);rw[Aq];simp only[D,b4];rw[bI,iT i];refine g (i+1) _ _ k (by omega) (by omega) ?_;simp only[eS]at ha;omega
   have s:∀(acc:Int)(H:Z),0≤acc→acc≤64→max acc (eS (m-1) t.aU)+1=dF m t→N (S.zW Φ (M m) (.af t.cells) Q) [M acc] H:=by intro acc H b c ha;simp only[aR,S.zW,aE,dV,ls,cO,D];exact q t.aU 0 acc H rfl b c ha
   have u:∀(xs:List ay)(i:Nat)(acc:Int)(H:Z),t.aD.drop i=xs→0≤acc→acc≤64→max (max acc (fa (m-1) xs)) (eS (m-1) t.aU)+1=dF m t →
     aA (S.vM Φ (M m) (.af t.cells) (av ay.cells t.aD) (M t.aD.length) Q) ([M acc,M i],H):=by
    intro xs;induction xs with
    | nil=>intro i acc H a b c ha;have r:=ek a;refine aA.step ?_;simp only[S.vM,aE,cW,bD,D,aB];rw[ee];refine s _ _ b c ?_;simp only[fa]at ha;omega
    | cons x xs g=>intro i acc H a b c ha;obtain⟨j,e,k⟩:=ed a;have l:=aaN e;refine aA.step ?_;simp only[S.vM,aE,cW,bD,D,aB];rw[dU,cK j];simp only[D];rw[dz ay.len (by decide) _ e];simp only[D,aP,aJ,aY];rw[cM _ _ _ 9 x.len x.scalar rfl];simp only[D,W,YO];rw[eK,wy];simp only[D,fZ,n];refine hf d x l _ _ ?_;have hb:=wA x.type (m-1) (by omega);rw[Aq];simp only[D,b4];rw[bI,iT i];refine g (i+1) _ _ k (by omega) (by omega) ?_;simp only[fa,wB]at ha;omega
   simp only[dV,kz,cO,D];refine u t.aD 0 0 H rfl (by omega) (by omega) ?_;omega
 · have d:m=1:=by simp at h;omega
   subst d;refine k1 0 H (by omega) (by omega) ?_;rw[p9];rfl
end
end Rb

namespace Rb
open Go
variable{t:T}{p:ay→Bool}{key:Nat}{bx:List I}{xs:List ay}
section
variable{α:Type}{cells:α→List I}{sz:Nat}
theorem Hv(hc:∀x,(cells x).length=sz):∀(xs:List α)(i:Nat),(xs.flatMap cells).take (i*sz)=(xs.take i).flatMap cells:=by
 intro xs i;induction i generalizing xs with
 |zero=>simp
 | succ i a=>
  cases xs with
  |nil=>simp
  | cons x xs=>rw[abk,List.take_succ_cons,abk,←a,show(i+1)*sz=(cells x).length+i*sz by rw[hc,YA,abG,abH],List.take_length_add_append]
theorem Hw(hc:∀x,(cells x).length=sz){xs:List α}{n:Nat}(hn:n≤xs.length):c9 sz (av cells xs) none (some (M n)) none=some (av cells (xs.take n)):=by
 simp only[av,c9,eh,Option.map_none];rw[cY];simp only;rw[aa ⟨Yz _,by omega,Hm hc xs⟩];by_cases h:n=xs.length
 ·rw[oM,h,abA]
 · rw[bC];have:((n:Int)).toNat=n:=by omega
   simp only[this,aY,Nat.sub_zero,abv,abz,Hv hc];rw[ab3,Nat.min_eq_left hn]
end
theorem rY{α:Type}(p:α→Bool)(xs:List α):decide (fI (xs.findIdx? p)≥0)=xs.any p:=by
 cases hf:xs.findIdx? p with
 | none=>
  rw[List.findIdx?_eq_none_iff]at hf;have:xs.any p=false:=by simpa using hf
  rw[this];rfl
 | some i=>
  obtain⟨hi,h1,_⟩:=List.findIdx?_eq_some_iff_getElem.1 hf;have:xs.any p=true:=by rw[aaB];exact⟨xs[i],List.getElem_mem hi,h1⟩
  rw[this];simp[fI]
section
variable{Φ:aj}{H:Z}{Q:ad}
theorem fieldIndex(hf:∀x∈xs,∀(R:ad),R (.bool (p x)) H→Φ key ([.agg x.cells]++bx) H R)(hl:xs.length≤9223372036854775807)
  (hQ:Q (M (fI (xs.findIdx? p))) H) (a:fB key=none:=by first|assumption|rfl):S.f70 Φ (av ay.cells xs) (.fn key bx) H Q:=by
 have h:p5 9 Φ (av ay.cells xs) (.fn key bx) H Q:=wt ay.len (by decide) hf hl hQ;exact h
theorem Au(hT:Cl Φ S.bu)(hf:∀x∈xs,∀(R:ad),R (.bool (p x)) H→Φ key ([.agg x.cells]++bx) H R)(hl:xs.length≤9223372036854775807)
  (hQ:Q (.bool (xs.any p)) H) (a:fB key=none:=by first|assumption|rfl):Φ 131 [av ay.cells xs,.fn key bx] H Q:=by
 refine S.PR hT ?_;unfold S.f131;refine S.wj hT (fieldIndex hf hl ?_);simp only[f_,D,rY];exact hQ
theorem Rf{g:ay}{cs:List I}{id:Nat}{s:List UInt8}(a:At H id (.row cs))(ht:bT cs 0 1 false=some (.str s))(hQ:Q (.bool (g.E==s)) H):S.f217 Φ (.agg g.cells) (.ptr id 0) H Q:=by
 unfold S.f217;have hb:aK H false 9 (.agg g.cells)=some (.af g.cells,H):=by unfold aK;rw[aa ⟨rfl,g.len⟩];rfl
 rw[hb];have l0:O H 1 false (.af (g.cells.drop 0))=some (.str g.E):=p8 g;have l1:O H 1 false (.ptr id 0)=some (.str s):=by rw[a.load];exact ht
 simp only[aP,W,D,l0,YD,l1,jj];exact hQ
theorem Rg(hT:Cl Φ S.bu){i:Nat}{f:ay}(hi:t.aD[i]?=some f)(hl:t.aD.length≤32)(hs:bE Φ 113 [.agg f.type.cells] (M (c6 f.type)))(w:∀s,bE Φ 95 [.str s] (.bool (fg s)))
  (hQ:∀H',Q (M (gK t.packed ((t.aD.take i).map ay.E) f)) H'):S.f199 Φ (.agg t.cells) (M i) H Q:=by
 have o:=(X1.1 hi).1;unfold S.f199;simp only[gz,aP,dV,kz,D];rw[cK o];simp only[D];rw[dz ay.len (by decide) _ hi];simp only[D,aP,aJ,aY];rw[cM _ _ _ 9 f.len f.scalar rfl];simp only[D,W,YD,YO];have r0:O (H.push (.row f.cells)) 1 false (.ptr H.n 0)=some (.str f.E):=by rw[eK,p8]
 have d:O (H.push (.row f.cells)) 1 false (.ptr H.n 7)=some (.bool f.bits):=by rw[eK,Ap]
 have q:O (H.push (.row f.cells)) 1 false (.ptr H.n 8)=some (M f.aN):=by rw[eK,Hq]
 have r1:O (H.push (.row f.cells)) 6 true (.ptr H.n 1)=some (.agg f.type.cells):=by rw[eK,wy]
 have y:O (H.push (.row f.cells)) 1 false (.ptr H.n 1)=some (M f.type.kind):=by rw[eK,Hr]
 have rs:O (H.push (.row f.cells)) 1 false (.ptr H.n 2)=some (M f.type.size):=by rw[eK,Q3]
 have z:=At.new H (.row f.cells);generalize I:H.push (.row f.cells)=H1 at *;have fin:∀v,v=gK t.packed ((t.aD.take i).map ay.E) f→Q (M v) H1:=λv h=>by rw[h];exact hQ H1
 rw[r0];simp only[D];refine w _ _ _ ?_;have A : ¬ (fg f.E=false∧(f.E≠[]∨f.bits=false))→¬(f.E≠[]∧((t.aD.take i).map ay.E).contains f.E=true)→S.Ac Φ (.af t.cells) (.ptr H.n 0) Q [] H1:=by
  intro n1 n2;have e1:gK t.packed ((t.aD.take i).map ay.E) f=if c6 f.type≠0 then c6 f.type
    else if(f.bits=false∧f.aN≠0)∨(f.bits=true∧(f.type.kind≠1∨t.packed=true))then 8
    else if f.bits=true∧(f.aN<0∨8*f.type.size<f.aN∨(f.aN=0∧f.E≠[]))then 9
    else 0:=by rw[nS,ae n1,ae n2]
  rw[e1]at fin;clear e1;simp only[S.Ac,W,YO,D,r1];refine hs _ _ ?_;simp only[dZ,D,aB];apply aF<;>intro h
  ·exact fin _ (by rw[aa (by simpa using h)])
  · have c : c6 f.type=0:=by simpa using h
    rw[ae (by simpa using c)]at fin;have k2 : ∀ b:Bool,(b=true↔((f.bits=false∧f.aN≠0)∨(f.bits=true∧(f.type.kind≠1∨t.packed=true))))→N (S.pZ Φ (.ptr H.n 0) Q) [.bool b] H1:=by
     intro b hb;simp only[aR,S.pZ,aE,aB,W,YO,D,d];apply aF<;>intro h
     ·exact fin _ (by rw[aa (hb.1 h)])
     · have hn : ¬((f.bits=false∧f.aN≠0)∨(f.bits=true∧(f.type.kind≠1∨t.packed=true))):=λx=>h (hb.2 x);rw[ae hn]at fin;have k1:∀b:Bool,(b=true↔(f.bits=true∧(f.aN<0∨8*f.type.size<f.aN∨(f.aN=0∧f.E≠[]))))→N (S.nM Φ Q) [.bool b] H1:=by
        intro b hb;simp only[aR,S.nM,aE,aB];apply aF<;>intro h
        ·exact fin _ (by rw[aa (hb.1 h)])
        ·exact fin _ (by rw[ae λx=>h (hb.2 x)])
       simp only[cD];apply aF<;>intro a
       · have B:f.type.kind=1:=by
           by_cases hk:f.type.kind=1
           ·exact hk
           ·exact absurd (.inr ⟨a,.inl hk⟩) hn
         have J:1≤f.type.size∧f.type.size≤8:=by
          rw[gA,B]at c;split at c
          ·cases c
          · simp only[aY]at c;split at c
            · rename_i hp;simp[fh]at hp;omega
            ·cases c
         simp only[q,bD,D,cv];apply aF<;>intro hw
         · simp only[rs,D,jF];rw[bI];simp only[eu,D,cv];apply aF<;>intro e
           · simp only[cJ,D,cD];apply aF<;>intro j
             · simp only[r0,D,rX];refine k1 _ ?_;simp only[decide_eq_false_iff_not,gt_iff_lt,bG]at hw e j;simp[a,j];omega
             · refine k1 _ ?_;simp only[decide_eq_false_iff_not,gt_iff_lt,bG]at hw e j;simp[a,j];omega
           · refine k1 _ ?_;simp only[decide_eq_false_iff_not,abF,gt_iff_lt]at e;simp[a,e]
         · refine k1 _ ?_;simp only[decide_eq_false_iff_not,abF]at hw;simp[a,hw]
       · refine k1 _ ?_;simp[a]
    have r : ∀b:Bool,(b=true↔(f.bits=false∧f.aN≠0))→N (S.v_ Φ (.af t.cells) (.ptr H.n 0) Q) [.bool b] H1:=by
     intro b hb;simp only[aR,S.v_,aE,cv,W,YO,D,d];apply aF<;>intro h
     · have hn:¬(f.bits=false∧f.aN≠0):=λx=>by rw[hb.2 x]at h;cases h
       simp only[cD];apply aF<;>intro a
       · simp only[y,dZ,D,cv];apply aF<;>intro hk
         · have C:O H1 1 false (.af (t.cells.drop 2))=some (.bool t.packed):=wx t H1;simp only[C,D];refine k2 _ ?_;simp only[bne_eq_false_iff_eq]at hk;simp[a,hk]
         · refine k2 _ ?_;simp only[abX,bne_iff_ne,ne_eq]at hk;simp[a,hk]
       · refine k2 _ ?_;simp only[abW]at a;simp only[a]at hn ⊢;simp at hn;simp[hn]
     · refine k2 _ ?_;have:=hb.1 (by simpa using h);simp[this]
    simp only[W,YO,D,d,dS,cD,q,dZ];apply aF<;>intro a
    · refine r _ ?_;simp only[Z_]at a;simp[a]
    · refine r _ ?_;simp only[Z_,abX]at a;simp[a]
 have u:∀b:Bool,¬(fg f.E=false∧(f.E≠[]∨f.bits=false))→(b=true↔(f.E≠[]∧((t.aD.take i).map ay.E).contains f.E=true))→N (S.wa Φ (.af t.cells) (.ptr H.n 0) Q) [.bool b] H1:=by
  intro b n1 hb;simp only[aR,S.wa,aE,aB];apply aF<;>intro h
  ·exact fin _ (by rw[nS,ae n1,aa (hb.1 h)])
  ·exact A n1 λx=>h (hb.2 x)
 have m : ∀b:Bool,(b=true↔(fg f.E=false∧(f.E≠[]∨f.bits=false)))→N (S.rT Φ (M i) (.af t.cells) (.ptr H.n 0) Q) [.bool b] H1:=by
  intro b hb;simp only[aR,S.rT,aE,aB,W,YO,YD,D,r0,rX,cD];apply aF<;>intro h
  ·exact fin _ (by rw[nS,aa (hb.1 h)])
  · have n1:¬(fg f.E=false∧(f.E≠[]∨f.bits=false)):=λx=>h (hb.2 x);apply aF<;>intro k
    · have F:O H1 1 false (.af (t.cells.drop 3))=some (av ay.cells t.aD):=kz t H1;simp only[F,D];rw[Hw ay.len (Nat.le_of_lt o)];simp only[D];refine Au hT (p:=λg=>g.E==f.E) (λx K R G=>?_) (by rw[ab3];omega) ?_
      ·exact S.QA hT (Rf z (p8 f) G)
      · refine u _ n1 ?_;simp only[Z_,beq_eq_false_iff_ne,ne_eq]at k;rw[aaB,List.contains_iff_mem,List.mem_map];simp only[bG,ne_eq,k,not_false_eq_true,true_and]
    · refine u _ n1 ?_;simp only[Z_,beq_eq_false_iff_ne,ne_eq,abF]at k;simp[k]
 simp only[dS,D,cD,r0,rX,cv,d];apply aF<;>intro h1
 · simp only[Z_]at h1;apply aF<;>intro l
   · refine m _ ?_;simp only[ab4,bG]at l;simp[h1,l,fg]
   · refine m _ ?_;simp only[ab4,bG]at l;simp[h1,l]
 · refine m _ ?_;simp only[Z_,abX]at h1;simp[h1]
theorem Rh(hl:t.aD.length≤maxLen)
  (e:t.aD.length≤32→∀(i:Nat)(f:ay),t.aD[i]?=some f→bE Φ 199 [.agg t.cells,M i] (M (gK t.packed ((t.aD.take i).map ay.E) f)))
  (hQ:Q (M (if t.aD.length<1∨32<t.aD.length then 12 else fJ t.packed [] t.aD)) H):S.f164 Φ (.agg t.cells) H Q:=by
 have fin:∀v,v=(if t.aD.length<1∨32<t.aD.length then 12 else fJ t.packed [] t.aD)→Q (M v) H:=λv h=>by rw[h];exact hQ
 clear hQ;unfold S.f164;simp only[gz,aP,dV,kz,cO,bD,eu,D,cv];have d : ∀b:Bool,(b=true↔(t.aD.length<1∨32<t.aD.length))→N (S.vQ Φ (.af t.cells) Q) [.bool b] H:=by
  intro b hb;simp only[aR,S.vQ,aE,aB];apply aF<;>intro h
  ·exact fin _ (by rw[aa (hb.1 h)])
  · have hn:¬(t.aD.length<1∨32<t.aD.length):=λx=>h (hb.2 x);rw[ae hn]at fin;simp only[S.GC,dV,kz,cO,D];have main:∀(rest:List ay)(i:Nat),t.aD.drop i=rest→fJ t.packed ((t.aD.take i).map ay.E) rest=fJ t.packed [] t.aD→aA (S.vO Φ (.af t.cells) (M t.aD.length) Q) ([M i],H):=by
     intro rest;induction rest with
     | nil=>intro i a hs;have hle:=ek a;refine aA.step ?_;simp only[S.vO,aE,bD,D,aB];rw[ee];exact fin _ (by rw[←hs];rfl)
     | cons f rest g=>
      intro i a hs;obtain⟨k,hf,j⟩:=ed a;refine aA.step ?_;simp only[S.vO,aE,bD,D,aB];rw[dU];simp only[iU,D];refine e (by omega) i f hf _ _ ?_;simp only[dZ,D,aB];simp only[fJ]at hs;apply aF<;>intro h
      · have c:gK t.packed ((t.aD.take i).map ay.E) f≠0:=by simpa using h
        rw[aa c]at hs;exact fin _ hs
      · have c:¬gK t.packed ((t.aD.take i).map ay.E) f≠0:=by simpa using h
        rw[ae c]at hs;simp only[b4,D];rw[bI,iT i];refine g (i+1) j ?_;rw[abR,hf];simpa using hs
    exact main t.aD 0 rfl rfl
 apply aF<;>intro h
 · refine d _ ?_;simp only[decide_eq_false_iff_not]at h;simp only[dQ,gt_iff_lt];omega
 · refine d _ ?_;simp only[decide_eq_false_iff_not,abF]at h;simp only[true_iff];omega
theorem Ri(hT:Cl Φ S.bu)(f:bE Φ 164 [.agg t.cells] (M (if t.aD.length<1∨32<t.aD.length then 12 else fJ t.packed [] t.aD)))
  (g:∀e∈t.aU,bE Φ 113 [.agg e.cells] (M (c6 e))) (hQ:Q (M (c6 t)) H):S.f113 Φ (.agg t.cells) H Q:=by
 have fin:∀v,v=c6 t→Q (M v) H:=λv h=>by rw[h];exact hQ
 clear hQ;rw[gA]at fin;unfold S.f113;simp only[gz,aP,iU,D];refine S.Qj hT (Rc ?_);simp only[dS,D,aB];apply aF<;>intro h
 ·exact fin _ (by rw[aa (by simpa using h)])
 · have c : ir t.kind t.size t.packed t.aD.length t.bg t.aU.length=true:=by simpa using h
   rw[c]at fin;simp only[ab0,bR]at fin;simp only[dV,ky,p7,rW,ls,cJ,bD,eu,D,aB,cv,bG];apply aF<;>intro h1
   · rw[aa h1]at fin;refine S.G_ hT (Hu (.inl rfl) ?_);simp only[dS,D,aB];apply aF<;>intro a
     ·exact fin _ (by rw[ae (by simpa using a)])
     ·exact fin _ (by rw[aa (by simpa using a)])
   · rw [ae h1]at fin;apply aF<;>intro a
     · rw[aa a]at fin;refine S.G_ hT (Hu (.inr rfl) ?_);simp only[dS,D,aB];apply aF<;>intro a
       ·exact fin _ (by rw[ae (by simpa using a)])
       ·exact fin _ (by rw[aa (by simpa using a)])
     · rw [ae a]at fin;apply aF<;>intro d
       · rw [aa d]at fin;obtain ⟨e,he⟩:∃e,t.aU=[e]:=by
          have:t.aU.length=1:=by simp only[ir,d]at c;simp at c;exact c.2
          exact ab5.1 this
         have k2:∀b:Bool,(b=true↔(t.bg<1∨65536<t.bg))→N (S.vn Φ (.af t.cells) Q) [.bool b] H:=by
          intro b hb;simp only[aR,S.vn,aE,aB];apply aF<;>intro h
          ·exact fin _ (by rw[aa (hb.1 h)])
          · rw[ae λx=>h (hb.2 x)]at fin;simp only[S.FW,dV,ls,D];have ha:aO none 6 (av T.cells t.aU) (J)=some (dE T.cells 6 t.aU 0):=cK (by rw[he];simp);rw[ha];simp only[D];rw[dz T.len (by decide) _ (show t.aU[0]?=some e by rw[he];rfl)];simp only[D];refine g e (by rw[he];simp) _ _ ?_;exact fin _ (by rw[he];rfl)
         apply aF<;>intro h
         · refine k2 _ ?_;have i:¬t.bg<1:=by simpa using h
           simp only[dQ,gt_iff_lt];omega
         · refine k2 _ ?_;have i:t.bg<1:=by simpa using h
           simp only[true_iff];omega
       · rw[ae d]at fin;refine f _ _ ?_;exact fin _ rfl
end
section
variable{C:Ctx}(ak:bP C)(hT:Cl (ai C) S.bu)
include ak hT
theorem Av(s:List UInt8):bE (ai C) 95 [.str s] (.bool (fg s)):=bE.of ak rfl rfl λQ hQ=>S.Pt hT (Q_ hT hQ)
theorem Rj:∀(m:Nat),1≤m→m≤65→∀t:T,t.ok→bE (ai C) 161 [.agg t.cells,M m] (M (dF m t)):=by
 intro m;induction m with
 |zero=>intro h;omega
 | succ m b=>
  intro _ hm t ht;have a:t.aD.length≤maxLen∧(∀f∈t.aD,f.ok)∧t.aU.length≤maxLen∧∀e∈t.aU,e.ok:=by
   cases t with
   | mk kind size packed aD bg aU=>obtain⟨_,_,h1,c,_,d,g⟩:=ht;exact⟨h1,ay.dY.1 c,d,T.dY.1 g⟩
  refine bE.of ak (by simp[I.bA,I.a_,T.a_]) rfl λQ hQ=>S.Qi hT (Re (by omega) hm a.1 a.2.2.1 (λh1 f hf=>?_) (λh1 e he=>?_) hQ)
  · have:=b (by omega) (by omega) f.type (by have:=a.2.1 f hf;cases f;exact this.2.1);exact this
  ·exact b (by omega) (by omega) e (a.2.2.2 e he)
theorem Rk:∀t:T,t.ok→bE (ai C) 113 [.agg t.cells] (M (c6 t)):=by
 refine T.ind λt c d ht=>?_;have a:t.aD.length≤maxLen∧(∀f∈t.aD,f.ok)∧t.aU.length≤maxLen∧∀e∈t.aU,e.ok:=by
  cases t with
  | mk kind size packed aD bg aU=>obtain⟨_,_,h1,g,_,h,j⟩:=ht;exact⟨h1,ay.dY.1 g,h,T.dY.1 j⟩
 have k:t.aD.length≤32→∀(i:Nat)(f:ay),t.aD[i]?=some f→bE (ai C) 199 [.agg t.cells,M i] (M (gK t.packed ((t.aD.take i).map ay.E) f)):=by intro hl i f hf;have b:=aaN hf;exact bE.of ak (by simp[I.bA,I.a_,T.a_]) rfl λQ hQ=>S.Qx hT (Rg hT hf hl (c f b (by have:=a.2.1 f b;cases f;exact this.2.1)) (Av ak hT) hQ)
 have l:bE (ai C) 164 [.agg t.cells] (M (if t.aD.length<1∨32<t.aD.length then 12 else fJ t.packed [] t.aD)):=
  λH Q hQ=>S.Qk hT (Rh a.1 k hQ)
 exact λH Q hQ=>S.PM hT (Ri hT l (λe he=>d e he (a.2.2.2 e he)) hQ)
theorem Hx(t:T)(ht:t.ok):bE (ai C) 68 [.agg t.cells] (M (eg t)):=by
 intro H Q hQ;refine S.Ph hT ?_;unfold S.f68;simp only[gz,aP,iU,D];refine S.PK hT ?_;unfold S.f112;simp only[gz,aP,iU,D];refine Rj ak hT 65 (by omega) (by omega) t ht _ _ ?_;simp only[eu,D,aB];unfold eg at hQ;apply aF<;>intro h
 ·rw[aa (by simpa using h)]at hQ;exact hQ
 · rw[ae (by simpa using h)]at hQ;exact Rk ak hT t ht _ _ hQ
end
end Rb

namespace Rb
open Go
variable{t:T}{x:K}{id n:Nat}{cs:List I}
def jk:List I:=[J,J,P,aQ,J,aQ]
def hd(r:Int×T):I:=if r.1=0 then .ar [.agg r.2.cells,J]else .ar [.agg jk,M r.1]
def db(t:T)(x:K):Int×T:=
 if 1<x.bb.length∨(x.bb.length=1↔x.field≠[])then(8,t)
 else if x.bb.length=1∧t.kind=5 then(match t.aU with|e::_=>(0,e)|[]=>(8,t))
 else if x.bb.length=1∨¬(t.kind=3∨t.kind=4)then(8,t)
 else match t.aD.find? (λf=>f.E==x.field)with|some f=>(0,f.type)|none=>(6,t)
def dL:T→List K→Int×T
 |t,[]=>(0,t)
 |t,p::r=>if(db t p).1≠0 then db t p else dL (db t p).2 r
def bV(vars:List U)(x:aM):Int×T:=
 match vars.find? (λv=>v.E==x.var)with
 |none=>(6,⟨0,0,false,[],0,[]⟩)
 |some v=>if eg v.type≠0 then(eg v.type,v.type)else dL v.type x.aC
theorem rZ{packed:Bool}:∀{l:List ay}{seen:List (List UInt8)},fJ packed seen l=0→∀f∈l,c6 f.type=0
 |[],_,_,f,hf=>by cases hf
 | g :: r,seen,h,f,hf=>by
  simp only[fJ]at h;have a:gK packed seen g=0:=by
   by_cases hz:gK packed seen g=0
   ·exact hz
   ·rw[aa hz]at h;exact absurd h hz
  rw[ae (by simpa using a)]at h;rcases aan.1 hf with rfl|hf
  · rw [nS]at a;split at a
    ·cases a
    · split at a
      ·cases a
      · split at a
        ·rename_i hz;exact absurd a hz
        ·rename_i hz;simpa using hz
  ·exact rZ h f hf
theorem lu(h:c6 t=0)(b:t.kind=5):∃e,t.aU=[e]∧c6 e=0:=by
 rw[gA,b]at h;split at h
 ·cases h
 · rename_i a;simp only[abX]at a;obtain ⟨e,he⟩:∃e,t.aU=[e]:=by
    have:t.aU.length=1:=by simp[ir]at a;exact a.2
    exact ab5.1 this
   refine⟨e,he,?_⟩;simp at h;split at h
   ·cases h
   ·rw[he]at h;exact h
theorem mO(h:c6 t=0)(b:t.kind=3∨t.kind=4):(∀f∈t.aD,c6 f.type=0)∧t.aD.length≤32:=by
 rw[gA]at h;have k1:t.kind≠1:=by omega
 have k2:t.kind≠2:=by omega
 have a:t.kind≠5:=by omega
 rw[ae k1,ae k2,ae a]at h;split at h
 ·cases h
 · split at h
   ·cases h
   ·exact⟨λf hf=>rZ h f hf,by omega⟩
theorem Rl(h:c6 t=0)(a:(db t x).1=0):c6 (db t x).2=0:=by
 unfold db at a ⊢;split
 ·rename_i hc;rw[aa hc]at a;cases a
 · rename_i hc;rw[ae hc]at a;split
   ·rename_i hc;obtain⟨e,he,hs⟩:=lu h hc.2;rw[he];exact hs
   · rename_i hc;rw[ae hc]at a;split
     ·rename_i hc;rw[aa hc]at a;cases a
     · rename_i hc;rw[ae hc]at a;split
       · rename_i f hf;exact(mO h (by omega)).1 f (List.mem_of_find?_eq_some hf)
       ·rename_i hf;rw[hf]at a;cases a
theorem nT{α:Type}(p:α→Bool)(xs:List α):(∃i x,xs.findIdx? p=some i∧xs.find? p=some x∧xs[i]?=some x)∨(xs.findIdx? p=none∧xs.find? p=none):=by
 induction xs with
 |nil=>right;simp
 | cons y d b=>
  rw[abN,List.find?_cons];by_cases h:p y=true
  ·left;exact⟨0,y,by simp[h],by simp[h],rfl⟩
  · simp only[h,bR,ZV];rcases b with⟨i,x,h1,a,c⟩|⟨h1,a⟩
    ·left;exact⟨i+1,x,by simp[h1],by simp[a],by simpa using c⟩
    ·right;simp[h1,a]
section
variable{Φ:aj}{H:Z}{Q:ad}
theorem At.put{H:Z}{cs ds:List I}(h:At H id (.row cs))(hc:cs.length=n)(a:ds.length=n)(hs:ds.all I.scalar=true):Y H n (.ptr id 0) (.agg ds)=some (H.set id (.row ds)):=by rw[h.store,aa ⟨rfl,a,hs,by omega⟩];congr 3;show setCells cs 0 ds=ds;rw[Am (by omega)];rfl
theorem At.all{H:Z}(h:At H id (.row cs))(hc:cs.length=n):O H n true (.ptr id 0)=some (.agg cs):=by rw[h.load,gJ hc]
theorem Hy(x:K)(H:Z):aK H false 2 (.agg x.cells)=some (.af x.cells,H):=by unfold aK;rw[aa ⟨rfl,x.len⟩];rfl
theorem wC(x:K)(i:Nat):W i (.af x.cells)=some (.af (x.cells.drop i)):=rfl
theorem Aw(x:K)(H:Z):O H 1 false (.af (x.cells.drop 0))=some (.str x.field):=by rw[K.bF];rfl
theorem wD(x:K)(H:Z):O H 1 false (.af (x.cells.drop 1))=some (av X.cells x.bb):=by rw[K.bF];rfl
theorem Hz:bm [J,J,P,aQ,J,aQ] []=some (.agg jk):=rfl
theorem Rm{g:ay}(hQ:Q (.bool (g.E==x.field)) H):S.f114 Φ (.agg g.cells) (.af x.cells) H Q:=by
 unfold S.f114;have hb:aK H false 9 (.agg g.cells)=some (.af g.cells,H):=by unfold aK;rw[aa ⟨rfl,g.len⟩];rfl
 have l0:O H 1 false (.af (g.cells.drop 0))=some (.str g.E):=p8 g;have l1:O H 1 false (.af (x.cells.drop 0))=some (.str x.field):=Aw x H;rw[hb];simp only[aP,W,D,l0,l1,jj];exact hQ
theorem Rn(hT:Cl Φ S.bu)(hs:c6 t=0)(hl:x.bb.length≤maxLen)(hQ:∀H',Q (hd (db t x)) H'):S.f69 Φ (.agg t.cells) (.agg x.cells) H Q:=by
 have fin:∀v H',v=hd (db t x)→Q v H':=λv H' h=>by rw[h];exact hQ H'
 clear hQ;unfold S.f69;simp only[gz,Hy,aP,dV,ky,cJ,D,cv,aR,aJ,aY];have a:=At.new H (.row jk);change At (H.push (.row [J,J,P,aQ,J,aQ])) H.n _ at a;generalize (H.push (.row [J,J,P,aQ,J,aQ]))=H1 at *;generalize H.n=id at *;have bad:∀e:Int,e≠0→(db t x).1=e→Do (bm [J,J,P,aQ,J,aQ] []) λF=>
   Do (Y H1 6 (.ptr id 0) F) λq=>
   Do (O q 6 true (.ptr id 0)) λG=>
   Q (.ar [G,(M e)]) q:=by
  intro e he h;rw[Hz];simp only[D];rw[a.put (n:=6) rfl rfl rfl];simp only[D];rw[(a.set _).all (n:=6) rfl];simp only[D];refine fin _ _ ?_;unfold hd;rw[h,ae he]
 have r:∀u:T,db t x=(0,u)→∀H1,At H1 id (.row jk)→Do (Y H1 6 (.ptr id 0) (.agg u.cells)) λs=>
   Do (O s 6 true (.ptr id 0)) λI=>
   Q (.ar [I,J]) s:=by
  intro u hu H1 a;rw[a.put (n:=6) rfl u.len u.scalar];simp only[D];rw[(a.set _).all u.len];simp only[D];refine fin _ _ ?_;unfold hd;rw[hu];rfl
 have w : ∀ b : Bool,(b=true↔(t.kind=3∨t.kind=4))→S.u1 Φ (.af t.cells) (.af x.cells) (.ptr id 0) Q [.bool b] H1:=by
  intro b hb;have z : ∀ c : Bool,(c=true↔(1<x.bb.length∨(x.bb.length=1↔x.field≠[])))→S.u0 Φ (.af t.cells) (.af x.cells) (.ptr id 0) [.bool b] Q [.bool c] H1:=by
   intro c hc;simp only[S.u0,aE,aB];apply aF<;>intro h
   ·exact bad 8 (by decide) (by unfold db;rw[aa (hc.1 h)])
   · have n1 : ¬(1<x.bb.length∨(x.bb.length=1↔x.field≠[])):=λy=>h (hc.2 y);have A : ∀d:Bool,(d=true↔(x.bb.length=1∧t.kind=5))→S.uZ Φ (.af t.cells) (.af x.cells) (.ptr id 0) [.bool b] Q [.bool d] H1:=by
      intro d j;simp only[S.uZ,aE,aB];apply aF<;>intro h
      · obtain⟨h1,B⟩:=j.1 h;obtain⟨e,he,_⟩:=lu hs B;simp only[dV,ls,D];have ha:aO none 6 (av T.cells t.aU) (J)=some (dE T.cells 6 t.aU 0):=cK (by rw[he];simp);rw[ha];simp only[D];rw[dz T.len (by decide) _ (show t.aU[0]?=some e by rw[he];rfl)];simp only[D];exact r e (by unfold db;rw[ae n1,aa ⟨h1,B⟩,he]) _ a
      · have n2 : ¬(x.bb.length=1∧t.kind=5):=λy=>h (j.2 y);have k2 : ∀g:Bool,(g=true↔(x.bb.length=1∨¬(t.kind=3∨t.kind=4)))→S.uY Φ (.af t.cells) (.af x.cells) (.ptr id 0) Q [.bool g] H1:=by
         intro g C;simp only[S.uY,aE,aB];apply aF<;>intro h
         ·exact bad 8 (by decide) (by unfold db;rw[ae n1,ae n2,aa (C.1 h)])
         · have n3:¬(x.bb.length=1∨¬(t.kind=3∨t.kind=4)):=λy=>h (C.2 y);have K:t.kind=3∨t.kind=4:=by omega
           obtain⟨_,hlen⟩:=mO hs K;simp only[aR,S.Fh,dV,kz,D];refine S.wj hT ?_;refine fieldIndex (p:=λf=>f.E==x.field) (λf _ R L=>S.PN hT (Rm L)) (by omega) ?_;simp only[bD,D,aB];rcases nT (λf:ay=>f.E==x.field) t.aD with⟨i,f,h1,l,k⟩|⟨h1,l⟩
           · rw [h1];have m:=(X1.1 k).1;rw[ae (by show ¬(decide ((i:Int)<0)=true);rw[dQ];omega)];simp only[fI];rw[cK m];have N:O H1 6 true (.af (((t.aD.flatMap ay.cells).drop (i*9)).drop 1))=some (.agg f.type.cells):=by
              show bT _ 0 6 true=_;rw[nP ay.len];have j:t.aD.drop i=f::t.aD.drop (i+1):=by rw[abK m];rw[YU m]at k;simp at k;rw[k]
              rw[j,abk,ay.bF,ZY,aa2,abz,List.append_assoc];exact p6 f.type.len
             simp only[D,dE,W,N];exact r f.type (by unfold db;rw[ae n1,ae n2,ae n3,l]) _ a
           · rw[h1,aa (by simp[fI])];exact bad 6 (by decide) (by unfold db;rw[ae n1,ae n2,ae n3,l])
        simp only[wC,wD,cO,cJ,D,cv,aR,dS];apply aF<;>intro h
        · refine k2 _ ?_;simp only[beq_eq_false_iff_ne,ne_eq]at h;have:¬x.bb.length=1:=by omega
          rw[←hb];simp[this]
        · refine k2 _ ?_;simp only[abX,bG]at h;have:x.bb.length=1:=by omega
          simp[this]
     simp only[wC,wD,cO,cJ,D,cD,aR,dV,ky];apply aF<;>intro h
     · refine A _ ?_;simp only[bG]at h;have:x.bb.length=1:=by omega
       simp[this]
     · refine A _ ?_;simp only[bG]at h;have:¬x.bb.length=1:=by omega
       simp[this]
  simp only[S.u1,wC,Aw,wD,cO,eu,cJ,rX,QR,ZV,bR,D,cv,aR];apply aF<;>intro h
  · refine z _ ?_;simp only[decide_eq_false_iff_not,gt_iff_lt]at h;have o:¬1<x.bb.length:=by omega
    simp only[o,false_or];by_cases hf:x.field=[]
    · by_cases h1:x.bb.length=1
      ·simp[hf,h1]
      · have:¬((x.bb.length:Int)=1):=by omega
        simp[hf,h1,this]
    · by_cases h1:x.bb.length=1
      ·simp[hf,h1]
      · have e1:((x.bb.length:Int)==1)=false:=by rw[beq_eq_false_iff_ne];omega
        have U:x.field.isEmpty=false:=by simpa using hf
        simp[hf,h1,e1,U]
  · refine z _ ?_;simp only[decide_eq_false_iff_not,gt_iff_lt,abF]at h;have o:1<x.bb.length:=by omega
    simp[o]
 apply aF<;>intro h
 · refine w _ ?_;simp only[beq_eq_false_iff_ne,ne_eq]at h;simp[h]
 · refine w _ ?_;simp only[abX,bG]at h;simp[h]
end
end Rb

namespace Rb
open Go
variable{vars:List U}{x:aM}
theorem Ro:I.bA jk=true:=rfl
theorem HA(r:Int×T):(hd r).a_=true:=by
 unfold hd;split
 ·simp[I.a_,I.bA,T.a_]
 ·simp[I.a_,I.bA,Ro]
theorem p_(v:U):bT v.cells 0 1 false=some (.str v.E):=by unfold bT;rw[aa (by rw[v.len];omega)];rfl
theorem Ax(v:U)(H:Z){i:Nat}(h:vars[i]?=some v):O H 6 true (.af (((vars.flatMap U.cells).drop (i*7)).drop 1))=some (.agg v.type.cells):=by
 have a:=(X1.1 h).1;show bT _ 0 6 true=_;rw[nP U.len];have b:vars.drop i=v::vars.drop (i+1):=by rw[abK a];rw[YU a]at h;simp at h;rw[h]
 rw[b,abk,U.cells,ZY,aa2,abz];exact p6 v.type.len
theorem Ay(x:aM)(H:Z):aK H false 2 (.agg x.cells)=some (.af x.cells,H):=by unfold aK;rw[aa ⟨rfl,x.len⟩];rfl
theorem Az(x:aM)(i:Nat):W i (.af x.cells)=some (.af (x.cells.drop i)):=rfl
theorem HB(x:aM)(H:Z):O H 1 false (.af (x.cells.drop 0))=some (.str x.var):=by rw[aM.bF];rfl
theorem AA(x:aM)(H:Z):O H 1 false (.af (x.cells.drop 1))=some (av K.cells x.aC):=by rw[aM.bF];rfl
section
variable{Φ:aj}{H:Z}{Q:ad}
theorem Rp{v:U}(hQ:Q (.bool (v.E==x.var)) H):S.f67 Φ (.agg v.cells) (.af x.cells) H Q:=by
 unfold S.f67;have hb:aK H false 7 (.agg v.cells)=some (.af v.cells,H):=by unfold aK;rw[aa ⟨rfl,v.len⟩];rfl
 have l0:O H 1 false (.af (v.cells.drop 0))=some (.str v.E):=p_ v;have l1:O H 1 false (.af (x.cells.drop 0))=some (.str x.var):=HB x H;rw[hb];simp only[aP,W,D,l0,l1,jj];exact hQ
theorem wE{p:U→Bool}{key:Nat}{bx:List I}{xs:List U}(hf:∀x∈xs,∀(R:ad),R (.bool (p x)) H→Φ key ([.agg x.cells]++bx) H R)(hl:xs.length≤9223372036854775807)
  (hQ:Q (M (fI (xs.findIdx? p))) H) (a:fB key=none:=by first|assumption|rfl):S.f43 Φ (av U.cells xs) (.fn key bx) H Q:=by
 have h:p5 7 Φ (av U.cells xs) (.fn key bx) H Q:=wt U.len (by decide) hf hl hQ;exact h
theorem Rq(hT:Cl Φ S.bu)(r:vars.length≤maxLen)(A:x.aC.length≤maxLen)
  (B:∀v∈vars,bE Φ 68 [.agg v.type.cells] (M (eg v.type)))
  (C:∀(t:T)(p:K),c6 t=0→p∈x.aC→bE Φ 69 [.agg t.cells,.agg p.cells] (hd (db t p)))
  (hQ:∀H',Q (hd (bV vars x)) H'):S.f39 Φ (av U.cells vars) (.agg x.cells) H Q:=by
 have hm:maxLen=9223372036854775807:=by decide
 rw[hm]at r A;have fin:∀v H',v=hd (bV vars x)→Q v H':=λv H' h=>by rw[h];exact hQ H'
 clear hQ;unfold S.f39;simp only[Ay,aP,aJ,aY];have f:At (H.push (.row jk)) H.n (.row jk):=At.new H _;change At (H.push (.row [J,J,P,aQ,J,aQ])) H.n _ at f;generalize (H.push (.row [J,J,P,aQ,J,aQ]))=a at *;generalize H.n=c at *;have bad:∀(e:Int)(H1:Z),At H1 c (.row jk)→e≠0→(bV vars x).1=e→Do (bm [J,J,P,aQ,J,aQ] []) λF=>
   Do (Y H1 6 (.ptr c 0) F) λs=>
   Do (O s 6 true (.ptr c 0)) λG=>
   Q (.ar [G,(M e)]) s:=by
  intro e H1 u he h;rw[Hz];simp only[D];rw[u.put (n:=6) rfl rfl rfl];simp only[D];rw[(u.set _).all (n:=6) rfl];simp only[D];refine fin _ _ ?_;unfold hd;rw[h,ae he]
 refine S.wi hT ?_;refine wE (p:=λv=>v.E==x.var) (λv _ R I=>S.Pg hT (Rp I)) r ?_;simp only[bD,D,aB];rcases nT (λv:U=>v.E==x.var) vars with⟨i,v,h1,g,j⟩|⟨h1,g⟩
 · have k:=(X1.1 j).1;have L:=aaN j;have l:bV vars x=if eg v.type≠0 then(eg v.type,v.type)else dL v.type x.aC:=by unfold bV;rw[g]
   rw[h1,ae (by show ¬(decide ((i:Int)<0)=true);rw[dQ];omega)];simp only[fI];rw[cK k];simp only[D,dE,W,Ax v a j,aP,aJ,aY];rw[cM _ _ _ 6 v.type.len v.type.scalar rfl];simp only[D];rw[eK,gJ v.type.len];simp only[D];have N:At (a.push (.row v.type.cells)) a.n (.row v.type.cells):=At.new a _;have V:c≠a.n:=f.lr;have w:At (a.push (.row v.type.cells)) c (.row jk):=f.push _;generalize (a.push (.row v.type.cells))=X at *;generalize a.n=y at *;refine B v L _ _ ?_;simp only[dZ,D,aB];apply aF<;>intro h
   · have b:eg v.type≠0:=by simpa using h
     exact bad _ _ w b (by rw[l,aa b])
   · have b:eg v.type=0:=by simpa using h
     rw[ae (by simpa using b)]at l;have ab:c6 v.type=0:=by
      unfold eg at b;split at b
      ·cases b
      ·exact b
     have main:∀(ps:List K)(i:Nat)(t:T)(H1:Z),x.aC.drop i=ps→At H1 c (.row jk)→At H1 y (.row t.cells)→c6 t=0→dL t ps=bV vars x →
       aA (S.uR Φ (.ptr c 0) (.ptr y 0) (av K.cells x.aC) (M x.aC.length) Q) ([M i],H1):=by
      intro ps;induction ps with
      | nil=>intro i t H1 m a3 cB o d;have hle:=ek m;refine aA.step ?_;simp only[S.uR,aE,bD,D,aB];rw[ee];simp only[aR,S.EO];rw[cB.all t.len];simp only[D];rw[a3.put (n:=6) rfl t.len t.scalar];simp only[D];rw[(a3.set _).all t.len];simp only[D];refine fin _ _ ?_;rw[←d];rfl
      | cons p ps ac=>
       intro i t H1 m a3 cB o d;obtain⟨k,hp,ad⟩:=ed m;refine aA.step ?_;simp only[S.uR,aE,bD,D,aB];rw[dU,cK k];simp only[D];rw[dz K.len (by decide) _ hp];simp only[D,aP,aJ,aY];rw[cM _ _ _ 2 p.len p.scalar rfl];simp only[D];rw[(cB.push _).all t.len,eK,gJ p.len];simp only[D];refine C t p o (aaN hp) _ _ ?_;simp only[dL]at d;have b3:=a3.push (.row p.cells);have z:=cB.push (.row p.cells);generalize H1.push (.row p.cells)=H2 at *;by_cases he:(db t p).1=0
       · rw[ae (by simpa using he)]at d;have q:hd (db t p) = .ar [.agg (db t p).2.cells,J]:=by unfold hd;rw[aa he]
         rw[q];simp only[bh,abp,abq,D];rw[cM _ _ _ 6 (db t p).2.len (db t p).2.scalar rfl];simp only[D,dZ,aB];rw[el,eK,gJ (db t p).2.len];simp only[D];rw[(z.push _).put t.len (db t p).2.len (db t p).2.scalar];simp only[D,b4];rw[bI,iT i];exact ac (i+1) _ _ ad ((b3.push _).bZ V _) ((z.push _).set _) (Rl o he) d
       · rw[aa he]at d;have q:hd (db t p) = .ar [.agg jk,M (db t p).1]:=by unfold hd;rw[ae he]
         rw[q];simp only[bh,abp,abq,D];rw[cM _ _ _ 6 rfl rfl rfl];simp only[D,dZ,aB];rw[aa (by simpa using he)];exact bad _ _ (b3.push _) he (by rw[←d])
     simp only[Az,AA,cO,D];exact main x.aC 0 v.type X rfl w N ab l.symm
 · rw[h1,aa (by simp[fI])];exact bad 6 _ f (by decide) (by unfold bV;rw[g])
end
end Rb

namespace Rb
open Go
variable{t:T}{p:T→Bool}{key:Nat}{bx:List I}{xs:List T}{n step:Int}
mutual
def ga:T→Bool
 | .mk kind size packed aD bg aU=>((kind==2&&decide (size>1))||wF aU)||wG aD
def Rs:ay→Bool
 | .mk E type bits aN=>ga type
def wF:List T→Bool
 |[]=>false
 |t::r=>ga t||wF r
def wG:List ay→Bool
 |[]=>false
 |f::r=>Rs f||wG r
end
mutual
def gb:T→Bool
 | .mk kind size packed aD bg aU=>((packed&&ga (.mk kind size packed aD bg aU))||wH aU)||wI aD
def Rt:ay→Bool
 | .mk E type bits aN=>gb type
def wH:List T→Bool
 |[]=>false
 |t::r=>gb t||wH r
def wI:List ay→Bool
 |[]=>false
 |f::r=>Rt f||wI r
end
theorem HC:∀l:List T,wF l=l.any ga
 |[]=>rfl
 |t::r=>by rw[wF,HC r,ab6]
theorem HD:∀l:List ay,wG l=l.any λf=>ga f.type
 |[]=>rfl
 |f::r=>by rw[wG,HD r,ab6];cases f;rfl
theorem AB:∀l:List T,wH l=l.any gb
 |[]=>rfl
 |t::r=>by rw[wH,AB r,ab6]
theorem AD:∀l:List ay,wI l=l.any λf=>gb f.type
 |[]=>rfl
 |f::r=>by rw[wI,AD r,ab6];cases f;rfl
theorem Ru(t:T):ga t=(((t.kind==2&&decide (t.size>1))||t.aU.any ga)||t.aD.any λf=>ga f.type):=by cases t;rw[ga,HC,HD]
theorem Rv(t:T):gb t=(((t.packed&&ga t)||t.aU.any gb)||t.aD.any λf=>gb f.type):=by cases t;rw[gb,AB,AD]
theorem fK(ht:t.ok):t.aD.length≤9223372036854775807∧(∀f∈t.aD,f.type.ok)∧t.aU.length≤9223372036854775807∧∀e∈t.aU,e.ok:=by
 have hm:maxLen=9223372036854775807:=by decide
 cases t with
 | mk kind size packed aD bg aU=>obtain⟨_,_,h1,b,_,a,c⟩:=ht;rw[hm]at h1 a;exact⟨h1,λf hf=>by have:=ay.dY.1 b f hf;cases f;exact this.2.1,a,T.dY.1 c⟩
section
variable{Φ:aj}{H:Z}{Q:ad}
theorem Rw(hf:∀x∈xs,∀(R:ad),R (.bool (p x)) H→Φ key ([.agg x.cells]++bx) H R)(hl:xs.length≤9223372036854775807)
  (hQ:Q (M (fI (xs.findIdx? p))) H) (a:fB key=none:=by first|assumption|rfl):S.f177 Φ (av T.cells xs) (.fn key bx) H Q:=by
 have h:p5 6 Φ (av T.cells xs) (.fn key bx) H Q:=wt T.len (by decide) hf hl hQ;exact h
theorem HE(hT:Cl Φ S.bu)(hf:∀x∈xs,∀(R:ad),R (.bool (p x)) H→Φ key ([.agg x.cells]++bx) H R)(hl:xs.length≤9223372036854775807)
  (hQ:Q (.bool (xs.any p)) H) (a:fB key=none:=by first|assumption|rfl):Φ 130 [av T.cells xs,.fn key bx] H Q:=by
 refine S.PQ hT ?_;unfold S.f130;refine S.Qo hT (Rw hf hl ?_);simp only[f_,D,rY];exact hQ
theorem wJ(f:ay)(H:Z):aK H false 9 (.agg f.cells)=some (.af f.cells,H):=by unfold aK;rw[aa ⟨rfl,f.len⟩];rfl
theorem HF(f:ay)(H:Z):O H 6 true (.af (f.cells.drop 1))=some (.agg f.type.cells):=by show bT _ 0 6 true=_;rw[ay.bF,aa2,abz];exact p6 f.type.len
theorem Rx(hT:Cl Φ S.bu)(c:t.aD.length≤9223372036854775807)(d:t.aU.length≤9223372036854775807)(hf:∀f∈t.aD,bE Φ 129 [.agg f.type.cells] (.bool (ga f.type)))
  (he:∀e∈t.aU,bE Φ 129 [.agg e.cells] (.bool (ga e))) (hQ:Q (.bool (ga t)) H):S.f129 Φ (.agg t.cells) H Q:=by
 have fin:∀b,b=ga t→Q (.bool b) H:=λb h=>by rw[h];exact hQ
 clear hQ;rw[Ru]at fin;unfold S.f129;simp only[gz,aP,dV,ky,p7,cJ,eu,D,cD];have k1:∀b:Bool,b=((t.kind==2&&decide (t.size>1))||t.aU.any ga)→N (S.vq Φ (.af t.cells) Q) [.bool b] H:=by
  intro b hb;rw[←hb]at fin;simp only[aR,S.vq,aE,cv,dV,kz,D];apply aF<;>intro h
  · refine Au hT (p:=λf=>ga f.type) (λf g R a=>?_) c (fin _ (by rw[h];rfl));refine S.Qn hT ?_;unfold S.f176;simp only[wJ,aP,W,D,HF];exact hf f g _ _ a
  · simp only[abX]at h;exact fin _ (by rw[h];rfl)
 have k2:∀b:Bool,b=(t.kind==2&&decide (t.size>1))→N (S.vr Φ (.af t.cells) Q) [.bool b] H:=by
  intro b hb;rw[←hb]at k1;simp only[aR,S.vr,aE,cv,dV,ls,D];apply aF<;>intro h
  ·refine HE hT (p:=ga) (λe i R a=>he e i _ _ a) d (k1 _ (by rw[h];rfl))
  · simp only[abX]at h;exact k1 _ (by rw[h];rfl)
 apply aF<;>intro h
 ·exact k2 _ (by rw[h];rfl)
 · simp only[abW]at h;exact k2 _ (by rw[h];rfl)
theorem Ry(hT:Cl Φ S.bu)(c:t.aD.length≤9223372036854775807)(d:t.aU.length≤9223372036854775807)(g:bE Φ 129 [.agg t.cells] (.bool (ga t)))(hf:∀f∈t.aD,bE Φ 85 [.agg f.type.cells] (.bool (gb f.type)))
  (he:∀e∈t.aU,bE Φ 85 [.agg e.cells] (.bool (gb e))) (hQ:Q (.bool (gb t)) H):S.f85 Φ (.agg t.cells) H Q:=by
 have fin:∀b,b=gb t→Q (.bool b) H:=λb h=>by rw[h];exact hQ
 clear hQ;rw[Rv]at fin;unfold S.f85;simp only[gz,aP,dV,wx,iU,D,cD];have k1:∀b:Bool,b=((t.packed&&ga t)||t.aU.any gb)→N (S.u3 Φ (.af t.cells) Q) [.bool b] H:=by
  intro b hb;rw[←hb]at fin;simp only[aR,S.u3,aE,cv,dV,kz,D];apply aF<;>intro h
  · refine Au hT (p:=λf=>gb f.type) (λf i R a=>?_) c (fin _ (by rw[h];rfl));refine S.PS hT ?_;unfold S.f132;simp only[wJ,aP,W,D,HF];exact hf f i _ _ a
  · simp only[abX]at h;exact fin _ (by rw[h];rfl)
 have k2:∀b:Bool,b=(t.packed&&ga t)→N (S.u4 Φ (.af t.cells) Q) [.bool b] H:=by
  intro b hb;rw[←hb]at k1;simp only[aR,S.u4,aE,cv,dV,ls,D];apply aF<;>intro h
  ·refine HE hT (p:=gb) (λe j R a=>he e j _ _ a) d (k1 _ (by rw[h];rfl))
  · simp only[abX]at h;exact k1 _ (by rw[h];rfl)
 apply aF<;>intro h
 ·exact g _ _ (k2 _ (by rw[h];rfl))
 · simp only[abW]at h;exact k2 _ (by rw[h];rfl)
def ca(n step:Int):Int:=Zb .i64 (Zb .i64 ((Zb .i64 (Zb .i64 (n+step)-1)).tdiv step)*step)
theorem qa(h:step≠0)(hQ:Q (M (ca n step)) H):S.f167 Φ (M n) (M step) H Q:=by unfold S.f167;simp only[b4,fZ,D];rw[mb _ _ _ h];simp only[D,jF];exact hQ
theorem Rz(b:0≤n)(c:n≤1000000000)(d:1≤step)(e:step≤1000000):ca n step=(n+step-1)/step*step:=by
 unfold ca;have hs:step≠0:=by omega
 have e1:=Int.ediv_mul_le (n+step-1) hs;have a:0≤(n+step-1)/step:=Int.ediv_nonneg (by omega) (by omega);have f:(n+step-1)/step≤n+step-1:=Int.ediv_le_self _ (by omega);have g:0≤(n+step-1)/step*step:=Int.mul_nonneg a (by omega);rw[wrap_i64 (n:=n+step) (by omega) (by omega),wrap_i64 (n:=n+step-1) (by omega) (by omega),Int.tdiv_eq_ediv_of_nonneg (by omega),wrap_i64 (n:=(n+step-1)/step) (by omega) (by omega),bI]
end
section
variable{C:Ctx}(hT:Cl (ai C) S.bu)
include hT
theorem RA:∀t:T,t.ok→bE (ai C) 129 [.agg t.cells] (.bool (ga t)):=by refine T.ind λt a b ht=>?_;obtain⟨h1,c,d,g⟩:=fK ht;exact λH Q hQ=>S.PO hT (Rx hT h1 d (λf hf=>a f hf (c f hf)) (λe he=>b e he (g e he)) hQ)
theorem RB:∀t:T,t.ok→bE (ai C) 85 [.agg t.cells] (.bool (gb t)):=by refine T.ind λt a b ht=>?_;obtain⟨h1,c,d,g⟩:=fK ht;exact λH Q hQ=>S.Pm hT (Ry hT h1 d (RA hT t ht) (λf hf=>a f hf (c f hf)) (λe he=>b e he (g e he)) hQ)
end
end Rb

namespace Rb
open Go
variable{sz len:Nat}{x:I}{cs:List I}
structure bp where
 at_:Int
 len:Int
 kind:Int
 bits:Bool
 bit:Int
 aN:Int
def bp.cells(s:bp):List I:=[M s.at_,M s.len,M s.kind,.bool s.bits,M s.bit,M s.aN]
structure PL where
 size:Int
 bN:Int
 du:List bp
 bit:Int
abbrev B(n:Int):Int:=Zb .i64 n
def hX(p:PL)(f:ay):Int:=if B (p.bit.tdiv (B (8*f.type.size)))≠B ((B (B (p.bit+f.aN)-1)).tdiv (B (8*f.type.size)))then ca p.bit (B (8*f.type.size))else p.bit
def lv(p:PL)(f:ay):PL:=
 if f.aN=0 then
  {p with bit:=ca p.bit (B (8*f.type.size)),du:=p.du++[⟨B ((ca p.bit (B (8*f.type.size))).tdiv 8),0,1,true,(ca p.bit (B (8*f.type.size))).tmod 8,0⟩]}
 else
  {p with bit:=B (hX p f+f.aN),du:=p.du++[⟨B ((hX p f).tdiv 8),B (B (B ((B (B (hX p f+f.aN)-1)).tdiv 8)-B ((hX p f).tdiv 8))+1),1,true,(hX p f).tmod 8,f.aN⟩]}
def eL(packed:Bool)(f:ay)(bN:Int):Int:=if packed=true∨(f.bits=true∧f.aN=0)then 1 else if f.bits=true then f.type.size else bN
def wK(p:PL)(f:ay)(size bN:Int):PL:={p with bit:=B (8*B (ca (B ((ca p.bit 8).tdiv 8)) bN+size)),du:=p.du++[⟨ca (B ((ca p.bit 8).tdiv 8)) bN,size,f.type.kind,false,0,0⟩]}
def ly(p:PL):PL:={p with size:=max p.size (B ((ca p.bit 8).tdiv 8))}
def iu(packed:Bool)(kind:Int)(p:PL)(f:ay)(g:Int×Int):PL:=
 let a:PL:={p with bN:=max p.bN (eL packed f g.2),bit:=if kind=4 then 0 else p.bit}
 ly (if f.bits=true then lv a f else wK a f g.1 (eL packed f g.2))
mutual
def A:T→(Int×Int)×Bool
 | .mk kind size packed aD bg aU=>
  if kind=1∨kind=2 then((size,size),true)
  else if kind=5 then((B ((fi aU).1.1*bg),(fi aU).1.2),(fi aU).2&&decide (B ((fi aU).1.1*bg)≤65536))
  else match dW packed kind ⟨0,1,[],0⟩ aD with
   |none=>((0,0),false)
   |some p=>((ca p.size p.bN,p.bN),decide (ca p.size p.bN≤65536))
def fi:List T→(Int×Int)×Bool
 |[]=>((0,0),false)
 |t::_=>A t
def AE:ay→(Int×Int)×Bool
 | .mk E type bits aN=>A type
def dW(packed:Bool)(kind:Int)(p:PL):List ay→Option PL
 |[]=>some p
 |f::r=>if(AE f).2=true then dW packed kind (iu packed kind p f (AE f).1) r else none
end
theorem qb(f:ay):AE f=A f.type:=by cases f;rfl
theorem lz(t:T):A t=if t.kind=1∨t.kind=2 then((t.size,t.size),true)
  else if t.kind=5 then((B ((fi t.aU).1.1*t.bg),(fi t.aU).1.2),(fi t.aU).2&&decide (B ((fi t.aU).1.1*t.bg)≤65536))
  else match dW t.packed t.kind ⟨0,1,[],0⟩ t.aD with
   |none=>((0,0),false)
   |some p=>((ca p.size p.bN,p.bN),decide (ca p.size p.bN≤65536)):=by cases t;rfl
theorem hV.RC{H0 H:Z}{sz g len m:Nat}{x y:I}{cells news:List I}{K:ad}(h:hV H0 H sz x len cells)(j:fe H sz y=some (m,news))(hn:news.length=m*sz)(hs:news.all I.scalar=true)(k:m≠0)
  (hb:(len+m)*g≤140737488355328) (hl:len+m≤9223372036854775807) (l:∀p H',hV H0 H' sz p (len+m) (cells++news)→(∀i o,At H i o→(∀a b,o ≠ .tok a b)→At H' i o)→K p H'):au (cp H false sz g x y) K:=by
 obtain⟨c,tk,rfl,hc,q⟩:=h;have hlen:(cells++news).length=(len+m)*sz:=by simp[hc,hn,YA]
 rcases q with⟨rfl,rfl⟩|⟨t,rfl,h1,s,f⟩
 · refine⟨.aq (.own H.n) (0+m) (cells++news),H.push (.tok ((0+m)*sz) sz),?_,l _ _ ⟨c.trans (Z.Ext.push _ _),_,rfl,hlen,.inr ⟨H.n,rfl,c.1,aaP _,Z.p4 _ _⟩⟩ λi o d _=>d.push _⟩;simp only[cp,j,hs,not_true_eq_false,bR,ae k];rw[ae (by simp only[abF];exact⟨hc,hb,hl⟩)]
 · refine ⟨.aq (.own H.n) (len+m) (cells++news),(H.set t .gone).push (.tok ((len+m)*sz) sz),?_,l _ _ ⟨(c.set h1 _).trans (Z.Ext.push _ _),_,rfl,hlen,.inr ⟨H.n,rfl,c.1,aaP _,Z.p4 _ _⟩⟩ λi o d r=>?_⟩
   · simp only[cp,j,hs,not_true_eq_false,bR,ae k];rw[ae (by simp only[abF];exact⟨hc,hb,hl⟩)];simp[f]
   ·exact(d.bZ (λe=>by subst e;rw[d.2]at f;exact r _ _ f) _).push _
theorem hV.other{H0 H:Z}{cells:List I}(h:hV H0 H sz x len cells){id:Nat}(ha:At H id (.row cs))(b:H0.n≤id)(y:bL):hV H0 (H.set id y) sz x len cells:=by
 obtain⟨c,tk,rfl,hc,d⟩:=h;refine⟨c.set b y,tk,rfl,hc,?_⟩;rcases d with h|⟨t,rfl,h1,f,a⟩
 ·exact .inl h
 ·exact .inr ⟨t,rfl,h1,f,by rw[Z.bZ _ _ (λe=>by subst e;rw[ha.2]at a;cases a)];exact a⟩
theorem hV.push{H0 H:Z}{cells:List I}(h:hV H0 H sz x len cells)(y:bL):hV H0 (H.push y) sz x len cells:=by
 obtain⟨a,tk,rfl,hc,b⟩:=h;refine⟨a.trans (Z.Ext.push _ _),tk,rfl,hc,?_⟩;rcases b with h|⟨t,rfl,h1,c,d⟩
 ·exact .inl h
 ·exact .inr ⟨t,rfl,h1,Nat.lt_succ_of_lt c,by rw[Z.QT _ _ (by omega)];exact d⟩
def ew(H0 H:Z)(id:Nat)(p:PL):Prop:=∃x,At H id (.row [M p.size,M p.bN,x,M p.bit])∧hV H0 H 6 x p.du.length (p.du.flatMap bp.cells)∧H0.n≤id
theorem ew.push{H0 H:Z}{id:Nat}{p:PL}(h:ew H0 H id p)(y:bL):ew H0 (H.push y) id p:=by obtain⟨x,h1,a,b⟩:=h;exact⟨x,h1.push y,a.push y,b⟩
theorem ew.other{H0 H:Z}{id i:Nat}{p:PL}(h:ew H0 H id p)(ha:At H i (.row cs))(hi:H0.n≤i)(a:id≠i)(y:bL):ew H0 (H.set i y) id p:=by obtain⟨x,h1,b,c⟩:=h;exact⟨x,h1.bZ a y,b.other ha hi y,c⟩
def jG(H H':Z)(id:Nat):Prop:=∀i cs,i≠id→At H i (.row cs)→At H' i (.row cs)
theorem jG.refl(H:Z)(id:Nat):jG H H id:=λ_ _ _ h=>h
theorem jG.trans{H H' a:Z}{id:Nat}(h:jG H H' id)(k:jG H' a id):jG H a id:=λi cs hi ha=>k i cs hi (h i cs hi ha)
section
variable{H0 H:Z}{id:Nat}{p:PL}{K:Z→Prop}
theorem ew.wL(h:ew H0 H id p):O H 1 false (.ptr id 0)=some (M p.size):=by obtain⟨x,h1,_⟩:=h;rw[h1.load];rfl
theorem ew.AF(h:ew H0 H id p):O H 1 false (.ptr id 1)=some (M p.bN):=by obtain⟨x,h1,_⟩:=h;rw[h1.load];rfl
theorem ew.nU(h:ew H0 H id p):O H 1 false (.ptr id 3)=some (M p.bit):=by obtain⟨x,h1,_⟩:=h;rw[h1.load];rfl
theorem ew.HG(h:ew H0 H id p)(v:Int)(b:∀H',ew H0 H' id {p with size:=v}→jG H H' id→K H'):Do (Y H 1 (.ptr id 0) (M v)) K:=by obtain⟨x,h1,c,a⟩:=h;refine⟨_,by rw[h1.store,aa ⟨rfl,rfl,rfl,by simp⟩];rfl,b _ ⟨x,h1.set _,c.other h1 a _,a⟩ λi cs hi ha=>ha.bZ hi _⟩
theorem ew.RD(h:ew H0 H id p)(v:Int)(b:∀H',ew H0 H' id {p with bN:=v}→jG H H' id→K H'):Do (Y H 1 (.ptr id 1) (M v)) K:=by obtain⟨x,h1,c,a⟩:=h;refine⟨_,by rw[h1.store,aa ⟨rfl,rfl,rfl,by simp⟩];rfl,b _ ⟨x,h1.set _,c.other h1 a _,a⟩ λi cs hi ha=>ha.bZ hi _⟩
theorem ew.r2(h:ew H0 H id p)(v:Int)(b:∀H',ew H0 H' id {p with bit:=v}→jG H H' id→K H'):Do (Y H 1 (.ptr id 3) (M v)) K:=by obtain⟨x,h1,c,a⟩:=h;refine⟨_,by rw[h1.store,aa ⟨rfl,rfl,rfl,by simp⟩];rfl,b _ ⟨x,h1.set _,c.other h1 a _,a⟩ λi cs hi ha=>ha.bZ hi _⟩
theorem ew.app(h:ew H0 H id p)(hl:p.du.length<1000)(s:bp)(g:∀H',ew H0 H' id {p with du:=p.du++[s]}→jG H H' id→K H') :
  Do (O H 1 false (.ptr id 2)) λj=>
  au (dk H false 6 1 [J,J,J,P,J,J] [(0,6,.agg s.cells)]) λk l=>
  au (cp l false 6 48 j k) λn o=>
  Do (Y o 1 (.ptr id 2) n) K:=by
 obtain⟨x,h1,q,e⟩:=h;have e1:O H 1 false (.ptr id 2)=some x:=by rw[h1.load];rfl
 have r:dk H false 6 1 [J,J,J,P,J,J] [(0,6,.agg s.cells)]=some (.aq .full 1 s.cells,H):=rfl;rw[e1,r];simp only[D,aP];refine q.RC (m:=1) (news:=s.cells) rfl rfl rfl (by decide) (by omega) (by omega) λc H' f hk=>?_;have a1:=hk id _ h1 (by intro a b h;cases h);have d:c.scalar=true∧c.known=true∧c.cells=[c]:=by obtain⟨_,tk,rfl,_⟩:=f;exact⟨rfl,rfl,rfl⟩
 refine⟨_,by rw[a1.store,aa ⟨d.2.1,by rw[d.2.2];rfl,by rw[d.2.2];simp[d.1],by simp⟩,d.2.2];rfl,g _ ⟨c,a1.set _,?_,e⟩ λi cs hi ha=>(hk i _ ha (by intro a b h;cases h)).bZ hi _⟩;have:=f.other a1 e (.row [M p.size,M p.bN,c,M p.bit]);simpa using this
end
end Rb

namespace Rb
open Go
theorem wM(a b:Int):bm [J,J] [(0,1,M a),(1,1,M b)]=some (.agg [M a,M b]):=rfl
theorem RE(a:Int):bm [J,J] [(0,1,M a)]=some (.agg [M a,J]):=rfl
theorem RF(a l k b:Int):bm [J,J,J,P,J,J] [(0,2,.agg [M a,M l]),(2,1,M k),(3,1,br),(4,1,M b)]=some (.agg [M a,M l,M k,br,M b,J]):=rfl
theorem RG(a l k b w:Int):bm [J,J,J,P,J,J] [(0,2,.agg [M a,M l]),(2,1,M k),(3,1,br),(4,1,M b),(5,1,M w)]=some (.agg [M a,M l,M k,br,M b,M w]):=rfl
theorem RH(a l k:Int):bm [J,J,J,P,J,J] [(0,2,.agg [M a,M l]),(2,1,M k)]=some (.agg [M a,M l,M k,P,J,J]):=rfl
theorem HH(f:ay)(i j:Nat):W i (.af (f.cells.drop j))=some (.af ((f.cells.drop j).drop i)):=rfl
theorem HI(f:ay)(i:Nat):W i (.af f.cells)=some (.af (f.cells.drop i)):=rfl
theorem RJ(f:ay)(H:Z):O H 1 false (.af (f.cells.drop 7))=some (.bool f.bits):=by cases f with|mk n t b w=>cases t;rfl
theorem AG(f:ay)(H:Z):O H 1 false (.af (f.cells.drop 8))=some (M f.aN):=by cases f with|mk n t b w=>cases t;rfl
theorem HJ(f:ay)(H:Z):O H 1 false (.af ((f.cells.drop 1).drop 1))=some (M f.type.size):=by cases f with|mk n t b w=>cases t;rfl
theorem HK(i o:Nat):aX (.ptr i o)=some (.ptr i o):=rfl
section
variable{Φ:aj}{H0 H:Z}{Q:ad}
theorem RK(hT:Cl Φ S.bu){f:ay}{p:PL}{id:Nat}(hp:ew H0 H id p)(hl:p.du.length<1000)(e:B (8*f.type.size)≠0)(hQ:∀H',ew H0 H' id (lv p f)→jG H H' id→Q (.ar []) H'):S.f166 Φ (.ptr id 0) (.agg f.cells) H Q:=by
 unfold S.f166;simp only[wJ,aP,HI,HH,HJ,AG,jF,cJ,D,aB,HK,W,YO];apply aF<;>intro h
 · have hw:f.aN=0:=by simpa using h
   simp only[hp.nU,D];refine S.p3 hT (qa e ?_);refine hp.r2 _ λH1 a c=>?_;have g:=a.nU;simp only[g,D,mb _ _ _ (show(8:Int)≠0 by decide),wo _ _ _ (show(8:Int)≠0 by decide),RE,RF];refine a.app hl ⟨B ((ca p.bit (B (8*f.type.size))).tdiv 8),0,1,true,(ca p.bit (B (8*f.type.size))).tmod 8,0⟩ λH2 d i=>hQ H2 ?_ (c.trans i);unfold lv;rw[aa hw];exact d
 · have hw:¬f.aN=0:=by simpa using h
   simp only[hp.nU,D,mb _ _ _ e,b4,fZ,dZ,aB];have k1:∀(b:Int)(H1:Z),b=hX p f→ew H0 H1 id {p with bit:=b}→jG H H1 id→N (S.vU Φ (.ptr id 0) (.af f.cells) Q) [] H1:=by intro b H1 hb a c;have g:=a.nU;simp only[aR,S.vU,HK,W,YO,D,g,mb _ _ _ (show(8:Int)≠0 by decide),wo _ _ _ (show(8:Int)≠0 by decide),AG,b4,fZ,wM,RG];refine a.app hl ⟨B (b.tdiv 8),B (B (B ((B (B (b+f.aN)-1)).tdiv 8)-B (b.tdiv 8))+1),1,true,b.tmod 8,f.aN⟩ λH2 d i=>?_;have j:=d.nU;simp only[j,D,b4];refine d.r2 _ λk l m=>hQ k ?_ ((c.trans i).trans m);unfold lv;rw[ae hw,←hb];exact l
   apply aF<;>intro h
   · refine S.p3 hT (qa e ?_);refine hp.r2 _ λH1 a c=>k1 _ H1 ?_ a c;unfold hX;rw[aa (by simpa using h)]
   · refine k1 p.bit H ?_ hp (jG.refl _ _);unfold hX;rw[ae (by simpa using h)]
theorem RL{t:T}{f:ay}{bN:Int}(hQ:Q (M (eL t.packed f bN)) H):S.f165 Φ (.agg t.cells) (.agg f.cells) (M bN) H Q:=by
 have fin:∀v,v=eL t.packed f bN→Q (M v) H:=λv h=>by rw[h];exact hQ
 clear hQ;unfold S.f165;simp only[gz,wJ,aP,dV,wx,HI,RJ,AG,cJ,D,cv,cD,aR,S.vT,aE,aB,HH,HJ,ZV,bR,aY];unfold eL at fin
 repeat' (apply aF<;>intro h)
 all_goals (refine fin _ ?_;simp_all)
end
end Rb

namespace Rb
open Go
def lA(r:(Int×Int)×Bool):I:= .ar [.agg [M r.1.1,M r.1.2],.bool r.2]
theorem wN{packed:Bool}:∀{l:List ay}{seen:List (List UInt8)},fJ packed seen l=0→∀f∈l,f.bits=true→f.type.kind=1∧1≤f.type.size∧f.type.size≤8
 |[],_,_,f,hf=>by cases hf
 | g :: r, seen,h,f,hf=>by
  intro hb;have hs:=rZ h f hf;simp only[fJ]at h;have a:gK packed seen g=0:=by
   by_cases hz:gK packed seen g=0
   ·exact hz
   ·rw[aa hz]at h;exact absurd h hz
  rw[ae (by simpa using a)]at h;rcases aan.1 hf with rfl|hf
  · have hk : f.type.kind=1:=by
      by_cases hk:f.type.kind=1
      ·exact hk
      · exfalso;rw[nS]at a;split at a
        ·cases a
        · split at a
          ·cases a
          · split at a
            ·rename_i hz;exact hz a
            ·rw[aa (.inr ⟨hb,.inl hk⟩)]at a;cases a
    refine⟨hk,?_⟩;rw[gA,hk]at hs;split at hs
    ·cases hs
    · simp only[aY]at hs;split at hs
      · rename_i hp;simp[fh]at hp;omega
      ·cases hs
  ·exact wN h f hf hb
theorem HL{t:T}(h:c6 t=0)(b:t.kind=3∨t.kind=4):fJ t.packed [] t.aD=0:=by
 rw[gA]at h;have k1:t.kind≠1:=by omega
 have k2:t.kind≠2:=by omega
 have a:t.kind≠5:=by omega
 rw[ae k1,ae k2,ae a]at h;split at h
 ·cases h
 · split at h
   ·cases h
   ·exact h
theorem HM(a b:Int):fo true [M a,M b]=some (M (max a b)):=Aq a b
section
variable{Φ:aj}{H:Z}{Q:ad}
def iv:List I:=[J,J,aQ,J]
theorem AJ(hT:Cl Φ S.bu){t:T}(hs:c6 t=0)(r:t.kind=3∨t.kind=4)
  (ag:∀f∈t.aD,bE Φ 86 [.agg f.type.cells] (lA (A f.type))) (ah:∀f∈t.aD,(A f.type).2=true→1≤(A f.type).1.2)
  (ai:dW t.packed t.kind ⟨0,1,[],0⟩ t.aD=none→∀H',Z.Ext H H'→Q (.ar [.agg iv,P]) H')
  (aj:∀p,dW t.packed t.kind ⟨0,1,[],0⟩ t.aD=some p→∀x H',hV H H' 6 x p.du.length (p.du.flatMap bp.cells) →
    Q (.ar [.agg [M (ca p.size p.bN),M p.bN,x,M p.bit],.bool (decide (ca p.size p.bN≤65536))]) H'):S.f115 Φ (.agg t.cells) H Q:=by
 obtain⟨aW,hlen⟩:=mO hs r;have K:=HL hs r;unfold S.f115;have ak:bm [J,J,aQ,J] [(0,2,.agg [J,M 1])]=some (.agg [J,M 1,aQ,J]):=rfl;simp only[gz,aP,aJ,aY,wM,ak,D];rw[cM _ _ _ 4 rfl rfl rfl];simp only[D,dV,kz,cO];have a3:At ((H.push (.row iv)).push (.row [J,M 1,aQ,J])) H.n (.row iv):=(At.new H _).push _;have al:ew H ((H.push (.row iv)).push (.row [J,M 1,aQ,J])) (H.push (.row iv)).n ⟨0,1,[],0⟩:=⟨_,At.new _ _,((hV.nil H 6).push _).push _,YH _⟩
 have d:H.n≠(H.push (.row iv)).n:=by simp
 have L:H.n≤H.n:=sl _;change aA (S.nJ Φ (.af t.cells) (.ptr H.n 0) (.ptr (H.push (.row iv)).n 0) (av ay.cells t.aD) (M t.aD.length) Q) ([J],(H.push (.row iv)).push (.row [J,M 1,aQ,J]));generalize ((H.push (.row iv)).push (.row [J,M 1,aQ,J]))=am at *;generalize (H.push (.row iv)).n=a at *;have main : ∀(fs:List ay)(i:Nat)(p:PL)(H1:Z),t.aD.drop i=fs→At H1 H.n (.row iv)→ew H H1 a p→p.du.length≤i→1≤p.bN→dW t.packed t.kind p fs=dW t.packed t.kind ⟨0,1,[],0⟩ t.aD →
   aA (S.nJ Φ (.af t.cells) (.ptr H.n 0) (.ptr a 0) (av ay.cells t.aD) (M t.aD.length) Q) ([M i],H1):=by
  intro fs;induction fs with
  | nil=>
   intro i p H1 z b3 m an ao g;have hle:=ek z;simp only[dW]at g;refine aA.step ?_;simp only[S.nJ,aE,bD,D,aB];rw[ee];simp only[aR,S.F0,W,YO,D,m.wL,m.AF];refine S.p3 hT (qa (by omega) ?_);refine m.HG _ λH2 s r=>?_;have c3:=r H.n _ d b3;obtain⟨x,d1,d2,d3⟩:=s;have C:x.scalar=true:=by obtain⟨_,tk,rfl,_⟩:=d2;rfl
   rw[d1.all (n:=4) rfl];simp only[D];have l0:O H2 1 false (.ptr a 0)=some (M (ca p.size p.bN)):=by rw[d1.load];rfl
   rw[l0];simp only[D,ji];rw[c3.put (n:=4) rfl rfl (by simp only[aaM,C];rfl)];simp only[D];refine⟨by rw[(d1.bZ (λe=>d e.symm) _).load];rfl,?_⟩;rw[(c3.set _).all (n:=4) rfl];simp only[D];exact aj p g.symm x _ (d2.other c3 L _)
  | cons f fs ap=>
   intro i p H1 z b3 m an ao g;obtain⟨aq,hf,au⟩:=ed z;have u:=aaN hf;simp only[dW,qb]at g;refine aA.step ?_;simp only[S.nJ,aE,bD,D,aB];rw[dU,cK aq];simp only[D];rw[dz ay.len (by decide) _ hf];simp only[D,aP,aJ,aY];rw[cM _ _ _ 9 f.len f.scalar rfl];simp only[D,W,YO];rw[eK,wy];simp only[D];have n7:a≠H1.n:=by obtain⟨x,d1,_⟩:=m;exact d1.lr
   have aw:=At.new H1 (.row f.cells);have c3:=b3.push (.row f.cells);have s:=m.push (.row f.cells);generalize H1.push (.row f.cells)=H2 at *;generalize H1.n=o at *;refine ag f u _ _ ?_;simp only[lA,bh,abp,abq,D,aP];rw[cM _ _ _ 2 rfl rfl rfl];simp only[D,dS,aB];have n31:a≠H2.n:=by obtain⟨x,d1,_⟩:=s;exact d1.lr
   have d31:=At.new H2 (.row [M (A f.type).1.1,M (A f.type).1.2]);have d22:=aw.push (.row [M (A f.type).1.1,M (A f.type).1.2]);have d3:=c3.push (.row [M (A f.type).1.1,M (A f.type).1.2]);have d7:=s.push (.row [M (A f.type).1.1,M (A f.type).1.2]);generalize H2.push (.row [M (A f.type).1.1,M (A f.type).1.2])=ax at *;generalize H2.n=j at *;apply aF<;>intro h
   · have az:(A f.type).2=false:=by simpa using h
     rw[ae (by simp[az])]at g;have aC:bm [J,J,aQ,J] []=some (.agg iv):=rfl;rw[aC];simp only[D];rw[d3.put (n:=4) rfl rfl rfl];simp only[D];rw[(d3.set _).all (n:=4) rfl];simp only[D];obtain⟨aX,_,⟨C,_⟩,_⟩:=d7;exact ai g.symm _ (C.set L _)
   · have N:(A f.type).2=true:=by simpa using h
     rw[aa N]at g;have aG:=ah f u N;have aH:O ax 1 false (.ptr j 1)=some (M (A f.type).1.2):=by rw[d31.load];rfl
     simp only[iU,d22.all f.len,aH,D];have aZ:1≤eL t.packed f (A f.type).1.2:=by
      unfold eL;split
      ·omega
      · split
        ·rename_i hb;exact(wN K f u hb).2.1
        ·exact aG
     refine S.Ql hT (RL ?_);simp only[d7.AF,D,HM];refine d7.RD _ λaI R v=>?_;have U:=v H.n _ d d3;have V:=v o _ (λe=>n7 e.symm) d22;have X:=v j _ (λe=>n31 e.symm) d31;clear v d7 d3 d22 d31;have Y:∀(b:Int)(c:Z),b=(if t.kind=4 then 0 else p.bit)→ew H c a {p with bN:=max p.bN (eL t.packed f (A f.type).1.2),bit:=b}→At c H.n (.row iv)→At c o (.row f.cells)→At c j (.row [M (A f.type).1.1,M (A f.type).1.2]) →
       S.vp Φ (.ptr a 0) (.ptr o 0) (.ptr j 0) (M (eL t.packed f (A f.type).1.2)) ([M i],H1) (aA (S.nJ Φ (.af t.cells) (.ptr H.n 0) (.ptr a 0) (av ay.cells t.aD) (M t.aD.length) Q)) Q [] c:=by
      intro b c hb g7 g3 g22 ab;have k2:∀(q:PL)(k:Z),ly q=iu t.packed t.kind p f (A f.type).1→ew H k a q→At k H.n (.row iv)→q.du.length≤i+1→1≤q.bN →
        S.vo Φ (.ptr a 0) ([M i],H1) (aA (S.nJ Φ (.af t.cells) (.ptr H.n 0) (.ptr a 0) (av ay.cells t.aD) (M t.aD.length) Q)) Q [] k:=by
       intro q k aK l aL aM aN;simp only[S.vo,W,YO,D,l.wL,l.nU];refine S.p3 hT (qa (by decide) ?_);refine⟨l.wL,?_⟩;simp only[mb _ _ _ (show(8:Int)≠0 by decide),D,HM];refine l.HG _ λE F G=>?_;simp only[aR,S.FZ,aE,b4,D];rw[bI,iT i];refine ap (i+1) (ly q) E au (G H.n _ d aL) F aM aN ?_;rw[aK];exact g
      have ac:1≤max p.bN (eL t.packed f (A f.type).1.2):=by omega
      have aO:O c 1 false (.ptr o 7)=some (.bool f.bits):=by rw[g22.load,Ap]
      simp only[S.vp,W,YO,D,aO,aB];apply aF<;>intro w
      · obtain ⟨a0,a1,a2⟩:=wN K f u w;have hu:B (8*f.type.size)≠0:=by
         show Zb .i64 (8*f.type.size)≠0;rw[bI];omega
        rw[g22.all f.len];simp only[D];refine S.Qm hT (RK hT g7 (by show p.du.length<1000;omega) hu λk l y=>?_);simp only[aR];refine k2 _ k ?_ l (y H.n _ d g3) ?_ ?_
        · unfold iu;simp only[w,aY,hb]
        · unfold lv;split<;>(simp only[abI,abJ,ab7];omega)
        · unfold lv;split<;>exact ac
      · simp only[abW]at w;have aS:O c 1 false (.ptr j 0)=some (M (A f.type).1.1):=by rw[ab.load];rfl
        have aT:O c 1 false (.ptr o 1)=some (M f.type.kind):=by rw[g22.load,Hr]
        simp only[g7.nU,D];refine S.p3 hT (qa (by decide) ?_);simp only[mb _ _ _ (show(8:Int)≠0 by decide),D];refine S.p3 hT (qa (by omega) ?_);simp only[aS,aT,D,wM,RH];refine g7.app (by show p.du.length<1000;omega) ⟨ca (B ((ca b 8).tdiv 8)) (eL t.packed f (A f.type).1.2),(A f.type).1.1,f.type.kind,false,0,0⟩ λk l y=>?_;have aU:=y j _ (λe=>n31 e.symm) ab;have aV:O k 1 false (.ptr j 0)=some (M (A f.type).1.1):=by rw[aU.load];rfl
        simp only[aV,D,b4,jF];refine l.r2 _ λE F G=>?_;simp only[aR];refine k2 _ E ?_ F (G H.n _ d (y H.n _ d g3)) ?_ ac
        · unfold iu;simp only[w,ZV,bR,hb];rfl
        · show(p.du++[_]).length≤i+1;simp only[abI,abJ,ab7];omega
     simp only[dV,ky,cJ,D,aB,aR];apply aF<;>intro ad
     · refine R.r2 _ λc g7 I=>Y _ c ?_ g7 (I H.n _ d U) (I o _ (λe=>n7 e.symm) V) (I j _ (λe=>n31 e.symm) X);rw[aa (by simpa using ad)]
     · refine Y p.bit aI ?_ R U V X;rw[ae (by simpa using ad)]
 exact main t.aD 0 _ am rfl a3 al (sl _) (by decide) rfl
end
end Rb

namespace Rb
open Go
theorem nV{t:T}(h:c6 t=0):t.kind=1∨t.kind=2∨t.kind=5∨t.kind=3∨t.kind=4:=by
 rw[gA]at h;split at h
 ·cases h
 · rename_i a;simp only[abX]at a;unfold ir at a;by_cases h1:t.kind=1
   ·exact .inl h1
   by_cases b:t.kind=2
   ·exact .inr (.inl b)
   by_cases c:t.kind=3
   ·exact .inr (.inr (.inr (.inl c)))
   by_cases d:t.kind=4
   ·exact .inr (.inr (.inr (.inr d)))
   by_cases e:t.kind=5
   ·exact .inr (.inr (.inl e))
   simp[h1,b,c,d,e]at a
section
variable{Φ:aj}{H:Z}{Q:ad}
theorem AK:bm [J,J] []=some (.agg [J,J]):=rfl
theorem RM(hT:Cl Φ S.bu){t:T}(hs:c6 t=0)
  (u:∀f∈t.aD,bE Φ 86 [.agg f.type.cells] (lA (A f.type))) (v:∀f∈t.aD,(A f.type).2=true→1≤(A f.type).1.2)
  (w:∀e∈t.aU,bE Φ 86 [.agg e.cells] (lA (A e))) (hQ:∀H',Q (lA (A t)) H'):S.f86 Φ (.agg t.cells) H Q:=by
 have fin:∀r,r=A t→∀H',Q (lA r) H':=λr h=>by rw[h];exact hQ
 clear hQ;rw[lz]at fin;unfold S.f86;simp only[gz,aP,aJ,aY,dV,ky,cJ,D,aB];have a3:=At.new H (.row [J,J]);generalize H.push (.row [J,J])=c at *;generalize H.n=q at *;have k2 : ∀b:Bool,(b=true↔(t.kind=1∨t.kind=2))→N (S.u5 Φ (.af t.cells) (.ptr q 0) (M t.kind) Q) [.bool b] c:=by
  intro b hb;simp only[aR,S.u5,aE,aB];apply aF<;>intro h
  · have d:=hb.1 h;rw[aa d]at fin;simp only[dV,p7,D,wM];rw[a3.put (n:=2) rfl rfl rfl];simp only[D];rw[(a3.set _).all (n:=2) rfl];simp only[D];exact fin _ rfl _
  · have d:¬(t.kind=1∨t.kind=2):=λy=>h (hb.2 y);rw[ae d]at fin;simp only[cJ,D,aB];apply aF<;>intro h
    · have g:t.kind=5:=by simpa using h
      rw[aa g]at fin;obtain⟨e,he,_⟩:=lu hs g;simp only[dV,ls,D];have ha:aO none 6 (av T.cells t.aU) (J)=some (dE T.cells 6 t.aU 0):=cK (by rw[he];simp);rw[ha];simp only[D];rw[dz T.len (by decide) _ (show t.aU[0]?=some e by rw[he];rfl)];simp only[D];refine w e (by rw[he];simp) _ _ ?_;rw[he]at fin;simp only[fi]at fin;simp only[lA,bh,abp,abq,D,aP,aJ,aY];rw[cM _ _ _ 2 rfl rfl rfl];simp only[D,W,YO,dV,rW];have n28:q≠c.n:=a3.lr;have l:=At.new c (.row [M (A e).1.1,M (A e).1.2]);have b3:=a3.push (.row [M (A e).1.1,M (A e).1.2]);generalize c.push (.row [M (A e).1.1,M (A e).1.2])=k at *;generalize c.n=i at *;have l1:O k 1 false (.ptr i 0)=some (M (A e).1.1):=by rw[l.load];rfl
      simp only[l1,D,jF];have s1:Y k 1 (.ptr i 0) (M (B ((A e).1.1*t.bg)))=some (k.set i (.row [M (B ((A e).1.1*t.bg)),M (A e).1.2])):=by rw[l.store,aa ⟨rfl,rfl,rfl,by simp⟩];rfl
      rw[s1];simp only[D];have m:=l.set (.row [M (B ((A e).1.1*t.bg)),M (A e).1.2]);have c3:=b3.bZ n28 (.row [M (B ((A e).1.1*t.bg)),M (A e).1.2]);generalize k.set i (.row [M (B ((A e).1.1*t.bg)),M (A e).1.2])=z at *;rw[m.all (n:=2) rfl];have l2:O z 1 false (.ptr i 0)=some (M (B ((A e).1.1*t.bg))):=by rw[m.load];rfl
      simp only[D,cD];apply aF<;>intro h
      · simp only[l2,D,ji];rw[c3.put (n:=2) rfl rfl rfl];simp only[D];refine⟨λ_=>?_,?_⟩
        ·rw[(m.bZ n28.symm _).load];rfl
        · rw[(c3.set _).all (n:=2) rfl];simp only[D];exact fin ((B ((A e).1.1*t.bg),(A e).1.2),decide (B ((A e).1.1*t.bg)≤65536)) (by rw[h,Bool.true_and];rfl) _
      · simp only[abW]at h;rw[c3.put (n:=2) rfl rfl rfl];simp only[D];refine And.intro (λy=>nomatch y) ?_;rw[(c3.set _).all (n:=2) rfl];simp only[D];exact fin ((B ((A e).1.1*t.bg),(A e).1.2),false) (by rw[h,Bool.false_and]) _
    · have g:¬t.kind=5:=by simpa using h
      rw[ae g]at fin;have hk:t.kind=3∨t.kind=4:=by
       rcases nV hs with h|h|h|h
       ·exact absurd (.inl h) d
       ·exact absurd (.inr h) d
       ·exact absurd h g
       ·exact h
      simp only[aR,S.Fp,iU,D];refine S.Ai hT (AJ hT hs hk u v ?_ ?_)
      · intro hn H' o;rw[hn]at fin;simp only[bh,abp,abq,D,aP,aJ,aY];rw[cM _ _ _ 4 rfl rfl rfl];simp only[D,W,YO];rw[eK];have tk:bT iv 0 2 true=some (.agg [J,J]):=rfl;rw[tk];simp only[D];have j:=(a3.ext o).push (.row iv);rw[j.put (n:=2) rfl rfl rfl];simp only[D];rw[(j.set _).all (n:=2) rfl];simp only[D];exact fin ((0,0),false) rfl _
      · intro p hp x H' s;rw[hp]at fin;have o:=s.1;have C:x.scalar=true:=by obtain⟨_,tk,rfl,_⟩:=s;rfl
        simp only[bh,abp,abq,D,aP,aJ,aY];rw[cM _ _ _ 4 rfl (by simp only[aaM,C];rfl) rfl];simp only[D,W,YO];rw[eK];have tk:bT [M (ca p.size p.bN),M p.bN,x,M p.bit] 0 2 true=some (.agg [M (ca p.size p.bN),M p.bN]):=rfl;rw[tk];simp only[D];have j:=(a3.ext o).push (.row [M (ca p.size p.bN),M p.bN,x,M p.bit]);rw[j.put (n:=2) rfl rfl rfl];simp only[D];rw[(j.set _).all (n:=2) rfl];simp only[D];exact fin ((ca p.size p.bN,p.bN),decide (ca p.size p.bN≤65536)) rfl _
 apply aF<;>intro h
 ·exact k2 _ ⟨λ_=> .inl (by simpa using h),λ_=>h⟩
 · refine k2 _ ⟨λa=> .inr (by simpa using a),λa=>?_⟩;rcases a with a|a
   ·exact absurd (by simpa using a) h
   ·simpa using a
end
end Rb

namespace Rb
open Go
theorem RN(packed:Bool)(kind:Int)(p:PL)(f:ay)(g:Int×Int):p.bN≤(iu packed kind p f g).bN:=by
 have h:(iu packed kind p f g).bN=max p.bN (eL packed f g.2):=by
  unfold iu;simp only;split
  · unfold ly lv;split<;>rfl
  ·rfl
 rw[h];omega
theorem HN{packed:Bool}{kind:Int}:∀{l:List ay}{p q:PL},dW packed kind p l=some q→p.bN≤q.bN
 |[],p,q,h=>by simp only[dW,Yh.injEq]at h;rw[h];exact Int.le_refl _
 | f::r,p,q,h=>by
  simp only[dW]at h;split at h
  ·exact Int.le_trans (RN packed kind p f _) (HN h)
  ·cases h
theorem wO:∀t:T,c6 t=0→(A t).2=true→1≤(A t).1.2:=by
 refine T.ind λt f c hs h=>?_;rw[lz]at h ⊢;split at h
 · rename_i a;rw[aa a];rw[gA]at hs;split at hs
   ·cases hs
   · have hp:fh t.size 8=true∨fh t.size 16=true:=by
       rcases a with h1|h1
       · rw[aa h1]at hs;split at hs
         ·exact .inl ‹_›
         ·cases hs
       · rw[bC,aa h1]at hs;split at hs
         ·exact .inr ‹_›
         ·cases hs
     show 1≤t.size;rcases hp with hp|hp<;>(simp[fh]at hp;omega)
 · rename_i a;rw[ae a];split at h
   · rename_i b;rw[aa b];obtain⟨e,he,d⟩:=lu hs b;rw[he]at h ⊢;simp only[fi,X7]at h ⊢;exact c e (by rw[he];simp) d h.1
   · rename_i b;rw[ae b];cases hp:dW t.packed t.kind ⟨0,1,[],0⟩ t.aD with
     |none=>rw[hp]at h;cases h
     |some p=>exact HN hp
section
variable{C:Ctx}(ak:bP C)(hT:Cl (ai C) S.bu)
include ak hT
theorem wP:∀t:T,c6 t=0→bE (ai C) 86 [.agg t.cells] (lA (A t)):=by
 refine T.ind λt c d hs=>?_;refine bE.of ak (by simp[I.bA,I.a_,T.a_]) rfl λQ hQ=>S.Pn hT ?_;have a:ir t.kind t.size t.packed t.aD.length t.bg t.aU.length=true:=by
  rw[gA]at hs;split at hs
  ·cases hs
  ·rename_i h;simpa using h
 unfold ir at a;have b:∀f∈t.aD,c6 f.type=0:=by
  intro f hf;rcases nV hs with h|h|h|h
  · simp only[h,true_or,aY,X7,bG,Zo]at a;rw[a.1.1.2]at hf;cases hf
  · simp only[h,or_true,aY,X7,bG,Zo]at a;rw[a.1.1.2]at hf;cases hf
  · rw[bC,bC,aa h]at a;simp only[X7,bG,Zo]at a;rw[a.1.2]at hf;cases hf
  ·exact(mO hs h).1 f hf
 have g:∀e∈t.aU,c6 e=0:=by
  intro e he;rcases nV hs with h|h|h|h
  · simp only[h,true_or,aY,X7,bG,Zo]at a;rw[a.2]at he;cases he
  · simp only[h,or_true,aY,X7,bG,Zo]at a;rw[a.2]at he;cases he
  · obtain⟨k,i,j⟩:=lu hs h;rw[i]at he;rcases aan.1 he with rfl|he
    ·exact j
    ·cases he
  · rw[bC,aa h]at a;simp only[X7,bG,Zo]at a;rw[a.2]at he;cases he
 exact RM hT hs (λf hf=>c f hf (b f hf)) (λf hf=>wO f.type (b f hf)) (λe he=>d e he (g e he)) hQ
end
end Rb

namespace Rb
open Go
def aZ(t:T):(Int×Int)×Int:=if eg t≠0 then((0,0),eg t)else if gb t=true then((0,0),10)else if(A t).2=false then((0,0),9)else((A t).1,0)
theorem fM{t:T}(h:eg t=0):c6 t=0:=by
 unfold eg at h;split at h
 ·cases h
 ·exact h
section
variable{C:Ctx}(ak:bP C)(hT:Cl (ai C) S.bu)
include ak hT
theorem AL(t:T)(ht:t.ok){H:Z}{Q:ad}(hQ:∀H',Q (.ar [.agg [M (aZ t).1.1,M (aZ t).1.2],M (aZ t).2]) H'):S.f56 (ai C) (.agg t.cells) H Q:=by
 have fin:∀r,r=aZ t→∀H',Q (.ar [.agg [M r.1.1,M r.1.2],M r.2]) H':=λr h=>by rw[h];exact hQ
 clear hQ;unfold aZ at fin;unfold S.f56;simp only[gz,aP,aJ,aY,iU,D];have a3:=At.new H (.row [J,J]);generalize H.push (.row [J,J])=a at *;generalize H.n=c at *;refine Hx ak hT t ht _ _ ?_;simp only[dZ,D,aB];apply aF<;>intro h
 · have hs:eg t≠0:=by simpa using h
   rw[aa hs]at fin;simp only[AK,D];rw[a3.put (n:=2) rfl rfl rfl];simp only[D];rw[(a3.set _).all (n:=2) rfl];simp only[D];exact fin _ rfl _
 · have hs:eg t=0:=by simpa using h
   rw[ae (by simpa using hs)]at fin;refine RB hT t ht _ _ ?_;simp only[aB];apply aF<;>intro h
   · rw[aa h]at fin;simp only[AK,D];rw[a3.put (n:=2) rfl rfl rfl];simp only[D];rw[(a3.set _).all (n:=2) rfl];simp only[D];exact fin _ rfl _
   · rw [ae h]at fin;refine wP ak hT t (fM hs) _ _ ?_;simp only[lA,bh,abp,abq,D,aP,aJ,aY];rw[cM _ _ _ 2 rfl rfl rfl];simp only[D,dS,aB];have b:=At.new a (.row [M (A t).1.1,M (A t).1.2]);have b3:=a3.push (.row [M (A t).1.1,M (A t).1.2]);generalize a.push (.row [M (A t).1.1,M (A t).1.2])=d at *;generalize a.n=e at *;apply aF<;>intro h
     · rw[aa (by simpa using h)]at fin;simp only[AK,D];rw[b3.put (n:=2) rfl rfl rfl];simp only[D];rw[(b3.set _).all (n:=2) rfl];simp only[D];exact fin _ rfl _
     · rw[ae (by simpa using h)]at fin;rw[b.all (n:=2) rfl];simp only[D];rw[b3.put (n:=2) rfl rfl rfl];simp only[D];rw[(b3.set _).all (n:=2) rfl];simp only[D];exact fin _ rfl _
theorem wQ(t:T)(ht:t.ok):bE (ai C) 38 [.agg t.cells] (.ar [M (aZ t).1.1,M (aZ t).1.2,M (aZ t).2]):=by refine bE.of ak (by simp[I.bA,I.a_,T.a_]) rfl λQ hQ=>S.O1 hT ?_;unfold S.f38;simp only[gz,aP,iU,D];refine S.Ah hT (AL ak hT t ht λH'=>?_);simp only[bh,abp,abq,D,aP,aJ,aY];rw[cM _ _ _ 2 rfl rfl rfl];simp only[D,W,YO,eK];exact⟨_,rfl,_,rfl,hQ _⟩
end
end Rb

namespace Rb
open Go
structure ba where
 g:List (List UInt8)
 lets:Int
 V:Int
 lB:Int
 bH:Int
def ba.cG(s:ba)(a:Bool)(e:Int):ba:=if a=false∧s.bH=0 then {s with lB:=s.V,bH:=e} else s
def ba.back(s:ba)(n:Nat):ba:={s with g:=s.g.take n}
def ba.at(s:ba)(l:Int):ba:={s with V:=l}
def ba.AM(s:ba)(x:List UInt8):ba:={s with g:=s.g++[x],lets:=B (s.lets+1)}
def ba.has(s:ba)(x:List UInt8):Bool:=s.g.any λy=>x==y
def iw(k o:Int):Bool:=
 if k=4∨k=6 then o==1||o==3||o==4
 else if k=5∨k=15 then o==1||o==2||o==4
 else if k=16∨k=17∨k=18 then decide (1≤o)&&decide (o≤4)
 else if k=7 then decide (2≤o)&&decide (o≤4)
 else o==0
def kA(x:aM):Bool:=x.var==[]&&x.aC.length==0
def eG(k:Int):Bool×Bool×Bool×Int×Bool×Bool:=
 if k=1∨k=2 then(true,false,false,1,false,false)
 else if k=3∨k=4 then(false,false,true,1,false,false)
 else if k=5 then(true,true,true,0,false,false)
 else if k=6 then(false,false,true,2,false,false)
 else if k=7 then(false,false,false,0,false,false)
 else if k=8 then(false,false,false,1,true,true)
 else if k=9 then(false,false,false,1,true,false)
 else(false,false,false,1,false,false)
def jl(x:aw):Bool:=decide (1≤x.kind)&&decide (x.kind≤10)&&((eG x.kind).1||x.E==[])&&((eG x.kind).2.1||x.cg==[])&&((eG x.kind).2.2.1||kA x.place)&&((x.bc.length:Int)==(eG x.kind).2.2.2.1)&&((eG x.kind).2.2.2.2.1||x.be.length==0)&&((eG x.kind).2.2.2.2.2||x.bw.length==0)
def iy(k:Int):Int×Bool:=if k=3 then(2,false)else if k=4∨k=5 then(0,true)else if k=6∨k=7 then(1,true)else if k=8 then(2,true)else(0,false)
def hZ(e:X):Bool:=decide (1≤e.kind)&&decide (e.kind≤8)&&(e.kind==1||e.n==0)&&(e.kind==2||e.E==[])&&(if e.kind=3 then decide (1≤e.op)&&decide (e.op≤11)else e.op==0)&&((iy e.kind).2||kA e.place)&&((e.bn.length:Int)==(iy e.kind).1)
def j5(k:Int)(t:T):Bool:=if k=3∨k=14 then t.kind==1 else if k=5∨k=6 then t.kind==2&&t.size==16 else t.kind==2&&decide (t.size≤8)
section
variable(vars:List U)
def j6(s:ba)(k:Int)(x:aM):ba:=
 let s1:=s.cG ((bV vars x).1==0) (bV vars x).1
 s1.cG (s1.bH != 0||j5 k (bV vars x).2) 8
def eA(s:ba)(d:Int)(e:X):ba:=((s.cG (decide (d≤64)) 5).cG (hZ e) 4).cG (iw (B (10+e.kind)) e.aV) 11
mutual
def lC(s:ba)(d:Int):X→ba
 | .mk kind n E op aV place bn=>
  if(eA s d (.mk kind n E op aV place bn)).bH≠0 then eA s d (.mk kind n E op aV place bn)
  else eB (if kind≥4 then j7 (if kind=2 then(eA s d (.mk kind n E op aV place bn)).cG ((eA s d (.mk kind n E op aV place bn)).has E) 6 else eA s d (.mk kind n E op aV place bn)) (B (10+kind)) d place
    else(if kind=2 then(eA s d (.mk kind n E op aV place bn)).cG ((eA s d (.mk kind n E op aV place bn)).has E) 6 else eA s d (.mk kind n E op aV place bn))) d bn
def eB(s:ba)(d:Int):List X→ba
 |[]=>s
 |e::r=>eB (if s.bH≠0 then s else lC s (B (d+1)) e) d r
def j7(s:ba)(k:Int)(d:Int):aM→ba
 | .mk var aC=>if s.bH≠0 then s else hg (j6 vars s k (.mk var aC)) d aC
def hg(s:ba)(d:Int):List K→ba
 |[]=>s
 |p::r=>hg (mP s d p) d r
def mP(s:ba)(d:Int):K→ba
 | .mk field bb=>jH s d bb
def jH(s:ba)(d:Int):List X→ba
 |[]=>s
 |e::r=>jH (lC s (B (d+1)) e) d r
end
variable(kw:List UInt8→Bool)
def gd(s:ba)(d:Int)(x:aw):ba:=((s.cG (decide (d≤64)) 5).cG (jl x) 4).cG (iw x.kind x.aV) 11
def gL(s:ba)(d:Int)(x:aw):ba:=
 if x.kind=1 then((s.cG (fg x.E&&!kw x.E) 6).cG (!s.has x.E) 7).cG (decide (s.lets<40)) 12
 else if x.kind=2 then s.cG (s.has x.E) 6
 else if x.kind=3∨x.kind=4∨x.kind=5∨x.kind=6 then j7 vars s x.kind d x.place
 else s
def jm(s:ba)(x:aw):ba:=
 if x.kind=1 then s.AM x.E
 else if x.kind=5 then((s.cG (s.has x.E) 6).cG (s.has x.cg) 6).cG (!(x.E==x.cg)) 7
 else s
def gg(s:ba)(d:Int)(x:aw):ba:=jm (eB vars (gL vars kw (gd s d x) d x) d x.bc) x
mutual
def stM(s:ba)(d:Int):aw→ba
 | .mk kind V E cg aV place bc be bw=>
  fj ((fj (gg vars kw s d (.mk kind V E cg aV place bc be bw)) (gg vars kw s d (.mk kind V E cg aV place bc be bw)).g.length (B (d+1)) be).at V)
   (((fj (gg vars kw s d (.mk kind V E cg aV place bc be bw)) (gg vars kw s d (.mk kind V E cg aV place bc be bw)).g.length (B (d+1)) be).at V).g.length) (B (d+1)) bw
def fj(s:ba)(n:Nat)(d:Int):List aw→ba
 |[]=>s.back n
 |x::r=>fj (if s.bH≠0 then s else stM (s.at x.V) d x) n d r
end
def h0(s:ba)(d:Int)(l:List aw):ba:=fj vars kw s s.g.length d l
def lD(a:List (List UInt8))(b:Int):List U→Int
 |[]=>if b>65536 then 9 else 0
 | v::r=>if fg v.E=false∨kw v.E=true then 6 else if a.contains v.E=true then 7
  else if(aZ v.type).2≠0 then(aZ v.type).2 else lD (a++[v.E]) (B (ca b (aZ v.type).1.2+(aZ v.type).1.1)) r
end
section
variable(kw:List UInt8→Bool)
def lG(a:List U):Int:=if 32<a.length then 12 else lD kw [] 0 a
def s0:ba:=⟨[],0,0,0,0⟩
def mQ(vars:List U):List (List aw)→Int×Int
 |[]=>(0,0)
 |t::r=>if(h0 vars kw s0 1 t).bH≠0 then((h0 vars kw s0 1 t).lB,(h0 vars kw s0 1 t).bH)else mQ vars r
def fN(p:cA):Int×Int:=
 if 32<p.vars.length∨p.dj.length<1∨8<p.dj.length then(0,12)
 else if lG kw p.vars≠0 then(0,lG kw p.vars)else mQ kw p.vars p.dj
end
theorem RO(vars:List U)(s:ba)(d:Int)(e:X):lC vars s d e=if(eA s d e).bH≠0 then eA s d e
  else eB vars (if e.kind≥4 then j7 vars (if e.kind=2 then(eA s d e).cG ((eA s d e).has e.E) 6 else eA s d e) (B (10+e.kind)) d e.place else(if e.kind=2 then(eA s d e).cG ((eA s d e).has e.E) 6 else eA s d e)) d e.bn:=by
 cases e;rw[lC]
theorem RP(vars:List U)(s:ba)(k d:Int)(x:aM):j7 vars s k d x=if s.bH≠0 then s else hg vars (j6 vars s k x) d x.aC:=by cases x;rw[j7]
theorem RQ(vars:List U)(s:ba)(d:Int)(p:K):mP vars s d p=jH vars s d p.bb:=by cases p;rw[mP]
theorem stM_eq(vars:List U)(kw:List UInt8→Bool)(s:ba)(d:Int)(x:aw):stM vars kw s d x=h0 vars kw ((h0 vars kw (gg vars kw s d x) (B (d+1)) x.be).at x.V) (B (d+1)) x.bw:=by cases x;rw[stM];rfl
section
variable(vars:List U)(kw:List UInt8→Bool)
theorem HO{s:ba}(h:s.bH≠0)(d:Int):∀l,eB vars s d l=s
 |[]=>by rw[eB]
 |e::r=>by rw[eB,aa h,HO h d r]
theorem AN{s:ba}(h:s.bH≠0)(n:Nat)(d:Int):∀l,fj vars kw s n d l=s.back n
 |[]=>by rw[fj]
 |x::r=>by rw[fj,aa h,AN h n d r]
theorem HP:∀{l:List (List aw)},(mQ kw vars l).2=0↔∀t∈l,(h0 vars kw s0 1 t).bH=0
 |[]=>by simp[mQ]
 | t :: r=>by
  rw[mQ];by_cases h:(h0 vars kw s0 1 t).bH=0
  · rw[ae (by simpa using h),HP (l:=r)];simp[h]
  · rw[aa h];simp[h]
end
section
variable(kw:List UInt8→Bool)(p:cA)
end
end Rb
