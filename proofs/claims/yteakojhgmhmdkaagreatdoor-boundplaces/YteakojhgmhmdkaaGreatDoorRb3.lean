/- A part of the proof (part 3): see the last text. -/
import Derived.Test.YteakojhgmhmdkaaGreatDoorRb2
import Derived.Test.YteakojhgmhmdkaaGreatDoorRows
import Derived.KernelRfl
import Derived.WalkKit
import Derived.ProofKit
import Derived.Lib.Bytealg
import Derived.Laws.Externs
import Derived.Test.YteakojhgmhmdkaaGreatDoorRb1
import Derived.LaidLaws
import Derived.LaidHandle
import Derived.Lib.LaidU8
import Derived.Deep.DeepLaidRun
import Derived.Handed
import Derived.JoinedOf
import Derived.SevenTiedAt
import Derived.Lib.Space
import Derived.ChangeArms
import Derived.SizedLaws
import Derived.Below
import Derived.Lib.DecodeN
set_option linter.unusedVariables false
set_option linter.unusedSimpArgs false
open Array renaming getElem?_eq_some_iff→YF
open BEq renaming rfl→abS
open BitVec renaming ofInt→TH
open Bool renaming and_eq_true→X1, and_self→aaU, eq_false_iff→aau, eq_iff_iff→aaf, false_eq_true→ZP, not_eq_false'→abY, not_eq_false→abR, not_eq_true'→Z4, not_eq_true→abQ, not_false→abV, not_true→abW, true_eq_false→abU
open ByteArray renaming mk→X4
open Decidable renaming not_not→abz
open Go.Addr renaming add→abm
open Go.DataW renaming Trod→abv, trod→abf, weightsAll→abi, weights→abh
open Go.Extern.BytealgIndexByte renaming indexByte→abd
open Go.IntKind renaming bits→X9, max→abx, min→abw, signed→X8, wrap→Y6
open Go.Lib renaming decodeN→abN, decode_at→abO, indexByte→abc
open Go.Utf8 renaming decode→XU
open Go.World renaming cell?→abp, cells?_some→abn
open Iff renaming rfl→aby
open Int renaming reduceBEq→abT
open List renaming all_append→abJ, all_cons→aaG, any_cons→ab0, any_eq_true→aav, append_nil→abK, cons_append→ZS, drop_drop→abq, drop_eq_getElem_cons→abE, drop_succ_cons→aaW, drop_zero→abt, findIdx?_cons→abH, findIdx?→abI, flatMap_cons→abe, getElem?_append_left→Zy, getElem?_append_right→Zz, getElem?_cons_succ→abk, getElem?_cons_zero→abj, getElem?_eq_getElem→YO, getElem?_eq_some_iff→XV, getElem?_map→YN, length_append→abC, length_cons→abD, length_drop→abM, length_eq_one_iff→abZ, length_eq_zero_iff→Zi, length_nil→ab1, length_take→abX, mem_append→aaa, mem_cons→aah, mem_of_getElem?→aaH, sizeOf_lt_of_mem→abP, take_add_one→abL, take_append_of_le_length→abF, take_length→abu, take_of_length_le→abG
open Nat renaming add_assoc→Yg, add_comm→abB, add_mul→Yu, add_zero→Yx, eq_zero_or_pos→abl, le_refl→sl, le_succ→YB, le_trans→xl, lt_of_lt_of_le→AH, lt_succ_self→aaJ, ne_of_lt→YG, one_mul→abA, zero_add→YI, zero_le→Yt, zero_mul→abo
open Option renaming map_eq_some_iff→abr, map_some→Yc, some→Yb
open Prod renaming fst→abg
namespace Go.Proofs.YteakojhgmhmdkaaGreatDoor.rb
open Rb
noncomputable def gt(g:Nat):Option (List I):=if g=0 then some Dv else if g=5 then some Ew else if g=7 then some Dw else none
noncomputable def C:Ctx:=l6 Tryz.prog gt
noncomputable def Ex:List Hint:=[
  ⟨3,[10,21,23,25,180],[[13,14],[17],[19,20],[24]],none,[],[]⟩,
  ⟨4,[11],[[7],[10,13]],none,[],[]⟩,
  ⟨5,[15],[[16],[17],[18,19]],none,[],[]⟩,
  ⟨7,[2,4,94],[[3],[5],[10]],none,[],[]⟩,
  ⟨8,[1],[],none,[],[]⟩,
  ⟨9,[6],[[1,5]],none,[],[]⟩,
  ⟨10,[7],[[5,6]],none,[],[]⟩,
  ⟨11,[9,13],[[7,25],[7,41]],none,[],[]⟩,
  ⟨12,[6,11,12,17],[[13],[14,15],[18]],none,[],[]⟩,
  ⟨13,[7],[[12]],none,[],[]⟩,
  ⟨14,[5,37],[],none,[],[]⟩,
  ⟨15,[8],[[5,6,14]],none,[],[]⟩,
  ⟨21,[],[[3]],none,[],[]⟩,
  ⟨22,[],[[4]],none,[],[]⟩,
  ⟨23,[],[],none,[],[]⟩,
  ⟨24,[10],[[6],[5,8,9],[8]],none,[],[]⟩,
  ⟨25,[10],[[8,9]],none,[],[]⟩,
  ⟨26,[2,3,4],[],none,[],[]⟩,
  ⟨27,[],[[2,7]],none,[],[]⟩,
  ⟨28,[8],[[2,7]],none,[],[]⟩,
  ⟨29,[4,8,11,12],[[6,7],[9,10],[9,13]],none,[],[]⟩,
  ⟨30,[4,16],[],none,[],[]⟩,
  ⟨31,[2,3,4,8,9],[[5,6,7],[5],[6]],none,[],[]⟩,
  ⟨32,[6,7,10],[],none,[],[]⟩,
  ⟨33,[],[],none,[],[]⟩,
  ⟨34,[],[],none,[],[]⟩,
  ⟨35,[5],[],none,[],[]⟩,
  ⟨36,[2,41],[[34]],none,[],[]⟩,
  ⟨37,[6],[[14]],none,[],[]⟩,
  ⟨38,[5],[],none,[],[]⟩,
  ⟨39,[4,7,10,11],[[33]],none,[],[]⟩,
  ⟨43,[],[[8]],none,[],[]⟩,
  ⟨46,[],[],none,[],[]⟩,
  ⟨47,[],[],none,[],[]⟩,
  ⟨48,[],[[3,4],[3,5]],none,[],[]⟩,
  ⟨49,[],[],none,[],[]⟩,
  ⟨50,[],[],none,[],[]⟩,
  ⟨51,[],[[6]],none,[],[]⟩,
  ⟨52,[],[[5]],none,[],[]⟩,
  ⟨53,[10],[[13]],none,[],[]⟩]
theorem OG:ih C Ex=true:=by kernel_rfl
noncomputable def Ey:List Hint:=[
  ⟨54,[9],[[8]],none,[],[]⟩,
  ⟨55,[2,3,5,6,7],[[],[]],none,[],[]⟩,
  ⟨56,[2,5],[],none,[],[]⟩,
  ⟨57,[6],[[8]],none,[],[]⟩,
  ⟨58,[],[],none,[],[]⟩,
  ⟨59,[],[[8]],none,[],[]⟩,
  ⟨60,[2],[],none,[],[]⟩,
  ⟨61,[],[],none,[],[]⟩,
  ⟨62,[4,5],[],none,[],[]⟩,
  ⟨63,[5],[[3,14]],none,[],[]⟩,
  ⟨64,[8],[[16]],none,[],[]⟩,
  ⟨65,[],[],none,[],[]⟩,
  ⟨66,[7,8],[],none,[],[]⟩,
  ⟨67,[],[],none,[],[]⟩,
  ⟨68,[],[],none,[],[]⟩,
  ⟨69,[4],[],none,[],[]⟩,
  ⟨70,[],[[8]],none,[],[]⟩,
  ⟨72,[4,6],[],none,[],[]⟩,
  ⟨73,[],[[5,6],[5,8]],none,[],[]⟩,
  ⟨74,[4],[[3],[5]],none,[],[]⟩,
  ⟨75,[],[[3,4],[3,5]],none,[],[]⟩,
  ⟨76,[],[],none,[],[]⟩,
  ⟨77,[],[],none,[],[]⟩,
  ⟨78,[3,5,37],[],none,[],[]⟩,
  ⟨79,[],[],none,[],[]⟩,
  ⟨80,[],[],none,[],[]⟩,
  ⟨81,[4,5,7],[[]],none,[],[]⟩,
  ⟨82,[],[],none,[],[]⟩,
  ⟨83,[],[[5]],none,[],[]⟩,
  ⟨84,[2],[],none,[],[]⟩,
  ⟨85,[],[],none,[],[]⟩,
  ⟨86,[2,4,6],[],none,[],[]⟩,
  ⟨87,[],[],none,[],[]⟩,
  ⟨88,[6,8,11,12],[[23]],none,[],[]⟩,
  ⟨89,[],[],none,[],[]⟩,
  ⟨90,[],[],none,[],[]⟩,
  ⟨91,[],[[8]],none,[],[]⟩,
  ⟨92,[],[],none,[],[]⟩,
  ⟨93,[],[[3],[3,5]],none,[],[]⟩,
  ⟨94,[],[],none,[],[]⟩]
theorem OH:ih C Ey=true:=by kernel_rfl
noncomputable def iP:List Hint:=[
  ⟨95,[],[[]],none,[],[]⟩,
  ⟨96,[],[],none,[],[]⟩,
  ⟨97,[],[],none,[],[]⟩,
  ⟨98,[],[],none,[],[]⟩,
  ⟨99,[],[],none,[],[]⟩,
  ⟨100,[],[],none,[],[]⟩,
  ⟨101,[],[],none,[],[]⟩,
  ⟨102,[6],[],none,[],[]⟩,
  ⟨103,[],[],none,[],[]⟩,
  ⟨104,[6],[],none,[],[]⟩,
  ⟨105,[4,5],[],none,[],[]⟩,
  ⟨106,[4,5],[],none,[],[]⟩,
  ⟨107,[2],[],none,[],[]⟩,
  ⟨108,[],[],none,[],[]⟩,
  ⟨109,[3],[],none,[],[]⟩,
  ⟨110,[],[],none,[],[]⟩,
  ⟨111,[],[],none,[],[]⟩,
  ⟨112,[],[],none,[],[]⟩,
  ⟨113,[],[],none,[],[]⟩,
  ⟨114,[],[],none,[],[]⟩,
  ⟨115,[2,4,6,7],[[16]],none,[],[]⟩,
  ⟨116,[],[[5]],none,[],[]⟩,
  ⟨117,[3,11],[[]],none,[],[]⟩,
  ⟨118,[],[],none,[],[]⟩,
  ⟨119,[],[],none,[],[]⟩,
  ⟨120,[],[],none,[],[]⟩,
  ⟨121,[],[],none,[],[]⟩,
  ⟨122,[],[],none,[],[]⟩,
  ⟨123,[],[],none,[],[]⟩,
  ⟨124,[2],[[11],[17]],none,[],[]⟩,
  ⟨125,[],[],none,[],[]⟩,
  ⟨126,[],[],none,[],[]⟩,
  ⟨127,[4,5],[],none,[],[]⟩,
  ⟨128,[4,5],[],none,[],[]⟩,
  ⟨129,[],[],none,[],[]⟩,
  ⟨130,[],[],none,[],[]⟩,
  ⟨131,[],[],none,[],[]⟩,
  ⟨132,[],[],none,[],[]⟩,
  ⟨133,[],[],none,[],[]⟩,
  ⟨134,[],[[1,2,3,10,11]],none,[],[]⟩]
theorem pK:ih C iP=true:=by kernel_rfl
noncomputable def l_:List Hint:=[
  ⟨135,[],[],none,[],[]⟩,
  ⟨136,[],[],none,[],[]⟩,
  ⟨137,[],[],none,[],[]⟩,
  ⟨138,[],[],none,[],[]⟩,
  ⟨139,[41],[[3,4,5,6],[12],[10,11,12],[12]],some 9,[],[]⟩,
  ⟨140,[],[],none,[],[]⟩,
  ⟨141,[3],[],none,[],[]⟩,
  ⟨142,[],[],none,[],[]⟩,
  ⟨143,[],[],none,[],[]⟩,
  ⟨144,[8,11,13],[[42],[49]],none,[],[]⟩,
  ⟨145,[7],[[10]],none,[],[]⟩,
  ⟨146,[5],[],none,[],[]⟩,
  ⟨147,[9],[],none,[],[]⟩,
  ⟨148,[5],[],none,[],[]⟩,
  ⟨149,[5,8,9],[[6,17]],none,[],[]⟩,
  ⟨150,[],[[8]],none,[],[]⟩,
  ⟨151,[],[],none,[],[]⟩,
  ⟨152,[4,6,7,9,13,15],[[46]],none,[],[]⟩,
  ⟨153,[],[],none,[],[]⟩,
  ⟨154,[11,12],[[9,17]],none,[],[]⟩,
  ⟨155,[],[],none,[],[]⟩,
  ⟨156,[],[],none,[],[]⟩,
  ⟨157,[11,12],[[16]],none,[],[]⟩,
  ⟨158,[],[],none,[],[]⟩,
  ⟨159,[6],[],none,[],[]⟩,
  ⟨160,[4],[],none,[],[]⟩,
  ⟨161,[7,9],[[5,15],[5,30]],none,[],[]⟩,
  ⟨162,[],[],none,[],[]⟩,
  ⟨163,[],[],none,[],[]⟩,
  ⟨164,[],[[18]],none,[],[]⟩,
  ⟨165,[],[],none,[],[]⟩,
  ⟨166,[],[],none,[],[]⟩,
  ⟨167,[],[],none,[],[]⟩,
  ⟨168,[],[],none,[],[]⟩,
  ⟨169,[],[],none,[],[]⟩,
  ⟨170,[],[],none,[],[]⟩,
  ⟨171,[],[],none,[],[]⟩,
  ⟨172,[4,5],[[]],none,[],[]⟩,
  ⟨173,[],[[6]],none,[],[]⟩,
  ⟨174,[4],[],none,[],[]⟩]
theorem OI:ih C l_=true:=by kernel_rfl
noncomputable def Ez:List Hint:=[
  ⟨175,[4,6],[],none,[],[]⟩,
  ⟨176,[],[],none,[],[]⟩,
  ⟨177,[],[[8]],none,[],[]⟩,
  ⟨178,[],[[8],[9]],none,[],[]⟩,
  ⟨179,[],[[11],[12]],none,[],[]⟩,
  ⟨180,[9],[[11]],none,[],[]⟩,
  ⟨181,[11],[],none,[],[]⟩,
  ⟨182,[],[[8,9]],none,[],[]⟩,
  ⟨183,[],[[9,10],[9],[11],[12]],none,[],[]⟩,
  ⟨184,[],[[11,12],[11],[12]],none,[],[]⟩,
  ⟨185,[],[[12],[13],[12,13],[12],[13]],none,[],[]⟩,
  ⟨186,[],[],none,[],[]⟩,
  ⟨187,[],[],none,[],[]⟩,
  ⟨188,[],[[8]],none,[],[]⟩,
  ⟨189,[11,12,46],[[5,6],[49]],none,[],[]⟩,
  ⟨190,[],[],none,[],[]⟩,
  ⟨191,[2],[],none,[],[]⟩,
  ⟨192,[],[],none,[],[]⟩,
  ⟨193,[],[],none,[],[]⟩,
  ⟨194,[],[],none,[],[]⟩,
  ⟨195,[],[],none,[],[]⟩,
  ⟨196,[],[],none,[],[]⟩,
  ⟨197,[],[[1]],none,[],[]⟩,
  ⟨198,[5],[[3,16],[3,6],[7]],none,[],[]⟩,
  ⟨199,[5],[],none,[],[]⟩,
  ⟨200,[],[],none,[],[]⟩,
  ⟨201,[],[],none,[],[]⟩,
  ⟨202,[],[],none,[],[]⟩,
  ⟨203,[],[],none,[],[]⟩,
  ⟨204,[],[[6]],none,[],[]⟩,
  ⟨205,[],[[12,13,101]],none,[],[]⟩,
  ⟨206,[],[],none,[],[]⟩,
  ⟨207,[4,5,7],[],none,[],[]⟩,
  ⟨208,[8,9],[[22]],none,[],[]⟩,
  ⟨209,[],[[10]],none,[],[]⟩,
  ⟨210,[],[],none,[],[]⟩,
  ⟨211,[],[],none,[],[]⟩,
  ⟨212,[],[],none,[],[]⟩,
  ⟨213,[],[],none,[],[]⟩,
  ⟨214,[],[],none,[],[]⟩]
theorem OJ:ih C Ez=true:=by kernel_rfl
noncomputable def rq:List Hint:=[
  ⟨215,[],[],none,[],[]⟩,
  ⟨216,[1],[[3],[4]],none,[],[]⟩,
  ⟨217,[],[],none,[],[]⟩,
  ⟨218,[],[[5]],none,[],[]⟩,
  ⟨219,[],[],none,[],[]⟩,
  ⟨220,[],[],none,[],[]⟩,
  ⟨221,[],[],none,[],[]⟩,
  ⟨222,[],[],none,[],[]⟩,
  ⟨223,[],[],none,[],[]⟩,
  ⟨224,[],[[3,4]],none,[],[]⟩,
  ⟨227,[15],[],none,[],[]⟩,
  ⟨228,[15],[],none,[],[]⟩,
  ⟨229,[],[[6]],none,[],[]⟩,
  ⟨230,[],[],none,[],[]⟩,
  ⟨231,[],[[20],[7,8]],none,[],[]⟩,
  ⟨232,[10],[[16],[7,8]],none,[],[]⟩,
  ⟨233,[],[],none,[],[]⟩,
  ⟨234,[],[],none,[],[]⟩,
  ⟨235,[9],[],none,[],[]⟩,
  ⟨236,[5],[],none,[],[]⟩,
  ⟨237,[],[],none,[],[]⟩,
  ⟨239,[],[],none,[],[]⟩,
  ⟨240,[5],[],none,[],[]⟩,
  ⟨241,[],[],none,[],[]⟩,
  ⟨242,[],[],none,[],[]⟩,
  ⟨243,[],[[1,4]],none,[],[]⟩,
  ⟨244,[12],[[1,13],[1,13]],none,[],[]⟩,
  ⟨245,[],[],none,[],[]⟩,
  ⟨246,[],[],none,[],[]⟩,
  ⟨247,[],[],none,[],[]⟩,
  ⟨248,[],[],none,[],[]⟩,
  ⟨249,[],[],none,[],[]⟩,
  ⟨250,[],[],none,[],[]⟩]
theorem OK:ih C rq=true:=by kernel_rfl
noncomputable def hs:List Hint:=Ex++(Ey++(iP++(l_++(Ez++(rq)))))
theorem OL:ih C hs=true:=pt OG (pt OH (pt pK (pt OI (pt OJ (OK)))))
end Go.Proofs.YteakojhgmhmdkaaGreatDoor.rb

namespace Go.Proofs.YteakojhgmhmdkaaGreatDoor.rb
open Rb
theorem OM:∀g l,gt g=some l→I.bA l=true:=by
 intro g l h;unfold gt at h;split at h
 ·cases h;kernel_rfl
 split at h
 ·cases h;kernel_rfl
 split at h
 ·cases h;kernel_rfl
 cases h
theorem j5:bN C:=OM
noncomputable def fn:Nat→Option re:=rj C 4096 hs
theorem ON:yN (af C) (uv fn):=Oz OL 4096
end Go.Proofs.YteakojhgmhmdkaaGreatDoor.rb

namespace Go.Proofs.YteakojhgmhmdkaaGreatDoor.rb
open Rb Go.RowKit
set_option maxRecDepth 100000 in
theorem OO(s:ByteArray)(c:Int)(w:World):Calls Tryz.prog 234 #[.string s,.int .u8 c] w λe w'=>e = .returned (.int .i64 (abc s.data.toList c.toNat.toUInt8))∧w'=w:=by
 go_enter Tryz.func234,Tryz.ntmps234
 go_wp2
 rw[run_callFunc_extern Tryz.func238 (by kernel_rfl) (by kernel_rfl) (by kernel_rfl) (e:=abd) (by kernel_rfl),Go.Lib.run_indexByteString];simp only[Result.andThen];rw[Oper.upon_value]
 go_wp2
 go_ret
 exact⟨rfl,rfl⟩
theorem indexByte(s:List UInt8)(c:Int)(H:Z)(Q:ad)(hQ:Q (.int .i64 (abc s c.toNat.toUInt8)) H):af C 234 [.str s,.int .u8 c] H Q:=by
 refine⟨⟨_,_,hQ⟩,λf hf G w Vs hG a b=>?_⟩;obtain rfl:f=234:=by
  have:C.F 234=some 234:=by kernel_rfl
  rw[this]at hf;exact(Yb.inj hf).symm
 obtain⟨hl,hv⟩:=b;obtain⟨d⟩:=Vs
 match d,hl with
 | [g,h],_=>have i:=(hv 0 _ g rfl rfl).iJ;have h1:=(hv 1 _ h rfl rfl).e8;subst i h1;refine(OO ⟨s.toArray⟩ c w).mono λe w' ⟨he,hw⟩=>?_;subst hw;exact⟨_,_,H,G,he,hQ,.int _ _,a,Step.refl _ _ _⟩
noncomputable def zF(L:List (Nat×List I×I)):pj:=λk a=>cond (Nat.beq k 234) (match a with|[.str s,.int .u8 c]=>some (.int .i64 (abc s c.toNat.toUInt8))|_=>none) (zD L k a)
theorem OP{L:List (Nat×List I×I)}(b:gW (af C) (f_ L)):gW (af C) (zF L):=by
 intro k a v h H Q hQ;unfold zF at h;cases hb:Nat.beq k 234 with
 |false=>rw[hb]at h;exact OC b k a v h H Q hQ
 | true=>
  rw[hb]at h;obtain rfl:=Nat.eq_of_beq_eq_true hb;simp only[cond_true]at h;split at h
  ·cases h;exact indexByte _ _ H Q hQ
  ·cases h
noncomputable def rr(L:List (Nat×List I×I)):dE:=yM (zF L) (uv fn) 100
theorem ux{L:List (Nat×List I×I)}(a:gW (af C) (f_ L)):eR (af C) (rr L):=Nu (OP a) ON 100
end Go.Proofs.YteakojhgmhmdkaaGreatDoor.rb

namespace Rb.K
end Rb.K

namespace Rb.S
open Go
open Go.Proofs.YteakojhgmhmdkaaGreatDoor.rb (C)
def uy(Φ:ai)(b:ST)(c:LT)(Q:ad):a:=λf d=>
 Do (M .add (G b.1 0) (J 1)) λe=>
 c ([e],d)
def EA(Φ:ai)(d e:I)(f:ST)(c:ST)(g:LT)(Q:ad):a:=λo b=>
 Do (aP none 2 e (G c.1 1)) λh=>
 Do (O b 2 true h) λi=>
 Do (aP none 2 d (G f.1 0)) λj=>
 Do (O b 2 true j) λk=>
 Do (ja false [.n,.n] i k) λl=>
 Do (M .add (G c.1 1) (J 1)) λm=>
 g ([l,m],b)
def EB(Φ:ai)(b:ST)(c:LT)(Q:ad):a:=λf d=>
 Do (M .add (G b.1 0) (J 1)) λe=>
 c ([e],d)
def uz(Φ:ai)(c:ST)(d:LT)(Q:ad):a:=λe b=>
 Gd (G e 0) true (
 Q P b) (
 N (EB Φ c d Q) [] b)
def zG(Φ:ai)(d e:I)(c:ST)(f:LT)(Q:ad):a:=λg b=>
 Do (cY .not (G g 0)) λh=>
 aQ h false (
 Do (aP none 2 d (G c.1 0)) λi=>
 Do (W 0 i) λj=>
 Do (O b 1 false j) λk=>
 Do (W 0 e) λl=>
 Do (O b 1 false l) λm=>
 Do (M .lss k m) λn=>
 aQ n false (
 Do (aP none 2 d (G c.1 0)) λo=>
 Do (W 0 o) λp=>
 Do (O b 1 false p) λq=>
 Do (aP none 2 d (G c.1 0)) λr=>
 Do (W 1 r) λs=>
 Do (O b 1 false s) λt=>
 Do (M .add q t) λu=>
 Do (W 0 e) λv=>
 Do (O b 1 false v) λw=>
 Do (W 1 e) λx=>
 Do (O b 1 false x) λy=>
 Do (M .add w y) λz=>
 Do (M .gtr u z) λA=>
 N (uz Φ c f Q) [A] b) (
 N (uz Φ c f Q) [br] b) (
 False)) (
 N (uz Φ c f Q) [br] b) (
 False)
def uA(Φ:ai)(b f g:I)(c:ST)(h:LT)(d:ST)(i:LT)(Q:ad):a:=λj e=>
 Gd (G j 0) true (
 N (EA Φ b f c d i Q) [] e) (
 N (zG Φ b g c h Q) [(G d.1 0)] e)
def uB(Φ:ai)(c b d:I)(e:ST)(f:LT)(Q:ad):BT:=λa g=>
 Do (bp false b) λh=>
 Do (M .lss (G a.1 1) h) λi=>
 aQ i true (
 Do (cY .not (G a.1 0)) λj=>
 N (uA Φ c b d e f a g Q) [j] a.2) (
 N (uA Φ c b d e f a g Q) [P] a.2) (
 False)
def EC(Φ:ai)(b c d:I)(e:ST)(f:LT)(Q:ad):a:=λh g=>
 aC (uB Φ b c d e f Q) ([P,D],g)
def zH(Φ:ai)(b:I)(Q:ad):a:=λe c=>
 Do (M .eql b D) λd=>
 Q d c
def uC(Φ:ai)(c d e f:I)(g:ST)(h:LT)(Q:ad):a:=λi b=>
 Gd (G i 0) true (
 N (EC Φ c d f g h Q) [] b) (
 N (zH Φ e Q) [] b)
def nL(Φ:ai)(b c d e:I)(Q:ad):BT:=λa f=>
 Do (bp false b) λg=>
 Do (M .lss (G a.1 0) g) λh=>
 aQ h true (
 Do (M .lss (G a.1 0) (J 50)) λi=>
 N (uC Φ b c d e a f Q) [i] a.2) (
 N (uC Φ b c d e a f Q) [P] a.2) (
 False)
def ED(Φ:ai)(b c d e:I)(Q:ad):a:=λg f=>
 aC (nL Φ b c d e Q) ([D],f)
def ru(Φ:ai)(e f g h i b c:I)(Q:ad):BT:=λa d=>
 Do (bp false b) λj=>
 Do (M .lss (G a.1 0) j) λk=>
 Gd k true (
 Do (aP none 3 b (G a.1 0)) λl=>
 Do (W 0 l) λm=>
 Do (O a.2 1 false m) λn=>
 Do (M .sub e (J 1)) λo=>
 Do (aP none 5 g o) λp=>
 Do (W 3 p) λq=>
 Do (W 0 q) λr=>
 Do (O a.2 1 false r) λs=>
 Do (M .eql n s) λt=>
 Gd t true (
 Do (aP none 3 b (G a.1 0)) λu=>
 Do (W 1 u) λv=>
 Do (O a.2 2 true v) λw=>
 Do (Y a.2 2 c w) λx=>
 N (uy Φ a d Q) [] x) (
 N (uy Φ a d Q) [] a.2)) (
 N (ED Φ f h i c Q) [] a.2)
def EE(Φ:ai)(h c i j:I)(Q:ad):a:=λv d=>
 Do (W 0 c) λk=>
 Do (O d 1 false k) λl=>
Φ 11 [l] d λe f=>
 Do (bj 0 e) λm=>
 Do (bj 1 e) λn=>
 Do (W 0 c) λo=>
 Do (O f 1 false o) λp=>
Φ 15 [p] f λb q=>
 Do (bj 0 b) λr=>
 Do (bj 1 b) λw=>
 Do (bj 2 b) λx=>
 Do (bo [D,D] []) λs=>
 ar (some (aL q true [D,D])) λg t=>
 Do (Y t 2 g s) λu=>
 aC (ru Φ h i j m n r g Q) ([D],u)
def zI(Φ:ai)(c d e f:I)(Q:ad):a:=λg b=>
 Gd (G g 0) true (
 Q P b) (
 N (EE Φ c d e f Q) [] b)
def zJ(Φ:ai)(c d b e:I)(Q:ad):a:=λg f=>
 aQ (G g 0) false (
 Do (bp false b) λh=>
 Do (M .eql h D) λi=>
 N (zI Φ c d b e Q) [i] f) (
 N (zI Φ c d b e Q) [br] f) (
 False)
def EF(Φ:ai)(b d e c:I)(Q:ad):a:=λj f=>
 Do (M .lss b (J 1)) λg=>
 aQ g false (
 Do (bp false c) λh=>
 Do (M .gtr b h) λi=>
 N (zJ Φ b d e c Q) [i] f) (
 N (zJ Φ b d e c Q) [br] f) (
 False)
def zK(Φ:ai)(e f b g:I)(Q:ad):a:=λh c=>
 Gd (G h 0) true (
Φ 8 [] c λi d=>
 aQ i true (
 Do (bp false b) λj=>
 Do (M .eql j D) λk=>
 Q k d) (
 Q P d) (
 False)) (
 N (EF Φ e f b g Q) [] c)
def f5(Φ:ai)(a0 a1 b:I)(H:Z)(Q:ad):Prop:=
 ar (aO H false 2 a0) λa H2=>
 Do (O H2 2 true a) λh=>
Φ 6 [h,a1,b] H2 λc d=>
 Do (bj 0 c) λe=>
 Do (bj 1 c) λi=>
 Do (O d 2 true a) λj=>
Φ 14 [j,a1] d λf k=>
Φ 8 [] k λl g=>
 Do (cY .not l) λm=>
 aQ m false (
 Do (cY .not i) λn=>
 N (zK Φ b a e f Q) [n] g) (
 N (zK Φ b a e f Q) [br] g) (
 False)
noncomputable def EG:aY:=R C ⟨5,[15],[[16],[17],[18,19]],none,[],[]⟩
def EH(Φ:ai)(b:ST)(c:LT)(Q:ad):a:=λd e=>
 Do (M .add (G b.1 1) (J 1)) λf=>
 c ([(G d 0),f],e)
def uD(Φ:ai)(e f g:I)(d:ST)(h:LT)(Q:ad):BT:=λa i=>
 Do (M .lss (G a.1 1) g) λj=>
 Gd j true (
 Do (aP none 2 f (G a.1 1)) λk=>
 Do (O a.2 2 true k) λl=>
 ar (some (aL a.2 true [D,D])) λc m=>
 Do (Y m 2 c l) λb=>
 Do (aP none 3 e (G d.1 1)) λn=>
 Do (W 1 n) λo=>
 Do (W 0 o) λp=>
 Do (O b 1 false p) λq=>
 Do (W 0 c) λr=>
 Do (O b 1 false r) λs=>
 Do (M .add q s) λt=>
 Do (W 1 c) λu=>
 Do (O b 1 false u) λv=>
 Do (bo [D,D] [(0,1,t),(1,1,v)]) λw=>
 ar (dk b false 2 1 [D,D] [(0,2,w)]) λx y=>
 ar (cr y false 2 16 (G a.1 0) x) λz A=>
 Do (M .add (G a.1 1) (J 1)) λB=>
 i ([z,B],A)) (
 N (EH Φ d h Q) [(G a.1 0)] a.2)
def EI(Φ:ai)(Q:ad):a:=λb c=>
 Q (.aq [(G b 0),D]) c
def rv(Φ:ai)(a0 h i:I)(Q:ad):BT:=λa j=>
 Do (M .lss (G a.1 1) i) λk=>
 Gd k true (
 Do (aP none 7 a0 (G a.1 1)) λl=>
 Do (O a.2 7 true l) λm=>
 ar (some (aL a.2 true [.str [],D,D,P,aS,D,aS])) λb n=>
 Do (Y n 7 b m) λc=>
 Do (W 1 b) λo=>
 Do (O c 6 true o) λp=>
Φ 30 [p] c λd e=>
 Do (bj 0 d) λf=>
 Do (bj 1 d) λg=>
 Do (M .neq g D) λq=>
 Gd q true (
 Q (.aq [aS,g]) e) (
 Do (bp false f) λr=>
 aC (uD Φ h f r a j Q) ([(G a.1 0),D],e))) (
 N (EI Φ Q) [(G a.1 0)] a.2)
def f11(Φ:ai)(a0:I)(H:Z)(Q:ad):Prop:=
Φ 15 [a0] H λa H2=>
 Do (bj 0 a) λc=>
 Do (bj 1 a) λf=>
 Do (bj 2 a) λb=>
 Do (M .neq b D) λd=>
 Gd d true (
 Q (.aq [aS,b]) H2) (
 Do (bp false a0) λe=>
 aC (rv Φ a0 c e Q) ([aS,D],H2))
noncomputable def EJ:aY:=R C ⟨11,[9,13],[[7,25],[7,41]],none,[],[]⟩
def zL(Φ:ai)(a1 b:I)(Q:ad):a:=λv e=>
 Do (W 0 b) λi=>
 Do (O e 1 false i) λj=>
Φ 15 [j] e λc f=>
 Do (bj 0 c) λk=>
 Do (bj 1 c) λw=>
 Do (bj 2 c) λx=>
 Do (W 0 b) λl=>
 Do (O f 1 false l) λm=>
 Do (bo [aS,aS,aS,D,D,aS,D,aS] [(0,1,m),(1,1,k)]) λn=>
 ar (aO f true 8 n) λg d=>
 Do (W 1 b) λo=>
 Do (O d 1 false o) λp=>
 Do (aP none 1 p a1) λq=>
 Do (O d 1 false q) λr=>
Φ 37 [g,r] d λy h=>
 Do (aZ g) λs=>
 Do (W 5 s) λt=>
 Do (O h 1 false t) λu=>
 Q u h
def ry(Φ:ai)(a1 c:I)(Q:ad):a:=λd b=>
 Gd (G d 0) true (
 Q aS b) (
 N (zL Φ a1 c Q) [] b)
def uE(Φ:ai)(a1 b:I)(Q:ad):a:=λd c=>
 aQ (G d 0) false (
 Do (W 1 b) λe=>
 Do (O c 1 false e) λf=>
 Do (bp false f) λg=>
 Do (M .geq a1 g) λh=>
 N (ry Φ a1 b Q) [h] c) (
 N (ry Φ a1 b Q) [br] c) (
 False)
def f14(Φ:ai)(a0 a1:I)(H:Z)(Q:ad):Prop:=
 ar (aO H false 2 a0) λa H2=>
 Do (O H2 2 true a) λd=>
Φ 36 [d] H2 λe f=>
 ar (some (aL f true [D,D])) λc g=>
 Do (Y g 2 c e) λb=>
 Do (W 1 c) λh=>
 Do (O b 1 false h) λi=>
 Do (M .neq i D) λj=>
 aQ j false (
 Do (M .lss a1 D) λk=>
 N (uE Φ a1 a Q) [k] b) (
 N (uE Φ a1 a Q) [br] b) (
 False)
noncomputable def EK:aY:=R C ⟨14,[5,37],[],none,[],[]⟩
def EL(Φ:ai)(c:ST)(d:LT)(Q:ad):a:=λb e=>
 Do (M .add (G c.1 2) (J 1)) λf=>
 d ([(G b 0),(G b 1),f],e)
def uF(Φ:ai)(f b:I)(c:ST)(g:LT)(Q:ad):a:=λd e=>
 Do (W 0 f) λh=>
 Do (O e 1 false h) λi=>
 Do (M .add (J 65536) (G d 0)) λj=>
 Do (bo [D,D] [(0,1,j),(1,1,b)]) λk=>
 Do (bo [.str [],D,D] [(0,1,i),(1,2,k)]) λl=>
 ar (dk e false 3 1 [.str [],D,D] [(0,3,l)]) λm n=>
 ar (cr n false 3 32 (G c.1 0) m) λo p=>
 Do (M .add (G d 0) b) λq=>
 N (EL Φ c g Q) [o,q] p
def EM(Φ:ai)(Q:ad):a:=λb H2=>
 Do (M .gtr (G b 1) (J 65536)) λc=>
 Gd c true (
 Q (.aq [aS,D,(J 9)]) H2) (
 Q (.aq [(G b 0),(G b 1),D]) H2)
def rz(Φ:ai)(a0 k:I)(Q:ad):BT:=λa f=>
 Do (M .lss (G a.1 2) k) λl=>
 Gd l true (
 Do (aP none 7 a0 (G a.1 2)) λm=>
 Do (O a.2 7 true m) λn=>
 ar (some (aL a.2 true [.str [],D,D,P,aS,D,aS])) λb o=>
 Do (Y o 7 b n) λg=>
 Do (W 1 b) λp=>
 Do (O g 6 true p) λq=>
Φ 38 [q] g λc d=>
 Do (bj 0 c) λh=>
 Do (bj 1 c) λe=>
 Do (bj 2 c) λi=>
 Do (M .neq i D) λr=>
 Gd r true (
 Q (.aq [aS,D,i]) d) (
 Do (M .add (G a.1 1) e) λs=>
 Do (M .sub s (J 1)) λt=>
 Do (M .quo t e) λu=>
 Do (M .mul u e) λj=>
 Do (M .gtr j (J 65536)) λv=>
 Gd v true (
 N (uF Φ b h a f Q) [(J 65537)] d) (
 N (uF Φ b h a f Q) [j] d))) (
 N (EM Φ Q) [(G a.1 0),(G a.1 1)] a.2)
def f15(Φ:ai)(a0:I)(H:Z)(Q:ad):Prop:=
 Do (bp false a0) λa=>
 aC (rz Φ a0 a Q) ([aS,D,D],H)
noncomputable def EN:aY:=R C ⟨15,[8],[[5,6,14]],none,[],[]⟩
def zM(Φ:ai)(a0:I)(Q:ad):a:=λb H2=>
 aQ (G b 0) false (
 Do (M .geq a0 (J 16)) λc=>
 aQ c true (
 Do (M .leq a0 (J 18)) λd=>
 Q d H2) (
 Q P H2) (
 False)) (
 Q br H2) (
 False)
def f16(Φ:ai)(a0:I)(H:Z)(Q:ad):Prop:=
 Do (M .geq a0 (J 3)) λa=>
 aQ a true (
 Do (M .leq a0 (J 6)) λb=>
 N (zM Φ a0 Q) [b] H) (
 N (zM Φ a0 Q) [P] H) (
 False)
noncomputable def EO:aY:=R C ⟨16,[],[],none,[],[]⟩
def uG(Φ:ai)(b:ST)(c:LT)(Q:ad):a:=λj9 d=>
 Do (M .add (G b.1 1) (J 1)) λe=>
 c ([(G j9 0),e],d)
def rA(Φ:ai)(a0 d n o:I)(Q:ad):BT:=λa e=>
 Do (M .lss (G a.1 1) o) λp=>
 Gd p true (
 Do (aP none 2 n (G a.1 1)) λq=>
 Do (O a.2 2 true q) λr=>
 ar (some (aL a.2 true [.str [],aS])) λf s=>
 Do (Y s 2 f r) λb=>
 Do (W 1 f) λt=>
 Do (O b 1 false t) λu=>
 Do (bp false u) λv=>
 Do (M .gtr v D) λw=>
 Gd w true (
 Do (W 0 d) λg=>
 Do (O b 1 false g) λh=>
 Do (W 1 d) λi=>
 Do (O b 1 false i) λj=>
 Do (du 2 j none (some (G a.1 1)) none) λx=>
 Do (bo [.str [],aS] [(0,1,h),(1,1,x)]) λy=>
Φ 39 [a0,y] b λk z=>
 Do (bj 0 k) λA=>
 Do (bj 1 k) λK=>
 ar (some (aL z true [D,D,P,aS,D,aS])) λl c=>
(O c 1 false g=some h) ∧
(O c 1 false i=some j) ∧
(Do (Y c 6 l A) λm=>
 Do (W 4 l) λB=>
 Do (O m 1 false B) λC=>
 ar (dk m false 1 1 [D] [(0,1,C)]) λE F=>
 ar (cr F false 1 8 (G a.1 0) E) λH J=>
 N (uG Φ a e Q) [H] J)) (
 N (uG Φ a e Q) [(G a.1 0)] b)) (
 Q (G a.1 0) a.2)
def f17(Φ:ai)(a0 a1:I)(H:Z)(Q:ad):Prop:=
 ar (aO H false 2 a1) λa H2=>
 Do (W 1 a) λc=>
 Do (O H2 1 false c) λb=>
 Do (bp false b) λd=>
 aC (rA Φ a0 a b d Q) ([aS,D],H2)
noncomputable def EP:aY:=R C ⟨17,[7,8],[[5,13]],none,[],[]⟩
def f18(Φ:ai)(a0:I)(H:Z)(Q:ad):Prop:=
 ar (aO H false 1 a0) λa H2=>
 Q (.fn 40 [a]) H2
noncomputable def ER:aY:=R C ⟨18,[],[],none,[],[]⟩
def ES(Φ:ai)(b g c:I)(Q:ad):a:=λq d=>
 Do (W 0 g) λh=>
 Do (O d 1 false h) λi=>
 Do (aZ c) λj=>
 Do (W 6 j) λk=>
 Do (W 2 k) λl=>
 Do (Y d 1 l i) λe=>
 Do (aZ c) λm=>
 Do (W 6 m) λn=>
 Do (O e 6 true n) λo=>
 Do (Y e 6 b o) λf=>
 Do (O f 6 true b) λp=>
 Q (.aq [p,D]) f
def uH(Φ:ai)(b h c i j:I)(Q:ad):BT:=λa k=>
 Do (M .lss (G a.1 0) j) λl=>
 Gd l true (
 Do (aP none 2 i (G a.1 0)) λm=>
 Do (O a.2 2 true m) λn=>
 ar (some (aL a.2 true [.str [],aS])) λd o=>
 Do (Y o 2 d n) λe=>
 Do (O e 2 true d) λp=>
Φ 45 [c,p] e λq f=>
 Do (cY .not q) λr=>
 Gd r true (
 Do (bo [D,D,D,P,D,D] []) λs=>
 Do (Y f 6 b s) λg=>
 Do (O g 6 true b) λt=>
 Q (.aq [t,(J 14)]) g) (
 Do (M .add (G a.1 0) (J 1)) λu=>
 k ([u],f))) (
 N (ES Φ b h c Q) [] a.2)
def ET(Φ:ai)(a0 g c h i j:I)(Q:ad):a:=λw k=>
Φ 43 [a0,(.fn 44 [c])] k λd b=>
 Do (aP none 7 a0 d) λl=>
 Do (W 1 l) λm=>
 Do (O b 6 true m) λn=>
 Do (aP none 3 i d) λo=>
 Do (W 1 o) λp=>
 Do (O b 2 true p) λq=>
 Do (bo [D,D,D,P,D,D] [(0,2,q)]) λr=>
 Do (bo [D,D,P,aS,D,aS,D,D,D,P,D,D,aS] [(0,6,n),(6,6,r),(12,1,g)]) λs=>
 ar (aO b true 13 s) λt e=>
 Do (W 1 c) λu=>
 Do (O e 1 false u) λf=>
 Do (bp false f) λv=>
 aC (uH Φ h j t f v Q) ([D],e)
def uI(Φ:ai)(a0 d e b i j:I)(Q:ad):a:=λk c=>
 Gd (G k 0) true (
 Do (bo [D,D,D,P,D,D] []) λl=>
 Do (Y c 6 b l) λf=>
 Do (O f 6 true b) λm=>
 Q (.aq [m,(J 8)]) f) (
 Do (bp false d) λn=>
 Do (O c 2 true e) λo=>
Φ 42 [o] c λp g=>
 Do (M .neq n p) λq=>
 Gd q true (
 Do (bo [D,D,D,P,D,D] []) λr=>
 Do (Y g 6 b r) λh=>
 Do (O h 6 true b) λs=>
 Q (.aq [s,(J 1)]) h) (
 N (ET Φ a0 d e b i j Q) [] g))
def f19(Φ:ai)(a0 a1 g:I)(H:Z)(Q:ad):Prop:=
 ar (aO H false 2 a1) λd H2=>
 ar (some (aL H2 true [D,D,D,P,D,D])) λa n=>
Φ 15 [a0] n λe f=>
 Do (bj 0 e) λh=>
 Do (bj 1 e) λF=>
 Do (bj 2 e) λi=>
 Do (M .neq i D) λo=>
 Gd o true (
 Do (bo [D,D,D,P,D,D] []) λp=>
 Do (Y f 6 a p) λj=>
 Do (O j 6 true a) λq=>
 Q (.aq [q,i]) j) (
 Do (O f 2 true d) λr=>
Φ 39 [a0,r] f λk s=>
 Do (bj 0 k) λt=>
 Do (bj 1 k) λl=>
 ar (some (aL s true [D,D,P,aS,D,aS])) λb u=>
 Do (Y u 6 b t) λc=>
 Do (M .neq l D) λv=>
 Gd v true (
 Do (bo [D,D,D,P,D,D] []) λw=>
 Do (Y c 6 a w) λm=>
 Do (O m 6 true a) λx=>
 Q (.aq [x,l]) m) (
 Do (W 0 b) λy=>
 Do (O c 1 false y) λz=>
 Do (M .neq z (J 1)) λA=>
 aQ A true (
 Do (W 0 b) λB=>
 Do (O c 1 false B) λC=>
 Do (M .neq C (J 2)) λE=>
 N (uI Φ a0 g d a h b Q) [E] c) (
 N (uI Φ a0 g d a h b Q) [P] c) (
 False)))
noncomputable def EW:aY:=R C ⟨19,[6,11,15,70],[[74]],none,[],[]⟩
def uJ(Φ:ai)(b:ST)(c:LT)(Q:ad):a:=λf d=>
 Do (M .add (G b.1 0) (J 1)) λe=>
 c ([e],d)
def rB(Φ:ai)(e f:I)(c:ST)(d:LT)(Q:ad):a:=λg b=>
 Gd (G g 0) true (
 Do (O b 2 true f) λh=>
 Do (Y b 2 e h) λi=>
 N (uJ Φ c d Q) [] i) (
 N (uJ Φ c d Q) [] b)
def EY(Φ:ai)(b e:I)(Q:ad):a:=λj9 c=>
 Do (O c 2 true e) λf=>
 Do (Y c 2 b f) λd=>
 Do (O d 2 true b) λg=>
 Q g d
def pL(Φ:ai)(a0 g h b i:I)(Q:ad):BT:=λa e=>
 Do (M .lss (G a.1 0) i) λj=>
 Gd j true (
 Do (aP none 2 a0 (G a.1 0)) λk=>
 Do (O a.2 2 true k) λl=>
 ar (some (aL a.2 true [D,D])) λc m=>
 Do (Y m 2 c l) λf=>
 Do (O f 2 true g) λn=>
 Do (O f 2 true c) λo=>
Φ 35 [n,o] f λp d=>
 aQ p true (
 Do (W 1 b) λq=>
 Do (O d 1 false q) λr=>
 Do (M .eql r D) λs=>
 aQ s false (
 Do (W 1 c) λt=>
 Do (O d 1 false t) λu=>
 Do (W 1 b) λv=>
 Do (O d 1 false v) λw=>
 Do (M .lss u w) λx=>
 N (rB Φ b c a e Q) [x] d) (
 N (rB Φ b c a e Q) [br] d) (
 False)) (
 N (rB Φ b c a e Q) [P] d) (
 False)) (
 N (EY Φ h b Q) [] a.2)
def f20(Φ:ai)(a0 a1:I)(H:Z)(Q:ad):Prop:=
 ar (aO H false 2 a1) λb H2=>
 ar (some (aL H2 true [D,D])) λc d=>
 Do (bo [D,D] []) λe=>
 ar (some (aL d true [D,D])) λa f=>
 Do (Y f 2 a e) λg=>
 Do (bp false a0) λh=>
 aC (pL Φ a0 b c a h Q) ([D],g)
noncomputable def EZ:aY:=R C ⟨20,[4,5,7],[[11]],none,[],[]⟩
def f30(Φ:ai)(a0:I)(H:Z)(Q:ad):Prop:=
 ar (aO H false 6 a0) λc H2=>
 Do (O H2 6 true c) λi=>
Φ 56 [i] H2 λd j=>
 Do (bj 0 d) λk=>
 Do (bj 1 d) λe=>
 ar (some (aL j true [D,D])) λl m=>
 Do (Y m 2 l k) λf=>
 Do (M .neq e D) λn=>
 Gd n true (
 Q (.aq [aS,e]) f) (
 Do (bo [aS,P] []) λo=>
 ar (aO f true 2 o) λa g=>
 Do (O g 6 true c) λp=>
Φ 57 [a,p,D] g λy q=>
Φ 58 [a] q λz b=>
 Do (aZ a) λr=>
 Do (W 1 r) λs=>
 Do (O b 1 false s) λt=>
 Gd t true (
 Q (.aq [aS,(J 12)]) b) (
 ar (jT b a) λu h=>
 Do (aZ u) λv=>
 Do (W 0 v) λw=>
 Do (O h 1 false w) λx=>
 Q (.aq [x,D]) h))
noncomputable def E0:aY:=R C ⟨30,[4,16],[],none,[],[(9,[6])]⟩
def f35(Φ:ai)(a0 a1:I)(H:Z)(Q:ad):Prop:=
 ar (aO H false 2 a0) λi H2=>
 ar (aO H2 false 2 a1) λj e=>
 Do (O e 2 true i) λk=>
Φ 60 [k] e λl m=>
 ar (some (aL m true [D,D])) λa o=>
 Do (Y o 2 a l) λf=>
 Do (O f 2 true a) λp=>
Φ 61 [p] f λq b=>
 aQ q false (
 Do (O b 2 true a) λg=>
 Do (O b 2 true j) λr=>
 Do (O b 2 true a) λc=>
Φ 60 [r] b λs d=>
(((P):I) = P→O d 2 true a=some g) ∧
(((P):I) = P→O d 2 true a=some c) ∧
(Φ 62 [g,s] d λt h=>
(((P):I) = P→O h 2 true a=some c) ∧
(Do (ja false [.n,.n] t c) λu=>
 Q u h))) (
(((br):I) = P→O b 2 true a=some (.aq [])) ∧
(((br):I) = P→O b 2 true a=some (.aq [])) ∧
((((br):I) = P→O b 2 true a=some (.aq [])) ∧
(Q br b))) (
(((.aq []):I) = P→O b 2 true a=some (.aq [])) ∧
(((.aq []):I) = P→O b 2 true a=some (.aq [])) ∧
((((.aq []):I) = P→O b 2 true a=some (.aq [])) ∧
(False)))
noncomputable def E1:aY:=R C ⟨35,[5],[],none,[],[]⟩
def E2(Φ:ai)(b:I)(Q:ad):a:=λg d=>
 Do (bo [D,D] []) λe=>
 Do (Y d 2 b e) λc=>
 Do (O c 2 true b) λf=>
 Q f c
def uK(Φ:ai)(f b g h:I)(Q:ad):BT:=λa i=>
 Do (M .lss (G a.1 0) h) λj=>
 Gd j true (
 Do (aP none 1 g (G a.1 0)) λk=>
 Do (O a.2 1 false k) λl=>
 Do (W 0 f) λm=>
 Do (O a.2 1 false m) λn=>
 Do (bo [aS,aS,D,D,D,D] [(0,1,n)]) λo=>
 ar (aO a.2 true 6 o) λc p=>
Φ 64 [c,l,(J 1)] p λx q=>
Φ 65 [c] q λr d=>
 Gd r true (
 Do (aZ c) λs=>
 Do (W 4 s) λt=>
 Do (O d 2 true t) λu=>
 Do (Y d 2 b u) λe=>
 Do (O e 2 true b) λv=>
 Q v e) (
 Do (M .add (G a.1 0) (J 1)) λw=>
 i ([w],d))) (
 N (E2 Φ b Q) [] a.2)
def zN(Φ:ai)(b c:I)(Q:ad):a:=λp e=>
 Do (W 0 b) λi=>
 Do (O e 1 false i) λj=>
Φ 63 [j] e λf d=>
 Do (M .neq f D) λk=>
 Gd k true (
 Do (bo [D,D] [(1,1,f)]) λl=>
 Do (Y d 2 c l) λg=>
 Do (O g 2 true c) λm=>
 Q m g) (
 Do (W 1 b) λn=>
 Do (O d 1 false n) λh=>
 Do (bp false h) λo=>
 aC (uK Φ b c h o Q) ([D],d))
def uL(Φ:ai)(e b:I)(Q:ad):a:=λf c=>
 Gd (G f 0) true (
 Do (bo [D,D] [(1,1,(J 12))]) λg=>
 Do (Y c 2 b g) λd=>
 Do (O d 2 true b) λh=>
 Q h d) (
 N (zN Φ e b Q) [] c)
def uM(Φ:ai)(b d:I)(Q:ad):a:=λj9 c=>
 aQ (G j9 0) false (
 Do (W 1 b) λe=>
 Do (O c 1 false e) λf=>
 Do (bp false f) λg=>
 Do (M .gtr g (J 8)) λh=>
 N (uL Φ b d Q) [h] c) (
 N (uL Φ b d Q) [br] c) (
 False)
def f36(Φ:ai)(a0:I)(H:Z)(Q:ad):Prop:=
 ar (aO H false 2 a0) λa H2=>
 ar (some (aL H2 true [D,D])) λc b=>
 Do (W 0 a) λd=>
 Do (O b 1 false d) λe=>
 Do (bp false e) λf=>
 Do (M .gtr f (J 32)) λg=>
 aQ g false (
 Do (W 1 a) λh=>
 Do (O b 1 false h) λi=>
 Do (bp false i) λj=>
 Do (M .lss j (J 1)) λk=>
 N (uM Φ a c Q) [k] b) (
 N (uM Φ a c Q) [br] b) (
 False)
noncomputable def E3:aY:=R C ⟨36,[2,41],[[34]],none,[],[]⟩
def E4(Φ:ai)(a0 c:I)(Q:ad):a:=λk b=>
 Do (aZ a0) λd=>
 Do (W 7 d) λe=>
 Do (O b 1 false e) λf=>
 Do (du 2 f none (some c) none) λg=>
 Do (aZ a0) λh=>
 Do (W 7 h) λi=>
 Do (Y b 1 i g) λj=>
 Q (.aq []) j
def uN(Φ:ai)(a0 a1 e f:I)(Q:ad):BT:=λa g=>
 Do (M .lss (G a.1 0) f) λh=>
 Gd h true (
 Do (aP none 10 a1 (G a.1 0)) λi=>
 Do (O a.2 10 true i) λj=>
 ar (some (aL a.2 true [D,D,.str [],.str [],D,.str [],aS,aS,aS,aS])) λb k=>
 Do (Y k 10 b j) λc=>
 Do (W 1 b) λl=>
 Do (O c 1 false l) λm=>
 Do (aZ a0) λn=>
 Do (W 6 n) λo=>
 Do (Y c 1 o m) λd=>
 Do (O d 10 true b) λp=>
Φ 66 [a0,p] d λs q=>
 Do (M .add (G a.1 0) (J 1)) λr=>
 g ([r],q)) (
 N (E4 Φ a0 e Q) [] a.2)
def f37(Φ:ai)(a0 a1:I)(H:Z)(Q:ad):Prop:=
 Do (aZ a0) λa=>
 Do (W 7 a) λb=>
 Do (O H 1 false b) λc=>
 Do (bp false c) λd=>
 Do (bp false a1) λe=>
 aC (uN Φ a0 a1 d e Q) ([D],H)
noncomputable def E5:aY:=R C ⟨37,[6],[[14]],none,[],[]⟩
def f38(Φ:ai)(a0:I)(H:Z)(Q:ad):Prop:=
 ar (aO H false 6 a0) λd H2=>
 Do (O H2 6 true d) λe=>
Φ 56 [e] H2 λc f=>
 Do (bj 0 c) λg=>
 Do (bj 1 c) λh=>
 ar (some (aL f true [D,D])) λa i=>
 Do (Y i 2 a g) λb=>
 Do (W 0 a) λj=>
 Do (O b 1 false j) λk=>
 Do (W 1 a) λl=>
 Do (O b 1 false l) λm=>
 Q (.aq [k,m,h]) b
noncomputable def E6:aY:=R C ⟨38,[5],[],none,[],[]⟩
def E7(Φ:ai)(b e:I)(Q:ad):a:=λh c=>
 Do (O c 6 true e) λf=>
 Do (Y c 6 b f) λd=>
 Do (O d 6 true b) λg=>
 Q (.aq [g,D]) d
def uO(Φ:ai)(b c k l:I)(Q:ad):BT:=λa m=>
 Do (M .lss (G a.1 0) l) λn=>
 Gd n true (
 Do (aP none 2 k (G a.1 0)) λo=>
 Do (O a.2 2 true o) λp=>
 ar (some (aL a.2 true [.str [],aS])) λf q=>
 Do (Y q 2 f p) λd=>
 Do (O d 6 true c) λr=>
 Do (O d 2 true f) λs=>
Φ 69 [r,s] d λg t=>
 Do (bj 0 g) λu=>
 Do (bj 1 g) λh=>
 ar (some (aL t true [D,D,P,aS,D,aS])) λi v=>
 Do (Y v 6 i u) λe=>
 Do (M .neq h D) λw=>
 Gd w true (
 Do (bo [D,D,P,aS,D,aS] []) λx=>
 Do (Y e 6 b x) λj=>
 Do (O j 6 true b) λy=>
 Q (.aq [y,h]) j) (
 Do (O e 6 true i) λz=>
 Do (Y e 6 c z) λA=>
 Do (M .add (G a.1 0) (J 1)) λB=>
 m ([B],A))) (
 N (E7 Φ b c Q) [] a.2)
def f39(Φ:ai)(a0 a1:I)(H:Z)(Q:ad):Prop:=
 ar (aO H false 2 a1) λe H2=>
 ar (some (aL H2 true [D,D,P,aS,D,aS])) λa l=>
Φ 43 [a0,(.fn 67 [e])] l λf b=>
 Do (M .lss f D) λm=>
 Gd m true (
 Do (bo [D,D,P,aS,D,aS] []) λn=>
 Do (Y b 6 a n) λg=>
 Do (O g 6 true a) λo=>
 Q (.aq [o,(J 6)]) g) (
 Do (aP none 7 a0 f) λp=>
 Do (W 1 p) λq=>
 Do (O b 6 true q) λr=>
 ar (some (aL b true [D,D,P,aS,D,aS])) λc s=>
 Do (Y s 6 c r) λh=>
 Do (O h 6 true c) λt=>
Φ 68 [t] h λi d=>
 Do (M .neq i D) λu=>
 Gd u true (
 Do (bo [D,D,P,aS,D,aS] []) λv=>
 Do (Y d 6 a v) λj=>
 Do (O j 6 true a) λw=>
 Q (.aq [w,i]) j) (
 Do (W 1 e) λx=>
 Do (O d 1 false x) λk=>
 Do (bp false k) λy=>
 aC (uO Φ a c k y Q) ([D],d)))
noncomputable def E8:aY:=R C ⟨39,[4,7,10,11],[[33]],none,[],[]⟩
def E9(Φ:ai)(c:LT)(Q:ad):a:=λgB b=>
 Do (M .lss (G gB 0) D) λd=>
 Gd d true (
 Q (.aq []) b) (
 c ([],b))
def OQ(Φ:ai)(a1 c:I)(d:LT)(Q:ad):BT:=λa e=>
 Do (M .geq (G a.1 0) D) λf=>
 Gd f true (
 Do (aP none 1 c (G a.1 0)) λg=>
 Do (O a.2 1 false g) λh=>
 Do (M .add h (bY 1)) λi=>
 Do (aP none 1 c (G a.1 0)) λj=>
 Do (Y a.2 1 j i) λb=>
 Do (aP none 1 c (G a.1 0)) λk=>
 Do (O b 1 false k) λl=>
 Do (O b 1 false a1) λm=>
 Do (aP none 1 m (G a.1 0)) λn=>
 Do (O b 1 false n) λo=>
 Do (e7 .u64 o) λp=>
 Do (M .lss l p) λq=>
 Gd q true (
 N (E9 Φ d Q) [(G a.1 0)] b) (
 Do (aP none 1 c (G a.1 0)) λr=>
 Do (Y b 1 r (bY 0)) λs=>
 Do (M .sub (G a.1 0) (J 1)) λt=>
 e ([t],s))) (
 N (E9 Φ d Q) [(G a.1 0)] a.2)
def OR(Φ:ai)(a0 a1 a:I)(Q:ad):BT:=λe f=>
Φ 41 [a] e.2 λg h=>
∃b c,a0 = .fn b c∧Φ (iG b) (iH b [g] c) h λi d=>
 Do (cY .not i) λj=>
 Gd j true (
 Q (.aq []) d) (
 Do (bp false a) λk=>
 Do (M .sub k (J 1)) λl=>
 aC (OQ Φ a1 a f Q) ([l],d))
def f40(Φ:ai)(a0 a1:I)(H:Z)(Q:ad):Prop:=
 Do (O H 1 false a1) λb=>
 Do (bp false b) λa=>
 ar (kr H true 1 8 [bY 0] a a) λc d=>
 aC (OR Φ a0 a1 c Q) ([],d)
noncomputable def OS:aY:=R C ⟨40,[7],[[],[4]],none,[],[]⟩
def f41(Φ:ai)(a0:I)(H:Z)(Q:ad):Prop:=
 Do (mA .s false a0) λa=>
 Gd a true (
 Q aS H) (
 ar (dk H false 1 0 [bY 0] []) λb c=>
 ar (cr c false 1 8 b a0) λd e=>
 Q d e)
noncomputable def E_:aY:=R C ⟨41,[],[],none,[],[]⟩
def uP(Φ:ai)(d e:I)(Q:ad):BT:=λa f=>
 Do (M .lss (G a.1 1) e) λg=>
 Gd g true (
 Do (aP none 2 d (G a.1 1)) λh=>
 Do (O a.2 2 true h) λi=>
 ar (some (aL a.2 true [.str [],aS])) λb j=>
 Do (Y j 2 b i) λc=>
 Do (W 1 b) λk=>
 Do (O c 1 false k) λl=>
 Do (bp false l) λm=>
 Do (M .add (G a.1 0) m) λn=>
 Do (M .add (G a.1 1) (J 1)) λo=>
 f ([n,o],c)) (
 Q (G a.1 0) a.2)
def f42(Φ:ai)(a0:I)(H:Z)(Q:ad):Prop:=
 ar (aO H false 2 a0) λb H2=>
 Do (W 1 b) λc=>
 Do (O H2 1 false c) λa=>
 Do (bp false a) λd=>
 aC (uP Φ a d Q) ([D,D],H2)
noncomputable def Fa:aY:=R C ⟨42,[5],[[3,9]],none,[],[]⟩
def OT(Φ:ai)(a0 a1 d:I)(Q:ad):BT:=λs2 e=>
 Do (M .lss (G s2.1 0) d) λf=>
 Gd f true (
 Do (aP none 7 a0 (G s2.1 0)) λg=>
 Do (O s2.2 7 true g) λh=>
∃a b,a1 = .fn a b∧Φ (iG a) (iH a [h] b) s2.2 λi c=>
 Gd i true (
 Q (G s2.1 0) c) (
 Do (M .add (G s2.1 0) (J 1)) λj=>
 e ([j],c))) (
 Q (J (-1)) s2.2)
def f43(Φ:ai)(a0 a1:I)(H:Z)(Q:ad):Prop:=
 Do (bp false a0) λa=>
 aC (OT Φ a0 a1 a Q) ([D],H)
noncomputable def Fb:aY:=R C ⟨43,[],[[8]],none,[],[]⟩
def f44(Φ:ai)(a0 a1:I)(H:Z)(Q:ad):Prop:=
 ar (aO H false 7 a0) λa H2=>
 Do (W 0 a) λb=>
 Do (O H2 1 false b) λc=>
 Do (W 0 a1) λd=>
 Do (O H2 1 false d) λe=>
 Do (M .eql c e) λf=>
 Q f H2
noncomputable def Fc:aY:=R C ⟨44,[],[],none,[],[]⟩
def f45(Φ:ai)(a0 a1:I)(H:Z)(Q:ad):Prop:=
 ar (aO H false 2 a1) λf H2=>
 Do (W 1 f) λo=>
 Do (O H2 1 false o) λp=>
 Do (bp false p) λq=>
 Do (M .eql q (J 1)) λr=>
 Gd r true (
 Do (aZ a0) λs=>
 Do (W 12 s) λt=>
 Do (O H2 1 false t) λu=>
 Do (aP none 1 u D) λv=>
 Do (O H2 1 false v) λg=>
 Do (aZ a0) λw=>
 Do (W 12 w) λx=>
 Do (O H2 1 false x) λy=>
 Do (du 1 y (some (J 1)) none none) λz=>
 Do (aZ a0) λA=>
 Do (W 12 A) λB=>
 Do (Y H2 1 B z) λa=>
 Do (aZ a0) λC=>
 Do (W 0 C) λE=>
 Do (W 4 E) λF=>
 Do (O a 1 false F) λG=>
 Do (e7 .u64 G) λK=>
 Do (M .geq g K) λL=>
 Gd L true (
 Q P a) (
 Do (aZ a0) λN=>
 Do (W 0 N) λR=>
 Do (W 5 R) λS=>
 Do (O a 1 false S) λT=>
 Do (aP none 6 T D) λU=>
 Do (O a 6 true U) λV=>
 Do (aZ a0) λX=>
 Do (W 0 X) λaa=>
 Do (Y a 6 aa V) λh=>
 Do (aZ a0) λab=>
 Do (W 0 ab) λac=>
 Do (O h 6 true ac) λae=>
Φ 38 [ae] h λd i=>
 Do (bj 0 d) λj=>
 Do (bj 1 d) λbg=>
 Do (bj 2 d) λbh=>
 Do (aZ a0) λaf=>
 Do (W 6 af) λag=>
 Do (W 0 ag) λah=>
 Do (W 0 ah) λaj=>
 Do (O i 1 false aj) λak=>
 Do (e7 .i64 g) λal=>
 Do (M .mul al j) λam=>
 Do (M .add ak am) λan=>
 Do (aZ a0) λao=>
 Do (W 6 ao) λap=>
 Do (W 0 ap) λaq=>
 Do (W 0 aq) λau=>
 Do (Y i 1 au an) λav=>
 Do (aZ a0) λaw=>
 Do (W 6 aw) λax=>
 Do (W 0 ax) λay=>
 Do (W 1 ay) λaz=>
 Do (Y av 1 az j) λaA=>
 Q br aA)) (
 Do (aZ a0) λaB=>
 Do (W 0 aB) λaC=>
 Do (W 3 aC) λaD=>
 Do (O H2 1 false aD) λaE=>
Φ 70 [aE,(.fn 71 [f])] H2 λk l=>
 Do (aZ a0) λaF=>
 Do (W 0 aF) λaG=>
 Do (O l 6 true aG) λaH=>
Φ 72 [aH] l λm n=>
 Do (bj 0 m) λaI=>
 Do (bj 1 m) λbi=>
 Do (aP none 6 aI k) λaJ=>
 Do (O n 6 true aJ) λaK=>
 ar (some (aL n true [D,D,D,P,D,D])) λb aM=>
 Do (Y aM 6 b aK) λe=>
 Do (W 0 b) λaN=>
 Do (W 0 aN) λaQ=>
 Do (O e 1 false aQ) λaR=>
 Do (aZ a0) λaS=>
 Do (W 6 aS) λaT=>
 Do (W 0 aT) λaU=>
 Do (W 0 aU) λaV=>
 Do (O e 1 false aV) λaW=>
 Do (M .add aR aW) λaX=>
 Do (W 0 b) λaY=>
 Do (W 0 aY) λa2=>
 Do (Y e 1 a2 aX) λc=>
 Do (O c 6 true b) λa3=>
 Do (aZ a0) λa4=>
 Do (W 0 a4) λa5=>
 Do (W 3 a5) λa6=>
 Do (O c 1 false a6) λa7=>
 Do (aP none 9 a7 k) λa8=>
 Do (W 1 a8) λa9=>
 Do (O c 6 true a9) λa_=>
 Do (aZ a0) λba=>
 Do (W 6 ba) λbb=>
 Do (Y c 6 bb a3) λbc=>
 Do (aZ a0) λbd=>
 Do (W 0 bd) λbe=>
 Do (Y bc 6 be a_) λbf=>
 Q br bf)
noncomputable def Fe:aY:=R C ⟨45,[12],[],none,[],[]⟩
def f56(Φ:ai)(a0:I)(H:Z)(Q:ad):Prop:=
 ar (aO H false 6 a0) λb H2=>
 ar (some (aL H2 true [D,D])) λa f=>
 Do (O f 6 true b) λn=>
Φ 68 [n] f λg c=>
 Do (M .neq g D) λo=>
 Gd o true (
 Do (bo [D,D] []) λp=>
 Do (Y c 2 a p) λh=>
 Do (O h 2 true a) λq=>
 Q (.aq [q,g]) h) (
 Do (O c 6 true b) λr=>
Φ 85 [r] c λs d=>
 Gd s true (
 Do (bo [D,D] []) λt=>
 Do (Y d 2 a t) λi=>
 Do (O i 2 true a) λu=>
 Q (.aq [u,(J 10)]) i) (
 Do (O d 6 true b) λv=>
Φ 86 [v] d λj w=>
 Do (bj 0 j) λx=>
 Do (bj 1 j) λy=>
 ar (some (aL w true [D,D])) λk z=>
 Do (Y z 2 k x) λe=>
 Do (cY .not y) λA=>
 Gd A true (
 Do (bo [D,D] []) λB=>
 Do (Y e 2 a B) λl=>
 Do (O l 2 true a) λC=>
 Q (.aq [C,(J 9)]) l) (
 Do (O e 2 true k) λE=>
 Do (Y e 2 a E) λm=>
 Do (O m 2 true a) λF=>
 Q (.aq [F,D]) m)))
noncomputable def Ff:aY:=R C ⟨56,[2,5],[],none,[],[]⟩
def Fg(Φ:ai)(a0 d e f:I)(c:ST)(g:LT)(Q:ad):a:=λr b=>
 Do (W 5 e) λh=>
 Do (O b 1 false h) λi=>
 Do (aP none 6 i D) λj=>
 Do (O b 6 true j) λk=>
 Do (W 0 f) λl=>
 Do (O b 1 false l) λm=>
 Do (M .mul (G c.1 0) m) λn=>
 Do (M .add d n) λo=>
Φ 57 [a0,k,o] b λs p=>
 Do (M .add (G c.1 0) (J 1)) λq=>
 g ([q],p)
def pM(Φ:ai)(a0 c d e:I)(f:ST)(g:LT)(Q:ad):a:=λh b=>
 Gd (G h 0) true (
 N (Fg Φ a0 c d e f g Q) [] b) (
 Q (.aq []) b)
def uQ(Φ:ai)(a0 c d e:I)(f:ST)(g:LT)(Q:ad):a:=λh b=>
 aQ (G h 0) true (
 Do (aZ a0) λi=>
 Do (W 1 i) λj=>
 Do (O b 1 false j) λk=>
 Do (cY .not k) λl=>
 N (pM Φ a0 c d e f g Q) [l] b) (
 N (pM Φ a0 c d e f g Q) [P] b) (
 False)
def rC(Φ:ai)(a0 d b c:I)(Q:ad):BT:=λa e=>
 Do (W 4 b) λf=>
 Do (O a.2 1 false f) λg=>
 Do (M .lss (G a.1 0) g) λh=>
 aQ h true (
 Do (W 0 c) λi=>
 Do (O a.2 1 false i) λj=>
 Do (M .gtr j D) λk=>
 N (uQ Φ a0 d b c a e Q) [k] a.2) (
 N (uQ Φ a0 d b c a e Q) [P] a.2) (
 False)
def uR(Φ:ai)(a0 d c g:I)(Q:ad):a:=λh b=>
 Gd (G h 0) true (
 Do (W 1 c) λi=>
 Do (O b 1 false i) λj=>
 Do (bo [D,D] [(0,1,d),(1,1,j)]) λk=>
Φ 87 [a0,k] b λx l=>
 Q (.aq []) l) (
 Do (M .eql g (J 5)) λm=>
 Gd m true (
 Do (W 5 c) λn=>
 Do (O b 1 false n) λo=>
 Do (aP none 6 o D) λp=>
 Do (O b 6 true p) λq=>
Φ 86 [q] b λe r=>
 Do (bj 0 e) λs=>
 Do (bj 1 e) λy=>
 ar (some (aL r true [D,D])) λf t=>
 Do (Y t 2 f s) λu=>
 aC (rC Φ a0 d c f Q) ([D],u)) (
 Do (O b 6 true c) λv=>
Φ 88 [a0,v,d] b λz w=>
 Q (.aq []) w))
def f57(Φ:ai)(a0 a1 c:I)(H:Z)(Q:ad):Prop:=
 ar (aO H false 6 a1) λb H2=>
 Do (W 0 b) λe=>
 Do (O H2 1 false e) λa=>
 Do (M .eql a (J 1)) λd=>
 Gd d true (
 N (uR Φ a0 c b a Q) [d] H2) (
 Do (M .eql a (J 2)) λf=>
 N (uR Φ a0 c b a Q) [f] H2)
noncomputable def Fh:aY:=R C ⟨57,[6],[[8]],none,[],[]⟩
def f58(Φ:ai)(a0:I)(H:Z)(Q:ad):Prop:=
 Do (aZ a0) λc=>
 Do (W 0 c) λd=>
 Do (O H 1 false d) λe=>
Φ 89 [e,(.fn 90 [])] H λA b=>
 Do (aZ a0) λf=>
 Do (W 0 f) λg=>
 Do (O b 1 false g) λh=>
Φ 93 [h] b λi j=>
 Do (aZ a0) λk=>
 Do (W 0 k) λl=>
 Do (Y j 1 l i) λa=>
 Do (aZ a0) λm=>
 Do (W 1 m) λn=>
 Do (O a 1 false n) λo=>
 aQ o false (
 Do (aZ a0) λp=>
 Do (W 0 p) λq=>
 Do (O a 1 false q) λr=>
 Do (bp false r) λs=>
 Do (M .gtr s (J 4096)) λt=>
 Do (aZ a0) λu=>
 Do (W 1 u) λv=>
 Do (Y a 1 v t) λw=>
 Q (.aq []) w) (
 Do (aZ a0) λx=>
 Do (W 1 x) λy=>
 Do (Y a 1 y br) λz=>
 Q (.aq []) z) (
 False)
noncomputable def Fi:aY:=R C ⟨58,[],[],none,[],[]⟩
def f60(Φ:ai)(a0:I)(H:Z)(Q:ad):Prop:=
 ar (aO H false 2 a0) λb H2=>
 ar (some (aL H2 true [D,D])) λc d=>
 Do (O d 2 true b) λg=>
Φ 94 [g] d λh a=>
 Do (cY .not h) λi=>
 Gd i true (
 Do (bo [D,D] []) λj=>
 Do (Y a 2 c j) λe=>
 Do (O e 2 true c) λk=>
 Q k e) (
 Do (W 0 b) λl=>
 Do (O a 1 false l) λm=>
 Do (W 0 b) λn=>
 Do (O a 1 false n) λo=>
 Do (W 1 b) λp=>
 Do (O a 1 false p) λq=>
 Do (M .add o q) λr=>
 Do (bo [D,D] [(0,1,m),(1,1,r)]) λs=>
 Do (Y a 2 c s) λf=>
 Do (O f 2 true c) λt=>
 Q t f)
noncomputable def Fj:aY:=R C ⟨60,[2],[],none,[],[]⟩
def f61(Φ:ai)(a0:I)(H:Z)(Q:ad):Prop:=
 ar (aO H false 2 a0) λa H2=>
 Do (W 0 a) λb=>
 Do (O H2 1 false b) λc=>
 Do (W 1 a) λd=>
 Do (O H2 1 false d) λe=>
 Do (M .eql c e) λf=>
 Q f H2
noncomputable def Fk:aY:=R C ⟨61,[],[],none,[],[]⟩
def f62(Φ:ai)(a0 a1:I)(H:Z)(Q:ad):Prop:=
 ar (aO H false 2 a0) λe H2=>
 ar (aO H2 false 2 a1) λf i=>
 ar (some (aL i true [D,D])) λc a=>
 Do (W 0 e) λj=>
 Do (O a 1 false j) λk=>
 Do (W 0 f) λl=>
 Do (O a 1 false l) λm=>
 Do (fy true [k,m]) λn=>
 Do (W 1 e) λo=>
 Do (O a 1 false o) λp=>
 Do (W 1 f) λq=>
 Do (O a 1 false q) λr=>
 Do (fy false [p,r]) λs=>
 Do (bo [D,D] [(0,1,n),(1,1,s)]) λt=>
 ar (some (aL a true [D,D])) λd u=>
 Do (Y u 2 d t) λb=>
 Do (W 0 d) λv=>
 Do (O b 1 false v) λw=>
 Do (W 1 d) λx=>
 Do (O b 1 false x) λy=>
 Do (M .geq w y) λz=>
 Gd z true (
 Do (bo [D,D] []) λA=>
 Do (Y b 2 c A) λg=>
 Do (O g 2 true c) λB=>
 Q B g) (
 Do (O b 2 true d) λC=>
 Do (Y b 2 c C) λh=>
 Do (O h 2 true c) λE=>
 Q E h)
noncomputable def Fl:aY:=R C ⟨62,[4,5],[],none,[],[]⟩
def Fm(Φ:ai)(b:ST)(c:LT)(Q:ad):a:=λj9 d=>
 Do (M .add (G b.1 1) (J 1)) λe=>
 c ([(G j9 0),e],d)
def zO(Φ:ai)(h:I)(d:ST)(i:LT)(Q:ad):a:=λgB e=>
 Do (W 1 h) λj=>
 Do (O e 6 true j) λk=>
Φ 38 [k] e λb f=>
 Do (bj 0 b) λl=>
 Do (bj 1 b) λc=>
 Do (bj 2 b) λg=>
 Do (M .neq g D) λm=>
 Gd m true (
 Q g f) (
 Do (M .add (G d.1 0) c) λn=>
 Do (M .sub n (J 1)) λo=>
 Do (M .quo o c) λp=>
 Do (M .mul p c) λq=>
 Do (M .add q l) λr=>
 N (Fm Φ d i Q) [r] f)
def uS(Φ:ai)(a0 b:I)(c:ST)(f:LT)(Q:ad):a:=λg d=>
 Gd (G g 0) true (
 Q (J 6) d) (
 Do (du 7 a0 none (some (G c.1 1)) none) λh=>
Φ 97 [h,(.fn 98 [b])] d λi e=>
 Gd i true (
 Q (J 7) e) (
 N (zO Φ b c f Q) [] e))
def Fo(Φ:ai)(Q:ad):a:=λc b=>
 Do (M .gtr (G c 0) (J 65536)) λd=>
 Gd d true (
 Q (J 9) b) (
 Q D b)
def pN(Φ:ai)(a0 f:I)(Q:ad):BT:=λa d=>
 Do (M .lss (G a.1 1) f) λg=>
 Gd g true (
 Do (aP none 7 a0 (G a.1 1)) λh=>
 Do (O a.2 7 true h) λi=>
 ar (some (aL a.2 true [.str [],D,D,P,aS,D,aS])) λb j=>
 Do (Y j 7 b i) λe=>
 Do (W 0 b) λk=>
 Do (O e 1 false k) λl=>
Φ 95 [l] e λm c=>
 Do (cY .not m) λn=>
 aQ n false (
 Do (W 0 b) λo=>
 Do (O c 1 false o) λp=>
Φ 96 [p] c λq r=>
 N (uS Φ a0 b a d Q) [q] r) (
 N (uS Φ a0 b a d Q) [br] c) (
 False)) (
 N (Fo Φ Q) [(G a.1 0)] a.2)
def f63(Φ:ai)(a0:I)(H:Z)(Q:ad):Prop:=
 Do (bp false a0) λa=>
 Do (M .gtr a (J 32)) λb=>
 Gd b true (
 Q (J 12) H) (
 Do (bp false a0) λc=>
 aC (pN Φ a0 c Q) ([D,D],H))
noncomputable def Fp:aY:=R C ⟨63,[5],[[3,14]],none,[],[]⟩
def uT(Φ:ai)(b:ST)(c:LT)(Q:ad):a:=λf d=>
 Do (M .add (G b.1 0) (J 1)) λe=>
 c ([e],d)
def Fq(Φ:ai)(a0 c:I)(Q:ad):a:=λk b=>
 Do (aZ a0) λd=>
 Do (W 1 d) λe=>
 Do (O b 1 false e) λf=>
 Do (du 1 f none (some c) none) λg=>
 Do (aZ a0) λh=>
 Do (W 1 h) λi=>
 Do (Y b 1 i g) λj=>
 Q (.aq []) j
def rD(Φ:ai)(a0 a1 f g h:I)(Q:ad):BT:=λa d=>
 Do (M .lss (G a.1 0) h) λi=>
 Gd i true (
 Do (aP none 10 a1 (G a.1 0)) λj=>
 Do (O a.2 10 true j) λk=>
 ar (some (aL a.2 true [D,D,.str [],.str [],D,.str [],aS,aS,aS,aS])) λb l=>
 Do (Y l 10 b k) λm=>
Φ 65 [a0] m λn c=>
 Do (cY .not n) λo=>
 Gd o true (
 Do (W 1 b) λp=>
 Do (O c 1 false p) λq=>
 Do (aZ a0) λr=>
 Do (W 3 r) λs=>
 Do (Y c 1 s q) λe=>
 Do (O e 10 true b) λt=>
Φ 99 [a0,t,f] e λv u=>
 N (uT Φ a d Q) [] u) (
 N (uT Φ a d Q) [] c)) (
 N (Fq Φ a0 g Q) [] a.2)
def f64(Φ:ai)(a0 a1 a:I)(H:Z)(Q:ad):Prop:=
 Do (aZ a0) λb=>
 Do (W 1 b) λc=>
 Do (O H 1 false c) λd=>
 Do (bp false d) λe=>
 Do (bp false a1) λf=>
 aC (rD Φ a0 a1 a e f Q) ([D],H)
noncomputable def Fs:aY:=R C ⟨64,[8],[[16]],none,[],[]⟩
def f65(Φ:ai)(a0:I)(H:Z)(Q:ad):Prop:=
 Do (aZ a0) λa=>
 Do (W 4 a) λb=>
 Do (W 1 b) λc=>
 Do (O H 1 false c) λd=>
 Do (M .neq d D) λe=>
 Q e H
noncomputable def Ft:aY:=R C ⟨65,[],[],none,[],[]⟩
def uU(Φ:ai)(a0 c d:I)(Q:ad):a:=λn b=>
 Gd (G n 0) true (
 Do (O b 10 true c) λo=>
Φ 105 [a0,o] b λam p=>
 Q (.aq []) p) (
 Do (M .eql d (J 5)) λq=>
 Gd q true (
 Do (O b 10 true c) λr=>
Φ 106 [a0,r] b λan s=>
 Q (.aq []) s) (
 Do (M .eql d (J 7)) λt=>
 Gd t true (
Φ 107 [(J 13)] b λu v=>
 ar (some (aL v true [D,D,D,D,D,D,bY 0,D,D,D,D,D,D])) λe w=>
 Do (Y w 13 e u) λf=>
 Do (W 4 c) λi=>
 Do (O f 1 false i) λj=>
 Do (W 0 c) λx=>
 Do (O f 1 false x) λy=>
 Do (W 4 c) λz=>
 Do (O f 1 false z) λA=>
 Do (bo [.str [],aS] []) λB=>
 Do (W 9 e) λC=>
Φ 108 [a0,y,A,B] f λE k=>
(O k 1 false i=some j) ∧
(Do (Y k 1 C j) λF=>
 Do (W 11 e) λH=>
 Do (Y F 1 H E) λl=>
 Do (O l 13 true e) λK=>
Φ 109 [a0,K] l λao L=>
 Q (.aq []) L)) (
 Do (M .eql d (J 8)) λN=>
 Gd N true (
 Do (O b 10 true c) λP=>
Φ 110 [a0,P] b λap R=>
 Q (.aq []) R) (
 Do (M .eql d (J 9)) λS=>
 Gd S true (
 Do (O b 10 true c) λT=>
Φ 111 [a0,T] b λau U=>
 Q (.aq []) U) (
 Do (M .eql d (J 10)) λV=>
 Gd V true (
Φ 107 [(J 18)] b λX Z=>
 ar (some (aL Z true [D,D,D,D,D,D,bY 0,D,D,D,D,D,D])) λg aa=>
 Do (Y aa 13 g X) λh=>
 Do (W 7 c) λab=>
 Do (O h 1 false ab) λac=>
 Do (aP none 8 ac D) λae=>
 Do (O h 8 true ae) λaf=>
Φ 100 [a0,af] h λag ah=>
 Do (W 3 g) λaj=>
 Do (Y ah 1 aj ag) λm=>
 Do (O m 13 true g) λak=>
Φ 109 [a0,ak] m λav al=>
 Q (.aq []) al) (
 Q (.aq []) b))))))
def f66(Φ:ai)(a0 a1:I)(H:Z)(Q:ad):Prop:=
 ar (aO H false 10 a1) λa H2=>
 Do (W 0 a) λg=>
 Do (O H2 1 false g) λb=>
 Do (M .eql b (J 1)) λh=>
 Gd h true (
 Do (W 7 a) λi=>
 Do (O H2 1 false i) λj=>
 Do (aP none 8 j D) λk=>
 Do (O H2 8 true k) λl=>
Φ 100 [a0,l] H2 λm n=>
Φ 101 [a0] n λd o=>
Φ 102 [a0,d,m] o λaj c=>
 Do (aZ a0) λp=>
 Do (W 7 p) λq=>
 Do (O c 1 false q) λr=>
 Do (W 2 a) λs=>
 Do (O c 1 false s) λt=>
 Do (bo [.str [],D] [(0,1,t),(1,1,d)]) λu=>
 ar (dk c false 2 1 [.str [],D] [(0,2,u)]) λv w=>
 ar (cr w true 2 24 r v) λx y=>
 Do (aZ a0) λz=>
 Do (W 7 z) λA=>
 Do (Y y 1 A x) λB=>
 Q (.aq []) B) (
 Do (M .eql b (J 2)) λC=>
 Gd C true (
 Do (W 7 a) λE=>
 Do (O H2 1 false E) λF=>
 Do (aP none 8 F D) λG=>
 Do (O H2 8 true G) λK=>
Φ 100 [a0,K] H2 λL e=>
 Do (W 2 a) λP=>
 Do (O e 1 false P) λR=>
Φ 103 [a0,R] e λS T=>
Φ 102 [a0,S,L] T λak U=>
 Q (.aq []) U) (
 Do (M .eql b (J 3)) λV=>
 Gd V true (
 Do (W 5 a) λX=>
 Do (O H2 2 true X) λaa=>
 Do (W 7 a) λab=>
 Do (O H2 1 false ab) λac=>
 Do (aP none 8 ac D) λae=>
 Do (O H2 8 true ae) λaf=>
Φ 104 [a0,aa,af] H2 λal ag=>
 Q (.aq []) ag) (
 Do (M .eql b (J 4)) λf=>
 Gd f true (
 N (uU Φ a0 a b Q) [f] H2) (
 Do (M .eql b (J 6)) λah=>
 N (uU Φ a0 a b Q) [ah] H2))))
noncomputable def Fu:aY:=R C ⟨66,[7,8,35],[],none,[],[]⟩
def f67(Φ:ai)(a0 a1:I)(H:Z)(Q:ad):Prop:=
 ar (aO H false 7 a0) λa H2=>
 Do (W 0 a) λb=>
 Do (O H2 1 false b) λc=>
 Do (W 0 a1) λd=>
 Do (O H2 1 false d) λe=>
 Do (M .eql c e) λf=>
 Q f H2
noncomputable def Fv:aY:=R C ⟨67,[],[],none,[],[]⟩
def f68(Φ:ai)(a0:I)(H:Z)(Q:ad):Prop:=
 ar (aO H false 6 a0) λb H2=>
 Do (O H2 6 true b) λc=>
Φ 112 [c] H2 λd a=>
 Do (M .gtr d (J 64)) λe=>
 Gd e true (
 Q (J 5) a) (
 Do (O a 6 true b) λf=>
Φ 113 [f] a λg h=>
 Q g h)
noncomputable def Fw:aY:=R C ⟨68,[],[],none,[],[]⟩
def Fx(Φ:ai)(d i b:I)(Q:ad):a:=λu e=>
 Do (W 3 d) λj=>
 Do (O e 1 false j) λk=>
Φ 70 [k,(.fn 114 [i])] e λf c=>
 Do (M .lss f D) λl=>
 Gd l true (
 Do (bo [D,D,P,aS,D,aS] []) λm=>
 Do (Y c 6 b m) λg=>
 Do (O g 6 true b) λn=>
 Q (.aq [n,(J 6)]) g) (
 Do (W 3 d) λo=>
 Do (O c 1 false o) λp=>
 Do (aP none 9 p f) λq=>
 Do (W 1 q) λr=>
 Do (O c 6 true r) λs=>
 Do (Y c 6 b s) λh=>
 Do (O h 6 true b) λt=>
 Q (.aq [t,D]) h)
def uV(Φ:ai)(e f b:I)(Q:ad):a:=λg c=>
 Gd (G g 0) true (
 Do (bo [D,D,P,aS,D,aS] []) λh=>
 Do (Y c 6 b h) λd=>
 Do (O d 6 true b) λi=>
 Q (.aq [i,(J 8)]) d) (
 N (Fx Φ e f b Q) [] c)
def uW(Φ:ai)(d e c:I)(g:List I)(Q:ad):a:=λh b=>
 Gd (G h 0) true (
 Do (W 5 d) λi=>
 Do (O b 1 false i) λj=>
 Do (aP none 6 j D) λk=>
 Do (O b 6 true k) λl=>
 Do (Y b 6 c l) λf=>
 Do (O f 6 true c) λm=>
 Q (.aq [m,D]) f) (
 Do (W 1 e) λn=>
 Do (O b 1 false n) λo=>
 Do (bp false o) λp=>
 Do (M .eql p (J 1)) λq=>
 aQ q false (
 Do (cY .not (G g 0)) λr=>
 N (uV Φ d e c Q) [r] b) (
 N (uV Φ d e c Q) [br] b) (
 False))
def uX(Φ:ai)(d e c:I)(f:List I)(Q:ad):a:=λh b=>
 Gd (G h 0) true (
 Do (bo [D,D,P,aS,D,aS] []) λi=>
 Do (Y b 6 c i) λg=>
 Do (O g 6 true c) λj=>
 Q (.aq [j,(J 8)]) g) (
 Do (W 1 e) λk=>
 Do (O b 1 false k) λl=>
 Do (bp false l) λm=>
 Do (M .eql m (J 1)) λn=>
 aQ n true (
 Do (W 0 d) λo=>
 Do (O b 1 false o) λp=>
 Do (M .eql p (J 5)) λq=>
 N (uW Φ d e c f Q) [q] b) (
 N (uW Φ d e c f Q) [P] b) (
 False))
def uY(Φ:ai)(d b e:I)(Q:ad):a:=λf c=>
 Do (W 1 b) λg=>
 Do (O c 1 false g) λh=>
 Do (bp false h) λi=>
 Do (M .gtr i (J 1)) λj=>
 aQ j false (
 Do (W 1 b) λk=>
 Do (O c 1 false k) λl=>
 Do (bp false l) λm=>
 Do (M .eql m (J 1)) λn=>
 Do (W 0 b) λo=>
 Do (O c 1 false o) λp=>
 Do (M .neq p (.str [])) λq=>
 Do (kQ false n q) λr=>
 N (uX Φ d b e f Q) [r] c) (
 N (uX Φ d b e f Q) [br] c) (
 False)
def f69(Φ:ai)(a0 a1:I)(H:Z)(Q:ad):Prop:=
 ar (aO H false 6 a0) λa H2=>
 ar (aO H2 false 2 a1) λc e=>
 ar (some (aL e true [D,D,P,aS,D,aS])) λd b=>
 Do (W 0 a) λf=>
 Do (O b 1 false f) λg=>
 Do (M .eql g (J 3)) λh=>
 aQ h false (
 Do (W 0 a) λi=>
 Do (O b 1 false i) λj=>
 Do (M .eql j (J 4)) λk=>
 N (uY Φ a c d Q) [k] b) (
 N (uY Φ a c d Q) [br] b) (
 False)
noncomputable def Fy:aY:=R C ⟨69,[4],[],none,[],[]⟩
def OU(Φ:ai)(a0 a1 d:I)(Q:ad):BT:=λs2 e=>
 Do (M .lss (G s2.1 0) d) λf=>
 Gd f true (
 Do (aP none 9 a0 (G s2.1 0)) λg=>
 Do (O s2.2 9 true g) λh=>
∃a b,a1 = .fn a b∧Φ (iG a) (iH a [h] b) s2.2 λi c=>
 Gd i true (
 Q (G s2.1 0) c) (
 Do (M .add (G s2.1 0) (J 1)) λj=>
 e ([j],c))) (
 Q (J (-1)) s2.2)
def f70(Φ:ai)(a0 a1:I)(H:Z)(Q:ad):Prop:=
 Do (bp false a0) λa=>
 aC (OU Φ a0 a1 a Q) ([D],H)
noncomputable def Fz:aY:=R C ⟨70,[],[[8]],none,[],[]⟩
def f71(Φ:ai)(a0 a1:I)(H:Z)(Q:ad):Prop:=
 ar (aO H false 9 a0) λa H2=>
 Do (W 0 a) λb=>
 Do (O H2 1 false b) λc=>
 Do (W 0 a1) λd=>
 Do (O H2 1 false d) λe=>
 Do (M .eql c e) λf=>
 Q f H2
noncomputable def FA:aY:=R C ⟨71,[],[],none,[],[]⟩
def FB(Φ:ai)(f:I)(Q:ad):a:=λm b=>
 Do (O b 6 true f) λg=>
Φ 115 [g] b λc h=>
 Do (bj 0 c) λi=>
 Do (bj 1 c) λn=>
 ar (some (aL h true [D,D,aS,D])) λd j=>
 Do (Y j 4 d i) λe=>
 Do (W 2 d) λk=>
 Do (O e 1 false k) λl=>
 Q (.aq [l,D]) e
def uZ(Φ:ai)(c:I)(Q:ad):a:=λgK b=>
 Gd (G gK 0) true (
 Q (.aq [aS,(J 8)]) b) (
 N (FB Φ c Q) [] b)
def f72(Φ:ai)(a0:I)(H:Z)(Q:ad):Prop:=
 ar (aO H false 6 a0) λa H2=>
 Do (O H2 6 true a) λe=>
Φ 56 [e] H2 λc f=>
 Do (bj 0 c) λg=>
 Do (bj 1 c) λd=>
 ar (some (aL f true [D,D])) λh i=>
 Do (Y i 2 h g) λb=>
 Do (M .neq d D) λj=>
 Gd j true (
 Q (.aq [aS,d]) b) (
 Do (W 0 a) λk=>
 Do (O b 1 false k) λl=>
 Do (M .neq l (J 3)) λm=>
 aQ m true (
 Do (W 0 a) λn=>
 Do (O b 1 false n) λo=>
 Do (M .neq o (J 4)) λp=>
 N (uZ Φ a Q) [p] b) (
 N (uZ Φ a Q) [P] b) (
 False))
noncomputable def FC:aY:=R C ⟨72,[4,6],[],none,[],[]⟩
def u0(Φ:ai)(c:I)(Q:ad):a:=λd b=>
 aQ (G d 0) false (
 Do (W 3 c) λe=>
 Do (O b 1 false e) λf=>
Φ 131 [f,(.fn 132 [])] b λg h=>
 Q g h) (
 Q br b) (
 False)
def u1(Φ:ai)(b:I)(Q:ad):a:=λd c=>
 aQ (G d 0) false (
 Do (W 5 b) λe=>
 Do (O c 1 false e) λf=>
Φ 130 [f,(.fn 85 [])] c λg h=>
 N (u0 Φ b Q) [g] h) (
 N (u0 Φ b Q) [br] c) (
 False)
def f85(Φ:ai)(a0:I)(H:Z)(Q:ad):Prop:=
 ar (aO H false 6 a0) λa H2=>
 Do (W 2 a) λb=>
 Do (O H2 1 false b) λc=>
 aQ c true (
 Do (O H2 6 true a) λd=>
Φ 129 [d] H2 λe f=>
 N (u1 Φ a Q) [e] f) (
 N (u1 Φ a Q) [P] H2) (
 False)
noncomputable def FD:aY:=R C ⟨85,[],[],none,[],[]⟩
def FE(Φ:ai)(h b:I)(Q:ad):a:=λq c=>
 Do (O c 6 true h) λi=>
Φ 115 [i] c λd j=>
 Do (bj 0 d) λk=>
 Do (bj 1 d) λl=>
 ar (some (aL j true [D,D,aS,D])) λe m=>
 Do (Y m 4 e k) λf=>
 Do (W 0 e) λn=>
 Do (O f 2 true n) λo=>
 Do (Y f 2 b o) λg=>
 Do (O g 2 true b) λp=>
 Q (.aq [p,l]) g
def u2(Φ:ai)(d b o:I)(Q:ad):a:=λj9 c=>
 Gd (G j9 0) true (
 Do (W 1 d) λp=>
 Do (O c 1 false p) λq=>
 Do (W 1 d) λr=>
 Do (O c 1 false r) λs=>
 Do (bo [D,D] [(0,1,q),(1,1,s)]) λt=>
 Do (Y c 2 b t) λj=>
 Do (O j 2 true b) λu=>
 Q (.aq [u,br]) j) (
 Do (M .eql o (J 5)) λv=>
 Gd v true (
 Do (W 5 d) λw=>
 Do (O c 1 false w) λx=>
 Do (aP none 6 x D) λy=>
 Do (O c 6 true y) λz=>
Φ 86 [z] c λk A=>
 Do (bj 0 k) λB=>
 Do (bj 1 k) λC=>
 ar (some (aL A true [D,D])) λe E=>
 Do (Y E 2 e B) λg=>
 Do (W 0 e) λF=>
 Do (O g 1 false F) λH=>
 Do (W 4 d) λK=>
 Do (O g 1 false K) λL=>
 Do (M .mul H L) λR=>
 Do (W 0 e) λS=>
 Do (Y g 1 S R) λf=>
 Do (O f 2 true e) λl=>
 aQ C true (
 Do (W 0 e) λm=>
 Do (O f 1 false m) λn=>
 Do (M .leq n (J 65536)) λT=>
 Do (Y f 2 b l) λh=>
(((br):I) = br→O h 1 false m=some n) ∧
(Do (O h 2 true b) λU=>
 Q (.aq [U,T]) h)) (
 Do (Y f 2 b l) λi=>
(((P):I) = br→O i 1 false (.aq [])=some (.aq [])) ∧
(Do (O i 2 true b) λV=>
 Q (.aq [V,P]) i)) (
 False)) (
 N (FE Φ d b Q) [] c))
def f86(Φ:ai)(a0:I)(H:Z)(Q:ad):Prop:=
 ar (aO H false 6 a0) λb H2=>
 ar (some (aL H2 true [D,D])) λd c=>
 Do (W 0 b) λf=>
 Do (O c 1 false f) λa=>
 Do (M .eql a (J 1)) λe=>
 Gd e true (
 N (u2 Φ b d a Q) [e] c) (
 Do (M .eql a (J 2)) λg=>
 N (u2 Φ b d a Q) [g] c)
noncomputable def FF:aY:=R C ⟨86,[2,4,6],[],none,[],[]⟩
def u3(Φ:ai)(a0:I)(Q:ad):a:=λi b=>
 Do (aZ a0) λc=>
 Do (W 0 c) λd=>
 Do (O b 1 false d) λe=>
 Do (bp false e) λf=>
 Do (M .gtr f (J 8192)) λg=>
 Gd g true (
Φ 58 [a0] b λj h=>
 Q (.aq []) h) (
 Q (.aq []) b)
def f87(Φ:ai)(a0 a1:I)(H:Z)(Q:ad):Prop:=
 ar (aO H false 2 a1) λa H2=>
 Do (aZ a0) λb=>
 Do (W 1 b) λc=>
 Do (O H2 1 false c) λd=>
 Do (cY .not d) λe=>
 Gd e true (
 Do (aZ a0) λf=>
 Do (W 0 f) λg=>
 Do (O H2 1 false g) λh=>
 Do (O H2 2 true a) λi=>
 ar (dk H2 false 2 1 [D,D] [(0,2,i)]) λj k=>
 ar (cr k true 2 16 h j) λl m=>
 Do (aZ a0) λn=>
 Do (W 0 n) λo=>
 Do (Y m 1 o l) λp=>
 N (u3 Φ a0 Q) [] p) (
 N (u3 Φ a0 Q) [] H2)
noncomputable def FG:aY:=R C ⟨87,[16],[],none,[],[]⟩
def pO(Φ:ai)(b:ST)(c:LT)(Q:ad):a:=λf d=>
 Do (M .add (G b.1 0) (J 1)) λe=>
 c ([e],d)
def u4(Φ:ai)(h c g d:I)(e:ST)(f:LT)(Q:ad):a:=λL b=>
 Do (W 7 g) λi=>
 Do (O b 1 false i) λj=>
 Do (cY .not j) λk=>
 Gd k true (
 Do (O b 1 false h) λl=>
 Do (W 1 g) λm=>
 Do (O b 6 true m) λn=>
 Do (W 0 d) λo=>
 Do (O b 1 false o) λp=>
Φ 57 [l,n,p] b λP q=>
 N (pO Φ e f Q) [] q) (
 Do (W 1 c) λr=>
 Do (O b 1 false r) λs=>
 Do (M .gtr s D) λt=>
 Gd t true (
 Do (W 0 d) λu=>
 Do (O b 1 false u) λv=>
 Do (W 1 d) λw=>
 Do (O b 1 false w) λx=>
 Do (M .add v x) λy=>
 Do (W 0 c) λz=>
 Do (O b 1 false z) λA=>
 Do (M .sub y A) λB=>
 Do (W 1 c) λC=>
 Do (Y b 1 C B) λE=>
 N (pO Φ e f Q) [] E) (
 Do (W 8 g) λF=>
 Do (O b 1 false F) λG=>
 Do (M .gtr G D) λH=>
 Gd H true (
 Do (O b 2 true d) λJ=>
 Do (Y b 2 c J) λK=>
 N (pO Φ e f Q) [] K) (
 N (pO Φ e f Q) [] b)))
def u5(Φ:ai)(b c e f:I)(g:ST)(h:LT)(Q:ad):a:=λk i=>
 Gd (G k 0) true (
∃d j,(.fn 133 [c,b]:I) = .fn d j∧Φ (iG d) (iH d [] j) i λm l=>
 N (u4 Φ b c e f g h Q) [] l) (
 N (u4 Φ b c e f g h Q) [] i)
def u6(Φ:ai)(c i d e f:I)(g:ST)(h:LT)(Q:ad):a:=λj b=>
 aQ (G j 0) false (
 Do (W 0 i) λk=>
 Do (O b 1 false k) λl=>
 Do (M .eql l (J 4)) λm=>
 N (u5 Φ c d e f g h Q) [m] b) (
 N (u5 Φ c d e f g h Q) [br] b) (
 False)
def FH(Φ:ai)(d e:I)(Q:ad):a:=λh f=>
∃b c,(.fn 133 [e,d]:I) = .fn b c∧Φ (iG b) (iH b [] c) f λi g=>
 Q (.aq []) g
def rE(Φ:ai)(k e h l f m n:I)(Q:ad):BT:=λa i=>
 Do (M .lss (G a.1 0) n) λo=>
 Gd o true (
 Do (aP none 9 m (G a.1 0)) λp=>
 Do (O a.2 9 true p) λq=>
 ar (some (aL a.2 true [.str [],D,D,P,aS,D,aS,P,D])) λb r=>
 Do (Y r 9 b q) λg=>
 Do (W 2 l) λs=>
 Do (O g 1 false s) λt=>
 Do (aP none 6 t (G a.1 0)) λu=>
 Do (W 0 u) λv=>
 Do (O g 2 true v) λw=>
 ar (some (aL g true [D,D])) λc x=>
 Do (Y x 2 c w) λj=>
 Do (W 0 c) λy=>
 Do (O j 1 false y) λz=>
 Do (M .add z k) λA=>
 Do (W 0 c) λB=>
 Do (Y j 1 B A) λd=>
 Do (W 7 b) λC=>
 Do (O d 1 false C) λE=>
 Do (cY .not E) λF=>
 aQ F false (
 Do (W 8 b) λH=>
 Do (O d 1 false H) λJ=>
 Do (M .eql J D) λK=>
 N (u6 Φ e h f b c a i Q) [K] d) (
 N (u6 Φ e h f b c a i Q) [br] d) (
 False)) (
 N (FH Φ e f Q) [] a.2)
def f88(Φ:ai)(a0 a1 h:I)(H:Z)(Q:ad):Prop:=
 ar (aO H false 1 a0) λi H2=>
 ar (aO H2 false 6 a1) λa b=>
 Do (O b 6 true a) λj=>
Φ 115 [j] b λc k=>
 Do (bj 0 c) λl=>
 Do (bj 1 c) λs=>
 ar (some (aL k true [D,D,aS,D])) λd m=>
 Do (Y m 4 d l) λn=>
 Do (bo [D,D] []) λo=>
 ar (some (aL n true [D,D])) λe p=>
 Do (Y p 2 e o) λf=>
 Do (W 3 a) λq=>
 Do (O f 1 false q) λg=>
 Do (bp false g) λr=>
 aC (rE Φ h i a d e g r Q) ([D],f)
noncomputable def FI:aY:=R C ⟨88,[6,8,11,12],[[23]],none,[],[]⟩
def f90(Φ:ai)(a0 a1:I)(H:Z)(Q:ad):Prop:=
 ar (aO H false 2 a0) λc H2=>
 ar (aO H2 false 2 a1) λd a=>
 Do (W 0 c) λi=>
 Do (O a 1 false i) λj=>
 Do (W 0 d) λk=>
 Do (O a 1 false k) λl=>
 Do (W 1 c) λe=>
 Do (O a 1 false e) λf=>
 Do (W 1 d) λg=>
 Do (O a 1 false g) λh=>
Φ 92 [j,l] a λm b=>
(O b 1 false e=some f) ∧
(O b 1 false g=some h) ∧
(Φ 92 [f,h] b λn o=>
 ar (dk o false 1 2 [D] [(0,1,m),(1,1,n)]) λp q=>
Φ 91 [p] q λr s=>
 Q r s)
noncomputable def FJ:aY:=R C ⟨90,[],[],none,[],[]⟩
def u7(Φ:ai)(a0 b:I)(Q:ad):BT:=λs2 c=>
 Do (M .lss (G s2.1 0) b) λd=>
 Gd d true (
 Do (aP none 1 a0 (G s2.1 0)) λe=>
 Do (O s2.2 1 false e) λa=>
 Do (M .neq a D) λf=>
 Gd f true (
 Q a s2.2) (
 Do (M .add (G s2.1 0) (J 1)) λg=>
 c ([g],s2.2))) (
 Q D s2.2)
def f91(Φ:ai)(a0:I)(H:Z)(Q:ad):Prop:=
 Do (bp false a0) λa=>
 aC (u7 Φ a0 a Q) ([D],H)
noncomputable def FL:aY:=R C ⟨91,[],[[8]],none,[],[]⟩
def f92(Φ:ai)(a0 a1:I)(H:Z)(Q:ad):Prop:=
Φ 136 [a0] H λc H2=>
Φ 136 [a1] H2 λb a=>
 Gd c true (
 Gd b true (
 Q D a) (
 Q (J (-1)) a)) (
 Gd b true (
 Q (J 1) a) (
 Do (M .lss a0 a1) λd=>
 Gd d true (
 Q (J (-1)) a) (
 Do (M .gtr a0 a1) λe=>
 Gd e true (
 Q (J 1) a) (
 Q D a))))
noncomputable def FM:aY:=R C ⟨92,[],[],none,[],[]⟩
def u9(Φ:ai)(b:ST)(c:LT)(Q:ad):a:=λd e=>
 Do (M .add (G b.1 1) (J 1)) λf=>
 c ([(G d 0),f],e)
def FN(Φ:ai)(a0:I)(Q:ad):a:=λgK b=>
 Do (du 2 a0 (some (G gK 0)) none none) λc=>
 ar (eh b (.clear 2 [D,D]) [c]) λf d=>
 Do (du 2 a0 none (some (G gK 0)) none) λe=>
 Q e d
def u_(Φ:ai)(a0 b:I)(Q:ad):BT:=λa c=>
 Do (bp false b) λd=>
 Do (M .lss (G a.1 1) d) λe=>
 Gd e true (
 Do (aP none 2 b (G a.1 1)) λf=>
 Do (O a.2 2 true f) λg=>
 Do (M .sub (G a.1 1) (J 1)) λh=>
 Do (aP none 2 b h) λi=>
 Do (O a.2 2 true i) λj=>
 Do (ja true [.n,.n] g j) λk=>
 Gd k true (
 Do (aP none 2 b (G a.1 1)) λl=>
 Do (O a.2 2 true l) λm=>
 Do (aP none 2 a0 (G a.1 0)) λo=>
 Do (Y a.2 2 o m) λp=>
 Do (M .add (G a.1 0) (J 1)) λq=>
 N (u9 Φ a c Q) [q] p) (
 N (u9 Φ a c Q) [(G a.1 0)] a.2)) (
 N (FN Φ a0 Q) [(G a.1 0)] a.2)
def va(Φ:ai)(a0:I)(Q:ad):BT:=λa b=>
 Do (bp false a0) λc=>
 Do (M .lss (G a.1 0) c) λd=>
 Gd d true (
 Do (aP none 2 a0 (G a.1 0)) λe=>
 Do (O a.2 2 true e) λf=>
 Do (M .sub (G a.1 0) (J 1)) λg=>
 Do (aP none 2 a0 g) λh=>
 Do (O a.2 2 true h) λi=>
 Do (ja false [.n,.n] f i) λj=>
 Gd j true (
 Do (du 2 a0 (some (G a.1 0)) none none) λk=>
 aC (u_ Φ a0 k Q) ([(G a.1 0),(J 1)],a.2)) (
 Do (M .add (G a.1 0) (J 1)) λl=>
 b ([l],a.2))) (
 Q a0 a.2)
def f93(Φ:ai)(a0:I)(H:Z)(Q:ad):Prop:=
 Do (bp false a0) λa=>
 Do (M .lss a (J 2)) λb=>
 Gd b true (
 Q a0 H) (
 aC (va Φ a0 Q) ([(J 1)],H))
noncomputable def FO:aY:=R C ⟨93,[],[[3],[3,5]],none,[],[]⟩
def vb(Φ:ai)(c:I)(Q:ad):a:=λd b=>
 aQ (G d 0) true (
 Do (W 1 c) λe=>
 Do (O b 1 false e) λf=>
 Do (M .leq f (J 1048576)) λg=>
 Q g b) (
 Q P b) (
 False)
def vc(Φ:ai)(b:I)(Q:ad):a:=λd c=>
 aQ (G d 0) true (
 Do (W 1 b) λe=>
 Do (O c 1 false e) λf=>
 Do (M .geq f D) λg=>
 N (vb Φ b Q) [g] c) (
 N (vb Φ b Q) [P] c) (
 False)
def f94(Φ:ai)(a0:I)(H:Z)(Q:ad):Prop:=
 ar (aO H false 2 a0) λa H2=>
 Do (W 0 a) λb=>
 Do (O H2 1 false b) λc=>
 Do (M .geq c D) λd=>
 aQ d true (
 Do (W 0 a) λe=>
 Do (O H2 1 false e) λf=>
 Do (M .leq f (J 1099511627776)) λg=>
 N (vc Φ a Q) [g] H2) (
 N (vc Φ a Q) [P] H2) (
 False)
noncomputable def FP:aY:=R C ⟨94,[],[],none,[],[]⟩
def pP(Φ:ai)(c:LT)(Q:ad):a:=λd b=>
 Gd (G d 0) true (
 Q P b) (
 c ([],b))
def rF(Φ:ai)(d:I)(b:LT)(Q:ad):a:=λe c=>
 aQ (G e 0) true (
 Do (M .lss d (.int .i32 48)) λf=>
 aQ f false (
 Do (M .gtr d (.int .i32 57)) λg=>
 N (pP Φ b Q) [g] c) (
 N (pP Φ b Q) [br] c) (
 False)) (
 N (pP Φ b Q) [P] c) (
 False)
def vd(Φ:ai)(f:I)(Q:ad):BT:=λg b=>
 ar (kR g.2 f) λc d=>
 Do (bj 0 c) λh=>
 Gd h true (
 Do (bj 2 c) λa=>
Φ 137 [a] d λi e=>
 Do (cY .not i) λj=>
 aQ j true (
 Do (M .neq a (.int .i32 95)) λk=>
 N (rF Φ a b Q) [k] e) (
 N (rF Φ a b Q) [P] e) (
 False)) (
 Q br d)
def FQ(Φ:ai)(a0:I)(Q:ad):a:=λd H2=>
 ar (nn H2 a0) λb c=>
 aC (vd Φ b Q) ([],c)
def rG(Φ:ai)(a0:I)(Q:ad):a:=λc b=>
 Gd (G c 0) true (
 Q P b) (
 N (FQ Φ a0 Q) [] b)
def ve(Φ:ai)(a0:I)(Q:ad):a:=λc b=>
 aQ (G c 0) false (
 Do (jS a0 D) λd=>
 Do (e7 .i32 d) λe=>
Φ 137 [e] b λf g=>
 Do (cY .not f) λh=>
 N (rG Φ a0 Q) [h] g) (
 N (rG Φ a0 Q) [br] b) (
 False)
def f95(Φ:ai)(a0:I)(H:Z)(Q:ad):Prop:=
 Do (bp true a0) λa=>
 Do (M .lss a (J 1)) λb=>
 aQ b false (
 Do (bp true a0) λc=>
 Do (M .gtr c (J 16)) λd=>
 N (ve Φ a0 Q) [d] H) (
 N (ve Φ a0 Q) [br] H) (
 False)
noncomputable def FR:aY:=R C ⟨95,[],[[]],none,[],[]⟩
def f96(Φ:ai)(a0:I)(H:Z)(Q:ad):Prop:=
Φ 139 [(.str [118,97,114,32,116,104,114,101,97,100,32,115,116,114,117,99,116,32,117,110,105,111,110,32,112,97,99,107,101,100,32,117,56,32,117,49,54,32,117,51,50,32,117,54,52,32,97,56,32,97,49,54,32,97,51,50,32,97,54,52,32,97,49,50,56,32,108,101,116,32,115,101,116,32,119,114,105,116,101,32,115,116,111,114,101,32,108,111,97,100,50,32,115,116,111,114,101,50,32,102,101,110,99,101,32,105,102,32,101,108,115,101,32,119,104,105,108,101,32,112,114,105,110,116,32,114,101,97,100,32,108,111,97,100,32,97,100,100,32,115,119,97,112,32,99,97,115,32,114,108,120,32,97,99,113,32,114,101,108,32,115,99])] H λa H2=>
Φ 138 [a,a0] H2 λb c=>
 Q b c
noncomputable def FT:aY:=R C ⟨96,[],[],none,[],[]⟩
def f97(Φ:ai)(a0 a1:I)(H:Z)(Q:ad):Prop:=
Φ 43 [a0,a1] H λa H2=>
 Do (M .geq a D) λb=>
 Q b H2
noncomputable def FU:aY:=R C ⟨97,[],[],none,[],[]⟩
def f98(Φ:ai)(a0 a1:I)(H:Z)(Q:ad):Prop:=
 ar (aO H false 7 a0) λa H2=>
 Do (W 0 a) λb=>
 Do (O H2 1 false b) λc=>
 Do (W 0 a1) λd=>
 Do (O H2 1 false d) λe=>
 Do (M .eql c e) λf=>
 Q f H2
noncomputable def FV:aY:=R C ⟨98,[],[],none,[],[]⟩
def rH(Φ:ai)(a0 c b:I)(Q:ad):a:=λr d=>
 Do (W 8 b) λg=>
 Do (O d 1 false g) λh=>
 Do (M .add c (J 1)) λi=>
Φ 64 [a0,h,i] d λs e=>
 Do (W 1 b) λj=>
 Do (O e 1 false j) λk=>
 Do (aZ a0) λl=>
 Do (W 3 l) λm=>
 Do (Y e 1 m k) λf=>
 Do (W 9 b) λn=>
 Do (O f 1 false n) λo=>
 Do (M .add c (J 1)) λp=>
Φ 64 [a0,o,p] f λt q=>
 Q (.aq []) q
def pQ(Φ:ai)(a0 d b:I)(Q:ad):a:=λac f=>
 Do (W 7 b) λj=>
 Do (O f 1 false j) λk=>
Φ 145 [a0,k,d] f λae c=>
 Do (W 0 b) λl=>
 Do (O c 1 false l) λg=>
 Do (M .eql g (J 1)) λm=>
 Gd m true (
 Do (aZ a0) λn=>
 Do (W 1 n) λo=>
 Do (O c 1 false o) λp=>
 Do (W 2 b) λq=>
 Do (O c 1 false q) λr=>
 ar (dk c false 1 1 [.str []] [(0,1,r)]) λs t=>
 ar (cr t true 1 16 p s) λu v=>
 Do (aZ a0) λw=>
 Do (W 1 w) λx=>
 Do (Y v 1 x u) λh=>
 Do (aZ a0) λy=>
 Do (W 2 y) λz=>
 Do (O h 1 false z) λA=>
 Do (M .add A (J 1)) λB=>
 Do (aZ a0) λC=>
 Do (W 2 C) λD=>
 Do (Y h 1 D B) λE=>
 N (rH Φ a0 d b Q) [] E) (
 Do (M .eql g (J 5)) λF=>
 Gd F true (
 Do (W 2 b) λG=>
 Do (O c 1 false G) λH=>
Φ 143 [a0,H] c λK L=>
Φ 140 [a0,K,(J 6)] L λaf i=>
 Do (W 3 b) λP=>
 Do (O i 1 false P) λR=>
Φ 143 [a0,R] i λS T=>
Φ 140 [a0,S,(J 6)] T λag e=>
 Do (W 2 b) λU=>
 Do (O e 1 false U) λV=>
 Do (W 3 b) λX=>
 Do (O e 1 false X) λZ=>
 Do (M .neq V Z) λaa=>
Φ 140 [a0,aa,(J 7)] e λah ab=>
 N (rH Φ a0 d b Q) [] ab) (
 N (rH Φ a0 d b Q) [] c))
def vf(Φ:ai)(a0 e b:I)(Q:ad):a:=λp c=>
 Do (W 2 b) λf=>
 Do (O c 1 false f) λg=>
Φ 143 [a0,g] c λh i=>
 Do (cY .not h) λj=>
Φ 140 [a0,j,(J 7)] i λq d=>
 Do (aZ a0) λk=>
 Do (W 2 k) λl=>
 Do (O d 1 false l) λm=>
 Do (M .lss m (J 40)) λn=>
Φ 140 [a0,n,(J 12)] d λr o=>
 N (pQ Φ a0 e b Q) [] o
def pR(Φ:ai)(a0 d b:I)(Q:ad):a:=λe c=>
 Gd (G e 0) true (
 Do (W 0 b) λf=>
 Do (O c 1 false f) λg=>
 Do (W 5 b) λh=>
 Do (O c 2 true h) λi=>
Φ 144 [a0,g,i,d] c λk j=>
 N (pQ Φ a0 d b Q) [] j) (
 N (pQ Φ a0 d b Q) [] c)
def f99(Φ:ai)(a0 a1 c:I)(H:Z)(Q:ad):Prop:=
 ar (aO H false 10 a1) λa H2=>
 Do (M .leq c (J 64)) λk=>
Φ 140 [a0,k,(J 5)] H2 λV g=>
 Do (O g 10 true a) λl=>
Φ 141 [l] g λm n=>
Φ 140 [a0,m,(J 4)] n λX e=>
 Do (W 0 a) λo=>
 Do (O e 1 false o) λp=>
 Do (W 4 a) λq=>
 Do (O e 1 false q) λr=>
Φ 142 [p,r] e λs t=>
Φ 140 [a0,s,(J 11)] t λY b=>
 Do (W 0 a) λu=>
 Do (O b 1 false u) λd=>
 Do (M .eql d (J 1)) λv=>
 Gd v true (
 Do (W 2 a) λw=>
 Do (O b 1 false w) λx=>
Φ 95 [x] b λy f=>
 aQ y true (
 Do (W 2 a) λz=>
 Do (O f 1 false z) λA=>
Φ 96 [A] f λB C=>
 Do (cY .not B) λD=>
Φ 140 [a0,D,(J 6)] C λaa E=>
 N (vf Φ a0 c a Q) [] E) (
Φ 140 [a0,P,(J 6)] f λab F=>
 N (vf Φ a0 c a Q) [] F) (
 False)) (
 Do (M .eql d (J 2)) λG=>
 Gd G true (
 Do (W 2 a) λK=>
 Do (O b 1 false K) λL=>
Φ 143 [a0,L] b λR S=>
Φ 140 [a0,R,(J 6)] S λac T=>
 N (pQ Φ a0 c a Q) [] T) (
 Do (M .eql d (J 3)) λh=>
 Gd h true (
 N (pR Φ a0 c a Q) [h] b) (
 Do (M .eql d (J 4)) λi=>
 Gd i true (
 N (pR Φ a0 c a Q) [i] b) (
 Do (M .eql d (J 5)) λj=>
 Gd j true (
 N (pR Φ a0 c a Q) [j] b) (
 Do (M .eql d (J 6)) λU=>
 N (pR Φ a0 c a Q) [U] b)))))
noncomputable def FW:aY:=R C ⟨99,[87],[],none,[],[]⟩
def f100(Φ:ai)(a0 a1:I)(H:Z)(Q:ad):Prop:=
 ar (aO H false 8 a1) λa H2=>
 Do (W 0 a) λg=>
 Do (O H2 1 false g) λb=>
 Do (M .eql b (J 1)) λh=>
 Gd h true (
 Do (W 1 a) λi=>
 Do (O H2 1 false i) λj=>
Φ 146 [a0,j] H2 λk l=>
 Q k l) (
 Do (M .eql b (J 2)) λm=>
 Gd m true (
 Do (W 2 a) λn=>
 Do (O H2 1 false n) λo=>
Φ 103 [a0,o] H2 λp q=>
 Q p q) (
 Do (M .eql b (J 3)) λr=>
 Gd r true (
 Do (W 7 a) λs=>
 Do (O H2 1 false s) λt=>
 Do (aP none 8 t D) λu=>
 Do (O H2 8 true u) λv=>
Φ 100 [a0,v] H2 λw c=>
 Do (W 3 a) λd=>
 Do (O c 1 false d) λe=>
 Do (W 7 a) λx=>
 Do (O c 1 false x) λy=>
 Do (aP none 8 y (J 1)) λz=>
 Do (O c 8 true z) λA=>
Φ 100 [a0,A] c λB f=>
(O f 1 false d=some e) ∧
(Φ 147 [a0,e,w,B] f λC E=>
 Q C E)) (
 Do (M .eql b (J 4)) λF=>
 Gd F true (
 Do (W 5 a) λG=>
 Do (O H2 2 true G) λK=>
Φ 148 [a0,K] H2 λL N=>
 Q L N) (
 Do (O H2 8 true a) λP=>
Φ 149 [a0,P] H2 λR S=>
 Q R S))))
noncomputable def FX:aY:=R C ⟨100,[],[],none,[],[]⟩
def f101(Φ:ai)(a0:I)(H:Z)(Q:ad):Prop:=
 Do (aZ a0) λb=>
 Do (W 3 b) λc=>
 Do (O H 1 false c) λd=>
 Do (M .add d (J 1)) λe=>
 Do (aZ a0) λf=>
 Do (W 3 f) λg=>
 Do (Y H 1 g e) λa=>
 Do (aZ a0) λh=>
 Do (W 3 h) λi=>
 Do (O a 1 false i) λj=>
 Do (M .sub j (J 1)) λk=>
 Q k a
noncomputable def FY:aY:=R C ⟨101,[],[],none,[],[]⟩
def f102(Φ:ai)(a0 a1 c:I)(H:Z)(Q:ad):Prop:=
Φ 107 [(J 2)] H λd H2=>
 ar (some (aL H2 true [D,D,D,D,D,D,bY 0,D,D,D,D,D,D])) λa e=>
 Do (Y e 13 a d) λf=>
 Do (W 1 a) λg=>
 Do (Y f 1 g a1) λh=>
 Do (W 3 a) λi=>
 Do (Y h 1 i c) λb=>
 Do (O b 13 true a) λj=>
Φ 109 [a0,j] b λl k=>
 Q (.aq []) k
noncomputable def FZ:aY:=R C ⟨102,[6],[],none,[],[]⟩
def f103(Φ:ai)(a0 a1:I)(H:Z)(Q:ad):Prop:=
 ar (aO H false 1 a1) λb H2=>
 Do (aZ a0) λc=>
 Do (W 7 c) λd=>
 Do (O H2 1 false d) λe=>
Φ 150 [e,(.fn 151 [b])] H2 λf a=>
 Do (aZ a0) λg=>
 Do (W 7 g) λh=>
 Do (O a 1 false h) λi=>
 Do (aP none 2 i f) λj=>
 Do (W 1 j) λk=>
 Do (O a 1 false k) λl=>
 Q l a
noncomputable def F0:aY:=R C ⟨103,[],[],none,[],[]⟩
def vg(Φ:ai)(a0 c d e:I)(Q:ad):a:=λf b=>
 Do (O b 8 true c) λg=>
Φ 157 [a0,g,d,(G f 0),e] b λi h=>
 Q (.aq []) h
def f104(Φ:ai)(a0 a1 t:I)(H:Z)(Q:ad):Prop:=
 ar (aO H false 2 a1) λi H2=>
 ar (aO H2 false 8 t) λu j=>
 Do (O j 2 true i) λv=>
Φ 152 [a0,v] j λw x=>
 ar (some (aL x true [D,D,D,P,D,D,D,D])) λa y=>
 Do (Y y 8 a w) λk=>
 Do (O k 8 true u) λz=>
Φ 100 [a0,z] k λl m=>
 Do (O m 8 true a) λA=>
Φ 153 [a0,A] m λc n=>
 Do (O n 2 true i) λB=>
Φ 108 [a0,(J 3),D,B] n λd b=>
 Do (W 0 a) λC=>
 Do (W 3 C) λE=>
 Do (O b 1 false E) λF=>
 Gd F true (
 Do (O b 8 true a) λG=>
Φ 154 [a0,G,c,d] b λK e=>
 Do (W 0 a) λL=>
 Do (W 5 L) λR=>
 Do (O e 1 false R) λS=>
 Do (W 0 a) λT=>
 Do (W 4 T) λo=>
 Do (O e 1 false o) λp=>
Φ 156 [S] e λU q=>
(O q 1 false o=some p) ∧
(Do (M .shl U p) λV=>
 Do (cY .xor V) λX=>
Φ 155 [a0,(J 4),K,X] q λaa f=>
 Do (W 0 a) λab=>
 Do (W 5 ab) λac=>
 Do (O f 1 false ac) λae=>
 Do (W 0 a) λaf=>
 Do (W 4 af) λg=>
 Do (O f 1 false g) λh=>
 Do (e7 .u64 h) λag=>
Φ 156 [ae] f λah r=>
(O r 1 false g=some h) ∧
(Φ 155 [a0,(J 4),l,ah] r λaj s=>
(O s 1 false g=some h) ∧
(Φ 155 [a0,(J 7),aj,ag] s λak al=>
Φ 147 [a0,(J 5),aa,ak] al λam an=>
 N (vg Φ a0 a c d Q) [am] an)))) (
 N (vg Φ a0 a c d Q) [l] b)
noncomputable def F1:aY:=R C ⟨104,[6],[],none,[],[]⟩
def vi(Φ:ai)(a0 d h c:I)(Q:ad):a:=λG i=>
 Do (O i 8 true h) λn=>
Φ 153 [a0,n] i λo p=>
 Do (W 3 c) λq=>
 Do (Y p 1 q o) λb=>
 Do (W 0 h) λr=>
 Do (W 0 r) λs=>
 Do (W 1 s) λj=>
 Do (O b 1 false j) λk=>
 Do (W 4 d) λe=>
 Do (O b 1 false e) λf=>
 Do (W 0 d) λt=>
 Do (O b 1 false t) λu=>
 Do (W 4 d) λv=>
 Do (O b 1 false v) λw=>
 Do (W 5 d) λx=>
 Do (O b 2 true x) λy=>
 Do (W 8 c) λz=>
Φ 108 [a0,u,w,y] b λA g=>
(O g 1 false j=some k) ∧
(O g 1 false e=some f) ∧
(Do (Y g 1 z k) λl=>
(O l 1 false e=some f) ∧
(Do (W 9 c) λB=>
 Do (Y l 1 B f) λC=>
 Do (W 11 c) λD=>
 Do (Y C 1 D A) λm=>
 Do (O m 13 true c) λE=>
Φ 109 [a0,E] m λH F=>
 Q (.aq []) F))
def f105(Φ:ai)(a0 a1:I)(H:Z)(Q:ad):Prop:=
 ar (aO H false 10 a1) λa H2=>
 Do (W 5 a) λg=>
 Do (O H2 2 true g) λh=>
Φ 152 [a0,h] H2 λi j=>
 ar (some (aL j true [D,D,D,P,D,D,D,D])) λc k=>
 Do (Y k 8 c i) λl=>
Φ 107 [(J 7)] l λm n=>
 ar (some (aL n true [D,D,D,D,D,D,bY 0,D,D,D,D,D,D])) λb o=>
 Do (Y o 13 b m) λd=>
 Do (W 7 a) λp=>
 Do (O d 1 false p) λq=>
 Do (aP none 8 q D) λr=>
 Do (O d 8 true r) λs=>
Φ 100 [a0,s] d λt u=>
 Do (W 4 b) λv=>
 Do (Y u 1 v t) λe=>
 Do (W 0 a) λw=>
 Do (O e 1 false w) λx=>
 Do (M .eql x (J 6)) λy=>
 Gd y true (
 Do (W 0 b) λz=>
 Do (Y e 1 z (J 12)) λf=>
 Do (W 7 a) λA=>
 Do (O f 1 false A) λB=>
 Do (aP none 8 B (J 1)) λC=>
 Do (O f 8 true C) λE=>
Φ 100 [a0,E] f λF G=>
 Do (W 5 b) λK=>
 Do (Y G 1 K F) λL=>
 N (vi Φ a0 a c b Q) [] L) (
 N (vi Φ a0 a c b Q) [] e)
noncomputable def F2:aY:=R C ⟨105,[4,5],[],none,[],[]⟩
def f106(Φ:ai)(a0 a1:I)(H:Z)(Q:ad):Prop:=
 ar (aO H false 10 a1) λb H2=>
 Do (W 5 b) λF=>
 Do (O H2 2 true F) λG=>
Φ 152 [a0,G] H2 λK L=>
 ar (some (aL L true [D,D,D,P,D,D,D,D])) λj M=>
 Do (Y M 8 j K) λN=>
Φ 107 [(J 11)] N λR S=>
 ar (some (aL S true [D,D,D,D,D,D,bY 0,D,D,D,D,D,D])) λa T=>
 Do (Y T 13 a R) λv=>
 Do (O v 8 true j) λU=>
Φ 153 [a0,U] v λV X=>
 Do (W 3 a) λaa=>
 Do (Y X 1 aa V) λe=>
 Do (W 0 j) λab=>
 Do (W 0 ab) λac=>
 Do (W 1 ac) λf=>
 Do (O e 1 false f) λg=>
 Do (W 4 b) λc=>
 Do (O e 1 false c) λd=>
 Do (W 0 b) λk=>
 Do (O e 1 false k) λl=>
 Do (W 4 b) λm=>
 Do (O e 1 false m) λn=>
 Do (W 5 b) λo=>
 Do (O e 2 true o) λp=>
Φ 101 [a0] e λae h=>
(O h 1 false f=some g) ∧
(O h 1 false c=some d) ∧
(O h 1 false k=some l) ∧
(O h 1 false m=some n) ∧
(O h 2 true o=some p) ∧
(Do (W 1 a) λaf=>
Φ 101 [a0] h λag i=>
(O i 1 false f=some g) ∧
(O i 1 false c=some d) ∧
(O i 1 false k=some l) ∧
(O i 1 false m=some n) ∧
(O i 2 true o=some p) ∧
(Φ 108 [a0,l,n,p] i λah q=>
(O q 1 false f=some g) ∧
(O q 1 false c=some d) ∧
(Do (Y q 1 af ae) λr=>
(O r 1 false f=some g) ∧
(O r 1 false c=some d) ∧
(Do (W 2 a) λaj=>
 Do (Y r 1 aj ag) λs=>
(O s 1 false f=some g) ∧
(O s 1 false c=some d) ∧
(Do (W 8 a) λak=>
 Do (Y s 1 ak g) λw=>
(O w 1 false c=some d) ∧
(Do (W 9 a) λal=>
 Do (Y w 1 al d) λam=>
 Do (W 11 a) λan=>
 Do (Y am 1 an ah) λx=>
 Do (O x 13 true a) λao=>
Φ 109 [a0,ao] x λaA t=>
 Do (W 2 b) λap=>
 Do (O t 1 false ap) λau=>
 Do (W 1 a) λy=>
 Do (O t 1 false y) λz=>
Φ 103 [a0,au] t λav A=>
(O A 1 false y=some z) ∧
(Φ 102 [a0,av,z] A λaB u=>
 Do (W 3 b) λaw=>
 Do (O u 1 false aw) λax=>
 Do (W 2 a) λB=>
 Do (O u 1 false B) λC=>
Φ 103 [a0,ax] u λay E=>
(O E 1 false B=some C) ∧
(Φ 102 [a0,ay,C] E λaC az=>
 Q (.aq []) az))))))))
noncomputable def F3:aY:=R C ⟨106,[4,5],[],none,[],[]⟩
def f107(Φ:ai)(a0:I)(H:Z)(Q:ad):Prop:=
 ar (some (aL H true [D,D,D,D,D,D,bY 0,D,D,D,D,D,D])) λa H2=>
 Do (bo [D,D,D,D,D,D,bY 0,D,D,D,D,D,D] [(0,1,a0),(1,1,(J (-1))),(2,1,(J (-1))),(3,1,(J (-1))),(4,1,(J (-1))),(5,1,(J (-1)))]) λc=>
 Do (Y H2 13 a c) λb=>
 Do (O b 13 true a) λd=>
 Q d b
noncomputable def F4:aY:=R C ⟨107,[2],[],none,[],[]⟩
def f108(Φ:ai)(a0 a1 b c:I)(H:Z)(Q:ad):Prop:=
 ar (aO H false 2 c) λd H2=>
 Do (aZ a0) λe=>
 Do (W 5 e) λf=>
 Do (O H2 1 false f) λg=>
 Do (aZ a0) λh=>
 Do (W 6 h) λi=>
 Do (O H2 1 false i) λj=>
 Do (O H2 2 true d) λk=>
 Do (bo [D,D,D,.str [],aS] [(0,1,a1),(1,1,b),(2,1,j),(3,2,k)]) λl=>
 ar (dk H2 false 5 1 [D,D,D,.str [],aS] [(0,5,l)]) λm n=>
 ar (cr n false 5 64 g m) λo p=>
 Do (aZ a0) λq=>
 Do (W 5 q) λr=>
 Do (Y p 1 r o) λa=>
 Do (aZ a0) λs=>
 Do (W 5 s) λt=>
 Do (O a 1 false t) λu=>
 Do (bp false u) λv=>
 Q v a
noncomputable def F5:aY:=R C ⟨108,[],[],none,[],[]⟩
def f109(Φ:ai)(a0 a1:I)(H:Z)(Q:ad):Prop:=
 ar (aO H true 13 a1) λb H2=>
 Do (aZ a0) λc=>
 Do (W 6 c) λd=>
 Do (O H2 1 false d) λe=>
 Do (W 12 b) λf=>
 Do (Y H2 1 f e) λa=>
 Do (aZ a0) λg=>
 Do (W 2 g) λh=>
 Do (O a 1 false h) λi=>
 Do (O a 13 true b) λj=>
 ar (dk a false 13 1 [D,D,D,D,D,D,bY 0,D,D,D,D,D,D] [(0,13,j)]) λk l=>
 ar (cr l false 13 104 i k) λm n=>
 Do (aZ a0) λo=>
 Do (W 2 o) λp=>
 Do (Y n 1 p m) λq=>
 Q (.aq []) q
noncomputable def F6:aY:=R C ⟨109,[3],[],none,[],[]⟩
def f110(Φ:ai)(a0 a1:I)(H:Z)(Q:ad):Prop:=
 ar (aO H false 10 a1) λa H2=>
Φ 158 [a0] H2 λc i=>
Φ 158 [a0] i λd b=>
 Do (W 7 a) λj=>
 Do (O b 1 false j) λk=>
 Do (aP none 8 k D) λl=>
 Do (O b 8 true l) λm=>
Φ 100 [a0,m] b λn o=>
Φ 159 [a0,c,n] o λG e=>
 Do (W 8 a) λp=>
 Do (O e 1 false p) λq=>
Φ 37 [a0,q] e λK f=>
 Do (W 1 a) λr=>
 Do (O f 1 false r) λs=>
 Do (aZ a0) λt=>
 Do (W 6 t) λu=>
 Do (Y f 1 u s) λv=>
Φ 159 [a0,d,(J (-1))] v λL w=>
Φ 160 [a0,c] w λM g=>
 Do (W 9 a) λx=>
 Do (O g 1 false x) λy=>
Φ 37 [a0,y] g λN h=>
 Do (W 1 a) λz=>
 Do (O h 1 false z) λA=>
 Do (aZ a0) λB=>
 Do (W 6 B) λC=>
 Do (Y h 1 C A) λE=>
Φ 160 [a0,d] E λP F=>
 Q (.aq []) F
noncomputable def F7:aY:=R C ⟨110,[],[],none,[],[]⟩
def f111(Φ:ai)(a0 a1:I)(H:Z)(Q:ad):Prop:=
 ar (aO H false 10 a1) λa H2=>
Φ 158 [a0] H2 λc g=>
Φ 158 [a0] g λd h=>
Φ 160 [a0,c] h λx b=>
 Do (W 7 a) λi=>
 Do (O b 1 false i) λj=>
 Do (aP none 8 j D) λk=>
 Do (O b 8 true k) λl=>
Φ 100 [a0,l] b λm n=>
Φ 159 [a0,d,m] n λy e=>
 Do (W 8 a) λo=>
 Do (O e 1 false o) λp=>
Φ 37 [a0,p] e λz f=>
 Do (W 1 a) λq=>
 Do (O f 1 false q) λr=>
 Do (aZ a0) λs=>
 Do (W 6 s) λt=>
 Do (Y f 1 t r) λu=>
Φ 159 [a0,c,(J (-1))] u λA v=>
Φ 160 [a0,d] v λB w=>
 Q (.aq []) w
noncomputable def F8:aY:=R C ⟨111,[],[],none,[],[]⟩
def f112(Φ:ai)(a0:I)(H:Z)(Q:ad):Prop:=
 ar (aO H false 6 a0) λa H2=>
 Do (O H2 6 true a) λb=>
Φ 161 [b,(J 65)] H2 λc d=>
 Q c d
noncomputable def F9:aY:=R C ⟨112,[],[],none,[],[]⟩
def F_(Φ:ai)(c:I)(Q:ad):a:=λj b=>
 Do (W 5 c) λd=>
 Do (O b 1 false d) λe=>
 Do (aP none 6 e D) λf=>
 Do (O b 6 true f) λg=>
Φ 113 [g] b λh i=>
 Q h i
def vj(Φ:ai)(c:I)(Q:ad):a:=λd b=>
 Gd (G d 0) true (
 Q (J 9) b) (
 N (F_ Φ c Q) [] b)
def f113(Φ:ai)(a0:I)(H:Z)(Q:ad):Prop:=
 ar (aO H false 6 a0) λb H2=>
 Do (O H2 6 true b) λf=>
Φ 162 [f] H2 λg a=>
 Do (cY .not g) λh=>
 Gd h true (
 Q (J 8) a) (
 Do (W 0 b) λi=>
 Do (O a 1 false i) λc=>
 Do (M .eql c (J 1)) λj=>
 Gd j true (
 Do (W 1 b) λk=>
 Do (O a 1 false k) λl=>
Φ 163 [l,(J 8)] a λm d=>
 Do (cY .not m) λn=>
 Gd n true (
 Q (J 9) d) (
 Q D d)) (
 Do (M .eql c (J 2)) λo=>
 Gd o true (
 Do (W 1 b) λp=>
 Do (O a 1 false p) λq=>
Φ 163 [q,(J 16)] a λr e=>
 Do (cY .not r) λs=>
 Gd s true (
 Q (J 9) e) (
 Q D e)) (
 Do (M .eql c (J 5)) λt=>
 Gd t true (
 Do (W 4 b) λu=>
 Do (O a 1 false u) λv=>
 Do (M .lss v (J 1)) λw=>
 aQ w false (
 Do (W 4 b) λx=>
 Do (O a 1 false x) λy=>
 Do (M .gtr y (J 65536)) λz=>
 N (vj Φ b Q) [z] a) (
 N (vj Φ b Q) [br] a) (
 False)) (
 Do (O a 6 true b) λA=>
Φ 164 [A] a λB C=>
 Q B C))))
noncomputable def Ga:aY:=R C ⟨113,[],[],none,[],[]⟩
def f114(Φ:ai)(a0 a1:I)(H:Z)(Q:ad):Prop:=
 ar (aO H false 9 a0) λa H2=>
 Do (W 0 a) λb=>
 Do (O H2 1 false b) λc=>
 Do (W 0 a1) λd=>
 Do (O H2 1 false d) λe=>
 Do (M .eql c e) λf=>
 Q f H2
noncomputable def Gb:aY:=R C ⟨114,[],[],none,[],[]⟩
def Gc(Φ:ai)(b:ST)(c:LT)(Q:ad):a:=λf d=>
 Do (M .add (G b.1 0) (J 1)) λe=>
 c ([e],d)
def vk(Φ:ai)(b:I)(g:ST)(h:LT)(Q:ad):a:=λr c=>
 Do (W 0 b) λi=>
 Do (W 0 i) λd=>
 Do (O c 1 false d) λe=>
 Do (W 3 b) λj=>
 Do (O c 1 false j) λk=>
Φ 167 [k,(J 8)] c λl f=>
(O f 1 false d=some e) ∧
(Do (M .quo l (J 8)) λm=>
 Do (fy true [e,m]) λn=>
 Do (W 0 b) λo=>
 Do (W 0 o) λp=>
 Do (Y f 1 p n) λq=>
 N (Gc Φ g h Q) [] q)
def vm(Φ:ai)(b e f k:I)(g:ST)(h:LT)(Q:ad):a:=λX c=>
 Do (W 7 e) λl=>
 Do (O c 1 false l) λm=>
 Gd m true (
 Do (O c 9 true e) λn=>
Φ 166 [b,n] c λZ o=>
 N (vk Φ b g h Q) [] o) (
 Do (W 3 b) λp=>
 Do (O c 1 false p) λq=>
Φ 167 [q,(J 8)] c λr s=>
 Do (M .quo r (J 8)) λt=>
Φ 167 [t,k] s λi d=>
 Do (W 2 b) λu=>
 Do (O d 1 false u) λv=>
 Do (W 0 f) λw=>
 Do (O d 1 false w) λx=>
 Do (bo [D,D] [(0,1,i),(1,1,x)]) λy=>
 Do (W 1 e) λz=>
 Do (W 0 z) λA=>
 Do (O d 1 false A) λB=>
 Do (bo [D,D,D,P,D,D] [(0,2,y),(2,1,B)]) λC=>
 ar (dk d false 6 1 [D,D,D,P,D,D] [(0,6,C)]) λE F=>
 ar (cr F false 6 48 v E) λG H=>
 Do (W 2 b) λK=>
 Do (Y H 1 K G) λj=>
 Do (W 0 f) λL=>
 Do (O j 1 false L) λR=>
 Do (M .add i R) λS=>
 Do (M .mul (J 8) S) λT=>
 Do (W 3 b) λU=>
 Do (Y j 1 U T) λV=>
 N (vk Φ b g h Q) [] V)
def Ge(Φ:ai)(f b:I)(Q:ad):a:=λw c=>
 Do (W 0 b) λi=>
 Do (W 0 i) λj=>
 Do (O c 1 false j) λk=>
 Do (W 0 b) λl=>
 Do (W 1 l) λm=>
 Do (O c 1 false m) λn=>
Φ 167 [k,n] c λo p=>
 Do (W 0 b) λq=>
 Do (W 0 q) λr=>
 Do (Y p 1 r o) λd=>
 Do (O d 4 true b) λs=>
 Do (W 0 b) λt=>
 Do (W 0 t) λg=>
 Do (O d 1 false g) λh=>
 Do (M .leq h (J 65536)) λu=>
 Do (Y d 4 f s) λe=>
(O e 1 false g=some h) ∧
(Do (O e 4 true f) λv=>
 Q (.aq [v,u]) e)
def nM(Φ:ai)(i f b o p:I)(Q:ad):BT:=λa j=>
 Do (M .lss (G a.1 0) p) λq=>
 Gd q true (
 Do (aP none 9 o (G a.1 0)) λr=>
 Do (O a.2 9 true r) λs=>
 ar (some (aL a.2 true [.str [],D,D,P,aS,D,aS,P,D])) λc t=>
 Do (Y t 9 c s) λk=>
 Do (W 1 c) λu=>
 Do (O k 6 true u) λv=>
Φ 86 [v] k λl w=>
 Do (bj 0 l) λx=>
 Do (bj 1 l) λy=>
 ar (some (aL w true [D,D])) λe z=>
 Do (Y z 2 e x) λd=>
 Do (cY .not y) λA=>
 Gd A true (
 Do (bo [D,D,aS,D] []) λB=>
 Do (Y d 4 f B) λm=>
 Do (O m 4 true f) λC=>
 Q (.aq [C,P]) m) (
 Do (O d 6 true i) λE=>
 Do (O d 9 true c) λF=>
 Do (W 1 e) λH=>
 Do (O d 1 false H) λK=>
Φ 165 [E,F,K] d λg n=>
 Do (W 0 b) λL=>
 Do (W 1 L) λR=>
 Do (O n 1 false R) λS=>
 Do (fy true [S,g]) λT=>
 Do (W 0 b) λU=>
 Do (W 1 U) λV=>
 Do (Y n 1 V T) λh=>
 Do (W 0 i) λX=>
 Do (O h 1 false X) λZ=>
 Do (M .eql Z (J 4)) λaa=>
 Gd aa true (
 Do (W 3 b) λab=>
 Do (Y h 1 ab D) λac=>
 N (vm Φ b c e g a j Q) [] ac) (
 N (vm Φ b c e g a j Q) [] h))) (
 N (Ge Φ f b Q) [] a.2)
def f115(Φ:ai)(a0:I)(H:Z)(Q:ad):Prop:=
 ar (aO H false 6 a0) λa H2=>
 ar (some (aL H2 true [D,D,aS,D])) λe f=>
 Do (bo [D,D] [(0,1,D),(1,1,(J 1))]) λg=>
 Do (bo [D,D,aS,D] [(0,2,g)]) λh=>
 ar (some (aL f true [D,D,aS,D])) λb i=>
 Do (Y i 4 b h) λc=>
 Do (W 3 a) λj=>
 Do (O c 1 false j) λd=>
 Do (bp false d) λk=>
 aC (nM Φ a e b d k Q) ([D],c)
noncomputable def Gf:aY:=R C ⟨115,[2,4,6,7],[[16]],none,[],[]⟩
def vn(Φ:ai)(c:I)(Q:ad):a:=λd b=>
 aQ (G d 0) false (
 Do (W 3 c) λe=>
 Do (O b 1 false e) λf=>
Φ 131 [f,(.fn 176 [])] b λg h=>
 Q g h) (
 Q br b) (
 False)
def vo(Φ:ai)(b:I)(Q:ad):a:=λd c=>
 aQ (G d 0) false (
 Do (W 5 b) λe=>
 Do (O c 1 false e) λf=>
Φ 130 [f,(.fn 129 [])] c λg h=>
 N (vn Φ b Q) [g] h) (
 N (vn Φ b Q) [br] c) (
 False)
def f129(Φ:ai)(a0:I)(H:Z)(Q:ad):Prop:=
 ar (aO H false 6 a0) λa H2=>
 Do (W 0 a) λb=>
 Do (O H2 1 false b) λc=>
 Do (M .eql c (J 2)) λd=>
 aQ d true (
 Do (W 1 a) λe=>
 Do (O H2 1 false e) λf=>
 Do (M .gtr f (J 1)) λg=>
 N (vo Φ a Q) [g] H2) (
 N (vo Φ a Q) [P] H2) (
 False)
noncomputable def Gg:aY:=R C ⟨129,[],[],none,[],[]⟩
def f130(Φ:ai)(a0 a1:I)(H:Z)(Q:ad):Prop:=
Φ 177 [a0,a1] H λa H2=>
 Do (M .geq a D) λb=>
 Q b H2
noncomputable def Gh:aY:=R C ⟨130,[],[],none,[],[]⟩
def f131(Φ:ai)(a0 a1:I)(H:Z)(Q:ad):Prop:=
Φ 70 [a0,a1] H λa H2=>
 Do (M .geq a D) λb=>
 Q b H2
noncomputable def Gi:aY:=R C ⟨131,[],[],none,[],[]⟩
def f132(Φ:ai)(a0:I)(H:Z)(Q:ad):Prop:=
 ar (aO H false 9 a0) λa H2=>
 Do (W 1 a) λb=>
 Do (O H2 6 true b) λc=>
Φ 85 [c] H2 λd e=>
 Q d e
noncomputable def Gj:aY:=R C ⟨132,[],[],none,[],[]⟩
def vp(Φ:ai)(a0:I)(Q:ad):a:=λd H2=>
 Do (bo [D,D] []) λb=>
 Do (Y H2 2 a0 b) λc=>
 Q (.aq []) c
def f133(Φ:ai)(a0 a1:I)(H:Z)(Q:ad):Prop:=
 Do (W 1 a0) λa=>
 Do (O H 1 false a) λb=>
 Do (M .gtr b D) λc=>
 Gd c true (
 Do (O H 1 false a1) λd=>
 Do (O H 2 true a0) λe=>
Φ 87 [d,e] H λg f=>
 N (vp Φ a0 Q) [] f) (
 N (vp Φ a0 Q) [] H)
noncomputable def Gk:aY:=R C ⟨133,[],[],none,[],[]⟩
def f136(Φ:ai)(a0:I)(H:Z)(Q:ad):Prop:=
 Do (M .neq a0 a0) λa=>
 Q a H
noncomputable def Gl:aY:=R C ⟨136,[],[],none,[],[]⟩
def f137(Φ:ai)(a0:I)(H:Z)(Q:ad):Prop:=
 Do (M .geq a0 (.int .i32 97)) λa=>
 aQ a true (
 Do (M .leq a0 (.int .i32 122)) λb=>
 Q b H) (
 Q P H) (
 False)
noncomputable def Gm:aY:=R C ⟨137,[],[],none,[],[]⟩
def f138(Φ:ai)(a0 a1:I)(H:Z)(Q:ad):Prop:=
Φ 188 [a0,a1] H λa H2=>
 Do (M .geq a D) λb=>
 Q b H2
noncomputable def Gn:aY:=R C ⟨138,[],[],none,[],[]⟩
def vq(Φ:ai)(a0 b:I)(Q:ad):a:=λc H2=>
 Gd (G c 0) true (
 Do (aZ a0) λd=>
 Do (W 3 d) λe=>
 Do (O H2 1 false e) λf=>
 Do (bo [D,D] [(0,1,f),(1,1,b)]) λg=>
 Do (aZ a0) λh=>
 Do (W 4 h) λi=>
 Do (Y H2 2 i g) λj=>
 Q (.aq []) j) (
 Q (.aq []) H2)
def f140(Φ:ai)(a0 a1 a:I)(H:Z)(Q:ad):Prop:=
 Do (cY .not a1) λb=>
 aQ b true (
Φ 65 [a0] H λc d=>
 Do (cY .not c) λe=>
 N (vq Φ a0 a Q) [e] d) (
 N (vq Φ a0 a Q) [P] H) (
 False)
noncomputable def Gp:aY:=R C ⟨140,[],[],none,[],[]⟩
def pS(Φ:ai)(c d:I)(Q:ad):a:=λe b=>
 aQ (G e 0) true (
 Do (W 5 d) λf=>
 Do (O b 1 false f) λg=>
 aQ g false (
 Do (W 9 c) λh=>
 Do (O b 1 false h) λi=>
 Do (bp false i) λj=>
 Do (M .eql j D) λk=>
 Q k b) (
 Q br b) (
 False)) (
 Q P b) (
 False)
def rI(Φ:ai)(c d:I)(Q:ad):a:=λe b=>
 aQ (G e 0) true (
 Do (W 4 d) λf=>
 Do (O b 1 false f) λg=>
 aQ g false (
 Do (W 8 c) λh=>
 Do (O b 1 false h) λi=>
 Do (bp false i) λj=>
 Do (M .eql j D) λk=>
 N (pS Φ c d Q) [k] b) (
 N (pS Φ c d Q) [br] b) (
 False)) (
 N (pS Φ c d Q) [P] b) (
 False)
def pT(Φ:ai)(c d:I)(Q:ad):a:=λe b=>
 aQ (G e 0) true (
 Do (W 7 c) λf=>
 Do (O b 1 false f) λg=>
 Do (bp false g) λh=>
 Do (W 3 d) λi=>
 Do (O b 1 false i) λj=>
 Do (M .eql h j) λk=>
 N (rI Φ c d Q) [k] b) (
 N (rI Φ c d Q) [P] b) (
 False)
def pU(Φ:ai)(c d:I)(Q:ad):a:=λe b=>
 aQ (G e 0) true (
 Do (W 2 d) λf=>
 Do (O b 1 false f) λg=>
 aQ g false (
 Do (W 5 c) λh=>
 Do (O b 2 true h) λi=>
Φ 192 [i] b λj k=>
 N (pT Φ c d Q) [j] k) (
 N (pT Φ c d Q) [br] b) (
 False)) (
 N (pT Φ c d Q) [P] b) (
 False)
def pV(Φ:ai)(c d:I)(Q:ad):a:=λe b=>
 aQ (G e 0) true (
 Do (W 1 d) λf=>
 Do (O b 1 false f) λg=>
 aQ g false (
 Do (W 3 c) λh=>
 Do (O b 1 false h) λi=>
 Do (M .eql i (.str [])) λj=>
 N (pU Φ c d Q) [j] b) (
 N (pU Φ c d Q) [br] b) (
 False)) (
 N (pU Φ c d Q) [P] b) (
 False)
def f141(Φ:ai)(a0:I)(H:Z)(Q:ad):Prop:=
 ar (aO H false 10 a0) λa H2=>
 Do (W 0 a) λe=>
 Do (O H2 1 false e) λf=>
Φ 191 [f] H2 λd g=>
 Do (bj 0 d) λh=>
 Do (bj 1 d) λi=>
 ar (some (aL g true [P,P,P,D,P,P])) λb j=>
 Do (Y j 6 b h) λc=>
 aQ i true (
 Do (W 0 b) λk=>
 Do (O c 1 false k) λl=>
 aQ l false (
 Do (W 2 a) λm=>
 Do (O c 1 false m) λn=>
 Do (M .eql n (.str [])) λo=>
 N (pV Φ a b Q) [o] c) (
 N (pV Φ a b Q) [br] c) (
 False)) (
 N (pV Φ a b Q) [P] c) (
 False)
noncomputable def Gq:aY:=R C ⟨141,[3],[],none,[],[]⟩
def zP(Φ:ai)(a1:I)(Q:ad):a:=λc b=>
 aQ (G c 0) false (
 Do (M .eql a1 (J 4)) λd=>
 Q d b) (
 Q br b) (
 False)
def zQ(Φ:ai)(a1:I)(Q:ad):a:=λgK b=>
 aQ (G gK 0) false (
 Do (M .eql a1 (J 4)) λc=>
 Q c b) (
 Q br b) (
 False)
def Gr(Φ:ai)(a1:I)(Q:ad):a:=λc H2=>
 Do (M .eql a1 D) λb=>
 Q b H2
def vr(Φ:ai)(a0 a1:I)(Q:ad):a:=λc b=>
 Gd (G c 0) true (
 Do (M .geq a1 (J 1)) λd=>
 aQ d true (
 Do (M .leq a1 (J 4)) λe=>
 Q e b) (
 Q P b) (
 False)) (
 Do (M .eql a0 (J 7)) λf=>
 Gd f true (
 Do (M .geq a1 (J 2)) λg=>
 aQ g true (
 Do (M .leq a1 (J 4)) λh=>
 Q h b) (
 Q P b) (
 False)) (
 N (Gr Φ a1 Q) [] b))
def zR(Φ:ai)(a0 a1:I)(Q:ad):a:=λe b=>
 Gd (G e 0) true (
 Do (M .eql a1 (J 1)) λf=>
 aQ f false (
 Do (M .eql a1 (J 2)) λg=>
 N (zQ Φ a1 Q) [g] b) (
 N (zQ Φ a1 Q) [br] b) (
 False)) (
 Do (M .eql a0 (J 16)) λc=>
 Gd c true (
 N (vr Φ a0 a1 Q) [c] b) (
 Do (M .eql a0 (J 17)) λd=>
 Gd d true (
 N (vr Φ a0 a1 Q) [d] b) (
 Do (M .eql a0 (J 18)) λh=>
 N (vr Φ a0 a1 Q) [h] b)))
def zS(Φ:ai)(a0 a1:I)(Q:ad):a:=λd b=>
 Gd (G d 0) true (
 Do (M .eql a1 (J 1)) λe=>
 aQ e false (
 Do (M .eql a1 (J 3)) λf=>
 N (zP Φ a1 Q) [f] b) (
 N (zP Φ a1 Q) [br] b) (
 False)) (
 Do (M .eql a0 (J 5)) λc=>
 Gd c true (
 N (zR Φ a0 a1 Q) [c] b) (
 Do (M .eql a0 (J 15)) λg=>
 N (zR Φ a0 a1 Q) [g] b))
def f142(Φ:ai)(a0 a1:I)(H:Z)(Q:ad):Prop:=
 Do (M .eql a0 (J 4)) λa=>
 Gd a true (
 N (zS Φ a0 a1 Q) [a] H) (
 Do (M .eql a0 (J 6)) λb=>
 N (zS Φ a0 a1 Q) [b] H)
noncomputable def Gs:aY:=R C ⟨142,[],[],none,[],[]⟩
def f143(Φ:ai)(a0 a1:I)(H:Z)(Q:ad):Prop:=
 Do (aZ a0) λa=>
 Do (W 1 a) λb=>
 Do (O H 1 false b) λc=>
Φ 138 [c,a1] H λd e=>
 Q d e
noncomputable def Gt:aY:=R C ⟨143,[],[],none,[],[]⟩
end Rb.S

namespace Rb.S
open Go
open Go.Proofs.YteakojhgmhmdkaaGreatDoor.rb (C)
def Gu(Φ:ai)(b:ST)(c:LT)(Q:ad):a:=λf d=>
 Do (M .add (G b.1 0) (J 1)) λe=>
 c ([e],d)
def vt(Φ:ai)(a0 a3 d e:I)(f:ST)(g:LT)(Q:ad):BT:=λa h=>
 Do (M .lss (G a.1 0) e) λi=>
 Gd i true (
 Do (aP none 8 d (G a.1 0)) λj=>
 Do (O a.2 8 true j) λk=>
 ar (some (aL a.2 true [D,bY 0,.str [],D,D,.str [],aS,aS])) λb l=>
 Do (Y l 8 b k) λc=>
 Do (O c 8 true b) λm=>
 Do (M .add a3 (J 1)) λn=>
Φ 194 [a0,m,n] c λq o=>
 Do (M .add (G a.1 0) (J 1)) λp=>
 h ([p],o)) (
 N (Gu Φ f g Q) [] a.2)
def rJ(Φ:ai)(a0 a3 e f:I)(Q:ad):BT:=λa g=>
 Do (M .lss (G a.1 0) f) λh=>
 Gd h true (
 Do (aP none 2 e (G a.1 0)) λi=>
 Do (O a.2 2 true i) λj=>
 ar (some (aL a.2 true [.str [],aS])) λb k=>
 Do (Y k 2 b j) λc=>
 Do (W 1 b) λl=>
 Do (O c 1 false l) λd=>
 Do (bp false d) λm=>
 aC (vt Φ a0 a3 d m a g Q) ([D],c)) (
 Q (.aq []) a.2)
def vu(Φ:ai)(a0 a3 d:I)(Q:ad):a:=λg b=>
 Do (W 1 d) λe=>
 Do (O b 1 false e) λc=>
 Do (bp false c) λf=>
 aC (rJ Φ a0 a3 c f Q) ([D],b)
def f144(Φ:ai)(a0 a1 a2 a3:I)(H:Z)(Q:ad):Prop:=
 ar (aO H false 2 a2) λa H2=>
Φ 65 [a0] H2 λk b=>
 Gd k true (
 Q (.aq []) b) (
 Do (aZ a0) λl=>
 Do (W 0 l) λe=>
 Do (O b 1 false e) λf=>
 Do (O b 2 true a) λg=>
Φ 39 [f,g] b λh m=>
 Do (bj 0 h) λn=>
 Do (bj 1 h) λi=>
 ar (some (aL m true [D,D,P,aS,D,aS])) λj c=>
(O c 1 false e=some f) ∧
(O c 2 true a=some g) ∧
(Do (Y c 6 j n) λo=>
 Do (M .eql i D) λp=>
Φ 140 [a0,p,i] o λx q=>
Φ 65 [a0] q λr d=>
 aQ r false (
 Do (O d 6 true j) λs=>
Φ 193 [a1,s] d λt u=>
Φ 140 [a0,t,(J 8)] u λy v=>
 N (vu Φ a0 a3 a Q) [] v) (
Φ 140 [a0,br,(J 8)] d λz w=>
 N (vu Φ a0 a3 a Q) [] w) (
 False)))
noncomputable def Gv:aY:=R C ⟨144,[8,11,13],[[42],[49]],none,[],[]⟩
def vv(Φ:ai)(b:ST)(c:LT)(Q:ad):a:=λf d=>
 Do (M .add (G b.1 0) (J 1)) λe=>
 c ([e],d)
def rK(Φ:ai)(a0 a1 a2 d:I)(Q:ad):BT:=λs2 b=>
 Do (M .lss (G s2.1 0) d) λe=>
 Gd e true (
 Do (aP none 8 a1 (G s2.1 0)) λf=>
 Do (O s2.2 8 true f) λg=>
 ar (some (aL s2.2 true [D,bY 0,.str [],D,D,.str [],aS,aS])) λc h=>
 Do (Y h 8 c g) λi=>
Φ 65 [a0] i λj a=>
 Do (cY .not j) λk=>
 Gd k true (
 Do (O a 8 true c) λl=>
 Do (M .add a2 (J 1)) λm=>
Φ 194 [a0,l,m] a λo n=>
 N (vv Φ s2 b Q) [] n) (
 N (vv Φ s2 b Q) [] a)) (
 Q (.aq []) s2.2)
def f145(Φ:ai)(a0 a1 a2:I)(H:Z)(Q:ad):Prop:=
 Do (bp false a1) λa=>
 aC (rK Φ a0 a1 a2 a Q) ([D],H)
noncomputable def Gw:aY:=R C ⟨145,[7],[[10]],none,[],[]⟩
def f146(Φ:ai)(a0 a1:I)(H:Z)(Q:ad):Prop:=
Φ 107 [(J 1)] H λd H2=>
 ar (some (aL H2 true [D,D,D,D,D,D,bY 0,D,D,D,D,D,D])) λa e=>
 Do (Y e 13 a d) λf=>
Φ 101 [a0] f λg h=>
 Do (W 1 a) λi=>
 Do (Y h 1 i g) λj=>
 Do (W 6 a) λk=>
 Do (Y j 1 k a1) λb=>
 Do (O b 13 true a) λl=>
Φ 109 [a0,l] b λo c=>
 Do (W 1 a) λm=>
 Do (O c 1 false m) λn=>
 Q n c
noncomputable def Gx:aY:=R C ⟨146,[5],[],none,[],[]⟩
def f147(Φ:ai)(a0 a1 a2 a3:I)(H:Z)(Q:ad):Prop:=
Φ 107 [(J 3)] H λd H2=>
 ar (some (aL H2 true [D,D,D,D,D,D,bY 0,D,D,D,D,D,D])) λa e=>
 Do (Y e 13 a d) λf=>
Φ 101 [a0] f λg h=>
 Do (W 1 a) λi=>
 Do (Y h 1 i g) λj=>
 Do (W 7 a) λk=>
 Do (Y j 1 k a1) λl=>
 Do (W 3 a) λm=>
 Do (Y l 1 m a2) λn=>
 Do (W 4 a) λo=>
 Do (Y n 1 o a3) λb=>
 Do (O b 13 true a) λp=>
Φ 109 [a0,p] b λs c=>
 Do (W 1 a) λq=>
 Do (O c 1 false q) λr=>
 Q r c
noncomputable def Gy:aY:=R C ⟨147,[9],[],none,[],[]⟩
def f148(Φ:ai)(a0 a1:I)(H:Z)(Q:ad):Prop:=
 ar (aO H false 2 a1) λd H2=>
 Do (O H2 2 true d) λl=>
Φ 152 [a0,l] H2 λm n=>
 ar (some (aL n true [D,D,D,P,D,D,D,D])) λa o=>
 Do (Y o 8 a m) λe=>
 Do (O e 8 true a) λp=>
Φ 153 [a0,p] e λq c=>
 Do (O c 8 true a) λf=>
 Do (O c 2 true d) λr=>
Φ 108 [a0,(J 14),D,r] c λs g=>
(O g 8 true a=some f) ∧
(Φ 154 [a0,f,q,s] g λh b=>
 Do (W 0 a) λt=>
 Do (W 3 t) λu=>
 Do (O b 1 false u) λv=>
 Gd v true (
 Do (W 0 a) λw=>
 Do (W 4 w) λx=>
 Do (O b 1 false x) λy=>
 Do (e7 .u64 y) λz=>
 Do (W 0 a) λA=>
 Do (W 5 A) λi=>
 Do (O b 1 false i) λj=>
Φ 155 [a0,(J 8),h,z] b λB k=>
(O k 1 false i=some j) ∧
(Φ 156 [j] k λC E=>
Φ 155 [a0,(J 4),B,C] E λF G=>
 Q F G)) (
 Q h b))
noncomputable def Gz:aY:=R C ⟨148,[5],[],none,[],[]⟩
def vw(Φ:ai)(a0 g l b:I)(Q:ad):a:=λS m=>
 Do (O m 8 true l) λw=>
Φ 153 [a0,w] m λx y=>
 Do (W 3 b) λz=>
 Do (Y y 1 z x) λc=>
 Do (W 0 l) λA=>
 Do (W 0 A) λB=>
 Do (W 1 B) λh=>
 Do (O c 1 false h) λi=>
 Do (W 4 g) λe=>
 Do (O c 1 false e) λf=>
 Do (W 0 g) λn=>
 Do (O c 1 false n) λo=>
 Do (M .add (J 10) o) λC=>
 Do (W 4 g) λp=>
 Do (O c 1 false p) λq=>
 Do (W 5 g) λr=>
 Do (O c 2 true r) λs=>
Φ 101 [a0] c λD d=>
(O d 1 false h=some i) ∧
(O d 1 false e=some f) ∧
(O d 1 false n=some o) ∧
(O d 1 false p=some q) ∧
(O d 2 true r=some s) ∧
(Do (W 1 b) λE=>
Φ 108 [a0,C,q,s] d λF j=>
(O j 1 false h=some i) ∧
(O j 1 false e=some f) ∧
(Do (Y j 1 E D) λk=>
(O k 1 false h=some i) ∧
(O k 1 false e=some f) ∧
(Do (W 8 b) λG=>
 Do (Y k 1 G i) λt=>
(O t 1 false e=some f) ∧
(Do (W 9 b) λH=>
 Do (Y t 1 H f) λK=>
 Do (W 11 b) λL=>
 Do (Y K 1 L F) λu=>
 Do (O u 13 true b) λN=>
Φ 109 [a0,N] u λT v=>
 Do (W 1 b) λP=>
 Do (O v 1 false P) λR=>
 Q R v))))
def vx(Φ:ai)(a0 c e d:I)(f:List I)(Q:ad):a:=λn b=>
 Do (W 0 c) λg=>
 Do (O b 1 false g) λh=>
 Do (M .eql h (J 8)) λi=>
 Gd i true (
 Do (aP none 1 (G f 0) (J 1)) λj=>
 Do (O b 1 false j) λk=>
 Do (W 5 d) λl=>
 Do (Y b 1 l k) λm=>
 N (vw Φ a0 c e d Q) [] m) (
 N (vw Φ a0 c e d Q) [] b)
def zT(Φ:ai)(a0 b f:I)(Q:ad):a:=λe g=>
 Do (W 0 b) λi=>
 Do (O g 1 false i) λj=>
 Do (M .sub j (J 5)) λk=>
 Do (M .add k (J 6)) λl=>
Φ 107 [l] g λm n=>
 ar (some (aL n true [D,D,D,D,D,D,bY 0,D,D,D,D,D,D])) λc o=>
 Do (Y o 13 c m) λd=>
 Do (W 0 b) λp=>
 Do (O d 1 false p) λq=>
 Do (M .neq q (J 5)) λr=>
 Gd r true (
 Do (W 0 b) λs=>
 Do (O d 1 false s) λt=>
 Do (M .sub t (J 6)) λu=>
 Do (M .add u (J 8)) λv=>
 Do (W 0 c) λw=>
 Do (Y d 1 w v) λh=>
 Do (aP none 1 (G e 0) D) λx=>
 Do (O h 1 false x) λy=>
 Do (W 4 c) λz=>
 Do (Y h 1 z y) λA=>
 N (vx Φ a0 b f c e Q) [] A) (
 N (vx Φ a0 b f c e Q) [] d)
def vy(Φ:ai)(a0 d e f g:I)(Q:ad):BT:=λa h=>
 Do (M .lss (G a.1 1) g) λi=>
 Gd i true (
 Do (aP none 8 f (G a.1 1)) λj=>
 Do (O a.2 8 true j) λk=>
 ar (some (aL a.2 true [D,bY 0,.str [],D,D,.str [],aS,aS])) λb l=>
 Do (Y l 8 b k) λc=>
 Do (O c 8 true b) λm=>
Φ 100 [a0,m] c λn o=>
 ar (dk o false 1 1 [D] [(0,1,n)]) λp q=>
 ar (cr q true 1 8 (G a.1 0) p) λr s=>
 Do (M .add (G a.1 1) (J 1)) λt=>
 h ([r,t],s)) (
 N (zT Φ a0 d e Q) [(G a.1 0)] a.2)
def f149(Φ:ai)(a0 a1:I)(H:Z)(Q:ad):Prop:=
 ar (aO H false 8 a1) λa H2=>
 Do (W 5 a) λe=>
 Do (O H2 2 true e) λf=>
Φ 152 [a0,f] H2 λg h=>
 ar (some (aL h true [D,D,D,P,D,D,D,D])) λb i=>
 Do (Y i 8 b g) λc=>
 Do (W 7 a) λj=>
 Do (O c 1 false j) λd=>
 Do (bp false d) λk=>
 aC (vy Φ a0 a b d k Q) ([aS,D],c)
noncomputable def GA:aY:=R C ⟨149,[5,8,9,26],[[6,17]],none,[],[]⟩
def zU(Φ:ai)(a0 a1 d:I)(Q:ad):BT:=λs2 e=>
 Do (M .lss (G s2.1 0) d) λf=>
 Gd f true (
 Do (aP none 2 a0 (G s2.1 0)) λg=>
 Do (O s2.2 2 true g) λh=>
∃a b,a1 = .fn a b∧Φ (iG a) (iH a [h] b) s2.2 λi c=>
 Gd i true (
 Q (G s2.1 0) c) (
 Do (M .add (G s2.1 0) (J 1)) λj=>
 e ([j],c))) (
 Q (J (-1)) s2.2)
def f150(Φ:ai)(a0 a1:I)(H:Z)(Q:ad):Prop:=
 Do (bp false a0) λa=>
 aC (zU Φ a0 a1 a Q) ([D],H)
noncomputable def GB:aY:=R C ⟨150,[],[[8]],none,[],[]⟩
def f151(Φ:ai)(a0 a1:I)(H:Z)(Q:ad):Prop:=
 ar (aO H false 2 a0) λa H2=>
 Do (W 0 a) λb=>
 Do (O H2 1 false b) λc=>
 Do (O H2 1 false a1) λd=>
 Do (M .eql c d) λe=>
 Q e H2
noncomputable def GC:aY:=R C ⟨151,[],[],none,[],[]⟩
def vz(Φ:ai)(b:ST)(c:LT)(Q:ad):a:=λf d=>
 Do (M .add (G b.1 0) (J 1)) λe=>
 c ([e],d)
def vA(Φ:ai)(b c:I)(h:ST)(i:LT)(Q:ad):a:=λr j=>
 Do (W 0 b) λk=>
 Do (W 0 k) λl=>
 Do (W 1 l) λm=>
 Do (Y j 1 m c) λd=>
 Do (W 7 b) λe=>
 Do (O d 1 false e) λf=>
Φ 197 [c,(J 16)] d λn g=>
(O g 1 false e=some f) ∧
(Do (fy false [f,n]) λo=>
 Do (W 7 b) λp=>
 Do (Y g 1 p o) λq=>
 N (vz Φ h i Q) [] q)
def GD(Φ:ai)(d b:I)(Q:ad):a:=λs c=>
 Do (W 7 b) λe=>
 Do (O c 1 false e) λf=>
 Do (W 0 b) λj=>
 Do (W 0 j) λk=>
 Do (W 0 k) λl=>
 Do (O c 1 false l) λm=>
Φ 197 [m,(J 16)] c λn g=>
(O g 1 false e=some f) ∧
(Do (fy false [f,n]) λo=>
 Do (W 7 b) λp=>
 Do (Y g 1 p o) λh=>
 Do (O h 8 true b) λq=>
 Do (Y h 8 d q) λi=>
 Do (O i 8 true d) λr=>
 Q r i)
def nN(Φ:ai)(a0 H b a K L:I)(Q:ad):BT:=λc j=>
 Do (M .lss (G c.1 0) L) λR=>
 Gd R true (
 Do (aP none 2 K (G c.1 0)) λS=>
 Do (O c.2 2 true S) λT=>
 ar (some (aL c.2 true [.str [],aS])) λe U=>
 Do (Y U 2 e T) λd=>
 Do (W 1 e) λV=>
 Do (O d 1 false V) λX=>
 Do (bp false X) λZ=>
 Do (M .eql Z D) λaa=>
 Gd aa true (
 Do (W 3 b) λab=>
 Do (O d 1 false ab) λac=>
Φ 70 [ac,(.fn 196 [e])] d λp q=>
 Do (O q 6 true b) λae=>
Φ 72 [ae] q λr s=>
 Do (bj 0 r) λaf=>
 Do (bj 1 r) λa9=>
 Do (aP none 6 af p) λag=>
 Do (O s 6 true ag) λah=>
 ar (some (aL s true [D,D,D,P,D,D])) λf aj=>
 Do (Y aj 6 f ah) λk=>
 Do (W 0 f) λak=>
 Do (W 0 ak) λal=>
 Do (O k 1 false al) λam=>
 Do (W 0 a) λan=>
 Do (W 0 an) λao=>
 Do (W 0 ao) λap=>
 Do (O k 1 false ap) λaq=>
 Do (M .add am aq) λau=>
 Do (W 0 f) λav=>
 Do (W 0 av) λaw=>
 Do (Y k 1 aw au) λg=>
 Do (O g 6 true f) λax=>
 Do (W 3 b) λt=>
 Do (O g 1 false t) λu=>
 Do (aP none 9 u p) λay=>
 Do (W 1 ay) λv=>
 Do (O g 6 true v) λw=>
 Do (W 0 a) λaz=>
 Do (Y g 6 az ax) λl=>
(O l 1 false t=some u) ∧
(O l 6 true v=some w) ∧
(Do (Y l 6 b w) λaA=>
 N (vz Φ c j Q) [] aA)) (
 Do (W 1 e) λaB=>
 Do (O d 1 false aB) λaC=>
 Do (aP none 8 aC D) λaD=>
 Do (O d 8 true aD) λaE=>
Φ 100 [a0,aE] d λx aF=>
Φ 107 [(J 17)] aF λaG aH=>
 ar (some (aL aH true [D,D,D,D,D,D,bY 0,D,D,D,D,D,D])) λh aI=>
 Do (Y aI 13 h aG) λy=>
 Do (W 4 b) λz=>
 Do (O y 1 false z) λA=>
 Do (e7 .u64 A) λaJ=>
 Do (W 3 h) λaK=>
 Do (Y y 1 aK x) λB=>
(O B 1 false z=some A) ∧
(Do (W 6 h) λaM=>
 Do (Y B 1 aM aJ) λC=>
 Do (O C 13 true h) λaN=>
Φ 109 [a0,aN] C λa_ m=>
 Do (W 5 b) λaO=>
 Do (O m 1 false aO) λaQ=>
 Do (aP none 6 aQ D) λaR=>
 Do (O m 6 true aR) λaT=>
 Do (Y m 6 b aT) λE=>
 Do (O E 6 true b) λaU=>
Φ 38 [aU] E λn aV=>
 Do (bj 0 n) λo=>
 Do (bj 1 n) λba=>
 Do (bj 2 n) λbb=>
 Do (e7 .u64 o) λaW=>
Φ 155 [a0,(J 3),x,aW] aV λF i=>
 Do (W 6 a) λaX=>
 Do (O i 1 false aX) λaY=>
 Do (M .eql aY (J (-1))) λaZ=>
 Gd aZ true (
 Do (W 6 a) λa1=>
 Do (Y i 1 a1 F) λa2=>
 N (vA Φ a o c j Q) [] a2) (
 Do (W 6 a) λa3=>
 Do (O i 1 false a3) λa4=>
Φ 147 [a0,(J 1),a4,F] i λa5 a6=>
 Do (W 6 a) λa7=>
 Do (Y a6 1 a7 a5) λa8=>
 N (vA Φ a o c j Q) [] a8)))) (
 N (GD Φ H a Q) [] c.2)
def f152(Φ:ai)(a0 a1:I)(H:Z)(Q:ad):Prop:=
 ar (aO H false 2 a1) λc H2=>
 ar (some (aL H2 true [D,D,D,P,D,D,D,D])) λj d=>
 Do (aZ a0) λk=>
 Do (W 0 k) λl=>
 Do (O d 1 false l) λm=>
Φ 43 [m,(.fn 195 [c])] d λe a=>
 Do (aZ a0) λn=>
 Do (W 0 n) λo=>
 Do (O a 1 false o) λp=>
 Do (aP none 7 p e) λq=>
 Do (W 1 q) λr=>
 Do (O a 6 true r) λs=>
 ar (some (aL a true [D,D,P,aS,D,aS])) λf t=>
 Do (Y t 6 f s) λb=>
 Do (aZ a0) λu=>
 Do (W 1 u) λv=>
 Do (O b 1 false v) λw=>
 Do (aP none 3 w e) λx=>
 Do (W 1 x) λy=>
 Do (O b 2 true y) λz=>
 Do (bo [D,D,D,P,D,D] [(0,2,z)]) λA=>
 Do (bo [D,D,D,P,D,D,D,D] [(0,6,A),(6,1,(J (-1))),(7,1,(J 16))]) λB=>
 ar (some (aL b true [D,D,D,P,D,D,D,D])) λg C=>
 Do (Y C 8 g B) λh=>
 Do (W 1 c) λE=>
 Do (O h 1 false E) λi=>
 Do (bp false i) λF=>
 aC (nN Φ a0 j f g i F Q) ([D],h)
noncomputable def GF:aY:=R C ⟨152,[4,6,7,9,13,15],[[46]],none,[],[]⟩
def f153(Φ:ai)(a0 a1:I)(H:Z)(Q:ad):Prop:=
 ar (aO H false 8 a1) λa H2=>
 Do (W 6 a) λb=>
 Do (O H2 1 false b) λc=>
 Do (M .eql c (J (-1))) λd=>
 Gd d true (
 Do (W 0 a) λe=>
 Do (W 0 e) λf=>
 Do (W 0 f) λg=>
 Do (O H2 1 false g) λh=>
 Do (e7 .u64 h) λi=>
Φ 146 [a0,i] H2 λj k=>
 Q j k) (
 Do (W 6 a) λl=>
 Do (O H2 1 false l) λm=>
 Do (W 0 a) λn=>
 Do (W 0 n) λo=>
 Do (W 0 o) λp=>
 Do (O H2 1 false p) λq=>
 Do (e7 .u64 q) λr=>
Φ 155 [a0,(J 1),m,r] H2 λs t=>
 Q s t)
noncomputable def GG:aY:=R C ⟨153,[],[],none,[],[]⟩
def vC(Φ:ai)(b:ST)(c:LT)(Q:ad):a:=λd e=>
 Do (M .add (G b.1 1) (J 1)) λf=>
 c ([(G d 0),f],e)
def vD(Φ:ai)(a0 a2 a3 r s:I)(Q:ad):BT:=λa m=>
 Do (M .lss (G a.1 1) s) λt=>
 Gd t true (
 Do (aP none 2 r (G a.1 1)) λu=>
 Do (O a.2 2 true u) λv=>
 ar (some (aL a.2 true [D,D])) λe w=>
 Do (Y w 2 e v) λx=>
Φ 107 [(J 4)] x λy z=>
 ar (some (aL z true [D,D,D,D,D,D,bY 0,D,D,D,D,D,D])) λb A=>
 Do (Y A 13 b y) λh=>
 Do (W 0 e) λf=>
 Do (O h 1 false f) λg=>
 Do (e7 .u64 g) λB=>
 Do (W 1 e) λc=>
 Do (O h 1 false c) λd=>
Φ 101 [a0] h λC i=>
(O i 1 false f=some g) ∧
(O i 1 false c=some d) ∧
(Do (W 1 b) λE=>
 Do (Y i 1 E C) λj=>
(O j 1 false f=some g) ∧
(O j 1 false c=some d) ∧
(Do (W 3 b) λF=>
 Do (Y j 1 F a2) λk=>
(O k 1 false f=some g) ∧
(O k 1 false c=some d) ∧
(Do (W 6 b) λH=>
 Do (Y k 1 H B) λn=>
(O n 1 false c=some d) ∧
(Do (W 8 b) λK=>
 Do (Y n 1 K d) λL=>
 Do (W 11 b) λP=>
 Do (Y L 1 P a3) λo=>
 Do (O o 13 true b) λR=>
Φ 109 [a0,R] o λae l=>
 Do (W 1 b) λS=>
 Do (O l 1 false S) λT=>
 Do (W 0 e) λU=>
 Do (O l 1 false U) λV=>
 Do (M .mul (J 8) V) λX=>
 Do (e7 .u64 X) λZ=>
Φ 155 [a0,(J 7),T,Z] l λp q=>
 Do (M .eql (G a.1 0) (J (-1))) λaa=>
 Gd aa true (
 N (vC Φ a m Q) [p] q) (
Φ 147 [a0,(J 5),(G a.1 0),p] q λab ac=>
 N (vC Φ a m Q) [ab] ac)))))) (
 Q (G a.1 0) a.2)
def f154(Φ:ai)(a0 a1 a2 a3:I)(H:Z)(Q:ad):Prop:=
 ar (aO H false 8 a1) λb H2=>
 Do (O H2 8 true b) λc=>
Φ 198 [c] H2 λa d=>
 Do (bp false a) λe=>
 aC (vD Φ a0 a2 a3 a e Q) ([(J (-1)),D],d)
noncomputable def GH:aY:=R C ⟨154,[11,12],[[9,17]],none,[],[]⟩
def zV(Φ:ai)(a0 a1 a2 a3:I)(Q:ad):a:=λf H2=>
Φ 146 [a0,a3] H2 λb c=>
Φ 147 [a0,a1,a2,b] c λd e=>
 Q d e
def nO(Φ:ai)(a0 a1 a2 a3:I)(Q:ad):a:=λc b=>
 Gd (G c 0) true (
 Q a2 b) (
 N (zV Φ a0 a1 a2 a3 Q) [] b)
def f155(Φ:ai)(a0 a1 a2 a3:I)(H:Z)(Q:ad):Prop:=
 Do (M .eql a3 (bY 0)) λa=>
 aQ a true (
 Do (M .eql a1 (J 1)) λb=>
 aQ b false (
 Do (M .eql a1 (J 7)) λc=>
 aQ c false (
 Do (M .eql a1 (J 8)) λd=>
 aQ d false (
 Do (M .eql a1 (J 5)) λe=>
 N (nO Φ a0 a1 a2 a3 Q) [e] H) (
 N (nO Φ a0 a1 a2 a3 Q) [br] H) (
 False)) (
 N (nO Φ a0 a1 a2 a3 Q) [br] H) (
 False)) (
 N (nO Φ a0 a1 a2 a3 Q) [br] H) (
 False)) (
 N (nO Φ a0 a1 a2 a3 Q) [P] H) (
 False)
noncomputable def GI:aY:=R C ⟨155,[],[],none,[],[]⟩
def f156(Φ:ai)(a0:I)(H:Z)(Q:ad):Prop:=
 Do (M .geq a0 (J 64)) λa=>
 Gd a true (
 Q (bY 18446744073709551615) H) (
 Do (M .shl (bY 1) a0) λb=>
 Do (M .sub b (bY 1)) λc=>
 Q c H)
noncomputable def GJ:aY:=R C ⟨156,[],[],none,[],[]⟩
def vF(Φ:ai)(a0 a2 a3 a4 m n:I)(Q:ad):BT:=λb o=>
 Do (M .lss (G b.1 0) n) λp=>
 Gd p true (
 Do (aP none 2 m (G b.1 0)) λq=>
 Do (O b.2 2 true q) λr=>
 ar (some (aL b.2 true [D,D])) λc s=>
 Do (Y s 2 c r) λt=>
Φ 107 [(J 5)] t λu v=>
 ar (some (aL v true [D,D,D,D,D,D,bY 0,D,D,D,D,D,D])) λa w=>
 Do (Y w 13 a u) λd=>
 Do (W 0 c) λh=>
 Do (O d 1 false h) λi=>
 Do (e7 .u64 i) λx=>
 Do (W 1 c) λe=>
 Do (O d 1 false e) λf=>
 Do (W 3 a) λy=>
 Do (Y d 1 y a2) λg=>
(O g 1 false h=some i) ∧
(O g 1 false e=some f) ∧
(Do (W 6 a) λz=>
 Do (Y g 1 z x) λj=>
(O j 1 false e=some f) ∧
(Do (W 8 a) λA=>
 Do (Y j 1 A f) λB=>
 Do (W 11 a) λC=>
 Do (Y B 1 C a4) λk=>
 Do (W 0 c) λE=>
 Do (O k 1 false E) λF=>
 Do (M .mul (J 8) F) λH=>
 Do (e7 .u64 H) λK=>
Φ 155 [a0,(J 8),a3,K] k λL N=>
 Do (W 4 a) λP=>
 Do (Y N 1 P L) λl=>
 Do (O l 13 true a) λR=>
Φ 109 [a0,R] l λU S=>
 Do (M .add (G b.1 0) (J 1)) λT=>
 o ([T],S)))) (
 Q (.aq []) b.2)
def f157(Φ:ai)(a0 a1 a2 a3 a4:I)(H:Z)(Q:ad):Prop:=
 ar (aO H false 8 a1) λb H2=>
 Do (O H2 8 true b) λc=>
Φ 198 [c] H2 λa d=>
 Do (bp false a) λe=>
 aC (vF Φ a0 a2 a3 a4 a e Q) ([D],d)
noncomputable def GK:aY:=R C ⟨157,[11,12],[[16]],none,[],[]⟩
def f158(Φ:ai)(a0:I)(H:Z)(Q:ad):Prop:=
 Do (aZ a0) λb=>
 Do (W 4 b) λc=>
 Do (O H 1 false c) λd=>
 Do (M .add d (J 1)) λe=>
 Do (aZ a0) λf=>
 Do (W 4 f) λg=>
 Do (Y H 1 g e) λa=>
 Do (aZ a0) λh=>
 Do (W 4 h) λi=>
 Do (O a 1 false i) λj=>
 Q j a
noncomputable def GL:aY:=R C ⟨158,[],[],none,[],[]⟩
def vG(Φ:ai)(a0 a1 b:I)(Q:ad):a:=λh d=>
 Do (W 10 b) λe=>
 Do (Y d 1 e a1) λc=>
 Do (O c 13 true b) λf=>
Φ 109 [a0,f] c λi g=>
 Q (.aq []) g
def f159(Φ:ai)(a0 a1 a2:I)(H:Z)(Q:ad):Prop:=
Φ 107 [(J 15)] H λc H2=>
 ar (some (aL H2 true [D,D,D,D,D,D,bY 0,D,D,D,D,D,D])) λa d=>
 Do (Y d 13 a c) λb=>
 Do (M .neq a2 (J (-1))) λe=>
 Gd e true (
 Do (W 0 a) λf=>
 Do (Y b 1 f (J 16)) λg=>
 Do (W 3 a) λh=>
 Do (Y g 1 h a2) λi=>
 N (vG Φ a0 a1 a Q) [] i) (
 N (vG Φ a0 a1 a Q) [] b)
noncomputable def GM:aY:=R C ⟨159,[6],[],none,[],[]⟩
def f160(Φ:ai)(a0 a1:I)(H:Z)(Q:ad):Prop:=
Φ 107 [(J 14)] H λc H2=>
 ar (some (aL H2 true [D,D,D,D,D,D,bY 0,D,D,D,D,D,D])) λa d=>
 Do (Y d 13 a c) λe=>
 Do (W 10 a) λf=>
 Do (Y e 1 f a1) λb=>
 Do (O b 13 true a) λg=>
Φ 109 [a0,g] b λi h=>
 Q (.aq []) h
noncomputable def GN:aY:=R C ⟨160,[4],[],none,[],[]⟩
def vH(Φ:ai)(Q:ad):a:=λb c=>
 Do (M .add (G b 0) (J 1)) λd=>
 Q d c
def vI(Φ:ai)(a1 d e:I)(Q:ad):BT:=λa f=>
 Do (M .lss (G a.1 1) e) λg=>
 Gd g true (
 Do (aP none 6 d (G a.1 1)) λh=>
 Do (O a.2 6 true h) λi=>
 ar (some (aL a.2 true [D,D,P,aS,D,aS])) λb j=>
 Do (Y j 6 b i) λc=>
 Do (O c 6 true b) λk=>
 Do (M .sub a1 (J 1)) λl=>
Φ 161 [k,l] c λm n=>
 Do (fy true [(G a.1 0),m]) λo=>
 Do (M .add (G a.1 1) (J 1)) λp=>
 f ([o,p],n)) (
 N (vH Φ Q) [(G a.1 0)] a.2)
def zW(Φ:ai)(a1 d:I)(Q:ad):a:=λe b=>
 Do (W 5 d) λf=>
 Do (O b 1 false f) λc=>
 Do (bp false c) λg=>
 aC (vI Φ a1 c g Q) ([(G e 0),D],b)
def vJ(Φ:ai)(a1 d e f:I)(Q:ad):BT:=λa g=>
 Do (M .lss (G a.1 1) f) λh=>
 Gd h true (
 Do (aP none 9 e (G a.1 1)) λi=>
 Do (O a.2 9 true i) λj=>
 ar (some (aL a.2 true [.str [],D,D,P,aS,D,aS,P,D])) λb k=>
 Do (Y k 9 b j) λc=>
 Do (W 1 b) λl=>
 Do (O c 6 true l) λm=>
 Do (M .sub a1 (J 1)) λn=>
Φ 161 [m,n] c λo p=>
 Do (fy true [(G a.1 0),o]) λq=>
 Do (M .add (G a.1 1) (J 1)) λr=>
 g ([q,r],p)) (
 N (zW Φ a1 d Q) [(G a.1 0)] a.2)
def f161(Φ:ai)(a0 a1:I)(H:Z)(Q:ad):Prop:=
 ar (aO H false 6 a0) λa H2=>
 Do (M .gtr a1 (J 1)) λc=>
 Gd c true (
 Do (W 3 a) λd=>
 Do (O H2 1 false d) λb=>
 Do (bp false b) λe=>
 aC (vJ Φ a1 a b e Q) ([D,D],H2)) (
 N (vH Φ Q) [D] H2)
noncomputable def GO:aY:=R C ⟨161,[7,9],[[5,15],[5,30]],none,[],[]⟩
def rL(Φ:ai)(c d:I)(Q:ad):a:=λe b=>
 aQ (G e 0) true (
 Do (cY .not d) λf=>
 aQ f false (
 Do (W 5 c) λg=>
 Do (O b 1 false g) λh=>
 Do (bp false h) λi=>
 Do (M .eql i (J 1)) λj=>
 Q j b) (
 Q br b) (
 False)) (
 Q P b) (
 False)
def rM(Φ:ai)(b d:I)(Q:ad):a:=λe c=>
 aQ (G e 0) true (
 aQ d false (
 Do (W 4 b) λf=>
 Do (O c 1 false f) λg=>
 Do (M .eql g D) λh=>
 aQ h true (
 Do (W 5 b) λi=>
 Do (O c 1 false i) λj=>
 Do (bp false j) λk=>
 Do (M .eql k D) λl=>
 N (rL Φ b d Q) [l] c) (
 N (rL Φ b d Q) [P] c) (
 False)) (
 N (rL Φ b d Q) [br] c) (
 False)) (
 N (rL Φ b d Q) [P] c) (
 False)
def vK(Φ:ai)(b d:I)(e:List I)(Q:ad):a:=λf c=>
 aQ (G f 0) true (
 aQ (G e 0) false (
 Do (W 2 b) λg=>
 Do (O c 1 false g) λh=>
 Do (cY .not h) λi=>
 aQ i true (
 Do (W 3 b) λj=>
 Do (O c 1 false j) λk=>
 Do (bp false k) λl=>
 Do (M .eql l D) λm=>
 N (rM Φ b d Q) [m] c) (
 N (rM Φ b d Q) [P] c) (
 False)) (
 N (rM Φ b d Q) [br] c) (
 False)) (
 N (rM Φ b d Q) [P] c) (
 False)
def zX(Φ:ai)(b d:I)(f:List I)(e:List I)(Q:ad):a:=λg c=>
 aQ (G g 0) true (
 aQ (G f 0) false (
 Do (W 1 b) λh=>
 Do (O c 1 false h) λi=>
 Do (M .eql i D) λj=>
 N (vK Φ b d e Q) [j] c) (
 N (vK Φ b d e Q) [br] c) (
 False)) (
 N (vK Φ b d e Q) [P] c) (
 False)
def zY(Φ:ai)(c b:I)(d:List I)(e:List I)(Q:ad):a:=λg f=>
 aQ (G g 0) false (
 N (zX Φ c b d e Q) [b] f) (
 N (zX Φ c b d e Q) [br] f) (
 False)
def zZ(Φ:ai)(b:I)(c:List I)(Q:ad):a:=λd e=>
 Do (W 0 b) λg=>
 Do (O e 1 false g) λh=>
 Do (M .eql h (J 5)) λf=>
 aQ (G c 0) false (
 N (zY Φ b f c d Q) [(G d 0)] e) (
 N (zY Φ b f c d Q) [br] e) (
 False)
def z1(Φ:ai)(b:I)(Q:ad):a:=λd c=>
 Do (W 0 b) λe=>
 Do (O c 1 false e) λf=>
 Do (M .eql f (J 3)) λg=>
 aQ g false (
 Do (W 0 b) λh=>
 Do (O c 1 false h) λi=>
 Do (M .eql i (J 4)) λj=>
 N (zZ Φ b d Q) [j] c) (
 N (zZ Φ b d Q) [br] c) (
 False)
def f162(Φ:ai)(a0:I)(H:Z)(Q:ad):Prop:=
 ar (aO H false 6 a0) λa H2=>
 Do (W 0 a) λb=>
 Do (O H2 1 false b) λc=>
 Do (M .eql c (J 1)) λd=>
 aQ d false (
 Do (W 0 a) λe=>
 Do (O H2 1 false e) λf=>
 Do (M .eql f (J 2)) λg=>
 N (z1 Φ a Q) [g] H2) (
 N (z1 Φ a Q) [br] H2) (
 False)
noncomputable def GP:aY:=R C ⟨162,[],[],none,[],[]⟩
def z6(Φ:ai)(a0:I)(Q:ad):a:=λb H2=>
 aQ (G b 0) true (
 Do (M .sub a0 (J 1)) λc=>
 Do (M .and a0 c) λd=>
 Do (M .eql d D) λe=>
 Q e H2) (
 Q P H2) (
 False)
def f163(Φ:ai)(a0 a1:I)(H:Z)(Q:ad):Prop:=
 Do (M .geq a0 (J 1)) λa=>
 aQ a true (
 Do (M .leq a0 a1) λb=>
 N (z6 Φ a0 Q) [b] H) (
 N (z6 Φ a0 Q) [P] H) (
 False)
noncomputable def GQ:aY:=R C ⟨163,[],[],none,[],[]⟩
def vL(Φ:ai)(d e:I)(Q:ad):BT:=λa f=>
 Do (M .lss (G a.1 0) e) λg=>
 Gd g true (
 Do (O a.2 6 true d) λh=>
Φ 199 [h,(G a.1 0)] a.2 λb c=>
 Do (M .neq b D) λi=>
 Gd i true (
 Q b c) (
 Do (M .add (G a.1 0) (J 1)) λj=>
 f ([j],c))) (
 Q D a.2)
def GU(Φ:ai)(b:I)(Q:ad):a:=λg c=>
 Do (W 3 b) λd=>
 Do (O c 1 false d) λe=>
 Do (bp false e) λf=>
 aC (vL Φ b f Q) ([D],c)
def vM(Φ:ai)(c:I)(Q:ad):a:=λd b=>
 Gd (G d 0) true (
 Q (J 12) b) (
 N (GU Φ c Q) [] b)
def f164(Φ:ai)(a0:I)(H:Z)(Q:ad):Prop:=
 ar (aO H false 6 a0) λa H2=>
 Do (W 3 a) λb=>
 Do (O H2 1 false b) λc=>
 Do (bp false c) λd=>
 Do (M .lss d (J 1)) λe=>
 aQ e false (
 Do (W 3 a) λf=>
 Do (O H2 1 false f) λg=>
 Do (bp false g) λh=>
 Do (M .gtr h (J 32)) λi=>
 N (vM Φ a Q) [i] H2) (
 N (vM Φ a Q) [br] H2) (
 False)
noncomputable def GV:aY:=R C ⟨164,[],[[18]],none,[],[]⟩
def vN(Φ:ai)(a2 c:I)(Q:ad):a:=λd b=>
 Gd (G d 0) true (
 Q (J 1) b) (
 Do (W 7 c) λe=>
 Do (O b 1 false e) λf=>
 Gd f true (
 Do (W 1 c) λg=>
 Do (W 1 g) λh=>
 Do (O b 1 false h) λi=>
 Q i b) (
 Q a2 b))
def f165(Φ:ai)(a0 a1 a2:I)(H:Z)(Q:ad):Prop:=
 ar (aO H false 6 a0) λc H2=>
 ar (aO H2 false 9 a1) λb a=>
 Do (W 2 c) λd=>
 Do (O a 1 false d) λe=>
 aQ e false (
 Do (W 7 b) λf=>
 Do (O a 1 false f) λg=>
 aQ g true (
 Do (W 8 b) λh=>
 Do (O a 1 false h) λi=>
 Do (M .eql i D) λj=>
 N (vN Φ a2 b Q) [j] a) (
 N (vN Φ a2 b Q) [P] a) (
 False)) (
 N (vN Φ a2 b Q) [br] a) (
 False)
noncomputable def GW:aY:=R C ⟨165,[],[],none,[],[]⟩
def vO(Φ:ai)(a0 c:I)(Q:ad):a:=λab b=>
 Do (aZ a0) λf=>
 Do (W 3 f) λg=>
 Do (O b 1 false g) λh=>
 Do (M .quo h (J 8)) λe=>
 Do (aZ a0) λi=>
 Do (W 3 i) λj=>
 Do (O b 1 false j) λk=>
 Do (W 8 c) λl=>
 Do (O b 1 false l) λm=>
 Do (M .add k m) λn=>
 Do (M .sub n (J 1)) λo=>
 Do (M .quo o (J 8)) λp=>
 Do (aZ a0) λq=>
 Do (W 2 q) λr=>
 Do (O b 1 false r) λs=>
 Do (M .sub p e) λt=>
 Do (M .add t (J 1)) λu=>
 Do (bo [D,D] [(0,1,e),(1,1,u)]) λv=>
 Do (aZ a0) λw=>
 Do (W 3 w) λx=>
 Do (O b 1 false x) λy=>
 Do (M .rem y (J 8)) λz=>
 Do (W 8 c) λA=>
 Do (O b 1 false A) λB=>
 Do (bo [D,D,D,P,D,D] [(0,2,v),(2,1,(J 1)),(3,1,br),(4,1,z),(5,1,B)]) λC=>
 ar (dk b false 6 1 [D,D,D,P,D,D] [(0,6,C)]) λE F=>
 ar (cr F false 6 48 s E) λG H=>
 Do (aZ a0) λK=>
 Do (W 2 K) λL=>
 Do (Y H 1 L G) λd=>
 Do (aZ a0) λN=>
 Do (W 3 N) λR=>
 Do (O d 1 false R) λS=>
 Do (W 8 c) λT=>
 Do (O d 1 false T) λU=>
 Do (M .add S U) λV=>
 Do (aZ a0) λX=>
 Do (W 3 X) λZ=>
 Do (Y d 1 Z V) λaa=>
 Q (.aq []) aa
def f166(Φ:ai)(a0 a1:I)(H:Z)(Q:ad):Prop:=
 ar (aO H false 9 a1) λa H2=>
 Do (W 1 a) λd=>
 Do (W 1 d) λe=>
 Do (O H2 1 false e) λf=>
 Do (M .mul (J 8) f) λb=>
 Do (W 8 a) λg=>
 Do (O H2 1 false g) λh=>
 Do (M .eql h D) λi=>
 Gd i true (
 Do (aZ a0) λj=>
 Do (W 3 j) λk=>
 Do (O H2 1 false k) λl=>
Φ 167 [l,b] H2 λm n=>
 Do (aZ a0) λo=>
 Do (W 3 o) λp=>
 Do (Y n 1 p m) λc=>
 Do (aZ a0) λq=>
 Do (W 2 q) λr=>
 Do (O c 1 false r) λs=>
 Do (aZ a0) λt=>
 Do (W 3 t) λu=>
 Do (O c 1 false u) λv=>
 Do (M .quo v (J 8)) λw=>
 Do (bo [D,D] [(0,1,w)]) λx=>
 Do (aZ a0) λy=>
 Do (W 3 y) λz=>
 Do (O c 1 false z) λA=>
 Do (M .rem A (J 8)) λB=>
 Do (bo [D,D,D,P,D,D] [(0,2,x),(2,1,(J 1)),(3,1,br),(4,1,B)]) λC=>
 ar (dk c false 6 1 [D,D,D,P,D,D] [(0,6,C)]) λE F=>
 ar (cr F false 6 48 s E) λG K=>
 Do (aZ a0) λL=>
 Do (W 2 L) λR=>
 Do (Y K 1 R G) λS=>
 Q (.aq []) S) (
 Do (aZ a0) λT=>
 Do (W 3 T) λU=>
 Do (O H2 1 false U) λV=>
 Do (M .quo V b) λX=>
 Do (aZ a0) λaa=>
 Do (W 3 aa) λab=>
 Do (O H2 1 false ab) λac=>
 Do (W 8 a) λae=>
 Do (O H2 1 false ae) λaf=>
 Do (M .add ac af) λag=>
 Do (M .sub ag (J 1)) λah=>
 Do (M .quo ah b) λaj=>
 Do (M .neq X aj) λak=>
 Gd ak true (
 Do (aZ a0) λal=>
 Do (W 3 al) λam=>
 Do (O H2 1 false am) λan=>
Φ 167 [an,b] H2 λao ap=>
 Do (aZ a0) λau=>
 Do (W 3 au) λav=>
 Do (Y ap 1 av ao) λaw=>
 N (vO Φ a0 a Q) [] aw) (
 N (vO Φ a0 a Q) [] H2))
noncomputable def GX:aY:=R C ⟨166,[],[],none,[],[]⟩
def f167(Φ:ai)(a0 a1:I)(H:Z)(Q:ad):Prop:=
 Do (M .add a0 a1) λa=>
 Do (M .sub a (J 1)) λb=>
 Do (M .quo b a1) λc=>
 Do (M .mul c a1) λd=>
 Q d H
noncomputable def GY:aY:=R C ⟨167,[],[],none,[],[]⟩
def f176(Φ:ai)(a0:I)(H:Z)(Q:ad):Prop:=
 ar (aO H false 9 a0) λa H2=>
 Do (W 1 a) λb=>
 Do (O H2 6 true b) λc=>
Φ 129 [c] H2 λd e=>
 Q d e
noncomputable def GZ:aY:=R C ⟨176,[],[],none,[],[]⟩
def OV(Φ:ai)(a0 a1 d:I)(Q:ad):BT:=λs2 e=>
 Do (M .lss (G s2.1 0) d) λf=>
 Gd f true (
 Do (aP none 6 a0 (G s2.1 0)) λg=>
 Do (O s2.2 6 true g) λh=>
∃a b,a1 = .fn a b∧Φ (iG a) (iH a [h] b) s2.2 λi c=>
 Gd i true (
 Q (G s2.1 0) c) (
 Do (M .add (G s2.1 0) (J 1)) λj=>
 e ([j],c))) (
 Q (J (-1)) s2.2)
def f177(Φ:ai)(a0 a1:I)(H:Z)(Q:ad):Prop:=
 Do (bp false a0) λa=>
 aC (OV Φ a0 a1 a Q) ([D],H)
noncomputable def G1:aY:=R C ⟨177,[],[[8]],none,[],[]⟩
def vQ(Φ:ai)(a0 a1 a:I)(Q:ad):BT:=λs2 b=>
 Do (M .lss (G s2.1 0) a) λc=>
 Gd c true (
 Do (aP none 1 a0 (G s2.1 0)) λd=>
 Do (O s2.2 1 false d) λe=>
 Do (M .eql a1 e) λf=>
 Gd f true (
 Q (G s2.1 0) s2.2) (
 Do (M .add (G s2.1 0) (J 1)) λg=>
 b ([g],s2.2))) (
 Q (J (-1)) s2.2)
def f188(Φ:ai)(a0 a1:I)(H:Z)(Q:ad):Prop:=
 Do (bp false a0) λa=>
 aC (vQ Φ a0 a1 a Q) ([D],H)
noncomputable def G2:aY:=R C ⟨188,[],[[8]],none,[],[]⟩
def G3(Φ:ai)(b:I)(Q:ad):a:=λg d=>
 Do (bo [P,P,P,D,P,P] []) λe=>
 Do (Y d 6 b e) λc=>
 Do (O c 6 true b) λf=>
 Q (.aq [f,P]) c
def z7(Φ:ai)(a0 b:I)(Q:ad):a:=λk c=>
 Gd (G k 0) true (
 Do (bo [P,P,P,D,P,P] [(2,1,br),(3,1,(J 1))]) λl=>
 Do (Y c 6 b l) λd=>
 Do (O d 6 true b) λm=>
 Q (.aq [m,br]) d) (
 Do (M .eql a0 (J 5)) λn=>
 Gd n true (
 Do (bo [P,P,P,D,P,P] [(0,1,br),(1,1,br),(2,1,br)]) λo=>
 Do (Y c 6 b o) λe=>
 Do (O e 6 true b) λp=>
 Q (.aq [p,br]) e) (
 Do (M .eql a0 (J 6)) λq=>
 Gd q true (
 Do (bo [P,P,P,D,P,P] [(2,1,br),(3,1,(J 2))]) λr=>
 Do (Y c 6 b r) λf=>
 Do (O f 6 true b) λs=>
 Q (.aq [s,br]) f) (
 Do (M .eql a0 (J 7)) λt=>
 Gd t true (
 Do (bo [P,P,P,D,P,P] []) λu=>
 Do (Y c 6 b u) λg=>
 Do (O g 6 true b) λv=>
 Q (.aq [v,br]) g) (
 Do (M .eql a0 (J 8)) λw=>
 Gd w true (
 Do (bo [P,P,P,D,P,P] [(3,1,(J 1)),(4,1,br),(5,1,br)]) λx=>
 Do (Y c 6 b x) λh=>
 Do (O h 6 true b) λy=>
 Q (.aq [y,br]) h) (
 Do (M .eql a0 (J 9)) λz=>
 Gd z true (
 Do (bo [P,P,P,D,P,P] [(3,1,(J 1)),(4,1,br)]) λA=>
 Do (Y c 6 b A) λi=>
 Do (O i 6 true b) λB=>
 Q (.aq [B,br]) i) (
 Do (M .eql a0 (J 10)) λC=>
 Gd C true (
 Do (bo [P,P,P,D,P,P] [(3,1,(J 1))]) λE=>
 Do (Y c 6 b E) λj=>
 Do (O j 6 true b) λF=>
 Q (.aq [F,br]) j) (
 N (G3 Φ b Q) [] c)))))))
def z8(Φ:ai)(a0 b:I)(Q:ad):a:=λf c=>
 Gd (G f 0) true (
 Do (bo [P,P,P,D,P,P] [(0,1,br),(3,1,(J 1))]) λg=>
 Do (Y c 6 b g) λd=>
 Do (O d 6 true b) λh=>
 Q (.aq [h,br]) d) (
 Do (M .eql a0 (J 3)) λe=>
 Gd e true (
 N (z7 Φ a0 b Q) [e] c) (
 Do (M .eql a0 (J 4)) λi=>
 N (z7 Φ a0 b Q) [i] c))
def f191(Φ:ai)(a0:I)(H:Z)(Q:ad):Prop:=
 ar (some (aL H true [P,P,P,D,P,P])) λa H2=>
 Do (M .eql a0 (J 1)) λb=>
 Gd b true (
 N (z8 Φ a0 a Q) [b] H2) (
 Do (M .eql a0 (J 2)) λc=>
 N (z8 Φ a0 a Q) [c] H2)
noncomputable def G4:aY:=R C ⟨191,[2],[],none,[],[]⟩
def f192(Φ:ai)(a0:I)(H:Z)(Q:ad):Prop:=
 ar (aO H false 2 a0) λa H2=>
 Do (W 0 a) λb=>
 Do (O H2 1 false b) λc=>
 Do (M .eql c (.str [])) λd=>
 aQ d true (
 Do (W 1 a) λe=>
 Do (O H2 1 false e) λf=>
 Do (bp false f) λg=>
 Do (M .eql g D) λh=>
 Q h H2) (
 Q P H2) (
 False)
noncomputable def G5:aY:=R C ⟨192,[],[],none,[],[]⟩
def G6(Φ:ai)(c:I)(Q:ad):a:=λj b=>
 Do (W 0 c) λd=>
 Do (O b 1 false d) λe=>
 Do (M .eql e (J 2)) λf=>
 aQ f true (
 Do (W 1 c) λg=>
 Do (O b 1 false g) λh=>
 Do (M .leq h (J 8)) λi=>
 Q i b) (
 Q P b) (
 False)
def z_(Φ:ai)(c:I)(Q:ad):a:=λd b=>
 Gd (G d 0) true (
 Do (W 0 c) λe=>
 Do (O b 1 false e) λf=>
 Do (M .eql f (J 2)) λg=>
 aQ g true (
 Do (W 1 c) λh=>
 Do (O b 1 false h) λi=>
 Do (M .eql i (J 16)) λj=>
 Q j b) (
 Q P b) (
 False)) (
 N (G6 Φ c Q) [] b)
def Aa(Φ:ai)(a0 c:I)(Q:ad):a:=λe b=>
 Gd (G e 0) true (
 Do (W 0 c) λf=>
 Do (O b 1 false f) λg=>
 Do (M .eql g (J 1)) λh=>
 Q h b) (
 Do (M .eql a0 (J 5)) λd=>
 Gd d true (
 N (z_ Φ c Q) [d] b) (
 Do (M .eql a0 (J 6)) λi=>
 N (z_ Φ c Q) [i] b))
def f193(Φ:ai)(a0 a1:I)(H:Z)(Q:ad):Prop:=
 ar (aO H false 6 a1) λa H2=>
 Do (M .eql a0 (J 3)) λb=>
 Gd b true (
 N (Aa Φ a0 a Q) [b] H2) (
 Do (M .eql a0 (J 14)) λc=>
 N (Aa Φ a0 a Q) [c] H2)
noncomputable def G7:aY:=R C ⟨193,[],[],none,[],[]⟩
def vT(Φ:ai)(a0 a2 c:I)(Q:ad):a:=λg b=>
 Do (W 7 c) λd=>
 Do (O b 1 false d) λe=>
Φ 145 [a0,e,a2] b λh f=>
 Q (.aq []) f
def vU(Φ:ai)(a0 a2 b:I)(Q:ad):a:=λm c=>
 Do (W 0 b) λd=>
 Do (O c 1 false d) λe=>
 Do (M .geq e (J 4)) λf=>
 Gd f true (
 Do (W 0 b) λg=>
 Do (O c 1 false g) λh=>
 Do (M .add (J 10) h) λi=>
 Do (W 5 b) λj=>
 Do (O c 2 true j) λk=>
Φ 144 [a0,i,k,a2] c λn l=>
 N (vT Φ a0 a2 b Q) [] l) (
 N (vT Φ a0 a2 b Q) [] c)
def f194(Φ:ai)(a0 a1 a2:I)(H:Z)(Q:ad):Prop:=
 ar (aO H false 8 a1) λa H2=>
 Do (M .leq a2 (J 64)) λe=>
Φ 140 [a0,e,(J 5)] H2 λz d=>
 Do (O d 8 true a) λf=>
Φ 215 [f] d λg h=>
Φ 140 [a0,g,(J 4)] h λA c=>
 Do (W 0 a) λi=>
 Do (O c 1 false i) λj=>
 Do (M .add (J 10) j) λk=>
 Do (W 4 a) λl=>
 Do (O c 1 false l) λm=>
Φ 142 [k,m] c λn o=>
Φ 140 [a0,n,(J 11)] o λB p=>
Φ 65 [a0] p λq b=>
 Gd q true (
 Q (.aq []) b) (
 Do (W 0 a) λr=>
 Do (O b 1 false r) λs=>
 Do (M .eql s (J 2)) λt=>
 Gd t true (
 Do (W 2 a) λu=>
 Do (O b 1 false u) λv=>
Φ 143 [a0,v] b λw x=>
Φ 140 [a0,w,(J 6)] x λC y=>
 N (vU Φ a0 a2 a Q) [] y) (
 N (vU Φ a0 a2 a Q) [] b))
noncomputable def G8:aY:=R C ⟨194,[],[],none,[],[]⟩
def f195(Φ:ai)(a0 a1:I)(H:Z)(Q:ad):Prop:=
 ar (aO H false 7 a0) λa H2=>
 Do (W 0 a) λb=>
 Do (O H2 1 false b) λc=>
 Do (W 0 a1) λd=>
 Do (O H2 1 false d) λe=>
 Do (M .eql c e) λf=>
 Q f H2
noncomputable def G9:aY:=R C ⟨195,[],[],none,[],[]⟩
def f196(Φ:ai)(a0 a1:I)(H:Z)(Q:ad):Prop:=
 ar (aO H false 9 a0) λa H2=>
 Do (W 0 a) λb=>
 Do (O H2 1 false b) λc=>
 Do (W 0 a1) λd=>
 Do (O H2 1 false d) λe=>
 Do (M .eql c e) λf=>
 Q f H2
noncomputable def G_:aY:=R C ⟨196,[],[],none,[],[]⟩
def Ha(Φ:ai)(b:ST)(c:LT)(Q:ad):a:=λf d=>
 Do (M .quo (G b.1 0) (J 2)) λe=>
 c ([e],d)
def vV(Φ:ai)(b:ST)(d:LT)(Q:ad):a:=λe c=>
 Gd (G e 0) true (
 N (Ha Φ b d Q) [] c) (
 Q (G b.1 0) c)
def vW(Φ:ai)(a0:I)(Q:ad):BT:=λs1 a=>
 Do (M .gtr (G s1.1 0) (J 1)) λb=>
 aQ b true (
 Do (M .rem a0 (G s1.1 0)) λc=>
 Do (M .neq c D) λd=>
 N (vV Φ s1 a Q) [d] s1.2) (
 N (vV Φ s1 a Q) [P] s1.2) (
 False)
def f197(Φ:ai)(a0 a1:I)(H:Z)(Q:ad):Prop:=
 aC (vW Φ a0 Q) ([a1],H)
noncomputable def Hb:aY:=R C ⟨197,[],[[1]],none,[],[]⟩
def vX(Φ:ai)(d e f:I)(Q:ad):BT:=λa g=>
 Do (M .lss (G a.1 1) f) λh=>
 Gd h true (
 Do (aP none 2 e (G a.1 1)) λi=>
 Do (O a.2 2 true i) λj=>
 ar (some (aL a.2 true [D,D])) λc k=>
 Do (Y k 2 c j) λb=>
 Do (W 0 c) λl=>
 Do (O b 1 false l) λm=>
 Do (W 0 d) λn=>
 Do (W 0 n) λo=>
 Do (W 0 o) λp=>
 Do (O b 1 false p) λq=>
 Do (M .sub m q) λr=>
 Do (W 1 c) λs=>
 Do (O b 1 false s) λt=>
 Do (bo [D,D] [(0,1,r),(1,1,t)]) λu=>
 ar (dk b false 2 1 [D,D] [(0,2,u)]) λv w=>
 ar (cr w false 2 16 (G a.1 0) v) λx y=>
 Do (M .add (G a.1 1) (J 1)) λz=>
 g ([x,z],y)) (
 Q (G a.1 0) a.2)
def Hc(Φ:ai)(b:ST)(d:LT)(Q:ad):a:=λc e=>
 Do (bo [D,D] [(0,1,(G b.1 1)),(1,1,(G c 0))]) λf=>
 ar (dk e false 2 1 [D,D] [(0,2,f)]) λg h=>
 ar (cr h false 2 16 (G b.1 0) g) λi j=>
 Do (M .add (G b.1 1) (G c 0)) λk=>
 d ([i,k],j)
def Ab(Φ:ai)(c:I)(b:ST)(d:LT)(Q:ad):BT:=λa e=>
 Do (W 0 c) λf=>
 Do (W 0 f) λg=>
 Do (W 1 g) λh=>
 Do (O a.2 1 false h) λi=>
 Do (M .sub i (G b.1 1)) λj=>
 Do (M .gtr (G a.1 0) j) λk=>
 Gd k true (
 Do (M .quo (G a.1 0) (J 2)) λl=>
 e ([l],a.2)) (
 N (Hc Φ b d Q) [(G a.1 0)] a.2)
def vY(Φ:ai)(b:I)(Q:ad):BT:=λa c=>
 Do (W 0 b) λd=>
 Do (W 0 d) λe=>
 Do (W 1 e) λf=>
 Do (O a.2 1 false f) λg=>
 Do (M .lss (G a.1 1) g) λh=>
 Gd h true (
 Do (W 7 b) λi=>
 Do (O a.2 1 false i) λj=>
 Do (fy false [j,(J 8)]) λk=>
Φ 197 [(G a.1 1),k] a.2 λl m=>
 aC (Ab Φ b a c Q) ([l],m)) (
 Q (G a.1 0) a.2)
def f198(Φ:ai)(a0:I)(H:Z)(Q:ad):Prop:=
 ar (aO H false 8 a0) λa H2=>
 Do (W 6 a) λc=>
 Do (O H2 1 false c) λd=>
 Do (M .eql d (J (-1))) λe=>
 Gd e true (
 Do (W 0 a) λf=>
 Do (W 0 f) λg=>
 Do (O H2 2 true g) λh=>
Φ 216 [h] H2 λb i=>
 Do (bp false b) λj=>
 aC (vX Φ a b j Q) ([aS,D],i)) (
 aC (vY Φ a Q) ([aS,D],H2))
noncomputable def Hd:aY:=R C ⟨198,[5],[[3,16],[3,6],[7]],none,[],[]⟩
def nP(Φ:ai)(Q:ad):a:=λc b=>
 Gd (G c 0) true (
 Q (J 9) b) (
 Q D b)
def pW(Φ:ai)(c:I)(Q:ad):a:=λd b=>
 Gd (G d 0) true (
 Q (J 8) b) (
 Do (W 7 c) λe=>
 Do (O b 1 false e) λf=>
 aQ f true (
 Do (W 8 c) λg=>
 Do (O b 1 false g) λh=>
 Do (M .lss h D) λi=>
 aQ i false (
 Do (W 8 c) λj=>
 Do (O b 1 false j) λk=>
 Do (W 1 c) λl=>
 Do (W 1 l) λm=>
 Do (O b 1 false m) λn=>
 Do (M .mul (J 8) n) λo=>
 Do (M .gtr k o) λp=>
 aQ p false (
 Do (W 8 c) λq=>
 Do (O b 1 false q) λr=>
 Do (M .eql r D) λs=>
 aQ s true (
 Do (W 0 c) λt=>
 Do (O b 1 false t) λu=>
 Do (M .neq u (.str [])) λv=>
 N (nP Φ Q) [v] b) (
 N (nP Φ Q) [P] b) (
 False)) (
 N (nP Φ Q) [br] b) (
 False)) (
 N (nP Φ Q) [br] b) (
 False)) (
 N (nP Φ Q) [P] b) (
 False))
def vZ(Φ:ai)(d c:I)(Q:ad):a:=λe b=>
 aQ (G e 0) false (
 Do (W 7 c) λf=>
 Do (O b 1 false f) λg=>
 aQ g true (
 Do (W 1 c) λh=>
 Do (W 0 h) λi=>
 Do (O b 1 false i) λj=>
 Do (M .neq j (J 1)) λk=>
 aQ k false (
 Do (W 2 d) λl=>
 Do (O b 1 false l) λm=>
 N (pW Φ c Q) [m] b) (
 N (pW Φ c Q) [br] b) (
 False)) (
 N (pW Φ c Q) [P] b) (
 False)) (
 N (pW Φ c Q) [br] b) (
 False)
def Ac(Φ:ai)(d b:I)(Q:ad):a:=λp e=>
 Do (W 1 b) λg=>
 Do (O e 6 true g) λh=>
Φ 113 [h] e λf c=>
 Do (M .neq f D) λi=>
 Gd i true (
 Q f c) (
 Do (W 7 b) λj=>
 Do (O c 1 false j) λk=>
 Do (cY .not k) λl=>
 aQ l true (
 Do (W 8 b) λm=>
 Do (O c 1 false m) λn=>
 Do (M .neq n D) λo=>
 N (vZ Φ d b Q) [o] c) (
 N (vZ Φ d b Q) [P] c) (
 False))
def v7(Φ:ai)(c d:I)(Q:ad):a:=λe b=>
 Gd (G e 0) true (
 Q (J 7) b) (
 N (Ac Φ c d Q) [] b)
def rN(Φ:ai)(a1 d c:I)(Q:ad):a:=λe b=>
 Gd (G e 0) true (
 Q (J 6) b) (
 Do (W 0 c) λf=>
 Do (O b 1 false f) λg=>
 Do (M .neq g (.str [])) λh=>
 aQ h true (
 Do (W 3 d) λi=>
 Do (O b 1 false i) λj=>
 Do (du 9 j none (some a1) none) λk=>
Φ 131 [k,(.fn 217 [c])] b λl m=>
 N (v7 Φ d c Q) [l] m) (
 N (v7 Φ d c Q) [P] b) (
 False))
def f199(Φ:ai)(a0 a1:I)(H:Z)(Q:ad):Prop:=
 ar (aO H false 6 a0) λc H2=>
 Do (W 3 c) λe=>
 Do (O H2 1 false e) λf=>
 Do (aP none 9 f a1) λg=>
 Do (O H2 9 true g) λh=>
 ar (some (aL H2 true [.str [],D,D,P,aS,D,aS,P,D])) λa i=>
 Do (Y i 9 a h) λd=>
 Do (W 0 a) λj=>
 Do (O d 1 false j) λk=>
Φ 95 [k] d λl b=>
 Do (cY .not l) λm=>
 aQ m true (
 Do (W 0 a) λn=>
 Do (O b 1 false n) λo=>
 Do (M .neq o (.str [])) λp=>
 aQ p false (
 Do (W 7 a) λq=>
 Do (O b 1 false q) λr=>
 Do (cY .not r) λs=>
 N (rN Φ a1 c a Q) [s] b) (
 N (rN Φ a1 c a Q) [br] b) (
 False)) (
 N (rN Φ a1 c a Q) [P] b) (
 False)
noncomputable def He:aY:=R C ⟨199,[5],[],none,[],[]⟩
def rO(Φ:ai)(c:I)(d:List I)(Q:ad):a:=λe b=>
 aQ (G e 0) true (
 Do (W 7 c) λf=>
 Do (O b 1 false f) λg=>
 Do (bp false g) λh=>
 Do (M .eql h (G d 0)) λi=>
 Q i b) (
 Q P b) (
 False)
def ls(Φ:ai)(b:I)(c:List I)(Q:ad):a:=λe d=>
 aQ (G e 0) true (
 aQ (G c 1) false (
 Do (W 5 b) λf=>
 Do (O d 2 true f) λg=>
Φ 192 [g] d λh i=>
 N (rO Φ b c Q) [h] i) (
 N (rO Φ b c Q) [br] d) (
 False)) (
 N (rO Φ b c Q) [P] d) (
 False)
def rP(Φ:ai)(b e:I)(d:List I)(Q:ad):a:=λf c=>
 aQ (G f 0) true (
 aQ e true (
 Do (W 3 b) λg=>
 Do (O c 1 false g) λh=>
 Do (M .geq h (J 1)) λi=>
 aQ i true (
 Do (W 3 b) λj=>
 Do (O c 1 false j) λk=>
 Do (M .leq k (J 11)) λl=>
 aQ l false (
 Do (cY .not e) λm=>
 aQ m true (
 Do (W 3 b) λn=>
 Do (O c 1 false n) λo=>
 Do (M .eql o D) λp=>
 N (ls Φ b d Q) [p] c) (
 N (ls Φ b d Q) [P] c) (
 False)) (
 N (ls Φ b d Q) [br] c) (
 False)) (
 Do (cY .not e) λq=>
 aQ q true (
 Do (W 3 b) λr=>
 Do (O c 1 false r) λs=>
 Do (M .eql s D) λt=>
 N (ls Φ b d Q) [t] c) (
 N (ls Φ b d Q) [P] c) (
 False)) (
 False)) (
 Do (cY .not e) λu=>
 aQ u true (
 Do (W 3 b) λv=>
 Do (O c 1 false v) λw=>
 Do (M .eql w D) λx=>
 N (ls Φ b d Q) [x] c) (
 N (ls Φ b d Q) [P] c) (
 False)) (
 False)) (
 N (ls Φ b d Q) [P] c) (
 False)
def v8(Φ:ai)(b d:I)(e:List I)(Q:ad):a:=λf c=>
 aQ (G f 0) true (
 Do (W 0 b) λg=>
 Do (O c 1 false g) λh=>
 Do (M .eql h (J 2)) λi=>
 aQ i false (
 Do (W 2 b) λj=>
 Do (O c 1 false j) λk=>
 Do (M .eql k (.str [])) λl=>
 N (rP Φ b d e Q) [l] c) (
 N (rP Φ b d e Q) [br] c) (
 False)) (
 N (rP Φ b d e Q) [P] c) (
 False)
def mO(Φ:ai)(b:I)(Q:ad):a:=λd c=>
 Do (W 0 b) λf=>
 Do (O c 1 false f) λg=>
 Do (M .eql g (J 3)) λe=>
 Do (W 0 b) λh=>
 Do (O c 1 false h) λi=>
 Do (M .eql i (J 1)) λj=>
 aQ j false (
 Do (W 1 b) λk=>
 Do (O c 1 false k) λl=>
 Do (M .eql l (bY 0)) λm=>
 N (v8 Φ b e d Q) [m] c) (
 N (v8 Φ b e d Q) [br] c) (
 False)
def Ad(Φ:ai)(c d:I)(Q:ad):a:=λe b=>
 Gd (G e 0) true (
 N (mO Φ c Q) [(J 1),br] b) (
 Do (M .eql d (J 8)) λf=>
 Gd f true (
 N (mO Φ c Q) [(J 2),br] b) (
 Q P b))
def Ae(Φ:ai)(c b:I)(Q:ad):a:=λf d=>
 Gd (G f 0) true (
 N (mO Φ c Q) [D,br] d) (
 Do (M .eql b (J 6)) λe=>
 Gd e true (
 N (Ad Φ c b Q) [e] d) (
 Do (M .eql b (J 7)) λg=>
 N (Ad Φ c b Q) [g] d))
def Af(Φ:ai)(c b:I)(Q:ad):a:=λf d=>
 Gd (G f 0) true (
 N (mO Φ c Q) [D,P] d) (
 Do (M .eql b (J 3)) λg=>
 Gd g true (
 N (mO Φ c Q) [(J 2),P] d) (
 Do (M .eql b (J 4)) λe=>
 Gd e true (
 N (Ae Φ c b Q) [e] d) (
 Do (M .eql b (J 5)) λh=>
 N (Ae Φ c b Q) [h] d)))
def f215(Φ:ai)(a0:I)(H:Z)(Q:ad):Prop:=
 ar (aO H false 8 a0) λb H2=>
 Do (W 0 b) λd=>
 Do (O H2 1 false d) λa=>
 Do (M .eql a (J 1)) λc=>
 Gd c true (
 N (Af Φ b a Q) [c] H2) (
 Do (M .eql a (J 2)) λe=>
 N (Af Φ b a Q) [e] H2)
noncomputable def Hf:aY:=R C ⟨215,[],[],none,[],[]⟩
def Hg(Φ:ai)(b:ST)(c:LT)(Q:ad):a:=λf d=>
 Do (M .quo (G b.1 0) (J 2)) λe=>
 c ([e],d)
def Hh(Φ:ai)(b:I)(g:ST)(h:LT)(Q:ad):a:=λc d=>
 Do (W 0 b) λi=>
 Do (O d 1 false i) λj=>
 Do (bo [D,D] [(0,1,j),(1,1,(G c 0))]) λk=>
 ar (dk d false 2 1 [D,D] [(0,2,k)]) λl m=>
 ar (cr m false 2 16 (G g.1 0) l) λn e=>
 Do (W 0 b) λo=>
 Do (O e 1 false o) λp=>
 Do (M .add p (G c 0)) λq=>
 Do (W 0 b) λr=>
 Do (Y e 1 r q) λf=>
 Do (W 1 b) λs=>
 Do (O f 1 false s) λt=>
 Do (M .sub t (G c 0)) λu=>
 Do (W 1 b) λv=>
 Do (Y f 1 v u) λw=>
 h ([n],w)
def v_(Φ:ai)(d:I)(e:ST)(f:LT)(b:ST)(g:LT)(Q:ad):a:=λh c=>
 Gd (G h 0) true (
 N (Hg Φ b g Q) [] c) (
 N (Hh Φ d e f Q) [(G b.1 0)] c)
def wa(Φ:ai)(b:I)(c:ST)(d:LT)(Q:ad):BT:=λa e=>
 Do (W 1 b) λf=>
 Do (O a.2 1 false f) λg=>
 Do (M .gtr (G a.1 0) g) λh=>
 aQ h false (
 Do (W 0 b) λi=>
 Do (O a.2 1 false i) λj=>
 Do (M .rem j (G a.1 0)) λk=>
 Do (M .neq k D) λl=>
 N (v_ Φ b c d a e Q) [l] a.2) (
 N (v_ Φ b c d a e Q) [br] a.2) (
 False)
def pX(Φ:ai)(b:I)(Q:ad):BT:=λa c=>
 Do (W 1 b) λd=>
 Do (O a.2 1 false d) λe=>
 Do (M .gtr e D) λf=>
 Gd f true (
 aC (wa Φ b a c Q) ([(J 8)],a.2)) (
 Q (G a.1 0) a.2)
def Ag(Φ:ai)(b:I)(Q:ad):a:=λd c=>
 aC (pX Φ b Q) ([aS],c)
def wb(Φ:ai)(c:I)(Q:ad):a:=λd b=>
 Gd (G d 0) true (
 Q aS b) (
 N (Ag Φ c Q) [] b)
def pY(Φ:ai)(b:I)(Q:ad):a:=λd c=>
 aQ (G d 0) false (
 Do (W 0 b) λe=>
 Do (O c 1 false e) λf=>
 Do (W 1 b) λg=>
 Do (O c 1 false g) λh=>
 Do (M .add f h) λi=>
 Do (M .gtr i (J 1099511627776)) λj=>
 N (wb Φ b Q) [j] c) (
 N (wb Φ b Q) [br] c) (
 False)
def f216(Φ:ai)(a0:I)(H:Z)(Q:ad):Prop:=
 ar (aO H true 2 a0) λa H2=>
 Do (O H2 2 true a) λc=>
Φ 94 [c] H2 λd b=>
 Do (cY .not d) λe=>
 aQ e false (
 Do (W 1 a) λf=>
 Do (O b 1 false f) λg=>
 Do (M .gtr g (J 64)) λh=>
 N (pY Φ a Q) [h] b) (
 N (pY Φ a Q) [br] b) (
 False)
noncomputable def Hi:aY:=R C ⟨216,[1],[[3],[4]],none,[],[]⟩
def f217(Φ:ai)(a0 a1:I)(H:Z)(Q:ad):Prop:=
 ar (aO H false 9 a0) λa H2=>
 Do (W 0 a) λb=>
 Do (O H2 1 false b) λc=>
 Do (W 0 a1) λd=>
 Do (O H2 1 false d) λe=>
 Do (M .eql c e) λf=>
 Q f H2
noncomputable def Hj:aY:=R C ⟨217,[],[],none,[],[]⟩
noncomputable def bu:iM:=[
  (5,EG),
  (11,EJ),
  (14,EK),
  (15,EN),
  (16,EO),
  (17,EP),
  (18,ER),
  (19,EW),
  (20,EZ),
  (30,E0),
  (35,E1),
  (36,E3),
  (37,E5),
  (38,E6),
  (39,E8),
  (40,OS),
  (41,E_),
  (42,Fa),
  (43,Fb),
  (44,Fc),
  (45,Fe),
  (56,Ff),
  (57,Fh),
  (58,Fi),
  (60,Fj),
  (61,Fk),
  (62,Fl),
  (63,Fp),
  (64,Fs),
  (65,Ft),
  (66,Fu),
  (67,Fv),
  (68,Fw),
  (69,Fy),
  (70,Fz),
  (71,FA),
  (72,FC),
  (85,FD),
  (86,FF),
  (87,FG),
  (88,FI),
  (90,FJ),
  (91,FL),
  (92,FM),
  (93,FO),
  (94,FP),
  (95,FR),
  (96,FT),
  (97,FU),
  (98,FV),
  (99,FW),
  (100,FX),
  (101,FY),
  (102,FZ),
  (103,F0),
  (104,F1),
  (105,F2),
  (106,F3),
  (107,F4),
  (108,F5),
  (109,F6),
  (110,F7),
  (111,F8),
  (112,F9),
  (113,Ga),
  (114,Gb),
  (115,Gf),
  (129,Gg),
  (130,Gh),
  (131,Gi),
  (132,Gj),
  (133,Gk),
  (136,Gl),
  (137,Gm),
  (138,Gn),
  (140,Gp),
  (141,Gq),
  (142,Gs),
  (143,Gt),
  (144,Gv),
  (145,Gw),
  (146,Gx),
  (147,Gy),
  (148,Gz),
  (149,GA),
  (150,GB),
  (151,GC),
  (152,GF),
  (153,GG),
  (154,GH),
  (155,GI),
  (156,GJ),
  (157,GK),
  (158,GL),
  (159,GM),
  (160,GN),
  (161,GO),
  (162,GP),
  (163,GQ),
  (164,GV),
  (165,GW),
  (166,GX),
  (167,GY),
  (176,GZ),
  (177,G1),
  (188,G2),
  (191,G4),
  (192,G5),
  (193,G7),
  (194,G8),
  (195,G9),
  (196,G_),
  (197,Hb),
  (198,Hd),
  (199,He),
  (215,Hf),
  (216,Hi),
  (217,Hj)]
section
variable{Φ:ai}(hT:Cl Φ bu){a0 a1 a2 a3 a4 a5 a6 a7 a8 a9 cO cx:I}{H:Z}{Q:ad}
include hT
theorem OW(h:f5 Φ a0 a1 a2 H Q):Φ 5 [a0,a1,a2] H Q:=hT.c (f:=EG) h
theorem OX(h:f11 Φ a0 H Q):Φ 11 [a0] H Q:=hT.c (f:=EJ) h
theorem OY(h:f14 Φ a0 a1 H Q):Φ 14 [a0,a1] H Q:=hT.c (f:=EK) h
theorem OZ(h:f15 Φ a0 H Q):Φ 15 [a0] H Q:=hT.c (f:=EN) h
theorem O0(h:f16 Φ a0 H Q):Φ 16 [a0] H Q:=hT.c (f:=EO) h
theorem O1(h:f17 Φ a0 a1 H Q):Φ 17 [a0,a1] H Q:=hT.c (f:=EP) h
theorem O2(h:f18 Φ a0 H Q):Φ 18 [a0] H Q:=hT.c (f:=ER) h
theorem O3(h:f19 Φ a0 a1 a2 H Q):Φ 19 [a0,a1,a2] H Q:=hT.c (f:=EW) h
theorem O4(h:f20 Φ a0 a1 H Q):Φ 20 [a0,a1] H Q:=hT.c (f:=EZ) h
theorem O5(h:f30 Φ a0 H Q):Φ 30 [a0] H Q:=hT.c (f:=E0) h
theorem O6(h:f35 Φ a0 a1 H Q):Φ 35 [a0,a1] H Q:=hT.c (f:=E1) h
theorem O7(h:f36 Φ a0 H Q):Φ 36 [a0] H Q:=hT.c (f:=E3) h
theorem O8(h:f37 Φ a0 a1 H Q):Φ 37 [a0,a1] H Q:=hT.c (f:=E5) h
theorem O9(h:f38 Φ a0 H Q):Φ 38 [a0] H Q:=hT.c (f:=E6) h
theorem O_(h:f39 Φ a0 a1 H Q):Φ 39 [a0,a1] H Q:=hT.c (f:=E8) h
theorem Pa(h:f41 Φ a0 H Q):Φ 41 [a0] H Q:=hT.c (f:=E_) h
theorem Pb(h:f42 Φ a0 H Q):Φ 42 [a0] H Q:=hT.c (f:=Fa) h
theorem wc(h:f43 Φ a0 a1 H Q):Φ 43 [a0,a1] H Q:=hT.c (f:=Fb) h
theorem Pc(h:f44 Φ a0 a1 H Q):Φ 44 [a0,a1] H Q:=hT.c (f:=Fc) h
theorem Pe(h:f45 Φ a0 a1 H Q):Φ 45 [a0,a1] H Q:=hT.c (f:=Fe) h
theorem Ah(h:f56 Φ a0 H Q):Φ 56 [a0] H Q:=hT.c (f:=Ff) h
theorem Pf(h:f57 Φ a0 a1 a2 H Q):Φ 57 [a0,a1,a2] H Q:=hT.c (f:=Fh) h
theorem Pg(h:f58 Φ a0 H Q):Φ 58 [a0] H Q:=hT.c (f:=Fi) h
theorem Ph(h:f60 Φ a0 H Q):Φ 60 [a0] H Q:=hT.c (f:=Fj) h
theorem Pj(h:f61 Φ a0 H Q):Φ 61 [a0] H Q:=hT.c (f:=Fk) h
theorem Pk(h:f62 Φ a0 a1 H Q):Φ 62 [a0,a1] H Q:=hT.c (f:=Fl) h
theorem Pl(h:f63 Φ a0 H Q):Φ 63 [a0] H Q:=hT.c (f:=Fp) h
theorem Pm(h:f64 Φ a0 a1 a2 H Q):Φ 64 [a0,a1,a2] H Q:=hT.c (f:=Fs) h
theorem nQ(h:f65 Φ a0 H Q):Φ 65 [a0] H Q:=hT.c (f:=Ft) h
theorem Pn(h:f66 Φ a0 a1 H Q):Φ 66 [a0,a1] H Q:=hT.c (f:=Fu) h
theorem Po(h:f67 Φ a0 a1 H Q):Φ 67 [a0,a1] H Q:=hT.c (f:=Fv) h
theorem Pp(h:f68 Φ a0 H Q):Φ 68 [a0] H Q:=hT.c (f:=Fw) h
theorem Pq(h:f69 Φ a0 a1 H Q):Φ 69 [a0,a1] H Q:=hT.c (f:=Fy) h
theorem we(h:f70 Φ a0 a1 H Q):Φ 70 [a0,a1] H Q:=hT.c (f:=Fz) h
theorem Pr(h:f71 Φ a0 a1 H Q):Φ 71 [a0,a1] H Q:=hT.c (f:=FA) h
theorem Ps(h:f72 Φ a0 H Q):Φ 72 [a0] H Q:=hT.c (f:=FC) h
theorem Pt(h:f85 Φ a0 H Q):Φ 85 [a0] H Q:=hT.c (f:=FD) h
theorem Pu(h:f86 Φ a0 H Q):Φ 86 [a0] H Q:=hT.c (f:=FF) h
theorem Pv(h:f87 Φ a0 a1 H Q):Φ 87 [a0,a1] H Q:=hT.c (f:=FG) h
theorem Pw(h:f88 Φ a0 a1 a2 H Q):Φ 88 [a0,a1,a2] H Q:=hT.c (f:=FI) h
theorem Px(h:f90 Φ a0 a1 H Q):Φ 90 [a0,a1] H Q:=hT.c (f:=FJ) h
theorem Py(h:f91 Φ a0 H Q):Φ 91 [a0] H Q:=hT.c (f:=FL) h
theorem Pz(h:f92 Φ a0 a1 H Q):Φ 92 [a0,a1] H Q:=hT.c (f:=FM) h
theorem Hk(h:f93 Φ a0 H Q):Φ 93 [a0] H Q:=hT.c (f:=FO) h
theorem Hl(h:f94 Φ a0 H Q):Φ 94 [a0] H Q:=hT.c (f:=FP) h
theorem PA(h:f95 Φ a0 H Q):Φ 95 [a0] H Q:=hT.c (f:=FR) h
theorem PB(h:f96 Φ a0 H Q):Φ 96 [a0] H Q:=hT.c (f:=FT) h
theorem PC(h:f97 Φ a0 a1 H Q):Φ 97 [a0,a1] H Q:=hT.c (f:=FU) h
theorem PD(h:f98 Φ a0 a1 H Q):Φ 98 [a0,a1] H Q:=hT.c (f:=FV) h
theorem PE(h:f99 Φ a0 a1 a2 H Q):Φ 99 [a0,a1,a2] H Q:=hT.c (f:=FW) h
theorem PF(h:f100 Φ a0 a1 H Q):Φ 100 [a0,a1] H Q:=hT.c (f:=FX) h
theorem PG(h:f101 Φ a0 H Q):Φ 101 [a0] H Q:=hT.c (f:=FY) h
theorem PH(h:f102 Φ a0 a1 a2 H Q):Φ 102 [a0,a1,a2] H Q:=hT.c (f:=FZ) h
theorem PI(h:f103 Φ a0 a1 H Q):Φ 103 [a0,a1] H Q:=hT.c (f:=F0) h
theorem PJ(h:f104 Φ a0 a1 a2 H Q):Φ 104 [a0,a1,a2] H Q:=hT.c (f:=F1) h
theorem PK(h:f105 Φ a0 a1 H Q):Φ 105 [a0,a1] H Q:=hT.c (f:=F2) h
theorem PM(h:f106 Φ a0 a1 H Q):Φ 106 [a0,a1] H Q:=hT.c (f:=F3) h
theorem PN(h:f107 Φ a0 H Q):Φ 107 [a0] H Q:=hT.c (f:=F4) h
theorem PO(h:f108 Φ a0 a1 a2 a3 H Q):Φ 108 [a0,a1,a2,a3] H Q:=hT.c (f:=F5) h
theorem PQ(h:f109 Φ a0 a1 H Q):Φ 109 [a0,a1] H Q:=hT.c (f:=F6) h
theorem PR(h:f110 Φ a0 a1 H Q):Φ 110 [a0,a1] H Q:=hT.c (f:=F7) h
theorem PS(h:f111 Φ a0 a1 H Q):Φ 111 [a0,a1] H Q:=hT.c (f:=F8) h
theorem PT(h:f112 Φ a0 H Q):Φ 112 [a0] H Q:=hT.c (f:=F9) h
theorem PU(h:f113 Φ a0 H Q):Φ 113 [a0] H Q:=hT.c (f:=Ga) h
theorem PV(h:f114 Φ a0 a1 H Q):Φ 114 [a0,a1] H Q:=hT.c (f:=Gb) h
theorem Ai(h:f115 Φ a0 H Q):Φ 115 [a0] H Q:=hT.c (f:=Gf) h
theorem PW(h:f129 Φ a0 H Q):Φ 129 [a0] H Q:=hT.c (f:=Gg) h
theorem PX(h:f130 Φ a0 a1 H Q):Φ 130 [a0,a1] H Q:=hT.c (f:=Gh) h
theorem PY(h:f131 Φ a0 a1 H Q):Φ 131 [a0,a1] H Q:=hT.c (f:=Gi) h
theorem PZ(h:f132 Φ a0 H Q):Φ 132 [a0] H Q:=hT.c (f:=Gj) h
theorem P0(h:f133 Φ a0 a1 H Q):Φ 133 [a0,a1] H Q:=hT.c (f:=Gk) h
theorem P1(h:f136 Φ a0 H Q):Φ 136 [a0] H Q:=hT.c (f:=Gl) h
theorem Hm(h:f137 Φ a0 H Q):Φ 137 [a0] H Q:=hT.c (f:=Gm) h
theorem P3(h:f138 Φ a0 a1 H Q):Φ 138 [a0,a1] H Q:=hT.c (f:=Gn) h
theorem P4(h:f140 Φ a0 a1 a2 H Q):Φ 140 [a0,a1,a2] H Q:=hT.c (f:=Gp) h
theorem P5(h:f141 Φ a0 H Q):Φ 141 [a0] H Q:=hT.c (f:=Gq) h
theorem P6(h:f142 Φ a0 a1 H Q):Φ 142 [a0,a1] H Q:=hT.c (f:=Gs) h
theorem P7(h:f143 Φ a0 a1 H Q):Φ 143 [a0,a1] H Q:=hT.c (f:=Gt) h
theorem P9(h:f144 Φ a0 a1 a2 a3 H Q):Φ 144 [a0,a1,a2,a3] H Q:=hT.c (f:=Gv) h
theorem P_(h:f145 Φ a0 a1 a2 H Q):Φ 145 [a0,a1,a2] H Q:=hT.c (f:=Gw) h
theorem Qa(h:f146 Φ a0 a1 H Q):Φ 146 [a0,a1] H Q:=hT.c (f:=Gx) h
theorem Qb(h:f147 Φ a0 a1 a2 a3 H Q):Φ 147 [a0,a1,a2,a3] H Q:=hT.c (f:=Gy) h
theorem Qc(h:f148 Φ a0 a1 H Q):Φ 148 [a0,a1] H Q:=hT.c (f:=Gz) h
theorem Qd(h:f149 Φ a0 a1 H Q):Φ 149 [a0,a1] H Q:=hT.c (f:=GA) h
theorem Qe(h:f150 Φ a0 a1 H Q):Φ 150 [a0,a1] H Q:=hT.c (f:=GB) h
theorem Qf(h:f151 Φ a0 a1 H Q):Φ 151 [a0,a1] H Q:=hT.c (f:=GC) h
theorem Qg(h:f152 Φ a0 a1 H Q):Φ 152 [a0,a1] H Q:=hT.c (f:=GF) h
theorem Qh(h:f153 Φ a0 a1 H Q):Φ 153 [a0,a1] H Q:=hT.c (f:=GG) h
theorem Qi(h:f154 Φ a0 a1 a2 a3 H Q):Φ 154 [a0,a1,a2,a3] H Q:=hT.c (f:=GH) h
theorem Qj(h:f155 Φ a0 a1 a2 a3 H Q):Φ 155 [a0,a1,a2,a3] H Q:=hT.c (f:=GI) h
theorem Qk(h:f156 Φ a0 H Q):Φ 156 [a0] H Q:=hT.c (f:=GJ) h
theorem Ql(h:f157 Φ a0 a1 a2 a3 a4 H Q):Φ 157 [a0,a1,a2,a3,a4] H Q:=hT.c (f:=GK) h
theorem Qm(h:f158 Φ a0 H Q):Φ 158 [a0] H Q:=hT.c (f:=GL) h
theorem Qn(h:f159 Φ a0 a1 a2 H Q):Φ 159 [a0,a1,a2] H Q:=hT.c (f:=GM) h
theorem Qo(h:f160 Φ a0 a1 H Q):Φ 160 [a0,a1] H Q:=hT.c (f:=GN) h
theorem Qp(h:f161 Φ a0 a1 H Q):Φ 161 [a0,a1] H Q:=hT.c (f:=GO) h
theorem Qq(h:f162 Φ a0 H Q):Φ 162 [a0] H Q:=hT.c (f:=GP) h
theorem Hn(h:f163 Φ a0 a1 H Q):Φ 163 [a0,a1] H Q:=hT.c (f:=GQ) h
theorem Qr(h:f164 Φ a0 H Q):Φ 164 [a0] H Q:=hT.c (f:=GV) h
theorem Qs(h:f165 Φ a0 a1 a2 H Q):Φ 165 [a0,a1,a2] H Q:=hT.c (f:=GW) h
theorem Qt(h:f166 Φ a0 a1 H Q):Φ 166 [a0,a1] H Q:=hT.c (f:=GX) h
theorem pZ(h:f167 Φ a0 a1 H Q):Φ 167 [a0,a1] H Q:=hT.c (f:=GY) h
theorem Qu(h:f176 Φ a0 H Q):Φ 176 [a0] H Q:=hT.c (f:=GZ) h
theorem Qv(h:f177 Φ a0 a1 H Q):Φ 177 [a0,a1] H Q:=hT.c (f:=G1) h
theorem Qw(h:f188 Φ a0 a1 H Q):Φ 188 [a0,a1] H Q:=hT.c (f:=G2) h
theorem Qx(h:f191 Φ a0 H Q):Φ 191 [a0] H Q:=hT.c (f:=G4) h
theorem Ho(h:f192 Φ a0 H Q):Φ 192 [a0] H Q:=hT.c (f:=G5) h
theorem Qy(h:f193 Φ a0 a1 H Q):Φ 193 [a0,a1] H Q:=hT.c (f:=G7) h
theorem Qz(h:f194 Φ a0 a1 a2 H Q):Φ 194 [a0,a1,a2] H Q:=hT.c (f:=G8) h
theorem QA(h:f195 Φ a0 a1 H Q):Φ 195 [a0,a1] H Q:=hT.c (f:=G9) h
theorem QB(h:f196 Φ a0 a1 H Q):Φ 196 [a0,a1] H Q:=hT.c (f:=G_) h
theorem QC(h:f197 Φ a0 a1 H Q):Φ 197 [a0,a1] H Q:=hT.c (f:=Hb) h
theorem QD(h:f198 Φ a0 H Q):Φ 198 [a0] H Q:=hT.c (f:=Hd) h
theorem QE(h:f199 Φ a0 a1 H Q):Φ 199 [a0,a1] H Q:=hT.c (f:=He) h
theorem QF(h:f215 Φ a0 H Q):Φ 215 [a0] H Q:=hT.c (f:=Hf) h
theorem QG(h:f216 Φ a0 H Q):Φ 216 [a0] H Q:=hT.c (f:=Hi) h
theorem QH(h:f217 Φ a0 a1 H Q):Φ 217 [a0,a1] H Q:=hT.c (f:=Hj) h
end
end Rb.S

namespace Go.Proofs.YteakojhgmhmdkaaGreatDoor.rb
open Rb
theorem nR:Cl (af C) S.bu:=Cl.of (tm C) (M2 (pq _ _) (by kernel_rfl))
end Go.Proofs.YteakojhgmhmdkaaGreatDoor.rb

namespace Rb
open Go Go.RowKit
variable{W w:World}{F:cz}{g:Nat}{G:aH}
def kA(W:World):Nat→Nat→Prop:=λb o=>∃V,W.cell? ⟨b,o,none⟩=some V
theorem QI{C:Ctx}{key:Nat}{f:FuncId}{args:List I}{Vs:Array Value}(hf:C.F key=some f)(h:af C key args Z.mt (λv _=>v = .bool true))(hG:ct C W (aH.mt (kA W)) Z.mt)
  (a:aK C.F W (aH.mt (kA W)) args Vs):Calls C.P f Vs W λe W'=>e = .returned (.bool true)∧Below W.heap.size W W':=by
 refine Calls.mono (h.2 f hf _ W Vs hG (Rel.mt λ_ _ h=>h) a) λe w' he=>?_;obtain⟨V,v,H',G',rfl,rfl,hv,_,b⟩:=he;obtain rfl:=hv.iI;exact⟨rfl,b.below⟩
theorem Aj{k:IntKind}{a:List Int}(h:∀i,i<a.length→W.cell? ⟨g,i,none⟩=some (.int k (a.getD i 0))):VR F W (aH.mt (kA W)) (.ae (a.map (.int k))) (.pointer (some ⟨g,0,none⟩)):=by
 refine .ae _ g 0 (λj=> .int k (a.getD j 0)) (λj c b=>?_) λj c b=>?_
 · have hl:j<a.length:=by simpa using(XV.1 b).1
   rw[YI];exact⟨⟨_,h j hl⟩,h j hl⟩
 · have hl:j<a.length:=by simpa using(XV.1 b).1
   have:c = .int k (a.getD j 0):=by rw[YN,YO hl]at b;simp only[Yc,Yb.injEq]at b;rw[←b,List.getD_eq_getElem?_getD,YO hl];rfl
   rw[this];exact .int _ _
theorem aK.three{c d e:I}{V U X:Value}(h:VR F w G c V)(b:VR F w G d U)(f:VR F w G e X):aK F w G [c,d,e] #[V,U,X]:=⟨rfl,λj c' g hc a=>by
  rcases j with _|_|_|j
  ·simp at hc a;subst hc;subst a;exact h
  ·simp at hc a;subst hc;subst a;exact b
  ·simp at hc a;subst hc;subst a;exact f
  ·simp at hc⟩
theorem QJ(b:ByteArray):VR F w G (.str b.data.toList) (.string b):=by
 have h:(⟨b.data.toList.toArray⟩:ByteArray)=b:=by cases b;simp
 have:=VR.str (F:=F) (w:=w) (G:=G) b.data.toList;rwa [h]at this
theorem QK:Dv=(Go.Lib.asciiSpaceTab.map (I.int .u8)):=by kernel_rfl
theorem Ak{P:Program}{a:String}{cs:Array Value}(b:P.globalNamed a=some g)(h:W.var? P a=some cs):∃cs' t fr,W.heap[g]?=some (.cells cs' t fr)∧cs'.size=cs.size:=by
 unfold World.var? at h;rw[b]at h;simp only[Option.bind_some]at h;split at h
 · rename_i cs' t fr heq;cases h;exact⟨_,_,_,heq,rfl⟩
 ·cases h
end Rb

namespace Rb
open Go Go.RowKit
variable{t:TypeId}{n m sz:Nat}{α β:Type}{v:Value}{ps:List MemPlace}
mutual
def jD:I→Nat
 | .str s=>s.length+1
 | .ak _ _ cs=>de cs+1
 |_=>1
def de:List I→Nat
 |[]=>0
 |x::r=>jD x+de r
end
theorem ma:∀a b:List I,de (a++b)=de a+de b
 |[],b=>by simp[de]
 |x::r,b=>by simp only[ZS,de,ma r b,Yg]
mutual
def dB{H:Type}:DataW H→Nat
 | .lit (.string bytes)=>bytes.length+1
 | .lit _=>1
 | .nil=>1
 | .ptr d=>dB d+1
 | .slice elems spare=>lu elems+lu spare+1
 | .agg parts=>lu parts+1
 | .iface _ d=>dB d+1
 | .map entries=>wg entries+1
 | .held _=>1
def lu{H:Type}:List (DataW H)→Nat
 |[]=>0
 |d::r=>dB d+lu r
def wg{H:Type}:List (Lit×DataW H)→Nat
 |[]=>0
 |x::r=>Hp x+wg r
def Hp{H:Type}:Lit×DataW H→Nat
 |(.string bytes,d)=>bytes.length+dB d+1
 |(_,d)=>dB d+1
end
theorem Hq{H:Type}{α:Type}{cells:α→List I}:∀(xs:List α)(ds:List (DataW H)),xs.length=ds.length→(∀(i:Nat)(x:α)(d:DataW H),xs[i]?=some x→ds[i]?=some d→de (cells x)≤dB d)→de (xs.flatMap cells)≤lu ds
 |[],ds,_,_=>by simp[de]
 |x::r,[],h,_=>by simp at h
 | x::r,d::ds,h,k=>by have b:=k 0 x d rfl rfl;have h1:=Hq r ds (by simpa using h) λi y e a he=>k (i+1) y e (by simpa using a) (by simpa using he);rw[abe,ma,lu];omega
section
variable{H:Type}{enc:TypeId×Value→H}{P:Program}{w:World}{sp:Nat→Bool}{held:Bool}{F:cz}
def Q(F:cz)(enc:TypeId×Value→H)(P:Program)(w:World)(sp:Nat→Bool)(held:Bool)(n:Nat)(t:TypeId){α:Type}(cells:α→List I)(a:α→Prop):Prop:=∀fuel,fuel≤n→∀cs d ps,abf enc P w 0 sp held fuel t cs=some (d,ps)→(∀m∈d.weights P t,m≤reachBytes)→∃x,a x∧aK F w (aH.mt (kA w)) (cells x) cs.toArray∧de (cells x)≤dB d
theorem Q.mono{cells:α→List I}{ok:α→Prop}(h:Q F enc P w sp held n t cells ok)(a:m≤n):Q F enc P w sp held m t cells ok:=λfuel hf cs d ps ht hw=>h fuel (xl hf a) cs d ps ht hw
theorem Q.zero{cells:α→List I}{ok:α→Prop}:Q F enc P w sp held 0 t cells ok:=by
 intro fuel hf cs d ps h _;obtain rfl:fuel=0:=by omega
 simp[abf]at h
theorem Q.int{k:IntKind}(ht:P.underlying t=some (.int k)):Q F enc P w sp held n t (λz:Int=>[.int k z]) (λz=>k.min≤z∧z≤k.max):=by intro fuel _ cs d ps h _;obtain⟨z,rfl,a,hw⟩:=DataW.trod_int ht h;obtain rfl:d=_:=congrArg abg a;exact⟨z,by simpa[Lit.wf]using hw,aK.one (.int _ _),by simp[de,jD,dB]⟩
theorem Q.bool(ht:P.underlying t=some .bool):Q F enc P w sp held n t (λz:Bool=>[.bool z]) (λ_=>True):=by intro fuel _ cs d ps h _;obtain⟨z,rfl,a⟩:=DataW.trod_bool ht h;obtain rfl:d=_:=congrArg abg a;exact⟨z,trivial,aK.one (.bool _),by simp[de,jD,dB]⟩
theorem Q.string(ht:P.underlying t=some .string):Q F enc P w sp held n t (λz:List UInt8=>[.str z]) (λz=>z.length≤140737488351232):=by intro fuel _ cs d ps h hw;obtain⟨s,rfl,a,hl⟩:=DataW.trod_string ht h;obtain rfl:d=_:=congrArg abg a;exact⟨s.data.toList,hw _ (by simp[abh]),aK.one (QJ s),by simp[de,jD,dB]⟩
theorem Hr{H:Type}{P:Program}{e:TypeId}:∀{ds:List (DataW H)}{j:Nat}{d:DataW H},ds[j]?=some d→∀n∈d.weights P e,n∈abi P e ds
 | d0::ds,0,d,a,n,hn=>by simp only[abj,Yb.injEq]at a;subst a;simp only[abi,aaa];exact .inl hn
 | d0::ds,j+1,d,a,n,hn=>by simp only[abk]at a;simp only[abi,aaa];exact .inr (Hr a n hn)
def au{α:Type}(cells:α→List I)(xs:List α):I:= .ak .dead xs.length (xs.flatMap cells)
theorem QL{p:Nat→α→Prop}:∀(n:Nat),(∀i,i<n→∃x,p i x)→∃xs:List α,xs.length=n∧∀i x,xs[i]?=some x→p i x:=by
 intro n;induction n with
 |zero=>intro _;exact⟨[],rfl,λi x h=>by simp at h⟩
 | succ n a=>
  intro h;obtain⟨xs,hl,b⟩:=a λi hi=>h i (by omega);obtain⟨y,c⟩:=h n (by omega);refine⟨xs++[y],by simp[hl],λi x hi=>?_⟩;by_cases d:i<n
  · rw[Zy (by omega)]at hi;exact b i x hi
  · rw [Zz (by omega)]at hi;have:i-xs.length=0:=by
     rcases abl (i-xs.length)with h|h
     ·exact h
     ·rw[List.getElem?_eq_none (by simp;omega)]at hi;cases hi
    rw[this]at hi;simp at hi;subst hi;have:i=n:=by omega
    rw[this];exact c
theorem QM{cells:α→List I}(hc:∀x,(cells x).length=sz):∀(xs:List α)(j:Nat)(c:I),(xs.flatMap cells)[j]?=some c→∃i k x,j=i*sz+k∧k<sz∧xs[i]?=some x∧(cells x)[k]?=some c:=by
 intro xs;induction xs with
 |nil=>intro j c h;simp at h
 | cons y g b=>
  intro j c h;rw[abe]at h;by_cases a:j<sz
  · rw[Zy (by rw[hc];exact a)]at h;exact⟨0,j,y,by omega,a,rfl,h⟩
  · rw[Zz (by rw[hc];omega),hc]at h;obtain⟨i,k,x,h1,d,e,f⟩:=b _ _ h;refine⟨i+1,k,x,?_,d,by simpa using e,f⟩;rw[Yu];omega
theorem Hs{b o m:Nat}:(Addr.mk b o none).add m=⟨b,o+m,none⟩:=by
 unfold abm;split
 ·rename_i h;subst h;rfl
 ·rfl
theorem Q.slice{t e:TypeId}{cells:α→List I}{u:α→Prop}(ht:P.underlying t=some (.slice e))(hs:P.cellsOf e=sz)(hz:0<sz)(hc:∀x,(cells x).length=sz)(h:Q F enc P w sp held n e cells u) :
  Q F enc P w sp held (n+1) t (λxs:List α=>[au cells xs]) (λxs=>xs.length≤maxLen∧∀x∈xs,u x):=by
 intro fuel hf cs d ps C D;rcases DataW.trod_slice ht C with⟨rfl,s⟩|⟨a,len,cap,elems,rest,m,rfl,rfl,s,_,hle,L,M,E,_⟩
 · obtain rfl:d=_:=congrArg abg s;exact⟨[],⟨Yt _,by simp⟩,aK.one (.e6 _ _),by simp[au,de,jD,dB]⟩
 · have each : ∀i,i<len→∃x,(u x∧∀l,(elems.map (·.1))[i]?=some l→de (cells x)≤dB l)∧∃ci,w.cells? 0 (a.add (i*sz)) sz=some ci∧aK F w (aH.mt (kA w)) (cells x) ci.toArray:=by
     intro i hi;have h1:=E i hi;rw[YO (by omega),hs]at h1;obtain⟨ci,g,v⟩:=Option.bind_eq_some_iff.1 h1;obtain ⟨x,p,hv,hb⟩:=h m (by omega) ci _ _ v (λq G=>D q (by obtain rfl:d=_:=congrArg abg s;simp only[abh,ht];refine List.mem_cons_of_mem _ (List.mem_append_left _ ?_);exact Hr (j:=i) (by rw[YN,YO (by omega)];rfl) q G))
     exact ⟨x,⟨p,λl y=>by rw[YN,YO (by omega)]at y;simp only[Yc,Yb.injEq]at y;rw[←y];exact hb⟩,ci,g,hv⟩
   obtain⟨xs,hl,p⟩:=QL len each;have hB:de [au cells xs]≤dB d:=by obtain rfl:d=_:=congrArg abg s;have:=Hq xs (elems.map (·.1)) (by simp;omega) λi x l h1 g=>(p i x h1).1.2 l g;simp only[au,de,jD,dB];omega
   refine⟨xs,⟨by omega,λx H=>?_⟩,aK.one ?_,hB⟩
   · obtain⟨i,hi,e⟩:=List.mem_iff_getElem.1 H;exact(p i x (by rw[YO hi,e])).1.1
   · rcases abl len with z|z
     · subst z;obtain rfl:=Zi.1 hl;exact .e6 _ _
     ·
       have B:a.spot=none:=by
        obtain⟨x,_,ci,g,_⟩:=each 0 z;obtain⟨_,v,A⟩:=abn g;have f:=A 0 hz;rw[YO (by omega),abo]at f;have e0:(a.add 0).add 0=a:=by simp[abm]
        rw[e0]at f;unfold abp at f;split at f
        · split at f
          ·cases f
          · rename_i hn;cases ha:a.spot with
            |none=>rfl
            |some _=>rw[ha]at hn;simp at hn
        ·cases f
       obtain⟨b,o,N⟩:=a;simp only at B;subst B;have key:∀(j:Nat)(c:I),(xs.flatMap cells)[j]?=some c→∃V,w.cell? ⟨b,o+j,none⟩=some V∧VR F w (aH.mt (kA w)) c V:=by intro j c r;obtain⟨i,k,x,rfl,hk,J,K⟩:=QM hc xs j c r;obtain⟨_,ci,g,hv⟩:=p i x J;obtain⟨_,v,A⟩:=abn g;have f:=A k hk;rw[Hs,Hs,YO (by omega)]at f;refine⟨ci[k],by rw[←Yg];exact f,hv.2 k c _ K (by simp[YO (show k<ci.length by omega)])⟩
       unfold au;rw[hl];refine .ak .dead len _ b o cap (λj=>(w.cell? ⟨b,o+j,none⟩).getD undef) trivial hle (λj c r=>?_) λj c r=>?_
       · obtain⟨V,h1,_⟩:=key j c r;exact⟨⟨V,h1⟩,by rw[h1];rfl⟩
       · obtain⟨V,h1,g⟩:=key j c r;rw[h1];exact g
def j6(P:Program):Nat→List (TypeId×Nat)→Bool
 |_,[]=>true
 |off,(t,o)::r=>o==off&&j6 P (off+P.cellsOf t) r
def iQ(P:Program):List (TypeId×Nat)→Nat
 |[]=>0
 |(t,_)::r=>P.cellsOf t+iQ P r
def cX(F:cz)(enc:TypeId×Value→H)(P:Program)(w:World)(sp:Nat→Bool)(held:Bool)(n:Nat)(L:List (TypeId×Nat)){α:Type}(cells:α→List I)(a:α→Prop):Prop:=
 ∀ m,m≤n→∀(off:Nat)(cs:List Value)(ds:List (DataW H)),j6 P off L=true→ds.length=L.length→(∀(i:Nat)(f:TypeId×Nat)(d:DataW H),L[i]?=some f→ds[i]?=some d→(∃ps,abf enc P w 0 sp held m f.1 ((cs.drop f.2).take (P.cellsOf f.1))=some (d,ps))∧∀q∈d.weights P f.1,q≤reachBytes) →
  ∃x,a x∧aK F w (aH.mt (kA w)) (cells x) ((cs.drop off).take (iQ P L)).toArray∧de (cells x)≤lu ds
theorem cX.nil:cX F enc P w sp held n [] (λ_:Unit=>[]) (λ_=>True):=by intro m _ off cs ds _ _ _;exact⟨(),trivial,by simp only[iQ,List.take_zero];exact aK.nil,Yt _⟩
theorem cX.cons{o:Nat}{L:List (TypeId×Nat)}{b:α→List I}{c:β→List I}{o1:α→Prop}{o2:β→Prop}(g:Q F enc P w sp held n t b o1)(h:cX F enc P w sp held n L c o2) :
  cX F enc P w sp held n ((t,o)::L) (λx:α×β=>b x.1++c x.2) (λx=>o1 x.1∧o2 x.2):=by
 intro m hm off cs ds a hlen hf;simp only[j6,X1,bG]at a;obtain⟨rfl,a⟩:=a
 match ds,hlen with
 |d::r,hlen=>
 obtain⟨⟨ps,j⟩,k⟩:=hf 0 (t,o) d rfl rfl;obtain⟨x,l,hv,hb⟩:=g m hm _ _ _ j k;obtain⟨y,p,q,s⟩:=h m hm _ cs r a (by simpa using hlen) λi f e hi he=>hf (i+1) f e (by simpa using hi) (by simpa using he);refine⟨(x,y),⟨l,p⟩,?_,by simp only[ma,lu];omega⟩;have e:((cs.drop o).take (iQ P ((t,o)::L)))=(cs.drop o).take (P.cellsOf t)++(cs.drop (o+P.cellsOf t)).take (iQ P L):=by simp only[iQ];rw[List.take_add,abq]
 rw[e];have:=hv.app q;simpa using this
theorem Q.struct{n:Nat}{fs:Array Field}(ht:P.underlying t=some (.struct fs)){L:List (TypeId×Nat)}(a:fs.toList.map (λf=>(f.type,f.offset))=L)(k:j6 P 0 L=true)(l:P.cellsOf t=iQ P L)
  {α:Type} {cells:α→List I} {ok:α→Prop} (h:cX F enc P w sp held n L cells ok):Q F enc P w sp held (n+1) t cells ok:=by
 intro fuel hf cs d ps o p;obtain⟨xs,m,rfl,b,hlen,r,s⟩:=DataW.trod_struct ht o;obtain ⟨x,u,hv,hb⟩:=h m (by omega) 0 cs (xs.map (·.1)) k (by rw[←a];simp[r]) λi f y hf c=>by rw[←a,YN]at hf;obtain⟨g,e,rfl⟩:=abr.1 hf;rw[YN]at c;obtain⟨z,hz,rfl⟩:=abr.1 c;have h1:=s i g (by rw[←Array.getElem?_toList];exact e);rw[hz]at h1;refine⟨⟨z.2,h1⟩,λq v=>p q ?_⟩;obtain rfl:d=_:=congrArg abg b;simp only[abh,ht];exact DataW.weights_mem_each (j:=i) (t:=g.type) (by rw[YN,e];rfl) (by rw[YN,hz];rfl) q v
 obtain rfl:d=_:=congrArg abg b;refine⟨x,u,?_,by simp only[dB];omega⟩;rw[abt,←l,←hlen,abu]at hv;exact hv
theorem Q.map{a:α→List I}{b:β→List I}{o1:α→Prop}{o2:β→Prop}(g:α→β)(hc:∀x,b (g x)=a x)(c:∀x,o1 x→o2 (g x))(h:Q F enc P w sp held n t a o1):Q F enc P w sp held n t b o2:=by intro fuel hf cs d ps e hw;obtain⟨x,f,hv,hb⟩:=h fuel hf cs d ps e hw;exact⟨g x,c x f,by rw[hc];exact hv,by rw[hc];exact hb⟩
theorem Q.Ht{cells:α→List I}{a:α→Prop}(h:∀n,Q F enc P w sp held n t cells a){d:DataW H}(b:abv enc P w 0 sp held t v d ps)(c:∀m∈d.weights P t,m≤reachBytes):∃x,a x∧aK F w (aH.mt (kA w)) (cells x) v.cells∧de (cells x)≤dB d:=by obtain⟨fuel,hf⟩:=b;obtain⟨x,e,hv,hb⟩:=h fuel fuel (sl _) _ _ _ hf c;exact⟨x,e,by simpa using hv,hb⟩
theorem Q.arg{cells:α→List I}{a:α→Prop}(h:∀n,Q F enc P w sp held n t cells a){d:DataW H}(b:abv enc P w 0 sp held t v d ps)(c:∀m∈d.weights P t,m≤reachBytes):∃x,a x∧aK F w (aH.mt (kA w)) (cells x) v.cells:=let ⟨x,e,hv,_⟩:=Q.Ht h b c;⟨x,e,hv⟩
end
end Rb

namespace Rb
open Go
mutual
structure U where
 kind:Int
 size:Int
 packed:Bool
 aE:List aw
 ba:Int
 aU:List U
structure aw where
 E:List UInt8
 type:U
 bits:Bool
 aM:Int
end
mutual
def U.cells:U→List I
 | .mk kind size packed aE ba aU=>[.int .i64 kind,.int .i64 size,.bool packed,.ak .dead aE.length (aw.all aE),.int .i64 ba,.ak .dead aU.length (U.all aU)]
def U.all:List U→List I
 |[]=>[]
 |x::r=>U.cells x++U.all r
def aw.cells:aw→List I
 | .mk E type bits aM=> .str E::(U.cells type++[.bool bits,.int .i64 aM])
def aw.all:List aw→List I
 |[]=>[]
 |x::r=>aw.cells x++aw.all r
end
theorem U.all_eq:∀xs:List U,U.all xs=xs.flatMap U.cells
 |[]=>rfl
 |x::r=>by rw[U.all,U.all_eq r,abe]
theorem aw.all_eq:∀xs:List aw,aw.all xs=xs.flatMap aw.cells
 |[]=>rfl
 |x::r=>by rw[aw.all,aw.all_eq r,abe]
theorem U.bF(x:U):x.cells=[.int .i64 x.kind,.int .i64 x.size,.bool x.packed,au aw.cells x.aE,.int .i64 x.ba,au U.cells x.aU]:=by cases x;simp only[U.cells,U.all_eq,aw.all_eq,au]
theorem aw.bF(x:aw):x.cells = .str x.E::(x.type.cells++[.bool x.bits,.int .i64 x.aM]):=by cases x;rfl
theorem U.len(x:U):x.cells.length=6:=by rw[U.bF];rfl
theorem aw.len(x:aw):x.cells.length=9:=by rw[aw.bF];simp[U.len]
def jE(z:Int):Prop:= -9223372036854775808≤z∧z≤9223372036854775807
mutual
def U.ok:U→Prop
 | .mk kind size packed aE ba aU=>jE kind∧jE size∧aE.length≤maxLen∧aw.dh aE∧jE ba∧aU.length≤maxLen∧U.dh aU
def U.dh:List U→Prop
 |[]=>True
 |x::r=>U.ok x∧U.dh r
def aw.ok:aw→Prop
 | .mk E type bits aM=>E.length≤140737488351232∧U.ok type∧jE aM
def aw.dh:List aw→Prop
 |[]=>True
 |x::r=>aw.ok x∧aw.dh r
end
theorem U.dZ:∀{xs:List U},U.dh xs↔∀x∈xs,x.ok
 |[]=>by simp[U.dh]
 |x::r=>by simp[U.dh,U.dZ (xs:=r)]
theorem aw.dZ:∀{xs:List aw},aw.dh xs↔∀x∈xs,x.ok
 |[]=>by simp[aw.dh]
 |x::r=>by simp[aw.dh,aw.dZ (xs:=r)]
section
variable{H:Type}{enc:TypeId×Value→H}{P:Program}{w:World}{sp:Nat→Bool}{held:Bool}{F:cz}
structure Hu(P:Program)(ti tb ts tT tF sT sF:TypeId)(fT fF:Array Field):Prop where
 int:P.underlying ti=some (.int .i64)
 bool:P.underlying tb=some .bool
 str:P.underlying ts=some .string
 QN:P.underlying tT=some (.struct fT)
 QO:P.underlying tF=some (.struct fF)
 QP:P.underlying sT=some (.slice tT)
 QQ:P.underlying sF=some (.slice tF)
 lT:fT.toList.map (λf=>(f.type,f.offset))=[(ti,0),(ti,1),(tb,2),(sF,3),(ti,4),(sT,5)]
 lF:fF.toList.map (λf=>(f.type,f.offset))=[(ts,0),(tT,1),(tb,7),(ti,8)]
 cT:P.cellsOf tT=6
 cF:P.cellsOf tF=9
 c1:∀t∈[ti,tb,ts,sT,sF],P.cellsOf t=1
theorem QR{ti tb ts tT tF sT sF:TypeId}{fT fF:Array Field}(h:Hu P ti tb ts tT tF sT sF fT fF):∀n,Q F enc P w sp held n tT U.cells U.ok:=by
 have c1:P.cellsOf ti=1:=h.c1 _ (by simp);have c2:P.cellsOf tb=1:=h.c1 _ (by simp);have c3:P.cellsOf ts=1:=h.c1 _ (by simp);have b:P.cellsOf sT=1:=h.c1 _ (by simp);have c5:P.cellsOf sF=1:=h.c1 _ (by simp);have int:∀n,Q F enc P w sp held n ti (λz:Int=>[.int .i64 z]) jE:=λn=>Q.map id (λ_=>rfl) (λx a=>by simp only[abw,abx,X8,X9,a_]at a;show -9223372036854775808≤x∧x≤9223372036854775807;omega) (Q.int h.int)
 intro n;induction n using Nat.strongRecOn with
 | _ n c=>
  cases n with
  |zero=>exact Q.zero
  | succ n=>
   have d:Q F enc P w sp held n tT U.cells U.ok:=c n (by omega);have e:Q F enc P w sp held n tF aw.cells aw.ok:=by
    cases n with
    |zero=>exact Q.zero
    | succ n=>
     refine Q.map (λ(x:List UInt8×U×Bool×Int×Unit)=>(⟨x.1,x.2.1,x.2.2.1,x.2.2.2.1⟩:aw)) (λx=>?_) (λx a=>?_)
      (Q.struct h.QO h.lF (by simp[j6,c1,c2,c3,h.cT]) (by simp[iQ,c1,c2,c3,h.cT,h.cF])
        (cX.cons (Q.string h.str) (cX.cons (c n (by omega)) (cX.cons (Q.bool h.bool) (cX.cons (int n) cX.nil)))))
     ·simp[aw.cells]
     ·exact⟨a.1,a.2.1,a.2.2.2.1⟩
   refine Q.map (λ(x:Int×Int×Bool×List aw×Int×List U×Unit)=>(⟨x.1,x.2.1,x.2.2.1,x.2.2.2.1,x.2.2.2.2.1,x.2.2.2.2.2.1⟩:U)) (λx=>?_) (λx a=>?_)
    (Q.struct h.QN h.lT (by simp[j6,c1,c2,b,c5]) (by simp[iQ,c1,c2,b,c5,h.cT])
      (cX.cons (int n) (cX.cons (int n) (cX.cons (Q.bool h.bool) (cX.cons (Q.mono (Q.slice h.QQ h.cF (by decide) aw.len e) (YB n)) (cX.cons (int n) (cX.cons (Q.mono (Q.slice h.QP h.cT (by decide) U.len d) (YB n)) cX.nil)))))))
   ·rw[U.bF];rfl
   · obtain⟨h1,f,_,⟨g,i⟩,j,⟨k,l⟩,_⟩:=a;exact⟨h1,f,g,aw.dZ.2 i,j,k,U.dZ.2 l⟩
end
end Rb

namespace Rb
open Go
variable{ti:TypeId}{n:Nat}
mutual
structure ax where
 kind:Int
 n:Int
 E:List UInt8
 op:Int
 aV:Int
 place:aN
 bq:List ax
structure aN where
 var:List UInt8
 aB:List K
structure K where
 field:List UInt8
 bc:List ax
end
mutual
def ax.cells:ax→List I
 | .mk kind n E op aV place bq=> .int .i64 kind :: .int .u64 n :: .str E :: .int .i64 op :: .int .i64 aV::(aN.cells place++[.ak .dead bq.length (ax.all bq)])
def ax.all:List ax→List I
 |[]=>[]
 |x::r=>ax.cells x++ax.all r
def aN.cells:aN→List I
 | .mk var aB=>[.str var,.ak .dead aB.length (K.all aB)]
def K.cells:K→List I
 | .mk field bc=>[.str field,.ak .dead bc.length (ax.all bc)]
def K.all:List K→List I
 |[]=>[]
 |x::r=>K.cells x++K.all r
end
theorem ax.all_eq:∀xs:List ax,ax.all xs=xs.flatMap ax.cells
 |[]=>rfl
 |x::r=>by rw[ax.all,ax.all_eq r,abe]
theorem K.all_eq:∀xs:List K,K.all xs=xs.flatMap K.cells
 |[]=>rfl
 |x::r=>by rw[K.all,K.all_eq r,abe]
theorem aN.bF(x:aN):x.cells=[.str x.var,au K.cells x.aB]:=by cases x;simp only[aN.cells,K.all_eq,au]
theorem K.bF(x:K):x.cells=[.str x.field,au ax.cells x.bc]:=by cases x;simp only[K.cells,ax.all_eq,au]
theorem ax.bF(x:ax):x.cells = .int .i64 x.kind :: .int .u64 x.n :: .str x.E :: .int .i64 x.op :: .int .i64 x.aV::(x.place.cells++[au ax.cells x.bq]):=by cases x;simp only[ax.cells,ax.all_eq,au]
theorem aN.len(x:aN):x.cells.length=2:=by rw[aN.bF];rfl
theorem K.len(x:K):x.cells.length=2:=by rw[K.bF];rfl
theorem ax.len(x:ax):x.cells.length=8:=by rw[ax.bF];simp[aN.len]
def mb(z:Int):Prop:=0≤z∧z≤18446744073709551615
mutual
def ax.ok:ax→Prop
 | .mk kind n E op aV place bq=>jE kind∧mb n∧E.length≤140737488351232∧jE op∧jE aV∧aN.ok place∧bq.length≤maxLen∧ax.dh bq
def ax.dh:List ax→Prop
 |[]=>True
 |x::r=>ax.ok x∧ax.dh r
def aN.ok:aN→Prop
 | .mk var aB=>var.length≤140737488351232∧aB.length≤maxLen∧K.dh aB
def K.ok:K→Prop
 | .mk field bc=>field.length≤140737488351232∧bc.length≤maxLen∧ax.dh bc
def K.dh:List K→Prop
 |[]=>True
 |x::r=>K.ok x∧K.dh r
end
theorem ax.dZ:∀{xs:List ax},ax.dh xs↔∀x∈xs,x.ok
 |[]=>by simp[ax.dh]
 |x::r=>by simp[ax.dh,ax.dZ (xs:=r)]
theorem K.dZ:∀{xs:List K},K.dh xs↔∀x∈xs,x.ok
 |[]=>by simp[K.dh]
 |x::r=>by simp[K.dh,K.dZ (xs:=r)]
structure B where
 E:List UInt8
 type:U
def B.cells(x:B):List I:= .str x.E::x.type.cells
theorem B.len(x:B):x.cells.length=7:=by simp[B.cells,U.len]
def B.ok(x:B):Prop:=x.E.length≤140737488351232∧x.type.ok
section
variable{H:Type}{enc:TypeId×Value→H}{P:Program}{w:World}{sp:Nat→Bool}{held:Bool}{F:cz}
theorem Q.i64(h:P.underlying ti=some (.int .i64)):Q F enc P w sp held n ti (λz:Int=>[.int .i64 z]) jE:=Q.map id (λ_=>rfl) (λx a=>by simp only[abw,abx,X8,X9,a_]at a;show -9223372036854775808≤x∧x≤9223372036854775807;omega) (Q.int h)
theorem Q.u64(h:P.underlying ti=some (.int .u64)):Q F enc P w sp held n ti (λz:Int=>[.int .u64 z]) mb:=Q.map id (λ_=>rfl) (λx a=>by simp[abw,abx,X8,X9]at a;show 0≤x∧x≤18446744073709551615;omega) (Q.int h)
structure Al(P:Program)(ti tu ts tE tL tR sE sR:TypeId)(fE fL fR:Array Field):Prop where
 int:P.underlying ti=some (.int .i64)
 u64:P.underlying tu=some (.int .u64)
 str:P.underlying ts=some .string
 exp:P.underlying tE=some (.struct fE)
 QS:P.underlying tL=some (.struct fL)
 par:P.underlying tR=some (.struct fR)
 Hv:P.underlying sE=some (.slice tE)
 QT:P.underlying sR=some (.slice tR)
 lE:fE.toList.map (λf=>(f.type,f.offset))=[(ti,0),(tu,1),(ts,2),(ti,3),(ti,4),(tL,5),(sE,7)]
 lL:fL.toList.map (λf=>(f.type,f.offset))=[(ts,0),(sR,1)]
 lR:fR.toList.map (λf=>(f.type,f.offset))=[(ts,0),(sE,1)]
 cE:P.cellsOf tE=8
 cL:P.cellsOf tL=2
 cR:P.cellsOf tR=2
 c1:∀t∈[ti,tu,ts,sE,sR],P.cellsOf t=1
theorem Hw{ti tu ts tE tL tR sE sR:TypeId}{fE fL fR:Array Field}(h:Al P ti tu ts tE tL tR sE sR fE fL fR) :
  ∀n,Q F enc P w sp held n tE ax.cells ax.ok∧Q F enc P w sp held n tL aN.cells aN.ok∧Q F enc P w sp held n tR K.cells K.ok:=by
 have c1:P.cellsOf ti=1:=h.c1 _ (by simp);have c2:P.cellsOf tu=1:=h.c1 _ (by simp);have c3:P.cellsOf ts=1:=h.c1 _ (by simp);have d:P.cellsOf sE=1:=h.c1 _ (by simp);have c5:P.cellsOf sR=1:=h.c1 _ (by simp);intro n;induction n with
 |zero=>exact⟨Q.zero,Q.zero,Q.zero⟩
 | succ n f=>
  obtain⟨g,i,j⟩:=f;have e:=Q.mono (Q.slice h.Hv h.cE (by decide) ax.len g) (YB n);have k:=Q.mono (Q.slice h.QT h.cR (by decide) K.len j) (YB n);refine⟨?_,?_,?_⟩
  · refine Q.map (λ(x:Int×Int×List UInt8×Int×Int×aN×List ax×Unit)=>(⟨x.1,x.2.1,x.2.2.1,x.2.2.2.1,x.2.2.2.2.1,x.2.2.2.2.2.1,x.2.2.2.2.2.2.1⟩:ax)) (λx=>?_) (λx a=>?_)
      (Q.struct h.exp h.lE (by simp[j6,c1,c2,c3,d,h.cL]) (by simp[iQ,c1,c2,c3,d,h.cL,h.cE])
        (cX.cons (Q.i64 h.int) (cX.cons (Q.u64 h.u64) (cX.cons (Q.string h.str) (cX.cons (Q.i64 h.int) (cX.cons (Q.i64 h.int) (cX.cons i (cX.cons e cX.nil))))))))
    ·rw[ax.bF];simp
    · obtain⟨h1,b,c,l,m,o,⟨p,q⟩,_⟩:=a;exact⟨h1,b,c,l,m,o,p,ax.dZ.2 q⟩
  · refine Q.map (λ(x:List UInt8×List K×Unit)=>(⟨x.1,x.2.1⟩:aN)) (λx=>?_) (λx a=>?_)
      (Q.struct h.QS h.lL (by simp[j6,c3,c5]) (by simp[iQ,c3,c5,h.cL]) (cX.cons (Q.string h.str) (cX.cons k cX.nil)))
    ·rw[aN.bF];rfl
    · obtain⟨h1,⟨b,c⟩,_⟩:=a;exact⟨h1,b,K.dZ.2 c⟩
  · refine Q.map (λ(x:List UInt8×List ax×Unit)=>(⟨x.1,x.2.1⟩:K)) (λx=>?_) (λx a=>?_)
      (Q.struct h.par h.lR (by simp[j6,c3,d]) (by simp[iQ,c3,d,h.cR]) (cX.cons (Q.string h.str) (cX.cons e cX.nil)))
    ·rw[K.bF];rfl
    · obtain⟨h1,⟨b,c⟩,_⟩:=a;exact⟨h1,b,ax.dZ.2 c⟩
end
end Rb

namespace Rb
open Go
structure ay where
 kind:Int
 X:Int
 E:List UInt8
 cg:List UInt8
 aV:Int
 place:aN
 bf:List ax
 bg:List ay
 bx:List ay
mutual
def ay.cells:ay→List I
 | .mk kind X E cg aV place bf bg bx=> .int .i64 kind :: .int .i64 X :: .str E :: .str cg :: .int .i64 aV::(aN.cells place++[au ax.cells bf,.ak .dead bg.length (ay.all bg),.ak .dead bx.length (ay.all bx)])
def ay.all:List ay→List I
 |[]=>[]
 |x::r=>ay.cells x++ay.all r
end
theorem ay.all_eq:∀xs:List ay,ay.all xs=xs.flatMap ay.cells
 |[]=>rfl
 |x::r=>by rw[ay.all,ay.all_eq r,abe]
theorem ay.bF(x:ay):x.cells = .int .i64 x.kind :: .int .i64 x.X :: .str x.E :: .str x.cg :: .int .i64 x.aV::(x.place.cells++[au ax.cells x.bf,au ay.cells x.bg,au ay.cells x.bx]):=by cases x;simp only[ay.cells,ay.all_eq,au]
theorem ay.len(x:ay):x.cells.length=10:=by rw[ay.bF];simp[aN.len]
mutual
def ay.ok:ay→Prop
 | .mk kind X E cg aV place bf bg bx=>jE kind∧jE X∧E.length≤140737488351232∧cg.length≤140737488351232∧jE aV∧aN.ok place∧bf.length≤maxLen∧ax.dh bf∧bg.length≤maxLen∧ay.dh bg∧bx.length≤maxLen∧ay.dh bx
def ay.dh:List ay→Prop
 |[]=>True
 |x::r=>ay.ok x∧ay.dh r
end
theorem ay.dZ:∀{xs:List ay},ay.dh xs↔∀x∈xs,x.ok
 |[]=>by simp[ay.dh]
 |x::r=>by simp[ay.dh,ay.dZ (xs:=r)]
structure cH where
 vars:List B
 dd:List (List ay)
def iR(l:List ay):List I:=[au ay.cells l]
def cH.cells(x:cH):List I:=[au B.cells x.vars,au iR x.dd]
def cH.ok(x:cH):Prop:=(x.vars.length≤maxLen∧∀v∈x.vars,v.ok)∧x.dd.length≤maxLen∧∀t∈x.dd,t.length≤maxLen∧∀s∈t,s.ok
section
variable{H:Type}{enc:TypeId×Value→H}{P:Program}{w:World}{sp:Nat→Bool}{held:Bool}{F:cz}
theorem QU{ts tT a:TypeId}{b:Array Field}(hs:P.underlying ts=some .string)(c:P.cellsOf ts=1)(cT:P.cellsOf tT=6)(hT:∀n,Q F enc P w sp held n tT U.cells U.ok)
  (e:P.underlying a=some (.struct b)) (g:b.toList.map (λf=>(f.type,f.offset))=[(ts,0),(tT,1)]) (h:P.cellsOf a=7):∀n,Q F enc P w sp held n a B.cells B.ok:=by
 intro n;refine Q.mono (n:=n+1) ?_ (YB n);refine Q.map (λ(x:List UInt8×U×Unit)=>(⟨x.1,x.2.1⟩:B)) (λx=>?_) (λx d=>?_)
  (Q.struct e g (by simp[j6,c]) (by simp[iQ,c,cT,h]) (cX.cons (Q.string hs) (cX.cons (hT n) cX.nil)))
 ·simp[B.cells]
 ·exact⟨d.1,d.2.1⟩
theorem QV{ti tu ts tE tL tR sE sR a b:TypeId}{fE fL fR c:Array Field}(h:Al P ti tu ts tE tL tR sE sR fE fL fR)(hS:P.underlying a=some (.struct c))(j:P.underlying b=some (.slice a))
  (k:c.toList.map (λf=>(f.type,f.offset))=[(ti,0),(ti,1),(ts,2),(ts,3),(ti,4),(tL,5),(sE,7),(b,8),(b,9)]) (d:P.cellsOf a=10) (e:P.cellsOf b=1) :
  ∀n,Q F enc P w sp held n a ay.cells ay.ok:=by
 have c1:P.cellsOf ti=1:=h.c1 _ (by simp);have c3:P.cellsOf ts=1:=h.c1 _ (by simp);have g:P.cellsOf sE=1:=h.c1 _ (by simp);intro n;induction n with
 |zero=>exact Q.zero
 | succ n l=>
  have m:=Q.mono (Q.slice h.Hv h.cE (by decide) ax.len (Hw (F:=F) (enc:=enc) (w:=w) (sp:=sp) (held:=held) h n).1) (YB n);have i:=Q.mono (Q.slice j d (by decide) ay.len l) (YB n);refine Q.map (λ(x:Int×Int×List UInt8×List UInt8×Int×aN×List ax×List ay×List ay×Unit)=>(⟨x.1,x.2.1,x.2.2.1,x.2.2.2.1,x.2.2.2.2.1,x.2.2.2.2.2.1,x.2.2.2.2.2.2.1,x.2.2.2.2.2.2.2.1,x.2.2.2.2.2.2.2.2.1⟩:ay)) (λx=>?_) (λx o=>?_)
   (Q.struct hS k (by simp[j6,c1,c3,g,e,h.cL]) (by simp[iQ,c1,c3,g,e,h.cL,d])
     (cX.cons (Q.i64 h.int) (cX.cons (Q.i64 h.int) (cX.cons (Q.string h.str) (cX.cons (Q.string h.str) (cX.cons (Q.i64 h.int) (cX.cons (Hw h n).2.1 (cX.cons m (cX.cons i (cX.cons i cX.nil))))))))))
  ·rw[ay.bF];simp
  · obtain⟨h1,p,q,r,s,t,⟨u,v⟩,⟨h9,y⟩,⟨z,A⟩,_⟩:=o;exact⟨h1,p,q,r,s,t,u,ax.dZ.2 v,h9,ay.dZ.2 y,z,ay.dZ.2 A⟩
theorem QW{d a e b c g:TypeId}{h:Array Field}(k:∀n,Q F enc P w sp held n d B.cells B.ok)(hS:∀n,Q F enc P w sp held n e ay.cells ay.ok)
  (l:P.underlying a=some (.slice d)) (m:P.underlying b=some (.slice e)) (o:P.underlying c=some (.slice b)) (p:P.cellsOf d=7) (q:P.cellsOf e=10) (r:P.cellsOf b=1) (i:P.cellsOf a=1) (s:P.cellsOf c=1)
  (t:P.underlying g=some (.struct h)) (u:h.toList.map (λf=>(f.type,f.offset))=[(a,0),(c,1)]) (v:P.cellsOf g=2):∀n,Q F enc P w sp held n g cH.cells cH.ok:=by
 intro n;refine Q.mono (n:=n+2+1) ?_ (by omega);have k1:Q F enc P w sp held (n+2) a (λxs:List B=>[au B.cells xs]) (λxs=>xs.length≤maxLen∧∀x∈xs,x.ok):=Q.slice l p (by decide) B.len (k (n+1));have k2:Q F enc P w sp held (n+1) b iR (λxs=>xs.length≤maxLen∧∀x∈xs,x.ok):=Q.slice m q (by decide) ay.len (hS n);have z:Q F enc P w sp held (n+2) c (λxs:List (List ay)=>[au iR xs]) (λxs=>xs.length≤maxLen∧∀x∈xs,x.length≤maxLen∧∀y∈x,y.ok):=Q.slice o r (by decide) (λ_=>rfl) k2;refine Q.map (λ(x:List B×List (List ay)×Unit)=>(⟨x.1,x.2.1⟩:cH)) (λx=>?_) (λx j=>?_)
  (Q.struct t u (by simp[j6,i]) (by simp[iQ,i,s,v]) (cX.cons k1 (cX.cons z cX.nil)))
 ·simp[cH.cells]
 ·exact⟨j.1,j.2.1⟩
end
end Rb

namespace Rb
open Go
@[simp] theorem T {α:Type} (a:α) (K:α→Prop):Do (some a) K↔K a:=⟨λ⟨b,h,k⟩=>by cases h;exact k,λh=>⟨a,rfl,h⟩⟩
@[simp] theorem aR (v:I) (H:Z) (K:ad):ar (some (v,H)) K↔K v H:=⟨λ⟨a,b,h,k⟩=>by cases h;exact k,λh=>⟨v,H,rfl,h⟩⟩
@[simp] theorem aD (b:Bool) (A B:Prop):Gd (.bool b) true A B↔if b=true then A else B:=aby
@[simp] theorem Xt (b:Bool) (A B:Prop):Gd (.bool b) false A B↔if b=false then A else B:=aby
@[simp] theorem aT (K:List I→Z→Prop) (st:List I) (H:Z):N K st H↔K st H:=aby
@[simp] theorem aF (a:I) (l:List I):G (a::l) 0=a:=rfl
@[simp] theorem c4 (a:I) (l:List I) (i:Nat):G (a::l) (i+1)=G l i:=rfl
section
variable(k:IntKind)(a b:Int)
@[simp] theorem b4:M .add (.int k a) (.int k b)=some (.int k (k.wrap (a+b))):=by simp[M,cc]
@[simp] theorem fO:M .sub (.int k a) (.int k b)=some (.int k (k.wrap (a-b))):=by simp[M,cc]
@[simp] theorem jF:M .mul (.int k a) (.int k b)=some (.int k (k.wrap (a*b))):=by simp[M,cc]
@[simp] theorem cI:M .eql (.int k a) (.int k b)=some (.bool (a==b)):=by simp[M,cc]
@[simp] theorem d_:M .neq (.int k a) (.int k b)=some (.bool (a != b)):=by simp[M,cc]
@[simp] theorem bD:M .lss (.int k a) (.int k b)=some (.bool (decide (a<b))):=by simp[M,cc]
@[simp] theorem j7:M .leq (.int k a) (.int k b)=some (.bool (decide (a≤b))):=by simp[M,cc]
@[simp] theorem ej:M .gtr (.int k a) (.int k b)=some (.bool (decide (a>b))):=by simp[M,cc]
@[simp] theorem gZ:M .geq (.int k a) (.int k b)=some (.bool (decide (a≥b))):=by simp[M,cc]
theorem wi(h:b≠0):M .rem (.int k a) (.int k b)=some (.int k (a.tmod b)):=by simp[M,cc,h]
theorem mc(h:b≠0):M .quo (.int k a) (.int k b)=some (.int k (k.wrap (a.tdiv b))):=by simp[M,cc,h]
@[simp] theorem QX:M .and (.int k a) (.int k b)=some (.int k (k.wrap (TH k.bits a &&& TH k.bits b).toNat)):=by simp[M,cc,kq]
@[simp] theorem Xu:M .or (.int k a) (.int k b)=some (.int k (k.wrap (TH k.bits a ||| TH k.bits b).toNat)):=by simp[M,cc,kq]
@[simp] theorem Xv:M .xor (.int k a) (.int k b)=some (.int k (k.wrap (TH k.bits a ^^^ TH k.bits b).toNat)):=by simp[M,cc,kq]
theorem Hx(k':IntKind)(h:0≤b):M .shl (.int k a) (.int k' b)=some (.int k (k.wrap (a*2^(min b.toNat k.bits)))):=by simp[M,cc,Int.not_lt.2 h]
@[simp] theorem j8 (k':IntKind):e7 k' (.int k a)=some (.int k' (k'.wrap a)):=rfl
@[simp] theorem QY (neg:Bool) (x y:Bool):kQ neg (.bool x) (.bool y)=some (.bool (if neg then !(x==y)else x==y)):=rfl
@[simp] theorem ec (x:Bool):cY .not (.bool x)=some (.bool !x):=rfl
end
@[simp] theorem Xw (tk:Tok) (n:Nat) (cs:List I):bp false (.ak tk n cs)=some (J n):=rfl
@[simp] theorem Xx (id o n sz:Nat):bp false (.row id o n sz)=some (J n):=rfl
@[simp] theorem QZ (s:List UInt8):bp true (.str s)=some (J s.length):=rfl
end Rb

namespace Rb
open Go
variable{id i:Nat}{x:bM}{n:Int}{cs:List I}
def Z.Ext(H H':Z):Prop:=H.n≤H'.n∧∀i,i<H.n→H'.o i=H.o i
theorem Z.Ext.refl(H:Z):Z.Ext H H:=⟨sl _,λ_ _=>rfl⟩
theorem Z.Ext.trans{a b c:Z}(h:Z.Ext a b)(k:Z.Ext b c):Z.Ext a c:=⟨xl h.1 k.1,λi hi=>(k.2 i (AH hi h.1)).trans (h.2 i hi)⟩
theorem Z.Ext.push(H:Z)(x:bM):Z.Ext H (H.push x):=⟨YB _,λi hi=>ab (YG hi)⟩
theorem Z.Ext.set{H H':Z}(h:Z.Ext H H')(hi:H.n≤i)(x:bM):Z.Ext H (H'.set i x):=⟨h.1,λj a=>by simp only[Z.set];rw[bw];exact h.2 j a⟩
@[simp] theorem Z.Xy (H:Z) (x:bM):(H.push x).n=H.n+1:=rfl
@[simp] theorem Z.Xz (H:Z) (i:Nat) (x:bM):(H.set i x).n=H.n:=rfl
theorem Z.p1(H:Z)(x:bM):(H.push x).o H.n=x:=aa rfl
theorem Z.Q0(H:Z)(x:bM)(h:i≠H.n):(H.push x).o i=H.o i:=ab h
theorem Z.Hy(H:Z)(i:Nat)(x:bM):(H.set i x).o i=x:=aa rfl
theorem Z.bZ(H:Z){i j:Nat}(x:bM)(h:j≠i):(H.set i x).o j=H.o j:=ab h
theorem wrap_i64(a : -9223372036854775808≤n)(b:n≤9223372036854775807):Y6 .i64 n=n:=by simp[Y6,X8,X9];omega
theorem wrap_u64(a:0≤n)(b:n<18446744073709551616):Y6 .u64 n=n:=by simp[Y6,X8,X9];omega
def hP(H0 H:Z)(sz:Nat)(x:I)(a:Nat)(cells:List I):Prop:=Z.Ext H0 H∧∃tk,x = .ak tk a cells∧cells.length=a*sz∧((tk = .nil∧a=0)∨∃t,tk = .own t∧H0.n≤t∧t<H.n∧H.o t = .tok (a*sz) sz)
theorem hP.nil(H:Z)(sz:Nat):hP H H sz aS 0 []:=⟨Z.Ext.refl H,.nil,rfl,by simp,.inl ⟨rfl,rfl⟩⟩
theorem hP.append{H0 H:Z}{sz c a m:Nat}{x y:I}{cells news:List I}{K:ad}(h:hP H0 H sz x a cells)(d:fi H sz y=some (m,news))(hn:news.length=m*sz)(hs:news.all I.scalar=true)(e:m≠0)
  (hb:(a+m)*c≤140737488355328) (hl:a+m≤9223372036854775807) (f:∀g H',hP H0 H' sz g (a+m) (cells++news)→K g H'):ar (cr H false sz c x y) K:=by
 obtain⟨b,tk,rfl,hc,i⟩:=h;have hlen:(cells++news).length=(a+m)*sz:=by simp[hc,hn,Yu]
 rcases i with⟨rfl,rfl⟩|⟨t,rfl,h1,k,j⟩
 · refine⟨.ak (.own H.n) (0+m) (cells++news),H.push (.tok ((0+m)*sz) sz),?_,f _ _ ⟨b.trans (Z.Ext.push _ _),_,rfl,hlen,.inr ⟨H.n,rfl,b.1,aaJ _,Z.p1 _ _⟩⟩⟩;simp only[cr,d,hs,not_true_eq_false,bR,ab e];rw[ab (by simp only[abz];exact⟨hc,hb,hl⟩)]
 · refine⟨.ak (.own H.n) (a+m) (cells++news),(H.set t .gone).push (.tok ((a+m)*sz) sz),?_,f _ _ ⟨(b.set h1 _).trans (Z.Ext.push _ _),_,rfl,hlen,.inr ⟨H.n,rfl,b.1,aaJ _,Z.p1 _ _⟩⟩⟩;simp only[cr,d,hs,not_true_eq_false,bR,ab e];rw[ab (by simp only[abz];exact⟨hc,hb,hl⟩)];simp[j]
def At(H:Z)(id:Nat)(x:bM):Prop:=id<H.n∧H.o id=x
theorem At.new(H:Z)(x:bM):At (H.push x) H.n x:=⟨aaJ _,Z.p1 H x⟩
theorem At.ext{H H':Z}(h:At H id x)(a:Z.Ext H H'):At H' id x:=⟨AH h.1 a.1,(a.2 id h.1).trans h.2⟩
theorem At.push{H:Z}(h:At H id x)(y:bM):At (H.push y) id x:=h.ext (Z.Ext.push H y)
theorem At.bZ{H:Z}(h:At H id x)(a:id≠i)(y:bM):At (H.set i y) id x:=⟨h.1,(Z.bZ H y a).trans h.2⟩
theorem At.set{H:Z}(h:At H id x)(y:bM):At (H.set id y) id y:=⟨h.1,Z.Hy H id y⟩
theorem At.ne{H:Z}{x y:bM}(h:At H id x)(k:At H i y)(a:x≠y):id≠i:=λe=>a (by rw[←h.2,←k.2,e])
theorem At.lv{H:Z}(h:At H id x):id≠H.n:=YG h.1
theorem At.load{H:Z}(h:At H id (.row cs))(n o:Nat)(agg:Bool):O H n agg (.ptr id o)=bU cs o n agg:=by simp[O,h.2]
theorem At.store{H:Z}(h:At H id (.row cs))(n o:Nat)(v:I):Y H n (.ptr id o) v=if v.known∧v.cells.length=n∧v.cells.all I.scalar∧o+n≤cs.length then some (H.set id (.row (setCells cs o v.cells)))else none:=by simp[Y,h.2]
theorem bH(a : -9223372036854775808≤n:=by omega)(b:n≤9223372036854775807:=by omega):Y6 .i64 n=n:=wrap_i64 a b
theorem wj(a:0≤n:=by omega)(b:n<18446744073709551616:=by omega):Y6 .u64 n=n:=wrap_u64 a b
end Rb

namespace Rb
open Go
variable{α:Type}{i:Nat}
@[simp] theorem cP (b:Bool) (A B C:Prop):aQ (.bool b) true A B C↔if b=true then A else B:=aby
@[simp] theorem cv (b:Bool) (A B C:Prop):aQ (.bool b) false A B C↔if b=false then A else B:=aby
@[simp] theorem XA (want:Bool) (A B C:Prop):aQ (.aq []) want A B C↔C:=aby
theorem aI{c:Prop}[Decidable c]{A B:Prop}(a:c→A)(b:¬c→B):if c then A else B:=by
 split
 ·exact a ‹_›
 ·exact b ‹_›
theorem er{xs:List α}(h:xs.drop i=[]):xs.length≤i:=by simpa using h
theorem ed{xs b:List α}{y:α}(h:xs.drop i=y::b):i<xs.length∧xs[i]?=some y∧xs.drop (i+1)=b:=by
 have c:i<xs.length:=by
  rcases Nat.lt_or_ge i xs.length with a|a
  ·exact a
  ·rw[List.drop_eq_nil_of_le a]at h;cases h
 refine⟨c,?_,?_⟩
 · have:=congrArg (λl=>l[0]?) h;simpa using this
 · have:=congrArg List.tail h;simpa using this
end Rb

namespace Rb
open Go
section
variable{α:Type}{cells:α→List I}{sz:Nat}
theorem nS(hc:∀x,(cells x).length=sz):∀(xs:List α)(i:Nat),(xs.flatMap cells).drop (i*sz)=(xs.drop i).flatMap cells:=by
 intro xs i;induction i generalizing xs with
 |zero=>simp
 | succ i a=>
  cases xs with
  |nil=>simp
  | cons x xs=>rw[abe,aaW,←a,show(i+1)*sz=(cells x).length+i*sz by rw[hc,Yu,abA,abB],←abq,List.drop_left]
theorem Q1(hc:∀x,(cells x).length=sz)(xs:List α):(xs.flatMap cells).length=xs.length*sz:=by
 induction xs with
 |nil=>simp
 |cons x xs a=>rw[abe,abC,a,hc,abD,Yu];omega
def dN(cells:α→List I)(sz:Nat)(xs:List α)(i:Nat):I:= .ae ((xs.flatMap cells).drop (i*sz))
theorem cQ{xs:List α}{i:Nat}(hi:i<xs.length):aP none sz (au cells xs) (J i)=some (dN cells sz xs i):=by simp only[au,aP];rw[aa ⟨by omega,by omega⟩];rfl
theorem dD(hc:∀x,(cells x).length=sz)(hz:0<sz)(H:Z){xs:List α}{i:Nat}{x:α}(a:xs[i]?=some x):O H sz true (dN cells sz xs i)=some (.agg (cells x)):=by
 have b:=(XV.1 a).1;have c:xs.drop i=x::xs.drop (i+1):=by rw[abE b];rw[YO b]at a;simp at a;rw[a]
 show bU ((xs.flatMap cells).drop (i*sz)) 0 sz true=_;rw[nS hc,c,abe];unfold bU;rw[aa (by rw[abC,hc];omega)];simp only[a_,abt];rw[abF (by rw[hc];omega),abG (by rw[hc];omega)]
def wm(sz:Nat)(Φ:ai)(a0:I)(a1:I)(d:I)(Q:ad):(List I×Z)→((List I×Z)→Prop)→Prop:=λs2 e=>
 Do (M .lss (G s2.1 0) d) λf=>
 Gd f true (
 Do (aP none sz a0 (G s2.1 0)) λg=>
 Do (O s2.2 sz true g) λh=>
 ∃a b,a1 = .fn a b∧Φ (iG a) (iH a [h] b) s2.2 λi c=>
 Gd i true (
 Q (G s2.1 0) c) (
 Do (M .add (G s2.1 0) (J 1)) λj=>
 e ([j],c))) (
 Q (J (-1)) s2.2)
def rQ(sz:Nat)(Φ:ai)(a0:I)(a1:I)(H:Z)(Q:ad):Prop:=
 Do (bp false a0) λa=>
 aC (wm sz Φ a0 a1 a Q) ([D],H)
def ga:Option Nat→Int
 |some i=>i
 |none=> -1
theorem Am{Φ:ai}(hc:∀x,(cells x).length=sz)(hz:0<sz){p:α→Bool}{key:Nat}{bE:List I}{xs:List α}{H:Z}(hf:∀x∈xs,∀(R:ad),R (.bool (p x)) H→Φ key ([.agg (cells x)]++bE) H R)(hl:xs.length≤9223372036854775807){Q:ad}
  (hQ:Q (J (ga (xs.findIdx? p))) H) (c:fS key=none:=by first|assumption|rfl):rQ sz Φ (au cells xs) (.fn key bE) H Q:=by
 unfold rQ;have hlen:bp false (au cells xs)=some (J xs.length):=rfl;rw[hlen];simp only[T];have main:∀(a:List α)(i:Nat),xs.drop i=a→Q (J (ga ((a.findIdx? p).map (·+ i)))) H→aC (wm sz Φ (au cells xs) (.fn key bE) (J xs.length) Q) ([J i],H):=by
  intro a;induction a with
  | nil=>intro i hi b;have hle:=er hi;refine aC.step ?_;simp only[wm,aF,bD,T,aD];rw[ee];simpa[ga]using b
  | cons y a e=>
   intro i hi b;obtain⟨f,d,g⟩:=ed hi;refine aC.step ?_;simp only[wm,aF,bD,T,aD];rw[dW,cQ f];simp only[T];rw[dD hc hz H d];simp only[T];refine⟨key,bE,rfl,?_⟩;rw[qD c,qE c];refine hf y (aaH d) _ ?_;simp only[aD];rw[abH]at b;by_cases he:p y=true
   · rw[aa he];rw[aa he]at b;simpa[ga]using b
   · rw [ab he];rw[ab he]at b;simp only[b4,T];rw[bH,iS i];refine e (i+1) g ?_;have:(abI p a).map (·+ (i+1))=((abI p a).map (·+ 1)).map (·+ i):=by
      rw[Option.map_map];congr 1;funext k;simp only[Function.comp];omega
     rw[this];exact b
 refine main xs 0 rfl ?_;simpa using hQ
end
end Rb

namespace Rb
open Go
theorem me(a b:List I):I.bA (a++b)=(I.bA a&&I.bA b):=by rw[q3,q3,q3,abJ]
mutual
theorem U.bb:∀x:U,I.bA x.cells=true
 | .mk kind size packed aE ba aU=>by simp only[U.cells,I.bA,I.bb,Tok.free,aw.ik aE,U.ik aU,aaU]
theorem U.ik:∀xs:List U,I.bA (U.all xs)=true
 |[]=>rfl
 |x::r=>by rw[U.all,me,U.bb x,U.ik r];rfl
theorem aw.bb:∀x:aw,I.bA x.cells=true
 | .mk E type bits aM=>by simp only[aw.cells,I.bA,I.bb,me,U.bb type,aaU]
theorem aw.ik:∀xs:List aw,I.bA (aw.all xs)=true
 |[]=>rfl
 |x::r=>by rw[aw.all,me,aw.bb x,aw.ik r];rfl
end
mutual
theorem ax.bb:∀x:ax,I.bA x.cells=true
 | .mk kind n E op aV place bq=>by simp only[ax.cells,I.bA,I.bb,me,Tok.free,aN.bb place,ax.ik bq,aaU]
theorem ax.ik:∀xs:List ax,I.bA (ax.all xs)=true
 |[]=>rfl
 |x::r=>by rw[ax.all,me,ax.bb x,ax.ik r];rfl
theorem aN.bb:∀x:aN,I.bA x.cells=true
 | .mk var aB=>by simp only[aN.cells,I.bA,I.bb,Tok.free,K.ik aB,aaU]
theorem K.bb:∀x:K,I.bA x.cells=true
 | .mk field bc=>by simp only[K.cells,I.bA,I.bb,Tok.free,ax.ik bc,aaU]
theorem K.ik:∀xs:List K,I.bA (K.all xs)=true
 |[]=>rfl
 |x::r=>by rw[K.all,me,K.bb x,K.ik r];rfl
end
theorem j_{α:Type}{cells:α→List I}(h:∀x,I.bA (cells x)=true)(xs:List α):(au cells xs).bb=true:=by
 have:I.bA (xs.flatMap cells)=true:=by
  induction xs with
  |nil=>rfl
  |cons x xs a=>rw[abe,me,h,a];rfl
 simp only[au,I.bb,Tok.free,this,aaU]
theorem B.bb(x:B):I.bA x.cells=true:=by simp only[B.cells,I.bA,I.bb,U.bb,aaU]
mutual
theorem ay.bb:∀x:ay,I.bA x.cells=true
 | .mk kind X E cg aV place bf bg bx=>by simp only[ay.cells,I.bA,I.bb,me,Tok.free,aN.bb place,j_ ax.bb bf,ay.ik bg,ay.ik bx,aaU]
theorem ay.ik:∀xs:List ay,I.bA (ay.all xs)=true
 |[]=>rfl
 |x::r=>by rw[ay.all,me,ay.bb x,ay.ik r];rfl
end
theorem Q2(l:List ay):I.bA (iR l)=true:=by simp only[iR,I.bA,j_ ay.bb,aaU]
theorem cH.bb(x:cH):I.bA x.cells=true:=by simp only[cH.cells,I.bA,j_ B.bb,j_ Q2,aaU]
end Rb

namespace Rb
open Go
@[simp] theorem Z.Hz (H:Z) (x y:bM):(H.push x).set H.n y=H.push y:=by simp only[Z.push,Z.set];congr 1;funext j;split<;>rfl
@[simp] theorem eL (H:Z) (cs:List I) (n o:Nat) (agg:Bool):O (H.push (.row cs)) n agg (.ptr H.n o)=bU cs o n agg:=by simp[O,Z.p1]
theorem Q3(H:Z)(cs:List I)(n o:Nat)(v:I)(a:v.known=true)(b:v.cells.length=n)(c:v.cells.all I.scalar=true)(d:o+n≤cs.length):Y (H.push (.row cs)) n (.ptr H.n o) v=some (H.push (.row (setCells cs o v.cells))):=by rw[(At.new H (.row cs)).store,aa ⟨a,b,c,d⟩,Z.Hz]
theorem An{xs a:List I}:∀{k:Nat},k+a.length=xs.length→setCells xs k a=xs.take k++a:=by
 induction a generalizing xs with
 |nil=>intro k h;simp only[setCells];rw[abK,abG (by simp at h;omega)]
 | cons y a b=>
  intro k h;simp only[setCells];rw[b (by simp at h ⊢;omega)];have hk:k<xs.length:=by simp at h;omega
  rw[abL,List.getElem?_set_self hk,List.take_set_of_le (by omega)];simp
theorem cS(H:Z)(a cs:List I)(n:Nat)(b:cs.length=n)(c:cs.all I.scalar=true)(d:a.length=n):Y (H.push (.row a)) n (.ptr H.n 0) (.agg cs)=some (H.push (.row cs)):=by rw[Q3 H a n 0 (.agg cs) rfl b c (by omega)];congr 3;show setCells a 0 cs=cs;rw[An (by omega)];rfl
theorem p2{a b:List I}{n:Nat}(h:a.length=n):bU (a++b) 0 n true=some (.agg a):=by unfold bU;rw[aa (by rw[abC];omega)];simp only[a_,abt];rw[abF (by omega),abG (by omega)]
theorem gL{a:List I}{n:Nat}(h:a.length=n):bU a 0 n true=some (.agg a):=by have:=p2 (a:=a) (b:=[]) h;rwa [abK]at this
theorem Q4{cs:List I}{o n:Nat}{agg:Bool}(h:o≤cs.length):bU cs o n agg=bU (cs.drop o) 0 n agg:=by
 by_cases hl:o+n≤cs.length
 · have a:0+n≤(cs.drop o).length:=by rw[abM];omega
   unfold bU;simp only[hl,a,a_];cases agg<;>simp
 · have a:¬0+n≤(cs.drop o).length:=by rw[abM];omega
   unfold bU;simp only[hl,a,bR]
mutual
theorem U.scalar:∀x:U,x.cells.all I.scalar=true
 | .mk kind size packed aE ba aU=>by simp[U.cells,I.scalar]
theorem aw.scalar:∀x:aw,x.cells.all I.scalar=true
 | .mk E type bits aM=>by simp only[aw.cells,aaG,abJ,U.scalar type];rfl
end
theorem aN.scalar(x:aN):x.cells.all I.scalar=true:=by rw[aN.bF];rfl
theorem K.scalar(x:K):x.cells.all I.scalar=true:=by rw[K.bF];rfl
theorem ax.scalar(x:ax):x.cells.all I.scalar=true:=by rw[ax.bF];simp only[aaG,abJ,aN.scalar];rfl
theorem ay.scalar(x:ay):x.cells.all I.scalar=true:=by rw[ay.bF];simp only[aaG,abJ,aN.scalar];rfl
theorem B.scalar(x:B):x.cells.all I.scalar=true:=by simp only[B.cells,aaG,U.scalar];rfl
end Rb

namespace Rb
open Go
def i1(k:IntKind)(z:Int):List I:=[.int k z]
section
variable{α:Type}{c:α→I}
theorem wo(H:Z){xs:List α}{i:Nat}{x:α}(a:xs[i]?=some x):O H 1 false (dN (λx=>[c x]) 1 xs i)=some (c x):=by
 have b:=(XV.1 a).1;have d:xs.drop i=x::xs.drop (i+1):=by rw[abE b];rw[YO b]at a;simp at a;rw[a]
 show bU ((xs.flatMap λx=>[c x]).drop (i*1)) 0 1 false=_;rw[nS (sz:=1) (λ_=>rfl),d,abe];rfl
end
theorem cU{α:Type}(cells:α→List I)(xs:List α):bp false (au cells xs)=some (J xs.length):=rfl
end Rb

namespace Rb
open Go Go.RowKit
variable{w w':World}{G:aH}{F:cz}{H:Z}
theorem wq{b o:Nat}{V:Value}(h:w.cell? ⟨b,o,none⟩=some V):b<w.heap.size:=by
 unfold abp at h;split at h
 · rename_i hb;exact(YF.1 hb).1
 ·cases h
theorem Ao(hb:Below w.heap.size w w'):GLe w G w' G:=⟨sl _,λ_ _=>rfl,λ_ _=>rfl,λ_ _ h=>h,λb o V _ hc=>by rw[hb.cell (p:=⟨b,o,none⟩) (wq hc)];exact hc⟩
theorem Q5(hb:Below w.heap.size w w'){i:Nat}{x:bM}(h:eY F w G i x):eY F w' G i x:=by
 have g:=Ao (G:=G) hb;cases x with
 | row cs=>obtain⟨c,e,h1,a,d,f⟩:=h;refine⟨c,e,by rw[hb.block _ (YF.1 h1).1];exact h1,a,d,λj c l=>?_⟩;obtain⟨V,n,o⟩:=f j c l;exact⟨V,n,o.mono g⟩
 | tok k sz=>obtain⟨c,e,h1,a,d,f⟩:=h;exact⟨c,e,by rw[hb.block _ (YF.1 h1).1];exact h1,a,d,f⟩
 | map es=>obtain⟨c,e,h1,a,d,f⟩:=h;refine⟨c,e,by rw[hb.block _ (YF.1 h1).1];exact h1,a,d,λj k v l=>?_⟩;obtain⟨m,n,o,p⟩:=f j k v l;exact⟨m,n,o.mono g,p.mono g⟩
 | fU s pos=>obtain⟨h1,a⟩:=h;exact⟨by rw[hb.block _ (YF.1 h1).1];exact h1,a⟩
 | h4 T u b=>obtain⟨v,h1,a⟩:=h;exact⟨v,by rw[hb.block _ (YF.1 h1).1];exact h1,a⟩
 | kn U bs=>obtain⟨c,z,h1,a⟩:=h;exact⟨c,z,by rw[hb.block _ (YF.1 h1).1];exact h1,a⟩
 |gone=>trivial
theorem Q6(hb:Below w.heap.size w w')(h:Rel F w G H):Rel F w' G H:=
 ⟨h.n,h.over,λi=>Q5 hb (h.obj i),h.eZ,λb o hf=>by obtain⟨V,a⟩:=h.ea b o hf;exact⟨V,by rw[hb.cell (p:=⟨b,o,none⟩) (wq a)];exact a⟩⟩
theorem Q7(hb:Below w.heap.size w w')(a:w.drawn≤w'.drawn)(h:Rel F w G H):Step w G H w' G H:=
 { Ao hb with
   size:=hb.size
   os:=hb.os
   tape:=hb.tape
   output:=hb.output
   dr:=a
   c9:=λk hk _=>hb.block k hk
   owned:=λi hl _=>⟨i,hl,rfl⟩
   ez:=λ_ _ hf=> .inl hf}
end Rb

namespace Rb
open Go
def av(p:Int×Int):List I:=[J p.1,J p.2]
def ef(l:List (Int×Int)):List (Int×Int):=l.mergeSort λx y=>!decide (y.1<x.1∨(y.1=x.1∧y.2<x.2))
theorem nT(l:List (Int×Int)):(ef l).length=l.length:=List.length_mergeSort _
end Rb

namespace Rb
open Go
variable{n b0 b1 b2 b3 i:Nat}{s:List UInt8}{c:UInt8}
def bB(Φ:ai)(k:Nat)(args:List I)(v:I):Prop:=∀(H:Z)(Q:ad),Q v H→Φ k args H Q
theorem bB.of{C:Ctx}(aj:bN C){k:Nat}{args:List I}{v:I}(ha:I.bA args=true)(hv:v.bb=true)(h:∀Q:ad,(∀H',Q v H')→af C k args Z.mt Q):bB (af C) k args v:=λH Q hQ=>af.DL (Q:=λu _=>u=v) aj (h _ λ_=>rfl) ha H Q λu _ hu=>by subst hu;exact⟨hv,hQ⟩
def isLet(c:UInt8):Bool:=decide (97≤c.toNat)&&decide (c.toNat≤122)
def Ap(c:UInt8):Bool:=decide (48≤c.toNat)&&decide (c.toNat≤57)
def mf(c:UInt8):Bool:=isLet c||Ap c||decide (c.toNat=95)
def fk:List UInt8→Bool
 |[]=>false
 |c::r=>decide (r.length<16)&&isLet c&&r.all mf
theorem Q8(h:b0<128):abN n b0 b1 b2 b3=(b0,1):=by unfold abN;rw[aa h]
theorem Q9(h:¬b0<128):128≤(abN n b0 b1 b2 b3).1:=by
 unfold abN;rw[ab h]
 repeat' split
 all_goals (dsimp only;omega)
theorem HA(hc:s[i]?=some c)(h:c.toNat<128):XU ⟨s.toArray⟩ i=(c.toNat,1):=by
 have e:(X4 s.toArray).get! i=c:=by show s.toArray[i]! = c;have hi:=(XV.1 hc).1;rw[getElem!_pos s.toArray i (by simpa using hi)];simp[YO hi]at hc;simpa using hc
 rw[abO,e,Q8 h]
theorem Q_(hc:s[i]?=some c)(h:¬c.toNat<128):128≤(XU ⟨s.toArray⟩ i).1:=by
 have e:(X4 s.toArray).get! i=c:=by show s.toArray[i]! = c;have hi:=(XV.1 hc).1;rw[getElem!_pos s.toArray i (by simpa using hi)];simp[YO hi]at hc;simpa using hc
 rw[abO,e];exact Q9 h
def fm(n a:Int):Bool:=(n==1||n==2||n==4||n==8||n==16)&&decide (n≤a)
def il(kind b:Int)(packed:Bool)(c:Nat)(ba:Int)(a:Nat):Bool:=
 if kind=1∨kind=2 then !packed&&c==0&&ba==0&&a==0
 else if kind=3∨kind=4 then b==0&&ba==0&&a==0
 else if kind=5 then b==0&&!packed&&c==0&&a==1
 else false
mutual
def c8:U→Int
 | .mk kind size packed aE ba aU=>
  if il kind size packed aE.length ba aU.length=false then 8
  else if kind=1 then(if fm size 8 then 0 else 9)
  else if kind=2 then(if fm size 16 then 0 else 9)
  else if kind=5 then(if ba<1∨65536<ba then 9 else HB aU)
  else if aE.length<1∨32<aE.length then 12
  else fo packed [] aE
def HB:List U→Int
 |[]=>0
 |t::_=>c8 t
def gb(packed:Bool)(seen:List (List UInt8)):aw→Int
 | .mk E type bits aM=>
  if fk E=false∧(E≠[]∨bits=false)then 6
  else if E≠[]∧seen.contains E=true then 7
  else if c8 type≠0 then c8 type
  else if(bits=false∧aM≠0)∨(bits=true∧(type.kind≠1∨packed=true))then 8
  else if bits=true∧(aM<0∨8*type.size<aM∨(aM=0∧E≠[]))then 9
  else 0
def fo(packed:Bool)(seen:List (List UInt8)):List aw→Int
 |[]=>0
 |f::r=>if gb packed seen f≠0 then gb packed seen f else fo packed (seen++[f.E]) r
end
mutual
def dG(a:Nat):U→Int
 | .mk kind size packed aE ba aU=>if 1<a then max (fb (a-1) aE) (eT (a-1) aU)+1 else 1
def nU(a:Nat):aw→Int
 | .mk E type bits aM=>dG a type
def fb(a:Nat):List aw→Int
 |[]=>0
 |f::r=>max (nU a f) (fb a r)
def eT(a:Nat):List U→Int
 |[]=>0
 |t::r=>max (dG a t) (eT a r)
end
def eg(t:U):Int:=if 64<dG 65 t then 5 else c8 t
theorem U.ind{P:U→Prop}(h:∀t:U,(∀f∈t.aE,P f.type)→(∀e∈t.aU,P e)→P t):∀t,P t:=by
 have main:∀(n:Nat)(t:U),sizeOf t<n→P t:=by
  intro n;induction n with
  |zero=>intro t ht;omega
  | succ n a=>
   intro t ht;refine h t (λf hf=>a _ ?_) λe he=>a _ ?_
   · cases t with
     | mk kind size packed aE ba aU=>
      have:=abP hf;cases f with
      |mk E type bits aM=>simp at this ht ⊢;omega
   · cases t with
     | mk kind size packed aE ba aU=>have:=abP he;simp at this ht ⊢;omega
 exact λt=>main _ t (aaJ _)
end Rb

namespace Rb
open Go
variable{n:Int}{s:List UInt8}{id pos:Nat}
theorem gC(t:U)(H:Z):aO H false 6 (.agg t.cells)=some (.ae t.cells,H):=by unfold aO;rw[aa ⟨rfl,t.len⟩];rfl
theorem dX(t:U)(i:Nat):W i (.ae t.cells)=some (.ae (t.cells.drop i)):=rfl
theorem kB(t:U)(H:Z):O H 1 false (.ae (t.cells.drop 0))=some (J t.kind):=by rw[U.bF];rfl
theorem p3(t:U)(H:Z):O H 1 false (.ae (t.cells.drop 1))=some (J t.size):=by rw[U.bF];rfl
theorem wt(t:U)(H:Z):O H 1 false (.ae (t.cells.drop 2))=some (.bool t.packed):=by rw[U.bF];rfl
theorem kC(t:U)(H:Z):O H 1 false (.ae (t.cells.drop 3))=some (au aw.cells t.aE):=by rw[U.bF];rfl
theorem rR(t:U)(H:Z):O H 1 false (.ae (t.cells.drop 4))=some (J t.ba):=by rw[U.bF];rfl
theorem ly(t:U)(H:Z):O H 1 false (.ae (t.cells.drop 5))=some (au U.cells t.aU):=by rw[U.bF];rfl
theorem iT(t:U)(H:Z):O H 6 true (.ae t.cells)=some (.agg t.cells):=gL t.len
theorem p4(f:aw):bU f.cells 0 1 false=some (.str f.E):=by cases f with|mk n t b w=>cases t;rfl
theorem Aq(f:aw):bU f.cells 7 1 false=some (.bool f.bits):=by cases f with|mk n t b w=>cases t;rfl
theorem HC(f:aw):bU f.cells 8 1 false=some (J f.aM):=by cases f with|mk n t b w=>cases t;rfl
theorem wu(f:aw):bU f.cells 1 6 true=some (.agg f.type.cells):=by cases f with|mk n t b w=>cases t;rfl
theorem HD(f:aw):bU f.cells 1 1 false=some (J f.type.kind):=by cases f with|mk n t b w=>cases t;rfl
theorem Ra(f:aw):bU f.cells 2 1 false=some (J f.type.size):=by cases f with|mk n t b w=>cases t;rfl
theorem wrap_i32(a : -2147483648≤n)(b:n≤2147483647):Y6 .i32 n=n:=by simp[Y6,X8,X9];omega
theorem iU(s t:List UInt8):M .eql (.str s) (.str t)=some (.bool (s==t)):=rfl
theorem rS(s t:List UInt8):M .neq (.str s) (.str t)=some (.bool (!(s==t))):=rfl
theorem Ar(a b:Int):fy true [J a,J b]=some (J (max a b)):=by simp only[fy,nk,qv,a_];congr 2;show(if a<b then b else a)=max a b;omega
def mP(n:Int):Bool:=(decide (97≤n)&&decide (n≤122))||(decide (48≤n)&&decide (n≤57))||decide (n=95)
theorem HE(c:UInt8):mP (c.toNat:Int)=mf c:=by rw[aaf];simp[mP,mf,isLet,Ap];omega
theorem Rc(h:128≤n):mP n=false:=by rw[aau];simp[mP];omega
theorem Re{c:UInt8}(h:¬c.toNat<128):mf c=false:=by rw[aau];simp[mf,isLet,Ap];omega
theorem Rf(c:UInt8):(decide (97≤(c.toNat:Int))&&decide ((c.toNat:Int)≤122))=isLet c:=by rw[aaf];simp[isLet];omega
section
variable{Φ:ai}{H:Z}{Q:ad}
theorem HF(hQ:Q (.bool (decide (97≤n)&&decide (n≤122))) H):S.f137 Φ (.int .i32 n) H Q:=by
 simp only[S.f137,gZ,j7,T,cP];apply aI<;>intro h
 · simp only[ge_iff_le,dU]at h;simpa[h]using hQ
 · simp only[ge_iff_le,dU]at h;simpa[h]using hQ
theorem Rg(h:At H id (.fU s pos))(hp:pos<s.length):kR H (.ptr id 0)=some (.aq [br,J pos,.int .i32 (XU ⟨s.toArray⟩ pos).1],H.set id (.fU s (pos+(XU ⟨s.toArray⟩ pos).2))):=by simp[kR,h.2,hp]
theorem Rh(h:At H id (.fU s pos))(hp:s.length≤pos):kR H (.ptr id 0)=some (.aq [P],H):=by simp[kR,h.2,Nat.not_lt.2 hp]
theorem Ri{L:(List I×Z)→Prop}(hT:Cl Φ S.bu)(c:mP n=false→Q P H)(d:mP n=true→L ([],H)) :
  Φ 137 [.int .i32 n] H λe a=>
   Do (cY .not e) λf=>
   aQ f true (
   Do (M .neq (.int .i32 n) (.int .i32 95)) λg=>
   N (S.rF Φ (.int .i32 n) L Q) [g] a) (
   N (S.rF Φ (.int .i32 n) L Q) [P] a) (
   False):=by
 refine S.Hm hT (HF ?_);have k1:∀b:Bool,b=!mP n→N (S.pP Φ L Q) [.bool b] H:=by
  intro b hb;simp only[aT,S.pP,aF,aD];apply aI<;>intro h
  ·exact c (by rw[h]at hb;simpa using hb.symm)
  ·exact d (by simp only[abQ]at h;rw[h]at hb;simpa using hb.symm)
 simp only[ec,T,cP,d_,aT,S.rF,aF,bD,ej,cv,ZP,bR]at k1 ⊢;generalize S.pP Φ L Q=i at k1 ⊢
 repeat' (apply aI<;>intro h)
 all_goals (refine k1 _ ?_;simp only[Z4,Bool.and_eq_false_imp,dU,decide_eq_false_iff_not,bne_iff_ne,ne_eq,abQ,abR]at *;rw[aaf];simp[mP];omega)
theorem Rj(hT:Cl Φ S.bu)(hQ:∀H',Q (.bool (fk s)) H'):S.f95 Φ (.str s) H Q:=by
 have main:∀(a:List UInt8)(pos id:Nat)(H:Z),s.drop pos=a→At H id (.fU s pos)→(∀H',Q (.bool (a.all mf)) H')→aC (S.vd Φ (.ptr id 0) Q) ([],H):=by
  intro a;induction a with
  | nil=>intro pos id H i g d;have hle:=er i;refine aC.step ?_;simp only[S.vd];rw[Rh g hle];simp only[aR,bj,abj,T,aD,ZP,bR];simpa using d H
  | cons y a l=>
   intro pos id H i g d;obtain⟨m,j,o⟩:=ed i;refine aC.step ?_;simp only[S.vd];rw[Rg g m];simp only[aR,bj,abj,abk,T,aD,a_];refine Ri hT (λhb=>?_) (λe=>?_)
   · by_cases f:y.toNat<128
     · rw[HA j f]at hb;simp only[HE]at hb;have:=d (H.set id (.fU s (pos+(XU ⟨s.toArray⟩ pos).2)));simpa[hb]using this
     · have:=d (H.set id (.fU s (pos+(XU ⟨s.toArray⟩ pos).2)));simpa[Re f]using this
   · by_cases f:y.toNat<128
     · rw[HA j f]at e ⊢;simp only[HE]at e;exact l (pos+1) id _ o (g.set _) λH'=>by simpa[e]using d H'
     · rw[Rc (by have:=Q_ j f;omega)]at e;cases e
 unfold S.f95;simp only[QZ,bD,ej,T,cv,aT];cases s with
 | nil=>simp[S.ve,S.rG,aT,aF,cv,aD];simpa[fk]using hQ H
 | cons c r=>
  rw[oL];have k:∀b:Bool,(b=false→fk (c::r)=r.all mf∧mf c=true)→(b=true→fk (c::r)=false)→∀H,S.rG Φ (.str (c::r)) Q [.bool b] H:=by
   intro b h1 p H;simp only[S.rG,aF,aD];apply aI<;>intro h
   ·have:=hQ H;rw[p h]at this;exact this
   · simp only[abQ]at h;obtain⟨g1,g2⟩:=h1 h;simp only[aT,S.FQ,nn,aR];refine main (c::r) 0 H.n _ rfl (At.new H _) λH'=>?_;have:=hQ H';rw[g1]at this;simpa[g2]using this
  simp only[S.ve,aF,cv,aT];apply aI<;>intro h
  · have q:jS (.str (c::r)) (D)=some (.int .u8 c.toNat):=by simp[jS]
    have hc:=c.toNat_lt;rw[q];simp only[T,j8];rw[wrap_i32 (by omega) (by omega)];refine S.Hm hT (HF ?_);rw[Rf];simp only[ec,T];have hl:r.length<16:=by simp at h;omega
    refine k _ (λhb=>?_) (λhb=>?_) _
    · have:isLet c=true:=by simpa using hb
      exact⟨by simp[fk,hl,this],by simp[mf,this]⟩
    · have:isLet c=false:=by simpa using hb
      simp[fk,this]
  · refine k _ (λhb=>by cases hb) (λ_=>?_) _;have hl:¬r.length<16:=by simp at h;omega
    simp[fk,hl]
end
end Rb

namespace Rb
open Go
mutual
theorem wv:∀(t:U)(m:Nat),1≤m→1≤dG m t∧dG m t≤m
 | .mk kind size packed aE ba aU,m,hm=>by
  simp only[dG];split
  · rename_i h;have h1:=As aE (m-1) (by omega);have a:=Au aU (m-1) (by omega);omega
  ·omega
theorem Rk:∀(f:aw)(m:Nat),1≤m→0≤nU m f∧nU m f≤m
 | .mk E type bits aM,m,hm=>by have:=wv type m hm;simp only[nU];omega
theorem As:∀(l:List aw)(m:Nat),1≤m→0≤fb m l∧fb m l≤m
 |[],m,hm=>by simp only[fb];omega
 | f::r,m,hm=>by have h1:=Rk f m hm;have a:=As r m hm;simp only[fb];omega
theorem Au:∀(l:List U)(m:Nat),1≤m→0≤eT m l∧eT m l≤m
 |[],m,hm=>by simp only[eT];omega
 | t::r,m,hm=>by have h1:=wv t m hm;have a:=Au r m hm;simp only[eT];omega
end
theorem wx(f:aw)(m:Nat):nU m f=dG m f.type:=by cases f;rfl
theorem p5(t:U)(m:Nat):dG m t=if 1<m then max (fb (m-1) t.aE) (eT (m-1) t.aU)+1 else 1:=by cases t;rfl
theorem gD(t:U):c8 t=if il t.kind t.size t.packed t.aE.length t.ba t.aU.length=false then 8
  else if t.kind=1 then(if fm t.size 8 then 0 else 9)
  else if t.kind=2 then(if fm t.size 16 then 0 else 9)
  else if t.kind=5 then(if t.ba<1∨65536<t.ba then 9 else HB t.aU)
  else if t.aE.length<1∨32<t.aE.length then 12
  else fo t.packed [] t.aE:=by cases t;rfl
theorem mQ(packed:Bool)(a:List (List UInt8))(f:aw):gb packed a f=if fk f.E=false∧(f.E≠[]∨f.bits=false)then 6
  else if f.E≠[]∧a.contains f.E=true then 7
  else if c8 f.type≠0 then c8 f.type
  else if(f.bits=false∧f.aM≠0)∨(f.bits=true∧(f.type.kind≠1∨packed=true))then 8
  else if f.bits=true∧(f.aM<0∨8*f.type.size<f.aM∨(f.aM=0∧f.E≠[]))then 9
  else 0:=by cases f;rfl
section
variable{Φ:ai}{H:Z}{Q:ad}
theorem HG{n a:Int}(d:a=8∨a=16)(hQ:Q (.bool (fm n a)) H):S.f163 Φ (J n) (J a) H Q:=by
 have e:∀b:Bool,b=fm n a→Q (.bool b) H:=λb h=>by rw[h];exact hQ
 simp only[S.f163,S.z6,aT,aF,gZ,j7,T,cP,ZP,bR];apply aI<;>intro h1
 · apply aI<;>intro c
   · simp only[ge_iff_le,dU]at h1 c;have:n=1∨n=2∨n=3∨n=4∨n=5∨n=6∨n=7∨n=8∨n=9∨n=10∨n=11∨n=12∨n=13∨n=14∨n=15∨n=16:=by omega
     have hle:decide (n≤a)=true:=by simpa using c
     simp only[fO,T,QX,cI];refine e _ ?_;unfold fm;rw[hle,Bool.and_true];clear hle c h1 hQ e;rcases this with rfl|rfl|rfl|rfl|rfl|rfl|rfl|rfl|rfl|rfl|rfl|rfl|rfl|rfl|rfl|rfl<;>decide
   · refine e _ ?_;simp only[dU]at c;simp[fm,c]
 · refine e _ ?_;simp only[ge_iff_le,dU]at h1;have:n≠1∧n≠2∧n≠4∧n≠8∧n≠16:=by omega
   simp[fm,this]
theorem Rl{t:U}(hQ:Q (.bool (il t.kind t.size t.packed t.aE.length t.ba t.aU.length)) H):S.f162 Φ (.agg t.cells) H Q:=by
 have e:∀b:Bool,b=il t.kind t.size t.packed t.aE.length t.ba t.aU.length→Q (.bool b) H:=λb h=>by rw[h];exact hQ
 clear hQ;simp only[S.f162,S.rL,S.rM,S.vK,S.zX,S.zY,S.zZ,S.z1,gC,aR,dX,kB,p3,wt,kC,rR,ly,cU,aT,aF,cI,ec,T,cP,cv];generalize t.kind=k at *;generalize t.size=sz at *;generalize t.packed=g at *;generalize t.aE.length=i at *;generalize t.ba=j at *;generalize t.aU.length=ne at *;by_cases h1:k=1
 · subst h1;simp only[abS,abT,abU,ZP,a_,bR,abV,abW]
   repeat' (apply aI<;>intro h)
   all_goals (refine e _ ?_;simp_all [il])
 by_cases a:k=2
 · subst a;simp only[abS,abT,abU,ZP,a_,bR,abV,abW]
   repeat' (apply aI<;>intro h)
   all_goals (refine e _ ?_;simp_all [il])
 by_cases c:k=3
 · subst c;simp only[abS,abT,abU,ZP,a_,bR,abV,abW]
   repeat' (apply aI<;>intro h)
   all_goals (refine e _ ?_;simp_all [il])
 by_cases d:k=4
 · subst d;simp only[abS,abT,abU,ZP,a_,bR,abV,abW]
   repeat' (apply aI<;>intro h)
   all_goals (refine e _ ?_;simp_all [il])
 by_cases f:k=5
 · subst f;simp only[abS,abT,abU,ZP,a_,bR,abV,abW]
   repeat' (apply aI<;>intro h)
   all_goals (refine e _ ?_;simp_all [il])<;>(rw[aaf];simp;try omega)
 · have g1:(k==1)=false:=by simpa using h1
   have g2:(k==2)=false:=by simpa using a
   have g3:(k==3)=false:=by simpa using c
   have g4:(k==4)=false:=by simpa using d
   have g5:(k==5)=false:=by simpa using f
   simp only[g1,g2,g3,g4,g5,abU,ZP,a_,bR,abV,abW]
   repeat' (apply aI<;>intro h)
   all_goals (refine e _ ?_;simp_all [il])
theorem Rm{t:U}{m:Nat}(w:1≤m)(y:m≤65)(o:t.aE.length≤maxLen)(p:t.aU.length≤maxLen)
  (hf:1<m→∀f∈t.aE,bB Φ 161 [.agg f.type.cells,J ((m-1:Nat):Int)] (J (dG (m-1) f.type)))
  (he:1<m→∀x∈t.aU,bB Φ 161 [.agg x.cells,J ((m-1:Nat):Int)] (J (dG (m-1) x)))
  (hQ:∀H',Q (J (dG m t)) H'):S.f161 Φ (.agg t.cells) (J m) H Q:=by
 have hm:maxLen=9223372036854775807:=by decide
 rw[hm]at o p;have k1:∀(v:Int)(H:Z),0≤v→v≤64→v+1=dG m t→N (S.vH Φ Q) [J v] H:=by intro v H z A hv;simp only[aT,S.vH,aF,b4,T];rw[bH,hv];exact hQ H
 unfold S.f161;simp only[gC,aR,ej,T,aD];apply aI<;>intro h
 · have d:1<m:=by simp at h;omega
   have n:Y6 .i64 ((m:Int)-1)=((m-1:Nat):Int):=by rw[bH];omega
   have B:=Au t.aU (m-1) (by omega);have C:=As t.aE (m-1) (by omega);have D:dG m t=max (fb (m-1) t.aE) (eT (m-1) t.aU)+1:=by rw[p5,aa d]
   have q:∀(xs:List U)(i:Nat)(acc:Int)(H:Z),t.aU.drop i=xs→0≤acc→acc≤64→max acc (eT (m-1) xs)+1=dG m t →
     aC (S.vI Φ (J m) (au U.cells t.aU) (J t.aU.length) Q) ([J acc,J i],H):=by
    intro xs;induction xs with
    | nil=>intro i acc H a b c ha;have r:=er a;refine aC.step ?_;simp only[S.vI,aF,c4,bD,T,aD];rw[ee];refine k1 _ _ b c ?_;simp only[eT]at ha;omega
    | cons x xs g=>intro i acc H a b c ha;obtain⟨j,e,k⟩:=ed a;have l:=aaH e;refine aC.step ?_;simp only[S.vI,aF,c4,bD,T,aD];rw[dW,cQ j];simp only[T];rw[dD U.len (by decide) _ e];simp only[T,aR,aL,a_];rw[cS _ _ _ 6 x.len x.scalar rfl];simp only[T];rw[eL,gL x.len];simp only[T,fO,n];refine he d x l _ _ ?_;have hb:=wv x (m-1) (by omega);rw[Ar];simp only[T,b4];rw[bH,iS i];refine g (i+1) _ _ k (by omega) (by omega) ?_;simp only[eT]at ha;omega
   have s:∀(acc:Int)(H:Z),0≤acc→acc≤64→max acc (eT (m-1) t.aU)+1=dG m t→N (S.zW Φ (J m) (.ae t.cells) Q) [J acc] H:=by intro acc H b c ha;simp only[aT,S.zW,aF,dX,ly,cU,T];exact q t.aU 0 acc H rfl b c ha
   have u:∀(xs:List aw)(i:Nat)(acc:Int)(H:Z),t.aE.drop i=xs→0≤acc→acc≤64→max (max acc (fb (m-1) xs)) (eT (m-1) t.aU)+1=dG m t →
     aC (S.vJ Φ (J m) (.ae t.cells) (au aw.cells t.aE) (J t.aE.length) Q) ([J acc,J i],H):=by
    intro xs;induction xs with
    | nil=>intro i acc H a b c ha;have r:=er a;refine aC.step ?_;simp only[S.vJ,aF,c4,bD,T,aD];rw[ee];refine s _ _ b c ?_;simp only[fb]at ha;omega
    | cons x xs g=>intro i acc H a b c ha;obtain⟨j,e,k⟩:=ed a;have l:=aaH e;refine aC.step ?_;simp only[S.vJ,aF,c4,bD,T,aD];rw[dW,cQ j];simp only[T];rw[dD aw.len (by decide) _ e];simp only[T,aR,aL,a_];rw[cS _ _ _ 9 x.len x.scalar rfl];simp only[T,W,YI];rw[eL,wu];simp only[T,fO,n];refine hf d x l _ _ ?_;have hb:=wv x.type (m-1) (by omega);rw[Ar];simp only[T,b4];rw[bH,iS i];refine g (i+1) _ _ k (by omega) (by omega) ?_;simp only[fb,wx]at ha;omega
   simp only[dX,kC,cU,T];refine u t.aE 0 0 H rfl (by omega) (by omega) ?_;omega
 · have d:m=1:=by simp at h;omega
   subst d;refine k1 0 H (by omega) (by omega) ?_;rw[p5];rfl
end
end Rb

namespace Rb
open Go
variable{t:U}{p:aw→Bool}{key:Nat}{bE:List I}{xs:List aw}
section
variable{α:Type}{cells:α→List I}{sz:Nat}
theorem Rn(hc:∀x,(cells x).length=sz):∀(xs:List α)(i:Nat),(xs.flatMap cells).take (i*sz)=(xs.take i).flatMap cells:=by
 intro xs i;induction i generalizing xs with
 |zero=>simp
 | succ i a=>
  cases xs with
  |nil=>simp
  | cons x xs=>rw[abe,List.take_succ_cons,abe,←a,show(i+1)*sz=(cells x).length+i*sz by rw[hc,Yu,abA,abB],List.take_length_add_append]
theorem HH(hc:∀x,(cells x).length=sz){xs:List α}{n:Nat}(hn:n≤xs.length):du sz (au cells xs) none (some (J n)) none=some (au cells (xs.take n)):=by
 simp only[au,du,eo,Option.map_none];rw[cG];simp only;rw[aa ⟨Yt _,by omega,Q1 hc xs⟩];by_cases h:n=xs.length
 ·rw[oL,h,abu]
 · rw[bw];have:((n:Int)).toNat=n:=by omega
   simp only[this,a_,Nat.sub_zero,abo,abt,Rn hc];rw[abX,Nat.min_eq_left hn]
end
theorem wy{α:Type}(p:α→Bool)(xs:List α):decide (ga (xs.findIdx? p)≥0)=xs.any p:=by
 cases hf:xs.findIdx? p with
 | none=>
  rw[List.findIdx?_eq_none_iff]at hf;have:xs.any p=false:=by simpa using hf
  rw[this];rfl
 | some i=>
  obtain⟨hi,h1,_⟩:=List.findIdx?_eq_some_iff_getElem.1 hf;have:xs.any p=true:=by rw[aav];exact⟨xs[i],List.getElem_mem hi,h1⟩
  rw[this];simp[ga]
section
variable{Φ:ai}{H:Z}{Q:ad}
theorem fieldIndex(hf:∀x∈xs,∀(R:ad),R (.bool (p x)) H→Φ key ([.agg x.cells]++bE) H R)(hl:xs.length≤9223372036854775807)
  (hQ:Q (J (ga (xs.findIdx? p))) H) (a:fS key=none:=by first|assumption|rfl):S.f70 Φ (au aw.cells xs) (.fn key bE) H Q:=by
 have h:rQ 9 Φ (au aw.cells xs) (.fn key bE) H Q:=Am aw.len (by decide) hf hl hQ;exact h
theorem Av(hT:Cl Φ S.bu)(hf:∀x∈xs,∀(R:ad),R (.bool (p x)) H→Φ key ([.agg x.cells]++bE) H R)(hl:xs.length≤9223372036854775807)
  (hQ:Q (.bool (xs.any p)) H) (a:fS key=none:=by first|assumption|rfl):Φ 131 [au aw.cells xs,.fn key bE] H Q:=by
 refine S.PY hT ?_;unfold S.f131;refine S.we hT (fieldIndex hf hl ?_);simp only[gZ,T,wy];exact hQ
theorem Ro{g:aw}{cs:List I}{id:Nat}{s:List UInt8}(a:At H id (.row cs))(ht:bU cs 0 1 false=some (.str s))(hQ:Q (.bool (g.E==s)) H):S.f217 Φ (.agg g.cells) (.ptr id 0) H Q:=by
 unfold S.f217;have hb:aO H false 9 (.agg g.cells)=some (.ae g.cells,H):=by unfold aO;rw[aa ⟨rfl,g.len⟩];rfl
 rw[hb];have l0:O H 1 false (.ae (g.cells.drop 0))=some (.str g.E):=p4 g;have l1:O H 1 false (.ptr id 0)=some (.str s):=by rw[a.load];exact ht
 simp only[aR,W,T,l0,Yx,l1,iU];exact hQ
theorem Rp(hT:Cl Φ S.bu){i:Nat}{f:aw}(hi:t.aE[i]?=some f)(hl:t.aE.length≤32)(hs:bB Φ 113 [.agg f.type.cells] (J (c8 f.type)))(w:∀s,bB Φ 95 [.str s] (.bool (fk s)))
  (hQ:∀H',Q (J (gb t.packed ((t.aE.take i).map aw.E) f)) H'):S.f199 Φ (.agg t.cells) (J i) H Q:=by
 have o:=(XV.1 hi).1;unfold S.f199;simp only[gC,aR,dX,kC,T];rw[cQ o];simp only[T];rw[dD aw.len (by decide) _ hi];simp only[T,aR,aL,a_];rw[cS _ _ _ 9 f.len f.scalar rfl];simp only[T,W,Yx,YI];have r0:O (H.push (.row f.cells)) 1 false (.ptr H.n 0)=some (.str f.E):=by rw[eL,p4]
 have d:O (H.push (.row f.cells)) 1 false (.ptr H.n 7)=some (.bool f.bits):=by rw[eL,Aq]
 have q:O (H.push (.row f.cells)) 1 false (.ptr H.n 8)=some (J f.aM):=by rw[eL,HC]
 have r1:O (H.push (.row f.cells)) 6 true (.ptr H.n 1)=some (.agg f.type.cells):=by rw[eL,wu]
 have y:O (H.push (.row f.cells)) 1 false (.ptr H.n 1)=some (J f.type.kind):=by rw[eL,HD]
 have rs:O (H.push (.row f.cells)) 1 false (.ptr H.n 2)=some (J f.type.size):=by rw[eL,Ra]
 have z:=At.new H (.row f.cells);generalize G:H.push (.row f.cells)=H1 at *;have fin:∀v,v=gb t.packed ((t.aE.take i).map aw.E) f→Q (J v) H1:=λv h=>by rw[h];exact hQ H1
 rw[r0];simp only[T];refine w _ _ _ ?_;have A : ¬ (fk f.E=false∧(f.E≠[]∨f.bits=false))→¬(f.E≠[]∧((t.aE.take i).map aw.E).contains f.E=true)→S.Ac Φ (.ae t.cells) (.ptr H.n 0) Q [] H1:=by
  intro n1 n2;have e1:gb t.packed ((t.aE.take i).map aw.E) f=if c8 f.type≠0 then c8 f.type
    else if(f.bits=false∧f.aM≠0)∨(f.bits=true∧(f.type.kind≠1∨t.packed=true))then 8
    else if f.bits=true∧(f.aM<0∨8*f.type.size<f.aM∨(f.aM=0∧f.E≠[]))then 9
    else 0:=by rw[mQ,ab n1,ab n2]
  rw[e1]at fin;clear e1;simp only[S.Ac,W,YI,T,r1];refine hs _ _ ?_;simp only[d_,T,aD];apply aI<;>intro h
  ·exact fin _ (by rw[aa (by simpa using h)])
  · have c : c8 f.type=0:=by simpa using h
    rw[ab (by simpa using c)]at fin;have k2 : ∀ b:Bool,(b=true↔((f.bits=false∧f.aM≠0)∨(f.bits=true∧(f.type.kind≠1∨t.packed=true))))→N (S.pW Φ (.ptr H.n 0) Q) [.bool b] H1:=by
     intro b hb;simp only[aT,S.pW,aF,aD,W,YI,T,d];apply aI<;>intro h
     ·exact fin _ (by rw[aa (hb.1 h)])
     · have hn : ¬((f.bits=false∧f.aM≠0)∨(f.bits=true∧(f.type.kind≠1∨t.packed=true))):=λx=>h (hb.2 x);rw[ab hn]at fin;have k1:∀b:Bool,(b=true↔(f.bits=true∧(f.aM<0∨8*f.type.size<f.aM∨(f.aM=0∧f.E≠[]))))→N (S.nP Φ Q) [.bool b] H1:=by
        intro b hb;simp only[aT,S.nP,aF,aD];apply aI<;>intro h
        ·exact fin _ (by rw[aa (hb.1 h)])
        ·exact fin _ (by rw[ab λx=>h (hb.2 x)])
       simp only[cP];apply aI<;>intro a
       · have B:f.type.kind=1:=by
           by_cases hk:f.type.kind=1
           ·exact hk
           ·exact absurd (.inr ⟨a,.inl hk⟩) hn
         have I:1≤f.type.size∧f.type.size≤8:=by
          rw[gD,B]at c;split at c
          ·cases c
          · simp only[a_]at c;split at c
            · rename_i hp;simp[fm]at hp;omega
            ·cases c
         simp only[q,bD,T,cv];apply aI<;>intro hw
         · simp only[rs,T,jF];rw[bH];simp only[ej,T,cv];apply aI<;>intro e
           · simp only[cI,T,cP];apply aI<;>intro j
             · simp only[r0,T,rS];refine k1 _ ?_;simp only[decide_eq_false_iff_not,gt_iff_lt,bG]at hw e j;simp[a,j];omega
             · refine k1 _ ?_;simp only[decide_eq_false_iff_not,gt_iff_lt,bG]at hw e j;simp[a,j];omega
           · refine k1 _ ?_;simp only[decide_eq_false_iff_not,abz,gt_iff_lt]at e;simp[a,e]
         · refine k1 _ ?_;simp only[decide_eq_false_iff_not,abz]at hw;simp[a,hw]
       · refine k1 _ ?_;simp[a]
    have r : ∀b:Bool,(b=true↔(f.bits=false∧f.aM≠0))→N (S.vZ Φ (.ae t.cells) (.ptr H.n 0) Q) [.bool b] H1:=by
     intro b hb;simp only[aT,S.vZ,aF,cv,W,YI,T,d];apply aI<;>intro h
     · have hn:¬(f.bits=false∧f.aM≠0):=λx=>by rw[hb.2 x]at h;cases h
       simp only[cP];apply aI<;>intro a
       · simp only[y,d_,T,cv];apply aI<;>intro hk
         · have C:O H1 1 false (.ae (t.cells.drop 2))=some (.bool t.packed):=wt t H1;simp only[C,T];refine k2 _ ?_;simp only[bne_eq_false_iff_eq]at hk;simp[a,hk]
         · refine k2 _ ?_;simp only[abR,bne_iff_ne,ne_eq]at hk;simp[a,hk]
       · refine k2 _ ?_;simp only[abQ]at a;simp only[a]at hn ⊢;simp at hn;simp[hn]
     · refine k2 _ ?_;have:=hb.1 (by simpa using h);simp[this]
    simp only[W,YI,T,d,ec,cP,q,d_];apply aI<;>intro a
    · refine r _ ?_;simp only[Z4]at a;simp[a]
    · refine r _ ?_;simp only[Z4,abR]at a;simp[a]
 have u:∀b:Bool,¬(fk f.E=false∧(f.E≠[]∨f.bits=false))→(b=true↔(f.E≠[]∧((t.aE.take i).map aw.E).contains f.E=true))→N (S.v7 Φ (.ae t.cells) (.ptr H.n 0) Q) [.bool b] H1:=by
  intro b n1 hb;simp only[aT,S.v7,aF,aD];apply aI<;>intro h
  ·exact fin _ (by rw[mQ,ab n1,aa (hb.1 h)])
  ·exact A n1 λx=>h (hb.2 x)
 have m : ∀b:Bool,(b=true↔(fk f.E=false∧(f.E≠[]∨f.bits=false)))→N (S.rN Φ (J i) (.ae t.cells) (.ptr H.n 0) Q) [.bool b] H1:=by
  intro b hb;simp only[aT,S.rN,aF,aD,W,YI,Yx,T,r0,rS,cP];apply aI<;>intro h
  ·exact fin _ (by rw[mQ,aa (hb.1 h)])
  · have n1:¬(fk f.E=false∧(f.E≠[]∨f.bits=false)):=λx=>h (hb.2 x);apply aI<;>intro k
    · have D:O H1 1 false (.ae (t.cells.drop 3))=some (au aw.cells t.aE):=kC t H1;simp only[D,T];rw[HH aw.len (Nat.le_of_lt o)];simp only[T];refine Av hT (p:=λg=>g.E==f.E) (λx K R F=>?_) (by rw[abX];omega) ?_
      ·exact S.QH hT (Ro z (p4 f) F)
      · refine u _ n1 ?_;simp only[Z4,beq_eq_false_iff_ne,ne_eq]at k;rw[aav,List.contains_iff_mem,List.mem_map];simp only[bG,ne_eq,k,not_false_eq_true,true_and]
    · refine u _ n1 ?_;simp only[Z4,beq_eq_false_iff_ne,ne_eq,abz]at k;simp[k]
 simp only[ec,T,cP,r0,rS,cv,d];apply aI<;>intro h1
 · simp only[Z4]at h1;apply aI<;>intro l
   · refine m _ ?_;simp only[abY,bG]at l;simp[h1,l,fk]
   · refine m _ ?_;simp only[abY,bG]at l;simp[h1,l]
 · refine m _ ?_;simp only[Z4,abR]at h1;simp[h1]
theorem Rq(hl:t.aE.length≤maxLen)
  (e:t.aE.length≤32→∀(i:Nat)(f:aw),t.aE[i]?=some f→bB Φ 199 [.agg t.cells,J i] (J (gb t.packed ((t.aE.take i).map aw.E) f)))
  (hQ:Q (J (if t.aE.length<1∨32<t.aE.length then 12 else fo t.packed [] t.aE)) H):S.f164 Φ (.agg t.cells) H Q:=by
 have fin:∀v,v=(if t.aE.length<1∨32<t.aE.length then 12 else fo t.packed [] t.aE)→Q (J v) H:=λv h=>by rw[h];exact hQ
 clear hQ;unfold S.f164;simp only[gC,aR,dX,kC,cU,bD,ej,T,cv];have d : ∀b:Bool,(b=true↔(t.aE.length<1∨32<t.aE.length))→N (S.vM Φ (.ae t.cells) Q) [.bool b] H:=by
  intro b hb;simp only[aT,S.vM,aF,aD];apply aI<;>intro h
  ·exact fin _ (by rw[aa (hb.1 h)])
  · have hn:¬(t.aE.length<1∨32<t.aE.length):=λx=>h (hb.2 x);rw[ab hn]at fin;simp only[S.GU,dX,kC,cU,T];have main:∀(rest:List aw)(i:Nat),t.aE.drop i=rest→fo t.packed ((t.aE.take i).map aw.E) rest=fo t.packed [] t.aE→aC (S.vL Φ (.ae t.cells) (J t.aE.length) Q) ([J i],H):=by
     intro rest;induction rest with
     | nil=>intro i a hs;have hle:=er a;refine aC.step ?_;simp only[S.vL,aF,bD,T,aD];rw[ee];exact fin _ (by rw[←hs];rfl)
     | cons f rest g=>
      intro i a hs;obtain⟨k,hf,j⟩:=ed a;refine aC.step ?_;simp only[S.vL,aF,bD,T,aD];rw[dW];simp only[iT,T];refine e (by omega) i f hf _ _ ?_;simp only[d_,T,aD];simp only[fo]at hs;apply aI<;>intro h
      · have c:gb t.packed ((t.aE.take i).map aw.E) f≠0:=by simpa using h
        rw[aa c]at hs;exact fin _ hs
      · have c:¬gb t.packed ((t.aE.take i).map aw.E) f≠0:=by simpa using h
        rw[ab c]at hs;simp only[b4,T];rw[bH,iS i];refine g (i+1) j ?_;rw[abL,hf];simpa using hs
    exact main t.aE 0 rfl rfl
 apply aI<;>intro h
 · refine d _ ?_;simp only[decide_eq_false_iff_not]at h;simp only[dU,gt_iff_lt];omega
 · refine d _ ?_;simp only[decide_eq_false_iff_not,abz]at h;simp only[true_iff];omega
theorem Rs(hT:Cl Φ S.bu)(f:bB Φ 164 [.agg t.cells] (J (if t.aE.length<1∨32<t.aE.length then 12 else fo t.packed [] t.aE)))
  (g:∀e∈t.aU,bB Φ 113 [.agg e.cells] (J (c8 e))) (hQ:Q (J (c8 t)) H):S.f113 Φ (.agg t.cells) H Q:=by
 have fin:∀v,v=c8 t→Q (J v) H:=λv h=>by rw[h];exact hQ
 clear hQ;rw[gD]at fin;unfold S.f113;simp only[gC,aR,iT,T];refine S.Qq hT (Rl ?_);simp only[ec,T,aD];apply aI<;>intro h
 ·exact fin _ (by rw[aa (by simpa using h)])
 · have c : il t.kind t.size t.packed t.aE.length t.ba t.aU.length=true:=by simpa using h
   rw[c]at fin;simp only[abU,bR]at fin;simp only[dX,kB,p3,rR,ly,cI,bD,ej,T,aD,cv,bG];apply aI<;>intro h1
   · rw[aa h1]at fin;refine S.Hn hT (HG (.inl rfl) ?_);simp only[ec,T,aD];apply aI<;>intro a
     ·exact fin _ (by rw[ab (by simpa using a)])
     ·exact fin _ (by rw[aa (by simpa using a)])
   · rw [ab h1]at fin;apply aI<;>intro a
     · rw[aa a]at fin;refine S.Hn hT (HG (.inr rfl) ?_);simp only[ec,T,aD];apply aI<;>intro a
       ·exact fin _ (by rw[ab (by simpa using a)])
       ·exact fin _ (by rw[aa (by simpa using a)])
     · rw [ab a]at fin;apply aI<;>intro d
       · rw [aa d]at fin;obtain ⟨e,he⟩:∃e,t.aU=[e]:=by
          have:t.aU.length=1:=by simp only[il,d]at c;simp at c;exact c.2
          exact abZ.1 this
         have k2:∀b:Bool,(b=true↔(t.ba<1∨65536<t.ba))→N (S.vj Φ (.ae t.cells) Q) [.bool b] H:=by
          intro b hb;simp only[aT,S.vj,aF,aD];apply aI<;>intro h
          ·exact fin _ (by rw[aa (hb.1 h)])
          · rw[ab λx=>h (hb.2 x)]at fin;simp only[S.F_,dX,ly,T];have ha:aP none 6 (au U.cells t.aU) (D)=some (dN U.cells 6 t.aU 0):=cQ (by rw[he];simp);rw[ha];simp only[T];rw[dD U.len (by decide) _ (show t.aU[0]?=some e by rw[he];rfl)];simp only[T];refine g e (by rw[he];simp) _ _ ?_;exact fin _ (by rw[he];rfl)
         apply aI<;>intro h
         · refine k2 _ ?_;have i:¬t.ba<1:=by simpa using h
           simp only[dU,gt_iff_lt];omega
         · refine k2 _ ?_;have i:t.ba<1:=by simpa using h
           simp only[true_iff];omega
       · rw[ab d]at fin;refine f _ _ ?_;exact fin _ rfl
end
section
variable{C:Ctx}(aj:bN C)(hT:Cl (af C) S.bu)
include aj hT
theorem Aw(s:List UInt8):bB (af C) 95 [.str s] (.bool (fk s)):=bB.of aj rfl rfl λQ hQ=>S.PA hT (Rj hT hQ)
theorem Rt:∀(m:Nat),1≤m→m≤65→∀t:U,t.ok→bB (af C) 161 [.agg t.cells,J m] (J (dG m t)):=by
 intro m;induction m with
 |zero=>intro h;omega
 | succ m b=>
  intro _ hm t ht;have a:t.aE.length≤maxLen∧(∀f∈t.aE,f.ok)∧t.aU.length≤maxLen∧∀e∈t.aU,e.ok:=by
   cases t with
   | mk kind size packed aE ba aU=>obtain⟨_,_,h1,c,_,d,g⟩:=ht;exact⟨h1,aw.dZ.1 c,d,U.dZ.1 g⟩
  refine bB.of aj (by simp[I.bA,I.bb,U.bb]) rfl λQ hQ=>S.Qp hT (Rm (by omega) hm a.1 a.2.2.1 (λh1 f hf=>?_) (λh1 e he=>?_) hQ)
  · have:=b (by omega) (by omega) f.type (by have:=a.2.1 f hf;cases f;exact this.2.1);exact this
  ·exact b (by omega) (by omega) e (a.2.2.2 e he)
theorem Ru:∀t:U,t.ok→bB (af C) 113 [.agg t.cells] (J (c8 t)):=by
 refine U.ind λt c d ht=>?_;have a:t.aE.length≤maxLen∧(∀f∈t.aE,f.ok)∧t.aU.length≤maxLen∧∀e∈t.aU,e.ok:=by
  cases t with
  | mk kind size packed aE ba aU=>obtain⟨_,_,h1,g,_,h,j⟩:=ht;exact⟨h1,aw.dZ.1 g,h,U.dZ.1 j⟩
 have k:t.aE.length≤32→∀(i:Nat)(f:aw),t.aE[i]?=some f→bB (af C) 199 [.agg t.cells,J i] (J (gb t.packed ((t.aE.take i).map aw.E) f)):=by intro hl i f hf;have b:=aaH hf;exact bB.of aj (by simp[I.bA,I.bb,U.bb]) rfl λQ hQ=>S.QE hT (Rp hT hf hl (c f b (by have:=a.2.1 f b;cases f;exact this.2.1)) (Aw aj hT) hQ)
 have l:bB (af C) 164 [.agg t.cells] (J (if t.aE.length<1∨32<t.aE.length then 12 else fo t.packed [] t.aE)):=
  λH Q hQ=>S.Qr hT (Rq a.1 k hQ)
 exact λH Q hQ=>S.PU hT (Rs hT l (λe he=>d e he (a.2.2.2 e he)) hQ)
theorem HI(t:U)(ht:t.ok):bB (af C) 68 [.agg t.cells] (J (eg t)):=by
 intro H Q hQ;refine S.Pp hT ?_;unfold S.f68;simp only[gC,aR,iT,T];refine S.PT hT ?_;unfold S.f112;simp only[gC,aR,iT,T];refine Rt aj hT 65 (by omega) (by omega) t ht _ _ ?_;simp only[ej,T,aD];unfold eg at hQ;apply aI<;>intro h
 ·rw[aa (by simpa using h)]at hQ;exact hQ
 · rw[ab (by simpa using h)]at hQ;exact Ru aj hT t ht _ _ hQ
end
end Rb

namespace Rb
open Go
variable{t:U}{x:K}{id n:Nat}{cs:List I}
def ji:List I:=[D,D,P,aS,D,aS]
def g_(r:Int×U):I:=if r.1=0 then .aq [.agg r.2.cells,D]else .aq [.agg ji,J r.1]
def cV(t:U)(x:K):Int×U:=
 if 1<x.bc.length∨(x.bc.length=1↔x.field≠[])then(8,t)
 else if x.bc.length=1∧t.kind=5 then(match t.aU with|e::_=>(0,e)|[]=>(8,t))
 else if x.bc.length=1∨¬(t.kind=3∨t.kind=4)then(8,t)
 else match t.aE.find? (λf=>f.E==x.field)with|some f=>(0,f.type)|none=>(6,t)
def cb:U→List K→Int×U
 |t,[]=>(0,t)
 |t,p::r=>if(cV t p).1≠0 then cV t p else cb (cV t p).2 r
def bK(vars:List B)(x:aN):Int×U:=
 match vars.find? (λv=>v.E==x.var)with
 |none=>(6,⟨0,0,false,[],0,[]⟩)
 |some v=>if eg v.type≠0 then(eg v.type,v.type)else cb v.type x.aB
theorem rT{packed:Bool}:∀{l:List aw}{seen:List (List UInt8)},fo packed seen l=0→∀f∈l,c8 f.type=0
 |[],_,_,f,hf=>by cases hf
 | g :: r,seen,h,f,hf=>by
  simp only[fo]at h;have a:gb packed seen g=0:=by
   by_cases hz:gb packed seen g=0
   ·exact hz
   ·rw[aa hz]at h;exact absurd h hz
  rw[ab (by simpa using a)]at h;rcases aah.1 hf with rfl|hf
  · rw [mQ]at a;split at a
    ·cases a
    · split at a
      ·cases a
      · split at a
        ·rename_i hz;exact absurd a hz
        ·rename_i hz;simpa using hz
  ·exact rT h f hf
theorem lz(h:c8 t=0)(b:t.kind=5):∃e,t.aU=[e]∧c8 e=0:=by
 rw[gD,b]at h;split at h
 ·cases h
 · rename_i a;simp only[abR]at a;obtain ⟨e,he⟩:∃e,t.aU=[e]:=by
    have:t.aU.length=1:=by simp[il]at a;exact a.2
    exact abZ.1 this
   refine⟨e,he,?_⟩;simp at h;split at h
   ·cases h
   ·rw[he]at h;exact h
theorem mR(h:c8 t=0)(b:t.kind=3∨t.kind=4):(∀f∈t.aE,c8 f.type=0)∧t.aE.length≤32:=by
 rw[gD]at h;have k1:t.kind≠1:=by omega
 have k2:t.kind≠2:=by omega
 have a:t.kind≠5:=by omega
 rw[ab k1,ab k2,ab a]at h;split at h
 ·cases h
 · split at h
   ·cases h
   ·exact⟨λf hf=>rT h f hf,by omega⟩
theorem Rv(h:c8 t=0)(a:(cV t x).1=0):c8 (cV t x).2=0:=by
 unfold cV at a ⊢;split
 ·rename_i hc;rw[aa hc]at a;cases a
 · rename_i hc;rw[ab hc]at a;split
   ·rename_i hc;obtain⟨e,he,hs⟩:=lz h hc.2;rw[he];exact hs
   · rename_i hc;rw[ab hc]at a;split
     ·rename_i hc;rw[aa hc]at a;cases a
     · rename_i hc;rw[ab hc]at a;split
       · rename_i f hf;exact(mR h (by omega)).1 f (List.mem_of_find?_eq_some hf)
       ·rename_i hf;rw[hf]at a;cases a
theorem nV{α:Type}(p:α→Bool)(xs:List α):(∃i x,xs.findIdx? p=some i∧xs.find? p=some x∧xs[i]?=some x)∨(xs.findIdx? p=none∧xs.find? p=none):=by
 induction xs with
 |nil=>right;simp
 | cons y d b=>
  rw[abH,List.find?_cons];by_cases h:p y=true
  ·left;exact⟨0,y,by simp[h],by simp[h],rfl⟩
  · simp only[h,bR,ZP];rcases b with⟨i,x,h1,a,c⟩|⟨h1,a⟩
    ·left;exact⟨i+1,x,by simp[h1],by simp[a],by simpa using c⟩
    ·right;simp[h1,a]
section
variable{Φ:ai}{H:Z}{Q:ad}
theorem At.put{H:Z}{cs ds:List I}(h:At H id (.row cs))(hc:cs.length=n)(a:ds.length=n)(hs:ds.all I.scalar=true):Y H n (.ptr id 0) (.agg ds)=some (H.set id (.row ds)):=by rw[h.store,aa ⟨rfl,a,hs,by omega⟩];congr 3;show setCells cs 0 ds=ds;rw[An (by omega)];rfl
theorem At.all{H:Z}(h:At H id (.row cs))(hc:cs.length=n):O H n true (.ptr id 0)=some (.agg cs):=by rw[h.load,gL hc]
theorem HJ(x:K)(H:Z):aO H false 2 (.agg x.cells)=some (.ae x.cells,H):=by unfold aO;rw[aa ⟨rfl,x.len⟩];rfl
theorem wA(x:K)(i:Nat):W i (.ae x.cells)=some (.ae (x.cells.drop i)):=rfl
theorem Ax(x:K)(H:Z):O H 1 false (.ae (x.cells.drop 0))=some (.str x.field):=by rw[K.bF];rfl
theorem wB(x:K)(H:Z):O H 1 false (.ae (x.cells.drop 1))=some (au ax.cells x.bc):=by rw[K.bF];rfl
theorem HK:bo [D,D,P,aS,D,aS] []=some (.agg ji):=rfl
theorem Rw{g:aw}(hQ:Q (.bool (g.E==x.field)) H):S.f114 Φ (.agg g.cells) (.ae x.cells) H Q:=by
 unfold S.f114;have hb:aO H false 9 (.agg g.cells)=some (.ae g.cells,H):=by unfold aO;rw[aa ⟨rfl,g.len⟩];rfl
 have l0:O H 1 false (.ae (g.cells.drop 0))=some (.str g.E):=p4 g;have l1:O H 1 false (.ae (x.cells.drop 0))=some (.str x.field):=Ax x H;rw[hb];simp only[aR,W,T,l0,l1,iU];exact hQ
theorem Rx(hT:Cl Φ S.bu)(hs:c8 t=0)(hl:x.bc.length≤maxLen)(hQ:∀H',Q (g_ (cV t x)) H'):S.f69 Φ (.agg t.cells) (.agg x.cells) H Q:=by
 have fin:∀v H',v=g_ (cV t x)→Q v H':=λv H' h=>by rw[h];exact hQ H'
 clear hQ;unfold S.f69;simp only[gC,HJ,aR,dX,kB,cI,T,cv,aT,aL,a_];have a:=At.new H (.row ji);change At (H.push (.row [D,D,P,aS,D,aS])) H.n _ at a;generalize (H.push (.row [D,D,P,aS,D,aS]))=H1 at *;generalize H.n=id at *;have bad:∀e:Int,e≠0→(cV t x).1=e→Do (bo [D,D,P,aS,D,aS] []) λF=>
   Do (Y H1 6 (.ptr id 0) F) λq=>
   Do (O q 6 true (.ptr id 0)) λG=>
   Q (.aq [G,(J e)]) q:=by
  intro e he h;rw[HK];simp only[T];rw[a.put (n:=6) rfl rfl rfl];simp only[T];rw[(a.set _).all (n:=6) rfl];simp only[T];refine fin _ _ ?_;unfold g_;rw[h,ab he]
 have r:∀u:U,cV t x=(0,u)→∀H1,At H1 id (.row ji)→Do (Y H1 6 (.ptr id 0) (.agg u.cells)) λs=>
   Do (O s 6 true (.ptr id 0)) λI=>
   Q (.aq [I,D]) s:=by
  intro u hu H1 a;rw[a.put (n:=6) rfl u.len u.scalar];simp only[T];rw[(a.set _).all u.len];simp only[T];refine fin _ _ ?_;unfold g_;rw[hu];rfl
 have w : ∀ b : Bool,(b=true↔(t.kind=3∨t.kind=4))→S.uY Φ (.ae t.cells) (.ae x.cells) (.ptr id 0) Q [.bool b] H1:=by
  intro b hb;have z : ∀ c : Bool,(c=true↔(1<x.bc.length∨(x.bc.length=1↔x.field≠[])))→S.uX Φ (.ae t.cells) (.ae x.cells) (.ptr id 0) [.bool b] Q [.bool c] H1:=by
   intro c hc;simp only[S.uX,aF,aD];apply aI<;>intro h
   ·exact bad 8 (by decide) (by unfold cV;rw[aa (hc.1 h)])
   · have n1 : ¬(1<x.bc.length∨(x.bc.length=1↔x.field≠[])):=λy=>h (hc.2 y);have A : ∀d:Bool,(d=true↔(x.bc.length=1∧t.kind=5))→S.uW Φ (.ae t.cells) (.ae x.cells) (.ptr id 0) [.bool b] Q [.bool d] H1:=by
      intro d j;simp only[S.uW,aF,aD];apply aI<;>intro h
      · obtain⟨h1,B⟩:=j.1 h;obtain⟨e,he,_⟩:=lz hs B;simp only[dX,ly,T];have ha:aP none 6 (au U.cells t.aU) (D)=some (dN U.cells 6 t.aU 0):=cQ (by rw[he];simp);rw[ha];simp only[T];rw[dD U.len (by decide) _ (show t.aU[0]?=some e by rw[he];rfl)];simp only[T];exact r e (by unfold cV;rw[ab n1,aa ⟨h1,B⟩,he]) _ a
      · have n2 : ¬(x.bc.length=1∧t.kind=5):=λy=>h (j.2 y);have k2 : ∀g:Bool,(g=true↔(x.bc.length=1∨¬(t.kind=3∨t.kind=4)))→S.uV Φ (.ae t.cells) (.ae x.cells) (.ptr id 0) Q [.bool g] H1:=by
         intro g C;simp only[S.uV,aF,aD];apply aI<;>intro h
         ·exact bad 8 (by decide) (by unfold cV;rw[ab n1,ab n2,aa (C.1 h)])
         · have n3:¬(x.bc.length=1∨¬(t.kind=3∨t.kind=4)):=λy=>h (C.2 y);have K:t.kind=3∨t.kind=4:=by omega
           obtain⟨_,hlen⟩:=mR hs K;simp only[aT,S.Fx,dX,kC,T];refine S.we hT ?_;refine fieldIndex (p:=λf=>f.E==x.field) (λf _ R L=>S.PV hT (Rw L)) (by omega) ?_;simp only[bD,T,aD];rcases nV (λf:aw=>f.E==x.field) t.aE with⟨i,f,h1,l,k⟩|⟨h1,l⟩
           · rw [h1];have m:=(XV.1 k).1;rw[ab (by show ¬(decide ((i:Int)<0)=true);rw[dU];omega)];simp only[ga];rw[cQ m];have M:O H1 6 true (.ae (((t.aE.flatMap aw.cells).drop (i*9)).drop 1))=some (.agg f.type.cells):=by
              show bU _ 0 6 true=_;rw[nS aw.len];have j:t.aE.drop i=f::t.aE.drop (i+1):=by rw[abE m];rw[YO m]at k;simp at k;rw[k]
              rw[j,abe,aw.bF,ZS,aaW,abt,List.append_assoc];exact p2 f.type.len
             simp only[T,dN,W,M];exact r f.type (by unfold cV;rw[ab n1,ab n2,ab n3,l]) _ a
           · rw[h1,aa (by simp[ga])];exact bad 6 (by decide) (by unfold cV;rw[ab n1,ab n2,ab n3,l])
        simp only[wA,wB,cU,cI,T,cv,aT,ec];apply aI<;>intro h
        · refine k2 _ ?_;simp only[beq_eq_false_iff_ne,ne_eq]at h;have:¬x.bc.length=1:=by omega
          rw[←hb];simp[this]
        · refine k2 _ ?_;simp only[abR,bG]at h;have:x.bc.length=1:=by omega
          simp[this]
     simp only[wA,wB,cU,cI,T,cP,aT,dX,kB];apply aI<;>intro h
     · refine A _ ?_;simp only[bG]at h;have:x.bc.length=1:=by omega
       simp[this]
     · refine A _ ?_;simp only[bG]at h;have:¬x.bc.length=1:=by omega
       simp[this]
  simp only[S.uY,wA,Ax,wB,cU,ej,cI,rS,QY,ZP,bR,T,cv,aT];apply aI<;>intro h
  · refine z _ ?_;simp only[decide_eq_false_iff_not,gt_iff_lt]at h;have o:¬1<x.bc.length:=by omega
    simp only[o,false_or];by_cases hf:x.field=[]
    · by_cases h1:x.bc.length=1
      ·simp[hf,h1]
      · have:¬((x.bc.length:Int)=1):=by omega
        simp[hf,h1,this]
    · by_cases h1:x.bc.length=1
      ·simp[hf,h1]
      · have e1:((x.bc.length:Int)==1)=false:=by rw[beq_eq_false_iff_ne];omega
        have N:x.field.isEmpty=false:=by simpa using hf
        simp[hf,h1,e1,N]
  · refine z _ ?_;simp only[decide_eq_false_iff_not,gt_iff_lt,abz]at h;have o:1<x.bc.length:=by omega
    simp[o]
 apply aI<;>intro h
 · refine w _ ?_;simp only[beq_eq_false_iff_ne,ne_eq]at h;simp[h]
 · refine w _ ?_;simp only[abR,bG]at h;simp[h]
end
end Rb

namespace Rb
open Go
variable{vars:List B}{x:aN}
theorem Ry:I.bA ji=true:=rfl
theorem HL(r:Int×U):(g_ r).bb=true:=by
 unfold g_;split
 ·simp[I.bb,I.bA,U.bb]
 ·simp[I.bb,I.bA,Ry]
theorem p6(v:B):bU v.cells 0 1 false=some (.str v.E):=by unfold bU;rw[aa (by rw[v.len];omega)];rfl
theorem Ay(v:B)(H:Z){i:Nat}(h:vars[i]?=some v):O H 6 true (.ae (((vars.flatMap B.cells).drop (i*7)).drop 1))=some (.agg v.type.cells):=by
 have a:=(XV.1 h).1;show bU _ 0 6 true=_;rw[nS B.len];have b:vars.drop i=v::vars.drop (i+1):=by rw[abE a];rw[YO a]at h;simp at h;rw[h]
 rw[b,abe,B.cells,ZS,aaW,abt];exact p2 v.type.len
theorem Az(x:aN)(H:Z):aO H false 2 (.agg x.cells)=some (.ae x.cells,H):=by unfold aO;rw[aa ⟨rfl,x.len⟩];rfl
theorem AA(x:aN)(i:Nat):W i (.ae x.cells)=some (.ae (x.cells.drop i)):=rfl
theorem HM(x:aN)(H:Z):O H 1 false (.ae (x.cells.drop 0))=some (.str x.var):=by rw[aN.bF];rfl
theorem AB(x:aN)(H:Z):O H 1 false (.ae (x.cells.drop 1))=some (au K.cells x.aB):=by rw[aN.bF];rfl
section
variable{Φ:ai}{H:Z}{Q:ad}
theorem Rz{v:B}(hQ:Q (.bool (v.E==x.var)) H):S.f67 Φ (.agg v.cells) (.ae x.cells) H Q:=by
 unfold S.f67;have hb:aO H false 7 (.agg v.cells)=some (.ae v.cells,H):=by unfold aO;rw[aa ⟨rfl,v.len⟩];rfl
 have l0:O H 1 false (.ae (v.cells.drop 0))=some (.str v.E):=p6 v;have l1:O H 1 false (.ae (x.cells.drop 0))=some (.str x.var):=HM x H;rw[hb];simp only[aR,W,T,l0,l1,iU];exact hQ
theorem wC{p:B→Bool}{key:Nat}{bE:List I}{xs:List B}(hf:∀x∈xs,∀(R:ad),R (.bool (p x)) H→Φ key ([.agg x.cells]++bE) H R)(hl:xs.length≤9223372036854775807)
  (hQ:Q (J (ga (xs.findIdx? p))) H) (a:fS key=none:=by first|assumption|rfl):S.f43 Φ (au B.cells xs) (.fn key bE) H Q:=by
 have h:rQ 7 Φ (au B.cells xs) (.fn key bE) H Q:=Am B.len (by decide) hf hl hQ;exact h
theorem RA(hT:Cl Φ S.bu)(r:vars.length≤maxLen)(A:x.aB.length≤maxLen)
  (C:∀v∈vars,bB Φ 68 [.agg v.type.cells] (J (eg v.type)))
  (F:∀(t:U)(p:K),c8 t=0→p∈x.aB→bB Φ 69 [.agg t.cells,.agg p.cells] (g_ (cV t p)))
  (hQ:∀H',Q (g_ (bK vars x)) H'):S.f39 Φ (au B.cells vars) (.agg x.cells) H Q:=by
 have hm:maxLen=9223372036854775807:=by decide
 rw[hm]at r A;have fin:∀v H',v=g_ (bK vars x)→Q v H':=λv H' h=>by rw[h];exact hQ H'
 clear hQ;unfold S.f39;simp only[Az,aR,aL,a_];have f:At (H.push (.row ji)) H.n (.row ji):=At.new H _;change At (H.push (.row [D,D,P,aS,D,aS])) H.n _ at f;generalize (H.push (.row [D,D,P,aS,D,aS]))=a at *;generalize H.n=c at *;have bad:∀(e:Int)(H1:Z),At H1 c (.row ji)→e≠0→(bK vars x).1=e→Do (bo [D,D,P,aS,D,aS] []) λG=>
   Do (Y H1 6 (.ptr c 0) G) λs=>
   Do (O s 6 true (.ptr c 0)) λI=>
   Q (.aq [I,(J e)]) s:=by
  intro e H1 u he h;rw[HK];simp only[T];rw[u.put (n:=6) rfl rfl rfl];simp only[T];rw[(u.set _).all (n:=6) rfl];simp only[T];refine fin _ _ ?_;unfold g_;rw[h,ab he]
 refine S.wc hT ?_;refine wC (p:=λv=>v.E==x.var) (λv _ R L=>S.Po hT (Rz L)) r ?_;simp only[bD,T,aD];rcases nV (λv:B=>v.E==x.var) vars with⟨i,v,h1,g,j⟩|⟨h1,g⟩
 · have k:=(XV.1 j).1;have M:=aaH j;have l:bK vars x=if eg v.type≠0 then(eg v.type,v.type)else cb v.type x.aB:=by unfold bK;rw[g]
   rw[h1,ab (by show ¬(decide ((i:Int)<0)=true);rw[dU];omega)];simp only[ga];rw[cQ k];simp only[T,dN,W,Ay v a j,aR,aL,a_];rw[cS _ _ _ 6 v.type.len v.type.scalar rfl];simp only[T];rw[eL,gL v.type.len];simp only[T];have N:At (a.push (.row v.type.cells)) a.n (.row v.type.cells):=At.new a _;have V:c≠a.n:=f.lv;have w:At (a.push (.row v.type.cells)) c (.row ji):=f.push _;generalize (a.push (.row v.type.cells))=X at *;generalize a.n=y at *;refine C v M _ _ ?_;simp only[d_,T,aD];apply aI<;>intro h
   · have b:eg v.type≠0:=by simpa using h
     exact bad _ _ w b (by rw[l,aa b])
   · have b:eg v.type=0:=by simpa using h
     rw[ab (by simpa using b)]at l;have ac:c8 v.type=0:=by
      unfold eg at b;split at b
      ·cases b
      ·exact b
     have main:∀(ps:List K)(i:Nat)(t:U)(H1:Z),x.aB.drop i=ps→At H1 c (.row ji)→At H1 y (.row t.cells)→c8 t=0→cb t ps=bK vars x →
       aC (S.uO Φ (.ptr c 0) (.ptr y 0) (au K.cells x.aB) (J x.aB.length) Q) ([J i],H1):=by
      intro ps;induction ps with
      | nil=>intro i t H1 m a3 cB o d;have hle:=er m;refine aC.step ?_;simp only[S.uO,aF,bD,T,aD];rw[ee];simp only[aT,S.E7];rw[cB.all t.len];simp only[T];rw[a3.put (n:=6) rfl t.len t.scalar];simp only[T];rw[(a3.set _).all t.len];simp only[T];refine fin _ _ ?_;rw[←d];rfl
      | cons p ps ad=>
       intro i t H1 m a3 cB o d;obtain⟨k,hp,ae⟩:=ed m;refine aC.step ?_;simp only[S.uO,aF,bD,T,aD];rw[dW,cQ k];simp only[T];rw[dD K.len (by decide) _ hp];simp only[T,aR,aL,a_];rw[cS _ _ _ 2 p.len p.scalar rfl];simp only[T];rw[(cB.push _).all t.len,eL,gL p.len];simp only[T];refine F t p o (aaH hp) _ _ ?_;simp only[cb]at d;have b3:=a3.push (.row p.cells);have z:=cB.push (.row p.cells);generalize H1.push (.row p.cells)=H2 at *;by_cases he:(cV t p).1=0
       · rw[ab (by simpa using he)]at d;have q:g_ (cV t p) = .aq [.agg (cV t p).2.cells,D]:=by unfold g_;rw[aa he]
         rw[q];simp only[bj,abj,abk,T];rw[cS _ _ _ 6 (cV t p).2.len (cV t p).2.scalar rfl];simp only[T,d_,aD];rw[eM,eL,gL (cV t p).2.len];simp only[T];rw[(z.push _).put t.len (cV t p).2.len (cV t p).2.scalar];simp only[T,b4];rw[bH,iS i];exact ad (i+1) _ _ ae ((b3.push _).bZ V _) ((z.push _).set _) (Rv o he) d
       · rw[aa he]at d;have q:g_ (cV t p) = .aq [.agg ji,J (cV t p).1]:=by unfold g_;rw[ab he]
         rw[q];simp only[bj,abj,abk,T];rw[cS _ _ _ 6 rfl rfl rfl];simp only[T,d_,aD];rw[aa (by simpa using he)];exact bad _ _ (b3.push _) he (by rw[←d])
     simp only[AA,AB,cU,T];exact main x.aB 0 v.type X rfl w N ac l.symm
 · rw[h1,aa (by simp[ga])];exact bad 6 _ f (by decide) (by unfold bK;rw[g])
end
end Rb

namespace Rb
open Go
variable{t:U}{p:U→Bool}{key:Nat}{bE:List I}{xs:List U}{n step:Int}
mutual
def gd:U→Bool
 | .mk kind size packed aE ba aU=>((kind==2&&decide (size>1))||wD aU)||wE aE
def RB:aw→Bool
 | .mk E type bits aM=>gd type
def wD:List U→Bool
 |[]=>false
 |t::r=>gd t||wD r
def wE:List aw→Bool
 |[]=>false
 |f::r=>RB f||wE r
end
mutual
def gg:U→Bool
 | .mk kind size packed aE ba aU=>((packed&&gd (.mk kind size packed aE ba aU))||wF aU)||wG aE
def RC:aw→Bool
 | .mk E type bits aM=>gg type
def wF:List U→Bool
 |[]=>false
 |t::r=>gg t||wF r
def wG:List aw→Bool
 |[]=>false
 |f::r=>RC f||wG r
end
theorem HN:∀l:List U,wD l=l.any gd
 |[]=>rfl
 |t::r=>by rw[wD,HN r,ab0]
theorem HO:∀l:List aw,wE l=l.any λf=>gd f.type
 |[]=>rfl
 |f::r=>by rw[wE,HO r,ab0];cases f;rfl
theorem AD:∀l:List U,wF l=l.any gg
 |[]=>rfl
 |t::r=>by rw[wF,AD r,ab0]
theorem AE:∀l:List aw,wG l=l.any λf=>gg f.type
 |[]=>rfl
 |f::r=>by rw[wG,AE r,ab0];cases f;rfl
theorem RD(t:U):gd t=(((t.kind==2&&decide (t.size>1))||t.aU.any gd)||t.aE.any λf=>gd f.type):=by cases t;rw[gd,HN,HO]
theorem RE(t:U):gg t=(((t.packed&&gd t)||t.aU.any gg)||t.aE.any λf=>gg f.type):=by cases t;rw[gg,AD,AE]
theorem fP(ht:t.ok):t.aE.length≤9223372036854775807∧(∀f∈t.aE,f.type.ok)∧t.aU.length≤9223372036854775807∧∀e∈t.aU,e.ok:=by
 have hm:maxLen=9223372036854775807:=by decide
 cases t with
 | mk kind size packed aE ba aU=>obtain⟨_,_,h1,b,_,a,c⟩:=ht;rw[hm]at h1 a;exact⟨h1,λf hf=>by have:=aw.dZ.1 b f hf;cases f;exact this.2.1,a,U.dZ.1 c⟩
section
variable{Φ:ai}{H:Z}{Q:ad}
theorem RF(hf:∀x∈xs,∀(R:ad),R (.bool (p x)) H→Φ key ([.agg x.cells]++bE) H R)(hl:xs.length≤9223372036854775807)
  (hQ:Q (J (ga (xs.findIdx? p))) H) (a:fS key=none:=by first|assumption|rfl):S.f177 Φ (au U.cells xs) (.fn key bE) H Q:=by
 have h:rQ 6 Φ (au U.cells xs) (.fn key bE) H Q:=Am U.len (by decide) hf hl hQ;exact h
theorem HP(hT:Cl Φ S.bu)(hf:∀x∈xs,∀(R:ad),R (.bool (p x)) H→Φ key ([.agg x.cells]++bE) H R)(hl:xs.length≤9223372036854775807)
  (hQ:Q (.bool (xs.any p)) H) (a:fS key=none:=by first|assumption|rfl):Φ 130 [au U.cells xs,.fn key bE] H Q:=by
 refine S.PX hT ?_;unfold S.f130;refine S.Qv hT (RF hf hl ?_);simp only[gZ,T,wy];exact hQ
theorem wH(f:aw)(H:Z):aO H false 9 (.agg f.cells)=some (.ae f.cells,H):=by unfold aO;rw[aa ⟨rfl,f.len⟩];rfl
theorem HQ(f:aw)(H:Z):O H 6 true (.ae (f.cells.drop 1))=some (.agg f.type.cells):=by show bU _ 0 6 true=_;rw[aw.bF,aaW,abt];exact p2 f.type.len
theorem RG(hT:Cl Φ S.bu)(c:t.aE.length≤9223372036854775807)(d:t.aU.length≤9223372036854775807)(hf:∀f∈t.aE,bB Φ 129 [.agg f.type.cells] (.bool (gd f.type)))
  (he:∀e∈t.aU,bB Φ 129 [.agg e.cells] (.bool (gd e))) (hQ:Q (.bool (gd t)) H):S.f129 Φ (.agg t.cells) H Q:=by
 have fin:∀b,b=gd t→Q (.bool b) H:=λb h=>by rw[h];exact hQ
 clear hQ;rw[RD]at fin;unfold S.f129;simp only[gC,aR,dX,kB,p3,cI,ej,T,cP];have k1:∀b:Bool,b=((t.kind==2&&decide (t.size>1))||t.aU.any gd)→N (S.vn Φ (.ae t.cells) Q) [.bool b] H:=by
  intro b hb;rw[←hb]at fin;simp only[aT,S.vn,aF,cv,dX,kC,T];apply aI<;>intro h
  · refine Av hT (p:=λf=>gd f.type) (λf g R a=>?_) c (fin _ (by rw[h];rfl));refine S.Qu hT ?_;unfold S.f176;simp only[wH,aR,W,T,HQ];exact hf f g _ _ a
  · simp only[abR]at h;exact fin _ (by rw[h];rfl)
 have k2:∀b:Bool,b=(t.kind==2&&decide (t.size>1))→N (S.vo Φ (.ae t.cells) Q) [.bool b] H:=by
  intro b hb;rw[←hb]at k1;simp only[aT,S.vo,aF,cv,dX,ly,T];apply aI<;>intro h
  ·refine HP hT (p:=gd) (λe i R a=>he e i _ _ a) d (k1 _ (by rw[h];rfl))
  · simp only[abR]at h;exact k1 _ (by rw[h];rfl)
 apply aI<;>intro h
 ·exact k2 _ (by rw[h];rfl)
 · simp only[abQ]at h;exact k2 _ (by rw[h];rfl)
theorem RH(hT:Cl Φ S.bu)(c:t.aE.length≤9223372036854775807)(d:t.aU.length≤9223372036854775807)(g:bB Φ 129 [.agg t.cells] (.bool (gd t)))(hf:∀f∈t.aE,bB Φ 85 [.agg f.type.cells] (.bool (gg f.type)))
  (he:∀e∈t.aU,bB Φ 85 [.agg e.cells] (.bool (gg e))) (hQ:Q (.bool (gg t)) H):S.f85 Φ (.agg t.cells) H Q:=by
 have fin:∀b,b=gg t→Q (.bool b) H:=λb h=>by rw[h];exact hQ
 clear hQ;rw[RE]at fin;unfold S.f85;simp only[gC,aR,dX,wt,iT,T,cP];have k1:∀b:Bool,b=((t.packed&&gd t)||t.aU.any gg)→N (S.u0 Φ (.ae t.cells) Q) [.bool b] H:=by
  intro b hb;rw[←hb]at fin;simp only[aT,S.u0,aF,cv,dX,kC,T];apply aI<;>intro h
  · refine Av hT (p:=λf=>gg f.type) (λf i R a=>?_) c (fin _ (by rw[h];rfl));refine S.PZ hT ?_;unfold S.f132;simp only[wH,aR,W,T,HQ];exact hf f i _ _ a
  · simp only[abR]at h;exact fin _ (by rw[h];rfl)
 have k2:∀b:Bool,b=(t.packed&&gd t)→N (S.u1 Φ (.ae t.cells) Q) [.bool b] H:=by
  intro b hb;rw[←hb]at k1;simp only[aT,S.u1,aF,cv,dX,ly,T];apply aI<;>intro h
  ·refine HP hT (p:=gg) (λe j R a=>he e j _ _ a) d (k1 _ (by rw[h];rfl))
  · simp only[abR]at h;exact k1 _ (by rw[h];rfl)
 apply aI<;>intro h
 ·exact g _ _ (k2 _ (by rw[h];rfl))
 · simp only[abQ]at h;exact k2 _ (by rw[h];rfl)
def ca(n step:Int):Int:=Y6 .i64 (Y6 .i64 ((Y6 .i64 (Y6 .i64 (n+step)-1)).tdiv step)*step)
theorem p7(h:step≠0)(hQ:Q (J (ca n step)) H):S.f167 Φ (J n) (J step) H Q:=by unfold S.f167;simp only[b4,fO,T];rw[mc _ _ _ h];simp only[T,jF];exact hQ
theorem RJ(b:0≤n)(c:n≤1000000000)(d:1≤step)(e:step≤1000000):ca n step=(n+step-1)/step*step:=by
 unfold ca;have hs:step≠0:=by omega
 have e1:=Int.ediv_mul_le (n+step-1) hs;have a:0≤(n+step-1)/step:=Int.ediv_nonneg (by omega) (by omega);have f:(n+step-1)/step≤n+step-1:=Int.ediv_le_self _ (by omega);have g:0≤(n+step-1)/step*step:=Int.mul_nonneg a (by omega);rw[wrap_i64 (n:=n+step) (by omega) (by omega),wrap_i64 (n:=n+step-1) (by omega) (by omega),Int.tdiv_eq_ediv_of_nonneg (by omega),wrap_i64 (n:=(n+step-1)/step) (by omega) (by omega),bH]
end
section
variable{C:Ctx}(hT:Cl (af C) S.bu)
include hT
theorem RK:∀t:U,t.ok→bB (af C) 129 [.agg t.cells] (.bool (gd t)):=by refine U.ind λt a b ht=>?_;obtain⟨h1,c,d,g⟩:=fP ht;exact λH Q hQ=>S.PW hT (RG hT h1 d (λf hf=>a f hf (c f hf)) (λe he=>b e he (g e he)) hQ)
theorem RL:∀t:U,t.ok→bB (af C) 85 [.agg t.cells] (.bool (gg t)):=by refine U.ind λt a b ht=>?_;obtain⟨h1,c,d,g⟩:=fP ht;exact λH Q hQ=>S.Pt hT (RH hT h1 d (RK hT t ht) (λf hf=>a f hf (c f hf)) (λe he=>b e he (g e he)) hQ)
end
end Rb

namespace Rb
open Go
variable{sz len:Nat}{x:I}{cs:List I}
structure be where
 at_:Int
 len:Int
 kind:Int
 bits:Bool
 bit:Int
 aM:Int
def be.cells(s:be):List I:=[J s.at_,J s.len,J s.kind,.bool s.bits,J s.bit,J s.aM]
structure PL where
 size:Int
 bP:Int
 dv:List be
 bit:Int
abbrev V(n:Int):Int:=Y6 .i64 n
def hR(p:PL)(f:aw):Int:=if V (p.bit.tdiv (V (8*f.type.size)))≠V ((V (V (p.bit+f.aM)-1)).tdiv (V (8*f.type.size)))then ca p.bit (V (8*f.type.size))else p.bit
def lA(p:PL)(f:aw):PL:=
 if f.aM=0 then
  {p with bit:=ca p.bit (V (8*f.type.size)),dv:=p.dv++[⟨V ((ca p.bit (V (8*f.type.size))).tdiv 8),0,1,true,(ca p.bit (V (8*f.type.size))).tmod 8,0⟩]}
 else
  {p with bit:=V (hR p f+f.aM),dv:=p.dv++[⟨V ((hR p f).tdiv 8),V (V (V ((V (V (hR p f+f.aM)-1)).tdiv 8)-V ((hR p f).tdiv 8))+1),1,true,(hR p f).tmod 8,f.aM⟩]}
def eN(packed:Bool)(f:aw)(bP:Int):Int:=if packed=true∨(f.bits=true∧f.aM=0)then 1 else if f.bits=true then f.type.size else bP
def wI(p:PL)(f:aw)(size bP:Int):PL:={p with bit:=V (8*V (ca (V ((ca p.bit 8).tdiv 8)) bP+size)),dv:=p.dv++[⟨ca (V ((ca p.bit 8).tdiv 8)) bP,size,f.type.kind,false,0,0⟩]}
def lB(p:PL):PL:={p with size:=max p.size (V ((ca p.bit 8).tdiv 8))}
def im(packed:Bool)(kind:Int)(p:PL)(f:aw)(g:Int×Int):PL:=
 let a:PL:={p with bP:=max p.bP (eN packed f g.2),bit:=if kind=4 then 0 else p.bit}
 lB (if f.bits=true then lA a f else wI a f g.1 (eN packed f g.2))
mutual
def A:U→(Int×Int)×Bool
 | .mk kind size packed aE ba aU=>
  if kind=1∨kind=2 then((size,size),true)
  else if kind=5 then((V ((fc aU).1.1*ba),(fc aU).1.2),(fc aU).2&&decide (V ((fc aU).1.1*ba)≤65536))
  else match dY packed kind ⟨0,1,[],0⟩ aE with
   |none=>((0,0),false)
   |some p=>((ca p.size p.bP,p.bP),decide (ca p.size p.bP≤65536))
def fc:List U→(Int×Int)×Bool
 |[]=>((0,0),false)
 |t::_=>A t
def AF:aw→(Int×Int)×Bool
 | .mk E type bits aM=>A type
def dY(packed:Bool)(kind:Int)(p:PL):List aw→Option PL
 |[]=>some p
 |f::r=>if(AF f).2=true then dY packed kind (im packed kind p f (AF f).1) r else none
end
theorem p8(f:aw):AF f=A f.type:=by cases f;rfl
theorem lC(t:U):A t=if t.kind=1∨t.kind=2 then((t.size,t.size),true)
  else if t.kind=5 then((V ((fc t.aU).1.1*t.ba),(fc t.aU).1.2),(fc t.aU).2&&decide (V ((fc t.aU).1.1*t.ba)≤65536))
  else match dY t.packed t.kind ⟨0,1,[],0⟩ t.aE with
   |none=>((0,0),false)
   |some p=>((ca p.size p.bP,p.bP),decide (ca p.size p.bP≤65536)):=by cases t;rfl
theorem hP.RM{H0 H:Z}{sz g len m:Nat}{x y:I}{cells news:List I}{K:ad}(h:hP H0 H sz x len cells)(j:fi H sz y=some (m,news))(hn:news.length=m*sz)(hs:news.all I.scalar=true)(k:m≠0)
  (hb:(len+m)*g≤140737488355328) (hl:len+m≤9223372036854775807) (l:∀p H',hP H0 H' sz p (len+m) (cells++news)→(∀i o,At H i o→(∀a b,o ≠ .tok a b)→At H' i o)→K p H'):ar (cr H false sz g x y) K:=by
 obtain⟨c,tk,rfl,hc,q⟩:=h;have hlen:(cells++news).length=(len+m)*sz:=by simp[hc,hn,Yu]
 rcases q with⟨rfl,rfl⟩|⟨t,rfl,h1,s,f⟩
 · refine⟨.ak (.own H.n) (0+m) (cells++news),H.push (.tok ((0+m)*sz) sz),?_,l _ _ ⟨c.trans (Z.Ext.push _ _),_,rfl,hlen,.inr ⟨H.n,rfl,c.1,aaJ _,Z.p1 _ _⟩⟩ λi o d _=>d.push _⟩;simp only[cr,j,hs,not_true_eq_false,bR,ab k];rw[ab (by simp only[abz];exact⟨hc,hb,hl⟩)]
 · refine ⟨.ak (.own H.n) (len+m) (cells++news),(H.set t .gone).push (.tok ((len+m)*sz) sz),?_,l _ _ ⟨(c.set h1 _).trans (Z.Ext.push _ _),_,rfl,hlen,.inr ⟨H.n,rfl,c.1,aaJ _,Z.p1 _ _⟩⟩ λi o d r=>?_⟩
   · simp only[cr,j,hs,not_true_eq_false,bR,ab k];rw[ab (by simp only[abz];exact⟨hc,hb,hl⟩)];simp[f]
   ·exact(d.bZ (λe=>by subst e;rw[d.2]at f;exact r _ _ f) _).push _
theorem hP.other{H0 H:Z}{cells:List I}(h:hP H0 H sz x len cells){id:Nat}(ha:At H id (.row cs))(b:H0.n≤id)(y:bM):hP H0 (H.set id y) sz x len cells:=by
 obtain⟨c,tk,rfl,hc,d⟩:=h;refine⟨c.set b y,tk,rfl,hc,?_⟩;rcases d with h|⟨t,rfl,h1,f,a⟩
 ·exact .inl h
 ·exact .inr ⟨t,rfl,h1,f,by rw[Z.bZ _ _ (λe=>by subst e;rw[ha.2]at a;cases a)];exact a⟩
theorem hP.push{H0 H:Z}{cells:List I}(h:hP H0 H sz x len cells)(y:bM):hP H0 (H.push y) sz x len cells:=by
 obtain⟨a,tk,rfl,hc,b⟩:=h;refine⟨a.trans (Z.Ext.push _ _),tk,rfl,hc,?_⟩;rcases b with h|⟨t,rfl,h1,c,d⟩
 ·exact .inl h
 ·exact .inr ⟨t,rfl,h1,Nat.lt_succ_of_lt c,by rw[Z.Q0 _ _ (by omega)];exact d⟩
def eu(H0 H:Z)(id:Nat)(p:PL):Prop:=∃x,At H id (.row [J p.size,J p.bP,x,J p.bit])∧hP H0 H 6 x p.dv.length (p.dv.flatMap be.cells)∧H0.n≤id
theorem eu.push{H0 H:Z}{id:Nat}{p:PL}(h:eu H0 H id p)(y:bM):eu H0 (H.push y) id p:=by obtain⟨x,h1,a,b⟩:=h;exact⟨x,h1.push y,a.push y,b⟩
theorem eu.other{H0 H:Z}{id i:Nat}{p:PL}(h:eu H0 H id p)(ha:At H i (.row cs))(hi:H0.n≤i)(a:id≠i)(y:bM):eu H0 (H.set i y) id p:=by obtain⟨x,h1,b,c⟩:=h;exact⟨x,h1.bZ a y,b.other ha hi y,c⟩
def jG(H H':Z)(id:Nat):Prop:=∀i cs,i≠id→At H i (.row cs)→At H' i (.row cs)
theorem jG.refl(H:Z)(id:Nat):jG H H id:=λ_ _ _ h=>h
theorem jG.trans{H H' a:Z}{id:Nat}(h:jG H H' id)(k:jG H' a id):jG H a id:=λi cs hi ha=>k i cs hi (h i cs hi ha)
section
variable{H0 H:Z}{id:Nat}{p:PL}{K:Z→Prop}
theorem eu.wJ(h:eu H0 H id p):O H 1 false (.ptr id 0)=some (J p.size):=by obtain⟨x,h1,_⟩:=h;rw[h1.load];rfl
theorem eu.AG(h:eu H0 H id p):O H 1 false (.ptr id 1)=some (J p.bP):=by obtain⟨x,h1,_⟩:=h;rw[h1.load];rfl
theorem eu.nW(h:eu H0 H id p):O H 1 false (.ptr id 3)=some (J p.bit):=by obtain⟨x,h1,_⟩:=h;rw[h1.load];rfl
theorem eu.HR(h:eu H0 H id p)(v:Int)(b:∀H',eu H0 H' id {p with size:=v}→jG H H' id→K H'):Do (Y H 1 (.ptr id 0) (J v)) K:=by obtain⟨x,h1,c,a⟩:=h;refine⟨_,by rw[h1.store,aa ⟨rfl,rfl,rfl,by simp⟩];rfl,b _ ⟨x,h1.set _,c.other h1 a _,a⟩ λi cs hi ha=>ha.bZ hi _⟩
theorem eu.RN(h:eu H0 H id p)(v:Int)(b:∀H',eu H0 H' id {p with bP:=v}→jG H H' id→K H'):Do (Y H 1 (.ptr id 1) (J v)) K:=by obtain⟨x,h1,c,a⟩:=h;refine⟨_,by rw[h1.store,aa ⟨rfl,rfl,rfl,by simp⟩];rfl,b _ ⟨x,h1.set _,c.other h1 a _,a⟩ λi cs hi ha=>ha.bZ hi _⟩
theorem eu.rU(h:eu H0 H id p)(v:Int)(b:∀H',eu H0 H' id {p with bit:=v}→jG H H' id→K H'):Do (Y H 1 (.ptr id 3) (J v)) K:=by obtain⟨x,h1,c,a⟩:=h;refine⟨_,by rw[h1.store,aa ⟨rfl,rfl,rfl,by simp⟩];rfl,b _ ⟨x,h1.set _,c.other h1 a _,a⟩ λi cs hi ha=>ha.bZ hi _⟩
theorem eu.app(h:eu H0 H id p)(hl:p.dv.length<1000)(s:be)(g:∀H',eu H0 H' id {p with dv:=p.dv++[s]}→jG H H' id→K H') :
  Do (O H 1 false (.ptr id 2)) λj=>
  ar (dk H false 6 1 [D,D,D,P,D,D] [(0,6,.agg s.cells)]) λk l=>
  ar (cr l false 6 48 j k) λn o=>
  Do (Y o 1 (.ptr id 2) n) K:=by
 obtain⟨x,h1,q,e⟩:=h;have e1:O H 1 false (.ptr id 2)=some x:=by rw[h1.load];rfl
 have r:dk H false 6 1 [D,D,D,P,D,D] [(0,6,.agg s.cells)]=some (.ak .full 1 s.cells,H):=rfl;rw[e1,r];simp only[T,aR];refine q.RM (m:=1) (news:=s.cells) rfl rfl rfl (by decide) (by omega) (by omega) λc H' f hk=>?_;have a1:=hk id _ h1 (by intro a b h;cases h);have d:c.scalar=true∧c.known=true∧c.cells=[c]:=by obtain⟨_,tk,rfl,_⟩:=f;exact⟨rfl,rfl,rfl⟩
 refine⟨_,by rw[a1.store,aa ⟨d.2.1,by rw[d.2.2];rfl,by rw[d.2.2];simp[d.1],by simp⟩,d.2.2];rfl,g _ ⟨c,a1.set _,?_,e⟩ λi cs hi ha=>(hk i _ ha (by intro a b h;cases h)).bZ hi _⟩;have:=f.other a1 e (.row [J p.size,J p.bP,c,J p.bit]);simpa using this
end
end Rb

namespace Rb
open Go
theorem wK(a b:Int):bo [D,D] [(0,1,J a),(1,1,J b)]=some (.agg [J a,J b]):=rfl
theorem RO(a:Int):bo [D,D] [(0,1,J a)]=some (.agg [J a,D]):=rfl
theorem RP(a l k b:Int):bo [D,D,D,P,D,D] [(0,2,.agg [J a,J l]),(2,1,J k),(3,1,br),(4,1,J b)]=some (.agg [J a,J l,J k,br,J b,D]):=rfl
theorem RQ(a l k b w:Int):bo [D,D,D,P,D,D] [(0,2,.agg [J a,J l]),(2,1,J k),(3,1,br),(4,1,J b),(5,1,J w)]=some (.agg [J a,J l,J k,br,J b,J w]):=rfl
theorem RR(a l k:Int):bo [D,D,D,P,D,D] [(0,2,.agg [J a,J l]),(2,1,J k)]=some (.agg [J a,J l,J k,P,D,D]):=rfl
theorem HS(f:aw)(i j:Nat):W i (.ae (f.cells.drop j))=some (.ae ((f.cells.drop j).drop i)):=rfl
theorem HT(f:aw)(i:Nat):W i (.ae f.cells)=some (.ae (f.cells.drop i)):=rfl
theorem RT(f:aw)(H:Z):O H 1 false (.ae (f.cells.drop 7))=some (.bool f.bits):=by cases f with|mk n t b w=>cases t;rfl
theorem AJ(f:aw)(H:Z):O H 1 false (.ae (f.cells.drop 8))=some (J f.aM):=by cases f with|mk n t b w=>cases t;rfl
theorem HU(f:aw)(H:Z):O H 1 false (.ae ((f.cells.drop 1).drop 1))=some (J f.type.size):=by cases f with|mk n t b w=>cases t;rfl
theorem HV(i o:Nat):aZ (.ptr i o)=some (.ptr i o):=rfl
section
variable{Φ:ai}{H0 H:Z}{Q:ad}
theorem RU(hT:Cl Φ S.bu){f:aw}{p:PL}{id:Nat}(hp:eu H0 H id p)(hl:p.dv.length<1000)(e:V (8*f.type.size)≠0)(hQ:∀H',eu H0 H' id (lA p f)→jG H H' id→Q (.aq []) H'):S.f166 Φ (.ptr id 0) (.agg f.cells) H Q:=by
 unfold S.f166;simp only[wH,aR,HT,HS,HU,AJ,jF,cI,T,aD,HV,W,YI];apply aI<;>intro h
 · have hw:f.aM=0:=by simpa using h
   simp only[hp.nW,T];refine S.pZ hT (p7 e ?_);refine hp.rU _ λH1 a c=>?_;have g:=a.nW;simp only[g,T,mc _ _ _ (show(8:Int)≠0 by decide),wi _ _ _ (show(8:Int)≠0 by decide),RO,RP];refine a.app hl ⟨V ((ca p.bit (V (8*f.type.size))).tdiv 8),0,1,true,(ca p.bit (V (8*f.type.size))).tmod 8,0⟩ λH2 d i=>hQ H2 ?_ (c.trans i);unfold lA;rw[aa hw];exact d
 · have hw:¬f.aM=0:=by simpa using h
   simp only[hp.nW,T,mc _ _ _ e,b4,fO,d_,aD];have k1:∀(b:Int)(H1:Z),b=hR p f→eu H0 H1 id {p with bit:=b}→jG H H1 id→N (S.vO Φ (.ptr id 0) (.ae f.cells) Q) [] H1:=by intro b H1 hb a c;have g:=a.nW;simp only[aT,S.vO,HV,W,YI,T,g,mc _ _ _ (show(8:Int)≠0 by decide),wi _ _ _ (show(8:Int)≠0 by decide),AJ,b4,fO,wK,RQ];refine a.app hl ⟨V (b.tdiv 8),V (V (V ((V (V (b+f.aM)-1)).tdiv 8)-V (b.tdiv 8))+1),1,true,b.tmod 8,f.aM⟩ λH2 d i=>?_;have j:=d.nW;simp only[j,T,b4];refine d.rU _ λk l m=>hQ k ?_ ((c.trans i).trans m);unfold lA;rw[ab hw,←hb];exact l
   apply aI<;>intro h
   · refine S.pZ hT (p7 e ?_);refine hp.rU _ λH1 a c=>k1 _ H1 ?_ a c;unfold hR;rw[aa (by simpa using h)]
   · refine k1 p.bit H ?_ hp (jG.refl _ _);unfold hR;rw[ab (by simpa using h)]
theorem RV{t:U}{f:aw}{bP:Int}(hQ:Q (J (eN t.packed f bP)) H):S.f165 Φ (.agg t.cells) (.agg f.cells) (J bP) H Q:=by
 have fin:∀v,v=eN t.packed f bP→Q (J v) H:=λv h=>by rw[h];exact hQ
 clear hQ;unfold S.f165;simp only[gC,wH,aR,dX,wt,HT,RT,AJ,cI,T,cv,cP,aT,S.vN,aF,aD,HS,HU,ZP,bR,a_];unfold eN at fin
 repeat' (apply aI<;>intro h)
 all_goals (refine fin _ ?_;simp_all)
end
end Rb

namespace Rb
open Go
def lD(r:(Int×Int)×Bool):I:= .aq [.agg [J r.1.1,J r.1.2],.bool r.2]
theorem wL{packed:Bool}:∀{l:List aw}{seen:List (List UInt8)},fo packed seen l=0→∀f∈l,f.bits=true→f.type.kind=1∧1≤f.type.size∧f.type.size≤8
 |[],_,_,f,hf=>by cases hf
 | g :: r, seen,h,f,hf=>by
  intro hb;have hs:=rT h f hf;simp only[fo]at h;have a:gb packed seen g=0:=by
   by_cases hz:gb packed seen g=0
   ·exact hz
   ·rw[aa hz]at h;exact absurd h hz
  rw[ab (by simpa using a)]at h;rcases aah.1 hf with rfl|hf
  · have hk : f.type.kind=1:=by
      by_cases hk:f.type.kind=1
      ·exact hk
      · exfalso;rw[mQ]at a;split at a
        ·cases a
        · split at a
          ·cases a
          · split at a
            ·rename_i hz;exact hz a
            ·rw[aa (.inr ⟨hb,.inl hk⟩)]at a;cases a
    refine⟨hk,?_⟩;rw[gD,hk]at hs;split at hs
    ·cases hs
    · simp only[a_]at hs;split at hs
      · rename_i hp;simp[fm]at hp;omega
      ·cases hs
  ·exact wL h f hf hb
theorem AK{t:U}(h:c8 t=0)(b:t.kind=3∨t.kind=4):fo t.packed [] t.aE=0:=by
 rw[gD]at h;have k1:t.kind≠1:=by omega
 have k2:t.kind≠2:=by omega
 have a:t.kind≠5:=by omega
 rw[ab k1,ab k2,ab a]at h;split at h
 ·cases h
 · split at h
   ·cases h
   ·exact h
theorem HW(a b:Int):fy true [J a,J b]=some (J (max a b)):=Ar a b
section
variable{Φ:ai}{H:Z}{Q:ad}
def iq:List I:=[D,D,aS,D]
theorem AL(hT:Cl Φ S.bu){t:U}(hs:c8 t=0)(r:t.kind=3∨t.kind=4)
  (ag:∀f∈t.aE,bB Φ 86 [.agg f.type.cells] (lD (A f.type))) (ah:∀f∈t.aE,(A f.type).2=true→1≤(A f.type).1.2)
  (ai:dY t.packed t.kind ⟨0,1,[],0⟩ t.aE=none→∀H',Z.Ext H H'→Q (.aq [.agg iq,P]) H')
  (aj:∀p,dY t.packed t.kind ⟨0,1,[],0⟩ t.aE=some p→∀x H',hP H H' 6 x p.dv.length (p.dv.flatMap be.cells) →
    Q (.aq [.agg [J (ca p.size p.bP),J p.bP,x,J p.bit],.bool (decide (ca p.size p.bP≤65536))]) H'):S.f115 Φ (.agg t.cells) H Q:=by
 obtain⟨aW,hlen⟩:=mR hs r;have I:=AK hs r;unfold S.f115;have ak:bo [D,D,aS,D] [(0,2,.agg [D,J 1])]=some (.agg [D,J 1,aS,D]):=rfl;simp only[gC,aR,aL,a_,wK,ak,T];rw[cS _ _ _ 4 rfl rfl rfl];simp only[T,dX,kC,cU];have a3:At ((H.push (.row iq)).push (.row [D,J 1,aS,D])) H.n (.row iq):=(At.new H _).push _;have al:eu H ((H.push (.row iq)).push (.row [D,J 1,aS,D])) (H.push (.row iq)).n ⟨0,1,[],0⟩:=⟨_,At.new _ _,((hP.nil H 6).push _).push _,YB _⟩
 have d:H.n≠(H.push (.row iq)).n:=by simp
 have K:H.n≤H.n:=sl _;change aC (S.nM Φ (.ae t.cells) (.ptr H.n 0) (.ptr (H.push (.row iq)).n 0) (au aw.cells t.aE) (J t.aE.length) Q) ([D],(H.push (.row iq)).push (.row [D,J 1,aS,D]));generalize ((H.push (.row iq)).push (.row [D,J 1,aS,D]))=am at *;generalize (H.push (.row iq)).n=a at *;have main : ∀(fs:List aw)(i:Nat)(p:PL)(H1:Z),t.aE.drop i=fs→At H1 H.n (.row iq)→eu H H1 a p→p.dv.length≤i→1≤p.bP→dY t.packed t.kind p fs=dY t.packed t.kind ⟨0,1,[],0⟩ t.aE →
   aC (S.nM Φ (.ae t.cells) (.ptr H.n 0) (.ptr a 0) (au aw.cells t.aE) (J t.aE.length) Q) ([J i],H1):=by
  intro fs;induction fs with
  | nil=>
   intro i p H1 z b3 m an ao g;have hle:=er z;simp only[dY]at g;refine aC.step ?_;simp only[S.nM,aF,bD,T,aD];rw[ee];simp only[aT,S.Ge,W,YI,T,m.wJ,m.AG];refine S.pZ hT (p7 (by omega) ?_);refine m.HR _ λH2 s r=>?_;have c3:=r H.n _ d b3;obtain⟨x,d1,d2,d3⟩:=s;have B:x.scalar=true:=by obtain⟨_,tk,rfl,_⟩:=d2;rfl
   rw[d1.all (n:=4) rfl];simp only[T];have l0:O H2 1 false (.ptr a 0)=some (J (ca p.size p.bP)):=by rw[d1.load];rfl
   rw[l0];simp only[T,j7];rw[c3.put (n:=4) rfl rfl (by simp only[aaG,B];rfl)];simp only[T];refine⟨by rw[(d1.bZ (λe=>d e.symm) _).load];rfl,?_⟩;rw[(c3.set _).all (n:=4) rfl];simp only[T];exact aj p g.symm x _ (d2.other c3 K _)
  | cons f fs ap=>
   intro i p H1 z b3 m an ao g;obtain⟨ar,hf,av⟩:=ed z;have u:=aaH hf;simp only[dY,p8]at g;refine aC.step ?_;simp only[S.nM,aF,bD,T,aD];rw[dW,cQ ar];simp only[T];rw[dD aw.len (by decide) _ hf];simp only[T,aR,aL,a_];rw[cS _ _ _ 9 f.len f.scalar rfl];simp only[T,W,YI];rw[eL,wu];simp only[T];have n7:a≠H1.n:=by obtain⟨x,d1,_⟩:=m;exact d1.lv
   have ax:=At.new H1 (.row f.cells);have c3:=b3.push (.row f.cells);have s:=m.push (.row f.cells);generalize H1.push (.row f.cells)=H2 at *;generalize H1.n=o at *;refine ag f u _ _ ?_;simp only[lD,bj,abj,abk,T,aR];rw[cS _ _ _ 2 rfl rfl rfl];simp only[T,ec,aD];have n31:a≠H2.n:=by obtain⟨x,d1,_⟩:=s;exact d1.lv
   have d31:=At.new H2 (.row [J (A f.type).1.1,J (A f.type).1.2]);have d22:=ax.push (.row [J (A f.type).1.1,J (A f.type).1.2]);have d3:=c3.push (.row [J (A f.type).1.1,J (A f.type).1.2]);have d7:=s.push (.row [J (A f.type).1.1,J (A f.type).1.2]);generalize H2.push (.row [J (A f.type).1.1,J (A f.type).1.2])=ay at *;generalize H2.n=j at *;apply aI<;>intro h
   · have az:(A f.type).2=false:=by simpa using h
     rw[ab (by simp[az])]at g;have aA:bo [D,D,aS,D] []=some (.agg iq):=rfl;rw[aA];simp only[T];rw[d3.put (n:=4) rfl rfl rfl];simp only[T];rw[(d3.set _).all (n:=4) rfl];simp only[T];obtain⟨aX,_,⟨B,_⟩,_⟩:=d7;exact ai g.symm _ (B.set K _)
   · have L:(A f.type).2=true:=by simpa using h
     rw[aa L]at g;have aB:=ah f u L;have aG:O ay 1 false (.ptr j 1)=some (J (A f.type).1.2):=by rw[d31.load];rfl
     simp only[iT,d22.all f.len,aG,T];have aY:1≤eN t.packed f (A f.type).1.2:=by
      unfold eN;split
      ·omega
      · split
        ·rename_i hb;exact(wL I f u hb).2.1
        ·exact aB
     refine S.Qs hT (RV ?_);simp only[d7.AG,T,HW];refine d7.RN _ λaH M v=>?_;have N:=v H.n _ d d3;have R:=v o _ (λe=>n7 e.symm) d22;have X:=v j _ (λe=>n31 e.symm) d31;clear v d7 d3 d22 d31;have Y:∀(b:Int)(c:Z),b=(if t.kind=4 then 0 else p.bit)→eu H c a {p with bP:=max p.bP (eN t.packed f (A f.type).1.2),bit:=b}→At c H.n (.row iq)→At c o (.row f.cells)→At c j (.row [J (A f.type).1.1,J (A f.type).1.2]) →
       S.vm Φ (.ptr a 0) (.ptr o 0) (.ptr j 0) (J (eN t.packed f (A f.type).1.2)) ([J i],H1) (aC (S.nM Φ (.ae t.cells) (.ptr H.n 0) (.ptr a 0) (au aw.cells t.aE) (J t.aE.length) Q)) Q [] c:=by
      intro b c hb g7 g3 g22 ac;have k2:∀(q:PL)(k:Z),lB q=im t.packed t.kind p f (A f.type).1→eu H k a q→At k H.n (.row iq)→q.dv.length≤i+1→1≤q.bP →
        S.vk Φ (.ptr a 0) ([J i],H1) (aC (S.nM Φ (.ae t.cells) (.ptr H.n 0) (.ptr a 0) (au aw.cells t.aE) (J t.aE.length) Q)) Q [] k:=by
       intro q k aJ l aK aM aN;simp only[S.vk,W,YI,T,l.wJ,l.nW];refine S.pZ hT (p7 (by decide) ?_);refine⟨l.wJ,?_⟩;simp only[mc _ _ _ (show(8:Int)≠0 by decide),T,HW];refine l.HR _ λC E F=>?_;simp only[aT,S.Gc,aF,b4,T];rw[bH,iS i];refine ap (i+1) (lB q) C av (F H.n _ d aK) E aM aN ?_;rw[aJ];exact g
      have ad:1≤max p.bP (eN t.packed f (A f.type).1.2):=by omega
      have aO:O c 1 false (.ptr o 7)=some (.bool f.bits):=by rw[g22.load,Aq]
      simp only[S.vm,W,YI,T,aO,aD];apply aI<;>intro w
      · obtain ⟨aZ,a0,a1⟩:=wL I f u w;have hu:V (8*f.type.size)≠0:=by
         show Y6 .i64 (8*f.type.size)≠0;rw[bH];omega
        rw[g22.all f.len];simp only[T];refine S.Qt hT (RU hT g7 (by show p.dv.length<1000;omega) hu λk l y=>?_);simp only[aT];refine k2 _ k ?_ l (y H.n _ d g3) ?_ ?_
        · unfold im;simp only[w,a_,hb]
        · unfold lA;split<;>(simp only[abC,abD,ab1];omega)
        · unfold lA;split<;>exact ad
      · simp only[abQ]at w;have aP:O c 1 false (.ptr j 0)=some (J (A f.type).1.1):=by rw[ac.load];rfl
        have aQ:O c 1 false (.ptr o 1)=some (J f.type.kind):=by rw[g22.load,HD]
        simp only[g7.nW,T];refine S.pZ hT (p7 (by decide) ?_);simp only[mc _ _ _ (show(8:Int)≠0 by decide),T];refine S.pZ hT (p7 (by omega) ?_);simp only[aP,aQ,T,wK,RR];refine g7.app (by show p.dv.length<1000;omega) ⟨ca (V ((ca b 8).tdiv 8)) (eN t.packed f (A f.type).1.2),(A f.type).1.1,f.type.kind,false,0,0⟩ λk l y=>?_;have aU:=y j _ (λe=>n31 e.symm) ac;have aV:O k 1 false (.ptr j 0)=some (J (A f.type).1.1):=by rw[aU.load];rfl
        simp only[aV,T,b4,jF];refine l.rU _ λC E F=>?_;simp only[aT];refine k2 _ C ?_ E (F H.n _ d (y H.n _ d g3)) ?_ ad
        · unfold im;simp only[w,ZP,bR,hb];rfl
        · show(p.dv++[_]).length≤i+1;simp only[abC,abD,ab1];omega
     simp only[dX,kB,cI,T,aD,aT];apply aI<;>intro af
     · refine M.rU _ λc g7 G=>Y _ c ?_ g7 (G H.n _ d N) (G o _ (λe=>n7 e.symm) R) (G j _ (λe=>n31 e.symm) X);rw[aa (by simpa using af)]
     · refine Y p.bit aH ?_ M N R X;rw[ab (by simpa using af)]
 exact main t.aE 0 _ am rfl a3 al (sl _) (by decide) rfl
end
end Rb

namespace Rb
open Go
theorem nX{t:U}(h:c8 t=0):t.kind=1∨t.kind=2∨t.kind=5∨t.kind=3∨t.kind=4:=by
 rw[gD]at h;split at h
 ·cases h
 · rename_i a;simp only[abR]at a;unfold il at a;by_cases h1:t.kind=1
   ·exact .inl h1
   by_cases b:t.kind=2
   ·exact .inr (.inl b)
   by_cases c:t.kind=3
   ·exact .inr (.inr (.inr (.inl c)))
   by_cases d:t.kind=4
   ·exact .inr (.inr (.inr (.inr d)))
   by_cases e:t.kind=5
   ·exact .inr (.inr (.inl e))
   simp[h1,b,c,d,e]at a
section
variable{Φ:ai}{H:Z}{Q:ad}
theorem AM:bo [D,D] []=some (.agg [D,D]):=rfl
theorem RW(hT:Cl Φ S.bu){t:U}(hs:c8 t=0)
  (u:∀f∈t.aE,bB Φ 86 [.agg f.type.cells] (lD (A f.type))) (v:∀f∈t.aE,(A f.type).2=true→1≤(A f.type).1.2)
  (w:∀e∈t.aU,bB Φ 86 [.agg e.cells] (lD (A e))) (hQ:∀H',Q (lD (A t)) H'):S.f86 Φ (.agg t.cells) H Q:=by
 have fin:∀r,r=A t→∀H',Q (lD r) H':=λr h=>by rw[h];exact hQ
 clear hQ;rw[lC]at fin;unfold S.f86;simp only[gC,aR,aL,a_,dX,kB,cI,T,aD];have a3:=At.new H (.row [D,D]);generalize H.push (.row [D,D])=c at *;generalize H.n=q at *;have k2 : ∀b:Bool,(b=true↔(t.kind=1∨t.kind=2))→N (S.u2 Φ (.ae t.cells) (.ptr q 0) (J t.kind) Q) [.bool b] c:=by
  intro b hb;simp only[aT,S.u2,aF,aD];apply aI<;>intro h
  · have d:=hb.1 h;rw[aa d]at fin;simp only[dX,p3,T,wK];rw[a3.put (n:=2) rfl rfl rfl];simp only[T];rw[(a3.set _).all (n:=2) rfl];simp only[T];exact fin _ rfl _
  · have d:¬(t.kind=1∨t.kind=2):=λy=>h (hb.2 y);rw[ab d]at fin;simp only[cI,T,aD];apply aI<;>intro h
    · have g:t.kind=5:=by simpa using h
      rw[aa g]at fin;obtain⟨e,he,_⟩:=lz hs g;simp only[dX,ly,T];have ha:aP none 6 (au U.cells t.aU) (D)=some (dN U.cells 6 t.aU 0):=cQ (by rw[he];simp);rw[ha];simp only[T];rw[dD U.len (by decide) _ (show t.aU[0]?=some e by rw[he];rfl)];simp only[T];refine w e (by rw[he];simp) _ _ ?_;rw[he]at fin;simp only[fc]at fin;simp only[lD,bj,abj,abk,T,aR,aL,a_];rw[cS _ _ _ 2 rfl rfl rfl];simp only[T,W,YI,dX,rR];have n28:q≠c.n:=a3.lv;have l:=At.new c (.row [J (A e).1.1,J (A e).1.2]);have b3:=a3.push (.row [J (A e).1.1,J (A e).1.2]);generalize c.push (.row [J (A e).1.1,J (A e).1.2])=k at *;generalize c.n=i at *;have l1:O k 1 false (.ptr i 0)=some (J (A e).1.1):=by rw[l.load];rfl
      simp only[l1,T,jF];have s1:Y k 1 (.ptr i 0) (J (V ((A e).1.1*t.ba)))=some (k.set i (.row [J (V ((A e).1.1*t.ba)),J (A e).1.2])):=by rw[l.store,aa ⟨rfl,rfl,rfl,by simp⟩];rfl
      rw[s1];simp only[T];have m:=l.set (.row [J (V ((A e).1.1*t.ba)),J (A e).1.2]);have c3:=b3.bZ n28 (.row [J (V ((A e).1.1*t.ba)),J (A e).1.2]);generalize k.set i (.row [J (V ((A e).1.1*t.ba)),J (A e).1.2])=z at *;rw[m.all (n:=2) rfl];have l2:O z 1 false (.ptr i 0)=some (J (V ((A e).1.1*t.ba))):=by rw[m.load];rfl
      simp only[T,cP];apply aI<;>intro h
      · simp only[l2,T,j7];rw[c3.put (n:=2) rfl rfl rfl];simp only[T];refine⟨λ_=>?_,?_⟩
        ·rw[(m.bZ n28.symm _).load];rfl
        · rw[(c3.set _).all (n:=2) rfl];simp only[T];exact fin ((V ((A e).1.1*t.ba),(A e).1.2),decide (V ((A e).1.1*t.ba)≤65536)) (by rw[h,Bool.true_and];rfl) _
      · simp only[abQ]at h;rw[c3.put (n:=2) rfl rfl rfl];simp only[T];refine And.intro (λy=>nomatch y) ?_;rw[(c3.set _).all (n:=2) rfl];simp only[T];exact fin ((V ((A e).1.1*t.ba),(A e).1.2),false) (by rw[h,Bool.false_and]) _
    · have g:¬t.kind=5:=by simpa using h
      rw[ab g]at fin;have hk:t.kind=3∨t.kind=4:=by
       rcases nX hs with h|h|h|h
       ·exact absurd (.inl h) d
       ·exact absurd (.inr h) d
       ·exact absurd h g
       ·exact h
      simp only[aT,S.FE,iT,T];refine S.Ai hT (AL hT hs hk u v ?_ ?_)
      · intro hn H' o;rw[hn]at fin;simp only[bj,abj,abk,T,aR,aL,a_];rw[cS _ _ _ 4 rfl rfl rfl];simp only[T,W,YI];rw[eL];have tk:bU iq 0 2 true=some (.agg [D,D]):=rfl;rw[tk];simp only[T];have j:=(a3.ext o).push (.row iq);rw[j.put (n:=2) rfl rfl rfl];simp only[T];rw[(j.set _).all (n:=2) rfl];simp only[T];exact fin ((0,0),false) rfl _
      · intro p hp x H' s;rw[hp]at fin;have o:=s.1;have B:x.scalar=true:=by obtain⟨_,tk,rfl,_⟩:=s;rfl
        simp only[bj,abj,abk,T,aR,aL,a_];rw[cS _ _ _ 4 rfl (by simp only[aaG,B];rfl) rfl];simp only[T,W,YI];rw[eL];have tk:bU [J (ca p.size p.bP),J p.bP,x,J p.bit] 0 2 true=some (.agg [J (ca p.size p.bP),J p.bP]):=rfl;rw[tk];simp only[T];have j:=(a3.ext o).push (.row [J (ca p.size p.bP),J p.bP,x,J p.bit]);rw[j.put (n:=2) rfl rfl rfl];simp only[T];rw[(j.set _).all (n:=2) rfl];simp only[T];exact fin ((ca p.size p.bP,p.bP),decide (ca p.size p.bP≤65536)) rfl _
 apply aI<;>intro h
 ·exact k2 _ ⟨λ_=> .inl (by simpa using h),λ_=>h⟩
 · refine k2 _ ⟨λa=> .inr (by simpa using a),λa=>?_⟩;rcases a with a|a
   ·exact absurd (by simpa using a) h
   ·simpa using a
end
end Rb

namespace Rb
open Go
theorem RX(packed:Bool)(kind:Int)(p:PL)(f:aw)(g:Int×Int):p.bP≤(im packed kind p f g).bP:=by
 have h:(im packed kind p f g).bP=max p.bP (eN packed f g.2):=by
  unfold im;simp only;split
  · unfold lB lA;split<;>rfl
  ·rfl
 rw[h];omega
theorem HX{packed:Bool}{kind:Int}:∀{l:List aw}{p q:PL},dY packed kind p l=some q→p.bP≤q.bP
 |[],p,q,h=>by simp only[dY,Yb.injEq]at h;rw[h];exact Int.le_refl _
 | f::r,p,q,h=>by
  simp only[dY]at h;split at h
  ·exact Int.le_trans (RX packed kind p f _) (HX h)
  ·cases h
theorem wM:∀t:U,c8 t=0→(A t).2=true→1≤(A t).1.2:=by
 refine U.ind λt f c hs h=>?_;rw[lC]at h ⊢;split at h
 · rename_i a;rw[aa a];rw[gD]at hs;split at hs
   ·cases hs
   · have hp:fm t.size 8=true∨fm t.size 16=true:=by
       rcases a with h1|h1
       · rw[aa h1]at hs;split at hs
         ·exact .inl ‹_›
         ·cases hs
       · rw[bw,aa h1]at hs;split at hs
         ·exact .inr ‹_›
         ·cases hs
     show 1≤t.size;rcases hp with hp|hp<;>(simp[fm]at hp;omega)
 · rename_i a;rw[ab a];split at h
   · rename_i b;rw[aa b];obtain⟨e,he,d⟩:=lz hs b;rw[he]at h ⊢;simp only[fc,X1]at h ⊢;exact c e (by rw[he];simp) d h.1
   · rename_i b;rw[ab b];cases hp:dY t.packed t.kind ⟨0,1,[],0⟩ t.aE with
     |none=>rw[hp]at h;cases h
     |some p=>exact HX hp
section
variable{C:Ctx}(aj:bN C)(hT:Cl (af C) S.bu)
include aj hT
theorem wN:∀t:U,c8 t=0→bB (af C) 86 [.agg t.cells] (lD (A t)):=by
 refine U.ind λt c d hs=>?_;refine bB.of aj (by simp[I.bA,I.bb,U.bb]) rfl λQ hQ=>S.Pu hT ?_;have a:il t.kind t.size t.packed t.aE.length t.ba t.aU.length=true:=by
  rw[gD]at hs;split at hs
  ·cases hs
  ·rename_i h;simpa using h
 unfold il at a;have b:∀f∈t.aE,c8 f.type=0:=by
  intro f hf;rcases nX hs with h|h|h|h
  · simp only[h,true_or,a_,X1,bG,Zi]at a;rw[a.1.1.2]at hf;cases hf
  · simp only[h,or_true,a_,X1,bG,Zi]at a;rw[a.1.1.2]at hf;cases hf
  · rw[bw,bw,aa h]at a;simp only[X1,bG,Zi]at a;rw[a.1.2]at hf;cases hf
  ·exact(mR hs h).1 f hf
 have g:∀e∈t.aU,c8 e=0:=by
  intro e he;rcases nX hs with h|h|h|h
  · simp only[h,true_or,a_,X1,bG,Zi]at a;rw[a.2]at he;cases he
  · simp only[h,or_true,a_,X1,bG,Zi]at a;rw[a.2]at he;cases he
  · obtain⟨k,i,j⟩:=lz hs h;rw[i]at he;rcases aah.1 he with rfl|he
    ·exact j
    ·cases he
  · rw[bw,aa h]at a;simp only[X1,bG,Zi]at a;rw[a.2]at he;cases he
 exact RW hT hs (λf hf=>c f hf (b f hf)) (λf hf=>wM f.type (b f hf)) (λe he=>d e he (g e he)) hQ
end
end Rb

namespace Rb
open Go
def aX(t:U):(Int×Int)×Int:=if eg t≠0 then((0,0),eg t)else if gg t=true then((0,0),10)else if(A t).2=false then((0,0),9)else((A t).1,0)
theorem fD{t:U}(h:eg t=0):c8 t=0:=by
 unfold eg at h;split at h
 ·cases h
 ·exact h
section
variable{C:Ctx}(aj:bN C)(hT:Cl (af C) S.bu)
include aj hT
theorem AN(t:U)(ht:t.ok){H:Z}{Q:ad}(hQ:∀H',Q (.aq [.agg [J (aX t).1.1,J (aX t).1.2],J (aX t).2]) H'):S.f56 (af C) (.agg t.cells) H Q:=by
 have fin:∀r,r=aX t→∀H',Q (.aq [.agg [J r.1.1,J r.1.2],J r.2]) H':=λr h=>by rw[h];exact hQ
 clear hQ;unfold aX at fin;unfold S.f56;simp only[gC,aR,aL,a_,iT,T];have a3:=At.new H (.row [D,D]);generalize H.push (.row [D,D])=a at *;generalize H.n=c at *;refine HI aj hT t ht _ _ ?_;simp only[d_,T,aD];apply aI<;>intro h
 · have hs:eg t≠0:=by simpa using h
   rw[aa hs]at fin;simp only[AM,T];rw[a3.put (n:=2) rfl rfl rfl];simp only[T];rw[(a3.set _).all (n:=2) rfl];simp only[T];exact fin _ rfl _
 · have hs:eg t=0:=by simpa using h
   rw[ab (by simpa using hs)]at fin;refine RL hT t ht _ _ ?_;simp only[aD];apply aI<;>intro h
   · rw[aa h]at fin;simp only[AM,T];rw[a3.put (n:=2) rfl rfl rfl];simp only[T];rw[(a3.set _).all (n:=2) rfl];simp only[T];exact fin _ rfl _
   · rw [ab h]at fin;refine wN aj hT t (fD hs) _ _ ?_;simp only[lD,bj,abj,abk,T,aR,aL,a_];rw[cS _ _ _ 2 rfl rfl rfl];simp only[T,ec,aD];have b:=At.new a (.row [J (A t).1.1,J (A t).1.2]);have b3:=a3.push (.row [J (A t).1.1,J (A t).1.2]);generalize a.push (.row [J (A t).1.1,J (A t).1.2])=d at *;generalize a.n=e at *;apply aI<;>intro h
     · rw[aa (by simpa using h)]at fin;simp only[AM,T];rw[b3.put (n:=2) rfl rfl rfl];simp only[T];rw[(b3.set _).all (n:=2) rfl];simp only[T];exact fin _ rfl _
     · rw[ab (by simpa using h)]at fin;rw[b.all (n:=2) rfl];simp only[T];rw[b3.put (n:=2) rfl rfl rfl];simp only[T];rw[(b3.set _).all (n:=2) rfl];simp only[T];exact fin _ rfl _
theorem wO(t:U)(ht:t.ok):bB (af C) 38 [.agg t.cells] (.aq [J (aX t).1.1,J (aX t).1.2,J (aX t).2]):=by refine bB.of aj (by simp[I.bA,I.bb,U.bb]) rfl λQ hQ=>S.O9 hT ?_;unfold S.f38;simp only[gC,aR,iT,T];refine S.Ah hT (AN aj hT t ht λH'=>?_);simp only[bj,abj,abk,T,aR,aL,a_];rw[cS _ _ _ 2 rfl rfl rfl];simp only[T,W,YI,eL];exact⟨_,rfl,_,rfl,hQ _⟩
end
end Rb

namespace Rb
open Go
structure u where
 g:List (List UInt8)
 lets:Int
 X:Int
 lG:Int
 bI:Int
def u.cJ(s:u)(a:Bool)(e:Int):u:=if a=false∧s.bI=0 then {s with lG:=s.X,bI:=e} else s
def u.back(s:u)(n:Nat):u:={s with g:=s.g.take n}
def u.at(s:u)(l:Int):u:={s with X:=l}
def u.AO(s:u)(x:List UInt8):u:={s with g:=s.g++[x],lets:=V (s.lets+1)}
def u.has(s:u)(x:List UInt8):Bool:=s.g.any λy=>x==y
def ir(k o:Int):Bool:=
 if k=4∨k=6 then o==1||o==3||o==4
 else if k=5∨k=15 then o==1||o==2||o==4
 else if k=16∨k=17∨k=18 then decide (1≤o)&&decide (o≤4)
 else if k=7 then decide (2≤o)&&decide (o≤4)
 else o==0
def kD(x:aN):Bool:=x.var==[]&&x.aB.length==0
def eG(k:Int):Bool×Bool×Bool×Int×Bool×Bool:=
 if k=1∨k=2 then(true,false,false,1,false,false)
 else if k=3∨k=4 then(false,false,true,1,false,false)
 else if k=5 then(true,true,true,0,false,false)
 else if k=6 then(false,false,true,2,false,false)
 else if k=7 then(false,false,false,0,false,false)
 else if k=8 then(false,false,false,1,true,true)
 else if k=9 then(false,false,false,1,true,false)
 else(false,false,false,1,false,false)
def jj(x:ay):Bool:=decide (1≤x.kind)&&decide (x.kind≤10)&&((eG x.kind).1||x.E==[])&&((eG x.kind).2.1||x.cg==[])&&((eG x.kind).2.2.1||kD x.place)&&((x.bf.length:Int)==(eG x.kind).2.2.2.1)&&((eG x.kind).2.2.2.2.1||x.bg.length==0)&&((eG x.kind).2.2.2.2.2||x.bx.length==0)
def iu(k:Int):Int×Bool:=if k=3 then(2,false)else if k=4∨k=5 then(0,true)else if k=6∨k=7 then(1,true)else if k=8 then(2,true)else(0,false)
def hU(e:ax):Bool:=decide (1≤e.kind)&&decide (e.kind≤8)&&(e.kind==1||e.n==0)&&(e.kind==2||e.E==[])&&(if e.kind=3 then decide (1≤e.op)&&decide (e.op≤11)else e.op==0)&&((iu e.kind).2||kD e.place)&&((e.bq.length:Int)==(iu e.kind).1)
def jk(k:Int)(t:U):Bool:=if k=3∨k=14 then t.kind==1 else if k=5∨k=6 then t.kind==2&&t.size==16 else t.kind==2&&decide (t.size≤8)
section
variable(vars:List B)
def ka(s:u)(k:Int)(x:aN):u:=
 let s1:=s.cJ ((bK vars x).1==0) (bK vars x).1
 s1.cJ (s1.bI != 0||jk k (bK vars x).2) 8
def eB(s:u)(d:Int)(e:ax):u:=((s.cJ (decide (d≤64)) 5).cJ (hU e) 4).cJ (ir (V (10+e.kind)) e.aV) 11
mutual
def lH(s:u)(d:Int):ax→u
 | .mk kind n E op aV place bq=>
  if(eB s d (.mk kind n E op aV place bq)).bI≠0 then eB s d (.mk kind n E op aV place bq)
  else eC (if kind≥4 then kc (if kind=2 then(eB s d (.mk kind n E op aV place bq)).cJ ((eB s d (.mk kind n E op aV place bq)).has E) 6 else eB s d (.mk kind n E op aV place bq)) (V (10+kind)) d place
    else(if kind=2 then(eB s d (.mk kind n E op aV place bq)).cJ ((eB s d (.mk kind n E op aV place bq)).has E) 6 else eB s d (.mk kind n E op aV place bq))) d bq
def eC(s:u)(d:Int):List ax→u
 |[]=>s
 |e::r=>eC (if s.bI≠0 then s else lH s (V (d+1)) e) d r
def kc(s:u)(k:Int)(d:Int):aN→u
 | .mk var aB=>if s.bI≠0 then s else hd (ka vars s k (.mk var aB)) d aB
def hd(s:u)(d:Int):List K→u
 |[]=>s
 |p::r=>hd (mS s d p) d r
def mS(s:u)(d:Int):K→u
 | .mk field bc=>jH s d bc
def jH(s:u)(d:Int):List ax→u
 |[]=>s
 |e::r=>jH (lH s (V (d+1)) e) d r
end
variable(kw:List UInt8→Bool)
def gh(s:u)(d:Int)(x:ay):u:=((s.cJ (decide (d≤64)) 5).cJ (jj x) 4).cJ (ir x.kind x.aV) 11
def gM(s:u)(d:Int)(x:ay):u:=
 if x.kind=1 then((s.cJ (fk x.E&&!kw x.E) 6).cJ (!s.has x.E) 7).cJ (decide (s.lets<40)) 12
 else if x.kind=2 then s.cJ (s.has x.E) 6
 else if x.kind=3∨x.kind=4∨x.kind=5∨x.kind=6 then kc vars s x.kind d x.place
 else s
def jl(s:u)(x:ay):u:=
 if x.kind=1 then s.AO x.E
 else if x.kind=5 then((s.cJ (s.has x.E) 6).cJ (s.has x.cg) 6).cJ (!(x.E==x.cg)) 7
 else s
def gi(s:u)(d:Int)(x:ay):u:=jl (eC vars (gM vars kw (gh s d x) d x) d x.bf) x
mutual
def stM(s:u)(d:Int):ay→u
 | .mk kind X E cg aV place bf bg bx=>
  fp ((fp (gi vars kw s d (.mk kind X E cg aV place bf bg bx)) (gi vars kw s d (.mk kind X E cg aV place bf bg bx)).g.length (V (d+1)) bg).at X)
   (((fp (gi vars kw s d (.mk kind X E cg aV place bf bg bx)) (gi vars kw s d (.mk kind X E cg aV place bf bg bx)).g.length (V (d+1)) bg).at X).g.length) (V (d+1)) bx
def fp(s:u)(n:Nat)(d:Int):List ay→u
 |[]=>s.back n
 |x::r=>fp (if s.bI≠0 then s else stM (s.at x.X) d x) n d r
end
def hV(s:u)(d:Int)(l:List ay):u:=fp vars kw s s.g.length d l
def lI(a:List (List UInt8))(b:Int):List B→Int
 |[]=>if b>65536 then 9 else 0
 | v::r=>if fk v.E=false∨kw v.E=true then 6 else if a.contains v.E=true then 7
  else if(aX v.type).2≠0 then(aX v.type).2 else lI (a++[v.E]) (V (ca b (aX v.type).1.2+(aX v.type).1.1)) r
end
section
variable(kw:List UInt8→Bool)
def kd(a:List B):Int:=if 32<a.length then 12 else lI kw [] 0 a
def s0:u:=⟨[],0,0,0,0⟩
def mT(vars:List B):List (List ay)→Int×Int
 |[]=>(0,0)
 |t::r=>if(hV vars kw s0 1 t).bI≠0 then((hV vars kw s0 1 t).lG,(hV vars kw s0 1 t).bI)else mT vars r
def fq(p:cH):Int×Int:=
 if 32<p.vars.length∨p.dd.length<1∨8<p.dd.length then(0,12)
 else if kd kw p.vars≠0 then(0,kd kw p.vars)else mT kw p.vars p.dd
end
theorem RY(vars:List B)(s:u)(d:Int)(e:ax):lH vars s d e=if(eB s d e).bI≠0 then eB s d e
  else eC vars (if e.kind≥4 then kc vars (if e.kind=2 then(eB s d e).cJ ((eB s d e).has e.E) 6 else eB s d e) (V (10+e.kind)) d e.place else(if e.kind=2 then(eB s d e).cJ ((eB s d e).has e.E) 6 else eB s d e)) d e.bq:=by
 cases e;rw[lH]
theorem RZ(vars:List B)(s:u)(k d:Int)(x:aN):kc vars s k d x=if s.bI≠0 then s else hd vars (ka vars s k x) d x.aB:=by cases x;rw[kc]
theorem R0(vars:List B)(s:u)(d:Int)(p:K):mS vars s d p=jH vars s d p.bc:=by cases p;rw[mS]
theorem stM_eq(vars:List B)(kw:List UInt8→Bool)(s:u)(d:Int)(x:ay):stM vars kw s d x=hV vars kw ((hV vars kw (gi vars kw s d x) (V (d+1)) x.bg).at x.X) (V (d+1)) x.bx:=by cases x;rw[stM];rfl
section
variable(vars:List B)(kw:List UInt8→Bool)
theorem HY{s:u}(h:s.bI≠0)(d:Int):∀l,eC vars s d l=s
 |[]=>by rw[eC]
 |e::r=>by rw[eC,aa h,HY h d r]
theorem AP{s:u}(h:s.bI≠0)(n:Nat)(d:Int):∀l,fp vars kw s n d l=s.back n
 |[]=>by rw[fp]
 |x::r=>by rw[fp,aa h,AP h n d r]
theorem HZ:∀{l:List (List ay)},(mT kw vars l).2=0↔∀t∈l,(hV vars kw s0 1 t).bI=0
 |[]=>by simp[mT]
 | t :: r=>by
  rw[mT];by_cases h:(hV vars kw s0 1 t).bI=0
  · rw[ab (by simpa using h),HZ (l:=r)];simp[h]
  · rw[aa h];simp[h]
end
section
variable(kw:List UInt8→Bool)(p:cH)
end
end Rb

namespace Rb
open Go
abbrev lJ(n:Int):Int:=Y6 .u64 n
mutual
def AQ:ax→Int→Int
 | .mk kind n E op aV place bq,m=>if kind≥4 then V (V (m+V (ke place+kE bq 0))+1)else V (m+V (ke place+kE bq 0))
def kE:List ax→Int→Int
 |[],m=>m
 |e::r,m=>kE r (AQ e m)
def ke:aN→Int
 | .mk var aB=>H3 aB 0
def H3:List K→Int→Int
 |[],m=>m
 |p::r,m=>H3 r (H4 p m)
def H4:K→Int→Int
 | .mk field bc,m=>V (m+kE bc 0)
end
mutual
def AR:ay→Int→Int
 | .mk kind X E cg aV place bf bg bx,m=>
  if 3≤kind∧kind≤7 then V (V (m+V (V (V (ke place+kE bf 0)+nY bg 0)+nY bx 0))+1)
  else V (m+V (V (V (ke place+kE bf 0)+nY bg 0)+nY bx 0))
def nY:List ay→Int→Int
 |[],m=>m
 |x::r,m=>nY r (AR x m)
end
structure mg where
 kind:Int
 site:Int
 X:Int
 spot:be
 aV:Int
 op:Int
 d0:Int
 d1:Int
def db:be:=⟨0,0,0,false,0,0⟩
def rV:mg:=⟨0,0,0,db,0,0,0,0⟩
def mg.cells(w:mg):List I:= J w.kind :: J w.site :: J w.X::(w.spot.cells++[J w.aV,J w.op,bY w.d0,bY w.d1])
structure RS where
 dH:List (Int×Int)
 aG:List (List UInt8×Int)
 pr:List Int
 X:Int
 fuel:Int
 fin:Int
 want:mg
 stop:Bool
 empty:Bool
def RS.get(s:RS)(x:List UInt8):Int:=match s.aG.find? (λl=>l.1==x)with|some l=>l.2|none=>0
def RS.put(s:RS)(x:List UInt8)(v:Int):RS:=match s.aG.findIdx? (λl=>l.1==x)with|some i=>{s with aG:=s.aG.set i (x,v)}|none=>s
def wP(a b:Int):Int:=Y6 .u64 (TH 64 a &&& TH 64 b).toNat
def H5(a b:Int):Int:=Y6 .u64 (TH 64 a ||| TH 64 b).toNat
def R1(a b:Int):Int:=Y6 .u64 (TH 64 a ^^^ TH 64 b).toNat
def R2(a b:Int):Int:=Y6 .u64 (TH 64 a &&& ~~~TH 64 b).toNat
def wQ(a b:Int):Int:=Y6 .u64 (a*2^(min b.toNat 64))
def H6(a b:Int):Int:=a.fdiv (2^(min b.toNat 64))
def wR(n:Int):Int:=if n<1 then 0 else if n≥64 then 18446744073709551615 else Y6 .u64 (wQ 1 n-1)
def H7(n:Int):Bool:=decide (n≥0)&&decide (n<64)
def R3(x a n:Int):Int:=if H7 a=true then wP (H6 x a) (wR n)else 0
def R4(x a n v:Int):Int:=if H7 a=true then H5 (R2 x (wQ (wR n) a)) (wQ (wP v (wR n)) a)else x
def R5(op a b:Int):Int:=
 if op=1 then Y6 .u64 (a+b)else if op=2 then Y6 .u64 (a-b)else if op=3 then Y6 .u64 (a*b)
 else if op=4 then wP a b else if op=5 then H5 a b else if op=6 then R1 a b
 else if op=7 then wQ a (b.tmod 64)else if op=8 then H6 a (b.tmod 64)
 else if(if op=9 then a==b else if op=10 then a != b else decide (a<b))=true then 1 else 0
def eH:List B→Int→List be→Int×Int×List be
 |[],at',acc=>(0,at',acc)
 | v::r,at',acc=>if(aX v.type).2≠0 then((aX v.type).2,0,[])else
  let x:=V (V (Int.tdiv (V (V (at'+(aX v.type).1.2)-1)) (aX v.type).1.2)*(aX v.type).1.2);let y:=if x>65536 then 65537 else x
  eH r (V (y+(aX v.type).1.1)) (acc++[⟨V (65536+y),(aX v.type).1.1,0,false,0,0⟩])
def mapM(vars:List B):Int×Int×List be:=if(eH vars 0 []).1≠0 then((eH vars 0 []).1,0,[])else if(eH vars 0 []).2.1>65536 then(9,0,[])else eH vars 0 []
def gj:List K→Int→Int
 |[],n=>n
 |p::r,n=>gj r (V (n+p.bc.length))
def cq(t:U):List be:=match dY t.packed t.kind ⟨0,1,[],0⟩ t.aE with|some p=>p.dv|none=>[]
def eU:List K→U→be→List Int→Option be
 |[],_,sp,_=>some sp
 | p :: r,t,sp,idx=>
  if p.bc.length=1 then(match idx with
    |[]=>none
    | i::q=>if i≥lJ t.ba then none else match t.aU with
     |[]=>none
     |e::_=>eU r e {sp with at_:=V (sp.at_+V (Y6 .i64 i*(aX e).1.1)),len:=(aX e).1.1} q)
  else match t.aE.findIdx? (λf=>f.E==p.field)with
   |none=>none
   | some n=>match t.aE[n]?,(cq t)[n]? with
    |some f,some s=>eU r f.type {s with at_:=V (s.at_+sp.at_)} idx
    |_,_=>none
def dI(vars:List B)(x:aN)(idx:List Int):be:=
 if(mapM vars).1≠0 then db else if(bK vars x).1≠0 then db else if ¬((bK vars x).2.kind=1∨(bK vars x).2.kind=2)then db
 else if(idx.length:Int)≠gj x.aB 0 then db else
 match vars.findIdx? (λv=>v.E==x.var)with
 |none=>db
 | some n=>match vars[n]?,(mapM vars).2.2[n]? with
  | some v,some g=>match eU x.aB v.type {db with at_:=g.at_,len:=g.len} idx with
   |some sp=>{sp with kind:=(bK vars x).2.kind}
   |none=>db
  |_,_=>db
def nZ(vars:List B)(x:aN):Int:=if(bK vars x).1=0 then(bK vars x).2.ba else 0
section
variable(vars:List B)
def H8(sp:be)(o v:Int):Int:=wP (if sp.bits=true then R4 o sp.bit sp.aM v else v) (wR (V (8*sp.len)))
variable(c:Nat)
end
end Rb
