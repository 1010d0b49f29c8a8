/- A part of the proof (part 3): see the last text. -/
import Derived.Test.YteboppjdnpoglaaGreatDoorRb2
import Derived.Test.YteboppjdnpoglaaGreatDoorRows
import Derived.KernelRfl
import Derived.WalkKit
import Derived.ProofKit
import Derived.Lib.Bytealg
import Derived.Laws.Externs
import Derived.Test.YteboppjdnpoglaaGreatDoorRb1
import Derived.LaidLaws
import Derived.LaidHandle
import Derived.Lib.LaidU8
import Derived.Deep.DeepLaidRun
import Derived.Handed
import Derived.JoinedOf
import Derived.SevenTiedAt
import Derived.Lib.Space
import Derived.ChangeArms
import Derived.SizedLaws
import Derived.Below
import Derived.Lib.DecodeN
set_option linter.unusedVariables false
set_option linter.unusedSimpArgs false
open Array renaming getElem?_eq_some_iff→aa5
open BEq renaming rfl→adD
open BitVec renaming ofInt→AV
open Bool renaming and_self→adu, eq_false_iff→acC, eq_iff_iff→acm, false_eq_true→abW, not_eq_false'→adK, not_eq_false→adC, not_eq_true'→ab_, not_eq_true→adB, not_false→adG, not_true→adH, true_eq_false→adF
open ByteArray renaming mk→aau
open Decidable renaming not_not→adJ
open Go.Addr renaming add→ac8
open Go.DataW renaming trod→ac1, weightsAll→ac4, weights→ac3
open Go.Extern.BytealgIndexByte renaming indexByte→acZ
open Go.IntKind renaming bits→aaz, max→adi, min→adh, signed→aay, wrap→abu
open Go.Lib renaming decodeN→ady, decode_at→adz, indexByte→acY
open Go.Utf8 renaming decode→aak
open Go.World renaming cell?→ada, cells?_some→ac9
open Iff renaming rfl→ach
open Int renaming reduceBEq→adE
open List renaming all_append→adt, all_cons→acP, any_cons→adM, any_eq_true→acj, append_nil→adv, cons_append→abZ, drop_drop→adb, drop_eq_getElem_cons→adn, drop_succ_cons→adj, drop_zero→adf, findIdx?_cons→adr, findIdx?→ads, flatMap_cons→ac0, getElem?_append_left→ab0, getElem?_append_right→ab1, getElem?_cons_succ→ac6, getElem?_cons_zero→ac5, getElem?_eq_getElem→abb, getElem?_eq_some_iff→aal, getElem?_map→aba, length_append→adm, length_drop→adx, length_eq_one_iff→adL, length_take→adI, mem_append→acf, mem_of_getElem?→adq, sizeOf_lt_of_mem→adA, take_add_one→adw, take_append_of_le_length→ado, take_length→adg, take_of_length_le→adp
open Nat renaming add_assoc→aaH, add_comm→adl, add_mul→aaV, add_zero→aaY, eq_zero_or_pos→ac7, le_refl→hb, le_succ→aa2, le_trans→sl, lt_of_lt_of_le→xl, lt_succ_self→acR, ne_of_lt→aa6, one_mul→adk, zero_add→aa8, zero_le→aaU, zero_mul→ac_
open Option renaming map_eq_some_iff→ade, map_some→aaD, some→aaC
open Prod renaming fst→ac2
open Bool renaming false→acJ, true→acI
open Option renaming none→acL, some→acK
noncomputable section
namespace Go.Proofs.YteboppjdnpoglaaGreatDoor.rb
open Rb
def gt(g:Nat):Option (List I):=if g=0 then acK EO else if g=5 then acK Fw else if g=7 then acK EP else acL
def C:Ctx:=mh Tryz.prog gt
def lK:List Hint:=[
  ⟨3,[10,21,23,25,180],[[13,14],[17],[19,20],[24]],acL,[],[]⟩,
  ⟨5,[2,4,94],[[3],[5],[10]],acL,[],[]⟩,
  ⟨6,[1],[],acL,[],[]⟩,
  ⟨7,[6],[[1,5]],acL,[],[]⟩,
  ⟨8,[7],[[5,6]],acL,[],[]⟩,
  ⟨9,[9,13],[[7,25],[7,41]],acL,[],[]⟩,
  ⟨10,[6,11,12,17],[[13],[14,15],[18]],acL,[],[]⟩,
  ⟨17,[],[[3]],acL,[],[]⟩,
  ⟨18,[],[[4]],acL,[],[]⟩,
  ⟨19,[],[],acL,[],[]⟩,
  ⟨20,[10],[[6],[5,8,9],[8]],acL,[],[]⟩,
  ⟨21,[10],[[8,9]],acL,[],[]⟩,
  ⟨22,[2,3,4],[],acL,[],[]⟩,
  ⟨23,[7],[[12]],acL,[],[]⟩,
  ⟨24,[],[[2,7]],acL,[],[]⟩,
  ⟨25,[8],[[2,7]],acL,[],[]⟩,
  ⟨26,[4,8,11,12],[[6,7],[9,10],[9,13]],acL,[],[]⟩,
  ⟨27,[8],[[5,6,14]],acL,[],[]⟩,
  ⟨28,[4,16],[],acL,[],[]⟩,
  ⟨29,[2,3,4,8,9],[[5,6,7],[5],[6]],acL,[],[]⟩,
  ⟨30,[6,7,10],[],acL,[],[]⟩,
  ⟨40,[5],[],acL,[],[]⟩,
  ⟨41,[],[],acL,[],[]⟩,
  ⟨42,[],[],acL,[],[]⟩,
  ⟨43,[],[[3,4],[3,5]],acL,[],[]⟩,
  ⟨44,[],[],acL,[],[]⟩,
  ⟨45,[],[],acL,[],[]⟩,
  ⟨46,[],[[6]],acL,[],[]⟩,
  ⟨47,[],[[5]],acL,[],[]⟩,
  ⟨48,[10],[[13]],acL,[],[]⟩,
  ⟨49,[9],[[8]],acL,[],[]⟩,
  ⟨50,[2,3,5,6,7],[[],[]],acL,[],[]⟩,
  ⟨51,[],[],acL,[],[]⟩,
  ⟨52,[],[],acL,[],[]⟩,
  ⟨53,[5],[],acL,[],[]⟩,
  ⟨54,[2,5],[],acL,[],[]⟩,
  ⟨55,[6],[[8]],acL,[],[]⟩,
  ⟨56,[],[],acL,[],[]⟩,
  ⟨62,[],[],acL,[],[]⟩,
  ⟨64,[],[[8]],acL,[],[]⟩]
theorem Qc:je C lK=acI:=by kernel_rfl
def lM:List Hint:=[
  ⟨67,[2],[],acL,[],[]⟩,
  ⟨68,[],[],acL,[],[]⟩,
  ⟨69,[4,5],[],acL,[],[]⟩,
  ⟨70,[],[[5,6],[5,8]],acL,[],[]⟩,
  ⟨71,[4],[[3],[5]],acL,[],[]⟩,
  ⟨72,[],[[3,4],[3,5]],acL,[],[]⟩,
  ⟨73,[],[],acL,[],[]⟩,
  ⟨74,[],[],acL,[],[]⟩,
  ⟨75,[3,5,37],[],acL,[],[]⟩,
  ⟨76,[],[],acL,[],[]⟩,
  ⟨77,[],[],acL,[],[]⟩,
  ⟨78,[4,5,7],[[]],acL,[],[]⟩,
  ⟨79,[],[],acL,[],[]⟩,
  ⟨80,[],[[5]],acL,[],[]⟩,
  ⟨81,[2],[],acL,[],[]⟩,
  ⟨82,[],[[8]],acL,[],[]⟩,
  ⟨83,[],[],acL,[],[]⟩,
  ⟨84,[2,4,6],[],acL,[],[]⟩,
  ⟨85,[],[],acL,[],[]⟩,
  ⟨86,[6,8,11,12],[[23]],acL,[],[]⟩,
  ⟨87,[],[],acL,[],[]⟩,
  ⟨88,[],[],acL,[],[]⟩,
  ⟨89,[],[[8]],acL,[],[]⟩,
  ⟨90,[],[],acL,[],[]⟩,
  ⟨91,[],[[3],[3,5]],acL,[],[]⟩,
  ⟨92,[],[[]],acL,[],[]⟩,
  ⟨93,[],[],acL,[],[]⟩,
  ⟨109,[],[],acL,[],[]⟩,
  ⟨110,[],[],acL,[],[]⟩,
  ⟨112,[2,4,6,7],[[16]],acL,[],[]⟩,
  ⟨113,[],[],acL,[],[]⟩,
  ⟨114,[],[[5]],acL,[],[]⟩,
  ⟨115,[3,11],[[]],acL,[],[]⟩,
  ⟨116,[],[],acL,[],[]⟩,
  ⟨117,[],[],acL,[],[]⟩,
  ⟨118,[],[],acL,[],[]⟩,
  ⟨119,[],[],acL,[],[]⟩,
  ⟨120,[],[],acL,[],[]⟩,
  ⟨121,[],[],acL,[],[]⟩,
  ⟨122,[2],[[11],[17]],acL,[],[]⟩]
theorem Qd:je C lM=acI:=by kernel_rfl
def hC:List Hint:=[
  ⟨123,[],[],acL,[],[]⟩,
  ⟨124,[],[],acL,[],[]⟩,
  ⟨125,[4,5],[],acL,[],[]⟩,
  ⟨126,[4,5],[],acL,[],[]⟩,
  ⟨127,[],[],acL,[],[]⟩,
  ⟨128,[],[],acL,[],[]⟩,
  ⟨129,[],[],acL,[],[]⟩,
  ⟨130,[],[],acL,[],[]⟩,
  ⟨131,[],[],acL,[],[]⟩,
  ⟨132,[],[[1,2,3,10,11]],acL,[],[]⟩,
  ⟨133,[],[],acL,[],[]⟩,
  ⟨134,[],[],acL,[],[]⟩,
  ⟨135,[],[],acL,[],[]⟩,
  ⟨136,[],[],acL,[],[]⟩,
  ⟨137,[41],[[3,4,5,6],[12],[10,11,12],[12]],acK 9,[],[]⟩,
  ⟨159,[7,9],[[5,15],[5,30]],acL,[],[]⟩,
  ⟨160,[],[],acL,[],[]⟩,
  ⟨161,[],[],acL,[],[]⟩,
  ⟨162,[],[[18]],acL,[],[]⟩,
  ⟨163,[],[],acL,[],[]⟩,
  ⟨164,[],[],acL,[],[]⟩,
  ⟨165,[],[],acL,[],[]⟩,
  ⟨166,[],[],acL,[],[]⟩,
  ⟨167,[],[],acL,[],[]⟩,
  ⟨168,[],[],acL,[],[]⟩,
  ⟨169,[],[],acL,[],[]⟩,
  ⟨170,[4,5],[[]],acL,[],[]⟩,
  ⟨171,[],[[6]],acL,[],[]⟩,
  ⟨172,[4],[],acL,[],[]⟩,
  ⟨173,[4,6],[],acL,[],[]⟩,
  ⟨174,[],[],acL,[],[]⟩,
  ⟨175,[],[[8]],acL,[],[]⟩,
  ⟨176,[],[[8],[9]],acL,[],[]⟩,
  ⟨177,[],[[11],[12]],acL,[],[]⟩,
  ⟨178,[9],[[11]],acL,[],[]⟩,
  ⟨179,[11],[],acL,[],[]⟩,
  ⟨180,[],[[8,9]],acL,[],[]⟩,
  ⟨181,[],[[9,10],[9],[11],[12]],acL,[],[]⟩,
  ⟨182,[],[[11,12],[11],[12]],acL,[],[]⟩,
  ⟨183,[],[[12],[13],[12,13],[12],[13]],acL,[],[]⟩]
theorem qW:je C hC=acI:=by kernel_rfl
def lN:List Hint:=[
  ⟨184,[],[],acL,[],[]⟩,
  ⟨185,[],[],acL,[],[]⟩,
  ⟨186,[],[[8]],acL,[],[]⟩,
  ⟨187,[11,12,46],[[5,6],[49]],acL,[],[]⟩,
  ⟨188,[],[],acL,[],[]⟩,
  ⟨197,[5],[],acL,[],[]⟩,
  ⟨198,[],[],acL,[],[]⟩,
  ⟨199,[],[],acL,[],[]⟩,
  ⟨200,[],[],acL,[],[]⟩,
  ⟨201,[],[],acL,[],[]⟩,
  ⟨202,[],[[6]],acL,[],[]⟩,
  ⟨203,[],[[12,13,101]],acL,[],[]⟩,
  ⟨204,[],[],acL,[],[]⟩,
  ⟨205,[4,5,7],[],acL,[],[]⟩,
  ⟨206,[8,9],[[22]],acL,[],[]⟩,
  ⟨207,[],[[10]],acL,[],[]⟩,
  ⟨208,[],[],acL,[],[]⟩,
  ⟨209,[],[],acL,[],[]⟩,
  ⟨210,[],[],acL,[],[]⟩,
  ⟨211,[],[],acL,[],[]⟩,
  ⟨212,[],[],acL,[],[]⟩,
  ⟨215,[],[],acL,[],[]⟩,
  ⟨216,[],[[5]],acL,[],[]⟩,
  ⟨217,[],[],acL,[],[]⟩,
  ⟨218,[],[],acL,[],[]⟩,
  ⟨219,[],[],acL,[],[]⟩,
  ⟨220,[],[],acL,[],[]⟩,
  ⟨221,[],[],acL,[],[]⟩,
  ⟨222,[],[[3,4]],acL,[],[]⟩,
  ⟨225,[15],[],acL,[],[]⟩,
  ⟨226,[15],[],acL,[],[]⟩,
  ⟨227,[],[[6]],acL,[],[]⟩,
  ⟨228,[],[],acL,[],[]⟩,
  ⟨229,[],[[20],[7,8]],acL,[],[]⟩,
  ⟨230,[10],[[16],[7,8]],acL,[],[]⟩,
  ⟨231,[],[],acL,[],[]⟩,
  ⟨232,[],[],acL,[],[]⟩,
  ⟨233,[9],[],acL,[],[]⟩,
  ⟨234,[5],[],acL,[],[]⟩,
  ⟨235,[],[],acL,[],[]⟩]
theorem Qe:je C lN=acI:=by kernel_rfl
def Fx:List Hint:=[
  ⟨237,[],[],acL,[],[]⟩,
  ⟨238,[5],[],acL,[],[]⟩,
  ⟨239,[],[],acL,[],[]⟩,
  ⟨240,[],[],acL,[],[]⟩,
  ⟨241,[],[[1,4]],acL,[],[]⟩,
  ⟨242,[12],[[1,13],[1,13]],acL,[],[]⟩,
  ⟨243,[],[],acL,[],[]⟩,
  ⟨244,[],[],acL,[],[]⟩,
  ⟨245,[],[],acL,[],[]⟩,
  ⟨246,[],[],acL,[],[]⟩,
  ⟨247,[],[],acL,[],[]⟩,
  ⟨248,[],[],acL,[],[]⟩]
theorem Qf:je C Fx=acI:=by kernel_rfl
def hs:List Hint:=lK++(lM++(hC++(lN++(Fx))))
theorem Qg:je C hs=acI:=qR Qc (qR Qd (qR qW (qR Qe (Qf))))
theorem Qh:∀g l,gt g=acK l->I.bV l=acI:=by
 intro g l h;unfold gt at h;split at h
 ·cases h;kernel_rfl
 split at h
 ·cases h;kernel_rfl
 split at h
 ·cases h;kernel_rfl
 cases h
theorem km:cP C:=Qh
def fn:Nat->Option uv:=qS C 4096 hs
theorem Qi:Au (ai C) (uw fn):=P6 Qg 4096
open Rb Go.RowKit
set_option maxRecDepth 100000 in
theorem Qj(s:ByteArray)(c:Int)(w:World):Calls Tryz.prog 232 #[.string s,.int .u8 c] w λe w'=>e = .returned (.int .i64 (acY s.data.toList c.toNat.toUInt8))/\w'=w:=by
 go_enter Tryz.func232,Tryz.ntmps232
 go_wp2
 rw[run_callFunc_extern Tryz.func236 (by kernel_rfl) (by kernel_rfl) (by kernel_rfl) (e:=acZ) (by kernel_rfl),Go.Lib.run_indexByteString];simp only[Result.andThen];rw[Oper.upon_value]
 go_wp2
 go_ret
 exact⟨rfl,rfl⟩
theorem indexByte(s:List UInt8)(c:Int)(H:Z)(Q:aa)(hQ:Q (.int .i64 (acY s c.toNat.toUInt8)) H):ai C 232 [.str s,.int .u8 c] H Q:=by
 refine⟨⟨_,_,hQ⟩,λf hf G w Vs hG a b=>?_⟩;obtain rfl:f=232:=by
  have:C.F 232=acK 232:=by kernel_rfl
  rw[this]at hf;exact(aaC.inj hf).symm
 obtain⟨hl,hv⟩:=b;obtain⟨d⟩:=Vs
 match d,hl with
 | [g,h],_=>have i:=(hv 0 _ g rfl rfl).kM;have h1:=(hv 1 _ h rfl rfl).hV;subst i h1;refine(Qj ⟨s.toArray⟩ c w).mono λe w' ⟨he,hw⟩=>?_;subst hw;exact⟨_,_,H,G,he,hQ,.int _ _,a,Step.refl _ _ _⟩
def AJ(L:List (Nat×List I×I)):pd:=λk a=>cond (Nat.beq k 232) (match a with|[.str s,.int .u8 c]=>acK (.int .i64 (acY s c.toNat.toUInt8))|_=>acL) (AF L k a)
theorem Qk{L:List (Nat×List I×I)}(b:h0 (ai C) (gS L)):h0 (ai C) (AJ L):=by
 intro k a v h H Q hQ;unfold AJ at h;cases U:Nat.beq k 232 with
 |false=>rw[U]at h;exact P_ b k a v h H Q hQ
 | true=>
  rw[U]at h;obtain rfl:=Nat.eq_of_beq_eq_true U;simp only[cond_true]at h;split at h
  ·cases h;exact indexByte _ _ H Q hQ
  ·cases h
def qX(L:List (Nat×List I×I)):fx:=As (AJ L) (uw fn) 100
theorem uz{L:List (Nat×List I×I)}(a:h0 (ai C) (gS L)):ie (ai C) (qX L):=PX (Qk a) Qi 100
end Go.Proofs.YteboppjdnpoglaaGreatDoor.rb
namespace Rb.K
end Rb.K
namespace Rb.S
open Go
open Go.Proofs.YteboppjdnpoglaaGreatDoor.rb (C)
variable(Φ:ad)
def AK(Φ:ad)(c:I)(Q:aa):g:=λd a=>
 aF (N d 0) acI (
 bB c λe=>
 b .eql e J λf=>
 Q f a) (
 Q P a) (
 False)
def AL(Φ:ad)(c:I)(Q:aa):g:=λd a=>
 aF (N d 0) acI (
 bB c λe=>
 b .eql e J λf=>
 Q f a) (
 Q P a) (
 False)
def Fy(Φ:ad)(d:I)(a:ST)(e:LT)(Q:aa):g:=λj c=>
 gi 1 d (N a.1 1) c λf=>
 b .mul (N a.1 0) f λh=>
 b .add (N a.1 1) (D 1) λi=>
 e ([h,i],c)
def AM(Φ:ad)(c:I)(Q:aa):g:=λd a=>
 aF (N d 0) acI (
 bB c λe=>
 b .eql e J λf=>
 Q f a) (
 Q P a) (
 False)
def AN(Φ:ad)(c:I)(d:List I)(Q:aa):g:=λe a=>
 aF (N e 0) acI (
 bB c λf=>
 b .eql f (N d 0) λh=>
 Q h a) (
 Q P a) (
 False)
def uA(Φ:ad)(a:ST)(c:LT)(Q:aa):g:=λf d=>
 b .add (N a.1 0) (D 1) λe=>
 c ([e],d)
def qY(d e:I)(b:ST)(c:LT)(Q:aa):g:=λf a=>
 W (N f 0) acI (
 j a 2 e λh=>
 aO a 2 d h λi=>
 G (uA Φ b c Q) [] i) (
 G (uA Φ b c Q) [] a)
def AO(c e:I)(f:ST)(h:LT)(Q:aa):g:=λi a=>
 aF (N i 0) acI (
 d 1 c a λj=>
 b .eql j J λk=>
 aF k acJ (
 d 1 e a λl=>
 d 1 c a λm=>
 b .lss l m λn=>
 G (qY Φ c e f h Q) [n] a) (
 G (qY Φ c e f h Q) [aT] a) (
 False)) (
 G (qY Φ c e f h Q) [P] a) (
 False)
def AP(Φ:ad)(a:ST)(c:LT)(Q:aa):g:=λf d=>
 b .add (N a.1 0) (D 1) λe=>
 c ([e],d)
def uB(b:ST)(c:LT)(Q:aa):g:=λd a=>
 W (N d 0) acI (
 Q P a) (
 G (AP Φ b c Q) [] a)
def Fz(h i f:I)(c:ST)(e:LT)(Q:aa):g:=λs a=>
 Do (cu .not i) λk=>
 aF k acJ (
 d 1 f a λl=>
 b .eql l J λm=>
 aF m acJ (
 Do (aL acL 2 h (N c.1 0)) λo=>
 j a 2 o λp=>
 j a 2 f λq=>
 Do (kE acI [.n,.n] p q) λr=>
 G (uB Φ c e Q) [r] a) (
 G (uB Φ c e Q) [aT] a) (
 False)) (
 G (uB Φ c e Q) [aT] a) (
 False)
def ph(k h l f g:I)(m:ST)(n:LT)(Q:aa):BT:=λc i=>
 bB h λo=>
 b .lss (N c.1 0) o λp=>
 W p acI (
 Do (aL acL 2 h (N c.1 0)) λq=>
 j c.2 2 q λr=>
 bJ c.2 [J,J] λe s=>
 aO s 2 e r λa=>
 d 0 e a λt=>
 aM 0 f λu=>
 d 0 u a λv=>
 b .leq t v λw=>
 aF w acI (
 aM 0 f λx=>
 d 0 x a λy=>
 aM 0 f λz=>
 d 1 z a λA=>
 b .add y A λB=>
 d 0 e a λC=>
 d 1 e a λD=>
 b .add C D λE=>
 b .leq B E λF=>
 G (AO Φ g e c i Q) [F] a) (
 G (AO Φ g e c i Q) [P] a) (
 False)) (
 G (Fz Φ k l g m n Q) [] c.2)
def AQ(f h i k l:I)(m:ST)(n:LT)(Q:aa):g:=λz a=>
 d 0 f a λo=>
 aM 3 i λp=>
 j a 2 p λq=>
Φ 10 [o,q,l] a λb r=>
 Do (bA 0 b) λs=>
 Do (bA 1 b) λt=>
 bJ r [J,J,J,P,J,J] λc u=>
 aO u 6 c s λv=>
 cK [J,J] [] λw=>
 bJ v [J,J] λe x=>
 aO x 2 e w λy=>
 ar (ph Φ h k t c e m n Q) ([J],y)
def uC(f g h c i d:I)(j:ST)(k:LT)(Q:aa):BT:=λa l=>
 b .geq (N a.1 1) J λm=>
 W m acI (
 gi 1 c (N a.1 1) a.2 λn=>
 b .rem (N a.1 0) n λo=>
 Do (fU .u64 o) λp=>
 Do (aL acL 1 d (N a.1 1)) λq=>
 aO a.2 1 q p λe=>
 gi 1 c (N a.1 1) e λr=>
 b .quo (N a.1 0) r λs=>
 b .sub (N a.1 1) (D 1) λt=>
 l ([s,t],e)) (
 G (AQ Φ f g h i d j k Q) [] a.2)
def FA(Q:aa):g:=λd a=>
Φ 6 [] a λb c=>
 Q b c
def pj(e f g c h:I)(i:List I)(Q:aa):BT:=λa j=>
 b .lss (N a.1 0) (N i 0) λk=>
 W k acI (
 bB c λd=>
 bs (jN a.2 acI 1 8 [cY 0] d d) λl m=>
 bB c λn=>
 b .sub n (D 1) λo=>
 ar (uC Φ e f g c h l a j Q) ([(N a.1 0),o],m)) (
 G (FA Φ Q) [] a.2)
def FB(a b c d e:I)(f:List I)(Q:aa):g:=λi h=>
 ar (pj Φ a b c d e f Q) ([J],h)
def uD(e a f h i j:I)(b:List I)(Q:aa):g:=λk c=>
 W (N k 0) acI (
Φ 6 [] c λl d=>
 aF l acI (
 G (AN Φ a b Q) [f] d) (
 G (AN Φ a b Q) [P] d) (
 False)) (
 G (FB Φ e a h i j b Q) [] c)
def uE(c d e f h a:I)(i:List I)(Q:aa):g:=λk j=>
 aF (N k 0) acJ (
 bB a λl=>
 b .gtr l (D 2000) λm=>
 G (uD Φ c d e f h a i Q) [m] j) (
 G (uD Φ c d e f h a i Q) [aT] j) (
 False)
def AR(c d e f h i:I)(a:List I)(Q:aa):g:=λk j=>
 aF (N k 0) acJ (
 b .gtr (N a 0) (D 300) λl=>
 G (uE Φ c d e f h i a Q) [l] j) (
 G (uE Φ c d e f h i a Q) [aT] j) (
 False)
def FC(e a c f h i:I)(d:List I)(Q:aa):g:=λn j=>
 Do (cu .not c) λk=>
 aF k acJ (
 bB a λl=>
 b .neq l (N d 0) λm=>
 G (AR Φ e a c f h i d Q) [m] j) (
 G (AR Φ e a c f h i d Q) [aT] j) (
 False)
def pk(e a b f h i:I)(j:List I)(Q:aa):g:=λk c=>
 W (N k 0) acI (
Φ 6 [] c λl d=>
 aF l acI (
 Do (cu .not b) λm=>
 G (AM Φ a Q) [m] d) (
 G (AM Φ a Q) [P] d) (
 False)) (
 G (FC Φ e a b f h i j Q) [] c)
def uF(a c d e f h k:I)(i:List I)(Q:aa):g:=λl j=>
 aF (N l 0) acJ (
 b .neq k J λm=>
 G (pk Φ a c d e f h i Q) [m] j) (
 G (pk Φ a c d e f h i Q) [aT] j) (
 False)
def AU(a e f h i:I)(o:List I)(Q:aa):g:=λc j=>
 d 0 a j λp=>
Φ 9 [p] j λk l=>
 Do (bA 0 k) λm=>
 Do (bA 1 k) λn=>
 Do (cu .not (N o 0)) λq=>
 aF q acJ (
 b .gtr (N c 0) (D 4096) λr=>
 G (uF Φ a e f h i m n c Q) [r] l) (
 G (uF Φ a e f h i m n c Q) [aT] l) (
 False)
def uG(d e f h a:I)(i:List I)(b:ST)(j:LT)(Q:aa):g:=λk c=>
 W (N k 0) acI (
 G (Fy Φ a b j Q) [] c) (
 G (AU Φ d e f h a i Q) [(N b.1 0)] c)
def uH(d e f g c:I)(h:List I)(Q:aa):BT:=λa i=>
 bB c λj=>
 b .lss (N a.1 1) j λk=>
 aF k acI (
 b .leq (N a.1 0) (D 4096) λl=>
 G (uG Φ d e f g c h a i Q) [l] a.2) (
 G (uG Φ d e f g c h a i Q) [P] a.2) (
 False)
def qZ(b d e c:I)(Q:aa):g:=λf a=>
 j a 2 b λh=>
 aM 3 c λi=>
 j a 2 i λk=>
Φ 8 [h,k] a λl m=>
 ar (uH Φ b d e c l f Q) ([(D 1),J],m)
def uI(e f h a:I)(Q:aa):g:=λi c=>
 aF (N i 0) acJ (
 d 0 a c λj=>
 b .geq j (D 16) λk=>
 G (qZ Φ e f h a Q) [k] c) (
 G (qZ Φ e f h a Q) [aT] c) (
 False)
def AW(k e f h l:I)(Q:aa):g:=λu i=>
 b .sub k (D 1) λm=>
 Do (aL acL 5 l m) λn=>
 j i 5 n λo=>
 bJ i [J,J,J,.str [],A] λa p=>
 aO p 5 a o λc=>
 d 0 a c λq=>
 b .geq q (D 3) λr=>
 aF r acI (
 d 0 a c λs=>
 b .leq s (D 6) λt=>
 G (uI Φ e f h a Q) [t] c) (
 G (uI Φ e f h a Q) [P] c) (
 False)
def q0(e f a b h:I)(Q:aa):g:=λi c=>
 W (N i 0) acI (
Φ 6 [] c λj d=>
 aF j acI (
 Do (cu .not b) λk=>
 G (AL Φ a Q) [k] d) (
 G (AL Φ a Q) [P] d) (
 False)) (
 G (AW Φ e f a b h Q) [] c)
def AX(M a c h i:I)(Q:aa):g:=λp e=>
 d 1 c e λk=>
 gi 1 k M e λl=>
Φ 7 [l,A] e λf j=>
 b .lss a (D 1) λm=>
 aF m acJ (
 bB f λn=>
 b .gtr a n λo=>
 G (q0 Φ a c h i f Q) [o] j) (
 G (q0 Φ a c h i f Q) [aT] j) (
 False)
def q1(M e f a b:I)(Q:aa):g:=λh c=>
 W (N h 0) acI (
Φ 6 [] c λi d=>
 aF i acI (
 Do (cu .not b) λj=>
 G (AK Φ a Q) [j] d) (
 G (AK Φ a Q) [P] d) (
 False)) (
 G (AX Φ M e f a b Q) [] c)
def uJ(M e a f h:I)(Q:aa):g:=λi c=>
 aF (N i 0) acJ (
 d 1 a c λj=>
 bB j λk=>
 b .geq M k λl=>
 G (q1 Φ M e a f h Q) [l] c) (
 G (q1 Φ M e a f h Q) [aT] c) (
 False)
def f3(a0 M c:I)(H:Z)(Q:aa):Prop:=
 bU H 2 a0 λa H2=>
 j H2 2 a λi=>
Φ 4 [i,M,c] H2 λd e=>
 Do (bA 0 d) λf=>
 Do (bA 1 d) λg=>
 j e 2 a λk=>
Φ 5 [k] e λl h=>
 Do (kF 1 1 acJ l) λm=>
 b .neq m J λn=>
 aF n acJ (
 b .lss M J λo=>
 G (uJ Φ M c a f g Q) [o] h) (
 G (uJ Φ M c a f g Q) [aT] h) (
 False)
def FD:aU:=bf C ⟨3,[10,21,23,25,180],[[13,14],[17],[19,20],[24]],acL,[],[]⟩
def FE(Φ:ad)(a:ST)(c:LT)(Q:aa):g:=λf d=>
 b .add (N a.1 0) (D 1) λe=>
 c ([e],d)
def FF(a h:I)(i:ST)(k:LT)(Q:aa):g:=λq c=>
 aM 1 h λl=>
 j c 6 l λm=>
Φ 19 [m] c λd e=>
 b .neq d J λn=>
 W n acI (
 cK [J,J] [(1,1,d)] λo=>
 aO e 2 a o λf=>
 j f 2 a λp=>
 Q p f) (
 G (FE Φ i k Q) [] e)
def uK(h c e:I)(f:ST)(i:LT)(Q:aa):BT:=λa k=>
 b .lss (N a.1 0) (N f.1 0) λl=>
 W l acI (
 d 0 h a.2 λm=>
 Do (aL acL 7 m (N a.1 0)) λn=>
 d 0 n a.2 λo=>
 d 0 e a.2 λp=>
 b .eql o p λq=>
 W q acI (
 cK [J,J] [(1,1,(D 7))] λr=>
 aO a.2 2 c r λg=>
 j g 2 c λs=>
 Q s g) (
 b .add (N a.1 0) (D 1) λt=>
 k ([t],a.2))) (
 G (FF Φ c e f i Q) [] a.2)
def FG(a b c:I)(d:ST)(e:LT)(Q:aa):g:=λh f=>
 ar (uK Φ a b c d e Q) ([J],f)
def uL(d a e:I)(f:ST)(h:LT)(Q:aa):g:=λi b=>
 W (N i 0) acI (
 cK [J,J] [(1,1,(D 6))] λk=>
 aO b 2 a k λc=>
 j c 2 a λl=>
 Q l c) (
 G (FG Φ d a e f h Q) [] b)
def FH(Φ:ad)(a:I)(Q:aa):g:=λf c=>
 cK [J,J] [] λd=>
 aO c 2 a d λb=>
 j b 2 a λe=>
 Q e b
def q2(e f:I)(Q:aa):BT:=λa k=>
 d 1 e a.2 λl=>
 bB l λm=>
 b .lss (N a.1 0) m λn=>
 W n acI (
 d 0 e a.2 λo=>
 Do (bS [A,J,J,J,J] [(0,1,o)]) λp=>
 bs (b5 a.2 acI 5 p) λg h=>
 d 1 e h λq=>
 gi 1 q (N a.1 0) h λr=>
Φ 21 [g,r,A,(D 1)] h λC c=>
 Do (b8 g) λs=>
 aM 3 s λt=>
 d 1 t c λu=>
 b .neq u J λv=>
 W v acI (
 Do (b8 g) λw=>
 aM 3 w λx=>
 j c 2 x λy=>
 aO c 2 f y λi=>
 j i 2 f λz=>
 Q z i) (
 b .add (N a.1 0) (D 1) λB=>
 k ([B],c))) (
 G (FH Φ f Q) [] a.2)
def FI(e a:I)(Q:aa):g:=λp f=>
 d 0 e f λl=>
Φ 20 [l] f λc h=>
 Do (bA 0 c) λq=>
 Do (bA 1 c) λr=>
 Do (bA 2 c) λi=>
 b .neq i J λm=>
 W m acI (
 cK [J,J] [(1,1,i)] λn=>
 aO h 2 a n λk=>
 j k 2 a λo=>
 Q o k) (
 ar (q2 Φ e a Q) ([J],h))
def pn(c f:I)(Q:aa):BT:=λa h=>
 d 0 c a.2 λk=>
 bB k λl=>
 b .lss (N a.1 0) l λm=>
 W m acI (
 d 0 c a.2 λn=>
 Do (aL acL 7 n (N a.1 0)) λo=>
 j a.2 7 o λp=>
 bJ a.2 [.str [],J,J,P,A,J,A] λe q=>
 aO q 7 e p λi=>
 d 0 e i λr=>
Φ 17 [r] i λs g=>
 Do (cu .not s) λt=>
 aF t acJ (
 d 0 e g λu=>
Φ 18 [u] g λv w=>
 G (uL Φ c f e a h Q) [v] w) (
 G (uL Φ c f e a h Q) [aT] g) (
 False)) (
 G (FI Φ c f Q) [] a.2)
def AY(a b:I)(Q:aa):g:=λd c=>
 ar (pn Φ a b Q) ([J],c)
def uM(d a:I)(Q:aa):g:=λe b=>
 W (N e 0) acI (
 cK [J,J] [(1,1,(D 12))] λf=>
 aO b 2 a f λc=>
 j c 2 a λh=>
 Q h c) (
 G (AY Φ d a Q) [] b)
def uN(a e:I)(Q:aa):g:=λj9 c=>
 aF (N j9 0) acJ (
 d 1 a c λf=>
 bB f λh=>
 b .gtr h (D 8) λi=>
 G (uM Φ a e Q) [i] c) (
 G (uM Φ a e Q) [aT] c) (
 False)
def f5(a0:I)(H:Z)(Q:aa):Prop:=
 bU H 2 a0 λa H2=>
 bJ H2 [J,J] λe c=>
 d 0 a c λf=>
 bB f λg=>
 b .gtr g (D 32) λh=>
 aF h acJ (
 d 1 a c λi=>
 bB i λj=>
 b .eql j J λk=>
 G (uN Φ a e Q) [k] c) (
 G (uN Φ a e Q) [aT] c) (
 False)
def FJ:aU:=bf C ⟨5,[2,4,94],[[3],[5],[10]],acL,[],[]⟩
def FL(Φ:ad)(a:ST)(c:LT)(Q:aa):g:=λd e=>
 b .add (N a.1 1) (D 1) λf=>
 c ([(N d 0),f],e)
def uO(a:I)(e:ST)(f:LT)(Q:aa):g:=λh b=>
 d 8 a b λi=>
Φ 7 [i,(N h 0)] b λj c=>
 d 9 a c λk=>
Φ 7 [k,j] c λl m=>
 G (FL Φ e f Q) [l] m
def uP(a c:I)(e:ST)(f:LT)(Q:aa):g:=λh b=>
 W (N h 0) acI (
 d 0 a b λi=>
 d 4 a b λk=>
 d 1 a b λl=>
 aM 5 a λm=>
 j b 2 m λn=>
 Do (bS [J,J,J,.str [],A] [(0,1,i),(1,1,k),(2,1,l),(3,2,n)]) λo=>
 bs (cI b acJ 5 1 [J,J,J,.str [],A] [(0,5,o)]) λp q=>
 bs (cZ q acJ 5 64 c p) λr s=>
 G (uO Φ a e f Q) [r] s) (
 G (uO Φ a e f Q) [c] b)
def po(a0:I)(Q:aa):BT:=λs1 g=>
 bB a0 λi=>
 b .lss (N s1.1 1) i λk=>
 W k acI (
 Do (aL acL 10 a0 (N s1.1 1)) λl=>
 j s1.2 10 l λm=>
 bJ s1.2 [J,J,.str [],.str [],J,.str [],A,A,A,A] λa n=>
 aO n 10 a m λe=>
 aM 5 a λo=>
 j e 2 o λp=>
 d 1 a e λq=>
Φ 24 [p,q,(N s1.1 0)] e λr f=>
 d 7 a f λs=>
 d 1 a f λt=>
Φ 25 [s,t,r] f λh c=>
 d 0 a c λu=>
 b .geq u (D 3) λv=>
 aF v acI (
 d 0 a c λw=>
 b .leq w (D 7) λx=>
 G (uP Φ a h s1 g Q) [x] c) (
 G (uP Φ a h s1 g Q) [P] c) (
 False)) (
 Q (N s1.1 0) s1.2)
def f7(a0 M:I)(H:Z)(Q:aa):Prop:=
 ar (po Φ a0 Q) ([M,J],H)
def FM:aU:=bf C ⟨7,[6],[[1,5]],acL,[],[]⟩
def uQ(Φ:ad)(a:ST)(c:LT)(Q:aa):g:=λd e=>
 b .add (N a.1 1) (D 1) λf=>
 c ([(N d 0),f],e)
def q3(p c:I)(Q:aa):BT:=λa f=>
 d 1 c a.2 λq=>
 bB q λr=>
 b .lss (N a.1 1) r λs=>
 W s acI (
 d 1 c a.2 λt=>
 Do (aL acL 2 t (N a.1 1)) λu=>
 d 1 u a.2 λv=>
 bB v λw=>
 b .eql w (D 1) λx=>
 W x acI (
 aM 0 p λg=>
 dV a.2 g λh=>
 aM 0 c λi=>
 dV a.2 i λj=>
 aM 1 c λk=>
 dV a.2 k λl=>
 Do (eC 2 l acL (acK (N a.1 1)) acL) λy=>
 Do (bS [.str [],A] [(0,1,j),(1,1,y)]) λz=>
Φ 26 [h,z] a.2 λm B=>
 Do (bA 0 m) λC=>
 Do (bA 1 m) λM=>
 bJ B [J,J,P,A,J,A] λn e=>
(aj e 1 acJ g=acK h) /\
(aj e 1 acJ i=acK j) /\
(aj e 1 acJ k=acK l) /\
(aO e 6 n C λo=>
 d 4 n o λE=>
 bs (cI o acJ 1 1 [J] [(0,1,E)]) λF H=>
 bs (cZ H acJ 1 8 (N a.1 0) F) λK L=>
 G (uQ Φ a f Q) [K] L)) (
 G (uQ Φ a f Q) [(N a.1 0)] a.2)) (
 Q (N a.1 0) a.2)
def f8(a0 M:I)(H:Z)(Q:aa):Prop:=
 bU H 2 a0 λa H2=>
 bU H2 2 M λb c=>
 bs (cI c acJ 1 0 [J] []) λd e=>
 ar (q3 Φ a b Q) ([d,J],e)
def FN:aU:=bf C ⟨8,[7],[[5,6]],acL,[],[]⟩
def FO(Φ:ad)(a:ST)(c:LT)(Q:aa):g:=λd e=>
 b .add (N a.1 1) (D 1) λf=>
 c ([(N d 0),f],e)
def uR(g h i:I)(f:ST)(k:LT)(Q:aa):BT:=λa l=>
 b .lss (N a.1 1) i λm=>
 W m acI (
 Do (aL acL 2 h (N a.1 1)) λn=>
 j a.2 2 n λo=>
 bJ a.2 [J,J] λe p=>
 aO p 2 e o λc=>
 Do (aL acL 3 g (N f.1 1)) λq=>
 aM 1 q λr=>
 d 0 r c λs=>
 d 0 e c λt=>
 b .add s t λu=>
 d 1 e c λv=>
 cK [J,J] [(0,1,u),(1,1,v)] λw=>
 bs (cI c acJ 2 1 [J,J] [(0,2,w)]) λx y=>
 bs (cZ y acJ 2 16 (N a.1 0) x) λz A=>
 b .add (N a.1 1) (D 1) λB=>
 l ([z,B],A)) (
 G (FO Φ f k Q) [(N a.1 0)] a.2)
def FP(Φ:ad)(Q:aa):g:=λa b=>
 Q (.aA [(N a 0),J]) b
def q4(a0 i k:I)(Q:aa):BT:=λa l=>
 b .lss (N a.1 1) k λm=>
 W m acI (
 Do (aL acL 7 a0 (N a.1 1)) λn=>
 j a.2 7 n λo=>
 bJ a.2 [.str [],J,J,P,A,J,A] λc p=>
 aO p 7 c o λd=>
 aM 1 c λq=>
 j d 6 q λr=>
Φ 28 [r] d λe f=>
 Do (bA 0 e) λg=>
 Do (bA 1 e) λh=>
 b .neq h J λs=>
 W s acI (
 Q (.aA [A,h]) f) (
 bB g λt=>
 ar (uR Φ i g t a l Q) ([(N a.1 0),J],f))) (
 G (FP Φ Q) [(N a.1 0)] a.2)
def f9(a0:I)(H:Z)(Q:aa):Prop:=
Φ 27 [a0] H λa H2=>
 Do (bA 0 a) λd=>
 Do (bA 1 a) λg=>
 Do (bA 2 a) λc=>
 b .neq c J λe=>
 W e acI (
 Q (.aA [A,c]) H2) (
 bB a0 λf=>
 ar (q4 Φ a0 d f Q) ([A,J],H2))
def FQ:aU:=bf C ⟨9,[9,13],[[7,25],[7,41]],acL,[],[]⟩
def uS(Φ:ad)(a:ST)(c:LT)(Q:aa):g:=λf d=>
 b .sub (N a.1 0) (D 1) λe=>
 c ([e],d)
def uT(Φ:ad)(a:ST)(c:LT)(Q:aa):g:=λd e=>
 b .add (N a.1 1) (D 1) λf=>
 c ([(N d 0),f],e)
def FR(a e l:I)(h:ST)(m:LT)(Q:aa):g:=λi c=>
 aM 0 a λn=>
 d 0 n c λo=>
 j c 6 e λp=>
 j c 5 l λq=>
Φ 30 [p,q,(N i 0)] c λr s=>
 aO s 6 a r λk=>
 aM 0 a λt=>
 d 0 t k λu=>
 b .add u o λv=>
 aM 0 a λw=>
 cg 0 w k v λf=>
 d 3 e f λx=>
 Do (aL acL 9 x (N i 0)) λy=>
 aM 1 y λz=>
 j f 6 z λA=>
 aO f 6 e A λB=>
 G (uT Φ h m Q) [(N h.1 0)] B
def uU(f g c h:I)(e:ST)(i:LT)(Q:aa):BT:=λa j=>
 d 3 c a.2 λk=>
 Do (aL acL 9 k (N a.1 0)) λl=>
 d 0 l a.2 λm=>
 d 1 f a.2 λn=>
 Do (aL acL 2 n (N e.1 1)) λo=>
 d 0 o a.2 λp=>
 b .neq m p λq=>
 W q acI (
 b .add (N a.1 0) (D 1) λr=>
 j ([r],a.2)) (
 G (FR Φ g c h e i Q) [(N a.1 0)] a.2)
def FT(Φ:ad)(a b h:I)(Q:aa):g:=λm c=>
 d 0 h c λi=>
 cg 2 b c i λe=>
 j e 6 b λk=>
 aO e 6 a k λf=>
 j f 6 a λl=>
 Q (.aA [l,aT]) f
def q5(i f g e c:I)(Q:aa):BT:=λa k=>
 d 1 f a.2 λp=>
 bB p λq=>
 b .lss (N a.1 1) q λr=>
 W r acI (
 d 1 f a.2 λs=>
 Do (aL acL 2 s (N a.1 1)) λt=>
 d 1 t a.2 λu=>
 bB u λv=>
 b .eql v (D 1) λw=>
 W w acI (
 gi 1 i (N a.1 0) a.2 λx=>
 d 4 c a.2 λy=>
 Do (fU .u64 y) λz=>
 b .geq x z λB=>
 W B acI (
 cK [J,J,J,P,J,J] [] λC=>
 aO a.2 6 g C λl=>
 j l 6 g λE=>
 Q (.aA [E,P]) l) (
 d 5 c a.2 λF=>
 Do (aL acL 6 F J) λH=>
 j a.2 6 H λK=>
 aO a.2 6 c K λm=>
 j m 6 c λL=>
Φ 29 [L] m λM h=>
 Do (kF 0 1 acJ M) λn=>
 aM 0 e λO=>
 d 0 O h λR=>
 gi 1 i (N a.1 0) h λS=>
 Do (fU .i64 S) λT=>
 b .mul T n λU=>
 b .add R U λV=>
 cK [J,J] [(0,1,V),(1,1,n)] λX=>
 aM 0 e λY=>
 aO h 2 Y X λZ=>
 b .add (N a.1 0) (D 1) λab=>
 G (uT Φ a k Q) [ab] Z)) (
 j a.2 6 c λac=>
Φ 29 [ac] a.2 λae af=>
 bJ af [J,J,A,A,P] λo ag=>
 aO ag 5 o ae λah=>
 ar (uU Φ f e c o a k Q) ([J],ah))) (
 G (FT Φ g e c Q) [] a.2)
def FU(a b c d e:I)(Q:aa):g:=λh f=>
 ar (q5 Φ a b c d e Q) ([J,J],f)
def uV(a0 i c k l e f:I)(Q:aa):BT:=λa g=>
 b .geq (N a.1 0) J λm=>
 W m acI (
 Do (aL acL 7 a0 (N a.1 0)) λn=>
 d 0 n a.2 λo=>
 d 0 c a.2 λp=>
 b .eql o p λq=>
 W q acI (
 Do (aL acL 3 l (N a.1 0)) λr=>
 aM 1 r λs=>
 j a.2 2 s λt=>
 aM 0 e λu=>
 aO a.2 2 u t λh=>
 Do (aL acL 7 a0 (N a.1 0)) λv=>
 aM 1 v λw=>
 j h 6 w λx=>
 aO h 6 f x λy=>
 G (uS Φ a g Q) [] y) (
 G (uS Φ a g Q) [] a.2)) (
 G (FU Φ i c k e f Q) [] a.2)
def f10(a0 M e:I)(H:Z)(Q:aa):Prop:=
 bU H 2 M λf H2=>
 bJ H2 [J,J,J,P,J,J] λg h=>
Φ 20 [a0] h λa i=>
 Do (bA 0 a) λj=>
 Do (bA 1 a) λs=>
 Do (bA 2 a) λt=>
 cK [J,J,J,P,J,J] [] λk=>
 bJ i [J,J,J,P,J,J] λc l=>
 aO l 6 c k λm=>
 Do (bS [J,J,P,A,J,A] []) λn=>
 bJ m [J,J,P,A,J,A] λd o=>
 aO o 6 d n λp=>
 bB a0 λq=>
 b .sub q (D 1) λr=>
 ar (uV Φ a0 e f g j c d Q) ([r],p)
def FV:aU:=bf C ⟨10,[6,11,12,17],[[13],[14,15],[18]],acL,[],[]⟩
def AZ(M a:I)(Q:aa):g:=λq e=>
 d 0 a e λj=>
Φ 27 [j] e λb f=>
 Do (bA 0 b) λk=>
 Do (bA 1 b) λr=>
 Do (bA 2 b) λs=>
 d 0 a f λl=>
 Do (bS [A,A,A,J,J,A,J,A] [(0,1,l),(1,1,k)]) λm=>
 bs (b5 f acI 8 m) λh c=>
 d 1 a c λn=>
 gi 1 n M c λo=>
Φ 32 [h,o] c λt i=>
 de 5 h i λp=>
 Q p i
def q6(M b:I)(Q:aa):g:=λc a=>
 W (N c 0) acI (
 Q A a) (
 G (AZ Φ M b Q) [] a)
def uW(M a:I)(Q:aa):g:=λe c=>
 aF (N e 0) acJ (
 d 1 a c λf=>
 bB f λh=>
 b .geq M h λi=>
 G (q6 Φ M a Q) [i] c) (
 G (q6 Φ M a Q) [aT] c) (
 False)
def f11(a0 M:I)(H:Z)(Q:aa):Prop:=
 bU H 2 a0 λa H2=>
 j H2 2 a λf=>
Φ 31 [f] H2 λg h=>
 bJ h [J,J] λe i=>
 aO i 2 e g λc=>
 d 1 e c λk=>
 b .neq k J λl=>
 aF l acJ (
 b .lss M J λm=>
 G (uW Φ M a Q) [m] c) (
 G (uW Φ M a Q) [aT] c) (
 False)
def FW:aU:=bf C ⟨11,[5,37],[],acL,[],[]⟩
def A0(Φ:ad)(a0:I)(Q:aa):g:=λa H2=>
 aF (N a 0) acJ (
 b .geq a0 (D 16) λc=>
 aF c acI (
 b .leq a0 (D 18) λd=>
 Q d H2) (
 Q P H2) (
 False)) (
 Q aT H2) (
 False)
def f12(a0:I)(H:Z)(Q:aa):Prop:=
 b .geq a0 (D 3) λa=>
 aF a acI (
 b .leq a0 (D 6) λc=>
 G (A0 Φ a0 Q) [c] H) (
 G (A0 Φ a0 Q) [P] H) (
 False)
def FX:aU:=bf C ⟨12,[],[],acL,[],[]⟩
def uX(Φ:ad)(a:ST)(c:LT)(Q:aa):g:=λj9 d=>
 b .add (N a.1 1) (D 1) λe=>
 c ([(N j9 0),e],d)
def q7(a0 f q r:I)(Q:aa):BT:=λa g=>
 b .lss (N a.1 1) r λs=>
 W s acI (
 Do (aL acL 2 q (N a.1 1)) λt=>
 j a.2 2 t λu=>
 bJ a.2 [.str [],A] λh v=>
 aO v 2 h u λc=>
 d 1 h c λw=>
 bB w λx=>
 b .gtr x J λy=>
 W y acI (
 aM 0 f λi=>
 dV c i λk=>
 aM 1 f λl=>
 dV c l λm=>
 Do (eC 2 m acL (acK (N a.1 1)) acL) λz=>
 Do (bS [.str [],A] [(0,1,k),(1,1,z)]) λB=>
Φ 33 [a0,B] c λn C=>
 Do (bA 0 n) λD=>
 Do (bA 1 n) λM=>
 bJ C [J,J,P,A,J,A] λo e=>
(aj e 1 acJ i=acK k) /\
(aj e 1 acJ l=acK m) /\
(aO e 6 o D λp=>
 d 4 o p λE=>
 bs (cI p acJ 1 1 [J] [(0,1,E)]) λF H=>
 bs (cZ H acJ 1 8 (N a.1 0) F) λK L=>
 G (uX Φ a g Q) [K] L)) (
 G (uX Φ a g Q) [(N a.1 0)] c)) (
 Q (N a.1 0) a.2)
def f13(a0 M:I)(H:Z)(Q:aa):Prop:=
 bU H 2 M λa H2=>
 d 1 a H2 λb=>
 bB b λc=>
 ar (q7 Φ a0 a b c Q) ([A,J],H2)
def FY:aU:=bf C ⟨13,[7,8],[[5,13]],acL,[],[]⟩
def f14(Φ:ad)(a0:I)(H:Z)(Q:aa):Prop:=
 bU H 1 a0 λa H2=>
 Q (.fn 34 [a]) H2
def FZ:aU:=bf C ⟨14,[],[],acL,[],[]⟩
def F0(Φ:ad)(a h b:I)(Q:aa):g:=λq c=>
 d 0 h c λi=>
 Do (b8 b) λk=>
 aM 6 k λl=>
 cg 2 l c i λe=>
 Do (b8 b) λm=>
 aM 6 m λn=>
 j e 6 n λo=>
 aO e 6 a o λf=>
 j f 6 a λp=>
 Q (.aA [p,J]) f
def uY(c i d k l:I)(Q:aa):BT:=λa m=>
 b .lss (N a.1 0) l λn=>
 W n acI (
 Do (aL acL 2 k (N a.1 0)) λo=>
 j a.2 2 o λp=>
 bJ a.2 [.str [],A] λe q=>
 aO q 2 e p λf=>
 j f 2 e λr=>
Φ 39 [d,r] f λs g=>
 Do (cu .not s) λt=>
 W t acI (
 cK [J,J,J,P,J,J] [] λu=>
 aO g 6 c u λh=>
 j h 6 c λv=>
 Q (.aA [v,(D 14)]) h) (
 b .add (N a.1 0) (D 1) λw=>
 m ([w],g))) (
 G (F0 Φ c i d Q) [] a.2)
def F1(a0 h b i k l:I)(Q:aa):g:=λx m=>
Φ 37 [a0,(.fn 38 [b])] m λc a=>
 Do (aL acL 7 a0 c) λn=>
 aM 1 n λo=>
 j a 6 o λp=>
 Do (aL acL 3 k c) λq=>
 aM 1 q λr=>
 j a 2 r λs=>
 cK [J,J,J,P,J,J] [(0,2,s)] λt=>
 Do (bS [J,J,P,A,J,A,J,J,J,P,J,J,A] [(0,6,p),(6,6,t),(12,1,h)]) λu=>
 bs (b5 a acI 13 u) λv e=>
 d 1 b e λf=>
 bB f λw=>
 ar (uY Φ i l v f w Q) ([J],e)
def uZ(a0 d e a k l:I)(Q:aa):g:=λm c=>
 W (N m 0) acI (
 cK [J,J,J,P,J,J] [] λn=>
 aO c 6 a n λf=>
 j f 6 a λo=>
 Q (.aA [o,(D 8)]) f) (
 bB d λp=>
 j c 2 e λq=>
Φ 36 [q] c λr h=>
 b .neq p r λs=>
 W s acI (
 cK [J,J,J,P,J,J] [] λt=>
 aO h 6 a t λi=>
 j i 6 a λu=>
 Q (.aA [u,(D 1)]) i) (
 G (F1 Φ a0 d e a k l Q) [] h))
def f15(a0 M i:I)(H:Z)(Q:aa):Prop:=
 bU H 2 M λf H2=>
 bJ H2 [J,J,J,P,J,J] λa q=>
Φ 27 [a0] q λg h=>
 Do (bA 0 g) λk=>
 Do (bA 1 g) λL=>
 Do (bA 2 g) λl=>
 b .neq l J λr=>
 W r acI (
 cK [J,J,J,P,J,J] [] λs=>
 aO h 6 a s λm=>
 j m 6 a λt=>
 Q (.aA [t,l]) m) (
 j h 2 f λu=>
Φ 33 [a0,u] h λn v=>
 Do (bA 0 n) λw=>
 Do (bA 1 n) λo=>
 bJ v [J,J,P,A,J,A] λc x=>
 aO x 6 c w λe=>
 b .neq o J λy=>
 W y acI (
 cK [J,J,J,P,J,J] [] λz=>
 aO e 6 a z λp=>
 j p 6 a λB=>
 Q (.aA [B,o]) p) (
 d 0 c e λC=>
 b .neq C (D 1) λE=>
 aF E acI (
 d 0 c e λF=>
 b .neq F (D 2) λK=>
 G (uZ Φ a0 i f a k c Q) [K] e) (
 G (uZ Φ a0 i f a k c Q) [P] e) (
 False)))
def F2:aU:=bf C ⟨15,[6,11,15,70],[[74]],acL,[],[]⟩
def u0(Φ:ad)(a:ST)(c:LT)(Q:aa):g:=λf d=>
 b .add (N a.1 0) (D 1) λe=>
 c ([e],d)
def q8(d e:I)(b:ST)(c:LT)(Q:aa):g:=λf a=>
 W (N f 0) acI (
 j a 2 e λh=>
 aO a 2 d h λi=>
 G (u0 Φ b c Q) [] i) (
 G (u0 Φ b c Q) [] a)
def F3(Φ:ad)(a d:I)(Q:aa):g:=λj9 b=>
 j b 2 d λe=>
 aO b 2 a e λc=>
 j c 2 a λf=>
 Q f c
def pq(a0 i k c l:I)(Q:aa):BT:=λa g=>
 b .lss (N a.1 0) l λm=>
 W m acI (
 Do (aL acL 2 a0 (N a.1 0)) λn=>
 j a.2 2 n λo=>
 bJ a.2 [J,J] λe p=>
 aO p 2 e o λh=>
 j h 2 i λq=>
 j h 2 e λr=>
Φ 40 [q,r] h λs f=>
 aF s acI (
 d 1 c f λt=>
 b .eql t J λu=>
 aF u acJ (
 d 1 e f λv=>
 d 1 c f λw=>
 b .lss v w λx=>
 G (q8 Φ c e a g Q) [x] f) (
 G (q8 Φ c e a g Q) [aT] f) (
 False)) (
 G (q8 Φ c e a g Q) [P] f) (
 False)) (
 G (F3 Φ k c Q) [] a.2)
def f16(a0 M:I)(H:Z)(Q:aa):Prop:=
 bU H 2 M λb H2=>
 bJ H2 [J,J] λc d=>
 cK [J,J] [] λe=>
 bJ d [J,J] λa f=>
 aO f 2 a e λg=>
 bB a0 λh=>
 ar (pq Φ a0 b c a h Q) ([J],g)
def F4:aU:=bf C ⟨16,[4,5,7],[[11]],acL,[],[]⟩
def F5(Φ:ad)(a:ST)(c:LT)(Q:aa):g:=λf d=>
 b .add (N a.1 0) (D 1) λe=>
 c ([e],d)
def nS(b:ST)(c:LT)(Q:aa):g:=λd a=>
 W (N d 0) acI (
 Q P a) (
 G (F5 Φ b c Q) [] a)
def u1(e:I)(a:ST)(c:LT)(Q:aa):g:=λgj d=>
 Do (cu .not (N gj 0)) λf=>
 aF f acI (
 b .eql (N a.1 0) J λh=>
 aF h acJ (
 b .neq e (.int .u8 95) λi=>
 aF i acI (
 b .lss e (.int .u8 48) λj=>
 aF j acJ (
 b .gtr e (.int .u8 57) λk=>
 G (nS Φ a c Q) [k] d) (
 G (nS Φ a c Q) [aT] d) (
 False)) (
 G (nS Φ a c Q) [P] d) (
 False)) (
 G (nS Φ a c Q) [aT] d) (
 False)) (
 G (nS Φ a c Q) [P] d) (
 False)
def ps(a0:I)(Q:aa):BT:=λa d=>
 Do (ea acI a0) λe=>
 b .lss (N a.1 0) e λf=>
 W f acI (
 Do (ju a0 (N a.1 0)) λc=>
 b .geq c (.int .u8 97) λg=>
 aF g acI (
 b .leq c (.int .u8 122) λh=>
 G (u1 Φ c a d Q) [h] a.2) (
 G (u1 Φ c a d Q) [P] a.2) (
 False)) (
 Q aT a.2)
def A1(a0:I)(Q:aa):g:=λa H2=>
 ar (ps Φ a0 Q) ([J],H2)
def u2(a0:I)(Q:aa):g:=λb a=>
 W (N b 0) acI (
 Q P a) (
 G (A1 Φ a0 Q) [] a)
def f17(a0:I)(H:Z)(Q:aa):Prop:=
 Do (ea acI a0) λa=>
 b .eql a J λc=>
 aF c acJ (
 Do (ea acI a0) λd=>
 b .gtr d (D 16) λe=>
 G (u2 Φ a0 Q) [e] H) (
 G (u2 Φ a0 Q) [aT] H) (
 False)
def F6:aU:=bf C ⟨17,[],[[3]],acL,[],[]⟩
def u3(Φ:ad)(a0 c:I)(Q:aa):BT:=λa d=>
 bB c λe=>
 b .lss (N a.1 0) e λf=>
 W f acI (
 gi 1 c (N a.1 0) a.2 λg=>
 b .eql g a0 λh=>
 W h acI (
 Q aT a.2) (
 b .add (N a.1 0) (D 1) λi=>
 d ([i],a.2))) (
 Q P a.2)
def f18(a0:I)(H:Z)(Q:aa):Prop:=
Φ 41 [] H λa H2=>
 ar (u3 Φ a0 a Q) ([J],H2)
def F7:aU:=bf C ⟨18,[],[[4]],acL,[],[]⟩
def q9(Φ:ad)(b:List I)(Q:aa):g:=λfZ a=>
 W (N fZ 0) acI (
 Q (D 9) a) (
 Q (N b 0) a)
def q_(d:I)(Q:aa):g:=λa c=>
 b .eql (N a 0) J λe=>
 aF e acI (
 j c 6 d λf=>
Φ 29 [f] c λh i=>
 Do (kF 4 1 acJ h) λk=>
 G (q9 Φ a Q) [k] i) (
 G (q9 Φ a Q) [P] c) (
 False)
def u4(a c:I)(Q:aa):g:=λd b=>
 W (N d 0) acI (
 G (q_ Φ a Q) [(D 10)] b) (
 G (q_ Φ a Q) [c] b)
def f19(a0:I)(H:Z)(Q:aa):Prop:=
 bU H 6 a0 λa H2=>
 j H2 6 a λe=>
Φ 42 [e] H2 λc d=>
 b .eql c J λf=>
 aF f acI (
 j d 6 a λg=>
Φ 43 [g] d λh i=>
 G (u4 Φ a c Q) [h] i) (
 G (u4 Φ a c Q) [P] d) (
 False)
def F8:aU:=bf C ⟨19,[],[],acL,[],[]⟩
def F9(Φ:ad)(c:ST)(d:LT)(Q:aa):g:=λa e=>
 b .add (N c.1 2) (D 1) λf=>
 d ([(N a 0),(N a 1),f],e)
def A2(a0 f:I)(a:ST)(j:LT)(Q:aa):g:=λh c=>
 Do (aL acL 7 a0 (N a.1 2)) λk=>
 d 0 k c λl=>
 b .add (D 65536) (N h 0) λm=>
 d 0 f c λn=>
 cK [J,J] [(0,1,m),(1,1,n)] λo=>
 Do (bS [.str [],J,J] [(0,1,l),(1,2,o)]) λp=>
 bs (cI c acJ 3 1 [.str [],J,J] [(0,3,p)]) λq r=>
 bs (cZ r acJ 3 32 (N a.1 0) q) λs e=>
 d 0 f e λt=>
 b .add (N h 0) t λi=>
 b .gtr i (D 65536) λu=>
 W u acI (
 Q (.aA [A,J,(D 9)]) e) (
 G (F9 Φ a j Q) [s,i] e)
def u5(a0 c:I)(e:ST)(f:LT)(Q:aa):BT:=λa g=>
 d 1 c a.2 λh=>
 b .rem (N a.1 0) h λi=>
 b .neq i J λj=>
 W j acI (
 b .add (N a.1 0) (D 1) λk=>
 g ([k],a.2)) (
 G (A2 Φ a0 c e f Q) [(N a.1 0)] a.2)
def F_(Φ:ad)(Q:aa):g:=λfZ a=>
 Q (.aA [(N fZ 0),(N fZ 1),J]) a
def pt(a0:I)(Q:aa):BT:=λa d=>
 bB a0 λe=>
 b .lss (N a.1 2) e λf=>
 W f acI (
 Do (aL acL 7 a0 (N a.1 2)) λg=>
 aM 1 g λh=>
 j a.2 6 h λi=>
Φ 29 [i] a.2 λk l=>
 bJ l [J,J,A,A,P] λc m=>
 aO m 5 c k λn=>
 ar (u5 Φ a0 c a d Q) ([(N a.1 1)],n)) (
 G (F_ Φ Q) [(N a.1 0),(N a.1 1)] a.2)
def Ga(a0:I)(Q:aa):g:=λa H2=>
 ar (pt Φ a0 Q) ([A,J,J],H2)
def u6(a0:I)(Q:aa):BT:=λa e=>
 bB a0 λf=>
 b .lss (N a.1 0) f λg=>
 W g acI (
 Do (aL acL 7 a0 (N a.1 0)) λh=>
 aM 1 h λi=>
 j a.2 6 i λk=>
Φ 19 [k] a.2 λc d=>
 b .neq c J λl=>
 W l acI (
 Q (.aA [A,J,c]) d) (
 b .add (N a.1 0) (D 1) λm=>
 e ([m],d))) (
 G (Ga Φ a0 Q) [] a.2)
def f20(a0:I)(H:Z)(Q:aa):Prop:=
 ar (u6 Φ a0 Q) ([J],H)
def Gb:aU:=bf C ⟨20,[10],[[6],[5,8,9],[8]],acL,[],[]⟩
def A3(Φ:ad)(a:ST)(c:LT)(Q:aa):g:=λd e=>
 b .add (N a.1 1) (D 1) λf=>
 c ([(N d 0),f],e)
def u7(a0 c e:I)(i:ST)(j:LT)(a:List I)(Q:aa):g:=λp f=>
 d 8 e f λk=>
 b .add c (D 1) λl=>
Φ 21 [a0,k,(N a 0),l] f λq h=>
 d 9 e h λm=>
 b .add c (D 1) λn=>
Φ 21 [a0,m,(N a 0),n] h λr o=>
 G (A3 Φ i j Q) [(N a 0)] o
def u9(a0 h a:I)(i:ST)(j:LT)(Q:aa):g:=λc e=>
 d 0 a e λl=>
 b .eql l (D 5) λm=>
 W m acI (
 d 2 a e λn=>
Φ 47 [(N c 0),n] e λo p=>
Φ 44 [a0,o,(D 6)] p λx k=>
 d 3 a k λq=>
Φ 47 [(N c 0),q] k λr s=>
Φ 44 [a0,r,(D 6)] s λy f=>
 d 2 a f λt=>
 d 3 a f λu=>
 b .neq t u λv=>
Φ 44 [a0,v,(D 7)] f λz w=>
 G (u7 Φ a0 h a i j c Q) [] w) (
 G (u7 Φ a0 h a i j c Q) [] e)
def pv(a0 f a:I)(c:ST)(h:LT)(Q:aa):g:=λu i=>
 d 7 a i λk=>
Φ 49 [a0,k,(N c.1 0),f] i λv e=>
 d 0 a e λl=>
 b .eql l (D 1) λm=>
 W m acI (
 d 2 a e λn=>
 bs (cI e acJ 1 1 [.str []] [(0,1,n)]) λo p=>
 bs (cZ p acJ 1 16 (N c.1 0) o) λq j=>
 de 1 a0 j λr=>
 b .add r (D 1) λs=>
 fi 1 a0 j s λt=>
 G (u9 Φ a0 f a c h Q) [q] t) (
 G (u9 Φ a0 f a c h Q) [(N c.1 0)] e)
def u_(a0 h a:I)(c:ST)(i:LT)(Q:aa):g:=λq e=>
 d 2 a e λj=>
Φ 47 [(N c.1 0),j] e λk l=>
 Do (cu .not k) λm=>
Φ 44 [a0,m,(D 7)] l λr f=>
 de 1 a0 f λn=>
 b .lss n (D 40) λo=>
Φ 44 [a0,o,(D 12)] f λs p=>
 G (pv Φ a0 h a c i Q) [] p
def va(a0 c a:I)(e:ST)(f:LT)(Q:aa):g:=λh b=>
 W (N h 0) acI (
 d 0 a b λi=>
 aM 5 a λk=>
 j b 2 k λl=>
Φ 48 [a0,i,l,(N e.1 0),c] b λn m=>
 G (pv Φ a0 c a e f Q) [] m) (
 G (pv Φ a0 c a e f Q) [] b)
def Gc(a0 f a:I)(e:ST)(h:LT)(Q:aa):g:=λE c=>
 d 0 a c λj=>
 b .eql j (D 1) λk=>
 W k acI (
 d 2 a c λl=>
Φ 17 [l] c λm i=>
 aF m acI (
 d 2 a i λn=>
Φ 18 [n] i λo p=>
 Do (cu .not o) λq=>
Φ 44 [a0,q,(D 6)] p λF r=>
 G (u_ Φ a0 f a e h Q) [] r) (
Φ 44 [a0,P,(D 6)] i λH s=>
 G (u_ Φ a0 f a e h Q) [] s) (
 False)) (
 d 0 a c λt=>
 b .eql t (D 2) λu=>
 W u acI (
 d 2 a c λv=>
Φ 47 [(N e.1 0),v] c λw x=>
Φ 44 [a0,w,(D 6)] x λJ y=>
 G (pv Φ a0 f a e h Q) [] y) (
 d 0 a c λz=>
 b .geq z (D 3) λA=>
 aF A acI (
 d 0 a c λB=>
 b .leq B (D 6) λC=>
 G (va Φ a0 f a e h Q) [C] c) (
 G (va Φ a0 f a e h Q) [P] c) (
 False)))
def re(a0 b c:I)(d:ST)(e:LT)(Q:aa):g:=λf a=>
 W (N f 0) acI (
 Q (.aA []) a) (
 G (Gc Φ a0 b c d e Q) [] a)
def vb(a0 c a:I)(e:ST)(f:LT)(Q:aa):g:=λh b=>
 aF (N h 0) acJ (
 d 0 a b λi=>
 d 4 a b λj=>
Φ 46 [i,j] b λk l=>
Φ 44 [a0,k,(D 11)] l λm n=>
 Do (cu .not m) λo=>
 G (re Φ a0 c a e f Q) [o] n) (
 G (re Φ a0 c a e f Q) [aT] b) (
 False)
def Ge(a0 M c:I)(e:ST)(h:LT)(Q:aa):g:=λz i=>
 Do (aL acL 10 M (N e.1 1)) λl=>
 j i 10 l λm=>
 bJ i [J,J,.str [],.str [],J,.str [],A,A,A,A] λa n=>
 aO n 10 a m λk=>
 d 1 a k λo=>
 fi 2 a0 k o λp=>
 b .leq c (D 64) λq=>
Φ 44 [a0,q,(D 5)] p λr f=>
 Do (cu .not r) λs=>
 aF s acJ (
 j f 10 a λt=>
Φ 45 [t] f λu v=>
Φ 44 [a0,u,(D 4)] v λw x=>
 Do (cu .not w) λy=>
 G (vb Φ a0 c a e h Q) [y] x) (
 G (vb Φ a0 c a e h Q) [aT] f) (
 False)
def vc(a0 M b:I)(c:ST)(d:LT)(Q:aa):g:=λj9 a=>
 W (N j9 0) acI (
 G (Ge Φ a0 M b c d Q) [] a) (
 Q (.aA []) a)
def mi(a0 M c:I)(Q:aa):BT:=λa e=>
 bB M λf=>
 b .lss (N a.1 1) f λg=>
 aF g acI (
 Do (b8 a0) λh=>
 aM 3 h λi=>
 d 1 i a.2 λj=>
 b .eql j J λk=>
 G (vc Φ a0 M c a e Q) [k] a.2) (
 G (vc Φ a0 M c a e Q) [P] a.2) (
 False)
def f21(a0 M a b:I)(H:Z)(Q:aa):Prop:=
 bs (cI H acJ 1 0 [.str []] []) λc H2=>
 bs (cZ H2 acJ 1 16 c a) λd e=>
 ar (mi Φ a0 M b Q) ([d,J],e)
def Gf:aU:=bf C ⟨21,[10],[[8,9]],acL,[],[]⟩
def vd(M c:I)(Q:aa):BT:=λa e=>
 d 1 c a.2 λf=>
 bB f λg=>
 b .lss (N a.1 1) g λh=>
 W h acI (
 d 1 c a.2 λi=>
 Do (aL acL 2 i (N a.1 1)) λj=>
 d 1 j a.2 λk=>
Φ 25 [k,M,(N a.1 0)] a.2 λl m=>
 b .add (N a.1 1) (D 1) λn=>
 e ([l,n],m)) (
 Q (N a.1 0) a.2)
def f24(a0 M a:I)(H:Z)(Q:aa):Prop:=
 bU H 2 a0 λb H2=>
 ar (vd Φ M b Q) ([a,J],H2)
def Gg:aU:=bf C ⟨24,[],[[2,7]],acL,[],[]⟩
def ve(Φ:ad)(a:ST)(c:LT)(Q:aa):g:=λd e=>
 b .add (N a.1 1) (D 1) λf=>
 c ([(N d 0),f],e)
def vf(a0 M:I)(Q:aa):BT:=λs1 e=>
 bB a0 λi=>
 b .lss (N s1.1 1) i λk=>
 W k acI (
 Do (aL acL 8 a0 (N s1.1 1)) λl=>
 j s1.2 8 l λm=>
 bJ s1.2 [J,cY 0,.str [],J,J,.str [],A,A] λa n=>
 aO n 8 a m λf=>
 aM 5 a λo=>
 j f 2 o λp=>
Φ 24 [p,M,(N s1.1 0)] f λq g=>
 d 7 a g λr=>
Φ 25 [r,M,q] g λh c=>
 d 0 a c λs=>
 b .geq s (D 4) λt=>
 W t acI (
 d 0 a c λu=>
 b .add (D 10) u λv=>
 d 4 a c λw=>
 aM 5 a λx=>
 j c 2 x λy=>
 Do (bS [J,J,J,.str [],A] [(0,1,v),(1,1,w),(2,1,M),(3,2,y)]) λz=>
 bs (cI c acJ 5 1 [J,J,J,.str [],A] [(0,5,z)]) λB C=>
 bs (cZ C acJ 5 64 h B) λE F=>
 G (ve Φ s1 e Q) [E] F) (
 G (ve Φ s1 e Q) [h] c)) (
 Q (N s1.1 0) s1.2)
def f25(a0 M a:I)(H:Z)(Q:aa):Prop:=
 ar (vf Φ a0 M Q) ([a,J],H)
def Gh:aU:=bf C ⟨25,[8],[[2,7]],acL,[],[]⟩
def vg(Φ:ad)(a:ST)(c:LT)(Q:aa):g:=λd e=>
 b .sub (N a.1 1) (D 1) λf=>
 c ([(N d 0),f],e)
def nT(Φ:ad)(a:ST)(c:LT)(Q:aa):g:=λd e=>
 b .add (N a.1 1) (D 1) λf=>
 c ([(N d 0),f],e)
def vi(Φ:ad)(a:ST)(c:LT)(Q:aa):g:=λd e=>
 b .add (N a.1 1) (D 1) λf=>
 c ([(N d 0),f],e)
def Gi(e h i:I)(c:ST)(f:LT)(Q:aa):g:=λu a=>
 d 3 e a λk=>
 Do (aL acL 9 k (N c.1 1)) λl=>
 d 0 l a λm=>
 d 0 h a λn=>
 b .eql m n λo=>
 W o acI (
 d 3 e a λp=>
 Do (aL acL 9 p (N c.1 1)) λq=>
 aM 1 q λr=>
 j a 6 r λs=>
 aO a 6 i s λt=>
 G (vi Φ c f Q) [J] t) (
 G (vi Φ c f Q) [(N c.1 0)] a)
def vj(b c:I)(d:ST)(e:LT)(Q:aa):g:=λf a=>
 j a 6 c λh=>
 aO a 6 b h λi=>
 G (nT Φ d e Q) [(N f 0)] i
def pw(a e b:I)(f:ST)(h:LT)(c:ST)(i:LT)(Q:aa):g:=λj d=>
 W (N j 0) acI (
 G (Gi Φ a e b c i Q) [] d) (
 G (vj Φ a b f h Q) [(N c.1 0)] d)
def rf(c e f:I)(g:ST)(h:LT)(Q:aa):BT:=λa i=>
 d 3 c a.2 λj=>
 bB j λk=>
 b .lss (N a.1 1) k λl=>
 aF l acI (
 b .neq (N a.1 0) J λm=>
 G (pw Φ c e f g h a i Q) [m] a.2) (
 G (pw Φ c e f g h a i Q) [P] a.2) (
 False)
def rh(e f:I)(a:ST)(b:LT)(Q:aa):g:=λh c=>
 W (N h 0) acI (
 Do (bS [J,J,P,A,J,A] []) λi=>
 bJ c [J,J,P,A,J,A] λd j=>
 aO j 6 d i λk=>
 ar (rf Φ e f d a b Q) ([(D 6),J],k)) (
 G (nT Φ a b Q) [(D 8)] c)
def vk(a e:I)(f:ST)(h:LT)(Q:aa):g:=λi c=>
 aF (N i 0) acI (
 d 0 a c λj=>
 b .eql j (D 3) λk=>
 aF k acJ (
 d 0 a c λl=>
 b .eql l (D 4) λm=>
 G (rh Φ a e f h Q) [m] c) (
 G (rh Φ a e f h Q) [aT] c) (
 False)) (
 G (rh Φ a e f h Q) [P] c) (
 False)
def vm(c e:I)(f:ST)(h:LT)(Q:aa):g:=λi a=>
 W (N i 0) acI (
 d 5 c a λk=>
 Do (aL acL 6 k J) λl=>
 j a 6 l λm=>
 aO a 6 c m λn=>
 G (nT Φ f h Q) [(N f.1 0)] n) (
 d 1 e a λo=>
 bB o λp=>
 b .eql p J λq=>
 aF q acI (
 d 0 e a λr=>
 b .neq r (.str []) λs=>
 G (vk Φ c e f h Q) [s] a) (
 G (vk Φ c e f h Q) [P] a) (
 False))
def vn(a e:I)(f:ST)(h:LT)(Q:aa):g:=λi c=>
 aF (N i 0) acI (
 d 0 a c λj=>
 b .eql j (D 5) λk=>
 G (vm Φ a e f h Q) [k] c) (
 G (vm Φ a e f h Q) [P] c) (
 False)
def Gj(k h:I)(e:ST)(i:LT)(Q:aa):g:=λu f=>
 d 1 k f λl=>
 Do (aL acL 2 l (N e.1 1)) λm=>
 j f 2 m λn=>
 bJ f [.str [],A] λa o=>
 aO o 2 a n λc=>
 d 1 a c λp=>
 bB p λq=>
 b .eql q (D 1) λr=>
 aF r acI (
 d 0 a c λs=>
 b .eql s (.str []) λt=>
 G (vn Φ h a e i Q) [t] c) (
 G (vn Φ h a e i Q) [P] c) (
 False)
def ri(Φ:ad)(a h:I)(Q:aa):g:=λd c=>
 b .neq (N d 0) J λi=>
 W i acI (
 Do (bS [J,J,P,A,J,A] []) λk=>
 aO c 6 a k λe=>
 j e 6 a λl=>
 Q (.aA [l,(N d 0)]) e) (
 j c 6 h λm=>
 aO c 6 a m λf=>
 j f 6 a λn=>
 Q (.aA [n,J]) f)
def py(d e a:I)(b:ST)(f:LT)(Q:aa):g:=λh c=>
 W (N h 0) acI (
 G (Gj Φ d a b f Q) [] c) (
 G (ri Φ e a Q) [(N b.1 0)] c)
def nU(c e f:I)(Q:aa):BT:=λa g=>
 d 1 c a.2 λh=>
 bB h λi=>
 b .lss (N a.1 1) i λj=>
 aF j acI (
 b .eql (N a.1 0) J λk=>
 G (py Φ c e f a g Q) [k] a.2) (
 G (py Φ c e f a g Q) [P] a.2) (
 False)
def A4(a0 i a:I)(Q:aa):g:=λe c=>
 b .lss (N e 0) J λk=>
 W k acI (
 Do (bS [J,J,P,A,J,A] []) λl=>
 aO c 6 a l λf=>
 j f 6 a λm=>
 Q (.aA [m,(D 6)]) f) (
 Do (aL acL 7 a0 (N e 0)) λn=>
 aM 1 n λo=>
 j c 6 o λp=>
 bJ c [J,J,P,A,J,A] λd q=>
 aO q 6 d p λh=>
 j h 6 d λr=>
Φ 42 [r] h λs t=>
 ar (nU Φ i a d Q) ([s,J],t))
def rj(a0 c f:I)(Q:aa):BT:=λa e=>
 b .geq (N a.1 1) J λg=>
 W g acI (
 Do (aL acL 7 a0 (N a.1 1)) λh=>
 d 0 h a.2 λi=>
 d 0 c a.2 λj=>
 b .eql i j λk=>
 W k acI (
 G (vg Φ a e Q) [(N a.1 1)] a.2) (
 G (vg Φ a e Q) [(N a.1 0)] a.2)) (
 G (A4 Φ a0 c f Q) [(N a.1 0)] a.2)
def f26(a0 M:I)(H:Z)(Q:aa):Prop:=
 bU H 2 M λa H2=>
 bJ H2 [J,J,P,A,J,A] λc d=>
 bB a0 λe=>
 b .sub e (D 1) λf=>
 ar (rj Φ a0 a c Q) ([(D (-1)),f],d)
def Gk:aU:=bf C ⟨26,[4,8,11,12],[[6,7],[9,10],[9,13]],acL,[],[]⟩
def Gl(Φ:ad)(c:ST)(d:LT)(Q:aa):g:=λa e=>
 b .add (N c.1 2) (D 1) λf=>
 d ([(N a 0),(N a 1),f],e)
def vo(h a:I)(c:ST)(i:LT)(Q:aa):g:=λe f=>
 d 0 h f λj=>
 b .add (D 65536) (N e 0) λk=>
 cK [J,J] [(0,1,k),(1,1,a)] λl=>
 Do (bS [.str [],J,J] [(0,1,j),(1,2,l)]) λm=>
 bs (cI f acJ 3 1 [.str [],J,J] [(0,3,m)]) λn o=>
 bs (cZ o acJ 3 32 (N c.1 0) n) λp q=>
 b .add (N e 0) a λr=>
 G (Gl Φ c i Q) [p,r] q
def Gm(Φ:ad)(Q:aa):g:=λa H2=>
 b .gtr (N a 1) (D 65536) λc=>
 W c acI (
 Q (.aA [A,J,(D 9)]) H2) (
 Q (.aA [(N a 0),(N a 1),J]) H2)
def rk(a0 m:I)(Q:aa):BT:=λa g=>
 b .lss (N a.1 2) m λn=>
 W n acI (
 Do (aL acL 7 a0 (N a.1 2)) λo=>
 j a.2 7 o λp=>
 bJ a.2 [.str [],J,J,P,A,J,A] λc q=>
 aO q 7 c p λh=>
 aM 1 c λr=>
 j h 6 r λs=>
Φ 53 [s] h λd e=>
 Do (bA 0 d) λi=>
 Do (bA 1 d) λf=>
 Do (bA 2 d) λk=>
 b .neq k J λt=>
 W t acI (
 Q (.aA [A,J,k]) e) (
 b .add (N a.1 1) f λu=>
 b .sub u (D 1) λv=>
 b .quo v f λw=>
 b .mul w f λl=>
 b .gtr l (D 65536) λx=>
 W x acI (
 G (vo Φ c i a g Q) [(D 65537)] e) (
 G (vo Φ c i a g Q) [l] e))) (
 G (Gm Φ Q) [(N a.1 0),(N a.1 1)] a.2)
def f27(a0:I)(H:Z)(Q:aa):Prop:=
 bB a0 λa=>
 ar (rk Φ a0 a Q) ([A,J,J],H)
def Gn:aU:=bf C ⟨27,[8],[[5,6,14]],acL,[],[]⟩
def f28(a0:I)(H:Z)(Q:aa):Prop:=
 bU H 6 a0 λd H2=>
 j H2 6 d λk=>
Φ 54 [k] H2 λe l=>
 Do (bA 0 e) λm=>
 Do (bA 1 e) λf=>
 bJ l [J,J] λn o=>
 aO o 2 n m λg=>
 b .neq f J λp=>
 W p acI (
 Q (.aA [A,f]) g) (
 Do (bS [A,P] []) λq=>
 bs (b5 g acI 2 q) λa h=>
 j h 6 d λr=>
Φ 55 [a,r,J] h λw s=>
Φ 56 [a] s λx c=>
 de 1 a c λt=>
 W t acI (
 Q (.aA [A,(D 12)]) c) (
 bs (kG c a) λu i=>
 de 0 u i λv=>
 Q (.aA [v,J]) i))
def Gp:aU:=bf C ⟨28,[4,16],[],acL,[],[(9,[6])]⟩
def Gq(Φ:ad)(h c e:I)(Q:aa):g:=λp a=>
 d 0 e a λi=>
 d 4 h a λk=>
 b .mul i k λl=>
 d 1 e a λm=>
 Do (bS [J,J,A,A,P] [(0,1,l),(1,1,m)]) λn=>
 aO a 5 c n λf=>
 j f 5 c λo=>
 Q o f
def vp(f a c:I)(Q:aa):g:=λh b=>
 W (N h 0) acI (
 d 1 c b λi=>
 Do (bS [J,J,A,A,P] [(1,1,i),(4,1,aT)]) λk=>
 aO b 5 a k λe=>
 j e 5 a λl=>
 Q l e) (
 G (Gq Φ f a c Q) [] b)
def vq(Φ:ad)(c:ST)(d:LT)(Q:aa):g:=λa e=>
 b .add (N c.1 2) (D 1) λf=>
 d ([(N a 0),(N a 1),f],e)
def vr(c e:I)(f:ST)(h:LT)(i:List I)(Q:aa):g:=λj a=>
 d 1 c a λk=>
 b .gtr (N j 0) k λl=>
 W l acI (
 cg 1 c a (N j 0) λm=>
 G (vq Φ f h Q) [e,(N i 0)] m) (
 G (vq Φ f h Q) [e,(N i 0)] a)
def rl(a b h:I)(c:ST)(d:LT)(e:List I)(Q:aa):g:=λi f=>
 W (N i 0) acI (
 G (vr Φ a b c d e Q) [(D 1)] f) (
 G (vr Φ a b c d e Q) [h] f)
def vt(k c l m e:I)(f:ST)(h:LT)(n:List I)(Q:aa):g:=λi a=>
 d 1 m a λj=>
 d 2 k a λo=>
 aF o acJ (
 d 7 l a λp=>
 aF p acI (
 b .eql (N n 1) J λq=>
 G (rl Φ c e j f h i Q) [q] a) (
 G (rl Φ c e j f h i Q) [P] a) (
 False)) (
 G (rl Φ c e j f h i Q) [aT] a) (
 False)
def A5(h a i j:I)(c:ST)(k:LT)(e:List I)(Q:aa):g:=λl m=>
 d 2 a m λp=>
 bs (cI m acJ 1 1 [J] [(0,1,(N l 0))]) λq r=>
 bs (cZ r acJ 1 8 p q) λs t=>
 cg 2 a t s λn=>
 d 3 a n λu=>
 bs (cI n acJ 1 1 [J] [(0,1,(N e 1))]) λv w=>
 bs (cZ w acJ 1 8 u v) λx y=>
 cg 3 a y x λo=>
 b .add (N l 0) (N e 1) λf=>
 b .gtr f (N c.1 1) λz=>
 W z acI (
 G (vt Φ h a i j f c k e Q) [f] o) (
 G (vt Φ h a i j f c k e Q) [(N c.1 1)] o)
def vu(d e f g:I)(h:ST)(i:LT)(c:List I)(Q:aa):BT:=λa j=>
 b .rem (N a.1 0) (N c 0) λk=>
 b .neq k J λl=>
 W l acI (
 b .add (N a.1 0) (D 1) λm=>
 j ([m],a.2)) (
 G (A5 Φ d e f g h i c Q) [(N a.1 0)] a.2)
def rm(a b c d:I)(e:ST)(f:LT)(h:List I)(Q:aa):g:=λi j=>
 ar (vu Φ a b c d e f i Q) ([(N h 0)],j)
def vv(a b c d e k:I)(f:ST)(h:LT)(i:List I)(Q:aa):g:=λl j=>
 W (N l 0) acI (
 G (rm Φ a b c d f h i Q) [k,e] j) (
 G (rm Φ a b c d f h i Q) [(D 1),e] j)
def vw(i j a k n:I)(l:ST)(m:LT)(e:List I)(Q:aa):g:=λo c=>
 d 7 a c λp=>
 W p acI (
 d 8 a c λf=>
 aM 1 a λq=>
 d 1 q c λr=>
 b .mul (D 8) r λh=>
 b .eql f J λs=>
 aF s acJ (
 b .rem (N e 0) h λt=>
 b .add t f λu=>
 b .gtr u h λv=>
 G (vv Φ i j a k f h l m e Q) [v] c) (
 G (vv Φ i j a k f h l m e Q) [aT] c) (
 False)) (
 G (rm Φ i j a k l m e Q) [(N o 0),n] c)
def vx(e f h c:I)(i:ST)(j:LT)(Q:aa):g:=λk a=>
 d 1 c a λm=>
 b .mul (D 8) m λn=>
 d 0 c a λo=>
 b .mul (D 8) o λl=>
 d 2 e a λp=>
 W p acI (
 G (vw Φ e f h c l i j k Q) [(D 8)] a) (
 G (vw Φ e f h c l i j k Q) [n] a)
def A6(Φ:ad)(c a:I)(Q:aa):g:=λi k=>
 b .quo (N i 0) (D 8) λl=>
 cg 0 a k l λe=>
 d 0 a e λm=>
 b .gtr m (D 65536) λn=>
 cg 4 a e n λf=>
 j f 5 a λo=>
 aO f 5 c o λh=>
 j h 5 c λp=>
 Q p h
def vy(e c:I)(Q:aa):BT:=λa f=>
 d 1 c a.2 λg=>
 b .mul (D 8) g λh=>
 b .rem (N a.1 0) h λi=>
 b .neq i J λj=>
 W j acI (
 b .add (N a.1 0) (D 1) λk=>
 f ([k],a.2)) (
 G (A6 Φ e c Q) [(N a.1 0)] a.2)
def Gr(a b:I)(Q:aa):g:=λc d=>
 ar (vy Φ a b Q) ([(N c 0)],d)
def jz(c h i:I)(Q:aa):BT:=λa k=>
 d 3 c a.2 λn=>
 bB n λo=>
 b .lss (N a.1 2) o λp=>
 W p acI (
 d 3 c a.2 λq=>
 Do (aL acL 9 q (N a.1 2)) λr=>
 j a.2 9 r λs=>
 bJ a.2 [.str [],J,J,P,A,J,A,P,J] λf t=>
 aO t 9 f s λl=>
 aM 1 f λu=>
 j l 6 u λv=>
Φ 29 [v] l λw x=>
 bJ x [J,J,A,A,P] λg y=>
 aO y 5 g w λe=>
 d 4 g e λz=>
 W z acI (
 Do (bS [J,J,A,A,P] [(1,1,(D 1)),(4,1,aT)]) λB=>
 aO e 5 h B λm=>
 j m 5 h λC=>
 Q C m) (
 d 0 c e λE=>
 b .eql E (D 4) λF=>
 W F acI (
 G (vx Φ c i f g a k Q) [J] e) (
 G (vx Φ c i f g a k Q) [(N a.1 0)] e))) (
 G (Gr Φ h i Q) [(N a.1 1)] a.2)
def Gs(b c:I)(Q:aa):g:=λi d=>
 Do (bS [J,J,A,A,P] [(1,1,(D 1))]) λe=>
 bJ d [J,J,A,A,P] λa f=>
 aO f 5 a e λh=>
 ar (jz Φ b c a Q) ([J,J,J],h)
def rp(a e k:I)(Q:aa):g:=λj9 c=>
 W (N j9 0) acI (
 d 1 a c λl=>
 d 1 a c λm=>
 Do (bS [J,J,A,A,P] [(0,1,l),(1,1,m)]) λn=>
 aO c 5 e n λi=>
 j i 5 e λo=>
 Q o i) (
 b .eql k (D 5) λp=>
 W p acI (
 d 5 a c λq=>
 Do (aL acL 6 q J) λr=>
 j c 6 r λs=>
Φ 29 [s] c λt u=>
 bJ u [J,J,A,A,P] λf v=>
 aO v 5 f t λh=>
 d 4 f h λw=>
 aF w acJ (
 d 0 f h λx=>
 d 4 a h λy=>
 b .mul x y λz=>
 b .gtr z (D 65536) λB=>
 G (vp Φ a e f Q) [B] h) (
 G (vp Φ a e f Q) [aT] h) (
 False)) (
 G (Gs Φ a e Q) [] c))
def f29(a0:I)(H:Z)(Q:aa):Prop:=
 bU H 6 a0 λc H2=>
 bJ H2 [J,J,A,A,P] λf e=>
 d 0 c e λa=>
 b .eql a (D 1) λg=>
 W g acI (
 G (rp Φ c f a Q) [g] e) (
 b .eql a (D 2) λh=>
 G (rp Φ c f a Q) [h] e)
def Gt:aU:=bf C ⟨29,[2,3,4,8,9],[[5,6,7],[5],[6]],acL,[],[]⟩
def vz(Φ:ad)(a d:I)(Q:aa):g:=λh b=>
 j b 6 d λe=>
 aO b 6 a e λc=>
 j c 6 a λf=>
 Q f c
def f30(a0 M h:I)(H:Z)(Q:aa):Prop:=
 bU H 6 a0 λo H2=>
 bU H2 5 M λl p=>
 bJ p [J,J,J,P,J,J] λe i=>
 d 3 o i λq=>
 Do (aL acL 9 q h) λr=>
 j i 9 r λs=>
 bJ i [.str [],J,J,P,A,J,A,P,J] λk t=>
 aO t 9 k s λa=>
 d 2 l a λu=>
 gi 1 u h a λc=>
 d 3 l a λv=>
 gi 1 v h a λf=>
 d 7 k a λw=>
 Do (cu .not w) λx=>
 W x acI (
 b .quo c (D 8) λy=>
 b .quo f (D 8) λz=>
 cK [J,J] [(0,1,y),(1,1,z)] λB=>
 aM 1 k λC=>
 d 0 C a λE=>
 cK [J,J,J,P,J,J] [(0,2,B),(2,1,E)] λF=>
 aO a 6 e F λm=>
 j m 6 e λK=>
 Q K m) (
 b .quo c (D 8) λL=>
 cK [J,J] [(0,1,L)] λN=>
 b .rem c (D 8) λO=>
 cK [J,J,J,P,J,J] [(0,2,N),(2,1,(D 1)),(3,1,aT),(4,1,O),(5,1,f)] λR=>
 bJ a [J,J,J,P,J,J] λg S=>
 aO S 6 g R λn=>
 b .gtr f J λT=>
 W T acI (
 b .add c f λU=>
 b .sub U (D 1) λV=>
 b .quo V (D 8) λX=>
 b .quo c (D 8) λY=>
 b .sub X Y λab=>
 b .add ab (D 1) λac=>
 aM 0 g λae=>
 cg 1 ae n ac λaf=>
 G (vz Φ e g Q) [] af) (
 G (vz Φ e g Q) [] n))
def Gu:aU:=bf C ⟨30,[6,7,10],[],acL,[],[]⟩
def Gv(Φ:ad)(a:I)(Q:aa):g:=λf c=>
 cK [J,J] [] λd=>
 aO c 2 a d λb=>
 j b 2 a λe=>
 Q e b
def vA(h c i k:I)(Q:aa):BT:=λa l=>
 b .lss (N a.1 0) k λm=>
 W m acI (
 gi 1 i (N a.1 0) a.2 λn=>
 d 0 h a.2 λo=>
 Do (bS [A,A,J,J,J,J] [(0,1,o)]) λp=>
 bs (b5 a.2 acI 6 p) λe q=>
Φ 58 [e,n,(D 1)] q λy r=>
Φ 59 [e] r λs f=>
 W s acI (
 Do (b8 e) λt=>
 aM 4 t λu=>
 j f 2 u λv=>
 aO f 2 c v λg=>
 j g 2 c λw=>
 Q w g) (
 b .add (N a.1 0) (D 1) λx=>
 l ([x],f))) (
 G (Gv Φ c Q) [] a.2)
def A7(a c:I)(Q:aa):g:=λq f=>
 d 0 a f λl=>
Φ 57 [l] f λh e=>
 b .neq h J λm=>
 W m acI (
 cK [J,J] [(1,1,h)] λn=>
 aO e 2 c n λi=>
 j i 2 c λo=>
 Q o i) (
 d 1 a e λk=>
 bB k λp=>
 ar (vA Φ a c k p Q) ([J],e))
def vC(d a:I)(Q:aa):g:=λe b=>
 W (N e 0) acI (
 cK [J,J] [(1,1,(D 12))] λf=>
 aO b 2 a f λc=>
 j c 2 a λh=>
 Q h c) (
 G (A7 Φ d a Q) [] b)
def vD(a e:I)(Q:aa):g:=λj9 c=>
 aF (N j9 0) acJ (
 d 1 a c λf=>
 bB f λh=>
 b .gtr h (D 8) λi=>
 G (vC Φ a e Q) [i] c) (
 G (vC Φ a e Q) [aT] c) (
 False)
def f31(a0:I)(H:Z)(Q:aa):Prop:=
 bU H 2 a0 λa H2=>
 bJ H2 [J,J] λe c=>
 d 0 a c λf=>
 bB f λg=>
 b .gtr g (D 32) λh=>
 aF h acJ (
 d 1 a c λi=>
 bB i λj=>
 b .lss j (D 1) λk=>
 G (vD Φ a e Q) [k] c) (
 G (vD Φ a e Q) [aT] c) (
 False)
def Gw:aU:=bf C ⟨31,[2,41],[[34]],acL,[],[]⟩
def Gx(Φ:ad)(a0 b:I)(Q:aa):g:=λf a=>
 de 7 a0 a λc=>
 Do (eC 2 c acL (acK b) acL) λd=>
 fi 7 a0 a d λe=>
 Q (.aA []) e
def vF(a0 M g h:I)(Q:aa):BT:=λa i=>
 b .lss (N a.1 0) h λk=>
 W k acI (
 Do (aL acL 10 M (N a.1 0)) λl=>
 j a.2 10 l λm=>
 bJ a.2 [J,J,.str [],.str [],J,.str [],A,A,A,A] λc n=>
 aO n 10 c m λe=>
 d 1 c e λo=>
 fi 6 a0 e o λf=>
 j f 10 c λp=>
Φ 60 [a0,p] f λs q=>
 b .add (N a.1 0) (D 1) λr=>
 i ([r],q)) (
 G (Gx Φ a0 g Q) [] a.2)
def f32(a0 M:I)(H:Z)(Q:aa):Prop:=
 de 7 a0 H λa=>
 bB a λb=>
 bB M λc=>
 ar (vF Φ a0 M b c Q) ([J],H)
def Gy:aU:=bf C ⟨32,[6],[[14]],acL,[],[]⟩
def Gz(Φ:ad)(a d:I)(Q:aa):g:=λh b=>
 j b 6 d λe=>
 aO b 6 a e λc=>
 j c 6 a λf=>
 Q (.aA [f,J]) c
def vG(c d m n:I)(Q:aa):BT:=λa o=>
 b .lss (N a.1 0) n λp=>
 W p acI (
 Do (aL acL 2 m (N a.1 0)) λq=>
 j a.2 2 q λr=>
 bJ a.2 [.str [],A] λg s=>
 aO s 2 g r λe=>
 j e 6 d λt=>
 j e 2 g λu=>
Φ 63 [t,u] e λh v=>
 Do (bA 0 h) λw=>
 Do (bA 1 h) λi=>
 bJ v [J,J,P,A,J,A] λk x=>
 aO x 6 k w λf=>
 b .neq i J λy=>
 W y acI (
 Do (bS [J,J,P,A,J,A] []) λz=>
 aO f 6 c z λl=>
 j l 6 c λB=>
 Q (.aA [B,i]) l) (
 j f 6 k λC=>
 aO f 6 d C λE=>
 b .add (N a.1 0) (D 1) λF=>
 o ([F],E))) (
 G (Gz Φ c d Q) [] a.2)
def f33(a0 M:I)(H:Z)(Q:aa):Prop:=
 bU H 2 M λg H2=>
 bJ H2 [J,J,P,A,J,A] λa o=>
Φ 37 [a0,(.fn 61 [g])] o λh c=>
 b .lss h J λp=>
 W p acI (
 Do (bS [J,J,P,A,J,A] []) λq=>
 aO c 6 a q λi=>
 j i 6 a λr=>
 Q (.aA [r,(D 6)]) i) (
 Do (aL acL 7 a0 h) λs=>
 aM 1 s λt=>
 j c 6 t λu=>
 bJ c [J,J,P,A,J,A] λe v=>
 aO v 6 e u λk=>
 j k 6 e λw=>
Φ 62 [w] k λl f=>
 b .neq l J λx=>
 W x acI (
 Do (bS [J,J,P,A,J,A] []) λy=>
 aO f 6 a y λm=>
 j m 6 a λz=>
 Q (.aA [z,l]) m) (
 d 1 g f λn=>
 bB n λB=>
 ar (vG Φ a e n B Q) ([J],f)))
def GA:aU:=bf C ⟨33,[4,7,10,11],[[33]],acL,[],[]⟩
def GB(Φ:ad)(c:LT)(Q:aa):g:=λgj a=>
 b .lss (N gj 0) J λd=>
 W d acI (
 Q (.aA []) a) (
 c ([],a))
def Ql(M d:I)(e:LT)(Q:aa):BT:=λa f=>
 b .geq (N a.1 0) J λg=>
 W g acI (
 gi 1 d (N a.1 0) a.2 λh=>
 b .add h (cY 1) λi=>
 Do (aL acL 1 d (N a.1 0)) λj=>
 aO a.2 1 j i λc=>
 gi 1 d (N a.1 0) c λk=>
 dV c M λl=>
 gi 1 l (N a.1 0) c λm=>
 Do (fU .u64 m) λn=>
 b .lss k n λo=>
 W o acI (
 G (GB Φ e Q) [(N a.1 0)] c) (
 Do (aL acL 1 d (N a.1 0)) λp=>
 aO c 1 p (cY 0) λq=>
 b .sub (N a.1 0) (D 1) λr=>
 f ([r],q))) (
 G (GB Φ e Q) [(N a.1 0)] a.2)
def Qm(a0 M a:I)(Q:aa):BT:=λf g=>
Φ 35 [a] f.2 λh i=>
∃c d,a0 = .fn c d/\Φ (jw c) (jx c [h] d) i λj e=>
 Do (cu .not j) λk=>
 W k acI (
 Q (.aA []) e) (
 bB a λl=>
 b .sub l (D 1) λm=>
 ar (Ql Φ M a g Q) ([m],e))
def f34(a0 M:I)(H:Z)(Q:aa):Prop:=
 dV H M λb=>
 bB b λa=>
 bs (jN H acI 1 8 [cY 0] a a) λc d=>
 ar (Qm Φ a0 M c Q) ([],d)
def Qn:aU:=bf C ⟨34,[7],[[],[4]],acL,[],[]⟩
def f35(Φ:ad)(a0:I)(H:Z)(Q:aa):Prop:=
 Do (nB .s acJ a0) λa=>
 W a acI (
 Q A H) (
 bs (cI H acJ 1 0 [cY 0] []) λb c=>
 bs (cZ c acJ 1 8 b a0) λd e=>
 Q d e)
def GC:aU:=bf C ⟨35,[],[],acL,[],[]⟩
def vH(Φ:ad)(f g:I)(Q:aa):BT:=λa h=>
 b .lss (N a.1 1) g λi=>
 W i acI (
 Do (aL acL 2 f (N a.1 1)) λk=>
 j a.2 2 k λl=>
 bJ a.2 [.str [],A] λc m=>
 aO m 2 c l λe=>
 d 1 c e λn=>
 bB n λo=>
 b .add (N a.1 0) o λp=>
 b .add (N a.1 1) (D 1) λq=>
 h ([p,q],e)) (
 Q (N a.1 0) a.2)
def f36(a0:I)(H:Z)(Q:aa):Prop:=
 bU H 2 a0 λb H2=>
 d 1 b H2 λa=>
 bB a λc=>
 ar (vH Φ a c Q) ([J,J],H2)
def GD:aU:=bf C ⟨36,[5],[[3,9]],acL,[],[]⟩
def Qo(a0 M e:I)(Q:aa):BT:=λs2 f=>
 b .lss (N s2.1 0) e λg=>
 W g acI (
 Do (aL acL 7 a0 (N s2.1 0)) λh=>
 j s2.2 7 h λi=>
∃a c,M = .fn a c/\Φ (jw a) (jx a [i] c) s2.2 λk d=>
 W k acI (
 Q (N s2.1 0) d) (
 b .add (N s2.1 0) (D 1) λl=>
 f ([l],d))) (
 Q (D (-1)) s2.2)
def f37(a0 M:I)(H:Z)(Q:aa):Prop:=
 bB a0 λa=>
 ar (Qo Φ a0 M a Q) ([J],H)
def GF:aU:=bf C ⟨37,[],[[8]],acL,[],[]⟩
def f38(Φ:ad)(a0 M:I)(H:Z)(Q:aa):Prop:=
 bU H 7 a0 λa H2=>
 d 0 a H2 λc=>
 d 0 M H2 λe=>
 b .eql c e λf=>
 Q f H2
def GG:aU:=bf C ⟨38,[],[],acL,[],[]⟩
def f39(a0 M:I)(H:Z)(Q:aa):Prop:=
 bU H 2 M λh H2=>
 d 1 h H2 λr=>
 bB r λs=>
 b .eql s (D 1) λt=>
 W t acI (
 de 12 a0 H2 λu=>
 gi 1 u J H2 λi=>
 de 12 a0 H2 λv=>
 Do (eC 1 v (acK (D 1)) acL acL) λw=>
 fi 12 a0 H2 w λa=>
 Do (b8 a0) λx=>
 aM 0 x λy=>
 d 4 y a λz=>
 Do (fU .u64 z) λA=>
 b .geq i A λB=>
 W B acI (
 Q P a) (
 Do (b8 a0) λC=>
 aM 0 C λE=>
 d 5 E a λF=>
 Do (aL acL 6 F J) λG=>
 j a 6 G λK=>
 Do (b8 a0) λL=>
 aM 0 L λN=>
 aO a 6 N K λk=>
 Do (b8 a0) λO=>
 aM 0 O λR=>
 j k 6 R λS=>
Φ 53 [S] k λf l=>
 Do (bA 0 f) λm=>
 Do (bA 1 f) λaX=>
 Do (bA 2 f) λaY=>
 Do (b8 a0) λT=>
 aM 6 T λU=>
 aM 0 U λV=>
 d 0 V l λX=>
 Do (fU .i64 i) λY=>
 b .mul Y m λab=>
 b .add X ab λac=>
 Do (b8 a0) λae=>
 aM 6 ae λaf=>
 aM 0 af λag=>
 cg 0 ag l ac λah=>
 Do (b8 a0) λai=>
 aM 6 ai λaj=>
 aM 0 aj λak=>
 cg 1 ak ah m λal=>
 Q aT al)) (
 Do (b8 a0) λam=>
 aM 0 am λan=>
 d 3 an H2 λao=>
Φ 64 [ao,(.fn 65 [h])] H2 λn o=>
 Do (b8 a0) λap=>
 aM 0 ap λaq=>
 j o 6 aq λar=>
Φ 66 [ar] o λp q=>
 Do (bA 0 p) λau=>
 Do (bA 1 p) λaZ=>
 Do (aL acL 6 au n) λav=>
 j q 6 av λaw=>
 bJ q [J,J,J,P,J,J] λc ax=>
 aO ax 6 c aw λg=>
 aM 0 c λay=>
 d 0 ay g λaz=>
 Do (b8 a0) λaA=>
 aM 6 aA λaB=>
 aM 0 aB λaC=>
 d 0 aC g λaD=>
 b .add az aD λaE=>
 aM 0 c λaF=>
 cg 0 aF g aE λe=>
 j e 6 c λaG=>
 Do (b8 a0) λaH=>
 aM 0 aH λaI=>
 d 3 aI e λaJ=>
 Do (aL acL 9 aJ n) λaK=>
 aM 1 aK λaN=>
 j e 6 aN λaP=>
 Do (b8 a0) λaQ=>
 aM 6 aQ λaR=>
 aO e 6 aR aG λaS=>
 Do (b8 a0) λaU=>
 aM 0 aU λaV=>
 aO aS 6 aV aP λaW=>
 Q aT aW)
def GH:aU:=bf C ⟨39,[12],[],acL,[],[]⟩
def f40(a0 M:I)(H:Z)(Q:aa):Prop:=
 bU H 2 a0 λi H2=>
 bU H2 2 M λk e=>
 j e 2 i λl=>
Φ 67 [l] e λm o=>
 bJ o [J,J] λa p=>
 aO p 2 a m λf=>
 j f 2 a λq=>
Φ 68 [q] f λr b=>
 aF r acJ (
 j b 2 a λg=>
 j b 2 k λs=>
 j b 2 a λc=>
Φ 67 [s] b λt d=>
(((P):I) = P->aj d 2 acI a=acK g) /\
(((P):I) = P->aj d 2 acI a=acK c) /\
(Φ 69 [g,t] d λu h=>
(((P):I) = P->aj h 2 acI a=acK c) /\
(Do (kE acJ [.n,.n] u c) λv=>
 Q v h))) (
(((aT):I) = P->aj b 2 acI a=acK (.aA [])) /\
(((aT):I) = P->aj b 2 acI a=acK (.aA [])) /\
((((aT):I) = P->aj b 2 acI a=acK (.aA [])) /\
(Q aT b))) (
(((.aA []):I) = P->aj b 2 acI a=acK (.aA [])) /\
(((.aA []):I) = P->aj b 2 acI a=acK (.aA [])) /\
((((.aA []):I) = P->aj b 2 acI a=acK (.aA [])) /\
(False)))
def GI:aU:=bf C ⟨40,[5],[],acL,[],[]⟩
def f41(Φ:ad)(H:Z)(Q:aa):Prop:=
 bs (cI H acJ 1 34 [.str []] [(0,1,(.str [118,97,114])),(1,1,(.str [116,104,114,101,97,100])),(2,1,(.str [115,116,114,117,99,116])),(3,1,(.str [117,110,105,111,110])),(4,1,(.str [112,97,99,107,101,100])),(5,1,(.str [117,56])),(6,1,(.str [117,49,54])),(7,1,(.str [117,51,50])),(8,1,(.str [117,54,52])),(9,1,(.str [97,56])),(10,1,(.str [97,49,54])),(11,1,(.str [97,51,50])),(12,1,(.str [97,54,52])),(13,1,(.str [97,49,50,56])),(14,1,(.str [108,101,116])),(15,1,(.str [115,101,116])),(16,1,(.str [119,114,105,116,101])),(17,1,(.str [115,116,111,114,101])),(18,1,(.str [108,111,97,100,50])),(19,1,(.str [115,116,111,114,101,50])),(20,1,(.str [102,101,110,99,101])),(21,1,(.str [105,102])),(22,1,(.str [101,108,115,101])),(23,1,(.str [119,104,105,108,101])),(24,1,(.str [112,114,105,110,116])),(25,1,(.str [114,101,97,100])),(26,1,(.str [108,111,97,100])),(27,1,(.str [97,100,100])),(28,1,(.str [115,119,97,112])),(29,1,(.str [99,97,115])),(30,1,(.str [114,108,120])),(31,1,(.str [97,99,113])),(32,1,(.str [114,101,108])),(33,1,(.str [115,99]))]) λa H2=>
 Q a H2
def GJ:aU:=bf C ⟨41,[],[],acL,[],[]⟩
def f42(a0:I)(H:Z)(Q:aa):Prop:=
 bU H 6 a0 λc H2=>
 j H2 6 c λd=>
Φ 70 [d,(D 65)] H2 λe a=>
 b .gtr e (D 64) λf=>
 W f acI (
 Q (D 5) a) (
 j a 6 c λg=>
Φ 71 [g] a λh i=>
 Q h i)
def GK:aU:=bf C ⟨42,[],[],acL,[],[]⟩
def vI(Φ:ad)(a:ST)(c:LT)(Q:aa):g:=λd e=>
 b .add (N a.1 1) (D 1) λf=>
 c ([(N d 0),f],e)
def vJ(Φ:ad)(a:ST)(c:LT)(Q:aa):g:=λd e=>
 b .add (N a.1 1) (D 1) λf=>
 c ([(N d 0),f],e)
def vK(c:I)(Q:aa):BT:=λa e=>
 d 3 c a.2 λf=>
 bB f λg=>
 b .lss (N a.1 1) g λh=>
 W h acI (
 aF (N a.1 0) acJ (
 d 3 c a.2 λi=>
 Do (aL acL 9 i (N a.1 1)) λk=>
 aM 1 k λl=>
 j a.2 6 l λm=>
Φ 43 [m] a.2 λn o=>
 G (vJ Φ a e Q) [n] o) (
 G (vJ Φ a e Q) [aT] a.2) (
 False)) (
 Q (N a.1 0) a.2)
def GL(a:I)(Q:aa):g:=λb c=>
 ar (vK Φ a Q) ([(N b 0),J],c)
def vL(c:I)(Q:aa):BT:=λa e=>
 d 5 c a.2 λf=>
 bB f λg=>
 b .lss (N a.1 1) g λh=>
 W h acI (
 aF (N a.1 0) acJ (
 d 5 c a.2 λi=>
 Do (aL acL 6 i (N a.1 1)) λk=>
 j a.2 6 k λl=>
Φ 43 [l] a.2 λm n=>
 G (vI Φ a e Q) [m] n) (
 G (vI Φ a e Q) [aT] a.2) (
 False)) (
 G (GL Φ c Q) [(N a.1 0)] a.2)
def vM(a:I)(Q:aa):g:=λb c=>
 ar (vL Φ a Q) ([(N b 0),J],c)
def f43(a0:I)(H:Z)(Q:aa):Prop:=
 bU H 6 a0 λa H2=>
 d 2 a H2 λb=>
 aF b acI (
 j H2 6 a λc=>
Φ 72 [c] H2 λe f=>
 G (vM Φ a Q) [e] f) (
 G (vM Φ a Q) [P] H2) (
 False)
def GM:aU:=bf C ⟨43,[],[[3,4],[3,5]],acL,[],[]⟩
def vN(Φ:ad)(a0:I)(Q:aa):g:=λh H2=>
 Do (b8 a0) λa=>
 aM 3 a λc=>
 d 1 c H2 λe=>
 b .eql e J λf=>
 Q f H2
def vO(a0 b:I)(Q:aa):g:=λc a=>
 W (N c 0) acI (
 de 2 a0 a λd=>
 cK [J,J] [(0,1,d),(1,1,b)] λe=>
 Do (b8 a0) λf=>
 aM 3 f λh=>
 aO a 2 h e λi=>
 G (vN Φ a0 Q) [] i) (
 G (vN Φ a0 Q) [] a)
def f44(a0 M a:I)(H:Z)(Q:aa):Prop:=
 Do (b8 a0) λc=>
 aM 3 c λe=>
 d 1 e H λf=>
 b .eql f J λg=>
 aF g acI (
 Do (cu .not M) λh=>
 G (vO Φ a0 a Q) [h] H) (
 G (vO Φ a0 a Q) [P] H) (
 False)
def GN:aU:=bf C ⟨44,[],[],acL,[],[]⟩
def pz(Φ:ad)(c:I)(Q:aa):g:=λe a=>
 aF (N e 0) acI (
 d 0 c a λf=>
 b .eql f (D 8) λh=>
 aF h acJ (
 d 9 c a λi=>
 bB i λj=>
 b .eql j J λk=>
 Q k a) (
 Q aT a) (
 False)) (
 Q P a) (
 False)
def rq(a:I)(Q:aa):g:=λe c=>
 aF (N e 0) acI (
 d 0 a c λf=>
 b .eql f (D 8) λh=>
 aF h acJ (
 d 0 a c λi=>
 b .eql i (D 9) λj=>
 aF j acJ (
 d 8 a c λk=>
 bB k λl=>
 b .eql l J λm=>
 G (pz Φ a Q) [m] c) (
 G (pz Φ a Q) [aT] c) (
 False)) (
 G (pz Φ a Q) [aT] c) (
 False)) (
 G (pz Φ a Q) [P] c) (
 False)
def rr(a:I)(c:List I)(Q:aa):g:=λd b=>
 aF (N d 0) acI (
 aF (N c 0) acJ (
 aM 5 a λe=>
 j b 2 e λf=>
Φ 73 [f] b λh i=>
 G (rq Φ a Q) [h] i) (
 G (rq Φ a Q) [aT] b) (
 False)) (
 G (rq Φ a Q) [P] b) (
 False)
def vQ(a:I)(e:List I)(Q:aa):g:=λf c=>
 aF (N f 0) acI (
 d 0 a c λh=>
 b .eql h (D 5) λi=>
 aF i acJ (
 d 3 a c λj=>
 b .eql j (.str []) λk=>
 G (rr Φ a e Q) [k] c) (
 G (rr Φ a e Q) [aT] c) (
 False)) (
 G (rr Φ a e Q) [P] c) (
 False)
def vT(a:I)(f:List I)(Q:aa):g:=λe c=>
 aF (N f 0) acJ (
 d 2 a c λh=>
 b .eql h (.str []) λi=>
 G (vQ Φ a e Q) [i] c) (
 G (vQ Φ a e Q) [aT] c) (
 False)
def vU(a:I)(Q:aa):g:=λe c=>
 d 0 a c λf=>
 b .geq f (D 3) λh=>
 aF h acI (
 d 0 a c λi=>
 b .leq i (D 6) λj=>
 G (vT Φ a e Q) [j] c) (
 G (vT Φ a e Q) [P] c) (
 False)
def vV(a:I)(Q:aa):g:=λe c=>
 aF (N e 0) acJ (
 d 0 a c λf=>
 b .eql f (D 5) λh=>
 G (vU Φ a Q) [h] c) (
 G (vU Φ a Q) [aT] c) (
 False)
def A8(a:I)(Q:aa):g:=λj c=>
 d 0 a c λe=>
 b .eql e (D 1) λf=>
 aF f acJ (
 d 0 a c λh=>
 b .eql h (D 2) λi=>
 G (vV Φ a Q) [i] c) (
 G (vV Φ a Q) [aT] c) (
 False)
def ru(b:I)(Q:aa):g:=λc a=>
 W (N c 0) acI (
 Q P a) (
 G (A8 Φ b Q) [] a)
def f45(a0:I)(H:Z)(Q:aa):Prop:=
 bU H 10 a0 λc H2=>
 bs (cI H2 acJ 1 11 [J] [(0,1,(D (-1))),(1,1,(D 1)),(2,1,(D 1)),(3,1,(D 1)),(4,1,(D 1)),(5,1,J),(6,1,(D 2)),(7,1,J),(8,1,(D 1)),(9,1,(D 1)),(10,1,(D 1))]) λe a=>
 d 0 c a λf=>
 b .lss f (D 1) λg=>
 aF g acJ (
 d 0 c a λh=>
 b .gtr h (D 10) λi=>
 aF i acJ (
 d 7 c a λj=>
 bB j λk=>
 d 0 c a λl=>
 gi 1 e l a λm=>
 b .neq k m λn=>
 G (ru Φ c Q) [n] a) (
 G (ru Φ c Q) [aT] a) (
 False)) (
 G (ru Φ c Q) [aT] a) (
 False)
def GO:aU:=bf C ⟨45,[],[],acL,[],[]⟩
def vW(Φ:ad)(M:I)(c:List I)(Q:aa):BT:=λa d=>
 Do (ea acI (N c 0)) λe=>
 b .lss (N a.1 0) e λf=>
 W f acI (
 Do (ju (N c 0) (N a.1 0)) λg=>
 b .sub g (.int .u8 48) λh=>
 Do (fU .i64 h) λi=>
 b .eql M i λj=>
 W j acI (
 Q aT a.2) (
 b .add (N a.1 0) (D 1) λk=>
 d ([k],a.2))) (
 Q P a.2)
def mX(M:I)(Q:aa):g:=λa H2=>
 ar (vW Φ M a Q) ([J],H2)
def vX(a0 M:I)(Q:aa):g:=λc a=>
 W (N c 0) acI (
 G (mX Φ M Q) [(.str [49,50,51,52])] a) (
 b .eql a0 (D 7) λd=>
 W d acI (
 G (mX Φ M Q) [(.str [50,51,52])] a) (
 G (mX Φ M Q) [(.str [48])] a))
def A9(a0 M:I)(Q:aa):g:=λe a=>
 W (N e 0) acI (
 G (mX Φ M Q) [(.str [49,50,52])] a) (
 b .eql a0 (D 16) λc=>
 W c acI (
 G (vX Φ a0 M Q) [c] a) (
 b .eql a0 (D 17) λd=>
 W d acI (
 G (vX Φ a0 M Q) [d] a) (
 b .eql a0 (D 18) λf=>
 G (vX Φ a0 M Q) [f] a)))
def A_(a0 M:I)(Q:aa):g:=λd a=>
 W (N d 0) acI (
 G (mX Φ M Q) [(.str [49,51,52])] a) (
 b .eql a0 (D 5) λc=>
 W c acI (
 G (A9 Φ a0 M Q) [c] a) (
 b .eql a0 (D 15) λe=>
 G (A9 Φ a0 M Q) [e] a))
def f46(a0 M:I)(H:Z)(Q:aa):Prop:=
 b .eql a0 (D 4) λa=>
 W a acI (
 G (A_ Φ a0 M Q) [a] H) (
 b .eql a0 (D 6) λc=>
 G (A_ Φ a0 M Q) [c] H)
def GP:aU:=bf C ⟨46,[],[[6]],acL,[],[]⟩
def vY(Φ:ad)(a0 M:I)(Q:aa):BT:=λs1 a=>
 bB a0 λc=>
 b .lss (N s1.1 0) c λd=>
 W d acI (
 gi 1 a0 (N s1.1 0) s1.2 λe=>
 b .eql e M λf=>
 W f acI (
 Q aT s1.2) (
 b .add (N s1.1 0) (D 1) λg=>
 a ([g],s1.2))) (
 Q P s1.2)
def f47(a0 M:I)(H:Z)(Q:aa):Prop:=
 ar (vY Φ a0 M Q) ([J],H)
def GQ:aU:=bf C ⟨47,[],[[5]],acL,[],[]⟩
def vZ(a0 e f c:I)(Q:aa):BT:=λa g=>
 d 1 c a.2 λh=>
 bB h λi=>
 b .lss (N a.1 0) i λj=>
 W j acI (
 d 1 c a.2 λk=>
 Do (aL acL 2 k (N a.1 0)) λl=>
 d 1 l a.2 λm=>
Φ 49 [a0,m,e,f] a.2 λp n=>
 b .add (N a.1 0) (D 1) λo=>
 g ([o],n)) (
 Q (.aA []) a.2)
def rv(a0 a b c:I)(Q:aa):g:=λd e=>
Φ 44 [a0,(N d 0),(D 8)] e λh f=>
 ar (vZ Φ a0 a b c Q) ([J],f)
def v7(a0 c e f h:I)(i:List I)(Q:aa):g:=λj a=>
 W (N j 0) acI (
 d 0 h a λk=>
 b .eql k (D 2) λl=>
 aF l acI (
 d 1 h a λm=>
 b .eql m (D 16) λn=>
 G (rv Φ a0 c e f Q) [n] a) (
 G (rv Φ a0 c e f Q) [P] a) (
 False)) (
 G (rv Φ a0 c e f Q) [(N i 0)] a)
def v8(a0 M a c d e:I)(Q:aa):g:=λf h=>
 b .eql M (D 5) λi=>
 aF i acJ (
 b .eql M (D 6) λj=>
 G (v7 Φ a0 a c d e f Q) [j] h) (
 G (v7 Φ a0 a c d e f Q) [aT] h) (
 False)
def v_(a0 M e f h a:I)(i:List I)(Q:aa):g:=λj c=>
 W (N j 0) acI (
 d 0 a c λk=>
 b .eql k (D 1) λl=>
 G (v8 Φ a0 M e f h a Q) [l] c) (
 G (v8 Φ a0 M e f h a Q) [(N i 0)] c)
def wa(a0 M a c d e:I)(Q:aa):g:=λf h=>
 b .eql M (D 3) λi=>
 aF i acJ (
 b .eql M (D 14) λj=>
 G (v_ Φ a0 M a c d e f Q) [j] h) (
 G (v_ Φ a0 M a c d e f Q) [aT] h) (
 False)
def f48(a0 M o g h:I)(H:Z)(Q:aa):Prop:=
 bU H 2 o λe H2=>
 Do (b8 a0) λp=>
 aM 3 p λq=>
 d 1 q H2 λr=>
 b .neq r J λs=>
 W s acI (
 Q (.aA []) H2) (
 Do (b8 a0) λt=>
 aM 0 t λi=>
 dV H2 i λk=>
 j H2 2 e λl=>
Φ 26 [k,l] H2 λm u=>
 Do (bA 0 m) λv=>
 Do (bA 1 m) λn=>
 bJ u [J,J,P,A,J,A] λa f=>
(aj f 1 acJ i=acK k) /\
(aj f 2 acI e=acK l) /\
(aO f 6 a v λw=>
 b .eql n J λx=>
Φ 44 [a0,x,n] w λy c=>
 Do (cu .not y) λz=>
 W z acI (
 Q (.aA []) c) (
 d 0 a c λB=>
 b .eql B (D 2) λC=>
 aF C acI (
 d 1 a c λE=>
 b .leq E (D 8) λF=>
 G (wa Φ a0 M g h e a Q) [F] c) (
 G (wa Φ a0 M g h e a Q) [P] c) (
 False))))
def GU:aU:=bf C ⟨48,[10],[[13]],acL,[],[]⟩
def GV(Φ:ad)(a:ST)(c:LT)(Q:aa):g:=λfZ d=>
 b .add (N a.1 0) (D 1) λe=>
 c ([e],d)
def wb(a0 c e f:I)(h:ST)(i:LT)(Q:aa):g:=λm a=>
 d 7 f a λj=>
 b .add e (D 1) λk=>
Φ 49 [a0,j,c,k] a λn l=>
 G (GV Φ h i Q) [] l
def wc(a0 e f a:I)(h:ST)(i:LT)(Q:aa):g:=λs c=>
 d 0 a c λk=>
 b .geq k (D 4) λl=>
 W l acI (
 d 0 a c λm=>
 b .add (D 10) m λn=>
 aM 5 a λo=>
 j c 2 o λp=>
 b .add f (D 1) λq=>
Φ 48 [a0,n,p,e,q] c λt r=>
 G (wb Φ a0 e f a h i Q) [] r) (
 G (wb Φ a0 e f a h i Q) [] c)
def GW(a0 e f a:I)(h:ST)(i:LT)(Q:aa):g:=λp c=>
 d 0 a c λj=>
 b .eql j (D 2) λk=>
 W k acI (
 d 2 a c λl=>
Φ 47 [e,l] c λm n=>
Φ 44 [a0,m,(D 6)] n λq o=>
 G (wc Φ a0 e f a h i Q) [] o) (
 G (wc Φ a0 e f a h i Q) [] c)
def ry(a0 b c d:I)(e:ST)(f:LT)(Q:aa):g:=λh a=>
 W (N h 0) acI (
 Q (.aA []) a) (
 G (GW Φ a0 b c d e f Q) [] a)
def we(a0 e f a:I)(h:ST)(i:LT)(Q:aa):g:=λj c=>
 aF (N j 0) acJ (
 d 0 a c λk=>
 b .add (D 10) k λl=>
 d 4 a c λm=>
Φ 46 [l,m] c λn o=>
Φ 44 [a0,n,(D 11)] o λp q=>
 Do (cu .not p) λr=>
 G (ry Φ a0 e f a h i Q) [r] q) (
 G (ry Φ a0 e f a h i Q) [aT] c) (
 False)
def GX(a0 M f c:I)(d:ST)(h:LT)(Q:aa):g:=λx i=>
 Do (aL acL 8 M (N d.1 0)) λk=>
 j i 8 k λl=>
 bJ i [J,cY 0,.str [],J,J,.str [],A,A] λa m=>
 aO m 8 a l λn=>
 b .lss c (D 64) λo=>
Φ 44 [a0,o,(D 5)] n λp e=>
 Do (cu .not p) λq=>
 aF q acJ (
 j e 8 a λr=>
Φ 74 [r] e λs t=>
Φ 44 [a0,s,(D 4)] t λu v=>
 Do (cu .not u) λw=>
 G (we Φ a0 f c a d h Q) [w] v) (
 G (we Φ a0 f c a d h Q) [aT] e) (
 False)
def wg(a0 M b c:I)(d:ST)(e:LT)(Q:aa):g:=λf a=>
 W (N f 0) acI (
 G (GX Φ a0 M b c d e Q) [] a) (
 Q (.aA []) a)
def pA(a0 M a c:I)(Q:aa):BT:=λs1 e=>
 bB M λf=>
 b .lss (N s1.1 0) f λg=>
 aF g acI (
 Do (b8 a0) λh=>
 aM 3 h λi=>
 d 1 i s1.2 λj=>
 b .eql j J λk=>
 G (wg Φ a0 M a c s1 e Q) [k] s1.2) (
 G (wg Φ a0 M a c s1 e Q) [P] s1.2) (
 False)
def f49(a0 M a b:I)(H:Z)(Q:aa):Prop:=
 ar (pA Φ a0 M a b Q) ([J],H)
def GY:aU:=bf C ⟨49,[9],[[8]],acL,[],[]⟩
def f51(a0 M:I)(H:Z)(Q:aa):Prop:=
Φ 82 [a0,M] H λa H2=>
 b .geq a J λc=>
 Q c H2
def Qp:aU:=bf C ⟨51,[],[],acL,[],[]⟩
def f53(a0:I)(H:Z)(Q:aa):Prop:=
 bU H 6 a0 λe H2=>
 j H2 6 e λf=>
Φ 54 [f] H2 λc g=>
 Do (bA 0 c) λh=>
 Do (bA 1 c) λi=>
 bJ g [J,J] λa k=>
 aO k 2 a h λb=>
 d 0 a b λl=>
 d 1 a b λm=>
 Q (.aA [l,m,i]) b
def GZ:aU:=bf C ⟨53,[5],[],acL,[],[]⟩
def f54(a0:I)(H:Z)(Q:aa):Prop:=
 bU H 6 a0 λc H2=>
 bJ H2 [J,J] λa g=>
 j g 6 c λp=>
Φ 62 [p] g λh d=>
 b .neq h J λq=>
 W q acI (
 cK [J,J] [] λr=>
 aO d 2 a r λi=>
 j i 2 a λs=>
 Q (.aA [s,h]) i) (
 j d 6 c λt=>
Φ 83 [t] d λu e=>
 W u acI (
 cK [J,J] [] λv=>
 aO e 2 a v λk=>
 j k 2 a λw=>
 Q (.aA [w,(D 10)]) k) (
 j e 6 c λx=>
Φ 84 [x] e λl y=>
 Do (bA 0 l) λz=>
 Do (bA 1 l) λA=>
 bJ y [J,J] λm B=>
 aO B 2 m z λf=>
 Do (cu .not A) λC=>
 W C acI (
 cK [J,J] [] λE=>
 aO f 2 a E λn=>
 j n 2 a λF=>
 Q (.aA [F,(D 9)]) n) (
 j f 2 m λG=>
 aO f 2 a G λo=>
 j o 2 a λK=>
 Q (.aA [K,J]) o)))
def G1:aU:=bf C ⟨54,[2,5],[],acL,[],[]⟩
def G2(a0 e f h:I)(c:ST)(i:LT)(Q:aa):g:=λs a=>
 d 5 f a λk=>
 Do (aL acL 6 k J) λl=>
 j a 6 l λm=>
 d 0 h a λn=>
 b .mul (N c.1 0) n λo=>
 b .add e o λp=>
Φ 55 [a0,m,p] a λt q=>
 b .add (N c.1 0) (D 1) λr=>
 i ([r],q)
def pB(a0 b c d:I)(e:ST)(f:LT)(Q:aa):g:=λh a=>
 W (N h 0) acI (
 G (G2 Φ a0 b c d e f Q) [] a) (
 Q (.aA []) a)
def wi(a0 b c d:I)(e:ST)(f:LT)(Q:aa):g:=λh a=>
 aF (N h 0) acI (
 de 1 a0 a λi=>
 Do (cu .not i) λj=>
 G (pB Φ a0 b c d e f Q) [j] a) (
 G (pB Φ a0 b c d e f Q) [P] a) (
 False)
def rz(a0 f c e:I)(Q:aa):BT:=λa g=>
 d 4 c a.2 λh=>
 b .lss (N a.1 0) h λi=>
 aF i acI (
 d 0 e a.2 λj=>
 b .gtr j J λk=>
 G (wi Φ a0 f c e a g Q) [k] a.2) (
 G (wi Φ a0 f c e a g Q) [P] a.2) (
 False)
def wj(a0 e c i:I)(Q:aa):g:=λk a=>
 W (N k 0) acI (
 d 1 c a λl=>
 cK [J,J] [(0,1,e),(1,1,l)] λm=>
Φ 85 [a0,m] a λy n=>
 Q (.aA []) n) (
 b .eql i (D 5) λo=>
 W o acI (
 d 5 c a λp=>
 Do (aL acL 6 p J) λq=>
 j a 6 q λr=>
Φ 84 [r] a λf s=>
 Do (bA 0 f) λt=>
 Do (bA 1 f) λz=>
 bJ s [J,J] λh u=>
 aO u 2 h t λv=>
 ar (rz Φ a0 e c h Q) ([J],v)) (
 j a 6 c λw=>
Φ 86 [a0,w,e] a λA x=>
 Q (.aA []) x))
def f55(a0 M e:I)(H:Z)(Q:aa):Prop:=
 bU H 6 M λc H2=>
 d 0 c H2 λa=>
 b .eql a (D 1) λf=>
 W f acI (
 G (wj Φ a0 e c a Q) [f] H2) (
 b .eql a (D 2) λg=>
 G (wj Φ a0 e c a Q) [g] H2)
def G3:aU:=bf C ⟨55,[6],[[8]],acL,[],[]⟩
def f56(a0:I)(H:Z)(Q:aa):Prop:=
 de 0 a0 H λd=>
Φ 87 [d,(.fn 88 [])] H λn c=>
 de 0 a0 c λe=>
Φ 91 [e] c λf g=>
 fi 0 a0 g f λa=>
 de 1 a0 a λh=>
 aF h acJ (
 de 0 a0 a λi=>
 bB i λj=>
 b .gtr j (D 4096) λk=>
 fi 1 a0 a k λl=>
 Q (.aA []) l) (
 fi 1 a0 a aT λm=>
 Q (.aA []) m) (
 False)
def G4:aU:=bf C ⟨56,[],[],acL,[],[]⟩
def G5(Φ:ad)(a:ST)(c:LT)(Q:aa):g:=λj9 d=>
 b .add (N a.1 1) (D 1) λe=>
 c ([(N j9 0),e],d)
def Ba(i:I)(d:ST)(k:LT)(Q:aa):g:=λgj e=>
 aM 1 i λl=>
 j e 6 l λm=>
Φ 53 [m] e λa f=>
 Do (bA 0 a) λn=>
 Do (bA 1 a) λc=>
 Do (bA 2 a) λh=>
 b .neq h J λo=>
 W o acI (
 Q h f) (
 b .add (N d.1 0) c λp=>
 b .sub p (D 1) λq=>
 b .quo q c λr=>
 b .mul r c λs=>
 b .add s n λt=>
 G (G5 Φ d k Q) [t] f)
def wm(a0 a:I)(b:ST)(e:LT)(Q:aa):g:=λf c=>
 W (N f 0) acI (
 Q (D 6) c) (
 Do (eC 7 a0 acL (acK (N b.1 1)) acL) λh=>
Φ 94 [h,(.fn 95 [a])] c λi d=>
 W i acI (
 Q (D 7) d) (
 G (Ba Φ a b e Q) [] d))
def G6(Φ:ad)(Q:aa):g:=λc a=>
 b .gtr (N c 0) (D 65536) λd=>
 W d acI (
 Q (D 9) a) (
 Q J a)
def pC(a0 h:I)(Q:aa):BT:=λa f=>
 b .lss (N a.1 1) h λi=>
 W i acI (
 Do (aL acL 7 a0 (N a.1 1)) λk=>
 j a.2 7 k λl=>
 bJ a.2 [.str [],J,J,P,A,J,A] λc m=>
 aO m 7 c l λg=>
 d 0 c g λn=>
Φ 92 [n] g λo e=>
 Do (cu .not o) λp=>
 aF p acJ (
 d 0 c e λq=>
Φ 93 [q] e λr s=>
 G (wm Φ a0 c a f Q) [r] s) (
 G (wm Φ a0 c a f Q) [aT] e) (
 False)) (
 G (G6 Φ Q) [(N a.1 0)] a.2)
def f57(a0:I)(H:Z)(Q:aa):Prop:=
 bB a0 λa=>
 b .gtr a (D 32) λc=>
 W c acI (
 Q (D 12) H) (
 bB a0 λd=>
 ar (pC Φ a0 d Q) ([J,J],H))
def G7:aU:=bf C ⟨57,[5],[[3,14]],acL,[],[]⟩
def wo(Φ:ad)(a:ST)(c:LT)(Q:aa):g:=λf d=>
 b .add (N a.1 0) (D 1) λe=>
 c ([e],d)
def G8(Φ:ad)(a0 b:I)(Q:aa):g:=λf a=>
 de 1 a0 a λc=>
 Do (eC 1 c acL (acK b) acL) λd=>
 fi 1 a0 a d λe=>
 Q (.aA []) e
def rA(a0 M h i k:I)(Q:aa):BT:=λa f=>
 b .lss (N a.1 0) k λl=>
 W l acI (
 Do (aL acL 10 M (N a.1 0)) λm=>
 j a.2 10 m λn=>
 bJ a.2 [J,J,.str [],.str [],J,.str [],A,A,A,A] λc o=>
 aO o 10 c n λp=>
Φ 59 [a0] p λq e=>
 Do (cu .not q) λr=>
 W r acI (
 d 1 c e λs=>
 fi 3 a0 e s λg=>
 j g 10 c λt=>
Φ 96 [a0,t,h] g λv u=>
 G (wo Φ a f Q) [] u) (
 G (wo Φ a f Q) [] e)) (
 G (G8 Φ a0 i Q) [] a.2)
def f58(a0 M a:I)(H:Z)(Q:aa):Prop:=
 de 1 a0 H λb=>
 bB b λc=>
 bB M λd=>
 ar (rA Φ a0 M a c d Q) ([J],H)
def G9:aU:=bf C ⟨58,[8],[[16]],acL,[],[]⟩
def f59(Φ:ad)(a0:I)(H:Z)(Q:aa):Prop:=
 Do (b8 a0) λa=>
 aM 4 a λc=>
 d 1 c H λe=>
 b .neq e J λf=>
 Q f H
def G_:aU:=bf C ⟨59,[],[],acL,[],[]⟩
def wq(a0 c e:I)(Q:aa):g:=λq a=>
 W (N q 0) acI (
 j a 10 c λr=>
Φ 102 [a0,r] a λai s=>
 Q (.aA []) s) (
 b .eql e (D 5) λt=>
 W t acI (
 j a 10 c λu=>
Φ 103 [a0,u] a λak v=>
 Q (.aA []) v) (
 b .eql e (D 7) λw=>
 W w acI (
Φ 104 [(D 13)] a λx y=>
 bJ y [J,J,J,J,J,J,cY 0,J,J,J,J,J,J] λf z=>
 aO z 13 f x λh=>
 aM 4 c λl=>
 dV h l λm=>
 d 0 c h λB=>
 d 4 c h λC=>
 Do (bS [.str [],A] []) λE=>
 aM 9 f λF=>
Φ 105 [a0,B,C,E] h λG n=>
(aj n 1 acJ l=acK m) /\
(aO n 1 F m λH=>
 cg 11 f H G λo=>
 j o 13 f λK=>
Φ 106 [a0,K] o λal L=>
 Q (.aA []) L)) (
 b .eql e (D 8) λM=>
 W M acI (
 j a 10 c λO=>
Φ 107 [a0,O] a λam P=>
 Q (.aA []) P) (
 b .eql e (D 9) λR=>
 W R acI (
 j a 10 c λS=>
Φ 108 [a0,S] a λan T=>
 Q (.aA []) T) (
 b .eql e (D 10) λU=>
 W U acI (
Φ 104 [(D 18)] a λV X=>
 bJ X [J,J,J,J,J,J,cY 0,J,J,J,J,J,J] λi Y=>
 aO Y 13 i V λk=>
 d 7 c k λZ=>
 Do (aL acL 8 Z J) λab=>
 j k 8 ab λac=>
Φ 97 [a0,ac] k λae af=>
 cg 3 i af ae λp=>
 j p 13 i λag=>
Φ 106 [a0,ag] p λao ah=>
 Q (.aA []) ah) (
 Q (.aA []) a))))))
def f60(a0 M:I)(H:Z)(Q:aa):Prop:=
 bU H 10 M λa H2=>
 d 0 a H2 λc=>
 b .eql c (D 1) λi=>
 W i acI (
 d 7 a H2 λk=>
 Do (aL acL 8 k J) λl=>
 j H2 8 l λm=>
Φ 97 [a0,m] H2 λn o=>
Φ 98 [a0] o λf p=>
Φ 99 [a0,f,n] p λX e=>
 de 7 a0 e λq=>
 d 2 a e λr=>
 Do (bS [.str [],J] [(0,1,r),(1,1,f)]) λs=>
 bs (cI e acJ 2 1 [.str [],J] [(0,2,s)]) λt u=>
 bs (cZ u acI 2 24 q t) λv w=>
 fi 7 a0 w v λx=>
 Q (.aA []) x) (
 b .eql c (D 2) λy=>
 W y acI (
 d 7 a H2 λz=>
 Do (aL acL 8 z J) λA=>
 j H2 8 A λB=>
Φ 97 [a0,B] H2 λC g=>
 d 2 a g λE=>
Φ 100 [a0,E] g λF K=>
Φ 99 [a0,F,C] K λY L=>
 Q (.aA []) L) (
 b .eql c (D 3) λN=>
 W N acI (
 aM 5 a λO=>
 j H2 2 O λP=>
 d 7 a H2 λR=>
 Do (aL acL 8 R J) λS=>
 j H2 8 S λT=>
Φ 101 [a0,P,T] H2 λab U=>
 Q (.aA []) U) (
 b .eql c (D 4) λh=>
 W h acI (
 G (wq Φ a0 a c Q) [h] H2) (
 b .eql c (D 6) λV=>
 G (wq Φ a0 a c Q) [V] H2))))
def Ha:aU:=bf C ⟨60,[7,8,35],[],acL,[],[]⟩
def f61(Φ:ad)(a0 M:I)(H:Z)(Q:aa):Prop:=
 bU H 7 a0 λa H2=>
 d 0 a H2 λc=>
 d 0 M H2 λe=>
 b .eql c e λf=>
 Q f H2
def Hb:aU:=bf C ⟨61,[],[],acL,[],[]⟩
def f62(a0:I)(H:Z)(Q:aa):Prop:=
 bU H 6 a0 λc H2=>
 j H2 6 c λd=>
Φ 109 [d] H2 λe a=>
 b .gtr e (D 64) λf=>
 W f acI (
 Q (D 5) a) (
 j a 6 c λg=>
Φ 110 [g] a λh i=>
 Q h i)
def Hc:aU:=bf C ⟨62,[],[],acL,[],[]⟩
def Hd(e l a:I)(Q:aa):g:=λv f=>
 d 3 e f λm=>
Φ 64 [m,(.fn 111 [l])] f λh c=>
 b .lss h J λn=>
 W n acI (
 Do (bS [J,J,P,A,J,A] []) λo=>
 aO c 6 a o λi=>
 j i 6 a λp=>
 Q (.aA [p,(D 6)]) i) (
 d 3 e c λq=>
 Do (aL acL 9 q h) λr=>
 aM 1 r λs=>
 j c 6 s λt=>
 aO c 6 a t λk=>
 j k 6 a λu=>
 Q (.aA [u,J]) k)
def wt(d e a:I)(Q:aa):g:=λf b=>
 W (N f 0) acI (
 Do (bS [J,J,P,A,J,A] []) λh=>
 aO b 6 a h λc=>
 j c 6 a λi=>
 Q (.aA [i,(D 8)]) c) (
 G (Hd Φ d e a Q) [] b)
def wu(e f c:I)(i:List I)(Q:aa):g:=λk a=>
 W (N k 0) acI (
 d 5 e a λl=>
 Do (aL acL 6 l J) λm=>
 j a 6 m λn=>
 aO a 6 c n λh=>
 j h 6 c λo=>
 Q (.aA [o,J]) h) (
 d 1 f a λp=>
 bB p λq=>
 b .eql q (D 1) λr=>
 aF r acJ (
 Do (cu .not (N i 0)) λs=>
 G (wt Φ e f c Q) [s] a) (
 G (wt Φ e f c Q) [aT] a) (
 False))
def wv(e f c:I)(h:List I)(Q:aa):g:=λk a=>
 W (N k 0) acI (
 Do (bS [J,J,P,A,J,A] []) λl=>
 aO a 6 c l λi=>
 j i 6 c λm=>
 Q (.aA [m,(D 8)]) i) (
 d 1 f a λn=>
 bB n λo=>
 b .eql o (D 1) λp=>
 aF p acI (
 d 0 e a λq=>
 b .eql q (D 5) λr=>
 G (wu Φ e f c h Q) [r] a) (
 G (wu Φ e f c h Q) [P] a) (
 False))
def wx(e a f:I)(Q:aa):g:=λh c=>
 d 1 a c λi=>
 bB i λj=>
 b .gtr j (D 1) λk=>
 aF k acJ (
 d 1 a c λl=>
 bB l λm=>
 b .eql m (D 1) λn=>
 d 0 a c λo=>
 b .neq o (.str []) λp=>
 Do (kD acJ n p) λq=>
 G (wv Φ e a f h Q) [q] c) (
 G (wv Φ e a f h Q) [aT] c) (
 False)
def f63(a0 M:I)(H:Z)(Q:aa):Prop:=
 bU H 6 a0 λa H2=>
 bU H2 2 M λe g=>
 bJ g [J,J,P,A,J,A] λf c=>
 d 0 a c λh=>
 b .eql h (D 3) λi=>
 aF i acJ (
 d 0 a c λj=>
 b .eql j (D 4) λk=>
 G (wx Φ a e f Q) [k] c) (
 G (wx Φ a e f Q) [aT] c) (
 False)
def He:aU:=bf C ⟨63,[4],[],acL,[],[]⟩
def Qq(a0 M e:I)(Q:aa):BT:=λs2 f=>
 b .lss (N s2.1 0) e λg=>
 W g acI (
 Do (aL acL 9 a0 (N s2.1 0)) λh=>
 j s2.2 9 h λi=>
∃a c,M = .fn a c/\Φ (jw a) (jx a [i] c) s2.2 λk d=>
 W k acI (
 Q (N s2.1 0) d) (
 b .add (N s2.1 0) (D 1) λl=>
 f ([l],d))) (
 Q (D (-1)) s2.2)
def f64(a0 M:I)(H:Z)(Q:aa):Prop:=
 bB a0 λa=>
 ar (Qq Φ a0 M a Q) ([J],H)
def Hf:aU:=bf C ⟨64,[],[[8]],acL,[],[]⟩
def f65(Φ:ad)(a0 M:I)(H:Z)(Q:aa):Prop:=
 bU H 9 a0 λa H2=>
 d 0 a H2 λc=>
 d 0 M H2 λe=>
 b .eql c e λf=>
 Q f H2
def Hg:aU:=bf C ⟨65,[],[],acL,[],[]⟩
def Hh(f:I)(Q:aa):g:=λn a=>
 j a 6 f λh=>
Φ 112 [h] a λb i=>
 Do (bA 0 b) λk=>
 Do (bA 1 b) λo=>
 bJ i [J,J,A,J] λc l=>
 aO l 4 c k λe=>
 d 2 c e λm=>
 Q (.aA [m,J]) e
def wy(b:I)(Q:aa):g:=λfZ a=>
 W (N fZ 0) acI (
 Q (.aA [A,(D 8)]) a) (
 G (Hh Φ b Q) [] a)
def f66(a0:I)(H:Z)(Q:aa):Prop:=
 bU H 6 a0 λa H2=>
 j H2 6 a λg=>
Φ 54 [g] H2 λe h=>
 Do (bA 0 e) λi=>
 Do (bA 1 e) λf=>
 bJ h [J,J] λk l=>
 aO l 2 k i λc=>
 b .neq f J λm=>
 W m acI (
 Q (.aA [A,f]) c) (
 d 0 a c λn=>
 b .neq n (D 3) λo=>
 aF o acI (
 d 0 a c λp=>
 b .neq p (D 4) λq=>
 G (wy Φ a Q) [q] c) (
 G (wy Φ a Q) [P] c) (
 False))
def Hi:aU:=bf C ⟨66,[4,6],[],acL,[],[]⟩
def f67(a0:I)(H:Z)(Q:aa):Prop:=
 bU H 2 a0 λc H2=>
 bJ H2 [J,J] λe f=>
 j f 2 c λi=>
Φ 113 [i] f λk a=>
 Do (cu .not k) λl=>
 W l acI (
 cK [J,J] [] λm=>
 aO a 2 e m λg=>
 j g 2 e λn=>
 Q n g) (
 d 0 c a λo=>
 d 0 c a λp=>
 d 1 c a λq=>
 b .add p q λr=>
 cK [J,J] [(0,1,o),(1,1,r)] λs=>
 aO a 2 e s λh=>
 j h 2 e λt=>
 Q t h)
def Hj:aU:=bf C ⟨67,[2],[],acL,[],[]⟩
def f68(Φ:ad)(a0:I)(H:Z)(Q:aa):Prop:=
 bU H 2 a0 λa H2=>
 d 0 a H2 λc=>
 d 1 a H2 λe=>
 b .eql c e λf=>
 Q f H2
def Hk:aU:=bf C ⟨68,[],[],acL,[],[]⟩
def f69(Φ:ad)(a0 M:I)(H:Z)(Q:aa):Prop:=
 bU H 2 a0 λg H2=>
 bU H2 2 M λh l=>
 bJ l [J,J] λe a=>
 d 0 g a λm=>
 d 0 h a λn=>
 Do (gH acI [m,n]) λo=>
 d 1 g a λp=>
 d 1 h a λq=>
 Do (gH acJ [p,q]) λr=>
 cK [J,J] [(0,1,o),(1,1,r)] λs=>
 bJ a [J,J] λf t=>
 aO t 2 f s λc=>
 d 0 f c λu=>
 d 1 f c λv=>
 b .geq u v λw=>
 W w acI (
 cK [J,J] [] λx=>
 aO c 2 e x λi=>
 j i 2 e λy=>
 Q y i) (
 j c 2 f λz=>
 aO c 2 e z λk=>
 j k 2 e λA=>
 Q A k)
def Hl:aU:=bf C ⟨69,[4,5],[],acL,[],[]⟩
def wA(Φ:ad)(a:ST)(c:LT)(Q:aa):g:=λgj d=>
 b .add (N a.1 1) (D 1) λe=>
 c ([(N gj 0),e],d)
def Hm(M i:I)(a:ST)(e:LT)(Q:aa):g:=λq c=>
 d 3 i c λk=>
 Do (aL acL 9 k (N a.1 1)) λl=>
 aM 1 l λm=>
 j c 6 m λn=>
 b .sub M (D 1) λo=>
Φ 70 [n,o] c λf h=>
 b .gtr f (N a.1 0) λp=>
 W p acI (
 G (wA Φ a e Q) [f] h) (
 G (wA Φ a e Q) [(N a.1 0)] h)
def wB(Φ:ad)(a:ST)(c:LT)(Q:aa):g:=λd e=>
 b .add (N a.1 1) (D 1) λf=>
 c ([(N d 0),f],e)
def Hn(M i:I)(a:ST)(e:LT)(Q:aa):g:=λp c=>
 d 5 i c λk=>
 Do (aL acL 6 k (N a.1 1)) λl=>
 j c 6 l λm=>
 b .sub M (D 1) λn=>
Φ 70 [m,n] c λf h=>
 b .gtr f (N a.1 0) λo=>
 W o acI (
 G (wB Φ a e Q) [f] h) (
 G (wB Φ a e Q) [(N a.1 0)] h)
def Bb(Φ:ad)(Q:aa):g:=λa c=>
 b .add (N a 0) (D 1) λd=>
 Q d c
def wC(M c:I)(a:ST)(d:LT)(Q:aa):g:=λe b=>
 W (N e 0) acI (
 G (Hn Φ M c a d Q) [] b) (
 G (Bb Φ Q) [(N a.1 0)] b)
def rB(M c:I)(Q:aa):BT:=λa e=>
 d 5 c a.2 λf=>
 bB f λg=>
 b .lss (N a.1 1) g λh=>
 aF h acI (
 b .gtr M (D 1) λi=>
 G (wC Φ M c a e Q) [i] a.2) (
 G (wC Φ M c a e Q) [P] a.2) (
 False)
def Bc(M a:I)(Q:aa):g:=λb c=>
 ar (rB Φ M a Q) ([(N b 0),J],c)
def wD(M a:I)(b:ST)(d:LT)(Q:aa):g:=λj9 c=>
 W (N j9 0) acI (
 G (Hm Φ M a b d Q) [] c) (
 G (Bc Φ M a Q) [(N b.1 0)] c)
def rC(M c:I)(Q:aa):BT:=λa e=>
 d 3 c a.2 λf=>
 bB f λg=>
 b .lss (N a.1 1) g λh=>
 aF h acI (
 b .gtr M (D 1) λi=>
 G (wD Φ M c a e Q) [i] a.2) (
 G (wD Φ M c a e Q) [P] a.2) (
 False)
def f70(a0 M:I)(H:Z)(Q:aa):Prop:=
 bU H 6 a0 λa H2=>
 ar (rC Φ M a Q) ([J,J],H2)
def Ho:aU:=bf C ⟨70,[],[[5,6],[5,8]],acL,[],[]⟩
def rD(Φ:ad)(Q:aa):g:=λb a=>
 W (N b 0) acI (
 Q (D 9) a) (
 Q J a)
def wE(c:I)(Q:aa):g:=λe a=>
 aF (N e 0) acJ (
 d 0 c a λf=>
 b .eql f (D 2) λh=>
 aF h acI (
 d 1 c a λi=>
Φ 114 [i,(D 16)] a λj k=>
 Do (cu .not j) λl=>
 G (rD Φ Q) [l] k) (
 G (rD Φ Q) [P] a) (
 False)) (
 G (rD Φ Q) [aT] a) (
 False)
def Bd(a:I)(Q:aa):g:=λl c=>
 d 0 a c λe=>
 b .eql e (D 1) λf=>
 aF f acI (
 d 1 a c λh=>
Φ 114 [h,(D 8)] c λi j=>
 Do (cu .not i) λk=>
 G (wE Φ a Q) [k] j) (
 G (wE Φ a Q) [P] c) (
 False)
def wF(b:I)(Q:aa):g:=λc a=>
 W (N c 0) acI (
 Q (D 8) a) (
 G (Bd Φ b Q) [] a)
def wG(a:I)(Q:aa):g:=λe c=>
 aF (N e 0) acJ (
 d 5 a c λf=>
 bB f λh=>
 b .gtr h J λi=>
 G (wF Φ a Q) [i] c) (
 G (wF Φ a Q) [aT] c) (
 False)
def wH(a:I)(Q:aa):g:=λe c=>
 aF (N e 0) acJ (
 d 4 a c λf=>
 b .neq f J λh=>
 G (wG Φ a Q) [h] c) (
 G (wG Φ a Q) [aT] c) (
 False)
def Hp(b:I)(Q:aa):g:=λk a=>
 d 5 b a λc=>
 Do (aL acL 6 c J) λe=>
 j a 6 e λf=>
Φ 71 [f] a λh i=>
 Q h i
def wI(b:I)(Q:aa):g:=λc a=>
 W (N c 0) acI (
 Q (D 9) a) (
 G (Hp Φ b Q) [] a)
def Be(a:I)(Q:aa):g:=λj c=>
 d 4 a c λe=>
 b .lss e (D 1) λf=>
 aF f acJ (
 d 4 a c λh=>
 b .gtr h (D 65536) λi=>
 G (wI Φ a Q) [i] c) (
 G (wI Φ a Q) [aT] c) (
 False)
def wJ(b:I)(Q:aa):g:=λc a=>
 W (N c 0) acI (
 Q (D 8) a) (
 G (Be Φ b Q) [] a)
def wK(a:I)(Q:aa):g:=λe c=>
 aF (N e 0) acJ (
 d 5 a c λf=>
 bB f λh=>
 b .neq h (D 1) λi=>
 G (wJ Φ a Q) [i] c) (
 G (wJ Φ a Q) [aT] c) (
 False)
def wL(a:I)(Q:aa):g:=λe c=>
 aF (N e 0) acJ (
 d 1 a c λf=>
 b .neq f J λh=>
 G (wK Φ a Q) [h] c) (
 G (wK Φ a Q) [aT] c) (
 False)
def Hq(Φ:ad)(a:ST)(c:LT)(Q:aa):g:=λf d=>
 b .add (N a.1 0) (D 1) λe=>
 c ([e],d)
def wM(b:ST)(c:LT)(Q:aa):g:=λd a=>
 W (N d 0) acI (
 Q (D 7) a) (
 G (Hq Φ b c Q) [] a)
def Bf(Φ:ad)(a:ST)(c:LT)(Q:aa):g:=λf d=>
 b .add (N a.1 0) (D 1) λe=>
 c ([e],d)
def nV(b:ST)(c:LT)(Q:aa):g:=λd a=>
 W (N d 0) acI (
 Q (D 9) a) (
 G (Bf Φ b c Q) [] a)
def Hr(c:I)(e:ST)(f:LT)(Q:aa):g:=λt a=>
 d 7 c a λh=>
 aF h acI (
 d 8 c a λi=>
 b .lss i J λj=>
 aF j acJ (
 d 8 c a λk=>
 aM 1 c λl=>
 d 1 l a λm=>
 b .mul (D 8) m λn=>
 b .gtr k n λo=>
 aF o acJ (
 d 8 c a λp=>
 b .eql p J λq=>
 aF q acI (
 d 0 c a λr=>
 b .neq r (.str []) λs=>
 G (nV Φ e f Q) [s] a) (
 G (nV Φ e f Q) [P] a) (
 False)) (
 G (nV Φ e f Q) [aT] a) (
 False)) (
 G (nV Φ e f Q) [aT] a) (
 False)) (
 G (nV Φ e f Q) [P] a) (
 False)
def pD(b:I)(c:ST)(d:LT)(Q:aa):g:=λe a=>
 W (N e 0) acI (
 Q (D 8) a) (
 G (Hr Φ b c d Q) [] a)
def wN(h c:I)(e:ST)(f:LT)(Q:aa):g:=λi a=>
 aF (N i 0) acJ (
 d 7 c a λj=>
 aF j acI (
 d 2 h a λk=>
 aF k acJ (
 aM 1 c λl=>
 d 0 l a λm=>
 b .neq m (D 1) λn=>
 G (pD Φ c e f Q) [n] a) (
 G (pD Φ c e f Q) [aT] a) (
 False)) (
 G (pD Φ c e f Q) [P] a) (
 False)) (
 G (pD Φ c e f Q) [aT] a) (
 False)
def Bg(e a:I)(f:ST)(h:LT)(Q:aa):g:=λs i=>
 aM 1 a λl=>
 j i 6 l λm=>
Φ 71 [m] i λk c=>
 b .neq k J λn=>
 W n acI (
 Q k c) (
 d 7 a c λo=>
 Do (cu .not o) λp=>
 aF p acI (
 d 8 a c λq=>
 b .neq q J λr=>
 G (wN Φ e a f h Q) [r] c) (
 G (wN Φ e a f h Q) [P] c) (
 False))
def rE(e c:I)(f:ST)(h:LT)(Q:aa):BT:=λa g=>
 b .lss (N a.1 0) (N f.1 0) λi=>
 W i acI (
 d 0 c a.2 λj=>
 b .neq j (.str []) λk=>
 aF k acI (
 d 3 e a.2 λl=>
 Do (aL acL 9 l (N a.1 0)) λm=>
 d 0 m a.2 λn=>
 d 0 c a.2 λo=>
 b .eql n o λp=>
 G (wM Φ a g Q) [p] a.2) (
 G (wM Φ a g Q) [P] a.2) (
 False)) (
 G (Bg Φ e c f h Q) [] a.2)
def Hs(a b:I)(c:ST)(d:LT)(Q:aa):g:=λf e=>
 ar (rE Φ a b c d Q) ([J],e)
def rF(b c:I)(d:ST)(e:LT)(Q:aa):g:=λf a=>
 W (N f 0) acI (
 Q (D 6) a) (
 G (Hs Φ b c d e Q) [] a)
def pE(e:I)(Q:aa):BT:=λa g=>
 d 3 e a.2 λi=>
 bB i λk=>
 b .lss (N a.1 0) k λl=>
 W l acI (
 d 3 e a.2 λm=>
 Do (aL acL 9 m (N a.1 0)) λn=>
 j a.2 9 n λo=>
 bJ a.2 [.str [],J,J,P,A,J,A,P,J] λc p=>
 aO p 9 c o λh=>
 d 0 c h λq=>
Φ 17 [q] h λr f=>
 Do (cu .not r) λs=>
 aF s acI (
 d 0 c f λt=>
 b .eql t (.str []) λu=>
 aF u acI (
 d 7 c f λv=>
 Do (cu .not v) λw=>
 G (rF Φ e c a g Q) [w] f) (
 Do (cu .not P) λx=>
 G (rF Φ e c a g Q) [x] f) (
 False)) (
 G (rF Φ e c a g Q) [P] f) (
 False)) (
 Q J a.2)
def Ht(a:I)(Q:aa):g:=λc b=>
 ar (pE Φ a Q) ([J],b)
def wO(b:I)(Q:aa):g:=λc a=>
 W (N c 0) acI (
 Q (D 12) a) (
 G (Ht Φ b Q) [] a)
def Bh(a:I)(Q:aa):g:=λl c=>
 d 3 a c λe=>
 bB e λf=>
 b .eql f J λh=>
 aF h acJ (
 d 3 a c λi=>
 bB i λj=>
 b .gtr j (D 32) λk=>
 G (wO Φ a Q) [k] c) (
 G (wO Φ a Q) [aT] c) (
 False)
def wP(b:I)(Q:aa):g:=λc a=>
 W (N c 0) acI (
 Q (D 8) a) (
 G (Bh Φ b Q) [] a)
def wQ(a:I)(Q:aa):g:=λe c=>
 aF (N e 0) acJ (
 d 5 a c λf=>
 bB f λh=>
 b .gtr h J λi=>
 G (wP Φ a Q) [i] c) (
 G (wP Φ a Q) [aT] c) (
 False)
def wR(c:I)(Q:aa):g:=λe a=>
 W (N e 0) acI (
 d 1 c a λf=>
 b .neq f J λh=>
 aF h acJ (
 d 4 c a λi=>
 b .neq i J λj=>
 G (wQ Φ c Q) [j] a) (
 G (wQ Φ c Q) [aT] a) (
 False)) (
 Q (D 8) a)
def pF(a e:I)(Q:aa):g:=λh c=>
 W (N h 0) acI (
 d 2 a c λi=>
 aF i acJ (
 d 3 a c λj=>
 bB j λk=>
 b .gtr k J λl=>
 G (wH Φ a Q) [l] c) (
 G (wH Φ a Q) [aT] c) (
 False)) (
 b .eql e (D 5) λm=>
 W m acI (
 d 2 a c λn=>
 aF n acJ (
 d 3 a c λo=>
 bB o λp=>
 b .gtr p J λq=>
 G (wL Φ a Q) [q] c) (
 G (wL Φ a Q) [aT] c) (
 False)) (
 b .eql e (D 3) λf=>
 W f acI (
 G (wR Φ a Q) [f] c) (
 b .eql e (D 4) λr=>
 G (wR Φ a Q) [r] c)))
def f71(a0:I)(H:Z)(Q:aa):Prop:=
 bU H 6 a0 λc H2=>
 d 0 c H2 λa=>
 b .eql a (D 1) λe=>
 W e acI (
 G (pF Φ c a Q) [e] H2) (
 b .eql a (D 2) λf=>
 G (pF Φ c a Q) [f] H2)
def Hu:aU:=bf C ⟨71,[4],[[3],[5]],acL,[],[]⟩
def wS(Φ:ad)(a:ST)(c:LT)(Q:aa):g:=λd e=>
 b .add (N a.1 1) (D 1) λf=>
 c ([(N d 0),f],e)
def wT(Φ:ad)(a:ST)(c:LT)(Q:aa):g:=λd e=>
 b .add (N a.1 1) (D 1) λf=>
 c ([(N d 0),f],e)
def wU(c:I)(Q:aa):BT:=λa e=>
 d 3 c a.2 λf=>
 bB f λg=>
 b .lss (N a.1 1) g λh=>
 W h acI (
 aF (N a.1 0) acJ (
 d 3 c a.2 λi=>
 Do (aL acL 9 i (N a.1 1)) λk=>
 aM 1 k λl=>
 j a.2 6 l λm=>
Φ 72 [m] a.2 λn o=>
 G (wT Φ a e Q) [n] o) (
 G (wT Φ a e Q) [aT] a.2) (
 False)) (
 Q (N a.1 0) a.2)
def Hv(a:I)(Q:aa):g:=λb c=>
 ar (wU Φ a Q) ([(N b 0),J],c)
def wV(c:I)(Q:aa):BT:=λa e=>
 d 5 c a.2 λf=>
 bB f λg=>
 b .lss (N a.1 1) g λh=>
 W h acI (
 aF (N a.1 0) acJ (
 d 5 c a.2 λi=>
 Do (aL acL 6 i (N a.1 1)) λk=>
 j a.2 6 k λl=>
Φ 72 [l] a.2 λm n=>
 G (wS Φ a e Q) [m] n) (
 G (wS Φ a e Q) [aT] a.2) (
 False)) (
 G (Hv Φ c Q) [(N a.1 0)] a.2)
def wW(a:I)(Q:aa):g:=λb c=>
 ar (wV Φ a Q) ([(N b 0),J],c)
def f72(a0:I)(H:Z)(Q:aa):Prop:=
 bU H 6 a0 λa H2=>
 d 0 a H2 λc=>
 b .eql c (D 2) λe=>
 aF e acI (
 d 1 a H2 λf=>
 b .gtr f (D 1) λg=>
 G (wW Φ a Q) [g] H2) (
 G (wW Φ a Q) [P] H2) (
 False)
def Hw:aU:=bf C ⟨72,[],[[3,4],[3,5]],acL,[],[]⟩
def f73(Φ:ad)(a0:I)(H:Z)(Q:aa):Prop:=
 bU H 2 a0 λa H2=>
 d 0 a H2 λc=>
 b .eql c (.str []) λe=>
 aF e acI (
 d 1 a H2 λf=>
 bB f λg=>
 b .eql g J λh=>
 Q h H2) (
 Q P H2) (
 False)
def Hx:aU:=bf C ⟨73,[],[],acL,[],[]⟩
def wX(c:I)(Q:aa):g:=λe a=>
 aF (N e 0) acI (
 d 0 c a λf=>
 b .geq f (D 4) λh=>
 aF h acJ (
 aM 5 c λi=>
 j a 2 i λk=>
Φ 73 [k] a λl m=>
 Q l m) (
 Q aT a) (
 False)) (
 Q P a) (
 False)
def wY(a:I)(Q:aa):g:=λe c=>
 aF (N e 0) acI (
 d 3 a c λf=>
 b .leq f (D 11) λh=>
 G (wX Φ a Q) [h] c) (
 G (wX Φ a Q) [P] c) (
 False)
def wZ(a:I)(Q:aa):g:=λe c=>
 aF (N e 0) acI (
 d 3 a c λf=>
 b .geq f J λh=>
 G (wY Φ a Q) [h] c) (
 G (wY Φ a Q) [P] c) (
 False)
def rG(a:I)(Q:aa):g:=λe c=>
 aF (N e 0) acI (
 d 0 a c λf=>
 b .eql f (D 3) λh=>
 d 3 a c λi=>
 b .neq i J λj=>
 Do (kD acJ h j) λk=>
 G (wZ Φ a Q) [k] c) (
 G (wZ Φ a Q) [P] c) (
 False)
def w4(a:I)(Q:aa):g:=λe c=>
 aF (N e 0) acI (
 d 2 a c λf=>
 b .eql f (.str []) λh=>
 aF h acJ (
 d 0 a c λi=>
 b .eql i (D 2) λj=>
 G (rG Φ a Q) [j] c) (
 G (rG Φ a Q) [aT] c) (
 False)) (
 G (rG Φ a Q) [P] c) (
 False)
def Bi(a:I)(Q:aa):g:=λj c=>
 d 1 a c λe=>
 b .eql e (cY 0) λf=>
 aF f acJ (
 d 0 a c λh=>
 b .eql h (D 1) λi=>
 G (w4 Φ a Q) [i] c) (
 G (w4 Φ a Q) [aT] c) (
 False)
def rH(b:I)(Q:aa):g:=λc a=>
 W (N c 0) acI (
 Q P a) (
 G (Bi Φ b Q) [] a)
def f74(a0:I)(H:Z)(Q:aa):Prop:=
 bU H 8 a0 λc H2=>
 bs (cI H2 acJ 1 9 [J] [(0,1,(D (-1))),(1,1,J),(2,1,J),(3,1,(D 2)),(4,1,J),(5,1,J),(6,1,(D 1)),(7,1,(D 1)),(8,1,(D 2))]) λe a=>
 d 0 c a λf=>
 b .lss f (D 1) λg=>
 aF g acJ (
 d 0 c a λh=>
 b .gtr h (D 8) λi=>
 aF i acJ (
 d 7 c a λj=>
 bB j λk=>
 d 0 c a λl=>
 gi 1 e l a λm=>
 b .neq k m λn=>
 G (rH Φ c Q) [n] a) (
 G (rH Φ c Q) [aT] a) (
 False)) (
 G (rH Φ c Q) [aT] a) (
 False)
def Hy:aU:=bf C ⟨74,[],[],acL,[],[]⟩
def Qr(a0 M e:I)(Q:aa):BT:=λs2 f=>
 b .lss (N s2.1 0) e λg=>
 W g acI (
 Do (aL acL 2 a0 (N s2.1 0)) λh=>
 j s2.2 2 h λi=>
∃a c,M = .fn a c/\Φ (jw a) (jx a [i] c) s2.2 λk d=>
 W k acI (
 Q (N s2.1 0) d) (
 b .add (N s2.1 0) (D 1) λl=>
 f ([l],d))) (
 Q (D (-1)) s2.2)
def f82(a0 M:I)(H:Z)(Q:aa):Prop:=
 bB a0 λa=>
 ar (Qr Φ a0 M a Q) ([J],H)
def Qs:aU:=bf C ⟨82,[],[[8]],acL,[],[]⟩
def w5(b:I)(Q:aa):g:=λc a=>
 aF (N c 0) acJ (
 d 3 b a λe=>
Φ 129 [e,(.fn 130 [])] a λf h=>
 Q f h) (
 Q aT a) (
 False)
def w6(a:I)(Q:aa):g:=λc b=>
 aF (N c 0) acJ (
 d 5 a b λe=>
Φ 128 [e,(.fn 83 [])] b λf h=>
 G (w5 Φ a Q) [f] h) (
 G (w5 Φ a Q) [aT] b) (
 False)
def f83(a0:I)(H:Z)(Q:aa):Prop:=
 bU H 6 a0 λa H2=>
 d 2 a H2 λb=>
 aF b acI (
 j H2 6 a λc=>
Φ 127 [c] H2 λe f=>
 G (w6 Φ a Q) [e] f) (
 G (w6 Φ a Q) [P] H2) (
 False)
def Hz:aU:=bf C ⟨83,[],[],acL,[],[]⟩
def HA(h a:I)(Q:aa):g:=λr b=>
 j b 6 h λi=>
Φ 112 [i] b λc k=>
 Do (bA 0 c) λl=>
 Do (bA 1 c) λm=>
 bJ k [J,J,A,J] λd n=>
 aO n 4 d l λe=>
 aM 0 d λo=>
 j e 2 o λp=>
 aO e 2 a p λf=>
 j f 2 a λq=>
 Q (.aA [q,m]) f
def w7(e a r:I)(Q:aa):g:=λj9 c=>
 W (N j9 0) acI (
 d 1 e c λs=>
 d 1 e c λt=>
 cK [J,J] [(0,1,s),(1,1,t)] λu=>
 aO c 2 a u λm=>
 j m 2 a λv=>
 Q (.aA [v,aT]) m) (
 b .eql r (D 5) λw=>
 W w acI (
 d 5 e c λx=>
 Do (aL acL 6 x J) λy=>
 j c 6 y λz=>
Φ 84 [z] c λn A=>
 Do (bA 0 n) λB=>
 Do (bA 1 n) λC=>
 bJ A [J,J] λf E=>
 aO E 2 f B λi=>
 d 0 f i λF=>
 d 4 e i λH=>
 b .mul F H λK=>
 cg 0 f i K λh=>
 j h 2 f λo=>
 aF C acI (
 aM 0 f λp=>
 dV h p λq=>
 b .leq q (D 65536) λL=>
 aO h 2 a o λk=>
(((aT):I) = aT->aj k 1 acJ p=acK q) /\
(j k 2 a λM=>
 Q (.aA [M,L]) k)) (
 aO h 2 a o λl=>
(((P):I) = aT->aj l 1 acJ (.aA [])=acK (.aA [])) /\
(j l 2 a λO=>
 Q (.aA [O,P]) l)) (
 False)) (
 G (HA Φ e a Q) [] c))
def f84(a0:I)(H:Z)(Q:aa):Prop:=
 bU H 6 a0 λc H2=>
 bJ H2 [J,J] λf e=>
 d 0 c e λa=>
 b .eql a (D 1) λg=>
 W g acI (
 G (w7 Φ c f a Q) [g] e) (
 b .eql a (D 2) λh=>
 G (w7 Φ c f a Q) [h] e)
def HB:aU:=bf C ⟨84,[2,4,6],[],acL,[],[]⟩
def w8(a0:I)(Q:aa):g:=λh a=>
 de 0 a0 a λc=>
 bB c λd=>
 b .gtr d (D 8192) λe=>
 W e acI (
Φ 56 [a0] a λi f=>
 Q (.aA []) f) (
 Q (.aA []) a)
def f85(a0 M:I)(H:Z)(Q:aa):Prop:=
 bU H 2 M λa H2=>
 de 1 a0 H2 λb=>
 Do (cu .not b) λc=>
 W c acI (
 de 0 a0 H2 λd=>
 j H2 2 a λe=>
 bs (cI H2 acJ 2 1 [J,J] [(0,2,e)]) λf g=>
 bs (cZ g acI 2 16 d f) λh i=>
 fi 0 a0 i h λk=>
 G (w8 Φ a0 Q) [] k) (
 G (w8 Φ a0 Q) [] H2)
def HC:aU:=bf C ⟨85,[16],[],acL,[],[]⟩
def pG(Φ:ad)(a:ST)(c:LT)(Q:aa):g:=λf d=>
 b .add (N a.1 0) (D 1) λe=>
 c ([e],d)
def w9(k c i e:I)(f:ST)(h:LT)(Q:aa):g:=λE a=>
 d 7 i a λl=>
 Do (cu .not l) λm=>
 W m acI (
 dV a k λn=>
 aM 1 i λo=>
 j a 6 o λp=>
 d 0 e a λq=>
Φ 55 [n,p,q] a λF r=>
 G (pG Φ f h Q) [] r) (
 d 1 c a λs=>
 b .gtr s J λt=>
 W t acI (
 d 0 e a λu=>
 d 1 e a λv=>
 b .add u v λw=>
 d 0 c a λx=>
 b .sub w x λy=>
 cg 1 c a y λz=>
 G (pG Φ f h Q) [] z) (
 d 8 i a λA=>
 b .gtr A J λB=>
 W B acI (
 j a 2 e λC=>
 aO a 2 c C λD=>
 G (pG Φ f h Q) [] D) (
 G (pG Φ f h Q) [] a)))
def w_(a b d e:I)(f:ST)(h:LT)(Q:aa):g:=λk i=>
 W (N k 0) acI (
∃c j,(.fn 131 [b,a]:I) = .fn c j/\Φ (jw c) (jx c [] j) i λm l=>
 G (w9 Φ a b d e f h Q) [] l) (
 G (w9 Φ a b d e f h Q) [] i)
def xb(c k e f h:I)(i:ST)(j:LT)(Q:aa):g:=λl a=>
 aF (N l 0) acJ (
 d 0 k a λm=>
 b .eql m (D 4) λn=>
 G (w_ Φ c e f h i j Q) [n] a) (
 G (w_ Φ c e f h i j Q) [aT] a) (
 False)
def HD(c d:I)(Q:aa):g:=λh e=>
∃a b,(.fn 131 [d,c]:I) = .fn a b/\Φ (jw a) (jx a [] b) e λi f=>
 Q (.aA []) f
def rI(n g k o h p q:I)(Q:aa):BT:=λa l=>
 b .lss (N a.1 0) q λr=>
 W r acI (
 Do (aL acL 9 p (N a.1 0)) λs=>
 j a.2 9 s λt=>
 bJ a.2 [.str [],J,J,P,A,J,A,P,J] λc u=>
 aO u 9 c t λi=>
 d 2 o i λv=>
 Do (aL acL 6 v (N a.1 0)) λw=>
 aM 0 w λx=>
 j i 2 x λy=>
 bJ i [J,J] λe z=>
 aO z 2 e y λm=>
 d 0 e m λB=>
 b .add B n λC=>
 cg 0 e m C λf=>
 d 7 c f λD=>
 Do (cu .not D) λE=>
 aF E acJ (
 d 8 c f λF=>
 b .eql F J λH=>
 G (xb Φ g k h c e a l Q) [H] f) (
 G (xb Φ g k h c e a l Q) [aT] f) (
 False)) (
 G (HD Φ g h Q) [] a.2)
def f86(a0 M i:I)(H:Z)(Q:aa):Prop:=
 bU H 1 a0 λk H2=>
 bU H2 6 M λa b=>
 j b 6 a λl=>
Φ 112 [l] b λc m=>
 Do (bA 0 c) λn=>
 Do (bA 1 c) λt=>
 bJ m [J,J,A,J] λe o=>
 aO o 4 e n λp=>
 cK [J,J] [] λq=>
 bJ p [J,J] λf r=>
 aO r 2 f q λg=>
 d 3 a g λh=>
 bB h λs=>
 ar (rI Φ i k a e f h s Q) ([J],g)
def HE:aU:=bf C ⟨86,[6,8,11,12],[[23]],acL,[],[]⟩
def f88(a0 M:I)(H:Z)(Q:aa):Prop:=
 bU H 2 a0 λc H2=>
 bU H2 2 M λe a=>
 d 0 c a λj=>
 d 0 e a λk=>
 aM 1 c λf=>
 dV a f λg=>
 aM 1 e λh=>
 dV a h λi=>
Φ 90 [j,k] a λl b=>
(aj b 1 acJ f=acK g) /\
(aj b 1 acJ h=acK i) /\
(Φ 90 [g,i] b λm n=>
 bs (cI n acJ 1 2 [J] [(0,1,l),(1,1,m)]) λo p=>
Φ 89 [o] p λq r=>
 Q q r)
def HF:aU:=bf C ⟨88,[],[],acL,[],[]⟩
def xc(Φ:ad)(a0 c:I)(Q:aa):BT:=λs2 d=>
 b .lss (N s2.1 0) c λe=>
 W e acI (
 gi 1 a0 (N s2.1 0) s2.2 λa=>
 b .neq a J λf=>
 W f acI (
 Q a s2.2) (
 b .add (N s2.1 0) (D 1) λg=>
 d ([g],s2.2))) (
 Q J s2.2)
def f89(a0:I)(H:Z)(Q:aa):Prop:=
 bB a0 λa=>
 ar (xc Φ a0 a Q) ([J],H)
def HG:aU:=bf C ⟨89,[],[[8]],acL,[],[]⟩
def f90(a0 M:I)(H:Z)(Q:aa):Prop:=
Φ 134 [a0] H λd H2=>
Φ 134 [M] H2 λc a=>
 W d acI (
 W c acI (
 Q J a) (
 Q (D (-1)) a)) (
 W c acI (
 Q (D 1) a) (
 b .lss a0 M λe=>
 W e acI (
 Q (D (-1)) a) (
 b .gtr a0 M λf=>
 W f acI (
 Q (D 1) a) (
 Q J a))))
def HH:aU:=bf C ⟨90,[],[],acL,[],[]⟩
def xd(Φ:ad)(a:ST)(c:LT)(Q:aa):g:=λd e=>
 b .add (N a.1 1) (D 1) λf=>
 c ([(N d 0),f],e)
def HI(Φ:ad)(a0:I)(Q:aa):g:=λfZ a=>
 Do (eC 2 a0 (acK (N fZ 0)) acL acL) λb=>
 bs (j8 a (.clear 2 [J,J]) [b]) λe c=>
 Do (eC 2 a0 acL (acK (N fZ 0)) acL) λd=>
 Q d c
def xe(a0 c:I)(Q:aa):BT:=λa d=>
 bB c λe=>
 b .lss (N a.1 1) e λf=>
 W f acI (
 Do (aL acL 2 c (N a.1 1)) λg=>
 j a.2 2 g λh=>
 b .sub (N a.1 1) (D 1) λi=>
 Do (aL acL 2 c i) λk=>
 j a.2 2 k λl=>
 Do (kE acI [.n,.n] h l) λm=>
 W m acI (
 Do (aL acL 2 c (N a.1 1)) λo=>
 j a.2 2 o λp=>
 Do (aL acL 2 a0 (N a.1 0)) λq=>
 aO a.2 2 q p λr=>
 b .add (N a.1 0) (D 1) λs=>
 G (xd Φ a d Q) [s] r) (
 G (xd Φ a d Q) [(N a.1 0)] a.2)) (
 G (HI Φ a0 Q) [(N a.1 0)] a.2)
def xf(a0:I)(Q:aa):BT:=λa c=>
 bB a0 λd=>
 b .lss (N a.1 0) d λe=>
 W e acI (
 Do (aL acL 2 a0 (N a.1 0)) λf=>
 j a.2 2 f λg=>
 b .sub (N a.1 0) (D 1) λh=>
 Do (aL acL 2 a0 h) λi=>
 j a.2 2 i λk=>
 Do (kE acJ [.n,.n] g k) λl=>
 W l acI (
 Do (eC 2 a0 (acK (N a.1 0)) acL acL) λm=>
 ar (xe Φ a0 m Q) ([(N a.1 0),(D 1)],a.2)) (
 b .add (N a.1 0) (D 1) λo=>
 c ([o],a.2))) (
 Q a0 a.2)
def f91(a0:I)(H:Z)(Q:aa):Prop:=
 bB a0 λa=>
 b .lss a (D 2) λc=>
 W c acI (
 Q a0 H) (
 ar (xf Φ a0 Q) ([(D 1)],H))
def HJ:aU:=bf C ⟨91,[],[[3],[3,5]],acL,[],[]⟩
def pH(Φ:ad)(b:LT)(Q:aa):g:=λc a=>
 W (N c 0) acI (
 Q P a) (
 b ([],a))
def rJ(d:I)(a:LT)(Q:aa):g:=λe c=>
 aF (N e 0) acI (
 b .lss d (.int .i32 48) λf=>
 aF f acJ (
 b .gtr d (.int .i32 57) λh=>
 G (pH Φ a Q) [h] c) (
 G (pH Φ a Q) [aT] c) (
 False)) (
 G (pH Φ a Q) [P] c) (
 False)
def xg(g:I)(Q:aa):BT:=λh c=>
 bs (la h.2 g) λd e=>
 Do (bA 0 d) λi=>
 W i acI (
 Do (bA 2 d) λa=>
Φ 135 [a] e λj f=>
 Do (cu .not j) λk=>
 aF k acI (
 b .neq a (.int .i32 95) λl=>
 G (rJ Φ a c Q) [l] f) (
 G (rJ Φ a c Q) [P] f) (
 False)) (
 Q aT e)
def HK(a0:I)(Q:aa):g:=λc H2=>
 bs (nD H2 a0) λa b=>
 ar (xg Φ a Q) ([],b)
def rK(a0:I)(Q:aa):g:=λb a=>
 W (N b 0) acI (
 Q P a) (
 G (HK Φ a0 Q) [] a)
def xh(a0:I)(Q:aa):g:=λb a=>
 aF (N b 0) acJ (
 Do (ju a0 J) λc=>
 Do (fU .i32 c) λd=>
Φ 135 [d] a λe f=>
 Do (cu .not e) λh=>
 G (rK Φ a0 Q) [h] f) (
 G (rK Φ a0 Q) [aT] a) (
 False)
def f92(a0:I)(H:Z)(Q:aa):Prop:=
 Do (ea acI a0) λa=>
 b .lss a (D 1) λc=>
 aF c acJ (
 Do (ea acI a0) λd=>
 b .gtr d (D 16) λe=>
 G (xh Φ a0 Q) [e] H) (
 G (xh Φ a0 Q) [aT] H) (
 False)
def HL:aU:=bf C ⟨92,[],[[]],acL,[],[]⟩
def f93(a0:I)(H:Z)(Q:aa):Prop:=
Φ 137 [(.str [118,97,114,32,116,104,114,101,97,100,32,115,116,114,117,99,116,32,117,110,105,111,110,32,112,97,99,107,101,100,32,117,56,32,117,49,54,32,117,51,50,32,117,54,52,32,97,56,32,97,49,54,32,97,51,50,32,97,54,52,32,97,49,50,56,32,108,101,116,32,115,101,116,32,119,114,105,116,101,32,115,116,111,114,101,32,108,111,97,100,50,32,115,116,111,114,101,50,32,102,101,110,99,101,32,105,102,32,101,108,115,101,32,119,104,105,108,101,32,112,114,105,110,116,32,114,101,97,100,32,108,111,97,100,32,97,100,100,32,115,119,97,112,32,99,97,115,32,114,108,120,32,97,99,113,32,114,101,108,32,115,99])] H λa H2=>
Φ 136 [a,a0] H2 λb c=>
 Q b c
def HM:aU:=bf C ⟨93,[],[],acL,[],[]⟩
def f94(a0 M:I)(H:Z)(Q:aa):Prop:=
Φ 37 [a0,M] H λa H2=>
 b .geq a J λc=>
 Q c H2
def HN:aU:=bf C ⟨94,[],[],acL,[],[]⟩
def f95(Φ:ad)(a0 M:I)(H:Z)(Q:aa):Prop:=
 bU H 7 a0 λa H2=>
 d 0 a H2 λc=>
 d 0 M H2 λe=>
 b .eql c e λf=>
 Q f H2
def HO:aU:=bf C ⟨95,[],[],acL,[],[]⟩
def rL(a0 c a:I)(Q:aa):g:=λo e=>
 d 8 a e λi=>
 b .add c (D 1) λj=>
Φ 58 [a0,i,j] e λp f=>
 d 1 a f λk=>
 fi 3 a0 f k λh=>
 d 9 a h λl=>
 b .add c (D 1) λm=>
Φ 58 [a0,l,m] h λq n=>
 Q (.aA []) n
def pI(a0 e a:I)(Q:aa):g:=λK h=>
 d 7 a h λl=>
Φ 143 [a0,l,e] h λL c=>
 d 0 a c λi=>
 b .eql i (D 1) λm=>
 W m acI (
 de 1 a0 c λn=>
 d 2 a c λo=>
 bs (cI c acJ 1 1 [.str []] [(0,1,o)]) λp q=>
 bs (cZ q acI 1 16 n p) λr s=>
 fi 1 a0 s r λj=>
 de 2 a0 j λt=>
 b .add t (D 1) λu=>
 fi 2 a0 j u λv=>
 G (rL Φ a0 e a Q) [] v) (
 b .eql i (D 5) λw=>
 W w acI (
 d 2 a c λx=>
Φ 141 [a0,x] c λy z=>
Φ 138 [a0,y,(D 6)] z λM k=>
 d 3 a k λA=>
Φ 141 [a0,A] k λB C=>
Φ 138 [a0,B,(D 6)] C λN f=>
 d 2 a f λE=>
 d 3 a f λF=>
 b .neq E F λH=>
Φ 138 [a0,H,(D 7)] f λO J=>
 G (rL Φ a0 e a Q) [] J) (
 G (rL Φ a0 e a Q) [] c))
def xi(a0 f a:I)(Q:aa):g:=λo c=>
 d 2 a c λh=>
Φ 141 [a0,h] c λi j=>
 Do (cu .not i) λk=>
Φ 138 [a0,k,(D 7)] j λp e=>
 de 2 a0 e λl=>
 b .lss l (D 40) λm=>
Φ 138 [a0,m,(D 12)] e λq n=>
 G (pI Φ a0 f a Q) [] n
def pJ(a0 c a:I)(Q:aa):g:=λe b=>
 W (N e 0) acI (
 d 0 a b λf=>
 aM 5 a λh=>
 j b 2 h λi=>
Φ 142 [a0,f,i,c] b λl k=>
 G (pI Φ a0 c a Q) [] k) (
 G (pI Φ a0 c a Q) [] b)
def f96(a0 M e:I)(H:Z)(Q:aa):Prop:=
 bU H 10 M λa H2=>
 b .leq e (D 64) λn=>
Φ 138 [a0,n,(D 5)] H2 λR i=>
 j i 10 a λo=>
Φ 139 [o] i λp q=>
Φ 138 [a0,p,(D 4)] q λS g=>
 d 0 a g λr=>
 d 4 a g λs=>
Φ 140 [r,s] g λt u=>
Φ 138 [a0,t,(D 11)] u λT c=>
 d 0 a c λf=>
 b .eql f (D 1) λv=>
 W v acI (
 d 2 a c λw=>
Φ 92 [w] c λx h=>
 aF x acI (
 d 2 a h λy=>
Φ 93 [y] h λz A=>
 Do (cu .not z) λB=>
Φ 138 [a0,B,(D 6)] A λU C=>
 G (xi Φ a0 e a Q) [] C) (
Φ 138 [a0,P,(D 6)] h λV E=>
 G (xi Φ a0 e a Q) [] E) (
 False)) (
 b .eql f (D 2) λF=>
 W F acI (
 d 2 a c λJ=>
Φ 141 [a0,J] c λK L=>
Φ 138 [a0,K,(D 6)] L λX N=>
 G (pI Φ a0 e a Q) [] N) (
 b .eql f (D 3) λk=>
 W k acI (
 G (pJ Φ a0 e a Q) [k] c) (
 b .eql f (D 4) λl=>
 W l acI (
 G (pJ Φ a0 e a Q) [l] c) (
 b .eql f (D 5) λm=>
 W m acI (
 G (pJ Φ a0 e a Q) [m] c) (
 b .eql f (D 6) λO=>
 G (pJ Φ a0 e a Q) [O] c)))))
def HP:aU:=bf C ⟨96,[87],[],acL,[],[]⟩
def f97(a0 M:I)(H:Z)(Q:aa):Prop:=
 bU H 8 M λa H2=>
 d 0 a H2 λc=>
 b .eql c (D 1) λi=>
 W i acI (
 d 1 a H2 λk=>
Φ 144 [a0,k] H2 λl m=>
 Q l m) (
 b .eql c (D 2) λn=>
 W n acI (
 d 2 a H2 λo=>
Φ 100 [a0,o] H2 λp q=>
 Q p q) (
 b .eql c (D 3) λr=>
 W r acI (
 d 7 a H2 λs=>
 Do (aL acL 8 s J) λt=>
 j H2 8 t λu=>
Φ 97 [a0,u] H2 λv e=>
 aM 3 a λf=>
 dV e f λg=>
 d 7 a e λw=>
 Do (aL acL 8 w (D 1)) λx=>
 j e 8 x λy=>
Φ 97 [a0,y] e λz h=>
(aj h 1 acJ f=acK g) /\
(Φ 145 [a0,g,v,z] h λA B=>
 Q A B)) (
 b .eql c (D 4) λC=>
 W C acI (
 aM 5 a λE=>
 j H2 2 E λF=>
Φ 146 [a0,F] H2 λG K=>
 Q G K) (
 j H2 8 a λL=>
Φ 147 [a0,L] H2 λN O=>
 Q N O))))
def HQ:aU:=bf C ⟨97,[],[],acL,[],[]⟩
def f98(Φ:ad)(a0:I)(H:Z)(Q:aa):Prop:=
 de 3 a0 H λc=>
 b .add c (D 1) λd=>
 fi 3 a0 H d λa=>
 de 3 a0 a λe=>
 b .sub e (D 1) λf=>
 Q f a
def HR:aU:=bf C ⟨98,[],[],acL,[],[]⟩
def f99(a0 M c:I)(H:Z)(Q:aa):Prop:=
Φ 104 [(D 2)] H λd H2=>
 bJ H2 [J,J,J,J,J,J,cY 0,J,J,J,J,J,J] λa e=>
 aO e 13 a d λf=>
 cg 1 a f M λg=>
 cg 3 a g c λb=>
 j b 13 a λh=>
Φ 106 [a0,h] b λk i=>
 Q (.aA []) i
def HS:aU:=bf C ⟨99,[6],[],acL,[],[]⟩
def f100(a0 M:I)(H:Z)(Q:aa):Prop:=
 bU H 1 M λb H2=>
 de 7 a0 H2 λc=>
Φ 148 [c,(.fn 149 [b])] H2 λe a=>
 de 7 a0 a λf=>
 Do (aL acL 2 f e) λg=>
 d 1 g a λh=>
 Q h a
def HT:aU:=bf C ⟨100,[],[],acL,[],[]⟩
def xj(a0 b c d:I)(Q:aa):g:=λe a=>
 j a 8 b λf=>
Φ 155 [a0,f,c,(N e 0),d] a λi h=>
 Q (.aA []) h
def f101(a0 M w:I)(H:Z)(Q:aa):Prop:=
 bU H 2 M λl H2=>
 bU H2 8 w λx m=>
 j m 2 l λy=>
Φ 150 [a0,y] m λz A=>
 bJ A [J,J,J,P,J,J,J,J] λa B=>
 aO B 8 a z λn=>
 j n 8 x λC=>
Φ 97 [a0,C] n λo p=>
 j p 8 a λE=>
Φ 151 [a0,E] p λe q=>
 j q 2 l λF=>
Φ 105 [a0,(D 3),J,F] q λf c=>
 aM 0 a λK=>
 d 3 K c λL=>
 W L acI (
 j c 8 a λN=>
Φ 152 [a0,N,e,f] c λO g=>
 aM 0 a λR=>
 d 5 R g λS=>
 aM 0 a λT=>
 aM 4 T λr=>
 dV g r λs=>
Φ 154 [S] g λU t=>
(aj t 1 acJ r=acK s) /\
(b .shl U s λV=>
 Do (cu .xor V) λX=>
Φ 153 [a0,(D 4),O,X] t λY h=>
 aM 0 a λab=>
 d 5 ab h λac=>
 aM 0 a λae=>
 aM 4 ae λi=>
 dV h i λk=>
 Do (fU .u64 k) λaf=>
Φ 154 [ac] h λag u=>
(aj u 1 acJ i=acK k) /\
(Φ 153 [a0,(D 4),o,ag] u λah v=>
(aj v 1 acJ i=acK k) /\
(Φ 153 [a0,(D 7),ah,af] v λai ak=>
Φ 145 [a0,(D 5),Y,ai] ak λal am=>
 G (xj Φ a0 a e f Q) [al] am)))) (
 G (xj Φ a0 a e f Q) [o] c)
def HU:aU:=bf C ⟨101,[6],[],acL,[],[]⟩
def xk(a0 c i b:I)(Q:aa):g:=λD k=>
 j k 8 i λp=>
Φ 151 [a0,p] k λq r=>
 cg 3 b r q λa=>
 aM 0 i λs=>
 aM 0 s λt=>
 aM 1 t λl=>
 dV a l λm=>
 aM 4 c λe=>
 dV a e λf=>
 d 0 c a λu=>
 d 4 c a λv=>
 aM 5 c λw=>
 j a 2 w λx=>
 aM 8 b λy=>
Φ 105 [a0,u,v,x] a λz h=>
(aj h 1 acJ l=acK m) /\
(aj h 1 acJ e=acK f) /\
(aO h 1 y m λn=>
(aj n 1 acJ e=acK f) /\
(cg 9 b n f λA=>
 cg 11 b A z λo=>
 j o 13 b λB=>
Φ 106 [a0,B] o λE C=>
 Q (.aA []) C))
def f102(a0 M:I)(H:Z)(Q:aa):Prop:=
 bU H 10 M λa H2=>
 aM 5 a λi=>
 j H2 2 i λk=>
Φ 150 [a0,k] H2 λl m=>
 bJ m [J,J,J,P,J,J,J,J] λe n=>
 aO n 8 e l λo=>
Φ 104 [(D 7)] o λp q=>
 bJ q [J,J,J,J,J,J,cY 0,J,J,J,J,J,J] λc r=>
 aO r 13 c p λf=>
 d 7 a f λs=>
 Do (aL acL 8 s J) λt=>
 j f 8 t λu=>
Φ 97 [a0,u] f λv w=>
 cg 4 c w v λg=>
 d 0 a g λx=>
 b .eql x (D 6) λy=>
 W y acI (
 cg 0 c g (D 12) λh=>
 d 7 a h λz=>
 Do (aL acL 8 z (D 1)) λA=>
 j h 8 A λB=>
Φ 97 [a0,B] h λC E=>
 cg 5 c E C λF=>
 G (xk Φ a0 a e c Q) [] F) (
 G (xk Φ a0 a e c Q) [] g)
def HV:aU:=bf C ⟨102,[4,5],[],acL,[],[]⟩
def f103(a0 M:I)(H:Z)(Q:aa):Prop:=
 bU H 10 M λb H2=>
 aM 5 b λK=>
 j H2 2 K λL=>
Φ 150 [a0,L] H2 λN O=>
 bJ O [J,J,J,P,J,J,J,J] λl R=>
 aO R 8 l N λS=>
Φ 104 [(D 11)] S λT U=>
 bJ U [J,J,J,J,J,J,cY 0,J,J,J,J,J,J] λa V=>
 aO V 13 a T λx=>
 j x 8 l λW=>
Φ 151 [a0,W] x λX Y=>
 cg 3 a Y X λf=>
 aM 0 l λab=>
 aM 0 ab λac=>
 aM 1 ac λg=>
 dV f g λh=>
 aM 4 b λc=>
 dV f c λe=>
 aM 0 b λm=>
 dV f m λn=>
 aM 4 b λo=>
 dV f o λp=>
 aM 5 b λq=>
 j f 2 q λr=>
Φ 98 [a0] f λae i=>
(aj i 1 acJ g=acK h) /\
(aj i 1 acJ c=acK e) /\
(aj i 1 acJ m=acK n) /\
(aj i 1 acJ o=acK p) /\
(aj i 2 acI q=acK r) /\
(aM 1 a λaf=>
Φ 98 [a0] i λag k=>
(aj k 1 acJ g=acK h) /\
(aj k 1 acJ c=acK e) /\
(aj k 1 acJ m=acK n) /\
(aj k 1 acJ o=acK p) /\
(aj k 2 acI q=acK r) /\
(Φ 105 [a0,n,p,r] k λah s=>
(aj s 1 acJ g=acK h) /\
(aj s 1 acJ c=acK e) /\
(aO s 1 af ae λt=>
(aj t 1 acJ g=acK h) /\
(aj t 1 acJ c=acK e) /\
(cg 2 a t ag λu=>
(aj u 1 acJ g=acK h) /\
(aj u 1 acJ c=acK e) /\
(cg 8 a u h λy=>
(aj y 1 acJ c=acK e) /\
(cg 9 a y e λai=>
 cg 11 a ai ah λz=>
 j z 13 a λak=>
Φ 106 [a0,ak] z λaq v=>
 d 2 b v λal=>
 aM 1 a λA=>
 dV v A λB=>
Φ 100 [a0,al] v λam C=>
(aj C 1 acJ A=acK B) /\
(Φ 99 [a0,am,B] C λar w=>
 d 3 b w λan=>
 aM 2 a λE=>
 dV w E λF=>
Φ 100 [a0,an] w λao G=>
(aj G 1 acJ E=acK F) /\
(Φ 99 [a0,ao,F] G λau ap=>
 Q (.aA []) ap))))))))
def HW:aU:=bf C ⟨103,[4,5],[],acL,[],[]⟩
def f104(Φ:ad)(a0:I)(H:Z)(Q:aa):Prop:=
 bJ H [J,J,J,J,J,J,cY 0,J,J,J,J,J,J] λa H2=>
 cK [J,J,J,J,J,J,cY 0,J,J,J,J,J,J] [(0,1,a0),(1,1,(D (-1))),(2,1,(D (-1))),(3,1,(D (-1))),(4,1,(D (-1))),(5,1,(D (-1)))] λc=>
 aO H2 13 a c λb=>
 j b 13 a λd=>
 Q d b
def HX:aU:=bf C ⟨104,[2],[],acL,[],[]⟩
def f105(Φ:ad)(a0 M b c:I)(H:Z)(Q:aa):Prop:=
 bU H 2 c λd H2=>
 de 5 a0 H2 λe=>
 de 6 a0 H2 λf=>
 j H2 2 d λg=>
 Do (bS [J,J,J,.str [],A] [(0,1,M),(1,1,b),(2,1,f),(3,2,g)]) λh=>
 bs (cI H2 acJ 5 1 [J,J,J,.str [],A] [(0,5,h)]) λi k=>
 bs (cZ k acJ 5 64 e i) λl m=>
 fi 5 a0 m l λa=>
 de 5 a0 a λn=>
 bB n λo=>
 Q o a
def HY:aU:=bf C ⟨105,[],[],acL,[],[]⟩
def f106(Φ:ad)(a0 M:I)(H:Z)(Q:aa):Prop:=
 bs (b5 H acI 13 M) λb H2=>
 de 6 a0 H2 λc=>
 cg 12 b H2 c λa=>
 de 2 a0 a λd=>
 j a 13 b λe=>
 bs (cI a acJ 13 1 [J,J,J,J,J,J,cY 0,J,J,J,J,J,J] [(0,13,e)]) λf g=>
 bs (cZ g acJ 13 104 d f) λh i=>
 fi 2 a0 i h λk=>
 Q (.aA []) k
def HZ:aU:=bf C ⟨106,[3],[],acL,[],[]⟩
def f107(a0 M:I)(H:Z)(Q:aa):Prop:=
 bU H 10 M λa H2=>
Φ 156 [a0] H2 λc k=>
Φ 156 [a0] k λe b=>
 d 7 a b λl=>
 Do (aL acL 8 l J) λm=>
 j b 8 m λn=>
Φ 97 [a0,n] b λo p=>
Φ 157 [a0,c,o] p λy f=>
 d 8 a f λq=>
Φ 32 [a0,q] f λz g=>
 d 1 a g λr=>
 fi 6 a0 g r λs=>
Φ 157 [a0,e,(D (-1))] s λA t=>
Φ 158 [a0,c] t λB h=>
 d 9 a h λu=>
Φ 32 [a0,u] h λC i=>
 d 1 a i λv=>
 fi 6 a0 i v λw=>
Φ 158 [a0,e] w λE x=>
 Q (.aA []) x
def H3:aU:=bf C ⟨107,[],[],acL,[],[]⟩
def f108(a0 M:I)(H:Z)(Q:aa):Prop:=
 bU H 10 M λa H2=>
Φ 156 [a0] H2 λc h=>
Φ 156 [a0] h λe i=>
Φ 158 [a0,c] i λu b=>
 d 7 a b λk=>
 Do (aL acL 8 k J) λl=>
 j b 8 l λm=>
Φ 97 [a0,m] b λn o=>
Φ 157 [a0,e,n] o λv f=>
 d 8 a f λp=>
Φ 32 [a0,p] f λw g=>
 d 1 a g λq=>
 fi 6 a0 g q λr=>
Φ 157 [a0,c,(D (-1))] r λx s=>
Φ 158 [a0,e] s λy t=>
 Q (.aA []) t
def H4:aU:=bf C ⟨108,[],[],acL,[],[]⟩
def f109(a0:I)(H:Z)(Q:aa):Prop:=
 bU H 6 a0 λa H2=>
 j H2 6 a λb=>
Φ 159 [b,(D 65)] H2 λc d=>
 Q c d
def H5:aU:=bf C ⟨109,[],[],acL,[],[]⟩
def H6(b:I)(Q:aa):g:=λk a=>
 d 5 b a λc=>
 Do (aL acL 6 c J) λe=>
 j a 6 e λf=>
Φ 110 [f] a λh i=>
 Q h i
def xm(b:I)(Q:aa):g:=λc a=>
 W (N c 0) acI (
 Q (D 9) a) (
 G (H6 Φ b Q) [] a)
def f110(a0:I)(H:Z)(Q:aa):Prop:=
 bU H 6 a0 λc H2=>
 j H2 6 c λh=>
Φ 160 [h] H2 λi a=>
 Do (cu .not i) λk=>
 W k acI (
 Q (D 8) a) (
 d 0 c a λe=>
 b .eql e (D 1) λl=>
 W l acI (
 d 1 c a λm=>
Φ 161 [m,(D 8)] a λn f=>
 Do (cu .not n) λo=>
 W o acI (
 Q (D 9) f) (
 Q J f)) (
 b .eql e (D 2) λp=>
 W p acI (
 d 1 c a λq=>
Φ 161 [q,(D 16)] a λr g=>
 Do (cu .not r) λs=>
 W s acI (
 Q (D 9) g) (
 Q J g)) (
 b .eql e (D 5) λt=>
 W t acI (
 d 4 c a λu=>
 b .lss u (D 1) λv=>
 aF v acJ (
 d 4 c a λw=>
 b .gtr w (D 65536) λx=>
 G (xm Φ c Q) [x] a) (
 G (xm Φ c Q) [aT] a) (
 False)) (
 j a 6 c λy=>
Φ 162 [y] a λz A=>
 Q z A))))
def H7:aU:=bf C ⟨110,[],[],acL,[],[]⟩
def f111(Φ:ad)(a0 M:I)(H:Z)(Q:aa):Prop:=
 bU H 9 a0 λa H2=>
 d 0 a H2 λc=>
 d 0 M H2 λe=>
 b .eql c e λf=>
 Q f H2
def H8:aU:=bf C ⟨111,[],[],acL,[],[]⟩
def H9(Φ:ad)(a:ST)(c:LT)(Q:aa):g:=λf d=>
 b .add (N a.1 0) (D 1) λe=>
 c ([e],d)
def xp(a:I)(i:ST)(j:LT)(Q:aa):g:=λr c=>
 aM 0 a λk=>
 aM 0 k λe=>
 dV c e λf=>
 d 3 a c λl=>
Φ 165 [l,(D 8)] c λm h=>
(aj h 1 acJ e=acK f) /\
(b .quo m (D 8) λn=>
 Do (gH acI [f,n]) λo=>
 aM 0 a λp=>
 cg 0 p h o λq=>
 G (H9 Φ i j Q) [] q)
def xq(a f h n:I)(i:ST)(k:LT)(Q:aa):g:=λN c=>
 d 7 f c λo=>
 W o acI (
 j c 9 f λp=>
Φ 164 [a,p] c λO q=>
 G (xp Φ a i k Q) [] q) (
 d 3 a c λr=>
Φ 165 [r,(D 8)] c λs t=>
 b .quo s (D 8) λu=>
Φ 165 [u,n] t λl e=>
 d 2 a e λv=>
 d 0 h e λw=>
 cK [J,J] [(0,1,l),(1,1,w)] λx=>
 aM 1 f λy=>
 d 0 y e λz=>
 cK [J,J,J,P,J,J] [(0,2,x),(2,1,z)] λA=>
 bs (cI e acJ 6 1 [J,J,J,P,J,J] [(0,6,A)]) λB C=>
 bs (cZ C acJ 6 48 v B) λE F=>
 cg 2 a F E λm=>
 d 0 h m λH=>
 b .add l H λK=>
 b .mul (D 8) K λL=>
 cg 3 a m L λM=>
 G (xp Φ a i k Q) [] M)
def H_(h a:I)(Q:aa):g:=λw c=>
 aM 0 a λl=>
 d 0 l c λm=>
 aM 0 a λn=>
 d 1 n c λo=>
Φ 165 [m,o] c λp q=>
 aM 0 a λr=>
 cg 0 r q p λe=>
 j e 4 a λs=>
 aM 0 a λt=>
 aM 0 t λi=>
 dV e i λk=>
 b .leq k (D 65536) λu=>
 aO e 4 h s λf=>
(aj f 1 acJ i=acK k) /\
(j f 4 h λv=>
 Q (.aA [v,u]) f)
def nW(l h c r s:I)(Q:aa):BT:=λa m=>
 b .lss (N a.1 0) s λt=>
 W t acI (
 Do (aL acL 9 r (N a.1 0)) λu=>
 j a.2 9 u λv=>
 bJ a.2 [.str [],J,J,P,A,J,A,P,J] λe w=>
 aO w 9 e v λn=>
 aM 1 e λx=>
 j n 6 x λy=>
Φ 84 [y] n λo z=>
 Do (bA 0 o) λB=>
 Do (bA 1 o) λC=>
 bJ z [J,J] λg E=>
 aO E 2 g B λf=>
 Do (cu .not C) λF=>
 W F acI (
 Do (bS [J,J,A,J] []) λH=>
 aO f 4 h H λp=>
 j p 4 h λK=>
 Q (.aA [K,P]) p) (
 j f 6 l λL=>
 j f 9 e λM=>
 d 1 g f λO=>
Φ 163 [L,M,O] f λi q=>
 aM 0 c λR=>
 d 1 R q λS=>
 Do (gH acI [S,i]) λT=>
 aM 0 c λU=>
 cg 1 U q T λk=>
 d 0 l k λV=>
 b .eql V (D 4) λX=>
 W X acI (
 cg 3 c k J λY=>
 G (xq Φ c e g i a m Q) [] Y) (
 G (xq Φ c e g i a m Q) [] k))) (
 G (H_ Φ h c Q) [] a.2)
def f112(a0:I)(H:Z)(Q:aa):Prop:=
 bU H 6 a0 λa H2=>
 bJ H2 [J,J,A,J] λf g=>
 cK [J,J] [(0,1,J),(1,1,(D 1))] λh=>
 Do (bS [J,J,A,J] [(0,2,h)]) λi=>
 bJ g [J,J,A,J] λb j=>
 aO j 4 b i λc=>
 d 3 a c λe=>
 bB e λk=>
 ar (nW Φ a f b e k Q) ([J],c)
def Ia:aU:=bf C ⟨112,[2,4,6,7],[[16]],acL,[],[]⟩
def xr(Φ:ad)(c:I)(Q:aa):g:=λe a=>
 aF (N e 0) acI (
 d 1 c a λf=>
 b .leq f (D 1048576) λh=>
 Q h a) (
 Q P a) (
 False)
def xt(a:I)(Q:aa):g:=λe c=>
 aF (N e 0) acI (
 d 1 a c λf=>
 b .geq f J λh=>
 G (xr Φ a Q) [h] c) (
 G (xr Φ a Q) [P] c) (
 False)
def f113(a0:I)(H:Z)(Q:aa):Prop:=
 bU H 2 a0 λa H2=>
 d 0 a H2 λc=>
 b .geq c J λe=>
 aF e acI (
 d 0 a H2 λf=>
 b .leq f (D 1099511627776) λg=>
 G (xt Φ a Q) [g] H2) (
 G (xt Φ a Q) [P] H2) (
 False)
def Ib:aU:=bf C ⟨113,[],[],acL,[],[]⟩
def pK(Φ:ad)(a0 M:I)(Q:aa):BT:=λs1 a=>
 b .leq (N s1.1 0) M λc=>
 W c acI (
 b .eql a0 (N s1.1 0) λd=>
 W d acI (
 Q aT s1.2) (
 b .mul (D 2) (N s1.1 0) λe=>
 a ([e],s1.2))) (
 Q P s1.2)
def f114(a0 M:I)(H:Z)(Q:aa):Prop:=
 ar (pK Φ a0 M Q) ([(D 1)],H)
def Ic:aU:=bf C ⟨114,[],[[5]],acL,[],[]⟩
def xu(b:I)(Q:aa):g:=λc a=>
 aF (N c 0) acJ (
 d 3 b a λe=>
Φ 129 [e,(.fn 174 [])] a λf h=>
 Q f h) (
 Q aT a) (
 False)
def xv(a:I)(Q:aa):g:=λc b=>
 aF (N c 0) acJ (
 d 5 a b λe=>
Φ 128 [e,(.fn 127 [])] b λf h=>
 G (xu Φ a Q) [f] h) (
 G (xu Φ a Q) [aT] b) (
 False)
def f127(a0:I)(H:Z)(Q:aa):Prop:=
 bU H 6 a0 λa H2=>
 d 0 a H2 λc=>
 b .eql c (D 2) λe=>
 aF e acI (
 d 1 a H2 λf=>
 b .gtr f (D 1) λg=>
 G (xv Φ a Q) [g] H2) (
 G (xv Φ a Q) [P] H2) (
 False)
def Ie:aU:=bf C ⟨127,[],[],acL,[],[]⟩
def f128(a0 M:I)(H:Z)(Q:aa):Prop:=
Φ 175 [a0,M] H λa H2=>
 b .geq a J λc=>
 Q c H2
def Ig:aU:=bf C ⟨128,[],[],acL,[],[]⟩
def f129(a0 M:I)(H:Z)(Q:aa):Prop:=
Φ 64 [a0,M] H λa H2=>
 b .geq a J λc=>
 Q c H2
def Ih:aU:=bf C ⟨129,[],[],acL,[],[]⟩
def f130(a0:I)(H:Z)(Q:aa):Prop:=
 bU H 9 a0 λa H2=>
 aM 1 a λb=>
 j H2 6 b λc=>
Φ 83 [c] H2 λd e=>
 Q d e
def Ii:aU:=bf C ⟨130,[],[],acL,[],[]⟩
def xw(Φ:ad)(a0:I)(Q:aa):g:=λc H2=>
 cK [J,J] [] λa=>
 aO H2 2 a0 a λb=>
 Q (.aA []) b
def f131(a0 M:I)(H:Z)(Q:aa):Prop:=
 d 1 a0 H λa=>
 b .gtr a J λc=>
 W c acI (
 dV H M λe=>
 j H 2 a0 λf=>
Φ 85 [e,f] H λh g=>
 G (xw Φ a0 Q) [] g) (
 G (xw Φ a0 Q) [] H)
def Ij:aU:=bf C ⟨131,[],[],acL,[],[]⟩
def f134(Φ:ad)(a0:I)(H:Z)(Q:aa):Prop:=
 b .neq a0 a0 λa=>
 Q a H
def Ik:aU:=bf C ⟨134,[],[],acL,[],[]⟩
def f135(Φ:ad)(a0:I)(H:Z)(Q:aa):Prop:=
 b .geq a0 (.int .i32 97) λa=>
 aF a acI (
 b .leq a0 (.int .i32 122) λc=>
 Q c H) (
 Q P H) (
 False)
def Il:aU:=bf C ⟨135,[],[],acL,[],[]⟩
def f136(a0 M:I)(H:Z)(Q:aa):Prop:=
Φ 186 [a0,M] H λa H2=>
 b .geq a J λc=>
 Q c H2
def Im:aU:=bf C ⟨136,[],[],acL,[],[]⟩
def xx(Φ:ad)(a0 a:I)(Q:aa):g:=λb H2=>
 W (N b 0) acI (
 de 3 a0 H2 λc=>
 cK [J,J] [(0,1,c),(1,1,a)] λd=>
 Do (b8 a0) λe=>
 aM 4 e λf=>
 aO H2 2 f d λh=>
 Q (.aA []) h) (
 Q (.aA []) H2)
def f138(a0 M a:I)(H:Z)(Q:aa):Prop:=
 Do (cu .not M) λb=>
 aF b acI (
Φ 59 [a0] H λc d=>
 Do (cu .not c) λe=>
 G (xx Φ a0 a Q) [e] d) (
 G (xx Φ a0 a Q) [P] H) (
 False)
def Io:aU:=bf C ⟨138,[],[],acL,[],[]⟩
def pL(Φ:ad)(c e:I)(Q:aa):g:=λf a=>
 aF (N f 0) acI (
 d 5 e a λh=>
 aF h acJ (
 d 9 c a λi=>
 bB i λj=>
 b .eql j J λk=>
 Q k a) (
 Q aT a) (
 False)) (
 Q P a) (
 False)
def rM(c e:I)(Q:aa):g:=λf a=>
 aF (N f 0) acI (
 d 4 e a λh=>
 aF h acJ (
 d 8 c a λi=>
 bB i λj=>
 b .eql j J λk=>
 G (pL Φ c e Q) [k] a) (
 G (pL Φ c e Q) [aT] a) (
 False)) (
 G (pL Φ c e Q) [P] a) (
 False)
def pM(c e:I)(Q:aa):g:=λf a=>
 aF (N f 0) acI (
 d 7 c a λh=>
 bB h λi=>
 d 3 e a λj=>
 b .eql i j λk=>
 G (rM Φ c e Q) [k] a) (
 G (rM Φ c e Q) [P] a) (
 False)
def pN(b c:I)(Q:aa):g:=λe a=>
 aF (N e 0) acI (
 d 2 c a λf=>
 aF f acJ (
 aM 5 b λh=>
 j a 2 h λi=>
Φ 190 [i] a λk l=>
 G (pM Φ b c Q) [k] l) (
 G (pM Φ b c Q) [aT] a) (
 False)) (
 G (pM Φ b c Q) [P] a) (
 False)
def pO(c e:I)(Q:aa):g:=λf a=>
 aF (N f 0) acI (
 d 1 e a λh=>
 aF h acJ (
 d 3 c a λi=>
 b .eql i (.str []) λj=>
 G (pN Φ c e Q) [j] a) (
 G (pN Φ c e Q) [aT] a) (
 False)) (
 G (pN Φ c e Q) [P] a) (
 False)
def f139(a0:I)(H:Z)(Q:aa):Prop:=
 bU H 10 a0 λa H2=>
 d 0 a H2 λg=>
Φ 189 [g] H2 λf h=>
 Do (bA 0 f) λi=>
 Do (bA 1 f) λj=>
 bJ h [P,P,P,J,P,P] λc k=>
 aO k 6 c i λe=>
 aF j acI (
 d 0 c e λl=>
 aF l acJ (
 d 2 a e λm=>
 b .eql m (.str []) λn=>
 G (pO Φ a c Q) [n] e) (
 G (pO Φ a c Q) [aT] e) (
 False)) (
 G (pO Φ a c Q) [P] e) (
 False)
def Ip:aU:=bf C ⟨139,[3],[],acL,[],[]⟩
def Bj(Φ:ad)(M:I)(Q:aa):g:=λc a=>
 aF (N c 0) acJ (
 b .eql M (D 4) λd=>
 Q d a) (
 Q aT a) (
 False)
def Bl(Φ:ad)(M:I)(Q:aa):g:=λfZ a=>
 aF (N fZ 0) acJ (
 b .eql M (D 4) λc=>
 Q c a) (
 Q aT a) (
 False)
def Iq(Φ:ad)(M:I)(Q:aa):g:=λc H2=>
 b .eql M J λa=>
 Q a H2
def xy(a0 M:I)(Q:aa):g:=λc a=>
 W (N c 0) acI (
 b .geq M (D 1) λd=>
 aF d acI (
 b .leq M (D 4) λe=>
 Q e a) (
 Q P a) (
 False)) (
 b .eql a0 (D 7) λf=>
 W f acI (
 b .geq M (D 2) λh=>
 aF h acI (
 b .leq M (D 4) λi=>
 Q i a) (
 Q P a) (
 False)) (
 G (Iq Φ M Q) [] a))
def Bm(a0 M:I)(Q:aa):g:=λe a=>
 W (N e 0) acI (
 b .eql M (D 1) λf=>
 aF f acJ (
 b .eql M (D 2) λh=>
 G (Bl Φ M Q) [h] a) (
 G (Bl Φ M Q) [aT] a) (
 False)) (
 b .eql a0 (D 16) λc=>
 W c acI (
 G (xy Φ a0 M Q) [c] a) (
 b .eql a0 (D 17) λd=>
 W d acI (
 G (xy Φ a0 M Q) [d] a) (
 b .eql a0 (D 18) λi=>
 G (xy Φ a0 M Q) [i] a)))
def Bn(a0 M:I)(Q:aa):g:=λd a=>
 W (N d 0) acI (
 b .eql M (D 1) λe=>
 aF e acJ (
 b .eql M (D 3) λf=>
 G (Bj Φ M Q) [f] a) (
 G (Bj Φ M Q) [aT] a) (
 False)) (
 b .eql a0 (D 5) λc=>
 W c acI (
 G (Bm Φ a0 M Q) [c] a) (
 b .eql a0 (D 15) λh=>
 G (Bm Φ a0 M Q) [h] a))
def f140(a0 M:I)(H:Z)(Q:aa):Prop:=
 b .eql a0 (D 4) λa=>
 W a acI (
 G (Bn Φ a0 M Q) [a] H) (
 b .eql a0 (D 6) λc=>
 G (Bn Φ a0 M Q) [c] H)
def Ir:aU:=bf C ⟨140,[],[],acL,[],[]⟩
def f141(a0 M:I)(H:Z)(Q:aa):Prop:=
 de 1 a0 H λa=>
Φ 136 [a,M] H λb c=>
 Q b c
def Is:aU:=bf C ⟨141,[],[],acL,[],[]⟩
def It(Φ:ad)(a:ST)(c:LT)(Q:aa):g:=λf d=>
 b .add (N a.1 0) (D 1) λe=>
 c ([e],d)
def xz(a0 e f g:I)(h:ST)(i:LT)(Q:aa):BT:=λa k=>
 b .lss (N a.1 0) g λl=>
 W l acI (
 Do (aL acL 8 f (N a.1 0)) λm=>
 j a.2 8 m λn=>
 bJ a.2 [J,cY 0,.str [],J,J,.str [],A,A] λc o=>
 aO o 8 c n λd=>
 j d 8 c λp=>
 b .add e (D 1) λq=>
Φ 192 [a0,p,q] d λt r=>
 b .add (N a.1 0) (D 1) λs=>
 k ([s],r)) (
 G (It Φ h i Q) [] a.2)
def rN(a0 g h i:I)(Q:aa):BT:=λa k=>
 b .lss (N a.1 0) i λl=>
 W l acI (
 Do (aL acL 2 h (N a.1 0)) λm=>
 j a.2 2 m λn=>
 bJ a.2 [.str [],A] λc o=>
 aO o 2 c n λe=>
 d 1 c e λf=>
 bB f λp=>
 ar (xz Φ a0 g f p a k Q) ([J],e)) (
 Q (.aA []) a.2)
def xA(a0 c e:I)(Q:aa):g:=λh a=>
 d 1 e a λb=>
 bB b λf=>
 ar (rN Φ a0 c b f Q) ([J],a)
def f142(a0 M n f:I)(H:Z)(Q:aa):Prop:=
 bU H 2 n λa H2=>
Φ 59 [a0] H2 λo c=>
 W o acI (
 Q (.aA []) c) (
 Do (b8 a0) λp=>
 aM 0 p λg=>
 dV c g λh=>
 j c 2 a λi=>
Φ 33 [h,i] c λk q=>
 Do (bA 0 k) λr=>
 Do (bA 1 k) λl=>
 bJ q [J,J,P,A,J,A] λm d=>
(aj d 1 acJ g=acK h) /\
(aj d 2 acI a=acK i) /\
(aO d 6 m r λs=>
 b .eql l J λt=>
Φ 138 [a0,t,l] s λC u=>
Φ 59 [a0] u λv e=>
 aF v acJ (
 j e 6 m λw=>
Φ 191 [M,w] e λx y=>
Φ 138 [a0,x,(D 8)] y λE z=>
 G (xA Φ a0 f a Q) [] z) (
Φ 138 [a0,aT,(D 8)] e λF B=>
 G (xA Φ a0 f a Q) [] B) (
 False)))
def Iu:aU:=bf C ⟨142,[8,11,13],[[42],[49]],acL,[],[]⟩
def xB(Φ:ad)(a:ST)(c:LT)(Q:aa):g:=λf d=>
 b .add (N a.1 0) (D 1) λe=>
 c ([e],d)
def rO(a0 M e f:I)(Q:aa):BT:=λs2 c=>
 b .lss (N s2.1 0) f λg=>
 W g acI (
 Do (aL acL 8 M (N s2.1 0)) λh=>
 j s2.2 8 h λi=>
 bJ s2.2 [J,cY 0,.str [],J,J,.str [],A,A] λd k=>
 aO k 8 d i λl=>
Φ 59 [a0] l λm a=>
 Do (cu .not m) λn=>
 W n acI (
 j a 8 d λo=>
 b .add e (D 1) λp=>
Φ 192 [a0,o,p] a λr q=>
 G (xB Φ s2 c Q) [] q) (
 G (xB Φ s2 c Q) [] a)) (
 Q (.aA []) s2.2)
def f143(a0 M a:I)(H:Z)(Q:aa):Prop:=
 bB M λb=>
 ar (rO Φ a0 M a b Q) ([J],H)
def Iv:aU:=bf C ⟨143,[7],[[10]],acL,[],[]⟩
def f144(a0 M:I)(H:Z)(Q:aa):Prop:=
Φ 104 [(D 1)] H λe H2=>
 bJ H2 [J,J,J,J,J,J,cY 0,J,J,J,J,J,J] λa f=>
 aO f 13 a e λg=>
Φ 98 [a0] g λh i=>
 cg 1 a i h λk=>
 cg 6 a k M λb=>
 j b 13 a λl=>
Φ 106 [a0,l] b λn c=>
 d 1 a c λm=>
 Q m c
def Iw:aU:=bf C ⟨144,[5],[],acL,[],[]⟩
def f145(a0 M e f:I)(H:Z)(Q:aa):Prop:=
Φ 104 [(D 3)] H λg H2=>
 bJ H2 [J,J,J,J,J,J,cY 0,J,J,J,J,J,J] λa h=>
 aO h 13 a g λi=>
Φ 98 [a0] i λk l=>
 cg 1 a l k λm=>
 cg 7 a m M λn=>
 cg 3 a n e λo=>
 cg 4 a o f λb=>
 j b 13 a λp=>
Φ 106 [a0,p] b λr c=>
 d 1 a c λq=>
 Q q c
def Ix:aU:=bf C ⟨145,[9],[],acL,[],[]⟩
def f146(a0 M:I)(H:Z)(Q:aa):Prop:=
 bU H 2 M λe H2=>
 j H2 2 e λn=>
Φ 150 [a0,n] H2 λo p=>
 bJ p [J,J,J,P,J,J,J,J] λa q=>
 aO q 8 a o λf=>
 j f 8 a λr=>
Φ 151 [a0,r] f λs c=>
 j c 8 a λg=>
 j c 2 e λt=>
Φ 105 [a0,(D 14),J,t] c λu h=>
(aj h 8 acI a=acK g) /\
(Φ 152 [a0,g,s,u] h λi b=>
 aM 0 a λv=>
 d 3 v b λw=>
 W w acI (
 aM 0 a λx=>
 d 4 x b λy=>
 Do (fU .u64 y) λz=>
 aM 0 a λA=>
 aM 5 A λk=>
 dV b k λl=>
Φ 153 [a0,(D 8),i,z] b λB m=>
(aj m 1 acJ k=acK l) /\
(Φ 154 [l] m λC E=>
Φ 153 [a0,(D 4),B,C] E λF G=>
 Q F G)) (
 Q i b))
def Iy:aU:=bf C ⟨146,[5],[],acL,[],[]⟩
def xC(a0 i o a:I)(Q:aa):g:=λN p=>
 j p 8 o λz=>
Φ 151 [a0,z] p λA B=>
 cg 3 a B A λc=>
 aM 0 o λC=>
 aM 0 C λE=>
 aM 1 E λk=>
 dV c k λl=>
 aM 4 i λf=>
 dV c f λh=>
 aM 0 i λq=>
 dV c q λr=>
 b .add (D 10) r λF=>
 aM 4 i λs=>
 dV c s λt=>
 aM 5 i λu=>
 j c 2 u λv=>
Φ 98 [a0] c λG e=>
(aj e 1 acJ k=acK l) /\
(aj e 1 acJ f=acK h) /\
(aj e 1 acJ q=acK r) /\
(aj e 1 acJ s=acK t) /\
(aj e 2 acI u=acK v) /\
(aM 1 a λH=>
Φ 105 [a0,F,t,v] e λJ m=>
(aj m 1 acJ k=acK l) /\
(aj m 1 acJ f=acK h) /\
(aO m 1 H G λn=>
(aj n 1 acJ k=acK l) /\
(aj n 1 acJ f=acK h) /\
(cg 8 a n l λw=>
(aj w 1 acJ f=acK h) /\
(cg 9 a w h λK=>
 cg 11 a K J λx=>
 j x 13 a λL=>
Φ 106 [a0,L] x λO y=>
 d 1 a y λM=>
 Q M y))))
def xD(a0 c f e:I)(h:List I)(Q:aa):g:=λm a=>
 d 0 c a λi=>
 b .eql i (D 8) λj=>
 W j acI (
 gi 1 (N h 0) (D 1) a λk=>
 cg 5 e a k λl=>
 G (xC Φ a0 c f e Q) [] l) (
 G (xC Φ a0 c f e Q) [] a)
def Bo(a0 a h:I)(Q:aa):g:=λf i=>
 d 0 a i λk=>
 b .sub k (D 5) λl=>
 b .add l (D 6) λm=>
Φ 104 [m] i λn o=>
 bJ o [J,J,J,J,J,J,cY 0,J,J,J,J,J,J] λc p=>
 aO p 13 c n λe=>
 d 0 a e λq=>
 b .neq q (D 5) λr=>
 W r acI (
 d 0 a e λs=>
 b .sub s (D 6) λt=>
 b .add t (D 8) λu=>
 cg 0 c e u λj=>
 gi 1 (N f 0) J j λv=>
 cg 4 c j v λw=>
 G (xD Φ a0 a h c f Q) [] w) (
 G (xD Φ a0 a h c f Q) [] e)
def xE(a0 e f g h:I)(Q:aa):BT:=λa i=>
 b .lss (N a.1 1) h λk=>
 W k acI (
 Do (aL acL 8 g (N a.1 1)) λl=>
 j a.2 8 l λm=>
 bJ a.2 [J,cY 0,.str [],J,J,.str [],A,A] λc n=>
 aO n 8 c m λd=>
 j d 8 c λo=>
Φ 97 [a0,o] d λp q=>
 bs (cI q acJ 1 1 [J] [(0,1,p)]) λr s=>
 bs (cZ s acI 1 8 (N a.1 0) r) λt u=>
 b .add (N a.1 1) (D 1) λv=>
 i ([t,v],u)) (
 G (Bo Φ a0 e f Q) [(N a.1 0)] a.2)
def f147(a0 M:I)(H:Z)(Q:aa):Prop:=
 bU H 8 M λa H2=>
 aM 5 a λf=>
 j H2 2 f λg=>
Φ 150 [a0,g] H2 λh i=>
 bJ i [J,J,J,P,J,J,J,J] λb k=>
 aO k 8 b h λc=>
 d 7 a c λe=>
 bB e λl=>
 ar (xE Φ a0 a b e l Q) ([A,J],c)
def Iz:aU:=bf C ⟨147,[5,8,9,26],[[6,17]],acL,[],[]⟩
def Bp(a0 M e:I)(Q:aa):BT:=λs2 f=>
 b .lss (N s2.1 0) e λg=>
 W g acI (
 Do (aL acL 2 a0 (N s2.1 0)) λh=>
 j s2.2 2 h λi=>
∃a c,M = .fn a c/\Φ (jw a) (jx a [i] c) s2.2 λk d=>
 W k acI (
 Q (N s2.1 0) d) (
 b .add (N s2.1 0) (D 1) λl=>
 f ([l],d))) (
 Q (D (-1)) s2.2)
def f148(a0 M:I)(H:Z)(Q:aa):Prop:=
 bB a0 λa=>
 ar (Bp Φ a0 M a Q) ([J],H)
def IA:aU:=bf C ⟨148,[],[[8]],acL,[],[]⟩
def f149(Φ:ad)(a0 M:I)(H:Z)(Q:aa):Prop:=
 bU H 2 a0 λa H2=>
 d 0 a H2 λc=>
 dV H2 M λe=>
 b .eql c e λf=>
 Q f H2
def IB:aU:=bf C ⟨149,[],[],acL,[],[]⟩
def xF(Φ:ad)(a:ST)(c:LT)(Q:aa):g:=λf d=>
 b .add (N a.1 0) (D 1) λe=>
 c ([e],d)
def xG(a b:I)(h:ST)(i:LT)(Q:aa):g:=λp j=>
 aM 0 a λk=>
 aM 0 k λl=>
 cg 1 l j b λc=>
 aM 7 a λd=>
 dV c d λe=>
Φ 195 [b,(D 16)] c λm f=>
(aj f 1 acJ d=acK e) /\
(Do (gH acJ [e,m]) λn=>
 cg 7 a f n λo=>
 G (xF Φ h i Q) [] o)
def IC(c a:I)(Q:aa):g:=λs b=>
 aM 7 a λe=>
 dV b e λf=>
 aM 0 a λl=>
 aM 0 l λm=>
 d 0 m b λn=>
Φ 195 [n,(D 16)] b λo h=>
(aj h 1 acJ e=acK f) /\
(Do (gH acJ [f,o]) λp=>
 cg 7 a h p λi=>
 j i 8 a λq=>
 aO i 8 c q λk=>
 j k 8 c λr=>
 Q r k)
def nX(a0 O c a R S:I)(Q:aa):BT:=λe m=>
 b .lss (N e.1 0) S λT=>
 W T acI (
 Do (aL acL 2 R (N e.1 0)) λU=>
 j e.2 2 U λV=>
 bJ e.2 [.str [],A] λg X=>
 aO X 2 g V λf=>
 d 1 g f λY=>
 bB Y λZ=>
 b .eql Z J λab=>
 W ab acI (
 d 3 c f λac=>
Φ 64 [ac,(.fn 194 [g])] f λs t=>
 j t 6 c λae=>
Φ 66 [ae] t λu v=>
 Do (bA 0 u) λaf=>
 Do (bA 1 u) λaW=>
 Do (aL acL 6 af s) λag=>
 j v 6 ag λah=>
 bJ v [J,J,J,P,J,J] λh ai=>
 aO ai 6 h ah λn=>
 aM 0 h λak=>
 d 0 ak n λal=>
 aM 0 a λam=>
 aM 0 am λan=>
 d 0 an n λao=>
 b .add al ao λap=>
 aM 0 h λaq=>
 cg 0 aq n ap λi=>
 j i 6 h λar=>
 aM 3 c λw=>
 dV i w λx=>
 Do (aL acL 9 x s) λau=>
 aM 1 au λy=>
 j i 6 y λz=>
 aM 0 a λav=>
 aO i 6 av ar λo=>
(aj o 1 acJ w=acK x) /\
(aj o 6 acI y=acK z) /\
(aO o 6 c z λaw=>
 G (xF Φ e m Q) [] aw)) (
 d 1 g f λax=>
 Do (aL acL 8 ax J) λay=>
 j f 8 ay λaz=>
Φ 97 [a0,az] f λB aA=>
Φ 104 [(D 17)] aA λaB aC=>
 bJ aC [J,J,J,J,J,J,cY 0,J,J,J,J,J,J] λk aD=>
 aO aD 13 k aB λC=>
 aM 4 c λE=>
 dV C E λF=>
 Do (fU .u64 F) λaE=>
 cg 3 k C B λH=>
(aj H 1 acJ E=acK F) /\
(cg 6 k H aE λK=>
 j K 13 k λaF=>
Φ 106 [a0,aF] K λaX p=>
 d 5 c p λaG=>
 Do (aL acL 6 aG J) λaH=>
 j p 6 aH λaI=>
 aO p 6 c aI λL=>
 j L 6 c λaJ=>
Φ 53 [aJ] L λq aK=>
 Do (bA 0 q) λr=>
 Do (bA 1 q) λaY=>
 Do (bA 2 q) λaZ=>
 Do (fU .u64 r) λaN=>
Φ 153 [a0,(D 3),B,aN] aK λM l=>
 d 6 a l λaP=>
 b .eql aP (D (-1)) λaQ=>
 W aQ acI (
 cg 6 a l M λaR=>
 G (xG Φ a r e m Q) [] aR) (
 d 6 a l λaS=>
Φ 145 [a0,(D 1),aS,M] l λaT aU=>
 cg 6 a aU aT λaV=>
 G (xG Φ a r e m Q) [] aV)))) (
 G (IC Φ O a Q) [] e.2)
def f150(a0 M:I)(H:Z)(Q:aa):Prop:=
 bU H 2 M λc H2=>
 bJ H2 [J,J,J,P,J,J,J,J] λl e=>
 de 0 a0 e λm=>
Φ 37 [m,(.fn 193 [c])] e λf a=>
 de 0 a0 a λn=>
 Do (aL acL 7 n f) λo=>
 aM 1 o λp=>
 j a 6 p λq=>
 bJ a [J,J,P,A,J,A] λg r=>
 aO r 6 g q λb=>
 de 1 a0 b λs=>
 Do (aL acL 3 s f) λt=>
 aM 1 t λu=>
 j b 2 u λv=>
 cK [J,J,J,P,J,J] [(0,2,v)] λw=>
 cK [J,J,J,P,J,J,J,J] [(0,6,w),(6,1,(D (-1))),(7,1,(D 16))] λx=>
 bJ b [J,J,J,P,J,J,J,J] λh y=>
 aO y 8 h x λi=>
 d 1 c i λk=>
 bB k λz=>
 ar (nX Φ a0 l g h k z Q) ([J],i)
def ID:aU:=bf C ⟨150,[4,6,7,9,13,15],[[46]],acL,[],[]⟩
def f151(a0 M:I)(H:Z)(Q:aa):Prop:=
 bU H 8 M λa H2=>
 d 6 a H2 λc=>
 b .eql c (D (-1)) λe=>
 W e acI (
 aM 0 a λf=>
 aM 0 f λg=>
 d 0 g H2 λh=>
 Do (fU .u64 h) λi=>
Φ 144 [a0,i] H2 λj k=>
 Q j k) (
 d 6 a H2 λl=>
 aM 0 a λm=>
 aM 0 m λn=>
 d 0 n H2 λo=>
 Do (fU .u64 o) λp=>
Φ 153 [a0,(D 1),l,p] H2 λq r=>
 Q q r)
def IE:aU:=bf C ⟨151,[],[],acL,[],[]⟩
def xH(Φ:ad)(a:ST)(c:LT)(Q:aa):g:=λd e=>
 b .add (N a.1 1) (D 1) λf=>
 c ([(N d 0),f],e)
def xI(a0 a2 a3 u v:I)(Q:aa):BT:=λa p=>
 b .lss (N a.1 1) v λw=>
 W w acI (
 Do (aL acL 2 u (N a.1 1)) λx=>
 j a.2 2 x λy=>
 bJ a.2 [J,J] λg z=>
 aO z 2 g y λA=>
Φ 104 [(D 4)] A λB C=>
 bJ C [J,J,J,J,J,J,cY 0,J,J,J,J,J,J] λc E=>
 aO E 13 c B λk=>
 aM 0 g λh=>
 dV k h λi=>
 Do (fU .u64 i) λF=>
 aM 1 g λe=>
 dV k e λf=>
Φ 98 [a0] k λH l=>
(aj l 1 acJ h=acK i) /\
(aj l 1 acJ e=acK f) /\
(cg 1 c l H λm=>
(aj m 1 acJ h=acK i) /\
(aj m 1 acJ e=acK f) /\
(cg 3 c m a2 λn=>
(aj n 1 acJ h=acK i) /\
(aj n 1 acJ e=acK f) /\
(cg 6 c n F λq=>
(aj q 1 acJ e=acK f) /\
(cg 8 c q f λK=>
 cg 11 c K a3 λr=>
 j r 13 c λL=>
Φ 106 [a0,L] r λV o=>
 d 1 c o λM=>
 d 0 g o λO=>
 b .mul (D 8) O λP=>
 Do (fU .u64 P) λR=>
Φ 153 [a0,(D 7),M,R] o λs t=>
 b .eql (N a.1 0) (D (-1)) λS=>
 W S acI (
 G (xH Φ a p Q) [s] t) (
Φ 145 [a0,(D 5),(N a.1 0),s] t λT U=>
 G (xH Φ a p Q) [T] U)))))) (
 Q (N a.1 0) a.2)
def f152(a0 M a2 a3:I)(H:Z)(Q:aa):Prop:=
 bU H 8 M λb H2=>
 j H2 8 b λc=>
Φ 196 [c] H2 λa d=>
 bB a λe=>
 ar (xI Φ a0 a2 a3 a e Q) ([(D (-1)),J],d)
def IF:aU:=bf C ⟨152,[11,12],[[9,17]],acL,[],[]⟩
def Bq(a0 M a2 a3:I)(Q:aa):g:=λe H2=>
Φ 144 [a0,a3] H2 λa b=>
Φ 145 [a0,M,a2,a] b λc d=>
 Q c d
def nY(a0 M a2 a3:I)(Q:aa):g:=λb a=>
 W (N b 0) acI (
 Q a2 a) (
 G (Bq Φ a0 M a2 a3 Q) [] a)
def f153(a0 M a2 a3:I)(H:Z)(Q:aa):Prop:=
 b .eql a3 (cY 0) λa=>
 aF a acI (
 b .eql M (D 1) λc=>
 aF c acJ (
 b .eql M (D 7) λd=>
 aF d acJ (
 b .eql M (D 8) λe=>
 aF e acJ (
 b .eql M (D 5) λf=>
 G (nY Φ a0 M a2 a3 Q) [f] H) (
 G (nY Φ a0 M a2 a3 Q) [aT] H) (
 False)) (
 G (nY Φ a0 M a2 a3 Q) [aT] H) (
 False)) (
 G (nY Φ a0 M a2 a3 Q) [aT] H) (
 False)) (
 G (nY Φ a0 M a2 a3 Q) [P] H) (
 False)
def IG:aU:=bf C ⟨153,[],[],acL,[],[]⟩
def f154(Φ:ad)(a0:I)(H:Z)(Q:aa):Prop:=
 b .geq a0 (D 64) λa=>
 W a acI (
 Q (cY 18446744073709551615) H) (
 b .shl (cY 1) a0 λc=>
 b .sub c (cY 1) λd=>
 Q d H)
def IH:aU:=bf C ⟨154,[],[],acL,[],[]⟩
def xJ(a0 a2 a3 a4 p q:I)(Q:aa):BT:=λc r=>
 b .lss (N c.1 0) q λs=>
 W s acI (
 Do (aL acL 2 p (N c.1 0)) λt=>
 j c.2 2 t λu=>
 bJ c.2 [J,J] λe v=>
 aO v 2 e u λw=>
Φ 104 [(D 5)] w λx y=>
 bJ y [J,J,J,J,J,J,cY 0,J,J,J,J,J,J] λa z=>
 aO z 13 a x λf=>
 aM 0 e λk=>
 dV f k λl=>
 Do (fU .u64 l) λA=>
 aM 1 e λg=>
 dV f g λh=>
 cg 3 a f a2 λi=>
(aj i 1 acJ k=acK l) /\
(aj i 1 acJ g=acK h) /\
(cg 6 a i A λm=>
(aj m 1 acJ g=acK h) /\
(cg 8 a m h λB=>
 cg 11 a B a4 λn=>
 d 0 e n λC=>
 b .mul (D 8) C λE=>
 Do (fU .u64 E) λF=>
Φ 153 [a0,(D 8),a3,F] n λG H=>
 cg 4 a H G λo=>
 j o 13 a λK=>
Φ 106 [a0,K] o λO L=>
 b .add (N c.1 0) (D 1) λM=>
 r ([M],L)))) (
 Q (.aA []) c.2)
def f155(a0 M a2 a3 a4:I)(H:Z)(Q:aa):Prop:=
 bU H 8 M λb H2=>
 j H2 8 b λc=>
Φ 196 [c] H2 λa d=>
 bB a λe=>
 ar (xJ Φ a0 a2 a3 a4 a e Q) ([J],d)
def II:aU:=bf C ⟨155,[11,12],[[16]],acL,[],[]⟩
def f156(Φ:ad)(a0:I)(H:Z)(Q:aa):Prop:=
 de 4 a0 H λc=>
 b .add c (D 1) λd=>
 fi 4 a0 H d λa=>
 de 4 a0 a λe=>
 Q e a
def IJ:aU:=bf C ⟨156,[],[],acL,[],[]⟩
def xK(a0 M a:I)(Q:aa):g:=λf c=>
 cg 10 a c M λb=>
 j b 13 a λd=>
Φ 106 [a0,d] b λh e=>
 Q (.aA []) e
def f157(a0 M a2:I)(H:Z)(Q:aa):Prop:=
Φ 104 [(D 15)] H λd H2=>
 bJ H2 [J,J,J,J,J,J,cY 0,J,J,J,J,J,J] λa e=>
 aO e 13 a d λc=>
 b .neq a2 (D (-1)) λf=>
 W f acI (
 cg 0 a c (D 16) λg=>
 cg 3 a g a2 λh=>
 G (xK Φ a0 M a Q) [] h) (
 G (xK Φ a0 M a Q) [] c)
def IK:aU:=bf C ⟨157,[6],[],acL,[],[]⟩
def f158(a0 M:I)(H:Z)(Q:aa):Prop:=
Φ 104 [(D 14)] H λc H2=>
 bJ H2 [J,J,J,J,J,J,cY 0,J,J,J,J,J,J] λa d=>
 aO d 13 a c λe=>
 cg 10 a e M λb=>
 j b 13 a λf=>
Φ 106 [a0,f] b λh g=>
 Q (.aA []) g
def IL:aU:=bf C ⟨158,[4],[],acL,[],[]⟩
def xL(Φ:ad)(Q:aa):g:=λa c=>
 b .add (N a 0) (D 1) λd=>
 Q d c
def xM(M e f:I)(Q:aa):BT:=λa g=>
 b .lss (N a.1 1) f λh=>
 W h acI (
 Do (aL acL 6 e (N a.1 1)) λi=>
 j a.2 6 i λk=>
 bJ a.2 [J,J,P,A,J,A] λc l=>
 aO l 6 c k λd=>
 j d 6 c λm=>
 b .sub M (D 1) λn=>
Φ 159 [m,n] d λo p=>
 Do (gH acI [(N a.1 0),o]) λq=>
 b .add (N a.1 1) (D 1) λr=>
 g ([q,r],p)) (
 G (xL Φ Q) [(N a.1 0)] a.2)
def Br(M c:I)(Q:aa):g:=λe a=>
 d 5 c a λb=>
 bB b λf=>
 ar (xM Φ M b f Q) ([(N e 0),J],a)
def xN(M e f g:I)(Q:aa):BT:=λa h=>
 b .lss (N a.1 1) g λi=>
 W i acI (
 Do (aL acL 9 f (N a.1 1)) λk=>
 j a.2 9 k λl=>
 bJ a.2 [.str [],J,J,P,A,J,A,P,J] λc m=>
 aO m 9 c l λd=>
 aM 1 c λn=>
 j d 6 n λo=>
 b .sub M (D 1) λp=>
Φ 159 [o,p] d λq r=>
 Do (gH acI [(N a.1 0),q]) λs=>
 b .add (N a.1 1) (D 1) λt=>
 h ([s,t],r)) (
 G (Br Φ M e Q) [(N a.1 0)] a.2)
def f159(a0 M:I)(H:Z)(Q:aa):Prop:=
 bU H 6 a0 λa H2=>
 b .gtr M (D 1) λe=>
 W e acI (
 d 3 a H2 λc=>
 bB c λf=>
 ar (xN Φ M a c f Q) ([J,J],H2)) (
 G (xL Φ Q) [J] H2)
def IM:aU:=bf C ⟨159,[7,9],[[5,15],[5,30]],acL,[],[]⟩
def rP(Φ:ad)(c e:I)(Q:aa):g:=λf a=>
 aF (N f 0) acI (
 Do (cu .not e) λh=>
 aF h acJ (
 d 5 c a λi=>
 bB i λj=>
 b .eql j (D 1) λk=>
 Q k a) (
 Q aT a) (
 False)) (
 Q P a) (
 False)
def rQ(a e:I)(Q:aa):g:=λf c=>
 aF (N f 0) acI (
 aF e acJ (
 d 4 a c λh=>
 b .eql h J λi=>
 aF i acI (
 d 5 a c λj=>
 bB j λk=>
 b .eql k J λl=>
 G (rP Φ a e Q) [l] c) (
 G (rP Φ a e Q) [P] c) (
 False)) (
 G (rP Φ a e Q) [aT] c) (
 False)) (
 G (rP Φ a e Q) [P] c) (
 False)
def xO(a e:I)(f:List I)(Q:aa):g:=λh c=>
 aF (N h 0) acI (
 aF (N f 0) acJ (
 d 2 a c λi=>
 Do (cu .not i) λj=>
 aF j acI (
 d 3 a c λk=>
 bB k λl=>
 b .eql l J λm=>
 G (rQ Φ a e Q) [m] c) (
 G (rQ Φ a e Q) [P] c) (
 False)) (
 G (rQ Φ a e Q) [aT] c) (
 False)) (
 G (rQ Φ a e Q) [P] c) (
 False)
def Bs(a e:I)(h:List I)(f:List I)(Q:aa):g:=λi c=>
 aF (N i 0) acI (
 aF (N h 0) acJ (
 d 1 a c λj=>
 b .eql j J λk=>
 G (xO Φ a e f Q) [k] c) (
 G (xO Φ a e f Q) [aT] c) (
 False)) (
 G (xO Φ a e f Q) [P] c) (
 False)
def Bt(b a:I)(c:List I)(d:List I)(Q:aa):g:=λf e=>
 aF (N f 0) acJ (
 G (Bs Φ b a c d Q) [a] e) (
 G (Bs Φ b a c d Q) [aT] e) (
 False)
def Bu(a:I)(c:List I)(Q:aa):g:=λe f=>
 d 0 a f λi=>
 b .eql i (D 5) λh=>
 aF (N c 0) acJ (
 G (Bt Φ a h c e Q) [(N e 0)] f) (
 G (Bt Φ a h c e Q) [aT] f) (
 False)
def Bv(a:I)(Q:aa):g:=λe c=>
 d 0 a c λf=>
 b .eql f (D 3) λh=>
 aF h acJ (
 d 0 a c λi=>
 b .eql i (D 4) λj=>
 G (Bu Φ a e Q) [j] c) (
 G (Bu Φ a e Q) [aT] c) (
 False)
def f160(a0:I)(H:Z)(Q:aa):Prop:=
 bU H 6 a0 λa H2=>
 d 0 a H2 λc=>
 b .eql c (D 1) λe=>
 aF e acJ (
 d 0 a H2 λf=>
 b .eql f (D 2) λg=>
 G (Bv Φ a Q) [g] H2) (
 G (Bv Φ a Q) [aT] H2) (
 False)
def IP:aU:=bf C ⟨160,[],[],acL,[],[]⟩
def Bw(Φ:ad)(a0:I)(Q:aa):g:=λa H2=>
 aF (N a 0) acI (
 b .sub a0 (D 1) λc=>
 b .and a0 c λd=>
 b .eql d J λe=>
 Q e H2) (
 Q P H2) (
 False)
def f161(a0 M:I)(H:Z)(Q:aa):Prop:=
 b .geq a0 (D 1) λa=>
 aF a acI (
 b .leq a0 M λc=>
 G (Bw Φ a0 Q) [c] H) (
 G (Bw Φ a0 Q) [P] H) (
 False)
def IQ:aU:=bf C ⟨161,[],[],acL,[],[]⟩
def xP(e f:I)(Q:aa):BT:=λa g=>
 b .lss (N a.1 0) f λh=>
 W h acI (
 j a.2 6 e λi=>
Φ 197 [i,(N a.1 0)] a.2 λc d=>
 b .neq c J λk=>
 W k acI (
 Q c d) (
 b .add (N a.1 0) (D 1) λl=>
 g ([l],d))) (
 Q J a.2)
def IU(a:I)(Q:aa):g:=λf b=>
 d 3 a b λc=>
 bB c λe=>
 ar (xP Φ a e Q) ([J],b)
def xQ(b:I)(Q:aa):g:=λc a=>
 W (N c 0) acI (
 Q (D 12) a) (
 G (IU Φ b Q) [] a)
def f162(a0:I)(H:Z)(Q:aa):Prop:=
 bU H 6 a0 λa H2=>
 d 3 a H2 λc=>
 bB c λe=>
 b .lss e (D 1) λf=>
 aF f acJ (
 d 3 a H2 λg=>
 bB g λh=>
 b .gtr h (D 32) λi=>
 G (xQ Φ a Q) [i] H2) (
 G (xQ Φ a Q) [aT] H2) (
 False)
def IV:aU:=bf C ⟨162,[],[[18]],acL,[],[]⟩
def xR(Φ:ad)(a2 b:I)(Q:aa):g:=λc a=>
 W (N c 0) acI (
 Q (D 1) a) (
 d 7 b a λe=>
 W e acI (
 aM 1 b λf=>
 d 1 f a λh=>
 Q h a) (
 Q a2 a))
def f163(a0 M a2:I)(H:Z)(Q:aa):Prop:=
 bU H 6 a0 λe H2=>
 bU H2 9 M λc a=>
 d 2 e a λf=>
 aF f acJ (
 d 7 c a λg=>
 aF g acI (
 d 8 c a λh=>
 b .eql h J λi=>
 G (xR Φ a2 c Q) [i] a) (
 G (xR Φ a2 c Q) [P] a) (
 False)) (
 G (xR Φ a2 c Q) [aT] a) (
 False)
def IW:aU:=bf C ⟨163,[],[],acL,[],[]⟩
def xS(Φ:ad)(a0 c:I)(Q:aa):g:=λE a=>
 de 3 a0 a λh=>
 b .quo h (D 8) λf=>
 de 3 a0 a λi=>
 d 8 c a λj=>
 b .add i j λk=>
 b .sub k (D 1) λl=>
 b .quo l (D 8) λm=>
 de 2 a0 a λn=>
 b .sub m f λo=>
 b .add o (D 1) λp=>
 cK [J,J] [(0,1,f),(1,1,p)] λq=>
 de 3 a0 a λr=>
 b .rem r (D 8) λs=>
 d 8 c a λt=>
 cK [J,J,J,P,J,J] [(0,2,q),(2,1,(D 1)),(3,1,aT),(4,1,s),(5,1,t)] λu=>
 bs (cI a acJ 6 1 [J,J,J,P,J,J] [(0,6,u)]) λv w=>
 bs (cZ w acJ 6 48 n v) λx y=>
 fi 2 a0 y x λe=>
 de 3 a0 e λz=>
 d 8 c e λA=>
 b .add z A λB=>
 fi 3 a0 e B λC=>
 Q (.aA []) C
def f164(a0 M:I)(H:Z)(Q:aa):Prop:=
 bU H 9 M λa H2=>
 aM 1 a λf=>
 d 1 f H2 λg=>
 b .mul (D 8) g λc=>
 d 8 a H2 λh=>
 b .eql h J λi=>
 W i acI (
 de 3 a0 H2 λj=>
Φ 165 [j,c] H2 λk l=>
 fi 3 a0 l k λe=>
 de 2 a0 e λm=>
 de 3 a0 e λn=>
 b .quo n (D 8) λo=>
 cK [J,J] [(0,1,o)] λp=>
 de 3 a0 e λq=>
 b .rem q (D 8) λr=>
 cK [J,J,J,P,J,J] [(0,2,p),(2,1,(D 1)),(3,1,aT),(4,1,r)] λs=>
 bs (cI e acJ 6 1 [J,J,J,P,J,J] [(0,6,s)]) λt u=>
 bs (cZ u acJ 6 48 m t) λv w=>
 fi 2 a0 w v λx=>
 Q (.aA []) x) (
 de 3 a0 H2 λy=>
 b .quo y c λz=>
 de 3 a0 H2 λA=>
 d 8 a H2 λB=>
 b .add A B λC=>
 b .sub C (D 1) λE=>
 b .quo E c λF=>
 b .neq z F λK=>
 W K acI (
 de 3 a0 H2 λL=>
Φ 165 [L,c] H2 λN O=>
 fi 3 a0 O N λR=>
 G (xS Φ a0 a Q) [] R) (
 G (xS Φ a0 a Q) [] H2))
def IX:aU:=bf C ⟨164,[],[],acL,[],[]⟩
def f165(Φ:ad)(a0 M:I)(H:Z)(Q:aa):Prop:=
 b .add a0 M λa=>
 b .sub a (D 1) λc=>
 b .quo c M λd=>
 b .mul d M λe=>
 Q e H
def IY:aU:=bf C ⟨165,[],[],acL,[],[]⟩
def f174(a0:I)(H:Z)(Q:aa):Prop:=
 bU H 9 a0 λa H2=>
 aM 1 a λb=>
 j H2 6 b λc=>
Φ 127 [c] H2 λd e=>
 Q d e
def IZ:aU:=bf C ⟨174,[],[],acL,[],[]⟩
def Qt(a0 M e:I)(Q:aa):BT:=λs2 f=>
 b .lss (N s2.1 0) e λg=>
 W g acI (
 Do (aL acL 6 a0 (N s2.1 0)) λh=>
 j s2.2 6 h λi=>
∃a c,M = .fn a c/\Φ (jw a) (jx a [i] c) s2.2 λk d=>
 W k acI (
 Q (N s2.1 0) d) (
 b .add (N s2.1 0) (D 1) λl=>
 f ([l],d))) (
 Q (D (-1)) s2.2)
def f175(a0 M:I)(H:Z)(Q:aa):Prop:=
 bB a0 λa=>
 ar (Qt Φ a0 M a Q) ([J],H)
def I0:aU:=bf C ⟨175,[],[[8]],acL,[],[]⟩
def xT(Φ:ad)(a0 M a:I)(Q:aa):BT:=λs2 c=>
 b .lss (N s2.1 0) a λd=>
 W d acI (
 gi 1 a0 (N s2.1 0) s2.2 λe=>
 b .eql M e λf=>
 W f acI (
 Q (N s2.1 0) s2.2) (
 b .add (N s2.1 0) (D 1) λg=>
 c ([g],s2.2))) (
 Q (D (-1)) s2.2)
def f186(a0 M:I)(H:Z)(Q:aa):Prop:=
 bB a0 λa=>
 ar (xT Φ a0 M a Q) ([J],H)
def I1:aU:=bf C ⟨186,[],[[8]],acL,[],[]⟩
def I2(Φ:ad)(a:I)(Q:aa):g:=λf c=>
 cK [P,P,P,J,P,P] [] λd=>
 aO c 6 a d λb=>
 j b 6 a λe=>
 Q (.aA [e,P]) b
def Bz(a0 a:I)(Q:aa):g:=λm c=>
 W (N m 0) acI (
 cK [P,P,P,J,P,P] [(2,1,aT),(3,1,(D 1))] λn=>
 aO c 6 a n λd=>
 j d 6 a λo=>
 Q (.aA [o,aT]) d) (
 b .eql a0 (D 5) λp=>
 W p acI (
 cK [P,P,P,J,P,P] [(0,1,aT),(1,1,aT),(2,1,aT)] λq=>
 aO c 6 a q λe=>
 j e 6 a λr=>
 Q (.aA [r,aT]) e) (
 b .eql a0 (D 6) λs=>
 W s acI (
 cK [P,P,P,J,P,P] [(2,1,aT),(3,1,(D 2))] λt=>
 aO c 6 a t λf=>
 j f 6 a λu=>
 Q (.aA [u,aT]) f) (
 b .eql a0 (D 7) λv=>
 W v acI (
 cK [P,P,P,J,P,P] [] λw=>
 aO c 6 a w λh=>
 j h 6 a λx=>
 Q (.aA [x,aT]) h) (
 b .eql a0 (D 8) λy=>
 W y acI (
 cK [P,P,P,J,P,P] [(3,1,(D 1)),(4,1,aT),(5,1,aT)] λz=>
 aO c 6 a z λi=>
 j i 6 a λA=>
 Q (.aA [A,aT]) i) (
 b .eql a0 (D 9) λB=>
 W B acI (
 cK [P,P,P,J,P,P] [(3,1,(D 1)),(4,1,aT)] λC=>
 aO c 6 a C λk=>
 j k 6 a λE=>
 Q (.aA [E,aT]) k) (
 b .eql a0 (D 10) λF=>
 W F acI (
 cK [P,P,P,J,P,P] [(3,1,(D 1))] λH=>
 aO c 6 a H λl=>
 j l 6 a λK=>
 Q (.aA [K,aT]) l) (
 G (I2 Φ a Q) [] c)))))))
def BA(a0 a:I)(Q:aa):g:=λf c=>
 W (N f 0) acI (
 cK [P,P,P,J,P,P] [(0,1,aT),(3,1,(D 1))] λh=>
 aO c 6 a h λd=>
 j d 6 a λi=>
 Q (.aA [i,aT]) d) (
 b .eql a0 (D 3) λe=>
 W e acI (
 G (Bz Φ a0 a Q) [e] c) (
 b .eql a0 (D 4) λk=>
 G (Bz Φ a0 a Q) [k] c))
def f189(a0:I)(H:Z)(Q:aa):Prop:=
 bJ H [P,P,P,J,P,P] λa H2=>
 b .eql a0 (D 1) λc=>
 W c acI (
 G (BA Φ a0 a Q) [c] H2) (
 b .eql a0 (D 2) λd=>
 G (BA Φ a0 a Q) [d] H2)
def I3:aU:=bf C ⟨189,[2],[],acL,[],[]⟩
def f190(Φ:ad)(a0:I)(H:Z)(Q:aa):Prop:=
 bU H 2 a0 λa H2=>
 d 0 a H2 λc=>
 b .eql c (.str []) λe=>
 aF e acI (
 d 1 a H2 λf=>
 bB f λg=>
 b .eql g J λh=>
 Q h H2) (
 Q P H2) (
 False)
def I4:aU:=bf C ⟨190,[],[],acL,[],[]⟩
def I5(Φ:ad)(c:I)(Q:aa):g:=λj a=>
 d 0 c a λe=>
 b .eql e (D 2) λf=>
 aF f acI (
 d 1 c a λh=>
 b .leq h (D 8) λi=>
 Q i a) (
 Q P a) (
 False)
def BB(c:I)(Q:aa):g:=λe a=>
 W (N e 0) acI (
 d 0 c a λf=>
 b .eql f (D 2) λh=>
 aF h acI (
 d 1 c a λi=>
 b .eql i (D 16) λj=>
 Q j a) (
 Q P a) (
 False)) (
 G (I5 Φ c Q) [] a)
def BC(a0 c:I)(Q:aa):g:=λf a=>
 W (N f 0) acI (
 d 0 c a λh=>
 b .eql h (D 1) λi=>
 Q i a) (
 b .eql a0 (D 5) λe=>
 W e acI (
 G (BB Φ c Q) [e] a) (
 b .eql a0 (D 6) λj=>
 G (BB Φ c Q) [j] a))
def f191(a0 M:I)(H:Z)(Q:aa):Prop:=
 bU H 6 M λa H2=>
 b .eql a0 (D 3) λc=>
 W c acI (
 G (BC Φ a0 a Q) [c] H2) (
 b .eql a0 (D 14) λd=>
 G (BC Φ a0 a Q) [d] H2)
def I6:aU:=bf C ⟨191,[],[],acL,[],[]⟩
def xU(a0 a2 b:I)(Q:aa):g:=λf a=>
 d 7 b a λc=>
Φ 143 [a0,c,a2] a λh e=>
 Q (.aA []) e
def xV(a0 a2 a:I)(Q:aa):g:=λn c=>
 d 0 a c λe=>
 b .geq e (D 4) λf=>
 W f acI (
 d 0 a c λh=>
 b .add (D 10) h λi=>
 aM 5 a λk=>
 j c 2 k λl=>
Φ 142 [a0,i,l,a2] c λo m=>
 G (xU Φ a0 a2 a Q) [] m) (
 G (xU Φ a0 a2 a Q) [] c)
def f192(a0 M a2:I)(H:Z)(Q:aa):Prop:=
 bU H 8 M λa H2=>
 b .leq a2 (D 64) λg=>
Φ 138 [a0,g,(D 5)] H2 λy f=>
 j f 8 a λh=>
Φ 213 [h] f λi k=>
Φ 138 [a0,i,(D 4)] k λz e=>
 d 0 a e λl=>
 b .add (D 10) l λm=>
 d 4 a e λn=>
Φ 140 [m,n] e λo p=>
Φ 138 [a0,o,(D 11)] p λA q=>
Φ 59 [a0] q λr c=>
 W r acI (
 Q (.aA []) c) (
 d 0 a c λs=>
 b .eql s (D 2) λt=>
 W t acI (
 d 2 a c λu=>
Φ 141 [a0,u] c λv w=>
Φ 138 [a0,v,(D 6)] w λB x=>
 G (xV Φ a0 a2 a Q) [] x) (
 G (xV Φ a0 a2 a Q) [] c))
def I7:aU:=bf C ⟨192,[],[],acL,[],[]⟩
def f193(Φ:ad)(a0 M:I)(H:Z)(Q:aa):Prop:=
 bU H 7 a0 λa H2=>
 d 0 a H2 λc=>
 d 0 M H2 λe=>
 b .eql c e λf=>
 Q f H2
def I8:aU:=bf C ⟨193,[],[],acL,[],[]⟩
def f194(Φ:ad)(a0 M:I)(H:Z)(Q:aa):Prop:=
 bU H 9 a0 λa H2=>
 d 0 a H2 λc=>
 d 0 M H2 λe=>
 b .eql c e λf=>
 Q f H2
def I9:aU:=bf C ⟨194,[],[],acL,[],[]⟩
def I_(Φ:ad)(a:ST)(c:LT)(Q:aa):g:=λf d=>
 b .quo (N a.1 0) (D 2) λe=>
 c ([e],d)
def xW(a:ST)(c:LT)(Q:aa):g:=λd b=>
 W (N d 0) acI (
 G (I_ Φ a c Q) [] b) (
 Q (N a.1 0) b)
def xX(a0:I)(Q:aa):BT:=λs1 a=>
 b .gtr (N s1.1 0) (D 1) λc=>
 aF c acI (
 b .rem a0 (N s1.1 0) λd=>
 b .neq d J λe=>
 G (xW Φ s1 a Q) [e] s1.2) (
 G (xW Φ s1 a Q) [P] s1.2) (
 False)
def f195(a0 M:I)(H:Z)(Q:aa):Prop:=
 ar (xX Φ a0 Q) ([M],H)
def Ja:aU:=bf C ⟨195,[],[[1]],acL,[],[]⟩
def xY(Φ:ad)(f g h:I)(Q:aa):BT:=λa i=>
 b .lss (N a.1 1) h λk=>
 W k acI (
 Do (aL acL 2 g (N a.1 1)) λl=>
 j a.2 2 l λm=>
 bJ a.2 [J,J] λe n=>
 aO n 2 e m λc=>
 d 0 e c λo=>
 aM 0 f λp=>
 aM 0 p λq=>
 d 0 q c λr=>
 b .sub o r λs=>
 d 1 e c λt=>
 cK [J,J] [(0,1,s),(1,1,t)] λu=>
 bs (cI c acJ 2 1 [J,J] [(0,2,u)]) λv w=>
 bs (cZ w acJ 2 16 (N a.1 0) v) λx y=>
 b .add (N a.1 1) (D 1) λz=>
 i ([x,z],y)) (
 Q (N a.1 0) a.2)
def Jb(Φ:ad)(a:ST)(d:LT)(Q:aa):g:=λc e=>
 cK [J,J] [(0,1,(N a.1 1)),(1,1,(N c 0))] λf=>
 bs (cI e acJ 2 1 [J,J] [(0,2,f)]) λh i=>
 bs (cZ i acJ 2 16 (N a.1 0) h) λj k=>
 b .add (N a.1 1) (N c 0) λl=>
 d ([j,l],k)
def BE(e:I)(c:ST)(f:LT)(Q:aa):BT:=λa g=>
 aM 0 e λh=>
 aM 0 h λi=>
 d 1 i a.2 λj=>
 b .sub j (N c.1 1) λk=>
 b .gtr (N a.1 0) k λl=>
 W l acI (
 b .quo (N a.1 0) (D 2) λm=>
 g ([m],a.2)) (
 G (Jb Φ c f Q) [(N a.1 0)] a.2)
def xZ(c:I)(Q:aa):BT:=λa e=>
 aM 0 c λf=>
 aM 0 f λg=>
 d 1 g a.2 λh=>
 b .lss (N a.1 1) h λi=>
 W i acI (
 d 7 c a.2 λj=>
 Do (gH acJ [j,(D 8)]) λk=>
Φ 195 [(N a.1 1),k] a.2 λl m=>
 ar (BE Φ c a e Q) ([l],m)) (
 Q (N a.1 0) a.2)
def f196(a0:I)(H:Z)(Q:aa):Prop:=
 bU H 8 a0 λa H2=>
 d 6 a H2 λe=>
 b .eql e (D (-1)) λf=>
 W f acI (
 aM 0 a λg=>
 aM 0 g λh=>
 j H2 2 h λi=>
Φ 214 [i] H2 λc k=>
 bB c λl=>
 ar (xY Φ a c l Q) ([A,J],k)) (
 ar (xZ Φ a Q) ([A,J],H2))
def Jc:aU:=bf C ⟨196,[5],[[3,16],[3,6],[7]],acL,[],[]⟩
def nZ(Φ:ad)(Q:aa):g:=λb a=>
 W (N b 0) acI (
 Q (D 9) a) (
 Q J a)
def pP(c:I)(Q:aa):g:=λe a=>
 W (N e 0) acI (
 Q (D 8) a) (
 d 7 c a λf=>
 aF f acI (
 d 8 c a λh=>
 b .lss h J λi=>
 aF i acJ (
 d 8 c a λj=>
 aM 1 c λk=>
 d 1 k a λl=>
 b .mul (D 8) l λm=>
 b .gtr j m λn=>
 aF n acJ (
 d 8 c a λo=>
 b .eql o J λp=>
 aF p acI (
 d 0 c a λq=>
 b .neq q (.str []) λr=>
 G (nZ Φ Q) [r] a) (
 G (nZ Φ Q) [P] a) (
 False)) (
 G (nZ Φ Q) [aT] a) (
 False)) (
 G (nZ Φ Q) [aT] a) (
 False)) (
 G (nZ Φ Q) [P] a) (
 False))
def x0(e c:I)(Q:aa):g:=λf a=>
 aF (N f 0) acJ (
 d 7 c a λh=>
 aF h acI (
 aM 1 c λi=>
 d 0 i a λj=>
 b .neq j (D 1) λk=>
 aF k acJ (
 d 2 e a λl=>
 G (pP Φ c Q) [l] a) (
 G (pP Φ c Q) [aT] a) (
 False)) (
 G (pP Φ c Q) [P] a) (
 False)) (
 G (pP Φ c Q) [aT] a) (
 False)
def BF(e a:I)(Q:aa):g:=λq f=>
 aM 1 a λi=>
 j f 6 i λk=>
Φ 110 [k] f λh c=>
 b .neq h J λl=>
 W l acI (
 Q h c) (
 d 7 a c λm=>
 Do (cu .not m) λn=>
 aF n acI (
 d 8 a c λo=>
 b .neq o J λp=>
 G (x0 Φ e a Q) [p] c) (
 G (x0 Φ e a Q) [P] c) (
 False))
def x1(b c:I)(Q:aa):g:=λd a=>
 W (N d 0) acI (
 Q (D 7) a) (
 G (BF Φ b c Q) [] a)
def rR(M e c:I)(Q:aa):g:=λf a=>
 W (N f 0) acI (
 Q (D 6) a) (
 d 0 c a λh=>
 b .neq h (.str []) λi=>
 aF i acI (
 d 3 e a λj=>
 Do (eC 9 j acL (acK M) acL) λk=>
Φ 129 [k,(.fn 215 [c])] a λl m=>
 G (x1 Φ e c Q) [l] m) (
 G (x1 Φ e c Q) [P] a) (
 False))
def f197(a0 M:I)(H:Z)(Q:aa):Prop:=
 bU H 6 a0 λe H2=>
 d 3 e H2 λg=>
 Do (aL acL 9 g M) λh=>
 j H2 9 h λi=>
 bJ H2 [.str [],J,J,P,A,J,A,P,J] λa k=>
 aO k 9 a i λf=>
 d 0 a f λl=>
Φ 92 [l] f λm c=>
 Do (cu .not m) λn=>
 aF n acI (
 d 0 a c λo=>
 b .neq o (.str []) λp=>
 aF p acJ (
 d 7 a c λq=>
 Do (cu .not q) λr=>
 G (rR Φ M e a Q) [r] c) (
 G (rR Φ M e a Q) [aT] c) (
 False)) (
 G (rR Φ M e a Q) [P] c) (
 False)
def Jd:aU:=bf C ⟨197,[5],[],acL,[],[]⟩
def rS(Φ:ad)(c:I)(e:List I)(Q:aa):g:=λf a=>
 aF (N f 0) acI (
 d 7 c a λh=>
 bB h λi=>
 b .eql i (N e 0) λj=>
 Q j a) (
 Q P a) (
 False)
def lO(a:I)(b:List I)(Q:aa):g:=λd c=>
 aF (N d 0) acI (
 aF (N b 1) acJ (
 aM 5 a λe=>
 j c 2 e λf=>
Φ 190 [f] c λh i=>
 G (rS Φ a b Q) [h] i) (
 G (rS Φ a b Q) [aT] c) (
 False)) (
 G (rS Φ a b Q) [P] c) (
 False)
def rT(a f:I)(e:List I)(Q:aa):g:=λh c=>
 aF (N h 0) acI (
 aF f acI (
 d 3 a c λi=>
 b .geq i (D 1) λj=>
 aF j acI (
 d 3 a c λk=>
 b .leq k (D 11) λl=>
 aF l acJ (
 Do (cu .not f) λm=>
 aF m acI (
 d 3 a c λn=>
 b .eql n J λo=>
 G (lO Φ a e Q) [o] c) (
 G (lO Φ a e Q) [P] c) (
 False)) (
 G (lO Φ a e Q) [aT] c) (
 False)) (
 Do (cu .not f) λp=>
 aF p acI (
 d 3 a c λq=>
 b .eql q J λr=>
 G (lO Φ a e Q) [r] c) (
 G (lO Φ a e Q) [P] c) (
 False)) (
 False)) (
 Do (cu .not f) λs=>
 aF s acI (
 d 3 a c λt=>
 b .eql t J λu=>
 G (lO Φ a e Q) [u] c) (
 G (lO Φ a e Q) [P] c) (
 False)) (
 False)) (
 G (lO Φ a e Q) [P] c) (
 False)
def x2(a e:I)(f:List I)(Q:aa):g:=λh c=>
 aF (N h 0) acI (
 d 0 a c λi=>
 b .eql i (D 2) λj=>
 aF j acJ (
 d 2 a c λk=>
 b .eql k (.str []) λl=>
 G (rT Φ a e f Q) [l] c) (
 G (rT Φ a e f Q) [aT] c) (
 False)) (
 G (rT Φ a e f Q) [P] c) (
 False)
def mY(a:I)(Q:aa):g:=λe c=>
 d 0 a c λh=>
 b .eql h (D 3) λf=>
 d 0 a c λi=>
 b .eql i (D 1) λj=>
 aF j acJ (
 d 1 a c λk=>
 b .eql k (cY 0) λl=>
 G (x2 Φ a f e Q) [l] c) (
 G (x2 Φ a f e Q) [aT] c) (
 False)
def BG(c d:I)(Q:aa):g:=λe a=>
 W (N e 0) acI (
 G (mY Φ c Q) [(D 1),aT] a) (
 b .eql d (D 8) λf=>
 W f acI (
 G (mY Φ c Q) [(D 2),aT] a) (
 Q P a))
def BH(c a:I)(Q:aa):g:=λf d=>
 W (N f 0) acI (
 G (mY Φ c Q) [J,aT] d) (
 b .eql a (D 6) λe=>
 W e acI (
 G (BG Φ c a Q) [e] d) (
 b .eql a (D 7) λh=>
 G (BG Φ c a Q) [h] d))
def BI(c a:I)(Q:aa):g:=λf d=>
 W (N f 0) acI (
 G (mY Φ c Q) [J,P] d) (
 b .eql a (D 3) λh=>
 W h acI (
 G (mY Φ c Q) [(D 2),P] d) (
 b .eql a (D 4) λe=>
 W e acI (
 G (BH Φ c a Q) [e] d) (
 b .eql a (D 5) λi=>
 G (BH Φ c a Q) [i] d)))
def f213(a0:I)(H:Z)(Q:aa):Prop:=
 bU H 8 a0 λc H2=>
 d 0 c H2 λa=>
 b .eql a (D 1) λe=>
 W e acI (
 G (BI Φ c a Q) [e] H2) (
 b .eql a (D 2) λf=>
 G (BI Φ c a Q) [f] H2)
def Je:aU:=bf C ⟨213,[],[],acL,[],[]⟩
def Jf(Φ:ad)(a:ST)(c:LT)(Q:aa):g:=λf d=>
 b .quo (N a.1 0) (D 2) λe=>
 c ([e],d)
def Jg(Φ:ad)(a:I)(i:ST)(j:LT)(Q:aa):g:=λc e=>
 d 0 a e λk=>
 cK [J,J] [(0,1,k),(1,1,(N c 0))] λl=>
 bs (cI e acJ 2 1 [J,J] [(0,2,l)]) λm n=>
 bs (cZ n acJ 2 16 (N i.1 0) m) λo f=>
 d 0 a f λp=>
 b .add p (N c 0) λq=>
 cg 0 a f q λh=>
 d 1 a h λr=>
 b .sub r (N c 0) λs=>
 cg 1 a h s λt=>
 j ([o],t)
def x3(c:I)(d:ST)(e:LT)(a:ST)(f:LT)(Q:aa):g:=λh b=>
 W (N h 0) acI (
 G (Jf Φ a f Q) [] b) (
 G (Jg Φ c d e Q) [(N a.1 0)] b)
def x4(c:I)(e:ST)(f:LT)(Q:aa):BT:=λa g=>
 d 1 c a.2 λh=>
 b .gtr (N a.1 0) h λi=>
 aF i acJ (
 d 0 c a.2 λj=>
 b .rem j (N a.1 0) λk=>
 b .neq k J λl=>
 G (x3 Φ c e f a g Q) [l] a.2) (
 G (x3 Φ c e f a g Q) [aT] a.2) (
 False)
def pQ(c:I)(Q:aa):BT:=λa e=>
 d 1 c a.2 λf=>
 b .gtr f J λg=>
 W g acI (
 ar (x4 Φ c a e Q) ([(D 8)],a.2)) (
 Q (N a.1 0) a.2)
def BJ(a:I)(Q:aa):g:=λc b=>
 ar (pQ Φ a Q) ([A],b)
def x5(b:I)(Q:aa):g:=λc a=>
 W (N c 0) acI (
 Q A a) (
 G (BJ Φ b Q) [] a)
def pR(a:I)(Q:aa):g:=λe c=>
 aF (N e 0) acJ (
 d 0 a c λf=>
 d 1 a c λh=>
 b .add f h λi=>
 b .gtr i (D 1099511627776) λj=>
 G (x5 Φ a Q) [j] c) (
 G (x5 Φ a Q) [aT] c) (
 False)
def f214(a0:I)(H:Z)(Q:aa):Prop:=
 bs (b5 H acI 2 a0) λa H2=>
 j H2 2 a λe=>
Φ 113 [e] H2 λf c=>
 Do (cu .not f) λg=>
 aF g acJ (
 d 1 a c λh=>
 b .gtr h (D 64) λi=>
 G (pR Φ a Q) [i] c) (
 G (pR Φ a Q) [aT] c) (
 False)
def Jh:aU:=bf C ⟨214,[1],[[3],[4]],acL,[],[]⟩
def f215(Φ:ad)(a0 M:I)(H:Z)(Q:aa):Prop:=
 bU H 9 a0 λa H2=>
 d 0 a H2 λc=>
 d 0 M H2 λe=>
 b .eql c e λf=>
 Q f H2
def Ji:aU:=bf C ⟨215,[],[],acL,[],[]⟩
def b7:kR:=[
  (3,FD),
  (5,FJ),
  (7,FM),
  (8,FN),
  (9,FQ),
  (10,FV),
  (11,FW),
  (12,FX),
  (13,FY),
  (14,FZ),
  (15,F2),
  (16,F4),
  (17,F6),
  (18,F7),
  (19,F8),
  (20,Gb),
  (21,Gf),
  (24,Gg),
  (25,Gh),
  (26,Gk),
  (27,Gn),
  (28,Gp),
  (29,Gt),
  (30,Gu),
  (31,Gw),
  (32,Gy),
  (33,GA),
  (34,Qn),
  (35,GC),
  (36,GD),
  (37,GF),
  (38,GG),
  (39,GH),
  (40,GI),
  (41,GJ),
  (42,GK),
  (43,GM),
  (44,GN),
  (45,GO),
  (46,GP),
  (47,GQ),
  (48,GU),
  (49,GY),
  (51,Qp),
  (53,GZ),
  (54,G1),
  (55,G3),
  (56,G4),
  (57,G7),
  (58,G9),
  (59,G_),
  (60,Ha),
  (61,Hb),
  (62,Hc),
  (63,He),
  (64,Hf),
  (65,Hg),
  (66,Hi),
  (67,Hj),
  (68,Hk),
  (69,Hl),
  (70,Ho),
  (71,Hu),
  (72,Hw),
  (73,Hx),
  (74,Hy),
  (82,Qs),
  (83,Hz),
  (84,HB),
  (85,HC),
  (86,HE),
  (88,HF),
  (89,HG),
  (90,HH),
  (91,HJ),
  (92,HL),
  (93,HM),
  (94,HN),
  (95,HO),
  (96,HP),
  (97,HQ),
  (98,HR),
  (99,HS),
  (100,HT),
  (101,HU),
  (102,HV),
  (103,HW),
  (104,HX),
  (105,HY),
  (106,HZ),
  (107,H3),
  (108,H4),
  (109,H5),
  (110,H7),
  (111,H8),
  (112,Ia),
  (113,Ib),
  (114,Ic),
  (127,Ie),
  (128,Ig),
  (129,Ih),
  (130,Ii),
  (131,Ij),
  (134,Ik),
  (135,Il),
  (136,Im),
  (138,Io),
  (139,Ip),
  (140,Ir),
  (141,Is),
  (142,Iu),
  (143,Iv),
  (144,Iw),
  (145,Ix),
  (146,Iy),
  (147,Iz),
  (148,IA),
  (149,IB),
  (150,ID),
  (151,IE),
  (152,IF),
  (153,IG),
  (154,IH),
  (155,II),
  (156,IJ),
  (157,IK),
  (158,IL),
  (159,IM),
  (160,IP),
  (161,IQ),
  (162,IV),
  (163,IW),
  (164,IX),
  (165,IY),
  (174,IZ),
  (175,I0),
  (186,I1),
  (189,I3),
  (190,I4),
  (191,I6),
  (192,I7),
  (193,I8),
  (194,I9),
  (195,Ja),
  (196,Jc),
  (197,Jd),
  (213,Je),
  (214,Jh),
  (215,Ji)]
section
variable{Φ:ad}(hT:Cl Φ b7){a0 M a2 a3 a4 a5 a6 a7 a8 a9 du db:I}{H:Z}{Q:aa}
include hT
theorem Qu(h:f3 Φ a0 M a2 H Q):Φ 3 [a0,M,a2] H Q:=hT.c (f:=FD) h
theorem Qv(h:f5 Φ a0 H Q):Φ 5 [a0] H Q:=hT.c (f:=FJ) h
theorem Qw(h:f7 Φ a0 M H Q):Φ 7 [a0,M] H Q:=hT.c (f:=FM) h
theorem Qx(h:f8 Φ a0 M H Q):Φ 8 [a0,M] H Q:=hT.c (f:=FN) h
theorem Qy(h:f9 Φ a0 H Q):Φ 9 [a0] H Q:=hT.c (f:=FQ) h
theorem Qz(h:f10 Φ a0 M a2 H Q):Φ 10 [a0,M,a2] H Q:=hT.c (f:=FV) h
theorem QA(h:f11 Φ a0 M H Q):Φ 11 [a0,M] H Q:=hT.c (f:=FW) h
theorem QB(h:f12 Φ a0 H Q):Φ 12 [a0] H Q:=hT.c (f:=FX) h
theorem QC(h:f13 Φ a0 M H Q):Φ 13 [a0,M] H Q:=hT.c (f:=FY) h
theorem QD(h:f14 Φ a0 H Q):Φ 14 [a0] H Q:=hT.c (f:=FZ) h
theorem QE(h:f15 Φ a0 M a2 H Q):Φ 15 [a0,M,a2] H Q:=hT.c (f:=F2) h
theorem QF(h:f16 Φ a0 M H Q):Φ 16 [a0,M] H Q:=hT.c (f:=F4) h
theorem BK(h:f17 Φ a0 H Q):Φ 17 [a0] H Q:=hT.c (f:=F6) h
theorem QG(h:f18 Φ a0 H Q):Φ 18 [a0] H Q:=hT.c (f:=F7) h
theorem QH(h:f19 Φ a0 H Q):Φ 19 [a0] H Q:=hT.c (f:=F8) h
theorem QI(h:f20 Φ a0 H Q):Φ 20 [a0] H Q:=hT.c (f:=Gb) h
theorem QJ(h:f21 Φ a0 M a2 a3 H Q):Φ 21 [a0,M,a2,a3] H Q:=hT.c (f:=Gf) h
theorem QK(h:f24 Φ a0 M a2 H Q):Φ 24 [a0,M,a2] H Q:=hT.c (f:=Gg) h
theorem QL(h:f25 Φ a0 M a2 H Q):Φ 25 [a0,M,a2] H Q:=hT.c (f:=Gh) h
theorem QM(h:f26 Φ a0 M H Q):Φ 26 [a0,M] H Q:=hT.c (f:=Gk) h
theorem QN(h:f27 Φ a0 H Q):Φ 27 [a0] H Q:=hT.c (f:=Gn) h
theorem QO(h:f28 Φ a0 H Q):Φ 28 [a0] H Q:=hT.c (f:=Gp) h
theorem QP(h:f29 Φ a0 H Q):Φ 29 [a0] H Q:=hT.c (f:=Gt) h
theorem QQ(h:f30 Φ a0 M a2 H Q):Φ 30 [a0,M,a2] H Q:=hT.c (f:=Gu) h
theorem QR(h:f31 Φ a0 H Q):Φ 31 [a0] H Q:=hT.c (f:=Gw) h
theorem QS(h:f32 Φ a0 M H Q):Φ 32 [a0,M] H Q:=hT.c (f:=Gy) h
theorem QT(h:f33 Φ a0 M H Q):Φ 33 [a0,M] H Q:=hT.c (f:=GA) h
theorem QU(h:f35 Φ a0 H Q):Φ 35 [a0] H Q:=hT.c (f:=GC) h
theorem QV(h:f36 Φ a0 H Q):Φ 36 [a0] H Q:=hT.c (f:=GD) h
theorem x6(h:f37 Φ a0 M H Q):Φ 37 [a0,M] H Q:=hT.c (f:=GF) h
theorem QW(h:f38 Φ a0 M H Q):Φ 38 [a0,M] H Q:=hT.c (f:=GG) h
theorem QX(h:f39 Φ a0 M H Q):Φ 39 [a0,M] H Q:=hT.c (f:=GH) h
theorem QY(h:f40 Φ a0 M H Q):Φ 40 [a0,M] H Q:=hT.c (f:=GI) h
theorem QZ(h:f41 Φ H Q):Φ 41 [] H Q:=hT.c (f:=GJ) h
theorem Q0(h:f42 Φ a0 H Q):Φ 42 [a0] H Q:=hT.c (f:=GK) h
theorem Q1(h:f43 Φ a0 H Q):Φ 43 [a0] H Q:=hT.c (f:=GM) h
theorem Q2(h:f44 Φ a0 M a2 H Q):Φ 44 [a0,M,a2] H Q:=hT.c (f:=GN) h
theorem Q3(h:f45 Φ a0 H Q):Φ 45 [a0] H Q:=hT.c (f:=GO) h
theorem Q4(h:f46 Φ a0 M H Q):Φ 46 [a0,M] H Q:=hT.c (f:=GP) h
theorem Q5(h:f47 Φ a0 M H Q):Φ 47 [a0,M] H Q:=hT.c (f:=GQ) h
theorem Q6(h:f48 Φ a0 M a2 a3 a4 H Q):Φ 48 [a0,M,a2,a3,a4] H Q:=hT.c (f:=GU) h
theorem Q7(h:f49 Φ a0 M a2 a3 H Q):Φ 49 [a0,M,a2,a3] H Q:=hT.c (f:=GY) h
theorem Q8(h:f53 Φ a0 H Q):Φ 53 [a0] H Q:=hT.c (f:=GZ) h
theorem BL(h:f54 Φ a0 H Q):Φ 54 [a0] H Q:=hT.c (f:=G1) h
theorem Q9(h:f55 Φ a0 M a2 H Q):Φ 55 [a0,M,a2] H Q:=hT.c (f:=G3) h
theorem Q_(h:f56 Φ a0 H Q):Φ 56 [a0] H Q:=hT.c (f:=G4) h
theorem Ra(h:f57 Φ a0 H Q):Φ 57 [a0] H Q:=hT.c (f:=G7) h
theorem Rc(h:f58 Φ a0 M a2 H Q):Φ 58 [a0,M,a2] H Q:=hT.c (f:=G9) h
theorem n5(h:f59 Φ a0 H Q):Φ 59 [a0] H Q:=hT.c (f:=G_) h
theorem Re(h:f60 Φ a0 M H Q):Φ 60 [a0,M] H Q:=hT.c (f:=Ha) h
theorem Rf(h:f61 Φ a0 M H Q):Φ 61 [a0,M] H Q:=hT.c (f:=Hb) h
theorem Rg(h:f62 Φ a0 H Q):Φ 62 [a0] H Q:=hT.c (f:=Hc) h
theorem Rh(h:f63 Φ a0 M H Q):Φ 63 [a0,M] H Q:=hT.c (f:=He) h
theorem x7(h:f64 Φ a0 M H Q):Φ 64 [a0,M] H Q:=hT.c (f:=Hf) h
theorem Ri(h:f65 Φ a0 M H Q):Φ 65 [a0,M] H Q:=hT.c (f:=Hg) h
theorem Rj(h:f66 Φ a0 H Q):Φ 66 [a0] H Q:=hT.c (f:=Hi) h
theorem Rk(h:f67 Φ a0 H Q):Φ 67 [a0] H Q:=hT.c (f:=Hj) h
theorem Rl(h:f68 Φ a0 H Q):Φ 68 [a0] H Q:=hT.c (f:=Hk) h
theorem Rm(h:f69 Φ a0 M H Q):Φ 69 [a0,M] H Q:=hT.c (f:=Hl) h
theorem Rn(h:f70 Φ a0 M H Q):Φ 70 [a0,M] H Q:=hT.c (f:=Ho) h
theorem Ro(h:f71 Φ a0 H Q):Φ 71 [a0] H Q:=hT.c (f:=Hu) h
theorem Rp(h:f72 Φ a0 H Q):Φ 72 [a0] H Q:=hT.c (f:=Hw) h
theorem Rq(h:f73 Φ a0 H Q):Φ 73 [a0] H Q:=hT.c (f:=Hx) h
theorem Rs(h:f74 Φ a0 H Q):Φ 74 [a0] H Q:=hT.c (f:=Hy) h
theorem Rt(h:f83 Φ a0 H Q):Φ 83 [a0] H Q:=hT.c (f:=Hz) h
theorem Ru(h:f84 Φ a0 H Q):Φ 84 [a0] H Q:=hT.c (f:=HB) h
theorem Rv(h:f85 Φ a0 M H Q):Φ 85 [a0,M] H Q:=hT.c (f:=HC) h
theorem Rw(h:f86 Φ a0 M a2 H Q):Φ 86 [a0,M,a2] H Q:=hT.c (f:=HE) h
theorem Rx(h:f88 Φ a0 M H Q):Φ 88 [a0,M] H Q:=hT.c (f:=HF) h
theorem Ry(h:f89 Φ a0 H Q):Φ 89 [a0] H Q:=hT.c (f:=HG) h
theorem Rz(h:f90 Φ a0 M H Q):Φ 90 [a0,M] H Q:=hT.c (f:=HH) h
theorem Jj(h:f91 Φ a0 H Q):Φ 91 [a0] H Q:=hT.c (f:=HJ) h
theorem RA(h:f92 Φ a0 H Q):Φ 92 [a0] H Q:=hT.c (f:=HL) h
theorem RB(h:f93 Φ a0 H Q):Φ 93 [a0] H Q:=hT.c (f:=HM) h
theorem RC(h:f94 Φ a0 M H Q):Φ 94 [a0,M] H Q:=hT.c (f:=HN) h
theorem RD(h:f95 Φ a0 M H Q):Φ 95 [a0,M] H Q:=hT.c (f:=HO) h
theorem RE(h:f96 Φ a0 M a2 H Q):Φ 96 [a0,M,a2] H Q:=hT.c (f:=HP) h
theorem RF(h:f97 Φ a0 M H Q):Φ 97 [a0,M] H Q:=hT.c (f:=HQ) h
theorem RG(h:f98 Φ a0 H Q):Φ 98 [a0] H Q:=hT.c (f:=HR) h
theorem RH(h:f99 Φ a0 M a2 H Q):Φ 99 [a0,M,a2] H Q:=hT.c (f:=HS) h
theorem RJ(h:f100 Φ a0 M H Q):Φ 100 [a0,M] H Q:=hT.c (f:=HT) h
theorem RK(h:f101 Φ a0 M a2 H Q):Φ 101 [a0,M,a2] H Q:=hT.c (f:=HU) h
theorem RL(h:f102 Φ a0 M H Q):Φ 102 [a0,M] H Q:=hT.c (f:=HV) h
theorem RM(h:f103 Φ a0 M H Q):Φ 103 [a0,M] H Q:=hT.c (f:=HW) h
theorem RN(h:f104 Φ a0 H Q):Φ 104 [a0] H Q:=hT.c (f:=HX) h
theorem RO(h:f105 Φ a0 M a2 a3 H Q):Φ 105 [a0,M,a2,a3] H Q:=hT.c (f:=HY) h
theorem RP(h:f106 Φ a0 M H Q):Φ 106 [a0,M] H Q:=hT.c (f:=HZ) h
theorem RQ(h:f107 Φ a0 M H Q):Φ 107 [a0,M] H Q:=hT.c (f:=H3) h
theorem RR(h:f108 Φ a0 M H Q):Φ 108 [a0,M] H Q:=hT.c (f:=H4) h
theorem RT(h:f109 Φ a0 H Q):Φ 109 [a0] H Q:=hT.c (f:=H5) h
theorem RU(h:f110 Φ a0 H Q):Φ 110 [a0] H Q:=hT.c (f:=H7) h
theorem RV(h:f111 Φ a0 M H Q):Φ 111 [a0,M] H Q:=hT.c (f:=H8) h
theorem BM(h:f112 Φ a0 H Q):Φ 112 [a0] H Q:=hT.c (f:=Ia) h
theorem Jk(h:f113 Φ a0 H Q):Φ 113 [a0] H Q:=hT.c (f:=Ib) h
theorem Jl(h:f114 Φ a0 M H Q):Φ 114 [a0,M] H Q:=hT.c (f:=Ic) h
theorem RW(h:f127 Φ a0 H Q):Φ 127 [a0] H Q:=hT.c (f:=Ie) h
theorem RX(h:f128 Φ a0 M H Q):Φ 128 [a0,M] H Q:=hT.c (f:=Ig) h
theorem RY(h:f129 Φ a0 M H Q):Φ 129 [a0,M] H Q:=hT.c (f:=Ih) h
theorem RZ(h:f130 Φ a0 H Q):Φ 130 [a0] H Q:=hT.c (f:=Ii) h
theorem R0(h:f131 Φ a0 M H Q):Φ 131 [a0,M] H Q:=hT.c (f:=Ij) h
theorem R1(h:f134 Φ a0 H Q):Φ 134 [a0] H Q:=hT.c (f:=Ik) h
theorem Jm(h:f135 Φ a0 H Q):Φ 135 [a0] H Q:=hT.c (f:=Il) h
theorem R2(h:f136 Φ a0 M H Q):Φ 136 [a0,M] H Q:=hT.c (f:=Im) h
theorem R3(h:f138 Φ a0 M a2 H Q):Φ 138 [a0,M,a2] H Q:=hT.c (f:=Io) h
theorem R4(h:f139 Φ a0 H Q):Φ 139 [a0] H Q:=hT.c (f:=Ip) h
theorem R5(h:f140 Φ a0 M H Q):Φ 140 [a0,M] H Q:=hT.c (f:=Ir) h
theorem R6(h:f141 Φ a0 M H Q):Φ 141 [a0,M] H Q:=hT.c (f:=Is) h
theorem R7(h:f142 Φ a0 M a2 a3 H Q):Φ 142 [a0,M,a2,a3] H Q:=hT.c (f:=Iu) h
theorem R8(h:f143 Φ a0 M a2 H Q):Φ 143 [a0,M,a2] H Q:=hT.c (f:=Iv) h
theorem R9(h:f144 Φ a0 M H Q):Φ 144 [a0,M] H Q:=hT.c (f:=Iw) h
theorem R_(h:f145 Φ a0 M a2 a3 H Q):Φ 145 [a0,M,a2,a3] H Q:=hT.c (f:=Ix) h
theorem Sa(h:f146 Φ a0 M H Q):Φ 146 [a0,M] H Q:=hT.c (f:=Iy) h
theorem Sb(h:f147 Φ a0 M H Q):Φ 147 [a0,M] H Q:=hT.c (f:=Iz) h
theorem Sc(h:f148 Φ a0 M H Q):Φ 148 [a0,M] H Q:=hT.c (f:=IA) h
theorem Sd(h:f149 Φ a0 M H Q):Φ 149 [a0,M] H Q:=hT.c (f:=IB) h
theorem Se(h:f150 Φ a0 M H Q):Φ 150 [a0,M] H Q:=hT.c (f:=ID) h
theorem Sf(h:f151 Φ a0 M H Q):Φ 151 [a0,M] H Q:=hT.c (f:=IE) h
theorem Sg(h:f152 Φ a0 M a2 a3 H Q):Φ 152 [a0,M,a2,a3] H Q:=hT.c (f:=IF) h
theorem Sh(h:f153 Φ a0 M a2 a3 H Q):Φ 153 [a0,M,a2,a3] H Q:=hT.c (f:=IG) h
theorem Si(h:f154 Φ a0 H Q):Φ 154 [a0] H Q:=hT.c (f:=IH) h
theorem Sj(h:f155 Φ a0 M a2 a3 a4 H Q):Φ 155 [a0,M,a2,a3,a4] H Q:=hT.c (f:=II) h
theorem Sk(h:f156 Φ a0 H Q):Φ 156 [a0] H Q:=hT.c (f:=IJ) h
theorem Sl(h:f157 Φ a0 M a2 H Q):Φ 157 [a0,M,a2] H Q:=hT.c (f:=IK) h
theorem Sm(h:f158 Φ a0 M H Q):Φ 158 [a0,M] H Q:=hT.c (f:=IL) h
theorem Sn(h:f159 Φ a0 M H Q):Φ 159 [a0,M] H Q:=hT.c (f:=IM) h
theorem Sp(h:f160 Φ a0 H Q):Φ 160 [a0] H Q:=hT.c (f:=IP) h
theorem Jn(h:f161 Φ a0 M H Q):Φ 161 [a0,M] H Q:=hT.c (f:=IQ) h
theorem Sq(h:f162 Φ a0 H Q):Φ 162 [a0] H Q:=hT.c (f:=IV) h
theorem Sr(h:f163 Φ a0 M a2 H Q):Φ 163 [a0,M,a2] H Q:=hT.c (f:=IW) h
theorem Ss(h:f164 Φ a0 M H Q):Φ 164 [a0,M] H Q:=hT.c (f:=IX) h
theorem pS(h:f165 Φ a0 M H Q):Φ 165 [a0,M] H Q:=hT.c (f:=IY) h
theorem Su(h:f174 Φ a0 H Q):Φ 174 [a0] H Q:=hT.c (f:=IZ) h
theorem Sv(h:f175 Φ a0 M H Q):Φ 175 [a0,M] H Q:=hT.c (f:=I0) h
theorem Sw(h:f186 Φ a0 M H Q):Φ 186 [a0,M] H Q:=hT.c (f:=I1) h
theorem Sx(h:f189 Φ a0 H Q):Φ 189 [a0] H Q:=hT.c (f:=I3) h
theorem Jo(h:f190 Φ a0 H Q):Φ 190 [a0] H Q:=hT.c (f:=I4) h
theorem Sy(h:f191 Φ a0 M H Q):Φ 191 [a0,M] H Q:=hT.c (f:=I6) h
theorem Sz(h:f192 Φ a0 M a2 H Q):Φ 192 [a0,M,a2] H Q:=hT.c (f:=I7) h
theorem SA(h:f193 Φ a0 M H Q):Φ 193 [a0,M] H Q:=hT.c (f:=I8) h
theorem SB(h:f194 Φ a0 M H Q):Φ 194 [a0,M] H Q:=hT.c (f:=I9) h
theorem SC(h:f195 Φ a0 M H Q):Φ 195 [a0,M] H Q:=hT.c (f:=Ja) h
theorem SD(h:f196 Φ a0 H Q):Φ 196 [a0] H Q:=hT.c (f:=Jc) h
theorem SE(h:f197 Φ a0 M H Q):Φ 197 [a0,M] H Q:=hT.c (f:=Jd) h
theorem SF(h:f213 Φ a0 H Q):Φ 213 [a0] H Q:=hT.c (f:=Je) h
theorem SG(h:f214 Φ a0 H Q):Φ 214 [a0] H Q:=hT.c (f:=Jh) h
theorem SH(h:f215 Φ a0 M H Q):Φ 215 [a0,M] H Q:=hT.c (f:=Ji) h
end
end Rb.S
namespace Go.Proofs.YteboppjdnpoglaaGreatDoor.rb
open Rb
theorem n_:Cl (ai C) S.b7:=Cl.of (tB C) (Pw (pf _ _) (by kernel_rfl))
end Go.Proofs.YteboppjdnpoglaaGreatDoor.rb
namespace Rb
open Go Go.RowKit
variable{W w:World}{F:dE}{g:Nat}{G:aW}
def lP(W:World):Nat->Nat->Prop:=λb o=>∃V,W.cell? ⟨b,o,acL⟩=acK V
theorem SI{C:Ctx}{key:Nat}{f:FuncId}{args:List I}{Vs:Array Value}(hf:C.F key=acK f)(h:ai C key args Z.mt (λv _=>v = .bool acI))(hG:c9 C W (aW.mt (lP W)) Z.mt)
  (a:be C.F W (aW.mt (lP W)) args Vs):Calls C.P f Vs W λe W'=>e = .returned (.bool acI)/\Below W.heap.size W W':=by
 refine Calls.mono (h.2 f hf _ W Vs hG (Rel.mt λ_ _ h=>h) a) λe w' he=>?_;obtain⟨V,v,H',G',rfl,rfl,hv,_,b⟩:=he;obtain rfl:=hv.kL;exact⟨rfl,b.below⟩
theorem BN{k:IntKind}{a:List Int}(h:∀i,i<a.length->W.cell? ⟨g,i,acL⟩=acK (.int k (a.getD i 0))):VR F W (aW.mt (lP W)) (.ae (a.map (.int k))) (.pointer (acK ⟨g,0,acL⟩)):=by
 refine .ae _ g 0 (λj=> .int k (a.getD j 0)) (λj c b=>?_) λj c b=>?_
 . have hl:j<a.length:=by simpa using(aal.1 b).1
   rw[aa8];exact⟨⟨_,h j hl⟩,h j hl⟩
 . have hl:j<a.length:=by simpa using(aal.1 b).1
   have:c = .int k (a.getD j 0):=by rw[aba,abb hl]at b;simp only[aaD,aaC.injEq]at b;rw[<-b,List.getD_eq_getElem?_getD,abb hl];rfl
   rw[this];exact .int _ _
theorem be.three{c d e:I}{V b X:Value}(h:VR F w G c V)(f:VR F w G d b)(g:VR F w G e X):be F w G [c,d,e] #[V,b,X]:=⟨rfl,λj c' i hc a=>by
  rcases j with _|_|_|j
  ·simp at hc a;subst hc;subst a;exact h
  ·simp at hc a;subst hc;subst a;exact f
  ·simp at hc a;subst hc;subst a;exact g
  ·simp at hc⟩
theorem SJ(b:ByteArray):VR F w G (.str b.data.toList) (.string b):=by
 have h:(⟨b.data.toList.toArray⟩:ByteArray)=b:=by cases b;simp
 have:=VR.str (F:=F) (w:=w) (G:=G) b.data.toList;rwa [h]at this
theorem SK:EO=(Go.Lib.asciiSpaceTab.map (I.int .u8)):=by kernel_rfl
theorem BO{P:Program}{a:String}{cs:Array Value}(b:P.globalNamed a=acK g)(h:W.var? P a=acK cs):∃cs' t fr,W.heap[g]?=acK (.cells cs' t fr)/\cs'.size=cs.size:=by
 unfold World.var? at h;rw[b]at h;simp only[Option.bind_some]at h;split at h
 . rename_i cs' t fr heq;cases h;exact⟨_,_,_,heq,rfl⟩
 ·cases h
end Rb
namespace Rb
open Go Go.RowKit
variable{t:TypeId}{n m sz:Nat}{α β:Type}
mutual
def jT:I->Nat
 | .str s=>s.length+1
 | .aq _ _ cs=>dW cs+1
 |_=>1
def dW:List I->Nat
 |[]=>0
 |x::r=>jT x+dW r
end
theorem mj:∀a b:List I,dW (a++b)=dW a+dW b
 |[],b=>by simp[dW]
 |x::r,b=>by simp only[abZ,dW,mj r b,aaH]
mutual
def dB{H:Type}:DataW H->Nat
 | .lit (.string bytes)=>bytes.length+1
 | .lit _=>1
 | .nil=>1
 | .ptr d=>dB d+1
 | .slice elems spare=>lQ elems+lQ spare+1
 | .agg parts=>lQ parts+1
 | .iface _ d=>dB d+1
 | .map entries=>x8 entries+1
 | .held _=>1
def lQ{H:Type}:List (DataW H)->Nat
 |[]=>0
 |d::r=>dB d+lQ r
def x8{H:Type}:List (Lit×DataW H)->Nat
 |[]=>0
 |x::r=>Jq x+x8 r
def Jq{H:Type}:Lit×DataW H->Nat
 |(.string bytes,d)=>bytes.length+dB d+1
 |(_,d)=>dB d+1
end
theorem Jr{H:Type}{α:Type}{cells:α->List I}:∀(xs:List α)(ds:List (DataW H)),xs.length=ds.length->(∀(i:Nat)(x:α)(d:DataW H),xs[i]?=acK x->ds[i]?=acK d->dW (cells x)<=dB d)->dW (xs.flatMap cells)<=lQ ds
 |[],ds,_,_=>by simp[dW]
 |x::r,[],h,_=>by simp at h
 | x::r,d::ds,h,k=>by have b:=k 0 x d rfl rfl;have h1:=Jr r ds (by simpa using h) λi y e a he=>k (i+1) y e (by simpa using a) (by simpa using he);rw[ac0,mj,lQ];omega
section
variable{H:Type}{enc:TypeId×Value->H}{P:Program}{w:World}{sp:Nat->Bool}{held:Bool}{F:dE}
def bN(F:dE)(enc:TypeId×Value->H)(P:Program)(w:World)(sp:Nat->Bool)(held:Bool)(n:Nat)(t:TypeId){α:Type}(cells:α->List I)(a:α->Prop):Prop:=∀fuel,fuel<=n->∀cs d b,ac1 enc P w 0 sp held fuel t cs=acK (d,b)->(∀m∈d.weights P t,m<=reachBytes)->∃x,a x/\be F w (aW.mt (lP w)) (cells x) cs.toArray/\dW (cells x)<=dB d
theorem bN.mono{cells:α->List I}{ok:α->Prop}(h:bN F enc P w sp held n t cells ok)(a:m<=n):bN F enc P w sp held m t cells ok:=λfuel hf cs d b ht hw=>h fuel (sl hf a) cs d b ht hw
theorem bN.zero{cells:α->List I}{ok:α->Prop}:bN F enc P w sp held 0 t cells ok:=by
 intro fuel hf cs d a h _;obtain rfl:fuel=0:=by omega
 simp[ac1]at h
theorem bN.int{k:IntKind}(ht:P.underlying t=acK (.int k)):bN F enc P w sp held n t (λz:Int=>[.int k z]) (λz=>k.min<=z/\z<=k.max):=by intro fuel _ cs d b h _;obtain⟨z,rfl,a,hw⟩:=DataW.trod_int ht h;obtain rfl:d=_:=congrArg ac2 a;exact⟨z,by simpa[Lit.wf]using hw,be.one (.int _ _),by simp[dW,jT,dB]⟩
theorem bN.bool(ht:P.underlying t=acK .bool):bN F enc P w sp held n t (λz:Bool=>[.bool z]) (λ_=>True):=by intro fuel _ cs d b h _;obtain⟨z,rfl,a⟩:=DataW.trod_bool ht h;obtain rfl:d=_:=congrArg ac2 a;exact⟨z,trivial,be.one (.bool _),by simp[dW,jT,dB]⟩
theorem bN.string(ht:P.underlying t=acK .string):bN F enc P w sp held n t (λz:List UInt8=>[.str z]) (λz=>z.length<=140737488351232):=by intro fuel _ cs d b h hw;obtain⟨s,rfl,a,hl⟩:=DataW.trod_string ht h;obtain rfl:d=_:=congrArg ac2 a;exact⟨s.data.toList,hw _ (by simp[ac3]),be.one (SJ s),by simp[dW,jT,dB]⟩
theorem Js{H:Type}{P:Program}{e:TypeId}:∀{ds:List (DataW H)}{j:Nat}{d:DataW H},ds[j]?=acK d->∀n∈d.weights P e,n∈ac4 P e ds
 | d0::ds,0,d,a,n,hn=>by simp only[ac5,aaC.injEq]at a;subst a;simp only[ac4,acf];exact .inl hn
 | d0::ds,j+1,d,a,n,hn=>by simp only[ac6]at a;simp only[ac4,acf];exact .inr (Js a n hn)
def av{α:Type}(cells:α->List I)(xs:List α):I:= .aq .dead xs.length (xs.flatMap cells)
theorem SL{p:Nat->α->Prop}:∀(n:Nat),(∀i,i<n->∃x,p i x)->∃xs:List α,xs.length=n/\∀i x,xs[i]?=acK x->p i x:=by
 intro n;induction n with
 |zero=>intro _;exact⟨[],rfl,λi x h=>by simp at h⟩
 | succ n a=>
  intro h;obtain⟨xs,hl,b⟩:=a λi hi=>h i (by omega);obtain⟨y,c⟩:=h n (by omega);refine⟨xs++[y],by simp[hl],λi x hi=>?_⟩;by_cases d:i<n
  . rw[ab0 (by omega)]at hi;exact b i x hi
  . rw [ab1 (by omega)]at hi;have:i-xs.length=0:=by
     rcases ac7 (i-xs.length)with h|h
     ·exact h
     ·rw[List.getElem?_eq_none (by simp;omega)]at hi;cases hi
    rw[this]at hi;simp at hi;subst hi;have:i=n:=by omega
    rw[this];exact c
theorem SM{cells:α->List I}(hc:∀x,(cells x).length=sz):∀(xs:List α)(j:Nat)(c:I),(xs.flatMap cells)[j]?=acK c->∃i k x,j=i*sz+k/\k<sz/\xs[i]?=acK x/\(cells x)[k]?=acK c:=by
 intro xs;induction xs with
 |nil=>intro j c h;simp at h
 | cons y g b=>
  intro j c h;rw[ac0]at h;by_cases a:j<sz
  . rw[ab0 (by rw[hc];exact a)]at h;exact⟨0,j,y,by omega,a,rfl,h⟩
  . rw[ab1 (by rw[hc];omega),hc]at h;obtain⟨i,k,x,h1,d,e,f⟩:=b _ _ h;refine⟨i+1,k,x,?_,d,by simpa using e,f⟩;rw[aaV];omega
theorem Jt{b o m:Nat}:(Addr.mk b o acL).add m=⟨b,o+m,acL⟩:=by
 unfold ac8;split
 ·rename_i h;subst h;rfl
 ·rfl
theorem bN.slice{t e:TypeId}{cells:α->List I}{u:α->Prop}(ht:P.underlying t=acK (.slice e))(hs:P.cellsOf e=sz)(hz:0<sz)(hc:∀x,(cells x).length=sz)(h:bN F enc P w sp held n e cells u) :
  bN F enc P w sp held (n+1) t (λxs:List α=>[av cells xs]) (λxs=>xs.length<=maxLen/\∀x∈xs,u x):=by
 intro fuel hf cs d L C D;rcases DataW.trod_slice ht C with⟨rfl,s⟩|⟨a,len,cap,elems,rest,m,rfl,rfl,s,_,hle,M,N,E,_⟩
 . obtain rfl:d=_:=congrArg ac2 s;exact⟨[],⟨aaU _,by simp⟩,be.one (.gg _ _),by simp[av,dW,jT,dB]⟩
 . have each : ∀i,i<len->∃x,(u x/\∀l,(elems.map (·.1))[i]?=acK l->dW (cells x)<=dB l)/\∃ci,w.cells? 0 (a.add (i*sz)) sz=acK ci/\be F w (aW.mt (lP w)) (cells x) ci.toArray:=by
     intro i hi;have h1:=E i hi;rw[abb (by omega),hs]at h1;obtain⟨ci,g,v⟩:=Option.bind_eq_some_iff.1 h1;obtain ⟨x,p,hv,U⟩:=h m (by omega) ci _ _ v (λq G=>D q (by obtain rfl:d=_:=congrArg ac2 s;simp only[ac3,ht];refine List.mem_cons_of_mem _ (List.mem_append_left _ ?_);exact Js (j:=i) (by rw[aba,abb (by omega)];rfl) q G))
     exact ⟨x,⟨p,λl y=>by rw[aba,abb (by omega)]at y;simp only[aaD,aaC.injEq]at y;rw[<-y];exact U⟩,ci,g,hv⟩
   obtain⟨xs,hl,p⟩:=SL len each;have hB:dW [av cells xs]<=dB d:=by obtain rfl:d=_:=congrArg ac2 s;have:=Jr xs (elems.map (·.1)) (by simp;omega) λi x l h1 g=>(p i x h1).1.2 l g;simp only[av,dW,jT,dB];omega
   refine⟨xs,⟨by omega,λx H=>?_⟩,be.one ?_,hB⟩
   . obtain⟨i,hi,e⟩:=List.mem_iff_getElem.1 H;exact(p i x (by rw[abb hi,e])).1.1
   . rcases ac7 len with z|z
     . subst z;obtain rfl:=List.length_eq_zero_iff.1 hl;exact .gg _ _
     ·
       have B:a.spot=acL:=by
        obtain⟨x,_,ci,g,_⟩:=each 0 z;obtain⟨_,v,A⟩:=ac9 g;have f:=A 0 hz;rw[abb (by omega),ac_]at f;have e0:(a.add 0).add 0=a:=by simp[ac8]
        rw[e0]at f;unfold ada at f;split at f
        . split at f
          ·cases f
          . rename_i hn;cases ha:a.spot with
            |none=>rfl
            |some _=>rw[ha]at hn;simp at hn
        ·cases f
       obtain⟨b,o,O⟩:=a;simp only at B;subst B;have key:∀(j:Nat)(c:I),(xs.flatMap cells)[j]?=acK c->∃V,w.cell? ⟨b,o+j,acL⟩=acK V/\VR F w (aW.mt (lP w)) c V:=by intro j c r;obtain⟨i,k,x,rfl,hk,J,K⟩:=SM hc xs j c r;obtain⟨_,ci,g,hv⟩:=p i x J;obtain⟨_,v,A⟩:=ac9 g;have f:=A k hk;rw[Jt,Jt,abb (by omega)]at f;refine⟨ci[k],by rw[<-aaH];exact f,hv.2 k c _ K (by simp[abb (show k<ci.length by omega)])⟩
       unfold av;rw[hl];refine .aq .dead len _ b o cap (λj=>(w.cell? ⟨b,o+j,acL⟩).getD undef) trivial hle (λj c r=>?_) λj c r=>?_
       . obtain⟨V,h1,_⟩:=key j c r;exact⟨⟨V,h1⟩,by rw[h1];rfl⟩
       . obtain⟨V,h1,g⟩:=key j c r;rw[h1];exact g
def kn(P:Program):Nat->List (TypeId×Nat)->Bool
 |_,[]=>acI
 |off,(t,o)::r=>o==off&&kn P (off+P.cellsOf t) r
def jf(P:Program):List (TypeId×Nat)->Nat
 |[]=>0
 |(t,_)::r=>P.cellsOf t+jf P r
def dx(F:dE)(enc:TypeId×Value->H)(P:Program)(w:World)(sp:Nat->Bool)(held:Bool)(n:Nat)(L:List (TypeId×Nat)){α:Type}(cells:α->List I)(a:α->Prop):Prop:=
 ∀ m,m<=n->∀(off:Nat)(cs:List Value)(ds:List (DataW H)),kn P off L=acI->ds.length=L.length->(∀(i:Nat)(f:TypeId×Nat)(d:DataW H),L[i]?=acK f->ds[i]?=acK d->(∃b,ac1 enc P w 0 sp held m f.1 ((cs.drop f.2).take (P.cellsOf f.1))=acK (d,b))/\∀q∈d.weights P f.1,q<=reachBytes) ->
  ∃x,a x/\be F w (aW.mt (lP w)) (cells x) ((cs.drop off).take (jf P L)).toArray/\dW (cells x)<=lQ ds
theorem dx.nil:dx F enc P w sp held n [] (λ_:Unit=>[]) (λ_=>True):=by intro m _ off cs ds _ _ _;exact⟨(),trivial,by simp only[jf,List.take_zero];exact be.nil,aaU _⟩
theorem dx.cons{o:Nat}{L:List (TypeId×Nat)}{b:α->List I}{c:β->List I}{o1:α->Prop}{o2:β->Prop}(g:bN F enc P w sp held n t b o1)(h:dx F enc P w sp held n L c o2) :
  dx F enc P w sp held n ((t,o)::L) (λx:α×β=>b x.1++c x.2) (λx=>o1 x.1/\o2 x.2):=by
 intro m hm off cs ds a hlen hf;simp only[kn,Bool.and_eq_true,bZ]at a;obtain⟨rfl,a⟩:=a
 match ds,hlen with
 |d::r,hlen=>
 obtain⟨⟨s,j⟩,k⟩:=hf 0 (t,o) d rfl rfl;obtain⟨x,l,hv,U⟩:=g m hm _ _ _ j k;obtain⟨y,p,q,u⟩:=h m hm _ cs r a (by simpa using hlen) λi f e hi he=>hf (i+1) f e (by simpa using hi) (by simpa using he);refine⟨(x,y),⟨l,p⟩,?_,by simp only[mj,lQ];omega⟩;have e:((cs.drop o).take (jf P ((t,o)::L)))=(cs.drop o).take (P.cellsOf t)++(cs.drop (o+P.cellsOf t)).take (jf P L):=by simp only[jf];rw[List.take_add,adb]
 rw[e];have:=hv.app q;simpa using this
theorem bN.struct{n:Nat}{fs:Array Field}(ht:P.underlying t=acK (.struct fs)){L:List (TypeId×Nat)}(a:fs.toList.map (λf=>(f.type,f.offset))=L)(k:kn P 0 L=acI)(l:P.cellsOf t=jf P L)
  {α:Type} {cells:α->List I} {ok:α->Prop} (h:dx F enc P w sp held n L cells ok):bN F enc P w sp held (n+1) t cells ok:=by
 intro fuel hf cs d y o p;obtain⟨xs,m,rfl,b,hlen,r,s⟩:=DataW.trod_struct ht o;obtain ⟨x,u,hv,U⟩:=h m (by omega) 0 cs (xs.map (·.1)) k (by rw[<-a];simp[r]) λi f A hf c=>by rw[<-a,aba]at hf;obtain⟨g,e,rfl⟩:=ade.1 hf;rw[aba]at c;obtain⟨z,hz,rfl⟩:=ade.1 c;have h1:=s i g (by rw[<-Array.getElem?_toList];exact e);rw[hz]at h1;refine⟨⟨z.2,h1⟩,λq v=>p q ?_⟩;obtain rfl:d=_:=congrArg ac2 b;simp only[ac3,ht];exact DataW.weights_mem_each (j:=i) (t:=g.type) (by rw[aba,e];rfl) (by rw[aba,hz];rfl) q v
 obtain rfl:d=_:=congrArg ac2 b;refine⟨x,u,?_,by simp only[dB];omega⟩;rw[adf,<-l,<-hlen,adg]at hv;exact hv
theorem bN.map{a:α->List I}{b:β->List I}{o1:α->Prop}{o2:β->Prop}(g:α->β)(hc:∀x,b (g x)=a x)(c:∀x,o1 x->o2 (g x))(h:bN F enc P w sp held n t a o1):bN F enc P w sp held n t b o2:=by intro fuel hf cs d e f hw;obtain⟨x,i,hv,U⟩:=h fuel hf cs d e f hw;exact⟨g x,c x i,by rw[hc];exact hv,by rw[hc];exact U⟩
theorem bN.SN{cells:α->List I}{a:α->Prop}(h:∀n,bN F enc P w sp held n t cells a){v:Value}{d:DataW H}{b:List MemPlace}(c:DataW.Trod enc P w 0 sp held t v d b)(e:∀m∈d.weights P t,m<=reachBytes):∃x,a x/\be F w (aW.mt (lP w)) (cells x) v.cells/\dW (cells x)<=dB d:=by obtain⟨fuel,hf⟩:=c;obtain⟨x,f,hv,U⟩:=h fuel fuel (hb _) _ _ _ hf e;exact⟨x,f,by simpa using hv,U⟩
end
end Rb
namespace Rb
open Go
mutual
structure X where
 kind:Int
 size:Int
 packed:Bool
 Y:List aE
 bg:Int
 aK:List X
structure aE where
 V:List UInt8
 type:X
 bits:Bool
 aQ:Int
end
mutual
def X.cells:X->List I
 | .mk kind size packed Y bg aK=>[.int .i64 kind,.int .i64 size,.bool packed,.aq .dead Y.length (aE.all Y),.int .i64 bg,.aq .dead aK.length (X.all aK)]
def X.all:List X->List I
 |[]=>[]
 |x::r=>X.cells x++X.all r
def aE.cells:aE->List I
 | .mk V type bits aQ=> .str V::(X.cells type++[.bool bits,.int .i64 aQ])
def aE.all:List aE->List I
 |[]=>[]
 |x::r=>aE.cells x++aE.all r
end
theorem X.all_eq:∀xs:List X,X.all xs=xs.flatMap X.cells
 |[]=>rfl
 |x::r=>by rw[X.all,X.all_eq r,ac0]
theorem aE.all_eq:∀xs:List aE,aE.all xs=xs.flatMap aE.cells
 |[]=>rfl
 |x::r=>by rw[aE.all,aE.all_eq r,ac0]
theorem X.aX(x:X):x.cells=[.int .i64 x.kind,.int .i64 x.size,.bool x.packed,av aE.cells x.Y,.int .i64 x.bg,av X.cells x.aK]:=by cases x;simp only[X.cells,X.all_eq,aE.all_eq,av]
theorem aE.aX(x:aE):x.cells = .str x.V::(x.type.cells++[.bool x.bits,.int .i64 x.aQ]):=by cases x;rfl
theorem X.len(x:X):x.cells.length=6:=by rw[X.aX];rfl
theorem aE.len(x:aE):x.cells.length=9:=by rw[aE.aX];simp[X.len]
def jU(z:Int):Prop:= -9223372036854775808<=z/\z<=9223372036854775807
mutual
def X.ok:X->Prop
 | .mk kind size packed Y bg aK=>jU kind/\jU size/\Y.length<=maxLen/\aE.dX Y/\jU bg/\aK.length<=maxLen/\X.dX aK
def X.dX:List X->Prop
 |[]=>True
 |x::r=>X.ok x/\X.dX r
def aE.ok:aE->Prop
 | .mk V type bits aQ=>V.length<=140737488351232/\X.ok type/\jU aQ
def aE.dX:List aE->Prop
 |[]=>True
 |x::r=>aE.ok x/\aE.dX r
end
theorem X.eG:∀{xs:List X},X.dX xs↔∀x∈xs,x.ok
 |[]=>by simp[X.dX]
 |x::r=>by simp[X.dX,X.eG (xs:=r)]
theorem aE.eG:∀{xs:List aE},aE.dX xs↔∀x∈xs,x.ok
 |[]=>by simp[aE.dX]
 |x::r=>by simp[aE.dX,aE.eG (xs:=r)]
section
variable{H:Type}{enc:TypeId×Value->H}{P:Program}{w:World}{sp:Nat->Bool}{held:Bool}{F:dE}
structure Ju(P:Program)(ti tb ts tT tF sT sF:TypeId)(fT fF:Array Field):Prop where
 int:P.underlying ti=acK (.int .i64)
 bool:P.underlying tb=acK .bool
 str:P.underlying ts=acK .string
 SO:P.underlying tT=acK (.struct fT)
 SP:P.underlying tF=acK (.struct fF)
 SQ:P.underlying sT=acK (.slice tT)
 SR:P.underlying sF=acK (.slice tF)
 lT:fT.toList.map (λf=>(f.type,f.offset))=[(ti,0),(ti,1),(tb,2),(sF,3),(ti,4),(sT,5)]
 lF:fF.toList.map (λf=>(f.type,f.offset))=[(ts,0),(tT,1),(tb,7),(ti,8)]
 cT:P.cellsOf tT=6
 cF:P.cellsOf tF=9
 c1:∀t∈[ti,tb,ts,sT,sF],P.cellsOf t=1
theorem SS{ti tb ts tT tF sT sF:TypeId}{fT fF:Array Field}(h:Ju P ti tb ts tT tF sT sF fT fF):∀n,bN F enc P w sp held n tT X.cells X.ok:=by
 have c1:P.cellsOf ti=1:=h.c1 _ (by simp);have c2:P.cellsOf tb=1:=h.c1 _ (by simp);have c3:P.cellsOf ts=1:=h.c1 _ (by simp);have b:P.cellsOf sT=1:=h.c1 _ (by simp);have c5:P.cellsOf sF=1:=h.c1 _ (by simp);have int:∀n,bN F enc P w sp held n ti (λz:Int=>[.int .i64 z]) jU:=λn=>bN.map id (λ_=>rfl) (λx a=>by simp only[adh,adi,aay,aaz,bc]at a;show -9223372036854775808<=x/\x<=9223372036854775807;omega) (bN.int h.int)
 intro n;induction n using Nat.strongRecOn with
 | _ n c=>
  cases n with
  |zero=>exact bN.zero
  | succ n=>
   have d:bN F enc P w sp held n tT X.cells X.ok:=c n (by omega);have e:bN F enc P w sp held n tF aE.cells aE.ok:=by
    cases n with
    |zero=>exact bN.zero
    | succ n=>
     refine bN.map (λ(x:List UInt8×X×Bool×Int×Unit)=>(⟨x.1,x.2.1,x.2.2.1,x.2.2.2.1⟩:aE)) (λx=>?_) (λx a=>?_)
      (bN.struct h.SP h.lF (by simp[kn,c1,c2,c3,h.cT]) (by simp[jf,c1,c2,c3,h.cT,h.cF])
        (dx.cons (bN.string h.str) (dx.cons (c n (by omega)) (dx.cons (bN.bool h.bool) (dx.cons (int n) dx.nil)))))
     ·simp[aE.cells]
     ·exact⟨a.1,a.2.1,a.2.2.2.1⟩
   refine bN.map (λ(x:Int×Int×Bool×List aE×Int×List X×Unit)=>(⟨x.1,x.2.1,x.2.2.1,x.2.2.2.1,x.2.2.2.2.1,x.2.2.2.2.2.1⟩:X)) (λx=>?_) (λx a=>?_)
    (bN.struct h.SO h.lT (by simp[kn,c1,c2,b,c5]) (by simp[jf,c1,c2,b,c5,h.cT])
      (dx.cons (int n) (dx.cons (int n) (dx.cons (bN.bool h.bool) (dx.cons (bN.mono (bN.slice h.SR h.cF (by decide) aE.len e) (aa2 n)) (dx.cons (int n) (dx.cons (bN.mono (bN.slice h.SQ h.cT (by decide) X.len d) (aa2 n)) dx.nil)))))))
   ·rw[X.aX];rfl
   . obtain⟨h1,f,_,⟨g,i⟩,j,⟨k,l⟩,_⟩:=a;exact⟨h1,f,g,aE.eG.2 i,j,k,X.eG.2 l⟩
end
end Rb
namespace Rb
open Go
variable{ti:TypeId}{n:Nat}
mutual
structure E where
 kind:Int
 n:Int
 V:List UInt8
 op:Int
 a_:Int
 place:aJ
 br:List E
structure aJ where
 var:List UInt8
 ax:List aI
structure aI where
 field:List UInt8
 aS:List E
end
mutual
def E.cells:E->List I
 | .mk kind n V op a_ place br=> .int .i64 kind :: .int .u64 n :: .str V :: .int .i64 op :: .int .i64 a_::(aJ.cells place++[.aq .dead br.length (E.all br)])
def E.all:List E->List I
 |[]=>[]
 |x::r=>E.cells x++E.all r
def aJ.cells:aJ->List I
 | .mk var ax=>[.str var,.aq .dead ax.length (aI.all ax)]
def aI.cells:aI->List I
 | .mk field aS=>[.str field,.aq .dead aS.length (E.all aS)]
def aI.all:List aI->List I
 |[]=>[]
 |x::r=>aI.cells x++aI.all r
end
theorem E.all_eq:∀xs:List E,E.all xs=xs.flatMap E.cells
 |[]=>rfl
 |x::r=>by rw[E.all,E.all_eq r,ac0]
theorem aI.all_eq:∀xs:List aI,aI.all xs=xs.flatMap aI.cells
 |[]=>rfl
 |x::r=>by rw[aI.all,aI.all_eq r,ac0]
theorem aJ.aX(x:aJ):x.cells=[.str x.var,av aI.cells x.ax]:=by cases x;simp only[aJ.cells,aI.all_eq,av]
theorem aI.aX(x:aI):x.cells=[.str x.field,av E.cells x.aS]:=by cases x;simp only[aI.cells,E.all_eq,av]
theorem E.aX(x:E):x.cells = .int .i64 x.kind :: .int .u64 x.n :: .str x.V :: .int .i64 x.op :: .int .i64 x.a_::(x.place.cells++[av E.cells x.br]):=by cases x;simp only[E.cells,E.all_eq,av]
theorem aJ.len(x:aJ):x.cells.length=2:=by rw[aJ.aX];rfl
theorem aI.len(x:aI):x.cells.length=2:=by rw[aI.aX];rfl
theorem E.len(x:E):x.cells.length=8:=by rw[E.aX];simp[aJ.len]
def ml(z:Int):Prop:=0<=z/\z<=18446744073709551615
mutual
def E.ok:E->Prop
 | .mk kind n V op a_ place br=>jU kind/\ml n/\V.length<=140737488351232/\jU op/\jU a_/\aJ.ok place/\br.length<=maxLen/\E.dX br
def E.dX:List E->Prop
 |[]=>True
 |x::r=>E.ok x/\E.dX r
def aJ.ok:aJ->Prop
 | .mk var ax=>var.length<=140737488351232/\ax.length<=maxLen/\aI.dX ax
def aI.ok:aI->Prop
 | .mk field aS=>field.length<=140737488351232/\aS.length<=maxLen/\E.dX aS
def aI.dX:List aI->Prop
 |[]=>True
 |x::r=>aI.ok x/\aI.dX r
end
theorem E.eG:∀{xs:List E},E.dX xs↔∀x∈xs,x.ok
 |[]=>by simp[E.dX]
 |x::r=>by simp[E.dX,E.eG (xs:=r)]
theorem aI.eG:∀{xs:List aI},aI.dX xs↔∀x∈xs,x.ok
 |[]=>by simp[aI.dX]
 |x::r=>by simp[aI.dX,aI.eG (xs:=r)]
structure aB where
 V:List UInt8
 type:X
def aB.cells(x:aB):List I:= .str x.V::x.type.cells
theorem aB.len(x:aB):x.cells.length=7:=by simp[aB.cells,X.len]
def aB.ok(x:aB):Prop:=x.V.length<=140737488351232/\x.type.ok
section
variable{H:Type}{enc:TypeId×Value->H}{P:Program}{w:World}{sp:Nat->Bool}{held:Bool}{F:dE}
theorem bN.i64(h:P.underlying ti=acK (.int .i64)):bN F enc P w sp held n ti (λz:Int=>[.int .i64 z]) jU:=bN.map id (λ_=>rfl) (λx a=>by simp only[adh,adi,aay,aaz,bc]at a;show -9223372036854775808<=x/\x<=9223372036854775807;omega) (bN.int h)
theorem bN.u64(h:P.underlying ti=acK (.int .u64)):bN F enc P w sp held n ti (λz:Int=>[.int .u64 z]) ml:=bN.map id (λ_=>rfl) (λx a=>by simp[adh,adi,aay,aaz]at a;show 0<=x/\x<=18446744073709551615;omega) (bN.int h)
structure BP(P:Program)(ti tu ts tE tL tR sE sR:TypeId)(fE fL fR:Array Field):Prop where
 int:P.underlying ti=acK (.int .i64)
 u64:P.underlying tu=acK (.int .u64)
 str:P.underlying ts=acK .string
 exp:P.underlying tE=acK (.struct fE)
 SU:P.underlying tL=acK (.struct fL)
 par:P.underlying tR=acK (.struct fR)
 Jv:P.underlying sE=acK (.slice tE)
 SV:P.underlying sR=acK (.slice tR)
 lE:fE.toList.map (λf=>(f.type,f.offset))=[(ti,0),(tu,1),(ts,2),(ti,3),(ti,4),(tL,5),(sE,7)]
 lL:fL.toList.map (λf=>(f.type,f.offset))=[(ts,0),(sR,1)]
 lR:fR.toList.map (λf=>(f.type,f.offset))=[(ts,0),(sE,1)]
 cE:P.cellsOf tE=8
 cL:P.cellsOf tL=2
 cR:P.cellsOf tR=2
 c1:∀t∈[ti,tu,ts,sE,sR],P.cellsOf t=1
theorem Jw{ti tu ts tE tL tR sE sR:TypeId}{fE fL fR:Array Field}(h:BP P ti tu ts tE tL tR sE sR fE fL fR) :
  ∀n,bN F enc P w sp held n tE E.cells E.ok/\bN F enc P w sp held n tL aJ.cells aJ.ok/\bN F enc P w sp held n tR aI.cells aI.ok:=by
 have c1:P.cellsOf ti=1:=h.c1 _ (by simp);have c2:P.cellsOf tu=1:=h.c1 _ (by simp);have c3:P.cellsOf ts=1:=h.c1 _ (by simp);have d:P.cellsOf sE=1:=h.c1 _ (by simp);have c5:P.cellsOf sR=1:=h.c1 _ (by simp);intro n;induction n with
 |zero=>exact⟨bN.zero,bN.zero,bN.zero⟩
 | succ n f=>
  obtain⟨g,i,j⟩:=f;have e:=bN.mono (bN.slice h.Jv h.cE (by decide) E.len g) (aa2 n);have k:=bN.mono (bN.slice h.SV h.cR (by decide) aI.len j) (aa2 n);refine⟨?_,?_,?_⟩
  . refine bN.map (λ(x:Int×Int×List UInt8×Int×Int×aJ×List E×Unit)=>(⟨x.1,x.2.1,x.2.2.1,x.2.2.2.1,x.2.2.2.2.1,x.2.2.2.2.2.1,x.2.2.2.2.2.2.1⟩:E)) (λx=>?_) (λx a=>?_)
      (bN.struct h.exp h.lE (by simp[kn,c1,c2,c3,d,h.cL]) (by simp[jf,c1,c2,c3,d,h.cL,h.cE])
        (dx.cons (bN.i64 h.int) (dx.cons (bN.u64 h.u64) (dx.cons (bN.string h.str) (dx.cons (bN.i64 h.int) (dx.cons (bN.i64 h.int) (dx.cons i (dx.cons e dx.nil))))))))
    ·rw[E.aX];simp
    . obtain⟨h1,b,c,l,m,o,⟨p,q⟩,_⟩:=a;exact⟨h1,b,c,l,m,o,p,E.eG.2 q⟩
  . refine bN.map (λ(x:List UInt8×List aI×Unit)=>(⟨x.1,x.2.1⟩:aJ)) (λx=>?_) (λx a=>?_)
      (bN.struct h.SU h.lL (by simp[kn,c3,c5]) (by simp[jf,c3,c5,h.cL]) (dx.cons (bN.string h.str) (dx.cons k dx.nil)))
    ·rw[aJ.aX];rfl
    . obtain⟨h1,⟨b,c⟩,_⟩:=a;exact⟨h1,b,aI.eG.2 c⟩
  . refine bN.map (λ(x:List UInt8×List E×Unit)=>(⟨x.1,x.2.1⟩:aI)) (λx=>?_) (λx a=>?_)
      (bN.struct h.par h.lR (by simp[kn,c3,d]) (by simp[jf,c3,d,h.cR]) (dx.cons (bN.string h.str) (dx.cons e dx.nil)))
    ·rw[aI.aX];rfl
    . obtain⟨h1,⟨b,c⟩,_⟩:=a;exact⟨h1,b,E.eG.2 c⟩
end
end Rb
namespace Rb
open Go
structure aC where
 kind:Int
 ay:Int
 V:List UInt8
 b9:List UInt8
 a_:Int
 place:aJ
 bn:List E
 aZ:List aC
 bw:List aC
mutual
def aC.cells:aC->List I
 | .mk kind ay V b9 a_ place bn aZ bw=> .int .i64 kind :: .int .i64 ay :: .str V :: .str b9 :: .int .i64 a_::(aJ.cells place++[av E.cells bn,.aq .dead aZ.length (aC.all aZ),.aq .dead bw.length (aC.all bw)])
def aC.all:List aC->List I
 |[]=>[]
 |x::r=>aC.cells x++aC.all r
end
theorem aC.all_eq:∀xs:List aC,aC.all xs=xs.flatMap aC.cells
 |[]=>rfl
 |x::r=>by rw[aC.all,aC.all_eq r,ac0]
theorem aC.aX(x:aC):x.cells = .int .i64 x.kind :: .int .i64 x.ay :: .str x.V :: .str x.b9 :: .int .i64 x.a_::(x.place.cells++[av E.cells x.bn,av aC.cells x.aZ,av aC.cells x.bw]):=by cases x;simp only[aC.cells,aC.all_eq,av]
theorem aC.len(x:aC):x.cells.length=10:=by rw[aC.aX];simp[aJ.len]
mutual
def aC.ok:aC->Prop
 | .mk kind ay V b9 a_ place bn aZ bw=>jU kind/\jU ay/\V.length<=140737488351232/\b9.length<=140737488351232/\jU a_/\aJ.ok place/\bn.length<=maxLen/\E.dX bn/\aZ.length<=maxLen/\aC.dX aZ/\bw.length<=maxLen/\aC.dX bw
def aC.dX:List aC->Prop
 |[]=>True
 |x::r=>aC.ok x/\aC.dX r
end
theorem aC.eG:∀{xs:List aC},aC.dX xs↔∀x∈xs,x.ok
 |[]=>by simp[aC.dX]
 |x::r=>by simp[aC.dX,aC.eG (xs:=r)]
structure dy where
 vars:List aB
 cO:List (List aC)
def iK(l:List aC):List I:=[av aC.cells l]
def dy.cells(x:dy):List I:=[av aB.cells x.vars,av iK x.cO]
def dy.ok(x:dy):Prop:=(x.vars.length<=maxLen/\∀v∈x.vars,v.ok)/\x.cO.length<=maxLen/\∀t∈x.cO,t.length<=maxLen/\∀s∈t,s.ok
section
variable{H:Type}{enc:TypeId×Value->H}{P:Program}{w:World}{sp:Nat->Bool}{held:Bool}{F:dE}
theorem SX{ts tT a:TypeId}{b:Array Field}(hs:P.underlying ts=acK .string)(c:P.cellsOf ts=1)(cT:P.cellsOf tT=6)(hT:∀n,bN F enc P w sp held n tT X.cells X.ok)
  (e:P.underlying a=acK (.struct b)) (g:b.toList.map (λf=>(f.type,f.offset))=[(ts,0),(tT,1)]) (h:P.cellsOf a=7):∀n,bN F enc P w sp held n a aB.cells aB.ok:=by
 intro n;refine bN.mono (n:=n+1) ?_ (aa2 n);refine bN.map (λ(x:List UInt8×X×Unit)=>(⟨x.1,x.2.1⟩:aB)) (λx=>?_) (λx d=>?_)
  (bN.struct e g (by simp[kn,c]) (by simp[jf,c,cT,h]) (dx.cons (bN.string hs) (dx.cons (hT n) dx.nil)))
 ·simp[aB.cells]
 ·exact⟨d.1,d.2.1⟩
theorem SY{ti tu ts tE tL tR sE sR a b:TypeId}{fE fL fR c:Array Field}(h:BP P ti tu ts tE tL tR sE sR fE fL fR)(hS:P.underlying a=acK (.struct c))(j:P.underlying b=acK (.slice a))
  (k:c.toList.map (λf=>(f.type,f.offset))=[(ti,0),(ti,1),(ts,2),(ts,3),(ti,4),(tL,5),(sE,7),(b,8),(b,9)]) (d:P.cellsOf a=10) (e:P.cellsOf b=1) :
  ∀n,bN F enc P w sp held n a aC.cells aC.ok:=by
 have c1:P.cellsOf ti=1:=h.c1 _ (by simp);have c3:P.cellsOf ts=1:=h.c1 _ (by simp);have g:P.cellsOf sE=1:=h.c1 _ (by simp);intro n;induction n with
 |zero=>exact bN.zero
 | succ n l=>
  have m:=bN.mono (bN.slice h.Jv h.cE (by decide) E.len (Jw (F:=F) (enc:=enc) (w:=w) (sp:=sp) (held:=held) h n).1) (aa2 n);have i:=bN.mono (bN.slice j d (by decide) aC.len l) (aa2 n);refine bN.map (λ(x:Int×Int×List UInt8×List UInt8×Int×aJ×List E×List aC×List aC×Unit)=>(⟨x.1,x.2.1,x.2.2.1,x.2.2.2.1,x.2.2.2.2.1,x.2.2.2.2.2.1,x.2.2.2.2.2.2.1,x.2.2.2.2.2.2.2.1,x.2.2.2.2.2.2.2.2.1⟩:aC)) (λx=>?_) (λx o=>?_)
   (bN.struct hS k (by simp[kn,c1,c3,g,e,h.cL]) (by simp[jf,c1,c3,g,e,h.cL,d])
     (dx.cons (bN.i64 h.int) (dx.cons (bN.i64 h.int) (dx.cons (bN.string h.str) (dx.cons (bN.string h.str) (dx.cons (bN.i64 h.int) (dx.cons (Jw h n).2.1 (dx.cons m (dx.cons i (dx.cons i dx.nil))))))))))
  ·rw[aC.aX];simp
  . obtain⟨h1,p,q,r,s,t,⟨u,v⟩,⟨h9,y⟩,⟨z,A⟩,_⟩:=o;exact⟨h1,p,q,r,s,t,u,E.eG.2 v,h9,aC.eG.2 y,z,aC.eG.2 A⟩
theorem SZ{d a e b c g:TypeId}{h:Array Field}(k:∀n,bN F enc P w sp held n d aB.cells aB.ok)(hS:∀n,bN F enc P w sp held n e aC.cells aC.ok)
  (l:P.underlying a=acK (.slice d)) (m:P.underlying b=acK (.slice e)) (o:P.underlying c=acK (.slice b)) (p:P.cellsOf d=7) (q:P.cellsOf e=10) (r:P.cellsOf b=1) (i:P.cellsOf a=1) (s:P.cellsOf c=1)
  (t:P.underlying g=acK (.struct h)) (u:h.toList.map (λf=>(f.type,f.offset))=[(a,0),(c,1)]) (v:P.cellsOf g=2):∀n,bN F enc P w sp held n g dy.cells dy.ok:=by
 intro n;refine bN.mono (n:=n+2+1) ?_ (by omega);have k1:bN F enc P w sp held (n+2) a (λxs:List aB=>[av aB.cells xs]) (λxs=>xs.length<=maxLen/\∀x∈xs,x.ok):=bN.slice l p (by decide) aB.len (k (n+1));have k2:bN F enc P w sp held (n+1) b iK (λxs=>xs.length<=maxLen/\∀x∈xs,x.ok):=bN.slice m q (by decide) aC.len (hS n);have z:bN F enc P w sp held (n+2) c (λxs:List (List aC)=>[av iK xs]) (λxs=>xs.length<=maxLen/\∀x∈xs,x.length<=maxLen/\∀y∈x,y.ok):=bN.slice o r (by decide) (λ_=>rfl) k2;refine bN.map (λ(x:List aB×List (List aC)×Unit)=>(⟨x.1,x.2.1⟩:dy)) (λx=>?_) (λx j=>?_)
  (bN.struct t u (by simp[kn,i]) (by simp[jf,i,s,v]) (dx.cons k1 (dx.cons z dx.nil)))
 ·simp[dy.cells]
 ·exact⟨j.1,j.2.1⟩
end
end Rb
namespace Rb
open Go
@[simp] theorem O {α:Type} (a:α) (K:α->Prop):Do (acK a) K↔K a:=⟨λ⟨b,h,k⟩=>by cases h;exact k,λh=>⟨a,rfl,h⟩⟩
@[simp] theorem aN (v:I) (H:Z) (K:aa):bs (acK (v,H)) K↔K v H:=⟨λ⟨a,b,h,k⟩=>by cases h;exact k,λh=>⟨v,H,rfl,h⟩⟩
@[simp] theorem au (b:Bool) (A B:Prop):W (.bool b) acI A B↔if b=acI then A else B:=ach
@[simp] theorem aab (b:Bool) (A B:Prop):W (.bool b) acJ A B↔if b=acJ then A else B:=ach
@[simp] theorem aw (K:List I->Z->Prop) (st:List I) (H:Z):G K st H↔K st H:=ach
@[simp] theorem T (a:I) (l:List I):N (a::l) 0=a:=rfl
@[simp] theorem bE (a:I) (l:List I) (i:Nat):N (a::l) (i+1)=N l i:=rfl
section
variable(k:IntKind)(a b:Int)
@[simp] theorem bz:cH .add (.int k a) (.int k b)=acK (.int k (k.wrap (a+b))):=by simp[cH,h8]
@[simp] theorem eH:cH .sub (.int k a) (.int k b)=acK (.int k (k.wrap (a-b))):=by simp[cH,h8]
@[simp] theorem gk:cH .mul (.int k a) (.int k b)=acK (.int k (k.wrap (a*b))):=by simp[cH,h8]
@[simp] theorem bI:cH .eql (.int k a) (.int k b)=acK (.bool (a==b)):=by simp[cH,h8]
@[simp] theorem cC:cH .neq (.int k a) (.int k b)=acK (.bool (a != b)):=by simp[cH,h8]
@[simp] theorem aY:cH .lss (.int k a) (.int k b)=acK (.bool (decide (a<b))):=by simp[cH,h8]
@[simp] theorem gl:cH .leq (.int k a) (.int k b)=acK (.bool (decide (a<=b))):=by simp[cH,h8]
@[simp] theorem cV:cH .gtr (.int k a) (.int k b)=acK (.bool (decide (a>b))):=by simp[cH,h8]
@[simp] theorem eD:cH .geq (.int k a) (.int k b)=acK (.bool (decide (a>=b))):=by simp[cH,h8]
theorem jV(h:b≠0):cH .rem (.int k a) (.int k b)=acK (.int k (a.tmod b)):=by simp[cH,h8,h]
theorem jg(h:b≠0):cH .quo (.int k a) (.int k b)=acK (.int k (k.wrap (a.tdiv b))):=by simp[cH,h8,h]
@[simp] theorem S0:cH .and (.int k a) (.int k b)=acK (.int k (k.wrap (AV k.bits a &&& AV k.bits b).toNat)):=by simp[cH,h8,oK]
@[simp] theorem aac:cH .or (.int k a) (.int k b)=acK (.int k (k.wrap (AV k.bits a ||| AV k.bits b).toNat)):=by simp[cH,h8,oK]
@[simp] theorem aad:cH .xor (.int k a) (.int k b)=acK (.int k (k.wrap (AV k.bits a ^^^ AV k.bits b).toNat)):=by simp[cH,h8,oK]
theorem Jx(k':IntKind)(h:0<=b):cH .shl (.int k a) (.int k' b)=acK (.int k (k.wrap (a*2^(min b.toNat k.bits)))):=by simp[cH,h8,Int.not_lt.2 h]
@[simp] theorem iL (k':IntKind):fU k' (.int k a)=acK (.int k' (k'.wrap a)):=rfl
@[simp] theorem S1 (neg:Bool) (x y:Bool):kD neg (.bool x) (.bool y)=acK (.bool (if neg then !(x==y)else x==y)):=rfl
@[simp] theorem dg (x:Bool):cu .not (.bool x)=acK (.bool !x):=rfl
end
@[simp] theorem aae (tk:Tok) (n:Nat) (cs:List I):ea acJ (.aq tk n cs)=acK (D n):=rfl
@[simp] theorem aaf (id o n sz:Nat):ea acJ (.row id o n sz)=acK (D n):=rfl
@[simp] theorem pT (s:List UInt8):ea acI (.str s)=acK (D s.length):=rfl
variable{id i:Nat}{x:cx}{n:Int}{cs:List I}
def Z.Ext(H H':Z):Prop:=H.n<=H'.n/\∀i,i<H.n->H'.o i=H.o i
theorem Z.Ext.refl(H:Z):Z.Ext H H:=⟨hb _,λ_ _=>rfl⟩
theorem Z.Ext.trans{a b c:Z}(h:Z.Ext a b)(k:Z.Ext b c):Z.Ext a c:=⟨sl h.1 k.1,λi hi=>(k.2 i (xl hi h.1)).trans (h.2 i hi)⟩
theorem Z.Ext.push(H:Z)(x:cx):Z.Ext H (H.push x):=⟨aa2 _,λi hi=>af (aa6 hi)⟩
theorem Z.Ext.set{H H':Z}(h:Z.Ext H H')(hi:H.n<=i)(x:cx):Z.Ext H (H'.set i x):=⟨h.1,λj a=>by simp only[Z.set];rw[bL];exact h.2 j a⟩
@[simp] theorem Z.aag (H:Z) (x:cx):(H.push x).n=H.n+1:=rfl
@[simp] theorem Z.aah (H:Z) (i:Nat) (x:cx):(H.set i x).n=H.n:=rfl
theorem Z.x9(H:Z)(x:cx):(H.push x).o H.n=x:=ab rfl
theorem Z.S2(H:Z)(x:cx)(h:i≠H.n):(H.push x).o i=H.o i:=af h
theorem Z.Jy(H:Z)(i:Nat)(x:cx):(H.set i x).o i=x:=ab rfl
theorem Z.bR(H:Z){i j:Nat}(x:cx)(h:j≠i):(H.set i x).o j=H.o j:=af h
theorem wrap_i64(a : -9223372036854775808<=n)(b:n<=9223372036854775807):abu .i64 n=n:=by simp[abu,aay,aaz];omega
theorem wrap_u64(a:0<=n)(b:n<18446744073709551616):abu .u64 n=n:=by simp[abu,aay,aaz];omega
theorem wrap_u8(a:0<=n)(b:n<256):abu .u8 n=n:=by simp[abu,aay,aaz];omega
def jA(H0 H:Z)(sz:Nat)(x:I)(len:Nat)(cells:List I):Prop:=Z.Ext H0 H/\∃tk,x = .aq tk len cells/\cells.length=len*sz/\((tk = .nil/\len=0)\/∃t,tk = .own t/\H0.n<=t/\t<H.n/\H.o t = .tok (len*sz) sz)
theorem jA.nil(H:Z)(sz:Nat):jA H H sz A 0 []:=⟨Z.Ext.refl H,.nil,rfl,by simp,.inl ⟨rfl,rfl⟩⟩
def At(H:Z)(id:Nat)(x:cx):Prop:=id<H.n/\H.o id=x
theorem At.new(H:Z)(x:cx):At (H.push x) H.n x:=⟨acR _,Z.x9 H x⟩
theorem At.ext{H H':Z}(h:At H id x)(a:Z.Ext H H'):At H' id x:=⟨xl h.1 a.1,(a.2 id h.1).trans h.2⟩
theorem At.push{H:Z}(h:At H id x)(y:cx):At (H.push y) id x:=h.ext (Z.Ext.push H y)
theorem At.bR{H:Z}(h:At H id x)(a:id≠i)(y:cx):At (H.set i y) id x:=⟨h.1,(Z.bR H y a).trans h.2⟩
theorem At.set{H:Z}(h:At H id x)(y:cx):At (H.set id y) id y:=⟨h.1,Z.Jy H id y⟩
theorem At.ne{H:Z}{x y:cx}(h:At H id x)(k:At H i y)(a:x≠y):id≠i:=λe=>a (by rw[<-h.2,<-k.2,e])
theorem At.h2{H:Z}(h:At H id x):id≠H.n:=aa6 h.1
theorem At.load{H:Z}(h:At H id (.row cs))(n o:Nat)(agg:Bool):aj H n agg (.ptr id o)=bO cs o n agg:=by simp[aj,h.2]
theorem At.store{H:Z}(h:At H id (.row cs))(n o:Nat)(v:I):cf H n (.ptr id o) v=if v.known/\v.cells.length=n/\v.cells.all I.scalar/\o+n<=cs.length then acK (H.set id (.row (setCells cs o v.cells)))else acL:=by simp[cf,h.2]
theorem bo(a : -9223372036854775808<=n:=by omega)(b:n<=9223372036854775807:=by omega):abu .i64 n=n:=wrap_i64 a b
theorem rU(a:0<=n:=by omega)(b:n<18446744073709551616:=by omega):abu .u64 n=n:=wrap_u64 a b
end Rb
namespace Rb
open Go
variable{α:Type}{i:Nat}
@[simp] theorem bP (b:Bool) (A B C:Prop):aF (.bool b) acI A B C↔if b=acI then A else B:=ach
@[simp] theorem bF (b:Bool) (A B C:Prop):aF (.bool b) acJ A B C↔if b=acJ then A else B:=ach
@[simp] theorem aai (want:Bool) (A B C:Prop):aF (.aA []) want A B C↔C:=ach
theorem aG{c:Prop}[Decidable c]{A B:Prop}(a:c->A)(b:¬c->B):if c then A else B:=by
 split
 ·exact a ‹_›
 ·exact b ‹_›
theorem c7{xs:List α}(h:xs.drop i=[]):xs.length<=i:=by simpa using h
theorem c4{xs b:List α}{y:α}(h:xs.drop i=y::b):i<xs.length/\xs[i]?=acK y/\xs.drop (i+1)=b:=by
 have c:i<xs.length:=by
  rcases Nat.lt_or_ge i xs.length with a|a
  ·exact a
  ·rw[List.drop_eq_nil_of_le a]at h;cases h
 refine⟨c,?_,?_⟩
 . have:=congrArg (λl=>l[0]?) h;simpa using this
 . have:=congrArg List.tail h;simpa using this
end Rb
namespace Rb
open Go
section
variable{α:Type}{cells:α->List I}{sz:Nat}
theorem mm(hc:∀x,(cells x).length=sz):∀(xs:List α)(i:Nat),(xs.flatMap cells).drop (i*sz)=(xs.drop i).flatMap cells:=by
 intro xs i;induction i generalizing xs with
 |zero=>simp
 | succ i a=>
  cases xs with
  |nil=>simp
  | cons x xs=>rw[ac0,adj,<-a,show(i+1)*sz=(cells x).length+i*sz by rw[hc,aaV,adk,adl],<-adb,List.drop_left]
theorem S3(hc:∀x,(cells x).length=sz)(xs:List α):(xs.flatMap cells).length=xs.length*sz:=by
 induction xs with
 |nil=>simp
 |cons x xs a=>rw[ac0,adm,a,hc,List.length_cons,aaV];omega
def di(cells:α->List I)(sz:Nat)(xs:List α)(i:Nat):I:= .ae ((xs.flatMap cells).drop (i*sz))
theorem b6{xs:List α}{i:Nat}(hi:i<xs.length):aL acL sz (av cells xs) (D i)=acK (di cells sz xs i):=by simp only[av,aL];rw[ab ⟨by omega,by omega⟩];rfl
theorem c8(hc:∀x,(cells x).length=sz)(hz:0<sz)(H:Z){xs:List α}{i:Nat}{x:α}(a:xs[i]?=acK x):aj H sz acI (di cells sz xs i)=acK (.agg (cells x)):=by
 have b:=(aal.1 a).1;have c:xs.drop i=x::xs.drop (i+1):=by rw[adn b];rw[abb b]at a;simp at a;rw[a]
 show bO ((xs.flatMap cells).drop (i*sz)) 0 sz acI=_;rw[mm hc,c,ac0];unfold bO;rw[ab (by rw[adm,hc];omega)];simp only[bc,adf];rw[ado (by rw[hc];omega),adp (by rw[hc];omega)]
def x_(sz:Nat)(Φ:ad)(a0:I)(M:I)(d:I)(Q:aa):(List I×Z)->((List I×Z)->Prop)->Prop:=λs2 e=>
 Do (cH .lss (N s2.1 0) d) λf=>
 W f acI (
 Do (aL acL sz a0 (N s2.1 0)) λg=>
 Do (aj s2.2 sz acI g) λh=>
 ∃a b,M = .fn a b/\Φ (jw a) (jx a [h] b) s2.2 λi c=>
 W i acI (
 Q (N s2.1 0) c) (
 Do (cH .add (N s2.1 0) (D 1)) λj=>
 e ([j],c))) (
 Q (D (-1)) s2.2)
def rV(sz:Nat)(Φ:ad)(a0:I)(M:I)(H:Z)(Q:aa):Prop:=
 Do (ea acJ a0) λa=>
 ar (x_ sz Φ a0 M a Q) ([J],H)
def fb:Option Nat->Int
 |some i=>i
 |none=> -1
theorem BQ{Φ:ad}(hc:∀x,(cells x).length=sz)(hz:0<sz){p:α->Bool}{key:Nat}{cd:List I}{xs:List α}{H:Z}(hf:∀x∈xs,∀(R:aa),R (.bool (p x)) H->Φ key ([.agg (cells x)]++cd) H R)(hl:xs.length<=9223372036854775807){Q:aa}
  (hQ:Q (D (fb (xs.findIdx? p))) H) (c:iC key=acL:=by first|assumption|rfl):rV sz Φ (av cells xs) (.fn key cd) H Q:=by
 unfold rV;have hlen:ea acJ (av cells xs)=acK (D xs.length):=rfl;rw[hlen];simp only[O];have main:∀(a:List α)(i:Nat),xs.drop i=a->Q (D (fb ((a.findIdx? p).map (·+ i)))) H->ar (x_ sz Φ (av cells xs) (.fn key cd) (D xs.length) Q) ([D i],H):=by
  intro a;induction a with
  | nil=>intro i hi b;have hle:=c7 hi;refine ar.step ?_;simp only[x_,T,aY,O,au];rw[cQ];simpa[fb]using b
  | cons y a e=>
   intro i hi b;obtain⟨f,d,g⟩:=c4 hi;refine ar.step ?_;simp only[x_,T,aY,O,au];rw[cM,b6 f];simp only[O];rw[c8 hc hz H d];simp only[O];refine⟨key,cd,rfl,?_⟩;rw[qu c,qv c];refine hf y (adq d) _ ?_;simp only[au];rw[adr]at b;by_cases he:p y=acI
   . rw[ab he];rw[ab he]at b;simpa[fb]using b
   . rw [af he];rw[af he]at b;simp only[bz,O];rw[bo,fj i];refine e (i+1) g ?_;have:(ads p a).map (·+ (i+1))=((ads p a).map (·+ 1)).map (·+ i):=by
      rw[Option.map_map];congr 1;funext k;simp only[Function.comp];omega
     rw[this];exact b
 refine main xs 0 rfl ?_;simpa using hQ
end
theorem mn(a b:List I):I.bV (a++b)=(I.bV a&&I.bV b):=by rw[qN,qN,qN,adt]
mutual
theorem X.bu:∀x:X,I.bV x.cells=acI
 | .mk kind size packed Y bg aK=>by simp only[X.cells,I.bV,I.bu,Tok.free,aE.iM Y,X.iM aK,adu]
theorem X.iM:∀xs:List X,I.bV (X.all xs)=acI
 |[]=>rfl
 |x::r=>by rw[X.all,mn,X.bu x,X.iM r];rfl
theorem aE.bu:∀x:aE,I.bV x.cells=acI
 | .mk V type bits aQ=>by simp only[aE.cells,I.bV,I.bu,mn,X.bu type,adu]
theorem aE.iM:∀xs:List aE,I.bV (aE.all xs)=acI
 |[]=>rfl
 |x::r=>by rw[aE.all,mn,aE.bu x,aE.iM r];rfl
end
mutual
theorem E.bu:∀x:E,I.bV x.cells=acI
 | .mk kind n V op a_ place br=>by simp only[E.cells,I.bV,I.bu,mn,Tok.free,aJ.bu place,E.iM br,adu]
theorem E.iM:∀xs:List E,I.bV (E.all xs)=acI
 |[]=>rfl
 |x::r=>by rw[E.all,mn,E.bu x,E.iM r];rfl
theorem aJ.bu:∀x:aJ,I.bV x.cells=acI
 | .mk var ax=>by simp only[aJ.cells,I.bV,I.bu,Tok.free,aI.iM ax,adu]
theorem aI.bu:∀x:aI,I.bV x.cells=acI
 | .mk field aS=>by simp only[aI.cells,I.bV,I.bu,Tok.free,E.iM aS,adu]
theorem aI.iM:∀xs:List aI,I.bV (aI.all xs)=acI
 |[]=>rfl
 |x::r=>by rw[aI.all,mn,aI.bu x,aI.iM r];rfl
end
theorem ko{α:Type}{cells:α->List I}(h:∀x,I.bV (cells x)=acI)(xs:List α):(av cells xs).bu=acI:=by
 have:I.bV (xs.flatMap cells)=acI:=by
  induction xs with
  |nil=>rfl
  |cons x xs a=>rw[ac0,mn,h,a];rfl
 simp only[av,I.bu,Tok.free,this,adu]
theorem aB.bu(x:aB):I.bV x.cells=acI:=by simp only[aB.cells,I.bV,I.bu,X.bu,adu]
mutual
theorem aC.bu:∀x:aC,I.bV x.cells=acI
 | .mk kind ay V b9 a_ place bn aZ bw=>by simp only[aC.cells,I.bV,I.bu,mn,Tok.free,aJ.bu place,ko E.bu bn,aC.iM aZ,aC.iM bw,adu]
theorem aC.iM:∀xs:List aC,I.bV (aC.all xs)=acI
 |[]=>rfl
 |x::r=>by rw[aC.all,mn,aC.bu x,aC.iM r];rfl
end
theorem S4(l:List aC):I.bV (iK l)=acI:=by simp only[iK,I.bV,ko aC.bu,adu]
theorem dy.bu(x:dy):I.bV x.cells=acI:=by simp only[dy.cells,I.bV,ko aB.bu,ko S4,adu]
end Rb
namespace Rb
open Go
@[simp] theorem Z.Jz (H:Z) (x y:cx):(H.push x).set H.n y=H.push y:=by simp only[Z.push,Z.set];congr 1;funext j;split<;>rfl
@[simp] theorem eE (H:Z) (cs:List I) (n o:Nat) (agg:Bool):aj (H.push (.row cs)) n agg (.ptr H.n o)=bO cs o n agg:=by simp[aj,Z.x9]
theorem S5(H:Z)(cs:List I)(n o:Nat)(v:I)(a:v.known=acI)(b:v.cells.length=n)(c:v.cells.all I.scalar=acI)(d:o+n<=cs.length):cf (H.push (.row cs)) n (.ptr H.n o) v=acK (H.push (.row (setCells cs o v.cells))):=by rw[(At.new H (.row cs)).store,ab ⟨a,b,c,d⟩,Z.Jz]
theorem BR{xs a:List I}:∀{k:Nat},k+a.length=xs.length->setCells xs k a=xs.take k++a:=by
 induction a generalizing xs with
 |nil=>intro k h;simp only[setCells];rw[adv,adp (by simp at h;omega)]
 | cons y a b=>
  intro k h;simp only[setCells];rw[b (by simp at h ⊢;omega)];have hk:k<xs.length:=by simp at h;omega
  rw[adw,List.getElem?_set_self hk,List.take_set_of_le (by omega)];simp
theorem cn(H:Z)(a cs:List I)(n:Nat)(b:cs.length=n)(c:cs.all I.scalar=acI)(d:a.length=n):cf (H.push (.row a)) n (.ptr H.n 0) (.agg cs)=acK (H.push (.row cs)):=by rw[S5 H a n 0 (.agg cs) rfl b c (by omega)];congr 3;show setCells a 0 cs=cs;rw[BR (by omega)];rfl
theorem mo{a b:List I}{n:Nat}(h:a.length=n):bO (a++b) 0 n acI=acK (.agg a):=by unfold bO;rw[ab (by rw[adm];omega)];simp only[bc,adf];rw[ado (by omega),adp (by omega)]
theorem gJ{a:List I}{n:Nat}(h:a.length=n):bO a 0 n acI=acK (.agg a):=by have:=mo (a:=a) (b:=[]) h;rwa [adv]at this
theorem S6{cs:List I}{o n:Nat}{agg:Bool}(h:o<=cs.length):bO cs o n agg=bO (cs.drop o) 0 n agg:=by
 by_cases hl:o+n<=cs.length
 . have a:0+n<=(cs.drop o).length:=by rw[adx];omega
   unfold bO;simp only[hl,a,bc];cases agg<;>simp
 . have a:¬0+n<=(cs.drop o).length:=by rw[adx];omega
   unfold bO;simp only[hl,a,b4]
mutual
theorem X.scalar:∀x:X,x.cells.all I.scalar=acI
 | .mk kind size packed Y bg aK=>by simp[X.cells,I.scalar]
theorem aE.scalar:∀x:aE,x.cells.all I.scalar=acI
 | .mk V type bits aQ=>by simp only[aE.cells,acP,adt,X.scalar type];rfl
end
theorem aJ.scalar(x:aJ):x.cells.all I.scalar=acI:=by rw[aJ.aX];rfl
theorem aI.scalar(x:aI):x.cells.all I.scalar=acI:=by rw[aI.aX];rfl
theorem E.scalar(x:E):x.cells.all I.scalar=acI:=by rw[E.aX];simp only[acP,adt,aJ.scalar];rfl
theorem aC.scalar(x:aC):x.cells.all I.scalar=acI:=by rw[aC.aX];simp only[acP,adt,aJ.scalar];rfl
theorem aB.scalar(x:aB):x.cells.all I.scalar=acI:=by simp only[aB.cells,acP,X.scalar];rfl
end Rb
namespace Rb
open Go
def i1(k:IntKind)(z:Int):List I:=[.int k z]
section
variable{α:Type}{c:α->I}
theorem mZ(H:Z){xs:List α}{i:Nat}{x:α}(a:xs[i]?=acK x):aj H 1 acJ (di (λx=>[c x]) 1 xs i)=acK (c x):=by
 have b:=(aal.1 a).1;have d:xs.drop i=x::xs.drop (i+1):=by rw[adn b];rw[abb b]at a;simp at a;rw[a]
 show bO ((xs.flatMap λx=>[c x]).drop (i*1)) 0 1 acJ=_;rw[mm (sz:=1) (λ_=>rfl),d,ac0];rfl
end
theorem bC{α:Type}(cells:α->List I)(xs:List α):ea acJ (av cells xs)=acK (D xs.length):=rfl
open Go Go.RowKit
variable{w w':World}{G:aW}{F:dE}{H:Z}
theorem JA{b o:Nat}{V:Value}(h:w.cell? ⟨b,o,acL⟩=acK V):b<w.heap.size:=by
 unfold ada at h;split at h
 . rename_i U;exact(aa5.1 U).1
 ·cases h
theorem JB(U:Below w.heap.size w w'):GLe w G w' G:=⟨hb _,λ_ _=>rfl,λ_ _=>rfl,λ_ _ h=>h,λb o V _ hc=>by rw[U.cell (p:=⟨b,o,acL⟩) (JA hc)];exact hc⟩
theorem S7(U:Below w.heap.size w w'){i:Nat}{x:cx}(h:gy F w G i x):gy F w' G i x:=by
 have f:=JB (G:=G) U;cases x with
 | row cs=>obtain⟨c,e,h1,a,b,d⟩:=h;refine⟨c,e,by rw[U.block _ (aa5.1 h1).1];exact h1,a,b,λj c g=>?_⟩;obtain⟨V,l,m⟩:=d j c g;exact⟨V,l,m.mono f⟩
 | tok k sz=>obtain⟨c,e,h1,a,b,d⟩:=h;exact⟨c,e,by rw[U.block _ (aa5.1 h1).1];exact h1,a,b,d⟩
 | hr s pos=>obtain⟨h1,a⟩:=h;exact⟨by rw[U.block _ (aa5.1 h1).1];exact h1,a⟩
 |gone=>trivial
theorem S8(U:Below w.heap.size w w')(h:Rel F w G H):Rel F w' G H:=
 ⟨h.n,h.over,λi=>S7 U (h.obj i),h.gz,λb o hf=>by obtain⟨V,a⟩:=h.e_ b o hf;exact⟨V,by rw[U.cell (p:=⟨b,o,acL⟩) (JA a)];exact a⟩⟩
theorem S9(U:Below w.heap.size w w')(a:w.drawn<=w'.drawn)(h:Rel F w G H):Step w G H w' G H:=
 { JB U with
   size:=U.size
   os:=U.os
   tape:=U.tape
   output:=U.output
   dr:=a
   d_:=λk hk _=>U.block k hk
   owned:=λi hl _=>⟨i,hl,rfl⟩
   ff:=λ_ _ hf=> .inl hf}
end Rb
namespace Rb
open Go
def aD(p:Int×Int):List I:=[D p.1,D p.2]
def eL(l:List (Int×Int)):List (Int×Int):=l.mergeSort λx y=>!decide (y.1<x.1\/(y.1=x.1/\y.2<x.2))
theorem oa(l:List (Int×Int)):(eL l).length=l.length:=List.length_mergeSort _
variable{n b0 b1 b2 b3 i:Nat}{s:List UInt8}{c:UInt8}
def bD(Φ:ad)(k:Nat)(args:List I)(v:I):Prop:=∀(H:Z)(Q:aa),Q v H->Φ k args H Q
theorem bD.of{C:Ctx}(ak:cP C){k:Nat}{args:List I}{v:I}(ha:I.bV args=acI)(hv:v.bu=acI)(h:∀Q:aa,(∀H',Q v H')->ai C k args Z.mt Q):bD (ai C) k args v:=λH Q hQ=>ai.Fg (Q:=λu _=>u=v) ak (h _ λ_=>rfl) ha H Q λu _ hu=>by subst hu;exact⟨hv,hQ⟩
def isLet(c:UInt8):Bool:=decide (97<=c.toNat)&&decide (c.toNat<=122)
def rW(c:UInt8):Bool:=decide (48<=c.toNat)&&decide (c.toNat<=57)
def ig(c:UInt8):Bool:=isLet c||rW c||decide (c.toNat=95)
def ek:List UInt8->Bool
 |[]=>acJ
 |c::r=>decide (r.length<16)&&isLet c&&r.all ig
theorem S_(h:b0<128):ady n b0 b1 b2 b3=(b0,1):=by unfold ady;rw[ab h]
theorem Ta(h:¬b0<128):128<=(ady n b0 b1 b2 b3).1:=by
 unfold ady;rw[af h]
 repeat' split
 all_goals (dsimp only;omega)
theorem JC(hc:s[i]?=acK c)(h:c.toNat<128):aak ⟨s.toArray⟩ i=(c.toNat,1):=by
 have e:(aau s.toArray).get! i=c:=by show s.toArray[i]! = c;have hi:=(aal.1 hc).1;rw[getElem!_pos s.toArray i (by simpa using hi)];simp[abb hi]at hc;simpa using hc
 rw[adz,e,S_ h]
theorem Tb(hc:s[i]?=acK c)(h:¬c.toNat<128):128<=(aak ⟨s.toArray⟩ i).1:=by
 have e:(aau s.toArray).get! i=c:=by show s.toArray[i]! = c;have hi:=(aal.1 hc).1;rw[getElem!_pos s.toArray i (by simpa using hi)];simp[abb hi]at hc;simpa using hc
 rw[adz,e];exact Ta h
def el(n a:Int):Bool:=(n==1||n==2||n==4||n==8||n==16)&&decide (n<=a)
def gm(kind b:Int)(packed:Bool)(c:Nat)(bg:Int)(a:Nat):Bool:=
 if kind=1\/kind=2 then !packed&&c==0&&bg==0&&a==0
 else if kind=3\/kind=4 then b==0&&bg==0&&a==0
 else if kind=5 then b==0&&!packed&&c==0&&a==1
 else acJ
mutual
def cW:X->Int
 | .mk kind size packed Y bg aK=>
  if gm kind size packed Y.length bg aK.length=acJ then 8
  else if kind=1 then(if el size 8 then 0 else 9)
  else if kind=2 then(if el size 16 then 0 else 9)
  else if kind=5 then(if bg<1\/65536<bg then 9 else JD aK)
  else if Y.length<1\/32<Y.length then 12
  else fB packed [] Y
def JD:List X->Int
 |[]=>0
 |t::_=>cW t
def gA(packed:Bool)(seen:List (List UInt8)):aE->Int
 | .mk V type bits aQ=>
  if ek V=acJ/\(V≠[]\/bits=acJ)then 6
  else if V≠[]/\seen.contains V=acI then 7
  else if cW type≠0 then cW type
  else if(bits=acJ/\aQ≠0)\/(bits=acI/\(type.kind≠1\/packed=acI))then 8
  else if bits=acI/\(aQ<0\/8*type.size<aQ\/(aQ=0/\V≠[]))then 9
  else 0
def fB(packed:Bool)(seen:List (List UInt8)):List aE->Int
 |[]=>0
 |f::r=>if gA packed seen f≠0 then gA packed seen f else fB packed (seen++[f.V]) r
end
mutual
def dz(a:Nat):X->Int
 | .mk kind size packed Y bg aK=>if 1<a then max (eS (a-1) Y) (eF (a-1) aK)+1 else 1
def ob(a:Nat):aE->Int
 | .mk V type bits aQ=>dz a type
def eS(a:Nat):List aE->Int
 |[]=>0
 |f::r=>max (ob a f) (eS a r)
def eF(a:Nat):List X->Int
 |[]=>0
 |t::r=>max (dz a t) (eF a r)
end
def dK(t:X):Int:=if 64<dz 65 t then 5 else cW t
theorem X.ind{P:X->Prop}(h:∀t:X,(∀f∈t.Y,P f.type)->(∀e∈t.aK,P e)->P t):∀t,P t:=by
 have main:∀(n:Nat)(t:X),sizeOf t<n->P t:=by
  intro n;induction n with
  |zero=>intro t ht;omega
  | succ n a=>
   intro t ht;refine h t (λf hf=>a _ ?_) λe he=>a _ ?_
   . cases t with
     | mk kind size packed Y bg aK=>
      have:=adA hf;cases f with
      |mk V type bits aQ=>simp at this ht ⊢;omega
   . cases t with
     | mk kind size packed Y bg aK=>have:=adA he;simp at this ht ⊢;omega
 exact λt=>main _ t (acR _)
end Rb
namespace Rb
open Go
variable{n:Int}{s:List UInt8}{id pos:Nat}
theorem fC(t:X)(H:Z):b5 H acJ 6 (.agg t.cells)=acK (.ae t.cells,H):=by unfold b5;rw[ab ⟨rfl,t.len⟩];rfl
theorem ca(t:X)(i:Nat):aH i (.ae t.cells)=acK (.ae (t.cells.drop i)):=rfl
theorem h3(t:X)(H:Z):aj H 1 acJ (.ae (t.cells.drop 0))=acK (D t.kind):=by rw[X.aX];rfl
theorem kp(t:X)(H:Z):aj H 1 acJ (.ae (t.cells.drop 1))=acK (D t.size):=by rw[X.aX];rfl
theorem lS(t:X)(H:Z):aj H 1 acJ (.ae (t.cells.drop 2))=acK (.bool t.packed):=by rw[X.aX];rfl
theorem fN(t:X)(H:Z):aj H 1 acJ (.ae (t.cells.drop 3))=acK (av aE.cells t.Y):=by rw[X.aX];rfl
theorem lU(t:X)(H:Z):aj H 1 acJ (.ae (t.cells.drop 4))=acK (D t.bg):=by rw[X.aX];rfl
theorem gK(t:X)(H:Z):aj H 1 acJ (.ae (t.cells.drop 5))=acK (av X.cells t.aK):=by rw[X.aX];rfl
theorem hD(t:X)(H:Z):aj H 6 acI (.ae t.cells)=acK (.agg t.cells):=gJ t.len
theorem oc(f:aE):bO f.cells 0 1 acJ=acK (.str f.V):=by cases f with|mk n t b w=>cases t;rfl
theorem ya(f:aE):bO f.cells 7 1 acJ=acK (.bool f.bits):=by cases f with|mk n t b w=>cases t;rfl
theorem BS(f:aE):bO f.cells 8 1 acJ=acK (D f.aQ):=by cases f with|mk n t b w=>cases t;rfl
theorem rX(f:aE):bO f.cells 1 6 acI=acK (.agg f.type.cells):=by cases f with|mk n t b w=>cases t;rfl
theorem BU(f:aE):bO f.cells 1 1 acJ=acK (D f.type.kind):=by cases f with|mk n t b w=>cases t;rfl
theorem JE(f:aE):bO f.cells 2 1 acJ=acK (D f.type.size):=by cases f with|mk n t b w=>cases t;rfl
theorem wrap_i32(a : -2147483648<=n)(b:n<=2147483647):abu .i32 n=n:=by simp[abu,aay,aaz];omega
theorem fD(s t:List UInt8):cH .eql (.str s) (.str t)=acK (.bool (s==t)):=rfl
theorem kU(s t:List UInt8):cH .neq (.str s) (.str t)=acK (.bool (!(s==t))):=rfl
theorem BV(a b:Int):gH acI [D a,D b]=acK (D (max a b)):=by simp only[gH,nC,qp,bc];congr 2;show(if a<b then b else a)=max a b;omega
def m_(n:Int):Bool:=(decide (97<=n)&&decide (n<=122))||(decide (48<=n)&&decide (n<=57))||decide (n=95)
theorem JF(c:UInt8):m_ (c.toNat:Int)=ig c:=by rw[acm];simp[m_,ig,isLet,rW];omega
theorem Tc(h:128<=n):m_ n=acJ:=by rw[acC];simp[m_];omega
theorem Td{c:UInt8}(h:¬c.toNat<128):ig c=acJ:=by rw[acC];simp[ig,isLet,rW];omega
theorem Te(c:UInt8):(decide (97<=(c.toNat:Int))&&decide ((c.toNat:Int)<=122))=isLet c:=by rw[acm];simp[isLet];omega
section
variable{Φ:ad}{H:Z}{Q:aa}
theorem JG(hQ:Q (.bool (decide (97<=n)&&decide (n<=122))) H):S.f135 Φ (.int .i32 n) H Q:=by
 simp only[ag,S.f135,eD,gl,O,bP];apply aG<;>intro h
 . simp only[ge_iff_le,dJ]at h;simpa[h]using hQ
 . simp only[ge_iff_le,dJ]at h;simpa[h]using hQ
theorem Tf(h:At H id (.hr s pos))(hp:pos<s.length):la H (.ptr id 0)=acK (.aA [aT,D pos,.int .i32 (aak ⟨s.toArray⟩ pos).1],H.set id (.hr s (pos+(aak ⟨s.toArray⟩ pos).2))):=by simp[la,h.2,hp]
theorem Tg(h:At H id (.hr s pos))(hp:s.length<=pos):la H (.ptr id 0)=acK (.aA [P],H):=by simp[la,h.2,Nat.not_lt.2 hp]
theorem Th{L:(List I×Z)->Prop}(hT:Cl Φ S.b7)(c:m_ n=acJ->Q P H)(d:m_ n=acI->L ([],H)) :
  Φ 135 [.int .i32 n] H λe a=>
   Do (cu .not e) λf=>
   aF f acI (
   Do (cH .neq (.int .i32 n) (.int .i32 95)) λg=>
   G (S.rJ Φ (.int .i32 n) L Q) [g] a) (
   G (S.rJ Φ (.int .i32 n) L Q) [P] a) (
   False):=by
 refine S.Jm hT (JG ?_);have k1:∀b:Bool,b=!m_ n->G (S.pH Φ L Q) [.bool b] H:=by
  intro b U;simp only[aw,S.pH,T,au];apply aG<;>intro h
  ·exact c (by rw[h]at U;simpa using U.symm)
  ·exact d (by simp only[adB]at h;rw[h]at U;simpa using U.symm)
 simp only[ag,dg,O,bP,cC,aw,S.rJ,T,aY,cV,bF,abW,b4]at k1 ⊢;generalize S.pH Φ L Q=i at k1 ⊢
 repeat' (apply aG<;>intro h)
 all_goals (refine k1 _ ?_;simp only[ab_,Bool.and_eq_false_imp,dJ,decide_eq_false_iff_not,bne_iff_ne,ne_eq,adB,adC]at *;rw[acm];simp[m_];omega)
theorem Ti(hT:Cl Φ S.b7)(hQ:∀H',Q (.bool (ek s)) H'):S.f92 Φ (.str s) H Q:=by
 have main:∀(a:List UInt8)(pos id:Nat)(H:Z),s.drop pos=a->At H id (.hr s pos)->(∀H',Q (.bool (a.all ig)) H')->ar (S.xg Φ (.ptr id 0) Q) ([],H):=by
  intro a;induction a with
  | nil=>intro pos id H i g d;have hle:=c7 i;refine ar.step ?_;simp only[ag,S.xg];rw[Tg g hle];simp only[aN,bA,ac5,O,au,abW,b4];simpa using d H
  | cons y a l=>
   intro pos id H i g d;obtain⟨m,j,o⟩:=c4 i;refine ar.step ?_;simp only[ag,S.xg];rw[Tf g m];simp only[aN,bA,ac5,ac6,O,au,bc];refine Th hT (λU=>?_) (λe=>?_)
   . by_cases f:y.toNat<128
     . rw[JC j f]at U;simp only[JF]at U;have:=d (H.set id (.hr s (pos+(aak ⟨s.toArray⟩ pos).2)));simpa[U]using this
     . have:=d (H.set id (.hr s (pos+(aak ⟨s.toArray⟩ pos).2)));simpa[Td f]using this
   . by_cases f:y.toNat<128
     . rw[JC j f]at e ⊢;simp only[JF]at e;exact l (pos+1) id _ o (g.set _) λH'=>by simpa[e]using d H'
     . rw[Tc (by have:=Tb j f;omega)]at e;cases e
 unfold S.f92;simp only[ag];simp only[pT,aY,cV,O,bF,aw];cases s with
 | nil=>simp[S.xh,S.rK,aw,T,bF,au];simpa[ek]using hQ H
 | cons c r=>
  rw[oQ];have k:∀b:Bool,(b=acJ->ek (c::r)=r.all ig/\ig c=acI)->(b=acI->ek (c::r)=acJ)->∀H,S.rK Φ (.str (c::r)) Q [.bool b] H:=by
   intro b h1 p H;simp only[S.rK,T,au];apply aG<;>intro h
   ·have:=hQ H;rw[p h]at this;exact this
   . simp only[adB]at h;obtain⟨g1,g2⟩:=h1 h;simp only[aw,S.HK,nD,aN];refine main (c::r) 0 H.n _ rfl (At.new H _) λH'=>?_;have:=hQ H';rw[g1]at this;simpa[g2]using this
  simp only[S.xh,T,bF,aw];apply aG<;>intro h
  . have q:ju (.str (c::r)) (J)=acK (.int .u8 c.toNat):=by simp[ju]
    have hc:=c.toNat_lt;rw[q];simp only[O,iL];rw[wrap_i32 (by omega) (by omega)];refine S.Jm hT (JG ?_);rw[Te];simp only[dg,O];have hl:r.length<16:=by simp at h;omega
    refine k _ (λU=>?_) (λU=>?_) _
    . have:isLet c=acI:=by simpa using U
      exact⟨by simp[ek,hl,this],by simp[ig,this]⟩
    . have:isLet c=acJ:=by simpa using U
      simp[ek,this]
  . refine k _ (λU=>by cases U) (λ_=>?_) _;have hl:¬r.length<16:=by simp at h;omega
    simp[ek,hl]
end
end Rb
namespace Rb
open Go
mutual
theorem pU:∀(t:X)(m:Nat),1<=m->1<=dz m t/\dz m t<=m
 | .mk kind size packed Y bg aK,m,hm=>by
  simp only[dz];split
  . rename_i h;have h1:=yb Y (m-1) (by omega);have a:=BW aK (m-1) (by omega);omega
  ·omega
theorem Tj:∀(f:aE)(m:Nat),1<=m->0<=ob m f/\ob m f<=m
 | .mk V type bits aQ,m,hm=>by have:=pU type m hm;simp only[ob];omega
theorem yb:∀(l:List aE)(m:Nat),1<=m->0<=eS m l/\eS m l<=m
 |[],m,hm=>by simp only[eS];omega
 | f::r,m,hm=>by have h1:=Tj f m hm;have a:=yb r m hm;simp only[eS];omega
theorem BW:∀(l:List X)(m:Nat),1<=m->0<=eF m l/\eF m l<=m
 |[],m,hm=>by simp only[eF];omega
 | t::r,m,hm=>by have h1:=pU t m hm;have a:=BW r m hm;simp only[eF];omega
end
theorem rY(f:aE)(m:Nat):ob m f=dz m f.type:=by cases f;rfl
theorem od(t:X)(m:Nat):dz m t=if 1<m then max (eS (m-1) t.Y) (eF (m-1) t.aK)+1 else 1:=by cases t;rfl
theorem gB(t:X):cW t=if gm t.kind t.size t.packed t.Y.length t.bg t.aK.length=acJ then 8
  else if t.kind=1 then(if el t.size 8 then 0 else 9)
  else if t.kind=2 then(if el t.size 16 then 0 else 9)
  else if t.kind=5 then(if t.bg<1\/65536<t.bg then 9 else JD t.aK)
  else if t.Y.length<1\/32<t.Y.length then 12
  else fB t.packed [] t.Y:=by cases t;rfl
theorem kV(packed:Bool)(a:List (List UInt8))(f:aE):gA packed a f=if ek f.V=acJ/\(f.V≠[]\/f.bits=acJ)then 6
  else if f.V≠[]/\a.contains f.V=acI then 7
  else if cW f.type≠0 then cW f.type
  else if(f.bits=acJ/\f.aQ≠0)\/(f.bits=acI/\(f.type.kind≠1\/packed=acI))then 8
  else if f.bits=acI/\(f.aQ<0\/8*f.type.size<f.aQ\/(f.aQ=0/\f.V≠[]))then 9
  else 0:=by cases f;rfl
section
variable{Φ:ad}{H:Z}{Q:aa}
theorem JH{n a:Int}(d:a=8\/a=16)(hQ:Q (.bool (el n a)) H):S.f161 Φ (D n) (D a) H Q:=by
 have e:∀b:Bool,b=el n a->Q (.bool b) H:=λb h=>by rw[h];exact hQ
 simp only[ag,S.f161,S.Bw,aw,T,eD,gl,O,bP,abW,b4];apply aG<;>intro h1
 . apply aG<;>intro c
   . simp only[ge_iff_le,dJ]at h1 c;have:n=1\/n=2\/n=3\/n=4\/n=5\/n=6\/n=7\/n=8\/n=9\/n=10\/n=11\/n=12\/n=13\/n=14\/n=15\/n=16:=by omega
     have hle:decide (n<=a)=acI:=by simpa using c
     simp only[eH,O,S0,bI];refine e _ ?_;unfold el;rw[hle,Bool.and_true];clear hle c h1 hQ e;rcases this with rfl|rfl|rfl|rfl|rfl|rfl|rfl|rfl|rfl|rfl|rfl|rfl|rfl|rfl|rfl|rfl<;>decide
   . refine e _ ?_;simp only[dJ]at c;simp[el,c]
 . refine e _ ?_;simp only[ge_iff_le,dJ]at h1;have:n≠1/\n≠2/\n≠4/\n≠8/\n≠16:=by omega
   simp[el,this]
theorem Tk{t:X}(hQ:Q (.bool (gm t.kind t.size t.packed t.Y.length t.bg t.aK.length)) H):S.f160 Φ (.agg t.cells) H Q:=by
 have e:∀b:Bool,b=gm t.kind t.size t.packed t.Y.length t.bg t.aK.length->Q (.bool b) H:=λb h=>by rw[h];exact hQ
 clear hQ;simp only[ag,S.f160,S.rP,S.rQ,S.xO,S.Bs,S.Bt,S.Bu,S.Bv,fC,aN,ca,h3,kp,lS,fN,lU,gK,bC,aw,T,bI,dg,O,bP,bF];generalize t.kind=k at *;generalize t.size=sz at *;generalize t.packed=g at *;generalize t.Y.length=i at *;generalize t.bg=j at *;generalize t.aK.length=ne at *;by_cases h1:k=1
 . subst h1;simp only[adD,adE,adF,abW,bc,b4,adG,adH]
   repeat' (apply aG<;>intro h)
   all_goals (refine e _ ?_;simp_all [gm])
 by_cases a:k=2
 . subst a;simp only[adD,adE,adF,abW,bc,b4,adG,adH]
   repeat' (apply aG<;>intro h)
   all_goals (refine e _ ?_;simp_all [gm])
 by_cases c:k=3
 . subst c;simp only[adD,adE,adF,abW,bc,b4,adG,adH]
   repeat' (apply aG<;>intro h)
   all_goals (refine e _ ?_;simp_all [gm])
 by_cases d:k=4
 . subst d;simp only[adD,adE,adF,abW,bc,b4,adG,adH]
   repeat' (apply aG<;>intro h)
   all_goals (refine e _ ?_;simp_all [gm])
 by_cases f:k=5
 . subst f;simp only[adD,adE,adF,abW,bc,b4,adG,adH]
   repeat' (apply aG<;>intro h)
   all_goals (refine e _ ?_;simp_all [gm])<;>(rw[acm];simp;try omega)
 . have g1:(k==1)=acJ:=by simpa using h1
   have g2:(k==2)=acJ:=by simpa using a
   have g3:(k==3)=acJ:=by simpa using c
   have g4:(k==4)=acJ:=by simpa using d
   have g5:(k==5)=acJ:=by simpa using f
   simp only[g1,g2,g3,g4,g5,adF,abW,bc,b4,adG,adH]
   repeat' (apply aG<;>intro h)
   all_goals (refine e _ ?_;simp_all [gm])
theorem Tl{t:X}{m:Nat}(w:1<=m)(y:m<=65)(o:t.Y.length<=maxLen)(p:t.aK.length<=maxLen)
  (hf:1<m->∀f∈t.Y,bD Φ 159 [.agg f.type.cells,D ((m-1:Nat):Int)] (D (dz (m-1) f.type)))
  (he:1<m->∀x∈t.aK,bD Φ 159 [.agg x.cells,D ((m-1:Nat):Int)] (D (dz (m-1) x)))
  (hQ:∀H',Q (D (dz m t)) H'):S.f159 Φ (.agg t.cells) (D m) H Q:=by
 have hm:maxLen=9223372036854775807:=by decide
 rw[hm]at o p;have k1:∀(v:Int)(H:Z),0<=v->v<=64->v+1=dz m t->G (S.xL Φ Q) [D v] H:=by intro v H z A hv;simp only[ag,aw,S.xL,T,bz,O];rw[bo,hv];exact hQ H
 unfold S.f159;simp only[ag];simp only[fC,aN,cV,O,au];apply aG<;>intro h
 . have d:1<m:=by simp at h;omega
   have n:abu .i64 ((m:Int)-1)=((m-1:Nat):Int):=by rw[bo];omega
   have B:=BW t.aK (m-1) (by omega);have C:=yb t.Y (m-1) (by omega);have E:dz m t=max (eS (m-1) t.Y) (eF (m-1) t.aK)+1:=by rw[od,ab d]
   have q:∀(xs:List X)(i:Nat)(acc:Int)(H:Z),t.aK.drop i=xs->0<=acc->acc<=64->max acc (eF (m-1) xs)+1=dz m t ->
     ar (S.xM Φ (D m) (av X.cells t.aK) (D t.aK.length) Q) ([D acc,D i],H):=by
    intro xs;induction xs with
    | nil=>intro i acc H a b c ha;have r:=c7 a;refine ar.step ?_;simp only[ag,S.xM,T,bE,aY,O,au];rw[cQ];refine k1 _ _ b c ?_;simp only[eF]at ha;omega
    | cons x xs g=>intro i acc H a b c ha;obtain⟨j,e,k⟩:=c4 a;have l:=adq e;refine ar.step ?_;simp only[ag,S.xM,T,bE,aY,O,au];rw[cM,b6 j];simp only[O];rw[c8 X.len (by decide) _ e];simp only[O,aN,bQ,bc];rw[cn _ _ _ 6 x.len x.scalar rfl];simp only[O];rw[eE,gJ x.len];simp only[O,eH,n];refine he d x l _ _ ?_;have U:=pU x (m-1) (by omega);rw[BV];simp only[O,bz];rw[bo,fj i];refine g (i+1) _ _ k (by omega) (by omega) ?_;simp only[eF]at ha;omega
   have s:∀(acc:Int)(H:Z),0<=acc->acc<=64->max acc (eF (m-1) t.aK)+1=dz m t->G (S.Br Φ (D m) (.ae t.cells) Q) [D acc] H:=by intro acc H b c ha;simp only[ag,aw,S.Br,T,ca,gK,bC,O];exact q t.aK 0 acc H rfl b c ha
   have u:∀(xs:List aE)(i:Nat)(acc:Int)(H:Z),t.Y.drop i=xs->0<=acc->acc<=64->max (max acc (eS (m-1) xs)) (eF (m-1) t.aK)+1=dz m t ->
     ar (S.xN Φ (D m) (.ae t.cells) (av aE.cells t.Y) (D t.Y.length) Q) ([D acc,D i],H):=by
    intro xs;induction xs with
    | nil=>intro i acc H a b c ha;have r:=c7 a;refine ar.step ?_;simp only[ag,S.xN,T,bE,aY,O,au];rw[cQ];refine s _ _ b c ?_;simp only[eS]at ha;omega
    | cons x xs g=>intro i acc H a b c ha;obtain⟨j,e,k⟩:=c4 a;have l:=adq e;refine ar.step ?_;simp only[ag,S.xN,T,bE,aY,O,au];rw[cM,b6 j];simp only[O];rw[c8 aE.len (by decide) _ e];simp only[O,aN,bQ,bc];rw[cn _ _ _ 9 x.len x.scalar rfl];simp only[O,aH,aa8];rw[eE,rX];simp only[O,eH,n];refine hf d x l _ _ ?_;have U:=pU x.type (m-1) (by omega);rw[BV];simp only[O,bz];rw[bo,fj i];refine g (i+1) _ _ k (by omega) (by omega) ?_;simp only[eS,rY]at ha;omega
   simp only[ca,fN,bC,O];refine u t.Y 0 0 H rfl (by omega) (by omega) ?_;omega
 . have d:m=1:=by simp at h;omega
   subst d;refine k1 0 H (by omega) (by omega) ?_;rw[od];rfl
end
end Rb
namespace Rb
open Go
variable{t:X}{p:aE->Bool}{key:Nat}{cd:List I}{xs:List aE}
section
variable{α:Type}{cells:α->List I}{sz:Nat}
theorem Tm(hc:∀x,(cells x).length=sz):∀(xs:List α)(i:Nat),(xs.flatMap cells).take (i*sz)=(xs.take i).flatMap cells:=by
 intro xs i;induction i generalizing xs with
 |zero=>simp
 | succ i a=>
  cases xs with
  |nil=>simp
  | cons x xs=>rw[ac0,List.take_succ_cons,ac0,<-a,show(i+1)*sz=(cells x).length+i*sz by rw[hc,aaV,adk,adl],List.take_length_add_append]
theorem JI(hc:∀x,(cells x).length=sz){xs:List α}{n:Nat}(hn:n<=xs.length):eC sz (av cells xs) acL (acK (D n)) acL=acK (av cells (xs.take n)):=by
 simp only[av,eC,fg,Option.map_none];rw[dN];simp only;rw[ab ⟨aaU _,by omega,S3 hc xs⟩];by_cases h:n=xs.length
 ·rw[oQ,h,adg]
 . rw[bL];have:((n:Int)).toNat=n:=by omega
   simp only[this,bc,Nat.sub_zero,ac_,adf,Tm hc];rw[adI,Nat.min_eq_left hn]
end
theorem yc{α:Type}(p:α->Bool)(xs:List α):decide (fb (xs.findIdx? p)>=0)=xs.any p:=by
 cases hf:xs.findIdx? p with
 | none=>
  rw[List.findIdx?_eq_none_iff]at hf;have:xs.any p=acJ:=by simpa using hf
  rw[this];rfl
 | some i=>
  obtain⟨hi,h1,_⟩:=List.findIdx?_eq_some_iff_getElem.1 hf;have:xs.any p=acI:=by rw[acj];exact⟨xs[i],List.getElem_mem hi,h1⟩
  rw[this];simp[fb]
section
variable{Φ:ad}{H:Z}{Q:aa}
theorem fieldIndex(hf:∀x∈xs,∀(R:aa),R (.bool (p x)) H->Φ key ([.agg x.cells]++cd) H R)(hl:xs.length<=9223372036854775807)
  (hQ:Q (D (fb (xs.findIdx? p))) H) (a:iC key=acL:=by first|assumption|rfl):S.f64 Φ (av aE.cells xs) (.fn key cd) H Q:=by
 have h:rV 9 Φ (av aE.cells xs) (.fn key cd) H Q:=BQ aE.len (by decide) hf hl hQ;exact h
theorem BX(hT:Cl Φ S.b7)(hf:∀x∈xs,∀(R:aa),R (.bool (p x)) H->Φ key ([.agg x.cells]++cd) H R)(hl:xs.length<=9223372036854775807)
  (hQ:Q (.bool (xs.any p)) H) (a:iC key=acL:=by first|assumption|rfl):Φ 129 [av aE.cells xs,.fn key cd] H Q:=by
 refine S.RY hT ?_;unfold S.f129;simp only[ag];refine S.x7 hT (fieldIndex hf hl ?_);simp only[eD,O,yc];exact hQ
theorem Tn{g:aE}{cs:List I}{id:Nat}{s:List UInt8}(a:At H id (.row cs))(ht:bO cs 0 1 acJ=acK (.str s))(hQ:Q (.bool (g.V==s)) H):S.f215 Φ (.agg g.cells) (.ptr id 0) H Q:=by
 unfold S.f215;simp only[ag];have U:b5 H acJ 9 (.agg g.cells)=acK (.ae g.cells,H):=by unfold b5;rw[ab ⟨rfl,g.len⟩];rfl
 rw[U];have l0:aj H 1 acJ (.ae (g.cells.drop 0))=acK (.str g.V):=oc g;have l1:aj H 1 acJ (.ptr id 0)=acK (.str s):=by rw[a.load];exact ht
 simp only[aN,aH,O,l0,aaY,l1,fD];exact hQ
theorem To(hT:Cl Φ S.b7){i:Nat}{f:aE}(hi:t.Y[i]?=acK f)(hl:t.Y.length<=32)(hs:bD Φ 110 [.agg f.type.cells] (D (cW f.type)))(w:∀s,bD Φ 92 [.str s] (.bool (ek s)))
  (hQ:∀H',Q (D (gA t.packed ((t.Y.take i).map aE.V) f)) H'):S.f197 Φ (.agg t.cells) (D i) H Q:=by
 have o:=(aal.1 hi).1;unfold S.f197;simp only[ag];simp only[fC,aN,ca,fN,O];rw[b6 o];simp only[O];rw[c8 aE.len (by decide) _ hi];simp only[O,aN,bQ,bc];rw[cn _ _ _ 9 f.len f.scalar rfl];simp only[O,aH,aaY,aa8];have r0:aj (H.push (.row f.cells)) 1 acJ (.ptr H.n 0)=acK (.str f.V):=by rw[eE,oc]
 have d:aj (H.push (.row f.cells)) 1 acJ (.ptr H.n 7)=acK (.bool f.bits):=by rw[eE,ya]
 have q:aj (H.push (.row f.cells)) 1 acJ (.ptr H.n 8)=acK (D f.aQ):=by rw[eE,BS]
 have r1:aj (H.push (.row f.cells)) 6 acI (.ptr H.n 1)=acK (.agg f.type.cells):=by rw[eE,rX]
 have y:aj (H.push (.row f.cells)) 1 acJ (.ptr H.n 1)=acK (D f.type.kind):=by rw[eE,BU]
 have rs:aj (H.push (.row f.cells)) 1 acJ (.ptr H.n 2)=acK (D f.type.size):=by rw[eE,JE]
 have z:=At.new H (.row f.cells);generalize I:H.push (.row f.cells)=H1 at *;have fin:∀v,v=gA t.packed ((t.Y.take i).map aE.V) f->Q (D v) H1:=λv h=>by rw[h];exact hQ H1
 rw[r0];simp only[O];refine w _ _ _ ?_;have A : ¬ (ek f.V=acJ/\(f.V≠[]\/f.bits=acJ))->¬(f.V≠[]/\((t.Y.take i).map aE.V).contains f.V=acI)->S.BF Φ (.ae t.cells) (.ptr H.n 0) Q [] H1:=by
  intro n1 n2;have e1:gA t.packed ((t.Y.take i).map aE.V) f=if cW f.type≠0 then cW f.type
    else if(f.bits=acJ/\f.aQ≠0)\/(f.bits=acI/\(f.type.kind≠1\/t.packed=acI))then 8
    else if f.bits=acI/\(f.aQ<0\/8*f.type.size<f.aQ\/(f.aQ=0/\f.V≠[]))then 9
    else 0:=by rw[kV,af n1,af n2]
  rw[e1]at fin;clear e1;simp only[ag,S.BF,aH,aa8,O,r1];refine hs _ _ ?_;simp only[cC,O,au];apply aG<;>intro h
  ·exact fin _ (by rw[ab (by simpa using h)])
  . have c : cW f.type=0:=by simpa using h
    rw[af (by simpa using c)]at fin;have k2 : ∀ b:Bool,(b=acI↔((f.bits=acJ/\f.aQ≠0)\/(f.bits=acI/\(f.type.kind≠1\/t.packed=acI))))->G (S.pP Φ (.ptr H.n 0) Q) [.bool b] H1:=by
     intro b U;simp only[ag,aw,S.pP,T,au,aH,aa8,O,d];apply aG<;>intro h
     ·exact fin _ (by rw[ab (U.1 h)])
     . have hn : ¬((f.bits=acJ/\f.aQ≠0)\/(f.bits=acI/\(f.type.kind≠1\/t.packed=acI))):=λx=>h (U.2 x);rw[af hn]at fin;have k1:∀b:Bool,(b=acI↔(f.bits=acI/\(f.aQ<0\/8*f.type.size<f.aQ\/(f.aQ=0/\f.V≠[]))))->G (S.nZ Φ Q) [.bool b] H1:=by
        intro b U;simp only[aw,S.nZ,T,au];apply aG<;>intro h
        ·exact fin _ (by rw[ab (U.1 h)])
        ·exact fin _ (by rw[af λx=>h (U.2 x)])
       simp only[bP];apply aG<;>intro a
       . have B:f.type.kind=1:=by
           by_cases hk:f.type.kind=1
           ·exact hk
           ·exact absurd (.inr ⟨a,.inl hk⟩) hn
         have J:1<=f.type.size/\f.type.size<=8:=by
          rw[gB,B]at c;split at c
          ·cases c
          . simp only[bc]at c;split at c
            . rename_i hp;simp[el]at hp;omega
            ·cases c
         simp only[q,aY,O,bF];apply aG<;>intro hw
         . simp only[rs,O,gk];rw[bo];simp only[cV,O,bF];apply aG<;>intro e
           . simp only[bI,O,bP];apply aG<;>intro j
             . simp only[r0,O,kU];refine k1 _ ?_;simp only[decide_eq_false_iff_not,gt_iff_lt,bZ]at hw e j;simp[a,j];omega
             . refine k1 _ ?_;simp only[decide_eq_false_iff_not,gt_iff_lt,bZ]at hw e j;simp[a,j];omega
           . refine k1 _ ?_;simp only[decide_eq_false_iff_not,adJ,gt_iff_lt]at e;simp[a,e]
         . refine k1 _ ?_;simp only[decide_eq_false_iff_not,adJ]at hw;simp[a,hw]
       . refine k1 _ ?_;simp[a]
    have r : ∀b:Bool,(b=acI↔(f.bits=acJ/\f.aQ≠0))->G (S.x0 Φ (.ae t.cells) (.ptr H.n 0) Q) [.bool b] H1:=by
     intro b U;simp only[ag,aw,S.x0,T,bF,aH,aa8,O,d];apply aG<;>intro h
     . have hn:¬(f.bits=acJ/\f.aQ≠0):=λx=>by rw[U.2 x]at h;cases h
       simp only[bP];apply aG<;>intro a
       . simp only[y,cC,O,bF];apply aG<;>intro hk
         . have C:aj H1 1 acJ (.ae (t.cells.drop 2))=acK (.bool t.packed):=lS t H1;simp only[C,O];refine k2 _ ?_;simp only[bne_eq_false_iff_eq]at hk;simp[a,hk]
         . refine k2 _ ?_;simp only[adC,bne_iff_ne,ne_eq]at hk;simp[a,hk]
       . refine k2 _ ?_;simp only[adB]at a;simp only[a]at hn ⊢;simp at hn;simp[hn]
     . refine k2 _ ?_;have:=U.1 (by simpa using h);simp[this]
    simp only[aH,aa8,O,d,dg,bP,q,cC];apply aG<;>intro a
    . refine r _ ?_;simp only[ab_]at a;simp[a]
    . refine r _ ?_;simp only[ab_,adC]at a;simp[a]
 have u:∀b:Bool,¬(ek f.V=acJ/\(f.V≠[]\/f.bits=acJ))->(b=acI↔(f.V≠[]/\((t.Y.take i).map aE.V).contains f.V=acI))->G (S.x1 Φ (.ae t.cells) (.ptr H.n 0) Q) [.bool b] H1:=by
  intro b n1 U;simp only[aw,S.x1,T,au];apply aG<;>intro h
  ·exact fin _ (by rw[kV,af n1,ab (U.1 h)])
  ·exact A n1 λx=>h (U.2 x)
 have m : ∀b:Bool,(b=acI↔(ek f.V=acJ/\(f.V≠[]\/f.bits=acJ)))->G (S.rR Φ (D i) (.ae t.cells) (.ptr H.n 0) Q) [.bool b] H1:=by
  intro b U;simp only[ag,aw,S.rR,T,au,aH,aa8,aaY,O,r0,kU,bP];apply aG<;>intro h
  ·exact fin _ (by rw[kV,ab (U.1 h)])
  . have n1:¬(ek f.V=acJ/\(f.V≠[]\/f.bits=acJ)):=λx=>h (U.2 x);apply aG<;>intro k
    . have E:aj H1 1 acJ (.ae (t.cells.drop 3))=acK (av aE.cells t.Y):=fN t H1;simp only[E,O];rw[JI aE.len (Nat.le_of_lt o)];simp only[O];refine BX hT (p:=λg=>g.V==f.V) (λx K R F=>?_) (by rw[adI];omega) ?_
      ·exact S.SH hT (Tn z (oc f) F)
      . refine u _ n1 ?_;simp only[ab_,beq_eq_false_iff_ne,ne_eq]at k;rw[acj,List.contains_iff_mem,List.mem_map];simp only[bZ,ne_eq,k,not_false_eq_true,true_and]
    . refine u _ n1 ?_;simp only[ab_,beq_eq_false_iff_ne,ne_eq,adJ]at k;simp[k]
 simp only[dg,O,bP,r0,kU,bF,d];apply aG<;>intro h1
 . simp only[ab_]at h1;apply aG<;>intro l
   . refine m _ ?_;simp only[adK,bZ]at l;simp[h1,l,ek]
   . refine m _ ?_;simp only[adK,bZ]at l;simp[h1,l]
 . refine m _ ?_;simp only[ab_,adC]at h1;simp[h1]
theorem Tp(hl:t.Y.length<=maxLen)
  (e:t.Y.length<=32->∀(i:Nat)(f:aE),t.Y[i]?=acK f->bD Φ 197 [.agg t.cells,D i] (D (gA t.packed ((t.Y.take i).map aE.V) f)))
  (hQ:Q (D (if t.Y.length<1\/32<t.Y.length then 12 else fB t.packed [] t.Y)) H):S.f162 Φ (.agg t.cells) H Q:=by
 have fin:∀v,v=(if t.Y.length<1\/32<t.Y.length then 12 else fB t.packed [] t.Y)->Q (D v) H:=λv h=>by rw[h];exact hQ
 clear hQ;unfold S.f162;simp only[ag];simp only[fC,aN,ca,fN,bC,aY,cV,O,bF];have d : ∀b:Bool,(b=acI↔(t.Y.length<1\/32<t.Y.length))->G (S.xQ Φ (.ae t.cells) Q) [.bool b] H:=by
  intro b U;simp only[aw,S.xQ,T,au];apply aG<;>intro h
  ·exact fin _ (by rw[ab (U.1 h)])
  . have hn:¬(t.Y.length<1\/32<t.Y.length):=λx=>h (U.2 x);rw[af hn]at fin;simp only[ag,S.IU,ca,fN,bC,O];have main:∀(rest:List aE)(i:Nat),t.Y.drop i=rest->fB t.packed ((t.Y.take i).map aE.V) rest=fB t.packed [] t.Y->ar (S.xP Φ (.ae t.cells) (D t.Y.length) Q) ([D i],H):=by
     intro rest;induction rest with
     | nil=>intro i a hs;have hle:=c7 a;refine ar.step ?_;simp only[ag,S.xP,T,aY,O,au];rw[cQ];exact fin _ (by rw[<-hs];rfl)
     | cons f rest g=>
      intro i a hs;obtain⟨k,hf,j⟩:=c4 a;refine ar.step ?_;simp only[ag,S.xP,T,aY,O,au];rw[cM];simp only[hD,O];refine e (by omega) i f hf _ _ ?_;simp only[cC,O,au];simp only[fB]at hs;apply aG<;>intro h
      . have c:gA t.packed ((t.Y.take i).map aE.V) f≠0:=by simpa using h
        rw[ab c]at hs;exact fin _ hs
      . have c:¬gA t.packed ((t.Y.take i).map aE.V) f≠0:=by simpa using h
        rw[af c]at hs;simp only[bz,O];rw[bo,fj i];refine g (i+1) j ?_;rw[adw,hf];simpa using hs
    exact main t.Y 0 rfl rfl
 apply aG<;>intro h
 . refine d _ ?_;simp only[decide_eq_false_iff_not]at h;simp only[dJ,gt_iff_lt];omega
 . refine d _ ?_;simp only[decide_eq_false_iff_not,adJ]at h;simp only[true_iff];omega
theorem Tq(hT:Cl Φ S.b7)(f:bD Φ 162 [.agg t.cells] (D (if t.Y.length<1\/32<t.Y.length then 12 else fB t.packed [] t.Y)))
  (g:∀e∈t.aK,bD Φ 110 [.agg e.cells] (D (cW e))) (hQ:Q (D (cW t)) H):S.f110 Φ (.agg t.cells) H Q:=by
 have fin:∀v,v=cW t->Q (D v) H:=λv h=>by rw[h];exact hQ
 clear hQ;rw[gB]at fin;unfold S.f110;simp only[ag];simp only[fC,aN,hD,O];refine S.Sp hT (Tk ?_);simp only[dg,O,au];apply aG<;>intro h
 ·exact fin _ (by rw[ab (by simpa using h)])
 . have c : gm t.kind t.size t.packed t.Y.length t.bg t.aK.length=acI:=by simpa using h
   rw[c]at fin;simp only[adF,b4]at fin;simp only[ca,h3,kp,lU,gK,bI,aY,cV,O,au,bF,bZ];apply aG<;>intro h1
   . rw[ab h1]at fin;refine S.Jn hT (JH (.inl rfl) ?_);simp only[dg,O,au];apply aG<;>intro a
     ·exact fin _ (by rw[af (by simpa using a)])
     ·exact fin _ (by rw[ab (by simpa using a)])
   . rw [af h1]at fin;apply aG<;>intro a
     . rw[ab a]at fin;refine S.Jn hT (JH (.inr rfl) ?_);simp only[dg,O,au];apply aG<;>intro a
       ·exact fin _ (by rw[af (by simpa using a)])
       ·exact fin _ (by rw[ab (by simpa using a)])
     . rw [af a]at fin;apply aG<;>intro d
       . rw [ab d]at fin;obtain ⟨e,he⟩:∃e,t.aK=[e]:=by
          have:t.aK.length=1:=by simp only[gm,d]at c;simp at c;exact c.2
          exact adL.1 this
         have k2:∀b:Bool,(b=acI↔(t.bg<1\/65536<t.bg))->G (S.xm Φ (.ae t.cells) Q) [.bool b] H:=by
          intro b U;simp only[aw,S.xm,T,au];apply aG<;>intro h
          ·exact fin _ (by rw[ab (U.1 h)])
          . rw[af λx=>h (U.2 x)]at fin;simp only[ag,S.H6,ca,gK,O];have ha:aL acL 6 (av X.cells t.aK) (J)=acK (di X.cells 6 t.aK 0):=b6 (by rw[he];simp);rw[ha];simp only[O];rw[c8 X.len (by decide) _ (show t.aK[0]?=acK e by rw[he];rfl)];simp only[O];refine g e (by rw[he];simp) _ _ ?_;exact fin _ (by rw[he];rfl)
         apply aG<;>intro h
         . refine k2 _ ?_;have i:¬t.bg<1:=by simpa using h
           simp only[dJ,gt_iff_lt];omega
         . refine k2 _ ?_;have i:t.bg<1:=by simpa using h
           simp only[true_iff];omega
       . rw[af d]at fin;refine f _ _ ?_;exact fin _ rfl
end
section
variable{C:Ctx}(ak:cP C)(hT:Cl (ai C) S.b7)
include ak hT
theorem BZ(s:List UInt8):bD (ai C) 92 [.str s] (.bool (ek s)):=bD.of ak rfl rfl λQ hQ=>S.RA hT (Ti hT hQ)
theorem Tr:∀(m:Nat),1<=m->m<=65->∀t:X,t.ok->bD (ai C) 159 [.agg t.cells,D m] (D (dz m t)):=by
 intro m;induction m with
 |zero=>intro h;omega
 | succ m b=>
  intro _ hm t ht;have a:t.Y.length<=maxLen/\(∀f∈t.Y,f.ok)/\t.aK.length<=maxLen/\∀e∈t.aK,e.ok:=by
   cases t with
   | mk kind size packed Y bg aK=>obtain⟨_,_,h1,c,_,d,g⟩:=ht;exact⟨h1,aE.eG.1 c,d,X.eG.1 g⟩
  refine bD.of ak (by simp[I.bV,I.bu,X.bu]) rfl λQ hQ=>S.Sn hT (Tl (by omega) hm a.1 a.2.2.1 (λh1 f hf=>?_) (λh1 e he=>?_) hQ)
  . have:=b (by omega) (by omega) f.type (by have:=a.2.1 f hf;cases f;exact this.2.1);exact this
  ·exact b (by omega) (by omega) e (a.2.2.2 e he)
theorem Ts:∀t:X,t.ok->bD (ai C) 110 [.agg t.cells] (D (cW t)):=by
 refine X.ind λt c d ht=>?_;have a:t.Y.length<=maxLen/\(∀f∈t.Y,f.ok)/\t.aK.length<=maxLen/\∀e∈t.aK,e.ok:=by
  cases t with
  | mk kind size packed Y bg aK=>obtain⟨_,_,h1,g,_,h,j⟩:=ht;exact⟨h1,aE.eG.1 g,h,X.eG.1 j⟩
 have k:t.Y.length<=32->∀(i:Nat)(f:aE),t.Y[i]?=acK f->bD (ai C) 197 [.agg t.cells,D i] (D (gA t.packed ((t.Y.take i).map aE.V) f)):=by intro hl i f hf;have b:=adq hf;exact bD.of ak (by simp[I.bV,I.bu,X.bu]) rfl λQ hQ=>S.SE hT (To hT hf hl (c f b (by have:=a.2.1 f b;cases f;exact this.2.1)) (BZ ak hT) hQ)
 have l:bD (ai C) 162 [.agg t.cells] (D (if t.Y.length<1\/32<t.Y.length then 12 else fB t.packed [] t.Y)):=
  λH Q hQ=>S.Sq hT (Tp a.1 k hQ)
 exact λH Q hQ=>S.RU hT (Tq hT l (λe he=>d e he (a.2.2.2 e he)) hQ)
theorem JJ(t:X)(ht:t.ok):bD (ai C) 62 [.agg t.cells] (D (dK t)):=by
 intro H Q hQ;refine S.Rg hT ?_;unfold S.f62;simp only[ag];simp only[fC,aN,hD,O];refine S.RT hT ?_;unfold S.f109;simp only[ag];simp only[fC,aN,hD,O];refine Tr ak hT 65 (by omega) (by omega) t ht _ _ ?_;simp only[cV,O,au];unfold dK at hQ;apply aG<;>intro h
 ·rw[ab (by simpa using h)]at hQ;exact hQ
 . rw[af (by simpa using h)]at hQ;exact Ts ak hT t ht _ _ hQ
end
end Rb
namespace Rb
open Go
variable{t:X}{x:aI}{id n:Nat}{cs:List I}
def dG:List I:=[J,J,P,A,J,A]
def gn(r:Int×X):I:=if r.1=0 then .aA [.agg r.2.cells,J]else .aA [.agg dG,D r.1]
def c6(t:X)(x:aI):Int×X:=
 if 1<x.aS.length\/(x.aS.length=1↔x.field≠[])then(8,t)
 else if x.aS.length=1/\t.kind=5 then(match t.aK with|e::_=>(0,e)|[]=>(8,t))
 else if x.aS.length=1\/¬(t.kind=3\/t.kind=4)then(8,t)
 else match t.Y.find? (λf=>f.V==x.field)with|some f=>(0,f.type)|none=>(6,t)
def cj:X->List aI->Int×X
 |t,[]=>(0,t)
 |t,p::r=>if(c6 t p).1≠0 then c6 t p else cj (c6 t p).2 r
def bG(vars:List aB)(x:aJ):Int×X:=
 match vars.find? (λv=>v.V==x.var)with
 |none=>(6,⟨0,0,acJ,[],0,[]⟩)
 |some v=>if dK v.type≠0 then(dK v.type,v.type)else cj v.type x.ax
theorem oe{packed:Bool}:∀{l:List aE}{seen:List (List UInt8)},fB packed seen l=0->∀f∈l,cW f.type=0
 |[],_,_,f,hf=>by cases hf
 | g :: r,seen,h,f,hf=>by
  simp only[fB]at h;have a:gA packed seen g=0:=by
   by_cases hz:gA packed seen g=0
   ·exact hz
   ·rw[ab hz]at h;exact absurd h hz
  rw[af (by simpa using a)]at h;rcases List.mem_cons.1 hf with rfl|hf
  . rw [kV]at a;split at a
    ·cases a
    . split at a
      ·cases a
      . split at a
        ·rename_i hz;exact absurd a hz
        ·rename_i hz;simpa using hz
  ·exact oe h f hf
theorem kq(h:cW t=0)(b:t.kind=5):∃e,t.aK=[e]/\cW e=0:=by
 rw[gB,b]at h;split at h
 ·cases h
 . rename_i a;simp only[adC]at a;obtain ⟨e,he⟩:∃e,t.aK=[e]:=by
    have:t.aK.length=1:=by simp[gm]at a;exact a.2
    exact adL.1 this
   refine⟨e,he,?_⟩;simp at h;split at h
   ·cases h
   ·rw[he]at h;exact h
theorem lV(h:cW t=0)(b:t.kind=3\/t.kind=4):(∀f∈t.Y,cW f.type=0)/\t.Y.length<=32:=by
 rw[gB]at h;have k1:t.kind≠1:=by omega
 have k2:t.kind≠2:=by omega
 have a:t.kind≠5:=by omega
 rw[af k1,af k2,af a]at h;split at h
 ·cases h
 . split at h
   ·cases h
   ·exact⟨λf hf=>oe h f hf,by omega⟩
theorem JK(h:cW t=0)(a:(c6 t x).1=0):cW (c6 t x).2=0:=by
 unfold c6 at a ⊢;split
 ·rename_i hc;rw[ab hc]at a;cases a
 . rename_i hc;rw[af hc]at a;split
   ·rename_i hc;obtain⟨e,he,hs⟩:=kq h hc.2;rw[he];exact hs
   . rename_i hc;rw[af hc]at a;split
     ·rename_i hc;rw[ab hc]at a;cases a
     . rename_i hc;rw[af hc]at a;split
       . rename_i f hf;exact(lV h (by omega)).1 f (List.mem_of_find?_eq_some hf)
       ·rename_i hf;rw[hf]at a;cases a
theorem mq{α:Type}(p:α->Bool)(xs:List α):(∃i x,xs.findIdx? p=acK i/\xs.find? p=acK x/\xs[i]?=acK x)\/(xs.findIdx? p=acL/\xs.find? p=acL):=by
 induction xs with
 |nil=>right;simp
 | cons y d b=>
  rw[adr,List.find?_cons];by_cases h:p y=acI
  ·left;exact⟨0,y,by simp[h],by simp[h],rfl⟩
  . simp only[h,b4,abW];rcases b with⟨i,x,h1,a,c⟩|⟨h1,a⟩
    ·left;exact⟨i+1,x,by simp[h1],by simp[a],by simpa using c⟩
    ·right;simp[h1,a]
section
variable{Φ:ad}{H:Z}{Q:aa}
theorem At.put{H:Z}{cs ds:List I}(h:At H id (.row cs))(hc:cs.length=n)(a:ds.length=n)(hs:ds.all I.scalar=acI):cf H n (.ptr id 0) (.agg ds)=acK (H.set id (.row ds)):=by rw[h.store,ab ⟨rfl,a,hs,by omega⟩];congr 3;show setCells cs 0 ds=ds;rw[BR (by omega)];rfl
theorem At.all{H:Z}(h:At H id (.row cs))(hc:cs.length=n):aj H n acI (.ptr id 0)=acK (.agg cs):=by rw[h.load,gJ hc]
theorem JL(x:aI)(H:Z):b5 H acJ 2 (.agg x.cells)=acK (.ae x.cells,H):=by unfold b5;rw[ab ⟨rfl,x.len⟩];rfl
theorem yd(x:aI)(i:Nat):aH i (.ae x.cells)=acK (.ae (x.cells.drop i)):=rfl
theorem B0(x:aI)(H:Z):aj H 1 acJ (.ae (x.cells.drop 0))=acK (.str x.field):=by rw[aI.aX];rfl
theorem ye(x:aI)(H:Z):aj H 1 acJ (.ae (x.cells.drop 1))=acK (av E.cells x.aS):=by rw[aI.aX];rfl
theorem yf:bS [J,J,P,A,J,A] []=acK (.agg dG):=rfl
theorem Tt{g:aE}(hQ:Q (.bool (g.V==x.field)) H):S.f111 Φ (.agg g.cells) (.ae x.cells) H Q:=by
 unfold S.f111;simp only[ag];have U:b5 H acJ 9 (.agg g.cells)=acK (.ae g.cells,H):=by unfold b5;rw[ab ⟨rfl,g.len⟩];rfl
 have l0:aj H 1 acJ (.ae (g.cells.drop 0))=acK (.str g.V):=oc g;have l1:aj H 1 acJ (.ae (x.cells.drop 0))=acK (.str x.field):=B0 x H;rw[U];simp only[aN,aH,O,l0,l1,fD];exact hQ
theorem Tu(hT:Cl Φ S.b7)(hs:cW t=0)(hl:x.aS.length<=maxLen)(hQ:∀H',Q (gn (c6 t x)) H'):S.f63 Φ (.agg t.cells) (.agg x.cells) H Q:=by
 have fin:∀v H',v=gn (c6 t x)->Q v H':=λv H' h=>by rw[h];exact hQ H'
 clear hQ;unfold S.f63;simp only[ag];simp only[fC,JL,aN,ca,h3,bI,O,bF,aw,bQ,bc];have a:=At.new H (.row dG);change At (H.push (.row [J,J,P,A,J,A])) H.n _ at a;generalize (H.push (.row [J,J,P,A,J,A]))=H1 at *;generalize H.n=id at *;have bad:∀e:Int,e≠0->(c6 t x).1=e->Do (bS [J,J,P,A,J,A] []) λF=>
   Do (cf H1 6 (.ptr id 0) F) λq=>
   Do (aj q 6 acI (.ptr id 0)) λG=>
   Q (.aA [G,(D e)]) q:=by
  intro e he h;rw[yf];simp only[O];rw[a.put (n:=6) rfl rfl rfl];simp only[O];rw[(a.set _).all (n:=6) rfl];simp only[O];refine fin _ _ ?_;unfold gn;rw[h,af he]
 have r:∀u:X,c6 t x=(0,u)->∀H1,At H1 id (.row dG)->Do (cf H1 6 (.ptr id 0) (.agg u.cells)) λs=>
   Do (aj s 6 acI (.ptr id 0)) λI=>
   Q (.aA [I,J]) s:=by
  intro u hu H1 a;rw[a.put (n:=6) rfl u.len u.scalar];simp only[O];rw[(a.set _).all u.len];simp only[O];refine fin _ _ ?_;unfold gn;rw[hu];rfl
 have w : ∀ b : Bool,(b=acI↔(t.kind=3\/t.kind=4))->S.wx Φ (.ae t.cells) (.ae x.cells) (.ptr id 0) Q [.bool b] H1:=by
  intro b U;have z : ∀ c : Bool,(c=acI↔(1<x.aS.length\/(x.aS.length=1↔x.field≠[])))->S.wv Φ (.ae t.cells) (.ae x.cells) (.ptr id 0) [.bool b] Q [.bool c] H1:=by
   intro c hc;simp only[ag,S.wv,T,au];apply aG<;>intro h
   ·exact bad 8 (by decide) (by unfold c6;rw[ab (hc.1 h)])
   . have n1 : ¬(1<x.aS.length\/(x.aS.length=1↔x.field≠[])):=λy=>h (hc.2 y);have B : ∀d:Bool,(d=acI↔(x.aS.length=1/\t.kind=5))->S.wu Φ (.ae t.cells) (.ae x.cells) (.ptr id 0) [.bool b] Q [.bool d] H1:=by
      intro d j;simp only[ag,S.wu,T,au];apply aG<;>intro h
      . obtain⟨h1,C⟩:=j.1 h;obtain⟨e,he,_⟩:=kq hs C;simp only[ca,gK,O];have ha:aL acL 6 (av X.cells t.aK) (J)=acK (di X.cells 6 t.aK 0):=b6 (by rw[he];simp);rw[ha];simp only[O];rw[c8 X.len (by decide) _ (show t.aK[0]?=acK e by rw[he];rfl)];simp only[O];exact r e (by unfold c6;rw[af n1,ab ⟨h1,C⟩,he]) _ a
      . have n2 : ¬(x.aS.length=1/\t.kind=5):=λy=>h (j.2 y);have k2 : ∀g:Bool,(g=acI↔(x.aS.length=1\/¬(t.kind=3\/t.kind=4)))->S.wt Φ (.ae t.cells) (.ae x.cells) (.ptr id 0) Q [.bool g] H1:=by
         intro g E;simp only[ag,S.wt,T,au];apply aG<;>intro h
         ·exact bad 8 (by decide) (by unfold c6;rw[af n1,af n2,ab (E.1 h)])
         . have n3:¬(x.aS.length=1\/¬(t.kind=3\/t.kind=4)):=λy=>h (E.2 y);have K:t.kind=3\/t.kind=4:=by omega
           obtain⟨_,hlen⟩:=lV hs K;simp only[ag,aw,S.Hd,ca,fN,O];refine S.x7 hT ?_;refine fieldIndex (p:=λf=>f.V==x.field) (λf _ R L=>S.RV hT (Tt L)) (by omega) ?_;simp only[aY,O,au];rcases mq (λf:aE=>f.V==x.field) t.Y with⟨i,f,h1,l,k⟩|⟨h1,l⟩
           . rw [h1];have m:=(aal.1 k).1;rw[af (by show ¬(decide ((i:Int)<0)=acI);rw[dJ];omega)];simp only[fb];rw[b6 m];have M:aj H1 6 acI (.ae (((t.Y.flatMap aE.cells).drop (i*9)).drop 1))=acK (.agg f.type.cells):=by
              show bO _ 0 6 acI=_;rw[mm aE.len];have j:t.Y.drop i=f::t.Y.drop (i+1):=by rw[adn m];rw[abb m]at k;simp at k;rw[k]
              rw[j,ac0,aE.aX,abZ,adj,adf,List.append_assoc];exact mo f.type.len
             simp only[O,di,aH,M];exact r f.type (by unfold c6;rw[af n1,af n2,af n3,l]) _ a
           . rw[h1,ab (by simp[fb])];exact bad 6 (by decide) (by unfold c6;rw[af n1,af n2,af n3,l])
        simp only[yd,ye,bC,bI,O,bF,aw,dg];apply aG<;>intro h
        . refine k2 _ ?_;simp only[beq_eq_false_iff_ne,ne_eq]at h;have:¬x.aS.length=1:=by omega
          rw[<-U];simp[this]
        . refine k2 _ ?_;simp only[adC,bZ]at h;have:x.aS.length=1:=by omega
          simp[this]
     simp only[yd,ye,bC,bI,O,bP,aw,ca,h3];apply aG<;>intro h
     . refine B _ ?_;simp only[bZ]at h;have:x.aS.length=1:=by omega
       simp[this]
     . refine B _ ?_;simp only[bZ]at h;have:¬x.aS.length=1:=by omega
       simp[this]
  simp only[ag,S.wx,yd,B0,ye,bC,cV,bI,kU,S1,abW,b4,O,bF,aw];apply aG<;>intro h
  . refine z _ ?_;simp only[decide_eq_false_iff_not,gt_iff_lt]at h;have o:¬1<x.aS.length:=by omega
    simp only[o,false_or];by_cases hf:x.field=[]
    . by_cases h1:x.aS.length=1
      ·simp[hf,h1]
      . have:¬((x.aS.length:Int)=1):=by omega
        simp[hf,h1,this]
    . by_cases h1:x.aS.length=1
      ·simp[hf,h1]
      . have e1:((x.aS.length:Int)==1)=acJ:=by rw[beq_eq_false_iff_ne];omega
        have N:x.field.isEmpty=acJ:=by simpa using hf
        simp[hf,h1,e1,N]
  . refine z _ ?_;simp only[decide_eq_false_iff_not,gt_iff_lt,adJ]at h;have o:1<x.aS.length:=by omega
    simp[o]
 apply aG<;>intro h
 . refine w _ ?_;simp only[beq_eq_false_iff_ne,ne_eq]at h;simp[h]
 . refine w _ ?_;simp only[adC,bZ]at h;simp[h]
end
end Rb
namespace Rb
open Go
variable{vars:List aB}{x:aJ}
theorem Tv:I.bV dG=acI:=rfl
theorem B1(r:Int×X):(gn r).bu=acI:=by
 unfold gn;split
 ·simp[I.bu,I.bV,X.bu]
 ·simp[I.bu,I.bV,Tv]
theorem pV(v:aB):bO v.cells 0 1 acJ=acK (.str v.V):=by unfold bO;rw[ab (by rw[v.len];omega)];rfl
theorem yg(v:aB)(H:Z){i:Nat}(h:vars[i]?=acK v):aj H 6 acI (.ae (((vars.flatMap aB.cells).drop (i*7)).drop 1))=acK (.agg v.type.cells):=by
 have a:=(aal.1 h).1;show bO _ 0 6 acI=_;rw[mm aB.len];have b:vars.drop i=v::vars.drop (i+1):=by rw[adn a];rw[abb a]at h;simp at h;rw[h]
 rw[b,ac0,aB.cells,abZ,adj,adf];exact mo v.type.len
theorem yh(x:aJ)(H:Z):b5 H acJ 2 (.agg x.cells)=acK (.ae x.cells,H):=by unfold b5;rw[ab ⟨rfl,x.len⟩];rfl
theorem og(x:aJ)(i:Nat):aH i (.ae x.cells)=acK (.ae (x.cells.drop i)):=rfl
theorem B2(x:aJ)(H:Z):aj H 1 acJ (.ae (x.cells.drop 0))=acK (.str x.var):=by rw[aJ.aX];rfl
theorem oh(x:aJ)(H:Z):aj H 1 acJ (.ae (x.cells.drop 1))=acK (av aI.cells x.ax):=by rw[aJ.aX];rfl
section
variable{Φ:ad}{H:Z}{Q:aa}
theorem Tw{v:aB}(hQ:Q (.bool (v.V==x.var)) H):S.f61 Φ (.agg v.cells) (.ae x.cells) H Q:=by
 unfold S.f61;simp only[ag];have U:b5 H acJ 7 (.agg v.cells)=acK (.ae v.cells,H):=by unfold b5;rw[ab ⟨rfl,v.len⟩];rfl
 have l0:aj H 1 acJ (.ae (v.cells.drop 0))=acK (.str v.V):=pV v;have l1:aj H 1 acJ (.ae (x.cells.drop 0))=acK (.str x.var):=B2 x H;rw[U];simp only[aN,aH,O,l0,l1,fD];exact hQ
theorem yi{p:aB->Bool}{key:Nat}{cd:List I}{xs:List aB}(hf:∀x∈xs,∀(R:aa),R (.bool (p x)) H->Φ key ([.agg x.cells]++cd) H R)(hl:xs.length<=9223372036854775807)
  (hQ:Q (D (fb (xs.findIdx? p))) H) (a:iC key=acL:=by first|assumption|rfl):S.f37 Φ (av aB.cells xs) (.fn key cd) H Q:=by
 have h:rV 7 Φ (av aB.cells xs) (.fn key cd) H Q:=BQ aB.len (by decide) hf hl hQ;exact h
theorem Tx(hT:Cl Φ S.b7)(s:vars.length<=maxLen)(C:x.ax.length<=maxLen)
  (E:∀v∈vars,bD Φ 62 [.agg v.type.cells] (D (dK v.type)))
  (F:∀(t:X)(p:aI),cW t=0->p∈x.ax->bD Φ 63 [.agg t.cells,.agg p.cells] (gn (c6 t p)))
  (hQ:∀H',Q (gn (bG vars x)) H'):S.f33 Φ (av aB.cells vars) (.agg x.cells) H Q:=by
 have hm:maxLen=9223372036854775807:=by decide
 rw[hm]at s C;have fin:∀v H',v=gn (bG vars x)->Q v H':=λv H' h=>by rw[h];exact hQ H'
 clear hQ;unfold S.f33;simp only[ag];simp only[yh,aN,bQ,bc];have g:At (H.push (.row dG)) H.n (.row dG):=At.new H _;change At (H.push (.row [J,J,P,A,J,A])) H.n _ at g;generalize (H.push (.row [J,J,P,A,J,A]))=a at *;generalize H.n=c at *;have bad:∀(e:Int)(H1:Z),At H1 c (.row dG)->e≠0->(bG vars x).1=e->Do (bS [J,J,P,A,J,A] []) λG=>
   Do (cf H1 6 (.ptr c 0) G) λu=>
   Do (aj u 6 acI (.ptr c 0)) λI=>
   Q (.aA [I,(D e)]) u:=by
  intro e H1 w he h;rw[yf];simp only[O];rw[w.put (n:=6) rfl rfl rfl];simp only[O];rw[(w.set _).all (n:=6) rfl];simp only[O];refine fin _ _ ?_;unfold gn;rw[h,af he]
 refine S.x6 hT ?_;refine yi (p:=λv=>v.V==x.var) (λv _ R K=>S.Rf hT (Tw K)) s ?_;simp only[aY,O,au];rcases mq (λv:aB=>v.V==x.var) vars with⟨i,v,h1,j,k⟩|⟨h1,j⟩
 . have l:=(aal.1 k).1;have L:=adq k;have m:bG vars x=if dK v.type≠0 then(dK v.type,v.type)else cj v.type x.ax:=by unfold bG;rw[j]
   rw[h1,af (by show ¬(decide ((i:Int)<0)=acI);rw[dJ];omega)];simp only[fb];rw[b6 l];simp only[O,di,aH,yg v a k,aN,bQ,bc];rw[cn _ _ _ 6 v.type.len v.type.scalar rfl];simp only[O];rw[eE,gJ v.type.len];simp only[O];have M:At (a.push (.row v.type.cells)) a.n (.row v.type.cells):=At.new a _;have N:c≠a.n:=g.h2;have y:At (a.push (.row v.type.cells)) c (.row dG):=g.push _;generalize (a.push (.row v.type.cells))=U at *;generalize a.n=z at *;refine E v L _ _ ?_;simp only[cC,O,au];apply aG<;>intro h
   . have b:dK v.type≠0:=by simpa using h
     exact bad _ _ y b (by rw[m,ab b])
   . have b:dK v.type=0:=by simpa using h
     rw[af (by simpa using b)]at m;have W:cW v.type=0:=by
      unfold dK at b;split at b
      ·cases b
      ·exact b
     have main:∀(f:List aI)(i:Nat)(t:X)(H1:Z),x.ax.drop i=f->At H1 c (.row dG)->At H1 z (.row t.cells)->cW t=0->cj t f=bG vars x ->
       ar (S.vG Φ (.ptr c 0) (.ptr z 0) (av aI.cells x.ax) (D x.ax.length) Q) ([D i],H1):=by
      intro f;induction f with
      | nil=>intro i t H1 o a3 dj q d;have hle:=c7 o;refine ar.step ?_;simp only[ag,S.vG,T,aY,O,au];rw[cQ];simp only[ag,aw,S.Gz];rw[dj.all t.len];simp only[O];rw[a3.put (n:=6) rfl t.len t.scalar];simp only[O];rw[(a3.set _).all t.len];simp only[O];refine fin _ _ ?_;rw[<-d];rfl
      | cons p f Y=>
       intro i t H1 o a3 dj q d;obtain⟨l,hp,aa⟩:=c4 o;refine ar.step ?_;simp only[ag,S.vG,T,aY,O,au];rw[cM,b6 l];simp only[O];rw[c8 aI.len (by decide) _ hp];simp only[O,aN,bQ,bc];rw[cn _ _ _ 2 p.len p.scalar rfl];simp only[O];rw[(dj.push _).all t.len,eE,gJ p.len];simp only[O];refine F t p q (adq hp) _ _ ?_;simp only[cj]at d;have b3:=a3.push (.row p.cells);have B:=dj.push (.row p.cells);generalize H1.push _=H2 at *;by_cases he:(c6 t p).1=0
       . rw[af (by simpa using he)]at d;have r:gn (c6 t p) = .aA [.agg (c6 t p).2.cells,J]:=by unfold gn;rw[ab he]
         rw[r];simp only[bA,ac5,ac6,O];rw[cn _ _ _ 6 (c6 t p).2.len (c6 t p).2.scalar rfl];simp only[O,cC,au];rw[cw,eE,gJ (c6 t p).2.len];simp only[O];rw[(B.push _).put t.len (c6 t p).2.len (c6 t p).2.scalar];simp only[O,bz];rw[bo,fj i];exact Y (i+1) _ _ aa ((b3.push _).bR N _) ((B.push _).set _) (JK q he) d
       . rw[ab he]at d;have r:gn (c6 t p) = .aA [.agg dG,D (c6 t p).1]:=by unfold gn;rw[af he]
         rw[r];simp only[bA,ac5,ac6,O];rw[cn _ _ _ 6 rfl rfl rfl];simp only[O,cC,au];rw[ab (by simpa using he)];exact bad _ _ (b3.push _) he (by rw[<-d])
     simp only[og,oh,bC,O];exact main x.ax 0 v.type U rfl y M W m.symm
 . rw[h1,ab (by simp[fb])];exact bad 6 _ g (by decide) (by unfold bG;rw[j])
end
end Rb
namespace Rb
open Go
variable{t:X}{p:X->Bool}{key:Nat}{cd:List I}{xs:List X}{n step:Int}
mutual
def eM:X->Bool
 | .mk kind size packed Y bg aK=>((kind==2&&decide (size>1))||yj aK)||yk Y
def Ty:aE->Bool
 | .mk V type bits aQ=>eM type
def yj:List X->Bool
 |[]=>acJ
 |t::r=>eM t||yj r
def yk:List aE->Bool
 |[]=>acJ
 |f::r=>Ty f||yk r
end
mutual
def e3:X->Bool
 | .mk kind size packed Y bg aK=>((packed&&eM (.mk kind size packed Y bg aK))||yl aK)||ym Y
def Tz:aE->Bool
 | .mk V type bits aQ=>e3 type
def yl:List X->Bool
 |[]=>acJ
 |t::r=>e3 t||yl r
def ym:List aE->Bool
 |[]=>acJ
 |f::r=>Tz f||ym r
end
theorem JM:∀l:List X,yj l=l.any eM
 |[]=>rfl
 |t::r=>by rw[yj,JM r,adM]
theorem JN:∀l:List aE,yk l=l.any λf=>eM f.type
 |[]=>rfl
 |f::r=>by rw[yk,JN r,adM];cases f;rfl
theorem B3:∀l:List X,yl l=l.any e3
 |[]=>rfl
 |t::r=>by rw[yl,B3 r,adM]
theorem B4:∀l:List aE,ym l=l.any λf=>e3 f.type
 |[]=>rfl
 |f::r=>by rw[ym,B4 r,adM];cases f;rfl
theorem JO(t:X):eM t=(((t.kind==2&&decide (t.size>1))||t.aK.any eM)||t.Y.any λf=>eM f.type):=by cases t;rw[eM,JM,JN]
theorem JP(t:X):e3 t=(((t.packed&&eM t)||t.aK.any e3)||t.Y.any λf=>e3 f.type):=by cases t;rw[e3,B3,B4]
theorem dL(ht:t.ok):t.Y.length<=9223372036854775807/\(∀f∈t.Y,f.type.ok)/\t.aK.length<=9223372036854775807/\∀e∈t.aK,e.ok:=by
 have hm:maxLen=9223372036854775807:=by decide
 cases t with
 | mk kind size packed Y bg aK=>obtain⟨_,_,h1,b,_,a,c⟩:=ht;rw[hm]at h1 a;exact⟨h1,λf hf=>by have:=aE.eG.1 b f hf;cases f;exact this.2.1,a,X.eG.1 c⟩
section
variable{Φ:ad}{H:Z}{Q:aa}
theorem TA(hf:∀x∈xs,∀(R:aa),R (.bool (p x)) H->Φ key ([.agg x.cells]++cd) H R)(hl:xs.length<=9223372036854775807)
  (hQ:Q (D (fb (xs.findIdx? p))) H) (a:iC key=acL:=by first|assumption|rfl):S.f175 Φ (av X.cells xs) (.fn key cd) H Q:=by
 have h:rV 6 Φ (av X.cells xs) (.fn key cd) H Q:=BQ X.len (by decide) hf hl hQ;exact h
theorem JQ(hT:Cl Φ S.b7)(hf:∀x∈xs,∀(R:aa),R (.bool (p x)) H->Φ key ([.agg x.cells]++cd) H R)(hl:xs.length<=9223372036854775807)
  (hQ:Q (.bool (xs.any p)) H) (a:iC key=acL:=by first|assumption|rfl):Φ 128 [av X.cells xs,.fn key cd] H Q:=by
 refine S.RX hT ?_;unfold S.f128;simp only[ag];refine S.Sv hT (TA hf hl ?_);simp only[eD,O,yc];exact hQ
theorem yn(f:aE)(H:Z):b5 H acJ 9 (.agg f.cells)=acK (.ae f.cells,H):=by unfold b5;rw[ab ⟨rfl,f.len⟩];rfl
theorem JR(f:aE)(H:Z):aj H 6 acI (.ae (f.cells.drop 1))=acK (.agg f.type.cells):=by show bO _ 0 6 acI=_;rw[aE.aX,adj,adf];exact mo f.type.len
theorem TB(hT:Cl Φ S.b7)(c:t.Y.length<=9223372036854775807)(d:t.aK.length<=9223372036854775807)(hf:∀f∈t.Y,bD Φ 127 [.agg f.type.cells] (.bool (eM f.type)))
  (he:∀e∈t.aK,bD Φ 127 [.agg e.cells] (.bool (eM e))) (hQ:Q (.bool (eM t)) H):S.f127 Φ (.agg t.cells) H Q:=by
 have fin:∀b,b=eM t->Q (.bool b) H:=λb h=>by rw[h];exact hQ
 clear hQ;rw[JO]at fin;unfold S.f127;simp only[ag];simp only[fC,aN,ca,h3,kp,bI,cV,O,bP];have k1:∀b:Bool,b=((t.kind==2&&decide (t.size>1))||t.aK.any eM)->G (S.xu Φ (.ae t.cells) Q) [.bool b] H:=by
  intro b U;rw[<-U]at fin;simp only[ag,aw,S.xu,T,bF,ca,fN,O];apply aG<;>intro h
  . refine BX hT (p:=λf=>eM f.type) (λf g R a=>?_) c (fin _ (by rw[h];rfl));refine S.Su hT ?_;unfold S.f174;simp only[ag];simp only[yn,aN,aH,O,JR];exact hf f g _ _ a
  . simp only[adC]at h;exact fin _ (by rw[h];rfl)
 have k2:∀b:Bool,b=(t.kind==2&&decide (t.size>1))->G (S.xv Φ (.ae t.cells) Q) [.bool b] H:=by
  intro b U;rw[<-U]at k1;simp only[ag,aw,S.xv,T,bF,ca,gK,O];apply aG<;>intro h
  ·refine JQ hT (p:=eM) (λe i R a=>he e i _ _ a) d (k1 _ (by rw[h];rfl))
  . simp only[adC]at h;exact k1 _ (by rw[h];rfl)
 apply aG<;>intro h
 ·exact k2 _ (by rw[h];rfl)
 . simp only[adB]at h;exact k2 _ (by rw[h];rfl)
theorem TC(hT:Cl Φ S.b7)(c:t.Y.length<=9223372036854775807)(d:t.aK.length<=9223372036854775807)(g:bD Φ 127 [.agg t.cells] (.bool (eM t)))(hf:∀f∈t.Y,bD Φ 83 [.agg f.type.cells] (.bool (e3 f.type)))
  (he:∀e∈t.aK,bD Φ 83 [.agg e.cells] (.bool (e3 e))) (hQ:Q (.bool (e3 t)) H):S.f83 Φ (.agg t.cells) H Q:=by
 have fin:∀b,b=e3 t->Q (.bool b) H:=λb h=>by rw[h];exact hQ
 clear hQ;rw[JP]at fin;unfold S.f83;simp only[ag];simp only[fC,aN,ca,lS,hD,O,bP];have k1:∀b:Bool,b=((t.packed&&eM t)||t.aK.any e3)->G (S.w5 Φ (.ae t.cells) Q) [.bool b] H:=by
  intro b U;rw[<-U]at fin;simp only[ag,aw,S.w5,T,bF,ca,fN,O];apply aG<;>intro h
  . refine BX hT (p:=λf=>e3 f.type) (λf i R a=>?_) c (fin _ (by rw[h];rfl));refine S.RZ hT ?_;unfold S.f130;simp only[ag];simp only[yn,aN,aH,O,JR];exact hf f i _ _ a
  . simp only[adC]at h;exact fin _ (by rw[h];rfl)
 have k2:∀b:Bool,b=(t.packed&&eM t)->G (S.w6 Φ (.ae t.cells) Q) [.bool b] H:=by
  intro b U;rw[<-U]at k1;simp only[ag,aw,S.w6,T,bF,ca,gK,O];apply aG<;>intro h
  ·refine JQ hT (p:=e3) (λe j R a=>he e j _ _ a) d (k1 _ (by rw[h];rfl))
  . simp only[adC]at h;exact k1 _ (by rw[h];rfl)
 apply aG<;>intro h
 ·exact g _ _ (k2 _ (by rw[h];rfl))
 . simp only[adB]at h;exact k2 _ (by rw[h];rfl)
def cA(n step:Int):Int:=abu .i64 (abu .i64 ((abu .i64 (abu .i64 (n+step)-1)).tdiv step)*step)
theorem pW(h:step≠0)(hQ:Q (D (cA n step)) H):S.f165 Φ (D n) (D step) H Q:=by unfold S.f165;simp only[ag];simp only[bz,eH,O];rw[jg _ _ _ h];simp only[O,gk];exact hQ
theorem TD(b:0<=n)(c:n<=1000000000)(d:1<=step)(e:step<=1000000):cA n step=(n+step-1)/step*step:=by
 unfold cA;have hs:step≠0:=by omega
 have e1:=Int.ediv_mul_le (n+step-1) hs;have a:0<=(n+step-1)/step:=Int.ediv_nonneg (by omega) (by omega);have f:(n+step-1)/step<=n+step-1:=Int.ediv_le_self _ (by omega);have g:0<=(n+step-1)/step*step:=Int.mul_nonneg a (by omega);rw[wrap_i64 (n:=n+step) (by omega) (by omega),wrap_i64 (n:=n+step-1) (by omega) (by omega),Int.tdiv_eq_ediv_of_nonneg (by omega),wrap_i64 (n:=(n+step-1)/step) (by omega) (by omega),bo]
end
section
variable{C:Ctx}(hT:Cl (ai C) S.b7)
include hT
theorem TE:∀t:X,t.ok->bD (ai C) 127 [.agg t.cells] (.bool (eM t)):=by refine X.ind λt a b ht=>?_;obtain⟨h1,c,d,g⟩:=dL ht;exact λH Q hQ=>S.RW hT (TB hT h1 d (λf hf=>a f hf (c f hf)) (λe he=>b e he (g e he)) hQ)
theorem TF:∀t:X,t.ok->bD (ai C) 83 [.agg t.cells] (.bool (e3 t)):=by refine X.ind λt a b ht=>?_;obtain⟨h1,c,d,g⟩:=dL ht;exact λH Q hQ=>S.Rt hT (TC hT h1 d (TE hT t ht) (λf hf=>a f hf (c f hf)) (λe he=>b e he (g e he)) hQ)
end
end Rb
namespace Rb
open Go
variable{sz len:Nat}{x:I}
structure bj where
 at_:Int
 len:Int
 kind:Int
 bits:Bool
 bit:Int
 aQ:Int
def bj.cells(s:bj):List I:=[D s.at_,D s.len,D s.kind,.bool s.bits,D s.bit,D s.aQ]
structure PL where
 size:Int
 bp:Int
 dP:List bj
 bit:Int
abbrev B(n:Int):Int:=abu .i64 n
def ih(p:PL)(f:aE):Int:=if B (p.bit.tdiv (B (8*f.type.size)))≠B ((B (B (p.bit+f.aQ)-1)).tdiv (B (8*f.type.size)))then cA p.bit (B (8*f.type.size))else p.bit
def lW(p:PL)(f:aE):PL:=
 if f.aQ=0 then
  {p with bit:=cA p.bit (B (8*f.type.size)),dP:=p.dP++[⟨B ((cA p.bit (B (8*f.type.size))).tdiv 8),0,1,acI,(cA p.bit (B (8*f.type.size))).tmod 8,0⟩]}
 else
  {p with bit:=B (ih p f+f.aQ),dP:=p.dP++[⟨B ((ih p f).tdiv 8),B (B (B ((B (B (ih p f+f.aQ)-1)).tdiv 8)-B ((ih p f).tdiv 8))+1),1,acI,(ih p f).tmod 8,f.aQ⟩]}
def fk(packed:Bool)(f:aE)(bp:Int):Int:=if packed=acI\/(f.bits=acI/\f.aQ=0)then 1 else if f.bits=acI then f.type.size else bp
def yo(p:PL)(f:aE)(size bp:Int):PL:={p with bit:=B (8*B (cA (B ((cA p.bit 8).tdiv 8)) bp+size)),dP:=p.dP++[⟨cA (B ((cA p.bit 8).tdiv 8)) bp,size,f.type.kind,acJ,0,0⟩]}
def lX(p:PL):PL:={p with size:=max p.size (B ((cA p.bit 8).tdiv 8))}
def ij(packed:Bool)(kind:Int)(p:PL)(f:aE)(g:Int×Int):PL:=
 let a:PL:={p with bp:=max p.bp (fk packed f g.2),bit:=if kind=4 then 0 else p.bit}
 lX (if f.bits=acI then lW a f else yo a f g.1 (fk packed f g.2))
mutual
def L:X->(Int×Int)×Bool
 | .mk kind size packed Y bg aK=>
  if kind=1\/kind=2 then((size,size),acI)
  else if kind=5 then((B ((f_ aK).1.1*bg),(f_ aK).1.2),(f_ aK).2&&decide (B ((f_ aK).1.1*bg)<=65536))
  else match dQ packed kind ⟨0,1,[],0⟩ Y with
   |none=>((0,0),acJ)
   |some p=>((cA p.size p.bp,p.bp),decide (cA p.size p.bp<=65536))
def f_:List X->(Int×Int)×Bool
 |[]=>((0,0),acJ)
 |t::_=>L t
def B5:aE->(Int×Int)×Bool
 | .mk V type bits aQ=>L type
def dQ(packed:Bool)(kind:Int)(p:PL):List aE->Option PL
 |[]=>acK p
 |f::r=>if(B5 f).2=acI then dQ packed kind (ij packed kind p f (B5 f).1) r else acL
end
theorem na(f:aE):B5 f=L f.type:=by cases f;rfl
theorem jW(t:X):L t=if t.kind=1\/t.kind=2 then((t.size,t.size),acI)
  else if t.kind=5 then((B ((f_ t.aK).1.1*t.bg),(f_ t.aK).1.2),(f_ t.aK).2&&decide (B ((f_ t.aK).1.1*t.bg)<=65536))
  else match dQ t.packed t.kind ⟨0,1,[],0⟩ t.Y with
   |none=>((0,0),acJ)
   |some p=>((cA p.size p.bp,p.bp),decide (cA p.size p.bp<=65536)):=by cases t;rfl
theorem jA.TG{H0 H:Z}{sz g len m:Nat}{x y:I}{cells news:List I}{K:aa}(h:jA H0 H sz x len cells)(j:hL H sz y=acK (m,news))(hn:news.length=m*sz)(hs:news.all I.scalar=acI)(k:m≠0)
  (U:(len+m)*g<=140737488355328) (hl:len+m<=9223372036854775807) (l:∀p H',jA H0 H' sz p (len+m) (cells++news)->(∀i o,At H i o->(∀a b,o ≠ .tok a b)->At H' i o)->K p H'):bs (cZ H acJ sz g x y) K:=by
 obtain⟨c,tk,rfl,hc,q⟩:=h;have hlen:(cells++news).length=(len+m)*sz:=by simp[hc,hn,aaV]
 rcases q with⟨rfl,rfl⟩|⟨t,rfl,h1,s,f⟩
 . refine⟨.aq (.own H.n) (0+m) (cells++news),H.push (.tok ((0+m)*sz) sz),?_,l _ _ ⟨c.trans (Z.Ext.push _ _),_,rfl,hlen,.inr ⟨H.n,rfl,c.1,acR _,Z.x9 _ _⟩⟩ λi o d _=>d.push _⟩;simp only[cZ,j,hs,not_true_eq_false,b4,af k];rw[af (by simp only[adJ];exact⟨hc,U,hl⟩)]
 . refine ⟨.aq (.own H.n) (len+m) (cells++news),(H.set t .gone).push (.tok ((len+m)*sz) sz),?_,l _ _ ⟨(c.set h1 _).trans (Z.Ext.push _ _),_,rfl,hlen,.inr ⟨H.n,rfl,c.1,acR _,Z.x9 _ _⟩⟩ λi o d r=>?_⟩
   . simp only[cZ,j,hs,not_true_eq_false,b4,af k];rw[af (by simp only[adJ];exact⟨hc,U,hl⟩)];simp[f]
   ·exact(d.bR (λe=>by subst e;rw[d.2]at f;exact r _ _ f) _).push _
theorem jA.other{H0 H:Z}{cells:List I}(h:jA H0 H sz x len cells){id:Nat}{cs:List I}(ha:At H id (.row cs))(b:H0.n<=id)(y:cx):jA H0 (H.set id y) sz x len cells:=by
 obtain⟨c,tk,rfl,hc,d⟩:=h;refine⟨c.set b y,tk,rfl,hc,?_⟩;rcases d with h|⟨t,rfl,h1,f,a⟩
 ·exact .inl h
 ·exact .inr ⟨t,rfl,h1,f,by rw[Z.bR _ _ (λe=>by subst e;rw[ha.2]at a;cases a)];exact a⟩
theorem jA.push{H0 H:Z}{cells:List I}(h:jA H0 H sz x len cells)(y:cx):jA H0 (H.push y) sz x len cells:=by
 obtain⟨a,tk,rfl,hc,b⟩:=h;refine⟨a.trans (Z.Ext.push _ _),tk,rfl,hc,?_⟩;rcases b with h|⟨t,rfl,h1,c,d⟩
 ·exact .inl h
 ·exact .inr ⟨t,rfl,h1,Nat.lt_succ_of_lt c,by rw[Z.S2 _ _ (by omega)];exact d⟩
def fl(H0 H:Z)(id:Nat)(p:PL):Prop:=∃x,At H id (.row [D p.size,D p.bp,x,D p.bit])/\jA H0 H 6 x p.dP.length (p.dP.flatMap bj.cells)/\H0.n<=id
theorem fl.push{H0 H:Z}{id:Nat}{p:PL}(h:fl H0 H id p)(y:cx):fl H0 (H.push y) id p:=by obtain⟨x,h1,a,b⟩:=h;exact⟨x,h1.push y,a.push y,b⟩
def jX(H H':Z)(id:Nat):Prop:=∀i cs,i≠id->At H i (.row cs)->At H' i (.row cs)
theorem jX.refl(H:Z)(id:Nat):jX H H id:=λ_ _ _ h=>h
theorem jX.trans{H H' a:Z}{id:Nat}(h:jX H H' id)(k:jX H' a id):jX H a id:=λi cs hi ha=>k i cs hi (h i cs hi ha)
section
variable{H0 H:Z}{id:Nat}{p:PL}{K:Z->Prop}
theorem fl.B6(h:fl H0 H id p):aj H 1 acJ (.ptr id 0)=acK (D p.size):=by obtain⟨x,h1,_⟩:=h;rw[h1.load];rfl
theorem fl.JS(h:fl H0 H id p):aj H 1 acJ (.ptr id 1)=acK (D p.bp):=by obtain⟨x,h1,_⟩:=h;rw[h1.load];rfl
theorem fl.oi(h:fl H0 H id p):aj H 1 acJ (.ptr id 3)=acK (D p.bit):=by obtain⟨x,h1,_⟩:=h;rw[h1.load];rfl
theorem fl.JT(h:fl H0 H id p)(v:Int)(b:∀H',fl H0 H' id {p with size:=v}->jX H H' id->K H'):Do (cf H 1 (.ptr id 0) (D v)) K:=by obtain⟨x,h1,c,a⟩:=h;refine⟨_,by rw[h1.store,ab ⟨rfl,rfl,rfl,by simp⟩];rfl,b _ ⟨x,h1.set _,c.other h1 a _,a⟩ λi cs hi ha=>ha.bR hi _⟩
theorem fl.TI(h:fl H0 H id p)(v:Int)(b:∀H',fl H0 H' id {p with bp:=v}->jX H H' id->K H'):Do (cf H 1 (.ptr id 1) (D v)) K:=by obtain⟨x,h1,c,a⟩:=h;refine⟨_,by rw[h1.store,ab ⟨rfl,rfl,rfl,by simp⟩];rfl,b _ ⟨x,h1.set _,c.other h1 a _,a⟩ λi cs hi ha=>ha.bR hi _⟩
theorem fl.rZ(h:fl H0 H id p)(v:Int)(b:∀H',fl H0 H' id {p with bit:=v}->jX H H' id->K H'):Do (cf H 1 (.ptr id 3) (D v)) K:=by obtain⟨x,h1,c,a⟩:=h;refine⟨_,by rw[h1.store,ab ⟨rfl,rfl,rfl,by simp⟩];rfl,b _ ⟨x,h1.set _,c.other h1 a _,a⟩ λi cs hi ha=>ha.bR hi _⟩
theorem fl.app(h:fl H0 H id p)(hl:p.dP.length<1000)(s:bj)(g:∀H',fl H0 H' id {p with dP:=p.dP++[s]}->jX H H' id->K H') :
  Do (aj H 1 acJ (.ptr id 2)) λj=>
  bs (cI H acJ 6 1 [J,J,J,P,J,J] [(0,6,.agg s.cells)]) λk l=>
  bs (cZ l acJ 6 48 j k) λn o=>
  Do (cf o 1 (.ptr id 2) n) K:=by
 obtain⟨x,h1,q,e⟩:=h;have e1:aj H 1 acJ (.ptr id 2)=acK x:=by rw[h1.load];rfl
 have r:cI H acJ 6 1 [J,J,J,P,J,J] [(0,6,.agg s.cells)]=acK (.aq .full 1 s.cells,H):=rfl;rw[e1,r];simp only[O,aN];refine q.TG (m:=1) (news:=s.cells) rfl rfl rfl (by decide) (by omega) (by omega) λc H' f hk=>?_;have M:=hk id _ h1 (by intro a b h;cases h);have d:c.scalar=acI/\c.known=acI/\c.cells=[c]:=by obtain⟨_,tk,rfl,_⟩:=f;exact⟨rfl,rfl,rfl⟩
 refine⟨_,by rw[M.store,ab ⟨d.2.1,by rw[d.2.2];rfl,by rw[d.2.2];simp[d.1],by simp⟩,d.2.2];rfl,g _ ⟨c,M.set _,?_,e⟩ λi cs hi ha=>(hk i _ ha (by intro a b h;cases h)).bR hi _⟩;have:=f.other M e (.row [D p.size,D p.bp,c,D p.bit]);simpa using this
end
end Rb
namespace Rb
open Go
theorem yp(a b:Int):bS [J,J] [(0,1,D a),(1,1,D b)]=acK (.agg [D a,D b]):=rfl
theorem TJ(a:Int):bS [J,J] [(0,1,D a)]=acK (.agg [D a,J]):=rfl
theorem TK(a l k b:Int):bS [J,J,J,P,J,J] [(0,2,.agg [D a,D l]),(2,1,D k),(3,1,aT),(4,1,D b)]=acK (.agg [D a,D l,D k,aT,D b,J]):=rfl
theorem TL(a l k b w:Int):bS [J,J,J,P,J,J] [(0,2,.agg [D a,D l]),(2,1,D k),(3,1,aT),(4,1,D b),(5,1,D w)]=acK (.agg [D a,D l,D k,aT,D b,D w]):=rfl
theorem TM(a l k:Int):bS [J,J,J,P,J,J] [(0,2,.agg [D a,D l]),(2,1,D k)]=acK (.agg [D a,D l,D k,P,J,J]):=rfl
theorem JU(f:aE)(i j:Nat):aH i (.ae (f.cells.drop j))=acK (.ae ((f.cells.drop j).drop i)):=rfl
theorem JV(f:aE)(i:Nat):aH i (.ae f.cells)=acK (.ae (f.cells.drop i)):=rfl
theorem TN(f:aE)(H:Z):aj H 1 acJ (.ae (f.cells.drop 7))=acK (.bool f.bits):=by cases f with|mk n t b w=>cases t;rfl
theorem B7(f:aE)(H:Z):aj H 1 acJ (.ae (f.cells.drop 8))=acK (D f.aQ):=by cases f with|mk n t b w=>cases t;rfl
theorem JW(f:aE)(H:Z):aj H 1 acJ (.ae ((f.cells.drop 1).drop 1))=acK (D f.type.size):=by cases f with|mk n t b w=>cases t;rfl
theorem JX(i o:Nat):b8 (.ptr i o)=acK (.ptr i o):=rfl
section
variable{Φ:ad}{H0 H:Z}{Q:aa}
theorem TO(hT:Cl Φ S.b7){f:aE}{p:PL}{id:Nat}(hp:fl H0 H id p)(hl:p.dP.length<1000)(e:B (8*f.type.size)≠0)(hQ:∀H',fl H0 H' id (lW p f)->jX H H' id->Q (.aA []) H'):S.f164 Φ (.ptr id 0) (.agg f.cells) H Q:=by
 unfold S.f164;simp only[ag];simp only[yn,aN,JV,JU,JW,B7,gk,bI,O,au,JX,aH,aa8];apply aG<;>intro h
 . have hw:f.aQ=0:=by simpa using h
   simp only[hp.oi,O];refine S.pS hT (pW e ?_);refine hp.rZ _ λH1 a c=>?_;have g:=a.oi;simp only[g,O,jg _ _ _ (show(8:Int)≠0 by decide),jV _ _ _ (show(8:Int)≠0 by decide),TJ,TK];refine a.app hl ⟨B ((cA p.bit (B (8*f.type.size))).tdiv 8),0,1,acI,(cA p.bit (B (8*f.type.size))).tmod 8,0⟩ λH2 d i=>hQ H2 ?_ (c.trans i);unfold lW;rw[ab hw];exact d
 . have hw:¬f.aQ=0:=by simpa using h
   simp only[hp.oi,O,jg _ _ _ e,bz,eH,cC,au];have k1:∀(b:Int)(H1:Z),b=ih p f->fl H0 H1 id {p with bit:=b}->jX H H1 id->G (S.xS Φ (.ptr id 0) (.ae f.cells) Q) [] H1:=by intro b H1 U a c;have g:=a.oi;simp only[ag,aw,S.xS,JX,aH,aa8,O,g,jg _ _ _ (show(8:Int)≠0 by decide),jV _ _ _ (show(8:Int)≠0 by decide),B7,bz,eH,yp,TL];refine a.app hl ⟨B (b.tdiv 8),B (B (B ((B (B (b+f.aQ)-1)).tdiv 8)-B (b.tdiv 8))+1),1,acI,b.tmod 8,f.aQ⟩ λH2 d i=>?_;have j:=d.oi;simp only[j,O,bz];refine d.rZ _ λk l m=>hQ k ?_ ((c.trans i).trans m);unfold lW;rw[af hw,<-U];exact l
   apply aG<;>intro h
   . refine S.pS hT (pW e ?_);refine hp.rZ _ λH1 a c=>k1 _ H1 ?_ a c;unfold ih;rw[ab (by simpa using h)]
   . refine k1 p.bit H ?_ hp (jX.refl _ _);unfold ih;rw[af (by simpa using h)]
theorem TP{t:X}{f:aE}{bp:Int}(hQ:Q (D (fk t.packed f bp)) H):S.f163 Φ (.agg t.cells) (.agg f.cells) (D bp) H Q:=by
 have fin:∀v,v=fk t.packed f bp->Q (D v) H:=λv h=>by rw[h];exact hQ
 clear hQ;unfold S.f163;simp only[ag];simp only[ag,fC,yn,aN,ca,lS,JV,TN,B7,bI,O,bF,bP,aw,S.xR,T,au,JU,JW,abW,b4,bc];unfold fk at fin
 repeat' (apply aG<;>intro h)
 all_goals (refine fin _ ?_;simp_all)
end
end Rb
end
