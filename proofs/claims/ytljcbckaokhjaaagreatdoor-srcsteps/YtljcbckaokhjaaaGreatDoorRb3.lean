/- A part of the proof (part 3): see the last text. -/
import Derived.Test.YtljcbckaokhjaaaGreatDoorRb2
import Derived.Test.YtljcbckaokhjaaaGreatDoorRows
import Derived.KernelRfl
import Derived.WalkKit
import Derived.ProofKit
import Derived.Lib.Bytealg
import Derived.Laws.Externs
set_option linter.unusedVariables false
open Go.Extern.BytealgIndexByte renaming indexByte→ace
open Go.Lib renaming indexByte→acd
open Option renaming none→ab2
noncomputable section
namespace Go.Proofs.YtljcbckaokhjaaaGreatDoor.rb
open Rb
def gt(g:Nat):Option (List I):=if g=0 then some E6 else if g=5 then some FN else if g=7 then some E7 else ab2
def C:Ctx:=mD Tryz.prog gt
def hA:List Hint:=[
  ⟨3,[6,7,9,14,16,18,20,56,58],[[12],[19]],ab2,[],[]⟩,
  ⟨4,[3,4,25,27,40],[[31]],ab2,[],[]⟩,
  ⟨5,[2,4,94],[[3],[5],[10]],ab2,[],[]⟩,
  ⟨6,[1,2,7,8],[],ab2,[],[]⟩,
  ⟨7,[2,3],[[21]],ab2,[],[]⟩,
  ⟨8,[4],[],ab2,[],[]⟩,
  ⟨9,[5,7],[],ab2,[],[]⟩,
  ⟨10,[9],[],ab2,[],[]⟩,
  ⟨11,[6,7,13,16,20,27],[[2,8,10,11,12]],ab2,[],[]⟩,
  ⟨12,[],[],ab2,[],[]⟩,
  ⟨13,[4,5],[],ab2,[],[]⟩,
  ⟨14,[],[[5]],ab2,[],[]⟩,
  ⟨15,[2,41],[[34]],ab2,[],[]⟩,
  ⟨16,[8],[[5,6,14]],ab2,[],[]⟩,
  ⟨17,[],[],ab2,[],[]⟩,
  ⟨18,[],[[3]],ab2,[],[]⟩,
  ⟨19,[],[[4]],ab2,[],[]⟩,
  ⟨20,[],[],ab2,[],[]⟩,
  ⟨21,[10],[[6],[5,8,9],[8]],ab2,[],[]⟩,
  ⟨22,[10],[[8,9]],ab2,[],[]⟩,
  ⟨23,[2,3,4],[],ab2,[],[]⟩,
  ⟨24,[8,12],[],ab2,[],[]⟩,
  ⟨25,[],[[5]],ab2,[],[]⟩,
  ⟨26,[],[],ab2,[],[]⟩,
  ⟨27,[],[],ab2,[],[]⟩,
  ⟨28,[],[],ab2,[],[]⟩,
  ⟨29,[],[],ab2,[],[]⟩,
  ⟨30,[],[],ab2,[],[]⟩,
  ⟨31,[4],[],ab2,[],[]⟩,
  ⟨32,[],[[22]],ab2,[],[]⟩,
  ⟨33,[],[],ab2,[],[]⟩,
  ⟨34,[6],[[5],[8]],ab2,[],[]⟩,
  ⟨35,[],[],ab2,[],[]⟩,
  ⟨36,[8,10],[[14]],ab2,[],[]⟩,
  ⟨37,[],[[9,10]],ab2,[],[]⟩,
  ⟨38,[],[[7,8]],ab2,[],[]⟩,
  ⟨39,[4,5],[[6]],ab2,[],[]⟩,
  ⟨40,[],[[6]],ab2,[],[]⟩,
  ⟨41,[],[],ab2,[],[]⟩,
  ⟨42,[5],[[3,14]],ab2,[],[]⟩]
theorem P5:iU C hA=true:=by kernel_rfl
def eC:List Hint:=[
  ⟨43,[8],[[16]],ab2,[],[]⟩,
  ⟨44,[],[],ab2,[],[]⟩,
  ⟨45,[5],[],ab2,[],[]⟩,
  ⟨46,[8,18],[],ab2,[],[]⟩,
  ⟨47,[],[],ab2,[],[]⟩,
  ⟨48,[],[],ab2,[],[]⟩,
  ⟨49,[],[[3,4],[3,5]],ab2,[],[]⟩,
  ⟨50,[2,3,4,8,9],[[5,6,7],[5],[6]],ab2,[],[]⟩,
  ⟨51,[],[],ab2,[],[]⟩,
  ⟨52,[],[],ab2,[],[]⟩,
  ⟨53,[],[[6]],ab2,[],[]⟩,
  ⟨54,[],[[5]],ab2,[],[]⟩,
  ⟨55,[10],[[13]],ab2,[],[]⟩,
  ⟨56,[9],[[8]],ab2,[],[]⟩,
  ⟨57,[2,3,5,6,7],[[],[]],ab2,[],[]⟩,
  ⟨58,[],[[3,12]],ab2,[],[]⟩,
  ⟨59,[10],[[13]],ab2,[],[(7,[5])]⟩,
  ⟨60,[],[],ab2,[],[]⟩,
  ⟨61,[3],[],ab2,[],[]⟩,
  ⟨62,[5],[[4]],ab2,[],[]⟩,
  ⟨63,[],[[4]],ab2,[],[]⟩,
  ⟨64,[],[[5,6]],ab2,[],[]⟩,
  ⟨65,[],[[3,4]],ab2,[],[]⟩,
  ⟨66,[6,11,12,17],[[13],[14,15],[18]],ab2,[],[]⟩,
  ⟨67,[],[],ab2,[],[]⟩,
  ⟨68,[],[[]],ab2,[],[]⟩,
  ⟨69,[],[],ab2,[],[]⟩,
  ⟨70,[],[],ab2,[],[]⟩,
  ⟨71,[],[],ab2,[],[]⟩,
  ⟨72,[],[],ab2,[],[]⟩,
  ⟨73,[2,5],[],ab2,[],[]⟩,
  ⟨74,[8],[[2,16]],ab2,[],[]⟩,
  ⟨75,[],[[5,6],[5,8]],ab2,[],[]⟩,
  ⟨76,[4],[[3],[5]],ab2,[],[]⟩,
  ⟨77,[],[[3,4],[3,5]],ab2,[],[]⟩,
  ⟨78,[],[],ab2,[],[]⟩,
  ⟨79,[4,8,11,12],[[6,7],[9,10],[9,13]],ab2,[],[]⟩,
  ⟨80,[],[],ab2,[],[]⟩,
  ⟨81,[3,5,37],[],ab2,[],[]⟩,
  ⟨82,[],[],ab2,[],[]⟩]
theorem P6:iU C eC=true:=by kernel_rfl
def c2:List Hint:=[
  ⟨83,[],[],ab2,[],[]⟩,
  ⟨84,[4,5,7],[[]],ab2,[],[]⟩,
  ⟨85,[],[],ab2,[],[]⟩,
  ⟨86,[],[[5]],ab2,[],[]⟩,
  ⟨87,[2],[],ab2,[],[]⟩,
  ⟨88,[6,7,10],[],ab2,[],[]⟩,
  ⟨89,[],[],ab2,[],[]⟩,
  ⟨90,[],[],ab2,[],[]⟩,
  ⟨91,[41],[[3,4,5,6],[12],[10,11,12],[12]],some 9,[],[]⟩,
  ⟨92,[],[[8]],ab2,[],[]⟩,
  ⟨93,[],[],ab2,[],[]⟩,
  ⟨94,[3],[],ab2,[],[]⟩,
  ⟨95,[],[],ab2,[],[]⟩,
  ⟨96,[],[],ab2,[],[]⟩,
  ⟨97,[8,11,13],[[42],[49]],ab2,[],[]⟩,
  ⟨98,[7],[[10]],ab2,[],[]⟩,
  ⟨99,[],[],ab2,[],[]⟩,
  ⟨100,[],[],ab2,[],[]⟩,
  ⟨101,[2,4,6],[],ab2,[],[]⟩,
  ⟨102,[],[],ab2,[],[]⟩,
  ⟨103,[6,8],[[]],ab2,[],[]⟩,
  ⟨104,[5],[[3,8]],ab2,[],[]⟩,
  ⟨105,[],[[5]],ab2,[],[]⟩,
  ⟨106,[3,11],[[]],ab2,[],[]⟩,
  ⟨107,[],[],ab2,[],[]⟩,
  ⟨108,[],[],ab2,[],[]⟩,
  ⟨109,[],[],ab2,[],[]⟩,
  ⟨110,[],[],ab2,[],[]⟩,
  ⟨111,[],[],ab2,[],[]⟩,
  ⟨112,[],[],ab2,[],[]⟩,
  ⟨113,[2],[[11],[17]],ab2,[],[]⟩,
  ⟨114,[],[],ab2,[],[]⟩,
  ⟨115,[],[],ab2,[],[]⟩,
  ⟨116,[4,5],[],ab2,[],[]⟩,
  ⟨117,[4,5],[],ab2,[],[]⟩,
  ⟨118,[],[[8]],ab2,[],[]⟩,
  ⟨119,[11,12,46],[[5,6],[49]],ab2,[],[]⟩,
  ⟨120,[],[],ab2,[],[]⟩,
  ⟨121,[2],[],ab2,[],[]⟩,
  ⟨122,[],[],ab2,[],[]⟩]
theorem P7:iU C c2=true:=by kernel_rfl
def kA:List Hint:=[
  ⟨123,[4,7,10,11],[[33]],ab2,[],[]⟩,
  ⟨124,[],[],ab2,[],[]⟩,
  ⟨125,[],[],ab2,[],[]⟩,
  ⟨126,[],[],ab2,[],[]⟩,
  ⟨127,[],[],ab2,[],[]⟩,
  ⟨128,[],[],ab2,[],[]⟩,
  ⟨129,[],[],ab2,[],[]⟩,
  ⟨130,[],[],ab2,[],[]⟩,
  ⟨131,[],[],ab2,[],[]⟩,
  ⟨132,[2,4,6,7],[[16]],ab2,[],[]⟩,
  ⟨133,[6,8,9],[],ab2,[],[]⟩,
  ⟨134,[6,10,11,13],[[2,8,18]],ab2,[],[]⟩,
  ⟨135,[4,5],[],ab2,[],[]⟩,
  ⟨136,[5],[[3,9]],ab2,[],[]⟩,
  ⟨137,[],[],ab2,[],[]⟩,
  ⟨138,[],[],ab2,[],[]⟩,
  ⟨139,[5],[[3,8]],ab2,[],[]⟩,
  ⟨140,[],[],ab2,[],[]⟩,
  ⟨141,[],[],ab2,[],[]⟩,
  ⟨142,[],[],ab2,[],[]⟩,
  ⟨143,[],[],ab2,[],[]⟩,
  ⟨144,[],[],ab2,[],[]⟩,
  ⟨145,[4,5],[[]],ab2,[],[]⟩,
  ⟨146,[],[[6]],ab2,[],[]⟩,
  ⟨147,[4],[],ab2,[],[]⟩,
  ⟨148,[4,6],[],ab2,[],[]⟩,
  ⟨149,[],[],ab2,[],[]⟩,
  ⟨150,[],[],ab2,[],[]⟩,
  ⟨151,[4],[],ab2,[],[]⟩,
  ⟨152,[],[],ab2,[],[]⟩,
  ⟨153,[7,9],[[5,15],[5,30]],ab2,[],[]⟩,
  ⟨154,[],[],ab2,[],[]⟩,
  ⟨155,[],[],ab2,[],[]⟩,
  ⟨156,[],[[18]],ab2,[],[]⟩,
  ⟨157,[],[],ab2,[],[]⟩,
  ⟨158,[],[[8]],ab2,[],[]⟩,
  ⟨159,[],[[8]],ab2,[],[]⟩,
  ⟨160,[],[],ab2,[],[]⟩,
  ⟨161,[],[],ab2,[],[]⟩,
  ⟨162,[],[],ab2,[],[]⟩]
theorem uG:iU C kA=true:=by kernel_rfl
def nl:List Hint:=[
  ⟨163,[6,7,9],[[2,12]],ab2,[],[]⟩,
  ⟨164,[],[],ab2,[],[]⟩,
  ⟨165,[6,11,15,70],[[74]],ab2,[],[]⟩,
  ⟨166,[],[[8]],ab2,[],[]⟩,
  ⟨167,[],[],ab2,[],[]⟩,
  ⟨168,[],[],ab2,[],[]⟩,
  ⟨169,[7,9],[],ab2,[],[]⟩,
  ⟨170,[],[],ab2,[],[]⟩,
  ⟨171,[],[],ab2,[],[]⟩,
  ⟨172,[],[],ab2,[],[]⟩,
  ⟨173,[],[],ab2,[],[]⟩,
  ⟨174,[],[[6]],ab2,[],[]⟩,
  ⟨175,[],[[12,13,101]],ab2,[],[]⟩,
  ⟨176,[],[],ab2,[],[]⟩,
  ⟨177,[4,5,7],[],ab2,[],[]⟩,
  ⟨178,[8,9],[[22]],ab2,[],[]⟩,
  ⟨179,[],[[20],[7,8]],ab2,[],[]⟩,
  ⟨180,[10],[[16],[7,8]],ab2,[],[]⟩,
  ⟨181,[],[],ab2,[],[]⟩,
  ⟨182,[5],[],ab2,[],[]⟩,
  ⟨183,[],[],ab2,[],[]⟩,
  ⟨184,[5],[[3,9]],ab2,[],[]⟩,
  ⟨185,[],[],ab2,[],[]⟩,
  ⟨186,[12],[],ab2,[],[]⟩,
  ⟨187,[],[],ab2,[],[]⟩,
  ⟨188,[],[[5]],ab2,[],[]⟩,
  ⟨189,[],[],ab2,[],[]⟩,
  ⟨190,[],[],ab2,[],[]⟩,
  ⟨191,[],[],ab2,[],[]⟩,
  ⟨192,[],[],ab2,[],[]⟩,
  ⟨193,[],[],ab2,[],[]⟩,
  ⟨194,[],[[3,4]],ab2,[],[]⟩,
  ⟨197,[15],[],ab2,[],[]⟩,
  ⟨198,[15],[],ab2,[],[]⟩,
  ⟨199,[],[[6]],ab2,[],[]⟩,
  ⟨200,[],[],ab2,[],[]⟩,
  ⟨201,[],[],ab2,[],[]⟩,
  ⟨202,[4,6],[],ab2,[],[]⟩,
  ⟨203,[],[],ab2,[],[]⟩,
  ⟨204,[],[],ab2,[],[]⟩]
theorem P8:iU C nl=true:=by kernel_rfl
def q3:List Hint:=[
  ⟨205,[9],[],ab2,[],[]⟩,
  ⟨206,[5],[],ab2,[],[]⟩,
  ⟨207,[],[],ab2,[],[]⟩,
  ⟨209,[],[],ab2,[],[]⟩,
  ⟨210,[5],[],ab2,[],[]⟩,
  ⟨211,[],[],ab2,[],[]⟩,
  ⟨212,[],[],ab2,[],[]⟩,
  ⟨213,[],[[1,4]],ab2,[],[]⟩,
  ⟨214,[12],[[1,13],[1,13]],ab2,[],[]⟩,
  ⟨215,[],[],ab2,[],[]⟩,
  ⟨216,[],[],ab2,[],[]⟩,
  ⟨217,[],[],ab2,[],[]⟩,
  ⟨218,[],[],ab2,[],[]⟩,
  ⟨219,[],[],ab2,[],[]⟩,
  ⟨220,[],[],ab2,[],[]⟩,
  ⟨221,[],[],ab2,[],[]⟩]
theorem P9:iU C q3=true:=by kernel_rfl
def hs:List Hint:=hA++(eC++(c2++(kA++(nl++(q3)))))
theorem P_:iU C hs=true:=pB P5 (pB P6 (pB P7 (pB uG (pB P8 (P9)))))
theorem Qa:∀g l,gt g=some l->I.cD l=true:=by
 intro g l h;unfold gt at h;split at h
 ·cases h;kernel_rfl
 split at h
 ·cases h;kernel_rfl
 split at h
 ·cases h;kernel_rfl
 cases h
theorem mE:cY C:=Qa
def fn:Nat->Option uD:=qZ C 4096 hs
theorem Qb:Aw (ag C) (uE fn):=P0 P_ 4096
open Rb Go.RowKit
set_option maxRecDepth 100000 in
theorem Qc(s:ByteArray)(c:Int)(w:World):Calls Tryz.prog 204 #[.string s,.int .u8 c] w λe R=>e = .returned (.int .i64 (acd s.data.toList c.toNat.toUInt8))/\R=w:=by
 go_enter Tryz.func204,Tryz.ntmps204
 go_wp2
 rw[run_callFunc_extern Tryz.func208 (by kernel_rfl) (by kernel_rfl) (by kernel_rfl) (e:=ace) (by kernel_rfl),Go.Lib.run_indexByteString];simp only[Result.andThen];rw[Oper.upon_value]
 go_wp2
 go_ret
 exact⟨rfl,rfl⟩
theorem indexByte(s:List UInt8)(c:Int)(H:O)(Q:ab)(a:Q (.int .i64 (acd s c.toNat.toUInt8)) H):ag C 204 [.str s,.int .u8 c] H Q:=by
 refine⟨⟨_,_,a⟩,λf hf G w Vs k b d=>?_⟩;obtain rfl:f=204:=by
  have:C.F 204=some 204:=by kernel_rfl
  rw[this]at hf;exact(Option.some.inj hf).symm
 obtain⟨hl,hv⟩:=d;obtain⟨g⟩:=Vs
 match g,hl with
 | [h,i],_=>have j:=(hv 0 _ h rfl rfl).kT;have U:=(hv 1 _ i rfl rfl).im;subst j U;refine(Qc ⟨s.toArray⟩ c w).mono λe R ⟨he,hw⟩=>?_;subst hw;exact⟨_,_,H,G,he,a,.int _ _,b,Step.refl _ _ _⟩
def AM(L:List (Nat×List I×I)):pz:=λk a=>cond (Nat.beq k 204) (match a with|[.str s,.int .u8 c]=>some (.int .i64 (acd s c.toNat.toUInt8))|_=>ab2) (AK L k a)
theorem Qd{L:List (Nat×List I×I)}(d:h3 (ag C) (hz L)):h3 (ag C) (AM L):=by
 intro k a v h H Q c;unfold AM at h;cases b:Nat.beq k 204 with
 |false=>rw[b]at h;exact P2 d k a v h H Q c
 | true=>
  rw[b]at h;obtain rfl:=Nat.eq_of_beq_eq_true b;simp only[cond_true]at h;split at h
  ·cases h;exact indexByte _ _ H Q c
  ·cases h
def nn(L:List (Nat×List I×I)):fG:=Av (AM L) (uE fn) 100
theorem oe{L:List (Nat×List I×I)}(a:h3 (ag C) (hz L)):jr (ag C) (nn L):=PS (Qd a) Qb 100
end Go.Proofs.YtljcbckaokhjaaaGreatDoor.rb
end
