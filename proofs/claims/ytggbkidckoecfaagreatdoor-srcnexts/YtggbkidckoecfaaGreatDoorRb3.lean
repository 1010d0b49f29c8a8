/- A part of the proof (part 3): see the last text. -/
import Derived.Test.YtggbkidckoecfaaGreatDoorRb2
import Derived.Test.YtggbkidckoecfaaGreatDoorRows
import Derived.KernelRfl
import Derived.WalkKit
import Derived.ProofKit
import Derived.Lib.Bytealg
import Derived.Laws.Externs
set_option linter.unusedVariables false
open Go.Extern.BytealgIndexByte renaming indexByte→Zh
open Go.Lib renaming indexByte→Zg
namespace Go.Proofs.YtggbkidckoecfaaGreatDoor.rb
open Rb
noncomputable def gt(g:Nat):Option (List I):=if g=0 then some DL else if g=5 then some Et else if g=7 then some DM else none
noncomputable def C:Ctx:=lB Tryz.prog gt
noncomputable def gJ:List Hint:=[
  ⟨5,[11,15,20],[[19]],none,[],[]⟩,
  ⟨6,[8,12],[],none,[],[]⟩,
  ⟨8,[1,2,7,8],[],none,[],[]⟩,
  ⟨12,[],[[5]],none,[],[]⟩,
  ⟨13,[3,4,25,27,40],[[31]],none,[],[]⟩,
  ⟨14,[2,3],[[21]],none,[],[]⟩,
  ⟨15,[4],[],none,[],[]⟩,
  ⟨16,[5,7],[],none,[],[]⟩,
  ⟨18,[2,41],[[34]],none,[],[]⟩,
  ⟨19,[8,18],[],none,[],[]⟩,
  ⟨25,[2,3,4],[],none,[],[]⟩,
  ⟨26,[],[[5]],none,[],[]⟩,
  ⟨32,[8],[[5,6,14]],none,[],[]⟩,
  ⟨33,[],[],none,[],[]⟩,
  ⟨34,[],[],none,[],[]⟩,
  ⟨35,[],[],none,[],[]⟩,
  ⟨36,[],[],none,[],[]⟩,
  ⟨37,[],[],none,[],[]⟩,
  ⟨38,[],[],none,[],[]⟩,
  ⟨39,[4],[],none,[],[]⟩,
  ⟨40,[],[[22]],none,[],[]⟩,
  ⟨41,[],[],none,[],[]⟩,
  ⟨45,[5],[[3,14]],none,[],[]⟩,
  ⟨46,[8],[[16]],none,[],[]⟩,
  ⟨47,[],[],none,[],[]⟩,
  ⟨48,[8],[[2,16]],none,[],[]⟩,
  ⟨59,[2,3,5,6,7],[[],[]],none,[],[]⟩,
  ⟨67,[5],[],none,[],[]⟩,
  ⟨68,[],[[3,12]],none,[],[]⟩,
  ⟨69,[10],[[13]],none,[],[(7,[5])]⟩,
  ⟨70,[],[],none,[],[]⟩,
  ⟨71,[],[[]],none,[],[]⟩,
  ⟨72,[],[],none,[],[]⟩,
  ⟨73,[],[],none,[],[]⟩,
  ⟨74,[],[],none,[],[]⟩,
  ⟨75,[],[],none,[],[]⟩,
  ⟨76,[],[],none,[],[]⟩,
  ⟨77,[6,8],[[]],none,[],[]⟩,
  ⟨78,[5],[[3,8]],none,[],[]⟩,
  ⟨85,[3,5,37],[],none,[],[]⟩]
theorem NL:iK C gJ=true:=by kernel_rfl
noncomputable def ef:List Hint:=[
  ⟨86,[],[],none,[],[]⟩,
  ⟨87,[],[],none,[],[]⟩,
  ⟨88,[4,5,7],[[]],none,[],[]⟩,
  ⟨89,[],[],none,[],[]⟩,
  ⟨90,[],[[5]],none,[],[]⟩,
  ⟨91,[2],[],none,[],[]⟩,
  ⟨93,[2,5],[],none,[],[]⟩,
  ⟨94,[],[],none,[],[]⟩,
  ⟨95,[],[],none,[],[]⟩,
  ⟨96,[41],[[3,4,5,6],[12],[10,11,12],[12]],some 9,[],[]⟩,
  ⟨97,[],[[8]],none,[],[]⟩,
  ⟨98,[],[],none,[],[]⟩,
  ⟨99,[3],[],none,[],[]⟩,
  ⟨100,[],[],none,[],[]⟩,
  ⟨101,[],[],none,[],[]⟩,
  ⟨102,[8,11,13],[[42],[49]],none,[],[]⟩,
  ⟨103,[7],[[10]],none,[],[]⟩,
  ⟨104,[6,8,9],[],none,[],[]⟩,
  ⟨105,[6,10,11,13],[[2,8,18]],none,[],[]⟩,
  ⟨106,[4,5],[],none,[],[]⟩,
  ⟨107,[5],[[3,9]],none,[],[]⟩,
  ⟨108,[],[],none,[],[]⟩,
  ⟨109,[],[],none,[],[]⟩,
  ⟨110,[5],[[3,8]],none,[],[]⟩,
  ⟨111,[],[],none,[],[]⟩,
  ⟨113,[3,11],[[]],none,[],[]⟩,
  ⟨114,[],[],none,[],[]⟩,
  ⟨115,[],[],none,[],[]⟩,
  ⟨116,[],[],none,[],[]⟩,
  ⟨117,[],[],none,[],[]⟩,
  ⟨118,[],[],none,[],[]⟩,
  ⟨119,[],[],none,[],[]⟩,
  ⟨120,[2],[[11],[17]],none,[],[]⟩,
  ⟨121,[],[],none,[],[]⟩,
  ⟨122,[],[],none,[],[]⟩,
  ⟨123,[4,5],[],none,[],[]⟩,
  ⟨124,[4,5],[],none,[],[]⟩,
  ⟨125,[],[],none,[],[]⟩,
  ⟨126,[],[],none,[],[]⟩,
  ⟨127,[2,4,6],[],none,[],[]⟩]
theorem NM:iK C ef=true:=by kernel_rfl
noncomputable def cC:List Hint:=[
  ⟨128,[],[[8]],none,[],[]⟩,
  ⟨129,[11,12,46],[[5,6],[49]],none,[],[]⟩,
  ⟨130,[],[],none,[],[]⟩,
  ⟨131,[2],[],none,[],[]⟩,
  ⟨132,[],[],none,[],[]⟩,
  ⟨133,[4,7,10,11],[[33]],none,[],[]⟩,
  ⟨134,[],[],none,[],[]⟩,
  ⟨135,[],[],none,[],[]⟩,
  ⟨136,[6,7,9],[[2,12]],none,[],[]⟩,
  ⟨137,[],[],none,[],[]⟩,
  ⟨138,[6,11,15,70],[[74]],none,[],[]⟩,
  ⟨139,[],[[8]],none,[],[]⟩,
  ⟨140,[],[],none,[],[]⟩,
  ⟨141,[],[],none,[],[]⟩,
  ⟨142,[7,9],[],none,[],[]⟩,
  ⟨143,[],[],none,[],[]⟩,
  ⟨144,[],[],none,[],[]⟩,
  ⟨145,[],[],none,[],[]⟩,
  ⟨146,[],[],none,[],[]⟩,
  ⟨147,[4,5],[[]],none,[],[]⟩,
  ⟨148,[],[[6]],none,[],[]⟩,
  ⟨149,[4],[],none,[],[]⟩,
  ⟨150,[4,6],[],none,[],[]⟩,
  ⟨151,[],[],none,[],[]⟩,
  ⟨152,[],[],none,[],[]⟩,
  ⟨153,[],[],none,[],[]⟩,
  ⟨154,[],[],none,[],[]⟩,
  ⟨155,[],[],none,[],[]⟩,
  ⟨156,[],[],none,[],[]⟩,
  ⟨157,[2,4,6,7],[[16]],none,[],[]⟩,
  ⟨158,[],[],none,[],[]⟩,
  ⟨159,[],[],none,[],[]⟩,
  ⟨160,[4],[],none,[],[]⟩,
  ⟨161,[],[],none,[],[]⟩,
  ⟨162,[],[],none,[],[]⟩,
  ⟨163,[5],[[3,9]],none,[],[]⟩,
  ⟨164,[],[],none,[],[]⟩,
  ⟨165,[12],[],none,[],[]⟩,
  ⟨166,[],[],none,[],[]⟩,
  ⟨167,[],[],none,[],[]⟩]
theorem Eu:iK C cC=true:=by kernel_rfl
noncomputable def jW:List Hint:=[
  ⟨168,[],[],none,[],[]⟩,
  ⟨169,[],[],none,[],[]⟩,
  ⟨170,[],[],none,[],[]⟩,
  ⟨171,[],[[6]],none,[],[]⟩,
  ⟨172,[],[[12,13,101]],none,[],[]⟩,
  ⟨173,[],[],none,[],[]⟩,
  ⟨174,[4,5,7],[],none,[],[]⟩,
  ⟨175,[8,9],[[22]],none,[],[]⟩,
  ⟨176,[7,9],[[5,15],[5,30]],none,[],[]⟩,
  ⟨177,[],[],none,[],[]⟩,
  ⟨178,[],[],none,[],[]⟩,
  ⟨179,[],[[18]],none,[],[]⟩,
  ⟨180,[],[],none,[],[]⟩,
  ⟨181,[],[[8]],none,[],[]⟩,
  ⟨182,[],[[8]],none,[],[]⟩,
  ⟨183,[],[],none,[],[]⟩,
  ⟨184,[],[],none,[],[]⟩,
  ⟨185,[],[],none,[],[]⟩,
  ⟨186,[],[[20],[7,8]],none,[],[]⟩,
  ⟨187,[10],[[16],[7,8]],none,[],[]⟩,
  ⟨188,[],[],none,[],[]⟩,
  ⟨189,[],[],none,[],[]⟩,
  ⟨190,[4,6],[],none,[],[]⟩,
  ⟨191,[],[[5]],none,[],[]⟩,
  ⟨192,[],[],none,[],[]⟩,
  ⟨193,[],[],none,[],[]⟩,
  ⟨194,[],[],none,[],[]⟩,
  ⟨195,[],[],none,[],[]⟩,
  ⟨196,[],[],none,[],[]⟩,
  ⟨197,[],[[3,4]],none,[],[]⟩,
  ⟨200,[15],[],none,[],[]⟩,
  ⟨201,[15],[],none,[],[]⟩,
  ⟨202,[],[[6]],none,[],[]⟩,
  ⟨203,[5],[],none,[],[]⟩,
  ⟨204,[],[],none,[],[]⟩,
  ⟨205,[],[],none,[],[]⟩,
  ⟨206,[9],[],none,[],[]⟩,
  ⟨207,[5],[],none,[],[]⟩,
  ⟨208,[],[],none,[],[]⟩,
  ⟨209,[],[],none,[],[]⟩]
theorem tJ:iK C jW=true:=by kernel_rfl
noncomputable def mw:List Hint:=[
  ⟨211,[],[],none,[],[]⟩,
  ⟨212,[5],[],none,[],[]⟩,
  ⟨213,[],[],none,[],[]⟩,
  ⟨214,[],[],none,[],[]⟩,
  ⟨215,[],[[1,4]],none,[],[]⟩,
  ⟨216,[12],[[1,13],[1,13]],none,[],[]⟩,
  ⟨217,[],[],none,[],[]⟩,
  ⟨218,[],[],none,[],[]⟩,
  ⟨219,[],[],none,[],[]⟩,
  ⟨220,[],[],none,[],[]⟩,
  ⟨221,[],[],none,[],[]⟩,
  ⟨222,[],[],none,[],[]⟩,
  ⟨223,[],[],none,[],[]⟩]
theorem NN:iK C mw=true:=by kernel_rfl
noncomputable def hs:List Hint:=gJ++(ef++(cC++(jW++(mw))))
theorem NO:iK C hs=true:=qy NL (qy NM (qy Eu (qy tJ (NN))))
end Go.Proofs.YtggbkidckoecfaaGreatDoor.rb

namespace Go.Proofs.YtggbkidckoecfaaGreatDoor.rb
open Rb
theorem NP:∀g l,gt g=some l→I.cv l=true:=by
 intro g l h;unfold gt at h;split at h
 ·cases h;kernel_rfl
 split at h
 ·cases h;kernel_rfl
 split at h
 ·cases h;kernel_rfl
 cases h
theorem lD:cY C:=NP
noncomputable def fn:Nat→Option tH:=qz C 4096 hs
theorem NQ:zn (aj C) (tI fn):=ND NO 4096
end Go.Proofs.YtggbkidckoecfaaGreatDoor.rb

namespace Go.Proofs.YtggbkidckoecfaaGreatDoor.rb
open Rb Go.RowKit
set_option maxRecDepth 100000 in
theorem NR(s:ByteArray)(c:Int)(w:World):Calls Tryz.prog 205 #[.string s,.int .u8 c] w λe R=>e = .returned (.int .i64 (Zg s.data.toList c.toNat.toUInt8))∧R=w:=by
 go_enter Tryz.func205,Tryz.ntmps205
 go_wp2
 rw[run_callFunc_extern Tryz.func210 (by kernel_rfl) (by kernel_rfl) (by kernel_rfl) (e:=Zh) (by kernel_rfl),Go.Lib.run_indexByteString];simp only[Result.andThen];rw[Oper.upon_value]
 go_wp2
 go_ret
 exact⟨rfl,rfl⟩
theorem indexByte(s:List UInt8)(c:Int)(H:Z)(Q:ad)(a:Q (.int .i64 (Zg s c.toNat.toUInt8)) H):aj C 205 [.str s,.int .u8 c] H Q:=by
 refine⟨⟨_,_,a⟩,λf hf G w Vs l b d=>?_⟩;obtain rfl:f=205:=by
  have:C.F 205=some 205:=by kernel_rfl
  rw[this]at hf;exact(Option.some.inj hf).symm
 obtain⟨hl,hv⟩:=d;obtain⟨g⟩:=Vs
 match g,hl with
 | [h,i],_=>have j:=(hv 0 _ h rfl rfl).iD;have k:=(hv 1 _ i rfl rfl).fC;subst j k;refine(NR ⟨s.toArray⟩ c w).mono λe R ⟨he,hw⟩=>?_;subst hw;exact⟨_,_,H,G,he,a,.int _ _,b,Step.refl _ _ _⟩
noncomputable def zB(L:List (Nat×List I×I)):oI:=λk a=>cond (Nat.beq k 205) (match a with|[.str s,.int .u8 c]=>some (.int .i64 (Zg s c.toNat.toUInt8))|_=>none) (zz L k a)
theorem NS{L:List (Nat×List I×I)}(d:hj (aj C) (gI L)):hj (aj C) (zB L):=by
 intro k a v h H Q c;unfold zB at h;cases b:Nat.beq k 205 with
 |false=>rw[b]at h;exact NH d k a v h H Q c
 | true=>
  rw[b]at h;obtain rfl:=Nat.eq_of_beq_eq_true b;simp only[cond_true]at h;split at h
  ·cases h;exact indexByte _ _ H Q c
  ·cases h
noncomputable def my(L:List (Nat×List I×I)):eT:=zm (zB L) (tI fn) 100
theorem ns{L:List (Nat×List I×I)}(a:hj (aj C) (gI L)):fo (aj C) (my L):=Nw (NS a) NQ 100
end Go.Proofs.YtggbkidckoecfaaGreatDoor.rb
