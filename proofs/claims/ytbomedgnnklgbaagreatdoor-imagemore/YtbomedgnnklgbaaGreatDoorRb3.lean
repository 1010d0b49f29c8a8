/- A part of the proof (part 3): see the last text. -/
import Derived.Test.YtbomedgnnklgbaaGreatDoorRb2
import Derived.Test.YtbomedgnnklgbaaGreatDoorRows
import Derived.KernelRfl
import Derived.WalkKit
import Derived.ProofKit
import Derived.Lib.Bytealg
import Derived.Laws.Externs
set_option linter.unusedVariables false
open Go.Extern.BytealgIndexByte renaming indexByte→adl
open Go.Lib renaming indexByte→adk
namespace Go.Proofs.YtbomedgnnklgbaaGreatDoor.rb
open Rb
noncomputable def gt(g:Nat):Option (List I):=if g=0 then some DS else if g=5 then some EY else if g=7 then some DT else none
noncomputable def C:Ctx:=lD Tryz.prog gt
noncomputable def t_:List Hint:=[
  ⟨3,[3,4,5,6],[[7],[8]],none,[],[]⟩,
  ⟨4,[2,3,4,5,9,29,34],[[39]],none,[],[(16,[5,5])]⟩,
  ⟨5,[1,2,3,4],[],none,[],[]⟩,
  ⟨6,[2,41],[[34]],none,[],[]⟩,
  ⟨7,[8],[[5,6,14]],none,[],[]⟩,
  ⟨8,[8,11,21],[[18,19,66]],none,[],[]⟩,
  ⟨9,[2,3,4,5],[],none,[],[]⟩,
  ⟨10,[4],[],none,[],[]⟩,
  ⟨11,[5],[[3,14]],none,[],[]⟩,
  ⟨12,[8],[[16]],none,[],[]⟩,
  ⟨13,[],[],none,[],[]⟩,
  ⟨14,[5],[],none,[],[]⟩,
  ⟨15,[6,7,39],[],none,[],[]⟩,
  ⟨16,[14,25,29,33],[[36]],none,[],[(18,[9])]⟩,
  ⟨17,[7,16,49,73],[[20],[32],[10,60],[14],[14,80]],none,[],[(31,[10])]⟩,
  ⟨18,[12,14,20],[[26],[42]],none,[],[(19,[10,10,10])]⟩,
  ⟨19,[4,6,9],[[5,24]],none,[],[]⟩,
  ⟨20,[2,3,5,6,7],[[],[]],none,[],[]⟩,
  ⟨21,[],[[]],none,[],[]⟩,
  ⟨22,[],[],none,[],[]⟩,
  ⟨23,[],[],none,[],[]⟩,
  ⟨24,[],[],none,[],[]⟩,
  ⟨25,[],[],none,[],[]⟩,
  ⟨26,[2,5],[],none,[],[]⟩,
  ⟨27,[6],[[14]],none,[],[]⟩,
  ⟨28,[7],[],none,[],[]⟩,
  ⟨29,[],[],none,[],[]⟩,
  ⟨30,[],[],none,[],[]⟩,
  ⟨31,[],[[8]],none,[],[]⟩,
  ⟨32,[],[],none,[],[]⟩,
  ⟨33,[34],[[]],none,[],[]⟩,
  ⟨34,[],[],none,[],[]⟩,
  ⟨35,[],[[3,11],[6,27]],none,[],[]⟩,
  ⟨36,[9],[],none,[],[]⟩,
  ⟨37,[7],[],none,[],[]⟩,
  ⟨38,[6],[[4,12]],none,[],[]⟩,
  ⟨39,[],[[5,10]],none,[],[]⟩,
  ⟨40,[7],[[12]],none,[],[]⟩,
  ⟨41,[],[],none,[],[]⟩,
  ⟨42,[],[],none,[],[]⟩]
theorem PY:hg C t_=true:=by kernel_rfl
noncomputable def zW:List Hint:=[
  ⟨43,[2],[],none,[],[]⟩,
  ⟨44,[2],[],none,[],[]⟩,
  ⟨45,[],[],none,[],[]⟩,
  ⟨46,[],[],none,[],[]⟩,
  ⟨47,[],[],none,[],[]⟩,
  ⟨48,[],[],none,[],[]⟩,
  ⟨49,[3,5,37],[],none,[],[]⟩,
  ⟨50,[],[],none,[],[]⟩,
  ⟨51,[],[],none,[],[]⟩,
  ⟨52,[4,5,7],[[]],none,[],[]⟩,
  ⟨53,[],[],none,[],[]⟩,
  ⟨54,[],[[5]],none,[],[]⟩,
  ⟨55,[2],[],none,[],[]⟩,
  ⟨56,[],[],none,[],[]⟩,
  ⟨57,[],[],none,[],[]⟩,
  ⟨58,[41],[[3,4,5,6],[12],[10,11,12],[12]],some 9,[],[]⟩,
  ⟨59,[],[[8]],none,[],[]⟩,
  ⟨60,[],[],none,[],[]⟩,
  ⟨61,[3],[],none,[],[]⟩,
  ⟨62,[],[],none,[],[]⟩,
  ⟨63,[],[],none,[],[]⟩,
  ⟨64,[8,11,13],[[42],[49]],none,[],[]⟩,
  ⟨65,[7],[[10]],none,[],[]⟩,
  ⟨66,[],[],none,[],[]⟩,
  ⟨67,[],[],none,[],[]⟩,
  ⟨68,[2,4,6],[],none,[],[]⟩,
  ⟨69,[7,8],[],none,[],[]⟩,
  ⟨70,[],[[7,8],[6],[7,8]],none,[],[]⟩,
  ⟨71,[],[],none,[],[]⟩,
  ⟨72,[],[],none,[9,181,183,336,338,355],[]⟩,
  ⟨73,[],[],none,[],[]⟩,
  ⟨74,[],[],none,[],[]⟩,
  ⟨75,[],[],none,[9,181,183,336,338,355],[]⟩,
  ⟨76,[],[],none,[],[]⟩,
  ⟨77,[],[],none,[],[]⟩,
  ⟨78,[],[[5,8]],none,[],[]⟩,
  ⟨79,[],[],none,[],[]⟩,
  ⟨80,[],[],none,[],[]⟩,
  ⟨81,[],[],none,[],[]⟩,
  ⟨82,[],[],none,[],[]⟩]
theorem PZ:hg C zW=true:=by kernel_rfl
noncomputable def ua:List Hint:=[
  ⟨83,[],[],none,[],[]⟩,
  ⟨84,[],[],none,[],[]⟩,
  ⟨85,[],[],none,[],[]⟩,
  ⟨86,[],[],none,[],[]⟩,
  ⟨87,[],[],none,[],[]⟩,
  ⟨88,[],[],none,[],[]⟩,
  ⟨89,[13,23,36],[],none,[],[]⟩,
  ⟨90,[4],[],none,[],[]⟩,
  ⟨91,[],[],none,[],[]⟩,
  ⟨92,[2],[],none,[],[]⟩,
  ⟨93,[0],[],none,[],[]⟩,
  ⟨94,[3,11],[[]],none,[],[]⟩,
  ⟨95,[],[],none,[],[]⟩,
  ⟨96,[],[],none,[],[]⟩,
  ⟨97,[],[],none,[],[]⟩,
  ⟨98,[],[],none,[],[]⟩,
  ⟨99,[],[],none,[],[]⟩,
  ⟨100,[],[],none,[],[]⟩,
  ⟨101,[2],[[11],[17]],none,[],[]⟩,
  ⟨102,[],[],none,[],[]⟩,
  ⟨103,[],[],none,[],[]⟩,
  ⟨104,[4,5],[],none,[],[]⟩,
  ⟨105,[4,5],[],none,[],[]⟩,
  ⟨106,[],[[8]],none,[],[]⟩,
  ⟨107,[11,12,46],[[5,6],[49]],none,[],[]⟩,
  ⟨108,[],[],none,[],[]⟩,
  ⟨109,[2],[],none,[],[]⟩,
  ⟨110,[],[],none,[],[]⟩,
  ⟨111,[4,7,10,11],[[33]],none,[],[]⟩,
  ⟨112,[],[],none,[],[]⟩,
  ⟨113,[],[],none,[],[]⟩,
  ⟨114,[],[],none,[],[]⟩,
  ⟨115,[],[],none,[],[]⟩,
  ⟨116,[],[],none,[],[]⟩,
  ⟨117,[],[],none,[],[]⟩,
  ⟨118,[],[],none,[],[]⟩,
  ⟨119,[],[],none,[],[]⟩,
  ⟨120,[2,4,6,7],[[16]],none,[],[]⟩,
  ⟨121,[],[],none,[],[]⟩,
  ⟨122,[],[],none,[],[]⟩]
theorem pj:hg C ua=true:=by kernel_rfl
noncomputable def nD:List Hint:=[
  ⟨123,[6],[],none,[],[]⟩,
  ⟨124,[],[],none,[],[]⟩,
  ⟨125,[6],[],none,[],[]⟩,
  ⟨126,[4,5],[],none,[],[]⟩,
  ⟨127,[4,5],[],none,[],[]⟩,
  ⟨128,[2],[],none,[],[]⟩,
  ⟨129,[],[],none,[],[]⟩,
  ⟨130,[3],[],none,[],[]⟩,
  ⟨131,[],[],none,[],[]⟩,
  ⟨132,[],[],none,[],[]⟩,
  ⟨133,[],[[8],[9]],none,[],[]⟩,
  ⟨134,[],[[10,11],[13],[14,15],[17],[20,21]],none,[],[]⟩,
  ⟨135,[],[[7]],none,[9,181,183,336,338,355],[]⟩,
  ⟨136,[],[[1,2,3,10,11]],none,[],[]⟩,
  ⟨137,[],[],none,[],[]⟩,
  ⟨138,[],[[1]],none,[9,181,183,336,338,355],[]⟩,
  ⟨139,[],[[5,6]],none,[],[]⟩,
  ⟨140,[],[],none,[],[]⟩,
  ⟨141,[],[],none,[],[]⟩,
  ⟨142,[],[],none,[],[]⟩,
  ⟨143,[],[],none,[],[]⟩,
  ⟨144,[],[],none,[],[]⟩,
  ⟨145,[],[],none,[],[]⟩,
  ⟨146,[],[],none,[],[]⟩,
  ⟨147,[],[],none,[],[]⟩,
  ⟨148,[],[[3]],none,[],[]⟩,
  ⟨149,[],[],none,[],[]⟩,
  ⟨150,[],[],none,[],[]⟩,
  ⟨151,[2],[],none,[],[]⟩,
  ⟨152,[],[],none,[],[]⟩,
  ⟨153,[],[],none,[],[]⟩,
  ⟨154,[],[],none,[],[]⟩,
  ⟨155,[],[],none,[],[]⟩,
  ⟨156,[4,5],[[]],none,[],[]⟩,
  ⟨157,[],[[6]],none,[],[]⟩,
  ⟨158,[4],[],none,[],[]⟩,
  ⟨159,[4,6],[],none,[],[]⟩,
  ⟨160,[],[],none,[],[]⟩,
  ⟨161,[],[],none,[],[]⟩,
  ⟨162,[4],[],none,[],[]⟩]
theorem P0:hg C nD=true:=by kernel_rfl
noncomputable def ub:List Hint:=[
  ⟨163,[],[],none,[],[]⟩,
  ⟨164,[7,9],[[5,15],[5,30]],none,[],[]⟩,
  ⟨165,[],[],none,[],[]⟩,
  ⟨166,[],[],none,[],[]⟩,
  ⟨167,[],[[18]],none,[],[]⟩,
  ⟨168,[],[],none,[],[]⟩,
  ⟨169,[],[[8]],none,[],[]⟩,
  ⟨170,[],[[8]],none,[],[]⟩,
  ⟨171,[],[],none,[],[]⟩,
  ⟨172,[],[],none,[],[]⟩,
  ⟨173,[],[],none,[],[]⟩,
  ⟨174,[5],[],none,[],[]⟩,
  ⟨175,[9],[],none,[],[]⟩,
  ⟨176,[5],[],none,[],[]⟩,
  ⟨177,[5,8,9],[[6,17]],none,[],[]⟩,
  ⟨178,[],[[8]],none,[],[]⟩,
  ⟨179,[],[],none,[],[]⟩,
  ⟨180,[4,6,7,9,13,15],[[46]],none,[],[]⟩,
  ⟨181,[],[],none,[],[]⟩,
  ⟨182,[11,12],[[9,17]],none,[],[]⟩,
  ⟨183,[],[],none,[],[]⟩,
  ⟨184,[],[],none,[],[]⟩,
  ⟨185,[11,12],[[16]],none,[],[]⟩,
  ⟨186,[],[],none,[],[]⟩,
  ⟨187,[6],[],none,[],[]⟩,
  ⟨188,[4],[],none,[],[]⟩,
  ⟨189,[],[[10,11]],none,[],[]⟩,
  ⟨190,[],[[8],[9]],none,[],[]⟩,
  ⟨191,[],[[11],[12]],none,[],[]⟩,
  ⟨192,[9],[[11]],none,[],[]⟩,
  ⟨193,[11],[],none,[],[]⟩,
  ⟨194,[],[[8,9]],none,[],[]⟩,
  ⟨195,[],[[9,10],[9],[11],[12]],none,[],[]⟩,
  ⟨196,[],[[11,12],[11],[12]],none,[],[]⟩,
  ⟨197,[],[[12],[13],[12,13],[12],[13]],none,[],[]⟩,
  ⟨198,[],[],none,[],[]⟩,
  ⟨199,[],[],none,[],[]⟩,
  ⟨200,[],[[8]],none,[],[]⟩,
  ⟨201,[],[],none,[],[]⟩,
  ⟨202,[],[],none,[],[]⟩]
theorem P1:hg C ub=true:=by kernel_rfl
noncomputable def qO:List Hint:=[
  ⟨203,[],[],none,[],[]⟩,
  ⟨204,[],[],none,[],[]⟩,
  ⟨205,[],[[6]],none,[],[]⟩,
  ⟨206,[],[[12,13,101]],none,[],[]⟩,
  ⟨207,[],[],none,[],[]⟩,
  ⟨208,[4,5,7],[],none,[],[]⟩,
  ⟨209,[8,9],[[22]],none,[],[]⟩,
  ⟨210,[],[[20],[7,8]],none,[],[]⟩,
  ⟨211,[10],[[16],[7,8]],none,[],[]⟩,
  ⟨212,[],[],none,[],[]⟩,
  ⟨213,[5],[],none,[],[]⟩,
  ⟨214,[],[],none,[],[]⟩,
  ⟨215,[],[],none,[],[]⟩,
  ⟨216,[4,6],[],none,[],[]⟩,
  ⟨217,[],[[1]],none,[],[]⟩,
  ⟨218,[5],[[3,16],[3,6],[7]],none,[],[]⟩,
  ⟨219,[],[[10]],none,[],[]⟩,
  ⟨220,[],[[10]],none,[],[]⟩,
  ⟨221,[],[],none,[],[]⟩,
  ⟨222,[],[],none,[],[]⟩,
  ⟨223,[],[],none,[],[]⟩,
  ⟨224,[],[],none,[],[]⟩,
  ⟨225,[],[[5]],none,[],[]⟩,
  ⟨226,[],[],none,[],[]⟩,
  ⟨227,[],[],none,[],[]⟩,
  ⟨228,[],[],none,[],[]⟩,
  ⟨229,[],[],none,[],[]⟩,
  ⟨230,[],[],none,[],[]⟩,
  ⟨231,[],[[3,4]],none,[],[]⟩,
  ⟨234,[15],[],none,[],[]⟩,
  ⟨235,[15],[],none,[],[]⟩,
  ⟨236,[],[[6]],none,[],[]⟩,
  ⟨237,[],[],none,[],[]⟩,
  ⟨238,[1],[[3],[4]],none,[],[]⟩,
  ⟨239,[],[],none,[],[]⟩,
  ⟨240,[],[],none,[],[]⟩,
  ⟨241,[],[],none,[],[]⟩,
  ⟨242,[9],[],none,[],[]⟩,
  ⟨243,[5],[],none,[],[]⟩,
  ⟨244,[],[],none,[],[]⟩]
theorem P3:hg C qO=true:=by kernel_rfl
noncomputable def uc:List Hint:=[
  ⟨245,[],[],none,[],[]⟩,
  ⟨247,[],[],none,[],[]⟩,
  ⟨248,[5],[],none,[],[]⟩,
  ⟨249,[],[],none,[],[]⟩,
  ⟨250,[],[],none,[],[]⟩,
  ⟨251,[],[[1,4]],none,[],[]⟩,
  ⟨252,[12],[[1,13],[1,13]],none,[],[]⟩,
  ⟨253,[],[],none,[],[]⟩,
  ⟨254,[],[],none,[],[]⟩,
  ⟨255,[],[],none,[],[]⟩,
  ⟨256,[],[],none,[],[]⟩,
  ⟨257,[],[],none,[],[]⟩,
  ⟨258,[],[],none,[],[]⟩,
  ⟨275,[],[],none,[],[]⟩,
  ⟨276,[],[],none,[],[]⟩,
  ⟨277,[],[],none,[],[]⟩,
  ⟨278,[],[],none,[],[]⟩,
  ⟨279,[11],[],none,[],[]⟩]
theorem P4:hg C uc=true:=by kernel_rfl
noncomputable def hs:List Hint:=t_++(zW++(ua++(nD++(ub++(qO++(uc))))))
theorem P5:hg C hs=true:=nz PY (nz PZ (nz pj (nz P0 (nz P1 (nz P3 (P4))))))
end Go.Proofs.YtbomedgnnklgbaaGreatDoor.rb

namespace Go.Proofs.YtbomedgnnklgbaaGreatDoor.rb
open Rb
theorem P6:∀g l,gt g=some l→I.bF l=true:=by
 intro g l h;unfold gt at h;split at h
 ·cases h;kernel_rfl
 split at h
 ·cases h;kernel_rfl
 split at h
 ·cases h;kernel_rfl
 cases h
theorem kW:bT C:=P6
noncomputable def fn:Nat→Option qE:=qJ C 4096 hs
theorem P7:y2 (b7 C) (tY fn):=PT P5 4096
end Go.Proofs.YtbomedgnnklgbaaGreatDoor.rb

namespace Go.Proofs.YtbomedgnnklgbaaGreatDoor.rb
open Rb Go.RowKit
set_option maxRecDepth 100000 in
theorem P9(s:ByteArray)(c:Int)(w:World):Calls Tryz.prog 241 #[.string s,.int .u8 c] w λe w'=>e = .returned (.int .i64 (adk s.data.toList c.toNat.toUInt8))∧w'=w:=by
 go_enter Tryz.func241,Tryz.ntmps241
 go_wp2
 rw[run_callFunc_extern Tryz.func246 (by kernel_rfl) (by kernel_rfl) (by kernel_rfl) (e:=adl) (by kernel_rfl),Go.Lib.run_indexByteString];simp only[Result.andThen];rw[Oper.upon_value]
 go_wp2
 go_ret
 exact⟨rfl,rfl⟩
theorem indexByte(s:List UInt8)(c:Int)(H:AH)(Q:ad)(a:Q (.int .i64 (adk s c.toNat.toUInt8)) H):b7 C 241 [.str s,.int .u8 c] H Q:=by
 refine⟨⟨_,_,a⟩,λf hf G w Vs k b d=>?_⟩;obtain rfl:f=241:=by
  have:C.F 241=some 241:=by kernel_rfl
  rw[this]at hf;exact(Option.some.inj hf).symm
 obtain⟨hl,hv⟩:=d;obtain⟨g⟩:=Vs
 match g,hl with
 | [h,i],_=>have j:=(hv 0 _ h rfl rfl).h7;have h1:=(hv 1 _ i rfl rfl).eK;subst j h1;refine(P9 ⟨s.toArray⟩ c w).mono λe w' ⟨he,hw⟩=>?_;subst hw;exact⟨_,_,H,G,he,a,.int _ _,b,Step.refl _ _ _⟩
noncomputable def zX(L:List (Nat×List I×I)):oZ:=λk a=>cond (Nat.beq k 241) (match a with|[.str s,.int .u8 c]=>some (.int .i64 (adk s c.toNat.toUInt8))|_=>none) (zU L k a)
theorem P_{L:List (Nat×List I×I)}(hL:gz (b7 C) (fP L)):gz (b7 C) (zX L):=by
 intro k a v h H Q c;unfold zX at h;cases b:Nat.beq k 241 with
 |false=>rw[b]at h;exact PV hL k a v h H Q c
 | true=>
  rw[b]at h;obtain rfl:=Nat.eq_of_beq_eq_true b;simp only[cond_true]at h;split at h
  ·cases h;exact indexByte _ _ H Q c
  ·cases h
noncomputable def mA(L:List (Nat×List I×I)):db:=y1 (zX L) (tY fn) 100
theorem nE{L:List (Nat×List I×I)}(hL:gz (b7 C) (fP L)):eA (b7 C) (mA L):=OM (P_ hL) P7 100
end Go.Proofs.YtbomedgnnklgbaaGreatDoor.rb
