/- A part of the proof (part 3): see the last text. -/
import Derived.Test.YtbjhdakiiedmcaaGreatDoorRb2
import Derived.Test.YtbjhdakiiedmcaaGreatDoorRows
import Derived.KernelRfl
set_option linter.unusedVariables false
namespace Go.Proofs.YtbjhdakiiedmcaaGreatDoor.rb
open Rb
noncomputable def gt(g:Nat):Option (List AV):=if g=0 then some ZY else none
noncomputable def C:Ctx:=zK Tryz.prog gt
noncomputable def yl:List Hint:=[
  ⟨3,[7,8,11],[[10],[13,14]],none,[],[]⟩,
  ⟨4,[6,7,39],[],none,[],[]⟩,
  ⟨5,[2,4,94],[[3],[5],[10]],none,[],[]⟩,
  ⟨6,[1,4,8],[],none,[],[]⟩,
  ⟨7,[6],[[1,5]],none,[],[]⟩,
  ⟨8,[],[[3,4]],none,[],[]⟩,
  ⟨9,[],[],none,[],[]⟩,
  ⟨10,[2,41],[[34]],none,[],[]⟩,
  ⟨11,[8],[[5,6,14]],none,[],[]⟩,
  ⟨12,[6],[[14]],none,[],[]⟩,
  ⟨13,[],[[3]],none,[],[]⟩,
  ⟨14,[],[[4]],none,[],[]⟩,
  ⟨15,[],[],none,[],[]⟩,
  ⟨16,[10],[[6],[5,8,9],[8]],none,[],[]⟩,
  ⟨17,[10],[[8,9]],none,[],[]⟩,
  ⟨18,[2],[],none,[],[]⟩,
  ⟨19,[2],[],none,[],[]⟩,
  ⟨20,[2],[],none,[],[]⟩,
  ⟨21,[5,37],[],none,[],[]⟩,
  ⟨22,[],[[2,7]],none,[],[]⟩,
  ⟨23,[8],[[2,7]],none,[],[]⟩,
  ⟨24,[],[[3,4]],none,[],[]⟩,
  ⟨25,[],[[3,4]],none,[],[]⟩,
  ⟨26,[5],[[3,14]],none,[],[]⟩,
  ⟨27,[8],[[16]],none,[],[]⟩,
  ⟨28,[],[],none,[],[]⟩,
  ⟨29,[5],[],none,[],[]⟩,
  ⟨30,[7,8],[],none,[],[]⟩,
  ⟨31,[],[],none,[],[]⟩,
  ⟨32,[],[],none,[],[]⟩,
  ⟨33,[],[[3,4],[3,5]],none,[],[]⟩,
  ⟨34,[2,3,4,8,9],[[5,6,7],[5],[6]],none,[],[]⟩,
  ⟨35,[],[],none,[],[]⟩,
  ⟨36,[],[],none,[],[]⟩,
  ⟨37,[],[[6]],none,[],[]⟩,
  ⟨38,[],[[5]],none,[],[]⟩,
  ⟨39,[10],[[13]],none,[],[]⟩,
  ⟨40,[9],[[8]],none,[],[]⟩,
  ⟨41,[],[[]],none,[],[]⟩,
  ⟨42,[],[],none,[],[]⟩]
theorem ok0:sa C yl=true:=by kernel_rfl
noncomputable def ym:List Hint:=[
  ⟨43,[],[],none,[],[]⟩,
  ⟨44,[],[],none,[],[]⟩,
  ⟨45,[],[],none,[],[]⟩,
  ⟨46,[2,5],[],none,[],[]⟩,
  ⟨47,[],[],none,[],[]⟩,
  ⟨48,[],[],none,[],[]⟩,
  ⟨49,[6],[],none,[],[]⟩,
  ⟨50,[],[],none,[],[]⟩,
  ⟨51,[6],[],none,[],[]⟩,
  ⟨52,[4,5],[],none,[],[]⟩,
  ⟨53,[4,5],[],none,[],[]⟩,
  ⟨54,[2],[],none,[],[]⟩,
  ⟨55,[],[],none,[],[]⟩,
  ⟨56,[3],[],none,[],[]⟩,
  ⟨57,[],[],none,[],[]⟩,
  ⟨58,[],[],none,[],[]⟩,
  ⟨59,[],[[5,6],[5,8]],none,[],[]⟩,
  ⟨60,[4],[[3],[5]],none,[],[]⟩,
  ⟨61,[],[[3,4],[3,5]],none,[],[]⟩,
  ⟨62,[],[],none,[],[]⟩,
  ⟨63,[4,8,11,12],[[6,7],[9,10],[9,13]],none,[],[]⟩,
  ⟨64,[],[],none,[],[]⟩,
  ⟨65,[],[],none,[],[]⟩,
  ⟨66,[],[],none,[],[]⟩,
  ⟨67,[41],[[3,4,5,6],[12],[10,11,12],[12]],some 9,[],[]⟩,
  ⟨68,[],[[8]],none,[],[]⟩,
  ⟨69,[],[],none,[],[]⟩,
  ⟨70,[3],[],none,[],[]⟩,
  ⟨71,[],[],none,[],[]⟩,
  ⟨72,[],[],none,[],[]⟩,
  ⟨73,[8,11,13],[[42],[49]],none,[],[]⟩,
  ⟨74,[7],[[10]],none,[],[]⟩,
  ⟨75,[],[],none,[],[]⟩,
  ⟨76,[],[],none,[],[]⟩,
  ⟨77,[2,4,6],[],none,[],[]⟩,
  ⟨78,[5],[],none,[],[]⟩,
  ⟨79,[9],[],none,[],[]⟩,
  ⟨80,[5],[],none,[],[]⟩,
  ⟨81,[5,8,9],[[6,17]],none,[],[]⟩,
  ⟨82,[],[[8]],none,[],[]⟩]
theorem ok1:sa C ym=true:=by kernel_rfl
noncomputable def K_:List Hint:=[
  ⟨83,[],[],none,[],[]⟩,
  ⟨84,[4,6,7,9,13,15],[[46]],none,[],[]⟩,
  ⟨85,[],[],none,[],[]⟩,
  ⟨86,[11,12],[[9,17]],none,[],[]⟩,
  ⟨87,[],[],none,[],[]⟩,
  ⟨88,[],[],none,[],[]⟩,
  ⟨89,[11,12],[[16]],none,[],[]⟩,
  ⟨90,[],[],none,[],[]⟩,
  ⟨91,[6],[],none,[],[]⟩,
  ⟨92,[4],[],none,[],[]⟩,
  ⟨93,[],[[5]],none,[],[]⟩,
  ⟨94,[],[[8]],none,[],[]⟩,
  ⟨95,[11,12,46],[[5,6],[49]],none,[],[]⟩,
  ⟨96,[],[],none,[],[]⟩,
  ⟨97,[2],[],none,[],[]⟩,
  ⟨98,[],[],none,[],[]⟩,
  ⟨99,[4,7,10,11],[[33]],none,[],[]⟩,
  ⟨100,[],[],none,[],[]⟩,
  ⟨101,[],[],none,[],[]⟩,
  ⟨102,[],[],none,[],[]⟩,
  ⟨103,[],[],none,[],[]⟩,
  ⟨104,[],[],none,[],[]⟩,
  ⟨105,[],[],none,[],[]⟩,
  ⟨106,[],[],none,[],[]⟩,
  ⟨107,[],[],none,[],[]⟩,
  ⟨108,[2,4,6,7],[[16]],none,[],[]⟩,
  ⟨109,[],[],none,[],[]⟩,
  ⟨110,[],[[8]],none,[],[]⟩,
  ⟨111,[],[],none,[],[]⟩,
  ⟨112,[4,6],[],none,[],[]⟩,
  ⟨113,[],[[1]],none,[],[]⟩,
  ⟨114,[5],[[3,16],[3,6],[7]],none,[],[]⟩,
  ⟨115,[],[],none,[],[]⟩,
  ⟨116,[],[],none,[],[]⟩,
  ⟨117,[4],[],none,[],[]⟩,
  ⟨118,[],[],none,[],[]⟩,
  ⟨119,[7,9],[[5,15],[5,30]],none,[],[]⟩,
  ⟨120,[],[],none,[],[]⟩,
  ⟨121,[],[],none,[],[]⟩,
  ⟨122,[],[[18]],none,[],[]⟩]
theorem GU:sa C K_=true:=by kernel_rfl
noncomputable def La:List Hint:=[
  ⟨123,[],[],none,[],[]⟩,
  ⟨124,[],[[8]],none,[],[]⟩,
  ⟨125,[],[],none,[],[]⟩,
  ⟨126,[],[],none,[],[]⟩,
  ⟨127,[],[],none,[],[]⟩,
  ⟨128,[1],[[3],[4]],none,[],[]⟩,
  ⟨129,[],[[20],[7,8]],none,[],[]⟩,
  ⟨130,[10],[[16],[7,8]],none,[],[]⟩,
  ⟨131,[],[],none,[],[]⟩,
  ⟨132,[5],[],none,[],[]⟩,
  ⟨133,[],[],none,[],[]⟩,
  ⟨134,[],[],none,[],[]⟩]
theorem ok3:sa C La=true:=by kernel_rfl
noncomputable def hs:List Hint:=yl++(ym++(K_++(La)))
theorem avE:sa C hs=true:=Mt ok0 (Mt ok1 (Mt GU (ok3)))
end Go.Proofs.YtbjhdakiiedmcaaGreatDoor.rb

namespace Go.Proofs.YtbjhdakiiedmcaaGreatDoor.rb
open Rb
theorem awD:∀g l,gt g=some l→AV.dD l=true:=by
 intro g l h;unfold gt at h;split at h
 ·cases h;kernel_rfl
 cases h
theorem A0:dz C:=awD
noncomputable def fn:Nat→Option Kl:=J0 C 4096 hs
theorem ar1:Uf (au C) (P6 fn):=anz avE 4096
end Go.Proofs.YtbjhdakiiedmcaaGreatDoor.rb

namespace Go.Proofs.YtbjhdakiiedmcaaGreatDoor.rb
open Rb
noncomputable def CG(L:List (Nat×List AV×AV)):ff:=WY (WR L) (P6 fn) 100
theorem Ee{L:List (Nat×List AV×AV)}(hL:qP (au C) (oE L)):kq (au C) (CG L):=al6 (ap8 hL) ar1 100
end Go.Proofs.YtbjhdakiiedmcaaGreatDoor.rb
