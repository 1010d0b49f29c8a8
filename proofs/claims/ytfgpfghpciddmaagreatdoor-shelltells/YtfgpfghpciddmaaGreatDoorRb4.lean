/- A part of the proof (part 4): see the last text. -/
import Derived.Test.YtfgpfghpciddmaaGreatDoorRb2
import Derived.Test.YtfgpfghpciddmaaGreatDoorRb3
import Derived.Test.YtfgpfghpciddmaaGreatDoorRows
import Derived.KernelRfl
import Derived.WalkKit
import Derived.ProofKit
import Derived.Lib.Bytealg
import Derived.Laws.Externs
import Derived.LaidLaws
import Derived.LaidHandle
import Derived.Lib.LaidU8
import Derived.Deep.DeepLaidRun
import Derived.Handed
import Derived.JoinedOf
import Derived.SevenTiedAt
import Derived.Lib.Space
import Derived.ChangeArms
import Derived.SizedLaws
import Derived.Below
import Derived.Lib.FrozenHead
import Derived.Deep.DeepAppendWide
import Derived.Lib.UnsafeStr
import Derived.Lib.FrozenHead2
import Derived.BigRegionIn
import Derived.Stop.LaidErr
import Derived.ChangeBears2
import Derived.Test.YtfgpfghpciddmaaGreatDoorTie
import Derived.Test.YtfgpfghpciddmaaGreatDoorCards
import Derived.Shelf.Strconv.Itoa3
import Derived.Lib.ItoaMem
import Derived.Lib.AtoiAll
import Derived.Lib.ItoaNum
import Derived.Lib.IndexLaws
import Derived.RangeFuncBox
import Derived.RangeFuncCalls
import Derived.RangeFuncNested
import Derived.OwnWalkIn
import Derived.TacticsInMore
import Derived.LoopNIn
import Derived.LoopIn
import Derived.RangeFuncLeaves
import Derived.RangeFuncBound
import Derived.Shelf.Abstract
import Derived.Maps.AppendAt
import Derived.Maps.OwnIn
set_option linter.unusedVariables false
set_option linter.unusedSimpArgs false
namespace Go.Proofs.YtfgpfghpciddmaaGreatDoor.rb
open Rb
noncomputable def gt (g : Nat) : Option (List AV) := if g = 0 then some pow10tab else if g = 2 then some deBruijn64tab else if g = 3 then some asciiSpace else if g = 5 then some [.iface 400 (.fptr [])] else if g = 6 then some [.iface 400 (.fptr [])] else none
noncomputable def C : Ctx := idC Tryz.prog gt
noncomputable def hs0 : List Hint := [
  ⟨3,[],[],none,[],[]⟩,
  ⟨4,[2,4,6],[],none,[],[]⟩,
  ⟨5,[],[[3,17],[6,41]],none,[],[]⟩,
  ⟨6,[],[[3,4],[3,5],[3,6]],none,[],[]⟩,
  ⟨7,[5,6,7],[],none,[],[]⟩,
  ⟨8,[3,4,5,8],[[6,25],[6,51],[6,64]],none,[],[]⟩,
  ⟨9,[3],[[8]],none,[],[]⟩,
  ⟨10,[],[],none,[],[]⟩,
  ⟨11,[],[],none,[],[]⟩,
  ⟨12,[],[],none,[],[]⟩,
  ⟨13,[3],[[8]],none,[],[]⟩,
  ⟨14,[],[[0,5,6]],none,[],[]⟩,
  ⟨15,[],[[3,4]],none,[],[]⟩,
  ⟨16,[],[[0,3]],none,[],[]⟩,
  ⟨17,[2,3,4,5],[],none,[],[]⟩,
  ⟨19,[6,12,43,55,82],[[61],[85]],none,[],[]⟩,
  ⟨20,[7],[[13]],none,[],[]⟩,
  ⟨21,[2,3],[[26]],none,[],[]⟩,
  ⟨22,[8],[[11]],none,[],[]⟩,
  ⟨25,[],[],none,[],[]⟩,
  ⟨26,[5],[],none,[],[]⟩,
  ⟨27,[2,3,5,6,7],[[],[]],none,[],[]⟩,
  ⟨28,[2,3,4,5,9,29,34],[[39]],none,[],[(16,[5,5])]⟩,
  ⟨30,[2,8],[[5]],none,[],[]⟩,
  ⟨31,[],[],none,[],[]⟩,
  ⟨32,[4],[],none,[],[]⟩,
  ⟨33,[],[],none,[],[]⟩,
  ⟨34,[2,5],[[4]],none,[],[]⟩,
  ⟨35,[],[],none,[],[]⟩,
  ⟨36,[],[],none,[],[]⟩,
  ⟨37,[],[],none,[],[]⟩,
  ⟨38,[],[],none,[],[]⟩,
  ⟨39,[],[],none,[],[]⟩,
  ⟨41,[5],[],none,[],[]⟩,
  ⟨42,[],[],none,[],[]⟩,
  ⟨43,[],[],none,[],[]⟩,
  ⟨44,[],[[1,4]],none,[],[]⟩,
  ⟨45,[12],[[1,13],[1,13]],none,[],[]⟩,
  ⟨46,[3,5,37],[],none,[],[]⟩,
  ⟨47,[],[],none,[],[]⟩]
theorem ok0 : chkH C hs0 = true := by kernel_rfl
noncomputable def hs1 : List Hint := [
  ⟨48,[],[],none,[],[]⟩,
  ⟨49,[4,5,7],[[]],none,[],[]⟩,
  ⟨50,[],[],none,[],[]⟩,
  ⟨51,[],[[5]],none,[],[]⟩,
  ⟨52,[2],[],none,[],[]⟩,
  ⟨53,[2,41],[[34]],none,[],[]⟩,
  ⟨54,[8],[[5,6,14]],none,[],[]⟩,
  ⟨55,[8,11,21],[[18,19,66]],none,[],[]⟩,
  ⟨57,[],[],none,[],[]⟩,
  ⟨58,[],[],none,[],[]⟩,
  ⟨59,[],[],none,[],[]⟩,
  ⟨60,[],[],none,[],[]⟩,
  ⟨61,[],[],none,[],[]⟩,
  ⟨62,[],[],none,[],[]⟩,
  ⟨63,[4,6,7,11],[[8,23]],none,[],[]⟩,
  ⟨64,[],[],none,[],[]⟩,
  ⟨65,[],[[10]],none,[],[]⟩,
  ⟨66,[],[[10],[5,17]],none,[],[]⟩,
  ⟨68,[],[],none,[],[]⟩,
  ⟨69,[],[],none,[],[]⟩,
  ⟨70,[],[],none,[],[]⟩,
  ⟨71,[],[],none,[],[]⟩,
  ⟨72,[],[],none,[],[]⟩,
  ⟨73,[3,11],[[]],none,[],[]⟩,
  ⟨74,[],[],none,[],[]⟩,
  ⟨75,[],[],none,[],[]⟩,
  ⟨76,[],[],none,[],[]⟩,
  ⟨77,[],[],none,[],[]⟩,
  ⟨78,[],[],none,[],[]⟩,
  ⟨79,[],[],none,[],[]⟩,
  ⟨80,[],[],none,[],[]⟩,
  ⟨81,[2],[[11],[17]],none,[],[]⟩,
  ⟨82,[],[],none,[],[]⟩,
  ⟨83,[],[],none,[],[]⟩,
  ⟨84,[4,5],[],none,[],[]⟩,
  ⟨85,[4,5],[],none,[],[]⟩,
  ⟨86,[5],[[3,14]],none,[],[]⟩,
  ⟨87,[8],[[16]],none,[],[]⟩,
  ⟨88,[],[],none,[],[]⟩,
  ⟨89,[5],[],none,[],[]⟩]
theorem ok1 : chkH C hs1 = true := by kernel_rfl
noncomputable def hs2 : List Hint := [
  ⟨90,[6,7,39],[],none,[],[]⟩,
  ⟨91,[14,25,29,33],[[36]],none,[],[]⟩,
  ⟨92,[7,16,49,73],[[20],[32],[10,60],[14],[14,80]],none,[],[]⟩,
  ⟨93,[12,14,20],[[26],[42]],none,[],[]⟩,
  ⟨94,[4,6,9],[[5,24]],none,[],[]⟩,
  ⟨95,[],[],none,[],[]⟩,
  ⟨96,[31],[[0,10]],none,[],[(18,[9])]⟩,
  ⟨97,[],[[6,49]],none,[],[]⟩,
  ⟨98,[],[],none,[],[]⟩,
  ⟨99,[],[],none,[],[]⟩,
  ⟨100,[2],[],none,[],[]⟩,
  ⟨101,[2],[],none,[],[]⟩,
  ⟨102,[],[[22]],none,[],[]⟩,
  ⟨103,[],[],none,[],[]⟩,
  ⟨104,[],[],none,[],[]⟩,
  ⟨105,[6,9,10],[],none,[],[]⟩,
  ⟨106,[],[],none,[],[]⟩,
  ⟨107,[],[],none,[],[]⟩,
  ⟨108,[],[],none,[],[]⟩,
  ⟨109,[],[],none,[],[]⟩,
  ⟨110,[41],[[3,4,5,6],[12],[10,11,12],[12]],some 9,[],[]⟩,
  ⟨111,[],[],none,[],[]⟩,
  ⟨112,[],[],none,[],[]⟩,
  ⟨113,[],[],none,[],[]⟩,
  ⟨114,[4,5],[[]],none,[],[]⟩,
  ⟨115,[],[[6]],none,[],[]⟩,
  ⟨116,[4],[],none,[],[]⟩,
  ⟨117,[4,6],[],none,[],[]⟩,
  ⟨118,[],[[]],none,[],[]⟩,
  ⟨119,[],[],none,[],[]⟩,
  ⟨120,[],[],none,[],[]⟩,
  ⟨121,[],[],none,[],[]⟩,
  ⟨122,[2,5],[],none,[],[]⟩,
  ⟨123,[6],[[14]],none,[],[]⟩,
  ⟨124,[],[],none,[],[]⟩,
  ⟨125,[],[],none,[],[]⟩,
  ⟨126,[],[],none,[],[]⟩,
  ⟨127,[],[[8]],none,[],[]⟩,
  ⟨128,[],[],none,[],[]⟩,
  ⟨129,[34],[[]],none,[],[]⟩]
theorem ok2 : chkH C hs2 = true := by kernel_rfl
noncomputable def hs3 : List Hint := [
  ⟨130,[],[],none,[],[]⟩,
  ⟨131,[],[[3,11],[6,27]],none,[],[]⟩,
  ⟨132,[9],[],none,[],[]⟩,
  ⟨133,[7],[],none,[],[]⟩,
  ⟨134,[6],[[4,12]],none,[],[]⟩,
  ⟨135,[],[[5,10]],none,[],[]⟩,
  ⟨136,[7],[[12]],none,[],[]⟩,
  ⟨137,[],[],none,[],[]⟩,
  ⟨138,[],[],none,[],[]⟩,
  ⟨139,[],[],none,[],[]⟩,
  ⟨140,[],[],none,[],[]⟩,
  ⟨142,[21],[[0,7]],none,[],[]⟩,
  ⟨143,[],[[0,5]],none,[],[]⟩,
  ⟨144,[],[],none,[],[]⟩,
  ⟨145,[],[],none,[],[]⟩,
  ⟨148,[15],[],none,[],[]⟩,
  ⟨149,[15],[],none,[],[]⟩,
  ⟨150,[2],[],none,[],[]⟩,
  ⟨151,[0],[],none,[],[]⟩,
  ⟨152,[],[],none,[],[]⟩,
  ⟨153,[2,4,6],[],none,[],[]⟩,
  ⟨154,[],[],none,[],[]⟩,
  ⟨155,[],[],none,[],[]⟩,
  ⟨156,[4],[],none,[],[]⟩,
  ⟨157,[],[[27],[53]],none,[],[]⟩,
  ⟨158,[4,8],[],none,[],[]⟩,
  ⟨159,[],[],none,[],[]⟩,
  ⟨160,[],[],none,[],[]⟩,
  ⟨161,[],[],none,[],[]⟩,
  ⟨162,[],[],none,[],[]⟩,
  ⟨163,[],[[6]],none,[],[]⟩,
  ⟨164,[],[[8]],none,[],[]⟩,
  ⟨165,[11,12,46],[[5,6],[49]],none,[],[]⟩,
  ⟨166,[],[],none,[],[]⟩,
  ⟨167,[],[[12,13,101]],none,[],[]⟩,
  ⟨168,[4,5,7],[],none,[],[]⟩,
  ⟨169,[8,9],[[22]],none,[],[]⟩,
  ⟨170,[],[],none,[],[]⟩,
  ⟨171,[],[[8]],none,[],[]⟩,
  ⟨172,[],[],none,[],[]⟩]
theorem ok3 : chkH C hs3 = true := by kernel_rfl
noncomputable def hs4 : List Hint := [
  ⟨173,[3],[],none,[],[]⟩,
  ⟨174,[],[],none,[],[]⟩,
  ⟨175,[],[],none,[],[]⟩,
  ⟨176,[8,11,13],[[42],[49]],none,[],[]⟩,
  ⟨177,[7],[[10]],none,[],[]⟩,
  ⟨178,[],[],none,[],[]⟩,
  ⟨179,[],[],none,[],[]⟩,
  ⟨180,[2,4,6],[],none,[],[]⟩,
  ⟨181,[7,8],[],none,[],[]⟩,
  ⟨182,[],[[7,8],[6],[7,8]],none,[],[]⟩,
  ⟨183,[],[],none,[],[]⟩,
  ⟨184,[],[],none,[9,288,291,327,329,400],[]⟩,
  ⟨185,[],[],none,[],[]⟩,
  ⟨186,[],[],none,[],[]⟩,
  ⟨187,[],[],none,[9,288,291,327,329,400],[]⟩,
  ⟨188,[],[],none,[],[]⟩,
  ⟨189,[],[],none,[],[]⟩,
  ⟨190,[],[[5,8]],none,[],[]⟩,
  ⟨191,[],[],none,[],[]⟩,
  ⟨192,[],[],none,[],[]⟩,
  ⟨193,[],[],none,[],[]⟩,
  ⟨194,[],[],none,[],[]⟩,
  ⟨195,[],[],none,[],[]⟩,
  ⟨196,[],[],none,[],[]⟩,
  ⟨197,[],[],none,[],[]⟩,
  ⟨198,[],[],none,[],[]⟩,
  ⟨199,[],[],none,[],[]⟩,
  ⟨200,[],[],none,[],[]⟩,
  ⟨201,[13,23,36],[],none,[],[]⟩,
  ⟨202,[4],[],none,[],[]⟩,
  ⟨203,[],[],none,[],[]⟩,
  ⟨204,[],[[2]],none,[],[]⟩,
  ⟨205,[],[],none,[],[]⟩,
  ⟨207,[],[[8,10]],none,[],[]⟩,
  ⟨208,[9],[],none,[],[]⟩,
  ⟨209,[5],[],none,[],[]⟩,
  ⟨210,[2],[],none,[],[]⟩,
  ⟨211,[],[],none,[],[]⟩,
  ⟨212,[],[],none,[],[]⟩,
  ⟨213,[],[],none,[],[]⟩]
theorem ok4 : chkH C hs4 = true := by kernel_rfl
noncomputable def hs5 : List Hint := [
  ⟨214,[4],[],none,[],[]⟩,
  ⟨215,[],[],none,[],[]⟩,
  ⟨216,[],[],none,[],[]⟩,
  ⟨217,[],[],none,[],[]⟩,
  ⟨218,[],[],none,[],[]⟩,
  ⟨219,[5],[],none,[],[]⟩,
  ⟨220,[],[[3,12]],none,[],[]⟩,
  ⟨221,[10],[[13]],none,[],[(7,[5])]⟩,
  ⟨222,[],[],none,[],[]⟩,
  ⟨223,[],[],none,[],[]⟩,
  ⟨224,[],[],none,[],[]⟩,
  ⟨225,[8],[],none,[],[]⟩,
  ⟨226,[],[],none,[],[]⟩,
  ⟨227,[],[[5]],none,[],[]⟩,
  ⟨228,[],[],none,[],[]⟩,
  ⟨229,[],[],none,[],[]⟩,
  ⟨230,[],[],none,[],[]⟩,
  ⟨231,[],[],none,[],[]⟩,
  ⟨232,[],[],none,[],[]⟩,
  ⟨233,[],[[3,4]],none,[],[]⟩,
  ⟨234,[],[[6]],none,[],[]⟩,
  ⟨235,[2],[],none,[],[]⟩,
  ⟨236,[],[],none,[],[]⟩,
  ⟨237,[4,7,10,11],[[33]],none,[],[]⟩,
  ⟨238,[],[],none,[],[]⟩,
  ⟨239,[],[],none,[],[]⟩,
  ⟨240,[],[],none,[],[]⟩,
  ⟨241,[],[],none,[],[]⟩,
  ⟨242,[],[],none,[],[]⟩,
  ⟨243,[],[],none,[],[]⟩,
  ⟨244,[],[],none,[],[]⟩,
  ⟨245,[],[],none,[],[]⟩,
  ⟨246,[2,4,6,7],[[16]],none,[],[]⟩,
  ⟨247,[],[],none,[],[]⟩,
  ⟨248,[],[],none,[],[]⟩,
  ⟨249,[6],[],none,[],[]⟩,
  ⟨250,[],[],none,[],[]⟩,
  ⟨251,[6],[],none,[],[]⟩,
  ⟨252,[4,5],[],none,[],[]⟩,
  ⟨253,[4,5],[],none,[],[]⟩]
theorem ok5 : chkH C hs5 = true := by kernel_rfl
noncomputable def hs6 : List Hint := [
  ⟨254,[2],[],none,[],[]⟩,
  ⟨255,[],[],none,[],[]⟩,
  ⟨256,[3],[],none,[],[]⟩,
  ⟨257,[],[],none,[],[]⟩,
  ⟨258,[],[],none,[],[]⟩,
  ⟨259,[],[[8],[9]],none,[],[]⟩,
  ⟨260,[],[[10,11],[13],[14,15],[17],[20,21]],none,[],[]⟩,
  ⟨261,[],[[7]],none,[9,288,291,327,329,400],[]⟩,
  ⟨262,[],[[1,2,3,10,11]],none,[],[]⟩,
  ⟨263,[],[],none,[],[]⟩,
  ⟨264,[],[[1]],none,[9,288,291,327,329,400],[]⟩,
  ⟨265,[],[[5,6]],none,[],[]⟩,
  ⟨266,[],[],none,[],[]⟩,
  ⟨267,[],[],none,[],[]⟩,
  ⟨268,[],[],none,[],[]⟩,
  ⟨269,[],[],none,[],[]⟩,
  ⟨270,[],[],none,[],[]⟩,
  ⟨271,[],[],none,[],[]⟩,
  ⟨272,[],[],none,[],[]⟩,
  ⟨273,[],[],none,[],[]⟩,
  ⟨274,[],[[3]],none,[],[]⟩,
  ⟨275,[],[],none,[],[]⟩,
  ⟨276,[],[],none,[],[]⟩,
  ⟨277,[9],[],none,[],[]⟩,
  ⟨279,[],[],none,[],[]⟩,
  ⟨280,[],[[8,9],[8,10]],none,[],[]⟩,
  ⟨281,[],[],none,[],[]⟩,
  ⟨282,[2],[],none,[],[]⟩,
  ⟨283,[],[],none,[],[]⟩,
  ⟨284,[4,5],[],none,[],[]⟩,
  ⟨285,[],[],none,[],[]⟩,
  ⟨286,[],[],none,[],[]⟩,
  ⟨287,[],[],none,[],[]⟩,
  ⟨288,[],[[20],[7,8]],none,[],[]⟩,
  ⟨289,[10],[[16],[7,8]],none,[],[]⟩,
  ⟨290,[],[],none,[],[]⟩,
  ⟨291,[4],[],none,[],[]⟩,
  ⟨292,[],[],none,[],[]⟩,
  ⟨293,[7,9],[[5,15],[5,30]],none,[],[]⟩,
  ⟨294,[],[],none,[],[]⟩]
theorem ok6 : chkH C hs6 = true := by kernel_rfl
noncomputable def hs7 : List Hint := [
  ⟨295,[],[],none,[],[]⟩,
  ⟨296,[],[[18]],none,[],[]⟩,
  ⟨297,[],[],none,[],[]⟩,
  ⟨298,[],[[8]],none,[],[]⟩,
  ⟨299,[],[[8]],none,[],[]⟩,
  ⟨300,[],[],none,[],[]⟩,
  ⟨301,[],[],none,[],[]⟩,
  ⟨302,[],[],none,[],[]⟩,
  ⟨303,[5],[],none,[],[]⟩,
  ⟨304,[9],[],none,[],[]⟩,
  ⟨305,[5],[],none,[],[]⟩,
  ⟨306,[5,8,9],[[6,17]],none,[],[]⟩,
  ⟨307,[],[[8]],none,[],[]⟩,
  ⟨308,[],[],none,[],[]⟩,
  ⟨309,[4,6,7,9,13,15],[[46]],none,[],[]⟩,
  ⟨310,[],[],none,[],[]⟩,
  ⟨311,[11,12],[[9,17]],none,[],[]⟩,
  ⟨312,[],[],none,[],[]⟩,
  ⟨313,[],[],none,[],[]⟩,
  ⟨314,[11,12],[[16]],none,[],[]⟩,
  ⟨315,[],[],none,[],[]⟩,
  ⟨316,[6],[],none,[],[]⟩,
  ⟨317,[4],[],none,[],[]⟩,
  ⟨318,[],[[10,11]],none,[],[]⟩,
  ⟨319,[],[[8],[9]],none,[],[]⟩,
  ⟨320,[],[[11],[12]],none,[],[]⟩,
  ⟨321,[9],[[11]],none,[],[]⟩,
  ⟨322,[11],[],none,[],[]⟩,
  ⟨323,[],[[8,9]],none,[],[]⟩,
  ⟨324,[],[[9,10],[9],[11],[12]],none,[],[]⟩,
  ⟨325,[],[[11,12],[11],[12]],none,[],[]⟩,
  ⟨326,[],[[12],[13],[12,13],[12],[13]],none,[],[]⟩,
  ⟨327,[],[],none,[],[]⟩,
  ⟨328,[],[[8]],none,[],[]⟩,
  ⟨329,[],[[4,5],[6,7,8]],none,[],[]⟩,
  ⟨330,[],[],none,[],[]⟩,
  ⟨331,[],[],none,[],[]⟩,
  ⟨332,[],[],none,[],[]⟩,
  ⟨333,[5],[],none,[],[]⟩,
  ⟨334,[],[],none,[],[]⟩]
theorem ok7 : chkH C hs7 = true := by kernel_rfl
noncomputable def hs8 : List Hint := [
  ⟨335,[],[],none,[],[]⟩,
  ⟨336,[4,6],[],none,[],[]⟩,
  ⟨337,[],[[1]],none,[],[]⟩,
  ⟨338,[5],[[3,16],[3,6],[7]],none,[],[]⟩,
  ⟨339,[],[[10]],none,[],[]⟩,
  ⟨340,[],[[10]],none,[],[]⟩,
  ⟨341,[],[],none,[],[]⟩,
  ⟨342,[],[],none,[],[]⟩,
  ⟨343,[],[],none,[],[]⟩,
  ⟨344,[],[],none,[],[]⟩,
  ⟨345,[],[],none,[],[]⟩,
  ⟨346,[1],[[3],[4]],none,[],[]⟩,
  ⟨347,[],[],none,[],[]⟩,
  ⟨367,[],[],none,[],[]⟩,
  ⟨368,[],[],none,[],[]⟩,
  ⟨369,[],[],none,[],[]⟩,
  ⟨372,[],[],none,[],[]⟩,
  ⟨373,[11],[],none,[],[]⟩]
theorem ok8 : chkH C hs8 = true := by kernel_rfl
noncomputable def hs : List Hint := hs0 ++ (hs1 ++ (hs2 ++ (hs3 ++ (hs4 ++ (hs5 ++ (hs6 ++ (hs7 ++ (hs8))))))))
theorem okAll : chkH C hs = true := chkH_app ok0 (chkH_app ok1 (chkH_app ok2 (chkH_app ok3 (chkH_app ok4 (chkH_app ok5 (chkH_app ok6 (chkH_app ok7 (ok8))))))))
end Go.Proofs.YtfgpfghpciddmaaGreatDoor.rb

namespace Go.Proofs.YtfgpfghpciddmaaGreatDoor.rb
open Rb
theorem gtok : ∀ g l, gt g = some l → AV.frozs l = true := by
 intro g l h
 unfold gt at h
 split at h
 · cases h; kernel_rfl
 split at h
 · cases h; kernel_rfl
 split at h
 · cases h; kernel_rfl
 split at h
 · cases h; kernel_rfl
 split at h
 · cases h; kernel_rfl
 cases h
theorem gtC : GTok C := gtok
noncomputable def fn : Nat → Option FnC := tabH C 4096 hs
theorem dispOK : DispOK (ACall C) (dispI fn) := dispI_ok okAll 4096
end Go.Proofs.YtfgpfghpciddmaaGreatDoor.rb

namespace Go.Proofs.YtfgpfghpciddmaaGreatDoor.rb
open Rb Go.RowKit
set_option maxRecDepth 100000 in
theorem indexByte_calls (s : ByteArray) (c : Int) (w : World) : Calls Tryz.prog 95 #[.string s, .int .u8 c] w fun e w' => e = .returned (.int .i64 (Go.Lib.indexByte s.data.toList c.toNat.toUInt8)) ∧ w' = w := by
 go_enter Tryz.func95, Tryz.ntmps95
 go_wp2
 rw [run_callFunc_extern Tryz.func141 (by kernel_rfl) (by kernel_rfl) (by kernel_rfl) (e := Extern.BytealgIndexByte.indexByte) (by kernel_rfl), Go.Lib.run_indexByteString]
 simp only [Result.andThen]
 rw [Oper.upon_value]
 go_wp2
 go_ret
 exact ⟨rfl, rfl⟩
theorem indexByte (s : List UInt8) (c : Int) (H : AH) (Q : Post) (hQ : Q (.int .i64 (Go.Lib.indexByte s c.toNat.toUInt8)) H) : ACall C 95 [.str s, .int .u8 c] H Q := by
 refine ⟨⟨_, _, hQ⟩, fun f hf G w Vs hG hrel hargs => ?_⟩
 obtain rfl : f = 95 := by
  have : C.F 95 = some 95 := by kernel_rfl
  rw [this] at hf; exact (Option.some.inj hf).symm
 obtain ⟨hl, hv⟩ := hargs
 obtain ⟨Vl⟩ := Vs
 match Vl, hl with
 | [V0, V1], _ =>
  have h0 := (hv 0 _ V0 rfl rfl).str_inv
  have h1 := (hv 1 _ V1 rfl rfl).int_inv
  subst h0 h1
  refine (indexByte_calls ⟨s.toArray⟩ c w).mono fun e w' ⟨he, hw⟩ => ?_
  subst hw
  exact ⟨_, _, H, G, he, hQ, .int _ _, hrel, Step.refl _ _ _⟩
noncomputable def MxG (L : List (Nat × List AV × AV)) : Memo := fun k a => cond (Nat.beq k 95) (match a with | [.str s, .int .u8 c] => some (.int .i64 (Go.Lib.indexByte s c.toNat.toUInt8)) | _ => none) (memG L k a)
theorem MxG_ok {L : List (Nat × List AV × AV)} (hL : MemoOK (ACall C) (memL L)) : MemoOK (ACall C) (MxG L) := by
 intro k a v h H Q hQ
 unfold MxG at h
 cases hb : Nat.beq k 95 with
 | false => rw [hb] at h; exact memG_ok hL k a v h H Q hQ
 | true =>
  rw [hb] at h
  obtain rfl := Nat.eq_of_beq_eq_true hb
  simp only [cond_true] at h
  split at h
  · cases h; exact indexByte _ _ H Q hQ
  · cases h
noncomputable def runG (L : List (Nat × List AV × AV)) : CallsB := runM (MxG L) (dispI fn) 100
theorem runG_ok {L : List (Nat × List AV × AV)} (hL : MemoOK (ACall C) (memL L)) : SoundB (ACall C) (runG L) := runM_sound (MxG_ok hL) dispOK 100
end Go.Proofs.YtfgpfghpciddmaaGreatDoor.rb

namespace Rb.K
abbrev f3 : Nat := 3
abbrev f4 : Nat := 4
abbrev f5 : Nat := 5
abbrev f6 : Nat := 6
abbrev f9 : Nat := 9
abbrev f10 : Nat := 10
abbrev f11 : Nat := 11
abbrev f12 : Nat := 12
abbrev f13 : Nat := 13
abbrev f14 : Nat := 14
abbrev f15 : Nat := 15
abbrev f16 : Nat := 16
abbrev f22 : Nat := 22
abbrev f23 : Nat := 23
abbrev f24 : Nat := 24
abbrev f26 : Nat := 26
end Rb.K

namespace Rb.S
open Go
def f3_k1 (Φ : Calls') (x1 : AV) (Q : Post) : List AV → AH → Prop := fun j3 H4 =>
Φ K.f4 [] H4 fun x17 H18 =>
 Gd3 x17 true (
 Do (aload H18 3 true x1) fun x19 =>
 Do (aload H18 3 true x1) fun x20 =>
Φ K.f5 [x19] H18 fun x21 H22 =>
(((.bool true) : AV) = .bool true → aload H22 3 true x1 = some x20) ∧
(Φ K.f6 [x20] H22 fun x23 H24 =>
 Do (abin .eql x21 x23) fun x25 =>
 Q x25 H24)) (
(((.bool false) : AV) = .bool true → aload H18 3 true x1 = some (.tup [])) ∧
(Q (.bool false) H18)) (
(((.tup []) : AV) = .bool true → aload H18 3 true x1 = some (.tup [])) ∧
(False))
def f3_k2 (Φ : Calls') (x1 : AV) (Q : Post) : List AV → AH → Prop := fun j5 H6 =>
 Gd (sl j5 0) true (
Φ K.f4 [] H6 fun x15 H16 =>
 Q x15 H16) (
 JoinP (f3_k1 Φ x1 Q) [] H6)
def f3 (Φ : Calls') (a0 : AV) (H : AH) (Q : Post) : Prop :=
 DoH (aboxv H false 3 a0) fun x1 H2 =>
 Do (afaddr 0 x1) fun x7 =>
 Do (aload H2 1 false x7) fun x8 =>
 Do (alen false x8) fun x9 =>
 Do (abin .gtr x9 (.int .i64 500)) fun x10 =>
 Gd3 x10 false (
 Do (afaddr 1 x1) fun x11 =>
 Do (aload H2 1 false x11) fun x12 =>
 Do (alen false x12) fun x13 =>
 Do (abin .gtr x13 (.int .i64 50)) fun x14 =>
 JoinP (f3_k2 Φ x1 Q) [x14] H2) (
 JoinP (f3_k2 Φ x1 Q) [(.bool true)] H2) (
 False)
noncomputable def ir_f3 : AFunc := decF Go.Proofs.YtfgpfghpciddmaaGreatDoor.rb.C ⟨3,[],[],none,[],[]⟩
theorem eq_f3 (Φ : Calls') (a0 : AV) (H : AH) (Q : Post) : fnE1 Φ ir_f3 [a0] H Q = f3 Φ a0 H Q := by kernel_rfl
def f5_k1 (Φ : Calls') (s15 : List AV × AH) (L16 : (List AV × AH) → Prop) (Q : Post) : List AV → AH → Prop := fun j18 H19 =>
 Do (abin .add (sl s15.1 1) (.int .i64 1)) fun x56 =>
 L16 ([(sl j18 0), x56], H19)
def f5_k2 (Φ : Calls') (s15 : List AV × AH) (L16 : (List AV × AH) → Prop) (Q : Post) : List AV → AH → Prop := fun j39 H40 =>
 DoH (abslice H40 false 1 1 [.str []] [(0, 1, (sl j39 0))]) fun x52 H53 =>
 DoH (aappend H53 false 1 16 (sl s15.1 0) x52) fun x54 H55 =>
 JoinP (f5_k1 Φ s15 L16 Q) [x54] H55
def f5_l3 (Φ : Calls') (x21 x41 : AV) (s15 : List AV × AH) (L16 : (List AV × AH) → Prop) (Q : Post) : (List AV × AH) → ((List AV × AH) → Prop) → Prop := fun s42 L43 =>
 Do (abin .lss (sl s42.1 1) x41) fun x44 =>
 Gd x44 true (
 Do (aiaddr none 1 x21 (sl s42.1 1)) fun x45 =>
 Do (aload s42.2 1 false x45) fun x46 =>
Φ K.f12 [x46, (.int .i64 10)] s42.2 fun x47 H48 =>
 Do (abin .add (.str [32]) x47) fun x49 =>
 Do (abin .add (sl s42.1 0) x49) fun x50 =>
 Do (abin .add (sl s42.1 1) (.int .i64 1)) fun x51 =>
 L43 ([x50, x51], H48)) (
 JoinP (f5_k2 Φ s15 L16 Q) [(sl s42.1 0)] s42.2)
def f5_k4 (Φ : Calls') (x21 : AV) (s15 : List AV × AH) (L16 : (List AV × AH) → Prop) (Q : Post) : List AV → AH → Prop := fun j25 H26 =>
 Do (alen false x21) fun x41 =>
 LoopP (f5_l3 Φ x21 x41 s15 L16 Q) ([(sl j25 0), (.int .i64 0)], H26)
def f5_k5 (Φ : Calls') (Q : Post) : List AV → AH → Prop := fun j10 H11 =>
Φ K.f13 [(sl j10 0)] H11 fun x57 H58 =>
 Q x57 H58
def f5_l6 (Φ : Calls') (x1 x13 x14 : AV) (Q : Post) : (List AV × AH) → ((List AV × AH) → Prop) → Prop := fun s15 L16 =>
 Do (abin .lss (sl s15.1 1) x14) fun x17 =>
 Gd x17 true (
 Do (aiaddr none 1 x13 (sl s15.1 1)) fun x20 =>
 Do (aload s15.2 1 false x20) fun x21 =>
Φ K.f10 [(sl s15.1 1)] s15.2 fun x22 H23 =>
 Do (abin .add (.str [116, 104, 114, 101, 97, 100, 32]) x22) fun x24 =>
 Do (afaddr 2 x1) fun x27 =>
 Do (aload H23 1 false x27) fun x28 =>
 Do (alen false x28) fun x29 =>
 Do (abin .lss (sl s15.1 1) x29) fun x30 =>
 Gd x30 true (
 Do (afaddr 2 x1) fun x31 =>
 Do (aload H23 1 false x31) fun x32 =>
 Do (aiaddr none 1 x32 (sl s15.1 1)) fun x33 =>
 Do (aload H23 1 false x33) fun x34 =>
Φ K.f11 [x34] H23 fun x35 H36 =>
 Do (abin .add (.str [32]) x35) fun x37 =>
 Do (abin .add x24 x37) fun x38 =>
 JoinP (f5_k4 Φ x21 s15 L16 Q) [x38] H36) (
 JoinP (f5_k4 Φ x21 s15 L16 Q) [x24] H23)) (
 JoinP (f5_k5 Φ Q) [(sl s15.1 0)] s15.2)
def f5 (Φ : Calls') (a0 : AV) (H : AH) (Q : Post) : Prop :=
 DoH (aboxv H false 3 a0) fun x1 H2 =>
 Do (afaddr 0 x1) fun x3 =>
 Do (aload H2 1 false x3) fun x4 =>
Φ K.f9 [x4] H2 fun x5 H6 =>
 Do (abin .add (.str [98, 121, 116, 101, 115, 32]) x5) fun x7 =>
 DoH (abslice H6 false 1 1 [.str []] [(0, 1, x7)]) fun x8 H9 =>
 Do (afaddr 1 x1) fun x12 =>
 Do (aload H9 1 false x12) fun x13 =>
 Do (alen false x13) fun x14 =>
 LoopP (f5_l6 Φ x1 x13 x14 Q) ([x8, (.int .i64 0)], H9)
noncomputable def ir_f5 : AFunc := decF Go.Proofs.YtfgpfghpciddmaaGreatDoor.rb.C ⟨5,[],[[3,17],[6,41]],none,[],[]⟩
theorem eq_f5 (Φ : Calls') (a0 : AV) (H : AH) (Q : Post) : fnE1 Φ ir_f5 [a0] H Q = f5 Φ a0 H Q := by kernel_rfl
def f6_k1 (Φ : Calls') (s21 : List AV × AH) (L22 : (List AV × AH) → Prop) (Q : Post) : List AV → AH → Prop := fun j27 H28 =>
 Do (abin .add (sl s21.1 1) (.int .i64 1)) fun x69 =>
 L22 ([(sl j27 0), x69], H28)
def f6_k2 (Φ : Calls') (s21 : List AV × AH) (L22 : (List AV × AH) → Prop) (Q : Post) : List AV → AH → Prop := fun j47 H48 =>
 Do (abin .add (sl j47 0) (.str [10])) fun x68 =>
 JoinP (f6_k1 Φ s21 L22 Q) [x68] H48
def f6_l3 (Φ : Calls') (x1 : AV) (s21 : List AV × AH) (L22 : (List AV × AH) → Prop) (Q : Post) : (List AV × AH) → ((List AV × AH) → Prop) → Prop := fun s49 L50 =>
 Do (afaddr 1 x1) fun x51 =>
 Do (aload s49.2 1 false x51) fun x52 =>
 Do (aiaddr none 1 x52 (sl s21.1 1)) fun x53 =>
 Do (aload s49.2 1 false x53) fun x54 =>
 Do (alen false x54) fun x55 =>
 Do (abin .lss (sl s49.1 1) x55) fun x56 =>
 Gd x56 true (
 Do (afaddr 1 x1) fun x57 =>
 Do (aload s49.2 1 false x57) fun x58 =>
 Do (aiaddr none 1 x58 (sl s21.1 1)) fun x59 =>
 Do (aload s49.2 1 false x59) fun x60 =>
 Do (aiaddr none 1 x60 (sl s49.1 1)) fun x61 =>
 Do (aload s49.2 1 false x61) fun x62 =>
Φ K.f16 [x62] s49.2 fun x63 H64 =>
 Do (abin .add (.str [32]) x63) fun x65 =>
 Do (abin .add (sl s49.1 0) x65) fun x66 =>
 Do (abin .add (sl s49.1 1) (.int .i64 1)) fun x67 =>
 L50 ([x66, x67], H64)) (
 JoinP (f6_k2 Φ s21 L22 Q) [(sl s49.1 0)] s49.2)
def f6_k4 (Φ : Calls') (x1 : AV) (s21 : List AV × AH) (L22 : (List AV × AH) → Prop) (Q : Post) : List AV → AH → Prop := fun j33 H34 =>
 LoopP (f6_l3 Φ x1 s21 L22 Q) ([(sl j33 0), (.int .i64 0)], H34)
def f6_k5 (Φ : Calls') (x1 x32 : AV) (s21 : List AV × AH) (L22 : (List AV × AH) → Prop) (Q : Post) : List AV → AH → Prop := fun j70 H71 =>
 Gd (sl j70 0) true (
 Do (abin .add x32 (.str [32, 102, 97, 117, 108, 116, 101, 100])) fun x81 =>
 JoinP (f6_k4 Φ x1 s21 L22 Q) [x81] H71) (
 Do (afaddr 2 x1) fun x82 =>
 Do (aload H71 1 false x82) fun x83 =>
 Do (alen false x83) fun x84 =>
 Do (abin .lss (sl s21.1 1) x84) fun x85 =>
 Gd x85 true (
 Do (abin .add x32 (.str [32, 103, 111, 105, 110, 103])) fun x86 =>
 JoinP (f6_k4 Φ x1 s21 L22 Q) [x86] H71) (
 JoinP (f6_k4 Φ x1 s21 L22 Q) [x32] H71))
def f6_k6 (Φ : Calls') (x1 x32 : AV) (s21 : List AV × AH) (L22 : (List AV × AH) → Prop) (Q : Post) : List AV → AH → Prop := fun j35 H36 =>
 Gd (sl j35 0) true (
 Do (abin .add x32 (.str [32, 104, 97, 108, 116, 101, 100])) fun x46 =>
 JoinP (f6_k4 Φ x1 s21 L22 Q) [x46] H36) (
 Do (afaddr 2 x1) fun x72 =>
 Do (aload H36 1 false x72) fun x73 =>
 Do (alen false x73) fun x74 =>
 Do (abin .lss (sl s21.1 1) x74) fun x75 =>
 Gd3 x75 true (
 Do (afaddr 2 x1) fun x76 =>
 Do (aload H36 1 false x76) fun x77 =>
 Do (aiaddr none 1 x77 (sl s21.1 1)) fun x78 =>
 Do (aload H36 1 false x78) fun x79 =>
 Do (abin .eql x79 (.int .i64 2)) fun x80 =>
 JoinP (f6_k5 Φ x1 x32 s21 L22 Q) [x80] H36) (
 JoinP (f6_k5 Φ x1 x32 s21 L22 Q) [(.bool false)] H36) (
 False))
def f6_l7 (Φ : Calls') (x1 : AV) (Q : Post) : (List AV × AH) → ((List AV × AH) → Prop) → Prop := fun s21 L22 =>
 Do (afaddr 1 x1) fun x23 =>
 Do (aload s21.2 1 false x23) fun x24 =>
 Do (alen false x24) fun x25 =>
 Do (abin .lss (sl s21.1 1) x25) fun x26 =>
 Gd x26 true (
Φ K.f15 [(sl s21.1 1)] s21.2 fun x29 H30 =>
 Do (abin .add (.str [116, 104, 114, 101, 97, 100, 32]) x29) fun x31 =>
 Do (abin .add (sl s21.1 0) x31) fun x32 =>
 Do (afaddr 2 x1) fun x37 =>
 Do (aload H30 1 false x37) fun x38 =>
 Do (alen false x38) fun x39 =>
 Do (abin .lss (sl s21.1 1) x39) fun x40 =>
 Gd3 x40 true (
 Do (afaddr 2 x1) fun x41 =>
 Do (aload H30 1 false x41) fun x42 =>
 Do (aiaddr none 1 x42 (sl s21.1 1)) fun x43 =>
 Do (aload H30 1 false x43) fun x44 =>
 Do (abin .eql x44 (.int .i64 1)) fun x45 =>
 JoinP (f6_k6 Φ x1 x32 s21 L22 Q) [x45] H30) (
 JoinP (f6_k6 Φ x1 x32 s21 L22 Q) [(.bool false)] H30) (
 False)) (
 Q (sl s21.1 0) s21.2)
def f6_k8 (Φ : Calls') (x1 : AV) (Q : Post) : List AV → AH → Prop := fun j3 H4 =>
 Do (abin .add (sl j3 0) (.str [10])) fun x20 =>
 LoopP (f6_l7 Φ x1 Q) ([x20, (.int .i64 0)], H4)
def f6_l9 (Φ : Calls') (x1 : AV) (Q : Post) : (List AV × AH) → ((List AV × AH) → Prop) → Prop := fun s5 L6 =>
 Do (afaddr 0 x1) fun x7 =>
 Do (aload s5.2 1 false x7) fun x8 =>
 Do (alen false x8) fun x9 =>
 Do (abin .lss (sl s5.1 1) x9) fun x10 =>
 Gd x10 true (
 Do (afaddr 0 x1) fun x11 =>
 Do (aload s5.2 1 false x11) fun x12 =>
 Do (aiaddr none 1 x12 (sl s5.1 1)) fun x13 =>
 Do (aload s5.2 1 false x13) fun x14 =>
 Do (aconv .u64 x14) fun x15 =>
Φ K.f14 [x15, (.int .i64 2)] s5.2 fun x16 H17 =>
 Do (abin .add (sl s5.1 0) x16) fun x18 =>
 Do (abin .add (sl s5.1 1) (.int .i64 1)) fun x19 =>
 L6 ([x18, x19], H17)) (
 JoinP (f6_k8 Φ x1 Q) [(sl s5.1 0)] s5.2)
def f6 (Φ : Calls') (a0 : AV) (H : AH) (Q : Post) : Prop :=
 DoH (aboxv H false 3 a0) fun x1 H2 =>
 LoopP (f6_l9 Φ x1 Q) ([(.str [98, 121, 116, 101, 115, 32]), (.int .i64 0)], H2)
noncomputable def ir_f6 : AFunc := decF Go.Proofs.YtfgpfghpciddmaaGreatDoor.rb.C ⟨6,[],[[3,4],[3,5],[3,6]],none,[],[]⟩
theorem eq_f6 (Φ : Calls') (a0 : AV) (H : AH) (Q : Post) : fnE1 Φ ir_f6 [a0] H Q = f6 Φ a0 H Q := by kernel_rfl
def f9_k1 (Φ : Calls') (x1 : AV) (Q : Post) : List AV → AH → Prop := fun j3 H4 =>
Φ K.f24 [x1] H4 fun x17 H18 =>
 Q x17 H18
def f9_l2 (Φ : Calls') (a0 x1 x5 : AV) (Q : Post) : (List AV × AH) → ((List AV × AH) → Prop) → Prop := fun s6 L7 =>
 Do (abin .lss (sl s6.1 0) x5) fun x8 =>
 Gd x8 true (
 Do (aiaddr none 1 a0 (sl s6.1 0)) fun x9 =>
 Do (aload s6.2 1 false x9) fun x10 =>
 Do (aconv .u64 x10) fun x11 =>
Φ K.f22 [x11, (.int .i64 2)] s6.2 fun x12 H13 =>
Φ K.f23 [x1, x12] H13 fun x14 H15 =>
 Do (abin .add (sl s6.1 0) (.int .i64 1)) fun x16 =>
 L7 ([x16], H15)) (
 JoinP (f9_k1 Φ x1 Q) [] s6.2)
def f9 (Φ : Calls') (a0 : AV) (H : AH) (Q : Post) : Prop :=
 DoH (aext H (.bnew 71) []) fun x1 H2 =>
 Do (alen false a0) fun x5 =>
 LoopP (f9_l2 Φ a0 x1 x5 Q) ([(.int .i64 0)], H2)
noncomputable def ir_f9 : AFunc := decF Go.Proofs.YtfgpfghpciddmaaGreatDoor.rb.C ⟨9,[3],[[8]],none,[],[]⟩
theorem eq_f9 (Φ : Calls') (a0 : AV) (H : AH) (Q : Post) : fnE1 Φ ir_f9 [a0] H Q = f9 Φ a0 H Q := by kernel_rfl
def f11 (Φ : Calls') (a0 : AV) (H : AH) (Q : Post) : Prop :=
 Do (abin .eql a0 (.int .i64 1)) fun x1 =>
 Gd x1 true (
 Q (.str [104, 97, 108, 116, 101, 100]) H) (
 Do (abin .eql a0 (.int .i64 2)) fun x2 =>
 Gd x2 true (
 Q (.str [102, 97, 117, 108, 116, 101, 100]) H) (
 Q (.str [103, 111, 105, 110, 103]) H))
noncomputable def ir_f11 : AFunc := decF Go.Proofs.YtfgpfghpciddmaaGreatDoor.rb.C ⟨11,[],[],none,[],[]⟩
theorem eq_f11 (Φ : Calls') (a0 : AV) (H : AH) (Q : Post) : fnE1 Φ ir_f11 [a0] H Q = f11 Φ a0 H Q := by kernel_rfl
def f12 (Φ : Calls') (a0 a1 : AV) (H : AH) (Q : Post) : Prop :=
Φ K.f26 [a0, a1] H fun x1 H2 =>
 Q x1 H2
noncomputable def ir_f12 : AFunc := decF Go.Proofs.YtfgpfghpciddmaaGreatDoor.rb.C ⟨12,[],[],none,[],[]⟩
theorem eq_f12 (Φ : Calls') (a0 a1 : AV) (H : AH) (Q : Post) : fnE1 Φ ir_f12 [a0, a1] H Q = f12 Φ a0 a1 H Q := by kernel_rfl
def f13_k1 (Φ : Calls') (x1 : AV) (Q : Post) : List AV → AH → Prop := fun j3 H4 =>
Φ K.f24 [x1] H4 fun x15 H16 =>
 Q x15 H16
def f13_l2 (Φ : Calls') (a0 x1 x5 : AV) (Q : Post) : (List AV × AH) → ((List AV × AH) → Prop) → Prop := fun s6 L7 =>
 Do (abin .lss (sl s6.1 0) x5) fun x8 =>
 Gd x8 true (
 Do (aiaddr none 1 a0 (sl s6.1 0)) fun x9 =>
 Do (aload s6.2 1 false x9) fun x10 =>
 Do (abin .add x10 (.str [10])) fun x11 =>
Φ K.f23 [x1, x11] s6.2 fun x12 H13 =>
 Do (abin .add (sl s6.1 0) (.int .i64 1)) fun x14 =>
 L7 ([x14], H13)) (
 JoinP (f13_k1 Φ x1 Q) [] s6.2)
def f13 (Φ : Calls') (a0 : AV) (H : AH) (Q : Post) : Prop :=
 DoH (aext H (.bnew 71) []) fun x1 H2 =>
 Do (alen false a0) fun x5 =>
 LoopP (f13_l2 Φ a0 x1 x5 Q) ([(.int .i64 0)], H2)
noncomputable def ir_f13 : AFunc := decF Go.Proofs.YtfgpfghpciddmaaGreatDoor.rb.C ⟨13,[3],[[8]],none,[],[]⟩
theorem eq_f13 (Φ : Calls') (a0 : AV) (H : AH) (Q : Post) : fnE1 Φ ir_f13 [a0] H Q = f13 Φ a0 H Q := by kernel_rfl
def f14_l1 (Φ : Calls') (a1 : AV) (Q : Post) : (List AV × AH) → ((List AV × AH) → Prop) → Prop := fun s1 L2 =>
 Do (abin .lss (sl s1.1 2) a1) fun x3 =>
 Gd x3 true (
 Do (abin .rem (sl s1.1 0) (.int .u64 16)) fun x4 =>
 Do (abin .rem (sl s1.1 0) (.int .u64 16)) fun x5 =>
 Do (abin .add x5 (.int .u64 1)) fun x6 =>
 Do (asslice (.str [48, 49, 50, 51, 52, 53, 54, 55, 56, 57, 97, 98, 99, 100, 101, 102]) (some x4) (some x6)) fun x7 =>
 Do (abin .add x7 (sl s1.1 1)) fun x8 =>
 Do (abin .quo (sl s1.1 0) (.int .u64 16)) fun x9 =>
 Do (abin .add (sl s1.1 2) (.int .i64 1)) fun x10 =>
 L2 ([x9, x8, x10], s1.2)) (
 Q (sl s1.1 1) s1.2)
def f14 (Φ : Calls') (a0 a1 : AV) (H : AH) (Q : Post) : Prop :=
 LoopP (f14_l1 Φ a1 Q) ([a0, (.str []), (.int .i64 0)], H)
noncomputable def ir_f14 : AFunc := decF Go.Proofs.YtfgpfghpciddmaaGreatDoor.rb.C ⟨14,[],[[0,5,6]],none,[],[]⟩
def f15_k1 (Φ : Calls') (a0 : AV) (Q : Post) : List AV → AH → Prop := fun j6 H7 =>
 Do (abin .lss a0 (.int .i64 0)) fun x20 =>
 Gd x20 true (
 Do (abin .add (.str [45]) (sl j6 0)) fun x21 =>
 Q x21 H7) (
 Q (sl j6 0) H7)
def f15_l2 (Φ : Calls') (a0 : AV) (Q : Post) : (List AV × AH) → ((List AV × AH) → Prop) → Prop := fun s8 L9 =>
 Do (abin .rem (sl s8.1 1) (.int .u64 10)) fun x10 =>
 Do (abin .add (.int .u64 48) x10) fun x11 =>
 Do (aconv .u8 x11) fun x12 =>
 DoH (abslice s8.2 false 1 1 [.int .u8 0] [(0, 1, x12)]) fun x13 H14 =>
 Do (abstr H14 x13) fun x15 =>
 Do (abin .add x15 (sl s8.1 0)) fun x17 =>
 Do (abin .quo (sl s8.1 1) (.int .u64 10)) fun x18 =>
 Do (abin .eql x18 (.int .u64 0)) fun x19 =>
 Gd x19 true (
 JoinP (f15_k1 Φ a0 Q) [x17] H14) (
 L9 ([x17, x18], H14))
def f15_k3 (Φ : Calls') (a0 : AV) (Q : Post) : List AV → AH → Prop := fun j2 H3 =>
 LoopP (f15_l2 Φ a0 Q) ([(.str []), (sl j2 0)], H3)
def f15 (Φ : Calls') (a0 : AV) (H : AH) (Q : Post) : Prop :=
 Do (aconv .u64 a0) fun x1 =>
 Do (abin .lss a0 (.int .i64 0)) fun x4 =>
 Gd x4 true (
 Do (aun .neg x1) fun x5 =>
 JoinP (f15_k3 Φ a0 Q) [x5] H) (
 JoinP (f15_k3 Φ a0 Q) [x1] H)
noncomputable def ir_f15 : AFunc := decF Go.Proofs.YtfgpfghpciddmaaGreatDoor.rb.C ⟨15,[],[[3,4]],none,[],[]⟩
theorem eq_f15 (Φ : Calls') (a0 : AV) (H : AH) (Q : Post) : fnE1 Φ ir_f15 [a0] H Q = f15 Φ a0 H Q := by kernel_rfl
def f16_l1 (Φ : Calls') (Q : Post) : (List AV × AH) → ((List AV × AH) → Prop) → Prop := fun s1 L2 =>
 Do (abin .rem (sl s1.1 0) (.int .u64 10)) fun x3 =>
 Do (abin .add (.int .u64 48) x3) fun x4 =>
 Do (aconv .u8 x4) fun x5 =>
 DoH (abslice s1.2 false 1 1 [.int .u8 0] [(0, 1, x5)]) fun x6 H7 =>
 Do (abstr H7 x6) fun x8 =>
 Do (abin .add x8 (sl s1.1 1)) fun x10 =>
 Do (abin .quo (sl s1.1 0) (.int .u64 10)) fun x11 =>
 Do (abin .eql x11 (.int .u64 0)) fun x12 =>
 Gd x12 true (
 Q x10 H7) (
 L2 ([x11, x10], H7))
def f16 (Φ : Calls') (a0 : AV) (H : AH) (Q : Post) : Prop :=
 LoopP (f16_l1 Φ Q) ([a0, (.str [])], H)
noncomputable def ir_f16 : AFunc := decF Go.Proofs.YtfgpfghpciddmaaGreatDoor.rb.C ⟨16,[],[[0,3]],none,[],[]⟩
theorem eq_f16 (Φ : Calls') (a0 : AV) (H : AH) (Q : Post) : fnE1 Φ ir_f16 [a0] H Q = f16 Φ a0 H Q := by kernel_rfl
def f22_k1 (Φ : Calls') (x1 : AV) (Q : Post) : List AV → AH → Prop := fun j3 H4 =>
 Do (abstr H4 x1) fun x18 =>
 Q x18 H4
def f22_l2 (Φ : Calls') (a0 a1 x1 x5 : AV) (Q : Post) : (List AV × AH) → ((List AV × AH) → Prop) → Prop := fun s6 L7 =>
 Do (abin .lss (sl s6.1 0) x5) fun x8 =>
 Gd x8 true (
 Do (abin .sub a1 (.int .i64 1)) fun x9 =>
 Do (abin .sub x9 (sl s6.1 0)) fun x10 =>
 Do (abin .mul (.int .i64 4) x10) fun x11 =>
 Do (abin .shr a0 x11) fun x12 =>
 Do (abin .and x12 (.int .u64 15)) fun x13 =>
 Do (aidxs (.str [48, 49, 50, 51, 52, 53, 54, 55, 56, 57, 97, 98, 99, 100, 101, 102]) x13) fun x14 =>
 Do (aiaddr none 1 x1 (sl s6.1 0)) fun x15 =>
 Do (astore s6.2 1 x15 x14) fun H16 =>
 Do (abin .add (sl s6.1 0) (.int .i64 1)) fun x17 =>
 L7 ([x17], H16)) (
 JoinP (f22_k1 Φ x1 Q) [] s6.2)
def f22 (Φ : Calls') (a0 a1 : AV) (H : AH) (Q : Post) : Prop :=
 DoH (amake H true 1 1 [.int .u8 0] a1 a1) fun x1 H2 =>
 Do (alen false x1) fun x5 =>
 LoopP (f22_l2 Φ a0 a1 x1 x5 Q) ([(.int .i64 0)], H2)
noncomputable def ir_f22 : AFunc := decF Go.Proofs.YtfgpfghpciddmaaGreatDoor.rb.C ⟨22,[8],[[11]],none,[],[]⟩
noncomputable def tab_Sh : Tab := [
  (K.f3, ir_f3),
  (K.f5, ir_f5),
  (K.f6, ir_f6),
  (K.f9, ir_f9),
  (K.f11, ir_f11),
  (K.f12, ir_f12),
  (K.f13, ir_f13),
  (K.f14, ir_f14),
  (K.f15, ir_f15),
  (K.f16, ir_f16),
  (K.f22, ir_f22)]
section
variable {Φ : Calls'} (hT : Cl Φ tab_Sh) {a0 a1 a2 a3 a4 a5 a6 a7 a8 a9 a10 a11 : AV} {H : AH} {Q : Post}
include hT
theorem cl_f3 (h : f3 Φ a0 H Q) : Φ K.f3 [a0] H Q := hT.call (by kernel_rfl) (by kernel_rfl) (by rw [eq_f3]; exact h)
theorem cl_f5 (h : f5 Φ a0 H Q) : Φ K.f5 [a0] H Q := hT.call (by kernel_rfl) (by kernel_rfl) (by rw [eq_f5]; exact h)
theorem cl_f6 (h : f6 Φ a0 H Q) : Φ K.f6 [a0] H Q := hT.call (by kernel_rfl) (by kernel_rfl) (by rw [eq_f6]; exact h)
theorem cl_f9 (h : f9 Φ a0 H Q) : Φ K.f9 [a0] H Q := hT.call (by kernel_rfl) (by kernel_rfl) (by rw [eq_f9]; exact h)
theorem cl_f11 (h : f11 Φ a0 H Q) : Φ K.f11 [a0] H Q := hT.call (by kernel_rfl) (by kernel_rfl) (by rw [eq_f11]; exact h)
theorem cl_f12 (h : f12 Φ a0 a1 H Q) : Φ K.f12 [a0, a1] H Q := hT.call (by kernel_rfl) (by kernel_rfl) (by rw [eq_f12]; exact h)
theorem cl_f13 (h : f13 Φ a0 H Q) : Φ K.f13 [a0] H Q := hT.call (by kernel_rfl) (by kernel_rfl) (by rw [eq_f13]; exact h)
theorem cl_f15 (h : f15 Φ a0 H Q) : Φ K.f15 [a0] H Q := hT.call (by kernel_rfl) (by kernel_rfl) (by rw [eq_f15]; exact h)
theorem cl_f16 (h : f16 Φ a0 H Q) : Φ K.f16 [a0] H Q := hT.call (by kernel_rfl) (by kernel_rfl) (by rw [eq_f16]; exact h)
end
end Rb.S

namespace Go.Proofs.YtfgpfghpciddmaaGreatDoor.rb
open Rb
theorem cl_Sh : Cl (ACall C) S.tab_Sh := Cl.of (ACall_mono C) (closed_of (idC_fok _ _) (by kernel_rfl))
end Go.Proofs.YtfgpfghpciddmaaGreatDoor.rb

namespace Rb
open Go Go.RowKit
def allFz (W : World) : Nat → Nat → Prop := fun b o => ∃ V, W.cell? ⟨b, o, none⟩ = some V
theorem law_calls {C : Ctx} {key : Nat} {f : FuncId} {args : List AV} {Vs : Array Value} {W : World} (hf : C.F key = some f) (h : ACall C key args AH.mt (fun v _ => v = .bool true)) (hG : GOX C W (Ghost.mt (allFz W)) AH.mt)
  (hargs : VRs C.F W (Ghost.mt (allFz W)) args Vs) : Calls C.P f Vs W fun e W' => e = .returned (.bool true) ∧ Below W.heap.size W W' := by
 refine Calls.mono (h.2 f hf _ W Vs hG (Rel.mt fun _ _ h => h) hargs) fun e w' he => ?_
 obtain ⟨V, v, H', G', rfl, rfl, hv, _, hst⟩ := he
 obtain rfl := hv.bool_inv
 exact ⟨rfl, hst.below⟩
theorem fptr_of_tab {F : FTab} {W : World} {g : Nat} {k : IntKind} {zs : List Int} (h : ∀ i, i < zs.length → W.cell? ⟨g, i, none⟩ = some (.int k (zs.getD i 0))) : VR F W (Ghost.mt (allFz W)) (.fptr (zs.map (.int k))) (.pointer (some ⟨g, 0, none⟩)) := by
 refine .fptr _ g 0 (fun j => .int k (zs.getD j 0)) (fun j c hj => ?_) fun j c hj => ?_
 · have hl : j < zs.length := by simpa using (List.getElem?_eq_some_iff.1 hj).1
   rw [Nat.zero_add]
   exact ⟨⟨_, h j hl⟩, h j hl⟩
 · have hl : j < zs.length := by simpa using (List.getElem?_eq_some_iff.1 hj).1
   have : c = .int k (zs.getD j 0) := by
    rw [List.getElem?_map, List.getElem?_eq_getElem hl] at hj
    simp only [Option.map_some, Option.some.injEq] at hj
    rw [← hj, List.getD_eq_getElem?_getD, List.getElem?_eq_getElem hl]; rfl
   rw [this]
   exact .int _ _
theorem VRs.two {F : FTab} {w : World} {G : Ghost} {c d : AV} {V U : Value} (h : VR F w G c V) (h' : VR F w G d U) : VRs F w G [c, d] #[V, U] := ⟨rfl, fun j c' V' hc hV => by
  rcases j with _ | _ | j
  · simp at hc hV; subst hc; subst hV; exact h
  · simp at hc hV; subst hc; subst hV; exact h'
  · simp at hc⟩
theorem VR_string {F : FTab} {w : World} {G : Ghost} (b : ByteArray) : VR F w G (.str b.data.toList) (.string b) := by
 have h : (⟨b.data.toList.toArray⟩ : ByteArray) = b := by cases b; simp
 have := VR.str (F := F) (w := w) (G := G) b.data.toList
 rwa [h] at this
theorem asciiSpace_eq : asciiSpace = (Go.Lib.asciiSpaceTab.map (AV.int .u8)) := by kernel_rfl
theorem size_of_var {P : Program} {W : World} {name : String} {g : Nat} {cs : Array Value} (hg : P.globalNamed name = some g) (h : W.var? P name = some cs) : ∃ cs' t fr, W.heap[g]? = some (.cells cs' t fr) ∧ cs'.size = cs.size := by
 unfold World.var? at h
 rw [hg] at h
 simp only [Option.bind_some] at h
 split at h
 · rename_i cs' t fr heq
   cases h
   exact ⟨_, _, _, heq, rfl⟩
 · cases h
end Rb

namespace Rb
open Go Go.RowKit
mutual
def avN : AV → Nat
 | .str s => s.length + 1
 | .lst _ _ cs => avNs cs + 1
 | _ => 1
def avNs : List AV → Nat
 | [] => 0
 | x :: r => avN x + avNs r
end
theorem avNs_app : ∀ a b : List AV, avNs (a ++ b) = avNs a + avNs b
 | [], b => by simp [avNs]
 | x :: r, b => by simp only [List.cons_append, avNs, avNs_app r b, Nat.add_assoc]
mutual
def dB {H : Type} : DataW H → Nat
 | .lit (.string bytes) => bytes.length + 1
 | .lit _ => 1
 | .nil => 1
 | .ptr d => dB d + 1
 | .slice elems spare => dBs elems + dBs spare + 1
 | .agg parts => dBs parts + 1
 | .iface _ d => dB d + 1
 | .map entries => dBe entries + 1
 | .held _ => 1
def dBs {H : Type} : List (DataW H) → Nat
 | [] => 0
 | d :: r => dB d + dBs r
def dBe {H : Type} : List (Lit × DataW H) → Nat
 | [] => 0
 | x :: r => dBx x + dBe r
def dBx {H : Type} : Lit × DataW H → Nat
 | (.string bytes, d) => bytes.length + dB d + 1
 | (_, d) => dB d + 1
end
theorem dBs_flat {H : Type} {α : Type} {cells : α → List AV} : ∀ (xs : List α) (ds : List (DataW H)), xs.length = ds.length → (∀ (i : Nat) (x : α) (d : DataW H), xs[i]? = some x → ds[i]? = some d → avNs (cells x) ≤ dB d) → avNs (xs.flatMap cells) ≤ dBs ds
 | [], ds, _, _ => by simp [avNs]
 | x :: r, [], h, _ => by simp at h
 | x :: r, d :: ds, h, k => by
  have h0 := k 0 x d rfl rfl
  have h1 := dBs_flat r ds (by simpa using h) fun i y e hy he => k (i + 1) y e (by simpa using hy) (by simpa using he)
  rw [List.flatMap_cons, avNs_app, dBs]
  omega
section
variable {H : Type} {enc : TypeId × Value → H} {P : Program} {w : World} {sp : Nat → Bool} {held : Bool} {F : FTab}
def Dec (F : FTab) (enc : TypeId × Value → H) (P : Program) (w : World) (sp : Nat → Bool) (held : Bool) (n : Nat) (t : TypeId) {α : Type} (cells : α → List AV) (ok : α → Prop) : Prop :=
 ∀ fuel, fuel ≤ n → ∀ cs d ps, DataW.trod enc P w 0 sp held fuel t cs = some (d, ps) → (∀ m ∈ d.weights P t, m ≤ reachBytes) → ∃ x, ok x ∧ VRs F w (Ghost.mt (allFz w)) (cells x) cs.toArray ∧ avNs (cells x) ≤ dB d
theorem Dec.mono {n m : Nat} {t : TypeId} {α : Type} {cells : α → List AV} {ok : α → Prop} (h : Dec F enc P w sp held n t cells ok) (hm : m ≤ n) : Dec F enc P w sp held m t cells ok :=
 fun fuel hf cs d ps ht hw => h fuel (Nat.le_trans hf hm) cs d ps ht hw
theorem Dec.zero {t : TypeId} {α : Type} {cells : α → List AV} {ok : α → Prop} : Dec F enc P w sp held 0 t cells ok := by
 intro fuel hf cs d ps h _
 obtain rfl : fuel = 0 := by omega
 simp [DataW.trod] at h
theorem Dec.int {n : Nat} {t : TypeId} {k : IntKind} (ht : P.underlying t = some (.int k)) : Dec F enc P w sp held n t (fun z : Int => [.int k z]) (fun z => k.min ≤ z ∧ z ≤ k.max) := by
 intro fuel _ cs d ps h _
 obtain ⟨z, rfl, hd, hw⟩ := DataW.trod_int ht h
 obtain rfl : d = _ := congrArg Prod.fst hd
 exact ⟨z, by simpa [Lit.wf] using hw, VRs.one (.int _ _), by simp [avNs, avN, dB]⟩
theorem Dec.bool {n : Nat} {t : TypeId} (ht : P.underlying t = some .bool) : Dec F enc P w sp held n t (fun z : Bool => [.bool z]) (fun _ => True) := by
 intro fuel _ cs d ps h _
 obtain ⟨z, rfl, hd⟩ := DataW.trod_bool ht h
 obtain rfl : d = _ := congrArg Prod.fst hd
 exact ⟨z, trivial, VRs.one (.bool _), by simp [avNs, avN, dB]⟩
theorem Dec.string {n : Nat} {t : TypeId} (ht : P.underlying t = some .string) : Dec F enc P w sp held n t (fun z : List UInt8 => [.str z]) (fun z => z.length ≤ 140737488351232) := by
 intro fuel _ cs d ps h hw
 obtain ⟨s, rfl, hd, hl⟩ := DataW.trod_string ht h
 obtain rfl : d = _ := congrArg Prod.fst hd
 exact ⟨s.data.toList, hw _ (by simp [DataW.weights]), VRs.one (VR_string s), by simp [avNs, avN, dB]⟩
theorem weights_mem_all {H : Type} {P : Program} {e : TypeId} : ∀ {ds : List (DataW H)} {j : Nat} {d : DataW H}, ds[j]? = some d → ∀ n ∈ d.weights P e, n ∈ DataW.weightsAll P e ds
 | d0 :: ds, 0, d, hd, n, hn => by
  simp only [List.getElem?_cons_zero, Option.some.injEq] at hd
  subst hd
  simp only [DataW.weightsAll, List.mem_append]
  exact .inl hn
 | d0 :: ds, j + 1, d, hd, n, hn => by
  simp only [List.getElem?_cons_succ] at hd
  simp only [DataW.weightsAll, List.mem_append]
  exact .inr (weights_mem_all hd n hn)
def lstA {α : Type} (cells : α → List AV) (xs : List α) : AV := .lst .dead xs.length (xs.flatMap cells)
theorem exists_list {α : Type} {p : Nat → α → Prop} : ∀ (n : Nat), (∀ i, i < n → ∃ x, p i x) → ∃ xs : List α, xs.length = n ∧ ∀ i x, xs[i]? = some x → p i x := by
 intro n
 induction n with
 | zero => intro _; exact ⟨[], rfl, fun i x h => by simp at h⟩
 | succ n ih =>
  intro h
  obtain ⟨xs, hl, hx⟩ := ih fun i hi => h i (by omega)
  obtain ⟨y, hy⟩ := h n (by omega)
  refine ⟨xs ++ [y], by simp [hl], fun i x hi => ?_⟩
  by_cases hlt : i < n
  · rw [List.getElem?_append_left (by omega)] at hi
    exact hx i x hi
  · rw [List.getElem?_append_right (by omega)] at hi
    have : i - xs.length = 0 := by
     rcases Nat.eq_zero_or_pos (i - xs.length) with h | h
     · exact h
     · rw [List.getElem?_eq_none (by simp; omega)] at hi; cases hi
    rw [this] at hi
    simp at hi
    subst hi
    have : i = n := by omega
    rw [this]; exact hy
theorem flat_get {α : Type} {cells : α → List AV} {sz : Nat} (hc : ∀ x, (cells x).length = sz) : ∀ (xs : List α) (j : Nat) (c : AV), (xs.flatMap cells)[j]? = some c → ∃ i k x, j = i * sz + k ∧ k < sz ∧ xs[i]? = some x ∧ (cells x)[k]? = some c := by
 intro xs
 induction xs with
 | nil => intro j c h; simp at h
 | cons y ys ih =>
  intro j c h
  rw [List.flatMap_cons] at h
  by_cases hj : j < sz
  · rw [List.getElem?_append_left (by rw [hc]; exact hj)] at h
    exact ⟨0, j, y, by omega, hj, rfl, h⟩
  · rw [List.getElem?_append_right (by rw [hc]; omega), hc] at h
    obtain ⟨i, k, x, h1, h2, h3, h4⟩ := ih _ _ h
    refine ⟨i + 1, k, x, ?_, h2, by simpa using h3, h4⟩
    rw [Nat.add_mul]; omega
theorem add_at {b o m : Nat} : (Addr.mk b o none).add m = ⟨b, o + m, none⟩ := by
 unfold Addr.add
 split
 · rename_i h; subst h; rfl
 · rfl
theorem Dec.slice {n : Nat} {t e : TypeId} {α : Type} {cells : α → List AV} {ok : α → Prop} (ht : P.underlying t = some (.slice e)) {sz : Nat} (hs : P.cellsOf e = sz) (hz : 0 < sz) (hc : ∀ x, (cells x).length = sz) (h : Dec F enc P w sp held n e cells ok) :
  Dec F enc P w sp held (n + 1) t (fun xs : List α => [lstA cells xs]) (fun xs => xs.length ≤ maxLen ∧ ∀ x ∈ xs, ok x) := by
 intro fuel hf cs d ps hd hwt
 rcases DataW.trod_slice ht hd with ⟨rfl, hdx⟩ | ⟨a, len, cap, elems, rest, m, rfl, rfl, hdx, _, hle, hcap, hel, helems, _⟩
 · obtain rfl : d = _ := congrArg Prod.fst hdx
   exact ⟨[], ⟨Nat.zero_le _, by simp⟩, VRs.one (.lst0 _ _), by simp [lstA, avNs, avN, dB]⟩
 · have each : ∀ i, i < len → ∃ x, (ok x ∧ ∀ dd, (elems.map (·.1))[i]? = some dd → avNs (cells x) ≤ dB dd) ∧ ∃ ci, w.cells? 0 (a.add (i * sz)) sz = some ci ∧ VRs F w (Ghost.mt (allFz w)) (cells x) ci.toArray := by
     intro i hi
     have h1 := helems i hi
     rw [List.getElem?_eq_getElem (by omega), hs] at h1
     obtain ⟨ci, h2, h3⟩ := Option.bind_eq_some_iff.1 h1
     obtain ⟨x, hx, hv, hb⟩ := h m (by omega) ci _ _ h3 (fun q hq => hwt q (by
       obtain rfl : d = _ := congrArg Prod.fst hdx
       simp only [DataW.weights, ht]
       refine List.mem_cons_of_mem _ (List.mem_append_left _ ?_)
       exact weights_mem_all (j := i) (by rw [List.getElem?_map, List.getElem?_eq_getElem (by omega)]; rfl) q hq))
     exact ⟨x, ⟨hx, fun dd hdd => by
       rw [List.getElem?_map, List.getElem?_eq_getElem (by omega)] at hdd
       simp only [Option.map_some, Option.some.injEq] at hdd
       rw [← hdd]; exact hb⟩, ci, h2, hv⟩
   obtain ⟨xs, hl, hx⟩ := exists_list len each
   have hB : avNs [lstA cells xs] ≤ dB d := by
    obtain rfl : d = _ := congrArg Prod.fst hdx
    have := dBs_flat xs (elems.map (·.1)) (by simp; omega) fun i x dd h1 h2 => (hx i x h1).1.2 dd h2
    simp only [lstA, avNs, avN, dB]
    omega
   refine ⟨xs, ⟨by omega, fun x hxm => ?_⟩, VRs.one ?_, hB⟩
   · obtain ⟨i, hi, e⟩ := List.mem_iff_getElem.1 hxm
     exact (hx i x (by rw [List.getElem?_eq_getElem hi, e])).1.1
   · rcases Nat.eq_zero_or_pos len with h0 | h0
     · subst h0
       obtain rfl := List.length_eq_zero_iff.1 hl
       exact .lst0 _ _
     ·
       have hsp : a.spot = none := by
        obtain ⟨x, _, ci, h2, _⟩ := each 0 h0
        obtain ⟨_, h3, h4⟩ := World.cells?_some h2
        have h5 := h4 0 hz
        rw [List.getElem?_eq_getElem (by omega)] at h5
        rw [Nat.zero_mul] at h5
        have e0 : (a.add 0).add 0 = a := by simp [Addr.add]
        rw [e0] at h5
        unfold World.cell? at h5
        split at h5
        · split at h5
          · cases h5
          · rename_i hn; cases ha : a.spot with
            | none => rfl
            | some _ => rw [ha] at hn; simp at hn
        · cases h5
       obtain ⟨b, o, spt⟩ := a
       simp only at hsp
       subst hsp
       have key : ∀ (j : Nat) (c : AV), (xs.flatMap cells)[j]? = some c → ∃ V, w.cell? ⟨b, o + j, none⟩ = some V ∧ VR F w (Ghost.mt (allFz w)) c V := by
        intro j c hj
        obtain ⟨i, k, x, rfl, hk, hxi, hck⟩ := flat_get hc xs j c hj
        obtain ⟨_, ci, h2, hv⟩ := hx i x hxi
        obtain ⟨_, h3, h4⟩ := World.cells?_some h2
        have h5 := h4 k hk
        rw [add_at, add_at, List.getElem?_eq_getElem (by omega)] at h5
        refine ⟨ci[k], by rw [← Nat.add_assoc]; exact h5, hv.2 k c _ hck (by simp [List.getElem?_eq_getElem (show k < ci.length by omega)])⟩
       unfold lstA
       rw [hl]
       refine .lst .dead len _ b o cap (fun j => (w.cell? ⟨b, o + j, none⟩).getD undef) trivial hle (fun j c hj => ?_) fun j c hj => ?_
       · obtain ⟨V, h1, _⟩ := key j c hj
         exact ⟨⟨V, h1⟩, by rw [h1]; rfl⟩
       · obtain ⟨V, h1, h2⟩ := key j c hj
         rw [h1]; exact h2
def chainB (P : Program) : Nat → List (TypeId × Nat) → Bool
 | _, [] => true
 | off, (t, o) :: r => o == off && chainB P (off + P.cellsOf t) r
def totC (P : Program) : List (TypeId × Nat) → Nat
 | [] => 0
 | (t, _) :: r => P.cellsOf t + totC P r
def DecL (F : FTab) (enc : TypeId × Value → H) (P : Program) (w : World) (sp : Nat → Bool) (held : Bool) (n : Nat) (L : List (TypeId × Nat)) {α : Type} (cells : α → List AV) (ok : α → Prop) : Prop :=
 ∀ m, m ≤ n → ∀ (off : Nat) (cs : List Value) (ds : List (DataW H)), chainB P off L = true → ds.length = L.length → (∀ (i : Nat) (f : TypeId × Nat) (d : DataW H), L[i]? = some f → ds[i]? = some d → (∃ ps, DataW.trod enc P w 0 sp held m f.1 ((cs.drop f.2).take (P.cellsOf f.1)) = some (d, ps)) ∧ ∀ q ∈ d.weights P f.1, q ≤ reachBytes) →
  ∃ x, ok x ∧ VRs F w (Ghost.mt (allFz w)) (cells x) ((cs.drop off).take (totC P L)).toArray ∧ avNs (cells x) ≤ dBs ds
theorem DecL.nil {n : Nat} : DecL F enc P w sp held n [] (fun _ : Unit => []) (fun _ => True) := by
 intro m _ off cs ds _ _ _
 exact ⟨(), trivial, by simp only [totC, List.take_zero]; exact VRs.nil, Nat.zero_le _⟩
theorem DecL.cons {n : Nat} {t : TypeId} {o : Nat} {L : List (TypeId × Nat)} {α β : Type} {c1 : α → List AV} {c2 : β → List AV} {o1 : α → Prop} {o2 : β → Prop} (h1 : Dec F enc P w sp held n t c1 o1) (h2 : DecL F enc P w sp held n L c2 o2) :
  DecL F enc P w sp held n ((t, o) :: L) (fun x : α × β => c1 x.1 ++ c2 x.2) (fun x => o1 x.1 ∧ o2 x.2) := by
 intro m hm off cs ds hch hlen hf
 simp only [chainB, Bool.and_eq_true, beq_iff_eq] at hch
 obtain ⟨rfl, hch⟩ := hch
 match ds, hlen with
 | d :: r, hlen =>
 obtain ⟨⟨ps, hy⟩, hyw⟩ := hf 0 (t, o) d rfl rfl
 obtain ⟨x, hx, hv, hb⟩ := h1 m hm _ _ _ hy hyw
 obtain ⟨y, hy2, hv2, hb2⟩ := h2 m hm _ cs r hch (by simpa using hlen) fun i f e hi he => hf (i + 1) f e (by simpa using hi) (by simpa using he)
 refine ⟨(x, y), ⟨hx, hy2⟩, ?_, by simp only [avNs_app, dBs]; omega⟩
 have e : ((cs.drop o).take (totC P ((t, o) :: L))) = (cs.drop o).take (P.cellsOf t) ++ (cs.drop (o + P.cellsOf t)).take (totC P L) := by
  simp only [totC]
  rw [List.take_add, List.drop_drop]
 rw [e]
 have := hv.app hv2
 simpa using this
theorem Dec.struct {n : Nat} {t : TypeId} {fs : Array Field} (ht : P.underlying t = some (.struct fs)) {L : List (TypeId × Nat)} (hL : fs.toList.map (fun f => (f.type, f.offset)) = L) (hch : chainB P 0 L = true) (htot : P.cellsOf t = totC P L)
  {α : Type} {cells : α → List AV} {ok : α → Prop} (h : DecL F enc P w sp held n L cells ok) : Dec F enc P w sp held (n + 1) t cells ok := by
 intro fuel hf cs d ps hd hwt
 obtain ⟨xs, m, rfl, hdx, hlen, hxl, hfs⟩ := DataW.trod_struct ht hd
 obtain ⟨x, hx, hv, hb⟩ := h m (by omega) 0 cs (xs.map (·.1)) hch (by rw [← hL]; simp [hxl]) fun i f dd hf hdd => by
  rw [← hL, List.getElem?_map] at hf
  obtain ⟨g, hg, rfl⟩ := Option.map_eq_some_iff.1 hf
  rw [List.getElem?_map] at hdd
  obtain ⟨z, hz, rfl⟩ := Option.map_eq_some_iff.1 hdd
  have h1 := hfs i g (by rw [← Array.getElem?_toList]; exact hg)
  rw [hz] at h1
  refine ⟨⟨z.2, h1⟩, fun q hq => hwt q ?_⟩
  obtain rfl : d = _ := congrArg Prod.fst hdx
  simp only [DataW.weights, ht]
  exact DataW.weights_mem_each (j := i) (t := g.type) (by rw [List.getElem?_map, hg]; rfl) (by rw [List.getElem?_map, hz]; rfl) q hq
 obtain rfl : d = _ := congrArg Prod.fst hdx
 refine ⟨x, hx, ?_, by simp only [dB]; omega⟩
 rw [List.drop_zero, ← htot, ← hlen, List.take_length] at hv
 exact hv
theorem Dec.map {n : Nat} {t : TypeId} {α β : Type} {c1 : α → List AV} {c2 : β → List AV} {o1 : α → Prop} {o2 : β → Prop} (g : α → β) (hc : ∀ x, c2 (g x) = c1 x) (ho : ∀ x, o1 x → o2 (g x)) (h : Dec F enc P w sp held n t c1 o1) : Dec F enc P w sp held n t c2 o2 := by
 intro fuel hf cs d ps hd hw
 obtain ⟨x, hx, hv, hb⟩ := h fuel hf cs d ps hd hw
 exact ⟨g x, ho x hx, by rw [hc]; exact hv, by rw [hc]; exact hb⟩
theorem Dec.argN {t : TypeId} {α : Type} {cells : α → List AV} {ok : α → Prop} (h : ∀ n, Dec F enc P w sp held n t cells ok) {v : Value} {d : DataW H} {ps : List MemPlace} (hd : DataW.Trod enc P w 0 sp held t v d ps) (hw : ∀ m ∈ d.weights P t, m ≤ reachBytes) : ∃ x, ok x ∧ VRs F w (Ghost.mt (allFz w)) (cells x) v.cells ∧ avNs (cells x) ≤ dB d := by
 obtain ⟨fuel, hf⟩ := hd
 obtain ⟨x, hx, hv, hb⟩ := h fuel fuel (Nat.le_refl _) _ _ _ hf hw
 exact ⟨x, hx, by simpa using hv, hb⟩
end
end Rb

namespace Rb
open Go
mutual
structure GType where
 kind : Int
 size : Int
 packed : Bool
 fields : List GField
 count : Int
 elem : List GType
structure GField where
 name : List UInt8
 type : GType
 bits : Bool
 width : Int
end
mutual
def GType.cells : GType → List AV
 | .mk kind size packed fields count elem => [.int .i64 kind, .int .i64 size, .bool packed, .lst .dead fields.length (GField.all fields), .int .i64 count, .lst .dead elem.length (GType.all elem)]
def GType.all : List GType → List AV
 | [] => []
 | x :: r => GType.cells x ++ GType.all r
def GField.cells : GField → List AV
 | .mk name type bits width => .str name :: (GType.cells type ++ [.bool bits, .int .i64 width])
def GField.all : List GField → List AV
 | [] => []
 | x :: r => GField.cells x ++ GField.all r
end
theorem GType.all_eq : ∀ xs : List GType, GType.all xs = xs.flatMap GType.cells
 | [] => rfl
 | x :: r => by rw [GType.all, GType.all_eq r, List.flatMap_cons]
theorem GField.all_eq : ∀ xs : List GField, GField.all xs = xs.flatMap GField.cells
 | [] => rfl
 | x :: r => by rw [GField.all, GField.all_eq r, List.flatMap_cons]
theorem GType.cells_eq (x : GType) : x.cells = [.int .i64 x.kind, .int .i64 x.size, .bool x.packed, lstA GField.cells x.fields, .int .i64 x.count, lstA GType.cells x.elem] := by
 cases x; simp only [GType.cells, GType.all_eq, GField.all_eq, lstA]
theorem GField.cells_eq (x : GField) : x.cells = .str x.name :: (x.type.cells ++ [.bool x.bits, .int .i64 x.width]) := by
 cases x; rfl
theorem GType.len (x : GType) : x.cells.length = 6 := by rw [GType.cells_eq]; rfl
theorem GField.len (x : GField) : x.cells.length = 9 := by rw [GField.cells_eq]; simp [GType.len]
def i64ok (z : Int) : Prop := -9223372036854775808 ≤ z ∧ z ≤ 9223372036854775807
mutual
def GType.ok : GType → Prop
 | .mk kind size packed fields count elem => i64ok kind ∧ i64ok size ∧ fields.length ≤ maxLen ∧ GField.oks fields ∧ i64ok count ∧ elem.length ≤ maxLen ∧ GType.oks elem
def GType.oks : List GType → Prop
 | [] => True
 | x :: r => GType.ok x ∧ GType.oks r
def GField.ok : GField → Prop
 | .mk name type bits width => name.length ≤ 140737488351232 ∧ GType.ok type ∧ i64ok width
def GField.oks : List GField → Prop
 | [] => True
 | x :: r => GField.ok x ∧ GField.oks r
end
section
variable {H : Type} {enc : TypeId × Value → H} {P : Program} {w : World} {sp : Nat → Bool} {held : Bool} {F : FTab}
end
end Rb

namespace Rb
open Go
mutual
structure GExpr where
 kind : Int
 n : Int
 name : List UInt8
 op : Int
 order : Int
 place : GPlace
 kids : List GExpr
structure GPlace where
 var : List UInt8
 parts : List GPart
structure GPart where
 field : List UInt8
 index : List GExpr
end
mutual
def GExpr.cells : GExpr → List AV
 | .mk kind n name op order place kids => .int .i64 kind :: .int .u64 n :: .str name :: .int .i64 op :: .int .i64 order :: (GPlace.cells place ++ [.lst .dead kids.length (GExpr.all kids)])
def GExpr.all : List GExpr → List AV
 | [] => []
 | x :: r => GExpr.cells x ++ GExpr.all r
def GPlace.cells : GPlace → List AV
 | .mk var parts => [.str var, .lst .dead parts.length (GPart.all parts)]
def GPart.cells : GPart → List AV
 | .mk field index => [.str field, .lst .dead index.length (GExpr.all index)]
def GPart.all : List GPart → List AV
 | [] => []
 | x :: r => GPart.cells x ++ GPart.all r
end
theorem GExpr.all_eq : ∀ xs : List GExpr, GExpr.all xs = xs.flatMap GExpr.cells
 | [] => rfl
 | x :: r => by rw [GExpr.all, GExpr.all_eq r, List.flatMap_cons]
theorem GPart.all_eq : ∀ xs : List GPart, GPart.all xs = xs.flatMap GPart.cells
 | [] => rfl
 | x :: r => by rw [GPart.all, GPart.all_eq r, List.flatMap_cons]
theorem GPlace.cells_eq (x : GPlace) : x.cells = [.str x.var, lstA GPart.cells x.parts] := by
 cases x; simp only [GPlace.cells, GPart.all_eq, lstA]
theorem GPart.cells_eq (x : GPart) : x.cells = [.str x.field, lstA GExpr.cells x.index] := by
 cases x; simp only [GPart.cells, GExpr.all_eq, lstA]
theorem GExpr.cells_eq (x : GExpr) : x.cells = .int .i64 x.kind :: .int .u64 x.n :: .str x.name :: .int .i64 x.op :: .int .i64 x.order :: (x.place.cells ++ [lstA GExpr.cells x.kids]) := by
 cases x; simp only [GExpr.cells, GExpr.all_eq, lstA]
theorem GPlace.len (x : GPlace) : x.cells.length = 2 := by rw [GPlace.cells_eq]; rfl
theorem GPart.len (x : GPart) : x.cells.length = 2 := by rw [GPart.cells_eq]; rfl
theorem GExpr.len (x : GExpr) : x.cells.length = 8 := by rw [GExpr.cells_eq]; simp [GPlace.len]
def u64ok (z : Int) : Prop := 0 ≤ z ∧ z ≤ 18446744073709551615
mutual
def GExpr.ok : GExpr → Prop
 | .mk kind n name op order place kids => i64ok kind ∧ u64ok n ∧ name.length ≤ 140737488351232 ∧ i64ok op ∧ i64ok order ∧ GPlace.ok place ∧ kids.length ≤ maxLen ∧ GExpr.oks kids
def GExpr.oks : List GExpr → Prop
 | [] => True
 | x :: r => GExpr.ok x ∧ GExpr.oks r
def GPlace.ok : GPlace → Prop
 | .mk var parts => var.length ≤ 140737488351232 ∧ parts.length ≤ maxLen ∧ GPart.oks parts
def GPart.ok : GPart → Prop
 | .mk field index => field.length ≤ 140737488351232 ∧ index.length ≤ maxLen ∧ GExpr.oks index
def GPart.oks : List GPart → Prop
 | [] => True
 | x :: r => GPart.ok x ∧ GPart.oks r
end
structure GVar where
 name : List UInt8
 type : GType
def GVar.cells (x : GVar) : List AV := .str x.name :: x.type.cells
theorem GVar.len (x : GVar) : x.cells.length = 7 := by simp [GVar.cells, GType.len]
def GVar.ok (x : GVar) : Prop := x.name.length ≤ 140737488351232 ∧ x.type.ok
section
variable {H : Type} {enc : TypeId × Value → H} {P : Program} {w : World} {sp : Nat → Bool} {held : Bool} {F : FTab}
theorem Dec.i64 {n : Nat} {ti : TypeId} (h : P.underlying ti = some (.int .i64)) : Dec F enc P w sp held n ti (fun z : Int => [.int .i64 z]) i64ok := Dec.map id (fun _ => rfl) (fun x hx => by
    simp only [IntKind.min, IntKind.max, IntKind.signed, IntKind.bits, if_true] at hx
    show -9223372036854775808 ≤ x ∧ x ≤ 9223372036854775807
    omega) (Dec.int h)
theorem Dec.u64 {n : Nat} {ti : TypeId} (h : P.underlying ti = some (.int .u64)) : Dec F enc P w sp held n ti (fun z : Int => [.int .u64 z]) u64ok := Dec.map id (fun _ => rfl) (fun x hx => by
    simp [IntKind.min, IntKind.max, IntKind.signed, IntKind.bits] at hx
    show 0 ≤ x ∧ x ≤ 18446744073709551615
    omega) (Dec.int h)
end
end Rb

namespace Rb
open Go
structure GStmt where
 kind : Int
 line : Int
 name : List UInt8
 name2 : List UInt8
 order : Int
 place : GPlace
 exprs : List GExpr
 thn : List GStmt
 els : List GStmt
mutual
def GStmt.cells : GStmt → List AV
 | .mk kind line name name2 order place exprs thn els => .int .i64 kind :: .int .i64 line :: .str name :: .str name2 :: .int .i64 order :: (GPlace.cells place ++ [lstA GExpr.cells exprs, .lst .dead thn.length (GStmt.all thn), .lst .dead els.length (GStmt.all els)])
def GStmt.all : List GStmt → List AV
 | [] => []
 | x :: r => GStmt.cells x ++ GStmt.all r
end
theorem GStmt.all_eq : ∀ xs : List GStmt, GStmt.all xs = xs.flatMap GStmt.cells
 | [] => rfl
 | x :: r => by rw [GStmt.all, GStmt.all_eq r, List.flatMap_cons]
theorem GStmt.cells_eq (x : GStmt) : x.cells = .int .i64 x.kind :: .int .i64 x.line :: .str x.name :: .str x.name2 :: .int .i64 x.order :: (x.place.cells ++ [lstA GExpr.cells x.exprs, lstA GStmt.cells x.thn, lstA GStmt.cells x.els]) := by
 cases x; simp only [GStmt.cells, GStmt.all_eq, lstA]
theorem GStmt.len (x : GStmt) : x.cells.length = 10 := by rw [GStmt.cells_eq]; simp [GPlace.len]
mutual
def GStmt.ok : GStmt → Prop
 | .mk kind line name name2 order place exprs thn els => i64ok kind ∧ i64ok line ∧ name.length ≤ 140737488351232 ∧ name2.length ≤ 140737488351232 ∧ i64ok order ∧ GPlace.ok place ∧ exprs.length ≤ maxLen ∧ GExpr.oks exprs ∧ thn.length ≤ maxLen ∧ GStmt.oks thn ∧ els.length ≤ maxLen ∧ GStmt.oks els
def GStmt.oks : List GStmt → Prop
 | [] => True
 | x :: r => GStmt.ok x ∧ GStmt.oks r
end
structure GProg where
 vars : List GVar
 threads : List (List GStmt)
def thrCells (l : List GStmt) : List AV := [lstA GStmt.cells l]
def GProg.cells (x : GProg) : List AV := [lstA GVar.cells x.vars, lstA thrCells x.threads]
def GProg.ok (x : GProg) : Prop := (x.vars.length ≤ maxLen ∧ ∀ v ∈ x.vars, v.ok) ∧ x.threads.length ≤ maxLen ∧ ∀ t ∈ x.threads, t.length ≤ maxLen ∧ ∀ s ∈ t, s.ok
section
variable {H : Type} {enc : TypeId × Value → H} {P : Program} {w : World} {sp : Nat → Bool} {held : Bool} {F : FTab}
end
end Rb

namespace Rb
open Go
@[simp] theorem Do_of {α : Type} (a : α) (K : α → Prop) : Do (some a) K ↔ K a := ⟨fun ⟨b, h, k⟩ => by cases h; exact k, fun h => ⟨a, rfl, h⟩⟩
@[simp] theorem DoH_some (v : AV) (H : AH) (K : Post) : DoH (some (v, H)) K ↔ K v H := ⟨fun ⟨a, b, h, k⟩ => by cases h; exact k, fun h => ⟨v, H, rfl, h⟩⟩
@[simp] theorem Gd_true (b : Bool) (A B : Prop) : Gd (.bool b) true A B ↔ if b = true then A else B := Iff.rfl
@[simp] theorem Gd_false (b : Bool) (A B : Prop) : Gd (.bool b) false A B ↔ if b = false then A else B := Iff.rfl
@[simp] theorem JoinP_def (K : List AV → AH → Prop) (st : List AV) (H : AH) : JoinP K st H ↔ K st H := Iff.rfl
@[simp] theorem sl_zero (a : AV) (l : List AV) : sl (a :: l) 0 = a := rfl
@[simp] theorem sl_succ (a : AV) (l : List AV) (i : Nat) : sl (a :: l) (i + 1) = sl l i := rfl
section
variable (k : IntKind) (a b : Int)
@[simp] theorem abin_add : abin .add (.int k a) (.int k b) = some (.int k (k.wrap (a + b))) := by simp [abin, abinInt]
@[simp] theorem abin_sub : abin .sub (.int k a) (.int k b) = some (.int k (k.wrap (a - b))) := by simp [abin, abinInt]
@[simp] theorem abin_mul : abin .mul (.int k a) (.int k b) = some (.int k (k.wrap (a * b))) := by simp [abin, abinInt]
@[simp] theorem abin_eql : abin .eql (.int k a) (.int k b) = some (.bool (a == b)) := by simp [abin, abinInt]
@[simp] theorem abin_neq : abin .neq (.int k a) (.int k b) = some (.bool (a != b)) := by simp [abin, abinInt]
@[simp] theorem abin_lss : abin .lss (.int k a) (.int k b) = some (.bool (decide (a < b))) := by simp [abin, abinInt]
@[simp] theorem abin_leq : abin .leq (.int k a) (.int k b) = some (.bool (decide (a ≤ b))) := by simp [abin, abinInt]
@[simp] theorem abin_gtr : abin .gtr (.int k a) (.int k b) = some (.bool (decide (a > b))) := by simp [abin, abinInt]
@[simp] theorem abin_geq : abin .geq (.int k a) (.int k b) = some (.bool (decide (a ≥ b))) := by simp [abin, abinInt]
theorem abin_rem (h : b ≠ 0) : abin .rem (.int k a) (.int k b) = some (.int k (a.tmod b)) := by simp [abin, abinInt, h]
theorem abin_quo (h : b ≠ 0) : abin .quo (.int k a) (.int k b) = some (.int k (k.wrap (a.tdiv b))) := by simp [abin, abinInt, h]
@[simp] theorem abin_and : abin .and (.int k a) (.int k b) = some (.int k (k.wrap (BitVec.ofInt k.bits a &&& BitVec.ofInt k.bits b).toNat)) := by simp [abin, abinInt, bitsOp]
@[simp] theorem abin_or : abin .or (.int k a) (.int k b) = some (.int k (k.wrap (BitVec.ofInt k.bits a ||| BitVec.ofInt k.bits b).toNat)) := by simp [abin, abinInt, bitsOp]
@[simp] theorem abin_xor : abin .xor (.int k a) (.int k b) = some (.int k (k.wrap (BitVec.ofInt k.bits a ^^^ BitVec.ofInt k.bits b).toNat)) := by simp [abin, abinInt, bitsOp]
@[simp] theorem aconv_int (k' : IntKind) : aconv k' (.int k a) = some (.int k' (k'.wrap a)) := rfl
@[simp] theorem abeq_def (neg : Bool) (x y : Bool) : abeq neg (.bool x) (.bool y) = some (.bool (if neg then !(x == y) else x == y)) := rfl
@[simp] theorem aun_not (x : Bool) : aun .not (.bool x) = some (.bool !x) := rfl
end
@[simp] theorem alen_lst (tk : Tok) (n : Nat) (cs : List AV) : alen false (.lst tk n cs) = some (.int .i64 n) := rfl
@[simp] theorem alen_row (id o n sz : Nat) : alen false (.row id o n sz) = some (.int .i64 n) := rfl
@[simp] theorem alen_str (s : List UInt8) : alen true (.str s) = some (.int .i64 s.length) := rfl
end Rb

namespace Rb
open Go
def AH.Ext (H H' : AH) : Prop := H.n ≤ H'.n ∧ ∀ i, i < H.n → H'.o i = H.o i
theorem AH.Ext.refl (H : AH) : AH.Ext H H := ⟨Nat.le_refl _, fun _ _ => rfl⟩
theorem AH.Ext.trans {a b c : AH} (h : AH.Ext a b) (k : AH.Ext b c) : AH.Ext a c := ⟨Nat.le_trans h.1 k.1, fun i hi => (k.2 i (Nat.lt_of_lt_of_le hi h.1)).trans (h.2 i hi)⟩
theorem AH.Ext.push (H : AH) (x : AObj) : AH.Ext H (H.push x) := ⟨Nat.le_succ _, fun i hi => if_neg (Nat.ne_of_lt hi)⟩
theorem AH.Ext.set {H H' : AH} (h : AH.Ext H H') {i : Nat} (hi : H.n ≤ i) (x : AObj) : AH.Ext H (H'.set i x) := ⟨h.1, fun j hj => by
  simp only [AH.set]; rw [if_neg (by omega)]; exact h.2 j hj⟩
@[simp] theorem AH.push_n (H : AH) (x : AObj) : (H.push x).n = H.n + 1 := rfl
@[simp] theorem AH.set_n (H : AH) (i : Nat) (x : AObj) : (H.set i x).n = H.n := rfl
theorem AH.push_self (H : AH) (x : AObj) : (H.push x).o H.n = x := if_pos rfl
theorem AH.set_self (H : AH) (i : Nat) (x : AObj) : (H.set i x).o i = x := if_pos rfl
theorem AH.set_ne (H : AH) {i j : Nat} (x : AObj) (h : j ≠ i) : (H.set i x).o j = H.o j := if_neg h
theorem wrap_i64 {n : Int} (h1 : -9223372036854775808 ≤ n) (h2 : n ≤ 9223372036854775807) : IntKind.wrap .i64 n = n := by
 simp [IntKind.wrap, IntKind.signed, IntKind.bits]; omega
theorem wrap_u64 {n : Int} (h1 : 0 ≤ n) (h2 : n < 18446744073709551616) : IntKind.wrap .u64 n = n := by
 simp [IntKind.wrap, IntKind.signed, IntKind.bits]; omega
theorem wrap_u8 {n : Int} (h1 : 0 ≤ n) (h2 : n < 256) : IntKind.wrap .u8 n = n := by
 simp [IntKind.wrap, IntKind.signed, IntKind.bits]; omega
def Lst (H0 H : AH) (sz : Nat) (x : AV) (len : Nat) (cells : List AV) : Prop :=
 AH.Ext H0 H ∧ ∃ tk, x = .lst tk len cells ∧ cells.length = len * sz ∧ ((tk = .nil ∧ len = 0) ∨ ∃ t, tk = .own t ∧ H0.n ≤ t ∧ t < H.n ∧ H.o t = .tok (len * sz) sz)
theorem Lst.nil (H : AH) (sz : Nat) : Lst H H sz (.lst .nil 0 []) 0 [] := ⟨AH.Ext.refl H, .nil, rfl, by simp, .inl ⟨rfl, rfl⟩⟩
theorem Lst.append {H0 H : AH} {sz bytes len m : Nat} {x y : AV} {cells news : List AV} {K : Post} (h : Lst H0 H sz x len cells) (hy : acells H sz y = some (m, news)) (hn : news.length = m * sz) (hs : news.all AV.scalar = true) (hm : m ≠ 0)
  (hb : (len + m) * bytes ≤ 140737488355328) (hl : len + m ≤ 9223372036854775807) (hK : ∀ x' H', Lst H0 H' sz x' (len + m) (cells ++ news) → K x' H') : DoH (aappend H false sz bytes x y) K := by
 obtain ⟨hx, tk, rfl, hc, htk⟩ := h
 have hlen : (cells ++ news).length = (len + m) * sz := by simp [hc, hn, Nat.add_mul]
 rcases htk with ⟨rfl, rfl⟩ | ⟨t, rfl, h1, h2, h3⟩
 · refine ⟨.lst (.own H.n) (0 + m) (cells ++ news), H.push (.tok ((0 + m) * sz) sz), ?_, hK _ _ ⟨hx.trans (AH.Ext.push _ _), _, rfl, hlen, .inr ⟨H.n, rfl, hx.1, Nat.lt_succ_self _, AH.push_self _ _⟩⟩⟩
   simp only [aappend, hy, hs, not_true_eq_false, if_false, if_neg hm]
   rw [if_neg (by simp only [Decidable.not_not]; exact ⟨hc, hb, hl⟩)]
 · refine ⟨.lst (.own H.n) (len + m) (cells ++ news), (H.set t .gone).push (.tok ((len + m) * sz) sz), ?_, hK _ _ ⟨(hx.set h1 _).trans (AH.Ext.push _ _), _, rfl, hlen, .inr ⟨H.n, rfl, hx.1, Nat.lt_succ_self _, AH.push_self _ _⟩⟩⟩
   simp only [aappend, hy, hs, not_true_eq_false, if_false, if_neg hm]
   rw [if_neg (by simp only [Decidable.not_not]; exact ⟨hc, hb, hl⟩)]
   simp [h3]
def At (H : AH) (id : Nat) (x : AObj) : Prop := id < H.n ∧ H.o id = x
theorem At.new (H : AH) (x : AObj) : At (H.push x) H.n x := ⟨Nat.lt_succ_self _, AH.push_self H x⟩
theorem At.ext {H H' : AH} {id : Nat} {x : AObj} (h : At H id x) (hE : AH.Ext H H') : At H' id x := ⟨Nat.lt_of_lt_of_le h.1 hE.1, (hE.2 id h.1).trans h.2⟩
theorem At.push {H : AH} {id : Nat} {x : AObj} (h : At H id x) (y : AObj) : At (H.push y) id x := h.ext (AH.Ext.push H y)
theorem At.set_ne {H : AH} {id i : Nat} {x : AObj} (h : At H id x) (hne : id ≠ i) (y : AObj) : At (H.set i y) id x := ⟨h.1, (AH.set_ne H y hne).trans h.2⟩
theorem At.set {H : AH} {id : Nat} {x : AObj} (h : At H id x) (y : AObj) : At (H.set id y) id y := ⟨h.1, AH.set_self H id y⟩
theorem At.load {H : AH} {id : Nat} {cs : List AV} (h : At H id (.row cs)) (n o : Nat) (agg : Bool) : aload H n agg (.ptr id o) = takeCells cs o n agg := by simp [aload, h.2]
theorem At.store {H : AH} {id : Nat} {cs : List AV} (h : At H id (.row cs)) (n o : Nat) (v : AV) : astore H n (.ptr id o) v = if v.known ∧ v.cells.length = n ∧ v.cells.all AV.scalar ∧ o + n ≤ cs.length then some (H.set id (.row (setCells cs o v.cells))) else none := by simp [astore, h.2]
end Rb

namespace Rb
open Go
@[simp] theorem Gd3_true (b : Bool) (A B C : Prop) : Gd3 (.bool b) true A B C ↔ if b = true then A else B := Iff.rfl
@[simp] theorem Gd3_false (b : Bool) (A B C : Prop) : Gd3 (.bool b) false A B C ↔ if b = false then A else B := Iff.rfl
@[simp] theorem Gd3_tup (want : Bool) (A B C : Prop) : Gd3 (.tup []) want A B C ↔ C := Iff.rfl
theorem drop_nil_le {α : Type} {xs : List α} {i : Nat} (h : xs.drop i = []) : xs.length ≤ i := by simpa using h
theorem drop_cons_lt {α : Type} {xs ys : List α} {i : Nat} {y : α} (h : xs.drop i = y :: ys) : i < xs.length ∧ xs[i]? = some y ∧ xs.drop (i + 1) = ys := by
 have hlt : i < xs.length := by
  rcases Nat.lt_or_ge i xs.length with h' | h'
  · exact h'
  · rw [List.drop_eq_nil_of_le h'] at h; cases h
 refine ⟨hlt, ?_, ?_⟩
 · have := congrArg (fun l => l[0]?) h
   simpa using this
 · have := congrArg List.tail h
   simpa using this
end Rb

namespace Rb
open Go
section
variable {α : Type} {cells : α → List AV} {sz : Nat}
theorem flatMap_drop (hc : ∀ x, (cells x).length = sz) : ∀ (xs : List α) (i : Nat), (xs.flatMap cells).drop (i * sz) = (xs.drop i).flatMap cells := by
 intro xs i
 induction i generalizing xs with
 | zero => simp
 | succ i ih =>
  cases xs with
  | nil => simp
  | cons x xs =>
   rw [List.flatMap_cons, List.drop_succ_cons, ← ih]
   rw [show (i + 1) * sz = (cells x).length + i * sz by rw [hc, Nat.add_mul, Nat.one_mul, Nat.add_comm], ← List.drop_drop, List.drop_left]
theorem flatMap_len (hc : ∀ x, (cells x).length = sz) (xs : List α) : (xs.flatMap cells).length = xs.length * sz := by
 induction xs with
 | nil => simp
 | cons x xs ih => rw [List.flatMap_cons, List.length_append, ih, hc, List.length_cons, Nat.add_mul]; omega
def elA (cells : α → List AV) (sz : Nat) (xs : List α) (i : Nat) : AV := .fptr ((xs.flatMap cells).drop (i * sz))
theorem lstA_addr {xs : List α} {i : Nat} (hi : i < xs.length) : aiaddr none sz (lstA cells xs) (.int .i64 i) = some (elA cells sz xs i) := by
 simp only [lstA, aiaddr]
 rw [if_pos ⟨by omega, by omega⟩]; rfl
end
end Rb

namespace Rb
open Go
theorem frozs_app (a b : List AV) : AV.frozs (a ++ b) = (AV.frozs a && AV.frozs b) := by
 rw [frozs_all, frozs_all, frozs_all, List.all_append]
mutual
theorem GType.froz : ∀ x : GType, AV.frozs x.cells = true
 | .mk kind size packed fields count elem => by
  simp only [GType.cells, AV.frozs, AV.froz, Tok.free, GField.allFroz fields, GType.allFroz elem, Bool.and_self]
theorem GType.allFroz : ∀ xs : List GType, AV.frozs (GType.all xs) = true
 | [] => rfl
 | x :: r => by rw [GType.all, frozs_app, GType.froz x, GType.allFroz r]; rfl
theorem GField.froz : ∀ x : GField, AV.frozs x.cells = true
 | .mk name type bits width => by
  simp only [GField.cells, AV.frozs, AV.froz, frozs_app, GType.froz type, Bool.and_self]
theorem GField.allFroz : ∀ xs : List GField, AV.frozs (GField.all xs) = true
 | [] => rfl
 | x :: r => by rw [GField.all, frozs_app, GField.froz x, GField.allFroz r]; rfl
end
mutual
theorem GExpr.froz : ∀ x : GExpr, AV.frozs x.cells = true
 | .mk kind n name op order place kids => by
  simp only [GExpr.cells, AV.frozs, AV.froz, frozs_app, Tok.free, GPlace.froz place, GExpr.allFroz kids, Bool.and_self]
theorem GExpr.allFroz : ∀ xs : List GExpr, AV.frozs (GExpr.all xs) = true
 | [] => rfl
 | x :: r => by rw [GExpr.all, frozs_app, GExpr.froz x, GExpr.allFroz r]; rfl
theorem GPlace.froz : ∀ x : GPlace, AV.frozs x.cells = true
 | .mk var parts => by simp only [GPlace.cells, AV.frozs, AV.froz, Tok.free, GPart.allFroz parts, Bool.and_self]
theorem GPart.froz : ∀ x : GPart, AV.frozs x.cells = true
 | .mk field index => by simp only [GPart.cells, AV.frozs, AV.froz, Tok.free, GExpr.allFroz index, Bool.and_self]
theorem GPart.allFroz : ∀ xs : List GPart, AV.frozs (GPart.all xs) = true
 | [] => rfl
 | x :: r => by rw [GPart.all, frozs_app, GPart.froz x, GPart.allFroz r]; rfl
end
theorem lstA_froz {α : Type} {cells : α → List AV} (h : ∀ x, AV.frozs (cells x) = true) (xs : List α) : (lstA cells xs).froz = true := by
 have : AV.frozs (xs.flatMap cells) = true := by
  induction xs with
  | nil => rfl
  | cons x xs ih => rw [List.flatMap_cons, frozs_app, h, ih]; rfl
 simp only [lstA, AV.froz, Tok.free, this, Bool.and_self]
theorem GVar.froz (x : GVar) : AV.frozs x.cells = true := by simp only [GVar.cells, AV.frozs, AV.froz, GType.froz, Bool.and_self]
mutual
theorem GStmt.froz : ∀ x : GStmt, AV.frozs x.cells = true
 | .mk kind line name name2 order place exprs thn els => by
  simp only [GStmt.cells, AV.frozs, AV.froz, frozs_app, Tok.free, GPlace.froz place, lstA_froz GExpr.froz exprs, GStmt.allFroz thn, GStmt.allFroz els, Bool.and_self]
theorem GStmt.allFroz : ∀ xs : List GStmt, AV.frozs (GStmt.all xs) = true
 | [] => rfl
 | x :: r => by rw [GStmt.all, frozs_app, GStmt.froz x, GStmt.allFroz r]; rfl
end
theorem thr_froz (l : List GStmt) : AV.frozs (thrCells l) = true := by simp only [thrCells, AV.frozs, lstA_froz GStmt.froz, Bool.and_self]
theorem GProg.froz (x : GProg) : AV.frozs x.cells = true := by simp only [GProg.cells, AV.frozs, lstA_froz GVar.froz, lstA_froz thr_froz, Bool.and_self]
end Rb

namespace Rb
open Go
@[simp] theorem AH.push_set (H : AH) (x y : AObj) : (H.push x).set H.n y = H.push y := by
 simp only [AH.push, AH.set]
 congr 1
 funext j
 split <;> rfl
@[simp] theorem load_push (H : AH) (cs : List AV) (n o : Nat) (agg : Bool) : aload (H.push (.row cs)) n agg (.ptr H.n o) = takeCells cs o n agg := by
 simp [aload, AH.push_self]
mutual
theorem GType.scalar : ∀ x : GType, x.cells.all AV.scalar = true
 | .mk kind size packed fields count elem => by simp [GType.cells, AV.scalar]
theorem GField.scalar : ∀ x : GField, x.cells.all AV.scalar = true
 | .mk name type bits width => by simp only [GField.cells, List.all_cons, List.all_append, GType.scalar type]; rfl
end
theorem GPlace.scalar (x : GPlace) : x.cells.all AV.scalar = true := by rw [GPlace.cells_eq]; rfl
theorem GPart.scalar (x : GPart) : x.cells.all AV.scalar = true := by rw [GPart.cells_eq]; rfl
theorem GExpr.scalar (x : GExpr) : x.cells.all AV.scalar = true := by rw [GExpr.cells_eq]; simp only [List.all_cons, List.all_append, GPlace.scalar]; rfl
theorem GStmt.scalar (x : GStmt) : x.cells.all AV.scalar = true := by rw [GStmt.cells_eq]; simp only [List.all_cons, List.all_append, GPlace.scalar]; rfl
theorem GVar.scalar (x : GVar) : x.cells.all AV.scalar = true := by simp only [GVar.cells, List.all_cons, GType.scalar]; rfl
end Rb

namespace Rb
open Go
def i1 (k : IntKind) (z : Int) : List AV := [.int k z]
theorem i1_len (k : IntKind) (z : Int) : (i1 k z).length = 1 := rfl
section
variable {α : Type} {c : α → AV}
theorem one_load (H : AH) {xs : List α} {i : Nat} {x : α} (hx : xs[i]? = some x) : aload H 1 false (elA (fun x => [c x]) 1 xs i) = some (c x) := by
 have hlt := (List.getElem?_eq_some_iff.1 hx).1
 have hd : xs.drop i = x :: xs.drop (i + 1) := by
  rw [List.drop_eq_getElem_cons hlt]
  rw [List.getElem?_eq_getElem hlt] at hx
  simp at hx
  rw [hx]
 show takeCells ((xs.flatMap fun x => [c x]).drop (i * 1)) 0 1 false = _
 rw [flatMap_drop (sz := 1) (fun _ => rfl), hd, List.flatMap_cons]
 rfl
end
theorem num_load {k : IntKind} (H : AH) {xs : List Int} {i : Nat} {x : Int} (hx : xs[i]? = some x) : aload H 1 false (elA (i1 k) 1 xs i) = some (.int k x) := one_load H hx
theorem lstA_len' {α : Type} (cells : α → List AV) (xs : List α) : alen false (lstA cells xs) = some (.int .i64 xs.length) := rfl
theorem bytes_str {H : AH} : ∀ {xs : List Int}, (∀ x ∈ xs, 0 ≤ x ∧ x ≤ 255) → abstr H (lstA (i1 .u8) xs) = some (.str (xs.map fun x => UInt8.ofNat x.toNat)) := by
 intro xs hx
 have h1 : ∀ ys : List Int, cellBytes (ys.flatMap (i1 .u8)) = some (ys.map fun x => UInt8.ofNat x.toNat) := by
  intro ys
  induction ys with
  | nil => rfl
  | cons y ys ih =>
   rw [List.flatMap_cons]
   show cellBytes (.int .u8 y :: ys.flatMap (i1 .u8)) = _
   unfold cellBytes
   rw [ih]; rfl
 simp only [abstr, lstA, acells]
 rw [if_pos (by rw [flatMap_len (i1_len _)])]
 simp only [h1, Option.map_some]
end Rb

namespace Rb
open Go Go.RowKit
theorem cell_lt {w : World} {b o : Nat} {V : Value} (h : w.cell? ⟨b, o, none⟩ = some V) : b < w.heap.size := by
 unfold World.cell? at h
 split at h
 · rename_i hb
   exact (Array.getElem?_eq_some_iff.1 hb).1
 · cases h
theorem gle_below {w w' : World} {G : Ghost} (hb : Below w.heap.size w w') : GLe w G w' G :=
 ⟨Nat.le_refl _, fun _ _ => rfl, fun _ _ => rfl, fun _ _ h => h, fun b o V _ hc => by rw [hb.cell (p := ⟨b, o, none⟩) (cell_lt hc)]; exact hc⟩
theorem obj_below {F : FTab} {w w' : World} {G : Ghost} (hb : Below w.heap.size w w') {i : Nat} {x : AObj} (h : ObjR F w G i x) : ObjR F w' G i x := by
 have hg := gle_below (G := G) hb
 cases x with
 | row cs =>
  obtain ⟨c, e, h1, h2, h3, h4⟩ := h
  refine ⟨c, e, by rw [hb.block _ (Array.getElem?_eq_some_iff.1 h1).1]; exact h1, h2, h3, fun j c hj => ?_⟩
  obtain ⟨V, h5, h6⟩ := h4 j c hj
  exact ⟨V, h5, h6.mono hg⟩
 | tok k sz =>
  obtain ⟨c, e, h1, h2, h3, h4⟩ := h
  exact ⟨c, e, by rw [hb.block _ (Array.getElem?_eq_some_iff.1 h1).1]; exact h1, h2, h3, h4⟩
 | map es =>
  obtain ⟨c, e, h1, h2, h3, h4⟩ := h
  refine ⟨c, e, by rw [hb.block _ (Array.getElem?_eq_some_iff.1 h1).1]; exact h1, h2, h3, fun j k v hj => ?_⟩
  obtain ⟨m, h5, h6, h7⟩ := h4 j k v hj
  exact ⟨m, h5, h6.mono hg, h7.mono hg⟩
 | siter s pos =>
  obtain ⟨h1, h2⟩ := h
  exact ⟨by rw [hb.block _ (Array.getElem?_eq_some_iff.1 h1).1]; exact h1, h2⟩
 | bld T u b =>
  obtain ⟨v, h1, h2⟩ := h
  exact ⟨v, by rw [hb.block _ (Array.getElem?_eq_some_iff.1 h1).1]; exact h1, h2⟩
 | buf U bs =>
  obtain ⟨c, z, h1, h2⟩ := h
  exact ⟨c, z, by rw [hb.block _ (Array.getElem?_eq_some_iff.1 h1).1]; exact h1, h2⟩
 | gone => trivial
theorem obj_lt {F : FTab} {w : World} {G : Ghost} {i : Nat} {x : AObj} (h : ObjR F w G i x) (hl : x.live = true) : G.loc i < w.heap.size := by
 cases x with
 | row cs => obtain ⟨c, e, h1, _⟩ := h; exact (Array.getElem?_eq_some_iff.1 h1).1
 | tok k sz => obtain ⟨c, e, h1, _⟩ := h; exact (Array.getElem?_eq_some_iff.1 h1).1
 | map es => obtain ⟨c, e, h1, _⟩ := h; exact (Array.getElem?_eq_some_iff.1 h1).1
 | siter s pos => exact (Array.getElem?_eq_some_iff.1 h.1).1
 | bld T u b => obtain ⟨v, h1, _⟩ := h; exact (Array.getElem?_eq_some_iff.1 h1).1
 | buf U bs => obtain ⟨c, z, h1, _⟩ := h; exact (Array.getElem?_eq_some_iff.1 h1).1
 | gone => cases hl
theorem rel_below {F : FTab} {w w' : World} {G : Ghost} {H : AH} (hb : Below w.heap.size w w') (h : Rel F w G H) : Rel F w' G H :=
 ⟨h.n, h.over, fun i => obj_below hb (h.obj i), h.dist, fun b o hf => by
   obtain ⟨V, hV⟩ := h.fzc b o hf
   exact ⟨V, by rw [hb.cell (p := ⟨b, o, none⟩) (cell_lt hV)]; exact hV⟩⟩
theorem step_below {F : FTab} {w w' : World} {G : Ghost} {H : AH} (hb : Below w.heap.size w w') (h : Rel F w G H) : Step w G H w' G H :=
 { gle_below hb with
   size := hb.size
   os := hb.os
   tape := hb.tape
   output := hb.output
   old := fun k hk _ => hb.block k hk
   owned := fun i hl _ => ⟨i, hl, rfl⟩
   fznew := fun _ _ hf => .inl hf }
end Rb

namespace Rb
open Go Go.RowKit
def AH.setO (H : AH) : Option Nat → AH
 | none => H
 | some j => H.set j .gone
def bytesV (bs : List UInt8) : List Value := bs.map fun b => Value.int .u8 b.toNat
theorem bytesV_len (bs : List UInt8) : (bytesV bs).length = bs.length := List.length_map ..
def BldAt (T U : TypeId) (H : AH) (id : Nat) (bs : List UInt8) : Prop :=
 id < H.n ∧ ((∃ u, H.o id = .bld T u none ∧ bs = []) ∨ ∃ j, H.o id = .bld T true (some (j, bs.length)) ∧ H.o j = .buf U bs ∧ j < H.n ∧ bs ≠ [])
def bufOf (H : AH) (id : Nat) : Option Nat := match H.o id with | .bld _ _ (some (j, _)) => some j | _ => none
def notbuf (x : AObj) : Prop := ∀ U bs, x ≠ .buf U bs
def KeepB (H : AH) (id : Nat) (H' : AH) : Prop := H.n ≤ H'.n ∧ ∀ i, i < H.n → i ≠ id → notbuf (H.o i) → H'.o i = H.o i
theorem KeepB.refl (H : AH) (id : Nat) : KeepB H id H := ⟨Nat.le_refl _, fun _ _ _ _ => rfl⟩
theorem KeepB.trans {H1 H2 H3 : AH} {id : Nat} (h : KeepB H1 id H2) (k : KeepB H2 id H3) : KeepB H1 id H3 :=
 ⟨Nat.le_trans h.1 k.1, fun i hi hne hb => by rw [k.2 i (Nat.lt_of_lt_of_le hi h.1) hne (by rw [h.2 i hi hne hb]; exact hb), h.2 i hi hne hb]⟩
structure Wrote (w w' : World) (T U : TypeId) (b : Nat) (old : Option Nat) (bs : List UInt8) : Prop where
 size : w.heap.size ≤ w'.heap.size
 os : w'.os = w.os
 tape : w'.tape = w.tape
 output : w'.output = w.output
 cell : ∃ v, w'.heap[b]? = some (.cells #[.pointer (some ⟨b, 0, none⟩), v] T (0, 0)) ∧ w'.ownsRowF 0 U 1 v bs.length (bytesV bs) ∧ (∀ g, v.ownBlock = some g → old = some g ∨ w.heap.size ≤ g) ∧ (bs = [] → v.ownBlock = none)
 kept : ∀ k, k < w.heap.size → k ≠ b → old ≠ some k → w'.heap[k]? = w.heap[k]?
section
variable {F : FTab} {w w' : World} {G : Ghost} {H : AH} {T U : TypeId} {id : Nat} {bs bs' : List UInt8}
theorem BldAt.rel (hrel : Rel F w G H) (hb : BldAt T U H id bs) : ∃ p v, (p = .pointer none ∨ p = .pointer (some ⟨G.loc id, 0, none⟩)) ∧ (bs ≠ [] → p = .pointer (some ⟨G.loc id, 0, none⟩)) ∧ w.heap[G.loc id]? = some (.cells #[p, v] T (0, 0)) ∧ w.ownsRowF 0 U 1 v bs.length (bytesV bs) ∧
  v.ownBlock ≠ some (G.loc id) ∧ v.ownBlock = (bufOf H id).map G.loc := by
 obtain ⟨hid, hb⟩ := hb
 have ho := hrel.obj id
 rcases hb with ⟨u, h1, rfl⟩ | ⟨j, h1, h2, hj, hne0⟩
 · rw [h1] at ho
   obtain ⟨v, hc, hz, hv⟩ := ho
   rcases hv with ⟨_, rfl⟩ | ⟨j, n, h, _⟩
   · refine ⟨_, _, ?_, fun h => absurd rfl h, hc, World.ownsRowF_nil _ _ _ _, by simp [Value.ownBlock], by simp [Value.ownBlock, bufOf, h1]⟩
     cases u
     · left; rfl
     · right; rfl
   · cases h
 · rw [h1] at ho
   obtain ⟨v, hc, hz, hv⟩ := ho
   rcases hv with ⟨h, _⟩ | ⟨j', n, h, hj', rfl⟩
   · cases h
   · cases h
     have hq := hrel.obj j
     rw [h2] at hq
     obtain ⟨C, z, q1, q2, q3, q4, q5, q6, q7⟩ := hq
     have hne : j ≠ id := by intro e; subst e; rw [h1] at h2; cases h2
     have hd := hrel.dist j id hne (by rw [h2]; rfl) (by rw [h1]; rfl)
     refine ⟨_, _, .inr rfl, fun _ => rfl, hc, ⟨by rw [bytesV_len, Nat.mul_one], .inr ⟨G.loc j, G.cap j, C, z, rfl, Nat.zero_le _, q1, by omega, q4, q5, by omega, by rw [Nat.mul_one]; exact q7⟩⟩, by simp only [Value.ownBlock]; intro e; exact hd (Option.some.inj e), by simp [Value.ownBlock, bufOf, h1]⟩
def wroteH (H : AH) (id : Nat) (T U : TypeId) (bs : List UInt8) : AH := ((H.setO (bufOf H id)).set id (.bld T true (some (H.n, bs.length)))).push (.buf U bs)
def wroteN (H : AH) (id : Nat) (T : TypeId) : AH := (H.setO (bufOf H id)).set id (.bld T true none)
theorem setO_n (H : AH) (o : Option Nat) : (H.setO o).n = H.n := by cases o <;> rfl
theorem buf_live (hb : BldAt T U H id bs) {j : Nat} (hj : bufOf H id = some j) : j < H.n ∧ j ≠ id ∧ ∃ bs, H.o j = .buf U bs := by
 obtain ⟨hid, hb⟩ := hb
 rcases hb with ⟨u, h1, rfl⟩ | ⟨j', h1, h2, hj', _⟩
 · simp [bufOf, h1] at hj
 · simp [bufOf, h1] at hj
   subst hj
   refine ⟨hj', ?_, bs, h2⟩
   intro e; subst e; rw [h1] at h2; cases h2
theorem setO_other (H : AH) (id : Nat) {i : Nat} (hi : i ≠ id) (hj : bufOf H id ≠ some i) (x : AObj) : ((H.setO (bufOf H id)).set id x).o i = H.o i := by
 show (if i = id then x else (H.setO (bufOf H id)).o i) = _
 rw [if_neg hi]
 cases hb : bufOf H id with
 | none => rfl
 | some j =>
  show (if i = j then .gone else H.o i) = _
  rw [if_neg (by intro e; subst e; exact hj hb)]
theorem wroteH_bld (hb : BldAt T U H id bs) (bs' : List UInt8) (hne0 : bs' ≠ []) : BldAt T U (wroteH H id T U bs') id bs' ∧ KeepB H id (wroteH H id T U bs') := by
 have hn : (wroteH H id T U bs').n = H.n + 1 := by show (H.setO _).n + 1 = _; rw [setO_n]
 have hm : ((H.setO (bufOf H id)).set id (.bld T true (some (H.n, bs'.length)))).n = H.n := setO_n _ _
 refine ⟨⟨by rw [hn]; have := hb.1; omega, .inr ⟨H.n, ?_, ?_, by rw [hn]; omega, hne0⟩⟩, by rw [hn]; omega, fun i hi hne hnb => ?_⟩
 · show (if id = _ then _ else _) = _
   rw [hm, if_neg (by have := hb.1; omega)]
   show (if id = id then _ else _) = _
   rw [if_pos rfl]
 · show (if H.n = _ then _ else _) = _
   rw [hm, if_pos rfl]
 · show (if i = _ then _ else _) = _
   rw [hm, if_neg (by omega)]
   refine setO_other H id hne (fun e => ?_) _
   obtain ⟨_, _, bs0, h⟩ := buf_live hb e
   exact hnb _ _ h
theorem wroteN_bld (hb : BldAt T U H id bs) : BldAt T U (wroteN H id T) id [] ∧ KeepB H id (wroteN H id T) := by
 have hn : (wroteN H id T).n = H.n := setO_n _ _
 refine ⟨⟨by rw [hn]; exact hb.1, .inl ⟨true, ?_, rfl⟩⟩, by rw [hn]; omega, fun i hi hne hnb => ?_⟩
 · show (if id = id then _ else _) = _
   rw [if_pos rfl]
 · refine setO_other H id hne (fun e => ?_) _
   obtain ⟨_, _, bs0, h⟩ := buf_live hb e
   exact hnb _ _ h
def wroteX (H : AH) (id : Nat) (T U : TypeId) (bs : List UInt8) : AH := if bs = [] then wroteN H id T else wroteH H id T U bs
theorem wroteX_bld (hb : BldAt T U H id bs) (bs' : List UInt8) : BldAt T U (wroteX H id T U bs') id bs' ∧ KeepB H id (wroteX H id T U bs') := by
 unfold wroteX
 split
 · rename_i h; subst h; exact wroteN_bld hb
 · rename_i h; exact wroteH_bld hb bs' h
theorem wrote_relX (hrel : Rel F w G H) (hb : BldAt T U H id bs) (hw : Wrote w w' T U (G.loc id) ((bufOf H id).map G.loc) bs') :
  ∃ G', Rel F w' G' (wroteX H id T U bs') ∧ Step w G H w' G' (wroteX H id T U bs') := by
 have hn := hrel.n
 have hidn := hb.1
 have hidl : (H.o id).live = true := by rcases hb.2 with ⟨u, h1, _⟩ | ⟨j, h1, _⟩ <;> rw [h1] <;> rfl
 have hidz : ∀ j, ¬ G.fz (G.loc id) j := by
  have ho := hrel.obj id
  rcases hb.2 with ⟨u, h1, _⟩ | ⟨j, h1, _⟩ <;> (rw [h1] at ho; obtain ⟨_, _, hz, _⟩ := ho; exact hz)
 have hbz : ∀ j, bufOf H id = some j → ∀ k, ¬ G.fz (G.loc j) k := by
  intro j hj
  obtain ⟨_, _, bs0, h⟩ := buf_live hb hj
  have ho := hrel.obj j
  rw [h] at ho
  obtain ⟨_, _, _, _, _, _, _, hz, _⟩ := ho
  exact hz
 have hcell : ∀ b o V, G.fz b o → w.cell? ⟨b, o, none⟩ = some V → w'.cell? ⟨b, o, none⟩ = some V := by
  intro b o V hf hc
  have hlt := cell_lt hc
  have h1 : w'.heap[b]? = w.heap[b]? := hw.kept b hlt (fun e => by subst e; exact hidz o hf) (fun e => by
    obtain ⟨j, hj, rfl⟩ := Option.map_eq_some_iff.1 e
    exact hbz j hj o hf)
  unfold World.cell? at hc ⊢
  simp only [h1]
  exact hc
 have hkeep : ∀ i, (H.o i).live = true → i ≠ id → bufOf H id ≠ some i → w'.heap[G.loc i]? = w.heap[G.loc i]? := by
  intro i hl hne hnb
  refine hw.kept _ (obj_lt (hrel.obj i) hl) (hrel.dist i id hne hl hidl) (fun e => ?_)
  obtain ⟨j, hj, he⟩ := Option.map_eq_some_iff.1 e
  obtain ⟨_, _, bs0, h⟩ := buf_live hb hj
  exact hrel.dist j i (fun e => hnb (by rw [← e]; exact hj)) (by rw [h]; rfl) hl he
 obtain ⟨v, hcv, hown, hfrom, hnil⟩ := hw.cell
 rcases hown.2 with ⟨rfl, h0⟩ | ⟨g, cap, C, z, rfl, _, hg, hz, hnc, hcm, hcs, htake⟩
 ·
   have h0' : bs' = [] := List.eq_nil_of_length_eq_zero h0
   subst h0'
   have hg : GLe w G w' G := ⟨Nat.le_refl _, fun _ _ => rfl, fun _ _ => rfl, fun _ _ h => h, fun b o V hf hc => hcell b o V hf hc⟩
   have hNn : (wroteN H id T).n = H.n := setO_n _ _
   have hoid : (wroteN H id T).o id = .bld T true none := by show (if id = id then _ else _) = _; rw [if_pos rfl]
   have hobuf : ∀ j, bufOf H id = some j → (wroteN H id T).o j = .gone := by
    intro j hj
    obtain ⟨_, hne, _⟩ := buf_live hb hj
    show (if j = id then _ else _) = _
    rw [if_neg hne, hj]
    show (if j = j then _ else _) = _
    rw [if_pos rfl]
   have hoth : ∀ i, i ≠ id → bufOf H id ≠ some i → (wroteN H id T).o i = H.o i := fun i h1 h2 => setO_other H id h1 h2 _
   have hlive : ∀ i, ((wroteN H id T).o i).live = true → (H.o i).live = true ∧ bufOf H id ≠ some i := by
    intro i hl
    by_cases hi : i = id
    · subst hi
      exact ⟨hidl, fun e => (buf_live hb e).2.1 rfl⟩
    · by_cases hj : bufOf H id = some i
      · rw [hobuf i hj] at hl; cases hl
      · rw [hoth i hi hj] at hl; exact ⟨hl, hj⟩
   rw [show wroteX H id T U [] = wroteN H id T from if_pos rfl]
   refine ⟨G, ⟨by rw [hNn]; exact hn, fun i hi => ?_, fun i => ?_, fun i k hik h1 h2 => hrel.dist i k hik (hlive i h1).1 (hlive k h2).1, fun b o hf => ?_⟩, ?_⟩
   · rw [hNn] at hi
     rw [hoth i (by omega) (fun e => by have := (buf_live hb e).1; omega)]
     exact hrel.over i hi
   · by_cases hi : i = id
     · subst hi
       rw [hoid]
       exact ⟨_, hcv, hidz, .inl ⟨rfl, rfl⟩⟩
     · by_cases hj : bufOf H id = some i
       · rw [hobuf i hj]; trivial
       · rw [hoth i hi hj]
         exact (hrel.obj i).keep hg (fun hl => hrel.idlt hl) (fun hl => hkeep i hl hi hj) (fun _ _ h => h)
   · obtain ⟨V, hV⟩ := hrel.fzc b o hf
     exact ⟨V, hcell b o V hf hV⟩
   · exact { hg with
       size := hw.size, os := hw.os, tape := hw.tape, output := hw.output
       old := fun k hk hk2 => hw.kept k hk (fun e => hk2 id hidl e.symm) (fun e => by
         obtain ⟨j, hj, he⟩ := Option.map_eq_some_iff.1 e
         obtain ⟨_, _, bs0, h⟩ := buf_live hb hj
         exact hk2 j (by rw [h]; rfl) he)
       owned := fun i hl _ => ⟨i, (hlive i hl).1, rfl⟩
       fznew := fun _ _ hf => .inl hf }
 ·
   have hfr := hfrom g rfl
   have hne0 : bs' ≠ [] := fun e => by have := hnil e; simp [Value.ownBlock] at this
   have hglt : g < w'.heap.size := (Array.getElem?_eq_some_iff.1 hg).1
   have hgz : ∀ k, ¬ G.fz g k := by
    intro k hf
    rcases hfr with e | hge
    · obtain ⟨j, hj, he⟩ := Option.map_eq_some_iff.1 e
      rw [← he] at hf
      exact hbz j hj k hf
    · obtain ⟨V, hV⟩ := hrel.fzc g k hf
      have := cell_lt hV
      omega
   have hGn : (G.more g cap).n = G.n + 1 := rfl
   have hloc : ∀ i, i ≠ H.n → (G.more g cap).loc i = G.loc i := fun i hi => if_neg (show ¬ i = G.n by omega)
   have hcap : ∀ i, i ≠ H.n → (G.more g cap).cap i = G.cap i := fun i hi => if_neg (show ¬ i = G.n by omega)
   have hlocn : (G.more g cap).loc H.n = g := if_pos hn.symm
   have hcapn : (G.more g cap).cap H.n = cap := if_pos hn.symm
   have hle : GLe w G w' (G.more g cap) := ⟨Nat.le_succ _, fun i hi => if_neg (Nat.ne_of_lt hi), fun i hi => if_neg (Nat.ne_of_lt hi), fun _ _ h => h, fun b o V hf hc => hcell b o V hf hc⟩
   have hm : ((H.setO (bufOf H id)).set id (.bld T true (some (H.n, bs'.length)))).n = H.n := setO_n _ _
   have hNn : (wroteH H id T U bs').n = H.n + 1 := by show (H.setO _).n + 1 = _; rw [setO_n]
   have hon : (wroteH H id T U bs').o H.n = .buf U bs' := by show (if H.n = _ then _ else _) = _; rw [hm, if_pos rfl]
   have hoid : (wroteH H id T U bs').o id = .bld T true (some (H.n, bs'.length)) := by
    show (if id = _ then _ else _) = _
    rw [hm, if_neg (by omega)]
    show (if id = id then _ else _) = _
    rw [if_pos rfl]
   have hobuf : ∀ j, bufOf H id = some j → (wroteH H id T U bs').o j = .gone := by
    intro j hj
    obtain ⟨hlt, hne, _⟩ := buf_live hb hj
    show (if j = _ then _ else _) = _
    rw [hm, if_neg (by omega)]
    show (if j = id then _ else _) = _
    rw [if_neg hne, hj]
    show (if j = j then _ else _) = _
    rw [if_pos rfl]
   have hoth : ∀ i, i ≠ id → i ≠ H.n → bufOf H id ≠ some i → (wroteH H id T U bs').o i = H.o i := fun i h1 h2 h3 => by
    show (if i = _ then _ else _) = _
    rw [hm, if_neg h2]
    exact setO_other H id h1 h3 _
   have hlive : ∀ i, i ≠ H.n → ((wroteH H id T U bs').o i).live = true → (H.o i).live = true ∧ bufOf H id ≠ some i := by
    intro i hin hl
    by_cases hi : i = id
    · subst hi
      exact ⟨hidl, fun e => (buf_live hb e).2.1 rfl⟩
    · by_cases hj : bufOf H id = some i
      · rw [hobuf i hj] at hl; cases hl
      · rw [hoth i hi hin hj] at hl; exact ⟨hl, hj⟩
   have hgd : ∀ i, i ≠ H.n → ((wroteH H id T U bs').o i).live = true → G.loc i ≠ g := by
    intro i hin hl e
    obtain ⟨h1, h2⟩ := hlive i hin hl
    rcases hfr with e' | hge
    · obtain ⟨j, hj, he⟩ := Option.map_eq_some_iff.1 e'
      obtain ⟨_, _, bs0, h⟩ := buf_live hb hj
      exact hrel.dist j i (fun e => h2 (by rw [← e]; exact hj)) (by rw [h]; rfl) h1 (he.trans e.symm)
    · have := obj_lt (hrel.obj i) h1
      omega
   rw [show wroteX H id T U bs' = wroteH H id T U bs' from if_neg hne0]
   refine ⟨G.more g cap, ⟨by rw [hNn, hGn, hn], fun i hi => ?_, fun i => ?_, fun i k hik h1 h2 => ?_, fun b o hf => ?_⟩, ?_⟩
   · rw [hNn] at hi
     rw [hoth i (by omega) (by omega) (fun e => by have := (buf_live hb e).1; omega)]
     exact hrel.over i (by omega)
   · by_cases hin : i = H.n
     · subst hin
       rw [hon]
       refine ⟨C, z, by rw [hlocn]; exact hg, by rw [hcapn, hcs, Nat.mul_one], by omega, by rw [hcapn]; exact hnc, by rw [hcapn]; exact hcm, by rw [hlocn]; exact hgz, ?_⟩
       rw [Nat.mul_one] at htake
       exact htake
     · by_cases hi : i = id
       · subst hi
         rw [hoid]
         refine ⟨_, by rw [hloc i hin]; exact hcv, by rw [hloc i hin]; exact hidz, .inr ⟨H.n, bs'.length, rfl, by rw [hGn]; omega, by rw [hlocn, hcapn]⟩⟩
       · by_cases hj : bufOf H id = some i
         · rw [hobuf i hj]; trivial
         · rw [hoth i hi hin hj]
           exact (hrel.obj i).keep hle (fun hl => hrel.idlt hl) (fun hl => hkeep i hl hi hj) (fun _ _ h => h)
   · by_cases hin : i = H.n
     · subst hin
       rw [hlocn, hloc k (by omega)]
       exact (hgd k (by omega) h2).symm
     · by_cases hkn : k = H.n
       · subst hkn
         rw [hlocn, hloc i hin]
         exact hgd i hin h1
       · rw [hloc i hin, hloc k hkn]
         exact hrel.dist i k hik (hlive i hin h1).1 (hlive k hkn h2).1
   · obtain ⟨V, hV⟩ := hrel.fzc b o hf
     exact ⟨V, hcell b o V hf hV⟩
   · exact { hle with
       size := hw.size, os := hw.os, tape := hw.tape, output := hw.output
       old := fun k hk hk2 => hw.kept k hk (fun e => hk2 id hidl e.symm) (fun e => by
         obtain ⟨j, hj, he⟩ := Option.map_eq_some_iff.1 e
         obtain ⟨_, _, bs0, h⟩ := buf_live hb hj
         exact hk2 j (by rw [h]; rfl) he)
       owned := fun i hl hlt => by
        by_cases hin : i = H.n
        · subst hin
          rw [hlocn] at hlt ⊢
          rcases hfr with e | hge
          · obtain ⟨j, hj, he⟩ := Option.map_eq_some_iff.1 e
            obtain ⟨_, _, bs0, h⟩ := buf_live hb hj
            exact ⟨j, by rw [h]; rfl, he⟩
          · omega
        · rw [hloc i hin]
          exact ⟨i, (hlive i hin hl).1, rfl⟩
       fznew := fun _ _ hf => .inl hf }
end
end Rb

namespace Rb
open Go Go.RowKit Go.Lib
section
variable {P : Program} (w : World)
theorem run_append_strO (t u ty e : TypeId) (i : TypeInfo) (ht : P.underlying t = some (.slice e)) (hu : P.underlying u = some .string) (hi : P.info? e = some i) (hz : i.zero = some (.int .u8 0))
  (hsize : i.size = 1) (hby : i.bytes = 1) (v : Value) (n : Nat) (xs : List Value) (hown : w.ownsRowF 0 e 1 v n xs) (s : ByteArray) (h47 : s.size ≤ 140737488351232) (hn : n ≤ 8796093022208 ∨ s.size ≤ 8796093022208 ∧ n ≤ 149533581377536) :
  ∃ v' w', (Builtin.append_ #[t, u] ty #[v, .string s]).run P w = .ok v' w' ∧ w'.ownsRowF 0 e 1 v' (n + s.size) (xs ++ strCells s) ∧ w.grownBy w' v.ownBlock ∧ (∀ g, v'.ownBlock = some g → v.ownBlock = some g ∨ w.heap.size ≤ g) ∧ (v.ownBlock = none → s.size = 0 → v'.ownBlock = none) := by
 have htot : n + s.size ≤ 158329674399744 := by omega
 have hwide : ((n + s.size) + (n + s.size) / 4 + 192) * 1 ≤ 281474976710656 := by omega
 rcases hown.2 with ⟨rfl, rfl⟩ | ⟨g, cap, cur, fz, rfl, hbg, hg, hfz, hnc, hcm, hcs, htake⟩
 · obtain ⟨v', w', h1, h2, h3, h4⟩ := run_append_own_string (P := P) w w.heap.size t u ty e i ht hu hi hz hsize hby (.slice none 0 0) 0 xs ⟨hown.1, .inl ⟨rfl, rfl⟩⟩ s (by unfold maxLen; omega) (by omega) (Nat.le_refl _)
   refine ⟨v', w', h1, ?_, h3, fun g hg => .inr (h2.lt g hg).1, fun _ h0 => by rw [h4.2 ⟨rfl, h0⟩]; rfl⟩
   have h5 := World.ownsRowF_of h2
   refine ⟨h5.1, ?_⟩
   rcases h5.2 with hv | ⟨g, cap, cur, fz, hv, _, r⟩
   · exact .inl hv
   · exact .inr ⟨g, cap, cur, fz, hv, Nat.zero_le _, r⟩
 · have hxl : xs.length = n := by simpa using hown.1
   have hlen : (xs ++ strCells s).length = (n + s.size) * 1 := by rw [List.length_append, hxl, strCells_length, Nat.mul_one]
   by_cases hroom : n + s.size ≤ cap
   · have hcs' : cur.size = cap := by simpa using hcs
     have hr := run_append_room_stringF (P := P) w t u ty e i ht hu hi hsize g n cap cur fz hg (by simpa using hfz) s hroom (by omega)
     refine ⟨_, _, hr, ⟨hlen, .inr ⟨g, cap, _, fz, rfl, hbg, setRow_heap w g cur _ e _ hg, by omega, hroom, hcm, ?_, ?_⟩⟩, ⟨rfl, rfl, rfl, by simp, fun k _ hk => setRow_other w g k _ (fun e => hk (by simp [Value.ownBlock, e]))⟩, fun k hk => .inl (by simpa [Value.ownBlock] using hk), fun h => by simp [Value.ownBlock] at h⟩
     · simp only [List.size_toArray, List.length_append, List.length_take, List.length_drop, Array.length_toList, strCells_length]
       omega
     · have ht' : cur.toList.take n = xs := by simpa using htake
       rw [ht', ← hlen]
       exact List.take_left
   · have holds : ∀ j u, xs[j]? = some u → w.cell? ((⟨g, 0, none⟩ : Addr).add j) = some u := hown.cells (g := g) rfl
     have hr := run_append_grow_string (P := P) w t u ty e i (.int .u8 0) ht hu hi hz ⟨g, 0, none⟩ n cap xs (by rw [hsize]; simpa using hxl) holds s (by omega) (by omega) (by rw [hby]; exact growslice_fits_wide (by omega) hwide)
     have hge := grownCap_ge w (n + s.size) cap e
     have hcm2 : grownCap w (n + s.size) cap e ≤ maxLen := grownCap_le_maxLen w (n + s.size) cap e (by unfold maxLen; omega)
     refine ⟨_, _, hr, ⟨hlen, .inr ⟨w.heap.size, _, _, (0, 0), rfl, Nat.zero_le _, heap_alloc_new w.drew _, Nat.zero_le _, hge, hcm2, ?_, ?_⟩⟩, ⟨rfl, rfl, rfl, by simp, fun k hk _ => Go.Lib.alloc_old w.drew _ k hk⟩, fun k hk => .inr (by simp [Value.ownBlock] at hk; omega), fun h => by simp [Value.ownBlock] at h⟩
     · have hz1 : (Value.int IntKind.u8 0).cells.size = 1 := rfl
       simp only [Array.size_append, List.size_toArray, size_zeroCells, hz1, hxl, strCells_length]
       omega
     · simp only [Array.toList_append, List.append_assoc]
       rw [← List.append_assoc, ← hlen]
       exact List.take_left
theorem wpList_append_strO {ops : Array Oper} {rest : List Oper} {o : Oper} {a : Act} {Q : Exit → Act → World → Prop} (hgd : o.guard = none) (sl x : Operand) (t u : TypeId)
  (ho : o.op = .call { callee := .builtin .append, args := #[sl, x], argTypes := #[t, u] })
  (e : TypeId) (i : TypeInfo) (ht : P.underlying t = some (.slice e)) (hu : P.underlying u = some .string) (hi : P.info? e = some i) (hz : i.zero = some (.int .u8 0))
  (hsize : i.size = 1) (hby : i.bytes = 1)
  (v : Value) (n : Nat) (xs : List Value) (hs : a.eval sl = v) (hown : w.ownsRowF 0 e 1 v n xs) (s : ByteArray) (hx : a.eval x = .string s)
  (h47 : s.size ≤ 140737488351232) (hn : n ≤ 8796093022208 ∨ s.size ≤ 8796093022208 ∧ n ≤ 149533581377536)
  (h : ∀ v' w', w'.ownsRowF 0 e 1 v' (n + s.size) (xs ++ strCells s) → w.grownBy w' v.ownBlock → (∀ g, v'.ownBlock = some g → v.ownBlock = some g ∨ w.heap.size ≤ g) → (v.ownBlock = none → s.size = 0 → v'.ownBlock = none) → wpList P ops Q rest (a.put o.dst v') w') : wpList P ops Q (o :: rest) a w := by
 refine wpList_plain hgd fun K hK => ?_
 obtain ⟨v', w', hr, h2, h3, h4, h5⟩ := run_append_strO (P := P) w t u o.type e i ht hu hi hz hsize hby v n xs hown s h47 hn
 unfold Oper.wp execOp
 simp only [ho, resolve, invoke, builtin, Sem.run_bind, Sem.run_pure, Result.andThen_ok, List.map_toArray, List.map_cons, List.map_nil, hs, hx, hr]
 exact hK _ _ (h v' w' h2 h3 h4 h5)
theorem strCells_bytes (s : List UInt8) : strCells ⟨s.toArray⟩ = bytesV s := by
 unfold strCells bytesV
 simp
theorem bytesV_app (a b : List UInt8) : bytesV (a ++ b) = bytesV a ++ bytesV b := List.map_append ..
end
end Rb

namespace Go.Proofs.YtfgpfghpciddmaaGreatDoor.rb
open Rb Go.RowKit
theorem lies71 : liesAt Tryz.prog Tryz.prog.depth 71 (2 / Tryz.prog.cellsOf 71) 0 71 1 = true := by kernel_rfl
theorem sizeB : (Tryz.prog.info? 71).map (·.size) = some 2 := by kernel_rfl
theorem infoU : (Tryz.prog.info? 5).map (fun i => (i.zero, i.size, i.bytes)) = some (some (.int .u8 0), 1, 1) := by kernel_rfl
theorem cellsU1 : Tryz.prog.cellsOf 5 = 1 := by kernel_rfl
set_option maxRecDepth 100000 in
theorem copyCheck_used (b : Nat) (w : World) (h0 : w.cell? ⟨b, 0, none⟩ = some (.pointer (some ⟨b, 0, none⟩))) :
  Calls Tryz.prog 40 #[.pointer (some ⟨b, 0, none⟩)] w fun e w' => e = .returned (.tuple #[]) ∧ w' = w := by
 obtain ⟨j, hj, _⟩ := Option.map_eq_some_iff.1 sizeB
 go_enter Tryz.func40, Tryz.ntmps40
 go_wp2
 rw [Lib.run_neq_ptr_same w _ Tryz.underlying69 hj]
 go_wp2
 go_end0
 exact ⟨rfl, rfl⟩
set_option maxRecDepth 100000 in
theorem copyCheck_fresh (b : Nat) (w : World) (h0 : w.cell? ⟨b, 0, none⟩ = some (.pointer none)) (hsh : w.shape? b = some (71, 2)) (hfz : w.frozen? ⟨b, 0, none⟩ = false) :
  Calls Tryz.prog 40 #[.pointer (some ⟨b, 0, none⟩)] w fun e w' => e = .returned (.tuple #[]) ∧ w' = w.setCell ⟨b, 0, none⟩ (.pointer (some ⟨b, 0, none⟩)) := by
 obtain ⟨j, hj, hjs⟩ := Option.map_eq_some_iff.1 sizeB
 go_enter Tryz.func40, Tryz.ntmps40
 go_wp2
 rw [Lib.run_to_unsafe w ⟨b, 0, none⟩ Tryz.underlying69 Tryz.underlying149 hj (by rw [hjs]; decide) hsh (Nat.zero_lt_succ 1)]
 simp only [Result.andThen]
 rw [Oper.upon_value]
 go_wp2
 rw [run_callFunc_extern Tryz.func67 (by kernel_rfl) (by kernel_rfl) (by kernel_rfl) (e := Extern.AbiNoEscape.same) (by kernel_rfl)]
 rw [Lib.run_noEscape]
 simp only [Result.andThen]
 rw [Oper.upon_value]
 go_wp2
 rw [Lib.run_from_unsafe w ⟨b, 0, none⟩ Tryz.underlying149 Tryz.underlying69 hj hsh lies71]
 simp only [Result.andThen]
 rw [Oper.upon_value]
 go_wp2
 go_end0
 exact ⟨rfl, rfl⟩
theorem copyCheck_calls (b : Nat) (p v : Value) (w : World) (hp : p = .pointer none ∨ p = .pointer (some ⟨b, 0, none⟩)) (hb : w.heap[b]? = some (.cells #[p, v] 71 (0, 0))) :
  Calls Tryz.prog 40 #[.pointer (some ⟨b, 0, none⟩)] w fun e w' => e = .returned (.tuple #[]) ∧ w'.heap[b]? = some (.cells #[.pointer (some ⟨b, 0, none⟩), v] 71 (0, 0)) ∧ w'.os = w.os ∧ w'.tape = w.tape ∧ w'.output = w.output ∧ w'.heap.size = w.heap.size ∧ ∀ k, k ≠ b → w'.heap[k]? = w.heap[k]? := by
 rcases hp with rfl | rfl
 · refine (copyCheck_fresh b w (by rw [Lib.cell_of_heap hb]; rfl) (by simp [World.shape?, hb]) (Lib.frozen_of_heap hb 0)).mono fun e w' ⟨he, hw⟩ => ?_
   subst hw
   refine ⟨he, by simp [World.setCell, Array.getElem?_modify, hb], rfl, rfl, rfl, by simp [World.setCell], fun k hk => Below.heap_setCell _ _ _ _ (fun e => hk e)⟩
 · refine (copyCheck_used b w (by rw [Lib.cell_of_heap hb]; rfl)).mono fun e w' ⟨he, hw⟩ => ?_
   subst hw
   exact ⟨he, hb, rfl, rfl, rfl, rfl, fun _ _ => rfl⟩
set_option maxHeartbeats 2000000 in
set_option maxRecDepth 100000 in
theorem writeString_calls (b : Nat) (p v : Value) (bs : List Value) (s : ByteArray) (w : World) (hp : p = .pointer none ∨ p = .pointer (some ⟨b, 0, none⟩)) (hb : w.heap[b]? = some (.cells #[p, v] 71 (0, 0))) (hown : w.ownsRowF 0 5 1 v bs.length bs) (hne : v.ownBlock ≠ some b)
  (h47 : s.size ≤ 140737488351232) (hn : bs.length ≤ 8796093022208 ∨ s.size ≤ 8796093022208 ∧ bs.length ≤ 149533581377536) :
  Calls Tryz.prog 23 #[.pointer (some ⟨b, 0, none⟩), .string s] w fun e w' => e = .returned (.tuple #[.int .i64 s.size, .nilIface]) ∧
   w.heap.size ≤ w'.heap.size ∧ w'.os = w.os ∧ w'.tape = w.tape ∧ w'.output = w.output ∧
   (∃ v', w'.heap[b]? = some (.cells #[.pointer (some ⟨b, 0, none⟩), v'] 71 (0, 0)) ∧ w'.ownsRowF 0 5 1 v' (bs.length + s.size) (bs ++ Lib.strCells s) ∧ (∀ g, v'.ownBlock = some g → v.ownBlock = some g ∨ w.heap.size ≤ g) ∧ (v.ownBlock = none → s.size = 0 → v'.ownBlock = none)) ∧
   ∀ k, k < w.heap.size → k ≠ b → v.ownBlock ≠ some k → w'.heap[k]? = w.heap[k]? := by
 obtain ⟨i0, hi, hz0, hz1, hz2⟩ := info_parts infoU
 go_enter Tryz.func23, Tryz.ntmps23
 go_wp2_with (refine (copyCheck_calls b p v _ hp hb).mono ?_)
 rintro e w1 ⟨rfl, hbk, ho1, ht1, hu1, hs1, hk1⟩
 have hown1 : w1.ownsRowF 0 5 1 v bs.length bs := by
  refine ⟨hown.1, ?_⟩
  rcases hown.2 with h | ⟨g, cap, cur, fz, hv, h1, h2, h3⟩
  · exact .inl h
  · refine .inr ⟨g, cap, cur, fz, hv, h1, ?_, h3⟩
    rw [hk1 g (fun e => hne (by rw [hv, e]; rfl))]; exact h2
 have c0 : w1.cell? ⟨b, 0, none⟩ = some (.pointer (some ⟨b, 0, none⟩)) := by rw [Lib.cell_of_heap hbk]; rfl
 have c1 : w1.cell? ⟨b, 1, none⟩ = some v := by rw [Lib.cell_of_heap hbk]; rfl
 go_wp2_with (at_builtin; refine Rb.wpList_append_strO _ rfl _ _ 22 9 rfl 5 i0 Tryz.underlying22 Tryz.underlying9 hi hz0 hz1 hz2 _ _ _ rfl hown1 s rfl h47 hn ?_)
 intro v' w2 hown' hgrow hfrom hnil
 have hlt : b < w1.heap.size := (Array.getElem?_eq_some_iff.1 hbk).1
 have hb2 : w2.heap[b]? = some (.cells #[.pointer (some ⟨b, 0, none⟩), v] 71 (0, 0)) := by
  rw [hgrow.block b hlt (fun e => hne e.symm)]
  exact hbk
 have d0 : w2.cell? ⟨b, 0, none⟩ = some (.pointer (some ⟨b, 0, none⟩)) := by rw [Lib.cell_of_heap hb2]; rfl
 have d1 : w2.cell? ⟨b, 1, none⟩ = some v := by rw [Lib.cell_of_heap hb2]; rfl
 have f1 : w2.frozen? ⟨b, 1, none⟩ = false := Lib.frozen_of_heap hb2 1
 have hne' : v'.ownBlock ≠ some b := by
  intro e
  rcases hfrom b e with h | h
  · exact hne h
  · omega
 obtain ⟨ao, n', cap, rfl⟩ : ∃ ao n' cap, v' = .slice ao n' cap := by
  rcases hown'.2 with ⟨hv, _⟩ | ⟨g, cap, cur, fz, hv, _⟩
  · exact ⟨_, _, _, hv⟩
  · exact ⟨_, _, _, hv⟩
 go_wp2
 go_ret2
 refine ⟨rfl, ?_, ?_, ?_, ?_, ⟨_, ?_, ?_, fun g hg => by have := hfrom g hg; first | exact this | (rw [hs1] at this; exact this), fun h1 h2 => hnil h1 (by first | exact h2 | (apply ByteArray.ext; exact Array.eq_empty_of_size_eq_zero h2))⟩, fun k hk hkb hko => ?_⟩
 · have := hgrow.size; simp only [World.setCell, Array.size_modify]; omega
 · exact hgrow.os.trans ho1
 · exact hgrow.tape.trans ht1
 · exact hgrow.output.trans hu1
 · simp [World.setCell, Array.getElem?_modify, hb2]
 · refine hown'.kept (row := some b) ⟨rfl, rfl, rfl, by simp [World.setCell], fun k _ hk => Below.heap_setCell _ _ _ _ (fun e => hk (by simp [e]))⟩ (Or.inr hne')
 · rw [Below.heap_setCell _ _ _ _ (fun e => hkb e), hgrow.block k (by omega) (fun e => hko e.symm), hk1 k hkb]
set_option maxRecDepth 100000 in
theorem len_calls (b : Nat) (p v : Value) (bs : List Value) (w : World) (hb : w.heap[b]? = some (.cells #[p, v] 71 (0, 0))) (hown : w.ownsRowF 0 5 1 v bs.length bs) :
  Calls Tryz.prog 365 #[.pointer (some ⟨b, 0, none⟩)] w fun e w' => e = .returned (.int .i64 bs.length) ∧ w' = w := by
 obtain ⟨ao, cap, rfl⟩ : ∃ ao cap, v = .slice ao bs.length cap := by
  rcases hown.2 with ⟨hv, h0⟩ | ⟨g, cap, cur, fz, hv, _⟩
  · exact ⟨none, 0, by rw [hv, h0]⟩
  · exact ⟨_, _, hv⟩
 have c1 : w.cell? ⟨b, 1, none⟩ = some (.slice ao bs.length cap) := by rw [Lib.cell_of_heap hb]; rfl
 go_enter Tryz.func365, Tryz.ntmps365
 go_wp2
 go_ret
 exact ⟨rfl, rfl⟩
set_option maxHeartbeats 2000000 in
set_option maxRecDepth 100000 in
theorem string_calls (b g cap : Nat) (p : Value) (l : List UInt8) (cur : Array Value) (fz : Nat × Nat) (w : World) (h0 : l ≠ []) (hb : w.heap[b]? = some (.cells #[p, .slice (some ⟨g, 0, none⟩) l.length cap] 71 (0, 0)))
  (hg : w.heap[g]? = some (.cells cur 5 fz)) (hnc : l.length ≤ cap) (hcm : cap ≤ maxLen) (hcs : cur.size = cap) (htake : cur.toList.take l.length = bytesV l) :
  Calls Tryz.prog 24 #[.pointer (some ⟨b, 0, none⟩)] w fun e w' => e = .returned (.string ⟨l.toArray⟩) ∧ w' = w.drew.freeze ⟨g, 0, none⟩ l.length := by
 have hl0 : l.length ≠ 0 := by simpa using h0
 have c1 : w.drew.cell? ⟨b, 1, none⟩ = some (.slice (some ⟨g, 0, none⟩) l.length cap) := by
  have : w.drew.heap[b]? = some (.cells #[p, .slice (some ⟨g, 0, none⟩) l.length cap] 71 (0, 0)) := hb
  rw [Lib.cell_of_heap this]; rfl
 have hSD : (Builtin.unsafeSliceData_ #[22] 111 #[.slice (some ⟨g, 0, none⟩) l.length cap]).run Tryz.prog w.drew = .ok (.pointer (some ⟨g, 0, none⟩)) w.drew :=
  Lib.run_unsafeSliceData_row _ _ _ _ _ _ (by omega)
 have hUS : (Builtin.unsafeString_ #[111, 3] 9 #[.pointer (some ⟨g, 0, none⟩), .int .i64 l.length]).run Tryz.prog w.drew = .ok (.string ⟨l.toArray⟩) (w.drew.freeze ⟨g, 0, none⟩ l.length) := by
  refine Lib.run_unsafeString_row w.drew 111 3 9 5 Tryz.underlying111 cellsU1 g cur.size (by have hg' : w.drew.heap[g]? = some (.cells cur 5 fz) := hg; simp [World.shape?, hg']) l h0 (by omega) (by unfold maxLen at hcm; omega) ?_
  intro j x hx
  have hadd : (⟨g, 0, none⟩ : Addr).add j = ⟨g, j, none⟩ := by unfold Addr.add; split <;> simp_all
  have hg' : w.drew.heap[g]? = some (.cells cur 5 fz) := hg
  rw [hadd, cell_of_row w.drew g j cur 5 fz hg']
  have hj : j < l.length := by
   rcases Nat.lt_or_ge j l.length with h | h
   · exact h
   · rw [List.getElem?_eq_none h] at hx; cases hx
  have h1 : (cur.toList.take l.length)[j]? = cur[j]? := by rw [List.getElem?_take, if_pos hj]; simp
  rw [← h1, htake]
  simp [bytesV, hx]
 go_enter Tryz.func24, Tryz.ntmps24
 go_wp2
 go_region
 all_goals (go_wp2; go_ret; exact ⟨rfl, rfl⟩)
set_option maxHeartbeats 2000000 in
set_option maxRecDepth 100000 in
theorem stringN_calls (b : Nat) (p : Value) (w : World) (hb : w.heap[b]? = some (.cells #[p, .slice none 0 0] 71 (0, 0))) :
  Calls Tryz.prog 24 #[.pointer (some ⟨b, 0, none⟩)] w fun e w' => e = .returned (.string ⟨#[]⟩) ∧ w' = w.drew := by
 have c1 : w.drew.cell? ⟨b, 1, none⟩ = some (.slice none 0 0) := by
  have : w.drew.heap[b]? = some (.cells #[p, .slice none 0 0] 71 (0, 0)) := hb
  rw [Lib.cell_of_heap this]; rfl
 have hSD : (Builtin.unsafeSliceData_ #[22] 111 #[.slice none 0 0]).run Tryz.prog w.drew = .ok (.pointer none) w.drew := rfl
 have hUS : (Builtin.unsafeString_ #[111, 3] 9 #[.pointer none, .int .i64 0]).run Tryz.prog w.drew = .ok (.string .empty) w.drew := Lib.run_unsafeString_none w.drew _ _ _ none
 go_enter Tryz.func24, Tryz.ntmps24
 go_wp2
 go_region
 all_goals (go_wp2; go_ret; exact ⟨rfl, rfl⟩)
end Go.Proofs.YtfgpfghpciddmaaGreatDoor.rb

namespace Go.Proofs.YtfgpfghpciddmaaGreatDoor.rb
open Rb Go.RowKit
abbrev BAt (H : AH) (id : Nat) (bs : List UInt8) : Prop := BldAt 71 5 H id bs
theorem writeOKx {H : AH} {id : Nat} {bs : List UInt8} (hb : BAt H id bs) (s : List UInt8) (h47 : s.length ≤ 140737488351232) (hn : bs.length ≤ 8796093022208 ∨ s.length ≤ 8796093022208 ∧ bs.length ≤ 149533581377536) {Q : Post}
  (hQ : Q (.tup [.int .i64 s.length, .nilif]) (wroteX H id 71 5 (bs ++ s))) : ACall C 23 [.ptr id 0, .str s] H Q := by
 refine ⟨⟨_, _, hQ⟩, fun f hf G W Vs hG hrel hargs => ?_⟩
 obtain rfl : f = 23 := by
  have : C.F 23 = some 23 := by kernel_rfl
  rw [this] at hf; exact (Option.some.inj hf).symm
 obtain ⟨hl, hv⟩ := hargs
 obtain ⟨Vl⟩ := Vs
 match Vl, hl with
 | [V0, V1], _ =>
  have e0 := hv 0 _ V0 rfl rfl
  have e1 := (hv 1 _ V1 rfl rfl).str_inv
  subst e1
  generalize hz : AV.ptr id 0 = z at e0
  cases e0 <;> try (cases hz; done)
  cases hz
  obtain ⟨p, v, hp, hp2, hc, hown, hne, hbuf⟩ := hb.rel hrel
  have hsz : (⟨s.toArray⟩ : ByteArray).size = s.length := by show s.toArray.size = _; simp
  have hlen := bytesV_len bs
  refine (writeString_calls (G.loc id) p v (bytesV bs) ⟨s.toArray⟩ W hp hc (by rw [hlen]; exact hown) hne (by rw [hsz]; exact h47) (by rw [hsz, hlen]; exact hn)).mono fun e w' ⟨he, k1, k2, k3, k4, ⟨v', k5, k6, k7, k8⟩, k9⟩ => ?_
  have hw : Wrote W w' 71 5 (G.loc id) ((bufOf H id).map G.loc) (bs ++ s) := by
   refine ⟨k1, k2, k3, k4, ⟨v', k5, ?_, fun g hg => ?_, fun hnil => ?_⟩, fun k h1 h2 h3 => k9 k h1 h2 (by rw [hbuf]; exact h3)⟩
   · rw [hlen, hsz, strCells_bytes, ← bytesV_app] at k6
     rw [List.length_append]
     exact k6
   · rw [← hbuf]; exact k7 g hg
   · have hbs : bs = [] := (List.append_eq_nil_iff.1 hnil).1
     have hs : s = [] := (List.append_eq_nil_iff.1 hnil).2
     refine k8 ?_ (by rw [hsz, hs]; rfl)
     rw [hbuf]
     rcases hb.2 with ⟨u, h1, _⟩ | ⟨j, _, _, _, h4⟩
     · simp [bufOf, h1]
     · exact absurd hbs h4
  obtain ⟨G', r1, r2⟩ := wrote_relX hrel hb hw
  exact ⟨_, _, _, G', he, hQ, .tup _ _ rfl (fun j c V hc hV => by
    rcases j with _ | _ | j
    · simp at hc hV; subst hc hV; rw [hsz]; exact .int _ _
    · simp at hc hV; subst hc hV; exact .nilif
    · simp at hc), r1, r2⟩
theorem writeOK {H : AH} {id : Nat} {bs : List UInt8} (hb : BAt H id bs) (s : List UInt8) (h47 : s.length ≤ 140737488351232) (hn : bs.length ≤ 8796093022208 ∨ s.length ≤ 8796093022208 ∧ bs.length ≤ 149533581377536) {Q : Post}
  (hQ : ∀ H', BAt H' id (bs ++ s) → KeepB H id H' → Q (.tup [.int .i64 s.length, .nilif]) H') : ACall C 23 [.ptr id 0, .str s] H Q :=
 writeOKx hb s h47 hn (hQ _ (wroteX_bld hb _).1 (wroteX_bld hb _).2)
theorem lenOK {H : AH} {id : Nat} {bs : List UInt8} (hb : BAt H id bs) {Q : Post} (hQ : Q (.int .i64 bs.length) H) : ACall C 365 [.ptr id 0] H Q := by
 refine ⟨⟨_, _, hQ⟩, fun f hf G W Vs hG hrel hargs => ?_⟩
 obtain rfl : f = 365 := by
  have : C.F 365 = some 365 := by kernel_rfl
  rw [this] at hf; exact (Option.some.inj hf).symm
 obtain ⟨hl, hv⟩ := hargs
 obtain ⟨Vl⟩ := Vs
 match Vl, hl with
 | [V0], _ =>
  have e0 := hv 0 _ V0 rfl rfl
  generalize hz : AV.ptr id 0 = z at e0
  cases e0 <;> try (cases hz; done)
  cases hz
  obtain ⟨p, v, hp, hp2, hc, hown, hne, hbuf⟩ := hb.rel hrel
  have hlen := bytesV_len bs
  refine (len_calls (G.loc id) p v (bytesV bs) W hc (by rw [hlen]; exact hown)).mono fun e w' ⟨he, hw⟩ => ?_
  subst hw
  rw [hlen] at he
  exact ⟨_, _, H, G, he, hQ, .int _ _, hrel, Step.refl _ _ _⟩
theorem textOKx {H : AH} {id : Nat} {bs : List UInt8} (hb : BAt H id bs) {Q : Post} (hQ : Q (.str bs) (if bs = [] then H else wroteX H id 71 5 bs)) : ACall C 24 [.ptr id 0] H Q := by
 refine ⟨⟨_, _, hQ⟩, fun f hf G W Vs hG hrel hargs => ?_⟩
 obtain rfl : f = 24 := by
  have : C.F 24 = some 24 := by kernel_rfl
  rw [this] at hf; exact (Option.some.inj hf).symm
 obtain ⟨hl, hv⟩ := hargs
 obtain ⟨Vl⟩ := Vs
 match Vl, hl with
 | [V0], _ =>
  have e0 := hv 0 _ V0 rfl rfl
  generalize hz : AV.ptr id 0 = z at e0
  cases e0 <;> try (cases hz; done)
  cases hz
  obtain ⟨p, v, hp, hp2, hc, hown, hne, hbuf⟩ := hb.rel hrel
  by_cases h0 : bs = []
  · subst h0
    have hvn : v = .slice none 0 0 := by
     rcases hown.2 with ⟨h, _⟩ | ⟨g, cap, cur, fz, h, _⟩
     · exact h
     · rcases hb.2 with ⟨u, h1, _⟩ | ⟨j, _, _, _, h4⟩
       · rw [h] at hbuf; simp [bufOf, h1, Value.ownBlock] at hbuf
       · exact absurd rfl h4
    subst hvn
    refine (stringN_calls (G.loc id) p W hc).mono fun e w' ⟨he, hw⟩ => ?_
    subst hw
    have hbel : Below W.heap.size W W.drew := Below.drew (Below.refl _ _)
    rw [if_pos rfl] at hQ
    exact ⟨_, _, H, G, he, hQ, .str _, rel_below hbel hrel, step_below hbel hrel⟩
  · rw [if_neg h0] at hQ
    rcases hown.2 with ⟨_, hz⟩ | ⟨g, cap, cur, fz, hvv, hbg, hg, hfz, hnc, hcm, hcs, htake⟩
    · exact absurd (List.eq_nil_of_length_eq_zero hz) h0
    · subst hvv
      have hself := hp2 h0
      subst hself
      have hgb : g ≠ G.loc id := fun e => hne (by simp [Value.ownBlock, e])
      refine (string_calls (G.loc id) g cap _ bs cur fz W h0 hc hg hnc hcm (by omega) (by rw [Nat.mul_one] at htake; exact htake)).mono fun e w' ⟨he, hw⟩ => ?_
      have hA : Lib.BuilderAtF 71 5 0 (G.loc id) (.pointer (some ⟨G.loc id, 0, none⟩)) (bytesV bs) W.drew := ⟨Nat.zero_le _, _, hc, by rw [bytesV_len]; exact hown, hne⟩
      have hF := hA.froze (g := g) (cap := cap) (by
        have : W.drew.heap[G.loc id]? = some (.cells #[.pointer (some ⟨G.loc id, 0, none⟩), .slice (some ⟨g, 0, none⟩) bs.length cap] 71 (0, 0)) := hc
        rw [Lib.cell_of_heap this, bytesV_len]; rfl)
      rw [bytesV_len, ← hw] at hF
      obtain ⟨_, v2, hb2, hown2, hne2⟩ := hF
      have hkept : ∀ k, k ≠ g → w'.heap[k]? = W.heap[k]? := by
       intro k hk
       rw [hw]
       unfold World.freeze
       split
       · rfl
       · show (Array.modify _ _ _)[k]? = _
         rw [Array.getElem?_modify, if_neg (fun e => hk e.symm)]; rfl
      have hv2 : v2 = .slice (some ⟨g, 0, none⟩) bs.length cap := by
       rw [hkept _ hgb.symm, hc] at hb2
       simp at hb2
       exact hb2.symm
      have hWr : Wrote W w' 71 5 (G.loc id) ((bufOf H id).map G.loc) bs := by
       refine ⟨?_, ?_, ?_, ?_, ⟨v2, hb2, by rw [bytesV_len] at hown2; exact hown2, fun g' hg' => .inl ?_, fun h => absurd h h0⟩, fun k h1 h2 h3 => hkept k (fun e => h3 ?_)⟩
       · rw [hw]; unfold World.freeze; split
         · exact Nat.le_refl _
         · show W.heap.size ≤ (Array.modify _ _ _).size
           rw [Array.size_modify]; exact Nat.le_refl _
       · rw [hw]; unfold World.freeze; split <;> rfl
       · rw [hw]; unfold World.freeze; split <;> rfl
       · rw [hw]; unfold World.freeze; split <;> rfl
       · first | (rw [← hbuf, ← hg', hv2]; done) | (rw [← hbuf, ← hg', hv2]; rfl)
       · first | (rw [← hbuf, e]; done) | (rw [← hbuf, e]; rfl)
      obtain ⟨G', r1, r2⟩ := wrote_relX hrel hb hWr
      exact ⟨_, _, _, G', he, hQ, .str _, r1, r2⟩
theorem textOK {H : AH} {id : Nat} {bs : List UInt8} (hb : BAt H id bs) {Q : Post} (hQ : ∀ H', BAt H' id bs → KeepB H id H' → Q (.str bs) H') : ACall C 24 [.ptr id 0] H Q := by
 refine textOKx hb ?_
 split
 · exact hQ _ hb (KeepB.refl _ _)
 · exact hQ _ (wroteX_bld hb _).1 (wroteX_bld hb _).2
end Go.Proofs.YtfgpfghpciddmaaGreatDoor.rb

namespace Rb
open Go Go.RowKit
theorem gle_more {w w' : World} {G : Ghost} (hb : Below w.heap.size w w') (b c : Nat) : GLe w G w' (G.more b c) :=
 ⟨Nat.le_succ _, fun i hi => if_neg (Nat.ne_of_lt hi), fun i hi => if_neg (Nat.ne_of_lt hi), fun _ _ hf => hf, (gle_below (G := G) hb).cell⟩
theorem obj_more {F : FTab} {w w' : World} {G : Ghost} (hb : Below w.heap.size w w') (b c : Nat) {i : Nat} {x : AObj} (h : ObjR F w G i x) (hi : x.live = true → i < G.n) : ObjR F w' (G.more b c) i x :=
 h.keep (gle_more hb b c) hi (fun hl => hb.block _ (h.lt hl)) fun _ _ hj => hj
theorem adopt {F : FTab} {w w' : World} {G : Ghost} {H : AH} (hb : Below w.heap.size w w') (h : Rel F w G H) {b : Nat} {C : Array Value} {e : TypeId} (hB : w.heap.size ≤ b) (hC : w'.heap[b]? = some (.cells C e (0, 0)))
  {cs : List AV} (hv : ∀ (j : Nat) (c : AV), cs[j]? = some c → ∃ V, C[j]? = some V ∧ VR F w' (G.more b C.size) c V) :
  Rel F w' (G.more b C.size) (H.push (.row cs)) ∧ Step w G H w' (G.more b C.size) (H.push (.row cs)) ∧ ∀ n cap sz, n ≤ cap → C.size = cap * sz → VR F w' (G.more b C.size) (.row H.n 0 n sz) (.slice (some ⟨b, 0, none⟩) n cap) := by
 have hn := h.n
 have hg := gle_more (G := G) hb b C.size
 have hloc : ∀ i, i ≠ H.n → (G.more b C.size).loc i = G.loc i := fun i hi => if_neg (show ¬ i = G.n by omega)
 have hlocn : (G.more b C.size).loc H.n = b := if_pos hn.symm
 have hcapn : (G.more b C.size).cap H.n = C.size := if_pos hn.symm
 have ho : ∀ i, i ≠ H.n → (H.push (.row cs)).o i = H.o i := fun i hi => if_neg hi
 have hnew : ∀ i, (H.o i).live = true → G.loc i ≠ b := fun i hl => Nat.ne_of_lt (Nat.lt_of_lt_of_le ((h.obj i).lt hl) hB)
 have hnf : ∀ j, ¬ G.fz b j := fun j hj => by
  obtain ⟨V, hV⟩ := h.fzc b j hj
  have := cell_lt hV
  omega
 refine ⟨⟨by show G.n + 1 = H.n + 1; omega, fun i hi' => ?_, fun i => ?_, fun i j hij h1 h2 => ?_, fun b' o hf => ?_⟩, ?_, fun n cap sz hle hsz => ?_⟩
 · have hlt : H.n + 1 ≤ i := hi'
   rw [ho i (by omega)]; exact h.over i (by omega)
 · by_cases hin : i = H.n
   · subst hin
     show ObjR F w' _ H.n (if H.n = H.n then .row cs else H.o H.n)
     rw [if_pos rfl]
     exact ⟨C, e, by rw [hlocn]; exact hC, hcapn.symm, by rw [hlocn]; exact hnf, hv⟩
   · rw [ho i hin]
     exact obj_more hb b C.size (h.obj i) fun hl => h.idlt hl
 · by_cases hi' : i = H.n <;> by_cases hj' : j = H.n
   · omega
   · rw [hi', hlocn, hloc j hj']; rw [ho j hj'] at h2; exact (hnew j h2).symm
   · rw [hj', hlocn, hloc i hi']; rw [ho i hi'] at h1; exact hnew i h1
   · rw [hloc i hi', hloc j hj']; rw [ho i hi'] at h1; rw [ho j hj'] at h2; exact h.dist i j hij h1 h2
 · obtain ⟨V, hV⟩ := h.fzc b' o hf
   exact ⟨V, by rw [hb.cell (p := ⟨b', o, none⟩) (cell_lt hV)]; exact hV⟩
 · refine { hg with size := hb.size, os := hb.os, tape := hb.tape, output := hb.output, old := fun k hk _ => hb.block k hk, owned := fun i hl hlt => ?_, fznew := fun _ _ hf => .inl hf }
   by_cases hin : i = H.n
   · rw [hin, hlocn] at hlt; omega
   · rw [ho i hin] at hl
     exact ⟨i, hl, (hloc i hin).symm⟩
 · have := VR.row (F := F) (w := w') (G := G.more b C.size) H.n 0 n sz cap (by show H.n < G.n + 1; omega) hle (by rw [hcapn, hsz]; omega)
   rw [hlocn] at this
   exact this
end Rb

namespace Rb
open Go Go.RowKit
theorem adoptF {F : FTab} {w w' : World} {G : Ghost} {H : AH} (hb : Below w.heap.size w w') (h : Rel F w G H) {b : Nat} {C : Array Value} {e : TypeId} (hB : w.heap.size ≤ b) (hC : w'.heap[b]? = some (.cells C e (0, 0)))
  {cs : List AV} (hv : ∀ (j : Nat) (c : AV), cs[j]? = some c → ∃ V, C[j]? = some V ∧ VR F w' G c V) :
  ∃ G', Rel F w' G' H ∧ Step w G H w' G' H ∧ ∀ n cap, n ≤ cap → VR F w' G' (.lst .dead n cs) (.slice (some ⟨b, 0, none⟩) n cap) := by
 let G2 : Ghost := { G with fz := fun b' o => G.fz b' o ∨ (b' = b ∧ o < C.size) }
 have hcell : ∀ b o V, G.fz b o → w.cell? ⟨b, o, none⟩ = some V → w'.cell? ⟨b, o, none⟩ = some V := fun b o V hf hc => by
  rw [World.cell?_of_block (w := w) (hb.block b (World.block_lt_of_cell? w _ hc))]; exact hc
 have hg : GLe w G w' G2 := ⟨Nat.le_refl _, fun _ _ => rfl, fun _ _ => rfl, fun _ _ h => .inl h, hcell⟩
 have hnew : ∀ i, (H.o i).live = true → G.loc i ≠ b := fun i hl => Nat.ne_of_lt (Nat.lt_of_lt_of_le ((h.obj i).lt hl) hB)
 have cellC : ∀ o V, C[o]? = some V → w'.cell? ⟨b, o, none⟩ = some V := fun o V hV => by
  simp [World.cell?, hC, hV]
 have hgl : GLe w' G w' G2 := ⟨Nat.le_refl _, fun _ _ => rfl, fun _ _ => rfl, fun _ _ h => .inl h, fun _ _ _ _ h => h⟩
 refine ⟨G2, ⟨h.n, h.over, fun j => (h.obj j).keep hg (fun hl => h.idlt hl) (fun hl => hb.block _ ((h.obj j).lt hl)) fun hl o hj => ?_, h.dist, fun b' o hf => ?_⟩, ?_, fun n cap hle => ?_⟩
 · rcases hj with hj | ⟨hj, _⟩
   · exact hj
   · exact absurd hj (hnew j hl)
 · rcases hf with hf | ⟨rfl, hlt⟩
   · obtain ⟨V, hV⟩ := h.fzc b' o hf
     exact ⟨V, hcell b' o V hf hV⟩
   · exact ⟨C[o], cellC o _ (Array.getElem?_eq_getElem hlt)⟩
 · exact { hg with size := hb.size, os := hb.os, tape := hb.tape, output := hb.output, old := fun k hk _ => hb.block k hk, owned := fun i hl _ => ⟨i, hl, rfl⟩, fznew := fun b' o hf => Or.elim hf (fun h => .inl h) (fun e => .inr (.inl (e.1 ▸ hB))) }
 · refine .lst _ _ _ b 0 cap (fun j => (C[j]?).getD undef) trivial hle (fun j c hj => ?_) fun j c hj => ?_
   · obtain ⟨V, hV, _⟩ := hv j c hj
     rw [Nat.zero_add]
     simp only [hV, Option.getD_some]
     exact ⟨.inr ⟨rfl, (Array.getElem?_eq_some_iff.1 hV).1⟩, cellC j V hV⟩
   · obtain ⟨V, hV, hr⟩ := hv j c hj
     simp only [hV, Option.getD_some]
     exact hr.mono hgl
end Rb

namespace Rb
open Go Go.RowKit
theorem err_ptr {F : FTab} {W : World} {g : Nat} {tp : TypeId} {a : Addr} {x : Value} (hc : W.cell? ⟨g, 0, none⟩ = some (.iface tp (.pointer (some a)))) (ha : W.cell? a = some x) :
  VR F W (Ghost.mt (allFz W)) (.fptr [.iface tp (.fptr [])]) (.pointer (some ⟨g, 0, none⟩)) := by
 have hsp : a.spot = none := by
  unfold World.cell? at ha
  split at ha
  · split at ha
    · cases ha
    · rename_i hn
      cases h : a.spot with
      | none => rfl
      | some _ => rw [h] at hn; simp at hn
  · cases ha
 obtain ⟨b, o, sp⟩ := a
 simp only at hsp
 subst hsp
 refine .fptr _ g 0 (fun _ => .iface tp (.pointer (some ⟨b, o, none⟩))) (fun j c hj => ?_) fun j c hj => ?_
 · cases j with
   | zero => exact ⟨⟨_, hc⟩, hc⟩
   | succ j => simp at hj
 · cases j with
   | zero =>
    simp at hj
    subst hj
    exact .iface _ _ _ (.fptr [] b o (fun _ => x) (fun j c h => by simp at h) fun j c h => by simp at h)
   | succ j => simp at hj
end Rb

namespace Go.Proofs.YtfgpfghpciddmaaGreatDoor.rb
open Rb Go.ChangeShapes Go.WideShapes Go.ChangeAt Go.RowKit
theorem own : ownKnob Tryz.prog.godebug = none := by kernel_rfl
theorem laidOut : laidOutB Tryz.prog = true := by kernel_rfl
theorem cellsU : Tryz.prog.cellsOf 5 = 1 := by kernel_rfl
def laidVars : List (String × DataW Unit) := Rows.shellTellsRow.laid
theorem gT0 : Tryz.prog.globalNamed "internal/strconv.uint64pow10" = some 0 := by kernel_rfl
theorem gTType0 : (Tryz.prog.globals[0]?).map (·.type) = some 153 := by kernel_rfl
theorem cellsT0 : Tryz.prog.cellsOf 153 = 20 := by kernel_rfl
theorem tab_eq0 : (Rows.laid_internal_strconv_uint64pow10 : DataW Unit) = Go.Lib.tabData .u64 tenTab := by kernel_rfl
theorem tab_mem0 : (("internal/strconv.uint64pow10", Go.Lib.tabData .u64 tenTab) : String × DataW Unit) ∈ laidVars := by
 rw [← tab_eq0]; exact .tail _ (.tail _ (.head _))
set_option maxRecDepth 100000 in
theorem tab_of0 {W : World} (h : laidMet Tryz.prog laidVars W) : Go.Lib.TabIs Tryz.prog W "internal/strconv.uint64pow10" .u64 tenTab := by
 obtain ⟨g', t', cs, fuel, p, hg', ht', hvar, hd⟩ := Go.Lib.laidMet.reads h tab_mem0
 obtain rfl := Option.some.inj (gT0.symm.trans hg')
 obtain rfl := Option.some.inj (gTType0.symm.trans ht')
 unfold Go.Lib.TabIs
 rw [hvar, ← Go.Lib.cells_of_tab Tryz.underlying153 Tryz.underlying12 (by kernel_rfl) cellsT0 hd]
theorem gT1 : Tryz.prog.globalNamed "math/bits.deBruijn64tab" = some 2 := by kernel_rfl
theorem gTType1 : (Tryz.prog.globals[2]?).map (·.type) = some 304 := by kernel_rfl
theorem cellsT1 : Tryz.prog.cellsOf 304 = 64 := by kernel_rfl
theorem tab_eq1 : (Rows.laid_math_bits_deBruijn64tab : DataW Unit) = Go.Lib.tabData .u8 deB64 := by kernel_rfl
theorem tab_mem1 : (("math/bits.deBruijn64tab", Go.Lib.tabData .u8 deB64) : String × DataW Unit) ∈ laidVars := by
 rw [← tab_eq1]; exact .tail _ (.head _)
set_option maxRecDepth 100000 in
theorem tab_of1 {W : World} (h : laidMet Tryz.prog laidVars W) : Go.Lib.TabIs Tryz.prog W "math/bits.deBruijn64tab" .u8 deB64 := by
 obtain ⟨g', t', cs, fuel, p, hg', ht', hvar, hd⟩ := Go.Lib.laidMet.reads h tab_mem1
 obtain rfl := Option.some.inj (gT1.symm.trans hg')
 obtain rfl := Option.some.inj (gTType1.symm.trans ht')
 unfold Go.Lib.TabIs
 rw [hvar, ← Go.Lib.cells_of_tab Tryz.underlying304 Tryz.underlying5 cellsU cellsT1 hd]
theorem gT2 : Tryz.prog.globalNamed "strings.asciiSpace" = some 3 := by kernel_rfl
theorem gTType2 : (Tryz.prog.globals[3]?).map (·.type) = some 307 := by kernel_rfl
theorem cellsT2 : Tryz.prog.cellsOf 307 = 256 := by kernel_rfl
theorem tab_eq2 : (Rows.laid_strings_asciiSpace : DataW Unit) = Go.Lib.tabData .u8 Go.Lib.asciiSpaceTab := by kernel_rfl
theorem tab_mem2 : (("strings.asciiSpace", Go.Lib.tabData .u8 Go.Lib.asciiSpaceTab) : String × DataW Unit) ∈ laidVars := by
 rw [← tab_eq2]; exact .tail _ (.tail _ (.tail _ (.tail _ (.tail _ (.tail _ (.tail _ (.head _)))))))
set_option maxRecDepth 100000 in
theorem tab_of2 {W : World} (h : laidMet Tryz.prog laidVars W) : Go.Lib.TabIs Tryz.prog W "strings.asciiSpace" .u8 Go.Lib.asciiSpaceTab := by
 obtain ⟨g', t', cs, fuel, p, hg', ht', hvar, hd⟩ := Go.Lib.laidMet.reads h tab_mem2
 obtain rfl := Option.some.inj (gT2.symm.trans hg')
 obtain rfl := Option.some.inj (gTType2.symm.trans ht')
 unfold Go.Lib.TabIs
 rw [hvar, ← Go.Lib.cells_of_tab Tryz.underlying307 Tryz.underlying5 cellsU cellsT2 hd]
theorem cellsE : Tryz.prog.cellsOf 402 = 1 := by kernel_rfl
theorem cellsS : Tryz.prog.cellsOf 9 = 1 := by kernel_rfl
theorem rowE (nm : String) (hn : ("*" ++ "errors.errorString" : String) = nm) (u : TypeId) (h : Tryz.prog.typeName? 3 u = some nm) : u = 400 :=
 typeName_ptr_named (nm := "errors.errorString") (by kernel_rfl) (by kernel_rfl) (by decide) u (by rw [hn]; exact h)
theorem gErrSyntax : Tryz.prog.globalNamed "strconv.ErrSyntax" = some 5 := by kernel_rfl
theorem tErrSyntax : (Tryz.prog.globals[5]?).map (·.type) = some 73 := by kernel_rfl
theorem atErrSyntax {W : World} (h : laidMet Tryz.prog laidVars W) : VR C.F W (Ghost.mt (allFz W)) (.fptr [.iface 400 (.fptr [])]) (.pointer (some ⟨5, 0, none⟩)) := by
 obtain ⟨a, s, hv, hc, -, -⟩ := laid_sentinel (show laidMet Tryz.prog (("strconv.ErrSyntax", Rows.laid_strconv_ErrSyntax) :: _) W from h.tail.tail.tail.tail.tail) gErrSyntax tErrSyntax Tryz.underlying73 (rowE _ (by decide)) Tryz.underlying400 Tryz.underlying402 rfl rfl Tryz.underlying9 cellsE cellsS
 exact err_ptr (by have h0 := World.var?_cell gErrSyntax hv 0; simpa using h0) hc
theorem szErrSyntax {W : World} (h : laidMet Tryz.prog laidVars W) : ∃ cs t fr, W.heap[(5 : Nat)]? = some (.cells cs t fr) ∧ cs.size = 1 := by
 obtain ⟨a, s, hv, hc, -, -⟩ := laid_sentinel (show laidMet Tryz.prog (("strconv.ErrSyntax", Rows.laid_strconv_ErrSyntax) :: _) W from h.tail.tail.tail.tail.tail) gErrSyntax tErrSyntax Tryz.underlying73 (rowE _ (by decide)) Tryz.underlying400 Tryz.underlying402 rfl rfl Tryz.underlying9 cellsE cellsS
 obtain ⟨cs, t, fr, h1, h2⟩ := size_of_var gErrSyntax hv
 exact ⟨cs, t, fr, h1, h2⟩
theorem gErrRange : Tryz.prog.globalNamed "strconv.ErrRange" = some 6 := by kernel_rfl
theorem tErrRange : (Tryz.prog.globals[6]?).map (·.type) = some 73 := by kernel_rfl
theorem atErrRange {W : World} (h : laidMet Tryz.prog laidVars W) : VR C.F W (Ghost.mt (allFz W)) (.fptr [.iface 400 (.fptr [])]) (.pointer (some ⟨6, 0, none⟩)) := by
 obtain ⟨a, s, hv, hc, -, -⟩ := laid_sentinel (show laidMet Tryz.prog (("strconv.ErrRange", Rows.laid_strconv_ErrRange) :: _) W from h.tail.tail.tail.tail) gErrRange tErrRange Tryz.underlying73 (rowE _ (by decide)) Tryz.underlying400 Tryz.underlying402 rfl rfl Tryz.underlying9 cellsE cellsS
 exact err_ptr (by have h0 := World.var?_cell gErrRange hv 0; simpa using h0) hc
theorem szErrRange {W : World} (h : laidMet Tryz.prog laidVars W) : ∃ cs t fr, W.heap[(6 : Nat)]? = some (.cells cs t fr) ∧ cs.size = 1 := by
 obtain ⟨a, s, hv, hc, -, -⟩ := laid_sentinel (show laidMet Tryz.prog (("strconv.ErrRange", Rows.laid_strconv_ErrRange) :: _) W from h.tail.tail.tail.tail) gErrRange tErrRange Tryz.underlying73 (rowE _ (by decide)) Tryz.underlying400 Tryz.underlying402 rfl rfl Tryz.underlying9 cellsE cellsS
 obtain ⟨cs, t, fr, h1, h2⟩ := size_of_var gErrRange hv
 exact ⟨cs, t, fr, h1, h2⟩
theorem gok0 {W : World} (h : laidMet Tryz.prog laidVars W) : GOK C W (Ghost.mt (allFz W)) := by
 intro g l hg
 change gt g = some l at hg
 unfold gt at hg
 split at hg
 · rename_i e
   subst e
   cases hg
   rw [(show pow10tab = tenTab.map (AV.int .u64) from rfl)]
   exact fptr_of_tab fun i hi => (tab_of0 h).cell gT0 i hi
 · split at hg
   · rename_i e
     subst e
     cases hg
     rw [(show deBruijn64tab = deB64.map (AV.int .u8) from rfl)]
     exact fptr_of_tab fun i hi => (tab_of1 h).cell gT1 i hi
   · split at hg
     · rename_i e
       subst e
       cases hg
       rw [asciiSpace_eq]
       exact fptr_of_tab fun i hi => (tab_of2 h).cell gT2 i hi
     · split at hg
       · rename_i e
         subst e
         cases hg
         exact atErrSyntax h
       · split at hg
         · rename_i e
           subst e
           cases hg
           exact atErrRange h
         · cases hg
theorem gok {W : World} (h : laidMet Tryz.prog laidVars W) : GOX C W (Ghost.mt (allFz W)) AH.mt := by
 refine ⟨gok0 h, fun g l hg _ => ⟨?_, fun i hi => by cases hi⟩⟩
 change gt g = some l at hg
 unfold gt at hg
 split at hg
 · rename_i e
   subst e
   cases hg
   obtain ⟨cs, t, fr, h1, h2⟩ := size_of_var gT0 (tab_of0 h)
   exact ⟨cs, t, fr, h1, h2.trans (by kernel_rfl)⟩
 · split at hg
   · rename_i e
     subst e
     cases hg
     obtain ⟨cs, t, fr, h1, h2⟩ := size_of_var gT1 (tab_of1 h)
     exact ⟨cs, t, fr, h1, h2.trans (by kernel_rfl)⟩
   · split at hg
     · rename_i e
       subst e
       cases hg
       obtain ⟨cs, t, fr, h1, h2⟩ := size_of_var gT2 (tab_of2 h)
       exact ⟨cs, t, fr, h1, h2.trans (by kernel_rfl)⟩
     · split at hg
       · rename_i e
         subst e
         cases hg
         exact szErrSyntax h
       · split at hg
         · rename_i e
           subst e
           cases hg
           exact szErrRange h
         · cases hg
noncomputable def laidWorld (os : Os) : World :=
 let N := (World.settled Tryz.prog os).heap.size
 let w0 := World.holding Tryz.prog os ⟨#[.cells #[.string ⟨#[118, 97, 108, 117, 101, 32, 111, 117, 116, 32, 111, 102, 32, 114, 97, 110, 103, 101]⟩] 402, .cells #[.string ⟨#[105, 110, 118, 97, 108, 105, 100, 32, 115, 121, 110, 116, 97, 120]⟩] 402, .cells #[.int .u16 9, .int .u16 13, .int .u16 1, .int .u16 32, .int .u16 133, .int .u16 101, .int .u16 160, .int .u16 5760, .int .u16 5600, .int .u16 8192, .int .u16 8202, .int .u16 1, .int .u16 8232, .int .u16 8233, .int .u16 1, .int .u16 8239, .int .u16 8287, .int .u16 48, .int .u16 12288, .int .u16 12288, .int .u16 1] 416, .cells #[.slice (some ⟨N + 2, 0, none⟩) 7 7, .slice none 0 0, .int .i64 2] 413], #[], []⟩
 let put (h : Array Obj) (g : Nat) (cs : Array Value) : Array Obj := h.modify g fun
  | .cells _ t frozen => .cells cs t frozen
  | o => o
 { w0 with heap := put (put (put (put (put (put (put (put (put (w0.heap) 1 #[.int .u8 0, .int .u8 1, .int .u8 28, .int .u8 2, .int .u8 29, .int .u8 14, .int .u8 24, .int .u8 3, .int .u8 30, .int .u8 22, .int .u8 20, .int .u8 15, .int .u8 25, .int .u8 17, .int .u8 4, .int .u8 8, .int .u8 31, .int .u8 27, .int .u8 13, .int .u8 23, .int .u8 21, .int .u8 19, .int .u8 16, .int .u8 7, .int .u8 26, .int .u8 12, .int .u8 18, .int .u8 6, .int .u8 11, .int .u8 5, .int .u8 10, .int .u8 9]) 2 #[.int .u8 0, .int .u8 1, .int .u8 56, .int .u8 2, .int .u8 57, .int .u8 49, .int .u8 28, .int .u8 3, .int .u8 61, .int .u8 58, .int .u8 42, .int .u8 50, .int .u8 38, .int .u8 29, .int .u8 17, .int .u8 4, .int .u8 62, .int .u8 47, .int .u8 59, .int .u8 36, .int .u8 45, .int .u8 43, .int .u8 51, .int .u8 22, .int .u8 53, .int .u8 39, .int .u8 33, .int .u8 30, .int .u8 24, .int .u8 18, .int .u8 12, .int .u8 5, .int .u8 63, .int .u8 55, .int .u8 48, .int .u8 27, .int .u8 60, .int .u8 41, .int .u8 37, .int .u8 16, .int .u8 46, .int .u8 35, .int .u8 44, .int .u8 21, .int .u8 52, .int .u8 32, .int .u8 23, .int .u8 11, .int .u8 54, .int .u8 26, .int .u8 40, .int .u8 15, .int .u8 34, .int .u8 20, .int .u8 31, .int .u8 10, .int .u8 25, .int .u8 14, .int .u8 19, .int .u8 9, .int .u8 13, .int .u8 8, .int .u8 7, .int .u8 6]) 0 #[.int .u64 1, .int .u64 10, .int .u64 100, .int .u64 1000, .int .u64 10000, .int .u64 100000, .int .u64 1000000, .int .u64 10000000, .int .u64 100000000, .int .u64 1000000000, .int .u64 10000000000, .int .u64 100000000000, .int .u64 1000000000000, .int .u64 10000000000000, .int .u64 100000000000000, .int .u64 1000000000000000, .int .u64 10000000000000000, .int .u64 100000000000000000, .int .u64 1000000000000000000, .int .u64 10000000000000000000]) 9 #[.int .u8 128, .int .u8 191, .int .u8 160, .int .u8 191, .int .u8 128, .int .u8 159, .int .u8 144, .int .u8 191, .int .u8 128, .int .u8 143, .int .u8 0, .int .u8 0, .int .u8 0, .int .u8 0, .int .u8 0, .int .u8 0, .int .u8 0, .int .u8 0, .int .u8 0, .int .u8 0, .int .u8 0, .int .u8 0, .int .u8 0, .int .u8 0, .int .u8 0, .int .u8 0, .int .u8 0, .int .u8 0, .int .u8 0, .int .u8 0, .int .u8 0, .int .u8 0]) 6 #[.iface 400 (.pointer (some ⟨N + 0, 0, none⟩))]) 5 #[.iface 400 (.pointer (some ⟨N + 1, 0, none⟩))]) 7 #[.pointer (some ⟨N + 3, 0, none⟩)]) 3 #[.int .u8 0, .int .u8 0, .int .u8 0, .int .u8 0, .int .u8 0, .int .u8 0, .int .u8 0, .int .u8 0, .int .u8 0, .int .u8 1, .int .u8 1, .int .u8 1, .int .u8 1, .int .u8 1, .int .u8 0, .int .u8 0, .int .u8 0, .int .u8 0, .int .u8 0, .int .u8 0, .int .u8 0, .int .u8 0, .int .u8 0, .int .u8 0, .int .u8 0, .int .u8 0, .int .u8 0, .int .u8 0, .int .u8 0, .int .u8 0, .int .u8 0, .int .u8 0, .int .u8 1, .int .u8 0, .int .u8 0, .int .u8 0, .int .u8 0, .int .u8 0, .int .u8 0, .int .u8 0, .int .u8 0, .int .u8 0, .int .u8 0, .int .u8 0, .int .u8 0, .int .u8 0, .int .u8 0, .int .u8 0, .int .u8 0, .int .u8 0, .int .u8 0, .int .u8 0, .int .u8 0, .int .u8 0, .int .u8 0, .int .u8 0, .int .u8 0, .int .u8 0, .int .u8 0, .int .u8 0, .int .u8 0, .int .u8 0, .int .u8 0, .int .u8 0, .int .u8 0, .int .u8 0, .int .u8 0, .int .u8 0, .int .u8 0, .int .u8 0, .int .u8 0, .int .u8 0, .int .u8 0, .int .u8 0, .int .u8 0, .int .u8 0, .int .u8 0, .int .u8 0, .int .u8 0, .int .u8 0, .int .u8 0, .int .u8 0, .int .u8 0, .int .u8 0, .int .u8 0, .int .u8 0, .int .u8 0, .int .u8 0, .int .u8 0, .int .u8 0, .int .u8 0, .int .u8 0, .int .u8 0, .int .u8 0, .int .u8 0, .int .u8 0, .int .u8 0, .int .u8 0, .int .u8 0, .int .u8 0, .int .u8 0, .int .u8 0, .int .u8 0, .int .u8 0, .int .u8 0, .int .u8 0, .int .u8 0, .int .u8 0, .int .u8 0, .int .u8 0, .int .u8 0, .int .u8 0, .int .u8 0, .int .u8 0, .int .u8 0, .int .u8 0, .int .u8 0, .int .u8 0, .int .u8 0, .int .u8 0, .int .u8 0, .int .u8 0, .int .u8 0, .int .u8 0, .int .u8 0, .int .u8 0, .int .u8 0, .int .u8 0, .int .u8 0, .int .u8 0, .int .u8 0, .int .u8 0, .int .u8 0, .int .u8 0, .int .u8 0, .int .u8 0, .int .u8 0, .int .u8 0, .int .u8 0, .int .u8 0, .int .u8 0, .int .u8 0, .int .u8 0, .int .u8 0, .int .u8 0, .int .u8 0, .int .u8 0, .int .u8 0, .int .u8 0, .int .u8 0, .int .u8 0, .int .u8 0, .int .u8 0, .int .u8 0, .int .u8 0, .int .u8 0, .int .u8 0, .int .u8 0, .int .u8 0, .int .u8 0, .int .u8 0, .int .u8 0, .int .u8 0, .int .u8 0, .int .u8 0, .int .u8 0, .int .u8 0, .int .u8 0, .int .u8 0, .int .u8 0, .int .u8 0, .int .u8 0, .int .u8 0, .int .u8 0, .int .u8 0, .int .u8 0, .int .u8 0, .int .u8 0, .int .u8 0, .int .u8 0, .int .u8 0, .int .u8 0, .int .u8 0, .int .u8 0, .int .u8 0, .int .u8 0, .int .u8 0, .int .u8 0, .int .u8 0, .int .u8 0, .int .u8 0, .int .u8 0, .int .u8 0, .int .u8 0, .int .u8 0, .int .u8 0, .int .u8 0, .int .u8 0, .int .u8 0, .int .u8 0, .int .u8 0, .int .u8 0, .int .u8 0, .int .u8 0, .int .u8 0, .int .u8 0, .int .u8 0, .int .u8 0, .int .u8 0, .int .u8 0, .int .u8 0, .int .u8 0, .int .u8 0, .int .u8 0, .int .u8 0, .int .u8 0, .int .u8 0, .int .u8 0, .int .u8 0, .int .u8 0, .int .u8 0, .int .u8 0, .int .u8 0, .int .u8 0, .int .u8 0, .int .u8 0, .int .u8 0, .int .u8 0, .int .u8 0, .int .u8 0, .int .u8 0, .int .u8 0, .int .u8 0, .int .u8 0, .int .u8 0, .int .u8 0, .int .u8 0, .int .u8 0, .int .u8 0, .int .u8 0, .int .u8 0, .int .u8 0, .int .u8 0, .int .u8 0, .int .u8 0, .int .u8 0, .int .u8 0, .int .u8 0, .int .u8 0, .int .u8 0, .int .u8 0, .int .u8 0, .int .u8 0, .int .u8 0, .int .u8 0, .int .u8 0]) 8 #[.int .u8 240, .int .u8 240, .int .u8 240, .int .u8 240, .int .u8 240, .int .u8 240, .int .u8 240, .int .u8 240, .int .u8 240, .int .u8 240, .int .u8 240, .int .u8 240, .int .u8 240, .int .u8 240, .int .u8 240, .int .u8 240, .int .u8 240, .int .u8 240, .int .u8 240, .int .u8 240, .int .u8 240, .int .u8 240, .int .u8 240, .int .u8 240, .int .u8 240, .int .u8 240, .int .u8 240, .int .u8 240, .int .u8 240, .int .u8 240, .int .u8 240, .int .u8 240, .int .u8 240, .int .u8 240, .int .u8 240, .int .u8 240, .int .u8 240, .int .u8 240, .int .u8 240, .int .u8 240, .int .u8 240, .int .u8 240, .int .u8 240, .int .u8 240, .int .u8 240, .int .u8 240, .int .u8 240, .int .u8 240, .int .u8 240, .int .u8 240, .int .u8 240, .int .u8 240, .int .u8 240, .int .u8 240, .int .u8 240, .int .u8 240, .int .u8 240, .int .u8 240, .int .u8 240, .int .u8 240, .int .u8 240, .int .u8 240, .int .u8 240, .int .u8 240, .int .u8 240, .int .u8 240, .int .u8 240, .int .u8 240, .int .u8 240, .int .u8 240, .int .u8 240, .int .u8 240, .int .u8 240, .int .u8 240, .int .u8 240, .int .u8 240, .int .u8 240, .int .u8 240, .int .u8 240, .int .u8 240, .int .u8 240, .int .u8 240, .int .u8 240, .int .u8 240, .int .u8 240, .int .u8 240, .int .u8 240, .int .u8 240, .int .u8 240, .int .u8 240, .int .u8 240, .int .u8 240, .int .u8 240, .int .u8 240, .int .u8 240, .int .u8 240, .int .u8 240, .int .u8 240, .int .u8 240, .int .u8 240, .int .u8 240, .int .u8 240, .int .u8 240, .int .u8 240, .int .u8 240, .int .u8 240, .int .u8 240, .int .u8 240, .int .u8 240, .int .u8 240, .int .u8 240, .int .u8 240, .int .u8 240, .int .u8 240, .int .u8 240, .int .u8 240, .int .u8 240, .int .u8 240, .int .u8 240, .int .u8 240, .int .u8 240, .int .u8 240, .int .u8 240, .int .u8 240, .int .u8 240, .int .u8 240, .int .u8 240, .int .u8 240, .int .u8 241, .int .u8 241, .int .u8 241, .int .u8 241, .int .u8 241, .int .u8 241, .int .u8 241, .int .u8 241, .int .u8 241, .int .u8 241, .int .u8 241, .int .u8 241, .int .u8 241, .int .u8 241, .int .u8 241, .int .u8 241, .int .u8 241, .int .u8 241, .int .u8 241, .int .u8 241, .int .u8 241, .int .u8 241, .int .u8 241, .int .u8 241, .int .u8 241, .int .u8 241, .int .u8 241, .int .u8 241, .int .u8 241, .int .u8 241, .int .u8 241, .int .u8 241, .int .u8 241, .int .u8 241, .int .u8 241, .int .u8 241, .int .u8 241, .int .u8 241, .int .u8 241, .int .u8 241, .int .u8 241, .int .u8 241, .int .u8 241, .int .u8 241, .int .u8 241, .int .u8 241, .int .u8 241, .int .u8 241, .int .u8 241, .int .u8 241, .int .u8 241, .int .u8 241, .int .u8 241, .int .u8 241, .int .u8 241, .int .u8 241, .int .u8 241, .int .u8 241, .int .u8 241, .int .u8 241, .int .u8 241, .int .u8 241, .int .u8 241, .int .u8 241, .int .u8 241, .int .u8 241, .int .u8 2, .int .u8 2, .int .u8 2, .int .u8 2, .int .u8 2, .int .u8 2, .int .u8 2, .int .u8 2, .int .u8 2, .int .u8 2, .int .u8 2, .int .u8 2, .int .u8 2, .int .u8 2, .int .u8 2, .int .u8 2, .int .u8 2, .int .u8 2, .int .u8 2, .int .u8 2, .int .u8 2, .int .u8 2, .int .u8 2, .int .u8 2, .int .u8 2, .int .u8 2, .int .u8 2, .int .u8 2, .int .u8 2, .int .u8 2, .int .u8 19, .int .u8 3, .int .u8 3, .int .u8 3, .int .u8 3, .int .u8 3, .int .u8 3, .int .u8 3, .int .u8 3, .int .u8 3, .int .u8 3, .int .u8 3, .int .u8 3, .int .u8 35, .int .u8 3, .int .u8 3, .int .u8 52, .int .u8 4, .int .u8 4, .int .u8 4, .int .u8 68, .int .u8 241, .int .u8 241, .int .u8 241, .int .u8 241, .int .u8 241, .int .u8 241, .int .u8 241, .int .u8 241, .int .u8 241, .int .u8 241, .int .u8 241] }
theorem laid_met (os : Os) (args : Array Value) : laidMet Tryz.prog laidVars ((laidWorld os).forCall (fun _ _ => 0) ⟨#[], args, []⟩).memory :=
 laidMet_of_run3 10 (by kernel_rfl) (by kernel_rfl) (by kernel_rfl)
end Go.Proofs.YtfgpfghpciddmaaGreatDoor.rb

namespace Go.Proofs.YtfgpfghpciddmaaGreatDoor.rb
open Rb Go.Shelf Go.RowKit
def laysM171_ren : Go.Shelf.Ren := ⟨fun | 171 => 10 | 243 => 25 | 246 => 41 | 283 => 42 | 284 => 43 | 285 => 44 | 286 => 45 | 129 => 69 | 317 => 68 | 318 => 70 | 319 => 71 | 320 => 72 | 337 => 106 | 338 => 107 | n => n, fun | 3 => 3 | 9 => 9 | 2 => 2 | 4 => 4 | 171 => 113 | 0 => 0 | 53 => 40 | 37 => 22 | 5 => 5 | 173 => 116 | 212 => 153 | 51 => 65 | 20 => 20 | 213 => 154 | 46 => 156 | 232 => 303 | 233 => 304 | n => n, fun | 17 => 0 | 18 => 1 | 19 => 2 | n => n⟩
theorem laysM171 : Go.Proofs.LaysM.n171 Tryz.prog laysM171_ren := {
  mixed := by kernel_rfl
  f129 := Tryz.func69.trans (congrArg some (by kernel_rfl))
  f171 := Tryz.func10.trans (congrArg some (by kernel_rfl))
  f243 := Tryz.func25.trans (congrArg some (by kernel_rfl))
  f246 := Tryz.func41.trans (congrArg some (by kernel_rfl))
  f283 := Tryz.func42.trans (congrArg some (by kernel_rfl))
  f284 := Tryz.func43.trans (congrArg some (by kernel_rfl))
  f285 := Tryz.func44.trans (congrArg some (by kernel_rfl))
  f286 := Tryz.func45.trans (congrArg some (by kernel_rfl))
  f317 := Tryz.func68.trans (congrArg some (by kernel_rfl))
  f318 := Tryz.func70.trans (congrArg some (by kernel_rfl))
  f319 := Tryz.func71.trans (congrArg some (by kernel_rfl))
  f320 := Tryz.func72.trans (congrArg some (by kernel_rfl))
  f337 := Tryz.func106.trans (congrArg some (by kernel_rfl))
  f338 := Tryz.func107.trans (congrArg some (by kernel_rfl))
  t0 := Tryz.underlying0
  a0 := Tryz.isAgg0
  z0 := Tryz.sizeOf0
  v0 := Tryz.zeroValue0
  t2 := Tryz.underlying2
  a2 := Tryz.isAgg2
  z2 := Tryz.sizeOf2
  v2 := Tryz.zeroValue2
  t3 := Tryz.underlying3
  a3 := Tryz.isAgg3
  z3 := Tryz.sizeOf3
  v3 := Tryz.zeroValue3
  t4 := Tryz.underlying4
  a4 := Tryz.isAgg4
  z4 := Tryz.sizeOf4
  v4 := Tryz.zeroValue4
  t5 := Tryz.underlying5
  a5 := Tryz.isAgg5
  z5 := Tryz.sizeOf5
  v5 := Tryz.zeroValue5
  t9 := Tryz.underlying9
  a9 := Tryz.isAgg9
  z9 := Tryz.sizeOf9
  v9 := Tryz.zeroValue9
  t20 := Tryz.underlying20
  a20 := Tryz.isAgg20
  z20 := Tryz.sizeOf20
  v20 := Tryz.zeroValue20
  t37 := Tryz.underlying22
  a37 := Tryz.isAgg22
  z37 := Tryz.sizeOf22
  v37 := Tryz.zeroValue22
  t46 := Tryz.underlying156
  a46 := Tryz.isAgg156
  z46 := Tryz.sizeOf156
  v46 := Tryz.zeroValue156
  t51 := Tryz.underlying65
  a51 := Tryz.isAgg65
  z51 := Tryz.sizeOf65
  v51 := Tryz.zeroValue65
  t53 := Tryz.underlying40
  a53 := Tryz.isAgg40
  z53 := Tryz.sizeOf40
  v53 := Tryz.zeroValue40
  t171 := Tryz.underlying113
  a171 := Tryz.isAgg113
  z171 := Tryz.sizeOf113
  v171 := Tryz.zeroValue113
  t173 := Tryz.underlying116
  a173 := Tryz.isAgg116
  z173 := Tryz.sizeOf116
  v173 := Tryz.zeroValue116
  t212 := Tryz.underlying153
  a212 := Tryz.isAgg153
  z212 := Tryz.sizeOf153
  v212 := Tryz.zeroValue153
  t213 := Tryz.underlying154
  a213 := Tryz.isAgg154
  z213 := Tryz.sizeOf154
  t232 := Tryz.underlying303
  a232 := Tryz.isAgg303
  z232 := Tryz.sizeOf303
  v232 := Tryz.zeroValue303
  t233 := Tryz.underlying304
  a233 := Tryz.isAgg304
  z233 := Tryz.sizeOf304
  v233 := Tryz.zeroValue304
  g17 := by kernel_rfl
  g18 := by kernel_rfl
  g19 := by kernel_rfl
  i0 := by kernel_rfl
  i2 := by kernel_rfl
  i3 := by kernel_rfl
  i4 := by kernel_rfl
  i5 := by kernel_rfl
  i9 := by kernel_rfl
  i20 := by kernel_rfl
  i37 := by kernel_rfl
  i46 := by kernel_rfl
  i51 := by kernel_rfl
  i53 := by kernel_rfl
  i171 := by kernel_rfl
  i173 := by kernel_rfl
  i212 := by kernel_rfl
  i232 := by kernel_rfl
  i233 := by kernel_rfl
  m17 := by kernel_rfl
  m18 := by kernel_rfl
  m19 := by kernel_rfl }
theorem ten_eq : tenTab = Go.Lib.pow10Tab := by kernel_rfl
theorem tab10 {W : World} {G : Ghost} {H : AH} (hG : GOX C W G H) : Go.Lib.TabIs Tryz.prog W "internal/strconv.uint64pow10" .u64 Go.Lib.pow10Tab := by
 obtain ⟨⟨cs, t, fr, h1, h2⟩, -⟩ := hG.2 0 pow10tab rfl (by unfold pow10tab tenTab; simp)
 have hv := hG.1 0 pow10tab rfl
 have key : ∀ j, j < tenTab.length → cs[j]? = some (.int .u64 (tenTab[j]?.getD 0)) := by
  intro j hj
  generalize hX : (Value.pointer (some ⟨0, 0, none⟩)) = X at hv
  generalize hY : AV.fptr pow10tab = Y at hv
  cases hv with
  | fptr cells b o Vs hc hv =>
   cases hX
   cases hY
   have hcj : pow10tab[j]? = some (.int .u64 (tenTab[j]?.getD 0)) := by
    unfold pow10tab
    rw [List.getElem?_map, List.getElem?_eq_getElem hj]
    rfl
   have e1 := (hc j _ hcj).2
   have e2 := hv j _ hcj
   rw [Nat.zero_add] at e1
   generalize Vs j = U at e1 e2
   cases e2
   simpa [World.cell?, h1] using e1
  | bot => cases hY
  | _ => cases hY
 unfold Go.Lib.TabIs World.var?
 rw [gT0]
 simp only [Option.bind_some, h1, Option.some.injEq]
 rw [← ten_eq]
 have hl : pow10tab.length = tenTab.length := by simp [pow10tab]
 apply Array.ext
 · simp [h2, hl]
 · intro i i1 i2
   have hi : i < tenTab.length := by simpa using i2
   have := key i hi
   rw [Array.getElem?_eq_getElem i1] at this
   rw [Option.some.inj this]
   simp [List.getElem?_eq_getElem hi]
theorem below_grow (w : World) (k : Nat) (os : Array Obj) : Below w.heap.size w (Go.Sort.grow (w.drewN k) os) :=
 ⟨rfl, rfl, rfl, by simp [Go.Sort.grow], fun i hi => by
   show (w.heap ++ os)[i]? = w.heap[i]?
   rw [Array.getElem?_append_left hi]⟩
theorem itoaOK (n : Int) (h0 : -9223372036854775808 ≤ n) (h1 : n ≤ 9223372036854775807) (H : AH) (Q : Post) (hQ : Q (.str (Go.Lib.itoa n)) H) : ACall C 10 [.int .i64 n] H Q := by
 refine ⟨⟨_, _, hQ⟩, fun f hf G W Vs hG hrel hargs => ?_⟩
 obtain rfl : f = 10 := by
  have : C.F 10 = some 10 := by kernel_rfl
  rw [this] at hf; exact (Option.some.inj hf).symm
 obtain ⟨hl, hv⟩ := hargs
 obtain ⟨Vl⟩ := Vs
 match Vl, hl with
 | [V0], _ =>
  have e0 := (hv 0 _ V0 rfl rfl).int_inv
  subst e0
  refine (Any.strconv_Itoa laysM171 n h0 h1 W (tab10 hG)).mono fun e w' ⟨he, k, os, hw⟩ => ?_
  subst hw
  have hbel := below_grow W k os
  exact ⟨_, _, H, G, he, hQ, .str _, rel_below hbel hrel, step_below hbel hrel⟩
open Go.Lib in
theorem holds_zero0 (w : World) (T : TypeId) (nd : Nat) (hs : nd ≤ 24) : Go.Sort.Holds (fun (b : UInt8) => Value.int .u8 (b.toNat : Int)) (w.alloc (.cells zeros24 T)) w.heap.size 0 (Array.replicate nd (0 : UInt8)) := fun j hj => by
 have hj' : j < nd := by simpa using hj
 refine ⟨?_, World.frozen?_alloc_new _ _ _ _⟩
 rw [World.cell?_alloc_new, zeros24_at _ (by omega), getElem!_pos _ j hj]
 simp
theorem fin_pos0 (w : World) (o : Obj) (dk : Array UInt8) (k : Nat) : ∃ os, (Go.Sort.putRow (fun (b : UInt8) => Value.int .u8 (b.toNat : Int)) (w.alloc o) w.heap.size 0 dk).drewN k = Go.Sort.grow (w.drewN k) os := by
 rw [Go.Sort.alloc_eq_grow]
 obtain ⟨os', _, e⟩ := Go.Sort.putRow_grow_new (fun (b : UInt8) => Value.int .u8 (b.toNat : Int)) w #[o] w.heap.size 0 dk (Nat.le_refl _)
 exact ⟨os', by rw [e]; rfl⟩
set_option maxHeartbeats 2000000 in
set_option maxRecDepth 100000 in
theorem formatUint_calls (u : Nat) (hu64 : u < 18446744073709551616) (w : World) (htab : Lib.TabIs Tryz.prog w "internal/strconv.uint64pow10" .u64 Lib.pow10Tab) :
  Calls Tryz.prog 26 #[.int .u64 u, .int .i64 10] w fun e w' => e = .returned (.string ⟨(Lib.decDigits u).toArray⟩) ∧ ∃ k os, w' = Go.Sort.grow (w.drewN k) os := by
 by_cases hs : u < 100
 · go_enter Tryz.func26, Tryz.ntmps26
   go_wp2_with (refine (Any.internal_strconv_small { laysM171 with } u hs _).mono ?_; rintro e w' ⟨rfl, rfl⟩)
   go_ret
   exact ⟨rfl, 0, #[], by simp [World.drewN_zero]⟩
 · have hu1 : 1 ≤ u := by omega
   have hnd20 : Lib.nDigits u ≤ 20 := by have := Lib.numDigits_eq u hu1 hu64; split at this <;> omega
   have hb3 : Lib.nDigits u ≤ 24 := by omega
   have hal : Tryz.prog.arrayLen 113 = 24 := by simp [Program.arrayLen, Tryz.underlying113]
   have hsl1 : ∀ W, (Instr.sliceAt 113 (.pointer (some ⟨w.heap.size, 0, none⟩)) none (some (.int .i64 (Lib.nDigits u : Int))) none).run Tryz.prog W = .ok (.slice (some ⟨w.heap.size, 0, none⟩) (Lib.nDigits u) 24) W := fun W => by
    rw [run_sliceAt_array_h W 113 ⟨w.heap.size, 0, none⟩ (by simp [Program.arrayLen, Program.elem, Tryz.underlying113]) .i64 (Lib.nDigits u : Int) (by omega) (by rw [hal]; omega)]
    all_goals (try (go_simp; done))
    all_goals (try (go_simp; omega))
   have hH0 := holds_zero0 w 113 (Lib.nDigits u) (by omega)
   have hfmt := Any.internal_strconv_formatBase10 { laysM171 with } w.heap.size 0 24 u (Array.replicate (Lib.nDigits u) 0) (w.alloc (.cells Lib.zeros24 113)) hH0 (by rw [Array.size_replicate]; exact Lib.lt_pow_nDigits u) hu64 (by rw [Array.size_replicate]; omega)
   rw [Array.size_replicate] at hfmt
   have HH0 := Lib.hid hH0
   clear hH0 hal
   go_enter Tryz.func26, Tryz.ntmps26
   go_wp2_with (refine (Any.internal_strconv_numDigits { laysM171 with } u hu1 hu64 _ (Lib.tabIs_alloc htab _)).mono ?_; rintro e w' ⟨rfl, rfl⟩)
   refine hfmt.mono ?_
   rintro e w' ⟨rfl, k, v', dk, rfl, hF⟩
   have hcv : (convert 22 9 (.slice (some ⟨w.heap.size, 0, none⟩) (Lib.nDigits u) 24)).run Tryz.prog ((Go.Sort.putRow (fun (b : UInt8) => Value.int .u8 (b.toNat : Int)) (w.alloc (.cells Lib.zeros24 113)) w.heap.size 0 dk).drewN k) = .ok (.string ⟨(Lib.decDigits u).toArray⟩) ((Go.Sort.putRow (fun (b : UInt8) => Value.int .u8 (b.toNat : Int)) (w.alloc (.cells Lib.zeros24 113)) w.heap.size 0 dk).drewN k) := by
    have h := run_convert_bytes_back (P := Tryz.prog) ((Go.Sort.putRow (fun (b : UInt8) => Value.int .u8 (b.toNat : Int)) (w.alloc (.cells Lib.zeros24 113)) w.heap.size 0 dk).drewN k) 22 9 5 ⟨w.heap.size, 0, none⟩ 24 (Lib.decDigits u) Tryz.underlying22 Tryz.underlying5 Tryz.underlying9 (fun j hj => by
      rw [Lib.row_is_numeral hF j hj, Lib.add_plain, World.cell?_drewN]
      exact Go.Sort.cell?_putRow (fun (b : UInt8) => Value.int .u8 (b.toNat : Int)) _ w.heap.size 0 _ dk HH0.out (by rw [hF.size, Array.size_replicate]) j (by rw [hF.size]; rw [Lib.decDigits_length] at hj; exact hj))
    rw [Lib.decDigits_length] at h
    exact h
   go_wp2
   go_ret
   obtain ⟨os, eo⟩ := fin_pos0 w (.cells Lib.zeros24 113) dk k
   exact ⟨rfl, k, os, eo⟩
theorem fmtOK (u : Nat) (hu64 : u < 18446744073709551616) (H : AH) (Q : Post) (hQ : Q (.str (Go.Lib.decDigits u)) H) : ACall C 26 [.int .u64 u, .int .i64 10] H Q := by
 refine ⟨⟨_, _, hQ⟩, fun f hf G W Vs hG hrel hargs => ?_⟩
 obtain rfl : f = 26 := by
  have : C.F 26 = some 26 := by kernel_rfl
  rw [this] at hf; exact (Option.some.inj hf).symm
 obtain ⟨hl, hv⟩ := hargs
 obtain ⟨Vl⟩ := Vs
 match Vl, hl with
 | [V0, V1], _ =>
  have e0 := (hv 0 _ V0 rfl rfl).int_inv
  have e1 := (hv 1 _ V1 rfl rfl).int_inv
  subst e0 e1
  refine (formatUint_calls u hu64 W (tab10 hG)).mono fun e w' ⟨he, k, os, hw⟩ => ?_
  subst hw
  have hbel := below_grow W k os
  exact ⟨_, _, H, G, he, hQ, .str _, rel_below hbel hrel, step_below hbel hrel⟩
end Go.Proofs.YtfgpfghpciddmaaGreatDoor.rb

namespace Rb
open Go
end Rb

namespace Rb
open Go
end Rb

namespace Rb
open Go
def cutL : List UInt8 → List UInt8 × List UInt8
 | [] => ([], [])
 | c :: r => if c = 10 then ([c], r) else (c :: (cutL r).1, (cutL r).2)
theorem cutL_lt : ∀ s : List UInt8, s ≠ [] → (cutL s).2.length < s.length
 | [], h => absurd rfl h
 | c :: r, _ => by
  unfold cutL
  split
  · simp
  · dsimp only
    by_cases hr : r = []
    · subst hr; simp [cutL]
    · have := cutL_lt r hr; simp; omega
theorem cutL_idx : ∀ s : List UInt8, (Go.Lib.indexByte s 10 = -1 ∧ cutL s = (s, [])) ∨ ∃ k : Nat, Go.Lib.indexByte s 10 = k ∧ k < s.length ∧ cutL s = (s.take (k + 1), s.drop (k + 1))
 | [] => .inl ⟨rfl, rfl⟩
 | c :: r => by
  unfold Go.Lib.indexByte cutL
  by_cases hc : c = 10
  · subst hc
    exact .inr ⟨0, by simp, by simp, by simp⟩
  · have hb : (c == 10) = false := by simpa using hc
    rw [hb, if_neg hc]
    simp only [Bool.false_eq_true, if_false]
    rcases cutL_idx r with ⟨h1, h2⟩ | ⟨k, h1, h2, h3⟩
    · left
      rw [h1, h2]
      exact ⟨by simp, rfl⟩
    · right
      refine ⟨k + 1, ?_, by simp; omega, ?_⟩
      · rw [h1]
        have : ((k : Int) == -1) = false := by
         rw [beq_eq_false_iff_ne]; omega
        rw [this]; simp
      · rw [h3]; simp
def linesN : Nat → List UInt8 → List (List UInt8)
 | 0, _ => []
 | n + 1, [] => []
 | n + 1, c :: r => (cutL (c :: r)).1 :: linesN n (cutL (c :: r)).2
def linesOf (s : List UInt8) : List (List UInt8) := linesN s.length s
theorem linesN_nil (n : Nat) : linesN n [] = [] := by cases n <;> rfl
theorem linesN_eq : ∀ (n m : Nat) (s : List UInt8), s.length ≤ n → s.length ≤ m → linesN n s = linesN m s
 | 0, m, s, h, _ => by
  obtain rfl : s = [] := List.length_eq_zero_iff.1 (by omega)
  rw [linesN_nil, linesN_nil]
 | n + 1, 0, s, _, h => by
  obtain rfl : s = [] := List.length_eq_zero_iff.1 (by omega)
  rw [linesN_nil, linesN_nil]
 | n + 1, m + 1, [], _, _ => rfl
 | n + 1, m + 1, c :: r, h1, h2 => by
  have hl := cutL_lt (c :: r) (by simp)
  simp only [linesN]
  rw [linesN_eq n m _ (by simp at h1 hl ⊢; omega) (by simp at h2 hl ⊢; omega)]
theorem linesOf_nil : linesOf [] = [] := rfl
theorem linesOf_cons {s : List UInt8} (h : s ≠ []) : linesOf s = (cutL s).1 :: linesOf (cutL s).2 := by
 cases s with
 | nil => exact absurd rfl h
 | cons c r =>
  have hl := cutL_lt (c :: r) (by simp)
  unfold linesOf
  show linesN (r.length + 1) (c :: r) = _
  rw [linesN, linesN_eq r.length _ _ (by simp at hl ⊢; omega) (Nat.le_refl _)]
end Rb

namespace Rb
open Go
abbrev Stp : Type := Int × Int × Int
theorem itoa_short {n : Int} (h0 : -9223372036854775808 ≤ n) (h1 : n ≤ 9223372036854775807) : (Go.Lib.itoa n).length ≤ 40 := by
 have dec : ∀ (k u : Nat), u < 10 ^ k → 0 < k → (Go.Lib.decDigits u).length ≤ k := by
  intro k
  induction k with
  | zero => intro u _ h; omega
  | succ k ih =>
   intro u hu _
   rw [Go.Lib.decDigits]
   split
   · simp
   · rename_i hge
     rcases Nat.eq_zero_or_pos k with rfl | hk
     · simp at hu; omega
     · have := ih (u / 10) (by rw [Nat.pow_succ] at hu; omega) hk
       simp; omega
 unfold Go.Lib.itoa
 split
 · have := dec 20 n.natAbs (by omega) (by omega)
   simp; omega
 · have := dec 20 n.toNat (by omega) (by omega)
   omega
end Rb

namespace Rb
open Go
structure GOut where
 bytes : List Int
 prints : List (List Int)
 ends : List Int
def prC (p : List Int) : List AV := [lstA (i1 .u64) p]
def GOut.cells (o : GOut) : List AV := [lstA (i1 .u8) o.bytes, lstA prC o.prints, lstA (i1 .i64) o.ends]
structure GOut.ok (o : GOut) : Prop where
 bytes : ∀ x ∈ o.bytes, 0 ≤ x ∧ x ≤ 255
 lb : o.bytes.length ≤ 9223372036854775807
 lp : o.prints.length ≤ 9223372036854775807
 le : o.ends.length ≤ 9223372036854775807
 nums : ∀ p ∈ o.prints, ∀ x ∈ p, 0 ≤ x ∧ x ≤ 18446744073709551615
theorem GOut.ok_of {x1 : List Int} {x2 : List (List Int)} {x3 : List Int} (h1 : x1.length ≤ maxLen ∧ ∀ z ∈ x1, IntKind.min .u8 ≤ z ∧ z ≤ IntKind.max .u8) (h2 : x2.length ≤ maxLen ∧ ∀ p ∈ x2, p.length ≤ maxLen ∧ ∀ z ∈ p, IntKind.min .u64 ≤ z ∧ z ≤ IntKind.max .u64)
  (h3 : x3.length ≤ maxLen ∧ ∀ z ∈ x3, IntKind.min .i64 ≤ z ∧ z ≤ IntKind.max .i64) : GOut.ok ⟨x1, x2, x3⟩ := by
 have hm : maxLen = 9223372036854775807 := by decide
 rw [hm] at h1 h2 h3
 refine ⟨fun z hz => ?_, h1.1, h2.1, h3.1, fun p hp z hz => ?_⟩
 · have := h1.2 z hz
   simp only [IntKind.min, IntKind.max, IntKind.signed, IntKind.bits] at this
   simp at this
   omega
 · have := (h2.2 p hp).2 z hz
   simp only [IntKind.min, IntKind.max, IntKind.signed, IntKind.bits] at this
   simp at this
   omega
theorem out_box (o : GOut) (H : AH) : aboxv H false 3 (.agg o.cells) = some (.fptr o.cells, H) := by unfold aboxv; rw [if_pos ⟨rfl, rfl⟩]; rfl
theorem out_f0 (o : GOut) : afaddr 0 (.fptr o.cells) = some (.fptr (o.cells.drop 0)) := rfl
theorem out_f1 (o : GOut) : afaddr 1 (.fptr o.cells) = some (.fptr (o.cells.drop 1)) := rfl
theorem out_f2 (o : GOut) : afaddr 2 (.fptr o.cells) = some (.fptr (o.cells.drop 2)) := rfl
theorem out_l0 (o : GOut) (H : AH) : aload H 1 false (.fptr (o.cells.drop 0)) = some (lstA (i1 .u8) o.bytes) := rfl
theorem out_l1 (o : GOut) (H : AH) : aload H 1 false (.fptr (o.cells.drop 1)) = some (lstA prC o.prints) := rfl
theorem out_l2 (o : GOut) (H : AH) : aload H 1 false (.fptr (o.cells.drop 2)) = some (lstA (i1 .i64) o.ends) := rfl
theorem out_all (o : GOut) (H : AH) : aload H 3 true (.fptr o.cells) = some (.agg o.cells) := rfl
theorem avNs_int (k : IntKind) : ∀ p : List Int, avNs (p.flatMap (i1 k)) = p.length
 | [] => rfl
 | x :: r => by
  rw [List.flatMap_cons, avNs_app, avNs_int k r, List.length_cons]
  simp [i1, avNs, avN]; omega
theorem avNs_pr : ∀ (ps : List (List Int)) (p : List Int), p ∈ ps → p.length ≤ avNs (ps.flatMap prC)
 | q :: r, p, h => by
  rw [List.flatMap_cons, avNs_app]
  have e : avNs (prC q) = q.length + 1 := by simp [prC, lstA, avNs, avN, avNs_int]
  rcases List.mem_cons.1 h with rfl | h
  · omega
  · have := avNs_pr r p h; omega
theorem GOut.short {o : GOut} (h : avNs o.cells ≤ 1048576) : ∀ p ∈ o.prints, p.length ≤ 1048576 := by
 intro p hp
 have h1 := avNs_pr o.prints p hp
 simp only [GOut.cells, lstA, avNs, avN] at h
 omega
theorem sadd (a b : List UInt8) (h : a.length + b.length ≤ 9223372036854775807) : abin .add (.str a) (.str b) = some (.str (a ++ b)) := by
 show abinStr .add a b = _
 simp only [abinStr]
 rw [if_pos h]
theorem seql (a b : List UInt8) : abin .eql (.str a) (.str b) = some (.bool (a == b)) := rfl
theorem dec_len : ∀ (k u : Nat), u < 10 ^ k → 0 < k → (Go.Lib.decDigits u).length ≤ k := by
 intro k
 induction k with
 | zero => intro u _ h; omega
 | succ k ih =>
  intro u hu _
  rw [Go.Lib.decDigits]
  split
  · simp
  · rename_i hge
    rcases Nat.eq_zero_or_pos k with rfl | hk
    · simp at hu; omega
    · have := ih (u / 10) (by rw [Nat.pow_succ] at hu; omega) hk
      simp; omega
end Rb
namespace Go.Proofs.YtfgpfghpciddmaaGreatDoor.rb
open Rb Go
section
variable {H : AH} {Q : Post}
theorem digitsOK (n : Int) (h0 : -9223372036854775808 ≤ n) (h1 : n ≤ 9223372036854775807) (hQ : Q (.str (Go.Lib.itoa n)) H) : ACall C K.f15 [.int .i64 n] H Q := by
 refine S.cl_f15 cl_Sh ?_
 have hlen : (Go.Lib.decDigits n.natAbs).length ≤ 40 := by
  have := itoa_short h0 h1
  unfold Go.Lib.itoa at this
  split at this
  · simp at this; omega
  · rwa [show n.toNat = n.natAbs from by omega] at this
 have main : ∀ (u : Nat) (out : List UInt8), u < 18446744073709551616 → Go.Lib.decDigits u ++ out = Go.Lib.decDigits n.natAbs →
   LoopP (S.f15_l2 (ACall C) (.int .i64 n) Q) ([.str out, .int .u64 u], H) := by
  intro u
  induction u using Nat.strongRecOn with
  | _ u ih =>
   intro out hu he
   refine LoopP.step ?_
   have hol : out.length ≤ 40 := by
    have := congrArg List.length he
    simp at this; omega
   have hr : ((u : Int).tmod 10) = ((u % 10 : Nat) : Int) := (Int.ofNat_tmod u 10).symm
   have hq : ((u : Int).tdiv 10) = ((u / 10 : Nat) : Int) := (Int.ofNat_tdiv u 10).symm
   simp only [S.f15_l2, sl_zero, sl_succ]
   rw [abin_rem _ _ _ (by decide), hr]
   simp only [Do_of, abin_add]
   rw [wrap_u64 (by omega) (by omega)]
   simp only [aconv_int, Do_of]
   rw [wrap_u8 (by omega) (by omega)]
   have hbs : abslice H false 1 1 [.int .u8 0] [(0, 1, .int .u8 (48 + ((u % 10 : Nat) : Int)))] = some (.lst .full 1 [.int .u8 (48 + ((u % 10 : Nat) : Int))], H) := rfl
   have hst : abstr H (.lst .full 1 [.int .u8 (48 + ((u % 10 : Nat) : Int))]) = some (.str [UInt8.ofNat (48 + u % 10)]) := by
    have this := bytes_str (H := H) (xs := [48 + ((u % 10 : Nat) : Int)]) (fun x hx => by simp at hx; subst hx; omega)
    have hz : (48 + ((u % 10 : Nat) : Int)).toNat = 48 + u % 10 := by omega
    have h2 : ([48 + ((u % 10 : Nat) : Int)].map fun x => UInt8.ofNat x.toNat) = [UInt8.ofNat (48 + u % 10)] := by rw [List.map_cons, hz]; rfl
    rw [h2] at this
    exact this
   rw [hbs]
   simp only [DoH_some]
   rw [hst]
   simp only [Do_of]
   rw [sadd _ _ (by simp; omega)]
   simp only [Do_of]
   rw [abin_quo _ _ _ (by decide), hq, wrap_u64 (by omega) (by omega)]
   simp only [Do_of, abin_eql, Gd_true]
   by_cases hz : u / 10 = 0
   · rw [if_pos (by simp; omega)]
     simp only [JoinP_def, S.f15_k1, sl_zero, abin_lss, Do_of, Gd_true]
     have hd : Go.Lib.decDigits u = [UInt8.ofNat (48 + u % 10)] := by
      rw [Go.Lib.decDigits, dif_pos (by omega), Nat.mod_eq_of_lt (by omega)]
     rw [hd] at he
     by_cases hn : n < 0
     · rw [if_pos (by simpa using hn)]
       simp (disch := first | decide | (simp only [List.length_append, List.length_cons, List.length_nil]; omega)) only [sadd, Do_of]
       rw [he]
       simpa [Go.Lib.itoa, hn] using hQ
     · rw [if_neg (by simpa using hn), he]
       have : n.natAbs = n.toNat := by omega
       simpa [Go.Lib.itoa, hn, this] using hQ
   · rw [if_neg (by simp; omega)]
     refine ih (u / 10) (by omega) _ (by omega) ?_
     rw [← he, Go.Lib.decDigits.eq_def u, dif_neg (by omega)]
     simp
 simp only [S.f15, aconv_int, Do_of, abin_lss, Gd_true]
 by_cases hn : n < 0
 · rw [if_pos (by simpa using hn)]
   have hw : IntKind.wrap .u64 n = n + 18446744073709551616 := by
    simp [IntKind.wrap, IntKind.signed, IntKind.bits]; omega
   have hneg : aun .neg (.int .u64 (n + 18446744073709551616)) = some (.int .u64 ((n.natAbs : Nat) : Int)) := by
    simp [aun, IntKind.wrap, IntKind.signed, IntKind.bits]; omega
   rw [hw, hneg]
   simp only [Do_of, JoinP_def, S.f15_k3, sl_zero]
   exact main _ _ (by omega) (by simp)
 · rw [if_neg (by simpa using hn), wrap_u64 (by omega) (by omega)]
   simp only [JoinP_def, S.f15_k3, sl_zero]
   have := main n.natAbs [] (by omega) (by simp)
   rwa [show ((n.natAbs : Nat) : Int) = n from by omega] at this
theorem greatOK (n : Nat) (h1 : n < 18446744073709551616) (hQ : Q (.str (Go.Lib.decDigits n)) H) : ACall C K.f16 [.int .u64 n] H Q := by
 refine S.cl_f16 cl_Sh ?_
 have hlen : (Go.Lib.decDigits n).length ≤ 40 := by have := dec_len 20 n (by omega) (by omega); omega
 have main : ∀ (u : Nat) (out : List UInt8), u < 18446744073709551616 → Go.Lib.decDigits u ++ out = Go.Lib.decDigits n →
   LoopP (S.f16_l1 (ACall C) Q) ([.int .u64 u, .str out], H) := by
  intro u
  induction u using Nat.strongRecOn with
  | _ u ih =>
   intro out hu he
   refine LoopP.step ?_
   have hol : out.length ≤ 40 := by
    have := congrArg List.length he
    simp at this; omega
   have hr : ((u : Int).tmod 10) = ((u % 10 : Nat) : Int) := (Int.ofNat_tmod u 10).symm
   have hq : ((u : Int).tdiv 10) = ((u / 10 : Nat) : Int) := (Int.ofNat_tdiv u 10).symm
   simp only [S.f16_l1, sl_zero, sl_succ]
   rw [abin_rem _ _ _ (by decide), hr]
   simp only [Do_of, abin_add]
   rw [wrap_u64 (by omega) (by omega)]
   simp only [aconv_int, Do_of]
   rw [wrap_u8 (by omega) (by omega)]
   have hbs : abslice H false 1 1 [.int .u8 0] [(0, 1, .int .u8 (48 + ((u % 10 : Nat) : Int)))] = some (.lst .full 1 [.int .u8 (48 + ((u % 10 : Nat) : Int))], H) := rfl
   have hst : abstr H (.lst .full 1 [.int .u8 (48 + ((u % 10 : Nat) : Int))]) = some (.str [UInt8.ofNat (48 + u % 10)]) := by
    have this := bytes_str (H := H) (xs := [48 + ((u % 10 : Nat) : Int)]) (fun x hx => by simp at hx; subst hx; omega)
    have hz : (48 + ((u % 10 : Nat) : Int)).toNat = 48 + u % 10 := by omega
    have h2 : ([48 + ((u % 10 : Nat) : Int)].map fun x => UInt8.ofNat x.toNat) = [UInt8.ofNat (48 + u % 10)] := by rw [List.map_cons, hz]; rfl
    rw [h2] at this
    exact this
   rw [hbs]
   simp only [DoH_some]
   rw [hst]
   simp only [Do_of]
   rw [sadd _ _ (by simp; omega)]
   simp only [Do_of]
   rw [abin_quo _ _ _ (by decide), hq, wrap_u64 (by omega) (by omega)]
   simp only [Do_of, abin_eql, Gd_true]
   by_cases hz : u / 10 = 0
   · rw [if_pos (by simp; omega)]
     have hd : Go.Lib.decDigits u = [UInt8.ofNat (48 + u % 10)] := by
      rw [Go.Lib.decDigits, dif_pos (by omega), Nat.mod_eq_of_lt (by omega)]
     rw [hd] at he
     rw [show [UInt8.ofNat (48 + u % 10)] ++ out = Go.Lib.decDigits n from he]
     exact hQ
   · rw [if_neg (by simp; omega)]
     refine ih (u / 10) (by omega) _ (by omega) ?_
     rw [← he, Go.Lib.decDigits.eq_def u, dif_neg (by omega)]
     simp
 simp only [S.f16]
 exact main n [] h1 (by simp)
end
theorem fmtS (n : Nat) (h : n < 18446744073709551616) (H : AH) (Q : Post) (hQ : Q (.str (Go.Lib.decDigits n)) H) : ACall C K.f12 [.int .u64 n, .int .i64 10] H Q := by
 refine S.cl_f12 cl_Sh ?_
 unfold S.f12
 exact fmtOK n h _ _ hQ
def hd (k : Nat) : UInt8 := UInt8.ofNat (if k < 10 then 48 + k else 87 + k)
def hx (n : Nat) : List UInt8 := [hd (n / 16), hd (n % 16)]
def hexL (f : Nat) : Nat → List (Nat × List AV × AV)
 | 0 => []
 | n + 1 => (f, [.int .u64 (.ofNat n), .int .i64 (.ofNat 2)], .str (hx n)) :: hexL f n
theorem hexL_mem (f : Nat) : ∀ (m n : Nat), n < m → (f, [.int .u64 (.ofNat n), .int .i64 (.ofNat 2)], .str (hx n)) ∈ hexL f m
 | m + 1, n, h => by
  unfold hexL
  rcases Nat.lt_or_ge n m with h1 | h1
  · exact .tail _ (hexL_mem f m n h1)
  · obtain rfl : n = m := by omega
    exact .head _
theorem allW_mem {B : CallsB} : ∀ {L : List (Nat × List AV × AV)} {e : Nat × List AV × AV}, allW B L = true → e ∈ L → entryW B e = true
 | x :: r, e, h, hm => by
  simp only [allW, Bool.and_eq_true] at h
  rcases List.mem_cons.1 hm with rfl | hm
  · exact h.1
  · exact allW_mem h.2 hm
theorem hex14_run : forced (allW (runG []) (hexL 14 256)) = true := by kernel_rfl
theorem hex22_run : forced (allW (runG []) (hexL 22 256)) = true := by kernel_rfl
theorem hex_of {f : Nat} (h : allW (runG []) (hexL f 256) = true) (n : Nat) (hn : n < 256) (H : AH) (Q : Post) (hQ : Q (.str (hx n)) H) : ACall C f [.int .u64 n, .int .i64 2] H Q := by
 have h1 := allW_mem h (hexL_mem f 256 n hn)
 simp only [entryW, Bool.and_eq_true] at h1
 exact run_anyW gtC (runG_ok memL_nil) h1.1 h1.2.1 h1.2.2 H Q hQ
theorem hexA (n : Nat) (hn : n < 256) (H : AH) (Q : Post) (hQ : Q (.str (hx n)) H) : ACall C K.f14 [.int .u64 n, .int .i64 2] H Q := hex_of (of_forced hex14_run) n hn H Q hQ
theorem hexB (n : Nat) (hn : n < 256) (H : AH) (Q : Post) (hQ : Q (.str (hx n)) H) : ACall C K.f22 [.int .u64 n, .int .i64 2] H Q := hex_of (of_forced hex22_run) n hn H Q hQ
end Go.Proofs.YtfgpfghpciddmaaGreatDoor.rb

namespace Rb
open Go
def OwnT (n0 : Nat) (H : AH) (sz : Nat) (x : AV) (len : Nat) (cells : List AV) : Prop :=
 ∃ tk, x = .lst tk len cells ∧ cells.length = len * sz ∧ ((tk = .nil ∧ len = 0) ∨ tk = .full ∨ ∃ t, tk = .own t ∧ n0 ≤ t ∧ At H t (.tok (len * sz) sz))
theorem OwnT.nil (n0 : Nat) (H : AH) (sz : Nat) : OwnT n0 H sz (.lst .nil 0 []) 0 [] := ⟨.nil, rfl, by simp, .inl ⟨rfl, rfl⟩⟩
theorem OwnT.frame {n0 : Nat} {H H' : AH} {sz len : Nat} {x : AV} {cells : List AV} (h : OwnT n0 H sz x len cells) (k : ∀ t a b, At H t (.tok a b) → At H' t (.tok a b)) : OwnT n0 H' sz x len cells := by
 obtain ⟨tk, hx, hc, ht⟩ := h
 refine ⟨tk, hx, hc, ?_⟩
 rcases ht with ht | ht | ⟨t, h1, h2, h3⟩
 · exact .inl ht
 · exact .inr (.inl ht)
 · exact .inr (.inr ⟨t, h1, h2, k t _ _ h3⟩)
def Left (n0 : Nat) (H H' : AH) : Prop := H.n ≤ H'.n ∧ ∀ i o, At H i o → (i < n0 ∨ ∀ a b, o ≠ .tok a b) → At H' i o
theorem OwnT.app {n0 sz bytes len m : Nat} {H : AH} {x y : AV} {cells news : List AV} {K : Post} (h : OwnT n0 H sz x len cells) (hn0 : n0 ≤ H.n) (hy : acells H sz y = some (m, news)) (hn : news.length = m * sz) (hs : news.all AV.scalar = true) (hm : m ≠ 0)
  (hb : (len + m) * bytes ≤ 140737488355328) (hl : len + m ≤ 9223372036854775807) (hK : ∀ x' H', OwnT n0 H' sz x' (len + m) (cells ++ news) → Left n0 H H' → K x' H') : DoH (aappend H false sz bytes x y) K := by
 obtain ⟨tk, rfl, hc, htk⟩ := h
 have hlen : (cells ++ news).length = (len + m) * sz := by simp [hc, hn, Nat.add_mul]
 have grow : ∀ tk : Tok, tk = .full ∨ (tk = .nil ∧ len = 0) → aappend H false sz bytes (.lst tk len cells) y = some (.lst (.own H.n) (len + m) (cells ++ news), H.push (.tok ((len + m) * sz) sz)) := by
  intro tk ht
  simp only [aappend, hy, hs, not_true_eq_false, if_false, if_neg hm]
  rw [if_neg (by simp only [Decidable.not_not]; exact ⟨hc, hb, hl⟩)]
  rcases ht with rfl | ⟨rfl, _⟩ <;> rfl
 have fresh : K (.lst (.own H.n) (len + m) (cells ++ news)) (H.push (.tok ((len + m) * sz) sz)) :=
  hK _ _ ⟨_, rfl, hlen, .inr (.inr ⟨H.n, rfl, hn0, At.new H _⟩)⟩ ⟨Nat.le_succ _, fun i o h _ => h.push _⟩
 rcases htk with ht | ht | ⟨t, rfl, h1, h2⟩
 · exact ⟨_, _, grow tk (.inr ht), fresh⟩
 · exact ⟨_, _, grow tk (.inl ht), fresh⟩
 · refine ⟨.lst (.own H.n) (len + m) (cells ++ news), (H.set t .gone).push (.tok ((len + m) * sz) sz), ?_, hK _ _ ⟨_, rfl, hlen, .inr (.inr ⟨H.n, rfl, hn0, At.new (H.set t .gone) _⟩)⟩ ⟨Nat.le_succ _, fun i o hi ho => (hi.set_ne (fun e => ?_) _).push _⟩⟩
   · simp only [aappend, hy, hs, not_true_eq_false, if_false, if_neg hm]
     rw [if_neg (by simp only [Decidable.not_not]; exact ⟨hc, hb, hl⟩)]
     simp [h2.2]
   · subst e
     rcases ho with ho | ho
     · omega
     · exact ho _ _ (hi.2.symm.trans h2.2)
theorem Left.row {n0 : Nat} {H H' : AH} {i : Nat} {cs : List AV} (k : Left n0 H H') (h : At H i (.row cs)) : At H' i (.row cs) := k.2 _ _ h (.inr fun _ _ e => by cases e)
end Rb

namespace Go.Proofs.YtfgpfghpciddmaaGreatDoor.rb
open Rb Go
def hexs (l : List Int) : List UInt8 := l.flatMap fun x => hx x.toNat
theorem hexs_len (l : List Int) : (hexs l).length = 2 * l.length := by
 induction l with
 | nil => rfl
 | cons x r ih => unfold hexs at ih ⊢; rw [List.flatMap_cons, List.length_append, ih]; simp [hx]; omega
def endS (e : Int) : List UInt8 := if e = 1 then [104, 97, 108, 116, 101, 100] else if e = 2 then [102, 97, 117, 108, 116, 101, 100] else [103, 111, 105, 110, 103]
theorem endS_len (e : Int) : (endS e).length ≤ 7 := by unfold endS; split <;> (try split) <;> decide
def prS (p : List Int) : List UInt8 := p.flatMap fun x => 32 :: Go.Lib.decDigits x.toNat
def enS (ends : List Int) (n : Nat) : List UInt8 := match ends[n]? with | some e => 32 :: endS e | none => []
theorem enS_len (ends : List Int) (n : Nat) : (enS ends n).length ≤ 8 := by
 unfold enS
 split
 · rename_i e _; have := endS_len e; simp; omega
 · simp
def thS : List UInt8 := [116, 104, 114, 101, 97, 100, 32]
def lnS (ends : List Int) (n : Nat) (p : List Int) : List UInt8 := thS ++ Go.Lib.itoa n ++ enS ends n ++ prS p
def lnsS (ends : List Int) : Nat → List (List Int) → List (List UInt8)
 | _, [] => []
 | n, p :: r => lnS ends n p :: lnsS ends (n + 1) r
def nlS (l : List (List UInt8)) : List UInt8 := l.flatMap fun s => s ++ [10]
def byS : List UInt8 := [98, 121, 116, 101, 115, 32]
def tellS (o : GOut) : List UInt8 := nlS ((byS ++ hexs o.bytes) :: lnsS o.ends 0 o.prints)
theorem prS_len : ∀ p : List Int, (∀ x ∈ p, 0 ≤ x ∧ x ≤ 18446744073709551615) → (prS p).length ≤ 21 * p.length
 | [], _ => by simp [prS]
 | x :: r, h => by
  have h1 := prS_len r fun y hy => h y (.tail _ hy)
  have h2 := h x (.head _)
  have h3 := dec_len 20 x.toNat (by omega) (by omega)
  unfold prS at h1 ⊢
  rw [List.flatMap_cons, List.length_append]
  simp at h1 ⊢
  omega
structure Fit (o : GOut) : Prop extends o.ok where
 short : ∀ p ∈ o.prints, p.length ≤ 1048576
 few : o.prints.length ≤ 50
 small : o.bytes.length ≤ 500
theorem lnS_len {o : GOut} (h : Fit o) {n : Nat} (hn : n ≤ 50) {p : List Int} (hp : p ∈ o.prints) : (lnS o.ends n p).length ≤ 22021000 := by
 have h1 := prS_len p (h.nums p hp)
 have h2 := enS_len o.ends n
 have h3 := itoa_short (n := (n : Int)) (by omega) (by omega)
 have h4 := h.short p hp
 unfold lnS
 simp only [List.length_append]
 have : thS.length = 7 := rfl
 omega
theorem lnsS_len {ends : List Int} : ∀ (n : Nat) (l : List (List Int)), (lnsS ends n l).length = l.length
 | _, [] => rfl
 | n, p :: r => by rw [lnsS, List.length_cons, lnsS_len (n + 1) r, List.length_cons]
theorem lnsS_mem {o : GOut} (h : Fit o) : ∀ (n : Nat) (l : List (List Int)), n + l.length ≤ 50 → (∀ p ∈ l, p ∈ o.prints) → ∀ s ∈ lnsS o.ends n l, s.length ≤ 22021000
 | _, [], _, _, s, hs => by cases hs
 | n, p :: r, hn, hp, s, hs => by
  rw [List.length_cons] at hn
  rcases List.mem_cons.1 hs with rfl | hs
  · exact lnS_len h (by omega) (hp p (.head _))
  · exact lnsS_mem h (n + 1) r (by omega) (fun q hq => hp q (.tail _ hq)) s hs
theorem nlS_len (m : Nat) : ∀ l : List (List UInt8), (∀ s ∈ l, s.length ≤ m) → (nlS l).length ≤ (m + 1) * l.length
 | [], _ => by simp [nlS]
 | s :: r, h => by
  have h1 := nlS_len m r fun x hx => h x (.tail _ hx)
  have h2 := h s (.head _)
  unfold nlS at h1 ⊢
  rw [List.flatMap_cons, List.length_append, List.length_cons, Nat.mul_succ]
  simp at h1 ⊢
  omega
theorem pr_load (H : AH) {ps : List (List Int)} {i : Nat} {p : List Int} (h : ps[i]? = some p) : aload H 1 false (elA prC 1 ps i) = some (lstA (i1 .u64) p) := one_load (c := fun p => lstA (i1 .u64) p) H h
section
variable {H : AH} {Q : Post}
theorem endOK (e : Int) (H : AH) (Q : Post) (hQ : Q (.str (endS e)) H) : ACall C K.f11 [.int .i64 e] H Q := by
 refine S.cl_f11 cl_Sh ?_
 simp only [S.f11, abin_eql, Do_of, Gd_true]
 by_cases h1 : e = 1
 · rw [if_pos (by simpa using h1)]
   rw [endS, if_pos h1] at hQ
   exact hQ
 · rw [if_neg (by simpa using h1)]
   by_cases h2 : e = 2
   · rw [if_pos (by simpa using h2)]
     rw [endS, if_neg h1, if_pos h2] at hQ
     exact hQ
   · rw [if_neg (by simpa using h2)]
     rw [endS, if_neg h1, if_neg h2] at hQ
     exact hQ
theorem bnewOK (H : AH) : aext H (.bnew 71) [] = some (.ptr H.n 0, H.push (.bld 71 false none)) := rfl
theorem bnewAt (H : AH) : BAt (H.push (.bld 71 false none)) H.n [] := ⟨Nat.lt_succ_self _, .inl ⟨false, by show (if H.n = H.n then _ else _) = _; rw [if_pos rfl], rfl⟩⟩
theorem bytesOK {l : List Int} (hl : l.length ≤ 500) (hb : ∀ x ∈ l, 0 ≤ x ∧ x ≤ 255) (hQ : ∀ H', Q (.str (hexs l)) H') : ACall C K.f9 [lstA (i1 .u8) l] H Q := by
 refine S.cl_f9 cl_Sh ?_
 unfold S.f9
 rw [bnewOK]
 simp only [DoH_some, lstA_len', Do_of]
 have main : ∀ (ys : List Int) (i : Nat) (H1 : AH) (s : List UInt8), l.drop i = ys → BAt H1 H.n s → s ++ hexs ys = hexs l →
   LoopP (S.f9_l2 (ACall C) (lstA (i1 .u8) l) (.ptr H.n 0) (.int .i64 l.length) Q) ([.int .i64 i], H1) := by
  intro ys
  induction ys with
  | nil =>
   intro i H1 s hi hb1 he
   have hle := drop_nil_le hi
   refine LoopP.step ?_
   simp only [S.f9_l2, sl_zero, abin_lss, Do_of, Gd_true]
   rw [if_neg (by simp only [decide_eq_true_eq]; omega)]
   simp only [JoinP_def, S.f9_k1]
   refine textOK hb1 fun H2 _ _ => ?_
   have : s = hexs l := by simpa [hexs] using he
   rw [this]
   exact hQ H2
  | cons y ys ih =>
   intro i H1 s hi hb1 he
   obtain ⟨hlt, hy, hd⟩ := drop_cons_lt hi
   have hyb := hb y (List.mem_of_getElem? hy)
   refine LoopP.step ?_
   simp only [S.f9_l2, sl_zero, abin_lss, Do_of, Gd_true]
   rw [if_pos (by simp only [decide_eq_true_eq]; omega), lstA_addr hlt]
   simp only [Do_of]
   rw [num_load _ hy]
   simp only [Do_of, aconv_int]
   rw [wrap_u64 (by omega) (by omega)]
   obtain ⟨k, rfl⟩ := Int.eq_ofNat_of_zero_le hyb.1
   refine hexB k (by omega) _ _ ?_
   have hsl : s.length + 2 * (ys.length + 1) = 2 * l.length := by
    have := congrArg List.length he
    rw [List.length_append, hexs_len, hexs_len, List.length_cons] at this
    exact this
   refine writeOK hb1 (hx k) (by show 2 ≤ _; omega) (.inl (by omega)) fun H2 hb2 _ => ?_
   simp only [abin_add, Do_of]
   rw [wrap_i64 (by omega) (by omega), show ((i : Int) + 1) = ((i + 1 : Nat) : Int) by simp]
   refine ih (i + 1) H2 _ hd hb2 ?_
   rw [← he, List.append_assoc]
   rfl
 exact main l 0 _ [] rfl (bnewAt H) rfl
theorem str_at (H : AH) {tk : Rb.Tok} {xs : List (List UInt8)} {i : Nat} {y : List UInt8} (h : xs[i]? = some y) : ∃ a, aiaddr none 1 (.lst tk xs.length (xs.map .str)) (.int .i64 i) = some a ∧ aload H 1 false a = some (.str y) := by
 have hlt := (List.getElem?_eq_some_iff.1 h).1
 refine ⟨.fptr ((xs.map .str).drop (i * 1)), ?_, ?_⟩
 · simp only [aiaddr]
   rw [if_pos ⟨by omega, by omega⟩]; rfl
 · show takeCells _ 0 1 false = _
   unfold takeCells
   rw [if_pos (by simp; omega)]
   simp [h]
theorem linesOK {tk : Rb.Tok} {l : List (List UInt8)} (hn : l.length ≤ 51) (hm : ∀ s ∈ l, s.length ≤ 22021000) (hQ : ∀ H', Q (.str (nlS l)) H') : ACall C K.f13 [.lst tk l.length (l.map .str)] H Q := by
 refine S.cl_f13 cl_Sh ?_
 unfold S.f13
 rw [bnewOK]
 rw [show alen false (.lst tk l.length (l.map .str)) = some (.int .i64 l.length) from rfl]
 simp only [DoH_some, Do_of]
 have hall := nlS_len 22021000 l hm
 have main : ∀ (ys : List (List UInt8)) (i : Nat) (H1 : AH) (s : List UInt8), l.drop i = ys → BAt H1 H.n s → s ++ nlS ys = nlS l →
   LoopP (S.f13_l2 (ACall C) (.lst tk l.length (l.map .str)) (.ptr H.n 0) (.int .i64 l.length) Q) ([.int .i64 i], H1) := by
  intro ys
  induction ys with
  | nil =>
   intro i H1 s hi hb1 he
   have hle := drop_nil_le hi
   refine LoopP.step ?_
   simp only [S.f13_l2, sl_zero, abin_lss, Do_of, Gd_true]
   rw [if_neg (by simp only [decide_eq_true_eq]; omega)]
   simp only [JoinP_def, S.f13_k1]
   refine textOK hb1 fun H2 _ _ => ?_
   have : s = nlS l := by simpa [nlS] using he
   rw [this]
   exact hQ H2
  | cons y ys ih =>
   intro i H1 s hi hb1 he
   obtain ⟨hlt, hy, hd⟩ := drop_cons_lt hi
   have hyl := hm y (List.mem_of_getElem? hy)
   obtain ⟨a, ha1, ha2⟩ := str_at (tk := tk) H1 hy
   refine LoopP.step ?_
   simp only [S.f13_l2, sl_zero, abin_lss, Do_of, Gd_true]
   rw [if_pos (by simp only [decide_eq_true_eq]; omega), ha1]
   simp only [Do_of]
   rw [ha2]
   simp only [Do_of]
   rw [sadd _ _ (by simp; omega)]
   simp only [Do_of]
   have hsl : s.length ≤ (nlS l).length := by
    have := congrArg List.length he
    rw [List.length_append] at this
    omega
   refine writeOK hb1 (y ++ [10]) (by simp; omega) (.inl (by omega)) fun H2 hb2 _ => ?_
   simp only [abin_add, Do_of]
   rw [wrap_i64 (by omega) (by omega), show ((i : Int) + 1) = ((i + 1 : Nat) : Int) by simp]
   refine ih (i + 1) H2 _ hd hb2 ?_
   rw [← he, List.append_assoc]
   unfold nlS
   rw [List.flatMap_cons]
 exact main l 0 _ [] rfl (bnewAt H) rfl
theorem TellOK {o : GOut} (h : Fit o) : ACall C K.f5 [.agg o.cells] AH.mt (fun v _ => v = .str (tellS o)) := by
 refine S.cl_f5 cl_Sh ?_
 unfold S.f5
 simp only [out_box, DoH_some, out_f0, out_l0, Do_of]
 refine bytesOK h.small h.bytes fun H1 => ?_
 have hb2 := hexs_len o.bytes
 have hbl := h.small
 rw [sadd _ _ (by simp; omega)]
 have hbs : abslice H1 false 1 1 [.str []] [(0, 1, .str ([98, 121, 116, 101, 115, 32] ++ hexs o.bytes))] = some (.lst .full 1 [.str (byS ++ hexs o.bytes)], H1) := rfl
 simp only [Do_of]
 rw [hbs]
 simp only [DoH_some, out_f1, out_l1, lstA_len', Do_of]
 have hf : byS.length = 6 := rfl
 have main : ∀ (ys : List (List Int)) (n : Nat) (H2 : AH) (x : AV) (out : List (List UInt8)), o.prints.drop n = ys → OwnT 0 H2 1 x out.length (out.map .str) → out.length ≤ n + 1 → (∀ s ∈ out, s.length ≤ 22021000) → out ++ lnsS o.ends n ys = (byS ++ hexs o.bytes) :: lnsS o.ends 0 o.prints →
   LoopP (S.f5_l6 (ACall C) (.fptr o.cells) (lstA prC o.prints) (.int .i64 o.prints.length) fun v _ => v = .str (tellS o)) ([x, .int .i64 n], H2) := by
  intro ys
  induction ys with
  | nil =>
   intro n H2 x out hi hx hol hos he
   have hle := drop_nil_le hi
   refine LoopP.step ?_
   simp only [S.f5_l6, sl_zero, sl_succ, abin_lss, Do_of, Gd_true]
   rw [if_neg (by simp only [decide_eq_true_eq]; omega)]
   simp only [JoinP_def, S.f5_k5, sl_zero]
   obtain ⟨tk, rfl, -, -⟩ := hx
   have hol2 : out.length ≤ 51 := by
    have := congrArg List.length he
    simp only [lnsS, List.append_nil, List.length_cons, lnsS_len] at this
    have := h.few
    omega
   refine linesOK hol2 hos fun H' => ?_
   have : out = (byS ++ hexs o.bytes) :: lnsS o.ends 0 o.prints := by simpa [lnsS] using he
   rw [this]
   rfl
  | cons p ys ih =>
   intro n H2 x out hi hx hol hos he
   obtain ⟨hlt, hy, hd⟩ := drop_cons_lt hi
   have hfew := h.few
   have hpm : p ∈ o.prints := List.mem_of_getElem? hy
   have hps := h.short p hpm
   have hln := lnS_len h (n := n) (by omega) hpm
   have hit := itoa_short (n := (n : Int)) (by omega) (by omega)
   refine LoopP.step ?_
   simp only [S.f5_l6, sl_zero, sl_succ, abin_lss, Do_of, Gd_true]
   rw [if_pos (by simp only [decide_eq_true_eq]; omega), lstA_addr hlt]
   simp only [Do_of]
   rw [pr_load _ hy]
   simp only [Do_of]
   refine itoaOK n (by omega) (by omega) _ _ ?_
   rw [sadd _ _ (by simp; omega)]
   simp only [Do_of, out_f2, out_l2, lstA_len', abin_lss, Gd_true]
   have tail : ∀ (H3 : AH) (w : List UInt8), OwnT 0 H3 1 x out.length (out.map .str) → w = thS ++ Go.Lib.itoa n ++ enS o.ends n →
     JoinP (S.f5_k4 (ACall C) (lstA (i1 .u64) p) ([x, .int .i64 n], H2) (LoopP (S.f5_l6 (ACall C) (.fptr o.cells) (lstA prC o.prints) (.int .i64 o.prints.length) fun v _ => v = .str (tellS o))) fun v _ => v = .str (tellS o)) [.str w] H3 := by
    intro H3 w hx3 hw
    simp only [JoinP_def, S.f5_k4, lstA_len', Do_of, sl_zero]
    have inner : ∀ (zs : List Int) (i : Nat) (s : List UInt8), p.drop i = zs → s ++ prS zs = lnS o.ends n p →
      LoopP (S.f5_l3 (ACall C) (lstA (i1 .u64) p) (.int .i64 p.length) ([x, .int .i64 n], H2) (LoopP (S.f5_l6 (ACall C) (.fptr o.cells) (lstA prC o.prints) (.int .i64 o.prints.length) fun v _ => v = .str (tellS o))) fun v _ => v = .str (tellS o)) ([.str s, .int .i64 i], H3) := by
     intro zs
     induction zs with
     | nil =>
      intro i s hi2 hs
      have hle := drop_nil_le hi2
      refine LoopP.step ?_
      simp only [S.f5_l3, sl_zero, sl_succ, abin_lss, Do_of, Gd_true]
      rw [if_neg (by simp only [decide_eq_true_eq]; omega)]
      simp only [JoinP_def, S.f5_k2, sl_zero]
      have hs2 : s = lnS o.ends n p := by simpa [prS] using hs
      subst hs2
      have hbs : abslice H3 false 1 1 [.str []] [(0, 1, .str (lnS o.ends n p))] = some (.lst .full 1 [.str (lnS o.ends n p)], H3) := rfl
      rw [hbs]
      simp only [DoH_some]
      refine OwnT.app hx3 (Nat.zero_le _) (m := 1) (news := [.str (lnS o.ends n p)]) rfl rfl rfl (by decide) (by omega) (by omega) fun x' H4 hx4 _ => ?_
      simp only [JoinP_def, S.f5_k1, sl_zero, sl_succ, abin_add, Do_of]
      rw [wrap_i64 (by omega) (by omega), show ((n : Int) + 1) = ((n + 1 : Nat) : Int) by simp]
      refine ih (n + 1) H4 x' (out ++ [lnS o.ends n p]) hd ?_ (by simp; omega) ?_ ?_
      · rw [List.length_append, List.map_append]
        exact hx4
      · intro s hs
        rcases List.mem_append.1 hs with hs | hs
        · exact hos s hs
        · rw [List.mem_singleton.1 hs]; exact hln
      · rw [← he, lnsS, List.append_assoc]
        rfl
     | cons z zs ihz =>
      intro i s hi2 hs
      obtain ⟨hlt2, hy2, hd2⟩ := drop_cons_lt hi2
      have hz := h.nums p hpm z (List.mem_of_getElem? hy2)
      refine LoopP.step ?_
      simp only [S.f5_l3, sl_zero, sl_succ, abin_lss, Do_of, Gd_true]
      rw [if_pos (by simp only [decide_eq_true_eq]; omega), lstA_addr hlt2]
      simp only [Do_of]
      rw [num_load _ hy2]
      simp only [Do_of]
      obtain ⟨k, rfl⟩ := Int.eq_ofNat_of_zero_le hz.1
      refine fmtS k (by omega) _ _ ?_
      have hk := dec_len 20 k (by omega) (by omega)
      have hsl : s.length ≤ 22021000 := by
       have := congrArg List.length hs
       rw [List.length_append] at this
       omega
      rw [sadd _ _ (by simp; omega)]
      simp only [Do_of]
      rw [sadd _ _ (by simp; omega)]
      simp only [abin_add, Do_of]
      rw [wrap_i64 (by omega) (by omega), show ((i : Int) + 1) = ((i + 1 : Nat) : Int) by simp]
      refine ihz (i + 1) _ hd2 ?_
      rw [← hs, List.append_assoc]
      rfl
    refine inner p 0 w rfl ?_
    rw [hw]
    rfl
   by_cases hn : n < o.ends.length
   · rw [if_pos (by simp only [decide_eq_true_eq]; omega)]
     rw [lstA_addr hn]
     obtain ⟨e, hee⟩ : ∃ e, o.ends[n]? = some e := ⟨_, List.getElem?_eq_getElem hn⟩
     simp only [Do_of]
     rw [num_load _ hee]
     simp only [Do_of]
     refine endOK e _ _ ?_
     have hel := endS_len e
     rw [sadd _ _ (by simp; omega)]
     simp only [Do_of]
     rw [sadd _ _ (by simp; omega)]
     simp only [Do_of]
     refine tail _ _ hx ?_
     simp [enS, hee, thS]
   · rw [if_neg (by simp only [decide_eq_true_eq]; omega)]
     refine tail _ _ hx ?_
     have : o.ends[n]? = none := List.getElem?_eq_none (by omega)
     simp [enS, this, thS]
 exact main o.prints 0 H1 _ [byS ++ hexs o.bytes] rfl ⟨.full, rfl, rfl, .inr (.inl rfl)⟩ (by simp) (fun s hs => by rw [List.mem_singleton.1 hs]; simp; omega) rfl
end
end Go.Proofs.YtfgpfghpciddmaaGreatDoor.rb

namespace Rb
open Go Go.RowKit
def Turn (b : Nat) (A B : World) : Prop := A.grownBy B (some b) ∧ ∃ o : Obj, A.heap[b]? = some o ∧ o.isCells = true
def LeftX (b : Nat) (A B : World) : Prop := A.heap.size ≤ B.heap.size ∧ B.heap[b]? = A.heap[b]?
theorem LeftX.refl (b : Nat) (A : World) : LeftX b A A := ⟨Nat.le_refl _, rfl⟩
theorem LeftX.trans {b : Nat} {A B C : World} (h : LeftX b A B) (k : LeftX b B C) : LeftX b A C := ⟨Nat.le_trans h.1 k.1, k.2.trans h.2⟩
theorem LeftX.putObj {b : Nat} {W : World} {l : Nat} (o' : Obj) (hl : l < W.heap.size) (h : b ≠ l) : LeftX b W (W.putObj l o') := ⟨by simp, World.putObj_heap_other h⟩
theorem LeftX.alloc {b : Nat} {W : World} (o : Obj) (h : b < W.heap.size) : LeftX b W (W.alloc o) := ⟨by simp, Below.heap_alloc W o b h⟩
def SeqTurnsX {α : Type} (n : Nat) (P : Program) (g : Nat) (lb : Array Value) (encs : α → Array Value) (b : Nat) (xs : List α) (w : World) : Prop :=
 ∀ (l : Nat) (J : List α → World → Prop) (Jx : World → Prop) (W : World), LeftX b w W → (∀ s A B, J s A → Turn b A B → J s B) →
  (∀ pre x W1, J pre W1 → (pre ++ [x]) <+: xs → YieldAt Fence.wide (n - 1) P l (encs x) W1 fun e W' => (e = .returned (.bool true) ∧ J (pre ++ [x]) W' ∧ LeftX b W1 W') ∨ (e = .returned (.bool false) ∧ Jx W')) →
  J [] W →
  CallsIn Fence.wide n P g (#[.func (.yield l) #[] #[]] ++ lb) W fun e W' => (∃ v, e = .returned v) ∧ (J xs W' ∨ Jx W')
theorem wpIn_rangeFunc_turnsX {α : Type} {P : Program} {n : Nat} {w : World} {g : Operand} {ps : Array Tmp} {assign body : Code} {Q : Exit → Act → World → Prop} {a : Act}
  (h1 : 1 ≤ n) {gf : Nat} {lb : Array Value} (hg : a.eval g = .func (.func gf) #[] lb) (eg : ∀ args w, (callFunc gf args).run P w = .ok (.enter gf args) w)
  {encs : α → Array Value} {b : Nat} {xs : List α} (hb : b < w.heap.size) (hseq : SeqTurnsX (n - 1) P gf lb encs b xs w) (hps : ∀ x, (encs x).size = ps.size)
  (I : List α → World → Prop) (Ix : World → Prop) (hI : OwnFrom w.heap.size I) (hIx : OwnFrom w.heap.size fun (_ : Unit) W => Ix W) (hT : ∀ s A B, I s A → Turn b A B → I s B) (h0 : I [] w) (a₁ : α → Act)
  (hassign : ∀ (l : Nat) (x : α) (W : World) (K : Act → World → Prop), K (a₁ x) W →
    assign.wpIn (Fence.wide.inRound l) (n - 1 - 1) P (Exit.then K (fun _ _ _ => False)) { tmps := (ps.zip (encs x)).foldl (fun t (p, v) => t.setIfInBounds p v) a.tmps, defers := [] } W)
  (hbody : ∀ (l : Nat) (pre : List α) (x : α) (W : World), w.heap.size ≤ W.heap.size → I pre W → (pre ++ [x]) <+: xs →
    body.wpIn (Fence.wide.inRound l) (n - 1 - 1) P (fun e _ W' => (e = .normal ∧ KeepsFrom w.heap.size W W' ∧ LeftX b W W' ∧ I (pre ++ [x]) W') ∨ (e = .ret ∧ KeepsFrom w.heap.size W W' ∧ Ix W')) (a₁ x) W)
  (hdone : ∀ (D : Nat) (W : World), w.heap.size ≤ D → I xs W → W.heap[D]? = some (.deferred (some [])) → Q .normal { a with defers := { target := .collected D, args := #[] } :: a.defers } W)
  (hstop : ∀ (D : Nat) (W : World), w.heap.size ≤ D → Ix W → W.heap[D]? = some (.deferred (some [])) → Code.ret.wpIn Fence.wide n P Q { a with defers := { target := .collected D, args := #[] } :: a.defers } W) :
  (Code.rangeFunc g ps assign body).wpIn Fence.wide n P Q a w := by
 refine wpIn_rangeFunc ?_
 intro fn hfn
 let rec0 : LoopState → Option Code → Loop := fun st pe => { state := st, pending := pe, fn, tmps := a.tmps, params := ps, assign, body, defers := w.heap.size }
 let W1 : World := (w.alloc (.deferred (some []))).alloc (.loop (rec0 .ready none))
 have hL1 : W1.heap[w.heap.size + 1]? = some (.loop (rec0 .ready none)) := by
  have := World.alloc_heap_new (w.alloc (.deferred (some []))) (.loop (rec0 .ready none))
  rwa [World.size_alloc] at this
 have hK1 : W1.heap[w.heap.size]? = some (.deferred (some [])) := (Below.heap_alloc _ _ _ (by simp)).trans (World.alloc_heap_new w _)
 have hI1 : I [] W1 := hI.alloc _ (hI.alloc _ h0)
 have hb1 : LeftX b w W1 := (LeftX.alloc _ hb).trans (LeftX.alloc _ (by simp; omega))
 have hsz1 : w.heap.size ≤ W1.heap.size := hb1.1
 refine ⟨w.heap.size + 1, [{ target := .collected w.heap.size, args := #[] }], W1, { target := .fn (.func gf) lb, args := #[.func (.yield (w.heap.size + 1)) #[] #[]] }, W1, gf,
   #[.func (.yield (w.heap.size + 1)) #[] #[]] ++ lb, W1, ?_, ?_, fun _ _ => trivial, ?_, fun _ => h1, ?_⟩
 · exact run_enterLoop_outer _ _ _ _ _
 · simp only [resolve, hg]
   simp [go_sem]
 · simp [invoke, go_sem, eg]
 ·
   have turn : ∀ {A B : World} {k : Nat} {o : Obj}, Turn b A B → A.heap[k]? = some o → o.isCells = false → B.heap[k]? = some o := by
    intro A B k o ht hk ho
    obtain ⟨hgr, o', ho', hc⟩ := ht
    refine (hgr.block k (Array.getElem?_eq_some_iff.1 hk).1 (fun e => ?_)).trans hk
    cases e
    rw [hk] at ho'
    cases ho'
    rw [ho] at hc
    cases hc
   refine (hseq (w.heap.size + 1)
     (fun pre W => w.heap.size ≤ W.heap.size ∧ I pre W ∧ W.heap[w.heap.size + 1]? = some (.loop (rec0 .ready none)) ∧ W.heap[w.heap.size]? = some (.deferred (some [])))
     (fun W => Ix W ∧ W.heap[w.heap.size + 1]? = some (.loop (rec0 .done (some .ret))) ∧ W.heap[w.heap.size]? = some (.deferred (some [])))
     W1 hb1 (fun s A B hs ht => ⟨Nat.le_trans hs.1 ht.1.size, hT s A B hs.2.1 ht, turn ht hs.2.2.1 rfl, turn ht hs.2.2.2 rfl⟩) ?_ ⟨hsz1, hI1, hL1, hK1⟩).mono ?_
   ·
     rintro pre x W ⟨hsz, hi, hl, hk⟩ hpx
     have hlt : w.heap.size + 1 < W.heap.size := (Array.getElem?_eq_some_iff.1 hl).1
     have hy := run_yield (P := P) (args := encs x) hl (hps x)
     refine ⟨fn, _, assign, body, hy, roundIn_of_wpIn hfn (hassign _ x W _ ?_)⟩
     refine ⟨_, run_beginRound hl rfl, ?_⟩
     have hl2 : (W.putObj (w.heap.size + 1) (.loop { rec0 .ready none with state := .busy })).heap[w.heap.size + 1]? = some (.loop { rec0 .ready none with state := .busy }) := World.putObj_heap_same hlt
     have hk2 : (W.putObj (w.heap.size + 1) (.loop { rec0 .ready none with state := .busy })).heap[w.heap.size]? = some (.deferred (some [])) := (World.putObj_heap_other (by omega)).trans hk
     have hw2 : LeftX b W (W.putObj (w.heap.size + 1) (.loop { rec0 .ready none with state := .busy })) := LeftX.putObj _ hlt (by omega)
     refine wpIn_mono (hbody _ pre x _ (by simp; omega) (hI.putObj _ hi (by omega) hl rfl) hpx) ?_
     rintro e a3 W3 (⟨rfl, hk3, hb3, hi3⟩ | ⟨rfl, hk3, hi3⟩)
     · have hl3 := hk3.same _ _ (by omega) hl2 rfl
       have hr := run_endRound (P := P) none hl3
       have hlt3 : w.heap.size + 1 < W3.heap.size := (Array.getElem?_eq_some_iff.1 hl3).1
       refine ⟨_, _, hr, .inl ⟨rfl, ⟨by simp; omega, hI.putObj _ hi3 (by omega) hl3 rfl, World.putObj_heap_same hlt3, (World.putObj_heap_other (by omega)).trans (hk3.same _ _ (Nat.le_refl _) hk2 rfl)⟩, ?_⟩⟩
       exact hw2.trans (hb3.trans (LeftX.putObj _ hlt3 (by omega)))
     · have hl3 := hk3.same _ _ (by omega) hl2 rfl
       have hr := run_endRound (P := P) (some .ret) hl3
       have hlt3 : w.heap.size + 1 < W3.heap.size := (Array.getElem?_eq_some_iff.1 hl3).1
       exact ⟨_, _, hr, .inr ⟨rfl, hIx.putObj (s := ()) _ hi3 (by omega) hl3 rfl, World.putObj_heap_same hlt3, (World.putObj_heap_other (by omega)).trans (hk3.same _ _ (Nat.le_refl _) hk2 rfl)⟩⟩
   ·
     rintro e W2 ⟨⟨v, rfl⟩, (⟨hsz, hi, hl, hk⟩ | ⟨hi, hl, hk⟩)⟩
     · exact ⟨none, _, run_endLoop (P := P) hl (by simp [rec0]), hdone _ _ (Nat.le_refl _) (hI.putObj _ hi (by omega) hl rfl) ((World.putObj_heap_other (by omega)).trans hk)⟩
     · exact ⟨some .ret, _, run_endLoop (P := P) hl (by simp [rec0]), hstop _ _ (Nat.le_refl _) (hIx.putObj (s := ()) _ hi (by omega) hl rfl) ((World.putObj_heap_other (by omega)).trans hk)⟩
end Rb

namespace Go.Proofs.YtfgpfghpciddmaaGreatDoor.rb
open Go Go.Proofs Go.RowKit Go.Shelf Rb
attribute [local go_sem] Oper.semAt_some
def encB (x : List UInt8) : Array Value := #[.string ⟨x.toArray⟩]
def strSz (W : World) (b : Nat) : Nat := match W.cell? ⟨b, 0, none⟩ with | some (.string r) => r.size | _ => 0
theorem turn_set {W : World} {b : Nat} {t : TypeId} {v : Value} (u : Value) (h : Boxed W b t v) : Turn b W (W.setCell ⟨b, 0, none⟩ u) := ⟨grownBy_setCell' W b u, _, h, rfl⟩
set_option maxRecDepth 100000 in
set_option maxHeartbeats 4000000 in
theorem lines_seq (n : Nat) (hn : 1 ≤ n) (Bs : Nat) (s : ByteArray) (hlen : s.size ≤ 9223372036854775800) (W0 : World) (hB0 : Boxed W0 Bs 9 (.string s))
  (hIB : ∀ (r : ByteArray) (W : World), CallsIn Fence.wide (n - 1) Tryz.prog 57 #[.string r, .int .u8 10] W fun e W' => e = .returned (.int .i64 (Go.Lib.indexByte r.data.toList 10)) ∧ W' = W) :
  SeqTurnsX n Tryz.prog 56 #[.pointer (some ⟨Bs, 0, none⟩)] encB Bs (linesOf s.data.toList) W0 := by
 intro l J Jx W hW hJT hY h0
 have hBW : Boxed W Bs 9 (.string s) := hW.2.trans hB0
 refine callsIn_of_wp Tryz.func56 rfl trivial ?_ rfl
 simp only [Tryz.ntmps56, List.size_toArray, List.length_cons, List.length_nil, Nat.reduceAdd, Nat.reduceSub, Array.replicate_succ, Array.replicate_zero, List.push_toArray, List.append_toArray, List.nil_append, List.cons_append]
 gi_wp2
 gi_loopw [] (fun wr => ∃ (r : ByteArray) (pre : List (List UInt8)), Boxed wr Bs 9 (.string r) ∧ r.size ≤ s.size ∧ pre ++ linesOf r.data.toList = linesOf s.data.toList ∧ J pre wr) (fun wr => strSz wr Bs)
 case atStart => exact ⟨s, [], hBW, Nat.le_refl _, rfl, h0⟩
 case round =>
  obtain ⟨r, pre, hb, hle, hpre, hj⟩ := hrel
  have hc := hb.cell
  have hfr := hb.frozen
  by_cases hsz : 0 < r.size
  · have hne : r.data.toList ≠ [] := by
      intro h
      have : r.data.toList.length = 0 := by rw [h]; rfl
      have h2 : r.data.toList.length = r.size := Array.length_toList
      omega
    have hlast : linesOf r.data.toList = (cutL r.data.toList).1 :: linesOf (cutL r.data.toList).2 := linesOf_cons hne
    gi_wp2
    refine ⟨trivial, (hIB r wr).mono ?_⟩
    rintro e W2 ⟨rfl, rfl⟩
    dsimp only
    rcases cutL_idx r.data.toList with ⟨hi, hcut⟩ | ⟨k, hi, hk, hcut⟩
    · have hpx : pre ++ [r.data.toList] <+: linesOf s.data.toList := by
        rw [← hpre, hlast, hcut]; exact ⟨linesOf [], by simp⟩
      obtain ⟨fn, tmps, assign, body, hy, hR⟩ := hY pre r.data.toList (W2.setCell ⟨Bs, 0, none⟩ (.string ⟨#[]⟩)) (hJT _ _ _ hj (turn_set _ hb)) hpx
      have hr : (⟨r.data.toList.toArray⟩ : ByteArray) = r := by cases r; simp
      rw [encB, hr] at hy
      rw [hi]
      gi_wp2
      refine hR.mono ?_
      rintro e W3 (⟨rfl, hJ3, hk3⟩ | ⟨rfl, hx3⟩)
      case inr =>
       gi_wp2
       refine bodyPost_ret (results_none rfl _ _ _) rfl ?_
       exact ⟨⟨_, rfl⟩, .inr hx3⟩
      have hb3 : Boxed W3 Bs 9 (.string ⟨#[]⟩) := hk3.2.trans (hb.set _)
      gi_wp2
      go_roundw
      case rel => exact ⟨⟨#[]⟩, _, hb3, Nat.zero_le _, by rw [← hpre, hlast, hcut]; simp [linesOf_nil], hJ3⟩
      case measure => simp only [strSz, hb3.cell, hc]; exact hsz
    · have hkr : k < r.size := by have h2 : r.data.toList.length = r.size := Array.length_toList; omega
      have hw : wrap64 ((k : Int) + 1) = (k : Int) + 1 := by unfold wrap64; omega
      rw [hi]
      have hr1 : r.extract 0 (k + 1) = ⟨(List.take (k + 1) r.data.toList).toArray⟩ := by rw [Lib.extract_eq]; simp
      have hr2 : (r.extract (k + 1) r.size).data.toList = (cutL r.data.toList).2 := by
       rw [hcut, Lib.extract_eq]
       have h2 : r.data.toList.length = r.size := Array.length_toList
       show List.take (r.size - (k + 1)) (List.drop (k + 1) r.data.toList) = _
       exact List.take_of_length_le (by rw [List.length_drop, h2]; exact Nat.le_refl _)
      have hT : Turn Bs W2 (W2.setCell ⟨Bs, 0, none⟩ (.string (r.extract (k + 1) r.size))).drew := by
       obtain ⟨hg, ho⟩ := turn_set (.string (r.extract (k + 1) r.size)) hb
       exact ⟨⟨hg.os, hg.tape, hg.output, hg.size, hg.block⟩, ho⟩
      have hpx : pre ++ [(cutL r.data.toList).1] <+: linesOf s.data.toList := by
       rw [← hpre, hlast]; exact ⟨linesOf (cutL r.data.toList).2, by simp⟩
      obtain ⟨fn, tmps, assign, body, hy, hR⟩ := hY pre (cutL r.data.toList).1 _ (hJT _ _ _ hj hT) hpx
      rw [encB, hcut] at hy
      dsimp only at hy
      have hlt := cutL_lt _ hne
      gi_wp2
      gi_region
      gi_wp2
      refine hR.mono ?_
      rintro e W3 (⟨rfl, hJ3, hk3⟩ | ⟨rfl, hx3⟩)
      case inr =>
       gi_wp2
       refine bodyPost_ret (results_none rfl _ _ _) rfl ?_
       exact ⟨⟨_, rfl⟩, .inr hx3⟩
      have hb3 : Boxed W3 Bs 9 (.string (r.extract (k + 1) r.size)) := hk3.2.trans (hb.set _)
      have hsz3 : (r.extract (k + 1) r.size).size < r.size := by
       have h1 : (r.extract (k + 1) r.size).data.toList.length = (r.extract (k + 1) r.size).size := Array.length_toList
       have h2 : r.data.toList.length = r.size := Array.length_toList
       rw [hr2] at h1; omega
      gi_wp2
      go_roundw
      case rel => exact ⟨_, _, hb3, by omega, by rw [← hpre, hlast, hr2]; simp, hJ3⟩
      case measure => simp only [strSz, hb3.cell, hc]; exact hsz3
  · gi_wp2
    go_end0
    have h0 : r.data.toList = [] := by
     have h2 : r.data.toList.length = r.size := Array.length_toList
     exact List.length_eq_zero_iff.1 (by omega)
    rw [h0, linesOf_nil, List.append_nil] at hpre
    rw [← hpre]
    exact ⟨⟨_, rfl⟩, .inl hj⟩
end Go.Proofs.YtfgpfghpciddmaaGreatDoor.rb

namespace Go.Proofs.YtfgpfghpciddmaaGreatDoor.rb
open Go Go.Proofs Go.RowKit Go.Shelf Rb
attribute [local go_sem] Oper.semAt_some
theorem boxed_own {β : Type} (B b : Nat) (t : TypeId) (v : Value) : OwnFrom B (fun (_ : β) W => Boxed W b t v) := by
 intro s W W' row h hg hr
 refine h.kept hg fun e => ?_
 obtain ⟨_, o, ho, hc⟩ := hr b e.symm
 rw [show W.heap[b]? = _ from h] at ho; cases ho; cases hc
theorem own_less {w : World} {b b' : Nat} {e : TypeId} {size n : Nat} {v : Value} {xs : List Value} (h : w.ownsRow b e size v n xs) (hb : b' ≤ b) : w.ownsRow b' e size v n xs := by
 refine ⟨h.1, ?_⟩
 rcases h.2 with h | ⟨g, cap, cur, h1, h2, h3⟩
 · exact .inl h
 · exact .inr ⟨g, cap, cur, h1, Nat.le_trans hb h2, h3⟩
theorem own_block {w : World} {b k : Nat} {e : TypeId} {size n : Nat} {v : Value} {xs : List Value} (h : w.ownsRow b e size v n xs) (hk : k < b) : v.ownBlock ≠ some k := by
 rcases h.2 with ⟨rfl, _⟩ | ⟨g, cap, cur, rfl, h2, h3⟩
 · simp [Value.ownBlock]
 · simp only [Value.ownBlock, ne_eq, Option.some.injEq]; omega
theorem keeps_below {W W' : World} (h : Below W.heap.size W W') : KeepsOthers W W' := ⟨h.size, fun k o hk _ => (h.block k (Array.getElem?_eq_some_iff.1 hk).1).trans hk⟩
theorem left_below {b : Nat} {W W' : World} (hb : b < W.heap.size) (h : Below W.heap.size W W') : Rb.LeftX b W W' := ⟨h.size, h.block b hb⟩
theorem boxed_below {W W' : World} {b : Nat} {t : TypeId} {v : Value} (hb : Boxed W b t v) (h : Below W.heap.size W W') : Boxed W' b t v := (h.block b hb.lt).trans hb
theorem own_below {w W' : World} {b : Nat} {e : TypeId} {size n : Nat} {v : Value} {xs : List Value} (h : w.ownsRow b e size v n xs) (hk : Below w.heap.size w W') : W'.ownsRow b e size v n xs := by
 refine ⟨h.1, ?_⟩
 rcases h.2 with h | ⟨g, cap, cur, h1, h2, h3, h4⟩
 · exact .inl h
 · exact .inr ⟨g, cap, cur, h1, h2, (hk.block g (Array.getElem?_eq_some_iff.1 h3).1).trans h3, h4⟩
def stV (x : Stp) : List Value := [.int .i64 x.1, .int .i64 x.2.1, .int .i64 x.2.2]
def trimL (x : List UInt8) : List UInt8 := if x.getLast? = some 10 then x.dropLast else x
theorem lines_call (n : Nat) (s : ByteArray) (W : World) : CallsIn Fence.wide n Tryz.prog 29 #[.string s] W fun e W' => e = .returned (.func (.func 56) #[] #[.pointer (some ⟨W.heap.size, 0, none⟩)]) ∧ W' = W.alloc (.cells #[.string s] 9) := by
 refine callsIn_of_wp Tryz.func29 rfl trivial ?_ rfl
 simp only [Tryz.ntmps29, List.size_toArray, List.length_cons, List.length_nil, Nat.reduceAdd, Nat.reduceSub, Array.replicate_succ, Array.replicate_zero, List.push_toArray, List.append_toArray, List.nil_append, List.cons_append]
 gi_wp2
 go_ret
 exact ⟨rfl, rfl⟩
theorem own_len {w W : World} {b n : Nat} {v : Value} {xs : List Value} (h : w.ownsRow b 88 3 v n xs) : (Builtin.len_ #[51] 3 #[v]).run Tryz.prog W = .ok (.int .i64 n) W := by
 rcases h.2 with ⟨rfl, rfl⟩ | ⟨g, cap, cur, rfl, _⟩
 · simp [go_sem, Builtin.len_]
 · simp [go_sem, Builtin.len_]
theorem cell_three_new (w : World) (x y z : Value) (t : TypeId) : ∀ j u, [x, y, z][j]? = some u → (w.alloc (.cells #[x, y, z] t)).cell? ((⟨w.heap.size, 0, none⟩ : Addr).add j) = some u := by
 intro j u hj
 match j, hj with
 | 0, hj => simp at hj; subst hj; simp [Addr.add]
 | 1, hj => simp at hj; subst hj; simp [Addr.add]
 | 2, hj => simp at hj; subst hj; simp [Addr.add]
 | j + 3, hj => simp at hj
theorem results_cells3 {fn : Func} {p q r : Tmp} {t1 t2 t3 : TypeId} (h : fn.results = #[.cell p t1, .cell q t2, .cell r t3]) (tmps : Array Value) (P : Program) (w : World) :
  (results fn tmps).run P w = ((asAddr (tmps.getD p undef)).run P w).andThen fun a w₁ => ((loadVar t1 a).run P w₁).andThen fun v w₂ => ((asAddr (tmps.getD q undef)).run P w₂).andThen fun a' w₃ => ((loadVar t2 a').run P w₃).andThen fun v' w₄ =>
   ((asAddr (tmps.getD r undef)).run P w₄).andThen fun a'' w₅ => ((loadVar t3 a'').run P w₅).andThen fun v'' w₆ => .ok (.tuple #[v, v', v'']) w₆ := by
 simp only [results, h]
 simp [Sem.run_bind, Result.andThen]
theorem infoS : (Tryz.prog.info? 88).map (fun i => (i.zero, i.size, i.bytes)) = some (some (.agg #[.int .i64 0, .int .i64 0, .int .i64 0]), 3, 24) := by kernel_rfl
set_option maxRecDepth 100000 in
set_option maxHeartbeats 4000000 in
theorem read_in (n : Nat) (hn : 3 ≤ n) (s : ByteArray) (hlen : s.size ≤ 9223372036854775800) (w : World) (f : List UInt8 → Stp)
  (hcnt : (linesOf s.data.toList).length ≤ 4096)
  (hIB : ∀ (r : ByteArray) (W : World), Calls Tryz.prog 57 #[.string r, .int .u8 10] W fun e W' => e = .returned (.int .i64 (Go.Lib.indexByte r.data.toList 10)) ∧ W' = W)
  (hTr : ∀ x ∈ linesOf s.data.toList, ∀ (W : World), Below w.heap.size w W → Calls Tryz.prog 31 #[.string ⟨x.toArray⟩, .string ⟨#[10]⟩] W fun e W' => e = .returned (.string ⟨(trimL x).toArray⟩) ∧ Below W.heap.size W W')
  (hSt : ∀ x ∈ linesOf s.data.toList, ∀ W, Below w.heap.size w W → Calls Tryz.prog 30 #[.string ⟨(trimL x).toArray⟩] W fun e W' => e = .returned (.tuple #[.agg #[.int .i64 (f x).1, .int .i64 (f x).2.1, .int .i64 (f x).2.2], .int .i64 0]) ∧ Below W.heap.size W W') :
  CallsIn Fence.wide n Tryz.prog 18 #[.string s] w fun e w' => ∃ v, e = .returned (.tuple #[v, .int .i64 0, .int .i64 0]) ∧ w'.ownsRow w.heap.size 88 3 v (linesOf s.data.toList).length ((linesOf s.data.toList).flatMap fun x => stV (f x)) ∧ Below w.heap.size w w' := by
 obtain ⟨i0, hi, hz0, hz1, hz2⟩ := info_parts infoS
 refine callsIn_of_wp_marks Tryz.func18 rfl trivial ?_ rfl
 simp only [Tryz.ntmps18, List.size_toArray, List.length_cons, List.length_nil, Nat.reduceAdd, Nat.reduceSub, Array.replicate_succ, Array.replicate_zero, List.push_toArray, List.append_toArray, List.nil_append, List.cons_append]
 gi_wp2
 refine ⟨trivial, fun _ => by omega, (lines_call _ s _).mono ?_⟩
 rintro e W2 ⟨rfl, rfl⟩
 gi_wp2
 have hgo : ∀ W : World, Below w.heap.size w W → w.heap.size ≤ W.heap.size := fun W h => h.size
 refine wpIn_rangeFunc_turnsX (by omega) (gf := 56) (lb := #[.pointer (some ⟨w.heap.size + 1 + 1 + 1 + 1, 0, none⟩)]) rfl (enters_of Tryz.func56 (by kernel_rfl) rfl)
  (encs := encB) (b := w.heap.size + 1 + 1 + 1 + 1) (xs := linesOf s.data.toList) (by simp) (lines_seq (n - 1) (by omega) _ s hlen _ ?boxS (fun r W => callsIn_wide.2 (hIB r W))) (fun _ => rfl)
  (fun pre W => (∃ v, Boxed W (w.heap.size + 1 + 1 + 1) 51 v ∧ W.ownsRow (w.heap.size + 5) 88 3 v pre.length (pre.flatMap fun x => stV (f x)) ∧ True) ∧ Boxed W w.heap.size 51 (.slice none 0 0) ∧ Boxed W (w.heap.size + 1) 3 (.int .i64 0) ∧ Boxed W (w.heap.size + 1 + 1) 30 (.int .i64 0) ∧ Below w.heap.size w W)
  (fun _ => False) ?own (fun _ _ _ _ h _ _ => h) ?turn ?start
  (fun x => { tmps := #[.string s, undef, .pointer (some ⟨w.heap.size, 0, none⟩), .pointer (some ⟨w.heap.size + 1, 0, none⟩), .pointer (some ⟨w.heap.size + 1 + 1, 0, none⟩), .pointer (some ⟨w.heap.size + 1 + 1 + 1, 0, none⟩), .string ⟨x.toArray⟩, undef, undef, .string s, .func (.func 56) #[] #[.pointer (some ⟨w.heap.size + 1 + 1 + 1 + 1, 0, none⟩)], .string ⟨x.toArray⟩, undef, undef, undef, undef, undef, undef, undef, undef, undef, undef, undef, undef, undef, undef, undef, undef, undef, undef, undef, undef], defers := [] }) ?assign ?body ?done (fun _ _ _ h => h.elim)
 case boxS =>
  have h := Boxed.new ((((w.alloc (.cells #[.slice none 0 0] 51)).alloc (.cells #[.int .i64 0] 3)).alloc (.cells #[.int .i64 0] 30)).alloc (.cells #[.slice none 0 0] 51)) 9 (.string s)
  simpa only [World.size_alloc] using h
 case own =>
  exact OwnFrom.and (Own.from (holdsRow_own _ _ 51 88 3 (fun pre : List (List UInt8) => pre.length) (fun pre : List (List UInt8) => pre.flatMap fun x => stV (f x)) (fun _ _ => True)) _)
   (OwnFrom.and (boxed_own _ _ _ _) (OwnFrom.and (boxed_own _ _ _ _) (OwnFrom.and (boxed_own _ _ _ _) (ownFrom_below (Nat.le_refl _) (by simp <;> omega)))))
 case turn =>
  rintro pre A B ⟨⟨v, h1, h2, _⟩, h3, h4, h5, h6⟩ ⟨hg, _⟩
  refine ⟨⟨v, h1.kept hg (by simp), h2.kept hg (.inr (own_block h2 (by omega))), trivial⟩, h3.kept hg (by simp <;> omega), h4.kept hg (by simp <;> omega), h5.kept hg (by simp <;> omega), h6.grown hg h6.size (by simp <;> omega)⟩
 case start =>
  have B0 := (Boxed.new w 51 (.slice none 0 0))
  have h1 : Below w.heap.size w (w.alloc (.cells #[.slice none 0 0] 51)) := (Below.refl _ w).alloc (Nat.le_refl _) _
  have h2 := h1.alloc (by simp) (.cells #[.int .i64 0] 3)
  have h3 := h2.alloc (by simp <;> omega) (.cells #[.int .i64 0] 30)
  have h4 := h3.alloc (by simp <;> omega) (.cells #[.slice none 0 0] 51)
  have h5 := h4.alloc (by simp <;> omega) (.cells #[.string s] 9)
  have B1 := Boxed.new (w.alloc (.cells #[.slice none 0 0] 51)) 3 (.int .i64 0)
  have B2 := Boxed.new ((w.alloc (.cells #[.slice none 0 0] 51)).alloc (.cells #[.int .i64 0] 3)) 30 (.int .i64 0)
  have B3 := Boxed.new (((w.alloc (.cells #[.slice none 0 0] 51)).alloc (.cells #[.int .i64 0] 3)).alloc (.cells #[.int .i64 0] 30)) 51 (.slice none 0 0)
  simp only [World.size_alloc] at B1 B2 B3
  exact ⟨⟨_, B3.alloc _, World.ownsRow_nil _ _ _ _, trivial⟩, (((B0.alloc _).alloc _).alloc _).alloc _, ((B1.alloc _).alloc _).alloc _, (B2.alloc _).alloc _, h5⟩
 case assign =>
  intro l x W K hK
  simp only [encB]
  gi_wp2
  exact hK
 case body =>
  rintro l pre x W hWs ⟨⟨v, hv, hrow, _⟩, h3, h4, h5, h6⟩ hpx
  have hc := hv.cell
  have hl := fun W' => own_len (W := W') hrow
  have hpl : pre.length < 4096 := by
   obtain ⟨t, ht⟩ := hpx
   have := congrArg List.length ht
   simp at this; omega
  gi_wp2
  have hxm : x ∈ linesOf s.data.toList := by
   obtain ⟨t, ht⟩ := hpx
   rw [← ht]; simp
  refine ⟨trivial, fun _ => by omega, ((callsIn_wide.2 (hTr x hxm W h6)).inRound l).mono ?_⟩
  rintro e W1 ⟨rfl, hb1⟩
  gi_wp2
  have h61 : Below w.heap.size w W1 := h6.trans (hb1.mono h6.size)
  refine ⟨trivial, fun _ => by omega, ((callsIn_wide.2 (hSt x hxm W1 h61)).inRound l).mono ?_⟩
  rintro e W2 ⟨rfl, hb2⟩
  have h62 : Below w.heap.size w W2 := h61.trans (hb2.mono h61.size)
  have hv2 := boxed_below (boxed_below hv hb1) hb2
  have hrow2 := own_below (own_below hrow hb1) hb2
  have hva := hv2.alloc (.cells #[.int .i64 (f x).1, .int .i64 (f x).2.1, .int .i64 (f x).2.2] 88)
  have hrowa := hrow2.alloc (.cells #[.int .i64 (f x).1, .int .i64 (f x).2.1, .int .i64 (f x).2.2] 88)
  have hc2 := hva.cell
  have hsz2 : w.heap.size + 5 ≤ W2.heap.size := by
   have e1 := hb1.size
   have e2 := hb2.size
   simp at hWs
   omega
  gi_wp2_with (gi_at_builtin; refine wpListIn_append_own _ rfl _ _ 51 rfl (w.heap.size + 5) 88 i0 _ 3 24 Tryz.underlying51 hi hz0 hz1 hz2 rfl (by decide) _ _ _ rfl (hrowa.alloc _) ⟨W2.heap.size + 1, 0, none⟩ 1 1 [.int .i64 (f x).1, .int .i64 (f x).2.1, .int .i64 (f x).2.2] rfl rfl (by have := cell_three_new (W2.alloc (.cells #[.int .i64 (f x).1, .int .i64 (f x).2.1, .int .i64 (f x).2.2] 88)) (.int .i64 (f x).1) (.int .i64 (f x).2.1) (.int .i64 (f x).2.2) 88; simpa only [World.size_alloc] using this) (by simp [Value.oneCell']) (by unfold maxLen; omega) (by omega) (by simp; omega) ?_; intro v' w1 hown' hgrow _; obtain ⟨g', cap', rfl⟩ := ownsRow_succ hown'; obtain ⟨hv1, hvs, hrs, hks, hbs⟩ := hva.appended (by decide) (own_less hrowa (b' := w.heap.size) (by omega)) (by simp; omega) (by omega) (own_less hown' (by omega)) hgrow; have hc1 := hv1.cell; have hf1 := hv1.frozen)
  have keep : ∀ {b : Nat} {t : TypeId} {u : Value}, Boxed W b t u → b < w.heap.size + 5 → b ≠ w.heap.size + 1 + 1 + 1 → Boxed (w1.setCell ⟨w.heap.size + 1 + 1 + 1, 0, none⟩ (.slice (some ⟨g', 0, none⟩) (pre.length + 1) cap')) b t u := by
   intro b t u h hlt hne
   exact ((((boxed_below (boxed_below h hb1) hb2).alloc _).alloc _).kept hgrow (fun e => own_block hrow2 hlt e.symm)).kept (grownBy_setCell' _ _ _) (fun e => hne (by cases e; rfl))
  refine ⟨?_, ?_, ⟨⟨_, hvs, ?_⟩, keep h3 (by omega) (by omega), keep h4 (by omega) (by omega), keep h5 (by omega) (by omega), ?_⟩⟩
  · exact ((((keeps_below hb1).trans (keeps_below hb2)).trans (KeepsOthers.alloc W2 _)).trans hks).from _
  · have hb4 : w.heap.size + 1 + 1 + 1 + 1 < W.heap.size := by simp at hWs; omega
    have hb42 : w.heap.size + 1 + 1 + 1 + 1 < W2.heap.size := by omega
    refine ((left_below hb4 hb1).trans (left_below (by have := hb1.size; omega) hb2)).trans ⟨Nat.le_trans (by simp) hks.size, ?_⟩
    refine (Below.heap_setCell _ _ _ _ (by simp)).trans ?_
    refine (hgrow.block _ (by simp; omega) (fun e => own_block hrow2 (by omega) e.symm)).trans ?_
    exact (Below.heap_alloc _ _ _ (by simp; omega)).trans (Below.heap_alloc _ _ _ (by omega))
  · have := hown'.kept (grownBy_setCell' w1 (w.heap.size + 1 + 1 + 1) (.slice (some ⟨g', 0, none⟩) (pre.length + 1) cap')) (.inr (hv1.not_row (by decide) hown').symm)
    exact this
  · exact (h62.alloc h62.size _).trans hbs
 case done =>
  rintro D W hD ⟨⟨v, hv, hrow, _⟩, h3, h4, h5, h6⟩ hK
  have hc := hv.cell
  have c3 := h3.cell
  have c4 := h4.cell
  have c5 := h5.cell
  have f3 := h3.frozen
  have f4 := h4.frozen
  have f5 := h5.frozen
  have hrow0 := own_less hrow (b' := w.heap.size) (by omega)
  have hK0 : ∀ {b : Nat} {o : Obj}, W.heap[b]? = some o → o.isCells = true → b ≠ D := by
   intro b o h ho e
   subst e
   rw [hK] at h; cases h; cases ho
  rcases hrow.2 with ⟨rfl, hz⟩ | ⟨g, cap, cur, rfl, hrest⟩
  · gi_wp2
    have hK1 : (((W.setCell ⟨w.heap.size, 0, none⟩ (.slice none 0 0)).setCell ⟨w.heap.size + 1, 0, none⟩ (.int .i64 0)).setCell ⟨w.heap.size + 1 + 1, 0, none⟩ (.int .i64 0)).heap[D]? = some (.deferred (some [])) :=
     (Below.heap_setCell _ _ _ _ (hK0 h5 rfl).symm).trans ((Below.heap_setCell _ _ _ _ (hK0 h4 rfl).symm).trans ((Below.heap_setCell _ _ _ _ (hK0 h3 rfl).symm).trans hK))
    refine ⟨by simp, .inl ⟨_, _, rfl, run_takeDeferred hK1, ?_⟩⟩
    have B0 := ((h3.set (.slice none 0 0)).other (B' := w.heap.size + 1) (by omega) (.int .i64 0)).other (B' := w.heap.size + 1 + 1) (by omega) (.int .i64 0)
    have B1 := ((h4.other (B' := w.heap.size) (by omega) (.slice none 0 0)).set (.int .i64 0)).other (B' := w.heap.size + 1 + 1) (by omega) (.int .i64 0)
    have B2 := (((h5.other (B' := w.heap.size) (by omega) (.slice none 0 0)).other (B' := w.heap.size + 1) (by omega) (.int .i64 0)).set (.int .i64 0))
    have D0 := (B0.kept (grownBy_putObj' _ D (.deferred none)) (by simp; exact hK0 h3 rfl)).cell
    have D1 := (B1.kept (grownBy_putObj' _ D (.deferred none)) (by simp; exact hK0 h4 rfl)).cell
    have D2 := (B2.kept (grownBy_putObj' _ D (.deferred none)) (by simp; exact hK0 h5 rfl)).cell
    refine ⟨.tuple #[(.slice none 0 0), .int .i64 0, .int .i64 0], ?_, ?_⟩
    · rw [results_cells3 rfl]
      simp [go_sem, D0, D1, D2]
    · refine ⟨_, rfl, ?_, ?_⟩
      · refine ownsRow_putObj (((hrow0.kept (grownBy_setCell' _ _ _) (.inr (own_block hrow (by omega)))).kept (grownBy_setCell' _ _ _) (.inr (own_block hrow (by omega)))).kept (grownBy_setCell' _ _ _) (.inr (own_block hrow (by omega)))) _ hK1 rfl
      · exact (((h6.setCell (p := ⟨w.heap.size, 0, none⟩) (Nat.le_refl _) _).setCell (p := ⟨w.heap.size + 1, 0, none⟩) (by simp) _).setCell (p := ⟨w.heap.size + 1 + 1, 0, none⟩) (by simp <;> omega) _).trans (belowK_b (w := w) (Nat.le_refl _) _ D _ _ (by simp at hD; omega) hK1 rfl rfl)
  · gi_wp2
    have hK1 : (((W.setCell ⟨w.heap.size, 0, none⟩ (.slice (some ⟨g, 0, none⟩) (linesOf s.data.toList).length cap)).setCell ⟨w.heap.size + 1, 0, none⟩ (.int .i64 0)).setCell ⟨w.heap.size + 1 + 1, 0, none⟩ (.int .i64 0)).heap[D]? = some (.deferred (some [])) :=
     (Below.heap_setCell _ _ _ _ (hK0 h5 rfl).symm).trans ((Below.heap_setCell _ _ _ _ (hK0 h4 rfl).symm).trans ((Below.heap_setCell _ _ _ _ (hK0 h3 rfl).symm).trans hK))
    refine ⟨by simp, .inl ⟨_, _, rfl, run_takeDeferred hK1, ?_⟩⟩
    have B0 := ((h3.set (.slice (some ⟨g, 0, none⟩) (linesOf s.data.toList).length cap)).other (B' := w.heap.size + 1) (by omega) (.int .i64 0)).other (B' := w.heap.size + 1 + 1) (by omega) (.int .i64 0)
    have B1 := ((h4.other (B' := w.heap.size) (by omega) (.slice (some ⟨g, 0, none⟩) (linesOf s.data.toList).length cap)).set (.int .i64 0)).other (B' := w.heap.size + 1 + 1) (by omega) (.int .i64 0)
    have B2 := (((h5.other (B' := w.heap.size) (by omega) (.slice (some ⟨g, 0, none⟩) (linesOf s.data.toList).length cap)).other (B' := w.heap.size + 1) (by omega) (.int .i64 0)).set (.int .i64 0))
    have D0 := (B0.kept (grownBy_putObj' _ D (.deferred none)) (by simp; exact hK0 h3 rfl)).cell
    have D1 := (B1.kept (grownBy_putObj' _ D (.deferred none)) (by simp; exact hK0 h4 rfl)).cell
    have D2 := (B2.kept (grownBy_putObj' _ D (.deferred none)) (by simp; exact hK0 h5 rfl)).cell
    refine ⟨.tuple #[(.slice (some ⟨g, 0, none⟩) (linesOf s.data.toList).length cap), .int .i64 0, .int .i64 0], ?_, ?_⟩
    · rw [results_cells3 rfl]
      simp [go_sem, D0, D1, D2]
    · refine ⟨_, rfl, ?_, ?_⟩
      · refine ownsRow_putObj (((hrow0.kept (grownBy_setCell' _ _ _) (.inr (own_block hrow (by omega)))).kept (grownBy_setCell' _ _ _) (.inr (own_block hrow (by omega)))).kept (grownBy_setCell' _ _ _) (.inr (own_block hrow (by omega)))) _ hK1 rfl
      · exact (((h6.setCell (p := ⟨w.heap.size, 0, none⟩) (Nat.le_refl _) _).setCell (p := ⟨w.heap.size + 1, 0, none⟩) (by simp) _).setCell (p := ⟨w.heap.size + 1 + 1, 0, none⟩) (by simp <;> omega) _).trans (belowK_b (w := w) (Nat.le_refl _) _ D _ _ (by simp at hD; omega) hK1 rfl rfl)
end Go.Proofs.YtfgpfghpciddmaaGreatDoor.rb

namespace Go.Proofs.YtfgpfghpciddmaaGreatDoor.rb
open Go Go.Proofs Go.RowKit Go.Shelf Rb
attribute [local go_sem] Oper.semAt_some
set_option maxRecDepth 100000 in
set_option maxHeartbeats 4000000 in
theorem read_err (n : Nat) (hn : 3 ≤ n) (s : ByteArray) (hlen : s.size ≤ 9223372036854775800) (w : World) (y : List UInt8) (hy : linesOf s.data.toList = [y])
  (hIB : ∀ (r : ByteArray) (W : World), Calls Tryz.prog 57 #[.string r, .int .u8 10] W fun e W' => e = .returned (.int .i64 (Go.Lib.indexByte r.data.toList 10)) ∧ W' = W)
  (hTr : ∀ x ∈ linesOf s.data.toList, ∀ (W : World), Below w.heap.size w W → Calls Tryz.prog 31 #[.string ⟨x.toArray⟩, .string ⟨#[10]⟩] W fun e W' => e = .returned (.string ⟨(trimL x).toArray⟩) ∧ Below W.heap.size W W')
  (hSt : ∀ x ∈ linesOf s.data.toList, ∀ W, Below w.heap.size w W → Calls Tryz.prog 30 #[.string ⟨(trimL x).toArray⟩] W fun e W' => e = .returned (.tuple #[.agg #[.int .i64 0, .int .i64 0, .int .i64 0], .int .i64 3]) ∧ Below W.heap.size W W') :
  CallsIn Fence.wide n Tryz.prog 18 #[.string s] w fun e w' => e = .returned (.tuple #[.slice none 0 0, .int .i64 1, .int .i64 3]) ∧ Below w.heap.size w w' := by
 obtain ⟨i0, hi, hz0, hz1, hz2⟩ := info_parts infoS
 refine callsIn_of_wp_marks Tryz.func18 rfl trivial ?_ rfl
 simp only [Tryz.ntmps18, List.size_toArray, List.length_cons, List.length_nil, Nat.reduceAdd, Nat.reduceSub, Array.replicate_succ, Array.replicate_zero, List.push_toArray, List.append_toArray, List.nil_append, List.cons_append]
 gi_wp2
 refine ⟨trivial, fun _ => by omega, (lines_call _ s _).mono ?_⟩
 rintro e W2 ⟨rfl, rfl⟩
 gi_wp2
 have hgo : ∀ W : World, Below w.heap.size w W → w.heap.size ≤ W.heap.size := fun W h => h.size
 refine wpIn_rangeFunc_turnsX (by omega) (gf := 56) (lb := #[.pointer (some ⟨w.heap.size + 1 + 1 + 1 + 1, 0, none⟩)]) rfl (enters_of Tryz.func56 (by kernel_rfl) rfl)
  (encs := encB) (b := w.heap.size + 1 + 1 + 1 + 1) (xs := linesOf s.data.toList) (by simp) (lines_seq (n - 1) (by omega) _ s hlen _ ?boxS (fun r W => callsIn_wide.2 (hIB r W))) (fun _ => rfl)
  (fun pre W => (pre = [] ∧ Boxed W (w.heap.size + 1 + 1 + 1) 51 (.slice none 0 0)) ∧ Boxed W w.heap.size 51 (.slice none 0 0) ∧ Boxed W (w.heap.size + 1) 3 (.int .i64 0) ∧ Boxed W (w.heap.size + 1 + 1) 30 (.int .i64 0) ∧ Below w.heap.size w W)
  (fun W => Boxed W w.heap.size 51 (.slice none 0 0) ∧ Boxed W (w.heap.size + 1) 3 (.int .i64 1) ∧ Boxed W (w.heap.size + 1 + 1) 30 (.int .i64 3) ∧ Below w.heap.size w W) ?own ?ownx ?turn ?start
  (fun x => { tmps := #[.string s, undef, .pointer (some ⟨w.heap.size, 0, none⟩), .pointer (some ⟨w.heap.size + 1, 0, none⟩), .pointer (some ⟨w.heap.size + 1 + 1, 0, none⟩), .pointer (some ⟨w.heap.size + 1 + 1 + 1, 0, none⟩), .string ⟨x.toArray⟩, undef, undef, .string s, .func (.func 56) #[] #[.pointer (some ⟨w.heap.size + 1 + 1 + 1 + 1, 0, none⟩)], .string ⟨x.toArray⟩, undef, undef, undef, undef, undef, undef, undef, undef, undef, undef, undef, undef, undef, undef, undef, undef, undef, undef, undef, undef], defers := [] }) ?assign ?body (fun D W _ h _ => absurd h.1.1 (by rw [hy]; simp)) ?stop
 case boxS =>
  have h := Boxed.new ((((w.alloc (.cells #[.slice none 0 0] 51)).alloc (.cells #[.int .i64 0] 3)).alloc (.cells #[.int .i64 0] 30)).alloc (.cells #[.slice none 0 0] 51)) 9 (.string s)
  simpa only [World.size_alloc] using h
 case own =>
  exact OwnFrom.and (OwnFrom.and (fun _ _ _ _ h _ _ => h) (boxed_own _ _ _ _)) (OwnFrom.and (boxed_own _ _ _ _) (OwnFrom.and (boxed_own _ _ _ _) (OwnFrom.and (boxed_own _ _ _ _) (ownFrom_below (Nat.le_refl _) (by simp <;> omega)))))
 case ownx =>
  exact OwnFrom.and (boxed_own _ _ _ _) (OwnFrom.and (boxed_own _ _ _ _) (OwnFrom.and (boxed_own _ _ _ _) (ownFrom_below (Nat.le_refl _) (by simp <;> omega))))
 case turn =>
  rintro pre A B ⟨⟨rfl, h1⟩, h3, h4, h5, h6⟩ ⟨hg, _⟩
  exact ⟨⟨rfl, h1.kept hg (by simp)⟩, h3.kept hg (by simp <;> omega), h4.kept hg (by simp <;> omega), h5.kept hg (by simp <;> omega), h6.grown hg h6.size (by simp <;> omega)⟩
 case start =>
  have B0 := (Boxed.new w 51 (.slice none 0 0))
  have h1 : Below w.heap.size w (w.alloc (.cells #[.slice none 0 0] 51)) := (Below.refl _ w).alloc (Nat.le_refl _) _
  have h2 := h1.alloc (by simp) (.cells #[.int .i64 0] 3)
  have h3 := h2.alloc (by simp <;> omega) (.cells #[.int .i64 0] 30)
  have h4 := h3.alloc (by simp <;> omega) (.cells #[.slice none 0 0] 51)
  have h5 := h4.alloc (by simp <;> omega) (.cells #[.string s] 9)
  have B1 := Boxed.new (w.alloc (.cells #[.slice none 0 0] 51)) 3 (.int .i64 0)
  have B2 := Boxed.new ((w.alloc (.cells #[.slice none 0 0] 51)).alloc (.cells #[.int .i64 0] 3)) 30 (.int .i64 0)
  have B3 := Boxed.new (((w.alloc (.cells #[.slice none 0 0] 51)).alloc (.cells #[.int .i64 0] 3)).alloc (.cells #[.int .i64 0] 30)) 51 (.slice none 0 0)
  simp only [World.size_alloc] at B1 B2 B3
  exact ⟨⟨rfl, B3.alloc _⟩, (((B0.alloc _).alloc _).alloc _).alloc _, ((B1.alloc _).alloc _).alloc _, (B2.alloc _).alloc _, h5⟩
 case assign =>
  intro l x W K hK
  simp only [encB]
  gi_wp2
  exact hK
 case body =>
  rintro l pre x W hWs ⟨⟨rfl, hv⟩, h3, h4, h5, h6⟩ hpx
  have hc := hv.cell
  gi_wp2
  have hxm : x ∈ linesOf s.data.toList := by
   obtain ⟨t, ht⟩ := hpx
   rw [← ht]; simp
  refine ⟨trivial, fun _ => by omega, ((callsIn_wide.2 (hTr x hxm W h6)).inRound l).mono ?_⟩
  rintro e W1 ⟨rfl, hb1⟩
  gi_wp2
  have h61 : Below w.heap.size w W1 := h6.trans (hb1.mono h6.size)
  refine ⟨trivial, fun _ => by omega, ((callsIn_wide.2 (hSt x hxm W1 h61)).inRound l).mono ?_⟩
  rintro e W2 ⟨rfl, hb2⟩
  have h62 : Below w.heap.size w W2 := h61.trans (hb2.mono h61.size)
  have hv2 := boxed_below (boxed_below hv hb1) hb2
  have hva := hv2.alloc (.cells #[.int .i64 0, .int .i64 0, .int .i64 0] 88)
  have hca := hva.cell
  have h3a := (boxed_below (boxed_below h3 hb1) hb2).alloc (.cells #[.int .i64 0, .int .i64 0, .int .i64 0] 88)
  have h4a := (boxed_below (boxed_below h4 hb1) hb2).alloc (.cells #[.int .i64 0, .int .i64 0, .int .i64 0] 88)
  have h5a := (boxed_below (boxed_below h5 hb1) hb2).alloc (.cells #[.int .i64 0, .int .i64 0, .int .i64 0] 88)
  have c3 := h3a.cell
  have c4 := h4a.cell
  have c5 := h5a.cell
  have f3 := h3a.frozen
  have f4 := h4a.frozen
  have f5 := h5a.frozen
  have hsz2 : w.heap.size + 5 ≤ W2.heap.size := by
   have e1 := hb1.size
   have e2 := hb2.size
   simp at hWs
   omega
  have ew : IntKind.i64.wrap 1 = 1 := by decide
  have g0 := ((h3a.set (.slice none 0 0)).other (B' := w.heap.size + 1) (by omega) (.int .i64 (IntKind.i64.wrap 1))).other (B' := w.heap.size + 1 + 1) (by omega) (.int .i64 3)
  have g1 := ((h4a.other (B' := w.heap.size) (by omega) (.slice none 0 0)).set (.int .i64 (IntKind.i64.wrap 1))).other (B' := w.heap.size + 1 + 1) (by omega) (.int .i64 3)
  have g2 := (((h5a.other (B' := w.heap.size) (by omega) (.slice none 0 0)).other (B' := w.heap.size + 1) (by omega) (.int .i64 (IntKind.i64.wrap 1))).set (.int .i64 3))
  have gk := ((((((keeps_below hb1).trans (keeps_below hb2)).trans (KeepsOthers.alloc W2 (.cells #[.int .i64 0, .int .i64 0, .int .i64 0] 88))).trans (KeepsOthers.setCell _ ⟨w.heap.size, 0, none⟩ (.slice none 0 0))).trans (KeepsOthers.setCell _ ⟨w.heap.size + 1, 0, none⟩ (.int .i64 (IntKind.i64.wrap 1)))).trans (KeepsOthers.setCell _ ⟨w.heap.size + 1 + 1, 0, none⟩ (.int .i64 3)))
  have gb := ((((h62.alloc h62.size (.cells #[.int .i64 0, .int .i64 0, .int .i64 0] 88)).setCell (p := ⟨w.heap.size, 0, none⟩) (Nat.le_refl _) (.slice none 0 0)).setCell (p := ⟨w.heap.size + 1, 0, none⟩) (by simp) (.int .i64 (IntKind.i64.wrap 1))).setCell (p := ⟨w.heap.size + 1 + 1, 0, none⟩) (by simp <;> omega) (.int .i64 3))
  rw [ew] at g0 g1 g2 gk gb
  gi_wp2
  gi_region
  gi_wp2
  all_goals exact ⟨(gk.trans (KeepsOthers.drew _)).from _, g0, g1, g2, gb.drew⟩
 case stop =>
  rintro D W hD ⟨h3, h4, h5, h6⟩ hK
  have hK0 : ∀ {b : Nat} {o : Obj}, W.heap[b]? = some o → o.isCells = true → b ≠ D := by
   intro b o h ho e
   subst e
   rw [hK] at h; cases h; cases ho
  gi_wp2
  refine ⟨by simp, .inl ⟨_, _, rfl, run_takeDeferred hK, ?_⟩⟩
  have D0 := (h3.kept (grownBy_putObj' _ D (.deferred none)) (by simp; exact hK0 h3 rfl)).cell
  have D1 := (h4.kept (grownBy_putObj' _ D (.deferred none)) (by simp; exact hK0 h4 rfl)).cell
  have D2 := (h5.kept (grownBy_putObj' _ D (.deferred none)) (by simp; exact hK0 h5 rfl)).cell
  refine ⟨.tuple #[.slice none 0 0, .int .i64 1, .int .i64 3], ?_, ?_⟩
  · rw [results_cells3 rfl]
    simp [go_sem, D0, D1, D2]
  · exact ⟨rfl, h6.trans (belowK_b (w := w) (Nat.le_refl _) _ D _ _ (by simp at hD; omega) hK rfl rfl)⟩
end Go.Proofs.YtfgpfghpciddmaaGreatDoor.rb

namespace Go.Proofs.YtfgpfghpciddmaaGreatDoor.rb
open Rb
noncomputable def goneK (T : TH) (old : Option Nat) (K : TH → Bool) : Bool := match old with
 | none => K T
 | some j => THset T j .gone K
noncomputable def wrK (T : TH) (id : Nat) (old : Option Nat) (bs : List UInt8) (K : TH → Bool) : Bool := match bs with
 | [] => goneK T old fun T => THset T id (.bld 71 true none) K
 | b :: r => goneK T old fun T1 => natV T.n fun n => natV (b :: r).length fun l => THset T1 id (.bld 71 true (some (n, l))) fun T2 => spineK (b :: r) fun bs => THpush T2 (.buf 5 bs) K
theorem wrK_ok {T : TH} {id : Nat} {old : Option Nat} {bs : List UInt8} {K : TH → Bool} (ho : bufOf T.ah id = old) (h : wrK T id old bs K = true) : ∃ T', K T' = true ∧ T'.ah = wroteX T.ah id 71 5 bs := by
 have hg : ∀ K : TH → Bool, goneK T old K = true → ∃ T1, K T1 = true ∧ T1.ah = T.ah.setO old := by
  intro K hK
  unfold goneK at hK
  cases old with
  | none => exact ⟨T, hK, rfl⟩
  | some j => simp only [THset_eq] at hK; exact ⟨_, hK, by rw [TH.ah_set]; rfl⟩
 cases bs with
 | nil =>
  unfold wrK at h
  dsimp only at h
  obtain ⟨T1, h1, h2⟩ := hg _ h
  simp only [THset_eq] at h1
  refine ⟨_, h1, ?_⟩
  rw [TH.ah_set, h2, ← ho]
  rfl
 | cons b r =>
  unfold wrK at h
  dsimp only at h
  obtain ⟨T1, h1, h2⟩ := hg _ h
  simp only [THset_eq, THpush_eq, natV_eq, spineK_eq] at h1
  refine ⟨_, h1, ?_⟩
  rw [TH.ah_push, TH.ah_set, h2, ← ho]
  rw [show wroteX T.ah id 71 5 (b :: r) = wroteH T.ah id 71 5 (b :: r) from if_neg (by simp)]
  rfl
noncomputable def bldB (T : TH) (id : Nat) : Option (List UInt8 × Option Nat) := match T.t.get id with
 | .bld t u none => cond (Nat.beq t 71) (cond (Nat.blt id T.n) (some ([], none)) none) none
 | .bld t u (some (j, l)) => match T.t.get j with
  | .buf v bs => cond (and (and (and (Nat.beq t 71) u) (and (Nat.beq v 5) (Nat.blt id T.n))) (and (Nat.blt j T.n) (and (Nat.beq l bs.length) (Nat.blt 0 bs.length)))) (some (bs, some j)) none
  | _ => none
 | _ => none
theorem bldB_ok {T : TH} {id : Nat} {bs : List UInt8} {o : Option Nat} (h : bldB T id = some (bs, o)) : BAt T.ah id bs ∧ bufOf T.ah id = o := by
 have ht : ∀ i, T.ah.o i = T.t.get i := fun _ => rfl
 unfold bldB at h
 split at h
 · rename_i t u hb
   cases hc : Nat.beq t 71 with
   | false => rw [hc] at h; cases h
   | true =>
    rw [hc] at h
    cases hd : Nat.blt id T.n with
    | false => rw [hd] at h; cases h
    | true =>
     rw [hd] at h
     cases h
     obtain rfl := Nat.eq_of_beq_eq_true hc
     have hlt : id < T.n := Nat.le_of_ble_eq_true hd
     refine ⟨⟨hlt, .inl ⟨u, ?_, rfl⟩⟩, ?_⟩
     · rw [ht]; exact hb
     · unfold bufOf; rw [ht, hb]
 · rename_i t u j l hb
   split at h
   · rename_i v bs' hv
     cases hc : (and (and (and (Nat.beq t 71) u) (and (Nat.beq v 5) (Nat.blt id T.n))) (and (Nat.blt j T.n) (and (Nat.beq l bs'.length) (Nat.blt 0 bs'.length)))) with
     | false => rw [hc] at h; cases h
     | true =>
      rw [hc] at h
      cases h
      simp only [Bool.and_eq_true] at hc
      obtain ⟨⟨⟨h1, h2⟩, h3, h4⟩, h5, h6, h7⟩ := hc
      obtain rfl := Nat.eq_of_beq_eq_true h1
      obtain rfl := Nat.eq_of_beq_eq_true h3
      obtain rfl := Nat.eq_of_beq_eq_true h6
      subst h2
      have hid : id < T.n := Nat.le_of_ble_eq_true h4
      have hj : j < T.n := Nat.le_of_ble_eq_true h5
      have h0 : 0 < bs.length := Nat.le_of_ble_eq_true h7
      refine ⟨⟨hid, .inr ⟨j, ?_, ?_, hj, ?_⟩⟩, ?_⟩
      · rw [ht]; exact hb
      · rw [ht]; exact hv
      · intro e; rw [e] at h0; simp at h0
      · unfold bufOf; rw [ht, hb]
   · cases h
 · cases h
def decF : Nat → Nat → List UInt8 → List UInt8
 | 0, _, l => l
 | n + 1, u, l => cond (Nat.blt u 10) (UInt8.ofNat (48 + u) :: l) (decF n (u / 10) (UInt8.ofNat (48 + u % 10) :: l))
theorem decF_eq : ∀ (n u : Nat) (l : List UInt8), u < 10 ^ n → 1 ≤ n → decF n u l = Go.Lib.decDigits u ++ l
 | 0, u, l, _, h => absurd h (by omega)
 | n + 1, u, l, hu, _ => by
  unfold decF
  by_cases h : u < 10
  · rw [show Nat.blt u 10 = true from Nat.ble_eq_true_of_le h, Go.Lib.decDigits, dif_pos h]
    rfl
  · have hb : Nat.blt u 10 = false := by
      cases hc : Nat.blt u 10 with
      | false => rfl
      | true => exact absurd (Nat.le_of_ble_eq_true hc) h
    have hn : 1 ≤ n := by
     rcases n with _ | n
     · simp at hu; omega
     · omega
    rw [hb, Go.Lib.decDigits, dif_neg h]
    have hu' : u / 10 < 10 ^ n := by rw [Nat.pow_succ] at hu; omega
    simp only [cond_false]
    rw [decF_eq n (u / 10) _ hu' hn, List.append_assoc]
    rfl
noncomputable def wsK (args : List AV) (T : TH) (Q : PostB) : Bool := match args with
 | [.ptr id 0, .str s] => (match bldB T id with
   | some (bs, o) => and (Nat.ble s.length 1000000) (and (Nat.ble bs.length 1000000) (wrK T id o (bs ++ s) fun T' => Q (.tup [.int .i64 s.length, .nilif]) T'))
   | none => false)
 | _ => false
noncomputable def lnK (args : List AV) (T : TH) (Q : PostB) : Bool := match args with
 | [.ptr id 0] => (match bldB T id with
   | some (bs, _) => Q (.int .i64 bs.length) T
   | none => false)
 | _ => false
noncomputable def txK (args : List AV) (T : TH) (Q : PostB) : Bool := match args with
 | [.ptr id 0] => (match bldB T id with
   | some ([], _) => Q (.str []) T
   | some (b :: r, o) => wrK T id o (b :: r) fun T' => Q (.str (b :: r)) T'
   | none => false)
 | _ => false
noncomputable def itK (args : List AV) (T : TH) (Q : PostB) : Bool := match args with
 | [.int .i64 (.ofNat n)] => and (Nat.ble n 1000000) (Q (.str (decF 8 n [])) T)
 | _ => false
noncomputable def fuK (args : List AV) (T : TH) (Q : PostB) : Bool := match args with
 | [.int .u64 (.ofNat n), .int .i64 (.ofNat m)] => and (Nat.beq m 10) (and (Nat.ble n 1000000) (Q (.str (decF 8 n [])) T))
 | _ => false
noncomputable def libK (k : Nat) (args : List AV) (T : TH) (Q : PostB) : Bool :=
 cond (Nat.beq k 23) (wsK args T Q) (cond (Nat.beq k 365) (lnK args T Q) (cond (Nat.beq k 24) (txK args T Q) (cond (Nat.beq k 10) (itK args T Q) (fuK args T Q))))
theorem libK_ok {k : Nat} {args : List AV} {T : TH} {K : PostB} (hk : (k = 23 ∨ k = 365) ∨ k = 24 ∨ k = 10 ∨ k = 26) (h : libK k args T K = true) {Q : Post} (hQ : ∀ v T', K v T' = true → Q v T'.ah) : ACall C k args T.ah Q := by
 have dec8 : ∀ n : Nat, n ≤ 1000000 → decF 8 n [] = Go.Lib.decDigits n := fun n hn => by rw [decF_eq 8 n [] (by omega) (by decide), List.append_nil]
 rcases hk with (rfl | rfl) | rfl | rfl | rfl
 · have g : wsK args T K = true := h
   clear h
   unfold wsK at g
   split at g
   · split at g
     · rename_i hb
       simp only [Bool.and_eq_true] at g
       obtain ⟨h1, h2, h3⟩ := g
       obtain ⟨b1, b2⟩ := bldB_ok hb
       have h1 := Nat.le_of_ble_eq_true h1
       have h2 := Nat.le_of_ble_eq_true h2
       obtain ⟨T', h4, h5⟩ := wrK_ok b2 h3
       refine writeOKx b1 _ (by omega) (by omega) ?_
       rw [← h5]
       exact hQ _ _ h4
     · cases g
   · cases g
 · have g : lnK args T K = true := h
   clear h
   unfold lnK at g
   split at g
   · split at g
     · rename_i hb
       exact lenOK (bldB_ok hb).1 (hQ _ _ g)
     · cases g
   · cases g
 · have g : txK args T K = true := h
   clear h
   unfold txK at g
   split at g
   · split at g
     · rename_i hb
       refine textOKx (bldB_ok hb).1 ?_
       rw [if_pos rfl]
       exact hQ _ _ g
     · rename_i hb
       obtain ⟨b1, b2⟩ := bldB_ok hb
       obtain ⟨T', h4, h5⟩ := wrK_ok b2 g
       refine textOKx b1 ?_
       rw [if_neg (by simp), ← h5]
       exact hQ _ _ h4
     · cases g
   · cases g
 · have g : itK args T K = true := h
   clear h
   unfold itK at g
   split at g
   · rename_i n
     simp only [Bool.and_eq_true] at g
     have h1 := Nat.le_of_ble_eq_true g.1
     refine itoaOK _ (by show (-9223372036854775808 : Int) ≤ (n : Int); omega) (by show (n : Int) ≤ 9223372036854775807; omega) _ _ ?_
     have e : Go.Lib.itoa (Int.ofNat n) = decF 8 n [] := by rw [dec8 n h1]; unfold Go.Lib.itoa; rw [if_neg (by simp)]; rfl
     rw [e]
     exact hQ _ _ g.2
   · cases g
 · have g : fuK args T K = true := h
   clear h
   unfold fuK at g
   split at g
   · rename_i n m
     simp only [Bool.and_eq_true] at g
     obtain ⟨h0, h1, h2⟩ := g
     obtain rfl := Nat.eq_of_beq_eq_true h0
     have h1 := Nat.le_of_ble_eq_true h1
     refine fmtOK n (by omega) _ _ ?_
     rw [← dec8 n h1]
     exact hQ _ _ h2
   · cases g
noncomputable def isLib (k : Nat) : Bool := or (or (Nat.beq k 23) (Nat.beq k 365)) (or (Nat.beq k 24) (or (Nat.beq k 10) (Nat.beq k 26)))
noncomputable def dispL (B : CallsB) : CallsB := fun k args T Q => cond (isLib k) (libK k args T Q) (dispI fn B k args T Q)
theorem dispL_ok : DispOK (ACall C) dispL := by
 intro B hB k args T K h Q hQ
 unfold dispL at h
 cases hb : isLib k with
 | true =>
  rw [hb] at h
  unfold isLib at hb
  simp only [Bool.or_eq_true] at hb
  exact libK_ok (hb.imp (fun e => e.imp Nat.eq_of_beq_eq_true Nat.eq_of_beq_eq_true) fun e => e.imp Nat.eq_of_beq_eq_true fun e => e.imp Nat.eq_of_beq_eq_true Nat.eq_of_beq_eq_true) h hQ
 | false =>
  rw [hb] at h
  exact dispOK B hB k args T K h Q hQ
noncomputable def runL (L : List (Nat × List AV × AV)) : CallsB := runM (MxG L) dispL 100
theorem runL_ok {L : List (Nat × List AV × AV)} (hL : MemoOK (ACall C) (memL L)) : SoundB (ACall C) (runL L) := runM_sound (MxG_ok hL) dispL_ok 100
end Go.Proofs.YtfgpfghpciddmaaGreatDoor.rb

namespace Go.Proofs.YtfgpfghpciddmaaGreatDoor.rb
open Rb Go.Shelf Go.RowKit
set_option maxRecDepth 100000 in
theorem count_calls (s : ByteArray) (w : World) : Calls Tryz.prog 143 #[.string s, .string ⟨#[32]⟩] w fun e w' => e = .returned (.int .i64 (Go.Lib.countByte s.data.toList 32)) ∧ w' = w := by
 go_enter Tryz.func143, Tryz.ntmps143
 go_wp2
 rw [run_callFunc_extern Tryz.func206 (by kernel_rfl) (by kernel_rfl) (by kernel_rfl) (e := Extern.BytealgCount.count) (by kernel_rfl), Go.Lib.run_countString]
 simp only [Result.andThen]
 rw [Oper.upon_value]
 go_wp2
 refine bodyPost_ret (results_tmp rfl _ _ _) rfl ?_
 exact ⟨rfl, rfl⟩
set_option maxRecDepth 100000 in
theorem nl_calls (s : ByteArray) (w : World) : Calls Tryz.prog 57 #[.string s, .int .u8 10] w fun e w' => e = .returned (.int .i64 (Go.Lib.indexByte s.data.toList 10)) ∧ w' = w := by
 go_enter Tryz.func57, Tryz.ntmps57
 go_wp2
 rw [run_callFunc_extern Tryz.func141 (by kernel_rfl) (by kernel_rfl) (by kernel_rfl) (e := Extern.BytealgIndexByte.indexByte) (by kernel_rfl), Go.Lib.run_indexByteString]
 simp only [Result.andThen]
 rw [Oper.upon_value]
 go_wp2
 go_ret
 exact ⟨rfl, rfl⟩
set_option maxRecDepth 100000 in
theorem index_calls (s : ByteArray) (w : World) : Calls Tryz.prog 144 #[.string s, .string ⟨#[32]⟩] w fun e w' => e = .returned (.int .i64 (Go.Lib.indexByte s.data.toList 32)) ∧ w' = w := by
 go_enter Tryz.func144, Tryz.ntmps144
 have hsz : (⟨#[32]⟩ : ByteArray).size = 1 := rfl
 cases hb : ([32] == s.toList) with
 | true =>
  have hs : s.data.toList = [32] := by
   have := eq_of_beq hb
   rw [Lib.toList_data] at this
   exact this.symm
  go_wp2
  refine bodyPost_ret (results_tmp rfl _ _ _) rfl ?_
  exact ⟨by rw [hs]; rfl, rfl⟩
 | false =>
  go_wp2
  rw [run_callFunc_extern Tryz.func141 (by kernel_rfl) (by kernel_rfl) (by kernel_rfl) (e := Extern.BytealgIndexByte.indexByte) (by kernel_rfl), Go.Lib.run_indexByteString]
  simp only [Result.andThen]
  rw [Oper.upon_value]
  go_wp2
  refine bodyPost_ret (results_tmp rfl _ _ _) rfl ?_
  exact ⟨rfl, rfl⟩
theorem tup3 {F : FTab} {w : World} {G : Ghost} {a b c : AV} {A B D : Value} (h1 : VR F w G a A) (h2 : VR F w G b B) (h3 : VR F w G c D) : VR F w G (.tup [a, b, c]) (.tuple #[A, B, D]) := by
 refine .tup _ _ rfl fun j x V hc hV => ?_
 rcases j with _ | _ | _ | j
 · simp at hc hV; subst hc hV; exact h1
 · simp at hc hV; subst hc hV; exact h2
 · simp at hc hV; subst hc hV; exact h3
 · simp at hc
theorem countOK (s : List UInt8) (H : AH) (Q : Post) (hQ : Q (.int .i64 (s.count 32 : Nat)) H) : ACall C 143 [.str s, .str [32]] H Q := by
 refine ⟨⟨_, _, hQ⟩, fun f hf G W Vs hG hrel hargs => ?_⟩
 obtain rfl : f = 143 := by
  have : C.F 143 = some 143 := by kernel_rfl
  rw [this] at hf; exact (Option.some.inj hf).symm
 obtain ⟨hl, hv⟩ := hargs
 obtain ⟨Vl⟩ := Vs
 match Vl, hl with
 | [V0, V1], _ =>
  have e0 := (hv 0 _ V0 rfl rfl).str_inv
  have e1 := (hv 1 _ V1 rfl rfl).str_inv
  subst e0 e1
  refine (count_calls ⟨s.toArray⟩ W).mono fun e w' ⟨he, hw⟩ => ?_
  subst hw
  exact ⟨_, _, H, G, he, hQ, .int _ _, hrel, Step.refl _ _ _⟩
theorem indexOK (s : List UInt8) (H : AH) (Q : Post) (hQ : Q (.int .i64 (Go.Lib.indexByte s 32)) H) : ACall C 144 [.str s, .str [32]] H Q := by
 refine ⟨⟨_, _, hQ⟩, fun f hf G W Vs hG hrel hargs => ?_⟩
 obtain rfl : f = 144 := by
  have : C.F 144 = some 144 := by kernel_rfl
  rw [this] at hf; exact (Option.some.inj hf).symm
 obtain ⟨hl, hv⟩ := hargs
 obtain ⟨Vl⟩ := Vs
 match Vl, hl with
 | [V0, V1], _ =>
  have e0 := (hv 0 _ V0 rfl rfl).str_inv
  have e1 := (hv 1 _ V1 rfl rfl).str_inv
  subst e0 e1
  refine (index_calls ⟨s.toArray⟩ W).mono fun e w' ⟨he, hw⟩ => ?_
  subst hw
  exact ⟨_, _, H, G, he, hQ, .int _ _, hrel, Step.refl _ _ _⟩
theorem gox_below {W W' : World} {G : Ghost} {H : AH} (hrel : Rel C.F W G H) (hb : Below W.heap.size W W') (h : GOX C W G H) : GOX C W' G H := h.step (step_below hb hrel)
def stA (x : Stp) : List AV := [.int .i64 x.1, .int .i64 x.2.1, .int .i64 x.2.2]
theorem step_inv {F : FTab} {w : World} {G : Ghost} {x : Stp} {e : Int} {V : Value} (h : VR F w G (.tup [.agg (stA x), .int .i64 e]) V) : V = .tuple #[.agg #[.int .i64 x.1, .int .i64 x.2.1, .int .i64 x.2.2], .int .i64 e] := by
 cases h with
 | tup _ Vs hl hv =>
  obtain ⟨Vl⟩ := Vs
  match Vl, hl with
  | [A, B], _ =>
   have h0 := hv 0 _ A rfl rfl
   have h1 := (hv 1 _ B rfl rfl).int_inv
   subst h1
   obtain ⟨Xs, rfl, hX⟩ := h0.agg_inv
   obtain ⟨Xl⟩ := Xs
   match Xl, hX.1 with
   | [P, Q, R], _ =>
    have g0 := (hX.2 0 _ P rfl rfl).int_inv
    have g1 := (hX.2 1 _ Q rfl rfl).int_inv
    have g2 := (hX.2 2 _ R rfl rfl).int_inv
    subst g0 g1 g2
    rfl
def stZ (x : Stp) : List Int := [x.1, x.2.1, x.2.2]
theorem flat_A (f : List UInt8 → Stp) (l : List (List UInt8)) : (l.flatMap fun x => stA (f x)) = (l.flatMap fun x => stZ (f x)).map (AV.int .i64) := by simp [List.map_flatMap, stA, stZ]
theorem flat_V (f : List UInt8 → Stp) (l : List (List UInt8)) : (l.flatMap fun x => stV (f x)) = (l.flatMap fun x => stZ (f x)).map (Value.int .i64) := by simp [List.map_flatMap, stV, stZ]
theorem readOK (s : List UInt8) (hs : s.length ≤ 9223372036854775800) (f : List UInt8 → Stp) (hcnt : (linesOf s).length ≤ 4096)
  (hTr : ∀ x ∈ linesOf s, ACall C 31 [.str x, .str [10]] AH.mt (fun v _ => v = .str (trimL x)))
  (hSt : ∀ x ∈ linesOf s, ACall C 30 [.str (trimL x)] AH.mt (fun v _ => v = .tup [.agg (stA (f x)), .int .i64 0]))
  (H : AH) (Q : Post) (hQ : Q (.tup [.lst .dead (linesOf s).length ((linesOf s).flatMap fun x => stA (f x)), .int .i64 0, .int .i64 0]) H) : ACall C 18 [.str s] H Q := by
 refine ⟨⟨_, _, hQ⟩, fun f' hf G W Vs hG hrel hargs => ?_⟩
 obtain rfl : f' = 18 := by
  have : C.F 18 = some 18 := by kernel_rfl
  rw [this] at hf; exact (Option.some.inj hf).symm
 obtain ⟨hl, hv⟩ := hargs
 obtain ⟨Vl⟩ := Vs
 match Vl, hl with
 | [V0], _ =>
  have e0 := (hv 0 _ V0 rfl rfl).str_inv
  subst e0
  have hd : (⟨s.toArray⟩ : ByteArray).data.toList = s := by simp
  have hmt : ∀ W', Below W.heap.size W W' → Rel C.F W' (Ghost.mt G.fz) AH.mt ∧ GOX C W' (Ghost.mt G.fz) AH.mt := by
   intro W' hb
   have hr := rel_below hb hrel
   refine ⟨Rel.mt hr.fzc, (gox_below hrel hb hG).mt ?_ fun i hi => by cases hi⟩
   exact fun g l hg => froz_vr (G := G) (G' := Ghost.mt G.fz) (w := W') (fun _ _ h => h) (fun _ _ _ _ h => h) (by simp only [AV.froz]; exact gtC g l hg) ((gox_below hrel hb hG).1 g l hg)
  have hcalls := callsIn_wide.1 (read_in 3 (Nat.le_refl _) ⟨s.toArray⟩ (by show s.toArray.size ≤ _; simpa using hs) W f (by rw [hd]; exact hcnt) (fun r W' => nl_calls r W')
    (fun x hx W' hb => by
      rw [hd] at hx
      obtain ⟨h1, h2⟩ := hmt W' hb
      refine ((hTr x hx).run (f := 31) (by kernel_rfl) h2 h1 (VRs.two (.str _) (.str _))).mono fun e w' he => ?_
      obtain ⟨V, v, H', G', rfl, rfl, hV, _, hst⟩ := he
      cases hV
      exact ⟨rfl, hst.below⟩)
    (fun x hx W' hb => by
      rw [hd] at hx
      obtain ⟨h1, h2⟩ := hmt W' hb
      refine ((hSt x hx).run (f := 30) (by kernel_rfl) h2 h1 (VRs.one (.str _))).mono fun e w' he => ?_
      obtain ⟨V, v, H', G', rfl, rfl, hV, _, hst⟩ := he
      exact ⟨by rw [step_inv hV], hst.below⟩))
  refine hcalls.mono fun e w' ⟨v, he, hown, hbel⟩ => ?_
  rw [hd, flat_V] at hown
  rw [flat_A] at hQ
  obtain ⟨hxl, hown⟩ := hown
  rcases hown with ⟨rfl, hz⟩ | ⟨g, cap, cur, rfl, hbase, hblk, hle, _, hsz, htake⟩
  · have hnil : linesOf s = [] := List.length_eq_zero_iff.1 hz
    rw [hnil] at hQ
    exact ⟨_, _, H, G, he, hQ, tup3 (.lst0 _ _) (.int _ _) (.int _ _), rel_below hbel hrel, step_below hbel hrel⟩
  · generalize hZ : ((linesOf s).flatMap fun x => stZ (f x)) = zs at hxl htake hQ
    obtain ⟨G', r1, r2, r3⟩ := adoptF hbel hrel hbase hblk (cs := zs.map (AV.int .i64)) (fun j c hj => by
      simp only [List.getElem?_map] at hj
      cases hzj : zs[j]? with
      | none => rw [hzj] at hj; cases hj
      | some z =>
       rw [hzj] at hj
       cases hj
       have hjl := (List.getElem?_eq_some_iff.1 hzj).1
       refine ⟨.int .i64 z, ?_, .int _ _⟩
       have := congrArg (fun l => l[j]?) htake
       simp only [List.getElem?_take, List.getElem?_map, hzj, Option.map_some] at this
       rw [if_pos (by simp at hxl; omega)] at this
       rw [← Array.getElem?_toList]
       exact this)
    exact ⟨_, _, _, G', he, hQ, tup3 (r3 _ _ hle) (.int _ _) (.int _ _), r1, r2⟩
theorem readErr (s : List UInt8) (hs : s.length ≤ 9223372036854775800) (y : List UInt8) (hy : linesOf s = [y])
  (hTr : ∀ x ∈ linesOf s, ACall C 31 [.str x, .str [10]] AH.mt (fun v _ => v = .str (trimL x)))
  (hSt : ∀ x ∈ linesOf s, ACall C 30 [.str (trimL x)] AH.mt (fun v _ => v = .tup [.agg (stA (0, 0, 0)), .int .i64 3]))
  (H : AH) (Q : Post) (hQ : Q (.tup [.lst .dead 0 [], .int .i64 1, .int .i64 3]) H) : ACall C 18 [.str s] H Q := by
 refine ⟨⟨_, _, hQ⟩, fun f' hf G W Vs hG hrel hargs => ?_⟩
 obtain rfl : f' = 18 := by
  have : C.F 18 = some 18 := by kernel_rfl
  rw [this] at hf; exact (Option.some.inj hf).symm
 obtain ⟨hl, hv⟩ := hargs
 obtain ⟨Vl⟩ := Vs
 match Vl, hl with
 | [V0], _ =>
  have e0 := (hv 0 _ V0 rfl rfl).str_inv
  subst e0
  have hd : (⟨s.toArray⟩ : ByteArray).data.toList = s := by simp
  have hmt : ∀ W', Below W.heap.size W W' → Rel C.F W' (Ghost.mt G.fz) AH.mt ∧ GOX C W' (Ghost.mt G.fz) AH.mt := by
   intro W' hb
   have hr := rel_below hb hrel
   refine ⟨Rel.mt hr.fzc, (gox_below hrel hb hG).mt ?_ fun i hi => by cases hi⟩
   exact fun g l hg => froz_vr (G := G) (G' := Ghost.mt G.fz) (w := W') (fun _ _ h => h) (fun _ _ _ _ h => h) (by simp only [AV.froz]; exact gtC g l hg) ((gox_below hrel hb hG).1 g l hg)
  have hcalls := callsIn_wide.1 (read_err 3 (Nat.le_refl _) ⟨s.toArray⟩ (by show s.toArray.size ≤ _; simpa using hs) W y (by rw [hd]; exact hy) (fun r W' => nl_calls r W')
    (fun x hx W' hb => by
      rw [hd] at hx
      obtain ⟨h1, h2⟩ := hmt W' hb
      refine ((hTr x hx).run (f := 31) (by kernel_rfl) h2 h1 (VRs.two (.str _) (.str _))).mono fun e w' he => ?_
      obtain ⟨V, v, H', G', rfl, rfl, hV, _, hst⟩ := he
      cases hV
      exact ⟨rfl, hst.below⟩)
    (fun x hx W' hb => by
      rw [hd] at hx
      obtain ⟨h1, h2⟩ := hmt W' hb
      refine ((hSt x hx).run (f := 30) (by kernel_rfl) h2 h1 (VRs.one (.str _))).mono fun e w' he => ?_
      obtain ⟨V, v, H', G', rfl, rfl, hV, _, hst⟩ := he
      exact ⟨by rw [step_inv hV], hst.below⟩))
  refine hcalls.mono fun e w' ⟨he, hbel⟩ => ?_
  exact ⟨_, _, H, G, he, hQ, tup3 (.lst0 _ _) (.int _ _) (.int _ _), rel_below hbel hrel, step_below hbel hrel⟩
theorem memL_consA {e : Nat × List AV × AV} {L : List (Nat × List AV × AV)} (h : ∀ H Q, Q e.2.2 H → ACall C e.1 e.2.1 H Q) (hL : MemoOK (ACall C) (memL L)) : MemoOK (ACall C) (memL (e :: L)) := by
 obtain ⟨k0, a0, v0⟩ := e
 intro k args v hm H Q hQ
 unfold memL at hm
 dsimp only at hm
 cases hb : Nat.beq k0 k with
 | false => rw [hb] at hm; exact hL k args v hm H Q hQ
 | true =>
  rw [hb] at hm
  obtain rfl := Nat.eq_of_beq_eq_true hb
  cases hs : AV.sames a0 args with
  | false => rw [hs] at hm; exact hL k0 args v hm H Q hQ
  | true =>
   rw [hs] at hm
   simp only [cond_true, Option.some.injEq] at hm
   subst hm
   obtain rfl := AV.sames_sound _ _ hs
   exact h H Q hQ
noncomputable section
def scA : List UInt8 := [114,117,110,32,48,32,56,48,48,48]
def scB : List UInt8 := [103,111]
def RbNs0 : List (Nat × List AV × AV) := [
  (143, [.str [114,117,110,32,48,32,56,48,48,48], .str [32]], .int .i64 (.ofNat 2)),
  (143, [.str [103,111], .str [32]], .int .i64 (.ofNat 0)),
  (144, [.str [114,117,110,32,48,32,56,48,48,48], .str [32]], .int .i64 (.ofNat 3)),
  (144, [.str [48,32,56,48,48,48], .str [32]], .int .i64 (.ofNat 1))]
theorem RbNs0_ok : MemoOK (ACall C) (memL RbNs0) :=
 memL_consA (fun H Q hQ => countOK _ H Q hQ) (memL_consA (fun H Q hQ => countOK _ H Q hQ) (memL_consA (fun H Q hQ => indexOK _ H Q hQ) (memL_consA (fun H Q hQ => indexOK _ H Q hQ) memL_nil)))
def RbNs1L : List (Nat × List AV × AV) := [
  (31, [.str [114,117,110,32,48,32,56,48,48,48], .str [10]], .str [114,117,110,32,48,32,56,48,48,48]),
  (31, [.str [103,111], .str [10]], .str [103,111]),
  (30, [.str [114,117,110,32,48,32,56,48,48,48]], .tup [.agg [.int .i64 (.ofNat 1), .int .i64 (.ofNat 0), .int .i64 (.ofNat 8000)], .int .i64 (.ofNat 0)]),
  (30, [.str [103,111]], .tup [.agg [.int .i64 (.ofNat 0), .int .i64 (.ofNat 0), .int .i64 (.ofNat 0)], .int .i64 (.ofNat 3)])]
theorem RbNs1_run : forced (allW (runL RbNs0) RbNs1L) = true := by kernel_rfl
theorem RbNs1_ok : MemoOK (ACall C) (memL (RbNs1L ++ [])) := memL_appW gtC (runL_ok RbNs0_ok) memL_nil (of_forced RbNs1_run)
theorem lineA : linesOf scA = [scA] := by decide +kernel
theorem lineB : linesOf scB = [scB] := by decide +kernel
def RbNs2 : List (Nat × List AV × AV) := [
  (18, [.str scA], .tup [.lst .dead 1 [.int .i64 (.ofNat 1), .int .i64 (.ofNat 0), .int .i64 (.ofNat 8000)], .int .i64 (.ofNat 0), .int .i64 (.ofNat 0)]),
  (18, [.str scB], .tup [.lst .dead 0 [], .int .i64 (.ofNat 1), .int .i64 (.ofNat 3)])]
theorem RbNs2_ok : MemoOK (ACall C) (memL RbNs2) := by
 have ha : trimL scA = scA := by decide +kernel
 have hb : trimL scB = scB := by decide +kernel
 refine memL_consA (fun H Q hQ => readOK scA (by decide +kernel) (fun _ => (1, 0, 8000)) (by rw [lineA]; decide) ?_ ?_ H Q ?_) (memL_consA (fun H Q hQ => readErr scB (by decide +kernel) scB lineB ?_ ?_ H Q hQ) memL_nil)
 · rw [lineA]
   intro x hx
   obtain rfl := List.mem_singleton.1 hx
   rw [ha]
   exact RbNs1_ok 31 _ _ (by kernel_rfl) _ _ rfl
 · rw [lineA]
   intro x hx
   obtain rfl := List.mem_singleton.1 hx
   rw [ha]
   exact RbNs1_ok 30 _ _ (by kernel_rfl) _ _ rfl
 · rw [lineA]
   exact hQ
 · rw [lineB]
   intro x hx
   obtain rfl := List.mem_singleton.1 hx
   rw [hb]
   exact RbNs1_ok 31 _ _ (by kernel_rfl) _ _ rfl
 · rw [lineB]
   intro x hx
   obtain rfl := List.mem_singleton.1 hx
   rw [hb]
   exact RbNs1_ok 30 _ _ (by kernel_rfl) _ _ rfl
end
end Go.Proofs.YtfgpfghpciddmaaGreatDoor.rb
