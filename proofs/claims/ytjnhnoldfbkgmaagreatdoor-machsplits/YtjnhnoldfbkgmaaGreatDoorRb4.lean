/- A part of the proof (part 4): see the last text. -/
import Derived.Test.YtjnhnoldfbkgmaaGreatDoorRb2
import Derived.Test.YtjnhnoldfbkgmaaGreatDoorRb3
import Derived.Test.YtjnhnoldfbkgmaaGreatDoorRows
import Derived.KernelRfl
import Derived.WalkKit
import Derived.ProofKit
import Derived.Lib.Bytealg
import Derived.Laws.Externs
set_option linter.unusedVariables false
namespace Go.Proofs.YtjnhnoldfbkgmaaGreatDoor.rb
open Rb
noncomputable def gt (g : Nat) : Option (List AV) := if g = 0 then some asciiSpace else if g = 5 then some pow10tab else if g = 7 then some deBruijn64tab else none
noncomputable def C : Ctx := idC Tryz.prog gt
noncomputable def hs0 : List Hint := [
  ⟨3,[19,20,22],[[7],[21]],none,[],[]⟩,
  ⟨4,[],[[3,4]],none,[],[]⟩,
  ⟨5,[1,2,7,8],[],none,[],[]⟩,
  ⟨6,[6,12,43,55,82],[[61],[85]],none,[],[]⟩,
  ⟨7,[7],[[13]],none,[],[]⟩,
  ⟨8,[2,3],[[26]],none,[],[]⟩,
  ⟨9,[],[[5]],none,[],[]⟩,
  ⟨10,[6,9,10],[],none,[],[]⟩,
  ⟨11,[2,3,4,5],[],none,[],[]⟩,
  ⟨12,[],[[5]],none,[],[]⟩,
  ⟨13,[4],[],none,[],[]⟩,
  ⟨14,[],[],none,[],[]⟩,
  ⟨15,[2,5],[[4]],none,[],[]⟩,
  ⟨16,[],[],none,[],[]⟩,
  ⟨17,[],[],none,[],[]⟩,
  ⟨18,[],[],none,[],[]⟩,
  ⟨19,[],[],none,[],[]⟩,
  ⟨20,[],[],none,[],[]⟩,
  ⟨21,[],[],none,[],[]⟩,
  ⟨22,[],[],none,[],[]⟩,
  ⟨23,[2,4,6],[],none,[],[]⟩,
  ⟨24,[],[],none,[],[]⟩,
  ⟨25,[],[],none,[],[]⟩,
  ⟨26,[4],[],none,[],[]⟩,
  ⟨27,[],[[27],[53]],none,[],[]⟩,
  ⟨28,[4,8],[],none,[],[]⟩,
  ⟨29,[2,3,5,6,7],[[],[]],none,[],[]⟩,
  ⟨30,[2,3,4,5,9,29,34],[[39]],none,[],[(16,[5,5])]⟩,
  ⟨31,[4,6,7,11],[[8,23]],none,[],[]⟩,
  ⟨32,[],[[10]],none,[],[]⟩,
  ⟨33,[],[[10],[5,17]],none,[],[]⟩,
  ⟨34,[],[],none,[],[]⟩,
  ⟨35,[],[],none,[],[]⟩,
  ⟨36,[],[],none,[],[]⟩,
  ⟨37,[4],[],none,[],[]⟩,
  ⟨38,[],[],none,[],[]⟩,
  ⟨39,[],[],none,[],[]⟩,
  ⟨40,[],[],none,[],[]⟩,
  ⟨41,[],[],none,[],[]⟩,
  ⟨42,[5],[],none,[],[]⟩]
theorem ok0 : chkH C hs0 = true := by kernel_rfl
noncomputable def hs1 : List Hint := [
  ⟨43,[],[[3,12]],none,[],[]⟩,
  ⟨44,[10],[[13]],none,[],[(7,[5])]⟩,
  ⟨45,[],[],none,[],[]⟩,
  ⟨46,[],[],none,[],[]⟩,
  ⟨47,[],[],none,[],[]⟩,
  ⟨48,[8],[],none,[],[]⟩,
  ⟨49,[],[],none,[],[]⟩,
  ⟨50,[3,5,37],[],none,[],[]⟩,
  ⟨51,[],[],none,[],[]⟩,
  ⟨52,[],[],none,[],[]⟩,
  ⟨53,[4,5,7],[[]],none,[],[]⟩,
  ⟨54,[],[],none,[],[]⟩,
  ⟨55,[],[[5]],none,[],[]⟩,
  ⟨56,[2],[],none,[],[]⟩,
  ⟨57,[2,41],[[34]],none,[],[]⟩,
  ⟨58,[8],[[5,6,14]],none,[],[]⟩,
  ⟨59,[8,11,21],[[18,19,66]],none,[],[]⟩,
  ⟨60,[2],[],none,[],[]⟩,
  ⟨61,[2],[],none,[],[]⟩,
  ⟨62,[],[[22]],none,[],[]⟩,
  ⟨63,[],[],none,[],[]⟩,
  ⟨64,[],[],none,[],[]⟩,
  ⟨65,[4,6,9],[[5,24]],none,[],[]⟩,
  ⟨66,[],[],none,[],[]⟩,
  ⟨67,[2],[],none,[],[]⟩,
  ⟨68,[],[],none,[],[]⟩,
  ⟨69,[4,5],[],none,[],[]⟩,
  ⟨70,[],[],none,[],[]⟩,
  ⟨71,[],[],none,[],[]⟩,
  ⟨72,[3,11],[[]],none,[],[]⟩,
  ⟨73,[],[],none,[],[]⟩,
  ⟨74,[],[],none,[],[]⟩,
  ⟨75,[],[],none,[],[]⟩,
  ⟨76,[],[],none,[],[]⟩,
  ⟨77,[],[],none,[],[]⟩,
  ⟨78,[],[],none,[],[]⟩,
  ⟨79,[],[],none,[],[]⟩,
  ⟨80,[2],[[11],[17]],none,[],[]⟩,
  ⟨81,[],[],none,[],[]⟩,
  ⟨82,[],[],none,[],[]⟩]
theorem ok1 : chkH C hs1 = true := by kernel_rfl
noncomputable def hs2 : List Hint := [
  ⟨83,[4,5],[],none,[],[]⟩,
  ⟨84,[4,5],[],none,[],[]⟩,
  ⟨85,[5],[[3,14]],none,[],[]⟩,
  ⟨86,[8],[[16]],none,[],[]⟩,
  ⟨87,[],[],none,[],[]⟩,
  ⟨88,[5],[],none,[],[]⟩,
  ⟨89,[6,7,39],[],none,[],[]⟩,
  ⟨90,[14,25,29,33],[[36]],none,[],[]⟩,
  ⟨91,[7,16,49,73],[[20],[32],[10,60],[14],[14,80]],none,[],[]⟩,
  ⟨92,[12,14,20],[[26],[42]],none,[],[]⟩,
  ⟨93,[2],[],none,[],[]⟩,
  ⟨94,[0],[],none,[],[]⟩,
  ⟨95,[],[],none,[],[]⟩,
  ⟨96,[],[],none,[],[]⟩,
  ⟨97,[],[],none,[],[]⟩,
  ⟨98,[],[],none,[],[]⟩,
  ⟨99,[],[],none,[],[]⟩,
  ⟨100,[],[],none,[],[]⟩,
  ⟨101,[41],[[3,4,5,6],[12],[10,11,12],[12]],some 9,[],[]⟩,
  ⟨102,[],[],none,[],[]⟩,
  ⟨103,[],[],none,[],[]⟩,
  ⟨104,[],[],none,[],[]⟩,
  ⟨105,[4,5],[[]],none,[],[]⟩,
  ⟨106,[],[[6]],none,[],[]⟩,
  ⟨107,[4],[],none,[],[]⟩,
  ⟨108,[4,6],[],none,[],[]⟩,
  ⟨109,[],[[]],none,[],[]⟩,
  ⟨110,[],[],none,[],[]⟩,
  ⟨111,[],[],none,[],[]⟩,
  ⟨112,[],[],none,[],[]⟩,
  ⟨113,[2,5],[],none,[],[]⟩,
  ⟨114,[6],[[14]],none,[],[]⟩,
  ⟨115,[],[],none,[],[]⟩,
  ⟨116,[],[],none,[],[]⟩,
  ⟨117,[],[],none,[],[]⟩,
  ⟨118,[],[[8]],none,[],[]⟩,
  ⟨119,[],[],none,[],[]⟩,
  ⟨120,[34],[[]],none,[],[]⟩,
  ⟨121,[],[],none,[],[]⟩,
  ⟨122,[],[[3,11],[6,27]],none,[],[]⟩]
theorem ok2 : chkH C hs2 = true := by kernel_rfl
noncomputable def hs3 : List Hint := [
  ⟨123,[9],[],none,[],[]⟩,
  ⟨124,[7],[],none,[],[]⟩,
  ⟨125,[6],[[4,12]],none,[],[]⟩,
  ⟨126,[],[[5,10]],none,[],[]⟩,
  ⟨127,[7],[[12]],none,[],[]⟩,
  ⟨128,[],[],none,[],[]⟩,
  ⟨129,[],[],none,[],[]⟩,
  ⟨130,[2],[],none,[],[]⟩,
  ⟨131,[],[],none,[],[]⟩,
  ⟨132,[],[],none,[],[]⟩,
  ⟨133,[],[],none,[],[]⟩,
  ⟨134,[],[],none,[],[]⟩,
  ⟨135,[],[[6]],none,[],[]⟩,
  ⟨136,[],[[8]],none,[],[]⟩,
  ⟨137,[11,12,46],[[5,6],[49]],none,[],[]⟩,
  ⟨138,[],[],none,[],[]⟩,
  ⟨139,[],[[12,13,101]],none,[],[]⟩,
  ⟨140,[],[],none,[],[]⟩,
  ⟨141,[4,5,7],[],none,[],[]⟩,
  ⟨142,[8,9],[[22]],none,[],[]⟩,
  ⟨143,[],[],none,[],[]⟩,
  ⟨144,[],[[8]],none,[],[]⟩,
  ⟨145,[],[],none,[],[]⟩,
  ⟨146,[3],[],none,[],[]⟩,
  ⟨147,[],[],none,[],[]⟩,
  ⟨148,[],[],none,[],[]⟩,
  ⟨149,[8,11,13],[[42],[49]],none,[],[]⟩,
  ⟨150,[7],[[10]],none,[],[]⟩,
  ⟨151,[],[],none,[],[]⟩,
  ⟨152,[],[],none,[],[]⟩,
  ⟨153,[2,4,6],[],none,[],[]⟩,
  ⟨154,[7,8],[],none,[],[]⟩,
  ⟨155,[],[[7,8],[6],[7,8]],none,[],[]⟩,
  ⟨156,[],[],none,[],[]⟩,
  ⟨157,[],[],none,[9,294,296,313,316,409],[]⟩,
  ⟨158,[],[],none,[],[]⟩,
  ⟨159,[],[],none,[],[]⟩,
  ⟨160,[],[],none,[9,294,296,313,316,409],[]⟩,
  ⟨161,[],[],none,[],[]⟩,
  ⟨162,[],[],none,[],[]⟩]
theorem ok3 : chkH C hs3 = true := by kernel_rfl
noncomputable def hs4 : List Hint := [
  ⟨163,[],[[5,8]],none,[],[]⟩,
  ⟨164,[],[],none,[],[]⟩,
  ⟨165,[],[],none,[],[]⟩,
  ⟨166,[],[],none,[],[]⟩,
  ⟨167,[],[],none,[],[]⟩,
  ⟨168,[],[],none,[],[]⟩,
  ⟨169,[],[],none,[],[]⟩,
  ⟨170,[],[],none,[],[]⟩,
  ⟨171,[],[],none,[],[]⟩,
  ⟨172,[],[],none,[],[]⟩,
  ⟨173,[],[],none,[],[]⟩,
  ⟨174,[13,23,36],[],none,[],[]⟩,
  ⟨175,[4],[],none,[],[]⟩,
  ⟨176,[],[],none,[],[]⟩,
  ⟨177,[],[[5]],none,[],[]⟩,
  ⟨178,[],[],none,[],[]⟩,
  ⟨179,[],[],none,[],[]⟩,
  ⟨180,[],[],none,[],[]⟩,
  ⟨181,[],[],none,[],[]⟩,
  ⟨182,[],[],none,[],[]⟩,
  ⟨183,[],[],none,[],[]⟩,
  ⟨184,[],[[3,4]],none,[],[]⟩,
  ⟨185,[10],[],none,[],[]⟩,
  ⟨186,[10],[],none,[],[]⟩,
  ⟨187,[15],[],none,[],[]⟩,
  ⟨188,[15],[],none,[],[]⟩,
  ⟨189,[],[[6]],none,[],[]⟩,
  ⟨190,[2],[],none,[],[]⟩,
  ⟨191,[],[],none,[],[]⟩,
  ⟨192,[4,7,10,11],[[33]],none,[],[]⟩,
  ⟨193,[],[],none,[],[]⟩,
  ⟨194,[],[],none,[],[]⟩,
  ⟨195,[],[],none,[],[]⟩,
  ⟨196,[],[],none,[],[]⟩,
  ⟨197,[],[],none,[],[]⟩,
  ⟨198,[],[],none,[],[]⟩,
  ⟨199,[],[],none,[],[]⟩,
  ⟨200,[],[],none,[],[]⟩,
  ⟨201,[2,4,6,7],[[16]],none,[],[]⟩,
  ⟨202,[],[],none,[],[]⟩]
theorem ok4 : chkH C hs4 = true := by kernel_rfl
noncomputable def hs5 : List Hint := [
  ⟨203,[],[],none,[],[]⟩,
  ⟨204,[6],[],none,[],[]⟩,
  ⟨205,[],[],none,[],[]⟩,
  ⟨206,[6],[],none,[],[]⟩,
  ⟨207,[4,5],[],none,[],[]⟩,
  ⟨208,[4,5],[],none,[],[]⟩,
  ⟨209,[2],[],none,[],[]⟩,
  ⟨210,[],[],none,[],[]⟩,
  ⟨211,[3],[],none,[],[]⟩,
  ⟨212,[],[],none,[],[]⟩,
  ⟨213,[],[],none,[],[]⟩,
  ⟨214,[],[[8],[9]],none,[],[]⟩,
  ⟨215,[],[[10,11],[13],[14,15],[17],[20,21]],none,[],[]⟩,
  ⟨216,[],[[7]],none,[9,294,296,313,316,409],[]⟩,
  ⟨217,[],[[1,2,3,10,11]],none,[],[]⟩,
  ⟨218,[],[],none,[],[]⟩,
  ⟨219,[],[[1]],none,[9,294,296,313,316,409],[]⟩,
  ⟨220,[],[[5,6]],none,[],[]⟩,
  ⟨221,[],[],none,[],[]⟩,
  ⟨222,[],[],none,[],[]⟩,
  ⟨223,[],[],none,[],[]⟩,
  ⟨224,[],[],none,[],[]⟩,
  ⟨225,[],[],none,[],[]⟩,
  ⟨226,[],[],none,[],[]⟩,
  ⟨227,[],[],none,[],[]⟩,
  ⟨228,[],[],none,[],[]⟩,
  ⟨229,[],[[3]],none,[],[]⟩,
  ⟨230,[],[],none,[],[]⟩,
  ⟨231,[],[],none,[],[]⟩,
  ⟨232,[],[],none,[],[]⟩,
  ⟨233,[],[],none,[],[]⟩,
  ⟨234,[],[[20],[7,8]],none,[],[]⟩,
  ⟨235,[10],[[16],[7,8]],none,[],[]⟩,
  ⟨236,[9],[],none,[],[]⟩,
  ⟨237,[5],[],none,[],[]⟩,
  ⟨238,[],[],none,[],[]⟩,
  ⟨239,[],[],none,[],[]⟩,
  ⟨240,[4],[],none,[],[]⟩,
  ⟨241,[],[],none,[],[]⟩,
  ⟨242,[7,9],[[5,15],[5,30]],none,[],[]⟩]
theorem ok5 : chkH C hs5 = true := by kernel_rfl
noncomputable def hs6 : List Hint := [
  ⟨243,[],[],none,[],[]⟩,
  ⟨244,[],[],none,[],[]⟩,
  ⟨245,[],[[18]],none,[],[]⟩,
  ⟨246,[],[],none,[],[]⟩,
  ⟨247,[],[[8]],none,[],[]⟩,
  ⟨248,[],[[8]],none,[],[]⟩,
  ⟨249,[],[],none,[],[]⟩,
  ⟨250,[],[],none,[],[]⟩,
  ⟨251,[],[],none,[],[]⟩,
  ⟨252,[5],[],none,[],[]⟩,
  ⟨253,[9],[],none,[],[]⟩,
  ⟨254,[5],[],none,[],[]⟩,
  ⟨255,[5,8,9],[[6,17]],none,[],[]⟩,
  ⟨256,[],[[8]],none,[],[]⟩,
  ⟨257,[],[],none,[],[]⟩,
  ⟨258,[4,6,7,9,13,15],[[46]],none,[],[]⟩,
  ⟨259,[],[],none,[],[]⟩,
  ⟨260,[11,12],[[9,17]],none,[],[]⟩,
  ⟨261,[],[],none,[],[]⟩,
  ⟨262,[],[],none,[],[]⟩,
  ⟨263,[11,12],[[16]],none,[],[]⟩,
  ⟨264,[],[],none,[],[]⟩,
  ⟨265,[6],[],none,[],[]⟩,
  ⟨266,[4],[],none,[],[]⟩,
  ⟨267,[],[[10,11]],none,[],[]⟩,
  ⟨268,[],[[8],[9]],none,[],[]⟩,
  ⟨269,[],[[11],[12]],none,[],[]⟩,
  ⟨270,[9],[[11]],none,[],[]⟩,
  ⟨271,[11],[],none,[],[]⟩,
  ⟨272,[],[[8,9]],none,[],[]⟩,
  ⟨273,[],[[9,10],[9],[11],[12]],none,[],[]⟩,
  ⟨274,[],[[11,12],[11],[12]],none,[],[]⟩,
  ⟨275,[],[[12],[13],[12,13],[12],[13]],none,[],[]⟩,
  ⟨276,[],[],none,[],[]⟩,
  ⟨277,[],[],none,[],[]⟩,
  ⟨278,[],[[8]],none,[],[]⟩,
  ⟨280,[],[],none,[],[]⟩,
  ⟨281,[],[],none,[],[]⟩,
  ⟨282,[5],[],none,[],[]⟩,
  ⟨283,[],[],none,[],[]⟩]
theorem ok6 : chkH C hs6 = true := by kernel_rfl
noncomputable def hs7 : List Hint := [
  ⟨284,[],[],none,[],[]⟩,
  ⟨285,[4,6],[],none,[],[]⟩,
  ⟨286,[],[[1]],none,[],[]⟩,
  ⟨287,[5],[[3,16],[3,6],[7]],none,[],[]⟩,
  ⟨288,[],[[10]],none,[],[]⟩,
  ⟨289,[],[[10]],none,[],[]⟩,
  ⟨290,[],[],none,[],[]⟩,
  ⟨291,[],[],none,[],[]⟩,
  ⟨292,[],[],none,[],[]⟩,
  ⟨293,[],[],none,[],[]⟩,
  ⟨294,[5],[],none,[],[]⟩,
  ⟨295,[],[],none,[],[]⟩,
  ⟨296,[1],[[3],[4]],none,[],[]⟩,
  ⟨297,[],[],none,[],[]⟩,
  ⟨298,[],[],none,[],[]⟩,
  ⟨299,[],[],none,[],[]⟩,
  ⟨300,[],[[1,4]],none,[],[]⟩,
  ⟨301,[12],[[1,13],[1,13]],none,[],[]⟩,
  ⟨302,[],[],none,[],[]⟩,
  ⟨303,[],[],none,[],[]⟩,
  ⟨304,[],[],none,[],[]⟩,
  ⟨305,[],[],none,[],[]⟩,
  ⟨306,[],[],none,[],[]⟩,
  ⟨307,[],[],none,[],[]⟩,
  ⟨325,[],[],none,[],[]⟩,
  ⟨326,[],[],none,[],[]⟩,
  ⟨327,[],[],none,[],[]⟩,
  ⟨328,[],[],none,[],[]⟩,
  ⟨329,[11],[],none,[],[]⟩]
theorem ok7 : chkH C hs7 = true := by kernel_rfl
noncomputable def hs : List Hint := hs0 ++ (hs1 ++ (hs2 ++ (hs3 ++ (hs4 ++ (hs5 ++ (hs6 ++ (hs7)))))))
theorem okAll : chkH C hs = true := chkH_app ok0 (chkH_app ok1 (chkH_app ok2 (chkH_app ok3 (chkH_app ok4 (chkH_app ok5 (chkH_app ok6 (ok7)))))))
end Go.Proofs.YtjnhnoldfbkgmaaGreatDoor.rb

namespace Go.Proofs.YtjnhnoldfbkgmaaGreatDoor.rb
open Rb
theorem gtok : ∀ g l, gt g = some l → AV.frozs l = true := by
 intro g l h
 unfold gt at h
 split at h
 · cases h; kernel_rfl
 split at h
 · cases h; kernel_rfl
 split at h
 · cases h; kernel_rfl
 cases h
theorem gtC : GTok C := gtok
noncomputable def fn : Nat → Option FnC := tabH C 4096 hs
theorem dispOK : DispOK (ACall C) (dispI fn) := dispI_ok okAll 4096
end Go.Proofs.YtjnhnoldfbkgmaaGreatDoor.rb

namespace Go.Proofs.YtjnhnoldfbkgmaaGreatDoor.rb
open Rb Go.RowKit
set_option maxRecDepth 100000 in
theorem indexByte_calls (s : ByteArray) (c : Int) (w : World) : Calls Tryz.prog 233 #[.string s, .int .u8 c] w fun e w' => e = .returned (.int .i64 (Go.Lib.indexByte s.data.toList c.toNat.toUInt8)) ∧ w' = w := by
 go_enter Tryz.func233, Tryz.ntmps233
 go_wp2
 rw [run_callFunc_extern Tryz.func279 (by kernel_rfl) (by kernel_rfl) (by kernel_rfl) (e := Extern.BytealgIndexByte.indexByte) (by kernel_rfl), Go.Lib.run_indexByteString]
 simp only [Result.andThen]
 rw [Oper.upon_value]
 go_wp2
 go_ret
 exact ⟨rfl, rfl⟩
theorem indexByte (s : List UInt8) (c : Int) (H : AH) (Q : Post) (hQ : Q (.int .i64 (Go.Lib.indexByte s c.toNat.toUInt8)) H) : ACall C 233 [.str s, .int .u8 c] H Q := by
 refine ⟨⟨_, _, hQ⟩, fun f hf G w Vs hG hrel hargs => ?_⟩
 obtain rfl : f = 233 := by
  have : C.F 233 = some 233 := by kernel_rfl
  rw [this] at hf; exact (Option.some.inj hf).symm
 obtain ⟨hl, hv⟩ := hargs
 obtain ⟨Vl⟩ := Vs
 match Vl, hl with
 | [V0, V1], _ =>
  have h0 := (hv 0 _ V0 rfl rfl).str_inv
  have h1 := (hv 1 _ V1 rfl rfl).int_inv
  subst h0 h1
  refine (indexByte_calls ⟨s.toArray⟩ c w).mono fun e w' ⟨he, hw⟩ => ?_
  subst hw
  exact ⟨_, _, H, G, he, hQ, .int _ _, hrel, Step.refl _ _ _⟩
noncomputable def MxG (L : List (Nat × List AV × AV)) : Memo := fun k a => cond (Nat.beq k 233) (match a with | [.str s, .int .u8 c] => some (.int .i64 (Go.Lib.indexByte s c.toNat.toUInt8)) | _ => none) (memG L k a)
theorem MxG_ok {L : List (Nat × List AV × AV)} (hL : MemoOK (ACall C) (memL L)) : MemoOK (ACall C) (MxG L) := by
 intro k a v h H Q hQ
 unfold MxG at h
 cases hb : Nat.beq k 233 with
 | false => rw [hb] at h; exact memG_ok hL k a v h H Q hQ
 | true =>
  rw [hb] at h
  obtain rfl := Nat.eq_of_beq_eq_true hb
  simp only [cond_true] at h
  split at h
  · cases h; exact indexByte _ _ H Q hQ
  · cases h
noncomputable def runG (L : List (Nat × List AV × AV)) : CallsB := runM (MxG L) (dispI fn) 100
theorem runG_ok {L : List (Nat × List AV × AV)} (hL : MemoOK (ACall C) (memL L)) : SoundB (ACall C) (runG L) := runM_sound (MxG_ok hL) dispOK 100
end Go.Proofs.YtjnhnoldfbkgmaaGreatDoor.rb
