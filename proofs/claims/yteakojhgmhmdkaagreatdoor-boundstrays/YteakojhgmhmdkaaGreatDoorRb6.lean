/- A part of the proof (part 6): see the last text. -/
import Derived.Test.YteakojhgmhmdkaaGreatDoorRb3
import Derived.Test.YteakojhgmhmdkaaGreatDoorRb4
import Derived.Test.YteakojhgmhmdkaaGreatDoorRb5
import Derived.Test.YteakojhgmhmdkaaGreatDoorChecked
set_option linter.unusedVariables false
set_option linter.unusedSimpArgs false
open Array renaming getD_eq_getD_getElem?→Zh
open Bool renaming and_true→acs
open Go.Proofs.SlLaysF0 renaming n6→adt
open Go.World renaming putObj_heap_other→ac4
open List renaming length_map→aaz, mem_append→aag, mem_cons→aan, mem_of_find?_eq_some→adu, mem_singleton→acR
open Nat renaming le_refl→sl, le_trans→xl
open Option renaming some→Yh
namespace Go.Proofs.YteakojhgmhmdkaaGreatDoor.rb
open Rb Go.Shelf Go.RowKit Go.Lib Go.Sort Go.Proofs
variable{H:Z}{Q:ad}
def Vu:Go.Shelf.Ren:=⟨λ|6=>89|15=>135|14=>134|28=>186|29=>187|20=>178|21=>179|22=>180|23=>181|24=>182|25=>183|26=>184|27=>185|46=>209|47=>210|48=>211|49=>212|50=>213|57=>230|n=>n,λ|22=>26|24=>49|25=>181|3=>3|39=>219|0=>0|53=>261|55=>47|4=>4|46=>255|45=>254|50=>56|5=>5|9=>9|66=>278|70=>282|76=>298|77=>299|n=>n,λ|n=>n⟩
theorem Kz:adt Tryz.prog Vu:={
  mixed:=by kernel_rfl
  f6 := ⟨"slices.SortFunc[[]rabbet/api.Span,rabbet/api.Span]", by decide, Tryz.func89.trans (congrArg some (by kernel_rfl))⟩
  f14 := ⟨"slices.pdqsortCmpFunc[rabbet/api.Span]", by decide, Tryz.func134.trans (congrArg some (by kernel_rfl))⟩
  f15:=Tryz.func135.trans (congrArg some (by kernel_rfl))
  f20 := ⟨"slices.insertionSortCmpFunc[rabbet/api.Span]", by decide, Tryz.func178.trans (congrArg some (by kernel_rfl))⟩
  f21 := ⟨"slices.heapSortCmpFunc[rabbet/api.Span]", by decide, Tryz.func179.trans (congrArg some (by kernel_rfl))⟩
  f22 := ⟨"slices.breakPatternsCmpFunc[rabbet/api.Span]", by decide, Tryz.func180.trans (congrArg some (by kernel_rfl))⟩
  f23 := ⟨"slices.choosePivotCmpFunc[rabbet/api.Span]", by decide, Tryz.func181.trans (congrArg some (by kernel_rfl))⟩
  f24 := ⟨"slices.reverseRangeCmpFunc[rabbet/api.Span]", by decide, Tryz.func182.trans (congrArg some (by kernel_rfl))⟩
  f25 := ⟨"slices.partialInsertionSortCmpFunc[rabbet/api.Span]", by decide, Tryz.func183.trans (congrArg some (by kernel_rfl))⟩
  f26 := ⟨"slices.partitionEqualCmpFunc[rabbet/api.Span]", by decide, Tryz.func184.trans (congrArg some (by kernel_rfl))⟩
  f27 := ⟨"slices.partitionCmpFunc[rabbet/api.Span]", by decide, Tryz.func185.trans (congrArg some (by kernel_rfl))⟩
  f28:=Tryz.func186.trans (congrArg some (by kernel_rfl))
  f29:=Tryz.func187.trans (congrArg some (by kernel_rfl))
  f46 := ⟨"slices.siftDownCmpFunc[rabbet/api.Span]", by decide, Tryz.func209.trans (congrArg some (by kernel_rfl))⟩
  f47:=Tryz.func210.trans (congrArg some (by kernel_rfl))
  f48:=Tryz.func211.trans (congrArg some (by kernel_rfl))
  f49 := ⟨"slices.medianAdjacentCmpFunc[rabbet/api.Span]", by decide, Tryz.func212.trans (congrArg some (by kernel_rfl))⟩
  f50 := ⟨"slices.medianCmpFunc[rabbet/api.Span]", by decide, Tryz.func213.trans (congrArg some (by kernel_rfl))⟩
  f57 := ⟨"slices.order2CmpFunc[rabbet/api.Span]", by decide, Tryz.func230.trans (congrArg some (by kernel_rfl))⟩
  t0:=Tryz.underlying0
  a0:=Tryz.isAgg0
  z0:=Tryz.sizeOf0
  v0:=Tryz.zeroValue0
  t3:=Tryz.underlying3
  a3:=Tryz.isAgg3
  z3:=Tryz.sizeOf3
  v3:=Tryz.zeroValue3
  t4:=Tryz.underlying4
  a4:=Tryz.isAgg4
  z4:=Tryz.sizeOf4
  v4:=Tryz.zeroValue4
  t5:=Tryz.underlying5
  a5:=Tryz.isAgg5
  z5:=Tryz.sizeOf5
  v5:=Tryz.zeroValue5
  t9:=Tryz.underlying9
  a9:=Tryz.isAgg9
  z9:=Tryz.sizeOf9
  v9:=Tryz.zeroValue9
  t22:=Tryz.underlying26
  a22:=Tryz.isAgg26
  z22:=Tryz.sizeOf26
  v22:=Tryz.zeroValue26
  t25:=Tryz.underlying181
  a25:=Tryz.isAgg181
  z25:=Tryz.sizeOf181
  v25:=Tryz.zeroValue181
  t39:=Tryz.underlying219
  a39:=Tryz.isAgg219
  z39:=Tryz.sizeOf219
  v39:=Tryz.zeroValue219
  t45:=Tryz.underlying254
  a45:=Tryz.isAgg254
  z45:=Tryz.sizeOf254
  v45:=Tryz.zeroValue254
  t46:=Tryz.underlying255
  a46:=Tryz.isAgg255
  z46:=Tryz.sizeOf255
  v46:=Tryz.zeroValue255
  t50:=Tryz.underlying56
  a50:=Tryz.isAgg56
  z50:=Tryz.sizeOf56
  v50:=Tryz.zeroValue56
  t53:=Tryz.underlying261
  a53:=Tryz.isAgg261
  z53:=Tryz.sizeOf261
  v53:=Tryz.zeroValue261
  t55:=Tryz.underlying47
  a55:=Tryz.isAgg47
  z55:=Tryz.sizeOf47
  v55:=Tryz.zeroValue47
  t66:=Tryz.underlying278
  a66:=Tryz.isAgg278
  z66:=Tryz.sizeOf278
  v66:=Tryz.zeroValue278
  t70:=Tryz.underlying282
  a70:=Tryz.isAgg282
  z70:=Tryz.sizeOf282
  v70:=Tryz.zeroValue282
  t76:=Tryz.underlying298
  a76:=Tryz.isAgg298
  z76:=Tryz.sizeOf298
  v76:=Tryz.zeroValue298
  t77:=Tryz.underlying299
  a77:=Tryz.isAgg299
  z77:=Tryz.sizeOf299
  v77:=Tryz.zeroValue299}
theorem KC{F:cx}{w:World}{G:aG}(p:Int×Int):VR F w G (.agg (u p)) (.agg (gl p).toArray):=by
 refine .agg _ _ rfl λj c V hc a=>?_;rcases j with _|_|j
 ·simp[u,gl]at hc a;subst hc a;exact .int _ _
 ·simp[u,gl]at hc a;subst hc a;exact .int _ _
 ·simp[u]at hc
set_option maxRecDepth 100000 in
theorem Vv{id:Nat}{cs:List I}{l:List (Int×Int)}(h:At H id (.row cs))(hc:cs.take (l.length*2)=l.flatMap u)(hl:l.length<4611686018427387904)(hQ:Q (.ar []) (H.set id (.row ((ef l).flatMap u++cs.drop (l.length*2))))):ai C 89 [.row id 0 l.length 2,.fn 90 []] H Q:=by
 refine⟨⟨_,_,hQ⟩,λf hf G W Vs hG d q=>?_⟩;obtain rfl:f=89:=by
  have:C.F 89=some 89:=by kernel_rfl
  rw[this]at hf;exact(Yh.inj hf).symm
 obtain⟨r,hv⟩:=q;obtain⟨s⟩:=Vs
 match s,r with
 | [i,o],_=>
  have t:=hv 0 _ i rfl rfl;have h1:=hv 1 _ o rfl rfl;obtain ⟨cap,rfl⟩:∃cap,i = .slice (some ⟨G.loc id,0,none⟩) l.length cap:=by
   cases t with
   |row _ _ _ _ cap h hle hc=>exact⟨cap,rfl⟩
  have e1:o = .func (.func 90) #[] #[]:=by
   cases h1 with
   | fn _ _ f Vs hk hf hl hv=>
    have:C.F 90=some 90:=by kernel_rfl
    rw[this]at hf;cases hf;have:Vs = #[]:=Array.eq_empty_of_size_eq_zero (by rw[←hl];rfl);rw[this]
   |kj _ k _ f Vs hk hf hl hv=>cases hk
  subst e1;obtain⟨g1,g2⟩:=Vp d h.2 hc;have z:CmpLays Tryz.prog 90 #[] gl 2 mq (G.loc id) 0 l.toArray.size W:=by
   intro m os g A x y;obtain⟨b,st⟩:=Ky d h.2 hc (l':=g.toList) (by simpa using A) m os;have B:g.toList.toArray=g:=by simp
   rw[B]at b st;refine(ai.flat (C:=C) j2 (key:=90) (args:=[.agg (u x),.agg (u y)]) (v:= .int .i64 (mq x y)) (by kernel_rfl) rfl rfl (hG.step st) b ⟨rfl,λj c V hc a=>?_⟩ λQ hQ=>Ty j2 nO (hQ _)).mono λe w' ⟨V,G',he,a,_,_,_,_,D⟩=>⟨by rw[he,a.e7],D⟩
   rcases j with _|_|j
   ·simp at hc a;subst hc a;exact KC x
   ·simp at hc a;subst hc a;exact KC y
   ·simp at hc
  have E:∀args w,(callFunc 90 args).run Tryz.prog w = .ok (.enter 90 args) w:=enters_of Tryz.func90 (by kernel_rfl) rfl;have p:=AnyQ.slices_SortFunc_total Kz 2 Tryz.isAgg49 Tryz.sizeOf49 gl (λ_=>rfl) (λx v hv=>by simp[gl]at hv;rcases hv with rfl|rfl<;>rfl) mq Vq 90 #[] (G.loc id) 0 cap l.toArray W E z g1 g2 (by simpa using hl) Vr;change Calls Tryz.prog 89 _ W _ at p;refine p.mono λe w' ⟨he,n,os,hw⟩=>?_;subst hw;obtain⟨b,st⟩:=Ky d h.2 hc (nQ l) n os;rw[←Vt]at b st hQ;exact⟨_,_,_,G,he,hQ,.ar [] #[] rfl λj c V hc=>by simp at hc,b,st⟩
theorem Vw{tk:Rb.Tok}(hQ:Q (.ar []) H):ai C 89 [.aq tk 0 [],.fn 90 []] H Q:=by
 refine⟨⟨_,_,hQ⟩,λf hf G W Vs hG i k=>?_⟩;obtain rfl:f=89:=by
  have:C.F 89=some 89:=by kernel_rfl
  rw[this]at hf;exact(Yh.inj hf).symm
 obtain⟨l,hv⟩:=k;obtain⟨m⟩:=Vs
 match m,l with
 | [d,n],_=>
  have q:=hv 0 _ d rfl rfl;obtain ⟨p,cap,rfl⟩:∃p cap,d = .slice p 0 cap:=by
   cases q with
   |e4=>exact⟨_,_,rfl⟩
   |e5 a cap=>exact⟨_,_,rfl⟩
   |aq _ _ _ b o cap r s hle h hv=>exact⟨_,_,rfl⟩
  have g:=AnyF.slices_SortFunc_none Kz p cap n W;change Calls Tryz.prog 89 _ W _ at g;refine g.mono λe w' ⟨he,hw⟩=>?_;subst hw;exact⟨_,_,H,G,he,hQ,.ar [] #[] rfl λj c V hc=>by simp at hc,i,Step.refl _ _ _⟩
theorem Vx:ot (ai C):=⟨λh hc hl hQ=>Vv h hc hl hQ,λhQ=>Vw hQ⟩
end Go.Proofs.YteakojhgmhmdkaaGreatDoor.rb

namespace Go.Proofs.YteakojhgmhmdkaaGreatDoor.rb
open Go Go.Proofs Go.RowKit Go.Shelf Rb
variable{w:World}{G:aG}{V:Value}
attribute [local go_sem] Oper.semAt_some
def Vy:Code→Bool
 | .region _ ops _=>ops.toList.all λo=>match o.op with | .defer _=>false|_=>true
 |_=>false
theorem KD{c:Code}(h:Vy c=true):qt c:=by
 cases c with
 | region id ops b=>intro o a c e;have:=List.all_eq_true.1 h o a;rw[e]at this;cases this
 |_=>cases h
theorem Vz:C.F 40=some 40:=by kernel_rfl
theorem VA{x:I}(h:VR C.F w G (.fn 40 [x]) V):∃X,V = .func (.func 40) #[] #[X]∧VR C.F w G x X:=by
 generalize hY:I.fn 40 [x]=Y at h;cases h with
 | fn key bx f Vs hk hF hs hv=>
  cases hY;rw[Vz]at hF;cases hF;obtain⟨a⟩:=Vs
  match a,hs with
  |[X],_=>exact⟨X,rfl,hv 0 x X rfl rfl⟩
 | kj key k bx f Vs hk hF hs hv=>cases hY;rw[show fB 40=none from rfl]at hk;cases hk
 |_=>cases hY
theorem VB{H:Z}(a:cq C w G H):cq C w (aG.mt G.fz) Z.mt:=a.mt (λg l b=>k8 (G:=G) (G':=aG.mt G.fz) (λ_ _ h=>h) (λ_ _ _ _ h=>h) (by simp only[I.a_];exact j2 g l b) (a.1 g l b)) λi hi=>by cases hi
theorem VC{v:I}(hf:v.a_=true)(h:VR C.F w G v V):VR C.F w (aG.mt G.fz) v V:=k8 (G:=G) (G':=aG.mt G.fz) (λ_ _ h=>h) (λ_ _ _ _ h=>h) hf h
theorem VD{fz:Nat→Nat→Prop}{N:Nat}{W:World}{l:Nat}{o:Loop}{x:List Int}{V:Array Value}(hl:W.heap[l]?=some (.loop o))(h:oy C.F fz N W x V)(d:Loop):oy C.F fz N (W.putObj l (.loop d)) x V:=by
 obtain⟨U,c,rfl,h1,f⟩:=h;have g:∀b k,c b k→b≠l:=λb k hf e=>by obtain⟨V,a⟩:=(h1 b k hf).2;unfold World.cell? at a;rw[e,hl]at a;cases a
 have hc:∀b k V,c b k→W.cell? ⟨b,k,none⟩=some V→(W.putObj l (.loop d)).cell? ⟨b,k,none⟩=some V:=λb k V hf a=>by rw[World.cell?_of_block (w:=W) (ac4 (g b k hf))];exact a
 exact⟨U,c,rfl,λb k hf=>⟨(h1 b k hf).1,by obtain⟨V,a⟩:=(h1 b k hf).2;exact⟨V,hc b k V hf a⟩⟩,f.mono ⟨sl _,λ_ _=>rfl,λ_ _=>rfl,λ_ _ h=>h,hc⟩⟩
theorem VE(Φ:aj)(a0 a1 a b a8 c cS cu cB cz cQ d cV f y:I)(H:Z)(Rr:Z→Prop):cn Φ Kd (dt a0 a1 a b a8 c cS cu cB cz cQ d cV f .bot) H (λg e H=>g = .normal∧Rr H∧e.getD 6 .bot=y∧e.getD 7 .bot = .bool true)=(Do (O H 1 false cQ) λx=>ff.normal = .normal∧Rr H∧x=y∧I.bool true = .bool true):=by kernel_rfl
theorem KE:∀l:List (Int×Int),I.cf (l.flatMap u)=l.flatMap u
 |[]=>rfl
 | x::r=>by rw[List.flatMap_cons,lk,List.map_append,←lk,←lk,KE r];rfl
set_option maxRecDepth 100000 in
set_option maxHeartbeats 4000000 in
theorem VF(gi:∀x,bE (ai C) 96 [.str x] (.bool (eD x))){p:cA}(hp:p.ok)(hz:∀t∈p.dj,cm t≤100000000000){n k:Int}(aw : -9223372036854775808≤k∧k≤9223372036854775807)
  (ac:∀m∈c7 p n,iG m.kind=true→m.pl.ok∧m.pl.aC.length≤1000000) (a:c7 p n≠[]→gO p.vars) (ay:∀m∈c7 p n,iG m.kind=true→∀c∈cU p.vars m.pl.var [] m.pl.aC,1≤c∧c≤65536)
  (az:c7 p n≠[]→∀aS,fm p.vars (cy 0 p.vars)=some aS→aS.length≤9223372036854775806) {Q:ad} (hQ:∀H',Q (.ar [av u (cZ p n k).1,.bool (cZ p n k).2]) H'):ai C 6 [.agg p.cells,.int .i64 n,.int .i64 k] Z.mt Q:=by
 refine⟨⟨_,Z.mt,hQ _⟩,λf hf G w Vs hG aA ag=>?_⟩;obtain rfl:f=6:=by
  have:C.F 6=some 6:=by kernel_rfl
  rw[this]at hf;exact(Yh.inj hf).symm
 have ah:Vs.size=3:=ag.1.symm;refine(callsIn_wide (n:=60)).1 ?_;refine callsIn_of_wp_marks Tryz.func6 rfl trivial ?_ rfl;refine wpIn_wide.2 ?_;have hn:(∀fn:Func,fn.ntmps=91→aH C.F w G (dt (.agg p.cells) (.int .i64 n) (.int .i64 k) .bot .bot .bot .bot .bot .bot .bot .bot .bot .bot .bot .bot) (Vs++Array.replicate (fn.ntmps-Vs.size) undef)):=λfn aB=>by
  refine aH.app (cs:=[.agg p.cells,.int .i64 n,.int .i64 k]) (cs':=List.replicate 88 .bot) ag ⟨by rw[aB,ah];simp,λj c V hc a=>?_⟩;rw[List.getElem?_replicate]at hc;split at hc
  ·cases hc;exact .bot _
  ·cases hc
 refine Vl (C:=C) (pt _ _) j2 nO gi Vx hp hz aw ac a (by kernel_rfl) (by kernel_rfl) (by kernel_rfl) (by kernel_rfl) (by kernel_rfl) (by kernel_rfl) (by kernel_rfl) (by kernel_rfl) (by kernel_rfl) (by kernel_rfl) (by kernel_rfl) ⟨hG,aA,hn _ rfl,rfl,Step.refl _ _ _⟩ (by simp[ah,Tryz.ntmps6]) ?ret ?tail
 case ret=>
  intro ax H' G' a' w' s z M P he;show LeavesInM _ _ _ _ _ _ a'.defers _ _;rw[s.d];refine⟨_,results_tmp2 rfl _ _ _,_,_,H',G',rfl,hQ H',?_,s.r,s.s⟩;have v6:=k3 (t:=6) s.v;have E:=k3 (t:=7) s.v;rw[M,Zh]at v6;rw[P,Zh]at E;have L:VR C.F w' G' (av u []) (a'.tmps[6]?.getD undef):=v6.cd;rw[he];refine .ar _ _ rfl λj c V hc a=>?_
  match j,hc,a with
  |0,hc,a=>simp at hc a;subst hc a;exact L
  |1,hc,a=>simp at hc a;subst hc a;exact E
  |j+2,hc,_=>simp at hc
 case tail=>
  intro m v aS G' a' w' g hw hv hl aD s z;have aj:=ay m g hw;obtain⟨aE,a2⟩:=ac m g hw;have ak:=a λe=>by rw[e]at g;cases g
  obtain⟨hlen,a4,a5⟩:=Cb _ 1 v aj (by decide) (by decide) hv;have a6:(eN (cU p.vars m.pl.var [] m.pl.aC)).length≤4096:=by simp at hlen;omega
  refine wp_block ?_;refine(wpIn_wide (n:=60)).1 ?_;have v72:=k3 (t:=72) s.v;obtain⟨X,aF,aG⟩:=VA v72;have am:∀b o,G'.fz b o→b<w'.heap.size:=λb o hf=>by obtain⟨V,a⟩:=s.r.eb b o hf;exact World.block_lt_of_cell? w' _ a
  have aI:∀i,((((Z.mt.push (.row m.wk)).push (.row [av u aS])).push (.row [.aq .nil 0 []])).o i).live=true→∃cs,(((Z.mt.push (.row m.wk)).push (.row [av u aS])).push (.row [.aq .nil 0 []])).o i = .row cs:=by
   intro i hi;by_cases an:i=2
   ·subst an;exact⟨_,rfl⟩
   by_cases e1:i=1
   ·subst e1;exact⟨_,rfl⟩
   by_cases e0:i=0
   ·subst e0;exact⟨_,rfl⟩
   exfalso;have:(((Z.mt.push (.row m.wk)).push (.row [av u aS])).push (.row [.aq .nil 0 []])).o i = .gone:=by show(if i=2 then _ else if i=1 then _ else if i=0 then _ else _)=_;rw[ae an,ae e1,ae e0];rfl
   rw[this]at hi;cases hi
  have xO:mo p.vars m aS 0 1 2 [] (((Z.mt.push (.row m.wk)).push (.row [av u aS])).push (.row [.aq .nil 0 []])):=
   ⟨⟨by show 0<3;decide,rfl⟩,⟨by show 1<3;decide,rfl⟩,⟨_,⟨by show 2<3;decide,rfl⟩,cC.nil _ _ _⟩,by decide,by decide⟩
  refine Up (S:=λb=>∃o,G'.fz b o) (by decide) (gf:=40) (lb:= #[X]) (arg:=oy C.F G'.fz) (xs:=eN (cU p.vars m.pl.var [] m.pl.aC)) aF (enters_of Tryz.func40 (by kernel_rfl) rfl)
   (λk ⟨o,hf⟩=>am k o hf)
   (UA _ (fz:=G'.fz) (λb o hf=>⟨⟨o,hf⟩,s.r.eb b o hf⟩) (λk ⟨o,hf⟩=>am k o hf) (VB s.x) (VC (by simp only[I.a_,I.bA,acs,j4 (cells:=di) (λ_=>rfl)]) aG) (λc hc=>by have:=aj c hc;omega) (by have h9:=BW p.vars m.pl.var m.pl.aC [];omega))
   ?aJ ?aK (λN W l o x V h1 J R=>VD h1 J R)
   (λN b pre W=>jM C p m aS w' G' _ _ a'.tmps N b pre W) (λN b pre W l o R hi hB aL T=>hi.put R hB aL T) (λN b q A B hi ht=>hi.turn ht)
   (λb W' hb T hle aM=>⟨_,sl _,jM.start s.x s.r xO s.v hb T hle aM⟩)
   (λV=>⟨(a'.tmps.setIfInBounds 73 (V.getD 0 undef)).setIfInBounds 17 (V.getD 0 undef),[]⟩) ?assign ?body ?done
  case aJ=>rintro N W x V ⟨U,fz,rfl,_⟩;rfl
  case aK=>rintro N N' W x V hN ⟨U,fz,rfl,h1,J⟩;exact⟨U,fz,rfl,λb o hf=>⟨(h1 b o hf).1.imp id λh=>xl hN h,(h1 b o hf).2⟩,J⟩
  case assign=>
   intro l V W K a aN;obtain⟨aO⟩:=V
   match aO,a with
   | [U],_=>
    gi_wp2
    exact aN
  case body=>
   intro l N b pre x V W hW hb aP hi aQ ha;obtain⟨U,fz,rfl,h1,J⟩:=ha;refine hi.round (pt _ _) j2 nO aI s.r z aP ⟨U,fz,rfl,h1,J⟩ (by have:=ak.l;omega) ak.o aE (az (λe=>by rw[e]at g;cases g) _ hl) ?_ (by kernel_rfl) (by kernel_rfl) ?_ ?_ (λk hk=>hk)
   · obtain⟨t,ht⟩:=aQ;have:=congrArg List.length ht;simp at this;omega
   ·exact KD (by kernel_rfl)
   ·exact KD (by kernel_rfl)
  case done=>
   rintro D N b W aR ⟨⟨aT,H2,g1,g2,g3,g4,g5,g6,g7⟩,hb,hN⟩ Y;show Code.wp Tryz.prog _ _ _ W;refine wp_seq ?_;obtain⟨y,aU,aV⟩:=g3.iY;refine Vn (C:=C) (pt _ _) (ds:=[{target:= .collected D,args:= #[]}]) (al:=[⟨some 90,.load 1 false (.t 16),none⟩,⟨some 6,.mv (.t 90),none⟩,⟨some 7,.mv (.k (.bool true)),none⟩]) (by kernel_rfl) (K:=λe H'=>H'=H2∧e.getD 6 .bot=y∧e.getD 7 .bot = .bool true) (H:=H2) (G:=aT) ?_ g1 g2 g4 (by rw[s.d]) ?_
   · show cn (ai C) Kd _ H2 _;rw[VE (ai C) (.agg p.cells) (.int .i64 n) (.int .i64 k) (.af p.cells) (av bq.wk (c7 p n)) (.ptr 0 0) (.int .i64 v) (av di (cU p.vars m.pl.var [] m.pl.aC)) (.ptr 1 0) (.int .i64 0) (.ptr 2 0) .bot .bot (.fn 40 [.af [av di (cU p.vars m.pl.var [] m.pl.aC)]]) y H2 (λH'=>H'=H2)];have aW:O H2 1 false (.ptr 2 0)=some y:=by rw[aU.load];rfl
     rw[aW];exact⟨_,rfl,rfl,rfl,rfl,rfl⟩
   rintro ax H' ao a3 w3 ⟨rfl,M,P⟩ aX aa ap aY l8 a7;refine wp_ret ?_;show LeavesInM _ _ _ _ _ _ a3.defers _ _;rw[aY];have ab:w3.heap[D]?=some (.deferred (some [])):=(l8.c8 D (Array.getElem?_eq_some_iff.1 Y).1 λi hi=>xS (g2.obj i) hi Y (.inr ⟨_,rfl⟩)).trans Y;refine⟨by simp,.inl ⟨D,_,rfl,run_takeDeferred ab,?_⟩⟩;have hblk:∀k,k<w3.heap.size→k≠D→(w3.putObj D (.deferred none)).heap[k]?=w3.heap[k]?:=λk _ aZ=>ac4 aZ;obtain⟨a8,a0,au⟩:=xT aX aa hblk (λi hi=>xS (aa.obj i) hi ab (.inr ⟨_,rfl⟩)) (Kw aa ab (.inr ⟨_,rfl⟩));refine⟨_,results_tmp2 rfl _ _ _,_,_,H',ao,rfl,hQ H',?_,a0,xU (s.s.trans (g5.trans l8)) au (by simp) rfl rfl rfl (sl _) hblk (xl s.s.size aR)⟩;have v6:=k3 (t:=6) ap;have E:=k3 (t:=7) ap;rw[M,Zh]at v6;rw[P,Zh]at E;have L:=v6.cd;obtain⟨tk,a1,_⟩:=aV;rw[a1,show(I.aq tk (eN (cU p.vars m.pl.var [] m.pl.aC)).length ((List.map (lP p.vars m.pl aS) (eN (cU p.vars m.pl.var [] m.pl.aC))).flatMap u)).cd = .aq .dead (eN (cU p.vars m.pl.var [] m.pl.aC)).length ((List.map (lP p.vars m.pl aS) (eN (cU p.vars m.pl.var [] m.pl.aC))).flatMap u) by simp only[I.cd,KE],←aaz (f:=lP p.vars m.pl aS)]at L;rw[aD];refine(VR.ar _ _ rfl λj c V hc a=>?_:VR C.F w3 ao _ _).mono au
   match j,hc,a with
   |0,hc,a=>simp at hc a;subst hc a;exact L
   |1,hc,a=>simp at hc a;subst hc a;exact E
   |j+2,hc,_=>simp at hc
end Go.Proofs.YteakojhgmhmdkaaGreatDoor.rb

namespace Rb
open Go
variable{p:cA}{x:aM}
def nf(vars:List U)(m:bq):Prop:=m.kind≠7→m.place.ok∧(bV vars m.place).1=0∧j5 (B m.kind) (bV vars m.place).2=true
section
variable{vars:List U}
mutual
theorem VG:∀(e:X)(L:List (List UInt8)) (l:Int),e.ok→vE vars L e→∀m∈gk l e,nf vars m
 | .mk kind n E op aV place bn,L,l,a,hv,m,hm=>by
  rw[gk]at hm;have i:=a;rw[X.ok]at a;obtain⟨hk,_,_,_,_,hp,_,c⟩:=a;have d:=(IZ vars L _).1 hv;obtain⟨v1,v2,v3,v4,v5⟩:=d;obtain⟨f1,f2,f3,_⟩:=oi v1;have f1:1≤kind:=f1;have f2:kind≤8:=f2;rcases aag.1 hm with hm|hm
  · rcases aag.1 hm with hm|hm
    · by_cases b:kind≥4
      ·exact KF place L _ l hp (v4 b) m hm
      · have f:place.aC=[]:=f3 (by show kind≤3;omega);rw[oo,f]at hm;cases hm
    ·exact xV bn L l c v5 m hm
  · by_cases b:kind≥4
    · rw[aa b,acR]at hm;subst hm;intro _;obtain⟨g,h,_⟩:=(mW vars L _ _).1 (v4 b);exact⟨hp,g,h⟩
    ·rw[ae b]at hm;cases hm
theorem xV:∀(es:List X)(L:List (List UInt8)) (l:Int),X.de es→h2 vars L es→∀m∈dN l es,nf vars m
 |[],L,l,a,hv,m,hm=>by rw[dN]at hm;cases hm
 | e::r,L,l,a,hv,m,hm=>by
  rw[dN]at hm;rw[X.de]at a;rw[h2]at hv;rcases aag.1 hm with hm|hm
  ·exact VG e L l a.1 hv.1 m hm
  ·exact xV r L l a.2 hv.2 m hm
theorem KF:∀(x:aM)(L:List (List UInt8)) (k l:Int),x.ok→vP vars L k x→∀m∈gE l x,nf vars m
 | .mk var aC,L,k,l,a,hv,m,hm=>by rw[gE]at hm;rw[aM.ok]at a;rw[vP]at hv;exact KG aC L l a.2.2 hv.2.2 m hm
theorem KG:∀(ps:List K)(L:List (List UInt8)) (l:Int),K.de ps→lK vars L ps→∀m∈jr l ps,nf vars m
 |[],L,l,a,hv,m,hm=>by rw[jr]at hm;cases hm
 | p::r,L,l,a,hv,m,hm=>by
  rw[jr]at hm;rw[K.de]at a;rw[lK]at hv;rcases aag.1 hm with hm|hm
  ·exact VH p L l a.1 hv.1 m hm
  ·exact KG r L l a.2 hv.2 m hm
theorem VH:∀(p:K)(L:List (List UInt8)) (l:Int),p.ok→vR vars L p→∀m∈om l p,nf vars m
 | .mk field bb,L,l,a,hv,m,hm=>by rw[om]at hm;rw[K.ok]at a;rw[vR]at hv;exact xV bb L l a.2.2 hv m hm
end
mutual
theorem VJ:∀(x:aw)(L:List (List UInt8)),x.ok→vS vars L x→∀m∈kJ x,nf vars m
 | .mk kind V E cg aV place bc be bw,L,a,hv,m,hm=>by
  rw[kJ]at hm;rw[aw.ok]at a;obtain⟨_,_,_,_,_,hp,_,he,_,ht,_,hl⟩:=a;obtain⟨v1,v2,v3,v4,v5,v6,d,e,v9⟩:=(I0 vars L _).1 hv;obtain⟨f1,f2,f3,f4,f5,f6⟩:=Jb v1;rcases aag.1 hm with hm|hm
  · rcases aag.1 hm with hm|hm
    · rcases aag.1 hm with hm|hm
      · by_cases b:3≤kind∧kind≤6
        ·exact KF place L _ V hp (v6 b) m hm
        · have f:place.aC=[]:=f3 b;rw[oo,f]at hm;cases hm
      ·exact xV bc L V he d m hm
    · by_cases b:3≤kind∧kind≤7
      · rw[aa b,acR]at hm;subst hm;intro c;have c:kind≠7:=c;obtain⟨g,h,_⟩:=(mW vars L _ _).1 (v6 ⟨b.1,by show kind≤6;omega⟩);refine⟨hp,g,?_⟩;show j5 (B kind) _=true;rw[show B kind=kind from bI];exact h
      ·rw[ae b]at hm;cases hm
  · rcases aag.1 hm with hm|hm
    ·exact xW be L ht e m hm
    ·exact xW bw L hl v9 m hm
theorem xW:∀(xs:List aw)(L:List (List UInt8)),aw.de xs→vB vars L xs→∀m∈fb xs,nf vars m
 |[],L,a,hv,m,hm=>by rw[fb]at hm;cases hm
 | x::r,L,a,hv,m,hm=>by
  rw[fb]at hm;rw[aw.de]at a;rw[vB]at hv;rcases aag.1 hm with hm|hm
  ·exact VJ x L a.1 hv.1 m hm
  ·exact xW r _ a.2 hv.2 m hm
end
end
theorem KH{k:Int}(h:iG k=true):k≠7:=by rintro rfl;revert h;decide
theorem Cd(hp:p.ok){n:Int}{m:bq}(h:m∈c7 p n):(fN eD p).2=0∧gO p.vars∧nf p.vars m:=by
 unfold c7 at h;by_cases hc:(fN eD p).2≠0∨n<0∨(p.dj.length:Int)≤n
 ·rw[aa hc]at h;cases h
 · rw [ae hc]at h;have a:(fN eD p).2=0:=by
    by_cases e:(fN eD p).2=0
    ·exact e
    ·exact absurd (.inl e) hc
   obtain⟨d,hB⟩:=JE hp a;have b:n.toNat<p.dj.length:=by omega
   have c:p.dj.getD n.toNat []∈p.dj:=by rw[List.getD_eq_getElem?_getD,List.getElem?_eq_getElem b];exact List.getElem_mem b
   exact⟨a,d,xW _ [] (aw.dY.2 (hp.2.2 _ c).2) (hB _ c) m h⟩
theorem KI{m:Nat}:∀{l:List ay},∀f∈l,dF m f.type≤fa m l
 |[],f,h=>by cases h
 | g :: r,f,h=>by
  rw[fa];rcases aan.1 h with rfl|h
  · have:nR m f=dF m f.type:=by cases f;rw[nR]
    omega
  · have:=KI (m:=m) f h;omega
theorem KJ{m:Nat}:∀{l:List T},∀e∈l,dF m e≤eS m l
 |[],e,h=>by cases h
 | g :: r,e,h=>by
  rw[eS];rcases aan.1 h with rfl|h
  ·omega
  · have:=KJ (m:=m) e h;omega
theorem KK:∀(r:List K)(t:T)(m:Nat),t.lay→dF m t<m→(dL t r).1=0→(r.length:Int)+1≤m
 | [],t,m,_,a,_=>by
  have:0<m:=by
   rcases Nat.eq_zero_or_pos m with rfl|h
   ·cases t;rw[dF,el]at a;exact absurd a (by decide)
   ·exact h
  simp;omega
 | p :: r,t,m,h,a,hp=>by
  obtain⟨d,c⟩:=qj hp;have sub:∀e:T,e.lay→(db t p).2=e→(1<m→dF (m-1) e≤max (fa (m-1) t.aD) (eS (m-1) t.aU))→((p::r).length:Int)+1≤m:=by
   intro e he g i;have h1:1<m:=by
    rcases Nat.lt_or_ge 1 m with h|h
    ·exact h
    · exfalso;cases t;rw[dF,bC]at a;omega
   have o:=i h1;have ht:dF m t=max (fa (m-1) t.aD) (eS (m-1) t.aU)+1:=by cases t;rw[dF,aa h1]
   rw[g]at c;have:=KK r e (m-1) he (by omega) c;simp;omega
  rcases si h d with⟨q,j,e,s,he,b,k⟩|⟨u,j,n2,f,s2,f1,f2,f3,b,n⟩
  · refine sub e k (by rw[b]) λh1=>?_;have:=KJ (m:=m-1) (l:=t.aU) e (by rw[he];exact List.mem_cons_self ..);omega
  · refine sub f.type n (by rw[b]) λh1=>?_;have:=KI (m:=m-1) (l:=t.aD) f (List.mem_of_getElem? f2);omega
theorem KL{vars:List U}(a:gO vars)(h:(bV vars x).1=0):∃v,vars.find? (λv=>v.E==x.var)=some v∧v∈vars∧v.type.lay∧bV vars x=dL v.type x.aC:=by
 unfold bV at h ⊢;cases hv:vars.find? (λv=>v.E==x.var)with
 |none=>rw[hv]at h;cases h
 | some v=>rw[hv]at h;dsimp only at h ⊢;have hm:=adu hv;have hl:=oe (a.o v hm).2 (a.z v hm);refine⟨v,rfl,hm,hl,?_⟩;rw[ae (λq=>q hl.snd)]
theorem VK{vars:List U}(a:gO vars)(h:(bV vars x).1=0):x.aC.length≤64:=by
 obtain⟨v,_,_,hl,e⟩:=KL a h;rw[e]at h;have b:dF 65 v.type<65:=by
  have:=hl.snd;unfold eg at this;by_cases hc:64<dF 65 v.type
  ·rw[aa hc]at this;cases this
  ·omega
 have:=KK x.aC v.type 65 hl b h;omega
theorem KM:∀(a b:List K)(t:T),(dL t a).1=0→dL t (a++b)=dL (dL t a).2 b
 |[],b,t,_=>by rw[List.nil_append,dL]
 | p::r,b,t,h=>by obtain⟨h1,c⟩:=qj h;rw[List.cons_append,dL,dL,bC,bC];exact KM r b _ c
theorem KN{vars:List U}{a:List UInt8}{v:U}(g:gO vars)(hv:vars.find? (λv=>v.E==a)=some v):∀(r done:List K)(t:T),t.lay→dL v.type done=(0,t)→(dL t r).1=0→∀c∈cU vars a done r,1≤c∧c≤65536
 |[],done,t,_,_,_,c,hc=>by rw[cU]at hc;cases hc
 | p :: r,done,t,h,i,hp,c,hc=>by
  obtain⟨j,s⟩:=qj hp;have u:eg v.type=0:=(oe (g.o v (adu hv)).2 (g.z v (adu hv))).snd;have w:nX vars ⟨a,done⟩=t.bg:=by
   have e:bV vars ⟨a,done⟩=(0,t):=by unfold bV;show(match vars.find? (λv=>v.E==a)with|none=>((6,⟨0,0,false,[],0,[]⟩):Int×T)|some v=>if eg v.type≠0 then(eg v.type,v.type)else dL v.type done)=_;rw[hv];show(if eg v.type≠0 then(eg v.type,v.type)else dL v.type done)=_;rw[ae (λq=>q u),i]
   unfold nX;rw[e];rfl
  have x:dL v.type (done++[p])=(0,(db t p).2):=by rw[KM _ _ _ (by rw[i]),i];show dL t [p]=_;rw[dL,ae (λq=>q j),dL]
  rw[cU]at hc;rcases aag.1 hc with hc|hc
  · rcases si h j with⟨k,d,e,y,he,b,l⟩|⟨m,d,n2,f,s2,f1,f2,f3,b,n⟩
    · rw[ae (by intro e;rw[e]at k;cases k),acR]at hc;obtain⟨c1,c2,_⟩:=BQ h d he;rw[hc,w];exact⟨c1,c2⟩
    ·rw[aa m]at hc;cases hc
  · have A:(db t p).2.lay:=by
      rcases si h j with⟨k,d,e,y,he,b,l⟩|⟨m,d,n2,f,s2,f1,f2,f3,b,n⟩
      ·rw[b];exact l
      ·rw[b];exact n
    exact KN g hv r (done++[p]) _ A x s c hc
theorem KO:∀(r:List U)(s:List bp)(l:List (Int×Int)),fm r s=some l→l.length≤4096*r.length
 | [],s,l,h=>by
  rw[fm]at h
  ·cases h;simp
  ·intros;simp_all
 | v::r,[],l,h=>by
  rw[fm]at h
  ·cases h;simp
  ·intros;simp_all
 | v :: r,g::s,l,h=>by
  rw[fm]at h;by_cases a:(eC v.type).2≠0
  ·rw[aa a]at h;cases h
  · rw [ae a]at h;cases hw:fm r s with
    |none=>rw[hw]at h;cases h
    | some l'=>rw[hw]at h;simp only[Option.map_some,Yh.injEq]at h;subst h;have h1:=JR (t:=v.type) (by omega);have b:=KO r s l' hw;simp only[List.length_append,aaz,List.length_cons];omega
theorem KP(hp:p.ok)(n:Int):(∀m∈c7 p n,iG m.kind=true→m.pl=m.place∧m.pl.ok∧m.pl.aC.length≤64∧∀c∈cU p.vars m.pl.var [] m.pl.aC,1≤c∧c≤65536)∧(c7 p n≠[]→gO p.vars)∧(gO p.vars→∀aS,fm p.vars (cy 0 p.vars)=some aS→aS.length≤131072):=by
 refine⟨λm hm hw=>?_,λh=>?_,λa aS hl=>?_⟩
 · have e:m.pl=m.place:=by unfold bq.pl;rw[ae (KH hw)]
   obtain⟨_,a,ha⟩:=Cd hp hm;obtain⟨h1,b,_⟩:=ha (KH hw);rw[e];obtain⟨v,hv,_,hl,d⟩:=KL a b;exact⟨rfl,h1,VK a b,KN a hv m.place.aC [] v.type hl (by rw[dL]) (by rw[←d];exact b)⟩
 · obtain⟨m,hm⟩:=List.exists_mem_of_ne_nil _ h;exact(Cd hp hm).2.1
 · have:=KO _ _ _ hl;have:=a.l;omega
end Rb

namespace Go.Proofs.YteakojhgmhmdkaaGreatDoor.rb
open Go Rb
noncomputable section
def KQ:List (Nat×List I×I):=[
  (219,[.int .u8 (.ofNat 32)],.bool false),
  (139,[.str [118,97,114,32,116,104,114,101,97,100,32,115,116,114,117,99,116,32,117,110,105,111,110,32,112,97,99,107,101,100,32,117,56,32,117,49,54,32,117,51,50,32,117,54,52,32,97,56,32,97,49,54,32,97,51,50,32,97,54,52,32,97,49,50,56,32,108,101,116,32,115,101,116,32,119,114,105,116,101,32,115,116,111,114,101,32,108,111,97,100,50,32,115,116,111,114,101,50,32,102,101,110,99,101,32,105,102,32,101,108,115,101,32,119,104,105,108,101,32,112,114,105,110,116,32,114,101,97,100,32,108,111,97,100,32,97,100,100,32,115,119,97,112,32,99,97,115,32,114,108,120,32,97,99,113,32,114,101,108,32,115,99]],.aq .dead 34 [.str [118,97,114],.str [116,104,114,101,97,100],.str [115,116,114,117,99,116],.str [117,110,105,111,110],.str [112,97,99,107,101,100],.str [117,56],.str [117,49,54],.str [117,51,50],.str [117,54,52],.str [97,56],.str [97,49,54],.str [97,51,50],.str [97,54,52],.str [97,49,50,56],.str [108,101,116],.str [115,101,116],.str [119,114,105,116,101],.str [115,116,111,114,101],.str [108,111,97,100,50],.str [115,116,111,114,101,50],.str [102,101,110,99,101],.str [105,102],.str [101,108,115,101],.str [119,104,105,108,101],.str [112,114,105,110,116],.str [114,101,97,100],.str [108,111,97,100],.str [97,100,100],.str [115,119,97,112],.str [99,97,115],.str [114,108,120],.str [97,99,113],.str [114,101,108],.str [115,99]])]
theorem VL:forced (nI (rA []) KQ)=true:=by kernel_rfl
theorem VM:gY (ai C) (fY (KQ++[])):=rv j2 (uA uz) uz (dD VL)
theorem VN(x:List UInt8):bE (ai C) 96 [.str x] (.bool (eD x)):=TA j2 nO (λH Q hQ=>VM 139 [.str Jl] (.aq .dead 34 (qm.map .str)) (by kernel_rfl) H Q hQ) x
theorem Ce{p:cA}(hp:p.ok)(hz:∀t∈p.dj,cm t≤100000000000)(n k:Int)(b : -9223372036854775808≤k∧k≤9223372036854775807):bE (ai C) 6 [.agg p.cells,.int .i64 n,.int .i64 k] (.ar [av u (cZ p n k).1,.bool (cZ p n k).2]):=by
 refine bE.of j2 (by simp[I.bA,I.a_,cA.a_]) (by simp only[I.a_,I.bA,j4 (cells:=u) (λ_=>rfl),acs]) λQ hQ=>?_;obtain⟨h1,a,c⟩:=KP hp n;refine VF VN hp hz b (λm hm hw=>?_) a (λm hm hw=>(h1 m hm hw).2.2.2) (λh aS hl=>?_) hQ
 · obtain⟨_,d,e,_⟩:=h1 m hm hw;exact⟨d,by omega⟩
 ·have:=c (a h) aS hl;omega
theorem VO{p:cA}{n k:Int}{m:bq}{v:Int}{aS:List (Int×Int)}(a:1≤k)(b:(c7 p n)[(k-1).toNat]?=some m)(c:iG m.kind=true)(hv:gP (cU p.vars m.pl.var [] m.pl.aC) 1=some v)(hl:fm p.vars (cy 0 p.vars)=some aS) :
  cZ p n k=((eN (cU p.vars m.pl.var [] m.pl.aC)).map (lP p.vars m.pl aS),true):=by
 rw[Kv a b c,hv];dsimp only;rw[hl]
def fA(E:List UInt8)(a:Int)(b:Bool)(w:Int):ay:= .mk E (.mk 1 a false [] 0 []) b w
def p0:cA:=⟨[⟨[115],.mk 3 0 false [fA [97] 1 false 0,fA [98] 4 true 3,fA [99] 4 true 9,fA [100] 1 false 0] 0 []⟩],
  [[.mk 3 1 [] [] 0 (.mk [115] [.mk [99] []]) [.mk 1 5 [] 0 0 (.mk [] []) []] [] [],.mk 10 1 [] [] 0 (.mk [] []) [.mk 4 0 [] 0 0 (.mk [115] [.mk [100] []]) []] [] []]]⟩
def t0:T:= .mk 3 0 false [fA [97] 1 false 0,fA [98] 4 true 3,fA [99] 4 true 9,fA [100] 1 false 0] 0 []
theorem VP:eC t0=([(0,1),(1,2),(3,1)],0):=by
 have h1:(fk t0 0 ⟨[],false⟩)=⟨[(0,1),(1,2),(3,1)],false⟩:=by kernel_rfl
 have a:ef [(0,1),(1,2),(3,1)]=[(0,1),(1,2),(3,1)]:=List.mergeSort_of_pairwise (by decide);have b:(aZ t0).2=0:=by kernel_rfl
 unfold eC;rw[ae (λq=>q b),h1];unfold Bk.tidy;rw[a];rfl
theorem AW:cZ p0 0 1=([(65537,2)],true):=by
 have ha:c7 p0 0=[⟨3,0,1,.mk [115] [.mk [99] []]⟩,⟨14,0,1,.mk [115] [.mk [100] []]⟩]:=by kernel_rfl
 have hw:fm p0.vars (cy 0 p0.vars)=some [(65536,1),(65537,2),(65539,1)]:=by
  have e:cy 0 p0.vars=[⟨65536,4,0,false,0,0⟩]:=by kernel_rfl
  rw[e,show p0.vars=[⟨[115],t0⟩]from rfl,fm,VP];all_goals rfl
 exact(VO (p:=p0) (n:=0) (k:=1) (m:=⟨3,0,1,.mk [115] [.mk [99] []]⟩) (v:=1) (by decide) (by rw[ha];rfl) (by decide) (by kernel_rfl) hw).trans (by kernel_rfl)
theorem VQ:cZ p0 0 2=([],false):=by kernel_rfl
theorem KS{e:Nat×List I×I}{L:List (Nat×List I×I)}(h:∀H Q,Q e.2.2 H→ai C e.1 e.2.1 H Q)(a:gY (ai C) (fY L)):gY (ai C) (fY (e::L)):=by
 obtain⟨b,a0,v0⟩:=e;intro k args v hm H Q hQ;unfold fY at hm;dsimp only at hm;cases hb:Nat.beq b k with
 |false=>rw[hb]at hm;exact a k args v hm H Q hQ
 | true=>
  rw[hb]at hm;obtain rfl:=Nat.eq_of_beq_eq_true hb;cases hs:I.fU a0 args with
  |false=>rw[hs]at hm;exact a b args v hm H Q hQ
  | true=>rw[hs]at hm;simp only[cond_true,Yh.injEq]at hm;subst hm;obtain rfl:=I.mH _ _ hs;exact h H Q hQ
theorem KU:p0.ok:=by simp[cA.ok,p0,fA,U.ok,T.ok,T.de,ay.ok,ay.de,aw.ok,aw.de,aM.ok,K.ok,K.de,X.ok,X.de,jE,ma,maxLen]
def RbNa:List (Nat×List I×I):=[
  (6,[.agg p0.cells,.int .i64 (.ofNat 0),.int .i64 (.ofNat 1)],.ar [.aq .dead 1 [.int .i64 (.ofNat 65537),.int .i64 (.ofNat 2)],.bool true]),
  (6,[.agg p0.cells,.int .i64 (.ofNat 0),.int .i64 (.ofNat 2)],.ar [.aq .dead 0 [],.bool false])]
theorem KV:gY (ai C) (fY RbNa):=KS (λH Q hQ=>Ce KU (by decide) 0 1 (by decide) H Q (by rw[AW];exact hQ)) (KS (λH Q hQ=>Ce KU (by decide) 0 2 (by decide) H Q (by rw[VQ];exact hQ)) uz)
end
end Go.Proofs.YteakojhgmhmdkaaGreatDoor.rb
