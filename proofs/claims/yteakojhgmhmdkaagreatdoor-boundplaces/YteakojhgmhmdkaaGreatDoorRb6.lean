/- A part of the proof (part 6): see the last text. -/
import Derived.Test.YteakojhgmhmdkaaGreatDoorRb3
import Derived.Shelf.SlSortCmp.NoneTotal
import Derived.Test.YteakojhgmhmdkaaGreatDoorRb2
import Derived.Sort.Grow
import Derived.Deep.Draws
import Derived.Test.YteakojhgmhmdkaaGreatDoorRb4
import Derived.Test.YteakojhgmhmdkaaGreatDoorChecked
import Derived.Test.YteakojhgmhmdkaaGreatDoorRb5
set_option linter.unusedVariables false
set_option linter.unusedSimpArgs false
open Array renaming getD_eq_getD_getElem?→Zb, getElem?_append_left→ado, getElem?_eq_some_iff→YF, getElem?_mapIdx→adn, getElem?_modify→YK
open Bool renaming and_true→ack
open Go.Proofs.SlLaysF0 renaming n6→adp
open Go.Sort renaming ahead→adm
open Go.World renaming block_lt_of_cell?→YE, cell?_of_block→YD, cell?→abp, putObj_heap_other→ac2
open List renaming flatMap_cons→abe, getElem?_eq_getElem→YO, length_append→abC, length_cons→abD, length_map→aat, length→acF, map→Z7, mem_append→aaa, mem_cons→aah, mem_of_find?_eq_some→adq, mem_singleton→acL
open Nat renaming le_refl→sl, le_trans→xl
open Option renaming map_some→Yc, some→Yb
namespace Rb
open Go Go.RowKit Go.Lib Go.Sort Go.Proofs
variable{F:cz}{w:World}{G:aH}{H:Z}{id:Nat}{cs:List I}
def gq(p:Int×Int):List Value:=[.int .i64 p.1,.int .i64 p.2]
theorem qq:∀l:List (Int×Int),(l.flatMap av).length=l.length*2
 |[]=>rfl
 |x::r=>by rw[abe,abC,qq r,abD];show 2+_=_;omega
theorem Cj:∀(l:List (Int×Int)) (j:Nat) (c:I),(l.flatMap av)[j]?=some c→j<l.length*2∧∃n,c = .int .i64 n∧(gq l.toArray[j/2]!)[j%2]! = .int .i64 n
 |[],j,c,h=>by simp at h
 | x::r,j,c,h=>by
  rw[abe]at h
  match j,h with
  | 0,h=>have h:some (I.int .i64 x.1)=some c:=h;cases h;exact⟨by simp,_,rfl,by simp[gq]⟩
  | 1,h=>have h:some (I.int .i64 x.2)=some c:=h;cases h;exact⟨by simp;omega,_,rfl,by simp[gq]⟩
  | j+2,h=>have h:(r.flatMap av)[j]?=some c:=h;obtain⟨h1,n,a,b⟩:=Cj r j c h;refine⟨by rw[abD];omega,n,a,?_⟩;rw[Nat.add_div_right j (by decide:0<2),Nat.add_mod_right,←b];congr 2;simp only[Array.getElem!_eq_getD,Zb,List.getElem?_toArray,List.getElem?_cons_succ]
theorem Vt{l:List (Int×Int)}(f:Rel F w G H)(g:H.o id = .row cs)(hc:cs.take (l.length*2)=l.flatMap av):HoldsK gq 2 w (G.loc id) 0 l.toArray∧G.loc id<w.heap.size:=by
 have h:=f.obj id;rw[g]at h;obtain⟨c,e,h1,r,s,i⟩:=h;refine⟨λj b=>?_,(YF.1 h1).1⟩;rw[size_flatK]at b;have d:j<l.length*2:=by simpa using b
 obtain⟨a,ha⟩:∃a,(l.flatMap av)[j]?=some a:=⟨_,YO (by rw[qq];exact d)⟩
 obtain⟨_,n,rfl,hn⟩:=Cj l j a ha;have k:cs[j]?=some (.int .i64 n):=by rw[←ha,←hc,List.getElem?_take_of_lt d]
 obtain⟨V,m,p⟩:=i j _ k;have q:V = .int .i64 n:=by cases p;rfl
 subst q;refine⟨?_,?_⟩
 · rw[get_flatK gq 2 l.toArray j b,hn];simp only[abp,h1,Option.isSome_none,Bool.false_eq_true,bR,Nat.zero_add];exact m
 · simp only[World.frozen?,h1];simp
theorem KL{l l':List (Int×Int)}(p:Rel F w G H)(q:H.o id = .row cs)(hc:cs.take (l.length*2)=l.flatMap av)(hl:l'.length=l.length)(n:Nat)(f:Array Obj) :
  Rel F (sortWorldK gq 2 w (G.loc id) 0 n l'.toArray f) G (H.set id (.row (l'.flatMap av++cs.drop (l.length*2))))∧Step w G H (sortWorldK gq 2 w (G.loc id) 0 n l'.toArray f) G (H.set id (.row (l'.flatMap av++cs.drop (l.length*2)))):=by
 have h:=p.obj id;rw[q]at h;obtain⟨c,e,h1,v,r,s⟩:=h;have A:=(YF.1 h1).1;have hlen:l.length*2≤cs.length:=by have:=congrArg acF hc;rw[List.length_take,qq]at this;omega
 have ht:jX w (putRowK gq 2 (adm w n) (G.loc id) 0 l'.toArray) (G.loc id):=
  ⟨by simp[putRowK,putRow,mapBlock,adm],λk hk=>by simp[putRowK,putRow,mapBlock,adm,YK,Ne.symm hk],rfl,rfl,rfl,Nat.le_add_right _ _⟩
 have hb:(putRowK gq 2 (adm w n) (G.loc id) 0 l'.toArray).heap[G.loc id]?=some (.cells (putCells _root_.id 0 (flatK gq 2 l'.toArray) c) e (0,0)):=by show((adm w n).heap.modify (G.loc id) _)[G.loc id]?=_;rw[YK,aa rfl];show(w.heap[G.loc id]?).map _=_;rw[h1];rfl
 obtain ⟨r1,s1⟩:=p.write (i:=id) (by rw[q];rfl) r ht (.row (l'.flatMap av++cs.drop (l.length*2))) rfl λx=>by
  refine⟨_,e,hb,by simp[putCells,v],r,λj a b=>?_⟩;have d:(flatK gq 2 l'.toArray).size=l.length*2:=by rw[size_flatK];simp[hl]
  by_cases t:j<l.length*2
  · rw [List.getElem?_append_left (by rw[qq,hl];exact t)]at b;obtain⟨_,m,rfl,hm⟩:=Cj l' j a b;have y:j<c.size:=by
     obtain⟨V,g,_⟩:=s j _ (YO (show j<cs.length by omega));exact(YF.1 g).1
    refine⟨.int .i64 m,?_,.int _ _⟩;simp only[putCells,adn];rw[Array.getElem?_eq_getElem y,Yc,aa (by rw[d];omega),Nat.sub_zero,get_flatK gq 2 l'.toArray j (by rw[size_flatK]at d;rw[d];exact t),hm];rfl
  · rw[List.getElem?_append_right (by rw[qq,hl];omega),qq,hl,List.getElem?_drop,show l.length*2+(j-l.length*2)=j by omega]at b;obtain⟨V,g,z⟩:=s j a b;refine⟨V,?_,z.mono x⟩;simp only[putCells,adn];rw[g,Yc,ab (by rw[d];omega)]
 have u:Below (putRowK gq 2 (adm w n) (G.loc id) 0 l'.toArray).heap.size (putRowK gq 2 (adm w n) (G.loc id) 0 l'.toArray) (sortWorldK gq 2 w (G.loc id) 0 n l'.toArray f):=by refine⟨rfl,rfl,rfl,by simp[sortWorldK,grow],λk hk=>?_⟩;simp only[sortWorldK,grow];rw[ado hk]
 exact⟨Q6 u r1,s1.trans (Q7 u (sl _) r1)⟩
def my(x y:Int×Int):Int:=if x.1<y.1 then -1 else if x.1>y.1 then 1 else if x.2<y.2 then -1 else if x.2>y.2 then 1 else 0
theorem sO(x y:Int×Int):ltOf my x y=decide (x.1<y.1∨(x.1=y.1∧x.2<y.2)):=by
 unfold ltOf my;apply decide_eq_decide.2
 repeat' split
 all_goals omega
theorem Vu:SWO (ltOf my) where
 irrefl x:=by rw[sO];simp
 trans x y z h1 a:=by rw[sO]at *;simp at *;omega
 ntrans x y z h1 a:=by rw[sO]at *;simp at *;omega
theorem Vv(x y:Int×Int)(a:ltOf my x y=false)(b:ltOf my y x=false):x=y:=by rw[sO]at *;simp at *;exact Prod.ext (by omega) (by omega)
theorem Vw(l:List (Int×Int)):(l.mergeSort λx y=>!(ltOf my) y x)=ef l:=by unfold ef;congr 1;funext x y;rw[sO]
end Rb

namespace Rb
open Go Go.RowKit
theorem af.flat{C:Ctx}(aj:bN C){key:Nat}{args:List I}{f:FuncId}{v:I}{w:World}{G:aH}{H:Z}{Vs:Array Value}(hf:C.F key=some f)(ha:I.bA args=true)(A:v.bb=true)(hG:ct C w G H)(d:Rel C.F w G H)(u:aK C.F w G args Vs)
  (h:∀Q:ad,(∀H',Q v H')→af C key args Z.mt Q):Calls C.P f Vs w λe w'=>∃V G',e = .returned V∧VR C.F w' G' v V∧ct C w' G' H∧Rel C.F w' G' H∧GLe w G w' G'∧Below w.heap.size w w'∧∃q os,w'=Go.Sort.grow (w.drewN q) os:=by
 have B:Rel C.F w (aH.mt G.fz) Z.mt:=Rel.mt d.ea;have D:aK C.F w (aH.mt G.fz) args Vs:=⟨u.1,λj c V hc t=>la (G:=G) (G':=aH.mt G.fz) (w:=w) (λ_ _ h=>h) (λ_ _ _ _ h=>h) (mL ha j c hc) (u.2 j c V hc t)⟩
 have E:jc C w (aH.mt G.fz):=λg l p=>la (G:=G) (G':=aH.mt G.fz) (w:=w) (λ_ _ h=>h) (λ_ _ _ _ h=>h) (by simp only[I.bb];exact aj g l p) (hG.1 g l p);refine Calls.mono ((h (λx _=>x=v) (λ_=>rfl)).2 f hf _ w Vs (hG.mt E λi hi=>by cases hi) B D) λe w' he=>?_;obtain⟨V,x,H',G',rfl,rfl,hv,J,m⟩:=he;have hb:=m.below;have T:=m.dr;have y:∀b o,G'.fz b o→G.fz b o∨w.heap.size≤b:=by
  intro b o hz;rcases m.ez b o hz with h|h|⟨i,hi,_⟩
  ·exact .inl h
  ·exact .inr h
  ·cases hi
 let r:aH:={G with fz:=λb o=>G.fz b o∨G'.fz b o}
 have z:∀b o V,G.fz b o→w.cell? ⟨b,o,none⟩=some V→w'.cell? ⟨b,o,none⟩=some V:=λb o V hf hc=>by rw[YD (w:=w) (hb.block b (YE w _ hc))];exact hc
 have p:GLe w G w' r:=⟨sl _,λ_ _=>rfl,λ_ _=>rfl,λ_ _ h=> .inl h,z⟩
 have K:Rel C.F w' r H:=by
  refine⟨d.n,d.over,λj=>(d.obj j).aJ p (λhl=>d.gx hl) (λhl=>hb.block _ ((d.obj j).lt hl)) λhl o s=>?_,d.eZ,λb o hf=>?_⟩
  · rcases s with s|s
    ·exact s
    · rcases y _ _ s with h|h
      ·exact h
      ·exact absurd ((d.obj j).lt hl) (by omega)
  · rcases hf with hf|hf
    · obtain⟨V,t⟩:=d.ea b o hf;exact⟨V,z b o V hf t⟩
    ·exact J.ea b o hf
 have L:Step w G H w' r H:={p with
     size:=m.size,os:=m.os,tape:=m.tape,output:=m.output,dr:=m.dr,c9:=λk hk _=>hb.block k hk,owned:=λi hi _=>⟨i,hi,rfl⟩
     ez:=λb o hf=>by
      rcases hf with hf|hf
      ·exact .inl hf
      · rcases y b o hf with h|h
        ·exact .inl h
        ·exact .inr (.inl h)}
 refine⟨V,r,rfl,la (G:=G') (G':=r) (w:=w') (λ_ _ h=>Or.inr h) (λ_ _ _ _ h=>h) A hv,hG.step L,K,p,hb,w'.drawn-w.drawn,w'.heap.extract w.heap.size w'.heap.size,?_⟩;have M:w'.heap=w.heap++w'.heap.extract w.heap.size w'.heap.size:=by
  apply Array.ext_getElem?;intro k;by_cases hk:k<w.heap.size
  ·rw[ado hk];exact hb.block k hk
  · rw[Array.getElem?_append_right (by omega),Array.getElem?_extract];have hs:=hb.size;split
    ·rw[show w.heap.size+(k-w.heap.size)=k by omega]
    ·exact Array.getElem?_eq_none (by omega)
 have key:∀a b:World,a.heap=b.heap→a.tape=b.tape→a.drawn=b.drawn→a.os=b.os→a.output=b.output→a=b:=by rintro⟨_,_,_,_,_⟩ ⟨_,_,_,_,_⟩ h1 N O R S;cases h1;cases N;cases O;cases R;cases S;rfl
 exact key _ _ M hb.tape (by show w'.drawn=w.drawn+(w'.drawn-w.drawn);omega) hb.os hb.output
end Rb

namespace Go.Proofs.YteakojhgmhmdkaaGreatDoor.rb
open Rb Go.Shelf Go.RowKit Go.Lib Go.Sort Go.Proofs
variable{H:Z}{Q:ad}
def Vx:Go.Shelf.Ren:=⟨λ|6=>89|15=>135|14=>134|28=>186|29=>187|20=>178|21=>179|22=>180|23=>181|24=>182|25=>183|26=>184|27=>185|46=>209|47=>210|48=>211|49=>212|50=>213|57=>230|n=>n,λ|22=>26|24=>49|25=>181|3=>3|39=>219|0=>0|53=>261|55=>47|4=>4|46=>255|45=>254|50=>56|5=>5|9=>9|66=>278|70=>282|76=>298|77=>299|n=>n,λ|n=>n⟩
theorem KM:adp Tryz.prog Vx:={
  mixed:=by kernel_rfl
  f6 := ⟨"slices.SortFunc[[]rabbet/api.Span,rabbet/api.Span]", by decide, Tryz.func89.trans (congrArg some (by kernel_rfl))⟩
  f14 := ⟨"slices.pdqsortCmpFunc[rabbet/api.Span]", by decide, Tryz.func134.trans (congrArg some (by kernel_rfl))⟩
  f15:=Tryz.func135.trans (congrArg some (by kernel_rfl))
  f20 := ⟨"slices.insertionSortCmpFunc[rabbet/api.Span]", by decide, Tryz.func178.trans (congrArg some (by kernel_rfl))⟩
  f21 := ⟨"slices.heapSortCmpFunc[rabbet/api.Span]", by decide, Tryz.func179.trans (congrArg some (by kernel_rfl))⟩
  f22 := ⟨"slices.breakPatternsCmpFunc[rabbet/api.Span]", by decide, Tryz.func180.trans (congrArg some (by kernel_rfl))⟩
  f23 := ⟨"slices.choosePivotCmpFunc[rabbet/api.Span]", by decide, Tryz.func181.trans (congrArg some (by kernel_rfl))⟩
  f24 := ⟨"slices.reverseRangeCmpFunc[rabbet/api.Span]", by decide, Tryz.func182.trans (congrArg some (by kernel_rfl))⟩
  f25 := ⟨"slices.partialInsertionSortCmpFunc[rabbet/api.Span]", by decide, Tryz.func183.trans (congrArg some (by kernel_rfl))⟩
  f26 := ⟨"slices.partitionEqualCmpFunc[rabbet/api.Span]", by decide, Tryz.func184.trans (congrArg some (by kernel_rfl))⟩
  f27 := ⟨"slices.partitionCmpFunc[rabbet/api.Span]", by decide, Tryz.func185.trans (congrArg some (by kernel_rfl))⟩
  f28:=Tryz.func186.trans (congrArg some (by kernel_rfl))
  f29:=Tryz.func187.trans (congrArg some (by kernel_rfl))
  f46 := ⟨"slices.siftDownCmpFunc[rabbet/api.Span]", by decide, Tryz.func209.trans (congrArg some (by kernel_rfl))⟩
  f47:=Tryz.func210.trans (congrArg some (by kernel_rfl))
  f48:=Tryz.func211.trans (congrArg some (by kernel_rfl))
  f49 := ⟨"slices.medianAdjacentCmpFunc[rabbet/api.Span]", by decide, Tryz.func212.trans (congrArg some (by kernel_rfl))⟩
  f50 := ⟨"slices.medianCmpFunc[rabbet/api.Span]", by decide, Tryz.func213.trans (congrArg some (by kernel_rfl))⟩
  f57 := ⟨"slices.order2CmpFunc[rabbet/api.Span]", by decide, Tryz.func230.trans (congrArg some (by kernel_rfl))⟩
  t0:=Tryz.underlying0
  a0:=Tryz.isAgg0
  z0:=Tryz.sizeOf0
  v0:=Tryz.zeroValue0
  t3:=Tryz.underlying3
  a3:=Tryz.isAgg3
  z3:=Tryz.sizeOf3
  v3:=Tryz.zeroValue3
  t4:=Tryz.underlying4
  a4:=Tryz.isAgg4
  z4:=Tryz.sizeOf4
  v4:=Tryz.zeroValue4
  t5:=Tryz.underlying5
  a5:=Tryz.isAgg5
  z5:=Tryz.sizeOf5
  v5:=Tryz.zeroValue5
  t9:=Tryz.underlying9
  a9:=Tryz.isAgg9
  z9:=Tryz.sizeOf9
  v9:=Tryz.zeroValue9
  t22:=Tryz.underlying26
  a22:=Tryz.isAgg26
  z22:=Tryz.sizeOf26
  v22:=Tryz.zeroValue26
  t25:=Tryz.underlying181
  a25:=Tryz.isAgg181
  z25:=Tryz.sizeOf181
  v25:=Tryz.zeroValue181
  t39:=Tryz.underlying219
  a39:=Tryz.isAgg219
  z39:=Tryz.sizeOf219
  v39:=Tryz.zeroValue219
  t45:=Tryz.underlying254
  a45:=Tryz.isAgg254
  z45:=Tryz.sizeOf254
  v45:=Tryz.zeroValue254
  t46:=Tryz.underlying255
  a46:=Tryz.isAgg255
  z46:=Tryz.sizeOf255
  v46:=Tryz.zeroValue255
  t50:=Tryz.underlying56
  a50:=Tryz.isAgg56
  z50:=Tryz.sizeOf56
  v50:=Tryz.zeroValue56
  t53:=Tryz.underlying261
  a53:=Tryz.isAgg261
  z53:=Tryz.sizeOf261
  v53:=Tryz.zeroValue261
  t55:=Tryz.underlying47
  a55:=Tryz.isAgg47
  z55:=Tryz.sizeOf47
  v55:=Tryz.zeroValue47
  t66:=Tryz.underlying278
  a66:=Tryz.isAgg278
  z66:=Tryz.sizeOf278
  v66:=Tryz.zeroValue278
  t70:=Tryz.underlying282
  a70:=Tryz.isAgg282
  z70:=Tryz.sizeOf282
  v70:=Tryz.zeroValue282
  t76:=Tryz.underlying298
  a76:=Tryz.isAgg298
  z76:=Tryz.sizeOf298
  v76:=Tryz.zeroValue298
  t77:=Tryz.underlying299
  a77:=Tryz.isAgg299
  z77:=Tryz.sizeOf299
  v77:=Tryz.zeroValue299}
theorem KN{F:cz}{w:World}{G:aH}(p:Int×Int):VR F w G (.agg (av p)) (.agg (gq p).toArray):=by
 refine .agg _ _ rfl λj c V hc a=>?_;rcases j with _|_|j
 ·simp[av,gq]at hc a;subst hc a;exact .int _ _
 ·simp[av,gq]at hc a;subst hc a;exact .int _ _
 ·simp[av]at hc
set_option maxRecDepth 100000 in
theorem Vy{id:Nat}{cs:List I}{l:List (Int×Int)}(h:At H id (.row cs))(hc:cs.take (l.length*2)=l.flatMap av)(hl:l.length<4611686018427387904)(hQ:Q (.aq []) (H.set id (.row ((ef l).flatMap av++cs.drop (l.length*2))))):af C 89 [.row id 0 l.length 2,.fn 90 []] H Q:=by
 refine⟨⟨_,_,hQ⟩,λf hf G W Vs hG d q=>?_⟩;obtain rfl:f=89:=by
  have:C.F 89=some 89:=by kernel_rfl
  rw[this]at hf;exact(Yb.inj hf).symm
 obtain⟨r,hv⟩:=q;obtain⟨s⟩:=Vs
 match s,r with
 | [i,o],_=>
  have t:=hv 0 _ i rfl rfl;have h1:=hv 1 _ o rfl rfl;obtain ⟨cap,rfl⟩:∃cap,i = .slice (some ⟨G.loc id,0,none⟩) l.length cap:=by
   cases t with
   |row _ _ _ _ cap h hle hc=>exact⟨cap,rfl⟩
  have e1:o = .func (.func 90) #[] #[]:=by
   cases h1 with
   | fn _ _ f Vs hk hf hl hv=>
    have:C.F 90=some 90:=by kernel_rfl
    rw[this]at hf;cases hf;have:Vs = #[]:=Array.eq_empty_of_size_eq_zero (by rw[←hl];rfl);rw[this]
   |ko _ k _ f Vs hk hf hl hv=>cases hk
  subst e1;obtain⟨g1,g2⟩:=Vt d h.2 hc;have u:CmpLays Tryz.prog 90 #[] gq 2 my (G.loc id) 0 l.toArray.size W:=by
   intro m os g z x y;obtain⟨b,st⟩:=KL d h.2 hc (l':=g.toList) (by simpa using z) m os;have A:g.toList.toArray=g:=by simp
   rw[A]at b st;refine(af.flat (C:=C) j5 (key:=90) (args:=[.agg (av x),.agg (av y)]) (v:= .int .i64 (my x y)) (by kernel_rfl) rfl rfl (hG.step st) b ⟨rfl,λj c V hc a=>?_⟩ λQ hQ=>TG j5 nR (hQ _)).mono λe w' ⟨V,G',he,a,_,_,_,_,B⟩=>⟨by rw[he,a.e8],B⟩
   rcases j with _|_|j
   ·simp at hc a;subst hc a;exact KN x
   ·simp at hc a;subst hc a;exact KN y
   ·simp at hc
  have D:∀args w,(callFunc 90 args).run Tryz.prog w = .ok (.enter 90 args) w:=enters_of Tryz.func90 (by kernel_rfl) rfl;have p:=AnyQ.slices_SortFunc_total KM 2 Tryz.isAgg49 Tryz.sizeOf49 gq (λ_=>rfl) (λx v hv=>by simp[gq]at hv;rcases hv with rfl|rfl<;>rfl) my Vu 90 #[] (G.loc id) 0 cap l.toArray W D u g1 g2 (by simpa using hl) Vv;change Calls Tryz.prog 89 _ W _ at p;refine p.mono λe w' ⟨he,n,os,hw⟩=>?_;subst hw;obtain⟨b,st⟩:=KL d h.2 hc (nT l) n os;rw[←Vw]at b st hQ;exact⟨_,_,_,G,he,hQ,.aq [] #[] rfl λj c V hc=>by simp at hc,b,st⟩
theorem Vz{tk:Rb.Tok}(hQ:Q (.aq []) H):af C 89 [.ak tk 0 [],.fn 90 []] H Q:=by
 refine⟨⟨_,_,hQ⟩,λf hf G W Vs hG i k=>?_⟩;obtain rfl:f=89:=by
  have:C.F 89=some 89:=by kernel_rfl
  rw[this]at hf;exact(Yb.inj hf).symm
 obtain⟨l,hv⟩:=k;obtain⟨m⟩:=Vs
 match m,l with
 | [d,n],_=>
  have q:=hv 0 _ d rfl rfl;obtain ⟨p,cap,rfl⟩:∃p cap,d = .slice p 0 cap:=by
   cases q with
   |e5=>exact⟨_,_,rfl⟩
   |e6 a cap=>exact⟨_,_,rfl⟩
   |ak _ _ _ b o cap r s hle h hv=>exact⟨_,_,rfl⟩
  have g:=AnyF.slices_SortFunc_none KM p cap n W;change Calls Tryz.prog 89 _ W _ at g;refine g.mono λe w' ⟨he,hw⟩=>?_;subst hw;exact⟨_,_,H,G,he,hQ,.aq [] #[] rfl λj c V hc=>by simp at hc,i,Step.refl _ _ _⟩
theorem KO:nf (af C):=⟨λh hc hl hQ=>Vy h hc hl hQ,λhQ=>Vz hQ⟩
end Go.Proofs.YteakojhgmhmdkaaGreatDoor.rb

namespace Go.Proofs.YteakojhgmhmdkaaGreatDoor.rb
open Go Go.Proofs Go.RowKit Go.Shelf Rb
variable{w:World}{G:aH}{V:Value}
attribute [local go_sem] Oper.semAt_some
def VA:Code→Bool
 | .region _ ops _=>ops.toList.all λo=>match o.op with | .defer _=>false|_=>true
 |_=>false
theorem KP{c:Code}(h:VA c=true):qn c:=by
 cases c with
 | region id ops b=>intro o a c e;have:=List.all_eq_true.1 h o a;rw[e]at this;cases this
 |_=>cases h
theorem VB:C.F 40=some 40:=by kernel_rfl
theorem VC{x:I}(h:VR C.F w G (.fn 40 [x]) V):∃X,V = .func (.func 40) #[] #[X]∧VR C.F w G x X:=by
 generalize hY:I.fn 40 [x]=Y at h;cases h with
 | fn key bE f Vs hk hF hs hv=>
  cases hY;rw[VB]at hF;cases hF;obtain⟨a⟩:=Vs
  match a,hs with
  |[X],_=>exact⟨X,rfl,hv 0 x X rfl rfl⟩
 | ko key k bE f Vs hk hF hs hv=>cases hY;rw[show fS 40=none from rfl]at hk;cases hk
 |_=>cases hY
theorem VD{H:Z}(a:ct C w G H):ct C w (aH.mt G.fz) Z.mt:=a.mt (λg l b=>la (G:=G) (G':=aH.mt G.fz) (λ_ _ h=>h) (λ_ _ _ _ h=>h) (by simp only[I.bb];exact j5 g l b) (a.1 g l b)) λi hi=>by cases hi
theorem VE{v:I}(hf:v.bb=true)(h:VR C.F w G v V):VR C.F w (aH.mt G.fz) v V:=la (G:=G) (G':=aH.mt G.fz) (λ_ _ h=>h) (λ_ _ _ _ h=>h) hf h
theorem VF{fz:Nat→Nat→Prop}{N:Nat}{W:World}{l:Nat}{o:Loop}{x:List Int}{V:Array Value}(hl:W.heap[l]?=some (.loop o))(h:oy C.F fz N W x V)(d:Loop):oy C.F fz N (W.putObj l (.loop d)) x V:=by
 obtain⟨U,c,rfl,h1,f⟩:=h;have g:∀b k,c b k→b≠l:=λb k hf e=>by obtain⟨V,a⟩:=(h1 b k hf).2;unfold abp at a;rw[e,hl]at a;cases a
 have hc:∀b k V,c b k→W.cell? ⟨b,k,none⟩=some V→(W.putObj l (.loop d)).cell? ⟨b,k,none⟩=some V:=λb k V hf a=>by rw[YD (w:=W) (ac2 (g b k hf))];exact a
 exact⟨U,c,rfl,λb k hf=>⟨(h1 b k hf).1,by obtain⟨V,a⟩:=(h1 b k hf).2;exact⟨V,hc b k V hf a⟩⟩,f.mono ⟨sl _,λ_ _=>rfl,λ_ _=>rfl,λ_ _ h=>h,hc⟩⟩
theorem VG(Φ:ai)(a0 a1 a b a8 c cO cx cB cA cM d cW f y:I)(H:Z)(Rr:Z→Prop):cp Φ Kr (dt a0 a1 a b a8 c cO cx cB cA cM d cW f .bot) H (λg e H=>g = .normal∧Rr H∧e.getD 6 .bot=y∧e.getD 7 .bot = .bool true)=(Do (O H 1 false cM) λx=>fj.normal = .normal∧Rr H∧x=y∧I.bool true = .bool true):=by kernel_rfl
theorem KQ:∀l:List (Int×Int),I.cf (l.flatMap av)=l.flatMap av
 |[]=>rfl
 | x::r=>by rw[abe,lr,List.map_append,←lr,←lr,KQ r];rfl
set_option maxRecDepth 100000 in
set_option maxHeartbeats 4000000 in
theorem VH(fe:∀x,bB (af C) 96 [.str x] (.bool (dq x))){p:cH}(hp:p.ok)(hz:∀t∈p.dd,cn t≤100000000000){n k:Int}(aw : -9223372036854775808≤k∧k≤9223372036854775807)
  (ac:∀m∈cD p n,ho m.kind=true→m.pl.ok∧m.pl.aB.length≤1000000) (a:cD p n≠[]→fh p.vars) (ax:∀m∈cD p n,ho m.kind=true→∀c∈cj p.vars m.pl.var [] m.pl.aB,1≤c∧c≤65536)
  (ay:cD p n≠[]→∀aG,eW p.vars (bW 0 p.vars)=some aG→aG.length≤9223372036854775806) {Q:ad} (hQ:∀H',Q (.aq [au av (cZ p n k).1,.bool (cZ p n k).2]) H'):af C 6 [.agg p.cells,.int .i64 n,.int .i64 k] Z.mt Q:=by
 refine⟨⟨_,Z.mt,hQ _⟩,λf hf G w Vs hG az ag=>?_⟩;obtain rfl:f=6:=by
  have:C.F 6=some 6:=by kernel_rfl
  rw[this]at hf;exact(Yb.inj hf).symm
 have ah:Vs.size=3:=ag.1.symm;refine(callsIn_wide (n:=60)).1 ?_;refine callsIn_of_wp_marks Tryz.func6 rfl trivial ?_ rfl;refine wpIn_wide.2 ?_;have hn:(∀fn:Func,fn.ntmps=91→aK C.F w G (dt (.agg p.cells) (.int .i64 n) (.int .i64 k) .bot .bot .bot .bot .bot .bot .bot .bot .bot .bot .bot .bot) (Vs++Array.replicate (fn.ntmps-Vs.size) undef)):=λfn aC=>by
  refine aK.app (cs:=[.agg p.cells,.int .i64 n,.int .i64 k]) (cs':=List.replicate 88 .bot) ag ⟨by rw[aC,ah];simp,λj c V hc a=>?_⟩;rw[List.getElem?_replicate]at hc;split at hc
  ·cases hc;exact .bot _
  ·cases hc
 refine Vo (C:=C) (pq _ _) j5 nR fe KO hp hz aw ac a (by kernel_rfl) (by kernel_rfl) (by kernel_rfl) (by kernel_rfl) (by kernel_rfl) (by kernel_rfl) (by kernel_rfl) (by kernel_rfl) (by kernel_rfl) (by kernel_rfl) (by kernel_rfl) ⟨hG,az,hn _ rfl,rfl,Step.refl _ _ _⟩ (by simp[ah,Tryz.ntmps6]) ?ret ?tail
 case ret=>
  intro aA H' G' a' w' s z L M he;show LeavesInM _ _ _ _ _ _ a'.defers _ _;rw[s.d];refine⟨_,results_tmp2 rfl _ _ _,_,_,H',G',rfl,hQ H',?_,s.r,s.s⟩;have v6:=k6 (t:=6) s.v;have u:=k6 (t:=7) s.v;rw[L,Zb]at v6;rw[M,Zb]at u;have J:VR C.F w' G' (au av []) (a'.tmps[6]?.getD undef):=v6.cd;rw[he];refine .aq _ _ rfl λj c V hc a=>?_
  match j,hc,a with
  |0,hc,a=>simp at hc a;subst hc a;exact J
  |1,hc,a=>simp at hc a;subst hc a;exact u
  |j+2,hc,_=>simp at hc
 case tail=>
  intro m v aG G' a' w' g hw hv hl aD s z;have ai:=ax m g hw;obtain⟨aE,a2⟩:=ac m g hw;have aj:=a λe=>by rw[e]at g;cases g
  obtain⟨hlen,a4,a5⟩:=Ci _ 1 v ai (by decide) (by decide) hv;have a6:(dT (cj p.vars m.pl.var [] m.pl.aB)).length≤4096:=by simp at hlen;omega
  refine wp_block ?_;refine(wpIn_wide (n:=60)).1 ?_;have v72:=k6 (t:=72) s.v;obtain⟨X,aF,aH⟩:=VC v72;have am:∀b o,G'.fz b o→b<w'.heap.size:=λb o hf=>by obtain⟨V,a⟩:=s.r.ea b o hf;exact YE w' _ a
  have aI:∀i,((((Z.mt.push (.row m.wk)).push (.row [au av aG])).push (.row [.ak .nil 0 []])).o i).live=true→∃cs,(((Z.mt.push (.row m.wk)).push (.row [au av aG])).push (.row [.ak .nil 0 []])).o i = .row cs:=by
   intro i hi;by_cases an:i=2
   ·subst an;exact⟨_,rfl⟩
   by_cases e1:i=1
   ·subst e1;exact⟨_,rfl⟩
   by_cases e0:i=0
   ·subst e0;exact⟨_,rfl⟩
   exfalso;have:(((Z.mt.push (.row m.wk)).push (.row [au av aG])).push (.row [.ak .nil 0 []])).o i = .gone:=by show(if i=2 then _ else if i=1 then _ else if i=0 then _ else _)=_;rw[ab an,ab e1,ab e0];rfl
   rw[this]at hi;cases hi
  have xM:mw p.vars m aG 0 1 2 [] (((Z.mt.push (.row m.wk)).push (.row [au av aG])).push (.row [.ak .nil 0 []])):=
   ⟨⟨by show 0<3;decide,rfl⟩,⟨by show 1<3;decide,rfl⟩,⟨_,⟨by show 2<3;decide,rfl⟩,cC.nil _ _ _⟩,by decide,by decide⟩
  refine Ut (S:=λb=>∃o,G'.fz b o) (by decide) (gf:=40) (lb:= #[X]) (arg:=oy C.F G'.fz) (xs:=dT (cj p.vars m.pl.var [] m.pl.aB)) aF (enters_of Tryz.func40 (by kernel_rfl) rfl)
   (λk ⟨o,hf⟩=>am k o hf)
   (UE _ (fz:=G'.fz) (λb o hf=>⟨⟨o,hf⟩,s.r.ea b o hf⟩) (λk ⟨o,hf⟩=>am k o hf) (VD s.x) (VE (by simp only[I.bb,I.bA,ack,j_ (cells:=dj) (λ_=>rfl)]) aH) (λc hc=>by have:=ai c hc;omega) (by have h9:=B4 p.vars m.pl.var m.pl.aB [];omega))
   ?aJ ?aL (λN W l o x V h1 E P=>VF h1 E P)
   (λN b pre W=>jP C p m aG w' G' _ _ a'.tmps N b pre W) (λN b pre W l o P hi hB aM R=>hi.put P hB aM R) (λN b q A B hi ht=>hi.turn ht)
   (λb W' hb R hle aN=>⟨_,sl _,jP.start s.x s.r xM s.v hb R hle aN⟩)
   (λV=>⟨(a'.tmps.setIfInBounds 73 (V.getD 0 undef)).setIfInBounds 17 (V.getD 0 undef),[]⟩) ?assign ?body ?done
  case aJ=>rintro N W x V ⟨U,fz,rfl,_⟩;rfl
  case aL=>rintro N N' W x V hN ⟨U,fz,rfl,h1,E⟩;exact⟨U,fz,rfl,λb o hf=>⟨(h1 b o hf).1.imp id λh=>xl hN h,(h1 b o hf).2⟩,E⟩
  case assign=>
   intro l V W K a aO;obtain⟨aP⟩:=V
   match aP,a with
   | [U],_=>
    gi_wp2
    exact aO
  case body=>
   intro l N b pre x V W hW hb aQ hi aR ha;obtain⟨U,fz,rfl,h1,E⟩:=ha;refine hi.round (pq _ _) j5 nR aI s.r z aQ ⟨U,fz,rfl,h1,E⟩ (by have:=aj.l;omega) aj.o aE (ay (λe=>by rw[e]at g;cases g) _ hl) ?_ (by kernel_rfl) (by kernel_rfl) ?_ ?_ (λk hk=>hk)
   · obtain⟨t,ht⟩:=aR;have:=congrArg acF ht;simp at this;omega
   ·exact KP (by kernel_rfl)
   ·exact KP (by kernel_rfl)
  case done=>
   rintro D N b W aS ⟨⟨aT,H2,g1,g2,g3,g4,g5,g6,g7⟩,hb,hN⟩ T;show Code.wp Tryz.prog _ _ _ W;refine wp_seq ?_;obtain⟨y,aU,aV⟩:=g3.iX;refine Vq (C:=C) (pq _ _) (ds:=[{target:= .collected D,args:= #[]}]) (al:=[⟨some 90,.load 1 false (.t 16),none⟩,⟨some 6,.mv (.t 90),none⟩,⟨some 7,.mv (.k (.bool true)),none⟩]) (by kernel_rfl) (K:=λe H'=>H'=H2∧e.getD 6 .bot=y∧e.getD 7 .bot = .bool true) (H:=H2) (G:=aT) ?_ g1 g2 g4 (by rw[s.d]) ?_
   · show cp (af C) Kr _ H2 _;rw[VG (af C) (.agg p.cells) (.int .i64 n) (.int .i64 k) (.ae p.cells) (au bm.wk (cD p n)) (.ptr 0 0) (.int .i64 v) (au dj (cj p.vars m.pl.var [] m.pl.aB)) (.ptr 1 0) (.int .i64 0) (.ptr 2 0) .bot .bot (.fn 40 [.ae [au dj (cj p.vars m.pl.var [] m.pl.aB)]]) y H2 (λH'=>H'=H2)];have aW:O H2 1 false (.ptr 2 0)=some y:=by rw[aU.load];rfl
     rw[aW];exact⟨_,rfl,rfl,rfl,rfl,rfl⟩
   rintro aA H' ao a3 w3 ⟨rfl,L,M⟩ aX Y ap aY l_ a7;refine wp_ret ?_;show LeavesInM _ _ _ _ _ _ a3.defers _ _;rw[aY];have aa:w3.heap[D]?=some (.deferred (some [])):=(l_.c9 D (YF.1 T).1 λi hi=>xR (g2.obj i) hi T (.inr ⟨_,rfl⟩)).trans T;refine⟨by simp,.inl ⟨D,_,rfl,run_takeDeferred aa,?_⟩⟩;have hblk:∀k,k<w3.heap.size→k≠D→(w3.putObj D (.deferred none)).heap[k]?=w3.heap[k]?:=λk _ aZ=>ac2 aZ;obtain⟨a8,a0,ar⟩:=xS aX Y hblk (λi hi=>xR (Y.obj i) hi aa (.inr ⟨_,rfl⟩)) (KJ Y aa (.inr ⟨_,rfl⟩));refine⟨_,results_tmp2 rfl _ _ _,_,_,H',ao,rfl,hQ H',?_,a0,xT (s.s.trans (g5.trans l_)) ar (by simp) rfl rfl rfl (sl _) hblk (xl s.s.size aS)⟩;have v6:=k6 (t:=6) ap;have u:=k6 (t:=7) ap;rw[L,Zb]at v6;rw[M,Zb]at u;have J:=v6.cd;obtain⟨tk,a1,_⟩:=aV;rw[a1,show(I.ak tk (dT (cj p.vars m.pl.var [] m.pl.aB)).length ((Z7 (h3 p.vars m.pl aG) (dT (cj p.vars m.pl.var [] m.pl.aB))).flatMap av)).cd = .ak .dead (dT (cj p.vars m.pl.var [] m.pl.aB)).length ((Z7 (h3 p.vars m.pl aG) (dT (cj p.vars m.pl.var [] m.pl.aB))).flatMap av) by simp only[I.cd,KQ],←aat (f:=h3 p.vars m.pl aG)]at J;rw[aD];refine(VR.aq _ _ rfl λj c V hc a=>?_:VR C.F w3 ao _ _).mono ar
   match j,hc,a with
   |0,hc,a=>simp at hc a;subst hc a;exact J
   |1,hc,a=>simp at hc a;subst hc a;exact u
   |j+2,hc,_=>simp at hc
end Go.Proofs.YteakojhgmhmdkaaGreatDoor.rb

namespace Rb
open Go
variable{p:cH}{x:aN}
def ni(vars:List B)(m:bm):Prop:=m.kind≠7→m.place.ok∧(bK vars m.place).1=0∧jk (V m.kind) (bK vars m.place).2=true
section
variable{vars:List B}
mutual
theorem VJ:∀(e:ax)(L:List (List UInt8)) (l:Int),e.ok→vE vars L e→∀m∈gm l e,ni vars m
 | .mk kind n E op aV place bq,L,l,a,hv,m,hm=>by
  rw[gm]at hm;have i:=a;rw[ax.ok]at a;obtain⟨hk,_,_,_,_,hp,_,c⟩:=a;have d:=(I6 vars L _).1 hv;obtain⟨v1,v2,v3,v4,v5⟩:=d;obtain⟨f1,f2,f3,_⟩:=oj v1;have f1:1≤kind:=f1;have f2:kind≤8:=f2;rcases aaa.1 hm with hm|hm
  · rcases aaa.1 hm with hm|hm
    · by_cases b:kind≥4
      ·exact KS place L _ l hp (v4 b) m hm
      · have f:place.aB=[]:=f3 (by show kind≤3;omega);rw[oq,f]at hm;cases hm
    ·exact xU bq L l c v5 m hm
  · by_cases b:kind≥4
    · rw[aa b,acL]at hm;subst hm;intro _;obtain⟨g,h,_⟩:=(m_ vars L _ _).1 (v4 b);exact⟨hp,g,h⟩
    ·rw[ab b]at hm;cases hm
theorem xU:∀(es:List ax)(L:List (List UInt8)) (l:Int),ax.dh es→hZ vars L es→∀m∈dP l es,ni vars m
 |[],L,l,a,hv,m,hm=>by rw[dP]at hm;cases hm
 | e::r,L,l,a,hv,m,hm=>by
  rw[dP]at hm;rw[ax.dh]at a;rw[hZ]at hv;rcases aaa.1 hm with hm|hm
  ·exact VJ e L l a.1 hv.1 m hm
  ·exact xU r L l a.2 hv.2 m hm
theorem KS:∀(x:aN)(L:List (List UInt8)) (k l:Int),x.ok→vP vars L k x→∀m∈gH l x,ni vars m
 | .mk var aB,L,k,l,a,hv,m,hm=>by rw[gH]at hm;rw[aN.ok]at a;rw[vP]at hv;exact KU aB L l a.2.2 hv.2.2 m hm
theorem KU:∀(ps:List K)(L:List (List UInt8)) (l:Int),K.dh ps→lP vars L ps→∀m∈jr l ps,ni vars m
 |[],L,l,a,hv,m,hm=>by rw[jr]at hm;cases hm
 | p::r,L,l,a,hv,m,hm=>by
  rw[jr]at hm;rw[K.dh]at a;rw[lP]at hv;rcases aaa.1 hm with hm|hm
  ·exact VK p L l a.1 hv.1 m hm
  ·exact KU r L l a.2 hv.2 m hm
theorem VK:∀(p:K)(L:List (List UInt8)) (l:Int),p.ok→vR vars L p→∀m∈oo l p,ni vars m
 | .mk field bc,L,l,a,hv,m,hm=>by rw[oo]at hm;rw[K.ok]at a;rw[vR]at hv;exact xU bc L l a.2.2 hv m hm
end
mutual
theorem VL:∀(x:ay)(L:List (List UInt8)),x.ok→vS vars L x→∀m∈kL x,ni vars m
 | .mk kind X E cg aV place bf bg bx,L,a,hv,m,hm=>by
  rw[kL]at hm;rw[ay.ok]at a;obtain⟨_,_,_,_,_,hp,_,he,_,ht,_,hl⟩:=a;obtain⟨v1,v2,v3,v4,v5,v6,d,e,v9⟩:=(I7 vars L _).1 hv;obtain⟨f1,f2,f3,f4,f5,f6⟩:=Jj v1;rcases aaa.1 hm with hm|hm
  · rcases aaa.1 hm with hm|hm
    · rcases aaa.1 hm with hm|hm
      · by_cases b:3≤kind∧kind≤6
        ·exact KS place L _ X hp (v6 b) m hm
        · have f:place.aB=[]:=f3 b;rw[oq,f]at hm;cases hm
      ·exact xU bf L X he d m hm
    · by_cases b:3≤kind∧kind≤7
      · rw[aa b,acL]at hm;subst hm;intro c;have c:kind≠7:=c;obtain⟨g,h,_⟩:=(m_ vars L _ _).1 (v6 ⟨b.1,by show kind≤6;omega⟩);refine⟨hp,g,?_⟩;show jk (V kind) _=true;rw[show V kind=kind from bH];exact h
      ·rw[ab b]at hm;cases hm
  · rcases aaa.1 hm with hm|hm
    ·exact xV bg L ht e m hm
    ·exact xV bx L hl v9 m hm
theorem xV:∀(xs:List ay)(L:List (List UInt8)),ay.dh xs→vB vars L xs→∀m∈fg xs,ni vars m
 |[],L,a,hv,m,hm=>by rw[fg]at hm;cases hm
 | x::r,L,a,hv,m,hm=>by
  rw[fg]at hm;rw[ay.dh]at a;rw[vB]at hv;rcases aaa.1 hm with hm|hm
  ·exact VL x L a.1 hv.1 m hm
  ·exact xV r _ a.2 hv.2 m hm
end
end
theorem xW{k:Int}(h:ho k=true):k≠7:=by rintro rfl;revert h;decide
theorem Ck(hp:p.ok){n:Int}{m:bm}(h:m∈cD p n):(fq dq p).2=0∧fh p.vars∧ni p.vars m:=by
 unfold cD at h;by_cases hc:(fq dq p).2≠0∨n<0∨(p.dd.length:Int)≤n
 ·rw[aa hc]at h;cases h
 · rw [ab hc]at h;have a:(fq dq p).2=0:=by
    by_cases e:(fq dq p).2=0
    ·exact e
    ·exact absurd (.inl e) hc
   obtain⟨d,hB⟩:=JL hp a;have b:n.toNat<p.dd.length:=by omega
   have c:p.dd.getD n.toNat []∈p.dd:=by rw[List.getD_eq_getElem?_getD,YO b];exact List.getElem_mem b
   exact⟨a,d,xV _ [] (ay.dZ.2 (hp.2.2 _ c).2) (hB _ c) m h⟩
theorem KV{m:Nat}:∀{l:List aw},∀f∈l,dG m f.type≤fb m l
 |[],f,h=>by cases h
 | g :: r,f,h=>by
  rw[fb];rcases aah.1 h with rfl|h
  · have:nU m f=dG m f.type:=by cases f;rw[nU]
    omega
  · have:=KV (m:=m) f h;omega
theorem KW{m:Nat}:∀{l:List U},∀e∈l,dG m e≤eT m l
 |[],e,h=>by cases h
 | g :: r,e,h=>by
  rw[eT];rcases aah.1 h with rfl|h
  ·omega
  · have:=KW (m:=m) e h;omega
theorem KY:∀(r:List K)(t:U)(m:Nat),t.lay→dG m t<m→(cb t r).1=0→(r.length:Int)+1≤m
 | [],t,m,_,a,_=>by
  have:0<m:=by
   rcases Nat.eq_zero_or_pos m with rfl|h
   ·cases t;rw[dG,eM]at a;exact absurd a (by decide)
   ·exact h
  simp;omega
 | p :: r,t,m,h,a,hp=>by
  obtain⟨d,c⟩:=kH hp;have sub:∀e:U,e.lay→(cV t p).2=e→(1<m→dG (m-1) e≤max (fb (m-1) t.aE) (eT (m-1) t.aU))→((p::r).length:Int)+1≤m:=by
   intro e he g i;have h1:1<m:=by
    rcases Nat.lt_or_ge 1 m with h|h
    ·exact h
    · exfalso;cases t;rw[dG,bw]at a;omega
   have o:=i h1;have ht:dG m t=max (fb (m-1) t.aE) (eT (m-1) t.aU)+1:=by cases t;rw[dG,aa h1]
   rw[g]at c;have:=KY r e (m-1) he (by omega) c;simp;omega
  rcases lO h d with⟨q,j,e,s,he,b,k⟩|⟨u,j,n2,f,s2,f1,f2,f3,b,n⟩
  · refine sub e k (by rw[b]) λh1=>?_;have:=KW (m:=m-1) (l:=t.aU) e (by rw[he];exact List.mem_cons_self ..);omega
  · refine sub f.type n (by rw[b]) λh1=>?_;have:=KV (m:=m-1) (l:=t.aE) f (List.mem_of_getElem? f2);omega
theorem Cm{vars:List B}(a:fh vars)(h:(bK vars x).1=0):∃v,vars.find? (λv=>v.E==x.var)=some v∧v∈vars∧v.type.lay∧bK vars x=cb v.type x.aB:=by
 unfold bK at h ⊢;cases hv:vars.find? (λv=>v.E==x.var)with
 |none=>rw[hv]at h;cases h
 | some v=>rw[hv]at h;dsimp only at h ⊢;have hm:=adq hv;have hl:=mY (a.o v hm).2 (a.z v hm);refine⟨v,rfl,hm,hl,?_⟩;rw[ab (λq=>q hl.snd)]
theorem K0{vars:List B}(a:fh vars)(h:(bK vars x).1=0):x.aB.length≤64:=by
 obtain⟨v,_,_,hl,e⟩:=Cm a h;rw[e]at h;have b:dG 65 v.type<65:=by
  have:=hl.snd;unfold eg at this;by_cases hc:64<dG 65 v.type
  ·rw[aa hc]at this;cases this
  ·omega
 have:=KY x.aB v.type 65 hl b h;omega
theorem Cn:∀(a b:List K)(t:U),(cb t a).1=0→cb t (a++b)=cb (cb t a).2 b
 |[],b,t,_=>by rw[List.nil_append,cb]
 | p::r,b,t,h=>by obtain⟨h1,c⟩:=kH h;rw[List.cons_append,cb,cb,bw,bw];exact Cn r b _ c
theorem K1{vars:List B}{a:List UInt8}{v:B}(b:fh vars)(hv:vars.find? (λv=>v.E==a)=some v){done:List K}{t:U}(c:cb v.type done=(0,t)):nZ vars ⟨a,done⟩=t.ba:=by
 have d:eg v.type=0:=(mY (b.o v (adq hv)).2 (b.z v (adq hv))).snd;have e:bK vars ⟨a,done⟩=(0,t):=by unfold bK;show(match vars.find? (λv=>v.E==a)with|none=>((6,⟨0,0,false,[],0,[]⟩):Int×U)|some v=>if eg v.type≠0 then(eg v.type,v.type)else cb v.type done)=_;rw[hv];show(if eg v.type≠0 then(eg v.type,v.type)else cb v.type done)=_;rw[ab (λq=>q d),c]
 unfold nZ;rw[e];rfl
theorem K2{vars:List B}{j:List UInt8}{v:B}(k:fh vars)(hv:vars.find? (λv=>v.E==j)=some v):∀(r done:List K)(t:U),t.lay→cb v.type done=(0,t)→(cb t r).1=0→∀c∈cj vars j done r,1≤c∧c≤65536
 |[],done,t,_,_,_,c,hc=>by rw[cj]at hc;cases hc
 | p :: r,done,t,h,d,hp,c,hc=>by
  obtain⟨g,o⟩:=kH hp;have s:=K1 k hv d;have u:cb v.type (done++[p])=(0,(cV t p).2):=by rw[Cn _ _ _ (by rw[d]),d];show cb t [p]=_;rw[cb,ab (λq=>q g),cb]
  rw[cj]at hc;rcases aaa.1 hc with hc|hc
  · rcases lO h g with⟨i,b,e,w,he,a,l⟩|⟨m,b,n2,f,s2,f1,f2,f3,a,n⟩
    · rw[ab (by intro e;rw[e]at i;cases i),acL]at hc;obtain⟨c1,c2,_⟩:=sC h b he;rw[hc,s];exact⟨c1,c2⟩
    ·rw[aa m]at hc;cases hc
  · have x:(cV t p).2.lay:=by
      rcases lO h g with⟨i,b,e,w,he,a,l⟩|⟨m,b,n2,f,s2,f1,f2,f3,a,n⟩
      ·rw[a];exact l
      ·rw[a];exact n
    exact K2 k hv r (done++[p]) _ x u o c hc
theorem K3:∀(r:List B)(s:List be)(l:List (Int×Int)),eW r s=some l→l.length≤4096*r.length
 | [],s,l,h=>by
  rw[eW]at h
  ·cases h;simp
  ·intros;simp_all
 | v::r,[],l,h=>by
  rw[eW]at h
  ·cases h;simp
  ·intros;simp_all
 | v :: r,g::s,l,h=>by
  rw[eW]at h;by_cases a:(eD v.type).2≠0
  ·rw[aa a]at h;cases h
  · rw [ab a]at h;cases hw:eW r s with
    |none=>rw[hw]at h;cases h
    | some l'=>rw[hw]at h;simp only[Yc,Yb.injEq]at h;subst h;have h1:=J3 (t:=v.type) (by omega);have b:=K3 r s l' hw;simp only[abC,aat,abD];omega
theorem K4(hp:p.ok)(n:Int):(∀m∈cD p n,ho m.kind=true→m.pl=m.place∧m.pl.ok∧m.pl.aB.length≤64∧∀c∈cj p.vars m.pl.var [] m.pl.aB,1≤c∧c≤65536)∧(cD p n≠[]→fh p.vars)∧(fh p.vars→∀aG,eW p.vars (bW 0 p.vars)=some aG→aG.length≤131072):=by
 refine⟨λm hm hw=>?_,λh=>?_,λa aG hl=>?_⟩
 · have e:m.pl=m.place:=by unfold bm.pl;rw[ab (xW hw)]
   obtain⟨_,a,ha⟩:=Ck hp hm;obtain⟨h1,b,_⟩:=ha (xW hw);rw[e];obtain⟨v,hv,_,hl,d⟩:=Cm a b;exact⟨rfl,h1,K0 a b,K2 a hv m.place.aB [] v.type hl (by rw[cb]) (by rw[←d];exact b)⟩
 · obtain⟨m,hm⟩:=List.exists_mem_of_ne_nil _ h;exact(Ck hp hm).2.1
 · have:=K3 _ _ _ hl;have:=a.l;omega
end Rb

namespace Go.Proofs.YteakojhgmhmdkaaGreatDoor.rb
open Go Rb
noncomputable section
def K5:List (Nat×List I×I):=[
  (219,[.int .u8 (.ofNat 32)],.bool false),
  (139,[.str [118,97,114,32,116,104,114,101,97,100,32,115,116,114,117,99,116,32,117,110,105,111,110,32,112,97,99,107,101,100,32,117,56,32,117,49,54,32,117,51,50,32,117,54,52,32,97,56,32,97,49,54,32,97,51,50,32,97,54,52,32,97,49,50,56,32,108,101,116,32,115,101,116,32,119,114,105,116,101,32,115,116,111,114,101,32,108,111,97,100,50,32,115,116,111,114,101,50,32,102,101,110,99,101,32,105,102,32,101,108,115,101,32,119,104,105,108,101,32,112,114,105,110,116,32,114,101,97,100,32,108,111,97,100,32,97,100,100,32,115,119,97,112,32,99,97,115,32,114,108,120,32,97,99,113,32,114,101,108,32,115,99]],.ak .dead 34 [.str [118,97,114],.str [116,104,114,101,97,100],.str [115,116,114,117,99,116],.str [117,110,105,111,110],.str [112,97,99,107,101,100],.str [117,56],.str [117,49,54],.str [117,51,50],.str [117,54,52],.str [97,56],.str [97,49,54],.str [97,51,50],.str [97,54,52],.str [97,49,50,56],.str [108,101,116],.str [115,101,116],.str [119,114,105,116,101],.str [115,116,111,114,101],.str [108,111,97,100,50],.str [115,116,111,114,101,50],.str [102,101,110,99,101],.str [105,102],.str [101,108,115,101],.str [119,104,105,108,101],.str [112,114,105,110,116],.str [114,101,97,100],.str [108,111,97,100],.str [97,100,100],.str [115,119,97,112],.str [99,97,115],.str [114,108,120],.str [97,99,113],.str [114,101,108],.str [115,99]])]
theorem VM:forced (nK (rr []) K5)=true:=by kernel_rfl
theorem VN:gW (af C) (f_ (K5++[])):=rm j5 (ux uw) uw (dF VM)
theorem K6(x:List UInt8):bB (af C) 96 [.str x] (.bool (dq x)):=TJ j5 nR (λH Q hQ=>VN 139 [.str Jt] (.ak .dead 34 (qg.map .str)) (by kernel_rfl) H Q hQ) x
theorem Co{p:cH}(hp:p.ok)(hz:∀t∈p.dd,cn t≤100000000000)(n k:Int)(b : -9223372036854775808≤k∧k≤9223372036854775807):bB (af C) 6 [.agg p.cells,.int .i64 n,.int .i64 k] (.aq [au av (cZ p n k).1,.bool (cZ p n k).2]):=by
 refine bB.of j5 (by simp[I.bA,I.bb,cH.bb]) (by simp only[I.bb,I.bA,j_ (cells:=av) (λ_=>rfl),ack]) λQ hQ=>?_;obtain⟨h1,a,c⟩:=K4 hp n;refine VH K6 hp hz b (λm hm hw=>?_) a (λm hm hw=>(h1 m hm hw).2.2.2) (λh aG hl=>?_) hQ
 · obtain⟨_,d,e,_⟩:=h1 m hm hw;exact⟨d,by omega⟩
 ·have:=c (a h) aG hl;omega
theorem VO{p:cH}{n k:Int}{m:bm}{v:Int}{aG:List (Int×Int)}(a:1≤k)(b:(cD p n)[(k-1).toNat]?=some m)(c:ho m.kind=true)(hv:gn (cj p.vars m.pl.var [] m.pl.aB) 1=some v)(hl:eW p.vars (bW 0 p.vars)=some aG) :
  cZ p n k=((dT (cj p.vars m.pl.var [] m.pl.aB)).map (h3 p.vars m.pl aG),true):=by
 rw[sM a b c,hv];dsimp only;rw[hl]
def fA(E:List UInt8)(a:Int)(b:Bool)(w:Int):aw:= .mk E (.mk 1 a false [] 0 []) b w
def p0:cH:=⟨[⟨[115],.mk 3 0 false [fA [97] 1 false 0,fA [98] 4 true 3,fA [99] 4 true 9,fA [100] 1 false 0] 0 []⟩],
  [[.mk 3 1 [] [] 0 (.mk [115] [.mk [99] []]) [.mk 1 5 [] 0 0 (.mk [] []) []] [] [],.mk 10 1 [] [] 0 (.mk [] []) [.mk 4 0 [] 0 0 (.mk [115] [.mk [100] []]) []] [] []]]⟩
def t0:U:= .mk 3 0 false [fA [97] 1 false 0,fA [98] 4 true 3,fA [99] 4 true 9,fA [100] 1 false 0] 0 []
theorem VP:eD t0=([(0,1),(1,2),(3,1)],0):=by
 have h1:(ft t0 0 ⟨[],false⟩)=⟨[(0,1),(1,2),(3,1)],false⟩:=by kernel_rfl
 have a:ef [(0,1),(1,2),(3,1)]=[(0,1),(1,2),(3,1)]:=List.mergeSort_of_pairwise (by decide);have b:(aX t0).2=0:=by kernel_rfl
 unfold eD;rw[ab (λq=>q b),h1];unfold Bk.tidy;rw[a];rfl
theorem AY:cZ p0 0 1=([(65537,2)],true):=by
 have ha:cD p0 0=[⟨3,0,1,.mk [115] [.mk [99] []]⟩,⟨14,0,1,.mk [115] [.mk [100] []]⟩]:=by kernel_rfl
 have hw:eW p0.vars (bW 0 p0.vars)=some [(65536,1),(65537,2),(65539,1)]:=by
  have e:bW 0 p0.vars=[⟨65536,4,0,false,0,0⟩]:=by kernel_rfl
  rw[e,show p0.vars=[⟨[115],t0⟩]from rfl,eW,VP];all_goals rfl
 exact(VO (p:=p0) (n:=0) (k:=1) (m:=⟨3,0,1,.mk [115] [.mk [99] []]⟩) (v:=1) (by decide) (by rw[ha];rfl) (by decide) (by kernel_rfl) hw).trans (by kernel_rfl)
theorem VQ:cZ p0 0 2=([],false):=by kernel_rfl
theorem K7{e:Nat×List I×I}{L:List (Nat×List I×I)}(h:∀H Q,Q e.2.2 H→af C e.1 e.2.1 H Q)(a:gW (af C) (f_ L)):gW (af C) (f_ (e::L)):=by
 obtain⟨b,a0,v0⟩:=e;intro k args v hm H Q hQ;unfold f_ at hm;dsimp only at hm;cases hb:Nat.beq b k with
 |false=>rw[hb]at hm;exact a k args v hm H Q hQ
 | true=>
  rw[hb]at hm;obtain rfl:=Nat.eq_of_beq_eq_true hb;cases hs:I.fW a0 args with
  |false=>rw[hs]at hm;exact a b args v hm H Q hQ
  | true=>rw[hs]at hm;simp only[cond_true,Yb.injEq]at hm;subst hm;obtain rfl:=I.mJ _ _ hs;exact h H Q hQ
theorem K8:p0.ok:=by simp[cH.ok,p0,fA,B.ok,U.ok,U.dh,aw.ok,aw.dh,ay.ok,ay.dh,aN.ok,K.ok,K.dh,ax.ok,ax.dh,jE,mb,maxLen]
def RbNa:List (Nat×List I×I):=[
  (6,[.agg p0.cells,.int .i64 (.ofNat 0),.int .i64 (.ofNat 1)],.aq [.ak .dead 1 [.int .i64 (.ofNat 65537),.int .i64 (.ofNat 2)],.bool true]),
  (6,[.agg p0.cells,.int .i64 (.ofNat 0),.int .i64 (.ofNat 2)],.aq [.ak .dead 0 [],.bool false])]
theorem K9:gW (af C) (f_ RbNa):=K7 (λH Q hQ=>Co K8 (by decide) 0 1 (by decide) H Q (by rw[AY];exact hQ)) (K7 (λH Q hQ=>Co K8 (by decide) 0 2 (by decide) H Q (by rw[VQ];exact hQ)) uw)
end
end Go.Proofs.YteakojhgmhmdkaaGreatDoor.rb
