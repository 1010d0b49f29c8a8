/- A part of the proof (part 7): see the last text. -/
import Derived.Test.YtggbkidckoecfaaGreatDoorRb6
import Derived.Test.YtggbkidckoecfaaGreatDoorRb5
import Derived.Test.YtggbkidckoecfaaGreatDoorRb4
import Derived.SizedLaws
import Derived.OpenShut
import Derived.Test.YtggbkidckoecfaaGreatDoorRb3
import Derived.Test.YtggbkidckoecfaaGreatDoorRb2
import Derived.Test.YtggbkidckoecfaaGreatDoorTie
import Derived.Test.YtggbkidckoecfaaGreatDoorCards
set_option linter.unusedVariables false
set_option linter.unusedSimpArgs false
set_option linter.unusedSectionVars false
open Bool renaming and_false→abi, and_true→aar, eq_iff_iff→YG, false_and→aab, false_eq_true→Yf, false_or→YD, true_and→aaa
open Go.DataW renaming Trod→Zx, trod_int→abl
open Go.IntKind renaming bits→Wv, max→Zz, min→Zy, signed→Wu, wrap→Xv
open Go.Lib renaming TabIs→abn, cells_of_tab→abo, tabData→abm
open Int renaming add_assoc→abh, add_comm→abg, add_zero→aa8, le_refl→aac, toNat_natCast→Xw, zero_add→aa1
open List renaming all_append→ZM, any_cons→Z4, append_assoc→aaO, append_nil→ZO, cons_append→Yi, contains_iff_mem→aaw, drop_eq_getElem_cons→ZH, drop_zero→Zv, flatMap_cons→Zi, getElem?_cons_succ→Zo, getElem?_cons_zero→Zn, getElem?_eq_getElem→Xc, getElem?_eq_some_iff→Wh, getElem?_map→Xb, getElem?_take→Wj, getElem_mem→Xj, length_append→ZG, length_cons→Z9, length_drop→ZQ, length_eq_zero_iff→XJ, length_map→YU, length_nil→Z_, length_set→YH, length_singleton→aap, length_take→Z1, map_append→aau, map_cons→XK, map_take→aa9, mem_append_left→abe, mem_append_right→abd, mem_append→YB, mem_cons_of_mem→YJ, mem_cons_self→YK, mem_cons→YI, mem_map→YX, mem_of_getElem?→Y7, mem_or_eq_of_mem_set→abf, mem_singleton→aaM, nil_append→aaY, not_mem_nil→abp, replicate_succ→Xo, replicate→We, set_append_right→abk, set_cons_zero→abj, take_append_of_le_length→ZI, take_length→Zw, take_of_length_le→ZJ
open Nat renaming add_assoc→WD, add_zero→WW, le_refl→hT, le_succ→W4, le_trans→At, lt_of_lt_of_le→AH, mul_one→aaZ, sub_self→aaK, zero_add→W7, zero_le→WS
open Option renaming some→Wy
open Prod renaming fst→Zk
namespace Rb
open Go
variable{H H0:Z}{i1 i4 js i:Nat}{xs px:I}{st sl pr:List Int}{a:bA}
theorem eb(h:T H i (.row a.cells)):O H 1 false (.ptr i 0)=some (D a.what):=by rw[h.load,bA.be];rfl
theorem Cx(h:T H i (.row a.cells)):O H 1 false (.ptr i 1)=some (af a.n):=by rw[h.load,bA.be];rfl
theorem pT(h:T H i (.row a.cells)):O H 1 false (.ptr i 2)=some (D a.k):=by rw[h.load,bA.be];rfl
theorem KO(h:T H i (.row a.cells)):O H 1 false (.ptr i 3)=some (D a.j):=by rw[h.load,bA.be];rfl
theorem j6(h:T H i (.row a.cells)):O H 10 true (.ptr i 0)=some (.agg a.cells):=by rw[h.load];exact eM a.len
def dS(w:bE)(a:Int)(px:I)(b:Bool):List I:=w.cells++[D a,px,.bool b]
theorem cz(i k o:Nat):M k (.ptr i o)=some (.ptr i (o+k)):=rfl
structure RI(H0 H:Z)(i1 i4 js:Nat)(xs px:I)(st sl pr:List Int):Prop where
 E:Z.Ext H0 H
 l1:H0.n≤i1
 l4:H0.n≤i4
 lj:H0.n≤js
 fy:i1≠i4
 mX:i1≠js
 ma:i4≠js
 r1:∃cs,T H i1 (.row cs)∧cs.length=16
 r4:T H i4 (.row (dS cc 0 px false))
 im:T H js (.row (sl.map (af)))
 st:c2 H 1 xs st.length (st.map (af))
 pr:c2 H 1 px pr.length (pr.map (af))
 ds:∀j,cb xs=some j→H0.n≤j∧j≠i1∧j≠i4∧j≠js∧cb px≠some j
 dp:∀j,cb px=some j→H0.n≤j∧j≠i1∧j≠i4∧j≠js
theorem RI.ext{H0 H H':Z}(h:RI H0 H i1 i4 js xs px st sl pr)(k:Z.Ext H H'):RI H0 H' i1 i4 js xs px st sl pr:=⟨h.E.trans k,h.l1,h.l4,h.lj,h.fy,h.mX,h.ma,by obtain⟨cs,a,b⟩:=h.r1;exact⟨cs,a.ext k,b⟩,h.r4.ext k,h.im.ext k,h.st.ext k,h.pr.ext k,h.ds,h.dp⟩
theorem RI.push(h:RI H0 H i1 i4 js xs px st sl pr)(v:Int)(hl:st.length≤1000000001){K:ad}(f:∀d H',RI H0 H' i1 i4 js d px (st++[v]) sl pr→(∀i o,T H i o→cb xs≠some i→T H' i o)→K d H'):aJ (cX H true 1 8 xs (.av .full 1 [af v])) K:=by
 refine h.st.app (by decide) rfl rfl (by omega) (by omega) λd H' r1 g kp a=>f d H' ?_ (λi o b hi=>kp i o hi b);obtain⟨cs,Y,b1⟩:=h.r1;have k:cb xs≠some i1:=λe=>(h.ds i1 e).2.1 rfl;have l:cb xs≠some i4:=λe=>(h.ds i4 e).2.2.1 rfl;have m:cb xs≠some js:=λe=>(h.ds js e).2.2.2.1 rfl;refine⟨Ext.ca h.E g (λi o hi b=>kp i o (λe=>by have:=(h.ds i e).1;omega) b),h.l1,h.l4,h.lj,h.fy,h.mX,h.ma,⟨cs,kp _ _ k Y,b1⟩,kp _ _ l h.r4,kp _ _ m h.im,?_,h.pr.ca (λj cs c b=>kp j _ (λe=>(h.ds j e).2.2.2.2 c) b),λj c=>?_,h.dp⟩
 ·rw[aau,ZG];exact r1
 · rcases a with a|a
   ·exact h.ds j (by rw[←a];exact c)
   · rw[a]at c;cases c;have n:=h.E.1;have p:=Y.1;have q:=h.r4.1;have r:=h.im.1;exact⟨n,by omega,by omega,by omega,λe=>by have:=h.pr.lt e;omega⟩
theorem RI.cut(r:List Int)(h:RI H0 H i1 i4 js xs px (st++r) sl pr):∃a,c6 1 xs none (some (D (st.length:Nat))) none=some a∧RI H0 H i1 i4 js a px st sl pr:=by obtain⟨a,e,b,c⟩:=h.st.cut (k:=st.length) (by rw[ZG];omega);refine⟨a,e,h.E,h.l1,h.l4,h.lj,h.fy,h.mX,h.ma,h.r1,h.r4,h.im,?_,h.pr,λj d=>h.ds j (by rw[←c];exact d),h.dp⟩;rw[aaZ,aau,ZI (by simp),ZJ (by simp)]at b;exact b
theorem RI.slot(h:RI H0 H i1 i4 js xs px st sl pr){k N:Nat}(hk:k<sl.length)(c:N=sl.length)(v:Int):aU none 1 (.row js 0 N 1) (D k)=some (.ptr js k)∧ax H 1 (.ptr js k) (af v)=some (H.set js (.row ((sl.set k v).map (af))))∧RI H0 (H.set js (.row ((sl.set k v).map (af)))) i1 i4 js xs px st (sl.set k v) pr:=by
 have a:cb xs≠some js:=λe=>(h.ds js e).2.2.2.1 rfl;have b:cb px≠some js:=λe=>(h.dp js e).2.2.2 rfl;obtain⟨cs,Y,b1⟩:=h.r1;refine⟨?_,?_,h.E.set h.lj _,h.l1,h.l4,h.lj,h.fy,h.mX,h.ma,⟨cs,Y.br h.mX _,b1⟩,h.r4.br h.ma _,h.im.set _,h.st.set a _,h.pr.set b _,h.ds,h.dp⟩
 · show(if 0≤(k:Int)∧(k:Int)<(N:Nat)then some (I.ptr js (0+(k:Int).toNat*1))else none)=_;rw[aa ⟨by omega,by omega⟩,Xw,W7,aaZ]
 · rw[h.im.store,aa ⟨rfl,rfl,rfl,by rw[YU];omega⟩];show some (H.set js (.row ((sl.map (af)).set k (af v))))=_;rw[List.map_set]
theorem RI.other(h:RI H0 H i1 i4 js xs px st sl pr)(hi:H0.n≤i)(a:i1≠i)(b:i4≠i)(c:js≠i)(d:cb xs≠some i)(e:cb px≠some i)(o:cN):RI H0 (H.set i o) i1 i4 js xs px st sl pr:=by obtain⟨cs,Y,b1⟩:=h.r1;exact⟨h.E.set hi _,h.l1,h.l4,h.lj,h.fy,h.mX,h.ma,⟨cs,Y.br a _,b1⟩,h.r4.br b _,h.im.br c _,h.st.set d _,h.pr.set e _,h.ds,h.dp⟩
theorem RI.top{v:Int}(h:RI H0 H i1 i4 js xs px (st++[v]) sl pr):∃p,aU none 1 xs (D st.length)=some p∧O H 1 false p=some (af v):=by obtain⟨p,e1,a⟩:=h.st.get (k:=st.length) (v:= af v) (by simp);exact⟨p,e1,a H (Z.Ext.refl _)⟩
structure Cy(N:Nat)(aL:List (Int×Int))(st sl:List Int)(u:Nat)(f:Int)(pr:List Int):Prop where
 vs:∀v∈st,bx v
 vl:∀v∈sl,bx v
 len:st.length≤1000000001
 n:sl.length=N
 u:u≤aL.length
 f1:f≤3000
section
variable{C:Ctx}(aw:cY C)(W:Cl (aj C) S.cr)
include aw W
set_option maxHeartbeats 4000000 in
theorem TW{B:List aE}(a3:l_ B){A:List bA}(c8:A.length≤1000000000000)(be:∀a∈A,bx a.n∧a.x.ok){aL:List (Int×Int)}(c_:aL.length≤1000)(bU:∀x∈aL,bx x.1∧bx x.2){id:Nat}{xa:I}{cg:List I}(hc:T H0 id (.row (aD aE.cells B::xa::cg)))(b3:c2 H0 10 xa A.length (A.flatMap bA.cells)){i1 i4 js N:Nat}{Q:ad} :
  yd B A aL (λpc st sl u f pr=>Cy N aL st sl u f pr→∀(H:Z)(xs px:I),RI H0 H i1 i4 js xs px st sl pr→au (S.er (aj C) (.ptr id 0) (aD b5 aL) (.ptr i1 0) (.ptr i4 0) (.row js 0 N 1) Q) ([D f,xs,D u,P,D pc],H))
   (λt=>∀(H:Z)(px:I),Z.Ext H0 H→c2 H 1 px t.pr.length (t.pr.map (af))→Q (.agg (dS t.want t.fin px t.empty)) H):=by
 have an:∀{H:Z}(k:Nat),Z.Ext H0 H→k=1→O H 1 false (.ptr id (0+k))=some xa:=λk E hk=>by subst hk;rw[(hc.ext E).load];rfl
 have aA:∀{H:Z}{pc:Nat}{a:bA},Z.Ext H0 H→A[pc]?=some a→∃p,aU none 10 xa (D pc)=some p∧O H 10 true p=some (.agg a.cells):=by intro H pc a E q;have aZ:=(Wh.1 q).1;obtain⟨p,e1,R⟩:=(b3.ext E).TP aZ;refine⟨p,e1,?_⟩;rw[R,l6 bA.len,drop_cons q,Zi,ZI (by rw[a.len];exact hT _),ZJ (by rw[a.len];exact hT _)]
 have ao:∀{H:Z},Z.Ext H0 H→bj false xa=some (D A.length):=λE=>(b3.ext E).len;have nx:∀{f:Int}{xs:I}{u:Int}{b:Bool}{pc:Int}{pc':Nat}{H:Z},pc+1=pc'→pc'≤1000000000001→au (S.er (aj C) (.ptr id 0) (aD b5 aL) (.ptr i1 0) (.ptr i4 0) (.row js 0 N 1) Q) ([D f,xs,D u,.bool b,D pc'],H)→U (S.iL (aj C) (au (S.er (aj C) (.ptr id 0) (aD b5 aL) (.ptr i1 0) (.ptr i4 0) (.row js 0 N 1) Q)) Q) [D f,xs,D u,.bool b,D pc] H:=by intro f xs u b pc pc' H a0 hl h;simp only[aB,S.iL,aq,bh,bu,G];rw[a0,bM];exact h
 have bt:∀{H:Z}{w:bE}{fin:Int}{px:I}{pr:List Int},Z.Ext H0 H→H0.n≤i1→H0.n≤i4→i1≠i4→(∃cs,T H i1 (.row cs)∧cs.length=16)→T H i4 (.row (dS w fin px false))→c2 H 1 px pr.length (pr.map (af))→cb px≠some i1 →
   (∀(H:Z)(px:I),Z.Ext H0 H→c2 H 1 px pr.length (pr.map (af))→Q (.agg (dS w fin px false)) H)→Do (O H 16 true (.ptr i4 0)) λx=>Do (ax H 16 (.ptr i1 0) x) λb4=>Do (O b4 16 true (.ptr i1 0)) λy=>Q y b4:=by
  intro H w fin px pr E l1 l4 fy ci r4 b6 ck cl;obtain⟨cs,Y,b1⟩:=ci;obtain⟨bm,a9,bf⟩:=b6.known;have cm:(dS w fin px false).all I.scalar=true:=by unfold dS;rw[ZM];show(w.cells.all I.scalar&&(true&&(px.scalar&&(true&&true))))=true;rw[bf];rfl
  rw[r4.all (n:=16) rfl];simp only[G];rw[Y.put (n:=16) b1 rfl cm];simp only[G];rw[(Y.set _).all (n:=16) rfl];simp only[G];exact cl _ px (E.set l1 _) (b6.set ck _)
 have cn:∀{k:Nat}{g:Int×Int},aL[k]?=some g→∃p b7,aU none 2 (aD b5 aL) (D k)=some p∧aU (some 2) 1 p (J)=some b7∧∀H,O H 1 false b7=some (af g.1):=by intro k g ag;have aZ:=(Wh.1 ag).1;refine⟨_,_,cp aZ,rfl,λH=>?_⟩;show bW (((aL.flatMap b5).drop (k*2)).drop (0*1)) 0 1 false=_;rw[l6 (sz:=2) (λ_=>rfl),drop_cons ag,Zi];rfl
 have bw:∀{k:Nat}{g:Int×Int},aL[k]?=some g→∃p,aU none 2 (aD b5 aL) (D k)=some p∧∀H,O H 2 true p=some (.agg (b5 g)):=by intro k g ag;have aZ:=(Wh.1 ag).1;exact⟨_,cp aZ,λH=>dd (cells:=b5) (λ_=>rfl) (by decide) H ag⟩
 have second:∀{pc u:Nat}{st sl pr:List Int}{f:Int}{a:bA}{idx vs:List Int}{g:Int×Int}{H:Z}{xs px:I},A[pc]?=some a→a.what=8→hA B a.x→(idx.length:Int)=eP a.x.aK 0→vs.length=dr a→(F B a.x idx).bits=true→aL[u]?=some g→Cy N aL (st++idx++vs) sl u f pr→RI H0 H i1 i4 js xs px (st++idx++vs) sl pr →
   (u+1=aL.length→∀(H:Z)(px:I),Z.Ext H0 H→c2 H 1 px pr.length (pr.map (af))→Q (.agg (dS (⟨2,a.site,a.V,F B a.x idx,a.aG,0,hx (F B a.x idx) g.1 (vs.getD 0 0),vs.getD 1 0⟩:bE) 0 px false)) H) →
   (∀g',aL[u+1]?=some g'→Cy N aL st sl (u+2) f pr→∀(H:Z)(aQ:I),RI H0 H i1 i4 js aQ px st sl pr→au (S.er (aj C) (.ptr id 0) (aD b5 aL) (.ptr i1 0) (.ptr i4 0) (.row js 0 N 1) Q) ([D f,aQ,D ((u+2:Nat):Int),P,D ((pc+1:Nat):Int)],H)) →
   au (S.er (aj C) (.ptr id 0) (aD b5 aL) (.ptr i1 0) (.ptr i4 0) (.row js 0 N 1) Q) ([D f,xs,D ((u+1:Nat):Int),bd,D pc],H):=by
  intro pc u st sl pr f a idx vs g H xs px q hw aJ aM aF a1 ag d c co ah;have a2:bx (vs.getD 0 0):=by
   cases bg:vs with
   |nil=>exact ei
   |cons v r=>exact d.vs v (by rw[bg];simp)
  have a6:=mN a3.o a.x idx;have bv:=bU g (Y7 ag);have da:=(Wh.1 ag).1;have bi:cj a true (F B a.x idx) vs=⟨2,a.site,a.V,F B a.x idx,a.aG,0,vs.getD 0 0,vs.getD 1 0⟩:=by
   have hk:ey a true (F B a.x idx)=2:=by unfold ey;rw[ab (λz=>by have:=z.1;omega),aa ⟨hw,.inl rfl⟩]
   unfold cj;rw[hk];have bp:¬(a.what=7∧a.kind≥6):=λz=>by have:=z.1;omega
   simp only[ab bp];rw[ab (show ¬(True∧(F B a.x idx).len<8∧(F B a.x idx).bits=false)from λz=>by rw[a1]at z;cases z.2.2),aa (show(2:Int)>1 by decide),aa (show(2:Int)>1 by decide)]
  have aI:=(Wh.1 q).1;obtain⟨p,e1,R⟩:=aA c.E q;have K:=T.new H (.row a.cells);have ae:=Z.Ext.push H (.row a.cells);have l:=c.ext ae;have hlen:=c.st.len;refine au.step ?_;simp only[S.er,aq,bh,aO,G,cz,an _ c.E rfl,ao c.E,bb,ai];rw[ch];simp only[e1,R,G,aR,aY,aV];rw[bO _ _ _ 10 a.len a.scalar rfl];simp only[G,cz,hlen,W7,eb K,hw,bc,ai];generalize H.push (.row a.cells)=M at *;rw[aN,aN,aN,aN,aN,aN,aN,aN,aN];simp only[j6 K,G];refine lq aw W a3 (.inr (.inl hw)) (be a (Y7 q)).2 aJ (hc.ext l.E) l.st (by have:=d.len;omega) aM aF (λv hv=>d.vs v (abd _ hv)) true λs ac=>?_;simp only[bI,Zn,Zo,G,aR,aY,aV];rw[bO s _ (cj a true (F B a.x idx) vs).cells 13 rfl rfl rfl];have ak:=T.new s (.row (cj a true (F B a.x idx) vs).cells);have aS:=(K.ext ac).push (.row (cj a true (F B a.x idx) vs).cells);have m:=(l.ext ac).ext (Z.Ext.push s (.row (cj a true (F B a.x idx) vs).cells));have a_:∀i o,T M i o→i<s.n:=λi o h=>AH h.1 ac.1;simp only[G,ai];generalize s.push (.row (cj a true (F B a.x idx) vs).cells)=L at *;rw[bi]at ak;obtain⟨db,dc,cq,cr,ct⟩:=cn ag;simp only[dA,G];rw[wrap_i64 (n:=((u+1:Nat):Int)-1) (by omega) (by omega),show((u+1:Nat):Int)-1=(u:Nat) by push_cast;omega];simp only[cq,cr,ct,G,cz,W7];simp only[show(3:Nat)+4=7 from rfl,show(3:Nat)+5=8 from rfl,KL ak,KM ak,show aU (some 2) 1 (.ptr s.n 11) (J)=some (.ptr s.n 11)from rfl,Cv ak,G];refine SQ aw W bv.1 a2 _ _ (by have:=a6.2.2.2.1;omega) (by have:=a6.2.2.2.2;omega) _ _ ?_;simp only[ss ak,G];have b8:=B9 bv.1 (F B a.x idx).bit (F B a.x idx).bn (vs.getD 0 0);have bS:hx (F B a.x idx) g.1 (vs.getD 0 0)=hq (ig g.1 (F B a.x idx).bit (F B a.x idx).bn (vs.getD 0 0)) (fg (8*(F B a.x idx).len)):=by unfold hx;rw[aa a1];congr 2;exact wrap_i64 (by have:=a6.2.1;omega) (by have:=a6.2.2.1;omega)
  generalize ig g.1 (F B a.x idx).bit (F B a.x idx).bn (vs.getD 0 0)=o at *;have cv:M.n≤s.n:=ac.1;have cw:i1<s.n:=by obtain⟨cs,Y,b1⟩:=l.r1;have:=Y.1;omega
  have cx:i4<s.n:=by have:=l.r4.1;omega
  have cy:js<s.n:=by have:=l.im.1;omega
  have de:H.n<s.n:=by have:=K.1;omega
  have mx:cb xs≠some s.n:=λe=>by have:=l.st.lt e;omega
  have mp:cb px≠some s.n:=λe=>by have:=l.pr.lt e;omega
  have b9:H0.n≤s.n:=At l.E.1 cv;have fin:∀(ay:Z),RI H0 ay i1 i4 js xs px (st++idx++vs) sl pr→T ay H.n (.row a.cells)→T ay s.n (.row (⟨2,a.site,a.V,F B a.x idx,a.aG,0,hx (F B a.x idx) g.1 (vs.getD 0 0),vs.getD 1 0⟩:bE).cells)→S.h9 (aj C) (aD b5 aL) (.ptr i1 0) (.ptr i4 0) (.row js 0 N 1) (.ptr H.n 0) (D st.length) (.ptr s.n 0) ([D f,xs,D ((u+1:Nat):Int),bd,D pc],H) (au (S.er (aj C) (.ptr id 0) (aD b5 aL) (.ptr i1 0) (.ptr i4 0) (.row js 0 N 1) Q)) Q [] ay:=by
   intro L m aS ak;simp only[S.h9,aq,bh,bH,G,bc,ai];by_cases bT:u+1=aL.length
   · rw [aa (by rw[bT];simp)];simp only[kG ak,G,cz,W7];obtain⟨bm,a9,bf⟩:=m.pr.known;rw [show ax L 13 (.ptr i4 0) (.agg (⟨2,a.site,a.V,F B a.x idx,a.aG,0,hx (F B a.x idx) g.1 (vs.getD 0 0),vs.getD 1 0⟩:bE).cells)=some (L.set i4 (.row (dS (⟨2,a.site,a.V,F B a.x idx,a.aG,0,hx (F B a.x idx) g.1 (vs.getD 0 0),vs.getD 1 0⟩:bE) 0 px false))) by
       rw[m.r4.store,aa ⟨rfl,rfl,rfl,(by show 0+13≤16;decide)⟩];rfl]
     simp only[G];obtain⟨cs,Y,b1⟩:=m.r1;refine bt (m.E.set m.l4 _) m.l1 m.l4 m.fy ⟨cs,Y.br m.fy _,b1⟩ (m.r4.set _) (m.pr.set (λe=>(m.dp _ e).2.2.1 rfl) _) (λe=>(m.dp _ e).2.1 rfl) ?_;exact co bT
   · obtain ⟨g', bB⟩ : ∃ g', aL[u + 1]? = some g' := ⟨aL[u + 1]'(by omega), Xc _⟩
     have bk:=(Wh.1 bB).1;rw[jo];obtain⟨ap,a7,a8⟩:=bw bB;simp only[a7,a8,G,aR,aY,aV];rw[bO L _ (b5 g') 2 rfl rfl rfl];have aT:=ak.push (.row (b5 g'));have aC:=aS.push (.row (b5 g'));have a4:=m.ext (Z.Ext.push L (.row (b5 g')));simp only[G];generalize L.push (.row (b5 g'))=ay at *;simp only[bu,G,cz,W7,eb aC,hw,bc,bG];rw[wrap_i64 (n:=((u+1:Nat):Int)+1) (by omega) (by omega),show((u+1:Nat):Int)+1=((u+2:Nat):Int) by push_cast;omega,dW];simp only[show(3:Nat)+3=6 from rfl,n1 aT,G];rw[show(⟨2,a.site,a.V,F B a.x idx,a.aG,0,hx (F B a.x idx) g.1 (vs.getD 0 0),vs.getD 1 0⟩:bE).spot.bits=true from a1];simp only[aB,S.lI,S.lH,S.oQ,aq,bh,bG,ai,cV,G];rw[dW,aN];have bo:RI H0 ay i1 i4 js xs px (st++(idx++vs)) sl pr:=by rw[←aaO];exact a4
     obtain⟨aQ,c1,az⟩:=bo.cut (idx++vs);rw[c1];simp only[G,cz,W7,eb aC,hw,bc,ai];rw[aN,aN];exact nx (by push_cast;rfl) (by omega) (ah g' bB ⟨λv hv=>d.vs v (abe _ (abe _ hv)),d.vl,by have:=d.len;simp only[ZG]at this;omega,d.n,bk,d.f1⟩ _ _ az)
  simp only[show(3:Nat)+(0+1)=4 from rfl,show(3:Nat)+1=4 from rfl];have aT:=ak.set (.row ({(⟨2,a.site,a.V,F B a.x idx,a.aG,0,vs.getD 0 0,vs.getD 1 0⟩:bE)with d0:=o}:bE).cells);have aC:T (L.set s.n (.row ({(⟨2,a.site,a.V,F B a.x idx,a.aG,0,vs.getD 0 0,vs.getD 1 0⟩:bE)with d0:=o}:bE).cells)) H.n (.row a.cells):=aS.br (by omega) _;have a4:=m.other b9 (by omega) (by omega) (by omega) mx mp (.row ({(⟨2,a.site,a.V,F B a.x idx,a.aG,0,vs.getD 0 0,vs.getD 1 0⟩:bE)with d0:=o}:bE).cells);generalize L.set s.n (.row ({(⟨2,a.site,a.V,F B a.x idx,a.aG,0,vs.getD 0 0,vs.getD 1 0⟩:bE)with d0:=o}:bE).cells)=ay at *;simp only[KK aT,G,bb,ai,aB];apply aH<;>intro bq
  · have bq:(F B a.x idx).len<8:=by simpa using bq
    obtain⟨cA,cB⟩:=B_ b8 a6.2.1 bq;simp only[Cv aT,G,fD,j0];have bJ:=a6.2.1;rw[wrap_i64 (n:=8*(F B a.x idx).len) (by omega) (by omega),wrap_u64 (n:=8*(F B a.x idx).len) (by omega) (by omega),lN _ _ _ _ (by omega)];simp only[G];rw[show Xv .u64 (1*2^(min (8*(F B a.x idx).len).toNat IntKind.u64.bits))=hr 1 (8*(F B a.x idx).len)from rfl,iN _ _ _ cB];simp only[G,ss aT];refine fin _ (a4.other b9 (by omega) (by omega) (by omega) mx mp _) (aC.br (by omega) _) ?_;rw[bS,←cA];exact aT.set _
  · have bq:¬(F B a.x idx).len<8:=by simpa using bq
    refine fin _ a4 aC ?_;rw[bS,JU b8 (by omega)];exact aT
 refine⟨?_,?_,?_,?_,?_,?_,?_,?_,?_,?_,?_,?_,?_,?_,?_,?_,?_,?_,?_,?_,?_,?_,?_,?_⟩
 · intro pc st sl u f pr a q hw hf aP d H xs px c;have aI:=(Wh.1 q).1;obtain⟨p,e1,R⟩:=aA c.E q;have K:=T.new H (.row a.cells);have ae:=Z.Ext.push H (.row a.cells);have l:=c.ext ae;have hlen:=c.st.len;refine au.step ?_;simp only[S.er,aq,bh,aO,G,cz,an _ c.E rfl,ao c.E,bb,ai];rw[ch];simp only[e1,R,G,aR,aY,aV];rw[bO _ _ _ 10 a.len a.scalar rfl];simp only[G,cz,hlen,W7,eb K,hw,bc,ai];generalize H.push (.row a.cells)=M at *;rw[dW,aa (by simpa using hf)];obtain⟨cs,Y,b1⟩:=l.r1;rw[show ba [J,J,J,J,J,J,P,J,J,J,J,af 0,af 0,J,ar,P] [(15,1,bd)]=some (.agg (dS cc 0 ar true))from rfl];simp only[G];rw[Y.put (n:=16) b1 rfl rfl];simp only[G];rw[(Y.set _).all (n:=16) rfl];simp only[G];exact aP _ _ (l.E.set l.l1 _) (c2.nil _ _)
 · intro pc st sl u f pr a q hw hf ah d H xs px c;have aI:=(Wh.1 q).1;obtain⟨p,e1,R⟩:=aA c.E q;have K:=T.new H (.row a.cells);have ae:=Z.Ext.push H (.row a.cells);have l:=c.ext ae;have hlen:=c.st.len;refine au.step ?_;simp only[S.er,aq,bh,aO,G,cz,an _ c.E rfl,ao c.E,bb,ai];rw[ch];simp only[e1,R,G,aR,aY,aV];rw[bO _ _ _ 10 a.len a.scalar rfl];simp only[G,cz,hlen,W7,eb K,hw,bc,ai];generalize H.push (.row a.cells)=M at *;rw[dW,ab (by simpa using hf)];simp only[dA,G];refine nx (by push_cast;rfl) (by omega) (ah ⟨d.vs,d.vl,d.len,d.n,d.u,?_⟩ _ _ _ l);have:=d.f1;show X (f-1)≤3000;rw[show X (f-1)=f-1 from bM];omega
 · intro pc st sl u f pr a q hw hl ah d H xs px c;have aI:=(Wh.1 q).1;obtain⟨p,e1,R⟩:=aA c.E q;have K:=T.new H (.row a.cells);have ae:=Z.Ext.push H (.row a.cells);have l:=c.ext ae;have hlen:=c.st.len;refine au.step ?_;simp only[S.er,aq,bh,aO,G,cz,an _ c.E rfl,ao c.E,bb,ai];rw[ch];simp only[e1,R,G,aR,aY,aV];rw[bO _ _ _ 10 a.len a.scalar rfl];simp only[G,cz,hlen,W7,eb K,hw,bc,ai];generalize H.push (.row a.cells)=M at *;rw[aN,dW];simp only[Cx K,G];rw[show ∀v:Int,c9 M false 1 1 [af 0] [(0,1,af v)]=some (.av .full 1 [af v],M)from λ_=>rfl];simp only[aV];refine l.push _ d.len λaQ H' bC _=>nx (by push_cast;rfl) (by omega) (ah ⟨?_,d.vl,?_,d.n,d.u,d.f1⟩ _ _ _ bC)
   · intro aW hm;rcases YB.1 hm with hm|hm
     ·exact d.vs aW hm
     ·simp at hm;rw[hm];exact(be a (Y7 q)).1
   ·rw[ZG,aap];have:Mx=1000000000:=rfl;omega
 · intro pc st sl u f pr a k v q hw hk hv hl ah d H xs px c;have aI:=(Wh.1 q).1;obtain⟨p,e1,R⟩:=aA c.E q;have K:=T.new H (.row a.cells);have ae:=Z.Ext.push H (.row a.cells);have l:=c.ext ae;have hlen:=c.st.len;refine au.step ?_;simp only[S.er,aq,bh,aO,G,cz,an _ c.E rfl,ao c.E,bb,ai];rw[ch];simp only[e1,R,G,aR,aY,aV];rw[bO _ _ _ 10 a.len a.scalar rfl];simp only[G,cz,hlen,W7,eb K,hw,bc,ai];generalize H.push (.row a.cells)=M at *;rw[aN,aN,dW];have bK:=(Wh.1 hv).1;have cC:aU none 1 (.row js 0 N 1) (D k)=some (.ptr js k):=by
    show(if 0≤(k:Int)∧(k:Int)<(N:Nat)then some (I.ptr js (0+(k:Int).toNat*1))else none)=_;rw[aa ⟨by omega,by have:=d.n;omega⟩,Xw,W7,aaZ]
   have cD:O M 1 false (.ptr js k)=some (af v):=by rw[l.im.load];unfold bW;rw[aa (by rw[YU];omega),aN,Xb,hv];rfl
   simp only[pT K,hk,cC,cD,G];rw[show ∀v:Int,c9 M false 1 1 [af 0] [(0,1,af v)]=some (.av .full 1 [af v],M)from λ_=>rfl];simp only[aV];refine l.push _ d.len λaQ H' bC _=>nx (by push_cast;rfl) (by omega) (ah ⟨?_,d.vl,?_,d.n,d.u,d.f1⟩ _ _ _ bC)
   · intro aW hm;rcases YB.1 hm with hm|hm
     ·exact d.vs aW hm
     ·simp at hm;rw[hm];exact(d.vl _ (Y7 hv))
   ·rw[ZG,aap];have:Mx=1000000000:=rfl;omega
 · intro pc st sl u f pr a k v q hw hk bK ah d H xs px c;have aI:=(Wh.1 q).1;obtain⟨p,e1,R⟩:=aA c.E q;have K:=T.new H (.row a.cells);have ae:=Z.Ext.push H (.row a.cells);have l:=c.ext ae;have hlen:=c.st.len;refine au.step ?_;simp only[S.er,aq,bh,aO,G,cz,an _ c.E rfl,ao c.E,bb,ai];rw[ch];simp only[e1,R,G,aR,aY,aV];rw[bO _ _ _ 10 a.len a.scalar rfl];simp only[G,cz,hlen,W7,eb K,hw,bc,ai];generalize H.push (.row a.cells)=M at *;rw[aN,aN,aN,dW];obtain⟨tp,t1,t2⟩:=l.top;have aZ:((st++[v]).length:Int)-1=(st.length:Nat):=by rw[ZG,aap];push_cast;omega
   have a5:Xv .i64 (((st++[v]).length:Int)-1)=(st.length:Nat):=by rw[aZ];exact wrap_i64 (by omega) (by have:=d.len;rw[ZG]at this;omega)
   obtain⟨s1,s2,bV⟩:=l.slot bK d.n.symm v;simp only[pT K,hk,dA,a5,t1,t2,s1,s2,G];obtain⟨aQ,c1,az⟩:=bV.cut [v];rw[c1];simp only[G];refine nx (by push_cast;rfl) (by omega) (ah ⟨λaW bl=>d.vs aW (abe _ bl),?_,by have:=d.len;rw[ZG]at this;omega,by rw[YH];exact d.n,d.u,d.f1⟩ _ _ _ az);intro aW bl;rcases abf bl with h|h
   ·exact d.vl aW h
   ·subst h;exact d.vs _ (by simp)
 · intro pc st sl u f pr a x y q hw cE cF ah d H xs px c;have aI:=(Wh.1 q).1;obtain⟨p,e1,R⟩:=aA c.E q;have K:=T.new H (.row a.cells);have ae:=Z.Ext.push H (.row a.cells);have l:=c.ext ae;have hlen:=c.st.len;refine au.step ?_;simp only[S.er,aq,bh,aO,G,cz,an _ c.E rfl,ao c.E,bb,ai];rw[ch];simp only[e1,R,G,aR,aY,aV];rw[bO _ _ _ 10 a.len a.scalar rfl];simp only[G,cz,hlen,W7,eb K,hw,bc,ai];generalize H.push (.row a.cells)=M at *;rw[aN,aN,aN,aN,dW];have bX:(st++[x,y]).length=st.length+2:=by simp
   have hle:=d.len;rw[bX]at hle;have a5:Xv .i64 (((st++[x,y]).length:Int)-1)=((st.length+1:Nat):Int):=by rw[bX,bM];push_cast;omega
   have cG:Xv .i64 (((st++[x,y]).length:Int)-2)=(st.length:Nat):=by rw[bX,bM];push_cast;omega
   obtain⟨dg,cH,d0⟩:=l.st.get (k:=st.length) (v:= af x) (by simp);obtain⟨bY,c1,d1⟩:=l.st.get (k:=st.length+1) (v:= af y) (by simp);have cI:bx y:=d.vs y (by simp);have cJ:bx x:=d.vs x (by simp);simp only[pT K,dA,a5,cG,cH,d0 M (Z.Ext.refl _),c1,d1 M (Z.Ext.refl _),G];refine SR aw W cE cF cI _ _ ?_;obtain⟨aQ,g1,g2⟩:=l.cut [x,y];rw[g1];simp only[G];rw[show ∀v:Int,c9 M false 1 1 [af 0] [(0,1,af v)]=some (.av .full 1 [af v],M)from λ_=>rfl];simp only[aV];refine g2.push _ (by omega) λcK H' bC _=>nx (by push_cast;rfl) (by omega) (ah ⟨?_,d.vl,?_,d.n,d.u,d.f1⟩ _ _ _ bC)
   · intro aW hv;rcases YB.1 hv with hv|hv
     ·exact d.vs aW (abe _ hv)
     ·simp at hv;subst hv;exact Ja cJ
   ·rw[ZG,aap];omega
 · intro pc st sl u f pr a v q hw hv aP d H xs px c;have aI:=(Wh.1 q).1;obtain⟨p,e1,R⟩:=aA c.E q;have K:=T.new H (.row a.cells);have ae:=Z.Ext.push H (.row a.cells);have l:=c.ext ae;have hlen:=c.st.len;refine au.step ?_;simp only[S.er,aq,bh,aO,G,cz,an _ c.E rfl,ao c.E,bb,ai];rw[ch];simp only[e1,R,G,aR,aY,aV];rw[bO _ _ _ 10 a.len a.scalar rfl];simp only[G,cz,hlen,W7,eb K,hw,bc,ai];generalize H.push (.row a.cells)=M at *;rw[aN,aN,aN,aN,aN,dW];obtain⟨tp,t1,t2⟩:=l.top;have aZ:((st++[v]).length:Int)-1=(st.length:Nat):=by rw[ZG,aap];push_cast;omega
   have a5:Xv .i64 (((st++[v]).length:Int)-1)=(st.length:Nat):=by rw[aZ];exact wrap_i64 (by omega) (by have:=d.len;rw[ZG]at this;omega)
   simp only[dA,a5,t1,t2,Cx K,G,eu,ai];rw[aa (by simpa using hv)];obtain⟨bm,a9,bf⟩:=l.pr.known;rw [show ax M 1 (.ptr i4 13) (D 2)=some (M.set i4 (.row (dS cc 2 px false))) by rw[l.r4.store,aa ⟨rfl,rfl,rfl,(by show 13+1≤16;decide)⟩];rfl]
   simp only[G];obtain⟨cs,Y,b1⟩:=l.r1;refine bt (l.E.set l.l4 _) l.l1 l.l4 l.fy ⟨cs,Y.br l.fy _,b1⟩ (l.r4.set _) (l.pr.set (λe=>(l.dp _ e).2.2.1 rfl) _) (λe=>(l.dp _ e).2.1 rfl) ?_;intro H px E a0;exact aP H px E a0
 · intro pc st sl u f pr a v q hw hv ah d H xs px c;have aI:=(Wh.1 q).1;obtain⟨p,e1,R⟩:=aA c.E q;have K:=T.new H (.row a.cells);have ae:=Z.Ext.push H (.row a.cells);have l:=c.ext ae;have hlen:=c.st.len;refine au.step ?_;simp only[S.er,aq,bh,aO,G,cz,an _ c.E rfl,ao c.E,bb,ai];rw[ch];simp only[e1,R,G,aR,aY,aV];rw[bO _ _ _ 10 a.len a.scalar rfl];simp only[G,cz,hlen,W7,eb K,hw,bc,ai];generalize H.push (.row a.cells)=M at *;rw[aN,aN,aN,aN,aN,dW];obtain⟨tp,t1,t2⟩:=l.top;have aZ:((st++[v]).length:Int)-1=(st.length:Nat):=by rw[ZG,aap];push_cast;omega
   have a5:Xv .i64 (((st++[v]).length:Int)-1)=(st.length:Nat):=by rw[aZ];exact wrap_i64 (by omega) (by have:=d.len;rw[ZG]at this;omega)
   simp only[dA,a5,t1,t2,Cx K,G,eu,ai];rw[ab (by simpa using hv)];exact nx (by push_cast;rfl) (by omega) (ah d _ _ _ l)
 · intro pc st sl u f pr a k q hw hk bK ah d H xs px c;have aI:=(Wh.1 q).1;obtain⟨p,e1,R⟩:=aA c.E q;have K:=T.new H (.row a.cells);have ae:=Z.Ext.push H (.row a.cells);have l:=c.ext ae;have hlen:=c.st.len;refine au.step ?_;simp only[S.er,aq,bh,aO,G,cz,an _ c.E rfl,ao c.E,bb,ai];rw[ch];simp only[e1,R,G,aR,aY,aV];rw[bO _ _ _ 10 a.len a.scalar rfl];simp only[G,cz,hlen,W7,eb K,hw,bc,ai];generalize H.push (.row a.cells)=M at *;rw[aN,aN,aN,aN,aN,aN,dW];simp only[pT K,hk,G,dA];rw[wrap_i64 (n:=(k:Int)-1) (by omega) (by omega)];exact nx (by omega) (by omega) (ah d _ _ _ l)
 · intro pc st sl u f pr a k q hw hk bK ah d H xs px c;obtain⟨v,a2⟩:∃v:Int,v=0:=⟨0,rfl⟩
   rw[←a2]at d c;have aI:=(Wh.1 q).1;obtain⟨p,e1,R⟩:=aA c.E q;have K:=T.new H (.row a.cells);have ae:=Z.Ext.push H (.row a.cells);have l:=c.ext ae;have hlen:=c.st.len;refine au.step ?_;simp only[S.er,aq,bh,aO,G,cz,an _ c.E rfl,ao c.E,bb,ai];rw[ch];simp only[e1,R,G,aR,aY,aV];rw[bO _ _ _ 10 a.len a.scalar rfl];simp only[G,cz,hlen,W7,eb K,hw,bc,ai];generalize H.push (.row a.cells)=M at *;rw[aN,aN,aN,aN,aN,aN,aN,dW];obtain⟨tp,t1,t2⟩:=l.top;have aZ:((st++[v]).length:Int)-1=(st.length:Nat):=by rw[ZG,aap];push_cast;omega
   have a5:Xv .i64 (((st++[v]).length:Int)-1)=(st.length:Nat):=by rw[aZ];exact wrap_i64 (by omega) (by have:=d.len;rw[ZG]at this;omega)
   simp only[dA,a5,t1,t2,G,bc,ai];rw[aa (by rw[a2];decide)];simp only[pT K,hk,G,dA,aB,S.tU,aq,bh,a5];obtain⟨aQ,g1,g2⟩:=l.cut [v];rw[g1];simp only[G];rw[wrap_i64 (n:=(k:Int)-1) (by omega) (by omega)];exact nx (by omega) (by omega) (ah ⟨λaW bl=>d.vs aW (abe _ bl),d.vl,by have:=d.len;rw[ZG]at this;omega,d.n,d.u,d.f1⟩ _ _ _ g2)
 · intro pc st sl u f pr a v q hw a2 ah d H xs px c;have aI:=(Wh.1 q).1;obtain⟨p,e1,R⟩:=aA c.E q;have K:=T.new H (.row a.cells);have ae:=Z.Ext.push H (.row a.cells);have l:=c.ext ae;have hlen:=c.st.len;refine au.step ?_;simp only[S.er,aq,bh,aO,G,cz,an _ c.E rfl,ao c.E,bb,ai];rw[ch];simp only[e1,R,G,aR,aY,aV];rw[bO _ _ _ 10 a.len a.scalar rfl];simp only[G,cz,hlen,W7,eb K,hw,bc,ai];generalize H.push (.row a.cells)=M at *;rw[aN,aN,aN,aN,aN,aN,aN,dW];obtain⟨tp,t1,t2⟩:=l.top;have aZ:((st++[v]).length:Int)-1=(st.length:Nat):=by rw[ZG,aap];push_cast;omega
   have a5:Xv .i64 (((st++[v]).length:Int)-1)=(st.length:Nat):=by rw[aZ];exact wrap_i64 (by omega) (by have:=d.len;rw[ZG]at this;omega)
   simp only[dA,a5,t1,t2,G,bc,ai];rw[ab (by simpa using a2)];simp only[dA,aB,S.tU,aq,bh,a5,G];obtain⟨aQ,g1,g2⟩:=l.cut [v];rw[g1];simp only[G];exact nx (by push_cast;rfl) (by omega) (ah ⟨λaW bl=>d.vs aW (abe _ bl),d.vl,by have:=d.len;rw[ZG]at this;omega,d.n,d.u,d.f1⟩ _ _ _ g2)
 · intro pc st sl u f pr a v q hw dh ah d H xs px c;have aI:=(Wh.1 q).1;obtain⟨p,e1,R⟩:=aA c.E q;have K:=T.new H (.row a.cells);have ae:=Z.Ext.push H (.row a.cells);have l:=c.ext ae;have hlen:=c.st.len;refine au.step ?_;simp only[S.er,aq,bh,aO,G,cz,an _ c.E rfl,ao c.E,bb,ai];rw[ch];simp only[e1,R,G,aR,aY,aV];rw[bO _ _ _ 10 a.len a.scalar rfl];simp only[G,cz,hlen,W7,eb K,hw,bc,ai];generalize H.push (.row a.cells)=M at *;rw[aN,aN,aN,aN,aN,aN,aN,aN,dW];obtain⟨tp,t1,t2⟩:=l.top;have aZ:((st++[v]).length:Int)-1=(st.length:Nat):=by rw[ZG,aap];push_cast;omega
   have a5:Xv .i64 (((st++[v]).length:Int)-1)=(st.length:Nat):=by rw[aZ];exact wrap_i64 (by omega) (by have:=d.len;rw[ZG]at this;omega)
   simp only[show O M 1 false (.ptr i4 14)=some px by rw[l.r4.load];rfl,dA,a5,t1,t2,G];rw[show ∀v:Int,c9 M false 1 1 [af 0] [(0,1,af v)]=some (.av .full 1 [af v],M)from λ_=>rfl];simp only[aV];have di:Mx=1000000000:=rfl;refine l.pr.app (by decide) rfl rfl (by omega) (by omega) λbN H' bY cL kp bP=>?_;obtain⟨bm,a9,bf⟩:=bY.known;have cM:cb px≠some i1:=λe=>(l.dp i1 e).2.1 rfl;have cN:cb px≠some i4:=λe=>(l.dp i4 e).2.2.1 rfl;have cO:cb px≠some js:=λe=>(l.dp js e).2.2.2 rfl;have b_:=kp _ _ cN l.r4;rw [show ax H' 1 (.ptr i4 14) bN=some (H'.set i4 (.row (dS cc 0 bN false))) by rw[b_.store,aa ⟨bm,by rw[a9];rfl,by rw[a9];simp[bf],(by show 14+1≤16;decide)⟩,a9];rfl]
   simp only[G];obtain⟨cs,Y,b1⟩:=l.r1;have cP:=l.E.1;have dj:=Y.1;have dk:=l.r4.1;have dl:=l.im.1;have bZ:∀j,cb bN=some j→H0.n≤j∧j≠i1∧j≠i4∧j≠js∧cb xs≠some j:=by
    intro j al;rcases bP with bP|bP
    · rw[bP]at al;obtain⟨w1,w2,w3,bQ⟩:=l.dp j al;exact⟨w1,w2,w3,bQ,λe=>(l.ds j e).2.2.2.2 al⟩
    · rw[bP]at al;cases al;exact⟨cP,by omega,by omega,by omega,λe=>by have:=l.st.lt e;omega⟩
   have bC:RI H0 (H'.set i4 (.row (dS cc 0 bN false))) i1 i4 js xs bN (st++[v]) sl (pr++[v]):=by
    refine⟨(Ext.ca l.E cL (λi o hi b0=>kp i o (λe=>by have:=(l.dp i e).1;omega) b0)).set l.l4 _,l.l1,l.l4,l.lj,l.fy,l.mX,l.ma,⟨cs,(kp _ _ cM Y).br l.fy _,b1⟩,b_.set _,(kp _ _ cO l.im).br (λe=>l.ma e.symm) _,?_,?_,λj al=>?_,λj al=>?_⟩
    ·exact(l.st.ca (λj cs al b0=>kp j _ (λe=>(l.ds j al).2.2.2.2 e) b0)).set (λe=>(l.ds i4 e).2.2.1 rfl) _
    · rw[aau,ZG];exact bY.set (λe=>(bZ i4 e).2.2.1 rfl) _
    · obtain⟨w1,w2,w3,bQ,cQ⟩:=l.ds j al;exact⟨w1,w2,w3,bQ,λe=>(bZ j e).2.2.2.2 al⟩
    · obtain⟨w1,w2,w3,bQ,cQ⟩:=bZ j al;exact⟨w1,w2,w3,bQ⟩
   obtain⟨aQ,g1,g2⟩:=bC.cut [v];rw[g1];simp only[G];have dm:=d.f1;exact nx (by push_cast;rfl) (by omega) (ah ⟨λaW bl=>d.vs aW (abe _ bl),d.vl,by have:=d.len;rw[ZG]at this;omega,d.n,d.u,d.f1⟩ _ _ _ g2)
 · intro pc st sl u f pr a q hw hu aP d H xs px c;have aI:=(Wh.1 q).1;obtain⟨p,e1,R⟩:=aA c.E q;have K:=T.new H (.row a.cells);have ae:=Z.Ext.push H (.row a.cells);have l:=c.ext ae;have hlen:=c.st.len;refine au.step ?_;simp only[S.er,aq,bh,aO,G,cz,an _ c.E rfl,ao c.E,bb,ai];rw[ch];simp only[e1,R,G,aR,aY,aV];rw[bO _ _ _ 10 a.len a.scalar rfl];simp only[G,cz,hlen,W7,eb K,hw,bc,ai];generalize H.push (.row a.cells)=M at *;rw[aN,aN,aN,aN,aN,aN,aN,aN,aN];simp only[j6 K,G];refine KN aw W hw l.st false λs ac=>?_;simp only[bI,Zn,Zo,G,aR,aY,aV];rw[bO s _ (⟨4,a.site,a.V,bz,a.aG,0,0,0⟩:bE).cells 13 rfl rfl rfl];have ak:=T.new s (.row (⟨4,a.site,a.V,bz,a.aG,0,0,0⟩:bE).cells);have aS:=(K.ext ac).push (.row (⟨4,a.site,a.V,bz,a.aG,0,0,0⟩:bE).cells);have m:=(l.ext ac).ext (Z.Ext.push s (.row (⟨4,a.site,a.V,bz,a.aG,0,0,0⟩:bE).cells));have a_:∀i o,T M i o→i<s.n:=λi o h=>AH h.1 ac.1;simp only[G,ai];generalize s.push (.row (⟨4,a.site,a.V,bz,a.aG,0,0,0⟩:bE).cells)=L at *;rw[aN];simp only[aB,S.h9,aq,bh,bH,G,bc,ai];rw[aa (by simp[hu])];simp only[kG ak,G,cz,W7];obtain⟨bm,a9,bf⟩:=m.pr.known;rw [show ax L 13 (.ptr i4 0) (.agg (⟨4,a.site,a.V,bz,a.aG,0,0,0⟩:bE).cells)=some (L.set i4 (.row (dS (⟨4,a.site,a.V,bz,a.aG,0,0,0⟩:bE) 0 px false))) by
     rw[m.r4.store,aa ⟨rfl,rfl,rfl,(by show 0+13≤16;decide)⟩];rfl]
   simp only[G];obtain⟨cs,Y,b1⟩:=m.r1;refine bt (m.E.set m.l4 _) m.l1 m.l4 m.fy ⟨cs,Y.br m.fy _,b1⟩ (m.r4.set _) (m.pr.set (λe=>(m.dp _ e).2.2.1 rfl) _) (λe=>(m.dp _ e).2.1 rfl) ?_;intro H px E a0;exact aP H px E a0
 · intro pc st sl u f pr a g q hw ag ah d H xs px c;have aI:=(Wh.1 q).1;obtain⟨p,e1,R⟩:=aA c.E q;have K:=T.new H (.row a.cells);have ae:=Z.Ext.push H (.row a.cells);have l:=c.ext ae;have hlen:=c.st.len;refine au.step ?_;simp only[S.er,aq,bh,aO,G,cz,an _ c.E rfl,ao c.E,bb,ai];rw[ch];simp only[e1,R,G,aR,aY,aV];rw[bO _ _ _ 10 a.len a.scalar rfl];simp only[G,cz,hlen,W7,eb K,hw,bc,ai];generalize H.push (.row a.cells)=M at *;rw[aN,aN,aN,aN,aN,aN,aN,aN,aN];simp only[j6 K,G];refine KN aw W hw l.st false λs ac=>?_;simp only[bI,Zn,Zo,G,aR,aY,aV];rw[bO s _ (⟨4,a.site,a.V,bz,a.aG,0,0,0⟩:bE).cells 13 rfl rfl rfl];have ak:=T.new s (.row (⟨4,a.site,a.V,bz,a.aG,0,0,0⟩:bE).cells);have aS:=(K.ext ac).push (.row (⟨4,a.site,a.V,bz,a.aG,0,0,0⟩:bE).cells);have m:=(l.ext ac).ext (Z.Ext.push s (.row (⟨4,a.site,a.V,bz,a.aG,0,0,0⟩:bE).cells));have a_:∀i o,T M i o→i<s.n:=λi o h=>AH h.1 ac.1;simp only[G,ai];generalize s.push (.row (⟨4,a.site,a.V,bz,a.aG,0,0,0⟩:bE).cells)=L at *;rw[aN];simp only[aB,S.h9,aq,bh,bH,G,bc,ai];have bk:=(Wh.1 ag).1;rw[jo];obtain⟨ap,a7,a8⟩:=bw ag;simp only[a7,a8,G,aR,aY,aV];rw[bO L _ (b5 g) 2 rfl rfl rfl];have g9:=T.new L (.row (b5 g));have aT:=ak.push (.row (b5 g));have aC:=aS.push (.row (b5 g));have a4:=m.ext (Z.Ext.push L (.row (b5 g)));have bL:∀j,cb xs=some j→j≠L.n:=λj al=>by have:=m.st.lt al;omega
   simp only[G];generalize L.push (.row (b5 g))=ay at *;simp only[bu,G,cz,W7,eb aC,hw,bc,bG];rw[wrap_i64 (n:=(u:Int)+1) (by omega) (by omega),show(u:Int)+1=((u+1:Nat):Int) by simp,aN];simp only[aB,S.lI,S.lH,S.oQ,aq,bh,bG,ai,cV,G];rw[aN,aN];have bo:RI H0 ay i1 i4 js xs px (st++[]) sl pr:=by rw[ZO];exact a4
   obtain⟨aQ,c1,az⟩:=bo.cut [];rw[c1];simp only[G,cz,W7,eb aC,hw,bc,ai];rw[aN,aN];exact nx (by push_cast;rfl) (by omega) (ah ⟨d.vs,d.vl,d.len,d.n,bk,d.f1⟩ _ _ _ az)
 · intro pc st sl u f pr a idx vs q hw cR cS aJ aM am hu aP d H xs px c;have aF:vs.length=dr a:=by
    have bJ:¬a.what=8:=by rw[hw];decide
    unfold dr;rw[ab bJ,aa hw];unfold ft at am;rw[bF]at am;by_cases bR:a.kind=4∨a.kind=5
    · rw[aa bR]at am;rw[bF,bF];dsimp only at am;omega
    · rw [ab bR]at am;by_cases bs:a.kind=6∨a.kind=7
      · rw[aa bs]at am;rw[aa bs];dsimp only at am;omega
      · rw[ab bs,df]at am;rw[ab bs,df];dsimp only at am;omega
   have bi:cj a false (F B a.x idx) vs=⟨if a.kind≥6 then 3 else 1,a.site,a.V,F B a.x idx,a.aG,if a.kind≥6 then a.kind else 0,vs.getD 0 0,vs.getD 1 0⟩:=by
    unfold cj;have hk:ey a false (F B a.x idx)=if a.kind≥6 then 3 else 1:=by
     unfold ey;by_cases aX:a.kind≥6
     ·rw[aa ⟨hw,aX⟩,aa aX]
     ·rw[ab (λz=>aX z.2),ab (λz=>by have:=z.1;omega),ab aX]
    by_cases aX:a.kind≥6
    · rw[hk,aa aX];simp only[hw,aX,true_and,aY];rw[bF,dW,dW]
    · rw [hk,ab aX];have a2:vs=[]:=by
       refine XJ.1 ?_;rw[aF];unfold dr;rw[bF,aa hw,bF,bF]
      simp only[hw,aX,true_and,cu,a2];rw[bF];rfl
   have aI:=(Wh.1 q).1;obtain⟨p,e1,R⟩:=aA c.E q;have K:=T.new H (.row a.cells);have ae:=Z.Ext.push H (.row a.cells);have l:=c.ext ae;have hlen:=c.st.len;refine au.step ?_;simp only[S.er,aq,bh,aO,G,cz,an _ c.E rfl,ao c.E,bb,ai];rw[ch];simp only[e1,R,G,aR,aY,aV];rw[bO _ _ _ 10 a.len a.scalar rfl];simp only[G,cz,hlen,W7,eb K,hw,bc,ai];generalize H.push (.row a.cells)=M at *;rw[aN,aN,aN,aN,aN,aN,aN,aN,aN];simp only[j6 K,G];refine lq aw W a3 (.inl hw) (be a (Y7 q)).2 aJ (hc.ext l.E) l.st (by have:=d.len;omega) aM aF (λv hv=>d.vs v (abd _ hv)) false λs ac=>?_;simp only[bI,Zn,Zo,G,aR,aY,aV];rw[bO s _ (cj a false (F B a.x idx) vs).cells 13 rfl rfl rfl];have ak:=T.new s (.row (cj a false (F B a.x idx) vs).cells);have aS:=(K.ext ac).push (.row (cj a false (F B a.x idx) vs).cells);have m:=(l.ext ac).ext (Z.Ext.push s (.row (cj a false (F B a.x idx) vs).cells));have a_:∀i o,T M i o→i<s.n:=λi o h=>AH h.1 ac.1;simp only[G,ai];generalize s.push (.row (cj a false (F B a.x idx) vs).cells)=L at *;rw[aN];rw[←bi]at aP;simp only[aB,S.h9,aq,bh,bH,G,bc,ai];rw[aa (by simp[hu])];simp only[kG ak,G,cz,W7];obtain⟨bm,a9,bf⟩:=m.pr.known;rw [show ax L 13 (.ptr i4 0) (.agg (cj a false (F B a.x idx) vs).cells)=some (L.set i4 (.row (dS (cj a false (F B a.x idx) vs) 0 px false))) by rw[m.r4.store,aa ⟨rfl,rfl,rfl,(by show 0+13≤16;decide)⟩];rfl]
   simp only[G];obtain⟨cs,Y,b1⟩:=m.r1;refine bt (m.E.set m.l4 _) m.l1 m.l4 m.fy ⟨cs,Y.br m.fy _,b1⟩ (m.r4.set _) (m.pr.set (λe=>(m.dp _ e).2.2.1 rfl) _) (λe=>(m.dp _ e).2.1 rfl) ?_;intro H px E a0;exact aP H px E a0
 · intro pc st sl u f pr a idx vs g q hw cR cS aJ aM am ag hl ah d H xs px c;have aF:vs.length=dr a:=by
    have bJ:¬a.what=8:=by rw[hw];decide
    unfold dr;rw[ab bJ,aa hw];unfold ft at am;rw[bF]at am;by_cases bR:a.kind=4∨a.kind=5
    · rw[aa bR]at am;rw[bF,bF];dsimp only at am;omega
    · rw [ab bR]at am;by_cases bs:a.kind=6∨a.kind=7
      · rw[aa bs]at am;rw[aa bs];dsimp only at am;omega
      · rw[ab bs,df]at am;rw[ab bs,df];dsimp only at am;omega
   have bi:cj a false (F B a.x idx) vs=⟨if a.kind≥6 then 3 else 1,a.site,a.V,F B a.x idx,a.aG,if a.kind≥6 then a.kind else 0,vs.getD 0 0,vs.getD 1 0⟩:=by
    unfold cj;have hk:ey a false (F B a.x idx)=if a.kind≥6 then 3 else 1:=by
     unfold ey;by_cases aX:a.kind≥6
     ·rw[aa ⟨hw,aX⟩,aa aX]
     ·rw[ab (λz=>aX z.2),ab (λz=>by have:=z.1;omega),ab aX]
    by_cases aX:a.kind≥6
    · rw[hk,aa aX];simp only[hw,aX,true_and,aY];rw[bF,dW,dW]
    · rw [hk,ab aX];have a2:vs=[]:=by
       refine XJ.1 ?_;rw[aF];unfold dr;rw[bF,aa hw,bF,bF]
      simp only[hw,aX,true_and,cu,a2];rw[bF];rfl
   have aI:=(Wh.1 q).1;obtain⟨p,e1,R⟩:=aA c.E q;have K:=T.new H (.row a.cells);have ae:=Z.Ext.push H (.row a.cells);have l:=c.ext ae;have hlen:=c.st.len;refine au.step ?_;simp only[S.er,aq,bh,aO,G,cz,an _ c.E rfl,ao c.E,bb,ai];rw[ch];simp only[e1,R,G,aR,aY,aV];rw[bO _ _ _ 10 a.len a.scalar rfl];simp only[G,cz,hlen,W7,eb K,hw,bc,ai];generalize H.push (.row a.cells)=M at *;rw[aN,aN,aN,aN,aN,aN,aN,aN,aN];simp only[j6 K,G];refine lq aw W a3 (.inl hw) (be a (Y7 q)).2 aJ (hc.ext l.E) l.st (by have:=d.len;omega) aM aF (λv hv=>d.vs v (abd _ hv)) false λs ac=>?_;simp only[bI,Zn,Zo,G,aR,aY,aV];rw[bO s _ (cj a false (F B a.x idx) vs).cells 13 rfl rfl rfl];have ak:=T.new s (.row (cj a false (F B a.x idx) vs).cells);have aS:=(K.ext ac).push (.row (cj a false (F B a.x idx) vs).cells);have m:=(l.ext ac).ext (Z.Ext.push s (.row (cj a false (F B a.x idx) vs).cells));have a_:∀i o,T M i o→i<s.n:=λi o h=>AH h.1 ac.1;simp only[G,ai];generalize s.push (.row (cj a false (F B a.x idx) vs).cells)=L at *;rw[aN];simp only[aB,S.h9,aq,bh,bH,G,bc,ai];have bk:=(Wh.1 ag).1;rw[jo];obtain⟨ap,a7,a8⟩:=bw ag;simp only[a7,a8,G,aR,aY,aV];rw[bO L _ (b5 g) 2 rfl rfl rfl];have g9:=T.new L (.row (b5 g));have aT:=ak.push (.row (b5 g));have aC:=aS.push (.row (b5 g));have a4:=m.ext (Z.Ext.push L (.row (b5 g)));have bL:∀j,cb xs=some j→j≠L.n:=λj al=>by have:=m.st.lt al;omega
   simp only[G];generalize L.push (.row (b5 g))=ay at *;simp only[bu,G,cz,W7,eb aC,hw,bc,bG];rw[wrap_i64 (n:=(u:Int)+1) (by omega) (by omega),show(u:Int)+1=((u+1:Nat):Int) by simp,aN];simp only[aB,S.lI,S.lH,S.oQ,aq,bh,bG,ai,cV,G];rw[aN,aN];have bo:RI H0 ay i1 i4 js xs px (st++(idx++vs)) sl pr:=by rw[←aaO];exact a4
   obtain⟨aQ,c1,az⟩:=bo.cut (idx++vs);rw[c1];simp only[G,cz,W7,eb aC,hw,bc,ai];rw[dW];simp only[show(3:Nat)+3=6 from rfl,n1 aT,G,ai];have bv:=bU g (Y7 ag);have cT:cb aQ=cb xs:=by obtain⟨dn,e,_,h⟩:=bo.st.cut (k:=st.length) (by rw[ZG];omega);rw[c1]at e;cases e;exact h
   have cU:∀j,cb aQ=some j→j≠L.n:=λj al=>bL j (by rw[←cT];exact al);have fin:∀(v:Int)(bD:Z),bx v→RI H0 bD i1 i4 js aQ px st sl pr→T bD L.n (.row [af v,af g.2])→v=(if(F B a.x idx).bits=true then hQ g.1 (F B a.x idx).bit (F B a.x idx).bn else g.1)→S.tV (aj C) (.ptr L.n 0) (D ((u+1:Nat):Int)) aQ ([D f,xs,D u,P,D pc],H) (au (S.er (aj C) (.ptr id 0) (aD b5 aL) (.ptr i1 0) (.ptr i4 0) (.row js 0 N 1) Q)) [D pc] Q [] bD:=by
    intro v bD hv cW g10 he;unfold S.tV;simp only[show aU (some 2) 1 (.ptr L.n 0) (J)=some (.ptr L.n 0)from rfl,show O bD 1 false (.ptr L.n 0)=some (af v) by rw[g10.load];rfl,G,aq,bh];rw[show ∀v:Int,c9 bD false 1 1 [af 0] [(0,1,af v)]=some (.av .full 1 [af v],bD)from λ_=>rfl];simp only[aV];refine cW.push _ (by have:Mx=1000000000:=rfl;omega) λcK H' cd _=>nx (pc':=pc+1) (by push_cast;rfl) (by omega) ?_;rw[he]at cd;refine ah ⟨?_,d.vl,?_,d.n,bk,d.f1⟩ _ _ _ cd
    · intro aW hm;rcases YB.1 hm with hm|hm
      ·exact d.vs aW (abe _ (abe _ hm))
      ·simp only[aaM]at hm;rw[hm,←he];exact hv
    ·rw[ZG,aap];have:Mx=1000000000:=rfl;omega
   have ce:(cj a false (F B a.x idx) vs).spot=F B a.x idx:=rfl;rw[ce];apply aH<;>intro cf
   · simp only[show aU (some 2) 1 (.ptr L.n 0) (J)=some (.ptr L.n 0)from rfl,show O ay 1 false (.ptr L.n 0)=some (af g.1) by rw[g9.load];rfl,show(3:Nat)+4=7 from rfl,show(3:Nat)+5=8 from rfl,KL aT,KM aT,G];rw[ce];refine SP aw W bv.1 _ _ _ _ ?_;rw [show ax ay 1 (.ptr L.n 0) (af (hQ g.1 (F B a.x idx).bit (F B a.x idx).bn))=some (ay.set L.n (.row [af (hQ g.1 (F B a.x idx).bit (F B a.x idx).bn),af g.2])) by
       rw[g9.store,aa ⟨rfl,rfl,rfl,(by show 0+1≤2;decide)⟩];rfl]
     simp only[G];have bJ:H0.n≤L.n:=m.E.1;obtain⟨cs,Y,b1⟩:=m.r1;obtain⟨cX,cY,c0⟩:=az.r1;have cw:=Y.1;have cx:=m.r4.1;have cy:=m.im.1;refine fin _ _ (r3 _ _ _) ⟨az.E.set bJ _,az.l1,az.l4,az.lj,az.fy,az.mX,az.ma,⟨cX,cY.br (by omega) _,c0⟩,az.r4.br (by omega) _,az.im.br (by omega) _,az.st.set (λe=>cU _ e rfl) _,az.pr.set (λe=>by have:=m.pr.lt e;omega) _,az.ds,az.dp⟩ (g9.set _) ?_;rw[aa cf]
   ·exact fin g.1 ay bv.1 az g9 (by rw[ab cf])
 · intro pc st sl u f pr a idx vs q hw aJ aM am a1 hu aP d H xs px c;have aF:vs.length=dr a:=by
    unfold dr;rw[aa hw];exact am
   have a2:bx (vs.getD 0 0):=by
    cases bg:vs with
    |nil=>exact ei
    |cons v r=>exact d.vs v (by rw[bg];simp)
   have a6:=mN a3.o a.x idx;have bi:cj a false (F B a.x idx) vs=⟨2,a.site,a.V,F B a.x idx,a.aG,0,hx (F B a.x idx) 0 (vs.getD 0 0),vs.getD 1 0⟩:=by
    have hk:ey a false (F B a.x idx)=2:=by unfold ey;rw[ab (λz=>by have:=z.1;omega),aa ⟨hw,.inr a1⟩]
    unfold cj;rw[hk];have bp:¬(a.what=7∧a.kind≥6):=λz=>by have:=z.1;omega
    simp only[ab bp];rw[aa (show(2:Int)>1 by decide),aa (show(2:Int)>1 by decide)];have bS:hx (F B a.x idx) 0 (vs.getD 0 0)=hq (vs.getD 0 0) (fg (8*(F B a.x idx).len)):=by unfold hx;rw[ab (by rw[a1];decide)];congr 2;exact wrap_i64 (by have:=a6.2.1;omega) (by have:=a6.2.2.1;omega)
    rw[bS];by_cases bq:(F B a.x idx).len<8
    ·rw[aa ⟨trivial,bq,a1⟩,(B_ a2 a6.2.1 bq).1]
    ·rw[ab (λz=>bq z.2.1),JU a2 (by omega)]
   have aI:=(Wh.1 q).1;obtain⟨p,e1,R⟩:=aA c.E q;have K:=T.new H (.row a.cells);have ae:=Z.Ext.push H (.row a.cells);have l:=c.ext ae;have hlen:=c.st.len;refine au.step ?_;simp only[S.er,aq,bh,aO,G,cz,an _ c.E rfl,ao c.E,bb,ai];rw[ch];simp only[e1,R,G,aR,aY,aV];rw[bO _ _ _ 10 a.len a.scalar rfl];simp only[G,cz,hlen,W7,eb K,hw,bc,ai];generalize H.push (.row a.cells)=M at *;rw[aN,aN,aN,aN,aN,aN,aN,aN,aN];simp only[j6 K,G];refine lq aw W a3 (.inr (.inl hw)) (be a (Y7 q)).2 aJ (hc.ext l.E) l.st (by have:=d.len;omega) aM aF (λv hv=>d.vs v (abd _ hv)) false λs ac=>?_;simp only[bI,Zn,Zo,G,aR,aY,aV];rw[bO s _ (cj a false (F B a.x idx) vs).cells 13 rfl rfl rfl];have ak:=T.new s (.row (cj a false (F B a.x idx) vs).cells);have aS:=(K.ext ac).push (.row (cj a false (F B a.x idx) vs).cells);have m:=(l.ext ac).ext (Z.Ext.push s (.row (cj a false (F B a.x idx) vs).cells));have a_:∀i o,T M i o→i<s.n:=λi o h=>AH h.1 ac.1;simp only[G,ai];generalize s.push (.row (cj a false (F B a.x idx) vs).cells)=L at *;rw[aN];rw[←bi]at aP;simp only[aB,S.h9,aq,bh,bH,G,bc,ai];rw[aa (by simp[hu])];simp only[kG ak,G,cz,W7];obtain⟨bm,a9,bf⟩:=m.pr.known;rw [show ax L 13 (.ptr i4 0) (.agg (cj a false (F B a.x idx) vs).cells)=some (L.set i4 (.row (dS (cj a false (F B a.x idx) vs) 0 px false))) by rw[m.r4.store,aa ⟨rfl,rfl,rfl,(by show 0+13≤16;decide)⟩];rfl]
   simp only[G];obtain⟨cs,Y,b1⟩:=m.r1;refine bt (m.E.set m.l4 _) m.l1 m.l4 m.fy ⟨cs,Y.br m.fy _,b1⟩ (m.r4.set _) (m.pr.set (λe=>(m.dp _ e).2.2.1 rfl) _) (λe=>(m.dp _ e).2.1 rfl) ?_;intro H px E a0;exact aP H px E a0
 · intro pc st sl u f pr a idx vs g q hw aJ aM am a1 ag ah d H xs px c;have aF:vs.length=dr a:=by
    unfold dr;rw[aa hw];exact am
   have a2:bx (vs.getD 0 0):=by
    cases bg:vs with
    |nil=>exact ei
    |cons v r=>exact d.vs v (by rw[bg];simp)
   have a6:=mN a3.o a.x idx;have aI:=(Wh.1 q).1;obtain⟨p,e1,R⟩:=aA c.E q;have K:=T.new H (.row a.cells);have ae:=Z.Ext.push H (.row a.cells);have l:=c.ext ae;have hlen:=c.st.len;refine au.step ?_;simp only[S.er,aq,bh,aO,G,cz,an _ c.E rfl,ao c.E,bb,ai];rw[ch];simp only[e1,R,G,aR,aY,aV];rw[bO _ _ _ 10 a.len a.scalar rfl];simp only[G,cz,hlen,W7,eb K,hw,bc,ai];generalize H.push (.row a.cells)=M at *;rw[aN,aN,aN,aN,aN,aN,aN,aN,aN];simp only[j6 K,G];refine lq aw W a3 (.inr (.inl hw)) (be a (Y7 q)).2 aJ (hc.ext l.E) l.st (by have:=d.len;omega) aM aF (λv hv=>d.vs v (abd _ hv)) false λs ac=>?_;simp only[bI,Zn,Zo,G,aR,aY,aV];rw[bO s _ (cj a false (F B a.x idx) vs).cells 13 rfl rfl rfl];have ak:=T.new s (.row (cj a false (F B a.x idx) vs).cells);have aS:=(K.ext ac).push (.row (cj a false (F B a.x idx) vs).cells);have m:=(l.ext ac).ext (Z.Ext.push s (.row (cj a false (F B a.x idx) vs).cells));have a_:∀i o,T M i o→i<s.n:=λi o h=>AH h.1 ac.1;simp only[G,ai];generalize s.push (.row (cj a false (F B a.x idx) vs).cells)=L at *;rw[aN];simp only[aB,S.h9,aq,bh,bH,G,bc,ai];have bk:=(Wh.1 ag).1;rw[jo];obtain⟨ap,a7,a8⟩:=bw ag;simp only[a7,a8,G,aR,aY,aV];rw[bO L _ (b5 g) 2 rfl rfl rfl];have g9:=T.new L (.row (b5 g));have aT:=ak.push (.row (b5 g));have aC:=aS.push (.row (b5 g));have a4:=m.ext (Z.Ext.push L (.row (b5 g)));have bL:∀j,cb xs=some j→j≠L.n:=λj al=>by have:=m.st.lt al;omega
   simp only[G];generalize L.push (.row (b5 g))=ay at *;simp only[bu,G,cz,W7,eb aC,hw,bc,bG];rw[wrap_i64 (n:=(u:Int)+1) (by omega) (by omega),show(u:Int)+1=((u+1:Nat):Int) by simp,dW];simp only[show(3:Nat)+3=6 from rfl,n1 aT,G];rw[show(cj a false (F B a.x idx) vs).spot.bits=false from a1];simp only[aB,S.lI,S.lH,S.oQ,aq,bh,bG,ai,cV,G];rw[aN,aN];have bo:RI H0 ay i1 i4 js xs px (st++(idx++vs)) sl pr:=by rw[←aaO];exact a4
   obtain⟨aQ,c1,az⟩:=bo.cut (idx++vs);rw[c1];simp only[G,cz,W7,eb aC,hw,bc,ai];rw[aN,aN];exact nx (by push_cast;rfl) (by omega) (ah ⟨λv hv=>d.vs v (abe _ (abe _ hv)),d.vl,by have:=d.len;simp only[ZG]at this;omega,d.n,bk,d.f1⟩ _ _ _ az)
 · intro pc st sl u f pr a idx vs q hw aJ aM am a1 hu aP d H xs px c;have aF:vs.length=dr a:=by
    unfold dr;rw[aa hw];exact am
   have a2:bx (vs.getD 0 0):=by
    cases bg:vs with
    |nil=>exact ei
    |cons v r=>exact d.vs v (by rw[bg];simp)
   have a6:=mN a3.o a.x idx;have bi:cj a false (F B a.x idx) vs=⟨1,a.site,a.V,F B a.x idx,a.aG,0,0,0⟩:=by
    have hk:ey a false (F B a.x idx)=1:=by unfold ey;rw[ab (λz=>by have:=z.1;omega),ab (λz=>by rcases z.2 with z|z;cases z;rw[a1]at z;cases z)]
    unfold cj;rw[hk];have bp:¬(a.what=7∧a.kind≥6):=λz=>by have:=z.1;omega
    simp only[ab bp];rw[ab (show ¬((1:Int)=2∧(F B a.x idx).len<8∧(F B a.x idx).bits=false)from λz=>by have:=z.1;omega),ab (show ¬(1:Int)>1 by decide),ab (show ¬(1:Int)>1 by decide)]
   have aI:=(Wh.1 q).1;obtain⟨p,e1,R⟩:=aA c.E q;have K:=T.new H (.row a.cells);have ae:=Z.Ext.push H (.row a.cells);have l:=c.ext ae;have hlen:=c.st.len;refine au.step ?_;simp only[S.er,aq,bh,aO,G,cz,an _ c.E rfl,ao c.E,bb,ai];rw[ch];simp only[e1,R,G,aR,aY,aV];rw[bO _ _ _ 10 a.len a.scalar rfl];simp only[G,cz,hlen,W7,eb K,hw,bc,ai];generalize H.push (.row a.cells)=M at *;rw[aN,aN,aN,aN,aN,aN,aN,aN,aN];simp only[j6 K,G];refine lq aw W a3 (.inr (.inl hw)) (be a (Y7 q)).2 aJ (hc.ext l.E) l.st (by have:=d.len;omega) aM aF (λv hv=>d.vs v (abd _ hv)) false λs ac=>?_;simp only[bI,Zn,Zo,G,aR,aY,aV];rw[bO s _ (cj a false (F B a.x idx) vs).cells 13 rfl rfl rfl];have ak:=T.new s (.row (cj a false (F B a.x idx) vs).cells);have aS:=(K.ext ac).push (.row (cj a false (F B a.x idx) vs).cells);have m:=(l.ext ac).ext (Z.Ext.push s (.row (cj a false (F B a.x idx) vs).cells));have a_:∀i o,T M i o→i<s.n:=λi o h=>AH h.1 ac.1;simp only[G,ai];generalize s.push (.row (cj a false (F B a.x idx) vs).cells)=L at *;rw[aN];rw[←bi]at aP;simp only[aB,S.h9,aq,bh,bH,G,bc,ai];rw[aa (by simp[hu])];simp only[kG ak,G,cz,W7];obtain⟨bm,a9,bf⟩:=m.pr.known;rw [show ax L 13 (.ptr i4 0) (.agg (cj a false (F B a.x idx) vs).cells)=some (L.set i4 (.row (dS (cj a false (F B a.x idx) vs) 0 px false))) by rw[m.r4.store,aa ⟨rfl,rfl,rfl,(by show 0+13≤16;decide)⟩];rfl]
   simp only[G];obtain⟨cs,Y,b1⟩:=m.r1;refine bt (m.E.set m.l4 _) m.l1 m.l4 m.fy ⟨cs,Y.br m.fy _,b1⟩ (m.r4.set _) (m.pr.set (λe=>(m.dp _ e).2.2.1 rfl) _) (λe=>(m.dp _ e).2.1 rfl) ?_;intro H px E a0;exact aP H px E a0
 · intro pc st sl u f pr a idx vs g q hw aJ aM am a1 ag bT aP d H xs px c;have aF:vs.length=dr a:=by
    unfold dr;rw[aa hw];exact am
   have a2:bx (vs.getD 0 0):=by
    cases bg:vs with
    |nil=>exact ei
    |cons v r=>exact d.vs v (by rw[bg];simp)
   have a6:=mN a3.o a.x idx;have aI:=(Wh.1 q).1;obtain⟨p,e1,R⟩:=aA c.E q;have K:=T.new H (.row a.cells);have ae:=Z.Ext.push H (.row a.cells);have l:=c.ext ae;have hlen:=c.st.len;refine au.step ?_;simp only[S.er,aq,bh,aO,G,cz,an _ c.E rfl,ao c.E,bb,ai];rw[ch];simp only[e1,R,G,aR,aY,aV];rw[bO _ _ _ 10 a.len a.scalar rfl];simp only[G,cz,hlen,W7,eb K,hw,bc,ai];generalize H.push (.row a.cells)=M at *;rw[aN,aN,aN,aN,aN,aN,aN,aN,aN];simp only[j6 K,G];refine lq aw W a3 (.inr (.inl hw)) (be a (Y7 q)).2 aJ (hc.ext l.E) l.st (by have:=d.len;omega) aM aF (λv hv=>d.vs v (abd _ hv)) false λs ac=>?_;simp only[bI,Zn,Zo,G,aR,aY,aV];rw[bO s _ (cj a false (F B a.x idx) vs).cells 13 rfl rfl rfl];have ak:=T.new s (.row (cj a false (F B a.x idx) vs).cells);have aS:=(K.ext ac).push (.row (cj a false (F B a.x idx) vs).cells);have m:=(l.ext ac).ext (Z.Ext.push s (.row (cj a false (F B a.x idx) vs).cells));have a_:∀i o,T M i o→i<s.n:=λi o h=>AH h.1 ac.1;simp only[G,ai];generalize s.push (.row (cj a false (F B a.x idx) vs).cells)=L at *;rw[aN];simp only[aB,S.h9,aq,bh,bH,G,bc,ai];have bk:=(Wh.1 ag).1;rw[jo];obtain⟨ap,a7,a8⟩:=bw ag;simp only[a7,a8,G,aR,aY,aV];rw[bO L _ (b5 g) 2 rfl rfl rfl];have g9:=T.new L (.row (b5 g));have aT:=ak.push (.row (b5 g));have aC:=aS.push (.row (b5 g));have a4:=m.ext (Z.Ext.push L (.row (b5 g)));have bL:∀j,cb xs=some j→j≠L.n:=λj al=>by have:=m.st.lt al;omega
   simp only[G];generalize L.push (.row (b5 g))=ay at *;simp only[bu,G,cz,W7,eb aC,hw,bc,bG];rw[wrap_i64 (n:=(u:Int)+1) (by omega) (by omega),show(u:Int)+1=((u+1:Nat):Int) by simp,dW];simp only[show(3:Nat)+3=6 from rfl,n1 aT,G];rw[show(cj a false (F B a.x idx) vs).spot.bits=true from a1];simp only[aB,S.lI,S.lH,aq,bh,bG,ai,cV,G];rw[dW,dW];simp only[dA,G];rw[wrap_i64 (n:=(pc:Int)-1) (by omega) (by omega)];refine nx (pc':=pc) (by omega) (by omega) (second q hw aJ aM aF a1 ag d a4 (λ_ H px E a0=>aP H px E a0) λg' bB=>?_);have:=(Wh.1 bB).1;omega
 · intro pc st sl u f pr a idx vs g g' q hw aJ aM am a1 ag bB ah d H xs px c;have aF:vs.length=dr a:=by
    unfold dr;rw[aa hw];exact am
   have a2:bx (vs.getD 0 0):=by
    cases bg:vs with
    |nil=>exact ei
    |cons v r=>exact d.vs v (by rw[bg];simp)
   have a6:=mN a3.o a.x idx;have aI:=(Wh.1 q).1;obtain⟨p,e1,R⟩:=aA c.E q;have K:=T.new H (.row a.cells);have ae:=Z.Ext.push H (.row a.cells);have l:=c.ext ae;have hlen:=c.st.len;refine au.step ?_;simp only[S.er,aq,bh,aO,G,cz,an _ c.E rfl,ao c.E,bb,ai];rw[ch];simp only[e1,R,G,aR,aY,aV];rw[bO _ _ _ 10 a.len a.scalar rfl];simp only[G,cz,hlen,W7,eb K,hw,bc,ai];generalize H.push (.row a.cells)=M at *;rw[aN,aN,aN,aN,aN,aN,aN,aN,aN];simp only[j6 K,G];refine lq aw W a3 (.inr (.inl hw)) (be a (Y7 q)).2 aJ (hc.ext l.E) l.st (by have:=d.len;omega) aM aF (λv hv=>d.vs v (abd _ hv)) false λs ac=>?_;simp only[bI,Zn,Zo,G,aR,aY,aV];rw[bO s _ (cj a false (F B a.x idx) vs).cells 13 rfl rfl rfl];have ak:=T.new s (.row (cj a false (F B a.x idx) vs).cells);have aS:=(K.ext ac).push (.row (cj a false (F B a.x idx) vs).cells);have m:=(l.ext ac).ext (Z.Ext.push s (.row (cj a false (F B a.x idx) vs).cells));have a_:∀i o,T M i o→i<s.n:=λi o h=>AH h.1 ac.1;simp only[G,ai];generalize s.push (.row (cj a false (F B a.x idx) vs).cells)=L at *;rw[aN];simp only[aB,S.h9,aq,bh,bH,G,bc,ai];have bk:=(Wh.1 ag).1;rw[jo];obtain⟨ap,a7,a8⟩:=bw ag;simp only[a7,a8,G,aR,aY,aV];rw[bO L _ (b5 g) 2 rfl rfl rfl];have g9:=T.new L (.row (b5 g));have aT:=ak.push (.row (b5 g));have aC:=aS.push (.row (b5 g));have a4:=m.ext (Z.Ext.push L (.row (b5 g)));have bL:∀j,cb xs=some j→j≠L.n:=λj al=>by have:=m.st.lt al;omega
   simp only[G];generalize L.push (.row (b5 g))=ay at *;simp only[bu,G,cz,W7,eb aC,hw,bc,bG];rw[wrap_i64 (n:=(u:Int)+1) (by omega) (by omega),show(u:Int)+1=((u+1:Nat):Int) by simp,dW];simp only[show(3:Nat)+3=6 from rfl,n1 aT,G];rw[show(cj a false (F B a.x idx) vs).spot.bits=true from a1];simp only[aB,S.lI,S.lH,aq,bh,bG,ai,cV,G];rw[dW,dW];simp only[dA,G];rw[wrap_i64 (n:=(pc:Int)-1) (by omega) (by omega)];refine nx (pc':=pc) (by omega) (by omega) (second q hw aJ aM aF a1 ag d a4 (λbT=>?_) λdq dt c3 H' aQ c4=>ah c3 H' aQ px c4);have:=(Wh.1 bB).1;omega
 · intro pc st sl u f pr a idx q hw aJ aM hu aP d H xs px c;have b2:RI H0 H i1 i4 js xs px (st++idx++[]) sl pr:=by rw[ZO];exact c
   have bi:cj a false (F B a.x idx) []=⟨1,a.site,a.V,F B a.x idx,a.aG,0,0,0⟩:=by
    have hk:ey a false (F B a.x idx)=1:=by unfold ey;rw[ab (λz=>by have:=z.1;omega),ab (λz=>by have:=z.1;omega)]
    unfold cj;rw[hk];have bp:¬(a.what=7∧a.kind≥6):=λz=>by have:=z.1;omega
    simp only[ab bp];rw[ab (show ¬((1:Int)=2∧(F B a.x idx).len<8∧(F B a.x idx).bits=false)from λz=>by have:=z.1;omega),ab (show ¬(1:Int)>1 by decide),ab (show ¬(1:Int)>1 by decide)]
   have aF:([]:List Int).length=dr a:=by unfold dr;rw[bF,bF];rfl
   clear c;have c:=b2;have hle:=d.len;have aI:=(Wh.1 q).1;obtain⟨p,e1,R⟩:=aA c.E q;have K:=T.new H (.row a.cells);have ae:=Z.Ext.push H (.row a.cells);have l:=c.ext ae;have hlen:=c.st.len;refine au.step ?_;simp only[S.er,aq,bh,aO,G,cz,an _ c.E rfl,ao c.E,bb,ai];rw[ch];simp only[e1,R,G,aR,aY,aV];rw[bO _ _ _ 10 a.len a.scalar rfl];simp only[G,cz,hlen,W7,eb K,hw,bc,ai];generalize H.push (.row a.cells)=M at *;rw[aN,aN,aN,aN,aN,aN,aN,aN,aN];simp only[j6 K,G];refine lq aw W a3 (.inr (.inr hw)) (be a (Y7 q)).2 aJ (hc.ext l.E) l.st (by rw[ZO];omega) aM aF (λv hv=>by cases hv) false λs ac=>?_;simp only[bI,Zn,Zo,G,aR,aY,aV];rw[bO s _ (cj a false (F B a.x idx) []).cells 13 rfl rfl rfl];have ak:=T.new s (.row (cj a false (F B a.x idx) []).cells);have aS:=(K.ext ac).push (.row (cj a false (F B a.x idx) []).cells);have m:=(l.ext ac).ext (Z.Ext.push s (.row (cj a false (F B a.x idx) []).cells));have a_:∀i o,T M i o→i<s.n:=λi o h=>AH h.1 ac.1;simp only[G,ai];generalize s.push (.row (cj a false (F B a.x idx) []).cells)=L at *;rw[aN];rw[←bi]at aP;simp only[aB,S.h9,aq,bh,bH,G,bc,ai];rw[aa (by simp[hu])];simp only[kG ak,G,cz,W7];obtain⟨bm,a9,bf⟩:=m.pr.known;rw [show ax L 13 (.ptr i4 0) (.agg (cj a false (F B a.x idx) []).cells)=some (L.set i4 (.row (dS (cj a false (F B a.x idx) []) 0 px false))) by rw[m.r4.store,aa ⟨rfl,rfl,rfl,(by show 0+13≤16;decide)⟩];rfl]
   simp only[G];obtain⟨cs,Y,b1⟩:=m.r1;refine bt (m.E.set m.l4 _) m.l1 m.l4 m.fy ⟨cs,Y.br m.fy _,b1⟩ (m.r4.set _) (m.pr.set (λe=>(m.dp _ e).2.2.1 rfl) _) (λe=>(m.dp _ e).2.1 rfl) ?_;intro H px E a0;exact aP H px E a0
 · intro pc st sl u f pr a idx g k j q hw aJ aM hk al bK c5 ag ah d H xs px c;have b2:RI H0 H i1 i4 js xs px (st++idx++[]) sl pr:=by rw[ZO];exact c
   have bi:cj a false (F B a.x idx) []=⟨1,a.site,a.V,F B a.x idx,a.aG,0,0,0⟩:=by
    have hk:ey a false (F B a.x idx)=1:=by unfold ey;rw[ab (λz=>by have:=z.1;omega),ab (λz=>by have:=z.1;omega)]
    unfold cj;rw[hk];have bp:¬(a.what=7∧a.kind≥6):=λz=>by have:=z.1;omega
    simp only[ab bp];rw[ab (show ¬((1:Int)=2∧(F B a.x idx).len<8∧(F B a.x idx).bits=false)from λz=>by have:=z.1;omega),ab (show ¬(1:Int)>1 by decide),ab (show ¬(1:Int)>1 by decide)]
   have aF:([]:List Int).length=dr a:=by unfold dr;rw[bF,bF];rfl
   clear c;have c:=b2;have hle:=d.len;have aI:=(Wh.1 q).1;obtain⟨p,e1,R⟩:=aA c.E q;have K:=T.new H (.row a.cells);have ae:=Z.Ext.push H (.row a.cells);have l:=c.ext ae;have hlen:=c.st.len;refine au.step ?_;simp only[S.er,aq,bh,aO,G,cz,an _ c.E rfl,ao c.E,bb,ai];rw[ch];simp only[e1,R,G,aR,aY,aV];rw[bO _ _ _ 10 a.len a.scalar rfl];simp only[G,cz,hlen,W7,eb K,hw,bc,ai];generalize H.push (.row a.cells)=M at *;rw[aN,aN,aN,aN,aN,aN,aN,aN,aN];simp only[j6 K,G];refine lq aw W a3 (.inr (.inr hw)) (be a (Y7 q)).2 aJ (hc.ext l.E) l.st (by rw[ZO];omega) aM aF (λv hv=>by cases hv) false λs ac=>?_;simp only[bI,Zn,Zo,G,aR,aY,aV];rw[bO s _ (cj a false (F B a.x idx) []).cells 13 rfl rfl rfl];have ak:=T.new s (.row (cj a false (F B a.x idx) []).cells);have aS:=(K.ext ac).push (.row (cj a false (F B a.x idx) []).cells);have m:=(l.ext ac).ext (Z.Ext.push s (.row (cj a false (F B a.x idx) []).cells));have a_:∀i o,T M i o→i<s.n:=λi o h=>AH h.1 ac.1;simp only[G,ai];generalize s.push (.row (cj a false (F B a.x idx) []).cells)=L at *;rw[aN];simp only[aB,S.h9,aq,bh,bH,G,bc,ai];have bk:=(Wh.1 ag).1;rw[jo];obtain⟨ap,a7,a8⟩:=bw ag;simp only[a7,a8,G,aR,aY,aV];rw[bO L _ (b5 g) 2 rfl rfl rfl];have g9:=T.new L (.row (b5 g));have aT:=ak.push (.row (b5 g));have aC:=aS.push (.row (b5 g));have a4:=m.ext (Z.Ext.push L (.row (b5 g)));have bL:∀j,cb xs=some j→j≠L.n:=λj al=>by have:=m.st.lt al;omega
   simp only[G];generalize L.push (.row (b5 g))=ay at *;simp only[bu,G,cz,W7,eb aC,hw,bc,bG];rw[wrap_i64 (n:=(u:Int)+1) (by omega) (by omega),show(u:Int)+1=((u+1:Nat):Int) by simp,aN];simp only[aB,S.lI,S.lH,S.oQ,aq,bh,bG,ai,cV,G];rw[aN,aN];have bo:RI H0 ay i1 i4 js xs px (st++idx) sl pr:=by rw[←ZO (st++idx)];exact a4
   obtain⟨aQ,c1,az⟩:=bo.cut idx;rw[c1];simp only[G,cz,W7,eb aC,hw,bc,ai];rw[aN,dW];have bv:=bU g (Y7 ag);obtain⟨s1,s2,bV⟩:=az.slot bK d.n.symm g.1;obtain⟨t1,t2,t3⟩:=bV.slot (k:=j) (N:=N) (by rw[YH];exact c5) (by rw[YH];exact d.n.symm) g.2;have du:js<L.n:=m.im.1;have dv:js<s.n:=by have:=a_ _ _ l.im;exact this
   simp only[pT aC,KO aC,hk,al,G,show aU (some 2) 1 (.ptr L.n 0) (J)=some (.ptr L.n 0)from rfl,show aU (some 2) 1 (.ptr L.n 0) (D 1)=some (.ptr L.n 1)from rfl,show O ay 1 false (.ptr L.n 0)=some (af g.1) by rw[g9.load];rfl,show O ay 1 false (.ptr L.n 1)=some (af g.2) by rw[g9.load];rfl,s1,s2];have c6:H.n≠js:=by intro e;have:=c.im.1;omega
   have c7:T (ay.set js (.row ((sl.set k g.1).map (af)))) H.n (.row a.cells):=aC.br c6 _;have g10:T (ay.set js (.row ((sl.set k g.1).map (af)))) L.n (.row (b5 g)):=g9.br (by omega) _;refine⟨?_,?_,?_⟩
   ·rw[KO c7,al]
   ·rw[g10.load];rfl
   simp only[t1,t2,G];refine nx (by push_cast;rfl) (by omega) (ah ⟨λv hv=>d.vs v (abe _ hv),?_,by rw[ZG]at hle;omega,by rw[YH,YH];exact d.n,bk,d.f1⟩ _ _ _ t3);intro aW bl;rcases abf bl with h|h
   · rcases abf h with h|h
     ·exact d.vl aW h
     ·rw[h];exact bv.1
   ·rw[h];exact bv.2
 · intro pc st sl u f pr dw aP d H xs px c;refine au.step ?_;simp only[S.er,aq,bh,aO,G,cz,an _ c.E rfl,ao c.E,bb,ai];rw[cZ];simp only[aB,S.EJ,cz,W7,G];obtain⟨bm,a9,bf⟩:=c.pr.known;rw [show ax H 1 (.ptr i4 13) (D 1)=some (H.set i4 (.row (dS cc 1 px false))) by
     rw[c.r4.store,aa ⟨rfl,rfl,rfl,(by show 13+1≤16;decide)⟩];rfl]
   simp only[G];obtain⟨cs,Y,b1⟩:=c.r1;refine bt (c.E.set c.l4 _) c.l1 c.l4 c.fy ⟨cs,Y.br c.fy _,b1⟩ (c.r4.set _) (c.pr.set (λe=>(c.dp _ e).2.2.1 rfl) _) (λe=>(c.dp _ e).2.1 rfl) ?_;intro H px E a0;exact aP H px E a0
end
end Rb

namespace Rb
open Go
variable{H H1:Z}{xa xn xs:I}{Q:ad}
theorem gM(a b:Int):X (X a+b)=X (a+b):=by rw[abg,hy,abg]
theorem pU{a b c:Int}(h:X b=X c):X (a+b)=X (a+c):=by rw[←hy a b,h,hy]
theorem TX(e:aA)(m:Int):X (gh e m)=X (m+gh e 0):=by
 rw[rZ e m,rZ e 0];split
 ·simp only[hy,gM,fj,aa1,←abh]
 ·simp only[hy,gM,fj,aa1,←abh]
theorem Cz:∀(l:List aA)(m:Int),X (bU l m)=X (m+bU l 0)
 |[],m=>by simp[bU]
 | e::r,m=>by rw[bU,bU,Cz r,Cz r (gh e 0) |> λh=>pU (a:=m) h,←gM,TX,gM];simp only[abh]
theorem TY(a:Int)(e:aA)(r:List aA):X (a+bU (e::r) 0)=X (X (a+gh e 0)+bU r 0):=by rw[bU,pU (Cz r (gh e 0)),gM];simp only[abh]
theorem TZ(p:aX)(m:Int):X (iS p m)=X (m+iS p 0):=by rw[pC,pC];simp only[hy,gM,fj,aa1]
theorem CA:∀(l:List aX)(m:Int),X (gX l m)=X (m+gX l 0)
 |[],m=>by simp[gX]
 | e::r,m=>by rw[gX,gX,CA r,CA r (iS e 0) |> λh=>pU (a:=m) h,←gM,TZ,gM];simp only[abh]
theorem KP(a:Int)(e:aX)(r:List aX):X (a+gX (e::r) 0)=X (X (a+iS e 0)+gX r 0):=by rw[gX,pU (CA r (iS e 0)),gM];simp only[abh]
theorem T1(x:ay)(m:Int):X (hp x m)=X (m+hp x 0):=by
 rw[pD x m,pD x 0];split
 ·simp only[hy,gM,fj,aa1,←abh]
 ·simp only[hy,gM,fj,aa1,←abh]
theorem CB:∀(l:List ay)(m:Int),X (c_ l m)=X (m+c_ l 0)
 |[],m=>by simp[c_]
 | e::r,m=>by rw[c_,c_,CB r,CB r (hp e 0) |> λh=>pU (a:=m) h,←gM,T1,gM];simp only[abh]
theorem T2(a:Int)(e:ay)(r:List ay):X (a+c_ (e::r) 0)=X (X (a+hp e 0)+c_ r 0):=by rw[c_,pU (CB r (hp e 0)),gM];simp only[abh]
structure CD where
 A:List bA
 L:List (List UInt8×Nat)
 nx:Nat
 d:Int
 V:Int
def CD.add(c:CD)(a:bA):CD:={c with A:=c.A++[{a with V:=c.V}]}
def fX(B:List aE)(xa xn xs:I)(c:CD):List I:=[aD aE.cells B,xa,xn,xs,D c.nx,D c.d,D c.V]
structure CR(H:Z)(id:Nat)(B:List aE)(xa xn xs:I)(c:CD):Prop where
 row:T H id (.row (fX B xa xn xs c))
 a:c2 H 10 xa c.A.length (c.A.flatMap bA.cells)
 n:c2 H 1 xn c.L.length (c.L.map λp=> .str p.1)
 s:c2 H 1 xs c.L.length (c.L.map λp=> D (p.2:Int))
 da:∀j,cb xa=some j→j≠id∧cb xn≠some j∧cb xs≠some j
 dn:∀j,cb xn=some j→j≠id∧cb xs≠some j
 ds:∀j,cb xs=some j→j≠id
structure CF(id:Nat)(H:Z)(xa xn xs:I)(H':Z)(c4 dy e6:I):Prop where
 n:H.n≤H'.n
 k:∀i o,i≠id→cb xa≠some i→cb xn≠some i→cb xs≠some i→T H i o→T H' i o
 ra:∀j,cb c4=some j→cb xa=some j∨H.n≤j
 rn:∀j,cb dy=some j→cb xn=some j∨H.n≤j
 rs:∀j,cb e6=some j→cb xs=some j∨H.n≤j
theorem CF.refl(id:Nat)(H:Z)(xa xn xs:I):CF id H xa xn xs H xa xn xs:=⟨hT _,λ_ _ _ _ _ _ h=>h,λ_ h=> .inl h,λ_ h=> .inl h,λ_ h=> .inl h⟩
theorem CF.trans{id:Nat}{H H1 c:Z}{xa xn xs d f g l m p:I}(h:CF id H xa xn xs H1 d f g)(k:CF id H1 d f g c l m p):CF id H xa xn xs c l m p:=by
 refine⟨At h.n k.n,λi o r s t u b=>k.k i o r ?_ ?_ ?_ (h.k i o r s t u b),λj a=>?_,λj a=>?_,λj a=>?_⟩
 · intro e;rcases h.ra i e with q|q
   ·exact s q
   ·have:=b.1;omega
 · intro e;rcases h.rn i e with q|q
   ·exact t q
   ·have:=b.1;omega
 · intro e;rcases h.rs i e with q|q
   ·exact u q
   ·have:=b.1;omega
 · rcases k.ra j a with q|q
   ·exact h.ra j q
   ·exact .inr (At h.n q)
 · rcases k.rn j a with q|q
   ·exact h.rn j q
   ·exact .inr (At h.n q)
 · rcases k.rs j a with q|q
   ·exact h.rs j q
   ·exact .inr (At h.n q)
theorem CF.ext{id:Nat}(xa xn xs:I)(E:Z.Ext H H1):CF id H xa xn xs H1 xa xn xs:=⟨E.1,λ_ _ _ _ _ _ h=>h.ext E,λ_ h=> .inl h,λ_ h=> .inl h,λ_ h=> .inl h⟩
theorem CF.set{id:Nat}(xa xn xs:I)(o:cN):CF id H xa xn xs (H.set id o) xa xn xs:=⟨hT _,λ_ _ a _ _ _ h=>h.br a o,λ_ h=> .inl h,λ_ h=> .inl h,λ_ h=> .inl h⟩
theorem CR.ext{id:Nat}{B:List aE}{c:CD}(h:CR H id B xa xn xs c)(E:Z.Ext H H1):CR H1 id B xa xn xs c:=⟨h.row.ext E,h.a.ext E,h.n.ext E,h.s.ext E,h.da,h.dn,h.ds⟩
theorem CR.put{id:Nat}{B:List aE}{c c':CD}(h:CR H id B xa xn xs c)(d:c'.A=c.A)(b:c'.L=c.L):CR (H.set id (.row (fX B xa xn xs c'))) id B xa xn xs c':=⟨h.row.set _,by rw[d];exact h.a.set (λe=>(h.da _ e).1 rfl) _,by rw[b];exact h.n.set (λe=>(h.dn _ e).1 rfl) _,by rw[b];exact h.s.set (λe=>(h.ds _ e) rfl) _,h.da,h.dn,h.ds⟩
theorem T3(a:bA)(l:Int):a.cells.set 9 (D l)=({a with V:=l}:bA).cells:=by rw[bA.be,bA.be];rfl
section
variable{C:Ctx}(aw:cY C)(W:Cl (aj C) S.cr){id:Nat}{B:List aE}
include aw W
theorem j7{a:bA}{c:CD}(h:CR H id B xa xn xs c)(hl:c.A.length≤1000000000000){Q:ad}
  (x:∀c4 H',CF id H xa xn xs H' c4 xn xs→CR H' id B c4 xn xs (c.add a)→Q (.aM []) H'):aj C 60 [.ptr id 0,.agg a.cells] H Q:=by
 refine S.OA W ?_;unfold S.f60;have y:bg H true 10 (.agg a.cells)=some (.ptr H.n 0,H.push (.row a.cells)):=by unfold bg;rw[aa ⟨rfl,a.len⟩];rfl
 rw[y];simp only[aV];have t:=Z.Ext.push H (.row a.cells);have r1:=T.new H (.row a.cells);have z:=h.ext t;have N:(H.push (.row a.cells)).n=H.n+1:=rfl;have P:=h.row.1;generalize H.push (.row a.cells)=H1 at *;simp only[aO,M,W7,G,show O H1 1 false (.ptr id 6)=some (D c.V) by rw[z.row.load];rfl];rw [show ax H1 1 (.ptr H.n 9) (D c.V)=some (H1.set H.n (.row ({a with V:=c.V}:bA).cells)) by rw[r1.store,aa ⟨rfl,rfl,rfl,by rw[a.len];decide⟩];show some (H1.set H.n (.row (a.cells.set 9 (D c.V))))=_;rw[T3]]
 have E:=r1.set (.row ({a with V:=c.V}:bA).cells);have m:=(Z.Ext.set t (hT _) (.row ({a with V:=c.V}:bA).cells))
 have d:=h.ext m;have R:(H1.set H.n (.row ({a with V:=c.V}:bA).cells)).n=H1.n:=rfl;simp only[G];generalize H1.set H.n (.row ({a with V:=c.V}:bA).cells)=g at *;generalize F:({a with V:=c.V}:bA)=b at *;simp only[show O g 1 false (.ptr id 1)=some xa by rw[d.row.load];rfl,G];rw[show O g 10 true (.ptr H.n 0)=some (.agg b.cells) by rw[E.load];exact eM b.len];simp only[G];have I:c9 g false 10 1 [J,af 0,J,J,.str [],ar,J,J,J,J] [(0,10,.agg b.cells)]=some (.av .full 1 b.cells,g):=by rw[bA.be];rfl
 rw[I];simp only[aV];refine d.a.app (by decide) b.len b.scalar (by omega) (by omega) λc4 p a3 U kp k=>?_;obtain⟨K,r,L⟩:=a3.known;have u:=kp _ _ (λe=>(d.da _ e).1 rfl) d.row;rw [show ax p 1 (.ptr id 1) c4=some (p.set id (.row (fX B c4 xn xs (c.add a)))) by rw[u.store,aa ⟨K,by rw[r];rfl,by rw[r];simp[L],(by show 1+1≤7;decide)⟩,r];rfl]
 simp only[G];have v:∀j,cb c4=some j→cb xa=some j∨j=g.n:=λj f=>by
  rcases k with k|k
  ·left;rw[←k];exact f
  ·right;rw[k]at f;cases f;rfl
 have X:=d.row.1;have w:∀j,cb c4=some j→j≠id∧cb xn≠some j∧cb xs≠some j:=λj f=>by
  rcases v j f with q|q
  ·exact d.da j q
  ·exact⟨by omega,λe=>by have:=d.n.lt e;omega,λe=>by have:=d.s.lt e;omega⟩
 refine x c4 _ ⟨by show H.n≤p.n;have:=m.1;omega,λi o g1 g2 g3 g4 l=>?_,λj f=>?_,λ_ q=> .inl q,λ_ q=> .inl q⟩ ⟨u.set _,?_,?_,?_,w,h.dn,h.ds⟩
 ·exact(kp i o g2 (l.ext m)).br g1 _
 · rcases v j f with q|q
   ·exact .inl q
   ·have:=m.1;exact .inr (by omega)
 · have:(c.add a).A=c.A++[b]:=by unfold CD.add;rw[F]
   rw[this,ZG,List.flatMap_append,List.flatMap_singleton];exact a3.set (λe=>(w _ e).1 rfl) _
 ·exact(d.n.ca λj cs f l=>kp j _ (λe=>(d.da j e).2.1 f) l).set (λe=>(h.dn _ e).1 rfl) _
 ·exact(d.s.ca λj cs f l=>kp j _ (λe=>(d.da j e).2.2 f) l).set (λe=>h.ds _ e rfl) _
theorem yi{c:CD}(h:CR H id B xa xn xs c)(hl:c.L.length≤1000000000)(name:List UInt8)(f:Q (D (hz (-1) c.L name)) H):aj C 63 [.ptr id 0,.str name] H Q:=by
 refine S.OD W ?_;unfold S.f63;have l2:O H 1 false (.ptr id 2)=some xn:=by rw[h.row.load];rfl
 have g:O H 1 false (.ptr id 3)=some xs:=by rw[h.row.load];rfl
 have main:∀(r:List (List UInt8×Nat)) (i:Nat) (o:Int),c.L.drop i=r→hz o r name=hz (-1) c.L name→au (S.qX (aj C) (.ptr id 0) (.str name) Q) ([D o,D i],H):=by
  intro r;induction r with
  | nil=>intro i o a b;have hle:=db a;refine au.step ?_;simp only[S.qX,aq,bh,aO,M,W7,G,l2,h.n.len,bb,ai];rw[cZ];have:o=hz (-1) c.L name:=b;rw[this];exact f
  | cons p r j=>
   intro i o a b;obtain⟨u,d,l⟩:=c8 a;obtain⟨w,m,t⟩:=h.n.get (k:=i) (v:= .str p.1) (by rw[Xb,d];rfl);obtain⟨sp,s1,s2⟩:=h.s.get (k:=i) (v:= D (p.2:Int)) (by rw[Xb,d];rfl);refine au.step ?_;simp only[S.qX,aq,bh,aO,G,show ∀k:Nat,M k (.ptr id 0)=some (.ptr id (0+k))from λ_=>rfl,W7,l2,g,h.n.len,bb,ai];rw[ch];simp only[m,t H (Z.Ext.refl _),s1,s2 H (Z.Ext.refl _),G,fc,ai];have e:∀v:Int,v=(if p.1=name then(p.2:Int)else o)→S.vf (aj C) ([D o,D i],H) (au (S.qX (aj C) (.ptr id 0) (.str name) Q)) Q [D v] H:=by intro v hv;simp only[S.vf,aq,bh,bu,G];rw[wrap_i64 (n:=(i:Int)+1) (by omega) (by omega),show(i:Int)+1=((i+1:Nat):Int) by simp];refine j (i+1) v l ?_;rw[←b,hv];unfold hz;rw[List.foldl_cons]
   simp only[aB];apply aH<;>intro q
   ·exact e _ (by rw[aa (by simpa using q)])
   ·exact e _ (by rw[ab (by simpa using q)])
 exact main c.L 0 (-1) rfl rfl
end
end Rb

namespace Rb
open Go
theorem T4(t:aC):bW t.cells 0 1 false=some (D t.kind):=by rw[aC.be];rfl
theorem T5(t:aC):bW t.cells 3 1 false=some (aD aT.cells t.aI):=by rw[aC.be];rfl
theorem T6(t:aC):bW t.cells 5 1 false=some (aD aC.cells t.bf):=by rw[aC.be];rfl
theorem T7(p:aX):bW p.cells 0 1 false=some (.str p.field):=by rw[aX.be];rfl
theorem T8(p:aX):bW p.cells 1 1 false=some (aD aA.cells p.aZ):=by rw[aX.be];rfl
theorem T9{t:aC}(h:dP t=0):cO t=0:=by
 unfold dP at h;split at h
 ·cases h
 ·exact h
section
variable{Φ:ae}{H:Z}{Q:ad}
theorem T_(W:Cl Φ S.cr){B:List aE}{x:aW}(bS:B.length≤9223372036854775807)(bT:x.aK.length≤9223372036854775807)
  (bl:∀v∈B,bR Φ 50 [.agg v.type.cells] (D (dP v.type)))
  (aL:∀H',Q (gb (bP B x)) H'):S.f83 Φ (aD aE.cells B) (.agg x.cells) H Q:=by
 have fin:∀v H',v=gb (bP B x)→Q v H':=λv H' h=>by rw[h];exact aL H'
 clear aL;unfold S.f83;simp only[xj,aV,aR,aY,bH,G,dA];have Y:T (H.push (.row dm)) H.n (.row dm):=T.new H _;change T (H.push (.row [J,J,P,ar,J,ar])) H.n _ at Y;generalize (H.push (.row [J,J,P,ar,J,ar]))=d at *;generalize H.n=c at *;have bad:∀(e:Int)(H1:Z),T H1 c (.row dm)→e≠0→(bP B x).1=e→Do (ba [J,J,P,ar,J,ar] []) λbm=>
   Do (ax H1 6 (.ptr c 0) bm) λaO=>
   Do (O aO 6 true (.ptr c 0)) λbn=>
   Q (.aM [bn,(D e)]) aO:=by
  intro e H1 aP he h;rw[xi];simp only[G];rw[aP.put (n:=6) rfl rfl rfl];simp only[G];rw[(aP.set _).all (n:=6) rfl];simp only[G];refine fin _ _ ?_;unfold gb;rw[h,ab he]
 have bo : U (S.Aj Φ (aD aE.cells B) (.ak x.cells) (.ptr c 0) Q) [D (e8 (B.findIdx? λv=>v.name==x.var))] d:=by
  simp only[aB,S.Aj,aq,bb,G,ai];rcases lP (λv:aE=>v.name==x.var) B with⟨i,v,ah,aj,K⟩|⟨ah,aj⟩
  · have s := (Wh.1 K).1;have bp:=Y7 K;have ac:bP B x=if dP v.type≠0 then(dP v.type,v.type)else eN v.type x.aK:=by unfold bP;rw[aj]
    rw[ah,ab (by show ¬(decide ((i:Int)<0)=true);rw[dh];omega)];simp only[e8];rw[cp s];simp only[G,d_,M,A1 v d K,aV,aR,aY];rw[bO _ _ _ 6 v.type.len v.type.scalar rfl];simp only[G];rw[e9,eM v.type.len];simp only[G];have bq:T (d.push (.row v.type.cells)) d.n (.row v.type.cells):=T.new d _;have al:c≠d.n:=Y.gS;have aQ:T (d.push (.row v.type.cells)) c (.row dm):=Y.push _;generalize (d.push (.row v.type.cells))=aS at *;generalize d.n=a at *;refine bl v bp _ _ ?_;have a0:∀(e:Int)(H1:Z),T H1 c (.row dm)→e≠0→(bP B x).1=e→U (S.q_ Φ (.ptr c 0) (.ptr a 0) Q) [D e] H1:=by intro e H1 a3 he w;simp only[aB,S.q_,aq,cU,G,ai];rw[aa (by simpa using he)];exact bad e H1 a3 he w
    have bs:∀(t:aC)(H1:Z),T H1 c (.row dm)→T H1 a (.row t.cells)→bP B x=(0,t)→U (S.q_ Φ (.ptr c 0) (.ptr a 0) Q) [J] H1:=by intro t H1 a3 a28 w;simp only[aB,S.q_,aq,cU,G,ai];rw[aN,a28.all t.len];simp only[G];rw[a3.put (n:=6) rfl t.len t.scalar];simp only[G];rw[(a3.set _).all t.len];simp only[G];refine fin _ _ ?_;rw[w];rfl
    have stop:∀(e:Int)(k:Nat)(H1:Z),T H1 c (.row dm)→e≠0→(bP B x).1=e→au (S.nC Φ (.ak x.cells) (.ptr c 0) (.ptr a 0) Q) ([D e,D k],H1):=by
     intro e k H1 a3 he w;refine au.step ?_;simp only[S.nC,aq,bh,nL,nM,bH,G,bb,bG,bc];have bt:(e==0)=false:=by simpa using he
     apply aH<;>intro _
     · simp only[aB,S.o9,aq,ai,bt,Yf,cu];exact a0 e H1 a3 he w
     · simp only[aB,S.o9,aq,ai,Yf,cu];exact a0 e H1 a3 he w
    by_cases gJ:dP v.type=0
    · rw [ab (by simpa using gJ)]at ac;rw[gJ];have main : ∀(ps:List aX)(i:Nat)(t:aC)(H1:Z),x.aK.drop i=ps→T H1 c (.row dm)→T H1 a (.row t.cells)→cO t=0→eN t ps=bP B x →
        au (S.nC Φ (.ak x.cells) (.ptr c 0) (.ptr a 0) Q) ([J,D i],H1):=by
       intro ps;induction ps with
       | nil=>intro i t H1 am a3 a28 ad E;have hle:=db am;refine au.step ?_;simp only[S.nC,aq,bh,nL,nM,bH,G,bb,bG];rw[cZ];simp only[aB,S.o9,aq,ai,Yf,cu];exact bs t H1 a3 a28 (by rw[←E];rfl)
       | cons p ps an=>
        intro i t H1 am a3 a28 ad E;obtain⟨s,w,bv⟩:=c8 am;refine au.step ?_;simp only[S.nC,aq,bh,nL,nM,bH,G,bb,bG];rw[ch];simp only[bc,G,aB,S.o9,aq,ai,BEq.rfl,aY,S.Gh,bh,nL,nM];rw[cp s];simp only[G];rw[dd aX.len (by decide) _ w];simp only[G,aV,aR,aY];rw[bO _ _ _ 2 p.len p.scalar rfl];simp only[G,M,W7,WW];have b3:=a3.push (.row p.cells);have F:=a28.push (.row p.cells);have N:=T.new H1 (.row p.cells);have bU:a≠H1.n:=a28.gS;generalize H1.push (.row p.cells)=g at *;generalize H1.n=m at *;have a1:∀{H'},T H' m (.row p.cells)→O H' 1 false (.ptr m 1)=some (aD aA.cells p.aZ):=λh=>by rw[h.load];exact T8 p
        have ao:∀{H'},T H' m (.row p.cells)→O H' 1 false (.ptr m 0)=some (.str p.field):=λh=>by rw[h.load];exact T7 p
        have t0:∀{H'},T H' a (.row t.cells)→O H' 1 false (.ptr a 0)=some (D t.kind):=λh=>by rw[h.load];exact T4 t
        have t3:∀{H'},T H' a (.row t.cells)→O H' 1 false (.ptr a 3)=some (aD aT.cells t.aI):=λh=>by rw[h.load];exact T5 t
        have t5:∀{H'},T H' a (.row t.cells)→O H' 1 false (.ptr a 5)=some (aD aC.cells t.bf):=λh=>by rw[h.load];exact T6 t
        simp only[a1 N,G,bH,bc];simp only[eN]at E;generalize bV:au (S.nC Φ (.ak x.cells) (.ptr c 0) (.ptr a 0) Q)=L at *;have a2:∀(u:aC)(o:Z),T o c (.row dm)→T o a (.row u.cells)→de t p=(0,u)→U (S.nB Φ ([J,D i],H1) L Q) [J] o:=by
         intro u o c3 ap hu;simp only[aB,S.nB,aq,bh,bu,G];rw[bM,fb i];rw[hu,iE]at E;have bw:cO u=0:=by have:=Ib (x:=p) ad (by rw[hu]);rw[hu]at this;exact this
         exact an (i+1) u o bv c3 ap bw E
        have gG:∀(e:Int)(o:Z),T o c (.row dm)→e≠0→(de t p).1=e→U (S.nB Φ ([J,D i],H1) L Q) [D e] o:=by intro e o c3 he hu;simp only[aB,S.nB,aq,bh,bu,G];rw[bM,fb i];rw[aa (by rw[hu];exact he)]at E;exact stop e (i+1) o c3 he (by rw[←E,hu])
        have av : ∀b:Bool,(b=true↔(p.aZ.length=0∧p.field≠[]∧(t.kind=3∨t.kind=4)))→¬(p.aZ.length=1∧p.field=[]∧t.kind=5)→U (S.q9 Φ (.ptr a 0) (.ptr m 0) ([J,D i],H1) L Q) [.bool b] g:=by
         intro b l A;simp only[aB,S.q9,aq,ai];apply aH<;>intro h
         · obtain ⟨g1,g2,g3⟩:=l.1 h;have a4:de t p=match t.aI.find? (λf=>f.name==p.field)with|some f=>(0,f.type)|none=>(6,t):=by
            unfold de;rw[ab (by rw[g1];simp[g2]),ab (by rw[g1];simp),ab (by rw[g1];simp[g3])];all_goals (cases t.aI.find? (λf=>f.name==p.field)<;>rfl)
           rw[xi];simp only[G,aV,aR,aY];have c3:=b3.push (.row dm);have ap:=F.push (.row dm);have bx:=N.push (.row dm);have a5:=T.new g (.row dm);have n3:c≠g.n:=b3.gS;have a6:a≠g.n:=F.gS;have bz:m≠g.n:=N.gS;change Do (ax (g.push (.row dm)) 6 (.ptr g.n 0) (.agg dm)) _;generalize g.push (.row dm)=bA at *;generalize g.n=R at *;rw[a5.put (n:=6) rfl rfl rfl];simp only[G];have d3:=c3.br n3 (.row dm);have d28:=ap.br a6 (.row dm);have d53:=bx.br bz (.row dm);have d94:=a5.set (.row dm);generalize bA.set R (.row dm)=V at *;have a7:∀(e:Int)(cs:List I)(C:Z),T C c (.row dm)→T C a (.row t.cells)→T C R (.row cs)→cs.length=6→cs.all I.scalar=true→((e=0∧∃u:aC,cs=u.cells∧de t p=(0,u))∨(e≠0∧(de t p).1=e)) →
             U (S.vZ Φ (.ptr a 0) (.ptr R 0) ([J,D i],H1) L Q) [D e] C:=by
            intro e cs C ae X aw a8 bB hc;simp only[aB,S.vZ,aq];rw[aw.all a8];simp only[G];rw[X.put t.len a8 bB];simp only[G];rcases hc with⟨rfl,u,rfl,hu⟩|⟨he,hu⟩
            ·exact a2 u _ (ae.br al _) (X.set _) hu
            ·exact gG e _ (ae.br al _) he hu
           have bC:∀(r:List aT)(j:Nat),t.aI.drop j=r→t.aI.find? (λf=>f.name==p.field)=r.find? (λf=>f.name==p.field) →
             au (S.q8 Φ (.ptr a 0) (.ptr m 0) (.ptr R 0) ([J,D i],H1) L Q) ([D 6,D j],V):=by
            intro r;induction r with
            | nil=>intro j ay q;have hle:=db ay;refine au.step ?_;simp only[S.q8,aq,bh,M,W7,t3 d28,bH,G,bb,bG];rw[cZ];simp only[aB,S.o8,aq,ai,Yf,cu];refine a7 6 dm V d3 d28 d94 rfl rfl (.inr ⟨by decide,?_⟩);rw[a4,q];rfl
            | cons f r bD=>
             intro j ay q;obtain⟨bE,a9,bF⟩:=c8 ay;have bX:t.aI.length≤32:=(mF ad g3).2;refine au.step ?_;simp only[S.q8,aq,bh,M,W7,t3 d28,bH,G,bb,bG];rw[ch];simp only[cU,G,aB,S.o8,aq,ai];rw[dW];simp only[S.Gg,aq,bh,M,W7,WW,t3 d28,G];rw[cp bE];simp only[G,d_,M,JF V a9,ao d53,fc,ai,JE V a9];rw[List.find?_cons]at q;apply fv<;>intro h
             · rw [h]at q;simp only at q;rw[d94.put (n:=6) rfl f.type.len f.type.scalar];simp only[G,aB,S.vY,aq,bh,bu];rw[bM,fb j];have ae:=d3.br n3 (.row f.type.cells);have X:=d28.br a6 (.row f.type.cells);have aw:=d94.set (.row f.type.cells);generalize V.set R (.row f.type.cells)=C at *;have a_:U (S.vZ Φ (.ptr a 0) (.ptr R 0) ([J,D i],H1) L Q) [J] C:=
                a7 0 f.type.cells C ae X aw f.type.len f.type.scalar (.inl ⟨rfl,f.type,rfl,by rw[a4,q]⟩)
               refine au.step ?_;simp only[S.q8,aq,bh,M,W7,t3 X,bH,G,bb,bG];apply aH<;>intro _
               · simp only[cU,G,aB,S.o8,aq,ai];rw[aN];exact a_
               · simp only[aB,S.o8,aq,ai,Yf,cu];exact a_
             · rw[h]at q;simp only at q;simp only[aB,S.vY,aq,bh,bu,G];rw[bM,fb j];exact bD (j+1) bF q
           exact bC t.aI 0 rfl rfl
         · have bI:¬(p.aZ.length=0∧p.field≠[]∧(t.kind=3∨t.kind=4)):=λy=>h (l.2 y);refine gG 8 g b3 (by decide) ?_;unfold de;by_cases c1:1<p.aZ.length∨(p.aZ.length=1↔p.field≠[])
           ·rw[aa c1]
           · rw [ab c1];by_cases af:p.aZ.length=1∧t.kind=5
             · exfalso;refine A ⟨af.1,?_,af.2⟩;by_cases ag:p.field=[]
               ·exact ag
               ·exact absurd (.inr ⟨λ_=>ag,λ_=>af.1⟩) c1
             · rw [ab af];by_cases c3:p.aZ.length=1∨¬(t.kind=3∨t.kind=4)
               ·rw[aa c3]
               · exfalso;have bJ:p.aZ.length=0:=by omega
                 refine bI ⟨bJ,?_,by omega⟩;intro ag;exact c1 (.inr ⟨λy=>by omega,λy=>absurd ag y⟩)
        have bd:∀b:Bool,(b=true↔(p.aZ.length=0∧p.field≠[]))→¬(p.aZ.length=1∧p.field=[]∧t.kind=5)→U (S.v7 Φ (.ptr a 0) (.ptr m 0) ([J,D i],H1) L Q) [.bool b] g:=by
         intro b l A;simp only[aB,S.v7,aq,bG,M,WW,t0 F,G,bc,b7];apply fv<;>intro h
         · obtain ⟨g1,g2⟩:=l.1 h;apply iV<;>intro K
           · refine av _ ?_ A;have az:t.kind≠3:=by simpa using K
             simp[g1,g2,az]
           · refine av _ ?_ A;have az:t.kind=3:=by simpa using K
             simp[g1,g2,az]
         · refine av _ ?_ A;have:¬(p.aZ.length=0∧p.field≠[]):=λy=>by have:=l.2 y;rw[h]at this;cases this
           constructor
           ·intro y;cases y
           ·intro y;exact absurd ⟨y.1,y.2.1⟩ this
        have be:∀b:Bool,(b=true↔(p.aZ.length=1∧p.field=[]∧t.kind=5))→U (S.v8 Φ (.ptr a 0) (.ptr m 0) ([J,D i],H1) L Q) [.bool b] g:=by
         intro b l;simp only[aB,S.v8,aq,ai];apply aH<;>intro h
         · obtain⟨g1,g2,g3⟩:=l.1 h;obtain⟨e,aF,bY⟩:=k5 ad g3;simp only[M,W7,t5 F,G];have bK:aU none 6 (aD aC.cells t.bf) (J)=some (d_ aC.cells 6 t.bf 0):=cp (by rw[aF];simp);rw[bK];simp only[G];rw[dd aC.len (by decide) _ (show t.bf[0]?=some e by rw[aF];rfl)];simp only[G];rw[F.put t.len e.len e.scalar];simp only[G,aq];refine a2 e _ (b3.br al _) (F.set _) ?_;unfold de;rw[ab (by rw[g1,g2];simp),aa ⟨g1,g3⟩,aF]
         · have A:¬(p.aZ.length=1∧p.field=[]∧t.kind=5):=λy=>h (l.2 y);simp only[M,W7,WW,a1 N,ao N,G,bH,bc,ky,bG];apply fv<;>intro bg
           · refine bd _ ?_ A;have aG:p.aZ.length=0:=by simp only[b9]at bg;omega
             simp[aG]
           · refine bd _ ?_ A;have aG:p.aZ.length≠0:=by simp only[beq_eq_false_iff_ne,ne_eq]at bg;omega
             simp[aG]
        have bi:∀b:Bool,(b=true↔(p.aZ.length=1∧p.field=[]))→U (S.v_ Φ (.ptr a 0) (.ptr m 0) ([J,D i],H1) L Q) [.bool b] g:=by
         intro b l;simp only[aB,S.v_,aq,bG,M,WW,t0 F,G,bc];apply fv<;>intro h
         · obtain⟨g1,g2⟩:=l.1 h;refine be _ ?_;simp[g1,g2]
         · refine be _ ?_;have:¬(p.aZ.length=1∧p.field=[]):=λy=>by have:=l.2 y;rw[h]at this;cases this
           constructor
           ·intro y;cases y
           ·intro y;exact absurd ⟨y.1,y.2.1⟩ this
        simp only[bG,ao N,G,fc];apply fv<;>intro h
        · refine bi _ ?_;have aJ:p.aZ.length=1:=by simp only[b9]at h;omega
          simp[aJ]
        · refine bi _ ?_;have aJ:p.aZ.length≠1:=by simp only[beq_eq_false_iff_ne,ne_eq]at h;omega
          simp[aJ]
      exact main x.aK 0 v.type aS rfl aQ bq (T9 gJ) ac.symm
    · rw[aa gJ]at ac;exact stop _ 0 aS aQ gJ (by rw[ac])
  · rw[ah,aa (by simp[e8])];exact bad 6 _ Y (by decide) (by unfold bP;rw[aj])
 have main:∀(k:Nat),k≤B.length→au (S.re Φ (aD aE.cells B) (.ak x.cells) (.ptr c 0) Q) ([D (e8 (((B.drop k).findIdx? λv=>v.name==x.var).map (·+ k))),D ((k:Int)-1)],d):=by
  intro k;induction k with
  | zero=>
   intro _;refine au.step ?_;simp only[S.re,aq,bh,eu,G,ai];rw[aN];have:((B.drop 0).findIdx? λv=>v.name==x.var).map (·+ 0)=B.findIdx? λv=>v.name==x.var:=by rw[Zv];cases (B.findIdx? λv=>v.name==x.var)<;>rfl
   rw[this];exact bo
  | succ k an=>
   intro hk;have s:k<B.length:=by omega
   obtain⟨v,hv⟩:∃v,B[k]?=some v:=⟨_,Xc s⟩
   have bj:B.drop k=v::B.drop (k+1):=by rw[ZH s];rw[Xc s]at hv;simp at hv;rw[hv]
   have bk:=an (by omega);rw[bj,List.findIdx?_cons]at bk;have bL:(((k+1:Nat):Int)-1)=(k:Int):=by omega
   rw[bL];refine au.step ?_;simp only[S.re,aq,bh,eu,G,ai];rw[ch,cp s];have bN:O d 1 false (.ak (((B.flatMap aE.cells).drop (k*7)).drop 0))=some (.str v.name):=by show bW _ 0 1 false=_;rw[Zv,nI aE.len,bj,Zi,aE.cells];rfl
   simp only[G,d_,M,bN,A2,fc,ai];have next:∀z:Int,z=e8 ((if(v.name==x.var)=true then some 0 else((B.drop (k+1)).findIdx? λv=>v.name==x.var).map (·+ 1)).map (·+ k)) →
     U (S.vX Φ ([D (e8 (((B.drop (k+1)).findIdx? λv=>v.name==x.var).map (·+ (k+1)))),D k],d) (au (S.re Φ (aD aE.cells B) (.ak x.cells) (.ptr c 0) Q)) Q) [D z] d:=by
    intro z bQ;simp only[aB,S.vX,aq,bh,dA,G];rw[bM,bQ];exact bk
   refine fv (λh=>next _ ?_) (λh=>next _ ?_)
   ·rw[aa h];simp[e8]
   · rw[h,aN];cases (B.drop (k+1)).findIdx? λv=>v.name==x.var with
     |none=>rfl
     |some j=>simp[e8];omega
 have:=main B.length (hT _);rw[List.drop_length]at this;rw[bM];exact this
end
theorem Ua{x:aW}(h:x.ok):x.aK.length≤maxLen∧∀p∈x.aK,p.aZ.length≤maxLen:=by
 cases x with
 | mk var aK=>
  obtain⟨_,a,b⟩:=h;refine⟨a,λp c=>?_⟩;have:=aX.ek.1 b p c;cases p with
  |mk field aZ=>exact this.2.1
section
variable{C:Ctx}(aw:cY C)(W:Cl (aj C) S.cr)
include aw W
theorem KQ(B:List aE)(x:aW)(hl:B.length≤maxLen)(hv:∀v∈B,v.ok)(b:x.ok):bR (aj C) 83 [aD aE.cells B,.agg x.cells] (gb (bP B x)):=by
 have a:=Ua b;have hm:maxLen=9223372036854775807:=by decide
 rw[hm]at a hl;exact bR.of aw (by simp[I.cv,I.b6,aW.b6,k1 aE.b6]) (A0 _) λQ c=>S.OW W (T_ W hl a.1 (λv d=>JG aw W v.type (hv v d).2) c)
end
end Rb

namespace Rb
open Go
def CD.ex(B:List aE)(c:CD)(e:aA):CD:={c with A:=c.A++dI B c.L c.V e c.d,d:=X (c.d+gh e 0)}
def CD.gj(B:List aE)(c:CD)(l:List aA):CD:={c with A:=c.A++dX B c.L c.V l c.d,d:=X (c.d+bU l 0)}
def CD.pl(B:List aE)(c:CD)(x:aW):CD:={c with A:=c.A++dw B c.L c.V x c.d,d:=X (c.d+bS x)}
def CD.jH(B:List aE)(c:CD)(x:aW)(l:List aX)(k:Nat):CD:={c with A:=c.A++fi B c.L c.V x l k c.d,d:=X (c.d+gX l 0)}
theorem CD.KR(B:List aE)(c:CD)(h:X c.d=c.d):c.gj B []=c:=by unfold CD.gj;simp only[dX,bU,ZO,aa8,h]
theorem CD.KS(B:List aE)(c:CD)(e:aA)(r:List aA):c.gj B (e::r)=(c.ex B e).gj B r:=by unfold CD.gj CD.ex;simp only[dX,aaO];rw[TY]
theorem CD.Ub(B:List aE)(c:CD)(x:aW)(k:Nat)(h:X c.d=c.d):c.jH B x [] k=c:=by unfold CD.jH;simp only[fi,gX,ZO,aa8,h]
def pV(C:Ctx)(id:Nat)(B:List aE)(L:List (List UInt8×Nat))(e:aA):Prop:=
 ∀ (c:CD) (xa xn xs:I) (H:Z) (Q:ad),CR H id B xa xn xs c→c.L=L→X c.d=c.d→(c.ex B e).A.length≤1000000000000 →
  (∀c4 H',CF id H xa xn xs H' c4 xn xs→CR H' id B c4 xn xs (c.ex B e)→Q (.aM []) H')→aj C 62 [.ptr id 0,.agg e.cells] H Q
section
variable{C:Ctx}(aw:cY C)(W:Cl (aj C) S.cr){id:Nat}{B:List aE}
include aw W
theorem KU(v:l_ B){L:List (List UInt8×Nat)}(aJ:L.length≤1000000000){x:aW}(w:x.ok)(ab:∀p∈x.aK,p.aZ.length≤1)(ac:∀p∈x.aK,∀e∈p.aZ,pV C id B L e){c:CD}{xa xn xs:I}{H:Z}{Q:ad}(h:CR H id B xa xn xs c)(ae:c.L=L)(hs:X c.d=c.d)(y:(c.pl B x).A.length≤1000000000000)
  (z:∀c4 H',CF id H xa xn xs H' c4 xn xs→CR H' id B c4 xn xs (c.pl B x)→Q (.aM []) H'):aj C 61 [.ptr id 0,.agg x.cells] H Q:=by
 obtain⟨aL,aP⟩:=aW.dc w;refine S.OB W ?_;unfold S.f61;simp only[lY,aV];have ag:c.pl B x=c.jH B x x.aK 0:=by
  cases x with
  |mk var aK=>unfold CD.pl CD.jH;rw[dw,Bu]
 rw[ag]at y z;have main:∀(r:List aX)(i:Nat)(c':CD)(c4:I)(b:Z),x.aK.drop i=r→c'.L=L→X c'.d=c'.d→CF id H xa xn xs b c4 xn xs→CR b id B c4 xn xs c'→c'.jH B x r i=c.jH B x x.aK 0→au (S.vd (aj C) (.ptr id 0) (.ak x.cells) Q) ([D i],b):=by
  intro r;induction r with
  | nil=>intro i c' c4 b t s j f5 m he;have hle:=db t;refine au.step ?_;simp only[S.vd,aq,hR,ih,bH,bb,G,ai];rw[cZ];rw[CD.Ub B c' x i j]at he;rw[he]at m;exact z c4 b f5 m
  | cons p r E=>
   intro i c' c4 b t s j f5 m he;obtain⟨ah,F,K⟩:=c8 t;have N:=Y7 F;obtain⟨a0,Y,f0,f1,g0,g1⟩:=KC F;refine au.step ?_;simp only[S.vd,aq,hR,ih,bH,bb,G,ai];rw[ch,cp ah];simp only[G,f1,g1,bH,bc,ai];have P:Xv .i64 ((i:Int)+1)=((i+1:Nat):Int):=by rw[bM];simp
   apply aH<;>intro q
   · obtain ⟨e,g⟩:∃e,p.aZ=[e]:=by
       have:p.aZ.length=1:=by
        have:((p.aZ.length:Int))=1:=by simpa using q
        omega
       match p.aZ,this with
       |[e],_=>exact⟨e,rfl⟩
     rw[g];have al:aU none 8 (aD aA.cells [e]) (J)=some (d_ aA.cells 8 [e] 0):=cp (i:=0) (by simp);rw[al];simp only[G];rw[dd aA.len (by decide) _ (show([e]:List aA)[0]?=some e from rfl)];simp only[G];have R:fi B c'.L c'.V x (p::r) i c'.d=dI B c'.L c'.V e c'.d++(cB c'.V 6 (iR (j1 B ⟨x.var,x.aK.take i⟩)) 0::fi B c'.L c'.V x r (i+1) (X (c'.d+iS p 0))):=by
      cases p with
      | mk field aZ=>have:aZ=[e]:=g;subst this;simp only[fi,l8,kE]
     have am:X (c'.d+iS p 0)=X (c'.d+gh e 0):=by rw[pC,g,aa1,hy,bU,bU]
     have an:((c'.ex B e).add (cB c'.V 6 (iR (j1 B ⟨x.var,x.aK.take i⟩)) 0)).jH B x r (i+1)=c'.jH B x (p::r) i:=by unfold CD.jH CD.add CD.ex;simp only[];rw[R,KP,am];simp only[aaO,Yi,aaY];rfl
     have aQ:(c'.ex B e).A.length+1≤1000000000000:=by
      have:(c'.jH B x (p::r) i).A.length≤1000000000000:=by rw[he];exact y
      have e1:(c'.jH B x (p::r) i).A.length=c'.A.length+(fi B c'.L c'.V x (p::r) i c'.d).length:=by unfold CD.jH;rw[ZG]
      have aS:(c'.ex B e).A.length=c'.A.length+(dI B c'.L c'.V e c'.d).length:=by unfold CD.ex;rw[ZG]
      rw[R,ZG,Z9]at e1;omega
     refine ac p N e (by rw[g];exact YK ..) c' c4 xn xs b _ m s j (by omega) λao f f6 u=>?_;simp only[aO,show ∀k:Nat,M k (.ptr id 0)=some (.ptr id (0+k))from λ_=>rfl,W7,G,show O f 1 false (.ptr id 0)=some (aD aE.cells B) by rw[u.row.load];rfl,rY];rw[x1 aX.len x.aK (k:=i) (by omega)];simp only[G];have ap:ba [.str [],ar] [(0,1,.str x.var),(1,1,aD aX.cells (x.aK.take i))]=some (.agg (⟨x.var,x.aK.take i⟩:aW).cells):=by rw[aW.be];rfl
     rw[ap];simp only[G];have av:(⟨x.var,x.aK.take i⟩:aW).ok:=aW.J1 w i;refine KQ aw W B _ (by have:=v.l;rw[show maxLen=9223372036854775807 from by decide];omega) v.o av _ _ ?_;rw[rR];simp only[bI,Zn,Zo,G,aV,aR,aY];refine⟨by rw[(u.row.push _).load];rfl,trivial,trivial,?_⟩;rw[bO _ _ _ 6 (mJ _) (rQ _) rfl];have t7:=T.new f (.row (dH (bP B ⟨x.var,x.aK.take i⟩)));have U:=Z.Ext.push f (.row (dH (bP B ⟨x.var,x.aK.take i⟩)));have ax:=u.ext U;simp only[G];generalize f.push (.row (dH (bP B ⟨x.var,x.aK.take i⟩)))=ay at *;have az:O ay 1 false (.ptr f.n 4)=some (D (j1 B ⟨x.var,x.aK.take i⟩)):=by rw[t7.load];unfold bW;rw[aa (by rw[mJ];decide),aN];exact J0 B _
     simp only[show M 4 (.ptr f.n 0)=some (.ptr f.n 4) by simp[M],G,az,j0];have aC:ba [J,af 0,J,J,.str [],ar,J,J,J,J] [(0,1,D 6),(1,1,af (Xv .u64 (j1 B ⟨x.var,x.aK.take i⟩)))]=some (.agg (cB c'.V 6 (iR (j1 B ⟨x.var,x.aK.take i⟩)) 0 |> λa=>({a with V:=0}:bA)).cells):=rfl;rw[aC];simp only[G];refine j7 aw W ax (by show(c'.ex B e).A.length≤_;omega) λaF aG f8 aI=>?_;simp only[aB,S.vc,aq,bu,G,P];refine E (i+1) ((c'.ex B e).add (cB c'.V 6 (iR (j1 B ⟨x.var,x.aK.take i⟩)) 0)) aF aG K s (fj _) (f5.trans (f6.trans ((CF.ext ao xn xs U).trans f8))) aI ?_;rw[an];exact he
   · have g:p.aZ=[]:=by
       have aT:=ab p N;have:¬((p.aZ.length:Int))=1:=by simpa using q
       exact XJ.1 (by omega)
     simp only[aB,S.vc,aq,bu,G,P];refine E (i+1) c' c4 b K s j f5 m ?_;rw[←he];cases p with
     | mk field aZ=>have:aZ=[]:=g;subst this;unfold CD.jH;simp only[fi,l8,kE];rw[KP,pC];simp only[aX.aZ,bU,aa8];rw[show X (c'.d+X 0)=c'.d by rw[hy,aa8,j]]
 exact main x.aK 0 c xa H rfl ae hs (CF.refl _ _ _ _ _) h rfl
theorem KV(ao:l_ B){L:List (List UInt8×Nat)}(R:L.length≤1000000000):∀e:aA,e.ok→vE B (L.map (·.1)) e→pV C id B L e:=by
 refine aA.ind λe ap av he hv=>?_;obtain⟨⟨bk,ay⟩,T⟩:=aA.dc he;have az:=aW.dc T;obtain⟨aC,bl,bm,U,Y⟩:=(Kg B _ e).1 hv;rw[pP]at Y;obtain⟨f1,f2,f3,f4,f5⟩:=Kx aC;have aE:∀k∈e.a_,pV C id B L k:=λk hk=>ap k hk (ay k hk) (Y k hk);have aF:∀p∈e.place.aK,p.aZ.length≤1:=by
  by_cases b:e.kind≥4
  ·exact sk ((mS B _ _ _).1 (U b)).1
  ·rw[f3 (by omega)];intro p j;cases j
 have aI:∀p∈e.place.aK,∀i∈p.aZ,pV C id B L i:=by
  by_cases b:e.kind≥4
  ·exact λp j i hi=>av p j i hi ((az.2 p j).2 i hi) ((pQ B _).1 ((mS B _ _ _).1 (U b)).2.2 p j i hi)
  ·rw[f3 (by omega)];intro p j;cases j
 intro c xa xn xs H Q h z hs ac w;refine S.OC W ?_;unfold S.f62;have aJ:bg H false 8 (.agg e.cells)=some (.ak e.cells,H):=by unfold bg;rw[aa ⟨rfl,e.len⟩];rfl
 have ad:∀H,O H 1 false (.ak (e.cells.drop 0))=some (D e.kind):=λH=>by rw[aA.be,aW.be];rfl
 have l1:∀H,O H 1 false (.ak (e.cells.drop 1))=some (af e.n):=λH=>by rw[aA.be,aW.be];rfl
 have l2:∀H,O H 1 false (.ak (e.cells.drop 2))=some (.str e.name):=λH=>by rw[aA.be,aW.be];rfl
 have aL:∀H,O H 1 false (.ak (e.cells.drop 3))=some (D e.op):=λH=>by rw[aA.be,aW.be];rfl
 have l4:∀H,O H 1 false (.ak (e.cells.drop 4))=some (D e.aG):=λH=>by rw[aA.be,aW.be];rfl
 have ae:∀H,O H 2 true (.ak (e.cells.drop 5))=some (.agg e.place.cells):=λH=>by rw[aA.be,aW.be];rfl
 have ag:∀H,O H 1 false (.ak (e.cells.drop 7))=some (aD aA.cells e.a_):=λH=>by rw[aA.be,aW.be];rfl
 have x:∀i,M i (.ak e.cells)=some (.ak (e.cells.drop i)):=λ_=>rfl;have aM:∀k:Nat,M k (.ptr id 0)=some (.ptr id (0+k)):=λ_=>rfl;simp only[aJ,aV];rw[show ba [J,af 0,J,J,.str [],ar,J,J,J,J] [(0,1,D 1)]=some (.agg (cB 0 1 0 0).cells)from rfl];simp only[G];have ah:dI B c.L c.V e c.d=cB c.V 1 0 0::(dw B c.L c.V e.place c.d++dX B c.L c.V e.a_ (X (c.d+bS e.place))++[jD c.L c.V e.kind e.n e.name e.op e.aG e.place (X (X (X (c.d+bS e.place)+bU e.a_ 0)+1))]):=by cases e;rw[dI]
 have bn:c.A.length+(1+(dw B c.L c.V e.place c.d).length+(dX B c.L c.V e.a_ (X (c.d+bS e.place))).length+1)≤1000000000000:=by
  have:(c.ex B e).A.length=c.A.length+(dI B c.L c.V e c.d).length:=by unfold CD.ex;rw[ZG]
  rw[this,ah]at ac;simp only[Z9,ZG,Z_]at ac;omega
 refine j7 aw W h (by omega) λbo H1 g1 aN=>?_;simp only[x,ae,G];have aP:((c.add (cB 0 1 0 0)).pl B e.place).A.length=c.A.length+1+(dw B c.L c.V e.place c.d).length:=by unfold CD.pl CD.add;simp only[ZG,Z9,Z_]
 refine KU aw W ao R T aF aI aN z hs (by rw[aP];omega) λaQ aR g2 aS=>?_;have al:(((c.add (cB 0 1 0 0)).pl B e.place).gj B e.a_).A.length=c.A.length+1+(dw B c.L c.V e.place c.d).length+(dX B c.L c.V e.a_ (X (c.d+bS e.place))).length:=by unfold CD.gj CD.pl CD.add;simp only[ZG,Z9,Z_]
 have aT:∀(l:I)(g:Z),CF id H xa xn xs g l xn xs→CR g id B l xn xs (((c.add (cB 0 1 0 0)).pl B e.place).gj B e.a_)→S.z_ (aj C) (.ptr id 0) (.ak e.cells) Q [] g:=by
  intro l g g3 m;generalize v:((c.add (cB 0 1 0 0)).pl B e.place).gj B e.a_=c3 at *;have e1:c3.L=c.L:=by rw[←v];rfl
  have aU:c3.V=c.V:=by rw[←v];rfl
  have E:c3.d=X (X (c.d+bS e.place)+bU e.a_ 0):=by rw[←v];rfl
  have aY:c3.A=c.A++(cB c.V 1 0 0::(dw B c.L c.V e.place c.d++dX B c.L c.V e.a_ (X (c.d+bS e.place)))):=by rw[←v];unfold CD.gj CD.pl CD.add;simp only[aaO,Yi,aaY];rfl
  have a0:c3.nx=c.nx:=by rw[←v];rfl
  have out:∀(a:bA),({a with V:=c.V}:bA)=jD c.L c.V e.kind e.n e.name e.op e.aG e.place (X (X (X (c.d+bS e.place)+bU e.a_ 0)+1))→∀o:CD,o.A=c3.A→o.L=c3.L→o.nx=c3.nx→o.V=c3.V→o.d=X (c.d+gh e 0)→o.add a=c.ex B e:=by intro a a1 o w1 w2 w3 a2 a3;unfold CD.add CD.ex;rw[w1,a2,aU,a1,aY,ah,a3,w2,w3,e1,a0];simp only[aaO,Yi]
  have mw:¬e.kind≥4→c3.d=X (c.d+gh e 0):=by intro hk;rw[E,rZ,ab hk];simp only[hy,gM,fj,aa1,←abh]
  have y:c3.A.length≤1000000000000:=by rw[al];omega
  unfold S.z_;simp only[x,ad,G,bc,ai];apply aH<;>intro q
  · have q:e.kind=1:=by simpa using q
    simp only[l1,G];rw[show ba [J,af 0,J,J,.str [],ar,J,J,J,J] [(0,1,D 2),(1,1,af e.n)]=some (.agg (cB 0 2 e.n 0).cells)from rfl];simp only[G];refine j7 aw W m y λs t g4 b=>?_;rw[out _ (by unfold jD;rw[aa q];rfl) c3 rfl rfl rfl rfl (mw (by omega))]at b;exact w s t (g3.trans g4) b
  have F:¬e.kind=1:=by simpa using q
  apply aH<;>intro q
  · have q:e.kind=2:=by simpa using q
    simp only[l2,G];refine yi aw W m (by rw[e1,z];exact R) e.name ?_;rw[show ∀k:Int,ba [J,af 0,J,J,.str [],ar,J,J,J,J] [(0,1,D 3),(2,1,D k)]=some (.agg (cB 0 3 0 k).cells)from λ_=>rfl];simp only[G];refine j7 aw W m y λs t g4 b=>?_;rw[out _ (by unfold jD;rw[ab F,aa q,e1];rfl) c3 rfl rfl rfl rfl (mw (by omega))]at b;exact w s t (g3.trans g4) b
  have am:¬e.kind=2:=by simpa using q
  apply aH<;>intro q
  · have q:e.kind=3:=by simpa using q
    simp only[aL,G];rw[show ∀k:Int,ba [J,af 0,J,J,.str [],ar,J,J,J,J] [(0,1,D 5),(2,1,D k)]=some (.agg (cB 0 5 0 k).cells)from λ_=>rfl];simp only[G];refine j7 aw W m y λs t g4 b=>?_;rw[out _ (by unfold jD;rw[ab F,ab am,aa q];rfl) c3 rfl rfl rfl rfl (mw (by omega))]at b;exact w s t (g3.trans g4) b
  have a4:¬e.kind=3:=by simpa using q
  have a5:e.kind≥4:=by omega
  simp only[aO,aM,W7,G,show O g 1 false (.ptr id 5)=some (D c3.d) by rw[m.row.load];rfl,bu];have b:=m.put (c':={c3 with d:=X (c3.d+1)}) rfl rfl;rw [show ax g 1 (.ptr id 5) (D (Xv .i64 (c3.d+1)))=some (g.set id (.row (fX B l xn xs {c3 with d:=X (c3.d+1)}))) by rw[m.row.store,aa ⟨rfl,rfl,rfl,(by show 5+1≤7;decide)⟩];rfl]
  have g4:=g3.trans (CF.set l xn xs (.row (fX B l xn xs {c3 with d:=X (c3.d+1)})));simp only[G];generalize g.set id (.row (fX B l xn xs {c3 with d:=X (c3.d+1)}))=t at *;simp only[ae,ad,l4,G,show O t 1 false (.ptr id 5)=some (D (X (c3.d+1))) by rw[b.row.load];rfl];have a6:ba [J,af 0,J,J,.str [],ar,J,J,J,J] [(0,1,D 7),(4,2,.agg e.place.cells),(6,1,D e.kind),(7,1,D e.aG),(8,1,D (X (c3.d+1)))]=some (.agg (⟨7,0,0,0,e.place,e.kind,e.aG,X (c3.d+1),0⟩:bA).cells):=by have a7:(⟨7,0,0,0,e.place,e.kind,e.aG,X (c3.d+1),0⟩:bA).pc=aD aX.cells e.place.aK:=rfl;rw[bA.be,a7,aW.be];rfl
  rw[a6];simp only[G];refine j7 aw W b y λs f g5 u=>?_;rw [out _ (by unfold jD;rw[ab F,ab am,ab a4,E]) {c3 with d:=X (c3.d+1)} rfl rfl rfl rfl (by show X (c3.d+1)=_;rw[E,rZ,aa a5];simp only[hy,gM,fj,aa1,←abh])]at u
  exact w s f (g4.trans g5) u
 have main:∀(r:List aA)(i:Nat)(c':CD)(c4:I)(f:Z),e.a_.drop i=r→c'.L=L→X c'.d=c'.d→CF id H xa xn xs f c4 xn xs→CR f id B c4 xn xs c'→c'.gj B r=((c.add (cB 0 1 0 0)).pl B e.place).gj B e.a_→au (S.ve (aj C) (.ptr id 0) (.ak e.cells) Q) ([D i],f):=by
  intro r;induction r with
  | nil=>intro i c' c4 f K N P g5 u heq;have hle:=db K;refine au.step ?_;simp only[S.ve,aq,x,ag,bH,bb,G,ai,aB];rw[cZ];rw[CD.KR B c' P]at heq;rw[heq]at u;exact aT c4 f g5 u
  | cons k r a8=>
   intro i c' c4 f K N P g5 u heq;obtain⟨a9,an,bd⟩:=c8 K;refine au.step ?_;simp only[S.ve,aq,x,ag,bH,bb,G,ai];rw[ch,cp a9];simp only[G];rw[dd aA.len (by decide) _ an];simp only[G];rw[CD.KS]at heq;have bf:(c'.ex B k).A.length≤1000000000000:=by
    have e1:(c'.ex B k).A.length≤((c'.ex B k).gj B r).A.length:=by unfold CD.gj;rw[ZG];omega
    rw[heq,al]at e1;omega
   refine aE k (Y7 an) c' c4 xn xs f _ u N P bf λbh bi g6 bj=>?_;simp only[bu,G];rw[wrap_i64 (n:=(i:Int)+1) (by omega) (by omega),show(i:Int)+1=((i+1:Nat):Int) by simp];exact a8 (i+1) (c'.ex B k) bh bi bd N (fj _) (g5.trans g6) bj heq
 exact main e.a_ 0 ((c.add (cB 0 1 0 0)).pl B e.place) aQ aR rfl z (fj _) (g1.trans g2) aS rfl
end
end Rb

namespace Rb
open Go
def fF(kw:List UInt8→Bool):List (List UInt8)→List aE→Int
 |_,[]=>0
 |seen,v::r=>if dL v.name=false∨kw v.name=true then 6 else if seen.contains v.name=true then 7 else if(bT v.type).2≠0 then(bT v.type).2 else fF kw (seen++[v.name]) r
theorem CC(kw:List UInt8→Bool)(K:Int)(g:K=70000):∀(l:List aE)(b:List (List UInt8)) (a:Int) (n:Nat),0≤a→a≤n*K→n+l.length≤32→k_ kw b a l=if fF kw b l≠0 then fF kw b l else if fw a l>65536 then 9 else 0
 | [],b,a,n,i,j,k=>by
  have e:fw a []=a:=by rw[fw]
  have f:fF kw b []=0:=by rw[fF]
  by_cases h:a>65536
  ·rw[k_,aa h,f,ab (λz=>z rfl),aa (by rw[e];exact h)]
  ·rw[k_,ab h,f,ab (λz=>z rfl),ab (by rw[e];exact h)]
 | v :: r,b,a,n,i,j,k=>by
  rw[k_,fF,fw];by_cases e1:dL v.name=false∨kw v.name=true
  ·rw[aa e1,aa e1,dW]
  · rw [ab e1,ab e1];by_cases d:b.contains v.name=true
    ·rw[aa d,aa d,dW]
    · rw [ab d,ab d];by_cases c:(bT v.type).2≠0
      ·rw[aa c,aa c,aa c]
      · rw [ab c,ab c];have m:(bT v.type).2=0:=by simpa using c
        obtain⟨b1,b2,b3,o⟩:=pI m;rw[Z9]at k;have p:a≤n*70000:=by rw[←g];exact j
        have hu:=fI (n:=a) (step:=(bT v.type).1.2) (by omega);have hw:X (cJ a (bT v.type).1.2+(bT v.type).1.1)=gY a v+(bT v.type).1.1:=by rw[mH i (by omega) (by omega) (by omega)];exact bM
        rw[hw];unfold gY;exact CC kw K g r _ _ (n+1) (by omega) (by subst g;push_cast;omega) (by omega)
theorem CE(kw:List UInt8→Bool):∀{l:List aE}{seen:List (List UInt8)},fF kw seen l=0→∀v∈l,(bT v.type).2=0
 | v :: r,seen,h,w,hw=>by
  rw[fF]at h;split at h
  ·cases h
  · split at h
    ·cases h
    · split at h
      ·rename_i e;exact absurd h e
      · rename_i e;rcases YI.1 hw with rfl|hw
        ·simpa using e
        ·exact CE kw h w hw
end Rb

namespace Rb
open Go
section
variable{C:Ctx}(aw:cY C)(W:Cl (aj C) S.cr)
include aw W
theorem KW(x:aW):bR (aj C) 82 [.agg x.cells] (.bool (e4 x)):=by
 intro H Q a;refine S.OV W ?_;unfold S.f82;unfold e4 at a;simp only[lY,aV,hR,rY,G,fc,bG];apply aH<;>intro h
 · simp only[ih,bH,G,bc];rw[h,aaa]at a;rw [show((x.aK.length:Int)==0)=(x.aK.length==0) by
     rw[YG];simp]
   exact a
 · have h:(x.var==[])=false:=by simpa using h
   rw[h,aab]at a;exact a
def mY:List Int:=[-1,0,0,2,0,0,1,1,2]
theorem Uc(e:aA):bR (aj C) 84 [.agg e.cells] (.bool (gd e)):=by
 intro H Q d;refine S.OX W ?_;unfold S.f84;have j:∀b:Bool,Q (.bool (b&&(decide (e.kind≥4)||e4 e.place))) H→S.wa (aj C) (.ak e.cells) Q [.bool b] H:=by
  intro b a;unfold S.wa;simp only[aq,bG];cases b with
  |false=>rw[aN];exact a
  | true=>
   rw[aa rfl];simp only[gW,ie,G,eu,b7];apply dD<;>intro q
   · simp only[xD,G];refine KW aw W e.place _ _ ?_;rw[q]at a;exact a
   · rw[q]at a;exact a
 have k:∀b:Bool,Q (.bool (b&&(decide (e.op≤11)&&(decide (e.kind≥4)||e4 e.place)))) H→S.wb (aj C) (.ak e.cells) Q [.bool b] H:=by
  intro b a;unfold S.wb;simp only[aq,bG,aB];cases b with
  |false=>rw[aN];exact j false a
  | true=>rw[aa rfl];simp only[gW,rL,G,gR];exact j _ a
 have l:∀b:Bool,Q (.bool (b&&(decide (e.op≥0)&&(decide (e.op≤11)&&(decide (e.kind≥4)||e4 e.place))))) H→S.wc (aj C) (.ak e.cells) Q [.bool b] H:=by
  intro b a;unfold S.wc;simp only[aq,bG,aB];cases b with
  |false=>rw[aN];exact k false a
  | true=>rw[aa rfl];simp only[gW,rL,G,eu];exact k _ a
 have f:∀b:Bool,Q (.bool (b&&(((e.kind==3)==(e.op != 0))&&(decide (e.op≥0)&&(decide (e.op≤11)&&(decide (e.kind≥4)||e4 e.place)))))) H→S.rf (aj C) (.ak e.cells) Q [.bool b] H:=by
  intro b a;unfold S.rf;simp only[aq,bG,aB];cases b with
  |false=>rw[aN];exact l false a
  | true=>rw[aa rfl];simp only[gW,ie,rL,G,bc,cU];rw[show j9 false (.bool (e.kind==3)) (.bool (e.op != 0))=some (.bool ((e.kind==3)==(e.op != 0)))from rfl];simp only[G];exact l _ a
 have m:∀b:Bool,Q (.bool (b&&((e.name==[]||e.kind==2)&&(((e.kind==3)==(e.op != 0))&&(decide (e.op≥0)&&(decide (e.op≤11)&&(decide (e.kind≥4)||e4 e.place))))))) H→S.we (aj C) (.ak e.cells) Q [.bool b] H:=by
  intro b a;unfold S.we;simp only[aq,bG,aB];cases b with
  |false=>rw[aN];exact f false a
  | true=>
   rw[aa rfl];simp only[gW,xC,G,fc,b7];apply dD<;>intro q
   · rw[q]at a;simp only[ie,G,bc];exact f _ a
   · rw[q]at a;exact f true a
 have r:Q (.bool ((e.n==0||e.kind==1)&&((e.name==[]||e.kind==2)&&(((e.kind==3)==(e.op != 0))&&(decide (e.op≥0)&&(decide (e.op≤11)&&(decide (e.kind≥4)||e4 e.place))))))) H→S.Ak (aj C) (.ak e.cells) Q [] H:=by
  intro a;unfold S.Ak;simp only[gW,Bn,G,bc,b7,aB];apply dD<;>intro q
  · rw[q]at a;simp only[ie,G,bc];exact m _ a
  · rw[q]at a;exact m true a
 have g:∀c:Bool,(c=true→gd e=false)→(c=false→gd e=((e.n==0||e.kind==1)&&((e.name==[]||e.kind==2)&&(((e.kind==3)==(e.op != 0))&&(decide (e.op≥0)&&(decide (e.op≤11)&&(decide (e.kind≥4)||e4 e.place)))))))→S.rh (aj C) (.ak e.cells) Q [.bool c] H:=by
  intro c u v;unfold S.rh;simp only[aq,ai,aB];apply aH<;>intro q
  ·rw[u q]at d;exact d
  · rw[v (by simpa using q)]at d;exact r d
 simp only[rK,aV];refine⟨.av .full 9 (mY.map (D)),H,rfl,?_⟩;simp only[gW,ie,G,bb,b7,aB];apply dD<;>intro h
 · have h:¬e.kind<1:=of_decide_eq_false h;simp only[ie,G,dv,b7];apply dD<;>intro i
   · have i:¬e.kind>8:=of_decide_eq_false i;obtain⟨kk,o,B⟩:∃kk:Nat,e.kind=kk∧kk≤8:=⟨e.kind.toNat,by omega,by omega⟩
     have w:∃z,mY[kk]?=some z∧z=(ft e.kind).1:=by
      have x:kk<mY.length:=by show kk<9;omega
      refine⟨mY[kk],Xc x,?_⟩;rw[o];have:kk=1∨kk=2∨kk=3∨kk=4∨kk=5∨kk=6∨kk=7∨kk=8:=by omega
      rcases this with rfl|rfl|rfl|rfl|rfl|rfl|rfl|rfl<;>rfl
     obtain⟨z,s,p⟩:=w;simp only[rM,bH,ie,G];have t:aU none 1 (.av .full 9 (mY.map (D))) (D e.kind)=some (.ak ((mY.map (D)).drop (kk*1))):=by simp only[aU];rw[aa ⟨by omega,by omega⟩,o];simp
     have hv:O H 1 false (.ak ((mY.map (D)).drop (kk*1)))=some (D z):=by show bW _ 0 1 false=_;unfold bW;have hlen:mY.length=9:=rfl;rw[aa (by rw[ZQ,YU];omega)];simp[s]
     simp only[t,hv,G,cU];refine g _ (λq=>?_) (λq=>?_)
     · have q:(e.a_.length:Int)≠z:=by simpa using q
       unfold gd;have:((e.a_.length:Int)==(ft e.kind).1)=false:=by rw[←p];simpa using q
       rw[this,abi]
     · have q:(e.a_.length:Int)=z:=by simpa using q
       unfold gd;have:((e.a_.length:Int)==(ft e.kind).1)=true:=by rw[←p];simpa using q
       rw[this,aar];clear t hv s p q this j k l f m r g d;have:kk=1∨kk=2∨kk=3∨kk=4∨kk=5∨kk=6∨kk=7∨kk=8:=by omega
       generalize e4 e.place=y;generalize (e.n==0)=A;generalize (e.name==[])=em;have E:(e.op != 0)=!(e.op==0):=rfl;have F:(e.op==0)=true∨(e.op==0)=false:=by cases (e.op==0)<;>simp
       rw[YG];rcases this with rfl|rfl|rfl|rfl|rfl|rfl|rfl|rfl<;>(cases y<;>cases A<;>cases em<;>simp[o,ft]<;>omega)
   · have i:e.kind>8:=of_decide_eq_true i;refine g true (λ_=>?_) (λq=>by cases q);unfold gd;rw[show decide (e.kind≤8)=false from decide_eq_false (by omega)];simp
 · have h:e.kind<1:=of_decide_eq_true h;refine g true (λ_=>?_) (λq=>by cases q);unfold gd;rw[show decide (1≤e.kind)=false from decide_eq_false (by omega)];simp
end
end Rb

namespace Rb
open Go
theorem KX(n:Nat):((n:Int)==0)=(n==0):=by rw[YG];simp
section
variable{C:Ctx}(aw:cY C)(W:Cl (aj C) S.cr)
include aw W
def mZ:List Int:=[-1,1,1,1,1,0,2,0,1,1,1]
theorem Ud(e:ay):bR (aj C) 54 [.agg e.cells] (.bool (fJ e)):=by
 intro H Q g;refine S.Ov W ?_;unfold S.f54;have h:∀b:Bool,Q (.bool (b&&(e.kind==8||e.bq.length==0))) H→S.oY (aj C) (.ak e.cells) Q [.bool b] H:=by
  intro b d;unfold S.oY;simp only[aq,bG];cases b with
  |false=>rw[aN];exact d
  | true=>
   rw[aa rfl];simp only[fM,hO,G,bc,b7];apply dD<;>intro q
   · simp only[rP,bH,G,bc,KX];rw[q]at d;exact d
   ·rw[q]at d;exact d
 have i:∀b:Bool,Q (.bool (b&&(((e.kind==8||e.kind==9)||e.aP.length==0)&&(e.kind==8||e.bq.length==0)))) H→S.qS (aj C) (.ak e.cells) Q [.bool b] H:=by
  intro b d;unfold S.qS;simp only[aq,bG,aB];cases b with
  |false=>rw[aN];exact h false d
  | true=>
   rw[aa rfl];simp only[fM,hO,G,bc,b7];apply dD<;>intro q
   · apply dD<;>intro f
     · simp only[nQ,bH,G,bc,KX];rw[q,f]at d;refine h _ ?_;rw[q];exact d
     · rw[q,f]at d;refine h true ?_;rw[q];exact d
   · rw[q]at d;refine h true ?_;rw[q];exact d
 have j:∀b c:Bool,Q (.bool (b&&((c||e4 e.place)&&(((e.kind==8||e.kind==9)||e.aP.length==0)&&(e.kind==8||e.bq.length==0))))) H→S.qT (aj C) (.ak e.cells) [.bool c] Q [.bool b] H:=by
  intro b c d;unfold S.qT;simp only[aq,bG,aB,b7];cases b with
  |false=>rw[aN];exact i false d
  | true=>
   rw[aa rfl];cases c with
   | false=>rw[aa rfl];simp only[fM,pw,G];exact KW aw W e.place _ _ (i _ d)
   | true=>rw[aN];exact i true d
 have m:∀b c:Bool,Q (.bool (b&&((e.kind==5||e.bQ==[])&&((c||e4 e.place)&&(((e.kind==8||e.kind==9)||e.aP.length==0)&&(e.kind==8||e.bq.length==0)))))) H→S.uW (aj C) (.ak e.cells) [.bool c] Q [.bool b] H:=by
  intro b c d;unfold S.uW;simp only[aq,bG,aB];cases b with
  |false=>rw[aN];exact j false c d
  | true=>
   rw[aa rfl];simp only[fM,hO,G,bc,b7];apply dD<;>intro q
   · simp only[rN,G,fc];rw[q]at d;exact j _ c d
   · rw[q]at d;exact j true c d
 have n:∀a c:Bool,Q (.bool ((a||e.name==[])&&((e.kind==5||e.bQ==[])&&((c||e4 e.place)&&(((e.kind==8||e.kind==9)||e.aP.length==0)&&(e.kind==8||e.bq.length==0)))))) H→S.uX (aj C) (.ak e.cells) [.bool a] Q [.bool c] H:=by
  intro a c d;unfold S.uX;simp only[aq,b7,aB];cases a with
  | false=>rw[aa rfl];simp only[fM,la,G,fc];exact m _ c d
  | true=>rw[aN];exact m true c d
 have o:∀a:Bool,Q (.bool ((a||e.name==[])&&((e.kind==5||e.bQ==[])&&(((decide (e.kind≥3)&&decide (e.kind≤6))||e4 e.place)&&(((e.kind==8||e.kind==9)||e.aP.length==0)&&(e.kind==8||e.bq.length==0)))))) H→S.uY (aj C) (.ak e.cells) Q [.bool a] H:=by
  intro a d;unfold S.uY;simp only[fM,hO,G,eu,bG,aB];apply aH<;>intro q
  · simp only[hO,G,gR];rw[q,aaa]at d;exact n a _ d
  · have q:decide (e.kind≥3)=false:=by simpa using q
    rw[q,aab]at d;exact n a false d
 have s:Q (.bool ((((e.kind==1||e.kind==2)||e.kind==5)||e.name==[])&&((e.kind==5||e.bQ==[])&&(((decide (e.kind≥3)&&decide (e.kind≤6))||e4 e.place)&&(((e.kind==8||e.kind==9)||e.aP.length==0)&&(e.kind==8||e.bq.length==0)))))) H→S.z6 (aj C) (.ak e.cells) Q [] H:=by
  intro d;have t:∀b:Bool,b=(e.kind==1||e.kind==2)→S.uZ (aj C) (.ak e.cells) Q [.bool b] H:=by
   intro b w;unfold S.uZ;simp only[aq,b7,aB];rw[←w]at d;cases b with
   | false=>rw[aa rfl];simp only[fM,hO,G,bc];exact o _ d
   | true=>rw[aN];exact o true d
  unfold S.z6;simp only[fM,hO,G,bc,b7,aB];apply dD<;>intro q
  ·exact t _ (by rw[q];simp)
  ·exact t true (by rw[q];simp)
 have k:∀c:Bool,(c=true→fJ e=false)→(c=false→fJ e=((((e.kind==1||e.kind==2)||e.kind==5)||e.name==[])&&((e.kind==5||e.bQ==[])&&(((decide (e.kind≥3)&&decide (e.kind≤6))||e4 e.place)&&(((e.kind==8||e.kind==9)||e.aP.length==0)&&(e.kind==8||e.bq.length==0))))))→S.qU (aj C) (.ak e.cells) Q [.bool c] H:=by
  intro c x y;unfold S.qU;simp only[aq,ai,aB];apply aH<;>intro q
  ·rw[x q]at g;exact g
  · rw[y (by simpa using q)]at g;exact s g
 simp only[pv,aV];refine⟨.av .full 11 (mZ.map (D)),H,rfl,?_⟩;simp only[fM,hO,G,bb,b7,aB];apply dD<;>intro l
 · have l:¬e.kind<1:=of_decide_eq_false l;simp only[hO,G,dv,b7];apply dD<;>intro f
   · have f:¬e.kind>10:=of_decide_eq_false f;obtain⟨kk,p,J⟩:∃kk:Nat,e.kind=kk∧kk≤10:=⟨e.kind.toNat,by omega,by omega⟩
     have A:∃z,mZ[kk]?=some z∧z=(dG e.kind).2.2.2.1:=by
      have B:kk<mZ.length:=by show kk<11;omega
      refine⟨mZ[kk],Xc B,?_⟩;rw[p];have:kk=1∨kk=2∨kk=3∨kk=4∨kk=5∨kk=6∨kk=7∨kk=8∨kk=9∨kk=10:=by omega
      rcases this with rfl|rfl|rfl|rfl|rfl|rfl|rfl|rfl|rfl|rfl<;>rfl
     obtain⟨z,u,r⟩:=A;simp only[py,bH,hO,G];have v:aU none 1 (.av .full 11 (mZ.map (D))) (D e.kind)=some (.ak ((mZ.map (D)).drop (kk*1))):=by simp only[aU];rw[aa ⟨by omega,by omega⟩,p];simp
     have hv:O H 1 false (.ak ((mZ.map (D)).drop (kk*1)))=some (D z):=by show bW _ 0 1 false=_;unfold bW;have hlen:mZ.length=11:=rfl;rw[aa (by rw[ZQ,YU];omega)];simp[u]
     simp only[v,hv,G,cU];refine k _ (λq=>?_) (λq=>?_)
     · have q:(e.aF.length:Int)≠z:=by simpa using q
       unfold fJ;have:((e.aF.length:Int)==(dG e.kind).2.2.2.1)=false:=by rw[←r];simpa using q
       rw[this,abi,aab,aab]
     · have q:(e.aF.length:Int)=z:=by simpa using q
       unfold fJ;have:((e.aF.length:Int)==(dG e.kind).2.2.2.1)=true:=by rw[←r];simpa using q
       rw[this,aar];clear v hv u r q this h i j m n o s k g;have:kk=1∨kk=2∨kk=3∨kk=4∨kk=5∨kk=6∨kk=7∨kk=8∨kk=9∨kk=10:=by omega
       generalize e4 e.place=E;generalize (e.name==[])=F;generalize (e.bQ==[])=em;generalize (e.aP.length==0)=et;generalize (e.bq.length==0)=I;rcases this with rfl|rfl|rfl|rfl|rfl|rfl|rfl|rfl|rfl|rfl<;>(cases E<;>cases F<;>cases em<;>cases et<;>cases I<;>simp[p,dG])
   · have f:e.kind>10:=of_decide_eq_true f;refine k true (λ_=>?_) (λq=>by cases q);unfold fJ;rw[show decide (e.kind≤10)=false from decide_eq_false (by omega)];simp
 · have l:e.kind<1:=of_decide_eq_true l;refine k true (λ_=>?_) (λq=>by cases q);unfold fJ;rw[show decide (1≤e.kind)=false from decide_eq_false (by omega)];simp
end
end Rb

namespace Rb
open Go
def dt(B:List aE)(s:w):List I:=[aD aE.cells B,D s.lets,D s.V,D s.gV,D s.u]
def m0(x:I)(l:List (List UInt8)):Prop:=∃tk,x = .av tk l.length (l.map I.str)
section
variable{C:Ctx}(aw:cY C)(W:Cl (aj C) S.cr)
include aw W
theorem hX{B:List aE}{s:w}{H:Z}{id:Nat}{Q:ad}(h:T H id (.row (dt B s)))(a:Bool)(e:Int)(c:∀H',E id H H'→T H' id (.row (dt B (s.ck a e)))→Q (.bool ((s.ck a e).u==0)) H'):aj C 53 [.ptr id 0,.bool a,D e] H Q:=by
 refine S.Ou W ?_;unfold S.f53;have d:∀(A:w)(H':Z),T H' id (.row (dt B A))→Q (.bool (A.u==0)) H'→S.uU (aj C) (.ptr id 0) Q [] H':=by intro A H' j k;unfold S.uU;simp only[aO,M,W7,G];rw[show O H' 1 false (.ptr id (3+1))=some (D A.u) by rw[j.load];rfl];simp only[G,bc];exact k
 have f:∀b:Bool,(b=true↔(a=false∧s.u=0))→S.uV (aj C) (.ptr id 0) (D e) Q [.bool b] H:=by
  intro b g;unfold S.uV;unfold w.ck at c;simp only[aq,ai,aB];apply aH<;>intro q
  · rw [aa (g.1 q)]at c;simp only[aO,M,W7,G];rw[show O H 1 false (.ptr id 2)=some (D s.V) by rw[h.load];rfl];simp only[G];rw[show ba [J,J] [(0,1,D s.V),(1,1,D e)]=some (.agg [D s.V,D e])from rfl];simp only[G];rw [show ax H 2 (.ptr id 3) (.agg [D s.V,D e])=some (H.set id (.row (dt B {s with gV:=s.V,u:=e}))) by
      rw[h.store,aa ⟨rfl,rfl,rfl,(by show 3+2≤5;decide)⟩];rfl]
    simp only[G];have i:=h.set (.row (dt B {s with gV:=s.V,u:=e}));exact d _ _ i (c _ (E.set id H _) i)
  · rw[ab (λz=>q (g.2 z))]at c;exact d s H h (c H (E.refl id H) h)
 simp only[aO,M,W7,G];rw[show O H 1 false (.ptr id (3+1))=some (D s.u) by rw[h.load];rfl];simp only[G,bc,bG,aB];apply aH<;>intro q
 · have q:s.u=0:=by simpa using q
   simp only[cV,G];refine f _ ?_;cases a<;>simp[q]
 · have q:¬s.u=0:=by simpa using q
   exact f false ⟨λz=>(by cases z),λz=>absurd z.2 q⟩
theorem su{x:I}{l:List (List UInt8)}(c:m0 x l)(hl:l.length≤1000000)(n:List UInt8):bR (aj C) 56 [x,.str n] (.bool (l.any λy=>n==y)):=by
 obtain⟨tk,rfl⟩:=c;intro H Q b;refine S.Ox W ?_;unfold S.f56;have main:∀(r:List (List UInt8)) (k:Nat),l.drop k=r→(r.any λy=>n==y)=(l.any λy=>n==y)→au (S.u2 (aj C) (.av tk l.length (l.map .str)) (.str n) Q) ([D k],H):=by
  intro r;induction r with
  | nil=>intro k d a;have hle:=db d;refine au.step ?_;simp only[S.u2,aq];rw[show bj false (.av tk l.length (l.map .str))=some (D l.length)from rfl];simp only[G,bb,ai];rw[cZ];rw[←a]at b;exact b
  | cons y r f=>
   intro k d a;obtain⟨j,c,g⟩:=c8 d;refine au.step ?_;simp only[S.u2,aq];rw[show bj false (.av tk l.length (l.map .str))=some (D l.length)from rfl];simp only[G,bb,ai];rw[ch];have h:aU none 1 (.av tk l.length (l.map .str)) (D k)=some (.ak ((l.map I.str).drop (k*1))):=by simp only[aU];rw[aa ⟨by omega,by omega⟩];simp
   have hv:O H 1 false (.ak ((l.map I.str).drop (k*1)))=some (.str y):=by show bW _ 0 1 false=_;unfold bW;rw[aa (by rw[ZQ,YU];omega)];simp[c]
   simp only[h,hv,G,fc,ai];rw[Z4]at a;apply aH<;>intro q
   · have q:y=n:=by simpa using q
     have:(l.any λy=>n==y)=true:=by rw[←a,q];simp
     rw[this]at b;exact b
   · have q:¬y=n:=by simpa using q
     have i:(n==y)=false:=by simpa using λe=>q e.symm
     rw[i,YD]at a;simp only[bu,G];rw[bM,show(k:Int)+1=((k+1:Nat):Int) by simp];exact f (k+1) g a
 exact main l 0 rfl rfl
end
end Rb

namespace Rb
open Go
theorem KY(B:List aE):∀(l:List aA)(s:w)(d:Int),ff B s d l=c0 B s d l
 |[],s,d=>by rw[ff,c0]
 | e::r,s,d=>by
  rw[ff,c0,KY B r];by_cases h:s.u≠0
  ·rw[aa h,IE B h]
  ·rw[ab h]
def yj(C:Ctx)(id:Nat)(B:List aE)(l:List aA):Prop:=∀(s:w)(nx:I)(d:Int)(H:Z)(Q:ad),T H id (.row (dt B s))→m0 nx s.f→s.f.length≤1000→0≤d→d≤100→(∀H',E id H H'→T H' id (.row (dt B (c0 B s d l)))→(c0 B s d l).f=s.f→Q (.aM []) H')→aj C 58 [.ptr id 0,aD aA.cells l,nx,D d] H Q
section
variable{C:Ctx}(aw:cY C)(W:Cl (aj C) S.cr){id:Nat}{B:List aE}
include aw W
theorem KZ(hl:B.length≤maxLen)(hv:∀v∈B,v.ok){x:aW}(U:x.ok)(am:∀p∈x.aK,yj C id B p.aZ){s:w}{nx:I}{k d:Int}{H:Z}{Q:ad}(h:T H id (.row (dt B s)))(an:m0 nx s.f)(ao:s.f.length≤1000)(ap:0≤d)(ar:d≤100)
  (g:∀H',E id H H'→T H' id (.row (dt B (gg B s k d x)))→(gg B s k d x).f=s.f→Q (.aM []) H'):aj C 57 [.ptr id 0,D k,.agg x.cells,nx,D d] H Q:=by
 obtain⟨a1,a2⟩:=aW.dc U;refine S.Oy W ?_;unfold S.f57;rw[Bh]at g;have l4:∀(A:w)(H':Z),T H' id (.row (dt B A))→O H' 1 false (.ptr id (3+1))=some (D A.u):=λA H' j=>by rw[j.load];rfl
 have V:∀(A:w)(H':Z),T H' id (.row (dt B A))→O H' 1 false (.ptr id 0)=some (aD aE.cells B):=λA H' j=>by rw[j.load];rfl
 simp only[lY,aV,aO,M,W7,G,l4 s H h,cU,ai];apply aH<;>intro q
 · rw[aa (by simpa using q)]at g;exact g H (E.refl id H) h rfl
 have av:s.u=0:=by simpa using q
 rw[ab (by simpa using av)]at g;simp only[V s H h,xK,G];refine KQ aw W B x hl hv U _ _ ?_;rw[rR];simp only[bI,Zn,Zo,G,aR,aY,aV];rw[bO H _ (dH (bP B x)) 6 (mJ _) (rQ _) rfl];have ax:=h.push (.row (dH (bP B x)));have w1:=T.new H (.row (dH (bP B x)));have X:=E.push id H (.row (dH (bP B x)));have a3:=h.1;refine⟨V s _ (h.push _),trivial,?_⟩;generalize H.push (.row (dH (bP B x)))=H1 at *;simp only[G,bc];refine hX aw W ax _ _ λa F Y=>?_;have w2:=F.2 _ _ (by omega) w1;unfold iP at g;dsimp only at g;generalize ef:s.ck ((bP B x).1==0) (bP B x).1=s1 at *;have ac:s1.f=s.f:=by rw[←ef,en]
 simp only[cV,G,ai];apply aH<;>intro q
 · have q:s1.u≠0:=by simpa using q
   rw[hN q,IG B q]at g;exact g a (X.trans F) Y ac
 have ae:s1.u=0:=by simpa using q
 have ay:(bP B x).1=0:=by
  have az:(s.ck ((bP B x).1==0) (bP B x).1).u=0:=by rw[ef];exact ae
  by_cases e:(bP B x).1=0
  ·exact e
  ·simpa using(eQ az e).2
 have aF:dH (bP B x)=(bP B x).2.cells:=by unfold dH;rw[aa ay]
 rw[aF]at w2;rw[show(s1.u != 0||gf k (bP B x).2)=gf k (bP B x).2 by rw[ae];rfl]at g;generalize (bP B x).2=t at *;have t0:∀H',T H' H.n (.row t.cells)→O H' 1 false (.ptr H.n 0)=some (D t.kind):=λH' j=>by rw[j.load,aC.be];rfl
 have t1:∀H',T H' H.n (.row t.cells)→O H' 1 false (.ptr H.n 1)=some (D t.size):=λH' j=>by rw[j.load,aC.be];rfl
 have m:S.qV (aj C) (.ptr id 0) nx (D d) (.ak x.cells) Q [.bool (gf k t)] a:=by
  unfold S.qV;simp only[aq];refine hX aw W Y _ _ λaG aI aJ=>?_;have aL:(s1.ck (gf k t) 8).f=s.f:=by rw[en,ac]
  have main:∀(r:List aX)(i:Nat)(A:w)(l:Z),x.aK.drop i=r→E id H l→T l id (.row (dt B A))→A.f=s.f→eD B A d r=eD B (s1.ck (gf k t) 8) d x.aK→au (S.u3 (aj C) (.ptr id 0) nx (D d) (.ak x.cells) Q) ([D i],l):=by
   intro r;induction r with
   | nil=>intro i A l J K L o he;have hle:=db J;rw[eD]at he;refine au.step ?_;simp only[S.u3,aq,hR,ih,bH,G,bb,ai];rw[cZ];exact g l K (by rw[←he];exact L) (by rw[←he];exact o)
   | cons p r aN=>
    intro i A l J K L o he;obtain⟨N,P,aP⟩:=c8 J;rw[eD,Bi,KY]at he;refine au.step ?_;simp only[S.u3,aq,hR,ih,bH,G,bb,ai];rw[ch,cp N];simp only[G];obtain ⟨R,e1,aQ⟩:∃R,M 1 (d_ aX.cells 2 x.aK i)=some R∧∀H,O H 1 false R=some (aD aA.cells p.aZ):=by
     refine⟨.ak (((x.aK.flatMap aX.cells).drop (i*2)).drop 1),rfl,λH=>?_⟩;show bW (((x.aK.flatMap aX.cells).drop (i*2)).drop 1) 0 1 false=_;rw[l6 aX.len,ZH N,Zi];rw[Xc N]at P;cases P;generalize x.aK[i]=p;cases p with
     | mk field aZ=>rw[aX.be];show bW (aD aA.cells aZ::_) 0 1 false=some (aD aA.cells aZ);unfold bW;rw[ki];rfl
    simp only[e1,aQ,G];refine am p (Y7 P) A nx d l _ L (by rw[o];exact an) (by rw[o];exact ao) ap ar λaS aT aU a0=>?_;simp only[bu,G];rw[bM,show(i:Int)+1=((i+1:Nat):Int) by simp];exact aN (i+1) _ aS aP (K.trans aT) aU (a0.trans o) he
  exact main x.aK 0 _ aG rfl ((X.trans F).trans aI) aJ aL rfl
 have af:∀b c:Bool,(b=true↔(k=5∨k=6))→(b=false→c=gf k t)→S.u4 (aj C) (.ptr id 0) nx (D d) (.ak x.cells) (.ptr H.n 0) [.bool c] Q [.bool b] a:=by
  intro b c y hc;unfold S.u4;simp only[aq,ai,aB];apply aH<;>intro q
  · have hk:=y.1 q;have hf:gf k t=(t.kind==2&&t.size==16):=by unfold gf;rw[bF,aa hk]
    rw[hf]at m;simp only[M,W7,t0 a w2,G,bc,bG];apply aH<;>intro z
    · simp only[t1 a w2,G,bc];rw[z,aaa]at m;exact m
    · have z:(t.kind==2)=false:=by simpa using z
      rw[z,aab]at m;exact m
  · rw[hc (by simpa using q)];exact m
 have ag:∀c:Bool,(¬(k=5∨k=6)→c=gf k t)→S.u5 (aj C) (.ptr id 0) (D k) nx (D d) (.ak x.cells) (.ptr H.n 0) Q [.bool c] a:=by
  intro c hc;unfold S.u5;simp only[bc,G,b7,aB];apply dD<;>intro q
  · have q:¬k=5:=by simpa using q
    refine af _ c ⟨λz=> .inr (by simpa using z),λz=>?_⟩ (λz=>hc ?_)
    · rcases z with z|z
      ·exact absurd z q
      ·simpa using z
    · have z:¬k=6:=by simpa using z
      omega
  · have q:k=5:=by simpa using q
    exact af true c ⟨λ_=> .inl q,λ_=>rfl⟩ (λz=>by cases z)
 have ah:∀c:Bool,c=(t.kind==2&&decide (t.size≤8))→S.u7 (aj C) (.ptr id 0) (D k) nx (D d) (.ak x.cells) (.ptr H.n 0) Q [.bool c] a:=by
  intro c hc;have al:∀b:Bool,(b=true↔(k=3∨k=14))→S.u6 (aj C) (.ptr id 0) (D k) nx (D d) (.ak x.cells) (.ptr H.n 0) [.bool c] Q [.bool b] a:=by
   intro b y;unfold S.u6;simp only[aq,ai,aB];apply aH<;>intro q
   · have hk:=y.1 q;simp only[M,W7,t0 a w2,G,bc];refine ag _ (λ_=>?_);unfold gf;rw[aa hk]
   · have hk:¬(k=3∨k=14):=λz=>q (y.2 z);refine ag _ (λz=>?_);unfold gf;rw[ab hk,ab z];exact hc
  unfold S.u7;simp only[bc,G,b7,aB];apply dD<;>intro q
  · have q:¬k=3:=by simpa using q
    refine al _ ⟨λz=> .inr (by simpa using z),λz=>?_⟩;rcases z with z|z
    ·exact absurd z q
    ·simpa using z
  · have q:k=3:=by simpa using q
    exact al true ⟨λ_=> .inl q,λ_=>rfl⟩
 simp only[t0 a w2,G,bc,bG,aB];apply aH<;>intro z
 · simp only[M,W7,t1 a w2,G,gR];exact ah _ (by rw[z,aaa])
 · have z:(t.kind==2)=false:=by simpa using z
   exact ah false (by rw[z,aab])
end
end Rb

namespace Rb
open Go
section
variable{Φ:ae}{k o:Int}{H:Z}{Q:ad}
theorem Ue(s:List UInt8)(hs:s.length<1000)(e:∀c∈s,48≤c.toNat∧c.toNat≤57)(f:Q (.bool (s.any λc=>o==((c.toNat:Int)-48))) H):S.mA Φ (D o) Q [.str s] H:=by
 unfold S.mA;have main:∀(b:List UInt8)(i:Nat),s.drop i=b→Q (.bool (b.any λc=>o==((c.toNat:Int)-48))) H→au (S.u0 Φ (D o) [.str s] Q) ([D i],H):=by
  intro b;induction b with
  | nil=>
   intro i hi a;have:s.length≤i:=by simpa using hi
   refine au.step ?_;simp only[S.u0,aq,ph,bb,G,ai];rw[jo];simpa using a
  | cons y b g=>
   intro i hi a;obtain⟨k,d,h⟩:=c8 hi;have hm:=e y (Y7 d);refine au.step ?_;simp only[S.u0,aq,ph,bb,G,ai];rw[oc];have j:iZ (.str s) (D i)=some (.int .u8 y.toNat):=by simp only[iZ];rw[df];simp[d]
   rw[j];simp only[G,dA,j0];rw[wrap_u8 (by omega) (by omega),bM];simp only[bc,G,ai];by_cases he:(o==((y.toNat:Int)-48))=true
   · rw[aa he];rw[Z4,he]at a;simpa using a
   · rw[ab he];simp only[Bool.not_eq_true]at he;rw[Z4,he]at a;simp only[bu,G];rw[bM,fb i];exact g (i+1) h (by simpa using a)
 exact main s 0 rfl f
theorem Uf(a:Q (.bool (fe k o)) H):S.f55 Φ (D k) (D o) H Q:=by
 have e:∀b:Bool,b=fe k o→Q (.bool b) H:=λb h=>by rw[h];exact a
 have l:∀s:List UInt8,s.length<1000→(∀c∈s,48≤c.toNat∧c.toNat≤57)→(s.any λc=>o==((c.toNat:Int)-48))=fe k o→S.mA Φ (D o) Q [.str s] H:=λs d f g=>Ue s d f (e _ g);simp only[S.f55,S.u1,S.z7,S.z8,aB,aq,bc,G,ai]
 repeat' (apply aH<;>intro h)
 all_goals (refine l _ (by decide) (by decide) ?_;simp only[b9]at *;first|(subst_vars;simp[fe];done)|(subst_vars;simp[fe];rw[YG];simp;omega)|(simp_all [fe];done)|(simp_all [fe];rw[YG];simp;omega)|skip)
end
section
variable{C:Ctx}(W:Cl (aj C) S.cr)
include W
theorem K0(k o:Int):bR (aj C) 55 [D k,D o] (.bool (fe k o)):=λH Q a=>S.Ow W (Uf a)
end
end Rb

namespace Rb
open Go
variable{H:Z}{e:aA}
theorem Ug{id:Nat}(h:T H id (.row e.cells)):O H 1 false (.ptr id 2)=some (.str e.name):=by rw[h.load,aA.be,aW.be];rfl
theorem Uh{id:Nat}(h:T H id (.row e.cells)):O H 1 false (.ptr id 4)=some (D e.aG):=by rw[h.load,aA.be,aW.be];rfl
def K1(C:Ctx)(id:Nat)(B:List aE)(e:aA):Prop:=yj C id B e.a_∧∀p∈e.place.aK,yj C id B p.aZ
section
variable{C:Ctx}(aw:cY C)(W:Cl (aj C) S.cr){id:Nat}{B:List aE}
include aw W
theorem yk(aL:B.length≤maxLen)(hv:∀v∈B,v.ok){l:List aA}(hl:l.length≤9223372036854775807)(aP:∀e∈l,e.ok∧K1 C id B e):yj C id B l:=by
 intro s nx d H Q h Y ap d0 d1 ac;refine S.Oz W ?_;unfold S.f58;have l4:∀(A:w)(H':Z),T H' id (.row (dt B A))→O H' 1 false (.ptr id (3+1))=some (D A.u):=λA H' aQ=>by rw[aQ.load];rfl
 have main : ∀(r:List aA)(i:Nat)(A:w)(a:Z),l.drop i=r→E id H a→T a id (.row (dt B A))→A.f=s.f→c0 B A d r=c0 B s d l→au (S.oZ (aj C) (.ptr id 0) (aD aA.cells l) nx (D d) Q) ([D i],a):=by
  intro r;induction r with
  | nil=>intro i A a ad I k o he;have hle:=db ad;rw[c0]at he;refine au.step ?_;simp only[S.oZ,aq,bH,G,bb,bG,aB];rw[cZ];unfold S.vb;simp only[aq,ai];rw[aN];exact ac a I (by rw[←he];exact k) (by rw[←he];exact o)
  | cons e r aS=>
   intro i A a ad I k o he;obtain⟨aT,ar,aU⟩:=c8 ad;obtain⟨aW,aX,aZ⟩:=aP e (Y7 ar);obtain⟨⟨bg,bh⟩,a0⟩:=aA.dc aW;refine au.step ?_;simp only[S.oZ,aq,bH,G,bb,bG,aB];rw[ch];simp only[aO,M,W7,G,l4 A a k,bc];unfold S.vb;simp only[aq,ai,aB];apply aH<;>intro q
   · have ae : A.u=0:=by simpa using q
     rw[c0,ab (by simpa using ae),Bg]at he;unfold S.FD;simp only[aq];rw[cp aT];simp only[G];rw[dd aA.len (by decide) _ ar];simp only[G,aR,aY,aV];rw[bO _ _ _ 8 e.len e.scalar rfl];have a1:=T.new a (.row e.cells);have a2:=k.push (.row e.cells);have a3:=I.trans (E.push id a (.row e.cells));have bi:=k.1;simp only[G,bb];generalize a.push (.row e.cells)=bj at *;have af:X (d+1)=d+1:=bM;rw[af]at he;have a4:decide (d<64)=decide (d+1≤64):=by rw[YG];simp;omega
     rw[a4];have ag:dC A (d+1) e=((A.ck (decide (d+1≤64)) 5).ck (gd e) 4).ck (fe (X (10+e.kind)) e.aG) 11:=rfl;have bad:∀(j:Z),E id H j→(dC A (d+1) e).u≠0→T j id (.row (dt B (dC A (d+1) e)))→Q (.aM []) j:=by intro j J av K;rw[aa av,rI B av]at he;exact ac j J (by rw[←he];exact K) (by rw[←he,x_];exact o)
     refine hX aw W a2 _ _ λj J K=>?_;simp only[cV,G,b7,aB];generalize ef:A.ck (decide (d+1≤64)) 5=s1 at *;have ax:=a3.trans J;have ay:=J.2 _ _ (by omega) a1;apply dD<;>intro b
     · have b:s1.u=0:=by simpa using b
       have bk:d+1≤64:=by have:=(eQ (by rw[ef];exact b) (by decide)).2;simpa using this
       rw[I4 ay];simp only[G];refine Uc aw W e _ _ ?_;refine hX aw W K _ _ λa5 az aC=>?_;simp only[cV,G];generalize cC:s1.ck (gd e) 4=s2 at *;have aE:=ax.trans az;have ah:=az.2 _ _ (by omega) ay;unfold S.va;simp only[aq,b7,aB];apply dD<;>intro z2
       · have z2:s2.u=0:=by simpa using z2
         simp only[M,W7,xH ah,Uh ah,G,bu];refine K0 W _ _ _ _ ?_;refine hX aw W aC _ _ λaF aI L=>?_;simp only[cV,G];rw[←ag]at L ⊢;have ak:=aE.trans aI;have N:=aI.2 _ _ (by omega) ah;unfold S.qW;simp only[aq,ai,aB];apply aH<;>intro z3
         ·exact bad aF ak (by simpa using z3) L
         have z3:(dC A (d+1) e).u=0:=by simpa using z3
         rw[ab (by simpa using z3)]at he;have a6:=x_ A (d+1) e;generalize dC A (d+1) e=al at *;have am:al.f=s.f:=by rw[a6,o]
         have aJ:∀(m:w)(c:Z),E id H c→T c id (.row (dt B m))→T c a.n (.row e.cells)→m.f=s.f→c0 B (c0 B (if e.kind≥4 then gg B m (X (10+e.kind)) (d+1) e.place else m) (d+1) e.a_) d r=c0 B s d l→S.u_ (aj C) (.ptr id 0) nx (D d) (.ptr a.n 0) ([D i],a) (au (S.oZ (aj C) (.ptr id 0) (aD aA.cells l) nx (D d) Q)) Q [] c:=by
          intro m c p t P R U;have aK:∀(x:w)(g:Z),E id H g→T g id (.row (dt B x))→T g a.n (.row e.cells)→x.f=s.f→c0 B (c0 B x (d+1) e.a_) d r=c0 B s d l→S.u9 (aj C) (.ptr id 0) nx (D d) (.ptr a.n 0) ([D i],a) (au (S.oZ (aj C) (.ptr id 0) (aD aA.cells l) nx (D d) Q)) Q [] g:=by intro x g V an a7 ao a8;unfold S.u9;simp only[M,W7,Bs a7,G,bu];rw[show Xv .i64 (d+1)=d+1 from af];refine aX x nx (d+1) g _ an (by rw[ao];exact Y) (by rw[ao];exact ap) (by omega) (by omega) λa9 ba bd be=>?_;simp only[aB,S.FB,aq,bu,G];rw[wrap_i64 (n:=(i:Int)+1) (by omega) (by omega),show(i:Int)+1=((i+1:Nat):Int) by simp];exact aS (i+1) _ a9 aU (V.trans ba) bd (be.trans ao) a8
          unfold S.u_;simp only[M,W7,xH P,G,eu,ai,aB];apply aH<;>intro z4
          · have z4:e.kind≥4:=of_decide_eq_true z4;rw[aa z4]at U;simp only[I3 P,G,bu];rw[show Xv .i64 (d+1)=d+1 from af];refine KZ aw W aL hv a0 aZ t (by rw[R];exact Y) (by rw[R];exact ap) (by omega) (by omega) λg V an bf=>?_;exact aK _ g (p.trans V) an (V.2 _ _ (by omega) P) (bf.trans R) U
          · have z4:¬e.kind≥4:=λz=>z4 (decide_eq_true z);rw[ab z4]at U;exact aK m c p t P R U
         unfold S.FC;simp only[M,W7,xH N,G,bc,ai,aB];apply aH<;>intro z4
         · have z4:e.kind=2:=by simpa using z4
           simp only[z4,aY]at he;simp only[Ug N,G];refine su aw W Y (by omega) e.name _ _ ?_;refine hX aw W L _ _ λc p t=>?_;rw[show(s.f.any λy=>e.name==y)=al.has e.name by rw[←am];rfl]at t;refine aJ _ c (ak.trans p) t (p.2 _ _ (by omega) N) (by rw[en,am]) ?_;rw[z4];exact he
         · have z4:¬e.kind=2:=by simpa using z4
           simp only[z4,cu]at he;exact aJ al aF ak L N am he
       · have z2:s2.u≠0:=by simpa using z2
         have F:dC A (d+1) e=s2:=by rw[ag,hN z2]
         unfold S.qW;simp only[aq,ai];rw[aa trivial];exact bad a5 aE (by rw[F];exact z2) (by rw[F];exact aC)
     · have b:s1.u≠0:=by simpa using b
       have F:dC A (d+1) e=s1:=by rw[ag,hN b,hN b]
       unfold S.va;simp only[aq,b7,aB];rw[aN];unfold S.qW;simp only[aq,ai];rw[aa trivial];exact bad j ax (by rw[F];exact b) (by rw[F];exact K)
   · have ae:A.u≠0:=by simpa using q
     rw[rI B ae]at he;exact ac a I (by rw[←he];exact k) (by rw[←he];exact o)
 exact main l 0 s H rfl (E.refl id H) h rfl rfl
theorem K2(c:B.length≤maxLen)(hv:∀v∈B,v.ok):∀e:aA,e.ok→K1 C id B e:=by refine aA.ind λe f g he=>?_;obtain⟨⟨h,d⟩,j⟩:=aA.dc he;have b:=aW.dc j;exact⟨yk aw W c hv h λk hk=>⟨d k hk,f k hk (d k hk)⟩,λp a=>yk aw W c hv (b.2 p a).1 λi hi=>⟨(b.2 p a).2 i hi,g p a i hi ((b.2 p a).2 i hi)⟩⟩
end
end Rb

namespace Rb
open Go
def CG:List UInt8:=[118,97,114,32,116,104,114,101,97,100,32,115,116,114,117,99,116,32,117,110,105,111,110,32,112,97,99,107,101,100,32,117,56,32,117,49,54,32,117,51,50,32,117,54,52,32,97,56,32,97,49,54,32,97,51,50,32,97,54,52,32,97,49,50,56,32,108,101,116,32,115,101,116,32,119,114,105,116,101,32,115,116,111,114,101,32,108,111,97,100,50,32,115,116,111,114,101,50,32,102,101,110,99,101,32,105,102,32,101,108,115,101,32,119,104,105,108,101,32,112,114,105,110,116,32,114,101,97,100,32,108,111,97,100,32,97,100,100,32,115,119,97,112,32,99,97,115,32,114,108,120,32,97,99,113,32,114,101,108,32,115,99]
def hY:List (List UInt8):=[[118,97,114],[116,104,114,101,97,100],[115,116,114,117,99,116],[117,110,105,111,110],[112,97,99,107,101,100],[117,56],[117,49,54],[117,51,50],[117,54,52],[97,56],[97,49,54],[97,51,50],[97,54,52],[97,49,50,56],[108,101,116],[115,101,116],[119,114,105,116,101],[115,116,111,114,101],[108,111,97,100,50],[115,116,111,114,101,50],[102,101,110,99,101],[105,102],[101,108,115,101],[119,104,105,108,101],[112,114,105,110,116],[114,101,97,100],[108,111,97,100],[97,100,100],[115,119,97,112],[99,97,115],[114,108,120],[97,99,113],[114,101,108],[115,99]]
def bJ(s:List UInt8):Bool:=hY.any λx=>s==x
section
variable{C:Ctx}(aw:cY C)(W:Cl (aj C) S.cr)
include aw W
theorem Ui(b:∀(H:Z)(Q:ad),Q (.av .dead 34 (hY.map .str)) H→aj C 96 [.str CG] H Q)(s:List UInt8):bR (aj C) 72 [.str s] (.bool (bJ s)):=by
 intro H Q c;refine S.OL W ?_;unfold S.f72;refine b _ _ ?_;refine Bm W (xs:=hY) rfl (λi x a=>?_) (by decide) c;have d:=(Wh.1 a).1;refine⟨.ak ((hY.map I.str).drop (i*1)),?_,?_⟩
 · simp only[aU];have hl:hY.length=34:=rfl;rw[aa ⟨by omega,by omega⟩];simp
 · show bW _ 0 1 false=_;unfold bW;rw[aa (by rw[ZQ,YU];omega)];simp[a]
end
end Rb

namespace Rb
open Go
section
variable{C:Ctx}(aw:cY C)(W:Cl (aj C) S.cr)
include aw W
theorem K3(s:List UInt8):bR (aj C) 21 [.str s] (.bool (bJ s)):=by
 intro H Q b;refine S.Oc W ?_;unfold S.f21;refine S.On W ?_;unfold S.f49;refine⟨.av .full 34 (hY.map .str),H,by rfl,?_⟩;have main:∀(r:List (List UInt8)) (k:Nat),hY.drop k=r→r.any (λx=>s==x)=bJ s→au (S.ub (aj C) (.str s) (.av .full 34 (hY.map .str)) Q) ([D k],H):=by
  intro r;induction r with
  | nil=>intro k c a;have hle:=db c;have hl:hY.length=34:=rfl;refine au.step ?_;simp only[S.ub,aq];rw[show bj false (.av .full 34 (hY.map .str))=some (D 34)from rfl];simp only[G,bb,ai];rw[cZ];rw[←a]at b;exact b
  | cons x r d=>
   intro k c a;obtain⟨j,f,g⟩:=c8 c;have hl:hY.length=34:=rfl;refine au.step ?_;simp only[S.ub,aq];rw[show bj false (.av .full 34 (hY.map .str))=some (D 34)from rfl];simp only[G,bb,ai];rw[ch];have h:aU none 1 (.av .full 34 (hY.map .str)) (D k)=some (.ak ((hY.map I.str).drop (k*1))):=by simp only[aU];rw[aa ⟨by omega,by omega⟩];simp
   have hv:O H 1 false (.ak ((hY.map I.str).drop (k*1)))=some (.str x):=by show bW _ 0 1 false=_;unfold bW;rw[aa (by rw[ZQ,YU];omega)];simp[f]
   simp only[h,hv,G,fc,ai];rw[Z4]at a;apply aH<;>intro q
   · have q:x=s:=by simpa using q
     rw[q]at a;have:bJ s=true:=by rw[←a];simp
     rw[this]at b;exact b
   · have q:¬x=s:=by simpa using q
     have i:(s==x)=false:=by simpa using λe=>q e.symm
     rw[i,YD]at a;simp only[bu,G];rw[bM,show(k:Int)+1=((k+1:Nat):Int) by simp];exact d (k+1) g a
 exact main hY 0 rfl rfl
end
end Rb

namespace Rb
open Go
variable{H:Z}{s:w}{e:ay}{n0:Nat}{x:I}
theorem kH(a b:I)(l:List I):sl (a::b::l) 1=b:=rfl
theorem lr{id:Nat}(h:T H id (.row e.cells)):O H 1 false (.ptr id 2)=some (.str e.name):=by rw[h.load,ay.be,aW.be];rfl
theorem yl{id:Nat}(h:T H id (.row e.cells)):O H 1 false (.ptr id 3)=some (.str e.bQ):=by rw[h.load,ay.be,aW.be];rfl
theorem pW{id:Nat}(h:T H id (.row e.cells)):O H 1 false (.ptr id 4)=some (D e.aG):=by rw[h.load,ay.be,aW.be];rfl
def jj(H:Z)(id:Nat)(B:List aE)(s:w):Prop:=∃A,T H id (.row (dt B A))∧A.u=s.u∧A.gV=s.gV∧(s.u=0→A.lets=s.lets)
theorem jj.of{id:Nat}{B:List aE}(h:T H id (.row (dt B s))):jj H id B s:=⟨s,h,rfl,rfl,λ_=>rfl⟩
theorem jj.ca{id:Nat}{B:List aE}{s t:w}(h:jj H id B s)(f:t.u=s.u)(g:t.gV=s.gV)(i:s.u=0→t.lets=s.lets):jj H id B t:=by obtain⟨A,a,b,c,d⟩:=h;exact⟨A,a,b.trans f.symm,c.trans g.symm,λe=>(d (f▸e)).trans (i (f▸e)).symm⟩
def LI(s:w):Prop:=s.u=0→(s.f.length:Int)≤s.lets∧s.lets≤40
theorem Uj(B:List aE)(kw:List UInt8→Bool)(h:s.u≠0)(d:Int)(x:ay):dK B kw s d x=s:=by
 unfold dK;split
 ·rw[hN h,hN h,hN h]
 · split
   ·rw[hN h]
   · split
     ·rw[Q3 B h]
     ·rfl
theorem Uk(s:w)(x:ay)(h:s.u≠0):(fK s x).u=s.u∧(fK s x).gV=s.gV:=by
 unfold fK;split
 ·exact⟨rfl,rfl⟩
 · split
   ·rw[hN h,hN h,hN h];exact⟨rfl,rfl⟩
   ·exact⟨rfl,rfl⟩
theorem Ul(B:List aE)(kw:List UInt8→Bool){d:Int}{x:ay}(h:(dV s d x).u≠0):(stM B kw s d x).u=(dV s d x).u∧(stM B kw s d x).gV=(dV s d x).gV:=by
 have a:(dq B kw s d x).u=(dV s d x).u∧(dq B kw s d x).gV=(dV s d x).gV:=by unfold dq;rw[Uj B kw h,rI B h];exact Uk _ x h
 have b:(dq B kw s d x).u≠0:=by rw[a.1];exact h
 rw[stM_eq];unfold dN;rw[kB B kw b,kB B kw (s:=(((dq B kw s d x).back _).at x.V)) b];exact a
def sv(C:Ctx)(id:Nat)(B:List aE)(kw:List UInt8→Bool)(l:List ay):Prop:=∀(s:w)(nx:I)(d:Int)(H:Z)(Q:ad),jj H id B s→m0 nx s.f→s.f.length≤100→LI s→0≤d→d≤65→(∀H',E id H H'→jj H' id B (dN B kw s d l)→LI (dN B kw s d l)→Q (.aM []) H')→aj C 24 [.ptr id 0,aD ay.cells l,nx,D d] H Q
theorem n2{l:List (List UInt8)}(h:cD n0 H 1 x l.length (l.map I.str)):m0 x l:=by obtain⟨tk,rfl,_⟩:=h;exact⟨tk,rfl⟩
theorem cD.iq{H H':Z}{sz len id:Nat}{cells cs:List I}(h:cD n0 H sz x len cells)(c:T H id (.row cs))(k:E id H H'):cD n0 H' sz x len cells:=h.frame λt a b ht=>k.2 t _ (λe=>by subst e;exact absurd (ht.2.symm.trans c.2) (by intro q;cases q)) ht
theorem g_(s:w)(a:Bool)(e:Int):(s.ck a e).lets=s.lets:=by unfold w.ck;split<;>rfl
theorem sw(s:w)(d:Int)(e:aA):(dC s d e).lets=s.lets:=by unfold dC;rw[g_,g_,g_]
theorem Um(s:w)(d:Int)(e:ay):(dV s d e).lets=s.lets:=by unfold dV;rw[g_,g_,g_]
section
variable(B:List aE)
theorem Un(s:w)(k:Int)(x:aW):(iP B s k x).lets=s.lets:=by unfold iP;dsimp only;rw[g_,g_]
mutual
theorem K4:∀(e:aA)(s:w)(d:Int),(ic B s d e).lets=s.lets
 | .mk kind n name op aG place a_,s,d=>by
  rw[ic];split
  ·exact sw _ _ _
  · rw [CH a_];split
    · rw[K5 place];split
      ·rw[g_,sw]
      ·exact sw _ _ _
    · split
      ·rw[g_,sw]
      ·exact sw _ _ _
theorem CH:∀(l:List aA)(s:w)(d:Int),(c0 B s d l).lets=s.lets
 |[],s,d=>by rw[c0]
 | e::r,s,d=>by
  rw[c0,CH r];split
  ·rfl
  ·exact K4 e s _
theorem K5:∀(x:aW)(s:w)(k d:Int),(gg B s k d x).lets=s.lets
 | .mk var aK,s,k,d=>by
  rw[gg];split
  ·rfl
  ·rw[K6 aK,Un]
theorem K6:∀(l:List aX)(s:w)(d:Int),(eD B s d l).lets=s.lets
 |[],s,d=>by rw[eD]
 |p::r,s,d=>by rw[eD,K6 r,Uo p]
theorem Uo:∀(p:aX)(s:w)(d:Int),(jz B s d p).lets=s.lets
 | .mk field aZ,s,d=>by rw[jz,K7 aZ]
theorem K7:∀(l:List aA)(s:w)(d:Int),(ff B s d l).lets=s.lets
 |[],s,d=>by rw[ff]
 |e::r,s,d=>by rw[ff,K7 r,K4 e]
end
end
section
variable{C:Ctx}(aw:cY C)(W:Cl (aj C) S.cr){id:Nat}{B:List aE}
include aw W
theorem CI(a0:B.length≤maxLen)(hv:∀v∈B,v.ok){l:List ay}(hl:l.length≤9223372036854775807)(cA:∀x∈l,x.ok)(cB:∀x∈l,sv C id B bJ x.aP∧sv C id B bJ x.bq):sv C id B bJ l:=by
 intro s nx d H Q h cE dA cF d0 d1 bl;refine S.Of W ?_;unfold S.f24;have cG:∀K:ad,(∀own H1,cD H.n H1 1 own s.f.length (s.f.map I.str)→Left H.n H H1→K own H1)→aJ (cX H false 1 16 (.av .full 0 []) nx) K:=by
  intro K bm;obtain⟨tk,rfl⟩:=cE;by_cases R:s.f=[]
  · rw[R]at bm ⊢;exact⟨_,_,rfl,bm _ _ ⟨.full,rfl,rfl,.inr (.inl rfl)⟩ ⟨hT _,λi o hi _=>hi⟩⟩
  · have cH:s.f.length≠0:=λe=>R (XJ.1 e);have cI:cD H.n H 1 (.av .full 0 []) 0 []:=⟨.full,rfl,rfl,.inr (.inl rfl)⟩
    refine cD.app (len:=0) (m:=s.f.length) (news:=s.f.map I.str) cI (hT _) (by show(if _ then _ else _)=_;rw[ki]) (by simp) (by simp[I.scalar]) cH (by omega) (by omega) λcJ H' a1 cK=>?_;rw[W7,aaY]at a1;exact bm cJ H' a1 cK
 rw[show c9 H false 1 0 [.str []] []=some (.av .full 0 [],H)from rfl];simp only[aV];refine cG _ λown H1 bn b0=>?_;have b3:id<H.n:=by obtain⟨A,a,_⟩:=h;exact a.1
 have cL:E id H H1:=(E.refl id H).left b0;have cM:jj H1 id B s:=by obtain⟨A,a,b⟩:=h;exact⟨A,b0.2 _ _ a (.inl b3),b⟩
 have cN:∀(A:w)(H':Z),T H' id (.row (dt B A))→O H' 1 false (.ptr id (3+1))=some (D A.u):=λA H' bo=>by rw[bo.load];rfl
 have l1:∀(A:w)(H':Z),T H' id (.row (dt B A))→O H' 1 false (.ptr id 1)=some (D A.lets):=λA H' bo=>by rw[bo.load];rfl
 have main : ∀ (r:List ay) (i:Nat) (A:w) (own:I) (g:Z),l.drop i=r→E id H g→jj g id B A→(A.u=0→cD H.n g 1 own A.f.length (A.f.map I.str))→LI A→el B bJ A s.f.length d r=el B bJ s s.f.length d l→au (S.lJ (aj C) (.ptr id 0) (aD ay.cells l) (D d) Q) ([own,D i],g):=by
  intro r;induction r with
  | nil=>
   intro i A own g bp bd bs b4 bt he;have hle:=db bp;rw[el]at he;refine au.step ?_;simp only[S.lJ,aq,kH,bH,G,bb,bG,aB];rw[cZ];unfold S.uk;simp only[aq,ai];rw[aN];have an:dN B bJ s d l=A.back s.f.length:=he.symm;refine bl g bd ?_ ?_
   ·rw[an];exact bs.ca rfl rfl (λ_=>rfl)
   · rw[an];intro e;have:=bt e;show((A.f.take s.f.length).length:Int)≤A.lets∧A.lets≤40;rw[Z1];omega
  | cons x r cO =>
   intro i A own g bp bd bs b4 bt he;obtain⟨cP,a1,cQ⟩:=c8 bp;have b5:=Y7 a1;obtain⟨cR,b6⟩:=cB x b5;obtain⟨b8,⟨cS,b9⟩,_,_⟩:=ay.dc (cA x b5);have bv:=aW.dc b8;obtain⟨b_,be,e1,cb,cc⟩:=bs;refine au.step ?_;simp only[S.lJ,aq,kH,bH,G,bb,bG,aB];rw[ch];simp only[aO,M,W7,G,cN b_ g be,bc];unfold S.uk;simp only[aq,ai,aB];apply aH<;>intro q
   · have R : A.u = 0 := by rw [← e1]; simpa using q
     have bn:=b4 R;obtain⟨cd,ce⟩:=bt R;rw[el,ab (by simpa using R)]at he;unfold S.E1;simp only[aq,kH];rw[cp cP];simp only[G];rw[dd ay.len (by decide) _ a1];simp only[G,aR,aY,aV];rw[bO _ _ _ 10 x.len x.scalar rfl];have cf:=T.new g (.row x.cells);have bw:=be.push (.row x.cells);have cT:=bd.trans (E.push id g (.row x.cells));have cU:cD H.n (g.push (.row x.cells)) 1 own A.f.length (A.f.map I.str):=bn.frame λt a b ht=>ht.push _;have dB:=be.1;simp only[G];have dC:(g.push (.row x.cells)).n=g.n+1:=rfl;generalize g.push (.row x.cells)=az at *;have J:id≠g.n:=by omega
     simp only[M,W7,xI cf,G,aO];rw [show ax az 1 (.ptr id 2) (D x.V)=some (az.set id (.row (dt B (A.at x.V)))) by rw[bw.store,aa ⟨rfl,rfl,rfl,(by show 2+1≤5;decide)⟩];unfold dt w.at;rw[←e1,←cb,←cc R];rfl]
     have cg:=bw.set (.row (dt B (A.at x.V)));have cW:T (az.set id (.row (dt B (A.at x.V)))) g.n (.row x.cells):=cf.br (λe=>J e.symm) _;have cY:=cT.trans (E.set id az (.row (dt B (A.at x.V))));have c2:cD H.n (az.set id (.row (dt B (A.at x.V)))) 1 own A.f.length (A.f.map I.str):=cU.iq bw (E.set id az _);simp only[G,gR];generalize az.set id (.row (dt B (A.at x.V)))=dE at *;have ef:(A.at x.V).f=A.f:=rfl;have c3:(A.at x.V).lets=A.lets:=rfl;generalize A.at x.V=s1 at *;have ci:X (d+1)=d+1:=bM;have bx:dV s1 d x=((s1.ck (decide (d≤64)) 5).ck (fJ x) 4).ck (fe x.kind x.aG) 11:=rfl;have bad:∀(aA:Z),E id H aA→(dV s1 d x).u≠0→T aA id (.row (dt B (dV s1 d x)))→Q (.aM []) aA:=by
      intro aA a2 k a3;obtain⟨b1,b2⟩:=Ul B bJ k;rw[kB B bJ (by rw[b1];exact k)]at he;have an:dN B bJ s d l=(stM B bJ s1 d x).back s.f.length:=he.symm;refine bl aA a2 ?_ ?_
      ·rw[an];exact(jj.of a3).ca b1 b2 (λe=>absurd e k)
      · rw[an];intro e;exact absurd (b1▸e:(dV s1 d x).u=0) k
     refine hX aw W cg _ _ λaA a2 a3=>?_;simp only[cV,G,b7,aB];generalize cC:s1.ck (decide (d≤64)) 5=s2 at *;have cj:=cY.trans a2;have cl:=a2.2 _ _ (λe=>J e.symm) cW;have c4:=c2.iq cg a2;apply dD<;>intro ao
     · have ao : s2.u=0:=by simpa using ao
       have dF:d≤64:=by have:=(eQ (by rw[cC];exact ao) (by decide)).2;simpa using this
       rw[Bt cl];simp only[G];refine Ud aw W x _ _ ?_;refine hX aw W a3 _ _ λc6 bz bA=>?_;simp only[cV,G];generalize jW:s2.ck (fJ x) 4=bB at *;have cm:=cj.trans bz;have bC:=bz.2 _ _ (λe=>J e.symm) cl;have c7:=c4.iq a3 bz;unfold S.uj;simp only[aq,b7,aB];apply dD<;>intro z2
       · have z2 : bB.u=0:=by simpa using z2
         simp only[M,W7,lf bC,pW bC,G];refine K0 W _ _ _ _ ?_;refine hX aw W bA _ _ λbf bD Y=>?_;simp only[cV,G];rw[←bx]at Y ⊢;have a4:=cm.trans bD;have ac:=bD.2 _ _ (λe=>J e.symm) bC;have aL:=c7.iq bA bD;unfold S.qH;simp only[aq,ai,aB];apply aH<;>intro z3
         ·exact bad bf a4 (by simpa using z3) Y
         have z3:(dV s1 d x).u=0:=by simpa using z3
         have c_:=si s1 d x;have da:=Um s1 d x;have bE:dq B bJ s1 d x=fK (c0 B (dK B bJ (dV s1 d x) d x) d x.aF) x:=rfl;generalize dV s1 d x=j at *;have ag:j.f=A.f:=by rw[c_,ef]
         have a5:j.lets=A.lets:=by rw[da,c3]
         have bF:∀(P:I)(aC:Z),E id H aC→T aC id (.row (dt B (dq B bJ s1 d x)))→T aC g.n (.row x.cells)→cD H.n aC 1 P (dq B bJ s1 d x).f.length ((dq B bJ s1 d x).f.map I.str)→LI (dq B bJ s1 d x)→(dq B bJ s1 d x).f.length≤100 →
           S.uf (aj C) (.ptr id 0) (D d) (.ptr g.n 0) ([own,D i],g) (au (S.lJ (aj C) (.ptr id 0) (aD ay.cells l) (D d) Q)) [P] Q [] aC:=by
          intro P aC de cn co cq df bI;have bg:=stM_eq B bJ s1 d x;generalize dq B bJ s1 d x=c at *;rw[ci]at bg;unfold S.uf;simp only[aq,kH,M,W7,rX co,G,bu];rw[show Xv .i64 (d+1)=d+1 from ci];refine cR c P (d+1) aC _ (jj.of cn) (n2 cq) bI df (by omega) (by omega) λbK bL bN dg=>?_;have dh:=bL.2 _ _ (λe=>J e.symm) co;have bP:=cq.iq cn bL;have cr:=de.trans bL;simp only[pB dh,G];have fin:∀ae,E id H ae→jj ae id B (stM B bJ s1 d x)→((stM B bJ s1 d x).u=0→cD H.n ae 1 P (stM B bJ s1 d x).f.length ((stM B bJ s1 d x).f.map I.str))→LI (stM B bJ s1 d x)→U (S.zW (aj C) ([own,D i],g) (au (S.lJ (aj C) (.ptr id 0) (aD ay.cells l) (D d) Q)) Q) [P] ae:=by intro ae aQ aE di bh;simp only[aB,S.zW,aq,kH,bu,G];rw[wrap_i64 (n:=(i:Int)+1) (by omega) (by omega),show(i:Int)+1=((i+1:Nat):Int) by simp];exact cO (i+1) _ P ae cQ aQ aE di bh he
          by_cases aS:(dN B bJ c (d+1) x.aP).u=0
          · have dj:=pM B bJ x.aP c c.f.length (d+1) (hT _) aS;have bR:(dN B bJ c (d+1) x.aP).f=c.f:=by
             have:=dj.2.1;rw[Zw]at this;exact this
            have bS:∃cs,T bK id (.row cs):=by obtain⟨dG,a,_⟩:=bN;exact⟨_,a⟩
            obtain⟨dH,bS⟩:=bS;refine b6 ((dN B bJ c (d+1) x.aP).at x.V) P (d+1) bK _ (bN.ca rfl rfl (λ_=>rfl)) ?_ ?_ ?_ (by omega) (by omega) λae aQ aE bh=>?_
            · show m0 P (dN B bJ c (d+1) x.aP).f;rw[bR];exact n2 bP
            · show(dN B bJ c (d+1) x.aP).f.length≤100;rw[bR];exact bI
            ·exact dg
            · rw [←bg]at aE bh;refine fin ae (cr.trans aQ) aE (λe=>?_) bh;rw[bg]at e ⊢;have ct:=(pM B bJ x.bq _ _ (d+1) (hT _) e).2.1;have dk:(dN B bJ ((dN B bJ c (d+1) x.aP).at x.V) (d+1) x.bq).f=c.f:=by
               rw[Zw]at ct;exact ct.trans bR
              rw[dk];exact bP.iq bS aQ
          · have dl:({(dN B bJ c (d+1) x.aP)with f:=c.f}:w).u≠0:=aS;refine b6 {(dN B bJ c (d+1) x.aP)with f:=c.f} P (d+1) bK _ (bN.ca rfl rfl (λ_=>rfl)) (n2 bP) bI (λe=>absurd e aS) (by omega) (by omega) λae aQ aE _=>?_;have bT:stM B bJ s1 d x=((dN B bJ c (d+1) x.aP).at x.V).back ((dN B bJ c (d+1) x.aP).at x.V).f.length:=by
             rw[bg];exact kB B bJ (s:=(dN B bJ c (d+1) x.aP).at x.V) aS _ _ _
            have dm:dN B bJ {(dN B bJ c (d+1) x.aP)with f:=c.f} (d+1) x.bq=({(dN B bJ c (d+1) x.aP)with f:=c.f}:w).back c.f.length:=kB B bJ dl _ _ _;rw[dm]at aE;refine fin ae (cr.trans aQ) ?_ (λe=>?_) (λe=>?_)
            ·rw[bT];exact aE.ca rfl rfl (λ_=>rfl)
            ·rw[bT]at e;exact absurd e aS
            ·rw[bT]at e;exact absurd e aS
         have bi:∀(y:Z),E id H y→T y id (.row (dt B (dK B bJ j d x)))→T y g.n (.row x.cells)→cD H.n y 1 own A.f.length (A.f.map I.str)→(dK B bJ j d x).f=A.f→(dK B bJ j d x).lets=A.lets→(x.kind=1→(dK B bJ j d x).u=0→A.lets<40) →
           S.oU (aj C) (.ptr id 0) (D d) (.ptr g.n 0) ([own,D i],g) (au (S.lJ (aj C) (.ptr id 0) (aD ay.cells l) (D d) Q)) Q [] y:=by
          intro y F L ah ap a6 bU dn;generalize dK B bJ j d x=aT at *;unfold S.oU;simp only[aq,kH,M,W7,rW ah,G];refine yk aw W a0 hv cS (λe he=>⟨b9 e he,K2 aw W a0 hv e (b9 e he)⟩) aT own d y _ L (by rw[a6];exact n2 ap) (by rw[a6];omega) d0 (by omega) λa7 aI ar ak=>?_;have al:=aI.2 _ _ (λe=>J e.symm) ah;have aU:=ap.iq L aI;have bj:=F.trans aI;have bk:=CH B x.aF aT d;have dp:(c0 B aT d x.aF).u=0→aT.u=0:=λe=>(ya B x.aF aT d e).1;rw[a6]at ak;rw[bU]at bk;generalize c0 B aT d x.aF=c at *;simp only[lf al,G,bc,ai,aB];apply aH<;>intro c1
          · have c1:x.kind=1:=by simpa using c1
            simp only[lr al,G];rw[show c9 a7 false 1 1 [.str []] [(0,1,.str x.name)]=some (.av .full 1 [.str x.name],a7)from rfl];simp only[aV];refine cD.app (news:=[.str x.name]) (m:=1) aU (At (hT _) (by have:=bj.1;omega)) rfl rfl rfl (by decide) (by omega) (by omega) λP N a8 bV=>?_;have af:T N id (.row (dt B c)):=bV.2 _ _ ar (.inl b3);have aX:T N g.n (.row x.cells):=bV.2 _ _ al (.inr λa b e=>by cases e);have am:=bj.left bV;simp only[aO,M,W7,G,l1 c N af,bu];have k:dq B bJ s1 d x=c.k9 x.name:=by rw[bE];unfold fK;rw[aa c1]
            rw [show ax N 1 (.ptr id 1) (D (Xv .i64 (c.lets+1)))=some (N.set id (.row (dt B (c.k9 x.name)))) by rw[af.store,aa ⟨rfl,rfl,rfl,(by show 1+1≤5;decide)⟩];rfl]
            have a9:=af.set (.row (dt B (c.k9 x.name)));have aZ:T (N.set id (.row (dt B (c.k9 x.name)))) g.n (.row x.cells):=aX.br (λe=>J e.symm) _;have a_:=am.trans (E.set id N (.row (dt B (c.k9 x.name))));have bW:=a8.iq af (E.set id N (.row (dt B (c.k9 x.name))));simp only[G];generalize N.set id (.row (dt B (c.k9 x.name)))=cu at *;unfold S.ug;simp only[aq,kH,M,W7,lf aZ,G,bc,ai,aB];rw[c1,aN];rw[←k]at a9;have hlen:(dq B bJ s1 d x).f=A.f++[x.name]:=by rw[k];show c.f++[x.name]=_;rw[ak]
            refine bF P cu a_ a9 aZ ?_ ?_ ?_
            · rw[hlen,ZG,aau];exact bW
            · intro e;rw[hlen,k]at *;have dr:c.u=0:=e;have dI:=dn c1 (dp dr);show((A.f++[x.name]).length:Int)≤X (c.lets+1)∧X (c.lets+1)≤40;rw[bk,show X (A.lets+1)=A.lets+1 from bM,ZG,aap];push_cast;omega
            ·rw[hlen,ZG,aap];omega
          · have c1:¬x.kind=1:=by simpa using c1
            unfold S.ug;simp only[aq,kH,M,W7,lf al,G,bc,ai,aB];apply aH<;>intro c5
            · have c5:x.kind=5:=by simpa using c5
              have cv:m0 own c.f:=by rw[ak];exact n2 aU
              have k:dq B bJ s1 d x=((c.ck (c.has x.name) 6).ck (c.has x.bQ) 6).ck (!(x.name==x.bQ)) 7:=by rw[bE];unfold fK;rw[ab c1,aa c5]
              have bX:(dq B bJ s1 d x).f=A.f:=by rw[k,en,en,en,ak]
              have ds:(dq B bJ s1 d x).lets=A.lets:=by rw[k,g_,g_,g_,bk]
              simp only[lr al,G];refine su aw W cv (by rw[ak];omega) x.name _ _ ?_;refine hX aw W ar _ _ λN am af=>?_;have aX:=am.2 _ _ (λe=>J e.symm) al;have a8:=aU.iq ar am;simp only[yl aX,G];refine su aw W cv (by rw[ak];omega) x.bQ _ _ ?_;refine hX aw W af _ _ λcu a_ a9=>?_;have aZ:=a_.2 _ _ (λe=>J e.symm) aX;have bW:=a8.iq af a_;simp only[lr aZ,yl aZ,G,ky];refine hX aw W a9 _ _ λcw bY du=>?_;have dv:=bY.2 _ _ (λe=>J e.symm) aZ;have dw:=bW.iq a9 bY;have dx:T cw id (.row (dt B (dq B bJ s1 d x))):=by rw[k];exact du
              refine bF own cw (((bj.trans am).trans a_).trans bY) dx dv (by rw[bX];exact dw) ?_ (by rw[bX];omega);intro e;rw[bX,ds];exact⟨cd,ce⟩
            · have c5:¬x.kind=5:=by simpa using c5
              have k:dq B bJ s1 d x=c:=by rw[bE];unfold fK;rw[ab c1,ab c5]
              refine bF own a7 bj (by rw[k];exact ar) al (by rw[k,ak];exact aU) ?_ (by rw[k,ak];omega);intro e;rw[k,ak,bk];exact⟨cd,ce⟩
         have cx:m0 own j.f:=by rw[ag];exact n2 aL
         unfold S.E0;simp only[aq,kH,M,W7,lf ac,G,bc,ai,aB];apply aH<;>intro c1
         · have c1:x.kind=1:=by simpa using c1
           have hf:dK B bJ j d x=((j.ck (dL x.name&&!bJ x.name) 6).ck (!j.has x.name) 7).ck (decide (j.lets<40)) 12:=by unfold dK;rw[aa c1]
           have a6:(dK B bJ j d x).f=A.f:=by rw[hf,en,en,en,ag]
           have bU:(dK B bJ j d x).lets=A.lets:=by rw[hf,g_,g_,g_,a5]
           have cy:∀y,E id bf y→T y id (.row (dt B (j.ck (dL x.name&&!bJ x.name) 6)))→S.uh (aj C) (.ptr id 0) (D d) (.ptr g.n 0) ([own,D i],g) (au (S.lJ (aj C) (.ptr id 0) (aD ay.cells l) (D d) Q)) Q [] y:=by
            intro y F L;have ah:=F.2 _ _ (λe=>J e.symm) ac;have ap:=aL.iq Y F;unfold S.uh;simp only[aq,kH,M,W7,lr ah,G];refine su aw W cx (by rw[ag];omega) x.name _ _ ?_;simp only[cV,G];refine hX aw W L _ _ λa7 aI ar=>?_;have al:=aI.2 _ _ (λe=>J e.symm) ah;have aU:=ap.iq L aI;simp only[aO,M,W7,l1 _ a7 ar,G,bb];refine hX aw W ar _ _ λN am af=>?_;have aX:=am.2 _ _ (λe=>J e.symm) al;have a8:=aU.iq ar am;have dy:T N id (.row (dt B (dK B bJ j d x))):=by rw[hf];rw[g_,g_]at af;exact af
            refine bi N (((a4.trans F).trans aI).trans am) dy aX a8 a6 bU (λ_ e=>?_);rw[hf]at e;have:=(eQ e (by decide)).2;rw[←a5];simpa using this
           simp only[lr ac,G];refine S.AG W (BV ?_);simp only[bG];apply aH<;>intro z
           · simp only[lr ac,G];refine K3 aw W x.name _ _ ?_;simp only[cV,G];refine hX aw W Y _ _ λy F L=>?_;refine cy y F ?_;rw[z,aaa];exact L
           · have z:dL x.name=false:=by simpa using z
             refine hX aw W Y _ _ λy F L=>?_;refine cy y F ?_;rw[z,aab];exact L
         · have c1:¬x.kind=1:=by simpa using c1
           apply aH<;>intro aK
           · have aK:x.kind=2:=by simpa using aK
             have hf:dK B bJ j d x=j.ck (j.has x.name) 6:=by unfold dK;rw[ab c1,aa aK]
             simp only[lr ac,G];refine su aw W cx (by rw[ag];omega) x.name _ _ ?_;refine hX aw W Y _ _ λy F L=>?_;have ah:=F.2 _ _ (λe=>J e.symm) ac;have ap:=aL.iq Y F;refine bi y (a4.trans F) (by rw[hf];exact L) ah ap (by rw[hf,en,ag]) (by rw[hf,g_,a5]) (λe=>absurd e c1)
           · have aK:¬x.kind=2:=by simpa using aK
             have cz:∀b:Bool,(b=true↔(x.kind=3∨x.kind=4∨x.kind=5∨x.kind=6))→S.ui (aj C) (.ptr id 0) (D d) (.ptr g.n 0) ([own,D i],g) (au (S.lJ (aj C) (.ptr id 0) (aD ay.cells l) (D d) Q)) Q [.bool b] bf:=by
              intro b k;unfold S.ui;simp only[aq,kH,ai,aB];apply aH<;>intro z
              · have z:=k.1 z;have hf:dK B bJ j d x=gg B j x.kind d x.place:=by unfold dK;rw[ab c1,ab aK,aa z]
                simp only[M,W7,lf ac,nS ac,G];refine KZ aw W a0 hv b8 (λp bZ=>yk aw W a0 hv (bv.2 p bZ).1 λi hi=>⟨(bv.2 p bZ).2 i hi,K2 aw W a0 hv i ((bv.2 p bZ).2 i hi)⟩) Y (by rw[ag];exact n2 aL) (by rw[ag];omega) d0 (by omega) λy F L dz=>?_;have ah:=F.2 _ _ (λe=>J e.symm) ac;have ap:=aL.iq Y F;refine bi y (a4.trans F) (by rw[hf];exact L) ah ap (by rw[hf,dz,ag]) (by rw[hf,K5,a5]) (λe=>absurd e c1)
              · have z:¬(x.kind=3∨x.kind=4∨x.kind=5∨x.kind=6):=λe=>z (k.2 e);have hf:dK B bJ j d x=j:=by unfold dK;rw[ab c1,ab aK,ab z]
                refine bi bf a4 (by rw[hf];exact Y) ac aL (by rw[hf,ag]) (by rw[hf,a5]) (λe=>absurd e c1)
             simp only[eu,gR,G,bG];apply aH<;>intro z
             · have z:x.kind≥3:=of_decide_eq_true z;exact cz _ ⟨λe=>by have:=of_decide_eq_true e;omega,λe=>decide_eq_true (by omega)⟩
             · have z:¬x.kind≥3:=λe=>z (decide_eq_true e);exact cz false ⟨λe=>(by cases e),λe=>by omega⟩
       · have z2:bB.u≠0:=by simpa using z2
         have ba:dV s1 d x=bB:=by rw[bx,hN z2]
         unfold S.qH;simp only[aq,ai];rw[aa trivial];exact bad c6 cm (by rw[ba];exact z2) (by rw[ba];exact bA)
     · have ao:s2.u≠0:=by simpa using ao
       have ba:dV s1 d x=s2:=by rw[bx,hN ao,hN ao]
       unfold S.uj;simp only[aq,b7,aB];rw[aN];unfold S.qH;simp only[aq,ai];rw[aa trivial];exact bad aA cj (by rw[ba];exact ao) (by rw[ba];exact a3)
   · have R:A.u≠0:=by rw[←e1];simpa using q
     rw[kB B bJ R]at he;have an:dN B bJ s d l=A.back s.f.length:=he.symm;refine bl g bd ?_ ?_
     ·rw[an];exact jj.ca ⟨b_,be,e1,cb,cc⟩ rfl rfl (λ_=>rfl)
     ·rw[an];exact λe=>absurd e R
 exact main l 0 s own H1 rfl cL cM (λ_=>bn) cF rfl
theorem Up(b:B.length≤maxLen)(hv:∀v∈B,v.ok):∀x:ay,x.ok→sv C id B bJ x.aP∧sv C id B bJ x.bq:=by refine ay.ind λx e f g=>?_;obtain⟨_,_,⟨h,c⟩,i,d⟩:=ay.dc g;exact⟨CI aw W b hv h c λy a=>e y a (c y a),CI aw W b hv i d λy a=>f y a (d y a)⟩
end
end Rb

namespace Rb
open Go
variable{k:Nat}{a:bA}{α:Type}
def CD.st(B:List aE)(c:CD)(x:ay):CD:=⟨c.A++jG B x c.A.length c.nx c.L c.d,eo c.L c.nx x,c.nx+kF x,X (c.d+hp x 0),yf x⟩
def CD.bl(B:List aE)(c:CD)(l:List ay):CD:=⟨c.A++cP B l c.A.length c.nx c.L c.d,c.L,c.nx+cI l,X (c.d+c_ l 0),e5 l c.V⟩
theorem Uq{A:List bA}(h:A[k]?=some a)(v:Int):(A.flatMap bA.cells).set (k*10+2) (D v)=(A.set k {a with k:=v}).flatMap bA.cells:=by
 induction A generalizing k with
 |nil=>simp at h
 | cons b r c=>
  cases k with
  | zero=>simp at h;subst h;rw[abj,Zi,Zi,bA.be,bA.be];rfl
  | succ k=>rw[List.set_cons_succ,Zi,Zi,←c (by simpa using h),abk _ _ (by rw[b.len];omega),b.len];congr 2;omega
theorem CR.patch{H:Z}{id:Nat}{B:List aE}{xa xn xs:I}{c:CD}(h:CR H id B xa xn xs c)(g:c.A[k]?=some a)(v:Int):∃j H',aU none 10 xa (D k)=some (.ptr j (k*10))∧ax H 1 (.ptr j (k*10+2)) (D v)=some H'∧CF id H xa xn xs H' xa xn xs∧CR H' id B xa xn xs {c with A:=c.A.set k {a with k:=v}}:=by
 have hk:=(Wh.1 g).1;obtain⟨j,cs,b,d,p,r,z⟩:=h.a.addr hk;obtain⟨d1,d2,d3⟩:=h.da j b;have C:k*10+2<c.A.length*10:=by omega
 refine⟨j,H.set j (.row (cs.set (k*10+2) (D v))),p,?_,⟨hT _,λi o g1 g2 g3 g4 t=>t.br (λe=>g2 (by rw[e];exact b)) _,λ_ q=> .inl q,λ_ q=> .inl q,λ_ q=> .inl q⟩,?_⟩
 ·rw[d.store,aa ⟨rfl,rfl,rfl,by omega⟩];rfl
 · refine ⟨h.row.br (λe=>d1 e.symm) _,?_,h.n.set d2 _,h.s.set d3 _,h.da,h.dn,h.ds⟩;refine⟨by rw[xZ bA.len],?_⟩;rcases h.a.2 with⟨tk,_,E,_⟩|⟨F,f,m,l,u,w,x,G⟩
   ·omega
   · rw[l]at b;cases b;have y:f=cs:=by have:=u.2.symm.trans d.2;simpa using this
     subst y;refine .inr ⟨j,f.set (k*10+2) (D v),m,by rw[l,YH],d.set _,by rw[YH];exact w,by rw[YH];exact x,?_⟩;show(f.set (k*10+2) (D v)).take ((c.A.set k {a with k:=v}).length*10)=(c.A.set k {a with k:=v}).flatMap bA.cells;rw[YH,List.take_set,r,Uq g]
theorem K8(l m:List α)(x y:α):(l++(x::m)).set l.length y=l++(y::m):=by rw[abk _ _ (hT _),aaK,abj]
theorem K9(l m:List α)(x:α):(l++(x::m))[l.length]?=some x:=by rw[List.getElem?_append_right (hT _),aaK];rfl
theorem Ur(B:List aE)(x:ay)(b n:Nat)(L:List (List UInt8×Nat))(a:Int):∃t,jG B x b n L a=dR B L x.V x.place x.aF a++t∧1≤t.length:=by
 refine⟨_,mV B x b n L a,?_⟩;split
 ·unfold l9;simp only[Z9];omega
 · split
   ·unfold lp;simp only[Z9];omega
   ·simp
def sx(C:Ctx)(id:Nat)(B:List aE)(l:List ay):Prop:=
 ∀ (c:CD) (xa xn xs:I) (H:Z) (Q:ad),CR H id B xa xn xs c→vB B (c.L.map (·.1)) l→X c.d=c.d→(c.bl B l).A.length≤1000000000000→c.L.length+cI l≤1000000000→c.nx+cI l≤1000000000 →
  (∀c4 dy e6 H',CF id H xa xn xs H' c4 dy e6→CR H' id B c4 dy e6 (c.bl B l)→Q (.aM []) H')→aj C 27 [.ptr id 0,aD ay.cells l] H Q
section
variable{C:Ctx}(aw:cY C)(W:Cl (aj C) S.cr){id:Nat}{B:List aE}
include aw W
theorem CJ(bX:l_ B){l:List ay}(hl:l.length≤9223372036854775807)(dK:∀x∈l,x.ok)(cQ:∀x∈l,sx C id B x.aP∧sx C id B x.bq):sx C id B l:=by
 intro F aL aM aN H0 Q bY dL gJ e0 dM dN dO;refine S.Og W ?_;unfold S.f27;have ae:∀k:Nat,M k (.ptr id 0)=some (.ptr id (0+k)):=λ_=>rfl;have r1:∀{H:Z}{xa xn xs:I}{c:CD},CR H id B xa xn xs c→O H 1 false (.ptr id 1)=some xa:=λh=>by rw[h.row.load];rfl
 have bZ:∀{H:Z}{xa xn xs:I}{c:CD},CR H id B xa xn xs c→O H 1 false (.ptr id 2)=some xn:=λh=>by rw[h.row.load];rfl
 have e2:∀{H:Z}{xa xn xs:I}{c:CD},CR H id B xa xn xs c→O H 1 false (.ptr id 3)=some xs:=λh=>by rw[h.row.load];rfl
 have r4:∀{H:Z}{xa xn xs:I}{c:CD},CR H id B xa xn xs c→O H 1 false (.ptr id 4)=some (D c.nx):=λh=>by rw[h.row.load];rfl
 have aI:∀{H:Z}{xa xn xs:I}{c:CD},CR H id B xa xn xs c→O H 1 false (.ptr id 5)=some (D c.d):=λh=>by rw[h.row.load];rfl
 simp only[aO,ae,W7,G,bZ bY,bY.n.len];have cR:∀(w:Int),ba [J,af 0,J,J,.str [],ar,J,J,J,J] [(0,1,D w)]=some (.agg [D w,af 0,J,J,.str [],ar,J,J,J,J]):=λ_=>rfl;have main : ∀(r:List ay)(i:Nat)(c:CD)(xa xn xs:I)(g:Z),l.drop i=r→CF id H0 aL aM aN g xa xn xs→CR g id B xa xn xs c→vB B (c.L.map (·.1)) r→X c.d=c.d→F.L.length≤c.L.length→c.L.take F.L.length=F.L→c.L.length+cI r≤1000000000→c.nx+cI r≤1000000000→({c.bl B r with L:=F.L}:CD)=F.bl B l →
   au (S.jX (aj C) (.ptr id 0) (aD ay.cells l) (D F.L.length) Q) ([D i],g):=by
  intro r;induction r with
  | nil=>
   intro i c xa xn xs g b0 g5 y hv hs bj bk bB cS he;have hle:=db b0;refine au.step ?_;simp only[S.jX,aq,bH,bb,G,ai,aB];rw[cZ];simp only[S.E3,aO,ae,W7,G,bZ y];obtain⟨dy,dP,cT,n3⟩:=y.n.cut bj;obtain⟨b1,aQ,b2⟩:=cT.known;rw[dP];simp only[G];have bm:∀j,cb dy=some j→cb xn=some j:=λj f=>by rw[←n3];exact f
   rw [show ax g 1 (.ptr id 2) dy=some (g.set id (.row [aD aE.cells B,xa,dy,xs,D c.nx,D c.d,D c.V])) by rw[y.row.store,aa ⟨b1,by rw[aQ];rfl,by rw[aQ];simp[b2],(by show 2+1≤7;decide)⟩,aQ];rfl]
   have b3:=y.row.set (.row [aD aE.cells B,xa,dy,xs,D c.nx,D c.d,D c.V]);have dQ:=y.s.set (λe=>y.ds _ e rfl) (.row [aD aE.cells B,xa,dy,xs,D c.nx,D c.d,D c.V]);have n6:=cT.set (λe=>(y.dn _ (bm _ e)).1 rfl) (.row [aD aE.cells B,xa,dy,xs,D c.nx,D c.d,D c.V]);have a6:=y.a.set (λe=>(y.da _ e).1 rfl) (.row [aD aE.cells B,xa,dy,xs,D c.nx,D c.d,D c.V]);have g6:=CF.set (id:=id) (H:=g) xa xn xs (.row [aD aE.cells B,xa,dy,xs,D c.nx,D c.d,D c.V]);simp only[G];generalize g.set id (.row [aD aE.cells B,xa,dy,xs,D c.nx,D c.d,D c.V])=aS at *;simp only[show O aS 1 false (.ptr id 3)=some xs by rw[b3.load];rfl,G];obtain⟨e6,t1,t2,t3⟩:=dQ.cut bj;obtain⟨b4,aT,b5⟩:=t2.known;rw[t1];simp only[G];have bn:∀j,cb e6=some j→cb xs=some j:=λj f=>by rw[←t3];exact f
   rw [show ax aS 1 (.ptr id 3) e6=some (aS.set id (.row [aD aE.cells B,xa,dy,e6,D c.nx,D c.d,D c.V])) by rw[b3.store,aa ⟨b4,by rw[aT];rfl,by rw[aT];simp[b5],(by show 3+1≤7;decide)⟩,aT];rfl]
   simp only[G];have hc:c.bl B []=c:=by unfold CD.bl;simp only[cP,cI,c_,e5,ZO,WW,aa8,hs]
   rw[hc]at he;refine dO xa dy e6 _ (g5.trans ⟨by have:=g6.n;exact this,λi o ao aU a8 bC ad=>(g6.k i o ao aU a8 bC ad).br ao _,λ_ q=> .inl q,λj f=> .inl (bm j f),λj f=> .inl (bn j f)⟩) ?_;rw[←he];refine⟨b3.set _,a6.set (λe=>(y.da _ e).1 rfl) _,?_,?_,λj f=>?_,λj f=>?_,λj f=>y.ds j (bn j f)⟩
   · rw[aaZ,←aa9,bk]at n6;exact n6.set (λe=>(y.dn _ (bm _ e)).1 rfl) _
   · rw[aaZ,←aa9,bk]at t2;exact t2.set (λe=>y.ds _ (bn _ e) rfl) _
   · obtain⟨ao,aU,a8⟩:=y.da j f;exact⟨ao,λe=>aU (bm j e),λe=>a8 (bn j e)⟩
   · obtain⟨ao,aU⟩:=y.dn j (bm j f);exact⟨ao,λe=>aU (bn j e)⟩
  | cons x r dS=>
   intro i c xa xn xs g b0 g5 y hv hs bj bk bB cS he;obtain⟨dT,cU,dU⟩:=c8 b0;have b6:=Y7 cU;obtain⟨cV,⟨e3,dV⟩,_,_⟩:=ay.dc (dK x b6);have dW:=aW.dc cV;obtain⟨dY,dZ⟩:=hv;obtain⟨v1,v2,v3,v4,v5,v6,d0,d1,v9⟩:=(Ce B _ x).1 dY;obtain⟨f1,f2,f3,f4,f5,f6⟩:=Cp v1;rw[cI,mW]at bB cS;have a9:c.L.length≤1000000000:=by omega
   have cW:(c.st B x).bl B r={c.bl B (x::r)with L:=eo c.L c.nx x}:=by unfold CD.st CD.bl;simp only[cP,cI,e5,aaO,ZG];rw[T2,WD]
   have b7:(c.st B x).A.length≤1000000000000:=by
    have e1:(c.st B x).A.length≤((c.st B x).bl B r).A.length:=by show _≤((c.st B x).A++_).length;rw[ZG];omega
    rw[cW]at e1;have b8:(c.bl B (x::r)).A=(F.bl B l).A:=by rw[←he]
    have cX:({c.bl B (x::r)with L:=eo c.L c.nx x}:CD).A.length=(F.bl B l).A.length:=by rw[←b8]
    omega
   have cY:(c.st B x).A=c.A++jG B x c.A.length c.nx c.L c.d:=rfl;have d2:c.A.length+(dR B c.L x.V x.place x.aF c.d).length+1≤1000000000000:=by obtain⟨t,d3,e4⟩:=Ur B x c.A.length c.nx c.L c.d;have ag:=b7;rw[cY,d3,ZG,ZG]at ag;omega
   rw[cY,mV,ZG,ZG]at b7;refine au.step ?_;simp only[S.jX,aq,bH,bb,G,ai];rw[ch,cp dT];simp only[G];rw[dd ay.len (by decide) _ cU];simp only[G,aR,aY,aV];rw[bO _ _ _ 10 x.len x.scalar rfl];have c0:=T.new g (.row x.cells);have c1:=Z.Ext.push g (.row x.cells);have c2:=y.ext c1;have g6:=g5.trans (CF.ext xa xn xs c1);have e7:=y.row.1;have d4:cb xa≠some g.n:=λe=>by have:=y.a.lt e;omega
   have bD:cb xn≠some g.n:=λe=>by have:=y.n.lt e;omega
   have bE:cb xs≠some g.n:=λe=>by have:=y.s.lt e;omega
   have b9:g.n≠id:=by omega
   simp only[G];generalize g.push (.row x.cells)=aS at *;have ap:∀k:Nat,M k (.ptr g.n 0)=some (.ptr g.n (0+k)):=λ_=>rfl;simp only[ap,aO,ae,W7,xI c0,G];have d5:=c2.put (c':={c with V:=x.V}) rfl rfl;rw [show ax aS 1 (.ptr id 6) (D x.V)=some (aS.set id (.row (fX B xa xn xs {c with V:=x.V}))) by rw[c2.row.store,aa ⟨rfl,rfl,rfl,(by show 6+1≤7;decide)⟩];rfl]
   have d6:=c0.br b9 (.row (fX B xa xn xs {c with V:=x.V}));have g7:=g6.trans (CF.set xa xn xs (.row (fX B xa xn xs {c with V:=x.V})));simp only[G];generalize aS.set id (.row (fX B xa xn xs {c with V:=x.V}))=e8 at *;rw[cR,show(I.agg [D 1,af 0,J,J,.str [],ar,J,J,J,J]) = .agg (cB 0 1 0 0).cells from rfl];simp only[G];have a0:∀{H H':Z}{b_ cc cd ce cf cg:I},T H g.n (.row x.cells)→CF id H b_ cc cd H' ce cf cg→cb b_≠some g.n→cb cc≠some g.n→cb cd≠some g.n→T H' g.n (.row x.cells)∧cb ce≠some g.n∧cb cf≠some g.n∧cb cg≠some g.n:=by
    intro H H' b_ cc cd ce cf cg bG k Y a2 a3;refine⟨k.k _ _ b9 Y a2 a3 bG,λe=>?_,λe=>?_,λe=>?_⟩
    · rcases k.ra _ e with q|q
      ·exact Y q
      ·have:=bG.1;omega
    · rcases k.rn _ e with q|q
      ·exact a2 q
      ·have:=bG.1;omega
    · rcases k.rs _ e with q|q
      ·exact a3 q
      ·have:=bG.1;omega
   refine j7 aw W d5 (by show c.A.length≤_;omega) λe9 e_ g8 d7=>?_;obtain⟨c6,d8,d9,d_⟩:=a0 d6 g8 d4 bD bE;simp only[ap,W7,nS c6,G];have ea:∀p∈x.place.aK,∀e∈p.aZ,pV C id B c.L e:=by
    by_cases hk:3≤x.kind∧x.kind≤6
    ·exact λp az e he=>KV aw W bX a9 e ((dW.2 p az).2 e he) ((pQ B _).1 ((mS B _ _ _).1 (v6 hk)).2.2 p az e he)
    ·rw[f3 hk];intro p az;cases az
   have eb:∀p∈x.place.aK,p.aZ.length≤1:=by
    by_cases hk:3≤x.kind∧x.kind≤6
    ·exact sk ((mS B _ _ _).1 (v6 hk)).1
    ·rw[f3 hk];intro p az;cases az
   have ec:∀e∈x.aF,pV C id B c.L e:=λe he=>KV aw W bX a9 e (dV e he) ((pP B _).1 d0 e he);have fa:jG B x c.A.length c.nx c.L c.d=dR B c.L x.V x.place x.aF c.d++_:=mV B x c.A.length c.nx c.L c.d;have fb:(dR B c.L x.V x.place x.aF c.d).length=1+(dw B c.L x.V x.place c.d).length+(dX B c.L x.V x.aF (X (c.d+bS x.place))).length:=by unfold dR;simp only[Z9,ZG];omega
   refine KU aw W bX a9 cV eb ea d7 rfl hs (by show(c.A++[_]++dw B c.L x.V x.place c.d).length≤_;simp only[ZG,Z9,Z_];omega) λed ee g9 ci=>?_
   obtain⟨ef,eg,fc,fd⟩:=a0 c6 g9 d8 d9 d_;have eh:=g7.trans (g8.trans g9);simp only[aO,ae,W7,G,r1 ci,ci.a.len];have ei:(((({c with V:=x.V}:CD).add (cB 0 1 0 0)).pl B x.place).A.length)=c.A.length+1+(dw B c.L x.V x.place c.d).length:=by show(c.A++[_]++dw B c.L x.V x.place c.d).length=_;simp only[ZG,Z9,Z_]
   rw[ei];generalize bo:(({c with V:=x.V}:CD).add (cB 0 1 0 0)).pl B x.place=aC at *;have cj:aC.L=c.L:=by rw[←bo];rfl
   have ej:aC.nx=c.nx:=by rw[←bo];rfl
   have c7:aC.V=x.V:=by rw[←bo];rfl
   have ck:aC.d=X (c.d+bS x.place):=by rw[←bo];rfl
   have ek:aC.A=c.A++(cB x.V 1 0 0::dw B c.L x.V x.place c.d):=by rw[←bo];show c.A++[_]++dw B c.L x.V x.place c.d=_;rw[aaO];rfl
   have bp:(aC.gj B x.aF).A=c.A++dR B c.L x.V x.place x.aF c.d:=by unfold CD.gj dR;rw[cj,c7,ck,ek,aaO];rfl
   have el:∀(u:I)(v:Z),CF id H0 aL aM aN v u xn xs→CR v id B u xn xs (aC.gj B x.aF)→T v g.n (.row x.cells)→cb u≠some g.n→S.zX (aj C) (.ptr id 0) (.ptr g.n 0) (D ((c.A.length+1+(dw B c.L x.V x.place c.d).length:Nat):Int)) ([D i],g) (au (S.jX (aj C) (.ptr id 0) (aD ay.cells l) (D F.L.length) Q)) Q [] v:=by
    intro u v g10 m ak em;generalize bI:aC.gj B x.aF=c3 at *;have s1:c3.L=c.L:=by rw[←bI];exact cj
    have s2:c3.nx=c.nx:=by rw[←bI];exact ej
    have bs:c3.V=x.V:=by rw[←bI];exact c7
    have a1:c3.d=X (X (c.d+bS x.place)+bU x.aF 0):=by rw[←bI,←ck];rfl
    have de:c3.A.length=c.A.length+(dR B c.L x.V x.place x.aF c.d).length:=by rw[bp,ZG]
    have bt:∀(c4 dy e6:I)(H':Z)(c':CD),CF id H0 aL aM aN H' c4 dy e6→CR H' id B c4 dy e6 c'→c'=c.st B x→U (S.jv (aj C) ([D i],g) (au (S.jX (aj C) (.ptr id 0) (aD ay.cells l) (D F.L.length) Q)) Q) [] H':=by
     intro c4 dy e6 H' c' g' a_ en;rw[en]at a_;simp only[aB,S.jv,aq,bu,G];rw[wrap_i64 (n:=(i:Int)+1) (by omega) (by omega),show(i:Int)+1=((i+1:Nat):Int) by simp];have bJ:(c.st B x).L=eo c.L c.nx x:=rfl;have ep:(c.st B x).nx=c.nx+kF x:=rfl;have eq:=mW x;refine dS (i+1) (c.st B x) c4 dy e6 H' dU g' a_ ?_ (fj _) ?_ ?_ ?_ ?_ ?_
     ·rw[bJ,Kz];exact dZ
     · rw[bJ];unfold eo;split
       ·rw[ZG];omega
       ·exact bj
     · rw[bJ];unfold eo;split
       ·rw[ZI bj];exact bk
       ·exact bk
     · rw [bJ];unfold eo;by_cases ag:x.kind=1
       · rw[aa ag]at bB ⊢;rw[ZG,aap];omega
       · rw[ab ag]at bB ⊢;omega
     ·rw[ep,eq];omega
     ·rw[cW];exact he
    have cl:x.kind≠8→x.kind≠9→c.st B x=⟨c3.A++[gx c.L c.nx x.kind x.V x.name x.bQ x.aG x.place (X (c3.d+1))],eo c.L c.nx x,c.nx+(if x.kind=1 then 1 else 0),if 3≤x.kind∧x.kind≤7 then X (c3.d+1)else c3.d,x.V⟩:=by
     intro K al;unfold CD.st;rw[mV,ab K,ab al,bp,a1,mW,Co,f5 K,f6 K al,pD,f5 K,f6 K al];simp only[cI,e5,c_,WW,aa8,aaO];congr 1;split
     ·simp only[hy,gM,fj,aa1,←abh]
     ·simp only[hy,gM,fj,aa1,←abh]
    have fe:c3.A.length+1≤1000000000000:=by rw[de];exact d2
    unfold S.zX;simp only[ap,W7,lf ak,G,bc,ai];apply aH<;>intro w
    · have ah:x.kind=1:=by simpa using w
      simp only[aO,ae,W7,G,bZ m,lr ak];rw[show c9 v false 1 1 [.str []] [(0,1,.str x.name)]=some (.av .full 1 [.str x.name],v)from rfl];simp only[aV];refine m.n.app (by decide) rfl rfl (by rw[s1];omega) (by rw[s1];omega) λdy R df er bK es=>?_;obtain⟨b1,aQ,b2⟩:=df.known;have dg:=bK _ _ (λe=>(m.dn _ e).1 rfl) m.row;rw [show ax R 1 (.ptr id 2) dy=some (R.set id (.row [aD aE.cells B,u,dy,xs,D c3.nx,D c3.d,D c3.V])) by rw[dg.store,aa ⟨b1,by rw[aQ];rfl,by rw[aQ];simp[b2],(by show 2+1≤7;decide)⟩,aQ];rfl]
      have dh:∀j,cb dy=some j→cb xn=some j∨j=v.n:=λj f=>by
       rcases es with q|q
       ·left;rw[←q];exact f
       ·right;rw[q]at f;cases f;rfl
      have ff:=m.row.1;have bf:∀j,cb dy=some j→j≠id∧cb xs≠some j∧cb u≠some j:=λj f=>by
       rcases dh j f with q|q
       ·exact⟨(m.dn j q).1,(m.dn j q).2,λe=>(m.da j e).2.1 q⟩
       ·exact⟨by omega,λe=>by have:=m.s.lt e;omega,λe=>by have:=m.a.lt e;omega⟩
      have nF:=(m.a.ca λj cs f ad=>bK j _ (λe=>(m.da j f).2.1 e) ad).set (λe=>(m.da _ e).1 rfl) (.row [aD aE.cells B,u,dy,xs,D c3.nx,D c3.d,D c3.V]);have et:=(m.s.ca λj cs f ad=>bK j _ (λe=>(m.dn j e).2 f) ad).set (λe=>m.ds _ e rfl) (.row [aD aE.cells B,u,dy,xs,D c3.nx,D c3.d,D c3.V]);have di:=df.set (λe=>(bf _ e).1 rfl) (.row [aD aE.cells B,u,dy,xs,D c3.nx,D c3.d,D c3.V]);have bL:=dg.set (.row [aD aE.cells B,u,dy,xs,D c3.nx,D c3.d,D c3.V]);have eu:CF id v u xn xs (R.set id (.row [aD aE.cells B,u,dy,xs,D c3.nx,D c3.d,D c3.V])) u dy xs:=⟨er,λi o ao aU a8 bC ad=>(bK i o a8 ad).br ao _,λ_ q=> .inl q,λj f=>by rcases dh j f with q|q;exact .inl q;exact .inr (by omega),λ_ q=> .inl q⟩
      simp only[G];generalize R.set id (.row [aD aE.cells B,u,dy,xs,D c3.nx,D c3.d,D c3.V])=bg at *;simp only[show O bg 1 false (.ptr id 3)=some xs by rw[bL.load];rfl,show O bg 1 false (.ptr id 4)=some (D c3.nx) by rw[bL.load];rfl,G];rw[show c9 bg false 1 1 [J] [(0,1,D (c3.nx:Int))]=some (.av .full 1 [D (c3.nx:Int)],bg)from rfl];simp only[aV];refine et.app (by decide) rfl rfl (by rw[s1];omega) (by rw[s1];omega) λe6 bh dj ev bN ew=>?_;obtain⟨b4,aT,b5⟩:=dj.known;have dk:=bN _ _ (λe=>m.ds _ e rfl) bL;rw [show ax bh 1 (.ptr id 3) e6=some (bh.set id (.row [aD aE.cells B,u,dy,e6,D c3.nx,D c3.d,D c3.V])) by rw[dk.store,aa ⟨b4,by rw[aT];rfl,by rw[aT];simp[b5],(by show 3+1≤7;decide)⟩,aT];rfl]
      have dl:∀j,cb e6=some j→cb xs=some j∨j=bg.n:=λj f=>by
       rcases ew with q|q
       ·left;rw[←q];exact f
       ·right;rw[q]at f;cases f;rfl
      have fg:=bL.1;have bP:∀j,cb e6=some j→j≠id∧cb dy≠some j∧cb u≠some j:=λj f=>by
       rcases dl j f with q|q
       ·exact⟨m.ds j q,λe=>(bf j e).2.1 q,λe=>(m.da j e).2.2 q⟩
       ·exact⟨by omega,λe=>by have:=di.lt e;omega,λe=>by have:=nF.lt e;omega⟩
      have dm:CR (bh.set id (.row [aD aE.cells B,u,dy,e6,D c3.nx,D c3.d,D c3.V])) id B u dy e6 {c3 with L:=c3.L++[(x.name,c3.nx)]}:=by
       refine⟨dk.set _,(nF.ca λj cs f ad=>bN j _ (λe=>(m.da j f).2.2 e) ad).set (λe=>(m.da _ e).1 rfl) _,?_,?_,λj f=>⟨(m.da j f).1,λe=>(bf j e).2.2 f,λe=>(bP j e).2.2 f⟩,λj f=>⟨(bf j f).1,λe=>(bP j e).2.1 f⟩,λj f=>(bP j f).1⟩
       · have:=(di.ca λj cs f ad=>bN j _ (λe=>(bf j f).2.1 e) ad).set (λe=>(bf _ e).1 rfl) (.row [aD aE.cells B,u,dy,e6,D c3.nx,D c3.d,D c3.V]);rw[ZG,aau];exact this
       · have:=dj.set (λe=>(bP _ e).1 rfl) (.row [aD aE.cells B,u,dy,e6,D c3.nx,D c3.d,D c3.V]);rw[ZG,aau];exact this
      have ey:CF id v u xn xs (bh.set id (.row [aD aE.cells B,u,dy,e6,D c3.nx,D c3.d,D c3.V])) u dy e6:=eu.trans ⟨ev,λi o ao aU a8 bC ad=>(bN i o bC ad).br ao _,λ_ q=> .inl q,λ_ q=> .inl q,λj f=>by rcases dl j f with q|q;exact .inl q;exact .inr (by omega)⟩;simp only[G];generalize bh.set id (.row [aD aE.cells B,u,dy,e6,D c3.nx,D c3.d,D c3.V])=cm at *;rw[r4 dm];simp only[G];rw[show ∀k:Int,ba [J,af 0,J,J,.str [],ar,J,J,J,J] [(0,1,D 4),(2,1,D k)]=some (.agg (cB 0 4 0 k).cells)from λ_=>rfl];simp only[G];refine j7 aw W dm (by show c3.A.length≤_;omega) λaJ bv g15 am=>?_;simp only[r4 am,G,bu];have ez:=am.put (c':={(({c3 with L:=c3.L++[(x.name,c3.nx)]}:CD).add (cB 0 4 0 c3.nx))with nx:=c3.nx+1}) rfl rfl;have eA:Xv .i64 ((c3.nx:Int)+1)=((c3.nx+1:Nat):Int):=by rw[s2,bM];simp
      rw[show(({c3 with L:=c3.L++[(x.name,c3.nx)]}:CD).add (cB 0 4 0 c3.nx)).nx=c3.nx from rfl,eA];rw [show ax bv 1 (.ptr id 4) (D ((c3.nx+1:Nat):Int))=some (bv.set id (.row (fX B aJ dy e6 {(({c3 with L:=c3.L++[(x.name,c3.nx)]}:CD).add (cB 0 4 0 c3.nx))with nx:=c3.nx+1}))) by rw[am.row.store,aa ⟨rfl,rfl,rfl,(by show 4+1≤7;decide)⟩];rfl]
      simp only[G];refine bt aJ dy e6 _ _ (g10.trans (ey.trans (g15.trans (CF.set _ _ _ _)))) ez ?_;rw[cl (by omega) (by omega)];unfold CD.add gx eo;simp only[ah,aY,s1,s2,bs];rw[bF];rfl
    have ah:¬x.kind=1:=by simpa using w
    have bR:eo c.L c.nx x=c.L:=by unfold eo;rw[ab ah]
    have plain:∀(a:bA)(H':Z)(c4:I),CR H' id B c4 xn xs c3→CF id H0 aL aM aN H' c4 xn xs→x.kind≠8→x.kind≠9→¬(3≤x.kind∧x.kind≤7)→({a with V:=x.V}:bA)=gx c.L c.nx x.kind x.V x.name x.bQ x.aG x.place (X (c3.d+1))→aj C 60 [.ptr id 0,.agg a.cells] H' λ_ cn=>U (S.jv (aj C) ([D i],g) (au (S.jX (aj C) (.ptr id 0) (aD ay.cells l) (D F.L.length) Q)) Q) [] cn:=by intro a H' c4 a_ g' K al co cq;refine j7 aw W a_ (by omega) λaJ bv g15 am=>bt aJ xn xs _ _ (g'.trans g15) am ?_;rw[cl K al,bR,ab ah,ab co];unfold CD.add;rw[bs,cq,s1,s2];rfl
    have cr:∀(a:bA)(H':Z)(c4:I),CR H' id B c4 xn xs {c3 with d:=X (c3.d+1)}→CF id H0 aL aM aN H' c4 xn xs→(3≤x.kind∧x.kind≤7)→({a with V:=x.V}:bA)=gx c.L c.nx x.kind x.V x.name x.bQ x.aG x.place (X (c3.d+1))→aj C 60 [.ptr id 0,.agg a.cells] H' λ_ cn=>U (S.jv (aj C) ([D i],g) (au (S.jX (aj C) (.ptr id 0) (aD ay.cells l) (D F.L.length) Q)) Q) [] cn:=by intro a H' c4 a_ g' co cq;refine j7 aw W a_ (by show c3.A.length≤_;omega) λaJ bv g15 am=>bt aJ xn xs _ _ (g'.trans g15) am ?_;rw[cl (by omega) (by omega),bR,ab ah,aa co];unfold CD.add;simp only[bs,cq,s1,s2];rfl
    have ac:=m.put (c':={c3 with d:=X (c3.d+1)}) rfl rfl;have ct:ax v 1 (.ptr id 5) (D (Xv .i64 (c3.d+1)))=some (v.set id (.row (fX B u xn xs {c3 with d:=X (c3.d+1)}))):=by rw[m.row.store,aa ⟨rfl,rfl,rfl,(by show 5+1≤7;decide)⟩];rfl
    have g11:=g10.trans (CF.set (id:=id) (H:=v) u xn xs (.row (fX B u xn xs {c3 with d:=X (c3.d+1)})));have N:=ak.br b9 (.row (fX B u xn xs {c3 with d:=X (c3.d+1)}));apply aH<;>intro w
    · have bi:x.kind=2:=by simpa using w
      simp only[lr ak,G];refine yi aw W m (by rw[s1];exact a9) x.name ?_;rw[show ∀k:Int,ba [J,af 0,J,J,.str [],ar,J,J,J,J] [(0,1,D 4),(2,1,D k)]=some (.agg (cB 0 4 0 k).cells)from λ_=>rfl];simp only[G];exact plain _ v u m g10 (by omega) (by omega) (by omega) (by unfold gx;rw[ab ah,aa bi,s1];rfl)
    have bi:¬x.kind=2:=by simpa using w
    have cv:(x.kind=3∨x.kind=4∨x.kind=6)→S.nw (aj C) (.ptr id 0) (.ptr g.n 0) (D ((c.A.length+1+(dw B c.L x.V x.place c.d).length:Nat):Int)) (D x.kind) ([D i],g) (au (S.jX (aj C) (.ptr id 0) (aD ay.cells l) (D F.L.length) Q)) Q [bd] v:=by
     intro hk;unfold S.nw;simp only[aq,ai,aY,aO,ae,W7,G,aI m,bu,ct];generalize v.set id (.row (fX B u xn xs {c3 with d:=X (c3.d+1)}))=R at *;simp only[ap,W7,nS N,lf N,pW N,aI ac,G];have cw:ba [J,af 0,J,J,.str [],ar,J,J,J,J] [(0,1,D 8),(4,2,.agg x.place.cells),(6,1,D x.kind),(7,1,D x.aG),(8,1,D (X (c3.d+1)))]=some (.agg (⟨8,0,0,0,x.place,x.kind,x.aG,X (c3.d+1),0⟩:bA).cells):=by have cx:(⟨8,0,0,0,x.place,x.kind,x.aG,X (c3.d+1),0⟩:bA).pc=aD aX.cells x.place.aK:=rfl;rw[bA.be,cx,aW.be];rfl
     rw[cw];simp only[G];exact cr _ R u ac g11 (by omega) (by unfold gx;rw[ab ah,ab bi,aa hk])
    have eB:¬(x.kind=3∨x.kind=4∨x.kind=6)→S.nw (aj C) (.ptr id 0) (.ptr g.n 0) (D ((c.A.length+1+(dw B c.L x.V x.place c.d).length:Nat):Int)) (D x.kind) ([D i],g) (au (S.jX (aj C) (.ptr id 0) (aD ay.cells l) (D F.L.length) Q)) Q [P] v:=by
     intro hk;unfold S.nw;simp only[aq,ai,Yf,cu,G,bc];apply aH<;>intro w
     · have bT:x.kind=5:=by simpa using w
       simp only[aO,ae,W7,G,aI m,bu,ct];generalize v.set id (.row (fX B u xn xs {c3 with d:=X (c3.d+1)}))=R at *;simp only[ap,W7,nS N,pW N,lr N,yl N,aI ac,G];refine yi aw W ac (by show c3.L.length≤_;rw[s1];exact a9) x.name ?_;refine⟨nS N,pW N,aI ac,yl N,?_⟩;refine yi aw W ac (by show c3.L.length≤_;rw[s1];exact a9) x.bQ ?_;refine⟨nS N,pW N,aI ac,?_⟩;have cw:∀k j:Int,ba [J,af 0,J,J,.str [],ar,J,J,J,J] [(0,1,D 9),(4,2,.agg x.place.cells),(7,1,D x.aG),(8,1,D (X (c3.d+1))),(2,1,D k),(3,1,D j)]=some (.agg (⟨9,0,k,j,x.place,0,x.aG,X (c3.d+1),0⟩:bA).cells):=by intro k j;have cx:(⟨9,0,k,j,x.place,0,x.aG,X (c3.d+1),0⟩:bA).pc=aD aX.cells x.place.aK:=rfl;rw[bA.be,cx,aW.be];rfl
       rw[cw];simp only[G];exact cr _ R u ac g11 (by omega) (by unfold gx;rw[ab ah,ab bi,ab hk,aa bT];show(⟨9,0,hz (-1) c3.L x.name,hz (-1) c3.L x.bQ,x.place,0,x.aG,X (c3.d+1),x.V⟩:bA)=_;rw[s1])
     have bT:¬x.kind=5:=by simpa using w
     apply aH<;>intro w
     · have cy:x.kind=7:=by simpa using w
       simp only[aO,ae,W7,G,aI m,bu,ct];generalize v.set id (.row (fX B u xn xs {c3 with d:=X (c3.d+1)}))=R at *;simp only[ap,W7,pW N,aI ac,G];rw[show ba [J,af 0,J,J,.str [],ar,J,J,J,J] [(0,1,D 10),(7,1,D x.aG),(8,1,D (X (c3.d+1)))]=some (.agg (⟨10,0,0,0,Cg,0,x.aG,X (c3.d+1),0⟩:bA).cells)from rfl];simp only[G];exact cr _ R u ac g11 (by omega) (by unfold gx;rw[ab ah,ab bi,ab hk,ab bT,aa cy])
     have cy:¬x.kind=7:=by simpa using w
     apply aH<;>intro w
     · have bw:x.kind=10:=by simpa using w
       rw[show ba [J,af 0,J,J,.str [],ar,J,J,J,J] [(0,1,D 13)]=some (.agg (cB 0 13 0 0).cells)from rfl];simp only[G];exact plain _ v u m g10 (by omega) (by omega) (by omega) (by unfold gx;rw[ab ah,ab bi,ab hk,ab bT,ab cy];rfl)
     have bw:¬x.kind=10:=by simpa using w
     have dp:=W;have dq:S.um (aj C) (.ptr id 0) (.ptr g.n 0) (D ((c.A.length+1+(dw B c.L x.V x.place c.d).length:Nat):Int)) ([D i],g) (au (S.jX (aj C) (.ptr id 0) (aD ay.cells l) (D F.L.length) Q)) Q [bd] v:=by
      have dr:∀z:bA,(c3.add z).A=c3.A++[{z with V:=x.V}]:=λz=>by unfold CD.add;rw[bs]
      unfold S.um;simp only[aq,ai,aY,aO,ae,W7,G,r1 m,m.a.len];rw[cR,show(I.agg [D 12,af 0,J,J,.str [],ar,J,J,J,J]) = .agg (cB 0 12 0 0).cells from rfl];simp only[G];refine j7 aw dp m (by omega) λcz R g11 ac=>?_;obtain⟨dt,cA,_,_⟩:=a0 ak g11 em bD bE;simp only[ap,W7,rX dt,G];have eC:(c3.add (cB 0 12 0 0)).A.length=c3.A.length+1:=by rw[dr,ZG];rfl
      have W:((c3.add (cB 0 12 0 0)).bl B x.aP).A=c3.A++(cB x.V 12 0 0::cP B x.aP (c3.A.length+1) c.nx c.L c3.d):=by show(c3.add (cB 0 12 0 0)).A++cP B x.aP (c3.add (cB 0 12 0 0)).A.length c3.nx c3.L c3.d=_;rw[eC,dr,s2,s1,aaO];rfl
      have az:c3.A.length=c.A.length+(dR B c.L x.V x.place x.aF c.d).length:=de;have eD:x.kind=8∨x.kind=9:=by omega
      have eE:c3.A.length+1+(cP B x.aP (c3.A.length+1) c.nx c.L c3.d).length+1+(if x.kind=8 then(cP B x.bq (c3.A.length+1+(cP B x.aP (c3.A.length+1) c.nx c.L c3.d).length+1) (c.nx+cI x.aP) c.L (X (c3.d+c_ x.aP 0))).length else 0)≤1000000000000:=by
       have ag:=b7;rw[←WD,←az,←a1]at ag;rcases eD with K|al
       · rw[aa K]at ag ⊢;unfold l9 at ag;simp only[Z9,ZG]at ag;omega
       · rw[bF,aa al]at ag;rw[bF];unfold lp at ag;simp only[Z9,ZG,Z_]at ag;omega
      refine(cQ x b6).1 (c3.add (cB 0 12 0 0)) cz xn xs R _ ac (by show vB B (c3.L.map (·.1)) x.aP;rw[s1];exact d1) (by show X c3.d=c3.d;rw[a1];exact fj _) (by rw[W];simp only[ZG,Z9];omega) (by show c3.L.length+_≤_;rw[s1];omega) (by show c3.nx+_≤_;rw[s2];omega) λfh du dv bg g12 cC=>?_;obtain⟨eF,eG,eH,eI⟩:=a0 dt g12 cA bD bE;generalize bV:(c3.add (cB 0 12 0 0)).bl B x.aP=an at *;have t1:an.L=c.L:=by rw[←bV];exact s1
      have t2:an.nx=c.nx+cI x.aP:=by rw[←bV];show c3.nx+_=_;rw[s2]
      have t3:an.V=e5 x.aP x.V:=by rw[←bV];show e5 x.aP c3.V=_;rw[bs]
      have t4:an.d=X (c3.d+c_ x.aP 0):=by rw[←bV];rfl
      have t5:an.A.length=c3.A.length+1+(cP B x.aP (c3.A.length+1) c.nx c.L c3.d).length:=by rw[W];simp only[ZG,Z9];omega
      simp only[aO,ae,W7,G,r1 cC,cC.a.len];rw[show ∀k:Int,ba [J,af 0,J,J,.str [],ar,J,J,J,J] [(0,1,D 11),(2,1,D k)]=some (.agg (cB 0 11 0 k).cells)from λ_=>rfl];simp only[G];refine j7 aw dp cC (by omega) λdx bh g13 cD=>?_;obtain⟨eJ,eK,eL,eM⟩:=a0 eF g13 eG eH eI;generalize bx:an.add (cB 0 11 0 ((c.A.length+1+(dw B c.L x.V x.place c.d).length:Nat):Int))=c5 at *;have cE:c5.A=c3.A++(cB x.V 12 0 0::(cP B x.aP (c3.A.length+1) c.nx c.L c3.d++[cB (e5 x.aP x.V) 11 0 ((c.A.length+1+(dw B c.L x.V x.place c.d).length:Nat):Int)])):=by rw[←bx];unfold CD.add;rw[t3,W,aaO];rfl
      have dz:c5.L=c.L:=by rw[←bx];exact t1
      have dA:c5.nx=c.nx+cI x.aP:=by rw[←bx];exact t2
      have dB:c5.V=e5 x.aP x.V:=by rw[←bx];exact t3
      have dC:c5.d=X (c3.d+c_ x.aP 0):=by rw[←bx];exact t4
      have ul:c5.A.length=c3.A.length+1+(cP B x.aP (c3.A.length+1) c.nx c.L c3.d).length+1:=by rw[cE];simp only[ZG,Z9,Z_];omega
      simp only[aO,ae,W7,G,r1 cD,cD.a.len];obtain⟨j,cm,w1,w2,w3,cF⟩:=cD.patch (k:=c3.A.length) (a:=cB x.V 12 0 0) (by rw[cE];exact K9 _ _ _) (c5.A.length:Nat);rw[w1];simp only[G,show M 2 (.ptr j (c3.A.length*10))=some (.ptr j (c3.A.length*10+2))from rfl,w2];obtain⟨dD,fi,fk,fl⟩:=a0 eJ w3 eK eL eM;have eN:c5.A.set c3.A.length {(cB x.V 12 0 0)with k:=((c5.A.length:Nat):Int)}=c3.A++(cB x.V 12 0 ((c3.A.length+1+(cP B x.aP (c3.A.length+1) c.nx c.L c3.d).length+1:Nat):Int)::(cP B x.aP (c3.A.length+1) c.nx c.L c3.d++[cB (e5 x.aP x.V) 11 0 ((c.A.length+1+(dw B c.L x.V x.place c.d).length:Nat):Int)])):=by
       rw[ul]
       conv=>lhs;rw[cE]
       exact K8 _ _ _ _
      rw[eN]at cF;simp only[ap,W7,lf dD,G,bc,ai];have dE:=g10.trans (g11.trans (g12.trans (g13.trans w3)));apply aH<;>intro w
      · have K:x.kind=8:=by simpa using w
        rw[aa K]at eE;generalize bz:({c5 with A:=c3.A++(cB x.V 12 0 ((c3.A.length+1+(cP B x.aP (c3.A.length+1) c.nx c.L c3.d).length+1:Nat):Int)::(cP B x.aP (c3.A.length+1) c.nx c.L c3.d++[cB (e5 x.aP x.V) 11 0 ((c.A.length+1+(dw B c.L x.V x.place c.d).length:Nat):Int)]))}:CD)=E at *;have bW:E.L=c.L:=by rw[←bz];exact dz
        have cG:E.nx=c.nx+cI x.aP:=by rw[←bz];exact dA
        have y3:E.V=e5 x.aP x.V:=by rw[←bz];exact dB
        have y4:E.d=X (c3.d+c_ x.aP 0):=by rw[←bz];exact dC
        have dF:E.A=c3.A++(cB x.V 12 0 ((c3.A.length+1+(cP B x.aP (c3.A.length+1) c.nx c.L c3.d).length+1:Nat):Int)::(cP B x.aP (c3.A.length+1) c.nx c.L c3.d++[cB (e5 x.aP x.V) 11 0 ((c.A.length+1+(dw B c.L x.V x.place c.d).length:Nat):Int)])):=by rw[←bz]
        have cH:E.A.length=c3.A.length+1+(cP B x.aP (c3.A.length+1) c.nx c.L c3.d).length+1:=by rw[dF];simp only[ZG,Z9,Z_];omega
        simp only[pB dD,G];have cJ:(E.bl B x.bq).A=E.A++cP B x.bq (c3.A.length+1+(cP B x.aP (c3.A.length+1) c.nx c.L c3.d).length+1) (c.nx+cI x.aP) c.L (X (c3.d+c_ x.aP 0)):=by show E.A++cP B x.bq E.A.length E.nx E.L E.d=_;rw[cH,cG,bW,y4]
        refine(cQ x b6).2 E dx du dv cm _ cF (by rw[bW];exact v9) (by rw[y4];exact fj _) (by rw[cJ,ZG,cH];omega) (by rw[bW];omega) (by rw[cG];omega) λaJ eO eP bv g15 am=>?_;simp only[aO,ae,W7,G,r1 am,am.a.len];have dG:(E.bl B x.bq).A=(c3.A++(cB x.V 12 0 ((c3.A.length+1+(cP B x.aP (c3.A.length+1) c.nx c.L c3.d).length+1:Nat):Int)::cP B x.aP (c3.A.length+1) c.nx c.L c3.d))++(cB (e5 x.aP x.V) 11 0 ((c.A.length+1+(dw B c.L x.V x.place c.d).length:Nat):Int)::cP B x.bq (c3.A.length+1+(cP B x.aP (c3.A.length+1) c.nx c.L c3.d).length+1) (c.nx+cI x.aP) c.L (X (c3.d+c_ x.aP 0))):=by rw[cJ,dF];simp only[aaO,Yi,aaY]
        have dH:an.A.length=(c3.A++(cB x.V 12 0 ((c3.A.length+1+(cP B x.aP (c3.A.length+1) c.nx c.L c3.d).length+1:Nat):Int)::cP B x.aP (c3.A.length+1) c.nx c.L c3.d)).length:=by rw[t5];simp only[ZG,Z9];omega
        obtain⟨dI,eQ,e1,b8,cX,eR⟩:=am.patch (k:=an.A.length) (a:=cB (e5 x.aP x.V) 11 0 ((c.A.length+1+(dw B c.L x.V x.place c.d).length:Nat):Int)) (by rw[dG,dH];exact K9 _ _ _) ((E.bl B x.bq).A.length:Nat);rw[e1];simp only[G,show M 2 (.ptr dI (an.A.length*10))=some (.ptr dI (an.A.length*10+2))from rfl,b8];refine bt aJ eO eP eQ _ (dE.trans (g15.trans cX)) eR ?_;have eS:(E.bl B x.bq).A.length=c3.A.length+1+(cP B x.aP (c3.A.length+1) c.nx c.L c3.d).length+1+(cP B x.bq (c3.A.length+1+(cP B x.aP (c3.A.length+1) c.nx c.L c3.d).length+1) (c.nx+cI x.aP) c.L (X (c3.d+c_ x.aP 0))).length:=by rw[cJ,ZG,cH]
        unfold CD.st;rw[mV,aa K,bR,←az,←a1,mW,ab ah,Co,eS];have eT:(E.bl B x.bq).A.set an.A.length (cB (e5 x.aP x.V) 11 0 ((c3.A.length+1+(cP B x.aP (c3.A.length+1) c.nx c.L c3.d).length+1+(cP B x.bq (c3.A.length+1+(cP B x.aP (c3.A.length+1) c.nx c.L c3.d).length+1) (c.nx+cI x.aP) c.L (X (c3.d+c_ x.aP 0))).length:Nat):Int))=c.A++(dR B c.L x.V x.place x.aF c.d++l9 x.V (e5 x.aP x.V) c3.A.length (cP B x.aP (c3.A.length+1) c.nx c.L c3.d) λb=>cP B x.bq b (c.nx+cI x.aP) c.L (X (c3.d+c_ x.aP 0))):=by
         conv=>lhs;rw[dG,dH]
         rw[K8];unfold l9;rw[←aaO,←bp];simp only[aaO,Yi,aaY]
        have cK:∀(A a4:List bA)(L:List (List UInt8×Nat)) (n n':Nat) (a5 a7 ln:Int),A=a4→n=n'→a5=a7→(⟨A,L,n,a5,ln⟩:CD)=⟨a4,L,n',a7,ln⟩:=by intro A a4 L n n' a5 a7 ln a b c;rw[a,b,c]
        have eU:E.bl B x.bq=⟨(E.bl B x.bq).A,c.L,c.nx+cI x.aP+cI x.bq,X (X (c3.d+c_ x.aP 0)+c_ x.bq 0),e5 x.bq (e5 x.aP x.V)⟩:=by unfold CD.bl;rw[bW,cG,y3,y4]
        rw[eU];refine cK _ _ _ _ _ _ _ _ eT ?_ ?_
        · show c.nx+cI x.aP+cI x.bq=_;omega
        show X (X (c3.d+c_ x.aP 0)+c_ x.bq 0)=_;rw[a1,pD,bF];simp only[hy,gM,fj,aa1,←abh]
      · have K:¬x.kind=8:=by simpa using w
        have al:x.kind=9:=by omega
        refine bt dx du dv cm _ dE cF ?_;unfold CD.st;rw[mV,ab K,aa al,bR,←az,←a1,mW,ab ah,Co,f5 K];have cK:∀(A a4:List bA)(L:List (List UInt8×Nat)) (n n':Nat) (a5 a7 ln:Int),A=a4→n=n'→a5=a7→(⟨A,L,n,a5,ln⟩:CD)=⟨a4,L,n',a7,ln⟩:=by intro A a4 L n n' a5 a7 ln a b c;rw[a,b,c]
        rw[dz,dA,dB,dC];refine cK _ _ _ _ _ _ _ _ ?_ (by simp only[cI];omega) ?_
        · unfold lp;rw[←aaO,←bp]
        · rw[a1,pD,bF,f5 K];simp only[c_,hy,gM,fj,aa1,aa8,←abh]
     apply aH<;>intro w
     ·rw[w];exact dq
     · have al:x.kind=9:=by
         have:¬x.kind=8:=by simpa using w
         omega
       rw[show(x.kind==9)=true by simpa using al];exact dq
    apply aH<;>intro w
    ·rw[w];exact cv (.inl (by simpa using w))
    have fm:¬x.kind=3:=by simpa using w
    apply aH<;>intro w
    ·rw[w];exact cv (.inr (.inl (by simpa using w)))
    have fn:¬x.kind=4:=by simpa using w
    by_cases cL:x.kind=6
    · rw[show(x.kind==6)=true by simpa using cL];exact cv (.inr (.inr cL))
    · rw[show(x.kind==6)=false by simpa using cL];exact eB (by omega)
   have eV:∀(r:List aA)(k:Nat)(c':CD)(c4:I)(v:Z),x.aF.drop k=r→c'.L=c.L→X c'.d=c'.d→CF id H0 aL aM aN v c4 xn xs→CR v id B c4 xn xs c'→T v g.n (.row x.cells)→cb c4≠some g.n→c'.gj B r=aC.gj B x.aF→au (S.uo (aj C) (.ptr id 0) (.ptr g.n 0) (D ((c.A.length+1+(dw B c.L x.V x.place c.d).length:Nat):Int)) ([D i],g) (au (S.jX (aj C) (.ptr id 0) (aD ay.cells l) (D F.L.length) Q)) Q) ([D k],v):=by
    intro r;induction r with
    | nil=>intro k c' c4 v cM cN cO g10 m ak bw heq;have hle:=db cM;refine au.step ?_;simp only[S.uo,aq,ap,W7,rW ak,bH,bb,G,ai,aB];rw[cZ];rw[CD.KR B c' cO]at heq;rw[heq]at m;exact el c4 v g10 m ak bw
    | cons e r eW=>
     intro k c' c4 v cM cN cO g10 m ak bw heq;obtain⟨eX,dJ,eY⟩:=c8 cM;refine au.step ?_;simp only[S.uo,aq,ap,W7,rW ak,bH,bb,G,ai];rw[ch,cp eX];simp only[G];rw[dd aA.len (by decide) _ dJ];simp only[G];rw[CD.KS]at heq;have eZ:(c'.ex B e).A.length≤1000000000000:=by
      have e1:(c'.ex B e).A.length≤((c'.ex B e).gj B r).A.length:=by unfold CD.gj;rw[ZG];omega
      rw[heq,bp,ZG]at e1;omega
     refine ec e (Y7 dJ) c' c4 xn xs v _ m cN cO eZ λcz R g11 ac=>?_;obtain⟨N,cA,_,_⟩:=a0 ak g11 bw bD bE;simp only[bu,G];rw[wrap_i64 (n:=(k:Int)+1) (by omega) (by omega),show(k:Int)+1=((k+1:Nat):Int) by simp];exact eW (k+1) (c'.ex B e) cz R eY cN (fj _) (g10.trans g11) ac N cA heq
   exact eV x.aF 0 aC ed ee rfl cj (by rw[ck];exact fj _) eh ci ef eg rfl
 exact main l 0 F aL aM aN H0 rfl (CF.refl _ _ _ _ _) bY dL gJ (hT _) (by rw[Zw]) dM dN rfl
end
end Rb

namespace Rb
open Go
variable{x:ay}{s A:RS}
section
variable(B:List aE)(L:List (List UInt8×Nat))(ln:Int)
mutual
theorem K_:∀(e:aA)(a:Int),(dI B L ln e a).length≤2*j5 e
 | .mk kind n name op aG place a_,a=>by rw[dI,j5];have b:=La place a;have c:=CK a_ (X (a+bS place));simp only[Z9,ZG,Z_];omega
theorem CK:∀(l:List aA)(a:Int),(dX B L ln l a).length≤2*fW l
 |[],a=>by rw[dX];simp
 | e::r,a=>by rw[dX,fW,ZG];have b:=K_ e a;have c:=CK r (X (a+gh e 0));omega
theorem La:∀(x:aW)(a:Int),(dw B L ln x a).length≤2*jE x
 | .mk var aK,a=>by rw[dw,jE];exact CL (.mk var aK) aK 0 a
theorem CL(x:aW):∀(l:List aX)(k:Nat)(a:Int),(fi B L ln x l k a).length≤2*jF l
 |[],k,a=>by rw[fi];simp
 | p :: r,k,a=>by
  rw[fi,jF];have b:=Us p a;split
  · have c:=CL x r (k+1) a;omega
  · rename_i l hl;have c:=CL x r (k+1) (X (a+iS p 0));have d:=b l hl;simp only[Z9,ZG];omega
theorem Us:∀(p:aX)(a:Int),∀l,l8 B L ln p a=some l→l.length+1≤2*mT p
 | .mk field aZ,a,l,h=>by rw[l8]at h;rw[mT];have:=Ut aZ a l h;omega
theorem Ut:∀(i:List aA)(a:Int),∀l,kE B L ln i a=some l→l.length≤2*fW i
 |[],a,l,h=>by rw[kE]at h;cases h
 | e::r,a,l,h=>by rw[kE]at h;cases h;rw[fW];have:=K_ e a;omega
end
def j8(a:bA):Prop:=bx a.n∧a.x.ok
theorem kI(ln w n k:Int)(h:bx n):j8 (cB ln w n k):=⟨h,by decide,by decide,trivial⟩
theorem Uu(kind n:Int)(name:List UInt8)(op aG:Int)(place:aW)(a:Int)(b:bx n)(c:place.ok):j8 (jD L ln kind n name op aG place a):=by
 unfold jD;split
 ·exact kI _ _ _ _ b
 · split
   ·exact kI _ _ _ _ ei
   · split
     ·exact kI _ _ _ _ ei
     ·exact⟨ei,c⟩
mutual
theorem Lb:∀(e:aA)(a:Int),e.ok→∀x∈dI B L ln e a,j8 x
 | .mk kind n name op aG place a_,a,h,x,b=>by
  obtain⟨_,d,_,_,_,c,_,f⟩:=h;rw[dI]at b;rcases YI.1 b with rfl|b
  ·exact kI _ _ _ _ ei
  · rcases YB.1 b with b|b
    · rcases YB.1 b with b|b
      ·exact Lc place a c x b
      ·exact CM a_ _ f x b
    · simp only[aaM]at b;subst b;exact Uu L ln _ _ _ _ _ _ _ d c
theorem CM:∀(l:List aA)(a:Int),aA.dZ l→∀x∈dX B L ln l a,j8 x
 |[],a,h,x,b=>by rw[dX]at b;cases b
 | e::r,a,h,x,b=>by
  rw[dX]at b;rcases YB.1 b with b|b
  ·exact Lb e a h.1 x b
  ·exact CM r _ h.2 x b
theorem Lc:∀(y:aW)(a:Int),y.ok→∀x∈dw B L ln y a,j8 x
 | .mk var aK,a,h,x,b=>by rw[dw]at b;exact CN (.mk var aK) aK 0 a h.2.2 x b
theorem CN(y:aW):∀(l:List aX)(k:Nat)(a:Int),aX.dZ l→∀x∈fi B L ln y l k a,j8 x
 |[],k,a,h,x,b=>by rw[fi]at b;cases b
 | p :: r,k,a,h,x,b=>by
  rw[fi]at b;split at b
  ·exact CN y r _ _ h.2 x b
  · rename_i l hl;rcases YB.1 b with b|b
    ·exact Uv p a h.1 l hl x b
    · rcases YI.1 b with rfl|b
      ·exact kI _ _ _ _ (l0 _)
      ·exact CN y r _ _ h.2 x b
theorem Uv:∀(p:aX)(a:Int),p.ok→∀l,l8 B L ln p a=some l→∀x∈l,j8 x
 | .mk field aZ,a,h,l,hl,x,b=>by rw[l8]at hl;exact Uw aZ a h.2.2 l hl x b
theorem Uw:∀(i:List aA)(a:Int),aA.dZ i→∀l,kE B L ln i a=some l→∀x∈l,j8 x
 |[],a,h,l,hl,x,b=>by rw[kE]at hl;cases hl
 | e::r,a,h,l,hl,x,b=>by rw[kE]at hl;cases hl;exact Lb e a h.1 x b
end
end
theorem aA.Ux{l:List aA}(h:∀e∈l,e.ok):aA.dZ l:=by
 induction l with
 |nil=>trivial
 |cons e r a=>exact⟨h e (YK ..),a λx b=>h x (YJ _ b)⟩
theorem Uy(L:List (List UInt8×Nat))(n:Nat)(kind ln:Int)(name bQ:List UInt8)(aG:Int)(place:aW)(a:Int)(b:place.ok):j8 (gx L n kind ln name bQ aG place a):=by
 unfold gx
 repeat' split
 all_goals first|exact kI _ _ _ _ ei|exact⟨ei,b⟩|exact⟨ei,by decide,by decide,trivial⟩
def m1(B:List aE)(l:List ay):Prop:=(∀x∈l,x.ok)→∀(base n:Nat)(L:List (List UInt8×Nat)) (a:Int),(cP B l base n L a).length≤2*gZ l∧cI l≤gZ l∧∀x∈cP B l base n L a,j8 x
theorem Uz(B:List aE)(e:m1 B x.aP)(f:m1 B x.bq)(g:x.ok)(c n:Nat)(L:List (List UInt8×Nat))(a:Int):(jG B x c n L a).length≤2*mU x∧kF x≤mU x∧∀y∈jG B x c n L a,j8 y:=by
 obtain⟨d,⟨l,h⟩,⟨m,i⟩,⟨o,j⟩⟩:=ay.dc g;have g1:=e i;have g2:=f j;have p:=La B L x.V x.place a;have q:=CK B L x.V x.aF (X (a+bS x.place));have r:(dR B L x.V x.place x.aF a).length≤1+2*jE x.place+2*fW x.aF:=by unfold dR;simp only[Z9,ZG];omega
 have k:∀y∈dR B L x.V x.place x.aF a,j8 y:=by
  intro y b;unfold dR at b;rcases YI.1 b with rfl|b
  ·exact kI _ _ _ _ ei
  · rcases YB.1 b with b|b
    ·exact Lc B L x.V x.place a d y b
    ·exact CM B L x.V x.aF _ (aA.Ux h) y b
 have l1:=(g1 0 0 [] 0).2.1;have l2:=(g2 0 0 [] 0).2.1;rw[mV,Ky,mW];refine⟨?_,?_,?_⟩
 · rw [ZG];split
   · unfold l9;simp only[Z9,ZG];have t1:=(g1 (c+(dR B L x.V x.place x.aF a).length+1) n L (X (X (a+bS x.place)+bU x.aF 0))).1;have t2:=(g2 (c+(dR B L x.V x.place x.aF a).length+1+(cP B x.aP (c+(dR B L x.V x.place x.aF a).length+1) n L (X (X (a+bS x.place)+bU x.aF 0))).length+1) (n+cI x.aP) L (X (X (X (a+bS x.place)+bU x.aF 0)+c_ x.aP 0))).1;omega
   · split
     · unfold lp;simp only[Z9,ZG,Z_];have t1:=(g1 (c+(dR B L x.V x.place x.aF a).length+1) n L (X (X (a+bS x.place)+bU x.aF 0))).1;omega
     ·simp only[Z9,Z_];omega
 ·split<;>omega
 · intro y b;rcases YB.1 b with b|b
   ·exact k y b
   · split at b
     · unfold l9 at b;rcases YI.1 b with rfl|b
       ·exact kI _ _ _ _ ei
       · rcases YB.1 b with b|b
         ·exact(g1 _ _ _ _).2.2 y b
         · rcases YI.1 b with rfl|b
           ·exact kI _ _ _ _ ei
           ·exact(g2 _ _ _ _).2.2 y b
     · split at b
       · unfold lp at b;rcases YI.1 b with rfl|b
         ·exact kI _ _ _ _ ei
         · rcases YB.1 b with b|b
           ·exact(g1 _ _ _ _).2.2 y b
           · simp only[aaM]at b;subst b;exact kI _ _ _ _ ei
       · simp only[aaM]at b;subst b;exact Uy _ _ _ _ _ _ _ _ _ d
theorem ym(B:List aE):∀{l:List ay},(∀x∈l,m1 B x.aP∧m1 B x.bq)→m1 B l
 |[],h=>λc base n L a=>⟨by rw[cP];simp,by rw[cI];exact WS _,λx d=>by rw[cP]at d;cases d⟩
 | x::r,h=>λc base n L a=>by
  obtain⟨e,f⟩:=h x (YK ..);obtain⟨Y,a2,a3⟩:=Uz B e f (c x (YK ..)) base n L a;obtain⟨b1,b2,b3⟩:=ym B (λy b=>h y (YJ _ b)) (λy b=>c y (YJ _ b)) (base+(jG B x base n L a).length) (n+kF x) (eo L n x) (X (a+hp x 0));rw[cP,gZ,cI,ZG];refine⟨by omega,by omega,λy b=>?_⟩;rcases YB.1 b with b|b
  ·exact a3 y b
  ·exact b3 y b
theorem UA(B:List aE):∀x:ay,m1 B x.aP∧m1 B x.bq:=by refine ay.ind λx a b=>?_;exact⟨ym B a,ym B b⟩
theorem Ld(B:List aE)(l:List ay):m1 B l:=ym B λx _=>UA B x
def Kq(s A:RS):Prop:=s.stop=false→0≤s.fuel→s.fuel≤1000000→(A.pr.length:Int)≤s.pr.length+s.fuel∧(A.stop=false→0≤A.fuel∧A.fuel≤s.fuel∧(A.pr.length:Int)+A.fuel≤s.pr.length+s.fuel)
theorem Kp.kq(h:Kp s A):Kq s A:=λc a b=>by rw[h.pr];exact⟨by omega,λhs=>by have:=h.fu a b hs;omega⟩
theorem Kq.trans{a b c:RS}(h:Kq a b)(k:Kq b c)(e:b.stop=true→c.pr=b.pr∧c.stop=true):Kq a c:=λf g i=>by
 obtain⟨j,l⟩:=h f g i;cases d:b.stop with
 | true=>obtain⟨e1,m⟩:=e d;rw[e1];exact⟨j,λz=>by rw[m]at z;cases z⟩
 | false=>obtain⟨n,o,y3⟩:=l d;obtain⟨p,z2⟩:=k d n (by omega);exact⟨by omega,λz=>by have:=z2 z;omega⟩
theorem Ks.same(h:Ks s A)(hs:s.stop=true):A.pr=s.pr∧A.stop=true:=by have:=h.st hs;rw[this];exact⟨rfl,hs⟩
theorem Le{cond:RS→RS×Int}{body:RS→RS}(hc:∀s,Kp s (cond s).1)(a:∀s,s.stop=false→Kq s (body s))(b:∀s,s.stop=false→Ks s (body s)):∀(c:Nat)(s:RS),Kq s (fU cond body c s)
 |0,s=>(Kp.refl s).kq
 | c + 1,s=>by
  unfold fU;split
  · rename_i h;refine(hc s).kq.trans ((a _ h.2).trans (Le hc a b c _) ?_) ?_
    · intro hs;exact(xN hc b c _).same hs
    · intro hs;rw[h.2]at hs;cases hs
  ·exact(hc s).kq
section
variable(B:List aE)(c:Nat)
theorem CO{L:List (List UInt8)}(g:∀L a n s,vB B L x.aP→Kq s (bV B c x.aP a n s))(k:∀L a n s,vB B L x.bq→Kq s (bV B c x.bq a n s))(a:Int)(s:RS)(hv:vS B L x):Kq s (eI B c x a s):=by
 obtain⟨v1,v2,v3,v4,v5,v6,u,h,v9⟩:=(Ce B _ x).1 hv;obtain⟨f1,f2,f3,f4,f5,f6⟩:=Cp v1;rw[nZ];have hf:=pE B x.aF a s;split
 ·exact(xM B x.place x.aF x.aG a s).kq
 rename_i v;split
 · have hl:=I9 B x.name x.bQ x.place x.aG a s;intro f g0 g1;have l:(kD B x.name x.bQ x.place x.aG a s).pr=s.pr:=by
    unfold kD;have d:=jB B x.place a s;split
    ·exact d.pr
    · unfold lX;have i:=d.trans (Kp.ask _ ⟨1,X (X (a+bS x.place)+1),0,‹bN›,x.aG,0,0,0⟩);split
      ·exact i.pr
      ·rw[(ij _ _ _).1,(ij _ _ _).1];exact i.pr
   rw[l];exact⟨by omega,λz=>by have:=hl.fu g0 g1 z;omega⟩
 rename_i w;split
 ·exact(Kp.ask _ _).kq
 rename_i n3;split
 · refine Le (pE B x.aF a) (λs1 q=>?_) (λs1 q=>?_) c s
   · have:=g L (X (a+bU x.aF 0)) s1.aS.length s1 h;exact this
   · have j:=lZ B c x.aP (X (a+bU x.aF 0)) s1.aS.length s1 q;exact⟨j.1,λe=>(by rw[q]at e;cases e),j.2⟩
 rename_i n4;split
 ·exact hf.kq
 rename_i hs;have hs:(cW B x.aF a s).1.stop=false:=by simpa using hs
 split
 ·exact hf.kq
 split
 · intro f g0 g1;have:=hf.kq f g0 g1;obtain⟨e1,m,o,_⟩:=ij (cW B x.aF a s).1 x.name (cW B x.aF a s).2;rw[e1,m,o];exact this
 split
 · rename_i y n6 p;obtain ⟨e,hex⟩:∃e,x.aF=[e]:=by
    have:(dG x.kind).2.2.2.1=1:=by rw[p];rfl
    match hm:x.aF with
    |[e]=>exact⟨e,rfl⟩
    |[]=>rw[hm]at f4;simp at f4;omega
    |a::b::r=>rw[hm]at f4;simp at f4;omega
   have t:cW B x.aF a s=cq B e a s:=by rw[hex];rfl
   rw[t]at hs hf ⊢;intro f g0 g1;have A:=r0 B e a s g0 g1 hs;have C:=hf.fu g0 g1 hs;have d:=hf.pr;show(((cq B e a s).1.pr++[_]).length:Int)≤_∧((cq B e a s).1.stop=false→0≤(cq B e a s).1.fuel∧(cq B e a s).1.fuel≤s.fuel∧(((cq B e a s).1.pr++[_]).length:Int)+(cq B e a s).1.fuel≤_)
   rw[d,ZG,aap];push_cast;exact⟨by omega,λ_=>by omega⟩
 split
 ·refine hf.kq.trans (g L _ _ _ h) λz=>by rw[hs]at z;cases z
 ·refine hf.kq.trans (k L _ _ _ v9) λz=>by rw[hs]at z;cases z
theorem yn:∀{l:List ay},(∀x∈l,∀L a s,vS B L x→Kq s (eI B c x a s))→∀(L:List (List UInt8)) (a:Int) (n:Nat) (s:RS),vB B L l→Kq s (bV B c l a n s)
 | [],h,L,a,n,s,hv=>by rw[bV];intro b g0 g1;exact⟨by show(s.pr.length:Int)≤_;omega,λz=>⟨g0,aac _,aac _⟩⟩
 | x::r,h,L,a,n,s,hv=>by intro b g0 g1;rw[bV,ab (by rw[b];decide)];obtain⟨d,e⟩:=hv;have f:Kq ({s with V:=x.V}:RS) (eI B c x a ({s with V:=x.V}:RS).bY):=(Kp.bY _).kq.trans (h x (YK ..) L a _ d) λz=>(pF B c x a _).same z;have g:=yn (λy i=>h y (YJ _ i)) (dE L x) (X (a+hp x 0)) n (eI B c x a ({s with V:=x.V}:RS).bY) e;exact f.trans g (λz=>⟨(yc B c r _ n _ z).1,(yc B c r _ n _ z).2.1⟩) b g0 g1
theorem Lf:∀x:ay,(∀L a n s,vB B L x.aP→Kq s (bV B c x.aP a n s))∧(∀L a n s,vB B L x.bq→Kq s (bV B c x.bq a n s)):=by refine ay.ind λx d e=>?_;exact⟨yn B c λy b L a s hv=>CO B c (d y b).1 (d y b).2 a s hv,yn B c λy b L a s hv=>CO B c (e y b).1 (e y b).2 a s hv⟩
theorem UB{t:List ay}(hv:vB B [] t)(aL:List (Int×Int)){f:Int}(hf:f≤1000000):((bV B c t 0 0 (RS.init aL f)).pr.length:Int)≤1000000:=by
 by_cases b:0≤f
 · have:=(yn B c (λy _ L a s hv=>CO B c (Lf B c y).1 (Lf B c y).2 a s hv) [] 0 0 (RS.init aL f) hv rfl b hf).1;have e:(RS.init aL f).pr.length=0:=rfl;have d:(RS.init aL f).fuel=f:=rfl;rw[e,d]at this;omega
 · cases t with
   |nil=>rw[bV];show((([]:List Int).length:Int))≤_;decide
   | cons x r=>rw[bV,ab (by show ¬(false=true);decide)];have g:({RS.init aL f with V:=x.V}:RS).bY.stop=true:=(sn (s:={RS.init aL f with V:=x.V}) rfl (by show f<1;omega)).1;have e1:=(pF B c x 0 ({RS.init aL f with V:=x.V}:RS).bY).same g;rw[(yc B c r _ 0 _ e1.2).1,e1.1,(Kp.bY _).pr];show((([]:List Int).length:Int))≤1000000;decide
end
end Rb

namespace Rb
open Go
variable{id:Nat}{t:List ay}{H:Z}
def e_(B:List aE)(c:Nat)(t:List ay)(aL:List (Int×Int))(fuel:Int):sj:=
 let r:=eW B c t aL fuel
 if r.2.2.2=16 then⟨cc,0,[],true⟩else⟨r.1,r.2.1,r.2.2.1,false⟩
def iY:CD:=⟨[],[],0,0,0⟩
section
variable{C:Ctx}(aw:cY C)(W:Cl (aj C) S.cr){B:List aE}
include aw W
theorem UC(b:l_ B):∀x:ay,x.ok→sx C id B x.aP∧sx C id B x.bq:=by refine ay.ind λx e f g=>?_;obtain⟨_,_,⟨h,c⟩,i,d⟩:=ay.dc g;exact⟨CJ aw W b h c λy a=>e y a (c y a),CJ aw W b i d λy a=>f y a (d y a)⟩
theorem UD{p:eA}(d:l_ p.B)(f:p.ok){k:Nat}(ht:p.cG[k]?=some t)(hv:vB p.B [] t)(I:gZ t≤Mx){H:Z}{Q:ad}
  (g:∀id xa xn xs H',Z.Ext H H'→CR H' id p.B xa xn xs (iY.bl p.B t)→Q (.ptr id 0) H'):aj C 9 [.agg p.cells,D k] H Q:=by
 obtain⟨⟨K,L⟩,N,h⟩:=f;obtain⟨hlen,b⟩:=h t (Y7 ht);have m:=(Wh.1 ht).1;have P:Mx=1000000000:=rfl;refine S.N8 W ?_;unfold S.f9;have q:bg H false 2 (.agg p.cells)=some (.ak p.cells,H):=by unfold bg;rw[aa ⟨rfl,rfl⟩];rfl
 have r:∀H,O H 1 false (.ak (p.cells.drop 0))=some (aD aE.cells p.B):=λ_=>rfl;have s:∀H,O H 1 false (.ak (p.cells.drop 1))=some (aD gK p.cG):=λ_=>rfl;simp only[q,aV,M,G,r];rw[show ba [ar,ar,ar,ar,J,J,J] [(0,1,aD aE.cells p.B)]=some (.agg (fX p.B ar ar ar iY))from rfl];simp only[G];have u:bg H true 7 (.agg (fX p.B ar ar ar iY))=some (.ptr H.n 0,H.push (.row (fX p.B ar ar ar iY))):=by unfold bg;rw[aa ⟨rfl,rfl⟩];rfl
 rw[u];simp only[aV,s,G];rw[cp m];simp only[G];have r1:=T.new H (.row (fX p.B ar ar ar iY));have v:=Z.Ext.push H (.row (fX p.B ar ar ar iY));generalize H.push (.row (fX p.B ar ar ar iY))=H1 at *;have w:O H1 1 false (d_ gK 1 p.cG k)=some (aD ay.cells t):=rA (c:=λl=>aD ay.cells l) H1 ht;rw[w];simp only[G];have x:CR H1 H.n p.B ar ar ar iY:=⟨r1,c2.nil _ _,c2.nil _ _,c2.nil _ _,λj a=>(by cases a),λj a=>(by cases a),λj a=>(by cases a)⟩
 obtain⟨g1,g2,g3⟩:=Ld p.B t b 0 0 [] 0;refine CJ aw W d hlen b (λy z=>UC aw W d y (b y z)) iY _ _ _ H1 _ x hv rfl (by show([]++cP p.B t 0 0 [] 0:List bA).length≤_;rw[aaY];omega) (by show([]:List (List UInt8×Nat)).length+_≤_;simp;omega) (by show 0+cI t≤_;omega) λxa xn xs A f2 E=>?_;refine g H.n xa xn xs A (Ext.ca v f2.n λi o hi F=>f2.k i o (by omega) (λe=>by cases e) (λe=>by cases e) (λe=>by cases e) F) E
theorem UE(f:l_ B)(k:∀x∈t,x.ok)(hv:vB B [] t)(l:gZ t≤Mx){c:Nat}(hc:1000000<c){aL:List (Int×Int)}(m:aL.length≤1000)(p:∀x∈aL,bx x.1∧bx x.2){fuel:Int}(hf:fuel≤3000){xa xn xs:I}(h:CR H id B xa xn xs (iY.bl B t)){Q:ad}
  (q:∀px H',Z.Ext H H'→c2 H' 1 px (e_ B c t aL fuel).pr.length ((e_ B c t aL fuel).pr.map (af))→Q (.agg (dS (e_ B c t aL fuel).want (e_ B c t aL fuel).fin px (e_ B c t aL fuel).empty)) H'):aj C 10 [.ptr id 0,aD b5 aL,D fuel] H Q:=by
 have ae:Mx=1000000000:=rfl;obtain⟨g1,g2,g3⟩:=Ld B t k 0 0 [] 0;have d:(iY.bl B t).A=cP B t 0 0 [] 0:=by show []++_=_;rw[aaY];rfl
 have r:(iY.bl B t).nx=cI t:=by show 0+_=_;omega
 refine S.N9 W ?_;unfold S.f10;simp only[aR,aY,aV];have r1:=T.new H (.row (dS cc 0 ar false));have s:=Z.Ext.push H (.row (dS cc 0 ar false));have ag:(H.push (.row (dS cc 0 ar false))).n=H.n+1:=rfl;rw[show(H.push (.row [J,J,J,J,J,J,P,J,J,J,J,af 0,af 0,J,ar,P]))=H.push (.row (dS cc 0 ar false))from rfl];generalize H.push (.row (dS cc 0 ar false))=H1 at *;rw[show ba [J,J,J,J,J,J,P,J,J,J,J,af 0,af 0,J,ar,P] []=some (.agg (dS cc 0 ar false))from rfl];simp only[G];rw[bO H1 _ (dS cc 0 ar false) 16 rfl rfl rfl];have r4:=T.new H1 (.row (dS cc 0 ar false));have u:=r1.push (.row (dS cc 0 ar false));have g:=s.trans (Z.Ext.push H1 (.row (dS cc 0 ar false)));have ah:(H1.push (.row (dS cc 0 ar false))).n=H1.n+1:=rfl;simp only[G];generalize H1.push (.row (dS cc 0 ar false))=b at *;rw[show c9 b false 1 0 [af 0] []=some (.av .full 0 [],b)from rfl];simp only[aV,aO,show M 4 (.ptr id 0)=some (.ptr id (0+4))from rfl,W7,G];have w:=h.ext g;rw[show O b 1 false (.ptr id 4)=some (D ((cI t:Nat):Int)) by rw[w.row.load,←r];rfl];simp only[G];have y:lu b true 1 8 [af 0] (D ((cI t:Nat):Int)) (D ((cI t:Nat):Int))=some (.row b.n 0 (cI t) 1,b.push (.row ((We (cI t) (0:Int)).map (af)))):=by
  show(if 0≤((cI t:Nat):Int)∧((cI t:Nat):Int)≤((cI t:Nat):Int)∧((8:Nat):Int)*((cI t:Nat):Int)≤281474976710656∧((cI t:Nat):Int)≤9223372036854775807∧([af 0]:List I).length=1 then _ else _)=_;rw[aa ⟨by omega,by omega,by omega,by omega,rfl⟩,aa rfl,Xw];congr 4;induction cI t with
  |zero=>rfl
  |succ n z=>rw[Xo,List.flatten_cons,z,Xo,XK];rfl
 rw[y];simp only[aV];have F:=T.new b (.row ((We (cI t) (0:Int)).map (af)));have K:=g.trans (Z.Ext.push b (.row ((We (cI t) (0:Int)).map (af))));have L:=u.push (.row ((We (cI t) (0:Int)).map (af)));have R:=r4.push (.row ((We (cI t) (0:Int)).map (af)));generalize b.push (.row ((We (cI t) (0:Int)).map (af)))=i at *;have U:RI H i H.n H1.n b.n (.av .full 0 []) ar [] (We (cI t) 0) []:=⟨K,hT _,by omega,by omega,by omega,by omega,by omega,⟨_,L,rfl⟩,R,F,c2.full _ _,c2.nil _ _,λj e=>(by cases e),λj e=>(by cases e)⟩
 have V:(iY.bl B t).A.length≤1000000000000:=by rw[d];omega
 have X:=TW aw W f (A:=(iY.bl B t).A) V (λa Y=>g3 a (by rw[←d];exact Y)) m p h.row h.a (i1:=H.n) (i4:=H1.n) (js:=b.n) (N:=cI t) (Q:=Q);have ai:=UB B c hv aL (show fuel≤1000000 by omega);have:=TG (E:=⟨B,(iY.bl B t).A,aL,_,_⟩) X (c:=c) (λx idx _ ab=>(mN f.o x idx).1 ab) hc d hv l (sl:=We (cI t) 0) (by simp) (show fuel≤1000000 by omega) (by show(bV B c t 0 0 (RS.init aL fuel)).pr.length≤Mx;omega) (λH' px E ac=>q px H' E ac);exact this ⟨λv hv=>(by cases hv),λv hv=>by rw[List.eq_of_mem_replicate hv];exact ei,by simp,by simp,WS _,hf⟩ i _ _ U
end
end Rb

namespace Rb
open Go
section
variable{C:Ctx}(aw:cY C)(W:Cl (aj C) S.cr){id:Nat}{B:List aE}{L:List (List UInt8)}{c:Nat}
include aw W
theorem UF{x:ay}(u:x.ok){e0:aA}{et:List aA}(e:x.aF=e0::et)(w:jh C id B L e0)(y:nY C id B c x.aP)(z:gw L x.aP)
  {a:Int} {Q:ad} {s0:RS} {H0:Z} (A:∀F K H',di id H0 H'→fx H' id B L (fU (cW B x.aF a) (λs1=>{bV B c x.aP (X (a+bU x.aF 0)) s1.aS.length s1 with V:=x.V}) c s0) F K→Q (.aM []) H') :
  ∀ (n:Nat) (s:RS) (lx px:I) (H:Z),1≤n→(s.stop=false→s.fuel<n)→fx H id B L s lx px→di id H0 H →
   fU (cW B x.aF a) (λs1=>{bV B c x.aP (X (a+bU x.aF 0)) s1.aS.length s1 with V:=x.V}) n s=fU (cW B x.aF a) (λs1=>{bV B c x.aP (X (a+bU x.aF 0)) s1.aS.length s1 with V:=x.V}) c s0 →
   au (S.Aa (aj C) (.ptr id 0) (D a) (.ak x.cells) Q) ([],H):=by
 obtain⟨ao,⟨N,P⟩,⟨ap,ar⟩,_⟩:=ay.dc u;have R:aU none 8 (aD aA.cells (e0::et)) (J)=_:=cp (i:=0) (by simp);have T:∀H,O H 8 true (d_ aA.cells 8 (e0::et) 0)=_:=λH=>dd aA.len (by decide) H (show(e0::et)[0]?=some e0 from rfl);have l:∀H,O H 1 false (.ak (x.cells.drop 7))=some (aD aA.cells (e0::et)):=λH=>by rw[py,e]
 have hf:∀s,cW B x.aF a s=cq B e0 a s:=λs=>by rw[e];rfl
 intro n;induction n with
 |zero=>intro s lx px H U;omega
 | succ n Y=>
  intro s lx px H U ac h fr he;rw[fU,hf]at he;refine au.step ?_;simp only[S.Aa,fM,l,G,R,T];have kp:=jg B e0 a s;have ae:=r0 B e0 a s;refine w a s lx px H _ h.m λH1 f j=>?_;have o:=h.kp f j kp.pr;have af:(cq B e0 a s).1.stop=false→0≤(cq B e0 a s).1.fuel∧(cq B e0 a s).1.fuel<n∧1≤n:=by intro hs;have f0:=h.m.fl (kp.stop hs);have f1:=ae f0.1 (by omega) hs;have f2:=ac (kp.stop hs);have f3:=kp.fu f0.1 (by omega) hs;exact⟨f3.1,by omega,by omega⟩
  generalize cq B e0 a s=g at *;obtain⟨s1,v⟩:=g;dsimp only at *;have stop:¬(v≠0∧s1.stop=false)→Q (.aM []) H1:=by intro ag;rw[ab ag]at he;refine A lx px H1 (fr.trans f.fr) ?_;rw[←he];exact o
  simp only[cU,G,bG];apply aH<;>intro hc
  · have hv:v≠0:=by simpa using hc
    simp only[aO,M,W7,j2 j.row,G,cV,aB,S.vt,aq,ai];apply aH<;>intro hs
    · have d:s1.stop=false:=by simpa using hs
      rw[aa ⟨hv,d⟩]at he;simp only[S.F1,fM,nQ,l,G];rw[show aD aA.cells (e0::et)=aD aA.cells x.aF by rw[e]];refine mL aw W N P _ _ ?_;simp only[nQ,true_and,bu,G];have ah:=lZ B c x.aP (X (a+bU x.aF 0)) s1.aS.length s1 d;refine y L z _ s1 lx px H1 _ o λr t al f2 b=>?_;simp only[IP,G,aO,M,W7];rw[BD b.m.row];simp only[G];obtain⟨am,av,an⟩:=af d;have ax:=j.fl d;generalize bV B c x.aP (X (a+bU x.aF 0)) s1.aS.length s1=s2 at *;have k:=E.set id al (.row (cK B {s2 with V:=x.V} r t));refine Y {s2 with V:=x.V} r t _ an (λcC=>?_) ⟨⟨b.m.row.set _,b.m.loc.ca k,⟨b.m.ok.aL,b.m.ok.aS⟩,b.m.len,b.m.nm,b.m.fl,b.m.pl⟩,cD.pL b.p k,b.lj⟩ ((fr.trans f.fr).trans (f2.trans k.fr)) he;have:=ah.2 am (by omega) cC;show s2.fuel<n;omega
    ·exact stop λq=>hs (by rw[q.2];rfl)
  · simp only[aB,S.vt,aq,ai];rw[aN];exact stop λq=>hc (by simpa using q.1)
theorem UG(j:B.length≤1000000)(hv:∀v∈B,v.ok)(ad:1000000<c){x:ay}(i:x.ok)(r:nY C id B c x.aP)(E:nY C id B c x.bq):yg C id B c x:=by
 intro L F a s lx px H Q h b;obtain⟨w1,w2,w3,I,K,M,t,N⟩:=(S2 L x).1 F;obtain⟨O,⟨ae,R⟩,_,_⟩:=ay.dc i;have T:=aW.dc O;have u:∀k∈x.aF,jh C id B L k:=λk hk=>J5 aw W j hv k (R k hk) (sd L |>.1 M k hk);have w:3≤x.kind∧x.kind≤6→∀p∈x.place.aK,∀k∈p.aZ,jh C id B L k:=λhk p y k z=>J5 aw W j hv k ((T.2 p y).2 k z) (sd L |>.1 ((JL L x.place).1 (w3 hk) p y) k z);refine S.OQ W ?_;unfold S.f77;have wr:(x.kind=3∨x.kind=4∨x.kind=6)→S.mB (aj C) (.ptr id 0) (D a) (.ak x.cells) (D x.kind) Q [bd] H:=by
  intro hk;have d:dE L x=L:=by unfold dE;rw[bF]
  rw[nZ,aa hk,d]at b;unfold S.mB;simp only[aq,ai,aY,Bo,G];refine S0 aw W j hv i I u (w (by omega)) h.m λH1 g U=>?_;exact b lx px H1 g.fr (h.kp g U (xM B x.place x.aF x.aG a s).pr)
 simp only[pv,aV,fM,hO,G,bc,ai,aB];apply aH<;>intro hc
 ·rw[hc];exact wr (.inl (by simpa using hc))
 have ag:¬x.kind=3:=by simpa using hc
 apply aH<;>intro hc
 ·rw[hc];exact wr (.inr (.inl (by simpa using hc)))
 have ah:¬x.kind=4:=by simpa using hc
 by_cases o:x.kind=6
 · rw[show(x.kind==6)=true by simpa using o];exact wr (.inr (.inr o))
 rw[show(x.kind==6)=false by simpa using o];have l:¬(x.kind=3∨x.kind=4∨x.kind=6):=by omega
 by_cases e:x.kind=5
 · have d:dE L x=L:=by unfold dE;rw[bF]
   rw[nZ,ab l,aa e,d]at b;exact Tw aw W j hv i e (w2 e) (w (by omega)) h λH' f V=>b lx px H' f V
 unfold S.mB;simp only[aq,ai,bc,G];rw[aN,ab (by simpa using e)];apply aH<;>intro hc
 · have n:x.kind=7:=by simpa using hc
   have d:dE L x=L:=by unfold dE;rw[bF]
   rw[nZ,ab l,ab e,aa n,d]at b;simp only[fM,rO,bu,G];have Z:ba [J,J,J,J,J,J,P,J,J,J,J,af 0,af 0] [(0,1,(D 4)),(9,1,D x.aG),(1,1,D (Xv .i64 (a+1)))]=some (.agg (bE.cells ⟨4,X (a+1),0,bz,x.aG,0,0,0⟩)):=rfl;rw[Z];simp only[G];refine r7 aw W h.m.row _ λH1 g Y=>?_;exact b lx px H1 g.fr (h.kp g (h.m.next g Y (Kp.ask _ _) (h.m.ok.ask _).1) (Kp.ask _ _).pr)
 have n:¬x.kind=7:=by simpa using hc
 obtain ⟨e0,et,hex⟩:∃e0 et,x.aF=e0::et:=by
  have:=K (by omega);cases ac:x.aF with
  |nil=>rw[ac]at this;simp at this
  |cons e0 et=>exact⟨e0,et,rfl⟩
 have A:=u e0 (by rw[hex];exact YK ..);apply aH<;>intro hc
 · have q:x.kind=9:=by simpa using hc
   have d:dE L x=L:=by unfold dE;rw[bF]
   rw[nZ,ab l,ab e,ab n,aa q,d]at b;exact UF aw W i hex A r t (H0:=H) (s0:=s) b c s lx px H (by omega) (λhs=>by have:=(h.m.fl hs).2.1;omega) h (di.refl id H) rfl
 have q:¬x.kind=9:=by simpa using hc
 simp only[Bo,G];exact Ty aw W i hex A r E t N w1 ⟨l,e,n,q⟩ h b
theorem Lg(e:B.length≤1000000)(hv:∀v∈B,v.ok)(f:1000000<c):∀x:ay,x.ok→yg C id B c x:=by refine ay.ind λx g h b=>?_;obtain⟨_,_,⟨t1,t2⟩,⟨e1,d⟩⟩:=ay.dc b;exact UG aw W e hv f b (Cr aw W t1 t2 λy a=>g y a (t2 y a)) (Cr aw W e1 d λy a=>h y a (d y a))
theorem UH(b:B.length≤1000000)(hv:∀v∈B,v.ok)(d:1000000<c){l:List ay}(hl:l.length≤9223372036854775807)(a:∀x∈l,x.ok):nY C id B c l:=Cr aw W hl a λx e=>Lg aw W b hv d x (a x e)
end
end Rb

namespace Rb
open Go
def fY(kw:List UInt8→Bool)(c:Nat)(p:eA)(n:Int)(aL:List (Int×Int))(fuel:Int):bE×Int×List Int×Int:=
 if(eg kw p).2≠0 then(cc,0,[],(eg kw p).2)
 else if n<0∨n≥p.cG.length then(cc,0,[],1)
 else match p.cG[n.toNat]? with
 |some t=>eW p.B c t aL fuel
 |none=>(cc,0,[],1)
section
variable{C:Ctx}(aw:cY C)(W:Cl (aj C) S.cr){kw:List UInt8→Bool}(je:∀x,bR (aj C) 72 [.str x] (.bool (kw x)))
include aw W
theorem UI{c:Nat}(hc:1000000<c){p:eA}(E:p.ok)(F:p.B.length≤1000000){k:Nat}{t:List ay}(ht:p.cG[k]?=some t)(I:gw [] t){aL:List (Int×Int)}(K:∀x∈aL,bx x.1∧bx x.2){fuel:Int}(L:0≤fuel)(z:fuel≤1000000){H:Z}{Q:ad}
  (f:∀g H',di H.n H H'→j3 g (eW p.B c t aL fuel).2.2.1→(eW p.B c t aL fuel).2.2.1.length≤1000000→Q (.aM [.agg (eW p.B c t aL fuel).1.cells,D (eW p.B c t aL fuel).2.1,g,D (eW p.B c t aL fuel).2.2.2]) H'):aj C 19 [.agg p.cells,D k,aD b5 aL,D fuel] H Q:=by
 obtain⟨⟨aA,hv⟩,aC,N⟩:=E;obtain⟨hlen,R⟩:=N t (Y7 ht);have U:=(Wh.1 ht).1;refine S.HI W ?_;unfold S.f19;have V:bg H false 2 (.agg p.cells)=some (.ak p.cells,H):=by unfold bg;rw[aa ⟨rfl,rfl⟩];rfl
 have X:∀H,O H 1 false (.ak (p.cells.drop 0))=some (aD aE.cells p.B):=λ_=>rfl;have Y:∀H,O H 1 false (.ak (p.cells.drop 1))=some (aD gK p.cG):=λ_=>rfl;have ac:ba [ar,ar,ar,ar,J,J,J,J,J,J,J,J,J,P,J,J,J,J,af 0,af 0,P,P] [(0,1,aD aE.cells p.B),(1,1,aD b5 aL),(5,1,D fuel)]=some (.agg (cK p.B (RS.init aL fuel) ar ar)):=rfl;simp only[V,aV,aR,aY,M,G,X,ac];have ae:=T.new H (.row cc.cells);have ag:di H.n H (H.push (.row cc.cells)):=⟨W4 _,λj o _ h=>h.push _⟩
 have aF:(H.push (.row cc.cells)).n=H.n+1:=rfl;change aJ (bg (H.push (.row cc.cells)) true 22 _) _;generalize H.push (.row cc.cells)=H1 at *;have ah:bg H1 true 22 (.agg (cK p.B (RS.init aL fuel) ar ar))=some (.ptr H1.n 0,H1.push (.row (cK p.B (RS.init aL fuel) ar ar))):=by unfold bg;rw[aa ⟨rfl,rfl⟩];rfl
 rw[ah];simp only[aV,Y,G];have al:=T.new H1 (.row (cK p.B (RS.init aL fuel) ar ar));have am:=ae.push (.row (cK p.B (RS.init aL fuel) ar ar));have an:=ag.trans (show di H.n H1 (H1.push (.row (cK p.B (RS.init aL fuel) ar ar)))from⟨W4 _,λj o _ h=>h.push _⟩);generalize H1.push (.row (cK p.B (RS.init aL fuel) ar ar))=u at *;rw[cp U];simp only[G];have ao:O u 1 false (d_ gK 1 p.cG k)=some (aD ay.cells t):=rA (c:=λl=>aD ay.cells l) u ht;rw[ao];simp only[G];have hm:=jc;have ap:fx u H1.n p.B [] (RS.init aL fuel) ar (ar):=
  ⟨⟨al,.inl ⟨rfl,rfl⟩,⟨K,λl hl=>by cases hl⟩,by show([]:List (List UInt8×Int)).length≤_;simp,λ_=>rfl,λ_=>⟨L,by show fuel+((0:Nat):Int)≤_;simpa using z,by show fuel+((0:Nat):Int)≤_;simpa using z⟩,by show([]:List Int).length≤_;simp⟩,cD.nil _ _ _,λj c d e q=>by cases q⟩
 refine UH aw W F hv hc (by omega) R [] I 0 _ _ _ u _ ap λlx px r f3 a=>?_;have v:=f3.2 H.n _ (by omega) am;have y:di H.n H r:=an.trans ⟨f3.1,λj o aG h=>f3.2 j o (by omega) h⟩;have aq:eW p.B c t aL fuel=(if(bV p.B c t 0 0 (RS.init aL fuel)).empty=true then(cc,0,[],16)else if(bV p.B c t 0 0 (RS.init aL fuel)).stop=false then((bV p.B c t 0 0 (RS.init aL fuel)).want,1,(bV p.B c t 0 0 (RS.init aL fuel)).pr,0)else((bV p.B c t 0 0 (RS.init aL fuel)).want,(bV p.B c t 0 0 (RS.init aL fuel)).fin,(bV p.B c t 0 0 (RS.init aL fuel)).pr,0)):=rfl;rw[aq]at f;have a:fx r H1.n p.B [] (bV p.B c t 0 0 (RS.init aL fuel)) lx px:=a;generalize bV p.B c t 0 0 (RS.init aL fuel)=s at *;simp only[aO,M,W7,Jj a.m.row,G,ai];apply aH<;>intro he
 · rw[aa he]at f;rw[show ba [J,J,J,J,J,J,P,J,J,J,J,af 0,af 0] []=some (.agg cc.cells)from rfl];simp only[G];rw[v.store,aa ⟨rfl,rfl,rfl,(by decide:0+13≤13)⟩];simp only[G];have w:T (r.set H.n (.row cc.cells)) H.n (.row cc.cells):=v.set _;change Do (O (r.set H.n (.row cc.cells)) 13 true (.ptr H.n 0)) _;rw[mO w];simp only[G];exact f _ _ (y.trans (di.set (hT _) _)) ⟨.nil,rfl⟩ (by simp)
 rw[ab he]at f;obtain⟨tk,au,_,_⟩:=a.p;have fin:∀(b:Z)(fn:Int),di H.n H b→T b H1.n (.row (cK p.B {s with fin:=fn} lx px))→T b H.n (.row cc.cells)→(∀g H',di H.n H H'→j3 g s.pr→s.pr.length≤1000000→Q (.aM [.agg s.want.cells,D fn,g,J]) H')→S.oR (aj C) (.ptr H.n 0) (.ptr H1.n 0) Q [] b:=by intro b fn f4 r4 w av;unfold S.oR;simp only[aO,M,W7,Ji r4,xP r4,r5 r4,G];rw[w.store,aa ⟨rfl,rfl,rfl,(by decide:0+13≤13)⟩];simp only[G];have ax:T (b.set H.n (.row s.want.cells)) H.n (.row s.want.cells):=w.set _;have A:=r4.br (i:=H.n) (by omega) (.row s.want.cells);change O (b.set H.n (.row s.want.cells)) 1 false (.ptr H1.n 6)=_∧O (b.set H.n (.row s.want.cells)) 1 false (.ptr H1.n 3)=_∧Do (O (b.set H.n (.row s.want.cells)) 13 true (.ptr H.n 0)) _;refine⟨xP A,r5 A,?_⟩;rw[mO ax];simp only[G];exact av px _ (f4.trans (di.set (hT _) _)) ⟨tk,au⟩ a.m.pl
 simp only[j2 a.m.row,G,cV,ai,aB];apply aH<;>intro hs
 · have az:s.stop=false:=by simpa using hs
   rw[aa az]at f;rw[BE a.m.row];simp only[G];exact fin _ 1 (y.trans (di.set (by omega) _)) (a.m.row.set _) (v.br (by omega) _) f
 · rw[ab (λq=>hs (by rw[q];rfl))]at f;exact fin r s.fin y a.m.row v f
include je
end
end Rb

namespace Rb
open Go
variable{c:Nat}{fuel:Int}{H:Z}{p:eA}
section
variable{C:Ctx}(aw:cY C)(W:Cl (aj C) S.cr){kw:List UInt8→Bool}(je:∀x,bR (aj C) 72 [.str x] (.bool (kw x)))
include aw W
theorem UJ{B:List aE}(az:B.length≤1000000)(hv:∀v∈B,v.ok)(hc:1000000<c){l:List ay}(hl:l.length≤9223372036854775807)(R:∀x∈l,x.ok)(U:gw [] l){aL:List (Int×Int)}(X:(RS.init aL fuel).ok)(a3:fuel<0){id:Nat}(h:T H id (.row (cK B (RS.init aL fuel) ar ar))){Q:ad}
  (g:∀lx px H',di id H H'→T H' id (.row (cK B (bV B c l 0 0 (RS.init aL fuel)) lx px))→(∃tk,px = .av tk (bV B c l 0 0 (RS.init aL fuel)).pr.length ((bV B c l 0 0 (RS.init aL fuel)).pr.map (af)))→(bV B c l 0 0 (RS.init aL fuel)).pr.length≤1000000→Q (.aM []) H'):aj C 48 [.ptr id 0,aD ay.cells l,J] H Q:=by
 refine S.HK W ?_;unfold S.f48;simp only[aO,M,W7,mM h,G,show bj false (ar)=some (D ((0:Nat):Int))from rfl,bH];have aA:∀(r:List ay)(k:Nat)(F:Int)(A:RS)(K t:I)(f:Z),l.drop k=r→fx f id B [] A K t→A.stop=true→di id H f→bV B c r F 0 A=bV B c l 0 0 (RS.init aL fuel)→au (S.lK (aj C) (.ptr id 0) (aD ay.cells l) (D ((0:Nat):Int)) (D l.length) Q) ([D F,D k],f):=by
  intro r k F A K t f Y a hs f5 he;cases r with
  | nil=>have hle:=db Y;refine au.step ?_;simp only[S.lK,aq,bh,bb,G,ai,aB,S.uF];rw[cZ];simp only[aO,M,W7,mM a.m.row,G];obtain⟨aC,e1,a4,aF,aG,aH,a5⟩:=a.m.loc.take (WS _);rw[e1];simp only[G];rw[xQ a.m.row aF aG aH];simp only[G];rw[bV]at he;rw[←he]at g;obtain⟨tk,L,_⟩:=a.p;exact g aC t _ (f5.trans (E.set id _ _).fr) (a.m.row.set _) ⟨tk,L⟩ a.m.pl
  | cons x r=>obtain⟨N,o,ac⟩:=c8 Y;rw[bV,aa hs]at he;refine au.step ?_;simp only[S.lK,aq,bh,bb,G,ai];rw[ch,cp N];simp only[G];rw[dd ay.len (by decide) _ o];simp only[G,aV,aR,aY];rw[bO _ _ _ 10 x.len x.scalar rfl];have O:=E.push id f (.row x.cells);have ae:=a.m.row.push (.row x.cells);simp only[G,aO,M,W7];generalize f.push (.row x.cells)=u at *;rw[j2 ae];simp only[G,ai];rw[aa hs];rw[←he]at g;obtain⟨tk,L,_⟩:=a.p;exact g K t u (f5.trans O.fr) ae ⟨tk,L⟩ a.m.pl
 cases b:l with
 | nil=>subst b;refine au.step ?_;simp only[S.lK,aq,bh,bb,G,ai,aB,S.uF];rw[aN];simp only[aO,M,W7,mM h,G];rw[show c6 2 ar none (some (D ((0:Nat):Int))) none=some (ar)from rfl];simp only[G];rw[xQ h rfl rfl rfl];simp only[G];exact g _ _ _ (E.set id _ _).fr (h.set _) ⟨.nil,by rw[bV];rfl⟩ (by rw[bV];show([]:List Int).length≤_;decide)
 | cons x r=>
  rw[←b];have o:l[0]?=some x:=by rw[b];rfl
  have N:0<l.length:=by rw[b];simp
  have ac:l.drop (0+1)=r:=by rw[b];rfl
  have ag:=Y7 o;rw[b]at U;refine au.step ?_;simp only[S.lK,aq,bh,bb,G,ai];rw[ch,show aU none 10 (aD ay.cells l) (J)=some (d_ ay.cells 10 l 0)from cp (i:=0) N];simp only[G];rw[dd ay.len (by decide) _ o];simp only[G,aV,aR,aY];rw[bO _ _ _ 10 x.len x.scalar rfl];have ah:=T.new H (.row x.cells);have O:=E.push id H (.row x.cells);have P:=h.push (.row x.cells);have a6:=h.1;simp only[G,aO,M,W7];generalize H.push (.row x.cells)=u at *;rw[j2 P];simp only[G,ai];rw[ab (by show ¬(false=true);decide),xI ah];simp only[G];rw[BD P];simp only[G];have aI:=E.set id u (.row (cK B {RS.init aL fuel with V:=x.V} ar ar));have aJ:=P.set (.row (cK B {RS.init aL fuel with V:=x.V} ar ar));have aK:=ah.br (show H.n≠id by omega) (.row (cK B {RS.init aL fuel with V:=x.V} ar ar));generalize u.set id (.row (cK B {RS.init aL fuel with V:=x.V} ar ar))=a7 at *;obtain⟨b1,b2⟩:=sn (s:={RS.init aL fuel with V:=x.V}) rfl (by show fuel<1;omega);refine BG aw W aJ λak al aP=>?_;have aQ:=al.2 _ _ (show H.n≠id by omega) aK;have w:=Kp.bY ({RS.init aL fuel with V:=x.V}:RS);have aT:({RS.init aL fuel with V:=x.V}:RS).bY.ok:=RS.ok.bY ⟨X.aL,X.aS⟩;have aW:fx ak id B [] ({RS.init aL fuel with V:=x.V}:RS).bY ar (ar):=by refine⟨⟨aP,.inl ⟨rfl,by rw[w.aS];rfl⟩,aT,by rw[w.aS];show([]:List (List UInt8×Int)).length≤_;decide,λe=>(by rw[b1]at e;cases e),λe=>(by rw[b1]at e;cases e),by rw[w.pr];show([]:List Int).length≤_;decide⟩,by rw[w.pr];exact cD.nil _ _ _,λj c d e q=>by cases q⟩
  generalize aX:({RS.init aL fuel with V:=x.V}:RS).bY=z at *;rw[Bt aQ];simp only[G];have aZ:yg C id B c x:=Lg aw W az hv hc x (R x ag);refine aZ [] U.1 0 z _ _ ak _ aW λam an ao f9 a0=>?_;have ap:=(pF B c x 0 z).same b1;have a1:fx ao id B [] (eI B c x 0 z) am an:=a0.over ap.2;simp only[bu,G];rw[show Xv .i64 ((0:Int)+1)=((0+1:Nat):Int)from rfl];have a2:c6 10 (aD ay.cells l) (some (D 0)) (some (D ((0+1:Nat):Int))) none=some (aD ay.cells [x]):=B1 ay.len o;rw[a2];simp only[G];refine Bz aw W (by simp) (λy ax=>by simp at ax;rw[ax];exact R x ag) _ _ ?_;simp only[bu,G];refine aA r (0+1) _ (eI B c x 0 z) am an ao ac a1 ap.2 ((O.trans (aI.trans al)).fr.trans f9) ?_
  conv=>rhs;rw[b]
  rw[bV,ab (by show ¬(false=true);decide),aX];rfl
theorem UK(hc:1000000<c)(w:p.ok)(y:p.B.length≤1000000){k:Nat}{t:List ay}(ht:p.cG[k]?=some t)(z:gw [] t){aL:List (Int×Int)}(A:∀x∈aL,bx x.1∧bx x.2)(E:fuel<0){H:Z}{Q:ad}
  (b:∀d H',di H.n H H'→j3 d (eW p.B c t aL fuel).2.2.1→(eW p.B c t aL fuel).2.2.1.length≤1000000→Q (.aM [.agg (eW p.B c t aL fuel).1.cells,D (eW p.B c t aL fuel).2.1,d,D (eW p.B c t aL fuel).2.2.2]) H'):aj C 19 [.agg p.cells,D k,aD b5 aL,D fuel] H Q:=by
 obtain⟨⟨av,hv⟩,ax,F⟩:=w;obtain⟨hlen,I⟩:=F t (Y7 ht);have K:=(Wh.1 ht).1;refine S.HI W ?_;unfold S.f19;have L:bg H false 2 (.agg p.cells)=some (.ak p.cells,H):=by unfold bg;rw[aa ⟨rfl,rfl⟩];rfl
 have N:∀H,O H 1 false (.ak (p.cells.drop 0))=some (aD aE.cells p.B):=λ_=>rfl;have R:∀H,O H 1 false (.ak (p.cells.drop 1))=some (aD gK p.cG):=λ_=>rfl;have U:ba [ar,ar,ar,ar,J,J,J,J,J,J,J,J,J,P,J,J,J,J,af 0,af 0,P,P] [(0,1,aD aE.cells p.B),(1,1,aD b5 aL),(5,1,D fuel)]=some (.agg (cK p.B (RS.init aL fuel) ar ar)):=rfl;simp only[L,aV,aR,aY,M,G,N,U];have V:=T.new H (.row cc.cells);have X:di H.n H (H.push (.row cc.cells)):=⟨W4 _,λj o _ h=>h.push _⟩
 have az:(H.push (.row cc.cells)).n=H.n+1:=rfl;change aJ (bg (H.push (.row cc.cells)) true 22 _) _;generalize H.push (.row cc.cells)=H1 at *;have Y:bg H1 true 22 (.agg (cK p.B (RS.init aL fuel) ar ar))=some (.ptr H1.n 0,H1.push (.row (cK p.B (RS.init aL fuel) ar ar))):=by unfold bg;rw[aa ⟨rfl,rfl⟩];rfl
 rw[Y];simp only[aV,R,G];have ac:=T.new H1 (.row (cK p.B (RS.init aL fuel) ar ar));have ae:=V.push (.row (cK p.B (RS.init aL fuel) ar ar));have ag:=X.trans (show di H.n H1 (H1.push (.row (cK p.B (RS.init aL fuel) ar ar)))from⟨W4 _,λj o _ h=>h.push _⟩);generalize H1.push (.row (cK p.B (RS.init aL fuel) ar ar))=u at *;rw[cp K];simp only[G];have ah:O u 1 false (d_ gK 1 p.cG k)=some (aD ay.cells t):=rA (c:=λl=>aD ay.cells l) u ht;rw[ah];simp only[G];have hm:=jc;refine UJ aw W y hv hc (by omega) I z ⟨A,λl hl=>by cases hl⟩ E ac λlx px f f3 e al am=>?_;have g:=f3.2 H.n _ (by omega) ae;have r:di H.n H f:=ag.trans ⟨f3.1,λj o aA h=>f3.2 j o (by omega) h⟩;have an:eW p.B c t aL fuel=(if(bV p.B c t 0 0 (RS.init aL fuel)).empty=true then(cc,0,[],16)else if(bV p.B c t 0 0 (RS.init aL fuel)).stop=false then((bV p.B c t 0 0 (RS.init aL fuel)).want,1,(bV p.B c t 0 0 (RS.init aL fuel)).pr,0)else((bV p.B c t 0 0 (RS.init aL fuel)).want,(bV p.B c t 0 0 (RS.init aL fuel)).fin,(bV p.B c t 0 0 (RS.init aL fuel)).pr,0)):=rfl;rw[an]at b;generalize bV p.B c t 0 0 (RS.init aL fuel)=s at *;simp only[aO,M,W7,Jj e,G,ai];apply aH<;>intro he
 · rw[aa he]at b;rw[show ba [J,J,J,J,J,J,P,J,J,J,J,af 0,af 0] []=some (.agg cc.cells)from rfl];simp only[G];rw[g.store,aa ⟨rfl,rfl,rfl,(by decide:0+13≤13)⟩];simp only[G];have m:T (f.set H.n (.row cc.cells)) H.n (.row cc.cells):=g.set _;change Do (O (f.set H.n (.row cc.cells)) 13 true (.ptr H.n 0)) _;rw[mO m];simp only[G];exact b _ _ (r.trans (di.set (hT _) _)) ⟨.nil,rfl⟩ (by simp)
 rw[ab he]at b;obtain⟨tk,ao⟩:=al;have fin:∀(a:Z)(fn:Int),di H.n H a→T a H1.n (.row (cK p.B {s with fin:=fn} lx px))→T a H.n (.row cc.cells)→(∀d H',di H.n H H'→j3 d s.pr→s.pr.length≤1000000→Q (.aM [.agg s.want.cells,D fn,d,J]) H')→S.oR (aj C) (.ptr H.n 0) (.ptr H1.n 0) Q [] a:=by intro a fn f4 r4 m ap;unfold S.oR;simp only[aO,M,W7,Ji r4,xP r4,r5 r4,G];rw[m.store,aa ⟨rfl,rfl,rfl,(by decide:0+13≤13)⟩];simp only[G];have aq:T (a.set H.n (.row s.want.cells)) H.n (.row s.want.cells):=m.set _;have v:=r4.br (i:=H.n) (by omega) (.row s.want.cells);change O (a.set H.n (.row s.want.cells)) 1 false (.ptr H1.n 6)=_∧O (a.set H.n (.row s.want.cells)) 1 false (.ptr H1.n 3)=_∧Do (O (a.set H.n (.row s.want.cells)) 13 true (.ptr H.n 0)) _;refine⟨xP v,r5 v,?_⟩;rw[mO aq];simp only[G];exact ap px _ (f4.trans (di.set (hT _) _)) ⟨tk,ao⟩ am
 simp only[j2 e,G,cV,ai,aB];apply aH<;>intro hs
 · have au:s.stop=false:=by simpa using hs
   rw[aa au]at b;rw[BE e];simp only[G];exact fin _ 1 (r.trans (di.set (by omega) _)) (e.set _) (g.br (by omega) _) b
 · rw[ab (λq=>hs (by rw[q];rfl))]at b;exact fin f s.fin r e g b
include je
theorem UL(hc:1000000<c)(l:p.ok)(n:Int){aL:List (Int×Int)}(m:∀x∈aL,bx x.1∧bx x.2)(V:fuel≤1000000){H:Z}{Q:ad}
  (a:∀f H',di H.n H H'→j3 f (fY kw c p n aL fuel).2.2.1→(fY kw c p n aL fuel).2.2.1.length≤1000000→Q (.aM [.agg (fY kw c p n aL fuel).1.cells,D (fY kw c p n aL fuel).2.1,f,D (fY kw c p n aL fuel).2.2.2]) H'):aj C 6 [.agg p.cells,D n,aD b5 aL,D fuel] H Q:=by
 have ar:=l.2.1;have hm:=jc;refine S.N6 W ?_;unfold S.f6;unfold fY at a;have X:bg H false 2 (.agg p.cells)=some (.ak p.cells,H):=by unfold bg;rw[aa ⟨rfl,rfl⟩];rfl
 have Y:∀H,O H 1 false (.ak (p.cells.drop 1))=some (aD gK p.cG):=λ_=>rfl;have A:∀H,O H 2 true (.ak p.cells)=some (.agg p.cells):=λ_=>eM rfl;have E:ba [J,J,J,J,J,J,P,J,J,J,J,af 0,af 0] []=some (.agg cc.cells):=rfl;simp only[X,aV,aR,aY,M,G,A];have ac:=T.new H (.row cc.cells);have ae:di H.n H (H.push (.row cc.cells)):=⟨W4 _,λj o _ h=>h.push _⟩
 have au:(H.push (.row cc.cells)).n=H.n+1:=rfl;change aj C 18 _ (H.push (.row cc.cells)) _;generalize H.push (.row cc.cells)=H1 at *;refine Ry aw W je p l _ _ ?_;simp only[xG,aV];rw[bO H1 _ [D (eg kw p).1,D (eg kw p).2] 2 rfl rfl rfl];have s:=T.new H1 (.row [D (eg kw p).1,D (eg kw p).2]);have r:=ac.push (.row [D (eg kw p).1,D (eg kw p).2]);have t:=ae.trans (show di H.n H1 (H1.push (.row [D (eg kw p).1,D (eg kw p).2]))from⟨W4 _,λj o _ h=>h.push _⟩);have av:(H1.push (.row [D (eg kw p).1,D (eg kw p).2])).n=H1.n+1:=rfl;generalize H1.push (.row [D (eg kw p).1,D (eg kw p).2])=d at *;have l2:∀H',T H' H1.n (.row [D (eg kw p).1,D (eg kw p).2])→O H' 1 false (.ptr H1.n 1)=some (D (eg kw p).2):=λH' m=>by rw[m.load];rfl
 simp only[G,M,W7,l2 d s,cU,ai];have ret:∀(w:bE)(g:Z)(K:I→Z→Prop),di H.n H g→T g H.n (.row cc.cells)→(∀e,di H.n H e→(∀o,T g H1.n o→T e H1.n o)→K (.agg w.cells) e)→Do (ax g 13 (.ptr H.n 0) (.agg w.cells)) λe=>Do (O e 13 true (.ptr H.n 0)) λx=>K x e:=by intro w g K f4 F hk;rw[F.store,aa ⟨rfl,rfl,rfl,(by decide:0+13≤13)⟩];simp only[G];have u:T (g.set H.n (.row w.cells)) H.n (.row w.cells):=F.set _;change Do (O (g.set H.n (.row w.cells)) 13 true (.ptr H.n 0)) _;rw[mO u];simp only[G];exact hk _ (f4.trans (di.set (hT _) _)) (λo k=>k.br (by omega) _)
 apply aH<;>intro h
 · rw[aa (by simpa using h)]at a;rw[E];simp only[G,l2 d s];rw[r.store,aa ⟨rfl,rfl,rfl,(by decide:0+13≤13)⟩];simp only[G];have u:T (d.set H.n (.row cc.cells)) H.n (.row cc.cells):=r.set _;have ag:=s.br (i:=H.n) (by omega) (.row cc.cells);change O (d.set H.n (.row cc.cells)) 1 false (.ptr H1.n 1)=_∧Do (O (d.set H.n (.row cc.cells)) 13 true (.ptr H.n 0)) _;refine⟨l2 _ ag,?_⟩;rw[mO u];simp only[G];exact a _ _ (t.trans (di.set (hT _) _)) ⟨.nil,rfl⟩ (by simp)
 rw[ab (by simpa using h)]at a;have ah:(eg kw p).2=0:=by simpa using h
 obtain⟨ay,L⟩:=S9 kw ah;have N:∀b:Bool,(b=true↔(n<0∨n≥p.cG.length))→S.tN (aj C) (D n) (aD b5 aL) (D fuel) (.ak p.cells) (.ptr H.n 0) Q [.bool b] d:=by
  intro b R;unfold S.tN;simp only[aq,ai];apply aH<;>intro h
  · rw[aa (R.1 h)]at a;rw[E];simp only[G];refine ret cc d _ t r λe f5 _=>?_;exact a _ _ f5 ⟨.nil,rfl⟩ (by simp)
  · have al:¬(n<0∨n≥p.cG.length):=λq=>h (R.2 q);rw[ab al]at a;have v:n.toNat<p.cG.length:=by omega
    have y:p.cG[n.toNat]?=some p.cG[n.toNat]:=Xc v;rw[y]at a;dsimp only at a;have am:n=((n.toNat:Nat):Int):=by omega
    simp only[aB,S.EA,A,G];rw[am];have an:∀{z:ad},(∀f H',di d.n d H'→j3 f (eW p.B c p.cG[n.toNat] aL fuel).2.2.1→(eW p.B c p.cG[n.toNat] aL fuel).2.2.1.length≤1000000→z (.aM [.agg (eW p.B c p.cG[n.toNat] aL fuel).1.cells,D (eW p.B c p.cG[n.toNat] aL fuel).2.1,f,D (eW p.B c p.cG[n.toNat] aL fuel).2.2.2]) H')→aj C 19 [.agg p.cells,D n.toNat,aD b5 aL,D fuel] d z:=by
     intro z U;by_cases f0:0≤fuel
     ·exact UI aw W hc l (by omega) y (L _ (Xj v)) m f0 V U
     ·exact UK aw W hc l (by omega) y (L _ (Xj v)) m (by omega) U
    refine an λf e f5 k ao=>?_;simp only[bI,Zn,Zo,G];refine ret _ e _ (t.trans ⟨f5.1,λj o az k=>f5.2 j o (by omega) k⟩) (f5.2 _ _ (by omega) r) λap f6 _=>?_;exact a f ap f6 k ao
 simp only[bb,G,b7];apply dD<;>intro h
 · simp only[Y,G,bH,eu,aB];refine N _ ?_;simp only[dh,decide_eq_false_iff_not]at h ⊢;omega
 · refine N true ⟨λ_=> .inl ?_,λ_=>rfl⟩;simpa using h
end
end Rb

namespace Rb
open Go
section
variable{C:Ctx}(aw:cY C)(W:Cl (aj C) S.cr)
include aw W
theorem UM(p:eA)(aJ:p.ok):bR (aj C) 7 [.agg p.cells] (xG (eg bJ p)):=by
 obtain⟨⟨a_,hv⟩,bd,ht⟩:=aJ;refine bR.of aw (by simp[I.cv,I.b6,eA.b6]) rfl λQ an=>S.N7 W ?_;have fin:∀(a b:Int) H',(a,b)=eg bJ p→Q (.agg [D a,D b]) H':=λa b H' h=>by have:=an H';rw[←h]at this;exact this
 clear an;have aK:bg Z.mt false 2 (.agg p.cells)=some (.ak p.cells,Z.mt):=by unfold bg;rw[aa ⟨rfl,rfl⟩];rfl
 have F:∀H,O H 1 false (.ak (p.cells.drop 0))=some (aD aE.cells p.B):=λ_=>rfl;have N:∀H,O H 1 false (.ak (p.cells.drop 1))=some (aD gK p.cG):=λ_=>rfl;unfold S.f7;simp only[aK,aV,aR,aY,M,G,F,bH,dv,b7];generalize be:Z.mt=H0;have ao:=T.new H0 (.row [J,J]);generalize H0.push (.row [J,J])=L at *;generalize H0.n=d at *;have out:∀(a b:Int)(H1:Z),T H1 d (.row [J,J])→(a,b)=eg bJ p→Do (ax H1 2 (.ptr d 0) (.agg [D a,D b])) λf=>Do (O f 2 true (.ptr d 0)) λx=>Q x f:=by intro a b H1 g he;rw[g.put (n:=2) rfl rfl rfl];simp only[G];rw[(g.set _).all (n:=2) rfl];simp only[G];exact fin a b _ he
 have ha:∀e:Int,ba [J,J] [(1,1,D e)]=some (.agg [J,D e]):=λ_=>rfl;unfold eg at out;have aL : ¬(32<p.B.length∨p.cG.length<1∨8<p.cG.length)→U (S.zN (aj C) (.ak p.cells) (.ptr d 0) Q) [] L:=by
  intro ap;rw[ab ap]at out;simp only[aB,S.zN];have P:iQ bJ p.B=if fF bJ [] p.B≠0 then fF bJ [] p.B else if fw 0 p.B>65536 then 9 else 0:=by unfold iQ;rw[bF];exact CC bJ 70000 rfl p.B [] 0 0 (by decide) (by simp) (by omega)
  have aM:∀(V:Z),T V d (.row [J,J])→iQ bJ p.B=0→au (S.qE (aj C) (.ak p.cells) (.ptr d 0) Q) ([J],V):=by
   intro V X aP;rw[ab (by simpa using aP)]at out;have main:∀(r:List (List ay)) (i:Nat) (H1:Z),p.cG.drop i=r→T H1 d (.row [J,J])→kA bJ p.B r=kA bJ p.B p.cG→au (S.qE (aj C) (.ak p.cells) (.ptr d 0) Q) ([D i],H1):=by
    intro r;induction r with
    | nil=>intro i H1 A g he;have hle:=db A;refine au.step ?_;simp only[S.qE,aq,M,N,bH,bb,G,ai];rw[cZ];simp only[aB,S.EF];rw[show ba [J,J] []=some (.agg [J,J])from rfl];simp only[G];exact out 0 0 H1 g he
    | cons t r ae=>
     intro i H1 A g he;obtain⟨af,K,ag⟩:=c8 A;obtain⟨aQ,av⟩:=ht t (Y7 K);refine au.step ?_;simp only[S.qE,aq,M,F,N,bH,bb,G,ai];rw[ch,show ba [ar,J,J,J,J] [(0,1,aD aE.cells p.B)]=some (.agg (dt p.B s0))from rfl];simp only[G];have o:bg H1 true 5 (.agg (dt p.B s0))=some (.ptr H1.n 0,H1.push (.row (dt p.B s0))):=by unfold bg;rw[aa ⟨rfl,rfl⟩];rfl
     rw[o];simp only[aV];have aS:=T.new H1 (.row (dt p.B s0));have aT:d≠H1.n:=g.gS;have a3:=g.push (.row (dt p.B s0));generalize H1.push (.row (dt p.B s0))=f at *;generalize H1.n=id at *;rw[cp af];simp only[G];have aU:O f 1 false (d_ gK 1 p.cG i)=some (aD ay.cells t):=rA (c:=λl=>aD ay.cells l) f K;rw[aU];simp only[G];refine CI aw W (by omega) hv aQ av (λx aW=>Up aw W (by omega) hv x (av x aW)) s0 ar 1 f _ (jj.of aS) ⟨.nil,rfl⟩ (by decide) (λ_=>⟨by decide,by decide⟩) (by decide) (by decide) λY ac aX _=>?_;have az:=ac.2 d _ aT a3;obtain⟨ah,aA,f1,f2,_⟩:=aX;rw[kA]at he;generalize dN p.B bJ s0 1 t=bf at *;have aZ:O Y 1 false (.ptr id (3+1))=some (D ah.u):=by rw[aA.load];rfl
     have i32:O Y 2 true (.ptr id 3)=some (.agg [D ah.gV,D ah.u]):=by rw[aA.load];rfl
     simp only[aO,M,W7,G,aZ,i32,cU,ai];apply aH<;>intro h
     · rw[f1,f2];rw[f1]at h;rw[aa (by simpa using h)]at he;exact out _ _ Y az he
     · rw[f1]at h;rw[ab (by simpa using h)]at he;simp only[bu,G];rw[bM,fb i];exact ae (i+1) Y ag az he
   exact main p.cG 0 V rfl X rfl
  have main:∀(r:List aE)(i:Nat)(H1:Z),p.B.drop i=r→T H1 d (.row [J,J])→fF bJ ((p.B.take i).map (·.name)) r=fF bJ [] p.B→au (S.oP (aj C) (.ak p.cells) (.ptr d 0) Q) ([D i],H1):=by
   intro r;induction r with
   | nil=>
    intro i H1 A g he;have hle:=db A;refine au.step ?_;simp only[S.oP,aq,M,F,bH,bb,G,ai];rw[cZ];simp only[aB,S.EG,M,F,G];rw[fF]at he;have a0:=CE bJ he.symm;rw[ab (by rw[←he];decide)]at P;refine JO aw W (by omega) hv a0 (λbh H' E bi a1=>?_) (λH' E a1=>?_)
    · simp only[bI,Zn,Zo,G,cU,ai];rw[aN];exact aM H' (g.ext E) (by rw[P,bF])
    · simp only[bI,Zn,Zo,G,cU,ai];rw[dW,ha];simp only[G];have X:iQ bJ p.B=9:=by rw[P,df]
      rw[aa (by rw[X];decide),X]at out;exact out 0 9 H' (g.ext E) rfl
   | cons v r ae=>
    intro i H1 A g he;obtain⟨af,K,ag⟩:=c8 A;have a4:=Y7 K;rw[fF]at he;refine au.step ?_;simp only[S.oP,aq,M,F,bH,bb,G,ai];rw[ch,cp af];simp only[G];rw[dd aE.len (by decide) _ K];simp only[G,aR,aY,aV];rw[bO _ _ _ 7 v.len v.scalar rfl];have ad:=T.new H1 (.row v.cells);have a2:=g.push (.row v.cells);simp only[G];generalize H1.push (.row v.cells)=f at *;have v0:∀H',T H' H1.n (.row v.cells)→O H' 1 false (.ptr H1.n 0)=some (.str v.name):=λH' h=>by rw[h.load];cases v;rfl
    have v1:∀H',T H' H1.n (.row v.cells)→O H' 6 true (.ptr H1.n 1)=some (.agg v.type.cells):=λH' h=>by
     rw[h.load];cases v with
     | mk name type=>have bj:=type.len;show bW (.str name::type.cells) 1 6 true=_;unfold bW;rw[aa (by rw[Z9];omega),aa rfl];show some (I.agg (type.cells.take 6))=_;rw[ZJ (by omega)]
    have bad:∀(e:Int)(H':Z),T H' d (.row [J,J])→e≠0→fF bJ [] p.B=e→Do (ax H' 2 (.ptr d 0) (.agg [J,D e])) λf=>Do (O f 2 true (.ptr d 0)) λx=>Q x f:=by
     intro e H' a5 aC a6;have aF:iQ bJ p.B=e:=by rw[P,a6,aa aC]
     rw[aa (by rw[aF];exact aC),aF]at out;exact out 0 e H' a5 rfl
    have ac:∀b:Bool,(b=true↔(dL v.name=false∨bJ v.name=true))→S.tP (aj C) (.ak p.cells) (.ptr d 0) (.ptr H1.n 0) ([D i],H1) (au (S.oP (aj C) (.ak p.cells) (.ptr d 0) Q)) Q [.bool b] f:=by
     intro b o;unfold S.tP;simp only[aq,ai,aB];apply aH<;>intro z
     · rw[aa (o.1 z)]at he;rw[ha];simp only[G];exact bad 6 f a2 (by decide) he.symm
     rw[ab (λy=>z (o.2 y))]at he;unfold S.EE;have inner:∀(m k:Nat),k+m=i→(∀j,j<k→∀w,p.B[j]?=some w→w.name≠v.name)→au (S.tO (aj C) (.ak p.cells) (.ptr d 0) (.ptr H1.n 0) ([D i],H1) (au (S.oP (aj C) (.ak p.cells) (.ptr d 0) Q)) Q) ([D k],f):=by
      intro m;induction m with
      | zero=>
       intro k hk al;refine au.step ?_;simp only[S.tO,aq,bb,G,ai];rw[cZ];have hc:¬((p.B.take i).map (·.name)).contains v.name=true:=by
        intro q;rw[aaw]at q;obtain⟨w,hw,e⟩:=YX.1 q;obtain⟨j,s⟩:=List.getElem?_of_mem hw;rw[Wj]at s;split at s
        ·exact al j (by omega) w s e
        ·cases s
       rw[ab hc]at he;simp only[aB,S.ED,M,W7,v1 f ad,G];refine JH aw W v.type (hv v a4).2 _ _ ?_;simp only[cU,G,ai];apply aH<;>intro y
       · have y:(bT v.type).2≠0:=by simpa using y
         rw[aa y]at he;rw[ha];simp only[G];exact bad _ f a2 y he.symm
       · have y:(bT v.type).2=0:=by simpa using y
         rw[ab (by simpa using y)]at he;simp only[aB,S.EC,aq,bu,G];rw[bM,fb i];refine ae (i+1) f ag a2 ?_;rw[List.take_add_one,K,aau];exact he
      | succ m a7=>
       intro k hk al;obtain ⟨w, hw⟩ : ∃ w, p.B[k]? = some w := ⟨p.B[k]'(by omega), Xc _⟩
       obtain⟨bk,bl,ra,e1,a8,bm,a9,bn⟩:=x2 aw W hw;refine au.step ?_;simp only[S.tO,aq,bb,G,ai];rw[ch];simp only[show M 0 (.ak p.cells)=some (.ak (p.cells.drop 0))from rfl,F,G,e1,a8,a9];simp only[M,W7,v0 f ad,G,fc,ai];apply aH<;>intro y
       · have y:w.name=v.name:=by simpa using y
         have hc:((p.B.take i).map (·.name)).contains v.name=true:=by
          rw[aaw];refine YX.2 ⟨w,?_,y⟩;have:(p.B.take i)[k]?=some w:=by rw[Wj,df];exact hw
          exact Y7 this
         rw[aa hc]at he;rw[ha];simp only[G];exact bad 7 f a2 (by decide) he.symm
       · have y:¬w.name=v.name:=by simpa using y
         simp only[bu,G];rw[bM,fb k];refine a7 (k+1) (by omega) λj s R am=>?_;rcases Nat.lt_or_eq_of_le (Nat.le_of_lt_succ s)with s|rfl
         ·exact al j s R am
         ·rw[hw]at am;cases am;exact y
     exact inner i 0 (by omega) λj s=>by omega
    simp only[M,W7,v0 f ad,G];refine S.AG W (BV ?_);simp only[cV,G,b7,aB];apply dD<;>intro z
    · simp only[M,W7,v0 f ad,G];refine K3 aw W v.name _ _ ?_;refine ac _ ⟨λe=> .inr e,λe=>?_⟩;rcases e with e|e
      ·rw[e]at z;cases z
      ·exact e
    ·refine ac true ⟨λ_=> .inl (by simpa using z),λ_=>rfl⟩
  exact main p.B 0 L rfl ao rfl
 have aG:∀b:Bool,(b=true↔(32<p.B.length∨p.cG.length<1∨8<p.cG.length))→U (S.tQ (aj C) (.ak p.cells) (.ptr d 0) Q) [.bool b] L:=by
  intro b o;simp only[aB,S.tQ,aq,ai];apply aH<;>intro h
  · rw[aa (o.1 h)]at out;rw[ha];simp only[G];exact out 0 12 L ao rfl
  ·exact aL λy=>h (o.2 y)
 have aI:∀b:Bool,(b=true↔(32<p.B.length∨p.cG.length<1))→U (S.tS (aj C) (.ak p.cells) (.ptr d 0) Q) [.bool b] L:=by
  intro b o;simp only[aB,S.tS,aq,b7,M,G,N,bH,dv];apply dD<;>intro h
  · refine aG _ ?_;have ap:¬(32<p.B.length∨p.cG.length<1):=λy=>by have:=o.2 y;rw[h]at this;cases this
    simp only[dh,gt_iff_lt];omega
  · refine aG _ ?_;have:=o.1 h;simp only[true_iff];omega
 apply dD<;>intro h
 · simp only[N,G,bH,bc];refine aI _ ?_;simp only[decide_eq_false_iff_not,gt_iff_lt]at h;simp only[b9];omega
 · refine aI _ ?_;simp only[dh,gt_iff_lt]at h;simp only[true_iff];omega
end
end Rb

namespace Rb
open Go
theorem Lh(w:bE):ir false [.n,.n,.n,.n,.n,.n,.b,.n,.n,.n,.n,.n,.n] (.agg w.cells) (.agg w.cells)=some (bd):=by simp[ir,dJ,bE.cells,bN.cells]
theorem UN{xs:List Int}{k:Nat}{v:Int}{tk:Tok}(h:xs[k]?=some v):∃p,aU none 1 (.av tk xs.length (xs.map (af))) (D k)=some p∧∀H,O H 1 false p=some (af v):=by
 have a:=(Wh.1 h).1;refine⟨.ak ((xs.map (af)).drop (k*1)),?_,λH=>?_⟩
 · show(if 0≤(k:Int)∧(k:Int)<(xs.length:Nat)then some (I.ak ((xs.map (af)).drop ((k:Int).toNat*1)))else none)=_;rw[aa ⟨by omega,by omega⟩,Xw]
 · show bW ((xs.map (af)).drop (k*1)) 0 1 false=_;unfold bW;rw[oc];simp[List.getElem?_drop,h]
theorem UO(B:List aE)(c:Nat)(t:List ay)(aL:List (Int×Int))(f:Int):eW B c t aL f=(cc,0,[],16)∨(eW B c t aL f).2.2.2=0:=by
 unfold eW;dsimp only;split
 ·exact .inl rfl
 · split
   ·exact .inr rfl
   ·exact .inr rfl
theorem UP{p:eA}(b:p.ok)(h:(eg bJ p).2=0):l_ p.B∧∀t∈p.cG,vB p.B [] t:=by
 obtain⟨c,d,f⟩:=Tj bJ h;have a:iQ bJ p.B=if fF bJ [] p.B≠0 then fF bJ [] p.B else if fw 0 p.B>65536 then 9 else 0:=by unfold iQ;rw[bF];exact CC bJ 70000 rfl p.B [] 0 0 (by decide) (by simp) (by omega)
 rw[d]at a;have hf:fF bJ [] p.B=0:=by
  by_cases e:fF bJ [] p.B=0
  ·exact e
  ·rw[aa e]at a;exact a.symm
 rw[ab (by simpa using hf)]at a;refine⟨⟨c,b.1.2,CE bJ hf,?_⟩,f⟩;by_cases e:fw 0 p.B>65536
 ·rw[aa e]at a;cases a
 ·omega
end Rb

namespace Rb
open Go
variable{H:Z}{Q:ad}
section
variable{C:Ctx}(aw:cY C)(W:Cl (aj C) S.cr)(je:∀x,bR (aj C) 72 [.str x] (.bool (bJ x)))(yo:bR (aj C) 8 [] bd)
include aw W
theorem UQ(w:bE)(c:Q bd H):aj C 11 [.agg w.cells,.agg w.cells] H Q:=by
 refine S.N_ W ?_;unfold S.f11;have d:bg H false 13 (.agg w.cells)=some (.ak w.cells,H):=by unfold bg;rw[aa ⟨rfl,rfl⟩];rfl
 have e:∀i,M i (.ak w.cells)=some (.ak (w.cells.drop i)):=λ_=>rfl;have f:O H 1 false (.ak (w.cells.drop 0))=some (D w.kind):=rfl;have l1:O H 1 false (.ak (w.cells.drop 1))=some (D w.site):=rfl;have l2:O H 1 false (.ak (w.cells.drop 2))=some (D w.V):=rfl;have g:O H 6 true (.ak (w.cells.drop 3))=some (.agg w.spot.cells):=rfl;have h:O H 1 false (.ak (w.cells.drop 9))=some (D w.aG):=rfl;have l10:O H 1 false (.ak (w.cells.drop 10))=some (D w.op):=rfl;have j:O H 2 true (.ak (w.cells.drop 11))=some (.agg [af w.d0,af w.d1]):=rfl;have k:ir false [.n,.n,.n,.b,.n,.n] (.agg w.spot.cells) (.agg w.spot.cells)=some (bd):=by simp[ir,dJ,bN.cells]
 have l:ir false [.n,.n] (.agg [af w.d0,af w.d1]) (.agg [af w.d0,af w.d1])=some (bd):=by simp[ir,dJ]
 have m:∀a:Int,(a==a)=true:=λa=>by simp
 simp only[d,aV,e,f,l1,G,bc,m,bG,aY,aB,S.zS,S.zR,S.zQ,S.zP,S.zO,aq,l2,g,k,h,l10,j,l];exact c
theorem UR{c a:I}{xs:List Int}(f:j3 c xs)(d:c2 H 1 a xs.length (xs.map (af)))(hl:xs.length≤9223372036854775807)(g:Q bd H):aj C 12 [c,a] H Q:=by
 obtain⟨t1,rfl⟩:=f;refine S.Oa W ?_;unfold S.f12;have al:∀tk,bj false (.av tk xs.length (xs.map (af)))=some (D xs.length):=λ_=>rfl;simp only[al,d.len,G,cU,ai];rw[iE];have main:∀(r:List Int)(k:Nat),xs.drop k=r→au (S.tW (aj C) (.av t1 xs.length (xs.map (af))) a Q) ([D k],H):=by
  intro r;induction r with
  | nil=>intro k b;have hle:=db b;refine au.step ?_;simp only[S.tW,al,G,aq,bb,ai];rw[cZ];exact g
  | cons x r h=>intro k b;obtain⟨l,e,i⟩:=c8 b;obtain⟨m,e1,l1⟩:=UN (tk:=t1) e;obtain⟨n,j,l2⟩:=d.get (k:=k) (v:= af x) (by rw[Xb,e];rfl);refine au.step ?_;simp only[S.tW,al,G,aq,bb,ai];rw[ch];simp only[e1,j,l1,l2 H (Z.Ext.refl _),G,cU,ai,bu];rw[iE,bM,show(k:Int)+1=((k+1:Nat):Int) by simp];exact h (k+1) i
 exact main xs 0 rfl
include je yo
theorem US{p:eA}(g:p.ok)(V:∀t∈p.cG,gZ t≤Mx)(n:Int){aL:List (Int×Int)}(aJ:aL.length≤9223372036854775807)(X:∀x∈aL,bx x.1∧bx x.2)(fuel:Int)(w:∀H',Q bd H'):S.f3 (aj C) (.agg p.cells) (D n) (aD b5 aL) (D fuel) H Q:=by
 have aK:=g.2.1;have aM:=jc;have am:bg H false 2 (.agg p.cells)=some (.ak p.cells,H):=by unfold bg;rw[aa ⟨rfl,rfl⟩];rfl
 have y:∀H,O H 2 true (.ak p.cells)=some (.agg p.cells):=λ_=>eM rfl;have an:∀H,O H 1 false (.ak (p.cells.drop 1))=some (aD gK p.cG):=λ_=>rfl;have Y:ba [J,J,J,J,J,J,P,J,J,J,J,af 0,af 0] []=some (.agg cc.cells):=rfl;have z:∀a:Int,(a==a)=true:=λa=>by simp
 unfold S.f3;simp only[am,aV,bH,G,dv,ai,aB];have ac : ∀(A:List (Int×Int)) (F:Int),A.length≤60→(∀x∈A,bx x.1∧bx x.2)→F≤3000→S.tK (aj C) (D n) (.ak p.cells) [aD b5 A] Q [D F] H:=by
  intro A F E i ao;unfold S.tK;simp only[y,G,aq];refine UL aw W je (c:=1000001) (by decide) g n i (fuel:=F) (by omega) λj H1 aO K l1=>?_;simp only[bI,Zn,Zo,G,aR,aY,aV];rw[bO H1 _ (fY bJ 1000001 p n A F).1.cells 13 rfl rfl rfl];simp only[G,y];have w2:=T.new H1 (.row (fY bJ 1000001 p n A F).1.cells);generalize H1.push (.row (fY bJ 1000001 p n A F).1.cells)=q at *;refine UM aw W p g _ _ ?_;rw[show j_ 1 1 false (xG (eg bJ p))=some (D (eg bJ p).2)from rfl];simp only[G,bc];have l:bj false j=some (D (fY bJ 1000001 p n A F).2.2.1.length):=by obtain⟨tk,rfl⟩:=K;rfl
  have bad:∀e:Int,e≠0→fY bJ 1000001 p n A F=(cc,0,[],e)→S.oO (aj C) (D n) (.ak p.cells) (D (fY bJ 1000001 p n A F).2.1) j (D (fY bJ 1000001 p n A F).2.2.2) (.ptr H1.n 0) [aD b5 A] [D F] Q [D e] q:=by intro e he L;rw[L]at w2 l ⊢;unfold S.oO;simp only[aq,cU,G,ai];rw[aa (by simpa using he)];refine yo _ _ ?_;simp only[bG,aY,bc,G,z,aB,S.zG,aq];rw[kG w2,Y];simp only[G,Lh,S.zF,aq,bG,aY,bc,aB,S.zE,l];exact w _
  have ap:∀(b:Bool)(e:Int),b=false→e=0→S.oO (aj C) (D n) (.ak p.cells) (D (fY bJ 1000001 p n A F).2.1) j (D (fY bJ 1000001 p n A F).2.2.2) (.ptr H1.n 0) [aD b5 A] [D F] Q [D e] q→S.mz (aj C) (D n) (.ak p.cells) (D (fY bJ 1000001 p n A F).2.1) j (D (fY bJ 1000001 p n A F).2.2.2) (.ptr H1.n 0) (D e) [aD b5 A] [D F] Q [.bool b] q:=by intro b e s _ hk;unfold S.mz;simp only[aq,ai,s,aB];rw[aN];exact hk
  by_cases hf:(eg bJ p).2=0
  · obtain ⟨ad,ae⟩:=UP g hf;rw[hf,show((0:Int)==0)=true from rfl];simp only[bG,aY];have ag:∀b:Bool,(b=true↔(n<0∨n≥p.cG.length))→S.mz (aj C) (D n) (.ak p.cells) (D (fY bJ 1000001 p n A F).2.1) j (D (fY bJ 1000001 p n A F).2.2.2) (.ptr H1.n 0) J [aD b5 A] [D F] Q [.bool b] q:=by
     intro b s;by_cases u:n<0∨n≥p.cG.length
     · have ar:=s.2 u;unfold S.mz;simp only[aq,ai,ar,aY,aB];refine bad 1 (by decide) ?_;unfold fY;rw[ab (by rw[hf];decide),aa u]
     · have au:b=false:=by
         cases av:b with
         |false=>rfl
         |true=>exact absurd (s.1 av) u
       refine ap b 0 au rfl ?_;have ax:n.toNat<p.cG.length:=by omega
       obtain⟨t,N⟩:∃t,p.cG[n.toNat]?=some t:=⟨_,Xc ax⟩
       have m:=Y7 N;have ay:n=((n.toNat:Nat):Int):=by omega
       have L:fY bJ 1000001 p n A F=eW p.B 1000001 t A F:=by unfold fY;rw[ab (by rw[hf];decide),ab u,N]
       rw[L]at w2 K l l1 ⊢;unfold S.oO;simp only[aq,cU,G,ai];rw[aN];simp only[y,G];rw[ay];refine UD aw W ad g N (ae t m) (V t m) λid xa xn xs aP az aA=>?_;have w3:=w2.ext az;refine UE aw W ad (g.2.2 t m).2 (ae t m) (V t m) (c:=1000001) (by decide) (by omega) i ao aA λpx d aC ah=>?_;have aE:=w3.ext aC;simp only[aR,aY,aV];obtain⟨aQ,aS,aF⟩:=ah.known;have aG:(dS (e_ p.B 1000001 t A F).want (e_ p.B 1000001 t A F).fin px (e_ p.B 1000001 t A F).empty).all I.scalar=true:=by unfold dS;rw[ZM];show(_&&(true&&(px.scalar&&(true&&true))))=true;rw[aF];rfl
       rw[bO d _ (dS (e_ p.B 1000001 t A F).want (e_ p.B 1000001 t A F).fin px (e_ p.B 1000001 t A F).empty) 16 rfl aG rfl];have f:=T.new d (.row (dS (e_ p.B 1000001 t A F).want (e_ p.B 1000001 t A F).fin px (e_ p.B 1000001 t A F).empty));have R:=aE.push (.row (dS (e_ p.B 1000001 t A F).want (e_ p.B 1000001 t A F).fin px (e_ p.B 1000001 t A F).empty));have al:=ah.ext (Z.Ext.push d (.row (dS (e_ p.B 1000001 t A F).want (e_ p.B 1000001 t A F).fin px (e_ p.B 1000001 t A F).empty)));simp only[G];generalize d.push (.row (dS (e_ p.B 1000001 t A F).want (e_ p.B 1000001 t A F).fin px (e_ p.B 1000001 t A F).empty))=o at *;have v:∀k,M k (.ptr d.n 0)=some (.ptr d.n (0+k)):=λ_=>rfl;rcases UO p.B 1000001 t A F with hc|hc
       · have U:e_ p.B 1000001 t A F=⟨cc,0,[],true⟩:=by unfold e_;rw[hc];rfl
         rw[U]at f;rw[hc]at R l ⊢;simp only[v,W7,show O o 1 false (.ptr d.n 15)=some bd by rw[f.load];rfl,G,ai,aY];refine yo _ _ ?_;simp only[bG,aY,bc,G,z,aB,S.zJ,aq];rw[kG R,Y];simp only[G,Lh,S.zI,aq,bG,aY,bc,aB,S.zH,l];exact w _
       · have U:e_ p.B 1000001 t A F=⟨(eW p.B 1000001 t A F).1,(eW p.B 1000001 t A F).2.1,(eW p.B 1000001 t A F).2.2.1,false⟩:=by
           unfold e_;dsimp only;rw[ab (by rw[hc];decide)]
         rw[U]at f al;generalize eW p.B 1000001 t A F=r at *;simp only[v,W7,show O o 1 false (.ptr d.n 15)=some P by rw[f.load];rfl,G,ai];rw[aN];refine yo _ _ ?_;simp only[bG,aY,bc,G,hc,aB,S.zM,aq];rw[show((0:Int)==0)=true from rfl];simp only[aY];rw[kG R];simp only[G,v,W7];rw[show O o 13 true (.ptr d.n 0)=some (.agg r.1.cells) by rw[f.load];exact k2 (a:=r.1.cells) rfl];simp only[G];refine UQ aw W r.1 ?_;simp only[S.zL,aq,bG,aY,v,W7,show O o 1 false (.ptr d.n 13)=some (D r.2.1) by rw[f.load];rfl,G,bc,z,aB,S.zK,show O o 1 false (.ptr d.n 14)=some px by rw[f.load];rfl];exact UR aw W K al (by omega) (w _)
    simp only[bb,G,b7,aB];apply dD<;>intro h
    · simp only[show M 1 (.ak p.cells)=some (.ak (p.cells.drop 1))from rfl,an,G,bH,eu];refine ag _ ?_;simp only[dh,decide_eq_false_iff_not]at h ⊢;omega
    · refine ag true ⟨λ_=> .inl ?_,λ_=>rfl⟩;simpa using h
  · rw[show((eg bJ p).2==0)=false by simpa using hf];simp only[bG,Yf,cu,aB];unfold S.mz;simp only[aq,ai,aB];rw[aN];refine bad _ hf ?_;unfold fY;rw[aa hf]
 have key:∀A:List (Int×Int),A.length≤60→(∀x∈A,bx x.1∧bx x.2)→S.tM (aj C) (D n) (D fuel) (.ak p.cells) Q [aD b5 A] H:=by
  intro A E i;unfold S.tM;simp only[dv,G,ai,aB];apply aH<;>intro h
  ·exact ac A 3000 E i (by decide)
  ·exact ac A fuel E i (by simpa using h)
 apply aH<;>intro h
 · have h:60<aL.length:=by
     have:(60:Int)<aL.length:=by simpa using h
     omega
   rw[show(D 60) = D ((60:Nat):Int)from rfl,x1 (cells:=b5) (λ_=>rfl) aL (k:=60) (by omega)];simp only[G];exact key (aL.take 60) (by rw[Z1];omega) (λx aI=>X x (List.mem_of_mem_take aI))
 · have h:¬60<aL.length:=by
     have:¬(60:Int)<aL.length:=by simpa using h
     omega
   exact key aL (by omega) X
end
end Rb

namespace Rb
open Go Go.RowKit
section
variable{H:Type}{enc:TypeId×Value→H}{P:Program}{w:World}{sp:Nat→Bool}{held:Bool}{F:dk}{G:b4}
end
end Rb

namespace Rb
open Go Go.RowKit
section
variable{H:Type}{enc:TypeId×Value→H}{P:Program}{w:World}{sp:Nat→Bool}{held:Bool}{F:dk}
def eA.Eu(p:eA):Prop:=p.ok∧p.cG.length≤140737488355328∧∀t∈p.cG,t.length≤140737488355328
end
end Rb

namespace Rb
open Go
mutual
theorem UT:∀e:aA,j5 e≤dz e.cells
 | .mk kind n name op aG place a_=>by have a:=UU place;have b:=yp a_;simp only[j5,aA.cells,dz,i_,lM];omega
theorem yp:∀l:List aA,fW l≤dz (aA.all l)
 |[]=>by simp[fW,aA.all,dz]
 | e::r=>by have a:=UT e;have b:=yp r;simp only[fW,aA.all,lM];omega
theorem UU:∀x:aW,jE x≤dz x.cells
 | .mk var aK=>by have a:=CP aK;simp only[jE,aW.cells,dz,i_];omega
theorem CP:∀l:List aX,jF l≤dz (aX.all l)
 |[]=>by simp[jF,aX.all,dz]
 | e::r=>by have a:=UW e;have b:=CP r;simp only[jF,aX.all,lM];omega
theorem UW:∀x:aX,mT x≤dz x.cells
 | .mk field aZ=>by have a:=yp aZ;simp only[mT,aX.cells,dz,i_];omega
end
theorem UX(x:aW):jE x+2≤dz x.cells:=by
 cases x with
 | mk var aK=>have a:=CP aK;simp only[jE,aW.cells,dz,i_];omega
mutual
theorem UY:∀x:ay,mU x≤dz x.cells
 | .mk kind V name bQ aG place aF aP bq=>by have b:=UX place;have a:=yp aF;have c:=yq aP;have d:=yq bq;rw[aA.all_eq]at a;simp only[mU,ay.cells,aD,dz,i_,lM];omega
theorem yq:∀l:List ay,gZ l≤dz (ay.all l)
 |[]=>by simp[gZ,ay.all,dz]
 | e::r=>by have b:=UY e;have a:=yq r;simp only[gZ,ay.all,lM];omega
end
theorem Li{α:Type}{cells:α→List I}{x:α}:∀{l:List α},x∈l→dz (cells x)≤dz (l.flatMap cells)
 | y :: r,h=>by
  rw[Zi,lM];rcases YI.1 h with e|e
  ·rw[e];omega
  · have:=Li (cells:=cells) e;omega
theorem UZ{p:eA}{t:List ay}(h:t∈p.cG):gZ t≤dz p.cells:=by have b:=yq t;have a:=Li (cells:=gK) h;rw[ay.all_eq]at b;simp only[eA.cells,aD,dz,i_]at a ⊢;simp only[gK,aD,dz,i_]at a;omega
end Rb

namespace Rb
open Go Go.RowKit Go.ChangeShapes
theorem bo.four{F:dk}{w:World}{G:b4}{b c1 c d:I}{e f g h:Value}(i:VR F w G b e)(k:VR F w G c1 f)(l:VR F w G c g)(m:VR F w G d h):bo F w G [b,c1,c,d] #[e,f,g,h]:=⟨rfl,λj c' n hc a=>by
  rcases j with _|_|_|_|j
  ·simp at hc a;subst hc;subst a;exact i
  ·simp at hc a;subst hc;subst a;exact k
  ·simp at hc a;subst hc;subst a;exact l
  ·simp at hc a;subst hc;subst a;exact m
  ·simp at hc⟩
section
variable{H:Type}{enc:TypeId×Value→H}{P:Program}{w:World}{base:Nat}{sp spare:Nat→Bool}{held:Bool}{F:dk}
theorem trodAll_four{f g t2 i:TypeId}{e:Array Value}{j:List (DataW H)}{ps:List MemPlace}(h:DataW.TrodAll enc P w base spare held [f,g,t2,i] e.toList j ps) :
  ∃v0 v1 v2 v3 d0 d1 d2 d3 a b c d,e = #[v0,v1,v2,v3]∧j=[d0,d1,d2,d3]∧ps=a++b++c++d∧Zx enc P w base spare held f v0 d0 a∧Zx enc P w base spare held g v1 d1 b∧Zx enc P w base spare held t2 v2 d2 c∧Zx enc P w base spare held i v3 d3 d:=by
 obtain⟨v0,r,d0,e0,a,s,t,rfl,rfl,k,l⟩:=trodAll_cons h;obtain⟨v1,u,d1,e1,b,v,rfl,rfl,rfl,m,r1⟩:=trodAll_cons l;obtain⟨v2,x,d2,y,c,z,rfl,rfl,rfl,n,o⟩:=trodAll_cons r1;obtain⟨v3,A,d3,B,d,C,rfl,rfl,rfl,p,q⟩:=trodAll_cons o;obtain⟨rfl,rfl,rfl⟩:=trodAll_nil q;exact⟨v0,v1,v2,v3,d0,d1,d2,d3,a,b,c,d,by cases e;simp_all,rfl,by simp,k,m,n,p⟩
theorem bL.pair{n:Nat}{t e:TypeId}(ht:P.underlying t=some (.array 2 e))(b:P.underlying e=some (.int .u64))(hs:P.cellsOf e=1)(h:P.cellsOf t=2):bL F enc P w sp held n t b5 (λx=>bx x.1∧bx x.2):=by
 intro fuel hf cs d ps i s;obtain⟨xs,m,rfl,j,hlen,k,c⟩:=DataW.trod_array ht i;have f:=c 0 (by decide);have g:=c 1 (by decide);rw[Xc (by omega),hs]at f g;obtain⟨z0,l,g0,w0⟩:=abl b f;obtain⟨a,c1,g1,w1⟩:=abl b g;rw[h]at hlen
 match cs,hlen with
 | [x, y],_=>
  have e0:x = .int .u64 z0:=by simpa using l
  have e1:y = .int .u64 a:=by simpa using c1
  subst e0;subst e1;have o:bx z0:=by
   have:Zy .u64≤z0∧z0≤Zz .u64:=by simpa[Lit.wf]using w0
   simpa[bx,Zy,Zz,Wu,Wv]using this
  have p:bx a:=by
   have:Zy .u64≤a∧a≤Zz .u64:=by simpa[Lit.wf]using w1
   simpa[bx,Zy,Zz,Wu,Wv]using this
  obtain rfl:d=_:=congrArg Zk j
  match xs,k with
  | [q,r],_=>exact⟨(z0,a),⟨o,p⟩,bo.two (.int _ _) (.int _ _),by have e0:q.1=_:=congrArg Zk g0;have e1:r.1=_:=congrArg Zk g1;simp only[XK,List.map_nil,dB,kv,e0,e1,b5,dz,i_];omega⟩
end
end Rb

namespace Go.Proofs.YtggbkidckoecfaaGreatDoor.rb
open Rb
theorem U0:bR (aj C) 8 [] (.bool true):=λH Q a=>N1 8 [] (.bool true) rfl H Q a
theorem U1(H:Z)(Q:ad)(a:Q (.av .dead 34 (hY.map .str)) H):aj C 96 [.str CG] H Q:=zD 96 [.str CG] _ (by kernel_rfl) H Q a
theorem U2(s:List UInt8):bR (aj C) 72 [.str s] (.bool (bJ s)):=Ui lD AL U1 s
theorem srcNexts.any(p:eA)(a:p.ok)(b:dz p.cells≤1048576)(n:Int)(aL:List (Int×Int))(c:aL.length≤maxLen)(d:∀x∈aL,bx x.1∧bx x.2)(f:Int):aj C 3 [.agg p.cells,.int .i64 n,aD b5 aL,.int .i64 f] Z.mt (λv _=>v = .bool true):=S.N5 AL (US lD AL U2 U0 a (λt ht=>At (At (UZ ht) b) (by decide)) n (by rw[←jc];exact c) d f λ_=>rfl)
end Go.Proofs.YtggbkidckoecfaaGreatDoor.rb

namespace Go.Proofs.YtggbkidckoecfaaGreatDoor.rb
open Rb Go.ChangeShapes Go.WideShapes Go.ChangeAt Go.RowKit
variable{W:World}
theorem own:ownKnob Tryz.prog.godebug=none:=by kernel_rfl
theorem laidOut:laidOutB Tryz.prog=true:=by kernel_rfl
theorem Lj:Tryz.prog.cellsOf 5=1:=by kernel_rfl
def mb:List (String×DataW Unit):=Rows.srcNextsRow.laid
theorem CQ : Tryz.prog.globalNamed "strings.asciiSpace" = some 0 := by kernel_rfl
theorem U3:(Tryz.prog.globals[0]?).map (·.type)=some 215:=by kernel_rfl
theorem U4:Tryz.prog.cellsOf 215=256:=by kernel_rfl
theorem U5:(Rows.laid_strings_asciiSpace:DataW Unit)=abm .u8 Go.Lib.asciiSpaceTab:=by kernel_rfl
theorem U6 : (("strings.asciiSpace", Go.Lib.tabData .u8 Go.Lib.asciiSpaceTab) : String × DataW Unit) ∈ mb := by
 rw[←U5];exact .tail _ (.tail _ (.tail _ (.tail _ (.tail _ (.tail _ (.head _))))))
set_option maxRecDepth 100000 in
theorem Lk(h : laidMet Tryz.prog mb W) : Go.Lib.TabIs Tryz.prog W "strings.asciiSpace" .u8 Go.Lib.asciiSpaceTab := by
 obtain⟨g',t',cs,fuel,p,a,b,c,d⟩:=Go.Lib.laidMet.reads h U6;obtain rfl:=Wy.inj (CQ.symm.trans a);obtain rfl:=Wy.inj (U3.symm.trans b);unfold abn;rw[c,←abo Tryz.underlying215 Tryz.underlying5 Lj U4 d]
theorem CS : Tryz.prog.globalNamed "internal/strconv.uint64pow10" = some 5 := by kernel_rfl
theorem U7:(Tryz.prog.globals[5]?).map (·.type)=some 314:=by kernel_rfl
theorem U8:Tryz.prog.cellsOf 314=20:=by kernel_rfl
theorem U9:(Rows.laid_internal_strconv_uint64pow10:DataW Unit)=abm .u64 qC:=by kernel_rfl
theorem U_ : (("internal/strconv.uint64pow10", Go.Lib.tabData .u64 qC) : String × DataW Unit) ∈ mb := by
 rw[←U9];exact .tail _ (.tail _ (.head _))
set_option maxRecDepth 100000 in
theorem Ll(h : laidMet Tryz.prog mb W) : Go.Lib.TabIs Tryz.prog W "internal/strconv.uint64pow10" .u64 qC := by
 obtain⟨g',t',cs,fuel,p,a,b,c,d⟩:=Go.Lib.laidMet.reads h U_;obtain rfl:=Wy.inj (CS.symm.trans a);obtain rfl:=Wy.inj (U7.symm.trans b);unfold abn;rw[c,←abo Tryz.underlying314 Tryz.underlying12 (by kernel_rfl) U8 d]
theorem CT : Tryz.prog.globalNamed "math/bits.deBruijn64tab" = some 7 := by kernel_rfl
theorem Va:(Tryz.prog.globals[7]?).map (·.type)=some 319:=by kernel_rfl
theorem Vb:Tryz.prog.cellsOf 319=64:=by kernel_rfl
theorem Vc:(Rows.laid_math_bits_deBruijn64tab:DataW Unit)=abm .u8 qo:=by kernel_rfl
theorem Vd : (("math/bits.deBruijn64tab", Go.Lib.tabData .u8 qo) : String × DataW Unit) ∈ mb := by
 rw[←Vc];exact .tail _ (.head _)
set_option maxRecDepth 100000 in
theorem Lm(h : laidMet Tryz.prog mb W) : Go.Lib.TabIs Tryz.prog W "math/bits.deBruijn64tab" .u8 qo := by
 obtain⟨g',t',cs,fuel,p,a,b,c,d⟩:=Go.Lib.laidMet.reads h Vd;obtain rfl:=Wy.inj (CT.symm.trans a);obtain rfl:=Wy.inj (Va.symm.trans b);unfold abn;rw[c,←abo Tryz.underlying319 Tryz.underlying5 Lj Vb d]
theorem Ve(h:laidMet Tryz.prog mb W):jr C W (b4.mt (ku W)):=by
 intro g l a;change gt g=some l at a;unfold gt at a;split at a
 · rename_i e;subst e;cases a;rw[PY];exact AM λi hi=>(Lk h).cell CQ i hi
 · split at a
   · rename_i e;subst e;cases a;rw[(show Et=qC.map (I.int .u64)from rfl)];exact AM λi hi=>(Ll h).cell CS i hi
   · split at a
     · rename_i e;subst e;cases a;rw[(show DM=qo.map (I.int .u8)from rfl)];exact AM λi hi=>(Lm h).cell CT i hi
     ·cases a
theorem ni(h:laidMet Tryz.prog mb W):eS C W (b4.mt (ku W)) Z.mt:=by
 refine⟨Ve h,λg l a _=>⟨?_,λi hi=>by cases hi⟩⟩;change gt g=some l at a;unfold gt at a;split at a
 · rename_i e;subst e;cases a;obtain⟨cs,t,fr,b,c⟩:=AN CQ (Lk h);exact⟨cs,t,fr,b,c.trans (by kernel_rfl)⟩
 · split at a
   · rename_i e;subst e;cases a;obtain⟨cs,t,fr,b,c⟩:=AN CS (Ll h);exact⟨cs,t,fr,b,c.trans (by kernel_rfl)⟩
   · split at a
     · rename_i e;subst e;cases a;obtain⟨cs,t,fr,b,c⟩:=AN CT (Lm h);exact⟨cs,t,fr,b,c.trans (by kernel_rfl)⟩
     ·cases a
noncomputable def CU(a:Os):World:=
 let N:=(World.settled Tryz.prog a).heap.size;let w0:=World.holding Tryz.prog a ⟨#[.cells #[.string ⟨#[118,97,108,117,101,32,111,117,116,32,111,102,32,114,97,110,103,101]⟩] 305,.cells #[.string ⟨#[105,110,118,97,108,105,100,32,115,121,110,116,97,120]⟩] 305,.cells #[.int .u16 9,.int .u16 13,.int .u16 1,.int .u16 32,.int .u16 133,.int .u16 101,.int .u16 160,.int .u16 5760,.int .u16 5600,.int .u16 8192,.int .u16 8202,.int .u16 1,.int .u16 8232,.int .u16 8233,.int .u16 1,.int .u16 8239,.int .u16 8287,.int .u16 48,.int .u16 12288,.int .u16 12288,.int .u16 1] 277,.cells #[.slice (some ⟨N+2,0,none⟩) 7 7,.slice none 0 0,.int .i64 2] 275],#[],[]⟩;let put (h:Array Obj) (g:Nat) (cs:Array Value):Array Obj:=h.modify g λ
  | .cells _ t frozen=> .cells cs t frozen
  |o=>o
 {w0 with heap:=put (put (put (put (put (put (put (w0.heap) 6 #[.int .u8 0,.int .u8 1,.int .u8 28,.int .u8 2,.int .u8 29,.int .u8 14,.int .u8 24,.int .u8 3,.int .u8 30,.int .u8 22,.int .u8 20,.int .u8 15,.int .u8 25,.int .u8 17,.int .u8 4,.int .u8 8,.int .u8 31,.int .u8 27,.int .u8 13,.int .u8 23,.int .u8 21,.int .u8 19,.int .u8 16,.int .u8 7,.int .u8 26,.int .u8 12,.int .u8 18,.int .u8 6,.int .u8 11,.int .u8 5,.int .u8 10,.int .u8 9]) 7 #[.int .u8 0,.int .u8 1,.int .u8 56,.int .u8 2,.int .u8 57,.int .u8 49,.int .u8 28,.int .u8 3,.int .u8 61,.int .u8 58,.int .u8 42,.int .u8 50,.int .u8 38,.int .u8 29,.int .u8 17,.int .u8 4,.int .u8 62,.int .u8 47,.int .u8 59,.int .u8 36,.int .u8 45,.int .u8 43,.int .u8 51,.int .u8 22,.int .u8 53,.int .u8 39,.int .u8 33,.int .u8 30,.int .u8 24,.int .u8 18,.int .u8 12,.int .u8 5,.int .u8 63,.int .u8 55,.int .u8 48,.int .u8 27,.int .u8 60,.int .u8 41,.int .u8 37,.int .u8 16,.int .u8 46,.int .u8 35,.int .u8 44,.int .u8 21,.int .u8 52,.int .u8 32,.int .u8 23,.int .u8 11,.int .u8 54,.int .u8 26,.int .u8 40,.int .u8 15,.int .u8 34,.int .u8 20,.int .u8 31,.int .u8 10,.int .u8 25,.int .u8 14,.int .u8 19,.int .u8 9,.int .u8 13,.int .u8 8,.int .u8 7,.int .u8 6]) 5 #[.int .u64 1,.int .u64 10,.int .u64 100,.int .u64 1000,.int .u64 10000,.int .u64 100000,.int .u64 1000000,.int .u64 10000000,.int .u64 100000000,.int .u64 1000000000,.int .u64 10000000000,.int .u64 100000000000,.int .u64 1000000000000,.int .u64 10000000000000,.int .u64 100000000000000,.int .u64 1000000000000000,.int .u64 10000000000000000,.int .u64 100000000000000000,.int .u64 1000000000000000000,.int .u64 10000000000000000000]) 3 #[.iface 303 (.pointer (some ⟨N+0,0,none⟩))]) 2 #[.iface 303 (.pointer (some ⟨N+1,0,none⟩))]) 1 #[.pointer (some ⟨N+3,0,none⟩)]) 0 #[.int .u8 0,.int .u8 0,.int .u8 0,.int .u8 0,.int .u8 0,.int .u8 0,.int .u8 0,.int .u8 0,.int .u8 0,.int .u8 1,.int .u8 1,.int .u8 1,.int .u8 1,.int .u8 1,.int .u8 0,.int .u8 0,.int .u8 0,.int .u8 0,.int .u8 0,.int .u8 0,.int .u8 0,.int .u8 0,.int .u8 0,.int .u8 0,.int .u8 0,.int .u8 0,.int .u8 0,.int .u8 0,.int .u8 0,.int .u8 0,.int .u8 0,.int .u8 0,.int .u8 1,.int .u8 0,.int .u8 0,.int .u8 0,.int .u8 0,.int .u8 0,.int .u8 0,.int .u8 0,.int .u8 0,.int .u8 0,.int .u8 0,.int .u8 0,.int .u8 0,.int .u8 0,.int .u8 0,.int .u8 0,.int .u8 0,.int .u8 0,.int .u8 0,.int .u8 0,.int .u8 0,.int .u8 0,.int .u8 0,.int .u8 0,.int .u8 0,.int .u8 0,.int .u8 0,.int .u8 0,.int .u8 0,.int .u8 0,.int .u8 0,.int .u8 0,.int .u8 0,.int .u8 0,.int .u8 0,.int .u8 0,.int .u8 0,.int .u8 0,.int .u8 0,.int .u8 0,.int .u8 0,.int .u8 0,.int .u8 0,.int .u8 0,.int .u8 0,.int .u8 0,.int .u8 0,.int .u8 0,.int .u8 0,.int .u8 0,.int .u8 0,.int .u8 0,.int .u8 0,.int .u8 0,.int .u8 0,.int .u8 0,.int .u8 0,.int .u8 0,.int .u8 0,.int .u8 0,.int .u8 0,.int .u8 0,.int .u8 0,.int .u8 0,.int .u8 0,.int .u8 0,.int .u8 0,.int .u8 0,.int .u8 0,.int .u8 0,.int .u8 0,.int .u8 0,.int .u8 0,.int .u8 0,.int .u8 0,.int .u8 0,.int .u8 0,.int .u8 0,.int .u8 0,.int .u8 0,.int .u8 0,.int .u8 0,.int .u8 0,.int .u8 0,.int .u8 0,.int .u8 0,.int .u8 0,.int .u8 0,.int .u8 0,.int .u8 0,.int .u8 0,.int .u8 0,.int .u8 0,.int .u8 0,.int .u8 0,.int .u8 0,.int .u8 0,.int .u8 0,.int .u8 0,.int .u8 0,.int .u8 0,.int .u8 0,.int .u8 0,.int .u8 0,.int .u8 0,.int .u8 0,.int .u8 0,.int .u8 0,.int .u8 0,.int .u8 0,.int .u8 0,.int .u8 0,.int .u8 0,.int .u8 0,.int .u8 0,.int .u8 0,.int .u8 0,.int .u8 0,.int .u8 0,.int .u8 0,.int .u8 0,.int .u8 0,.int .u8 0,.int .u8 0,.int .u8 0,.int .u8 0,.int .u8 0,.int .u8 0,.int .u8 0,.int .u8 0,.int .u8 0,.int .u8 0,.int .u8 0,.int .u8 0,.int .u8 0,.int .u8 0,.int .u8 0,.int .u8 0,.int .u8 0,.int .u8 0,.int .u8 0,.int .u8 0,.int .u8 0,.int .u8 0,.int .u8 0,.int .u8 0,.int .u8 0,.int .u8 0,.int .u8 0,.int .u8 0,.int .u8 0,.int .u8 0,.int .u8 0,.int .u8 0,.int .u8 0,.int .u8 0,.int .u8 0,.int .u8 0,.int .u8 0,.int .u8 0,.int .u8 0,.int .u8 0,.int .u8 0,.int .u8 0,.int .u8 0,.int .u8 0,.int .u8 0,.int .u8 0,.int .u8 0,.int .u8 0,.int .u8 0,.int .u8 0,.int .u8 0,.int .u8 0,.int .u8 0,.int .u8 0,.int .u8 0,.int .u8 0,.int .u8 0,.int .u8 0,.int .u8 0,.int .u8 0,.int .u8 0,.int .u8 0,.int .u8 0,.int .u8 0,.int .u8 0,.int .u8 0,.int .u8 0,.int .u8 0,.int .u8 0,.int .u8 0,.int .u8 0,.int .u8 0,.int .u8 0,.int .u8 0,.int .u8 0,.int .u8 0,.int .u8 0,.int .u8 0,.int .u8 0,.int .u8 0,.int .u8 0,.int .u8 0,.int .u8 0,.int .u8 0,.int .u8 0,.int .u8 0,.int .u8 0,.int .u8 0,.int .u8 0,.int .u8 0,.int .u8 0,.int .u8 0,.int .u8 0,.int .u8 0,.int .u8 0,.int .u8 0,.int .u8 0,.int .u8 0,.int .u8 0,.int .u8 0,.int .u8 0,.int .u8 0]}
theorem Vf(a:Os)(b:Array Value):laidMet Tryz.prog mb ((CU a).forCall (λ_ _=>0) ⟨#[],b,[]⟩).memory:=laidMet_of_run3 10 (by kernel_rfl) (by kernel_rfl) (by kernel_rfl)
end Go.Proofs.YtggbkidckoecfaaGreatDoor.rb

namespace Go.Proofs.YtggbkidckoecfaaGreatDoor.rb
open Rb
variable{H:Type}{enc:TypeId×Value→H}{w:World}{sp:Nat→Bool}{held:Bool}{F:dk}
theorem Vg:∃fT fF,HW Tryz.prog 3 4 9 72 166 70 69 fT fF:=⟨_,_,Tryz.underlying3,Tryz.underlying4,Tryz.underlying9,Tryz.underlying72,Tryz.underlying166,Tryz.underlying70,Tryz.underlying69,rfl,rfl,by kernel_rfl,by kernel_rfl,λt ht=>by simp only[YI,abp,or_false]at ht;rcases ht with rfl|rfl|rfl|rfl|rfl<;>kernel_rfl⟩
theorem Vh(n:Nat):bL F enc Tryz.prog w sp held n 72 aC.cells aC.ok:=let ⟨_,_,h⟩:=Vg;P5 h n
theorem Vi:∃fE fL fR,AO Tryz.prog 3 31 9 150 94 171 135 92 fE fL fR:=⟨_,_,_,Tryz.underlying3,Tryz.underlying31,Tryz.underlying9,Tryz.underlying150,Tryz.underlying94,Tryz.underlying171,Tryz.underlying135,Tryz.underlying92,rfl,rfl,rfl,by kernel_rfl,by kernel_rfl,by kernel_rfl,λt ht=>by simp only[YI,abp,or_false]at ht;rcases ht with rfl|rfl|rfl|rfl|rfl<;>kernel_rfl⟩
theorem Vj(n:Nat):bL F enc Tryz.prog w sp held n 74 aE.cells aE.ok:=P8 Tryz.underlying9 (by kernel_rfl) (by kernel_rfl) Vh Tryz.underlying74 rfl (by kernel_rfl) n
theorem Vk(n:Nat):bL F enc Tryz.prog w sp held n 137 ay.cells ay.ok:=let ⟨_,_,_,h⟩:=Vi;P9 h Tryz.underlying137 Tryz.underlying84 rfl (by kernel_rfl) (by kernel_rfl) n
theorem Vl(n:Nat):bL F enc Tryz.prog w sp held n 25 eA.cells eA.ok:=P_ Vj Vk Tryz.underlying22 Tryz.underlying84 Tryz.underlying23 (by kernel_rfl) (by kernel_rfl) (by kernel_rfl) (by kernel_rfl) (by kernel_rfl) Tryz.underlying25 rfl (by kernel_rfl) n
end Go.Proofs.YtggbkidckoecfaaGreatDoor.rb

namespace Go.Proofs.YtggbkidckoecfaaGreatDoor.rb
open Rb
variable{H:Type}{enc:TypeId×Value→H}{w:World}{sp:Nat→Bool}{held:Bool}{F:dk}
theorem Vm(n:Nat):bL F enc Tryz.prog w sp held n 26 (λxs:List (Int×Int)=>[aD b5 xs]) (λxs=>xs.length≤maxLen∧∀x∈xs,bx x.1∧bx x.2):=bL.mono (bL.slice Tryz.underlying26 (sz:=2) (by kernel_rfl) (by decide) (λ_=>rfl) (bL.pair Tryz.underlying32 Tryz.underlying31 (by kernel_rfl) (by kernel_rfl))) (W4 n)
end Go.Proofs.YtggbkidckoecfaaGreatDoor.rb
