/- A part of the proof (part 8): see the last text. -/
import Derived.Test.YtljcbckaokhjaaaGreatDoorRb7
import Derived.Test.YtljcbckaokhjaaaGreatDoorRb5
import Derived.Test.YtljcbckaokhjaaaGreatDoorRb4
import Derived.Test.YtljcbckaokhjaaaGreatDoorRb6
import Derived.Below
import Derived.Test.YtljcbckaokhjaaaGreatDoorRb3
import Derived.BigRegionIn
import Derived.OwnWalkIn
import Derived.Test.YtljcbckaokhjaaaGreatDoorRb2
import Derived.Test.YtljcbckaokhjaaaGreatDoorTie
import Derived.Test.YtljcbckaokhjaaaGreatDoorCards
set_option linter.unusedVariables false
set_option linter.unusedSimpArgs false
set_option linter.unusedSectionVars false
open Array renaming getElem?_eq_some_iff→aao
open Bool renaming false_eq_true→abe, not_true→ac1, true_eq_false→acZ
open Decidable renaming not_not→ac3
open Go.IntKind renaming max→acC, min→acB
open Go.Lib renaming TabIs→aeP, cells_of_tab→aeQ, tabData→aeO
open Go.Op renaming equalIn→ZU
open Go.Oper renaming upon_value→aeN
open Go.Result renaming andThen→abf
open Int renaming toNat_natCast→adF
open List renaming all_append→acN, all_cons→ab4, all_eq_true→aaB, all_map→aeK, contains_iff_mem→adV, drop_zero→acy, flatten_cons→aaI, getD→aez, getElem?_append_left→acp, getElem?_append_right→acq, getElem?_cons_succ→aco, getElem?_cons_zero→acn, getElem?_drop→ZI, getElem?_eq_getElem→aav, getElem?_eq_some_iff→ZF, getElem?_map→aau, getElem?_set_ne→aay, getElem?_set_self→aax, getElem?_take→ZH, length_append→acG, length_eq_zero_iff→aaY, length_replicate→aeI, length_set→abF, length_singleton→adi, map_append→adu, mem_cons→abG, mem_map→abW, mem_of_getElem?→acK, mem_replicate→aeJ, nil_append→ad_, not_mem_nil→aeR, range→aat, replicate_succ→aaH, replicate→Gd, take_of_length_le→acJ
open Nat renaming le_of_lt→adv, le_refl→hT, le_succ_of_le→aeL, le_trans→h1, lt_of_lt_of_le→px, lt_succ_self→ab6, mul_one→adl, sub_self→aei, zero_add→aar, zero_le→aad
open Option renaming map_some→ZX, map→aeM, some→ZW
open Bool renaming false→ab0, true→abZ
open Option renaming none→ab2, some→ab1
noncomputable section
namespace Rb
open Go
variable{id:Nat}{t:List ax}{H:O}
def jf(vars:List aA)(c:Nat)(t:List ax)(aW:List (Int×Int))(fuel:Int):s4:=
 let r:=hV vars c t aW fuel
 if r.2.2.2=16 then⟨cw,0,[],abZ⟩else⟨r.1,r.2.1,r.2.2.1,ab0⟩
def jW:CD:=⟨[],[],0,0,0⟩
section
variable{C:Ctx}(ar:cY C)(M:Cl (ag C) S.cn){vars:List aA}
include ar M
theorem XY(b:gm vars):∀x:ax,x.ok->tr C id vars x.aK/\tr C id vars x.bB:=by refine ax.ind λx e f g=>?_;obtain⟨_,_,⟨h,c⟩,i,d⟩:=ax.dq g;exact⟨D4 ar M b h c λy a=>e y a (c y a),D4 ar M b i d λy a=>f y a (d y a)⟩
theorem XZ{p:dy}(d:gm p.vars)(f:p.ok){k:Nat}(ht:p.b6[k]?=ab1 t)(hv:vB p.vars [] t)(B:gB t<=Mx){H:O}{Q:ab}
  (g:∀id xa xn xs H',O.Ext H H'->CR H' id p.vars xa xn xs (jW.bl p.vars t)->Q (.ptr id 0) H'):ag C 10 [.agg p.cells,D k] H Q:=by
 obtain⟨⟨E,F⟩,I,h⟩:=f;obtain⟨hlen,b⟩:=h t (acK ht);have m:=(ZF.1 ht).1;have K:Mx=1000000000:=rfl;refine S.Qw M ?_;unfold S.f10;simp only[ae];have q:cg H ab0 2 (.agg p.cells)=ab1 (.ak p.cells,H):=by unfold cg;rw[aa ⟨rfl,rfl⟩];rfl
 have r:∀H,af H 1 ab0 (.ak (p.cells.drop 0))=ab1 (aD aA.cells p.vars):=λ_=>rfl;have s:∀H,af H 1 ab0 (.ak (p.cells.drop 1))=ab1 (aD gN p.b6):=λ_=>rfl;simp only[q,aM,aJ,G,r];rw[show bI [Y,Y,Y,Y,J,J,J] [(0,1,aD aA.cells p.vars)]=ab1 (.agg (gU p.vars Y Y Y jW))from rfl];simp only[G];have u:cg H abZ 7 (.agg (gU p.vars Y Y Y jW))=ab1 (.ptr H.n 0,H.push (.row (gU p.vars Y Y Y jW))):=by unfold cg;rw[aa ⟨rfl,rfl⟩];rfl
 rw[u];simp only[aM,s,G];rw[cG m];simp only[G];have r1:=At.new H (.row (gU p.vars Y Y Y jW));have v:=O.Ext.push H (.row (gU p.vars Y Y Y jW));generalize H.push _=H1 at *;have w:af H1 1 ab0 (eP gN 1 p.b6 k)=ab1 (aD ax.cells t):=r_ (c:=λl=>aD ax.cells l) H1 ht;rw[w];simp only[G];have U:CR H1 H.n p.vars Y Y Y jW:=⟨r1,dj.nil _ _,dj.nil _ _,dj.nil _ _,λj a=>(by cases a),λj a=>(by cases a),λj a=>(by cases a)⟩
 obtain⟨g1,g2,g3⟩:=NG p.vars t b 0 0 [] 0;refine D4 ar M d hlen b (λy x=>XY ar M d y (b y x)) jW _ _ _ H1 _ U hv rfl (by show([]++de p.vars t 0 0 [] 0:List bH).length<=_;rw[ad_];omega) (by show([]:List (List UInt8×Nat)).length+_<=_;simp;omega) (by show 0+c9 t<=_;omega) λxa xn xs z f2 A=>?_;refine g H.n xa xn xs z (Ext.cv v f2.n λi o hi ho=>f2.k i o (by omega) (λe=>by cases e) (λe=>by cases e) (λe=>by cases e) ho) A
theorem X0(f:gm vars)(k:∀x∈t,x.ok)(hv:vB vars [] t)(l:gB t<=Mx){c:Nat}(hc:1000000<c){aW:List (Int×Int)}(m:aW.length<=1000)(p:∀x∈aW,bm x.1/\bm x.2){fuel:Int}(hf:fuel<=100000){xa xn xs:I}(h:CR H id vars xa xn xs (jW.bl vars t)){Q:ab}
  (q:∀F H',O.Ext H H'->dj H' 1 F (jf vars c t aW fuel).pr.length ((jf vars c t aW fuel).pr.map (T))->Q (.agg (dT (jf vars c t aW fuel).want (jf vars c t aW fuel).fin F (jf vars c t aW fuel).empty)) H'):ag C 11 [.ptr id 0,aD b_ aW,D fuel] H Q:=by
 have ac:Mx=1000000000:=rfl;obtain⟨g1,g2,g3⟩:=NG vars t k 0 0 [] 0;have d:(jW.bl vars t).A=de vars t 0 0 [] 0:=by show []++_=_;rw[ad_];rfl
 have r:(jW.bl vars t).nx=c9 t:=by show 0+_=_;omega
 refine S.Qx M ?_;unfold S.f11;simp only[ae];simp only[bx,aQ,aM];have r1:=At.new H (.row (dT cw 0 Y ab0));have s:=O.Ext.push H (.row (dT cw 0 Y ab0));have ad:(H.push (.row (dT cw 0 Y ab0))).n=H.n+1:=rfl;rw[show(H.push (.row [J,J,J,J,J,J,av,J,J,J,J,T 0,T 0,J,Y,av]))=H.push (.row (dT cw 0 Y ab0))from rfl];generalize H.push _=H1 at *;rw[show bI [J,J,J,J,J,J,av,J,J,J,J,T 0,T 0,J,Y,av] []=ab1 (.agg (dT cw 0 Y ab0))from rfl];simp only[G];rw[bU H1 _ (dT cw 0 Y ab0) 16 rfl rfl rfl];have r4:=At.new H1 (.row (dT cw 0 Y ab0));have u:=r1.push (.row (dT cw 0 Y ab0));have g:=s.trans (O.Ext.push H1 (.row (dT cw 0 Y ab0)));have ah:(H1.push (.row (dT cw 0 Y ab0))).n=H1.n+1:=rfl;simp only[G];generalize H1.push _=b at *;rw[show cU b ab0 1 0 [T 0] []=ab1 (.aj .full 0 [],b)from rfl];simp only[aM,br,show aJ 4 (.ptr id 0)=ab1 (.ptr id (0+4))from rfl,aar,G];have w:=h.ext g;rw[show af b 1 ab0 (.ptr id 4)=ab1 (D ((c9 t:Nat):Int)) by rw[w.row.load,<-r];rfl];simp only[G];have y:hp b abZ 1 8 [T 0] (D ((c9 t:Nat):Int)) (D ((c9 t:Nat):Int))=ab1 (.row b.n 0 (c9 t) 1,b.push (.row ((Gd (c9 t) (0:Int)).map (T)))):=by
  show(if 0<=((c9 t:Nat):Int)/\((c9 t:Nat):Int)<=((c9 t:Nat):Int)/\((8:Nat):Int)*((c9 t:Nat):Int)<=281474976710656/\((c9 t:Nat):Int)<=9223372036854775807/\([T 0]:List I).length=1 then _ else _)=_;rw[aa ⟨by omega,by omega,by omega,by omega,rfl⟩,aa rfl,adF];congr 4;induction c9 t with
  |zero=>rfl
  |succ n z=>rw[aaH,aaI,z,aaH,List.map_cons];rfl
 rw[y];simp only[aM];have B:=At.new b (.row ((Gd (c9 t) (0:Int)).map (T)));have K:=g.trans (O.Ext.push b (.row ((Gd (c9 t) (0:Int)).map (T))));have L:=u.push (.row ((Gd (c9 t) (0:Int)).map (T)));have P:=r4.push (.row ((Gd (c9 t) (0:Int)).map (T)));generalize b.push _=i at *;have R:RI H i H.n H1.n b.n (.aj .full 0 []) Y [] (Gd (c9 t) 0) []:=⟨K,hT _,by omega,by omega,by omega,by omega,by omega,⟨_,L,rfl⟩,P,B,dj.full _ _,dj.nil _ _,λj e=>(by cases e),λj e=>(by cases e)⟩
 have U:(jW.bl vars t).A.length<=1000000000000:=by rw[d];omega
 have V:=Xg ar M f (A:=(jW.bl vars t).A) U (λa W=>g3 a (by rw[<-d];exact W)) m p h.row h.a (i1:=H.n) (i4:=H1.n) (js:=b.n) (N:=c9 t) (Q:=Q);have ai:=XX vars c hv aW (show fuel<=1000000 by omega);have:=Wf (E:=⟨vars,(jW.bl vars t).A,aW,_,_⟩) V (c:=c) (λx idx _ X=>(nE f.o x idx).1 X) hc d hv l (sl:=Gd (c9 t) 0) (by simp) (show fuel<=1000000 by omega) (by show(cl vars c t 0 0 (RS.init aW fuel)).pr.length<=Mx;omega) (λH' F E Z=>q F H' E Z);exact this ⟨λv hv=>(by cases hv),λv hv=>by rw[List.eq_of_mem_replicate hv];exact dI,by simp,by simp,aad _,hf⟩ i _ _ R
end
end Rb
namespace Rb
open Go
section
variable{C:Ctx}(ar:cY C)(M:Cl (ag C) S.cn)
include ar M
theorem NJ(p:dy)(aE:p.ok):bX (ag C) 5 [.agg p.cells] (oI (dz bC p)):=by
 obtain⟨⟨a6,hv⟩,a7,ht⟩:=aE;refine bX.of ar (by simp[I.cD,I.cj,dy.cj]) rfl λQ am=>S.Qs M ?_;have fin:∀(a b:Int) H',(a,b)=dz bC p->Q (.agg [D a,D b]) H':=λa b H' h=>by have:=am H';rw[<-h]at this;exact this
 clear am;have aG:cg O.mt ab0 2 (.agg p.cells)=ab1 (.ak p.cells,O.mt):=by unfold cg;rw[aa ⟨rfl,rfl⟩];rfl
 have A:∀H,af H 1 ab0 (.ak (p.cells.drop 0))=ab1 (aD aA.cells p.vars):=λ_=>rfl;have L:∀H,af H 1 ab0 (.ak (p.cells.drop 1))=ab1 (aD gN p.b6):=λ_=>rfl;unfold S.f5;simp only[ae];simp only[aG,aM,bx,aQ,aJ,G,A,bP,dS,b4];generalize a8:O.mt=H0;have an:=At.new H0 (.row [J,J]);generalize H0.push _=F at *;generalize H0.n=d at *;have out:∀(a b:Int)(H1:O),At H1 d (.row [J,J])->(a,b)=dz bC p->Do (bZ H1 2 (.ptr d 0) (.agg [D a,D b])) λf=>Do (af f 2 abZ (.ptr d 0)) λx=>Q x f:=by intro a b H1 g he;rw[g.put (n:=2) rfl rfl rfl];simp only[G];rw[(g.set _).all (n:=2) rfl];simp only[G];exact fin a b _ he
 have K:∀e:Int,bI [J,J] [(1,1,D e)]=ab1 (.agg [J,D e]):=λ_=>rfl;unfold dz at out;have aH : ¬(32<p.vars.length\/p.b6.length<1\/8<p.b6.length)->V (S.A3 (ag C) (.ak p.cells) (.ptr d 0) Q) [] F:=by
  intro hn;rw[ad hn]at out;simp only[aw,S.A3];have N:jz bC p.vars=if fF bC [] p.vars≠0 then fF bC [] p.vars else if dw 0 p.vars>65536 then 9 else 0:=by unfold jz;rw[bg];exact DY bC 70000 rfl p.vars [] 0 0 (by decide) (by simp) (by omega)
  have aK:∀(P:O),At P d (.row [J,J])->jz bC p.vars=0->au (S.q9 (ag C) (.ak p.cells) (.ptr d 0) Q) ([J],P):=by
   intro P T aL;rw[ad (by simpa using aL)]at out;have main:∀(r:List (List ax)) (i:Nat) (H1:O),p.b6.drop i=r->At H1 d (.row [J,J])->k9 bC p.vars r=k9 bC p.vars p.b6->au (S.q9 (ag C) (.ak p.cells) (.ptr d 0) Q) ([D i],H1):=by
    intro r;induction r with
    | nil=>intro i H1 u g he;have hle:=dx u;refine au.step ?_;simp only[ae,S.q9,aq,aJ,L,bP,aX,G,ai];rw[dg];simp only[ae,aw,S.F6];rw[show bI [J,J] []=ab1 (.agg [J,J])from rfl];simp only[G];exact out 0 0 H1 g he
    | cons t r Z=>
     intro i H1 u g he;obtain⟨ab,B,ac⟩:=di u;obtain⟨aN,ao⟩:=ht t (acK B);refine au.step ?_;simp only[ae,S.q9,aq,aJ,A,L,bP,aX,G,ai];rw[cp,show bI [Y,J,J,J,J] [(0,1,aD aA.cells p.vars)]=ab1 (.agg (dP p.vars s0))from rfl];simp only[G];have o:cg H1 abZ 5 (.agg (dP p.vars s0))=ab1 (.ptr H1.n 0,H1.push (.row (dP p.vars s0))):=by unfold cg;rw[aa ⟨rfl,rfl⟩];rfl
     rw[o];simp only[aM];have aO:=At.new H1 (.row (dP p.vars s0));have aP:d≠H1.n:=g.hP;have a3:=g.push (.row (dP p.vars s0));generalize H1.push _=f at *;generalize H1.n=id at *;rw[cG ab];simp only[G];have aR:af f 1 ab0 (eP gN 1 p.b6 i)=ab1 (aD ax.cells t):=r_ (c:=λl=>aD ax.cells l) f B;rw[aR];simp only[G];refine D3 ar M (by omega) hv aN ao (λx aS=>XL ar M (by omega) hv x (ao x aS)) s0 Y 1 f _ (jV.of aO) ⟨.nil,rfl⟩ (by decide) (λ_=>⟨by decide,by decide⟩) (by decide) (by decide) λU W aT _=>?_;have ap:=W.2 d _ aP a3;obtain⟨ah,av,f1,f2,_⟩:=aT;rw[k9]at he;generalize er p.vars bC s0 1 t=a9 at *;have aU:af U 1 ab0 (.ptr id (3+1))=ab1 (D ah.bb):=by rw[av.load];rfl
     have i32:af U 2 abZ (.ptr id 3)=ab1 (.agg [D ah.hQ,D ah.bb]):=by rw[av.load];rfl
     simp only[br,aJ,aar,G,aU,i32,cJ,ai];apply aF<;>intro h
     . rw[f1,f2];rw[f1]at h;rw[aa (by simpa using h)]at he;exact out _ _ U ap he
     . rw[f1]at h;rw[ad (by simpa using h)]at he;simp only[bu,G];rw[bD,fq i];exact Z (i+1) U ac ap he
   exact main p.b6 0 P rfl T rfl
  have main:∀(r:List aA)(i:Nat)(H1:O),p.vars.drop i=r->At H1 d (.row [J,J])->fF bC ((p.vars.take i).map (·.name)) r=fF bC [] p.vars->au (S.pD (ag C) (.ak p.cells) (.ptr d 0) Q) ([D i],H1):=by
   intro r;induction r with
   | nil=>
    intro i H1 u g he;have hle:=dx u;refine au.step ?_;simp only[ae,S.pD,aq,aJ,A,bP,aX,G,ai];rw[dg];simp only[ae,aw,S.F7,aJ,A,G];rw[fF]at he;have aV:=DZ bC he.symm;rw[ad (by rw[<-he];decide)]at N;refine LX ar M (by omega) hv aV (λa_ H' E ho aW=>?_) (λH' E aW=>?_)
    . simp only[bL,acn,aco,G,cJ,ai];rw[aI];exact aK H' (g.ext E) (by rw[N,bg])
    . simp only[bL,acn,aco,G,cJ,ai];rw[eu,K];simp only[G];have T:jz bC p.vars=9:=by rw[N,cX]
      rw[aa (by rw[T];decide),T]at out;exact out 0 9 H' (g.ext E) rfl
   | cons v r Z=>
    intro i H1 u g he;obtain⟨ab,B,ac⟩:=di u;have aY:=acK B;rw[fF]at he;refine au.step ?_;simp only[ae,S.pD,aq,aJ,A,bP,aX,G,ai];rw[cp,cG ab];simp only[G];rw[dH aA.len (by decide) _ B];simp only[G,bx,aQ,aM];rw[bU _ _ _ 7 v.len v.scalar rfl];have X:=At.new H1 (.row v.cells);have a2:=g.push (.row v.cells);simp only[G];generalize H1.push _=f at *;have v0:∀H',At H' H1.n (.row v.cells)->af H' 1 ab0 (.ptr H1.n 0)=ab1 (.str v.name):=λH' h=>by rw[h.load];cases v;rfl
    have v1:∀H',At H' H1.n (.row v.cells)->af H' 6 abZ (.ptr H1.n 1)=ab1 (.agg v.type.cells):=λH' h=>by
     rw[h.load];cases v with
     | mk name type=>have ba:=type.len;show bY (.str name::type.cells) 1 6 abZ=_;unfold bY;rw[aa (by rw[List.length_cons];omega),aa rfl];show ab1 (I.agg (type.cells.take 6))=_;rw[acJ (by omega)]
    have bad:∀(e:Int)(H':O),At H' d (.row [J,J])->e≠0->fF bC [] p.vars=e->Do (bZ H' 2 (.ptr d 0) (.agg [J,D e])) λf=>Do (af f 2 abZ (.ptr d 0)) λx=>Q x f:=by
     intro e H' aZ ay a0;have az:jz bC p.vars=e:=by rw[N,a0,aa ay]
     rw[aa (by rw[az];exact ay),az]at out;exact out 0 e H' aZ rfl
    have W:∀b:Bool,(b=abZ↔(en v.name=ab0\/bC v.name=abZ))->S.uN (ag C) (.ak p.cells) (.ptr d 0) (.ptr H1.n 0) ([D i],H1) (au (S.pD (ag C) (.ak p.cells) (.ptr d 0) Q)) Q [.bool b] f:=by
     intro b o;unfold S.uN;simp only[ae];simp only[aq,ai,aw];apply aF<;>intro z
     . rw[aa (o.1 z)]at he;rw[K];simp only[G];exact bad 6 f a2 (by decide) he.symm
     rw[ad (λy=>z (o.2 y))]at he;unfold S.F5;have inner:∀(m k:Nat),k+m=i->(∀j,j<k->∀w,p.vars[j]?=ab1 w->w.name≠v.name)->au (S.uM (ag C) (.ak p.cells) (.ptr d 0) (.ptr H1.n 0) ([D i],H1) (au (S.pD (ag C) (.ak p.cells) (.ptr d 0) Q)) Q) ([D k],f):=by
      intro m;induction m with
      | zero=>
       intro k hk aj;refine au.step ?_;simp only[ae,S.uM,aq,aX,G,ai];rw[dg];have hc:¬((p.vars.take i).map (·.name)).contains v.name=abZ:=by
        intro q;rw[adV]at q;obtain⟨w,hw,e⟩:=abW.1 q;obtain⟨j,s⟩:=List.getElem?_of_mem hw;rw[ZH]at s;split at s
        ·exact aj j (by omega) w s e
        ·cases s
       rw[ad hc]at he;simp only[ae,aw,S.F4,aJ,aar,v1 f X,G];refine LV ar M v.type (hv v aY).2 _ _ ?_;simp only[cJ,G,ai];apply aF<;>intro y
       . have y:(bT v.type).2≠0:=by simpa using y
         rw[aa y]at he;rw[K];simp only[G];exact bad _ f a2 y he.symm
       . have y:(bT v.type).2=0:=by simpa using y
         rw[ad (by simpa using y)]at he;simp only[ae,aw,S.F3,aq,bu,G];rw[bD,fq i];refine Z (i+1) f ac a2 ?_;rw[List.take_add_one,B,adu];exact he
      | succ m a1=>
       intro k hk aj;obtain ⟨w, hw⟩ : ∃ w, p.vars[k]? = ab1 w := ⟨p.vars[k]'(by omega), aav _⟩
       obtain⟨bd,be,ra,e1,a4,bf,a5,bh⟩:=yX ar M hw;refine au.step ?_;simp only[ae,S.uM,aq,aX,G,ai];rw[cp];simp only[show aJ 0 (.ak p.cells)=ab1 (.ak (p.cells.drop 0))from rfl,A,G,e1,a4,a5];simp only[aJ,aar,v0 f X,G,fQ,ai];apply aF<;>intro y
       . have y:w.name=v.name:=by simpa using y
         have hc:((p.vars.take i).map (·.name)).contains v.name=abZ:=by
          rw[adV];refine abW.2 ⟨w,?_,y⟩;have:(p.vars.take i)[k]?=ab1 w:=by rw[ZH,cX];exact hw
          exact acK this
         rw[aa hc]at he;rw[K];simp only[G];exact bad 7 f a2 (by decide) he.symm
       . have y:¬w.name=v.name:=by simpa using y
         simp only[bu,G];rw[bD,fq k];refine a1 (k+1) (by omega) λj s R al=>?_;rcases Nat.lt_or_eq_of_le (Nat.le_of_lt_succ s)with s|rfl
         ·exact aj j s R al
         ·rw[hw]at al;cases al;exact y
     exact inner i 0 (by omega) λj s=>by omega
    simp only[aJ,aar,v0 f X,G];refine S.BQ M (Da ?_);simp only[c_,G,b4,aw];apply ek<;>intro z
    . simp only[aJ,aar,v0 f X,G];refine Nu ar M v.name _ _ ?_;refine W _ ⟨λe=> .inr e,λe=>?_⟩;rcases e with e|e
      ·rw[e]at z;cases z
      ·exact e
    ·refine W abZ ⟨λ_=> .inl (by simpa using z),λ_=>rfl⟩
  exact main p.vars 0 F rfl an rfl
 have aB:∀b:Bool,(b=abZ↔(32<p.vars.length\/p.b6.length<1\/8<p.b6.length))->V (S.uO (ag C) (.ak p.cells) (.ptr d 0) Q) [.bool b] F:=by
  intro b o;simp only[ae,aw,S.uO,aq,ai];apply aF<;>intro h
  . rw[aa (o.1 h)]at out;rw[K];simp only[G];exact out 0 12 F an rfl
  ·exact aH λy=>h (o.2 y)
 have aC:∀b:Bool,(b=abZ↔(32<p.vars.length\/p.b6.length<1))->V (S.uP (ag C) (.ak p.cells) (.ptr d 0) Q) [.bool b] F:=by
  intro b o;simp only[ae,aw,S.uP,aq,b4,aJ,G,L,bP,dS];apply ek<;>intro h
  . refine aB _ ?_;have hn:¬(32<p.vars.length\/p.b6.length<1):=λy=>by have:=o.2 y;rw[h]at this;cases this
    simp only[du,gt_iff_lt];omega
  . refine aB _ ?_;have:=o.1 h;simp only[true_iff];omega
 apply ek<;>intro h
 . simp only[L,G,bP,bc];refine aC _ ?_;simp only[decide_eq_false_iff_not,gt_iff_lt]at h;simp only[cq];omega
 . refine aC _ ?_;simp only[du,gt_iff_lt]at h;simp only[true_iff];omega
end
theorem X1{xs:List Int}{k:Nat}{v:Int}{tk:Tok}(h:xs[k]?=ab1 v):∃p,aP ab2 1 (.aj tk xs.length (xs.map (T))) (D k)=ab1 p/\∀H,af H 1 ab0 p=ab1 (T v):=by
 have a:=(ZF.1 h).1;refine⟨.ak ((xs.map (T)).drop (k*1)),?_,λH=>?_⟩
 . show(if 0<=(k:Int)/\(k:Int)<(xs.length:Nat)then ab1 (I.ak ((xs.map (T)).drop ((k:Int).toNat*1)))else ab2)=_;rw[aa ⟨by omega,by omega⟩,adF]
 . show bY ((xs.map (T)).drop (k*1)) 0 1 ab0=_;unfold bY;rw[nX];simp[ZI,h]
theorem X2(vars:List aA)(c:Nat)(t:List ax)(aW:List (Int×Int))(f:Int):hV vars c t aW f=(cw,0,[],16)\/(hV vars c t aW f).2.2.2=0:=by
 unfold hV;dsimp only;split
 ·exact .inl rfl
 . split
   ·exact .inr rfl
   ·exact .inr rfl
theorem NL{p:dy}(b:p.ok)(h:(dz bC p).2=0):gm p.vars/\∀t∈p.b6,vB p.vars [] t:=by
 obtain⟨U,c,d⟩:=VT bC h;have a:jz bC p.vars=if fF bC [] p.vars≠0 then fF bC [] p.vars else if dw 0 p.vars>65536 then 9 else 0:=by unfold jz;rw[bg];exact DY bC 70000 rfl p.vars [] 0 0 (by decide) (by simp) (by omega)
 rw[c]at a;have hf:fF bC [] p.vars=0:=by
  by_cases e:fF bC [] p.vars=0
  ·exact e
  ·rw[aa e]at a;exact a.symm
 rw[ad (by simpa using hf)]at a;refine⟨⟨U,b.1.2,DZ bC hf,?_⟩,d⟩;by_cases e:dw 0 p.vars>65536
 ·rw[aa e]at a;cases a
 ·omega
variable{H:O}{cells:List I}{n bytes:Nat}{Q:ab}{tk:Tok}
theorem Left.ext{H0 H H':O}(h:O.Ext H0 H)(k:Left H0.n H H'):O.Ext H0 H':=⟨h1 h.1 k.1,λi hi=>((k.2 i (H.o i) ⟨px hi h.1,rfl⟩ (.inl hi)).2).trans (h.2 i hi)⟩
theorem D_:∀n:Nat,(Gd n [I.int .u8 0]).flatten=BV (Gd n 0)
 |0=>rfl
 | n+1=>by rw[aaH,aaI,D_ n];rfl
theorem NM{x:I}{K:I->O->Prop}(a:fh H 1 x=ab1 (n,cells))(hl:cells.length=n)(hs:cells.all I.scalar=abZ)(d:n*bytes<=140737488355328)(hn:n<=9223372036854775807)
  (b:∀tk H',O.Ext H H'->tk ≠ .nil->K (.aj tk n cells) H'):bJ (cI H ab0 1 bytes (.aj .full 0 []) x) K:=by
 by_cases c:n=0
 . subst c;have:cells=[]:=aaY.1 hl;subst this;have e:cI H ab0 1 bytes (.aj .full 0 []) x=ab1 (.aj .full 0 [],H):=by
    simp only[cI,a];rfl
   rw[e,aM];exact b .full H (O.Ext.refl H) (by decide)
 . have ho:cy H.n H 1 (.aj .full 0 []) 0 []:=⟨.full,rfl,rfl,.inr (.inl rfl)⟩
   refine ho.app (hT _) a (by rw[hl,adl]) hs c (by rw[aar];exact d) (by omega) λh H' f g=>?_;obtain⟨tk,rfl,_,ht⟩:=f;rw[aar,ad_];refine b tk H' (Left.ext (O.Ext.refl H) g) ?_;rcases ht with⟨_,ht⟩|rfl|⟨t,rfl,_⟩
   ·omega
   ·decide
   ·intro e;cases e
theorem NN(hl:cells.length=n)(ht:tk = .nil->n=0):∃b,cC 1 (.aj tk n cells) ab2 (ab1 (D n)) (ab1 (D n))=ab1 (.aj b n cells):=by
 have c:eo (ab1 (D (n:Int))) n=ab1 n:=by simp only[eo];rw[cX];simp
 have d:eo (ab1 (D (n:Int))) 0=ab1 n:=by simp only[eo];rw[cX];simp
 have f:eo ab2 0=ab1 0:=rfl;simp only[cC,c,d,f,ZX];by_cases a:n=0
 . subst a;have:cells=[]:=aaY.1 hl;subst this;cases tk<;>exact⟨_,rfl⟩
 . rw[bg,aa ⟨aad _,hT _,hT _,by omega,λe=>a (ht e),by omega⟩];refine⟨.full,?_⟩;rw[adl,acJ (by omega),acy,aa trivial,Nat.sub_zero]
theorem cy.NO{n0 sz bytes len m:Nat}{x y:I}{cells news:List I}{K:ab}(h:cy n0 H sz x len cells)(a:n0<=H.n)(b:fh H sz y=ab1 (m,news))(hn:news.length=m*sz)(hs:news.all I.scalar=abZ)(c:m≠0)
  (d:(len+m)*bytes<=140737488355328) (hl:len+m<=9223372036854775807) (f:∀H',cy n0 H' sz (.aj (.own H.n) (len+m) (cells++news)) (len+m) (cells++news)->H.n<H'.n->(∀i o,At H i o->x ≠ .aj (.own i) len cells->At H' i o)->(∀i cs,At H i (.row cs)->At H' i (.row cs))->K (.aj (.own H.n) (len+m) (cells++news)) H'):bJ (cI H ab0 sz bytes x y) K:=by
 obtain⟨tk,rfl,hc,j⟩:=h;have hlen:(cells++news).length=(len+m)*sz:=by simp[hc,hn,Nat.add_mul]
 have grow:∀tk:Tok,tk = .full\/(tk = .nil/\len=0)->cI H ab0 sz bytes (.aj tk len cells) y=ab1 (.aj (.own H.n) (len+m) (cells++news),H.push (.tok ((len+m)*sz) sz)):=by intro tk ht;simp only[cI,b,hs,not_true_eq_false,cc,ad c];rw[ad (by simp only[ac3];exact⟨hc,d,hl⟩)];rcases ht with rfl|⟨rfl,_⟩<;>rfl
 have fresh:K (.aj (.own H.n) (len+m) (cells++news)) (H.push (.tok ((len+m)*sz) sz)):=
  f _ ⟨_,rfl,hlen,.inr (.inr ⟨H.n,rfl,a,At.new H _⟩)⟩ (ab6 _) (λi o h _=>h.push _) (λi cs h=>h.push _)
 rcases j with ht|ht|⟨t,rfl,U,g⟩
 ·exact⟨_,_,grow tk (.inr ht),fresh⟩
 ·exact⟨_,_,grow tk (.inl ht),fresh⟩
 . refine ⟨.aj (.own H.n) (len+m) (cells++news),(H.set t .gone).push (.tok ((len+m)*sz) sz),?_,f _ ⟨_,rfl,hlen,.inr (.inr ⟨H.n,rfl,a,At.new (H.set t .gone) _⟩)⟩ (ab6 _) (λi o hi ho=>(hi.bq (λe=>ho (by rw[e])) _).push _) (λi cs hi=>(hi.bq (λe=>?_) _).push _)⟩
   . simp only[cI,b,hs,not_true_eq_false,cc,ad c];rw[ad (by simp only[ac3];exact⟨hc,d,hl⟩)];simp[g.2]
   . subst e;exact(c0.noConfusion (g.2.symm.trans hi.2):False)
section
variable{C:Ctx}(M:Cl (ag C) S.cn)
include M
theorem X3{x:I}{Q:ab}(a:fh H 1 x=ab1 (n,cells))(b:hh .s ab0 x=ab1 av)(hl:cells.length=n)(hs:cells.all I.scalar=abZ)(hn:n<=1000000000)
  (c:∀tk H',O.Ext H H'->tk ≠ .nil->Q (.aj tk n cells) H'):ag C 27 [x] H Q:=by
 refine S.QJ M ?_;unfold S.f27;have d:cU H ab0 1 0 [.int .u8 0] []=ab1 (.aj .full 0 [],H):=rfl;simp only[b,G,ai,abe,cc,d,aM];exact NM a hl hs (by omega) (by omega) c
theorem X4{x:I}{Q:ab}(a:fh H 1 x=ab1 (n,cells))(b:hh .s ab0 x=ab1 av)(hl:cells.length=n)(hs:cells.all I.scalar=abZ)(hn:n<=1000000000)
  (c:∀tk H',O.Ext H H'->tk ≠ .nil->Q (.aj tk n cells) H'):ag C 29 [x] H Q:=by
 refine S.QL M ?_;unfold S.f29;have d:cU H ab0 1 0 [T 0] []=ab1 (.aj .full 0 [],H):=rfl;simp only[b,G,ai,abe,cc,d,aM];exact NM a hl hs (by omega) (by omega) c
theorem X5(hl:cells.length=n)(ht:tk = .nil->n=0)(b:∀a,Q (.aj a n cells) H):ag C 26 [.aj tk n cells] H Q:=by refine S.QI M ?_;unfold S.f26;simp only[ae];obtain⟨a,e⟩:=NN hl ht;simp only[p3,G,e];exact b a
theorem X6(hl:cells.length=n)(ht:tk = .nil->n=0)(b:∀a,Q (.aj a n cells) H):ag C 28 [.aj tk n cells] H Q:=by refine S.QK M ?_;unfold S.f28;simp only[ae];obtain⟨a,e⟩:=NN hl ht;simp only[p3,G,e];exact b a
end
def X7(H:O)(c:Nat->Nat)(x:I)(a:List Nat):Prop:=∃tk,x = .aj tk a.length (a.map λi=> .ptr i 0)/\((tk = .nil/\a=[])\/∃t,tk = .own t/\At H t (.tok (a.length*1) 1)/\c t=5)
section
variable{C:Ctx}(ar:cY C)(M:Cl (ag C) S.cn){p:dy}
include ar M
theorem X8(X:p.ok)(Z:p.vars.length<=1000000)(ac:∀t∈p.b6,gz [] t)(ah:p.b6.length<=8){He:O}{l b ib:Nat}{B:List Int}(ak:He.n<=l)(aS:l<b){Q:ab}
  (al:∀ids c H',O.Ext He H'->(∀i,c i≠0->He.n<=i)->gT p H' c b ib ids (Gd p.b6.length []) B->Q (.aH [.ptr b 0,.agg [J,J]]) H') :
  ∀ (d k:Nat) (ids:List Nat) (c:Nat->Nat) (x:I) (H:O),k+d=p.b6.length->O.Ext He H->(∀i,c i≠0->He.n<=i)->c l=0->At H l (.row [J,J])->At H b (.row (fM p x ib B.length))->X7 H c x ids->gT p H c b ib ids (Gd k []) B ->
   au (S.uL (ag C) (.ptr l 0) (.ptr b 0) (D (p.b6.length:Nat)) Q) ([D (k:Nat)],H):=by
 intro d;induction d with
 | zero=>
  intro k ids c x H hk r hc c3 a3 rs m f;obtain rfl:k=p.b6.length:=by omega
  refine au.step ?_;simp only[ae,S.uL,aq,aX,G,ai,aw,S.F1];rw[hZ,WO];simp only[G,MV a3];rw[tj (a3.set _)];simp only[G];have am:=r.set ak (.row [J,J]);refine al ids c _ am hc (f.fc (S:=(·= l)) (Fc.set (S:=(·= l)) _ rfl _) (λi _ e=> .inl (by rw[e];exact c3)) (λ_ _=>rfl) f.bd (by rw[aeI];exact ah))
 | succ d an=>
  intro k ids c x H hk r hc c3 a3 rs m f;refine au.step ?_;have K:=f.il;rw[aeI]at K;have l2:∀{H' x},At H' b (.row (fM p x ib B.length))->af H' 1 ab0 (.ptr b 2)=ab1 x:=λa=>by rw[a.load];rfl
  have ao:∀o j,aJ o (.ptr j 0)=ab1 (.ptr j (0+o)):=λ_ _=>rfl;simp only[ae,S.uL,aq,aX,G,ai,br,ao,aar,l2 rs];rw[cp,show bI [Y,J,J,J,J,J,J,av,J,J,J,J,T 0,T 0,J,Y,J] []=ab1 (.agg (gK Y (cw,0,[],0) Y))from rfl];simp only[G];rw[show cg H abZ 17 (.agg (gK Y (cw,0,[],0) Y))=ab1 (.ptr H.n 0,H.push (.row (gK Y (cw,0,[],0) Y))) by unfold cg;rw[aa ⟨rfl,rfl⟩];rfl];simp only[aM];have s:=O.Ext.push H (.row (gK Y (cw,0,[],0) Y));have t1:=At.new H (.row (gK Y (cw,0,[],0) Y));have ap:=rs.ext s;have a31:=a3.ext s;have aT:(H.push (.row (gK Y (cw,0,[],0) Y))).n=H.n+1:=rfl;generalize H.push _=H1 at *;rw[show cU H1 ab0 1 1 [.ga] [(0,1,.ptr H.n 0)]=ab1 (.aj .full 1 [.ptr H.n 0],H1)from rfl];simp only[aM];have app:∃g,cI H1 ab0 1 8 x (.aj .full 1 [.ptr H.n 0])=ab1 (.aj (.own H1.n) (ids.length+1) (ids.map (λi=>I.ptr i 0)++[.ptr H.n 0]),g)/\At g H1.n (.tok ((ids.length+1)*1) 1)/\Fc (λi=>c i=5) H1 g/\g.n=H1.n+1:=by
   obtain⟨tk,rfl,m⟩:=m;have ax:fh H1 1 (.aj .full 1 [.ptr H.n 0])=ab1 (1,[.ptr H.n 0]):=rfl;rcases m with⟨rfl,rfl⟩|⟨t,rfl,at',ay⟩
   ·exact⟨H1.push (.tok 1 1),rfl,At.new _ _,Fc.ext (O.Ext.push _ _),rfl⟩
   . have az:=at'.ext s;refine⟨(H1.set t .gone).push (.tok ((ids.length+1)*1) 1),?_,At.new (H1.set t .gone) _,(Fc.set (S:=λi=>c i=5) H1 ay .gone).trans (Fc.ext (O.Ext.push _ _)),rfl⟩;simp only[cI,ax,ab4,List.all_nil,I.scalar,Bool.and_self,not_true_eq_false,cc];rw[aI,ad (by simp only[ac3];exact⟨by simp,by omega,by omega⟩)];simp[az.2]
  obtain⟨g,aA,L,f2,aB⟩:=app;rw[aA];simp only[aM];have N:=f2.at ap (by rw[f.cs];decide);have t2:=f2.at t1 (λe=>by have:=f.bd H.n (by rw[e];decide);omega);have aC:=f2.at a31 (by rw[c3];decide);have aD:bZ g 1 (.ptr b 2) (.aj (.own H1.n) (ids.length+1) (ids.map (λi=>I.ptr i 0)++[.ptr H.n 0]))=ab1 (g.set b (.row (fM p (.aj (.own H1.n) (ids.length+1) (ids.map (λi=>I.ptr i 0)++[.ptr H.n 0])) ib B.length))):=by rw[N.store,aa ⟨rfl,rfl,rfl,(by show 2+1<=4;decide)⟩];rfl
  rw[aD];simp only[G];have emap:ids.map (λi=>I.ptr i 0)++[.ptr H.n 0]=(ids++[H.n]).map λi=>I.ptr i 0:=by simp
  have P:ids.length+1=(ids++[H.n]).length:=by simp
  rw[emap,P];rw[P]at L;have aE:b<H.n:=rs.1;have f23:Fc (λi=>c i=5\/i=b) H1 (g.set b (.row (fM p (.aj (.own H1.n) (ids++[H.n]).length ((ids++[H.n]).map λi=>I.ptr i 0)) ib B.length))):=(f2.mono λi _ e=> .inl e).trans (Fc.set (S:=λi=>c i=5\/i=b) _ (.inr rfl) _);have E:=N.set (.row (fM p (.aj (.own H1.n) (ids++[H.n]).length ((ids++[H.n]).map λi=>I.ptr i 0)) ib B.length));have t3:=t2.bq (show H.n≠b by omega) (.row (fM p (.aj (.own H1.n) (ids++[H.n]).length ((ids++[H.n]).map λi=>I.ptr i 0)) ib B.length));have aF:=aC.bq (show l≠b by omega) (.row (fM p (.aj (.own H1.n) (ids++[H.n]).length ((ids++[H.n]).map λi=>I.ptr i 0)) ib B.length));have aG:=L.bq (show H1.n≠b by omega) (.row (fM p (.aj (.own H1.n) (ids++[H.n]).length ((ids++[H.n]).map λi=>I.ptr i 0)) ib B.length));have n3:(g.set b (.row (fM p (.aj (.own H1.n) (ids++[H.n]).length ((ids++[H.n]).map λi=>I.ptr i 0)) ib B.length))).n=H1.n+1:=aB;generalize g.set b (.row (fM p (.aj (.own H1.n) (ids++[H.n]).length ((ids++[H.n]).map λi=>I.ptr i 0)) ib B.length))=aU at *;obtain⟨t,ht⟩:∃t,p.b6[k]?=ab1 t:=⟨_,aav (by omega)⟩
  have R:(ids++[H.n])[k]?=ab1 H.n:=by rw[acq (by omega),K,aei];rfl
  refine look_ok ar M X Z E ht (ac t (acK ht)) R (A:=[]) (λx m=>by cases m) ⟨.nil,rfl⟩ t3 λF y t4 f4 aK l4=>?_;simp only[bu,G];rw[bD,show(k:Int)+1=((k+1:Nat):Int) by omega];have f14:Fc (λi=>c i=5\/i=b\/i=H.n) H1 y:=(f23.mono λi _ e=>e.elim .inl λe=> .inr (.inl e)).trans (f4.mono λi _ e=> .inr (.inr e));have u:∀i,i<H.n->gJ (gJ c H.n (1000+k)) H1.n 5 i=c i:=λi hi=>by rw[hH _ (by omega),hH _ (by omega)]
  have v:Fc (λi=>c i=5\/i=b) H y:=⟨h1 s.1 f14.1,λj U hs=>(f14.2 j (by omega) (λe=>hs (e.elim .inl λe=>e.elim .inr λe=>absurd e (by omega)))).trans (s.2 j U)⟩
  have aL:gJ (gJ c H.n (1000+k)) H1.n 5 H.n=1000+k:=by rw[hH _ (by omega),nL]
  have aN:O.Ext He y:=⟨h1 r.1 v.1,λi hi=>by
    rw[v.2 i (px hi r.1) (λe=>?_),r.2 i hi];rcases e with e|e
    ·have:=hc i (by rw[e];decide);omega
    ·omega⟩
  refine an (k+1) (ids++[H.n]) (gJ (gJ c H.n (1000+k)) H1.n 5) (.aj (.own H1.n) (ids++[H.n]).length ((ids++[H.n]).map λi=>I.ptr i 0)) y (by omega) aN (λi hi=>?_) ?_ (f4.at aF (by omega)) (f4.at E (by omega)) ⟨_,rfl,.inr ⟨H1.n,rfl,f4.at aG (by omega),nL _ _ _⟩⟩ ?_
  . by_cases e:i=H1.n
    ·have:=r.1;omega
    . rw[hH _ e]at hi;by_cases e:i=H.n
      ·have:=r.1;omega
      ·rw[hH _ e]at hi;exact hc i hi
  . have:=a3.1;rw[u _ this];exact c3
  . have aO:Gd (k+1) ([]:List (Int×Int))=Gd k []++[[]]:=List.replicate_succ';have aV:=f4.1;refine⟨λi hi=>?_,⟨_,f4.at E (by omega)⟩,by rw[u _ aE];exact f.cs,v.at f.rb λe=>?_,by rw[u _ f.rb.1];exact f.cb,f.nM,f.bl,by rw[acG,aeI,adi];omega,λV W aP h z=>?_,λW h=>?_⟩
    . by_cases e:i=H1.n
      ·omega
      . rw [hH _ e]at hi;by_cases e:i=H.n
        ·omega
        . rw[hH _ e]at hi;have:=f.bd i hi;omega
    . rcases e with e|e
      ·rw[f.cb]at e;omega
      ·have:=f.cb;rw[e,f.cs]at this;omega
    . rw [aO]at h;rcases Nat.lt_trichotomy V k with e|e|e
      . rw [acp (by rw[aeI];exact e)]at h;rw[acp (by omega)]at z;obtain⟨d1,aQ,aR,b1,o1,v1⟩:=f.th V W aP h z;refine⟨by rw[u _ b1.1];exact d1,aQ,aR,v.at b1 λq=>?_,o1.fc v (λj U q w=>?_) u,v1⟩
        . rcases q with q|q
          ·rw[d1]at q;omega
          ·rw[q,f.cs]at d1;omega
        . rcases w with w|w
          ·rw[q]at w;omega
          ·rw[w,f.cs]at q;omega
      . subst e;rw[R]at z;cases z;rw[acq (by rw[aeI];exact hT _),aeI,aei]at h;cases h;exact⟨aL,_,F,t4,⟨.nil,rfl,.inl ⟨rfl,rfl⟩⟩,aK,l4⟩
      . rw[List.getElem?_eq_none (by simp;omega)]at h;cases h
    . rw[(aeJ.1 h).2];exact⟨λx m=>(by cases m),aad _⟩
variable(j_:∀x,bX (ag C) 69 [.str x] (.bool (bC x)))
include j_
theorem X9(r:p.ok)(y:(dz bC p).2≠0->∀H',O.Ext H H'->Q (.aH [.ga,oI (dz bC p)]) H')
  (h:(dz bC p).2=0->∀is ib ids c H',O.Ext H H'->(∀i,c i≠0->H.n<=i)->gT p H' c is ib ids (Gd p.b6.length []) (Gd (dw 0 p.vars).toNat 0)->Q (.aH [.ptr is 0,.agg [J,J]]) H'):ag C 4 [.agg p.cells] H Q:=by
 refine S.Qr M ?_;unfold S.f4;simp only[ae];have E:cg H ab0 2 (.agg p.cells)=ab1 (.ak p.cells,H):=by unfold cg;rw[aa ⟨rfl,rfl⟩];rfl
 have t:∀H,af H 2 abZ (.ak p.cells)=ab1 (.agg p.cells):=λ_=>eK rfl;have F:∀k,aJ k (.ak p.cells)=ab1 (.ak (p.cells.drop k)):=λ_=>rfl;have I:∀H,af H 1 ab0 (.ak (p.cells.drop 0))=ab1 (aD aA.cells p.vars):=λ_=>rfl;have K:∀H,af H 1 ab0 (.ak (p.cells.drop 1))=ab1 (aD gN p.b6):=λ_=>rfl;have L:∀o j,aJ o (.ptr j 0)=ab1 (.ptr j (0+o)):=λ_ _=>rfl;simp only[E,aM,bx,aQ,t,G];have a3:=At.new H (.row [J,J]);have N:=O.Ext.push H (.row [J,J]);have an:(H.push (.row [J,J])).n=H.n+1:=rfl;generalize H.push _=H1 at *;refine Ub ar M j_ p r _ _ ?_;unfold oI at *;rw[tg];have a8:=At.new H1 (.row [D (dz bC p).1,D (dz bC p).2]);have a3:=a3.push (.row [D (dz bC p).1,D (dz bC p).2]);have u:=N.trans (O.Ext.push H1 (.row [D (dz bC p).1,D (dz bC p).2]));have ao:(H1.push (.row [D (dz bC p).1,D (dz bC p).2])).n=H1.n+1:=rfl;generalize H1.push _=a at *;have P:af a 1 ab0 (.ptr H1.n 1)=ab1 (D (dz bC p).2):=by rw[a8.load];rfl
 simp only[G,L,aar,P,cJ,ai];apply aF<;>intro q
 . rw[tj a8];simp only[G,MV a3];rw[tj (a3.set _)];simp only[G];exact y (by simpa using q) _ (u.set (hT _) _)
 . have g:(dz bC p).2=0:=by simpa using q
   have h:=h g;obtain⟨f,ap⟩:=NL r g;obtain⟨aq,R⟩:=LF bC g;have T:p.b6.length<=8:=by
    unfold dz at g;split at g
    ·cases g
    ·omega
   simp only[F,I,G];refine La ar M (by have:=f.l;omega) f.o _ _ ?_;unfold mh;rw[Dk f.z f.e,ad (by show ¬(0:Int)≠0;decide)];simp only[bL,acn,aco,G,t];have au:=f.e;have av:0<=dw 0 p.vars:=qp f.z;obtain⟨Z,v⟩:∃Z:Nat,dw 0 p.vars=Z:=⟨(dw 0 p.vars).toNat,by omega⟩
   rw[v]at h ⊢;simp only[adF]at h;have mk:hp a abZ 1 1 [.int .u8 0] (D (Z:Nat)) (D (Z:Nat))=ab1 (.row a.n 0 Z 1,a.push (.row (BV (Gd Z 0)))):=by simp only[hp];rw[aa ⟨by omega,by omega,by omega,by omega,rfl⟩,aa trivial,adF,D_]
   rw[mk];simp only[aM];have b3:=At.new a (.row (BV (Gd Z 0)));have a3:=a3.push (.row (BV (Gd Z 0)));have V:=u.trans (O.Ext.push a (.row (BV (Gd Z 0))));have n3:(a.push (.row (BV (Gd Z 0)))).n=a.n+1:=rfl;generalize a.push _=d at *;refine⟨trivial,?_⟩;rw[show bI [Y,Y,Y,Y] [(0,2,.agg p.cells),(3,1,.row a.n 0 Z 1)]=ab1 (.agg (fM p Y a.n Z))from rfl];simp only[G];rw[show cg d abZ 4 (.agg (fM p Y a.n Z))=ab1 (.ptr d.n 0,d.push (.row (fM p Y a.n Z))) by unfold cg;rw[aa ⟨rfl,rfl⟩];rfl];simp only[aM,K,G,bP];have r4:=At.new d (.row (fM p Y a.n Z));have W:=b3.push (.row (fM p Y a.n Z));have a4:=a3.push (.row (fM p Y a.n Z));have X:=V.trans (O.Ext.push d (.row (fM p Y a.n Z)));have n4:(d.push (.row (fM p Y a.n Z))).n=d.n+1:=rfl;generalize d.push _=ab at *;have w:(Gd Z (0:Int)).length=Z:=aeI;let c:Nat->Nat:=gJ (gJ (λ_=>0) d.n 1) a.n 2;have c1:c d.n=1:=by show gJ _ _ _ _=_;rw[hH _ (by omega),nL]
   have ac:c a.n=2:=nL _ _ _;have x:∀i,i≠a.n->i≠d.n->c i=0:=λi U ah=>by show gJ _ _ _ _=_;rw[hH _ U,hH _ ah]
   have cb:∀i,c i≠0->i=a.n\/i=d.n:=λi hi=>by
    by_cases e1:i=a.n
    ·exact .inl e1
    . by_cases m:i=d.n
      ·exact .inr m
      ·exact absurd (x i e1 m) hi
   have aj:∀i,c i≠0->H.n<=i:=λi hi=>by rcases cb i hi with e|e<;>omega
   rw[<-w]at r4;refine X8 ar M r (by have:=f.l;omega) R T (He:=H) (B:=Gd Z 0) (hT _) (by omega) (λids c' H' e1 m al=>h d.n a.n ids c' H' e1 m al) p.b6.length 0 [] c Y ab (by omega) X aj (x _ (by omega) (by omega)) a4 r4 ⟨.nil,rfl,.inl ⟨rfl,rfl⟩⟩ ⟨λi hi=>?_,⟨.nil,r4⟩,c1,W,ac,λb am=>?_,by rw[w,v],rfl,λk A i s=>?_,λA s=>by cases s⟩
   ·rcases cb i hi with e|e<;>omega
   ·rw[(aeJ.1 am).2];exact⟨Int.le_refl _,by decide⟩
   ·simp at s
end
end Rb
namespace Rb
open Go
variable{c:Nat->Nat}{is ib:Nat}{ids:List Nat}{B:List Int}
def hb(p:dy)(As:List (List (Int×Int)))(k:Nat):I:= D (nx p k (As.getD k [])).2.1
def tt(p:dy)(As:List (List (Int×Int)))(n:Nat)(P:List I):Prop:=P.length=n/\∀k A,k<n->As[k]?=ab1 A->∃v,P[k]?=ab1 v/\kd v (nx p k A).2.2.1
section
variable{C:Ctx}(ar:cY C)(M:Cl (ag C) S.cn){p:dy}(lu:∀(H:O)(Q:ab),Q (.aj .dead 0 []) H->ag C 29 [.aj .dead 0 []] H Q)
include ar M lu
theorem X_{F:I}{l:List Int}(h:kd F l)(hl:l.length<=1000000){H:O}{Q:ab}(a:∀tk H',O.Ext H H'->(tk = .nil->l.length=0)->Q (.aj tk l.length (l.map (T))) H'):ag C 29 [F] H Q:=by
 obtain⟨tk,rfl⟩:=h;cases l with
 | nil=>refine ag.q0 ?_;exact lu H Q (a .dead H (O.Ext.refl H) λe=>by cases e)
 | cons x r=>
  refine ag.q0 ?_;have b:I.dh [I.aj tk (x::r).length ((x::r).map (T))]=[.aj .dead (x::r).length ((x::r).map (T))]:=by simp only[I.dh,I.eB];rw[show I.dh ((x::r).map (T))=(x::r).map (T) by rw[od,List.map_map];rfl]
  rw[b];exact X4 M (by simp only[fh];rw[km]) rfl (by simp) (by rw[aeK,aaB];intro x _;rfl) (by omega) λtk H' c d=>a tk H' c λe=>absurd e d
theorem Ya{He:O}{As:List (List (Int×Int))}(aD:gT p He c is ib ids As B)(hn:As.length<=8)(aE:Tok){Z g:Nat}(U:He.n<=Z)(aF:He.n<=g)(aG:Z≠g){l:I}(aT:l.scalar=abZ)(bs:l.known=abZ){Q:ab}
  (aU:∀P N s H',O.Ext He H'->tt p As ids.length P->Q (.agg [l,.aj N ids.length P,.aj s ids.length ((aat ids.length).map (hb p As))]) H'):∀(d k:Nat)(F ex:I)(P:List I)(H:O),k+d=ids.length->O.Ext He H->At H Z (.row [Y,Y,Y])->At H g (.row [l,F,ex])->tt p As k P ->
  cy He.n H 1 F k P->cy He.n H 1 ex k ((aat k).map (hb p As))->(∀t a b,F = .aj (.own t) a b->∀c d,ex ≠ .aj (.own t) c d) ->
  au (S.uQ (ag C) (.ptr Z 0) (.ptr g 0) (.aj aE ids.length (ids.map λi=> .ptr i 0)) (D ids.length) Q) ([D k],H):=by
 intro d;induction d with
 | zero=>
  intro k F ex P H hk ac W a3 E ad he aH;obtain rfl:k=ids.length:=by omega
  refine au.step ?_;simp only[ae,S.uQ,aq,aX,G,ai,aw,S.F9];rw[hZ];obtain⟨N,rfl,_,_⟩:=ad;obtain⟨s,rfl,_,_⟩:=he;rw[a3.load,eK (n:=3) rfl];simp only[G];rw[W.store,aa ⟨rfl,rfl,by simp only[I.cells,ab4,aT];rfl,(by decide:0+3<=3)⟩];simp only[G];rw[show setCells [Y,Y,Y] 0 (I.agg [l,.aj N ids.length P,.aj s ids.length ((aat ids.length).map (hb p As))]).cells=[l,.aj N ids.length P,.aj s ids.length ((aat ids.length).map (hb p As))]from rfl,(W.set _).load,eK (n:=3) rfl];simp only[G];exact aU P N s _ (ac.set U _) E
 | succ d aV=>
  intro k F ex P H hk ac W a3 E ad he aH;have bt:=aD.il;obtain⟨i,hi⟩:∃i,ids[k]?=ab1 i:=⟨_,aav (by omega)⟩
  obtain⟨A,an⟩:∃A,As[k]?=ab1 A:=⟨_,aav (by omega)⟩
  obtain⟨c1,xa,aW,t0,bv,aY,aZ⟩:=aD.th k A i an hi;obtain⟨q,a0,ao⟩:=zt hi aE;have t1:∀{H'},O.Ext He H'->At H' i (.row (gK xa (nx p k A) aW)):=λe=>t0.ext e;have a1:As.getD k []=A:=by simp[aez,an]
  refine au.step ?_;simp only[ae,S.uQ,aq,aX,G,ai];rw[cp];have ap:∀{H':O},At H' g (.row [l,F,ex])->af H' 1 ab0 (.ptr g 1)=ab1 F:=λa2=>by rw[a2.load];rfl
  simp only[a0,ao,G,br,aJ,aar,ap a3,W8 (t1 ac)];refine X_ ar M lu aY aZ λbw H1 ah a4=>?_;have av:=a3.ext ah;refine⟨ap av,?_⟩;refine X6 M (by simp) a4 λs=>?_;refine⟨ap av,?_⟩;generalize hv:I.aj s (nx p k A).2.2.1.length ((nx p k A).2.2.1.map (T))=v at *;have a5:kd v (nx p k A).2.2.1:=⟨s,hv.symm⟩
  have a6:v.scalar=abZ:=by rw[<-hv];rfl
  have a7:cU H1 ab0 1 1 [Y] [(0,1,v)]=ab1 (.aj .full 1 [v],H1):=by rw[<-hv];rfl
  rw[a7,aM];have fr:∀{x:I}{n:Nat}{cs:List I},cy He.n H 1 x n cs->cy He.n H1 1 x n cs:=λh=>h.frame λ_ _ _ q=>q.ext ah;have ak:=ac.trans ah;refine(fr ad).NO ak.1 (m:=1) (news:=[v]) rfl rfl (by simp[a6]) (by decide) (by omega) (by omega) λy ao aI aK aL=>?_;have ax:=aL _ _ av;have a8:bZ y 1 (.ptr g 1) (.aj (.own H1.n) (k+1) (P++[v]))=ab1 (y.set g (.row [l,.aj (.own H1.n) (k+1) (P++[v]),ex])):=by rw[ax.store,aa ⟨rfl,rfl,rfl,(by decide:1+1<=3)⟩];rfl
  rw[a8];simp only[G];have a9:O.Ext He y:=⟨h1 ak.1 (adv aI),λi hi=>by
    obtain⟨bx,rfl,_,f⟩:=fr ad;refine((aK i (H1.o i) ⟨px hi ak.1,rfl⟩ ?_).2).trans (ak.2 i hi);intro e;simp only[I.aj.injEq]at e;rcases f with f|f|⟨q,r,K,_⟩
    ·rw[f.1]at e;cases e.1
    ·rw[f]at e;cases e.1
    ·rw[r]at e;cases e.1;omega⟩
  have a_:tt p As (k+1) (P++[v]):=by
   refine⟨by rw[acG,E.1];rfl,λj ba bz ay=>?_⟩;by_cases e:j<k
   . obtain⟨w,e1,az⟩:=E.2 j ba e ay;exact⟨w,by rw[acp (by rw[E.1];exact e)];exact e1,az⟩
   . obtain rfl:j=k:=by omega
     rw[an]at ay;cases ay;exact⟨v,by rw[acq (by rw[E.1];exact hT _),E.1,aei];rfl,a5⟩
  have b3:=ax.set (.row [l,.aj (.own H1.n) (k+1) (P++[v]),ex]);have R:=a9.set aF (.row [l,.aj (.own H1.n) (k+1) (P++[v]),ex]);have aA:=fr he;have bb:∀q c d,ex = .aj (.own q) c d->q<H1.n:=by
   intro q c d e;obtain⟨V,rfl,_,f⟩:=aA;simp only[I.aj.injEq]at e;rcases f with f|f|⟨bc,r,_,K⟩
   ·rw[f.1]at e;cases e.1
   ·rw[f]at e;cases e.1
   ·rw[r]at e;cases e.1;exact K.1
  have bd:cy He.n y 1 ex k ((aat k).map (hb p As)):=by
   obtain⟨V,rfl,aB,f⟩:=aA;refine⟨V,rfl,aB,?_⟩;rcases f with f|f|⟨q,r,X,K⟩
   ·exact .inl f
   ·exact .inr (.inl f)
   ·exact .inr (.inr ⟨q,r,X,aK q _ K λe=>aH q _ _ e _ _ (by rw[r])⟩)
  have be:=(aL _ _ (W.ext ah)).bq aG (.row [l,.aj (.own H1.n) (k+1) (P++[v]),ex]);have bf:H1.n<(y.set g (.row [l,.aj (.own H1.n) (k+1) (P++[v]),ex])).n:=aI;have aN:∀{x:I}{n:Nat}{cs:List I},cy He.n y 1 x n cs->cy He.n (y.set g (.row [l,.aj (.own H1.n) (k+1) (P++[v]),ex])) 1 x n cs:=λh=>h.frame λu v w q=>q.bq (λe=>by subst e;exact(c0.noConfusion (q.2.symm.trans ax.2):False)) _
  have bg:=aN ao;have bh:=aN bd;generalize y.set g (.row [l,.aj (.own H1.n) (k+1) (P++[v]),ex])=z at *;generalize P++[v]=al at *;have c3:af z 1 ab0 (.ptr g 2)=ab1 ex:=by rw[b3.load];rfl
  simp only[c3,G,Nb (t1 R)];have bi:cU z ab0 1 1 [J] [(0,1,D (nx p k A).2.1)]=ab1 (.aj .full 1 [D (nx p k A).2.1],z):=rfl;rw[bi,aM];refine bh.NO R.1 (m:=1) (news:=[D (nx p k A).2.1]) rfl rfl rfl (by decide) (by omega) (by omega) λL aO bj aP aQ=>?_;have aC:=aQ _ _ b3;have bk:(aat k).map (hb p As)++[D (nx p k A).2.1]=(aat (k+1)).map (hb p As):=by rw[List.range_succ,adu];unfold hb;rw[List.map_singleton,a1]
  rw[bk]at aO ⊢;have bl:bZ L 1 (.ptr g 2) (.aj (.own z.n) (k+1) ((aat (k+1)).map (hb p As)))=ab1 (L.set g (.row [l,.aj (.own H1.n) (k+1) al,.aj (.own z.n) (k+1) ((aat (k+1)).map (hb p As))])):=by rw[aC.store,aa ⟨rfl,rfl,rfl,(by decide:2+1<=3)⟩];rfl
  rw[bl];simp only[G,bu];rw[bD,show(k:Int)+1=((k+1:Nat):Int) by omega];have bm:∀q c d,ex = .aj (.own q) c d->He.n<=q:=by
   intro q c d e;obtain⟨V,rfl,_,f⟩:=aA;simp only[I.aj.injEq]at e;rcases f with f|f|⟨bc,r,X,_⟩
   ·rw[f.1]at e;cases e.1
   ·rw[f]at e;cases e.1
   ·rw[r]at e;cases e.1;exact X
  have bn:O.Ext He L:=⟨h1 R.1 (adv bj),λi hi=>((aP i (z.o i) ⟨px hi R.1,rfl⟩ (λe=>by have:=bm i _ _ e;omega)).2).trans (R.2 i hi)⟩
  have bo:cy He.n L 1 (.aj (.own H1.n) (k+1) al) (k+1) al:=by
   obtain⟨V,am,aB,f⟩:=bg;refine⟨V,am,aB,?_⟩;simp only[I.aj.injEq]at am;rcases f with f|f|⟨q,r,X,K⟩
   ·exact .inl f
   ·exact .inr (.inl f)
   . refine .inr (.inr ⟨q,r,X,aP q _ K λe=>?_⟩);have:=bb q _ _ e;rw[r]at am;cases am.1;omega
  have aR:∀{x:I}{n:Nat}{cs xs:List I},cy He.n L 1 x n cs->cy He.n (L.set g (.row xs)) 1 x n cs:=λh=>h.frame λu v w q=>q.bq (λe=>by subst e;exact(c0.noConfusion (q.2.symm.trans aC.2):False)) _
  have bA:H1.n<z.n:=bf;have bp:=aQ _ _ be;exact aV (k+1) _ _ al _ (by omega) (bn.set aF _) (bp.bq aG _) (aC.set _) a_ (aR bo) (aR aO) (λq a b e c d aS=>by simp only[I.aj.injEq]at e aS;have e1:=e.1;have az:=aS.1;cases e1;have bB:z.n=H1.n:=Tok.own.inj az;omega)
theorem NP{H:O}{As:List (List (Int×Int))}(h:gT p H c is ib ids As B)(hn:As.length<=8)(L:B.length<=1000000){Q:ab}
  (s:∀P d f g H',O.Ext H H'->tt p As ids.length P->Q (.agg [.aj d B.length (BV B),.aj f ids.length P,.aj g ids.length ((aat ids.length).map (hb p As))]) H'):ag C 7 [.ptr is 0] H Q:=by
 refine S.Qt M ?_;unfold S.f7;simp only[ae];simp only[bx,aQ,aM];have u:=O.Ext.push H (.row [Y,Y,Y]);have W:=At.new H (.row [Y,Y,Y]);have N:(H.push (.row [Y,Y,Y])).n=H.n+1:=rfl;generalize H.push _=H1 at *;have j:=u.trans (O.Ext.push H1 (.row [Y,Y,Y]));have a2:=W.push (.row [Y,Y,Y]);have b2:=At.new H1 (.row [Y,Y,Y]);generalize H1.push _=v at *;obtain⟨l,o⟩:=h.rs;have w:=o.ext j;have y:=h.rb.ext j;have l2:∀{H'},At H' is (.row (fM p (.aj l ids.length (ids.map λi=> .ptr i 0)) ib B.length))->af H' 1 ab0 (.ptr is 2)=ab1 (.aj l ids.length (ids.map λi=> .ptr i 0)):=λa=>by rw[a.load];rfl
 simp only[hh,I.isNil,ZX,G,ai,abe,cc,br,aJ,aar,DO w];have z:fh v 1 (.row ib 0 B.length 1)=ab1 (B.length,BV B):=by simp only[fh,y.2];rw[aa (by simp[BV]),acy,acJ (by simp[BV])]
 refine X3 M z rfl (by simp[BV]) (by unfold BV;rw[aeK,aaB];intro x _;rfl) (by omega) λtk q m ht=>?_;refine X5 M (by simp[BV]) (λe=>absurd e ht) λd=>?_;have a3:=a2.ext m;have b3:=b2.ext m;have D:=j.trans m;have E:bZ q 1 (.ptr H1.n 0) (.aj d B.length (BV B))=ab1 (q.set H1.n (.row [.aj d B.length (BV B),Y,Y])):=by rw[b3.store,aa ⟨rfl,rfl,rfl,(by decide:0+1<=3)⟩];rfl
 rw[E];have r:=D.set (show H.n<=H1.n by omega) (.row [.aj d B.length (BV B),Y,Y]);have F:=o.ext r;simp only[G,l2 F,p3];exact Ya ar M lu h hn l (hT _) (show H.n<=H1.n by omega) (show H.n≠H1.n by omega) rfl rfl (λP f g H' J K=>s P d f g H' J K) ids.length 0 _ _ [] _ (by omega) r (a3.bq (by omega) _) (b3.set _) ⟨rfl,λk A hk=>by omega⟩ (cy.nil _ _ _) (cy.nil _ _ _) (λt a b e=>by cases e)
end
end Rb
namespace Rb
open Go
variable{H H':O}{Q:ab}{c:Nat->Nat}{jb ja:Nat}{B:List Int}
theorem NQ:∀xs:List Int,∃s,ly (BV xs)=ab1 s
 |[]=>⟨[],rfl⟩
 | x::r=>by obtain⟨s,hs⟩:=NQ r;exact⟨UInt8.ofNat x.toNat::s,by show(ly (BV r)).map _=_;rw[hs];rfl⟩
structure m5(H:O)(c:Nat->Nat)(jb ja:Nat)(As:List (List (Int×Int)))(B:List Int):Prop where
 rb:At H jb (.row (BV B))
 cb:c jb=3
 ra:∃xs:List I,At H ja (.row xs)/\xs.length=As.length/\∀k A,As[k]?=ab1 A->∃x,xs[k]?=ab1 x/\mw H c (3000+k) x A
 ca:c ja=4
theorem m5.fc{c c':Nat->Nat}{As:List (List (Int×Int))}(h:m5 H c jb ja As B){S:Nat->Prop}(f:Fc S H H')(hs:∀i,i<H.n->S i->c i≠3/\c i≠4/\c i<3000)(hc:∀i,i<H.n->c' i=c i):m5 H' c' jb ja As B:=by obtain⟨xs,a,l,e⟩:=h.ra;refine⟨f.at h.rb (λq=>(hs _ h.rb.1 q).1 h.cb),(hc _ h.rb.1).trans h.cb,⟨xs,f.at a (λq=>(hs _ a.1 q).2.1 h.ca),l,λk A b=>?_⟩,(hc _ a.1).trans h.ca⟩;obtain⟨x,e1,d⟩:=e k A b;exact⟨x,e1,d.fc f (λi hi q s=>by have:=(hs i hi s).2.2;omega) hc⟩
theorem m5.ext{As:List (List (Int×Int))}(h:m5 H c jb ja As B)(E:O.Ext H H'):m5 H' c jb ja As B:=h.fc (S:=λ_=>False) (Fc.ext E) (λ_ _ q=>q.elim) (λ_ _=>rfl)
theorem Ea{i:Nat}{w:bz}{b:Int}{F:I}{c:Bool}(h:At H i (.row (dT w b F c))):af H 13 abZ (.ptr i 0)=ab1 (.agg w.cells)/\af H 1 ab0 (.ptr i 13)=ab1 (D b)/\af H 1 ab0 (.ptr i 14)=ab1 F/\af H 1 ab0 (.ptr i 15)=ab1 (.bool c):=by
 refine⟨?_,?_,?_,?_⟩
 ·rw[h.load];exact l0 (a:=w.cells) rfl
 all_goals (rw[h.load];rfl)
section
variable{C:Ctx}(ar:cY C)(M:Cl (ag C) S.cn){p:dy}
include ar M
theorem Yb(w:bz)(c:Q aZ H):ag C 12 [.agg w.cells,.agg w.cells] H Q:=by
 refine S.Qy M ?_;unfold S.f12;simp only[ae];have d:cg H ab0 13 (.agg w.cells)=ab1 (.ak w.cells,H):=by unfold cg;rw[aa ⟨rfl,rfl⟩];rfl
 have e:∀i,aJ i (.ak w.cells)=ab1 (.ak (w.cells.drop i)):=λ_=>rfl;have f:af H 1 ab0 (.ak (w.cells.drop 0))=ab1 (D w.kind):=rfl;have l1:af H 1 ab0 (.ak (w.cells.drop 1))=ab1 (D w.site):=rfl;have l2:af H 1 ab0 (.ak (w.cells.drop 2))=ab1 (D w.X):=rfl;have g:af H 6 abZ (.ak (w.cells.drop 3))=ab1 (.agg w.spot.cells):=rfl;have h:af H 1 ab0 (.ak (w.cells.drop 9))=ab1 (D w.aB):=rfl;have j:af H 1 ab0 (.ak (w.cells.drop 10))=ab1 (D w.op):=rfl;have k:af H 2 abZ (.ak (w.cells.drop 11))=ab1 (.agg [T w.d0,T w.d1]):=rfl;have l:ih ab0 [.n,.n,.n,.b,.n,.n] (.agg w.spot.cells) (.agg w.spot.cells)=ab1 (aZ):=by simp[ih,dZ,bM.cells]
 have m:ih ab0 [.n,.n] (.agg [T w.d0,T w.d1]) (.agg [T w.d0,T w.d1])=ab1 (aZ):=by simp[ih,dZ]
 have o:∀a:Int,(a==a)=abZ:=λa=>by simp
 simp only[ae,d,aM,e,f,l1,G,bc,o,bR,aQ,aw,S.A8,S.A7,S.A6,S.A5,S.A4,aq,l2,g,l,h,j,k,m];exact c
theorem Yc{c a:I}{xs:List Int}(f:kd c xs)(d:dj H 1 a xs.length (xs.map (T)))(hl:xs.length<=9223372036854775807)(g:Q aZ H):ag C 14 [c,a] H Q:=by
 obtain⟨t1,rfl⟩:=f;refine S.QA M ?_;unfold S.f14;simp only[ae];have al:∀tk,eV ab0 (.aj tk xs.length (xs.map (T)))=ab1 (D xs.length):=λ_=>rfl;simp only[al,d.len,G,cJ,ai];rw[hZ];have main:∀(r:List Int)(k:Nat),xs.drop k=r->au (S.uX (ag C) (.aj t1 xs.length (xs.map (T))) a Q) ([D k],H):=by
  intro r;induction r with
  | nil=>intro k b;have hle:=dx b;refine au.step ?_;simp only[ae,S.uX,al,G,aq,aX,ai];rw[dg];exact g
  | cons x r h=>intro k b;obtain⟨l,e,i⟩:=di b;obtain⟨m,e1,l1⟩:=X1 (tk:=t1) e;obtain⟨n,j,l2⟩:=d.get (k:=k) (v:= T x) (by rw[aau,e];rfl);refine au.step ?_;simp only[ae,S.uX,al,G,aq,aX,ai];rw[cp];simp only[e1,j,l1,l2 H (O.Ext.refl _),G,cJ,ai,bu];rw[hZ,bD,show(k:Int)+1=((k+1:Nat):Int) by simp];exact h (k+1) i
 exact main xs 0 rfl
theorem NR(a:p.ok)(b:gm p.vars){k:Nat}{t:List ax}(ht:p.b6[k]?=ab1 t)(d:vB p.vars [] t)(e:gB t<=Mx){A:List (Int×Int)}(g:∀x∈A,bm x.1/\bm x.2)(h:A.length<=1000){x:I}(i:∃tk,x = .aj tk A.length (A.flatMap b_)){H:O}{P:O->Prop}{Q:ab}
  (j:∀H',O.Ext H H'->P H') (l:∀F H',O.Ext H H'->dj H' 1 F (jf p.vars 1000001 t A 65536).pr.length ((jf p.vars 1000001 t A 65536).pr.map (T))->Q (.agg (dT (jf p.vars 1000001 t A 65536).want (jf p.vars 1000001 t A 65536).fin F (jf p.vars 1000001 t A 65536).empty)) H') :
  ag C 10 [.agg p.cells,D (k:Nat)] H λy H'=>P H'/\ag C 11 [y,x,D 65536] H' Q:=by
 have m:=acK ht;refine XZ ar M b a ht d e λid xa xn xs H1 f U=>⟨j H1 f,?_⟩
 obtain⟨tk,rfl⟩:=i;refine ag.q0 ?_;have n:I.dh [.ptr id 0,.aj tk A.length (A.flatMap b_),D 65536]=[.ptr id 0,aD b_ A,D 65536]:=by
  have:I.dh (A.flatMap b_)=A.flatMap b_:=by have:=qb (cells:=b_) (λ_=>rfl) A;simp only[aD,I.eB]at this;exact(I.aj.inj this).2.2
  simp only[I.dh,I.eB,this];rfl
 rw[n];exact X0 ar M b (a.2.2 t m).2 d e (c:=1000001) (by decide) h g (fuel:=65536) (by decide) U λF o q r=>l F o (f.trans q) r
end
end Rb
namespace Rb
open Go
variable{H:O}{is ib jb ja Z j:Nat}{ids:List Nat}
structure JI(p:dy)(H:O)(c:Nat->Nat)(is ib jb ja:Nat)(ids:List Nat)(Z j:Nat)(As:List (List (Int×Int)))(B:List Int):Prop where
 s:gT p H c is ib ids As B
 l:m5 H c jb ja As B
 z:B.length=Z
 n:As.length=p.b6.length
 n8:p.b6.length<=8
 m:∀A∈As,A.length<=j
theorem JI.ext{p:dy}{H H':O}{c:Nat->Nat}{As:List (List (Int×Int))}{B:List Int}(h:JI p H c is ib jb ja ids Z j As B)(E:O.Ext H H'):JI p H' c is ib jb ja ids Z j As B:=⟨h.s.ext E (by rw[h.n];exact h.n8),h.l.ext E,h.z,h.n,h.n8,h.m⟩
def Yd(v:I):Prop:=v.known=abZ/\v.cells=[v]/\v.scalar=abZ
theorem NS{i:Nat}{cs:List I}(a:At H i (.row cs)){x:c0}{n o:Nat}{g:Bool}:af (H.push x) n g (.ptr i o)=af H n g (.ptr i o):=by rw[(a.push x).load,a.load]
theorem Ye(w:bz):ih abZ [.n,.n,.n,.n,.n,.n,.b,.n,.n,.n,.n,.n,.n] (.agg w.cells) (.agg w.cells)=ab1 (av):=by simp[ih,dZ,bz.cells,bM.cells]
theorem NT(p:dy)(k:Nat){t:List ax}(ht:p.b6[k]?=ab1 t)(As:List (List (Int×Int))){A:List (Int×Int)}(b:As[k]?=ab1 A) :
  (jf p.vars 1000001 t A 65536=⟨cw,0,[],abZ⟩/\nx p k A=(cw,0,[],16)/\fN p As (k:Nat)=(cw,16)) \/
  (jf p.vars 1000001 t A 65536=⟨(nx p k A).1,(nx p k A).2.1,(nx p k A).2.2.1,ab0⟩/\(nx p k A).2.2.2=0/\(((nx p k A).2.1≠0/\fN p As (k:Nat)=(cw,15))\/((nx p k A).2.1=0/\fN p As (k:Nat)=((nx p k A).1,0)))):=by
 have a:nx p k A=hV p.vars 1000001 t A 65536:=by unfold nx;rw[ht]
 have d:=(ZF.1 b).1;have c:fN p As (k:Nat)=if(nx p k A).2.2.2≠0 then(cw,(nx p k A).2.2.2)else if(nx p k A).2.1≠0 then(cw,15)else((nx p k A).1,0):=by unfold fN;rw[bg,adF,show As.getD k []=A by simp[aez,b]]
 rcases X2 p.vars 1000001 t A 65536 with h|h
 . refine .inl ⟨?_,by rw[a,h],?_⟩
   ·unfold jf;rw[h];rfl
   ·rw[c,a,h];rfl
 . refine .inr ⟨?_,by rw[a];exact h,?_⟩
   . unfold jf;dsimp only;rw[ad (by rw[h];decide),a]
   . rw[c,a,ad (by rw[h];exact λq=>q rfl)];by_cases e:(hV p.vars 1000001 t A 65536).2.1≠0
     ·exact .inl ⟨e,aa e⟩
     ·exact .inr ⟨by omega,ad e⟩
section
variable{C:Ctx}(ar:cY C)(M:Cl (ag C) S.cn){p:dy}
include ar M
theorem round(aF:p.ok)(ax:gm p.vars)(aT:∀t∈p.b6,vB p.vars [] t)(bn:∀t∈p.b6,gz [] t)(bo:∀t∈p.b6,gB t<=Mx){jG:List Int}(b3:jG.length<=9223372036854775807){is ib jb ja:Nat}{ids:List Nat}{Z:Nat}{Q:ab}{L:(List I×O)->Prop}(b5:j<40)(aU:j<jG.length)
  {H:O} {c:Nat->Nat} {As:List (List (Int×Int))} {B:List Int} (h:JI p H c is ib jb ja ids Z j As B)
  (bp:∀H' c' Y ac,JI p H' c' is ib jb ja ids Z (j+1) Y ac->L ([D ((j+1:Nat):Int)],H')) :
  S.AY (ag C) (aD (i1 .i64) jG) (.ak p.cells) (.ptr is 0) (D (p.b6.length:Nat)) (.row jb 0 Z 1) (.row ja 0 p.b6.length 1) ([D (j:Nat)],H) L Q [] H:=by
 have hn:=h.n;have bq:=h.n8;have aV:As.length<=8:=by omega
 have hm:=h.m;have br:(B.length:Int)=dw 0 p.vars:=h.s.bl;have bs:=ax.e;have b7:=ax.l;obtain⟨t,bt⟩:∃t,jG[j]?=ab1 t:=⟨_,aav aU⟩
 have bv:∀H,af H 2 abZ (.ak p.cells)=ab1 (.agg p.cells):=λ_=>eK rfl;have bw:bI [J,J,J,J,J,J,av,J,J,J,J,T 0,T 0] []=ab1 (.agg cw.cells):=rfl;have aG:∀{H' c' Y ac},JI p H' c' is ib jb ja ids Z (j+1) Y ac->S.q5 (ag C) ([D (j:Nat)],H) L Q [] H':=by intro H' c' Y ac q;simp only[ae,S.q5,aq,bu,G];rw[bD,show(j:Int)+1=((j+1:Nat):Int) by omega];exact bp H' c' Y ac q
 have up:∀{H':O},O.Ext H H'->JI p H' c is ib jb ja ids Z (j+1) As B:=λE=>by have:=h.ext E;exact⟨this.s,this.l,this.z,this.n,this.n8,λA u=>aeL (this.m A u)⟩
 have aW:∀k A,(∀x∈A,bm x.1/\bm x.2)->k<p.b6.length->oU (dw 0 p.vars) (nx p k A).1:=by
  intro k A u hk;obtain⟨t,ht⟩:∃t,p.b6[k]?=ab1 t:=⟨_,aav hk⟩
  have ad:=acK ht;unfold nx;rw[ht];exact WI 1000001 ax (aF.2.2 t ad).2 (aT t ad) u 65536
 have step:∀{H':O}{R:ab}(aY:gT p H' c is ib ids As B)(U:(fN p As t).2≠0->∀V,O.Ext H' V->R (D (fN p As t).2) V)
  (a0:(fN p As t).2=0->∀A c' V,0<=t->As[t.toNat]?=ab1 A->gT p V c' is ib ids (As.set t.toNat (A++[(fo B (nx p t.toNat A).1).2])) (fo B (nx p t.toNat A).1).1->Fc (λj=>c j=2\/c j=1000+t.toNat\/c j=2000+t.toNat) H' V->(∀i,i<H'.n->c' i=c i)->R J V),ag C 9 [.ptr is 0,D t] H' R:=
  λ{H' R} aY U a0=>Xf ar M aF (by omega) bn aW bs aY aV hn (λA u=>by have:=hm A u;omega) t (Q:=R) U a0
 simp only[ae,S.AY,aq,cG aU,G];rw[SX H bt];simp only[G];refine Nc ar M h.s aV t λv a1=>?_;simp only[bL,acn,aco,G,bx,aQ,aM];rw[show(v.push (.row [J,J,J,J,J,J,av,J,J,J,J,T 0,T 0]))=v.push (.row cw.cells)from rfl,DS];have w3:=At.new v (.row (fN p As t).1.cells);have ah:=a1.trans (O.Ext.push v (.row (fN p As t).1.cells));have n3:v.n<(v.push (.row (fN p As t).1.cells)).n:=ab6 _;have b8:=a1.1;generalize v.push _=bz at *;simp only[G,aX];by_cases b9:t<0\/t>=p.b6.length
 ·
   have N:fN p As t=(cw,1):=by unfold fN;rw[cX]
   have a2:S.q6 (ag C) (.ak p.cells) (.ptr is 0) (.row jb 0 Z 1) (.row ja 0 p.b6.length 1) (D t) (D (fN p As t).2) (.ptr v.n 0) ([D (j:Nat)],H) L Q [aZ] bz:=by
    simp only[ae,S.q6,aq,ai,aQ,N,cJ,G,show((1:Int) != 1)=ab0 from rfl,b4];refine step (h.ext ah).s (λ_ y W=>?_) (λe=>?_)
    . rw[N];simp only[cJ,G,show((1:Int) != 1)=ab0 from rfl,aw,S.AQ,aq,ai,abe,cc];exact aG (up (ah.trans W))
    . rw[N]at e;exact absurd e (by show ¬(1:Int)=0;decide)
   by_cases a3:t<0
   . rw[show decide (t<0)=abZ by simpa using a3];simp only[b4,acZ,cc,aw];exact a2
   . rw[show decide (t<0)=ab0 by simpa using a3];simp only[b4,aQ,eD,G,aw];rw[show decide (t>=(p.b6.length:Nat))=abZ by simp only[du];omega];exact a2
 ·
   obtain⟨k,rfl⟩:∃k:Nat,t=k:=⟨t.toNat,by omega⟩
   rw[show decide ((k:Int)<0)=ab0 by simp only[decide_eq_false_iff_not];omega];simp only[b4,aQ,eD,G,aw];rw[show decide ((k:Int)>=(p.b6.length:Nat))=ab0 by simp only[decide_eq_false_iff_not];omega];simp only[ae,S.q6,aq,ai,abe,cc,aw];obtain⟨A,u⟩:∃A,As[k]?=ab1 A:=⟨_,aav (by omega)⟩
   obtain⟨al,ht⟩:∃al,p.b6[k]?=ab1 al:=⟨_,aav (by omega)⟩
   have a4:=acK u;have ad:=acK ht;have ay:=h.s.ok A a4;have bA:=h.ext ah;obtain⟨xs,aH,cd,f_⟩:=bA.l.ra;obtain⟨bB,bC,bE⟩:=f_ k A u;have a5:aP ab2 1 (.row ja 0 p.b6.length 1) (D (k:Nat))=ab1 (.ptr ja k):=by show(if 0<=(k:Int)/\(k:Int)<(p.b6.length:Nat)then ab1 (I.ptr ja (0+(k:Int).toNat*1))else ab2)=_;rw[aa ⟨by omega,by omega⟩];simp
   have aK:∀{H'},At H' ja (.row xs)->af H' 1 ab0 (.ptr ja k)=ab1 bB:=λa=>by rw[a.load];unfold bY;rw[cX,aI,bC]
   simp only[ae,S.FV,bv,G,a5,aK aH];refine NR ar M aF ax ht (aT al ad) (bo al ad) ay.1 (by have:=ay.2;omega) (by obtain⟨tk,e,_⟩:=bE;exact⟨tk,e⟩) (λH' E=>aK (aH.ext E)) λF y W bF=>?_;obtain⟨ce,cf,bG⟩:=bF.known;have bH:=NT p k ht As u;generalize jf p.vars 1000001 al A 65536=d at *;have bJ:(dT d.want d.fin F d.empty).all I.scalar=abZ:=by unfold dT;rw[acN];show(_&&(abZ&&(F.scalar&&(abZ&&abZ))))=abZ;rw[bG];rfl
   simp only[bx,aQ,aM];have a6:=aH.ext W;refine⟨trivial,by rw[NS a6];exact aK a6,?_⟩;rw[bU y _ (dT d.want d.fin F d.empty) 16 rfl bJ rfl];have a7:=At.new y (.row (dT d.want d.fin F d.empty));have a8:=(ah.trans W).trans (O.Ext.push y (.row (dT d.want d.fin F d.empty)));have az:=(w3.ext W).push (.row (dT d.want d.fin F d.empty));have cg:y.n<(y.push (.row (dT d.want d.fin F d.empty))).n:=ab6 _;have ch:=(ah.trans W).1;generalize y.push _=bK at *;obtain⟨t0,t13,t14,t15⟩:=Ea a7;have am:∀o b,aJ o (.ptr b 0)=ab1 (.ptr b (0+o)):=λ_ _=>rfl;simp only[G,am,aar,t13,t15];have aL:=h.ext a8;have bad:∀e:Int,e≠0->fN p As (k:Nat)=(cw,e)->S.uH (ag C) (.ptr is 0) (D (k:Nat)) (D (fN p As (k:Nat)).2) (.ptr v.n 0) ([D (j:Nat)],H) L Q [D e] bK:=by
    intro e he N;simp only[ae,S.uH,aq,N,cJ,G,bne_self_eq_false,b4,aQ];refine step aL.s (λ_ aA a_=>?_) (λq=>?_)
    . rw[N];rw[N]at az;simp only[ae,cJ,G,bne_self_eq_false,aw,S.AU,aq,b4,aQ,kH (az.ext a_),bw,Ye,S.AR,ai,abe,cc];exact aG (up (a8.trans a_))
    . rw[N]at q;exact absurd q he
   rcases bH with⟨e1,bM,P⟩|⟨e1,bM,P⟩
   . subst e1;simp only[ae,b4,acZ,cc,aw,S.uI,aq,ai,aQ,am,aar,t15,G];exact bad 16 (by decide) P
   . subst e1;simp only[ae,b4,aQ,aw,cJ,G,S.uI,aq,ai];rcases P with⟨P,aB⟩|⟨P,aB⟩
     . rw[show((nx p k A).2.1 != 0)=abZ by simpa using P];simp only[aQ,am,aar,t15,G,ai,abe,cc,aw];exact bad 15 (by decide) aB
     . rw [show((nx p k A).2.1 != 0)=ab0 by simp[P]];simp only[ae,abe,cc,S.FU];rw[aB]at az ⊢;simp only[cJ,show((0:Int) != 0)=ab0 from rfl,G,b4,aQ,kH az,am,aar,t0];refine Yb ar M _ ?_;simp only[ae,c_,ac1,G,aw,S.AX,aq,b4,aQ];refine step aL.s (λq=>absurd (by rw[aB]) q) (λ_ aC c' aA _ g aN f6 bN=>?_);rw[adF]at g aN f6;rw[u]at g;cases g;have aO:=aW k A ay.1 (by omega);rw[<-br]at aO;generalize (nx p k A).1=w at *;have f:m5 aA c' jb ja As B:=aL.l.fc f6 (λi _ q=>by omega) bN;have bO:=f6.at a7 (λq=>by
         have:c y.n=0:=by
          by_cases e:c y.n=0
          ·exact e
          ·have:=h.s.bd _ e;omega
         omega)
       obtain⟨bP,_,_,_⟩:=Ea bO;simp only[ae,cJ,show((0:Int) != 0)=ab0 from rfl,G,aw,S.AW,aq,ai,abe,cc,S.FT,a5];obtain⟨ys,ba,bQ,bb⟩:=f.ra;obtain⟨bc,bR,bS⟩:=bb k A u;have be:∀{H'},At H' ja (.row ys)->af H' 1 ab0 (.ptr ja k)=ab1 bc:=λa=>by rw[a.load];unfold bY;rw[cX,aI,bR]
       simp only[be ba,G,am,aar,bP];have bf:=h.s.nM;have bg:=h.z;rw[<-bg];refine WZ ar M f.rb bf aO (by omega) λK bh f7=>?_;have bi:ja≠jb:=λe=>by have:=f.ca;rw[e,f.cb]at this;omega
       have aE:=f7.at ba bi;refine⟨be aE,?_⟩;have ci:=M_ bf aO;have hlen:=M8 B w;generalize fo B w=r at *;rw[show cU K ab0 2 1 [T 0,T 0] [(0,2,D2 r.2.1 r.2.2)]=ab1 (.aj .full 1 (b_ r.2),K)from rfl];simp only[aM];have f67:Fc (·= jb) aA K:=Fc.DQ f7 rfl;have bT:mw K c' (3000+k) bc A:=bS.fc f67 (λi _ q e=>by rw[e,f.cb]at q;omega) (λ_ _=>rfl);obtain⟨X,an,bV,bj,f8,n8⟩:=bT.app r.2 (by have:=ay.2;omega);rw[bV];simp only[aM];have aR:=f8.at aE (λe=>by rw[f.ca]at e;omega);have ao:Yd X:=by obtain⟨tk,rfl,_⟩:=bj;exact⟨rfl,rfl,rfl⟩
       rw[aR.store,aa ⟨ao.1,by rw[ao.2.1];rfl,by rw[ao.2.1];simp[ao.2.2],by omega⟩,ao.2.1];simp only[G];have cj:ja<an.n:=aR.1;have f9:Fc (·= ja) an (an.set ja (.row (setCells ys k [X]))):=Fc.set (S:=(·= ja)) _ rfl _;have a9:=aR.set (.row (setCells ys k [X]));generalize bW:an.set ja (.row (setCells ys k [X]))=ap at *;have ck:ap.n=an.n:=by rw[<-bW];rfl
       have f69:Fc (λi=>i=jb\/c' i=3000+k\/i=ja) aA ap:=((f67.mono λi _ e=> .inl e).trans (f8.mono λi _ e=> .inr (.inl e))).trans (f9.mono λi _ e=> .inr (.inr e));have au:∀i,i<K.n->gJ c' K.n (3000+k) i=c' i:=λi hi=>hH _ (by omega);have cl:=f7.1;have bX:gT p ap (gJ c' K.n (3000+k)) is ib ids (As.set k (A++[r.2])) r.1:=aN.fc f69 (λi _ q=>by
         rcases q with q|q|q
         ·rw[q,f.cb];omega
         ·omega
         ·rw[q,f.ca];omega) (λi hi=>au i (by omega)) (λi hi=>by
         by_cases e:i=K.n
         ·omega
         . rw[hH _ e]at hi;have:=aN.bd i hi;omega) (by rw[abF];omega)
       have bZ:At ap jb (.row (BV r.1)):=f9.at (f8.at bh (λe=>by rw[f.cb]at e;omega)) (Ne.symm bi);have b0:m5 ap (gJ c' K.n (3000+k)) jb ja (As.set k (A++[r.2])) r.1:=by
        refine⟨bZ,by rw[au _ bh.1];exact f.cb,⟨ys.set k X,a9,by rw[abF,abF];exact bQ,λbk aC g=>?_⟩,by rw[au _ aE.1];exact f.ca⟩;by_cases aS:bk=k
        . subst aS;rw[aax (by omega)]at g;cases g;refine⟨X,aax (by omega),bj.fc f9 (λi _ q e=>?_) (λ_ _=>rfl)⟩;rw[e,au _ aE.1,f.ca]at q;omega
        . rw[aay (Ne.symm aS)]at g;obtain⟨x,b1,b2⟩:=bb bk aC g;refine⟨x,by rw[aay (Ne.symm aS)];exact b1,b2.fc f69 (λi _ q e=>?_) (λi hi=>au i (by omega))⟩;rcases e with e|e|e
          ·rw[e,f.cb]at q;omega
          ·omega
          ·rw[e,f.ca]at q;omega
       refine aG ⟨bX,b0,by rw[hlen];exact bg,by rw[abF];exact hn,bq,λaC g=>?_⟩;rcases List.mem_or_eq_of_mem_set g with g|rfl
       ·exact aeL (hm aC g)
       . rw[acG,adi];exact Nat.succ_le_succ (hm A a4)
end
end Rb
namespace Rb
open Go
variable{is ib jb ja Z j:Nat}{ids:List Nat}{c:Nat->Nat}{B jG:List Int}
theorem NU{xs:List I}{k n:Nat}{v:I}{tk:Tok}(hl:xs.length=n)(h:xs[k]?=ab1 v):∃q,aP ab2 1 (.aj tk n xs) (D k)=ab1 q/\∀H,af H 1 ab0 q=ab1 v:=by
 have a:=(ZF.1 h).1;refine⟨.ak (xs.drop (k*1)),?_,λH=>?_⟩
 . show(if 0<=(k:Int)/\(k:Int)<(n:Nat)then ab1 (I.ak (xs.drop ((k:Int).toNat*1)))else ab2)=_;rw[aa ⟨by omega,by omega⟩,adF]
 . show bY (xs.drop (k*1)) 0 1 ab0=_;unfold bY;rw[nX,aI];simp[ZI,h]
section
variable{C:Ctx}(ar:cY C)(M:Cl (ag C) S.cn){p:dy}(oY:bX (ag C) 6 [] aZ)
include ar M oY
theorem Yf(ad:p.ok)(ah:gm p.vars)(al:∀t∈p.b6,vB p.vars [] t)(am:∀t∈p.b6,gB t<=Mx){is ib jb ja q:Nat}{As:List (List (Int×Int))}{x y:Tok}{b0:I}{P:List I}{v:O}(h:JI p v c is ib jb ja ids Z j As B)(a1:j<=40)
  (ro:At v q (.row [b0,.aj x ids.length P,.aj y ids.length ((aat ids.length).map (hb p As))])) (N:tt p As ids.length P) {Q:ab} (an:∀H',Q aZ H') :
  ∀(d k:Nat)(H:O),k+d=p.b6.length->O.Ext v H->au (S.q8 (ag C) (.ak p.cells) (D (p.b6.length:Nat)) (.row ja 0 p.b6.length 1) (.ptr q 0) Q) ([D (k:Nat)],H):=by
 have il:=h.s.il.trans h.n;have hn:=h.n;have a2:=h.n8;have hm:=h.m;have ao:∀H,af H 2 abZ (.ak p.cells)=ab1 (.agg p.cells):=λ_=>eK rfl;have ap:∀o b,aJ o (.ptr b 0)=ab1 (.ptr b (0+o)):=λ_ _=>rfl;intro d;induction d with
 | zero=>
  intro k H hk z;obtain rfl:k=p.b6.length:=by omega
  refine au.step ?_;simp only[ae,S.q8,aq,aX,G,ai,aw,S.FX];rw[hZ];exact oY _ _ (an _)
 | succ d ax=>
  intro k H hk z;obtain⟨A,g⟩:∃A,As[k]?=ab1 A:=⟨_,aav (by omega)⟩
  obtain⟨r,ht⟩:∃r,p.b6[k]?=ab1 r:=⟨_,aav (by omega)⟩
  obtain⟨i,hi⟩:∃i,ids[k]?=ab1 i:=⟨_,aav (by omega)⟩
  have ay:=acK g;have R:=acK ht;have T:=h.s.ok A ay;obtain⟨xs,J,a3,f_⟩:=(h.ext z).l.ra;obtain⟨az,aA,aB⟩:=f_ k A g;obtain⟨_,_,_,_,_,_,a4⟩:=h.s.th k A i g hi;obtain⟨a5,aC,aD⟩:=N.2 k A (by omega) g;have aE:As.getD k []=A:=by simp[aez,g]
  have aF:((aat ids.length).map (hb p As))[k]?=ab1 (D (nx p k A).2.1):=by rw[aau,List.getElem?_range (by omega)];show ab1 (hb p As k)=_;unfold hb;rw[aE]
  obtain⟨a6,aG,aH⟩:=NU (tk:=y) (n:=ids.length) (by simp) aF;obtain⟨a7,aK,aL⟩:=NU (tk:=x) N.1 aC;have aN:aP ab2 1 (.row ja 0 p.b6.length 1) (D (k:Nat))=ab1 (.ptr ja k):=by show(if 0<=(k:Int)/\(k:Int)<(p.b6.length:Nat)then ab1 (I.ptr ja (0+(k:Int).toNat*1))else ab2)=_;rw[aa ⟨by omega,by omega⟩];simp
  have K:∀{H'},At H' ja (.row xs)->af H' 1 ab0 (.ptr ja k)=ab1 az:=λa=>by rw[a.load];unfold bY;rw[cX,aI,aA]
  refine au.step ?_;simp only[ae,S.q8,aq,aX,G,ai];rw[cp];simp only[ao,G,aN,K J];refine NR ar M ad ah ht (al r R) (am r R) T.1 (by have:=T.2;omega) (by obtain⟨tk,e,_⟩:=aB;exact⟨tk,e⟩) (λH' E=>K (J.ext E)) λF u U V=>?_;obtain⟨a8,a9,aO⟩:=V.known;have aR:=NT p k ht As g;generalize jf p.vars 1000001 r A 65536=f at *;have aS:(dT f.want f.fin F f.empty).all I.scalar=abZ:=by unfold dT;rw[acN];show(_&&(abZ&&(F.scalar&&(abZ&&abZ))))=abZ;rw[aO];rfl
  simp only[bx,aQ,aM];have W:=J.ext U;refine⟨trivial,by rw[NS W];exact K W,?_⟩;rw[bU u _ (dT f.want f.fin F f.empty) 16 rfl aS rfl];have aT:=At.new u (.row (dT f.want f.fin F f.empty));have L:=z.trans (U.trans (O.Ext.push u (.row (dT f.want f.fin F f.empty))));have aU:=V.ext (O.Ext.push u (.row (dT f.want f.fin F f.empty)));generalize u.push _=X at *;obtain⟨t0,t13,t14,t15⟩:=Ea aT;have Y:=ro.ext L;have aV:af X 1 ab0 (.ptr q 1)=ab1 (.aj x ids.length P):=by rw[Y.load];rfl
  have aW:af X 1 ab0 (.ptr q 2)=ab1 (.aj y ids.length ((aat ids.length).map (hb p As))):=by rw[Y.load];rfl
  have go:∀{w:O},O.Ext v w->S.q7 (ag C) ([D (k:Nat)],H) (λs=>au (S.q8 (ag C) (.ak p.cells) (D (p.b6.length:Nat)) (.row ja 0 p.b6.length 1) (.ptr q 0) Q) s) Q [av] w:=by intro w aY;simp only[ae,S.q7,aq,ai,abe,cc,aw,S.FW,bu,G];rw[bD,show(k:Int)+1=((k+1:Nat):Int) by omega];exact ax (k+1) w (by omega) aY
  simp only[G,ap,aar,aW,aG,aH,t13,cJ];rcases aR with⟨e1,ac,a0⟩|⟨e1,ac,a0⟩
  . subst e1;rw[ac];simp only[show((0:Int) != 0)=ab0 from rfl,b4,aQ,t15,G,c_,ac1,bR,abe,cc,aw];exact go L
  . subst e1;simp only[bne_self_eq_false,b4,aQ,t15,G,c_,Bool.not_false,bR,aV,aK,aL,t14];refine Yc ar M aD aU (by omega) ?_;simp only[G,c_,ac1,aw];exact go L
variable(lu:∀(H:O)(Q:ab),Q (.aj .dead 0 []) H->ag C 29 [.aj .dead 0 []] H Q)
include lu
theorem finish(q:p.ok)(k:gm p.vars)(r:∀t∈p.b6,vB p.vars [] t)(u:∀t∈p.b6,gB t<=Mx){H:O}{As:List (List (Int×Int))}(h:JI p H c is ib jb ja ids Z j As B)(v:j<=40){Q:ab}(w:∀H',Q aZ H') :
  S.A1 (ag C) (.ak p.cells) (.ptr is 0) (D (p.b6.length:Nat)) (.row jb 0 Z 1) (.row ja 0 p.b6.length 1) Q [] H:=by
 have il:=h.s.il.trans h.n;have hn:=h.n;have J:=h.n8;have K:=h.s.bl;have L:=k.e;have x:∀o b,aJ o (.ptr b 0)=ab1 (.ptr b (0+o)):=λ_ _=>rfl;unfold S.A1;simp only[ae];refine NP ar M lu h.s (by omega) (by omega) λP d f g H1 y A=>?_;simp only[bx,aQ,aM];rw[bU H1 _ [.aj d B.length (BV B),.aj f ids.length P,.aj g ids.length ((aat ids.length).map (hb p As))] 3 rfl rfl rfl];have i:=At.new H1 (.row [.aj d B.length (BV B),.aj f ids.length P,.aj g ids.length ((aat ids.length).map (hb p As))]);have E:=y.trans (O.Ext.push H1 (.row [.aj d B.length (BV B),.aj f ids.length P,.aj g ids.length ((aat ids.length).map (hb p As))]));generalize H1.push _=a at *;have m:=h.ext E;obtain⟨s,hs⟩:=NQ B;have F:af a 1 ab0 (.ptr H1.n 0)=ab1 (.aj d B.length (BV B)):=by rw[i.load];rfl
 have l1:af a 1 ab0 (.ptr H1.n 1)=ab1 (.aj f ids.length P):=by rw[i.load];rfl
 have l2:af a 1 ab0 (.ptr H1.n 2)=ab1 (.aj g ids.length ((aat ids.length).map (hb p As))):=by rw[i.load];rfl
 have s0:abstr a (.aj d B.length (BV B))=ab1 (.str s):=by unfold abstr;simp only[fh];rw[aa (by simp[BV])];show aeM I.str (ly (BV B))=_;rw[hs];rfl
 have s1:abstr a (.row jb 0 Z 1)=ab1 (.str s):=by unfold abstr;simp only[fh,m.l.rb.2];rw[<-h.z,aa (by simp[BV]),acy,acJ (by simp[BV])];show aeM I.str (ly (BV B))=_;rw[hs];rfl
 have eqs:dA .neq (.str s) (.str s)=ab1 (av):=by rw[show dA .neq (.str s) (.str s)=ab1 (.bool (!(s==s)))from rfl];simp
 simp only[ae,G,x,aar,F,s0,s1,eqs,b4,aQ,l1,p3,cJ,il,bne_self_eq_false,aw,S.A0,aq,l2,S.AZ,ai,abe,cc,S.FY];exact Yf ar M oY q k r u m v i A w p.b6.length 0 a (by omega) (O.Ext.refl _)
theorem rounds(a:p.ok)(b:gm p.vars)(f:∀t∈p.b6,vB p.vars [] t)(k:∀t∈p.b6,gz [] t)(g:∀t∈p.b6,gB t<=Mx)(l:jG.length<=9223372036854775807){is ib jb ja:Nat}{ids:List Nat}{Z:Nat}{Q:ab}(i:∀H',Q aZ H') :
  ∀(d j:Nat)(H:O)(c:Nat->Nat)(As:List (List (Int×Int))) (B:List Int),j+d=40->JI p H c is ib jb ja ids Z j As B->au (S.uK (ag C) (aD (i1 .i64) jG) (.ak p.cells) (.ptr is 0) (D (p.b6.length:Nat)) (.row jb 0 Z 1) (.row ja 0 p.b6.length 1) Q) ([D (j:Nat)],H):=by
 intro d;induction d with
 | zero=>
  intro j H c As B m h;refine au.step ?_;have fin:=finish ar M oY lu a b f g h (by omega) i;simp only[ae,S.uK,bP,G,aq,aX,bR,aw,S.uJ,ai];rw[show decide ((j:Int)<40)=ab0 by simp only[decide_eq_false_iff_not];omega];simp only[abe,cc];by_cases e:j<jG.length
  . rw[show decide ((j:Int)<(jG.length:Nat))=abZ by simp only[du];omega];exact fin
  . rw[show decide ((j:Int)<(jG.length:Nat))=ab0 by simp only[decide_eq_false_iff_not];omega];exact fin
 | succ d n=>
  intro j H c As B m h;refine au.step ?_;have fin:=finish ar M oY lu a b f g h (by omega) i;simp only[ae,S.uK,bP,G,aq,aX,bR,aw,S.uJ,ai];rw[show decide ((j:Int)<40)=abZ by simp only[du];omega];simp only[abe,cc,aQ];by_cases e:j<jG.length
  . rw[show decide ((j:Int)<(jG.length:Nat))=abZ by simp only[du];omega];exact round ar M a b f k g l (by omega) e h λH' c' o q r=>n (j+1) H' c' o q (by omega) r
  . rw[show decide ((j:Int)<(jG.length:Nat))=ab0 by simp only[decide_eq_false_iff_not];omega];exact fin
variable(j_:∀x,bX (ag C) 69 [.str x] (.bool (bC x)))
include j_
theorem Yg(j:p.ok)(T:∀t∈p.b6,gB t<=Mx)(V:jG.length<=9223372036854775807){H:O}{Q:ab}(K:∀H',Q aZ H'):S.f3 (ag C) (.agg p.cells) (aD (i1 .i64) jG) H Q:=by
 unfold S.f3;simp only[ae];have W:cg H ab0 2 (.agg p.cells)=ab1 (.ak p.cells,H):=by unfold cg;rw[aa ⟨rfl,rfl⟩];rfl
 have r:∀H,af H 2 abZ (.ak p.cells)=ab1 (.agg p.cells):=λ_=>eK rfl;have X:∀H,af H 1 ab0 (.ak (p.cells.drop 1))=ab1 (aD gN p.b6):=λ_=>rfl;have ac:∀k,aJ k (.ak p.cells)=ab1 (.ak (p.cells.drop k)):=λ_=>rfl;have s:∀o b,aJ o (.ptr b 0)=ab1 (.ptr b (0+o)):=λ_ _=>rfl;simp only[W,aM,r,G];refine X9 ar M j_ j (λhf H1 ad=>?_) (λhf is ib ids c H1 ad aI ah=>?_)
 . simp only[bL,acn,aco,G,bx,aQ,aM];rw[show oI (dz bC p)=I2 (dz bC p).1 (dz bC p).2 from rfl,tg];have a2:=At.new H1 (.row [D (dz bC p).1,D (dz bC p).2]);generalize H1.push _=g at *;simp only[G,r];refine NJ ar M p j _ _ ?_;rw[show oI (dz bC p)=I2 (dz bC p).1 (dz bC p).2 from rfl,tg];have a3:=a2.push (.row [D (dz bC p).1,D (dz bC p).2]);have b3:=At.new g (.row [D (dz bC p).1,D (dz bC p).2]);generalize g.push _=h at *;have u:af h 1 ab0 (.ptr g.n 1)=ab1 (D (dz bC p).2):=by rw[b3.load];rfl
   simp only[G,s,aar,u,cJ,ai];rw[aa (by simpa using hf)];refine oY _ _ ?_;have v:∀a b:Int,ih ab0 [.n,.n] (I2 a b) (I2 a b)=ab1 (aZ):=λa b=>by simp[ih,dZ]
   simp only[bR,aQ,tj a3,tj b3,G,v,aw,S.AP,aq];rw[show hh .p ab0 .ga=ab1 (aZ)from rfl];simp only[G];exact K _
 . obtain ⟨w,al⟩:=NL j hf;obtain⟨aK,am⟩:=LF bC hf;have L:p.b6.length<=8:=by
    unfold dz at hf;split at hf
    ·cases hf
    ·omega
   have aL:=w.e;have aN:0<=dw 0 p.vars:=qp w.z;simp only[bL,acn,aco,G,bx,aQ,aM];rw[tg];have a2:=At.new H1 (.row [J,J]);have an:=O.Ext.push H1 (.row [J,J]);generalize H1.push _=g at *;simp only[G,r];refine NJ ar M p j _ _ ?_;rw[show oI (dz bC p)=I2 (dz bC p).1 (dz bC p).2 from rfl,tg];have a3:=a2.push (.row [D (dz bC p).1,D (dz bC p).2]);have b3:=At.new g (.row [D (dz bC p).1,D (dz bC p).2]);have ao:=an.trans (O.Ext.push g (.row [D (dz bC p).1,D (dz bC p).2]));generalize g.push _=h at *;have u:af h 1 ab0 (.ptr g.n 1)=ab1 (D (dz bC p).2):=by rw[b3.load];rfl
   have ap:af h 1 ab0 (.ptr H1.n 1)=ab1 (J):=by rw[a3.load];rfl
   simp only[G,s,aar,u,hf,cJ,bne_self_eq_false,ai,abe,cc,ap,b4,aQ];rw[show hh .p ab0 (.ptr is 0)=ab1 (av)from rfl];simp only[ae,G,aw,S.A2,aq,ai,abe,cc,S.FZ,ac,X,bP];have x:(Gd p.b6.length ([]:List (Int×Int))).length<=8:=by rw[aeI];exact L
   have y:=ah.ext ao x;refine NP ar M lu y x (by rw[aeI];omega) λP m B E l au aO=>?_;simp only[bx,aQ,aM];generalize aP:(dw 0 p.vars).toNat=Z at *;generalize (aat ids.length).map (hb p (Gd p.b6.length []))=F at *;rw[bU l _ [.aj m (Gd Z (0:Int)).length (BV (Gd Z 0)),.aj B ids.length P,.aj E ids.length F] 3 rfl rfl rfl];have ax:=At.new l (.row [.aj m (Gd Z (0:Int)).length (BV (Gd Z 0)),.aj B ids.length P,.aj E ids.length F]);have N:=au.trans (O.Ext.push l (.row [.aj m (Gd Z (0:Int)).length (BV (Gd Z 0)),.aj B ids.length P,.aj E ids.length F]));generalize l.push _=d at *;have ay:af d 1 ab0 (.ptr l.n 0)=ab1 (.aj m (Gd Z (0:Int)).length (BV (Gd Z 0))):=by rw[ax.load];rfl
   simp only[G,s,aar,ay,p3,aeI];have az:hp d abZ 1 1 [.int .u8 0] (D (Z:Nat)) (D (Z:Nat))=ab1 (.row d.n 0 Z 1,d.push (.row (BV (Gd Z 0)))):=by simp only[hp];rw[aa ⟨by omega,by omega,by omega,by omega,rfl⟩,aa trivial,adF,D_]
   rw[az];simp only[aM];have aA:=At.new d (.row (BV (Gd Z 0)));have aB:=N.trans (O.Ext.push d (.row (BV (Gd Z 0))));have n6:(d.push (.row (BV (Gd Z 0)))).n=d.n+1:=rfl;generalize d.push _=f at *;have aC:hp f abZ 1 24 [Y] (D (p.b6.length:Nat)) (D (p.b6.length:Nat))=ab1 (.row f.n 0 p.b6.length 1,f.push (.row (Gd p.b6.length Y))):=by simp only[hp];rw[aa ⟨by omega,by omega,by omega,by omega,rfl⟩,aa trivial,adF,List.flatten_replicate_singleton]
   rw[aC];simp only[aM];have aE:=aA.push (.row (Gd p.b6.length Y));have a7:=At.new f (.row (Gd p.b6.length Y));have aF:=aB.trans (O.Ext.push f (.row (Gd p.b6.length Y)));have aR:(f.push (.row (Gd p.b6.length Y))).n=f.n+1:=rfl;generalize f.push _=aG at *;have aS:h.n<=d.n:=N.1;have aH:∀i,i<h.n->gJ (gJ c d.n 3) f.n 4 i=c i:=λi hi=>by rw[hH _ (by omega),hH _ (by omega)]
   refine rounds ar M oY lu j w al am T V K 40 0 aG (gJ (gJ c d.n 3) f.n 4) _ (Gd Z 0) rfl ⟨y.fc (S:=λ_=>False) (Fc.ext aF) (λ_ _ q=>q.elim) aH (λi hi=>?_) x,⟨aE,by rw[hH _ (by omega),nL],⟨_,a7,by simp,λk A I=>?_⟩,nL _ _ _⟩,aeI,aeI,L,λA I=>?_⟩
   . by_cases e1:i=f.n
     ·omega
     . rw [hH _ e1]at hi;by_cases v:i=d.n
       ·omega
       . rw[hH _ v]at hi;have:=y.bd i hi;omega
   . obtain⟨U,R⟩:=ZF.1 I;rw[aeI]at U;rw[List.getElem_replicate]at R;subst R;exact⟨Y,by rw[List.getElem?_replicate,aa U],.nil,rfl,.inl ⟨rfl,rfl⟩⟩
   . rw[(aeJ.1 I).2];exact hT _
end
end Rb
namespace Rb
open Go
mutual
theorem Yh:∀e:N,kG e<=eb e.cells
 | .mk kind n name op aB place aY=>by have U:=Yi place;have a:=zA aY;simp only[kG,N.cells,eb,j4,mJ];omega
theorem zA:∀l:List N,gH l<=eb (N.all l)
 |[]=>by simp[gH,N.all,eb]
 | e::r=>by have U:=Yh e;have a:=zA r;simp only[gH,N.all,mJ];omega
theorem Yi:∀x:aR,kg x<=eb x.cells
 | .mk var aE=>by have U:=Eb aE;simp only[kg,aR.cells,eb,j4];omega
theorem Eb:∀l:List aO,kh l<=eb (aO.all l)
 |[]=>by simp[kh,aO.all,eb]
 | e::r=>by have U:=Yj e;have a:=Eb r;simp only[kh,aO.all,mJ];omega
theorem Yj:∀x:aO,nF x<=eb x.cells
 | .mk field aV=>by have U:=zA aV;simp only[nF,aO.cells,eb,j4];omega
end
theorem Yk(x:aR):kg x+2<=eb x.cells:=by
 cases x with
 | mk var aE=>have U:=Eb aE;simp only[kg,aR.cells,eb,j4];omega
mutual
theorem Yl:∀x:ax,nG x<=eb x.cells
 | .mk kind X name bW aB place aC aK bB=>by have U:=Yk place;have a:=zA aC;have b:=zB aK;have c:=zB bB;rw[N.all_eq]at a;simp only[nG,ax.cells,aD,eb,j4,mJ];omega
theorem zB:∀l:List ax,gB l<=eb (ax.all l)
 |[]=>by simp[gB,ax.all,eb]
 | e::r=>by have U:=Yl e;have a:=zB r;simp only[gB,ax.all,mJ];omega
end
theorem NV{α:Type}{cells:α->List I}{x:α}:∀{l:List α},x∈l->eb (cells x)<=eb (l.flatMap cells)
 | y :: r,h=>by
  rw[List.flatMap_cons,mJ];rcases abG.1 h with e|e
  ·rw[e];omega
  . have:=NV (cells:=cells) e;omega
theorem Ym{p:dy}{t:List ax}(h:t∈p.b6):gB t<=eb p.cells:=by have U:=zB t;have a:=NV (cells:=gN) h;rw[ax.all_eq]at U;simp only[dy.cells,aD,eb,j4]at a ⊢;simp only[gN,aD,eb,j4]at a;omega
end Rb
namespace Rb
open Go Go.RowKit
variable{w R:World}{G:ch}{F:el}{H:O}
theorem NW{b o:Nat}{V:Value}(h:w.cell? ⟨b,o,ab2⟩=ab1 V):b<w.heap.size:=by
 unfold World.cell? at h;split at h
 . rename_i a;exact(aao.1 a).1
 ·cases h
theorem NX(a:Below w.heap.size w R):GLe w G R G:=⟨hT _,λ_ _=>rfl,λ_ _=>rfl,λ_ _ h=>h,λb o V _ hc=>by rw[a.cell (p:=⟨b,o,ab2⟩) (NW hc)];exact hc⟩
theorem Yn(b:Below w.heap.size w R){i:Nat}{x:c0}(h:hd F w G i x):hd F R G i x:=by
 have g:=NX (G:=G) b;cases x with
 | row cs=>obtain⟨c,e,U,a,d,f⟩:=h;refine⟨c,e,by rw[b.block _ (aao.1 U).1];exact U,a,d,λj c l=>?_⟩;obtain⟨V,m,n⟩:=f j c l;exact⟨V,m,n.mono g⟩
 | tok k sz=>obtain⟨c,e,U,a,d,f⟩:=h;exact⟨c,e,by rw[b.block _ (aao.1 U).1];exact U,a,d,f⟩
 | hX s pos=>obtain⟨U,a⟩:=h;exact⟨by rw[b.block _ (aao.1 U).1];exact U,a⟩
 |gone=>trivial
theorem Yo(a:Below w.heap.size w R)(h:Rel F w G H):Rel F R G H:=
 ⟨h.n,h.over,λi=>Yn a (h.obj i),h.hJ,λb o hf=>by obtain⟨V,c⟩:=h.ig b o hf;exact⟨V,by rw[a.cell (p:=⟨b,o,ab2⟩) (NW c)];exact c⟩⟩
theorem Yp(a:Below w.heap.size w R)(b:w.drawn<=R.drawn)(h:Rel F w G H):Step w G H R G H:=
 { NX a with
   size:=a.size
   os:=a.os
   tape:=a.tape
   output:=a.output
   dr:=b
   eN:=λk hk _=>a.block k hk
   owned:=λi hl _=>⟨i,hl,rfl⟩
   hg:=λ_ _ hf=> .inl hf}
end Rb
namespace Rb
open Go
theorem NY{P:Program}{w:World}{t:TypeId}{d:TypeDesc}(b:P.underlying t=ab1 d)(hk:m9 d=ab1 .s)(a:Option Addr)(l c:Nat) :
  Sem.run P (binOp .eql t (.slice a l c) (.slice ab2 0 0)) w = .ok (.bool a.isNone) w:=by
 have key:∀n,(ZU (n+1) t (.slice a l c) (.slice ab2 0 0)).run P w = .ok a.isNone w:=by intro n;cases d<;>simp only[m9,ZW.injEq,reduceCtorEq]at hk;cases a<;>(unfold ZU;simp[run_underlying b])
 have e:binOp .eql t (.slice a l c) (.slice ab2 0 0)=(do pure (.bool (<-Op.equal t (.slice a l c) (.slice ab2 0 0)))):=rfl;rw[e];have:(Op.equal t (.slice a l c) (.slice ab2 0 0)).run P w = .ok a.isNone w:=key 9999;simp[this]
end Rb
namespace Go.Proofs.YtljcbckaokhjaaaGreatDoor.rb
open Rb Go.RowKit
set_option maxRecDepth 100000 in
theorem Yq(a:Option Addr)(cap:Nat)(w:World):Calls Tryz.prog 29 #[.slice a 0 cap] w λe R=>∃b c,e = .returned (.slice b 0 c)/\Below w.heap.size w R/\w.drawn<=R.drawn:=by
 cases a with
 | none=>
  go_enter Tryz.func29,Tryz.ntmps29
  go_wp2
  rw[NY Tryz.underlying53 (by kernel_rfl)];simp only[abf];rw[aeN]
  go_wp2
  go_ret
  exact⟨_,_,rfl,Below.refl _ _,hT _⟩
 | some a=>
  go_enter Tryz.func29,Tryz.ntmps29
  go_wp2
  rw[NY Tryz.underlying53 (by kernel_rfl)];simp only[abf];rw[aeN]
  go_wp2
  go_ret
  exact⟨_,_,rfl,(Below.refl _ w).alloc (hT _) _,hT _⟩
theorem Yr(H:O)(Q:ab)(c:Q (.aj .dead 0 []) H):ag C 29 [.aj .dead 0 []] H Q:=by
 refine⟨⟨_,_,c⟩,λf hf G w Vs n d j=>?_⟩;obtain rfl:f=29:=by
  have:C.F 29=ab1 29:=by kernel_rfl
  rw[this]at hf;exact(ZW.inj hf).symm
 obtain⟨hl,hv⟩:=j;obtain⟨k⟩:=Vs
 match k,hl with
 | [g],_=>
  have l:=hv 0 _ g rfl rfl;have U:∃a cap,g = .slice a 0 cap:=by
   cases l with
   |gp a cap=>exact⟨a,cap,rfl⟩
   |aj _ _ _ b o cap p q hle h hv=>exact⟨_,cap,rfl⟩
  obtain⟨a,cap,rfl⟩:=U;refine(Yq a cap w).mono λe R ⟨r,s,he,i,m⟩=>?_;exact⟨_,_,H,G,he,c,.gp _ _,Yo i d,Yp i m d⟩
open Rb
theorem Ys:bX (ag C) 6 [] (.bool abZ):=λH Q a=>Qm 6 [] (.bool abZ) rfl H Q a
theorem Yt(H:O)(Q:ab)(a:Q (.aj .dead 34 (iL.map .str)) H):ag C 91 [.str D0] H Q:=AO 91 [.str D0] _ (by kernel_rfl) H Q a
theorem Yu(s:List UInt8):bX (ag C) 69 [.str s] (.bool (bC s)):=XE mE BW Yt s
theorem srcSteps.any(p:dy)(a:p.ok)(b:eb p.cells<=1048576)(ps:List Int)(hl:ps.length<=maxLen)(_:∀x∈ps,acB .i64<=x/\x<=acC .i64):ag C 3 [.agg p.cells,aD (i1 .i64) ps] O.mt (λv _=>v = .bool abZ):=S.Qq BW (Yg mE BW Ys Yr Yu a (λt ht=>h1 (h1 (Ym ht) b) (by decide)) (by rw[<-la];exact hl) λ_=>rfl)
open Rb Go.ChangeShapes Go.WideShapes Go.ChangeAt Go.RowKit
variable{W:World}
theorem own:ownKnob Tryz.prog.godebug=ab2:=by kernel_rfl
theorem laidOut:laidOutB Tryz.prog=abZ:=by kernel_rfl
theorem NZ:Tryz.prog.cellsOf 5=1:=by kernel_rfl
def m6:List (String×DataW Unit):=Rows.srcStepsRow.laid
theorem Ec : Tryz.prog.globalNamed "strings.asciiSpace" = some 0 := by kernel_rfl
theorem Yv:(Tryz.prog.globals[0]?).map (·.type)=ab1 206:=by kernel_rfl
theorem Yw:Tryz.prog.cellsOf 206=256:=by kernel_rfl
theorem Yx:(Rows.laid_strings_asciiSpace:DataW Unit)=aeO .u8 Go.Lib.asciiSpaceTab:=by kernel_rfl
theorem Yy : (("strings.asciiSpace", Go.Lib.tabData .u8 Go.Lib.asciiSpaceTab) : String × DataW Unit) ∈ m6 := by
 rw[<-Yx];exact .tail _ (.tail _ (.tail _ (.tail _ (.tail _ (.tail _ (.head _))))))
set_option maxRecDepth 100000 in
theorem N0(h : laidMet Tryz.prog m6 W) : Go.Lib.TabIs Tryz.prog W "strings.asciiSpace" .u8 Go.Lib.asciiSpaceTab := by
 obtain⟨g',e,cs,fuel,p,a,b,c,d⟩:=Go.Lib.laidMet.reads h Yy;obtain rfl:=ZW.inj (Ec.symm.trans a);obtain rfl:=ZW.inj (Yv.symm.trans b);unfold aeP;rw[c,<-aeQ Tryz.underlying206 Tryz.underlying5 NZ Yw d]
theorem Ed : Tryz.prog.globalNamed "internal/strconv.uint64pow10" = some 5 := by kernel_rfl
theorem Yz:(Tryz.prog.globals[5]?).map (·.type)=ab1 312:=by kernel_rfl
theorem YA:Tryz.prog.cellsOf 312=20:=by kernel_rfl
theorem YB:(Rows.laid_internal_strconv_uint64pow10:DataW Unit)=aeO .u64 q2:=by kernel_rfl
theorem YC : (("internal/strconv.uint64pow10", Go.Lib.tabData .u64 q2) : String × DataW Unit) ∈ m6 := by
 rw[<-YB];exact .tail _ (.tail _ (.head _))
set_option maxRecDepth 100000 in
theorem N1(h : laidMet Tryz.prog m6 W) : Go.Lib.TabIs Tryz.prog W "internal/strconv.uint64pow10" .u64 q2 := by
 obtain⟨g',e,cs,fuel,p,a,b,c,d⟩:=Go.Lib.laidMet.reads h YC;obtain rfl:=ZW.inj (Ed.symm.trans a);obtain rfl:=ZW.inj (Yz.symm.trans b);unfold aeP;rw[c,<-aeQ Tryz.underlying312 Tryz.underlying12 (by kernel_rfl) YA d]
theorem Ee : Tryz.prog.globalNamed "math/bits.deBruijn64tab" = some 7 := by kernel_rfl
theorem YD:(Tryz.prog.globals[7]?).map (·.type)=ab1 317:=by kernel_rfl
theorem YE:Tryz.prog.cellsOf 317=64:=by kernel_rfl
theorem YF:(Rows.laid_math_bits_deBruijn64tab:DataW Unit)=aeO .u8 qT:=by kernel_rfl
theorem YG : (("math/bits.deBruijn64tab", Go.Lib.tabData .u8 qT) : String × DataW Unit) ∈ m6 := by
 rw[<-YF];exact .tail _ (.head _)
set_option maxRecDepth 100000 in
theorem N2(h : laidMet Tryz.prog m6 W) : Go.Lib.TabIs Tryz.prog W "math/bits.deBruijn64tab" .u8 qT := by
 obtain⟨g',e,cs,fuel,p,a,b,c,d⟩:=Go.Lib.laidMet.reads h YG;obtain rfl:=ZW.inj (Ee.symm.trans a);obtain rfl:=ZW.inj (YD.symm.trans b);unfold aeP;rw[c,<-aeQ Tryz.underlying317 Tryz.underlying5 NZ YE d]
theorem YH(h:laidMet Tryz.prog m6 W):kV C W (ch.mt (k5 W)):=by
 intro g l a;change gt g=ab1 l at a;unfold gt at a;split at a
 . rename_i e;subst e;cases a;rw[SC];exact BX λi hi=>(N0 h).cell Ec i hi
 . split at a
   . rename_i e;subst e;cases a;rw[(show FN=q2.map (I.int .u64)from rfl)];exact BX λi hi=>(N1 h).cell Ed i hi
   . split at a
     . rename_i e;subst e;cases a;rw[(show E7=qT.map (I.int .u8)from rfl)];exact BX λi hi=>(N2 h).cell Ee i hi
     ·cases a
theorem pk(h:laidMet Tryz.prog m6 W):fa C W (ch.mt (k5 W)) O.mt:=by
 refine⟨YH h,λg l a _=>⟨?_,λi hi=>by cases hi⟩⟩;change gt g=ab1 l at a;unfold gt at a;split at a
 . rename_i e;subst e;cases a;obtain⟨cs,t,fr,U,b⟩:=BZ Ec (N0 h);exact⟨cs,t,fr,U,b.trans (by kernel_rfl)⟩
 . split at a
   . rename_i e;subst e;cases a;obtain⟨cs,t,fr,U,b⟩:=BZ Ed (N1 h);exact⟨cs,t,fr,U,b.trans (by kernel_rfl)⟩
   . split at a
     . rename_i e;subst e;cases a;obtain⟨cs,t,fr,U,b⟩:=BZ Ee (N2 h);exact⟨cs,t,fr,U,b.trans (by kernel_rfl)⟩
     ·cases a
abbrev b:Go.Value:= .int .u8 0
abbrev cd(n:Int):Go.Value:= .int .u8 n
def Ef(a:Os):World:=
 let N:=(World.settled Tryz.prog a).heap.size;let w0:=World.holding Tryz.prog a ⟨#[.cells #[.string ⟨#[118,97,108,117,101,32,111,117,116,32,111,102,32,114,97,110,103,101]⟩] 303,.cells #[.string ⟨#[105,110,118,97,108,105,100,32,115,121,110,116,97,120]⟩] 303,.cells #[.int .u16 9,.int .u16 13,.int .u16 1,.int .u16 32,.int .u16 133,.int .u16 101,.int .u16 160,.int .u16 5760,.int .u16 5600,.int .u16 8192,.int .u16 8202,.int .u16 1,.int .u16 8232,.int .u16 8233,.int .u16 1,.int .u16 8239,.int .u16 8287,.int .u16 48,.int .u16 12288,.int .u16 12288,.int .u16 1] 271,.cells #[.slice (ab1 ⟨N+2,0,ab2⟩) 7 7,.slice ab2 0 0,.int .i64 2] 268],#[],[]⟩;let put (h:Array Obj) (g:Nat) (cs:Array Value):Array Obj:=h.modify g λ
  | .cells _ t frozen=> .cells cs t frozen
  |o=>o
 {w0 with heap:=put (put (put (put (put (put (put (w0.heap) 6 #[b,cd 1,cd 28,cd 2,cd 29,cd 14,cd 24,cd 3,cd 30,cd 22,cd 20,cd 15,cd 25,cd 17,cd 4,cd 8,cd 31,cd 27,cd 13,cd 23,cd 21,cd 19,cd 16,cd 7,cd 26,cd 12,cd 18,cd 6,cd 11,cd 5,cd 10,cd 9]) 7 #[b,cd 1,cd 56,cd 2,cd 57,cd 49,cd 28,cd 3,cd 61,cd 58,cd 42,cd 50,cd 38,cd 29,cd 17,cd 4,cd 62,cd 47,cd 59,cd 36,cd 45,cd 43,cd 51,cd 22,cd 53,cd 39,cd 33,cd 30,cd 24,cd 18,cd 12,cd 5,cd 63,cd 55,cd 48,cd 27,cd 60,cd 41,cd 37,cd 16,cd 46,cd 35,cd 44,cd 21,cd 52,cd 32,cd 23,cd 11,cd 54,cd 26,cd 40,cd 15,cd 34,cd 20,cd 31,cd 10,cd 25,cd 14,cd 19,cd 9,cd 13,cd 8,cd 7,cd 6]) 5 #[.int .u64 1,.int .u64 10,.int .u64 100,.int .u64 1000,.int .u64 10000,.int .u64 100000,.int .u64 1000000,.int .u64 10000000,.int .u64 100000000,.int .u64 1000000000,.int .u64 10000000000,.int .u64 100000000000,.int .u64 1000000000000,.int .u64 10000000000000,.int .u64 100000000000000,.int .u64 1000000000000000,.int .u64 10000000000000000,.int .u64 100000000000000000,.int .u64 1000000000000000000,.int .u64 10000000000000000000]) 3 #[.iface 301 (.pointer (ab1 ⟨N+0,0,ab2⟩))]) 2 #[.iface 301 (.pointer (ab1 ⟨N+1,0,ab2⟩))]) 1 #[.pointer (ab1 ⟨N+3,0,ab2⟩)]) 0 #[b,b,b,b,b,b,b,b,b,cd 1,cd 1,cd 1,cd 1,cd 1,b,b,b,b,b,b,b,b,b,b,b,b,b,b,b,b,b,b,cd 1,b,b,b,b,b,b,b,b,b,b,b,b,b,b,b,b,b,b,b,b,b,b,b,b,b,b,b,b,b,b,b,b,b,b,b,b,b,b,b,b,b,b,b,b,b,b,b,b,b,b,b,b,b,b,b,b,b,b,b,b,b,b,b,b,b,b,b,b,b,b,b,b,b,b,b,b,b,b,b,b,b,b,b,b,b,b,b,b,b,b,b,b,b,b,b,b,b,b,b,b,b,b,b,b,b,b,b,b,b,b,b,b,b,b,b,b,b,b,b,b,b,b,b,b,b,b,b,b,b,b,b,b,b,b,b,b,b,b,b,b,b,b,b,b,b,b,b,b,b,b,b,b,b,b,b,b,b,b,b,b,b,b,b,b,b,b,b,b,b,b,b,b,b,b,b,b,b,b,b,b,b,b,b,b,b,b,b,b,b,b,b,b,b,b,b,b,b,b,b,b,b,b,b,b,b,b,b,b,b,b,b,b,b,b,b,b,b,b,b,b,b,b,b]}
theorem YI(a:Os)(b:Array Value):laidMet Tryz.prog m6 ((Ef a).forCall (λ_ _=>0) ⟨#[],b,[]⟩).memory:=laidMet_of_run3 10 (by kernel_rfl) (by kernel_rfl) (by kernel_rfl)
end Go.Proofs.YtljcbckaokhjaaaGreatDoor.rb
namespace Go.Proofs.YtljcbckaokhjaaaGreatDoor.rb
open Rb
variable{H:Type}{enc:TypeId×Value->H}{w:World}{sp:Nat->Bool}{held:Bool}{F:el}
theorem YJ:∃fT fF,JN Tryz.prog 3 4 9 77 166 75 74 fT fF:=⟨_,_,Tryz.underlying3,Tryz.underlying4,Tryz.underlying9,Tryz.underlying77,Tryz.underlying166,Tryz.underlying75,Tryz.underlying74,rfl,rfl,by kernel_rfl,by kernel_rfl,λt ht=>by simp only[abG,aeR,or_false]at ht;rcases ht with rfl|rfl|rfl|rfl|rfl<;>kernel_rfl⟩
theorem YK(n:Nat):bV F enc Tryz.prog w sp held n 77 ay.cells ay.ok:=let ⟨_,_,h⟩:=YJ;SJ h n
theorem YL:∃fE fL fR,B0 Tryz.prog 3 45 9 148 104 171 130 102 fE fL fR:=⟨_,_,_,Tryz.underlying3,Tryz.underlying45,Tryz.underlying9,Tryz.underlying148,Tryz.underlying104,Tryz.underlying171,Tryz.underlying130,Tryz.underlying102,rfl,rfl,rfl,by kernel_rfl,by kernel_rfl,by kernel_rfl,λt ht=>by simp only[abG,aeR,or_false]at ht;rcases ht with rfl|rfl|rfl|rfl|rfl<;>kernel_rfl⟩
theorem YM(n:Nat):bV F enc Tryz.prog w sp held n 79 aA.cells aA.ok:=SM Tryz.underlying9 (by kernel_rfl) (by kernel_rfl) YK Tryz.underlying79 rfl (by kernel_rfl) n
theorem YN(n:Nat):bV F enc Tryz.prog w sp held n 132 ax.cells ax.ok:=let ⟨_,_,_,h⟩:=YL;SN h Tryz.underlying132 Tryz.underlying86 rfl (by kernel_rfl) (by kernel_rfl) n
theorem YO(n:Nat):bV F enc Tryz.prog w sp held n 25 dy.cells dy.ok:=SO YM YN Tryz.underlying22 Tryz.underlying86 Tryz.underlying23 (by kernel_rfl) (by kernel_rfl) (by kernel_rfl) (by kernel_rfl) (by kernel_rfl) Tryz.underlying25 rfl (by kernel_rfl) n
end Go.Proofs.YtljcbckaokhjaaaGreatDoor.rb
namespace Go.Proofs.YtljcbckaokhjaaaGreatDoor.rb
open Rb
variable{H:Type}{enc:TypeId×Value->H}{w:World}{sp:Nat->Bool}{held:Bool}{F:el}
theorem YP(n:Nat):bV F enc Tryz.prog w sp held n 26 (λxs:List Int=>[aD (i1 .i64) xs]) (λxs=>xs.length<=maxLen/\∀x∈xs,acB .i64<=x/\x<=acC .i64):=bV.mono (bV.slice Tryz.underlying26 (sz:=1) (by kernel_rfl) (by decide) (λ_=>rfl) (bV.int Tryz.underlying3)) (Nat.le_succ n)
end Go.Proofs.YtljcbckaokhjaaaGreatDoor.rb
end
