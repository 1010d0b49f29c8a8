/- A part of the proof (part 5): see the last text. -/
import Derived.Test.YteakojhgmhmdkaaGreatDoorRb4
import Derived.Test.YteakojhgmhmdkaaGreatDoorRb1
import Derived.RangeFuncBox
import Derived.RangeFuncCalls
import Derived.RangeFuncNested
import Derived.Test.YteakojhgmhmdkaaGreatDoorRb2
import Derived.Test.YteakojhgmhmdkaaGreatDoorRb3
import Derived.Test.YteakojhgmhmdkaaGreatDoorRows
import Derived.KernelRfl
import Derived.WalkKit
import Derived.OwnWalkIn
import Derived.TacticsInMore
import Derived.LoopNIn
import Derived.LoopIn
import Derived.RangeFuncLeaves
import Derived.RangeFuncBound
import Derived.BigRegionIn
import Derived.Shelf.SlSortCmp.NoneTotal
import Derived.Sort.Grow
import Derived.Deep.Draws
set_option linter.unusedVariables false
set_option linter.unusedSimpArgs false
set_option linter.unusedSectionVars false
open Array renaming getD_eq_getD_getElem?→Zh, getElem?_append_left→ads, getElem?_eq_getElem→X2, getElem?_eq_some_iff→YL, getElem?_mapIdx→adr, getElem?_modify→YQ
open Bool renaming and_eq_true→X7, and_false→acZ, and_true→acs, false_and→acY, false_eq_true→ZV, false_or→aai, not_true→ab2, or_eq_true→X8, true_and→abh, true_eq_false→ab0, true_or→ac0
open Go.Callee renaming value→adb
open Go.Code renaming region→ada, rounds→ac9, wp→ac_
open Go.Exit renaming normal→adm
open Go.Fence renaming inRound→adj, wide→ac5
open Go.Ground renaming data→adf
open Go.IntKind renaming wrap→Zb
open Go.Op renaming defer→adk
open Go.Oper renaming uponIn→adi, upon→adh, wpIn→adl, wp→Z8
open Go.Operand renaming tmp→ade
open Go.Region renaming ready→aaF, wanted→aau
open Go.Sort renaming ahead→adq
open Go.World renaming alloc_heap_new→ac7, block_lt_of_cell?→YK, cell?_of_block→YJ, cell?→abw, putObj_heap_other→ac4, putObj_heap_same→ac8
open Int renaming le_refl→ach, mul_le_mul_of_nonneg_right→adp, mul_nonneg→acn, toNat_natCast→Zc
open List renaming append_assoc→acI, append_nil→abQ, cons_append→ZY, drop_eq_getElem_cons→abK, drop_of_length_le→ac3, drop_succ_cons→aa2, drop_zero→abz, eq_nil_of_length_eq_zero→acN, exists_cons_of_length_eq_add_one→adg, flatMap_append→acH, flatMap_cons→abk, flatMap_singleton→acT, foldl_cons→YB, getD_eq_getElem?_getD→Zm, getElem?_append_right→ZF, getElem?_append→Yq, getElem?_cons_succ→abq, getElem?_cons_zero→abp, getElem?_eq_getElem→YU, getElem?_eq_some_iff→X1, getElem?_map→YT, getElem?_replicate→aaJ, getElem?_toArray→YY, length_append→abI, length_cons→abJ, length_eq_one_iff→ab5, length_eq_zero_iff→Zo, length_map→aaz, length_take→ab3, length→acL, map_append→acA, map_map→aaU, mem_append_left→acU, mem_append→aag, mem_cons_of_mem→aao, mem_cons_self→aap, mem_cons→aan, mem_of_getElem?→aaN, mem_singleton→acR, nil_append→acD, range'_succ→ac1, range'→ZP, range→YS, replicate→XY, set_append→ac2, take_add_one→abR, take_append_drop→acP, take_append_of_le_length→abL, take_of_length_le→abM, take→ado
open Nat renaming add_comm→abH, add_zero→YD, le_add_right→adn, le_refl→sl, le_succ→YH, le_trans→xl, lt_irrefl→acS, lt_of_lt_of_le→AH, lt_succ_self→aaP, mul_one→acu, ne_of_lt→YM, one_pos→acV, sub_self→acG, zero_add→YO, zero_le→Yz
open Option renaming map_some→Yi, some→Yh
open Prod renaming ext→acX, fst→abm, snd→acW
namespace Rb
open Go
theorem BO{tk:Tok}{l:List (Int×Int)}{i:Nat}{p:Int×Int}(h:l[i]?=some p)(H:Z):∃a,aO none 2 (.aq tk l.length (l.flatMap eo)) (.int .i64 i)=some a∧O H 2 true a=some (.agg (eo p)):=⟨_,cK (cells:=eo) (X1.1 h).1,dz (cells:=eo) (λ_=>rfl) (by decide) H h⟩
theorem Left.ext{n0:Nat}{H0 H H':Z}(hn:H0.n=n0)(E:Z.Ext H0 H)(lf:Left n0 H H'):Z.Ext H0 H':=⟨xl E.1 lf.1,λi hi=>((lf.2 i (H.o i) ⟨AH hi E.1,rfl⟩ (.inl (by omega))).2).trans (E.2 i hi)⟩
def dc(s:bp)(b al:Int):List I:=s.cells++[.int .i64 b,.int .i64 al]
section
variable{s:bp}{b al:Int}
theorem BP(H:Z):aK H false 8 (.agg (dc s b al))=some (.af (dc s b al),H):=rfl
theorem xx:W 0 (.af (dc s b al))=some (.af (dc s b al)):=rfl
theorem TI(H:Z):O H 1 false (.af (dc s b al))=some (.int .i64 s.at_):=rfl
theorem TJ(H:Z):O H 2 true (.af (dc s b al))=some (.agg [.int .i64 s.at_,.int .i64 s.len]):=rfl
theorem JA(H:Z):O H 8 true (.af (dc s b al))=some (.agg (dc s b al)):=rfl
theorem TK(H:Z):∃p,W 1 (.af (dc s b al))=some p∧∀H:Z,O H 1 false p=some (.int .i64 s.len):=⟨_,rfl,λ_=>rfl⟩
theorem TL(H:Z):∃p,W 6 (.af (dc s b al))=some p∧∀H:Z,O H 1 false p=some (.int .i64 b):=⟨_,rfl,λ_=>rfl⟩
theorem TM(H:Z):∃p,W 7 (.af (dc s b al))=some p∧∀H:Z,O H 1 false p=some (.int .i64 al):=⟨_,rfl,λ_=>rfl⟩
end
section
variable{C:Ctx}(ak:bP C)(hT:Cl (ai C) S.bu){H:Z}{Q:ad}
include ak hT
theorem JB{s:bp}{b al:Int}(J:P2 al)(hl:s.len≤16)(hQ:∀l x H',Z.Ext H H'→Jz x l→(∀p∈l,P8 p.2)→l.length≤16→Q x H'):ai C 198 [.agg (dc s b al)] H Q:=by
 refine S.Qw hT ?_;unfold S.f198;obtain⟨V,f1,g1⟩:=TK (s:=s) (b:=b) (al:=al) H;obtain⟨X,f6,g6⟩:=TL (s:=s) (b:=b) (al:=al) H;obtain⟨Y,f7,g7⟩:=TM (s:=s) (b:=b) (al:=al) H;simp only[BP,aP,f6,g6,D,cJ,aB,xx,TJ];apply aF<;>intro _
 · refine TG ak hT hl λl x H1 K o hp hc=>?_;obtain⟨tk,rfl⟩:=o;simp only[show bo false (.aq tk l.length (l.flatMap eo))=some (.int .i64 l.length)from rfl,D];have main:∀(r:List (Int×Int)) (i:Nat) (H2:Z) (y:I) (d:List (Int×Int)),l.drop i=r→d.length=i→i≤l.length→Z.Ext H H2→cC H.n H2 2 y d.length (d.flatMap eo)→(∀p∈d,P8 p.2) →
     aA (S.v7 (ai C) (.af (dc s b al)) (.aq tk l.length (l.flatMap eo)) (.int .i64 l.length) Q) ([y,.int .i64 i],H2):=by
    intro r;induction r with
    | nil=>intro i H2 y d v he L c f g;have hle:=ek v;refine aA.step ?_;simp only[S.v7,aE,cW,bD,D,aB];rw[ee];obtain⟨w,e,_⟩:=f;exact hQ d y H2 c ⟨w,e⟩ g (by omega)
    | cons p r z=>
     intro i H2 y d v he L c f g;obtain⟨aa,o,M⟩:=ed v;obtain⟨a,e1,N⟩:=BO (tk:=tk) o H2;refine aA.step ?_;simp only[S.v7,aE,cW,bD,D,aB];rw[dU];simp only[e1,N,D,aP,aJ,aY];rw[cM _ _ _ 2 rfl rfl rfl];have F:=At.new H2 (.row (eo p));have G:=c.trans (Z.Ext.push H2 (.row (eo p)));have P:=f.frame (H':=H2.push (.row (eo p))) (λt _ _ h=>h.push _);generalize H2.push (.row (eo p))=u at *;have m0:O u 1 false (.ptr H2.n 0)=some (.int .i64 p.1):=by rw[F.load];rfl
     have m1:O u 1 false (.ptr H2.n 1)=some (.int .i64 p.2):=by rw[F.load];rfl
     simp only[D,show ∀k:Nat,W k (.ptr H2.n 0)=some (.ptr H2.n (0+k))from λ_=>rfl,YO,m0,m1,xx,TI,fZ];rw[show bm [.int .i64 0,.int .i64 0] [(0,1,.int .i64 (Zb .i64 (p.1-s.at_))),(1,1,.int .i64 p.2)]=some (.agg (eo (Zb .i64 (p.1-s.at_),p.2)))from rfl];simp only[D];rw[show dk u false 2 1 [.int .i64 0,.int .i64 0] [(0,2,.agg (eo (Zb .i64 (p.1-s.at_),p.2)))]=some (.aq .full 1 (eo (Zb .i64 (p.1-s.at_),p.2)),u)from rfl];simp only[aP];refine P.app G.1 (m:=1) (news:=eo (Zb .i64 (p.1-s.at_),p.2)) rfl rfl rfl (by decide) (by omega) (by omega) λy4 A B lf=>?_;simp only[b4,D];rw[bI,cN];refine z (i+1) A y4 (d++[(Zb .i64 (p.1-s.at_),p.2)]) M (by simp[he]) (by omega) (lf.ext rfl G) ?_ (λq E=>?_)
     ·rw[abI,acH,acT];exact B
     · rcases aag.1 E with h|h
       ·exact g q h
       ·rw[acR.1 h];exact hp p (aaN o)
   exact main l 0 H1 _ [] rfl rfl (Yz _) K (cC.nil _ _ _) (λp hp=>by cases hp)
 · have loop : ∀(n:Nat)(a:Int)(y:I)(d:List (Int×Int)) (H2:Z),(s.len-a).toNat=n→0≤a→a≤16→Z.Ext H H2→cC H.n H2 2 y d.length (d.flatMap eo)→(∀p∈d,P8 p.2)→(d.length:Int)≤a →
       aA (S.v8 (ai C) (.af (dc s b al)) Q) ([y,.int .i64 a],H2):=by
     intro n;induction n using Nat.strongRecOn with
     | _ n z =>
      intro a y d H2 hn ab iY c f g ac;refine aA.step ?_;simp only[S.v8,xx,f1,g1,f7,g7,D,bD,aB,aE,cW];apply aF<;>intro e
      · have ad:a<s.len:=by simpa using e
        obtain ⟨m,hm,ae,em⟩:∃m,P2 m∧m≤8∧fo false [.int .i64 al,.int .i64 8]=some (.int .i64 m):=by
         rcases J with rfl|rfl|rfl|rfl|rfl
         ·exact⟨1,.inl rfl,by decide,rfl⟩
         ·exact⟨2,.inr (.inl rfl),by decide,rfl⟩
         ·exact⟨4,.inr (.inr (.inl rfl)),by decide,rfl⟩
         ·exact⟨8,.inr (.inr (.inr (.inl rfl))),by decide,rfl⟩
         ·exact⟨8,.inr (.inr (.inr (.inl rfl))),by decide,rfl⟩
        simp only[em,D];refine BN ak hT hm λr j ag=>?_;have inner:∀r,P2 r→(r≤8→aA (S.Ab (ai C) (.af (dc s b al)) ([y,.int .i64 a],H2) (aA (S.v8 (ai C) (.af (dc s b al)) Q)) Q) ([.int .i64 r],H2)):=by
         refine P2.ind λr j R hle=>aA.step ?_;simp only[S.Ab,xx,f1,g1,D,fZ,eu,aB,aE,cW,aR];rw[bI];apply aF<;>intro e
         · have h1:1<r:=by have:s.len-a<r:=(by simpa using e);omega
           obtain⟨_,ah,T⟩:=j.half h1;rw[T];simp only[D];exact R h1 (by omega)
         · have aj:r≤s.len-a:=by simpa using e
           have dy:=j.pos;have U:P8 r:=by unfold P2 at j;unfold P8;omega
           unfold S.GY;simp only[aE,cW];rw[show bm [.int .i64 0,.int .i64 0] [(0,1,.int .i64 a),(1,1,.int .i64 r)]=some (.agg (eo (a,r)))from rfl];simp only[D];rw[show dk H2 false 2 1 [.int .i64 0,.int .i64 0] [(0,2,.agg (eo (a,r)))]=some (.aq .full 1 (eo (a,r)),H2)from rfl];simp only[aP];refine f.app c.1 (m:=1) (news:=eo (a,r)) rfl rfl rfl (by decide) (by omega) (by omega) λy4 A B lf=>?_;simp only[b4,D];rw[bI];refine z (s.len-(a+r)).toNat (by omega) (a+r) y4 (d++[(a,r)]) A rfl (by omega) (by omega) (lf.ext rfl c) ?_ (λq E=>?_) (by rw[abI,List.length_singleton];omega)
           ·rw[abI,acH,acT];exact B
           · rcases aag.1 E with h|h
             ·exact g q h
             ·rw[acR.1 h];exact U
        exact inner r j (by omega)
      · obtain⟨w,e,_⟩:=f;exact hQ d y H2 c ⟨w,e⟩ g (by omega)
   exact loop _ 0 _ [] H rfl (ach _) (by decide) (Z.Ext.refl _) (cC.nil _ _ _) (λp hp=>by cases hp) (by decide)
end
end Rb

namespace Rb
open Go
theorem bB.jL{id:Nat}{vars:List U}{wh F:I}{c:LD}{H0 H:Z}{P:I→Z→Prop}{a cs:List I}{N:Nat}(h:bB H id vars wh F c)(b:KR id H0 H)(hz:a.length=N)(hc:cs.length=N)(hs:cs.all I.scalar=true)(d:∀j H',KR id H H'→bB H' id vars wh F c→Bx H0 id F H' j N cs→H.n≤j→P (.ptr j 0) H') :
  au (some (aJ H true a)) λx H1=>Do (Y H1 N x (.agg cs)) λH2=>P x H2:=by
 simp only[aJ,aY,aP];rw[cM _ _ _ N hc hs hz];simp only[D];exact d _ _ (KR.ext (Z.Ext.push _ _)) (h.ext (Z.Ext.push _ _)) (h.box b hc) (sl _)
section
variable{C:Ctx}(ak:bP C)(hT:Cl (ai C) S.bu){id:Nat}{vars:List U}{wh F:I}{c:LD}{H0 H:Z}{Q:ad}{w:Nat}
include ak hT
theorem JC(h:bB H id vars wh F c)(hb:BD c (w+64)){s:bp}{b al a st:Int}(X:P2 al)(hl:s.len≤16)(ha:dh c.bj a)(hs:1≤st∧st≤(c.sn:Nat))(hQ:EX id vars wh F H c 64 [] Q):ai C 154 [.ptr id 0,.agg (dc s b al),.int .i64 a,.int .i64 st] H Q:=by
 refine S.Qb hT ?_;unfold S.f154;simp only[BP,aP,JA,D];refine JB ak hT X hl λl x H1 I e hp hc=>?_;obtain⟨tk,rfl⟩:=e;simp only[show bo false (.aq tk l.length (l.flatMap eo))=some (.int .i64 l.length)from rfl,D];have main:∀(r:List (Int×Int)) (i:Nat) (H2:Z) (c2:LD) (o:Int),l.drop i=r→i≤l.length→KR id H H2→bB H2 id vars wh F c2→GE c c2 (4*i) []→dh c2.bj o →
   aA (S.vH (ai C) (.ptr id 0) (.int .i64 a) (.int .i64 st) (.aq tk l.length (l.flatMap eo)) (.int .i64 l.length) Q) ([.int .i64 o,.int .i64 i],H2):=by
  intro r;induction r with
  | nil=>intro i H2 c2 o g Y k2 n g2 t;have hle:=ek g;refine aA.step ?_;simp only[S.vH,aE,cW,bD,D,aB];rw[ee];exact hQ o c2 H2 k2 n (g2.mono (by omega) rfl) t
  | cons p r J=>
   intro i H2 c2 o g Y k2 n g2 t;obtain⟨aV,e,K⟩:=ed g;obtain⟨q,e1,aa⟩:=BO (tk:=tk) e H2;have u:BD c2 (w+4):=g2.bd (m:=w+4) (hb.mono (by omega));refine aA.step ?_;simp only[S.vH,aE,cW,bD,D,aB];rw[dU];simp only[e1,aa,D];refine n.jL k2 (cs:=eo p) rfl rfl rfl λjp aW f ab L _=>?_;replace f:=k2.trans f;refine jK ak hT ab f λj aX M ac ad aY=>?_;have v:=L.aI M;have d:jp≠j:=by have:=L.a.1;omega
   have ae:=f.trans M;simp only[show ∀k:Nat,W k (.ptr jp 0)=some (.ptr jp (0+k))from λ_=>rfl,show ∀k:Nat,W k (.ptr j 0)=some (.ptr j (0+k))from λ_=>rfl,YO,D,v.ld (k:=0) rfl,v.ld (k:=1) rfl,j3];refine ou ak hT ac (w:=w+3) u λaZ y af=>?_;have z:=v.aI y;refine⟨z.ld rfl,z.ld rfl,?_⟩;refine(ad.aI y).st af (ae.trans y) (by decide) One.int λa0 ag ah aj am=>?_;have B:=am _ _ _ d z;refine⟨B.ld rfl,B.ld rfl,?_⟩;refine aj.st ah ag (by decide) One.int λa1 an ao ap ar=>?_;have E:=ar _ _ _ d B;refine⟨E.ld rfl,E.ld rfl,?_⟩;refine ap.st ao an (by decide) One.int λa2 au av aw ax=>?_;have N:=ax _ _ _ d E;refine⟨N.ld rfl,?_⟩;refine aw.st av au (by decide) One.int λa3 ay h9 az aC=>?_;have aD:=aC _ _ _ d N;refine az.st h9 ay (by decide) One.int λa4 O aG P aH=>?_;have aJ:=aH _ _ _ d aD;rw[P.all];simp only[D];have hA:=u.A;refine jt ak hT aG (by show c2.A.length≤_;omega) ⟨4,c2.bj,-1,a,-1,-1,Zb .u64 p.1,0,p.2,0,0,st,0⟩ λa5 kb aK=>?_;have aL:=aJ.aI kb;rw[(P.aI kb).ld (k:=1) rfl];simp only[D,aL.ld (k:=0) rfl,jF,j3];have s0:=g2.s0;have r0:=g2.r0;have G:GE c2 (LD.add {c2 with bj:=c2.bj+1} ⟨4,c2.bj,-1,a,-1,-1,Zb .u64 p.1,0,p.2,0,0,st,0⟩) 1 []:=
    GE.BK (i6 (by decide) (by decide) (ju (aaP _)) ch (ha.mono (by omega)) ch ch (.inr (.inr ⟨hs.1,by omega⟩)) (.inr (.inr (hp p (aaN e))))) (kK (.inl (by decide)))
   have R:=G.bd (m:=w+3) (u.mono (by omega));refine mm ak hT aK (w:=w+1) R _ _ (ju (aaP _)) λr1 c5 aM T U gc rc=>?_;simp only[cJ,D,aB];have V:=(g2.trans G).trans gc;apply aF<;>intro _
   · simp only[aR,S.vG,aE,cW,b4,D];rw[bI,cN];exact J (i+1) aM c5 r1 K (by omega) ((O.trans kb).trans T) U (V.mono (by omega) rfl) rc
   · refine sD ak hT U (w:=w) (gc.bd (m:=w+1) (R.mono (by omega))) _ ((t.mono G.r0).mono gc.r0) rc λaN aO aQ aS aT aU rd=>?_;simp only[aR,S.vG,aE,cW,b4,D];rw[bI,cN];exact J (i+1) aQ aO aN K (by omega) (((O.trans kb).trans T).trans aS) aT ((V.trans aU).mono (by omega) rfl) rd
 exact main l 0 H1 c (-1) rfl (Yz _) (KR.ext I) (h.ext I) (GE.refl c) ch
theorem TN(h:bB H id vars wh F c)(hb:BD c (w+48)){s:bp}{b al a st x:Int}(I:P2 al)(hl:s.len≤16)(ha:dh c.bj a)(J:dh c.bj x)(hs:1≤st∧st≤(c.sn:Nat))(hQ:EU id vars wh F H c 48 [] Q):ai C 157 [.ptr id 0,.agg (dc s b al),.int .i64 a,.int .i64 x,.int .i64 st] H Q:=by
 refine S.Qe hT ?_;unfold S.f157;simp only[BP,aP,JA,D];refine JB ak hT I hl λl y H1 u d hp hc=>?_;obtain⟨tk,rfl⟩:=d;simp only[show bo false (.aq tk l.length (l.flatMap eo))=some (.int .i64 l.length)from rfl,D];have main:∀(r:List (Int×Int)) (i:Nat) (H2:Z) (c2:LD),l.drop i=r→i≤l.length→KR id H H2→bB H2 id vars wh F c2→GE c c2 (3*i) [] →
   aA (S.vI (ai C) (.ptr id 0) (.int .i64 a) (.int .i64 x) (.int .i64 st) (.aq tk l.length (l.flatMap eo)) (.int .i64 l.length) Q) ([.int .i64 i],H2):=by
  intro r;induction r with
  | nil=>intro i H2 c2 g K k2 n g2;have hle:=ek g;refine aA.step ?_;simp only[S.vI,aE,bD,D,aB];rw[ee];exact hQ c2 H2 k2 n (g2.mono (by omega) rfl)
  | cons p r L=>
   intro i H2 c2 g K k2 n g2;obtain⟨aC,d,M⟩:=ed g;obtain⟨q,e1,N⟩:=BO (tk:=tk) d H2;have v:BD c2 (w+3):=g2.bd (m:=w+3) (hb.mono (by omega));refine aA.step ?_;simp only[S.vI,aE,bD,D,aB];rw[dU];simp only[e1,N,D];refine n.jL k2 (cs:=eo p) rfl rfl rfl λjp aD e O z _=>?_;replace e:=k2.trans e;refine jK ak hT O e λj aF B P R aG=>?_;have o:=z.aI B;have f:jp≠j:=by have:=z.a.1;omega
   have T:=e.trans B;simp only[show ∀k:Nat,W k (.ptr jp 0)=some (.ptr jp (0+k))from λ_=>rfl,show ∀k:Nat,W k (.ptr j 0)=some (.ptr j (0+k))from λ_=>rfl,YO,D,o.ld (k:=0) rfl,o.ld (k:=1) rfl,j3];refine R.st P T (by decide) One.int λaH U V X Y=>?_;have t:=Y _ _ _ f o;refine⟨t.ld rfl,t.ld rfl,?_⟩;refine X.st V U (by decide) One.int λaJ aa ab ac ad=>?_;have E:=ad _ _ _ f t;refine⟨E.ld rfl,?_⟩;refine ac.st ab aa (by decide) One.int λaK ae af ag ah=>?_;have aj:=ah _ _ _ f E;refine ag.st af ae (by decide) One.int λaL am h9 an ao=>?_;have ap:=ao _ _ _ f aj;simp only[ap.ld (k:=0) rfl,D,jF,j3];have r0:=g2.r0;have s0:=g2.s0;refine mm ak hT h9 (w:=w+1) v _ _ (J.mono r0) λr1 c5 aM G ar gc rc=>?_;refine(an.aI G).st ar (am.trans G) (by decide) One.int λaN au av bd aO=>?_;rw[bd.all];simp only[D];have aw:=gc.bd (m:=w+1) (v.mono (by omega));have hA:=aw.A;have aQ:=gc.s0;have aR:=gc.r0;refine jt ak hT av (by omega) ⟨5,-1,-1,a,r1,-1,Zb .u64 p.1,0,p.2,0,0,st,0⟩ λax ay az=>?_;simp only[b4,D];rw[bI,cN];refine L (i+1) ax _ M (by omega) (au.trans ay) az (((g2.trans gc).trans (GE.add (i6 (by decide) (by decide) ch ch (ha.mono (by omega)) rc ch (.inr (.inr ⟨hs.1,by omega⟩)) (.inr (.inr (hp p (aaN d))))) (kK (.inl (by decide))))).mono (by omega) rfl)
 exact main l 0 H1 c rfl (Yz _) (KR.ext u) (h.ext u) (GE.refl c)
end
end Rb

namespace Rb
open Go
def b8.pc(a:b8):I:=if a.what=7∨a.what=8∨a.what=9 then av K.cells a.x.aC else aQ
def b8.cells(a:b8):List I:=[M a.what,bY a.n,M a.k,M a.j,.str a.x.var,a.pc,M a.kind,M a.aV,M a.site,M a.V]
theorem b8.TO(a:b8):a.pc.scalar=true:=by unfold b8.pc;split<;>rfl
theorem b8.bF(a:b8):a.cells=[M a.what,bY a.n,M a.k,M a.j,.str a.x.var,a.pc,M a.kind,M a.aV,M a.site,M a.V]:=rfl
theorem b8.len(a:b8):a.cells.length=10:=by rw[b8.bF];rfl
theorem b8.scalar(a:b8):a.cells.all I.scalar=true:=by show(true&&(true&&(true&&(true&&(true&&(a.pc.scalar&&(true&&(true&&(true&&(true&&true))))))))))=true;rw[a.TO];rfl
section
variable(a:b8)(H:Z)
end
theorem mf.len(w:mf):w.cells.length=13:=rfl
section
variable{H:Z}{i:Nat}{w:mf}(h:At H i (.row w.cells))
include h
end
structure gO(vars:List U):Prop where
 l:vars.length≤32
 o:∀v∈vars,v.ok
 z:∀v∈vars,(aZ v.type).2=0
 e:gM 0 vars≤65536
section
variable{C:Ctx}(ak:bP C)(hT:Cl (ai C) S.bu)
include ak hT
end
end Rb

namespace Rb
open Go
variable{H0 H:Z}{i1 i4 js:Nat}{xs px:I}{st G pr:List Int}
def TP(w:mf)(a:Int)(px:I)(b:Bool):List I:=w.cells++[M a,px,.bool b]
structure RI(H0 H:Z)(i1 i4 js:Nat)(xs px:I)(st G pr:List Int):Prop where
 E:Z.Ext H0 H
 l1:H0.n≤i1
 l4:H0.n≤i4
 lj:H0.n≤js
 n14:i1≠i4
 xy:i1≠js
 xz:i4≠js
 r1:∃cs,At H i1 (.row cs)∧cs.length=16
 r4:At H i4 (.row (TP r3 0 px false))
 sI:At H js (.row (G.map (bY)))
 st:cP H 1 xs st.length (st.map (bY))
 pr:cP H 1 px pr.length (pr.map (bY))
 ds:∀j,bQ xs=some j→H0.n≤j∧j≠i1∧j≠i4∧j≠js∧bQ px≠some j
 dp:∀j,bQ px=some j→H0.n≤j∧j≠i1∧j≠i4∧j≠js
theorem RI.ext{H0 H H':Z}(h:RI H0 H i1 i4 js xs px st G pr)(k:Z.Ext H H'):RI H0 H' i1 i4 js xs px st G pr:=⟨h.E.trans k,h.l1,h.l4,h.lj,h.n14,h.xy,h.xz,by obtain⟨cs,a,b⟩:=h.r1;exact⟨cs,a.ext k,b⟩,h.r4.ext k,h.sI.ext k,h.st.ext k,h.pr.ext k,h.ds,h.dp⟩
theorem RI.push(h:RI H0 H i1 i4 js xs px st G pr)(v:Int)(hl:st.length≤1000000001){K:ad}(f:∀d H',RI H0 H' i1 i4 js d px (st++[v]) G pr→(∀i o,At H i o→bQ xs≠some i→At H' i o)→K d H'):au (cp H true 1 8 xs (.aq .full 1 [bY v])) K:=by
 refine h.st.app (by decide) rfl rfl (by omega) (by omega) λd H' r1 hn kp a=>f d H' ?_ (λi o b hi=>kp i o hi b);obtain⟨cs,a1,b1⟩:=h.r1;have g:bQ xs≠some i1:=λe=>(h.ds i1 e).2.1 rfl;have k:bQ xs≠some i4:=λe=>(h.ds i4 e).2.2.1 rfl;have l:bQ xs≠some js:=λe=>(h.ds js e).2.2.2.1 rfl;refine⟨Ext.aI h.E hn (λi o hi b=>kp i o (λe=>by have:=(h.ds i e).1;omega) b),h.l1,h.l4,h.lj,h.n14,h.xy,h.xz,⟨cs,kp _ _ g a1,b1⟩,kp _ _ k h.r4,kp _ _ l h.sI,?_,h.pr.aI (λj cs c b=>kp j _ (λe=>(h.ds j e).2.2.2.2 c) b),λj c=>?_,h.dp⟩
 ·rw[acA,abI];exact r1
 · rcases a with a|a
   ·exact h.ds j (by rw[←a];exact c)
   · rw[a]at c;cases c;have m:=h.E.1;have n:=a1.1;have p:=h.r4.1;have q:=h.sI.1;exact⟨m,by omega,by omega,by omega,λe=>by have:=h.pr.lt e;omega⟩
theorem RI.cut(r:List Int)(h:RI H0 H i1 i4 js xs px (st++r) G pr):∃a,c9 1 xs none (some (M (st.length:Nat))) none=some a∧RI H0 H i1 i4 js a px st G pr:=by obtain⟨a,e,b,c⟩:=h.st.cut (k:=st.length) (by rw[abI];omega);refine⟨a,e,h.E,h.l1,h.l4,h.lj,h.n14,h.xy,h.xz,h.r1,h.r4,h.sI,?_,h.pr,λj d=>h.ds j (by rw[←c];exact d),h.dp⟩;rw[acu,acA,abL (by simp),abM (by simp)]at b;exact b
theorem RI.other{i1 i4 js i:Nat}(h:RI H0 H i1 i4 js xs px st G pr)(hi:H0.n≤i)(a:i1≠i)(b:i4≠i)(c:js≠i)(d:bQ xs≠some i)(hp:bQ px≠some i)(o:bL):RI H0 (H.set i o) i1 i4 js xs px st G pr:=by obtain⟨cs,a1,b1⟩:=h.r1;exact⟨h.E.set hi _,h.l1,h.l4,h.lj,h.n14,h.xy,h.xz,⟨cs,a1.bZ a _,b1⟩,h.r4.bZ b _,h.sI.bZ c _,h.st.set d _,h.pr.set hp _,h.ds,h.dp⟩
theorem RI.top{v:Int}(h:RI H0 H i1 i4 js xs px (st++[v]) G pr):∃p,aO none 1 xs (M st.length)=some p∧O H 1 false p=some (bY v):=by obtain⟨p,e1,a⟩:=h.st.get (k:=st.length) (v:= bY v) (by simp);exact⟨p,e1,a H (Z.Ext.refl _)⟩
section
variable{C:Ctx}(ak:bP C)(hT:Cl (ai C) S.bu)
include ak hT
end
end Rb

namespace Rb
open Go
variable{H H1:Z}{xa xn xs:I}
structure CD where
 A:List b8
 L:List (List UInt8×Nat)
 nx:Nat
 kL:Int
 V:Int
def CD.add(c:CD)(a:b8):CD:={c with A:=c.A++[{a with V:=c.V}]}
def JD(vars:List U)(xa xn xs:I)(c:CD):List I:=[av U.cells vars,xa,xn,xs,M c.nx,M c.kL,M c.V]
structure CR(H:Z)(id:Nat)(vars:List U)(xa xn xs:I)(c:CD):Prop where
 row:At H id (.row (JD vars xa xn xs c))
 a:cP H 10 xa c.A.length (c.A.flatMap b8.cells)
 n:cP H 1 xn c.L.length (c.L.map λp=> .str p.1)
 s:cP H 1 xs c.L.length (c.L.map λp=> M (p.2:Int))
 da:∀j,bQ xa=some j→j≠id∧bQ xn≠some j∧bQ xs≠some j
 dn:∀j,bQ xn=some j→j≠id∧bQ xs≠some j
 ds:∀j,bQ xs=some j→j≠id
structure CF(id:Nat)(H:Z)(xa xn xs:I)(H':Z)(TQ TR TS:I):Prop where
 n:H.n≤H'.n
 k:∀i o,i≠id→bQ xa≠some i→bQ xn≠some i→bQ xs≠some i→At H i o→At H' i o
 ra:∀j,bQ TQ=some j→bQ xa=some j∨H.n≤j
 rn:∀j,bQ TR=some j→bQ xn=some j∨H.n≤j
 rs:∀j,bQ TS=some j→bQ xs=some j∨H.n≤j
theorem CF.refl(id:Nat)(H:Z)(xa xn xs:I):CF id H xa xn xs H xa xn xs:=⟨sl _,λ_ _ _ _ _ _ h=>h,λ_ h=> .inl h,λ_ h=> .inl h,λ_ h=> .inl h⟩
theorem CF.trans{id:Nat}{H H1 H2:Z}{xa xn xs c d f g l m:I}(h:CF id H xa xn xs H1 c d f)(k:CF id H1 c d f H2 g l m):CF id H xa xn xs H2 g l m:=by
 refine⟨xl h.n k.n,λi o h1 p r s b=>k.k i o h1 ?_ ?_ ?_ (h.k i o h1 p r s b),λj a=>?_,λj a=>?_,λj a=>?_⟩
 · intro e;rcases h.ra i e with q|q
   ·exact p q
   ·have:=b.1;omega
 · intro e;rcases h.rn i e with q|q
   ·exact r q
   ·have:=b.1;omega
 · intro e;rcases h.rs i e with q|q
   ·exact s q
   ·have:=b.1;omega
 · rcases k.ra j a with q|q
   ·exact h.ra j q
   ·exact .inr (xl h.n q)
 · rcases k.rn j a with q|q
   ·exact h.rn j q
   ·exact .inr (xl h.n q)
 · rcases k.rs j a with q|q
   ·exact h.rs j q
   ·exact .inr (xl h.n q)
theorem CF.ext{id:Nat}(xa xn xs:I)(E:Z.Ext H H1):CF id H xa xn xs H1 xa xn xs:=⟨E.1,λ_ _ _ _ _ _ h=>h.ext E,λ_ h=> .inl h,λ_ h=> .inl h,λ_ h=> .inl h⟩
theorem CF.set{id:Nat}(xa xn xs:I)(o:bL):CF id H xa xn xs (H.set id o) xa xn xs:=⟨sl _,λ_ _ h1 _ _ _ h=>h.bZ h1 o,λ_ h=> .inl h,λ_ h=> .inl h,λ_ h=> .inl h⟩
theorem CR.ext{id:Nat}{vars:List U}{c:CD}(h:CR H id vars xa xn xs c)(E:Z.Ext H H1):CR H1 id vars xa xn xs c:=⟨h.row.ext E,h.a.ext E,h.n.ext E,h.s.ext E,h.da,h.dn,h.ds⟩
theorem CR.put{id:Nat}{vars:List U}{c c':CD}(h:CR H id vars xa xn xs c)(d:c'.A=c.A)(b:c'.L=c.L):CR (H.set id (.row (JD vars xa xn xs c'))) id vars xa xn xs c':=⟨h.row.set _,by rw[d];exact h.a.set (λe=>(h.da _ e).1 rfl) _,by rw[b];exact h.n.set (λe=>(h.dn _ e).1 rfl) _,by rw[b];exact h.s.set (λe=>(h.ds _ e) rfl) _,h.da,h.dn,h.ds⟩
section
variable{C:Ctx}(ak:bP C)(hT:Cl (ai C) S.bu){id:Nat}{vars:List U}
include ak hT
end
end Rb

namespace Rb
open Go
def CD.ex(vars:List U)(c:CD)(e:X):CD:={c with A:=c.A++Bv vars c.L c.V e c.kL,kL:=B (c.kL+AO e 0)}
def CD.pl(vars:List U)(c:CD)(x:aM):CD:={c with A:=c.A++xi vars c.L c.V x c.kL,kL:=B (c.kL+j8 x)}
section
variable{C:Ctx}(ak:bP C)(hT:Cl (ai C) S.bu){id:Nat}{vars:List U}
include ak hT
end
end Rb

namespace Rb
open Go
def CD.st(vars:List U)(c:CD)(x:aw):CD:=⟨c.A++BE vars x c.A.length c.nx c.L c.kL,Ja c.L c.nx x,c.nx+BC x,B (c.kL+AP x 0),I_ x⟩
def CD.bl(vars:List U)(c:CD)(l:List aw):CD:=⟨c.A++sv vars l c.A.length c.nx c.L c.kL,c.L,c.nx+sq l,B (c.kL+nW l 0),ql l c.V⟩
section
variable{C:Ctx}(ak:bP C)(hT:Cl (ai C) S.bu){id:Nat}{vars:List U}
include ak hT
end
end Rb

namespace Rb
open Go
section
variable(vars:List U)(L:List (List UInt8×Nat))(ln:Int)
end
def Kq(s s':RS):Prop:=s.stop=false→0≤s.fuel→s.fuel≤1000000→(s'.pr.length:Int)≤s.pr.length+s.fuel∧(s'.stop=false→0≤s'.fuel∧s'.fuel≤s.fuel∧(s'.pr.length:Int)+s'.fuel≤s.pr.length+s.fuel)
theorem Kq.trans{a b c:RS}(h:Kq a b)(k:Kq b c)(d:b.stop=true→c.pr=b.pr∧c.stop=true):Kq a c:=λe h1 f=>by
 obtain⟨g,i⟩:=h e h1 f;cases hb:b.stop with
 | true=>obtain⟨e1,j⟩:=d hb;rw[e1];exact⟨g,λz=>by rw[j]at z;cases z⟩
 | false=>obtain⟨l,m,y3⟩:=i hb;obtain⟨n,z2⟩:=k hb l (by omega);exact⟨by omega,λz=>by have:=z2 z;omega⟩
theorem Ks.same{s s':RS}(h:Ks s s')(hs:s.stop=true):s'.pr=s.pr∧s'.stop=true:=by have:=h.st hs;rw[this];exact⟨rfl,hs⟩
section
variable(vars:List U)(c:Nat)
end
end Rb

namespace Rb
open Go
section
variable{C:Ctx}(ak:bP C)(hT:Cl (ai C) S.bu){vars:List U}
include ak hT
end
end Rb

namespace Rb
open Go
section
variable{C:Ctx}(ak:bP C)(hT:Cl (ai C) S.bu){id:Nat}{vars:List U}{L:List (List UInt8)}{c:Nat}
include ak hT
end
end Rb

namespace Rb
open Go
section
variable{C:Ctx}(ak:bP C)(hT:Cl (ai C) S.bu){kw:List UInt8→Bool}(gi:∀x,bE (ai C) 96 [.str x] (.bool (kw x)))
include ak hT
include gi
end
end Rb

namespace Rb
open Go
section
variable{C:Ctx}(ak:bP C)(hT:Cl (ai C) S.bu){kw:List UInt8→Bool}(gi:∀x,bE (ai C) 96 [.str x] (.bool (kw x)))
include ak hT
include gi
end
end Rb

namespace Rb
open Go
theorem JE{p:cA}(hp:p.ok)(h:(fN eD p).2=0):gO p.vars∧∀t∈p.dj,vB p.vars [] t:=by
 obtain⟨h1,b,c⟩:=Tm eD h;have a:lG eD p.vars=if fF eD [] p.vars≠0 then fF eD [] p.vars else if gM 0 p.vars>65536 then 9 else 0:=by unfold lG;rw[bC];exact Ji eD 70000 rfl p.vars [] 0 0 (by decide) (by simp) (by omega)
 rw[b]at a;have hf:fF eD [] p.vars=0:=by
  by_cases e:fF eD [] p.vars=0
  ·exact e
  ·rw[aa e]at a;exact a.symm
 rw[ae (by simpa using hf)]at a;refine⟨⟨h1,hp.1.2,Jj eD hf,?_⟩,c⟩;by_cases e:gM 0 p.vars>65536
 ·rw[aa e]at a;cases a
 ·omega
end Rb

namespace Rb
open Go
variable{x:aM}{t:T}{N:Nat}{cs ds:List I}
def dw(vars:List U):I:= .aq .dead vars.length (ea vars (cy 0 vars))
def iF(C:Ctx)(id:Nat)(vars:List U)(L:List (List UInt8))(e:X):Prop:=∀{F:I}{c:LD}{H:Z}{Q:ad}{w:Nat}{l:Int},bB H id vars (dw vars) F c→c.L.map abm=L→c.V=l→BD c (w+dM e)→EX id vars (dw vars) F H c (dM e-8) (gk l e) Q→ai C 100 [.ptr id 0,.agg e.cells] H Q
theorem kg(e:X):16≤dM e:=by rw[Jm];omega
theorem TU{vars:List U}(hp:(bV vars x).1=0):∃n v,vars.findIdx? (λv=>v.E==x.var)=some n∧vars[n]?=some v∧bV vars x=dL v.type x.aC:=by
 unfold bV at hp ⊢;rcases nT (λv:U=>v.E==x.var) vars with⟨i,v,h1,a,b⟩|⟨h1,a⟩
 · rw[a]at hp ⊢;dsimp only at hp ⊢;by_cases hs:eg v.type≠0
   ·rw[aa hs]at hp;exact absurd hp hs
   ·exact⟨i,v,h1,b,by rw[ae hs]⟩
 · rw[a]at hp;have:(6:Int)=0:=hp;omega
theorem TV{p:K}{r:List K}(h:(dL t (p::r)).1=0):dL t (p::r)=dL (db t p).2 r:=by
 rw[dL];by_cases c:(db t p).1≠0
 ·rw[dL,aa c]at h;exact absurd h c
 ·rw[ae c]
theorem JF{a r:Int}(ha:P2 a)(b:P2 r):∃m,P2 m∧fo false [.int .i64 a,.int .i64 r]=some (.int .i64 m):=by
 rcases ha with rfl|rfl|rfl|rfl|rfl<;>rcases b with rfl|rfl|rfl|rfl|rfl;all_goals first
  |exact⟨1,.inl rfl,rfl⟩
  |exact⟨2,.inr (.inl rfl),rfl⟩
  |exact⟨4,.inr (.inr (.inl rfl)),rfl⟩
  |exact⟨8,.inr (.inr (.inr (.inl rfl))),rfl⟩
  |exact⟨16,.inr (.inr (.inr (.inr rfl))),rfl⟩
theorem Bx.xA{id j N n o:Nat}{vars:List U}{wh F:I}{c:LD}{H0 H:Z}(b:Bx H0 id F H j N cs)(h:bB H id vars wh F c)(e:KR id H0 H)(hn:ds.length=n)(hs:ds.all I.scalar=true)(f:o+n≤N){P:Z→Prop}
  (g:∀H',KR id H0 H'→bB H' id vars wh F c→Bx H0 id F H' j N (setCells cs o ds)→(∀d M ds,d≠j→Bx H0 id F H d M ds→Bx H0 id F H' d M ds)→P H'):Do (Y H n (.ptr j o) (.agg ds)) P:=by
 rw[b.a.store,aa ⟨rfl,hn,hs,by rw[b.len];exact f⟩,D];exact g _ (e.box b.lo _) (h.other b.a b.ne b.nx _) (b.set _ (by rw[BF];exact b.len)) λd M ds hn b2=>b2.other hn _
theorem JG(h:ds.length=cs.length):setCells cs 0 ds=ds:=by rw[Am (by omega)];rfl
theorem JH:∀{l:List U}{a:Int}{n:Nat}{v:U}{g:bp},l[n]?=some v→(cy a l)[n]?=some g→g.len=(aZ v.type).1.1
 | u::r,a,0,v,g,h,k=>by simp at h;subst h;simp[cy]at k;rw[←k]
 |u::r,a,n+1,v,g,h,k=>JH (l:=r) (by simpa using h) (by simpa[cy]using k)
theorem ov(k:Nat)(cs:List I):W k (.af cs)=some (.af (cs.drop k)):=rfl
theorem dX(i k:Nat):W k (.ptr i 0)=some (.ptr i k):=by simp[W]
theorem bB.TW{id:Nat}{vars:List U}{wh F:I}{c:LD}{H0 H:Z}{P:I→Z→Prop}{a:List I}(h:bB H id vars wh F c)(b:KR id H0 H)(hz:a.length=N)(d:∀j H',KR id H H'→bB H' id vars wh F c→Bx H0 id F H' j N a→H.n≤j→P (.ptr j 0) H'):au (some (aJ H true a)) P:=⟨_,_,rfl,d _ _ (KR.ext (Z.Ext.push _ _)) (h.ext (Z.Ext.push _ _)) (h.box b hz) (sl _)⟩
theorem oq.at_{s:bp}(h:oq t s)(a:Int):oq t {s with at_:=a}:=⟨h.bits,h.len,h.bit,h.wid⟩
section
variable{C:Ctx}(ak:bP C)(hT:Cl (ai C) S.bu){id:Nat}{vars:List U}{F:I}{c:LD}{H:Z}{Q:ad}{w:Nat}
include ak hT
theorem sJ(a0:gO vars){L:List (List UInt8)}(cq:x.ok)(hp:(bV vars x).1=0)(cr:∀p∈x.aC,∀e∈p.bb,iF C id vars L e)(h:bB H id vars (dw vars) F c)(ct:c.L.map abm=L){l:Int}(hl:c.V=l)(hb:BD c (w+fx x))
  (hQ:∀s b al c' H',KR id H H'→bB H' id vars (dw vars) F c'→GE c c' (fx x) (gE l x)→dh c'.bj b→P2 al→oq (bV vars x).2 s→(bV vars x).2.lay→Q (.agg (dc s b al)) H'):ai C 152 [.ptr id 0,.agg x.cells] H Q:=by
 obtain⟨dj,dk⟩:=aM.fK cq;obtain⟨n,v,cu,am,cv⟩:=TU hp;have bJ:=aaN am;have cw:v.type.lay:=oe (by have:=a0.o v bJ;cases v;exact this.2) (a0.z v bJ);have cx:=(X1.1 am).1;obtain⟨g,tl,g1,g2,g3⟩:=Bt (a:=0) am;rw[cv]at hp hQ;rw[TB]at hb hQ;rw[oo]at hQ;refine S.P_ hT ?_;unfold S.f152;simp only[qh,aP];refine h.TW KR.refl (N:=8) rfl λq H1 k1 h1 b1 l1=>?_;simp only[aX,dX,D,h1.vs];refine S.wi hT ?_;refine wE (p:=λv=>v.E==x.var) (λu _ R au=>S.Qt hT (by
   unfold S.f195;have hb:aK H1 false 7 (.agg u.cells)=some (.af u.cells,H1):=by unfold aK;rw[aa ⟨rfl,u.len⟩];rfl
   have l0:O H1 1 false (.af (u.cells.drop 0))=some (.str u.E):=p_ u;have l1:O H1 1 false (.af (x.cells.drop 0))=some (.str x.var):=Bh x H1;rw[hb];simp only[aP,W,D,l0,l1,jj];exact au)) (by have:=a0.l;omega) ?_
 rw[cu];simp only[fI,aX,dX,D,h1.vs];rw[cK cx];simp only[D,dE,ov];rw[Ax v H1 am];simp only[D];refine h1.jL k1 (cs:=v.type.cells) (N:=6) rfl v.type.len v.type.scalar λy H2 k2 bK bt l2=>?_;have bL:=k1.trans k2;have bM:=b1.aI k2;have bN:q≠y:=by have:=b1.a.1;omega
 simp only[bK.TE,D];have cz:aO none 3 (dw vars) (.int .i64 n)=some (.af ((ea vars (cy 0 vars)).drop (n*3))):=by show(if 0≤(n:Int)∧(n:Int)<(vars.length:Nat)then some (I.af ((ea vars (cy 0 vars)).drop ((n:Int).toNat*3)))else none)=_;rw[aa ⟨by omega,by omega⟩,Zc]
 rw[cz,g3];simp only[D,ov,aa2,abz];rw[show O H2 2 true (.af (.int .i64 g.at_ :: .int .i64 g.len::tl))=some (.agg [.int .i64 g.at_,.int .i64 g.len])from p6 (a:=[I.int .i64 g.at_,.int .i64 g.len]) rfl];simp only[D];rw[show bm [.int .i64 0,.int .i64 0,.int .i64 0,.bool false,.int .i64 0,.int .i64 0] [(0,2,.agg [.int .i64 g.at_,.int .i64 g.len])]=some (.agg ({dq with at_:=g.at_,len:=g.len}:bp).cells)from rfl];simp only[D];rw[show bm [.int .i64 0,.int .i64 0,.int .i64 0,.bool false,.int .i64 0,.int .i64 0,.int .i64 0,.int .i64 0] [(0,6,.agg ({dq with at_:=g.at_,len:=g.len}:bp).cells),(6,1,.int .i64 (-1)),(7,1,.int .i64 16)]=some (.agg (dc {dq with at_:=g.at_,len:=g.len} (-1) 16))from rfl];simp only[D];refine bK.jL bL (cs:=dc {dq with at_:=g.at_,len:=g.len} (-1) 16) (N:=8) rfl rfl rfl λjs cA a1 cB bs l3=>?_;have cC:=bL.trans a1;have cD:=bM.aI a1;have cE:=bt.aI a1;have ab:q≠js:=by have:=bM.a.1;omega
 have M:y≠js:=by have:=bt.a.1;omega
 simp only[D,se,cO];have main:∀(r:List K)(i:Nat)(t:T)(s:bp)(b al:Int)(c2:LD)(H2:Z)(w1:Nat)(k1:List bq),x.aC.drop i=r→t.lay→(dL t r).1=0→dL t r=dL v.type x.aC→KR id H H2→bB H2 id vars (dw vars) F c2→Bx H id F H2 q 8 [.int .i64 0,.int .i64 0,.int .i64 0,.bool false,.int .i64 0,.int .i64 0,.int .i64 0,.int .i64 0]→Bx H id F H2 y 6 t.cells→Bx H id F H2 js 8 (dc s b al)→oq t s→dh c2.bj b→P2 al→GE c c2 w1 k1→w1+gD r=gD x.aC→k1++jr l r=jr l x.aC →
   aA (S.nK (ai C) (.ptr id 0) (.ptr q 0) (.ptr y 0) (.ptr js 0) (av K.cells x.aC) (.int .i64 x.aC.length) Q) ([.int .i64 i],H2):=by
  intro r;induction r with
  | nil=>intro i t s b al c2 a2 w1 k1 a3 ht a4 aw ax a5 az a6 P hs aG aH g4 hw hk;have hle:=ek a3;refine aA.step ?_;simp only[S.nK,aE,bD,D,aB,aR];rw[ee];unfold S.Gp;simp only[dX,D,P.ld (k:=7) rfl,P.ld (k:=0) rfl];refine BN ak hT (.inr (.inr (.inr (.inr rfl)))) λr a7 _=>?_;refine⟨P.ld rfl,?_⟩;obtain⟨m,hm,em⟩:=JF aH a7;simp only[em,D,dX];refine P.st a5 ax (by decide) One.int λan ac aJ G cF=>?_;rw[show(dc s b al).set 7 (.int .i64 m)=dc s b m from rfl]at G;rw[G.all];simp only[D];refine(cF _ _ _ ab az).xA aJ ac rfl rfl (by show 0+8≤8;decide) λa8 a9 ao bO _=>?_;rw[show setCells [.int .i64 0,.int .i64 0,.int .i64 0,.bool false,.int .i64 0,.int .i64 0,.int .i64 0,.int .i64 0] 0 (dc s b m)=dc s b m from rfl]at bO;rw[bO.all];simp only[D];rw[←aw]at hQ;rw[gD]at hw;rw[jr]at hk;exact hQ s b m c2 a8 a9 ao (g4.mono (by omega) (by rw[←hk,abQ])) aG hm hs ht
  | cons p r bP=>
   intro i t s b al c2 a2 w1 k1 a3 ht a4 aw ax a5 az a6 P hs aG aH g4 hw hk;obtain⟨cG,bQ,bR⟩:=ed a3;have cH:=aaN bQ;obtain⟨cI,aL⟩:=qj a4;have bS:=TV a4;rw[gD]at hw;rw[jr]at hk;have bT:BD c2 (w+(ml p+gD r)):=g4.bd (m:=w+(ml p+gD r)) (hb.mono (by omega));refine aA.step ?_;simp only[S.nK,aE,bD,D,aB];rw[dU,cK cG];simp only[D];rw[dz K.len (by decide) _ bQ];simp only[D];refine a5.jL ax (cs:=p.cells) (N:=2) rfl p.len p.scalar λjp an aN aJ bU dl=>?_;have ac:=ax.trans aN;have aQ:=az.aI aN;have ad:=a6.aI aN;have G:=P.aI aN;have dm:y≠jp:=by have:=a6.a.1;omega
   have dn:js≠jp:=by have:=P.a.1;omega
   have dp:q≠jp:=by have:=az.a.1;omega
   have cL:p.cells[1]?=some (av X.cells p.bb):=by rw[K.bF];rfl
   simp only[dX,D,bU.ld cL,cO,cJ,aB];have nx:∀H',aA (S.nK (ai C) (.ptr id 0) (.ptr q 0) (.ptr y 0) (.ptr js 0) (av K.cells x.aC) (.int .i64 x.aC.length) Q) ([.int .i64 ((i+1:Nat):Int)],H')→S.vD (ai C) ([.int .i64 i],a2) (aA (S.nK (ai C) (.ptr id 0) (.ptr q 0) (.ptr y 0) (.ptr js 0) (av K.cells x.aC) (.int .i64 x.aC.length) Q)) Q [] H':=λH' hl=>by unfold S.vD;simp only[aE,b4,D];rw[bI,cN];exact hl
   rcases si ht cI with⟨bW,aS,e,aT,he,ap,bX⟩|⟨a_,aS,n2,f,s2,f1,f2,f3,ap,bY⟩
   · rw [ae (by simp[bW])];obtain⟨ex,hex⟩:∃ex,p.bb=[ex]:=ab5.1 bW;have au:ml p=dM ex:=by rw[Jn,hex,dI,dI,YD]
     have hA:om l p=gk l ex:=by rw[Jo,hex,dN,dN,abQ]
     have iY:=kg ex;rw[show aO none 8 (av X.cells p.bb) (.int .i64 0)=some (dE X.cells 8 p.bb 0)from cK (i:=0) (by omega)];simp only[D];rw[dz X.len (by decide) _ (show p.bb[0]?=some ex by rw[hex];rfl)];simp only[D];refine cr p cH ex (by rw[hex];exact acR.2 rfl) aJ (by rw[g4.L];exact ct) (l:=l) (by rw[g4.V];exact hl) (w:=w+gD r) (bT.mono (by omega)) λr1 ba a8 j ao g6 dy=>?_;have bZ:BD ba (w+gD r+8):=g6.bd (m:=w+gD r+8) (bT.mono (by omega));refine jK ak hT ao (ac.trans j) λbc b0 aU be cM dr=>?_;have bf:=(ac.trans j).trans aU;have ag:=(ad.aI j).aI aU;have bi:=(G.aI j).aI aU;have bk:=(aQ.aI j).aI aU;have bl:y≠bc:=by have:=(ad.aI j).a.1;omega
     have b2:js≠bc:=by have:=(G.aI j).a.1;omega
     have b3:q≠bc:=by have:=(aQ.aI j).a.1;omega
     have b5:t.cells[4]?=some (.int .i64 t.bg):=by rw[T.bF];rfl
     have cP:t.cells[5]?=some (av T.cells (e::aT)):=by rw[T.bF,←he];rfl
     simp only[dX,D,ag.ld b5,j3];refine cM.st be bf (by decide) One.int λb6 bn bo cQ U=>?_;refine⟨(U _ _ _ bl ag).ld b5,?_⟩;refine cQ.st bo bn (by decide) One.int λbr bu h9 cR ah=>?_;rw[cR.all];simp only[D];have ds:=bZ.A;refine jt ak hT h9 (by omega) ⟨17,-1,-1,r1,-1,-1,Zb .u64 t.bg,0,0,0,0,0,0⟩ λdt aV cS=>?_;have g7:=GE.add (i6 (S:=ba.sn) (d:= -1) (d2:= -1) (b:= -1) (c:= -1) (n:=Zb .u64 t.bg) (o:=0) (z:=0) (r:=0) (t:=0) (s:=0) (l:=0) (k:=17) (by decide) (by decide) ch ch dy ch ch (.inr (.inl (by decide))) (.inr (.inl (by decide)))) (kK (.inr (by decide)));have b7:=g7.bd (m:=w+gD r+7) (bZ.mono (by omega));generalize LD.add ba ⟨17,-1,-1,r1,-1,-1,Zb .u64 t.bg,0,0,0,0,0,0⟩=du at *;have cT:=bu.trans aV;have b8:=(ah _ _ _ bl (U _ _ _ bl ag)).aI aV;have cU:=(ah _ _ _ b2 (U _ _ _ b2 bi)).aI aV;have cV:=(ah _ _ _ b3 (U _ _ _ b3 bk)).aI aV;simp only[b8.ld cP,D];rw[show aO none 6 (av T.cells (e::aT)) (.int .i64 0)=some (dE T.cells 6 (e::aT) 0)from cK (by simp)];simp only[D];rw[dz T.len (by decide) _ (show(e::aT)[0]?=some e from rfl)];simp only[D];refine b8.xA cS cT e.len e.scalar (by decide) λdv cW cX bv b9=>?_;rw[JG (by rw[e.len,t.len])]at bv;have cY:=b9 _ _ _ M.symm cU;have cZ:=b9 _ _ _ bN cV;rw[bv.all];simp only[D];refine wQ ak hT e bX.ok _ _ ?_;simp only[bh,abp,abq,D,j3];refine mm ak hT cX (w:=w+gD r+5) (b7.mono (by omega)) _ _ (dy.mono g7.r0) λc0 b_ dx aW ca g8 cb=>?_;have c1:BD b_ (w+gD r+5):=g8.bd (m:=w+gD r+5) (b7.mono (by omega));have cc:=cW.trans aW;have cd:=bv.aI aW;have bw:=cY.aI aW;have ce:=cZ.aI aW;have dA:t.kind=5:=aS;have c3:s.bits=false:=by
      cases c4:s.bits with
      |false=>rfl
      |true=>have:=(hs.bits c4).1;omega
     have fin:∀(J:Int)(Y:LD)(B:Z),KR id H B→bB B id vars (dw vars) F Y→Bx H id F B q 8 [.int .i64 0,.int .i64 0,.int .i64 0,.bool false,.int .i64 0,.int .i64 0,.int .i64 0,.int .i64 0]→Bx H id F B y 6 e.cells→Bx H id F B js 8 (dc s J al)→dh Y.bj J→GE c Y (w1+dM ex) (k1++gk l ex) →
       S.vF (ai C) (.ptr js 0) (.int .i64 (aZ e).1.1) ([.int .i64 i],a2) (aA (S.nK (ai C) (.ptr id 0) (.ptr q 0) (.ptr y 0) (.ptr js 0) (av K.cells x.aC) (.int .i64 x.aC.length) Q)) Q [] B:=by
      intro J Y B bx aq c5 c6 bz c7 g9;unfold S.vF;simp only[dX,D];refine bz.st aq bx (by decide) One.int λcf bA bC aj ar=>?_;rw[show(dc s J al).set 1 (.int .i64 (aZ e).1.1)=dc {s with len:=(aZ e).1.1} J al from rfl]at aj;simp only[aj.ld (k:=7) rfl,D];refine BN ak hT (.inr (.inr (.inr (.inr rfl)))) λr a7 _=>?_;refine⟨aj.ld rfl,?_⟩;obtain⟨m,hm,em⟩:=JF aH a7;simp only[em,D,dX];refine aj.st bC bA (by decide) One.int λcg c8 c9 ci of=>?_;rw[show(dc {s with len:=(aZ e).1.1} J al).set 7 (.int .i64 m)=dc {s with len:=(aZ e).1.1} J m from rfl]at ci;refine nx cg ?_;refine bP (i+1) e _ J m Y cg (w1+dM ex) (k1++gk l ex) bR bX ?_ ?_ c8 c9 (of _ _ _ ab (ar _ _ _ ab c5)) (of _ _ _ M (ar _ _ _ M c6)) ci ⟨λe=>(by rw[c3]at e;cases e),λ_=>rfl,hs.bit,hs.wid⟩ c7 hm g9 (by omega) (by rw[←hk,hA,acI])
      ·rw[ap]at aL;exact aL
      ·rw[←aw,bS,ap]
     simp only[bw.ld (k:=6) rfl,D,cJ,aB,aR];have cj:=((g4.trans g6).trans g7).trans g8;apply aF<;>intro _
     · refine bw.st ca cc (by decide) One.int λB bx aq bz ck=>?_;exact fin c0 b_ B bx aq (ck _ _ _ ab ce) (ck _ _ _ M cd) bz cb (cj.mono (by omega) (by simp only[abQ]))
     · refine sD ak hT ca (w:=w+gD r) (c1.mono (by omega)) _ (((aG.mono g6.r0).mono g7.r0).mono g8.r0) cb λc_ Y B aY aq g9 da=>?_;refine(bw.aI aY).st aq (cc.trans aY) (by decide) One.int λcf bA bC aj ar=>?_;exact fin c_ Y cf bA bC (ar _ _ _ ab (ce.aI aY)) (ar _ _ _ M (cd.aI aY)) aj da ((cj.trans g9).mono (by omega) (by simp only[abQ]))
   · rw [aa (by simp[a_])];have db:=(X1.1 f2).1;have dd:=(X1.1 f3).1;have bE:t.cells[3]?=some (av ay.cells t.aD):=by rw[T.bF];rfl
     simp only[dX,D,ad.ld bE];refine S.wj hT ?_;refine fieldIndex (p:=λf=>f.E==p.field) (λu _ R au=>S.Qu hT (by
       unfold S.f196;have hb:aK an false 9 (.agg u.cells)=some (.af u.cells,an):=by unfold aK;rw[aa ⟨rfl,u.len⟩];rfl
       have l0:O an 1 false (.af (u.cells.drop 0))=some (.str u.E):=p8 u;have l1:O an 1 false (.ptr jp 0)=some (.str p.field):=bU.ld (by rw[K.bF];rfl);rw[hb];simp only[aP,dX,show W 0 (.af u.cells)=some (.af (u.cells.drop 0))from rfl,D,l0,l1,jj];exact au)) (T.sg ht.ok).2.2 ?_
     rw[f1];simp only[fI,ad.all,D];refine IJ ak hT ht aS _ _ ?_;simp only[bh,abp,abq,D];rw[cK dd];simp only[D];rw[dz (cells:=bp.cells) (λ_=>rfl) (by decide) _ f3];simp only[D];refine aJ.jL ac (cs:=s2.cells) (N:=6) rfl rfl rfl λbG a8 j ao cl dB=>?_;have a9:=ac.trans j;have de:js≠bG:=by have:=G.a.1;omega
     have df:y≠bG:=by have:=ad.a.1;omega
     have dg:q≠bG:=by have:=aQ.a.1;omega
     simp only[dX,D,cl.ld (k:=0) rfl,(G.aI j).ld (k:=0) rfl,b4];refine cl.st ao a9 (by decide) One.int λb0 bf be cm bH=>?_;have bi:=bH _ _ _ de (G.aI j);have ag:=bH _ _ _ df (ad.aI j);have bk:=bH _ _ _ dg (aQ.aI j);rw[show s2.cells.set 0 (.int .i64 (Zb .i64 (s2.at_+s.at_)))=({s2 with at_:=Zb .i64 (s2.at_+s.at_)}:bp).cells from rfl]at cm;rw[cm.all];simp only[D,ag.ld bE];rw[cK db];simp only[D,dE,ov];rw[Bq b0 f2];simp only[D];refine bi.xA be bf rfl rfl (by show 0+6≤8;decide) λb6 bn bo cn U=>?_;have co:=U _ _ _ M ag;rw[show setCells (dc s b al) 0 ({s2 with at_:=Zb .i64 (s2.at_+s.at_)}:bp).cells=dc {s2 with at_:=Zb .i64 (s2.at_+s.at_)} b al from rfl]at cn;refine⟨co.ld bE,Bq b6 f2,?_⟩;refine co.xA bo bn f.type.len f.type.scalar (by decide) λbr bu h9 cp ah=>?_;rw[JG (by rw[f.type.len,t.len])]at cp;refine nx br ?_;have dC:ml p=0:=by rw[Jn,a_,dI]
     have di:om l p=[]:=by rw[Jo,a_,dN]
     refine bP (i+1) f.type _ b al c2 br w1 k1 bR bY ?_ ?_ bu h9 (ah _ _ _ bN (U _ _ _ ab bk)) cp (ah _ _ _ M.symm cn) ((TD ht aS f2 f3 bY).at_ _) aG aH g4 (by omega) (by rw[←hk,di];rfl)
     ·rw[ap]at aL;exact aL
     ·rw[←aw,bS,ap]
 refine main x.aC 0 v.type _ (-1) 16 c cA 0 [] rfl cw hp rfl cC cB cD cE bs ⟨λe=>(by cases e),λ_=>?_,⟨ach 0,(by decide:(0:Int)≤7)⟩,ach 0⟩ ch (.inr (.inr (.inr (.inr rfl)))) (GE.refl c) (YO _) rfl;exact show g.len=_ from JH am g1
end
end Rb

namespace Rb
open Go
variable{id j:Nat}{F:I}{b:Bk}{H:Z}{t:T}
def i7(id j:Nat)(F:I)(H H':Z):Prop:=H.n≤H'.n∧∀i o,i≠id→i≠j→bQ F≠some i→At H i o→At H' i o
theorem i7.refl(id j:Nat)(F:I)(H:Z):i7 id j F H H:=⟨sl _,λ_ _ _ _ _ h=>h⟩
theorem i7.trans{F d:I}{a b c:Z}(h:i7 id j F a b)(n:NB a F d)(k:i7 id j d b c):i7 id j F a c:=⟨xl h.1 k.1,λi o hi e f g=>k.2 i o hi e (n.ne g.1 f) (h.2 i o hi e f g)⟩
theorem fP.three{a b:Z}(h:fP id F a b):i7 id j F a b:=⟨h.1,λi o hi _ c d=>h.2 i o hi c d⟩
theorem fP.ext{a b:Z}(E:Z.Ext a b):fP id F a b:=⟨E.1,λ_ _ _ _ c=>c.ext E⟩
theorem eE.ext{H H':Z}(h:eE H id F b)(E:Z.Ext H H'):eE H' id F b:=⟨h.a.ext E,h.l.ext E,h.d⟩
theorem eE.other{id i:Nat}(h:eE H id F b)(c:i≠id)(e:bQ F≠some i)(o:bL):eE (H.set i o) id F b:=⟨h.a.bZ c.symm _,h.l.set e _,h.d⟩
theorem eE.lt(h:eE H id F b):bQ F≠some H.n:=λe=>acS _ (h.l.lt e)
def JI(C:Ctx)(t:T):Prop:=∀{H:Z}{Q:ad}{id:Nat}{F:I}{b:Bk}{a:Int},eE H id F b→b.ok→(∀c H',fP id F H H'→NB H F c→eE H' id c (fk t a b)→(fk t a b).ok→Q (.ar []) H')→ai C 57 [.ptr id 0,.agg t.cells,.int .i64 a] H Q
theorem TX(t:T)(a:Int)(b:Bk):fk t a b=if t.kind=1∨t.kind=2 then b.add (a,t.size)
  else if t.kind=5 then(if(fi t.aU).1.1>0 then j_ (λi b=>nY t.aU (B (a+B (i*(fi t.aU).1.1))) b) t.bg.toNat 0 b else b)
  else iW (eM t.kind a t.aD (cH t) (0,0) b).1 (eM t.kind a t.aD (cH t) (0,0) b).2:=by cases t;rw[fk]
theorem JJ(h:b.ok)(a:Int×Int):(iW a b).ok:=by
 unfold iW;split
 ·exact Bk.Ju h a
 ·exact h
section
variable{C:Ctx}(ak:bP C)(hT:Cl (ai C) S.bu)
include ak hT
theorem TY(h:t.lay)(a:t.kind=3∨t.kind=4):∃s al bit:Int,bE (ai C) 115 [.agg t.cells] (.ar [.agg [.int .i64 s,.int .i64 al,av bp.cells (cH t),.int .i64 bit],.bool true]):=by
 have hs:=fM h.snd;obtain⟨p,hp,hle,hlen⟩:=qi h a;refine⟨ca p.size p.bN,p.bN,p.bit,?_⟩;refine bE.of ak (by simp[I.bA,I.a_,T.a_]) (by show I.a_ (.ar [.agg [.int .i64 _,.int .i64 _,.aq .dead (cH t).length ((cH t).flatMap bp.cells),.int .i64 _],.bool true])=true;simp[I.a_,I.bA,Bp,Tok.free]) λQ hQ=>?_
 refine ai.cd ?_;refine S.Ai hT (AJ hT hs a (λf hf=>wP ak hT f.type (fM (og h a hf).snd)) (λf hf=>wO f.type (fM (og h a hf).snd)) (λe=>by rw[hp]at e;cases e) λq b x H2 c=>?_);rw[hp]at b;cases b;obtain⟨_,tk,rfl,_⟩:=c;have d:cH t=p.du:=by unfold cH;rw[hp]
 rw[d]at hQ;simp only[I.cd,I.cf,Bo];rw[show decide (ca p.size p.bN≤65536)=true by simpa using hle];exact hQ _
variable(hS:ot (ai C))
include hS
theorem JK{Q:ad}{a:Int×Int}(h:eE H id F b)(hb:b.ok)(d:At H j (.row (u a)))(k:j≠id)(f:bQ F≠some j)
  (hQ:∀l H',i7 id j F H H'→NB H F l→eE H' id l (iW a b)→At H' j (.row (u (0,0)))→Q (.ar []) H'):ai C 133 [.ptr j 0,.af [.ptr id 0]] H Q:=by
 refine S.PT hT ?_;unfold S.f133;have e1:O H 1 false (.ptr j 1)=some (.int .i64 a.2):=by rw[d.load];rfl
 have m:O H 2 true (.ptr j 0)=some (.agg (u a)):=d.all (n:=2) rfl;have p:O H 1 false (.af [.ptr id 0])=some (.ptr id 0):=rfl;have k1:∀(c:I)(H1:Z),fP id F H H1→NB H F c→eE H1 id c (iW a b)→S.vt (ai C) (.ptr j 0) Q [] H1:=by intro c H1 hk hn h1;unfold S.vt;have dy:=hk.2 _ _ k f d;rw[show bm [.int .i64 0,.int .i64 0] []=some (.agg (u (0,0)))from rfl];simp only[D];rw[dy.put (n:=2) rfl rfl rfl];simp only[D];refine hQ c _ ⟨hk.1,λi o hi q f r=>(hk.2 i o hi f r).bZ q _⟩ hn (h1.other k (hn.ne d.1 f) _) (dy.set _)
 simp only[iZ,e1,D,eu,aB];unfold iW at k1;apply aF<;>intro e
 · have g:a.2>0:=by simpa using e
   simp only[aa g]at k1;simp only[m,p,D];exact Jw ak hT hS h hb a λc H1 hk hn h1 _=>k1 c H1 hk hn h1
 · have g:¬a.2>0:=by simpa using e
   simp only[ae g]at k1;exact k1 F H (fP.refl _ _ _) (.inl rfl) h
theorem TZ(ht:t.lay)(aG:t.kind=3∨t.kind=4)(hF:∀f∈t.aD,JI C f.type){Q:ad}{a:Int}(h:eE H id F b)(hb:b.ok)
  (hQ:∀aH H',fP id F H H'→NB H F aH→eE H' id aH (iW (eM t.kind a t.aD (cH t) (0,0) b).1 (eM t.kind a t.aD (cH t) (0,0) b).2)→(iW (eM t.kind a t.aD (cH t) (0,0) b).1 (eM t.kind a t.aD (cH t) (0,0) b).2).ok→Q (.ar []) H') :
  ai C 88 [.ptr id 0,.agg t.cells,.int .i64 a] H Q:=by
 obtain⟨ps,ac,ag,aZ⟩:=TY ak hT ht aG;have bF:=Iy ht aG;have bG:=(T.sg ht.ok).2.2;refine S.Pp hT ?_;unfold S.f88;rw[show aK H false 1 (.ptr id 0)=some (.af [.ptr id 0],H)from rfl];simp only[aP,gz,iU,D];refine aZ _ _ ?_;simp only[bh,abp,abq,D,aJ,aY,aP];rw[cM _ _ _ 4 rfl rfl rfl];have a0:=At.new H (.row [.int .i64 ps,.int .i64 ac,av bp.cells (cH t),.int .i64 ag]);have a1:=Z.Ext.push H (.row [.int .i64 ps,.int .i64 ac,av bp.cells (cH t),.int .i64 ag]);have n1:(H.push (.row [.int .i64 ps,.int .i64 ac,av bp.cells (cH t),.int .i64 ag])).n=H.n+1:=rfl;simp only[D];generalize H.push (.row [.int .i64 ps,.int .i64 ac,av bp.cells (cH t),.int .i64 ag])=H1 at *;rw[show bm [.int .i64 0,.int .i64 0] []=some (.agg (u (0,0)))from rfl];simp only[D];rw[cM _ _ _ 2 rfl rfl rfl];have a2:=At.new H1 (.row (u (0,0)));have a3:=a0.push (.row (u (0,0)));have ah:=a1.trans (Z.Ext.push H1 (.row (u (0,0))));have n2:(H1.push (.row (u (0,0)))).n=H.n+2:=by show H1.n+1=_;omega
 simp only[D,dV,kz,cO];generalize H1.push (.row (u (0,0)))=H2 at *;have a4:=h.ext ah;have bH:=h.a.1;have V:H1.n≠id:=by omega
 have aq:∀i,H.n≤i→bQ F≠some i:=λi hi e=>by have:=h.l.lt e;omega
 have main : ∀(r:List ay)(ss:List bp)(i:Nat)(run:Int×Int)(b2:Bk)(p:I)(c:Z),t.aD.drop i=r→(cH t).drop i=ss→i7 id H1.n F H2 c→NB H2 F p→eE c id p b2→b2.ok→At c H1.n (.row (u run))→eM t.kind a t.aD (cH t) (0,0) b=eM t.kind a r ss run b2 →
   aA (S.rK (ai C) (.int .i64 a) (.af [.ptr id 0]) (.af t.cells) (.ptr H.n 0) (.ptr H1.n 0) (av ay.cells t.aD) (.int .i64 t.aD.length) Q) ([.int .i64 i],c):=by
  intro r;induction r with
  | nil=>
   intro ss i run b2 p c au aI K L W N aw hm;have hle:=ek au;refine aA.step ?_;simp only[S.rK,aE,bD,D,aB,aR];rw[ee];unfold S.Ft;refine⟨_,_,rfl,?_⟩;rw[qI rfl,qJ rfl];have aj:bQ p≠some H1.n:=L.ne (by omega) (aq _ (by omega));show ai C 133 [.ptr H1.n 0,.af [.ptr id 0]] c _;refine JK ak hT hS W N aw V aj λa5 k al a6 am r4=>?_;rw[hm]at hQ;have w:eM t.kind a [] ss run b2=(run,b2):=by rw[eM]
   rw[w]at hQ;have aL:=K.trans L al;refine hQ a5 k ⟨xl ah.1 aL.1,λi o hi E y=>aL.2 i o hi (by have:=y.1;omega) E (y.ext ah)⟩ ?_ am (JJ N run);have:=L.trans K.1 a6;rcases this with e|⟨j,a7,e⟩
   ·exact .inl e
   ·exact .inr ⟨j,by have:=ah.1;omega,e⟩
  | cons f r a8=>
   intro ss i run b2 p c au aI K L W N aw hm;obtain⟨a9,E,a_⟩:=ed au;obtain⟨s,hs⟩:∃s,(cH t)[i]?=some s:=⟨_,YU (by omega)⟩
   have ba:ss=s::(cH t).drop (i+1):=by rw[←aI];exact drop_cons hs
   subst ba;have bb:=aaN E;have bc:=K.2 _ _ (show H.n≠id by omega) (by omega) (aq _ (sl _)) a3;have aj:bQ p≠some H1.n:=L.ne (by omega) (aq _ (by omega));refine aA.step ?_;simp only[S.rK,aE,bD,D,aB];rw[dU,cK a9];simp only[D];rw[dz ay.len (by decide) _ E];simp only[D,aJ,aY,aP];rw[cM _ _ _ 9 f.len f.scalar rfl];have n3:=K.1;have aM:=Z.Ext.push c (.row f.cells);have bd:=At.new c (.row f.cells);have be:=bc.push (.row f.cells);have am:=W.ext aM;have bf:=aw.push (.row f.cells);have bJ:=W.lt;have n4:(c.push (.row f.cells)).n=c.n+1:=rfl;simp only[D];generalize c.push (.row f.cells)=k at *;have X:O k 1 false (.ptr H.n 2)=some (av bp.cells (cH t)):=by rw[be.load];rfl
   simp only[iZ,X,D];rw[cK (cells:=bp.cells) (sz:=6) (show i<(cH t).length by omega)];simp only[D,dE,ov,abz];have Y:O k 2 true (.af (List.drop (i*6) ((cH t).flatMap bp.cells)))=some (.agg [.int .i64 s.at_,.int .i64 s.len]):=by rw[nP (cells:=bp.cells) (λ_=>rfl),drop_cons hs,abk];rfl
   simp only[Y,D];rw[cM _ _ _ 2 rfl rfl rfl];have aO:=Z.Ext.push k (.row [.int .i64 s.at_,.int .i64 s.len]);have rs:=At.new k (.row [.int .i64 s.at_,.int .i64 s.len]);have bg:=bd.push (.row [.int .i64 s.at_,.int .i64 s.len]);have bi:=am.ext aO;have bj:=bf.push (.row [.int .i64 s.at_,.int .i64 s.len]);have bk:=am.lt;have bK:(k.push (.row [.int .i64 s.at_,.int .i64 s.len])).n=k.n+1:=rfl;simp only[D];generalize k.push (.row [.int .i64 s.at_,.int .i64 s.len])=P at *;have bl:O P 1 false (.ptr k.n 0)=some (.int .i64 s.at_):=by rw[rs.load];rfl
   simp only[bl,D,b4];rw[rs.st1 (by show 0<2;decide) ⟨rfl,rfl,rfl⟩];have an:=rs.set (.row ([.int .i64 s.at_,.int .i64 s.len].set 0 (.int .i64 (Zb .i64 (s.at_+a)))));have ao:=bg.bZ (show c.n≠k.n by omega) (.row ([.int .i64 s.at_,.int .i64 s.len].set 0 (.int .i64 (Zb .i64 (s.at_+a)))));have aQ:=bj.bZ (show H1.n≠k.n by omega) (.row ([.int .i64 s.at_,.int .i64 s.len].set 0 (.int .i64 (Zb .i64 (s.at_+a)))));have aS:=bi.other (show k.n≠id by omega) bk (.row ([.int .i64 s.at_,.int .i64 s.len].set 0 (.int .i64 (Zb .i64 (s.at_+a)))));have aT:i7 id H1.n p c (P.set k.n (.row ([.int .i64 s.at_,.int .i64 s.len].set 0 (.int .i64 (Zb .i64 (s.at_+a)))))):=⟨by show c.n≤P.n;omega,λi o _ _ _ y=>((y.ext aM).ext aO).bZ (by have:=y.1;omega) _⟩
   have n6:(P.set k.n (.row ([.int .i64 s.at_,.int .i64 s.len].set 0 (.int .i64 (Zb .i64 (s.at_+a)))))).n=P.n:=rfl;simp only[D];generalize P.set k.n (.row ([.int .i64 s.at_,.int .i64 s.len].set 0 (.int .i64 (Zb .i64 (s.at_+a)))))=R at *;have an:At R k.n (.row (u (B (s.at_+a),s.len))):=an;have f7:∀{d:Z},At d c.n (.row f.cells)→O d 1 false (.ptr c.n 7)=some (.bool f.bits):=λh=>by rw[h.load];exact Ap f
   have f8:∀{d:Z},At d c.n (.row f.cells)→O d 1 false (.ptr c.n 8)=some (.int .i64 f.aN):=λh=>by rw[h.load];exact Hq f
   have bn:∀{d:Z},At d c.n (.row f.cells)→O d 6 true (.ptr c.n 1)=some (.agg f.type.cells):=λh=>by rw[h.load];exact wy f
   generalize bM:aA (S.rK (ai C) (.int .i64 a) (.af [.ptr id 0]) (.af t.cells) (.ptr H.n 0) (.ptr H1.n 0) (av ay.cells t.aD) (.int .i64 t.aD.length) Q)=ap at *;have k1:∀(run':Int×Int)(b3:Bk)(x:I)(d:Z),i7 id H1.n p c d→NB c p x→eE d id x b3→b3.ok→At d H1.n (.row (u run'))→eM t.kind a (f::r) (s::(cH t).drop (i+1)) run b2=eM t.kind a r ((cH t).drop (i+1)) run' b3→S.pR (ai C) ([.int .i64 i],c) ap Q [] d:=by intro run' b3 x d A G J U z he;unfold S.pR;simp only[aE,b4,D];rw[bI,cN];exact a8 _ (i+1) run' b3 x d a_ rfl (K.trans L A) (L.trans K.1 G) J U z (hm.trans he)
   have k2 : ∀(m:Int×Int)(b1:Bk)(x:I)(d:Z),m=(if f.bits=false∨f.aN=0∨t.kind=4 then(0,0)else run)→b1=(if f.bits=false∨f.aN=0∨t.kind=4 then iW run b2 else b2)→i7 id H1.n p c d→NB c p x→eE d id x b1→b1.ok→At d H1.n (.row (u m))→At d c.n (.row f.cells)→At d k.n (.row (u (B (s.at_+a),s.len))) →
     S.u7 (ai C) (.af [.ptr id 0]) (.ptr H1.n 0) (.ptr c.n 0) (.ptr k.n 0) ([.int .i64 i],c) ap Q [] d:=by
    intro m b1 x d dy bo A G J U z ax az;have aC:bQ x≠some H1.n:=G.ne (by omega) aj;have w:eM t.kind a (f::r) (s::(cH t).drop (i+1)) run b2=if f.bits=false then eM t.kind a r ((cH t).drop (i+1)) m (qd f (B (s.at_+a)) b1)else if m.2>0 then eM t.kind a r ((cH t).drop (i+1)) (m.1,B (B (B (s.at_+a)+s.len)-m.1)) b1 else if f.aN>0 then eM t.kind a r ((cH t).drop (i+1)) (B (s.at_+a),s.len) b1 else eM t.kind a r ((cH t).drop (i+1)) m b1:=by rw[eM,dy,bo]
    have p0:O d 1 false (.ptr k.n 0)=some (.int .i64 (B (s.at_+a))):=by rw[az.load];rfl
    have bq:O d 1 false (.ptr k.n 1)=some (.int .i64 s.len):=by rw[az.load];rfl
    have br:O d 2 true (.ptr k.n 0)=some (.agg (u (B (s.at_+a),s.len))):=az.all (n:=2) rfl;have bs:O d 1 false (.ptr H1.n 0)=some (.int .i64 m.1):=by rw[z.load];rfl
    have bt:O d 1 false (.ptr H1.n 1)=some (.int .i64 m.2):=by rw[z.load];rfl
    have bu:O d 1 false (.af [.ptr id 0])=some (.ptr id 0):=rfl;unfold S.u7;simp only[iZ,f7 ax,f8 ax,bn ax,p0,bq,br,bs,bt,bu,D,dS,aB,aR];apply aF<;>intro e
    · have M:f.bits=false:=by simpa using e
      rw[aa M,RX]at w;refine hF f bb J U λbv bw aU bx bz bA=>?_;exact k1 m _ bv bw (A.trans G aU.three) (G.trans A.1 bx) bz bA (aU.2 _ _ V aC z) w
    · have M:¬f.bits=false:=by simpa using e
      rw[ae M]at w;simp only[eu,D,aB];apply aF<;>intro e
      · have X:m.2>0:=by simpa using e
        rw[aa X]at w;simp only[b4,fZ,D];rw[z.st1 (by show 1<2;decide) ⟨rfl,rfl,rfl⟩];simp only[D];exact k1 _ _ x _ ⟨A.1,λi o hi ab E y=>(A.2 i o hi ab E y).bZ ab _⟩ G (J.other V aC _) U (z.set _) w
      · have X:¬m.2>0:=by simpa using e
        rw[ae X]at w;apply aF<;>intro e
        · have Y:f.aN>0:=by simpa using e
          rw[aa Y]at w;rw[z.put (n:=2) rfl rfl rfl];simp only[D];exact k1 _ _ x _ ⟨A.1,λi o hi ab E y=>(A.2 i o hi ab E y).bZ ab _⟩ G (J.other V aC _) U (z.set _) w
        · have Y:¬f.aN>0:=by simpa using e
          rw[ae Y]at w;exact k1 _ _ x d A G J U z w
   have aV:∀v:Bool,(v=true↔f.bits=false∨f.aN=0∨t.kind=4)→S.u9 (ai C) (.af [.ptr id 0]) (.ptr H1.n 0) (.ptr c.n 0) (.ptr k.n 0) ([.int .i64 i],c) ap Q [.bool v] R:=by
    intro v hv;unfold S.u9;simp only[aE,aB,aR];apply aF<;>intro e
    · have hc:=hv.1 e;refine⟨_,_,rfl,?_⟩;rw[qI rfl,qJ rfl];show ai C 133 [.ptr H1.n 0,.af [.ptr id 0]] R _;refine JK ak hT hS aS N aQ V aj λbB d aW bC J bE=>?_;have g:∀{i:Nat}{o:bL},c.n≤i→At R i o→At d i o:=λ{i o} hi y=>aW.2 i o (by omega) (by omega) (λe=>by have:=W.l.lt e;omega) y;exact k2 _ _ bB d (aa hc).symm (aa hc).symm (aT.trans (.inl rfl) aW) (bC.imp (λe=>e) λ⟨j,a7,e⟩=>⟨j,by omega,e⟩) J (JJ N run) bE (g (sl _) ao) (g (by omega) an)
    · have hc:¬(f.bits=false∨f.aN=0∨t.kind=4):=λq=>e (hv.2 q);exact k2 run b2 p R (ae hc).symm (ae hc).symm aT (.inl rfl) aS N aQ ao an
   have al:∀v:Bool,(v=true↔f.bits=false∨f.aN=0)→S.u_ (ai C) (.af [.ptr id 0]) (.af t.cells) (.ptr H1.n 0) (.ptr c.n 0) (.ptr k.n 0) ([.int .i64 i],c) ap Q [.bool v] R:=by
    intro v hv;unfold S.u_;simp only[aE,cv,dV,ky,D,cJ,aR];apply aF<;>intro e
    · have aX:¬(f.bits=false∨f.aN=0):=λq=>by rw[hv.2 q]at e;simp at e
      refine aV _ ⟨λq=> .inr (.inr (by simpa using q)),λq=>?_⟩;rcases q with q|q|q
      ·exact absurd (.inl q) aX
      ·exact absurd (.inr q) aX
      ·simpa using q
    · have:v=true:=by simpa using e
      exact aV true ⟨λ_=>(hv.1 this).imp (λe=>e) λe=> .inl e,λ_=>rfl⟩
   simp only[f7 ao,f8 ao,D,dS,cv,cJ,aR];apply aF<;>intro e
   · have M:f.bits=true:=by simpa using e
     refine al _ ⟨λq=> .inr (by simpa using q),λq=>?_⟩;rcases q with q|q
     ·rw[M]at q;cases q
     ·simpa using q
   · have M:f.bits=false:=by simpa using e
     exact al true ⟨λ_=> .inl M,λ_=>rfl⟩
 exact main t.aD (cH t) 0 (0,0) b F H2 rfl rfl (i7.refl _ _ _ _) (.inl rfl) a4 hb a2 rfl
end
end Rb

namespace Rb
open Go
variable{f:ay}{t:T}{run:Int×Int}
def JL(kind S:Int)(f:ay)(s:bp)(b a:Int):Prop:=∃x:Int×Int,s=kC f x∧(if kind=4 then 0 else b)≤x.1∧0≤x.2∧(f.bits=true→x.2=f.aN)∧(f.bits=false→x.1%8=0∧x.2=8*(A f.type).1.1)∧x.1+x.2≤8*S∧a=x.1+x.2
def Fits(kind S:Int):List ay→List bp→Int→Prop
 |[],[],_=>True
 |f::r,s::ss,b=>∃a,JL kind S f s b a∧Fits kind S r ss a
 |_,_,_=>False
theorem T1{packed:Bool}{kind a:Int}(d:0≤a)(g:mS packed f)(hb:qg f.type)(ht:(A f.type).2=true) :
  (if kind=4 then 0 else a)≤(eT packed kind a f (A f.type).1).1∧0≤(eT packed kind a f (A f.type).1).2.1∧(f.bits=true→(eT packed kind a f (A f.type).1).2.1=f.aN)∧(f.bits=false→(eT packed kind a f (A f.type).1).1%8=0∧(eT packed kind a f (A f.type).1).2.1=8*(A f.type).1.1):=by
 obtain⟨b1,b2,b3,h⟩:=hb ht;have i:0≤(if kind=4 then(0:Int)else a):=by split;decide;exact d
 unfold eT;dsimp only;generalize (if kind=4 then(0:Int)else a)=b at *;by_cases c:f.bits=true
 · obtain⟨j,k,l,y3,y4,_⟩:=g c;rw[aa c];refine⟨?_,y3,λ_=>rfl,λe=>by rw[c]at e;cases e⟩;show b≤bM b _;split
   ·have:=hj (n:=b) (step:=8*f.type.size) (by omega);omega
   ·rw[r6];exact ach _
 · rw [ae c];refine⟨?_,by show 0≤8*(A f.type).1.1;omega,λe=>absurd e c,λ_=>⟨?_,rfl⟩⟩
   · show b≤bM b _;split
     ·have:=hj (n:=b) (step:=8) (by omega);omega
     ·have:=hj (n:=b) (step:=8*(A f.type).1.2) (by omega);omega
   · show bM b _%8=0;split
     ·exact qf (by decide)
     · have:=qf (n:=b) (step:=8*(A f.type).1.2) (by omega);rw[←Int.emod_emod_of_dvd (bM b (8*(A f.type).1.2)) (Int.dvd_mul_right 8 (A f.type).1.2),this];rfl
theorem JM{packed:Bool}{kind:Int}:∀{l:List ay}{p q:PL}{n:Nat},n+l.length≤32→iX p n→(∀f∈l,mS packed f∧qg f.type)→dW packed kind p l=some q →
  p.size≤q.size∧iX q (n+l.length)∧∃ss,q.du=p.du++ss∧Fits kind q.size l ss p.bit
 | [],p,q,n,hn,hp,hl,h=>by simp only[dW,Yh.injEq]at h;subst h;exact⟨ach _,hp,[],by simp,trivial⟩
 | f :: r,p,q,n,hn,hp,hl,h=>by
  obtain⟨o1,o2⟩:=hl f (aap ..);have c:n+1+r.length≤32:=by rw[abJ]at hn;omega
  simp only[dW,qb]at h;by_cases ht:(A f.type).2=true
  · rw [aa ht]at h;obtain⟨b1,b2,b3,d⟩:=o2 ht;have hb:f.bits=true→1≤f.type.size∧f.type.size≤8∧0≤f.aN∧f.aN≤8*f.type.size∧packed=false∧(A f.type).1.2=f.type.size:=λhb=>by
     obtain⟨e,z2,z3,z4,z5,i⟩:=o1 hb;exact⟨z2,z3,z4,z5,i,by rw[n_ (.inl e)]⟩
    obtain⟨e1,j⟩:=AU (packed:=packed) (kind:=kind) (g:=(A f.type).1) (by omega) hp b1 b2 b3 d (λq=>⟨(hb q).1,(hb q).2.1,(hb q).2.2.1,(hb q).2.2.2.1⟩);have k:=AX (kind:=kind) hp (f:=f) (g:=(A f.type).1) b3 (λq=>⟨(hb q).1,(hb q).2.2.1,(hb q).2.2.2.1,(hb q).2.2.2.2.1,(hb q).2.2.2.2.2⟩);obtain⟨s1,m,ss,a,b⟩:=JM c j (λg o=>hl g (aao _ o)) h;obtain⟨l1,l2,l3,l4⟩:=T1 (kind:=kind) hp.b0 o1 o2 ht;rw[e1,k]at a b s1;generalize eT packed kind p.bit f (A f.type).1=x at *;have s:=hj (n:=x.1+x.2.1) (step:=8) (by decide);have t:=qf (n:=x.1+x.2.1) (step:=8) (by decide);have s1:max p.size (bM (x.1+x.2.1) 8/8)≤q.size:=s1;refine⟨by omega,by rw[abJ,abH r.length,←Nat.add_assoc];exact m,kC f (x.1,x.2.1)::ss,by rw[a,acI];rfl,x.1+x.2.1,⟨(x.1,x.2.1),rfl,l1,l2,l3,l4,by show x.1+x.2.1≤_;omega,rfl⟩,b⟩
  ·rw[ae ht]at h;cases h
theorem T2(h:t.lay)(a:t.kind=3∨t.kind=4):∃S,0≤S∧S≤(A t).1.1∧(A t).1.1≤65536∧Fits t.kind S t.aD (cH t) 0:=by
 obtain⟨p,hp,hu,_⟩:=qi h a;have b:=fM h.snd;have hlen:=A1 b a;have c:∀f∈t.aD,mS t.packed f:=by
  have hs:=b;rw[gA]at hs;split at hs
  ·exact absurd hs (by decide)
  · rw[ae (show ¬t.kind=1 by omega),ae (show ¬t.kind=2 by omega),ae (show ¬t.kind=5 by omega),bC]at hs;exact A0 hs
 obtain⟨s1,hb,ss,d,g⟩:=JM (n:=0) (by omega) iX.zero (λf hf=>⟨c f hf,A2 f.type ((mO b a).1 f hf)⟩) hp;have s0:0≤p.size:=s1;have e:(A t).1.1=ca p.size p.bN:=by rw[lz,bC,bC,hp]
 have i:ca p.size p.bN=bM p.size p.bN:=mR s0 (by have:=hb.s1;simp only[YO]at this;omega) (by have:=hb.a0;omega) (by have:=hb.a1;omega);have j:=hj (n:=p.size) (step:=p.bN) (by have:=hb.a0;omega);refine⟨p.size,s0,by omega,by omega,?_⟩;unfold cH;rw[hp];dsimp only;rw[d];exact g
def kh(a n:Int)(s:Int×Int):Prop:=a≤s.1∧1≤s.2∧s.1+s.2≤a+n
theorem kh.mono{a n m:Int}{s:Int×Int}(h:kh a n s)(k:n≤m):kh a m s:=⟨h.1,h.2.1,by have:=h.2.2;omega⟩
def lO(kind a S b:Int)(run:Int×Int):Prop:=run.2>0→kh a S run∧(kind≠4→1≤b∧run.1+run.2-a=(b-1)/8+1)
theorem lO.zero(kind a S b:Int):lO kind a S b (0,0):=λh=>absurd h (by decide)
theorem lO.hh{kind a S b:Int}(h:lO kind a S b run):∀s∈hh run,kh a S s:=by
 intro s hs;unfold Rb.hh at hs;split at hs
 · rename_i c;rw[acR.1 hs];exact(h c).1
 ·cases hs
theorem xB{x y:Int}(a:0≤x)(b:x≤1000000)(c:0≤y)(d:y≤10000000000000):B (x+y)=x+y:=bI
theorem T3{kind a S:Int}(ha:0≤a)(fH:a+S≤5000000000000)(hS:0≤S∧S≤65536){s:bp}{r:List ay}{ss:List bp}{b i:Int}(hb:0≤b)(hF:JL kind S f s b i)(q:lO kind a S b run) :
  ∃ run' pre,fO kind a (f::r) (s::ss) run=((fO kind a r ss run').1,pre++(fO kind a r ss run').2)∧0≤i∧lO kind a S i run'∧(∀u∈pre,u∈hh run∨(f.bits=false∧u∈aS f.type (s.at_+a))) ∧
   (f.bits=false→0≤s.at_∧s.at_+(A f.type).1.1≤S∧∀u∈aS f.type (s.at_+a),u∈pre)∧(f.bits=true→0<f.aN→run'.2>0∧run'.1≤s.at_+a∧s.at_+a+s.len≤run'.1+run'.2)∧(run.2>0→run∈pre∨(run'.1=run.1∧run.2≤run'.2)):=by
 obtain⟨x,hs,t,C,v,w,D,E⟩:=hF;have F:0≤(if kind=4 then(0:Int)else b):=by split;decide;exact hb
 have d:0≤i:=by omega
 have m:run.2>0→run∈hh run:=λh=>by unfold hh;rw[aa h];exact acR.2 rfl
 rw[fO];by_cases c:f.bits=false
 · have n:f.bits=false∨f.aN=0∨kind=4:= .inl c;simp only[aa n,aa c];obtain⟨G,H⟩:=w c;have j:s=⟨x.1/8,x.2/8,f.type.kind,false,0,0⟩:=by rw[hs];unfold kC;rw[ae (by rw[c];decide)]
   have y:s.at_=x.1/8:=by rw[j]
   rw[RZ,xB (by omega) (by omega) ha (by omega)];refine⟨(0,0),hh run++aS f.type (s.at_+a),by rw[acI],d,lO.zero _ _ _ _,λu hu=>?_,λ_=>⟨by omega,by omega,λu hu=>List.mem_append_right _ hu⟩,λe=>absurd e (by rw[c];decide),λh=> .inl (acU _ (m h))⟩;exact(aag.1 hu).imp id λh=>⟨c,h⟩
 · have h1:f.bits=true:=by simpa using c
   have hw:=v h1;rw[ae c];have j:s=⟨x.1/8,if x.2>0 then(x.1+x.2-1)/8-x.1/8+1 else 0,1,true,x.1%8,x.2⟩:=by rw[hs];unfold kC;rw[aa h1]
   have y:s.at_=x.1/8:=by rw[j]
   have p:s.len=if x.2>0 then(x.1+x.2-1)/8-x.1/8+1 else 0:=by rw[j]
   by_cases he:f.aN=0∨kind=4
   · have n:f.bits=false∨f.aN=0∨kind=4:= .inr he;simp only[aa n];rw[ae (show ¬((0,0):Int×Int).2>0 by decide)];by_cases g:f.aN>0
     · rw[aa g];have o:x.2>0:=by omega
       rw[aa o]at p;rw[xB (by omega) (by omega) ha (by omega)];exact⟨(s.at_+a,s.len),hh run,rfl,d,λ_=>⟨⟨by show a≤s.at_+a;omega,by show 1≤s.len;omega,by show s.at_+a+s.len≤_;omega⟩,λk=>absurd (he.resolve_left (by omega)) k⟩,λu hu=> .inl hu,λe=>absurd e c,λ_ _=>⟨by show s.len>0;omega,ach _,ach _⟩,λh=> .inl (m h)⟩
     · rw[ae g];exact⟨(0,0),hh run,rfl,d,lO.zero _ _ _ _,λu hu=> .inl hu,λe=>absurd e c,λ_ h=>absurd h g,λh=> .inl (m h)⟩
   · have z:¬(f.bits=false∨f.aN=0∨kind=4):=λe=>e.elim c he;simp only[ae z];have g:f.aN>0:=by omega
     have o:x.2>0:=by omega
     have k:kind≠4:=λe=>he (.inr e);rw[ae k]at t;rw[aa o]at p;by_cases l:run.2>0
     · rw[aa l];obtain⟨⟨i1,i2,i3⟩,i4⟩:=q l;obtain⟨I,J⟩:=i4 k;rw[xB (by omega) (by omega) ha (by omega),show B (s.at_+a+s.len)=s.at_+a+s.len from bI,show B (s.at_+a+s.len-run.1)=s.at_+a+s.len-run.1 from bI];exact⟨(run.1,s.at_+a+s.len-run.1),[],rfl,d,λ_=>⟨⟨i1,by show 1≤s.at_+a+s.len-run.1;omega,by show run.1+(s.at_+a+s.len-run.1)≤_;omega⟩,λ_=>⟨by omega,by show run.1+(s.at_+a+s.len-run.1)-a=_;omega⟩⟩,λu hu=>(by cases hu),λe=>absurd e c,λ_ _=>⟨by show s.at_+a+s.len-run.1>0;omega,by show run.1≤_;omega,by show _≤run.1+(s.at_+a+s.len-run.1);omega⟩,λ_=> .inr ⟨rfl,by show run.2≤s.at_+a+s.len-run.1;omega⟩⟩
     · rw[ae l,aa g,xB (by omega) (by omega) ha (by omega)];exact⟨(s.at_+a,s.len),[],rfl,d,λ_=>⟨⟨by show a≤s.at_+a;omega,by show 1≤s.len;omega,by show s.at_+a+s.len≤_;omega⟩,λ_=>⟨by omega,by show s.at_+a+s.len-a=_;omega⟩⟩,λu hu=>(by cases hu),λe=>absurd e c,λ_ _=>⟨by show s.len>0;omega,ach _,ach _⟩,λh=>absurd h l⟩
section
variable{kind a S:Int}(ha:0≤a)(fH:a+S≤5000000000000)(hS:0≤S∧S≤65536)
include ha fH hS
theorem JN:∀(l:List ay)(ss:List bp)(b:Int)(run:Int×Int),0≤b→Fits kind S l ss b→lO kind a S b run →
  (∀f∈l,f.bits=false→∀c,0≤c→c+(A f.type).1.1≤5000000000000→∀s∈aS f.type c,kh c (A f.type).1.1 s) →
  ∀s∈(fO kind a l ss run).2++hh (fO kind a l ss run).1,kh a S s
 |[],ss,b,run,hb,hf,d,hl=>by rw[fO];exact d.hh
 |f::r,[],b,run,hb,hf,d,hl=>hf.elim
 | f :: r,s::ss,b,run,hb,hf,d,hl=>by
  obtain⟨i,hF,j⟩:=hf;obtain⟨run',pre,e,k,m,hp,n,_⟩:=T3 ha fH hS (r:=r) (ss:=ss) hb hF d;rw[e];intro u hu;dsimp only at hu;rw[acI]at hu;rcases aag.1 hu with hu|hu
  · rcases hp u hu with hu|⟨h,hu⟩
    ·exact d.hh u hu
    · obtain⟨q,t,_⟩:=n h;obtain⟨v,o,w⟩:=hl f (aap ..) h (s.at_+a) (by omega) (by omega) u hu;exact⟨by omega,o,by omega⟩
  ·exact JN r ss i run' k j m (λg p=>hl g (aao _ p)) u hu
end
theorem BQ{t e:T}(h:t.lay)(a:t.kind=5){c:List T}(b:t.aU=e::c):1≤t.bg∧t.bg≤65536∧0≤(A e).1.1∧(A t).1.1=(A e).1.1*t.bg∧(A t).1.1≤65536:=by
 have hs:=fM h.snd;have hle:=xd h a (e:=e) (by rw[b];exact aap ..);obtain⟨b1,b2,_,_⟩:=Bf e (fM hle.snd) hle.of;have hc:1≤t.bg∧t.bg≤65536:=by
  rw[gA]at hs;split at hs
  ·exact absurd hs (by decide)
  · rw[ae (show ¬t.kind=1 by omega),ae (show ¬t.kind=2 by omega)]at hs;split at hs
    ·exact absurd hs (by decide)
    ·omega
 have f:=h.of;have hm:0≤(A e).1.1*t.bg∧(A e).1.1*t.bg≤65536*65536:=⟨acn b1 (by omega),Int.mul_le_mul b2 hc.2 (by omega) (by omega)⟩
 have e1:(A t).1.1=B ((A e).1.1*t.bg):=by rw[lz,bC,aa a,b];rfl
 have d:B ((A e).1.1*t.bg)=(A e).1.1*t.bg:=bI;have hb:=Bf t hs h.of;exact⟨hc.1,hc.2,b1,e1.trans d,hb.2.1⟩
mutual
theorem BR:∀t:T,t.lay→∀a,0≤a→a+(A t).1.1≤5000000000000→∀s∈aS t a,kh a (A t).1.1 s
 | .mk kind size packed aD bg aU,h,a,ha,fH,s,hs=>by
  have hz:=nV (fM h.snd);rw[aS]at hs;by_cases j:kind=1∨kind=2
  · rw[aa j]at hs;have:=(wX (fM h.snd) j).1;rw[acR.1 hs,n_ j];exact⟨ach _,this,ach _⟩
  · rw [ae j]at hs;by_cases d:kind=5
    · rw [aa d]at hs;split at hs
      · rename_i hp;have q:=JO aU λe he=>xd h d he;obtain⟨e,b,_⟩:=lu (fM h.snd) d;have b:aU=[e]:=b;have n:fi aU=A e:=by rw[b,fi]
        have hle:∀a,qe aU a=aS e a:=λa=>by rw[b,qe]
        rw[n]at hp;simp only[n,hle]at hs;obtain⟨c1,c2,c3,o,c5⟩:=BQ h d b;obtain⟨i,hi,p⟩:=List.mem_flatMap.1 hs;rw[List.mem_range'_1]at hi;have c1:1≤bg:=c1;have u:(i:Int)+1≤bg:=by omega
        have hm:(A e).1.1*((i:Int)+1)≤(A e).1.1*bg:=Int.mul_le_mul_of_nonneg_left u c3;have w:0≤(i:Int)*(A e).1.1:=acn (by omega) c3;have x:(A e).1.1*((i:Int)+1)=(i:Int)*(A e).1.1+(A e).1.1:=by rw[Int.mul_add,Int.mul_one,Int.mul_comm]
        have o:_=(A e).1.1*bg:=o;rw[show B ((i:Int)*(A e).1.1)=(i:Int)*(A e).1.1 from bI,show B (a+(i:Int)*(A e).1.1)=a+(i:Int)*(A e).1.1 from bI]at p;obtain⟨y,v,z⟩:=q e (by rw[b];exact aap ..) (a+(i:Int)*(A e).1.1) (by omega) (by omega) s p;exact⟨by omega,v,by omega⟩
      ·cases hs
    · rw[ae d]at hs;have hk:kind=3∨kind=4:=by have:kind=1∨kind=2∨kind=5∨kind=3∨kind=4:=hz;omega
      obtain⟨S,s0,s1,s2,hf⟩:=T2 h hk;refine(JN ha (by omega) ⟨s0,by omega⟩ aD _ 0 (0,0) (ach _) hf (lO.zero _ _ _ _) (JP aD λf hf=>og h hk hf) s hs).mono s1
theorem JO:∀(l:List T),(∀e∈l,e.lay)→∀e∈l,∀c,0≤c→c+(A e).1.1≤5000000000000→∀s∈aS e c,kh c (A e).1.1 s
 |[],hl,e,he=>by cases he
 | t::r,hl,e,he=>by
  rcases aan.1 he with h|he
  ·rw[h];exact λc k c1=>BR t (hl t (aap ..)) c k c1
  ·exact JO r (λg m=>hl g (aao _ m)) e he
theorem JP:∀(l:List ay),(∀f∈l,f.type.lay)→∀f∈l,f.bits=false→∀c,0≤c→c+(A f.type).1.1≤5000000000000→∀s∈aS f.type c,kh c (A f.type).1.1 s
 |[],hl,f,hf,_=>by cases hf
 | .mk E type bits aN::r,hl,f,hf,hb=>by
  rcases aan.1 hf with rfl|hf
  · have h:=hl _ (aap ..);exact λc k c1=>BR type h c k c1
  ·exact JP r (λg m=>hl g (aao _ m)) f hf hb
end
end Rb

namespace Rb
open Go
theorem BS:∀l:List (Int×Int),I.cf (l.flatMap u)=l.flatMap u
 |[]=>rfl
 |x::r=>by rw[abk,jI,BS r];rfl
theorem xC:∀l:List (Int×Int),I.bA (l.flatMap u)=true
 |[]=>rfl
 | x::r=>by rw[abk];show I.bA (.int .i64 x.1 :: .int .i64 x.2::r.flatMap u)=true;simp[I.bA,I.a_,xC r]
theorem T4{H:Z}{id:Nat}{F:I}{b:Bk}(h:eE H id F b):∃x H',jQ H (.ptr id 0)=some (x,H')∧aX x=some x∧∃y z,W 0 x=some y∧O H' 1 false y=some z∧z.cd=av u b.l:=by
 have ha:=h.a.2;rcases h.l.2 with⟨tk,ht,f,c⟩|⟨j,cs,m,c,g,i,k,n⟩
 · have hl:b.l=[]:=Zo.1 f;refine⟨.af [F,.bool b.full],H.set id .gone,?_,rfl,.af [F,.bool b.full],F,rfl,rfl,?_⟩
   ·simp only[jQ,ha,c,gR,Option.map_none,abz]
   ·rw[c,hl];rfl
 · have o:j≠id:=λe=>h.d (by rw[c,←e];rfl);refine⟨.ptr id 0,(H.set j .gone).set id (.row [.aq .dead b.l.length (b.l.flatMap u),.bool b.full]),?_,rfl,.ptr id 0,.aq .dead b.l.length (b.l.flatMap u),rfl,?_,?_⟩
   · simp only[jQ,ha,c,gR,g.2,YO,abz];rw[aa (by rw[i];exact Nat.mul_le_mul_right _ k),n];simp only[ae o]
   ·simp only[O,Z.Hk];rfl
   ·simp only[I.cd,BS];rfl
section
variable{C:Ctx}(ak:bP C)(hT:Cl (ai C) S.bu)(hS:ot (ai C))
include ak hT hS
theorem find_spec:∀t:T,t.lay→JI C t:=by
 refine T.ind λt R U ht=>?_;intro H Q id F b a h hb hQ;have hs:=fM ht.snd;rw[TX]at hQ;refine S.O7 hT ?_;unfold S.f57;simp only[gz,aP,dV,ky,D,cJ,aB,aR];have K : ∀ v:Bool,(v=true↔t.kind=1∨t.kind=2)→S.uU (ai C) (.ptr id 0) (.int .i64 a) (.af t.cells) (.int .i64 t.kind) Q [.bool v] H:=by
  intro v hv;unfold S.uU;simp only[aE,aB];apply aF<;>intro e
  · have hk:=hv.1 e;rw[aa hk]at hQ;simp only[dV,p7,D];rw[show bm [.int .i64 0,.int .i64 0] [(0,1,.int .i64 a),(1,1,.int .i64 t.size)]=some (.agg (u (a,t.size)))from rfl];simp only[D];exact Jw ak hT hS h hb (a,t.size) hQ
  · have hk : ¬(t.kind=1∨t.kind=2):=λq=>e (hv.2 q);rw[ae hk]at hQ;simp only[cJ,D,aB];apply aF<;>intro e
    · have m:t.kind=5:=by simpa using e
      rw[aa m]at hQ;obtain⟨c,g,_⟩:=lu hs m;have hle:=xd ht m (e:=c) (by rw[g];exact aap ..);have V:fi t.aU=A c:=by rw[g,fi]
      have W:∀a b,nY t.aU a b=fk c a b:=λa b=>by rw[g,nY]
      rw[V]at hQ;simp only[W]at hQ;obtain⟨c1,c2,c3,al,c5⟩:=BQ ht m g;have e0:t.aU[0]?=some c:=by rw[g];rfl
      simp only[dV,ls,D];rw[show aO none 6 (av T.cells t.aU) (.int .i64 0)=some (dE T.cells 6 t.aU 0)from cK (by rw[g];exact acV)];simp only[D];rw[dz T.len (by decide) _ e0];simp only[D];refine wP ak hT c (fM hle.snd) _ _ ?_;simp only[lA,bh,abp,abq,D,aJ,aY,aP];rw[cM _ _ _ 2 rfl rfl rfl];simp only[D];have rs:=At.new H (.row (u (A c).1));have p:=Z.Ext.push H (.row (u (A c).1));have am:=h.a.1;have X:bQ F≠some H.n:=h.lt;have L:∀{x:I},NB (H.push (.row (u (A c).1))) F x→NB H F x:=λh=>h.imp (λe=>e) λ⟨j,an,e⟩=>⟨j,by have:=p.1;omega,e⟩
      have ao:(H.push (.row (u (A c).1))).n=H.n+1:=rfl;have main:∀(n i:Nat)(b2:Bk)(k:I)(d:Z),i+n=t.bg.toNat→i7 id H.n F (H.push (.row (u (A c).1))) d→NB (H.push (.row (u (A c).1))) F k→eE d id k b2→b2.ok→At d H.n (.row (u (A c).1)) →
        (if(A c).1.1>0 then j_ (λi b=>fk c (B (a+B (i*(A c).1.1))) b) t.bg.toNat 0 b else b)=(if(A c).1.1>0 then j_ (λi b=>fk c (B (a+B (i*(A c).1.1))) b) n i b2 else b2) →
        aA (S.rI (ai C) (.ptr id 0) (.int .i64 a) (.af t.cells) (.ptr H.n 0) Q) ([.int .i64 i],d):=by
       intro n;induction n with
       | zero=>
        intro i b2 k d hi l r s y z hm;have E:(if(A c).1.1>0 then j_ (λi b=>fk c (B (a+B (i*(A c).1.1))) b) t.bg.toNat 0 b else b)=b2:=by rw[hm];split;rw[j_];rfl
        rw[E]at hQ;refine aA.step ?_;simp only[S.rI,aE,dV,rW,bD,D,cD,aR];rw[ee];unfold S.uT;simp only[aE,cD,aR,ZV,bR];unfold S.pP;simp only[aE,aB,ZV,bR];exact hQ k d ⟨by have:=p.1;have:=l.1;omega,λi o hi G w=>l.2 i o hi (by have:=w.1;omega) G (w.ext p)⟩ (L r) s y
       | succ n Y=>
        intro i b2 k d hi l r s y z hm;refine aA.step ?_;simp only[S.rI,aE,dV,rW,bD,D,cD,aR];rw[dU];have p0:O d 1 false (.ptr H.n 0)=some (.int .i64 (A c).1.1):=by rw[z.load];rfl
        simp only[iZ,p0,D,eu];unfold S.uT;simp only[aE,cD,aR];have fin:((A c).1.1>0→b2.full=true)→S.pP (ai C) (.ptr id 0) (.int .i64 a) (.af t.cells) (.ptr H.n 0) ([.int .i64 i],d) (aA (S.rI (ai C) (.ptr id 0) (.int .i64 a) (.af t.cells) (.ptr H.n 0) Q)) Q [.bool false] d:=by
         intro hf;unfold S.pP;simp only[aE,aB,ZV,bR];have E:(if(A c).1.1>0 then j_ (λi b=>fk c (B (a+B (i*(A c).1.1))) b) t.bg.toNat 0 b else b)=b2:=by
          rw[hm];split
          · rename_i hp;rw[j_,aa (hf hp)]
          ·rfl
         rw[E]at hQ;exact hQ k d ⟨by have:=p.1;have:=l.1;omega,λi o hi G w=>l.2 i o hi (by have:=w.1;omega) G (w.ext p)⟩ (L r) s y
        apply aF<;>intro e
        · have hp:(A c).1.1>0:=by simpa using e
          rw[show aX (.ptr id 0)=some (.ptr id 0)from rfl];simp only[D,iZ,s.ld1,dS];cases M:b2.full
          · unfold S.pP;simp only[aE,aB,Bool.not_false,aY,aR];unfold S.E1;simp only[dV,ls,D];rw[show aO none 6 (av T.cells t.aU) (.int .i64 0)=some (dE T.cells 6 t.aU 0)from cK (by rw[g];exact acV)];simp only[D];rw[dz T.len (by decide) _ e0];simp only[D,iZ,p0,aE,jF,b4];rw[aa hp,aa hp,j_,M,el]at hm;refine U c (by rw[g];exact aap ..) hle s y λab ac N ad ag ah=>?_;rw[bI,cN];have aj:bQ k≠some H.n:=r.ne (by omega) X;refine Y (i+1) _ ab ac (by omega) (l.trans r N.three) (r.trans l.1 ad) ag ah (N.2 _ _ (by omega) aj z) ?_;rw[aa hp,aa hp];exact hm
          · rw[ab2];exact fin λ_=>M
        · have hp:¬(A c).1.1>0:=by simpa using e
          exact fin λq=>absurd q hp
      exact main t.bg.toNat 0 b F _ (by omega) (i7.refl _ _ _ _) (.inl rfl) (h.ext p) hb rs rfl
    · have m:¬t.kind=5:=by simpa using e
      rw[ae m]at hQ;have P:t.kind=3∨t.kind=4:=by have:=nV hs;omega
      simp only[iU,D];exact TZ ak hT hS ht P (λf hf=>R f hf (og ht P hf)) h hb hQ
 apply aF<;>intro e
 · have J:t.kind=1:=by simpa using e
   exact K _ ⟨λ_=> .inl J,λ_=>e⟩
 · have J:¬t.kind=1:=by simpa using e
   exact K _ ⟨λq=> .inr (by simpa using q),λq=>by simpa using q.resolve_left J⟩
theorem T5{t:T}(ht:t.ok):bE (ai C) 30 [.agg t.cells] (.ar [av u (eC t).1,.int .i64 (eC t).2]):=by
 refine bE.of ak (by simp[I.bA,I.a_,T.a_]) (by show I.a_ (.ar [.aq .dead (eC t).1.length ((eC t).1.flatMap u),.int .i64 _])=true;simp[I.a_,I.bA,xC,Tok.free]) λQ hQ=>?_
 refine ai.cd ?_;refine S.OV hT ?_;unfold S.f30;simp only[gz,aP,iU,D];refine S.Ah hT (AL ak hT t ht λH1=>?_);simp only[bh,abp,abq,D,aP,aJ,aY];rw[cM _ _ _ 2 rfl rfl rfl];simp only[D,dZ,aB];apply aF<;>intro e
 · have a:(aZ t).2≠0:=by simpa using e
   have hl:eC t=([],(aZ t).2):=by unfold eC;rw[aa a]
   rw[hl]at hQ;exact hQ _
 · have a:(aZ t).2=0:=by simpa using e
   have d:=oe ht a;generalize H1.push (.row [.int .i64 (aZ t).1.1,.int .i64 (aZ t).1.2])=H2 at *;rw[show bm [.aq .nil 0 [],.bool false] []=some (.agg [.aq .nil 0 [],.bool false])from rfl];simp only[D];rw[show aK H2 true 2 (.agg [.aq .nil 0 [],.bool false])=some (.ptr H2.n 0,H2.push (.row [.aq .nil 0 [],.bool false]))from rfl];simp only[aP,iU,D];have hb:eE (H2.push (.row [.aq .nil 0 [],.bool false])) H2.n (.aq .nil 0 []) ⟨[],false⟩:=⟨At.new H2 _,cP.nil _ _,λe=>by cases e⟩
   refine find_spec ak hT hS t d hb ⟨Yz _,λ_=>Yz _⟩ λh i j k f g=>?_;refine Jv ak hT hS f g.1 λm o n4 p r b=>?_;have c:eC t=if((fk t 0 ⟨[],false⟩).tidy).full then([],12)else(((fk t 0 ⟨[],false⟩).tidy).l,0):=by unfold eC;rw[ae (λq=>q a)]
   rw[show aX (.ptr H2.n 0)=some (.ptr H2.n 0)from rfl];simp only[D,iZ,b.ld1,aB];apply aF<;>intro e
   · rw[c,aa e]at hQ;exact hQ _
   · rw[c,ae e]at hQ;obtain⟨x,s,f1,f2,y,z,f3,f4,f5⟩:=T4 b;rw[f1];simp only[aP,f2,D,f3,f4];simp only[I.cd,I.cf,f5];exact hQ _
end
end Rb

namespace Rb
open Go
end Rb

namespace Rb
open Go
variable{a b:Int×Int}
def mZ(s:Int×Int):Bool:=decide (s.1≥0)&&decide (s.1≤1099511627776)&&decide (s.2≥0)&&decide (s.2≤1048576)
def fc(s:Int×Int):Int×Int:=if mZ s=true then(s.1,B (s.1+s.2))else(0,0)
def qo(b c:Int×Int):Int×Int:=if max b.1 c.1≥min b.2 c.2 then(0,0)else(max b.1 c.1,min b.2 c.2)
def gF(a b:Int×Int):Bool:=(fc a).1==(fc a).2||(qo (fc a) (fc b)==fc a)
theorem within_iff(ha:0≤a.1∧a.1≤1099511627776∧1≤a.2∧a.2≤1048576)(hb:0≤b.1∧b.1≤1099511627776∧0≤b.2∧b.2≤1048576):gF a b=true↔b.1≤a.1∧a.1+a.2≤b.1+b.2:=by
 have e1:fc a=(a.1,a.1+a.2):=by unfold fc mZ;rw[oM,show B (a.1+a.2)=a.1+a.2 from bI]
 have d:fc b=(b.1,b.1+b.2):=by unfold fc mZ;rw[oM,show B (b.1+b.2)=b.1+b.2 from bI]
 unfold gF;rw[e1,d];unfold qo;dsimp only;rw[X8,bG,bG];constructor
 · rintro (h|h)
   ·omega
   · split at h
     · have h1:=congrArg abm h;have c:=congrArg acW h;dsimp only at h1 c;omega
     · have h1:=congrArg abm h;have c:=congrArg acW h;dsimp only at h1 c;omega
 · intro h;right;rw[bC];exact acX (by dsimp only;omega) (by dsimp only;omega)
theorem T6(ha:¬(0≤a.1∧a.1≤1099511627776∧1≤a.2∧a.2≤1048576)):gF a b=true:=by
 unfold gF;rw[X8,bG];left;unfold fc mZ;split
 · rename_i h;simp at h;dsimp only;rw[show B (a.1+a.2)=a.1+a.2 from bI];omega
 ·rfl
def jv(s a x:Int×Int):Int×Int:=if gF s x=true∧(a.2=0∨x.2<a.2)then x else a
def m_(l:List (Int×Int))(s:Int×Int):Int×Int:=l.foldl (jv s) (0,0)
theorem BU{s:Int×Int}:∀(l:List (Int×Int)) (o:Int×Int),(∀x∈l,1≤x.2)→(l.foldl (jv s) o=o∨(l.foldl (jv s) o∈l∧gF s (l.foldl (jv s) o)=true))∧(o.2=0→(∃x∈l,gF s x=true)→l.foldl (jv s) o∈l∧gF s (l.foldl (jv s) o)=true)
 |[],o,h=>⟨.inl rfl,λ_ ⟨x,a,_⟩=>by cases a⟩
 | y :: r,o,h=>by
  rw[YB];have b:∀x∈r,1≤x.2:=λx a=>h x (aao _ a);have g:=h y (aap ..);by_cases hc:gF s y=true∧(o.2=0∨y.2<o.2)
  · have e:jv s o y=y:=aa hc;rw[e];obtain⟨i1,_⟩:=BU r y b;have:r.foldl (jv s) y∈y::r∧gF s (r.foldl (jv s) y)=true:=by
     rcases i1 with i1|⟨i1,i2⟩
     ·rw[i1];exact⟨aap ..,hc.1⟩
     ·exact⟨aao _ i1,i2⟩
    exact⟨.inr this,λ_ _=>this⟩
  · have e:jv s o y=o:=ae hc;rw[e];obtain⟨i1,i2⟩:=BU r o b;refine⟨i1.imp id λh=>⟨aao _ h.1,h.2⟩,λc ⟨x,a,hw⟩=>?_⟩;rcases aan.1 a with rfl|a
    ·exact absurd ⟨hw,.inl c⟩ hc
    · obtain⟨d,f⟩:=i2 c ⟨x,a,hw⟩;exact⟨aao _ d,f⟩
theorem T7{l:List (Int×Int)}{s:Int×Int}(hl:∀x∈l,1≤x.2):m_ l s=(0,0)∨m_ l s∈l:=(BU l (0,0) hl).1.imp id And.left
def fm:List U→List bp→Option (List (Int×Int))
 |v::r,g::s=>if(eC v.type).2≠0 then none else(fm r s).map λl=>(eC v.type).1.map (λx=>(B (g.at_+x.1),x.2))++l
 |_,_=>some []
def cU(vars:List U)(a:List UInt8)(done:List K):List K→List Int
 |[]=>[]
 |p::r=>(if p.bb=[]then []else [nX vars ⟨a,done⟩])++cU vars a (done++[p]) r
def gP:List Int→Int→Option Int
 |[],a=>some a
 |n::r,a=>if B (a*n)>4096 then none else gP r (B (a*n))
def eN:List Int→List (List Int)
 |[]=>[[]]
 |n::r=>(YS n.toNat).flatMap λ(i:Nat)=>(eN r).map λl=>(i:Int)::l
def iG(k:Int):Bool:=(decide (k≥3)&&decide (k≤6))||(decide (k≥16)&&decide (k≤18))
end Rb

namespace Rb
open Go
def na(g:Int)(l:List (Int×Int)):List (Int×Int):=l.map λx=>(B (g+x.1),x.2)
def h3:List U→List bp→List (Int×Int)→List (Int×Int)×Int
 |v::r,g::s,acc=>if(eC v.type).2≠0 then([],(eC v.type).2)else h3 r s (acc++na g.at_ (eC v.type).1)
 |_,_,acc=>(acc,0)
theorem JQ:∀(r:List U)(s:List bp)(a:List (Int×Int)),(∃l,fm r s=some l∧h3 r s a=(a++l,0))∨(fm r s=none∧(h3 r s a).2≠0)
 |[],s,a=> .inl ⟨[],by rw[fm];intros;simp_all,by rw[h3];simp;intros;simp_all⟩
 |v::r,[],a=> .inl ⟨[],by rw[fm];intros;simp_all,by rw[h3];simp;intros;simp_all⟩
 | v :: r,g::s,a=>by
  rw[fm,h3];by_cases h:(eC v.type).2≠0
  ·rw[aa h,aa h];exact .inr ⟨rfl,h⟩
  · rw[ae h,ae h];rcases JQ r s (a++na g.at_ (eC v.type).1)with⟨l,h1,b⟩|⟨h1,b⟩
    ·exact .inl ⟨na g.at_ (eC v.type).1++l,by rw[h1];rfl,by rw[b,acI]⟩
    ·exact .inr ⟨by rw[h1];rfl,b⟩
theorem JR{t:T}(h:(eC t).2=0):(eC t).1.length≤4096:=by
 unfold eC at h ⊢;split at h
 ·rename_i q;exact absurd h q
 · rename_i q;rw[ae q];split at h
   ·cases h
   · rename_i k;rw[ae k];have k':((fk t 0 ⟨[],false⟩).full||decide ((cw (ef (fk t 0 ⟨[],false⟩).l)).length>4096))=false:=by simpa[Bk.tidy]using k
     rw[Bool.or_eq_false_iff,decide_eq_false_iff_not]at k';have:(fk t 0 ⟨[],false⟩).tidy.l=cw (ef (fk t 0 ⟨[],false⟩).l):=rfl;rw[this];dsimp only;omega
section
variable{C:Ctx}(ak:bP C)(hT:Cl (ai C) S.bu)(hS:ot (ai C))
include ak hT hS
theorem T8{vars:List U}(hv:gO vars):bE (ai C) 11 [av U.cells vars] (.ar [av u (h3 vars (cy 0 vars) []).1,.int .i64 (h3 vars (cy 0 vars) []).2]):=by
 have hl:=hv.l;have ao:(cy 0 vars).length=vars.length:=by
  have:∀(l:List U)(a:Int),(cy a l).length=l.length:=by
   intro l;induction l with
   |nil=>intro a;rw[cy];rfl
   |cons v r j=>intro a;rw[cy,abJ,abJ,j]
  exact this _ _
 refine bE.of ak (by simp[I.bA,j4 U.a_]) (by show I.a_ (.ar [.aq .dead (h3 vars (cy 0 vars) []).1.length ((h3 vars (cy 0 vars) []).1.flatMap u),.int .i64 _])=true;simp[I.a_,I.bA,xC,Tok.free]) λQ hQ=>?_
 refine ai.cd ?_;refine S.OM hT ?_;unfold S.f11;refine Bn ak hT (by omega) hv.o _ _ ?_;rw[show kc vars = .ar [.aq .dead vars.length (ea vars (cy 0 vars)),.int .i64 (gM 0 vars),.int .i64 0] by unfold kc;rw[IX hv.z hv.e];rfl];simp only[bh,abp,abq,D,dZ,aB,cO];rw[el];generalize G:h3 vars (cy 0 vars) []=R at *;have main:∀(r:List U)(k:Nat)(acc:List (Int×Int)) (x:I) (H:Z),vars.drop k=r→k≤vars.length→acc.length≤4096*k→cC 0 H 2 x acc.length (acc.flatMap u)→h3 r ((cy 0 vars).drop k) acc=R →
   aA (S.rC (ai C) (av U.cells vars) (.aq .dead vars.length (ea vars (cy 0 vars))) (.int .i64 vars.length) λv H'=>Q v.cd H') ([x,.int .i64 k],H):=by
  intro r;induction r with
  | nil=>
   intro k acc x H s hk ha t he;have hle:=ek s;refine aA.step ?_;simp only[S.rC,aE,cW,bD,D,aB,aR,S.Ep];rw[ee];have J:R=(acc,0):=by rw[←he,h3];intros;simp_all
   rw[J]at hQ;obtain⟨tk,rfl,_,_⟩:=t;simp only[I.cd,I.cf,BS];exact hQ _
  | cons v r j=>
   intro k acc x H s hk ha t he;obtain⟨F,w,K⟩:=ed s;have M:=hv.o v (aaN w);have N:v.type.ok:=M.2;obtain⟨g,tl,P,_,T⟩:=Bt (a:=0) w;rw[drop_cons P,h3]at he;refine aA.step ?_;simp only[S.rC,aE,cW,bD,D,aB];rw[dU,cK F];simp only[D];rw[dz U.len (by decide) _ w];simp only[D,aP,aJ,aY];rw[cM _ _ _ 7 v.len v.scalar rfl];have a2:=At.new H (.row v.cells);have V:cC 0 (H.push (.row v.cells)) 2 x acc.length (acc.flatMap u):=t.frame λ_ _ _ q=>q.push _;simp only[D,W,YO];rw[IE a2];simp only[D];generalize H.push (.row v.cells)=H2 at *;refine T5 ak hT hS N _ _ ?_;simp only[bh,abp,abq,D,dZ,aB,cO];apply aF<;>intro h
   · have f:(eC v.type).2≠0:=by simpa using h
     rw[aa f]at he;rw[←he]at hQ;exact hQ H2
   · have f:(eC v.type).2=0:=by simpa using h
     rw[ae (λq=>q f)]at he;have ap:=JR f;generalize (eC v.type).1=L at *;have inner:∀(q:List (Int×Int)) (i:Nat) (c:List (Int×Int)) (d:I) (b:Z),L.drop i=q→c.length=acc.length+i→cC 0 b 2 d c.length (c.flatMap u)→c++na g.at_ q=acc++na g.at_ L →
       aA (S.uE (ai C) (.aq .dead vars.length (ea vars (cy 0 vars))) (av u L) (.int .i64 L.length) ([x,.int .i64 k],H) (aA (S.rC (ai C) (av U.cells vars) (.aq .dead vars.length (ea vars (cy 0 vars))) (.int .i64 vars.length) λv H'=>Q v.cd H')) λv H'=>Q v.cd H') ([d,.int .i64 i],b):=by
      intro q;induction q with
      | nil=>
       intro i c d b y fH A E;have hle:=ek y;refine aA.step ?_;simp only[S.uE,aE,cW,bD,D,aB,aR];rw[ee];simp only[S.Eo,aE,cW,b4,D];rw[bI,cN];have X:c=acc++na g.at_ L:=by rw[←E];simp[na]
       subst X;refine j (k+1) _ d b K F ?_ A he;rw[abI,na,aaz];omega
      | cons p q Y=>
       intro i c d b y fH A E;obtain⟨ab,ac,ad⟩:=ed y;refine aA.step ?_;simp only[S.uE,aE,cW,bD,D,aB];rw[dU,cK ab];simp only[D];rw[dz (cells:=u) (sz:=2) (λ_=>rfl) (by decide) _ ac];simp only[D,aP,aJ,aY];rw[cM _ _ _ 2 rfl rfl rfl];have a4:=At.new b (.row (u p));have ag:cC 0 (b.push (.row (u p))) 2 d c.length (c.flatMap u):=A.frame λ_ _ _ q=>q.push _;simp only[D,W,YO];rw [show aO none 3 (.aq .dead vars.length (ea vars (cy 0 vars))) (.int .i64 k)=some (.af ((ea vars (cy 0 vars)).drop (k*3))) by show(if 0≤(k:Int)∧(k:Int)<(vars.length:Nat)then some (I.af ((ea vars (cy 0 vars)).drop ((k:Int).toNat*3)))else none)=_;rw[aa ⟨by omega,by omega⟩,Zc]]
       rw[T];simp only[D,W,aa2,abz];have e1:∀H,O H 1 false (.af (.int .i64 g.at_ :: .int .i64 g.len::tl))=some (.int .i64 g.at_):=λ_=>rfl;have ah:O (b.push (.row (u p))) 1 false (.ptr b.n 0)=some (.int .i64 p.1):=by rw[a4.load];rfl
       have aj:O (b.push (.row (u p))) 1 false (.ptr b.n 1)=some (.int .i64 p.2):=by rw[a4.load];rfl
       simp only[e1,ah,aj,D,b4];rw[show bm [.int .i64 0,.int .i64 0] [(0,1,.int .i64 (Zb .i64 (g.at_+p.1))),(1,1,.int .i64 p.2)]=some (.agg (u (B (g.at_+p.1),p.2)))from rfl];simp only[D];rw[show dk (b.push (.row (u p))) false 2 1 [.int .i64 0,.int .i64 0] [(0,2,.agg (u (B (g.at_+p.1),p.2)))]=some (.aq .full 1 (u (B (g.at_+p.1),p.2)),b.push (.row (u p)))from rfl];simp only[aP];refine ag.app (Yz _) (m:=1) (news:=u (B (g.at_+p.1),p.2)) rfl rfl rfl (by decide) (by omega) (by omega) λal am an _=>?_;rw[wrap_i64 (n:=(i:Int)+1) (by omega) (by omega),cN];refine Y (i+1) (c++[(B (g.at_+p.1),p.2)]) al am ad (by rw[abI,fH];rfl) ?_ ?_
       ·rw[abI,acH];exact an
       ·rw[←E,acI];rfl
     exact inner L 0 acc x H2 rfl rfl V rfl
 exact main vars 0 [] _ _ rfl (Yz _) (Yz _) (cC.nil _ _ _) G
end
end Rb

namespace Rb
open Go
theorem ow(p:Int×Int)(H:Z):aK H false 2 (.agg (u p))=some (.af (u p),H):=by unfold aK;rw[aa ⟨rfl,rfl⟩];rfl
theorem xD(p:Int×Int):W 0 (.af (u p))=some (.af (u p)):=rfl
theorem xE(p:Int×Int):W 1 (.af (u p))=some (.af [.int .i64 p.2]):=rfl
theorem xF(p:Int×Int)(H:Z):O H 1 false (.af (u p))=some (.int .i64 p.1):=rfl
theorem xG(l:Int)(H:Z):O H 1 false (.af [.int .i64 l])=some (.int .i64 l):=rfl
theorem xH(p:Int×Int)(H:Z):O H 2 true (.af (u p))=some (.agg (u p)):=rfl
theorem T9(p:Int×Int):bT (u p) 0 1 false=some (.int .i64 p.1):=rfl
theorem T_(p:Int×Int):bT (u p) 1 1 false=some (.int .i64 p.2):=rfl
theorem qp(p:Int×Int):bT (u p) 0 2 true=some (.agg (u p)):=rfl
theorem sK:[I.int .i64 0,I.int .i64 0]=u (0,0):=rfl
theorem BV:bm (u (0,0)) []=some (.agg (u (0,0))):=rfl
theorem JS(a b:Int):bm (u (0,0)) [(0,1,.int .i64 a),(1,1,.int .i64 b)]=some (.agg (u (a,b))):=rfl
theorem qq(H:Z)(a b:Int×Int):Y (H.push (.row (u a))) 2 (.ptr H.n 0) (.agg (u b))=some (H.push (.row (u b))):=cM H _ _ 2 rfl rfl rfl
theorem Ua(a b:Int):fo true [.int .i64 a,.int .i64 b]=some (.int .i64 (max a b)):=by simp only[fo,ni,qA,aY];congr 2;show(if a<b then b else a)=max a b;omega
theorem Ub(a b:Int):fo false [.int .i64 a,.int .i64 b]=some (.int .i64 (min a b)):=by simp only[fo,ni,qA,ZV,bR];congr 2;show(if b<a then b else a)=min a b;omega
theorem Uc(H:Z)(x:bL)(c:Int×Int):Y ((H.push (.row (u (0,0)))).push x) 2 (.ptr H.n 0) (.agg (u c))=some (((H.push (.row (u (0,0)))).push x).set H.n (.row (u c))):=by rw[((At.new H _).push x).store,aa ⟨rfl,rfl,rfl,by decide⟩];rfl
theorem Ud(H:Z)(y x:bL)(c:Int×Int):O (((H.push y).push x).set H.n (.row (u c))) 2 true (.ptr H.n 0)=some (.agg (u c)):=by rw[(At.set ((At.new H y).push x) _).load];rfl
section
variable{C:Ctx}(ak:bP C)(hT:Cl (ai C) S.bu)
include ak hT
theorem Ue(s:Int×Int):bE (ai C) 94 [.agg (u s)] (.bool (mZ s)):=by refine bE.of ak rfl rfl λQ hQ=>S.G8 hT ?_;unfold S.f94;unfold mZ at hQ;simp only[ow,aP,xD,xE,xF,xG,D,f_,ji,cD,aR,S.vf,S.ve,aE];by_cases h1:s.1≥0<;>by_cases a:s.1≤1099511627776<;>by_cases b:s.2≥0<;>by_cases c:s.2≤1048576<;>simp only[h1,a,b,c,decide_true,decide_false,aY,bR,ZV,abh,acs,acY,acZ]at hQ ⊢ <;> exact hQ _
theorem JT(s:Int×Int):bE (ai C) 60 [.agg (u s)] (.agg (u (fc s))):=by
 refine bE.of ak rfl rfl λQ hQ=>S.O_ hT ?_;unfold S.f60;simp only[ow,aP,sK,aJ,aY,xH,D];refine Ue ak hT s _ _ ?_;unfold fc at hQ;simp only[dS,D,aB];apply aF<;>intro e
 · have a:¬mZ s=true:=by simpa using e
   rw[ae a]at hQ;simp only[BV,D,qq,eK,qp];exact hQ _
 · have a:mZ s=true:=by simpa using e
   rw[aa a]at hQ;simp only[xD,xF,xE,xG,D,b4,JS,qq,eK,qp];exact hQ _
theorem Uf(a b:Int×Int):bE (ai C) 62 [.agg (u a),.agg (u b)] (.agg (u (qo a b))):=by
 refine bE.of ak rfl rfl λQ hQ=>S.Pb hT ?_;unfold S.f62;unfold qo at hQ;simp only[ow,aP,sK,aJ,aY,xD,xF,xE,xG,D,Ua,Ub,JS];simp only[qq,iZ,eK,T9,T_,D,f_,aB,dQ,BV,qp,Uc,Ud];apply aF<;>intro e
 ·rw[aa e]at hQ;exact hQ _
 ·rw[ae e]at hQ;exact hQ _
theorem Ug(a:Int×Int):bE (ai C) 61 [.agg (u a)] (.bool (a.1==a.2)):=by refine bE.of ak rfl rfl λQ hQ=>S.Pa hT ?_;unfold S.f61;simp only[ow,aP,xD,xF,xE,xG,D,cJ];exact hQ _
theorem JU(a b:Int×Int):bE (ai C) 35 [.agg (u a),.agg (u b)] (.bool (gF a b)):=by
 refine bE.of ak rfl rfl λQ hQ=>S.OY hT ?_;unfold S.f35;unfold gF at hQ;simp only[ow,aP,xH,D];refine JT ak hT a _ _ ?_;simp only[sK,aJ,aY,aP,qq,eK,qp,D];refine Ug ak hT (fc a) _ _ ?_;simp only[cv,eK,qp,D];by_cases h:(fc a).1==(fc a).2
 · rw[h]at hQ ⊢;simp only[ac0]at hQ;simp only[ab0,bR];exact⟨λq=>(by cases q),λq=>(by cases q),λq=>(by cases q),hQ _⟩
 · have c:((fc a).1==(fc a).2)=false:=by simpa using h
   rw[c]at hQ ⊢;simp only[aai]at hQ;simp only[aY];refine JT ak hT b _ _ ⟨λ_=>rfl,λ_=>rfl,?_⟩;refine Uf ak hT (fc a) (fc b) _ _ ⟨λ_=>rfl,?_⟩;rw[BG];simp only[D,ZV,bR];rw[show(qo (fc a) (fc b)==fc a)=decide (qo (fc a) (fc b)=fc a)from by rw[Bool.eq_iff_iff,bG,dQ]]at hQ;exact hQ _
theorem Uh(k:Int):bE (ai C) 16 [.int .i64 k] (.bool (iG k)):=by refine bE.of ak rfl rfl λQ hQ=>S.OQ hT ?_;unfold S.f16;unfold iG at hQ;simp only[f_,ji,D,cD,aR,S.zM,cv,aE];by_cases h1:k≥3<;>by_cases a:k≤6<;>by_cases b:k≥16<;>by_cases c:k≤18<;>simp only[h1,a,b,c,decide_true,decide_false,aY,bR,ZV,ab0,abh,acs,acY,acZ,Bool.or_false,aai,Bool.or_true,ac0]at hQ ⊢ <;> exact hQ _
theorem Ui(l:List (Int×Int))(hl:l.length≤9223372036854775806)(s:Int×Int):bE (ai C) 20 [av u l,.agg (u s)] (.agg (u (m_ l s))):=by
 refine bE.of ak (by show I.bA [.aq .dead l.length (l.flatMap u),.agg (u s)]=true;simp[I.bA,I.a_,xC,Tok.free,u]) rfl λQ hQ=>S.OU hT ?_
 unfold S.f20;simp only[ow,aP,sK,aJ,aY,BV,D,cO];rw[qq];simp only[D];have p:=(At.new Z.mt (.row (u (0,0)))).push (.row (u (0,0)));have t:=At.new (Z.mt.push (.row (u (0,0)))) (.row (u (0,0)));have main:∀(r:List (Int×Int)) (i:Nat) (o:Int×Int) (H:Z),l.drop i=r→At H Z.mt.n (.row (u (0,0)))→At H (Z.mt.push (.row (u (0,0)))).n (.row (u o))→r.foldl (jv s) o=m_ l s →
   aA (S.pO (ai C) (av u l) (.af (u s)) (.ptr Z.mt.n 0) (.ptr (Z.mt.push (.row (u (0,0)))).n 0) (.int .i64 l.length) Q) ([.int .i64 i],H):=by
  intro r;have w:Z.mt.n≠(Z.mt.push (.row (u (0,0)))).n:=YM (aaP _);generalize (Z.mt.push (.row (u (0,0)))).n=j at *;generalize Z.mt.n=g at *;induction r with
  | nil=>intro i o H h b k he;have hle:=ek h;refine aA.step ?_;simp only[S.pO,aE,bD,D,aB,aR,S.ED];rw[ee];have e1:O H 2 true (.ptr j 0)=some (.agg (u o)):=k.all (n:=2) rfl;rw[e1];simp only[D];rw[b.put (n:=2) rfl rfl rfl];simp only[D];rw[(b.set (.row (u o))).all (n:=2) rfl];simp only[D];rw[List.foldl_nil]at he;rw[he];exact hQ _
  | cons x r y=>
   intro i o H h b k he;obtain⟨z,A,B⟩:=ed h;rw[YB]at he;refine aA.step ?_;simp only[S.pO,aE,bD,D,aB];rw[dU,cK z];simp only[D];rw[dz (cells:=u) (sz:=2) (λ_=>rfl) (by decide) _ A];simp only[D,aP,aJ,aY,sK];rw[qq];have a4:=At.new H (.row (u x));have m:=b.push (.row (u x));have c:=k.push (.row (u x));simp only[D,xH,eK,qp];generalize H.push (.row (u x))=H2 at *;refine JU ak hT s x _ _ ?_;have nx:∀(d:Int×Int)(a:Z),At a g (.row (u (0,0)))→At a j (.row (u d))→jv s o x=d→S.uM (ai C) ([.int .i64 i],H) (aA (S.pO (ai C) (av u l) (.af (u s)) (.ptr g 0) (.ptr j 0) (.int .i64 l.length) Q)) Q [] a:=by intro d a g3 g6 E;simp only[S.uM,aE,b4,D];rw[bI,cN];exact y (i+1) d a B g3 g6 (by rw[←E];exact he)
   have k2:∀v:Bool,(v=true↔gF s x=true∧(o.2=0∨x.2<o.2))→S.rH (ai C) (.ptr j 0) (.ptr H.n 0) ([.int .i64 i],H) (aA (S.pO (ai C) (av u l) (.af (u s)) (.ptr g 0) (.ptr j 0) (.int .i64 l.length) Q)) Q [.bool v] H2:=by
    intro v hv;simp only[S.rH,aE,aB,aR];apply aF<;>intro e
    · rw[a4.all (n:=2) rfl];simp only[D];rw[c.put (n:=2) rfl rfl rfl];simp only[D];exact nx x _ (m.bZ w _) (c.set _) (by unfold jv;rw[aa (hv.1 e)])
    ·exact nx o _ m c (by unfold jv;rw[ae (λq=>e (hv.2 q))])
   have e1:O H2 1 false (.ptr j 1)=some (.int .i64 o.2):=by rw[c.load];rfl
   have F:O H2 1 false (.ptr H.n 1)=some (.int .i64 x.2):=by rw[a4.load];rfl
   simp only[cD,cv,iZ,e1,F,D,cJ,bD,aR];cases hw:gF s x
   · simp only[ZV,bR,aY];exact k2 false ⟨λq=>(by cases q),λq=>(by rw[hw]at q;exact absurd q.1 (by decide))⟩
   · simp only[aY];by_cases f:o.2=0
     · rw[show(o.2==0)=true by simpa using f];simp only[ab0,bR];exact k2 true ⟨λ_=>⟨hw,.inl f⟩,λ_=>rfl⟩
     · rw[show(o.2==0)=false by simpa using f];simp only[aY];exact k2 _ ⟨λq=>⟨hw,.inr (by simpa using q)⟩,λq=>by simpa using q.2.resolve_left f⟩
 exact main l 0 (0,0) _ rfl p t rfl
end
end Rb

namespace Rb
open Go
def di(n:Int):List I:=[.int .i64 n]
theorem JV:∀l:List Int,I.cf (l.flatMap di)=l.flatMap di
 |[]=>rfl
 |x::r=>by rw[abk,jI,JV r];rfl
theorem JW:∀l:List Int,I.bA (l.flatMap di)=true
 |[]=>rfl
 | x::r=>by rw[abk];show I.bA (.int .i64 x::r.flatMap di)=true;simp[I.bA,I.a_,JW r]
theorem BW(vars:List U)(a:List UInt8):∀(r done:List K),(cU vars a done r).length≤r.length
 |[],done=>by rw[cU];exact sl _
 | p::r,done=>by
  rw[cU,abI,abJ];have:=BW vars a r (done++[p]);split
  ·simp;omega
  ·simp;omega
theorem Uj{x:aM}(h:x.ok)(k:Nat):(aM.mk x.var (x.aC.take k)).ok:=by
 cases x with
 | mk var aC=>obtain⟨h1,a,b⟩:=h;exact⟨h1,xl (by rw[ab3];exact Nat.min_le_right _ _) a,K.dY.2 λp hp=>K.dY.1 b p (List.mem_of_mem_take hp)⟩
theorem Uk(r:Int×T):bT (ft r) 4 1 false=some (.int .i64 (if r.1=0 then r.2.bg else 0)):=by
 unfold ft;split
 ·rw[T.bF];rfl
 ·rfl
section
variable{C:Ctx}(ak:bP C)(hT:Cl (ai C) S.bu)
include ak hT
theorem Ul{vars:List U}(hl:vars.length≤1000000)(hv:∀v∈vars,v.ok){x:aM}(i:x.ok)(hp:x.aC.length≤1000000):bE (ai C) 17 [av U.cells vars,.agg x.cells] (av di (cU vars x.var [] x.aC)):=by
 refine bE.of ak (by simp[I.bA,I.a_,aM.a_,j4 U.a_]) (by show I.a_ (.aq .dead _ ((cU vars x.var [] x.aC).flatMap di))=true;simp[I.a_,JW,Tok.free]) λQ hQ=>?_
 refine ai.cd ?_;refine S.OR hT ?_;unfold S.f17;simp only[qh,aP,Bg,se,D,cO];generalize j:cU vars x.var [] x.aC=R at *;have main:∀(r:List K)(k:Nat)(acc:List Int)(y:I)(H:Z),x.aC.drop k=r→k≤x.aC.length→acc.length≤k→cC 0 H 1 y acc.length (acc.flatMap di)→acc++cU vars x.var (x.aC.take k) r=R →
   aA (S.rG (ai C) (av U.cells vars) (.af x.cells) (av K.cells x.aC) (.int .i64 x.aC.length) λv H'=>Q v.cd H') ([y,.int .i64 k],H):=by
  intro r;induction r with
  | nil=>intro k acc y H c hk ha d he;have hle:=ek c;refine aA.step ?_;simp only[S.rG,aE,cW,bD,D,aB];rw[ee];rw[cU,abQ]at he;subst he;obtain⟨tk,rfl,_,_⟩:=d;simp only[I.cd,JV];exact hQ _
  | cons p r l=>
   intro k acc y H c hk ha d he;obtain⟨f,g,n⟩:=ed c;have o:x.aC.take (k+1)=x.aC.take k++[p]:=by rw[abR,g];rfl
   rw[cU,←o,←acI]at he;refine aA.step ?_;simp only[S.rG,aE,cW,bD,D,aB];rw[dU,cK f];simp only[D];rw[dz K.len (by decide) _ g];simp only[D,aP,aJ,aY];rw[cM _ _ _ 2 p.len p.scalar rfl];have a2:=At.new H (.row p.cells);have h:cC 0 (H.push (.row p.cells)) 1 y acc.length (acc.flatMap di):=d.frame λ_ _ _ q=>q.push _;simp only[D,W,YO];rw[Iu a2];simp only[D,cO,eu,aB];generalize H.push (.row p.cells)=H2 at *;have k1:∀(a:List Int)(b:I)(H':Z),a.length≤k+1→cC 0 H' 1 b a.length (a.flatMap di)→a=acc++(if p.bb=[]then []else [nX vars ⟨x.var,x.aC.take k⟩]) →
     S.uJ (ai C) ([y,.int .i64 k],H) (aA (S.rG (ai C) (av U.cells vars) (.af x.cells) (av K.cells x.aC) (.int .i64 x.aC.length) λv H'=>Q v.cd H')) (λv H'=>Q v.cd H') [b] H':=by
    intro a b H' h1 s t;simp only[S.uJ,aE,cW,b4,D];rw[bI,cN];exact l (k+1) a b H' n f h1 s (by rw[t];exact he)
   simp only[aR];apply aF<;>intro e
   · have hi:p.bb≠[]:=λq=>by rw[q]at e;simp at e
     have g0:∀H,O H 1 false (.af (x.cells.drop 0))=some (.str x.var):=Bh x;have g1:∀H,O H 1 false (.af (x.cells.drop 1))=some (av K.cells x.aC):=se x;simp only[g0,g1,D];rw[S3 K.len x.aC (by omega)];simp only[D];rw[show bm [.str [],.aq .nil 0 []] [(0,1,.str x.var),(1,1,av K.cells (x.aC.take k))]=some (.agg (aM.mk x.var (x.aC.take k)).cells) by rw[aM.bF];rfl];simp only[D];refine Ba ak hT vars _ (by have:maxLen=9223372036854775807:=(by decide);omega) hv (Uj i k) _ _ ?_;rw[Bc];simp only[bh,abp,abq,D,aP,g0,g1];refine⟨trivial,trivial,?_⟩;rw[cM _ _ _ 6 (w8 _) (Bb _) rfl];simp only[D,eK];rw[Uk];simp only[D];rw[show ∀(H:Z)(v:Int),dk H false 1 1 [.int .i64 0] [(0,1,.int .i64 v)]=some (.aq .full 1 (di v),H)from λ_ _=>rfl];simp only[aP];have u:=h.frame (H':=H2.push (.row (ft (bV vars ⟨x.var,x.aC.take k⟩)))) λ_ _ _ q=>q.push _;refine u.app (Yz _) (m:=1) (news:=di (nX vars ⟨x.var,x.aC.take k⟩)) rfl rfl rfl (by decide) (by omega) (by omega) λb w z _=>?_;refine k1 (acc++[nX vars ⟨x.var,x.aC.take k⟩]) b w (by rw[abI];simp;omega) ?_ (by rw[ae hi]);rw[abI,acH];exact z
   · have hi:p.bb=[]:=by
       refine Zo.1 ?_;simp only[dQ]at e;omega
     exact k1 acc y H2 (by omega) h (by rw[aa hi,abQ])
 exact main x.aC 0 [] _ _ rfl (Yz _) (sl _) (cC.nil _ _ _) j
end
end Rb

namespace Rb
open Go
def eU:List Int→List Int→Option (List Int)
 | n::a,i::is=>match eU a is with
  |some t=>some (i::t)
  |none=>if i+1<n then some ((i+1)::a.map λ_=>0)else none
 |_,_=>none
def i_:List Int→List Int→List (List Int)
 |n::a,i::is=>(i_ a is).map (λt=>i::t)++(ZP (i.toNat+1) (n.toNat-(i.toNat+1))).flatMap λ(j:Nat)=>(eN a).map λt=>(j:Int)::t
 |_,_=>[[]]
def VI:List Int→List Int→Prop
 |[],[]=>True
 |n::a,i::is=>(0≤i∧i<n)∧VI a is
 |_,_=>False
theorem VI.len:∀{l a:List Int},VI l a→a.length=l.length
 |[],[],_=>rfl
 |n::b,i::a,h=>by rw[abJ,abJ,VI.len h.2]
theorem VI.zero:∀{l:List Int},(∀n∈l,1≤n)→VI l (l.map λ_=>0)
 |[],_=>trivial
 |n::a,h=>⟨⟨ach _,by have:=h n (aap ..);show(0:Int)<n;omega⟩,VI.zero λm hm=>h m (aao _ hm)⟩
theorem VI.get:∀{l b:List Int}{k:Nat}{n i:Int},VI l b→l[k]?=some n→b[k]?=some i→0≤i∧i<n
 | n::c,i::b,0,_,_,h,h1,a=>by simp only[abp,Yh.injEq]at h1 a;subst h1 a;exact h.1
 | n::c,i::b,k+1,_,_,h,h1,a=>by simp only[abq]at h1 a;exact VI.get h.2 h1 a
theorem BX:∀{l:List Int},(∀n∈l,1≤n)→i_ l (l.map λ_=>0)=eN l
 |[],_=>rfl
 | n::a,h=>by
  rw[List.map_cons,i_,eN,BX λm hm=>h m (aao _ hm)];have hn:n.toNat=(n.toNat-1)+1:=by have:=h n (aap ..);omega
  rw[show YS n.toNat=0::ZP 1 (n.toNat-1) by rw[hn,List.range_eq_range',ac1];simp,abk];rfl
theorem sL:∀{l a:List Int},VI l a→eU l a=none→i_ l a=[a]
 |[],[],_,_=>rfl
 | n::b,i::a,h,hn=>by
  rw[eU]at hn;cases hs:eU b a with
  |some t=>rw[hs]at hn;cases hn
  | none=>
   rw[hs]at hn;dsimp only at hn;rw[i_,sL h.2 hs];have hi:¬i+1<n:=λq=>by rw[aa q]at hn;cases hn
   rw[show n.toNat-(i.toNat+1)=0 by omega];rfl
theorem xI:∀{l a t:List Int},(∀n∈l,1≤n)→VI l a→eU l a=some t→i_ l a=a::i_ l t∧VI l t
 |[],[],t,_,_,hn=>by rw[eU]at hn;cases hn;intros;simp_all
 | n :: c,i::a,t,hl,h,hn=>by
  have b:∀m∈c,1≤m:=λm hm=>hl m (aao _ hm);rw[eU]at hn;cases hs:eU c a with
  | some t'=>rw[hs]at hn;simp only[Yh.injEq]at hn;subst hn;obtain⟨h1,d⟩:=xI b h.2 hs;refine⟨?_,h.1,d⟩;rw[i_,h1,i_];rfl
  | none=>
   rw[hs]at hn;dsimp only at hn;by_cases hi:i+1<n
   · rw[aa hi]at hn;simp only[Yh.injEq]at hn;subst hn;refine⟨?_,⟨by have:=h.1.1;omega,hi⟩,VI.zero b⟩;have e:=h.1.1;rw[i_,sL h.2 hs,i_,BX b,show n.toNat-(i.toNat+1)=(n.toNat-((i+1).toNat+1))+1 by omega,ac1,abk,show i.toNat+1=(i+1).toNat by omega,Int.toNat_of_nonneg (by omega)];rfl
   ·rw[ae hi]at hn;cases hn
theorem JX:∀{lp pre a b t:List Int},lp.length=pre.length→eU a b=some t→eU (lp++a) (pre++b)=some (pre++t)
 |[],[],a,b,t,_,h=>h
 | n::lp,i::pre,a,b,t,hl,h=>by rw[ZY,ZY,eU,JX (by simpa using hl) h];rfl
theorem Um{l a:List Int}(d:a.length=l.length){m:Nat}{n i:Int}(b:l[m]?=some n)(c:a[m]?=some i)(hs:eU (l.drop (m+1)) (a.drop (m+1))=none) :
  (i+1<n→eU l a=some (a.take m++(i+1)::(l.drop (m+1)).map λ_=>0))∧(¬i+1<n→eU (l.drop m) (a.drop m)=none):=by
 have d1:l.drop m=n::l.drop (m+1):=by have:=(X1.1 b).1;rw[abK this];rw[YU this]at b;cases b;rfl
 have d2:a.drop m=i::a.drop (m+1):=by have:=(X1.1 c).1;rw[abK this];rw[YU this]at c;cases c;rfl
 constructor
 · intro hi;have:=JX (lp:=l.take m) (pre:=a.take m) (by rw[ab3,ab3,d]) (show eU (l.drop m) (a.drop m)=some ((i+1)::(l.drop (m+1)).map λ_=>0) by rw[d1,d2,eU,hs];dsimp only;rw[aa hi]);rwa [acP,acP]at this
 · intro hi;rw[d1,d2,eU,hs];dsimp only;rw[ae hi]
end Rb

namespace Rb
open Go
variable{H:Z}{j k:Nat}{l:List Int}
def KX(R:Bool→Z→Prop):ff→Env→Z→Prop
 | .ret,_,H=>R true H
 | .normal,_,H=>R false H
 | .exit _,_,_=>False
def xJ:c0:= .seq (.region [
   ⟨some 13,.mv (.t 3),none⟩,
   ⟨some 14,.len false (.t 13),none⟩,
   ⟨some 15,.bin .sub (.t 14) (.k (.int .i64 1)),none⟩,
   ⟨some 4,.mv (.t 15),none⟩])
 (.join [4] [16,17,18,19,20,21,22,23,24,25,26,27,28,29,30,31,32,33,34,35,36,37,38] (.block 2 (.loop [4] [16,17,18,19,20,21,22,23,24,25,26,27,28,29,30,31,32,33,34,35,36,37,38] (.seq (.seq (.region [
   ⟨some 16,.mv (.t 4),none⟩,
   ⟨some 17,.bin .geq (.t 16) (.k (.int .i64 0)),none⟩])
 (.cond (.t 17) (.skip)
   (.exit 2)))
 (.seq (.block 3 (.seq (.region [
   ⟨some 20,.mv (.t 3),none⟩,
   ⟨some 21,.mv (.t 4),none⟩,
   ⟨some 22,.fS none 1 (.t 20) (.t 21),none⟩,
   ⟨some 23,.load 1 false (.t 22),none⟩,
   ⟨some 24,.bin .add (.t 23) (.k (.int .u64 1)),none⟩,
   ⟨some 25,.fS none 1 (.t 20) (.t 21),none⟩,
   ⟨none,.store 1 (.t 25) (.t 24),none⟩])
 (.seq (.seq (.draw [
   ⟨some 26,.mv (.t 3),none⟩,
   ⟨some 27,.mv (.t 4),none⟩,
   ⟨some 28,.fS none 1 (.t 26) (.t 27),none⟩,
   ⟨some 29,.load 1 false (.t 28),none⟩,
   ⟨some 30,.load 1 false (.t 1),none⟩,
   ⟨some 31,.mv (.t 4),none⟩,
   ⟨some 32,.fS none 1 (.t 30) (.t 31),none⟩,
   ⟨some 33,.load 1 false (.t 32),none⟩,
   ⟨some 34,.conv .u64 (.t 33),none⟩,
   ⟨some 35,.bin .lss (.t 29) (.t 34),none⟩]
 [[],[],[0,1],[0,1,2],[],[],[4,5],[4,5,6],[4,5,6,7],[0,1,2,3,4,5,6,7,8]] [] [0,1,2,3,4,5,6,7,8,9])
 (.cond (.t 35) (.exit 2)
   (.skip)))
 (.region [
   ⟨some 36,.mv (.t 3),none⟩,
   ⟨some 37,.mv (.t 4),none⟩,
   ⟨some 38,.fS none 1 (.t 36) (.t 37),none⟩,
   ⟨none,.store 1 (.t 38) (.k (.int .u64 0)),none⟩]))))
 (.region [
   ⟨some 18,.mv (.t 4),none⟩,
   ⟨some 19,.bin .sub (.t 18) (.k (.int .i64 1)),none⟩,
   ⟨some 4,.mv (.t 19),none⟩])))))
 (.seq (.region [
   ⟨some 39,.mv (.t 4),none⟩,
   ⟨some 40,.bin .lss (.t 39) (.k (.int .i64 0)),none⟩])
 (.cond (.t 40) (.ret)
   (.skip))))
def ox(a1 a:I):Env:=[.bot,a1,.bot,a]++XY 37 .bot
def xK(R:Bool→Z→Prop):List I→Z→Prop:=λgy a=>
 Do (ab .lss (G gy 0) (.int .i64 0)) λb=>
 Gd b true (
 R true a) (
 R false a)
def xL(a1 c:I)(R:Bool→Z→Prop):(List I×Z)→((List I×Z)→Prop)→Prop:=λa d=>
 Do (ab .geq (G a.1 0) (.int .i64 0)) λe=>
 Gd e true (
 Do (aO none 1 c (G a.1 0)) λf=>
 Do (O a.2 1 false f) λg=>
 Do (ab .add g (.int .u64 1)) λh=>
 Do (aO none 1 c (G a.1 0)) λi=>
 Do (Y a.2 1 i h) λb=>
 Do (aO none 1 c (G a.1 0)) λj=>
 Do (O b 1 false j) λk=>
 Do (O b 1 false a1) λl=>
 Do (aO none 1 l (G a.1 0)) λm=>
 Do (O b 1 false m) λn=>
 Do (e6 .u64 n) λo=>
 Do (ab .lss k o) λp=>
 Gd p true (
 N (xK R) [(G a.1 0)] b) (
 Do (aO none 1 c (G a.1 0)) λq=>
 Do (Y b 1 q (.int .u64 0)) λr=>
 Do (ab .sub (G a.1 0) (.int .i64 1)) λs=>
 d ([s],r))) (
 N (xK R) [(G a.1 0)] a.2)
def BZ(a1 a:I)(H:Z)(R:Bool→Z→Prop):Prop:=
 Do (bo false a) λb=>
 Do (ab .sub b (.int .i64 1)) λc=>
 aA (xL a1 a R) ([c],H)
theorem Un(Φ:aj)(a1 a:I)(H:Z)(R:Bool→Z→Prop):cn Φ xJ (ox a1 a) H (KX R)=BZ a1 a H R:=by kernel_rfl
def dx(n:Int):I:= .int .u64 n
theorem JY(h:At H j (.row (l.map dx))){v:Int}(hv:l[k]?=some v):O H 1 false (.ptr j k)=some (.int .u64 v):=by have hk:=(X1.1 hv).1;rw[h.load];unfold bT;rw[aa (by rw[aaz];omega),el,YT,hv];rfl
theorem JZ(h:At H j (.row (l.map dx)))(a:k<l.length)(v:Int):Y H 1 (.ptr j k) (.int .u64 v)=some (H.set j (.row ((l.set k v).map dx))):=by rw[h.st1 (by rw[aaz];exact a) ⟨rfl,rfl,rfl⟩,List.map_set];rfl
theorem Uo{bK a:List Int}(hl:∀n∈bK,1≤n∧n≤1000000000)(hv:VI bK a)(hn:bK.length≤1000000000)(l:At H j (.row (a.map dx))){R:Bool→Z→Prop}
  (o:eU bK a=none→∀H',R true H') (h1:∀t,eU bK a=some t→∀H',At H' j (.row (t.map dx))→R false H'):BZ (.af [av di bK]) (.row j 0 a.length 1) H R:=by
 have hlen:=hv.len;unfold BZ;rw[show bo false (.row j 0 a.length 1)=some (.int .i64 a.length)from rfl];simp only[D,fZ];have main:∀(m:Nat)(H:Z),m≤a.length→eU (bK.drop m) (a.drop m)=none→At H j (.row ((a.take m++(bK.drop m).map λ_=>0).map dx))→aA (xL (.af [av di bK]) (.row j 0 a.length 1) R) ([.int .i64 (B ((m:Int)-1))],H):=by
  intro m;induction m with
  | zero=>intro H hm hs f;refine aA.step ?_;simp only[xL,aE,f_,D,aB,aR,xK,bD];rw[el,kE];exact o hs H
  | succ m p=>
   intro H hm hs f;have hw:B (((m+1:Nat):Int)-1)=(m:Int):=by rw[show(((m+1:Nat):Int)-1)=(m:Int) by omega];exact bI
   obtain⟨i,hi⟩:∃i,a[m]?=some i:=⟨_,YU (by omega)⟩
   obtain⟨n,b⟩:∃n,bK[m]?=some n:=⟨_,YU (by omega)⟩
   obtain⟨v0,v1⟩:=hv.get b hi;obtain⟨n0,n1⟩:=hl n (aaN b);obtain⟨a1,a2⟩:=Um hlen b hi hs;have hc:a.take (m+1)++(bK.drop (m+1)).map (λ_=>(0:Int))=a.take m++i::(bK.drop (m+1)).map (λ_=>(0:Int)):=by rw[abR,hi,Option.toList_some,acI];rfl
   rw[hc]at f;have d:(a.take m).length=m:=by rw[ab3];omega
   have q:aO none 1 (.row j 0 a.length 1) (.int .i64 m)=some (.ptr j m):=by show(if 0≤(m:Int)∧(m:Int)<(a.length:Nat)then some (I.ptr j (0+(m:Int).toNat*1))else none)=_;rw[aa ⟨by omega,by omega⟩,Zc,YO,acu]
   have ld:=JY f (k:=m) (v:=i) (by rw[ZF (by omega),d];simp);have r:m<(a.take m++i::(bK.drop (m+1)).map (λ_=>(0:Int))).length:=by rw[abI,d,abJ];omega
   have st:=JZ f r (i+1);have s:∀x:Int,(a.take m++i::(bK.drop (m+1)).map (λ_=>(0:Int))).set m x=a.take m++x::(bK.drop (m+1)).map (λ_=>(0:Int)):=λx=>by rw[ac2,d,ae (acS _),acG];rfl
   rw[s]at st;have g:=f.set (.row ((a.take m++(i+1)::(bK.drop (m+1)).map (λ_=>(0:Int))).map dx));have u:=JY g (k:=m) (v:=i+1) (by rw[ZF (by omega),d];simp);have w:m<(a.take m++(i+1)::(bK.drop (m+1)).map (λ_=>(0:Int))).length:=by rw[abI,d,abJ];omega
   have st2:=JZ g w 0;have y:(a.take m++(i+1)::(bK.drop (m+1)).map (λ_=>(0:Int))).set m 0=a.take m++0::(bK.drop (m+1)).map (λ_=>(0:Int)):=by rw[ac2,d,ae (acS _),acG];rfl
   rw[y]at st2;refine aA.step ?_;have z:Zb .u64 (i+1)=i+1:=Hl;have wn:Zb .u64 n=n:=Hl;have A:∀H,O H 1 false (.af [av di bK])=some (av di bK):=λ_=>rfl;have C:∀H,O H 1 false (dE di 1 bK m)=some (.int .i64 n):=λH=>wu (c:=I.int .i64) H b;rw[hw];simp only[xL,aE,f_,D,aB];rw[qM];simp only[q,ld,D,b4,z,st,u,A];rw[cK (cells:=di) (sz:=1) (show m<bK.length by omega)];simp only[D,C,j3,wn,bD,aR];apply aF<;>intro e
   · have h:i+1<n:=by simpa using e
     unfold xK;simp only[aE,bD,D,aB];rw[lS];exact h1 _ (a1 h) _ g
   · have h:¬i+1<n:=by simpa using e
     simp only[st2,D,fZ];refine p _ (by omega) (a2 h) ?_;have E:bK.drop m=n::bK.drop (m+1):=by have:=(X1.1 b).1;rw[abK this];rw[YU this]at b;cases b;rfl
     rw[E];exact g.set _
 have:=main a.length H (sl _) (by rw[ac3 (by omega),ac3 (sl _),eU];intros;simp_all) (by rw[List.take_length,ac3 (by omega)];simpa using l);exact this
end Rb

namespace Rb
open Go Go.RowKit
variable{b:Nat}{W:World}
def J0(b:Nat)(A B:World):Prop:=A.grownBy B (some b)∧∃o:Obj,A.heap[b]?=some o∧o.isCells=true
def gQ(b:Nat)(A B:World):Prop:=A.heap.size≤B.heap.size∧B.heap[b]?=A.heap[b]?
theorem gQ.refl(b:Nat)(A:World):gQ b A A:=⟨sl _,rfl⟩
theorem gQ.trans{A B C:World}(h:gQ b A B)(k:gQ b B C):gQ b A C:=⟨xl h.1 k.1,k.2.trans h.2⟩
theorem gQ.putObj{l:Nat}(a:Obj)(hl:l<W.heap.size)(h:b≠l):gQ b W (W.putObj l a):=⟨by simp,ac4 h⟩
theorem gQ.alloc(o:Obj)(h:b<W.heap.size):gQ b W (W.alloc o):=⟨by simp,Below.heap_alloc W o b h⟩
end Rb

namespace Rb
open Go Go.RowKit
variable{S:Nat→Prop}{W:World}
def eF(S:Nat→Prop)(A B:World):Prop:=A.heap.size≤B.heap.size∧∀k,S k→B.heap[k]?=A.heap[k]?
theorem eF.refl(S:Nat→Prop)(A:World):eF S A A:=⟨sl _,λ_ _=>rfl⟩
theorem eF.trans{A B C:World}(h:eF S A B)(k:eF S B C):eF S A C:=⟨xl h.1 k.1,λj a=>(k.2 j a).trans (h.2 j a)⟩
theorem eF.putObj{l:Nat}(a:Obj)(h:∀k,S k→k≠l):eF S W (W.putObj l a):=⟨by simp,λk hk=>ac4 (h k hk)⟩
theorem eF.alloc(o:Obj)(h:∀k,S k→k<W.heap.size):eF S W (W.alloc o):=⟨by simp,λk hk=>Below.heap_alloc W o k (h k hk)⟩
def J1(W W':World):Prop:=∀(k:Nat)(o:Obj),W.heap[k]?=some o→((∃x,o = .loop x)∨∃x,o = .deferred x)→W'.heap[k]?=some o
def mn(b:Nat)(A B:World):Prop:=J0 b A B∧A.drawn≤B.drawn
def J2{α:Type}(n:Nat)(P:Program)(g:Nat)(lb:Array Value)(arg:Nat→World→α→Array Value→Prop)(S:Nat→Prop)(xs:List α)(w:World):Prop:=
 ∀ (l:Nat) (J:Nat→List α→World→Prop) (W:World),eF S w W→(∀b s A B,J b s A→mn b A B→J b s B) →
  (∀b pre x args Wp W1,J b pre Wp→mn b Wp W1→(pre++[x]) <+: xs→arg Wp.heap.size W1 x args→YieldAt ac5 (n-1) P l args W1 λe W'=>e = .returned (.bool true)∧J b (pre++[x]) W'∧gQ b W1 W'∧eF S W1 W') →
  (∀b W',Below W.heap.size W W'→W.drawn≤W'.drawn→W.heap.size≤b→b<W'.heap.size→J b [] W') →
  CallsIn ac5 n P g (#[.func (.yield l) #[] #[]]++lb) W λe W'=>(∃v,e = .returned v)∧∃b,J b xs W'
theorem Up{α:Type}{P:Program}{n:Nat}{w:World}{g:Operand}{ps:Array Tmp}{assign body:Code}{Q:Exit→Act→World→Prop}{a:Act}
  (h1:1≤n) {gf:Nat} {lb:Array Value} (J:a.eval g = .func (.func gf) #[] lb) (L:∀args w,(callFunc gf args).run P w = .ok (.enter gf args) w)
  {arg:Nat→World→α→Array Value→Prop} {S:Nat→Prop} {xs:List α} (hc:∀k,S k→k<w.heap.size) (M:J2 (n-1) P gf lb arg S xs w) (u:∀N W x V,arg N W x V→V.size=ps.size) (O:∀N N' W x V,N≤N'→arg N' W x V→arg N W x V)
  (R:∀N W l o x V,W.heap[l]?=some (.loop o)→arg N W x V→∀i,arg N (W.putObj l (.loop i)) x V)
  (d:Nat→Nat→List α→World→Prop) (j:∀N b pre W l o i,d N b pre W→w.heap.size≤l→W.heap[l]?=some o→(∃x,o = .loop x)∨(∃x,o = .deferred x)→d N b pre (W.putObj l i)) (hT:∀N b s A B,d N b s A→mn b A B→d N b s B)
  (T:∀b W',Below w.heap.size w W'→w.drawn≤W'.drawn→w.heap.size≤b→b<W'.heap.size→∃N,N≤W'.heap.size∧d N b [] W') (y:Array Value→Act)
  (U:∀(l:Nat)(V:Array Value)(W:World)(K:Act→World→Prop),V.size=ps.size→K (y V) W →
    assign.wpIn (ac5.inRound l) (n-1-1) P (Exit.then K (λ_ _ _=>False)) {tmps:=(ps.zip V).foldl (λt (p,v)=>t.setIfInBounds p v) a.tmps,defers:=[]} W)
  (X:∀(l N b:Nat)(pre:List α)(x:α)(V:Array Value)(W:World),w.heap.size≤W.heap.size→w.heap.size≤b→b<W.heap.size→d N b pre W→(pre++[x]) <+: xs→arg N W x V →
    body.wpIn (ac5.inRound l) (n-1-1) P (λe _ W'=>e = .normal∧J1 W W'∧gQ b W W'∧eF S W W'∧∃N',N'≤W'.heap.size∧d N' b (pre++[x]) W') (y V) W)
  (Y:∀(D N b:Nat)(W:World),w.heap.size≤D→d N b xs W→W.heap[D]?=some (.deferred (some []))→Q .normal {a with defers:={target:= .collected D,args:= #[]}::a.defers} W) :
  (Code.rangeFunc g ps assign body).wpIn ac5 n P Q a w:=by
 refine wpIn_rangeFunc ?_;intro fn Z;let c:LoopState→Option Code→Loop:=λst aa=>{state:=st,pending:=aa,fn,tmps:=a.tmps,params:=ps,assign,body,defers:=w.heap.size}
 let W1:World:=(w.alloc (.deferred (some []))).alloc (.loop (c .ready none));have ab:W1.heap[w.heap.size+1]?=some (.loop (c .ready none)):=by have:=ac7 (w.alloc (.deferred (some []))) (.loop (c .ready none));rwa [World.size_alloc]at this
 have ac:W1.heap[w.heap.size]?=some (.deferred (some [])):=(Below.heap_alloc _ _ _ (by simp)).trans (ac7 w _);have z:eF S w W1:=(eF.alloc _ hc).trans (eF.alloc _ λk hk=>(by have:=hc k hk;simp;omega));have ad:Below w.heap.size w W1:=((Below.refl _ w).alloc (sl _) _).alloc (by simp) _;have ae:w.heap.size≤W1.heap.size:=z.1;have av:W1.heap.size=w.heap.size+2:=by simp[W1]
 refine ⟨w.heap.size+1,[{target:= .collected w.heap.size,args:= #[]}],W1,{target:= .fn (.func gf) lb,args:= #[.func (.yield (w.heap.size+1)) #[] #[]]},W1,gf,
   #[.func (.yield (w.heap.size+1)) #[] #[]]++lb,W1,?_,?_,λ_ _=>trivial,?_,λ_=>h1,?_⟩
 ·exact run_enterLoop_outer _ _ _ _ _
 · simp only[resolve,J];simp[go_sem]
 ·simp[invoke,go_sem,L]
 ·
   have turn:∀{b:Nat}{A B:World}{k:Nat}{o:Obj},J0 b A B→A.heap[k]?=some o→o.isCells=false→B.heap[k]?=some o:=by intro b A B k o ht hk af;obtain⟨ag,i,C,hc⟩:=ht;refine(ag.block k (YL.1 hk).1 (λe=>?_)).trans hk;cases e;rw[hk]at C;cases C;rw[af]at hc;cases hc
   refine (M (w.heap.size+1)
     (λb pre W=>w.heap.size+2≤b∧b<W.heap.size∧w.heap.size≤W.heap.size∧(∃N,N≤W.heap.size∧d N b pre W)∧W.heap[w.heap.size+1]?=some (.loop (c .ready none))∧W.heap[w.heap.size]?=some (.deferred (some [])))
     W1 z (λb s A B hs ht=>⟨hs.1,AH hs.2.1 ht.1.1.size,xl hs.2.2.1 ht.1.1.size,(by obtain⟨N,hN,hi⟩:=hs.2.2.2.1;exact⟨N,xl hN ht.1.1.size,hT N b s A B hi ht⟩),turn ht.1 hs.2.2.2.2.1 rfl,turn ht.1 hs.2.2.2.2.2 rfl⟩) ?_ ?_).mono ?_
   ·
     rintro b pre x V Wp W ⟨E,m,q,⟨N,hN,hi⟩,hl,hk⟩ f ah ai;have ha:=O _ _ _ _ _ hN ai;replace m:=AH m f.1.1.size;replace q:=xl q f.1.1.size;replace hi:=hT N b pre Wp W hi f;replace hl:=turn f.1 hl rfl;replace hk:=turn f.1 hk rfl;have h:w.heap.size+1<W.heap.size:=(YL.1 hl).1;have aj:=run_yield (P:=P) (args:=V) hl (u N W x V ha);refine⟨fn,_,assign,body,aj,roundIn_of_wpIn Z (U _ V W _ (u N W x V ha) ?_)⟩;refine⟨_,run_beginRound hl rfl,?_⟩;have ak:(W.putObj (w.heap.size+1) (.loop {c .ready none with state:= .busy})).heap[w.heap.size+1]?=some (.loop {c .ready none with state:= .busy}):=ac8 h;have al:(W.putObj (w.heap.size+1) (.loop {c .ready none with state:= .busy})).heap[w.heap.size]?=some (.deferred (some [])):=(ac4 (by omega)).trans hk;have am:gQ b W (W.putObj (w.heap.size+1) (.loop {c .ready none with state:= .busy})):=gQ.putObj _ h (by omega);have an:eF S W (W.putObj (w.heap.size+1) (.loop {c .ready none with state:= .busy})):=eF.putObj _ λk hk=>(by have:=hc k hk;omega)
     refine wpIn_mono (X _ N b pre x V _ (by simp;omega) (by omega) (by simp;omega) (j N b pre _ _ _ _ hi (by omega) hl (.inl ⟨_,rfl⟩)) ah (R _ _ _ _ _ _ hl ha _)) ?_;rintro e a3 ao ⟨rfl,F,G,ap,H,aw,aq⟩;have r:=F _ _ ak (.inl ⟨_,rfl⟩);have ar:=run_endRound (P:=P) none r;have I:w.heap.size+1<ao.heap.size:=(YL.1 r).1;have l8:=G.1;simp at l8;refine⟨_,_,ar,rfl,⟨E,by simp;omega,by simp;omega,?_,ac8 I,(ac4 (by omega)).trans (F _ _ al (.inr ⟨_,rfl⟩))⟩,?_,?_⟩
     ·exact⟨H,by simp;omega,j H b _ _ _ _ _ aq (by omega) r (.inl ⟨_,rfl⟩)⟩
     ·exact am.trans (G.trans (gQ.putObj _ I (by omega)))
     ·exact an.trans (ap.trans (eF.putObj _ λk hk=>(by have:=hc k hk;omega)))
   ·
     intro b W' hb au hle h;have hs:=hb.size;exact⟨by omega,h,by omega,T b W' (ad.trans (hb.mono ae)) au (by omega) h,(hb.block _ (by omega)).trans ab,(hb.block _ (by omega)).trans ac⟩
   ·
     rintro e ax ⟨⟨v,rfl⟩,b,E,m,q,⟨N,hN,hi⟩,hl,hk⟩;exact⟨none,_,run_endLoop (P:=P) hl (by simp[c]),Y _ N b _ (sl _) (j N b _ _ _ _ _ hi (by omega) hl (.inl ⟨_,rfl⟩)) ((ac4 (by omega)).trans hk)⟩
end Rb

namespace Rb
open Go
variable{H:Z}{n:Nat}{x:I}{cells:List I}
theorem Uq{a n:Nat}{K:I→Z→Prop}(b:fe H 1 x=some (n,cells))(hl:cells.length=n)(hs:cells.all I.scalar=true)(hb:n*a≤140737488355328)(hn:n≤9223372036854775807)
  (c:∀tk H',Z.Ext H H'→tk ≠ .nil→K (.aq tk n cells) H'):au (cp H false 1 a (.aq .full 0 []) x) K:=by
 by_cases d:n=0
 · subst d;have:cells=[]:=Zo.1 hl;subst this;have e:cp H false 1 a (.aq .full 0 []) x=some (.aq .full 0 [],H):=by
    simp only[cp,b];rfl
   rw[e,aP];exact c .full H (Z.Ext.refl H) (by decide)
 · refine⟨.aq (.own H.n) n cells,H.push (.tok (n*1) 1),?_,c _ _ (Z.Ext.push H _) (by simp)⟩;simp only[cp,b,hs,not_true_eq_false,bR,ae d];rw[ae (by simp only[Decidable.not_not];exact⟨by simp,by rw[YO];exact hb,by omega⟩)];simp
section
variable{C:Ctx}(hT:Cl (ai C) S.bu)
include hT
theorem Ur{Q:ad}(a:fe H 1 x=some (n,cells))(b:my .s false x=some (.bool false))(hl:cells.length=n)(hs:cells.all I.scalar=true)(hn:n≤1000000000)
  (hQ:∀tk H',Z.Ext H H'→tk ≠ .nil→Q (.aq tk n cells) H'):ai C 41 [x] H Q:=by
 refine S.O3 hT ?_;unfold S.f41;have c:dk H false 1 0 [.int .u64 0] []=some (.aq .full 0 [],H):=rfl;simp only[b,D,aB,ZV,bR,c,aP];exact Uq a hl hs (by omega) (by omega) hQ
end
def oy(F:cx)(a:Nat→Nat→Prop)(N:Nat)(W:World)(x:List Int)(args:Array Value):Prop:=∃V fz,args = #[V]∧(∀b o,fz b o→(a b o∨N≤b)∧∃U,W.cell? ⟨b,o,none⟩=some U)∧VR F W (aG.mt fz) (.aq .dead x.length (x.map dx)) V
end Rb

namespace Rb
open Go Go.RowKit
variable{w w':World}{G:aG}{F:cx}
theorem J3(hb:Below w.heap.size w w')(b c:Nat):GLe w G w' (G.more b c):=⟨YH _,λi hi=>ae (YM hi),λi hi=>ae (YM hi),λ_ _ hf=>hf,(An (G:=G) hb).cell⟩
theorem Us(hb:Below w.heap.size w w')(b c:Nat){i:Nat}{x:bL}(h:eV F w G i x)(hi:x.live=true→i<G.n):eV F w' (G.more b c) i x:=h.aI (J3 hb b c) hi (λhl=>hb.block _ (h.lt hl)) λ_ _ a=>a
theorem oL{H:Z}(hb:Below w.heap.size w w')(x:w.drawn≤w'.drawn)(h:Rel F w G H){b:Nat}{C:Array Value}{e:TypeId}(hB:w.heap.size≤b)(y:w'.heap[b]?=some (.cells C e (0,0)))
  {cs:List I} (hv:∀(j:Nat)(c:I),cs[j]?=some c→∃V,C[j]?=some V∧VR F w' (G.more b C.size) c V) :
  Rel F w' (G.more b C.size) (H.push (.row cs))∧Step w G H w' (G.more b C.size) (H.push (.row cs))∧∀n cap sz,n≤cap→C.size=cap*sz→VR F w' (G.more b C.size) (.row H.n 0 n sz) (.slice (some ⟨b,0,none⟩) n cap):=by
 have hn:=h.n;have z:=J3 (G:=G) hb b C.size;have l:∀i,i≠H.n→(G.more b C.size).loc i=G.loc i:=λi hi=>ae (show ¬i=G.n by omega);have f:(G.more b C.size).loc H.n=b:=aa hn.symm;have s:(G.more b C.size).cap H.n=C.size:=aa hn.symm;have a:∀i,i≠H.n→(H.push (.row cs)).o i=H.o i:=λi hi=>ae hi;have t:∀i,(H.o i).live=true→G.loc i≠b:=λi hl=>YM (AH ((h.obj i).lt hl) hB);have A:∀j,¬G.fz b j:=λj B=>by obtain⟨V,q⟩:=h.eb b j B;have:=wv q;omega
 refine⟨⟨by show G.n+1=H.n+1;omega,λi d=>?_,λi=>?_,λi j D h1 r=>?_,λu o hf=>?_⟩,?_,λn cap sz hle E=>?_⟩
 · have v:H.n+1≤i:=d;rw[a i (by omega)];exact h.over i (by omega)
 · by_cases g:i=H.n
   · subst g;show eV F w' _ H.n (if H.n=H.n then .row cs else H.o H.n);rw[aa rfl];exact⟨C,e,by rw[f];exact y,s.symm,by rw[f];exact A,hv⟩
   · rw[a i g];exact Us hb b C.size (h.obj i) λhl=>h.gu hl
 · by_cases d:i=H.n<;>by_cases m:j=H.n
   ·omega
   ·rw[d,f,l j m];rw[a j m]at r;exact(t j r).symm
   ·rw[m,f,l i d];rw[a i d]at h1;exact t i h1
   ·rw[l i d,l j m];rw[a i d]at h1;rw[a j m]at r;exact h.eW i j D h1 r
 · obtain⟨V,q⟩:=h.eb u o hf;exact⟨V,by rw[hb.cell (p:=⟨u,o,none⟩) (wv q)];exact q⟩
 · refine {z with size:=hb.size,os:=hb.os,tape:=hb.tape,output:=hb.output,dr:=x,c8:=λk hk _=>hb.block k hk,owned:=λi hl v=>?_,ey:=λ_ _ hf=> .inl hf};by_cases g:i=H.n
   ·rw[g,f]at v;omega
   · rw[a i g]at hl;exact⟨i,hl,(l i g).symm⟩
 · have:=VR.row (F:=F) (w:=w') (G:=G.more b C.size) H.n 0 n sz cap (by show H.n<G.n+1;omega) hle (by rw[s,E];omega);rw[f]at this;exact this
end Rb

namespace Rb
open Go
variable{w W:World}{b cap:Nat}{is:List Int}{S:Nat→Prop}{C:Ctx}{fz:Nat→Nat→Prop}
def nc(w:World)(b cap:Nat)(is:List Int):Prop:=∃a e,w.heap[b]?=some (.cells a e (0,0))∧a.size=cap∧is.length≤cap∧∀(k:Nat)(v:Int),is[k]?=some v→a[k]?=some (.int .u64 v)
theorem nc.left{w w':World}(h:nc w b cap is)(k:gQ b w w'):nc w' b cap is:=by obtain⟨a,e,h1,c⟩:=h;exact⟨a,e,k.2.trans h1,c⟩
theorem B0{F:cx}{G:aG}{H:Z}{i:Nat}(b:Rel F w G H)(h:At H i (.row (is.map dx)))(hc:is.length≤G.cap i):nc w (G.loc i) (G.cap i) is:=by have a:=b.obj i;rw[h.2]at a;obtain⟨c,e,h1,d,_,f⟩:=a;refine⟨c,e,h1,d,hc,λk v hv=>?_⟩;obtain⟨V,g,j⟩:=f k (dx v) (by rw[YT,hv];rfl);rw[g];cases j;rfl
theorem eF.cell(h:eF S W w){b o:Nat}{V:Value}(hb:S b)(hc:W.cell? ⟨b,o,none⟩=some V):w.cell? ⟨b,o,none⟩=some V:=by rw[YJ (w:=W) (h.2 b hb)];exact hc
theorem cq.left(h:cq C W (aG.mt fz) Z.mt)(k:eF S W w)(hz:∀b o,fz b o→S b):cq C w (aG.mt fz) Z.mt:=by
 have c:GLe W (aG.mt fz) w (aG.mt fz):=⟨sl _,λ_ _=>rfl,λ_ _=>rfl,λ_ _ h=>h,λb o V hf hc=>k.cell (hz b o hf) hc⟩
 refine⟨h.1.mono c,λg l hl a=>?_⟩;obtain⟨⟨cs,t,fr,h1,d⟩,_⟩:=h.2 g l hl a;refine⟨⟨cs,t,fr,?_,d⟩,λi hi=>by cases hi⟩;have hv:=h.1 g l hl;cases hv with
 | af cells b o Vs e hv=>
  obtain ⟨x,r,rfl⟩:∃x r,l=x::r:=by cases l with
   |nil=>exact absurd rfl a
   |cons x r=>exact⟨x,r,rfl⟩
  have:=(e 0 x rfl).1;rw[k.2 g (hz _ _ this)];exact h1
theorem Ut(h:nc w b cap is)(hz:∀b o,fz b o→∃V,w.cell? ⟨b,o,none⟩=some V)(hb:∀o,¬fz b o)(hG:cq C w (aG.mt fz) Z.mt) :
  cq C w ((aG.mt fz).more b cap) (Z.mt.push (.row (is.map dx)))∧Rel C.F w ((aG.mt fz).more b cap) (Z.mt.push (.row (is.map dx)))∧GLe w (aG.mt fz) w ((aG.mt fz).more b cap)∧VR C.F w ((aG.mt fz).more b cap) (.row 0 0 is.length 1) (.slice (some ⟨b,0,none⟩) is.length cap):=by
 obtain⟨f,e,h1,g,k,l⟩:=h;have m:=Rel.mt (F:=C.F) hz;obtain ⟨d,n⟩:=m.oL (b:=b) (c:=cap) (λi hi=>by cases hi) (.row (is.map dx)) λd=>by
  refine⟨f,e,?_,?_,?_,?_⟩
  ·exact h1
  ·exact g
  ·exact hb
  · intro j c a;rw[YT]at a;cases hi:is[j]? with
    |none=>rw[hi]at a;cases a
    | some v=>rw[hi]at a;simp only[Yi,Yh.injEq]at a;subst a;exact⟨_,l j v hi,.int _ _⟩
 refine⟨hG.oL d rfl hb,n,d,?_⟩;have:=VR.row (F:=C.F) (w:=w) (G:=(aG.mt fz).more b cap) 0 0 is.length 1 cap (by show 0<0+1;decide) k (by show 0+cap*1=cap;omega);exact this
def xM:c0:= .region [
   ⟨some 5,.load 1 false (.t 1),none⟩,
   ⟨some 6,.len false (.t 5),none⟩,
   ⟨some 7,.make true 1 8 [.int .u64 0] (.t 6) (.t 6),none⟩,
   ⟨some 3,.mv (.t 7),none⟩]
def KZ(R:ad):ff→Env→Z→Prop
 | .normal,env,H=>R (env.getD 3 .bot) H
 |_,_,_=>False
def qs(a1:I):Env:=[.bot,a1]++XY 39 .bot
theorem Uu(Φ:aj)(a1:I)(H:Z)(R:ad):cn Φ xM (qs a1) H (KZ R)=(Do (O H 1 false a1) λb=>Do (bo false b) λa=>au (kn H true 1 8 [.int .u64 0] a a) λc d=>R c d):=by kernel_rfl
structure xN(S:Nat→Prop)(J:Nat→List (List Int)→World→Prop)(W0:World)(l:Nat)(Vc:Value)(b cap:Nat)(pre:List (List Int))(is:List Int)(a:Act)(w:World):Prop where
 t0:a.tmps[0]?=some (.func (.yield l) #[] #[])
 t1:a.tmps[1]?=some Vc
 t3:a.tmps[3]?=some (.slice (some ⟨b,0,none⟩) is.length cap)
 sz:a.tmps.size=41
 df:a.defers=[]
 now:nc w b cap is
 lf:eF S W0 w
 j:J b pre w
theorem xN.aI{J:Nat→List (List Int)→World→Prop}{W0:World}{l:Nat}{Vc:Value}{pre:List (List Int)}{a a':Act}{az:List Nat}(h:xN S J W0 l Vc b cap pre is a w)(k:c_ az a a')(c:0∉az)(d:1∉az)(e:3∉az)(f:a'.defers=[]):xN S J W0 l Vc b cap pre is a' w:=⟨(k.2 0 c).trans h.t0,(k.2 1 d).trans h.t1,(k.2 3 e).trans h.t3,k.1.trans h.sz,f,h.now,h.lf,h.j⟩
end Rb

namespace Rb
open Go
variable{b cap:Nat}{w w':World}{G G':aG}{H H':Z}
theorem Uv{F:Fence}{m:Nat}{P:Program}{l:Nat}{args:Array Value}{W:World}{R a:Ending→World→Prop}(h:YieldAt F m P l args W R)(k:∀e w,R e w→a e w):YieldAt F m P l args W a:=by obtain⟨fn,tmps,assign,body,h1,b⟩:=h;exact⟨fn,tmps,assign,body,h1,b.mono k⟩
theorem J4(a:Step w G H w' G' H')(c:∀i,(H.o i).live=true→G.loc i=b){d:Array Value}{e:TypeId}(hb:w.heap[b]?=some (.cells d e (0,0))):mn b w w':=⟨⟨⟨a.os,a.tape,a.output,a.size,λk hk f=>a.c8 k hk λi hi he=>f (by rw[←he,c i hi])⟩,_,hb,rfl⟩,a.dr⟩
theorem sM{x:bL}{i:Nat}{fz:Nat→Nat→Prop}(h:((Z.mt.push x).o i).live=true):((aG.mt fz).more b cap).loc i=b:=by
 by_cases hi:i=0
 ·subst hi;rfl
 · have:(Z.mt.push x).o i = .gone:=ae hi;rw[this]at h;cases h
theorem B1{S:Nat→Prop}(a:Step w G H w' G' H')(c:∀i,(H.o i).live=true→G.loc i=b)(hS:∀k,S k→k<w.heap.size)(hb:¬S b):eF S w w':=⟨a.size,λk hk=>a.c8 k (hS k hk) λi hi he=>hb (by rw[←c i hi,he];exact hk)⟩
section
variable{C:Ctx}(hF:fD C)(hT:Cl (ai C) S.bu){f41:FuncId}(hf:C.F 41=some f41){B r1:Code}(hB:b_ C B xJ=true)
 {S:Nat→Prop} {W0:World} {fz:Nat→Nat→Prop} (hz:∀b o,fz b o→S b∧∃V,W0.cell? ⟨b,o,none⟩=some V) (hS:∀k,S k→k<W0.heap.size) (hG:cq C W0 (aG.mt fz) Z.mt) {Vc:Value} {bK:List Int} (hc:VR C.F W0 (aG.mt fz) (.af [av di bK]) Vc)
 (hl:∀n∈bK,1≤n∧n≤1000000000) (hn:bK.length≤1000000000) {J:Nat→List (List Int)→World→Prop} (oz:∀b s A B,J b s A→mn b A B→J b s B) {l n:Nat}
 (hY:∀b pre x args Wp W1,J b pre Wp→mn b Wp W1→(pre++[x]) <+: eN bK→oy C.F fz Wp.heap.size W1 x args→YieldAt ac5 n C.P l args W1 λe W'=>e = .returned (.bool true)∧J b (pre++[x]) W'∧gQ b W1 W'∧eF S W1 W')
 (dy:∀(a:Act)(w:World)(V3:Value)(K:World→Prop),a.tmps[0]?=some (.func (.yield l) #[] #[])→a.tmps[3]?=some V3→a.tmps.size=41→Calls C.P f41 #[V3] w (λe w1=>∃V,e = .returned V∧YieldAt ac5 n C.P l #[V] w1 λe w2=>e = .returned (.bool true)∧K w2) →
   r1.wp C.P (λe a' w'=>e = .normal∧K w'∧a'.tmps[12]?=some (.bool false)∧c_ [8,9,10,11,12] a a'∧a'.defers=a.defers) a w)
 {Q:Exit→Act→World→Prop} (hQ:∀a w b,a.defers=[]→J b (eN bK) w→Q .ret a w)
include hF hT hf hB hz hS hG hc hl hn oz hY dy hQ
theorem Uw(hb:¬S b):∀(m:Nat)(d:List Int)(pre:List (List Int)) (a:Act) (w:World),(i_ bK d).length≤m→VI bK d→pre++i_ bK d=eN bK→xN S J W0 l Vc b cap pre d a w →
  ac9 C.P (.block 1 ((r1.seq (.cond (.tmp 12) .ret .skip)).seq B)) Q m a w:=by
 intro m;induction m with
 | zero=>
  intro d pre a w hm hv hp hi;exfalso;cases s:eU bK d with
  |none=>rw[sL hv s]at hm;simp at hm
  |some t=>rw[(xI (λn hn=>(hl n hn).1) hv s).1]at hm;simp at hm
 | succ m O=>
  intro d pre a w hm hv hp hi;have D:∀b o,fz b o→S b:=λb o h=>(hz b o h).1;have ar:∀o,¬fz b o:=λo h=>hb (D b o h);have hlen:=hv.len;have au:∃rest,i_ bK d=d::rest:=by
   cases s:eU bK d with
   |none=>exact⟨[],sL hv s⟩
   |some t=>exact⟨_,(xI (λn hn=>(hl n hn).1) hv s).1⟩
  obtain⟨rest,aw⟩:=au;have ay:(pre++[d]) <+: eN bK:=⟨rest,by rw[←hp,aw];simp⟩
  show ac_ C.P (.block 1 ((r1.seq (.cond (.tmp 12) .ret .skip)).seq B)) (Exit.then (λa w=>ac9 C.P _ Q m a w) Q) a w;refine wp_block ?_;refine wp_seq ?_;refine wp_seq ?_;have tell:∀{w:World},nc w b cap d→eF S W0 w→cq C w ((aG.mt fz).more b cap) (Z.mt.push (.row (d.map dx)))∧Rel C.F w ((aG.mt fz).more b cap) (Z.mt.push (.row (d.map dx)))∧GLe W0 (aG.mt fz) w ((aG.mt fz).more b cap)∧VR C.F w ((aG.mt fz).more b cap) (.row 0 0 d.length 1) (.slice (some ⟨b,0,none⟩) d.length cap):=by
   intro w az T;obtain⟨g1,g2,g3,g4⟩:=Ut az (λq o h=>by obtain⟨V,g⟩:=(hz q o h).2;exact⟨V,T.cell (D q o h) g⟩) ar (hG.left T D);have aA:GLe W0 (aG.mt fz) w (aG.mt fz):=⟨sl _,λ_ _=>rfl,λ_ _=>rfl,λ_ _ h=>h,λq o V aB aC=>T.cell (D q o aB) aC⟩
   exact⟨g1,g2,aA.trans g3,g4⟩
  have ae:∀{w:World},eF S W0 w→∀k,S k→k<w.heap.size:=λh k hk=>AH (hS k hk) h.1;refine wp_mono (dy a w _ (λw2=>nc w2 b cap d∧eF S W0 w2∧J b (pre++[d]) w2) hi.t0 hi.t3 hi.sz ?_) ?_
  ·
    obtain⟨g1,g2,g3,g4⟩:=tell hi.now hi.lf;have H:At (Z.mt.push (.row (d.map dx))) 0 (.row (d.map dx)):=At.new Z.mt _;have aD:ai C 41 [.row 0 0 d.length 1] (Z.mt.push (.row (d.map dx))) λv H'=>∃tk,v = .aq tk d.length (d.map dx)∧Z.Ext (Z.mt.push (.row (d.map dx))) H':=by
     refine Ur hT (n:=d.length) (cells:=d.map dx) ?_ rfl (aaz _) ?_ (by omega) λtk H' E _=>⟨tk,rfl,E⟩
     · simp only[fe,H.2];rw[aa (by rw[aaz];omega),abz,abM (by rw[aaz];omega)]
     · rw[List.all_eq_true];intro x s;obtain⟨y,_,rfl⟩:=List.mem_map.1 s;rfl
    refine(aD.run hf g1 g2 (Vs:= #[.slice (some ⟨b,0,none⟩) d.length cap]) ⟨rfl,λj c V f g=>?_⟩).mono ?_
    · match j,f,g with
      |0,f,g=>simp at f g;subst f g;exact g4
      |j+1,f,g=>simp at f
    · rintro e w1 ⟨V,v,H',G',rfl,⟨tk,rfl,E⟩,aE,U,p⟩;refine⟨V,rfl,?_⟩;obtain⟨aF,ty,W,_⟩:=hi.now;have ht:=J4 p (λi hi=>sM hi) W;have X:=B1 p (λi hi=>sM hi) (ae hi.lf) hb;have ag:=H.ext E;have K:G'.loc 0=b:=(p.loc 0 (by show 0<0+1;decide)).trans rfl;have u:G'.cap 0=cap:=(p.cap 0 (by show 0<0+1;decide)).trans rfl;have Y:d.length≤cap:=by obtain⟨_,_,_,_,ab,_⟩:=hi.now;exact ab
      have z:=B0 U ag (by rw[u];exact Y);rw[K,u]at z;refine Uv (hY b pre d #[V] w w1 hi.j ht ay ⟨V,G'.fz,rfl,λq o h=>⟨?_,U.eb q o h⟩,?_⟩) ?_
      · rcases p.ey q o h with h|h|⟨i,aI,e⟩
        ·exact .inl h
        ·exact .inr h
        · exfalso;have L:b=q:=(sM aI).symm.trans e;have ah:=U.obj 0;rw[ag.2]at ah;obtain⟨_,_,_,_,aJ,_⟩:=ah;exact aJ o (by rw[K,L];exact h)
      · have hw:=aE.cd;have aK:(I.aq tk d.length (d.map dx)).cd = .aq .dead d.length (d.map dx):=by
         simp only[I.cd,lk,aaU];rfl
        rw[aK]at hw;refine k8 (G:=G') (G':=aG.mt G'.fz) (λ_ _ h=>h) (λ_ _ _ _ h=>h) ?_ hw;have:∀l:List Int,I.bA (l.map dx)=true:=by
         intro l;induction l with
         |nil=>rfl
         |cons x r O=>simp[I.bA,I.a_,dx,O]
        simp[I.a_,this,Tok.free]
      · rintro e w2 ⟨rfl,A,aL,iR⟩;exact⟨rfl,z.left aL,(hi.lf.trans X).trans iR,A⟩
  · rintro e a1 w1 ⟨rfl,⟨z,ac,aM⟩,aN,M,aO⟩;show ac_ C.P (.cond (.tmp 12) .ret .skip) _ a1 w1;refine wp_cond (t:=false) (by show a1.tmps.getD 12 undef=_;rw[Zh,aN];rfl) ?_;refine wp_skip ?_;show ac_ C.P B _ a1 w1;obtain⟨g1,g2,g3,g4⟩:=tell z ac;have aj:a1.tmps.size=41:=M.1.trans hi.sz;have ak:a1.tmps[1]?=some Vc:=(M.2 1 (by decide)).trans hi.t1;have al:a1.tmps[3]?=some (.slice (some ⟨b,0,none⟩) d.length cap):=(M.2 3 (by decide)).trans hi.t3;have aP:aH C.F w1 ((aG.mt fz).more b cap) (ox (.af [av di bK]) (.row 0 0 d.length 1)) a1.tmps:=by
     refine⟨by rw[aj];rfl,λj aQ V f g=>?_⟩
     match j,f with
     |0,f=>simp[ox]at f;subst f;exact .bot _
     |1,f=>simp[ox]at f;subst f;rw[ak]at g;cases g;exact hc.mono g3
     |2,f=>simp[ox]at f;subst f;exact .bot _
     |3,f=>simp[ox]at f;subst f;rw[al]at g;cases g;exact g4
     | j+4,f=>
      have:aQ = .bot:=by
       simp only[ox,ZY,abq,acD,aaJ]at f;split at f
       ·cases f;rfl
       ·cases f
      subst this;exact .bot _
    have H:At (Z.mt.push (.row (d.map dx))) 0 (.row (d.map dx)):=At.new Z.mt _;have am:=Uo (j:=0) (λn hn=>hl n hn) hv hn H (R:=λv H'=>if v=true then eU bK d=none else ∃t,eU bK d=some t∧At H' 0 (.row (t.map dx))) (λh H'=>by rw[aa rfl];exact h) λt ht H' h=>by rw[el];exact⟨t,ht,h⟩
    rw[←Un (ai C)]at am;refine tI hF xJ B _ _ _ w1 a1 _ _ hB am g1 g2 aP (aO.trans hi.df) ?_;intro aR ex ax H' G' a2 w2 hex ad aX aS aY an p N;obtain⟨aF,ty,W,_⟩:=z;have ht:=J4 p (λi hi=>sM hi) W;have A:=oz b _ w1 w2 aM ht;have X:=B1 p (λi hi=>sM hi) (ae ac) hb;cases aR with
    |exit i=>exact ad.elim
    | ret=>
     cases ex<;>simp only[e9]at hex;have aT:eU bK d=none:=by simpa[KX]using ad
     have aU:pre++[d]=eN bK:=by rw[←hp,sL hv aT]
     rw[aU]at A;exact hQ a2 w2 b an A
    | normal=>
     cases ex<;>simp only[e9]at hex;obtain⟨t,aV,aW⟩:∃t,eU bK d=some t∧At H' 0 (.row (t.map dx)):=by simpa[KX]using ad
     obtain⟨e1,L⟩:=xI (λn hn=>(hl n hn).1) hv aV;have K:G'.loc 0=b:=(p.loc 0 (by show 0<0+1;decide)).trans rfl;have u:G'.cap 0=cap:=(p.cap 0 (by show 0<0+1;decide)).trans rfl;have Y:d.length≤cap:=by obtain⟨_,_,_,_,ab,_⟩:=hi.now;exact ab
     have ao:t.length=d.length:=by rw[L.len,hlen]
     have ap:=B0 aS aW (by rw[u,ao];exact Y);rw[K,u]at ap;show ac9 C.P _ Q m a2 w2;refine O t (pre++[d]) a2 w2 ?_ L ?_ ?_
     ·rw[e1,abJ]at hm;omega
     ·rw[←hp,e1];simp
     ·exact⟨(N.2 0 (by decide)).trans ((M.2 0 (by decide)).trans hi.t0),(N.2 1 (by decide)).trans ak,by rw[ao];exact(N.2 3 (by decide)).trans al,N.1.trans aj,an,ap,ac.trans X,A⟩
end
end Rb

namespace Rb
open Go Go.RowKit
section
variable{C:Ctx}(hF:fD C)(hT:Cl (ai C) S.bu){f41:FuncId}(hf:C.F 41=some f41){B r0 r1:Code}(xO:b_ C r0 xM=true)(hB:b_ C B xJ=true)
 {S:Nat→Prop} {W0:World} {fz:Nat→Nat→Prop} (hz:∀b o,fz b o→S b∧∃V,W0.cell? ⟨b,o,none⟩=some V) (hS:∀k,S k→k<W0.heap.size) (hG:cq C W0 (aG.mt fz) Z.mt) {Vc:Value} {bK:List Int} (hc:VR C.F W0 (aG.mt fz) (.af [av di bK]) Vc)
 (hl:∀n∈bK,1≤n∧n≤1000000000) (hn:bK.length≤1000000000) {J:Nat→List (List Int)→World→Prop} (oz:∀b s A B,J b s A→mn b A B→J b s B) {l n:Nat}
 (hY:∀b pre x args Wp W1,J b pre Wp→mn b Wp W1→(pre++[x]) <+: eN bK→oy C.F fz Wp.heap.size W1 x args→YieldAt ac5 n C.P l args W1 λe W'=>e = .returned (.bool true)∧J b (pre++[x]) W'∧gQ b W1 W'∧eF S W1 W')
 (dy:∀(a:Act)(w:World)(V3:Value)(K:World→Prop),a.tmps[0]?=some (.func (.yield l) #[] #[])→a.tmps[3]?=some V3→a.tmps.size=41→Calls C.P f41 #[V3] w (λe w1=>∃V,e = .returned V∧YieldAt ac5 n C.P l #[V] w1 λe w2=>e = .returned (.bool true)∧K w2) →
   r1.wp C.P (λe a' w'=>e = .normal∧K w'∧a'.tmps[12]?=some (.bool false)∧c_ [8,9,10,11,12] a a'∧a'.defers=a.defers) a w)
 {Q:Exit→Act→World→Prop} (hQ:∀a w b,a.defers=[]→J b (eN bK) w→Q .ret a w)
include hF hT hf xO hB hz hS hG hc hl hn oz hY dy hQ
theorem Ux(z:∀b W',Below W0.heap.size W0 W'→W0.drawn≤W'.drawn→W0.heap.size≤b→b<W'.heap.size→J b [] W'){a:Act}(ha:a.tmps.size=41)(A:a.tmps[0]?=some (.func (.yield l) #[] #[]))(k:a.tmps[1]?=some Vc)(E:a.defers=[]) :
  ac_ C.P (r0.seq (.block 0 (.loop (.block 1 ((r1.seq (.cond (.tmp 12) .ret .skip)).seq B))))) Q a W0:=by
 have m:∀n∈bK,1≤n:=λn hn=>(hl n hn).1;refine wp_seq ?_;have G:Rel C.F W0 (aG.mt fz) Z.mt:=Rel.mt λb o h=>(hz b o h).2;have H:aH C.F W0 (aG.mt fz) (qs (.af [av di bK])) a.tmps:=by
  refine⟨by rw[ha];rfl,λj K V c p=>?_⟩
  match j,c with
  |0,c=>simp[qs]at c;subst c;exact .bot _
  |1,c=>simp[qs]at c;subst c;rw[k]at p;cases p;exact hc
  | j+2,c=>
   have:K = .bot:=by
    simp only[qs,ZY,abq,acD,aaJ]at c;split at c
    ·cases c;rfl
    ·cases c
   subst this;exact .bot _
 have L:cn (ai C) xM (qs (.af [av di bK])) Z.mt (KZ λM N=>M = .row 0 0 bK.length 1∧At N 0 (.row ((bK.map λ_=>(0:Int)).map dx))):=by
  rw[Uu,show O Z.mt 1 false (.af [av di bK])=some (av di bK)from rfl];simp only[D,cO];have hm:kn Z.mt true 1 8 [.int .u64 0] (.int .i64 bK.length) (.int .i64 bK.length)=some (.row 0 0 bK.length 1,Z.mt.push (.row ((bK.map λ_=>(0:Int)).map dx))):=by
   unfold kn;dsimp only;rw[aa ⟨by omega,by omega,by omega,by omega,rfl⟩];simp only[aY,Zc];congr 3;rw[aaU];have:∀l:List Int,(XY l.length [I.int .u64 0]).flatten=l.map (dx∘λ_=>(0:Int)):=by
    intro l;induction l with
    |nil=>rfl
    |cons x r R=>rw[abJ,List.replicate_succ,List.flatten_cons,R];rfl
   rw[this]
  rw[hm];simp only[aP];exact⟨trivial,At.new Z.mt _⟩
 refine tI hF xM r0 _ _ _ W0 a _ _ xO L hG G H E ?_;intro T ex ax H' G' a1 w1 hex f al U W Y d hk;cases T with
 |exit i=>exact f.elim
 |ret=>exact f.elim
 | normal=>
  cases ex<;>simp only[e9]at hex;obtain⟨ab,q⟩:=f;have ac:a1.tmps.size=41:=hk.1.trans ha;have g:=k3 (t:=3) W;rw[ab]at g;have s:a1.tmps[3]?=some (a1.tmps.getD 3 undef):=by rw[Zh,X2 (by omega)];rfl
  have ad:(H'.o 0).live=true:=by rw[q.2];rfl
  have ae:¬G'.loc 0<W0.heap.size:=λh=>by obtain⟨j,c,_⟩:=d.owned 0 ad h;cases c
  have u:¬S (G'.loc 0):=λh=>ae (hS _ h);have ag:∀i,(Z.mt.o i).live=true→(aG.mt fz).loc i=G'.loc 0:=λi hi=>by cases hi
  generalize am:a1.tmps.getD 3 undef=X at g s;cases g with
  | row id off len sz cap h hle an=>
   have v:(bK.map λ_=>(0:Int)).length=bK.length:=aaz _;have y:=B0 U q (by rw[v];omega);have ah:G'.loc 0<w1.heap.size:=by obtain⟨ao,e,h1,_⟩:=y;exact(YL.1 h1).1
   have aj:cap=G'.cap 0:=by omega
   subst aj;show ac_ C.P (.block 0 _) _ a1 w1;refine wp_block ?_;refine wp_loop_rounds (i_ bK (bK.map λ_=>0)).length ?_;refine Uw hF hT hf hB hz hS hG hc hl hn oz hY dy (Q:=Exit.inBlock 0 Q) (λa w b h1 ak=>hQ a w b h1 ak) (b:=G'.loc 0) (cap:=G'.cap 0) u _ _ [] a1 w1 (sl _) (VI.zero m) ?_ ?_
   ·rw[acD,BX m]
   ·exact⟨(hk.2 0 (by decide)).trans A,(hk.2 1 (by decide)).trans k,by rw[s,v],ac,Y,y,B1 d ag hS u,z _ _ (Step.below d) d.dr (by omega) ah⟩
end
end Rb

namespace Go.Proofs.YteakojhgmhmdkaaGreatDoor.rb
open Go Go.Proofs Go.RowKit Go.Shelf Rb
set_option maxRecDepth 100000 in
set_option maxHeartbeats 4000000 in
theorem Uy(n l : Nat)(L : List Value)(ds:List Deferred)(w:World)(V3:Value)(K:World→Prop)(ha:L.length=41)(a:L[0]?=some (.func (.yield l) #[] #[]))(b:L[3]?=some V3)
  (hc:Calls Tryz.prog 41 #[V3] w (λe w1=>∃V,e = .returned V∧YieldAt ac5 n Tryz.prog l #[V] w1 λe w2=>e = .returned (.bool true)∧K w2)) :
  (ada 1
                      #[{ dst := some 8, op := Op.move (Operand.tmp 0), type := 117, pos := "bound.go:41",
                          after:= #[],guard:=none},
                        { dst := some 9, op := Op.move (Operand.tmp 3), type := 46, pos := "bound.go:41",
                          after:= #[],guard:=none},
                        { dst :=some 10,
                          op :=
                           Op.call
                            { callee:=adb (Operand.func 41),args:= #[ade 9],
                              argTypes:= #[46]},
                          type := 46, pos := "bound.go:41", after := #[{ on := 1, ground := Ground.data }],
                          guard:=none},
                        { dst :=some 11,
                          op :=
                           Op.call
                            { callee:=adb (ade 8),args:= #[ade 10],
                              argTypes:= #[46]},
                          type := 4, pos := "bound.go:41",
                          after:=
                           #[{on:=0,ground:=adf},{on:=2,ground:=adf},
                             {on:=2,ground:=Ground.chain}],
                          guard:=none},
                        { dst := some 12, op := Op.unOp UnOp.not 4 (Operand.tmp 11), type := 4, pos := "bound.go:41",
                          after:= #[{on:=3,ground:=adf}],guard:=none}]
                      false).wp Tryz.prog (λe a' w'=>e = .normal∧K w'∧a'.tmps[12]?=some (.bool false)∧c_ [8,9,10,11,12] ⟨L.toArray,ds⟩ a'∧a'.defers=ds) ⟨L.toArray,ds⟩ w:=by
 obtain⟨t0,c,rfl⟩:=adg (l:=L) (n:=40) (by simpa using ha);obtain⟨t1,d,rfl⟩:=adg (l:=c) (n:=39) (by simpa using ha);obtain⟨t2,f,rfl⟩:=adg (l:=d) (n:=38) (by simpa using ha);obtain⟨t3,g,rfl⟩:=adg (l:=f) (n:=37) (by simpa using ha);obtain⟨t4,i,rfl⟩:=adg (l:=g) (n:=36) (by simpa using ha);obtain⟨t5,j,rfl⟩:=adg (l:=i) (n:=35) (by simpa using ha);obtain⟨t6,k,rfl⟩:=adg (l:=j) (n:=34) (by simpa using ha);obtain⟨t7,m,rfl⟩:=adg (l:=k) (n:=33) (by simpa using ha);obtain⟨t8,o,rfl⟩:=adg (l:=m) (n:=32) (by simpa using ha);obtain⟨t9,p,rfl⟩:=adg (l:=o) (n:=31) (by simpa using ha);obtain⟨t10,q,rfl⟩:=adg (l:=p) (n:=30) (by simpa using ha);obtain⟨t11,r,rfl⟩:=adg (l:=q) (n:=29) (by simpa using ha);obtain⟨t12,s,rfl⟩:=adg (l:=r) (n:=28) (by simpa using ha);obtain⟨t13,u,rfl⟩:=adg (l:=s) (n:=27) (by simpa using ha);obtain⟨t14,v,rfl⟩:=adg (l:=u) (n:=26) (by simpa using ha);obtain⟨t15,x,rfl⟩:=adg (l:=v) (n:=25) (by simpa using ha);obtain⟨t16,y,rfl⟩:=adg (l:=x) (n:=24) (by simpa using ha);obtain⟨t17,z,rfl⟩:=adg (l:=y) (n:=23) (by simpa using ha);obtain⟨t18,A,rfl⟩:=adg (l:=z) (n:=22) (by simpa using ha);obtain⟨t19,B,rfl⟩:=adg (l:=A) (n:=21) (by simpa using ha);obtain⟨t20,C,rfl⟩:=adg (l:=B) (n:=20) (by simpa using ha);obtain⟨t21,D,rfl⟩:=adg (l:=C) (n:=19) (by simpa using ha);obtain⟨t22,E,rfl⟩:=adg (l:=D) (n:=18) (by simpa using ha);obtain⟨t23,F,rfl⟩:=adg (l:=E) (n:=17) (by simpa using ha);obtain⟨t24,G,rfl⟩:=adg (l:=F) (n:=16) (by simpa using ha);obtain⟨t25,H,rfl⟩:=adg (l:=G) (n:=15) (by simpa using ha);obtain⟨t26,I,rfl⟩:=adg (l:=H) (n:=14) (by simpa using ha);obtain⟨t27,J,rfl⟩:=adg (l:=I) (n:=13) (by simpa using ha);obtain⟨t28,M,rfl⟩:=adg (l:=J) (n:=12) (by simpa using ha);obtain⟨t29,N,rfl⟩:=adg (l:=M) (n:=11) (by simpa using ha);obtain⟨t30,O,rfl⟩:=adg (l:=N) (n:=10) (by simpa using ha);obtain⟨t31,P,rfl⟩:=adg (l:=O) (n:=9) (by simpa using ha);obtain⟨t32,Q,rfl⟩:=adg (l:=P) (n:=8) (by simpa using ha);obtain⟨t33,R,rfl⟩:=adg (l:=Q) (n:=7) (by simpa using ha);obtain⟨t34,S,rfl⟩:=adg (l:=R) (n:=6) (by simpa using ha);obtain⟨t35,T,rfl⟩:=adg (l:=S) (n:=5) (by simpa using ha);obtain⟨t36,U,rfl⟩:=adg (l:=T) (n:=4) (by simpa using ha);obtain⟨t37,W,rfl⟩:=adg (l:=U) (n:=3) (by simpa using ha);obtain⟨t38,X,rfl⟩:=adg (l:=W) (n:=2) (by simpa using ha);obtain⟨t39,Y,rfl⟩:=adg (l:=X) (n:=1) (by simpa using ha);obtain⟨t40,Z,rfl⟩:=adg (l:=Y) (n:=0) (by simpa using ha);have aa:Z=[]:=Zo.1 (by simpa using ha);subst aa;simp only[abp,abq,Yh.injEq]at a b;subst a b;refine(wpIn_wide (n:=n+1)).1 ?_
 gi_wp2
 refine⟨trivial,(callsIn_wide.2 hc).mono ?_⟩;rintro e w1 ⟨V,rfl,fn,tmps,assign,body,ad,ab⟩
 gi_wp2
 refine ab.mono ?_;rintro e w2 ⟨rfl,ac⟩
 gi_wp2
 refine⟨ac,rfl,λt ht=>?_⟩
 match t,ht with
 |0,_=>rfl
 |1,_=>rfl
 |2,_=>rfl
 |3,_=>rfl
 |4,_=>rfl
 |5,_=>rfl
 |6,_=>rfl
 |7,_=>rfl
 |8,h=>exact absurd (by decide) h
 |9,h=>exact absurd (by decide) h
 |10,h=>exact absurd (by decide) h
 |11,h=>exact absurd (by decide) h
 |12,h=>exact absurd (by decide) h
 |t+13,_=>simp only[YY,abq]
theorem Uz:C.F 41=some 41:=by kernel_rfl
set_option maxRecDepth 100000 in
set_option maxHeartbeats 4000000 in
theorem UA(n:Nat){S:Nat→Prop}{w:World}{fz:Nat→Nat→Prop}(hz:∀b o,fz b o→S b∧∃V,w.cell? ⟨b,o,none⟩=some V)(hS:∀k,S k→k<w.heap.size)(hG:cq C w (aG.mt fz) Z.mt){Vc:Value}{bK:List Int}(hc:VR C.F w (aG.mt fz) (.af [av di bK]) Vc)
  (hl:∀n∈bK,1≤n∧n≤1000000000) (hn:bK.length≤1000000000):J2 n Tryz.prog 40 #[Vc] (oy C.F fz) S (eN bK) w:=by
 intro l J W hW oz hY d;have c:∀b o,fz b o→S b:=λb o h=>(hz b o h).1;have e:GLe w (aG.mt fz) W (aG.mt fz):=⟨sl _,λ_ _=>rfl,λ_ _=>rfl,λ_ _ h=>h,λb o V hf hc=>hW.cell (c b o hf) hc⟩
 refine callsIn_of_wp Tryz.func40 rfl trivial ?_ rfl;simp only[Tryz.ntmps40,List.size_toArray,abJ,List.length_nil,Nat.reduceAdd,Nat.reduceSub,Array.replicate_succ,Array.replicate_zero,List.push_toArray,List.append_toArray,acD,ZY];refine wpIn_wide.2 ?_;refine Ux (C:=C) (pt _ _) nO Uz (by kernel_rfl) (by kernel_rfl) (S:=S) (W0:=W) (fz:=fz) (λb o h=>⟨c b o h,by obtain⟨V,f⟩:=(hz b o h).2;exact⟨V,hW.cell (c b o h) f⟩⟩) (λk hk=>AH (hS k hk) hW.1) (hG.left hW c) (hc.mono e) hl hn oz (l:=l) (n:=n-1) hY ?_ ?_ d rfl rfl rfl rfl
 · rintro⟨⟨L⟩,ds⟩ w1 V3 g h1 i j m;exact Uy (n-1) l L ds w1 V3 g (by simpa using j) (by simpa using h1) (by simpa using i) m
 · intro a w1 b p q;exact bodyPost_ret (results_none rfl _ _ _) p ⟨⟨_,rfl⟩,b,q⟩
end Go.Proofs.YteakojhgmhmdkaaGreatDoor.rb

namespace Rb
open Go
def J5:c0:= .region [
   ⟨some 3,.box false 2 (.t 0),none⟩,
   ⟨some 6,.mv (.k (.aq .nil 0 [])),none⟩,
   ⟨some 7,.mv (.k (.bool false)),none⟩]
def J6:c0:= .region [
   ⟨some 20,.load 2 true (.t 3),none⟩,
   ⟨some 21,.mv (.t 1),none⟩,
   ⟨some 22,.call 14 [(.t 20),(.t 21)],none⟩,
   ⟨some 8,.mv (.t 22),none⟩]
def B2:c0:= .join [40] [23,24,25,26,27,28,29,30,31,32,33,34,35,36,37,38,39] (.gq [30] [23,24,25,26,27,28,29] [
   ⟨some 23,.mv (.t 2),none⟩,
   ⟨some 24,.bin .lss (.t 23) (.k (.int .i64 1)),none⟩,
   ⟨some 25,.mv (.t 24),none⟩,
   ⟨some 26,.mv (.t 2),some (25,false)⟩,
   ⟨some 27,.mv (.t 8),some (25,false)⟩,
   ⟨some 28,.len false (.t 27),some (25,false)⟩,
   ⟨some 29,.bin .gtr (.t 26) (.t 28),some (25,false)⟩,
   ⟨some 30,.pick (.t 25) (.k (.bool true)) (.t 29),none⟩]
 (.region [
   ⟨some 31,.mv (.t 30),none⟩,
   ⟨some 32,.mv (.t 8),some (31,false)⟩,
   ⟨some 33,.mv (.t 2),some (31,false)⟩,
   ⟨some 34,.bin .sub (.t 33) (.k (.int .i64 1)),some (31,false)⟩,
   ⟨some 35,.fS none 5 (.t 32) (.t 34),some (31,false)⟩,
   ⟨some 36,.gG 0 (.t 35),some (31,false)⟩,
   ⟨some 37,.load 1 false (.t 36),some (31,false)⟩,
   ⟨some 38,.call 16 [(.t 37)],some (31,false)⟩,
   ⟨some 39,.un .not (.t 38),some (31,false)⟩,
   ⟨some 40,.pick (.t 31) (.k (.bool true)) (.t 39),none⟩]))
 (.cond (.t 40) (.seq (.region [
     ⟨some 6,.mv (.k (.aq .nil 0 [])),none⟩,
     ⟨some 7,.mv (.k (.bool false)),none⟩])
   (.ret))
   (.skip))
def J7:c0:= .region [
   ⟨some 41,.mv (.t 8),none⟩,
   ⟨some 42,.mv (.t 2),none⟩,
   ⟨some 43,.bin .sub (.t 42) (.k (.int .i64 1)),none⟩,
   ⟨some 44,.fS none 5 (.t 41) (.t 43),none⟩,
   ⟨some 45,.load 5 true (.t 44),none⟩,
   ⟨some 9,.alloc true [.int .i64 0,.int .i64 0,.int .i64 0,.str [],.aq .nil 0 []],none⟩,
   ⟨none,.store 5 (.t 9) (.t 45),none⟩]
def J8:c0:= .region [
   ⟨some 10,.mv (.k (.int .i64 1)),none⟩]
def J9:c0:= .region [
   ⟨some 46,.gG 0 (.t 3),none⟩,
   ⟨some 47,.load 1 false (.t 46),none⟩,
   ⟨some 48,.gG 3 (.t 9),none⟩,
   ⟨some 49,.load 2 true (.t 48),none⟩,
   ⟨some 50,.call 17 [(.t 47),(.t 49)],none⟩,
   ⟨some 11,.mv (.t 50),none⟩]
def B3:c0:= .seq (.region [
   ⟨some 51,.mv (.t 11),none⟩,
   ⟨some 52,.len false (.t 51),none⟩,
   ⟨some 53,.mv (.k (.int .i64 0)),none⟩])
 (.block 0 (.loop [6,7,10,53] [13,54,55,56,57,58,59,60,61,62] (.seq (.region [
   ⟨some 54,.bin .lss (.t 53) (.t 52),none⟩])
 (.seq (.cond (.t 54) (.skip)
   (.exit 0))
 (.seq (.block 1 (.seq (.region [
   ⟨some 55,.fS none 1 (.t 51) (.t 53),none⟩,
   ⟨some 56,.load 1 false (.t 55),none⟩,
   ⟨some 13,.mv (.t 56),none⟩])
 (.seq (.region [
   ⟨some 57,.mv (.t 10),none⟩,
   ⟨some 58,.mv (.t 13),none⟩,
   ⟨some 59,.bin .mul (.t 57) (.t 58),none⟩,
   ⟨some 10,.mv (.t 59),none⟩])
 (.seq (.region [
   ⟨some 60,.mv (.t 10),none⟩,
   ⟨some 61,.bin .gtr (.t 60) (.k (.int .i64 4096)),none⟩])
 (.cond (.t 61) (.seq (.region [
     ⟨some 6,.mv (.k (.aq .nil 0 [])),none⟩,
     ⟨some 7,.mv (.k (.bool false)),none⟩])
   (.ret))
   (.skip))))))
 (.region [
   ⟨some 62,.bin .add (.t 53) (.k (.int .i64 1)),none⟩,
   ⟨some 53,.mv (.t 62),none⟩]))))))
def J_:c0:= .region [
   ⟨some 64,.gG 0 (.t 3),none⟩,
   ⟨some 65,.load 1 false (.t 64),none⟩,
   ⟨some 66,.call 11 [(.t 65)],none⟩,
   ⟨some 63,.mv (.t 66),none⟩,
   ⟨some 67,.extract 0 (.t 63),none⟩,
   ⟨some 68,.extract 1 (.t 63),none⟩,
   ⟨some 14,.alloc true [.aq .nil 0 []],none⟩,
   ⟨none,.store 1 (.t 14) (.t 67),none⟩,
   ⟨some 15,.mv (.t 68),none⟩]
def Ka:c0:= .seq (.region [
   ⟨some 69,.mv (.t 15),none⟩,
   ⟨some 70,.bin .neq (.t 69) (.k (.int .i64 0)),none⟩])
 (.cond (.t 70) (.seq (.region [
     ⟨some 6,.mv (.k (.aq .nil 0 [])),none⟩,
     ⟨some 7,.mv (.k (.bool false)),none⟩])
   (.ret))
   (.skip))
def Kb:c0:= .region [
   ⟨some 16,.alloc true [.aq .nil 0 []],none⟩]
def Kc:c0:= .region [
   ⟨some 71,.mv (.t 11),none⟩,
   ⟨some 72,.call 18 [(.t 71)],none⟩]
def Kd:c0:= .region [
   ⟨some 90,.load 1 false (.t 16),none⟩,
   ⟨some 6,.mv (.t 90),none⟩,
   ⟨some 7,.mv (.k (.bool true)),none⟩]
def B4:c0:= .region [
   ⟨some 75,.gG 0 (.t 3),none⟩,
   ⟨some 76,.load 1 false (.t 75),none⟩,
   ⟨some 77,.gG 3 (.t 9),none⟩,
   ⟨some 78,.load 2 true (.t 77),none⟩,
   ⟨some 79,.mv (.t 17),none⟩,
   ⟨some 80,.call 19 [(.t 76),(.t 78),(.t 79)],none⟩,
   ⟨some 74,.mv (.t 80),none⟩,
   ⟨some 81,.extract 0 (.t 74),none⟩,
   ⟨some 82,.extract 1 (.t 74),none⟩,
   ⟨some 18,.alloc true [.int .i64 0,.int .i64 0,.int .i64 0,.bool false,.int .i64 0,.int .i64 0],none⟩,
   ⟨none,.store 6 (.t 18) (.t 81),none⟩,
   ⟨some 19,.mv (.t 82),none⟩]
def B5:c0:= .draw [
   ⟨some 83,.load 1 false (.t 16),none⟩,
   ⟨some 84,.load 1 false (.t 14),none⟩,
   ⟨some 85,.gG 0 (.t 18),none⟩,
   ⟨some 86,.load 2 true (.t 85),none⟩,
   ⟨some 87,.call 20 [(.t 84),(.t 86)],none⟩,
   ⟨some 88,.gH false 2 1 [.int .i64 0,.int .i64 0] [(0,2,(.t 87))],none⟩,
   ⟨some 89,.append false 2 16 (.t 83) (.t 88),none⟩,
   ⟨none,.store 1 (.t 16) (.t 89),none⟩]
 [[],[],[],[2],[1,2,3],[1,2,3,4],[0,1,2,3,4,5],[0,1,2,3,4,5,6]] [([0,1,2,3],4,[0]),([5],6,[]),([],7,[])] []
end Rb

namespace Rb
open Go
variable{P:Program}{n l:Nat}{Q:Exit→Act→World→Prop}{w:World}{a:Act}{N N':Act→World→Prop}{ops:Array Oper}{o:Oper}
theorem UB{a:String}{args:Array Value}{R:Value→World→Prop}(h:Rows P a args w R):RowsIn (ac5.inRound l) n P a args w R:=by intro c cs _;obtain⟨v,w',b,hs⟩:=h c cs;exact⟨v,w',b,by rw[fenced_inRound];exact stepsIn_wide.2 hs⟩
theorem UC(hN:∀a w,N a w→N' a w):∀r:Result Next,adh P o a N Q r→adi (ac5.inRound l) n P o a N' Q r:=by
 intro r h;unfold adh at h;unfold adi;split at h
 ·exact hN _ _ h
 ·exact hN _ _ h
 ·exact hN _ _ h
 · refine⟨λq=>by simp[adj,ac5]at q,((callsIn_wide.2 h).inRound l).mono ?_⟩;intro e w' he;cases e with
   |returned v=>exact hN _ _ he
   |panicked b=>exact he
   |outgrown=>exact he
 ·exact⟨λq=>by simp[adj,ac5]at q,(UB h).mono λv w h=>hN _ _ h⟩
 ·exact h
 ·exact h.elim
def xP(ops:Array Oper):Prop:=∀o∈ops.toList,∀c,o.op≠adk c
theorem Ke(b:∀c,o.op≠adk c)(hN:∀a w,N a w→N' a w)(h:Z8 P o a w N Q):adl (ac5.inRound l) n P o a w N' Q:=by refine⟨λf _=>trivial,?_⟩;rw[show(ac5.inRound l).round=some l from rfl,Oper.semAt_some l _ o b];exact UC hN _ h
theorem Kf(hQ:¬LetsOut Q):∀(L:List Oper),(∀o∈L,∀c,o.op≠adk c)→∀(a:Act)(w:World),wpList P ops Q L a w→wpListIn (ac5.inRound l) n P ops Q L a w:=by
 intro L;induction L with
 |nil=>intro _ a w h;exact h
 | cons o r e=>
  intro b a w h;have d:=e λo g=>b o (aao _ g);change (if aau o (yielded ops a.tmps)=true then Z8 P o a w (wpList P ops Q r) Q∨Oper.asks P o a w∧LetsOut Q else wpList P ops Q r (a.put o.dst undef) w)at h;show(if aau o (yielded ops a.tmps)=true then adl (ac5.inRound l) n P o a w (wpListIn (ac5.inRound l) n P ops Q r) Q else(∀f,Oper.about P w a.eval o=some f→(ac5.inRound l).fn f)∧wpListIn (ac5.inRound l) n P ops Q r (a.put o.dst undef) w);split at h
  · rename_i hw;rw[aa hw];rcases h with h|h
    ·exact Ke (b o (aap ..)) d h
    ·exact absurd h.2 hQ
  · rename_i hw;rw[ae hw];exact⟨λf _=>trivial,d _ _ h⟩
theorem UD{n l i:Nat}(hQ:¬LetsOut Q)(c:xP ops)(hN:∀a w,N a w→N' a w)(h:wpOp P ops Q i N a w):wpOpIn (ac5.inRound l) n P ops Q i N' a w:=by
 unfold wpOp at h;unfold wpOpIn;cases b:ops[i]? with
 |none=>rw[b]at h;exact hN _ _ h
 | some o=>
  rw[b]at h;dsimp only at h ⊢;have d:=c o (by rw[←Array.getElem?_toList]at b;exact aaN b);split at h
  · rename_i hw;rw[aa hw];rcases h with h|h
    ·exact Ke d hN h
    ·exact absurd h.2 hQ
  · rename_i hw;rw[ae hw];exact⟨λf _=>trivial,hN _ _ h⟩
theorem UE{c:Region.Mode}(hQ:¬LetsOut Q)(d:xP ops):∀(fuel:Nat)(b:Array Bool)(a:Act)(w:World),wpAny P c ops Q fuel b a w→wpAnyIn (ac5.inRound l) n P c ops Q fuel b a w:=by
 intro fuel;induction fuel with
 |zero=>intro b a w h;exact h
 | succ k e=>intro b a w h;change (aaF c ops b=[]→Q adm a w)∧∀i,i∈aaF c ops b→wpOp P ops Q i (wpAny P c ops Q k (b.setIfInBounds i true)) a w at h;show(aaF c ops b=[]→Q adm a w)∧∀i,i∈aaF c ops b→wpOpIn (ac5.inRound l) n P ops Q i (wpAnyIn (ac5.inRound l) n P c ops Q k (b.setIfInBounds i true)) a w;exact⟨h.1,λi hi=>UD hQ d (λa w h=>e _ a w h) (h.2 i hi)⟩
end Rb

namespace Rb
open Go
def qt:Code→Prop
 | .region _ ops _=>xP ops
 |_=>False
theorem UF{C:Ctx}(hF:fD C){n l:Nat} :
  ∀ (ac:c0) (c:Code) (env:Env) (H:Z) (G:aG) (w:World) (a:Act) (K:ff→Env→Z→Prop) (Q:Exit→Act→World→Prop),b_ C c ac=true→cn (ai C) ac env H K →
   cq C w G H→Rel C.F w G H→aH C.F w G env a.tmps→a.defers=[]→qt c→¬LetsOut Q→(∀t x,ac ≠ .freeze t x) →
   (∀s ex ax H' G' a' w',e9 s ex→K s ax H'→cq C w' G' H'→Rel C.F w' G' H'→aH C.F w' G' ax a'.tmps→a'.defers=[]→Step w G H w' G' H'→c_ (ej ac) a a'→Q ex a' w') →
   c.wpIn (ac5.inRound l) n C.P Q a w:=by
 intro ac c env H G w a K Q d h hG p he q e r v hQ;cases c with
 | region id ops draw=>
  have e:xP ops:=e;cases ac with
  | region al=>
   cases draw with
   |true=>simp[b_]at d
   | false=>
    simp only[b_]at d;refine wpIn_region_list (Kf r _ e _ _ ?_);exact tB (az:=gw al) (a0:=a) (w0:=w) (G0:=G) (H0:=H) (Q:=Q) (K:=K .normal) hF ops.toList al env H G w a d h hG p he q (Step.refl _ _ _) (c_.refl _ _) (λ_ ht=>ht)
     (λax H' G' a' w' f g i j k m o=>hQ .normal .normal ax H' G' a' w' trivial f g i j k m o)
  | gq vs ks al b=>
   cases draw with
   |true=>simp[b_]at d
   | false=>
    simp only[b_]at d;refine wpIn_region_list (Kf r _ e _ _ ?_);exact Dd (az:=ej (.gq vs ks al b)) (a0:=a) (w0:=w) (G0:=G) (H0:=H) (Q:=Q) (K:=K) hF (.gq vs ks al b) ops.toList env H G w a d h hG p he q (Step.refl _ _ _) (c_.refl _ _) (λ_ ht=>ht)
     (λax H' G' a' w' f g i j k m o=>hQ .normal .normal ax H' G' a' w' trivial f g i j k m o)
  | draw al pr bf last=>
   cases draw with
   |false=>simp[b_]at d
   | true=>simp only[b_,X7]at d;obtain⟨⟨⟨h1,y⟩,z⟩,u⟩:=d;refine wpIn_region_any u (UE r e _ _ _ _ ?_);exact Db hF h1 y z u h hG p he q λax H' G' a' w' f g i j k m o=>hQ .normal .normal ax H' G' a' w' trivial f g i j k m o
  |freeze t x=>exact absurd rfl (v t x)
  |_=>simp[b_]at d
 |_=>exact e.elim
end Rb

namespace Rb
open Go
variable{env:Env}{G G0:aG}{w w0:World}{C:Ctx}{H0 H:Z}{a:Act}{ac:c0}{c:Code}{K:ff→Env→Z→Prop}{Q:Exit→Act→World→Prop}{F:cx}{Vs:Array Value}
structure h4(C:Ctx)(w0:World)(G0:aG)(H0:Z)(env:Env)(H:Z)(G:aG)(a:Act)(w:World):Prop where
 x:cq C w G H
 r:Rel C.F w G H
 v:aH C.F w G env a.tmps
 d:a.defers=[]
 s:Step w0 G0 H0 w G H
theorem h4.run(hF:fD C)(h:h4 C w0 G0 H0 env H G a w){Q:Exit→Act→World→Prop}(hc:b_ C c ac=true)(e:cn (ai C) ac env H K)
  (hQ:∀b ex ax H' G' a' w',e9 b ex→K b ax H'→h4 C w0 G0 H0 ax H' G' a' w'→a'.tmps.size=a.tmps.size→Q ex a' w'):c.wp C.P Q a w:=
 tI hF ac c env H G w a K Q hc e h.x h.r h.v h.d λb ex ax H' G' a' w' he f g i j k l m=>hQ b ex ax H' G' a' w' he f ⟨g,i,j,k,h.s.trans l⟩ m.1
theorem h4.runIn(hF:fD C){n l:Nat}(h:h4 C w0 G0 H0 env H G a w)(hc:b_ C c ac=true)(e:cn (ai C) ac env H K)(f:qt c)(g:¬LetsOut Q)(i:∀t x,ac ≠ .freeze t x)
  (hQ:∀b ex ax H' G' a' w',e9 b ex→K b ax H'→h4 C w0 G0 H0 ax H' G' a' w'→a'.tmps.size=a.tmps.size→Q ex a' w'):c.wpIn (ac5.inRound l) n C.P Q a w:=
 UF hF ac c env H G w a K Q hc e h.x h.r h.v h.d f g i λb ex ax H' G' a' w' he j k m o p q u=>hQ b ex ax H' G' a' w' he j ⟨k,m,o,p,h.s.trans q⟩ u.1
def dt(a0 a1 a b a8 c cS cu cB cz cQ d cV e Kg:I):Env:=[a0,a1,a,b,.bot,.bot,.bot,.bot,a8,c,cS,cu,.bot,.bot,cB,cz,cQ,d,cV]++(XY 53 .bot++([e,Kg]++XY 17 .bot))
def KA(R:I→I→I→I→I→I→I→I→I→I→I→I→I→I→Z→Prop)(Rr:Z→Prop):ff→Env→Z→Prop
 | .normal,e,H=>R (e.getD 0 .bot) (e.getD 1 .bot) (e.getD 2 .bot) (e.getD 3 .bot) (e.getD 8 .bot) (e.getD 9 .bot) (e.getD 10 .bot) (e.getD 11 .bot) (e.getD 14 .bot) (e.getD 15 .bot) (e.getD 16 .bot) (e.getD 17 .bot) (e.getD 18 .bot) (e.getD 72 .bot) H
 | .ret,e,H=>e.getD 6 .bot = .aq .nil 0 []∧e.getD 7 .bot = .bool false∧Rr H
 | .exit _,_,_=>False
theorem aH.getD(h:aH F w G env Vs){j:Nat}{V:Value}(b:Vs[j]?=some V):VR F w G (env.getD j .bot) V:=by
 cases a:env[j]? with
 |none=>rw[Zm,a];exact .bot _
 |some c=>rw[Zm,a];exact h.2 j c V a b
theorem Kh(h:aH F w G env Vs)(hl:Vs.size=91) :
  aH F w G (dt (env.getD 0 .bot) (env.getD 1 .bot) (env.getD 2 .bot) (env.getD 3 .bot) (env.getD 8 .bot) (env.getD 9 .bot) (env.getD 10 .bot) (env.getD 11 .bot) (env.getD 14 .bot) (env.getD 15 .bot) (env.getD 16 .bot) (env.getD 17 .bot) (env.getD 18 .bot) (env.getD 72 .bot) .bot) Vs:=by
 refine⟨by rw[hl];rfl,λj c V a e=>?_⟩;have key:c = .bot∨c=env.getD j .bot:=by
  unfold dt at a;rw[Yq]at a;split at a
  · rename_i b;have b:j<19:=b
    match j,b,a with
    |0,_,a|1,_,a|2,_,a|3,_,a|8,_,a|9,_,a|10,_,a|11,_,a|14,_,a|15,_,a|16,_,a|17,_,a|18,_,a=>exact .inr (Yh.inj a).symm
    |4,_,a|5,_,a|6,_,a|7,_,a|12,_,a|13,_,a=>exact .inl (Yh.inj a).symm
    |j+19,h,_=>omega
  · rename_i b;have b:¬j<19:=b;rw[Yq,List.length_replicate]at a;split at a
    · rw[aaJ]at a;split at a<;>cases a<;>exact .inl rfl
    · rename_i d;have d:¬j-19<53:=d;obtain⟨i,rfl⟩:∃i,j=72+i:=⟨j-72,by omega⟩
      have:72+i-[env.getD 0 .bot,env.getD 1 .bot,env.getD 2 .bot,env.getD 3 .bot,.bot,.bot,.bot,.bot,env.getD 8 .bot,env.getD 9 .bot,env.getD 10 .bot,env.getD 11 .bot,.bot,.bot,env.getD 14 .bot,env.getD 15 .bot,env.getD 16 .bot,env.getD 17 .bot,env.getD 18 .bot].length-53=i:=by show 72+i-19-53=i;omega
      rw[this]at a
      match i,a with
      |0,a=>exact .inr (Yh.inj a).symm
      |1,a=>exact .inl (Yh.inj a).symm
      | i+2,a=>simp only[ZY,acD,abq,aaJ]at a;split at a<;>cases a<;>exact .inl rfl
 rcases key with rfl|rfl
 ·exact .bot _
 ·exact aH.getD h e
end Rb

namespace Rb
open Go
variable{e:X}{l:Int}{x:I}
theorem cP.row{H:Z}{sz n j:Nat}{cells:List I}(h:cP H sz x n cells)(a:bQ x=some j):∃cs,At H j (.row cs):=by
 rcases h.2 with⟨tk,_,_,rfl⟩|⟨i,cs,m,rfl,b,_⟩
 ·cases a
 ·cases a;exact⟨cs,b⟩
theorem bB.UG{H H':Z}{id:Nat}{vars:List U}{wh F x:I}{c:LD}(h:bB H id vars wh F c)(k:∀i o,bQ x≠some i→At H i o→At H' i o)(g:∀j,bQ x=some j→∃cs,At H j (.row cs))(m:bQ x≠some id)(n:∀j,bQ x=some j→bQ F≠some j):bB H' id vars wh F c:=by obtain⟨xo,xs,a,b,d,e⟩:=h.x;have f:∀t p q,At H t (.tok p q)→At H' t (.tok p q):=λt p q ht=>k t _ (λe=>by obtain⟨cs,hc⟩:=g t e;exact absurd (hc.2.symm.trans ht.2) (by intro e;cases e)) ht;exact⟨⟨xo,xs,k _ _ m a,b.frame f,d.frame f,e⟩,h.l.aI λj cs r s=>k _ _ (λe=>n j e r) s,h.ld,h.lo⟩
theorem UH(h:hZ e=true)(a:e.kind=3):e.bn.length=2:=by have:=(oi h).2.2.2.1;unfold iy at this;rw[aa a]at this;have b:(e.bn.length:Int)=2:=this;omega
theorem UI(h:hZ e=true)(f:5≤e.kind):(e.kind≠5→1≤e.bn.length)∧(e.kind=8→2≤e.bn.length)∧e.kind≤8∧e.bn.length≤2:=by
 obtain⟨_,a,_,hl,_⟩:=oi h;unfold iy at hl;rw[bC]at hl;by_cases b:e.kind=5
 · rw[aa (.inr b)]at hl;have c:(e.bn.length:Int)=0:=hl;exact⟨λe=>absurd b e,λe=>by omega,a,by omega⟩
 · rw [bC]at hl;by_cases d:e.kind=6∨e.kind=7
   · rw[aa d]at hl;have c:(e.bn.length:Int)=1:=hl;exact⟨λ_=>by omega,λe=>by omega,a,by omega⟩
   · rw[ae d,cY]at hl;have c:(e.bn.length:Int)=2:=hl;exact⟨λ_=>by omega,λe=>by omega,a,by omega⟩
theorem Ki(vars:List U){L:List (List UInt8)}{k:Int}{x:aM}(h:vP vars L k x):∀p∈x.aC,∀e∈p.bb,vE vars L e:=(I9 vars L).1 ((mW vars L k x).1 h).2.2
theorem GE.fr(c:LD):GE c {c with bj:=c.bj+1} 1 []:=⟨⟨[],(abQ _).symm,Yz _,λ_ a=>by cases a⟩,YH _,sl _,rfl,(abQ _).symm,Yz _,rfl,rfl,rfl⟩
theorem Kj(h:hZ e=true)(d:e.kind≤2):gk l e=[]:=by
 obtain⟨h1,_,b,a,_⟩:=oi h;have c:e.bn=[]:=by unfold iy at a;rw[bC,bC,bC,bC]at a;exact acN (Int.ofNat.inj a)
 rw[xk,oo,b (by omega),c,jr,dN,bC];rfl
theorem UJ{e x y:X}(h:hZ e=true)(c:e.kind=3)(a:e.bn=[x,y]):gk l e=gk l x++gk l y:=by obtain⟨h1,_,b,d,_⟩:=oi h;rw[xk,oo,b (by omega),a,jr,dN,dN,dN,bC];simp
theorem UK(h:hZ e=true)(b:e.kind=4)(c:iw (B (10+e.kind)) e.aV=true):gk l e=gE l e.place++[⟨14,0,l,e.place⟩]:=by
 obtain⟨h1,_,f,a,_⟩:=oi h;have d:e.bn=[]:=by unfold iy at a;rw[bC,cY]at a;exact acN (Int.ofNat.inj a)
 have:e.aV=0:=by rw[b]at c;exact eq_of_beq c
 rw[xk,d,dN,cY,b,this];simp
theorem UL(a:5≤e.kind):gk l e=gE l e.place++dN l e.bn++[⟨10+e.kind,e.aV,l,e.place⟩]:=by rw[xk,cY]
theorem UM{a b:Int}(hb:0≤b){P:I→Prop}(h:∀v,P (.int .u64 v)):Do (ab .shl (.int .u64 a) (.int .i64 b)) P:=by rw[Hj _ _ _ _ hb,D];exact h _
section
variable{C:Ctx}(ak:bP C)(hT:Cl (ai C) S.bu){id:Nat}{vars:List U}{F:I}{c:LD}{H:Z}{Q:ad}{w:Nat}
include ak hT
theorem UN(G:gO vars){L:List (List UInt8)}{x:aM}(I:x.ok)(hp:vP vars L 14 x)(J:∀p∈x.aC,∀e∈p.bb,iF C id vars L e)(h:bB H id vars (dw vars) F c)(K:c.L.map abm=L)(hl:c.V=l)(hb:BD c (w+(fx x+256)))
  (hQ:EX id vars (dw vars) F H c (fx x+100) (gE l x++[⟨14,0,l,x⟩]) Q):ai C 148 [.ptr id 0,.agg x.cells] H Q:=by
 obtain⟨M,O,_⟩:=(mW vars L 14 x).1 hp;refine S.P5 hT ?_;unfold S.f148;simp only[qh,aP,xb,D];refine sJ ak hT G I M J h K hl (w:=w+256) (hb.mono (by omega)) λs b al c1 H1 k1 h1 g1 P R hs T=>?_;obtain⟨U,am,_,_⟩:=xp O;obtain⟨z0,W,_,_⟩:=xm T hs U;have i:BD c1 (w+256):=g1.bd (m:=w+256) (hb.mono (by omega));refine h1.jL k1 (cs:=dc s b al) (N:=8) rfl rfl rfl λj H2 k2 X f l2=>?_;have Y:=k1.trans k2;rw[f.all];simp only[D];refine sG ak hT X (w:=w+200) (i.mono (by omega)) P λa c3 an g Z g3 ha=>?_;have o:BD c3 (w+200):=g3.bd (m:=w+200) (i.mono (by omega));rw[(f.aI g).all];simp only[D];refine sH ak hT Z (l:=l) (by rw[g3.V,g1.V];exact hl) (w:=w+199) (o.mono (by omega)) _ _ (by decide) x λao aa q ab g4 e1 ap=>?_;have r:BD aa (w+199):=g4.bd (m:=w+199) (o.mono (by omega));have t:=(f.aI g).aI q;refine⟨t.all,?_⟩;refine JC ak hT ab (w:=w+100) (r.mono (by omega)) R W (ha.mono g4.r0) ⟨by omega,by omega⟩ λv c5 aq u y g5 hv=>?_;have z:BD c5 (w+100):=g5.bd (m:=w+100) (r.mono (by omega));have d:=t.aI u;have A:=((Y.trans g).trans q).trans u;have B:=((g1.trans g3).trans g4).trans g5;simp only[dX,D,d.ld (k:=3) rfl,d.ld (k:=4) rfl,d.ld (k:=5) rfl,j3,aB];refine aF (λ_=>?_) (λ_=>hQ _ _ _ A y (B.mono (by omega) (by simp only[abQ])) hv);refine mm ak hT y (w:=w+98) z _ _ hv λv6 ac ar E ad g6 ae=>?_;have af:BD ac (w+98):=g6.bd (m:=w+98) (z.mono (by omega));refine⟨(d.aI E).ld rfl,?_⟩;refine BM ak hT hs.wid λn=>?_;refine mm ak hT ad (w:=w+96) af _ _ ae λau av aw ag ah g7 aj=>?_;exact hQ _ _ _ ((A.trans E).trans ag) ah (((B.trans g6).trans g7).mono (by omega) (by simp only[abQ])) aj
theorem UO(bi:gO vars){L:List (List UInt8)}(bk:e.ok)(hf:hZ e=true)(R:5≤e.kind)(hp:vP vars L (B (10+e.kind)) e.place)(bl:∀p∈e.place.aC,∀e∈p.bb,iF C id vars L e)(bm:∀k∈e.bn,iF C id vars L k)(h:bB H id vars (dw vars) F c)(aT:c.L.map abm=L)(hl:c.V=l)(hb:BD c (w+(fx e.place+dI e.bn+256)))
  (hQ:EX id vars (dw vars) F H c (fx e.place+dI e.bn+100) (gE l e.place++dN l e.bn++[⟨10+e.kind,e.aV,l,e.place⟩]) Q):ai C 149 [.ptr id 0,.agg e.cells] H Q:=by
 obtain⟨bo,aU,_⟩:=(mW vars L _ e.place).1 hp;obtain⟨bp,br,cl,cm⟩:=UI hf R;obtain⟨⟨cn,ar⟩,bt⟩:=X.fK bk;have bu:B (10+e.kind)=10+e.kind:=bI;rw[bu]at aU;refine S.P6 hT ?_;unfold S.f149;have aj:∀p:Nat,W p (.af e.cells)=some (.af (e.cells.drop p)):=λ_=>rfl;simp only[r9,aP,aj,r_,D];refine sJ ak hT bi bt bo bl h aT hl (w:=w+(dI e.bn+256)) (hb.mono (by omega)) λs b al c1 H1 k1 h1 g1 bv co hs bw=>?_;obtain⟨_,_,bx,bz⟩:=xp aU;have aW:=bx (by omega);have cp:=bz (by omega) (by omega);obtain⟨z0,cq,z2,z3⟩:=xm bw hs (.inr aW);have bA:P8 s.len:=by have:=z2 aW;unfold P8;omega
 refine h1.jL k1 (cs:=dc s b al) (N:=8) rfl rfl rfl λjs H2 k2 bC bs l2=>?_;have bE:=k1.trans k2;simp only[w4,D,cO];have tail:∀(t:LD)(u:Z)(x:I)(rs:List Int),rs.length=e.bn.length→KR id H u→bB u id vars (dw vars) F t→Bx H id F u js 8 (dc s b al)→cP u 1 x rs.length (rs.map (I.int .i64))→(∀j,bQ x=some j→H.n≤j∧j≠id∧bQ F≠some j∧j≠js)→(∀r∈rs,dh t.bj r)→dh t.bj b→GE c t (fx e.place+dI e.bn) (gE l e.place++dN l e.bn)→S.zT (ai C) (.ptr id 0) (.af e.cells) (.ptr js 0) Q [x] u:=by
  intro t u x rs cr T am ad P z ae an g4;have au:BD t (w+256):=g4.bd (m:=w+256) (hb.mono (by omega));unfold S.zT;simp only[aj,lI,D,fZ,b4,aE];rw[wrap_i64 (n:=e.kind-5) (by omega) (by omega),wrap_i64 (n:=e.kind-5+6) (by omega) (by omega)];refine jK ak hT am T λag aw U ax aD bF=>?_;have aX:=T.trans U;have aY:=ad.aI U;have ao:js≠ag:=by have:=ad.a.1;omega
  have ct:∀(g:Z),(∀j cs,bQ x=some j→At u j (.row cs)→At g j (.row cs))→cP g 1 x rs.length (rs.map (I.int .i64)):=λg k=>P.aI k;have aZ:∀j cs,bQ x=some j→At u j (.row cs)→At aw j (.row cs):=λj cs o J=>U.2 _ _ (z j o).2.1 J;have a0:∀j,bQ x=some j→j≠ag:=λj o=>by have:=P.lt o;omega
  have fin:∀(kk b2 c2:Int)(g:Z),(kk=6∨(8≤kk∧kk≤10))→dh t.bj b2→dh t.bj c2→KR id H g→bB g id vars (dw vars) F t→Bx H id F g js 8 (dc s b al)→Bx H id F g ag 13 (⟨kk,-1,-1,-1,b2,c2,0,0,0,0,0,0,0⟩:dv).cells→S.vz (ai C) (.ptr id 0) (.af e.cells) (.ptr js 0) (.ptr ag 0) Q [] g:=by
   intro kk b2 c2 g ar ay bG K M E ah;unfold S.vz;rw[E.all];simp only[D];refine sG ak hT M (w:=w+254) au an λa G O aG Y g7 ha=>?_;have a1:BD G (w+254):=g7.bd (m:=w+254) (au.mono (by omega));have aH:=E.aI aG;simp only[dX,D];refine(ah.aI aG).st Y (K.trans aG) (by decide) One.int λcu bH aJ bJ bK=>?_;have a2:=bK _ _ _ ao aH;simp only[a2.ld (k:=1) rfl,aj,lI,Ig,r_,D,b4];rw[wrap_i64 (n:=10+e.kind) (by omega) (by omega)];refine ou ak hT aJ (w:=w+253) a1 λcv aK h9=>?_;have a3:=a2.aI aK;have a4:=GE.fr G;have a5:=a4.bd (m:=w+252) (a1.mono (by omega));refine⟨a3.ld rfl,trivial,trivial,trivial,trivial,?_⟩;refine sH ak hT h9 (l:=l) (by show G.V=l;rw[g7.V,g4.V];exact hl) (w:=w+251) a5 _ _ (by omega) e.place λcw aa aL bL a6 bM es=>?_;have a7:=a3.aI aL;have bN:BD aa (w+251):=a6.bd (m:=w+251) (a5.mono (by omega));refine⟨a7.ld rfl,trivial,?_⟩;refine((bJ.aI aK).aI aL).st bL ((bH.trans aK).trans aL) (by decide) One.int λcx bO bP bR bS=>?_;have bT:=bS _ _ _ ao a7;refine⟨bT.ld rfl,trivial,?_⟩;refine bR.st bP bO (by decide) One.int λcy bU bV bW cz=>?_;refine⟨trivial,?_⟩;refine bW.st bV bU (by decide) One.int λcA bX bY bZ cB=>?_;refine bZ.st bY bX (by decide) One.int λcC b0 b1 a8 cD=>?_;rw[a8.all];simp only[D];have cE:aa.bj=G.bj+1:=bM;have b3:aa.sn=G.sn+1:=es;have cF:=g7.r0;have cG:=g7.s0;have cH:=bN.A;have cI:((G.sn+1:Nat):Int)=((aa.sn:Nat):Int):=by rw[b3]
   refine jt ak hT b1 (by omega) ⟨kk,G.bj,-1,a,b2,c2,0,0,s.len,e.aV,0,((G.sn+1:Nat):Int),0⟩ λb5 a9 b6=>?_;rw[(a8.aI a9).ld (k:=1) rfl];simp only[D];have gf:GE aa (aa.add ⟨kk,G.bj,-1,a,b2,c2,0,0,s.len,e.aV,0,((G.sn+1:Nat):Int),0⟩) 1 []:=GE.add (i6 (by omega) (by omega) (ju (by omega)) ch (ha.mono (by omega)) (ay.mono (by omega)) (bG.mono (by omega)) (.inr (.inr ⟨by omega,by omega⟩)) (ar.elim (λ_=> .inr (.inr bA)) (λe=> .inr (.inl (by omega))))) (kK (.inl (by omega)));exact hQ _ _ b5 (b0.trans a9) b6 (((((g4.trans g7).trans a4).trans a6).trans gf).mono (by omega) (by simp only[abQ])) (ju (show G.bj<aa.bj by omega))
  have k2:∀(kk b2:Int)(g:Z),(e.kind=5∧kk=6∨(5<e.kind∧8≤kk∧kk≤10))→dh t.bj b2→KR id H g→bB g id vars (dw vars) F t→Bx H id F g js 8 (dc s b al)→cP g 1 x rs.length (rs.map (I.int .i64))→Bx H id F g ag 13 (⟨kk,-1,-1,-1,b2,-1,0,0,0,0,0,0,0⟩:dv).cells→S.vA (ai C) (.ptr id 0) (.af e.cells) (.ptr js 0) (.ptr ag 0) [x] Q [] g:=by
   intro kk b2 g ar ay K M E ab ah;have a_:kk=6∨(8≤kk∧kk≤10):=by rcases ar with h|h<;>omega
   unfold S.vA;simp only[aj,lI,D,cJ,aB,aE,aR];refine aF (λaJ=>?_) (λ_=>fin kk b2 (-1) g a_ ay ch K M E ah);have b7:e.kind=8:=by simpa using aJ
   have:=br b7;obtain⟨r1,dy⟩:∃r1,rs[1]?=some r1:=⟨_,YU (show 1<rs.length by omega)⟩
   obtain⟨p,e1,aM⟩:=ab.get (k:=1) (v:= .int .i64 r1) (by rw[YT,dy];rfl);change aO none _ _ (.int .i64 1)=some _ at e1;simp only[e1,aM g (Z.Ext.refl _),D,dX];refine ah.st M K (by decide) One.int λO ap Y aN az=>?_;exact fin kk b2 r1 O a_ ay (ae r1 (aaN dy)) ap Y (az _ _ _ ao E) aN
  simp only[aj,lI,D,dZ,aB,aR];apply aF<;>intro ba
  · have b8:e.kind≠5:=by simpa using ba
    have:=bp b8;simp only[dX,D];rw[wrap_i64 (n:=e.kind-6) (by omega) (by omega),wrap_i64 (n:=e.kind-6+8) (by omega) (by omega)];refine aD.st ax aX (by decide) One.int λg K M ah bc=>?_;have b9:∀j cs,bQ x=some j→At aw j (.row cs)→At g j (.row cs):=λj cs o J=>by obtain⟨a,b,d,f⟩:=z j o;exact(bc j cs.length cs (a0 j o) ⟨J,b,d,a,rfl⟩).a
    have ab:=(P.aI aZ).aI b9;obtain⟨r0,be⟩:∃r0,rs[0]?=some r0:=⟨_,YU (show 0<rs.length by omega)⟩
    obtain⟨p,e1,aM⟩:=ab.get (k:=0) (v:= .int .i64 r0) (by rw[YT,be];rfl);change aO none _ _ (.int .i64 0)=some _ at e1;simp only[e1,aM g (Z.Ext.refl _),D,dX];refine ah.st M K (by decide) One.int λO ap Y aN az=>?_;have b_:∀j cs,bQ x=some j→At g j (.row cs)→At O j (.row cs):=λj cs o J=>by obtain⟨a,b,d,f⟩:=z j o;exact(az j cs.length cs (a0 j o) ⟨J,b,d,a,rfl⟩).a
    exact k2 (e.kind-6+8) r0 O (.inr ⟨by omega,by omega,by omega⟩) (ae r0 (aaN be)) ap Y (az _ _ _ ao (bc _ _ _ ao aY)) (ab.aI b_) aN
  · have bf:e.kind=5:=by simpa using ba
    refine k2 6 (-1) aw (.inl ⟨bf,rfl⟩) ch aX ax aY (P.aI aZ) ?_;rw[bf]at aD;exact aD
 have main:∀(r:List X)(i:Nat)(t:LD)(u:Z)(x:I)(rs:List Int)(w1:Nat)(k1:List bq),e.bn.drop i=r→rs.length=i→i≤e.bn.length→KR id H u→bB u id vars (dw vars) F t→Bx H id F u js 8 (dc s b al)→cP u 1 x rs.length (rs.map (I.int .i64))→(∀j,bQ x=some j→H.n≤j∧j≠id∧bQ F≠some j∧j≠js)→(∀r∈rs,dh t.bj r)→dh t.bj b→GE c t w1 k1→w1+dI r=fx e.place+dI e.bn→k1++dN l r=gE l e.place++dN l e.bn →
   aA (S.vC (ai C) (.ptr id 0) (.af e.cells) (.ptr js 0) (av X.cells e.bn) (.int .i64 e.bn.length) Q) ([x,.int .i64 i],u):=by
  intro r;induction r with
  | nil=>intro i t u x rs w1 k1 aQ bg ca T am ad P z ae an g4 hw R;have hle:=ek aQ;refine aA.step ?_;simp only[S.vC,aE,cW,bD,D,aB,aR];rw[ee];rw[dI]at hw;rw[dN]at R;exact tail t u x rs (by omega) T am ad P z ae an (g4.mono (by omega) (by rw[←R,abQ]))
  | cons y r cb=>
   intro i t u x rs w1 k1 aQ bg ca T am ad P z ae an g4 hw R;obtain⟨cc,bh,cd⟩:=ed aQ;have ce:=aaN bh;rw[dI]at hw;rw[dN]at R;have au:BD t (w+dM y):=g4.bd (m:=w+dM y) (hb.mono (by omega));have iY:=kg y;refine aA.step ?_;simp only[S.vC,aE,cW,bD,D,aB];rw[dU,cK cc];simp only[D];rw[dz X.len (by decide) _ bh];simp only[D];refine am.jL T (cs:=y.cells) (N:=8) rfl y.len (X.scalar y) λcL aw U ax cf bF=>?_;rw[cf.all];simp only[D];refine bm y ce ax (by rw[g4.L];exact aT) (l:=l) (by rw[g4.V];exact hl) au λr1 cg g aS M g6 dy=>?_;have K:=(T.trans U).trans aS;have E:=(ad.aI U).aI aS;have ab:cP g 1 x rs.length (rs.map (I.int .i64)):=P.aI λj cs o J=>aS.2 _ _ (z j o).2.1 (U.2 _ _ (z j o).2.1 J);rw[show dk g false 1 1 [.int .i64 0] [(0,1,.int .i64 r1)]=some (.aq .full 1 [.int .i64 r1],g)from rfl];simp only[aP];refine ab.app (by decide) rfl rfl (by omega) (by omega) λci O cj hn kp ac=>?_;have Y:=M.UG kp (λj o=>ab.row o) (λe=>(z id e).2.1 rfl) (λj o=>(z j o).2.2.1);have ap:KR id H O:=⟨xl K.1 hn,λi cs hi J=>kp _ _ (λe=>by have:=(z i e).1;have:=J.1;omega) (K.2 i cs hi J)⟩
   have aH:Bx H id F O js 8 (dc s b al):=⟨kp _ _ (λe=>(z js e).2.2.2 rfl) E.a,E.ne,E.nx,E.lo,E.len⟩
   simp only[b4,D];rw[bI,cN];refine cb (i+1) cg O ci (rs++[r1]) (w1+dM y) (k1++gk l y) cd (by simp[bg]) (by omega) ap Y aH ?_ (λj o=>?_) (λq ck=>?_) (an.mono g6.r0) ((g4.trans g6).mono (by omega) rfl) (by omega) (by rw[←R,acI])
   ·rw[abI,acA];exact cj
   · rcases ac with ac|ac
     ·exact z j (by rw[←ac];exact o)
     · rw[ac]at o;cases o;obtain⟨xo,xs,a,_⟩:=M.x;exact⟨K.1,by have:=a.1;omega,λe=>by have:=M.l.lt e;omega,by have:=E.a.1;omega⟩
   · rcases aag.1 ck with h|h
     ·exact(ae q h).mono g6.r0
     ·rw[acR.1 h];exact dy
 exact main e.bn 0 c1 H2 _ [] (fx e.place) (gE l e.place) rfl rfl (Yz _) bE bC bs (cP.nil _ _) (λj o=>by cases o) (λr ac=>by cases ac) bv g1 rfl rfl
theorem Kk(n:gO vars)(L:List (List UInt8)):∀e:X,e.ok→vE vars L e→iF C id vars L e:=by
 refine X.ind λe u v he z=>?_;obtain⟨⟨Y,A⟩,o⟩:=X.fK he;have B:=aM.fK o;obtain⟨w1,w2,w3,E,G⟩:=(IZ vars L e).1 z;have b:∀k∈e.bn,iF C id vars L k:=λk hk=>u k hk (A k hk) ((xj vars L).1 G k hk);intro F c H Q w l h a hl hb hQ;have f:=Jm e;refine S.Py hT ?_;unfold S.f100;simp only[r9,aP,lH,lI,Ic,A6,D,cJ,aB];have Z:∀p:Nat,W p (.af e.cells)=some (.af (e.cells.drop p)):=λ_=>rfl;apply aF<;>intro hc
 · refine BL ak hT h (w:=w+15) (hb.mono (by omega)) _ λr c1 H1 k1 h1 g1 r1=>?_;exact hQ _ _ _ k1 h1 (g1.mono (by omega) (Kj w1 (by simp at hc;omega)).symm) r1
 have c1:¬e.kind=1:=by simpa using hc
 apply aF<;>intro hc
 · have c2:e.kind=2:=by simpa using hc
   refine xw ak hT h (hb.mono (adn _ _)) (by rw[a];exact w3 c2) λr I=>?_;exact hQ _ _ _ KR.refl h ((GE.refl c).mono (by omega) (Kj w1 (by omega)).symm) I
 have c2:¬e.kind=2:=by simpa using hc
 apply aF<;>intro hc
 · have c3:e.kind=3:=by simpa using hc
   match g:e.bn,UH w1 c3 with
   | [x,y],_=>
    rw[g]at b f;have J:aO none 8 (av X.cells [x,y]) (.int .i64 0)=_:=cK (i:=0) (by simp);have K:aO none 8 (av X.cells [x,y]) (.int .i64 1)=_:=cK (i:=1) (by simp);have mV:∀H,O H 8 true (dE X.cells 8 [x,y] 0)=_:=λH=>dz X.len (by decide) H (show [x,y][0]?=some x from rfl);have ld1:∀H,O H 8 true (dE X.cells 8 [x,y] 1)=_:=λH=>dz X.len (by decide) H (show [x,y][1]?=some y from rfl);have q:∀H,O H 1 false (.af (e.cells.drop 7))=some (av X.cells [x,y]):=λH=>by rw[w4,g]
    rw[dI,dI,dI]at f;have aa:=kg x;have ab:=kg y;simp only[q,D,J,mV];refine b x (by simp) h a hl (w:=w+(dM y+16)) (hb.mono (by omega)) λr1 d1 H1 k1 h1 g1 dy=>?_;have s:BD d1 (w+(dM y+16)):=g1.bd (m:=w+(dM y+16)) (hb.mono (by omega));simp only[Ie,q,D,K,ld1];refine b y (by simp) h1 (by rw[g1.L];exact a) (l:=l) (by rw[g1.V];exact hl) (w:=w+16) (s.mono (by omega)) λac d2 H2 k2 M g2 N=>?_;have P:BD d2 (w+16):=g2.bd (m:=w+16) (s.mono (by omega));refine⟨trivial,?_⟩;refine sD ak hT M (w:=w+15) P _ (dy.mono g2.r0) N λad d3 ae R T g3 U=>?_;exact hQ _ _ _ ((k1.trans k2).trans R) T (((g1.trans g2).trans g3).mono (by omega) (by rw[UJ w1 c3 g,abQ])) U
 have c3:¬e.kind=3:=by simpa using hc
 have ag:=(oi w1).1;have d:=E (by omega);rw[cY]at f;have t:∀p∈e.place.aC,∀k∈p.bb,iF C id vars L k:=λp hp k hk=>v p hp k hk ((B.2 p hp).2 k hk) (Ki vars d p hp k hk);apply aF<;>intro hc
 · have j:e.kind=4:=by simpa using hc
   rw[j]at d;rw[show O H 2 true (.af (e.cells.drop 5))=some (.agg e.place.cells)from r_ e H];simp only[D];refine UN ak hT n o d t h a hl (w:=w) (hb.mono (by omega)) λr d1 H1 k1 h1 g1 dy=>?_;exact hQ _ _ _ k1 h1 (g1.mono (by omega) (UK w1 j w2).symm) dy
 · have j:¬e.kind=4:=by simpa using hc
   simp only[A7,D];refine UO ak hT n he w1 (by omega) d t b h a hl (w:=w) (hb.mono (by omega)) λr d1 H1 k1 h1 g1 dy=>?_;exact hQ _ _ _ k1 h1 (g1.mono (by omega) (UL (by omega)).symm) dy
end
end Rb

namespace Rb
open Go
variable{l:Int}{e:X}{x:aw}
theorem UP(v:Int):∃u,cI .xor (.int .u64 v)=some (.int .u64 u):=⟨_,rfl⟩
theorem sN{l:List X}{i:Nat}(h:l[i]?=some e):aO none 8 (av X.cells l) (.int .i64 i)=some (dE X.cells 8 l i)∧∀H,O H 8 true (dE X.cells 8 l i)=some (.agg e.cells):=⟨cK (X1.1 h).1,λH=>dz X.len (by decide) H h⟩
section
variable{C:Ctx}(ak:bP C)(hT:Cl (ai C) S.bu){id:Nat}{vars:List U}{F:I}{c:LD}{H:Z}{Q:ad}{w:Nat}
include ak hT
theorem UQ(ae:gO vars){L:List (List UInt8)}{x:aM}(af:x.ok)(hp:vP vars L 3 x)(ag:∀p∈x.aC,∀e∈p.bb,iF C id vars L e)(ah:iF C id vars L e)(h:bB H id vars (dw vars) F c)(E:c.L.map abm=L)(hl:c.V=l)(hb:BD c (w+(fx x+dM e+256)))
  (hQ:EU id vars (dw vars) F H c (fx x+dM e+200) (gE l x++gk l e++[⟨3,0,l,x⟩]) Q):ai C 104 [.ptr id 0,.agg x.cells,.agg e.cells] H Q:=by
 obtain⟨aj,am,_⟩:=(mW vars L 3 x).1 hp;have iY:=kg e;refine S.PC hT ?_;unfold S.f104;simp only[qh,r9,aP,xb,D];refine sJ ak hT ae af aj ag h E hl (w:=w+(dM e+256)) (hb.mono (by omega)) λs b al c1 H1 k1 h1 g1 an G hs ao=>?_;obtain⟨ap,_,_,_⟩:=xp am;obtain⟨z0,I,_,_⟩:=xm ao hs ap;have J:BD c1 (w+(dM e+256)):=g1.bd (m:=w+(dM e+256)) (hb.mono (by omega));refine h1.jL k1 (cs:=dc s b al) (N:=8) rfl rfl rfl λj H2 k2 aq ar l2=>?_;have au:=k1.trans k2;simp only[A7,D];refine ah aq (by rw[g1.L];exact E) (l:=l) (by rw[g1.V];exact hl) (w:=w+256) (J.mono (by omega)) λv c3 aX K av g3 hv=>?_;have M:BD c3 (w+256):=g3.bd (m:=w+256) (J.mono (by omega));have b3:=ar.aI K;rw[b3.all];simp only[D];refine sG ak hT av (w:=w+254) M (an.mono g3.r0) λa i aY O aw g4 ha=>?_;have P:BD i (w+254):=g4.bd (m:=w+254) (M.mono (by omega));refine sH ak hT aw (l:=l) (by rw[g4.V,g3.V,g1.V];exact hl) (w:=w+253) P _ _ (by decide) x λR c5 T U g5 e1 aZ=>?_;have z:BD c5 (w+253):=g5.bd (m:=w+253) (P.mono (by omega));have q:=(b3.aI O).aI T;have ax:=((au.trans K).trans O).trans T;have ay:=((g1.trans g3).trans g4).trans g5;have W:=(hv.mono g4.r0).mono g5.r0;have X:=ha.mono g5.r0;have rz:1≤((i.sn+1:Nat):Int)∧((i.sn+1:Nat):Int)≤(c5.sn:Nat):=⟨by omega,by omega⟩
 simp only[dX,D,q.ld (k:=3) rfl,aB];have fin:∀(u:Int)(d:LD)(f:Z)(m:Nat),m≤80→KR id R f→bB f id vars (dw vars) F d→GE c5 d m []→dh d.bj u→S.vk (ai C) (.ptr id 0) (.ptr j 0) (.int .i64 a) (.int .i64 ((i.sn+1:Nat):Int)) Q [.int .i64 u] f:=by intro u d f m hm g A g6 hu;have a0:=g6.s0;unfold S.vk;rw[(q.aI g).all];simp only[D,aE];refine TN ak hT A (w:=w+50) (g6.bd (m:=w+98) (z.mono (by omega))) G I (X.mono g6.r0) hu ⟨rz.1,by omega⟩ λY az r B g7=>?_;exact hQ _ _ ((ax.trans g).trans r) B (((ay.trans g6).trans g7).mono (by omega) (by simp only[abQ]))
 apply aF<;>intro _
 · rw[q.all];simp only[D];refine JC ak hT U (w:=w+100) (z.mono (by omega)) G I X rz λo d f g A g6 aA=>?_;have aa:BD d (w+100):=g6.bd (m:=w+100) (z.mono (by omega));have t:=q.aI g;simp only[t.ld (k:=5) rfl,t.ld (k:=4) rfl,D];refine BM ak hT hs.wid λn=>?_;refine⟨t.ld rfl,?_⟩;refine UM hs.bit.1 λn2=>?_;obtain⟨n3,aD⟩:=UP n2;simp only[aD,D];refine mm ak hT A (w:=w+98) aa _ _ aA λa1 Y az r B g7 aG=>?_;have ab:BD Y (w+98):=g7.bd (m:=w+98) (aa.mono (by omega));have y:=t.aI r;simp only[y.ld (k:=5) rfl,y.ld (k:=4) rfl,D,j3];refine BM ak hT hs.wid λn4=>?_;refine⟨y.ld rfl,?_⟩;refine mm ak hT B (w:=w+96) ab _ _ ((W.mono g6.r0).mono g7.r0) λa2 aH a3 ac aJ g8 aK=>?_;have ad:BD aH (w+96):=g8.bd (m:=w+96) (ab.mono (by omega));refine⟨(y.aI ac).ld rfl,?_⟩;refine mm ak hT aJ (w:=w+94) ad _ _ aK λa4 aL a5 aN h9 g9 aO=>?_;have aQ:BD aL (w+94):=g9.bd (m:=w+94) (ad.mono (by omega));refine sD ak hT h9 (w:=w+93) aQ _ ((aG.mono g8.r0).mono g9.r0) aO λra aR aS aT aU aV aW=>?_;exact fin ra aR aS 71 (by decide) ((((g.trans r).trans ac).trans aN).trans aT) aU (((((g6.trans g7).trans g8).trans g9).trans aV).mono (by decide) rfl) aW
 ·exact fin v c5 R 0 (by decide) KR.refl U (GE.refl _) W
theorem UR(ax:gO vars){L:List (List UInt8)}(z:x.ok)(bv:x.kind=4∧x.bc.length=1∨x.kind=6∧x.bc.length=2)(hp:vP vars L x.kind x.place)(ay:∀p∈x.place.aC,∀e∈p.bb,iF C id vars L e)(ab:∀e∈x.bc,iF C id vars L e)(h:bB H id vars (dw vars) F c)(E:c.L.map abm=L)(hl:c.V=l)(hb:BD c (w+(fx x.place+dI x.bc+256)))
  (hQ:EU id vars (dw vars) F H c (fx x.place+dI x.bc+200) (gE l x.place++dN l x.bc++[⟨x.kind,x.aV,l,x.place⟩]) Q):ai C 105 [.ptr id 0,.agg x.cells] H Q:=by
 obtain⟨az,aA,_⟩:=(mW vars L _ x.place).1 hp;obtain⟨aD,_,_,_⟩:=aw.fK z;refine S.PD hT ?_;unfold S.f105;simp only[ob,aP,hq,oc,D];refine sJ ak hT ax aD az ay h E hl (w:=w+(dI x.bc+256)) (hb.mono (by omega)) λs b al c1 H1 k1 h1 g1 aE bw hs aG=>?_;obtain⟨aH,_,aJ,aK⟩:=xp aA;have aL:=aJ (by omega);obtain⟨z0,bx,z2,z3⟩:=xm aG hs aH;have aM:x.kind=4→P8 s.len:=λe=>by have:=z2 aL;have:=aK (by omega) (by omega);unfold P8;omega
 have ac:BD c1 (w+(dI x.bc+256)):=g1.bd (m:=w+(dI x.bc+256)) (hb.mono (by omega));refine h1.jL k1 (cs:=dc s b al) (N:=8) rfl rfl rfl λjs H2 k2 aN bs l2=>?_;have ad:=k1.trans k2;refine jK ak hT aN ad λG bz ae aQ aS l3=>?_;have aT:=ad.trans ae;have B:js≠G:=by have:=bs.a.1;omega
 obtain⟨j,d⟩:∃j,x.bc[0]?=some j:=⟨_,YU (show 0<x.bc.length by omega)⟩
 obtain⟨a0,a1⟩:=sN d;change aO none _ _ (.int .i64 0)=some _ at a0;simp only[hq,mU,a0,a1,D];have ag:∀{l:List X}{y:X}{r:List X},l=y::r→dI l=dM y+dI r:=λe=>by subst e;rw[dI]
 obtain ⟨r0,o⟩:∃r0,x.bc=j::r0:=by
  cases z:x.bc with
  |nil=>rw[z]at d;cases d
  |cons a r=>rw[z]at d;simp at d;exact⟨r,by rw[d]⟩
 have bA:=ag o;have bC:=kg j;refine ab j (aaN d) aQ (by rw[g1.L];exact E) (l:=l) (by rw[g1.V];exact hl) (w:=w+(dI r0+256)) (ac.mono (by omega)) λv I bD J aU g4 hv=>?_;have ah:BD I (w+(dI r0+256)):=g4.bd (m:=w+(dI r0+256)) (ac.mono (by omega));simp only[dX,D];refine(aS.aI J).st aU (aT.trans J) (by decide) One.int λaW aj am an aX=>?_;have ao:=aX _ _ _ B ((bs.aI ae).aI J);have aY:=g1.trans g4;have fin:∀(kk v2:Int)(q:LD)(f:Z)(m:Nat)(n:List bq),(kk=7∧x.kind=4∨kk=12)→KR id H f→bB f id vars (dw vars) F q→Bx H id F f js 8 (dc s b al)→Bx H id F f G 13 (⟨kk,-1,-1,-1,v,v2,0,0,0,0,0,0,0⟩:dv).cells→GE I q m n→m≤dI r0→n=dN l r0→dh q.bj v2→S.vm (ai C) (.ptr id 0) (.af x.cells) (.ptr js 0) (.ptr G 0) Q [] f:=by intro kk v2 q f m n aZ K M ap a4 g6 hm hn O;have aq:BD q (w+256):=g6.bd (m:=w+256) (ah.mono (by omega));unfold S.vm;rw[ap.all];simp only[D];refine sG ak hT M (w:=w+254) aq ((aE.mono g4.r0).mono g6.r0) λa t a5 g P g7 ha=>?_;have ar:BD t (w+254):=g7.bd (m:=w+254) (aq.mono (by omega));simp only[dX,D];refine(a4.aI g).st P (K.trans g) (by decide) One.int λau R T a6 U=>?_;have av:=U _ _ _ B (ap.aI g);simp only[av.ld (k:=1) rfl,hq,lJ,w5,oc,D];refine sH ak hT T (l:=l) (by rw[g7.V,g6.V,g4.V,g1.V];exact hl) (w:=w+253) ar _ _ (by omega) x.place λbE W Y a7 aa bF es=>?_;have a8:=av.aI Y;have a9:BD W (w+253):=aa.bd (m:=w+253) (ar.mono (by omega));refine⟨a8.ld rfl,trivial,?_⟩;refine(a6.aI Y).st a7 (R.trans Y) (by decide) One.int λbG a_ ba be bH=>?_;refine⟨trivial,?_⟩;refine be.st ba a_ (by decide) One.int λbI bf bg bh bJ=>?_;refine bh.st bg bf (by decide) One.int λbK bi bk bl bL=>?_;rw[bl.all];simp only[D];have bM:=a9.A;have ra:=aa.r0;have bN:=g7.r0;have bO:=g6.r0;refine jt ak hT bk (by omega) ⟨kk,-1,-1,a,v,v2,0,0,s.len,x.aV,0,((t.sn+1:Nat):Int),0⟩ λbm bn bo=>?_;have gf:GE W (W.add ⟨kk,-1,-1,a,v,v2,0,0,s.len,x.aV,0,((t.sn+1:Nat):Int),0⟩) 1 []:=GE.add (i6 (by omega) (by omega) ch ch (ha.mono ra) (hv.mono (by omega)) (O.mono (by omega)) (.inr (.inr ⟨by omega,by omega⟩)) (aZ.elim (λe=> .inr (.inr (aM e.2))) (λe=> .inr (.inl (by omega))))) (kK (.inl (by omega)));exact hQ _ bm (bi.trans bn) bo (((((aY.trans g6).trans g7).trans aa).trans gf).mono (by omega) (by rw[hn,o,dN];simp only[abQ,acI]))
 simp only[hq,lJ,D,cJ,aB,aR];apply aF<;>intro e
 · have bp:x.kind=6:=by simpa using e
   refine an.st am aj (by decide) One.int λf K M br bt=>?_;obtain⟨u,i⟩:∃u,x.bc[1]?=some u:=⟨_,YU (show 1<x.bc.length by omega)⟩
   obtain⟨a2,a3⟩:=sN i;change aO none _ _ (.int .i64 1)=some _ at a2;simp only[mU,a2,a3,D];obtain ⟨r1,dy⟩:∃r1,r0=u::r1:=by
    rw[o]at i;cases r0 with
    |nil=>simp at i
    |cons a r=>simp at i;exact⟨r,by rw[i]⟩
   have bP:=ag dy;have bQ:=kg u;refine ab u (aaN i) M (by rw[g4.L,g1.L];exact E) (l:=l) (by rw[g4.V,g1.V];exact hl) (w:=w+256) (ah.mono (by omega)) λv2 t a5 g P g7 O=>?_;refine(br.aI g).st P (K.trans g) (by decide) One.int λau R T bu U=>?_;exact fin 12 v2 t au _ _ (.inr rfl) R T (U _ _ _ B ((bt _ _ _ B ao).aI g)) bu g7 (by omega) (by rw[dy,show r1=[]from acN (by have:=congrArg acL o;rw[dy]at this;simp only[abJ]at this;omega),dN,dN,abQ]) O
 · have bp:¬x.kind=6:=by simpa using e
   exact fin 7 (-1) I aW 0 [] (.inl ⟨rfl,by omega⟩) aj am ao an (GE.refl _) (Yz _) (by rw[show r0=[]from acN (by have:=congrArg acL o;simp only[abJ]at this;omega),dN]) ch
theorem US(ah:gO vars){L:List (List UInt8)}(aj:x.ok)(a_:x.kind=5)(hn:x.E∈L)(am:x.cg∈L)(hp:vP vars L 5 x.place)(an:∀p∈x.place.aC,∀e∈p.bb,iF C id vars L e)(h:bB H id vars (dw vars) F c)(v:c.L.map abm=L)(hl:c.V=l)(hb:BD c (w+(fx x.place+256)))
  (hQ:EU id vars (dw vars) F H c (fx x.place+200) (gE l x.place++[⟨x.kind,x.aV,l,x.place⟩]) Q):ai C 106 [.ptr id 0,.agg x.cells] H Q:=by
 obtain⟨ao,ba,_⟩:=(mW vars L _ x.place).1 hp;obtain⟨ap,_,_,_⟩:=aw.fK aj;refine S.PE hT ?_;unfold S.f106;simp only[ob,aP,hq,oc,D];refine sJ ak hT ah ap ao an h v hl (w:=w+256) (hb.mono (by omega)) λs b al c1 H1 k1 h1 g1 aq bc hs be=>?_;have y:BD c1 (w+256):=g1.bd (m:=w+256) (hb.mono (by omega));refine h1.jL k1 (cs:=dc s b al) (N:=8) rfl rfl rfl λjs H2 k2 ar bs l2=>?_;have z:=k1.trans k2;refine jK ak hT ar z λau bf B av ax l3=>?_;have ay:=z.trans B;have i:js≠au:=by have:=bs.a.1;omega
 have I:=bs.aI B;rw[I.all];simp only[D];refine sG ak hT av (w:=w+254) y aq λa d bg j az g4 ha=>?_;have J:BD d (w+254):=g4.bd (m:=w+254) (y.mono (by omega));simp only[dX,D];refine(ax.aI j).st az (ay.trans j) (by decide) One.int λbh aA aB aD aE=>?_;have K:=aE _ _ _ i (I.aI j);simp only[K.ld (k:=1) rfl,hq,lJ,w5,oc,D];refine ou ak hT aB (w:=w+253) J λbi n aF=>?_;have g6:=GE.fr d;have M:=g6.bd (m:=w+253) (J.mono (by omega));have O:=K.aI n;refine⟨O.ld rfl,trivial,trivial,trivial,trivial,?_⟩;refine ou ak hT aF (w:=w+252) M λbk o aG=>?_;have g7:=GE.fr {d with bj:=d.bj+1};have P:=g7.bd (m:=w+252) (M.mono (by omega));have R:=O.aI o;refine⟨R.ld rfl,trivial,trivial,trivial,trivial,?_⟩;refine sH ak hT aG (l:=l) (by show d.V=l;rw[g4.V,g1.V];exact hl) (w:=w+251) P _ _ (by omega) x.place λbl f r aH T aJ es=>?_;have U:=R.aI r;have W:BD f (w+251):=T.bd (m:=w+251) (P.mono (by omega));refine⟨U.ld rfl,trivial,?_⟩;refine(((aD.aI n).aI o).aI r).st aH (((aA.trans n).trans o).trans r) (by decide) One.int λbm aK aL aM aN=>?_;have X:=aN _ _ _ i U;refine⟨X.ld rfl,trivial,?_⟩;refine aM.st aL aK (by decide) One.int λbn aO aQ aR aS=>?_;have aT:=aS _ _ _ i X;refine⟨aT.ld rfl,trivial,?_⟩;refine aR.st aQ aO (by decide) One.int λbo aU aW aX bp=>?_;refine⟨trivial,?_⟩;refine aX.st aW aU (by decide) One.int λbq aY aZ a0 br=>?_;refine a0.st aZ aY (by decide) One.int λbt a1 a2 Y of=>?_;rw[Y.all];simp only[D];have bu:=W.A;have a3:f.bj=d.bj+1+1:=aJ;have bv:f.sn=d.sn+1:=es;refine jt ak hT a2 (by omega) ⟨11,d.bj,((d.bj+1:Nat):Int),a,-1,-1,0,0,s.len,x.aV,0,((d.sn+1:Nat):Int),0⟩ λbw Z aa=>?_;have ab:GE f (f.add ⟨11,d.bj,((d.bj+1:Nat):Int),a,-1,-1,0,0,s.len,x.aV,0,((d.sn+1:Nat):Int),0⟩) 1 []:=GE.add (i6 (by decide) (by decide) (ju (by omega)) (ju (by omega)) (ha.mono (by omega)) ch ch (.inr (.inr ⟨by omega,by omega⟩)) (.inr (.inl (by decide)))) (kK (.inl (by decide)));have t:=ab.bd (m:=w+250) (W.mono (by rw[abH 1];exact sl _));have u:=Y.aI Z;have G:=(((((g1.trans g4).trans g6).trans g7).trans T).trans ab)
 have ac:(LD.add f ⟨11,d.bj,((d.bj+1:Nat):Int),a,-1,-1,0,0,s.len,x.aV,0,((d.sn+1:Nat):Int),0⟩).L.map abm=L:=by rw[G.L];exact v
 have bx:(LD.add f ⟨11,d.bj,((d.bj+1:Nat):Int),a,-1,-1,0,0,s.len,x.aV,0,((d.sn+1:Nat):Int),0⟩).bj=d.bj+2:=a3;generalize LD.add f ⟨11,d.bj,((d.bj+1:Nat):Int),a,-1,-1,0,0,s.len,x.aV,0,((d.sn+1:Nat):Int),0⟩=bz at *;simp only[mT,u.ld (k:=1) rfl,D];refine xw ak hT aa t (by rw[ac];exact hn) λq a4=>?_;refine⟨u.ld rfl,?_⟩;refine xt ak hT aa (w:=w+249) t a4 (ju (by omega)) λbA bC ad ae g=>?_;have af:=g.bd (m:=w+249) (t.mono (by rw[abH 1];exact sl _));have ag:=u.aI ad;simp only[A9,ag.ld (k:=2) rfl,D];refine xw ak hT ae af (by rw[g.L,ac];exact am) λbD a5=>?_;refine⟨ag.ld rfl,?_⟩;have bE:=g.r0;refine xt ak hT ae (w:=w+248) af a5 (ju (by omega)) λci a6 a7 a8 a9=>?_;exact hQ _ a6 (((a1.trans Z).trans ad).trans a7) a8 (((G.trans g).trans a9).mono (by omega) (by simp only[abQ]))
end
end Rb

namespace Rb
open Go
def KB(id:Nat)(H H':Z):Prop:=H.n≤H'.n∧∀i cs,i<id→At H i (.row cs)→At H' i (.row cs)
theorem KB.refl(id:Nat)(H:Z):KB id H H:=⟨sl _,λ_ _ _ h=>h⟩
theorem KB.trans{id:Nat}{a b c:Z}(h:KB id a b)(k:KB id b c):KB id a c:=⟨xl h.1 k.1,λi cs hi d=>k.2 i cs hi (h.2 i cs hi d)⟩
theorem KR.kb{id:Nat}{a b:Z}(h:KR id a b):KB id a b:=⟨h.1,λi cs hi c=>h.2 i cs (YM hi) c⟩
def UT(id:Nat)(vars:List U)(H:Z)(c:LD)(w:Nat)(k:List bq)(L:List (List UInt8))(Q:ad):Prop:=∀(c':LD)(F:I)(H':Z),KB id H H'→bB H' id vars (dw vars) F c'→GS c c' w k→c'.L.map abm=L→(∃t,c'.L=c.L++t∧t.length≤1)→Q (.ar []) H'
def B6(C:Ctx)(id:Nat)(vars:List U)(x:aw):Prop:=∀{L:List (List UInt8)}{F:I}{c:LD}{H:Z}{Q:ad}{w:Nat},vS vars L x→bB H id vars (dw vars) F c→c.L.map abm=L→c.V=x.V→BD c (w+ke x)→UT id vars H c (ke x) (kJ x) (gN L x) Q→ai C 66 [.ptr id 0,.agg x.cells] H Q
def qu(C:Ctx)(id:Nat)(vars:List U)(l:List aw):Prop:=∀{L:List (List UInt8)}{F:I}{c:LD}{H:Z}{Q:ad}{w:Nat},vB vars L l→bB H id vars (dw vars) F c→c.L.map abm=L→BD c (w+cm l)→(∀(c':LD)(F:I)(H':Z),KB id H H'→bB H' id vars (dw vars) F c'→GS c c' (cm l) (fb l)→c'.L=c.L→Q (.ar []) H')→ai C 37 [.ptr id 0,av aw.cells l] H Q
theorem GS.refl(c:LD):GS c c 0 []:=(GE.refl c).gs
theorem GS.V(c:LD)(v:Int):GS c {c with V:=v} 0 []:=⟨⟨[],(abQ _).symm,sl _,(λ_ a=>by cases a),fw.nil _⟩,sl _,sl _,rfl,(abQ _).symm,sl _,sl _⟩
theorem GS.g(c:LD)(l:List (List UInt8×Nat)):GS c {c with L:=l} 0 []:=⟨⟨[],(abQ _).symm,sl _,(λ_ a=>by cases a),fw.nil _⟩,sl _,sl _,rfl,(abQ _).symm,sl _,sl _⟩
theorem B7:∀L:List (List UInt8×Nat),(L.flatMap jq).length=L.length*2
 |[]=>rfl
 |x::r=>by rw[abk,abI,B7 r,abJ];show 2+_=_;omega
section
variable{C:Ctx}(ak:bP C)(hT:Cl (ai C) S.bu){id:Nat}{vars:List U}{F:I}{c:LD}{H:Z}{Q:ad}{w:Nat}
include ak hT
theorem B8{l:List aw}(hl:l.length≤9223372036854775807)(hS:∀x∈l,B6 C id vars x):qu C id vars l:=by
 intro L F c H Q w hv h B hb hQ;refine S.O0 hT ?_;unfold S.f37;simp only[aX,dX,D,h.lcs,h.l.len,cO];have main:∀(r:List aw)(i:Nat)(o:List (List UInt8)) (c1:LD) (s:I) (H1:Z) (w1:Nat) (k1:List bq),l.drop i=r→vB vars o r→KB id H H1→bB H1 id vars (dw vars) s c1→c1.L.map abm=o→(∃t,c1.L=c.L++t∧t.length≤w1)→GS c c1 w1 k1→w1+cm r=cm l→k1++fb r=fb l →
   aA (S.uQ (ai C) (.ptr id 0) (av aw.cells l) (.int .i64 c.L.length) (.int .i64 l.length) Q) ([.int .i64 i],H1):=by
  intro r;induction r with
  | nil=>
   intro i o c1 s H1 w1 k1 u hv kb h1 y ht g1 hw hk;have hle:=ek u;obtain⟨t,ht,E⟩:=ht;refine aA.step ?_;simp only[S.uQ,aE,bD,D,aB,aR];rw[ee];unfold S.EL;simp only[aX,dX,D,h1.lcs];obtain⟨G,e,v,q⟩:=h1.l.cut (k:=c.L.length) (by rw[ht,abI];omega);simp only[e,D];obtain⟨xo,xs,a,b,d,f⟩:=h1.x;obtain⟨n1,n2,n3⟩:=v.known;rw[a.st1 (by show 7<8;decide) ⟨n1,n2,n3⟩];simp only[D];rw[cm]at hw;rw[fb]at hk;refine hQ {c1 with L:=c.L} G _ (kb.trans (KR.set _).kb) ⟨⟨xo,xs,a.set _,b.frame λ_ _ _ h=>h.bZ (h.ne a (by intro e;cases e)) _,d.frame λ_ _ _ h=>h.bZ (h.ne a (by intro e;cases e)) _,f⟩,?_,λj J=>h1.ld j (by rw[←q];exact J),λp hp=>h1.lo p (by rw[ht];exact acU _ hp)⟩ ((g1.trans (GS.g c1 c.L)).mono (by omega) hk) rfl;have:(c1.L.flatMap jq).take (c.L.length*2)=c.L.flatMap jq:=by rw[ht,acH,abL (by rw[B7];exact sl _),abM (by rw[B7];exact sl _)]
   rw[this]at v;exact v.set (by rw[q];exact h1.sC) _
  | cons x r K=>
   intro i o c1 s H1 w1 k1 u hv kb h1 y ht g1 hw hk;obtain⟨M,z,q⟩:=ed u;have O:=aaN z;obtain⟨v1,v2⟩:vS vars o x∧vB vars (gN o x) r:=by rw[vB]at hv;exact hv
   obtain⟨t,ht,E⟩:=ht;rw[cm]at hw;rw[fb]at hk;refine aA.step ?_;simp only[S.uQ,aE,bD,D,aB];rw[dU,cK M];simp only[D];rw[dz aw.len (by decide) _ z];simp only[D];refine h1.jL KR.refl (cs:=x.cells) (N:=10) rfl x.len (aw.scalar x) λj H2 k2 P b2 l2=>?_;have R:x.cells[1]?=some (.int .i64 x.V):=by rw[aw.bF];rfl
   obtain⟨ag,T,A,U⟩:=P.own (k:=6) (c':={c1 with V:=x.V}) (n:=x.V) (.inr (.inr ⟨rfl,rfl,rfl,rfl⟩)) rfl rfl rfl rfl;simp only[dX,D,b2.ld R,aX,T,(b2.aI A).all];have g3:=g1.trans (GS.V c1 x.V);have W:BD ({c1 with V:=x.V}:LD) (w+ke x):=g3.bd (m:=w+ke x) (hb.mono (by omega)) (by show c1.L.length≤_;rw[ht,abI];omega);refine hS x O v1 U y rfl W λX Y aa ab ac g4 ad ae=>?_;obtain⟨t2,af,ah⟩:=ae;have:16≤ke x:=by rw[Jq];omega
   simp only[b4,D];rw[bI,cN];refine K (i+1) _ X Y aa (w1+ke x) (k1++kJ x) q v2 ((kb.trans (k2.trans A).kb).trans ab) ac ad ⟨t++t2,by rw[af];show c1.L++t2=_;rw[ht,acI],by rw[abI];omega⟩ ((g3.trans g4).mono (by omega) (by rw[abQ])) (by omega) (by rw[←hk,acI])
 exact main l 0 L c F H 0 [] rfl hv (KB.refl _ _) h B ⟨[],by simp,by simp⟩ (GS.refl c) (YO _) rfl
end
end Rb

namespace Rb
open Go
variable{l0 l3:Nat}{n1 n2:List dv}{o1 o2 m1 m2:dv}{x:aw}{e0:X}
theorem Kl(t:Int)(o:dv)(l:List dv):iE t (o::l)=(if o.kind=14∧o.en=t then 1 else 0)+iE t l:=by
 unfold iE;rw[List.filter_cons];by_cases h:o.kind=14∧o.en=t
 ·rw[aa h,aa (by simp[h.1,h.2]),abJ];omega
 ·rw[ae h,ae (by simpa using h),YO]
theorem Km{t:Int}{l:List dv}(h:∀o∈l,mj o):iE t l=0:=by unfold iE;rw[Zo,List.filter_eq_nil_iff];intro o a b;simp only[X7,bG]at b;exact h o a ⟨by omega,by omega⟩
structure GR(c c':LD)(w:Nat)(k:List bq)(new:List dv):Prop where
 A:c'.A=c.A++new
 len:new.length≤w
 op:∀o∈new,iD c'.bj c'.sn o
 r0:c.bj≤c'.bj
 r1:c'.bj≤c.bj+w
 s1:c'.sn=c.sn+k.length
 sc:c'.sc=c.sc++k.flatMap bq.cells
 sw:k.length≤w
 l1:c'.labels≤c.labels+w
section
variable{c c1 c2:LD}{w w':Nat}{k k':List bq}{n n':List dv}
theorem GR.trans(h:GR c c1 w k n)(g:GR c1 c2 w' k' n'):GR c c2 (w+w') (k++k') (n++n'):=by
 obtain⟨a1,a2,a3,a4,a5,a6,a7,a8,a9⟩:=h;obtain⟨b1,b2,b3,b,e,f,d,i,j⟩:=g;refine⟨by rw[b1,a1,acI],by rw[abI];omega,λo a=>?_,by omega,by omega,by rw[abI];omega,by rw[d,a7,acH,acI],by rw[abI];omega,by omega⟩;rcases aag.1 a with a|a
 ·exact(a3 o a).mono b (by omega)
 ·exact b3 o a
theorem GR.mono(h:GR c c1 w k n)(b:w≤w')(a:k=k'):GR c c1 w' k' n:=by obtain⟨a1,a2,a3,a4,a5,a6,a7,a8,a9⟩:=h;subst a;exact⟨a1,by omega,a3,a4,by omega,a6,a7,by omega,by omega⟩
theorem GE.gr(h:GE c c1 w k):∃n,GR c c1 w k n∧(∀o∈n,mj o)∧c1.labels=c.labels:=by obtain⟨n,a,b,d⟩:=h.new;exact⟨n,⟨a,b,λo e=>(d o e).1,h.r0,h.r1,h.s1,h.sc,h.sw,by rw[h.kI];omega⟩,λo e=>(d o e).2,h.kI⟩
theorem GS.gr(h:GS c c1 w k):∃n,GR c c1 w k n∧fw c.labels c1.labels n:=by obtain⟨n,a,b,d,e⟩:=h.new;exact⟨n,⟨a,b,d,h.r0,h.r1,h.s1,h.sc,h.sw,h.l1⟩,e⟩
theorem GR.gs(h:GR c c1 w k n)(e:fw c.labels c1.labels n):GS c c1 w k:=⟨⟨n,h.A,h.len,h.op,e⟩,h.r0,h.r1,h.s1,h.sc,h.sw,h.l1⟩
theorem GR.add{o:dv}(h:iD c.bj c.sn o):GR c (c.add o) 1 [] [{o with V:=c.V}]:=⟨rfl,sl _,λp hp=>by rw[acR]at hp;subst hp;exact h.V _,sl _,YH _,rfl,(abQ _).symm,Yz _,YH _⟩
theorem GR.label(c:LD):GR c {c with labels:=c.labels+1} 1 [] []:=⟨(abQ _).symm,Yz _,(λ_ a=>by cases a),sl _,YH _,rfl,(abQ _).symm,Yz _,sl _⟩
theorem GR.V(c:LD)(v:Int):GR c {c with V:=v} 0 [] []:=⟨(abQ _).symm,Yz _,(λ_ a=>by cases a),sl _,sl _,rfl,(abQ _).symm,sl _,sl _⟩
theorem GR.bd{m:Nat}(g:GR c c1 w k n)(h:BD c (w+m))(a:c1.L=c.L):BD c1 m:=by obtain⟨a1,a2,a3,a4,a5,a6,a7,a8,a9⟩:=g;obtain⟨b1,b2,b3,b,d⟩:=h;exact⟨by rw[a1,abI];omega,by omega,by omega,by omega,by rw[a];omega⟩
end
def Jp(o:dv)(t:Nat):Prop:=(o.kind=15∨o.kind=16)∧o.en=(t:Int)
def Mk(o:dv)(t:Nat):Prop:=o.kind=14∧o.en=(t:Int)
theorem UU{l0 l3 l4:Nat}{n1 n2 f:List dv}(g:∀o∈n1,mj o)(h:Jp o1 (l0+1))(d:fw (l0+2) l3 n2)(i:Jp o2 (l0+2))(k1:Mk m1 (l0+1))(e:fw l3 l4 f)(k2:Mk m2 (l0+2)):fw l0 l4 (n1++([o1]++(n2++([o2]++([m1]++(f++[m2])))))):=by
 have k:=d.le;have l:=e.le;obtain⟨m,n⟩:=h;obtain⟨p,q⟩:=i;obtain⟨r1,r⟩:=k1;obtain⟨s1,s2⟩:=k2;refine⟨by omega,λo c a b=>?_,λt t0 t1=>?_⟩
 · simp only[aag,acR]at c;rcases c with c|rfl|c|rfl|rfl|c|rfl
   ·exact absurd ⟨a,b⟩ (g o c)
   ·omega
   ·have:=d.en o c a b;omega
   ·omega
   ·omega
   ·have:=e.en o c a b;omega
   ·omega
 · have j:iE t n1=0:=Km g;simp only[BJ,Kl,j,show iE t []=0 from rfl];rw[ae (show ¬(o1.kind=14∧o1.en=t) by omega),ae (show ¬(o2.kind=14∧o2.en=t) by omega)];by_cases c1:t≤((l0+2:Nat):Int)
   · rw[oj d (.inl c1),oj e (.inl (by omega))];by_cases c2:t=((l0+1:Nat):Int)
     ·rw[aa (show m1.kind=14∧m1.en=t by omega),ae (show ¬(m2.kind=14∧m2.en=t) by omega)]
     ·rw[ae (show ¬(m1.kind=14∧m1.en=t) by omega),aa (show m2.kind=14∧m2.en=t by omega)]
   · rw[ae (show ¬(m1.kind=14∧m1.en=t) by omega),ae (show ¬(m2.kind=14∧m2.en=t) by omega)];by_cases c2:t≤(l3:Int)
     ·rw[d.one t (by omega) c2,oj e (.inl c2)]
     ·rw[oj d (.inr (by omega)),e.one t (by omega) t1]
theorem UW(k1:Mk m1 (l0+1))(e:∀o∈n1,mj o)(f:Jp o1 (l0+2))(d:fw (l0+2) l3 n2)(g:Jp o2 (l0+1))(k2:Mk m2 (l0+2)):fw l0 l3 ([m1]++(n1++([o1]++(n2++([o2]++[m2]))))):=by
 have i:=d.le;obtain⟨j,k⟩:=f;obtain⟨l,m⟩:=g;obtain⟨r1,n⟩:=k1;obtain⟨s1,s2⟩:=k2;refine⟨by omega,λo c a b=>?_,λt t0 t1=>?_⟩
 · simp only[aag,acR]at c;rcases c with rfl|c|rfl|c|rfl|rfl
   ·omega
   ·exact absurd ⟨a,b⟩ (e o c)
   ·omega
   ·have:=d.en o c a b;omega
   ·omega
   ·omega
 · have h:iE t n1=0:=Km e;simp only[BJ,Kl,h,show iE t []=0 from rfl];rw[ae (show ¬(o1.kind=14∧o1.en=t) by omega),ae (show ¬(o2.kind=14∧o2.en=t) by omega)];by_cases c1:t≤((l0+2:Nat):Int)
   · rw[oj d (.inl c1)];by_cases c2:t=((l0+1:Nat):Int)
     ·rw[aa (show m1.kind=14∧m1.en=t by omega),ae (show ¬(m2.kind=14∧m2.en=t) by omega)]
     ·rw[ae (show ¬(m1.kind=14∧m1.en=t) by omega),aa (show m2.kind=14∧m2.en=t by omega)]
   · rw[ae (show ¬(m1.kind=14∧m1.en=t) by omega),ae (show ¬(m2.kind=14∧m2.en=t) by omega),d.one t (by omega) t1]
section
variable{C:Ctx}(ak:bP C)(hT:Cl (ai C) S.bu){id:Nat}{vars:List U}{F:I}{c:LD}{H:Z}{Q:ad}{w:Nat}
include ak hT
theorem bB.B9{P:Z→Prop}(h:bB H id vars (dw vars) F c)(v:Int)(a:∀H',KR id H H'→bB H' id vars (dw vars) F {c with V:=v}→P H'):Do (Y H 1 (.ptr id 6) (.int .i64 v)) P:=by obtain⟨f,b,d,e⟩:=h.own (k:=6) (c':={c with V:=v}) (n:=v) (.inr (.inr ⟨rfl,rfl,rfl,rfl⟩)) rfl rfl rfl rfl;rw[b,D];exact a _ d e
theorem UX{L:List (List UInt8)}(p:x.bc=[e0])(q:iF C id vars L e0)(s:qu C id vars x.be)(u:qu C id vars x.bw)(v:vB vars L x.be)(y:vB vars L x.bw)(h:bB H id vars (dw vars) F c)(d:c.L.map abm=L)(z:c.V=x.V)(hb:BD c (w+(16+dM e0+cm x.be+cm x.bw)))
  (hQ:∀(c':LD)(F:I)(H':Z),KB id H H'→bB H' id vars (dw vars) F c'→GS c c' (16+dM e0+cm x.be+cm x.bw) (gk x.V e0++(fb x.be++fb x.bw))→c'.L=c.L→Q (.ar []) H'):ai C 110 [.ptr id 0,.agg x.cells] H Q:=by
 have iY:=kg e0;refine S.PI hT ?_;unfold S.f110;simp only[ob,aP];refine xr ak hT h (w:=w+(15+dM e0+cm x.be+cm x.bw)) (hb.mono (by omega)) λH1 k1 h1=>?_;have g1:=GR.label c;have A:=g1.bd (m:=w+(15+dM e0+cm x.be+cm x.bw)) (hb.mono (by omega)) rfl;refine xr ak hT h1 (w:=w+(14+dM e0+cm x.be+cm x.bw)) (A.mono (by omega)) λH2 k2 B=>?_;have g2:=g1.trans (GR.label {c with labels:=c.labels+1});have E:=g2.bd (m:=w+(14+dM e0+cm x.be+cm x.bw)) (hb.mono (by omega)) rfl;obtain⟨a0,a1⟩:=sN (l:=x.bc) (i:=0) (e:=e0) (by rw[p];rfl);change aO none _ _ (.int .i64 0)=some _ at a0;simp only[hq,mU,a0,a1,D];refine q B d z (w:=w+(14+cm x.be+cm x.bw)) (E.mono (by omega)) λr c3 aI G J ge K=>?_;obtain⟨n1,g3,M,N⟩:=ge.gr;have b:c3.L=c.L:=ge.L;have O:c3.labels=c.labels+2:=N;have g:=g2.trans g3;have P:=g.bd (m:=w+(14+cm x.be+cm x.bw)) (hb.mono (by omega)) b;refine xv ak hT J (w:=w+(13+cm x.be+cm x.bw)) (P.mono (by omega)) _ K λo1 aJ T U ok W X=>?_;have g4:=g.trans (GR.add W);have Y:=g4.bd (m:=w+(13+cm x.be+cm x.bw)) (hb.mono (by omega)) b;simp only[w6,D];refine s v X (by show c3.L.map _=_;rw[b];exact d) (w:=w+(13+cm x.bw)) (Y.mono (by omega)) λc5 aK aL aa ab ac ad=>?_;obtain⟨n2,g5,ae⟩:=ac.gr;have a:c5.L=c.L:=ad.trans b;have af:=g4.trans g5;simp only[A8,D,aX,dX];refine ab.B9 ak hT _ λaM ag ah=>?_;have g6:=af.trans (GR.V c5 x.V);have aj:=g6.bd (m:=w+(13+cm x.bw)) (hb.mono (by omega)) a;refine xv ak hT ah (w:=w+(12+cm x.bw)) (aj.mono (by omega)) _ ch λo2 aN al am pL an ao=>?_;have g7:=g6.trans (GR.add an);have ap:=g7.bd (m:=w+(12+cm x.bw)) (hb.mono (by omega)) a;refine xu ak hT ao (w:=w+(11+cm x.bw)) (ap.mono (by omega)) _ λaQ aq au=>?_;have j:∀{R S:Nat}{t:Int},iD R S ⟨14,-1,-1,-1,-1,-1,0,0,0,0,t,0,0⟩:=i6 (by decide) (by decide) ch ch ch ch ch (.inr (.inl (by decide))) (.inr (.inl (by decide)));have g8:=g7.trans (GR.add (o:=⟨14,-1,-1,-1,-1,-1,0,0,0,0,((c.labels+1:Nat):Int),0,0⟩) j);have av:=g8.bd (m:=w+(11+cm x.bw)) (hb.mono (by omega)) a;simp only[A_,D];refine u y au (by show c5.L.map _=_;rw[a];exact d) (w:=w+11) (av.mono (by omega)) λf aw aR ax h9 ay az=>?_;obtain⟨n3,g9,aA⟩:=ay.gr;have k:f.L=c.L:=az.trans a;have aB:=g8.trans g9;refine h9.B9 ak hT _ λaS aC aD=>?_;have n:=aB.trans (GR.V f x.V);have aE:=n.bd (m:=w+11) (hb.mono (by omega)) k;refine xu ak hT aD (w:=w+10) aE _ λaF kb aG=>?_;have aH:=n.trans (GR.add (o:=⟨14,-1,-1,-1,-1,-1,0,0,0,0,((c.labels+1+1:Nat):Int),0,0⟩) j);refine hQ _ aw aF (((((((k1.trans k2).trans G).trans T).kb.trans aa).trans ((ag.trans al).trans aq).kb).trans ax).trans (aC.trans kb).kb) aG (GR.gs (aH.mono (by omega) (by simp only[abQ,acD,acI])) ?_) k;have l2:fw (c.labels+2) c5.labels n2:=by rw[←O];exact ae
 have l3:fw c5.labels f.labels n3:=aA;have:=UU (o1:={o1 with V:=c3.V}) (o2:={o2 with V:=x.V}) (m1:=⟨14,-1,-1,-1,-1,-1,0,0,0,0,((c.labels+1:Nat):Int),0,x.V⟩) (m2:=⟨14,-1,-1,-1,-1,-1,0,0,0,0,((c.labels+1+1:Nat):Int),0,x.V⟩) M ⟨ok,U⟩ l2 ⟨pL,am⟩ ⟨rfl,rfl⟩ l3 ⟨rfl,rfl⟩;simp only[acD,abQ,acI];exact this
theorem UY{L:List (List UInt8)}(n:x.bc=[e0])(p:iF C id vars L e0)(q:qu C id vars x.be)(s:vB vars L x.be)(h:bB H id vars (dw vars) F c)(g:c.L.map abm=L)(u:c.V=x.V)(hb:BD c (w+(16+dM e0+cm x.be)))
  (hQ:∀(c':LD)(F:I)(H':Z),KB id H H'→bB H' id vars (dw vars) F c'→GS c c' (16+dM e0+cm x.be) (gk x.V e0++fb x.be)→c'.L=c.L→Q (.ar []) H'):ai C 111 [.ptr id 0,.agg x.cells] H Q:=by
 have iY:=kg e0;refine S.PJ hT ?_;unfold S.f111;simp only[ob,aP];refine xr ak hT h (w:=w+(15+dM e0+cm x.be)) (hb.mono (by omega)) λH1 k1 h1=>?_;have g1:=GR.label c;have v:=g1.bd (m:=w+(15+dM e0+cm x.be)) (hb.mono (by omega)) rfl;refine xr ak hT h1 (w:=w+(14+dM e0+cm x.be)) (v.mono (by omega)) λH2 k2 b=>?_;have g2:=g1.trans (GR.label {c with labels:=c.labels+1});have d:=g2.bd (m:=w+(14+dM e0+cm x.be)) (hb.mono (by omega)) rfl;have j:∀{R S:Nat}{t:Int},iD R S ⟨14,-1,-1,-1,-1,-1,0,0,0,0,t,0,0⟩:=i6 (by decide) (by decide) ch ch ch ch ch (.inr (.inl (by decide))) (.inr (.inl (by decide)));refine xu ak hT b (w:=w+(13+dM e0+cm x.be)) (d.mono (by omega)) _ λH2 y b=>?_;have g2:=g2.trans (GR.add (o:=⟨14,-1,-1,-1,-1,-1,0,0,0,0,((c.labels+1:Nat):Int),0,0⟩) j);have d:=g2.bd (m:=w+(13+dM e0+cm x.be)) (hb.mono (by omega)) rfl;obtain⟨a0,a1⟩:=sN (l:=x.bc) (i:=0) (e:=e0) (by rw[n];rfl);change aO none _ _ (.int .i64 0)=some _ at a0;simp only[hq,mU,a0,a1,D];refine p b g u (w:=w+(13+cm x.be)) (d.mono (by omega)) λr c3 aq z A ge B=>?_;obtain⟨n1,g3,E,G⟩:=ge.gr;have a:c3.L=c.L:=ge.L;have J:c3.labels=c.labels+2:=G;have k:=g2.trans g3;have K:=k.bd (m:=w+(13+cm x.be)) (hb.mono (by omega)) a;refine xv ak hT A (w:=w+(12+cm x.be)) (K.mono (by omega)) _ B λo1 au M N ok O P=>?_;have g4:=k.trans (GR.add O);have T:=g4.bd (m:=w+(12+cm x.be)) (hb.mono (by omega)) a;simp only[w6,D];refine q s P (by show c3.L.map _=_;rw[a];exact g) (w:=w+12) (T.mono (by omega)) λc5 U av W X Y aa=>?_;obtain⟨n2,g5,ab⟩:=Y.gr;have f:c5.L=c.L:=aa.trans a;have ac:=g4.trans g5;simp only[A8,D,aX,dX];refine X.B9 ak hT _ λaw ad ae=>?_;have g6:=ac.trans (GR.V c5 x.V);have af:=g6.bd (m:=w+12) (hb.mono (by omega)) f;refine xv ak hT ae (w:=w+11) af _ ch λo2 ax ag ah pL aj al=>?_;have g7:=g6.trans (GR.add aj);have am:=g7.bd (m:=w+11) (hb.mono (by omega)) f;refine xu ak hT al (w:=w+10) am _ λan ao ap=>?_;have g8:=g7.trans (GR.add (o:=⟨14,-1,-1,-1,-1,-1,0,0,0,0,((c.labels+1+1:Nat):Int),0,0⟩) j);refine hQ _ U an (((((k1.trans k2).trans y).trans z).trans M).kb.trans (W.trans ((ad.trans ag).trans ao).kb)) ap (GR.gs (g8.mono (by omega) (by simp only[abQ,acD,acI])) ?_) f;have l2:fw (c.labels+2) c5.labels n2:=by rw[←J];exact ab
 have:=UW (o1:={o1 with V:=c3.V}) (o2:={o2 with V:=x.V}) (m1:=⟨14,-1,-1,-1,-1,-1,0,0,0,0,((c.labels+1:Nat):Int),0,c.V⟩) (m2:=⟨14,-1,-1,-1,-1,-1,0,0,0,0,((c.labels+1+1:Nat):Int),0,x.V⟩) ⟨rfl,rfl⟩ E ⟨ok,N⟩ l2 ⟨pL,ah⟩ ⟨rfl,rfl⟩;simp only[acD,abQ,acI];exact this
end
end Rb

namespace Rb
open Go
variable{x:aw}
theorem UZ{k:Int}:(eG k).2.2.2.1=if k=5∨k=7 then 0 else if k=6 then 2 else 1:=by
 unfold eG;by_cases b:k=5
 ·subst b;rfl
 by_cases a:k=6
 ·subst a;rfl
 by_cases c:k=7
 ·subst c;rfl
 rw[ae (show ¬(k=5∨k=7) by omega),ae a]
 repeat' split
 all_goals first|rfl|(exfalso;omega)
theorem B_{e0:X}(h:¬(3≤x.kind∧x.kind≤7))(hp:x.place.aC=[])(a:x.bc=[e0]):kJ x=gk x.V e0++(fb x.be++fb x.bw):=by rw[Jr,oo,hp,a,jr,dN,dN,ae h];simp
theorem xQ(h:3≤x.kind∧x.kind≤7)(ht:x.be=[])(a:x.bw=[]):kJ x=gE x.V x.place++dN x.V x.bc++[⟨x.kind,x.aV,x.V,x.place⟩]:=by rw[Jr,ht,a,fb,aa h];simp
section
variable{C:Ctx}(ak:bP C)(hT:Cl (ai C) S.bu){id:Nat}{vars:List U}{F:I}{c:LD}{H:Z}{Q:ad}{w:Nat}
include ak hT
theorem U0(J:gO vars)(W:x.ok)(ap:qu C id vars x.be)(aD:qu C id vars x.bw):B6 C id vars x:=by
 intro L F c H Q w hv h r s hb hQ;obtain⟨v1,v2,v3,v4,v5,v6,aG,ar,v9⟩:=(I0 vars L x).1 hv;obtain⟨f1,f2,f3,f4,f5,f6⟩:=Jb v1;rw[UZ]at f4;obtain⟨au,⟨a_,aH⟩,_,_⟩:=aw.fK W;have y:∀e∈x.bc,iF C id vars L e:=λe he=>Kk ak hT J L e (aH e he) ((xj vars L).1 aG e he);have aJ:=aM.fK au;have Y:3≤x.kind∧x.kind≤6→∀p∈x.place.aC,∀e∈p.bb,iF C id vars L e:=λhk p hp e he=>Kk ak hT J L e ((aJ.2 p hp).2 e he) (Ki vars (v6 hk) p hp e he);have u:=Jq x;have z:¬(x.kind=5∨x.kind=7)→x.kind≠6→∃e0,x.bc=[e0]:=λa b=>by rw[ae a,ae b]at f4;exact ab5.1 (by omega)
 have Z:x.kind≠1→gN L x=L:=λe=>by unfold gN;rw[ae e]
 have B:x.kind≠1→∀{m:Nat}{n:List bq},m≤ke x→n=kJ x→EU id vars (dw vars) F H c m n Q:=λhk m n hm hn c' H' k' aK g'=>hQ c' F H' k'.kb aK (g'.gs.mono hm hn) (by rw[g'.L,r,Z hk]) ⟨[],by rw[g'.L,abQ],Yz _⟩;have a0:∀{e0:X},x.bc=[e0]→aO none 8 (av X.cells x.bc) (.int .i64 0)=some (dE X.cells 8 x.bc 0)∧∀H,O H 8 true (dE X.cells 8 x.bc 0)=some (.agg e0.cells):=λ{e0} he=>sN (l:=x.bc) (i:=0) (e:=e0) (by rw[he];rfl);have s1:∀{e0:X},x.bc=[e0]→dI x.bc=dM e0:=λhe=>by rw[he,dI,dI];exact YD _
 have ab:∀{e0:X},x.bc=[e0]→¬(3≤x.kind∧x.kind≤9)→gk x.V e0=kJ x:=λhe hk=>by rw[B_ (by omega) (f3 (by omega)) he,f6 (by omega) (by omega),f5 (by omega),fb];simp
 refine S.Pf hT ?_;unfold S.f66;simp only[ob,aP,hq,lJ,mT,oc,mU,D,cJ,aB];apply aF<;>intro hc
 · have k1:x.kind=1:=by simpa using hc
   obtain⟨e0,k⟩:=z (by omega) (by omega);obtain⟨a1,a2⟩:=a0 k;have t1:=s1 k;have iY:=kg e0;rw[bC]at u;simp only[a1,a2,D];refine y e0 (by rw[k];exact acR.2 rfl) h r s (w:=w+16) (hb.mono (by omega)) λr1 c1 H1 T h1 g1 dy=>?_;have K:BD c1 (w+16):=g1.bd (m:=w+16) (hb.mono (by omega));refine ou ak hT h1 (w:=w+15) K λH2 k2 M=>?_;have g2:=GE.fr c1;have G:=g2.bd (m:=w+15) (K.mono (by omega));refine xt ak hT M (w:=w+14) G (ju (aaP _)) (dy.mono (YH _)) λc3 I v o g3=>?_;have aL:=g3.bd (m:=w+14) (G.mono (by omega));have ac:=(g1.trans g2).trans g3;have aN:=g3.r0;have aQ:c1.bj<c3.bj:=aN;simp only[aX,dX,D,o.lcs];rw[show bm [.str [],.int .i64 0] [(0,1,.str x.E),(1,1,.int .i64 (c1.bj:Nat))]=some (.agg (jq (x.E,c1.bj)))from rfl];simp only[D];rw[show dk I false 2 1 [.str [],.int .i64 0] [(0,2,.agg (jq (x.E,c1.bj)))]=some (.aq .full 1 (jq (x.E,c1.bj)),I)from rfl];simp only[aP];have ba:=aL.L;refine o.l.app (by decide) rfl rfl (by omega) (by omega) λad U ax hn kp N=>?_;obtain⟨xo,xs,a,b,d,f⟩:=o.x;have ay:∀t p q,At I t (.tok p q)→At U t (.tok p q):=λt p q ht=>kp t _ (λe=>by obtain⟨cs,hc⟩:=o.l.row e;exact absurd (hc.2.symm.trans ht.2) (by intro e;cases e)) ht;have a4:=kp _ _ o.sC a;obtain⟨n1,n2,n3⟩:=ax.known;have az:∀j,bQ ad=some j→id<j:=λj ag=>by
    rcases N with N|N
    ·exact o.ld j (by rw[←N];exact ag)
    ·rw[N]at ag;cases ag;exact a.1
   have aS:bQ ad≠some id:=λe=>acS _ (az _ e);have aT:KB id H U:=⟨xl ((T.trans k2).trans v).1 hn,λi cs hi ah=>kp i _ (λe=>by have:=o.ld i e;omega) (((T.trans k2).trans v).2 i cs (YM hi) ah)⟩
   rw[a4.st1 (by show 7<8;decide) ⟨n1,n2,n3⟩];simp only[D];refine hQ {c3 with L:=c3.L++[(x.E,c1.bj)]} ad _ (aT.trans (KR.set _).kb) ⟨⟨xo,xs,a4.set _,(b.frame ay).frame λ_ _ _ h=>h.bZ (h.ne a4 (by intro e;cases e)) _,(d.frame ay).frame λ_ _ _ h=>h.bZ (h.ne a4 (by intro e;cases e)) _,f⟩,?_,az,λp hp=>?_⟩ ((ac.gs.trans (GS.g c3 _)).mono (by omega) (by simp only[abQ];exact ab k (by omega))) ?_ ⟨[(x.E,c1.bj)],by show c3.L++_=_;rw[ac.L],sl _⟩
   · rw[abI,acH,acT];exact ax.set aS _
   · rcases aag.1 hp with hp|hp
     ·exact o.lo p hp
     ·rw[acR.1 hp];exact aQ
   · show(c3.L++_).map _=_;rw[acA,ac.L,r];unfold gN;rw[aa k1];rfl
 have n1:x.kind≠1:=by simpa using hc
 apply aF<;>intro hc
 · have k2:x.kind=2:=by simpa using hc
   obtain⟨e0,k⟩:=z (by omega) (by omega);obtain⟨a1,a2⟩:=a0 k;have t1:=s1 k;have iY:=kg e0;rw[bC]at u;simp only[a1,a2,D];refine y e0 (by rw[k];exact acR.2 rfl) h r s (w:=w+16) (hb.mono (by omega)) λr1 c1 H1 T h1 g1 dy=>?_;have K:BD c1 (w+16):=g1.bd (m:=w+16) (hb.mono (by omega));refine xw ak hT h1 K (by rw[g1.L,r];exact v4 k2) λq aU=>?_;refine xt ak hT h1 (w:=w+15) K aU dy λc3 I v o g3=>?_;exact B n1 (by omega) (by rw[abQ];exact ab k (by omega)) _ _ (T.trans v) o (g1.trans g3)
 have n2:x.kind≠2:=by simpa using hc
 apply aF<;>intro hc
 · have v:x.kind=3:=by simpa using hc
   obtain⟨e0,k⟩:=z (by omega) (by omega);obtain⟨a1,a2⟩:=a0 k;have t1:=s1 k;rw[cY]at u;simp only[a1,a2,D];refine UQ ak hT J au (by have:=v6 (by omega);rw[v]at this;exact this) (Y (by omega)) (y e0 (by rw[k];exact acR.2 rfl)) h r s (w:=w) (hb.mono (by omega)) λc1 H1 k1 h1 g1=>?_;refine B n1 (by omega) ?_ _ _ k1 h1 g1;have ah:x.aV=0:=by rw[v]at v2;exact eq_of_beq v2
   rw[xQ (by omega) (f6 (by omega) (by omega)) (f5 (by omega)),k,dN,dN,abQ,v,ah]
 have n3:x.kind≠3:=by simpa using hc
 have k1 : ∀b:Bool,(b=true↔x.kind=4∨x.kind=6)→S.uX (ai C) (.ptr id 0) (.af x.cells) (.int .i64 x.kind) Q [.bool b] H:=by
  intro b aA;unfold S.uX;simp only[aE,aB,Ih,hq,lJ,w5,mU,D,cJ];apply aF<;>intro hc
  · have hk:=aA.1 hc;rw[cY]at u;refine UR ak hT J W ?_ (v6 (by omega)) (Y (by omega)) y h r s (w:=w) (hb.mono (by omega)) λc1 H1 k1 h1 g1=>?_
    · rcases hk with hk|hk
      · rw[bC,bC]at f4;exact .inl ⟨hk,by omega⟩
      · rw[bC,aa hk]at f4;exact .inr ⟨hk,by omega⟩
    ·exact B n1 (by omega) (xQ (by omega) (f6 (by omega) (by omega)) (f5 (by omega))).symm _ _ k1 h1 g1
  have n46:¬(x.kind=4∨x.kind=6):=λe=>hc (aA.2 e);apply aF<;>intro hc
  · have P:x.kind=5:=by simpa using hc
    rw[cY]at u;obtain⟨aW,aY,_⟩:=v5 P;refine US ak hT J W P aW aY (by have:=v6 (by omega);rw[P]at this;exact this) (Y (by omega)) h r s (w:=w) (hb.mono (by omega)) λc1 H1 k1 h1 g1=>?_;rw[cY]at f4;exact B n1 (by omega) (by rw[xQ (by omega) (f6 (by omega) (by omega)) (f5 (by omega)),show x.bc=[]from acN (by omega),dN,abQ]) _ _ k1 h1 g1
  have bf:x.kind≠5:=by simpa using hc
  apply aF<;>intro hc
  · have aZ:x.kind=7:=by simpa using hc
    rw[cY]at u;refine jK ak hT h KR.refl λa3 H1 k1 h1 aj l1=>?_;rw[show bm [.str [],.aq .nil 0 []] []=some (.agg [.str [],.aq .nil 0 []])from rfl];simp only[D,dX];refine Jy ak hT h1 (w:=w+200) (hb.mono (by omega)) _ _ ⟨x.kind,x.aV,x.V,x.place⟩ (by unfold bq.cells;rw[aa aZ,s]) rfl rfl λH2 c2 k2 M g2 bg es=>?_;have G:=g2.bd (m:=w+200) (hb.mono (by omega));refine⟨trivial,?_⟩;refine(aj.aI k2).st M (k1.trans k2) (by decide) One.int λI al o b3 _=>?_;refine b3.st o al (by decide) One.int λU a5 am a6 _=>?_;rw[a6.all];simp only[D];refine jt ak hT am (by have:=G.A;omega) ⟨13,-1,-1,-1,-1,-1,0,0,0,x.aV,0,((c.sn+1:Nat):Int),0⟩ λbh P a7=>?_;rw[cY]at f4;exact B n1 (by omega) (by rw[xQ (by omega) (f6 (by omega) (by omega)) (f5 (by omega)),show x.bc=[]from acN (by omega),dN,oo,f3 (by omega),jr];rfl) _ _ (a5.trans P) a7 (g2.trans (GE.add (i6 (by decide) (by decide) ch ch ch ch ch (.inr (.inr ⟨by omega,by omega⟩)) (.inr (.inl (by decide)))) (kK (.inl (by decide)))))
  have n7:x.kind≠7:=by simpa using hc
  apply aF<;>intro hc
  · have bi:x.kind=8:=by simpa using hc
    obtain⟨e0,k⟩:=z (by omega) (by omega);have t1:=s1 k;rw[bC]at u;rw[Z n1]at hQ;refine UX ak hT k (y e0 (by rw[k];exact acR.2 rfl)) ap aD ar v9 h r s (w:=w) (hb.mono (by omega)) λc1 an H1 ao h1 g1 R=>?_;exact hQ c1 an H1 ao h1 (g1.mono (by omega) (B_ (by omega) (f3 (by omega)) k).symm) (by rw[R];exact r) ⟨[],by rw[R,abQ],Yz _⟩
  have n8:x.kind≠8:=by simpa using hc
  apply aF<;>intro hc
  · have bk:x.kind=9:=by simpa using hc
    obtain⟨e0,k⟩:=z (by omega) (by omega);have t1:=s1 k;rw[bC]at u;rw[Z n1]at hQ;refine UY ak hT k (y e0 (by rw[k];exact acR.2 rfl)) ap ar h r s (w:=w) (hb.mono (by omega)) λc1 an H1 ao h1 g1 R=>?_;exact hQ c1 an H1 ao h1 (g1.mono (by omega) (by rw[B_ (by omega) (f3 (by omega)) k,f5 (by omega),fb,abQ])) (by rw[R];exact r) ⟨[],by rw[R,abQ],Yz _⟩
  have n9:x.kind≠9:=by simpa using hc
  apply aF<;>intro hc
  · have bl:x.kind=10:=by simpa using hc
    obtain⟨e0,k⟩:=z (by omega) (by omega);obtain⟨a1,a2⟩:=a0 k;have t1:=s1 k;have iY:=kg e0;rw[bC]at u;refine jK ak hT h KR.refl λa3 H1 k1 h1 aj l1=>?_;simp only[a1,a2,D];refine y e0 (by rw[k];exact acR.2 rfl) h1 r s (w:=w+16) (hb.mono (by omega)) λr1 c2 H2 k2 M g2 a8=>?_;have G:BD c2 (w+16):=g2.bd (m:=w+16) (hb.mono (by omega));simp only[dX,D];refine(aj.aI k2).st M (k1.trans k2) (by decide) One.int λI al o b3 _=>?_;rw[b3.all];simp only[D];refine jt ak hT o (by have:=G.A;omega) ⟨18,-1,-1,r1,-1,-1,0,0,0,0,0,0,0⟩ λU a9 am=>?_;exact B n1 (by omega) (by rw[abQ];exact ab k (by omega)) _ _ (al.trans a9) am (g2.trans (GE.add (i6 (by decide) (by decide) ch ch a8 ch ch (.inr (.inl (by decide))) (.inr (.inl (by decide)))) (kK (.inr (by decide)))))
  · have n10:x.kind≠10:=by simpa using hc
    omega
 simp only[aR];apply aF<;>intro hc
 ·exact k1 _ ⟨λ_=> .inl (by simpa using hc),λ_=>hc⟩
 · refine k1 _ ⟨λe=> .inr (by simpa using e),λe=>?_⟩;have:x.kind≠4:=by simpa using hc
   simp;omega
theorem U1(c:gO vars):∀x:aw,x.ok→B6 C id vars x:=by refine aw.ind λx h1 d b=>?_;obtain⟨_,_,⟨l1,o1⟩,l2,o2⟩:=aw.fK b;exact U0 ak hT c b (B8 ak hT l1 λy a=>h1 y a (o1 y a)) (B8 ak hT l2 λy a=>d y a (o2 y a))
end
end Rb

namespace Rb
open Go
def qv:LD:=⟨[],0,0,0,[],0,[]⟩
def bq.pl(a:bq):aM:=if a.kind=7 then .mk [] []else a.place
def bq.wk(a:bq):List I:= .int .i64 a.kind :: .int .i64 a.aV :: .int .i64 a.V::a.pl.cells
theorem bq.Ca(a:bq):a.wk.length=5:=by simp[bq.wk,aM.len]
theorem bq.U2(a:bq):a.wk.all I.scalar=true:=by have:=aM.scalar a.pl;simp only[bq.wk,List.all_cons,this,acs];rfl
theorem bq.cf(a:bq):I.cf a.cells=a.wk:=by
 unfold bq.cells bq.wk bq.pl;simp only[I.cf,I.cd];split
 ·rw[aM.bF];rfl
 ·rw[aM.gC]
theorem Kn:∀l:List bq,I.cf (l.flatMap bq.cells)=l.flatMap bq.wk
 |[]=>rfl
 |x::r=>by rw[abk,abk,jI,Kn r,bq.cf]
theorem Ko:∀l:List bq,I.bA (l.flatMap bq.wk)=true
 |[]=>rfl
 | x::r=>by rw[abk];show I.bA (.int .i64 x.kind :: .int .i64 x.aV :: .int .i64 x.V::(x.pl.cells++r.flatMap bq.wk))=true;rw[aM.bF];have h:=aM.a_ x.pl;rw[aM.bF]at h;simp only[I.bA,X7]at h;simp only[ZY,acD,I.bA,X7];exact⟨rfl,rfl,rfl,h.1,h.2.1,Ko r⟩
def c7(p:cA)(n:Int):List bq:=if(fN eD p).2≠0∨n<0∨(p.dj.length:Int)≤n then []else fb (p.dj.getD n.toNat [])
section
variable{C:Ctx}(ak:bP C)(hT:Cl (ai C) S.bu)(gi:∀x,bE (ai C) 96 [.str x] (.bool (eD x)))
include ak hT gi
theorem U3{p:cA}(hp:p.ok)(hz:∀t∈p.dj,cm t≤100000000000)(n:Int):bE (ai C) 14 [.agg p.cells,.int .i64 n] (av bq.wk (c7 p n)):=by
 refine bE.of ak (by simp[I.bA,I.a_,cA.a_]) (by show I.a_ (.aq .dead _ ((c7 p n).flatMap bq.wk))=true;simp[I.a_,Ko,Tok.free]) λQ hQ=>?_
 refine ai.cd ?_;have i:=hp;obtain⟨⟨ab,hv⟩,ac,s⟩:=hp;have hm:=od;refine S.OO hT ?_;unfold S.f14;have u:aK Z.mt false 2 (.agg p.cells)=some (.af p.cells,Z.mt):=by unfold aK;rw[aa ⟨rfl,rfl⟩];rfl
 have y:∀H,O H 1 false (.af (p.cells.drop 0))=some (av U.cells p.vars):=λ_=>rfl;have m:∀H,O H 1 false (.af (p.cells.drop 1))=some (av iS p.dj):=λ_=>rfl;have A:∀H,O H 2 true (.af p.cells)=some (.agg p.cells):=λ_=>rfl;simp only[u,aP,aJ,aY,ov,D,A];refine Sz ak hT gi p i _ _ ?_;unfold It;rw[cM _ _ _ 2 rfl rfl rfl];have B:=At.new Z.mt (.row [.int .i64 (fN eD p).1,.int .i64 (fN eD p).2]);simp only[D,dX];generalize Z.mt.push (.row [.int .i64 (fN eD p).1,.int .i64 (fN eD p).2])=a at *;have l1:O a 1 false (.ptr Z.mt.n 1)=some (.int .i64 (fN eD p).2):=by rw[B.load];rfl
 simp only[l1,D,dZ];have k1:∀k t,n=(k:Nat)→p.dj[k]?=some t→(fN eD p).2=0→S.zL (ai C) (.int .i64 n) (.af p.cells) (λv H'=>Q v.cd H') [] a:=by
  rintro k t rfl ht f;obtain⟨d,E⟩:=JE i f;obtain⟨hlen,F⟩:=s t (aaN ht);have G:=(X1.1 ht).1;have ad:=hz t (aaN ht);have g:c7 p (k:Nat)=fb t:=by unfold c7;rw[bC,Zc,Zm,ht];rfl
  rw[g]at hQ;unfold S.zL;simp only[ov,y,m,D];have ag:=d.l;refine Bn ak hT (by omega) hv _ _ ?_;have J:=IX d.z d.e;unfold kc;rw[J,ae (by show ¬(0:Int)≠0;decide)];simp only[bh,abp,abq,D];rw[show bm [.aq .nil 0 [],.aq .nil 0 [],.aq .nil 0 [],.int .i64 0,.int .i64 0,.aq .nil 0 [],.int .i64 0,.aq .nil 0 []] [(0,1,av U.cells p.vars),(1,1,.aq .dead p.vars.length (ea p.vars (cy 0 p.vars)))]=some (.agg (kf p.vars (dw p.vars) (.aq .nil 0 []) (.aq .nil 0 []) (.aq .nil 0 []) qv))from rfl];simp only[D];have K:aK a true 8 (.agg (kf p.vars (dw p.vars) (.aq .nil 0 []) (.aq .nil 0 []) (.aq .nil 0 []) qv))=some (.ptr a.n 0,a.push (.row (kf p.vars (dw p.vars) (.aq .nil 0 []) (.aq .nil 0 []) (.aq .nil 0 []) qv))):=rfl;rw[K];simp only[aP];have L:=At.new a (.row (kf p.vars (dw p.vars) (.aq .nil 0 []) (.aq .nil 0 []) (.aq .nil 0 []) qv));generalize a.push (.row (kf p.vars (dw p.vars) (.aq .nil 0 []) (.aq .nil 0 []) (.aq .nil 0 []) qv))=h at *;have M:bB h a.n p.vars (dw p.vars) (.aq .nil 0 []) qv:=⟨⟨_,_,L,cC.nil _ _ _,cC.nil _ _ _,λt l c1 e=>(by cases e)⟩,cP.nil _ _,λj N=>(by cases N),λq P=>(by cases P)⟩
  rw[cK G];simp only[D];have R:O h 1 false (dE iS 1 p.dj k)=some (av aw.cells t):=wu (c:=λl=>av aw.cells l) h ht;rw[R];simp only[D];refine B8 ak hT (id:=a.n) (vars:=p.vars) (l:=t) (by omega) (λx T=>U1 ak hT d x (F x T)) (w:=0) (E t (aaN ht)) M rfl ⟨by show 0+_≤_;omega,by show 0+_≤_;omega,by show 0+_≤_;omega,by show 0+_≤_;omega,by show 0+_≤_;omega⟩ λc' ah V kb W gs aj=>?_;obtain⟨xo,xs,a6,al,hs,_⟩:=W.x;have X:O V 1 false (.ptr a.n 5)=some xs:=by rw[a6.load];rfl
  simp only[aX,dX,D,X];obtain⟨tk,rfl,_,_⟩:=hs;have e1:c'.sn=(fb t).length:=by rw[gs.s1];show 0+_=_;omega
  have Y:c'.sc=(fb t).flatMap bq.cells:=by rw[gs.sc];rfl
  simp only[I.cd,e1,Y,Kn];exact hQ _
 have o:(fN eD p).2≠0∨n<0∨(p.dj.length:Int)≤n→S.rE (ai C) (.int .i64 n) (.af p.cells) (λv H'=>Q v.cd H') [.bool true] a:=by
  intro hc;have g:c7 p n=[]:=by unfold c7;rw[aa hc]
  rw[g]at hQ;unfold S.rE;simp only[aE,aB,aY];exact hQ _
 have r:∀b:Bool,(b=true↔(fN eD p).2≠0∨n<0)→S.uH (ai C) (.int .i64 n) (.af p.cells) (λv H'=>Q v.cd H') [.bool b] a:=by
  intro b hb;unfold S.uH;simp only[aE,cv,ov,m,D,cO,f_,aR];apply iz<;>intro e
  · have hn:¬((fN eD p).2≠0∨n<0):=λq=>by rw[hb.2 q]at e;cases e
    by_cases hle:(p.dj.length:Int)≤n
    · rw[show decide (n≥(p.dj.length:Int))=true by simpa using hle];exact o (.inr (.inr hle))
    · rw[show decide (n≥(p.dj.length:Int))=false by simpa using hle];obtain⟨k,rfl⟩:∃k:Nat,n=k:=⟨n.toNat,by omega⟩
      unfold S.rE;simp only[aE,aB,ZV,bR,aR];exact k1 k _ rfl (YU (show k<p.dj.length by omega)) (by omega)
  ·exact o ((hb.1 e).imp (λe=>e) .inl)
 simp only[cv,bD,D,aR];apply iz<;>intro e
 · have f:(fN eD p).2=0:=by simpa using e
   exact r _ ⟨λq=> .inr (by simpa using q),λq=>by simpa using q.resolve_left (λq=>q f)⟩
 ·exact r true ⟨λ_=> .inl (by simpa using e),λ_=>rfl⟩
end
end Rb

namespace Rb
open Go
section
variable(Φ:aj)(a0 a1 a2 a3 a8 a9 cS cu cB cz cQ a17 cV a72:I)(H:Z)(R:I→I→I→I→I→I→I→I→I→I→I→I→I→I→Z→Prop)(Rr:Z→Prop)
theorem U4:cn Φ J5 (dt a0 a1 a2 a3 a8 a9 cS cu cB cz cQ a17 cV a72 .bot) H (KA R Rr)=au (aK H false 2 a0) λx H'=>R a0 a1 a2 x a8 a9 cS cu cB cz cQ a17 cV a72 H':=by kernel_rfl
theorem U5:cn Φ J6 (dt a0 a1 a2 a3 a8 a9 cS cu cB cz cQ a17 cV a72 .bot) H (KA R Rr)=(Do (O H 2 true a3) λx=>Φ 14 [x,a1] H λv H'=>R a0 a1 a2 a3 v a9 cS cu cB cz cQ a17 cV a72 H'):=by kernel_rfl
theorem U6:cn Φ J7 (dt a0 a1 a2 a3 a8 a9 cS cu cB cz cQ a17 cV a72 .bot) H (KA R Rr)=(Do (ab .sub a2 (.int .i64 1)) λx=>Do (aO none 5 a8 x) λy=>Do (O H 5 true y) λz=>au (some (aJ H true [.int .i64 0,.int .i64 0,.int .i64 0,.str [],.aq .nil 0 []])) λu H'=>Do (Y H' 5 u z) λH2=>R a0 a1 a2 a3 a8 u cS cu cB cz cQ a17 cV a72 H2):=by kernel_rfl
theorem U7:cn Φ J8 (dt a0 a1 a2 a3 a8 a9 cS cu cB cz cQ a17 cV a72 .bot) H (KA R Rr)=R a0 a1 a2 a3 a8 a9 (.int .i64 1) cu cB cz cQ a17 cV a72 H:=by kernel_rfl
theorem U8:cn Φ J9 (dt a0 a1 a2 a3 a8 a9 cS cu cB cz cQ a17 cV a72 .bot) H (KA R Rr)=(Do (W 0 a3) λx=>Do (O H 1 false x) λy=>Do (W 3 a9) λz=>Do (O H 2 true z) λu=>Φ 17 [y,u] H λv H'=>R a0 a1 a2 a3 a8 a9 cS v cB cz cQ a17 cV a72 H'):=by kernel_rfl
theorem U9:cn Φ J_ (dt a0 a1 a2 a3 a8 a9 cS cu cB cz cQ a17 cV a72 .bot) H (KA R Rr)=(Do (W 0 a3) λx=>Do (O H 1 false x) λy=>Φ 11 [y] H λv H'=>Do (bh 0 v) λz=>Do (bh 1 v) λe=>au (some (aJ H' true [.aq .nil 0 []])) λu H2=>Do (Y H2 1 u z) λa=>R a0 a1 a2 a3 a8 a9 cS cu u e cQ a17 cV a72 a):=by kernel_rfl
theorem Kr:cn Φ Ka (dt a0 a1 a2 a3 a8 a9 cS cu cB cz cQ a17 cV a72 .bot) H (KA R Rr)=(Do (ab .neq cz (.int .i64 0)) λx=>Gd x true ((I.aq .nil 0 []=I.aq .nil 0 [])∧(I.bool false = .bool false)∧Rr H) (R a0 a1 a2 a3 a8 a9 cS cu cB cz cQ a17 cV a72 H)):=by kernel_rfl
theorem U_:cn Φ Kb (dt a0 a1 a2 a3 a8 a9 cS cu cB cz cQ a17 cV a72 .bot) H (KA R Rr)=(au (some (aJ H true [.aq .nil 0 []])) λu H2=>R a0 a1 a2 a3 a8 a9 cS cu cB cz u a17 cV a72 H2):=by kernel_rfl
theorem Va:cn Φ Kc (dt a0 a1 a2 a3 a8 a9 cS cu cB cz cQ a17 cV a72 .bot) H (KA R Rr)=(Φ 18 [cu] H λv H'=>R a0 a1 a2 a3 a8 a9 cS cu cB cz cQ a17 cV v H'):=by kernel_rfl
end
end Rb

namespace Rb
open Go
section
variable(Φ:aj)(a0 a1 a2 a3 a8 a9 cS cu cB cz cQ a17 cV a72:I)(R:I→I→I→I→I→I→I→I→I→I→I→I→I→I→Z→Prop)(Rr:Z→Prop)
def sO:List I→Z→Prop:=λj H=>
 Gd (G j 0) true ((I.aq .nil 0 []=I.aq .nil 0 [])∧(I.bool false = .bool false)∧Rr H) (R a0 a1 a2 a3 a8 a9 cS cu cB cz cQ a17 cV a72 H)
def sP:List I→Z→Prop:=λj H=>
 aL (G j 0) false (
 Do (ab .sub a2 (.int .i64 1)) λx=>
 Do (aO none 5 a8 x) λy=>
 Do (W 0 y) λz=>
 Do (O H 1 false z) λk=>
Φ 16 [k] H λw H'=>
 Do (cI .not w) λq=>
 N (sO a0 a1 a2 a3 a8 a9 cS cu cB cz cQ a17 cV a72 R Rr) [q] H') (
 N (sO a0 a1 a2 a3 a8 a9 cS cu cB cz cQ a17 cV a72 R Rr) [.bool true] H) (
 False)
def Kt(H:Z):Prop:=
 Do (ab .lss a2 (.int .i64 1)) λx=>
 aL x false (
 Do (bo false a8) λy=>
 Do (ab .gtr a2 y) λz=>
 N (sP Φ a0 a1 a2 a3 a8 a9 cS cu cB cz cQ a17 cV a72 R Rr) [z] H) (
 N (sP Φ a0 a1 a2 a3 a8 a9 cS cu cB cz cQ a17 cV a72 R Rr) [.bool true] H) (
 False)
theorem Vb(H:Z):cn Φ B2 (dt a0 a1 a2 a3 a8 a9 cS cu cB cz cQ a17 cV a72 .bot) H (KA R Rr)=Kt Φ a0 a1 a2 a3 a8 a9 cS cu cB cz cQ a17 cV a72 R Rr H:=by kernel_rfl
def xR(x:I):(List I×Z)→((List I×Z)→Prop)→Prop:=λs L=>
 Do (ab .lss (G s.1 3) x) λc=>
 Gd c true (
 Do (aO none 1 cu (G s.1 3)) λy=>
 Do (O s.2 1 false y) λn=>
 Do (ab .mul (G s.1 2) n) λm=>
 Do (ab .gtr m (.int .i64 4096)) λg=>
 Gd g true ((I.aq .nil 0 []=I.aq .nil 0 [])∧(I.bool false = .bool false)∧Rr s.2) (
 Do (ab .add (G s.1 3) (.int .i64 1)) λi=>
 L ([G s.1 0,G s.1 1,m,i],s.2))) (
 R a0 a1 a2 a3 a8 a9 (G s.1 2) cu cB cz cQ a17 cV a72 s.2)
theorem Vd(H:Z):cn Φ B3 (dt a0 a1 a2 a3 a8 a9 cS cu cB cz cQ a17 cV a72 .bot) H (KA R Rr)=(Do (bo false cu) λx=>aA (xR a0 a1 a2 a3 a8 a9 cu cB cz cQ a17 cV a72 R Rr x) ([.bot,.bot,cS,.int .i64 0],H)):=by kernel_rfl
end
end Rb

namespace Rb
open Go
section
variable(Φ:aj)(a0 a1 a2 a3 a8 a9 cS cu cB cz cQ a17 cV a72 Kg:I)(H:Z)(R:I→I→I→I→I→I→I→I→I→I→I→I→I→I→Z→Prop)(Rr:Z→Prop)
theorem Ve:cn Φ B4 (dt a0 a1 a2 a3 a8 a9 cS cu cB cz cQ a17 cV a72 .bot) H (KA R Rr)=(Do (W 0 a3) λx=>Do (O H 1 false x) λy=>Do (W 3 a9) λz=>Do (O H 2 true z) λu=>Φ 19 [y,u,a17] H λv H'=>Do (bh 0 v) λe0=>Do (bh 1 v) λe1=>au (some (aJ H' true [.int .i64 0,.int .i64 0,.int .i64 0,.bool false,.int .i64 0,.int .i64 0])) λw H2=>Do (Y H2 6 w e0) λa=>R a0 a1 a2 a3 a8 a9 cS cu cB cz cQ a17 w a72 a):=by kernel_rfl
theorem Vf:cn Φ B5 (dt a0 a1 a2 a3 a8 a9 cS cu cB cz cQ a17 cV a72 .bot) H (KA R Rr)=(Do (O H 1 false cQ) λa=>Do (O H 1 false cB) λb=>Do (W 0 cV) λc=>Do (O H 2 true c) λd=>Φ 20 [b,d] H λe H1=>(O H1 1 false cQ=some a)∧(au (dk H1 false 2 1 [.int .i64 0,.int .i64 0] [(0,2,e)]) λf H2=>au (cp H2 false 2 16 a f) λg h=>Do (Y h 1 cQ g) λi=>R a0 a1 a2 a3 a8 a9 cS cu cB cz cQ a17 cV a72 i)):=by kernel_rfl
end
end Rb

namespace Rb
open Go
def oA(g:bp):Int×Int:=(g.at_,g.len)
def lP(vars:List U)(a:aM)(aS:List (Int×Int))(x:List Int):Int×Int:=m_ aS (oA (d_ vars a x))
structure mo(vars:List U)(m:bq)(aS:List (Int×Int))(j9 gI gy:Nat)(pre:List (List Int))(H:Z):Prop where
 h9:At H j9 (.row m.wk)
 qn:At H gI (.row [av u aS])
 iY:∃x,At H gy (.row [x])∧cC 0 H 2 x pre.length ((pre.map (lP vars m.pl aS)).flatMap u)
 n9:j9≠gy
 n14:gI≠gy
section
variable{C:Ctx}(ak:bP C)(hT:Cl (ai C) S.bu){p:cA}{m:bq}{aS:List (Int×Int)}{j9 gI gy:Nat}
include ak hT
theorem Vg(hl:p.vars.length≤1000000)(hv:∀v∈p.vars,v.ok)(j:m.pl.ok){pre:List (List Int)}{x:List Int}{H:Z}(h:mo p.vars m aS j9 gI gy pre H){a0 a1 d a8 cS cu cz cV f:I}{R:I→I→I→I→I→I→I→I→I→I→I→I→I→I→Z→Prop}{Rr:Z→Prop}
  (k:∀i H',mo p.vars m aS j9 gI gy pre H'→At H' i (.row (d_ p.vars m.pl x).cells)→i≠gy→R a0 a1 d (.af p.cells) a8 (.ptr j9 0) cS cu (.ptr gI 0) cz (.ptr gy 0) (.aq .dead x.length (x.map dx)) (.ptr i 0) f H') :
  cn (ai C) B4 (dt a0 a1 d (.af p.cells) a8 (.ptr j9 0) cS cu (.ptr gI 0) cz (.ptr gy 0) (.aq .dead x.length (x.map dx)) cV f .bot) H (KA R Rr):=by
 rw[Ve];have l0:O H 1 false (.af p.cells)=some (av U.cells p.vars):=rfl;have l3:O H 2 true (.ptr j9 3)=some (.agg m.pl.cells):=by rw[h.h9.load];unfold bq.wk bT;rw[aa (by simp[aM.len]),aa rfl];show some (I.agg (ado 2 m.pl.cells))=_;rw[abM (by rw[aM.len];exact sl _)]
 rw[show W 0 (.af p.cells)=some (.af p.cells)from rfl];simp only[D,l0,iZ,l3];refine S1 ak hT hl hv j (idx:=x) ⟨.dead,rfl⟩ λe H' E=>?_;simp only[bh,abp,abq,D,aP,aJ,aY];rw[cM _ _ _ 6 rfl rfl rfl];simp only[D];obtain⟨y,g,l⟩:=h.iY;have c:=E.trans (Z.Ext.push H' (.row (d_ p.vars m.pl x).cells));refine k H'.n _ ⟨h.h9.ext c,h.qn.ext c,⟨y,g.ext c,l.frame λt a b q=>q.ext c⟩,h.n9,h.n14⟩ (At.new H' _) λe=>?_;have:=(g.ext E).1;omega
theorem Vh(o:aS.length≤9223372036854775806){pre:List (List Int)}(B:pre.length≤100000){x:List Int}{i:Nat}{H:Z}(h:mo p.vars m aS j9 gI gy pre H)(hi:At H i (.row (d_ p.vars m.pl x).cells))(E:i≠gy){a0 a1 b c a8 cS cu cz d f:I}{R:I→I→I→I→I→I→I→I→I→I→I→I→I→I→Z→Prop}{Rr:Z→Prop}
  (r:∀H',mo p.vars m aS j9 gI gy (pre++[x]) H'→R a0 a1 b c a8 (.ptr j9 0) cS cu (.ptr gI 0) cz (.ptr gy 0) d (.ptr i 0) f H') :
  cn (ai C) B5 (dt a0 a1 b c a8 (.ptr j9 0) cS cu (.ptr gI 0) cz (.ptr gy 0) d (.ptr i 0) f .bot) H (KA R Rr):=by
 rw[Vf];obtain⟨y,g,s⟩:=h.iY;have j:O H 1 false (.ptr gy 0)=some y:=by rw[g.load];rfl
 have t:O H 1 false (.ptr gI 0)=some (av u aS):=by rw[h.qn.load];rfl
 have li:O H 2 true (.ptr i 0)=some (.agg (u (oA (d_ p.vars m.pl x)))):=by rw[hi.load];rfl
 simp only[j,t,iZ,li,D];refine Ui ak hT aS o (oA (d_ p.vars m.pl x)) _ _ ⟨j,?_⟩;rw[show dk H false 2 1 [.int .i64 0,.int .i64 0] [(0,2,.agg (u (m_ aS (oA (d_ p.vars m.pl x)))))]=some (.aq .full 1 (u (m_ aS (oA (d_ p.vars m.pl x)))),H)from rfl];simp only[aP];refine s.app (Yz _) (m:=1) (news:=u (m_ aS (oA (d_ p.vars m.pl x)))) rfl rfl rfl (by decide) (by omega) (by omega) λl v n w=>?_;have k:∀{q:Nat}{cs:List I},At H q (.row cs)→At v q (.row cs):=λz=>w.2 _ _ z (.inr λ_ _=>by intro e;cases e);have a:=k g;obtain⟨tk,A,_⟩:=id n;rw[a.st1 (by show 0<1;decide) (by rw[A];exact⟨rfl,rfl,rfl⟩)];simp only[D];refine r _ ⟨(k h.h9).bZ h.n9 _,(k h.qn).bZ h.n14 _,⟨l,a.set _,?_⟩,h.n9,h.n14⟩;have:=n.SV a (.row ([y].set 0 l));rw[abI,acA,acH];exact this
end
end Rb

namespace Rb
open Go
theorem h4.piece{C:Ctx}(hF:fD C){w0:World}{G0:aG}{H0:Z}{E E':Env}{H:Z}{G:aG}{a:Act}{w:World}(h:h4 C w0 G0 H0 E H G a w)(e:a.tmps.size=91){f:c0}{c:Code}(hc:b_ C c f=true){P:Z→Prop}{Rr:Z→Prop}{Q:Exit→Act→World→Prop}
  (hk:cn (ai C) f E H (KA (λg j k l m n o p q t u y z A H'=>dt g j k l m n o p q t u y z A .bot=E'∧P H') Rr))
  (hQ:∀H' G' a' w',h4 C w0 G0 H0 E' H' G' a' w'→a'.tmps.size=91→P H'→Q .normal a' w')
  (B:∀ax H' G' a' w',h4 C w0 G0 H0 ax H' G' a' w'→a'.tmps.size=91→ax.getD 6 .bot = .aq .nil 0 []→ax.getD 7 .bot = .bool false→Rr H'→Q .ret a' w'):c.wp C.P Q a w:=by
 refine h.run hF hc hk λD ex ax H' G' a' w' he b hs hz=>?_;cases D with
 |exit i=>exact b.elim
 | ret=>cases ex<;>simp only[e9]at he;exact B ax H' G' a' w' hs (hz.trans e) b.1 b.2.1 b.2.2
 | normal=>cases ex<;>simp only[e9]at he;obtain⟨h1,F⟩:=b;have hv:=Kh hs.v (hz.trans e);rw[h1]at hv;exact hQ H' G' a' w' ⟨hs.x,hs.r,hv,hs.d,hs.s⟩ (hz.trans e) F
def cZ(p:cA)(n k:Int):List (Int×Int)×Bool:=
 if k<1∨k>((c7 p n).length:Int)then([],false)else match (c7 p n)[(k-1).toNat]? with
 |none=>([],false)
 | some m=>if iG m.kind=false then([],false)else match gP (cU p.vars m.pl.var [] m.pl.aC) 1 with
  |none=>([],false)
  | some _=>match fm p.vars (cy 0 p.vars)with
   |none=>([],false)
   |some aS=>((eN (cU p.vars m.pl.var [] m.pl.aC)).map (lP p.vars m.pl aS),true)
theorem Vi{Φ:aj}{bK:List Int}(hl:bK.length≤9223372036854775806){a0 a1 a b a8 d cB cz cQ f cV g:I}{R:I→I→I→I→I→I→I→I→I→I→I→I→I→I→Z→Prop}{Rr:Z→Prop}{H:Z}
  (k:gP bK 1=none→Rr H) (l:∀v,gP bK 1=some v→R a0 a1 a b a8 d (.int .i64 v) (av di bK) cB cz cQ f cV g H) :
  cn Φ B3 (dt a0 a1 a b a8 d (.int .i64 1) (av di bK) cB cz cQ f cV g .bot) H (KA R Rr):=by
 rw[Vd];simp only[cO,D];have main:∀(r:List Int)(i:Nat)(v:Int),bK.drop i=r→gP r v=gP bK 1→aA (xR a0 a1 a b a8 d (av di bK) cB cz cQ f cV g R Rr (.int .i64 bK.length)) ([.bot,.bot,.int .i64 v,.int .i64 i],H):=by
  intro r;induction r with
  | nil=>intro i v h he;have hle:=ek h;refine aA.step ?_;simp only[xR,aE,cW,bD,D,aB];rw[ee];exact l v (by rw[←he,gP])
  | cons x r m=>
   intro i v h he;obtain⟨o,p,q⟩:=ed h;have s:∀H,O H 1 false (dE di 1 bK i)=some (.int .i64 x):=λH=>wu (c:=I.int .i64) H p;refine aA.step ?_;simp only[xR,aE,cW,bD,D,aB];rw[dU,cK o];simp only[D,s,jF,eu,b4];rw[gP]at he;apply aF<;>intro e
   · have j:B (v*x)>4096:=by simpa using e
     rw[aa j]at he;exact⟨trivial,trivial,k he.symm⟩
   · have j:¬B (v*x)>4096:=by simpa using e
     rw[ae j]at he;rw[wrap_i64 (n:=(i:Int)+1) (by omega) (by omega),cN];exact m (i+1) _ q he
 exact main bK 0 1 rfl rfl
end Rb

namespace Rb
open Go
variable{l:List bq}{k:Nat}
theorem Ku(h:k<l.length):aO none 5 (av bq.wk l) (.int .i64 k)=some (dE bq.wk 5 l k):=cK h
theorem Vj{m:bq}(H:Z)(h:l[k]?=some m):∃z,W 0 (dE bq.wk 5 l k)=some z∧O H 1 false z=some (.int .i64 m.kind):=by
 have b:=(X1.1 h).1;refine⟨dE bq.wk 5 l k,?_,?_⟩
 ·simp only[dE,W,abz]
 · have a:=dz (cells:=bq.wk) bq.Ca (by decide) H h;simp only[dE,O]at a ⊢;unfold bT at a ⊢;split at a
   · rename_i c;simp only[aY,Yh.injEq,I.agg.injEq,abz]at a;rw[cY,el];have:(ado 5 (List.drop (k*5) (l.flatMap bq.wk)))[0]?=some (.int .i64 m.kind):=by rw[a];rfl
     rw[List.getElem?_take,kE]at this;exact this
   ·cases a
section
variable{C:Ctx}(hF:fD C)(ak:bP C)(hT:Cl (ai C) S.bu)(gi:∀x,bE (ai C) 96 [.str x] (.bool (eD x)))(hS:ot (ai C))
include ak hT gi
theorem Vk{p:cA}{n k:Int}(r : -9223372036854775808≤k∧k≤9223372036854775807){a0 a b cS cu cB cz cQ c cV d:I}{R:I→I→I→I→I→I→I→I→I→I→I→I→I→I→Z→Prop}{Rr:Z→Prop}{H:Z}
  (i:cZ p n k=([],false)→Rr H) (j:∀m,1≤k→(c7 p n)[(k-1).toNat]?=some m→iG m.kind=true→R a0 (.int .i64 n) (.int .i64 k) a (av bq.wk (c7 p n)) b cS cu cB cz cQ c cV d H) :
  cn (ai C) B2 (dt a0 (.int .i64 n) (.int .i64 k) a (av bq.wk (c7 p n)) b cS cu cB cz cQ c cV d .bot) H (KA R Rr):=by
 rw[Vb];unfold Kt;have f:cZ p n k=([],false)→sO a0 (.int .i64 n) (.int .i64 k) a (av bq.wk (c7 p n)) b cS cu cB cz cQ c cV d R Rr [.bool true] H:=λh=>by unfold sO;simp only[aE,aB,aY];exact⟨trivial,trivial,i h⟩
 have g:cZ p n k=([],false)→sP (ai C) a0 (.int .i64 n) (.int .i64 k) a (av bq.wk (c7 p n)) b cS cu cB cz cQ c cV d R Rr [.bool true] H:=λh=>by unfold sP;simp only[aE,cv,ab0,bR,aR];exact f h
 simp only[bD,eu,cO,D,cv,aR];by_cases h1:k<1
 · rw[ae (by simpa using h1)];exact g (by unfold cZ;rw[aa (.inl h1)])
 · rw [aa (by simpa using h1)];by_cases e:k>((c7 p n).length:Int)
   · rw[show decide (k>((c7 p n).length:Int))=true by simpa using e];exact g (by unfold cZ;rw[aa (.inr e)])
   · rw [show decide (k>((c7 p n).length:Int))=false by simpa using e];unfold sP;simp only[aE,cv,aY,fZ,D];have hi:(k-1).toNat<(c7 p n).length:=by omega
     obtain⟨m,hm⟩:∃m,(c7 p n)[(k-1).toNat]?=some m:=⟨_,YU hi⟩
     rw[bI,show k-1=(((k-1).toNat:Nat):Int) by omega,Ku hi];obtain⟨z,l,o⟩:=Vj H hm;simp only[D,l,o];refine Uh ak hT m.kind _ _ ?_;simp only[dS,D,aR];have q:cZ p n k=if iG m.kind=false then([],false)else match gP (cU p.vars m.pl.var [] m.pl.aC) 1 with
       |none=>([],false)
       | some _=>match fm p.vars (cy 0 p.vars)with
        |none=>([],false)
        |some aS=>((eN (cU p.vars m.pl.var [] m.pl.aC)).map (lP p.vars m.pl aS),true):=by
      unfold cZ;rw[bC,hm]
     cases hw:iG m.kind
     ·exact f (by rw[q,aa hw])
     · unfold sO;simp only[aE,aB,ab2,ZV,bR];exact j m (by omega) hm hw
end
end Rb

namespace Rb
open Go
theorem Kv{p:cA}{n k:Int}{m:bq}(c:1≤k)(a:(c7 p n)[(k-1).toNat]?=some m)(b:iG m.kind=true):cZ p n k=match gP (cU p.vars m.pl.var [] m.pl.aC) 1 with
  |none=>([],false)
  | some _=>match fm p.vars (cy 0 p.vars)with
   |none=>([],false)
   |some aS=>((eN (cU p.vars m.pl.var [] m.pl.aC)).map (lP p.vars m.pl aS),true):=by
 have hi:=(X1.1 a).1;unfold cZ;rw[bC,a];show(if iG m.kind=false then _ else _)=_;rw[ae (by rw[b];decide)]
section
variable{C:Ctx}(hF:fD C)(ak:bP C)(hT:Cl (ai C) S.bu)(gi:∀x,bE (ai C) 96 [.str x] (.bool (eD x)))(hS:ot (ai C))
include hF ak hT gi hS
theorem Vl{p:cA}(hp:p.ok)(hz:∀t∈p.dj,cm t≤100000000000){n k:Int}(N : -9223372036854775808≤k∧k≤9223372036854775807)
  (R:∀m∈c7 p n,iG m.kind=true→m.pl.ok∧m.pl.aC.length≤1000000) (T:c7 p n≠[]→gO p.vars)
  {s c1 c2 c3 w c5 x y z A B X Y:Code} (V:b_ C s J5=true) (h1:b_ C c1 J6=true) (ab:b_ C c2 B2=true) (ac:b_ C c3 J7=true) (ad:b_ C w J8=true) (ae:b_ C c5 J9=true) (ag:b_ C x B3=true) (ah:b_ C y J_=true) (E:b_ C z Ka=true) (h9:b_ C A Kb=true) (ai:b_ C B Kc=true)
  {w0:World} {G0:aG} {a:Act} (hs:h4 C w0 G0 Z.mt (dt (.agg p.cells) (.int .i64 n) (.int .i64 k) .bot .bot .bot .bot .bot .bot .bot .bot .bot .bot .bot .bot) Z.mt G0 a w0) (aj:a.tmps.size=91) {Q:Exit→Act→World→Prop}
  (i:∀ax H' G' a' w',h4 C w0 G0 Z.mt ax H' G' a' w'→a'.tmps.size=91→ax.getD 6 .bot = .aq .nil 0 []→ax.getD 7 .bot = .bool false→cZ p n k=([],false)→Q .ret a' w')
  (al:∀m v aS G' a' w',m∈c7 p n→iG m.kind=true→gP (cU p.vars m.pl.var [] m.pl.aC) 1=some v→fm p.vars (cy 0 p.vars)=some aS →
    cZ p n k=((eN (cU p.vars m.pl.var [] m.pl.aC)).map (lP p.vars m.pl aS),true) →
    h4 C w0 G0 Z.mt (dt (.agg p.cells) (.int .i64 n) (.int .i64 k) (.af p.cells) (av bq.wk (c7 p n)) (.ptr 0 0) (.int .i64 v) (av di (cU p.vars m.pl.var [] m.pl.aC)) (.ptr 1 0) (.int .i64 0) (.ptr 2 0) .bot .bot (.fn 40 [.af [av di (cU p.vars m.pl.var [] m.pl.aC)]]) .bot) (((Z.mt.push (.row m.wk)).push (.row [av u aS])).push (.row [.aq .nil 0 []])) G' a' w'→a'.tmps.size=91→X.wp C.P (Exit.then (Y.wp C.P Q) Q) a' w') :
  ac_ C.P (s.seq (c1.seq (c2.seq (c3.seq (w.seq (c5.seq (x.seq (y.seq (z.seq (A.seq ((B.seq X).seq Y))))))))))) Q a w0:=by
 have am:∀H,O H 2 true (.af p.cells)=some (.agg p.cells):=λ_=>rfl;have F:∀H,O H 1 false (.af p.cells)=some (av U.cells p.vars):=λ_=>rfl;have G:W 0 (.af p.cells)=some (.af p.cells):=rfl;refine wp_seq ?_;refine hs.piece hF aj V (E':=dt (.agg p.cells) (.int .i64 n) (.int .i64 k) (.af p.cells) .bot .bot .bot .bot .bot .bot .bot .bot .bot .bot .bot) (P:=λH'=>H'=Z.mt) (Rr:=λ_=>False) ?_ ?_ λ_ _ _ _ _ _ _ _ _ h=>h.elim
 · rw[U4,show aK Z.mt false 2 (.agg p.cells)=some (.af p.cells,Z.mt) by unfold aK;rw[aa ⟨rfl,rfl⟩];rfl];simp only[aP];exact⟨trivial,trivial⟩
 rintro H1 aQ a1 w1 s1 an rfl;refine wp_seq ?_;refine s1.piece hF an h1 (E':=dt (.agg p.cells) (.int .i64 n) (.int .i64 k) (.af p.cells) (av bq.wk (c7 p n)) .bot .bot .bot .bot .bot .bot .bot .bot .bot .bot) (P:=λH'=>H'=Z.mt) (Rr:=λ_=>False) ?_ ?_ λ_ _ _ _ _ _ _ _ _ h=>h.elim
 · rw[U5];simp only[am,D];exact U3 ak hT gi hp hz n _ _ ⟨rfl,rfl⟩
 rintro H2 aR a2 w2 s2 z2 rfl;refine wp_seq ?_;refine s2.piece hF z2 ab (E':=dt (.agg p.cells) (.int .i64 n) (.int .i64 k) (.af p.cells) (av bq.wk (c7 p n)) .bot .bot .bot .bot .bot .bot .bot .bot .bot .bot) (P:=λH'=>H'=Z.mt∧∃m,1≤k∧(c7 p n)[(k-1).toNat]?=some m∧iG m.kind=true) (Rr:=λ_=>cZ p n k=([],false)) ?_ ?_ i
 ·exact Vk ak hT gi N (λh=>h) λm j b d=>⟨rfl,rfl,m,j,b,d⟩
 rintro aT aU a3 w3 ao z3 ⟨rfl,m,j,b,d⟩;have f:=aaN b;obtain⟨ap,J⟩:=R m f d;have q:=T λe=>by rw[e]at f;cases f
 have c:=Kv j b d;have ar:=(X1.1 b).1;refine wp_seq ?_;refine ao.piece hF z3 ac (E':=dt (.agg p.cells) (.int .i64 n) (.int .i64 k) (.af p.cells) (av bq.wk (c7 p n)) (.ptr 0 0) .bot .bot .bot .bot .bot .bot .bot .bot .bot) (P:=λH'=>H'=Z.mt.push (.row m.wk)) (Rr:=λ_=>False) ?_ ?_ λ_ _ _ _ _ _ _ _ _ h=>h.elim
 · rw[U6];simp only[fZ,D];rw[bI,show k-1=(((k-1).toNat:Nat):Int) by omega,Ku ar];simp only[D];rw[dz bq.Ca (by decide) _ b];simp only[D,aP,aJ,aY];rw[cM _ _ _ 5 m.Ca m.U2 rfl];simp only[D];exact⟨rfl,trivial⟩
 rintro aV aW a4 aX au z4 rfl;refine wp_seq ?_;refine au.piece hF z4 ad (E':=dt (.agg p.cells) (.int .i64 n) (.int .i64 k) (.af p.cells) (av bq.wk (c7 p n)) (.ptr 0 0) (.int .i64 1) .bot .bot .bot .bot .bot .bot .bot .bot) (P:=λH'=>H'=Z.mt.push (.row m.wk)) (Rr:=λ_=>False) ?_ ?_ λ_ _ _ _ _ _ _ _ _ h=>h.elim
 · rw[U7];exact⟨rfl,rfl⟩
 rintro aZ a0 a5 a_ aw z5 rfl;have ay:At (Z.mt.push (.row m.wk)) 0 (.row m.wk):=At.new Z.mt _;refine wp_seq ?_;refine aw.piece hF z5 ae (E':=dt (.agg p.cells) (.int .i64 n) (.int .i64 k) (.af p.cells) (av bq.wk (c7 p n)) (.ptr 0 0) (.int .i64 1) (av di (cU p.vars m.pl.var [] m.pl.aC)) .bot .bot .bot .bot .bot .bot .bot) (P:=λH'=>H'=Z.mt.push (.row m.wk)) (Rr:=λ_=>False) ?_ ?_ λ_ _ _ _ _ _ _ _ _ h=>h.elim
 · rw [U8];have l3:O (Z.mt.push (.row m.wk)) 2 true (.ptr 0 3)=some (.agg m.pl.cells):=by
    rw[ay.load];unfold bq.wk bT;rw[aa (by simp[aM.len]),aa rfl];show some (I.agg (ado 2 m.pl.cells))=_;rw[abM (by rw[aM.len];exact sl _)]
   simp only[G,F,iZ,l3,D];exact Ul ak hT (by have:=q.l;omega) q.o ap J _ _ ⟨rfl,rfl⟩
 rintro ba bb a6 bc az aA rfl;have hlen:(cU p.vars m.pl.var [] m.pl.aC).length≤1000000:=xl (BW _ _ _ _) J;refine wp_seq ?_;refine az.piece hF aA ag (E':=dt (.agg p.cells) (.int .i64 n) (.int .i64 k) (.af p.cells) (av bq.wk (c7 p n)) (.ptr 0 0) (.int .i64 ((gP (cU p.vars m.pl.var [] m.pl.aC) 1).getD 0)) (av di (cU p.vars m.pl.var [] m.pl.aC)) .bot .bot .bot .bot .bot .bot .bot) (P:=λH'=>H'=Z.mt.push (.row m.wk)∧gP (cU p.vars m.pl.var [] m.pl.aC) 1=some ((gP (cU p.vars m.pl.var [] m.pl.aC) 1).getD 0)) (Rr:=λ_=>cZ p n k=([],false)) ?_ ?_ i
 · refine Vi (by omega) (λh=>by rw[c,h]) λv hv=>⟨?_,rfl,?_⟩
   ·rw[hv];rfl
   ·rw[hv];rfl
 rintro bd be a7 bf K aD ⟨rfl,hv⟩;generalize (gP (cU p.vars m.pl.var [] m.pl.aC) 1).getD 0=v at hv K;refine wp_seq ?_;refine K.piece hF aD ah (E':=dt (.agg p.cells) (.int .i64 n) (.int .i64 k) (.af p.cells) (av bq.wk (c7 p n)) (.ptr 0 0) (.int .i64 v) (av di (cU p.vars m.pl.var [] m.pl.aC)) (.ptr 1 0) (.int .i64 (h3 p.vars (cy 0 p.vars) []).2) .bot .bot .bot .bot .bot) (P:=λH'=>H'=(Z.mt.push (.row m.wk)).push (.row [av u (h3 p.vars (cy 0 p.vars) []).1])) (Rr:=λ_=>False) ?_ ?_ λ_ _ _ _ _ _ _ _ _ h=>h.elim
 · rw[U9];simp only[G,F,D];refine T8 ak hT hS q _ _ ?_;simp only[bh,abp,abq,D,aP,aJ,aY];have L:=(At.new (Z.mt.push (.row m.wk)) (.row [.aq .nil 0 []])).st1 (k:=0) (v:=av u (h3 p.vars (cy 0 p.vars) []).1) (by show 0<1;decide) ⟨rfl,rfl,rfl⟩;rw[Z.Hn]at L;rw[L];simp only[D];exact⟨rfl,rfl⟩
 rintro bg bi a8 bj r M rfl;refine wp_seq ?_;rcases JQ p.vars (cy 0 p.vars) []with⟨aS,e1,g⟩|⟨e1,g⟩
 case inr=>refine r.piece hF M E (E':=[]) (P:=λ_=>False) (Rr:=λ_=>cZ p n k=([],false)) ?_ (λ_ _ _ _ _ _ h=>h.elim) i;rw[Kr];simp only[dZ,D,aB];rw[aa (by simpa using g)];exact⟨trivial,trivial,by rw[c,hv];dsimp only;rw[e1]⟩
 rw[acD]at g;rw[g]at r;rw[hv]at c;dsimp only at c;rw[e1]at c;refine r.piece hF M E (E':=dt (.agg p.cells) (.int .i64 n) (.int .i64 k) (.af p.cells) (av bq.wk (c7 p n)) (.ptr 0 0) (.int .i64 v) (av di (cU p.vars m.pl.var [] m.pl.aC)) (.ptr 1 0) (.int .i64 0) .bot .bot .bot .bot .bot) (P:=λH'=>H'=(Z.mt.push (.row m.wk)).push (.row [av u aS])) (Rr:=λ_=>False) ?_ ?_ λ_ _ _ _ _ _ _ _ _ h=>h.elim
 · rw[Kr];simp only[dZ,D,aB];rw[el];first|exact⟨trivial,trivial⟩|exact⟨rfl,trivial⟩|exact⟨trivial,rfl⟩
 rintro bk bl a9 bm aE z9 rfl;refine wp_seq ?_;refine aE.piece hF z9 h9 (E':=dt (.agg p.cells) (.int .i64 n) (.int .i64 k) (.af p.cells) (av bq.wk (c7 p n)) (.ptr 0 0) (.int .i64 v) (av di (cU p.vars m.pl.var [] m.pl.aC)) (.ptr 1 0) (.int .i64 0) (.ptr 2 0) .bot .bot .bot .bot) (P:=λH'=>H'=((Z.mt.push (.row m.wk)).push (.row [av u aS])).push (.row [.aq .nil 0 []])) (Rr:=λ_=>False) ?_ ?_ λ_ _ _ _ _ _ _ _ _ h=>h.elim
 · rw[U_];simp only[aP,aJ,aY];first|exact⟨trivial,trivial⟩|exact⟨rfl,trivial⟩|exact⟨trivial,rfl⟩
 rintro bn bo cS bp aF aH rfl;refine wp_seq ?_;refine wp_seq ?_;refine aF.piece hF aH ai (E':=dt (.agg p.cells) (.int .i64 n) (.int .i64 k) (.af p.cells) (av bq.wk (c7 p n)) (.ptr 0 0) (.int .i64 v) (av di (cU p.vars m.pl.var [] m.pl.aC)) (.ptr 1 0) (.int .i64 0) (.ptr 2 0) .bot .bot (.fn 40 [.af [av di (cU p.vars m.pl.var [] m.pl.aC)]]) .bot) (P:=λH'=>H'=((Z.mt.push (.row m.wk)).push (.row [av u aS])).push (.row [.aq .nil 0 []])) (Rr:=λ_=>False) ?_ ?_ λ_ _ _ _ _ _ _ _ _ h=>h.elim
 · rw[Va];refine S.OS hT ?_;unfold S.f18;rw[show ∀H,aK H false 1 (av di (cU p.vars m.pl.var [] m.pl.aC))=some (.af [av di (cU p.vars m.pl.var [] m.pl.aC)],H)from λ_=>rfl];simp only[aP];first|exact⟨trivial,trivial⟩|exact⟨rfl,trivial⟩|exact⟨trivial,rfl⟩
 rintro br aI cu aL aN aO rfl;exact al m v aS aI cu aL f d hv e1 c aN aO
end
end Rb

namespace Rb
open Go
def aG.jw(G:aG)(fz:Nat→Nat→Prop):aG:={G with fz:=λb o=>G.fz b o∨fz b o}
theorem Rel.jw{C:Ctx}{w:World}{G:aG}{H:Z}(e:cq C w G H)(a:Rel C.F w G H){fz:Nat→Nat→Prop}(f:∀b o,fz b o→∃U,w.cell? ⟨b,o,none⟩=some U)(g:∀b o,fz b o→∀i,(H.o i).live=true→G.loc i≠b) :
  cq C w (G.jw fz) H∧Rel C.F w (G.jw fz) H∧GLe w G w (G.jw fz):=by
 have d:GLe w G w (G.jw fz):=⟨sl _,λ_ _=>rfl,λ_ _=>rfl,λ_ _ h=> .inl h,λ_ _ _ _ h=>h⟩
 refine⟨⟨e.1.mono d,e.2⟩,⟨a.n,a.over,λj=>(a.obj j).aI d (λhl=>a.gu hl) (λ_=>rfl) λhl o c=>?_,a.eW,λb o hf=>?_⟩,d⟩
 · rcases c with c|c
   ·exact c
   ·exact absurd rfl (g _ _ c j hl)
 · rcases hf with hf|hf
   ·exact a.eb b o hf
   ·exact f b o hf
end Rb

namespace Rb
open Go
theorem Vm(n:Int)(r:List Int):(eN (n::r)).length=n.toNat*(eN r).length:=by rw[eN,List.length_flatMap];simp only[aaz];rw[List.map_const',List.sum_replicate_nat,List.length_range]
theorem Cb:∀(l:List Int)(a v:Int),(∀n∈l,1≤n∧n≤65536)→1≤a→a≤4096→gP l a=some v→a.toNat*(eN l).length=v.toNat∧1≤v∧v≤4096
 | [],a,v,_,h1,b,h=>by rw[gP]at h;cases h;exact⟨by simp[eN],h1,b⟩
 | n :: r,a,v,hl,h1,b,h=>by
  obtain⟨n1,n2⟩:=hl n (aap ..);have d:a*n≤4096*n:=adp b (by omega);have p0:1*n≤a*n:=adp h1 (by omega);have hw:B (a*n)=a*n:=bI;rw[gP,hw]at h;by_cases hb:a*n>4096
  ·rw[aa hb]at h;cases h
  · rw[ae hb]at h;obtain⟨e,r1,c⟩:=Cb r (a*n) v (λm hm=>hl m (aao _ hm)) (by omega) (by omega) h;refine⟨?_,r1,c⟩;rw[Vm,←e,Int.toNat_mul (by omega) (by omega),Nat.mul_assoc]
end Rb

namespace Rb
open Go
theorem Vn{C:Ctx}(hF:fD C){ds:List Deferred}{id:Nat}{ops:Array Oper}{al:List bz}{b:Env}{H:Z}{G:aG}{w:World}{a:Act}{K:Env→Z→Prop}{Q:Exit→Act→World→Prop}(c:b_ C (.region id ops false) (.region al)=true)(h:cn (ai C) (.region al) b H (λd e H=>d = .normal∧K e H))(hG:cq C w G H)(f:Rel C.F w G H)(g:aH C.F w G b a.tmps)(i:a.defers=ds)
  (hQ:∀ax H' G' a' w',K ax H'→cq C w' G' H'→Rel C.F w' G' H'→aH C.F w' G' ax a'.tmps→a'.defers=ds→Step w G H w' G' H'→a'.tmps.size=a.tmps.size→Q .normal a' w'):(ada id ops false).wp C.P Q a w:=by
 simp only[b_]at c;refine wp_region_list ?_;exact tB (az:=gw al) (a0:=a) (w0:=w) (G0:=G) (H0:=H) (Q:=Q) (K:=λe H=>ff.normal = .normal∧K e H) hF ops.toList al b H G w a c h hG f g i (Step.refl _ _ _) (c_.refl _ _) (λ_ ht=>ht)
  (λax H' G' a' w' j k l m n o p=>hQ ax H' G' a' w' j.2 k l m n o p.1)
end Rb

namespace Rb
open Go Go.RowKit
variable{G:aG}{H:Z}{l:Nat}{w A B:World}{o:Obj}{F:cx}
def sQ(o:Obj):Prop:=(∃x,o = .loop x)∨∃x,o = .deferred x
theorem xS{i:Nat}{x:bL}(h:eV F w G i x)(hl:x.live=true)(f:w.heap[l]?=some o)(g:sQ o):G.loc i≠l:=by
 intro e;have key:∀a,w.heap[G.loc i]?=some a→sQ a:=λa d=>by rw[e,f]at d;cases d;exact g
 have fin:∀{a:Obj},sQ a→(∀x,a ≠ .loop x)→(∀x,a ≠ .deferred x)→False:=λh h1 j=>by
  rcases h with⟨x,e⟩|⟨x,e⟩
  ·exact h1 _ e
  ·exact j _ e
 cases x with
 |gone=>cases hl
 |row cs=>obtain⟨C,e,hc,_⟩:=h;exact fin (key _ hc) (λ_ h=>by cases h) λ_ h=>by cases h
 |tok n sz=>obtain⟨C,e,hc,_⟩:=h;exact fin (key _ hc) (λ_ h=>by cases h) λ_ h=>by cases h
 |map es=>obtain⟨E,c,hc,_⟩:=h;exact fin (key _ hc) (λ_ h=>by cases h) λ_ h=>by cases h
 |fQ s pos=>exact fin (key _ h.1) (λ_ h=>by cases h) λ_ h=>by cases h
 |h5 T u b=>obtain⟨v,hc,_⟩:=h;exact fin (key _ hc) (λ_ h=>by cases h) λ_ h=>by cases h
 |ki U bs=>obtain⟨C,z,hc,_⟩:=h;exact fin (key _ hc) (λ_ h=>by cases h) λ_ h=>by cases h
theorem Kw(b:Rel F w G H)(c:w.heap[l]?=some o)(d:sQ o):∀k,¬G.fz l k:=by intro k hf;obtain⟨V,a⟩:=b.eb l k hf;unfold abw at a;rw[c]at a;rcases d with⟨x,rfl⟩|⟨x,rfl⟩<;>cases a
theorem xT{C:Ctx}{b:Nat}(d:cq C A G H)(c:Rel C.F A G H)(f:∀k,k<A.heap.size→k≠b→B.heap[k]?=A.heap[k]?)(hb:∀i,(H.o i).live=true→G.loc i≠b)(hz:∀o,¬G.fz b o):cq C B G H∧Rel C.F B G H∧GLe A G B G:=by
 have p:∀a o V,G.fz a o→A.cell? ⟨a,o,none⟩=some V→B.cell? ⟨a,o,none⟩=some V:=λa o V hf hc=>by rw[YJ (w:=A) (f a (YK A _ hc) λe=>hz o (by rw[←e];exact hf))];exact hc
 have m:GLe A G B G:=⟨sl _,λ_ _=>rfl,λ_ _=>rfl,λ_ _ h=>h,p⟩
 refine⟨⟨d.1.mono m,λg l hl q=>?_⟩,⟨c.n,c.over,λj=>(c.obj j).aI m (λhl=>c.gu hl) (λhl=>f _ ((c.obj j).lt hl) (hb j hl)) λ_ _ s=>s,c.eW,λa o hf=>?_⟩,m⟩
 · obtain ⟨⟨cs,t,fr,h1,u⟩,v⟩:=d.2 g l hl q;refine⟨⟨cs,t,fr,?_,u⟩,v⟩;have hv:=d.1 g l hl;cases hv with
   | af cells a o Vs y hv=>
    obtain ⟨x,r,rfl⟩:∃x r,l=x::r:=by cases l with
     |nil=>exact absurd rfl q
     |cons x r=>exact⟨x,r,rfl⟩
    have:=(y 0 x rfl).1;rw[f g (YL.1 h1).1 λe=>hz _ (by rw[←e];exact this)];exact h1
 · obtain⟨V,z⟩:=c.eb a o hf;exact⟨V,p a o V hf z⟩
theorem xU{w0 A B:World}{G0 G:aG}{H0 H:Z}{b:Nat}(hs:Step w0 G0 H0 A G H)(a:GLe A G B G)(c:A.heap.size≤B.heap.size)(d:B.os=A.os)(ht:B.tape=A.tape)(e:B.output=A.output)(f:A.drawn≤B.drawn)(g:∀k,k<A.heap.size→k≠b→B.heap[k]?=A.heap[k]?)(hb:w0.heap.size≤b):Step w0 G0 H0 B G H:=
 { hs.toGLe.trans a with
   size:=xl hs.size c
   os:=d.trans hs.os
   tape:=ht.trans hs.tape
   output:=e.trans hs.output
   dr:=xl hs.dr f
   c8:=λk hk hn=>(g k (AH hk hs.size) (by omega)).trans (hs.c8 k hk hn)
   owned:=hs.owned
   ey:=hs.ey}
theorem Vo{w0 A:World}{G0 G:aG}{H0 H:Z}{fz:Nat→Nat→Prop}(hs:Step w0 G0 H0 A G H)(hf:∀b o,fz b o→G0.fz b o∨w0.heap.size≤b):Step w0 G0 H0 A (G.jw fz) H:=
 { hs with
   fz:=λb o h=> .inl (hs.fz b o h)
   ey:=λb o h=>by
    rcases h with h|h
    ·exact hs.ey b o h
    · rcases hf b o h with h|h
      ·exact .inl h
      ·exact .inr (.inl h)}
structure jM(C:Ctx)(p:cA)(m:bq)(aS:List (Int×Int))(w0:World)(G0:aG)(H0:Z)(E:Env)(T:Array Value)(N b:Nat)(pre:List (List Int))(W:World):Prop where
 ex:∃G H,cq C W G H∧Rel C.F W G H∧mo p.vars m aS 0 1 2 pre H∧aH C.F W G E T∧Step w0 G0 H0 W G H∧(∀i,(H.o i).live=true→G.loc i≠b∧G.loc i<N)∧∀o,¬G.fz b o
 hb:w0.heap.size≤b
 hN:b<N
section
variable{C:Ctx}{p:cA}{m:bq}{aS:List (Int×Int)}{w0:World}{G0:aG}{H0:Z}{E:Env}{T:Array Value}{N b:Nat}{pre:List (List Int)}{W:World}
theorem jM.put(h:jM C p m aS w0 G0 H0 E T N b pre W)(c:Obj)(hB:w0.heap.size≤l)(hl:W.heap[l]?=some o)(d:sQ o):jM C p m aS w0 G0 H0 E T N b pre (W.putObj l c):=by obtain⟨⟨G,H,h1,a,e,f,g,j,n⟩,hb,hN⟩:=h;have hblk:∀k,k<W.heap.size→k≠l→(W.putObj l c).heap[k]?=W.heap[k]?:=λk _ q=>ac4 q;obtain⟨g1,g2,g3⟩:=xT h1 a hblk (λi hi=>xS (a.obj i) hi hl d) (Kw a hl d);exact⟨⟨G,H,g1,g2,e,f.mono g3,xU g g3 (by simp) rfl rfl rfl (sl _) hblk hB,j,n⟩,hb,hN⟩
theorem jM.turn(h:jM C p m aS w0 G0 H0 E T N b pre W){W':World}(ht:mn b W W'):jM C p m aS w0 G0 H0 E T N b pre W':=by obtain⟨⟨G,H,h1,d,f,g,j,a,c⟩,hb,hN⟩:=h;have hblk:∀k,k<W.heap.size→k≠b→W'.heap[k]?=W.heap[k]?:=λk hk l=>ht.1.1.block k hk λe=>l (by cases e;rfl);obtain⟨g1,g2,g3⟩:=xT h1 d hblk (λi hi=>(a i hi).1) c;exact⟨⟨G,H,g1,g2,f,g.mono g3,xU j g3 ht.1.1.size ht.1.1.os ht.1.1.tape ht.1.1.output ht.2 hblk hb,a,c⟩,hb,hN⟩
theorem jM.start(f:cq C w0 G0 H0)(c:Rel C.F w0 G0 H0)(g:mo p.vars m aS 0 1 2 [] H0)(h:aH C.F w0 G0 E T)(a:Below w0.heap.size w0 W)(j:w0.drawn≤W.drawn)(hb:w0.heap.size≤b)(l:b<W.heap.size):jM C p m aS w0 G0 H0 E T W.heap.size b [] W:=by
 have hblk:∀k,k<w0.heap.size→k≠b→W.heap[k]?=w0.heap[k]?:=λk hk _=>a.block k hk;have d:∀i,(H0.o i).live=true→G0.loc i<w0.heap.size:=λi hi=>(c.obj i).lt hi;have hz:∀o,¬G0.fz b o:=λo hf=>by obtain⟨V,n⟩:=c.eb b o hf;have:b<w0.heap.size:=YK w0 _ n;omega
 obtain⟨g1,g2,g3⟩:=xT f c hblk (λi hi e=>by have:=d i hi;omega) hz;have q:=a.size;exact⟨⟨G0,H0,g1,g2,g,h.mono g3,xU (Step.refl _ _ _) g3 a.size a.os a.tape a.output j hblk hb,λi hi=>by have:=d i hi;omega,hz⟩,hb,l⟩
end
theorem h4.Kx{C:Ctx}(hF:fD C){n l:Nat}{w0:World}{G0:aG}{H0:Z}{E:Env}{a:Act}(h:h4 C w0 G0 H0 E H G a w)(f:a.tmps.size=91){b:c0}{c:Code}(hc:b_ C c b=true)(g:qt c)(j:∀t x,b ≠ .freeze t x){E':Nat→Env}{P:Nat→Z→Prop}{Q:Exit→Act→World→Prop}(k:¬LetsOut Q)
  (hk:cn (ai C) b E H (KA (λm o p q u y z A B D F I J K H'=>∃i,dt m o p q u y z A B D F I J K .bot=E' i∧P i H') λ_=>False))
  (hQ:∀i H' G' a' w',h4 C w0 G0 H0 (E' i) H' G' a' w'→a'.tmps.size=91→P i H'→Q .normal a' w'):c.wpIn (ac5.inRound l) n C.P Q a w:=by
 refine h.runIn hF hc hk g k j λL ex ax H' G' a' w' he e hs hz=>?_;cases L with
 |exit i=>exact e.elim
 |ret=>exact e.2.2.elim
 | normal=>cases ex<;>simp only[e9]at he;obtain⟨i,h1,M⟩:=e;have hv:=Kh hs.v (hz.trans f);rw[h1]at hv;exact hQ i H' G' a' w' ⟨hs.x,hs.r,hv,hs.d,hs.s⟩ (hz.trans f) M
section
variable{C:Ctx}(hF:fD C)(ak:bP C)(hT:Cl (ai C) S.bu)
include hF ak hT
theorem jM.round{p:cA}{m:bq}{aS:List (Int×Int)}{w0:World}{G0:aG}{H0:Z}{a c d f g q t u:I}{T:Array Value}{N b:Nat}{pre:List (List Int)}{W:World}
  (U:∀i,(H0.o i).live=true→∃cs,H0.o i = .row cs) (M:Rel C.F w0 G0 H0)
  (h:jM C p m aS w0 G0 H0 (dt a c d (.af p.cells) f (.ptr 0 0) g q (.ptr 1 0) t (.ptr 2 0) .bot .bot u .bot) T N b pre W) (X:T.size=91) (z:b<W.heap.size) {x:List Int} {V:Value} (ha:oy C.F G0.fz N W x #[V])
  (hl:p.vars.length≤1000000) (hv:∀v∈p.vars,v.ok) (Y:m.pl.ok) (aa:aS.length≤9223372036854775806) (ab:pre.length≤100000)
  {c1 c2:Code} (k1:b_ C c1 B4=true) (k2:b_ C c2 B5=true) (d1:qt c1) (d2:qt c2) {S:Nat→Prop} (hS:∀k,S k→∃o,G0.fz k o) {n l:Nat} :
  (Code.block 3 (c1.seq c2)).wpIn (ac5.inRound l) n C.P (λe _ W'=>e = .normal∧J1 W W'∧gQ b W W'∧eF S W W'∧∃N',N'≤W'.heap.size ∧
    jM C p m aS w0 G0 H0 (dt a c d (.af p.cells) f (.ptr 0 0) g q (.ptr 1 0) t (.ptr 2 0) .bot .bot u .bot) T N' b (pre++[x]) W') ⟨(T.setIfInBounds 73 V).setIfInBounds 17 V,[]⟩ W:=by
 obtain⟨⟨G,H,h1,O,ac,Q,A,w,ad⟩,hb,hN⟩:=h;obtain⟨ax,fz,e,y,ae⟩:=ha;cases e;have B:∀k o,G0.fz k o→k<w0.heap.size:=λk o hf=>by obtain⟨V,ag⟩:=M.eb k o hf;exact YK w0 _ ag
 have R:∀k o,G0.fz k o→∀i,(H.o i).live=true→G.loc i≠k:=by intro k o hf i hi e;obtain⟨j,D,E⟩:=A.owned i hi (by rw[e];exact B k o hf);obtain⟨cs,ah⟩:=U j D;have:=M.obj j;rw[ah]at this;obtain⟨_,_,_,_,ai,_⟩:=this;exact ai o (by rw[E,e];exact hf)
 have aj:∀k o,fz k o→∀i,(H.o i).live=true→G.loc i≠k:=by
  intro k o hf i hi e;rcases(y k o hf).1 with h|h
  ·exact R k o h i hi e
  ·have:=(w i hi).2;omega
 obtain⟨g1,g2,g3⟩:=Rel.jw h1 O (λk o hf=>(y k o hf).2) aj;have al:∀o,¬(G.jw fz).fz b o:=by
  intro o hf;rcases hf with hf|hf
  ·exact ad o hf
  · rcases(y b o hf).1 with h|h
    ·have:=B b o h;omega
    ·omega
 have am:Step w0 G0 H0 W (G.jw fz) H:=Vo A λk o hf=>by
  rcases(y k o hf).1 with h|h
  ·exact .inl h
  ·exact .inr (by omega)
 have an:aH C.F W (G.jw fz) (dt a c d (.af p.cells) f (.ptr 0 0) g q (.ptr 1 0) t (.ptr 2 0) (.aq .dead x.length (x.map dx)) .bot u .bot) ((T.setIfInBounds 73 V).setIfInBounds 17 V):=by
  have ao:VR C.F W (G.jw fz) (.aq .dead x.length (x.map dx)) V:=k8 (G:=aG.mt fz) (G':=G.jw fz) (λ_ _ h=> .inr h) (λ_ _ _ _ h=>h) (by
    have:∀l:List Int,I.bA (l.map dx)=true:=by
     intro l;induction l with
     |nil=>rfl
     |cons x r ap=>simp[I.bA,I.a_,dx,ap]
    simp[I.a_,this,Tok.free]) ae
  exact((Q.mono g3).set 73 (.bot V)).set 17 ao
 have ar:h4 C W (G.jw fz) H (dt a c d (.af p.cells) f (.ptr 0 0) g q (.ptr 1 0) t (.ptr 2 0) (.aq .dead x.length (x.map dx)) .bot u .bot) H (G.jw fz) ⟨(T.setIfInBounds 73 V).setIfInBounds 17 V,[]⟩ W:=⟨g1,g2,an,rfl,Step.refl _ _ _⟩
 refine wpIn_block (wpIn_seq ?_);refine ar.Kx hF (by simpa using X) k1 d1 (λ_ _ h=>by cases h) (E':=λi=>dt a c d (.af p.cells) f (.ptr 0 0) g q (.ptr 1 0) t (.ptr 2 0) (.aq .dead x.length (x.map dx)) (.ptr i 0) u .bot) (P:=λi H'=>mo p.vars m aS 0 1 2 pre H'∧At H' i (.row (d_ p.vars m.pl x).cells)∧i≠2) (by rintro⟨_,_,h,_⟩;cases h) ?_ ?_
 ·exact Vg ak hT hl hv Y ac λi H' J K L=>⟨i,rfl,J,K,L⟩
 rintro i H1 ay a1 w1 s1 au ⟨J,K,L⟩;refine s1.Kx hF au k2 d2 (λ_ _ h=>by cases h) (E':=λ_=>dt a c d (.af p.cells) f (.ptr 0 0) g q (.ptr 1 0) t (.ptr 2 0) (.aq .dead x.length (x.map dx)) (.ptr i 0) u .bot) (P:=λ_ H'=>mo p.vars m aS 0 1 2 (pre++[x]) H') (by rintro⟨_,_,h,_⟩;cases h) ?_ ?_
 ·exact Vh ak hT aa ab J K L λH' r1=>⟨0,rfl,r1⟩
 rintro _ H2 av a2 w2 s2 z2 r1;have iR:=s2.s;refine⟨rfl,λk o hk aw=>?_,⟨iR.size,?_⟩,⟨iR.size,λk hk=>?_⟩,w2.heap.size,sl _,⟨av,H2,s2.x,s2.r,r1,?_,am.trans iR,λi hi=>⟨λe=>?_,(s2.r.obj i).lt hi⟩,λo hf=>?_⟩,hb,AH z iR.size⟩
 ·exact(iR.c8 k (YL.1 hk).1 λi hi=>(show G.loc i≠k from xS (O.obj i) hi hk aw)).trans hk
 ·exact iR.c8 b z λi hi=>(w i hi).1
 · obtain⟨o,hf⟩:=hS k hk;exact iR.c8 k (AH (B k o hf) A.size) (R k o hf)
 ·exact(Q.mono g3).mono iR.toGLe
 · obtain⟨j,D,E⟩:=iR.owned i hi (by rw[e];exact z);exact(w j D).1 (E.trans e)
 · rcases iR.ey b o hf with h|h|⟨i,hi,e⟩
   ·exact al o h
   ·omega
   ·exact(w i hi).1 e
end
end Rb

namespace Rb
open Go Go.RowKit Go.Lib Go.Sort Go.Proofs
variable{F:cx}{w:World}{G:aG}{H:Z}{id:Nat}{cs:List I}
def gl(p:Int×Int):List Value:=[.int .i64 p.1,.int .i64 p.2]
theorem qw:∀l:List (Int×Int),(l.flatMap u).length=l.length*2
 |[]=>rfl
 |x::r=>by rw[abk,abI,qw r,abJ];show 2+_=_;omega
theorem Cc:∀(l:List (Int×Int)) (j:Nat) (c:I),(l.flatMap u)[j]?=some c→j<l.length*2∧∃n,c = .int .i64 n∧(gl l.toArray[j/2]!)[j%2]! = .int .i64 n
 |[],j,c,h=>by simp at h
 | x::r,j,c,h=>by
  rw[abk]at h
  match j,h with
  | 0,h=>have h:some (I.int .i64 x.1)=some c:=h;cases h;exact⟨by simp,_,rfl,by simp[gl]⟩
  | 1,h=>have h:some (I.int .i64 x.2)=some c:=h;cases h;exact⟨by simp;omega,_,rfl,by simp[gl]⟩
  | j+2,h=>have h:(r.flatMap u)[j]?=some c:=h;obtain⟨h1,n,a,b⟩:=Cc r j c h;refine⟨by rw[abJ];omega,n,a,?_⟩;rw[Nat.add_div_right j (by decide:0<2),Nat.add_mod_right,←b];congr 2;simp only[Array.getElem!_eq_getD,Zh,YY,abq]
theorem Vp{l:List (Int×Int)}(f:Rel F w G H)(g:H.o id = .row cs)(hc:cs.take (l.length*2)=l.flatMap u):HoldsK gl 2 w (G.loc id) 0 l.toArray∧G.loc id<w.heap.size:=by
 have h:=f.obj id;rw[g]at h;obtain⟨c,e,h1,r,s,i⟩:=h;refine⟨λj b=>?_,(YL.1 h1).1⟩;rw[size_flatK]at b;have d:j<l.length*2:=by simpa using b
 obtain⟨a,ha⟩:∃a,(l.flatMap u)[j]?=some a:=⟨_,YU (by rw[qw];exact d)⟩
 obtain⟨_,n,rfl,hn⟩:=Cc l j a ha;have k:cs[j]?=some (.int .i64 n):=by rw[←ha,←hc,List.getElem?_take_of_lt d]
 obtain⟨V,m,p⟩:=i j _ k;have q:V = .int .i64 n:=by cases p;rfl
 subst q;refine⟨?_,?_⟩
 · rw[get_flatK gl 2 l.toArray j b,hn];simp only[abw,h1,Option.isSome_none,ZV,bR,YO];exact m
 · simp only[World.frozen?,h1];simp
theorem Ky{l l':List (Int×Int)}(p:Rel F w G H)(q:H.o id = .row cs)(hc:cs.take (l.length*2)=l.flatMap u)(hl:l'.length=l.length)(n:Nat)(f:Array Obj) :
  Rel F (sortWorldK gl 2 w (G.loc id) 0 n l'.toArray f) G (H.set id (.row (l'.flatMap u++cs.drop (l.length*2))))∧Step w G H (sortWorldK gl 2 w (G.loc id) 0 n l'.toArray f) G (H.set id (.row (l'.flatMap u++cs.drop (l.length*2)))):=by
 have h:=p.obj id;rw[q]at h;obtain⟨c,e,h1,x,r,s⟩:=h;have B:=(YL.1 h1).1;have hlen:l.length*2≤cs.length:=by have:=congrArg acL hc;rw[ab3,qw]at this;omega
 have ht:jU w (putRowK gl 2 (adq w n) (G.loc id) 0 l'.toArray) (G.loc id):=
  ⟨by simp[putRowK,putRow,mapBlock,adq],λk hk=>by simp[putRowK,putRow,mapBlock,adq,YQ,Ne.symm hk],rfl,rfl,rfl,adn _ _⟩
 have hb:(putRowK gl 2 (adq w n) (G.loc id) 0 l'.toArray).heap[G.loc id]?=some (.cells (putCells _root_.id 0 (flatK gl 2 l'.toArray) c) e (0,0)):=by show((adq w n).heap.modify (G.loc id) _)[G.loc id]?=_;rw[YQ,aa rfl];show(w.heap[G.loc id]?).map _=_;rw[h1];rfl
 obtain ⟨r1,s1⟩:=p.write (i:=id) (by rw[q];rfl) r ht (.row (l'.flatMap u++cs.drop (l.length*2))) rfl λy=>by
  refine⟨_,e,hb,by simp[putCells,x],r,λj a b=>?_⟩;have d:(flatK gl 2 l'.toArray).size=l.length*2:=by rw[size_flatK];simp[hl]
  by_cases t:j<l.length*2
  · rw [List.getElem?_append_left (by rw[qw,hl];exact t)]at b;obtain⟨_,m,rfl,hm⟩:=Cc l' j a b;have z:j<c.size:=by
     obtain⟨V,g,_⟩:=s j _ (YU (show j<cs.length by omega));exact(YL.1 g).1
    refine⟨.int .i64 m,?_,.int _ _⟩;simp only[putCells,adr];rw[X2 z,Yi,aa (by rw[d];omega),Nat.sub_zero,get_flatK gl 2 l'.toArray j (by rw[size_flatK]at d;rw[d];exact t),hm];rfl
  · rw[ZF (by rw[qw,hl];omega),qw,hl,List.getElem?_drop,show l.length*2+(j-l.length*2)=j by omega]at b;obtain⟨V,g,A⟩:=s j a b;refine⟨V,?_,A.mono y⟩;simp only[putCells,adr];rw[g,Yi,ae (by rw[d];omega)]
 have v:Below (putRowK gl 2 (adq w n) (G.loc id) 0 l'.toArray).heap.size (putRowK gl 2 (adq w n) (G.loc id) 0 l'.toArray) (sortWorldK gl 2 w (G.loc id) 0 n l'.toArray f):=by refine⟨rfl,rfl,rfl,by simp[sortWorldK,grow],λk hk=>?_⟩;simp only[sortWorldK,grow];rw[ads hk]
 exact⟨QY v r1,s1.trans (QZ v (sl _) r1)⟩
def mq(x y:Int×Int):Int:=if x.1<y.1 then -1 else if x.1>y.1 then 1 else if x.2<y.2 then -1 else if x.2>y.2 then 1 else 0
theorem sS(x y:Int×Int):ltOf mq x y=decide (x.1<y.1∨(x.1=y.1∧x.2<y.2)):=by
 unfold ltOf mq;apply decide_eq_decide.2
 repeat' split
 all_goals omega
theorem Vq:SWO (ltOf mq) where
 irrefl x:=by rw[sS];simp
 trans x y z h1 a:=by rw[sS]at *;simp at *;omega
 ntrans x y z h1 a:=by rw[sS]at *;simp at *;omega
theorem Vr(x y:Int×Int)(a:ltOf mq x y=false)(b:ltOf mq y x=false):x=y:=by rw[sS]at *;simp at *;exact acX (by omega) (by omega)
theorem Vt(l:List (Int×Int)):(l.mergeSort λx y=>!(ltOf mq) y x)=ef l:=by unfold ef;congr 1;funext x y;rw[sS]
end Rb

namespace Rb
open Go Go.RowKit
theorem ai.flat{C:Ctx}(ak:bP C){key:Nat}{args:List I}{f:FuncId}{v:I}{w:World}{G:aG}{H:Z}{Vs:Array Value}(hf:C.F key=some f)(ha:I.bA args=true)(A:v.a_=true)(hG:cq C w G H)(d:Rel C.F w G H)(u:aH C.F w G args Vs)
  (h:∀Q:ad,(∀H',Q v H')→ai C key args Z.mt Q):Calls C.P f Vs w λe w'=>∃V G',e = .returned V∧VR C.F w' G' v V∧cq C w' G' H∧Rel C.F w' G' H∧GLe w G w' G'∧Below w.heap.size w w'∧∃q os,w'=Go.Sort.grow (w.drewN q) os:=by
 have B:Rel C.F w (aG.mt G.fz) Z.mt:=Rel.mt d.eb;have D:aH C.F w (aG.mt G.fz) args Vs:=⟨u.1,λj c V hc t=>k8 (G:=G) (G':=aG.mt G.fz) (w:=w) (λ_ _ h=>h) (λ_ _ _ _ h=>h) (mJ ha j c hc) (u.2 j c V hc t)⟩
 have E:jb C w (aG.mt G.fz):=λg l p=>k8 (G:=G) (G':=aG.mt G.fz) (w:=w) (λ_ _ h=>h) (λ_ _ _ _ h=>h) (by simp only[I.a_];exact ak g l p) (hG.1 g l p);refine Calls.mono ((h (λx _=>x=v) (λ_=>rfl)).2 f hf _ w Vs (hG.mt E λi hi=>by cases hi) B D) λe w' he=>?_;obtain⟨V,x,H',G',rfl,rfl,hv,J,m⟩:=he;have hb:=m.below;have T:=m.dr;have y:∀b o,G'.fz b o→G.fz b o∨w.heap.size≤b:=by
  intro b o hz;rcases m.ey b o hz with h|h|⟨i,hi,_⟩
  ·exact .inl h
  ·exact .inr h
  ·cases hi
 let r:aG:={G with fz:=λb o=>G.fz b o∨G'.fz b o}
 have z:∀b o V,G.fz b o→w.cell? ⟨b,o,none⟩=some V→w'.cell? ⟨b,o,none⟩=some V:=λb o V hf hc=>by rw[YJ (w:=w) (hb.block b (YK w _ hc))];exact hc
 have p:GLe w G w' r:=⟨sl _,λ_ _=>rfl,λ_ _=>rfl,λ_ _ h=> .inl h,z⟩
 have K:Rel C.F w' r H:=by
  refine⟨d.n,d.over,λj=>(d.obj j).aI p (λhl=>d.gu hl) (λhl=>hb.block _ ((d.obj j).lt hl)) λhl o s=>?_,d.eW,λb o hf=>?_⟩
  · rcases s with s|s
    ·exact s
    · rcases y _ _ s with h|h
      ·exact h
      ·exact absurd ((d.obj j).lt hl) (by omega)
  · rcases hf with hf|hf
    · obtain⟨V,t⟩:=d.eb b o hf;exact⟨V,z b o V hf t⟩
    ·exact J.eb b o hf
 have L:Step w G H w' r H:={p with
     size:=m.size,os:=m.os,tape:=m.tape,output:=m.output,dr:=m.dr,c8:=λk hk _=>hb.block k hk,owned:=λi hi _=>⟨i,hi,rfl⟩
     ey:=λb o hf=>by
      rcases hf with hf|hf
      ·exact .inl hf
      · rcases y b o hf with h|h
        ·exact .inl h
        ·exact .inr (.inl h)}
 refine⟨V,r,rfl,k8 (G:=G') (G':=r) (w:=w') (λ_ _ h=>Or.inr h) (λ_ _ _ _ h=>h) A hv,hG.step L,K,p,hb,w'.drawn-w.drawn,w'.heap.extract w.heap.size w'.heap.size,?_⟩;have M:w'.heap=w.heap++w'.heap.extract w.heap.size w'.heap.size:=by
  apply Array.ext_getElem?;intro k;by_cases hk:k<w.heap.size
  ·rw[ads hk];exact hb.block k hk
  · rw[Array.getElem?_append_right (by omega),Array.getElem?_extract];have hs:=hb.size;split
    ·rw[show w.heap.size+(k-w.heap.size)=k by omega]
    ·exact Array.getElem?_eq_none (by omega)
 have key:∀a b:World,a.heap=b.heap→a.tape=b.tape→a.drawn=b.drawn→a.os=b.os→a.output=b.output→a=b:=by rintro⟨_,_,_,_,_⟩ ⟨_,_,_,_,_⟩ h1 N O R S;cases h1;cases N;cases O;cases R;cases S;rfl
 exact key _ _ M hb.tape (by show w'.drawn=w.drawn+(w'.drawn-w.drawn);omega) hb.os hb.output
end Rb
