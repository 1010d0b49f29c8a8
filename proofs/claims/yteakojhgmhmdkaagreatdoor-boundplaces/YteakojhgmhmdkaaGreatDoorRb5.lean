/- A part of the proof (part 5): see the last text. -/
import Derived.Test.YteakojhgmhmdkaaGreatDoorRb4
import Derived.Test.YteakojhgmhmdkaaGreatDoorRb1
import Derived.RangeFuncBox
import Derived.RangeFuncCalls
import Derived.RangeFuncNested
import Derived.Test.YteakojhgmhmdkaaGreatDoorRb2
import Derived.Test.YteakojhgmhmdkaaGreatDoorRb3
import Derived.Test.YteakojhgmhmdkaaGreatDoorRows
import Derived.KernelRfl
import Derived.WalkKit
import Derived.OwnWalkIn
import Derived.TacticsInMore
import Derived.LoopNIn
import Derived.LoopIn
import Derived.RangeFuncLeaves
import Derived.RangeFuncBound
import Derived.BigRegionIn
set_option linter.unusedVariables false
set_option linter.unusedSimpArgs false
set_option linter.unusedSectionVars false
open Array renaming getD_eq_getD_getElem?→Zb, getElem?_eq_some_iff→YF
open Bool renaming and_eq_true→X1, and_false→acX, and_true→ack, false_and→acW, false_eq_true→ZP, false_or→aac, not_true→abW, true_and→abb, true_eq_false→abU, true_or→acY
open Go.Callee renaming value→ac9
open Go.Code renaming region→ac8, rounds→ac6, wp→ac7
open Go.Exit renaming normal→adj
open Go.Fence renaming inRound→adg, wide→ac3
open Go.Ground renaming data→ada
open Go.IntKind renaming wrap→Y6
open Go.Op renaming defer→adh
open Go.Oper renaming uponIn→adf, upon→ade, wpIn→adi, wp→Z2
open Go.Operand renaming tmp→ac_
open Go.Region renaming ready→aaz, wanted→aao
open Go.World renaming alloc_heap_new→ac4, block_lt_of_cell?→YE, cell?_of_block→YD, putObj_heap_other→ac2, putObj_heap_same→ac5
open Int renaming le_refl→ab_, mul_add→ace, mul_comm→ab6, mul_le_mul_of_nonneg_left→acS, mul_le_mul_of_nonneg_right→adl, mul_nonneg→acf, mul_one→acT, toNat_natCast→Y7
open List renaming append_assoc→acC, append_nil→abK, cons_append→ZS, drop_eq_getElem_cons→abE, drop_of_length_le→ac1, drop_succ_cons→aaW, drop_zero→abt, eq_nil_of_length_eq_zero→acH, exists_cons_of_length_eq_add_one→adb, flatMap_append→acB, flatMap_cons→abe, flatMap_singleton→acN, foldl_cons→Yv, getD_eq_getElem?_getD→Zg, getElem?_append_right→Zz, getElem?_append→Yk, getElem?_cons_succ→abk, getElem?_cons_zero→abj, getElem?_eq_getElem→YO, getElem?_eq_some_iff→XV, getElem?_map→YN, getElem?_replicate→aaD, length_append→abC, length_cons→abD, length_eq_one_iff→abZ, length_eq_zero_iff→Zi, length_map→aat, length_take→abX, length→acF, map_append→acs, map_map→aaO, mem_append_left→acP, mem_append_right→acO, mem_append→aaa, mem_cons_of_mem→aai, mem_cons_self→aaj, mem_cons→aah, mem_flatMap→acQ, mem_of_getElem?→aaH, mem_range'_1→acR, mem_singleton→acL, nil_append→acx, range'_succ→acZ, range'→ZJ, range→YM, replicate→XS, set_append→ac0, take_add_one→abL, take_append_drop→acJ, take_append_of_le_length→abF, take_of_length_le→abG, take→adk
open Nat renaming add_comm→abB, add_zero→Yx, le_refl→sl, le_succ→YB, le_trans→xl, lt_irrefl→acM, lt_of_lt_of_le→AH, lt_succ_self→aaJ, mul_one→acm, ne_of_lt→YG, one_pos→acU, sub_self→acA, zero_add→YI, zero_le→Yt
open Option renaming some→Yb
open Prod renaming fst→abg, snd→acV
namespace Rb
open Go
theorem BR{tk:Tok}{l:List (Int×Int)}{i:Nat}{p:Int×Int}(h:l[i]?=some p)(H:Z):∃a,aP none 2 (.ak tk l.length (l.flatMap en)) (.int .i64 i)=some a∧O H 2 true a=some (.agg (en p)):=⟨_,cQ (cells:=en) (XV.1 h).1,dD (cells:=en) (λ_=>rfl) (by decide) H h⟩
theorem Left.ext{n0:Nat}{H0 H H':Z}(hn:H0.n=n0)(E:Z.Ext H0 H)(lf:Left n0 H H'):Z.Ext H0 H':=⟨xl E.1 lf.1,λi hi=>((lf.2 i (H.o i) ⟨AH hi E.1,rfl⟩ (.inl (by omega))).2).trans (E.2 i hi)⟩
def dc(s:be)(b al:Int):List I:=s.cells++[.int .i64 b,.int .i64 al]
section
variable{s:be}{b al:Int}
theorem BS(H:Z):aO H false 8 (.agg (dc s b al))=some (.ae (dc s b al),H):=rfl
theorem xw:W 0 (.ae (dc s b al))=some (.ae (dc s b al)):=rfl
theorem TP(H:Z):O H 1 false (.ae (dc s b al))=some (.int .i64 s.at_):=rfl
theorem TQ(H:Z):O H 2 true (.ae (dc s b al))=some (.agg [.int .i64 s.at_,.int .i64 s.len]):=rfl
theorem JH(H:Z):O H 8 true (.ae (dc s b al))=some (.agg (dc s b al)):=rfl
theorem TR(H:Z):∃p,W 1 (.ae (dc s b al))=some p∧∀H:Z,O H 1 false p=some (.int .i64 s.len):=⟨_,rfl,λ_=>rfl⟩
theorem TS(H:Z):∃p,W 6 (.ae (dc s b al))=some p∧∀H:Z,O H 1 false p=some (.int .i64 b):=⟨_,rfl,λ_=>rfl⟩
theorem TU(H:Z):∃p,W 7 (.ae (dc s b al))=some p∧∀H:Z,O H 1 false p=some (.int .i64 al):=⟨_,rfl,λ_=>rfl⟩
end
section
variable{C:Ctx}(aj:bN C)(hT:Cl (af C) S.bu){H:Z}{Q:ad}
include aj hT
theorem JI{s:be}{b al:Int}(G:P2 al)(hl:s.len≤16)(hQ:∀l x H',Z.Ext H H'→JG x l→(∀p∈l,P8 p.2)→l.length≤16→Q x H'):af C 198 [.agg (dc s b al)] H Q:=by
 refine S.QD hT ?_;unfold S.f198;obtain⟨V,f1,g1⟩:=TR (s:=s) (b:=b) (al:=al) H;obtain⟨X,f6,g6⟩:=TS (s:=s) (b:=b) (al:=al) H;obtain⟨Y,f7,g7⟩:=TU (s:=s) (b:=b) (al:=al) H;simp only[BS,aR,f6,g6,T,cI,aD,xw,TQ];apply aI<;>intro _
 · refine TO aj hT hl λl x H1 J o hp hc=>?_;obtain⟨tk,rfl⟩:=o;simp only[show bp false (.ak tk l.length (l.flatMap en))=some (.int .i64 l.length)from rfl,T];have main:∀(r:List (Int×Int)) (i:Nat) (H2:Z) (y:I) (d:List (Int×Int)),l.drop i=r→d.length=i→i≤l.length→Z.Ext H H2→cC H.n H2 2 y d.length (d.flatMap en)→(∀p∈d,P8 p.2) →
     aC (S.vX (af C) (.ae (dc s b al)) (.ak tk l.length (l.flatMap en)) (.int .i64 l.length) Q) ([y,.int .i64 i],H2):=by
    intro r;induction r with
    | nil=>intro i H2 y d v he K c f g;have hle:=er v;refine aC.step ?_;simp only[S.vX,aF,c4,bD,T,aD];rw[ee];obtain⟨w,e,_⟩:=f;exact hQ d y H2 c ⟨w,e⟩ g (by omega)
    | cons p r z=>
     intro i H2 y d v he K c f g;obtain⟨aa,o,L⟩:=ed v;obtain⟨a,e1,M⟩:=BR (tk:=tk) o H2;refine aC.step ?_;simp only[S.vX,aF,c4,bD,T,aD];rw[dW];simp only[e1,M,T,aR,aL,a_];rw[cS _ _ _ 2 rfl rfl rfl];have E:=At.new H2 (.row (en p));have F:=c.trans (Z.Ext.push H2 (.row (en p)));have N:=f.frame (H':=H2.push (.row (en p))) (λt _ _ h=>h.push _);generalize H2.push (.row (en p))=u at *;have m0:O u 1 false (.ptr H2.n 0)=some (.int .i64 p.1):=by rw[E.load];rfl
     have m1:O u 1 false (.ptr H2.n 1)=some (.int .i64 p.2):=by rw[E.load];rfl
     simp only[T,show ∀k:Nat,W k (.ptr H2.n 0)=some (.ptr H2.n (0+k))from λ_=>rfl,YI,m0,m1,xw,TP,fO];rw[show bo [.int .i64 0,.int .i64 0] [(0,1,.int .i64 (Y6 .i64 (p.1-s.at_))),(1,1,.int .i64 p.2)]=some (.agg (en (Y6 .i64 (p.1-s.at_),p.2)))from rfl];simp only[T];rw[show dk u false 2 1 [.int .i64 0,.int .i64 0] [(0,2,.agg (en (Y6 .i64 (p.1-s.at_),p.2)))]=some (.ak .full 1 (en (Y6 .i64 (p.1-s.at_),p.2)),u)from rfl];simp only[aR];refine N.app F.1 (m:=1) (news:=en (Y6 .i64 (p.1-s.at_),p.2)) rfl rfl rfl (by decide) (by omega) (by omega) λy4 A B lf=>?_;simp only[b4,T];rw[bH,cN];refine z (i+1) A y4 (d++[(Y6 .i64 (p.1-s.at_),p.2)]) L (by simp[he]) (by omega) (lf.ext rfl F) ?_ (λq D=>?_)
     ·rw[abC,acB,acN];exact B
     · rcases aaa.1 D with h|h
       ·exact g q h
       ·rw[acL.1 h];exact hp p (aaH o)
   exact main l 0 H1 _ [] rfl rfl (Yt _) J (cC.nil _ _ _) (λp hp=>by cases hp)
 · have loop : ∀(n:Nat)(a:Int)(y:I)(d:List (Int×Int)) (H2:Z),(s.len-a).toNat=n→0≤a→a≤16→Z.Ext H H2→cC H.n H2 2 y d.length (d.flatMap en)→(∀p∈d,P8 p.2)→(d.length:Int)≤a →
       aC (S.vY (af C) (.ae (dc s b al)) Q) ([y,.int .i64 a],H2):=by
     intro n;induction n using Nat.strongRecOn with
     | _ n z =>
      intro a y d H2 hn ab iX c f g ac;refine aC.step ?_;simp only[S.vY,xw,f1,g1,f7,g7,T,bD,aD,aF,c4];apply aI<;>intro e
      · have ad:a<s.len:=by simpa using e
        obtain ⟨m,hm,ag,em⟩:∃m,P2 m∧m≤8∧fy false [.int .i64 al,.int .i64 8]=some (.int .i64 m):=by
         rcases G with rfl|rfl|rfl|rfl|rfl
         ·exact⟨1,.inl rfl,by decide,rfl⟩
         ·exact⟨2,.inr (.inl rfl),by decide,rfl⟩
         ·exact⟨4,.inr (.inr (.inl rfl)),by decide,rfl⟩
         ·exact⟨8,.inr (.inr (.inr (.inl rfl))),by decide,rfl⟩
         ·exact⟨8,.inr (.inr (.inr (.inl rfl))),by decide,rfl⟩
        simp only[em,T];refine BQ aj hT hm λr j ah=>?_;have inner:∀r,P2 r→(r≤8→aC (S.Ab (af C) (.ae (dc s b al)) ([y,.int .i64 a],H2) (aC (S.vY (af C) (.ae (dc s b al)) Q)) Q) ([.int .i64 r],H2)):=by
         refine P2.ind λr j P hle=>aC.step ?_;simp only[S.Ab,xw,f1,g1,T,fO,ej,aD,aF,c4,aT];rw[bH];apply aI<;>intro e
         · have h1:1<r:=by have:s.len-a<r:=(by simpa using e);omega
           obtain⟨_,ai,R⟩:=j.half h1;rw[R];simp only[T];exact P h1 (by omega)
         · have am:r≤s.len-a:=by simpa using e
           have dC:=j.pos;have U:P8 r:=by unfold P2 at j;unfold P8;omega
           unfold S.Hc;simp only[aF,c4];rw[show bo [.int .i64 0,.int .i64 0] [(0,1,.int .i64 a),(1,1,.int .i64 r)]=some (.agg (en (a,r)))from rfl];simp only[T];rw[show dk H2 false 2 1 [.int .i64 0,.int .i64 0] [(0,2,.agg (en (a,r)))]=some (.ak .full 1 (en (a,r)),H2)from rfl];simp only[aR];refine f.app c.1 (m:=1) (news:=en (a,r)) rfl rfl rfl (by decide) (by omega) (by omega) λy4 A B lf=>?_;simp only[b4,T];rw[bH];refine z (s.len-(a+r)).toNat (by omega) (a+r) y4 (d++[(a,r)]) A rfl (by omega) (by omega) (lf.ext rfl c) ?_ (λq D=>?_) (by rw[abC,List.length_singleton];omega)
           ·rw[abC,acB,acN];exact B
           · rcases aaa.1 D with h|h
             ·exact g q h
             ·rw[acL.1 h];exact U
        exact inner r j (by omega)
      · obtain⟨w,e,_⟩:=f;exact hQ d y H2 c ⟨w,e⟩ g (by omega)
   exact loop _ 0 _ [] H rfl (ab_ _) (by decide) (Z.Ext.refl _) (cC.nil _ _ _) (λp hp=>by cases hp) (by decide)
end
end Rb

namespace Rb
open Go
theorem bC.jM{id:Nat}{vars:List B}{wh F:I}{c:LD}{H0 H:Z}{P:I→Z→Prop}{a cs:List I}{N:Nat}(h:bC H id vars wh F c)(b:KR id H0 H)(hz:a.length=N)(hc:cs.length=N)(hs:cs.all I.scalar=true)(d:∀j H',KR id H H'→bC H' id vars wh F c→Bx H0 id F H' j N cs→H.n≤j→P (.ptr j 0) H') :
  ar (some (aL H true a)) λx H1=>Do (Y H1 N x (.agg cs)) λH2=>P x H2:=by
 simp only[aL,a_,aR];rw[cS _ _ _ N hc hs hz];simp only[T];exact d _ _ (KR.ext (Z.Ext.push _ _)) (h.ext (Z.Ext.push _ _)) (h.box b hc) (sl _)
section
variable{C:Ctx}(aj:bN C)(hT:Cl (af C) S.bu){id:Nat}{vars:List B}{wh F:I}{c:LD}{H0 H:Z}{Q:ad}{w:Nat}
include aj hT
theorem JJ(h:bC H id vars wh F c)(hb:BD c (w+64)){s:be}{b al a st:Int}(X:P2 al)(hl:s.len≤16)(ha:di c.bn a)(hs:1≤st∧st≤(c.sn:Nat))(hQ:EX id vars wh F H c 64 [] Q):af C 154 [.ptr id 0,.agg (dc s b al),.int .i64 a,.int .i64 st] H Q:=by
 refine S.Qi hT ?_;unfold S.f154;simp only[BS,aR,JH,T];refine JI aj hT X hl λl x H1 G e hp hc=>?_;obtain⟨tk,rfl⟩:=e;simp only[show bp false (.ak tk l.length (l.flatMap en))=some (.int .i64 l.length)from rfl,T];have main:∀(r:List (Int×Int)) (i:Nat) (H2:Z) (c2:LD) (o:Int),l.drop i=r→i≤l.length→KR id H H2→bC H2 id vars wh F c2→GE c c2 (4*i) []→di c2.bn o →
   aC (S.vD (af C) (.ptr id 0) (.int .i64 a) (.int .i64 st) (.ak tk l.length (l.flatMap en)) (.int .i64 l.length) Q) ([.int .i64 o,.int .i64 i],H2):=by
  intro r;induction r with
  | nil=>intro i H2 c2 o g Y k2 n g2 t;have hle:=er g;refine aC.step ?_;simp only[S.vD,aF,c4,bD,T,aD];rw[ee];exact hQ o c2 H2 k2 n (g2.mono (by omega) rfl) t
  | cons p r I=>
   intro i H2 c2 o g Y k2 n g2 t;obtain⟨aV,e,J⟩:=ed g;obtain⟨q,e1,aa⟩:=BR (tk:=tk) e H2;have u:BD c2 (w+4):=g2.bd (m:=w+4) (hb.mono (by omega));refine aC.step ?_;simp only[S.vD,aF,c4,bD,T,aD];rw[dW];simp only[e1,aa,T];refine n.jM k2 (cs:=en p) rfl rfl rfl λjp aW f ab K _=>?_;replace f:=k2.trans f;refine jL aj hT ab f λj aX L ac ad aY=>?_;have v:=K.aJ L;have d:jp≠j:=by have:=K.a.1;omega
   have ae:=f.trans L;simp only[show ∀k:Nat,W k (.ptr jp 0)=some (.ptr jp (0+k))from λ_=>rfl,show ∀k:Nat,W k (.ptr j 0)=some (.ptr j (0+k))from λ_=>rfl,YI,T,v.ld (k:=0) rfl,v.ld (k:=1) rfl,j8];refine ou aj hT ac (w:=w+3) u λaZ y ag=>?_;have z:=v.aJ y;refine⟨z.ld rfl,z.ld rfl,?_⟩;refine(ad.aJ y).st ag (ae.trans y) (by decide) One.int λa0 ah ai am an=>?_;have B:=an _ _ _ d z;refine⟨B.ld rfl,B.ld rfl,?_⟩;refine am.st ai ah (by decide) One.int λa1 ao ap aq ar=>?_;have D:=ar _ _ _ d B;refine⟨D.ld rfl,D.ld rfl,?_⟩;refine aq.st ap ao (by decide) One.int λa2 au av aw ax=>?_;have M:=ax _ _ _ d D;refine⟨M.ld rfl,?_⟩;refine aw.st av au (by decide) One.int λa3 ay h9 az aA=>?_;have aB:=aA _ _ _ d M;refine az.st h9 ay (by decide) One.int λa4 N aE O aG=>?_;have aH:=aG _ _ _ d aB;rw[O.all];simp only[T];have hA:=u.A;refine jt aj hT aE (by show c2.A.length≤_;omega) ⟨4,c2.bn,-1,a,-1,-1,Y6 .u64 p.1,0,p.2,0,0,st,0⟩ λa5 kb aK=>?_;have aL:=aH.aJ kb;rw[(O.aJ kb).ld (k:=1) rfl];simp only[T,aL.ld (k:=0) rfl,jF,j8];have s0:=g2.s0;have r0:=g2.r0;have E:GE c2 (LD.add {c2 with bn:=c2.bn+1} ⟨4,c2.bn,-1,a,-1,-1,Y6 .u64 p.1,0,p.2,0,0,st,0⟩) 1 []:=
    GE.BM (iZ (by decide) (by decide) (ju (aaJ _)) ch (ha.mono (by omega)) ch ch (.inr (.inr ⟨hs.1,by omega⟩)) (.inr (.inr (hp p (aaH e))))) (kM (.inl (by decide)))
   have P:=E.bd (m:=w+3) (u.mono (by omega));refine mq aj hT aK (w:=w+1) P _ _ (ju (aaJ _)) λr1 c5 aM R U gc rc=>?_;simp only[cI,T,aD];have V:=(g2.trans E).trans gc;apply aI<;>intro _
   · simp only[aT,S.vC,aF,c4,b4,T];rw[bH,cN];exact I (i+1) aM c5 r1 J (by omega) ((N.trans kb).trans R) U (V.mono (by omega) rfl) rc
   · refine sv aj hT U (w:=w) (gc.bd (m:=w+1) (P.mono (by omega))) _ ((t.mono E.r0).mono gc.r0) rc λaN aO aP aQ aS aU rd=>?_;simp only[aT,S.vC,aF,c4,b4,T];rw[bH,cN];exact I (i+1) aP aO aN J (by omega) (((N.trans kb).trans R).trans aQ) aS ((V.trans aU).mono (by omega) rfl) rd
 exact main l 0 H1 c (-1) rfl (Yt _) (KR.ext G) (h.ext G) (GE.refl c) ch
theorem TV(h:bC H id vars wh F c)(hb:BD c (w+48)){s:be}{b al a st x:Int}(G:P2 al)(hl:s.len≤16)(ha:di c.bn a)(I:di c.bn x)(hs:1≤st∧st≤(c.sn:Nat))(hQ:EU id vars wh F H c 48 [] Q):af C 157 [.ptr id 0,.agg (dc s b al),.int .i64 a,.int .i64 x,.int .i64 st] H Q:=by
 refine S.Ql hT ?_;unfold S.f157;simp only[BS,aR,JH,T];refine JI aj hT G hl λl y H1 u d hp hc=>?_;obtain⟨tk,rfl⟩:=d;simp only[show bp false (.ak tk l.length (l.flatMap en))=some (.int .i64 l.length)from rfl,T];have main:∀(r:List (Int×Int)) (i:Nat) (H2:Z) (c2:LD),l.drop i=r→i≤l.length→KR id H H2→bC H2 id vars wh F c2→GE c c2 (3*i) [] →
   aC (S.vF (af C) (.ptr id 0) (.int .i64 a) (.int .i64 x) (.int .i64 st) (.ak tk l.length (l.flatMap en)) (.int .i64 l.length) Q) ([.int .i64 i],H2):=by
  intro r;induction r with
  | nil=>intro i H2 c2 g J k2 n g2;have hle:=er g;refine aC.step ?_;simp only[S.vF,aF,bD,T,aD];rw[ee];exact hQ c2 H2 k2 n (g2.mono (by omega) rfl)
  | cons p r K=>
   intro i H2 c2 g J k2 n g2;obtain⟨aA,d,L⟩:=ed g;obtain⟨q,e1,M⟩:=BR (tk:=tk) d H2;have v:BD c2 (w+3):=g2.bd (m:=w+3) (hb.mono (by omega));refine aC.step ?_;simp only[S.vF,aF,bD,T,aD];rw[dW];simp only[e1,M,T];refine n.jM k2 (cs:=en p) rfl rfl rfl λjp aB e N z _=>?_;replace e:=k2.trans e;refine jL aj hT N e λj aE B O P aG=>?_;have o:=z.aJ B;have f:jp≠j:=by have:=z.a.1;omega
   have R:=e.trans B;simp only[show ∀k:Nat,W k (.ptr jp 0)=some (.ptr jp (0+k))from λ_=>rfl,show ∀k:Nat,W k (.ptr j 0)=some (.ptr j (0+k))from λ_=>rfl,YI,T,o.ld (k:=0) rfl,o.ld (k:=1) rfl,j8];refine P.st O R (by decide) One.int λaH U V X Y=>?_;have t:=Y _ _ _ f o;refine⟨t.ld rfl,t.ld rfl,?_⟩;refine X.st V U (by decide) One.int λaI aa ab ac ad=>?_;have D:=ad _ _ _ f t;refine⟨D.ld rfl,?_⟩;refine ac.st ab aa (by decide) One.int λaK ae ag ah ai=>?_;have am:=ai _ _ _ f D;refine ah.st ag ae (by decide) One.int λaL an h9 ao ap=>?_;have aq:=ap _ _ _ f am;simp only[aq.ld (k:=0) rfl,T,jF,j8];have r0:=g2.r0;have s0:=g2.s0;refine mq aj hT h9 (w:=w+1) v _ _ (I.mono r0) λr1 c5 aM E ar gc rc=>?_;refine(ao.aJ E).st ar (an.trans E) (by decide) One.int λaN au av bd aO=>?_;rw[bd.all];simp only[T];have aw:=gc.bd (m:=w+1) (v.mono (by omega));have hA:=aw.A;have aP:=gc.s0;have aQ:=gc.r0;refine jt aj hT av (by omega) ⟨5,-1,-1,a,r1,-1,Y6 .u64 p.1,0,p.2,0,0,st,0⟩ λax ay az=>?_;simp only[b4,T];rw[bH,cN];refine K (i+1) ax _ L (by omega) (au.trans ay) az (((g2.trans gc).trans (GE.add (iZ (by decide) (by decide) ch ch (ha.mono (by omega)) rc ch (.inr (.inr ⟨hs.1,by omega⟩)) (.inr (.inr (hp p (aaH d))))) (kM (.inl (by decide))))).mono (by omega) rfl)
 exact main l 0 H1 c rfl (Yt _) (KR.ext u) (h.ext u) (GE.refl c)
end
end Rb

namespace Rb
open Go
def b8.pc(a:b8):I:=if a.what=7∨a.what=8∨a.what=9 then au K.cells a.x.aB else aS
def b8.cells(a:b8):List I:=[J a.what,bY a.n,J a.k,J a.j,.str a.x.var,a.pc,J a.kind,J a.aV,J a.site,J a.X]
theorem b8.TW(a:b8):a.pc.scalar=true:=by unfold b8.pc;split<;>rfl
theorem b8.bF(a:b8):a.cells=[J a.what,bY a.n,J a.k,J a.j,.str a.x.var,a.pc,J a.kind,J a.aV,J a.site,J a.X]:=rfl
theorem b8.len(a:b8):a.cells.length=10:=by rw[b8.bF];rfl
theorem b8.scalar(a:b8):a.cells.all I.scalar=true:=by show(true&&(true&&(true&&(true&&(true&&(a.pc.scalar&&(true&&(true&&(true&&(true&&true))))))))))=true;rw[a.TW];rfl
section
variable(a:b8)(H:Z)
end
theorem mg.len(w:mg):w.cells.length=13:=rfl
section
variable{H:Z}{i:Nat}{w:mg}(h:At H i (.row w.cells))
include h
end
structure fh(vars:List B):Prop where
 l:vars.length≤32
 o:∀v∈vars,v.ok
 z:∀v∈vars,(aX v.type).2=0
 e:ff 0 vars≤65536
section
variable{C:Ctx}(aj:bN C)(hT:Cl (af C) S.bu)
include aj hT
end
end Rb

namespace Rb
open Go
variable{H0 H:Z}{i1 i4 js:Nat}{xs px:I}{st G pr:List Int}
def TX(w:mg)(a:Int)(px:I)(b:Bool):List I:=w.cells++[J a,px,.bool b]
structure RI(H0 H:Z)(i1 i4 js:Nat)(xs px:I)(st G pr:List Int):Prop where
 E:Z.Ext H0 H
 l1:H0.n≤i1
 l4:H0.n≤i4
 lj:H0.n≤js
 n14:i1≠i4
 xx:i1≠js
 xy:i4≠js
 r1:∃cs,At H i1 (.row cs)∧cs.length=16
 r4:At H i4 (.row (TX rV 0 px false))
 sA:At H js (.row (G.map (bY)))
 st:cK H 1 xs st.length (st.map (bY))
 pr:cK H 1 px pr.length (pr.map (bY))
 ds:∀j,bS xs=some j→H0.n≤j∧j≠i1∧j≠i4∧j≠js∧bS px≠some j
 dp:∀j,bS px=some j→H0.n≤j∧j≠i1∧j≠i4∧j≠js
theorem RI.ext{H0 H H':Z}(h:RI H0 H i1 i4 js xs px st G pr)(k:Z.Ext H H'):RI H0 H' i1 i4 js xs px st G pr:=⟨h.E.trans k,h.l1,h.l4,h.lj,h.n14,h.xx,h.xy,by obtain⟨cs,a,b⟩:=h.r1;exact⟨cs,a.ext k,b⟩,h.r4.ext k,h.sA.ext k,h.st.ext k,h.pr.ext k,h.ds,h.dp⟩
theorem RI.push(h:RI H0 H i1 i4 js xs px st G pr)(v:Int)(hl:st.length≤1000000001){K:ad}(f:∀d H',RI H0 H' i1 i4 js d px (st++[v]) G pr→(∀i o,At H i o→bS xs≠some i→At H' i o)→K d H'):ar (cr H true 1 8 xs (.ak .full 1 [bY v])) K:=by
 refine h.st.app (by decide) rfl rfl (by omega) (by omega) λd H' r1 hn kp a=>f d H' ?_ (λi o b hi=>kp i o hi b);obtain⟨cs,a1,b1⟩:=h.r1;have g:bS xs≠some i1:=λe=>(h.ds i1 e).2.1 rfl;have k:bS xs≠some i4:=λe=>(h.ds i4 e).2.2.1 rfl;have l:bS xs≠some js:=λe=>(h.ds js e).2.2.2.1 rfl;refine⟨Ext.aJ h.E hn (λi o hi b=>kp i o (λe=>by have:=(h.ds i e).1;omega) b),h.l1,h.l4,h.lj,h.n14,h.xx,h.xy,⟨cs,kp _ _ g a1,b1⟩,kp _ _ k h.r4,kp _ _ l h.sA,?_,h.pr.aJ (λj cs c b=>kp j _ (λe=>(h.ds j e).2.2.2.2 c) b),λj c=>?_,h.dp⟩
 ·rw[acs,abC];exact r1
 · rcases a with a|a
   ·exact h.ds j (by rw[←a];exact c)
   · rw[a]at c;cases c;have m:=h.E.1;have n:=a1.1;have p:=h.r4.1;have q:=h.sA.1;exact⟨m,by omega,by omega,by omega,λe=>by have:=h.pr.lt e;omega⟩
theorem RI.cut(r:List Int)(h:RI H0 H i1 i4 js xs px (st++r) G pr):∃a,du 1 xs none (some (J (st.length:Nat))) none=some a∧RI H0 H i1 i4 js a px st G pr:=by obtain⟨a,e,b,c⟩:=h.st.cut (k:=st.length) (by rw[abC];omega);refine⟨a,e,h.E,h.l1,h.l4,h.lj,h.n14,h.xx,h.xy,h.r1,h.r4,h.sA,?_,h.pr,λj d=>h.ds j (by rw[←c];exact d),h.dp⟩;rw[acm,acs,abF (by simp),abG (by simp)]at b;exact b
theorem RI.other{i1 i4 js i:Nat}(h:RI H0 H i1 i4 js xs px st G pr)(hi:H0.n≤i)(a:i1≠i)(b:i4≠i)(c:js≠i)(d:bS xs≠some i)(hp:bS px≠some i)(o:bM):RI H0 (H.set i o) i1 i4 js xs px st G pr:=by obtain⟨cs,a1,b1⟩:=h.r1;exact⟨h.E.set hi _,h.l1,h.l4,h.lj,h.n14,h.xx,h.xy,⟨cs,a1.bZ a _,b1⟩,h.r4.bZ b _,h.sA.bZ c _,h.st.set d _,h.pr.set hp _,h.ds,h.dp⟩
theorem RI.top{v:Int}(h:RI H0 H i1 i4 js xs px (st++[v]) G pr):∃p,aP none 1 xs (J st.length)=some p∧O H 1 false p=some (bY v):=by obtain⟨p,e1,a⟩:=h.st.get (k:=st.length) (v:= bY v) (by simp);exact⟨p,e1,a H (Z.Ext.refl _)⟩
section
variable{C:Ctx}(aj:bN C)(hT:Cl (af C) S.bu)
include aj hT
end
end Rb

namespace Rb
open Go
variable{H H1:Z}{xa xn xs:I}
structure CD where
 A:List b8
 L:List (List UInt8×Nat)
 nx:Nat
 kP:Int
 X:Int
def CD.add(c:CD)(a:b8):CD:={c with A:=c.A++[{a with X:=c.X}]}
def JK(vars:List B)(xa xn xs:I)(c:CD):List I:=[au B.cells vars,xa,xn,xs,J c.nx,J c.kP,J c.X]
structure CR(H:Z)(id:Nat)(vars:List B)(xa xn xs:I)(c:CD):Prop where
 row:At H id (.row (JK vars xa xn xs c))
 a:cK H 10 xa c.A.length (c.A.flatMap b8.cells)
 n:cK H 1 xn c.L.length (c.L.map λp=> .str p.1)
 s:cK H 1 xs c.L.length (c.L.map λp=> J (p.2:Int))
 da:∀j,bS xa=some j→j≠id∧bS xn≠some j∧bS xs≠some j
 dn:∀j,bS xn=some j→j≠id∧bS xs≠some j
 ds:∀j,bS xs=some j→j≠id
structure CF(id:Nat)(H:Z)(xa xn xs:I)(H':Z)(TY TZ T1:I):Prop where
 n:H.n≤H'.n
 k:∀i o,i≠id→bS xa≠some i→bS xn≠some i→bS xs≠some i→At H i o→At H' i o
 ra:∀j,bS TY=some j→bS xa=some j∨H.n≤j
 rn:∀j,bS TZ=some j→bS xn=some j∨H.n≤j
 rs:∀j,bS T1=some j→bS xs=some j∨H.n≤j
theorem CF.refl(id:Nat)(H:Z)(xa xn xs:I):CF id H xa xn xs H xa xn xs:=⟨sl _,λ_ _ _ _ _ _ h=>h,λ_ h=> .inl h,λ_ h=> .inl h,λ_ h=> .inl h⟩
theorem CF.trans{id:Nat}{H H1 H2:Z}{xa xn xs c d f g l m:I}(h:CF id H xa xn xs H1 c d f)(k:CF id H1 c d f H2 g l m):CF id H xa xn xs H2 g l m:=by
 refine⟨xl h.n k.n,λi o h1 p r s b=>k.k i o h1 ?_ ?_ ?_ (h.k i o h1 p r s b),λj a=>?_,λj a=>?_,λj a=>?_⟩
 · intro e;rcases h.ra i e with q|q
   ·exact p q
   ·have:=b.1;omega
 · intro e;rcases h.rn i e with q|q
   ·exact r q
   ·have:=b.1;omega
 · intro e;rcases h.rs i e with q|q
   ·exact s q
   ·have:=b.1;omega
 · rcases k.ra j a with q|q
   ·exact h.ra j q
   ·exact .inr (xl h.n q)
 · rcases k.rn j a with q|q
   ·exact h.rn j q
   ·exact .inr (xl h.n q)
 · rcases k.rs j a with q|q
   ·exact h.rs j q
   ·exact .inr (xl h.n q)
theorem CF.ext{id:Nat}(xa xn xs:I)(E:Z.Ext H H1):CF id H xa xn xs H1 xa xn xs:=⟨E.1,λ_ _ _ _ _ _ h=>h.ext E,λ_ h=> .inl h,λ_ h=> .inl h,λ_ h=> .inl h⟩
theorem CF.set{id:Nat}(xa xn xs:I)(o:bM):CF id H xa xn xs (H.set id o) xa xn xs:=⟨sl _,λ_ _ h1 _ _ _ h=>h.bZ h1 o,λ_ h=> .inl h,λ_ h=> .inl h,λ_ h=> .inl h⟩
theorem CR.ext{id:Nat}{vars:List B}{c:CD}(h:CR H id vars xa xn xs c)(E:Z.Ext H H1):CR H1 id vars xa xn xs c:=⟨h.row.ext E,h.a.ext E,h.n.ext E,h.s.ext E,h.da,h.dn,h.ds⟩
theorem CR.put{id:Nat}{vars:List B}{c c':CD}(h:CR H id vars xa xn xs c)(d:c'.A=c.A)(b:c'.L=c.L):CR (H.set id (.row (JK vars xa xn xs c'))) id vars xa xn xs c':=⟨h.row.set _,by rw[d];exact h.a.set (λe=>(h.da _ e).1 rfl) _,by rw[b];exact h.n.set (λe=>(h.dn _ e).1 rfl) _,by rw[b];exact h.s.set (λe=>(h.ds _ e) rfl) _,h.da,h.dn,h.ds⟩
section
variable{C:Ctx}(aj:bN C)(hT:Cl (af C) S.bu){id:Nat}{vars:List B}
include aj hT
end
end Rb

namespace Rb
open Go
def CD.ex(vars:List B)(c:CD)(e:ax):CD:={c with A:=c.A++Bw vars c.L c.X e c.kP,kP:=V (c.kP+AQ e 0)}
def CD.pl(vars:List B)(c:CD)(x:aN):CD:={c with A:=c.A++xi vars c.L c.X x c.kP,kP:=V (c.kP+ke x)}
section
variable{C:Ctx}(aj:bN C)(hT:Cl (af C) S.bu){id:Nat}{vars:List B}
include aj hT
end
end Rb

namespace Rb
open Go
def CD.st(vars:List B)(c:CD)(x:ay):CD:=⟨c.A++BF vars x c.A.length c.nx c.L c.kP,Ji c.L c.nx x,c.nx+BE x,V (c.kP+AR x 0),Jh x⟩
def CD.bl(vars:List B)(c:CD)(l:List ay):CD:=⟨c.A++si vars l c.A.length c.nx c.L c.kP,c.L,c.nx+se l,V (c.kP+nY l 0),qf l c.X⟩
section
variable{C:Ctx}(aj:bN C)(hT:Cl (af C) S.bu){id:Nat}{vars:List B}
include aj hT
end
end Rb

namespace Rb
open Go
section
variable(vars:List B)(L:List (List UInt8×Nat))(ln:Int)
end
def Kq(s s':RS):Prop:=s.stop=false→0≤s.fuel→s.fuel≤1000000→(s'.pr.length:Int)≤s.pr.length+s.fuel∧(s'.stop=false→0≤s'.fuel∧s'.fuel≤s.fuel∧(s'.pr.length:Int)+s'.fuel≤s.pr.length+s.fuel)
theorem Kq.trans{a b c:RS}(h:Kq a b)(k:Kq b c)(d:b.stop=true→c.pr=b.pr∧c.stop=true):Kq a c:=λe h1 f=>by
 obtain⟨g,i⟩:=h e h1 f;cases hb:b.stop with
 | true=>obtain⟨e1,j⟩:=d hb;rw[e1];exact⟨g,λz=>by rw[j]at z;cases z⟩
 | false=>obtain⟨l,m,y3⟩:=i hb;obtain⟨n,z2⟩:=k hb l (by omega);exact⟨by omega,λz=>by have:=z2 z;omega⟩
theorem Ks.same{s s':RS}(h:Ks s s')(hs:s.stop=true):s'.pr=s.pr∧s'.stop=true:=by have:=h.st hs;rw[this];exact⟨rfl,hs⟩
section
variable(vars:List B)(c:Nat)
end
end Rb

namespace Rb
open Go
section
variable{C:Ctx}(aj:bN C)(hT:Cl (af C) S.bu){vars:List B}
include aj hT
end
end Rb

namespace Rb
open Go
section
variable{C:Ctx}(aj:bN C)(hT:Cl (af C) S.bu){id:Nat}{vars:List B}{L:List (List UInt8)}{c:Nat}
include aj hT
end
end Rb

namespace Rb
open Go
section
variable{C:Ctx}(aj:bN C)(hT:Cl (af C) S.bu){kw:List UInt8→Bool}(fe:∀x,bB (af C) 96 [.str x] (.bool (kw x)))
include aj hT
include fe
end
end Rb

namespace Rb
open Go
section
variable{C:Ctx}(aj:bN C)(hT:Cl (af C) S.bu){kw:List UInt8→Bool}(fe:∀x,bB (af C) 96 [.str x] (.bool (kw x)))
include aj hT
include fe
end
end Rb

namespace Rb
open Go
theorem JL{p:cH}(hp:p.ok)(h:(fq dq p).2=0):fh p.vars∧∀t∈p.dd,vB p.vars [] t:=by
 obtain⟨h1,b,c⟩:=Jb dq h;have a:kd dq p.vars=if fF dq [] p.vars≠0 then fF dq [] p.vars else if ff 0 p.vars>65536 then 9 else 0:=by unfold kd;rw[bw];exact BJ dq 70000 rfl p.vars [] 0 0 (by decide) (by simp) (by omega)
 rw[b]at a;have hf:fF dq [] p.vars=0:=by
  by_cases e:fF dq [] p.vars=0
  ·exact e
  ·rw[aa e]at a;exact a.symm
 rw[ab (by simpa using hf)]at a;refine⟨⟨h1,hp.1.2,Jr dq hf,?_⟩,c⟩;by_cases e:ff 0 p.vars>65536
 ·rw[aa e]at a;cases a
 ·omega
end Rb

namespace Rb
open Go
variable{x:aN}{t:U}{N:Nat}{cs ds:List I}
def dy(vars:List B):I:= .ak .dead vars.length (dw vars (bW 0 vars))
def iC(C:Ctx)(id:Nat)(vars:List B)(L:List (List UInt8))(e:ax):Prop:=∀{F:I}{c:LD}{H:Z}{Q:ad}{w:Nat}{l:Int},bC H id vars (dy vars) F c→c.L.map abg=L→c.X=l→BD c (w+dO e)→EX id vars (dy vars) F H c (dO e-8) (gm l e) Q→af C 100 [.ptr id 0,.agg e.cells] H Q
theorem kl(e:ax):16≤dO e:=by rw[Ju];omega
theorem T2{vars:List B}(hp:(bK vars x).1=0):∃n v,vars.findIdx? (λv=>v.E==x.var)=some n∧vars[n]?=some v∧bK vars x=cb v.type x.aB:=by
 unfold bK at hp ⊢;rcases nV (λv:B=>v.E==x.var) vars with⟨i,v,h1,a,b⟩|⟨h1,a⟩
 · rw[a]at hp ⊢;dsimp only at hp ⊢;by_cases hs:eg v.type≠0
   ·rw[aa hs]at hp;exact absurd hp hs
   ·exact⟨i,v,h1,b,by rw[ab hs]⟩
 · rw[a]at hp;have:(6:Int)=0:=hp;omega
theorem T3{p:K}{r:List K}(h:(cb t (p::r)).1=0):cb t (p::r)=cb (cV t p).2 r:=by
 rw[cb];by_cases c:(cV t p).1≠0
 ·rw[cb,aa c]at h;exact absurd h c
 ·rw[ab c]
theorem JM{a r:Int}(ha:P2 a)(b:P2 r):∃m,P2 m∧fy false [.int .i64 a,.int .i64 r]=some (.int .i64 m):=by
 rcases ha with rfl|rfl|rfl|rfl|rfl<;>rcases b with rfl|rfl|rfl|rfl|rfl;all_goals first
  |exact⟨1,.inl rfl,rfl⟩
  |exact⟨2,.inr (.inl rfl),rfl⟩
  |exact⟨4,.inr (.inr (.inl rfl)),rfl⟩
  |exact⟨8,.inr (.inr (.inr (.inl rfl))),rfl⟩
  |exact⟨16,.inr (.inr (.inr (.inr rfl))),rfl⟩
theorem Bx.xz{id j N n o:Nat}{vars:List B}{wh F:I}{c:LD}{H0 H:Z}(b:Bx H0 id F H j N cs)(h:bC H id vars wh F c)(e:KR id H0 H)(hn:ds.length=n)(hs:ds.all I.scalar=true)(f:o+n≤N){P:Z→Prop}
  (g:∀H',KR id H0 H'→bC H' id vars wh F c→Bx H0 id F H' j N (setCells cs o ds)→(∀d M ds,d≠j→Bx H0 id F H d M ds→Bx H0 id F H' d M ds)→P H'):Do (Y H n (.ptr j o) (.agg ds)) P:=by
 rw[b.a.store,aa ⟨rfl,hn,hs,by rw[b.len];exact f⟩,T];exact g _ (e.box b.lo _) (h.other b.a b.ne b.nx _) (b.set _ (by rw[BG];exact b.len)) λd M ds hn b2=>b2.other hn _
theorem JN(h:ds.length=cs.length):setCells cs 0 ds=ds:=by rw[An (by omega)];rfl
theorem JO:∀{l:List B}{a:Int}{n:Nat}{v:B}{g:be},l[n]?=some v→(bW a l)[n]?=some g→g.len=(aX v.type).1.1
 | u::r,a,0,v,g,h,k=>by simp at h;subst h;simp[bW]at k;rw[←k]
 |u::r,a,n+1,v,g,h,k=>JO (l:=r) (by simpa using h) (by simpa[bW]using k)
theorem ov(k:Nat)(cs:List I):W k (.ae cs)=some (.ae (cs.drop k)):=rfl
theorem ey(i k:Nat):W k (.ptr i 0)=some (.ptr i k):=by simp[W]
theorem bC.T4{id:Nat}{vars:List B}{wh F:I}{c:LD}{H0 H:Z}{P:I→Z→Prop}{a:List I}(h:bC H id vars wh F c)(b:KR id H0 H)(hz:a.length=N)(d:∀j H',KR id H H'→bC H' id vars wh F c→Bx H0 id F H' j N a→H.n≤j→P (.ptr j 0) H'):ar (some (aL H true a)) P:=⟨_,_,rfl,d _ _ (KR.ext (Z.Ext.push _ _)) (h.ext (Z.Ext.push _ _)) (h.box b hz) (sl _)⟩
theorem ot.at_{s:be}(h:ot t s)(a:Int):ot t {s with at_:=a}:=⟨h.bits,h.len,h.bit,h.wid⟩
section
variable{C:Ctx}(aj:bN C)(hT:Cl (af C) S.bu){id:Nat}{vars:List B}{F:I}{c:LD}{H:Z}{Q:ad}{w:Nat}
include aj hT
theorem sB(a0:fh vars){L:List (List UInt8)}(ct:x.ok)(hp:(bK vars x).1=0)(cu:∀p∈x.aB,∀e∈p.bc,iC C id vars L e)(h:bC H id vars (dy vars) F c)(cv:c.L.map abg=L){l:Int}(hl:c.X=l)(hb:BD c (w+fI x))
  (hQ:∀s b al c' H',KR id H H'→bC H' id vars (dy vars) F c'→GE c c' (fI x) (gH l x)→di c'.bn b→P2 al→ot (bK vars x).2 s→(bK vars x).2.lay→Q (.agg (dc s b al)) H'):af C 152 [.ptr id 0,.agg x.cells] H Q:=by
 obtain⟨dl,dm⟩:=aN.fP ct;obtain⟨n,v,cw,ak,cx⟩:=T2 hp;have bJ:=aaH ak;have cy:v.type.lay:=mY (by have:=a0.o v bJ;cases v;exact this.2) (a0.z v bJ);have cz:=(XV.1 ak).1;obtain⟨g,tl,g1,g2,g3⟩:=qd (a:=0) ak;rw[cx]at hp hQ;rw[TK]at hb hQ;rw[oq]at hQ;refine S.Qg hT ?_;unfold S.f152;simp only[qb,aR];refine h.T4 KR.refl (N:=8) rfl λq H1 k1 h1 b1 l1=>?_;simp only[aZ,ey,T,h1.vs];refine S.wc hT ?_;refine wC (p:=λv=>v.E==x.var) (λu _ R ar=>S.QA hT (by
   unfold S.f195;have hb:aO H1 false 7 (.agg u.cells)=some (.ae u.cells,H1):=by unfold aO;rw[aa ⟨rfl,u.len⟩];rfl
   have l0:O H1 1 false (.ae (u.cells.drop 0))=some (.str u.E):=p6 u;have l1:O H1 1 false (.ae (x.cells.drop 0))=some (.str x.var):=Bj x H1;rw[hb];simp only[aR,W,T,l0,l1,iU];exact ar)) (by have:=a0.l;omega) ?_
 rw[cw];simp only[ga,aZ,ey,T,h1.vs];rw[cQ cz];simp only[T,dN,ov];rw[Ay v H1 ak];simp only[T];refine h1.jM k1 (cs:=v.type.cells) (N:=6) rfl v.type.len v.type.scalar λy H2 k2 bL bt l2=>?_;have bM:=k1.trans k2;have bN:=b1.aJ k2;have bO:q≠y:=by have:=b1.a.1;omega
 simp only[bL.TM,T];have cA:aP none 3 (dy vars) (.int .i64 n)=some (.ae ((dw vars (bW 0 vars)).drop (n*3))):=by show(if 0≤(n:Int)∧(n:Int)<(vars.length:Nat)then some (I.ae ((dw vars (bW 0 vars)).drop ((n:Int).toNat*3)))else none)=_;rw[aa ⟨by omega,by omega⟩,Y7]
 rw[cA,g3];simp only[T,ov,aaW,abt];rw[show O H2 2 true (.ae (.int .i64 g.at_ :: .int .i64 g.len::tl))=some (.agg [.int .i64 g.at_,.int .i64 g.len])from p2 (a:=[I.int .i64 g.at_,.int .i64 g.len]) rfl];simp only[T];rw[show bo [.int .i64 0,.int .i64 0,.int .i64 0,.bool false,.int .i64 0,.int .i64 0] [(0,2,.agg [.int .i64 g.at_,.int .i64 g.len])]=some (.agg ({db with at_:=g.at_,len:=g.len}:be).cells)from rfl];simp only[T];rw[show bo [.int .i64 0,.int .i64 0,.int .i64 0,.bool false,.int .i64 0,.int .i64 0,.int .i64 0,.int .i64 0] [(0,6,.agg ({db with at_:=g.at_,len:=g.len}:be).cells),(6,1,.int .i64 (-1)),(7,1,.int .i64 16)]=some (.agg (dc {db with at_:=g.at_,len:=g.len} (-1) 16))from rfl];simp only[T];refine bL.jM bM (cs:=dc {db with at_:=g.at_,len:=g.len} (-1) 16) (N:=8) rfl rfl rfl λjs cB a1 cC bs l3=>?_;have cD:=bM.trans a1;have cE:=bN.aJ a1;have cF:=bt.aJ a1;have Y:q≠js:=by have:=bN.a.1;omega
 have J:y≠js:=by have:=bt.a.1;omega
 simp only[T,r8,cU];have main:∀(r:List K)(i:Nat)(t:U)(s:be)(b al:Int)(c2:LD)(H2:Z)(w1:Nat)(k1:List bm),x.aB.drop i=r→t.lay→(cb t r).1=0→cb t r=cb v.type x.aB→KR id H H2→bC H2 id vars (dy vars) F c2→Bx H id F H2 q 8 [.int .i64 0,.int .i64 0,.int .i64 0,.bool false,.int .i64 0,.int .i64 0,.int .i64 0,.int .i64 0]→Bx H id F H2 y 6 t.cells→Bx H id F H2 js 8 (dc s b al)→ot t s→di c2.bn b→P2 al→GE c c2 w1 k1→w1+gG r=gG x.aB→k1++jr l r=jr l x.aB →
   aC (S.nN (af C) (.ptr id 0) (.ptr q 0) (.ptr y 0) (.ptr js 0) (au K.cells x.aB) (.int .i64 x.aB.length) Q) ([.int .i64 i],H2):=by
  intro r;induction r with
  | nil=>intro i t s b al c2 a2 w1 k1 a3 ht a4 av ay a5 az a6 M hs aA aG g4 hw hk;have hle:=er a3;refine aC.step ?_;simp only[S.nN,aF,bD,T,aD,aT];rw[ee];unfold S.GD;simp only[ey,T,M.ld (k:=7) rfl,M.ld (k:=0) rfl];refine BQ aj hT (.inr (.inr (.inr (.inr rfl)))) λr a7 _=>?_;refine⟨M.ld rfl,?_⟩;obtain⟨m,hm,em⟩:=JM aG a7;simp only[em,T,ey];refine M.st a5 ay (by decide) One.int λam ac aH D cG=>?_;rw[show(dc s b al).set 7 (.int .i64 m)=dc s b m from rfl]at D;rw[D.all];simp only[T];refine(cG _ _ _ Y az).xz aH ac rfl rfl (by show 0+8≤8;decide) λa8 a9 an bP _=>?_;rw[show setCells [.int .i64 0,.int .i64 0,.int .i64 0,.bool false,.int .i64 0,.int .i64 0,.int .i64 0,.int .i64 0] 0 (dc s b m)=dc s b m from rfl]at bP;rw[bP.all];simp only[T];rw[←av]at hQ;rw[gG]at hw;rw[jr]at hk;exact hQ s b m c2 a8 a9 an (g4.mono (by omega) (by rw[←hk,abK])) aA hm hs ht
  | cons p r bQ=>
   intro i t s b al c2 a2 w1 k1 a3 ht a4 av ay a5 az a6 M hs aA aG g4 hw hk;obtain⟨cH,bR,bS⟩:=ed a3;have cJ:=aaH bR;obtain⟨cK,aK⟩:=kH a4;have bT:=T3 a4;rw[gG]at hw;rw[jr]at hk;have bU:BD c2 (w+(mo p+gG r)):=g4.bd (m:=w+(mo p+gG r)) (hb.mono (by omega));refine aC.step ?_;simp only[S.nN,aF,bD,T,aD];rw[dW,cQ cH];simp only[T];rw[dD K.len (by decide) _ bR];simp only[T];refine a5.jM ay (cs:=p.cells) (N:=2) rfl p.len p.scalar λjp am aL aH bV dn=>?_;have ac:=ay.trans aL;have aM:=az.aJ aL;have ad:=a6.aJ aL;have D:=M.aJ aL;have dp:y≠jp:=by have:=a6.a.1;omega
   have dq:js≠jp:=by have:=M.a.1;omega
   have dr:q≠jp:=by have:=az.a.1;omega
   have cL:p.cells[1]?=some (au ax.cells p.bc):=by rw[K.bF];rfl
   simp only[ey,T,bV.ld cL,cU,cI,aD];have nx:∀H',aC (S.nN (af C) (.ptr id 0) (.ptr q 0) (.ptr y 0) (.ptr js 0) (au K.cells x.aB) (.int .i64 x.aB.length) Q) ([.int .i64 ((i+1:Nat):Int)],H')→S.vz (af C) ([.int .i64 i],a2) (aC (S.nN (af C) (.ptr id 0) (.ptr q 0) (.ptr y 0) (.ptr js 0) (au K.cells x.aB) (.int .i64 x.aB.length) Q)) Q [] H':=λH' hl=>by unfold S.vz;simp only[aF,b4,T];rw[bH,cN];exact hl
   rcases lO ht cK with⟨bX,aQ,e,aS,he,ao,bY⟩|⟨a_,aQ,n2,f,s2,f1,f2,f3,ao,bZ⟩
   · rw [ab (by simp[bX])];obtain⟨ex,hex⟩:∃ex,p.bc=[ex]:=abZ.1 bX;have ar:mo p=dO ex:=by rw[Jv,hex,dK,dK,Yx]
     have hA:oo l p=gm l ex:=by rw[Jw,hex,dP,dP,abK]
     have iX:=kl ex;rw[show aP none 8 (au ax.cells p.bc) (.int .i64 0)=some (dN ax.cells 8 p.bc 0)from cQ (i:=0) (by omega)];simp only[T];rw[dD ax.len (by decide) _ (show p.bc[0]?=some ex by rw[hex];rfl)];simp only[T];refine cu p cJ ex (by rw[hex];exact acL.2 rfl) aH (by rw[g4.L];exact cv) (l:=l) (by rw[g4.X];exact hl) (w:=w+gG r) (bU.mono (by omega)) λr1 bb a8 j an g6 dC=>?_;have b0:BD bb (w+gG r+8):=g6.bd (m:=w+gG r+8) (bU.mono (by omega));refine jL aj hT an (ac.trans j) λbf b2 aU bg cM ds=>?_;have bh:=(ac.trans j).trans aU;have ag:=(ad.aJ j).aJ aU;have bi:=(D.aJ j).aJ aU;have bk:=(aM.aJ j).aJ aU;have bl:y≠bf:=by have:=(ad.aJ j).a.1;omega
     have b3:js≠bf:=by have:=(D.aJ j).a.1;omega
     have b5:q≠bf:=by have:=(aM.aJ j).a.1;omega
     have b6:t.cells[4]?=some (.int .i64 t.ba):=by rw[U.bF];rfl
     have cO:t.cells[5]?=some (au U.cells (e::aS)):=by rw[U.bF,←he];rfl
     simp only[ey,T,ag.ld b6,j8];refine cM.st bg bh (by decide) One.int λb7 bp bq cP P=>?_;refine⟨(P _ _ _ bl ag).ld b6,?_⟩;refine cP.st bq bp (by decide) One.int λbr bu h9 cR ah=>?_;rw[cR.all];simp only[T];have dt:=b0.A;refine jt aj hT h9 (by omega) ⟨17,-1,-1,r1,-1,-1,Y6 .u64 t.ba,0,0,0,0,0,0⟩ λdu aV cS=>?_;have g7:=GE.add (iZ (S:=bb.sn) (d:= -1) (d2:= -1) (b:= -1) (c:= -1) (n:=Y6 .u64 t.ba) (o:=0) (z:=0) (r:=0) (t:=0) (s:=0) (l:=0) (k:=17) (by decide) (by decide) ch ch dC ch ch (.inr (.inl (by decide))) (.inr (.inl (by decide)))) (kM (.inr (by decide)));have b8:=g7.bd (m:=w+gG r+7) (b0.mono (by omega));generalize LD.add bb ⟨17,-1,-1,r1,-1,-1,Y6 .u64 t.ba,0,0,0,0,0,0⟩=dv at *;have cT:=bu.trans aV;have b9:=(ah _ _ _ bl (P _ _ _ bl ag)).aJ aV;have cV:=(ah _ _ _ b3 (P _ _ _ b3 bi)).aJ aV;have cW:=(ah _ _ _ b5 (P _ _ _ b5 bk)).aJ aV;simp only[b9.ld cO,T];rw[show aP none 6 (au U.cells (e::aS)) (.int .i64 0)=some (dN U.cells 6 (e::aS) 0)from cQ (by simp)];simp only[T];rw[dD U.len (by decide) _ (show(e::aS)[0]?=some e from rfl)];simp only[T];refine b9.xz cS cT e.len e.scalar (by decide) λdx cX cY bv b_=>?_;rw[JN (by rw[e.len,t.len])]at bv;have cZ:=b_ _ _ _ J.symm cV;have c0:=b_ _ _ _ bO cW;rw[bv.all];simp only[T];refine wO aj hT e bY.ok _ _ ?_;simp only[bj,abj,abk,T,j8];refine mq aj hT cY (w:=w+gG r+5) (b8.mono (by omega)) _ _ (dC.mono g7.r0) λc1 ca dz aW cc g8 cd=>?_;have c3:BD ca (w+gG r+5):=g8.bd (m:=w+gG r+5) (b8.mono (by omega));have ce:=cX.trans aW;have cf:=bv.aJ aW;have bw:=cZ.aJ aW;have cg:=c0.aJ aW;have dA:t.kind=5:=aQ;have c4:s.bits=false:=by
      cases c5:s.bits with
      |false=>rfl
      |true=>have:=(hs.bits c5).1;omega
     have fin:∀(G:Int)(V:LD)(B:Z),KR id H B→bC B id vars (dy vars) F V→Bx H id F B q 8 [.int .i64 0,.int .i64 0,.int .i64 0,.bool false,.int .i64 0,.int .i64 0,.int .i64 0,.int .i64 0]→Bx H id F B y 6 e.cells→Bx H id F B js 8 (dc s G al)→di V.bn G→GE c V (w1+dO ex) (k1++gm l ex) →
       S.vA (af C) (.ptr js 0) (.int .i64 (aX e).1.1) ([.int .i64 i],a2) (aC (S.nN (af C) (.ptr id 0) (.ptr q 0) (.ptr y 0) (.ptr js 0) (au K.cells x.aB) (.int .i64 x.aB.length) Q)) Q [] B:=by
      intro G V B bx ap c6 c7 bz c8 g9;unfold S.vA;simp only[ey,T];refine bz.st ap bx (by decide) One.int λci bA bB ai aq=>?_;rw[show(dc s G al).set 1 (.int .i64 (aX e).1.1)=dc {s with len:=(aX e).1.1} G al from rfl]at ai;simp only[ai.ld (k:=7) rfl,T];refine BQ aj hT (.inr (.inr (.inr (.inr rfl)))) λr a7 _=>?_;refine⟨ai.ld rfl,?_⟩;obtain⟨m,hm,em⟩:=JM aG a7;simp only[em,T,ey];refine ai.st bB bA (by decide) One.int λcj c9 c_ ck of=>?_;rw[show(dc {s with len:=(aX e).1.1} G al).set 7 (.int .i64 m)=dc {s with len:=(aX e).1.1} G m from rfl]at ck;refine nx cj ?_;refine bQ (i+1) e _ G m V cj (w1+dO ex) (k1++gm l ex) bS bY ?_ ?_ c9 c_ (of _ _ _ Y (aq _ _ _ Y c6)) (of _ _ _ J (aq _ _ _ J c7)) ck ⟨λe=>(by rw[c4]at e;cases e),λ_=>rfl,hs.bit,hs.wid⟩ c8 hm g9 (by omega) (by rw[←hk,hA,acC])
      ·rw[ao]at aK;exact aK
      ·rw[←av,bT,ao]
     simp only[bw.ld (k:=6) rfl,T,cI,aD,aT];have cl:=((g4.trans g6).trans g7).trans g8;apply aI<;>intro _
     · refine bw.st cc ce (by decide) One.int λB bx ap bz cm=>?_;exact fin c1 ca B bx ap (cm _ _ _ Y cg) (cm _ _ _ J cf) bz cd (cl.mono (by omega) (by simp only[abK]))
     · refine sv aj hT cc (w:=w+gG r) (c3.mono (by omega)) _ (((aA.mono g6.r0).mono g7.r0).mono g8.r0) cd λda V B aY ap g9 dd=>?_;refine(bw.aJ aY).st ap (ce.trans aY) (by decide) One.int λci bA bB ai aq=>?_;exact fin da V ci bA bB (aq _ _ _ Y (cg.aJ aY)) (aq _ _ _ J (cf.aJ aY)) ai dd ((cl.trans g9).mono (by omega) (by simp only[abK]))
   · rw [aa (by simp[a_])];have de:=(XV.1 f2).1;have df:=(XV.1 f3).1;have bE:t.cells[3]?=some (au aw.cells t.aE):=by rw[U.bF];rfl
     simp only[ey,T,ad.ld bE];refine S.we hT ?_;refine fieldIndex (p:=λf=>f.E==p.field) (λu _ R ar=>S.QB hT (by
       unfold S.f196;have hb:aO am false 9 (.agg u.cells)=some (.ae u.cells,am):=by unfold aO;rw[aa ⟨rfl,u.len⟩];rfl
       have l0:O am 1 false (.ae (u.cells.drop 0))=some (.str u.E):=p4 u;have l1:O am 1 false (.ptr jp 0)=some (.str p.field):=bV.ld (by rw[K.bF];rfl);rw[hb];simp only[aR,ey,show W 0 (.ae u.cells)=some (.ae (u.cells.drop 0))from rfl,T,l0,l1,iU];exact ar)) (U.r_ ht.ok).2.2 ?_
     rw[f1];simp only[ga,ad.all,T];refine IY aj hT ht aQ _ _ ?_;simp only[bj,abj,abk,T];rw[cQ df];simp only[T];rw[dD (cells:=be.cells) (λ_=>rfl) (by decide) _ f3];simp only[T];refine aH.jM ac (cs:=s2.cells) (N:=6) rfl rfl rfl λbG a8 j an cn dB=>?_;have a9:=ac.trans j;have dg:js≠bG:=by have:=D.a.1;omega
     have dh:y≠bG:=by have:=ad.a.1;omega
     have dj:q≠bG:=by have:=aM.a.1;omega
     simp only[ey,T,cn.ld (k:=0) rfl,(D.aJ j).ld (k:=0) rfl,b4];refine cn.st an a9 (by decide) One.int λb2 bh bg co bI=>?_;have bi:=bI _ _ _ dg (D.aJ j);have ag:=bI _ _ _ dh (ad.aJ j);have bk:=bI _ _ _ dj (aM.aJ j);rw[show s2.cells.set 0 (.int .i64 (Y6 .i64 (s2.at_+s.at_)))=({s2 with at_:=Y6 .i64 (s2.at_+s.at_)}:be).cells from rfl]at co;rw[co.all];simp only[T,ag.ld bE];rw[cQ de];simp only[T,dN,ov];rw[Br b2 f2];simp only[T];refine bi.xz bg bh rfl rfl (by show 0+6≤8;decide) λb7 bp bq cp P=>?_;have cq:=P _ _ _ J ag;rw[show setCells (dc s b al) 0 ({s2 with at_:=Y6 .i64 (s2.at_+s.at_)}:be).cells=dc {s2 with at_:=Y6 .i64 (s2.at_+s.at_)} b al from rfl]at cp;refine⟨cq.ld bE,Br b7 f2,?_⟩;refine cq.xz bq bp f.type.len f.type.scalar (by decide) λbr bu h9 cr ah=>?_;rw[JN (by rw[f.type.len,t.len])]at cr;refine nx br ?_;have dE:mo p=0:=by rw[Jv,a_,dK]
     have dk:oo l p=[]:=by rw[Jw,a_,dP]
     refine bQ (i+1) f.type _ b al c2 br w1 k1 bS bZ ?_ ?_ bu h9 (ah _ _ _ bO (P _ _ _ Y bk)) cr (ah _ _ _ J.symm cp) ((BN ht aQ f2 f3 bZ).at_ _) aA aG g4 (by omega) (by rw[←hk,dk];rfl)
     ·rw[ao]at aK;exact aK
     ·rw[←av,bT,ao]
 refine main x.aB 0 v.type _ (-1) 16 c cB 0 [] rfl cy hp rfl cD cC cE cF bs ⟨λe=>(by cases e),λ_=>?_,⟨ab_ 0,(by decide:(0:Int)≤7)⟩,ab_ 0⟩ ch (.inr (.inr (.inr (.inr rfl)))) (GE.refl c) (YI _) rfl;exact show g.len=_ from JO ak g1
end
end Rb

namespace Rb
open Go
variable{id j:Nat}{F:I}{b:Bk}{H:Z}{t:U}
def i6(id j:Nat)(F:I)(H H':Z):Prop:=H.n≤H'.n∧∀i o,i≠id→i≠j→bS F≠some i→At H i o→At H' i o
theorem i6.refl(id j:Nat)(F:I)(H:Z):i6 id j F H H:=⟨sl _,λ_ _ _ _ _ h=>h⟩
theorem i6.trans{F d:I}{a b c:Z}(h:i6 id j F a b)(n:NB a F d)(k:i6 id j d b c):i6 id j F a c:=⟨xl h.1 k.1,λi o hi e f g=>k.2 i o hi e (n.ne g.1 f) (h.2 i o hi e f g)⟩
theorem fQ.three{a b:Z}(h:fQ id F a b):i6 id j F a b:=⟨h.1,λi o hi _ c d=>h.2 i o hi c d⟩
theorem fQ.ext{a b:Z}(E:Z.Ext a b):fQ id F a b:=⟨E.1,λ_ _ _ _ c=>c.ext E⟩
theorem eE.ext{H H':Z}(h:eE H id F b)(E:Z.Ext H H'):eE H' id F b:=⟨h.a.ext E,h.l.ext E,h.d⟩
theorem eE.other{id i:Nat}(h:eE H id F b)(c:i≠id)(e:bS F≠some i)(o:bM):eE (H.set i o) id F b:=⟨h.a.bZ c.symm _,h.l.set e _,h.d⟩
theorem eE.lt(h:eE H id F b):bS F≠some H.n:=λe=>acM _ (h.l.lt e)
def JP(C:Ctx)(t:U):Prop:=∀{H:Z}{Q:ad}{id:Nat}{F:I}{b:Bk}{a:Int},eE H id F b→b.ok→(∀c H',fQ id F H H'→NB H F c→eE H' id c (ft t a b)→(ft t a b).ok→Q (.aq []) H')→af C 57 [.ptr id 0,.agg t.cells,.int .i64 a] H Q
theorem T5(t:U)(a:Int)(b:Bk):ft t a b=if t.kind=1∨t.kind=2 then b.add (a,t.size)
  else if t.kind=5 then(if(fc t.aU).1.1>0 then kf (λi b=>n5 t.aU (V (a+V (i*(fc t.aU).1.1))) b) t.ba.toNat 0 b else b)
  else iV (eO t.kind a t.aE (cq t) (0,0) b).1 (eO t.kind a t.aE (cq t) (0,0) b).2:=by cases t;rw[ft]
theorem JQ(h:b.ok)(a:Int×Int):(iV a b).ok:=by
 unfold iV;split
 ·exact Bk.JB h a
 ·exact h
section
variable{C:Ctx}(aj:bN C)(hT:Cl (af C) S.bu)
include aj hT
theorem T6(h:t.lay)(a:t.kind=3∨t.kind=4):∃s al bit:Int,bB (af C) 115 [.agg t.cells] (.aq [.agg [.int .i64 s,.int .i64 al,au be.cells (cq t),.int .i64 bit],.bool true]):=by
 have hs:=fD h.snd;obtain⟨p,hp,hle,hlen⟩:=qc h a;refine⟨ca p.size p.bP,p.bP,p.bit,?_⟩;refine bB.of aj (by simp[I.bA,I.bb,U.bb]) (by show I.bb (.aq [.agg [.int .i64 _,.int .i64 _,.ak .dead (cq t).length ((cq t).flatMap be.cells),.int .i64 _],.bool true])=true;simp[I.bb,I.bA,Bq,Tok.free]) λQ hQ=>?_
 refine af.cd ?_;refine S.Ai hT (AL hT hs a (λf hf=>wN aj hT f.type (fD (oh h a hf).snd)) (λf hf=>wM f.type (fD (oh h a hf).snd)) (λe=>by rw[hp]at e;cases e) λq b x H2 c=>?_);rw[hp]at b;cases b;obtain⟨_,tk,rfl,_⟩:=c;have d:cq t=p.dv:=by unfold cq;rw[hp]
 rw[d]at hQ;simp only[I.cd,I.cf,Bp];rw[show decide (ca p.size p.bP≤65536)=true by simpa using hle];exact hQ _
variable(hS:nf (af C))
include hS
theorem JR{Q:ad}{a:Int×Int}(h:eE H id F b)(hb:b.ok)(d:At H j (.row (av a)))(k:j≠id)(f:bS F≠some j)
  (hQ:∀l H',i6 id j F H H'→NB H F l→eE H' id l (iV a b)→At H' j (.row (av (0,0)))→Q (.aq []) H'):af C 133 [.ptr j 0,.ae [.ptr id 0]] H Q:=by
 refine S.P0 hT ?_;unfold S.f133;have e1:O H 1 false (.ptr j 1)=some (.int .i64 a.2):=by rw[d.load];rfl
 have m:O H 2 true (.ptr j 0)=some (.agg (av a)):=d.all (n:=2) rfl;have p:O H 1 false (.ae [.ptr id 0])=some (.ptr id 0):=rfl;have k1:∀(c:I)(H1:Z),fQ id F H H1→NB H F c→eE H1 id c (iV a b)→S.vp (af C) (.ptr j 0) Q [] H1:=by intro c H1 hk hn h1;unfold S.vp;have dC:=hk.2 _ _ k f d;rw[show bo [.int .i64 0,.int .i64 0] []=some (.agg (av (0,0)))from rfl];simp only[T];rw[dC.put (n:=2) rfl rfl rfl];simp only[T];refine hQ c _ ⟨hk.1,λi o hi q f r=>(hk.2 i o hi f r).bZ q _⟩ hn (h1.other k (hn.ne d.1 f) _) (dC.set _)
 simp only[iY,e1,T,ej,aD];unfold iV at k1;apply aI<;>intro e
 · have g:a.2>0:=by simpa using e
   simp only[aa g]at k1;simp only[m,p,T];exact JD aj hT hS h hb a λc H1 hk hn h1 _=>k1 c H1 hk hn h1
 · have g:¬a.2>0:=by simpa using e
   simp only[ab g]at k1;exact k1 F H (fQ.refl _ _ _) (.inl rfl) h
theorem T7(ht:t.lay)(aB:t.kind=3∨t.kind=4)(hF:∀f∈t.aE,JP C f.type){Q:ad}{a:Int}(h:eE H id F b)(hb:b.ok)
  (hQ:∀aG H',fQ id F H H'→NB H F aG→eE H' id aG (iV (eO t.kind a t.aE (cq t) (0,0) b).1 (eO t.kind a t.aE (cq t) (0,0) b).2)→(iV (eO t.kind a t.aE (cq t) (0,0) b).1 (eO t.kind a t.aE (cq t) (0,0) b).2).ok→Q (.aq []) H') :
  af C 88 [.ptr id 0,.agg t.cells,.int .i64 a] H Q:=by
 obtain⟨ps,ac,ag,aY⟩:=T6 aj hT ht aB;have bF:=II ht aB;have bG:=(U.r_ ht.ok).2.2;refine S.Pw hT ?_;unfold S.f88;rw[show aO H false 1 (.ptr id 0)=some (.ae [.ptr id 0],H)from rfl];simp only[aR,gC,iT,T];refine aY _ _ ?_;simp only[bj,abj,abk,T,aL,a_,aR];rw[cS _ _ _ 4 rfl rfl rfl];have aZ:=At.new H (.row [.int .i64 ps,.int .i64 ac,au be.cells (cq t),.int .i64 ag]);have a0:=Z.Ext.push H (.row [.int .i64 ps,.int .i64 ac,au be.cells (cq t),.int .i64 ag]);have n1:(H.push (.row [.int .i64 ps,.int .i64 ac,au be.cells (cq t),.int .i64 ag])).n=H.n+1:=rfl;simp only[T];generalize H.push (.row [.int .i64 ps,.int .i64 ac,au be.cells (cq t),.int .i64 ag])=H1 at *;rw[show bo [.int .i64 0,.int .i64 0] []=some (.agg (av (0,0)))from rfl];simp only[T];rw[cS _ _ _ 2 rfl rfl rfl];have a1:=At.new H1 (.row (av (0,0)));have a2:=aZ.push (.row (av (0,0)));have ah:=a0.trans (Z.Ext.push H1 (.row (av (0,0))));have n2:(H1.push (.row (av (0,0)))).n=H.n+2:=by show H1.n+1=_;omega
 simp only[T,dX,kC,cU];generalize H1.push (.row (av (0,0)))=H2 at *;have a3:=h.ext ah;have bI:=h.a.1;have P:H1.n≠id:=by omega
 have ap:∀i,H.n≤i→bS F≠some i:=λi hi e=>by have:=h.l.lt e;omega
 have main : ∀(r:List aw)(ss:List be)(i:Nat)(run:Int×Int)(b2:Bk)(p:I)(c:Z),t.aE.drop i=r→(cq t).drop i=ss→i6 id H1.n F H2 c→NB H2 F p→eE c id p b2→b2.ok→At c H1.n (.row (av run))→eO t.kind a t.aE (cq t) (0,0) b=eO t.kind a r ss run b2 →
   aC (S.rE (af C) (.int .i64 a) (.ae [.ptr id 0]) (.ae t.cells) (.ptr H.n 0) (.ptr H1.n 0) (au aw.cells t.aE) (.int .i64 t.aE.length) Q) ([.int .i64 i],c):=by
  intro r;induction r with
  | nil=>
   intro ss i run b2 p c ar aH E G R K ax hm;have hle:=er ar;refine aC.step ?_;simp only[S.rE,aF,bD,T,aD,aT];rw[ee];unfold S.FH;refine⟨_,_,rfl,?_⟩;rw[qD rfl,qE rfl];have ai:bS p≠some H1.n:=G.ne (by omega) (ap _ (by omega));show af C 133 [.ptr H1.n 0,.ae [.ptr id 0]] c _;refine JR aj hT hS R K ax P ai λa4 k ak a5 al r4=>?_;rw[hm]at hQ;have u:eO t.kind a [] ss run b2=(run,b2):=by rw[eO]
   rw[u]at hQ;have aJ:=E.trans G ak;refine hQ a4 k ⟨xl ah.1 aJ.1,λi o hi A x=>aJ.2 i o hi (by have:=x.1;omega) A (x.ext ah)⟩ ?_ al (JQ K run);have:=G.trans E.1 a5;rcases this with e|⟨j,a6,e⟩
   ·exact .inl e
   ·exact .inr ⟨j,by have:=ah.1;omega,e⟩
  | cons f r a7=>
   intro ss i run b2 p c ar aH E G R K ax hm;obtain⟨a8,A,a9⟩:=ed ar;obtain⟨s,hs⟩:∃s,(cq t)[i]?=some s:=⟨_,YO (by omega)⟩
   have ba:ss=s::(cq t).drop (i+1):=by rw[←aH];exact drop_cons hs
   subst ba;have bb:=aaH A;have bc:=E.2 _ _ (show H.n≠id by omega) (by omega) (ap _ (sl _)) a2;have ai:bS p≠some H1.n:=G.ne (by omega) (ap _ (by omega));refine aC.step ?_;simp only[S.rE,aF,bD,T,aD];rw[dW,cQ a8];simp only[T];rw[dD aw.len (by decide) _ A];simp only[T,aL,a_,aR];rw[cS _ _ _ 9 f.len f.scalar rfl];have n3:=E.1;have aK:=Z.Ext.push c (.row f.cells);have bd:=At.new c (.row f.cells);have bf:=bc.push (.row f.cells);have al:=R.ext aK;have bg:=ax.push (.row f.cells);have bJ:=R.lt;have n4:(c.push (.row f.cells)).n=c.n+1:=rfl;simp only[T];generalize c.push (.row f.cells)=k at *;have W:O k 1 false (.ptr H.n 2)=some (au be.cells (cq t)):=by rw[bf.load];rfl
   simp only[iY,W,T];rw[cQ (cells:=be.cells) (sz:=6) (show i<(cq t).length by omega)];simp only[T,dN,ov,abt];have X:O k 2 true (.ae (List.drop (i*6) ((cq t).flatMap be.cells)))=some (.agg [.int .i64 s.at_,.int .i64 s.len]):=by rw[nS (cells:=be.cells) (λ_=>rfl),drop_cons hs,abe];rfl
   simp only[X,T];rw[cS _ _ _ 2 rfl rfl rfl];have aN:=Z.Ext.push k (.row [.int .i64 s.at_,.int .i64 s.len]);have rs:=At.new k (.row [.int .i64 s.at_,.int .i64 s.len]);have bh:=bd.push (.row [.int .i64 s.at_,.int .i64 s.len]);have bi:=al.ext aN;have bk:=bg.push (.row [.int .i64 s.at_,.int .i64 s.len]);have bl:=al.lt;have bK:(k.push (.row [.int .i64 s.at_,.int .i64 s.len])).n=k.n+1:=rfl;simp only[T];generalize k.push (.row [.int .i64 s.at_,.int .i64 s.len])=L at *;have bm:O L 1 false (.ptr k.n 0)=some (.int .i64 s.at_):=by rw[rs.load];rfl
   simp only[bm,T,b4];rw[rs.st1 (by show 0<2;decide) ⟨rfl,rfl,rfl⟩];have am:=rs.set (.row ([.int .i64 s.at_,.int .i64 s.len].set 0 (.int .i64 (Y6 .i64 (s.at_+a)))));have an:=bh.bZ (show c.n≠k.n by omega) (.row ([.int .i64 s.at_,.int .i64 s.len].set 0 (.int .i64 (Y6 .i64 (s.at_+a)))));have aP:=bk.bZ (show H1.n≠k.n by omega) (.row ([.int .i64 s.at_,.int .i64 s.len].set 0 (.int .i64 (Y6 .i64 (s.at_+a)))));have aQ:=bi.other (show k.n≠id by omega) bl (.row ([.int .i64 s.at_,.int .i64 s.len].set 0 (.int .i64 (Y6 .i64 (s.at_+a)))));have aS:i6 id H1.n p c (L.set k.n (.row ([.int .i64 s.at_,.int .i64 s.len].set 0 (.int .i64 (Y6 .i64 (s.at_+a)))))):=⟨by show c.n≤L.n;omega,λi o _ _ _ x=>((x.ext aK).ext aN).bZ (by have:=x.1;omega) _⟩
   have n6:(L.set k.n (.row ([.int .i64 s.at_,.int .i64 s.len].set 0 (.int .i64 (Y6 .i64 (s.at_+a)))))).n=L.n:=rfl;simp only[T];generalize L.set k.n (.row ([.int .i64 s.at_,.int .i64 s.len].set 0 (.int .i64 (Y6 .i64 (s.at_+a)))))=M at *;have am:At M k.n (.row (av (V (s.at_+a),s.len))):=am;have f7:∀{d:Z},At d c.n (.row f.cells)→O d 1 false (.ptr c.n 7)=some (.bool f.bits):=λh=>by rw[h.load];exact Aq f
   have f8:∀{d:Z},At d c.n (.row f.cells)→O d 1 false (.ptr c.n 8)=some (.int .i64 f.aM):=λh=>by rw[h.load];exact HC f
   have bn:∀{d:Z},At d c.n (.row f.cells)→O d 6 true (.ptr c.n 1)=some (.agg f.type.cells):=λh=>by rw[h.load];exact wu f
   generalize bL:aC (S.rE (af C) (.int .i64 a) (.ae [.ptr id 0]) (.ae t.cells) (.ptr H.n 0) (.ptr H1.n 0) (au aw.cells t.aE) (.int .i64 t.aE.length) Q)=ao at *;have k1:∀(run':Int×Int)(b3:Bk)(w:I)(d:Z),i6 id H1.n p c d→NB c p w→eE d id w b3→b3.ok→At d H1.n (.row (av run'))→eO t.kind a (f::r) (s::(cq t).drop (i+1)) run b2=eO t.kind a r ((cq t).drop (i+1)) run' b3→S.pO (af C) ([.int .i64 i],c) ao Q [] d:=by intro run' b3 w d z B D N y he;unfold S.pO;simp only[aF,b4,T];rw[bH,cN];exact a7 _ (i+1) run' b3 w d a9 rfl (E.trans G z) (G.trans E.1 B) D N y (hm.trans he)
   have k2 : ∀(m:Int×Int)(b1:Bk)(w:I)(d:Z),m=(if f.bits=false∨f.aM=0∨t.kind=4 then(0,0)else run)→b1=(if f.bits=false∨f.aM=0∨t.kind=4 then iV run b2 else b2)→i6 id H1.n p c d→NB c p w→eE d id w b1→b1.ok→At d H1.n (.row (av m))→At d c.n (.row f.cells)→At d k.n (.row (av (V (s.at_+a),s.len))) →
     S.u4 (af C) (.ae [.ptr id 0]) (.ptr H1.n 0) (.ptr c.n 0) (.ptr k.n 0) ([.int .i64 i],c) ao Q [] d:=by
    intro m b1 w d dC bp z B D N y ay az;have aA:bS w≠some H1.n:=B.ne (by omega) ai;have u:eO t.kind a (f::r) (s::(cq t).drop (i+1)) run b2=if f.bits=false then eO t.kind a r ((cq t).drop (i+1)) m (p9 f (V (s.at_+a)) b1)else if m.2>0 then eO t.kind a r ((cq t).drop (i+1)) (m.1,V (V (V (s.at_+a)+s.len)-m.1)) b1 else if f.aM>0 then eO t.kind a r ((cq t).drop (i+1)) (V (s.at_+a),s.len) b1 else eO t.kind a r ((cq t).drop (i+1)) m b1:=by rw[eO,dC,bp]
    have p0:O d 1 false (.ptr k.n 0)=some (.int .i64 (V (s.at_+a))):=by rw[az.load];rfl
    have bq:O d 1 false (.ptr k.n 1)=some (.int .i64 s.len):=by rw[az.load];rfl
    have br:O d 2 true (.ptr k.n 0)=some (.agg (av (V (s.at_+a),s.len))):=az.all (n:=2) rfl;have bs:O d 1 false (.ptr H1.n 0)=some (.int .i64 m.1):=by rw[y.load];rfl
    have bt:O d 1 false (.ptr H1.n 1)=some (.int .i64 m.2):=by rw[y.load];rfl
    have bu:O d 1 false (.ae [.ptr id 0])=some (.ptr id 0):=rfl;unfold S.u4;simp only[iY,f7 ay,f8 ay,bn ay,p0,bq,br,bs,bt,bu,T,ec,aD,aT];apply aI<;>intro e
    · have J:f.bits=false:=by simpa using e
      rw[aa J,R6]at u;refine hF f bb D N λbv bw aU bx bz bA=>?_;exact k1 m _ bv bw (z.trans B aU.three) (B.trans z.1 bx) bz bA (aU.2 _ _ P aA y) u
    · have J:¬f.bits=false:=by simpa using e
      rw[ab J]at u;simp only[ej,T,aD];apply aI<;>intro e
      · have W:m.2>0:=by simpa using e
        rw[aa W]at u;simp only[b4,fO,T];rw[y.st1 (by show 1<2;decide) ⟨rfl,rfl,rfl⟩];simp only[T];exact k1 _ _ w _ ⟨z.1,λi o hi Y A x=>(z.2 i o hi Y A x).bZ Y _⟩ B (D.other P aA _) N (y.set _) u
      · have W:¬m.2>0:=by simpa using e
        rw[ab W]at u;apply aI<;>intro e
        · have X:f.aM>0:=by simpa using e
          rw[aa X]at u;rw[y.put (n:=2) rfl rfl rfl];simp only[T];exact k1 _ _ w _ ⟨z.1,λi o hi Y A x=>(z.2 i o hi Y A x).bZ Y _⟩ B (D.other P aA _) N (y.set _) u
        · have X:¬f.aM>0:=by simpa using e
          rw[ab X]at u;exact k1 _ _ w d z B D N y u
   have aV:∀v:Bool,(v=true↔f.bits=false∨f.aM=0∨t.kind=4)→S.u5 (af C) (.ae [.ptr id 0]) (.ptr H1.n 0) (.ptr c.n 0) (.ptr k.n 0) ([.int .i64 i],c) ao Q [.bool v] M:=by
    intro v hv;unfold S.u5;simp only[aF,aD,aT];apply aI<;>intro e
    · have hc:=hv.1 e;refine⟨_,_,rfl,?_⟩;rw[qD rfl,qE rfl];show af C 133 [.ptr H1.n 0,.ae [.ptr id 0]] M _;refine JR aj hT hS aQ K aP P ai λbB d aW bC D bE=>?_;have g:∀{i:Nat}{o:bM},c.n≤i→At M i o→At d i o:=λ{i o} hi x=>aW.2 i o (by omega) (by omega) (λe=>by have:=R.l.lt e;omega) x;exact k2 _ _ bB d (aa hc).symm (aa hc).symm (aS.trans (.inl rfl) aW) (bC.imp (λe=>e) λ⟨j,a6,e⟩=>⟨j,by omega,e⟩) D (JQ K run) bE (g (sl _) an) (g (by omega) am)
    · have hc:¬(f.bits=false∨f.aM=0∨t.kind=4):=λq=>e (hv.2 q);exact k2 run b2 p M (ab hc).symm (ab hc).symm aS (.inl rfl) aQ K aP an am
   have ak:∀v:Bool,(v=true↔f.bits=false∨f.aM=0)→S.u6 (af C) (.ae [.ptr id 0]) (.ae t.cells) (.ptr H1.n 0) (.ptr c.n 0) (.ptr k.n 0) ([.int .i64 i],c) ao Q [.bool v] M:=by
    intro v hv;unfold S.u6;simp only[aF,cv,dX,kB,T,cI,aT];apply aI<;>intro e
    · have aX:¬(f.bits=false∨f.aM=0):=λq=>by rw[hv.2 q]at e;simp at e
      refine aV _ ⟨λq=> .inr (.inr (by simpa using q)),λq=>?_⟩;rcases q with q|q|q
      ·exact absurd (.inl q) aX
      ·exact absurd (.inr q) aX
      ·simpa using q
    · have:v=true:=by simpa using e
      exact aV true ⟨λ_=>(hv.1 this).imp (λe=>e) λe=> .inl e,λ_=>rfl⟩
   simp only[f7 an,f8 an,T,ec,cv,cI,aT];apply aI<;>intro e
   · have J:f.bits=true:=by simpa using e
     refine ak _ ⟨λq=> .inr (by simpa using q),λq=>?_⟩;rcases q with q|q
     ·rw[J]at q;cases q
     ·simpa using q
   · have J:f.bits=false:=by simpa using e
     exact ak true ⟨λ_=> .inl J,λ_=>rfl⟩
 exact main t.aE (cq t) 0 (0,0) b F H2 rfl rfl (i6.refl _ _ _ _) (.inl rfl) a3 hb a1 rfl
end
end Rb

namespace Rb
open Go
variable{f:aw}{t:U}{run:Int×Int}
def JS(kind S:Int)(f:aw)(s:be)(b a:Int):Prop:=∃x:Int×Int,s=jI f x∧(if kind=4 then 0 else b)≤x.1∧0≤x.2∧(f.bits=true→x.2=f.aM)∧(f.bits=false→x.1%8=0∧x.2=8*(A f.type).1.1)∧x.1+x.2≤8*S∧a=x.1+x.2
def Fits(kind S:Int):List aw→List be→Int→Prop
 |[],[],_=>True
 |f::r,s::ss,b=>∃a,JS kind S f s b a∧Fits kind S r ss a
 |_,_,_=>False
theorem T8{packed:Bool}{kind a:Int}(d:0≤a)(g:mV packed f)(hb:qa f.type)(ht:(A f.type).2=true) :
  (if kind=4 then 0 else a)≤(eV packed kind a f (A f.type).1).1∧0≤(eV packed kind a f (A f.type).1).2.1∧(f.bits=true→(eV packed kind a f (A f.type).1).2.1=f.aM)∧(f.bits=false→(eV packed kind a f (A f.type).1).1%8=0∧(eV packed kind a f (A f.type).1).2.1=8*(A f.type).1.1):=by
 obtain⟨b1,b2,b3,h⟩:=hb ht;have i:0≤(if kind=4 then(0:Int)else a):=by split;decide;exact d
 unfold eV;dsimp only;generalize (if kind=4 then(0:Int)else a)=b at *;by_cases c:f.bits=true
 · obtain⟨j,k,l,y3,y4,_⟩:=g c;rw[aa c];refine⟨?_,y3,λ_=>rfl,λe=>by rw[c]at e;cases e⟩;show b≤bO b _;split
   ·have:=gE (n:=b) (step:=8*f.type.size) (by omega);omega
   ·rw[rX];exact ab_ _
 · rw [ab c];refine⟨?_,by show 0≤8*(A f.type).1.1;omega,λe=>absurd e c,λ_=>⟨?_,rfl⟩⟩
   · show b≤bO b _;split
     ·have:=gE (n:=b) (step:=8) (by omega);omega
     ·have:=gE (n:=b) (step:=8*(A f.type).1.2) (by omega);omega
   · show bO b _%8=0;split
     ·exact p_ (by decide)
     · have:=p_ (n:=b) (step:=8*(A f.type).1.2) (by omega);rw[←Int.emod_emod_of_dvd (bO b (8*(A f.type).1.2)) (Int.dvd_mul_right 8 (A f.type).1.2),this];rfl
theorem JT{packed:Bool}{kind:Int}:∀{l:List aw}{p q:PL}{n:Nat},n+l.length≤32→iW p n→(∀f∈l,mV packed f∧qa f.type)→dY packed kind p l=some q →
  p.size≤q.size∧iW q (n+l.length)∧∃ss,q.dv=p.dv++ss∧Fits kind q.size l ss p.bit
 | [],p,q,n,hn,hp,hl,h=>by simp only[dY,Yb.injEq]at h;subst h;exact⟨ab_ _,hp,[],by simp,trivial⟩
 | f :: r,p,q,n,hn,hp,hl,h=>by
  obtain⟨o1,o2⟩:=hl f (aaj ..);have c:n+1+r.length≤32:=by rw[abD]at hn;omega
  simp only[dY,p8]at h;by_cases ht:(A f.type).2=true
  · rw [aa ht]at h;obtain⟨b1,b2,b3,d⟩:=o2 ht;have hb:f.bits=true→1≤f.type.size∧f.type.size≤8∧0≤f.aM∧f.aM≤8*f.type.size∧packed=false∧(A f.type).1.2=f.type.size:=λhb=>by
     obtain⟨e,z2,z3,z4,z5,i⟩:=o1 hb;exact⟨z2,z3,z4,z5,i,by rw[mh (.inl e)]⟩
    obtain⟨e1,j⟩:=AX (packed:=packed) (kind:=kind) (g:=(A f.type).1) (by omega) hp b1 b2 b3 d (λq=>⟨(hb q).1,(hb q).2.1,(hb q).2.2.1,(hb q).2.2.2.1⟩);have k:=AZ (kind:=kind) hp (f:=f) (g:=(A f.type).1) b3 (λq=>⟨(hb q).1,(hb q).2.2.1,(hb q).2.2.2.1,(hb q).2.2.2.2.1,(hb q).2.2.2.2.2⟩);obtain⟨s1,m,ss,a,b⟩:=JT c j (λg o=>hl g (aai _ o)) h;obtain⟨l1,l2,l3,l4⟩:=T8 (kind:=kind) hp.b0 o1 o2 ht;rw[e1,k]at a b s1;generalize eV packed kind p.bit f (A f.type).1=x at *;have s:=gE (n:=x.1+x.2.1) (step:=8) (by decide);have t:=p_ (n:=x.1+x.2.1) (step:=8) (by decide);have s1:max p.size (bO (x.1+x.2.1) 8/8)≤q.size:=s1;refine⟨by omega,by rw[abD,abB r.length,←Nat.add_assoc];exact m,jI f (x.1,x.2.1)::ss,by rw[a,acC];rfl,x.1+x.2.1,⟨(x.1,x.2.1),rfl,l1,l2,l3,l4,by show x.1+x.2.1≤_;omega,rfl⟩,b⟩
  ·rw[ab ht]at h;cases h
theorem BU(h:t.lay)(a:t.kind=3∨t.kind=4):∃S,0≤S∧S≤(A t).1.1∧(A t).1.1≤65536∧Fits t.kind S t.aE (cq t) 0:=by
 obtain⟨p,hp,hu,_⟩:=qc h a;have b:=fD h.snd;have hlen:=A3 b a;have c:∀f∈t.aE,mV t.packed f:=by
  have hs:=b;rw[gD]at hs;split at hs
  ·exact absurd hs (by decide)
  · rw[ab (show ¬t.kind=1 by omega),ab (show ¬t.kind=2 by omega),ab (show ¬t.kind=5 by omega),bw]at hs;exact A2 hs
 obtain⟨s1,hb,ss,d,g⟩:=JT (n:=0) (by omega) iW.zero (λf hf=>⟨c f hf,A4 f.type ((mR b a).1 f hf)⟩) hp;have s0:0≤p.size:=s1;have e:(A t).1.1=ca p.size p.bP:=by rw[lC,bw,bw,hp]
 have i:ca p.size p.bP=bO p.size p.bP:=mU s0 (by have:=hb.s1;simp only[YI]at this;omega) (by have:=hb.a0;omega) (by have:=hb.a1;omega);have j:=gE (n:=p.size) (step:=p.bP) (by have:=hb.a0;omega);refine⟨p.size,s0,by omega,by omega,?_⟩;unfold cq;rw[hp];dsimp only;rw[d];exact g
def km(a n:Int)(s:Int×Int):Prop:=a≤s.1∧1≤s.2∧s.1+s.2≤a+n
theorem km.mono{a n m:Int}{s:Int×Int}(h:km a n s)(k:n≤m):km a m s:=⟨h.1,h.2.1,by have:=h.2.2;omega⟩
def jN(kind a S b:Int)(run:Int×Int):Prop:=run.2>0→km a S run∧(kind≠4→1≤b∧run.1+run.2-a=(b-1)/8+1)
theorem jN.zero(kind a S b:Int):jN kind a S b (0,0):=λh=>absurd h (by decide)
theorem jN.fw{kind a S b:Int}(h:jN kind a S b run):∀s∈fw run,km a S s:=by
 intro s hs;unfold Rb.fw at hs;split at hs
 · rename_i c;rw[acL.1 hs];exact(h c).1
 ·cases hs
theorem xA{x y:Int}(a:0≤x)(b:x≤1000000)(c:0≤y)(d:y≤10000000000000):V (x+y)=x+y:=bH
theorem BV{kind a S:Int}(ha:0≤a)(eK:a+S≤5000000000000)(hS:0≤S∧S≤65536){s:be}{r:List aw}{ss:List be}{b i:Int}(hb:0≤b)(hF:JS kind S f s b i)(q:jN kind a S b run) :
  ∃ run' pre,ew kind a (f::r) (s::ss) run=((ew kind a r ss run').1,pre++(ew kind a r ss run').2)∧0≤i∧jN kind a S i run'∧(∀u∈pre,u∈fw run∨(f.bits=false∧u∈aG f.type (s.at_+a))) ∧
   (f.bits=false→0≤s.at_∧s.at_+(A f.type).1.1≤S∧∀u∈aG f.type (s.at_+a),u∈pre)∧(f.bits=true→0<f.aM→run'.2>0∧run'.1≤s.at_+a∧s.at_+a+s.len≤run'.1+run'.2)∧(run.2>0→run∈pre∨(run'.1=run.1∧run.2≤run'.2)):=by
 obtain⟨x,hs,t,B,v,w,C,D⟩:=hF;have E:0≤(if kind=4 then(0:Int)else b):=by split;decide;exact hb
 have d:0≤i:=by omega
 have m:run.2>0→run∈fw run:=λh=>by unfold fw;rw[aa h];exact acL.2 rfl
 rw[ew];by_cases c:f.bits=false
 · have n:f.bits=false∨f.aM=0∨kind=4:= .inl c;simp only[aa n,aa c];obtain⟨F,G⟩:=w c;have j:s=⟨x.1/8,x.2/8,f.type.kind,false,0,0⟩:=by rw[hs];unfold jI;rw[ab (by rw[c];decide)]
   have y:s.at_=x.1/8:=by rw[j]
   rw[R8,xA (by omega) (by omega) ha (by omega)];refine⟨(0,0),fw run++aG f.type (s.at_+a),by rw[acC],d,jN.zero _ _ _ _,λu hu=>?_,λ_=>⟨by omega,by omega,λu hu=>acO _ hu⟩,λe=>absurd e (by rw[c];decide),λh=> .inl (acP _ (m h))⟩;exact(aaa.1 hu).imp id λh=>⟨c,h⟩
 · have h1:f.bits=true:=by simpa using c
   have hw:=v h1;rw[ab c];have j:s=⟨x.1/8,if x.2>0 then(x.1+x.2-1)/8-x.1/8+1 else 0,1,true,x.1%8,x.2⟩:=by rw[hs];unfold jI;rw[aa h1]
   have y:s.at_=x.1/8:=by rw[j]
   have p:s.len=if x.2>0 then(x.1+x.2-1)/8-x.1/8+1 else 0:=by rw[j]
   by_cases he:f.aM=0∨kind=4
   · have n:f.bits=false∨f.aM=0∨kind=4:= .inr he;simp only[aa n];rw[ab (show ¬((0,0):Int×Int).2>0 by decide)];by_cases g:f.aM>0
     · rw[aa g];have o:x.2>0:=by omega
       rw[aa o]at p;rw[xA (by omega) (by omega) ha (by omega)];exact⟨(s.at_+a,s.len),fw run,rfl,d,λ_=>⟨⟨by show a≤s.at_+a;omega,by show 1≤s.len;omega,by show s.at_+a+s.len≤_;omega⟩,λk=>absurd (he.resolve_left (by omega)) k⟩,λu hu=> .inl hu,λe=>absurd e c,λ_ _=>⟨by show s.len>0;omega,ab_ _,ab_ _⟩,λh=> .inl (m h)⟩
     · rw[ab g];exact⟨(0,0),fw run,rfl,d,jN.zero _ _ _ _,λu hu=> .inl hu,λe=>absurd e c,λ_ h=>absurd h g,λh=> .inl (m h)⟩
   · have z:¬(f.bits=false∨f.aM=0∨kind=4):=λe=>e.elim c he;simp only[ab z];have g:f.aM>0:=by omega
     have o:x.2>0:=by omega
     have k:kind≠4:=λe=>he (.inr e);rw[ab k]at t;rw[aa o]at p;by_cases l:run.2>0
     · rw[aa l];obtain⟨⟨i1,i2,i3⟩,i4⟩:=q l;obtain⟨H,I⟩:=i4 k;rw[xA (by omega) (by omega) ha (by omega),show V (s.at_+a+s.len)=s.at_+a+s.len from bH,show V (s.at_+a+s.len-run.1)=s.at_+a+s.len-run.1 from bH];exact⟨(run.1,s.at_+a+s.len-run.1),[],rfl,d,λ_=>⟨⟨i1,by show 1≤s.at_+a+s.len-run.1;omega,by show run.1+(s.at_+a+s.len-run.1)≤_;omega⟩,λ_=>⟨by omega,by show run.1+(s.at_+a+s.len-run.1)-a=_;omega⟩⟩,λu hu=>(by cases hu),λe=>absurd e c,λ_ _=>⟨by show s.at_+a+s.len-run.1>0;omega,by show run.1≤_;omega,by show _≤run.1+(s.at_+a+s.len-run.1);omega⟩,λ_=> .inr ⟨rfl,by show run.2≤s.at_+a+s.len-run.1;omega⟩⟩
     · rw[ab l,aa g,xA (by omega) (by omega) ha (by omega)];exact⟨(s.at_+a,s.len),[],rfl,d,λ_=>⟨⟨by show a≤s.at_+a;omega,by show 1≤s.len;omega,by show s.at_+a+s.len≤_;omega⟩,λ_=>⟨by omega,by show s.at_+a+s.len-a=_;omega⟩⟩,λu hu=>(by cases hu),λe=>absurd e c,λ_ _=>⟨by show s.len>0;omega,ab_ _,ab_ _⟩,λh=>absurd h l⟩
section
variable{kind a S:Int}(ha:0≤a)(eK:a+S≤5000000000000)(hS:0≤S∧S≤65536)
include ha eK hS
theorem JU:∀(l:List aw)(ss:List be)(b:Int)(run:Int×Int),0≤b→Fits kind S l ss b→jN kind a S b run →
  (∀f∈l,f.bits=false→∀c,0≤c→c+(A f.type).1.1≤5000000000000→∀s∈aG f.type c,km c (A f.type).1.1 s) →
  ∀s∈(ew kind a l ss run).2++fw (ew kind a l ss run).1,km a S s
 |[],ss,b,run,hb,hf,d,hl=>by rw[ew];exact d.fw
 |f::r,[],b,run,hb,hf,d,hl=>hf.elim
 | f :: r,s::ss,b,run,hb,hf,d,hl=>by
  obtain⟨i,hF,j⟩:=hf;obtain⟨run',pre,e,k,m,hp,n,_⟩:=BV ha eK hS (r:=r) (ss:=ss) hb hF d;rw[e];intro u hu;dsimp only at hu;rw[acC]at hu;rcases aaa.1 hu with hu|hu
  · rcases hp u hu with hu|⟨h,hu⟩
    ·exact d.fw u hu
    · obtain⟨q,t,_⟩:=n h;obtain⟨v,o,w⟩:=hl f (aaj ..) h (s.at_+a) (by omega) (by omega) u hu;exact⟨by omega,o,by omega⟩
  ·exact JU r ss i run' k j m (λg p=>hl g (aai _ p)) u hu
theorem JV:∀(l:List aw)(ss:List be)(b:Int)(run:Int×Int),0≤b→Fits kind S l ss b→jN kind a S b run→run.2>0 →
  ∃u∈(ew kind a l ss run).2++fw (ew kind a l ss run).1,u.1=run.1∧run.2≤u.2
 |[],ss,b,run,hb,hf,c,h=>⟨run,by rw[ew];show run∈[]++fw run;unfold fw;rw[aa h];exact acL.2 rfl,rfl,ab_ _⟩
 |f::r,[],b,run,hb,hf,c,h=>hf.elim
 | f :: r,s::ss,b,run,hb,hf,c,h=>by
  obtain⟨d,hF,g⟩:=hf;obtain⟨run',pre,e,i,j,_,_,_,hk⟩:=BV ha eK hS (r:=r) (ss:=ss) hb hF c;rw[e];rcases hk h with hk|⟨k1,k2⟩
  ·exact⟨run,acP _ (acP _ hk),rfl,ab_ _⟩
  · obtain⟨u,hu,k,m⟩:=JV r ss d run' i g j (by omega);exact⟨u,by show u∈(pre++_)++_;rw[acC];exact acO _ hu,k.trans k1,by omega⟩
theorem JW:∀(l:List aw)(ss:List be)(b:Int)(run:Int×Int),0≤b→Fits kind S l ss b→jN kind a S b run→∀(n:Nat)(f:aw)(s:be),l[n]?=some f→ss[n]?=some s →
  (f.bits=false→∀u∈aG f.type (s.at_+a),u∈(ew kind a l ss run).2++fw (ew kind a l ss run).1)∧(f.bits=true→0<f.aM→∃u∈(ew kind a l ss run).2++fw (ew kind a l ss run).1,u.1≤s.at_+a∧s.at_+a+s.len≤u.1+u.2)
 |[],ss,b,run,hb,hf,c,n,f,s,h,k=>by simp at h
 |f::r,[],b,run,hb,hf,c,n,g,s,h,k=>hf.elim
 | f::r,s::ss,b,run,hb,hf,c,n,g,t,h,k=>by
  obtain⟨j,hF,m⟩:=hf;obtain⟨run',pre,e,o,p,_,v,hw,_⟩:=BV ha eK hS (r:=r) (ss:=ss) hb hF c;rw[e];show(_→∀u∈_,u∈(pre++_)++_)∧(_→_→∃u∈(pre++_)++_,_)
  rw[acC];cases n with
  | zero=>simp only[abj,Yb.injEq]at h k;subst h k;refine⟨λd u hu=>acP _ ((v d).2.2 u hu),λh1 i=>?_⟩;obtain⟨w1,w2,w3⟩:=hw h1 i;obtain⟨u,hu,q,w⟩:=JV ha eK hS r ss j run' o m p w1;exact⟨u,acO _ hu,by omega,by omega⟩
  | succ n=>simp only[abk]at h k;obtain⟨c1,c2⟩:=JW r ss j run' o m p n g t h k;refine⟨λd u hu=>acO _ (c1 d u hu),λh1 i=>?_⟩;obtain⟨u,hu,q⟩:=c2 h1 i;exact⟨u,acO _ hu,q⟩
end
theorem sC{t e:U}(h:t.lay)(a:t.kind=5){c:List U}(b:t.aU=e::c):1≤t.ba∧t.ba≤65536∧0≤(A e).1.1∧(A t).1.1=(A e).1.1*t.ba∧(A t).1.1≤65536:=by
 have hs:=fD h.snd;have hle:=xb h a (e:=e) (by rw[b];exact aaj ..);obtain⟨b1,b2,_,_⟩:=Bh e (fD hle.snd) hle.of;have hc:1≤t.ba∧t.ba≤65536:=by
  rw[gD]at hs;split at hs
  ·exact absurd hs (by decide)
  · rw[ab (show ¬t.kind=1 by omega),ab (show ¬t.kind=2 by omega)]at hs;split at hs
    ·exact absurd hs (by decide)
    ·omega
 have f:=h.of;have hm:0≤(A e).1.1*t.ba∧(A e).1.1*t.ba≤65536*65536:=⟨acf b1 (by omega),Int.mul_le_mul b2 hc.2 (by omega) (by omega)⟩
 have e1:(A t).1.1=V ((A e).1.1*t.ba):=by rw[lC,bw,aa a,b];rfl
 have d:V ((A e).1.1*t.ba)=(A e).1.1*t.ba:=bH;have hb:=Bh t hs h.of;exact⟨hc.1,hc.2,b1,e1.trans d,hb.2.1⟩
mutual
theorem sD:∀t:U,t.lay→∀a,0≤a→a+(A t).1.1≤5000000000000→∀s∈aG t a,km a (A t).1.1 s
 | .mk kind size packed aE ba aU,h,a,ha,eK,s,hs=>by
  have hz:=nX (fD h.snd);rw[aG]at hs;by_cases j:kind=1∨kind=2
  · rw[aa j]at hs;have:=(wV (fD h.snd) j).1;rw[acL.1 hs,mh j];exact⟨ab_ _,this,ab_ _⟩
  · rw [ab j]at hs;by_cases d:kind=5
    · rw [aa d]at hs;split at hs
      · rename_i hp;have q:=JX aU λe he=>xb h d he;obtain⟨e,b,_⟩:=lz (fD h.snd) d;have b:aU=[e]:=b;have n:fc aU=A e:=by rw[b,fc]
        have hle:∀a,n_ aU a=aG e a:=λa=>by rw[b,n_]
        rw[n]at hp;simp only[n,hle]at hs;obtain⟨c1,c2,c3,o,c5⟩:=sC h d b;obtain⟨i,hi,p⟩:=acQ.1 hs;rw[acR]at hi;have c1:1≤ba:=c1;have u:(i:Int)+1≤ba:=by omega
        have hm:(A e).1.1*((i:Int)+1)≤(A e).1.1*ba:=acS u c3;have w:0≤(i:Int)*(A e).1.1:=acf (by omega) c3;have x:(A e).1.1*((i:Int)+1)=(i:Int)*(A e).1.1+(A e).1.1:=by rw[ace,acT,ab6]
        have o:_=(A e).1.1*ba:=o;rw[show V ((i:Int)*(A e).1.1)=(i:Int)*(A e).1.1 from bH,show V (a+(i:Int)*(A e).1.1)=a+(i:Int)*(A e).1.1 from bH]at p;obtain⟨y,v,z⟩:=q e (by rw[b];exact aaj ..) (a+(i:Int)*(A e).1.1) (by omega) (by omega) s p;exact⟨by omega,v,by omega⟩
      ·cases hs
    · rw[ab d]at hs;have hk:kind=3∨kind=4:=by have:kind=1∨kind=2∨kind=5∨kind=3∨kind=4:=hz;omega
      obtain⟨S,s0,s1,s2,hf⟩:=BU h hk;refine(JU ha (by omega) ⟨s0,by omega⟩ aE _ 0 (0,0) (ab_ _) hf (jN.zero _ _ _ _) (JY aE λf hf=>oh h hk hf) s hs).mono s1
theorem JX:∀(l:List U),(∀e∈l,e.lay)→∀e∈l,∀c,0≤c→c+(A e).1.1≤5000000000000→∀s∈aG e c,km c (A e).1.1 s
 |[],hl,e,he=>by cases he
 | t::r,hl,e,he=>by
  rcases aah.1 he with h|he
  ·rw[h];exact λc k c1=>sD t (hl t (aaj ..)) c k c1
  ·exact JX r (λg m=>hl g (aai _ m)) e he
theorem JY:∀(l:List aw),(∀f∈l,f.type.lay)→∀f∈l,f.bits=false→∀c,0≤c→c+(A f.type).1.1≤5000000000000→∀s∈aG f.type c,km c (A f.type).1.1 s
 |[],hl,f,hf,_=>by cases hf
 | .mk E type bits aM::r,hl,f,hf,hb=>by
  rcases aah.1 hf with rfl|hf
  · have h:=hl _ (aaj ..);exact λc k c1=>sD type h c k c1
  ·exact JY r (λg m=>hl g (aai _ m)) f hf hb
end
end Rb

namespace Rb
open Go
theorem BW:∀l:List (Int×Int),I.cf (l.flatMap av)=l.flatMap av
 |[]=>rfl
 |x::r=>by rw[abe,jJ,BW r];rfl
theorem xB:∀l:List (Int×Int),I.bA (l.flatMap av)=true
 |[]=>rfl
 | x::r=>by rw[abe];show I.bA (.int .i64 x.1 :: .int .i64 x.2::r.flatMap av)=true;simp[I.bA,I.bb,xB r]
theorem T9{H:Z}{id:Nat}{F:I}{b:Bk}(h:eE H id F b):∃x H',jT H (.ptr id 0)=some (x,H')∧aZ x=some x∧∃y z,W 0 x=some y∧O H' 1 false y=some z∧z.cd=au av b.l:=by
 have ha:=h.a.2;rcases h.l.2 with⟨tk,ht,f,c⟩|⟨j,cs,m,c,g,i,k,n⟩
 · have hl:b.l=[]:=Zi.1 f;refine⟨.ae [F,.bool b.full],H.set id .gone,?_,rfl,.ae [F,.bool b.full],F,rfl,rfl,?_⟩
   ·simp only[jT,ha,c,gP,Option.map_none,abt]
   ·rw[c,hl];rfl
 · have o:j≠id:=λe=>h.d (by rw[c,←e];rfl);refine⟨.ptr id 0,(H.set j .gone).set id (.row [.ak .dead b.l.length (b.l.flatMap av),.bool b.full]),?_,rfl,.ptr id 0,.ak .dead b.l.length (b.l.flatMap av),rfl,?_,?_⟩
   · simp only[jT,ha,c,gP,g.2,YI,abt];rw[aa (by rw[i];exact Nat.mul_le_mul_right _ k),n];simp only[ab o]
   ·simp only[O,Z.Hy];rfl
   ·simp only[I.cd,BW];rfl
section
variable{C:Ctx}(aj:bN C)(hT:Cl (af C) S.bu)(hS:nf (af C))
include aj hT hS
theorem find_spec:∀t:U,t.lay→JP C t:=by
 refine U.ind λt M N ht=>?_;intro H Q id F b a h hb hQ;have hs:=fD ht.snd;rw[T5]at hQ;refine S.Pf hT ?_;unfold S.f57;simp only[gC,aR,dX,kB,T,cI,aD,aT];have E : ∀ v:Bool,(v=true↔t.kind=1∨t.kind=2)→S.uR (af C) (.ptr id 0) (.int .i64 a) (.ae t.cells) (.int .i64 t.kind) Q [.bool v] H:=by
  intro v hv;unfold S.uR;simp only[aF,aD];apply aI<;>intro e
  · have hk:=hv.1 e;rw[aa hk]at hQ;simp only[dX,p3,T];rw[show bo [.int .i64 0,.int .i64 0] [(0,1,.int .i64 a),(1,1,.int .i64 t.size)]=some (.agg (av (a,t.size)))from rfl];simp only[T];exact JD aj hT hS h hb (a,t.size) hQ
  · have hk : ¬(t.kind=1∨t.kind=2):=λq=>e (hv.2 q);rw[ab hk]at hQ;simp only[cI,T,aD];apply aI<;>intro e
    · have m:t.kind=5:=by simpa using e
      rw[aa m]at hQ;obtain⟨c,g,_⟩:=lz hs m;have hle:=xb ht m (e:=c) (by rw[g];exact aaj ..);have P:fc t.aU=A c:=by rw[g,fc]
      have R:∀a b,n5 t.aU a b=ft c a b:=λa b=>by rw[g,n5]
      rw[P]at hQ;simp only[R]at hQ;obtain⟨c1,c2,c3,ak,c5⟩:=sC ht m g;have e0:t.aU[0]?=some c:=by rw[g];rfl
      simp only[dX,ly,T];rw[show aP none 6 (au U.cells t.aU) (.int .i64 0)=some (dN U.cells 6 t.aU 0)from cQ (by rw[g];exact acU)];simp only[T];rw[dD U.len (by decide) _ e0];simp only[T];refine wN aj hT c (fD hle.snd) _ _ ?_;simp only[lD,bj,abj,abk,T,aL,a_,aR];rw[cS _ _ _ 2 rfl rfl rfl];simp only[T];have rs:=At.new H (.row (av (A c).1));have p:=Z.Ext.push H (.row (av (A c).1));have al:=h.a.1;have W:bS F≠some H.n:=h.lt;have G:∀{x:I},NB (H.push (.row (av (A c).1))) F x→NB H F x:=λh=>h.imp (λe=>e) λ⟨j,am,e⟩=>⟨j,by have:=p.1;omega,e⟩
      have an:(H.push (.row (av (A c).1))).n=H.n+1:=rfl;have main:∀(n i:Nat)(b2:Bk)(k:I)(d:Z),i+n=t.ba.toNat→i6 id H.n F (H.push (.row (av (A c).1))) d→NB (H.push (.row (av (A c).1))) F k→eE d id k b2→b2.ok→At d H.n (.row (av (A c).1)) →
        (if(A c).1.1>0 then kf (λi b=>ft c (V (a+V (i*(A c).1.1))) b) t.ba.toNat 0 b else b)=(if(A c).1.1>0 then kf (λi b=>ft c (V (a+V (i*(A c).1.1))) b) n i b2 else b2) →
        aC (S.rC (af C) (.ptr id 0) (.int .i64 a) (.ae t.cells) (.ptr H.n 0) Q) ([.int .i64 i],d):=by
       intro n;induction n with
       | zero=>
        intro i b2 k d hi l r s w y hm;have z:(if(A c).1.1>0 then kf (λi b=>ft c (V (a+V (i*(A c).1.1))) b) t.ba.toNat 0 b else b)=b2:=by rw[hm];split;rw[kf];rfl
        rw[z]at hQ;refine aC.step ?_;simp only[S.rC,aF,dX,rR,bD,T,cP,aT];rw[ee];unfold S.uQ;simp only[aF,cP,aT,ZP,bR];unfold S.pM;simp only[aF,aD,ZP,bR];exact hQ k d ⟨by have:=p.1;have:=l.1;omega,λi o hi B u=>l.2 i o hi (by have:=u.1;omega) B (u.ext p)⟩ (G r) s w
       | succ n X=>
        intro i b2 k d hi l r s w y hm;refine aC.step ?_;simp only[S.rC,aF,dX,rR,bD,T,cP,aT];rw[dW];have p0:O d 1 false (.ptr H.n 0)=some (.int .i64 (A c).1.1):=by rw[y.load];rfl
        simp only[iY,p0,T,ej];unfold S.uQ;simp only[aF,cP,aT];have fin:((A c).1.1>0→b2.full=true)→S.pM (af C) (.ptr id 0) (.int .i64 a) (.ae t.cells) (.ptr H.n 0) ([.int .i64 i],d) (aC (S.rC (af C) (.ptr id 0) (.int .i64 a) (.ae t.cells) (.ptr H.n 0) Q)) Q [.bool false] d:=by
         intro hf;unfold S.pM;simp only[aF,aD,ZP,bR];have z:(if(A c).1.1>0 then kf (λi b=>ft c (V (a+V (i*(A c).1.1))) b) t.ba.toNat 0 b else b)=b2:=by
          rw[hm];split
          · rename_i hp;rw[kf,aa (hf hp)]
          ·rfl
         rw[z]at hQ;exact hQ k d ⟨by have:=p.1;have:=l.1;omega,λi o hi B u=>l.2 i o hi (by have:=u.1;omega) B (u.ext p)⟩ (G r) s w
        apply aI<;>intro e
        · have hp:(A c).1.1>0:=by simpa using e
          rw[show aZ (.ptr id 0)=some (.ptr id 0)from rfl];simp only[T,iY,s.ld1,ec];cases J:b2.full
          · unfold S.pM;simp only[aF,aD,Bool.not_false,a_,aT];unfold S.Fg;simp only[dX,ly,T];rw[show aP none 6 (au U.cells t.aU) (.int .i64 0)=some (dN U.cells 6 t.aU 0)from cQ (by rw[g];exact acU)];simp only[T];rw[dD U.len (by decide) _ e0];simp only[T,iY,p0,aF,jF,b4];rw[aa hp,aa hp,kf,J,eM]at hm;refine N c (by rw[g];exact aaj ..) hle s w λY ac K ad ag ah=>?_;rw[bH,cN];have ai:bS k≠some H.n:=r.ne (by omega) W;refine X (i+1) _ Y ac (by omega) (l.trans r K.three) (r.trans l.1 ad) ag ah (K.2 _ _ (by omega) ai y) ?_;rw[aa hp,aa hp];exact hm
          · rw[abW];exact fin λ_=>J
        · have hp:¬(A c).1.1>0:=by simpa using e
          exact fin λq=>absurd q hp
      exact main t.ba.toNat 0 b F _ (by omega) (i6.refl _ _ _ _) (.inl rfl) (h.ext p) hb rs rfl
    · have m:¬t.kind=5:=by simpa using e
      rw[ab m]at hQ;have L:t.kind=3∨t.kind=4:=by have:=nX hs;omega
      simp only[iT,T];exact T7 aj hT hS ht L (λf hf=>M f hf (oh ht L hf)) h hb hQ
 apply aI<;>intro e
 · have D:t.kind=1:=by simpa using e
   exact E _ ⟨λ_=> .inl D,λ_=>e⟩
 · have D:¬t.kind=1:=by simpa using e
   exact E _ ⟨λq=> .inr (by simpa using q),λq=>by simpa using q.resolve_left D⟩
theorem T_{t:U}(ht:t.ok):bB (af C) 30 [.agg t.cells] (.aq [au av (eD t).1,.int .i64 (eD t).2]):=by
 refine bB.of aj (by simp[I.bA,I.bb,U.bb]) (by show I.bb (.aq [.ak .dead (eD t).1.length ((eD t).1.flatMap av),.int .i64 _])=true;simp[I.bb,I.bA,xB,Tok.free]) λQ hQ=>?_
 refine af.cd ?_;refine S.O5 hT ?_;unfold S.f30;simp only[gC,aR,iT,T];refine S.Ah hT (AN aj hT t ht λH1=>?_);simp only[bj,abj,abk,T,aR,aL,a_];rw[cS _ _ _ 2 rfl rfl rfl];simp only[T,d_,aD];apply aI<;>intro e
 · have a:(aX t).2≠0:=by simpa using e
   have hl:eD t=([],(aX t).2):=by unfold eD;rw[aa a]
   rw[hl]at hQ;exact hQ _
 · have a:(aX t).2=0:=by simpa using e
   have d:=mY ht a;generalize H1.push (.row [.int .i64 (aX t).1.1,.int .i64 (aX t).1.2])=H2 at *;rw[show bo [.ak .nil 0 [],.bool false] []=some (.agg [.ak .nil 0 [],.bool false])from rfl];simp only[T];rw[show aO H2 true 2 (.agg [.ak .nil 0 [],.bool false])=some (.ptr H2.n 0,H2.push (.row [.ak .nil 0 [],.bool false]))from rfl];simp only[aR,iT,T];have hb:eE (H2.push (.row [.ak .nil 0 [],.bool false])) H2.n (.ak .nil 0 []) ⟨[],false⟩:=⟨At.new H2 _,cK.nil _ _,λe=>by cases e⟩
   refine find_spec aj hT hS t d hb ⟨Yt _,λ_=>Yt _⟩ λh i j k f g=>?_;refine JC aj hT hS f g.1 λm o n4 p r b=>?_;have c:eD t=if((ft t 0 ⟨[],false⟩).tidy).full then([],12)else(((ft t 0 ⟨[],false⟩).tidy).l,0):=by unfold eD;rw[ab (λq=>q a)]
   rw[show aZ (.ptr H2.n 0)=some (.ptr H2.n 0)from rfl];simp only[T,iY,b.ld1,aD];apply aI<;>intro e
   · rw[c,aa e]at hQ;exact hQ _
   · rw[c,ab e]at hQ;obtain⟨x,s,f1,f2,y,z,f3,f4,f5⟩:=T9 b;rw[f1];simp only[aR,f2,T,f3,f4];simp only[I.cd,I.cf,f5];exact hQ _
end
end Rb

namespace Rb
open Go
variable{t:U}{p:K}
theorem JZ{r:List K}(h:(cb t (p::r)).1=0):cb t (p::r)=cb (cV t p).2 r:=by
 rw[cb];by_cases c:(cV t p).1≠0
 ·rw[cb,aa c]at h;exact absurd h c
 ·rw[ab c]
theorem BX{kind S:Int}:∀(l:List aw)(ss:List be)(b:Int),0≤b→Fits kind S l ss b→∀(n:Nat)(f:aw)(s:be),l[n]?=some f→ss[n]?=some s →
  (0≤s.at_∧s.at_≤S)∧(f.bits=false→s.bits=false∧s.at_+(A f.type).1.1≤S)∧(f.bits=true→s.bits=true∧0≤f.aM)
 |[],ss,b,hb,hf,n,f,s,h,k=>by simp at h
 |f::r,[],b,hb,hf,n,g,s,h,k=>hf.elim
 | f :: r,s::ss,b,hb,hf,n,g,t,h,k=>by
  obtain⟨c,⟨x,hs,o,p,d,i,q,u⟩,j⟩:=hf;have v:0≤(if kind=4 then(0:Int)else b):=by split;decide;exact hb
  cases n with
  | zero=>
   simp only[abj,Yb.injEq]at h k;subst h k;rw[hs];unfold jI;by_cases a:f.bits=true
   · rw[aa a];have:=d a;exact⟨⟨by show 0≤x.1/8;omega,by show x.1/8≤S;omega⟩,λe=>absurd a (by rw[e];decide),λ_=>⟨rfl,by omega⟩⟩
   · rw[ab a];have m:f.bits=false:=by simpa using a
     obtain⟨w,y⟩:=i m;exact⟨⟨by show 0≤x.1/8;omega,by show x.1/8≤S;omega⟩,λ_=>⟨rfl,by show x.1/8+_≤S;omega⟩,λe=>absurd e a⟩
  | succ n=>simp only[abk]at h k;exact BX r ss c (by omega) j n g t h k
theorem J0{packed:Bool}:∀{l:List aw}{seen:List (List UInt8)},fo packed seen l=0→∀f∈l,f.bits=true→f.E≠[]→f.aM≠0
 |[],_,_,f,hf=>by cases hf
 | g :: r, seen,h,f,hf=>by
  intro hb hn hw;simp only[fo]at h;have a:gb packed seen g=0:=by
   by_cases hz:gb packed seen g=0
   ·exact hz
   ·rw[aa hz]at h;exact absurd h hz
  rw[ab (by simpa using a)]at h;rcases aah.1 hf with rfl|hf
  · rw [mQ]at a;split at a
    ·cases a
    · split at a
      ·cases a
      · split at a
        ·rename_i hz;exact hz a
        · split at a
          ·cases a
          ·rw[aa ⟨hb,.inr (.inr ⟨hw,hn⟩)⟩]at a;cases a
  ·exact J0 h f hf hb hn hw
theorem J1(h:t.lay)(b:t.kind=3∨t.kind=4)(hp:(cV t p).1=0)(hi:p.bc=[]){n:Nat}{f:aw}(c:t.aE.findIdx? (λf=>f.E==p.field)=some n)(a:t.aE[n]?=some f)(hb:f.bits=true):f.aM≠0:=by
 have hn:p.field≠[]:=λe=>by unfold cV at hp;rw[aa (.inr (by rw[hi,e];decide))]at hp;have:(8:Int)=0:=hp;omega
 have he:f.E=p.field:=by have:=List.findIdx?_eq_some_iff_getElem.1 c;obtain⟨d,q,_⟩:=this;rw[YO d,Yb.injEq]at a;rw[a]at q;exact eq_of_beq q
 exact J0 (AK (fD h.snd) b) f (aaH a) hb (by rw[he];exact hn)
def J2(G:Int)(l:List (Int×Int))(s:be):Prop:=∃u∈l,G+u.1≤s.at_∧s.at_+s.len≤G+u.1+u.2
theorem BZ{G:Int}(hG:0≤G)(y:G≤1000000000000):∀(r:List K)(t:U)(sp out:be)(idx:List Int)(a:Int),t.lay→(∀i∈idx,0≤i∧i≤18446744073709551615)→eU r t sp idx=some out→(cb t r).1=0→((cb t r).2.kind=1∨(cb t r).2.kind=2) →
  0≤a→a+(A t).1.1≤1000000→sp.at_=G+a→sp.bits=false→sp.len=(A t).1.1→J2 G (aG t a) out
 | [],t,sp,out,idx,a,h,hi,hw,hp,hk,ha,eK,I,hb,hl=>by
  rw[eU,Yb.injEq]at hw;subst hw;rw[cb]at hk;have hk:t.kind=1∨t.kind=2:=hk;refine⟨(a,t.size),?_,by show G+a≤_;omega,?_⟩
  ·cases t;rw[aG,aa hk];exact acL.2 rfl
  · rw[mh hk]at hl;show _≤G+a+t.size;have hl:sp.len=t.size:=hl;omega
 | p :: r,t,sp,out,idx,a,h,hi,hw,hp,hk,ha,eK,I,hb,hl=>by
  obtain⟨z,c⟩:=kH hp;have B:=JZ hp;rw[eU.eq_def]at hw;dsimp only at hw;rcases lO h z with⟨J,b,e,L,he,d,s⟩|⟨C,b,n2,f,s2,f1,f2,f3,d,l⟩
  · rw [aa J]at hw;cases idx with
    |nil=>cases hw
    | cons i q=>
     dsimp only at hw;rw[he]at hw;dsimp only at hw;by_cases v:i≥lJ t.ba
     ·rw[aa v]at hw;cases hw
     · rw [ab v]at hw;obtain⟨c1,c2,c3,Z,c5⟩:=sC h b he;have M:lJ t.ba=t.ba:=wj;rw[M]at v;obtain⟨i0,i1⟩:=hi i (aaj ..);have w:i+1≤t.ba:=by omega
       have hm:(A e).1.1*(i+1)≤(A e).1.1*t.ba:=acS w c3;have ac:0≤i*(A e).1.1:=acf i0 c3;have ad:(A e).1.1*(i+1)=i*(A e).1.1+(A e).1.1:=by rw[ace,acT,ab6]
       have hle:(aX e).1.1=(A e).1.1:=by rw[s.zero]
       have N:Y6 .i64 i=i:=bH;rw[N,hle,show V (i*(A e).1.1)=i*(A e).1.1 from bH,show V (sp.at_+i*(A e).1.1)=sp.at_+i*(A e).1.1 from bH]at hw;rw[d]at c;rw[B,d]at hk;obtain⟨u,hu,m,n⟩:=BZ hG y r e _ out q (a+i*(A e).1.1) s (λj O=>hi j (aai _ O)) hw c hk (by omega) (by omega) (by show sp.at_+_=_;omega) hb rfl;have P:=sD e s (a+i*(A e).1.1) (by omega) (by omega) u hu;refine⟨u,?_,m,n⟩;obtain⟨ae,z2,z3⟩:=P;obtain⟨k,rfl⟩:∃k:Nat,i=k:=⟨i.toNat,by omega⟩
       cases t with
       | mk kind size packed aE ba aU=>have he:aU=e::L:=he;have b:kind=5:=b;have w:(k:Int)+1≤ba:=w;rw[aG,bw,aa b,he,fc,cG];refine acQ.2 ⟨k,acR.2 ⟨Yt _,by omega⟩,?_⟩;rw[n_,show V ((k:Int)*(A e).1.1)=(k:Int)*(A e).1.1 from bH,show V (a+(k:Int)*(A e).1.1)=a+(k:Int)*(A e).1.1 from bH];exact hu
  · rw [ab (by rw[C];decide),f1]at hw;dsimp only at hw;rw[f2,f3]at hw;dsimp only at hw;obtain⟨S,s0,s1,af,hf⟩:=BU h b;have D:=JW (kind:=t.kind) ha (by omega) ⟨s0,by omega⟩ t.aE _ 0 (0,0) (ab_ _) hf (jN.zero _ _ _ _) n2 f s2 f2 f3;have E:=BN h b f2 f3 l;obtain⟨ag,F,H⟩:=BX t.aE (cq t) 0 (ab_ _) hf n2 f s2 f2 f3;have Q:V (s2.at_+sp.at_)=s2.at_+sp.at_:=bH;rw[Q]at hw;rw[d]at c;rw[B,d]at hk;have R:aG t a=(ew t.kind a t.aE (cq t) (0,0)).2++fw (ew t.kind a t.aE (cq t) (0,0)).1:=by
     cases t with
     | mk kind size packed aE ba aU=>have b:kind=3∨kind=4:=b;rw[aG,bw,bw]
    rw[R];have T:=l.zero;by_cases g:f.bits=true
    ·
      have o:s2.bits=true:=(H g).1;have W:0<f.aM:=by have:=(H g).2;have:=J1 h b z C f1 f2 g;omega
      have X:r=[]:=by
       have ah:f.type.kind=1:=(E.bits o).1;cases r with
       |nil=>rfl
       | cons ai aj=>
        obtain⟨g1,_⟩:=kH c;rcases lO l g1 with⟨_,ak,_⟩|⟨_,al,_⟩
        ·omega
        ·omega
      subst X;rw[eU,Yb.injEq]at hw;subst hw;obtain⟨u,hu,m,n⟩:=D.2 g W;exact⟨u,hu,by show G+u.1≤s2.at_+sp.at_;omega,by show s2.at_+sp.at_+s2.len≤_;omega⟩
    · have x:f.bits=false:=by simpa using g
      have o:s2.bits=false:=(F x).1;have Y:s2.len=(A f.type).1.1:=by rw[E.len o,T]
      obtain⟨u,hu,m,n⟩:=BZ hG y r f.type _ out idx (s2.at_+a) l hi hw c hk (by omega) (by have:=(F x).2;omega) (by show s2.at_+sp.at_=_;omega) o Y;exact⟨u,D.1 x u hu,m,n⟩
end Rb

namespace Rb
open Go
def ow(s:Int×Int):Bool:=decide (s.1≥0)&&decide (s.1≤1099511627776)&&decide (s.2≥0)&&decide (s.2≤1048576)
def fx(s:Int×Int):Int×Int:=if ow s=true then(s.1,V (s.1+s.2))else(0,0)
def qi(b c:Int×Int):Int×Int:=if max b.1 c.1≥min b.2 c.2 then(0,0)else(max b.1 c.1,min b.2 c.2)
def i7(a b:Int×Int):Bool:=(fx a).1==(fx a).2||(qi (fx a) (fx b)==fx a)
theorem within_iff{a b:Int×Int}(ha:0≤a.1∧a.1≤1099511627776∧1≤a.2∧a.2≤1048576)(hb:0≤b.1∧b.1≤1099511627776∧0≤b.2∧b.2≤1048576):i7 a b=true↔b.1≤a.1∧a.1+a.2≤b.1+b.2:=by
 have e1:fx a=(a.1,a.1+a.2):=by unfold fx ow;rw[oL,show V (a.1+a.2)=a.1+a.2 from bH]
 have d:fx b=(b.1,b.1+b.2):=by unfold fx ow;rw[oL,show V (b.1+b.2)=b.1+b.2 from bH]
 unfold i7;rw[e1,d];unfold qi;dsimp only;rw[Bool.or_eq_true,bG,bG];constructor
 · rintro (h|h)
   ·omega
   · split at h
     · have h1:=congrArg abg h;have c:=congrArg acV h;dsimp only at h1 c;omega
     · have h1:=congrArg abg h;have c:=congrArg acV h;dsimp only at h1 c;omega
 · intro h;right;rw[bw];exact Prod.ext (by dsimp only;omega) (by dsimp only;omega)
def jv(s a x:Int×Int):Int×Int:=if i7 s x=true∧(a.2=0∨x.2<a.2)then x else a
def kO(l:List (Int×Int))(s:Int×Int):Int×Int:=l.foldl (jv s) (0,0)
theorem B0{s:Int×Int}:∀(l:List (Int×Int)) (o:Int×Int),(∀x∈l,1≤x.2)→(l.foldl (jv s) o=o∨(l.foldl (jv s) o∈l∧i7 s (l.foldl (jv s) o)=true))∧(o.2=0→(∃x∈l,i7 s x=true)→l.foldl (jv s) o∈l∧i7 s (l.foldl (jv s) o)=true)
 |[],o,h=>⟨.inl rfl,λ_ ⟨x,a,_⟩=>by cases a⟩
 | y :: r,o,h=>by
  rw[Yv];have b:∀x∈r,1≤x.2:=λx a=>h x (aai _ a);have g:=h y (aaj ..);by_cases hc:i7 s y=true∧(o.2=0∨y.2<o.2)
  · have e:jv s o y=y:=aa hc;rw[e];obtain⟨i1,_⟩:=B0 r y b;have:r.foldl (jv s) y∈y::r∧i7 s (r.foldl (jv s) y)=true:=by
     rcases i1 with i1|⟨i1,i2⟩
     ·rw[i1];exact⟨aaj ..,hc.1⟩
     ·exact⟨aai _ i1,i2⟩
    exact⟨.inr this,λ_ _=>this⟩
  · have e:jv s o y=o:=ab hc;rw[e];obtain⟨i1,i2⟩:=B0 r o b;refine⟨i1.imp id λh=>⟨aai _ h.1,h.2⟩,λc ⟨x,a,hw⟩=>?_⟩;rcases aah.1 a with rfl|a
    ·exact absurd ⟨hw,.inl c⟩ hc
    · obtain⟨d,f⟩:=i2 c ⟨x,a,hw⟩;exact⟨aai _ d,f⟩
theorem Ua{l:List (Int×Int)}{s:Int×Int}(hl:∀x∈l,1≤x.2)(h:∃x∈l,i7 s x=true):kO l s∈l∧i7 s (kO l s)=true:=(B0 l (0,0) hl).2 rfl h
def eW:List B→List be→Option (List (Int×Int))
 |v::r,g::s=>if(eD v.type).2≠0 then none else(eW r s).map λl=>(eD v.type).1.map (λx=>(V (g.at_+x.1),x.2))++l
 |_,_=>some []
def cj(vars:List B)(a:List UInt8)(done:List K):List K→List Int
 |[]=>[]
 |p::r=>(if p.bc=[]then []else [nZ vars ⟨a,done⟩])++cj vars a (done++[p]) r
def gn:List Int→Int→Option Int
 |[],a=>some a
 |n::r,a=>if V (a*n)>4096 then none else gn r (V (a*n))
def dT:List Int→List (List Int)
 |[]=>[[]]
 |n::r=>(YM n.toNat).flatMap λ(i:Nat)=>(dT r).map λl=>(i:Int)::l
def ho(k:Int):Bool:=(decide (k≥3)&&decide (k≤6))||(decide (k≥16)&&decide (k≤18))
end Rb

namespace Rb
open Go
def ng(g:Int)(l:List (Int×Int)):List (Int×Int):=l.map λx=>(V (g+x.1),x.2)
def h0:List B→List be→List (Int×Int)→List (Int×Int)×Int
 |v::r,g::s,acc=>if(eD v.type).2≠0 then([],(eD v.type).2)else h0 r s (acc++ng g.at_ (eD v.type).1)
 |_,_,acc=>(acc,0)
theorem B1:∀(r:List B)(s:List be)(a:List (Int×Int)),(∃l,eW r s=some l∧h0 r s a=(a++l,0))∨(eW r s=none∧(h0 r s a).2≠0)
 |[],s,a=> .inl ⟨[],by rw[eW];intros;simp_all,by rw[h0];simp;intros;simp_all⟩
 |v::r,[],a=> .inl ⟨[],by rw[eW];intros;simp_all,by rw[h0];simp;intros;simp_all⟩
 | v :: r,g::s,a=>by
  rw[eW,h0];by_cases h:(eD v.type).2≠0
  ·rw[aa h,aa h];exact .inr ⟨rfl,h⟩
  · rw[ab h,ab h];rcases B1 r s (a++ng g.at_ (eD v.type).1)with⟨l,h1,b⟩|⟨h1,b⟩
    ·exact .inl ⟨ng g.at_ (eD v.type).1++l,by rw[h1];rfl,by rw[b,acC]⟩
    ·exact .inr ⟨by rw[h1];rfl,b⟩
theorem J3{t:U}(h:(eD t).2=0):(eD t).1.length≤4096:=by
 unfold eD at h ⊢;split at h
 ·rename_i q;exact absurd h q
 · rename_i q;rw[ab q];split at h
   ·cases h
   · rename_i k;rw[ab k];have k':((ft t 0 ⟨[],false⟩).full||decide ((cy (ef (ft t 0 ⟨[],false⟩).l)).length>4096))=false:=by simpa[Bk.tidy]using k
     rw[Bool.or_eq_false_iff,decide_eq_false_iff_not]at k';have:(ft t 0 ⟨[],false⟩).tidy.l=cy (ef (ft t 0 ⟨[],false⟩).l):=rfl;rw[this];dsimp only;omega
section
variable{C:Ctx}(aj:bN C)(hT:Cl (af C) S.bu)(hS:nf (af C))
include aj hT hS
theorem J4{vars:List B}(hv:fh vars):bB (af C) 11 [au B.cells vars] (.aq [au av (h0 vars (bW 0 vars) []).1,.int .i64 (h0 vars (bW 0 vars) []).2]):=by
 have hl:=hv.l;have ao:(bW 0 vars).length=vars.length:=by
  have:∀(l:List B)(a:Int),(bW a l).length=l.length:=by
   intro l;induction l with
   |nil=>intro a;rw[bW];rfl
   |cons v r j=>intro a;rw[bW,abD,abD,j]
  exact this _ _
 refine bB.of aj (by simp[I.bA,j_ B.bb]) (by show I.bb (.aq [.ak .dead (h0 vars (bW 0 vars) []).1.length ((h0 vars (bW 0 vars) []).1.flatMap av),.int .i64 _])=true;simp[I.bb,I.bA,xB,Tok.free]) λQ hQ=>?_
 refine af.cd ?_;refine S.OX hT ?_;unfold S.f11;refine xc aj hT (by omega) hv.o _ _ ?_;rw[show jn vars = .aq [.ak .dead vars.length (dw vars (bW 0 vars)),.int .i64 (ff 0 vars),.int .i64 0] by unfold jn;rw[xe hv.z hv.e];rfl];simp only[bj,abj,abk,T,d_,aD,cU];rw[eM];generalize E:h0 vars (bW 0 vars) []=R at *;have main:∀(r:List B)(k:Nat)(acc:List (Int×Int)) (x:I) (H:Z),vars.drop k=r→k≤vars.length→acc.length≤4096*k→cC 0 H 2 x acc.length (acc.flatMap av)→h0 r ((bW 0 vars).drop k) acc=R →
   aC (S.rv (af C) (au B.cells vars) (.ak .dead vars.length (dw vars (bW 0 vars))) (.int .i64 vars.length) λv H'=>Q v.cd H') ([x,.int .i64 k],H):=by
  intro r;induction r with
  | nil=>
   intro k acc x H s hk ha t he;have hle:=er s;refine aC.step ?_;simp only[S.rv,aF,c4,bD,T,aD,aT,S.EI];rw[ee];have F:R=(acc,0):=by rw[←he,h0];intros;simp_all
   rw[F]at hQ;obtain⟨tk,rfl,_,_⟩:=t;simp only[I.cd,I.cf,BW];exact hQ _
  | cons v r j=>
   intro k acc x H s hk ha t he;obtain⟨D,u,G⟩:=ed s;have J:=hv.o v (aaH u);have K:v.type.ok:=J.2;obtain⟨g,tl,M,_,N⟩:=qd (a:=0) u;rw[drop_cons M,h0]at he;refine aC.step ?_;simp only[S.rv,aF,c4,bD,T,aD];rw[dW,cQ D];simp only[T];rw[dD B.len (by decide) _ u];simp only[T,aR,aL,a_];rw[cS _ _ _ 7 v.len v.scalar rfl];have a2:=At.new H (.row v.cells);have P:cC 0 (H.push (.row v.cells)) 2 x acc.length (acc.flatMap av):=t.frame λ_ _ _ q=>q.push _;simp only[T,W,YI];rw[IQ a2];simp only[T];generalize H.push (.row v.cells)=H2 at *;refine T_ aj hT hS K _ _ ?_;simp only[bj,abj,abk,T,d_,aD,cU];apply aI<;>intro h
   · have f:(eD v.type).2≠0:=by simpa using h
     rw[aa f]at he;rw[←he]at hQ;exact hQ H2
   · have f:(eD v.type).2=0:=by simpa using h
     rw[ab (λq=>q f)]at he;have ap:=J3 f;generalize (eD v.type).1=L at *;have inner:∀(q:List (Int×Int)) (i:Nat) (c:List (Int×Int)) (d:I) (b:Z),L.drop i=q→c.length=acc.length+i→cC 0 b 2 d c.length (c.flatMap av)→c++ng g.at_ q=acc++ng g.at_ L →
       aC (S.uD (af C) (.ak .dead vars.length (dw vars (bW 0 vars))) (au av L) (.int .i64 L.length) ([x,.int .i64 k],H) (aC (S.rv (af C) (au B.cells vars) (.ak .dead vars.length (dw vars (bW 0 vars))) (.int .i64 vars.length) λv H'=>Q v.cd H')) λv H'=>Q v.cd H') ([d,.int .i64 i],b):=by
      intro q;induction q with
      | nil=>
       intro i c d b w eK y A;have hle:=er w;refine aC.step ?_;simp only[S.uD,aF,c4,bD,T,aD,aT];rw[ee];simp only[S.EH,aF,c4,b4,T];rw[bH,cN];have U:c=acc++ng g.at_ L:=by rw[←A];simp[ng]
       subst U;refine j (k+1) _ d b G D ?_ y he;rw[abC,ng,aat];omega
      | cons p q X=>
       intro i c d b w eK y A;obtain⟨Y,ac,ad⟩:=ed w;refine aC.step ?_;simp only[S.uD,aF,c4,bD,T,aD];rw[dW,cQ Y];simp only[T];rw[dD (cells:=av) (sz:=2) (λ_=>rfl) (by decide) _ ac];simp only[T,aR,aL,a_];rw[cS _ _ _ 2 rfl rfl rfl];have a4:=At.new b (.row (av p));have ag:cC 0 (b.push (.row (av p))) 2 d c.length (c.flatMap av):=y.frame λ_ _ _ q=>q.push _;simp only[T,W,YI];rw [show aP none 3 (.ak .dead vars.length (dw vars (bW 0 vars))) (.int .i64 k)=some (.ae ((dw vars (bW 0 vars)).drop (k*3))) by show(if 0≤(k:Int)∧(k:Int)<(vars.length:Nat)then some (I.ae ((dw vars (bW 0 vars)).drop ((k:Int).toNat*3)))else none)=_;rw[aa ⟨by omega,by omega⟩,Y7]]
       rw[N];simp only[T,W,aaW,abt];have e1:∀H,O H 1 false (.ae (.int .i64 g.at_ :: .int .i64 g.len::tl))=some (.int .i64 g.at_):=λ_=>rfl;have ah:O (b.push (.row (av p))) 1 false (.ptr b.n 0)=some (.int .i64 p.1):=by rw[a4.load];rfl
       have ai:O (b.push (.row (av p))) 1 false (.ptr b.n 1)=some (.int .i64 p.2):=by rw[a4.load];rfl
       simp only[e1,ah,ai,T,b4];rw[show bo [.int .i64 0,.int .i64 0] [(0,1,.int .i64 (Y6 .i64 (g.at_+p.1))),(1,1,.int .i64 p.2)]=some (.agg (av (V (g.at_+p.1),p.2)))from rfl];simp only[T];rw[show dk (b.push (.row (av p))) false 2 1 [.int .i64 0,.int .i64 0] [(0,2,.agg (av (V (g.at_+p.1),p.2)))]=some (.ak .full 1 (av (V (g.at_+p.1),p.2)),b.push (.row (av p)))from rfl];simp only[aR];refine ag.app (Yt _) (m:=1) (news:=av (V (g.at_+p.1),p.2)) rfl rfl rfl (by decide) (by omega) (by omega) λal am an _=>?_;rw[wrap_i64 (n:=(i:Int)+1) (by omega) (by omega),cN];refine X (i+1) (c++[(V (g.at_+p.1),p.2)]) al am ad (by rw[abC,eK];rfl) ?_ ?_
       ·rw[abC,acB];exact an
       ·rw[←A,acC];rfl
     exact inner L 0 acc x H2 rfl rfl P rfl
 exact main vars 0 [] _ _ rfl (Yt _) (Yt _) (cC.nil _ _ _) E
end
end Rb

namespace Rb
open Go
theorem qj(p:Int×Int)(H:Z):aO H false 2 (.agg (av p))=some (.ae (av p),H):=by unfold aO;rw[aa ⟨rfl,rfl⟩];rfl
theorem xC(p:Int×Int):W 0 (.ae (av p))=some (.ae (av p)):=rfl
theorem xD(p:Int×Int):W 1 (.ae (av p))=some (.ae [.int .i64 p.2]):=rfl
theorem xE(p:Int×Int)(H:Z):O H 1 false (.ae (av p))=some (.int .i64 p.1):=rfl
theorem xF(l:Int)(H:Z):O H 1 false (.ae [.int .i64 l])=some (.int .i64 l):=rfl
theorem B2(p:Int×Int)(H:Z):O H 2 true (.ae (av p))=some (.agg (av p)):=rfl
theorem Ub(p:Int×Int):bU (av p) 0 1 false=some (.int .i64 p.1):=rfl
theorem Uc(p:Int×Int):bU (av p) 1 1 false=some (.int .i64 p.2):=rfl
theorem qk(p:Int×Int):bU (av p) 0 2 true=some (.agg (av p)):=rfl
theorem sG:[I.int .i64 0,I.int .i64 0]=av (0,0):=rfl
theorem B3:bo (av (0,0)) []=some (.agg (av (0,0))):=rfl
theorem J5(a b:Int):bo (av (0,0)) [(0,1,.int .i64 a),(1,1,.int .i64 b)]=some (.agg (av (a,b))):=rfl
theorem ql(H:Z)(a b:Int×Int):Y (H.push (.row (av a))) 2 (.ptr H.n 0) (.agg (av b))=some (H.push (.row (av b))):=cS H _ _ 2 rfl rfl rfl
theorem Ud(a b:Int):fy true [.int .i64 a,.int .i64 b]=some (.int .i64 (max a b)):=by simp only[fy,nk,qv,a_];congr 2;show(if a<b then b else a)=max a b;omega
theorem Ue(a b:Int):fy false [.int .i64 a,.int .i64 b]=some (.int .i64 (min a b)):=by simp only[fy,nk,qv,ZP,bR];congr 2;show(if b<a then b else a)=min a b;omega
theorem Uf(H:Z)(x:bM)(c:Int×Int):Y ((H.push (.row (av (0,0)))).push x) 2 (.ptr H.n 0) (.agg (av c))=some (((H.push (.row (av (0,0)))).push x).set H.n (.row (av c))):=by rw[((At.new H _).push x).store,aa ⟨rfl,rfl,rfl,by decide⟩];rfl
theorem Ug(H:Z)(y x:bM)(c:Int×Int):O (((H.push y).push x).set H.n (.row (av c))) 2 true (.ptr H.n 0)=some (.agg (av c)):=by rw[(At.set ((At.new H y).push x) _).load];rfl
section
variable{C:Ctx}(aj:bN C)(hT:Cl (af C) S.bu)
include aj hT
theorem Uh(s:Int×Int):bB (af C) 94 [.agg (av s)] (.bool (ow s)):=by refine bB.of aj rfl rfl λQ hQ=>S.Hl hT ?_;unfold S.f94;unfold ow at hQ;simp only[qj,aR,xC,xD,xE,xF,T,gZ,j7,cP,aT,S.vc,S.vb,aF];by_cases h1:s.1≥0<;>by_cases a:s.1≤1099511627776<;>by_cases b:s.2≥0<;>by_cases c:s.2≤1048576<;>simp only[h1,a,b,c,decide_true,decide_false,a_,bR,ZP,abb,ack,acW,acX]at hQ ⊢ <;> exact hQ _
theorem J6(s:Int×Int):bB (af C) 60 [.agg (av s)] (.agg (av (fx s))):=by
 refine bB.of aj rfl rfl λQ hQ=>S.Ph hT ?_;unfold S.f60;simp only[qj,aR,sG,aL,a_,B2,T];refine Uh aj hT s _ _ ?_;unfold fx at hQ;simp only[ec,T,aD];apply aI<;>intro e
 · have a:¬ow s=true:=by simpa using e
   rw[ab a]at hQ;simp only[B3,T,ql,eL,qk];exact hQ _
 · have a:ow s=true:=by simpa using e
   rw[aa a]at hQ;simp only[xC,xE,xD,xF,T,b4,J5,ql,eL,qk];exact hQ _
theorem Ui(a b:Int×Int):bB (af C) 62 [.agg (av a),.agg (av b)] (.agg (av (qi a b))):=by
 refine bB.of aj rfl rfl λQ hQ=>S.Pk hT ?_;unfold S.f62;unfold qi at hQ;simp only[qj,aR,sG,aL,a_,xC,xE,xD,xF,T,Ud,Ue,J5];simp only[ql,iY,eL,Ub,Uc,T,gZ,aD,dU,B3,qk,Uf,Ug];apply aI<;>intro e
 ·rw[aa e]at hQ;exact hQ _
 ·rw[ab e]at hQ;exact hQ _
theorem Uj(a:Int×Int):bB (af C) 61 [.agg (av a)] (.bool (a.1==a.2)):=by refine bB.of aj rfl rfl λQ hQ=>S.Pj hT ?_;unfold S.f61;simp only[qj,aR,xC,xE,xD,xF,T,cI];exact hQ _
theorem Uk(a b:Int×Int):bB (af C) 35 [.agg (av a),.agg (av b)] (.bool (i7 a b)):=by
 refine bB.of aj rfl rfl λQ hQ=>S.O6 hT ?_;unfold S.f35;unfold i7 at hQ;simp only[qj,aR,B2,T];refine J6 aj hT a _ _ ?_;simp only[sG,aL,a_,aR,ql,eL,qk,T];refine Uj aj hT (fx a) _ _ ?_;simp only[cv,eL,qk,T];by_cases h:(fx a).1==(fx a).2
 · rw[h]at hQ ⊢;simp only[acY]at hQ;simp only[abU,bR];exact⟨λq=>(by cases q),λq=>(by cases q),λq=>(by cases q),hQ _⟩
 · have c:((fx a).1==(fx a).2)=false:=by simpa using h
   rw[c]at hQ ⊢;simp only[aac]at hQ;simp only[a_];refine J6 aj hT b _ _ ⟨λ_=>rfl,λ_=>rfl,?_⟩;refine Ui aj hT (fx a) (fx b) _ _ ⟨λ_=>rfl,?_⟩;rw[BH];simp only[T,ZP,bR];rw[show(qi (fx a) (fx b)==fx a)=decide (qi (fx a) (fx b)=fx a)from by rw[Bool.eq_iff_iff,bG,dU]]at hQ;exact hQ _
theorem Ul(k:Int):bB (af C) 16 [.int .i64 k] (.bool (ho k)):=by refine bB.of aj rfl rfl λQ hQ=>S.O0 hT ?_;unfold S.f16;unfold ho at hQ;simp only[gZ,j7,T,cP,aT,S.zM,cv,aF];by_cases h1:k≥3<;>by_cases a:k≤6<;>by_cases b:k≥16<;>by_cases c:k≤18<;>simp only[h1,a,b,c,decide_true,decide_false,a_,bR,ZP,abU,abb,ack,acW,acX,Bool.or_false,aac,Bool.or_true,acY]at hQ ⊢ <;> exact hQ _
theorem Um(l:List (Int×Int))(hl:l.length≤9223372036854775806)(s:Int×Int):bB (af C) 20 [au av l,.agg (av s)] (.agg (av (kO l s))):=by
 refine bB.of aj (by show I.bA [.ak .dead l.length (l.flatMap av),.agg (av s)]=true;simp[I.bA,I.bb,xB,Tok.free,av]) rfl λQ hQ=>S.O4 hT ?_
 unfold S.f20;simp only[qj,aR,sG,aL,a_,B3,T,cU];rw[ql];simp only[T];have p:=(At.new Z.mt (.row (av (0,0)))).push (.row (av (0,0)));have t:=At.new (Z.mt.push (.row (av (0,0)))) (.row (av (0,0)));have main:∀(r:List (Int×Int)) (i:Nat) (o:Int×Int) (H:Z),l.drop i=r→At H Z.mt.n (.row (av (0,0)))→At H (Z.mt.push (.row (av (0,0)))).n (.row (av o))→r.foldl (jv s) o=kO l s →
   aC (S.pL (af C) (au av l) (.ae (av s)) (.ptr Z.mt.n 0) (.ptr (Z.mt.push (.row (av (0,0)))).n 0) (.int .i64 l.length) Q) ([.int .i64 i],H):=by
  intro r;have u:Z.mt.n≠(Z.mt.push (.row (av (0,0)))).n:=YG (aaJ _);generalize (Z.mt.push (.row (av (0,0)))).n=j at *;generalize Z.mt.n=g at *;induction r with
  | nil=>intro i o H h b k he;have hle:=er h;refine aC.step ?_;simp only[S.pL,aF,bD,T,aD,aT,S.EY];rw[ee];have e1:O H 2 true (.ptr j 0)=some (.agg (av o)):=k.all (n:=2) rfl;rw[e1];simp only[T];rw[b.put (n:=2) rfl rfl rfl];simp only[T];rw[(b.set (.row (av o))).all (n:=2) rfl];simp only[T];rw[List.foldl_nil]at he;rw[he];exact hQ _
  | cons x r w=>
   intro i o H h b k he;obtain⟨y,z,A⟩:=ed h;rw[Yv]at he;refine aC.step ?_;simp only[S.pL,aF,bD,T,aD];rw[dW,cQ y];simp only[T];rw[dD (cells:=av) (sz:=2) (λ_=>rfl) (by decide) _ z];simp only[T,aR,aL,a_,sG];rw[ql];have a4:=At.new H (.row (av x));have m:=b.push (.row (av x));have c:=k.push (.row (av x));simp only[T,B2,eL,qk];generalize H.push (.row (av x))=H2 at *;refine Uk aj hT s x _ _ ?_;have nx:∀(d:Int×Int)(a:Z),At a g (.row (av (0,0)))→At a j (.row (av d))→jv s o x=d→S.uJ (af C) ([.int .i64 i],H) (aC (S.pL (af C) (au av l) (.ae (av s)) (.ptr g 0) (.ptr j 0) (.int .i64 l.length) Q)) Q [] a:=by intro d a g3 g6 B;simp only[S.uJ,aF,b4,T];rw[bH,cN];exact w (i+1) d a A g3 g6 (by rw[←B];exact he)
   have k2:∀v:Bool,(v=true↔i7 s x=true∧(o.2=0∨x.2<o.2))→S.rB (af C) (.ptr j 0) (.ptr H.n 0) ([.int .i64 i],H) (aC (S.pL (af C) (au av l) (.ae (av s)) (.ptr g 0) (.ptr j 0) (.int .i64 l.length) Q)) Q [.bool v] H2:=by
    intro v hv;simp only[S.rB,aF,aD,aT];apply aI<;>intro e
    · rw[a4.all (n:=2) rfl];simp only[T];rw[c.put (n:=2) rfl rfl rfl];simp only[T];exact nx x _ (m.bZ u _) (c.set _) (by unfold jv;rw[aa (hv.1 e)])
    ·exact nx o _ m c (by unfold jv;rw[ab (λq=>e (hv.2 q))])
   have e1:O H2 1 false (.ptr j 1)=some (.int .i64 o.2):=by rw[c.load];rfl
   have D:O H2 1 false (.ptr H.n 1)=some (.int .i64 x.2):=by rw[a4.load];rfl
   simp only[cP,cv,iY,e1,D,T,cI,bD,aT];cases hw:i7 s x
   · simp only[ZP,bR,a_];exact k2 false ⟨λq=>(by cases q),λq=>(by rw[hw]at q;exact absurd q.1 (by decide))⟩
   · simp only[a_];by_cases f:o.2=0
     · rw[show(o.2==0)=true by simpa using f];simp only[abU,bR];exact k2 true ⟨λ_=>⟨hw,.inl f⟩,λ_=>rfl⟩
     · rw[show(o.2==0)=false by simpa using f];simp only[a_];exact k2 _ ⟨λq=>⟨hw,.inr (by simpa using q)⟩,λq=>by simpa using q.2.resolve_left f⟩
 exact main l 0 (0,0) _ rfl p t rfl
end
end Rb

namespace Rb
open Go
def dj(n:Int):List I:=[.int .i64 n]
theorem J7:∀l:List Int,I.cf (l.flatMap dj)=l.flatMap dj
 |[]=>rfl
 |x::r=>by rw[abe,jJ,J7 r];rfl
theorem J8:∀l:List Int,I.bA (l.flatMap dj)=true
 |[]=>rfl
 | x::r=>by rw[abe];show I.bA (.int .i64 x::r.flatMap dj)=true;simp[I.bA,I.bb,J8 r]
theorem B4(vars:List B)(a:List UInt8):∀(r done:List K),(cj vars a done r).length≤r.length
 |[],done=>by rw[cj];exact sl _
 | p::r,done=>by
  rw[cj,abC,abD];have:=B4 vars a r (done++[p]);split
  ·simp;omega
  ·simp;omega
theorem Un{x:aN}(h:x.ok)(k:Nat):(aN.mk x.var (x.aB.take k)).ok:=by
 cases x with
 | mk var aB=>obtain⟨h1,a,b⟩:=h;exact⟨h1,xl (by rw[abX];exact Nat.min_le_right _ _) a,K.dZ.2 λp hp=>K.dZ.1 b p (List.mem_of_mem_take hp)⟩
theorem Uo(r:Int×U):bU (fG r) 4 1 false=some (.int .i64 (if r.1=0 then r.2.ba else 0)):=by
 unfold fG;split
 ·rw[U.bF];rfl
 ·rfl
section
variable{C:Ctx}(aj:bN C)(hT:Cl (af C) S.bu)
include aj hT
theorem Up{vars:List B}(hl:vars.length≤1000000)(hv:∀v∈vars,v.ok){x:aN}(i:x.ok)(hp:x.aB.length≤1000000):bB (af C) 17 [au B.cells vars,.agg x.cells] (au dj (cj vars x.var [] x.aB)):=by
 refine bB.of aj (by simp[I.bA,I.bb,aN.bb,j_ B.bb]) (by show I.bb (.ak .dead _ ((cj vars x.var [] x.aB).flatMap dj))=true;simp[I.bb,J8,Tok.free]) λQ hQ=>?_
 refine af.cd ?_;refine S.O1 hT ?_;unfold S.f17;simp only[qb,aR,Bi,r8,T,cU];generalize j:cj vars x.var [] x.aB=R at *;have main:∀(r:List K)(k:Nat)(acc:List Int)(y:I)(H:Z),x.aB.drop k=r→k≤x.aB.length→acc.length≤k→cC 0 H 1 y acc.length (acc.flatMap dj)→acc++cj vars x.var (x.aB.take k) r=R →
   aC (S.rA (af C) (au B.cells vars) (.ae x.cells) (au K.cells x.aB) (.int .i64 x.aB.length) λv H'=>Q v.cd H') ([y,.int .i64 k],H):=by
  intro r;induction r with
  | nil=>intro k acc y H c hk ha d he;have hle:=er c;refine aC.step ?_;simp only[S.rA,aF,c4,bD,T,aD];rw[ee];rw[cj,abK]at he;subst he;obtain⟨tk,rfl,_,_⟩:=d;simp only[I.cd,J7];exact hQ _
  | cons p r l=>
   intro k acc y H c hk ha d he;obtain⟨f,g,n⟩:=ed c;have o:x.aB.take (k+1)=x.aB.take k++[p]:=by rw[abL,g];rfl
   rw[cj,←o,←acC]at he;refine aC.step ?_;simp only[S.rA,aF,c4,bD,T,aD];rw[dW,cQ f];simp only[T];rw[dD K.len (by decide) _ g];simp only[T,aR,aL,a_];rw[cS _ _ _ 2 p.len p.scalar rfl];have a2:=At.new H (.row p.cells);have h:cC 0 (H.push (.row p.cells)) 1 y acc.length (acc.flatMap dj):=d.frame λ_ _ _ q=>q.push _;simp only[T,W,YI];rw[IE a2];simp only[T,cU,ej,aD];generalize H.push (.row p.cells)=H2 at *;have k1:∀(a:List Int)(b:I)(H':Z),a.length≤k+1→cC 0 H' 1 b a.length (a.flatMap dj)→a=acc++(if p.bc=[]then []else [nZ vars ⟨x.var,x.aB.take k⟩]) →
     S.uG (af C) ([y,.int .i64 k],H) (aC (S.rA (af C) (au B.cells vars) (.ae x.cells) (au K.cells x.aB) (.int .i64 x.aB.length) λv H'=>Q v.cd H')) (λv H'=>Q v.cd H') [b] H':=by
    intro a b H' h1 s t;simp only[S.uG,aF,c4,b4,T];rw[bH,cN];exact l (k+1) a b H' n f h1 s (by rw[t];exact he)
   simp only[aT];apply aI<;>intro e
   · have hi:p.bc≠[]:=λq=>by rw[q]at e;simp at e
     have g0:∀H,O H 1 false (.ae (x.cells.drop 0))=some (.str x.var):=Bj x;have g1:∀H,O H 1 false (.ae (x.cells.drop 1))=some (au K.cells x.aB):=r8 x;simp only[g0,g1,T];rw[Tb K.len x.aB (by omega)];simp only[T];rw[show bo [.str [],.ak .nil 0 []] [(0,1,.str x.var),(1,1,au K.cells (x.aB.take k))]=some (.agg (aN.mk x.var (x.aB.take k)).cells) by rw[aN.bF];rfl];simp only[T];refine Bc aj hT vars _ (by have:maxLen=9223372036854775807:=(by decide);omega) hv (Un i k) _ _ ?_;rw[Be];simp only[bj,abj,abk,T,aR,g0,g1];refine⟨trivial,trivial,?_⟩;rw[cS _ _ _ 6 (w6 _) (Bd _) rfl];simp only[T,eL];rw[Uo];simp only[T];rw[show ∀(H:Z)(v:Int),dk H false 1 1 [.int .i64 0] [(0,1,.int .i64 v)]=some (.ak .full 1 (dj v),H)from λ_ _=>rfl];simp only[aR];have u:=h.frame (H':=H2.push (.row (fG (bK vars ⟨x.var,x.aB.take k⟩)))) λ_ _ _ q=>q.push _;refine u.app (Yt _) (m:=1) (news:=dj (nZ vars ⟨x.var,x.aB.take k⟩)) rfl rfl rfl (by decide) (by omega) (by omega) λb w z _=>?_;refine k1 (acc++[nZ vars ⟨x.var,x.aB.take k⟩]) b w (by rw[abC];simp;omega) ?_ (by rw[ab hi]);rw[abC,acB];exact z
   · have hi:p.bc=[]:=by
       refine Zi.1 ?_;simp only[dU]at e;omega
     exact k1 acc y H2 (by omega) h (by rw[aa hi,abK])
 exact main x.aB 0 [] _ _ rfl (Yt _) (sl _) (cC.nil _ _ _) j
end
end Rb

namespace Rb
open Go
def eX:List Int→List Int→Option (List Int)
 | n::a,i::is=>match eX a is with
  |some t=>some (i::t)
  |none=>if i+1<n then some ((i+1)::a.map λ_=>0)else none
 |_,_=>none
def i_:List Int→List Int→List (List Int)
 |n::a,i::is=>(i_ a is).map (λt=>i::t)++(ZJ (i.toNat+1) (n.toNat-(i.toNat+1))).flatMap λ(j:Nat)=>(dT a).map λt=>(j:Int)::t
 |_,_=>[[]]
def VI:List Int→List Int→Prop
 |[],[]=>True
 |n::a,i::is=>(0≤i∧i<n)∧VI a is
 |_,_=>False
theorem VI.len:∀{l a:List Int},VI l a→a.length=l.length
 |[],[],_=>rfl
 |n::b,i::a,h=>by rw[abD,abD,VI.len h.2]
theorem VI.zero:∀{l:List Int},(∀n∈l,1≤n)→VI l (l.map λ_=>0)
 |[],_=>trivial
 |n::a,h=>⟨⟨ab_ _,by have:=h n (aaj ..);show(0:Int)<n;omega⟩,VI.zero λm hm=>h m (aai _ hm)⟩
theorem VI.get:∀{l b:List Int}{k:Nat}{n i:Int},VI l b→l[k]?=some n→b[k]?=some i→0≤i∧i<n
 | n::c,i::b,0,_,_,h,h1,a=>by simp only[abj,Yb.injEq]at h1 a;subst h1 a;exact h.1
 | n::c,i::b,k+1,_,_,h,h1,a=>by simp only[abk]at h1 a;exact VI.get h.2 h1 a
theorem B5:∀{l:List Int},(∀n∈l,1≤n)→i_ l (l.map λ_=>0)=dT l
 |[],_=>rfl
 | n::a,h=>by
  rw[List.map_cons,i_,dT,B5 λm hm=>h m (aai _ hm)];have hn:n.toNat=(n.toNat-1)+1:=by have:=h n (aaj ..);omega
  rw[show YM n.toNat=0::ZJ 1 (n.toNat-1) by rw[hn,List.range_eq_range',acZ];simp,abe];rfl
theorem sH:∀{l a:List Int},VI l a→eX l a=none→i_ l a=[a]
 |[],[],_,_=>rfl
 | n::b,i::a,h,hn=>by
  rw[eX]at hn;cases hs:eX b a with
  |some t=>rw[hs]at hn;cases hn
  | none=>
   rw[hs]at hn;dsimp only at hn;rw[i_,sH h.2 hs];have hi:¬i+1<n:=λq=>by rw[aa q]at hn;cases hn
   rw[show n.toNat-(i.toNat+1)=0 by omega];rfl
theorem xG:∀{l a t:List Int},(∀n∈l,1≤n)→VI l a→eX l a=some t→i_ l a=a::i_ l t∧VI l t
 |[],[],t,_,_,hn=>by rw[eX]at hn;cases hn;intros;simp_all
 | n :: c,i::a,t,hl,h,hn=>by
  have b:∀m∈c,1≤m:=λm hm=>hl m (aai _ hm);rw[eX]at hn;cases hs:eX c a with
  | some t'=>rw[hs]at hn;simp only[Yb.injEq]at hn;subst hn;obtain⟨h1,d⟩:=xG b h.2 hs;refine⟨?_,h.1,d⟩;rw[i_,h1,i_];rfl
  | none=>
   rw[hs]at hn;dsimp only at hn;by_cases hi:i+1<n
   · rw[aa hi]at hn;simp only[Yb.injEq]at hn;subst hn;refine⟨?_,⟨by have:=h.1.1;omega,hi⟩,VI.zero b⟩;have e:=h.1.1;rw[i_,sH h.2 hs,i_,B5 b,show n.toNat-(i.toNat+1)=(n.toNat-((i+1).toNat+1))+1 by omega,acZ,abe,show i.toNat+1=(i+1).toNat by omega,Int.toNat_of_nonneg (by omega)];rfl
   ·rw[ab hi]at hn;cases hn
theorem J9:∀{lp pre a b t:List Int},lp.length=pre.length→eX a b=some t→eX (lp++a) (pre++b)=some (pre++t)
 |[],[],a,b,t,_,h=>h
 | n::lp,i::pre,a,b,t,hl,h=>by rw[ZS,ZS,eX,J9 (by simpa using hl) h];rfl
theorem Uq{l a:List Int}(d:a.length=l.length){m:Nat}{n i:Int}(b:l[m]?=some n)(c:a[m]?=some i)(hs:eX (l.drop (m+1)) (a.drop (m+1))=none) :
  (i+1<n→eX l a=some (a.take m++(i+1)::(l.drop (m+1)).map λ_=>0))∧(¬i+1<n→eX (l.drop m) (a.drop m)=none):=by
 have d1:l.drop m=n::l.drop (m+1):=by have:=(XV.1 b).1;rw[abE this];rw[YO this]at b;cases b;rfl
 have d2:a.drop m=i::a.drop (m+1):=by have:=(XV.1 c).1;rw[abE this];rw[YO this]at c;cases c;rfl
 constructor
 · intro hi;have:=J9 (lp:=l.take m) (pre:=a.take m) (by rw[abX,abX,d]) (show eX (l.drop m) (a.drop m)=some ((i+1)::(l.drop (m+1)).map λ_=>0) by rw[d1,d2,eX,hs];dsimp only;rw[aa hi]);rwa [acJ,acJ]at this
 · intro hi;rw[d1,d2,eX,hs];dsimp only;rw[ab hi]
end Rb

namespace Rb
open Go
variable{H:Z}{j k:Nat}{l:List Int}
def KX(R:Bool→Z→Prop):fj→Env→Z→Prop
 | .ret,_,H=>R true H
 | .normal,_,H=>R false H
 | .exit _,_,_=>False
def xH:c6:= .seq (.region [
   ⟨some 13,.mv (.t 3),none⟩,
   ⟨some 14,.len false (.t 13),none⟩,
   ⟨some 15,.bin .sub (.t 14) (.k (.int .i64 1)),none⟩,
   ⟨some 4,.mv (.t 15),none⟩])
 (.join [4] [16,17,18,19,20,21,22,23,24,25,26,27,28,29,30,31,32,33,34,35,36,37,38] (.block 2 (.loop [4] [16,17,18,19,20,21,22,23,24,25,26,27,28,29,30,31,32,33,34,35,36,37,38] (.seq (.seq (.region [
   ⟨some 16,.mv (.t 4),none⟩,
   ⟨some 17,.bin .geq (.t 16) (.k (.int .i64 0)),none⟩])
 (.cond (.t 17) (.skip)
   (.exit 2)))
 (.seq (.block 3 (.seq (.region [
   ⟨some 20,.mv (.t 3),none⟩,
   ⟨some 21,.mv (.t 4),none⟩,
   ⟨some 22,.fV none 1 (.t 20) (.t 21),none⟩,
   ⟨some 23,.load 1 false (.t 22),none⟩,
   ⟨some 24,.bin .add (.t 23) (.k (.int .u64 1)),none⟩,
   ⟨some 25,.fV none 1 (.t 20) (.t 21),none⟩,
   ⟨none,.store 1 (.t 25) (.t 24),none⟩])
 (.seq (.seq (.draw [
   ⟨some 26,.mv (.t 3),none⟩,
   ⟨some 27,.mv (.t 4),none⟩,
   ⟨some 28,.fV none 1 (.t 26) (.t 27),none⟩,
   ⟨some 29,.load 1 false (.t 28),none⟩,
   ⟨some 30,.load 1 false (.t 1),none⟩,
   ⟨some 31,.mv (.t 4),none⟩,
   ⟨some 32,.fV none 1 (.t 30) (.t 31),none⟩,
   ⟨some 33,.load 1 false (.t 32),none⟩,
   ⟨some 34,.conv .u64 (.t 33),none⟩,
   ⟨some 35,.bin .lss (.t 29) (.t 34),none⟩]
 [[],[],[0,1],[0,1,2],[],[],[4,5],[4,5,6],[4,5,6,7],[0,1,2,3,4,5,6,7,8]] [] [0,1,2,3,4,5,6,7,8,9])
 (.cond (.t 35) (.exit 2)
   (.skip)))
 (.region [
   ⟨some 36,.mv (.t 3),none⟩,
   ⟨some 37,.mv (.t 4),none⟩,
   ⟨some 38,.fV none 1 (.t 36) (.t 37),none⟩,
   ⟨none,.store 1 (.t 38) (.k (.int .u64 0)),none⟩]))))
 (.region [
   ⟨some 18,.mv (.t 4),none⟩,
   ⟨some 19,.bin .sub (.t 18) (.k (.int .i64 1)),none⟩,
   ⟨some 4,.mv (.t 19),none⟩])))))
 (.seq (.region [
   ⟨some 39,.mv (.t 4),none⟩,
   ⟨some 40,.bin .lss (.t 39) (.k (.int .i64 0)),none⟩])
 (.cond (.t 40) (.ret)
   (.skip))))
def ox(a1 a:I):Env:=[.bot,a1,.bot,a]++XS 37 .bot
def xI(R:Bool→Z→Prop):List I→Z→Prop:=λgB a=>
 Do (M .lss (G gB 0) (.int .i64 0)) λb=>
 Gd b true (
 R true a) (
 R false a)
def xJ(a1 c:I)(R:Bool→Z→Prop):(List I×Z)→((List I×Z)→Prop)→Prop:=λa d=>
 Do (M .geq (G a.1 0) (.int .i64 0)) λe=>
 Gd e true (
 Do (aP none 1 c (G a.1 0)) λf=>
 Do (O a.2 1 false f) λg=>
 Do (M .add g (.int .u64 1)) λh=>
 Do (aP none 1 c (G a.1 0)) λi=>
 Do (Y a.2 1 i h) λb=>
 Do (aP none 1 c (G a.1 0)) λj=>
 Do (O b 1 false j) λk=>
 Do (O b 1 false a1) λl=>
 Do (aP none 1 l (G a.1 0)) λm=>
 Do (O b 1 false m) λn=>
 Do (e7 .u64 n) λo=>
 Do (M .lss k o) λp=>
 Gd p true (
 N (xI R) [(G a.1 0)] b) (
 Do (aP none 1 c (G a.1 0)) λq=>
 Do (Y b 1 q (.int .u64 0)) λr=>
 Do (M .sub (G a.1 0) (.int .i64 1)) λs=>
 d ([s],r))) (
 N (xI R) [(G a.1 0)] a.2)
def B6(a1 a:I)(H:Z)(R:Bool→Z→Prop):Prop:=
 Do (bp false a) λb=>
 Do (M .sub b (.int .i64 1)) λc=>
 aC (xJ a1 a R) ([c],H)
theorem Ur(Φ:ai)(a1 a:I)(H:Z)(R:Bool→Z→Prop):cp Φ xH (ox a1 a) H (KX R)=B6 a1 a H R:=by kernel_rfl
def dz(n:Int):I:= .int .u64 n
theorem J_(h:At H j (.row (l.map dz))){v:Int}(hv:l[k]?=some v):O H 1 false (.ptr j k)=some (.int .u64 v):=by have hk:=(XV.1 hv).1;rw[h.load];unfold bU;rw[aa (by rw[aat];omega),eM,YN,hv];rfl
theorem Ka(h:At H j (.row (l.map dz)))(a:k<l.length)(v:Int):Y H 1 (.ptr j k) (.int .u64 v)=some (H.set j (.row ((l.set k v).map dz))):=by rw[h.st1 (by rw[aat];exact a) ⟨rfl,rfl,rfl⟩,List.map_set];rfl
theorem Us{bL a:List Int}(hl:∀n∈bL,1≤n∧n≤1000000000)(hv:VI bL a)(hn:bL.length≤1000000000)(l:At H j (.row (a.map dz))){R:Bool→Z→Prop}
  (o:eX bL a=none→∀H',R true H') (h1:∀t,eX bL a=some t→∀H',At H' j (.row (t.map dz))→R false H'):B6 (.ae [au dj bL]) (.row j 0 a.length 1) H R:=by
 have hlen:=hv.len;unfold B6;rw[show bp false (.row j 0 a.length 1)=some (.int .i64 a.length)from rfl];simp only[T,fO];have main:∀(m:Nat)(H:Z),m≤a.length→eX (bL.drop m) (a.drop m)=none→At H j (.row ((a.take m++(bL.drop m).map λ_=>0).map dz))→aC (xJ (.ae [au dj bL]) (.row j 0 a.length 1) R) ([.int .i64 (V ((m:Int)-1))],H):=by
  intro m;induction m with
  | zero=>intro H hm hs f;refine aC.step ?_;simp only[xJ,aF,gZ,T,aD,aT,xI,bD];rw[eM,kG];exact o hs H
  | succ m p=>
   intro H hm hs f;have hw:V (((m+1:Nat):Int)-1)=(m:Int):=by rw[show(((m+1:Nat):Int)-1)=(m:Int) by omega];exact bH
   obtain⟨i,hi⟩:∃i,a[m]?=some i:=⟨_,YO (by omega)⟩
   obtain⟨n,b⟩:∃n,bL[m]?=some n:=⟨_,YO (by omega)⟩
   obtain⟨v0,v1⟩:=hv.get b hi;obtain⟨n0,n1⟩:=hl n (aaH b);obtain⟨a1,a2⟩:=Uq hlen b hi hs;have hc:a.take (m+1)++(bL.drop (m+1)).map (λ_=>(0:Int))=a.take m++i::(bL.drop (m+1)).map (λ_=>(0:Int)):=by rw[abL,hi,Option.toList_some,acC];rfl
   rw[hc]at f;have d:(a.take m).length=m:=by rw[abX];omega
   have q:aP none 1 (.row j 0 a.length 1) (.int .i64 m)=some (.ptr j m):=by show(if 0≤(m:Int)∧(m:Int)<(a.length:Nat)then some (I.ptr j (0+(m:Int).toNat*1))else none)=_;rw[aa ⟨by omega,by omega⟩,Y7,YI,acm]
   have ld:=J_ f (k:=m) (v:=i) (by rw[Zz (by omega),d];simp);have r:m<(a.take m++i::(bL.drop (m+1)).map (λ_=>(0:Int))).length:=by rw[abC,d,abD];omega
   have st:=Ka f r (i+1);have s:∀x:Int,(a.take m++i::(bL.drop (m+1)).map (λ_=>(0:Int))).set m x=a.take m++x::(bL.drop (m+1)).map (λ_=>(0:Int)):=λx=>by rw[ac0,d,ab (acM _),acA];rfl
   rw[s]at st;have g:=f.set (.row ((a.take m++(i+1)::(bL.drop (m+1)).map (λ_=>(0:Int))).map dz));have u:=J_ g (k:=m) (v:=i+1) (by rw[Zz (by omega),d];simp);have w:m<(a.take m++(i+1)::(bL.drop (m+1)).map (λ_=>(0:Int))).length:=by rw[abC,d,abD];omega
   have st2:=Ka g w 0;have y:(a.take m++(i+1)::(bL.drop (m+1)).map (λ_=>(0:Int))).set m 0=a.take m++0::(bL.drop (m+1)).map (λ_=>(0:Int)):=by rw[ac0,d,ab (acM _),acA];rfl
   rw[y]at st2;refine aC.step ?_;have z:Y6 .u64 (i+1)=i+1:=wj;have wn:Y6 .u64 n=n:=wj;have A:∀H,O H 1 false (.ae [au dj bL])=some (au dj bL):=λ_=>rfl;have B:∀H,O H 1 false (dN dj 1 bL m)=some (.int .i64 n):=λH=>wo (c:=I.int .i64) H b;rw[hw];simp only[xJ,aF,gZ,T,aD];rw[qH];simp only[q,ld,T,b4,z,st,u,A];rw[cQ (cells:=dj) (sz:=1) (show m<bL.length by omega)];simp only[T,B,j8,wn,bD,aT];apply aI<;>intro e
   · have h:i+1<n:=by simpa using e
     unfold xI;simp only[aF,bD,T,aD];rw[lV];exact h1 _ (a1 h) _ g
   · have h:¬i+1<n:=by simpa using e
     simp only[st2,T,fO];refine p _ (by omega) (a2 h) ?_;have C:bL.drop m=n::bL.drop (m+1):=by have:=(XV.1 b).1;rw[abE this];rw[YO this]at b;cases b;rfl
     rw[C];exact g.set _
 have:=main a.length H (sl _) (by rw[ac1 (by omega),ac1 (sl _),eX];intros;simp_all) (by rw[List.take_length,ac1 (by omega)];simpa using l);exact this
end Rb

namespace Rb
open Go Go.RowKit
variable{b:Nat}{W:World}
def Kb(b:Nat)(A B:World):Prop:=A.grownBy B (some b)∧∃o:Obj,A.heap[b]?=some o∧o.isCells=true
def gO(b:Nat)(A B:World):Prop:=A.heap.size≤B.heap.size∧B.heap[b]?=A.heap[b]?
theorem gO.refl(b:Nat)(A:World):gO b A A:=⟨sl _,rfl⟩
theorem gO.trans{A B C:World}(h:gO b A B)(k:gO b B C):gO b A C:=⟨xl h.1 k.1,k.2.trans h.2⟩
theorem gO.putObj{l:Nat}(a:Obj)(hl:l<W.heap.size)(h:b≠l):gO b W (W.putObj l a):=⟨by simp,ac2 h⟩
theorem gO.alloc(o:Obj)(h:b<W.heap.size):gO b W (W.alloc o):=⟨by simp,Below.heap_alloc W o b h⟩
end Rb

namespace Rb
open Go Go.RowKit
variable{S:Nat→Prop}{W:World}
def eF(S:Nat→Prop)(A B:World):Prop:=A.heap.size≤B.heap.size∧∀k,S k→B.heap[k]?=A.heap[k]?
theorem eF.refl(S:Nat→Prop)(A:World):eF S A A:=⟨sl _,λ_ _=>rfl⟩
theorem eF.trans{A B C:World}(h:eF S A B)(k:eF S B C):eF S A C:=⟨xl h.1 k.1,λj a=>(k.2 j a).trans (h.2 j a)⟩
theorem eF.putObj{l:Nat}(a:Obj)(h:∀k,S k→k≠l):eF S W (W.putObj l a):=⟨by simp,λk hk=>ac2 (h k hk)⟩
theorem eF.alloc(o:Obj)(h:∀k,S k→k<W.heap.size):eF S W (W.alloc o):=⟨by simp,λk hk=>Below.heap_alloc W o k (h k hk)⟩
def Kc(W W':World):Prop:=∀(k:Nat)(o:Obj),W.heap[k]?=some o→((∃x,o = .loop x)∨∃x,o = .deferred x)→W'.heap[k]?=some o
def mr(b:Nat)(A B:World):Prop:=Kb b A B∧A.drawn≤B.drawn
def Kd{α:Type}(n:Nat)(P:Program)(g:Nat)(lb:Array Value)(arg:Nat→World→α→Array Value→Prop)(S:Nat→Prop)(xs:List α)(w:World):Prop:=
 ∀ (l:Nat) (J:Nat→List α→World→Prop) (W:World),eF S w W→(∀b s A B,J b s A→mr b A B→J b s B) →
  (∀b pre x args Wp W1,J b pre Wp→mr b Wp W1→(pre++[x]) <+: xs→arg Wp.heap.size W1 x args→YieldAt ac3 (n-1) P l args W1 λe W'=>e = .returned (.bool true)∧J b (pre++[x]) W'∧gO b W1 W'∧eF S W1 W') →
  (∀b W',Below W.heap.size W W'→W.drawn≤W'.drawn→W.heap.size≤b→b<W'.heap.size→J b [] W') →
  CallsIn ac3 n P g (#[.func (.yield l) #[] #[]]++lb) W λe W'=>(∃v,e = .returned v)∧∃b,J b xs W'
theorem Ut{α:Type}{P:Program}{n:Nat}{w:World}{g:Operand}{ps:Array Tmp}{assign body:Code}{Q:Exit→Act→World→Prop}{a:Act}
  (h1:1≤n) {gf:Nat} {lb:Array Value} (J:a.eval g = .func (.func gf) #[] lb) (L:∀args w,(callFunc gf args).run P w = .ok (.enter gf args) w)
  {arg:Nat→World→α→Array Value→Prop} {S:Nat→Prop} {xs:List α} (hc:∀k,S k→k<w.heap.size) (M:Kd (n-1) P gf lb arg S xs w) (u:∀N W x V,arg N W x V→V.size=ps.size) (O:∀N N' W x V,N≤N'→arg N' W x V→arg N W x V)
  (R:∀N W l o x V,W.heap[l]?=some (.loop o)→arg N W x V→∀i,arg N (W.putObj l (.loop i)) x V)
  (d:Nat→Nat→List α→World→Prop) (j:∀N b pre W l o i,d N b pre W→w.heap.size≤l→W.heap[l]?=some o→(∃x,o = .loop x)∨(∃x,o = .deferred x)→d N b pre (W.putObj l i)) (hT:∀N b s A B,d N b s A→mr b A B→d N b s B)
  (T:∀b W',Below w.heap.size w W'→w.drawn≤W'.drawn→w.heap.size≤b→b<W'.heap.size→∃N,N≤W'.heap.size∧d N b [] W') (y:Array Value→Act)
  (U:∀(l:Nat)(V:Array Value)(W:World)(K:Act→World→Prop),V.size=ps.size→K (y V) W →
    assign.wpIn (ac3.inRound l) (n-1-1) P (Exit.then K (λ_ _ _=>False)) {tmps:=(ps.zip V).foldl (λt (p,v)=>t.setIfInBounds p v) a.tmps,defers:=[]} W)
  (X:∀(l N b:Nat)(pre:List α)(x:α)(V:Array Value)(W:World),w.heap.size≤W.heap.size→w.heap.size≤b→b<W.heap.size→d N b pre W→(pre++[x]) <+: xs→arg N W x V →
    body.wpIn (ac3.inRound l) (n-1-1) P (λe _ W'=>e = .normal∧Kc W W'∧gO b W W'∧eF S W W'∧∃N',N'≤W'.heap.size∧d N' b (pre++[x]) W') (y V) W)
  (Y:∀(D N b:Nat)(W:World),w.heap.size≤D→d N b xs W→W.heap[D]?=some (.deferred (some []))→Q .normal {a with defers:={target:= .collected D,args:= #[]}::a.defers} W) :
  (Code.rangeFunc g ps assign body).wpIn ac3 n P Q a w:=by
 refine wpIn_rangeFunc ?_;intro fn Z;let c:LoopState→Option Code→Loop:=λst aa=>{state:=st,pending:=aa,fn,tmps:=a.tmps,params:=ps,assign,body,defers:=w.heap.size}
 let W1:World:=(w.alloc (.deferred (some []))).alloc (.loop (c .ready none));have ab:W1.heap[w.heap.size+1]?=some (.loop (c .ready none)):=by have:=ac4 (w.alloc (.deferred (some []))) (.loop (c .ready none));rwa [World.size_alloc]at this
 have ac:W1.heap[w.heap.size]?=some (.deferred (some [])):=(Below.heap_alloc _ _ _ (by simp)).trans (ac4 w _);have z:eF S w W1:=(eF.alloc _ hc).trans (eF.alloc _ λk hk=>(by have:=hc k hk;simp;omega));have ad:Below w.heap.size w W1:=((Below.refl _ w).alloc (sl _) _).alloc (by simp) _;have ae:w.heap.size≤W1.heap.size:=z.1;have av:W1.heap.size=w.heap.size+2:=by simp[W1]
 refine ⟨w.heap.size+1,[{target:= .collected w.heap.size,args:= #[]}],W1,{target:= .fn (.func gf) lb,args:= #[.func (.yield (w.heap.size+1)) #[] #[]]},W1,gf,
   #[.func (.yield (w.heap.size+1)) #[] #[]]++lb,W1,?_,?_,λ_ _=>trivial,?_,λ_=>h1,?_⟩
 ·exact run_enterLoop_outer _ _ _ _ _
 · simp only[resolve,J];simp[go_sem]
 ·simp[invoke,go_sem,L]
 ·
   have turn:∀{b:Nat}{A B:World}{k:Nat}{o:Obj},Kb b A B→A.heap[k]?=some o→o.isCells=false→B.heap[k]?=some o:=by intro b A B k o ht hk af;obtain⟨ag,i,C,hc⟩:=ht;refine(ag.block k (YF.1 hk).1 (λe=>?_)).trans hk;cases e;rw[hk]at C;cases C;rw[af]at hc;cases hc
   refine (M (w.heap.size+1)
     (λb pre W=>w.heap.size+2≤b∧b<W.heap.size∧w.heap.size≤W.heap.size∧(∃N,N≤W.heap.size∧d N b pre W)∧W.heap[w.heap.size+1]?=some (.loop (c .ready none))∧W.heap[w.heap.size]?=some (.deferred (some [])))
     W1 z (λb s A B hs ht=>⟨hs.1,AH hs.2.1 ht.1.1.size,xl hs.2.2.1 ht.1.1.size,(by obtain⟨N,hN,hi⟩:=hs.2.2.2.1;exact⟨N,xl hN ht.1.1.size,hT N b s A B hi ht⟩),turn ht.1 hs.2.2.2.2.1 rfl,turn ht.1 hs.2.2.2.2.2 rfl⟩) ?_ ?_).mono ?_
   ·
     rintro b pre x V Wp W ⟨E,m,q,⟨N,hN,hi⟩,hl,hk⟩ f ah ai;have ha:=O _ _ _ _ _ hN ai;replace m:=AH m f.1.1.size;replace q:=xl q f.1.1.size;replace hi:=hT N b pre Wp W hi f;replace hl:=turn f.1 hl rfl;replace hk:=turn f.1 hk rfl;have h:w.heap.size+1<W.heap.size:=(YF.1 hl).1;have aj:=run_yield (P:=P) (args:=V) hl (u N W x V ha);refine⟨fn,_,assign,body,aj,roundIn_of_wpIn Z (U _ V W _ (u N W x V ha) ?_)⟩;refine⟨_,run_beginRound hl rfl,?_⟩;have ak:(W.putObj (w.heap.size+1) (.loop {c .ready none with state:= .busy})).heap[w.heap.size+1]?=some (.loop {c .ready none with state:= .busy}):=ac5 h;have al:(W.putObj (w.heap.size+1) (.loop {c .ready none with state:= .busy})).heap[w.heap.size]?=some (.deferred (some [])):=(ac2 (by omega)).trans hk;have am:gO b W (W.putObj (w.heap.size+1) (.loop {c .ready none with state:= .busy})):=gO.putObj _ h (by omega);have an:eF S W (W.putObj (w.heap.size+1) (.loop {c .ready none with state:= .busy})):=eF.putObj _ λk hk=>(by have:=hc k hk;omega)
     refine wpIn_mono (X _ N b pre x V _ (by simp;omega) (by omega) (by simp;omega) (j N b pre _ _ _ _ hi (by omega) hl (.inl ⟨_,rfl⟩)) ah (R _ _ _ _ _ _ hl ha _)) ?_;rintro e a3 ao ⟨rfl,F,G,ap,H,aw,aq⟩;have r:=F _ _ ak (.inl ⟨_,rfl⟩);have ar:=run_endRound (P:=P) none r;have I:w.heap.size+1<ao.heap.size:=(YF.1 r).1;have l_:=G.1;simp at l_;refine⟨_,_,ar,rfl,⟨E,by simp;omega,by simp;omega,?_,ac5 I,(ac2 (by omega)).trans (F _ _ al (.inr ⟨_,rfl⟩))⟩,?_,?_⟩
     ·exact⟨H,by simp;omega,j H b _ _ _ _ _ aq (by omega) r (.inl ⟨_,rfl⟩)⟩
     ·exact am.trans (G.trans (gO.putObj _ I (by omega)))
     ·exact an.trans (ap.trans (eF.putObj _ λk hk=>(by have:=hc k hk;omega)))
   ·
     intro b W' hb au hle h;have hs:=hb.size;exact⟨by omega,h,by omega,T b W' (ad.trans (hb.mono ae)) au (by omega) h,(hb.block _ (by omega)).trans ab,(hb.block _ (by omega)).trans ac⟩
   ·
     rintro e ax ⟨⟨v,rfl⟩,b,E,m,q,⟨N,hN,hi⟩,hl,hk⟩;exact⟨none,_,run_endLoop (P:=P) hl (by simp[c]),Y _ N b _ (sl _) (j N b _ _ _ _ _ hi (by omega) hl (.inl ⟨_,rfl⟩)) ((ac2 (by omega)).trans hk)⟩
end Rb

namespace Rb
open Go
variable{H:Z}{n:Nat}{x:I}{cells:List I}
theorem Uu{a n:Nat}{K:I→Z→Prop}(b:fi H 1 x=some (n,cells))(hl:cells.length=n)(hs:cells.all I.scalar=true)(hb:n*a≤140737488355328)(hn:n≤9223372036854775807)
  (c:∀tk H',Z.Ext H H'→tk ≠ .nil→K (.ak tk n cells) H'):ar (cr H false 1 a (.ak .full 0 []) x) K:=by
 by_cases d:n=0
 · subst d;have:cells=[]:=Zi.1 hl;subst this;have e:cr H false 1 a (.ak .full 0 []) x=some (.ak .full 0 [],H):=by
    simp only[cr,b];rfl
   rw[e,aR];exact c .full H (Z.Ext.refl H) (by decide)
 · refine⟨.ak (.own H.n) n cells,H.push (.tok (n*1) 1),?_,c _ _ (Z.Ext.push H _) (by simp)⟩;simp only[cr,b,hs,not_true_eq_false,bR,ab d];rw[ab (by simp only[Decidable.not_not];exact⟨by simp,by rw[YI];exact hb,by omega⟩)];simp
section
variable{C:Ctx}(hT:Cl (af C) S.bu)
include hT
theorem Uv{Q:ad}(a:fi H 1 x=some (n,cells))(b:mA .s false x=some (.bool false))(hl:cells.length=n)(hs:cells.all I.scalar=true)(hn:n≤1000000000)
  (hQ:∀tk H',Z.Ext H H'→tk ≠ .nil→Q (.ak tk n cells) H'):af C 41 [x] H Q:=by
 refine S.Pa hT ?_;unfold S.f41;have c:dk H false 1 0 [.int .u64 0] []=some (.ak .full 0 [],H):=rfl;simp only[b,T,aD,ZP,bR,c,aR];exact Uu a hl hs (by omega) (by omega) hQ
end
def oy(F:cz)(a:Nat→Nat→Prop)(N:Nat)(W:World)(x:List Int)(args:Array Value):Prop:=∃V fz,args = #[V]∧(∀b o,fz b o→(a b o∨N≤b)∧∃U,W.cell? ⟨b,o,none⟩=some U)∧VR F W (aH.mt fz) (.ak .dead x.length (x.map dz)) V
end Rb

namespace Rb
open Go Go.RowKit
variable{w w':World}{G:aH}{F:cz}
theorem Ke(hb:Below w.heap.size w w')(b c:Nat):GLe w G w' (G.more b c):=⟨YB _,λi hi=>ab (YG hi),λi hi=>ab (YG hi),λ_ _ hf=>hf,(Ao (G:=G) hb).cell⟩
theorem Uw(hb:Below w.heap.size w w')(b c:Nat){i:Nat}{x:bM}(h:eY F w G i x)(hi:x.live=true→i<G.n):eY F w' (G.more b c) i x:=h.aJ (Ke hb b c) hi (λhl=>hb.block _ (h.lt hl)) λ_ _ a=>a
theorem oK{H:Z}(hb:Below w.heap.size w w')(x:w.drawn≤w'.drawn)(h:Rel F w G H){b:Nat}{C:Array Value}{e:TypeId}(hB:w.heap.size≤b)(y:w'.heap[b]?=some (.cells C e (0,0)))
  {cs:List I} (hv:∀(j:Nat)(c:I),cs[j]?=some c→∃V,C[j]?=some V∧VR F w' (G.more b C.size) c V) :
  Rel F w' (G.more b C.size) (H.push (.row cs))∧Step w G H w' (G.more b C.size) (H.push (.row cs))∧∀n cap sz,n≤cap→C.size=cap*sz→VR F w' (G.more b C.size) (.row H.n 0 n sz) (.slice (some ⟨b,0,none⟩) n cap):=by
 have hn:=h.n;have z:=Ke (G:=G) hb b C.size;have l:∀i,i≠H.n→(G.more b C.size).loc i=G.loc i:=λi hi=>ab (show ¬i=G.n by omega);have f:(G.more b C.size).loc H.n=b:=aa hn.symm;have s:(G.more b C.size).cap H.n=C.size:=aa hn.symm;have a:∀i,i≠H.n→(H.push (.row cs)).o i=H.o i:=λi hi=>ab hi;have t:∀i,(H.o i).live=true→G.loc i≠b:=λi hl=>YG (AH ((h.obj i).lt hl) hB);have A:∀j,¬G.fz b j:=λj B=>by obtain⟨V,q⟩:=h.ea b j B;have:=wq q;omega
 refine⟨⟨by show G.n+1=H.n+1;omega,λi d=>?_,λi=>?_,λi j D h1 r=>?_,λu o hf=>?_⟩,?_,λn cap sz hle E=>?_⟩
 · have v:H.n+1≤i:=d;rw[a i (by omega)];exact h.over i (by omega)
 · by_cases g:i=H.n
   · subst g;show eY F w' _ H.n (if H.n=H.n then .row cs else H.o H.n);rw[aa rfl];exact⟨C,e,by rw[f];exact y,s.symm,by rw[f];exact A,hv⟩
   · rw[a i g];exact Uw hb b C.size (h.obj i) λhl=>h.gx hl
 · by_cases d:i=H.n<;>by_cases m:j=H.n
   ·omega
   ·rw[d,f,l j m];rw[a j m]at r;exact(t j r).symm
   ·rw[m,f,l i d];rw[a i d]at h1;exact t i h1
   ·rw[l i d,l j m];rw[a i d]at h1;rw[a j m]at r;exact h.eZ i j D h1 r
 · obtain⟨V,q⟩:=h.ea u o hf;exact⟨V,by rw[hb.cell (p:=⟨u,o,none⟩) (wq q)];exact q⟩
 · refine {z with size:=hb.size,os:=hb.os,tape:=hb.tape,output:=hb.output,dr:=x,c9:=λk hk _=>hb.block k hk,owned:=λi hl v=>?_,ez:=λ_ _ hf=> .inl hf};by_cases g:i=H.n
   ·rw[g,f]at v;omega
   · rw[a i g]at hl;exact⟨i,hl,(l i g).symm⟩
 · have:=VR.row (F:=F) (w:=w') (G:=G.more b C.size) H.n 0 n sz cap (by show H.n<G.n+1;omega) hle (by rw[s,E];omega);rw[f]at this;exact this
end Rb

namespace Rb
open Go
variable{w W:World}{b cap:Nat}{is:List Int}{S:Nat→Prop}{C:Ctx}{fz:Nat→Nat→Prop}
def nh(w:World)(b cap:Nat)(is:List Int):Prop:=∃a e,w.heap[b]?=some (.cells a e (0,0))∧a.size=cap∧is.length≤cap∧∀(k:Nat)(v:Int),is[k]?=some v→a[k]?=some (.int .u64 v)
theorem nh.left{w w':World}(h:nh w b cap is)(k:gO b w w'):nh w' b cap is:=by obtain⟨a,e,h1,c⟩:=h;exact⟨a,e,k.2.trans h1,c⟩
theorem B7{F:cz}{G:aH}{H:Z}{i:Nat}(b:Rel F w G H)(h:At H i (.row (is.map dz)))(hc:is.length≤G.cap i):nh w (G.loc i) (G.cap i) is:=by have a:=b.obj i;rw[h.2]at a;obtain⟨c,e,h1,d,_,f⟩:=a;refine⟨c,e,h1,d,hc,λk v hv=>?_⟩;obtain⟨V,g,j⟩:=f k (dz v) (by rw[YN,hv];rfl);rw[g];cases j;rfl
theorem eF.cell(h:eF S W w){b o:Nat}{V:Value}(hb:S b)(hc:W.cell? ⟨b,o,none⟩=some V):w.cell? ⟨b,o,none⟩=some V:=by rw[YD (w:=W) (h.2 b hb)];exact hc
theorem ct.left(h:ct C W (aH.mt fz) Z.mt)(k:eF S W w)(hz:∀b o,fz b o→S b):ct C w (aH.mt fz) Z.mt:=by
 have c:GLe W (aH.mt fz) w (aH.mt fz):=⟨sl _,λ_ _=>rfl,λ_ _=>rfl,λ_ _ h=>h,λb o V hf hc=>k.cell (hz b o hf) hc⟩
 refine⟨h.1.mono c,λg l hl a=>?_⟩;obtain⟨⟨cs,t,fr,h1,d⟩,_⟩:=h.2 g l hl a;refine⟨⟨cs,t,fr,?_,d⟩,λi hi=>by cases hi⟩;have hv:=h.1 g l hl;cases hv with
 | ae cells b o Vs e hv=>
  obtain ⟨x,r,rfl⟩:∃x r,l=x::r:=by cases l with
   |nil=>exact absurd rfl a
   |cons x r=>exact⟨x,r,rfl⟩
  have:=(e 0 x rfl).1;rw[k.2 g (hz _ _ this)];exact h1
theorem Ux(h:nh w b cap is)(hz:∀b o,fz b o→∃V,w.cell? ⟨b,o,none⟩=some V)(hb:∀o,¬fz b o)(hG:ct C w (aH.mt fz) Z.mt) :
  ct C w ((aH.mt fz).more b cap) (Z.mt.push (.row (is.map dz)))∧Rel C.F w ((aH.mt fz).more b cap) (Z.mt.push (.row (is.map dz)))∧GLe w (aH.mt fz) w ((aH.mt fz).more b cap)∧VR C.F w ((aH.mt fz).more b cap) (.row 0 0 is.length 1) (.slice (some ⟨b,0,none⟩) is.length cap):=by
 obtain⟨f,e,h1,g,k,l⟩:=h;have m:=Rel.mt (F:=C.F) hz;obtain ⟨d,n⟩:=m.oK (b:=b) (c:=cap) (λi hi=>by cases hi) (.row (is.map dz)) λd=>by
  refine⟨f,e,?_,?_,?_,?_⟩
  ·exact h1
  ·exact g
  ·exact hb
  · intro j c a;rw[YN]at a;cases hi:is[j]? with
    |none=>rw[hi]at a;cases a
    | some v=>rw[hi]at a;simp only[Option.map_some,Yb.injEq]at a;subst a;exact⟨_,l j v hi,.int _ _⟩
 refine⟨hG.oK d rfl hb,n,d,?_⟩;have:=VR.row (F:=C.F) (w:=w) (G:=(aH.mt fz).more b cap) 0 0 is.length 1 cap (by show 0<0+1;decide) k (by show 0+cap*1=cap;omega);exact this
def xK:c6:= .region [
   ⟨some 5,.load 1 false (.t 1),none⟩,
   ⟨some 6,.len false (.t 5),none⟩,
   ⟨some 7,.make true 1 8 [.int .u64 0] (.t 6) (.t 6),none⟩,
   ⟨some 3,.mv (.t 7),none⟩]
def KZ(R:ad):fj→Env→Z→Prop
 | .normal,env,H=>R (env.getD 3 .bot) H
 |_,_,_=>False
def qm(a1:I):Env:=[.bot,a1]++XS 39 .bot
theorem Uy(Φ:ai)(a1:I)(H:Z)(R:ad):cp Φ xK (qm a1) H (KZ R)=(Do (O H 1 false a1) λb=>Do (bp false b) λa=>ar (kr H true 1 8 [.int .u64 0] a a) λc d=>R c d):=by kernel_rfl
structure xL(S:Nat→Prop)(J:Nat→List (List Int)→World→Prop)(W0:World)(l:Nat)(Vc:Value)(b cap:Nat)(pre:List (List Int))(is:List Int)(a:Act)(w:World):Prop where
 t0:a.tmps[0]?=some (.func (.yield l) #[] #[])
 t1:a.tmps[1]?=some Vc
 t3:a.tmps[3]?=some (.slice (some ⟨b,0,none⟩) is.length cap)
 sz:a.tmps.size=41
 df:a.defers=[]
 now:nh w b cap is
 lf:eF S W0 w
 j:J b pre w
theorem xL.aJ{J:Nat→List (List Int)→World→Prop}{W0:World}{l:Nat}{Vc:Value}{pre:List (List Int)}{a a':Act}{az:List Nat}(h:xL S J W0 l Vc b cap pre is a w)(k:c_ az a a')(c:0∉az)(d:1∉az)(e:3∉az)(f:a'.defers=[]):xL S J W0 l Vc b cap pre is a' w:=⟨(k.2 0 c).trans h.t0,(k.2 1 d).trans h.t1,(k.2 3 e).trans h.t3,k.1.trans h.sz,f,h.now,h.lf,h.j⟩
end Rb

namespace Rb
open Go
variable{b cap:Nat}{w w':World}{G G':aH}{H H':Z}
theorem Uz{F:Fence}{m:Nat}{P:Program}{l:Nat}{args:Array Value}{W:World}{R a:Ending→World→Prop}(h:YieldAt F m P l args W R)(k:∀e w,R e w→a e w):YieldAt F m P l args W a:=by obtain⟨fn,tmps,assign,body,h1,b⟩:=h;exact⟨fn,tmps,assign,body,h1,b.mono k⟩
theorem Kf(a:Step w G H w' G' H')(c:∀i,(H.o i).live=true→G.loc i=b){d:Array Value}{e:TypeId}(hb:w.heap[b]?=some (.cells d e (0,0))):mr b w w':=⟨⟨⟨a.os,a.tape,a.output,a.size,λk hk f=>a.c9 k hk λi hi he=>f (by rw[←he,c i hi])⟩,_,hb,rfl⟩,a.dr⟩
theorem sI{x:bM}{i:Nat}{fz:Nat→Nat→Prop}(h:((Z.mt.push x).o i).live=true):((aH.mt fz).more b cap).loc i=b:=by
 by_cases hi:i=0
 ·subst hi;rfl
 · have:(Z.mt.push x).o i = .gone:=ab hi;rw[this]at h;cases h
theorem B8{S:Nat→Prop}(a:Step w G H w' G' H')(c:∀i,(H.o i).live=true→G.loc i=b)(hS:∀k,S k→k<w.heap.size)(hb:¬S b):eF S w w':=⟨a.size,λk hk=>a.c9 k (hS k hk) λi hi he=>hb (by rw[←c i hi,he];exact hk)⟩
section
variable{C:Ctx}(hF:fM C)(hT:Cl (af C) S.bu){f41:FuncId}(hf:C.F 41=some f41){B r1:Code}(hB:b_ C B xH=true)
 {S:Nat→Prop} {W0:World} {fz:Nat→Nat→Prop} (hz:∀b o,fz b o→S b∧∃V,W0.cell? ⟨b,o,none⟩=some V) (hS:∀k,S k→k<W0.heap.size) (hG:ct C W0 (aH.mt fz) Z.mt) {Vc:Value} {bL:List Int} (hc:VR C.F W0 (aH.mt fz) (.ae [au dj bL]) Vc)
 (hl:∀n∈bL,1≤n∧n≤1000000000) (hn:bL.length≤1000000000) {J:Nat→List (List Int)→World→Prop} (oz:∀b s A B,J b s A→mr b A B→J b s B) {l n:Nat}
 (hY:∀b pre x args Wp W1,J b pre Wp→mr b Wp W1→(pre++[x]) <+: dT bL→oy C.F fz Wp.heap.size W1 x args→YieldAt ac3 n C.P l args W1 λe W'=>e = .returned (.bool true)∧J b (pre++[x]) W'∧gO b W1 W'∧eF S W1 W')
 (dC:∀(a:Act)(w:World)(V3:Value)(K:World→Prop),a.tmps[0]?=some (.func (.yield l) #[] #[])→a.tmps[3]?=some V3→a.tmps.size=41→Calls C.P f41 #[V3] w (λe w1=>∃V,e = .returned V∧YieldAt ac3 n C.P l #[V] w1 λe w2=>e = .returned (.bool true)∧K w2) →
   r1.wp C.P (λe a' w'=>e = .normal∧K w'∧a'.tmps[12]?=some (.bool false)∧c_ [8,9,10,11,12] a a'∧a'.defers=a.defers) a w)
 {Q:Exit→Act→World→Prop} (hQ:∀a w b,a.defers=[]→J b (dT bL) w→Q .ret a w)
include hF hT hf hB hz hS hG hc hl hn oz hY dC hQ
theorem UA(hb:¬S b):∀(m:Nat)(d:List Int)(pre:List (List Int)) (a:Act) (w:World),(i_ bL d).length≤m→VI bL d→pre++i_ bL d=dT bL→xL S J W0 l Vc b cap pre d a w →
  ac6 C.P (.block 1 ((r1.seq (.cond (.tmp 12) .ret .skip)).seq B)) Q m a w:=by
 intro m;induction m with
 | zero=>
  intro d pre a w hm hv hp hi;exfalso;cases s:eX bL d with
  |none=>rw[sH hv s]at hm;simp at hm
  |some t=>rw[(xG (λn hn=>(hl n hn).1) hv s).1]at hm;simp at hm
 | succ m O=>
  intro d pre a w hm hv hp hi;have D:∀b o,fz b o→S b:=λb o h=>(hz b o h).1;have ar:∀o,¬fz b o:=λo h=>hb (D b o h);have hlen:=hv.len;have av:∃rest,i_ bL d=d::rest:=by
   cases s:eX bL d with
   |none=>exact⟨[],sH hv s⟩
   |some t=>exact⟨_,(xG (λn hn=>(hl n hn).1) hv s).1⟩
  obtain⟨rest,aw⟩:=av;have ax:(pre++[d]) <+: dT bL:=⟨rest,by rw[←hp,aw];simp⟩
  show ac7 C.P (.block 1 ((r1.seq (.cond (.tmp 12) .ret .skip)).seq B)) (Exit.then (λa w=>ac6 C.P _ Q m a w) Q) a w;refine wp_block ?_;refine wp_seq ?_;refine wp_seq ?_;have tell:∀{w:World},nh w b cap d→eF S W0 w→ct C w ((aH.mt fz).more b cap) (Z.mt.push (.row (d.map dz)))∧Rel C.F w ((aH.mt fz).more b cap) (Z.mt.push (.row (d.map dz)))∧GLe W0 (aH.mt fz) w ((aH.mt fz).more b cap)∧VR C.F w ((aH.mt fz).more b cap) (.row 0 0 d.length 1) (.slice (some ⟨b,0,none⟩) d.length cap):=by
   intro w ay T;obtain⟨g1,g2,g3,g4⟩:=Ux ay (λq o h=>by obtain⟨V,g⟩:=(hz q o h).2;exact⟨V,T.cell (D q o h) g⟩) ar (hG.left T D);have az:GLe W0 (aH.mt fz) w (aH.mt fz):=⟨sl _,λ_ _=>rfl,λ_ _=>rfl,λ_ _ h=>h,λq o V aB aC=>T.cell (D q o aB) aC⟩
   exact⟨g1,g2,az.trans g3,g4⟩
  have ag:∀{w:World},eF S W0 w→∀k,S k→k<w.heap.size:=λh k hk=>AH (hS k hk) h.1;refine wp_mono (dC a w _ (λw2=>nh w2 b cap d∧eF S W0 w2∧J b (pre++[d]) w2) hi.t0 hi.t3 hi.sz ?_) ?_
  ·
    obtain⟨g1,g2,g3,g4⟩:=tell hi.now hi.lf;have H:At (Z.mt.push (.row (d.map dz))) 0 (.row (d.map dz)):=At.new Z.mt _;have aD:af C 41 [.row 0 0 d.length 1] (Z.mt.push (.row (d.map dz))) λv H'=>∃tk,v = .ak tk d.length (d.map dz)∧Z.Ext (Z.mt.push (.row (d.map dz))) H':=by
     refine Uv hT (n:=d.length) (cells:=d.map dz) ?_ rfl (aat _) ?_ (by omega) λtk H' E _=>⟨tk,rfl,E⟩
     · simp only[fi,H.2];rw[aa (by rw[aat];omega),abt,abG (by rw[aat];omega)]
     · rw[List.all_eq_true];intro x s;obtain⟨y,_,rfl⟩:=List.mem_map.1 s;rfl
    refine(aD.run hf g1 g2 (Vs:= #[.slice (some ⟨b,0,none⟩) d.length cap]) ⟨rfl,λj c V f g=>?_⟩).mono ?_
    · match j,f,g with
      |0,f,g=>simp at f g;subst f g;exact g4
      |j+1,f,g=>simp at f
    · rintro e w1 ⟨V,v,H',G',rfl,⟨tk,rfl,E⟩,aE,U,p⟩;refine⟨V,rfl,?_⟩;obtain⟨aF,ty,W,_⟩:=hi.now;have ht:=Kf p (λi hi=>sI hi) W;have X:=B8 p (λi hi=>sI hi) (ag hi.lf) hb;have ah:=H.ext E;have K:G'.loc 0=b:=(p.loc 0 (by show 0<0+1;decide)).trans rfl;have u:G'.cap 0=cap:=(p.cap 0 (by show 0<0+1;decide)).trans rfl;have Y:d.length≤cap:=by obtain⟨_,_,_,_,ab,_⟩:=hi.now;exact ab
      have z:=B7 U ah (by rw[u];exact Y);rw[K,u]at z;refine Uz (hY b pre d #[V] w w1 hi.j ht ax ⟨V,G'.fz,rfl,λq o h=>⟨?_,U.ea q o h⟩,?_⟩) ?_
      · rcases p.ez q o h with h|h|⟨i,aG,e⟩
        ·exact .inl h
        ·exact .inr h
        · exfalso;have L:b=q:=(sI aG).symm.trans e;have ai:=U.obj 0;rw[ah.2]at ai;obtain⟨_,_,_,_,aI,_⟩:=ai;exact aI o (by rw[K,L];exact h)
      · have hw:=aE.cd;have aJ:(I.ak tk d.length (d.map dz)).cd = .ak .dead d.length (d.map dz):=by
         simp only[I.cd,lr,aaO];rfl
        rw[aJ]at hw;refine la (G:=G') (G':=aH.mt G'.fz) (λ_ _ h=>h) (λ_ _ _ _ h=>h) ?_ hw;have:∀l:List Int,I.bA (l.map dz)=true:=by
         intro l;induction l with
         |nil=>rfl
         |cons x r O=>simp[I.bA,I.bb,dz,O]
        simp[I.bb,this,Tok.free]
      · rintro e w2 ⟨rfl,A,aL,iP⟩;exact⟨rfl,z.left aL,(hi.lf.trans X).trans iP,A⟩
  · rintro e a1 w1 ⟨rfl,⟨z,ac,aM⟩,aN,M,aO⟩;show ac7 C.P (.cond (.tmp 12) .ret .skip) _ a1 w1;refine wp_cond (t:=false) (by show a1.tmps.getD 12 undef=_;rw[Zb,aN];rfl) ?_;refine wp_skip ?_;show ac7 C.P B _ a1 w1;obtain⟨g1,g2,g3,g4⟩:=tell z ac;have aj:a1.tmps.size=41:=M.1.trans hi.sz;have al:a1.tmps[1]?=some Vc:=(M.2 1 (by decide)).trans hi.t1;have am:a1.tmps[3]?=some (.slice (some ⟨b,0,none⟩) d.length cap):=(M.2 3 (by decide)).trans hi.t3;have aP:aK C.F w1 ((aH.mt fz).more b cap) (ox (.ae [au dj bL]) (.row 0 0 d.length 1)) a1.tmps:=by
     refine⟨by rw[aj];rfl,λj aQ V f g=>?_⟩
     match j,f with
     |0,f=>simp[ox]at f;subst f;exact .bot _
     |1,f=>simp[ox]at f;subst f;rw[al]at g;cases g;exact hc.mono g3
     |2,f=>simp[ox]at f;subst f;exact .bot _
     |3,f=>simp[ox]at f;subst f;rw[am]at g;cases g;exact g4
     | j+4,f=>
      have:aQ = .bot:=by
       simp only[ox,ZS,abk,acx,aaD]at f;split at f
       ·cases f;rfl
       ·cases f
      subst this;exact .bot _
    have H:At (Z.mt.push (.row (d.map dz))) 0 (.row (d.map dz)):=At.new Z.mt _;have an:=Us (j:=0) (λn hn=>hl n hn) hv hn H (R:=λv H'=>if v=true then eX bL d=none else ∃t,eX bL d=some t∧At H' 0 (.row (t.map dz))) (λh H'=>by rw[aa rfl];exact h) λt ht H' h=>by rw[eM];exact⟨t,ht,h⟩
    rw[←Ur (af C)]at an;refine tD hF xH B _ _ _ w1 a1 _ _ hB an g1 g2 aP (aO.trans hi.df) ?_;intro aR ex aA H' G' a2 w2 hex ad aX aS aY ao p N;obtain⟨aF,ty,W,_⟩:=z;have ht:=Kf p (λi hi=>sI hi) W;have A:=oz b _ w1 w2 aM ht;have X:=B8 p (λi hi=>sI hi) (ag ac) hb;cases aR with
    |exit i=>exact ad.elim
    | ret=>
     cases ex<;>simp only[e_]at hex;have aT:eX bL d=none:=by simpa[KX]using ad
     have aU:pre++[d]=dT bL:=by rw[←hp,sH hv aT]
     rw[aU]at A;exact hQ a2 w2 b ao A
    | normal=>
     cases ex<;>simp only[e_]at hex;obtain⟨t,aV,aW⟩:∃t,eX bL d=some t∧At H' 0 (.row (t.map dz)):=by simpa[KX]using ad
     obtain⟨e1,L⟩:=xG (λn hn=>(hl n hn).1) hv aV;have K:G'.loc 0=b:=(p.loc 0 (by show 0<0+1;decide)).trans rfl;have u:G'.cap 0=cap:=(p.cap 0 (by show 0<0+1;decide)).trans rfl;have Y:d.length≤cap:=by obtain⟨_,_,_,_,ab,_⟩:=hi.now;exact ab
     have ap:t.length=d.length:=by rw[L.len,hlen]
     have aq:=B7 aS aW (by rw[u,ap];exact Y);rw[K,u]at aq;show ac6 C.P _ Q m a2 w2;refine O t (pre++[d]) a2 w2 ?_ L ?_ ?_
     ·rw[e1,abD]at hm;omega
     ·rw[←hp,e1];simp
     ·exact⟨(N.2 0 (by decide)).trans ((M.2 0 (by decide)).trans hi.t0),(N.2 1 (by decide)).trans al,by rw[ap];exact(N.2 3 (by decide)).trans am,N.1.trans aj,ao,aq,ac.trans X,A⟩
end
end Rb

namespace Rb
open Go Go.RowKit
section
variable{C:Ctx}(hF:fM C)(hT:Cl (af C) S.bu){f41:FuncId}(hf:C.F 41=some f41){B r0 r1:Code}(xM:b_ C r0 xK=true)(hB:b_ C B xH=true)
 {S:Nat→Prop} {W0:World} {fz:Nat→Nat→Prop} (hz:∀b o,fz b o→S b∧∃V,W0.cell? ⟨b,o,none⟩=some V) (hS:∀k,S k→k<W0.heap.size) (hG:ct C W0 (aH.mt fz) Z.mt) {Vc:Value} {bL:List Int} (hc:VR C.F W0 (aH.mt fz) (.ae [au dj bL]) Vc)
 (hl:∀n∈bL,1≤n∧n≤1000000000) (hn:bL.length≤1000000000) {J:Nat→List (List Int)→World→Prop} (oz:∀b s A B,J b s A→mr b A B→J b s B) {l n:Nat}
 (hY:∀b pre x args Wp W1,J b pre Wp→mr b Wp W1→(pre++[x]) <+: dT bL→oy C.F fz Wp.heap.size W1 x args→YieldAt ac3 n C.P l args W1 λe W'=>e = .returned (.bool true)∧J b (pre++[x]) W'∧gO b W1 W'∧eF S W1 W')
 (dC:∀(a:Act)(w:World)(V3:Value)(K:World→Prop),a.tmps[0]?=some (.func (.yield l) #[] #[])→a.tmps[3]?=some V3→a.tmps.size=41→Calls C.P f41 #[V3] w (λe w1=>∃V,e = .returned V∧YieldAt ac3 n C.P l #[V] w1 λe w2=>e = .returned (.bool true)∧K w2) →
   r1.wp C.P (λe a' w'=>e = .normal∧K w'∧a'.tmps[12]?=some (.bool false)∧c_ [8,9,10,11,12] a a'∧a'.defers=a.defers) a w)
 {Q:Exit→Act→World→Prop} (hQ:∀a w b,a.defers=[]→J b (dT bL) w→Q .ret a w)
include hF hT hf xM hB hz hS hG hc hl hn oz hY dC hQ
theorem UB(z:∀b W',Below W0.heap.size W0 W'→W0.drawn≤W'.drawn→W0.heap.size≤b→b<W'.heap.size→J b [] W'){a:Act}(ha:a.tmps.size=41)(A:a.tmps[0]?=some (.func (.yield l) #[] #[]))(k:a.tmps[1]?=some Vc)(D:a.defers=[]) :
  ac7 C.P (r0.seq (.block 0 (.loop (.block 1 ((r1.seq (.cond (.tmp 12) .ret .skip)).seq B))))) Q a W0:=by
 have m:∀n∈bL,1≤n:=λn hn=>(hl n hn).1;refine wp_seq ?_;have E:Rel C.F W0 (aH.mt fz) Z.mt:=Rel.mt λb o h=>(hz b o h).2;have G:aK C.F W0 (aH.mt fz) (qm (.ae [au dj bL])) a.tmps:=by
  refine⟨by rw[ha];rfl,λj H V c p=>?_⟩
  match j,c with
  |0,c=>simp[qm]at c;subst c;exact .bot _
  |1,c=>simp[qm]at c;subst c;rw[k]at p;cases p;exact hc
  | j+2,c=>
   have:H = .bot:=by
    simp only[qm,ZS,abk,acx,aaD]at c;split at c
    ·cases c;rfl
    ·cases c
   subst this;exact .bot _
 have K:cp (af C) xK (qm (.ae [au dj bL])) Z.mt (KZ λL M=>L = .row 0 0 bL.length 1∧At M 0 (.row ((bL.map λ_=>(0:Int)).map dz))):=by
  rw[Uy,show O Z.mt 1 false (.ae [au dj bL])=some (au dj bL)from rfl];simp only[T,cU];have hm:kr Z.mt true 1 8 [.int .u64 0] (.int .i64 bL.length) (.int .i64 bL.length)=some (.row 0 0 bL.length 1,Z.mt.push (.row ((bL.map λ_=>(0:Int)).map dz))):=by
   unfold kr;dsimp only;rw[aa ⟨by omega,by omega,by omega,by omega,rfl⟩];simp only[a_,Y7];congr 3;rw[aaO];have:∀l:List Int,(XS l.length [I.int .u64 0]).flatten=l.map (dz∘λ_=>(0:Int)):=by
    intro l;induction l with
    |nil=>rfl
    |cons x r N=>rw[abD,List.replicate_succ,List.flatten_cons,N];rfl
   rw[this]
  rw[hm];simp only[aR];exact⟨trivial,At.new Z.mt _⟩
 refine tD hF xK r0 _ _ _ W0 a _ _ xM K hG E G D ?_;intro R ex aA H' G' a1 w1 hex f al U W Y d hk;cases R with
 |exit i=>exact f.elim
 |ret=>exact f.elim
 | normal=>
  cases ex<;>simp only[e_]at hex;obtain⟨ab,q⟩:=f;have ac:a1.tmps.size=41:=hk.1.trans ha;have g:=k6 (t:=3) W;rw[ab]at g;have s:a1.tmps[3]?=some (a1.tmps.getD 3 undef):=by rw[Zb,Array.getElem?_eq_getElem (by omega)];rfl
  have ad:(H'.o 0).live=true:=by rw[q.2];rfl
  have ag:¬G'.loc 0<W0.heap.size:=λh=>by obtain⟨j,c,_⟩:=d.owned 0 ad h;cases c
  have u:¬S (G'.loc 0):=λh=>ag (hS _ h);have ah:∀i,(Z.mt.o i).live=true→(aH.mt fz).loc i=G'.loc 0:=λi hi=>by cases hi
  generalize am:a1.tmps.getD 3 undef=X at g s;cases g with
  | row id off len sz cap h hle an=>
   have v:(bL.map λ_=>(0:Int)).length=bL.length:=aat _;have y:=B7 U q (by rw[v];omega);have ai:G'.loc 0<w1.heap.size:=by obtain⟨ao,e,h1,_⟩:=y;exact(YF.1 h1).1
   have aj:cap=G'.cap 0:=by omega
   subst aj;show ac7 C.P (.block 0 _) _ a1 w1;refine wp_block ?_;refine wp_loop_rounds (i_ bL (bL.map λ_=>0)).length ?_;refine UA hF hT hf hB hz hS hG hc hl hn oz hY dC (Q:=Exit.inBlock 0 Q) (λa w b h1 ak=>hQ a w b h1 ak) (b:=G'.loc 0) (cap:=G'.cap 0) u _ _ [] a1 w1 (sl _) (VI.zero m) ?_ ?_
   ·rw[acx,B5 m]
   ·exact⟨(hk.2 0 (by decide)).trans A,(hk.2 1 (by decide)).trans k,by rw[s,v],ac,Y,y,B8 d ah hS u,z _ _ (Step.below d) d.dr (by omega) ai⟩
end
end Rb

namespace Go.Proofs.YteakojhgmhmdkaaGreatDoor.rb
open Go Go.Proofs Go.RowKit Go.Shelf Rb
set_option maxRecDepth 100000 in
set_option maxHeartbeats 4000000 in
theorem UC(n l : Nat)(L : List Value)(ds:List Deferred)(w:World)(V3:Value)(K:World→Prop)(ha:L.length=41)(a:L[0]?=some (.func (.yield l) #[] #[]))(b:L[3]?=some V3)
  (hc:Calls Tryz.prog 41 #[V3] w (λe w1=>∃V,e = .returned V∧YieldAt ac3 n Tryz.prog l #[V] w1 λe w2=>e = .returned (.bool true)∧K w2)) :
  (ac8 1
                      #[{ dst := some 8, op := Op.move (Operand.tmp 0), type := 117, pos := "bound.go:41",
                          after:= #[],guard:=none},
                        { dst := some 9, op := Op.move (Operand.tmp 3), type := 46, pos := "bound.go:41",
                          after:= #[],guard:=none},
                        { dst :=some 10,
                          op :=
                           Op.call
                            { callee:=ac9 (Operand.func 41),args:= #[ac_ 9],
                              argTypes:= #[46]},
                          type := 46, pos := "bound.go:41", after := #[{ on := 1, ground := Ground.data }],
                          guard:=none},
                        { dst :=some 11,
                          op :=
                           Op.call
                            { callee:=ac9 (ac_ 8),args:= #[ac_ 10],
                              argTypes:= #[46]},
                          type := 4, pos := "bound.go:41",
                          after:=
                           #[{on:=0,ground:=ada},{on:=2,ground:=ada},
                             {on:=2,ground:=Ground.chain}],
                          guard:=none},
                        { dst := some 12, op := Op.unOp UnOp.not 4 (Operand.tmp 11), type := 4, pos := "bound.go:41",
                          after:= #[{on:=3,ground:=ada}],guard:=none}]
                      false).wp Tryz.prog (λe a' w'=>e = .normal∧K w'∧a'.tmps[12]?=some (.bool false)∧c_ [8,9,10,11,12] ⟨L.toArray,ds⟩ a'∧a'.defers=ds) ⟨L.toArray,ds⟩ w:=by
 obtain⟨t0,c,rfl⟩:=adb (l:=L) (n:=40) (by simpa using ha);obtain⟨t1,d,rfl⟩:=adb (l:=c) (n:=39) (by simpa using ha);obtain⟨t2,f,rfl⟩:=adb (l:=d) (n:=38) (by simpa using ha);obtain⟨t3,g,rfl⟩:=adb (l:=f) (n:=37) (by simpa using ha);obtain⟨t4,i,rfl⟩:=adb (l:=g) (n:=36) (by simpa using ha);obtain⟨t5,j,rfl⟩:=adb (l:=i) (n:=35) (by simpa using ha);obtain⟨t6,k,rfl⟩:=adb (l:=j) (n:=34) (by simpa using ha);obtain⟨t7,m,rfl⟩:=adb (l:=k) (n:=33) (by simpa using ha);obtain⟨t8,o,rfl⟩:=adb (l:=m) (n:=32) (by simpa using ha);obtain⟨t9,p,rfl⟩:=adb (l:=o) (n:=31) (by simpa using ha);obtain⟨t10,q,rfl⟩:=adb (l:=p) (n:=30) (by simpa using ha);obtain⟨t11,r,rfl⟩:=adb (l:=q) (n:=29) (by simpa using ha);obtain⟨t12,s,rfl⟩:=adb (l:=r) (n:=28) (by simpa using ha);obtain⟨t13,u,rfl⟩:=adb (l:=s) (n:=27) (by simpa using ha);obtain⟨t14,v,rfl⟩:=adb (l:=u) (n:=26) (by simpa using ha);obtain⟨t15,x,rfl⟩:=adb (l:=v) (n:=25) (by simpa using ha);obtain⟨t16,y,rfl⟩:=adb (l:=x) (n:=24) (by simpa using ha);obtain⟨t17,z,rfl⟩:=adb (l:=y) (n:=23) (by simpa using ha);obtain⟨t18,A,rfl⟩:=adb (l:=z) (n:=22) (by simpa using ha);obtain⟨t19,B,rfl⟩:=adb (l:=A) (n:=21) (by simpa using ha);obtain⟨t20,C,rfl⟩:=adb (l:=B) (n:=20) (by simpa using ha);obtain⟨t21,D,rfl⟩:=adb (l:=C) (n:=19) (by simpa using ha);obtain⟨t22,E,rfl⟩:=adb (l:=D) (n:=18) (by simpa using ha);obtain⟨t23,F,rfl⟩:=adb (l:=E) (n:=17) (by simpa using ha);obtain⟨t24,G,rfl⟩:=adb (l:=F) (n:=16) (by simpa using ha);obtain⟨t25,H,rfl⟩:=adb (l:=G) (n:=15) (by simpa using ha);obtain⟨t26,I,rfl⟩:=adb (l:=H) (n:=14) (by simpa using ha);obtain⟨t27,J,rfl⟩:=adb (l:=I) (n:=13) (by simpa using ha);obtain⟨t28,M,rfl⟩:=adb (l:=J) (n:=12) (by simpa using ha);obtain⟨t29,N,rfl⟩:=adb (l:=M) (n:=11) (by simpa using ha);obtain⟨t30,O,rfl⟩:=adb (l:=N) (n:=10) (by simpa using ha);obtain⟨t31,P,rfl⟩:=adb (l:=O) (n:=9) (by simpa using ha);obtain⟨t32,Q,rfl⟩:=adb (l:=P) (n:=8) (by simpa using ha);obtain⟨t33,R,rfl⟩:=adb (l:=Q) (n:=7) (by simpa using ha);obtain⟨t34,S,rfl⟩:=adb (l:=R) (n:=6) (by simpa using ha);obtain⟨t35,T,rfl⟩:=adb (l:=S) (n:=5) (by simpa using ha);obtain⟨t36,U,rfl⟩:=adb (l:=T) (n:=4) (by simpa using ha);obtain⟨t37,W,rfl⟩:=adb (l:=U) (n:=3) (by simpa using ha);obtain⟨t38,X,rfl⟩:=adb (l:=W) (n:=2) (by simpa using ha);obtain⟨t39,Y,rfl⟩:=adb (l:=X) (n:=1) (by simpa using ha);obtain⟨t40,Z,rfl⟩:=adb (l:=Y) (n:=0) (by simpa using ha);have aa:Z=[]:=Zi.1 (by simpa using ha);subst aa;simp only[abj,abk,Yb.injEq]at a b;subst a b;refine(wpIn_wide (n:=n+1)).1 ?_
 gi_wp2
 refine⟨trivial,(callsIn_wide.2 hc).mono ?_⟩;rintro e w1 ⟨V,rfl,fn,tmps,assign,body,ad,ab⟩
 gi_wp2
 refine ab.mono ?_;rintro e w2 ⟨rfl,ac⟩
 gi_wp2
 refine⟨ac,rfl,λt ht=>?_⟩
 match t,ht with
 |0,_=>rfl
 |1,_=>rfl
 |2,_=>rfl
 |3,_=>rfl
 |4,_=>rfl
 |5,_=>rfl
 |6,_=>rfl
 |7,_=>rfl
 |8,h=>exact absurd (by decide) h
 |9,h=>exact absurd (by decide) h
 |10,h=>exact absurd (by decide) h
 |11,h=>exact absurd (by decide) h
 |12,h=>exact absurd (by decide) h
 |t+13,_=>simp only[List.getElem?_toArray,abk]
theorem UD:C.F 41=some 41:=by kernel_rfl
set_option maxRecDepth 100000 in
set_option maxHeartbeats 4000000 in
theorem UE(n:Nat){S:Nat→Prop}{w:World}{fz:Nat→Nat→Prop}(hz:∀b o,fz b o→S b∧∃V,w.cell? ⟨b,o,none⟩=some V)(hS:∀k,S k→k<w.heap.size)(hG:ct C w (aH.mt fz) Z.mt){Vc:Value}{bL:List Int}(hc:VR C.F w (aH.mt fz) (.ae [au dj bL]) Vc)
  (hl:∀n∈bL,1≤n∧n≤1000000000) (hn:bL.length≤1000000000):Kd n Tryz.prog 40 #[Vc] (oy C.F fz) S (dT bL) w:=by
 intro l J W hW oz hY d;have c:∀b o,fz b o→S b:=λb o h=>(hz b o h).1;have e:GLe w (aH.mt fz) W (aH.mt fz):=⟨sl _,λ_ _=>rfl,λ_ _=>rfl,λ_ _ h=>h,λb o V hf hc=>hW.cell (c b o hf) hc⟩
 refine callsIn_of_wp Tryz.func40 rfl trivial ?_ rfl;simp only[Tryz.ntmps40,List.size_toArray,abD,List.length_nil,Nat.reduceAdd,Nat.reduceSub,Array.replicate_succ,Array.replicate_zero,List.push_toArray,List.append_toArray,acx,ZS];refine wpIn_wide.2 ?_;refine UB (C:=C) (pq _ _) nR UD (by kernel_rfl) (by kernel_rfl) (S:=S) (W0:=W) (fz:=fz) (λb o h=>⟨c b o h,by obtain⟨V,f⟩:=(hz b o h).2;exact⟨V,hW.cell (c b o h) f⟩⟩) (λk hk=>AH (hS k hk) hW.1) (hG.left hW c) (hc.mono e) hl hn oz (l:=l) (n:=n-1) hY ?_ ?_ d rfl rfl rfl rfl
 · rintro⟨⟨L⟩,ds⟩ w1 V3 g h1 i j m;exact UC (n-1) l L ds w1 V3 g (by simpa using j) (by simpa using h1) (by simpa using i) m
 · intro a w1 b p q;exact bodyPost_ret (results_none rfl _ _ _) p ⟨⟨_,rfl⟩,b,q⟩
end Go.Proofs.YteakojhgmhmdkaaGreatDoor.rb

namespace Rb
open Go
def Kg:c6:= .region [
   ⟨some 3,.box false 2 (.t 0),none⟩,
   ⟨some 6,.mv (.k (.ak .nil 0 [])),none⟩,
   ⟨some 7,.mv (.k (.bool false)),none⟩]
def Kh:c6:= .region [
   ⟨some 20,.load 2 true (.t 3),none⟩,
   ⟨some 21,.mv (.t 1),none⟩,
   ⟨some 22,.call 14 [(.t 20),(.t 21)],none⟩,
   ⟨some 8,.mv (.t 22),none⟩]
def B9:c6:= .join [40] [23,24,25,26,27,28,29,30,31,32,33,34,35,36,37,38,39] (.gw [30] [23,24,25,26,27,28,29] [
   ⟨some 23,.mv (.t 2),none⟩,
   ⟨some 24,.bin .lss (.t 23) (.k (.int .i64 1)),none⟩,
   ⟨some 25,.mv (.t 24),none⟩,
   ⟨some 26,.mv (.t 2),some (25,false)⟩,
   ⟨some 27,.mv (.t 8),some (25,false)⟩,
   ⟨some 28,.len false (.t 27),some (25,false)⟩,
   ⟨some 29,.bin .gtr (.t 26) (.t 28),some (25,false)⟩,
   ⟨some 30,.pick (.t 25) (.k (.bool true)) (.t 29),none⟩]
 (.region [
   ⟨some 31,.mv (.t 30),none⟩,
   ⟨some 32,.mv (.t 8),some (31,false)⟩,
   ⟨some 33,.mv (.t 2),some (31,false)⟩,
   ⟨some 34,.bin .sub (.t 33) (.k (.int .i64 1)),some (31,false)⟩,
   ⟨some 35,.fV none 5 (.t 32) (.t 34),some (31,false)⟩,
   ⟨some 36,.gI 0 (.t 35),some (31,false)⟩,
   ⟨some 37,.load 1 false (.t 36),some (31,false)⟩,
   ⟨some 38,.call 16 [(.t 37)],some (31,false)⟩,
   ⟨some 39,.un .not (.t 38),some (31,false)⟩,
   ⟨some 40,.pick (.t 31) (.k (.bool true)) (.t 39),none⟩]))
 (.cond (.t 40) (.seq (.region [
     ⟨some 6,.mv (.k (.ak .nil 0 [])),none⟩,
     ⟨some 7,.mv (.k (.bool false)),none⟩])
   (.ret))
   (.skip))
def Ki:c6:= .region [
   ⟨some 41,.mv (.t 8),none⟩,
   ⟨some 42,.mv (.t 2),none⟩,
   ⟨some 43,.bin .sub (.t 42) (.k (.int .i64 1)),none⟩,
   ⟨some 44,.fV none 5 (.t 41) (.t 43),none⟩,
   ⟨some 45,.load 5 true (.t 44),none⟩,
   ⟨some 9,.alloc true [.int .i64 0,.int .i64 0,.int .i64 0,.str [],.ak .nil 0 []],none⟩,
   ⟨none,.store 5 (.t 9) (.t 45),none⟩]
def Kj:c6:= .region [
   ⟨some 10,.mv (.k (.int .i64 1)),none⟩]
def Kk:c6:= .region [
   ⟨some 46,.gI 0 (.t 3),none⟩,
   ⟨some 47,.load 1 false (.t 46),none⟩,
   ⟨some 48,.gI 3 (.t 9),none⟩,
   ⟨some 49,.load 2 true (.t 48),none⟩,
   ⟨some 50,.call 17 [(.t 47),(.t 49)],none⟩,
   ⟨some 11,.mv (.t 50),none⟩]
def B_:c6:= .seq (.region [
   ⟨some 51,.mv (.t 11),none⟩,
   ⟨some 52,.len false (.t 51),none⟩,
   ⟨some 53,.mv (.k (.int .i64 0)),none⟩])
 (.block 0 (.loop [6,7,10,53] [13,54,55,56,57,58,59,60,61,62] (.seq (.region [
   ⟨some 54,.bin .lss (.t 53) (.t 52),none⟩])
 (.seq (.cond (.t 54) (.skip)
   (.exit 0))
 (.seq (.block 1 (.seq (.region [
   ⟨some 55,.fV none 1 (.t 51) (.t 53),none⟩,
   ⟨some 56,.load 1 false (.t 55),none⟩,
   ⟨some 13,.mv (.t 56),none⟩])
 (.seq (.region [
   ⟨some 57,.mv (.t 10),none⟩,
   ⟨some 58,.mv (.t 13),none⟩,
   ⟨some 59,.bin .mul (.t 57) (.t 58),none⟩,
   ⟨some 10,.mv (.t 59),none⟩])
 (.seq (.region [
   ⟨some 60,.mv (.t 10),none⟩,
   ⟨some 61,.bin .gtr (.t 60) (.k (.int .i64 4096)),none⟩])
 (.cond (.t 61) (.seq (.region [
     ⟨some 6,.mv (.k (.ak .nil 0 [])),none⟩,
     ⟨some 7,.mv (.k (.bool false)),none⟩])
   (.ret))
   (.skip))))))
 (.region [
   ⟨some 62,.bin .add (.t 53) (.k (.int .i64 1)),none⟩,
   ⟨some 53,.mv (.t 62),none⟩]))))))
def Kl:c6:= .region [
   ⟨some 64,.gI 0 (.t 3),none⟩,
   ⟨some 65,.load 1 false (.t 64),none⟩,
   ⟨some 66,.call 11 [(.t 65)],none⟩,
   ⟨some 63,.mv (.t 66),none⟩,
   ⟨some 67,.extract 0 (.t 63),none⟩,
   ⟨some 68,.extract 1 (.t 63),none⟩,
   ⟨some 14,.alloc true [.ak .nil 0 []],none⟩,
   ⟨none,.store 1 (.t 14) (.t 67),none⟩,
   ⟨some 15,.mv (.t 68),none⟩]
def Km:c6:= .seq (.region [
   ⟨some 69,.mv (.t 15),none⟩,
   ⟨some 70,.bin .neq (.t 69) (.k (.int .i64 0)),none⟩])
 (.cond (.t 70) (.seq (.region [
     ⟨some 6,.mv (.k (.ak .nil 0 [])),none⟩,
     ⟨some 7,.mv (.k (.bool false)),none⟩])
   (.ret))
   (.skip))
def Kn:c6:= .region [
   ⟨some 16,.alloc true [.ak .nil 0 []],none⟩]
def Ko:c6:= .region [
   ⟨some 71,.mv (.t 11),none⟩,
   ⟨some 72,.call 18 [(.t 71)],none⟩]
def Kr:c6:= .region [
   ⟨some 90,.load 1 false (.t 16),none⟩,
   ⟨some 6,.mv (.t 90),none⟩,
   ⟨some 7,.mv (.k (.bool true)),none⟩]
def Ca:c6:= .region [
   ⟨some 75,.gI 0 (.t 3),none⟩,
   ⟨some 76,.load 1 false (.t 75),none⟩,
   ⟨some 77,.gI 3 (.t 9),none⟩,
   ⟨some 78,.load 2 true (.t 77),none⟩,
   ⟨some 79,.mv (.t 17),none⟩,
   ⟨some 80,.call 19 [(.t 76),(.t 78),(.t 79)],none⟩,
   ⟨some 74,.mv (.t 80),none⟩,
   ⟨some 81,.extract 0 (.t 74),none⟩,
   ⟨some 82,.extract 1 (.t 74),none⟩,
   ⟨some 18,.alloc true [.int .i64 0,.int .i64 0,.int .i64 0,.bool false,.int .i64 0,.int .i64 0],none⟩,
   ⟨none,.store 6 (.t 18) (.t 81),none⟩,
   ⟨some 19,.mv (.t 82),none⟩]
def Cb:c6:= .draw [
   ⟨some 83,.load 1 false (.t 16),none⟩,
   ⟨some 84,.load 1 false (.t 14),none⟩,
   ⟨some 85,.gI 0 (.t 18),none⟩,
   ⟨some 86,.load 2 true (.t 85),none⟩,
   ⟨some 87,.call 20 [(.t 84),(.t 86)],none⟩,
   ⟨some 88,.gJ false 2 1 [.int .i64 0,.int .i64 0] [(0,2,(.t 87))],none⟩,
   ⟨some 89,.append false 2 16 (.t 83) (.t 88),none⟩,
   ⟨none,.store 1 (.t 16) (.t 89),none⟩]
 [[],[],[],[2],[1,2,3],[1,2,3,4],[0,1,2,3,4,5],[0,1,2,3,4,5,6]] [([0,1,2,3],4,[0]),([5],6,[]),([],7,[])] []
end Rb

namespace Rb
open Go
variable{P:Program}{n l:Nat}{Q:Exit→Act→World→Prop}{w:World}{a:Act}{N N':Act→World→Prop}{ops:Array Oper}{o:Oper}
theorem UF{a:String}{args:Array Value}{R:Value→World→Prop}(h:Rows P a args w R):RowsIn (ac3.inRound l) n P a args w R:=by intro c cs _;obtain⟨v,w',b,hs⟩:=h c cs;exact⟨v,w',b,by rw[fenced_inRound];exact stepsIn_wide.2 hs⟩
theorem UG(hN:∀a w,N a w→N' a w):∀r:Result Next,ade P o a N Q r→adf (ac3.inRound l) n P o a N' Q r:=by
 intro r h;unfold ade at h;unfold adf;split at h
 ·exact hN _ _ h
 ·exact hN _ _ h
 ·exact hN _ _ h
 · refine⟨λq=>by simp[adg,ac3]at q,((callsIn_wide.2 h).inRound l).mono ?_⟩;intro e w' he;cases e with
   |returned v=>exact hN _ _ he
   |panicked b=>exact he
   |outgrown=>exact he
 ·exact⟨λq=>by simp[adg,ac3]at q,(UF h).mono λv w h=>hN _ _ h⟩
 ·exact h
 ·exact h.elim
def xN(ops:Array Oper):Prop:=∀o∈ops.toList,∀c,o.op≠adh c
theorem Kt(b:∀c,o.op≠adh c)(hN:∀a w,N a w→N' a w)(h:Z2 P o a w N Q):adi (ac3.inRound l) n P o a w N' Q:=by refine⟨λf _=>trivial,?_⟩;rw[show(ac3.inRound l).round=some l from rfl,Oper.semAt_some l _ o b];exact UG hN _ h
theorem Ku(hQ:¬LetsOut Q):∀(L:List Oper),(∀o∈L,∀c,o.op≠adh c)→∀(a:Act)(w:World),wpList P ops Q L a w→wpListIn (ac3.inRound l) n P ops Q L a w:=by
 intro L;induction L with
 |nil=>intro _ a w h;exact h
 | cons o r e=>
  intro b a w h;have d:=e λo g=>b o (aai _ g);change (if aao o (yielded ops a.tmps)=true then Z2 P o a w (wpList P ops Q r) Q∨Oper.asks P o a w∧LetsOut Q else wpList P ops Q r (a.put o.dst undef) w)at h;show(if aao o (yielded ops a.tmps)=true then adi (ac3.inRound l) n P o a w (wpListIn (ac3.inRound l) n P ops Q r) Q else(∀f,Oper.about P w a.eval o=some f→(ac3.inRound l).fn f)∧wpListIn (ac3.inRound l) n P ops Q r (a.put o.dst undef) w);split at h
  · rename_i hw;rw[aa hw];rcases h with h|h
    ·exact Kt (b o (aaj ..)) d h
    ·exact absurd h.2 hQ
  · rename_i hw;rw[ab hw];exact⟨λf _=>trivial,d _ _ h⟩
theorem UH{n l i:Nat}(hQ:¬LetsOut Q)(c:xN ops)(hN:∀a w,N a w→N' a w)(h:wpOp P ops Q i N a w):wpOpIn (ac3.inRound l) n P ops Q i N' a w:=by
 unfold wpOp at h;unfold wpOpIn;cases b:ops[i]? with
 |none=>rw[b]at h;exact hN _ _ h
 | some o=>
  rw[b]at h;dsimp only at h ⊢;have d:=c o (by rw[←Array.getElem?_toList]at b;exact aaH b);split at h
  · rename_i hw;rw[aa hw];rcases h with h|h
    ·exact Kt d hN h
    ·exact absurd h.2 hQ
  · rename_i hw;rw[ab hw];exact⟨λf _=>trivial,hN _ _ h⟩
theorem UI{c:Region.Mode}(hQ:¬LetsOut Q)(d:xN ops):∀(fuel:Nat)(b:Array Bool)(a:Act)(w:World),wpAny P c ops Q fuel b a w→wpAnyIn (ac3.inRound l) n P c ops Q fuel b a w:=by
 intro fuel;induction fuel with
 |zero=>intro b a w h;exact h
 | succ k e=>intro b a w h;change (aaz c ops b=[]→Q adj a w)∧∀i,i∈aaz c ops b→wpOp P ops Q i (wpAny P c ops Q k (b.setIfInBounds i true)) a w at h;show(aaz c ops b=[]→Q adj a w)∧∀i,i∈aaz c ops b→wpOpIn (ac3.inRound l) n P ops Q i (wpAnyIn (ac3.inRound l) n P c ops Q k (b.setIfInBounds i true)) a w;exact⟨h.1,λi hi=>UH hQ d (λa w h=>e _ a w h) (h.2 i hi)⟩
end Rb

namespace Rb
open Go
def qn:Code→Prop
 | .region _ ops _=>xN ops
 |_=>False
theorem UJ{C:Ctx}(hF:fM C){n l:Nat} :
  ∀ (ac:c6) (c:Code) (env:Env) (H:Z) (G:aH) (w:World) (a:Act) (K:fj→Env→Z→Prop) (Q:Exit→Act→World→Prop),b_ C c ac=true→cp (af C) ac env H K →
   ct C w G H→Rel C.F w G H→aK C.F w G env a.tmps→a.defers=[]→qn c→¬LetsOut Q→(∀t x,ac ≠ .freeze t x) →
   (∀s ex aA H' G' a' w',e_ s ex→K s aA H'→ct C w' G' H'→Rel C.F w' G' H'→aK C.F w' G' aA a'.tmps→a'.defers=[]→Step w G H w' G' H'→c_ (ei ac) a a'→Q ex a' w') →
   c.wpIn (ac3.inRound l) n C.P Q a w:=by
 intro ac c env H G w a K Q d h hG p he q e r v hQ;cases c with
 | region id ops draw=>
  have e:xN ops:=e;cases ac with
  | region al=>
   cases draw with
   |true=>simp[b_]at d
   | false=>
    simp only[b_]at d;refine wpIn_region_list (Ku r _ e _ _ ?_);exact tx (az:=gz al) (a0:=a) (w0:=w) (G0:=G) (H0:=H) (Q:=Q) (K:=K .normal) hF ops.toList al env H G w a d h hG p he q (Step.refl _ _ _) (c_.refl _ _) (λ_ ht=>ht)
     (λaA H' G' a' w' f g i j k m o=>hQ .normal .normal aA H' G' a' w' trivial f g i j k m o)
  | gw vs ks al b=>
   cases draw with
   |true=>simp[b_]at d
   | false=>
    simp only[b_]at d;refine wpIn_region_list (Ku r _ e _ _ ?_);exact Ds (az:=ei (.gw vs ks al b)) (a0:=a) (w0:=w) (G0:=G) (H0:=H) (Q:=Q) (K:=K) hF (.gw vs ks al b) ops.toList env H G w a d h hG p he q (Step.refl _ _ _) (c_.refl _ _) (λ_ ht=>ht)
     (λaA H' G' a' w' f g i j k m o=>hQ .normal .normal aA H' G' a' w' trivial f g i j k m o)
  | draw al pr bh last=>
   cases draw with
   |false=>simp[b_]at d
   | true=>simp only[b_,X1]at d;obtain⟨⟨⟨h1,y⟩,z⟩,u⟩:=d;refine wpIn_region_any u (UI r e _ _ _ _ ?_);exact Dq hF h1 y z u h hG p he q λaA H' G' a' w' f g i j k m o=>hQ .normal .normal aA H' G' a' w' trivial f g i j k m o
  |freeze t x=>exact absurd rfl (v t x)
  |_=>simp[b_]at d
 |_=>exact e.elim
end Rb

namespace Rb
open Go
variable{env:Env}{G G0:aH}{w w0:World}{C:Ctx}{H0 H:Z}{a:Act}{ac:c6}{c:Code}{K:fj→Env→Z→Prop}{Q:Exit→Act→World→Prop}{F:cz}{Vs:Array Value}
structure h2(C:Ctx)(w0:World)(G0:aH)(H0:Z)(env:Env)(H:Z)(G:aH)(a:Act)(w:World):Prop where
 x:ct C w G H
 r:Rel C.F w G H
 v:aK C.F w G env a.tmps
 d:a.defers=[]
 s:Step w0 G0 H0 w G H
theorem h2.run(hF:fM C)(h:h2 C w0 G0 H0 env H G a w){Q:Exit→Act→World→Prop}(hc:b_ C c ac=true)(e:cp (af C) ac env H K)
  (hQ:∀b ex aA H' G' a' w',e_ b ex→K b aA H'→h2 C w0 G0 H0 aA H' G' a' w'→a'.tmps.size=a.tmps.size→Q ex a' w'):c.wp C.P Q a w:=
 tD hF ac c env H G w a K Q hc e h.x h.r h.v h.d λb ex aA H' G' a' w' he f g i j k l m=>hQ b ex aA H' G' a' w' he f ⟨g,i,j,k,h.s.trans l⟩ m.1
theorem h2.runIn(hF:fM C){n l:Nat}(h:h2 C w0 G0 H0 env H G a w)(hc:b_ C c ac=true)(e:cp (af C) ac env H K)(f:qn c)(g:¬LetsOut Q)(i:∀t x,ac ≠ .freeze t x)
  (hQ:∀b ex aA H' G' a' w',e_ b ex→K b aA H'→h2 C w0 G0 H0 aA H' G' a' w'→a'.tmps.size=a.tmps.size→Q ex a' w'):c.wpIn (ac3.inRound l) n C.P Q a w:=
 UJ hF ac c env H G w a K Q hc e h.x h.r h.v h.d f g i λb ex aA H' G' a' w' he j k m o p q u=>hQ b ex aA H' G' a' w' he j ⟨k,m,o,p,h.s.trans q⟩ u.1
def dt(a0 a1 a b a8 c cO cx cB cA cM d cW e Kv:I):Env:=[a0,a1,a,b,.bot,.bot,.bot,.bot,a8,c,cO,cx,.bot,.bot,cB,cA,cM,d,cW]++(XS 53 .bot++([e,Kv]++XS 17 .bot))
def KA(R:I→I→I→I→I→I→I→I→I→I→I→I→I→I→Z→Prop)(Rr:Z→Prop):fj→Env→Z→Prop
 | .normal,e,H=>R (e.getD 0 .bot) (e.getD 1 .bot) (e.getD 2 .bot) (e.getD 3 .bot) (e.getD 8 .bot) (e.getD 9 .bot) (e.getD 10 .bot) (e.getD 11 .bot) (e.getD 14 .bot) (e.getD 15 .bot) (e.getD 16 .bot) (e.getD 17 .bot) (e.getD 18 .bot) (e.getD 72 .bot) H
 | .ret,e,H=>e.getD 6 .bot = .ak .nil 0 []∧e.getD 7 .bot = .bool false∧Rr H
 | .exit _,_,_=>False
theorem aK.getD(h:aK F w G env Vs){j:Nat}{V:Value}(b:Vs[j]?=some V):VR F w G (env.getD j .bot) V:=by
 cases a:env[j]? with
 |none=>rw[Zg,a];exact .bot _
 |some c=>rw[Zg,a];exact h.2 j c V a b
theorem Kw(h:aK F w G env Vs)(hl:Vs.size=91) :
  aK F w G (dt (env.getD 0 .bot) (env.getD 1 .bot) (env.getD 2 .bot) (env.getD 3 .bot) (env.getD 8 .bot) (env.getD 9 .bot) (env.getD 10 .bot) (env.getD 11 .bot) (env.getD 14 .bot) (env.getD 15 .bot) (env.getD 16 .bot) (env.getD 17 .bot) (env.getD 18 .bot) (env.getD 72 .bot) .bot) Vs:=by
 refine⟨by rw[hl];rfl,λj c V a e=>?_⟩;have key:c = .bot∨c=env.getD j .bot:=by
  unfold dt at a;rw[Yk]at a;split at a
  · rename_i b;have b:j<19:=b
    match j,b,a with
    |0,_,a|1,_,a|2,_,a|3,_,a|8,_,a|9,_,a|10,_,a|11,_,a|14,_,a|15,_,a|16,_,a|17,_,a|18,_,a=>exact .inr (Yb.inj a).symm
    |4,_,a|5,_,a|6,_,a|7,_,a|12,_,a|13,_,a=>exact .inl (Yb.inj a).symm
    |j+19,h,_=>omega
  · rename_i b;have b:¬j<19:=b;rw[Yk,List.length_replicate]at a;split at a
    · rw[aaD]at a;split at a<;>cases a<;>exact .inl rfl
    · rename_i d;have d:¬j-19<53:=d;obtain⟨i,rfl⟩:∃i,j=72+i:=⟨j-72,by omega⟩
      have:72+i-[env.getD 0 .bot,env.getD 1 .bot,env.getD 2 .bot,env.getD 3 .bot,.bot,.bot,.bot,.bot,env.getD 8 .bot,env.getD 9 .bot,env.getD 10 .bot,env.getD 11 .bot,.bot,.bot,env.getD 14 .bot,env.getD 15 .bot,env.getD 16 .bot,env.getD 17 .bot,env.getD 18 .bot].length-53=i:=by show 72+i-19-53=i;omega
      rw[this]at a
      match i,a with
      |0,a=>exact .inr (Yb.inj a).symm
      |1,a=>exact .inl (Yb.inj a).symm
      | i+2,a=>simp only[ZS,acx,abk,aaD]at a;split at a<;>cases a<;>exact .inl rfl
 rcases key with rfl|rfl
 ·exact .bot _
 ·exact aK.getD h e
end Rb

namespace Rb
open Go
variable{e:ax}{l:Int}{x:I}
theorem cK.row{H:Z}{sz n j:Nat}{cells:List I}(h:cK H sz x n cells)(a:bS x=some j):∃cs,At H j (.row cs):=by
 rcases h.2 with⟨tk,_,_,rfl⟩|⟨i,cs,m,rfl,b,_⟩
 ·cases a
 ·cases a;exact⟨cs,b⟩
theorem bC.UK{H H':Z}{id:Nat}{vars:List B}{wh F x:I}{c:LD}(h:bC H id vars wh F c)(k:∀i o,bS x≠some i→At H i o→At H' i o)(g:∀j,bS x=some j→∃cs,At H j (.row cs))(m:bS x≠some id)(n:∀j,bS x=some j→bS F≠some j):bC H' id vars wh F c:=by obtain⟨xo,xs,a,b,d,e⟩:=h.x;have f:∀t p q,At H t (.tok p q)→At H' t (.tok p q):=λt p q ht=>k t _ (λe=>by obtain⟨cs,hc⟩:=g t e;exact absurd (hc.2.symm.trans ht.2) (by intro e;cases e)) ht;exact⟨⟨xo,xs,k _ _ m a,b.frame f,d.frame f,e⟩,h.l.aJ λj cs r s=>k _ _ (λe=>n j e r) s,h.ld,h.lo⟩
theorem UL(h:hU e=true)(a:e.kind=3):e.bq.length=2:=by have:=(oj h).2.2.2.1;unfold iu at this;rw[aa a]at this;have b:(e.bq.length:Int)=2:=this;omega
theorem UM(h:hU e=true)(f:5≤e.kind):(e.kind≠5→1≤e.bq.length)∧(e.kind=8→2≤e.bq.length)∧e.kind≤8∧e.bq.length≤2:=by
 obtain⟨_,a,_,hl,_⟩:=oj h;unfold iu at hl;rw[bw]at hl;by_cases b:e.kind=5
 · rw[aa (.inr b)]at hl;have c:(e.bq.length:Int)=0:=hl;exact⟨λe=>absurd b e,λe=>by omega,a,by omega⟩
 · rw [bw]at hl;by_cases d:e.kind=6∨e.kind=7
   · rw[aa d]at hl;have c:(e.bq.length:Int)=1:=hl;exact⟨λ_=>by omega,λe=>by omega,a,by omega⟩
   · rw[ab d,cG]at hl;have c:(e.bq.length:Int)=2:=hl;exact⟨λ_=>by omega,λe=>by omega,a,by omega⟩
theorem Kx(vars:List B){L:List (List UInt8)}{k:Int}{x:aN}(h:vP vars L k x):∀p∈x.aB,∀e∈p.bc,vE vars L e:=(Jg vars L).1 ((m_ vars L k x).1 h).2.2
theorem GE.fr(c:LD):GE c {c with bn:=c.bn+1} 1 []:=⟨⟨[],(abK _).symm,Yt _,λ_ a=>by cases a⟩,YB _,sl _,rfl,(abK _).symm,Yt _,rfl,rfl,rfl⟩
theorem Ky(h:hU e=true)(d:e.kind≤2):gm l e=[]:=by
 obtain⟨h1,_,b,a,_⟩:=oj h;have c:e.bq=[]:=by unfold iu at a;rw[bw,bw,bw,bw]at a;exact acH (Int.ofNat.inj a)
 rw[xk,oq,b (by omega),c,jr,dP,bw];rfl
theorem UN{e x y:ax}(h:hU e=true)(c:e.kind=3)(a:e.bq=[x,y]):gm l e=gm l x++gm l y:=by obtain⟨h1,_,b,d,_⟩:=oj h;rw[xk,oq,b (by omega),a,jr,dP,dP,dP,bw];simp
theorem UO(h:hU e=true)(b:e.kind=4)(c:ir (V (10+e.kind)) e.aV=true):gm l e=gH l e.place++[⟨14,0,l,e.place⟩]:=by
 obtain⟨h1,_,f,a,_⟩:=oj h;have d:e.bq=[]:=by unfold iu at a;rw[bw,cG]at a;exact acH (Int.ofNat.inj a)
 have:e.aV=0:=by rw[b]at c;exact eq_of_beq c
 rw[xk,d,dP,cG,b,this];simp
theorem UP(a:5≤e.kind):gm l e=gH l e.place++dP l e.bq++[⟨10+e.kind,e.aV,l,e.place⟩]:=by rw[xk,cG]
theorem UQ{a b:Int}(hb:0≤b){P:I→Prop}(h:∀v,P (.int .u64 v)):Do (M .shl (.int .u64 a) (.int .i64 b)) P:=by rw[Hx _ _ _ _ hb,T];exact h _
section
variable{C:Ctx}(aj:bN C)(hT:Cl (af C) S.bu){id:Nat}{vars:List B}{F:I}{c:LD}{H:Z}{Q:ad}{w:Nat}
include aj hT
theorem UR(E:fh vars){L:List (List UInt8)}{x:aN}(G:x.ok)(hp:vP vars L 14 x)(I:∀p∈x.aB,∀e∈p.bc,iC C id vars L e)(h:bC H id vars (dy vars) F c)(J:c.L.map abg=L)(hl:c.X=l)(hb:BD c (w+(fI x+256)))
  (hQ:EX id vars (dy vars) F H c (fI x+100) (gH l x++[⟨14,0,l,x⟩]) Q):af C 148 [.ptr id 0,.agg x.cells] H Q:=by
 obtain⟨K,M,_⟩:=(m_ vars L 14 x).1 hp;refine S.Qc hT ?_;unfold S.f148;simp only[qb,aR,w9,T];refine sB aj hT E G K I h J hl (w:=w+256) (hb.mono (by omega)) λs b al c1 H1 k1 h1 g1 O P hs R=>?_;obtain⟨U,am,_,_⟩:=xm M;obtain⟨z0,V,_,_⟩:=sr R hs U;have i:BD c1 (w+256):=g1.bd (m:=w+256) (hb.mono (by omega));refine h1.jM k1 (cs:=dc s b al) (N:=8) rfl rfl rfl λj H2 k2 W f l2=>?_;have Y:=k1.trans k2;rw[f.all];simp only[T];refine sx aj hT W (w:=w+200) (i.mono (by omega)) O λa c3 an g Z g3 ha=>?_;have o:BD c3 (w+200):=g3.bd (m:=w+200) (i.mono (by omega));rw[(f.aJ g).all];simp only[T];refine sy aj hT Z (l:=l) (by rw[g3.X,g1.X];exact hl) (w:=w+199) (o.mono (by omega)) _ _ (by decide) x λao aa q ab g4 e1 ap=>?_;have r:BD aa (w+199):=g4.bd (m:=w+199) (o.mono (by omega));have t:=(f.aJ g).aJ q;refine⟨t.all,?_⟩;refine JJ aj hT ab (w:=w+100) (r.mono (by omega)) P V (ha.mono g4.r0) ⟨by omega,by omega⟩ λv c5 aq u y g5 hv=>?_;have z:BD c5 (w+100):=g5.bd (m:=w+100) (r.mono (by omega));have d:=t.aJ u;have A:=((Y.trans g).trans q).trans u;have B:=((g1.trans g3).trans g4).trans g5;simp only[ey,T,d.ld (k:=3) rfl,d.ld (k:=4) rfl,d.ld (k:=5) rfl,j8,aD];refine aI (λ_=>?_) (λ_=>hQ _ _ _ A y (B.mono (by omega) (by simp only[abK])) hv);refine mq aj hT y (w:=w+98) z _ _ hv λv6 ac ar D ad g6 ae=>?_;have ag:BD ac (w+98):=g6.bd (m:=w+98) (z.mono (by omega));refine⟨(d.aJ D).ld rfl,?_⟩;refine BP aj hT hs.wid λn=>?_;refine mq aj hT ad (w:=w+96) ag _ _ ae λau av aw ah ai g7 ak=>?_;exact hQ _ _ _ ((A.trans D).trans ah) ai (((B.trans g6).trans g7).mono (by omega) (by simp only[abK])) ak
theorem US(bi:fh vars){L:List (List UInt8)}(bj:e.ok)(hf:hU e=true)(O:5≤e.kind)(hp:vP vars L (V (10+e.kind)) e.place)(bk:∀p∈e.place.aB,∀e∈p.bc,iC C id vars L e)(bl:∀k∈e.bq,iC C id vars L k)(h:bC H id vars (dy vars) F c)(aS:c.L.map abg=L)(hl:c.X=l)(hb:BD c (w+(fI e.place+dK e.bq+256)))
  (hQ:EX id vars (dy vars) F H c (fI e.place+dK e.bq+100) (gH l e.place++dP l e.bq++[⟨10+e.kind,e.aV,l,e.place⟩]) Q):af C 149 [.ptr id 0,.agg e.cells] H Q:=by
 obtain⟨bo,aU,_⟩:=(m_ vars L _ e.place).1 hp;obtain⟨bp,br,cl,cm⟩:=UM hf O;obtain⟨⟨cn,aq⟩,bt⟩:=ax.fP bj;have bu:V (10+e.kind)=10+e.kind:=bH;rw[bu]at aU;refine S.Qd hT ?_;unfold S.f149;have ai:∀p:Nat,W p (.ae e.cells)=some (.ae (e.cells.drop p)):=λ_=>rfl;simp only[r2,aR,ai,r3,T];refine sB aj hT bi bt bo bk h aS hl (w:=w+(dK e.bq+256)) (hb.mono (by omega)) λs b al c1 H1 k1 h1 g1 bv co hs bw=>?_;obtain⟨_,_,bx,bz⟩:=xm aU;have aW:=bx (by omega);have cp:=bz (by omega) (by omega);obtain⟨z0,cq,z2,z3⟩:=sr bw hs (.inr aW);have bA:P8 s.len:=by have:=z2 aW;unfold P8;omega
 refine h1.jM k1 (cs:=dc s b al) (N:=8) rfl rfl rfl λjs H2 k2 bB bs l2=>?_;have bE:=k1.trans k2;simp only[wY,T,cU];have tail:∀(t:LD)(u:Z)(x:I)(rs:List Int),rs.length=e.bq.length→KR id H u→bC u id vars (dy vars) F t→Bx H id F u js 8 (dc s b al)→cK u 1 x rs.length (rs.map (I.int .i64))→(∀j,bS x=some j→H.n≤j∧j≠id∧bS F≠some j∧j≠js)→(∀r∈rs,di t.bn r)→di t.bn b→GE c t (fI e.place+dK e.bq) (gH l e.place++dP l e.bq)→S.zT (af C) (.ptr id 0) (.ae e.cells) (.ptr js 0) Q [x] u:=by
  intro t u x rs cr P am ac M z ad an g4;have ar:BD t (w+256):=g4.bd (m:=w+256) (hb.mono (by omega));unfold S.zT;simp only[ai,lM,T,fO,b4,aF];rw[wrap_i64 (n:=e.kind-5) (by omega) (by omega),wrap_i64 (n:=e.kind-5+6) (by omega) (by omega)];refine jL aj hT am P λag av R aw aA bF=>?_;have aX:=P.trans R;have aY:=ac.aJ R;have ao:js≠ag:=by have:=ac.a.1;omega
  have ct:∀(g:Z),(∀j cs,bS x=some j→At u j (.row cs)→At g j (.row cs))→cK g 1 x rs.length (rs.map (I.int .i64)):=λg k=>M.aJ k;have aZ:∀j cs,bS x=some j→At u j (.row cs)→At av j (.row cs):=λj cs o E=>R.2 _ _ (z j o).2.1 E;have a0:∀j,bS x=some j→j≠ag:=λj o=>by have:=M.lt o;omega
  have fin:∀(kk b2 c2:Int)(g:Z),(kk=6∨(8≤kk∧kk≤10))→di t.bn b2→di t.bn c2→KR id H g→bC g id vars (dy vars) F t→Bx H id F g js 8 (dc s b al)→Bx H id F g ag 13 (⟨kk,-1,-1,-1,b2,c2,0,0,0,0,0,0,0⟩:dx).cells→S.vw (af C) (.ptr id 0) (.ae e.cells) (.ptr js 0) (.ptr ag 0) Q [] g:=by
   intro kk b2 c2 g aq ay bG G J B ah;unfold S.vw;rw[B.all];simp only[T];refine sx aj hT J (w:=w+254) ar an λa D K aE U g7 ha=>?_;have a1:BD D (w+254):=g7.bd (m:=w+254) (ar.mono (by omega));have aG:=B.aJ aE;simp only[ey,T];refine(ah.aJ aE).st U (G.trans aE) (by decide) One.int λcu bI aH bJ bK=>?_;have a2:=bK _ _ _ ao aG;simp only[a2.ld (k:=1) rfl,ai,lM,Ir,r3,T,b4];rw[wrap_i64 (n:=10+e.kind) (by omega) (by omega)];refine ou aj hT aH (w:=w+253) a1 λcv aK h9=>?_;have a3:=a2.aJ aK;have a4:=GE.fr D;have a5:=a4.bd (m:=w+252) (a1.mono (by omega));refine⟨a3.ld rfl,trivial,trivial,trivial,trivial,?_⟩;refine sy aj hT h9 (l:=l) (by show D.X=l;rw[g7.X,g4.X];exact hl) (w:=w+251) a5 _ _ (by omega) e.place λcw Y aL bL a6 bM es=>?_;have a7:=a3.aJ aL;have bN:BD Y (w+251):=a6.bd (m:=w+251) (a5.mono (by omega));refine⟨a7.ld rfl,trivial,?_⟩;refine((bJ.aJ aK).aJ aL).st bL ((bI.trans aK).trans aL) (by decide) One.int λcx bO bP bQ bR=>?_;have bT:=bR _ _ _ ao a7;refine⟨bT.ld rfl,trivial,?_⟩;refine bQ.st bP bO (by decide) One.int λcy bU bV bW cz=>?_;refine⟨trivial,?_⟩;refine bW.st bV bU (by decide) One.int λcA bX bY bZ cB=>?_;refine bZ.st bY bX (by decide) One.int λcC b0 b1 a8 cD=>?_;rw[a8.all];simp only[T];have cE:Y.bn=D.bn+1:=bM;have b3:Y.sn=D.sn+1:=es;have cF:=g7.r0;have cG:=g7.s0;have cH:=bN.A;have cJ:((D.sn+1:Nat):Int)=((Y.sn:Nat):Int):=by rw[b3]
   refine jt aj hT b1 (by omega) ⟨kk,D.bn,-1,a,b2,c2,0,0,s.len,e.aV,0,((D.sn+1:Nat):Int),0⟩ λb5 a9 b6=>?_;rw[(a8.aJ a9).ld (k:=1) rfl];simp only[T];have gf:GE Y (Y.add ⟨kk,D.bn,-1,a,b2,c2,0,0,s.len,e.aV,0,((D.sn+1:Nat):Int),0⟩) 1 []:=GE.add (iZ (by omega) (by omega) (ju (by omega)) ch (ha.mono (by omega)) (ay.mono (by omega)) (bG.mono (by omega)) (.inr (.inr ⟨by omega,by omega⟩)) (aq.elim (λ_=> .inr (.inr bA)) (λe=> .inr (.inl (by omega))))) (kM (.inl (by omega)));exact hQ _ _ b5 (b0.trans a9) b6 (((((g4.trans g7).trans a4).trans a6).trans gf).mono (by omega) (by simp only[abK])) (ju (show D.bn<Y.bn by omega))
  have k2:∀(kk b2:Int)(g:Z),(e.kind=5∧kk=6∨(5<e.kind∧8≤kk∧kk≤10))→di t.bn b2→KR id H g→bC g id vars (dy vars) F t→Bx H id F g js 8 (dc s b al)→cK g 1 x rs.length (rs.map (I.int .i64))→Bx H id F g ag 13 (⟨kk,-1,-1,-1,b2,-1,0,0,0,0,0,0,0⟩:dx).cells→S.vx (af C) (.ptr id 0) (.ae e.cells) (.ptr js 0) (.ptr ag 0) [x] Q [] g:=by
   intro kk b2 g aq ay G J B aa ah;have a_:kk=6∨(8≤kk∧kk≤10):=by rcases aq with h|h<;>omega
   unfold S.vx;simp only[ai,lM,T,cI,aD,aF,aT];refine aI (λaH=>?_) (λ_=>fin kk b2 (-1) g a_ ay ch G J B ah);have b7:e.kind=8:=by simpa using aH
   have:=br b7;obtain⟨r1,dC⟩:∃r1,rs[1]?=some r1:=⟨_,YO (show 1<rs.length by omega)⟩
   obtain⟨p,e1,aM⟩:=aa.get (k:=1) (v:= .int .i64 r1) (by rw[YN,dC];rfl);change aP none _ _ (.int .i64 1)=some _ at e1;simp only[e1,aM g (Z.Ext.refl _),T,ey];refine ah.st J G (by decide) One.int λK ap U aN az=>?_;exact fin kk b2 r1 K a_ ay (ad r1 (aaH dC)) ap U (az _ _ _ ao B) aN
  simp only[ai,lM,T,d_,aD,aT];apply aI<;>intro ba
  · have b8:e.kind≠5:=by simpa using ba
    have:=bp b8;simp only[ey,T];rw[wrap_i64 (n:=e.kind-6) (by omega) (by omega),wrap_i64 (n:=e.kind-6+8) (by omega) (by omega)];refine aA.st aw aX (by decide) One.int λg G J ah bb=>?_;have b9:∀j cs,bS x=some j→At av j (.row cs)→At g j (.row cs):=λj cs o E=>by obtain⟨a,b,d,f⟩:=z j o;exact(bb j cs.length cs (a0 j o) ⟨E,b,d,a,rfl⟩).a
    have aa:=(M.aJ aZ).aJ b9;obtain⟨r0,be⟩:∃r0,rs[0]?=some r0:=⟨_,YO (show 0<rs.length by omega)⟩
    obtain⟨p,e1,aM⟩:=aa.get (k:=0) (v:= .int .i64 r0) (by rw[YN,be];rfl);change aP none _ _ (.int .i64 0)=some _ at e1;simp only[e1,aM g (Z.Ext.refl _),T,ey];refine ah.st J G (by decide) One.int λK ap U aN az=>?_;have b_:∀j cs,bS x=some j→At g j (.row cs)→At K j (.row cs):=λj cs o E=>by obtain⟨a,b,d,f⟩:=z j o;exact(az j cs.length cs (a0 j o) ⟨E,b,d,a,rfl⟩).a
    exact k2 (e.kind-6+8) r0 K (.inr ⟨by omega,by omega,by omega⟩) (ad r0 (aaH be)) ap U (az _ _ _ ao (bb _ _ _ ao aY)) (aa.aJ b_) aN
  · have bf:e.kind=5:=by simpa using ba
    refine k2 6 (-1) av (.inl ⟨bf,rfl⟩) ch aX aw aY (M.aJ aZ) ?_;rw[bf]at aA;exact aA
 have main:∀(r:List ax)(i:Nat)(t:LD)(u:Z)(x:I)(rs:List Int)(w1:Nat)(k1:List bm),e.bq.drop i=r→rs.length=i→i≤e.bq.length→KR id H u→bC u id vars (dy vars) F t→Bx H id F u js 8 (dc s b al)→cK u 1 x rs.length (rs.map (I.int .i64))→(∀j,bS x=some j→H.n≤j∧j≠id∧bS F≠some j∧j≠js)→(∀r∈rs,di t.bn r)→di t.bn b→GE c t w1 k1→w1+dK r=fI e.place+dK e.bq→k1++dP l r=gH l e.place++dP l e.bq →
   aC (S.vy (af C) (.ptr id 0) (.ae e.cells) (.ptr js 0) (au ax.cells e.bq) (.int .i64 e.bq.length) Q) ([x,.int .i64 i],u):=by
  intro r;induction r with
  | nil=>intro i t u x rs w1 k1 aO bg ca P am ac M z ad an g4 hw O;have hle:=er aO;refine aC.step ?_;simp only[S.vy,aF,c4,bD,T,aD,aT];rw[ee];rw[dK]at hw;rw[dP]at O;exact tail t u x rs (by omega) P am ac M z ad an (g4.mono (by omega) (by rw[←O,abK]))
  | cons y r cb=>
   intro i t u x rs w1 k1 aO bg ca P am ac M z ad an g4 hw O;obtain⟨cc,bh,cd⟩:=ed aO;have ce:=aaH bh;rw[dK]at hw;rw[dP]at O;have ar:BD t (w+dO y):=g4.bd (m:=w+dO y) (hb.mono (by omega));have iX:=kl y;refine aC.step ?_;simp only[S.vy,aF,c4,bD,T,aD];rw[dW,cQ cc];simp only[T];rw[dD ax.len (by decide) _ bh];simp only[T];refine am.jM P (cs:=y.cells) (N:=8) rfl y.len (ax.scalar y) λcL av R aw cf bF=>?_;rw[cf.all];simp only[T];refine bl y ce aw (by rw[g4.L];exact aS) (l:=l) (by rw[g4.X];exact hl) ar λr1 cg g aQ J g6 dC=>?_;have G:=(P.trans R).trans aQ;have B:=(ac.aJ R).aJ aQ;have aa:cK g 1 x rs.length (rs.map (I.int .i64)):=M.aJ λj cs o E=>aQ.2 _ _ (z j o).2.1 (R.2 _ _ (z j o).2.1 E);rw[show dk g false 1 1 [.int .i64 0] [(0,1,.int .i64 r1)]=some (.ak .full 1 [.int .i64 r1],g)from rfl];simp only[aR];refine aa.app (by decide) rfl rfl (by omega) (by omega) λci K cj hn kp ab=>?_;have U:=J.UK kp (λj o=>aa.row o) (λe=>(z id e).2.1 rfl) (λj o=>(z j o).2.2.1);have ap:KR id H K:=⟨xl G.1 hn,λi cs hi E=>kp _ _ (λe=>by have:=(z i e).1;have:=E.1;omega) (G.2 i cs hi E)⟩
   have aG:Bx H id F K js 8 (dc s b al):=⟨kp _ _ (λe=>(z js e).2.2.2 rfl) B.a,B.ne,B.nx,B.lo,B.len⟩
   simp only[b4,T];rw[bH,cN];refine cb (i+1) cg K ci (rs++[r1]) (w1+dO y) (k1++gm l y) cd (by simp[bg]) (by omega) ap U aG ?_ (λj o=>?_) (λq ck=>?_) (an.mono g6.r0) ((g4.trans g6).mono (by omega) rfl) (by omega) (by rw[←O,acC])
   ·rw[abC,acs];exact cj
   · rcases ab with ab|ab
     ·exact z j (by rw[←ab];exact o)
     · rw[ab]at o;cases o;obtain⟨xo,xs,a,_⟩:=J.x;exact⟨G.1,by have:=a.1;omega,λe=>by have:=J.l.lt e;omega,by have:=B.a.1;omega⟩
   · rcases aaa.1 ck with h|h
     ·exact(ad q h).mono g6.r0
     ·rw[acL.1 h];exact dC
 exact main e.bq 0 c1 H2 _ [] (fI e.place) (gH l e.place) rfl rfl (Yt _) bE bB bs (cK.nil _ _) (λj o=>by cases o) (λr ab=>by cases ab) bv g1 rfl rfl
theorem Kz(n:fh vars)(L:List (List UInt8)):∀e:ax,e.ok→vE vars L e→iC C id vars L e:=by
 refine ax.ind λe u v he z=>?_;obtain⟨⟨V,A⟩,o⟩:=ax.fP he;have B:=aN.fP o;obtain⟨w1,w2,w3,D,E⟩:=(I6 vars L e).1 z;have b:∀k∈e.bq,iC C id vars L k:=λk hk=>u k hk (A k hk) ((xj vars L).1 E k hk);intro F c H Q w l h a hl hb hQ;have f:=Ju e;refine S.PF hT ?_;unfold S.f100;simp only[r2,aR,lK,lM,Ip,A8,T,cI,aD];have Y:∀p:Nat,W p (.ae e.cells)=some (.ae (e.cells.drop p)):=λ_=>rfl;apply aI<;>intro hc
 · refine BO aj hT h (w:=w+15) (hb.mono (by omega)) _ λr c1 H1 k1 h1 g1 r1=>?_;exact hQ _ _ _ k1 h1 (g1.mono (by omega) (Ky w1 (by simp at hc;omega)).symm) r1
 have c1:¬e.kind=1:=by simpa using hc
 apply aI<;>intro hc
 · have c2:e.kind=2:=by simpa using hc
   refine xv aj hT h (hb.mono (Nat.le_add_right _ _)) (by rw[a];exact w3 c2) λr G=>?_;exact hQ _ _ _ KR.refl h ((GE.refl c).mono (by omega) (Ky w1 (by omega)).symm) G
 have c2:¬e.kind=2:=by simpa using hc
 apply aI<;>intro hc
 · have c3:e.kind=3:=by simpa using hc
   match g:e.bq,UL w1 c3 with
   | [x,y],_=>
    rw[g]at b f;have I:aP none 8 (au ax.cells [x,y]) (.int .i64 0)=_:=cQ (i:=0) (by simp);have J:aP none 8 (au ax.cells [x,y]) (.int .i64 1)=_:=cQ (i:=1) (by simp);have mZ:∀H,O H 8 true (dN ax.cells 8 [x,y] 0)=_:=λH=>dD ax.len (by decide) H (show [x,y][0]?=some x from rfl);have ld1:∀H,O H 8 true (dN ax.cells 8 [x,y] 1)=_:=λH=>dD ax.len (by decide) H (show [x,y][1]?=some y from rfl);have q:∀H,O H 1 false (.ae (e.cells.drop 7))=some (au ax.cells [x,y]):=λH=>by rw[wY,g]
    rw[dK,dK,dK]at f;have Z:=kl x;have aa:=kl y;simp only[q,T,I,mZ];refine b x (by simp) h a hl (w:=w+(dO y+16)) (hb.mono (by omega)) λr1 d1 H1 k1 h1 g1 dC=>?_;have s:BD d1 (w+(dO y+16)):=g1.bd (m:=w+(dO y+16)) (hb.mono (by omega));simp only[Iq,q,T,J,ld1];refine b y (by simp) h1 (by rw[g1.L];exact a) (l:=l) (by rw[g1.X];exact hl) (w:=w+16) (s.mono (by omega)) λab d2 H2 k2 K g2 M=>?_;have N:BD d2 (w+16):=g2.bd (m:=w+16) (s.mono (by omega));refine⟨trivial,?_⟩;refine sv aj hT K (w:=w+15) N _ (dC.mono g2.r0) M λac d3 ad P R g3 U=>?_;exact hQ _ _ _ ((k1.trans k2).trans P) R (((g1.trans g2).trans g3).mono (by omega) (by rw[UN w1 c3 g,abK])) U
 have c3:¬e.kind=3:=by simpa using hc
 have af:=(oj w1).1;have d:=D (by omega);rw[cG]at f;have t:∀p∈e.place.aB,∀k∈p.bc,iC C id vars L k:=λp hp k hk=>v p hp k hk ((B.2 p hp).2 k hk) (Kx vars d p hp k hk);apply aI<;>intro hc
 · have j:e.kind=4:=by simpa using hc
   rw[j]at d;rw[show O H 2 true (.ae (e.cells.drop 5))=some (.agg e.place.cells)from r3 e H];simp only[T];refine UR aj hT n o d t h a hl (w:=w) (hb.mono (by omega)) λr d1 H1 k1 h1 g1 dC=>?_;exact hQ _ _ _ k1 h1 (g1.mono (by omega) (UO w1 j w2).symm) dC
 · have j:¬e.kind=4:=by simpa using hc
   simp only[A9,T];refine US aj hT n he w1 (by omega) d t b h a hl (w:=w) (hb.mono (by omega)) λr d1 H1 k1 h1 g1 dC=>?_;exact hQ _ _ _ k1 h1 (g1.mono (by omega) (UP (by omega)).symm) dC
end
end Rb

namespace Rb
open Go
variable{l:Int}{e:ax}{x:ay}
theorem UT(v:Int):∃u,cY .xor (.int .u64 v)=some (.int .u64 u):=⟨_,rfl⟩
theorem sJ{l:List ax}{i:Nat}(h:l[i]?=some e):aP none 8 (au ax.cells l) (.int .i64 i)=some (dN ax.cells 8 l i)∧∀H,O H 8 true (dN ax.cells 8 l i)=some (.agg e.cells):=⟨cQ (XV.1 h).1,λH=>dD ax.len (by decide) H h⟩
section
variable{C:Ctx}(aj:bN C)(hT:Cl (af C) S.bu){id:Nat}{vars:List B}{F:I}{c:LD}{H:Z}{Q:ad}{w:Nat}
include aj hT
theorem UU(ae:fh vars){L:List (List UInt8)}{x:aN}(ag:x.ok)(hp:vP vars L 3 x)(ah:∀p∈x.aB,∀e∈p.bc,iC C id vars L e)(ai:iC C id vars L e)(h:bC H id vars (dy vars) F c)(D:c.L.map abg=L)(hl:c.X=l)(hb:BD c (w+(fI x+dO e+256)))
  (hQ:EU id vars (dy vars) F H c (fI x+dO e+200) (gH l x++gm l e++[⟨3,0,l,x⟩]) Q):af C 104 [.ptr id 0,.agg x.cells,.agg e.cells] H Q:=by
 obtain⟨ak,am,_⟩:=(m_ vars L 3 x).1 hp;have iX:=kl e;refine S.PJ hT ?_;unfold S.f104;simp only[qb,r2,aR,w9,T];refine sB aj hT ae ag ak ah h D hl (w:=w+(dO e+256)) (hb.mono (by omega)) λs b al c1 H1 k1 h1 g1 an E hs ao=>?_;obtain⟨ap,_,_,_⟩:=xm am;obtain⟨z0,G,_,_⟩:=sr ao hs ap;have I:BD c1 (w+(dO e+256)):=g1.bd (m:=w+(dO e+256)) (hb.mono (by omega));refine h1.jM k1 (cs:=dc s b al) (N:=8) rfl rfl rfl λj H2 k2 aq ar l2=>?_;have au:=k1.trans k2;simp only[A9,T];refine ai aq (by rw[g1.L];exact D) (l:=l) (by rw[g1.X];exact hl) (w:=w+256) (I.mono (by omega)) λv c3 aX J av g3 hv=>?_;have K:BD c3 (w+256):=g3.bd (m:=w+256) (I.mono (by omega));have b3:=ar.aJ J;rw[b3.all];simp only[T];refine sx aj hT av (w:=w+254) K (an.mono g3.r0) λa i aY M aw g4 ha=>?_;have O:BD i (w+254):=g4.bd (m:=w+254) (K.mono (by omega));refine sy aj hT aw (l:=l) (by rw[g4.X,g3.X,g1.X];exact hl) (w:=w+253) O _ _ (by decide) x λP c5 R U g5 e1 aZ=>?_;have z:BD c5 (w+253):=g5.bd (m:=w+253) (O.mono (by omega));have q:=(b3.aJ M).aJ R;have ax:=((au.trans J).trans M).trans R;have ay:=((g1.trans g3).trans g4).trans g5;have V:=(hv.mono g4.r0).mono g5.r0;have W:=ha.mono g5.r0;have rq:1≤((i.sn+1:Nat):Int)∧((i.sn+1:Nat):Int)≤(c5.sn:Nat):=⟨by omega,by omega⟩
 simp only[ey,T,q.ld (k:=3) rfl,aD];have fin:∀(u:Int)(d:LD)(f:Z)(m:Nat),m≤80→KR id P f→bC f id vars (dy vars) F d→GE c5 d m []→di d.bn u→S.vg (af C) (.ptr id 0) (.ptr j 0) (.int .i64 a) (.int .i64 ((i.sn+1:Nat):Int)) Q [.int .i64 u] f:=by intro u d f m hm g A g6 hu;have a0:=g6.s0;unfold S.vg;rw[(q.aJ g).all];simp only[T,aF];refine TV aj hT A (w:=w+50) (g6.bd (m:=w+98) (z.mono (by omega))) E G (W.mono g6.r0) hu ⟨rq.1,by omega⟩ λY az r B g7=>?_;exact hQ _ _ ((ax.trans g).trans r) B (((ay.trans g6).trans g7).mono (by omega) (by simp only[abK]))
 apply aI<;>intro _
 · rw[q.all];simp only[T];refine JJ aj hT U (w:=w+100) (z.mono (by omega)) E G W rq λo d f g A g6 aA=>?_;have aa:BD d (w+100):=g6.bd (m:=w+100) (z.mono (by omega));have t:=q.aJ g;simp only[t.ld (k:=5) rfl,t.ld (k:=4) rfl,T];refine BP aj hT hs.wid λn=>?_;refine⟨t.ld rfl,?_⟩;refine UQ hs.bit.1 λn2=>?_;obtain⟨n3,aC⟩:=UT n2;simp only[aC,T];refine mq aj hT A (w:=w+98) aa _ _ aA λa1 Y az r B g7 aE=>?_;have ab:BD Y (w+98):=g7.bd (m:=w+98) (aa.mono (by omega));have y:=t.aJ r;simp only[y.ld (k:=5) rfl,y.ld (k:=4) rfl,T,j8];refine BP aj hT hs.wid λn4=>?_;refine⟨y.ld rfl,?_⟩;refine mq aj hT B (w:=w+96) ab _ _ ((V.mono g6.r0).mono g7.r0) λa2 aG a3 ac aH g8 aK=>?_;have ad:BD aG (w+96):=g8.bd (m:=w+96) (ab.mono (by omega));refine⟨(y.aJ ac).ld rfl,?_⟩;refine mq aj hT aH (w:=w+94) ad _ _ aK λa4 aL a5 aM h9 g9 aO=>?_;have aP:BD aL (w+94):=g9.bd (m:=w+94) (ad.mono (by omega));refine sv aj hT h9 (w:=w+93) aP _ ((aE.mono g8.r0).mono g9.r0) aO λra aQ aS aT aU aV aW=>?_;exact fin ra aQ aS 71 (by decide) ((((g.trans r).trans ac).trans aM).trans aT) aU (((((g6.trans g7).trans g8).trans g9).trans aV).mono (by decide) rfl) aW
 ·exact fin v c5 P 0 (by decide) KR.refl U (GE.refl _) V
theorem UW(av:fh vars){L:List (List UInt8)}(z:x.ok)(bv:x.kind=4∧x.bf.length=1∨x.kind=6∧x.bf.length=2)(hp:vP vars L x.kind x.place)(aw:∀p∈x.place.aB,∀e∈p.bc,iC C id vars L e)(aa:∀e∈x.bf,iC C id vars L e)(h:bC H id vars (dy vars) F c)(D:c.L.map abg=L)(hl:c.X=l)(hb:BD c (w+(fI x.place+dK x.bf+256)))
  (hQ:EU id vars (dy vars) F H c (fI x.place+dK x.bf+200) (gH l x.place++dP l x.bf++[⟨x.kind,x.aV,l,x.place⟩]) Q):af C 105 [.ptr id 0,.agg x.cells] H Q:=by
 obtain⟨az,aA,_⟩:=(m_ vars L _ x.place).1 hp;obtain⟨aC,_,_,_⟩:=ay.fP z;refine S.PK hT ?_;unfold S.f105;simp only[od,aR,hh,oe,T];refine sB aj hT av aC az aw h D hl (w:=w+(dK x.bf+256)) (hb.mono (by omega)) λs b al c1 H1 k1 h1 g1 aE bw hs aF=>?_;obtain⟨aG,_,aH,aK⟩:=xm aA;have aL:=aH (by omega);obtain⟨z0,bx,z2,z3⟩:=sr aF hs aG;have aM:x.kind=4→P8 s.len:=λe=>by have:=z2 aL;have:=aK (by omega) (by omega);unfold P8;omega
 have ab:BD c1 (w+(dK x.bf+256)):=g1.bd (m:=w+(dK x.bf+256)) (hb.mono (by omega));refine h1.jM k1 (cs:=dc s b al) (N:=8) rfl rfl rfl λjs H2 k2 aN bs l2=>?_;have ac:=k1.trans k2;refine jL aj hT aN ac λE bz ad aO aQ l3=>?_;have aS:=ac.trans ad;have B:js≠E:=by have:=bs.a.1;omega
 obtain⟨j,d⟩:∃j,x.bf[0]?=some j:=⟨_,YO (show 0<x.bf.length by omega)⟩
 obtain⟨a0,a1⟩:=sJ d;change aP none _ _ (.int .i64 0)=some _ at a0;simp only[hh,mX,a0,a1,T];have ag:∀{l:List ax}{y:ax}{r:List ax},l=y::r→dK l=dO y+dK r:=λe=>by subst e;rw[dK]
 obtain ⟨r0,o⟩:∃r0,x.bf=j::r0:=by
  cases z:x.bf with
  |nil=>rw[z]at d;cases d
  |cons a r=>rw[z]at d;simp at d;exact⟨r,by rw[d]⟩
 have bA:=ag o;have bB:=kl j;refine aa j (aaH d) aO (by rw[g1.L];exact D) (l:=l) (by rw[g1.X];exact hl) (w:=w+(dK r0+256)) (ab.mono (by omega)) λv G bD I aU g4 hv=>?_;have ah:BD G (w+(dK r0+256)):=g4.bd (m:=w+(dK r0+256)) (ab.mono (by omega));simp only[ey,T];refine(aQ.aJ I).st aU (aS.trans I) (by decide) One.int λaW ai ak am aX=>?_;have an:=aX _ _ _ B ((bs.aJ ad).aJ I);have aY:=g1.trans g4;have fin:∀(kk v2:Int)(q:LD)(f:Z)(m:Nat)(n:List bm),(kk=7∧x.kind=4∨kk=12)→KR id H f→bC f id vars (dy vars) F q→Bx H id F f js 8 (dc s b al)→Bx H id F f E 13 (⟨kk,-1,-1,-1,v,v2,0,0,0,0,0,0,0⟩:dx).cells→GE G q m n→m≤dK r0→n=dP l r0→di q.bn v2→S.vi (af C) (.ptr id 0) (.ae x.cells) (.ptr js 0) (.ptr E 0) Q [] f:=by intro kk v2 q f m n aZ J K ao a4 g6 hm hn M;have ap:BD q (w+256):=g6.bd (m:=w+256) (ah.mono (by omega));unfold S.vi;rw[ao.all];simp only[T];refine sx aj hT K (w:=w+254) ap ((aE.mono g4.r0).mono g6.r0) λa t a5 g O g7 ha=>?_;have aq:BD t (w+254):=g7.bd (m:=w+254) (ap.mono (by omega));simp only[ey,T];refine(a4.aJ g).st O (J.trans g) (by decide) One.int λar P R a6 U=>?_;have au:=U _ _ _ B (ao.aJ g);simp only[au.ld (k:=1) rfl,hh,lN,wZ,oe,T];refine sy aj hT R (l:=l) (by rw[g7.X,g6.X,g4.X,g1.X];exact hl) (w:=w+253) aq _ _ (by omega) x.place λbE V W a7 Y bF es=>?_;have a8:=au.aJ W;have a9:BD V (w+253):=Y.bd (m:=w+253) (aq.mono (by omega));refine⟨a8.ld rfl,trivial,?_⟩;refine(a6.aJ W).st a7 (P.trans W) (by decide) One.int λbG a_ ba bb bH=>?_;refine⟨trivial,?_⟩;refine bb.st ba a_ (by decide) One.int λbI be bg bh bJ=>?_;refine bh.st bg be (by decide) One.int λbK bi bj bk bL=>?_;rw[bk.all];simp only[T];have bM:=a9.A;have ra:=Y.r0;have bN:=g7.r0;have bO:=g6.r0;refine jt aj hT bj (by omega) ⟨kk,-1,-1,a,v,v2,0,0,s.len,x.aV,0,((t.sn+1:Nat):Int),0⟩ λbl bo bp=>?_;have gf:GE V (V.add ⟨kk,-1,-1,a,v,v2,0,0,s.len,x.aV,0,((t.sn+1:Nat):Int),0⟩) 1 []:=GE.add (iZ (by omega) (by omega) ch ch (ha.mono ra) (hv.mono (by omega)) (M.mono (by omega)) (.inr (.inr ⟨by omega,by omega⟩)) (aZ.elim (λe=> .inr (.inr (aM e.2))) (λe=> .inr (.inl (by omega))))) (kM (.inl (by omega)));exact hQ _ bl (bi.trans bo) bp (((((aY.trans g6).trans g7).trans Y).trans gf).mono (by omega) (by rw[hn,o,dP];simp only[abK,acC]))
 simp only[hh,lN,T,cI,aD,aT];apply aI<;>intro e
 · have bq:x.kind=6:=by simpa using e
   refine am.st ak ai (by decide) One.int λf J K br bt=>?_;obtain⟨u,i⟩:∃u,x.bf[1]?=some u:=⟨_,YO (show 1<x.bf.length by omega)⟩
   obtain⟨a2,a3⟩:=sJ i;change aP none _ _ (.int .i64 1)=some _ at a2;simp only[mX,a2,a3,T];obtain ⟨r1,dC⟩:∃r1,r0=u::r1:=by
    rw[o]at i;cases r0 with
    |nil=>simp at i
    |cons a r=>simp at i;exact⟨r,by rw[i]⟩
   have bP:=ag dC;have bQ:=kl u;refine aa u (aaH i) K (by rw[g4.L,g1.L];exact D) (l:=l) (by rw[g4.X,g1.X];exact hl) (w:=w+256) (ah.mono (by omega)) λv2 t a5 g O g7 M=>?_;refine(br.aJ g).st O (J.trans g) (by decide) One.int λar P R bu U=>?_;exact fin 12 v2 t ar _ _ (.inr rfl) P R (U _ _ _ B ((bt _ _ _ B an).aJ g)) bu g7 (by omega) (by rw[dC,show r1=[]from acH (by have:=congrArg acF o;rw[dC]at this;simp only[abD]at this;omega),dP,dP,abK]) M
 · have bq:¬x.kind=6:=by simpa using e
   exact fin 7 (-1) G aW 0 [] (.inl ⟨rfl,by omega⟩) ai ak an am (GE.refl _) (Yt _) (by rw[show r0=[]from acH (by have:=congrArg acF o;simp only[abD]at this;omega),dP]) ch
theorem UX(ai:fh vars){L:List (List UInt8)}(ak:x.ok)(a_:x.kind=5)(hn:x.E∈L)(am:x.cg∈L)(hp:vP vars L 5 x.place)(an:∀p∈x.place.aB,∀e∈p.bc,iC C id vars L e)(h:bC H id vars (dy vars) F c)(v:c.L.map abg=L)(hl:c.X=l)(hb:BD c (w+(fI x.place+256)))
  (hQ:EU id vars (dy vars) F H c (fI x.place+200) (gH l x.place++[⟨x.kind,x.aV,l,x.place⟩]) Q):af C 106 [.ptr id 0,.agg x.cells] H Q:=by
 obtain⟨ao,ba,_⟩:=(m_ vars L _ x.place).1 hp;obtain⟨ap,_,_,_⟩:=ay.fP ak;refine S.PM hT ?_;unfold S.f106;simp only[od,aR,hh,oe,T];refine sB aj hT ai ap ao an h v hl (w:=w+256) (hb.mono (by omega)) λs b al c1 H1 k1 h1 g1 aq bb hs be=>?_;have y:BD c1 (w+256):=g1.bd (m:=w+256) (hb.mono (by omega));refine h1.jM k1 (cs:=dc s b al) (N:=8) rfl rfl rfl λjs H2 k2 ar bs l2=>?_;have z:=k1.trans k2;refine jL aj hT ar z λau bf B av aw l3=>?_;have ax:=z.trans B;have i:js≠au:=by have:=bs.a.1;omega
 have D:=bs.aJ B;rw[D.all];simp only[T];refine sx aj hT av (w:=w+254) y aq λa d bg j az g4 ha=>?_;have I:BD d (w+254):=g4.bd (m:=w+254) (y.mono (by omega));simp only[ey,T];refine(aw.aJ j).st az (ax.trans j) (by decide) One.int λbh aA aC aD aE=>?_;have J:=aE _ _ _ i (D.aJ j);simp only[J.ld (k:=1) rfl,hh,lN,wZ,oe,T];refine ou aj hT aC (w:=w+253) I λbi n aF=>?_;have g6:=GE.fr d;have K:=g6.bd (m:=w+253) (I.mono (by omega));have M:=J.aJ n;refine⟨M.ld rfl,trivial,trivial,trivial,trivial,?_⟩;refine ou aj hT aF (w:=w+252) K λbj o aG=>?_;have g7:=GE.fr {d with bn:=d.bn+1};have O:=g7.bd (m:=w+252) (K.mono (by omega));have P:=M.aJ o;refine⟨P.ld rfl,trivial,trivial,trivial,trivial,?_⟩;refine sy aj hT aG (l:=l) (by show d.X=l;rw[g4.X,g1.X];exact hl) (w:=w+251) O _ _ (by omega) x.place λbk f r aH R aI es=>?_;have U:=P.aJ r;have V:BD f (w+251):=R.bd (m:=w+251) (O.mono (by omega));refine⟨U.ld rfl,trivial,?_⟩;refine(((aD.aJ n).aJ o).aJ r).st aH (((aA.trans n).trans o).trans r) (by decide) One.int λbl aK aL aM aN=>?_;have W:=aN _ _ _ i U;refine⟨W.ld rfl,trivial,?_⟩;refine aM.st aL aK (by decide) One.int λbm aO aP aQ aS=>?_;have aT:=aS _ _ _ i W;refine⟨aT.ld rfl,trivial,?_⟩;refine aQ.st aP aO (by decide) One.int λbo aU aW aX bp=>?_;refine⟨trivial,?_⟩;refine aX.st aW aU (by decide) One.int λbq aY aZ a0 br=>?_;refine a0.st aZ aY (by decide) One.int λbt a1 a2 Y of=>?_;rw[Y.all];simp only[T];have bu:=V.A;have a3:f.bn=d.bn+1+1:=aI;have bv:f.sn=d.sn+1:=es;refine jt aj hT a2 (by omega) ⟨11,d.bn,((d.bn+1:Nat):Int),a,-1,-1,0,0,s.len,x.aV,0,((d.sn+1:Nat):Int),0⟩ λbw Z aa=>?_;have ab:GE f (f.add ⟨11,d.bn,((d.bn+1:Nat):Int),a,-1,-1,0,0,s.len,x.aV,0,((d.sn+1:Nat):Int),0⟩) 1 []:=GE.add (iZ (by decide) (by decide) (ju (by omega)) (ju (by omega)) (ha.mono (by omega)) ch ch (.inr (.inr ⟨by omega,by omega⟩)) (.inr (.inl (by decide)))) (kM (.inl (by decide)));have t:=ab.bd (m:=w+250) (V.mono (by rw[abB 1];exact sl _));have u:=Y.aJ Z;have G:=(((((g1.trans g4).trans g6).trans g7).trans R).trans ab)
 have ac:(LD.add f ⟨11,d.bn,((d.bn+1:Nat):Int),a,-1,-1,0,0,s.len,x.aV,0,((d.sn+1:Nat):Int),0⟩).L.map abg=L:=by rw[G.L];exact v
 have bx:(LD.add f ⟨11,d.bn,((d.bn+1:Nat):Int),a,-1,-1,0,0,s.len,x.aV,0,((d.sn+1:Nat):Int),0⟩).bn=d.bn+2:=a3;generalize LD.add f ⟨11,d.bn,((d.bn+1:Nat):Int),a,-1,-1,0,0,s.len,x.aV,0,((d.sn+1:Nat):Int),0⟩=bz at *;simp only[mW,u.ld (k:=1) rfl,T];refine xv aj hT aa t (by rw[ac];exact hn) λq a4=>?_;refine⟨u.ld rfl,?_⟩;refine xr aj hT aa (w:=w+249) t a4 (ju (by omega)) λbA bB ad ae g=>?_;have ag:=g.bd (m:=w+249) (t.mono (by rw[abB 1];exact sl _));have ah:=u.aJ ad;simp only[Ba,ah.ld (k:=2) rfl,T];refine xv aj hT ae ag (by rw[g.L,ac];exact am) λbD a5=>?_;refine⟨ah.ld rfl,?_⟩;have bE:=g.r0;refine xr aj hT ae (w:=w+248) ag a5 (ju (by omega)) λci a6 a7 a8 a9=>?_;exact hQ _ a6 (((a1.trans Z).trans ad).trans a7) a8 (((G.trans g).trans a9).mono (by omega) (by simp only[abK]))
end
end Rb

namespace Rb
open Go
def KB(id:Nat)(H H':Z):Prop:=H.n≤H'.n∧∀i cs,i<id→At H i (.row cs)→At H' i (.row cs)
theorem KB.refl(id:Nat)(H:Z):KB id H H:=⟨sl _,λ_ _ _ h=>h⟩
theorem KB.trans{id:Nat}{a b c:Z}(h:KB id a b)(k:KB id b c):KB id a c:=⟨xl h.1 k.1,λi cs hi d=>k.2 i cs hi (h.2 i cs hi d)⟩
theorem KR.kb{id:Nat}{a b:Z}(h:KR id a b):KB id a b:=⟨h.1,λi cs hi c=>h.2 i cs (YG hi) c⟩
def UY(id:Nat)(vars:List B)(H:Z)(c:LD)(w:Nat)(k:List bm)(L:List (List UInt8))(Q:ad):Prop:=∀(c':LD)(F:I)(H':Z),KB id H H'→bC H' id vars (dy vars) F c'→GS c c' w k→c'.L.map abg=L→(∃t,c'.L=c.L++t∧t.length≤1)→Q (.aq []) H'
def Cc(C:Ctx)(id:Nat)(vars:List B)(x:ay):Prop:=∀{L:List (List UInt8)}{F:I}{c:LD}{H:Z}{Q:ad}{w:Nat},vS vars L x→bC H id vars (dy vars) F c→c.L.map abg=L→c.X=x.X→BD c (w+ki x)→UY id vars H c (ki x) (kL x) (gN L x) Q→af C 66 [.ptr id 0,.agg x.cells] H Q
def qo(C:Ctx)(id:Nat)(vars:List B)(l:List ay):Prop:=∀{L:List (List UInt8)}{F:I}{c:LD}{H:Z}{Q:ad}{w:Nat},vB vars L l→bC H id vars (dy vars) F c→c.L.map abg=L→BD c (w+cn l)→(∀(c':LD)(F:I)(H':Z),KB id H H'→bC H' id vars (dy vars) F c'→GS c c' (cn l) (fg l)→c'.L=c.L→Q (.aq []) H')→af C 37 [.ptr id 0,au ay.cells l] H Q
theorem GS.refl(c:LD):GS c c 0 []:=(GE.refl c).gs
theorem GS.X(c:LD)(v:Int):GS c {c with X:=v} 0 []:=⟨⟨[],(abK _).symm,sl _,(λ_ a=>by cases a),fH.nil _⟩,sl _,sl _,rfl,(abK _).symm,sl _,sl _⟩
theorem GS.g(c:LD)(l:List (List UInt8×Nat)):GS c {c with L:=l} 0 []:=⟨⟨[],(abK _).symm,sl _,(λ_ a=>by cases a),fH.nil _⟩,sl _,sl _,rfl,(abK _).symm,sl _,sl _⟩
theorem Cd:∀L:List (List UInt8×Nat),(L.flatMap jq).length=L.length*2
 |[]=>rfl
 |x::r=>by rw[abe,abC,Cd r,abD];show 2+_=_;omega
section
variable{C:Ctx}(aj:bN C)(hT:Cl (af C) S.bu){id:Nat}{vars:List B}{F:I}{c:LD}{H:Z}{Q:ad}{w:Nat}
include aj hT
theorem Ce{l:List ay}(hl:l.length≤9223372036854775807)(hS:∀x∈l,Cc C id vars x):qo C id vars l:=by
 intro L F c H Q w hv h B hb hQ;refine S.O8 hT ?_;unfold S.f37;simp only[aZ,ey,T,h.lcs,h.l.len,cU];have main:∀(r:List ay)(i:Nat)(o:List (List UInt8)) (c1:LD) (s:I) (H1:Z) (w1:Nat) (k1:List bm),l.drop i=r→vB vars o r→KB id H H1→bC H1 id vars (dy vars) s c1→c1.L.map abg=o→(∃t,c1.L=c.L++t∧t.length≤w1)→GS c c1 w1 k1→w1+cn r=cn l→k1++fg r=fg l →
   aC (S.uN (af C) (.ptr id 0) (au ay.cells l) (.int .i64 c.L.length) (.int .i64 l.length) Q) ([.int .i64 i],H1):=by
  intro r;induction r with
  | nil=>
   intro i o c1 s H1 w1 k1 u hv kb h1 y ht g1 hw hk;have hle:=er u;obtain⟨t,ht,D⟩:=ht;refine aC.step ?_;simp only[S.uN,aF,bD,T,aD,aT];rw[ee];unfold S.E4;simp only[aZ,ey,T,h1.lcs];obtain⟨E,e,v,q⟩:=h1.l.cut (k:=c.L.length) (by rw[ht,abC];omega);simp only[e,T];obtain⟨xo,xs,a,b,d,f⟩:=h1.x;obtain⟨n1,n2,n3⟩:=v.known;rw[a.st1 (by show 7<8;decide) ⟨n1,n2,n3⟩];simp only[T];rw[cn]at hw;rw[fg]at hk;refine hQ {c1 with L:=c.L} E _ (kb.trans (KR.set _).kb) ⟨⟨xo,xs,a.set _,b.frame λ_ _ _ h=>h.bZ (h.ne a (by intro e;cases e)) _,d.frame λ_ _ _ h=>h.bZ (h.ne a (by intro e;cases e)) _,f⟩,?_,λj G=>h1.ld j (by rw[←q];exact G),λp hp=>h1.lo p (by rw[ht];exact acP _ hp)⟩ ((g1.trans (GS.g c1 c.L)).mono (by omega) hk) rfl;have:(c1.L.flatMap jq).take (c.L.length*2)=c.L.flatMap jq:=by rw[ht,acB,abF (by rw[Cd];exact sl _),abG (by rw[Cd];exact sl _)]
   rw[this]at v;exact v.set (by rw[q];exact h1.su) _
  | cons x r J=>
   intro i o c1 s H1 w1 k1 u hv kb h1 y ht g1 hw hk;obtain⟨K,z,q⟩:=ed u;have M:=aaH z;obtain⟨v1,v2⟩:vS vars o x∧vB vars (gN o x) r:=by rw[vB]at hv;exact hv
   obtain⟨t,ht,D⟩:=ht;rw[cn]at hw;rw[fg]at hk;refine aC.step ?_;simp only[S.uN,aF,bD,T,aD];rw[dW,cQ K];simp only[T];rw[dD ay.len (by decide) _ z];simp only[T];refine h1.jM KR.refl (cs:=x.cells) (N:=10) rfl x.len (ay.scalar x) λj H2 k2 O b2 l2=>?_;have P:x.cells[1]?=some (.int .i64 x.X):=by rw[ay.bF];rfl
   obtain⟨ah,R,A,U⟩:=O.own (k:=6) (c':={c1 with X:=x.X}) (n:=x.X) (.inr (.inr ⟨rfl,rfl,rfl,rfl⟩)) rfl rfl rfl rfl;simp only[ey,T,b2.ld P,aZ,R,(b2.aJ A).all];have g3:=g1.trans (GS.X c1 x.X);have V:BD ({c1 with X:=x.X}:LD) (w+ki x):=g3.bd (m:=w+ki x) (hb.mono (by omega)) (by show c1.L.length≤_;rw[ht,abC];omega);refine hS x M v1 U y rfl V λW Y aa ab ac g4 ad ae=>?_;obtain⟨t2,ag,ai⟩:=ae;have:16≤ki x:=by rw[Jx];omega
   simp only[b4,T];rw[bH,cN];refine J (i+1) _ W Y aa (w1+ki x) (k1++kL x) q v2 ((kb.trans (k2.trans A).kb).trans ab) ac ad ⟨t++t2,by rw[ag];show c1.L++t2=_;rw[ht,acC],by rw[abC];omega⟩ ((g3.trans g4).mono (by omega) (by rw[abK])) (by omega) (by rw[←hk,acC])
 exact main l 0 L c F H 0 [] rfl hv (KB.refl _ _) h B ⟨[],by simp,by simp⟩ (GS.refl c) (YI _) rfl
end
end Rb

namespace Rb
open Go
variable{l0 l3:Nat}{n1 n2:List dx}{o1 o2 m1 m2:dx}{x:ay}{e0:ax}
theorem KC(t:Int)(o:dx)(l:List dx):iB t (o::l)=(if o.kind=14∧o.el=t then 1 else 0)+iB t l:=by
 unfold iB;rw[List.filter_cons];by_cases h:o.kind=14∧o.el=t
 ·rw[aa h,aa (by simp[h.1,h.2]),abD];omega
 ·rw[ab h,ab (by simpa using h),YI]
theorem KD{t:Int}{l:List dx}(h:∀o∈l,mn o):iB t l=0:=by unfold iB;rw[Zi,List.filter_eq_nil_iff];intro o a b;simp only[X1,bG]at b;exact h o a ⟨by omega,by omega⟩
structure GR(c c':LD)(w:Nat)(k:List bm)(new:List dx):Prop where
 A:c'.A=c.A++new
 len:new.length≤w
 op:∀o∈new,iA c'.bn c'.sn o
 r0:c.bn≤c'.bn
 r1:c'.bn≤c.bn+w
 s1:c'.sn=c.sn+k.length
 sc:c'.sc=c.sc++k.flatMap bm.cells
 sw:k.length≤w
 l1:c'.labels≤c.labels+w
section
variable{c c1 c2:LD}{w w':Nat}{k k':List bm}{n n':List dx}
theorem GR.trans(h:GR c c1 w k n)(g:GR c1 c2 w' k' n'):GR c c2 (w+w') (k++k') (n++n'):=by
 obtain⟨a1,a2,a3,a4,a5,a6,a7,a8,a9⟩:=h;obtain⟨b1,b2,b3,b,e,f,d,i,j⟩:=g;refine⟨by rw[b1,a1,acC],by rw[abC];omega,λo a=>?_,by omega,by omega,by rw[abC];omega,by rw[d,a7,acB,acC],by rw[abC];omega,by omega⟩;rcases aaa.1 a with a|a
 ·exact(a3 o a).mono b (by omega)
 ·exact b3 o a
theorem GR.mono(h:GR c c1 w k n)(b:w≤w')(a:k=k'):GR c c1 w' k' n:=by obtain⟨a1,a2,a3,a4,a5,a6,a7,a8,a9⟩:=h;subst a;exact⟨a1,by omega,a3,a4,by omega,a6,a7,by omega,by omega⟩
theorem GE.gr(h:GE c c1 w k):∃n,GR c c1 w k n∧(∀o∈n,mn o)∧c1.labels=c.labels:=by obtain⟨n,a,b,d⟩:=h.new;exact⟨n,⟨a,b,λo e=>(d o e).1,h.r0,h.r1,h.s1,h.sc,h.sw,by rw[h.kK];omega⟩,λo e=>(d o e).2,h.kK⟩
theorem GS.gr(h:GS c c1 w k):∃n,GR c c1 w k n∧fH c.labels c1.labels n:=by obtain⟨n,a,b,d,e⟩:=h.new;exact⟨n,⟨a,b,d,h.r0,h.r1,h.s1,h.sc,h.sw,h.l1⟩,e⟩
theorem GR.gs(h:GR c c1 w k n)(e:fH c.labels c1.labels n):GS c c1 w k:=⟨⟨n,h.A,h.len,h.op,e⟩,h.r0,h.r1,h.s1,h.sc,h.sw,h.l1⟩
theorem GR.add{o:dx}(h:iA c.bn c.sn o):GR c (c.add o) 1 [] [{o with X:=c.X}]:=⟨rfl,sl _,λp hp=>by rw[acL]at hp;subst hp;exact h.X _,sl _,YB _,rfl,(abK _).symm,Yt _,YB _⟩
theorem GR.label(c:LD):GR c {c with labels:=c.labels+1} 1 [] []:=⟨(abK _).symm,Yt _,(λ_ a=>by cases a),sl _,YB _,rfl,(abK _).symm,Yt _,sl _⟩
theorem GR.X(c:LD)(v:Int):GR c {c with X:=v} 0 [] []:=⟨(abK _).symm,Yt _,(λ_ a=>by cases a),sl _,sl _,rfl,(abK _).symm,sl _,sl _⟩
theorem GR.bd{m:Nat}(g:GR c c1 w k n)(h:BD c (w+m))(a:c1.L=c.L):BD c1 m:=by obtain⟨a1,a2,a3,a4,a5,a6,a7,a8,a9⟩:=g;obtain⟨b1,b2,b3,b,d⟩:=h;exact⟨by rw[a1,abC];omega,by omega,by omega,by omega,by rw[a];omega⟩
end
def Jp(o:dx)(t:Nat):Prop:=(o.kind=15∨o.kind=16)∧o.el=(t:Int)
def Mk(o:dx)(t:Nat):Prop:=o.kind=14∧o.el=(t:Int)
theorem UZ{l0 l3 l4:Nat}{n1 n2 f:List dx}(g:∀o∈n1,mn o)(h:Jp o1 (l0+1))(d:fH (l0+2) l3 n2)(i:Jp o2 (l0+2))(k1:Mk m1 (l0+1))(e:fH l3 l4 f)(k2:Mk m2 (l0+2)):fH l0 l4 (n1++([o1]++(n2++([o2]++([m1]++(f++[m2])))))):=by
 have k:=d.le;have l:=e.le;obtain⟨m,n⟩:=h;obtain⟨p,q⟩:=i;obtain⟨r1,r⟩:=k1;obtain⟨s1,s2⟩:=k2;refine⟨by omega,λo c a b=>?_,λt t0 t1=>?_⟩
 · simp only[aaa,acL]at c;rcases c with c|rfl|c|rfl|rfl|c|rfl
   ·exact absurd ⟨a,b⟩ (g o c)
   ·omega
   ·have:=d.el o c a b;omega
   ·omega
   ·omega
   ·have:=e.el o c a b;omega
   ·omega
 · have j:iB t n1=0:=KD g;simp only[BL,KC,j,show iB t []=0 from rfl];rw[ab (show ¬(o1.kind=14∧o1.el=t) by omega),ab (show ¬(o2.kind=14∧o2.el=t) by omega)];by_cases c1:t≤((l0+2:Nat):Int)
   · rw[om d (.inl c1),om e (.inl (by omega))];by_cases c2:t=((l0+1:Nat):Int)
     ·rw[aa (show m1.kind=14∧m1.el=t by omega),ab (show ¬(m2.kind=14∧m2.el=t) by omega)]
     ·rw[ab (show ¬(m1.kind=14∧m1.el=t) by omega),aa (show m2.kind=14∧m2.el=t by omega)]
   · rw[ab (show ¬(m1.kind=14∧m1.el=t) by omega),ab (show ¬(m2.kind=14∧m2.el=t) by omega)];by_cases c2:t≤(l3:Int)
     ·rw[d.one t (by omega) c2,om e (.inl c2)]
     ·rw[om d (.inr (by omega)),e.one t (by omega) t1]
theorem U0(k1:Mk m1 (l0+1))(e:∀o∈n1,mn o)(f:Jp o1 (l0+2))(d:fH (l0+2) l3 n2)(g:Jp o2 (l0+1))(k2:Mk m2 (l0+2)):fH l0 l3 ([m1]++(n1++([o1]++(n2++([o2]++[m2]))))):=by
 have i:=d.le;obtain⟨j,k⟩:=f;obtain⟨l,m⟩:=g;obtain⟨r1,n⟩:=k1;obtain⟨s1,s2⟩:=k2;refine⟨by omega,λo c a b=>?_,λt t0 t1=>?_⟩
 · simp only[aaa,acL]at c;rcases c with rfl|c|rfl|c|rfl|rfl
   ·omega
   ·exact absurd ⟨a,b⟩ (e o c)
   ·omega
   ·have:=d.el o c a b;omega
   ·omega
   ·omega
 · have h:iB t n1=0:=KD e;simp only[BL,KC,h,show iB t []=0 from rfl];rw[ab (show ¬(o1.kind=14∧o1.el=t) by omega),ab (show ¬(o2.kind=14∧o2.el=t) by omega)];by_cases c1:t≤((l0+2:Nat):Int)
   · rw[om d (.inl c1)];by_cases c2:t=((l0+1:Nat):Int)
     ·rw[aa (show m1.kind=14∧m1.el=t by omega),ab (show ¬(m2.kind=14∧m2.el=t) by omega)]
     ·rw[ab (show ¬(m1.kind=14∧m1.el=t) by omega),aa (show m2.kind=14∧m2.el=t by omega)]
   · rw[ab (show ¬(m1.kind=14∧m1.el=t) by omega),ab (show ¬(m2.kind=14∧m2.el=t) by omega),d.one t (by omega) t1]
section
variable{C:Ctx}(aj:bN C)(hT:Cl (af C) S.bu){id:Nat}{vars:List B}{F:I}{c:LD}{H:Z}{Q:ad}{w:Nat}
include aj hT
theorem bC.Cf{P:Z→Prop}(h:bC H id vars (dy vars) F c)(v:Int)(a:∀H',KR id H H'→bC H' id vars (dy vars) F {c with X:=v}→P H'):Do (Y H 1 (.ptr id 6) (.int .i64 v)) P:=by obtain⟨f,b,d,e⟩:=h.own (k:=6) (c':={c with X:=v}) (n:=v) (.inr (.inr ⟨rfl,rfl,rfl,rfl⟩)) rfl rfl rfl rfl;rw[b,T];exact a _ d e
theorem U1{L:List (List UInt8)}(p:x.bf=[e0])(q:iC C id vars L e0)(s:qo C id vars x.bg)(u:qo C id vars x.bx)(v:vB vars L x.bg)(y:vB vars L x.bx)(h:bC H id vars (dy vars) F c)(d:c.L.map abg=L)(z:c.X=x.X)(hb:BD c (w+(16+dO e0+cn x.bg+cn x.bx)))
  (hQ:∀(c':LD)(F:I)(H':Z),KB id H H'→bC H' id vars (dy vars) F c'→GS c c' (16+dO e0+cn x.bg+cn x.bx) (gm x.X e0++(fg x.bg++fg x.bx))→c'.L=c.L→Q (.aq []) H'):af C 110 [.ptr id 0,.agg x.cells] H Q:=by
 have iX:=kl e0;refine S.PR hT ?_;unfold S.f110;simp only[od,aR];refine xq aj hT h (w:=w+(15+dO e0+cn x.bg+cn x.bx)) (hb.mono (by omega)) λH1 k1 h1=>?_;have g1:=GR.label c;have A:=g1.bd (m:=w+(15+dO e0+cn x.bg+cn x.bx)) (hb.mono (by omega)) rfl;refine xq aj hT h1 (w:=w+(14+dO e0+cn x.bg+cn x.bx)) (A.mono (by omega)) λH2 k2 B=>?_;have g2:=g1.trans (GR.label {c with labels:=c.labels+1});have D:=g2.bd (m:=w+(14+dO e0+cn x.bg+cn x.bx)) (hb.mono (by omega)) rfl;obtain⟨a0,a1⟩:=sJ (l:=x.bf) (i:=0) (e:=e0) (by rw[p];rfl);change aP none _ _ (.int .i64 0)=some _ at a0;simp only[hh,mX,a0,a1,T];refine q B d z (w:=w+(14+cn x.bg+cn x.bx)) (D.mono (by omega)) λr c3 aI E G ge J=>?_;obtain⟨n1,g3,K,M⟩:=ge.gr;have b:c3.L=c.L:=ge.L;have N:c3.labels=c.labels+2:=M;have g:=g2.trans g3;have O:=g.bd (m:=w+(14+cn x.bg+cn x.bx)) (hb.mono (by omega)) b;refine xu aj hT G (w:=w+(13+cn x.bg+cn x.bx)) (O.mono (by omega)) _ J λo1 aJ P U ok V W=>?_;have g4:=g.trans (GR.add V);have Y:=g4.bd (m:=w+(13+cn x.bg+cn x.bx)) (hb.mono (by omega)) b;simp only[w4,T];refine s v W (by show c3.L.map _=_;rw[b];exact d) (w:=w+(13+cn x.bx)) (Y.mono (by omega)) λc5 aK aL aa ab ac ad=>?_;obtain⟨n2,g5,ae⟩:=ac.gr;have a:c5.L=c.L:=ad.trans b;have ag:=g4.trans g5;simp only[A_,T,aZ,ey];refine ab.Cf aj hT _ λaM ah ai=>?_;have g6:=ag.trans (GR.X c5 x.X);have ak:=g6.bd (m:=w+(13+cn x.bx)) (hb.mono (by omega)) a;refine xu aj hT ai (w:=w+(12+cn x.bx)) (ak.mono (by omega)) _ ch λo2 aN al am pK an ao=>?_;have g7:=g6.trans (GR.add an);have ap:=g7.bd (m:=w+(12+cn x.bx)) (hb.mono (by omega)) a;refine xt aj hT ao (w:=w+(11+cn x.bx)) (ap.mono (by omega)) _ λaO ar au=>?_;have j:∀{R S:Nat}{t:Int},iA R S ⟨14,-1,-1,-1,-1,-1,0,0,0,0,t,0,0⟩:=iZ (by decide) (by decide) ch ch ch ch ch (.inr (.inl (by decide))) (.inr (.inl (by decide)));have g8:=g7.trans (GR.add (o:=⟨14,-1,-1,-1,-1,-1,0,0,0,0,((c.labels+1:Nat):Int),0,0⟩) j);have av:=g8.bd (m:=w+(11+cn x.bx)) (hb.mono (by omega)) a;simp only[Bb,T];refine u y au (by show c5.L.map _=_;rw[a];exact d) (w:=w+11) (av.mono (by omega)) λf aw aQ ax h9 ay az=>?_;obtain⟨n3,g9,aA⟩:=ay.gr;have k:f.L=c.L:=az.trans a;have aB:=g8.trans g9;refine h9.Cf aj hT _ λaS aC aD=>?_;have n:=aB.trans (GR.X f x.X);have aE:=n.bd (m:=w+11) (hb.mono (by omega)) k;refine xt aj hT aD (w:=w+10) aE _ λaF kb aG=>?_;have aH:=n.trans (GR.add (o:=⟨14,-1,-1,-1,-1,-1,0,0,0,0,((c.labels+1+1:Nat):Int),0,0⟩) j);refine hQ _ aw aF (((((((k1.trans k2).trans E).trans P).kb.trans aa).trans ((ah.trans al).trans ar).kb).trans ax).trans (aC.trans kb).kb) aG (GR.gs (aH.mono (by omega) (by simp only[abK,acx,acC])) ?_) k;have l2:fH (c.labels+2) c5.labels n2:=by rw[←N];exact ae
 have l3:fH c5.labels f.labels n3:=aA;have:=UZ (o1:={o1 with X:=c3.X}) (o2:={o2 with X:=x.X}) (m1:=⟨14,-1,-1,-1,-1,-1,0,0,0,0,((c.labels+1:Nat):Int),0,x.X⟩) (m2:=⟨14,-1,-1,-1,-1,-1,0,0,0,0,((c.labels+1+1:Nat):Int),0,x.X⟩) K ⟨ok,U⟩ l2 ⟨pK,am⟩ ⟨rfl,rfl⟩ l3 ⟨rfl,rfl⟩;simp only[acx,abK,acC];exact this
theorem U2{L:List (List UInt8)}(n:x.bf=[e0])(p:iC C id vars L e0)(q:qo C id vars x.bg)(s:vB vars L x.bg)(h:bC H id vars (dy vars) F c)(g:c.L.map abg=L)(u:c.X=x.X)(hb:BD c (w+(16+dO e0+cn x.bg)))
  (hQ:∀(c':LD)(F:I)(H':Z),KB id H H'→bC H' id vars (dy vars) F c'→GS c c' (16+dO e0+cn x.bg) (gm x.X e0++fg x.bg)→c'.L=c.L→Q (.aq []) H'):af C 111 [.ptr id 0,.agg x.cells] H Q:=by
 have iX:=kl e0;refine S.PS hT ?_;unfold S.f111;simp only[od,aR];refine xq aj hT h (w:=w+(15+dO e0+cn x.bg)) (hb.mono (by omega)) λH1 k1 h1=>?_;have g1:=GR.label c;have v:=g1.bd (m:=w+(15+dO e0+cn x.bg)) (hb.mono (by omega)) rfl;refine xq aj hT h1 (w:=w+(14+dO e0+cn x.bg)) (v.mono (by omega)) λH2 k2 b=>?_;have g2:=g1.trans (GR.label {c with labels:=c.labels+1});have d:=g2.bd (m:=w+(14+dO e0+cn x.bg)) (hb.mono (by omega)) rfl;have j:∀{R S:Nat}{t:Int},iA R S ⟨14,-1,-1,-1,-1,-1,0,0,0,0,t,0,0⟩:=iZ (by decide) (by decide) ch ch ch ch ch (.inr (.inl (by decide))) (.inr (.inl (by decide)));refine xt aj hT b (w:=w+(13+dO e0+cn x.bg)) (d.mono (by omega)) _ λH2 y b=>?_;have g2:=g2.trans (GR.add (o:=⟨14,-1,-1,-1,-1,-1,0,0,0,0,((c.labels+1:Nat):Int),0,0⟩) j);have d:=g2.bd (m:=w+(13+dO e0+cn x.bg)) (hb.mono (by omega)) rfl;obtain⟨a0,a1⟩:=sJ (l:=x.bf) (i:=0) (e:=e0) (by rw[n];rfl);change aP none _ _ (.int .i64 0)=some _ at a0;simp only[hh,mX,a0,a1,T];refine p b g u (w:=w+(13+cn x.bg)) (d.mono (by omega)) λr c3 ar z A ge B=>?_;obtain⟨n1,g3,D,E⟩:=ge.gr;have a:c3.L=c.L:=ge.L;have G:c3.labels=c.labels+2:=E;have k:=g2.trans g3;have J:=k.bd (m:=w+(13+cn x.bg)) (hb.mono (by omega)) a;refine xu aj hT A (w:=w+(12+cn x.bg)) (J.mono (by omega)) _ B λo1 au K M ok N O=>?_;have g4:=k.trans (GR.add N);have P:=g4.bd (m:=w+(12+cn x.bg)) (hb.mono (by omega)) a;simp only[w4,T];refine q s O (by show c3.L.map _=_;rw[a];exact g) (w:=w+12) (P.mono (by omega)) λc5 U av V W Y aa=>?_;obtain⟨n2,g5,ab⟩:=Y.gr;have f:c5.L=c.L:=aa.trans a;have ac:=g4.trans g5;simp only[A_,T,aZ,ey];refine W.Cf aj hT _ λaw ad ae=>?_;have g6:=ac.trans (GR.X c5 x.X);have ag:=g6.bd (m:=w+12) (hb.mono (by omega)) f;refine xu aj hT ae (w:=w+11) ag _ ch λo2 ax ah ai pK ak al=>?_;have g7:=g6.trans (GR.add ak);have am:=g7.bd (m:=w+11) (hb.mono (by omega)) f;refine xt aj hT al (w:=w+10) am _ λan ao ap=>?_;have g8:=g7.trans (GR.add (o:=⟨14,-1,-1,-1,-1,-1,0,0,0,0,((c.labels+1+1:Nat):Int),0,0⟩) j);refine hQ _ U an (((((k1.trans k2).trans y).trans z).trans K).kb.trans (V.trans ((ad.trans ah).trans ao).kb)) ap (GR.gs (g8.mono (by omega) (by simp only[abK,acx,acC])) ?_) f;have l2:fH (c.labels+2) c5.labels n2:=by rw[←G];exact ab
 have:=U0 (o1:={o1 with X:=c3.X}) (o2:={o2 with X:=x.X}) (m1:=⟨14,-1,-1,-1,-1,-1,0,0,0,0,((c.labels+1:Nat):Int),0,c.X⟩) (m2:=⟨14,-1,-1,-1,-1,-1,0,0,0,0,((c.labels+1+1:Nat):Int),0,x.X⟩) ⟨rfl,rfl⟩ D ⟨ok,M⟩ l2 ⟨pK,ai⟩ ⟨rfl,rfl⟩;simp only[acx,abK,acC];exact this
end
end Rb

namespace Rb
open Go
variable{x:ay}
theorem U3{k:Int}:(eG k).2.2.2.1=if k=5∨k=7 then 0 else if k=6 then 2 else 1:=by
 unfold eG;by_cases b:k=5
 ·subst b;rfl
 by_cases a:k=6
 ·subst a;rfl
 by_cases c:k=7
 ·subst c;rfl
 rw[ab (show ¬(k=5∨k=7) by omega),ab a]
 repeat' split
 all_goals first|rfl|(exfalso;omega)
theorem Cg{e0:ax}(h:¬(3≤x.kind∧x.kind≤7))(hp:x.place.aB=[])(a:x.bf=[e0]):kL x=gm x.X e0++(fg x.bg++fg x.bx):=by rw[Jy,oq,hp,a,jr,dP,dP,ab h];simp
theorem xO(h:3≤x.kind∧x.kind≤7)(ht:x.bg=[])(a:x.bx=[]):kL x=gH x.X x.place++dP x.X x.bf++[⟨x.kind,x.aV,x.X,x.place⟩]:=by rw[Jy,ht,a,fg,aa h];simp
section
variable{C:Ctx}(aj:bN C)(hT:Cl (af C) S.bu){id:Nat}{vars:List B}{F:I}{c:LD}{H:Z}{Q:ad}{w:Nat}
include aj hT
theorem U4(I:fh vars)(V:x.ok)(ap:qo C id vars x.bg)(aC:qo C id vars x.bx):Cc C id vars x:=by
 intro L F c H Q w hv h r s hb hQ;obtain⟨v1,v2,v3,v4,v5,v6,aE,aq,v9⟩:=(I7 vars L x).1 hv;obtain⟨f1,f2,f3,f4,f5,f6⟩:=Jj v1;rw[U3]at f4;obtain⟨ar,⟨a_,aG⟩,_,_⟩:=ay.fP V;have y:∀e∈x.bf,iC C id vars L e:=λe he=>Kz aj hT I L e (aG e he) ((xj vars L).1 aE e he);have aH:=aN.fP ar;have W:3≤x.kind∧x.kind≤6→∀p∈x.place.aB,∀e∈p.bc,iC C id vars L e:=λhk p hp e he=>Kz aj hT I L e ((aH.2 p hp).2 e he) (Kx vars (v6 hk) p hp e he);have u:=Jx x;have z:¬(x.kind=5∨x.kind=7)→x.kind≠6→∃e0,x.bf=[e0]:=λa b=>by rw[ab a,ab b]at f4;exact abZ.1 (by omega)
 have Y:x.kind≠1→gN L x=L:=λe=>by unfold gN;rw[ab e]
 have B:x.kind≠1→∀{m:Nat}{n:List bm},m≤ki x→n=kL x→EU id vars (dy vars) F H c m n Q:=λhk m n hm hn c' H' k' aK g'=>hQ c' F H' k'.kb aK (g'.gs.mono hm hn) (by rw[g'.L,r,Y hk]) ⟨[],by rw[g'.L,abK],Yt _⟩;have a0:∀{e0:ax},x.bf=[e0]→aP none 8 (au ax.cells x.bf) (.int .i64 0)=some (dN ax.cells 8 x.bf 0)∧∀H,O H 8 true (dN ax.cells 8 x.bf 0)=some (.agg e0.cells):=λ{e0} he=>sJ (l:=x.bf) (i:=0) (e:=e0) (by rw[he];rfl);have s1:∀{e0:ax},x.bf=[e0]→dK x.bf=dO e0:=λhe=>by rw[he,dK,dK];exact Yx _
 have Z:∀{e0:ax},x.bf=[e0]→¬(3≤x.kind∧x.kind≤9)→gm x.X e0=kL x:=λhe hk=>by rw[Cg (by omega) (f3 (by omega)) he,f6 (by omega) (by omega),f5 (by omega),fg];simp
 refine S.Pn hT ?_;unfold S.f66;simp only[od,aR,hh,lN,mW,oe,mX,T,cI,aD];apply aI<;>intro hc
 · have k1:x.kind=1:=by simpa using hc
   obtain⟨e0,k⟩:=z (by omega) (by omega);obtain⟨a1,a2⟩:=a0 k;have t1:=s1 k;have iX:=kl e0;rw[bw]at u;simp only[a1,a2,T];refine y e0 (by rw[k];exact acL.2 rfl) h r s (w:=w+16) (hb.mono (by omega)) λr1 c1 H1 R h1 g1 dC=>?_;have J:BD c1 (w+16):=g1.bd (m:=w+16) (hb.mono (by omega));refine ou aj hT h1 (w:=w+15) J λH2 k2 K=>?_;have g2:=GE.fr c1;have D:=g2.bd (m:=w+15) (J.mono (by omega));refine xr aj hT K (w:=w+14) D (ju (aaJ _)) (dC.mono (YB _)) λc3 G v o g3=>?_;have aL:=g3.bd (m:=w+14) (D.mono (by omega));have ac:=(g1.trans g2).trans g3;have aM:=g3.r0;have aO:c1.bn<c3.bn:=aM;simp only[aZ,ey,T,o.lcs];rw[show bo [.str [],.int .i64 0] [(0,1,.str x.E),(1,1,.int .i64 (c1.bn:Nat))]=some (.agg (jq (x.E,c1.bn)))from rfl];simp only[T];rw[show dk G false 2 1 [.str [],.int .i64 0] [(0,2,.agg (jq (x.E,c1.bn)))]=some (.ak .full 1 (jq (x.E,c1.bn)),G)from rfl];simp only[aR];have ba:=aL.L;refine o.l.app (by decide) rfl rfl (by omega) (by omega) λad U av hn kp M=>?_;obtain⟨xo,xs,a,b,d,f⟩:=o.x;have aw:∀t p q,At G t (.tok p q)→At U t (.tok p q):=λt p q ht=>kp t _ (λe=>by obtain⟨cs,hc⟩:=o.l.row e;exact absurd (hc.2.symm.trans ht.2) (by intro e;cases e)) ht;have a4:=kp _ _ o.su a;obtain⟨n1,n2,n3⟩:=av.known;have az:∀j,bS ad=some j→id<j:=λj ag=>by
    rcases M with M|M
    ·exact o.ld j (by rw[←M];exact ag)
    ·rw[M]at ag;cases ag;exact a.1
   have aQ:bS ad≠some id:=λe=>acM _ (az _ e);have aS:KB id H U:=⟨xl ((R.trans k2).trans v).1 hn,λi cs hi ah=>kp i _ (λe=>by have:=o.ld i e;omega) (((R.trans k2).trans v).2 i cs (YG hi) ah)⟩
   rw[a4.st1 (by show 7<8;decide) ⟨n1,n2,n3⟩];simp only[T];refine hQ {c3 with L:=c3.L++[(x.E,c1.bn)]} ad _ (aS.trans (KR.set _).kb) ⟨⟨xo,xs,a4.set _,(b.frame aw).frame λ_ _ _ h=>h.bZ (h.ne a4 (by intro e;cases e)) _,(d.frame aw).frame λ_ _ _ h=>h.bZ (h.ne a4 (by intro e;cases e)) _,f⟩,?_,az,λp hp=>?_⟩ ((ac.gs.trans (GS.g c3 _)).mono (by omega) (by simp only[abK];exact Z k (by omega))) ?_ ⟨[(x.E,c1.bn)],by show c3.L++_=_;rw[ac.L],sl _⟩
   · rw[abC,acB,acN];exact av.set aQ _
   · rcases aaa.1 hp with hp|hp
     ·exact o.lo p hp
     ·rw[acL.1 hp];exact aO
   · show(c3.L++_).map _=_;rw[acs,ac.L,r];unfold gN;rw[aa k1];rfl
 have n1:x.kind≠1:=by simpa using hc
 apply aI<;>intro hc
 · have k2:x.kind=2:=by simpa using hc
   obtain⟨e0,k⟩:=z (by omega) (by omega);obtain⟨a1,a2⟩:=a0 k;have t1:=s1 k;have iX:=kl e0;rw[bw]at u;simp only[a1,a2,T];refine y e0 (by rw[k];exact acL.2 rfl) h r s (w:=w+16) (hb.mono (by omega)) λr1 c1 H1 R h1 g1 dC=>?_;have J:BD c1 (w+16):=g1.bd (m:=w+16) (hb.mono (by omega));refine xv aj hT h1 J (by rw[g1.L,r];exact v4 k2) λq aU=>?_;refine xr aj hT h1 (w:=w+15) J aU dC λc3 G v o g3=>?_;exact B n1 (by omega) (by rw[abK];exact Z k (by omega)) _ _ (R.trans v) o (g1.trans g3)
 have n2:x.kind≠2:=by simpa using hc
 apply aI<;>intro hc
 · have v:x.kind=3:=by simpa using hc
   obtain⟨e0,k⟩:=z (by omega) (by omega);obtain⟨a1,a2⟩:=a0 k;have t1:=s1 k;rw[cG]at u;simp only[a1,a2,T];refine UU aj hT I ar (by have:=v6 (by omega);rw[v]at this;exact this) (W (by omega)) (y e0 (by rw[k];exact acL.2 rfl)) h r s (w:=w) (hb.mono (by omega)) λc1 H1 k1 h1 g1=>?_;refine B n1 (by omega) ?_ _ _ k1 h1 g1;have ah:x.aV=0:=by rw[v]at v2;exact eq_of_beq v2
   rw[xO (by omega) (f6 (by omega) (by omega)) (f5 (by omega)),k,dP,dP,abK,v,ah]
 have n3:x.kind≠3:=by simpa using hc
 have k1 : ∀b:Bool,(b=true↔x.kind=4∨x.kind=6)→S.uU (af C) (.ptr id 0) (.ae x.cells) (.int .i64 x.kind) Q [.bool b] H:=by
  intro b aA;unfold S.uU;simp only[aF,aD,Is,hh,lN,wZ,mX,T,cI];apply aI<;>intro hc
  · have hk:=aA.1 hc;rw[cG]at u;refine UW aj hT I V ?_ (v6 (by omega)) (W (by omega)) y h r s (w:=w) (hb.mono (by omega)) λc1 H1 k1 h1 g1=>?_
    · rcases hk with hk|hk
      · rw[bw,bw]at f4;exact .inl ⟨hk,by omega⟩
      · rw[bw,aa hk]at f4;exact .inr ⟨hk,by omega⟩
    ·exact B n1 (by omega) (xO (by omega) (f6 (by omega) (by omega)) (f5 (by omega))).symm _ _ k1 h1 g1
  have n46:¬(x.kind=4∨x.kind=6):=λe=>hc (aA.2 e);apply aI<;>intro hc
  · have N:x.kind=5:=by simpa using hc
    rw[cG]at u;obtain⟨aW,aX,_⟩:=v5 N;refine UX aj hT I V N aW aX (by have:=v6 (by omega);rw[N]at this;exact this) (W (by omega)) h r s (w:=w) (hb.mono (by omega)) λc1 H1 k1 h1 g1=>?_;rw[cG]at f4;exact B n1 (by omega) (by rw[xO (by omega) (f6 (by omega) (by omega)) (f5 (by omega)),show x.bf=[]from acH (by omega),dP,abK]) _ _ k1 h1 g1
  have bb:x.kind≠5:=by simpa using hc
  apply aI<;>intro hc
  · have aY:x.kind=7:=by simpa using hc
    rw[cG]at u;refine jL aj hT h KR.refl λa3 H1 k1 h1 ai l1=>?_;rw[show bo [.str [],.ak .nil 0 []] []=some (.agg [.str [],.ak .nil 0 []])from rfl];simp only[T,ey];refine JF aj hT h1 (w:=w+200) (hb.mono (by omega)) _ _ ⟨x.kind,x.aV,x.X,x.place⟩ (by unfold bm.cells;rw[aa aY,s]) rfl rfl λH2 c2 k2 K g2 be es=>?_;have D:=g2.bd (m:=w+200) (hb.mono (by omega));refine⟨trivial,?_⟩;refine(ai.aJ k2).st K (k1.trans k2) (by decide) One.int λG al o b3 _=>?_;refine b3.st o al (by decide) One.int λU a5 am a6 _=>?_;rw[a6.all];simp only[T];refine jt aj hT am (by have:=D.A;omega) ⟨13,-1,-1,-1,-1,-1,0,0,0,x.aV,0,((c.sn+1:Nat):Int),0⟩ λbh N a7=>?_;rw[cG]at f4;exact B n1 (by omega) (by rw[xO (by omega) (f6 (by omega) (by omega)) (f5 (by omega)),show x.bf=[]from acH (by omega),dP,oq,f3 (by omega),jr];rfl) _ _ (a5.trans N) a7 (g2.trans (GE.add (iZ (by decide) (by decide) ch ch ch ch ch (.inr (.inr ⟨by omega,by omega⟩)) (.inr (.inl (by decide)))) (kM (.inl (by decide)))))
  have n7:x.kind≠7:=by simpa using hc
  apply aI<;>intro hc
  · have bi:x.kind=8:=by simpa using hc
    obtain⟨e0,k⟩:=z (by omega) (by omega);have t1:=s1 k;rw[bw]at u;rw[Y n1]at hQ;refine U1 aj hT k (y e0 (by rw[k];exact acL.2 rfl)) ap aC aq v9 h r s (w:=w) (hb.mono (by omega)) λc1 an H1 ao h1 g1 P=>?_;exact hQ c1 an H1 ao h1 (g1.mono (by omega) (Cg (by omega) (f3 (by omega)) k).symm) (by rw[P];exact r) ⟨[],by rw[P,abK],Yt _⟩
  have n8:x.kind≠8:=by simpa using hc
  apply aI<;>intro hc
  · have bj:x.kind=9:=by simpa using hc
    obtain⟨e0,k⟩:=z (by omega) (by omega);have t1:=s1 k;rw[bw]at u;rw[Y n1]at hQ;refine U2 aj hT k (y e0 (by rw[k];exact acL.2 rfl)) ap aq h r s (w:=w) (hb.mono (by omega)) λc1 an H1 ao h1 g1 P=>?_;exact hQ c1 an H1 ao h1 (g1.mono (by omega) (by rw[Cg (by omega) (f3 (by omega)) k,f5 (by omega),fg,abK])) (by rw[P];exact r) ⟨[],by rw[P,abK],Yt _⟩
  have n9:x.kind≠9:=by simpa using hc
  apply aI<;>intro hc
  · have bk:x.kind=10:=by simpa using hc
    obtain⟨e0,k⟩:=z (by omega) (by omega);obtain⟨a1,a2⟩:=a0 k;have t1:=s1 k;have iX:=kl e0;rw[bw]at u;refine jL aj hT h KR.refl λa3 H1 k1 h1 ai l1=>?_;simp only[a1,a2,T];refine y e0 (by rw[k];exact acL.2 rfl) h1 r s (w:=w+16) (hb.mono (by omega)) λr1 c2 H2 k2 K g2 a8=>?_;have D:BD c2 (w+16):=g2.bd (m:=w+16) (hb.mono (by omega));simp only[ey,T];refine(ai.aJ k2).st K (k1.trans k2) (by decide) One.int λG al o b3 _=>?_;rw[b3.all];simp only[T];refine jt aj hT o (by have:=D.A;omega) ⟨18,-1,-1,r1,-1,-1,0,0,0,0,0,0,0⟩ λU a9 am=>?_;exact B n1 (by omega) (by rw[abK];exact Z k (by omega)) _ _ (al.trans a9) am (g2.trans (GE.add (iZ (by decide) (by decide) ch ch a8 ch ch (.inr (.inl (by decide))) (.inr (.inl (by decide)))) (kM (.inr (by decide)))))
  · have n10:x.kind≠10:=by simpa using hc
    omega
 simp only[aT];apply aI<;>intro hc
 ·exact k1 _ ⟨λ_=> .inl (by simpa using hc),λ_=>hc⟩
 · refine k1 _ ⟨λe=> .inr (by simpa using e),λe=>?_⟩;have:x.kind≠4:=by simpa using hc
   simp;omega
theorem U5(c:fh vars):∀x:ay,x.ok→Cc C id vars x:=by refine ay.ind λx h1 d b=>?_;obtain⟨_,_,⟨l1,o1⟩,l2,o2⟩:=ay.fP b;exact U4 aj hT c b (Ce aj hT l1 λy a=>h1 y a (o1 y a)) (Ce aj hT l2 λy a=>d y a (o2 y a))
end
end Rb

namespace Rb
open Go
def qp:LD:=⟨[],0,0,0,[],0,[]⟩
def bm.pl(a:bm):aN:=if a.kind=7 then .mk [] []else a.place
def bm.wk(a:bm):List I:= .int .i64 a.kind :: .int .i64 a.aV :: .int .i64 a.X::a.pl.cells
theorem bm.xP(a:bm):a.wk.length=5:=by simp[bm.wk,aN.len]
theorem bm.U6(a:bm):a.wk.all I.scalar=true:=by have:=aN.scalar a.pl;simp only[bm.wk,List.all_cons,this,ack];rfl
theorem bm.cf(a:bm):I.cf a.cells=a.wk:=by
 unfold bm.cells bm.wk bm.pl;simp only[I.cf,I.cd];split
 ·rw[aN.bF];rfl
 ·rw[aN.gF]
theorem KE:∀l:List bm,I.cf (l.flatMap bm.cells)=l.flatMap bm.wk
 |[]=>rfl
 |x::r=>by rw[abe,abe,jJ,KE r,bm.cf]
theorem KF:∀l:List bm,I.bA (l.flatMap bm.wk)=true
 |[]=>rfl
 | x::r=>by rw[abe];show I.bA (.int .i64 x.kind :: .int .i64 x.aV :: .int .i64 x.X::(x.pl.cells++r.flatMap bm.wk))=true;rw[aN.bF];have h:=aN.bb x.pl;rw[aN.bF]at h;simp only[I.bA,X1]at h;simp only[ZS,acx,I.bA,X1];exact⟨rfl,rfl,rfl,h.1,h.2.1,KF r⟩
def cD(p:cH)(n:Int):List bm:=if(fq dq p).2≠0∨n<0∨(p.dd.length:Int)≤n then []else fg (p.dd.getD n.toNat [])
section
variable{C:Ctx}(aj:bN C)(hT:Cl (af C) S.bu)(fe:∀x,bB (af C) 96 [.str x] (.bool (dq x)))
include aj hT fe
theorem KG{p:cH}(hp:p.ok)(hz:∀t∈p.dd,cn t≤100000000000)(n:Int):bB (af C) 14 [.agg p.cells,.int .i64 n] (au bm.wk (cD p n)):=by
 refine bB.of aj (by simp[I.bA,I.bb,cH.bb]) (by show I.bb (.ak .dead _ ((cD p n).flatMap bm.wk))=true;simp[I.bb,KF,Tok.free]) λQ hQ=>?_
 refine af.cd ?_;have i:=hp;obtain⟨⟨ac,hv⟩,ad,s⟩:=hp;have hm:=og;refine S.OY hT ?_;unfold S.f14;have u:aO Z.mt false 2 (.agg p.cells)=some (.ae p.cells,Z.mt):=by unfold aO;rw[aa ⟨rfl,rfl⟩];rfl
 have y:∀H,O H 1 false (.ae (p.cells.drop 0))=some (au B.cells p.vars):=λ_=>rfl;have m:∀H,O H 1 false (.ae (p.cells.drop 1))=some (au iR p.dd):=λ_=>rfl;have A:∀H,O H 2 true (.ae p.cells)=some (.agg p.cells):=λ_=>rfl;simp only[u,aR,aL,a_,ov,T,A];refine SI aj hT fe p i _ _ ?_;unfold ID;rw[cS _ _ _ 2 rfl rfl rfl];have D:=At.new Z.mt (.row [.int .i64 (fq dq p).1,.int .i64 (fq dq p).2]);simp only[T,ey];generalize Z.mt.push (.row [.int .i64 (fq dq p).1,.int .i64 (fq dq p).2])=a at *;have l1:O a 1 false (.ptr Z.mt.n 1)=some (.int .i64 (fq dq p).2):=by rw[D.load];rfl
 simp only[l1,T,d_];have k1:∀k t,n=(k:Nat)→p.dd[k]?=some t→(fq dq p).2=0→S.zL (af C) (.int .i64 n) (.ae p.cells) (λv H'=>Q v.cd H') [] a:=by
  rintro k t rfl ht f;obtain⟨d,E⟩:=JL i f;obtain⟨hlen,F⟩:=s t (aaH ht);have G:=(XV.1 ht).1;have ag:=hz t (aaH ht);have g:cD p (k:Nat)=fg t:=by unfold cD;rw[bw,Y7,Zg,ht];rfl
  rw[g]at hQ;unfold S.zL;simp only[ov,y,m,T];have ah:=d.l;refine xc aj hT (by omega) hv _ _ ?_;have J:=xe d.z d.e;unfold jn;rw[J,ab (by show ¬(0:Int)≠0;decide)];simp only[bj,abj,abk,T];rw[show bo [.ak .nil 0 [],.ak .nil 0 [],.ak .nil 0 [],.int .i64 0,.int .i64 0,.ak .nil 0 [],.int .i64 0,.ak .nil 0 []] [(0,1,au B.cells p.vars),(1,1,.ak .dead p.vars.length (dw p.vars (bW 0 p.vars)))]=some (.agg (kj p.vars (dy p.vars) (.ak .nil 0 []) (.ak .nil 0 []) (.ak .nil 0 []) qp))from rfl];simp only[T];have K:aO a true 8 (.agg (kj p.vars (dy p.vars) (.ak .nil 0 []) (.ak .nil 0 []) (.ak .nil 0 []) qp))=some (.ptr a.n 0,a.push (.row (kj p.vars (dy p.vars) (.ak .nil 0 []) (.ak .nil 0 []) (.ak .nil 0 []) qp))):=rfl;rw[K];simp only[aR];have L:=At.new a (.row (kj p.vars (dy p.vars) (.ak .nil 0 []) (.ak .nil 0 []) (.ak .nil 0 []) qp));generalize a.push (.row (kj p.vars (dy p.vars) (.ak .nil 0 []) (.ak .nil 0 []) (.ak .nil 0 []) qp))=h at *;have M:bC h a.n p.vars (dy p.vars) (.ak .nil 0 []) qp:=⟨⟨_,_,L,cC.nil _ _ _,cC.nil _ _ _,λt l c1 e=>(by cases e)⟩,cK.nil _ _,λj N=>(by cases N),λq P=>(by cases P)⟩
  rw[cQ G];simp only[T];have R:O h 1 false (dN iR 1 p.dd k)=some (au ay.cells t):=wo (c:=λl=>au ay.cells l) h ht;rw[R];simp only[T];refine Ce aj hT (id:=a.n) (vars:=p.vars) (l:=t) (by omega) (λx U=>U5 aj hT d x (F x U)) (w:=0) (E t (aaH ht)) M rfl ⟨by show 0+_≤_;omega,by show 0+_≤_;omega,by show 0+_≤_;omega,by show 0+_≤_;omega,by show 0+_≤_;omega⟩ λc' ai V kb W gs al=>?_;obtain⟨xo,xs,a6,am,hs,_⟩:=W.x;have X:O V 1 false (.ptr a.n 5)=some xs:=by rw[a6.load];rfl
  simp only[aZ,ey,T,X];obtain⟨tk,rfl,_,_⟩:=hs;have e1:c'.sn=(fg t).length:=by rw[gs.s1];show 0+_=_;omega
  have Y:c'.sc=(fg t).flatMap bm.cells:=by rw[gs.sc];rfl
  simp only[I.cd,e1,Y,KE];exact hQ _
 have o:(fq dq p).2≠0∨n<0∨(p.dd.length:Int)≤n→S.ry (af C) (.int .i64 n) (.ae p.cells) (λv H'=>Q v.cd H') [.bool true] a:=by
  intro hc;have g:cD p n=[]:=by unfold cD;rw[aa hc]
  rw[g]at hQ;unfold S.ry;simp only[aF,aD,a_];exact hQ _
 have r:∀b:Bool,(b=true↔(fq dq p).2≠0∨n<0)→S.uE (af C) (.int .i64 n) (.ae p.cells) (λv H'=>Q v.cd H') [.bool b] a:=by
  intro b hb;unfold S.uE;simp only[aF,cv,ov,m,T,cU,gZ,aT];apply iv<;>intro e
  · have hn:¬((fq dq p).2≠0∨n<0):=λq=>by rw[hb.2 q]at e;cases e
    by_cases hle:(p.dd.length:Int)≤n
    · rw[show decide (n≥(p.dd.length:Int))=true by simpa using hle];exact o (.inr (.inr hle))
    · rw[show decide (n≥(p.dd.length:Int))=false by simpa using hle];obtain⟨k,rfl⟩:∃k:Nat,n=k:=⟨n.toNat,by omega⟩
      unfold S.ry;simp only[aF,aD,ZP,bR,aT];exact k1 k _ rfl (YO (show k<p.dd.length by omega)) (by omega)
  ·exact o ((hb.1 e).imp (λe=>e) .inl)
 simp only[cv,bD,T,aT];apply iv<;>intro e
 · have f:(fq dq p).2=0:=by simpa using e
   exact r _ ⟨λq=> .inr (by simpa using q),λq=>by simpa using q.resolve_left (λq=>q f)⟩
 ·exact r true ⟨λ_=> .inl (by simpa using e),λ_=>rfl⟩
end
end Rb

namespace Rb
open Go
section
variable(Φ:ai)(a0 a1 a2 a3 a8 a9 cO cx cB cA cM a17 cW a72:I)(H:Z)(R:I→I→I→I→I→I→I→I→I→I→I→I→I→I→Z→Prop)(Rr:Z→Prop)
theorem U7:cp Φ Kg (dt a0 a1 a2 a3 a8 a9 cO cx cB cA cM a17 cW a72 .bot) H (KA R Rr)=ar (aO H false 2 a0) λx H'=>R a0 a1 a2 x a8 a9 cO cx cB cA cM a17 cW a72 H':=by kernel_rfl
theorem U8:cp Φ Kh (dt a0 a1 a2 a3 a8 a9 cO cx cB cA cM a17 cW a72 .bot) H (KA R Rr)=(Do (O H 2 true a3) λx=>Φ 14 [x,a1] H λv H'=>R a0 a1 a2 a3 v a9 cO cx cB cA cM a17 cW a72 H'):=by kernel_rfl
theorem U9:cp Φ Ki (dt a0 a1 a2 a3 a8 a9 cO cx cB cA cM a17 cW a72 .bot) H (KA R Rr)=(Do (M .sub a2 (.int .i64 1)) λx=>Do (aP none 5 a8 x) λy=>Do (O H 5 true y) λz=>ar (some (aL H true [.int .i64 0,.int .i64 0,.int .i64 0,.str [],.ak .nil 0 []])) λu H'=>Do (Y H' 5 u z) λH2=>R a0 a1 a2 a3 a8 u cO cx cB cA cM a17 cW a72 H2):=by kernel_rfl
theorem U_:cp Φ Kj (dt a0 a1 a2 a3 a8 a9 cO cx cB cA cM a17 cW a72 .bot) H (KA R Rr)=R a0 a1 a2 a3 a8 a9 (.int .i64 1) cx cB cA cM a17 cW a72 H:=by kernel_rfl
theorem Va:cp Φ Kk (dt a0 a1 a2 a3 a8 a9 cO cx cB cA cM a17 cW a72 .bot) H (KA R Rr)=(Do (W 0 a3) λx=>Do (O H 1 false x) λy=>Do (W 3 a9) λz=>Do (O H 2 true z) λu=>Φ 17 [y,u] H λv H'=>R a0 a1 a2 a3 a8 a9 cO v cB cA cM a17 cW a72 H'):=by kernel_rfl
theorem Vb:cp Φ Kl (dt a0 a1 a2 a3 a8 a9 cO cx cB cA cM a17 cW a72 .bot) H (KA R Rr)=(Do (W 0 a3) λx=>Do (O H 1 false x) λy=>Φ 11 [y] H λv H'=>Do (bj 0 v) λz=>Do (bj 1 v) λe=>ar (some (aL H' true [.ak .nil 0 []])) λu H2=>Do (Y H2 1 u z) λa=>R a0 a1 a2 a3 a8 a9 cO cx u e cM a17 cW a72 a):=by kernel_rfl
theorem KH:cp Φ Km (dt a0 a1 a2 a3 a8 a9 cO cx cB cA cM a17 cW a72 .bot) H (KA R Rr)=(Do (M .neq cA (.int .i64 0)) λx=>Gd x true ((I.ak .nil 0 []=I.ak .nil 0 [])∧(I.bool false = .bool false)∧Rr H) (R a0 a1 a2 a3 a8 a9 cO cx cB cA cM a17 cW a72 H)):=by kernel_rfl
theorem Vd:cp Φ Kn (dt a0 a1 a2 a3 a8 a9 cO cx cB cA cM a17 cW a72 .bot) H (KA R Rr)=(ar (some (aL H true [.ak .nil 0 []])) λu H2=>R a0 a1 a2 a3 a8 a9 cO cx cB cA u a17 cW a72 H2):=by kernel_rfl
theorem Ve:cp Φ Ko (dt a0 a1 a2 a3 a8 a9 cO cx cB cA cM a17 cW a72 .bot) H (KA R Rr)=(Φ 18 [cx] H λv H'=>R a0 a1 a2 a3 a8 a9 cO cx cB cA cM a17 cW v H'):=by kernel_rfl
end
end Rb

namespace Rb
open Go
section
variable(Φ:ai)(a0 a1 a2 a3 a8 a9 cO cx cB cA cM a17 cW a72:I)(R:I→I→I→I→I→I→I→I→I→I→I→I→I→I→Z→Prop)(Rr:Z→Prop)
def sK:List I→Z→Prop:=λj H=>
 Gd (G j 0) true ((I.ak .nil 0 []=I.ak .nil 0 [])∧(I.bool false = .bool false)∧Rr H) (R a0 a1 a2 a3 a8 a9 cO cx cB cA cM a17 cW a72 H)
def sL:List I→Z→Prop:=λj H=>
 aQ (G j 0) false (
 Do (M .sub a2 (.int .i64 1)) λx=>
 Do (aP none 5 a8 x) λy=>
 Do (W 0 y) λz=>
 Do (O H 1 false z) λk=>
Φ 16 [k] H λw H'=>
 Do (cY .not w) λq=>
 N (sK a0 a1 a2 a3 a8 a9 cO cx cB cA cM a17 cW a72 R Rr) [q] H') (
 N (sK a0 a1 a2 a3 a8 a9 cO cx cB cA cM a17 cW a72 R Rr) [.bool true] H) (
 False)
def KI(H:Z):Prop:=
 Do (M .lss a2 (.int .i64 1)) λx=>
 aQ x false (
 Do (bp false a8) λy=>
 Do (M .gtr a2 y) λz=>
 N (sL Φ a0 a1 a2 a3 a8 a9 cO cx cB cA cM a17 cW a72 R Rr) [z] H) (
 N (sL Φ a0 a1 a2 a3 a8 a9 cO cx cB cA cM a17 cW a72 R Rr) [.bool true] H) (
 False)
theorem Vf(H:Z):cp Φ B9 (dt a0 a1 a2 a3 a8 a9 cO cx cB cA cM a17 cW a72 .bot) H (KA R Rr)=KI Φ a0 a1 a2 a3 a8 a9 cO cx cB cA cM a17 cW a72 R Rr H:=by kernel_rfl
def xQ(x:I):(List I×Z)→((List I×Z)→Prop)→Prop:=λs L=>
 Do (M .lss (G s.1 3) x) λc=>
 Gd c true (
 Do (aP none 1 cx (G s.1 3)) λy=>
 Do (O s.2 1 false y) λn=>
 Do (M .mul (G s.1 2) n) λm=>
 Do (M .gtr m (.int .i64 4096)) λg=>
 Gd g true ((I.ak .nil 0 []=I.ak .nil 0 [])∧(I.bool false = .bool false)∧Rr s.2) (
 Do (M .add (G s.1 3) (.int .i64 1)) λi=>
 L ([G s.1 0,G s.1 1,m,i],s.2))) (
 R a0 a1 a2 a3 a8 a9 (G s.1 2) cx cB cA cM a17 cW a72 s.2)
theorem Vg(H:Z):cp Φ B_ (dt a0 a1 a2 a3 a8 a9 cO cx cB cA cM a17 cW a72 .bot) H (KA R Rr)=(Do (bp false cx) λx=>aC (xQ a0 a1 a2 a3 a8 a9 cx cB cA cM a17 cW a72 R Rr x) ([.bot,.bot,cO,.int .i64 0],H)):=by kernel_rfl
end
end Rb

namespace Rb
open Go
section
variable(Φ:ai)(a0 a1 a2 a3 a8 a9 cO cx cB cA cM a17 cW a72 Kv:I)(H:Z)(R:I→I→I→I→I→I→I→I→I→I→I→I→I→I→Z→Prop)(Rr:Z→Prop)
theorem Vh:cp Φ Ca (dt a0 a1 a2 a3 a8 a9 cO cx cB cA cM a17 cW a72 .bot) H (KA R Rr)=(Do (W 0 a3) λx=>Do (O H 1 false x) λy=>Do (W 3 a9) λz=>Do (O H 2 true z) λu=>Φ 19 [y,u,a17] H λv H'=>Do (bj 0 v) λe0=>Do (bj 1 v) λe1=>ar (some (aL H' true [.int .i64 0,.int .i64 0,.int .i64 0,.bool false,.int .i64 0,.int .i64 0])) λw H2=>Do (Y H2 6 w e0) λa=>R a0 a1 a2 a3 a8 a9 cO cx cB cA cM a17 w a72 a):=by kernel_rfl
theorem Vi:cp Φ Cb (dt a0 a1 a2 a3 a8 a9 cO cx cB cA cM a17 cW a72 .bot) H (KA R Rr)=(Do (O H 1 false cM) λa=>Do (O H 1 false cB) λb=>Do (W 0 cW) λc=>Do (O H 2 true c) λd=>Φ 20 [b,d] H λe H1=>(O H1 1 false cM=some a)∧(ar (dk H1 false 2 1 [.int .i64 0,.int .i64 0] [(0,2,e)]) λf H2=>ar (cr H2 false 2 16 a f) λg h=>Do (Y h 1 cM g) λi=>R a0 a1 a2 a3 a8 a9 cO cx cB cA cM a17 cW a72 i)):=by kernel_rfl
end
end Rb

namespace Rb
open Go
def jO(g:be):Int×Int:=(g.at_,g.len)
def h3(vars:List B)(a:aN)(aG:List (Int×Int))(x:List Int):Int×Int:=kO aG (jO (dI vars a x))
structure mw(vars:List B)(m:bm)(aG:List (Int×Int))(j9 gK gB:Nat)(pre:List (List Int))(H:Z):Prop where
 h9:At H j9 (.row m.wk)
 qh:At H gK (.row [au av aG])
 iX:∃x,At H gB (.row [x])∧cC 0 H 2 x pre.length ((pre.map (h3 vars m.pl aG)).flatMap av)
 n9:j9≠gB
 n14:gK≠gB
section
variable{C:Ctx}(aj:bN C)(hT:Cl (af C) S.bu){p:cH}{m:bm}{aG:List (Int×Int)}{j9 gK gB:Nat}
include aj hT
theorem Vj(hl:p.vars.length≤1000000)(hv:∀v∈p.vars,v.ok)(j:m.pl.ok){pre:List (List Int)}{x:List Int}{H:Z}(h:mw p.vars m aG j9 gK gB pre H){a0 a1 d a8 cO cx cA cW f:I}{R:I→I→I→I→I→I→I→I→I→I→I→I→I→I→Z→Prop}{Rr:Z→Prop}
  (k:∀i H',mw p.vars m aG j9 gK gB pre H'→At H' i (.row (dI p.vars m.pl x).cells)→i≠gB→R a0 a1 d (.ae p.cells) a8 (.ptr j9 0) cO cx (.ptr gK 0) cA (.ptr gB 0) (.ak .dead x.length (x.map dz)) (.ptr i 0) f H') :
  cp (af C) Ca (dt a0 a1 d (.ae p.cells) a8 (.ptr j9 0) cO cx (.ptr gK 0) cA (.ptr gB 0) (.ak .dead x.length (x.map dz)) cW f .bot) H (KA R Rr):=by
 rw[Vh];have l0:O H 1 false (.ae p.cells)=some (au B.cells p.vars):=rfl;have l3:O H 2 true (.ptr j9 3)=some (.agg m.pl.cells):=by rw[h.h9.load];unfold bm.wk bU;rw[aa (by simp[aN.len]),aa rfl];show some (I.agg (adk 2 m.pl.cells))=_;rw[abG (by rw[aN.len];exact sl _)]
 rw[show W 0 (.ae p.cells)=some (.ae p.cells)from rfl];simp only[T,l0,iY,l3];refine S_ aj hT hl hv j (idx:=x) ⟨.dead,rfl⟩ λe H' E=>?_;simp only[bj,abj,abk,T,aR,aL,a_];rw[cS _ _ _ 6 rfl rfl rfl];simp only[T];obtain⟨y,g,l⟩:=h.iX;have c:=E.trans (Z.Ext.push H' (.row (dI p.vars m.pl x).cells));refine k H'.n _ ⟨h.h9.ext c,h.qh.ext c,⟨y,g.ext c,l.frame λt a b q=>q.ext c⟩,h.n9,h.n14⟩ (At.new H' _) λe=>?_;have:=(g.ext E).1;omega
theorem Vk(o:aG.length≤9223372036854775806){pre:List (List Int)}(A:pre.length≤100000){x:List Int}{i:Nat}{H:Z}(h:mw p.vars m aG j9 gK gB pre H)(hi:At H i (.row (dI p.vars m.pl x).cells))(B:i≠gB){a0 a1 b c a8 cO cx cA d f:I}{R:I→I→I→I→I→I→I→I→I→I→I→I→I→I→Z→Prop}{Rr:Z→Prop}
  (r:∀H',mw p.vars m aG j9 gK gB (pre++[x]) H'→R a0 a1 b c a8 (.ptr j9 0) cO cx (.ptr gK 0) cA (.ptr gB 0) d (.ptr i 0) f H') :
  cp (af C) Cb (dt a0 a1 b c a8 (.ptr j9 0) cO cx (.ptr gK 0) cA (.ptr gB 0) d (.ptr i 0) f .bot) H (KA R Rr):=by
 rw[Vi];obtain⟨y,g,s⟩:=h.iX;have j:O H 1 false (.ptr gB 0)=some y:=by rw[g.load];rfl
 have t:O H 1 false (.ptr gK 0)=some (au av aG):=by rw[h.qh.load];rfl
 have li:O H 2 true (.ptr i 0)=some (.agg (av (jO (dI p.vars m.pl x)))):=by rw[hi.load];rfl
 simp only[j,t,iY,li,T];refine Um aj hT aG o (jO (dI p.vars m.pl x)) _ _ ⟨j,?_⟩;rw[show dk H false 2 1 [.int .i64 0,.int .i64 0] [(0,2,.agg (av (kO aG (jO (dI p.vars m.pl x)))))]=some (.ak .full 1 (av (kO aG (jO (dI p.vars m.pl x)))),H)from rfl];simp only[aR];refine s.app (Yt _) (m:=1) (news:=av (kO aG (jO (dI p.vars m.pl x)))) rfl rfl rfl (by decide) (by omega) (by omega) λl u n v=>?_;have k:∀{q:Nat}{cs:List I},At H q (.row cs)→At u q (.row cs):=λw=>v.2 _ _ w (.inr λ_ _=>by intro e;cases e);have a:=k g;obtain⟨tk,z,_⟩:=id n;rw[a.st1 (by show 0<1;decide) (by rw[z];exact⟨rfl,rfl,rfl⟩)];simp only[T];refine r _ ⟨(k h.h9).bZ h.n9 _,(k h.qh).bZ h.n14 _,⟨l,a.set _,?_⟩,h.n9,h.n14⟩;have:=n.S5 a (.row ([y].set 0 l));rw[abC,acs,acB];exact this
end
end Rb

namespace Rb
open Go
theorem h2.piece{C:Ctx}(hF:fM C){w0:World}{G0:aH}{H0:Z}{E E':Env}{H:Z}{G:aH}{a:Act}{w:World}(h:h2 C w0 G0 H0 E H G a w)(e:a.tmps.size=91){f:c6}{c:Code}(hc:b_ C c f=true){P:Z→Prop}{Rr:Z→Prop}{Q:Exit→Act→World→Prop}
  (hk:cp (af C) f E H (KA (λg j k l m n o p q t u y z A H'=>dt g j k l m n o p q t u y z A .bot=E'∧P H') Rr))
  (hQ:∀H' G' a' w',h2 C w0 G0 H0 E' H' G' a' w'→a'.tmps.size=91→P H'→Q .normal a' w')
  (B:∀aA H' G' a' w',h2 C w0 G0 H0 aA H' G' a' w'→a'.tmps.size=91→aA.getD 6 .bot = .ak .nil 0 []→aA.getD 7 .bot = .bool false→Rr H'→Q .ret a' w'):c.wp C.P Q a w:=by
 refine h.run hF hc hk λD ex aA H' G' a' w' he b hs hz=>?_;cases D with
 |exit i=>exact b.elim
 | ret=>cases ex<;>simp only[e_]at he;exact B aA H' G' a' w' hs (hz.trans e) b.1 b.2.1 b.2.2
 | normal=>cases ex<;>simp only[e_]at he;obtain⟨h1,F⟩:=b;have hv:=Kw hs.v (hz.trans e);rw[h1]at hv;exact hQ H' G' a' w' ⟨hs.x,hs.r,hv,hs.d,hs.s⟩ (hz.trans e) F
def cZ(p:cH)(n k:Int):List (Int×Int)×Bool:=
 if k<1∨k>((cD p n).length:Int)then([],false)else match (cD p n)[(k-1).toNat]? with
 |none=>([],false)
 | some m=>if ho m.kind=false then([],false)else match gn (cj p.vars m.pl.var [] m.pl.aB) 1 with
  |none=>([],false)
  | some _=>match eW p.vars (bW 0 p.vars)with
   |none=>([],false)
   |some aG=>((dT (cj p.vars m.pl.var [] m.pl.aB)).map (h3 p.vars m.pl aG),true)
theorem Vl{Φ:ai}{bL:List Int}(hl:bL.length≤9223372036854775806){a0 a1 a b a8 d cB cA cM f cW g:I}{R:I→I→I→I→I→I→I→I→I→I→I→I→I→I→Z→Prop}{Rr:Z→Prop}{H:Z}
  (k:gn bL 1=none→Rr H) (l:∀v,gn bL 1=some v→R a0 a1 a b a8 d (.int .i64 v) (au dj bL) cB cA cM f cW g H) :
  cp Φ B_ (dt a0 a1 a b a8 d (.int .i64 1) (au dj bL) cB cA cM f cW g .bot) H (KA R Rr):=by
 rw[Vg];simp only[cU,T];have main:∀(r:List Int)(i:Nat)(v:Int),bL.drop i=r→gn r v=gn bL 1→aC (xQ a0 a1 a b a8 d (au dj bL) cB cA cM f cW g R Rr (.int .i64 bL.length)) ([.bot,.bot,.int .i64 v,.int .i64 i],H):=by
  intro r;induction r with
  | nil=>intro i v h he;have hle:=er h;refine aC.step ?_;simp only[xQ,aF,c4,bD,T,aD];rw[ee];exact l v (by rw[←he,gn])
  | cons x r m=>
   intro i v h he;obtain⟨o,p,q⟩:=ed h;have s:∀H,O H 1 false (dN dj 1 bL i)=some (.int .i64 x):=λH=>wo (c:=I.int .i64) H p;refine aC.step ?_;simp only[xQ,aF,c4,bD,T,aD];rw[dW,cQ o];simp only[T,s,jF,ej,b4];rw[gn]at he;apply aI<;>intro e
   · have j:V (v*x)>4096:=by simpa using e
     rw[aa j]at he;exact⟨trivial,trivial,k he.symm⟩
   · have j:¬V (v*x)>4096:=by simpa using e
     rw[ab j]at he;rw[wrap_i64 (n:=(i:Int)+1) (by omega) (by omega),cN];exact m (i+1) _ q he
 exact main bL 0 1 rfl rfl
end Rb

namespace Rb
open Go
variable{l:List bm}{k:Nat}
theorem Ch(h:k<l.length):aP none 5 (au bm.wk l) (.int .i64 k)=some (dN bm.wk 5 l k):=cQ h
theorem Vm{m:bm}(H:Z)(h:l[k]?=some m):∃z,W 0 (dN bm.wk 5 l k)=some z∧O H 1 false z=some (.int .i64 m.kind):=by
 have b:=(XV.1 h).1;refine⟨dN bm.wk 5 l k,?_,?_⟩
 ·simp only[dN,W,abt]
 · have a:=dD (cells:=bm.wk) bm.xP (by decide) H h;simp only[dN,O]at a ⊢;unfold bU at a ⊢;split at a
   · rename_i c;simp only[a_,Yb.injEq,I.agg.injEq,abt]at a;rw[cG,eM];have:(adk 5 (List.drop (k*5) (l.flatMap bm.wk)))[0]?=some (.int .i64 m.kind):=by rw[a];rfl
     rw[List.getElem?_take,kG]at this;exact this
   ·cases a
section
variable{C:Ctx}(hF:fM C)(aj:bN C)(hT:Cl (af C) S.bu)(fe:∀x,bB (af C) 96 [.str x] (.bool (dq x)))(hS:nf (af C))
include aj hT fe
theorem Vn{p:cH}{n k:Int}(r : -9223372036854775808≤k∧k≤9223372036854775807){a0 a b cO cx cB cA cM c cW d:I}{R:I→I→I→I→I→I→I→I→I→I→I→I→I→I→Z→Prop}{Rr:Z→Prop}{H:Z}
  (i:cZ p n k=([],false)→Rr H) (j:∀m,1≤k→(cD p n)[(k-1).toNat]?=some m→ho m.kind=true→R a0 (.int .i64 n) (.int .i64 k) a (au bm.wk (cD p n)) b cO cx cB cA cM c cW d H) :
  cp (af C) B9 (dt a0 (.int .i64 n) (.int .i64 k) a (au bm.wk (cD p n)) b cO cx cB cA cM c cW d .bot) H (KA R Rr):=by
 rw[Vf];unfold KI;have f:cZ p n k=([],false)→sK a0 (.int .i64 n) (.int .i64 k) a (au bm.wk (cD p n)) b cO cx cB cA cM c cW d R Rr [.bool true] H:=λh=>by unfold sK;simp only[aF,aD,a_];exact⟨trivial,trivial,i h⟩
 have g:cZ p n k=([],false)→sL (af C) a0 (.int .i64 n) (.int .i64 k) a (au bm.wk (cD p n)) b cO cx cB cA cM c cW d R Rr [.bool true] H:=λh=>by unfold sL;simp only[aF,cv,abU,bR,aT];exact f h
 simp only[bD,ej,cU,T,cv,aT];by_cases h1:k<1
 · rw[ab (by simpa using h1)];exact g (by unfold cZ;rw[aa (.inl h1)])
 · rw [aa (by simpa using h1)];by_cases e:k>((cD p n).length:Int)
   · rw[show decide (k>((cD p n).length:Int))=true by simpa using e];exact g (by unfold cZ;rw[aa (.inr e)])
   · rw [show decide (k>((cD p n).length:Int))=false by simpa using e];unfold sL;simp only[aF,cv,a_,fO,T];have hi:(k-1).toNat<(cD p n).length:=by omega
     obtain⟨m,hm⟩:∃m,(cD p n)[(k-1).toNat]?=some m:=⟨_,YO hi⟩
     rw[bH,show k-1=(((k-1).toNat:Nat):Int) by omega,Ch hi];obtain⟨z,l,o⟩:=Vm H hm;simp only[T,l,o];refine Ul aj hT m.kind _ _ ?_;simp only[ec,T,aT];have q:cZ p n k=if ho m.kind=false then([],false)else match gn (cj p.vars m.pl.var [] m.pl.aB) 1 with
       |none=>([],false)
       | some _=>match eW p.vars (bW 0 p.vars)with
        |none=>([],false)
        |some aG=>((dT (cj p.vars m.pl.var [] m.pl.aB)).map (h3 p.vars m.pl aG),true):=by
      unfold cZ;first|(rw[bw,hm];done)|(rw[bw,hm];rfl)
     cases hw:ho m.kind
     ·exact f (by rw[q,aa hw])
     · unfold sK;simp only[aF,aD,abW,ZP,bR];exact j m (by omega) hm hw
end
end Rb

namespace Rb
open Go
theorem sM{p:cH}{n k:Int}{m:bm}(c:1≤k)(a:(cD p n)[(k-1).toNat]?=some m)(b:ho m.kind=true):cZ p n k=match gn (cj p.vars m.pl.var [] m.pl.aB) 1 with
  |none=>([],false)
  | some _=>match eW p.vars (bW 0 p.vars)with
   |none=>([],false)
   |some aG=>((dT (cj p.vars m.pl.var [] m.pl.aB)).map (h3 p.vars m.pl aG),true):=by
 have hi:=(XV.1 a).1;unfold cZ;rw[bw,a];show(if ho m.kind=false then _ else _)=_;first|(rw[ab (by rw[b];decide)];done)|(rw[ab (by rw[b];decide)];rfl)
section
variable{C:Ctx}(hF:fM C)(aj:bN C)(hT:Cl (af C) S.bu)(fe:∀x,bB (af C) 96 [.str x] (.bool (dq x)))(hS:nf (af C))
include hF aj hT fe hS
theorem Vo{p:cH}(hp:p.ok)(hz:∀t∈p.dd,cn t≤100000000000){n k:Int}(M : -9223372036854775808≤k∧k≤9223372036854775807)
  (N:∀m∈cD p n,ho m.kind=true→m.pl.ok∧m.pl.aB.length≤1000000) (R:cD p n≠[]→fh p.vars)
  {s c1 c2 c3 u c5 w x y z A X Y:Code} (U:b_ C s Kg=true) (h1:b_ C c1 Kh=true) (V:b_ C c2 B9=true) (ab:b_ C c3 Ki=true) (ac:b_ C u Kj=true) (ad:b_ C c5 Kk=true) (af:b_ C w B_=true) (ag:b_ C x Kl=true) (D:b_ C y Km=true) (h9:b_ C z Kn=true) (ah:b_ C A Ko=true)
  {w0:World} {G0:aH} {a:Act} (hs:h2 C w0 G0 Z.mt (dt (.agg p.cells) (.int .i64 n) (.int .i64 k) .bot .bot .bot .bot .bot .bot .bot .bot .bot .bot .bot .bot) Z.mt G0 a w0) (ai:a.tmps.size=91) {Q:Exit→Act→World→Prop}
  (i:∀aA H' G' a' w',h2 C w0 G0 Z.mt aA H' G' a' w'→a'.tmps.size=91→aA.getD 6 .bot = .ak .nil 0 []→aA.getD 7 .bot = .bool false→cZ p n k=([],false)→Q .ret a' w')
  (al:∀m v aG G' a' w',m∈cD p n→ho m.kind=true→gn (cj p.vars m.pl.var [] m.pl.aB) 1=some v→eW p.vars (bW 0 p.vars)=some aG →
    cZ p n k=((dT (cj p.vars m.pl.var [] m.pl.aB)).map (h3 p.vars m.pl aG),true) →
    h2 C w0 G0 Z.mt (dt (.agg p.cells) (.int .i64 n) (.int .i64 k) (.ae p.cells) (au bm.wk (cD p n)) (.ptr 0 0) (.int .i64 v) (au dj (cj p.vars m.pl.var [] m.pl.aB)) (.ptr 1 0) (.int .i64 0) (.ptr 2 0) .bot .bot (.fn 40 [.ae [au dj (cj p.vars m.pl.var [] m.pl.aB)]]) .bot) (((Z.mt.push (.row m.wk)).push (.row [au av aG])).push (.row [.ak .nil 0 []])) G' a' w'→a'.tmps.size=91→X.wp C.P (Exit.then (Y.wp C.P Q) Q) a' w') :
  ac7 C.P (s.seq (c1.seq (c2.seq (c3.seq (u.seq (c5.seq (w.seq (x.seq (y.seq (z.seq ((A.seq X).seq Y))))))))))) Q a w0:=by
 have am:∀H,O H 2 true (.ae p.cells)=some (.agg p.cells):=λ_=>rfl;have E:∀H,O H 1 false (.ae p.cells)=some (au B.cells p.vars):=λ_=>rfl;have F:W 0 (.ae p.cells)=some (.ae p.cells):=rfl;refine wp_seq ?_;refine hs.piece hF ai U (E':=dt (.agg p.cells) (.int .i64 n) (.int .i64 k) (.ae p.cells) .bot .bot .bot .bot .bot .bot .bot .bot .bot .bot .bot) (P:=λH'=>H'=Z.mt) (Rr:=λ_=>False) ?_ ?_ λ_ _ _ _ _ _ _ _ _ h=>h.elim
 · rw[U7,show aO Z.mt false 2 (.agg p.cells)=some (.ae p.cells,Z.mt) by unfold aO;rw[aa ⟨rfl,rfl⟩];rfl];simp only[aR];exact⟨trivial,trivial⟩
 rintro H1 aQ a1 w1 s1 an rfl;refine wp_seq ?_;refine s1.piece hF an h1 (E':=dt (.agg p.cells) (.int .i64 n) (.int .i64 k) (.ae p.cells) (au bm.wk (cD p n)) .bot .bot .bot .bot .bot .bot .bot .bot .bot .bot) (P:=λH'=>H'=Z.mt) (Rr:=λ_=>False) ?_ ?_ λ_ _ _ _ _ _ _ _ _ h=>h.elim
 · rw[U8];simp only[am,T];exact KG aj hT fe hp hz n _ _ ⟨rfl,rfl⟩
 rintro H2 aS a2 w2 s2 z2 rfl;refine wp_seq ?_;refine s2.piece hF z2 V (E':=dt (.agg p.cells) (.int .i64 n) (.int .i64 k) (.ae p.cells) (au bm.wk (cD p n)) .bot .bot .bot .bot .bot .bot .bot .bot .bot .bot) (P:=λH'=>H'=Z.mt∧∃m,1≤k∧(cD p n)[(k-1).toNat]?=some m∧ho m.kind=true) (Rr:=λ_=>cZ p n k=([],false)) ?_ ?_ i
 ·exact Vn aj hT fe M (λh=>h) λm j b d=>⟨rfl,rfl,m,j,b,d⟩
 rintro aT aU a3 w3 ao z3 ⟨rfl,m,j,b,d⟩;have f:=aaH b;obtain⟨ap,G⟩:=N m f d;have q:=R λe=>by rw[e]at f;cases f
 have c:=sM j b d;have aq:=(XV.1 b).1;refine wp_seq ?_;refine ao.piece hF z3 ab (E':=dt (.agg p.cells) (.int .i64 n) (.int .i64 k) (.ae p.cells) (au bm.wk (cD p n)) (.ptr 0 0) .bot .bot .bot .bot .bot .bot .bot .bot .bot) (P:=λH'=>H'=Z.mt.push (.row m.wk)) (Rr:=λ_=>False) ?_ ?_ λ_ _ _ _ _ _ _ _ _ h=>h.elim
 · rw[U9];simp only[fO,T];rw[bH,show k-1=(((k-1).toNat:Nat):Int) by omega,Ch aq];simp only[T];rw[dD bm.xP (by decide) _ b];simp only[T,aR,aL,a_];rw[cS _ _ _ 5 m.xP m.U6 rfl];simp only[T];exact⟨rfl,trivial⟩
 rintro aV aW a4 aX ar z4 rfl;refine wp_seq ?_;refine ar.piece hF z4 ac (E':=dt (.agg p.cells) (.int .i64 n) (.int .i64 k) (.ae p.cells) (au bm.wk (cD p n)) (.ptr 0 0) (.int .i64 1) .bot .bot .bot .bot .bot .bot .bot .bot) (P:=λH'=>H'=Z.mt.push (.row m.wk)) (Rr:=λ_=>False) ?_ ?_ λ_ _ _ _ _ _ _ _ _ h=>h.elim
 · rw[U_];exact⟨rfl,rfl⟩
 rintro aY aZ a5 a0 aw z5 rfl;have ax:At (Z.mt.push (.row m.wk)) 0 (.row m.wk):=At.new Z.mt _;refine wp_seq ?_;refine aw.piece hF z5 ad (E':=dt (.agg p.cells) (.int .i64 n) (.int .i64 k) (.ae p.cells) (au bm.wk (cD p n)) (.ptr 0 0) (.int .i64 1) (au dj (cj p.vars m.pl.var [] m.pl.aB)) .bot .bot .bot .bot .bot .bot .bot) (P:=λH'=>H'=Z.mt.push (.row m.wk)) (Rr:=λ_=>False) ?_ ?_ λ_ _ _ _ _ _ _ _ _ h=>h.elim
 · rw [Va];have l3:O (Z.mt.push (.row m.wk)) 2 true (.ptr 0 3)=some (.agg m.pl.cells):=by
    rw[ax.load];unfold bm.wk bU;rw[aa (by simp[aN.len]),aa rfl];show some (I.agg (adk 2 m.pl.cells))=_;rw[abG (by rw[aN.len];exact sl _)]
   simp only[F,E,iY,l3,T];exact Up aj hT (by have:=q.l;omega) q.o ap G _ _ ⟨rfl,rfl⟩
 rintro ba bb a6 bc ay az rfl;have hlen:(cj p.vars m.pl.var [] m.pl.aB).length≤1000000:=xl (B4 _ _ _ _) G;refine wp_seq ?_;refine ay.piece hF az af (E':=dt (.agg p.cells) (.int .i64 n) (.int .i64 k) (.ae p.cells) (au bm.wk (cD p n)) (.ptr 0 0) (.int .i64 ((gn (cj p.vars m.pl.var [] m.pl.aB) 1).getD 0)) (au dj (cj p.vars m.pl.var [] m.pl.aB)) .bot .bot .bot .bot .bot .bot .bot) (P:=λH'=>H'=Z.mt.push (.row m.wk)∧gn (cj p.vars m.pl.var [] m.pl.aB) 1=some ((gn (cj p.vars m.pl.var [] m.pl.aB) 1).getD 0)) (Rr:=λ_=>cZ p n k=([],false)) ?_ ?_ i
 · refine Vl (by omega) (λh=>by rw[c,h]) λv hv=>⟨?_,rfl,?_⟩
   ·rw[hv];rfl
   ·rw[hv];rfl
 rintro bd be a7 bf J aC ⟨rfl,hv⟩;generalize (gn (cj p.vars m.pl.var [] m.pl.aB) 1).getD 0=v at hv J;refine wp_seq ?_;refine J.piece hF aC ag (E':=dt (.agg p.cells) (.int .i64 n) (.int .i64 k) (.ae p.cells) (au bm.wk (cD p n)) (.ptr 0 0) (.int .i64 v) (au dj (cj p.vars m.pl.var [] m.pl.aB)) (.ptr 1 0) (.int .i64 (h0 p.vars (bW 0 p.vars) []).2) .bot .bot .bot .bot .bot) (P:=λH'=>H'=(Z.mt.push (.row m.wk)).push (.row [au av (h0 p.vars (bW 0 p.vars) []).1])) (Rr:=λ_=>False) ?_ ?_ λ_ _ _ _ _ _ _ _ _ h=>h.elim
 · rw[Vb];simp only[F,E,T];refine J4 aj hT hS q _ _ ?_;simp only[bj,abj,abk,T,aR,aL,a_];have K:=(At.new (Z.mt.push (.row m.wk)) (.row [.ak .nil 0 []])).st1 (k:=0) (v:=au av (h0 p.vars (bW 0 p.vars) []).1) (by show 0<1;decide) ⟨rfl,rfl,rfl⟩;rw[Z.Hz]at K;rw[K];simp only[T];exact⟨rfl,rfl⟩
 rintro bg bh a8 bi r L rfl;refine wp_seq ?_;rcases B1 p.vars (bW 0 p.vars) []with⟨aG,e1,g⟩|⟨e1,g⟩
 case inr=>refine r.piece hF L D (E':=[]) (P:=λ_=>False) (Rr:=λ_=>cZ p n k=([],false)) ?_ (λ_ _ _ _ _ _ h=>h.elim) i;rw[KH];simp only[d_,T,aD];rw[aa (by simpa using g)];exact⟨trivial,trivial,by rw[c,hv];dsimp only;rw[e1]⟩
 rw[acx]at g;rw[g]at r;rw[hv]at c;dsimp only at c;rw[e1]at c;refine r.piece hF L D (E':=dt (.agg p.cells) (.int .i64 n) (.int .i64 k) (.ae p.cells) (au bm.wk (cD p n)) (.ptr 0 0) (.int .i64 v) (au dj (cj p.vars m.pl.var [] m.pl.aB)) (.ptr 1 0) (.int .i64 0) .bot .bot .bot .bot .bot) (P:=λH'=>H'=(Z.mt.push (.row m.wk)).push (.row [au av aG])) (Rr:=λ_=>False) ?_ ?_ λ_ _ _ _ _ _ _ _ _ h=>h.elim
 · rw[KH];simp only[d_,T,aD];rw[eM];first|exact⟨trivial,trivial⟩|exact⟨rfl,trivial⟩|exact⟨trivial,rfl⟩
 rintro bk bl a9 bn aE z9 rfl;refine wp_seq ?_;refine aE.piece hF z9 h9 (E':=dt (.agg p.cells) (.int .i64 n) (.int .i64 k) (.ae p.cells) (au bm.wk (cD p n)) (.ptr 0 0) (.int .i64 v) (au dj (cj p.vars m.pl.var [] m.pl.aB)) (.ptr 1 0) (.int .i64 0) (.ptr 2 0) .bot .bot .bot .bot) (P:=λH'=>H'=((Z.mt.push (.row m.wk)).push (.row [au av aG])).push (.row [.ak .nil 0 []])) (Rr:=λ_=>False) ?_ ?_ λ_ _ _ _ _ _ _ _ _ h=>h.elim
 · rw[Vd];simp only[aR,aL,a_];first|exact⟨trivial,trivial⟩|exact⟨rfl,trivial⟩|exact⟨trivial,rfl⟩
 rintro bo bp cO bq aF aI rfl;refine wp_seq ?_;refine wp_seq ?_;refine aF.piece hF aI ah (E':=dt (.agg p.cells) (.int .i64 n) (.int .i64 k) (.ae p.cells) (au bm.wk (cD p n)) (.ptr 0 0) (.int .i64 v) (au dj (cj p.vars m.pl.var [] m.pl.aB)) (.ptr 1 0) (.int .i64 0) (.ptr 2 0) .bot .bot (.fn 40 [.ae [au dj (cj p.vars m.pl.var [] m.pl.aB)]]) .bot) (P:=λH'=>H'=((Z.mt.push (.row m.wk)).push (.row [au av aG])).push (.row [.ak .nil 0 []])) (Rr:=λ_=>False) ?_ ?_ λ_ _ _ _ _ _ _ _ _ h=>h.elim
 · rw[Ve];refine S.O2 hT ?_;unfold S.f18;rw[show ∀H,aO H false 1 (au dj (cj p.vars m.pl.var [] m.pl.aB))=some (.ae [au dj (cj p.vars m.pl.var [] m.pl.aB)],H)from λ_=>rfl];simp only[aR];first|exact⟨trivial,trivial⟩|exact⟨rfl,trivial⟩|exact⟨trivial,rfl⟩
 rintro br aJ cx aK aM aP rfl;exact al m v aG aJ cx aK f d hv e1 c aM aP
end
end Rb

namespace Rb
open Go
def aH.jw(G:aH)(fz:Nat→Nat→Prop):aH:={G with fz:=λb o=>G.fz b o∨fz b o}
theorem Rel.jw{C:Ctx}{w:World}{G:aH}{H:Z}(e:ct C w G H)(a:Rel C.F w G H){fz:Nat→Nat→Prop}(f:∀b o,fz b o→∃U,w.cell? ⟨b,o,none⟩=some U)(g:∀b o,fz b o→∀i,(H.o i).live=true→G.loc i≠b) :
  ct C w (G.jw fz) H∧Rel C.F w (G.jw fz) H∧GLe w G w (G.jw fz):=by
 have d:GLe w G w (G.jw fz):=⟨sl _,λ_ _=>rfl,λ_ _=>rfl,λ_ _ h=> .inl h,λ_ _ _ _ h=>h⟩
 refine⟨⟨e.1.mono d,e.2⟩,⟨a.n,a.over,λj=>(a.obj j).aJ d (λhl=>a.gx hl) (λ_=>rfl) λhl o c=>?_,a.eZ,λb o hf=>?_⟩,d⟩
 · rcases c with c|c
   ·exact c
   ·exact absurd rfl (g _ _ c j hl)
 · rcases hf with hf|hf
   ·exact a.ea b o hf
   ·exact f b o hf
end Rb

namespace Rb
open Go
theorem Vp(n:Int)(r:List Int):(dT (n::r)).length=n.toNat*(dT r).length:=by rw[dT,List.length_flatMap];simp only[aat];rw[List.map_const',List.sum_replicate_nat,List.length_range]
theorem Ci:∀(l:List Int)(a v:Int),(∀n∈l,1≤n∧n≤65536)→1≤a→a≤4096→gn l a=some v→a.toNat*(dT l).length=v.toNat∧1≤v∧v≤4096
 | [],a,v,_,h1,b,h=>by rw[gn]at h;cases h;exact⟨by simp[dT],h1,b⟩
 | n :: r,a,v,hl,h1,b,h=>by
  obtain⟨n1,n2⟩:=hl n (aaj ..);have d:a*n≤4096*n:=adl b (by omega);have p0:1*n≤a*n:=adl h1 (by omega);have hw:V (a*n)=a*n:=bH;rw[gn,hw]at h;by_cases hb:a*n>4096
  ·rw[aa hb]at h;cases h
  · rw[ab hb]at h;obtain⟨e,r1,c⟩:=Ci r (a*n) v (λm hm=>hl m (aai _ hm)) (by omega) (by omega) h;refine⟨?_,r1,c⟩;rw[Vp,←e,Int.toNat_mul (by omega) (by omega),Nat.mul_assoc]
end Rb

namespace Rb
open Go
theorem Vq{C:Ctx}(hF:fM C){ds:List Deferred}{id:Nat}{ops:Array Oper}{al:List bz}{b:Env}{H:Z}{G:aH}{w:World}{a:Act}{K:Env→Z→Prop}{Q:Exit→Act→World→Prop}(c:b_ C (.region id ops false) (.region al)=true)(h:cp (af C) (.region al) b H (λd e H=>d = .normal∧K e H))(hG:ct C w G H)(f:Rel C.F w G H)(g:aK C.F w G b a.tmps)(i:a.defers=ds)
  (hQ:∀aA H' G' a' w',K aA H'→ct C w' G' H'→Rel C.F w' G' H'→aK C.F w' G' aA a'.tmps→a'.defers=ds→Step w G H w' G' H'→a'.tmps.size=a.tmps.size→Q .normal a' w'):(ac8 id ops false).wp C.P Q a w:=by
 simp only[b_]at c;refine wp_region_list ?_;exact tx (az:=gz al) (a0:=a) (w0:=w) (G0:=G) (H0:=H) (Q:=Q) (K:=λe H=>fj.normal = .normal∧K e H) hF ops.toList al b H G w a c h hG f g i (Step.refl _ _ _) (c_.refl _ _) (λ_ ht=>ht)
  (λaA H' G' a' w' j k l m n o p=>hQ aA H' G' a' w' j.2 k l m n o p.1)
end Rb

namespace Rb
open Go Go.RowKit
variable{G:aH}{H:Z}{l:Nat}{w A B:World}{o:Obj}{F:cz}
def sN(o:Obj):Prop:=(∃x,o = .loop x)∨∃x,o = .deferred x
theorem xR{i:Nat}{x:bM}(h:eY F w G i x)(hl:x.live=true)(f:w.heap[l]?=some o)(g:sN o):G.loc i≠l:=by
 intro e;have key:∀a,w.heap[G.loc i]?=some a→sN a:=λa d=>by rw[e,f]at d;cases d;exact g
 have fin:∀{a:Obj},sN a→(∀x,a ≠ .loop x)→(∀x,a ≠ .deferred x)→False:=λh h1 j=>by
  rcases h with⟨x,e⟩|⟨x,e⟩
  ·exact h1 _ e
  ·exact j _ e
 cases x with
 |gone=>cases hl
 |row cs=>obtain⟨C,e,hc,_⟩:=h;exact fin (key _ hc) (λ_ h=>by cases h) λ_ h=>by cases h
 |tok n sz=>obtain⟨C,e,hc,_⟩:=h;exact fin (key _ hc) (λ_ h=>by cases h) λ_ h=>by cases h
 |map es=>obtain⟨E,c,hc,_⟩:=h;exact fin (key _ hc) (λ_ h=>by cases h) λ_ h=>by cases h
 |fU s pos=>exact fin (key _ h.1) (λ_ h=>by cases h) λ_ h=>by cases h
 |h4 T u b=>obtain⟨v,hc,_⟩:=h;exact fin (key _ hc) (λ_ h=>by cases h) λ_ h=>by cases h
 |kn U bs=>obtain⟨C,z,hc,_⟩:=h;exact fin (key _ hc) (λ_ h=>by cases h) λ_ h=>by cases h
theorem KJ(b:Rel F w G H)(c:w.heap[l]?=some o)(d:sN o):∀k,¬G.fz l k:=by intro k hf;obtain⟨V,a⟩:=b.ea l k hf;unfold World.cell? at a;rw[c]at a;rcases d with⟨x,rfl⟩|⟨x,rfl⟩<;>cases a
theorem xS{C:Ctx}{b:Nat}(d:ct C A G H)(c:Rel C.F A G H)(f:∀k,k<A.heap.size→k≠b→B.heap[k]?=A.heap[k]?)(hb:∀i,(H.o i).live=true→G.loc i≠b)(hz:∀o,¬G.fz b o):ct C B G H∧Rel C.F B G H∧GLe A G B G:=by
 have p:∀a o V,G.fz a o→A.cell? ⟨a,o,none⟩=some V→B.cell? ⟨a,o,none⟩=some V:=λa o V hf hc=>by rw[YD (w:=A) (f a (YE A _ hc) λe=>hz o (by rw[←e];exact hf))];exact hc
 have m:GLe A G B G:=⟨sl _,λ_ _=>rfl,λ_ _=>rfl,λ_ _ h=>h,p⟩
 refine⟨⟨d.1.mono m,λg l hl q=>?_⟩,⟨c.n,c.over,λj=>(c.obj j).aJ m (λhl=>c.gx hl) (λhl=>f _ ((c.obj j).lt hl) (hb j hl)) λ_ _ s=>s,c.eZ,λa o hf=>?_⟩,m⟩
 · obtain ⟨⟨cs,t,fr,h1,u⟩,v⟩:=d.2 g l hl q;refine⟨⟨cs,t,fr,?_,u⟩,v⟩;have hv:=d.1 g l hl;cases hv with
   | ae cells a o Vs y hv=>
    obtain ⟨x,r,rfl⟩:∃x r,l=x::r:=by cases l with
     |nil=>exact absurd rfl q
     |cons x r=>exact⟨x,r,rfl⟩
    have:=(y 0 x rfl).1;rw[f g (YF.1 h1).1 λe=>hz _ (by rw[←e];exact this)];exact h1
 · obtain⟨V,z⟩:=c.ea a o hf;exact⟨V,p a o V hf z⟩
theorem xT{w0 A B:World}{G0 G:aH}{H0 H:Z}{b:Nat}(hs:Step w0 G0 H0 A G H)(a:GLe A G B G)(c:A.heap.size≤B.heap.size)(d:B.os=A.os)(ht:B.tape=A.tape)(e:B.output=A.output)(f:A.drawn≤B.drawn)(g:∀k,k<A.heap.size→k≠b→B.heap[k]?=A.heap[k]?)(hb:w0.heap.size≤b):Step w0 G0 H0 B G H:=
 { hs.toGLe.trans a with
   size:=xl hs.size c
   os:=d.trans hs.os
   tape:=ht.trans hs.tape
   output:=e.trans hs.output
   dr:=xl hs.dr f
   c9:=λk hk hn=>(g k (AH hk hs.size) (by omega)).trans (hs.c9 k hk hn)
   owned:=hs.owned
   ez:=hs.ez}
theorem Vr{w0 A:World}{G0 G:aH}{H0 H:Z}{fz:Nat→Nat→Prop}(hs:Step w0 G0 H0 A G H)(hf:∀b o,fz b o→G0.fz b o∨w0.heap.size≤b):Step w0 G0 H0 A (G.jw fz) H:=
 { hs with
   fz:=λb o h=> .inl (hs.fz b o h)
   ez:=λb o h=>by
    rcases h with h|h
    ·exact hs.ez b o h
    · rcases hf b o h with h|h
      ·exact .inl h
      ·exact .inr (.inl h)}
structure jP(C:Ctx)(p:cH)(m:bm)(aG:List (Int×Int))(w0:World)(G0:aH)(H0:Z)(E:Env)(T:Array Value)(N b:Nat)(pre:List (List Int))(W:World):Prop where
 ex:∃G H,ct C W G H∧Rel C.F W G H∧mw p.vars m aG 0 1 2 pre H∧aK C.F W G E T∧Step w0 G0 H0 W G H∧(∀i,(H.o i).live=true→G.loc i≠b∧G.loc i<N)∧∀o,¬G.fz b o
 hb:w0.heap.size≤b
 hN:b<N
section
variable{C:Ctx}{p:cH}{m:bm}{aG:List (Int×Int)}{w0:World}{G0:aH}{H0:Z}{E:Env}{T:Array Value}{N b:Nat}{pre:List (List Int)}{W:World}
theorem jP.put(h:jP C p m aG w0 G0 H0 E T N b pre W)(c:Obj)(hB:w0.heap.size≤l)(hl:W.heap[l]?=some o)(d:sN o):jP C p m aG w0 G0 H0 E T N b pre (W.putObj l c):=by obtain⟨⟨G,H,h1,a,e,f,g,j,n⟩,hb,hN⟩:=h;have hblk:∀k,k<W.heap.size→k≠l→(W.putObj l c).heap[k]?=W.heap[k]?:=λk _ q=>ac2 q;obtain⟨g1,g2,g3⟩:=xS h1 a hblk (λi hi=>xR (a.obj i) hi hl d) (KJ a hl d);exact⟨⟨G,H,g1,g2,e,f.mono g3,xT g g3 (by simp) rfl rfl rfl (sl _) hblk hB,j,n⟩,hb,hN⟩
theorem jP.turn(h:jP C p m aG w0 G0 H0 E T N b pre W){W':World}(ht:mr b W W'):jP C p m aG w0 G0 H0 E T N b pre W':=by obtain⟨⟨G,H,h1,d,f,g,j,a,c⟩,hb,hN⟩:=h;have hblk:∀k,k<W.heap.size→k≠b→W'.heap[k]?=W.heap[k]?:=λk hk l=>ht.1.1.block k hk λe=>l (by cases e;rfl);obtain⟨g1,g2,g3⟩:=xS h1 d hblk (λi hi=>(a i hi).1) c;exact⟨⟨G,H,g1,g2,f,g.mono g3,xT j g3 ht.1.1.size ht.1.1.os ht.1.1.tape ht.1.1.output ht.2 hblk hb,a,c⟩,hb,hN⟩
theorem jP.start(f:ct C w0 G0 H0)(c:Rel C.F w0 G0 H0)(g:mw p.vars m aG 0 1 2 [] H0)(h:aK C.F w0 G0 E T)(a:Below w0.heap.size w0 W)(j:w0.drawn≤W.drawn)(hb:w0.heap.size≤b)(l:b<W.heap.size):jP C p m aG w0 G0 H0 E T W.heap.size b [] W:=by
 have hblk:∀k,k<w0.heap.size→k≠b→W.heap[k]?=w0.heap[k]?:=λk hk _=>a.block k hk;have d:∀i,(H0.o i).live=true→G0.loc i<w0.heap.size:=λi hi=>(c.obj i).lt hi;have hz:∀o,¬G0.fz b o:=λo hf=>by obtain⟨V,n⟩:=c.ea b o hf;have:b<w0.heap.size:=YE w0 _ n;omega
 obtain⟨g1,g2,g3⟩:=xS f c hblk (λi hi e=>by have:=d i hi;omega) hz;have q:=a.size;exact⟨⟨G0,H0,g1,g2,g,h.mono g3,xT (Step.refl _ _ _) g3 a.size a.os a.tape a.output j hblk hb,λi hi=>by have:=d i hi;omega,hz⟩,hb,l⟩
end
theorem h2.KK{C:Ctx}(hF:fM C){n l:Nat}{w0:World}{G0:aH}{H0:Z}{E:Env}{a:Act}(h:h2 C w0 G0 H0 E H G a w)(f:a.tmps.size=91){b:c6}{c:Code}(hc:b_ C c b=true)(g:qn c)(j:∀t x,b ≠ .freeze t x){E':Nat→Env}{P:Nat→Z→Prop}{Q:Exit→Act→World→Prop}(k:¬LetsOut Q)
  (hk:cp (af C) b E H (KA (λm o p q u y z A B D F I J K H'=>∃i,dt m o p q u y z A B D F I J K .bot=E' i∧P i H') λ_=>False))
  (hQ:∀i H' G' a' w',h2 C w0 G0 H0 (E' i) H' G' a' w'→a'.tmps.size=91→P i H'→Q .normal a' w'):c.wpIn (ac3.inRound l) n C.P Q a w:=by
 refine h.runIn hF hc hk g k j λL ex aA H' G' a' w' he e hs hz=>?_;cases L with
 |exit i=>exact e.elim
 |ret=>exact e.2.2.elim
 | normal=>cases ex<;>simp only[e_]at he;obtain⟨i,h1,M⟩:=e;have hv:=Kw hs.v (hz.trans f);rw[h1]at hv;exact hQ i H' G' a' w' ⟨hs.x,hs.r,hv,hs.d,hs.s⟩ (hz.trans f) M
section
variable{C:Ctx}(hF:fM C)(aj:bN C)(hT:Cl (af C) S.bu)
include hF aj hT
theorem jP.round{p:cH}{m:bm}{aG:List (Int×Int)}{w0:World}{G0:aH}{H0:Z}{a c d f g q t u:I}{T:Array Value}{N b:Nat}{pre:List (List Int)}{W:World}
  (U:∀i,(H0.o i).live=true→∃cs,H0.o i = .row cs) (M:Rel C.F w0 G0 H0)
  (h:jP C p m aG w0 G0 H0 (dt a c d (.ae p.cells) f (.ptr 0 0) g q (.ptr 1 0) t (.ptr 2 0) .bot .bot u .bot) T N b pre W) (X:T.size=91) (z:b<W.heap.size) {x:List Int} {V:Value} (ha:oy C.F G0.fz N W x #[V])
  (hl:p.vars.length≤1000000) (hv:∀v∈p.vars,v.ok) (Y:m.pl.ok) (aa:aG.length≤9223372036854775806) (ab:pre.length≤100000)
  {c1 c2:Code} (k1:b_ C c1 Ca=true) (k2:b_ C c2 Cb=true) (d1:qn c1) (d2:qn c2) {S:Nat→Prop} (hS:∀k,S k→∃o,G0.fz k o) {n l:Nat} :
  (Code.block 3 (c1.seq c2)).wpIn (ac3.inRound l) n C.P (λe _ W'=>e = .normal∧Kc W W'∧gO b W W'∧eF S W W'∧∃N',N'≤W'.heap.size ∧
    jP C p m aG w0 G0 H0 (dt a c d (.ae p.cells) f (.ptr 0 0) g q (.ptr 1 0) t (.ptr 2 0) .bot .bot u .bot) T N' b (pre++[x]) W') ⟨(T.setIfInBounds 73 V).setIfInBounds 17 V,[]⟩ W:=by
 obtain⟨⟨G,H,h1,O,ac,Q,A,w,ad⟩,hb,hN⟩:=h;obtain⟨ax,fz,e,y,af⟩:=ha;cases e;have B:∀k o,G0.fz k o→k<w0.heap.size:=λk o hf=>by obtain⟨V,ag⟩:=M.ea k o hf;exact YE w0 _ ag
 have R:∀k o,G0.fz k o→∀i,(H.o i).live=true→G.loc i≠k:=by intro k o hf i hi e;obtain⟨j,D,E⟩:=A.owned i hi (by rw[e];exact B k o hf);obtain⟨cs,ah⟩:=U j D;have:=M.obj j;rw[ah]at this;obtain⟨_,_,_,_,ai,_⟩:=this;exact ai o (by rw[E,e];exact hf)
 have al:∀k o,fz k o→∀i,(H.o i).live=true→G.loc i≠k:=by
  intro k o hf i hi e;rcases(y k o hf).1 with h|h
  ·exact R k o h i hi e
  ·have:=(w i hi).2;omega
 obtain⟨g1,g2,g3⟩:=Rel.jw h1 O (λk o hf=>(y k o hf).2) al;have am:∀o,¬(G.jw fz).fz b o:=by
  intro o hf;rcases hf with hf|hf
  ·exact ad o hf
  · rcases(y b o hf).1 with h|h
    ·have:=B b o h;omega
    ·omega
 have an:Step w0 G0 H0 W (G.jw fz) H:=Vr A λk o hf=>by
  rcases(y k o hf).1 with h|h
  ·exact .inl h
  ·exact .inr (by omega)
 have ao:aK C.F W (G.jw fz) (dt a c d (.ae p.cells) f (.ptr 0 0) g q (.ptr 1 0) t (.ptr 2 0) (.ak .dead x.length (x.map dz)) .bot u .bot) ((T.setIfInBounds 73 V).setIfInBounds 17 V):=by
  have ap:VR C.F W (G.jw fz) (.ak .dead x.length (x.map dz)) V:=la (G:=aH.mt fz) (G':=G.jw fz) (λ_ _ h=> .inr h) (λ_ _ _ _ h=>h) (by
    have:∀l:List Int,I.bA (l.map dz)=true:=by
     intro l;induction l with
     |nil=>rfl
     |cons x r aq=>simp[I.bA,I.bb,dz,aq]
    simp[I.bb,this,Tok.free]) af
  exact((Q.mono g3).set 73 (.bot V)).set 17 ap
 have ar:h2 C W (G.jw fz) H (dt a c d (.ae p.cells) f (.ptr 0 0) g q (.ptr 1 0) t (.ptr 2 0) (.ak .dead x.length (x.map dz)) .bot u .bot) H (G.jw fz) ⟨(T.setIfInBounds 73 V).setIfInBounds 17 V,[]⟩ W:=⟨g1,g2,ao,rfl,Step.refl _ _ _⟩
 refine wpIn_block (wpIn_seq ?_);refine ar.KK hF (by simpa using X) k1 d1 (λ_ _ h=>by cases h) (E':=λi=>dt a c d (.ae p.cells) f (.ptr 0 0) g q (.ptr 1 0) t (.ptr 2 0) (.ak .dead x.length (x.map dz)) (.ptr i 0) u .bot) (P:=λi H'=>mw p.vars m aG 0 1 2 pre H'∧At H' i (.row (dI p.vars m.pl x).cells)∧i≠2) (by rintro⟨_,_,h,_⟩;cases h) ?_ ?_
 ·exact Vj aj hT hl hv Y ac λi H' J K L=>⟨i,rfl,J,K,L⟩
 rintro i H1 ay a1 w1 s1 au ⟨J,K,L⟩;refine s1.KK hF au k2 d2 (λ_ _ h=>by cases h) (E':=λ_=>dt a c d (.ae p.cells) f (.ptr 0 0) g q (.ptr 1 0) t (.ptr 2 0) (.ak .dead x.length (x.map dz)) (.ptr i 0) u .bot) (P:=λ_ H'=>mw p.vars m aG 0 1 2 (pre++[x]) H') (by rintro⟨_,_,h,_⟩;cases h) ?_ ?_
 ·exact Vk aj hT aa ab J K L λH' r1=>⟨0,rfl,r1⟩
 rintro _ H2 av a2 w2 s2 z2 r1;have iP:=s2.s;refine⟨rfl,λk o hk aw=>?_,⟨iP.size,?_⟩,⟨iP.size,λk hk=>?_⟩,w2.heap.size,sl _,⟨av,H2,s2.x,s2.r,r1,?_,an.trans iP,λi hi=>⟨λe=>?_,(s2.r.obj i).lt hi⟩,λo hf=>?_⟩,hb,AH z iP.size⟩
 ·exact(iP.c9 k (YF.1 hk).1 λi hi=>(show G.loc i≠k from xR (O.obj i) hi hk aw)).trans hk
 ·exact iP.c9 b z λi hi=>(w i hi).1
 · obtain⟨o,hf⟩:=hS k hk;exact iP.c9 k (AH (B k o hf) A.size) (R k o hf)
 ·exact(Q.mono g3).mono iP.toGLe
 · obtain⟨j,D,E⟩:=iP.owned i hi (by rw[e];exact z);exact(w j D).1 (E.trans e)
 · rcases iP.ez b o hf with h|h|⟨i,hi,e⟩
   ·exact am o h
   ·omega
   ·exact(w i hi).1 e
end
end Rb
