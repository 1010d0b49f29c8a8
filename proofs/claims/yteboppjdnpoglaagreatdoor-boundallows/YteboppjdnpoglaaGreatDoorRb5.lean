/- A part of the proof (part 5): see the last text. -/
import Derived.Test.YteboppjdnpoglaaGreatDoorRb4
import Derived.Test.YteboppjdnpoglaaGreatDoorRb3
set_option linter.unusedVariables false
set_option linter.unusedSimpArgs false
set_option linter.unusedSectionVars false
open Bool renaming and_eq_true→aar, and_false→aeG, and_true→aea, eq_iff_iff→acm, false_and→adQ, false_eq_true→abW, false_or→acq, or_eq_true→aas, true_and→adP
open Decidable renaming not_not→adJ
open Go.IntKind renaming wrap→abu
open Int renaming le_refl→adR, lt_trichotomy→aeA, mul_add→ad4, mul_comm→adX, mul_le_mul_of_nonneg_left→aeP, mul_nonneg→ad5, mul_one→aeQ, toNat_natCast→aeq
open List renaming any_cons→adM, append_assoc→aeo, append_nil→adv, contains_iff_mem→aef, drop_eq_getElem_cons→adn, drop_eq_nil_of_le→aeC, drop_succ_cons→adj, drop_zero→adf, eq_nil_of_length_eq_zero→aeB, ext_getElem?→aew, findIdx?_eq_some_iff_getElem→aey, flatMap_append→aeD, flatMap_cons→ac0, flatMap_singleton→aeJ, getElem?_cons_succ→ac6, getElem?_cons_zero→ac5, getElem?_eq_getElem→abb, getElem?_eq_some_iff→aal, getElem?_map→aba, getElem?_set→aaN, getElem?_take→aan, length_append→adm, length_cons→adN, length_drop→adx, length_eq_zero_iff→abF, length_map→abI, length_replicate→aeF, length_set→acn, length_singleton→ad9, length_take→adI, map_append→aed, map_take→aeu, mem_append_left→aeM, mem_append_right→aeL, mem_append→acf, mem_cons_of_mem→acp, mem_cons_self→acs, mem_cons→aco, mem_flatMap→aeN, mem_map→acF, mem_of_getElem?→adq, mem_range'_1→aeO, mem_singleton→aeH, replicate_succ→abn, replicate→KT, take_add_one→adw, take_append_drop→aeE, take_append_of_le_length→ado, take_length→adg, take_of_length_le→adp, take_take→aex
open List.Sublist renaming nodup→aev
open Nat renaming add_mul→aaV, add_zero→aaY, le_of_lt→aee, le_refl→hb, le_succ→aa2, le_trans→sl, lt_irrefl→aeI, lt_of_lt_of_le→xl, lt_succ_self→acR, min_eq_left→aec, mul_le_mul_right→aby, one_mul→adk, one_pos→aeR, strongRecOn→aeK, zero_add→aa8, zero_le→aaU
open Option renaming map_none→aeb, some→aaC
open Prod renaming ext→aez, fst→ac2, snd→aeS
open Bool renaming false→acJ, true→acI
open Option renaming none→acL, some→acK
namespace Rb
open Go
theorem drop_cons{α:Type}{l:List α}{u:Nat}{g:α}(h:l[u]?=acK g):l.drop u=g::l.drop (u+1):=by obtain⟨hu,he⟩:=aal.1 h;rw[adn hu,he]
theorem yW(vars:List aB)(L:List (List UInt8)):∀{l:List E},iv vars L l↔∀e∈l,vE vars L e
 |[]=>by simp[iv]
 |e::r=>by simp[iv,yW vars L (l:=r)]
theorem LB(vars:List aB)(L:List (List UInt8)):∀{l:List aI},l9 vars L l↔∀p∈l,∀e∈p.aS,vE vars L e
 |[]=>by simp[l9]
 |p::r=>by simp[l9,Vr,yW,LB vars L (l:=r)]
theorem oz{e:E}(h:fp e=acI):1<=e.kind/\e.kind<=8/\(e.kind<=3->e.place.ax=[])/\(e.br.length:Int)=(hh e.kind).1/\(e.kind=3->1<=e.op/\e.op<=11):=by
 unfold fp at h;simp only[aar,dJ]at h;obtain⟨⟨⟨⟨⟨⟨h1,d⟩,_⟩,_⟩,b⟩,a⟩,f⟩:=h;refine⟨h1,d,λc=>?_,by simpa using f,λc=>by rw[ab c]at b;simpa using b⟩;have hk:(hh e.kind).2=acJ:=by
  unfold hh;by_cases e1:e.kind=3
  ·rw[ab e1]
  ·rw[af e1,bL,bL,bL]
 rw[hk,acq]at a;unfold fo at a;simp only[aar,bZ]at a;exact abF.1 a.2
variable{N:List Int}
mutual
def CP:aC->Nat
 | .mk kind ay V b9 a_ place bn aZ bw=>(if kind=1 then 1 else 0)+(yX aZ+yX bw)
def yX:List aC->Nat
 |[]=>0
 |x::r=>CP x+yX r
end
mutual
def sD:aC->Nat
 | .mk kind ay V b9 a_ place bn aZ bw=>8+(nn place+l_ bn)+(ma aZ+ma bw)
def ma:List aC->Nat
 |[]=>0
 |x::r=>sD x+ma r
end
mutual
def LC:aC->Int
 | .mk kind ay V b9 a_ place bn aZ bw=>sG bw (sG aZ ay)
def sG:List aC->Int->Int
 |[],l=>l
 |x::r,l=>sG r (LC x)
end
def sH(vars:List aB)(L:List (List UInt8×Nat))(ln:Int)(place:aJ)(bn:List E)(a:Int):List eU:=j1 ln 1 0 0::(CM vars L ln place a++CN vars L ln bn (B (a+kY place)))
def VH(L:List (List UInt8×Nat))(n:Nat)(kind ln:Int)(V b9:List UInt8)(a_:Int)(place:aJ)(a:Int):eU:=
 if kind=1 then j1 ln 4 0 n else if kind=2 then j1 ln 4 0 (k5 (-1) L V)
 else if kind=3\/kind=4\/kind=6 then⟨8,0,0,0,place,kind,a_,a,ln⟩
 else if kind=5 then⟨9,0,k5 (-1) L V,k5 (-1) L b9,place,0,a_,a,ln⟩
 else if kind=7 then⟨10,0,0,0,Lw,0,a_,a,ln⟩
 else j1 ln 13 0 0
def VJ(ln l2:Int)(p:Nat)(T:List eU)(F:Nat->List eU):List eU:=j1 ln 12 0 ((p+1+T.length+1:Nat):Int)::(T++(j1 l2 11 0 ((p+1+T.length+1+(F (p+1+T.length+1)).length:Nat):Int)::F (p+1+T.length+1)))
def VK(ln l2:Int)(p a:Nat)(T:List eU):List eU:=j1 ln 12 0 ((p+1+T.length+1:Nat):Int)::(T++[j1 l2 11 0 (a:Int)])
def LF(L:List (List UInt8×Nat))(n:Nat)(x:aC):List (List UInt8×Nat):=if x.kind=1 then L++[(x.V,n)]else L
section
variable(vars:List aB)
mutual
def CQ:aC->Nat->Nat->List (List UInt8×Nat)->Int->List eU
 | .mk kind ay V b9 a_ place bn aZ bw,base,n,L,a=>
  sH vars L ay place bn a ++
  (if kind=8 then VJ ay (sG aZ ay) (base+(sH vars L ay place bn a).length) (yY aZ (base+(sH vars L ay place bn a).length+1) n L (B (B (a+kY place)+kZ bn 0)))
      (λb=>yY bw b (n+yX aZ) L (B (B (B (a+kY place)+kZ bn 0)+pX aZ 0)))
    else if kind=9 then VK ay (sG aZ ay) (base+(sH vars L ay place bn a).length) (base+1+(CM vars L ay place a).length) (yY aZ (base+(sH vars L ay place bn a).length+1) n L (B (B (a+kY place)+kZ bn 0)))
    else [VH L n kind ay V b9 a_ place (B (B (B (a+kY place)+kZ bn 0)+1))])
def yY:List aC->Nat->Nat->List (List UInt8×Nat)->Int->List eU
 |[],base,n,L,a=>[]
 |x::r,base,n,L,a=>CQ x base n L a++yY r (base+(CQ x base n L a).length) (n+CP x) (LF L n x) (B (a+Cd x 0))
end
end
theorem LG{x:aC}(h:gp x=acI):1<=x.kind/\x.kind<=10/\(¬(3<=x.kind/\x.kind<=6)->x.place.ax=[])/\(x.bn.length:Int)=(eN x.kind).2.2.2.1/\(x.kind≠8->x.bw=[])/\(x.kind≠8->x.kind≠9->x.aZ=[]):=by
 unfold gp at h;simp only[aar,dJ,aas,bZ]at h;obtain⟨⟨⟨⟨⟨⟨⟨h1,d⟩,_⟩,_⟩,a⟩,f⟩,b⟩,c⟩:=h;refine⟨h1,d,λe=>?_,f,λe=>?_,λe g=>?_⟩
 . have:(eN x.kind).2.2.1=acJ:=by
     unfold eN
     repeat' split
     all_goals first|rfl|(exfalso;omega)
   rw[this]at a;rcases a with a|a
   ·cases a
   . unfold fo at a;simp only[aar,bZ]at a;exact abF.1 a.2
 . have:(eN x.kind).2.2.2.2.2=acJ:=by
     unfold eN
     repeat' split
     all_goals first|rfl|(exfalso;omega)
   rw[this]at c;rcases c with c|c
   ·cases c
   ·exact abF.1 c
 . have:(eN x.kind).2.2.2.2.1=acJ:=by
     unfold eN
     repeat' split
     all_goals first|rfl|(exfalso;omega)
   rw[this]at b;rcases b with b|b
   ·cases b
   ·exact abF.1 b
theorem LR.take{L:List (List UInt8×Nat)}{ba:List (List UInt8×Int)}(h:LR L ba N)(n:Nat):LR (L.take n) (ba.take n) N:=by
 refine⟨by rw[aeu,aeu,h.nm],λi p l hp hl=>?_,?_⟩
 . rw [aan]at hp hl;by_cases hi:i<n
   . rw[ab hi]at hp hl;exact h.vl i p l hp hl
   ·rw[af hi]at hp;cases hp
 . rw[aeu];exact aev (List.take_sublist _ _) h.nd
theorem LR.put{L:List (List UInt8×Nat)}{s:RS}(h:LR L s.ba N)(hi:(L.map (·.2)).Nodup){x:List UInt8}(c:x∈L.map (·.1))(U:∀p∈L,p.2<N.length)(v:Int):∃k:Nat,k5 (-1) L x=k/\k<N.length/\LR L (s.put x v).ba (N.set k v):=by
 obtain⟨k,i,h1,r,b,d⟩:=h.get c;have hk:k<N.length:=U (x,k) (adq b);obtain⟨l,g1,g2,g3,g4⟩:=K9 d;refine⟨k,h1,hk,?_⟩;rw[g4 v];show LR L (s.ba.set i (l.1,v)) (N.set k v);have hlen:s.ba.length=L.length:=by have:=congrArg List.length h.nm;simpa using this
 refine⟨?_,λj p q hp a=>?_,h.nd⟩
 . rw [List.map_set,<-h.nm];apply aew;intro j;rw[aaN];by_cases e:i=j
   . subst e;have:i<s.ba.length:=(aal.1 g1).1;rw[ab rfl,ab (by simpa using this),aba,g1];rfl
   ·rw[af e]
 . rw [aaN]at a;by_cases e:i=j
   . subst e;rw[ab rfl]at a;split at a
     . cases a;rw[b]at hp;cases hp;rw[aaN,ab rfl,ab hk]
     ·cases a
   . rw [af e]at a;have f:k≠p.2:=by
      intro g;have m:(L.map (·.2))[i]?=acK k:=by rw[aba,b];rfl
      have n:(L.map (·.2))[j]?=acK k:=by rw[aba,hp,g];rfl
      have i1:=(aal.1 m)
      have i2:=(aal.1 n)
      obtain⟨l1,e1⟩:=i1;obtain⟨l2,o⟩:=i2;exact e ((List.getElem_inj hi).1 (e1.trans o.symm))
     rw[aaN,af f];exact h.vl j p q hp a
end Rb
namespace Rb
open Go
theorem VL{j n m:Nat}(h:n<=m):eC 2 (.row j 0 m 2) acL (acK (D n)) acL=acK (.row j 0 n 2):=by simp only[eC,fg];rw[dN];simp only[aeq];rw[ab ⟨aaU _,h,trivial⟩,ab (.inl trivial)];simp
theorem sk.take{H:Z}{id:Nat}{L:List (List UInt8×Int)}{x:I}(h:sk H id L x){n:Nat}(hn:n<=L.length):∃a,eC 2 x acL (acK (D n)) acL=acK a/\sk H id (L.take n) a/\a.known=acI/\a.cells=[a]/\a.scalar=acI/\∀j c d e,a = .row j c d e->∃c' b f,x = .row j c' b f:=by
 rcases h with⟨rfl,rfl⟩|⟨j,cs,m,rfl,g,i,k,o,l⟩
 . have:n=0:=by simpa using hn
   subst this;exact⟨A,rfl,.inl ⟨rfl,rfl⟩,rfl,rfl,rfl,λj c d e h=>by cases h⟩
 . have hl:(L.take n).length=n:=by rw[adI];omega
   refine⟨.row j 0 n 2,VL hn,.inr ⟨j,cs,m,by rw[hl],g,i,k,by omega,?_⟩,rfl,rfl,rfl,λq c d e h=>?_⟩
   ·rw[hl,<-CH (cells:=sj) (sz:=2) (λ_=>rfl),<-l,aex,aec (by omega)]
   . simp only[I.row.injEq]at h;exact⟨0,L.length,2,by rw[h.1]⟩
theorem Ly.le{A:List eU}{pc:Nat}{l:List eU}(h:Ly A pc l)(hl:l≠[]):pc+l.length<=A.length:=by have hp:0<l.length:=List.length_pos_iff.2 hl;have:=h (l.length-1) l[l.length-1] (abb _);have:=(aal.1 this).1;omega
theorem St.put{jB:List (Int×Int)}{s:RS}{u:Nat}(h:St jB s u)(x:List UInt8)(v:Int):St jB (s.put x v) u:=by obtain⟨e1,f,a,b,g,c,d,e⟩:=UC s x v;exact⟨by rw[a];exact h.go,by rw[e];exact h.em,by rw[d];exact h.wz,by rw[c];exact h.fz,by rw[b];exact h.an,h.le⟩
variable{i:Nat}{H:Z}{t:X}{sp:bj}{f:aE}
theorem CS(h:At H i (.row sp.cells)):aj H 1 acJ (.ptr i 0)=acK (D sp.at_):=by rw[h.load];rfl
theorem VM(h:At H i (.row sp.cells))(v:Int):cf H 1 (.ptr i 0) (D v)=acK (H.set i (.row ({sp with at_:=v}:bj).cells)):=by rw[h.store,ab ⟨rfl,rfl,rfl,(by show 0+1<=6;decide)⟩];rfl
theorem LH(h:At H i (.row sp.cells))(a n:Int):cf H 2 (.ptr i 0) (.agg [D a,D n])=acK (H.set i (.row ({sp with at_:=a,len:=n}:bj).cells)):=by rw[h.store,ab ⟨rfl,rfl,rfl,(by show 0+2<=6;decide)⟩];rfl
theorem VN(h:At H i (.row sp.cells))(v:Int):cf H 1 (.ptr i 2) (D v)=acK (H.set i (.row ({sp with kind:=v}:bj).cells)):=by rw[h.store,ab ⟨rfl,rfl,rfl,(by show 2+1<=6;decide)⟩];rfl
theorem VO(h:At H i (.row t.cells)):aj H 1 acJ (.ptr i 0)=acK (D t.kind):=by rw[h.load,X.aX];rfl
theorem CT(h:At H i (.row t.cells)):aj H 1 acJ (.ptr i 3)=acK (av aE.cells t.Y):=by rw[h.load,X.aX];rfl
theorem VP(h:At H i (.row t.cells)):aj H 1 acJ (.ptr i 4)=acK (D t.bg):=by rw[h.load,X.aX];rfl
theorem VQ(h:At H i (.row t.cells)):aj H 1 acJ (.ptr i 5)=acK (av X.cells t.aK):=by rw[h.load,X.aX];rfl
theorem LJ{xs:List aI}{p:aI}(hp:xs[i]?=acK p):∃a0 M,aH 0 (di aI.cells 2 xs i)=acK a0/\aH 1 (di aI.cells 2 xs i)=acK M/\(∀H,aj H 1 acJ a0=acK (.str p.field))/\∀H,aj H 1 acJ M=acK (av E.cells p.aS):=by
 have a:=(aal.1 hp).1;have b:(xs.flatMap aI.cells).drop (i*2)=p.cells++(xs.drop (i+1)).flatMap aI.cells:=by rw[sv aI.len,adn a,ac0];rw[abb a]at hp;cases hp;rfl
 refine⟨_,_,rfl,rfl,λH=>?_,λH=>?_⟩
 . show bO (((xs.flatMap aI.cells).drop (i*2)).drop 0) 0 1 acJ=_;rw[b];cases p with
   |mk field aS=>rw[aI.aX];rfl
 . show bO (((xs.flatMap aI.cells).drop (i*2)).drop 1) 0 1 acJ=_;rw[b];cases p with
   | mk field aS=>rw[aI.aX];show bO (av E.cells aS::_) 0 1 acJ=acK (av E.cells aS);unfold bO;rw[lu];rfl
theorem LK{xs:List aE}(hp:xs[i]?=acK f):∃a0 M,aH 0 (di aE.cells 9 xs i)=acK a0/\aH 1 (di aE.cells 9 xs i)=acK M/\(∀H,aj H 1 acJ a0=acK (.str f.V))/\∀H,aj H 6 acI M=acK (.agg f.type.cells):=by
 have a:=(aal.1 hp).1;have c:(xs.flatMap aE.cells).drop (i*9)=f.cells++(xs.drop (i+1)).flatMap aE.cells:=by rw[sv aE.len,adn a,ac0];rw[abb a]at hp;cases hp;rfl
 refine⟨_,_,rfl,rfl,λH=>?_,λH=>so H hp⟩;show bO (((xs.flatMap aE.cells).drop (i*9)).drop 0) 0 1 acJ=_;rw[c];cases f with
 |mk n t b w=>rfl
theorem VS(hl:t.lay)(l:t.kind=3\/t.kind=4){l1 l2:List Int}(m:cD t=l6 t.Y l1 l2)(e1:l1.length=t.Y.length)(o:l2.length=t.Y.length){n:Nat}{s:bj}(hf:t.Y[n]?=acK f)(hs:(cD t)[n]?=acK s):∃a b,l1[n]?=acK a/\l2[n]?=acK b/\s=ft f (a,b)/\0<=a/\a<=1000000000/\0<=b/\b<=1000000000:=by
 obtain⟨_,x,p,U⟩:=Vi hl l hf hs;have gen:∀(fs:List aE)(x y:List Int)(n:Nat)(f:aE),x.length=fs.length->y.length=fs.length->fs[n]?=acK f->∃a b,x[n]?=acK a/\y[n]?=acK b/\(l6 fs x y)[n]?=acK (ft f (a,b)):=by
  intro fs;induction fs with
  |nil=>intro x y n f _ _ h;simp at h
  | cons g r q=>
   intro x y n f h1 e h
   match x,y,h1,e with
   | a::x,b::y,h1,e=>
    cases n with
    | zero=>simp at h;subst h;exact⟨a,b,rfl,rfl,rfl⟩
    | succ n=>obtain⟨a',u,i,j,k⟩:=q x y n f (by simpa using h1) (by simpa using e) (by simpa using h);exact⟨a',u,by simpa using i,by simpa using j,by simpa[l6]using k⟩
 obtain⟨a,b,i,j,k⟩:=gen t.Y l1 l2 n f e1 o hf;rw[m,k]at hs;have c:ft f (a,b)=s:=by simpa using hs
 refine⟨a,b,i,j,c.symm,?_⟩;rw[p]at c;obtain⟨c1,c2,c3,w⟩:=U;unfold ft at c;by_cases d:f.bits=acI
 . rw[ab d,ab d]at c;simp only[bj.mk.injEq]at c;obtain⟨v,_,_,_,z,y6⟩:=c;omega
 . rw[af d,af d]at c;simp only[bj.mk.injEq]at c;obtain⟨v,A,_⟩:=c;omega
section
variable{C:Ctx}(ak:cP C)(hT:Cl (ai C) S.b7)
include ak hT
theorem VT{vars:List aB}(hl:vars.length<=32)(hv:∀v∈vars,v.ok)(hz:∀v∈vars,(bm v.type).2=0)(bf:e5 0 vars<=65536){x:aJ}(bH:x.ok)(hp:VG vars x){ix:I}{idx:List Int}(bh:Lg H ix idx)(cU:(idx.length:Int)=jC x.ax 0){Q:aa}
  (hQ:∀b H',Z.Ext H H'->(b=acJ->(eu vars x idx).len=0)->Q (.aA [.agg (eu vars x idx).cells,.bool b]) H'):ai C 10 [av aB.cells vars,.agg x.cells,ix] H Q:=by
 obtain⟨cV,cW⟩:=aJ.dL bH;have bJ:=yS hz bf;have cX:=nh;refine S.Qz hT ?_;unfold S.f10;simp only[ag];simp only[k4,aN,bQ,bc];rw[show(H.push (.row [J,J,J,P,J,J]))=H.push (.row ct.cells)from rfl];have bK:=Z.Ext.push H (.row ct.cells);have r1:=At.new H (.row ct.cells);have n1:(H.push (.row ct.cells)).n=H.n+1:=rfl;generalize H.push _=H1 at *;refine Lc ak hT hl hv hz (λcY H2 aT bM hle=>?_) (λH2 aT am=>absurd bf am);obtain⟨tk,rfl⟩:=bM;rw[Lf];simp only[bA,ac5,ac6,O];have bi:=r1.ext aT;have bN:=bK.trans aT;rw[show bS [J,J,J,P,J,J] []=acK (.agg ct.cells)from rfl];simp only[O];rw[cn _ _ ct.cells 6 rfl rfl rfl];have bP:=At.new H2 (.row ct.cells);have bT:=bi.push (.row ct.cells);have bU:=bN.trans (Z.Ext.push H2 (.row ct.cells));have n3:(H2.push (.row ct.cells)).n=H2.n+1:=rfl;have cZ:=bi.1;simp only[O];generalize H2.push _=d at *;rw[show bS [J,J,P,A,J,A] []=acK (.agg dG)from rfl];simp only[O];rw[cn _ _ dG 6 rfl rfl rfl];have t4:=At.new d (.row dG);have bV:=bP.push (.row dG);have r4:=bT.push (.row dG);have bW:=bU.trans (Z.Ext.push d (.row dG));have n4:(d.push (.row dG)).n=d.n+1:=rfl;simp only[O];generalize d.push _=bX at *;have hC:H.n<H2.n:=by omega
 have N:H2.n≠d.n:=by omega
 have an:H.n≠H2.n:=by omega
 have aU:H.n≠d.n:=by omega
 have ret:∀(sp:bj)(b:Bool)(c:Z),Z.Ext H c->At c H.n (.row ct.cells)->eu vars x idx=sp->(b=acJ->sp.len=0)->Do (cf c 6 (.ptr H.n 0) (.agg sp.cells)) λaD=>Do (aj aD 6 acI (.ptr H.n 0)) λy=>Q (.aA [y,.bool b]) aD:=by intro sp b c o q he U;rw[q.put (n:=6) rfl rfl rfl];simp only[O];rw[(q.set _).all (n:=6) rfl];simp only[O];rw[he]at hQ;exact hQ b _ (o.set (hb _) _) U
 have E:=hp.1;obtain ⟨n,v,bk,z,c0,bZ⟩:∃n v,vars.findIdx? (λv=>v.V==x.var)=acK n/\vars[n]?=acK v/\dK v.type=0/\bG vars x=cj v.type x.ax:=by
  rcases mq (λv:aB=>v.V==x.var) vars with⟨i,v,h1,ao,aV⟩|⟨h1,ao⟩
  . have bl:dK v.type=0:=(mA (hv v (adq aV)).2 (hz v (adq aV))).snd;refine⟨i,v,h1,aV,bl,?_⟩;unfold bG;rw[ao];dsimp only;rw[af (by rw[bl];decide)]
  . unfold bG at E;rw[ao]at E;have:(6:Int)=0:=E;omega
 have c2:=(aal.1 z).1;obtain⟨g,c3,bn,c5,c6⟩:=qb (a:=0) z;have b2:v.type.lay:=mA (hv v (adq z)).2 (hz v (adq z));have ap:eu vars x idx=match eY x.ax v.type {ct with at_:=g.at_,len:=g.len} idx with
   |some sp=>{sp with kind:=(bG vars x).2.kind}
   |none=>ct:=by
  unfold eu;rw[bJ];dsimp only;rw[cw,af (by rw[E];decide),af (by have:=hp.2;omega),bL,bk];dsimp only;rw[z,bn];rfl
 rw[bZ]at E ap;have ax:∀(r:List aI)(j k:Nat)(t:X)(sp:bj)(c:Z),x.ax.drop j=r->t.lay->(cj t r).1=0->(cj t r).2=(cj v.type x.ax).2->(idx.drop k).length=gM r->Z.Ext H c->At c H.n (.row ct.cells)->At c H2.n (.row sp.cells)->At c d.n (.row t.cells)->eY r t sp (idx.drop k)=eY x.ax v.type {ct with at_:=g.at_,len:=g.len} idx ->
   ar (S.q5 (ai C) ix (.ae x.cells) (.ptr H.n 0) (.ptr H2.n 0) (.ptr d.n 0) Q) ([D k,D j],c):=by
  intro r;induction r with
  | nil=>
   intro j k t sp c aW ht bp F G o q u t5 hw;have hle:=c7 aW;refine ar.step ?_;simp only[ag,S.q5,T,bE,iP,ir,bC,aY,O,au];rw[cQ];simp only[ag,aw,S.FT,aH,aa8,VO t5,O,VN u];have ay:=u.set (.row ({sp with kind:=t.kind}:bj).cells);have az:=q.bR an (.row ({sp with kind:=t.kind}:bj).cells);rw[ay.all (n:=6) rfl];simp only[O];rw[eY]at hw;rw[<-hw]at ap;rw[cj]at F;refine ret _ acI _ (o.set (by omega) _) az ?_ λe=>(by cases e)
   rw[ap];show({sp with kind:=(cj v.type x.ax).2.kind}:bj)=_;rw[<-F]
  | cons p r aC=>
   intro j k t sp c aW ht bp F G o q u t5 hw;obtain⟨aX,b3,bq⟩:=c4 aW;obtain⟨br,aE⟩:=j0 bp;rw[cj,af (by rw[br];decide)]at F;rw[gM]at G;obtain⟨a0,M,f0,f1,g0,g1⟩:=LJ b3;refine ar.step ?_;simp only[ag,S.q5,T,bE,iP,ir,bC,aY,O,au];rw[cM,b6 aX];simp only[O,f1,g1,bC,bI,au];have bs:abu .i64 ((j:Int)+1)=((j+1:Nat):Int):=by rw[bo];simp
   rcases kv ht br with⟨l1,l2,e,c9,l3,l4,R⟩|⟨l1,l2,aZ,f,s,l3,l4,R,b4,b5⟩
   . rw [l4]at aE F;rw[ab (by simp[l1])];rw[l1]at G;obtain ⟨i0,aF⟩:∃i0,idx[k]?=acK i0:=by
      have:k<idx.length:=by rw[adx]at G;omega
      exact⟨idx[k],abb this⟩
     have bt:idx.drop k=i0::idx.drop (k+1):=drop_cons aF;rw[bt]at hw;obtain⟨ip,a1,b7⟩:=bh c o k i0 aF;simp only[a1,b7,O,aH,aa8,VP t5,iL,eD,au];apply aG<;>intro hc
     . have hc:i0>=kr t.bg:=by simpa using hc
       rw[K5 l1 hc]at hw;rw[<-hw]at ap;rw[show bS [J,J,J,P,J,J] []=acK (.agg ct.cells)from rfl];simp only[O];exact ret ct acJ c o q ap λ_=>rfl
     . have hc:¬i0>=kr t.bg:=by simpa using hc
       rw[K6 l1 hc l3]at hw;simp only[VQ t5,O];have b8:t.aK[0]?=acK e:=by rw[l3];rfl
       have b9:0<t.aK.length:=by rw[l3];simp
       have b_:aL acL 6 (av X.cells t.aK) (J)=acK (di X.cells 6 t.aK 0):=b6 (i:=0) b9;rw[b_];simp only[O];rw[c8 X.len (by decide) _ b8];simp only[O];rw[t5.put (n:=6) t.len e.len e.scalar];simp only[O];have t6:=t5.set (.row e.cells);have ay:=u.bR N (.row e.cells);have az:=q.bR aU (.row e.cells);have a7:=o.set (show H.n<=d.n by omega) (.row e.cells);generalize c.set d.n (.row e.cells)=aD at *;rw[t6.all (n:=6) e.len];simp only[O];refine yP ak hT e (fm R.snd) _ _ λsz al ca cb K L lg W B i1 i2 a8 cc=>?_;obtain⟨-,z2,z3,-⟩:=a8 R.of;have cd:(bm e).1.1=sz:=by rw[R.zero,z2]
       have t7:=t6.ext B;have ad:=ay.ext B;have aM:=az.ext B;have aO:=a7.trans B;obtain⟨c_,bu,ce⟩:=bh W aO k i0 aF;rw[a1]at bu;cases bu;rw[show kF 0 1 acJ (.agg (bY sz al K L lg))=acK (D sz)from rfl];simp only[O,CS ad,a1,ce,iL,gk,bz];rw[show ∀a b:Int,bS [J,J] [(0,1,D a),(1,1,D b)]=acK (.agg [D a,D b])from λ_ _=>rfl];simp only[O,LH ad];have aP:=ad.set (.row ({sp with at_:=abu .i64 (sp.at_+abu .i64 (abu .i64 i0*sz)),len:=sz}:bj).cells);have t8:=t7.bR (λe=>N e.symm) (.row ({sp with at_:=abu .i64 (sp.at_+abu .i64 (abu .i64 i0*sz)),len:=sz}:bj).cells);have a9:=aM.bR an (.row ({sp with at_:=abu .i64 (sp.at_+abu .i64 (abu .i64 i0*sz)),len:=sz}:bj).cells);have cg:abu .i64 ((k:Int)+1)=((k+1:Nat):Int):=by
        have:k<idx.length:=(aal.1 aF).1;have a_:idx.length<=9223372036854775807:=by rw[adx]at G;have h1:=p9 E;have ao:=p_ x.ax 0 (adR _) (by omega);omega
        rw[bo];simp
       simp only[ag,aw,S.uT,T,bE,bz,O,bs,cg];refine aC (j+1) (k+1) e _ _ bq R aE F ?_ (aO.set (by omega) _) a9 aP t8 ?_
       ·rw[bt,adN]at G;omega
       ·rw[cd]at hw;exact hw
   . rw [b4]at aE F;rw[af (by simp[l1])];rw[K7 (by rw[l1];decide) l3 l4 R]at hw;rw[l1]at G;rw[t5.all (n:=6) t.len];simp only[O];refine yP ak hT t (fm ht.snd) _ _ λsz al ca cb K L lg W B i1 i2 a8 cc=>?_;obtain⟨-,-,-,z4⟩:=a8 ht.of;obtain⟨z4,z5,ch⟩:=z4 l2;obtain⟨a,b,ci,cl,y3,y4,cm,y6,co⟩:=VS ht l2 z4 z5 ch l4 R;have t7:=t5.ext B;have ad:=u.ext B;have aM:=q.ext B;have aO:=o.trans B;simp only[bQ,bc,aN];rw[cn W _ (bY sz al K L lg) 5 rfl (sr i1 i2) rfl];have cp:=At.new W (.row (bY sz al K L lg));have t8:=t7.push (.row (bY sz al K L lg));have aP:=ad.push (.row (bY sz al K L lg));have a9:=aM.push (.row (bY sz al K L lg));have cq:=aO.trans (Z.Ext.push W (.row (bY sz al K L lg)));have da:=t7.1;have db:=ad.1;have dc:=aM.1;simp only[O];generalize W.push _=cr at *;have cs:t.Y.length<=9223372036854775807:=(X.p8 ht.ok).2.2;have bv:=(aal.1 l4).1;have inner:∀(m i:Nat),i+m=aZ->ar (S.uU (ai C) (.ae x.cells) (.ptr H2.n 0) (.ptr d.n 0) (.ptr W.n 0) ([D k,D j],c) (ar (S.q5 (ai C) ix (.ae x.cells) (.ptr H.n 0) (.ptr H2.n 0) (.ptr d.n 0) Q)) Q) ([D i],cr):=by
      obtain⟨ba,bb,am⟩:=aey.1 l3;intro m;induction m with
      | zero=>
       intro i hi;have hi:i=aZ:=by omega
       subst hi;obtain⟨b0,b1,bd,c1,d0,d1⟩:=LK l4;refine ar.step ?_;have cu:f.V=p.field:=by rw[abb ba]at l4;cases l4;simpa using bb
       simp only[ag,S.uU,T,bE,iP,ir,O];simp only[show aH 3 (.ptr d.n 0)=acK (.ptr d.n 3)from rfl,CT t8,O];rw[b6 bv,b6 aX];simp only[O,bd,f0,d0,g0,kU,cu,au];rw[ka];simp only[ag,aw,S.FR,T,bE,show aH 0 (.ptr H2.n 0)=acK (.ptr H2.n 0)from rfl,show aH 3 (.ptr d.n 0)=acK (.ptr d.n 3)from rfl,CS aP,O];rw[t8.all (n:=6) t.len,cp.all (n:=5) rfl];simp only[O];refine Vk ak hT cs l4 i1 i2 ci cl y4 cm y6 co λcv aR=>?_;have t9:=t8.ext aR;have bw:=aP.ext aR;have cx:=a9.ext aR;have cy:=cq.trans aR;rw[<-y3,bw.put (n:=6) rfl rfl rfl];simp only[O];have be:=bw.set (.row s.cells);have t10:=t9.bR (λe=>N e.symm) (.row s.cells);have cz:=cx.bR an (.row s.cells);have cA:=cy.set (show H.n<=H2.n by omega) (.row s.cells);generalize cv.set H2.n (.row s.cells)=cB at *;simp only[CS be,O,bz,VM be];have cC:=be.set (.row ({s with at_:=abu .i64 (s.at_+sp.at_)}:bj).cells);have t11:=t10.bR (λe=>N e.symm) (.row ({s with at_:=abu .i64 (s.at_+sp.at_)}:bj).cells);have cD:=cz.bR an (.row ({s with at_:=abu .i64 (s.at_+sp.at_)}:bj).cells);have cE:=cA.set (show H.n<=H2.n by omega) (.row ({s with at_:=abu .i64 (s.at_+sp.at_)}:bj).cells);generalize cB.set H2.n (.row ({s with at_:=abu .i64 (s.at_+sp.at_)}:bj).cells)=dd at *;simp only[CT t11,O];rw[b6 bv];simp only[O,c1,d1];rw[t11.put (n:=6) t.len f.type.len f.type.scalar];simp only[ag,O,S.uT,T,bE,bz,bs];refine aC (j+1) k f.type _ _ bq b5 aE F ?_ (cE.set (by omega) _) (cD.bR aU _) (cC.bR N _) (t11.set _) hw;simpa using G
      | succ m cF=>
       intro i hi;have a_:i<t.Y.length:=by omega
       have cG:t.Y[i]?=acK t.Y[i]:=abb a_;obtain⟨b0,b1,bd,c1,d0,d1⟩:=LK cG;have cH:t.Y[i].V≠p.field:=by have:=am i (by omega);simpa using this
       refine ar.step ?_;simp only[ag,S.uU,T,bE,iP,ir,O];simp only[show aH 3 (.ptr d.n 0)=acK (.ptr d.n 3)from rfl,CT t8,O];rw[b6 a_,b6 aX];simp only[O,bd,f0,d0,g0,kU,au];rw[ab (by simpa using cH)];simp only[bz,O];rw[wrap_i64 (n:=(i:Int)+1) (by omega) (by omega),show(i:Int)+1=((i+1:Nat):Int) by simp];exact cF (i+1) (by omega)
     exact inner aZ 0 (by omega)
 have cI:(idx.drop 0).length=gM x.ax:=by have h1:=p9 E;have ao:=p_ x.ax 0 (adR _) (by omega);rw[adf];omega
 simp only[bC,O,eH];have main:∀(m:Nat)(c:Z),m<=vars.length->Z.Ext H c->At c H.n (.row ct.cells)->(∃sp:bj,At c H2.n (.row sp.cells)/\∃ah:List I,At c d.n (.row ah)/\ah.length=6/\(m<=n->sp={ct with at_:=g.at_,len:=g.len}/\ah=v.type.cells)/\sp.kind=0/\sp.bits=acJ/\sp.bit=0/\sp.aQ=0) ->
   ar (S.uV (ai C) (av aB.cells vars) ix (.ae x.cells) (.ptr H.n 0) (.aq tk vars.length (en vars (ck 0 vars))) (.ptr H2.n 0) (.ptr d.n 0) Q) ([D ((m:Int)-1)],c):=by
  intro m;induction m with
  | zero=>intro c cJ o q ac;obtain⟨sp,u,ah,t5,tl,ac,_⟩:=ac;obtain⟨rfl,rfl⟩:=ac (aaU _);refine ar.step ?_;simp only[ag,S.uV,T,eD,O,au];rw[cw];simp only[aw,S.FU];exact ax x.ax 0 0 v.type _ c rfl b2 E rfl cI o q u t5 (by rw[adf])
  | succ m aC=>
   intro c cJ o q ac;obtain⟨sp,u,ah,t5,tl,ac,w1,w2,w3,aS⟩:=ac;obtain ⟨w, hw⟩ : ∃ w, vars[m]? = acK w := ⟨vars[m]'(by omega), abb _⟩
   have de:=(aal.1 hw).1;obtain⟨h,cK,bx,df,cL⟩:=qb (a:=0) hw;obtain⟨dg,dh,ra,e1,cN,cO,cP,cR⟩:=yR ak hT hw;rw[show(((m+1:Nat):Int)-1)=(m:Int) by push_cast;omega];refine ar.step ?_;simp only[ag,S.uV,T,eD,O,au];rw[lu];simp only[e1,cN,cP,iP,p7,O,fD,au];have bB:abu .i64 ((m:Int)-1)=(m:Int)-1:=bo;obtain⟨ba,bb,am⟩:=aey.1 bk;apply aG<;>intro hc
   . have cS:aL acL 3 (.aq tk vars.length (en vars (ck 0 vars))) (D m)=acK (.ae ((en vars (ck 0 vars)).drop (m*3))):=by
       show(if 0<=(m:Int)/\(m:Int)<(vars.length:Nat)then acK (I.ae ((en vars (ck 0 vars)).drop ((m:Int).toNat*3)))else acL)=_;rw[ab ⟨by omega,by omega⟩,aeq]
     simp only[O,cS,cL];simp only[show ∀l:List I,aH 1 (.ae l)=acK (.ae (l.drop 1))from λ_=>rfl,show aH 0 (.ptr H2.n 0)=acK (.ptr H2.n 0)from rfl,adj,adf,O];have cT:aj c 2 acI (.ae (D h.at_ :: D h.len::cK))=acK (.agg [D h.at_,D h.len]):=by show bO _ 0 2 acI=_;exact mo (a:=[D h.at_,D h.len]) rfl
     simp only[cT,O,LH u];have ay:=u.set (.row ({sp with at_:=h.at_,len:=h.len}:bj).cells);have t6:=t5.bR (λe=>N e.symm) (.row ({sp with at_:=h.at_,len:=h.len}:bj).cells);have az:=q.bR an (.row ({sp with at_:=h.at_,len:=h.len}:bj).cells);have a7:=o.set (show H.n<=H2.n by omega) (.row ({sp with at_:=h.at_,len:=h.len}:bj).cells);generalize c.set H2.n (.row ({sp with at_:=h.at_,len:=h.len}:bj).cells)=aD at *;simp only[cO,cR,O];rw[t6.put (n:=6) tl w.type.len w.type.scalar];simp only[ag,O,aw,S.uS,T,eH,bB];refine aC _ (by omega) (a7.set (by omega) _) (az.bR aU _) ⟨_,ay.bR N _,w.type.cells,t6.set _,w.type.len,λbD=>?_,w1,w2,w3,aS⟩;by_cases bF:m+1<=n
     ·exact absurd (by simpa using hc) (by have:=am m (by omega);rw[abb (by omega)]at hw;cases hw;simpa using this)
     . have:m=n:=by omega
       subst this;rw[z]at hw;cases hw;rw[bn]at bx;cases bx;refine⟨?_,rfl⟩;obtain⟨M,a2,a3,a4,a5,a6⟩:=sp;simp only at w1 w2 w3 aS;subst w1 w2 w3 aS;rfl
   . simp only[ag,aw,S.uS,T,eH,O,bB];refine aC c (by omega) o q ⟨sp,u,ah,t5,tl,λbD=>?_,w1,w2,w3,aS⟩;by_cases bF:m+1<=n
     ·exact ac bF
     . have:m=n:=by omega
       subst this;rw[z]at hw;cases hw;exfalso;rw[abb ba]at z;cases z;exact hc (by simpa using bb)
 rw[wrap_i64 (n:=(vars.length:Int)-1) (by omega) (by omega)];exact main vars.length bX (hb _) bW r4 ⟨ct,bV,dG,t4,rfl,λbD=>by omega,rfl,rfl,rfl,rfl⟩
end
end Rb
namespace Rb
open Go
variable{H H':Z}{n sz k:Nat}{x:I}{cells:List I}
def ch:I->Option Nat
 | .row j _ _ _=>acK j
 |_=>acL
def dH(H:Z)(sz:Nat)(x:I)(n:Nat)(cells:List I):Prop:=cells.length=n*sz/\((∃tk,(tk = .nil\/tk = .full)/\n=0/\x = .aq tk 0 [])\/∃j cs m,x = .row j 0 n sz/\At H j (.row cs)/\cs.length=m*sz/\n<=m/\cs.take (n*sz)=cells)
theorem dH.nil(H:Z)(sz:Nat):dH H sz A 0 []:=⟨by simp,.inl ⟨.nil,.inl rfl,rfl,rfl⟩⟩
theorem dH.bh(h:dH H sz x n cells)(k:∀j cs,ch x=acK j->At H j (.row cs)->At H' j (.row cs)):dH H' sz x n cells:=by
 refine⟨h.1,?_⟩;rcases h.2 with h|⟨j,cs,m,rfl,a,b⟩
 ·exact .inl h
 ·exact .inr ⟨j,cs,m,rfl,k j cs rfl a,b⟩
theorem dH.ext(h:dH H sz x n cells)(k:Z.Ext H H'):dH H' sz x n cells:=h.bh λj cs _ h=>h.ext k
theorem dH.set{sz n i:Nat}(h:dH H sz x n cells)(hi:ch x≠acK i)(o:cx):dH (H.set i o) sz x n cells:=h.bh λj cs a h=>h.bR (λe=>hi (by rw[<-e];exact a)) o
theorem dH.lt{sz n j:Nat}(h:dH H sz x n cells)(a:ch x=acK j):j<H.n:=by
 rcases h.2 with⟨tk,_,_,rfl⟩|⟨c,cs,m,rfl,b,d⟩
 ·cases a
 ·cases a;exact b.1
theorem dH.len(h:dH H sz x n cells):ea acJ x=acK (D n):=by
 rcases h.2 with⟨tk,_,rfl,rfl⟩|⟨a,cs,m,rfl,b,c⟩
 ·rfl
 ·rfl
theorem dH.known(h:dH H sz x n cells):x.known=acI/\x.cells=[x]/\x.scalar=acI:=by
 rcases h.2 with⟨tk,_,rfl,rfl⟩|⟨a,cs,m,rfl,b,c⟩
 ·exact⟨rfl,rfl,rfl⟩
 ·exact⟨rfl,rfl,rfl⟩
theorem dH.addr(h:dH H sz x n cells)(e:k<n):∃j cs,ch x=acK j/\At H j (.row cs)/\aL acL sz x (D k)=acK (.ptr j (k*sz))/\cs.take (n*sz)=cells/\n*sz<=cs.length:=by
 rcases h.2 with⟨tk,_,rfl,rfl⟩|⟨j,cs,m,rfl,a,b,c,d⟩
 ·omega
 . refine⟨j,cs,rfl,a,?_,d,by rw[b];exact aby _ c⟩;show(if 0<=(k:Int)/\(k:Int)<(n:Nat)then acK (I.ptr j (0+(k:Int).toNat*sz))else acL)=_;rw[ab ⟨by omega,by omega⟩,aeq,aa8]
theorem dH.get(h:dH H 1 x n cells){v:I}(hv:cells[k]?=acK v):∃p,aL acL 1 x (D k)=acK p/\∀H',Z.Ext H H'->aj H' 1 acJ p=acK v:=by
 have hk:k<n:=by have:=(aal.1 hv).1;rw[h.1]at this;omega
 obtain⟨j,cs,h1,a,b,c,d⟩:=h.addr hk;refine⟨_,b,λH' E=>?_⟩;rw[(a.ext E).load];unfold bO;rw[<-c,aan,dN]at hv;rw[dN,cw,Nat.mul_one];exact hv
theorem dH.cut(h:dH H sz x n cells)(hk:k<=n):∃a,eC sz x acL (acK (D k)) acL=acK a/\dH H sz a k (cells.take (k*sz))/\ch a=ch x:=by
 rcases h.2 with⟨tk,ht,rfl,rfl⟩|⟨j,cs,m,rfl,b,c,e,d⟩
 . have:k=0:=by omega
   subst this;refine⟨.aq tk 0 [],by simp[eC,fg],⟨by simp,.inl ⟨tk,ht,rfl,rfl⟩⟩,rfl⟩
 . refine ⟨.row j 0 k sz,?_,⟨?_,.inr ⟨j,cs,m,rfl,b,c,by omega,?_⟩⟩,rfl⟩
   . simp only[eC,fg];rw[dN];simp only[aeq,aeb];rw[ab ⟨aaU _,hk,trivial⟩,lu];simp
   . rw[adI,h.1];exact aec (aby _ hk)
   ·rw[<-d,aex,aec (aby _ hk)]
theorem CU:∀(news:List I)(o:Nat)(cs:List I),(setCells cs o news).length=cs.length
 |[],o,cs=>rfl
 |v::r,o,cs=>by rw[setCells,CU r,acn]
theorem dH.app{n sz a:Nat}{cells news:List I}(h:dH H sz x n cells)(hz:0<sz)(hn:news.length=sz)(c:news.all I.scalar=acI)(U:(n+1)*a<=140737488355328)(hl:n+1<=9223372036854775807){K:aa}
  (d:∀b H',dH H' sz b (n+1) (cells++news)->H.n<=H'.n->(∀i o,ch x≠acK i->At H i o->At H' i o)->(ch b=ch x\/ch b=acK H.n)->K b H'):bs (cZ H acI sz a x (.aq .full 1 news)) K:=by
 have f:hL H sz (.aq .full 1 news)=acK (1,news):=by simp[hL,hn]
 have hlen:(cells++news).length=(n+1)*sz:=by rw[adm,h.1,hn,aaV,adk]
 rcases h.2 with⟨tk,ht,rfl,rfl⟩|⟨j,cs,m,rfl,g,k,u,p⟩
 . have hc:cells=[]:=abF.1 (by rw[h.1];simp);subst hc;have e:cZ H acI sz a (.aq tk 0 []) (.aq .full 1 news)=acK (.row H.n 0 (0+1) sz,H.push (.row ([]++news))):=by
    simp only[cZ,f,c,not_true_eq_false,b4];rw[cw,af (by simp only[adJ];exact⟨by simp,U,hl⟩)];rcases ht with rfl|rfl<;>rfl
   exact⟨_,_,e,d _ _ ⟨hlen,.inr ⟨H.n,[]++news,1,rfl,At.new H _,by simp[hn],hb _,by rw[adp (by rw[hlen];exact hb _)]⟩⟩ (aa2 _) (λi o _ h=>h.push _) (.inr rfl)⟩
 . by_cases hc:(n+1)*sz<=cs.length
   . have e:cZ H acI sz a (.row j 0 n sz) (.aq .full 1 news)=acK (.row j 0 (n+1) sz,H.set j (.row (setCells cs (n*sz) news))):=by
       simp only[cZ,f,c,not_true_eq_false,b4,g.2];rw[cw,af (by simp only[adJ];exact⟨trivial,trivial,U,hl⟩),ab hc]
     refine⟨_,_,e,d _ _ ⟨hlen,.inr ⟨j,_,m,rfl,g.set _,?_,?_,?_⟩⟩ (hb _) (λi o hi h=>h.bR (λe=>hi (by rw[e];rfl)) _) (.inl rfl)⟩
     ·rw[CU];exact k
     . rw[k]at hc;exact Nat.le_of_mul_le_mul_right hc hz
     . apply aew;intro q;rw[aan];have s:cells.length=n*sz:=h.1;have v:(n+1)*sz=n*sz+sz:=by rw[aaV,adk]
       by_cases r:q<(n+1)*sz
       . rw[ab r,Ed news cs _ _ (by rw[hn];omega)];by_cases h1:n*sz<=q/\q<n*sz+news.length
         ·rw[ab h1,List.getElem?_append_right (by omega),s]
         ·rw[af h1,List.getElem?_append_left (by omega),<-p,aan,dN]
       ·rw[af r,List.getElem?_eq_none (by rw[hlen];omega)]
   . have t:cs.length=n*sz:=by
       rw[k]at hc ⊢;have:¬n+1<=m:=λz=>hc (aby _ z);rw[show m=n by omega]
     have e:cZ H acI sz a (.row j 0 n sz) (.aq .full 1 news)=acK (.row H.n 0 (n+1) sz,(H.set j .gone).push (.row (cs++news))):=by simp only[cZ,f,c,not_true_eq_false,b4,g.2];rw[cw,af (by simp only[adJ];exact⟨trivial,trivial,U,hl⟩),af hc,ab t]
     have l:cs=cells:=by rw[<-p,adp (by omega)]
     refine⟨_,_,e,d _ _ ⟨hlen,.inr ⟨H.n,cs++news,n+1,rfl,At.new (H.set j .gone) _,by rw[l];exact hlen,hb _,?_⟩⟩ (aa2 _) (λi o hi h=>(h.bR (λe=>hi (by rw[e];rfl)) _).push _) (.inr rfl)⟩;rw[adp (by rw[l,hlen];exact hb _),l]
end Rb
namespace Rb
open Go
variable{k:Nat}{x y:Int×Int}{a b:Int}
theorem ky:∀l:List (Int×Int),(l.flatMap aD).length=l.length*2
 |[]=>rfl
 |x::r=>by rw[ac0,adm,ky r,adN];show 2+_=_;omega
theorem LL:∀(l:List (Int×Int)) (k:Nat) (tl:List I) (p:Int×Int),l[k]?=acK p->((l.flatMap aD++tl).drop (k*2)).take 2=aD p
 |[],k,tl,p,h=>by simp at h
 |x::r,0,tl,p,h=>by simp at h;subst h;rfl
 | x::r,k+1,tl,p,h=>by have:=LL r k tl p (by simpa using h);rw[show(k+1)*2=k*2+2 by omega];exact this
theorem LM:∀(l:List (Int×Int)) (k:Nat) (tl:List I) (p:Int×Int),k<l.length->setCells (l.flatMap aD++tl) (k*2) (aD p)=(l.set k p).flatMap aD++tl
 |[],k,tl,p,h=>absurd h (Nat.not_lt_zero _)
 |x::r,0,tl,p,h=>rfl
 | x::r,k+1,tl,p,h=>by have:=LM r k tl p (by simpa using h);rw[show(k+1)*2=k*2+2 by omega];show(I.int .i64 x.1 :: .int .i64 x.2::setCells (r.flatMap aD++tl) (k*2) (aD p))=_;rw[this];rfl
theorem yZ(a b:Int×Int)(c:Bool):kE c [.n,.n] (.agg (aD a)) (.agg (aD b))=acK (.bool (if c then !(decide (a=b))else decide (a=b))):=by
 have:((a.1==b.1)&&(b.2==b.2))=((a.1==b.1)&&(b.2==b.2)):=rfl;have h:((a.1==b.1)&&(a.2==b.2))=decide (a=b):=by rw[acm];simp only[aar,bZ,dJ];exact⟨λh=>aez h.1 h.2,λh=>by rw[h];exact⟨rfl,rfl⟩⟩
 rw[<-h];cases c<;>simp[kE,ep,aD]
section
variable{H:Z}{id:Nat}{l:List (Int×Int)}{tl:List I}
theorem sI{o n k:Nat}(h:k<n):aL acL 2 (.row id o n 2) (.int .i64 k)=acK (.ptr id (o+k*2)):=by show(if 0<=(k:Int)/\(k:Int)<(n:Nat)then acK (I.ptr id (o+(k:Int).toNat*2))else acL)=_;rw[ab ⟨by omega,by omega⟩,aeq]
theorem sJ(h:At H id (.row (l.flatMap aD++tl))){p:Int×Int}(hp:l[k]?=acK p):aj H 2 acI (.ptr id (k*2))=acK (.agg (aD p)):=by have:=(aal.1 hp).1;rw[h.load];unfold bO;rw[ab (by rw[adm,ky];omega),ab rfl,LL l k tl p hp]
theorem VU(h:At H id (.row (l.flatMap aD++tl)))(a:k<l.length)(p:Int×Int):cf H 2 (.ptr id (k*2)) (.agg (aD p))=acK (H.set id (.row ((l.set k p).flatMap aD++tl))):=by rw[h.store,ab ⟨rfl,rfl,rfl,by rw[adm,ky];omega⟩];show acK (H.set id (.row (setCells _ (k*2) (aD p))))=_;rw[LM l k tl p a]
end
theorem CV(x:Int×Int):∀r:List (Int×Int),∃t,dc (x::r)=x::t
 |[]=>⟨[],by rw[dc]⟩
 | y::r=>by
  rw[dc];by_cases h:x=y
  ·rw[ab h,h];exact CV y r
  ·rw[af h];exact⟨_,rfl⟩
theorem VV{r:List (Int×Int)}(h:x=y):(dc (x::y::r)).tail=(dc (y::r)).tail:=by rw[dc,ab h]
theorem VW{r:List (Int×Int)}(h:¬x=y):(dc (x::y::r)).tail=y::(dc (y::r)).tail:=by rw[dc,af h,List.tail_cons];obtain⟨t,e⟩:=CV y r;rw[e];rfl
theorem LN{l:List (Int×Int)}{j:Nat}{a b:Int×Int}(ha:l[j]?=acK a)(U:l[j+1]?=acK b):l.drop j=a::b::l.drop (j+2):=by rw[drop_cons ha,drop_cons U]
section
variable{C:Ctx}(ak:cP C)(hT:Cl (ai C) S.b7){H:Z}{Q:aa}
include ak hT
theorem LO(hQ:∀c:Int,(a<b->c = -1)->(b<a->c=1)->(a=b->c=0)->Q (.int .i64 c) H):ai C 90 [.int .i64 a,.int .i64 b] H Q:=by
 have nan:∀(n:Int)(R:aa),R (.bool acJ) H->ai C 134 [.int .i64 n] H R:=λn R f=>S.R1 hT (by unfold S.f134;simp only[ag];simp only[cC,O];rw[show(n != n)=acJ by simp];exact f)
 refine S.Rz hT ?_;unfold S.f90;simp only[ag];refine nan _ _ (nan _ _ ?_);simp only[au,abW,b4,aY,cV,O];apply aG<;>intro e
 . have:a<b:=by simpa using e
   exact hQ _ (λ_=>rfl) (λ_=>by omega) (λ_=>by omega)
 . have e:¬a<b:=by simpa using e
   apply aG<;>intro d
   . have:a>b:=by simpa using d
     exact hQ _ (λ_=>by omega) (λ_=>rfl) (λ_=>by omega)
   . have:¬a>b:=by simpa using d
     exact hQ _ (λ_=>by omega) (λ_=>by omega) (λ_=>rfl)
theorem VX(hQ:Q (.int .i64 (if a≠0 then a else b)) H):ai C 89 [.aq .full 2 [.int .i64 a,.int .i64 b]] H Q:=by
 refine S.Ry hT ?_;unfold S.f89;simp only[ag];have e0:aL acL 1 (.aq .full 2 [.int .i64 a,.int .i64 b]) (.int .i64 0)=acK (.ae [.int .i64 a,.int .i64 b]):=rfl;have e1:aL acL 1 (.aq .full 2 [.int .i64 a,.int .i64 b]) (.int .i64 1)=acK (.ae [.int .i64 b]):=rfl;have l0:aj H 1 acJ (.ae [.int .i64 a,.int .i64 b])=acK (.int .i64 a):=rfl;have l1:aj H 1 acJ (.ae [.int .i64 b])=acK (.int .i64 b):=rfl;simp only[show ea acJ (.aq .full 2 [.int .i64 a,.int .i64 b])=acK (.int .i64 2)from rfl,O];refine ar.step ?_;simp only[ag,S.xc,T,aY,O,au];rw[jD,e0];simp only[O,l0,cC,au];by_cases ha:a=0
 . rw[af (by simp[ha])];rw[af (by simpa using ha)]at hQ;simp only[bz,O];rw[show abu .i64 ((0:Int)+1)=1 from rfl];refine ar.step ?_;simp only[ag,S.xc,T,aY,O,au];rw[jD,e1];simp only[O,l1,cC,au];refine aG (λ_=>hQ) (λe=>?_);have U:b=0:=by simpa using e
   simp only[bz,O];rw[show abu .i64 ((1:Int)+1)=2 from rfl];refine ar.step ?_;simp only[ag,S.xc,T,aY,O,au];rw[cw];rw[U]at hQ;exact hQ
 . rw[ab (by simp[ha])];rw[ab ha]at hQ;exact hQ
theorem VY(hQ:Q (.int .i64 (if x.1<y.1 then -1 else if x.1>y.1 then 1 else if x.2<y.2 then -1 else if x.2>y.2 then 1 else 0)) H):ai C 88 [.agg (aD x),.agg (aD y)] H Q:=by
 refine S.Rx hT ?_;unfold S.f88;simp only[ag];have a:∀(p:Int×Int)(H:Z),b5 H acJ 2 (.agg (aD p))=acK (.ae (aD p),H):=λ_ _=>rfl;have f0:∀p:Int×Int,aH 0 (.ae (aD p))=acK (.ae (aD p)):=λ_=>rfl;have f1:∀p:Int×Int,aH 1 (.ae (aD p))=acK (.ae [.int .i64 p.2]):=λ_=>rfl;have l0:∀(p:Int×Int)(H:Z),aj H 1 acJ (.ae (aD p))=acK (.int .i64 p.1):=λ_ _=>rfl;have l1:∀(p:Int×Int)(H:Z),aj H 1 acJ (.ae [.int .i64 p.2])=acK (.int .i64 p.2):=λ_ _=>rfl;simp only[a,aN,f0,f1,l0,l1,O];refine LO ak hT λc c1 c2 c3=>?_;refine⟨trivial,trivial,?_⟩;refine LO ak hT λd d1 d2 d3=>?_;rw[show cI H acJ 1 2 [.int .i64 0] [(0,1,.int .i64 c),(1,1,.int .i64 d)]=acK (.aq .full 2 [.int .i64 c,.int .i64 d],H)from rfl];simp only[aN];refine VX ak hT ?_;have:(if c≠0 then c else d)=(if x.1<y.1 then -1 else if x.1>y.1 then 1 else if x.2<y.2 then -1 else if x.2>y.2 then 1 else 0):=by
  rcases aeA x.1 y.1 with h|h|h
  ·rw[c1 h,jD,ab h]
  . rw[c3 h,cw,bL,bL];rcases aeA x.2 y.2 with k|k|k
    ·rw[d1 k,ab k]
    ·rw[d3 k,bL,bL]
    ·rw[d2 k,bL,ab k]
  ·rw[c2 h,jD,bL,ab h]
 rw[this];exact hQ
end
end Rb
namespace Rb
open Go
def jF(id:Nat)(H H':Z):Prop:=H'.n=H.n/\∀i o,i≠id->At H i o->At H' i o
theorem jF.refl(id:Nat)(H:Z):jF id H H:=⟨rfl,λ_ _ _ h=>h⟩
theorem jF.trans{id:Nat}{a b c:Z}(h:jF id a b)(k:jF id b c):jF id a c:=⟨k.1.trans h.1,λi o hi d=>k.2 i o hi (h.2 i o hi d)⟩
theorem jF.set(id:Nat)(H:Z)(o:cx):jF id H (H.set id o):=⟨rfl,λi x hi a=>a.bR hi o⟩
theorem LQ:∀(b a c:List I)(o:Nat)(d:List I),a.length=o->d.length=b.length->setCells (a++(d++c)) o b=a++(b++c)
 | [],a,c,o,d,ha,f=>by have:d=[]:=aeB f;rw[this];rfl
 | v :: b,a,c,o,d,ha,f=>by
  cases d with
  |nil=>simp at f
  | cons w d=>
   rw[setCells];have e:(a++(w::d++c)).set o v=(a++[v])++(d++c):=by rw[List.set_append_right _ _ (by omega),ha,Nat.sub_self];simp
   rw[e,LQ b (a++[v]) c (o+1) d (by simp[ha]) (by simpa using f)];simp
theorem LS:∀n:Nat,(KT n [I.int .i64 0,I.int .i64 0]).flatten=(KT n ((0,0):Int×Int)).flatMap aD
 |0=>rfl
 |n+1=>by rw[abn,List.flatten_cons,LS n,abn,ac0];rfl
section
variable{C:Ctx}(ak:cP C)(hT:Cl (ai C) S.b7)
include ak hT
theorem VZ{H:Z}{Q:aa}{id:Nat}{l:List (Int×Int)}{tl:List I}(hn:l.length<=1000000000)(h:At H id (.row (l.flatMap aD++tl)))
  (hQ:∀(a:List (Int×Int)) H',jF id H H'->a.length=l.length->a.take (dc l).length=dc l->(dc l).length<=l.length->At H' id (.row (a.flatMap aD++tl))->Q (.row id 0 (dc l).length 2) H') :
  ai C 91 [.row id 0 l.length 2] H Q:=by
 refine S.Jj hT ?_;unfold S.f91;simp only[ag];have hlen:∀(H:Z)(o n:Nat),ea acJ (.row id o n 2)=acK (.int .i64 n):=λ_ _ _=>rfl;have whole:dc l=l->Q (.row id 0 l.length 2) H:=λe=>by have:=hQ l H (jF.refl _ _) rfl (by rw[e];exact adg) (by rw[e];exact hb _) h;rw[e]at this;exact this
 simp only[hlen H,O,aY,au];refine aG (λe=>whole ?_) (λe=>?_)
 . have:l.length<2:=by have:(l.length:Int)<2:=(by simpa using e);omega
   match l,this with
   |[],_=>rw[dc]
   |[x],_=>rw[dc]
 have N:2<=l.length:=by have:¬(l.length:Int)<2:=(by simpa using e);omega
 have inner:∀(c:Nat),1<=c->c<l.length->∀(m k2 k:Nat)(a:List (Int×Int)) (H1:Z),l.length-c-k2=m->1<=k2->c+k2<=l.length->c<=k->k<=c+k2-1->jF id H H1->a.length=l.length->(∀i,c+k2-1<=i->a[i]?=l[i]?)->dc l=a.take k++(dc (l.drop (c+k2-1))).tail->At H1 id (.row (a.flatMap aD++tl)) ->
   ar (S.xe (ai C) (.row id 0 l.length 2) (.row id (c*2) (l.length-c) 2) Q) ([.int .i64 k,.int .i64 k2],H1):=by
  intro c P R m;induction m with
  | zero=>
   intro k2 k a H1 hm h1 hle hk E u q r hc p;refine ar.step ?_;simp only[ag,S.xe,T,bE,hlen H,O,aY,au,aw];rw[cQ];have f:(dc (l.drop (c+k2-1))).tail=[]:=by
    have v:c+k2-1<l.length:=by omega
    rw[drop_cons (abb v),aeC (by omega),dc];rfl
   rw[f,adv]at hc;have z:(dc l).length=k:=by rw[hc,adI];omega
   unfold S.HI;simp only[T];have s1:eC 2 (.row id 0 l.length 2) (acK (.int .i64 k)) acL acL=acK (.row id (k*2) (l.length-k) 2):=by simp only[eC,fg,ab (show(0:Int)<=(k:Int) by omega),aeq];rw[ab ⟨by omega,hb _,trivial⟩,ab (.inr (by omega)),aa8]
   have s2:eC 2 (.row id 0 l.length 2) acL (acK (.int .i64 k)) acL=acK (.row id 0 k 2):=by simp only[eC,fg,ab (show(0:Int)<=(k:Int) by omega),aeq];rw[ab ⟨aaU _,by omega,trivial⟩,ab (.inl trivial),Nat.zero_mul,Nat.sub_zero]
   rw[s1,s2];simp only[O];have F:a.flatMap aD++tl=(a.take k).flatMap aD++((a.drop k).flatMap aD++tl):=by rw[<-aeo,<-aeD,aeE]
   have G:j8 H1 (.clear 2 [.int .i64 0,.int .i64 0]) [.row id (k*2) (l.length-k) 2]=acK (.aA [],H1.set id (.row ((a.take k++KT (l.length-k) (0,0)).flatMap aD++tl))):=by simp only[j8];rw[bL,p.2];dsimp only;rw[ab ⟨rfl,rfl,by rw[adm,ky,q];omega⟩,LS,F,LQ _ _ tl _ ((a.drop k).flatMap aD) (by rw[ky,adI];omega) (by rw[ky,ky,adx,aeF,q]),<-aeo,<-aeD]
   rw[G];simp only[aN];have:=hQ (a.take k++KT (l.length-k) (0,0)) _ (u.trans (jF.set id H1 _)) (by rw[adm,adI,aeF];omega) (by rw[z,ado (by rw[adI];omega),aex,Nat.min_self];exact hc.symm) (by omega) (p.set _);rw[z]at this;exact this
  | succ m w=>
   intro k2 k a H1 hm h1 hle hk E u q r hc p;have J:c+k2<l.length:=by omega
   obtain⟨b,U⟩:∃b,l[c+k2-1]?=acK b:=⟨_,abb (by omega)⟩
   obtain⟨d,f⟩:∃d,l[c+k2]?=acK d:=⟨_,abb J⟩
   have K:a[c+k2-1]?=acK b:=(r _ (hb _)).trans U;have A:a[c+k2]?=acK d:=(r _ (by omega)).trans f;have e1:aL acL 2 (.row id (c*2) (l.length-c) 2) (.int .i64 k2)=acK (.ptr id ((c+k2)*2)):=by rw[sI (by omega)];congr 2;omega
   have y:aL acL 2 (.row id (c*2) (l.length-c) 2) (.int .i64 ((k2:Int)-1))=acK (.ptr id ((c+k2-1)*2)):=by rw[show((k2:Int)-1)=((k2-1:Nat):Int) by omega,sI (by omega)];congr 2;omega
   have L:aL acL 2 (.row id 0 l.length 2) (.int .i64 k)=acK (.ptr id (k*2)):=by rw[sI (by omega),aa8]
   have s:l.drop (c+k2-1)=b::d::l.drop (c+k2+1):=by have:=LN (l:=l) (j:=c+k2-1) U (by rw[show c+k2-1+1=c+k2 by omega];exact f);rw[this];congr 3;omega
   have B:l.drop (c+(k2+1)-1)=d::l.drop (c+k2+1):=by rw[show c+(k2+1)-1=c+k2 by omega];exact drop_cons f
   refine ar.step ?_;simp only[ag,S.xe,T,bE,hlen H,O,aY,au,aw];rw[cM,e1];simp only[O,sJ p A,eH];rw[wrap_i64 (n:=(k2:Int)-1) (by omega) (by omega),y];simp only[O,sJ p K,yZ,au,bc];by_cases g:d=b
   . rw[af (by simp[g])];unfold S.xd;simp only[ag];simp only[T,bE,bz,O];rw[wrap_i64 (n:=(k2:Int)+1) (by omega) (by omega),show((k2:Int)+1)=((k2+1:Nat):Int) by simp];refine w (k2+1) k a H1 (by omega) (by omega) (by omega) hk (by omega) u q (λi hi=>r i (by omega)) ?_ p;rw[hc,s,B,VV g.symm]
   . rw [ab (by simp[g])];simp only[O,sJ p A,L,VU p (show k<a.length by omega),bz];rw[wrap_i64 (n:=(k:Int)+1) (by omega) (by omega),fj k];unfold S.xd;simp only[ag];simp only[T,bE,bz,O];rw[wrap_i64 (n:=(k2:Int)+1) (by omega) (by omega),show((k2:Int)+1)=((k2+1:Nat):Int) by simp];refine w (k2+1) (k+1) (a.set k d) _ (by omega) (by omega) (by omega) (by omega) (by omega) (u.trans (jF.set id H1 _)) (by rw[acn];exact q) (λi hi=>?_) ?_ (p.set _)
     ·rw[List.getElem?_set_ne (by omega)];exact r i (by omega)
     . rw [hc,s,B,VW (λe=>g e.symm)];have:(a.set k d).take (k+1)=a.take k++[d]:=by
        rw[adw,List.take_set_of_le (hb k),List.getElem?_set_self (by omega)];rfl
       rw[this,aeo];rfl
 have outer:∀(m k:Nat),l.length-k=m->1<=k->k<=l.length->dc l=l.take (k-1)++dc (l.drop (k-1))->ar (S.xf (ai C) (.row id 0 l.length 2) Q) ([.int .i64 k],H):=by
  intro m;induction m with
  | zero=>
   intro k hm h1 hk hc;refine ar.step ?_;simp only[ag,S.xf,T,hlen H,O,aY,au];rw[cQ];refine whole ?_;have v:k-1<l.length:=by omega
   rw[drop_cons (abb v),aeC (by omega),dc]at hc;rw[hc];have:=aeE (k-1) l;rw[drop_cons (abb v),aeC (by omega)]at this;exact this
  | succ m w=>
   intro k hm h1 hk hc;obtain⟨b,U⟩:∃b,l[k-1]?=acK b:=⟨_,abb (by omega)⟩
   obtain⟨d,f⟩:∃d,l[k]?=acK d:=⟨_,abb (by omega)⟩
   have e1:aL acL 2 (.row id 0 l.length 2) (.int .i64 k)=acK (.ptr id (k*2)):=by rw[sI (by omega),aa8]
   have y:aL acL 2 (.row id 0 l.length 2) (.int .i64 ((k:Int)-1))=acK (.ptr id ((k-1)*2)):=by rw[show((k:Int)-1)=((k-1:Nat):Int) by omega,sI (by omega),aa8]
   have s:l.drop (k-1)=b::d::l.drop (k+1):=by have:=LN (l:=l) (j:=k-1) U (by rw[show k-1+1=k by omega];exact f);rw[this];congr 3;omega
   have D:l.take k=l.take (k-1)++[b]:=by
    obtain⟨j,rfl⟩:∃j,k=j+1:=⟨k-1,by omega⟩
    rw[adw];show l.take j++(l[j]?).toList=_;rw[show l[j]?=acK b from U];rfl
   refine ar.step ?_;simp only[ag,S.xf,T,hlen H,O,aY,au];rw[cM,e1];simp only[O,sJ h f,eH];rw[wrap_i64 (n:=(k:Int)-1) (by omega) (by omega),y];simp only[O,sJ h U,yZ,au,abW,b4];by_cases g:d=b
   . rw [ab (by simp[g])];have s1:eC 2 (.row id 0 l.length 2) (acK (.int .i64 k)) acL acL=acK (.row id (k*2) (l.length-k) 2):=by
      simp only[eC,fg,ab (show(0:Int)<=(k:Int) by omega),aeq];rw[ab ⟨by omega,hb _,trivial⟩,ab (.inr (by omega)),aa8]
     rw[s1];simp only[O];refine inner k h1 (by omega) _ 1 k l H rfl (hb _) (by omega) (hb _) (by omega) (jF.refl _ _) rfl (λ_ _=>rfl) ?_ h;rw[hc,s,show k+1-1=k by omega,drop_cons f,D,dc,ab g.symm,aeo];obtain⟨t,M⟩:=CV d (l.drop (k+1));rw[M,g];rfl
   . rw[af (by simp[g])];simp only[bz,O];rw[wrap_i64 (n:=(k:Int)+1) (by omega) (by omega),fj k];refine w (k+1) (by omega) (by omega) (by omega) ?_;rw[hc,s,show k+1-1=k by omega,drop_cons f,D,dc,af (λe=>g e.symm),aeo];rfl
 exact outer _ 1 rfl (hb _) (by omega) (by simp)
end
def fF(kw:List UInt8->Bool):List (List UInt8)->List aB->Int
 |_,[]=>0
 |seen,v::r=>if ek v.V=acJ\/kw v.V=acI then 6 else if seen.contains v.V=acI then 7 else if(bm v.type).2≠0 then(bm v.type).2 else fF kw (seen++[v.V]) r
theorem CW(kw:List UInt8->Bool)(K:Int)(g:K=70000):∀(l:List aB)(b:List (List UInt8)) (a:Int) (n:Nat),0<=a->a<=n*K->n+l.length<=32->l5 kw b a l=if fF kw b l≠0 then fF kw b l else if e5 a l>65536 then 9 else 0
 | [],b,a,n,i,h1,j=>by
  have e:e5 a []=a:=by rw[e5]
  have f:fF kw b []=0:=by rw[fF]
  by_cases h:a>65536
  ·rw[l5,ab h,f,af (λz=>z rfl),ab (by rw[e];exact h)]
  ·rw[l5,af h,f,af (λz=>z rfl),af (by rw[e];exact h)]
 | v :: r,b,a,n,i,h1,j=>by
  rw[l5,fF,e5];by_cases e1:ek v.V=acJ\/kw v.V=acI
  ·rw[ab e1,ab e1,jD]
  . rw [af e1,af e1];by_cases d:b.contains v.V=acI
    ·rw[ab d,ab d,jD]
    . rw [af d,af d];by_cases c:(bm v.type).2≠0
      ·rw[ab c,ab c,ab c]
      . rw [af c,af c];have hz:(bm v.type).2=0:=by simpa using c
        obtain⟨b1,b2,b3,k⟩:=oy hz;rw[adN]at j;have m:a<=n*70000:=by rw[<-g];exact h1
        have hu:=eJ (n:=a) (step:=(bm v.type).1.2) (by omega);have hw:B (cA a (bm v.type).1.2+(bm v.type).1.1)=eP a v+(bm v.type).1.1:=by rw[mr i (by omega) (by omega) (by omega)];exact bo
        rw[hw];unfold eP;exact CW kw K g r _ _ (n+1) (by omega) (by subst g;push_cast;omega) (by omega)
theorem CX(kw:List UInt8->Bool):∀{l:List aB}{seen:List (List UInt8)},fF kw seen l=0->∀v∈l,(bm v.type).2=0
 | v :: r,seen,h,w,hw=>by
  rw[fF]at h;split at h
  ·cases h
  . split at h
    ·cases h
    . split at h
      ·rename_i e;exact absurd h e
      . rename_i e;rcases aco.1 hw with rfl|hw
        ·simpa using e
        ·exact CX kw h w hw
section
variable{C:Ctx}(ak:cP C)(hT:Cl (ai C) S.b7)
include ak hT
theorem LU(x:aJ):bD (ai C) 73 [.agg x.cells] (.bool (fo x)):=by
 intro H Q hQ;refine S.Rq hT ?_;unfold S.f73;simp only[ag];unfold fo at hQ;simp only[k4,aN,iP,p7,O,fD,bP];apply aG<;>intro h
 . simp only[ir,bC,O,bI];rw[h,adP]at hQ;rw [show((x.ax.length:Int)==0)=(x.ax.length==0) by
     rw[acm];simp]
   exact hQ
 . have h:(x.var==[])=acJ:=by simpa using h
   rw[h,adQ]at hQ;exact hQ
def nq:List Int:=[-1,0,0,2,0,0,1,1,2]
theorem V0(e:E):bD (ai C) 74 [.agg e.cells] (.bool (fp e)):=by
 intro H Q hQ;refine S.Rs hT ?_;unfold S.f74;simp only[ag];have k1:∀b:Bool,Q (.bool (b&&(decide (e.kind>=4)||fo e.place))) H->S.wX (ai C) (.ae e.cells) Q [.bool b] H:=by
  intro b U;unfold S.wX;simp only[ag];simp only[T,bP];cases b with
  |false=>rw[cw];exact U
  | true=>
   rw[ab rfl];simp only[il,im,O,eD,bF];apply dC<;>intro q
   . simp only[p3,O];refine LU ak hT e.place _ _ ?_;rw[q]at U;exact U
   . rw[q]at U;exact U
 have k2:∀b:Bool,Q (.bool (b&&(decide (e.op<=11)&&(decide (e.kind>=4)||fo e.place)))) H->S.wY (ai C) (.ae e.cells) Q [.bool b] H:=by
  intro b U;unfold S.wY;simp only[ag];simp only[T,bP,aw];cases b with
  |false=>rw[cw];exact k1 acJ U
  | true=>rw[ab rfl];simp only[il,r_,O,gl];exact k1 _ U
 have i:∀b:Bool,Q (.bool (b&&(decide (e.op>=0)&&(decide (e.op<=11)&&(decide (e.kind>=4)||fo e.place))))) H->S.wZ (ai C) (.ae e.cells) Q [.bool b] H:=by
  intro b U;unfold S.wZ;simp only[ag];simp only[T,bP,aw];cases b with
  |false=>rw[cw];exact k2 acJ U
  | true=>rw[ab rfl];simp only[il,r_,O,eD];exact k2 _ U
 have d:∀b:Bool,Q (.bool (b&&(((e.kind==3)==(e.op != 0))&&(decide (e.op>=0)&&(decide (e.op<=11)&&(decide (e.kind>=4)||fo e.place)))))) H->S.rG (ai C) (.ae e.cells) Q [.bool b] H:=by
  intro b U;unfold S.rG;simp only[ag];simp only[T,bP,aw];cases b with
  |false=>rw[cw];exact i acJ U
  | true=>rw[ab rfl];simp only[il,im,r_,O,bI,cC];rw[show kD acJ (.bool (e.kind==3)) (.bool (e.op != 0))=acK (.bool ((e.kind==3)==(e.op != 0)))from rfl];simp only[O];exact i _ U
 have j:∀b:Bool,Q (.bool (b&&((e.V==[]||e.kind==2)&&(((e.kind==3)==(e.op != 0))&&(decide (e.op>=0)&&(decide (e.op<=11)&&(decide (e.kind>=4)||fo e.place))))))) H->S.w4 (ai C) (.ae e.cells) Q [.bool b] H:=by
  intro b U;unfold S.w4;simp only[ag];simp only[T,bP,aw];cases b with
  |false=>rw[cw];exact d acJ U
  | true=>
   rw[ab rfl];simp only[il,yF,O,fD,bF];apply dC<;>intro q
   . rw[q]at U;simp only[im,O,bI];exact d _ U
   . rw[q]at U;exact d acI U
 have m:Q (.bool ((e.n==0||e.kind==1)&&((e.V==[]||e.kind==2)&&(((e.kind==3)==(e.op != 0))&&(decide (e.op>=0)&&(decide (e.op<=11)&&(decide (e.kind>=4)||fo e.place))))))) H->S.Bi (ai C) (.ae e.cells) Q [] H:=by
  intro U;unfold S.Bi;simp only[ag];simp only[il,Ck,O,bI,bF,aw];apply dC<;>intro q
  . rw[q]at U;simp only[im,O,bI];exact j _ U
  . rw[q]at U;exact j acI U
 have f:∀c:Bool,(c=acI->fp e=acJ)->(c=acJ->fp e=((e.n==0||e.kind==1)&&((e.V==[]||e.kind==2)&&(((e.kind==3)==(e.op != 0))&&(decide (e.op>=0)&&(decide (e.op<=11)&&(decide (e.kind>=4)||fo e.place)))))))->S.rH (ai C) (.ae e.cells) Q [.bool c] H:=by
  intro c h1 p;unfold S.rH;simp only[T,au,aw];apply aG<;>intro q
  ·rw[h1 q]at hQ;exact hQ
  . rw[p (by simpa using q)]at hQ;exact m hQ
 simp only[p2,aN];refine⟨.aq .full 9 (nq.map (D)),H,rfl,?_⟩;simp only[il,im,O,aY,bF,aw];apply dC<;>intro g
 . have g:¬e.kind<1:=of_decide_eq_false g;simp only[im,O,cV,bF];apply dC<;>intro h
   . have h:¬e.kind>8:=of_decide_eq_false h;obtain⟨a,k,v⟩:∃a:Nat,e.kind=a/\a<=8:=⟨e.kind.toNat,by omega,by omega⟩
     have r:∃z,nq[a]?=acK z/\z=(hh e.kind).1:=by
      have s:a<nq.length:=by show a<9;omega
      refine⟨nq[a],abb s,?_⟩;rw[k];have:a=1\/a=2\/a=3\/a=4\/a=5\/a=6\/a=7\/a=8:=by omega
      rcases this with rfl|rfl|rfl|rfl|rfl|rfl|rfl|rfl<;>rfl
     obtain⟨z,o,l⟩:=r;simp only[sa,bC,im,O];have ha:aL acL 1 (.aq .full 9 (nq.map (D))) (D e.kind)=acK (.ae ((nq.map (D)).drop (a*1))):=by simp only[aL];rw[ab ⟨by omega,by omega⟩,k];simp
     have hv:aj H 1 acJ (.ae ((nq.map (D)).drop (a*1)))=acK (D z):=by show bO _ 0 1 acJ=_;unfold bO;have hlen:nq.length=9:=rfl;rw[ab (by rw[adx,abI];omega)];simp[o]
     simp only[ha,hv,O,cC];refine f _ (λq=>?_) (λq=>?_)
     . have q:(e.br.length:Int)≠z:=by simpa using q
       unfold fp;have:((e.br.length:Int)==(hh e.kind).1)=acJ:=by rw[<-l];simpa using q
       rw[this,aeG]
     . have q:(e.br.length:Int)=z:=by simpa using q
       unfold fp;have:((e.br.length:Int)==(hh e.kind).1)=acI:=by rw[<-l];simpa using q
       rw[this,aea];clear ha hv o l q this k1 k2 i d j m f hQ;have:a=1\/a=2\/a=3\/a=4\/a=5\/a=6\/a=7\/a=8:=by omega
       generalize fo e.place=t;generalize (e.n==0)=u;generalize (e.V==[])=em;have w:(e.op != 0)=!(e.op==0):=rfl;have x:(e.op==0)=acI\/(e.op==0)=acJ:=by cases (e.op==0)<;>simp
       rw[acm];rcases this with rfl|rfl|rfl|rfl|rfl|rfl|rfl|rfl<;>(cases t<;>cases u<;>cases em<;>simp[k,hh]<;>omega)
   . have h:e.kind>8:=of_decide_eq_true h;refine f acI (λ_=>?_) (λq=>by cases q);unfold fp;rw[show decide (e.kind<=8)=acJ from decide_eq_false (by omega)];simp
 . have g:e.kind<1:=of_decide_eq_true g;refine f acI (λ_=>?_) (λq=>by cases q);unfold fp;rw[show decide (1<=e.kind)=acJ from decide_eq_false (by omega)];simp
end
theorem LV(n:Nat):((n:Int)==0)=(n==0):=by rw[acm];simp
section
variable{C:Ctx}(ak:cP C)(hT:Cl (ai C) S.b7)
include ak hT
def nr:List Int:=[-1,1,1,1,1,0,2,0,1,1,1]
theorem V1(e:aC):bD (ai C) 45 [.agg e.cells] (.bool (gp e)):=by
 intro H Q hQ;refine S.Q3 hT ?_;unfold S.f45;simp only[ag];have k1:∀b:Bool,Q (.bool (b&&(e.kind==8||e.bw.length==0))) H->S.pz (ai C) (.ae e.cells) Q [.bool b] H:=by
  intro b U;unfold S.pz;simp only[ag];simp only[T,bP];cases b with
  |false=>rw[cw];exact U
  | true=>
   rw[ab rfl];simp only[fG,hj,O,bI,bF];apply dC<;>intro q
   . simp only[yI,bC,O,bI,LV];rw[q]at U;exact U
   ·rw[q]at U;exact U
 have k2:∀b:Bool,Q (.bool (b&&(((e.kind==8||e.kind==9)||e.aZ.length==0)&&(e.kind==8||e.bw.length==0)))) H->S.rq (ai C) (.ae e.cells) Q [.bool b] H:=by
  intro b U;unfold S.rq;simp only[ag];simp only[T,bP,aw];cases b with
  |false=>rw[cw];exact k1 acJ U
  | true=>
   rw[ab rfl];simp only[fG,hj,O,bI,bF];apply dC<;>intro q
   . apply dC<;>intro f
     . simp only[sb,bC,O,bI,LV];rw[q,f]at U;refine k1 _ ?_;rw[q];exact U
     . rw[q,f]at U;refine k1 acI ?_;rw[q];exact U
   . rw[q]at U;refine k1 acI ?_;rw[q];exact U
 have g:∀b c:Bool,Q (.bool (b&&((c||fo e.place)&&(((e.kind==8||e.kind==9)||e.aZ.length==0)&&(e.kind==8||e.bw.length==0))))) H->S.rr (ai C) (.ae e.cells) [.bool c] Q [.bool b] H:=by
  intro b c U;unfold S.rr;simp only[ag];simp only[T,bP,aw,bF];cases b with
  |false=>rw[cw];exact k2 acJ U
  | true=>
   rw[ab rfl];cases c with
   | false=>rw[ab rfl];simp only[fG,ng,O];exact LU ak hT e.place _ _ (k2 _ U)
   | true=>rw[cw];exact k2 acI U
 have j:∀b c:Bool,Q (.bool (b&&((e.kind==5||e.b9==[])&&((c||fo e.place)&&(((e.kind==8||e.kind==9)||e.aZ.length==0)&&(e.kind==8||e.bw.length==0)))))) H->S.vQ (ai C) (.ae e.cells) [.bool c] Q [.bool b] H:=by
  intro b c U;unfold S.vQ;simp only[ag];simp only[T,bP,aw];cases b with
  |false=>rw[cw];exact g acJ c U
  | true=>
   rw[ab rfl];simp only[fG,hj,O,bI,bF];apply dC<;>intro q
   . simp only[yG,O,fD];rw[q]at U;exact g _ c U
   . rw[q]at U;exact g acI c U
 have k:∀a c:Bool,Q (.bool ((a||e.V==[])&&((e.kind==5||e.b9==[])&&((c||fo e.place)&&(((e.kind==8||e.kind==9)||e.aZ.length==0)&&(e.kind==8||e.bw.length==0)))))) H->S.vT (ai C) (.ae e.cells) [.bool a] Q [.bool c] H:=by
  intro a c U;unfold S.vT;simp only[ag];simp only[T,bF,aw];cases a with
  | false=>rw[ab rfl];simp only[fG,my,O,fD];exact j _ c U
  | true=>rw[cw];exact j acI c U
 have l:∀a:Bool,Q (.bool ((a||e.V==[])&&((e.kind==5||e.b9==[])&&(((decide (e.kind>=3)&&decide (e.kind<=6))||fo e.place)&&(((e.kind==8||e.kind==9)||e.aZ.length==0)&&(e.kind==8||e.bw.length==0)))))) H->S.vU (ai C) (.ae e.cells) Q [.bool a] H:=by
  intro a U;unfold S.vU;simp only[ag];simp only[fG,hj,O,eD,bP,aw];apply aG<;>intro q
  . simp only[hj,O,gl];rw[q,adP]at U;exact k a _ U
  . have q:decide (e.kind>=3)=acJ:=by simpa using q
    rw[q,adQ]at U;exact k a acJ U
 have o:Q (.bool ((((e.kind==1||e.kind==2)||e.kind==5)||e.V==[])&&((e.kind==5||e.b9==[])&&(((decide (e.kind>=3)&&decide (e.kind<=6))||fo e.place)&&(((e.kind==8||e.kind==9)||e.aZ.length==0)&&(e.kind==8||e.bw.length==0)))))) H->S.A8 (ai C) (.ae e.cells) Q [] H:=by
  intro U;have p:∀b:Bool,b=(e.kind==1||e.kind==2)->S.vV (ai C) (.ae e.cells) Q [.bool b] H:=by
   intro b s;unfold S.vV;simp only[ag];simp only[T,bF,aw];rw[<-s]at U;cases b with
   | false=>rw[ab rfl];simp only[fG,hj,O,bI];exact l _ U
   | true=>rw[cw];exact l acI U
  unfold S.A8;simp only[ag];simp only[fG,hj,O,bI,bF,aw];apply dC<;>intro q
  ·exact p _ (by rw[q];simp)
  ·exact p acI (by rw[q];simp)
 have h:∀c:Bool,(c=acI->gp e=acJ)->(c=acJ->gp e=((((e.kind==1||e.kind==2)||e.kind==5)||e.V==[])&&((e.kind==5||e.b9==[])&&(((decide (e.kind>=3)&&decide (e.kind<=6))||fo e.place)&&(((e.kind==8||e.kind==9)||e.aZ.length==0)&&(e.kind==8||e.bw.length==0))))))->S.ru (ai C) (.ae e.cells) Q [.bool c] H:=by
  intro c h1 t;unfold S.ru;simp only[T,au,aw];apply aG<;>intro q
  ·rw[h1 q]at hQ;exact hQ
  . rw[t (by simpa using q)]at hQ;exact o hQ
 simp only[nf,aN];refine⟨.aq .full 11 (nr.map (D)),H,rfl,?_⟩;simp only[fG,hj,O,aY,bF,aw];apply dC<;>intro i
 . have i:¬e.kind<1:=of_decide_eq_false i;simp only[hj,O,cV,bF];apply dC<;>intro f
   . have f:¬e.kind>10:=of_decide_eq_false f;obtain⟨d,m,B⟩:∃d:Nat,e.kind=d/\d<=10:=⟨e.kind.toNat,by omega,by omega⟩
     have u:∃z,nr[d]?=acK z/\z=(eN e.kind).2.2.2.1:=by
      have v:d<nr.length:=by show d<11;omega
      refine⟨nr[d],abb v,?_⟩;rw[m];have:d=1\/d=2\/d=3\/d=4\/d=5\/d=6\/d=7\/d=8\/d=9\/d=10:=by omega
      rcases this with rfl|rfl|rfl|rfl|rfl|rfl|rfl|rfl|rfl|rfl<;>rfl
     obtain⟨z,r,n⟩:=u;simp only[mz,bC,hj,O];have ha:aL acL 1 (.aq .full 11 (nr.map (D))) (D e.kind)=acK (.ae ((nr.map (D)).drop (d*1))):=by simp only[aL];rw[ab ⟨by omega,by omega⟩,m];simp
     have hv:aj H 1 acJ (.ae ((nr.map (D)).drop (d*1)))=acK (D z):=by show bO _ 0 1 acJ=_;unfold bO;have hlen:nr.length=11:=rfl;rw[ab (by rw[adx,abI];omega)];simp[r]
     simp only[ha,hv,O,cC];refine h _ (λq=>?_) (λq=>?_)
     . have q:(e.bn.length:Int)≠z:=by simpa using q
       unfold gp;have:((e.bn.length:Int)==(eN e.kind).2.2.2.1)=acJ:=by rw[<-n];simpa using q
       rw[this,aeG,adQ,adQ]
     . have q:(e.bn.length:Int)=z:=by simpa using q
       unfold gp;have:((e.bn.length:Int)==(eN e.kind).2.2.2.1)=acI:=by rw[<-n];simpa using q
       rw[this,aea];clear ha hv r n q this k1 k2 g j k l o h hQ;have:d=1\/d=2\/d=3\/d=4\/d=5\/d=6\/d=7\/d=8\/d=9\/d=10:=by omega
       generalize fo e.place=w;generalize (e.V==[])=x;generalize (e.b9==[])=em;generalize (e.aZ.length==0)=y;generalize (e.bw.length==0)=A;rcases this with rfl|rfl|rfl|rfl|rfl|rfl|rfl|rfl|rfl|rfl<;>(cases w<;>cases x<;>cases em<;>cases y<;>cases A<;>simp[m,eN])
   . have f:e.kind>10:=of_decide_eq_true f;refine h acI (λ_=>?_) (λq=>by cases q);unfold gp;rw[show decide (e.kind<=10)=acJ from decide_eq_false (by omega)];simp
 . have i:e.kind<1:=of_decide_eq_true i;refine h acI (λ_=>?_) (λq=>by cases q);unfold gp;rw[show decide (1<=e.kind)=acJ from decide_eq_false (by omega)];simp
end
def dI(vars:List aB)(s:aV):List I:=[av aB.cells vars,D s.lets,D s.ay,D s.hE,D s.aR]
def ns(x:I)(l:List (List UInt8)):Prop:=∃tk,x = .aq tk l.length (l.map I.str)
section
variable{C:Ctx}(ak:cP C)(hT:Cl (ai C) S.b7)
include ak hT
theorem iw{vars:List aB}{s:aV}{H:Z}{id:Nat}{Q:aa}(h:At H id (.row (dI vars s)))(a:Bool)(e:Int)(hQ:∀H',bX id H H'->At H' id (.row (dI vars (s.b_ a e)))->Q (.bool ((s.b_ a e).aR==0)) H'):ai C 44 [.ptr id 0,.bool a,D e] H Q:=by
 refine S.Q2 hT ?_;unfold S.f44;simp only[ag];have k1:∀(R:aV)(H':Z),At H' id (.row (dI vars R))->Q (.bool (R.aR==0)) H'->S.vN (ai C) (.ptr id 0) Q [] H':=by intro R H' d f;unfold S.vN;simp only[ag];simp only[b8,aH,aa8,O];rw[show aj H' 1 acJ (.ptr id (3+1))=acK (D R.aR) by rw[d.load];rfl];simp only[O,bI];exact f
 have k2:∀b:Bool,(b=acI↔(a=acJ/\s.aR=0))->S.vO (ai C) (.ptr id 0) (D e) Q [.bool b] H:=by
  intro b U;unfold S.vO;simp only[ag];unfold aV.b_ at hQ;simp only[T,au,aw];apply aG<;>intro q
  . rw [ab (U.1 q)]at hQ;simp only[b8,aH,aa8,O];rw[show aj H 1 acJ (.ptr id 2)=acK (D s.ay) by rw[h.load];rfl];simp only[O];rw[show bS [J,J] [(0,1,D s.ay),(1,1,D e)]=acK (.agg [D s.ay,D e])from rfl];simp only[O];rw [show cf H 2 (.ptr id 3) (.agg [D s.ay,D e])=acK (H.set id (.row (dI vars {s with hE:=s.ay,aR:=e}))) by
      rw[h.store,ab ⟨rfl,rfl,rfl,(by show 3+2<=5;decide)⟩];rfl]
    simp only[O];have c:=h.set (.row (dI vars {s with hE:=s.ay,aR:=e}));exact k1 _ _ c (hQ _ (bX.set id H _) c)
  . rw[af (λz=>q (U.2 z))]at hQ;exact k1 s H h (hQ H (bX.refl id H) h)
 simp only[b8,aH,aa8,O];rw[show aj H 1 acJ (.ptr id (3+1))=acK (D s.aR) by rw[h.load];rfl];simp only[O,bI,bP,aw];apply aG<;>intro q
 . have q:s.aR=0:=by simpa using q
   simp only[dg,O];refine k2 _ ?_;cases a<;>simp[q]
 . have q:¬s.aR=0:=by simpa using q
   exact k2 acJ ⟨λz=>(by cases z),λz=>absurd z.2 q⟩
theorem sK{x:I}{l:List (List UInt8)}(a:ns x l)(hl:l.length<=1000000)(n:List UInt8):bD (ai C) 47 [x,.str n] (.bool (l.any λy=>n==y)):=by
 obtain⟨tk,rfl⟩:=a;intro H Q hQ;refine S.Q5 hT ?_;unfold S.f47;have main:∀(r:List (List UInt8)) (k:Nat),l.drop k=r->(r.any λy=>n==y)=(l.any λy=>n==y)->ar (S.vY (ai C) (.aq tk l.length (l.map .str)) (.str n) Q) ([D k],H):=by
  intro r;induction r with
  | nil=>intro k b U;have hle:=c7 b;refine ar.step ?_;simp only[ag,S.vY,T];rw[show ea acJ (.aq tk l.length (l.map .str))=acK (D l.length)from rfl];simp only[O,aY,au];rw[cQ];rw[<-U]at hQ;exact hQ
  | cons y r c=>
   intro k b U;obtain⟨g,a,d⟩:=c4 b;refine ar.step ?_;simp only[ag,S.vY,T];rw[show ea acJ (.aq tk l.length (l.map .str))=acK (D l.length)from rfl];simp only[O,aY,au];rw[cM];have ha:aL acL 1 (.aq tk l.length (l.map .str)) (D k)=acK (.ae ((l.map I.str).drop (k*1))):=by simp only[aL];rw[ab ⟨by omega,by omega⟩];simp
   have hv:aj H 1 acJ (.ae ((l.map I.str).drop (k*1)))=acK (.str y):=by show bO _ 0 1 acJ=_;unfold bO;rw[ab (by rw[adx,abI];omega)];simp[a]
   simp only[ha,hv,O,fD,au];rw[adM]at U;apply aG<;>intro q
   . have q:y=n:=by simpa using q
     have:(l.any λy=>n==y)=acI:=by rw[<-U,q];simp
     rw[this]at hQ;exact hQ
   . have q:¬y=n:=by simpa using q
     have f:(n==y)=acJ:=by simpa using λe=>q e.symm
     rw[f,acq]at U;simp only[bz,O];rw[bo,show(k:Int)+1=((k+1:Nat):Int) by simp];exact c (k+1) d U
 exact main l 0 rfl rfl
end
theorem V2(t:X):bO t.cells 0 1 acJ=acK (D t.kind):=by rw[X.aX];rfl
theorem V4(t:X):bO t.cells 3 1 acJ=acK (av aE.cells t.Y):=by rw[X.aX];rfl
theorem V5(t:X):bO t.cells 5 1 acJ=acK (av X.cells t.aK):=by rw[X.aX];rfl
theorem V6(p:aI):bO p.cells 0 1 acJ=acK (.str p.field):=by rw[aI.aX];rfl
theorem V7(p:aI):bO p.cells 1 1 acJ=acK (av E.cells p.aS):=by rw[aI.aX];rfl
theorem V8{t:X}(h:dK t=0):cW t=0:=by
 unfold dK at h;split at h
 ·cases h
 ·exact h
def mF(r:Int×X):List I:=if r.1=0 then r.2.cells else dG
theorem V9(r:Int×X):(mF r).length=6:=by unfold mF;split;exact r.2.len;rfl
theorem V_(r:Int×X):(mF r).all I.scalar=acI:=by unfold mF;split;exact r.2.scalar;rfl
theorem Wa(r:Int×X):gn r = .aA [.agg (mF r),D r.1]:=by unfold gn mF;split;rename_i h;rw[h];rfl
section
variable{Φ:ad}{H:Z}{Q:aa}
theorem Wb(hT:Cl Φ S.b7){vars:List aB}{x:aJ}(bt:vars.length<=9223372036854775807)(bu:x.ax.length<=9223372036854775807)
  (a7:∀v∈vars,bD Φ 42 [.agg v.type.cells] (D (dK v.type)))
  (hQ:∀H',Q (gn (bG vars x)) H'):S.f26 Φ (av aB.cells vars) (.agg x.cells) H Q:=by
 have fin:∀v H',v=gn (bG vars x)->Q v H':=λv H' h=>by rw[h];exact hQ H'
 clear hQ;unfold S.f26;simp only[ag];simp only[yh,aN,bQ,bc,bC,O,eH];have W:At (H.push (.row dG)) H.n (.row dG):=At.new H _;change At (H.push (.row [J,J,P,A,J,A])) H.n _ at W;generalize (H.push (.row [J,J,P,A,J,A]))=d at *;generalize H.n=c at *;have bad:∀(e:Int)(H1:Z),At H1 c (.row dG)->e≠0->(bG vars x).1=e->Do (bS [J,J,P,A,J,A] []) λa8=>
   Do (cf H1 6 (.ptr c 0) a8) λaF=>
   Do (aj aF 6 acI (.ptr c 0)) λa9=>
   Q (.aA [a9,(D e)]) aF:=by
  intro e H1 aM he h;rw[yf];simp only[O];rw[aM.put (n:=6) rfl rfl rfl];simp only[O];rw[(aM.set _).all (n:=6) rfl];simp only[O];refine fin _ _ ?_;unfold gn;rw[h,af he]
 have a_ : G (S.A4 Φ (av aB.cells vars) (.ae x.cells) (.ptr c 0) Q) [D (fb (vars.findIdx? λv=>v.V==x.var))] d:=by
  simp only[ag,aw,S.A4,T,aY,O,au];rcases mq (λv:aB=>v.V==x.var) vars with⟨i,v,h1,ai,C⟩|⟨h1,ai⟩
  . have o := (aal.1 C).1;have ba:=adq C;have aa:bG vars x=if dK v.type≠0 then(dK v.type,v.type)else cj v.type x.ax:=by unfold bG;rw[ai]
    rw[h1,af (by show ¬(decide ((i:Int)<0)=acI);rw[dJ];omega)];simp only[fb];rw[b6 o];simp only[O,di,aH,yg v d C,aN,bQ,bc];rw[cn _ _ _ 6 v.type.len v.type.scalar rfl];simp only[O];rw[eE,gJ v.type.len];simp only[O];have bb:At (d.push (.row v.type.cells)) d.n (.row v.type.cells):=At.new d _;have ak:c≠d.n:=W.h2;have aO:At (d.push (.row v.type.cells)) c (.row dG):=W.push _;generalize (d.push (.row v.type.cells))=aP at *;generalize d.n=a at *;refine a7 v ba _ _ ?_;have aQ:∀(e:Int)(H1:Z),At H1 c (.row dG)->e≠0->(bG vars x).1=e->G (S.ri Φ (.ptr c 0) (.ptr a 0) Q) [D e] H1:=by intro e H1 a3 he hp;simp only[ag,aw,S.ri,T,cC,O,au];rw[ab (by simpa using he)];exact bad e H1 a3 he hp
    have bd:∀(t:X)(H1:Z),At H1 c (.row dG)->At H1 a (.row t.cells)->bG vars x=(0,t)->G (S.ri Φ (.ptr c 0) (.ptr a 0) Q) [J] H1:=by intro t H1 a3 a28 hp;simp only[ag,aw,S.ri,T,cC,O,au];rw[cw,a28.all t.len];simp only[O];rw[a3.put (n:=6) rfl t.len t.scalar];simp only[O];rw[(a3.set _).all t.len];simp only[O];refine fin _ _ ?_;rw[hp];rfl
    have stop:∀(e:Int)(k:Nat)(H1:Z),At H1 c (.row dG)->e≠0->(bG vars x).1=e->ar (S.nU Φ (.ae x.cells) (.ptr c 0) (.ptr a 0) Q) ([D e,D k],H1):=by
     intro e k H1 a3 he hp;refine ar.step ?_;simp only[ag,S.nU,T,bE,og,oh,bC,O,aY,bP,bI];have be:(e==0)=acJ:=by simpa using he
     apply aG<;>intro _
     . simp only[aw,S.py,T,au,be,abW,b4];exact aQ e H1 a3 he hp
     . simp only[aw,S.py,T,au,abW,b4];exact aQ e H1 a3 he hp
    by_cases lK:dK v.type=0
    . rw [af (by simpa using lK)]at aa;rw[lK];have main : ∀(M:List aI)(i:Nat)(t:X)(H1:Z),x.ax.drop i=M->At H1 c (.row dG)->At H1 a (.row t.cells)->cW t=0->cj t M=bG vars x ->
        ar (S.nU Φ (.ae x.cells) (.ptr c 0) (.ptr a 0) Q) ([J,D i],H1):=by
       intro M;induction M with
       | nil=>intro i t H1 al a3 a28 ac w;have hle:=c7 al;refine ar.step ?_;simp only[ag,S.nU,T,bE,og,oh,bC,O,aY,bP];rw[cQ];simp only[aw,S.py,T,au,abW,b4];exact bd t H1 a3 a28 (by rw[<-w];rfl)
       | cons p M am=>
        intro i t H1 al a3 a28 ac w;obtain⟨o,hp,bf⟩:=c4 al;refine ar.step ?_;simp only[ag,S.nU,T,bE,og,oh,bC,O,aY,bP];rw[cM];simp only[ag,bI,O,aw,S.py,T,au,BEq.rfl,bc,S.Gj,bE,og,oh];rw[b6 o];simp only[O];rw[c8 aI.len (by decide) _ hp];simp only[O,aN,bQ,bc];rw[cn _ _ _ 2 p.len p.scalar rfl];simp only[O,aH,aa8,aaY];have b3:=a3.push (.row p.cells);have B:=a28.push (.row p.cells);have F:=At.new H1 (.row p.cells);have bv:a≠H1.n:=a28.h2;generalize H1.push _=H2 at *;generalize H1.n=g at *;have m1:∀{H'},At H' g (.row p.cells)->aj H' 1 acJ (.ptr g 1)=acK (av E.cells p.aS):=λh=>by rw[h.load];exact V7 p
        have m0:∀{H'},At H' g (.row p.cells)->aj H' 1 acJ (.ptr g 0)=acK (.str p.field):=λh=>by rw[h.load];exact V6 p
        have t0:∀{H'},At H' a (.row t.cells)->aj H' 1 acJ (.ptr a 0)=acK (D t.kind):=λh=>by rw[h.load];exact V2 t
        have t3:∀{H'},At H' a (.row t.cells)->aj H' 1 acJ (.ptr a 3)=acK (av aE.cells t.Y):=λh=>by rw[h.load];exact V4 t
        have t5:∀{H'},At H' a (.row t.cells)->aj H' 1 acJ (.ptr a 5)=acK (av X.cells t.aK):=λh=>by rw[h.load];exact V5 t
        simp only[m1 F,O,bC,bI];simp only[cj]at w;generalize bw:ar (S.nU Φ (.ae x.cells) (.ptr c 0) (.ptr a 0) Q)=L at *;have aR:∀(u:X)(l:Z),At l c (.row dG)->At l a (.row u.cells)->c6 t p=(0,u)->G (S.nT Φ ([J,D i],H1) L Q) [J] l:=by
         intro u l c3 an hu;simp only[ag,aw,S.nT,T,bE,bz,O];rw[bo,fj i];rw[hu,ka]at w;have bg:cW u=0:=by have:=JK (x:=p) ac (by rw[hu]);rw[hu]at this;exact this
         exact am (i+1) u l bf c3 an bg w
        have g_:∀(e:Int)(l:Z),At l c (.row dG)->e≠0->(c6 t p).1=e->G (S.nT Φ ([J,D i],H1) L Q) [D e] l:=by intro e l c3 he hu;simp only[ag,aw,S.nT,T,bE,bz,O];rw[bo,fj i];rw[ab (by rw[hu];exact he)]at w;exact stop e (i+1) l c3 he (by rw[<-w,hu])
        have ao : ∀b:Bool,(b=acI↔(p.aS.length=0/\p.field≠[]/\(t.kind=3\/t.kind=4)))->¬(p.aS.length=1/\p.field=[]/\t.kind=5)->G (S.rh Φ (.ptr a 0) (.ptr g 0) ([J,D i],H1) L Q) [.bool b] H2:=by
         intro b U q;simp only[ag,aw,S.rh,T,au];apply aG<;>intro h
         . obtain ⟨g1,g2,g3⟩:=U.1 h;have aT:c6 t p=match t.Y.find? (λf=>f.V==p.field)with|some f=>(0,f.type)|none=>(6,t):=by
            unfold c6;rw[af (by rw[g1];simp[g2]),af (by rw[g1];simp),af (by rw[g1];simp[g3])];all_goals (cases t.Y.find? (λf=>f.V==p.field)<;>rfl)
           rw[yf];simp only[O,aN,bQ,bc];have c3:=b3.push (.row dG);have an:=B.push (.row dG);have bh:=F.push (.row dG);have aU:=At.new H2 (.row dG);have n3:c≠H2.n:=b3.h2;have n28:a≠H2.n:=B.h2;have bi:g≠H2.n:=F.h2;change Do (cf (H2.push (.row dG)) 6 (.ptr H2.n 0) (.agg dG)) _;generalize H2.push _=bj at *;generalize H2.n=K at *;rw[aU.put (n:=6) rfl rfl rfl];simp only[O];have d3:=c3.bR n3 (.row dG);have d28:=an.bR n28 (.row dG);have d53:=bh.bR bi (.row dG);have d94:=aU.set (.row dG);generalize bj.set K (.row dG)=N at *;have aV:∀(e:Int)(cs:List I)(s:Z),At s c (.row dG)->At s a (.row t.cells)->At s K (.row cs)->cs.length=6->cs.all I.scalar=acI->((e=0/\∃u:X,cs=u.cells/\c6 t p=(0,u))\/(e≠0/\(c6 t p).1=e)) ->
             G (S.vj Φ (.ptr a 0) (.ptr K 0) ([J,D i],H1) L Q) [D e] s:=by
            intro e cs s ad R ap aW bk hc;simp only[ag,aw,S.vj,T];rw[ap.all aW];simp only[O];rw[R.put t.len aW bk];simp only[O];rcases hc with⟨rfl,u,rfl,hu⟩|⟨he,hu⟩
            ·exact aR u _ (ad.bR ak _) (R.set _) hu
            ·exact g_ e _ (ad.bR ak _) he hu
           have bl:∀(r:List aE)(j:Nat),t.Y.drop j=r->t.Y.find? (λf=>f.V==p.field)=r.find? (λf=>f.V==p.field) ->
             ar (S.rf Φ (.ptr a 0) (.ptr g 0) (.ptr K 0) ([J,D i],H1) L Q) ([D 6,D j],N):=by
            intro r;induction r with
            | nil=>intro j aq m;have hle:=c7 aq;refine ar.step ?_;simp only[ag,S.rf,T,bE,aH,aa8,t3 d28,bC,O,aY,bP];rw[cQ];simp only[aw,S.pw,T,au,abW,b4];refine aV 6 dG N d3 d28 d94 rfl rfl (.inr ⟨by decide,?_⟩);rw[aT,m];rfl
            | cons f r bm=>
             intro j aq m;obtain⟨bn,aX,bp⟩:=c4 aq;have bx:t.Y.length<=32:=(lV ac g3).2;refine ar.step ?_;simp only[ag,S.rf,T,bE,aH,aa8,t3 d28,bC,O,aY,bP];rw[cM];simp only[cC,O,aw,S.pw,T,au];rw[jD];simp only[ag,S.Gi,T,bE,aH,aa8,aaY,t3 d28,O];rw[b6 bn];simp only[O,di,aH,K2 N aX,m0 d53,fD,au,K1 N aX];rw[List.find?_cons]at m;apply gb<;>intro h
             . rw [h]at m;simp only at m;rw[d94.put (n:=6) rfl f.type.len f.type.scalar];simp only[ag,O,aw,S.vi,T,bE,bz];rw[bo,fj j];have ad:=d3.bR n3 (.row f.type.cells);have R:=d28.bR n28 (.row f.type.cells);have ap:=d94.set (.row f.type.cells);generalize N.set K (.row f.type.cells)=s at *;have aZ:G (S.vj Φ (.ptr a 0) (.ptr K 0) ([J,D i],H1) L Q) [J] s:=
                aV 0 f.type.cells s ad R ap f.type.len f.type.scalar (.inl ⟨rfl,f.type,rfl,by rw[aT,m]⟩)
               refine ar.step ?_;simp only[ag,S.rf,T,bE,aH,aa8,t3 R,bC,O,aY,bP];apply aG<;>intro _
               . simp only[cC,O,aw,S.pw,T,au];rw[cw];exact aZ
               . simp only[aw,S.pw,T,au,abW,b4];exact aZ
             . rw[h]at m;simp only at m;simp only[ag,aw,S.vi,T,bE,bz,O];rw[bo,fj j];exact bm (j+1) bp m
           exact bl t.Y 0 rfl rfl
         . have hn:¬(p.aS.length=0/\p.field≠[]/\(t.kind=3\/t.kind=4)):=λy=>h (U.2 y);refine g_ 8 H2 b3 (by decide) ?_;unfold c6;by_cases c1:1<p.aS.length\/(p.aS.length=1↔p.field≠[])
           ·rw[ab c1]
           . rw [af c1];by_cases c2:p.aS.length=1/\t.kind=5
             . exfalso;refine q ⟨c2.1,?_,c2.2⟩;by_cases ah:p.field=[]
               ·exact ah
               ·exact absurd (.inr ⟨λ_=>ah,λ_=>c2.1⟩) c1
             . rw [af c2];by_cases c3:p.aS.length=1\/¬(t.kind=3\/t.kind=4)
               ·rw[ab c3]
               . exfalso;have bq:p.aS.length=0:=by omega
                 refine hn ⟨bq,?_,by omega⟩;intro ah;exact c1 (.inr ⟨λy=>by omega,λy=>absurd ah y⟩)
        have a0:∀b:Bool,(b=acI↔(p.aS.length=0/\p.field≠[]))->¬(p.aS.length=1/\p.field=[]/\t.kind=5)->G (S.vk Φ (.ptr a 0) (.ptr g 0) ([J,D i],H1) L Q) [.bool b] H2:=by
         intro b U q;simp only[ag,aw,S.vk,T,bP,aH,aaY,t0 B,O,bI,bF];apply gb<;>intro h
         . obtain ⟨g1,g2⟩:=U.1 h;apply jk<;>intro C
           . refine ao _ ?_ q;have ay:t.kind≠3:=by simpa using C
             simp[g1,g2,ay]
           . refine ao _ ?_ q;have ay:t.kind=3:=by simpa using C
             simp[g1,g2,ay]
         . refine ao _ ?_ q;have:¬(p.aS.length=0/\p.field≠[]):=λy=>by have:=U.2 y;rw[h]at this;cases this
           constructor
           ·intro y;cases y
           ·intro y;exact absurd ⟨y.1,y.2.1⟩ this
        have a1:∀b:Bool,(b=acI↔(p.aS.length=1/\p.field=[]/\t.kind=5))->G (S.vm Φ (.ptr a 0) (.ptr g 0) ([J,D i],H1) L Q) [.bool b] H2:=by
         intro b U;simp only[ag,aw,S.vm,T,au];apply aG<;>intro h
         . obtain⟨g1,g2,g3⟩:=U.1 h;obtain⟨e,az,bA⟩:=kq ac g3;simp only[aH,aa8,t5 B,O];have ha:aL acL 6 (av X.cells t.aK) (J)=acK (di X.cells 6 t.aK 0):=b6 (by rw[az];simp);rw[ha];simp only[O];rw[c8 X.len (by decide) _ (show t.aK[0]?=acK e by rw[az];rfl)];simp only[O];rw[B.put t.len e.len e.scalar];simp only[O,T];refine aR e _ (b3.bR ak _) (B.set _) ?_;unfold c6;rw[af (by rw[g1,g2];simp),ab ⟨g1,g3⟩,az]
         . have q:¬(p.aS.length=1/\p.field=[]/\t.kind=5):=λy=>h (U.2 y);simp only[aH,aa8,aaY,m1 F,m0 F,O,bC,bI,kU,bP];apply gb<;>intro a2
           . refine a0 _ ?_ q;have aC:p.aS.length=0:=by simp only[bZ]at a2;omega
             simp[aC]
           . refine a0 _ ?_ q;have aC:p.aS.length≠0:=by simp only[beq_eq_false_iff_ne,ne_eq]at a2;omega
             simp[aC]
        have a4:∀b:Bool,(b=acI↔(p.aS.length=1/\p.field=[]))->G (S.vn Φ (.ptr a 0) (.ptr g 0) ([J,D i],H1) L Q) [.bool b] H2:=by
         intro b U;simp only[ag,aw,S.vn,T,bP,aH,aaY,t0 B,O,bI];apply gb<;>intro h
         . obtain⟨g1,g2⟩:=U.1 h;refine a1 _ ?_;simp[g1,g2]
         . refine a1 _ ?_;have:¬(p.aS.length=1/\p.field=[]):=λy=>by have:=U.2 y;rw[h]at this;cases this
           constructor
           ·intro y;cases y
           ·intro y;exact absurd ⟨y.1,y.2.1⟩ this
        simp only[bP,m0 F,O,fD];apply gb<;>intro h
        . refine a4 _ ?_;have aD:p.aS.length=1:=by simp only[bZ]at h;omega
          simp[aD]
        . refine a4 _ ?_;have aD:p.aS.length≠1:=by simp only[beq_eq_false_iff_ne,ne_eq]at h;omega
          simp[aD]
      exact main x.ax 0 v.type aP rfl aO bb (V8 lK) aa.symm
    . rw[ab lK]at aa;exact stop _ 0 aP aO lK (by rw[aa])
  . rw[h1,ab (by simp[fb])];exact bad 6 _ W (by decide) (by unfold bG;rw[ai])
 have main:∀(k:Nat),k<=vars.length->ar (S.rj Φ (av aB.cells vars) (.ae x.cells) (.ptr c 0) Q) ([D (fb (((vars.drop k).findIdx? λv=>v.V==x.var).map (·+ k))),D ((k:Int)-1)],d):=by
  intro k;induction k with
  | zero=>
   intro _;refine ar.step ?_;simp only[ag,S.rj,T,bE,eD,O,au];rw[cw];have:((vars.drop 0).findIdx? λv=>v.V==x.var).map (·+ 0)=vars.findIdx? λv=>v.V==x.var:=by rw[adf];cases (vars.findIdx? λv=>v.V==x.var)<;>rfl
   rw[this];exact a_
  | succ k am=>
   intro hk;have o:k<vars.length:=by omega
   obtain⟨v,hv⟩:∃v,vars[k]?=acK v:=⟨_,abb o⟩
   have a5:vars.drop k=v::vars.drop (k+1):=by rw[adn o];rw[abb o]at hv;simp at hv;rw[hv]
   have a6:=am (by omega);rw[a5,List.findIdx?_cons]at a6;have br:(((k+1:Nat):Int)-1)=(k:Int):=by omega
   rw[br];refine ar.step ?_;simp only[ag,S.rj,T,bE,eD,O,au];rw[cM,b6 o];have bs:aj d 1 acJ (.ae (((vars.flatMap aB.cells).drop (k*7)).drop 0))=acK (.str v.V):=by show bO _ 0 1 acJ=_;rw[adf,mm aB.len,a5,ac0,aB.cells];rfl
   simp only[O,di,aH,bs,B2,fD,au];have next:∀z:Int,z=fb ((if(v.V==x.var)=acI then acK 0 else((vars.drop (k+1)).findIdx? λv=>v.V==x.var).map (·+ 1)).map (·+ k)) ->
     G (S.vg Φ ([D (fb (((vars.drop (k+1)).findIdx? λv=>v.V==x.var).map (·+ (k+1)))),D k],d) (ar (S.rj Φ (av aB.cells vars) (.ae x.cells) (.ptr c 0) Q)) Q) [D z] d:=by
    intro z hz;simp only[ag,aw,S.vg,T,bE,eH,O];rw[bo,hz];exact a6
   refine gb (λh=>next _ ?_) (λh=>next _ ?_)
   ·rw[ab h];simp[fb]
   . rw[h,cw];cases (vars.drop (k+1)).findIdx? λv=>v.V==x.var with
     |none=>rfl
     |some j=>simp[fb];omega
 have:=main vars.length (hb _);rw[List.drop_length]at this;rw[bo];exact this
end
theorem Wc{x:aJ}(h:x.ok):x.ax.length<=maxLen/\∀p∈x.ax,p.aS.length<=maxLen:=by
 cases x with
 | mk var ax=>
  obtain⟨_,a,b⟩:=h;refine⟨a,λp hp=>?_⟩;have:=aI.eG.1 b p hp;cases p with
  |mk field aS=>exact this.2.1
section
variable{C:Ctx}(ak:cP C)(hT:Cl (ai C) S.b7)
include ak hT
theorem LW(vars:List aB)(x:aJ)(hl:vars.length<=maxLen)(hv:∀v∈vars,v.ok)(a:x.ok):bD (ai C) 26 [av aB.cells vars,.agg x.cells] (gn (bG vars x)):=by
 have hp:=Wc a;have hm:maxLen=9223372036854775807:=by decide
 rw[hm]at hp hl;exact bD.of ak (by simp[I.bV,I.bu,aJ.bu,ko aB.bu]) (B1 _) λQ hQ=>S.QM hT (Wb hT hl hp.1 (λv b=>K3 ak hT v.type (hv v b).2) hQ)
end
theorem LX(vars:List aB):∀(l:List E)(s:aV)(d:Int),fP vars s d l=c_ vars s d l
 |[],s,d=>by rw[fP,c_]
 | e::r,s,d=>by
  rw[fP,c_,LX vars r];by_cases h:s.aR≠0
  ·rw[ab h,J0 vars h]
  ·rw[af h]
def y0(C:Ctx)(id:Nat)(vars:List aB)(l:List E):Prop:=∀(s:aV)(nx:I)(d:Int)(H:Z)(Q:aa),At H id (.row (dI vars s))->ns nx s.u->s.u.length<=1000->0<=d->d<=100->(∀H',bX id H H'->At H' id (.row (dI vars (c_ vars s d l)))->(c_ vars s d l).u=s.u->Q (.aA []) H')->ai C 49 [.ptr id 0,av E.cells l,nx,D d] H Q
section
variable{C:Ctx}(ak:cP C)(hT:Cl (ai C) S.b7){id:Nat}{vars:List aB}
include ak hT
theorem LY(hl:vars.length<=maxLen)(hv:∀v∈vars,v.ok){x:aJ}(B:x.ok)(P:∀p∈x.ax,y0 C id vars p.aS){s:aV}{nx:I}{k d:Int}{H:Z}{Q:aa}(h:At H id (.row (dI vars s)))(hn:ns nx s.u)(V:s.u.length<=1000)(W:0<=d)(Y:d<=100)
  (hQ:∀H',bX id H H'->At H' id (.row (dI vars (gL vars s k d x)))->(gL vars s k d x).u=s.u->Q (.aA []) H'):ai C 48 [.ptr id 0,D k,.agg x.cells,nx,D d] H Q:=by
 obtain⟨aF,aK⟩:=aJ.dL B;refine S.Q6 hT ?_;unfold S.f48;simp only[ag];rw[Cb]at hQ;have l4:∀(R:aV)(H':Z),At H' id (.row (dI vars R))->aj H' 1 acJ (.ptr id (3+1))=acK (D R.aR):=λR H' a=>by rw[a.load];rfl
 have l0:∀(R:aV)(H':Z),At H' id (.row (dI vars R))->aj H' 1 acJ (.ptr id 0)=acK (av aB.cells vars):=λR H' a=>by rw[a.load];rfl
 simp only[k4,aN,b8,aH,aa8,O,l4 s H h,cC,au];apply aG<;>intro q
 . rw[ab (by simpa using q)]at hQ;exact hQ H (bX.refl id H) h rfl
 have hz:s.aR=0:=by simpa using q
 rw[af (by simpa using hz)]at hQ;simp only[l0 s H h,si,O];refine LW ak hT vars x hl hv B _ _ ?_;rw[yL];simp only[bA,ac5,ac6,O,bQ,bc,aN];rw[cn H _ (fH (bG vars x)) 6 (sd _) (yK _) rfl];have h1:=h.push (.row (fH (bG vars x)));have w1:=At.new H (.row (fH (bG vars x)));have k1:=bX.push id H (.row (fH (bG vars x)));have aL:=h.1;refine⟨l0 s _ (h.push _),trivial,?_⟩;generalize H.push _=H1 at *;simp only[O,bI];refine iw ak hT h1 _ _ λH2 k2 F=>?_;have w2:=k2.2 _ _ (by omega) w1;unfold jh at hQ;dsimp only at hQ;generalize lM:s.b_ ((bG vars x).1==0) (bG vars x).1=s1 at *;have G:s1.u=s.u:=by rw[<-lM,eK]
 simp only[dg,O,au];apply aG<;>intro q
 . have q:s1.aR≠0:=by simpa using q
   rw[ik q,J2 vars q]at hQ;exact hQ H2 (k1.trans k2) F G
 have J:s1.aR=0:=by simpa using q
 have ac:(bG vars x).1=0:=by
  have ad:(s.b_ ((bG vars x).1==0) (bG vars x).1).aR=0:=by rw[lM];exact J
  by_cases e:(bG vars x).1=0
  ·exact e
  ·simpa using(e7 ad e).2
 have ah:fH (bG vars x)=(bG vars x).2.cells:=by unfold fH;rw[ab ac]
 rw[ah]at w2;rw[show(s1.aR != 0||ga k (bG vars x).2)=ga k (bG vars x).2 by rw[J];rfl]at hQ;generalize (bG vars x).2=t at *;have t0:∀H',At H' H.n (.row t.cells)->aj H' 1 acJ (.ptr H.n 0)=acK (D t.kind):=λH' a=>by rw[a.load,X.aX];rfl
 have t1:∀H',At H' H.n (.row t.cells)->aj H' 1 acJ (.ptr H.n 1)=acK (D t.size):=λH' a=>by rw[a.load,X.aX];rfl
 have g:S.rv (ai C) (.ptr id 0) nx (D d) (.ae x.cells) Q [.bool (ga k t)] H2:=by
  unfold S.rv;simp only[T];refine iw ak hT F _ _ λal am an=>?_;have ao:(s1.b_ (ga k t) 8).u=s.u:=by rw[eK,G]
  have main:∀(r:List aI)(i:Nat)(R:aV)(f:Z),x.ax.drop i=r->bX id H f->At f id (.row (dI vars R))->R.u=s.u->eT vars R d r=eT vars (s1.b_ (ga k t) 8) d x.ax->ar (S.vZ (ai C) (.ptr id 0) nx (D d) (.ae x.cells) Q) ([D i],f):=by
   intro r;induction r with
   | nil=>intro i R f l m o j he;have hle:=c7 l;rw[eT]at he;refine ar.step ?_;simp only[ag,S.vZ,T,iP,ir,bC,O,aY,au];rw[cQ];exact hQ f m (by rw[<-he];exact o) (by rw[<-he];exact j)
   | cons p r ap=>
    intro i R f l m o j he;obtain⟨w,y,aq⟩:=c4 l;rw[eT,Cc,LX]at he;refine ar.step ?_;simp only[ag,S.vZ,T,iP,ir,bC,O,aY,au];rw[cM,b6 w];simp only[O];obtain ⟨A,e1,ay⟩:∃A,aH 1 (di aI.cells 2 x.ax i)=acK A/\∀H,aj H 1 acJ A=acK (av E.cells p.aS):=by
     refine⟨.ae (((x.ax.flatMap aI.cells).drop (i*2)).drop 1),rfl,λH=>?_⟩;show bO (((x.ax.flatMap aI.cells).drop (i*2)).drop 1) 0 1 acJ=_;rw[sv aI.len,adn w,ac0];rw[abb w]at y;cases y;generalize x.ax[i]=p;cases p with
     | mk field aS=>rw[aI.aX];show bO (av E.cells aS::_) 0 1 acJ=acK (av E.cells aS);unfold bO;rw[lu];rfl
    simp only[e1,ay,O];refine P p (adq y) R nx d f _ o (by rw[j];exact hn) (by rw[j];exact V) W Y λaz aC aD aE=>?_;simp only[bz,O];rw[bo,show(i:Int)+1=((i+1:Nat):Int) by simp];exact ap (i+1) _ az aq (m.trans aC) aD (aE.trans j) he
  exact main x.ax 0 _ al rfl ((k1.trans k2).trans am) an ao rfl
 have K:∀b c:Bool,(b=acI↔(k=5\/k=6))->(b=acJ->c=ga k t)->S.v7 (ai C) (.ptr id 0) nx (D d) (.ae x.cells) (.ptr H.n 0) [.bool c] Q [.bool b] H2:=by
  intro b c U hc;unfold S.v7;simp only[ag];simp only[T,au,aw];apply aG<;>intro q
  . have hk:=U.1 q;have hf:ga k t=(t.kind==2&&t.size==16):=by unfold ga;rw[bL,ab hk]
    rw[hf]at g;simp only[aH,aa8,t0 H2 w2,O,bI,bP];apply aG<;>intro z
    . simp only[t1 H2 w2,O,bI];rw[z,adP]at g;exact g
    . have z:(t.kind==2)=acJ:=by simpa using z
      rw[z,adQ]at g;exact g
  . rw[hc (by simpa using q)];exact g
 have L:∀c:Bool,(¬(k=5\/k=6)->c=ga k t)->S.v8 (ai C) (.ptr id 0) (D k) nx (D d) (.ae x.cells) (.ptr H.n 0) Q [.bool c] H2:=by
  intro c hc;unfold S.v8;simp only[ag];simp only[bI,O,bF,aw];apply dC<;>intro q
  . have q:¬k=5:=by simpa using q
    refine K _ c ⟨λz=> .inr (by simpa using z),λz=>?_⟩ (λz=>hc ?_)
    . rcases z with z|z
      ·exact absurd z q
      ·simpa using z
    . have z:¬k=6:=by simpa using z
      omega
  . have q:k=5:=by simpa using q
    exact K acI c ⟨λ_=> .inl q,λ_=>rfl⟩ (λz=>by cases z)
 have M:∀c:Bool,c=(t.kind==2&&decide (t.size<=8))->S.wa (ai C) (.ptr id 0) (D k) nx (D d) (.ae x.cells) (.ptr H.n 0) Q [.bool c] H2:=by
  intro c hc;have N:∀b:Bool,(b=acI↔(k=3\/k=14))->S.v_ (ai C) (.ptr id 0) (D k) nx (D d) (.ae x.cells) (.ptr H.n 0) [.bool c] Q [.bool b] H2:=by
   intro b U;unfold S.v_;simp only[ag];simp only[T,au,aw];apply aG<;>intro q
   . have hk:=U.1 q;simp only[aH,aa8,t0 H2 w2,O,bI];refine L _ (λ_=>?_);unfold ga;rw[ab hk]
   . have hk:¬(k=3\/k=14):=λz=>q (U.2 z);refine L _ (λz=>?_);unfold ga;rw[af hk,af z];exact hc
  unfold S.wa;simp only[ag];simp only[bI,O,bF,aw];apply dC<;>intro q
  . have q:¬k=3:=by simpa using q
    refine N _ ⟨λz=> .inr (by simpa using z),λz=>?_⟩;rcases z with z|z
    ·exact absurd z q
    ·simpa using z
  . have q:k=3:=by simpa using q
    exact N acI ⟨λ_=> .inl q,λ_=>rfl⟩
 simp only[t0 H2 w2,O,bI,bP,aw];apply aG<;>intro z
 . simp only[aH,aa8,t1 H2 w2,O,gl];exact M _ (by rw[z,adP])
 . have z:(t.kind==2)=acJ:=by simpa using z
   exact M acJ (by rw[z,adQ])
end
section
variable{Φ:ad}{k o:Int}{H:Z}{Q:aa}
theorem Wd(s:List UInt8)(hs:s.length<1000)(e:∀c∈s,48<=c.toNat/\c.toNat<=57)(hQ:Q (.bool (s.any λc=>o==((c.toNat:Int)-48))) H):S.mX Φ (D o) Q [.str s] H:=by
 unfold S.mX;have main:∀(b:List UInt8)(i:Nat),s.drop i=b->Q (.bool (b.any λc=>o==((c.toNat:Int)-48))) H->ar (S.vW Φ (D o) [.str s] Q) ([D i],H):=by
  intro b;induction b with
  | nil=>
   intro i hi a;have:s.length<=i:=by simpa using hi
   refine ar.step ?_;simp only[ag,S.vW,T,pT,aY,O,au];rw[Ee];simpa using a
  | cons y b f=>
   intro i hi a;obtain⟨j,d,g⟩:=c4 hi;have hm:=e y (adq d);refine ar.step ?_;simp only[ag,S.vW,T,pT,aY,O,au];rw[oQ];have h:ju (.str s) (D i)=acK (.int .u8 y.toNat):=by simp only[ju];rw[dN];simp[d]
   rw[h];simp only[O,eH,iL];rw[wrap_u8 (by omega) (by omega),bo];simp only[bI,O,au];by_cases he:(o==((y.toNat:Int)-48))=acI
   . rw[ab he];rw[adM,he]at a;simpa using a
   . rw[af he];simp only[Bool.not_eq_true]at he;rw[adM,he]at a;simp only[bz,O];rw[bo,fj i];exact f (i+1) g (by simpa using a)
 exact main s 0 rfl hQ
theorem We(hQ:Q (.bool (fO k o)) H):S.f46 Φ (D k) (D o) H Q:=by
 have e:∀b:Bool,b=fO k o->Q (.bool b) H:=λb h=>by rw[h];exact hQ
 have l:∀s:List UInt8,s.length<1000->(∀c∈s,48<=c.toNat/\c.toNat<=57)->(s.any λc=>o==((c.toNat:Int)-48))=fO k o->S.mX Φ (D o) Q [.str s] H:=λs h1 a d=>Wd s h1 a (e _ d);simp only[ag,S.f46,S.vX,S.A9,S.A_,aw,T,bI,O,au]
 repeat' (apply aG<;>intro h)
 all_goals (refine l _ (by decide) (by decide) ?_;simp only[bZ]at *;first|(subst_vars;simp[fO];done)|(subst_vars;simp[fO];rw[acm];simp;omega)|(simp_all [fO];done)|(simp_all [fO];rw[acm];simp;omega)|skip)
end
section
variable{C:Ctx}(hT:Cl (ai C) S.b7)
include hT
theorem LZ(k o:Int):bD (ai C) 46 [D k,D o] (.bool (fO k o)):=λH Q hQ=>S.Q4 hT (We hQ)
end
variable{H:Z}{e:E}
theorem Wf{id:Nat}(h:At H id (.row e.cells)):aj H 1 acJ (.ptr id 2)=acK (.str e.V):=by rw[h.load,E.aX,aJ.aX];rfl
theorem Wg{id:Nat}(h:At H id (.row e.cells)):aj H 1 acJ (.ptr id 4)=acK (D e.a_):=by rw[h.load,E.aX,aJ.aX];rfl
def L0(C:Ctx)(id:Nat)(vars:List aB)(e:E):Prop:=y0 C id vars e.br/\∀p∈e.place.ax,y0 C id vars p.aS
section
variable{C:Ctx}(ak:cP C)(hT:Cl (ai C) S.b7){id:Nat}{vars:List aB}
include ak hT
theorem y1(ay:vars.length<=maxLen)(hv:∀v∈vars,v.ok){l:List E}(hl:l.length<=9223372036854775807)(az:∀e∈l,e.ok/\L0 C id vars e):y0 C id vars l:=by
 intro s nx d H Q h hn ad d0 d1 hQ;refine S.Q7 hT ?_;unfold S.f49;have l4:∀(R:aV)(H':Z),At H' id (.row (dI vars R))->aj H' 1 acJ (.ptr id (3+1))=acK (D R.aR):=λR H' aB=>by rw[aB.load];rfl
 have main : ∀(r:List E)(i:Nat)(R:aV)(a:Z),l.drop i=r->bX id H a->At a id (.row (dI vars R))->R.u=s.u->c_ vars R d r=c_ vars s d l->ar (S.pA (ai C) (.ptr id 0) (av E.cells l) nx (D d) Q) ([D i],a):=by
  intro r;induction r with
  | nil=>intro i R a M x j m he;have hle:=c7 M;rw[c_]at he;refine ar.step ?_;simp only[ag,S.pA,T,bC,O,aY,bP,aw];rw[cQ];unfold S.wg;simp only[T,au];rw[cw];exact hQ a x (by rw[<-he];exact j) (by rw[<-he];exact m)
  | cons e r aC=>
   intro i R a M x j m he;obtain⟨aD,ae,aE⟩:=c4 M;obtain⟨aF,aI,aJ⟩:=az e (adq ae);obtain⟨⟨a2,a3⟩,aK⟩:=E.dL aF;refine ar.step ?_;simp only[ag,S.pA,T,bC,O,aY,bP,aw];rw[cM];simp only[b8,aH,aa8,O,l4 R a j,bI];unfold S.wg;simp only[T,au,aw];apply aG<;>intro q
   . have hz : R.aR=0:=by simpa using q
     rw[c_,af (by simpa using hz),Ca]at he;unfold S.GX;simp only[ag];simp only[T];rw[b6 aD];simp only[O];rw[c8 E.len (by decide) _ ae];simp only[O,bQ,bc,aN];rw[cn _ _ _ 8 e.len e.scalar rfl];have aL:=At.new a (.row e.cells);have aM:=j.push (.row e.cells);have aO:=x.trans (bX.push id a (.row e.cells));have a4:=j.1;simp only[O,aY];generalize a.push _=a5 at *;have N:B (d+1)=d+1:=bo;rw[N]at he;have aP:decide (d<64)=decide (d+1<=64):=by rw[acm];simp;omega
     rw[aP];have hH:dY R (d+1) e=((R.b_ (decide (d+1<=64)) 5).b_ (fp e) 4).b_ (fO (B (10+e.kind)) e.a_) 11:=rfl;have bad:∀(g:Z),bX id H g->(dY R (d+1) e).aR≠0->At g id (.row (dI vars (dY R (d+1) e)))->Q (.aA []) g:=by intro g A U F;rw[ab U,r2 vars U]at he;exact hQ g A (by rw[<-he];exact F) (by rw[<-he,yT];exact m)
     refine iw ak hT aM _ _ λg A F=>?_;simp only[dg,O,bF,aw];generalize lM:R.b_ (decide (d+1<=64)) 5=s1 at *;have ah:=aO.trans A;have al:=A.2 _ _ (by omega) aL;apply dC<;>intro b
     . have b:s1.aR=0:=by simpa using b
       have a6:d+1<=64:=by have:=(e7 (by rw[lM];exact b) (by decide)).2;simpa using this
       rw[Uv al];simp only[O];refine V0 ak hT e _ _ ?_;refine iw ak hT F _ _ λaQ am an=>?_;simp only[dg,O];generalize hC:s1.b_ (fp e) 4=s2 at *;have ao:=ah.trans am;have P:=am.2 _ _ (by omega) al;unfold S.we;simp only[ag];simp only[T,bF,aw];apply dC<;>intro z2
       . have z2:s2.aR=0:=by simpa using z2
         simp only[aH,aa8,Cs P,Wg P,O,bz];refine LZ hT _ _ _ _ ?_;refine iw ak hT an _ _ λap aq h9=>?_;simp only[dg,O];rw[<-hH]at h9 ⊢;have W:=ao.trans aq;have G:=aq.2 _ _ (by omega) P;unfold S.ry;simp only[T,au,aw];apply aG<;>intro z3
         ·exact bad ap W (by simpa using z3) h9
         have z3:(dY R (d+1) e).aR=0:=by simpa using z3
         rw[af (by simpa using z3)]at he;have aS:=yT R (d+1) e;generalize dY R (d+1) e=X at *;have Y:X.u=s.u:=by rw[aS,m]
         have ax:∀(k:aV)(c:Z),bX id H c->At c id (.row (dI vars k))->At c a.n (.row e.cells)->k.u=s.u->c_ vars (c_ vars (if e.kind>=4 then gL vars k (B (10+e.kind)) (d+1) e.place else k) (d+1) e.br) d r=c_ vars s d l->S.wc (ai C) (.ptr id 0) nx (D d) (.ptr a.n 0) ([D i],a) (ar (S.pA (ai C) (.ptr id 0) (av E.cells l) nx (D d) Q)) Q [] c:=by
          intro k c o p I J K;have k2:∀(t:aV)(f:Z),bX id H f->At f id (.row (dI vars t))->At f a.n (.row e.cells)->t.u=s.u->c_ vars (c_ vars t (d+1) e.br) d r=c_ vars s d l->S.wb (ai C) (.ptr id 0) nx (D d) (.ptr a.n 0) ([D i],a) (ar (S.pA (ai C) (.ptr id 0) (av E.cells l) nx (D d) Q)) Q [] f:=by intro t f L aa aT ac aU;unfold S.wb;simp only[ag];simp only[aH,aa8,Uu aT,O,bz];rw[show abu .i64 (d+1)=d+1 from N];refine aI t nx (d+1) f _ aa (by rw[ac];exact hn) (by rw[ac];exact ad) (by omega) (by omega) λaW aX aZ a0=>?_;simp only[ag,aw,S.GV,T,bz,O];rw[wrap_i64 (n:=(i:Int)+1) (by omega) (by omega),show(i:Int)+1=((i+1:Nat):Int) by simp];exact aC (i+1) _ aW aE (L.trans aX) aZ (a0.trans ac) aU
          unfold S.wc;simp only[ag];simp only[aH,aa8,Cs I,O,eD,au,aw];apply aG<;>intro z4
          . have z4:e.kind>=4:=of_decide_eq_true z4;rw[ab z4]at K;simp only[Ut I,O,bz];rw[show abu .i64 (d+1)=d+1 from N];refine LY ak hT ay hv aK aJ p (by rw[J];exact hn) (by rw[J];exact ad) (by omega) (by omega) λf L aa a1=>?_;exact k2 _ f (o.trans L) aa (L.2 _ _ (by omega) I) (a1.trans J) K
          . have z4:¬e.kind>=4:=λz=>z4 (decide_eq_true z);rw[af z4]at K;exact k2 k c o p I J K
         unfold S.GW;simp only[ag];simp only[aH,aa8,Cs G,O,bI,au,aw];apply aG<;>intro z4
         . have z4:e.kind=2:=by simpa using z4
           simp only[z4,bc]at he;simp only[Wf G,O];refine sK ak hT hn (by omega) e.V _ _ ?_;refine iw ak hT h9 _ _ λc o p=>?_;rw[show(s.u.any λy=>e.V==y)=X.has e.V by rw[<-Y];rfl]at p;refine ax _ c (W.trans o) p (o.2 _ _ (by omega) G) (by rw[eK,Y]) ?_;rw[z4];exact he
         . have z4:¬e.kind=2:=by simpa using z4
           simp only[z4,b4]at he;exact ax X ap W h9 G Y he
       . have z2:s2.aR≠0:=by simpa using z2
         have w:dY R (d+1) e=s2:=by rw[hH,ik z2]
         unfold S.ry;simp only[T,au];rw[ab trivial];exact bad aQ ao (by rw[w];exact z2) (by rw[w];exact an)
     . have b:s1.aR≠0:=by simpa using b
       have w:dY R (d+1) e=s1:=by rw[hH,ik b,ik b]
       unfold S.we;simp only[ag];simp only[T,bF,aw];rw[cw];unfold S.ry;simp only[T,au];rw[ab trivial];exact bad g ah (by rw[w];exact b) (by rw[w];exact F)
   . have hz:R.aR≠0:=by simpa using q
     rw[r2 vars hz]at he;exact hQ a x (by rw[<-he];exact j) (by rw[<-he];exact m)
 exact main l 0 s H rfl (bX.refl id H) h rfl rfl
theorem L1(b:vars.length<=maxLen)(hv:∀v∈vars,v.ok):∀e:E,e.ok->L0 C id vars e:=by refine E.ind λe d f he=>?_;obtain⟨⟨g,c⟩,h⟩:=E.dL he;have a:=aJ.dL h;exact⟨y1 ak hT b hv g λk hk=>⟨c k hk,d k hk (c k hk)⟩,λp hp=>y1 ak hT b hv (a.2 p hp).1 λi hi=>⟨(a.2 p hp).2 i hi,f p hp i hi ((a.2 p hp).2 i hi)⟩⟩
end
end Rb
namespace Rb
open Go
def L2:List UInt8:=[118,97,114,32,116,104,114,101,97,100,32,115,116,114,117,99,116,32,117,110,105,111,110,32,112,97,99,107,101,100,32,117,56,32,117,49,54,32,117,51,50,32,117,54,52,32,97,56,32,97,49,54,32,97,51,50,32,97,54,52,32,97,49,50,56,32,108,101,116,32,115,101,116,32,119,114,105,116,101,32,115,116,111,114,101,32,108,111,97,100,50,32,115,116,111,114,101,50,32,102,101,110,99,101,32,105,102,32,101,108,115,101,32,119,104,105,108,101,32,112,114,105,110,116,32,114,101,97,100,32,108,111,97,100,32,97,100,100,32,115,119,97,112,32,99,97,115,32,114,108,120,32,97,99,113,32,114,101,108,32,115,99]
def iy:List (List UInt8):=[[118,97,114],[116,104,114,101,97,100],[115,116,114,117,99,116],[117,110,105,111,110],[112,97,99,107,101,100],[117,56],[117,49,54],[117,51,50],[117,54,52],[97,56],[97,49,54],[97,51,50],[97,54,52],[97,49,50,56],[108,101,116],[115,101,116],[119,114,105,116,101],[115,116,111,114,101],[108,111,97,100,50],[115,116,111,114,101,50],[102,101,110,99,101],[105,102],[101,108,115,101],[119,104,105,108,101],[112,114,105,110,116],[114,101,97,100],[108,111,97,100],[97,100,100],[115,119,97,112],[99,97,115],[114,108,120],[97,99,113],[114,101,108],[115,99]]
def bx(s:List UInt8):Bool:=iy.any λx=>s==x
section
variable{C:Ctx}(ak:cP C)(hT:Cl (ai C) S.b7)
include ak hT
theorem Wh(hF:∀(H:Z)(Q:aa),Q (.aq .dead 34 (iy.map .str)) H->ai C 137 [.str L2] H Q)(s:List UInt8):bD (ai C) 93 [.str s] (.bool (bx s)):=by
 intro H Q hQ;refine S.RB hT ?_;unfold S.f93;refine hF _ _ ?_;refine Cj hT (xs:=iy) rfl (λi x a=>?_) (by decide) hQ;have b:=(aal.1 a).1;refine⟨.ae ((iy.map I.str).drop (i*1)),?_,?_⟩
 . simp only[aL];have hl:iy.length=34:=rfl;rw[ab ⟨by omega,by omega⟩];simp
 . show bO _ 0 1 acJ=_;unfold bO;rw[ab (by rw[adx,abI];omega)];simp[a]
theorem L3(s:List UInt8):bD (ai C) 18 [.str s] (.bool (bx s)):=by
 intro H Q hQ;refine S.QG hT ?_;unfold S.f18;refine S.QZ hT ?_;unfold S.f41;refine⟨.aq .full 34 (iy.map .str),H,by rfl,?_⟩;have main:∀(r:List (List UInt8)) (k:Nat),iy.drop k=r->r.any (λx=>s==x)=bx s->ar (S.u3 (ai C) (.str s) (.aq .full 34 (iy.map .str)) Q) ([D k],H):=by
  intro r;induction r with
  | nil=>intro k a U;have hle:=c7 a;have hl:iy.length=34:=rfl;refine ar.step ?_;simp only[ag,S.u3,T];rw[show ea acJ (.aq .full 34 (iy.map .str))=acK (D 34)from rfl];simp only[O,aY,au];rw[cQ];rw[<-U]at hQ;exact hQ
  | cons x r b=>
   intro k a U;obtain⟨g,c,d⟩:=c4 a;have hl:iy.length=34:=rfl;refine ar.step ?_;simp only[ag,S.u3,T];rw[show ea acJ (.aq .full 34 (iy.map .str))=acK (D 34)from rfl];simp only[O,aY,au];rw[cM];have ha:aL acL 1 (.aq .full 34 (iy.map .str)) (D k)=acK (.ae ((iy.map I.str).drop (k*1))):=by simp only[aL];rw[ab ⟨by omega,by omega⟩];simp
   have hv:aj H 1 acJ (.ae ((iy.map I.str).drop (k*1)))=acK (.str x):=by show bO _ 0 1 acJ=_;unfold bO;rw[ab (by rw[adx,abI];omega)];simp[c]
   simp only[ha,hv,O,fD,au];rw[adM]at U;apply aG<;>intro q
   . have q:x=s:=by simpa using q
     rw[q]at U;have:bx s=acI:=by rw[<-U];simp
     rw[this]at hQ;exact hQ
   . have q:¬x=s:=by simpa using q
     have f:(s==x)=acJ:=by simpa using λe=>q e.symm
     rw[f,acq]at U;simp only[bz,O];rw[bo,show(k:Int)+1=((k+1:Nat):Int) by simp];exact b (k+1) d U
 exact main iy 0 rfl rfl
end
variable{H:Z}{s:aV}{e:aC}{n0:Nat}{x:I}
theorem k6(a b:I)(l:List I):N (a::b::l) 1=b:=rfl
theorem oA{id:Nat}(h:At H id (.row e.cells)):aj H 1 acJ (.ptr id 2)=acK (.str e.V):=by rw[h.load,aC.aX,aJ.aX];rfl
theorem L4{id:Nat}(h:At H id (.row e.cells)):aj H 1 acJ (.ptr id 3)=acK (.str e.b9):=by rw[h.load,aC.aX,aJ.aX];rfl
theorem Wi{id:Nat}(h:At H id (.row e.cells)):aj H 1 acJ (.ptr id 4)=acK (D e.a_):=by rw[h.load,aC.aX,aJ.aX];rfl
def jG(H:Z)(id:Nat)(vars:List aB)(s:aV):Prop:=∃R,At H id (.row (dI vars R))/\R.aR=s.aR/\R.hE=s.hE/\(s.aR=0->R.lets=s.lets)
theorem jG.of{id:Nat}{vars:List aB}(h:At H id (.row (dI vars s))):jG H id vars s:=⟨s,h,rfl,rfl,λ_=>rfl⟩
theorem jG.bh{id:Nat}{vars:List aB}{s t:aV}(h:jG H id vars s)(f:t.aR=s.aR)(g:t.hE=s.hE)(i:s.aR=0->t.lets=s.lets):jG H id vars t:=by obtain⟨R,a,b,c,d⟩:=h;exact⟨R,a,b.trans f.symm,c.trans g.symm,λe=>(d (f▸e)).trans (i (f▸e)).symm⟩
def LI(s:aV):Prop:=s.aR=0->(s.u.length:Int)<=s.lets/\s.lets<=40
theorem Wj(vars:List aB)(kw:List UInt8->Bool)(h:s.aR≠0)(d:Int)(x:aC):eg vars kw s d x=s:=by
 unfold eg;split
 ·rw[ik h,ik h,ik h]
 . split
   ·rw[ik h]
   . split
     ·rw[TU vars h]
     ·rfl
theorem Wk(s:aV)(x:aC)(h:s.aR≠0):(gq s x).aR=s.aR/\(gq s x).hE=s.hE:=by
 unfold gq;split
 ·exact⟨rfl,rfl⟩
 . split
   ·rw[ik h,ik h,ik h];exact⟨rfl,rfl⟩
   ·exact⟨rfl,rfl⟩
theorem Wl(vars:List aB)(kw:List UInt8->Bool){d:Int}{x:aC}(h:(eB s d x).aR≠0):(stM vars kw s d x).aR=(eB s d x).aR/\(stM vars kw s d x).hE=(eB s d x).hE:=by
 have U:(dA vars kw s d x).aR=(eB s d x).aR/\(dA vars kw s d x).hE=(eB s d x).hE:=by unfold dA;rw[Wj vars kw h,r2 vars h];exact Wk _ x h
 have a:(dA vars kw s d x).aR≠0:=by rw[U.1];exact h
 rw[stM_eq];unfold et;rw[kX vars kw a,kX vars kw (s:=(((dA vars kw s d x).back _).at x.ay)) a];exact U
def sL(C:Ctx)(id:Nat)(vars:List aB)(kw:List UInt8->Bool)(l:List aC):Prop:=∀(s:aV)(nx:I)(d:Int)(H:Z)(Q:aa),jG H id vars s->ns nx s.u->s.u.length<=100->LI s->0<=d->d<=65->(∀H',bX id H H'->jG H' id vars (et vars kw s d l)->LI (et vars kw s d l)->Q (.aA []) H')->ai C 21 [.ptr id 0,av aC.cells l,nx,D d] H Q
theorem oB{l:List (List UInt8)}(h:cc n0 H 1 x l.length (l.map I.str)):ns x l:=by obtain⟨tk,rfl,_⟩:=h;exact⟨tk,rfl⟩
theorem cc.iS{H H':Z}{sz len id:Nat}{cells cs:List I}(h:cc n0 H sz x len cells)(c:At H id (.row cs))(k:bX id H H'):cc n0 H' sz x len cells:=h.frame λt a b ht=>k.2 t _ (λe=>by subst e;exact absurd (ht.2.symm.trans c.2) (by intro q;cases q)) ht
theorem hJ(s:aV)(a:Bool)(e:Int):(s.b_ a e).lets=s.lets:=by unfold aV.b_;split<;>rfl
theorem sM(s:aV)(d:Int)(e:E):(dY s d e).lets=s.lets:=by unfold dY;rw[hJ,hJ,hJ]
theorem Wm(s:aV)(d:Int)(e:aC):(eB s d e).lets=s.lets:=by unfold eB;rw[hJ,hJ,hJ]
section
variable(vars:List aB)
theorem Wn(s:aV)(k:Int)(x:aJ):(jh vars s k x).lets=s.lets:=by unfold jh;dsimp only;rw[hJ,hJ]
mutual
theorem L5:∀(e:E)(s:aV)(d:Int),(iO vars s d e).lets=s.lets
 | .mk kind n V op a_ place br,s,d=>by
  rw[iO];split
  ·exact sM _ _ _
  . rw [CY br];split
    . rw[L6 place];split
      ·rw[hJ,sM]
      ·exact sM _ _ _
    . split
      ·rw[hJ,sM]
      ·exact sM _ _ _
theorem CY:∀(l:List E)(s:aV)(d:Int),(c_ vars s d l).lets=s.lets
 |[],s,d=>by rw[c_]
 | e::r,s,d=>by
  rw[c_,CY r];split
  ·rfl
  ·exact L5 e s _
theorem L6:∀(x:aJ)(s:aV)(k d:Int),(gL vars s k d x).lets=s.lets
 | .mk var ax,s,k,d=>by
  rw[gL];split
  ·rfl
  ·rw[L7 ax,Wn]
theorem L7:∀(l:List aI)(s:aV)(d:Int),(eT vars s d l).lets=s.lets
 |[],s,d=>by rw[eT]
 |p::r,s,d=>by rw[eT,L7 r,Wo p]
theorem Wo:∀(p:aI)(s:aV)(d:Int),(jY vars s d p).lets=s.lets
 | .mk field aS,s,d=>by rw[jY,L8 aS]
theorem L8:∀(l:List E)(s:aV)(d:Int),(fP vars s d l).lets=s.lets
 |[],s,d=>by rw[fP]
 |e::r,s,d=>by rw[fP,L8 r,L5 e]
end
end
section
variable{C:Ctx}(ak:cP C)(hT:Cl (ai C) S.b7){id:Nat}{vars:List aB}
include ak hT
theorem CZ(aK:vars.length<=maxLen)(hv:∀v∈vars,v.ok){l:List aC}(hl:l.length<=9223372036854775807)(cq:∀x∈l,x.ok)(hB:∀x∈l,sL C id vars bx x.aZ/\sL C id vars bx x.bw):sL C id vars bx l:=by
 intro s nx d H Q h hn dj cr d0 d1 hQ;refine S.QJ hT ?_;unfold S.f21;have ct:∀K:aa,(∀own H1,cc H.n H1 1 own s.u.length (s.u.map I.str)->Left H.n H H1->K own H1)->bs (cZ H acJ 1 16 (.aq .full 0 []) nx) K:=by
  intro K a8;obtain⟨tk,rfl⟩:=hn;by_cases hz:s.u=[]
  . rw[hz]at a8 ⊢;exact⟨_,_,rfl,a8 _ _ ⟨.full,rfl,rfl,.inr (.inl rfl)⟩ ⟨hb _,λi o hi _=>hi⟩⟩
  . have cu:s.u.length≠0:=λe=>hz (abF.1 e);have cv:cc H.n H 1 (.aq .full 0 []) 0 []:=⟨.full,rfl,rfl,.inr (.inl rfl)⟩
    refine cc.app (len:=0) (m:=s.u.length) (news:=s.u.map I.str) cv (hb _) (by show(if _ then _ else _)=_;rw[lu]) (by simp) (by simp[I.scalar]) cu (by omega) (by omega) λcx H' aL cy=>?_;rw[aa8,List.nil_append]at aL;exact a8 cx H' aL cy
 rw[show cI H acJ 1 0 [.str []] []=acK (.aq .full 0 [],H)from rfl];simp only[aN];refine ct _ λown H1 a9 bL=>?_;have bM:id<H.n:=by obtain⟨R,a,_⟩:=h;exact a.1
 have k1:bX id H H1:=(bX.refl id H).left bL;have h1:jG H1 id vars s:=by obtain⟨R,a,b⟩:=h;exact⟨R,bL.2 _ _ a (.inl bM),b⟩
 have cz:∀(R:aV)(H':Z),At H' id (.row (dI vars R))->aj H' 1 acJ (.ptr id (3+1))=acK (D R.aR):=λR H' ba=>by rw[ba.load];rfl
 have l1:∀(R:aV)(H':Z),At H' id (.row (dI vars R))->aj H' 1 acJ (.ptr id 1)=acK (D R.lets):=λR H' ba=>by rw[ba.load];rfl
 have main : ∀ (r:List aC) (i:Nat) (R:aV) (own:I) (f:Z),l.drop i=r->bX id H f->jG f id vars R->(R.aR=0->cc H.n f 1 own R.u.length (R.u.map I.str))->LI R->eI vars bx R s.u.length d r=eI vars bx s s.u.length d l->ar (S.mi (ai C) (.ptr id 0) (av aC.cells l) (D d) Q) ([own,D i],f):=by
  intro r;induction r with
  | nil=>
   intro i R own f bb a0 bd bN be he;have hle:=c7 bb;rw[eI]at he;refine ar.step ?_;simp only[ag,S.mi,T,k6,bC,O,aY,bP,aw];rw[cQ];unfold S.vc;simp only[T,au];rw[cw];have ac:et vars bx s d l=R.back s.u.length:=he.symm;refine hQ f a0 ?_ ?_
   ·rw[ac];exact bd.bh rfl rfl (λ_=>rfl)
   . rw[ac];intro e;have:=be e;show((R.u.take s.u.length).length:Int)<=R.lets/\R.lets<=40;rw[adI];omega
  | cons x r cA =>
   intro i R own f bb a0 bd bN be he;obtain⟨cB,aL,cC⟩:=c4 bb;have bO:=adq aL;obtain⟨cD,bS⟩:=hB x bO;obtain⟨bT,⟨cE,bU⟩,_,_⟩:=aC.dL (cq x bO);have bf:=aJ.dL bT;obtain⟨bV,a1,e1,bW,bY⟩:=bd;refine ar.step ?_;simp only[ag,S.mi,T,k6,bC,O,aY,bP,aw];rw[cM];simp only[b8,aH,aa8,O,cz bV f a1,bI];unfold S.vc;simp only[T,au,aw];apply aG<;>intro q
   . have hz : R.aR = 0 := by rw [<- e1]; simpa using q
     have a9:=bN hz;obtain⟨bZ,b0⟩:=be hz;rw[eI,af (by simpa using hz)]at he;unfold S.Ge;simp only[ag];simp only[T,k6];rw[b6 cB];simp only[O];rw[c8 aC.len (by decide) _ aL];simp only[O,bQ,bc,aN];rw[cn _ _ _ 10 x.len x.scalar rfl];have b3:=At.new f (.row x.cells);have bg:=a1.push (.row x.cells);have cF:=a0.trans (bX.push id f (.row x.cells));have cG:cc H.n (f.push (.row x.cells)) 1 own R.u.length (R.u.map I.str):=a9.frame λt a b ht=>ht.push _;have dk:=a1.1;simp only[O];have dl:(f.push (.row x.cells)).n=f.n+1:=rfl;generalize f.push _=al at *;have w:id≠f.n:=by omega
     simp only[aH,aa8,Uw b3,O,b8];rw [show cf al 1 (.ptr id 2) (D x.ay)=acK (al.set id (.row (dI vars (R.at x.ay)))) by rw[bg.store,ab ⟨rfl,rfl,rfl,(by show 2+1<=5;decide)⟩];unfold dI aV.at;rw[<-e1,<-bW,<-bY hz];rfl]
     have b4:=bg.set (.row (dI vars (R.at x.ay)));have cH:At (al.set id (.row (dI vars (R.at x.ay)))) f.n (.row x.cells):=b3.bR (λe=>w e.symm) _;have cJ:=cF.trans (bX.set id al (.row (dI vars (R.at x.ay))));have cK:cc H.n (al.set id (.row (dI vars (R.at x.ay)))) 1 own R.u.length (R.u.map I.str):=cG.iS bg (bX.set id al _);simp only[O,gl];generalize al.set id (.row (dI vars (R.at x.ay)))=dm at *;have lM:(R.at x.ay).u=R.u:=rfl;have cL:(R.at x.ay).lets=R.lets:=rfl;generalize R.at x.ay=s1 at *;have b5:B (d+1)=d+1:=bo;have hH:eB s1 d x=((s1.b_ (decide (d<=64)) 5).b_ (gp x) 4).b_ (fO x.kind x.a_) 11:=rfl;have bad:∀(am:Z),bX id H am->(eB s1 d x).aR≠0->At am id (.row (dI vars (eB s1 d x)))->Q (.aA []) am:=by
      intro am aM U aO;obtain⟨b1,b2⟩:=Wl vars bx U;rw[kX vars bx (by rw[b1];exact U)]at he;have ac:et vars bx s d l=(stM vars bx s1 d x).back s.u.length:=he.symm;refine hQ am aM ?_ ?_
      ·rw[ac];exact(jG.of aO).bh b1 b2 (λe=>absurd e U)
      . rw[ac];intro e;exact absurd (b1▸e:(eB s1 d x).aR=0) U
     refine iw ak hT b4 _ _ λam aM aO=>?_;simp only[dg,O,bF,aw];generalize hC:s1.b_ (decide (d<=64)) 5=s2 at *;have b7:=cJ.trans aM;have ca:=aM.2 _ _ (λe=>w e.symm) cH;have cN:=cK.iS b4 aM;apply dC<;>intro ad
     . have ad : s2.aR=0:=by simpa using ad
       have dn:d<=64:=by have:=(e7 (by rw[hC];exact ad) (by decide)).2;simpa using this
       rw[UB ca];simp only[O];refine V1 ak hT x _ _ ?_;refine iw ak hT aO _ _ λcO bi h9=>?_;simp only[dg,O];generalize lN:s2.b_ (gp x) 4=bj at *;have cb:=b7.trans bi;have bk:=bi.2 _ _ (λe=>w e.symm) ca;have cP:=cN.iS aO bi;unfold S.vb;simp only[ag];simp only[T,bF,aw];apply dC<;>intro z2
       . have z2 : bj.aR=0:=by simpa using z2
         simp only[aH,aa8,p6 bk,Wi bk,O];refine LZ hT _ _ _ _ ?_;refine iw ak hT h9 _ _ λa2 bl F=>?_;simp only[dg,O];rw[<-hH]at F ⊢;have aP:=cb.trans bl;have J:=bl.2 _ _ (λe=>w e.symm) bk;have ax:=cP.iS h9 bl;unfold S.re;simp only[T,au,aw];apply aG<;>intro z3
         ·exact bad a2 aP (by simpa using z3) F
         have z3:(eB s1 d x).aR=0:=by simpa using z3
         have cR:=sy s1 d x;have cS:=Wm s1 d x;have bm:dA vars bx s1 d x=gq (c_ vars (eg vars bx (eB s1 d x) d x) d x.bn) x:=rfl;generalize eB s1 d x=g at *;have N:g.u=R.u:=by rw[cR,lM]
         have aQ:g.lets=R.lets:=by rw[cS,cL]
         have bp:∀(E:I)(an:Z),bX id H an->At an id (.row (dI vars (dA vars bx s1 d x)))->At an f.n (.row x.cells)->cc H.n an 1 E (dA vars bx s1 d x).u.length ((dA vars bx s1 d x).u.map I.str)->LI (dA vars bx s1 d x)->(dA vars bx s1 d x).u.length<=100 ->
           S.u7 (ai C) (.ptr id 0) (D d) (.ptr f.n 0) ([own,D i],f) (ar (S.mi (ai C) (.ptr id 0) (av aC.cells l) (D d) Q)) [E] Q [] an:=by
          intro E an cT cd ce cg cU bq;have a3:=stM_eq vars bx s1 d x;generalize dA vars bx s1 d x=c at *;rw[b5]at a3;unfold S.u7;simp only[ag];simp only[T,k6,aH,aa8,Uz ce,O,bz];rw[show abu .i64 (d+1)=d+1 from b5];refine cD c E (d+1) an _ (jG.of cd) (oB cg) bq cU (by omega) (by omega) λbr bt bu cV=>?_;have cW:=bt.2 _ _ (λe=>w e.symm) ce;have bv:=cg.iS cd bt;have ch:=cT.trans bt;simp only[UA cW,O];have fin:∀L,bX id H L->jG L id vars (stM vars bx s1 d x)->((stM vars bx s1 d x).aR=0->cc H.n L 1 E (stM vars bx s1 d x).u.length ((stM vars bx s1 d x).u.map I.str))->LI (stM vars bx s1 d x)->G (S.A3 (ai C) ([own,D i],f) (ar (S.mi (ai C) (.ptr id 0) (av aC.cells l) (D d) Q)) Q) [E] L:=by intro L az ao cX a4;simp only[ag,aw,S.A3,T,k6,bz,O];rw[wrap_i64 (n:=(i:Int)+1) (by omega) (by omega),show(i:Int)+1=((i+1:Nat):Int) by simp];exact cA (i+1) _ E L cC az ao cX a4 he
          by_cases aB:(et vars bx c (d+1) x.aZ).aR=0
          . have cY:=sA vars bx x.aZ c c.u.length (d+1) (hb _) aB;have bA:(et vars bx c (d+1) x.aZ).u=c.u:=by
             have:=cY.2.1;rw[adg]at this;exact this
            have bB:∃cs,At br id (.row cs):=by obtain⟨dp,a,_⟩:=bu;exact⟨_,a⟩
            obtain⟨dq,bB⟩:=bB;refine bS ((et vars bx c (d+1) x.aZ).at x.ay) E (d+1) br _ (bu.bh rfl rfl (λ_=>rfl)) ?_ ?_ ?_ (by omega) (by omega) λL az ao a4=>?_
            . show ns E (et vars bx c (d+1) x.aZ).u;rw[bA];exact oB bv
            . show(et vars bx c (d+1) x.aZ).u.length<=100;rw[bA];exact bq
            ·exact cV
            . rw [<-a3]at ao a4;refine fin L (ch.trans az) ao (λe=>?_) a4;rw[a3]at e ⊢;have ci:=(sA vars bx x.bw _ _ (d+1) (hb _) e).2.1;have c0:(et vars bx ((et vars bx c (d+1) x.aZ).at x.ay) (d+1) x.bw).u=c.u:=by
               rw[adg]at ci;exact ci.trans bA
              rw[c0];exact bv.iS bB az
          . have c3:({(et vars bx c (d+1) x.aZ)with u:=c.u}:aV).aR≠0:=aB;refine bS {(et vars bx c (d+1) x.aZ)with u:=c.u} E (d+1) br _ (bu.bh rfl rfl (λ_=>rfl)) (oB bv) bq (λe=>absurd e aB) (by omega) (by omega) λL az ao _=>?_;have bD:stM vars bx s1 d x=((et vars bx c (d+1) x.aZ).at x.ay).back ((et vars bx c (d+1) x.aZ).at x.ay).u.length:=by
             rw[a3];exact kX vars bx (s:=(et vars bx c (d+1) x.aZ).at x.ay) aB _ _ _
            have c6:et vars bx {(et vars bx c (d+1) x.aZ)with u:=c.u} (d+1) x.bw=({(et vars bx c (d+1) x.aZ)with u:=c.u}:aV).back c.u.length:=kX vars bx c3 _ _ _;rw[c6]at ao;refine fin L (ch.trans az) ?_ (λe=>?_) (λe=>?_)
            ·rw[bD];exact ao.bh rfl rfl (λ_=>rfl)
            ·rw[bD]at e;exact absurd e aB
            ·rw[bD]at e;exact absurd e aB
         have a5:∀(j:Z),bX id H j->At j id (.row (dI vars (eg vars bx g d x)))->At j f.n (.row x.cells)->cc H.n j 1 own R.u.length (R.u.map I.str)->(eg vars bx g d x).u=R.u->(eg vars bx g d x).lets=R.lets->(x.kind=1->(eg vars bx g d x).aR=0->R.lets<40) ->
           S.pv (ai C) (.ptr id 0) (D d) (.ptr f.n 0) ([own,D i],f) (ar (S.mi (ai C) (.ptr id 0) (av aC.cells l) (D d) Q)) Q [] j:=by
          intro j k y P ae aS bE C0;generalize eg vars bx g d x=aD at *;unfold S.pv;simp only[ag];simp only[T,k6,aH,aa8,Uy P,O];refine y1 ak hT aK hv cE (λe he=>⟨bU e he,L1 ak hT aK hv e (bU e he)⟩) aD own d j _ y (by rw[aS];exact oB ae) (by rw[aS];omega) d0 (by omega) λaT ap ah W=>?_;have X:=ap.2 _ _ (λe=>w e.symm) P;have aE:=ae.iS y ap;have a6:=k.trans ap;have a7:=CY vars x.bn aD d;have c9:(c_ vars aD d x.bn).aR=0->aD.aR=0:=λe=>(yU vars x.bn aD d e).1;rw[aS]at W;rw[bE]at a7;generalize c_ vars aD d x.bn=c at *;simp only[p6 X,O,bI,au,aw];apply aG<;>intro c1
          . have c1:x.kind=1:=by simpa using c1
            simp only[oA X,O];rw[show cI aT acJ 1 1 [.str []] [(0,1,.str x.V)]=acK (.aq .full 1 [.str x.V],aT)from rfl];simp only[aN];refine cc.app (news:=[.str x.V]) (m:=1) aE (sl (hb _) (by have:=a6.1;omega)) rfl rfl rfl (by decide) (by omega) (by omega) λE A aU bG=>?_;have M:At A id (.row (dI vars c)):=bG.2 _ _ ah (.inl bM);have aF:At A f.n (.row x.cells):=bG.2 _ _ X (.inr λa b e=>by cases e);have Y:=a6.left bG;simp only[b8,aH,aa8,O,l1 c A M,bz];have U:dA vars bx s1 d x=c.lZ x.V:=by rw[bm];unfold gq;rw[ab c1]
            rw [show cf A 1 (.ptr id 1) (D (abu .i64 (c.lets+1)))=acK (A.set id (.row (dI vars (c.lZ x.V)))) by rw[M.store,ab ⟨rfl,rfl,rfl,(by show 1+1<=5;decide)⟩];rfl]
            have kz:=M.set (.row (dI vars (c.lZ x.V)));have aI:At (A.set id (.row (dI vars (c.lZ x.V)))) f.n (.row x.cells):=aF.bR (λe=>w e.symm) _;have aW:=Y.trans (bX.set id A (.row (dI vars (c.lZ x.V))));have bH:=aU.iS M (bX.set id A (.row (dI vars (c.lZ x.V))));simp only[O];generalize A.set id (.row (dI vars (c.lZ x.V)))=cj at *;unfold S.u9;simp only[ag];simp only[T,k6,aH,aa8,p6 aI,O,bI,au,aw];rw[c1,cw];rw[<-U]at kz;have hlen:(dA vars bx s1 d x).u=R.u++[x.V]:=by rw[U];show c.u++[x.V]=_;rw[W]
            refine bp E cj aW kz aI ?_ ?_ ?_
            . rw[hlen,adm,aed];exact bH
            . intro e;rw[hlen,U]at *;have da:c.aR=0:=e;have dr:=C0 c1 (c9 da);show((R.u++[x.V]).length:Int)<=B (c.lets+1)/\B (c.lets+1)<=40;rw[a7,show B (R.lets+1)=R.lets+1 from bo,adm,ad9];push_cast;omega
            ·rw[hlen,adm,ad9];omega
          . have c1:¬x.kind=1:=by simpa using c1
            unfold S.u9;simp only[ag];simp only[T,k6,aH,aa8,p6 X,O,bI,au,aw];apply aG<;>intro c5
            . have c5:x.kind=5:=by simpa using c5
              have ck:ns own c.u:=by rw[W];exact oB aE
              have U:dA vars bx s1 d x=((c.b_ (c.has x.V) 6).b_ (c.has x.b9) 6).b_ (!(x.V==x.b9)) 7:=by rw[bm];unfold gq;rw[af c1,ab c5]
              have bJ:(dA vars bx s1 d x).u=R.u:=by rw[U,eK,eK,eK,W]
              have db:(dA vars bx s1 d x).lets=R.lets:=by rw[U,hJ,hJ,hJ,a7]
              simp only[oA X,O];refine sK ak hT ck (by rw[W];omega) x.V _ _ ?_;refine iw ak hT ah _ _ λA Y M=>?_;have aF:=Y.2 _ _ (λe=>w e.symm) X;have aU:=aE.iS ah Y;simp only[L4 aF,O];refine sK ak hT ck (by rw[W];omega) x.b9 _ _ ?_;refine iw ak hT M _ _ λcj aW kz=>?_;have aI:=aW.2 _ _ (λe=>w e.symm) aF;have bH:=aU.iS M aW;simp only[oA aI,L4 aI,O,kU];refine iw ak hT kz _ _ λcl bK dc=>?_;have dd:=bK.2 _ _ (λe=>w e.symm) aI;have de:=bH.iS kz bK;have df:At cl id (.row (dI vars (dA vars bx s1 d x))):=by rw[U];exact dc
              refine bp own cl (((a6.trans Y).trans aW).trans bK) df dd (by rw[bJ];exact de) ?_ (by rw[bJ];omega);intro e;rw[bJ,db];exact⟨bZ,b0⟩
            . have c5:¬x.kind=5:=by simpa using c5
              have U:dA vars bx s1 d x=c:=by rw[bm];unfold gq;rw[af c1,af c5]
              refine bp own aT a6 (by rw[U];exact ah) X (by rw[U,W];exact aE) ?_ (by rw[U,W];omega);intro e;rw[U,W,a7];exact⟨bZ,b0⟩
         have cm:ns own g.u:=by rw[N];exact oB ax
         unfold S.Gc;simp only[ag];simp only[T,k6,aH,aa8,p6 J,O,bI,au,aw];apply aG<;>intro c1
         . have c1:x.kind=1:=by simpa using c1
           have hf:eg vars bx g d x=((g.b_ (ek x.V&&!bx x.V) 6).b_ (!g.has x.V) 7).b_ (decide (g.lets<40)) 12:=by unfold eg;rw[ab c1]
           have aS:(eg vars bx g d x).u=R.u:=by rw[hf,eK,eK,eK,N]
           have bE:(eg vars bx g d x).lets=R.lets:=by rw[hf,hJ,hJ,hJ,aQ]
           have co:∀j,bX id a2 j->At j id (.row (dI vars (g.b_ (ek x.V&&!bx x.V) 6)))->S.u_ (ai C) (.ptr id 0) (D d) (.ptr f.n 0) ([own,D i],f) (ar (S.mi (ai C) (.ptr id 0) (av aC.cells l) (D d) Q)) Q [] j:=by
            intro j k y;have P:=k.2 _ _ (λe=>w e.symm) J;have ae:=ax.iS F k;unfold S.u_;simp only[ag];simp only[T,k6,aH,aa8,oA P,O];refine sK ak hT cm (by rw[N];omega) x.V _ _ ?_;simp only[dg,O];refine iw ak hT y _ _ λaT ap ah=>?_;have X:=ap.2 _ _ (λe=>w e.symm) P;have aE:=ae.iS y ap;simp only[b8,aH,aa8,l1 _ aT ah,O,aY];refine iw ak hT ah _ _ λA Y M=>?_;have aF:=Y.2 _ _ (λe=>w e.symm) X;have aU:=aE.iS ah Y;have dh:At A id (.row (dI vars (eg vars bx g d x))):=by rw[hf];rw[hJ,hJ]at M;exact M
            refine a5 A (((aP.trans k).trans ap).trans Y) dh aF aU aS bE (λ_ e=>?_);rw[hf]at e;have:=(e7 e (by decide)).2;rw[<-aQ];simpa using this
           simp only[oA J,O];refine S.BK hT (CG ?_);simp only[bP];apply aG<;>intro z
           . simp only[oA J,O];refine L3 ak hT x.V _ _ ?_;simp only[dg,O];refine iw ak hT F _ _ λj k y=>?_;refine co j k ?_;rw[z,adP];exact y
           . have z:ek x.V=acJ:=by simpa using z
             refine iw ak hT F _ _ λj k y=>?_;refine co j k ?_;rw[z,adQ];exact y
         . have c1:¬x.kind=1:=by simpa using c1
           apply aG<;>intro c2
           . have c2:x.kind=2:=by simpa using c2
             have hf:eg vars bx g d x=g.b_ (g.has x.V) 6:=by unfold eg;rw[af c1,ab c2]
             simp only[oA J,O];refine sK ak hT cm (by rw[N];omega) x.V _ _ ?_;refine iw ak hT F _ _ λj k y=>?_;have P:=k.2 _ _ (λe=>w e.symm) J;have ae:=ax.iS F k;refine a5 j (aP.trans k) (by rw[hf];exact y) P ae (by rw[hf,eK,N]) (by rw[hf,hJ,aQ]) (λe=>absurd e c1)
           . have c2:¬x.kind=2:=by simpa using c2
             have cp:∀b:Bool,(b=acI↔(x.kind=3\/x.kind=4\/x.kind=5\/x.kind=6))->S.va (ai C) (.ptr id 0) (D d) (.ptr f.n 0) ([own,D i],f) (ar (S.mi (ai C) (.ptr id 0) (av aC.cells l) (D d) Q)) Q [.bool b] a2:=by
              intro b U;unfold S.va;simp only[ag];simp only[T,k6,au,aw];apply aG<;>intro z
              . have z:=U.1 z;have hf:eg vars bx g d x=gL vars g x.kind d x.place:=by unfold eg;rw[af c1,af c2,ab z]
                simp only[aH,aa8,p6 J,Ux J,O];refine LY ak hT aK hv bT (λp hp=>y1 ak hT aK hv (bf.2 p hp).1 λi hi=>⟨(bf.2 p hp).2 i hi,L1 ak hT aK hv i ((bf.2 p hp).2 i hi)⟩) F (by rw[N];exact oB ax) (by rw[N];omega) d0 (by omega) λj k y di=>?_;have P:=k.2 _ _ (λe=>w e.symm) J;have ae:=ax.iS F k;refine a5 j (aP.trans k) (by rw[hf];exact y) P ae (by rw[hf,di,N]) (by rw[hf,L6,aQ]) (λe=>absurd e c1)
              . have z:¬(x.kind=3\/x.kind=4\/x.kind=5\/x.kind=6):=λe=>z (U.2 e);have hf:eg vars bx g d x=g:=by unfold eg;rw[af c1,af c2,af z]
                refine a5 a2 aP (by rw[hf];exact F) J ax (by rw[hf,N]) (by rw[hf,aQ]) (λe=>absurd e c1)
             simp only[eD,gl,O,bP];apply aG<;>intro z
             . have z:x.kind>=3:=of_decide_eq_true z;exact cp _ ⟨λe=>by have:=of_decide_eq_true e;omega,λe=>decide_eq_true (by omega)⟩
             . have z:¬x.kind>=3:=λe=>z (decide_eq_true e);exact cp acJ ⟨λe=>(by cases e),λe=>by omega⟩
       . have z2:bj.aR≠0:=by simpa using z2
         have aX:eB s1 d x=bj:=by rw[hH,ik z2]
         unfold S.re;simp only[T,au];rw[ab trivial];exact bad cO cb (by rw[aX];exact z2) (by rw[aX];exact h9)
     . have ad:s2.aR≠0:=by simpa using ad
       have aX:eB s1 d x=s2:=by rw[hH,ik ad,ik ad]
       unfold S.vb;simp only[ag];simp only[T,bF,aw];rw[cw];unfold S.re;simp only[T,au];rw[ab trivial];exact bad am b7 (by rw[aX];exact ad) (by rw[aX];exact aO)
   . have hz:R.aR≠0:=by rw[<-e1];simpa using q
     rw[kX vars bx hz]at he;have ac:et vars bx s d l=R.back s.u.length:=he.symm;refine hQ f a0 ?_ ?_
     ·rw[ac];exact jG.bh ⟨bV,a1,e1,bW,bY⟩ rfl rfl (λ_=>rfl)
     ·rw[ac];exact λe=>absurd e hz
 exact main l 0 s own H1 rfl k1 h1 (λ_=>a9) cr rfl
theorem Wq(b:vars.length<=maxLen)(hv:∀v∈vars,v.ok):∀x:aC,x.ok->sL C id vars bx x.aZ/\sL C id vars bx x.bw:=by refine aC.ind λx e f g=>?_;obtain⟨_,_,⟨h,c⟩,i,d⟩:=aC.dL g;exact⟨CZ ak hT b hv h c λy a=>e y a (c y a),CZ ak hT b hv i d λy a=>f y a (d y a)⟩
end
end Rb
namespace Rb
open Go
section
variable{C:Ctx}(ak:cP C)(hT:Cl (ai C) S.b7)
include ak hT
theorem Wr(p:dy)(hp:p.ok):bD (ai C) 5 [.agg p.cells] (yM (eO bx p)):=by
 obtain⟨⟨aV,hv⟩,aW,ht⟩:=hp;refine bD.of ak (by simp[I.bV,I.bu,dy.bu]) rfl λQ hQ=>S.Qv hT ?_;have fin:∀(a b:Int) H',(a,b)=eO bx p->Q (.agg [D a,D b]) H':=λa b H' h=>by have:=hQ H';rw[<-h]at this;exact this
 clear hQ;have ax:b5 Z.mt acJ 2 (.agg p.cells)=acK (.ae p.cells,Z.mt):=by unfold b5;rw[ab ⟨rfl,rfl⟩];rfl
 have o:∀H,aj H 1 acJ (.ae (p.cells.drop 0))=acK (av aB.cells p.vars):=λ_=>rfl;have F:∀H,aj H 1 acJ (.ae (p.cells.drop 1))=acK (av iK p.cO):=λ_=>rfl;unfold S.f5;simp only[ag];simp only[ax,aN,bQ,bc,aH,O,o,bC,cV,bF];generalize aX:Z.mt=H0;have ad:=At.new H0 (.row [J,J]);generalize H0.push _=u at *;generalize H0.n=d at *;have out:∀(a b:Int)(H1:Z),At H1 d (.row [J,J])->(a,b)=eO bx p->Do (cf H1 2 (.ptr d 0) (.agg [D a,D b])) λH2=>Do (aj H2 2 acI (.ptr d 0)) λx=>Q x H2:=by intro a b H1 ha he;rw[ha.put (n:=2) rfl rfl rfl];simp only[O];rw[(ha.set _).all (n:=2) rfl];simp only[O];exact fin a b _ he
 have B:∀e:Int,bS [J,J] [(1,1,D e)]=acK (.agg [J,D e]):=λ_=>rfl;unfold eO at out;have ay : ¬(32<p.vars.length\/p.cO.length<1\/8<p.cO.length)->G (S.AY (ai C) (.ae p.cells) (.ptr d 0) Q) [] u:=by
  intro hn;rw[af hn]at out;simp only[aw,S.AY];have K:ji bx p.vars=if fF bx [] p.vars≠0 then fF bx [] p.vars else if e5 0 p.vars>65536 then 9 else 0:=by unfold ji;rw[bL];exact CW bx 70000 rfl p.vars [] 0 0 (by decide) (by simp) (by omega)
  have az:∀(L:Z),At L d (.row [J,J])->ji bx p.vars=0->ar (S.q2 (ai C) (.ae p.cells) (.ptr d 0) Q) ([J],L):=by
   intro L h9 hz;rw[af (by simpa using hz)]at out;have main:∀(r:List (List aC)) (i:Nat) (H1:Z),p.cO.drop i=r->At H1 d (.row [J,J])->kW bx p.vars r=kW bx p.vars p.cO->ar (S.q2 (ai C) (.ae p.cells) (.ptr d 0) Q) ([D i],H1):=by
    intro r;induction r with
    | nil=>intro i H1 g ha he;have hle:=c7 g;refine ar.step ?_;simp only[ag,S.q2,T,aH,F,bC,aY,O,au];rw[cQ];simp only[ag,aw,S.FH];rw[show bS [J,J] []=acK (.agg [J,J])from rfl];simp only[O];exact out 0 0 H1 ha he
    | cons t r R=>
     intro i H1 g ha he;obtain⟨W,s,X⟩:=c4 g;obtain⟨aA,ah⟩:=ht t (adq s);refine ar.step ?_;simp only[ag,S.q2,T,aH,o,F,bC,aY,O,au];rw[cM,show bS [A,J,J,J,J] [(0,1,av aB.cells p.vars)]=acK (.agg (dI p.vars s0))from rfl];simp only[O];have U:b5 H1 acI 5 (.agg (dI p.vars s0))=acK (.ptr H1.n 0,H1.push (.row (dI p.vars s0))):=by unfold b5;rw[ab ⟨rfl,rfl⟩];rfl
     rw[U];simp only[aN];have aD:=At.new H1 (.row (dI p.vars s0));have aE:d≠H1.n:=ha.h2;have a3:=ha.push (.row (dI p.vars s0));generalize H1.push _=H2 at *;generalize H1.n=id at *;rw[b6 W];simp only[O];have aF:aj H2 1 acJ (di iK 1 p.cO i)=acK (av aC.cells t):=mZ (c:=λl=>av aC.cells l) H2 s;rw[aF];simp only[O];refine CZ ak hT (by omega) hv aA ah (λx aI=>Wq ak hT (by omega) hv x (ah x aI)) s0 A 1 H2 _ (jG.of aD) ⟨.nil,rfl⟩ (by decide) (λ_=>⟨by decide,by decide⟩) (by decide) (by decide) λM N aJ _=>?_;have al:=N.2 d _ aE a3;obtain⟨Y,am,f1,f2,_⟩:=aJ;rw[kW]at he;generalize et p.vars bx s0 1 t=aZ at *;have aK:aj M 1 acJ (.ptr id (3+1))=acK (D Y.aR):=by rw[am.load];rfl
     have i32:aj M 2 acI (.ptr id 3)=acK (.agg [D Y.hE,D Y.aR]):=by rw[am.load];rfl
     simp only[b8,aH,aa8,O,aK,i32,cC,au];apply aG<;>intro h
     . rw[f1,f2];rw[f1]at h;rw[ab (by simpa using h)]at he;exact out _ _ M al he
     . rw[f1]at h;rw[af (by simpa using h)]at he;simp only[bz,O];rw[bo,fj i];exact R (i+1) M X al he
   exact main p.cO 0 L rfl h9 rfl
  have main:∀(r:List aB)(i:Nat)(H1:Z),p.vars.drop i=r->At H1 d (.row [J,J])->fF bx ((p.vars.take i).map (·.V)) r=fF bx [] p.vars->ar (S.pn (ai C) (.ae p.cells) (.ptr d 0) Q) ([D i],H1):=by
   intro r;induction r with
   | nil=>
    intro i H1 g ha he;have hle:=c7 g;refine ar.step ?_;simp only[ag,S.pn,T,aH,o,bC,aY,O,au];rw[cQ];simp only[ag,aw,S.FI,aH,o,O];rw[fF]at he;have aL:=CX bx he.symm;rw[af (by rw[<-he];decide)]at K;refine Lc ak hT (by omega) hv aL (λa0 H' E a1 aM=>?_) (λH' E aM=>?_)
    . simp only[bA,ac5,ac6,O,cC,au];rw[cw];exact az H' (ha.ext E) (by rw[K,bL])
    . simp only[bA,ac5,ac6,O,cC,au];rw[jD,B];simp only[O];have h9:ji bx p.vars=9:=by rw[K,dN]
      rw[ab (by rw[h9];decide),h9]at out;exact out 0 9 H' (ha.ext E) rfl
   | cons v r R=>
    intro i H1 g ha he;obtain⟨W,s,X⟩:=c4 g;have aO:=adq s;rw[fF]at he;refine ar.step ?_;simp only[ag,S.pn,T,aH,o,bC,aY,O,au];rw[cM,b6 W];simp only[O];rw[c8 aB.len (by decide) _ s];simp only[O,bQ,bc,aN];rw[cn _ _ _ 7 v.len v.scalar rfl];have P:=At.new H1 (.row v.cells);have a2:=ha.push (.row v.cells);simp only[O];generalize H1.push _=H2 at *;have v0:∀H',At H' H1.n (.row v.cells)->aj H' 1 acJ (.ptr H1.n 0)=acK (.str v.V):=λH' h=>by rw[h.load];cases v;rfl
    have v1:∀H',At H' H1.n (.row v.cells)->aj H' 6 acI (.ptr H1.n 1)=acK (.agg v.type.cells):=λH' h=>by
     rw[h.load];cases v with
     | mk V type=>have a4:=type.len;show bO (.str V::type.cells) 1 6 acI=_;unfold bO;rw[ab (by rw[adN];omega),ab rfl];show acK (I.agg (type.cells.take 6))=_;rw[adp (by omega)]
    have bad:∀(e:Int)(H':Z),At H' d (.row [J,J])->e≠0->fF bx [] p.vars=e->Do (cf H' 2 (.ptr d 0) (.agg [J,D e])) λH2=>Do (aj H2 2 acI (.ptr d 0)) λx=>Q x H2:=by
     intro e H' aP an aQ;have ao:ji bx p.vars=e:=by rw[K,aQ,ab an]
     rw[ab (by rw[ao];exact an),ao]at out;exact out 0 e H' aP rfl
    have N:∀b:Bool,(b=acI↔(ek v.V=acJ\/bx v.V=acI))->S.uL (ai C) (.ae p.cells) (.ptr d 0) (.ptr H1.n 0) ([D i],H1) (ar (S.pn (ai C) (.ae p.cells) (.ptr d 0) Q)) Q [.bool b] H2:=by
     intro b U;unfold S.uL;simp only[ag];simp only[T,au,aw];apply aG<;>intro z
     . rw[ab (U.1 z)]at he;rw[B];simp only[O];exact bad 6 H2 a2 (by decide) he.symm
     rw[af (λy=>z (U.2 y))]at he;unfold S.FG;have inner:∀(m k:Nat),k+m=i->(∀j,j<k->∀w,p.vars[j]?=acK w->w.V≠v.V)->ar (S.uK (ai C) (.ae p.cells) (.ptr d 0) (.ptr H1.n 0) ([D i],H1) (ar (S.pn (ai C) (.ae p.cells) (.ptr d 0) Q)) Q) ([D k],H2):=by
      intro m;induction m with
      | zero=>
       intro k hk aa;refine ar.step ?_;simp only[ag,S.uK,T,aY,O,au];rw[cQ];have hc:¬((p.vars.take i).map (·.V)).contains v.V=acI:=by
        intro q;rw[aef]at q;obtain⟨w,hw,e⟩:=acF.1 q;obtain⟨j,f⟩:=List.getElem?_of_mem hw;rw[aan]at f;split at f
        ·exact aa j (by omega) w f e
        ·cases f
       rw[af hc]at he;simp only[ag,aw,S.FF,aH,aa8,v1 H2 P,O];refine K4 ak hT v.type (hv v aO).2 _ _ ?_;simp only[cC,O,au];apply aG<;>intro y
       . have y:(bm v.type).2≠0:=by simpa using y
         rw[ab y]at he;rw[B];simp only[O];exact bad _ H2 a2 y he.symm
       . have y:(bm v.type).2=0:=by simpa using y
         rw[af (by simpa using y)]at he;simp only[ag,aw,S.FE,T,bz,O];rw[bo,fj i];refine R (i+1) H2 X a2 ?_;rw[adw,s,aed];exact he
      | succ m aS=>
       intro k hk aa;obtain ⟨w, hw⟩ : ∃ w, p.vars[k]? = acK w := ⟨p.vars[k]'(by omega), abb _⟩
       obtain⟨a5,a6,ra,e1,aT,a7,aU,a8⟩:=yR ak hT hw;refine ar.step ?_;simp only[ag,S.uK,T,aY,O,au];rw[cM];simp only[show aH 0 (.ae p.cells)=acK (.ae (p.cells.drop 0))from rfl,o,O,e1,aT,aU];simp only[aH,aa8,v0 H2 P,O,fD,au];apply aG<;>intro y
       . have y:w.V=v.V:=by simpa using y
         have hc:((p.vars.take i).map (·.V)).contains v.V=acI:=by
          rw[aef];refine acF.2 ⟨w,?_,y⟩;have:(p.vars.take i)[k]?=acK w:=by rw[aan,dN];exact hw
          exact adq this
         rw[ab hc]at he;rw[B];simp only[O];exact bad 7 H2 a2 (by decide) he.symm
       . have y:¬w.V=v.V:=by simpa using y
         simp only[bz,O];rw[bo,fj k];refine aS (k+1) (by omega) λj f w' ac=>?_;rcases Nat.lt_or_eq_of_le (Nat.le_of_lt_succ f)with f|rfl
         ·exact aa j f w' ac
         ·rw[hw]at ac;cases ac;exact y
     exact inner i 0 (by omega) λj f=>by omega
    simp only[aH,aa8,v0 H2 P,O];refine S.BK hT (CG ?_);simp only[dg,O,bF,aw];apply dC<;>intro z
    . simp only[aH,aa8,v0 H2 P,O];refine L3 ak hT v.V _ _ ?_;refine N _ ⟨λe=> .inr e,λe=>?_⟩;rcases e with e|e
      ·rw[e]at z;cases z
      ·exact e
    ·refine N acI ⟨λ_=> .inl (by simpa using z),λ_=>rfl⟩
  exact main p.vars 0 u rfl ad rfl
 have ap:∀b:Bool,(b=acI↔(32<p.vars.length\/p.cO.length<1\/8<p.cO.length))->G (S.uM (ai C) (.ae p.cells) (.ptr d 0) Q) [.bool b] u:=by
  intro b U;simp only[ag,aw,S.uM,T,au];apply aG<;>intro h
  . rw[ab (U.1 h)]at out;rw[B];simp only[O];exact out 0 12 u ad rfl
  ·exact ay λy=>h (U.2 y)
 have aq:∀b:Bool,(b=acI↔(32<p.vars.length\/p.cO.length<1))->G (S.uN (ai C) (.ae p.cells) (.ptr d 0) Q) [.bool b] u:=by
  intro b U;simp only[ag,aw,S.uN,T,bF,aH,O,F,bC,cV];apply dC<;>intro h
  . refine ap _ ?_;have hn:¬(32<p.vars.length\/p.cO.length<1):=λy=>by have:=U.2 y;rw[h]at this;cases this
    simp only[dJ,gt_iff_lt];omega
  . refine ap _ ?_;have:=U.1 h;simp only[true_iff];omega
 apply dC<;>intro h
 . simp only[F,O,bC,bI];refine aq _ ?_;simp only[decide_eq_false_iff_not,gt_iff_lt]at h;simp only[bZ];omega
 . refine aq _ ?_;simp only[dJ,gt_iff_lt]at h;simp only[true_iff];omega
end
variable{w w' R S l0 l1 m:Nat}
structure eh where
 kind:Int
 dst:Int
 sN:Int
 a:Int
 b:Int
 c:Int
 n:Int
 op:Int
 size:Int
 a_:Int
 eV:Int
 site:Int
 ay:Int
def eh.cells(o:eh):List I:=[.int .i64 o.kind,.int .i64 o.dst,.int .i64 o.sN,.int .i64 o.a,.int .i64 o.b,.int .i64 o.c,.int .u64 o.n,.int .i64 o.op,.int .i64 o.size,.int .i64 o.a_,.int .i64 o.eV,.int .i64 o.site,.int .i64 o.ay]
theorem eh.len(o:eh):o.cells.length=13:=rfl
theorem eh.scalar(o:eh):o.cells.all I.scalar=acI:=rfl
def C1(k:Int):eh:=⟨k,-1,-1,-1,-1,-1,0,0,0,0,0,0,0⟩
structure LD where
 A:List eh
 bM:Nat
 labels:Nat
 sn:Nat
 sc:List I
 ay:Int
 L:List (List UInt8×Nat)
def jH(p:List UInt8×Nat):List I:=[.str p.1,.int .i64 (p.2:Int)]
def LD.add(c:LD)(o:eh):LD:={c with A:=c.A++[{o with ay:=c.ay}]}
def dZ(R:Nat)(r:Int):Prop:= -1<=r/\r<(R:Nat)
theorem dZ.mono{r:Int}(h:dZ R r)(k:R<=S):dZ S r:=⟨h.1,by have:=h.2;omega⟩
theorem dZ.none(R:Nat):dZ R (-1):=⟨adR _,by omega⟩
structure iT(R S:Nat)(o:eh):Prop where
 k1:1<=o.kind
 k2:o.kind<=18
 dst:dZ R o.dst
 sN:dZ R o.sN
 a:dZ R o.a
 b:dZ R o.b
 c:dZ R o.c
 site:4<=o.kind->o.kind<=13->1<=o.site/\o.site<=(S:Nat)
 size:4<=o.kind->o.kind<=10->o.size=1\/o.size=2\/o.size=4\/o.size=8
theorem iT.mono{R S e S':Nat}{o:eh}(h:iT R S o)(d:R<=e)(hS:S<=S'):iT e S' o:=⟨h.k1,h.k2,h.dst.mono d,h.sN.mono d,h.a.mono d,h.b.mono d,h.c.mono d,λa b=>by have:=h.site a b;omega,h.size⟩
theorem iT.ay{o:eh}(h:iT R S o)(l:Int):iT R S {o with ay:=l}:=⟨h.k1,h.k2,h.dst,h.sN,h.a,h.b,h.c,h.site,h.size⟩
def mG(o:eh):Prop:=¬(14<=o.kind/\o.kind<=16)
def iU(t:Int)(l:List eh):Nat:=(l.filter λo=>o.kind==14&&o.eV==t).length
theorem C2(t:Int)(a b:List eh):iU t (a++b)=iU t a+iU t b:=by simp[iU]
structure gC(l0 l1:Nat)(new:List eh):Prop where
 le:l0<=l1
 eV:∀o∈new,14<=o.kind->o.kind<=16->(l0:Int)<o.eV/\o.eV<=(l1:Int)
 one:∀t:Int,(l0:Int)<t->t<=(l1:Int)->iU t new=1
theorem oC{a:List eh}(h:gC l0 l1 a){t:Int}(ht:t<=l0\/(l1:Int)<t):iU t a=0:=by unfold iU;rw[abF,List.filter_eq_nil_iff];intro o b c;simp only[aar,bZ]at c;have:=h.eV o b (by omega) (by omega);omega
theorem gC.nil(l:Nat):gC l l []:=⟨hb _,λo a=>(by cases a),λt h1 b=>by omega⟩
theorem gC.trans{l0 l1 l2:Nat}{a b:List eh}(h:gC l0 l1 a)(k:gC l1 l2 b):gC l0 l2 (a++b):=by
 have h1:=h.le;have k1:=k.le;refine⟨by omega,λo c kz jl=>?_,λt t0 t1=>?_⟩
 . rcases acf.1 c with c|c
   ·have:=h.eV o c kz jl;omega
   ·have:=k.eV o c kz jl;omega
 . rw[C2];by_cases hm:t<=l1
   ·rw[h.one t t0 hm,oC k (.inl hm)]
   ·rw[oC h (.inr (by omega)),k.one t (by omega) t1]
theorem gC.none{l:Nat}{new:List eh}(h:∀o∈new,mG o):gC l l new:=⟨hb _,λo c a b=>absurd ⟨a,b⟩ (h o c),λt h1 d=>by omega⟩
structure BD(c:LD)(w:Nat):Prop where
 A:c.A.length+w<=1000000000000
 r:c.bM+w<=1000000000000
 l:c.labels+w<=1000000000000
 s:c.sn+w<=1000000000000
 L:c.L.length+w<=1000000000000
structure bH where
 kind:Int
 a_:Int
 ay:Int
 place:aJ
def bH.cells(a:bH):List I:= .int .i64 a.kind :: .int .i64 a.a_ :: .int .i64 a.ay::(if a.kind=7 then [.str [],.aq .nil 0 []]else a.place.cells)
structure GE(c c':LD)(w:Nat)(k:List bH):Prop where
 new:∃new,c'.A=c.A++new/\new.length<=w/\(∀o∈new,iT c'.bM c'.sn o/\mG o)
 r0:c.bM<=c'.bM
 r1:c'.bM<=c.bM+w
 s1:c'.sn=c.sn+k.length
 sc:c'.sc=c.sc++k.flatMap bH.cells
 sw:k.length<=w
 k7:c'.labels=c.labels
 L:c'.L=c.L
 ay:c'.ay=c.ay
theorem GE.s0{c c':LD}{k:List bH}(h:GE c c' w k):c.sn<=c'.sn:=by rw[h.s1];omega
theorem GE.s2{c c':LD}{k:List bH}(h:GE c c' w k):c'.sn<=c.sn+w:=by have:=h.sw;rw[h.s1];omega
theorem GE.refl(c:LD):GE c c 0 []:=⟨⟨[],by simp,hb _,λo a=>by cases a⟩,hb _,hb _,rfl,(adv _).symm,hb _,rfl,rfl,rfl⟩
theorem GE.trans{c b d:LD}{k k':List bH}(h:GE c b w k)(g:GE b d w' k'):GE c d (w+w') (k++k'):=by
 obtain⟨n1,M,b1,d1⟩:=h.new;obtain⟨n2,a2,b2,d2⟩:=g.new;have h1:=h.r0;have e:=h.r1;have f:=h.s0;have i:=h.s1;have j:=h.sw;have g1:=g.r0;have g2:=g.r1;have g3:=g.s0;have g4:=g.s1;have g5:=g.sw;refine⟨⟨n1++n2,by rw[a2,M,aeo],by rw[adm];omega,λo a=>?_⟩,by omega,by omega,by rw[adm];omega,by rw[g.sc,h.sc,aeD,aeo],by rw[adm];omega,g.k7.trans h.k7,g.L.trans h.L,g.ay.trans h.ay⟩;rcases acf.1 a with a|a
 ·exact⟨(d1 o a).1.mono g1 g3,(d1 o a).2⟩
 ·exact d2 o a
theorem GE.mono{c c':LD}{k k':List bH}(h:GE c c' w k)(b:w<=w')(a:k=k'):GE c c' w' k':=by obtain⟨n1,M,b1,d1⟩:=h.new;subst a;have d:=h.r1;have e:=h.s1;have f:=h.sw;exact⟨⟨n1,M,by omega,d1⟩,h.r0,by omega,h.s1,h.sc,by omega,h.k7,h.L,h.ay⟩
theorem BD.mono{c:LD}(h:BD c w)(k:w'<=w):BD c w':=⟨by have:=h.A;omega,by have:=h.r;omega,by have:=h.l;omega,by have:=h.s;omega,by have:=h.L;omega⟩
theorem GE.bd{c c':LD}{k:List bH}(g:GE c c' w k)(h:BD c (w+m)):BD c' m:=by obtain⟨n1,M,b1,d1⟩:=g.new;have h1:=h.A;have a:=h.r;have b:=h.l;have d:=h.s;have e:=h.L;have g2:=g.r1;have g5:=g.s2;refine⟨by rw[M,adm];omega,by omega,by rw[g.k7];omega,by omega,by rw[g.L];omega⟩
theorem GE.add{c:LD}{o:eh}(h:iT c.bM c.sn o)(hn:mG o):GE c (c.add o) 1 []:=
 ⟨⟨[{o with ay:=c.ay}],rfl,hb _,λp hp=>by rw[aeH]at hp;subst hp;exact⟨h.ay _,hn⟩⟩,hb _,aa2 _,rfl,(adv _).symm,aaU _,rfl,rfl,rfl⟩
theorem GE.C3{c:LD}{o:eh}(h:iT (c.bM+1) c.sn o)(hn:mG o):GE c ({c with bM:=c.bM+1}.add o) 1 []:=
 ⟨⟨[{o with ay:=c.ay}],rfl,hb _,λp hp=>by rw[aeH]at hp;subst hp;exact⟨h.ay _,hn⟩⟩,aa2 _,hb _,rfl,(adv _).symm,aaU _,rfl,rfl,rfl⟩
structure GS(c c':LD)(w:Nat)(k:List bH):Prop where
 new:∃new,c'.A=c.A++new/\new.length<=w/\(∀o∈new,iT c'.bM c'.sn o)/\gC c.labels c'.labels new
 r0:c.bM<=c'.bM
 r1:c'.bM<=c.bM+w
 s1:c'.sn=c.sn+k.length
 sc:c'.sc=c.sc++k.flatMap bH.cells
 sw:k.length<=w
 l1:c'.labels<=c.labels+w
theorem GE.gs{c c':LD}{k:List bH}(h:GE c c' w k):GS c c' w k:=by obtain⟨n1,M,b1,d1⟩:=h.new;exact⟨⟨n1,M,b1,λo a=>(d1 o a).1,by rw[h.k7];exact gC.none λo a=>(d1 o a).2⟩,h.r0,h.r1,h.s1,h.sc,h.sw,by rw[h.k7];omega⟩
theorem GS.trans{c b d:LD}{k k':List bH}(h:GS c b w k)(g:GS b d w' k'):GS c d (w+w') (k++k'):=by
 obtain⟨n1,M,b1,d1,e1⟩:=h.new;obtain⟨n2,a2,b2,d2,e⟩:=g.new;have h1:=h.r0;have f:=h.r1;have i:=h.s1;have j:=h.sw;have l:=h.l1;have g1:=g.r0;have g2:=g.r1;have g4:=g.s1;have g5:=g.sw;have g6:=g.l1;refine⟨⟨n1++n2,by rw[a2,M,aeo],by rw[adm];omega,λo a=>?_,e1.trans e⟩,by omega,by omega,by rw[adm];omega,by rw[g.sc,h.sc,aeD,aeo],by rw[adm];omega,by omega⟩;rcases acf.1 a with a|a
 ·exact(d1 o a).mono g1 (by omega)
 ·exact d2 o a
theorem GS.mono{c c':LD}{k k':List bH}(h:GS c c' w k)(b:w<=w')(a:k=k'):GS c c' w' k':=by obtain⟨n1,M,b1,d1,e1⟩:=h.new;subst a;have d:=h.r1;have e:=h.sw;have f:=h.l1;exact⟨⟨n1,M,by omega,d1,e1⟩,h.r0,by omega,h.s1,h.sc,by omega,by omega⟩
theorem GS.A{c c':LD}{k:List bH}(g:GS c c' w k):c'.A.length<=c.A.length+w:=by obtain⟨n1,M,b1,d1,e1⟩:=g.new;rw[M,adm];omega
theorem GS.bd{c c':LD}{k:List bH}(g:GS c c' w k)(h:BD c (w+m))(a:c'.L.length<=c.L.length+w):BD c' m:=by have h1:=h.A;have b:=h.r;have d:=h.l;have e:=h.s;have f:=h.L;have g1:=g.A;have g2:=g.r1;have g4:=g.s1;have g5:=g.sw;have g6:=g.l1;exact⟨by omega,by omega,by omega,by omega,by omega⟩
mutual
def eo:E->Nat
 | .mk kind n V op a_ place br=>16+(if kind>=4 then 256 else 0)+gd place+ed br
def ed:List E->Nat
 |[]=>0
 |e::r=>eo e+ed r
def gd:aJ->Nat
 | .mk var ax=>gD ax
def gD:List aI->Nat
 |[]=>0
 |p::r=>k8 p+gD r
def k8:aI->Nat
 | .mk field aS=>ed aS
end
mutual
def gE(l:Int):E->List bH
 | .mk kind n V op a_ place br=>gw l place++dD l br++(if kind>=4 then [⟨10+kind,a_,l,place⟩]else [])
def dD(l:Int):List E->List bH
 |[]=>[]
 |e::r=>gE l e++dD l r
def gw(l:Int):aJ->List bH
 | .mk var ax=>gV l ax
def gV(l:Int):List aI->List bH
 |[]=>[]
 |p::r=>mH l p++gV l r
def mH(l:Int):aI->List bH
 | .mk field aS=>dD l aS
end
mutual
def jI:aC->Nat
 | .mk kind ay V b9 a_ place bn aZ bw=>16+(if 3<=kind/\kind<=7 then 256 else 0)+gd place+ed bn+(cS aZ+cS bw)
def cS:List aC->Nat
 |[]=>0
 |x::r=>jI x+cS r
end
mutual
def j2:aC->List bH
 | .mk kind ay V b9 a_ place bn aZ bw=>gw ay place++dD ay bn++(if 3<=kind/\kind<=7 then [⟨kind,a_,ay,place⟩]else [])++(ey aZ++ey bw)
def ey:List aC->List bH
 |[]=>[]
 |x::r=>j2 x++ey r
end
theorem L9(e:E):eo e=16+(if e.kind>=4 then 256 else 0)+gd e.place+ed e.br:=by cases e;rw[eo]
theorem Ws(x:aJ):gd x=gD x.ax:=by cases x;rw[gd]
theorem L_(p:aI):k8 p=ed p.aS:=by cases p;rw[k8]
theorem sO(l:Int)(e:E):gE l e=gw l e.place++dD l e.br++(if e.kind>=4 then [⟨10+e.kind,e.a_,l,e.place⟩]else []):=by cases e;rw[gE]
theorem nt(l:Int)(x:aJ):gw l x=gV l x.ax:=by cases x;rw[gw]
theorem C4(l:Int)(p:aI):mH l p=dD l p.aS:=by cases p;rw[mH]
theorem Ma(x:aC):jI x=16+(if 3<=x.kind/\x.kind<=7 then 256 else 0)+gd x.place+ed x.bn+(cS x.aZ+cS x.bw):=by cases x;rw[jI]
theorem C5(x:aC):j2 x=gw x.ay x.place++dD x.ay x.bn++(if 3<=x.kind/\x.kind<=7 then [⟨x.kind,x.a_,x.ay,x.place⟩]else [])++(ey x.aZ++ey x.bw):=by cases x;rw[j2]
end Rb
namespace Rb
open Go
variable{t:X}{f:aE}{s:bj}
def XF(f:aE)(x:Int×Int):Prop:=0<=x.1/\(f.bits=acI->0<=x.2/\x.2<=64)/\(f.bits=acJ->x.2=8*(L f.type).1.1)
theorem Wt{packed:Bool}{kind a:Int}(d:0<=a)(g:k3 packed f)(U:oo f.type)(ht:(L f.type).2=acI):XF f ((dR packed kind a f (L f.type).1).1,(dR packed kind a f (L f.type).1).2.1):=by
 obtain⟨b1,b2,b3,i⟩:=U ht;have h:0<=(if kind=4 then(0:Int)else a):=by split;decide;exact d
 unfold dR;dsimp only;generalize (if kind=4 then(0:Int)else a)=b at *;by_cases c:f.bits=acI
 . obtain ⟨j,k,l,y3,y4,_⟩:=g c;rw[ab c];refine⟨?_,λ_=>⟨y3,?_⟩,λe=>by rw[c]at e;cases e⟩
   . show 0<=bq b _;split
     ·have:=eJ (n:=b) (step:=8*f.type.size) (by omega);omega
     ·rw[p1];exact h
   ·show f.aQ<=64;omega
 . rw[af c];refine⟨?_,λe=>absurd e c,λ_=>rfl⟩;show 0<=bq b _;split
   ·have:=eJ (n:=b) (step:=8) (by omega);omega
   ·have:=eJ (n:=b) (step:=8*(L f.type).1.2) (by omega);omega
theorem Mb{packed:Bool}{kind:Int}:∀{l:List aE}{p q:PL}{n:Nat},n+l.length<=32->hI p n->(∀f∈l,k3 packed f/\oo f.type)->dQ packed kind p l=acK q ->
  ∃ss:List bj,q.dP=p.dP++ss/\∀(i:Nat)(f:aE)(s:bj),l[i]?=acK f->ss[i]?=acK s->∃x,s=ft f x/\XF f x
 | [],p,q,n,hn,hp,hl,h=>by simp only[dQ,aaC.injEq]at h;subst h;exact⟨[],by simp,λi f s hf=>by simp at hf⟩
 | f :: r,p,q,n,hn,hp,hl,h=>by
  obtain⟨o1,o2⟩:=hl f (acs ..);have c:n+1+r.length<=32:=by rw[adN]at hn;omega
  simp only[dQ,na]at h;by_cases ht:(L f.type).2=acI
  . rw [ab ht]at h;obtain⟨b1,b2,b3,d⟩:=o2 ht;have U:f.bits=acI->1<=f.type.size/\f.type.size<=8/\0<=f.aQ/\f.aQ<=8*f.type.size/\packed=acJ/\(L f.type).1.2=f.type.size:=λU=>by
     obtain⟨e,z2,z3,z4,z5,j⟩:=o1 U;exact⟨z2,z3,z4,z5,j,by rw[jZ (.inl e)]⟩
    obtain⟨e1,k⟩:=yx (packed:=packed) (kind:=kind) (g:=(L f.type).1) (by omega) hp b1 b2 b3 d (λq=>⟨(U q).1,(U q).2.1,(U q).2.2.1,(U q).2.2.2.1⟩);have m:=yy (kind:=kind) hp (f:=f) (g:=(L f.type).1) b3 (λq=>⟨(U q).1,(U q).2.2.1,(U q).2.2.2.1,(U q).2.2.2.2.1,(U q).2.2.2.2.2⟩);obtain⟨ss,b,o⟩:=Mb c k (λg a=>hl g (acp _ a)) h;rw[e1,m]at b;refine⟨ft f ((dR packed kind p.bit f (L f.type).1).1,(dR packed kind p.bit f (L f.type).1).2.1)::ss,by rw[b,aeo];rfl,λi g s a hs=>?_⟩;cases i with
    | zero=>simp only[ac5,aaC.injEq]at a hs;subst a;exact⟨_,hs.symm,Wt hp.b0 o1 o2 ht⟩
    | succ i=>simp only[ac6]at a hs;exact o i g s a hs
  ·rw[af ht]at h;cases h
structure oD(t:X)(s:bj):Prop where
 bits:s.bits=acI->t.kind=1/\0<=s.len/\s.len<=9
 len:s.bits=acJ->s.len=(bm t).1.1
 bit:0<=s.bit/\s.bit<=7
 wid:0<=s.aQ
theorem C6(h:t.lay)(a:t.kind=3\/t.kind=4){n:Nat}(hf:t.Y[n]?=acK f)(hs:(cD t)[n]?=acK s)(d:f.type.lay):oD f.type s:=by
 obtain⟨p,hp,_⟩:=ou h a;have b:=fm h.snd;have hlen:=r7 b a;have c:∀f∈t.Y,k3 t.packed f:=by
  have hs:=b;rw[gB]at hs;split at hs
  ·exact absurd hs (by decide)
  . rw[af (show ¬t.kind=1 by omega),af (show ¬t.kind=2 by omega),af (show ¬t.kind=5 by omega),bL]at hs;exact r6 hs
 obtain⟨ss,g,i⟩:=Mb (n:=0) (by omega) hI.zero (λf hf=>⟨c f hf,r8 f.type ((lV b a).1 f hf)⟩) hp;unfold cD at hs;rw[hp]at hs;dsimp only at hs;rw[g]at hs;obtain⟨x,e,m,j,k⟩:=i n f s hf (by simpa using hs);have l:=d.zero;rw[e];unfold ft;by_cases U:f.bits=acI
 . rw[ab U];obtain⟨z0,o⟩:=j U;refine⟨λ_=>⟨(c f (adq hf) U).1,?_,?_⟩,λe=>(by cases e),⟨?_,?_⟩,z0⟩
   ·show 0<=(if x.2>0 then _ else _);split<;>omega
   ·show(if x.2>0 then _ else _)<=_;split<;>omega
   ·show 0<=x.1%8;omega
   ·show x.1%8<=7;omega
 . rw[af U];have:=k (by simpa using U);refine⟨λe=>(by cases e),λ_=>?_,⟨adR 0,(by decide:(0:Int)<=7)⟩,adR 0⟩;show x.2/8=(bm f.type).1.1;rw[l,this];dsimp only;omega
theorem sP(ht:t.lay)(h:oD t s)(a:t.kind=1\/t.kind=2):0<=s.len/\s.len<=16/\(t.kind=2->s.len=t.size)/\(t.size=1\/t.size=2\/t.size=4\/t.size=8\/t.size=16):=by
 have hs:=fm ht.snd;have hz:=yC hs a;have hp : t.size=1\/t.size=2\/t.size=4\/t.size=8\/t.size=16:=by
  rw[gB]at hs;split at hs
  ·cases hs
  . have hp:el t.size 8=acI\/el t.size 16=acI:=by
      rcases a with h1|h1
      . rw[ab h1]at hs;split at hs
        ·exact .inl ‹_›
        ·cases hs
      . rw[bL,ab h1]at hs;split at hs
        ·exact .inr ‹_›
        ·cases hs
    rcases hp with hp|hp<;>(simp[el]at hp;omega)
 have hl:(bm t).1.1=t.size:=by rw[ht.zero,jZ a]
 cases U:s.bits with
 | true=>have:=h.bits U;exact⟨this.2.1,by omega,λe=>by omega,hp⟩
 | false=>have:=h.len U;rw[hl]at this;exact⟨by omega,by omega,λ_=>this,hp⟩
theorem y2{k:Int}(h:ga k t=acI):(t.kind=1\/t.kind=2)/\((k=3\/k=14)->t.kind=1)/\(¬(k=3\/k=14)->t.kind=2)/\(¬(k=3\/k=14)->¬(k=5\/k=6)->t.size<=8):=by
 unfold ga at h;by_cases h1:k=3\/k=14
 . rw[ab h1]at h;have:t.kind=1:=by simpa using h
   exact⟨.inl this,λ_=>this,λe=>absurd h1 e,λe=>absurd h1 e⟩
 . rw [af h1]at h;by_cases a:k=5\/k=6
   . rw[ab a]at h;simp only[aar,bZ]at h;exact⟨.inr h.1,λe=>absurd e h1,λ_=>h.1,λ_ e=>absurd a e⟩
   . rw[af a]at h;simp only[aar,bZ,dJ]at h;exact⟨.inr h.1,λe=>absurd e h1,λ_=>h.1,λ_ _=>h.2⟩
end Rb
namespace Rb
open Go
variable{x:I}{n:Int}
def kA(vars:List aB)(wh xo xs F:I)(c:LD):List I:=[av aB.cells vars,wh,xo,.int .i64 (c.bM:Nat),.int .i64 (c.labels:Nat),xs,.int .i64 c.ay,F]
structure bW(H:Z)(id:Nat)(vars:List aB)(wh F:I)(c:LD):Prop where
 x:∃xo xs,At H id (.row (kA vars wh xo xs F c))/\cc (id+1) H 13 xo c.A.length (c.A.flatMap eh.cells)/\cc (id+1) H 5 xs c.sn c.sc/\∀t l c1,xo = .aq (.own t) l c1->∀l2 c2,xs ≠ .aq (.own t) l2 c2
 l:dH H 2 F c.L.length (c.L.flatMap jH)
 ld:∀j,ch F=acK j->id<j
 lo:∀p∈c.L,p.2<c.bM
theorem bW.sQ{H:Z}{id:Nat}{vars:List aB}{wh F:I}{c:LD}(h:bW H id vars wh F c):ch F≠acK id:=λe=>aeI _ (h.ld _ e)
def KR(id:Nat)(H H':Z):Prop:=H.n<=H'.n/\∀i cs,i≠id->At H i (.row cs)->At H' i (.row cs)
section
variable{id j k N:Nat}{vars:List aB}{wh F v:I}{c c':LD}{H0 H H1 H2:Z}{cs:List I}
theorem KR.refl:KR id H H:=⟨hb _,λ_ _ _ h=>h⟩
theorem KR.trans(h:KR id H H1)(k:KR id H1 H2):KR id H H2:=⟨sl h.1 k.1,λi cs hi a=>k.2 i cs hi (h.2 i cs hi a)⟩
theorem KR.ext(E:Z.Ext H H1):KR id H H1:=⟨E.1,λ_ _ _ h=>h.ext E⟩
theorem KR.set(o:cx):KR id H (H.set id o):=⟨hb _,λ_ _ hi h=>h.bR hi o⟩
theorem cc.Mc{n0 sz len:Nat}{cells:List I}(h:cc n0 H sz x len cells)(k:∀t l d a b,x = .aq (.own t) l d->At H t (.tok a b)->At H1 t (.tok a b)):cc n0 H1 sz x len cells:=by
 obtain⟨tk,c,hc,ht⟩:=h;refine⟨tk,c,hc,?_⟩;rcases ht with ht|ht|⟨t,rfl,e,f⟩
 ·exact .inl ht
 ·exact .inr (.inl ht)
 ·exact .inr (.inr ⟨t,rfl,e,k t _ _ _ _ c f⟩)
def One(v:I):Prop:=v.known=acI/\v.cells=[v]/\v.scalar=acI
theorem One.int{k:IntKind}:One (.int k n):=⟨rfl,rfl,rfl⟩
theorem At.st1(h:At H j (.row cs))(a:k<cs.length)(hv:One v):cf H 1 (.ptr j k) v=acK (H.set j (.row (cs.set k v))):=by rw[h.store,ab ⟨hv.1,by rw[hv.2.1];rfl,by rw[hv.2.1];simp[hv.2.2],a⟩,hv.2.1];rfl
theorem bW.ext(h:bW H id vars wh F c)(E:Z.Ext H H1):bW H1 id vars wh F c:=by obtain⟨xo,xs,a,b,d,e⟩:=h.x;exact⟨⟨xo,xs,a.ext E,b.frame λ_ _ _ h=>h.ext E,d.frame λ_ _ _ h=>h.ext E,e⟩,h.l.ext E,h.ld,h.lo⟩
theorem bW.other(h:bW H id vars wh F c)(g:At H j (.row cs))(i:j≠id)(k:ch F≠acK j)(ds:List I):bW (H.set j (.row ds)) id vars wh F c:=by obtain⟨xo,xs,a,b,d,e⟩:=h.x;have f:∀t a b,At H t (.tok a b)->At (H.set j (.row ds)) t (.tok a b):=λt a b h=>h.bR (h.ne g (by intro e;cases e)) _;exact⟨⟨xo,xs,a.bR i.symm _,b.frame f,d.frame f,e⟩,h.l.set k _,h.ld,h.lo⟩
theorem bW.Md(h:bW H id vars wh F c):aj H 1 acJ (.ptr id 3)=acK (.int .i64 (c.bM:Nat)):=by obtain⟨xo,xs,a,_⟩:=h.x;rw[a.load];rfl
theorem bW.k7(h:bW H id vars wh F c):aj H 1 acJ (.ptr id 4)=acK (.int .i64 (c.labels:Nat)):=by obtain⟨xo,xs,a,_⟩:=h.x;rw[a.load];rfl
theorem bW.ln(h:bW H id vars wh F c):aj H 1 acJ (.ptr id 6)=acK (.int .i64 c.ay):=by obtain⟨xo,xs,a,_⟩:=h.x;rw[a.load];rfl
theorem bW.lcs(h:bW H id vars wh F c):aj H 1 acJ (.ptr id 7)=acK F:=by obtain⟨xo,xs,a,_⟩:=h.x;rw[a.load];rfl
theorem bW.vs(h:bW H id vars wh F c):aj H 1 acJ (.ptr id 0)=acK (av aB.cells vars):=by obtain⟨xo,xs,a,_⟩:=h.x;rw[a.load];rfl
theorem bW.Wu(h:bW H id vars wh F c):aj H 1 acJ (.ptr id 1)=acK wh:=by obtain⟨xo,xs,a,_⟩:=h.x;rw[a.load];rfl
theorem bW.own(h:bW H id vars wh F c)(f:(k=3/\n=c'.bM/\c.bM<=c'.bM/\c'.labels=c.labels/\c'.ay=c.ay)\/(k=4/\n=c'.labels/\c'.bM=c.bM/\c'.ay=c.ay)\/(k=6/\n=c'.ay/\c'.bM=c.bM/\c'.labels=c.labels))(i:c'.A=c.A)(j:c'.sn=c.sn)(m:c'.sc=c.sc)(g:c'.L=c.L) :
  ∃H',cf H 1 (.ptr id k) (.int .i64 n)=acK H'/\KR id H H'/\bW H' id vars wh F c':=by
 obtain⟨xo,xs,a,b,d,e⟩:=h.x;refine⟨_,a.st1 (by rcases f with⟨rfl,_⟩|⟨rfl,_⟩|⟨rfl,_⟩<;>(show _<8;decide)) One.int,KR.set _,⟨xo,xs,?_,?_,?_,e⟩,by rw[g];exact h.l.set h.sQ _,h.ld,?_⟩
 . have:(kA vars wh xo xs F c).set k (.int .i64 n)=kA vars wh xo xs F c':=by
     unfold kA;rcases f with⟨rfl,rfl,_,k1,k2⟩|⟨rfl,rfl,k1,k2⟩|⟨rfl,rfl,k1,k2⟩<;>(rw[k1,k2];rfl)
   rw[this];exact a.set _
 ·rw[i];exact b.frame λt _ _ h=>h.bR (h.ne a (by intro e;cases e)) _
 ·rw[j,m];exact d.frame λt _ _ h=>h.bR (h.ne a (by intro e;cases e)) _
 . rw[g];intro p hp;have:=h.lo p hp;rcases f with⟨_,_,k1,_⟩|⟨_,_,k1,_⟩|⟨_,_,k1,_⟩<;>omega
structure Bx(H0:Z)(id:Nat)(F:I)(H:Z)(j N:Nat)(cs:List I):Prop where
 a:At H j (.row cs)
 ne:j≠id
 nx:ch F≠acK j
 lo:H0.n<=j
 len:cs.length=N
theorem Bx.bh(b:Bx H0 id F H j N cs)(k:KR id H H1):Bx H0 id F H1 j N cs:=⟨k.2 _ _ b.ne b.a,b.ne,b.nx,b.lo,b.len⟩
theorem bW.box(h:bW H id vars wh F c)(k:KR id H0 H)(hl:cs.length=N):Bx H0 id F (H.push (.row cs)) H.n N cs:=by obtain⟨xo,xs,a,_⟩:=h.x;exact⟨At.new H _,by have:=a.1;omega,λe=>by have:=h.l.lt e;omega,k.1,hl⟩
theorem KR.box(k:KR id H0 H)(b:H0.n<=j)(o:cx):KR id H0 (H.set j o):=⟨k.1,λi cs hi a=>(k.2 i cs hi a).bR (by have:=a.1;omega) o⟩
theorem Bx.other{c:Nat}(b:Bx H0 id F H j N cs)(h:j≠c)(o:cx):Bx H0 id F (H.set c o) j N cs:=⟨b.a.bR h o,b.ne,b.nx,b.lo,b.len⟩
theorem Bx.set(b:Bx H0 id F H j N cs)(ds:List I)(hl:ds.length=N):Bx H0 id F (H.set j (.row ds)) j N ds:=⟨b.a.set _,b.ne,b.nx,b.lo,hl⟩
theorem Bx.st(b:Bx H0 id F H j N cs)(h:bW H id vars wh F c)(e:KR id H0 H)(f:k<N)(hv:One v){P:Z->Prop}
  (g:∀H',KR id H0 H'->bW H' id vars wh F c->Bx H0 id F H' j N (cs.set k v)->(∀d M ds,d≠j->Bx H0 id F H d M ds->Bx H0 id F H' d M ds)->P H'):Do (cf H 1 (.ptr j k) v) P:=by
 rw[b.a.st1 (by rw[b.len];exact f) hv,O];exact g _ (e.box b.lo _) (h.other b.a b.ne b.nx _) (b.set _ (by rw[acn];exact b.len)) λd M ds hn b2=>b2.other hn _
theorem Bx.ld(b:Bx H0 id F H j N cs)(c:cs[k]?=acK x):aj H 1 acJ (.ptr j k)=acK x:=by rw[b.a.load];unfold bO;have:=(aal.1 c).1;rw[dN,cw];exact c
theorem Bx.all(b:Bx H0 id F H j N cs):aj H N acI (.ptr j 0)=acK (.agg cs):=b.a.all b.len
end
section
variable{C:Ctx}(ak:cP C)(hT:Cl (ai C) S.b7){id:Nat}{vars:List aB}{wh F:I}{c:LD}{H0 H:Z}{Q:aa}
include ak hT
theorem j3{P:I->Z->Prop}{k:Int}(h:bW H id vars wh F c)(b:KR id H0 H)(d:∀j H',KR id H H'->bW H' id vars wh F c->Bx H0 id F H' j 13 (C1 k).cells->H.n<=j->P (.ptr j 0) H') :
  ai C 104 [.int .i64 k] H λe H2=>bs (acK (bQ H2 acI [.int .i64 0,.int .i64 0,.int .i64 0,.int .i64 0,.int .i64 0,.int .i64 0,.int .u64 0,.int .i64 0,.int .i64 0,.int .i64 0,.int .i64 0,.int .i64 0,.int .i64 0])) λa f=>Do (cf f 13 a e) λg=>P a g:=by
 refine S.RN hT ?_;unfold S.f104;simp only[ag];rw[show bS [.int .i64 0,.int .i64 0,.int .i64 0,.int .i64 0,.int .i64 0,.int .i64 0,.int .u64 0,.int .i64 0,.int .i64 0,.int .i64 0,.int .i64 0,.int .i64 0,.int .i64 0] [(0,1,.int .i64 k),(1,1,(.int .i64 (-1))),(2,1,(.int .i64 (-1))),(3,1,(.int .i64 (-1))),(4,1,(.int .i64 (-1))),(5,1,(.int .i64 (-1)))]=acK (.agg (C1 k).cells)from rfl];simp only[bQ,bc,aN,O];rw[cn _ _ _ 13 rfl rfl rfl];simp only[O,eE];rw[gJ (n:=13) rfl];simp only[O];rw[cn _ _ _ 13 rfl rfl rfl];simp only[O];have E:=Z.Ext.push H (.row (C1 k).cells);have h1:=h.ext E;have k1:=b.trans (KR.ext E);exact d _ _ ((KR.ext E).trans (KR.ext (Z.Ext.push _ _))) (h1.ext (Z.Ext.push _ _)) (h1.box k1 rfl) (aa2 _)
theorem jJ(h:bW H id vars wh F c)(hl:c.A.length<=1000000000000)(o:eh)(hQ:∀H',KR id H H'->bW H' id vars wh F (c.add o)->Q (.aA []) H'):ai C 106 [.ptr id 0,.agg o.cells] H Q:=by
 refine S.RP hT ?_;unfold S.f106;simp only[ag];have U:b5 H acI 13 (.agg o.cells)=acK (.ptr H.n 0,H.push (.row o.cells)):=by unfold b5;rw[ab ⟨rfl,o.len⟩];rfl
 rw[U];simp only[aN,b8,aH,aa8,O];have b1:=h.box (KR.refl (id:=id)) o.len;have k1:KR id H (H.push (.row o.cells)):=KR.ext (Z.Ext.push _ _);have h1:=h.ext (Z.Ext.push H (.row o.cells));simp only[h1.ln,O];refine b1.st h1 k1 (by decide) One.int λH2 k2 f b2 _=>?_;have b:o.cells.set 12 (.int .i64 c.ay)=({o with ay:=c.ay}:eh).cells:=rfl;rw[b]at b2;obtain⟨xo,xs,a,k,hs,p⟩:=f.x;rw[a.load,show bO (kA vars wh xo xs F c) 2 1 acJ=acK xo from rfl];simp only[O,b2.all];rw[show cI H2 acJ 13 1 [.int .i64 0,.int .i64 0,.int .i64 0,.int .i64 0,.int .i64 0,.int .i64 0,.int .u64 0,.int .i64 0,.int .i64 0,.int .i64 0,.int .i64 0,.int .i64 0,.int .i64 0] [(0,13,.agg ({o with ay:=c.ay}:eh).cells)]=acK (.aq .full 1 ({o with ay:=c.ay}:eh).cells,H2)from rfl];simp only[aN];refine k.sq (by have:=a.1;omega) (m:=1) (news:=({o with ay:=c.ay}:eh).cells) rfl rfl rfl (by decide) (by omega) (by omega) λq r hn hk=>?_;have g:∀i ds,At H2 i (.row ds)->At q i (.row ds):=λi ds hi=>hk i _ hi λl cs e=>by
  subst e;obtain⟨tk,e1,_,b⟩:=k;cases e1;rcases b with⟨e,_⟩|e|⟨t,e,_,b⟩
  ·cases e
  ·cases e
  ·cases e;exact absurd (b.2.symm.trans hi.2) (by intro e;cases e)
 have a3:=g _ _ a;rw[a3.st1 (by show 2<8;decide) ⟨rfl,rfl,rfl⟩];simp only[O];refine hQ _ (k2.trans (KR.trans ⟨aee hn,λi ds _=>g i ds⟩ (KR.set _))) ⟨⟨_,xs,a3.set _,?_,?_,λt l c1 e l2 c2 b=>?_⟩,(f.l.bh λi cs _=>g i cs).set f.sQ _,f.ld,f.lo⟩
 . have e:(c.add o).A=c.A++[{o with ay:=c.ay}]:=rfl;rw[e,adm,aeD,aeJ];exact r.frame λt _ _ h=>h.bR (h.ne a3 (by intro e;cases e)) _
 ·exact hs.Mc λt l d x y e ht=>(hk t _ ht λl1 c1 e1=>p t l1 c1 e1 _ _ e).bR (ht.ne a (by intro e;cases e)) _
 . cases e;obtain⟨tk,e1,_,j⟩:=hs;rw[b]at e1;cases e1;rcases j with⟨e,_⟩|e|⟨t,e,_,j⟩
   ·cases e
   ·cases e
   ·cases e;have:=j.1;omega
end
end Rb
namespace Rb
open Go
structure nu(Φ:ad):Prop where
 row:∀{H:Z}{Q:aa}{id:Nat}{cs:List I}{l:List (Int×Int)},At H id (.row cs)->cs.take (l.length*2)=l.flatMap aD->l.length<4611686018427387904->Q (.aA []) (H.set id (.row ((eL l).flatMap aD++cs.drop (l.length*2))))->Φ 87 [.row id 0 l.length 2,.fn 88 []] H Q
 acL:∀{H:Z}{Q:aa}{tk:Tok},Q (.aA []) H->Φ 87 [.aq tk 0 [],.fn 88 []] H Q
theorem y5:∀l:List (Int×Int),(dc l).length<=l.length
 |[]=>by rw[dc];exact hb _
 |[x]=>by rw[dc];exact hb _
 | x::y::r=>by
  rw[dc];split
  ·have:=y5 (y::r);rw[adN];omega
  ·have:=y5 (y::r);rw[adN,adN];omega
structure Bk.ok(b:Bk):Prop where
 a:b.l.length<=8193
 n:b.full=acJ->b.l.length<=8192
theorem Bk.Wv{b:Bk}(h:b.l.length<=8193):b.tidy.ok:=by
 have:=y5 (eL b.l);rw[oa]at this;refine⟨by show(dc (eL b.l)).length<=_;omega,λe=>?_⟩;have h1:(b.full||decide ((dc (eL b.l)).length>4096))=acJ:=e;rw[Bool.or_eq_false_iff]at h1;have a:¬(dc (eL b.l)).length>4096:=by simpa using h1.2
 show(dc (eL b.l)).length<=_;omega
theorem Bk.C7{b:Bk}(h:b.ok)(s:Int×Int):(b.put s).l.length<=8193:=by
 unfold Bk.put;split
 ·exact h.a
 . rename_i e;have:=h.n (by simpa using e);show(b.l++[s]).length<=_;rw[adm,ad9];omega
theorem Bk.Me{b:Bk}(h:b.ok)(s:Int×Int):(b.add s).ok:=by
 unfold Bk.add;split
 ·exact Bk.Wv (Bk.C7 h s)
 . rename_i e;exact⟨Bk.C7 h s,λ_=>by omega⟩
structure e8(H:Z)(id:Nat)(F:I)(b:Bk):Prop where
 a:At H id (.row [F,.bool b.full])
 l:dH H 2 F b.l.length (b.l.flatMap aD)
 d:ch F≠acK id
def ho(id:Nat)(F:I)(H H':Z):Prop:=H.n<=H'.n/\∀i o,i≠id->ch F≠acK i->At H i o->At H' i o
def NB(H:Z)(F a:I):Prop:=ch a=ch F\/∃j,H.n<=j/\ch a=acK j
theorem ho.refl(id:Nat)(F:I)(H:Z):ho id F H H:=⟨hb _,λ_ _ _ _ h=>h⟩
theorem NB.ne{H:Z}{F a:I}{i:Nat}(h:NB H F a)(hi:i<H.n)(k:ch F≠acK i):ch a≠acK i:=by
 rcases h with h|⟨j,b,h⟩
 ·rw[h];exact k
 ·rw[h];intro e;cases e;omega
theorem ho.trans{id:Nat}{F d:I}{a b c:Z}(h:ho id F a b)(n:NB a F d)(k:ho id d b c):ho id F a c:=⟨sl h.1 k.1,λi o hi e f=>k.2 i o hi (n.ne f.1 e) (h.2 i o hi e f)⟩
theorem NB.trans{F d e:I}{a b:Z}(h:NB a F d)(hn:a.n<=b.n)(k:NB b d e):NB a F e:=by
 rcases k with k|⟨j,c,k⟩
 . rcases h with h|⟨j,c,h⟩
   ·exact .inl (k.trans h)
   ·exact .inr ⟨j,c,k.trans h⟩
 ·exact .inr ⟨j,sl hn c,k⟩
theorem e8.ni{H:Z}{id:Nat}{F:I}{b:Bk}(h:e8 H id F b):aj H 1 acJ (.ptr id 0)=acK F:=by rw[h.a.load];rfl
theorem e8.ld1{H:Z}{id:Nat}{F:I}{b:Bk}(h:e8 H id F b):aj H 1 acJ (.ptr id 1)=acK (.bool b.full):=by rw[h.a.load];rfl
theorem jm(i k:Nat):aH k (.ptr i 0)=acK (.ptr i k):=by simp[aH]
section
variable{C:Ctx}(ak:cP C)(hT:Cl (ai C) S.b7)(hS:nu (ai C)){H:Z}{Q:aa}{id:Nat}{F:I}{b:Bk}
include ak hT hS
theorem Mf(h:e8 H id F b)(U:b.l.length<=8193)(hQ:∀w H',H'.n=H.n->ho id F H H'->ch w=ch F->e8 H' id w b.tidy->Q (.aA []) H'):ai C 56 [.ptr id 0] H Q:=by
 refine S.Q_ hT ?_;unfold S.f56;simp only[ag];simp only[b8,jm,h.ni,O];have x:=y5 (eL b.l);rw[oa]at x;have tail:∀(c:I)(g:Z),g.n=H.n->ho id F H g->ch c=ch F->At g id (.row [F,.bool b.full])->dH g 2 c (dc (eL b.l)).length ((dc (eL b.l)).flatMap aD) ->
   Do (cf g 1 (.ptr id 0) c) λq=>Do (aj q 1 acJ (.ptr id 1)) λD=>aF D acJ (Do (aj q 1 acJ (.ptr id 0)) λE=>Do (ea acJ E) λG=>Do (cH .gtr G (.int .i64 4096)) λJ=>Do (cf q 1 (.ptr id 1) J) λs=>Q (.aA []) s) (Do (cf q 1 (.ptr id 1) (.bool acI)) λK=>Q (.aA []) K) False:=by
  intro c g hn hk r ha hl;obtain⟨n1,n2,n3⟩:=hl.known;have t:ch c≠acK id:=by rw[r];exact h.d
  rw[ha.st1 (by show 0<2;decide) ⟨n1,n2,n3⟩];have a3:=ha.set (.row ([F,.bool b.full].set 0 c));have l3:=hl.set t (.row ([F,.bool b.full].set 0 c));have L:ho id F H (g.set id (.row ([F,.bool b.full].set 0 c))):=⟨by show H.n<=g.n;omega,λi o hi k f=>(hk.2 i o hi k f).bR hi _⟩
  simp only[O];generalize N:g.set id (.row ([F,.bool b.full].set 0 c))=p at *;have P:p.n=H.n:=by rw[<-N];exact hn
  have a3:At p id (.row [c,.bool b.full]):=a3;have e1:aj p 1 acJ (.ptr id 1)=acK (.bool b.full):=by rw[a3.load];rfl
  have e0:aj p 1 acJ (.ptr id 0)=acK c:=by rw[a3.load];rfl
  have fin:∀v:Bool,(b.full||decide ((dc (eL b.l)).length>4096))=v->Do (cf p 1 (.ptr id 1) (.bool v)) λs=>Q (.aA []) s:=by intro v hv;rw[a3.st1 (by show 1<2;decide) ⟨rfl,rfl,rfl⟩];simp only[O];refine hQ c _ P ⟨by show H.n<=p.n;omega,λi o hi k f=>(L.2 i o hi k f).bR hi _⟩ r ⟨?_,l3.set t _,t⟩;have:b.tidy.full=v:=hv;rw[this];exact a3.set _
  simp only[e1,e0,l3.len,O,cV];cases hf:b.full with
  |true=>simp only[bP,bF,bc];exact fin acI (by rw[hf];rfl)
  | false=>simp only[bF,abW,b4];refine fin _ ?_;rw[hf,acq];apply decide_eq_decide.2;omega
 rcases h.l.2 with⟨tk,ht,hz,rfl⟩|⟨j,cs,m,rfl,y,X,R,T⟩
 . refine hS.acL ?_;have V:b.l=[]:=aeB hz;simp only[h.ni,O];refine S.Jj hT ?_;unfold S.f91;simp only[ag];simp only[show ea acJ (.aq tk 0 [])=acK (.int .i64 0)from rfl,O,aY,au];rw[jD];have e:dc (eL b.l)=[]:=aeB (by omega);refine tail _ H rfl (ho.refl _ _ _) rfl h.a ?_;rw[e];have:=h.l;rw[V]at this;exact this
 . have z:j≠id:=λe=>h.d (by rw[e];rfl);refine hS.row y T (by omega) ?_;have r1:=y.set (.row ((eL b.l).flatMap aD++cs.drop (b.l.length*2)));have M:=h.a.bR (λe=>z e.symm) (.row ((eL b.l).flatMap aD++cs.drop (b.l.length*2)));have k1:ho id (.row j 0 b.l.length 2) H (H.set j (.row ((eL b.l).flatMap aD++cs.drop (b.l.length*2)))):=⟨hb _,λi o hi k f=>f.bR (λe=>k (by rw[e];rfl)) _⟩
   have e0:aj (H.set j (.row ((eL b.l).flatMap aD++cs.drop (b.l.length*2)))) 1 acJ (.ptr id 0)=acK (.row j 0 b.l.length 2):=by rw[M.load];rfl
   simp only[e0,O];have A:(H.set j (.row ((eL b.l).flatMap aD++cs.drop (b.l.length*2)))).n=H.n:=rfl;generalize H.set j (.row ((eL b.l).flatMap aD++cs.drop (b.l.length*2)))=H1 at *;rw[<-oa b.l];refine VZ ak hT (by rw[oa];omega) r1 λa H2 f B u hle r=>?_;refine tail _ H2 (f.1.trans A) ⟨by rw[f.1,A];exact hb _,λi o hi k W=>f.2 i o (λe=>k (by rw[e];rfl)) (k1.2 i o hi k W)⟩ rfl (f.2 _ _ (λe=>z e.symm) M) ⟨by rw[ky],.inr ⟨j,_,m,rfl,r,?_,?_,?_⟩⟩
   . have x:cs.length-b.l.length*2+b.l.length*2=cs.length:=by
       have:=aby 2 R;omega
     rw[adm,ky,adx,B,oa];omega
   ·rw[oa]at hle;omega
   . rw [<-u];have:(a.flatMap aD++cs.drop (b.l.length*2)).take ((dc (eL b.l)).length*2)=(a.take (dc (eL b.l)).length).flatMap aD:=by
      rw[ado (by rw[ky,B];omega),show a.flatMap aD=(a.take (dc (eL b.l)).length).flatMap aD++(a.drop (dc (eL b.l)).length).flatMap aD by rw[<-aeD,aeE],ado (by rw[ky,adI];omega),adp (by rw[ky,adI];omega)]
     rw[u,this,u]
theorem Mg(h:e8 H id F b)(U:b.ok)(s:Int×Int)(hQ:∀p H',ho id F H H'->NB H F p->e8 H' id p (b.add s)->(b.add s).ok->Q (.aA []) H'):ai C 85 [.ptr id 0,.agg (aD s)] H Q:=by
 refine S.Rv hT ?_;unfold S.f85;simp only[ag];rw[show b5 H acJ 2 (.agg (aD s))=acK (.ae (aD s),H)from rfl];have f:=Bk.Me U s;have t:=Bk.C7 U s;simp only[aN,b8,jm,h.ni,h.ld1,O,dg,au,show aj H 2 acI (.ae (aD s))=acK (.agg (aD s))from rfl];have k1:∀(g:I)(H1:Z),ho id F H H1->NB H F g->e8 H1 id g (b.put s)->S.w8 (ai C) (.ptr id 0) Q [] H1:=by
  intro g H1 hk hn h1;unfold S.w8;simp only[ag];simp only[b8,jm,h1.ni,h1.l.len,O,cV,au];unfold Bk.add at hQ f;apply aG<;>intro e
  . have k:(b.put s).l.length>8192:=by
      have:(((b.put s).l.length:Nat):Int)>8192:=by simpa using e
      omega
    rw[ab k]at hQ f;refine Mf ak hT hS h1 t λu H2 n2 v w x=>?_;exact hQ u H2 (hk.trans hn v) (hn.trans hk.1 (.inl w)) x f
  . have k:¬(b.put s).l.length>8192:=by
      have:¬(((b.put s).l.length:Nat):Int)>8192:=by simpa using e
      omega
    rw[af k]at hQ f;exact hQ g H1 hk hn h1 f
 apply aG<;>intro e
 . have hf:b.full=acJ:=by simpa using e
   have hl:=U.n hf;rw[show cI H acJ 2 1 [.int .i64 0,.int .i64 0] [(0,2,.agg (aD s))]=acK (.aq .full 1 (aD s),H)from rfl];simp only[aN];refine h.l.app (by decide) rfl rfl (by omega) (by omega) λj H1 q hn hk c=>?_;obtain⟨n1,n2,n3⟩:=q.known;have M:=hk _ _ h.d h.a;have r:ch j≠acK id:=by
    rcases c with c|c
    ·rw[c];exact h.d
    ·rw[c];intro e;cases e;exact aeI _ h.a.1
   rw[M.st1 (by show 0<2;decide) ⟨n1,n2,n3⟩];simp only[O,aw];have m:b.put s=⟨b.l++[s],acJ⟩:=by unfold Bk.put;rw[af (by rw[hf];decide)]
   refine k1 j _ ⟨hn,λi o hi c y=>(hk i o c y).bR hi _⟩ (c.imp (λe=>e) λe=>⟨_,hb _,e⟩) ?_;rw[m];refine⟨?_,?_,r⟩
   . have:=M.set (.row ([F,.bool b.full].set 0 j));rw[hf]at this;rw[hf];exact this
   . show dH _ 2 j (b.l++[s]).length ((b.l++[s]).flatMap aD);rw[adm,aeD,aeJ];exact q.set r _
 . have hf:b.full=acI:=by simpa using e
   have m:b.put s=b:=by unfold Bk.put;rw[ab hf]
   exact k1 F H (ho.refl _ _ _) (.inl rfl) (by rw[m];exact h)
end
variable{a b n r l:Int}{R:Nat}
theorem cN(n:Nat):((n:Int)+1)=((n+1:Nat):Int):=by simp
theorem Mh:∀(L:List (List UInt8×Nat)) (k:Nat) (l:List UInt8×Nat),L[k]?=acK l->((L.flatMap jH).drop (k*2)).take 2=jH l
 |[],k,l,h=>by simp at h
 | x::r,0,l,h=>by simp at h;subst h;rfl
 | x::r,k+1,l,h=>by have:=Mh r k l (by simpa using h);rw[show(k+1)*2=k*2+2 by omega];exact this
def EX(id:Nat)(vars:List aB)(wh F:I)(H:Z)(c:LD)(w:Nat)(k:List bH)(Q:aa):Prop:=∀(r:Int)(c':LD)(H':Z),KR id H H'->bW H' id vars wh F c'->GE c c' w k->dZ c'.bM r->Q (.int .i64 r) H'
def EU(id:Nat)(vars:List aB)(wh F:I)(H:Z)(c:LD)(w:Nat)(k:List bH)(Q:aa):Prop:=∀(c':LD)(H':Z),KR id H H'->bW H' id vars wh F c'->GE c c' w k->Q (.aA []) H'
theorem jn{R S:Nat}{k d d2 a b c n o z r t s l:Int}(f:1<=k)(g:k<=18)(h:dZ R d)(i:dZ R d2)(ha:dZ R a)(U:dZ R b)(hc:dZ R c)(hs:k<4\/13<k\/(1<=s/\s<=(S:Nat)))(hz:k<4\/10<k\/z=1\/z=2\/z=4\/z=8):iT R S ⟨k,d,d2,a,b,c,n,o,z,r,t,s,l⟩:=⟨f,g,h,i,ha,U,hc,λe1 e=>by have e1:4<=k:=e1;have e:k<=13:=e;show 1<=s/\s<=_;omega,λe1 e=>by have e1:4<=k:=e1;have e:k<=10:=e;show z=1\/z=2\/z=4\/z=8;omega⟩
theorem k9{k d d2 a b c n o z r t s l:Int}(h:k<14\/16<k):mG ⟨k,d,d2,a,b,c,n,o,z,r,t,s,l⟩:=λe=>by have e1:14<=k:=e.1;have f:k<=16:=e.2;omega
theorem cX:dZ R (-1):=dZ.none R
theorem jK{R n:Nat}(h:n<R):dZ R (n:Int):=⟨by omega,by omega⟩
section
variable{C:Ctx}(ak:cP C)(hT:Cl (ai C) S.b7){id:Nat}{vars:List aB}{wh F:I}{c:LD}{H0 H:Z}{Q:aa}{w:Nat}
include ak hT
theorem oE(h:bW H id vars wh F c)(U:BD c (w+1))(hQ:∀H',KR id H H'->bW H' id vars wh F {c with bM:=c.bM+1}->Q (.int .i64 (c.bM:Nat)) H'):ai C 98 [.ptr id 0] H Q:=by
 have d:=U.r;refine S.RG hT ?_;unfold S.f98;simp only[ag];have a:abu .i64 ((c.bM:Int)+1)=((c.bM+1:Nat):Int):=by rw[bo,cN]
 have b:abu .i64 (((c.bM+1:Nat):Int)-1)=(c.bM:Int):=by rw[bo];simp
 obtain⟨H1,e1,k1,h1⟩:=h.own (k:=3) (c':={c with bM:=c.bM+1}) (n:=((c.bM+1:Nat):Int)) (.inl ⟨rfl,rfl,aa2 _,rfl,rfl⟩) rfl rfl rfl rfl;simp only[b8,aH,aa8,O,h.Md,bz,a,e1,h1.Md,eH,b];exact hQ H1 k1 h1
theorem y7(h:bW H id vars wh F c)(U:BD c (w+1))(hQ:∀H',KR id H H'->bW H' id vars wh F {c with labels:=c.labels+1}->Q (.int .i64 ((c.labels+1:Nat):Int)) H'):ai C 156 [.ptr id 0] H Q:=by
 have b:=U.l;refine S.Sk hT ?_;unfold S.f156;simp only[ag];have a:abu .i64 ((c.labels:Int)+1)=((c.labels+1:Nat):Int):=by rw[bo,cN]
 obtain⟨H1,e1,k1,h1⟩:=h.own (k:=4) (c':={c with labels:=c.labels+1}) (n:=((c.labels+1:Nat):Int)) (.inr (.inl ⟨rfl,rfl,rfl,rfl⟩)) rfl rfl rfl rfl;simp only[b8,aH,aa8,O,h.k7,bz,a,e1,h1.k7];exact hQ H1 k1 h1
theorem C8(h:bW H id vars wh F c)(U:BD c (w+1))(n:Int)(hQ:EX id vars wh F H c 1 [] Q):ai C 144 [.ptr id 0,.int .u64 n] H Q:=by refine S.R9 hT ?_;unfold S.f144;simp only[ag];refine j3 ak hT h KR.refl λj H1 k1 h1 b1 p=>?_;refine oE ak hT h1 U λH2 k2 d=>?_;have b2:=b1.bh k2;have e:=k1.trans k2;simp only[aH,aa8,O];refine b2.st d e (by decide) One.int λq f g b3 _=>?_;refine b3.st g f (by decide) One.int λr i l a _=>?_;rw[a.all];simp only[O];refine jJ ak hT l (by have:=U.A;show c.A.length<=_;omega) ⟨1,c.bM,-1,-1,-1,-1,n,0,0,0,0,0,0⟩ λm b o=>?_;rw[(a.bh b).ld (k:=1) rfl];simp only[O];exact hQ _ _ m (i.trans b) o (GE.C3 (jn (by decide) (by decide) (jK (acR _)) cX cX cX cX (.inl (by decide)) (.inl (by decide))) (k9 (.inl (by decide)))) (jK (acR _))
theorem sS(h:bW H id vars wh F c)(U:BD c (w+1))(op:Int)(ha:dZ c.bM a)(f:dZ c.bM b)(hQ:EX id vars wh F H c 1 [] Q):ai C 145 [.ptr id 0,.int .i64 op,.int .i64 a,.int .i64 b] H Q:=by refine S.R_ hT ?_;unfold S.f145;simp only[ag];refine j3 ak hT h KR.refl λj H1 k1 h1 b1 y=>?_;refine oE ak hT h1 U λH2 k2 g=>?_;have b2:=b1.bh k2;have i:=k1.trans k2;simp only[aH,aa8,O];refine b2.st g i (by decide) One.int λz l m b3 _=>?_;refine b3.st m l (by decide) One.int λB n o p _=>?_;refine p.st o n (by decide) One.int λD q r s _=>?_;refine s.st r q (by decide) One.int λE t u d _=>?_;rw[d.all];simp only[O];refine jJ ak hT u (by have:=U.A;show c.A.length<=_;omega) ⟨3,c.bM,-1,a,b,-1,0,op,0,0,0,0,0⟩ λv e x=>?_;rw[(d.bh e).ld (k:=1) rfl];simp only[O];exact hQ _ _ v (t.trans e) x (GE.C3 (jn (by decide) (by decide) (jK (acR _)) cX (ha.mono (aa2 _)) (f.mono (aa2 _)) cX (.inl (by decide)) (.inl (by decide))) (k9 (.inl (by decide)))) (jK (acR _))
theorem mI(h:bW H id vars wh F c)(U:BD c (w+2))(op n:Int)(ha:dZ c.bM a)(hQ:EX id vars wh F H c 2 [] Q):ai C 153 [.ptr id 0,.int .i64 op,.int .i64 a,.int .u64 n] H Q:=by
 refine S.Sh hT ?_;unfold S.f153;simp only[ag];have k1:S.Bq (ai C) (.ptr id 0) (.int .i64 op) (.int .i64 a) (.int .u64 n) Q [] H:=by unfold S.Bq;refine C8 ak hT (w:=w+1) h U n λr c1 H1 k1 h1 g1 r1=>?_;refine sS ak hT (w:=w) h1 (g1.bd (m:=w+1) (U.mono (by omega))) op (ha.mono g1.r0) r1 λd c2 H2 k2 e g2 d=>?_;exact hQ _ _ _ (k1.trans k2) e (g1.trans g2) d
 have k2:∀b:Bool,S.nY (ai C) (.ptr id 0) (.int .i64 op) (.int .i64 a) (.int .u64 n) Q [.bool b] H:=λb=>by unfold S.nY;simp only[T,au,aw];exact aG (λ_=>hQ _ _ _ KR.refl h ((GE.refl c).mono (aaU _) rfl) ha) (λ_=>k1)
 simp only[bI,O,bP,bF,aw]
 repeat' first|exact k2 _|apply aG<;>intro _
theorem sU(h:bW H id vars wh F c)(U:BD c (w+2)){s:bj}{b al:Int}(ha:dZ c.bM b)(hQ:EX id vars wh F H c 2 [] Q):ai C 151 [.ptr id 0,.agg (s.cells++[.int .i64 b,.int .i64 al])] H Q:=by
 refine S.Sf hT ?_;unfold S.f151;simp only[ag];have a:b5 H acJ 8 (.agg (s.cells++[.int .i64 b,.int .i64 al]))=acK (.ae (s.cells++[.int .i64 b,.int .i64 al]),H):=rfl;have d:aj H 1 acJ (.ae [.int .i64 b,.int .i64 al])=acK (.int .i64 b):=rfl;have l0:aj H 1 acJ (.ae (s.cells++[.int .i64 b,.int .i64 al]))=acK (.int .i64 s.at_):=rfl;rw[a];simp only[aN,show aH 6 (.ae (s.cells++[.int .i64 b,.int .i64 al]))=acK (.ae [.int .i64 b,.int .i64 al])from rfl,show aH 0 (.ae (s.cells++[.int .i64 b,.int .i64 al]))=acK (.ae (s.cells++[.int .i64 b,.int .i64 al]))from rfl,O,d,l0,bI,au,iL];apply aG<;>intro _
 ·exact C8 ak hT (w:=w+1) h U _ λr c1 H1 k1 h1 g1 r1=>hQ _ _ _ k1 h1 (g1.mono (by decide) rfl) r1
 ·exact mI ak hT h U _ _ ha hQ
theorem C9(hn:0<=n)(hQ:∀v,Q (.int .u64 v) H):ai C 154 [.int .i64 n] H Q:=by refine S.Si hT ?_;unfold S.f154;simp only[ag];simp only[eD,O,au];refine aG (λ_=>hQ _) (λ_=>?_);rw[Jx _ _ _ _ hn];simp only[O,eH];exact hQ _
theorem y8(h:bW H id vars wh F c)(U:BD c (w+1))(ha:dZ c.bM a)(d:dZ c.bM b)(hQ:EU id vars wh F H c 1 [] Q):ai C 99 [.ptr id 0,.int .i64 a,.int .i64 b] H Q:=by
 refine S.RH hT ?_;unfold S.f99;simp only[ag];refine j3 ak hT h KR.refl λj H1 e h1 b1 p=>?_;simp only[aH,aa8,O];refine b1.st h1 e (by decide) One.int λq f g b3 _=>?_;refine b3.st g f (by decide) One.int λr i k l _=>?_;rw[l.all];simp only[O];exact jJ ak hT k (by have:=U.A;omega) ⟨2,a,-1,b,-1,-1,0,0,0,0,0,0,0⟩ λm n o=>hQ _ m (i.trans n) o (GE.add (jn (by decide) (by decide) ha cX d cX cX (.inl (by decide)) (.inl (by decide))) (k9 (.inl (by decide))))
theorem y9(h:bW H id vars wh F c)(U:BD c (w+1))(t:Int)(hQ:∀H',KR id H H'->bW H' id vars wh F (c.add ⟨14,-1,-1,-1,-1,-1,0,0,0,0,t,0,0⟩)->Q (.aA []) H'):ai C 158 [.ptr id 0,.int .i64 t] H Q:=by refine S.Sm hT ?_;unfold S.f158;simp only[ag];refine j3 ak hT h KR.refl λj H1 a h1 b1 i=>?_;simp only[aH,aa8,O];refine b1.st h1 a (by decide) One.int λk b d b3 _=>?_;rw[b3.all];simp only[O];exact jJ ak hT d (by have:=U.A;omega) ⟨14,-1,-1,-1,-1,-1,0,0,0,0,t,0,0⟩ λe f g=>hQ e (b.trans f) g
theorem y_(h:bW H id vars wh F c)(U:BD c (w+1))(t:Int)(k:dZ c.bM r)(hQ:∀o H',KR id H H'->o.eV=t->(o.kind=15\/o.kind=16)->iT c.bM c.sn o->bW H' id vars wh F (c.add o)->Q (.aA []) H'):ai C 157 [.ptr id 0,.int .i64 t,.int .i64 r] H Q:=by
 refine S.Sl hT ?_;unfold S.f157;simp only[ag];refine j3 ak hT h KR.refl λj H1 i h1 b1 u=>?_;simp only[aH,aa8,O,cC,au,aw];apply aG<;>intro _
 . refine b1.st h1 i (by decide) One.int λv l m b3 _=>?_;refine b3.st m l (by decide) One.int λx n p q _=>?_;unfold S.xK;simp only[ag];simp only[aH,aa8,O];refine q.st p n (by decide) One.int λs a b d _=>?_;rw[d.all];simp only[O];exact jJ ak hT b (by have:=U.A;omega) ⟨16,-1,-1,r,-1,-1,0,0,0,0,t,0,0⟩ λe f g=>hQ _ e (a.trans f) rfl (.inr rfl) (jn (by decide) (by decide) cX cX k cX cX (.inr (.inl (by decide))) (.inr (.inl (by decide)))) g
 . unfold S.xK;simp only[ag];simp only[aH,aa8,O];refine b1.st h1 i (by decide) One.int λs a b d _=>?_;rw[d.all];simp only[O];exact jJ ak hT b (by have:=U.A;omega) ⟨15,-1,-1,-1,-1,-1,0,0,0,0,t,0,0⟩ λe f g=>hQ _ e (a.trans f) rfl (.inl rfl) (jn (by decide) (by decide) cX cX cX cX cX (.inr (.inl (by decide))) (.inr (.inl (by decide)))) g
theorem Mi(h:bW H id vars wh F c)(U:BD c (w+1))(k o:Int){M b:I}(m:bH)(q:m.cells = .int .i64 k :: .int .i64 o :: .int .i64 c.ay::[M,b])(r:M.scalar=acI)(fy:b.scalar=acI)(hQ:∀H' c',KR id H H'->bW H' id vars wh F c'->GE c c' 1 [m]->c'.bM=c.bM->c'.sn=c.sn+1->Q (.int .i64 ((c.sn+1:Nat):Int)) H'):ai C 105 [.ptr id 0,.int .i64 k,.int .i64 o,.agg [M,b]] H Q:=by
 have hs:=U.s;refine S.RO hT ?_;unfold S.f105;simp only[ag];obtain⟨xo,xs,a,h1,p,u⟩:=h.x;have v:aj H 1 acJ (.ptr id 5)=acK xs:=by rw[a.load];rfl
 have ha:aj H 2 acI (.ae [M,b])=acK (.agg [M,b]):=rfl;rw[show b5 H acJ 2 (.agg [M,b])=acK (.ae [M,b],H)from rfl];simp only[aN,b8,aH,aa8,O,h.ln,v,ha];rw[show bS [.int .i64 0,.int .i64 0,.int .i64 0,.str [],.aq .nil 0 []] [(0,1,.int .i64 k),(1,1,.int .i64 o),(2,1,.int .i64 c.ay),(3,2,.agg [M,b])]=acK (.agg (.int .i64 k :: .int .i64 o :: .int .i64 c.ay::[M,b]))from rfl];simp only[O];rw[show cI H acJ 5 1 [.int .i64 0,.int .i64 0,.int .i64 0,.str [],.aq .nil 0 []] [(0,5,.agg (.int .i64 k :: .int .i64 o :: .int .i64 c.ay::[M,b]))]=acK (.aq .full 1 (.int .i64 k :: .int .i64 o :: .int .i64 c.ay::[M,b]),H)from rfl];simp only[aN];refine p.sq (by have:=a.1;omega) (m:=1) (news:= .int .i64 k :: .int .i64 o :: .int .i64 c.ay::[M,b]) rfl rfl (by show(acI&&(acI&&(acI&&(M.scalar&&(b.scalar&&acI)))))=acI;rw[r,fy];rfl) (by decide) (by omega) (by omega) λz lN hn hk=>?_;have g:∀i ds,At H i (.row ds)->At z i (.row ds):=λi ds hi=>hk i _ hi λl cs e=>by
  subst e;obtain⟨tk,e1,_,f⟩:=p;cases e1;rcases f with⟨e,_⟩|e|⟨t,e,_,f⟩
  ·cases e
  ·cases e
  ·cases e;exact absurd (f.2.symm.trans hi.2) (by intro e;cases e)
 have a3:=g _ _ a;rw[a3.st1 (by show 5<8;decide) ⟨rfl,rfl,rfl⟩];simp only[O];have a4:=a3.set (.row ((kA vars wh xo xs F c).set 5 (.aq (.own H.n) (c.sn+1) (c.sc++(.int .i64 k :: .int .i64 o :: .int .i64 c.ay::[M,b])))));rw[a4.load,show bO ((kA vars wh xo xs F c).set 5 (.aq (.own H.n) (c.sn+1) (c.sc++(.int .i64 k :: .int .i64 o :: .int .i64 c.ay::[M,b])))) 5 1 acJ=acK (.aq (.own H.n) (c.sn+1) (c.sc++(.int .i64 k :: .int .i64 o :: .int .i64 c.ay::[M,b])))from rfl];simp only[O,show ∀(tk:Tok)(n:Nat)(cs:List I),ea acJ (.aq tk n cs)=acK (.int .i64 n)from λ_ _ _=>rfl];refine hQ _ {c with sn:=c.sn+1,sc:=c.sc++(.int .i64 k :: .int .i64 o :: .int .i64 c.ay::[M,b])} (KR.trans ⟨aee hn,λi ds _=>g i ds⟩ (KR.set _)) ⟨⟨xo,_,a4,?_,lN.frame λt _ _ h=>h.bR (h.ne a3 (by intro e;cases e)) _,λt l c1 e l2 c2 f=>?_⟩,(h.l.bh λi cs _=>g i cs).set h.sQ _,h.ld,h.lo⟩
  ⟨⟨[],(adv _).symm,aaU _,λ_ A=>by cases A⟩,hb _,aa2 _,rfl,by rw[aeJ,q],hb _,rfl,rfl,rfl⟩ rfl rfl
 ·exact h1.Mc λt l d x y e ht=>(hk t _ ht λl1 c1 e1=>u t l d e _ _ e1).bR (ht.ne a (by intro e;cases e)) _
 . cases f;obtain⟨tk,e1,_,j⟩:=h1;rw[e]at e1;cases e1;rcases j with⟨e,_⟩|e|⟨t,e,_,j⟩
   ·cases e
   ·cases e
   ·cases e;have:=j.1;omega
theorem sV(h:bW H id vars wh F c)(hl:c.ay=l)(U:BD c (w+1))(k o:Int)(a:k≠7)(x:aJ)(hQ:∀H' c',KR id H H'->bW H' id vars wh F c'->GE c c' 1 [⟨k,o,l,x⟩]->c'.bM=c.bM->c'.sn=c.sn+1->Q (.int .i64 ((c.sn+1:Nat):Int)) H'):ai C 105 [.ptr id 0,.int .i64 k,.int .i64 o,.agg x.cells] H Q:=by rw[aJ.aX];exact Mi ak hT h U k o ⟨k,o,l,x⟩ (by unfold bH.cells;rw[af a,aJ.aX,hl]) rfl rfl hQ
theorem za(h:bW H id vars wh F c)(U:BD c w){V:List UInt8}(hn:V∈c.L.map ac2)(hQ:∀r:Int,dZ c.bM r->Q (.int .i64 r) H):ai C 100 [.ptr id 0,.str V] H Q:=by
 have y:=U.L;refine S.RJ hT ?_;unfold S.f100;simp only[ag];have m:b5 H acJ 1 (.str V)=acK (.ae [.str V],H):=rfl;simp only[m,aN,b8,aH,aa8,h.lcs,O];refine S.Sc hT ?_;unfold S.f148;simp only[ag];simp only[h.l.len,O];have main:∀(r:List (List UInt8×Nat)) (k:Nat),c.L.drop k=r->V∈r.map ac2 ->
   ar (S.Bp (ai C) F (.fn 149 [.ae [.str V]]) (.int .i64 c.L.length) (λn a=>Do (aj a 1 acJ (.ptr id 7)) λo=>Do (aL acL 2 o n) λp=>Do (aH 1 p) λq=>Do (aj a 1 acJ q) λs=>Q s a)) ([.int .i64 k],H):=by
  intro r;induction r with
  |nil=>intro k d he;simp at he
  | cons l r t=>
   intro k d he;obtain⟨hk,f,u⟩:=c4 d;obtain⟨j,cs,z,g,i,v,A⟩:=h.l.addr hk;have b:=Mh c.L k l f;rw[<-v,List.drop_take,aex,aec (by omega)]at b;refine ar.step ?_;simp only[ag,S.Bp,T,aY,O,au];rw[cM];simp only[i,O,g.load];rw[show bO cs (k*2) 2 acI=acK (.agg (jH l)) by unfold bO;rw[dN,ab rfl,b]];simp only[O];refine⟨149,[.ae [.str V]],rfl,?_⟩;rw[qu rfl,qv rfl];show ai C 149 [.agg (jH l),.ae [.str V]] H _;refine S.Sd hT ?_;unfold S.f149;simp only[ag];have x:b5 H acJ 2 (.agg (jH l))=acK (.ae (jH l),H):=by unfold b5;rw[ab ⟨rfl,rfl⟩];rfl
   have l0:aj H 1 acJ (.ae (List.drop 0 (jH l)))=acK (.str l.1):=rfl;have l1:aj H 1 acJ (.ae [.str V])=acK (.str V):=rfl;simp only[x,aN,aH,O,l0,l1,fD,au];apply aG<;>intro e
   . simp only[h.lcs,O,i,aH,g.load];rw [show bO cs (k*2+1) 1 acJ=acK (.int .i64 (l.2:Nat)) by
       have:cs[k*2+1]?=acK (.int .i64 (l.2:Nat)):=by rw[<-List.getElem?_drop,<-List.getElem?_take_of_lt (show 1<2 by decide),b];rfl
       unfold bO;rw[dN,cw,this]]
     simp only[O];exact hQ _ (jK (h.lo l (adq f)))
   . simp only[bz,O];rw[bo,cN];refine t (k+1) u ?_;rcases aco.1 he with he|he
     ·exact absurd (by simp[<-he]) e
     ·exact he
 exact main c.L 0 rfl hn
end
end Rb
namespace Rb
open Go
def P2(r:Int):Prop:=r=1\/r=2\/r=4\/r=8\/r=16
def P8(r:Int):Prop:=r=1\/r=2\/r=4\/r=8
theorem P2.pos{r:Int}(h:P2 r):1<=r/\r<=16:=by unfold P2 at h;omega
theorem P2.half{r:Int}(h:P2 r)(a:1<r):P2 (r/2)/\r/2<r/\cH .quo (.int .i64 r) (.int .i64 2)=acK (.int .i64 (r/2)):=by
 rcases h with rfl|rfl|rfl|rfl|rfl
 ·omega
 all_goals exact⟨by unfold P2;omega,by omega,by rw[jg _ _ _ (by decide)];rfl⟩
theorem P2.ind{P:Int->Prop}(h:∀r,P2 r->(1<r->P (r/2))->P r):∀r,P2 r->P r:=by have a:=h 1 (.inl rfl) (λe=>absurd e (by decide));have b:=h 2 (.inr (.inl rfl)) (λ_=>a);have c:=h 4 (.inr (.inr (.inl rfl))) (λ_=>b);have d:=h 8 (.inr (.inr (.inr (.inl rfl)))) (λ_=>c);have g:=h 16 (.inr (.inr (.inr (.inr rfl)))) (λ_=>d);intro r f;rcases f with rfl|rfl|rfl|rfl|rfl<;>assumption
def eW(p:Int×Int):List I:=[.int .i64 p.1,.int .i64 p.2]
def Mj(x:I)(l:List (Int×Int)):Prop:=∃tk,x = .aq tk l.length (l.flatMap eW)
section
variable{C:Ctx}(ak:cP C)(hT:Cl (ai C) S.b7){H:Z}{Q:aa}
include ak hT
theorem C_{n m:Int}(c:P2 m)(hQ:∀r,P2 r->r<=m->Q (.int .i64 r) H):ai C 195 [.int .i64 n,.int .i64 m] H Q:=by
 refine S.SC hT ?_;unfold S.f195;have main:∀r,P2 r->(r<=m->ar (S.xX (ai C) (.int .i64 n) Q) ([.int .i64 r],H)):=by
  refine P2.ind λr a d hle=>ar.step ?_;simp only[ag,S.xX,T,cV,O,bP,aw];have k2:∀b:Bool,(b=acI->1<r)->S.xW (ai C) ([.int .i64 r],H) (ar (S.xX (ai C) (.int .i64 n) Q)) Q [.bool b] H:=λb U=>by unfold S.xW;simp only[T,au,aw];refine aG (λe=>?_) (λ_=>hQ r a hle);unfold S.I_;simp only[ag];obtain⟨_,g,f⟩:=a.half (U e);simp only[T,f,O];exact d (U e) (by omega)
  refine aG (λe=>?_) (λe=>k2 acJ (λe=>by cases e));rw[jV _ _ _ (by have:=a.pos;omega)];simp only[O,cC];exact k2 _ λ_=>by simpa using e
 exact main m c (adR _)
theorem Ww{c len:Int}(hl:len<=16)(hQ:∀l x H',Z.Ext H H'->Mj x l->(∀p∈l,P8 p.2)->l.length<=16->Q x H'):ai C 214 [.agg [.int .i64 c,.int .i64 len]] H Q:=by
 refine S.SG hT ?_;unfold S.f214;simp only[ag];have z:∀H',Z.Ext H H'->Q (.aq .nil 0 []) H':=λH' E=>hQ [] _ H' E ⟨.nil,rfl⟩ (λp hp=>by cases hp) (aaU _);have U:b5 H acI 2 (.agg [.int .i64 c,.int .i64 len])=acK (.ptr H.n 0,H.push (.row [.int .i64 c,.int .i64 len])):=rfl;rw[U];simp only[aN];have k:=Z.Ext.push H (.row [.int .i64 c,.int .i64 len]);have r1:=At.new H (.row [.int .i64 c,.int .i64 len]);rw[r1.all (n:=2) rfl];simp only[O];generalize H.push (.row [.int .i64 c,.int .i64 len])=H1 at *;have l0:aj H1 1 acJ (.ptr H.n 0)=acK (.int .i64 c):=by rw[r1.load];rfl
 have l1:aj H1 1 acJ (.ptr H.n 1)=acK (.int .i64 len):=by rw[r1.load];rfl
 have loop : ∀(n:Nat)(a len:Int)(x:I)(l:List (Int×Int)) (H2:Z),len.toNat=n->Z.Ext H H2->At H2 H.n (.row [.int .i64 a,.int .i64 len])->len<=16->cc H.n H2 2 x l.length (l.flatMap eW)->(∀p∈l,P8 p.2)->(l.length:Int)+len.toNat<=16->ar (S.pQ (ai C) (.ptr H.n 0) Q) ([x],H2):=by
  intro n;induction n using aeK with
  | _ n A =>
   intro a len x l H2 hn f q ad u hp hc;have m0:aj H2 1 acJ (.ptr H.n 0)=acK (.int .i64 a):=by rw[q.load];rfl
   have m1:aj H2 1 acJ (.ptr H.n 1)=acK (.int .i64 len):=by rw[q.load];rfl
   refine ar.step ?_;simp only[ag,S.pQ,aH,aa8,m1,O,cV,au,T];apply aG<;>intro e
   . have af:0<len:=by simpa using e
     have inner:∀r,P2 r->(r<=8->ar (S.x4 (ai C) (.ptr H.n 0) ([x],H2) (ar (S.pQ (ai C) (.ptr H.n 0) Q)) Q) ([.int .i64 r],H2)):=by
      refine P2.ind λr d B hle=>ar.step ?_;simp only[ag,S.x4,aH,aa8,m0,m1,O,cV,bF,aw,T];have v:∀b:Bool,(b=acI->1<r)->(b=acJ->r<=len)->S.x3 (ai C) (.ptr H.n 0) ([x],H2) (ar (S.pQ (ai C) (.ptr H.n 0) Q)) ([.int .i64 r],H2) (ar (S.x4 (ai C) (.ptr H.n 0) ([x],H2) (ar (S.pQ (ai C) (.ptr H.n 0) Q)) Q)) Q [.bool b] H2:=λb U s=>by
       unfold S.x3;simp only[T,au,aw];apply aG<;>intro e
       . unfold S.Jf;simp only[ag];obtain⟨_,ah,D⟩:=d.half (U e);simp only[T,D,O];exact B (U e) (by omega)
       . have ak:=s (by simpa using e);have F:P8 r:=by unfold P2 at d;unfold P8;omega
         unfold S.Jg;simp only[ag];simp only[T,aH,aa8,m0,O];rw[show bS [.int .i64 0,.int .i64 0] [(0,1,.int .i64 a),(1,1,.int .i64 r)]=acK (.agg (eW (a,r)))from rfl];simp only[O];rw[show cI H2 acJ 2 1 [.int .i64 0,.int .i64 0] [(0,2,.agg (eW (a,r)))]=acK (.aq .full 1 (eW (a,r)),H2)from rfl];simp only[aN];refine u.app f.1 (m:=1) (news:=eW (a,r)) rfl rfl rfl (by decide) (by omega) (by omega) λJ g K lf=>?_;have j:=lf.row q;have L:Z.Ext H g:=⟨sl f.1 lf.1,λi hi=>((lf.2 i (H2.o i) ⟨xl hi f.1,rfl⟩ (.inl hi)).2).trans (f.2 i hi)⟩
         have m3:aj g 1 acJ (.ptr H.n 0)=acK (.int .i64 a):=by rw[j.load];rfl
         simp only[m3,O,bz];rw[j.st1 (by show 0<2;decide) One.int];have r4:=j.set (.row ([.int .i64 a,.int .i64 len].set 0 (.int .i64 (abu .i64 (a+r)))));have M:=L.set (hb _) (.row ([.int .i64 a,.int .i64 len].set 0 (.int .i64 (abu .i64 (a+r)))));have N:=K.frame (H':=g.set H.n (.row ([.int .i64 a,.int .i64 len].set 0 (.int .i64 (abu .i64 (a+r)))))) (λt _ _ h=>h.bR (h.ne j (by intro e;cases e)) _);simp only[O];generalize g.set H.n (.row ([.int .i64 a,.int .i64 len].set 0 (.int .i64 (abu .i64 (a+r)))))=P at *;have m4:aj P 1 acJ (.ptr H.n 1)=acK (.int .i64 len):=by rw[r4.load];rfl
         simp only[m4,O,eH];rw[wrap_i64 (n:=len-r) (by have:=d.pos;omega) (by have:=d.pos;omega),r4.st1 (by show 1<2;decide) One.int];simp only[O];refine A (len-r).toNat (by have:=d.pos;omega) (abu .i64 (a+r)) (len-r) J (l++[(a,r)]) _ rfl (M.set (hb _) _) (r4.set _) (by have:=d.pos;omega) ?_ (λp R=>?_) (by have:=d.pos;rw[adm,ad9];omega)
         . rw[adm,aeD,aeJ];exact N.frame λt _ _ h=>h.bR (h.ne r4 (by intro e;cases e)) _
         . rcases acf.1 R with h|h
           ·exact hp p h
           ·rw[aeH.1 h];exact F
      apply dC<;>intro e
      . have V:r<=len:=by simpa using e
        rw[jV _ _ _ (by have:=d.pos;omega)];simp only[O,cC];refine v _ (λe1=>?_) (λ_=>V);have:=d.pos;by_cases h1:r=1
        ·subst h1;simp at e1
        ·omega
      ·exact v acI (λ_=>by have:len<r:=(by simpa using e);omega) (λe=>by cases e)
     exact inner 8 (.inr (.inr (.inr (.inl rfl)))) (adR _)
   . obtain⟨tk,W,_⟩:=u;exact hQ l x H2 f ⟨tk,W⟩ hp (by omega)
 have X:S.BJ (ai C) (.ptr H.n 0) Q [] H1:=by
  unfold S.BJ;by_cases al:0<=len
  ·exact loop len.toNat c len _ [] H1 rfl k r1 hl (cc.nil _ _ _) (λp hp=>by cases hp) (by simp;omega)
  ·exact loop len.toNat c len _ [] H1 rfl k r1 hl (cc.nil _ _ _) (λp hp=>by cases hp) (by simp;omega)
 have w:∀b:Bool,S.x5 (ai C) (.ptr H.n 0) Q [.bool b] H1:=λb=>by unfold S.x5;simp only[T,au,aw];exact aG (λ_=>z H1 k) (λ_=>X)
 have y:∀b:Bool,S.pR (ai C) (.ptr H.n 0) Q [.bool b] H1:=λb=>by unfold S.pR;simp only[ag];simp only[T,bF,aw,aH,aa8,l0,l1,O,bz,cV];exact aG (λ_=>w _) (λ_=>w _)
 have snd:∀b:Bool,Do (cu .not (.bool b)) λY=>aF Y acJ (Do (aH 1 (.ptr H.n 0)) λaa=>Do (aj H1 1 acJ aa) λab=>Do (cH .gtr ab (.int .i64 64)) λac=>G (S.pR (ai C) (.ptr H.n 0) Q) [ac] H1) (G (S.pR (ai C) (.ptr H.n 0) Q) [.bool acI] H1) False:=λb=>by simp only[dg,O,bF,aH,aa8,l1,cV,aw];exact aG (λ_=>y _) (λ_=>y _)
 refine S.Jk hT ?_;unfold S.f113;simp only[ag];have s:b5 H1 acJ 2 (.agg [.int .i64 c,.int .i64 len])=acK (.ae [.int .i64 c,.int .i64 len],H1):=rfl;have s0:aj H1 1 acJ (.ae [.int .i64 c,.int .i64 len])=acK (.int .i64 c):=rfl;have s1:aj H1 1 acJ (.ae [.int .i64 len])=acK (.int .i64 len):=rfl;rw[s];simp only[ag,aN,show aH 0 (.ae [.int .i64 c,.int .i64 len])=acK (.ae [.int .i64 c,.int .i64 len])from rfl,show aH 1 (.ae [.int .i64 c,.int .i64 len])=acK (.ae [.int .i64 len])from rfl,O,s0,s1,eD,gl,bP,aw,S.xt,S.xr,T]
 repeat' first|exact snd _|apply aG<;>intro _
end
theorem Da{tk:Tok}{l:List (Int×Int)}{i:Nat}{p:Int×Int}(h:l[i]?=acK p)(H:Z):∃a,aL acL 2 (.aq tk l.length (l.flatMap eW)) (.int .i64 i)=acK a/\aj H 2 acI a=acK (.agg (eW p)):=⟨_,b6 (cells:=eW) (aal.1 h).1,c8 (cells:=eW) (λ_=>rfl) (by decide) H h⟩
theorem Left.ext{n0:Nat}{H0 H H':Z}(hn:H0.n=n0)(E:Z.Ext H0 H)(lf:Left n0 H H'):Z.Ext H0 H':=⟨sl E.1 lf.1,λi hi=>((lf.2 i (H.o i) ⟨xl hi E.1,rfl⟩ (.inl (by omega))).2).trans (E.2 i hi)⟩
def dS(s:bj)(b al:Int):List I:=s.cells++[.int .i64 b,.int .i64 al]
section
variable{s:bj}{b al:Int}
theorem Db(H:Z):b5 H acJ 8 (.agg (dS s b al))=acK (.ae (dS s b al),H):=rfl
theorem zb:aH 0 (.ae (dS s b al))=acK (.ae (dS s b al)):=rfl
theorem Wx(H:Z):aj H 1 acJ (.ae (dS s b al))=acK (.int .i64 s.at_):=rfl
theorem Wy(H:Z):aj H 2 acI (.ae (dS s b al))=acK (.agg [.int .i64 s.at_,.int .i64 s.len]):=rfl
theorem Ml(H:Z):aj H 8 acI (.ae (dS s b al))=acK (.agg (dS s b al)):=rfl
theorem Wz(H:Z):∃p,aH 1 (.ae (dS s b al))=acK p/\∀H:Z,aj H 1 acJ p=acK (.int .i64 s.len):=⟨_,rfl,λ_=>rfl⟩
theorem WA(H:Z):∃p,aH 6 (.ae (dS s b al))=acK p/\∀H:Z,aj H 1 acJ p=acK (.int .i64 b):=⟨_,rfl,λ_=>rfl⟩
theorem WB(H:Z):∃p,aH 7 (.ae (dS s b al))=acK p/\∀H:Z,aj H 1 acJ p=acK (.int .i64 al):=⟨_,rfl,λ_=>rfl⟩
end
section
variable{C:Ctx}(ak:cP C)(hT:Cl (ai C) S.b7){H:Z}{Q:aa}
include ak hT
theorem Mm{s:bj}{b al:Int}(G:P2 al)(hl:s.len<=16)(hQ:∀l x H',Z.Ext H H'->Mj x l->(∀p∈l,P8 p.2)->l.length<=16->Q x H'):ai C 196 [.agg (dS s b al)] H Q:=by
 refine S.SD hT ?_;unfold S.f196;simp only[ag];obtain⟨V,f1,g1⟩:=Wz (s:=s) (b:=b) (al:=al) H;obtain⟨W,f6,g6⟩:=WA (s:=s) (b:=b) (al:=al) H;obtain⟨X,f7,g7⟩:=WB (s:=s) (b:=b) (al:=al) H;simp only[Db,aN,f6,g6,O,bI,au,zb,Wy];apply aG<;>intro _
 . refine Ww ak hT hl λl x H1 J o hp hc=>?_;obtain⟨tk,rfl⟩:=o;simp only[show ea acJ (.aq tk l.length (l.flatMap eW))=acK (.int .i64 l.length)from rfl,O];have main:∀(r:List (Int×Int)) (i:Nat) (H2:Z) (y:I) (d:List (Int×Int)),l.drop i=r->d.length=i->i<=l.length->Z.Ext H H2->cc H.n H2 2 y d.length (d.flatMap eW)->(∀p∈d,P8 p.2) ->
     ar (S.xY (ai C) (.ae (dS s b al)) (.aq tk l.length (l.flatMap eW)) (.int .i64 l.length) Q) ([y,.int .i64 i],H2):=by
    intro r;induction r with
    | nil=>intro i H2 y d v he K c f g;have hle:=c7 v;refine ar.step ?_;simp only[ag,S.xY,T,bE,aY,O,au];rw[cQ];obtain⟨w,e,_⟩:=f;exact hQ d y H2 c ⟨w,e⟩ g (by omega)
    | cons p r z=>
     intro i H2 y d v he K c f g;obtain⟨Y,o,L⟩:=c4 v;obtain⟨a,e1,M⟩:=Da (tk:=tk) o H2;refine ar.step ?_;simp only[ag,S.xY,T,bE,aY,O,au];rw[cM];simp only[e1,M,O,aN,bQ,bc];rw[cn _ _ _ 2 rfl rfl rfl];have E:=At.new H2 (.row (eW p));have F:=c.trans (Z.Ext.push H2 (.row (eW p)));have N:=f.frame (H':=H2.push (.row (eW p))) (λt _ _ h=>h.push _);generalize H2.push (.row (eW p))=u at *;have m0:aj u 1 acJ (.ptr H2.n 0)=acK (.int .i64 p.1):=by rw[E.load];rfl
     have m1:aj u 1 acJ (.ptr H2.n 1)=acK (.int .i64 p.2):=by rw[E.load];rfl
     simp only[O,show ∀k:Nat,aH k (.ptr H2.n 0)=acK (.ptr H2.n (0+k))from λ_=>rfl,aa8,m0,m1,zb,Wx,eH];rw[show bS [.int .i64 0,.int .i64 0] [(0,1,.int .i64 (abu .i64 (p.1-s.at_))),(1,1,.int .i64 p.2)]=acK (.agg (eW (abu .i64 (p.1-s.at_),p.2)))from rfl];simp only[O];rw[show cI u acJ 2 1 [.int .i64 0,.int .i64 0] [(0,2,.agg (eW (abu .i64 (p.1-s.at_),p.2)))]=acK (.aq .full 1 (eW (abu .i64 (p.1-s.at_),p.2)),u)from rfl];simp only[aN];refine N.app F.1 (m:=1) (news:=eW (abu .i64 (p.1-s.at_),p.2)) rfl rfl rfl (by decide) (by omega) (by omega) λy4 A B lf=>?_;simp only[bz,O];rw[bo,cN];refine z (i+1) A y4 (d++[(abu .i64 (p.1-s.at_),p.2)]) L (by simp[he]) (by omega) (lf.ext rfl F) ?_ (λq D=>?_)
     ·rw[adm,aeD,aeJ];exact B
     . rcases acf.1 D with h|h
       ·exact g q h
       ·rw[aeH.1 h];exact hp p (adq o)
   exact main l 0 H1 _ [] rfl rfl (aaU _) J (cc.nil _ _ _) (λp hp=>by cases hp)
 . have loop : ∀(n:Nat)(a:Int)(y:I)(d:List (Int×Int)) (H2:Z),(s.len-a).toNat=n->0<=a->a<=16->Z.Ext H H2->cc H.n H2 2 y d.length (d.flatMap eW)->(∀p∈d,P8 p.2)->(d.length:Int)<=a ->
       ar (S.xZ (ai C) (.ae (dS s b al)) Q) ([y,.int .i64 a],H2):=by
     intro n;induction n using aeK with
     | _ n z =>
      intro a y d H2 hn aa jl c f g ab;refine ar.step ?_;simp only[ag,S.xZ,zb,f1,g1,f7,g7,O,aY,au,T,bE];apply aG<;>intro e
      . have ac:a<s.len:=by simpa using e
        obtain ⟨m,hm,ad,em⟩:∃m,P2 m/\m<=8/\gH acJ [.int .i64 al,.int .i64 8]=acK (.int .i64 m):=by
         rcases G with rfl|rfl|rfl|rfl|rfl
         ·exact⟨1,.inl rfl,by decide,rfl⟩
         ·exact⟨2,.inr (.inl rfl),by decide,rfl⟩
         ·exact⟨4,.inr (.inr (.inl rfl)),by decide,rfl⟩
         ·exact⟨8,.inr (.inr (.inr (.inl rfl))),by decide,rfl⟩
         ·exact⟨8,.inr (.inr (.inr (.inl rfl))),by decide,rfl⟩
        simp only[em,O];refine C_ ak hT hm λr j af=>?_;have inner:∀r,P2 r->(r<=8->ar (S.BE (ai C) (.ae (dS s b al)) ([y,.int .i64 a],H2) (ar (S.xZ (ai C) (.ae (dS s b al)) Q)) Q) ([.int .i64 r],H2)):=by
         refine P2.ind λr j P hle=>ar.step ?_;simp only[ag,S.BE,zb,f1,g1,O,eH,cV,au,T,bE,aw];rw[bo];apply aG<;>intro e
         . have h1:1<r:=by have:s.len-a<r:=(by simpa using e);omega
           obtain⟨_,ah,R⟩:=j.half h1;rw[R];simp only[O];exact P h1 (by omega)
         . have am:r<=s.len-a:=by simpa using e
           have ez:=j.pos;have U:P8 r:=by unfold P2 at j;unfold P8;omega
           unfold S.Jb;simp only[ag];simp only[T,bE];rw[show bS [.int .i64 0,.int .i64 0] [(0,1,.int .i64 a),(1,1,.int .i64 r)]=acK (.agg (eW (a,r)))from rfl];simp only[O];rw[show cI H2 acJ 2 1 [.int .i64 0,.int .i64 0] [(0,2,.agg (eW (a,r)))]=acK (.aq .full 1 (eW (a,r)),H2)from rfl];simp only[aN];refine f.app c.1 (m:=1) (news:=eW (a,r)) rfl rfl rfl (by decide) (by omega) (by omega) λy4 A B lf=>?_;simp only[bz,O];rw[bo];refine z (s.len-(a+r)).toNat (by omega) (a+r) y4 (d++[(a,r)]) A rfl (by omega) (by omega) (lf.ext rfl c) ?_ (λq D=>?_) (by rw[adm,ad9];omega)
           ·rw[adm,aeD,aeJ];exact B
           . rcases acf.1 D with h|h
             ·exact g q h
             ·rw[aeH.1 h];exact U
        exact inner r j (by omega)
      . obtain⟨w,e,_⟩:=f;exact hQ d y H2 c ⟨w,e⟩ g (by omega)
   exact loop _ 0 _ [] H rfl (adR _) (by decide) (Z.Ext.refl _) (cc.nil _ _ _) (λp hp=>by cases hp) (by decide)
end
theorem bW.j4{id:Nat}{vars:List aB}{wh F:I}{c:LD}{H0 H:Z}{P:I->Z->Prop}{a cs:List I}{N:Nat}(h:bW H id vars wh F c)(b:KR id H0 H)(hz:a.length=N)(hc:cs.length=N)(hs:cs.all I.scalar=acI)(d:∀j H',KR id H H'->bW H' id vars wh F c->Bx H0 id F H' j N cs->H.n<=j->P (.ptr j 0) H') :
  bs (acK (bQ H acI a)) λx H1=>Do (cf H1 N x (.agg cs)) λH2=>P x H2:=by
 simp only[bQ,bc,aN];rw[cn _ _ _ N hc hs hz];simp only[O];exact d _ _ (KR.ext (Z.Ext.push _ _)) (h.ext (Z.Ext.push _ _)) (h.box b hc) (hb _)
section
variable{C:Ctx}(ak:cP C)(hT:Cl (ai C) S.b7){id:Nat}{vars:List aB}{wh F:I}{c:LD}{H0 H:Z}{Q:aa}{w:Nat}
include ak hT
theorem Mn(h:bW H id vars wh F c)(U:BD c (w+64)){s:bj}{b al a st:Int}(Y:P2 al)(hl:s.len<=16)(ha:dZ c.bM a)(hs:1<=st/\st<=(c.sn:Nat))(hQ:EX id vars wh F H c 64 [] Q):ai C 152 [.ptr id 0,.agg (dS s b al),.int .i64 a,.int .i64 st] H Q:=by
 refine S.Sg hT ?_;unfold S.f152;simp only[ag];simp only[Db,aN,Ml,O];refine Mm ak hT Y hl λl x H1 G e hp hc=>?_;obtain⟨tk,rfl⟩:=e;simp only[show ea acJ (.aq tk l.length (l.flatMap eW))=acK (.int .i64 l.length)from rfl,O];have main:∀(r:List (Int×Int)) (i:Nat) (H2:Z) (c2:LD) (o:Int),l.drop i=r->i<=l.length->KR id H H2->bW H2 id vars wh F c2->GE c c2 (4*i) []->dZ c2.bM o ->
   ar (S.xI (ai C) (.ptr id 0) (.int .i64 a) (.int .i64 st) (.aq tk l.length (l.flatMap eW)) (.int .i64 l.length) Q) ([.int .i64 o,.int .i64 i],H2):=by
  intro r;induction r with
  | nil=>intro i H2 c2 o g aa k2 n g2 t;have hle:=c7 g;refine ar.step ?_;simp only[ag,S.xI,T,bE,aY,O,au];rw[cQ];exact hQ o c2 H2 k2 n (g2.mono (by omega) rfl) t
  | cons p r I=>
   intro i H2 c2 o g aa k2 n g2 t;obtain⟨aW,e,J⟩:=c4 g;obtain⟨q,e1,ab⟩:=Da (tk:=tk) e H2;have u:BD c2 (w+4):=g2.bd (m:=w+4) (U.mono (by omega));refine ar.step ?_;simp only[ag,S.xI,T,bE,aY,O,au];rw[cM];simp only[e1,ab,O];refine n.j4 k2 (cs:=eW p) rfl rfl rfl λjp aX f ac K _=>?_;replace f:=k2.trans f;refine j3 ak hT ac f λj aZ L ad ae a0=>?_;have v:=K.bh L;have d:jp≠j:=by have:=K.a.1;omega
   have af:=f.trans L;simp only[show ∀k:Nat,aH k (.ptr jp 0)=acK (.ptr jp (0+k))from λ_=>rfl,show ∀k:Nat,aH k (.ptr j 0)=acK (.ptr j (0+k))from λ_=>rfl,aa8,O,v.ld (k:=0) rfl,v.ld (k:=1) rfl,iL];refine oE ak hT ad (w:=w+3) u λa1 y ah=>?_;have z:=v.bh y;refine⟨z.ld rfl,z.ld rfl,?_⟩;refine(ae.bh y).st ah (af.trans y) (by decide) One.int λa2 aj am an ao=>?_;have B:=ao _ _ _ d z;refine⟨B.ld rfl,B.ld rfl,?_⟩;refine an.st am aj (by decide) One.int λa3 ap av ax ay=>?_;have D:=ay _ _ _ d B;refine⟨D.ld rfl,D.ld rfl,?_⟩;refine ax.st av ap (by decide) One.int λa4 az aA aB aC=>?_;have M:=aC _ _ _ d D;refine⟨M.ld rfl,?_⟩;refine aB.st aA az (by decide) One.int λa5 aD h9 aE aF=>?_;have aI:=aF _ _ _ d M;refine aE.st h9 aD (by decide) One.int λa6 N aJ P aK=>?_;have aL:=aK _ _ _ d aI;rw[P.all];simp only[O];have a7:=u.A;refine jJ ak hT aJ (by show c2.A.length<=_;omega) ⟨4,c2.bM,-1,a,-1,-1,abu .u64 p.1,0,p.2,0,0,st,0⟩ λa8 kb aM=>?_;have aO:=aL.bh kb;rw[(P.bh kb).ld (k:=1) rfl];simp only[O,aO.ld (k:=0) rfl,gk,iL];have s0:=g2.s0;have r0:=g2.r0;have E:GE c2 (LD.add {c2 with bM:=c2.bM+1} ⟨4,c2.bM,-1,a,-1,-1,abu .u64 p.1,0,p.2,0,0,st,0⟩) 1 []:=
    GE.C3 (jn (by decide) (by decide) (jK (acR _)) cX (ha.mono (by omega)) cX cX (.inr (.inr ⟨hs.1,by omega⟩)) (.inr (.inr (hp p (adq e))))) (k9 (.inl (by decide)))
   have R:=E.bd (m:=w+3) (u.mono (by omega));refine mI ak hT aM (w:=w+1) R _ _ (jK (acR _)) λr1 c5 aP V W gc rc=>?_;simp only[bI,O,au];have X:=(g2.trans E).trans gc;apply aG<;>intro _
   . simp only[ag,aw,S.xH,T,bE,bz,O];rw[bo,cN];exact I (i+1) aP c5 r1 J (by omega) ((N.trans kb).trans V) W (X.mono (by omega) rfl) rc
   . refine sS ak hT W (w:=w) (gc.bd (m:=w+1) (R.mono (by omega))) _ ((t.mono E.r0).mono gc.r0) rc λaQ aR aS aT aU aV rd=>?_;simp only[ag,aw,S.xH,T,bE,bz,O];rw[bo,cN];exact I (i+1) aS aR aQ J (by omega) (((N.trans kb).trans V).trans aT) aU ((X.trans aV).mono (by omega) rfl) rd
 exact main l 0 H1 c (-1) rfl (aaU _) (KR.ext G) (h.ext G) (GE.refl c) cX
theorem WC(h:bW H id vars wh F c)(U:BD c (w+48)){s:bj}{b al a st x:Int}(G:P2 al)(hl:s.len<=16)(ha:dZ c.bM a)(I:dZ c.bM x)(hs:1<=st/\st<=(c.sn:Nat))(hQ:EU id vars wh F H c 48 [] Q):ai C 155 [.ptr id 0,.agg (dS s b al),.int .i64 a,.int .i64 x,.int .i64 st] H Q:=by
 refine S.Sj hT ?_;unfold S.f155;simp only[ag];simp only[Db,aN,Ml,O];refine Mm ak hT G hl λl y H1 u d hp hc=>?_;obtain⟨tk,rfl⟩:=d;simp only[show ea acJ (.aq tk l.length (l.flatMap eW))=acK (.int .i64 l.length)from rfl,O];have main:∀(r:List (Int×Int)) (i:Nat) (H2:Z) (c2:LD),l.drop i=r->i<=l.length->KR id H H2->bW H2 id vars wh F c2->GE c c2 (3*i) [] ->
   ar (S.xJ (ai C) (.ptr id 0) (.int .i64 a) (.int .i64 x) (.int .i64 st) (.aq tk l.length (l.flatMap eW)) (.int .i64 l.length) Q) ([.int .i64 i],H2):=by
  intro r;induction r with
  | nil=>intro i H2 c2 g J k2 n g2;have hle:=c7 g;refine ar.step ?_;simp only[ag,S.xJ,T,aY,O,au];rw[cQ];exact hQ c2 H2 k2 n (g2.mono (by omega) rfl)
  | cons p r K=>
   intro i H2 c2 g J k2 n g2;obtain⟨aE,d,L⟩:=c4 g;obtain⟨q,e1,M⟩:=Da (tk:=tk) d H2;have v:BD c2 (w+3):=g2.bd (m:=w+3) (U.mono (by omega));refine ar.step ?_;simp only[ag,S.xJ,T,aY,O,au];rw[cM];simp only[e1,M,O];refine n.j4 k2 (cs:=eW p) rfl rfl rfl λjp aF e N z _=>?_;replace e:=k2.trans e;refine j3 ak hT N e λj aG B P R aI=>?_;have o:=z.bh B;have f:jp≠j:=by have:=z.a.1;omega
   have V:=e.trans B;simp only[show ∀k:Nat,aH k (.ptr jp 0)=acK (.ptr jp (0+k))from λ_=>rfl,show ∀k:Nat,aH k (.ptr j 0)=acK (.ptr j (0+k))from λ_=>rfl,aa8,O,o.ld (k:=0) rfl,o.ld (k:=1) rfl,iL];refine R.st P V (by decide) One.int λaJ W X Y aa=>?_;have t:=aa _ _ _ f o;refine⟨t.ld rfl,t.ld rfl,?_⟩;refine Y.st X W (by decide) One.int λaK ab ac ad ae=>?_;have D:=ae _ _ _ f t;refine⟨D.ld rfl,?_⟩;refine ad.st ac ab (by decide) One.int λaL af ah aj am=>?_;have an:=am _ _ _ f D;refine aj.st ah af (by decide) One.int λaM ao h9 ap av=>?_;have aw:=av _ _ _ f an;simp only[aw.ld (k:=0) rfl,O,gk,iL];have r0:=g2.r0;have s0:=g2.s0;refine mI ak hT h9 (w:=w+1) v _ _ (I.mono r0) λr1 c5 aO E ax gc rc=>?_;refine(ap.bh E).st ax (ao.trans E) (by decide) One.int λaP ay az bd aQ=>?_;rw[bd.all];simp only[O];have aA:=gc.bd (m:=w+1) (v.mono (by omega));have aR:=aA.A;have aS:=gc.s0;have aT:=gc.r0;refine jJ ak hT az (by omega) ⟨5,-1,-1,a,r1,-1,abu .u64 p.1,0,p.2,0,0,st,0⟩ λaB aC aD=>?_;simp only[bz,O];rw[bo,cN];refine K (i+1) aB _ L (by omega) (ay.trans aC) aD (((g2.trans gc).trans (GE.add (jn (by decide) (by decide) cX cX (ha.mono (by omega)) rc cX (.inr (.inr ⟨hs.1,by omega⟩)) (.inr (.inr (hp p (adq d))))) (k9 (.inl (by decide))))).mono (by omega) rfl)
 exact main l 0 H1 c rfl (aaU _) (KR.ext u) (h.ext u) (GE.refl c)
end
def eU.pc(a:eU):I:=if a.what=7\/a.what=8\/a.what=9 then av aI.cells a.x.ax else A
def eU.cells(a:eU):List I:=[D a.what,cY a.n,D a.k,D a.j,.str a.x.var,a.pc,D a.kind,D a.a_,D a.site,D a.ay]
theorem eU.WD(a:eU):a.pc.scalar=acI:=by unfold eU.pc;split<;>rfl
theorem eU.scalar(a:eU):a.cells.all I.scalar=acI:=by show(acI&&(acI&&(acI&&(acI&&(acI&&(a.pc.scalar&&(acI&&(acI&&(acI&&(acI&&acI))))))))))=acI;rw[a.WD];rfl
structure fS(vars:List aB):Prop where
 l:vars.length<=32
 o:∀v∈vars,v.ok
 z:∀v∈vars,(bm v.type).2=0
 e:e5 0 vars<=65536
def WE(w:r3)(a:Int)(px:I)(b:Bool):List I:=w.cells++[D a,px,.bool b]
structure RI(H0 H:Z)(i1 i4 js:Nat)(xs px:I)(st N pr:List Int):Prop where
 E:Z.Ext H0 H
 l1:H0.n<=i1
 l4:H0.n<=i4
 lj:H0.n<=js
 n14:i1≠i4
 n1j:i1≠js
 n4j:i4≠js
 r1:∃cs,At H i1 (.row cs)/\cs.length=16
 r4:At H i4 (.row (WE J7 0 px acJ))
 slr:At H js (.row (N.map (cY)))
 st:dH H 1 xs st.length (st.map (cY))
 pr:dH H 1 px pr.length (pr.map (cY))
 ds:∀j,ch xs=acK j->H0.n<=j/\j≠i1/\j≠i4/\j≠js/\ch px≠acK j
 dp:∀j,ch px=acK j->H0.n<=j/\j≠i1/\j≠i4/\j≠js
theorem RI.top{H0 H:Z}{i1 a js:Nat}{xs px:I}{st N pr:List Int}{v:Int}(h:RI H0 H i1 a js xs px (st++[v]) N pr):∃p,aL acL 1 xs (D st.length)=acK p/\aj H 1 acJ p=acK (cY v):=by obtain⟨p,e1,b⟩:=h.st.get (k:=st.length) (v:= cY v) (by simp);exact⟨p,e1,b H (Z.Ext.refl _)⟩
variable{id:Nat}{H:Z}{xa xn xs:I}
structure CD where
 A:List eU
 L:List (List UInt8×Nat)
 nx:Nat
 DX:Int
 ay:Int
def Mo(vars:List aB)(xa xn xs:I)(c:CD):List I:=[av aB.cells vars,xa,xn,xs,D c.nx,D c.DX,D c.ay]
structure CR(H:Z)(id:Nat)(vars:List aB)(xa xn xs:I)(c:CD):Prop where
 row:At H id (.row (Mo vars xa xn xs c))
 a:dH H 10 xa c.A.length (c.A.flatMap eU.cells)
 n:dH H 1 xn c.L.length (c.L.map λp=> .str p.1)
 s:dH H 1 xs c.L.length (c.L.map λp=> D (p.2:Int))
 da:∀j,ch xa=acK j->j≠id/\ch xn≠acK j/\ch xs≠acK j
 dn:∀j,ch xn=acK j->j≠id/\ch xs≠acK j
 ds:∀j,ch xs=acK j->j≠id
structure CF(id:Nat)(H:Z)(xa xn xs:I)(H':Z)(WG WH WI:I):Prop where
 n:H.n<=H'.n
 k:∀i o,i≠id->ch xa≠acK i->ch xn≠acK i->ch xs≠acK i->At H i o->At H' i o
 ra:∀j,ch WG=acK j->ch xa=acK j\/H.n<=j
 rn:∀j,ch WH=acK j->ch xn=acK j\/H.n<=j
 rs:∀j,ch WI=acK j->ch xs=acK j\/H.n<=j
theorem CF.refl(id:Nat)(H:Z)(xa xn xs:I):CF id H xa xn xs H xa xn xs:=⟨hb _,λ_ _ _ _ _ _ h=>h,λ_ h=> .inl h,λ_ h=> .inl h,λ_ h=> .inl h⟩
theorem CF.trans{H c H2:Z}{xa xn xs d f g l m p:I}(h:CF id H xa xn xs c d f g)(k:CF id c d f g H2 l m p):CF id H xa xn xs H2 l m p:=by
 refine⟨sl h.n k.n,λi o h1 r s t b=>k.k i o h1 ?_ ?_ ?_ (h.k i o h1 r s t b),λj a=>?_,λj a=>?_,λj a=>?_⟩
 . intro e;rcases h.ra i e with q|q
   ·exact r q
   ·have:=b.1;omega
 . intro e;rcases h.rn i e with q|q
   ·exact s q
   ·have:=b.1;omega
 . intro e;rcases h.rs i e with q|q
   ·exact t q
   ·have:=b.1;omega
 . rcases k.ra j a with q|q
   ·exact h.ra j q
   ·exact .inr (sl h.n q)
 . rcases k.rn j a with q|q
   ·exact h.rn j q
   ·exact .inr (sl h.n q)
 . rcases k.rs j a with q|q
   ·exact h.rs j q
   ·exact .inr (sl h.n q)
theorem CF.set(xa xn xs:I)(o:cx):CF id H xa xn xs (H.set id o) xa xn xs:=⟨hb _,λ_ _ h1 _ _ _ h=>h.bR h1 o,λ_ h=> .inl h,λ_ h=> .inl h,λ_ h=> .inl h⟩
theorem CR.put{vars:List aB}{c c':CD}(h:CR H id vars xa xn xs c)(d:c'.A=c.A)(b:c'.L=c.L):CR (H.set id (.row (Mo vars xa xn xs c'))) id vars xa xn xs c':=⟨h.row.set _,by rw[d];exact h.a.set (λe=>(h.da _ e).1 rfl) _,by rw[b];exact h.n.set (λe=>(h.dn _ e).1 rfl) _,by rw[b];exact h.s.set (λe=>(h.ds _ e) rfl) _,h.da,h.dn,h.ds⟩
end Rb
namespace Rb
open Go
def CD.st(vars:List aB)(c:CD)(x:aC):CD:=⟨c.A++CQ vars x c.A.length c.nx c.L c.DX,LF c.L c.nx x,c.nx+CP x,B (c.DX+Cd x 0),LC x⟩
def Kq(s R:RS):Prop:=s.stop=acJ->0<=s.fuel->s.fuel<=1000000->(R.pr.length:Int)<=s.pr.length+s.fuel/\(R.stop=acJ->0<=R.fuel/\R.fuel<=s.fuel/\(R.pr.length:Int)+R.fuel<=s.pr.length+s.fuel)
theorem Kq.trans{a b c:RS}(h:Kq a b)(k:Kq b c)(d:b.stop=acI->c.pr=b.pr/\c.stop=acI):Kq a c:=λe h1 f=>by
 obtain⟨g,i⟩:=h e h1 f;cases U:b.stop with
 | true=>obtain⟨e1,j⟩:=d U;rw[e1];exact⟨g,λz=>by rw[j]at z;cases z⟩
 | false=>obtain⟨l,m,y3⟩:=i U;obtain⟨n,z2⟩:=k U l (by omega);exact⟨by omega,λz=>by have:=z2 z;omega⟩
theorem Mp{p:dy}(hp:p.ok)(h:(eO bx p).2=0):fS p.vars/\∀t∈p.cO,vB p.vars [] t:=by
 obtain⟨h1,b,c⟩:=VC bx h;have a:ji bx p.vars=if fF bx [] p.vars≠0 then fF bx [] p.vars else if e5 0 p.vars>65536 then 9 else 0:=by unfold ji;rw[bL];exact CW bx 70000 rfl p.vars [] 0 0 (by decide) (by simp) (by omega)
 rw[b]at a;have hf:fF bx [] p.vars=0:=by
  by_cases e:fF bx [] p.vars=0
  ·exact e
  ·rw[ab e]at a;exact a.symm
 rw[af (by simpa using hf)]at a;refine⟨⟨h1,hp.1.2,CX bx hf,?_⟩,c⟩;by_cases e:e5 0 p.vars>65536
 ·rw[ab e]at a;cases a
 ·omega
variable{x:aJ}{t:X}{N:Nat}{cs ds:List I}
def ei(vars:List aB):I:= .aq .dead vars.length (en vars (ck 0 vars))
def iV(C:Ctx)(id:Nat)(vars:List aB)(L:List (List UInt8))(e:E):Prop:=∀{F:I}{c:LD}{H:Z}{Q:aa}{w:Nat}{l:Int},bW H id vars (ei vars) F c->c.L.map ac2=L->c.ay=l->BD c (w+eo e)->EX id vars (ei vars) F H c (eo e-8) (gE l e) Q->ai C 97 [.ptr id 0,.agg e.cells] H Q
theorem kB(e:E):16<=eo e:=by rw[L9];omega
theorem WJ{vars:List aB}(hp:(bG vars x).1=0):∃n v,vars.findIdx? (λv=>v.V==x.var)=acK n/\vars[n]?=acK v/\bG vars x=cj v.type x.ax:=by
 unfold bG at hp ⊢;rcases mq (λv:aB=>v.V==x.var) vars with⟨i,v,h1,a,b⟩|⟨h1,a⟩
 . rw[a]at hp ⊢;dsimp only at hp ⊢;by_cases hs:dK v.type≠0
   ·rw[ab hs]at hp;exact absurd hp hs
   ·exact⟨i,v,h1,b,by rw[af hs]⟩
 . rw[a]at hp;have:(6:Int)=0:=hp;omega
theorem WK{p:aI}{r:List aI}(h:(cj t (p::r)).1=0):cj t (p::r)=cj (c6 t p).2 r:=by
 rw[cj];by_cases c:(c6 t p).1≠0
 ·rw[cj,ab c]at h;exact absurd h c
 ·rw[af c]
theorem Mq{a r:Int}(ha:P2 a)(b:P2 r):∃m,P2 m/\gH acJ [.int .i64 a,.int .i64 r]=acK (.int .i64 m):=by
 rcases ha with rfl|rfl|rfl|rfl|rfl<;>rcases b with rfl|rfl|rfl|rfl|rfl;all_goals first
  |exact⟨1,.inl rfl,rfl⟩
  |exact⟨2,.inr (.inl rfl),rfl⟩
  |exact⟨4,.inr (.inr (.inl rfl)),rfl⟩
  |exact⟨8,.inr (.inr (.inr (.inl rfl))),rfl⟩
  |exact⟨16,.inr (.inr (.inr (.inr rfl))),rfl⟩
theorem Bx.zc{id j N n o:Nat}{vars:List aB}{wh F:I}{c:LD}{H0 H:Z}(b:Bx H0 id F H j N cs)(h:bW H id vars wh F c)(e:KR id H0 H)(hn:ds.length=n)(hs:ds.all I.scalar=acI)(f:o+n<=N){P:Z->Prop}
  (g:∀H',KR id H0 H'->bW H' id vars wh F c->Bx H0 id F H' j N (setCells cs o ds)->(∀d M ds,d≠j->Bx H0 id F H d M ds->Bx H0 id F H' d M ds)->P H'):Do (cf H n (.ptr j o) (.agg ds)) P:=by
 rw[b.a.store,ab ⟨rfl,hn,hs,by rw[b.len];exact f⟩,O];exact g _ (e.box b.lo _) (h.other b.a b.ne b.nx _) (b.set _ (by rw[CU];exact b.len)) λd M ds hn b2=>b2.other hn _
theorem Mr(h:ds.length=cs.length):setCells cs 0 ds=ds:=by rw[BR (by omega)];rfl
theorem Ms:∀{l:List aB}{a:Int}{n:Nat}{v:aB}{g:bj},l[n]?=acK v->(ck a l)[n]?=acK g->g.len=(bm v.type).1.1
 | u::r,a,0,v,g,h,k=>by simp at h;subst h;simp[ck]at k;rw[<-k]
 |u::r,a,n+1,v,g,h,k=>Ms (l:=r) (by simpa using h) (by simpa[ck]using k)
theorem nw(k:Nat)(cs:List I):aH k (.ae cs)=acK (.ae (cs.drop k)):=rfl
theorem dM(i k:Nat):aH k (.ptr i 0)=acK (.ptr i k):=by simp[aH]
theorem bW.WL{id:Nat}{vars:List aB}{wh F:I}{c:LD}{H0 H:Z}{P:I->Z->Prop}{a:List I}(h:bW H id vars wh F c)(b:KR id H0 H)(hz:a.length=N)(d:∀j H',KR id H H'->bW H' id vars wh F c->Bx H0 id F H' j N a->H.n<=j->P (.ptr j 0) H'):bs (acK (bQ H acI a)) P:=⟨_,_,rfl,d _ _ (KR.ext (Z.Ext.push _ _)) (h.ext (Z.Ext.push _ _)) (h.box b hz) (hb _)⟩
theorem oD.at_{s:bj}(h:oD t s)(a:Int):oD t {s with at_:=a}:=⟨h.bits,h.len,h.bit,h.wid⟩
section
variable{C:Ctx}(ak:cP C)(hT:Cl (ai C) S.b7){id:Nat}{vars:List aB}{F:I}{c:LD}{H:Z}{Q:aa}{w:Nat}
include ak hT
theorem sW(a1:fS vars){L:List (List UInt8)}(cx:x.ok)(hp:(bG vars x).1=0)(cy:∀p∈x.ax,∀e∈p.aS,iV C id vars L e)(h:bW H id vars (ei vars) F c)(cz:c.L.map ac2=L){l:Int}(hl:c.ay=l)(U:BD c (w+gd x))
  (hQ:∀s b al c' H',KR id H H'->bW H' id vars (ei vars) F c'->GE c c' (gd x) (gw l x)->dZ c'.bM b->P2 al->oD (bG vars x).2 s->(bG vars x).2.lay->Q (.agg (dS s b al)) H'):ai C 150 [.ptr id 0,.agg x.cells] H Q:=by
 obtain⟨dt,du⟩:=aJ.dL cx;obtain⟨n,v,cA,an,cB⟩:=WJ hp;have bJ:=adq an;have cC:v.type.lay:=mA (by have:=a1.o v bJ;cases v;exact this.2) (a1.z v bJ);have cD:=(aal.1 an).1;obtain⟨g,tl,g1,g2,g3⟩:=qb (a:=0) an;rw[cB]at hp hQ;rw[Ws]at U hQ;rw[nt]at hQ;refine S.Se hT ?_;unfold S.f150;simp only[ag];simp only[k4,aN];refine h.WL KR.refl (N:=8) rfl λq H1 k1 h1 b1 l1=>?_;simp only[b8,dM,O,h1.vs];refine S.x6 hT ?_;refine yi (p:=λv=>v.V==x.var) (λu _ R aB=>S.SA hT (by
   unfold S.f193;simp only[ag];have U:b5 H1 acJ 7 (.agg u.cells)=acK (.ae u.cells,H1):=by unfold b5;rw[ab ⟨rfl,u.len⟩];rfl
   have l0:aj H1 1 acJ (.ae (u.cells.drop 0))=acK (.str u.V):=pV u;have l1:aj H1 1 acJ (.ae (x.cells.drop 0))=acK (.str x.var):=p7 x H1;rw[U];simp only[aN,aH,O,l0,l1,fD];exact aB)) (by have:=a1.l;omega) ?_
 rw[cA];simp only[fb,b8,dM,O,h1.vs];rw[b6 cD];simp only[O,di,nw];rw[yg v H1 an];simp only[O];refine h1.j4 k1 (cs:=v.type.cells) (N:=6) rfl v.type.len v.type.scalar λy H2 k2 bK bt l2=>?_;have bL:=k1.trans k2;have bN:=b1.bh k2;have bO:q≠y:=by have:=b1.a.1;omega
 simp only[bK.Wu,O];have cE:aL acL 3 (ei vars) (.int .i64 n)=acK (.ae ((en vars (ck 0 vars)).drop (n*3))):=by show(if 0<=(n:Int)/\(n:Int)<(vars.length:Nat)then acK (I.ae ((en vars (ck 0 vars)).drop ((n:Int).toNat*3)))else acL)=_;rw[ab ⟨by omega,by omega⟩,aeq]
 rw[cE,g3];simp only[O,nw,adj,adf];rw[show aj H2 2 acI (.ae (.int .i64 g.at_ :: .int .i64 g.len::tl))=acK (.agg [.int .i64 g.at_,.int .i64 g.len])from mo (a:=[I.int .i64 g.at_,.int .i64 g.len]) rfl];simp only[O];rw[show bS [.int .i64 0,.int .i64 0,.int .i64 0,.bool acJ,.int .i64 0,.int .i64 0] [(0,2,.agg [.int .i64 g.at_,.int .i64 g.len])]=acK (.agg ({ct with at_:=g.at_,len:=g.len}:bj).cells)from rfl];simp only[O];rw[show bS [.int .i64 0,.int .i64 0,.int .i64 0,.bool acJ,.int .i64 0,.int .i64 0,.int .i64 0,.int .i64 0] [(0,6,.agg ({ct with at_:=g.at_,len:=g.len}:bj).cells),(6,1,.int .i64 (-1)),(7,1,.int .i64 16)]=acK (.agg (dS {ct with at_:=g.at_,len:=g.len} (-1) 16))from rfl];simp only[O];refine bK.j4 bL (cs:=dS {ct with at_:=g.at_,len:=g.len} (-1) 16) (N:=8) rfl rfl rfl λjs cF a2 cG cH l3=>?_;have cI:=bL.trans a2;have cJ:=bN.bh a2;have cK:=bt.bh a2;have W:q≠js:=by have:=bN.a.1;omega
 have J:y≠js:=by have:=bt.a.1;omega
 simp only[O,ir,bC];have main:∀(r:List aI)(i:Nat)(t:X)(s:bj)(b al:Int)(c2:LD)(H2:Z)(w1:Nat)(k1:List bH),x.ax.drop i=r->t.lay->(cj t r).1=0->cj t r=cj v.type x.ax->KR id H H2->bW H2 id vars (ei vars) F c2->Bx H id F H2 q 8 [.int .i64 0,.int .i64 0,.int .i64 0,.bool acJ,.int .i64 0,.int .i64 0,.int .i64 0,.int .i64 0]->Bx H id F H2 y 6 t.cells->Bx H id F H2 js 8 (dS s b al)->oD t s->dZ c2.bM b->P2 al->GE c c2 w1 k1->w1+gD r=gD x.ax->k1++gV l r=gV l x.ax ->
   ar (S.nX (ai C) (.ptr id 0) (.ptr q 0) (.ptr y 0) (.ptr js 0) (av aI.cells x.ax) (.int .i64 x.ax.length) Q) ([.int .i64 i],H2):=by
  intro r;induction r with
  | nil=>intro i t s b al c2 a3 w1 k1 a4 ht a5 aC aD a6 aF a7 K hs aK aM g4 hw hk;have hle:=c7 a4;refine ar.step ?_;simp only[ag,S.nX,T,aY,O,au,aw];rw[cQ];unfold S.IC;simp only[ag];simp only[dM,O,K.ld (k:=7) rfl,K.ld (k:=0) rfl];refine C_ ak hT (.inr (.inr (.inr (.inr rfl)))) λr a8 _=>?_;refine⟨K.ld rfl,?_⟩;obtain⟨m,hm,em⟩:=Mq aM a8;simp only[em,O,dM];refine K.st a6 aD (by decide) One.int λao aa aO D cL=>?_;rw[show(dS s b al).set 7 (.int .i64 m)=dS s b m from rfl]at D;rw[D.all];simp only[O];refine(cL _ _ _ W aF).zc aO aa rfl rfl (by show 0+8<=8;decide) λa9 a_ ap bP _=>?_;rw[show setCells [.int .i64 0,.int .i64 0,.int .i64 0,.bool acJ,.int .i64 0,.int .i64 0,.int .i64 0,.int .i64 0] 0 (dS s b m)=dS s b m from rfl]at bP;rw[bP.all];simp only[O];rw[<-aC]at hQ;rw[gD]at hw;rw[gV]at hk;exact hQ s b m c2 a9 a_ ap (g4.mono (by omega) (by rw[<-hk,adv])) aK hm hs ht
  | cons p r bQ=>
   intro i t s b al c2 a3 w1 k1 a4 ht a5 aC aD a6 aF a7 K hs aK aM g4 hw hk;obtain⟨cO,bR,bT⟩:=c4 a4;have cP:=adq bR;obtain⟨cR,aP⟩:=j0 a5;have bU:=WK a5;rw[gD]at hw;rw[gV]at hk;have bV:BD c2 (w+(k8 p+gD r)):=g4.bd (m:=w+(k8 p+gD r)) (U.mono (by omega));refine ar.step ?_;simp only[ag,S.nX,T,aY,O,au];rw[cM,b6 cO];simp only[O];rw[c8 aI.len (by decide) _ bR];simp only[O];refine a6.j4 aD (cs:=p.cells) (N:=2) rfl p.len p.scalar λjp ao aQ aO bX dv=>?_;have aa:=aD.trans aQ;have aR:=aF.bh aQ;have ac:=a7.bh aQ;have D:=K.bh aQ;have dw:y≠jp:=by have:=a7.a.1;omega
   have dx:js≠jp:=by have:=K.a.1;omega
   have dy:q≠jp:=by have:=aF.a.1;omega
   have cS:p.cells[1]?=acK (av E.cells p.aS):=by rw[aI.aX];rfl
   simp only[dM,O,bX.ld cS,bC,bI,au];have nx:∀H',ar (S.nX (ai C) (.ptr id 0) (.ptr q 0) (.ptr y 0) (.ptr js 0) (av aI.cells x.ax) (.int .i64 x.ax.length) Q) ([.int .i64 ((i+1:Nat):Int)],H')->S.xF (ai C) ([.int .i64 i],a3) (ar (S.nX (ai C) (.ptr id 0) (.ptr q 0) (.ptr y 0) (.ptr js 0) (av aI.cells x.ax) (.int .i64 x.ax.length) Q)) Q [] H':=λH' hl=>by unfold S.xF;simp only[ag];simp only[T,bz,O];rw[bo,cN];exact hl
   rcases kv ht cR with⟨bY,aT,e,aU,he,aq,bZ⟩|⟨ba,aT,n2,f,s2,f1,f2,f3,aq,b0⟩
   . rw [af (by simp[bY])];obtain⟨ex,hex⟩:∃ex,p.aS=[ex]:=List.length_eq_one_iff.1 bY;have aB:k8 p=eo ex:=by rw[L_,hex,ed,ed,aaY]
     have cT:mH l p=gE l ex:=by rw[C4,hex,dD,dD,adv]
     have jl:=kB ex;rw[show aL acL 8 (av E.cells p.aS) (.int .i64 0)=acK (di E.cells 8 p.aS 0)from b6 (i:=0) (by omega)];simp only[O];rw[c8 E.len (by decide) _ (show p.aS[0]?=acK ex by rw[hex];rfl)];simp only[O];refine cy p cP ex (by rw[hex];exact aeH.2 rfl) aO (by rw[g4.L];exact cz) (l:=l) (by rw[g4.ay];exact hl) (w:=w+gD r) (bV.mono (by omega)) λr1 bb a9 j ap g6 ez=>?_;have b2:BD bb (w+gD r+8):=g6.bd (m:=w+gD r+8) (bV.mono (by omega));refine j3 ak hT ap (aa.trans j) λbc b3 aV be cU dz=>?_;have bf:=(aa.trans j).trans aV;have ad:=(ac.bh j).bh aV;have bi:=(D.bh j).bh aV;have bk:=(aR.bh j).bh aV;have bl:y≠bc:=by have:=(ac.bh j).a.1;omega
     have b4:js≠bc:=by have:=(D.bh j).a.1;omega
     have b7:q≠bc:=by have:=(aR.bh j).a.1;omega
     have b9:t.cells[4]?=acK (.int .i64 t.bg):=by rw[X.aX];rfl
     have cV:t.cells[5]?=acK (av X.cells (e::aU)):=by rw[X.aX,<-he];rfl
     simp only[dM,O,ad.ld b9,iL];refine cU.st be bf (by decide) One.int λb_ bn bp cW M=>?_;refine⟨(M _ _ _ bl ad).ld b9,?_⟩;refine cW.st bp bn (by decide) One.int λbq br h9 cY ah=>?_;rw[cY.all];simp only[O];have dA:=b2.A;refine jJ ak hT h9 (by omega) ⟨17,-1,-1,r1,-1,-1,abu .u64 t.bg,0,0,0,0,0,0⟩ λdB aW cZ=>?_;have g7:=GE.add (jn (S:=bb.sn) (d:= -1) (d2:= -1) (b:= -1) (c:= -1) (n:=abu .u64 t.bg) (o:=0) (z:=0) (r:=0) (t:=0) (s:=0) (l:=0) (k:=17) (by decide) (by decide) cX cX ez cX cX (.inr (.inl (by decide))) (.inr (.inl (by decide)))) (k9 (.inr (by decide)));have ca:=g7.bd (m:=w+gD r+7) (b2.mono (by omega));generalize LD.add bb ⟨17,-1,-1,r1,-1,-1,abu .u64 t.bg,0,0,0,0,0,0⟩=dC at *;have c0:=br.trans aW;have cb:=(ah _ _ _ bl (M _ _ _ bl ad)).bh aW;have c1:=(ah _ _ _ b4 (M _ _ _ b4 bi)).bh aW;have c3:=(ah _ _ _ b7 (M _ _ _ b7 bk)).bh aW;simp only[cb.ld cV,O];rw[show aL acL 6 (av X.cells (e::aU)) (.int .i64 0)=acK (di X.cells 6 (e::aU) 0)from b6 (by simp)];simp only[O];rw[c8 X.len (by decide) _ (show(e::aU)[0]?=acK e from rfl)];simp only[O];refine cb.zc cZ c0 e.len e.scalar (by decide) λdE c5 c6 bs cc=>?_;rw[Mr (by rw[e.len,t.len])]at bs;have c9:=cc _ _ _ J.symm c1;have c_:=cc _ _ _ bO c3;rw[bs.all];simp only[O];refine yu ak hT e bZ.ok _ _ ?_;simp only[bA,ac5,ac6,O,iL];refine mI ak hT c6 (w:=w+gD r+5) (ca.mono (by omega)) _ _ (ez.mono g7.r0) λda cd dF aZ ce g8 cf=>?_;have db:BD cd (w+gD r+5):=g8.bd (m:=w+gD r+5) (ca.mono (by omega));have cg:=c5.trans aZ;have ch:=bs.bh aZ;have bu:=c9.bh aZ;have ci:=c_.bh aZ;have dG:t.kind=5:=aT;have dc:s.bits=acJ:=by
      cases dd:s.bits with
      |false=>rfl
      |true=>have:=(hs.bits dd).1;omega
     have fin:∀(G:Int)(P:LD)(B:Z),KR id H B->bW B id vars (ei vars) F P->Bx H id F B q 8 [.int .i64 0,.int .i64 0,.int .i64 0,.bool acJ,.int .i64 0,.int .i64 0,.int .i64 0,.int .i64 0]->Bx H id F B y 6 e.cells->Bx H id F B js 8 (dS s G al)->dZ P.bM G->GE c P (w1+eo ex) (k1++gE l ex) ->
       S.xG (ai C) (.ptr js 0) (.int .i64 (bm e).1.1) ([.int .i64 i],a3) (ar (S.nX (ai C) (.ptr id 0) (.ptr q 0) (.ptr y 0) (.ptr js 0) (av aI.cells x.ax) (.int .i64 x.ax.length) Q)) Q [] B:=by
      intro G P B bv az de df bw dg g9;unfold S.xG;simp only[ag];simp only[dM,O];refine bw.st az bv (by decide) One.int λcl bx bB am aA=>?_;rw[show(dS s G al).set 1 (.int .i64 (bm e).1.1)=dS {s with len:=(bm e).1.1} G al from rfl]at am;simp only[am.ld (k:=7) rfl,O];refine C_ ak hT (.inr (.inr (.inr (.inr rfl)))) λr a8 _=>?_;refine⟨am.ld rfl,?_⟩;obtain⟨m,hm,em⟩:=Mq aM a8;simp only[em,O,dM];refine am.st bB bx (by decide) One.int λcm dh dj cn of=>?_;rw[show(dS {s with len:=(bm e).1.1} G al).set 7 (.int .i64 m)=dS {s with len:=(bm e).1.1} G m from rfl]at cn;refine nx cm ?_;refine bQ (i+1) e _ G m P cm (w1+eo ex) (k1++gE l ex) bT bZ ?_ ?_ dh dj (of _ _ _ W (aA _ _ _ W de)) (of _ _ _ J (aA _ _ _ J df)) cn ⟨λe=>(by rw[dc]at e;cases e),λ_=>rfl,hs.bit,hs.wid⟩ dg hm g9 (by omega) (by rw[<-hk,cT,aeo])
      ·rw[aq]at aP;exact aP
      ·rw[<-aC,bU,aq]
     simp only[bu.ld (k:=6) rfl,O,bI,au,aw];have co:=((g4.trans g6).trans g7).trans g8;apply aG<;>intro _
     . refine bu.st ce cg (by decide) One.int λB bv az bw cp=>?_;exact fin da cd B bv az (cp _ _ _ W ci) (cp _ _ _ J ch) bw cf (co.mono (by omega) (by simp only[adv]))
     . refine sS ak hT ce (w:=w+gD r) (db.mono (by omega)) _ (((aK.mono g6.r0).mono g7.r0).mono g8.r0) cf λdk P B a0 az g9 dl=>?_;refine(bu.bh a0).st az (cg.trans a0) (by decide) One.int λcl bx bB am aA=>?_;exact fin dk P cl bx bB (aA _ _ _ W (ci.bh a0)) (aA _ _ _ J (ch.bh a0)) am dl ((co.trans g9).mono (by omega) (by simp only[adv]))
   . rw [ab (by simp[ba])];have dm:=(aal.1 f2).1;have dn:=(aal.1 f3).1;have bD:t.cells[3]?=acK (av aE.cells t.Y):=by rw[X.aX];rfl
     simp only[dM,O,ac.ld bD];refine S.x7 hT ?_;refine fieldIndex (p:=λf=>f.V==p.field) (λu _ R aB=>S.SB hT (by
       unfold S.f194;simp only[ag];have U:b5 ao acJ 9 (.agg u.cells)=acK (.ae u.cells,ao):=by unfold b5;rw[ab ⟨rfl,u.len⟩];rfl
       have l0:aj ao 1 acJ (.ae (u.cells.drop 0))=acK (.str u.V):=oc u;have l1:aj ao 1 acJ (.ptr jp 0)=acK (.str p.field):=bX.ld (by rw[aI.aX];rfl);rw[U];simp only[aN,dM,show aH 0 (.ae u.cells)=acK (.ae (u.cells.drop 0))from rfl,O,l0,l1,fD];exact aB)) (X.p8 ht.ok).2.2 ?_
     rw[f1];simp only[fb,ac.all,O];refine KV ak hT ht aT _ _ ?_;simp only[bA,ac5,ac6,O];rw[b6 dn];simp only[O];rw[c8 (cells:=bj.cells) (λ_=>rfl) (by decide) _ f3];simp only[O];refine aO.j4 aa (cs:=s2.cells) (N:=6) rfl rfl rfl λbE a9 j ap cq dH=>?_;have a_:=aa.trans j;have dp:js≠bE:=by have:=D.a.1;omega
     have dq:y≠bE:=by have:=ac.a.1;omega
     have dr:q≠bE:=by have:=aR.a.1;omega
     simp only[dM,O,cq.ld (k:=0) rfl,(D.bh j).ld (k:=0) rfl,bz];refine cq.st ap a_ (by decide) One.int λb3 bf be cr bF=>?_;have bi:=bF _ _ _ dp (D.bh j);have ad:=bF _ _ _ dq (ac.bh j);have bk:=bF _ _ _ dr (aR.bh j);rw[show s2.cells.set 0 (.int .i64 (abu .i64 (s2.at_+s.at_)))=({s2 with at_:=abu .i64 (s2.at_+s.at_)}:bj).cells from rfl]at cr;rw[cr.all];simp only[O,ad.ld bD];rw[b6 dm];simp only[O,di,nw];rw[so b3 f2];simp only[O];refine bi.zc be bf rfl rfl (by show 0+6<=8;decide) λb_ bn bp cu M=>?_;have cv:=M _ _ _ J ad;rw[show setCells (dS s b al) 0 ({s2 with at_:=abu .i64 (s2.at_+s.at_)}:bj).cells=dS {s2 with at_:=abu .i64 (s2.at_+s.at_)} b al from rfl]at cu;refine⟨cv.ld bD,so b_ f2,?_⟩;refine cv.zc bp bn f.type.len f.type.scalar (by decide) λbq br h9 cw ah=>?_;rw[Mr (by rw[f.type.len,t.len])]at cw;refine nx bq ?_;have dI:k8 p=0:=by rw[L_,ba,ed]
     have ds:mH l p=[]:=by rw[C4,ba,dD]
     refine bQ (i+1) f.type _ b al c2 bq w1 k1 bT b0 ?_ ?_ br h9 (ah _ _ _ bO (M _ _ _ W bk)) cw (ah _ _ _ J.symm cu) ((C6 ht aT f2 f3 b0).at_ _) aK aM g4 (by omega) (by rw[<-hk,ds];rfl)
     ·rw[aq]at aP;exact aP
     ·rw[<-aC,bU,aq]
 refine main x.ax 0 v.type _ (-1) 16 c cF 0 [] rfl cC hp rfl cI cG cJ cK cH ⟨λe=>(by cases e),λ_=>?_,⟨adR 0,(by decide:(0:Int)<=7)⟩,adR 0⟩ cX (.inr (.inr (.inr (.inr rfl)))) (GE.refl c) (aa8 _) rfl;exact show g.len=_ from Ms an g1
end
end Rb
namespace Rb
open Go
variable{id j:Nat}{F:I}{b:Bk}{H:Z}{t:X}
def jo(id j:Nat)(F:I)(H H':Z):Prop:=H.n<=H'.n/\∀i o,i≠id->i≠j->ch F≠acK i->At H i o->At H' i o
theorem jo.refl(id j:Nat)(F:I)(H:Z):jo id j F H H:=⟨hb _,λ_ _ _ _ _ h=>h⟩
theorem jo.trans{F d:I}{a b c:Z}(h:jo id j F a b)(n:NB a F d)(k:jo id j d b c):jo id j F a c:=⟨sl h.1 k.1,λi o hi e f g=>k.2 i o hi e (n.ne g.1 f) (h.2 i o hi e f g)⟩
theorem ho.three{a b:Z}(h:ho id F a b):jo id j F a b:=⟨h.1,λi o hi _ c d=>h.2 i o hi c d⟩
theorem e8.ext{H H':Z}(h:e8 H id F b)(E:Z.Ext H H'):e8 H' id F b:=⟨h.a.ext E,h.l.ext E,h.d⟩
theorem e8.other{id i:Nat}(h:e8 H id F b)(c:i≠id)(e:ch F≠acK i)(o:cx):e8 (H.set i o) id F b:=⟨h.a.bR c.symm _,h.l.set e _,h.d⟩
theorem e8.lt(h:e8 H id F b):ch F≠acK H.n:=λe=>aeI _ (h.l.lt e)
def Mt(C:Ctx)(t:X):Prop:=∀{H:Z}{Q:aa}{id:Nat}{F:I}{b:Bk}{a:Int},e8 H id F b->b.ok->(∀c H',ho id F H H'->NB H F c->e8 H' id c (gu t a b)->(gu t a b).ok->Q (.aA []) H')->ai C 55 [.ptr id 0,.agg t.cells,.int .i64 a] H Q
theorem WM(t:X)(a:Int)(b:Bk):gu t a b=if t.kind=1\/t.kind=2 then b.add (a,t.size)
  else if t.kind=5 then(if(f_ t.aK).1.1>0 then ku (λi b=>oj t.aK (B (a+B (i*(f_ t.aK).1.1))) b) t.bg.toNat 0 b else b)
  else jj (fq t.kind a t.Y (cD t) (0,0) b).1 (fq t.kind a t.Y (cD t) (0,0) b).2:=by cases t;rw[gu]
theorem Mu(h:b.ok)(a:Int×Int):(jj a b).ok:=by
 unfold jj;split
 ·exact Bk.Me h a
 ·exact h
section
variable{C:Ctx}(ak:cP C)(hT:Cl (ai C) S.b7)
include ak hT
theorem WN(h:t.lay)(a:t.kind=3\/t.kind=4):∃s al bit:Int,bD (ai C) 112 [.agg t.cells] (.aA [.agg [.int .i64 s,.int .i64 al,av bj.cells (cD t),.int .i64 bit],.bool acI]):=by
 have hs:=fm h.snd;obtain⟨p,hp,hle,hlen⟩:=ou h a;refine⟨cA p.size p.bp,p.bp,p.bit,?_⟩;refine bD.of ak (by simp[I.bV,I.bu,X.bu]) (by show I.bu (.aA [.agg [.int .i64 _,.int .i64 _,.aq .dead (cD t).length ((cD t).flatMap bj.cells),.int .i64 _],.bool acI])=acI;simp[I.bu,I.bV,Cz,Tok.free]) λQ hQ=>?_
 refine ai.cU ?_;refine S.BM hT (B8 hT hs a (λf hf=>yt ak hT f.type (fm (ov h a hf).snd)) (λf hf=>ys f.type (fm (ov h a hf).snd)) (λe=>by rw[hp]at e;cases e) λq b x H2 c=>?_);rw[hp]at b;cases b;obtain⟨_,tk,rfl,_⟩:=c;have d:cD t=p.dP:=by unfold cD;rw[hp]
 rw[d]at hQ;simp only[I.cU,I.ec,Cy];rw[show decide (cA p.size p.bp<=65536)=acI by simpa using hle];exact hQ _
variable(hS:nu (ai C))
include hS
theorem Mv{Q:aa}{a:Int×Int}(h:e8 H id F b)(U:b.ok)(d:At H j (.row (aD a)))(k:j≠id)(f:ch F≠acK j)
  (hQ:∀l H',jo id j F H H'->NB H F l->e8 H' id l (jj a b)->At H' j (.row (aD (0,0)))->Q (.aA []) H'):ai C 131 [.ptr j 0,.ae [.ptr id 0]] H Q:=by
 refine S.R0 hT ?_;unfold S.f131;simp only[ag];have e1:aj H 1 acJ (.ptr j 1)=acK (.int .i64 a.2):=by rw[d.load];rfl
 have m:aj H 2 acI (.ptr j 0)=acK (.agg (aD a)):=d.all (n:=2) rfl;have p:aj H 1 acJ (.ae [.ptr id 0])=acK (.ptr id 0):=rfl;have k1:∀(c:I)(H1:Z),ho id F H H1->NB H F c->e8 H1 id c (jj a b)->S.xw (ai C) (.ptr j 0) Q [] H1:=by intro c H1 hk hn h1;unfold S.xw;simp only[ag];have ez:=hk.2 _ _ k f d;rw[show bS [.int .i64 0,.int .i64 0] []=acK (.agg (aD (0,0)))from rfl];simp only[O];rw[ez.put (n:=2) rfl rfl rfl];simp only[O];refine hQ c _ ⟨hk.1,λi o hi q f r=>(hk.2 i o hi f r).bR q _⟩ hn (h1.other k (hn.ne d.1 f) _) (ez.set _)
 simp only[jm,e1,O,cV,au];unfold jj at k1;apply aG<;>intro e
 . have g:a.2>0:=by simpa using e
   simp only[ab g]at k1;simp only[m,p,O];exact Mg ak hT hS h U a λc H1 hk hn h1 _=>k1 c H1 hk hn h1
 . have g:¬a.2>0:=by simpa using e
   simp only[af g]at k1;exact k1 F H (ho.refl _ _ _) (.inl rfl) h
theorem WO(ht:t.lay)(aK:t.kind=3\/t.kind=4)(hF:∀f∈t.Y,Mt C f.type){Q:aa}{a:Int}(h:e8 H id F b)(U:b.ok)
  (hQ:∀aL H',ho id F H H'->NB H F aL->e8 H' id aL (jj (fq t.kind a t.Y (cD t) (0,0) b).1 (fq t.kind a t.Y (cD t) (0,0) b).2)->(jj (fq t.kind a t.Y (cD t) (0,0) b).1 (fq t.kind a t.Y (cD t) (0,0) b).2).ok->Q (.aA []) H') :
  ai C 86 [.ptr id 0,.agg t.cells,.int .i64 a] H Q:=by
 obtain⟨ah,al,am,a0⟩:=WN ak hT ht aK;have bK:=KI ht aK;have bL:=(X.p8 ht.ok).2.2;refine S.Rw hT ?_;unfold S.f86;simp only[ag];rw[show b5 H acJ 1 (.ptr id 0)=acK (.ae [.ptr id 0],H)from rfl];simp only[aN,fC,hD,O];refine a0 _ _ ?_;simp only[bA,ac5,ac6,O,bQ,bc,aN];rw[cn _ _ _ 4 rfl rfl rfl];have a1:=At.new H (.row [.int .i64 ah,.int .i64 al,av bj.cells (cD t),.int .i64 am]);have a2:=Z.Ext.push H (.row [.int .i64 ah,.int .i64 al,av bj.cells (cD t),.int .i64 am]);have n1:(H.push (.row [.int .i64 ah,.int .i64 al,av bj.cells (cD t),.int .i64 am])).n=H.n+1:=rfl;simp only[O];generalize H.push (.row [.int .i64 ah,.int .i64 al,av bj.cells (cD t),.int .i64 am])=H1 at *;rw[show bS [.int .i64 0,.int .i64 0] []=acK (.agg (aD (0,0)))from rfl];simp only[O];rw[cn _ _ _ 2 rfl rfl rfl];have a3:=At.new H1 (.row (aD (0,0)));have a4:=a1.push (.row (aD (0,0)));have an:=a2.trans (Z.Ext.push H1 (.row (aD (0,0))));have n2:(H1.push (.row (aD (0,0)))).n=H.n+2:=by show H1.n+1=_;omega
 simp only[O,ca,fN,bC];generalize H1.push (.row (aD (0,0)))=H2 at *;have a5:=h.ext an;have bM:=h.a.1;have R:H1.n≠id:=by omega
 have aB:∀i,H.n<=i->ch F≠acK i:=λi hi e=>by have:=h.l.lt e;omega
 have main : ∀(r:List aE)(ss:List bj)(i:Nat)(run:Int×Int)(b2:Bk)(p:I)(c:Z),t.Y.drop i=r->(cD t).drop i=ss->jo id H1.n F H2 c->NB H2 F p->e8 c id p b2->b2.ok->At c H1.n (.row (aD run))->fq t.kind a t.Y (cD t) (0,0) b=fq t.kind a r ss run b2 ->
   ar (S.rI (ai C) (.int .i64 a) (.ae [.ptr id 0]) (.ae t.cells) (.ptr H.n 0) (.ptr H1.n 0) (av aE.cells t.Y) (.int .i64 t.Y.length) Q) ([.int .i64 i],c):=by
  intro r;induction r with
  | nil=>
   intro ss i run b2 p c aC aM G J V L aF hm;have hle:=c7 aC;refine ar.step ?_;simp only[ag,S.rI,T,aY,O,au,aw];rw[cQ];unfold S.HD;refine⟨_,_,rfl,?_⟩;rw[qu rfl,qv rfl];have ao:ch p≠acK H1.n:=J.ne (by omega) (aB _ (by omega));show ai C 131 [.ptr H1.n 0,.ae [.ptr id 0]] c _;refine Mv ak hT hS V L aF R ao λa6 k ap a7 aq r4=>?_;rw[hm]at hQ;have u:fq t.kind a [] ss run b2=(run,b2):=by rw[fq]
   rw[u]at hQ;have aO:=G.trans J ap;refine hQ a6 k ⟨sl an.1 aO.1,λi o hi A x=>aO.2 i o hi (by have:=x.1;omega) A (x.ext an)⟩ ?_ aq (Mu L run);have:=J.trans G.1 a7;rcases this with e|⟨j,a8,e⟩
   ·exact .inl e
   ·exact .inr ⟨j,by have:=an.1;omega,e⟩
  | cons f r a9=>
   intro ss i run b2 p c aC aM G J V L aF hm;obtain⟨a_,A,ba⟩:=c4 aC;obtain⟨s,hs⟩:∃s,(cD t)[i]?=acK s:=⟨_,abb (by omega)⟩
   have bb:ss=s::(cD t).drop (i+1):=by rw[<-aM];exact drop_cons hs
   subst bb;have bd:=adq A;have be:=G.2 _ _ (show H.n≠id by omega) (by omega) (aB _ (hb _)) a4;have ao:ch p≠acK H1.n:=J.ne (by omega) (aB _ (by omega));refine ar.step ?_;simp only[ag,S.rI,T,aY,O,au];rw[cM,b6 a_];simp only[O];rw[c8 aE.len (by decide) _ A];simp only[O,bQ,bc,aN];rw[cn _ _ _ 9 f.len f.scalar rfl];have n3:=G.1;have aP:=Z.Ext.push c (.row f.cells);have bf:=At.new c (.row f.cells);have bg:=be.push (.row f.cells);have aq:=V.ext aP;have bh:=aF.push (.row f.cells);have bN:=V.lt;have n4:(c.push (.row f.cells)).n=c.n+1:=rfl;simp only[O];generalize c.push (.row f.cells)=k at *;have W:aj k 1 acJ (.ptr H.n 2)=acK (av bj.cells (cD t)):=by rw[bg.load];rfl
   simp only[jm,W,O];rw[b6 (cells:=bj.cells) (sz:=6) (show i<(cD t).length by omega)];simp only[O,di,nw,adf];have ac:aj k 2 acI (.ae (List.drop (i*6) ((cD t).flatMap bj.cells)))=acK (.agg [.int .i64 s.at_,.int .i64 s.len]):=by rw[mm (cells:=bj.cells) (λ_=>rfl),drop_cons hs,ac0];rfl
   simp only[ac,O];rw[cn _ _ _ 2 rfl rfl rfl];have aR:=Z.Ext.push k (.row [.int .i64 s.at_,.int .i64 s.len]);have rs:=At.new k (.row [.int .i64 s.at_,.int .i64 s.len]);have bi:=bf.push (.row [.int .i64 s.at_,.int .i64 s.len]);have bk:=aq.ext aR;have bl:=bh.push (.row [.int .i64 s.at_,.int .i64 s.len]);have bm:=aq.lt;have bO:(k.push (.row [.int .i64 s.at_,.int .i64 s.len])).n=k.n+1:=rfl;simp only[O];generalize k.push (.row [.int .i64 s.at_,.int .i64 s.len])=M at *;have bn:aj M 1 acJ (.ptr k.n 0)=acK (.int .i64 s.at_):=by rw[rs.load];rfl
   simp only[bn,O,bz];rw[rs.st1 (by show 0<2;decide) ⟨rfl,rfl,rfl⟩];have ax:=rs.set (.row ([.int .i64 s.at_,.int .i64 s.len].set 0 (.int .i64 (abu .i64 (s.at_+a)))));have ay:=bi.bR (show c.n≠k.n by omega) (.row ([.int .i64 s.at_,.int .i64 s.len].set 0 (.int .i64 (abu .i64 (s.at_+a)))));have aS:=bl.bR (show H1.n≠k.n by omega) (.row ([.int .i64 s.at_,.int .i64 s.len].set 0 (.int .i64 (abu .i64 (s.at_+a)))));have aT:=bk.other (show k.n≠id by omega) bm (.row ([.int .i64 s.at_,.int .i64 s.len].set 0 (.int .i64 (abu .i64 (s.at_+a)))));have aU:jo id H1.n p c (M.set k.n (.row ([.int .i64 s.at_,.int .i64 s.len].set 0 (.int .i64 (abu .i64 (s.at_+a)))))):=⟨by show c.n<=M.n;omega,λi o _ _ _ x=>((x.ext aP).ext aR).bR (by have:=x.1;omega) _⟩
   have n6:(M.set k.n (.row ([.int .i64 s.at_,.int .i64 s.len].set 0 (.int .i64 (abu .i64 (s.at_+a)))))).n=M.n:=rfl;simp only[O];generalize M.set k.n (.row ([.int .i64 s.at_,.int .i64 s.len].set 0 (.int .i64 (abu .i64 (s.at_+a)))))=N at *;have ax:At N k.n (.row (aD (B (s.at_+a),s.len))):=ax;have f7:∀{d:Z},At d c.n (.row f.cells)->aj d 1 acJ (.ptr c.n 7)=acK (.bool f.bits):=λh=>by rw[h.load];exact ya f
   have f8:∀{d:Z},At d c.n (.row f.cells)->aj d 1 acJ (.ptr c.n 8)=acK (.int .i64 f.aQ):=λh=>by rw[h.load];exact BS f
   have bp:∀{d:Z},At d c.n (.row f.cells)->aj d 6 acI (.ptr c.n 1)=acK (.agg f.type.cells):=λh=>by rw[h.load];exact rX f
   generalize bP:ar (S.rI (ai C) (.int .i64 a) (.ae [.ptr id 0]) (.ae t.cells) (.ptr H.n 0) (.ptr H1.n 0) (av aE.cells t.Y) (.int .i64 t.Y.length) Q)=az at *;have k1:∀(run':Int×Int)(b3:Bk)(w:I)(d:Z),jo id H1.n p c d->NB c p w->e8 d id w b3->b3.ok->At d H1.n (.row (aD run'))->fq t.kind a (f::r) (s::(cD t).drop (i+1)) run b2=fq t.kind a r ((cD t).drop (i+1)) run' b3->S.pG (ai C) ([.int .i64 i],c) az Q [] d:=by intro run' b3 w d z D E P y he;unfold S.pG;simp only[ag];simp only[T,bz,O];rw[bo,cN];exact a9 _ (i+1) run' b3 w d ba rfl (G.trans J z) (J.trans G.1 D) E P y (hm.trans he)
   have k2 : ∀(m:Int×Int)(b1:Bk)(w:I)(d:Z),m=(if f.bits=acJ\/f.aQ=0\/t.kind=4 then(0,0)else run)->b1=(if f.bits=acJ\/f.aQ=0\/t.kind=4 then jj run b2 else b2)->jo id H1.n p c d->NB c p w->e8 d id w b1->b1.ok->At d H1.n (.row (aD m))->At d c.n (.row f.cells)->At d k.n (.row (aD (B (s.at_+a),s.len))) ->
     S.w9 (ai C) (.ae [.ptr id 0]) (.ptr H1.n 0) (.ptr c.n 0) (.ptr k.n 0) ([.int .i64 i],c) az Q [] d:=by
    intro m b1 w d ez bq z D E P y aH aI;have aJ:ch w≠acK H1.n:=D.ne (by omega) ao;have u:fq t.kind a (f::r) (s::(cD t).drop (i+1)) run b2=if f.bits=acJ then fq t.kind a r ((cD t).drop (i+1)) m (pY f (B (s.at_+a)) b1)else if m.2>0 then fq t.kind a r ((cD t).drop (i+1)) (m.1,B (B (B (s.at_+a)+s.len)-m.1)) b1 else if f.aQ>0 then fq t.kind a r ((cD t).drop (i+1)) (B (s.at_+a),s.len) b1 else fq t.kind a r ((cD t).drop (i+1)) m b1:=by rw[fq,ez,bq]
    have p0:aj d 1 acJ (.ptr k.n 0)=acK (.int .i64 (B (s.at_+a))):=by rw[aI.load];rfl
    have br:aj d 1 acJ (.ptr k.n 1)=acK (.int .i64 s.len):=by rw[aI.load];rfl
    have bs:aj d 2 acI (.ptr k.n 0)=acK (.agg (aD (B (s.at_+a),s.len))):=aI.all (n:=2) rfl;have bt:aj d 1 acJ (.ptr H1.n 0)=acK (.int .i64 m.1):=by rw[y.load];rfl
    have bu:aj d 1 acJ (.ptr H1.n 1)=acK (.int .i64 m.2):=by rw[y.load];rfl
    have bv:aj d 1 acJ (.ae [.ptr id 0])=acK (.ptr id 0):=rfl;unfold S.w9;simp only[ag];simp only[jm,f7 aH,f8 aH,bp aH,p0,br,bs,bt,bu,bv,O,dg,au,aw];apply aG<;>intro e
    . have K:f.bits=acJ:=by simpa using e
      rw[ab K,TV]at u;refine hF f bd E P λbw bx aV bB bD bE=>?_;exact k1 m _ bw bx (z.trans D aV.three) (D.trans z.1 bB) bD bE (aV.2 _ _ R aJ y) u
    . have K:¬f.bits=acJ:=by simpa using e
      rw[af K]at u;simp only[cV,O,au];apply aG<;>intro e
      . have W:m.2>0:=by simpa using e
        rw[ab W]at u;simp only[bz,eH,O];rw[y.st1 (by show 1<2;decide) ⟨rfl,rfl,rfl⟩];simp only[O];exact k1 _ _ w _ ⟨z.1,λi o hi ad A x=>(z.2 i o hi ad A x).bR ad _⟩ D (E.other R aJ _) P (y.set _) u
      . have W:¬m.2>0:=by simpa using e
        rw[af W]at u;apply aG<;>intro e
        . have ac:f.aQ>0:=by simpa using e
          rw[ab ac]at u;rw[y.put (n:=2) rfl rfl rfl];simp only[O];exact k1 _ _ w _ ⟨z.1,λi o hi ad A x=>(z.2 i o hi ad A x).bR ad _⟩ D (E.other R aJ _) P (y.set _) u
        . have ac:¬f.aQ>0:=by simpa using e
          rw[af ac]at u;exact k1 _ _ w d z D E P y u
   have aW:∀v:Bool,(v=acI↔f.bits=acJ\/f.aQ=0\/t.kind=4)->S.w_ (ai C) (.ae [.ptr id 0]) (.ptr H1.n 0) (.ptr c.n 0) (.ptr k.n 0) ([.int .i64 i],c) az Q [.bool v] N:=by
    intro v hv;unfold S.w_;simp only[T,au,aw];apply aG<;>intro e
    . have hc:=hv.1 e;refine⟨_,_,rfl,?_⟩;rw[qu rfl,qv rfl];show ai C 131 [.ptr H1.n 0,.ae [.ptr id 0]] N _;refine Mv ak hT hS aT L aS R ao λbG d aX bH E bJ=>?_;have g:∀{i:Nat}{o:cx},c.n<=i->At N i o->At d i o:=λ{i o} hi x=>aX.2 i o (by omega) (by omega) (λe=>by have:=V.l.lt e;omega) x;exact k2 _ _ bG d (ab hc).symm (ab hc).symm (aU.trans (.inl rfl) aX) (bH.imp (λe=>e) λ⟨j,a8,e⟩=>⟨j,by omega,e⟩) E (Mu L run) bJ (g (hb _) ay) (g (by omega) ax)
    . have hc:¬(f.bits=acJ\/f.aQ=0\/t.kind=4):=λq=>e (hv.2 q);exact k2 run b2 p N (af hc).symm (af hc).symm aU (.inl rfl) aT L aS ay ax
   have ap:∀v:Bool,(v=acI↔f.bits=acJ\/f.aQ=0)->S.xb (ai C) (.ae [.ptr id 0]) (.ae t.cells) (.ptr H1.n 0) (.ptr c.n 0) (.ptr k.n 0) ([.int .i64 i],c) az Q [.bool v] N:=by
    intro v hv;unfold S.xb;simp only[ag];simp only[T,bF,ca,h3,O,bI,aw];apply aG<;>intro e
    . have aZ:¬(f.bits=acJ\/f.aQ=0):=λq=>by rw[hv.2 q]at e;simp at e
      refine aW _ ⟨λq=> .inr (.inr (by simpa using q)),λq=>?_⟩;rcases q with q|q|q
      ·exact absurd (.inl q) aZ
      ·exact absurd (.inr q) aZ
      ·simpa using q
    . have:v=acI:=by simpa using e
      exact aW acI ⟨λ_=>(hv.1 this).imp (λe=>e) λe=> .inl e,λ_=>rfl⟩
   simp only[f7 ay,f8 ay,O,dg,bF,bI,aw];apply aG<;>intro e
   . have K:f.bits=acI:=by simpa using e
     refine ap _ ⟨λq=> .inr (by simpa using q),λq=>?_⟩;rcases q with q|q
     ·rw[K]at q;cases q
     ·simpa using q
   . have K:f.bits=acJ:=by simpa using e
     exact ap acI ⟨λ_=> .inl K,λ_=>rfl⟩
 exact main t.Y (cD t) 0 (0,0) b F H2 rfl rfl (jo.refl _ _ _ _) (.inl rfl) a5 U a3 rfl
end
end Rb
namespace Rb
open Go
variable{f:aE}{t:X}{run:Int×Int}
def Mw(kind S:Int)(f:aE)(s:bj)(b a:Int):Prop:=∃x:Int×Int,s=ft f x/\(if kind=4 then 0 else b)<=x.1/\0<=x.2/\(f.bits=acI->x.2=f.aQ)/\(f.bits=acJ->x.1%8=0/\x.2=8*(L f.type).1.1)/\x.1+x.2<=8*S/\a=x.1+x.2
def Fits(kind S:Int):List aE->List bj->Int->Prop
 |[],[],_=>True
 |f::r,s::ss,b=>∃a,Mw kind S f s b a/\Fits kind S r ss a
 |_,_,_=>False
theorem WQ{packed:Bool}{kind a:Int}(d:0<=a)(g:k3 packed f)(U:oo f.type)(ht:(L f.type).2=acI) :
  (if kind=4 then 0 else a)<=(dR packed kind a f (L f.type).1).1/\0<=(dR packed kind a f (L f.type).1).2.1/\(f.bits=acI->(dR packed kind a f (L f.type).1).2.1=f.aQ)/\(f.bits=acJ->(dR packed kind a f (L f.type).1).1%8=0/\(dR packed kind a f (L f.type).1).2.1=8*(L f.type).1.1):=by
 obtain⟨b1,b2,b3,h⟩:=U ht;have i:0<=(if kind=4 then(0:Int)else a):=by split;decide;exact d
 unfold dR;dsimp only;generalize (if kind=4 then(0:Int)else a)=b at *;by_cases c:f.bits=acI
 . obtain⟨j,k,l,y3,y4,_⟩:=g c;rw[ab c];refine⟨?_,y3,λ_=>rfl,λe=>by rw[c]at e;cases e⟩;show b<=bq b _;split
   ·have:=eJ (n:=b) (step:=8*f.type.size) (by omega);omega
   ·rw[p1];exact adR _
 . rw [af c];refine⟨?_,by show 0<=8*(L f.type).1.1;omega,λe=>absurd e c,λ_=>⟨?_,rfl⟩⟩
   . show b<=bq b _;split
     ·have:=eJ (n:=b) (step:=8) (by omega);omega
     ·have:=eJ (n:=b) (step:=8*(L f.type).1.2) (by omega);omega
   . show bq b _%8=0;split
     ·exact k0 (by decide)
     . have:=k0 (n:=b) (step:=8*(L f.type).1.2) (by omega);rw[<-Int.emod_emod_of_dvd (bq b (8*(L f.type).1.2)) (Int.dvd_mul_right 8 (L f.type).1.2),this];rfl
theorem My{packed:Bool}{kind:Int}:∀{l:List aE}{p q:PL}{n:Nat},n+l.length<=32->hI p n->(∀f∈l,k3 packed f/\oo f.type)->dQ packed kind p l=acK q ->
  p.size<=q.size/\hI q (n+l.length)/\∃ss,q.dP=p.dP++ss/\Fits kind q.size l ss p.bit
 | [],p,q,n,hn,hp,hl,h=>by simp only[dQ,aaC.injEq]at h;subst h;exact⟨adR _,hp,[],by simp,trivial⟩
 | f :: r,p,q,n,hn,hp,hl,h=>by
  obtain⟨o1,o2⟩:=hl f (acs ..);have c:n+1+r.length<=32:=by rw[adN]at hn;omega
  simp only[dQ,na]at h;by_cases ht:(L f.type).2=acI
  . rw [ab ht]at h;obtain⟨b1,b2,b3,d⟩:=o2 ht;have U:f.bits=acI->1<=f.type.size/\f.type.size<=8/\0<=f.aQ/\f.aQ<=8*f.type.size/\packed=acJ/\(L f.type).1.2=f.type.size:=λU=>by
     obtain⟨e,z2,z3,z4,z5,i⟩:=o1 U;exact⟨z2,z3,z4,z5,i,by rw[jZ (.inl e)]⟩
    obtain⟨e1,j⟩:=yx (packed:=packed) (kind:=kind) (g:=(L f.type).1) (by omega) hp b1 b2 b3 d (λq=>⟨(U q).1,(U q).2.1,(U q).2.2.1,(U q).2.2.2.1⟩);have k:=yy (kind:=kind) hp (f:=f) (g:=(L f.type).1) b3 (λq=>⟨(U q).1,(U q).2.2.1,(U q).2.2.2.1,(U q).2.2.2.2.1,(U q).2.2.2.2.2⟩);obtain⟨s1,m,ss,a,b⟩:=My c j (λg o=>hl g (acp _ o)) h;obtain⟨l1,l2,l3,l4⟩:=WQ (kind:=kind) hp.b0 o1 o2 ht;rw[e1,k]at a b s1;generalize dR packed kind p.bit f (L f.type).1=x at *;have s:=eJ (n:=x.1+x.2.1) (step:=8) (by decide);have t:=k0 (n:=x.1+x.2.1) (step:=8) (by decide);have s1:max p.size (bq (x.1+x.2.1) 8/8)<=q.size:=s1;refine⟨by omega,by rw[adN,Nat.add_comm r.length,<-Nat.add_assoc];exact m,ft f (x.1,x.2.1)::ss,by rw[a,aeo];rfl,x.1+x.2.1,⟨(x.1,x.2.1),rfl,l1,l2,l3,l4,by show x.1+x.2.1<=_;omega,rfl⟩,b⟩
  ·rw[af ht]at h;cases h
theorem Dc(h:t.lay)(a:t.kind=3\/t.kind=4):∃S,0<=S/\S<=(L t).1.1/\(L t).1.1<=65536/\Fits t.kind S t.Y (cD t) 0:=by
 obtain⟨p,hp,hu,_⟩:=ou h a;have b:=fm h.snd;have hlen:=r7 b a;have c:∀f∈t.Y,k3 t.packed f:=by
  have hs:=b;rw[gB]at hs;split at hs
  ·exact absurd hs (by decide)
  . rw[af (show ¬t.kind=1 by omega),af (show ¬t.kind=2 by omega),af (show ¬t.kind=5 by omega),bL]at hs;exact r6 hs
 obtain⟨s1,U,ss,d,g⟩:=My (n:=0) (by omega) hI.zero (λf hf=>⟨c f hf,r8 f.type ((lV b a).1 f hf)⟩) hp;have s0:0<=p.size:=s1;have e:(L t).1.1=cA p.size p.bp:=by rw[jW,bL,bL,hp]
 have i:cA p.size p.bp=bq p.size p.bp:=mr s0 (by have:=U.s1;simp only[aa8]at this;omega) (by have:=U.a0;omega) (by have:=U.M;omega);have j:=eJ (n:=p.size) (step:=p.bp) (by have:=U.a0;omega);refine⟨p.size,s0,by omega,by omega,?_⟩;unfold cD;rw[hp];dsimp only;rw[d];exact g
def kC(a n:Int)(s:Int×Int):Prop:=a<=s.1/\1<=s.2/\s.1+s.2<=a+n
theorem kC.mono{a n m:Int}{s:Int×Int}(h:kC a n s)(k:n<=m):kC a m s:=⟨h.1,h.2.1,by have:=h.2.2;omega⟩
def j5(kind a S b:Int)(run:Int×Int):Prop:=run.2>0->kC a S run/\(kind≠4->1<=b/\run.1+run.2-a=(b-1)/8+1)
theorem j5.zero(kind a S b:Int):j5 kind a S b (0,0):=λh=>absurd h (by decide)
theorem j5.gv{kind a S b:Int}(h:j5 kind a S b run):∀s∈gv run,kC a S s:=by
 intro s hs;unfold Rb.gv at hs;split at hs
 . rename_i c;rw[aeH.1 hs];exact(h c).1
 ·cases hs
theorem zd{x y:Int}(a:0<=x)(b:x<=1000000)(c:0<=y)(d:y<=10000000000000):B (x+y)=x+y:=bo
theorem Dd{kind a S:Int}(ha:0<=a)(fy:a+S<=5000000000000)(hS:0<=S/\S<=65536){s:bj}{r:List aE}{ss:List bj}{b i:Int}(U:0<=b)(hF:Mw kind S f s b i)(q:j5 kind a S b run) :
  ∃ run' pre,eZ kind a (f::r) (s::ss) run=((eZ kind a r ss run').1,pre++(eZ kind a r ss run').2)/\0<=i/\j5 kind a S i run'/\(∀u∈pre,u∈gv run\/(f.bits=acJ/\u∈ba f.type (s.at_+a))) /\
   (f.bits=acJ->0<=s.at_/\s.at_+(L f.type).1.1<=S/\∀u∈ba f.type (s.at_+a),u∈pre)/\(f.bits=acI->0<f.aQ->run'.2>0/\run'.1<=s.at_+a/\s.at_+a+s.len<=run'.1+run'.2)/\(run.2>0->run∈pre\/(run'.1=run.1/\run.2<=run'.2)):=by
 obtain⟨x,hs,t,A,v,w,C,D⟩:=hF;have E:0<=(if kind=4 then(0:Int)else b):=by split;decide;exact U
 have d:0<=i:=by omega
 have m:run.2>0->run∈gv run:=λh=>by unfold gv;rw[ab h];exact aeH.2 rfl
 rw[eZ];by_cases c:f.bits=acJ
 . have n:f.bits=acJ\/f.aQ=0\/kind=4:= .inl c;simp only[ab n,ab c];obtain⟨F,G⟩:=w c;have j:s=⟨x.1/8,x.2/8,f.type.kind,acJ,0,0⟩:=by rw[hs];unfold ft;rw[af (by rw[c];decide)]
   have y:s.at_=x.1/8:=by rw[j]
   rw[TX,zd (by omega) (by omega) ha (by omega)];refine⟨(0,0),gv run++ba f.type (s.at_+a),by rw[aeo],d,j5.zero _ _ _ _,λu hu=>?_,λ_=>⟨by omega,by omega,λu hu=>aeL _ hu⟩,λe=>absurd e (by rw[c];decide),λh=> .inl (aeM _ (m h))⟩;exact(acf.1 hu).imp id λh=>⟨c,h⟩
 . have h1:f.bits=acI:=by simpa using c
   have hw:=v h1;rw[af c];have j:s=⟨x.1/8,if x.2>0 then(x.1+x.2-1)/8-x.1/8+1 else 0,1,acI,x.1%8,x.2⟩:=by rw[hs];unfold ft;rw[ab h1]
   have y:s.at_=x.1/8:=by rw[j]
   have p:s.len=if x.2>0 then(x.1+x.2-1)/8-x.1/8+1 else 0:=by rw[j]
   by_cases he:f.aQ=0\/kind=4
   . have n:f.bits=acJ\/f.aQ=0\/kind=4:= .inr he;simp only[ab n];rw[af (show ¬((0,0):Int×Int).2>0 by decide)];by_cases g:f.aQ>0
     . rw[ab g];have o:x.2>0:=by omega
       rw[ab o]at p;rw[zd (by omega) (by omega) ha (by omega)];exact⟨(s.at_+a,s.len),gv run,rfl,d,λ_=>⟨⟨by show a<=s.at_+a;omega,by show 1<=s.len;omega,by show s.at_+a+s.len<=_;omega⟩,λk=>absurd (he.resolve_left (by omega)) k⟩,λu hu=> .inl hu,λe=>absurd e c,λ_ _=>⟨by show s.len>0;omega,adR _,adR _⟩,λh=> .inl (m h)⟩
     . rw[af g];exact⟨(0,0),gv run,rfl,d,j5.zero _ _ _ _,λu hu=> .inl hu,λe=>absurd e c,λ_ h=>absurd h g,λh=> .inl (m h)⟩
   . have z:¬(f.bits=acJ\/f.aQ=0\/kind=4):=λe=>e.elim c he;simp only[af z];have g:f.aQ>0:=by omega
     have o:x.2>0:=by omega
     have k:kind≠4:=λe=>he (.inr e);rw[af k]at t;rw[ab o]at p;by_cases l:run.2>0
     . rw[ab l];obtain⟨⟨i1,i2,i3⟩,i4⟩:=q l;obtain⟨H,I⟩:=i4 k;rw[zd (by omega) (by omega) ha (by omega),show B (s.at_+a+s.len)=s.at_+a+s.len from bo,show B (s.at_+a+s.len-run.1)=s.at_+a+s.len-run.1 from bo];exact⟨(run.1,s.at_+a+s.len-run.1),[],rfl,d,λ_=>⟨⟨i1,by show 1<=s.at_+a+s.len-run.1;omega,by show run.1+(s.at_+a+s.len-run.1)<=_;omega⟩,λ_=>⟨by omega,by show run.1+(s.at_+a+s.len-run.1)-a=_;omega⟩⟩,λu hu=>(by cases hu),λe=>absurd e c,λ_ _=>⟨by show s.at_+a+s.len-run.1>0;omega,by show run.1<=_;omega,by show _<=run.1+(s.at_+a+s.len-run.1);omega⟩,λ_=> .inr ⟨rfl,by show run.2<=s.at_+a+s.len-run.1;omega⟩⟩
     . rw[af l,ab g,zd (by omega) (by omega) ha (by omega)];exact⟨(s.at_+a,s.len),[],rfl,d,λ_=>⟨⟨by show a<=s.at_+a;omega,by show 1<=s.len;omega,by show s.at_+a+s.len<=_;omega⟩,λ_=>⟨by omega,by show s.at_+a+s.len-a=_;omega⟩⟩,λu hu=>(by cases hu),λe=>absurd e c,λ_ _=>⟨by show s.len>0;omega,adR _,adR _⟩,λh=>absurd h l⟩
section
variable{kind a S:Int}(ha:0<=a)(fy:a+S<=5000000000000)(hS:0<=S/\S<=65536)
include ha fy hS
theorem Mz:∀(l:List aE)(ss:List bj)(b:Int)(run:Int×Int),0<=b->Fits kind S l ss b->j5 kind a S b run ->
  (∀f∈l,f.bits=acJ->∀c,0<=c->c+(L f.type).1.1<=5000000000000->∀s∈ba f.type c,kC c (L f.type).1.1 s) ->
  ∀s∈(eZ kind a l ss run).2++gv (eZ kind a l ss run).1,kC a S s
 |[],ss,b,run,U,hf,d,hl=>by rw[eZ];exact d.gv
 |f::r,[],b,run,U,hf,d,hl=>hf.elim
 | f :: r,s::ss,b,run,U,hf,d,hl=>by
  obtain⟨i,hF,j⟩:=hf;obtain⟨run',pre,e,k,m,hp,n,_⟩:=Dd ha fy hS (r:=r) (ss:=ss) U hF d;rw[e];intro u hu;dsimp only at hu;rw[aeo]at hu;rcases acf.1 hu with hu|hu
  . rcases hp u hu with hu|⟨h,hu⟩
    ·exact d.gv u hu
    . obtain⟨q,t,_⟩:=n h;obtain⟨v,o,w⟩:=hl f (acs ..) h (s.at_+a) (by omega) (by omega) u hu;exact⟨by omega,o,by omega⟩
  ·exact Mz r ss i run' k j m (λg p=>hl g (acp _ p)) u hu
theorem MA:∀(l:List aE)(ss:List bj)(b:Int)(run:Int×Int),0<=b->Fits kind S l ss b->j5 kind a S b run->run.2>0 ->
  ∃u∈(eZ kind a l ss run).2++gv (eZ kind a l ss run).1,u.1=run.1/\run.2<=u.2
 |[],ss,b,run,U,hf,c,h=>⟨run,by rw[eZ];show run∈[]++gv run;unfold gv;rw[ab h];exact aeH.2 rfl,rfl,adR _⟩
 |f::r,[],b,run,U,hf,c,h=>hf.elim
 | f :: r,s::ss,b,run,U,hf,c,h=>by
  obtain⟨d,hF,g⟩:=hf;obtain⟨run',pre,e,i,j,_,_,_,hk⟩:=Dd ha fy hS (r:=r) (ss:=ss) U hF c;rw[e];rcases hk h with hk|⟨k1,k2⟩
  ·exact⟨run,aeM _ (aeM _ hk),rfl,adR _⟩
  . obtain⟨u,hu,k,m⟩:=MA r ss d run' i g j (by omega);exact⟨u,by show u∈(pre++_)++_;rw[aeo];exact aeL _ hu,k.trans k1,by omega⟩
theorem MB:∀(l:List aE)(ss:List bj)(b:Int)(run:Int×Int),0<=b->Fits kind S l ss b->j5 kind a S b run->∀(n:Nat)(f:aE)(s:bj),l[n]?=acK f->ss[n]?=acK s ->
  (f.bits=acJ->∀u∈ba f.type (s.at_+a),u∈(eZ kind a l ss run).2++gv (eZ kind a l ss run).1)/\(f.bits=acI->0<f.aQ->∃u∈(eZ kind a l ss run).2++gv (eZ kind a l ss run).1,u.1<=s.at_+a/\s.at_+a+s.len<=u.1+u.2)
 |[],ss,b,run,U,hf,c,n,f,s,h,k=>by simp at h
 |f::r,[],b,run,U,hf,c,n,g,s,h,k=>hf.elim
 | f::r,s::ss,b,run,U,hf,c,n,g,t,h,k=>by
  obtain⟨j,hF,m⟩:=hf;obtain⟨run',pre,e,o,p,_,v,hw,_⟩:=Dd ha fy hS (r:=r) (ss:=ss) U hF c;rw[e];show(_->∀u∈_,u∈(pre++_)++_)/\(_->_->∃u∈(pre++_)++_,_)
  rw[aeo];cases n with
  | zero=>simp only[ac5,aaC.injEq]at h k;subst h k;refine⟨λd u hu=>aeM _ ((v d).2.2 u hu),λh1 i=>?_⟩;obtain⟨w1,w2,w3⟩:=hw h1 i;obtain⟨u,hu,q,w⟩:=MA ha fy hS r ss j run' o m p w1;exact⟨u,aeL _ hu,by omega,by omega⟩
  | succ n=>simp only[ac6]at h k;obtain⟨c1,c2⟩:=MB r ss j run' o m p n g t h k;refine⟨λd u hu=>aeL _ (c1 d u hu),λh1 i=>?_⟩;obtain⟨u,hu,q⟩:=c2 h1 i;exact⟨u,aeL _ hu,q⟩
end
theorem sX{t e:X}(h:t.lay)(a:t.kind=5){c:List X}(b:t.aK=e::c):1<=t.bg/\t.bg<=65536/\0<=(L e).1.1/\(L t).1.1=(L e).1.1*t.bg/\(L t).1.1<=65536:=by
 have hs:=fm h.snd;have hle:=yN h a (e:=e) (by rw[b];exact acs ..);obtain⟨b1,b2,_,_⟩:=Cr e (fm hle.snd) hle.of;have hc:1<=t.bg/\t.bg<=65536:=by
  rw[gB]at hs;split at hs
  ·exact absurd hs (by decide)
  . rw[af (show ¬t.kind=1 by omega),af (show ¬t.kind=2 by omega)]at hs;split at hs
    ·exact absurd hs (by decide)
    ·omega
 have f:=h.of;have hm:0<=(L e).1.1*t.bg/\(L e).1.1*t.bg<=65536*65536:=⟨ad5 b1 (by omega),Int.mul_le_mul b2 hc.2 (by omega) (by omega)⟩
 have e1:(L t).1.1=B ((L e).1.1*t.bg):=by rw[jW,bL,ab a,b];rfl
 have d:B ((L e).1.1*t.bg)=(L e).1.1*t.bg:=bo;have U:=Cr t hs h.of;exact⟨hc.1,hc.2,b1,e1.trans d,U.2.1⟩
mutual
theorem ze:∀t:X,t.lay->∀a,0<=a->a+(L t).1.1<=5000000000000->∀s∈ba t a,kC a (L t).1.1 s
 | .mk kind size packed Y bg aK,h,a,ha,fy,s,hs=>by
  have hz:=nb (fm h.snd);rw[ba]at hs;by_cases j:kind=1\/kind=2
  . rw[ab j]at hs;have:=(yC (fm h.snd) j).1;rw[aeH.1 hs,jZ j];exact⟨adR _,this,adR _⟩
  . rw [af j]at hs;by_cases d:kind=5
    . rw [ab d]at hs;split at hs
      . rename_i hp;have q:=MC aK λe he=>yN h d he;obtain⟨e,b,_⟩:=kq (fm h.snd) d;have b:aK=[e]:=b;have n:f_ aK=L e:=by rw[b,f_]
        have hle:∀a,om aK a=ba e a:=λa=>by rw[b,om]
        rw[n]at hp;simp only[n,hle]at hs;obtain⟨c1,c2,c3,o,c5⟩:=sX h d b;obtain⟨i,hi,p⟩:=aeN.1 hs;rw[aeO]at hi;have c1:1<=bg:=c1;have u:(i:Int)+1<=bg:=by omega
        have hm:(L e).1.1*((i:Int)+1)<=(L e).1.1*bg:=aeP u c3;have w:0<=(i:Int)*(L e).1.1:=ad5 (by omega) c3;have x:(L e).1.1*((i:Int)+1)=(i:Int)*(L e).1.1+(L e).1.1:=by rw[ad4,aeQ,adX]
        have o:_=(L e).1.1*bg:=o;rw[show B ((i:Int)*(L e).1.1)=(i:Int)*(L e).1.1 from bo,show B (a+(i:Int)*(L e).1.1)=a+(i:Int)*(L e).1.1 from bo]at p;obtain⟨y,v,z⟩:=q e (by rw[b];exact acs ..) (a+(i:Int)*(L e).1.1) (by omega) (by omega) s p;exact⟨by omega,v,by omega⟩
      ·cases hs
    . rw[af d]at hs;have hk:kind=3\/kind=4:=by have:kind=1\/kind=2\/kind=5\/kind=3\/kind=4:=hz;omega
      obtain⟨S,s0,s1,s2,hf⟩:=Dc h hk;refine(Mz ha (by omega) ⟨s0,by omega⟩ Y _ 0 (0,0) (adR _) hf (j5.zero _ _ _ _) (MD Y λf hf=>ov h hk hf) s hs).mono s1
theorem MC:∀(l:List X),(∀e∈l,e.lay)->∀e∈l,∀c,0<=c->c+(L e).1.1<=5000000000000->∀s∈ba e c,kC c (L e).1.1 s
 |[],hl,e,he=>by cases he
 | t::r,hl,e,he=>by
  rcases aco.1 he with h|he
  ·rw[h];exact λc k c1=>ze t (hl t (acs ..)) c k c1
  ·exact MC r (λg m=>hl g (acp _ m)) e he
theorem MD:∀(l:List aE),(∀f∈l,f.type.lay)->∀f∈l,f.bits=acJ->∀c,0<=c->c+(L f.type).1.1<=5000000000000->∀s∈ba f.type c,kC c (L f.type).1.1 s
 |[],hl,f,hf,_=>by cases hf
 | .mk V type bits aQ::r,hl,f,hf,U=>by
  rcases aco.1 hf with rfl|hf
  . have h:=hl _ (acs ..);exact λc k c1=>ze type h c k c1
  ·exact MD r (λg m=>hl g (acp _ m)) f hf U
end
end Rb
namespace Rb
open Go
theorem De:∀l:List (Int×Int),I.ec (l.flatMap aD)=l.flatMap aD
 |[]=>rfl
 |x::r=>by rw[ac0,ot,De r];rfl
theorem zf:∀l:List (Int×Int),I.bV (l.flatMap aD)=acI
 |[]=>rfl
 | x::r=>by rw[ac0];show I.bV (.int .i64 x.1 :: .int .i64 x.2::r.flatMap aD)=acI;simp[I.bV,I.bu,zf r]
theorem WR{H:Z}{id:Nat}{F:I}{b:Bk}(h:e8 H id F b):∃x H',kG H (.ptr id 0)=acK (x,H')/\b8 x=acK x/\∃y z,aH 0 x=acK y/\aj H' 1 acJ y=acK z/\z.cU=av aD b.l:=by
 have ha:=h.a.2;rcases h.l.2 with⟨tk,ht,f,c⟩|⟨j,cs,m,c,g,i,k,n⟩
 . have hl:b.l=[]:=abF.1 f;refine⟨.ae [F,.bool b.full],H.set id .gone,?_,rfl,.ae [F,.bool b.full],F,rfl,rfl,?_⟩
   ·simp only[kG,ha,c,lh,aeb,adf]
   ·rw[c,hl];rfl
 . have o:j≠id:=λe=>h.d (by rw[c,<-e];rfl);refine⟨.ptr id 0,(H.set j .gone).set id (.row [.aq .dead b.l.length (b.l.flatMap aD),.bool b.full]),?_,rfl,.ptr id 0,.aq .dead b.l.length (b.l.flatMap aD),rfl,?_,?_⟩
   . simp only[kG,ha,c,lh,g.2,aa8,adf];rw[ab (by rw[i];exact aby _ k),n];simp only[af o]
   ·simp only[aj,Z.Jy];rfl
   ·simp only[I.cU,De];rfl
section
variable{C:Ctx}(ak:cP C)(hT:Cl (ai C) S.b7)(hS:nu (ai C))
include ak hT hS
theorem find_spec:∀t:X,t.lay->Mt C t:=by
 refine X.ind λt N P ht=>?_;intro H Q id F b a h U hQ;have hs:=fm ht.snd;rw[WM]at hQ;refine S.Q9 hT ?_;unfold S.f55;simp only[ag];simp only[fC,aN,ca,h3,O,bI,au,aw];have E : ∀ v:Bool,(v=acI↔t.kind=1\/t.kind=2)->S.wj (ai C) (.ptr id 0) (.int .i64 a) (.ae t.cells) (.int .i64 t.kind) Q [.bool v] H:=by
  intro v hv;unfold S.wj;simp only[ag];simp only[T,au];apply aG<;>intro e
  . have hk:=hv.1 e;rw[ab hk]at hQ;simp only[ca,kp,O];rw[show bS [.int .i64 0,.int .i64 0] [(0,1,.int .i64 a),(1,1,.int .i64 t.size)]=acK (.agg (aD (a,t.size)))from rfl];simp only[O];exact Mg ak hT hS h U (a,t.size) hQ
  . have hk : ¬(t.kind=1\/t.kind=2):=λq=>e (hv.2 q);rw[af hk]at hQ;simp only[bI,O,au];apply aG<;>intro e
    . have m:t.kind=5:=by simpa using e
      rw[ab m]at hQ;obtain⟨c,g,_⟩:=kq hs m;have hle:=yN ht m (e:=c) (by rw[g];exact acs ..);have R:f_ t.aK=L c:=by rw[g,f_]
      have V:∀a b,oj t.aK a b=gu c a b:=λa b=>by rw[g,oj]
      rw[R]at hQ;simp only[V]at hQ;obtain⟨c1,c2,c3,an,c5⟩:=sX ht m g;have e0:t.aK[0]?=acK c:=by rw[g];rfl
      simp only[ca,gK,O];rw[show aL acL 6 (av X.cells t.aK) (.int .i64 0)=acK (di X.cells 6 t.aK 0)from b6 (by rw[g];exact aeR)];simp only[O];rw[c8 X.len (by decide) _ e0];simp only[O];refine yt ak hT c (fm hle.snd) _ _ ?_;simp only[lY,bA,ac5,ac6,O,bQ,bc,aN];rw[cn _ _ _ 2 rfl rfl rfl];simp only[O];have rs:=At.new H (.row (aD (L c).1));have p:=Z.Ext.push H (.row (aD (L c).1));have ao:=h.a.1;have W:ch F≠acK H.n:=h.lt;have G:∀{x:I},NB (H.push (.row (aD (L c).1))) F x->NB H F x:=λh=>h.imp (λe=>e) λ⟨j,ap,e⟩=>⟨j,by have:=p.1;omega,e⟩
      have aq:(H.push (.row (aD (L c).1))).n=H.n+1:=rfl;have main:∀(n i:Nat)(b2:Bk)(k:I)(d:Z),i+n=t.bg.toNat->jo id H.n F (H.push (.row (aD (L c).1))) d->NB (H.push (.row (aD (L c).1))) F k->e8 d id k b2->b2.ok->At d H.n (.row (aD (L c).1)) ->
        (if(L c).1.1>0 then ku (λi b=>gu c (B (a+B (i*(L c).1.1))) b) t.bg.toNat 0 b else b)=(if(L c).1.1>0 then ku (λi b=>gu c (B (a+B (i*(L c).1.1))) b) n i b2 else b2) ->
        ar (S.rz (ai C) (.ptr id 0) (.int .i64 a) (.ae t.cells) (.ptr H.n 0) Q) ([.int .i64 i],d):=by
       intro n;induction n with
       | zero=>
        intro i b2 k d hi l r s w y hm;have z:(if(L c).1.1>0 then ku (λi b=>gu c (B (a+B (i*(L c).1.1))) b) t.bg.toNat 0 b else b)=b2:=by rw[hm];split;rw[ku];rfl
        rw[z]at hQ;refine ar.step ?_;simp only[ag,S.rz,T,ca,lU,aY,O,bP,aw];rw[cQ];unfold S.wi;simp only[ag];simp only[T,bP,aw,abW,b4];unfold S.pB;simp only[T,au,abW,b4];exact hQ k d ⟨by have:=p.1;have:=l.1;omega,λi o hi A u=>l.2 i o hi (by have:=u.1;omega) A (u.ext p)⟩ (G r) s w
       | succ n Y=>
        intro i b2 k d hi l r s w y hm;refine ar.step ?_;simp only[ag,S.rz,T,ca,lU,aY,O,bP,aw];rw[cM];have p0:aj d 1 acJ (.ptr H.n 0)=acK (.int .i64 (L c).1.1):=by rw[y.load];rfl
        simp only[jm,p0,O,cV];unfold S.wi;simp only[ag];simp only[T,bP,aw];have fin:((L c).1.1>0->b2.full=acI)->S.pB (ai C) (.ptr id 0) (.int .i64 a) (.ae t.cells) (.ptr H.n 0) ([.int .i64 i],d) (ar (S.rz (ai C) (.ptr id 0) (.int .i64 a) (.ae t.cells) (.ptr H.n 0) Q)) Q [.bool acJ] d:=by
         intro hf;unfold S.pB;simp only[T,au,abW,b4];have z:(if(L c).1.1>0 then ku (λi b=>gu c (B (a+B (i*(L c).1.1))) b) t.bg.toNat 0 b else b)=b2:=by
          rw[hm];split
          . rename_i hp;rw[ku,ab (hf hp)]
          ·rfl
         rw[z]at hQ;exact hQ k d ⟨by have:=p.1;have:=l.1;omega,λi o hi A u=>l.2 i o hi (by have:=u.1;omega) A (u.ext p)⟩ (G r) s w
        apply aG<;>intro e
        . have hp:(L c).1.1>0:=by simpa using e
          rw[show b8 (.ptr id 0)=acK (.ptr id 0)from rfl];simp only[O,jm,s.ld1,dg];cases J:b2.full
          . unfold S.pB;simp only[T,au,Bool.not_false,bc,aw];unfold S.G2;simp only[ag];simp only[ca,gK,O];rw[show aL acL 6 (av X.cells t.aK) (.int .i64 0)=acK (di X.cells 6 t.aK 0)from b6 (by rw[g];exact aeR)];simp only[O];rw[c8 X.len (by decide) _ e0];simp only[O,jm,p0,T,gk,bz];rw[ab hp,ab hp,ku,J,cw]at hm;refine P c (by rw[g];exact acs ..) hle s w λaa ac K ad ah al=>?_;rw[bo,cN];have am:ch k≠acK H.n:=r.ne (by omega) W;refine Y (i+1) _ aa ac (by omega) (l.trans r K.three) (r.trans l.1 ad) ah al (K.2 _ _ (by omega) am y) ?_;rw[ab hp,ab hp];exact hm
          . rw[Bool.not_true];exact fin λ_=>J
        . have hp:¬(L c).1.1>0:=by simpa using e
          exact fin λq=>absurd q hp
      exact main t.bg.toNat 0 b F _ (by omega) (jo.refl _ _ _ _) (.inl rfl) (h.ext p) U rs rfl
    . have m:¬t.kind=5:=by simpa using e
      rw[af m]at hQ;have M:t.kind=3\/t.kind=4:=by have:=nb hs;omega
      simp only[hD,O];exact WO ak hT hS ht M (λf hf=>N f hf (ov ht M hf)) h U hQ
 apply aG<;>intro e
 . have D:t.kind=1:=by simpa using e
   exact E _ ⟨λ_=> .inl D,λ_=>e⟩
 . have D:¬t.kind=1:=by simpa using e
   exact E _ ⟨λq=> .inr (by simpa using q),λq=>by simpa using q.resolve_left D⟩
theorem WS{t:X}(ht:t.ok):bD (ai C) 28 [.agg t.cells] (.aA [av aD (e4 t).1,.int .i64 (e4 t).2]):=by
 refine bD.of ak (by simp[I.bV,I.bu,X.bu]) (by show I.bu (.aA [.aq .dead (e4 t).1.length ((e4 t).1.flatMap aD),.int .i64 _])=acI;simp[I.bu,I.bV,zf,Tok.free]) λQ hQ=>?_
 refine ai.cU ?_;refine S.QO hT ?_;unfold S.f28;simp only[ag];simp only[fC,aN,hD,O];refine S.BL hT (B_ ak hT t ht λH1=>?_);simp only[bA,ac5,ac6,O,aN,bQ,bc];rw[cn _ _ _ 2 rfl rfl rfl];simp only[O,cC,au];apply aG<;>intro e
 . have a:(bm t).2≠0:=by simpa using e
   have hl:e4 t=([],(bm t).2):=by unfold e4;rw[ab a]
   rw[hl]at hQ;exact hQ _
 . have a:(bm t).2=0:=by simpa using e
   have d:=mA ht a;generalize H1.push (.row [.int .i64 (bm t).1.1,.int .i64 (bm t).1.2])=H2 at *;rw[show bS [.aq .nil 0 [],.bool acJ] []=acK (.agg [.aq .nil 0 [],.bool acJ])from rfl];simp only[O];rw[show b5 H2 acI 2 (.agg [.aq .nil 0 [],.bool acJ])=acK (.ptr H2.n 0,H2.push (.row [.aq .nil 0 [],.bool acJ]))from rfl];simp only[aN,hD,O];have U:e8 (H2.push (.row [.aq .nil 0 [],.bool acJ])) H2.n (.aq .nil 0 []) ⟨[],acJ⟩:=⟨At.new H2 _,dH.nil _ _,λe=>by cases e⟩
   refine find_spec ak hT hS t d U ⟨aaU _,λ_=>aaU _⟩ λh i j k f g=>?_;refine Mf ak hT hS f g.1 λm o n4 p r b=>?_;have c:e4 t=if((gu t 0 ⟨[],acJ⟩).tidy).full then([],12)else(((gu t 0 ⟨[],acJ⟩).tidy).l,0):=by unfold e4;rw[af (λq=>q a)]
   rw[show b8 (.ptr H2.n 0)=acK (.ptr H2.n 0)from rfl];simp only[O,jm,b.ld1,au];apply aG<;>intro e
   . rw[c,ab e]at hQ;exact hQ _
   . rw[c,af e]at hQ;obtain⟨x,s,f1,f2,y,z,f3,f4,f5⟩:=WR b;rw[f1];simp only[aN,f2,O,f3,f4];simp only[I.cU,I.ec,f5];exact hQ _
end
variable{t:X}{p:aI}
theorem ME{r:List aI}(h:(cj t (p::r)).1=0):cj t (p::r)=cj (c6 t p).2 r:=by
 rw[cj];by_cases c:(c6 t p).1≠0
 ·rw[cj,ab c]at h;exact absurd h c
 ·rw[af c]
theorem Df{kind S:Int}:∀(l:List aE)(ss:List bj)(b:Int),0<=b->Fits kind S l ss b->∀(n:Nat)(f:aE)(s:bj),l[n]?=acK f->ss[n]?=acK s ->
  (0<=s.at_/\s.at_<=S)/\(f.bits=acJ->s.bits=acJ/\s.at_+(L f.type).1.1<=S)/\(f.bits=acI->s.bits=acI/\0<=f.aQ)
 |[],ss,b,U,hf,n,f,s,h,k=>by simp at h
 |f::r,[],b,U,hf,n,g,s,h,k=>hf.elim
 | f :: r,s::ss,b,U,hf,n,g,t,h,k=>by
  obtain⟨c,⟨x,hs,o,p,d,i,q,u⟩,j⟩:=hf;have v:0<=(if kind=4 then(0:Int)else b):=by split;decide;exact U
  cases n with
  | zero=>
   simp only[ac5,aaC.injEq]at h k;subst h k;rw[hs];unfold ft;by_cases a:f.bits=acI
   . rw[ab a];have:=d a;exact⟨⟨by show 0<=x.1/8;omega,by show x.1/8<=S;omega⟩,λe=>absurd a (by rw[e];decide),λ_=>⟨rfl,by omega⟩⟩
   . rw[af a];have m:f.bits=acJ:=by simpa using a
     obtain⟨w,y⟩:=i m;exact⟨⟨by show 0<=x.1/8;omega,by show x.1/8<=S;omega⟩,λ_=>⟨rfl,by show x.1/8+_<=S;omega⟩,λe=>absurd e a⟩
  | succ n=>simp only[ac6]at h k;exact Df r ss c (by omega) j n g t h k
theorem MF{packed:Bool}:∀{l:List aE}{seen:List (List UInt8)},fB packed seen l=0->∀f∈l,f.bits=acI->f.V≠[]->f.aQ≠0
 |[],_,_,f,hf=>by cases hf
 | g :: r, seen,h,f,hf=>by
  intro U hn hw;simp only[fB]at h;have a:gA packed seen g=0:=by
   by_cases hz:gA packed seen g=0
   ·exact hz
   ·rw[ab hz]at h;exact absurd h hz
  rw[af (by simpa using a)]at h;rcases aco.1 hf with rfl|hf
  . rw [kV]at a;split at a
    ·cases a
    . split at a
      ·cases a
      . split at a
        ·rename_i hz;exact hz a
        . split at a
          ·cases a
          ·rw[ab ⟨U,.inr (.inr ⟨hw,hn⟩)⟩]at a;cases a
  ·exact MF h f hf U hn hw
theorem MG(h:t.lay)(b:t.kind=3\/t.kind=4)(hp:(c6 t p).1=0)(hi:p.aS=[]){n:Nat}{f:aE}(c:t.Y.findIdx? (λf=>f.V==p.field)=acK n)(a:t.Y[n]?=acK f)(U:f.bits=acI):f.aQ≠0:=by
 have hn:p.field≠[]:=λe=>by unfold c6 at hp;rw[ab (.inr (by rw[hi,e];decide))]at hp;have:(8:Int)=0:=hp;omega
 have he:f.V=p.field:=by have:=aey.1 c;obtain⟨d,q,_⟩:=this;rw[abb d,aaC.injEq]at a;rw[a]at q;exact eq_of_beq q
 exact MF (yr (fm h.snd) b) f (adq a) U (by rw[he];exact hn)
def MH(G:Int)(l:List (Int×Int))(s:bj):Prop:=∃u∈l,G+u.1<=s.at_/\s.at_+s.len<=G+u.1+u.2
theorem Dg{G:Int}(hG:0<=G)(y:G<=1000000000000):∀(r:List aI)(t:X)(sp out:bj)(idx:List Int)(a:Int),t.lay->(∀i∈idx,0<=i/\i<=18446744073709551615)->eY r t sp idx=acK out->(cj t r).1=0->((cj t r).2.kind=1\/(cj t r).2.kind=2) ->
  0<=a->a+(L t).1.1<=1000000->sp.at_=G+a->sp.bits=acJ->sp.len=(L t).1.1->MH G (ba t a) out
 | [],t,sp,out,idx,a,h,hi,hw,hp,hk,ha,fy,I,U,hl=>by
  rw[eY,aaC.injEq]at hw;subst hw;rw[cj]at hk;have hk:t.kind=1\/t.kind=2:=hk;refine⟨(a,t.size),?_,by show G+a<=_;omega,?_⟩
  ·cases t;rw[ba,ab hk];exact aeH.2 rfl
  . rw[jZ hk]at hl;show _<=G+a+t.size;have hl:sp.len=t.size:=hl;omega
 | p :: r,t,sp,out,idx,a,h,hi,hw,hp,hk,ha,fy,I,U,hl=>by
  obtain⟨z,c⟩:=j0 hp;have A:=ME hp;rw[eY.eq_def]at hw;dsimp only at hw;rcases kv h z with⟨J,b,e,K,he,d,s⟩|⟨C,b,n2,f,s2,f1,f2,f3,d,l⟩
  . rw [ab J]at hw;cases idx with
    |nil=>cases hw
    | cons i q=>
     dsimp only at hw;rw[he]at hw;dsimp only at hw;by_cases v:i>=kr t.bg
     ·rw[ab v]at hw;cases hw
     . rw [af v]at hw;obtain⟨c1,c2,c3,aa,c5⟩:=sX h b he;have M:kr t.bg=t.bg:=rU;rw[M]at v;obtain⟨i0,i1⟩:=hi i (acs ..);have w:i+1<=t.bg:=by omega
       have hm:(L e).1.1*(i+1)<=(L e).1.1*t.bg:=aeP w c3;have ac:0<=i*(L e).1.1:=ad5 i0 c3;have ad:(L e).1.1*(i+1)=i*(L e).1.1+(L e).1.1:=by rw[ad4,aeQ,adX]
       have hle:(bm e).1.1=(L e).1.1:=by rw[s.zero]
       have N:abu .i64 i=i:=bo;rw[N,hle,show B (i*(L e).1.1)=i*(L e).1.1 from bo,show B (sp.at_+i*(L e).1.1)=sp.at_+i*(L e).1.1 from bo]at hw;rw[d]at c;rw[A,d]at hk;obtain⟨u,hu,m,n⟩:=Dg hG y r e _ out q (a+i*(L e).1.1) s (λj O=>hi j (acp _ O)) hw c hk (by omega) (by omega) (by show sp.at_+_=_;omega) U rfl;have P:=ze e s (a+i*(L e).1.1) (by omega) (by omega) u hu;refine⟨u,?_,m,n⟩;obtain⟨ae,z2,z3⟩:=P;obtain⟨k,rfl⟩:∃k:Nat,i=k:=⟨i.toNat,by omega⟩
       cases t with
       | mk kind size packed Y bg aK=>have he:aK=e::K:=he;have b:kind=5:=b;have w:(k:Int)+1<=bg:=w;rw[ba,bL,ab b,he,f_,dN];refine aeN.2 ⟨k,aeO.2 ⟨aaU _,by omega⟩,?_⟩;rw[om,show B ((k:Int)*(L e).1.1)=(k:Int)*(L e).1.1 from bo,show B (a+(k:Int)*(L e).1.1)=a+(k:Int)*(L e).1.1 from bo];exact hu
  . rw [af (by rw[C];decide),f1]at hw;dsimp only at hw;rw[f2,f3]at hw;dsimp only at hw;obtain⟨S,s0,s1,ag,hf⟩:=Dc h b;have D:=MB (kind:=t.kind) ha (by omega) ⟨s0,by omega⟩ t.Y _ 0 (0,0) (adR _) hf (j5.zero _ _ _ _) n2 f s2 f2 f3;have E:=C6 h b f2 f3 l;obtain⟨ah,F,H⟩:=Df t.Y (cD t) 0 (adR _) hf n2 f s2 f2 f3;have Q:B (s2.at_+sp.at_)=s2.at_+sp.at_:=bo;rw[Q]at hw;rw[d]at c;rw[A,d]at hk;have R:ba t a=(eZ t.kind a t.Y (cD t) (0,0)).2++gv (eZ t.kind a t.Y (cD t) (0,0)).1:=by
     cases t with
     | mk kind size packed Y bg aK=>have b:kind=3\/kind=4:=b;rw[ba,bL,bL]
    rw[R];have T:=l.zero;by_cases g:f.bits=acI
    ·
      have o:s2.bits=acI:=(H g).1;have V:0<f.aQ:=by have:=(H g).2;have:=MG h b z C f1 f2 g;omega
      have W:r=[]:=by
       have ai:f.type.kind=1:=(E.bits o).1;cases r with
       |nil=>rfl
       | cons aj ak=>
        obtain⟨g1,_⟩:=j0 c;rcases kv l g1 with⟨_,al,_⟩|⟨_,am,_⟩
        ·omega
        ·omega
      subst W;rw[eY,aaC.injEq]at hw;subst hw;obtain⟨u,hu,m,n⟩:=D.2 g V;exact⟨u,hu,by show G+u.1<=s2.at_+sp.at_;omega,by show s2.at_+sp.at_+s2.len<=_;omega⟩
    . have x:f.bits=acJ:=by simpa using g
      have o:s2.bits=acJ:=(F x).1;have Z:s2.len=(L f.type).1.1:=by rw[E.len o,T]
      obtain⟨u,hu,m,n⟩:=Dg hG y r f.type _ out idx (s2.at_+a) l hi hw c hk (by omega) (by have:=(F x).2;omega) (by show s2.at_+sp.at_=_;omega) o Z;exact⟨u,D.1 x u hu,m,n⟩
end Rb
namespace Rb
open Go
def oF(s:Int×Int):Bool:=decide (s.1>=0)&&decide (s.1<=1099511627776)&&decide (s.2>=0)&&decide (s.2<=1048576)
def gx(s:Int×Int):Int×Int:=if oF s=acI then(s.1,B (s.1+s.2))else(0,0)
def qc(b c:Int×Int):Int×Int:=if max b.1 c.1>=min b.2 c.2 then(0,0)else(max b.1 c.1,min b.2 c.2)
def jq(a b:Int×Int):Bool:=(gx a).1==(gx a).2||(qc (gx a) (gx b)==gx a)
theorem within_iff{a b:Int×Int}(ha:0<=a.1/\a.1<=1099511627776/\1<=a.2/\a.2<=1048576)(U:0<=b.1/\b.1<=1099511627776/\0<=b.2/\b.2<=1048576):jq a b=acI↔b.1<=a.1/\a.1+a.2<=b.1+b.2:=by
 have e1:gx a=(a.1,a.1+a.2):=by unfold gx oF;rw[oQ,show B (a.1+a.2)=a.1+a.2 from bo]
 have d:gx b=(b.1,b.1+b.2):=by unfold gx oF;rw[oQ,show B (b.1+b.2)=b.1+b.2 from bo]
 unfold jq;rw[e1,d];unfold qc;dsimp only;rw[aas,bZ,bZ];constructor
 . rintro (h|h)
   ·omega
   . split at h
     . have h1:=congrArg ac2 h;have c:=congrArg aeS h;dsimp only at h1 c;omega
     . have h1:=congrArg ac2 h;have c:=congrArg aeS h;dsimp only at h1 c;omega
 . intro h;right;rw[bL];exact aez (by dsimp only;omega) (by dsimp only;omega)
def iz(s a x:Int×Int):Int×Int:=if jq s x=acI/\(a.2=0\/x.2<a.2)then x else a
def mJ(l:List (Int×Int))(s:Int×Int):Int×Int:=l.foldl (iz s) (0,0)
theorem Dh{s:Int×Int}:∀(l:List (Int×Int)) (o:Int×Int),(∀x∈l,1<=x.2)->(l.foldl (iz s) o=o\/(l.foldl (iz s) o∈l/\jq s (l.foldl (iz s) o)=acI))/\(o.2=0->(∃x∈l,jq s x=acI)->l.foldl (iz s) o∈l/\jq s (l.foldl (iz s) o)=acI)
 |[],o,h=>⟨.inl rfl,λ_ ⟨x,a,_⟩=>by cases a⟩
 | y :: r,o,h=>by
  rw[List.foldl_cons];have b:∀x∈r,1<=x.2:=λx a=>h x (acp _ a);have g:=h y (acs ..);by_cases hc:jq s y=acI/\(o.2=0\/y.2<o.2)
  . have e:iz s o y=y:=ab hc;rw[e];obtain⟨i1,_⟩:=Dh r y b;have:r.foldl (iz s) y∈y::r/\jq s (r.foldl (iz s) y)=acI:=by
     rcases i1 with i1|⟨i1,i2⟩
     ·rw[i1];exact⟨acs ..,hc.1⟩
     ·exact⟨acp _ i1,i2⟩
    exact⟨.inr this,λ_ _=>this⟩
  . have e:iz s o y=o:=af hc;rw[e];obtain⟨i1,i2⟩:=Dh r o b;refine⟨i1.imp id λh=>⟨acp _ h.1,h.2⟩,λc ⟨x,a,hw⟩=>?_⟩;rcases aco.1 a with rfl|a
    ·exact absurd ⟨hw,.inl c⟩ hc
    . obtain⟨d,f⟩:=i2 c ⟨x,a,hw⟩;exact⟨acp _ d,f⟩
theorem WT{l:List (Int×Int)}{s:Int×Int}(hl:∀x∈l,1<=x.2)(h:∃x∈l,jq s x=acI):mJ l s∈l/\jq s (mJ l s)=acI:=(Dh l (0,0) hl).2 rfl h
def fI:List aB->List bj->Option (List (Int×Int))
 |v::r,g::s=>if(e4 v.type).2≠0 then acL else(fI r s).map λl=>(e4 v.type).1.map (λx=>(B (g.at_+x.1),x.2))++l
 |_,_=>acK []
def cp(vars:List aB)(a:List UInt8)(done:List aI):List aI->List Int
 |[]=>[]
 |p::r=>(if p.aS=[]then []else [kt vars ⟨a,done⟩])++cp vars a (done++[p]) r
def gN:List Int->Int->Option Int
 |[],a=>acK a
 |n::r,a=>if B (a*n)>4096 then acL else gN r (B (a*n))
def cB:List Int->List (List Int)
 |[]=>[[]]
 |n::r=>(List.range n.toNat).flatMap λ(i:Nat)=>(cB r).map λl=>(i:Int)::l
def eX(k:Int):Bool:=(decide (k>=3)&&decide (k<=6))||(decide (k>=16)&&decide (k<=18))
end Rb
