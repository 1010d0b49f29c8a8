/- A part of the proof (part 6): see the last text. -/
import Derived.Test.YtncnnojgkgceiaaGreatDoorRb5
import Derived.Test.YtncnnojgkgceiaaGreatDoorRb4
import Derived.Below
import Derived.Shelf.SlSortCmp.NoneTotal
import Derived.Test.YtncnnojgkgceiaaGreatDoorRb2
import Derived.Sort.Grow
import Derived.Deep.Draws
import Derived.Test.YtncnnojgkgceiaaGreatDoorRb3
import Derived.Test.YtncnnojgkgceiaaGreatDoorChecked
set_option linter.unusedVariables false
set_option linter.unusedSimpArgs false
set_option linter.unusedSectionVars false
open Array renaming getElem?_append_left→aft, getElem?_eq_some_iff→abd, getElem?_mapIdx→afs, getElem?_modify→abi
open Bool renaming and_eq_true→aaz, false_eq_true→acq
open Decidable renaming not_not→ad8
open Go.IntKind renaming wrap→abF
open Go.Proofs.SlLaysF renaming n6→afu
open Go.Sort renaming ahead→afr
open Go.World renaming cell?→afq
open Int renaming le_refl→aeQ, toNat_natCast→abG
open List renaming all_cons→adk, append_assoc→aeI, append_nil→aee, drop_succ_cons→adA, drop_zero→ad3, eq_nil_of_length_eq_zero→afk, filter_cons→afn, flatMap_append→afd, flatMap_cons→adR, flatMap_singleton→afi, flatten_cons→abA, getElem?_append_left→ab8, getElem?_append_right→ab9, getElem?_cons_succ→adX, getElem?_cons_zero→adW, getElem?_drop→aaw, getElem?_eq_getElem→abm, getElem?_eq_some_iff→aat, getElem?_map→abl, getElem?_replicate→adh, getElem?_take_of_lt→acx, getElem_mem→abu, length_append→ad9, length_cons→aeO, length_eq_one_iff→aeF, length_map→ac6, length_replicate→afo, length_set→acT, length_singleton→ae2, length→afg, map_append→ae8, mem_append→acN, mem_cons_of_mem→acV, mem_cons_self→acW, mem_cons→acU, mem_of_getElem?→adl, mem_singleton→afh, nil_append→afa, not_mem_nil→afp, replicate_succ→abz, replicate→VR, take_append_of_le_length→aea, take_of_length_le→aeb
open Nat renaming add_comm→afm, add_zero→aa6, eq_zero_or_pos→adY, le_add_right→afl, le_refl→hT, le_succ→aa_, le_trans→np, lt_of_lt_of_le→sl, lt_succ_self→adn, ne_of_lt→abe, strongRecOn→afj, zero_add→abg, zero_le→aa2
open Option renaming map_none→aex, map_some→aaL, map→adp, some→aaK
open Prod renaming fst→adT
namespace Rb
open Go
variable{a b n r l:Int}{R:Nat}
theorem cN(n:Nat):((n:Int)+1)=((n+1:Nat):Int):=by simp
theorem LI:∀(L:List (List UInt8×Nat)) (k:Nat) (l:List UInt8×Nat),L[k]?=some l→((L.flatMap iL).drop (k*2)).take 2=iL l
 |[],k,l,h=>by simp at h
 | x::r,0,l,h=>by simp at h;subst h;rfl
 | x::r,k+1,l,h=>by have:=LI r k l (by simpa using h);rw[show(k+1)*2=k*2+2 by omega];exact this
def EX(id:Nat)(vars:List B)(wh xl:J)(H:AH)(c:LD)(w:Nat)(k:List dk)(Q:ab):Prop:=∀(r:Int)(c':LD)(H':AH),KR id H H'→bB H' id vars wh xl c'→GE c c' w k→cX c'.K r→Q (.int .i64 r) H'
def EU(id:Nat)(vars:List B)(wh xl:J)(H:AH)(c:LD)(w:Nat)(k:List dk)(Q:ab):Prop:=∀(c':LD)(H':AH),KR id H H'→bB H' id vars wh xl c'→GE c c' w k→Q (.ar []) H'
theorem il{R S:Nat}{k d d2 a b c n o z r t s l:Int}(f:1≤k)(g:k≤18)(h:cX R d)(i:cX R d2)(j:cX R a)(m:cX R b)(hc:cX R c)(hs:k<4∨13<k∨(1≤s∧s≤(S:Nat)))(p:k<4∨10<k∨z=1∨z=2∨z=4∨z=8):hh R S ⟨k,d,d2,a,b,c,n,o,z,r,t,s,l⟩:=⟨f,g,h,i,j,m,hc,λe1 e=>by have e1:4≤k:=e1;have e:k≤13:=e;show 1≤s∧s≤_;omega,λe1 e=>by have e1:4≤k:=e1;have e:k≤10:=e;show z=1∨z=2∨z=4∨z=8;omega⟩
theorem kj{k d d2 a b c n o z r t s l:Int}(h:k<14∨16<k):l5 ⟨k,d,d2,a,b,c,n,o,z,r,t,s,l⟩:=λe=>by have e1:14≤k:=e.1;have f:k≤16:=e.2;omega
theorem cg:cX R (-1):=cX.none R
theorem iN{R n:Nat}(h:n<R):cX R (n:Int):=⟨by omega,by omega⟩
section
variable{C:Ctx}(aj:bX C)(Z:Cl (ae C) S.bg){id:Nat}{vars:List B}{wh xl:J}{c:LD}{H0 H:AH}{Q:ab}{w:Nat}
include aj Z
theorem oe(h:bB H id vars wh xl c)(a:BD c (w+1))(b:∀H',KR id H H'→bB H' id vars wh xl {c with K:=c.K+1}→Q (.int .i64 (c.K:Nat)) H'):ae C 78 [.ptr id 0] H Q:=by
 have f:=a.r;refine S.RG Z ?_;unfold S.f78;have d:abF .i64 ((c.K:Int)+1)=((c.K+1:Nat):Int):=by rw[bJ,cN]
 have e:abF .i64 (((c.K+1:Nat):Int)-1)=(c.K:Int):=by rw[bJ];simp
 obtain⟨H1,e1,k1,h1⟩:=h.own (k:=3) (c':={c with K:=c.K+1}) (n:=((c.K+1:Nat):Int)) (.inl ⟨rfl,rfl,aa_ _,rfl,rfl⟩) rfl rfl rfl rfl;simp only[aC,aa,abg,X,h.qS,br,d,e1,h1.qS,cM,e];exact b H1 k1 h1
theorem x0(h:bB H id vars wh xl c)(a:BD c (w+1))(b:∀H',KR id H H'→bB H' id vars wh xl {c with labels:=c.labels+1}→Q (.int .i64 ((c.labels+1:Nat):Int)) H'):ae C 139 [.ptr id 0] H Q:=by
 have e:=a.l;refine S.SC Z ?_;unfold S.f139;have d:abF .i64 ((c.labels:Int)+1)=((c.labels+1:Nat):Int):=by rw[bJ,cN]
 obtain⟨H1,e1,k1,h1⟩:=h.own (k:=4) (c':={c with labels:=c.labels+1}) (n:=((c.labels+1:Nat):Int)) (.inr (.inl ⟨rfl,rfl,rfl,rfl⟩)) rfl rfl rfl rfl;simp only[aC,aa,abg,X,h.kh,br,d,e1,h1.kh];exact b H1 k1 h1
theorem Cw(h:bB H id vars wh xl c)(a:BD c (w+1))(n:Int)(e:EX id vars wh xl H c 1 [] Q):ae C 127 [.ptr id 0,.int .u64 n] H Q:=by refine S.Sp Z ?_;unfold S.f127;refine je aj Z h KR.refl λj H1 k1 h1 b1 r=>?_;refine oe aj Z h1 a λH2 k2 f=>?_;have b2:=b1.aO k2;have g:=k1.trans k2;simp only[aa,abg,X];refine b2.st f g (by decide) One.int λs i l b3 _=>?_;refine b3.st l i (by decide) One.int λt m o b _=>?_;rw[b.all];simp only[X];refine iM aj Z o (by have:=a.A;show c.A.length≤_;omega) ⟨1,c.K,-1,-1,-1,-1,n,0,0,0,0,0,0⟩ λp d q=>?_;rw[(b.aO d).ld (k:=1) rfl];simp only[X];exact e _ _ p (m.trans d) q (GE.Cv (il (by decide) (by decide) (iN (adn _)) cg cg cg cg (.inl (by decide)) (.inl (by decide))) (kj (.inl (by decide)))) (iN (adn _))
theorem sa(h:bB H id vars wh xl c)(d:BD c (w+1))(op:Int)(g:cX c.K a)(i:cX c.K b)(l:EX id vars wh xl H c 1 [] Q):ae C 128 [.ptr id 0,.int .i64 op,.int .i64 a,.int .i64 b] H Q:=by refine S.Sq Z ?_;unfold S.f128;refine je aj Z h KR.refl λj H1 k1 h1 b1 D=>?_;refine oe aj Z h1 d λH2 k2 m=>?_;have b2:=b1.aO k2;have n:=k1.trans k2;simp only[aa,abg,X];refine b2.st m n (by decide) One.int λE o p b3 _=>?_;refine b3.st p o (by decide) One.int λF q r s _=>?_;refine s.st r q (by decide) One.int λG t u v _=>?_;refine v.st u t (by decide) One.int λI x y e _=>?_;rw[e.all];simp only[X];refine iM aj Z y (by have:=d.A;show c.A.length≤_;omega) ⟨3,c.K,-1,a,b,-1,0,op,0,0,0,0,0⟩ λz f B=>?_;rw[(e.aO f).ld (k:=1) rfl];simp only[X];exact l _ _ z (x.trans f) B (GE.Cv (il (by decide) (by decide) (iN (adn _)) cg (g.mono (aa_ _)) (i.mono (aa_ _)) cg (.inl (by decide)) (.inl (by decide))) (kj (.inl (by decide)))) (iN (adn _))
theorem l9(h:bB H id vars wh xl c)(d:BD c (w+2))(op n:Int)(e:cX c.K a)(f:EX id vars wh xl H c 2 [] Q):ae C 136 [.ptr id 0,.int .i64 op,.int .i64 a,.int .u64 n] H Q:=by
 refine S.Sz Z ?_;unfold S.f136;have k1:S.AU (ae C) (.ptr id 0) (.int .i64 op) (.int .i64 a) (.int .u64 n) Q [] H:=by unfold S.AU;refine Cw aj Z (w:=w+1) h d n λr c1 H1 k1 h1 g1 r1=>?_;refine sa aj Z (w:=w) h1 (g1.bd (m:=w+1) (d.mono (by omega))) op (e.mono g1.r0) r1 λg c2 H2 k2 i g2 g=>?_;exact f _ _ _ (k1.trans k2) i (g1.trans g2) g
 have k2:∀b:Bool,S.nJ (ae C) (.ptr id 0) (.int .i64 op) (.int .i64 a) (.int .u64 n) Q [.bool b] H:=λb=>by unfold S.nJ;simp only[ay,F,aE];exact aB (λ_=>f _ _ _ KR.refl h ((GE.refl c).mono (aa2 _) rfl) e) (λ_=>k1)
 simp only[bL,X,cx,ck,aE]
 repeat' first|exact k2 _|apply aB<;>intro _
theorem sb(h:bB H id vars wh xl c)(a:BD c (w+2)){s:cm}{b al:Int}(e:cX c.K b)(d:EX id vars wh xl H c 2 [] Q):ae C 134 [.ptr id 0,.agg (s.cells++[.int .i64 b,.int .i64 al])] H Q:=by
 refine S.Sx Z ?_;unfold S.f134;have f:aM H false 8 (.agg (s.cells++[.int .i64 b,.int .i64 al]))=some (.ak (s.cells++[.int .i64 b,.int .i64 al]),H):=rfl;have g:W H 1 false (.ak [.int .i64 b,.int .i64 al])=some (.int .i64 b):=rfl;have l0:W H 1 false (.ak (s.cells++[.int .i64 b,.int .i64 al]))=some (.int .i64 s.at_):=rfl;rw[f];simp only[aK,show aa 6 (.ak (s.cells++[.int .i64 b,.int .i64 al]))=some (.ak [.int .i64 b,.int .i64 al])from rfl,show aa 0 (.ak (s.cells++[.int .i64 b,.int .i64 al]))=some (.ak (s.cells++[.int .i64 b,.int .i64 al]))from rfl,X,g,l0,bL,F,gz];apply aB<;>intro _
 ·exact Cw aj Z (w:=w+1) h a _ λr c1 H1 k1 h1 g1 r1=>d _ _ _ k1 h1 (g1.mono (by decide) rfl) r1
 ·exact l9 aj Z h a _ _ e d
theorem Cx(b:0≤n)(a:∀v,Q (.int .u64 v) H):ae C 137 [.int .i64 n] H Q:=by refine S.SA Z ?_;unfold S.f137;simp only[ec,X,F];refine aB (λ_=>a _) (λ_=>?_);rw[rz _ _ _ _ b];simp only[X,cM];exact a _
theorem x1(h:bB H id vars wh xl c)(d:BD c (w+1))(e:cX c.K a)(f:cX c.K b)(g:EU id vars wh xl H c 1 [] Q):ae C 79 [.ptr id 0,.int .i64 a,.int .i64 b] H Q:=by
 refine S.RH Z ?_;unfold S.f79;refine je aj Z h KR.refl λj H1 i h1 b1 s=>?_;simp only[aa,abg,X];refine b1.st h1 i (by decide) One.int λt k l b3 _=>?_;refine b3.st l k (by decide) One.int λu m n o _=>?_;rw[o.all];simp only[X];exact iM aj Z n (by have:=d.A;omega) ⟨2,a,-1,b,-1,-1,0,0,0,0,0,0,0⟩ λp q r=>g _ p (m.trans q) r (GE.add (il (by decide) (by decide) e cg f cg cg (.inl (by decide)) (.inl (by decide))) (kj (.inl (by decide))))
theorem x2(h:bB H id vars wh xl c)(a:BD c (w+1))(t:Int)(b:∀H',KR id H H'→bB H' id vars wh xl (c.add ⟨14,-1,-1,-1,-1,-1,0,0,0,0,t,0,0⟩)→Q (.ar []) H'):ae C 141 [.ptr id 0,.int .i64 t] H Q:=by refine S.SE Z ?_;unfold S.f141;refine je aj Z h KR.refl λj H1 d h1 b1 l=>?_;simp only[aa,abg,X];refine b1.st h1 d (by decide) One.int λm e f b3 _=>?_;rw[b3.all];simp only[X];exact iM aj Z f (by have:=a.A;omega) ⟨14,-1,-1,-1,-1,-1,0,0,0,0,t,0,0⟩ λg i k=>b g (e.trans i) k
theorem x3(h:bB H id vars wh xl c)(i:BD c (w+1))(t:Int)(m:cX c.K r)(k:∀o H',KR id H H'→o.cW=t→(o.kind=15∨o.kind=16)→hh c.K c.sn o→bB H' id vars wh xl (c.add o)→Q (.ar []) H'):ae C 140 [.ptr id 0,.int .i64 t,.int .i64 r] H Q:=by
 refine S.SD Z ?_;unfold S.f140;refine je aj Z h KR.refl λj H1 l h1 b1 x=>?_;simp only[aa,abg,X,dA,F,aE];apply aB<;>intro _
 · refine b1.st h1 l (by decide) One.int λy n p b3 _=>?_;refine b3.st p n (by decide) One.int λz q s u _=>?_;unfold S.wm;simp only[aa,abg,X];refine u.st s q (by decide) One.int λv a b d _=>?_;rw[d.all];simp only[X];exact iM aj Z b (by have:=i.A;omega) ⟨16,-1,-1,r,-1,-1,0,0,0,0,t,0,0⟩ λe f g=>k _ e (a.trans f) rfl (.inr rfl) (il (by decide) (by decide) cg cg m cg cg (.inr (.inl (by decide))) (.inr (.inl (by decide)))) g
 · unfold S.wm;simp only[aa,abg,X];refine b1.st h1 l (by decide) One.int λv a b d _=>?_;rw[d.all];simp only[X];exact iM aj Z b (by have:=i.A;omega) ⟨15,-1,-1,-1,-1,-1,0,0,0,0,t,0,0⟩ λe f g=>k _ e (a.trans f) rfl (.inl rfl) (il (by decide) (by decide) cg cg cg cg cg (.inr (.inl (by decide))) (.inr (.inl (by decide)))) g
theorem LJ(h:bB H id vars wh xl c)(q:BD c (w+1))(k o:Int){Y b:J}(m:dk)(r:m.cells = .int .i64 k :: .int .i64 o :: .int .i64 c.V::[Y,b])(u:Y.scalar=true)(v:b.scalar=true)(z:∀H' c',KR id H H'→bB H' id vars wh xl c'→GE c c' 1 [m]→c'.K=c.K→c'.sn=c.sn+1→Q (.int .i64 ((c.sn+1:Nat):Int)) H'):ae C 85 [.ptr id 0,.int .i64 k,.int .i64 o,.agg [Y,b]] H Q:=by
 have hs:=q.s;refine S.RO Z ?_;unfold S.f85;obtain⟨xo,xs,a,h1,p,A⟩:=h.x;have B:W H 1 false (.ptr id 5)=some xs:=by rw[a.load];rfl
 have D:W H 2 true (.ak [Y,b])=some (.agg [Y,b]):=rfl;rw[show aM H false 2 (.agg [Y,b])=some (.ak [Y,b],H)from rfl];simp only[aK,aC,aa,abg,X,h.ln,B,D];rw[show aD [.int .i64 0,.int .i64 0,.int .i64 0,.str [],.ax .nil 0 []] [(0,1,.int .i64 k),(1,1,.int .i64 o),(2,1,.int .i64 c.V),(3,2,.agg [Y,b])]=some (.agg (.int .i64 k :: .int .i64 o :: .int .i64 c.V::[Y,b]))from rfl];simp only[X];rw[show cb H false 5 1 [.int .i64 0,.int .i64 0,.int .i64 0,.str [],.ax .nil 0 []] [(0,5,.agg (.int .i64 k :: .int .i64 o :: .int .i64 c.V::[Y,b]))]=some (.ax .full 1 (.int .i64 k :: .int .i64 o :: .int .i64 c.V::[Y,b]),H)from rfl];simp only[aK];refine p.La (by have:=a.1;omega) (m:=1) (news:= .int .i64 k :: .int .i64 o :: .int .i64 c.V::[Y,b]) rfl rfl (by show(true&&(true&&(true&&(Y.scalar&&(b.scalar&&true)))))=true;rw[u,v];rfl) (by decide) (by omega) (by omega) λE nD F hk=>?_;have g:∀i ds,At H i (.row ds)→At E i (.row ds):=λi ds hi=>hk i _ hi λl cs e=>by
  subst e;obtain⟨tk,e1,_,f⟩:=p;cases e1;rcases f with⟨e,_⟩|e|⟨t,e,_,f⟩
  ·cases e
  ·cases e
  ·cases e;exact absurd (f.2.symm.trans hi.2) (by intro e;cases e)
 have a3:=g _ _ a;rw[a3.st1 (by show 5<8;decide) ⟨rfl,rfl,rfl⟩];simp only[X];have a4:=a3.set (.row ((jd vars wh xo xs xl c).set 5 (.ax (.own H.n) (c.sn+1) (c.sc++(.int .i64 k :: .int .i64 o :: .int .i64 c.V::[Y,b])))));rw[a4.load,show bE ((jd vars wh xo xs xl c).set 5 (.ax (.own H.n) (c.sn+1) (c.sc++(.int .i64 k :: .int .i64 o :: .int .i64 c.V::[Y,b])))) 5 1 false=some (.ax (.own H.n) (c.sn+1) (c.sc++(.int .i64 k :: .int .i64 o :: .int .i64 c.V::[Y,b])))from rfl];simp only[X,show ∀(tk:Tok)(n:Nat)(cs:List J),aY false (.ax tk n cs)=some (.int .i64 n)from λ_ _ _=>rfl];refine z _ {c with sn:=c.sn+1,sc:=c.sc++(.int .i64 k :: .int .i64 o :: .int .i64 c.V::[Y,b])} (KR.trans ⟨Nat.le_of_lt F,λi ds _=>g i ds⟩ (KR.set _)) ⟨⟨xo,_,a4,?_,nD.frame λt _ _ h=>h.cd (h.ne a3 (by intro e;cases e)) _,λt l c1 e l2 c2 f=>?_⟩,(h.l.aO λi cs _=>g i cs).set h.r_ _,h.ld,h.lo⟩
  ⟨⟨[],(aee _).symm,aa2 _,λ_ G=>by cases G⟩,hT _,aa_ _,rfl,by rw[afi,r],hT _,rfl,rfl,rfl⟩ rfl rfl
 ·exact h1.LH λt l d x y e ht=>(hk t _ ht λl1 c1 e1=>A t l d e _ _ e1).cd (ht.ne a (by intro e;cases e)) _
 · cases f;obtain⟨tk,e1,_,j⟩:=h1;rw[e]at e1;cases e1;rcases j with⟨e,_⟩|e|⟨t,e,_,j⟩
   ·cases e
   ·cases e
   ·cases e;have:=j.1;omega
theorem sd(h:bB H id vars wh xl c)(hl:c.V=l)(a:BD c (w+1))(k o:Int)(b:k≠7)(x:ba)(d:∀H' c',KR id H H'→bB H' id vars wh xl c'→GE c c' 1 [⟨k,o,l,x⟩]→c'.K=c.K→c'.sn=c.sn+1→Q (.int .i64 ((c.sn+1:Nat):Int)) H'):ae C 85 [.ptr id 0,.int .i64 k,.int .i64 o,.agg x.cells] H Q:=by rw[ba.bQ];exact LJ aj Z h a k o ⟨k,o,l,x⟩ (by unfold dk.cells;rw[ai b,ba.bQ,hl]) rfl rfl d
theorem x4(h:bB H id vars wh xl c)(m:BD c w){E:List UInt8}(n:E∈c.L.map adT)(o:∀r:Int,cX c.K r→Q (.int .i64 r) H):ae C 80 [.ptr id 0,.str E] H Q:=by
 have B:=m.L;refine S.RJ Z ?_;unfold S.f80;have p:aM H false 1 (.str E)=some (.ak [.str E],H):=rfl;simp only[p,aK,aC,aa,abg,h.lcs,X];refine S.Su Z ?_;unfold S.f131;simp only[h.l.len,X];have main:∀(r:List (List UInt8×Nat)) (k:Nat),c.L.drop k=r→E∈r.map adT →
   av (S.AR (ae C) xl (.fn 132 [.ak [.str E]]) (.int .i64 c.L.length) (λq a=>Do (W a 1 false (.ptr id 7)) λs=>Do (aL none 2 s q) λt=>Do (aa 1 t) λu=>Do (W a 1 false u) λv=>Q v a)) ([.int .i64 k],H):=by
  intro r;induction r with
  |nil=>intro k d he;simp at he
  | cons l r x=>
   intro k d he;obtain⟨hk,f,y⟩:=eN d;obtain⟨j,cs,D,g,i,z,G⟩:=h.l.addr hk;have b:=LI c.L k l f;rw[←z,List.drop_take,List.take_take,Nat.min_eq_left (by omega)]at b;refine av.step ?_;simp only[S.AR,ay,aU,X,F];rw[fc];simp only[i,X,g.load];rw[show bE cs (k*2) 2 true=some (.agg (iL l)) by unfold bE;rw[cA,af rfl,b]];simp only[X];refine⟨132,[.ak [.str E]],rfl,?_⟩;rw[yz rfl,yA rfl];show ae C 132 [.agg (iL l),.ak [.str E]] H _;refine S.Sv Z ?_;unfold S.f132;have A:aM H false 2 (.agg (iL l))=some (.ak (iL l),H):=by unfold aM;rw[af ⟨rfl,rfl⟩];rfl
   have l0:W H 1 false (.ak (List.drop 0 (iL l)))=some (.str l.1):=rfl;have l1:W H 1 false (.ak [.str E])=some (.str E):=rfl;simp only[A,aK,aa,X,l0,l1,jH,F];apply aB<;>intro e
   · simp only[h.lcs,X,i,aa,g.load];rw [show bE cs (k*2+1) 1 false=some (.int .i64 (l.2:Nat)) by
       have:cs[k*2+1]?=some (.int .i64 (l.2:Nat)):=by rw[←aaw,←acx (show 1<2 by decide),b];rfl
       unfold bE;rw[cA,dC,this]]
     simp only[X];exact o _ (iN (h.lo l (adl f)))
   · simp only[br,X];rw[bJ,cN];refine x (k+1) y ?_;rcases acU.1 he with he|he
     ·exact absurd (by simp[←he]) e
     ·exact he
 exact main c.L 0 rfl n
end
end Rb

namespace Rb
open Go
def P2(r:Int):Prop:=r=1∨r=2∨r=4∨r=8∨r=16
def P8(r:Int):Prop:=r=1∨r=2∨r=4∨r=8
theorem P2.pos{r:Int}(h:P2 r):1≤r∧r≤16:=by unfold P2 at h;omega
theorem P2.half{r:Int}(h:P2 r)(a:1<r):P2 (r/2)∧r/2<r∧M .quo (.int .i64 r) (.int .i64 2)=some (.int .i64 (r/2)):=by
 rcases h with rfl|rfl|rfl|rfl|rfl
 ·omega
 all_goals exact⟨by unfold P2;omega,by omega,by rw[k0 _ _ _ (by decide)];rfl⟩
theorem P2.ind{P:Int→Prop}(h:∀r,P2 r→(1<r→P (r/2))→P r):∀r,P2 r→P r:=by have p1:=h 1 (.inl rfl) (λe=>absurd e (by decide));have p2:=h 2 (.inr (.inl rfl)) (λ_=>p1);have a:=h 4 (.inr (.inr (.inl rfl))) (λ_=>p2);have b:=h 8 (.inr (.inr (.inr (.inl rfl)))) (λ_=>a);have d:=h 16 (.inr (.inr (.inr (.inr rfl)))) (λ_=>b);intro r c;rcases c with rfl|rfl|rfl|rfl|rfl<;>assumption
def dR(p:Int×Int):List J:=[.int .i64 p.1,.int .i64 p.2]
def LK(x:J)(l:List (Int×Int)):Prop:=∃tk,x = .ax tk l.length (l.flatMap dR)
section
variable{C:Ctx}(aj:bX C)(Z:Cl (ae C) S.bg){H:AH}{Q:ab}
include aj Z
theorem Cy{n m:Int}(d:P2 m)(f:∀r,P2 r→r≤m→Q (.int .i64 r) H):ae C 175 [.int .i64 n,.int .i64 m] H Q:=by
 refine S.SZ Z ?_;unfold S.f175;have main:∀r,P2 r→(r≤m→av (S.wH (ae C) (.int .i64 n) Q) ([.int .i64 r],H)):=by
  refine P2.ind λr a g hle=>av.step ?_;simp only[S.wH,ay,dy,X,cx,aE];have k2:∀b:Bool,(b=true→1<r)→S.wG (ae C) ([.int .i64 r],H) (av (S.wH (ae C) (.int .i64 n) Q)) Q [.bool b] H:=λb c=>by unfold S.wG;simp only[ay,F,aE];refine aB (λe=>?_) (λ_=>f r a hle);unfold S.IK;obtain⟨_,i,h⟩:=a.half (c e);simp only[ay,h,X];exact g (c e) (by omega)
  refine aB (λe=>?_) (λe=>k2 false (λe=>by cases e));rw[nN _ _ _ (by have:=a.pos;omega)];simp only[X,dA];exact k2 _ λ_=>by simpa using e
 exact main m d (aeQ _)
theorem WN{c len:Int}(hl:len≤16)(y:∀l x H',AH.Ext H H'→LK x l→(∀p∈l,P8 p.2)→l.length≤16→Q x H'):ae C 197 [.agg [.int .i64 c,.int .i64 len]] H Q:=by
 refine S.Tc Z ?_;unfold S.f197;have I:∀H',AH.Ext H H'→Q (.ax .nil 0 []) H':=λH' E=>y [] _ H' E ⟨.nil,rfl⟩ (λp f=>by cases f) (aa2 _);have j:aM H true 2 (.agg [.int .i64 c,.int .i64 len])=some (.ptr H.n 0,H.push (.row [.int .i64 c,.int .i64 len])):=rfl;rw[j];simp only[aK];have s:=AH.Ext.push H (.row [.int .i64 c,.int .i64 len]);have r1:=At.new H (.row [.int .i64 c,.int .i64 len]);rw[r1.all (n:=2) rfl];simp only[X];generalize H.push (.row [.int .i64 c,.int .i64 len])=H1 at *;have l0:W H1 1 false (.ptr H.n 0)=some (.int .i64 c):=by rw[r1.load];rfl
 have l1:W H1 1 false (.ptr H.n 1)=some (.int .i64 len):=by rw[r1.load];rfl
 have loop : ∀(n:Nat)(a len:Int)(x:J)(l:List (Int×Int)) (H2:AH),len.toNat=n→AH.Ext H H2→At H2 H.n (.row [.int .i64 a,.int .i64 len])→len≤16→cH H.n H2 2 x l.length (l.flatMap dR)→(∀p∈l,P8 p.2)→(l.length:Int)+len.toNat≤16→av (S.pR (ae C) (.ptr H.n 0) Q) ([x],H2):=by
  intro n;induction n using afj with
  | _ n K =>
   intro a len x l H2 al g u am z f hc;have m0:W H2 1 false (.ptr H.n 0)=some (.int .i64 a):=by rw[u.load];rfl
   have m1:W H2 1 false (.ptr H.n 1)=some (.int .i64 len):=by rw[u.load];rfl
   refine av.step ?_;simp only[S.pR,aa,abg,m1,X,dy,F,ay];apply aB<;>intro e
   · have an:0<len:=by simpa using e
     have inner:∀r,P2 r→(r≤8→av (S.w5 (ae C) (.ptr H.n 0) ([x],H2) (av (S.pR (ae C) (.ptr H.n 0) Q)) Q) ([.int .i64 r],H2)):=by
      refine P2.ind λr d L hle=>av.step ?_;simp only[S.w5,aa,abg,m0,m1,X,dy,ck,aE,ay];have A:∀b:Bool,(b=true→1<r)→(b=false→r≤len)→S.w4 (ae C) (.ptr H.n 0) ([x],H2) (av (S.pR (ae C) (.ptr H.n 0) Q)) ([.int .i64 r],H2) (av (S.w5 (ae C) (.ptr H.n 0) ([x],H2) (av (S.pR (ae C) (.ptr H.n 0) Q)) Q)) Q [.bool b] H2:=λb j v=>by
       unfold S.w4;simp only[ay,F,aE];apply aB<;>intro e
       · unfold S.I_;obtain⟨_,ao,N⟩:=d.half (j e);simp only[ay,N,X];exact L (j e) (by omega)
       · have ap:=v (by simpa using e);have O:P8 r:=by unfold P2 at d;unfold P8;omega
         unfold S.Ja;simp only[ay,aa,abg,m0,X];rw[show aD [.int .i64 0,.int .i64 0] [(0,1,.int .i64 a),(1,1,.int .i64 r)]=some (.agg (dR (a,r)))from rfl];simp only[X];rw[show cb H2 false 2 1 [.int .i64 0,.int .i64 0] [(0,2,.agg (dR (a,r)))]=some (.ax .full 1 (dR (a,r)),H2)from rfl];simp only[aK];refine z.app g.1 (m:=1) (news:=dR (a,r)) rfl rfl rfl (by decide) (by omega) (by omega) λP k R w=>?_;have q:=w.row u;have T:AH.Ext H k:=⟨np g.1 w.1,λi hi=>((w.2 i (H2.o i) ⟨sl hi g.1,rfl⟩ (.inl hi)).2).trans (g.2 i hi)⟩
         have m3:W k 1 false (.ptr H.n 0)=some (.int .i64 a):=by rw[q.load];rfl
         simp only[m3,X,br];rw[q.st1 (by show 0<2;decide) One.int];have r4:=q.set (.row ([.int .i64 a,.int .i64 len].set 0 (.int .i64 (abF .i64 (a+r)))));have U:=T.set (hT _) (.row ([.int .i64 a,.int .i64 len].set 0 (.int .i64 (abF .i64 (a+r)))));have V:=R.frame (H':=k.set H.n (.row ([.int .i64 a,.int .i64 len].set 0 (.int .i64 (abF .i64 (a+r)))))) (λt _ _ h=>h.cd (h.ne q (by intro e;cases e)) _);simp only[X];generalize k.set H.n (.row ([.int .i64 a,.int .i64 len].set 0 (.int .i64 (abF .i64 (a+r)))))=Y at *;have m4:W Y 1 false (.ptr H.n 1)=some (.int .i64 len):=by rw[r4.load];rfl
         simp only[m4,X,cM];rw[wrap_i64 (n:=len-r) (by have:=d.pos;omega) (by have:=d.pos;omega),r4.st1 (by show 1<2;decide) One.int];simp only[X];refine K (len-r).toNat (by have:=d.pos;omega) (abF .i64 (a+r)) (len-r) P (l++[(a,r)]) _ rfl (U.set (hT _) _) (r4.set _) (by have:=d.pos;omega) ?_ (λp ab=>?_) (by have:=d.pos;rw[ad9,ae2];omega)
         · rw[ad9,afd,afi];exact V.frame λt _ _ h=>h.cd (h.ne r4 (by intro e;cases e)) _
         · rcases acN.1 ab with h|h
           ·exact f p h
           ·rw[afh.1 h];exact O
      apply ie<;>intro e
      · have ac:r≤len:=by simpa using e
        rw[nN _ _ _ (by have:=d.pos;omega)];simp only[X,dA];refine A _ (λe1=>?_) (λ_=>ac);have:=d.pos;by_cases h1:r=1
        ·subst h1;simp at e1
        ·omega
      ·exact A true (λ_=>by have:len<r:=(by simpa using e);omega) (λe=>by cases e)
     exact inner 8 (.inr (.inr (.inr (.inl rfl)))) (aeQ _)
   · obtain⟨tk,ad,_⟩:=z;exact y l x H2 g ⟨tk,ad⟩ f (by omega)
 have af:S.Ba (ae C) (.ptr H.n 0) Q [] H1:=by
  unfold S.Ba;by_cases aq:0≤len
  ·exact loop len.toNat c len _ [] H1 rfl s r1 hl (cH.nil _ _ _) (λp f=>by cases f) (by simp;omega)
  ·exact loop len.toNat c len _ [] H1 rfl s r1 hl (cH.nil _ _ _) (λp f=>by cases f) (by simp;omega)
 have B:∀b:Bool,S.w6 (ae C) (.ptr H.n 0) Q [.bool b] H1:=λb=>by unfold S.w6;simp only[ay,F,aE];exact aB (λ_=>I H1 s) (λ_=>af)
 have D:∀b:Bool,S.pS (ae C) (.ptr H.n 0) Q [.bool b] H1:=λb=>by unfold S.pS;simp only[ay,ck,aE,aa,abg,l0,l1,X,br,dy];exact aB (λ_=>B _) (λ_=>B _)
 have snd:∀b:Bool,Do (cC .not (.bool b)) λag=>aN ag false (Do (aa 1 (.ptr H.n 0)) λah=>Do (W H1 1 false ah) λai=>Do (M .gtr ai (.int .i64 64)) λaj=>G (S.pS (ae C) (.ptr H.n 0) Q) [aj] H1) (G (S.pS (ae C) (.ptr H.n 0) Q) [.bool true] H1) False:=λb=>by simp only[dO,X,ck,aa,abg,l1,dy,aE];exact aB (λ_=>D _) (λ_=>D _)
 refine S.Tf Z ?_;unfold S.f203;have v:aM H1 false 2 (.agg [.int .i64 c,.int .i64 len])=some (.ak [.int .i64 c,.int .i64 len],H1):=rfl;have s0:W H1 1 false (.ak [.int .i64 c,.int .i64 len])=some (.int .i64 c):=rfl;have s1:W H1 1 false (.ak [.int .i64 len])=some (.int .i64 len):=rfl;rw[v];simp only[aK,show aa 0 (.ak [.int .i64 c,.int .i64 len])=some (.ak [.int .i64 c,.int .i64 len])from rfl,show aa 1 (.ak [.int .i64 c,.int .i64 len])=some (.ak [.int .i64 len])from rfl,X,s0,s1,ec,gy,cx,aE,S.Bd,S.Bc,ay]
 repeat' first|exact snd _|apply aB<;>intro _
end
end Rb

namespace Rb
open Go
theorem Cz{tk:Tok}{l:List (Int×Int)}{i:Nat}{p:Int×Int}(h:l[i]?=some p)(H:AH):∃a,aL none 2 (.ax tk l.length (l.flatMap dR)) (.int .i64 i)=some a∧W H 2 true a=some (.agg (dR p)):=⟨_,dF (cells:=dR) (aat.1 h).1,eh (cells:=dR) (λ_=>rfl) (by decide) H h⟩
theorem Left.ext{n0:Nat}{H0 H H':AH}(b:H0.n=n0)(E:AH.Ext H0 H)(a:Left n0 H H'):AH.Ext H0 H':=⟨np E.1 a.1,λi hi=>((a.2 i (H.o i) ⟨sl hi E.1,rfl⟩ (.inl (by omega))).2).trans (E.2 i hi)⟩
def cU(s:cm)(b al:Int):List J:=s.cells++[.int .i64 b,.int .i64 al]
section
variable{s:cm}{b al:Int}
theorem CA(H:AH):aM H false 8 (.agg (cU s b al))=some (.ak (cU s b al),H):=rfl
theorem x5:aa 0 (.ak (cU s b al))=some (.ak (cU s b al)):=rfl
theorem WO(H:AH):W H 1 false (.ak (cU s b al))=some (.int .i64 s.at_):=rfl
theorem WQ(H:AH):W H 2 true (.ak (cU s b al))=some (.agg [.int .i64 s.at_,.int .i64 s.len]):=rfl
theorem LL(H:AH):W H 8 true (.ak (cU s b al))=some (.agg (cU s b al)):=rfl
theorem WR(H:AH):∃p,aa 1 (.ak (cU s b al))=some p∧∀H:AH,W H 1 false p=some (.int .i64 s.len):=⟨_,rfl,λ_=>rfl⟩
theorem WS(H:AH):∃p,aa 6 (.ak (cU s b al))=some p∧∀H:AH,W H 1 false p=some (.int .i64 b):=⟨_,rfl,λ_=>rfl⟩
theorem WT(H:AH):∃p,aa 7 (.ak (cU s b al))=some p∧∀H:AH,W H 1 false p=some (.int .i64 al):=⟨_,rfl,λ_=>rfl⟩
end
section
variable{C:Ctx}(aj:bX C)(Z:Cl (ae C) S.bg){H:AH}{Q:ab}
include aj Z
theorem LM{s:cm}{b al:Int}(M:P2 al)(hl:s.len≤16)(I:∀l x H',AH.Ext H H'→LK x l→(∀p∈l,P8 p.2)→l.length≤16→Q x H'):ae C 176 [.agg (cU s b al)] H Q:=by
 refine S.S0 Z ?_;unfold S.f176;obtain⟨p1,f1,g1⟩:=WR (s:=s) (b:=b) (al:=al) H;obtain⟨ab,f6,g6⟩:=WS (s:=s) (b:=b) (al:=al) H;obtain⟨ac,f7,g7⟩:=WT (s:=s) (b:=b) (al:=al) H;simp only[CA,aK,f6,g6,X,bL,F,x5,WQ];apply aB<;>intro _
 · refine WN aj Z hl λl x H1 N u j hc=>?_;obtain⟨tk,rfl⟩:=u;simp only[show aY false (.ax tk l.length (l.flatMap dR))=some (.int .i64 l.length)from rfl,X];have main:∀(r:List (Int×Int)) (i:Nat) (H2:AH) (y:J) (d:List (Int×Int)),l.drop i=r→d.length=i→i≤l.length→AH.Ext H H2→cH H.n H2 2 y d.length (d.flatMap dR)→(∀p∈d,P8 p.2) →
     av (S.wI (ae C) (.ak (cU s b al)) (.ax tk l.length (l.flatMap dR)) (.int .i64 l.length) Q) ([y,.int .i64 i],H2):=by
    intro r;induction r with
    | nil=>intro i H2 y d w he O c f g;have hle:=fb w;refine av.step ?_;simp only[S.wI,ay,bY,aU,X,F];rw[fO];obtain⟨z,e,_⟩:=f;exact I d y H2 c ⟨z,e⟩ g (by omega)
    | cons p r A=>
     intro i H2 y d w he O c f g;obtain⟨ad,u,P⟩:=eN w;obtain⟨a,e1,R⟩:=Cz (tk:=tk) u H2;refine av.step ?_;simp only[S.wI,ay,bY,aU,X,F];rw[fc];simp only[e1,R,X,aK,aQ,aT];rw[cG _ _ _ 2 rfl rfl rfl];have K:=At.new H2 (.row (dR p));have L:=c.trans (AH.Ext.push H2 (.row (dR p)));have T:=f.frame (H':=H2.push (.row (dR p))) (λt _ _ h=>h.push _);generalize H2.push (.row (dR p))=v at *;have m0:W v 1 false (.ptr H2.n 0)=some (.int .i64 p.1):=by rw[K.load];rfl
     have m1:W v 1 false (.ptr H2.n 1)=some (.int .i64 p.2):=by rw[K.load];rfl
     simp only[X,show ∀k:Nat,aa k (.ptr H2.n 0)=some (.ptr H2.n (0+k))from λ_=>rfl,abg,m0,m1,x5,WO,cM];rw[show aD [.int .i64 0,.int .i64 0] [(0,1,.int .i64 (abF .i64 (p.1-s.at_))),(1,1,.int .i64 p.2)]=some (.agg (dR (abF .i64 (p.1-s.at_),p.2)))from rfl];simp only[X];rw[show cb v false 2 1 [.int .i64 0,.int .i64 0] [(0,2,.agg (dR (abF .i64 (p.1-s.at_),p.2)))]=some (.ax .full 1 (dR (abF .i64 (p.1-s.at_),p.2)),v)from rfl];simp only[aK];refine T.app L.1 (m:=1) (news:=dR (abF .i64 (p.1-s.at_),p.2)) rfl rfl rfl (by decide) (by omega) (by omega) λy4 B D E=>?_;simp only[br,X];rw[bJ,cN];refine A (i+1) B y4 (d++[(abF .i64 (p.1-s.at_),p.2)]) P (by simp[he]) (by omega) (E.ext rfl L) ?_ (λq G=>?_)
     ·rw[ad9,afd,afi];exact D
     · rcases acN.1 G with h|h
       ·exact g q h
       ·rw[afh.1 h];exact j p (adl u)
   exact main l 0 H1 _ [] rfl rfl (aa2 _) N (cH.nil _ _ _) (λp j=>by cases j)
 · have loop : ∀(n:Nat)(a:Int)(y:J)(d:List (Int×Int)) (H2:AH),(s.len-a).toNat=n→0≤a→a≤16→AH.Ext H H2→cH H.n H2 2 y d.length (d.flatMap dR)→(∀p∈d,P8 p.2)→(d.length:Int)≤a →
       av (S.wJ (ae C) (.ak (cU s b al)) Q) ([y,.int .i64 a],H2):=by
     intro n;induction n using afj with
     | _ n A =>
      intro a y d H2 af ag ah c f g ai;refine av.step ?_;simp only[S.wJ,x5,f1,g1,f7,g7,X,aU,F,ay,bY];apply aB<;>intro e
      · have am:a<s.len:=by simpa using e
        obtain ⟨m,hm,an,em⟩:∃m,P2 m∧m≤8∧eL false [.int .i64 al,.int .i64 8]=some (.int .i64 m):=by
         rcases M with rfl|rfl|rfl|rfl|rfl
         ·exact⟨1,.inl rfl,by decide,rfl⟩
         ·exact⟨2,.inr (.inl rfl),by decide,rfl⟩
         ·exact⟨4,.inr (.inr (.inl rfl)),by decide,rfl⟩
         ·exact⟨8,.inr (.inr (.inr (.inl rfl))),by decide,rfl⟩
         ·exact⟨8,.inr (.inr (.inr (.inl rfl))),by decide,rfl⟩
        simp only[em,X];refine Cy aj Z hm λr o ao=>?_;have inner:∀r,P2 r→(r≤8→av (S.A1 (ae C) (.ak (cU s b al)) ([y,.int .i64 a],H2) (av (S.wJ (ae C) (.ak (cU s b al)) Q)) Q) ([.int .i64 r],H2)):=by
         refine P2.ind λr o U hle=>av.step ?_;simp only[S.A1,x5,f1,g1,X,cM,dy,F,ay,bY,aE];rw[bJ];apply aB<;>intro e
         · have h1:1<r:=by have:s.len-a<r:=(by simpa using e);omega
           obtain⟨_,ap,V⟩:=o.half h1;rw[V];simp only[X];exact U h1 (by omega)
         · have aq:r≤s.len-a:=by simpa using e
           have ar:=o.pos;have Y:P8 r:=by unfold P2 at o;unfold P8;omega
           unfold S.IM;simp only[ay,bY];rw[show aD [.int .i64 0,.int .i64 0] [(0,1,.int .i64 a),(1,1,.int .i64 r)]=some (.agg (dR (a,r)))from rfl];simp only[X];rw[show cb H2 false 2 1 [.int .i64 0,.int .i64 0] [(0,2,.agg (dR (a,r)))]=some (.ax .full 1 (dR (a,r)),H2)from rfl];simp only[aK];refine f.app c.1 (m:=1) (news:=dR (a,r)) rfl rfl rfl (by decide) (by omega) (by omega) λy4 B D E=>?_;simp only[br,X];rw[bJ];refine A (s.len-(a+r)).toNat (by omega) (a+r) y4 (d++[(a,r)]) B rfl (by omega) (by omega) (E.ext rfl c) ?_ (λq G=>?_) (by rw[ad9,ae2];omega)
           ·rw[ad9,afd,afi];exact D
           · rcases acN.1 G with h|h
             ·exact g q h
             ·rw[afh.1 h];exact Y
        exact inner r o (by omega)
      · obtain⟨z,e,_⟩:=f;exact I d y H2 c ⟨z,e⟩ g (by omega)
   exact loop _ 0 _ [] H rfl (aeQ _) (by decide) (AH.Ext.refl _) (cH.nil _ _ _) (λp j=>by cases j) (by decide)
end
end Rb

namespace Rb
open Go
theorem bB.jf{id:Nat}{vars:List B}{wh xl:J}{c:LD}{H0 H:AH}{P:J→AH→Prop}{zs cs:List J}{N:Nat}(h:bB H id vars wh xl c)(a:KR id H0 H)(b:zs.length=N)(hc:cs.length=N)(hs:cs.all J.scalar=true)(d:∀j H',KR id H H'→bB H' id vars wh xl c→Bx H0 id xl H' j N cs→H.n≤j→P (.ptr j 0) H') :
  aw (some (aQ H true zs)) λx H1=>Do (au H1 N x (.agg cs)) λH2=>P x H2:=by
 simp only[aQ,aT,aK];rw[cG _ _ _ N hc hs b];simp only[X];exact d _ _ (KR.ext (AH.Ext.push _ _)) (h.ext (AH.Ext.push _ _)) (h.box a hc) (hT _)
section
variable{C:Ctx}(aj:bX C)(Z:Cl (ae C) S.bg){id:Nat}{vars:List B}{wh xl:J}{c:LD}{H0 H:AH}{Q:ab}{w:Nat}
include aj Z
theorem LN(h:bB H id vars wh xl c)(W:BD c (w+64)){s:cm}{b al a st:Int}(Y:P2 al)(hl:s.len≤16)(ab:cX c.K a)(hs:1≤st∧st≤(c.sn:Nat))(ac:EX id vars wh xl H c 64 [] Q):ae C 135 [.ptr id 0,.agg (cU s b al),.int .i64 a,.int .i64 st] H Q:=by
 refine S.Sy Z ?_;unfold S.f135;simp only[CA,aK,LL,X];refine LM aj Z Y hl λl x H1 G e ad hc=>?_;obtain⟨tk,rfl⟩:=e;simp only[show aY false (.ax tk l.length (l.flatMap dR))=some (.int .i64 l.length)from rfl,X];have main:∀(r:List (Int×Int)) (i:Nat) (H2:AH) (c2:LD) (o:Int),l.drop i=r→i≤l.length→KR id H H2→bB H2 id vars wh xl c2→GE c c2 (4*i) []→cX c2.K o →
   av (S.wj (ae C) (.ptr id 0) (.int .i64 a) (.int .i64 st) (.ax tk l.length (l.flatMap dR)) (.int .i64 l.length) Q) ([.int .i64 o,.int .i64 i],H2):=by
  intro r;induction r with
  | nil=>intro i H2 c2 o g af k2 n g2 t;have hle:=fb g;refine av.step ?_;simp only[S.wj,ay,bY,aU,X,F];rw[fO];exact ac o c2 H2 k2 n (g2.mono (by omega) rfl) t
  | cons p r I=>
   intro i H2 c2 o g af k2 n g2 t;obtain⟨a2,e,J⟩:=eN g;obtain⟨q,e1,ag⟩:=Cz (tk:=tk) e H2;have u:BD c2 (w+4):=g2.bd (m:=w+4) (W.mono (by omega));refine av.step ?_;simp only[S.wj,ay,bY,aU,X,F];rw[fc];simp only[e1,ag,X];refine n.jf k2 (cs:=dR p) rfl rfl rfl λjp a3 f ah L _=>?_;replace f:=k2.trans f;refine je aj Z ah f λj a4 M ai ak a5=>?_;have v:=L.aO M;have d:jp≠j:=by have:=L.a.1;omega
   have am:=f.trans M;simp only[show ∀k:Nat,aa k (.ptr jp 0)=some (.ptr jp (0+k))from λ_=>rfl,show ∀k:Nat,aa k (.ptr j 0)=some (.ptr j (0+k))from λ_=>rfl,abg,X,v.ld (k:=0) rfl,v.ld (k:=1) rfl,gz];refine oe aj Z ai (w:=w+3) u λa6 y an=>?_;have z:=v.aO y;refine⟨z.ld rfl,z.ld rfl,?_⟩;refine(ak.aO y).st an (am.trans y) (by decide) One.int λa7 ao ap aq ar=>?_;have B:=ar _ _ _ d z;refine⟨B.ld rfl,B.ld rfl,?_⟩;refine aq.st ap ao (by decide) One.int λa8 au aw az aA=>?_;have D:=aA _ _ _ d B;refine⟨D.ld rfl,D.ld rfl,?_⟩;refine az.st aw au (by decide) One.int λa9 aC aD aF aG=>?_;have N:=aG _ _ _ d D;refine⟨N.ld rfl,?_⟩;refine aF.st aD aC (by decide) One.int λa_ aH aI aJ aL=>?_;have aM:=aL _ _ _ d N;refine aJ.st aI aH (by decide) One.int λba O aN P aP=>?_;have aQ:=aP _ _ _ d aM;rw[P.all];simp only[X];have bb:=u.A;refine iM aj Z aN (by show c2.A.length≤_;omega) ⟨4,c2.K,-1,a,-1,-1,abF .u64 p.1,0,p.2,0,0,st,0⟩ λbc kb aR=>?_;have aS:=aQ.aO kb;rw[(P.aO kb).ld (k:=1) rfl];simp only[X,aS.ld (k:=0) rfl,fY,gz];have s0:=g2.s0;have r0:=g2.r0;have E:GE c2 (LD.add {c2 with K:=c2.K+1} ⟨4,c2.K,-1,a,-1,-1,abF .u64 p.1,0,p.2,0,0,st,0⟩) 1 []:=
    GE.Cv (il (by decide) (by decide) (iN (adn _)) cg (ab.mono (by omega)) cg cg (.inr (.inr ⟨hs.1,by omega⟩)) (.inr (.inr (ad p (adl e))))) (kj (.inl (by decide)))
   have R:=E.bd (m:=w+3) (u.mono (by omega));refine l9 aj Z aR (w:=w+1) R _ _ (iN (adn _)) λr1 c5 aT T U gc rc=>?_;simp only[bL,X,F];have V:=(g2.trans E).trans gc;apply aB<;>intro _
   · simp only[aE,S.wi,ay,bY,br,X];rw[bJ,cN];exact I (i+1) aT c5 r1 J (by omega) ((O.trans kb).trans T) U (V.mono (by omega) rfl) rc
   · refine sa aj Z U (w:=w) (gc.bd (m:=w+1) (R.mono (by omega))) _ ((t.mono E.r0).mono gc.r0) rc λaV aW aX aZ a0 a1 rd=>?_;simp only[aE,S.wi,ay,bY,br,X];rw[bJ,cN];exact I (i+1) aX aW aV J (by omega) (((O.trans kb).trans T).trans aZ) a0 ((V.trans a1).mono (by omega) rfl) rd
 exact main l 0 H1 c (-1) rfl (aa2 _) (KR.ext G) (h.ext G) (GE.refl c) cg
theorem WU(h:bB H id vars wh xl c)(G:BD c (w+48)){s:cm}{b al a st x:Int}(I:P2 al)(hl:s.len≤16)(J:cX c.K a)(L:cX c.K x)(hs:1≤st∧st≤(c.sn:Nat))(M:EU id vars wh xl H c 48 [] Q):ae C 138 [.ptr id 0,.agg (cU s b al),.int .i64 a,.int .i64 x,.int .i64 st] H Q:=by
 refine S.SB Z ?_;unfold S.f138;simp only[CA,aK,LL,X];refine LM aj Z I hl λl y H1 u d N hc=>?_;obtain⟨tk,rfl⟩:=d;simp only[show aY false (.ax tk l.length (l.flatMap dR))=some (.int .i64 l.length)from rfl,X];have main:∀(r:List (Int×Int)) (i:Nat) (H2:AH) (c2:LD),l.drop i=r→i≤l.length→KR id H H2→bB H2 id vars wh xl c2→GE c c2 (3*i) [] →
   av (S.wk (ae C) (.ptr id 0) (.int .i64 a) (.int .i64 x) (.int .i64 st) (.ax tk l.length (l.flatMap dR)) (.int .i64 l.length) Q) ([.int .i64 i],H2):=by
  intro r;induction r with
  | nil=>intro i H2 c2 g O k2 n g2;have hle:=fb g;refine av.step ?_;simp only[S.wk,ay,aU,X,F];rw[fO];exact M c2 H2 k2 n (g2.mono (by omega) rfl)
  | cons p r P=>
   intro i H2 c2 g O k2 n g2;obtain⟨aI,d,R⟩:=eN g;obtain⟨q,e1,T⟩:=Cz (tk:=tk) d H2;have v:BD c2 (w+3):=g2.bd (m:=w+3) (G.mono (by omega));refine av.step ?_;simp only[S.wk,ay,aU,X,F];rw[fc];simp only[e1,T,X];refine n.jf k2 (cs:=dR p) rfl rfl rfl λjp aJ e U z _=>?_;replace e:=k2.trans e;refine je aj Z U e λj aL B V W aM=>?_;have o:=z.aO B;have f:jp≠j:=by have:=z.a.1;omega
   have Y:=e.trans B;simp only[show ∀k:Nat,aa k (.ptr jp 0)=some (.ptr jp (0+k))from λ_=>rfl,show ∀k:Nat,aa k (.ptr j 0)=some (.ptr j (0+k))from λ_=>rfl,abg,X,o.ld (k:=0) rfl,o.ld (k:=1) rfl,gz];refine W.st V Y (by decide) One.int λaN ab ac ad af=>?_;have t:=af _ _ _ f o;refine⟨t.ld rfl,t.ld rfl,?_⟩;refine ad.st ac ab (by decide) One.int λaP ag ah ai ak=>?_;have D:=ak _ _ _ f t;refine⟨D.ld rfl,?_⟩;refine ai.st ah ag (by decide) One.int λaQ am an ao ap=>?_;have aq:=ap _ _ _ f D;refine ao.st an am (by decide) One.int λaR ar au aw az=>?_;have aA:=az _ _ _ f aq;simp only[aA.ld (k:=0) rfl,X,fY,gz];have r0:=g2.r0;have s0:=g2.s0;refine l9 aj Z au (w:=w+1) v _ _ (L.mono r0) λr1 c5 aS E aB gc rc=>?_;refine(aw.aO E).st aB (ar.trans E) (by decide) One.int λaT aC aD bd aV=>?_;rw[bd.all];simp only[X];have aE:=gc.bd (m:=w+1) (v.mono (by omega));have aW:=aE.A;have aX:=gc.s0;have aZ:=gc.r0;refine iM aj Z aD (by omega) ⟨5,-1,-1,a,r1,-1,abF .u64 p.1,0,p.2,0,0,st,0⟩ λaF aG aH=>?_;simp only[br,X];rw[bJ,cN];refine P (i+1) aF _ R (by omega) (aC.trans aG) aH (((g2.trans gc).trans (GE.add (il (by decide) (by decide) cg cg (J.mono (by omega)) rc cg (.inr (.inr ⟨hs.1,by omega⟩)) (.inr (.inr (N p (adl d))))) (kj (.inl (by decide))))).mono (by omega) rfl)
 exact main l 0 H1 c rfl (aa2 _) (KR.ext u) (h.ext u) (GE.refl c)
end
end Rb

namespace Rb
open Go
def bT.pc(a:bT):J:=if a.what=7∨a.what=8∨a.what=9 then aZ a_.cells a.x.bm else aA
def bT.cells(a:bT):List J:=[I a.what,u a.n,I a.k,I a.j,.str a.x.var,a.pc,I a.kind,I a.aW,I a.site,I a.V]
theorem bT.WV(a:bT):a.pc.scalar=true:=by unfold bT.pc;split<;>rfl
theorem bT.bQ(a:bT):a.cells=[I a.what,u a.n,I a.k,I a.j,.str a.x.var,a.pc,I a.kind,I a.aW,I a.site,I a.V]:=rfl
theorem bT.len(a:bT):a.cells.length=10:=by rw[bT.bQ];rfl
theorem bT.scalar(a:bT):a.cells.all J.scalar=true:=by show(true&&(true&&(true&&(true&&(true&&(a.pc.scalar&&(true&&(true&&(true&&(true&&true))))))))))=true;rw[a.WV];rfl
section
variable(a:bT)(H:AH)
end
theorem lU.len(w:lU):w.cells.length=13:=rfl
section
variable{H:AH}{i:Nat}{w:lU}(h:At H i (.row w.cells))
include h
end
structure ll(vars:List B):Prop where
 l:vars.length≤32
 o:∀v∈vars,v.ok
 z:∀v∈vars,(bx v.type).2=0
 e:hU 0 vars≤65536
section
variable{C:Ctx}(aj:bX C)(Z:Cl (ae C) S.bg)
include aj Z
end
end Rb

namespace Rb
open Go
variable{H0 H:AH}{i1 i4 js:Nat}{xs px:J}{st D pr:List Int}
def WW(w:lU)(a:Int)(px:J)(b:Bool):List J:=w.cells++[I a,px,.bool b]
structure RI(H0 H:AH)(i1 i4 js:Nat)(xs px:J)(st D pr:List Int):Prop where
 E:AH.Ext H0 H
 l1:H0.n≤i1
 l4:H0.n≤i4
 lj:H0.n≤js
 n14:i1≠i4
 x6:i1≠js
 x7:i4≠js
 r1:∃cs,At H i1 (.row cs)∧cs.length=16
 r4:At H i4 (.row (WW rV 0 px false))
 se:At H js (.row (D.map (u)))
 st:cO H 1 xs st.length (st.map (u))
 pr:cO H 1 px pr.length (pr.map (u))
 ds:∀j,cn xs=some j→H0.n≤j∧j≠i1∧j≠i4∧j≠js∧cn px≠some j
 dp:∀j,cn px=some j→H0.n≤j∧j≠i1∧j≠i4∧j≠js
theorem RI.ext{H0 H H':AH}(h:RI H0 H i1 i4 js xs px st D pr)(k:AH.Ext H H'):RI H0 H' i1 i4 js xs px st D pr:=⟨h.E.trans k,h.l1,h.l4,h.lj,h.n14,h.x6,h.x7,by obtain⟨cs,a,b⟩:=h.r1;exact⟨cs,a.ext k,b⟩,h.r4.ext k,h.se.ext k,h.st.ext k,h.pr.ext k,h.ds,h.dp⟩
theorem RI.push(h:RI H0 H i1 i4 js xs px st D pr)(v:Int)(hl:st.length≤1000000001){K:ab}(f:∀d H',RI H0 H' i1 i4 js d px (st++[v]) D pr→(∀i o,At H i o→cn xs≠some i→At H' i o)→K d H'):aw (bR H true 1 8 xs (.ax .full 1 [u v])) K:=by
 refine h.st.app (by decide) rfl rfl (by omega) (by omega) λd H' r1 g kp a=>f d H' ?_ (λi o b hi=>kp i o hi b);obtain⟨cs,Y,b1⟩:=h.r1;have k:cn xs≠some i1:=λe=>(h.ds i1 e).2.1 rfl;have l:cn xs≠some i4:=λe=>(h.ds i4 e).2.2.1 rfl;have m:cn xs≠some js:=λe=>(h.ds js e).2.2.2.1 rfl;refine⟨Ext.aO h.E g (λi o hi b=>kp i o (λe=>by have:=(h.ds i e).1;omega) b),h.l1,h.l4,h.lj,h.n14,h.x6,h.x7,⟨cs,kp _ _ k Y,b1⟩,kp _ _ l h.r4,kp _ _ m h.se,?_,h.pr.aO (λj cs c b=>kp j _ (λe=>(h.ds j e).2.2.2.2 c) b),λj c=>?_,h.dp⟩
 ·rw[ae8,ad9];exact r1
 · rcases a with a|a
   ·exact h.ds j (by rw[←a];exact c)
   · rw[a]at c;cases c;have n:=h.E.1;have p:=Y.1;have q:=h.r4.1;have r:=h.se.1;exact⟨n,by omega,by omega,by omega,λe=>by have:=h.pr.lt e;omega⟩
theorem RI.cut(r:List Int)(h:RI H0 H i1 i4 js xs px (st++r) D pr):∃a,c6 1 xs none (some (I (st.length:Nat))) none=some a∧RI H0 H i1 i4 js a px st D pr:=by obtain⟨a,e,b,c⟩:=h.st.cut (k:=st.length) (by rw[ad9];omega);refine⟨a,e,h.E,h.l1,h.l4,h.lj,h.n14,h.x6,h.x7,h.r1,h.r4,h.se,?_,h.pr,λj d=>h.ds j (by rw[←c];exact d),h.dp⟩;rw[Nat.mul_one,ae8,aea (by simp),aeb (by simp)]at b;exact b
theorem RI.other{i1 i4 js i:Nat}(h:RI H0 H i1 i4 js xs px st D pr)(hi:H0.n≤i)(a:i1≠i)(b:i4≠i)(c:js≠i)(d:cn xs≠some i)(e:cn px≠some i)(o:bS):RI H0 (H.set i o) i1 i4 js xs px st D pr:=by obtain⟨cs,Y,b1⟩:=h.r1;exact⟨h.E.set hi _,h.l1,h.l4,h.lj,h.n14,h.x6,h.x7,⟨cs,Y.cd a _,b1⟩,h.r4.cd b _,h.se.cd c _,h.st.set d _,h.pr.set e _,h.ds,h.dp⟩
theorem RI.top{v:Int}(h:RI H0 H i1 i4 js xs px (st++[v]) D pr):∃p,aL none 1 xs (I st.length)=some p∧W H 1 false p=some (u v):=by obtain⟨p,e1,a⟩:=h.st.get (k:=st.length) (v:= u v) (by simp);exact⟨p,e1,a H (AH.Ext.refl _)⟩
section
variable{C:Ctx}(aj:bX C)(Z:Cl (ae C) S.bg)
include aj Z
end
end Rb

namespace Rb
open Go
variable{H H1:AH}{xa xn xs:J}
structure CD where
 A:List bT
 L:List (List UInt8×Nat)
 nx:Nat
 ko:Int
 V:Int
def CD.add(c:CD)(a:bT):CD:={c with A:=c.A++[{a with V:=c.V}]}
def LO(vars:List B)(xa xn xs:J)(c:CD):List J:=[aZ B.cells vars,xa,xn,xs,I c.nx,I c.ko,I c.V]
structure CR(H:AH)(id:Nat)(vars:List B)(xa xn xs:J)(c:CD):Prop where
 row:At H id (.row (LO vars xa xn xs c))
 a:cO H 10 xa c.A.length (c.A.flatMap bT.cells)
 n:cO H 1 xn c.L.length (c.L.map λp=> .str p.1)
 s:cO H 1 xs c.L.length (c.L.map λp=> I (p.2:Int))
 da:∀j,cn xa=some j→j≠id∧cn xn≠some j∧cn xs≠some j
 dn:∀j,cn xn=some j→j≠id∧cn xs≠some j
 ds:∀j,cn xs=some j→j≠id
structure CF(id:Nat)(H:AH)(xa xn xs:J)(H':AH)(WX WY WZ:J):Prop where
 n:H.n≤H'.n
 k:∀i o,i≠id→cn xa≠some i→cn xn≠some i→cn xs≠some i→At H i o→At H' i o
 ra:∀j,cn WX=some j→cn xa=some j∨H.n≤j
 rn:∀j,cn WY=some j→cn xn=some j∨H.n≤j
 rs:∀j,cn WZ=some j→cn xs=some j∨H.n≤j
theorem CF.refl(id:Nat)(H:AH)(xa xn xs:J):CF id H xa xn xs H xa xn xs:=⟨hT _,λ_ _ _ _ _ _ h=>h,λ_ h=> .inl h,λ_ h=> .inl h,λ_ h=> .inl h⟩
theorem CF.trans{id:Nat}{H H1 H2:AH}{xa xn xs c d f g l zs:J}(h:CF id H xa xn xs H1 c d f)(k:CF id H1 c d f H2 g l zs):CF id H xa xn xs H2 g l zs:=by
 refine⟨np h.n k.n,λi o h1 m p r b=>k.k i o h1 ?_ ?_ ?_ (h.k i o h1 m p r b),λj a=>?_,λj a=>?_,λj a=>?_⟩
 · intro e;rcases h.ra i e with q|q
   ·exact m q
   ·have:=b.1;omega
 · intro e;rcases h.rn i e with q|q
   ·exact p q
   ·have:=b.1;omega
 · intro e;rcases h.rs i e with q|q
   ·exact r q
   ·have:=b.1;omega
 · rcases k.ra j a with q|q
   ·exact h.ra j q
   ·exact .inr (np h.n q)
 · rcases k.rn j a with q|q
   ·exact h.rn j q
   ·exact .inr (np h.n q)
 · rcases k.rs j a with q|q
   ·exact h.rs j q
   ·exact .inr (np h.n q)
theorem CF.ext{id:Nat}(xa xn xs:J)(E:AH.Ext H H1):CF id H xa xn xs H1 xa xn xs:=⟨E.1,λ_ _ _ _ _ _ h=>h.ext E,λ_ h=> .inl h,λ_ h=> .inl h,λ_ h=> .inl h⟩
theorem CF.set{id:Nat}(xa xn xs:J)(o:bS):CF id H xa xn xs (H.set id o) xa xn xs:=⟨hT _,λ_ _ h1 _ _ _ h=>h.cd h1 o,λ_ h=> .inl h,λ_ h=> .inl h,λ_ h=> .inl h⟩
theorem CR.ext{id:Nat}{vars:List B}{c:CD}(h:CR H id vars xa xn xs c)(E:AH.Ext H H1):CR H1 id vars xa xn xs c:=⟨h.row.ext E,h.a.ext E,h.n.ext E,h.s.ext E,h.da,h.dn,h.ds⟩
theorem CR.put{id:Nat}{vars:List B}{c c':CD}(h:CR H id vars xa xn xs c)(d:c'.A=c.A)(b:c'.L=c.L):CR (H.set id (.row (LO vars xa xn xs c'))) id vars xa xn xs c':=⟨h.row.set _,by rw[d];exact h.a.set (λe=>(h.da _ e).1 rfl) _,by rw[b];exact h.n.set (λe=>(h.dn _ e).1 rfl) _,by rw[b];exact h.s.set (λe=>(h.ds _ e) rfl) _,h.da,h.dn,h.ds⟩
section
variable{C:Ctx}(aj:bX C)(Z:Cl (ae C) S.bg){id:Nat}{vars:List B}
include aj Z
end
end Rb

namespace Rb
open Go
def CD.ex(vars:List B)(c:CD)(e:U):CD:={c with A:=c.A++Ck vars c.L c.V e c.ko,ko:=aH (c.ko+B9 e 0)}
def CD.pl(vars:List B)(c:CD)(x:ba):CD:={c with A:=c.A++xV vars c.L c.V x c.ko,ko:=aH (c.ko+jM x)}
section
variable{C:Ctx}(aj:bX C)(Z:Cl (ae C) S.bg){id:Nat}{vars:List B}
include aj Z
end
end Rb

namespace Rb
open Go
variable{k:Nat}{a:bT}
def CD.st(vars:List B)(c:CD)(x:aG):CD:=⟨c.A++Cr vars x c.A.length c.nx c.L c.ko,Lv c.L c.nx x,c.nx+Cq x,aH (c.ko+B_ x 0),Lu x⟩
def CD.bl(vars:List B)(c:CD)(l:List aG):CD:=⟨c.A++r5 vars l c.A.length c.nx c.L c.ko,c.L,c.nx+rZ l,aH (c.ko+oa l 0),p9 l c.V⟩
theorem W0{A:List bT}(h:A[k]?=some a)(v:Int):(A.flatMap bT.cells).set (k*10+2) (I v)=(A.set k {a with k:=v}).flatMap bT.cells:=by
 induction A generalizing k with
 |nil=>simp at h
 | cons b r c=>
  cases k with
  | zero=>simp at h;subst h;rw[List.set_cons_zero,adR,adR,bT.bQ,bT.bQ];rfl
  | succ k=>rw[List.set_cons_succ,adR,adR,←c (by simpa using h),List.set_append_right _ _ (by rw[b.len];omega),b.len];congr 2;omega
theorem CR.patch{H:AH}{id:Nat}{vars:List B}{xa xn xs:J}{c:CD}(h:CR H id vars xa xn xs c)(f:c.A[k]?=some a)(v:Int):∃j H',aL none 10 xa (I k)=some (.ptr j (k*10))∧au H 1 (.ptr j (k*10+2)) (I v)=some H'∧CF id H xa xn xs H' xa xn xs∧CR H' id vars xa xn xs {c with A:=c.A.set k {a with k:=v}}:=by
 have hk:=(aat.1 f).1;obtain⟨j,cs,h1,b,l,p,y⟩:=h.a.addr hk;obtain⟨d1,d2,d3⟩:=h.da j h1;have z:k*10+2<c.A.length*10:=by omega
 refine⟨j,H.set j (.row (cs.set (k*10+2) (I v))),l,?_,⟨hT _,λi o g1 g2 g3 g4 r=>r.cd (λe=>g2 (by rw[e];exact h1)) _,λ_ q=> .inl q,λ_ q=> .inl q,λ_ q=> .inl q⟩,?_⟩
 ·rw[b.store,af ⟨rfl,rfl,rfl,by omega⟩];rfl
 · refine ⟨h.row.cd (λe=>d1 e.symm) _,?_,h.n.set d2 _,h.s.set d3 _,h.da,h.dn,h.ds⟩;refine⟨by rw[Le bT.len],?_⟩;rcases h.a.2 with⟨tk,_,C,_⟩|⟨D,d,m,g,t,u,w,E⟩
   ·omega
   · rw[g]at h1;cases h1;have x:d=cs:=by have:=t.2.symm.trans b.2;simpa using this
     subst x;refine .inr ⟨j,d.set (k*10+2) (I v),m,by rw[g,acT],b.set _,by rw[acT];exact u,by rw[acT];exact w,?_⟩;show(d.set (k*10+2) (I v)).take ((c.A.set k {a with k:=v}).length*10)=(c.A.set k {a with k:=v}).flatMap bT.cells;rw[acT,List.take_set,p,W0 f]
section
variable{C:Ctx}(aj:bX C)(Z:Cl (ae C) S.bg){id:Nat}{vars:List B}
include aj Z
end
end Rb

namespace Rb
open Go
section
variable(vars:List B)(L:List (List UInt8×Nat))(ln:Int)
end
def Kq(s s':RS):Prop:=s.stop=false→0≤s.fuel→s.fuel≤1000000→(s'.pr.length:Int)≤s.pr.length+s.fuel∧(s'.stop=false→0≤s'.fuel∧s'.fuel≤s.fuel∧(s'.pr.length:Int)+s'.fuel≤s.pr.length+s.fuel)
theorem Kq.trans{a b c:RS}(h:Kq a b)(k:Kq b c)(e:b.stop=true→c.pr=b.pr∧c.stop=true):Kq a c:=λf h1 g=>by
 obtain⟨i,j⟩:=h f h1 g;cases d:b.stop with
 | true=>obtain⟨e1,l⟩:=e d;rw[e1];exact⟨i,λz=>by rw[l]at z;cases z⟩
 | false=>obtain⟨m,n,y3⟩:=j d;obtain⟨o,z2⟩:=k d m (by omega);exact⟨by omega,λz=>by have:=z2 z;omega⟩
theorem Ks.same{s s':RS}(h:Ks s s')(hs:s.stop=true):s'.pr=s.pr∧s'.stop=true:=by have:=h.st hs;rw[this];exact⟨rfl,hs⟩
section
variable(vars:List B)(c:Nat)
end
end Rb

namespace Rb
open Go
section
variable{C:Ctx}(aj:bX C)(Z:Cl (ae C) S.bg){vars:List B}
include aj Z
end
end Rb

namespace Rb
open Go
section
variable{C:Ctx}(aj:bX C)(Z:Cl (ae C) S.bg){id:Nat}{vars:List B}{L:List (List UInt8)}{c:Nat}
include aj Z
end
end Rb

namespace Rb
open Go
section
variable{C:Ctx}(aj:bX C)(Z:Cl (ae C) S.bg){kw:List UInt8→Bool}(hg:∀x,bF (ae C) 72 [.str x] (.bool (kw x)))
include aj Z
include hg
end
end Rb

namespace Rb
open Go
section
variable{C:Ctx}(aj:bX C)(Z:Cl (ae C) S.bg){kw:List UInt8→Bool}(hg:∀x,bF (ae C) 72 [.str x] (.bool (kw x)))
include aj Z
include hg
end
end Rb

namespace Rb
open Go
theorem W1{p:ew}(b:p.ok)(h:(ic fw p).2=0):ll p.vars∧∀t∈p.dL,vB p.vars [] t:=by
 obtain⟨h1,c,d⟩:=Wy fw h;have a:k_ fw p.vars=if fF fw [] p.vars≠0 then fF fw [] p.vars else if hU 0 p.vars>65536 then 9 else 0:=by unfold k_;rw[bO];exact Lw fw 70000 rfl p.vars [] 0 0 (by decide) (by simp) (by omega)
 rw[c]at a;have hf:fF fw [] p.vars=0:=by
  by_cases e:fF fw [] p.vars=0
  ·exact e
  ·rw[af e]at a;exact a.symm
 rw[ai (by simpa using hf)]at a;refine⟨⟨h1,b.1.2,Lx fw hf,?_⟩,d⟩;by_cases e:hU 0 p.vars>65536
 ·rw[af e]at a;cases a
 ·omega
end Rb

namespace Rb
open Go
variable{x:ba}{t:T}{N:Nat}{cs ds:List J}
def cZ(vars:List B):J:= .ax .dead vars.length (fS vars (ij 0 vars))
def hX(C:Ctx)(id:Nat)(vars:List B)(L:List (List UInt8))(e:U):Prop:=∀{xl:J}{c:LD}{H:AH}{Q:ab}{w:Nat}{l:Int},bB H id vars (cZ vars) xl c→c.L.map adT=L→c.V=l→BD c (w+df e)→EX id vars (cZ vars) xl H c (df e-8) (gf l e) Q→ae C 77 [.ptr id 0,.agg e.cells] H Q
theorem jP(e:U):16≤df e:=by rw[Lz];omega
theorem W2{vars:List B}(a:(cS vars x).1=0):∃n v,vars.findIdx? (λv=>v.E==x.var)=some n∧vars[n]?=some v∧cS vars x=g_ v.type x.bm:=by
 unfold cS at a ⊢;rcases p4 (λv:B=>v.E==x.var) vars with⟨i,v,h1,b,c⟩|⟨h1,b⟩
 · rw[b]at a ⊢;dsimp only at a ⊢;by_cases hs:eR v.type≠0
   ·rw[af hs]at a;exact absurd a hs
   ·exact⟨i,v,h1,c,by rw[ai hs]⟩
 · rw[b]at a;have:(6:Int)=0:=a;omega
theorem W3{p:a_}{r:List a_}(h:(g_ t (p::r)).1=0):g_ t (p::r)=g_ (du t p).2 r:=by
 rw[g_];by_cases c:(du t p).1≠0
 ·rw[g_,af c]at h;exact absurd h c
 ·rw[ai c]
theorem LP{a r:Int}(b:P2 a)(c:P2 r):∃m,P2 m∧eL false [.int .i64 a,.int .i64 r]=some (.int .i64 m):=by
 rcases b with rfl|rfl|rfl|rfl|rfl<;>rcases c with rfl|rfl|rfl|rfl|rfl;all_goals first
  |exact⟨1,.inl rfl,rfl⟩
  |exact⟨2,.inr (.inl rfl),rfl⟩
  |exact⟨4,.inr (.inr (.inl rfl)),rfl⟩
  |exact⟨8,.inr (.inr (.inr (.inl rfl))),rfl⟩
  |exact⟨16,.inr (.inr (.inr (.inr rfl))),rfl⟩
theorem Bx.x8{id j N n o:Nat}{vars:List B}{wh xl:J}{c:LD}{H0 H:AH}(b:Bx H0 id xl H j N cs)(h:bB H id vars wh xl c)(f:KR id H0 H)(e:ds.length=n)(hs:ds.all J.scalar=true)(g:o+n≤N){P:AH→Prop}
  (i:∀H',KR id H0 H'→bB H' id vars wh xl c→Bx H0 id xl H' j N (setCells cs o ds)→(∀d M ds,d≠j→Bx H0 id xl H d M ds→Bx H0 id xl H' d M ds)→P H'):Do (au H n (.ptr j o) (.agg ds)) P:=by
 rw[b.a.store,af ⟨rfl,e,hs,by rw[b.len];exact g⟩,X];exact i _ (f.box b.lo _) (h.other b.a b.ne b.nx _) (b.set _ (by rw[Cs];exact b.len)) λd M ds e b2=>b2.other e _
theorem LQ(h:ds.length=cs.length):setCells cs 0 ds=ds:=by rw[pW (by omega)];rfl
theorem LS:∀{l:List B}{a:Int}{n:Nat}{v:B}{g:cm},l[n]?=some v→(ij a l)[n]?=some g→g.len=(bx v.type).1.1
 | u::r,a,0,v,g,h,k=>by simp at h;subst h;simp[ij]at k;rw[←k]
 |u::r,a,n+1,v,g,h,k=>LS (l:=r) (by simpa using h) (by simpa[ij]using k)
theorem el(k:Nat)(cs:List J):aa k (.ak cs)=some (.ak (cs.drop k)):=rfl
theorem ea(i k:Nat):aa k (.ptr i 0)=some (.ptr i k):=by simp[aa]
theorem bB.W4{id:Nat}{vars:List B}{wh xl:J}{c:LD}{H0 H:AH}{P:J→AH→Prop}{zs:List J}(h:bB H id vars wh xl c)(a:KR id H0 H)(b:zs.length=N)(d:∀j H',KR id H H'→bB H' id vars wh xl c→Bx H0 id xl H' j N zs→H.n≤j→P (.ptr j 0) H'):aw (some (aQ H true zs)) P:=⟨_,_,rfl,d _ _ (KR.ext (AH.Ext.push _ _)) (h.ext (AH.Ext.push _ _)) (h.box a b) (hT _)⟩
theorem od.at_{s:cm}(h:od t s)(a:Int):od t {s with at_:=a}:=⟨h.bits,h.len,h.bit,h.wid⟩
section
variable{C:Ctx}(aj:bX C)(Z:Cl (ae C) S.bg){id:Nat}{vars:List B}{xl:J}{c:LD}{H:AH}{Q:ab}{w:Nat}
include aj Z
theorem sf(a0:ll vars){L:List (List UInt8)}(cu:x.ok)(a1:(cS vars x).1=0)(cv:∀p∈x.bm,∀e∈p.bD,hX C id vars L e)(h:bB H id vars (cZ vars) xl c)(hL:c.L.map adT=L){l:Int}(hl:c.V=l)(Y:BD c (w+e7 x))
  (an:∀s b al c' H',KR id H H'→bB H' id vars (cZ vars) xl c'→GE c c' (e7 x) (gH l x)→cX c'.K b→P2 al→od (cS vars x).2 s→(cS vars x).2.lay→Q (.agg (cU s b al)) H'):ae C 133 [.ptr id 0,.agg x.cells] H Q:=by
 obtain⟨dp,dq⟩:=ba.fP cu;obtain⟨n,v,cw,ao,cx⟩:=W2 a1;have bI:=adl ao;have cy:v.type.lay:=K3 (by have:=a0.o v bI;cases v;exact this.2) (a0.z v bI);have cz:=(aat.1 ao).1;obtain⟨g,cA,g1,g2,g3⟩:=Li (a:=0) ao;rw[cx]at a1 an;rw[WJ]at Y an;rw[r9]at an;refine S.Sw Z ?_;unfold S.f133;simp only[Cb,aK];refine h.W4 KR.refl (N:=8) rfl λq H1 k1 h1 b1 l1=>?_;simp only[aC,ea,X,h1.vs];refine S.Be Z ?_;refine BI (p:=λv=>v.E==x.var) (λu _ R ax=>S.SV Z (by
   unfold S.f171;have Y:aM H1 false 7 (.agg u.cells)=some (.ak u.cells,H1):=by unfold aM;rw[af ⟨rfl,u.len⟩];rfl
   have l0:W H1 1 false (.ak (u.cells.drop 0))=some (.str u.E):=rI u;have l1:W H1 1 false (.ak (x.cells.drop 0))=some (.str x.var):=VU x H1;rw[Y];simp only[aK,aa,X,l0,l1,jH];exact ax)) (by have:=a0.l;omega) ?_
 rw[cw];simp only[fZ,aC,ea,X,h1.vs];rw[dF cz];simp only[X,eO,el];rw[J0 v H1 ao];simp only[X];refine h1.jf k1 (cs:=v.type.cells) (N:=6) rfl v.type.len v.type.scalar λy H2 k2 bK bt l2=>?_;have bM:=k1.trans k2;have bN:=b1.aO k2;have bO:q≠y:=by have:=b1.a.1;omega
 simp only[bK.WM,X];have cB:aL none 3 (cZ vars) (.int .i64 n)=some (.ak ((fS vars (ij 0 vars)).drop (n*3))):=by show(if 0≤(n:Int)∧(n:Int)<(vars.length:Nat)then some (J.ak ((fS vars (ij 0 vars)).drop ((n:Int).toNat*3)))else none)=_;rw[af ⟨by omega,by omega⟩,abG]
 rw[cB,g3];simp only[X,el,adA,ad3];rw[show W H2 2 true (.ak (.int .i64 g.at_ :: .int .i64 g.len::cA))=some (.agg [.int .i64 g.at_,.int .i64 g.len])from rB (a:=[J.int .i64 g.at_,.int .i64 g.len]) rfl];simp only[X];rw[show aD [.int .i64 0,.int .i64 0,.int .i64 0,.bool false,.int .i64 0,.int .i64 0] [(0,2,.agg [.int .i64 g.at_,.int .i64 g.len])]=some (.agg ({ig with at_:=g.at_,len:=g.len}:cm).cells)from rfl];simp only[X];rw[show aD [.int .i64 0,.int .i64 0,.int .i64 0,.bool false,.int .i64 0,.int .i64 0,.int .i64 0,.int .i64 0] [(0,6,.agg ({ig with at_:=g.at_,len:=g.len}:cm).cells),(6,1,.int .i64 (-1)),(7,1,.int .i64 16)]=some (.agg (cU {ig with at_:=g.at_,len:=g.len} (-1) 16))from rfl];simp only[X];refine bK.jf bM (cs:=cU {ig with at_:=g.at_,len:=g.len} (-1) 16) (N:=8) rfl rfl rfl λjs cC a2 cD bs l3=>?_;have cE:=bM.trans a2;have cF:=bN.aO a2;have cG:=bt.aO a2;have ab:q≠js:=by have:=bN.a.1;omega
 have I:y≠js:=by have:=bt.a.1;omega
 simp only[X,VV,dY];have main:∀(r:List a_)(i:Nat)(t:T)(s:cm)(b al:Int)(c2:LD)(H2:AH)(w1:Nat)(k1:List dk),x.bm.drop i=r→t.lay→(g_ t r).1=0→g_ t r=g_ v.type x.bm→KR id H H2→bB H2 id vars (cZ vars) xl c2→Bx H id xl H2 q 8 [.int .i64 0,.int .i64 0,.int .i64 0,.bool false,.int .i64 0,.int .i64 0,.int .i64 0,.int .i64 0]→Bx H id xl H2 y 6 t.cells→Bx H id xl H2 js 8 (cU s b al)→od t s→cX c2.K b→P2 al→GE c c2 w1 k1→w1+fU r=fU x.bm→k1++ki l r=ki l x.bm →
   av (S.nI (ae C) (.ptr id 0) (.ptr q 0) (.ptr y 0) (.ptr js 0) (aZ a_.cells x.bm) (.int .i64 x.bm.length) Q) ([.int .i64 i],H2):=by
  intro r;induction r with
  | nil=>intro i t s b al c2 a3 w1 k1 a4 ht a5 az aA a6 aF a7 M hs aG aH g4 hw hk;have hle:=fb a4;refine av.step ?_;simp only[S.nI,ay,aU,X,F,aE];rw[fO];unfold S.H4;simp only[ea,X,M.ld (k:=7) rfl,M.ld (k:=0) rfl];refine Cy aj Z (.inr (.inr (.inr (.inr rfl)))) λr a8 _=>?_;refine⟨M.ld rfl,?_⟩;obtain⟨m,hm,em⟩:=LP aH a8;simp only[em,X,ea];refine M.st a6 aA (by decide) One.int λap ac aI D cH=>?_;rw[show(cU s b al).set 7 (.int .i64 m)=cU s b m from rfl]at D;rw[D.all];simp only[X];refine(cH _ _ _ ab aF).x8 aI ac rfl rfl (by show 0+8≤8;decide) λa9 bb aq bP _=>?_;rw[show setCells [.int .i64 0,.int .i64 0,.int .i64 0,.bool false,.int .i64 0,.int .i64 0,.int .i64 0,.int .i64 0] 0 (cU s b m)=cU s b m from rfl]at bP;rw[bP.all];simp only[X];rw[←az]at an;rw[fU]at hw;rw[ki]at hk;exact an s b m c2 a9 bb aq (g4.mono (by omega) (by rw[←hk,aee])) aG hm hs ht
  | cons p r bR=>
   intro i t s b al c2 a3 w1 k1 a4 ht a5 az aA a6 aF a7 M hs aG aH g4 hw hk;obtain⟨cI,bS,bT⟩:=eN a4;have cJ:=adl bS;obtain⟨cK,aN⟩:=Wa a5;have bU:=W3 a5;rw[fU]at hw;rw[ki]at hk;have bV:BD c2 (w+(l6 p+fU r)):=g4.bd (m:=w+(l6 p+fU r)) (Y.mono (by omega));refine av.step ?_;simp only[S.nI,ay,aU,X,F];rw[fc,dF cI];simp only[X];rw[eh a_.len (by decide) _ bS];simp only[X];refine a6.jf aA (cs:=p.cells) (N:=2) rfl p.len p.scalar λjp ap aQ aI bW dr=>?_;have ac:=aA.trans aQ;have aR:=aF.aO aQ;have ad:=a7.aO aQ;have D:=M.aO aQ;have ds:y≠jp:=by have:=a7.a.1;omega
   have dt:js≠jp:=by have:=M.a.1;omega
   have du:q≠jp:=by have:=aF.a.1;omega
   have cL:p.cells[1]?=some (aZ U.cells p.bD):=by rw[a_.bQ];rfl
   simp only[ea,X,bW.ld cL,dY,bL,F];have nx:∀H',av (S.nI (ae C) (.ptr id 0) (.ptr q 0) (.ptr y 0) (.ptr js 0) (aZ a_.cells x.bm) (.int .i64 x.bm.length) Q) ([.int .i64 ((i+1:Nat):Int)],H')→S.we (ae C) ([.int .i64 i],a3) (av (S.nI (ae C) (.ptr id 0) (.ptr q 0) (.ptr y 0) (.ptr js 0) (aZ a_.cells x.bm) (.int .i64 x.bm.length) Q)) Q [] H':=λH' hl=>by unfold S.we;simp only[ay,br,X];rw[bJ,cN];exact hl
   rcases V2 ht cK with⟨bX,aS,e,aT,he,ar,bY⟩|⟨bc,aS,n2,f,s2,f1,f2,f3,ar,bZ⟩
   · rw [ai (by simp[bX])];obtain⟨ex,hex⟩:∃ex,p.bD=[ex]:=aeF.1 bX;have ax:l6 p=df ex:=by rw[LA,hex,c_,c_,aa6]
     have cM:r8 l p=gf l ex:=by rw[LB,hex,dz,dz,aee]
     have dv:=jP ex;rw[show aL none 8 (aZ U.cells p.bD) (.int .i64 0)=some (eO U.cells 8 p.bD 0)from dF (i:=0) (by omega)];simp only[X];rw[eh U.len (by decide) _ (show p.bD[0]?=some ex by rw[hex];rfl)];simp only[X];refine cv p cJ ex (by rw[hex];exact afh.2 rfl) aI (by rw[g4.L];exact hL) (l:=l) (by rw[g4.V];exact hl) (w:=w+fU r) (bV.mono (by omega)) λr1 be a9 j aq g6 b0=>?_;have b2:BD be (w+fU r+8):=g6.bd (m:=w+fU r+8) (bV.mono (by omega));refine je aj Z aq (ac.trans j) λbf b3 aV bg cO l7=>?_;have bh:=(ac.trans j).trans aV;have ag:=(ad.aO j).aO aV;have bi:=(D.aO j).aO aV;have bj:=(aR.aO j).aO aV;have bk:y≠bf:=by have:=(ad.aO j).a.1;omega
     have b4:js≠bf:=by have:=(D.aO j).a.1;omega
     have b6:q≠bf:=by have:=(aR.aO j).a.1;omega
     have b7:t.cells[4]?=some (.int .i64 t.b5):=by rw[T.bQ];rfl
     have cP:t.cells[5]?=some (aZ T.cells (e::aT)):=by rw[T.bQ,←he];rfl
     simp only[ea,X,ag.ld b7,gz];refine cO.st bg bh (by decide) One.int λb8 bl bn cQ O=>?_;refine⟨(O _ _ _ bk ag).ld b7,?_⟩;refine cQ.st bn bl (by decide) One.int λbp bq bu cR ah=>?_;rw[cR.all];simp only[X];have dw:=b2.A;refine iM aj Z bu (by omega) ⟨17,-1,-1,r1,-1,-1,abF .u64 t.b5,0,0,0,0,0,0⟩ λdx aW cT=>?_;have g7:=GE.add (il (S:=be.sn) (d:= -1) (d2:= -1) (b:= -1) (c:= -1) (n:=abF .u64 t.b5) (o:=0) (z:=0) (r:=0) (t:=0) (s:=0) (l:=0) (k:=17) (by decide) (by decide) cg cg b0 cg cg (.inr (.inl (by decide))) (.inr (.inl (by decide)))) (kj (.inr (by decide)));have b9:=g7.bd (m:=w+fU r+7) (b2.mono (by omega));generalize LD.add be ⟨17,-1,-1,r1,-1,-1,abF .u64 t.b5,0,0,0,0,0,0⟩=dy at *;have cV:=bq.trans aW;have b_:=(ah _ _ _ bk (O _ _ _ bk ag)).aO aW;have cW:=(ah _ _ _ b4 (O _ _ _ b4 bi)).aO aW;have cY:=(ah _ _ _ b6 (O _ _ _ b6 bj)).aO aW;simp only[b_.ld cP,X];rw[show aL none 6 (aZ T.cells (e::aT)) (.int .i64 0)=some (eO T.cells 6 (e::aT) 0)from dF (by simp)];simp only[X];rw[eh T.len (by decide) _ (show(e::aT)[0]?=some e from rfl)];simp only[X];refine b_.x8 cT cV e.len e.scalar (by decide) λdA c0 c1 bv ca=>?_;rw[LQ (by rw[e.len,t.len])]at bv;have c3:=ca _ _ _ I.symm cW;have c4:=ca _ _ _ bO cY;rw[bv.all];simp only[X];refine BQ aj Z e bY.ok _ _ ?_;simp only[bo,adW,adX,X,gz];refine l9 aj Z c1 (w:=w+fU r+5) (b9.mono (by omega)) _ _ (b0.mono g7.r0) λc5 cb dB aX cc g8 cd=>?_;have c6:BD cb (w+fU r+5):=g8.bd (m:=w+fU r+5) (b9.mono (by omega));have ce:=c0.trans aX;have cf:=bv.aO aX;have bw:=c3.aO aX;have ch:=c4.aO aX;have dC:t.kind=5:=aS;have c7:s.bits=false:=by
      cases c8:s.bits with
      |false=>rfl
      |true=>have:=(hs.bits c8).1;omega
     have fin:∀(G:Int)(P:LD)(B:AH),KR id H B→bB B id vars (cZ vars) xl P→Bx H id xl B q 8 [.int .i64 0,.int .i64 0,.int .i64 0,.bool false,.int .i64 0,.int .i64 0,.int .i64 0,.int .i64 0]→Bx H id xl B y 6 e.cells→Bx H id xl B js 8 (cU s G al)→cX P.K G→GE c P (w1+df ex) (k1++gf l ex) →
       S.wg (ae C) (.ptr js 0) (.int .i64 (bx e).1.1) ([.int .i64 i],a3) (av (S.nI (ae C) (.ptr id 0) (.ptr q 0) (.ptr y 0) (.ptr js 0) (aZ a_.cells x.bm) (.int .i64 x.bm.length) Q)) Q [] B:=by
      intro G P B bz au c9 da bA db g9;unfold S.wg;simp only[ea,X];refine bA.st au bz (by decide) One.int λci bC bE am aw=>?_;rw[show(cU s G al).set 1 (.int .i64 (bx e).1.1)=cU {s with len:=(bx e).1.1} G al from rfl]at am;simp only[am.ld (k:=7) rfl,X];refine Cy aj Z (.inr (.inr (.inr (.inr rfl)))) λr a8 _=>?_;refine⟨am.ld rfl,?_⟩;obtain⟨m,hm,em⟩:=LP aH a8;simp only[em,X,ea];refine am.st bE bC (by decide) One.int λcj dc dd ck of=>?_;rw[show(cU {s with len:=(bx e).1.1} G al).set 7 (.int .i64 m)=cU {s with len:=(bx e).1.1} G m from rfl]at ck;refine nx cj ?_;refine bR (i+1) e _ G m P cj (w1+df ex) (k1++gf l ex) bT bY ?_ ?_ dc dd (of _ _ _ ab (aw _ _ _ ab c9)) (of _ _ _ I (aw _ _ _ I da)) ck ⟨λe=>(by rw[c7]at e;cases e),λ_=>rfl,hs.bit,hs.wid⟩ db hm g9 (by omega) (by rw[←hk,cM,aeI])
      ·rw[ar]at aN;exact aN
      ·rw[←az,bU,ar]
     simp only[bw.ld (k:=6) rfl,X,bL,F,aE];have cl:=((g4.trans g6).trans g7).trans g8;apply aB<;>intro _
     · refine bw.st cc ce (by decide) One.int λB bz au bA cn=>?_;exact fin c5 cb B bz au (cn _ _ _ ab ch) (cn _ _ _ I cf) bA cd (cl.mono (by omega) (by simp only[aee]))
     · refine sa aj Z cc (w:=w+fU r) (c6.mono (by omega)) _ (((aG.mono g6.r0).mono g7.r0).mono g8.r0) cd λde P B aY au g9 dg=>?_;refine(bw.aO aY).st au (ce.trans aY) (by decide) One.int λci bC bE am aw=>?_;exact fin de P ci bC bE (aw _ _ _ ab (ch.aO aY)) (aw _ _ _ I (cf.aO aY)) am dg ((cl.trans g9).mono (by omega) (by simp only[aee]))
   · rw [af (by simp[bc])];have dh:=(aat.1 f2).1;have di:=(aat.1 f3).1;have bF:t.cells[3]?=some (aZ aJ.cells t.aP):=by rw[T.bQ];rfl
     simp only[ea,X,ad.ld bF];refine S.Bf Z ?_;refine fieldIndex (p:=λf=>f.E==p.field) (λu _ R ax=>S.SX Z (by
       unfold S.f173;have Y:aM ap false 9 (.agg u.cells)=some (.ak u.cells,ap):=by unfold aM;rw[af ⟨rfl,u.len⟩];rfl
       have l0:W ap 1 false (.ak (u.cells.drop 0))=some (.str u.E):=rF u;have l1:W ap 1 false (.ptr jp 0)=some (.str p.field):=bW.ld (by rw[a_.bQ];rfl);rw[Y];simp only[aK,ea,show aa 0 (.ak u.cells)=some (.ak (u.cells.drop 0))from rfl,X,l0,l1,jH];exact ax)) (T.Cg ht.ok).2.2 ?_
     rw[f1];simp only[fZ,ad.all,X];refine V_ aj Z ht aS _ _ ?_;simp only[bo,adW,adX,X];rw[dF di];simp only[X];rw[eh (cells:=cm.cells) (λ_=>rfl) (by decide) _ f3];simp only[X];refine aI.jf ac (cs:=s2.cells) (N:=6) rfl rfl rfl λbG a9 j aq co dD=>?_;have bb:=ac.trans j;have dj:js≠bG:=by have:=D.a.1;omega
     have dl:y≠bG:=by have:=ad.a.1;omega
     have dm:q≠bG:=by have:=aR.a.1;omega
     simp only[ea,X,co.ld (k:=0) rfl,(D.aO j).ld (k:=0) rfl,br];refine co.st aq bb (by decide) One.int λb3 bh bg cp bH=>?_;have bi:=bH _ _ _ dj (D.aO j);have ag:=bH _ _ _ dl (ad.aO j);have bj:=bH _ _ _ dm (aR.aO j);rw[show s2.cells.set 0 (.int .i64 (abF .i64 (s2.at_+s.at_)))=({s2 with at_:=abF .i64 (s2.at_+s.at_)}:cm).cells from rfl]at cp;rw[cp.all];simp only[X,ag.ld bF];rw[dF dh];simp only[X,eO,el];rw[K_ b3 f2];simp only[X];refine bi.x8 bg bh rfl rfl (by show 0+6≤8;decide) λb8 bl bn cq O=>?_;have cr:=O _ _ _ I ag;rw[show setCells (cU s b al) 0 ({s2 with at_:=abF .i64 (s2.at_+s.at_)}:cm).cells=cU {s2 with at_:=abF .i64 (s2.at_+s.at_)} b al from rfl]at cq;refine⟨cr.ld bF,K_ b8 f2,?_⟩;refine cr.x8 bn bl f.type.len f.type.scalar (by decide) λbp bq bu ct ah=>?_;rw[LQ (by rw[f.type.len,t.len])]at ct;refine nx bp ?_;have dE:l6 p=0:=by rw[LA,bc,c_]
     have dn:r8 l p=[]:=by rw[LB,bc,dz]
     refine bR (i+1) f.type _ b al c2 bp w1 k1 bT bZ ?_ ?_ bq bu (ah _ _ _ bO (O _ _ _ ab bj)) ct (ah _ _ _ I.symm cq) ((WL ht aS f2 f3 bZ).at_ _) aG aH g4 (by omega) (by rw[←hk,dn];rfl)
     ·rw[ar]at aN;exact aN
     ·rw[←az,bU,ar]
 refine main x.bm 0 v.type _ (-1) 16 c cC 0 [] rfl cy a1 rfl cE cD cF cG bs ⟨λe=>(by cases e),λ_=>?_,⟨aeQ 0,(by decide:(0:Int)≤7)⟩,aeQ 0⟩ cg (.inr (.inr (.inr (.inr rfl)))) (GE.refl c) (abg _) rfl;exact show g.len=_ from LS ao g1
end
end Rb

namespace Rb
open Go
variable{e:U}{l:Int}{x:J}
theorem cO.row{H:AH}{sz n j:Nat}{cells:List J}(h:cO H sz x n cells)(a:cn x=some j):∃cs,At H j (.row cs):=by
 rcases h.2 with⟨tk,_,_,rfl⟩|⟨i,cs,m,rfl,b,_⟩
 ·cases a
 ·cases a;exact⟨cs,b⟩
theorem bB.W5{H H':AH}{id:Nat}{vars:List B}{wh xl x:J}{c:LD}(h:bB H id vars wh xl c)(k:∀i o,cn x≠some i→At H i o→At H' i o)(g:∀j,cn x=some j→∃cs,At H j (.row cs))(m:cn x≠some id)(n:∀j,cn x=some j→cn xl≠some j):bB H' id vars wh xl c:=by obtain⟨xo,xs,a,b,d,e⟩:=h.x;have f:∀t p q,At H t (.tok p q)→At H' t (.tok p q):=λt p q ht=>k t _ (λe=>by obtain⟨cs,hc⟩:=g t e;exact absurd (hc.2.symm.trans ht.2) (by intro e;cases e)) ht;exact⟨⟨xo,xs,k _ _ m a,b.frame f,d.frame f,e⟩,h.l.aO λj cs r s=>k _ _ (λe=>n j e r) s,h.ld,h.lo⟩
theorem W6(h:hb e=true)(a:e.kind=3):e.bu.length=2:=by have:=(p8 h).2.2.2.1;unfold hQ at this;rw[af a]at this;have b:(e.bu.length:Int)=2:=this;omega
theorem W7(h:hb e=true)(f:5≤e.kind):(e.kind≠5→1≤e.bu.length)∧(e.kind=8→2≤e.bu.length)∧e.kind≤8∧e.bu.length≤2:=by
 obtain⟨_,a,_,hl,_⟩:=p8 h;unfold hQ at hl;rw[bO]at hl;by_cases b:e.kind=5
 · rw[af (.inr b)]at hl;have c:(e.bu.length:Int)=0:=hl;exact⟨λe=>absurd b e,λe=>by omega,a,by omega⟩
 · rw [bO]at hl;by_cases d:e.kind=6∨e.kind=7
   · rw[af d]at hl;have c:(e.bu.length:Int)=1:=hl;exact⟨λ_=>by omega,λe=>by omega,a,by omega⟩
   · rw[ai d,cA]at hl;have c:(e.bu.length:Int)=2:=hl;exact⟨λ_=>by omega,λe=>by omega,a,by omega⟩
theorem LU(vars:List B){L:List (List UInt8)}{k:Int}{x:ba}(h:vP vars L k x):∀p∈x.bm,∀e∈p.bD,vE vars L e:=(Lt vars L).1 ((p7 vars L k x).1 h).2.2
theorem GE.fr(c:LD):GE c {c with K:=c.K+1} 1 []:=⟨⟨[],(aee _).symm,aa2 _,λ_ a=>by cases a⟩,aa_ _,hT _,rfl,(aee _).symm,aa2 _,rfl,rfl,rfl⟩
theorem LV(h:hb e=true)(d:e.kind≤2):gf l e=[]:=by
 obtain⟨h1,_,b,a,_⟩:=p8 h;have c:e.bu=[]:=by unfold hQ at a;rw[bO,bO,bO,bO]at a;exact afk (Int.ofNat.inj a)
 rw[xX,r9,b (by omega),c,ki,dz,bO];rfl
theorem W8{e x y:U}(h:hb e=true)(c:e.kind=3)(a:e.bu=[x,y]):gf l e=gf l x++gf l y:=by obtain⟨h1,_,b,d,_⟩:=p8 h;rw[xX,r9,b (by omega),a,ki,dz,dz,dz,bO];simp
theorem W9(h:hb e=true)(b:e.kind=4)(c:hP (aH (10+e.kind)) e.aW=true):gf l e=gH l e.place++[⟨14,0,l,e.place⟩]:=by
 obtain⟨h1,_,f,a,_⟩:=p8 h;have d:e.bu=[]:=by unfold hQ at a;rw[bO,cA]at a;exact afk (Int.ofNat.inj a)
 have:e.aW=0:=by rw[b]at c;exact eq_of_beq c
 rw[xX,d,dz,cA,b,this];simp
theorem W_(a:5≤e.kind):gf l e=gH l e.place++dz l e.bu++[⟨10+e.kind,e.aW,l,e.place⟩]:=by rw[xX,cA]
theorem Xa{a b:Int}(c:0≤b){P:J→Prop}(h:∀v,P (.int .u64 v)):Do (M .shl (.int .u64 a) (.int .i64 b)) P:=by rw[rz _ _ _ _ c,X];exact h _
section
variable{C:Ctx}(aj:bX C)(Z:Cl (ae C) S.bg){id:Nat}{vars:List B}{xl:J}{c:LD}{H:AH}{Q:ab}{w:Nat}
include aj Z
theorem Xb(I:ll vars){L:List (List UInt8)}{x:ba}(J:x.ok)(K:vP vars L 14 x)(M:∀p∈x.bm,∀e∈p.bD,hX C id vars L e)(h:bB H id vars (cZ vars) xl c)(hL:c.L.map adT=L)(hl:c.V=l)(i:BD c (w+(e7 x+256)))
  (o:EX id vars (cZ vars) xl H c (e7 x+100) (gH l x++[⟨14,0,l,x⟩]) Q):ae C 129 [.ptr id 0,.agg x.cells] H Q:=by
 obtain⟨O,P,_⟩:=(p7 vars L 14 x).1 K;refine S.Sr Z ?_;unfold S.f129;simp only[Cb,aK,KZ,X];refine sf aj Z I J O M h hL hl (w:=w+256) (i.mono (by omega)) λs b al c1 H1 k1 h1 g1 R T hs U=>?_;obtain⟨W,aq,_,_⟩:=xZ P;obtain⟨z0,Y,_,_⟩:=xY U hs W;have q:BD c1 (w+256):=g1.bd (m:=w+256) (i.mono (by omega));refine h1.jf k1 (cs:=cU s b al) (N:=8) rfl rfl rfl λj H2 k2 aa f l2=>?_;have ab:=k1.trans k2;rw[f.all];simp only[X];refine sb aj Z aa (w:=w+200) (q.mono (by omega)) R λa c3 ar g ac g3 ad=>?_;have r:BD c3 (w+200):=g3.bd (m:=w+200) (q.mono (by omega));rw[(f.aO g).all];simp only[X];refine sd aj Z ac (l:=l) (by rw[g3.V,g1.V];exact hl) (w:=w+199) (r.mono (by omega)) _ _ (by decide) x λau af t ag g4 e1 av=>?_;have u:BD af (w+199):=g4.bd (m:=w+199) (r.mono (by omega));have y:=(f.aO g).aO t;refine⟨y.all,?_⟩;refine LN aj Z ag (w:=w+100) (u.mono (by omega)) T Y (ad.mono g4.r0) ⟨by omega,by omega⟩ λv c5 aw z A g5 hv=>?_;have B:BD c5 (w+100):=g5.bd (m:=w+100) (u.mono (by omega));have d:=y.aO z;have D:=((ab.trans g).trans t).trans z;have E:=((g1.trans g3).trans g4).trans g5;simp only[ea,X,d.ld (k:=3) rfl,d.ld (k:=4) rfl,d.ld (k:=5) rfl,gz,F];refine aB (λ_=>?_) (λ_=>o _ _ _ D A (E.mono (by omega) (by simp only[aee])) hv);refine l9 aj Z A (w:=w+98) B _ _ hv λv6 ah ax G ai g6 ak=>?_;have am:BD ah (w+98):=g6.bd (m:=w+98) (B.mono (by omega));refine⟨(d.aO G).ld rfl,?_⟩;refine Cx aj Z hs.wid λn=>?_;refine l9 aj Z ai (w:=w+96) am _ _ ak λay az aA an ao g7 ap=>?_;exact o _ _ _ ((D.trans G).trans an) ao (((E.trans g6).trans g7).mono (by omega) (by simp only[aee])) ap
theorem Xc(bi:ll vars){L:List (List UInt8)}(bj:e.ok)(hf:hb e=true)(P:5≤e.kind)(bk:vP vars L (aH (10+e.kind)) e.place)(bl:∀p∈e.place.bm,∀e∈p.bD,hX C id vars L e)(bn:∀k∈e.bu,hX C id vars L k)(h:bB H id vars (cZ vars) xl c)(hL:c.L.map adT=L)(hl:c.V=l)(aC:BD c (w+(e7 e.place+c_ e.bu+256)))
  (bo:EX id vars (cZ vars) xl H c (e7 e.place+c_ e.bu+100) (gH l e.place++dz l e.bu++[⟨10+e.kind,e.aW,l,e.place⟩]) Q):ae C 130 [.ptr id 0,.agg e.cells] H Q:=by
 obtain⟨bp,aT,_⟩:=(p7 vars L _ e.place).1 bk;obtain⟨bq,bt,cv,cw⟩:=W7 hf P;obtain⟨⟨cx,aD⟩,bv⟩:=U.fP bj;have bw:aH (10+e.kind)=10+e.kind:=bJ;rw[bw]at aT;refine S.Ss Z ?_;unfold S.f130;have ai:∀p:Nat,aa p (.ak e.cells)=some (.ak (e.cells.drop p)):=λ_=>rfl;simp only[rQ,aK,ai,rR,X];refine sf aj Z bi bv bp bl h hL hl (w:=w+(c_ e.bu+256)) (aC.mono (by omega)) λs b al c1 H1 k1 h1 g1 bx cy hs bz=>?_;obtain⟨_,_,bA,bC⟩:=xZ aT;have aV:=bA (by omega);have cz:=bC (by omega) (by omega);obtain⟨z0,cA,z2,z3⟩:=xY bz hs (.inr aV);have bE:P8 s.len:=by have:=z2 aV;unfold P8;omega
 refine h1.jf k1 (cs:=cU s b al) (N:=8) rfl rfl rfl λjs H2 k2 bF bs l2=>?_;have bG:=k1.trans k2;simp only[xJ,X,dY];have tail:∀(t:LD)(u:AH)(x:J)(rs:List Int),rs.length=e.bu.length→KR id H u→bB u id vars (cZ vars) xl t→Bx H id xl u js 8 (cU s b al)→cO u 1 x rs.length (rs.map (J.int .i64))→(∀j,cn x=some j→H.n≤j∧j≠id∧cn xl≠some j∧j≠js)→(∀r∈rs,cX t.K r)→cX t.K b→GE c t (e7 e.place+c_ e.bu) (gH l e.place++dz l e.bu)→S.AQ (ae C) (.ptr id 0) (.ak e.cells) (.ptr js 0) Q [x] u:=by
  intro t u x rs cB R am ad O z af an g4;have aq:BD t (w+256):=g4.bd (m:=w+256) (aC.mono (by omega));unfold S.AQ;simp only[ai,lb,X,cM,br,ay];rw[wrap_i64 (n:=e.kind-5) (by omega) (by omega),wrap_i64 (n:=e.kind-5+6) (by omega) (by omega)];refine je aj Z am R λag ar T au aF bH=>?_;have aX:=R.trans T;have aY:=ad.aO T;have ao:js≠ag:=by have:=ad.a.1;omega
  have cC:∀(g:AH),(∀j cs,cn x=some j→At u j (.row cs)→At g j (.row cs))→cO g 1 x rs.length (rs.map (J.int .i64)):=λg k=>O.aO k;have a0:∀j cs,cn x=some j→At u j (.row cs)→At ar j (.row cs):=λj cs o E=>T.2 _ _ (z j o).2.1 E;have a1:∀j,cn x=some j→j≠ag:=λj o=>by have:=O.lt o;omega
  have fin:∀(kk b2 c2:Int)(g:AH),(kk=6∨(8≤kk∧kk≤10))→cX t.K b2→cX t.K c2→KR id H g→bB g id vars (cZ vars) xl t→Bx H id xl g js 8 (cU s b al)→Bx H id xl g ag 13 (⟨kk,-1,-1,-1,b2,c2,0,0,0,0,0,0,0⟩:bM).cells→S.v_ (ae C) (.ptr id 0) (.ak e.cells) (.ptr js 0) (.ptr ag 0) Q [] g:=by
   intro kk b2 c2 g aD aw bI G I B ah;unfold S.v_;rw[B.all];simp only[X];refine sb aj Z I (w:=w+254) aq an λa D M aG W g7 bK=>?_;have a2:BD D (w+254):=g7.bd (m:=w+254) (aq.mono (by omega));have aI:=B.aO aG;simp only[ea,X];refine(ah.aO aG).st W (G.trans aG) (by decide) One.int λcD bN aJ bO bP=>?_;have a3:=bP _ _ _ ao aI;simp only[a3.ld (k:=1) rfl,ai,lb,KA,rR,X,br];rw[wrap_i64 (n:=10+e.kind) (by omega) (by omega)];refine oe aj Z aJ (w:=w+253) a2 λcE aM bQ=>?_;have a4:=a3.aO aM;have a5:=GE.fr D;have a6:=a5.bd (m:=w+252) (a2.mono (by omega));refine⟨a4.ld rfl,trivial,trivial,trivial,trivial,?_⟩;refine sd aj Z bQ (l:=l) (by show D.V=l;rw[g7.V,g4.V];exact hl) (w:=w+251) a6 _ _ (by omega) e.place λcF Y aN bR a7 bS es=>?_;have a8:=a4.aO aN;have bT:BD Y (w+251):=a7.bd (m:=w+251) (a6.mono (by omega));refine⟨a8.ld rfl,trivial,?_⟩;refine((bO.aO aM).aO aN).st bR ((bN.trans aM).trans aN) (by decide) One.int λcG bU bV bW bX=>?_;have bZ:=bX _ _ _ ao a8;refine⟨bZ.ld rfl,trivial,?_⟩;refine bW.st bV bU (by decide) One.int λcH b0 b1 b3 cI=>?_;refine⟨trivial,?_⟩;refine b3.st b1 b0 (by decide) One.int λcJ b4 b5 b6 cK=>?_;refine b6.st b5 b4 (by decide) One.int λcL b7 b8 a9 cP=>?_;rw[a9.all];simp only[X];have cQ:Y.K=D.K+1:=bS;have b9:Y.sn=D.sn+1:=es;have cR:=g7.r0;have cS:=g7.s0;have cT:=bT.A;have cV:((D.sn+1:Nat):Int)=((Y.sn:Nat):Int):=by rw[b9]
   refine iM aj Z b8 (by omega) ⟨kk,D.K,-1,a,b2,c2,0,0,s.len,e.aW,0,((D.sn+1:Nat):Int),0⟩ λb_ a_ ca=>?_;rw[(a9.aO a_).ld (k:=1) rfl];simp only[X];have cc:GE Y (Y.add ⟨kk,D.K,-1,a,b2,c2,0,0,s.len,e.aW,0,((D.sn+1:Nat):Int),0⟩) 1 []:=GE.add (il (by omega) (by omega) (iN (by omega)) cg (bK.mono (by omega)) (aw.mono (by omega)) (bI.mono (by omega)) (.inr (.inr ⟨by omega,by omega⟩)) (.inr (.inr bE))) (kj (.inl (by omega)));exact bo _ _ b_ (b7.trans a_) ca (((((g4.trans g7).trans a5).trans a7).trans cc).mono (by omega) (by simp only[aee])) (iN (show D.K<Y.K by omega))
  have k2:∀(kk b2:Int)(g:AH),(e.kind=5∧kk=6∨(5<e.kind∧8≤kk∧kk≤10))→cX t.K b2→KR id H g→bB g id vars (cZ vars) xl t→Bx H id xl g js 8 (cU s b al)→cO g 1 x rs.length (rs.map (J.int .i64))→Bx H id xl g ag 13 (⟨kk,-1,-1,-1,b2,-1,0,0,0,0,0,0,0⟩:bM).cells→S.wb (ae C) (.ptr id 0) (.ak e.cells) (.ptr js 0) (.ptr ag 0) [x] Q [] g:=by
   intro kk b2 g aD aw G I B ab ah;have ba:kk=6∨(8≤kk∧kk≤10):=by rcases aD with h|h<;>omega
   unfold S.wb;simp only[ai,lb,X,bL,F,ay,aE];refine aB (λaJ=>?_) (λ_=>fin kk b2 (-1) g ba aw cg G I B ah);have cd:e.kind=8:=by simpa using aJ
   have:=bt cd;obtain⟨r1,az⟩:∃r1,rs[1]?=some r1:=⟨_,abm (show 1<rs.length by omega)⟩
   obtain⟨p,e1,aP⟩:=ab.get (k:=1) (v:= .int .i64 r1) (by rw[abl,az];rfl);change aL none _ _ (.int .i64 1)=some _ at e1;simp only[e1,aP g (AH.Ext.refl _),X,ea];refine ah.st I G (by decide) One.int λM ap W aQ aA=>?_;exact fin kk b2 r1 M ba aw (af r1 (adl az)) ap W (aA _ _ _ ao B) aQ
  simp only[ai,lb,X,dA,F,aE];apply aB<;>intro bb
  · have ce:e.kind≠5:=by simpa using bb
    have:=bq ce;simp only[ea,X];rw[wrap_i64 (n:=e.kind-6) (by omega) (by omega),wrap_i64 (n:=e.kind-6+8) (by omega) (by omega)];refine aF.st au aX (by decide) One.int λg G I ah bc=>?_;have cf:∀j cs,cn x=some j→At ar j (.row cs)→At g j (.row cs):=λj cs o E=>by obtain⟨a,b,d,f⟩:=z j o;exact(bc j cs.length cs (a1 j o) ⟨E,b,d,a,rfl⟩).a
    have ab:=(O.aO a0).aO cf;obtain⟨r0,be⟩:∃r0,rs[0]?=some r0:=⟨_,abm (show 0<rs.length by omega)⟩
    obtain⟨p,e1,aP⟩:=ab.get (k:=0) (v:= .int .i64 r0) (by rw[abl,be];rfl);change aL none _ _ (.int .i64 0)=some _ at e1;simp only[e1,aP g (AH.Ext.refl _),X,ea];refine ah.st I G (by decide) One.int λM ap W aQ aA=>?_;have ch:∀j cs,cn x=some j→At g j (.row cs)→At M j (.row cs):=λj cs o E=>by obtain⟨a,b,d,f⟩:=z j o;exact(aA j cs.length cs (a1 j o) ⟨E,b,d,a,rfl⟩).a
    exact k2 (e.kind-6+8) r0 M (.inr ⟨by omega,by omega,by omega⟩) (af r0 (adl be)) ap W (aA _ _ _ ao (bc _ _ _ ao aY)) (ab.aO ch) aQ
  · have bf:e.kind=5:=by simpa using bb
    refine k2 6 (-1) ar (.inl ⟨bf,rfl⟩) cg aX au aY (O.aO a0) ?_;rw[bf]at aF;exact aF
 have main:∀(r:List U)(i:Nat)(t:LD)(u:AH)(x:J)(rs:List Int)(w1:Nat)(k1:List dk),e.bu.drop i=r→rs.length=i→i≤e.bu.length→KR id H u→bB u id vars (cZ vars) xl t→Bx H id xl u js 8 (cU s b al)→cO u 1 x rs.length (rs.map (J.int .i64))→(∀j,cn x=some j→H.n≤j∧j≠id∧cn xl≠some j∧j≠js)→(∀r∈rs,cX t.K r)→cX t.K b→GE c t w1 k1→w1+c_ r=e7 e.place+c_ e.bu→k1++dz l r=gH l e.place++dz l e.bu →
   av (S.wc (ae C) (.ptr id 0) (.ak e.cells) (.ptr js 0) (aZ U.cells e.bu) (.int .i64 e.bu.length) Q) ([x,.int .i64 i],u):=by
  intro r;induction r with
  | nil=>intro i t u x rs w1 k1 aR bg ci R am ad O z af an g4 hw P;have hle:=fb aR;refine av.step ?_;simp only[S.wc,ay,bY,aU,X,F,aE];rw[fO];rw[c_]at hw;rw[dz]at P;exact tail t u x rs (by omega) R am ad O z af an (g4.mono (by omega) (by rw[←P,aee]))
  | cons y r cj=>
   intro i t u x rs w1 k1 aR bg ci R am ad O z af an g4 hw P;obtain⟨ck,bh,cl⟩:=eN aR;have cm:=adl bh;rw[c_]at hw;rw[dz]at P;have aq:BD t (w+df y):=g4.bd (m:=w+df y) (aC.mono (by omega));have cW:=jP y;refine av.step ?_;simp only[S.wc,ay,bY,aU,X,F];rw[fc,dF ck];simp only[X];rw[eh U.len (by decide) _ bh];simp only[X];refine am.jf R (cs:=y.cells) (N:=8) rfl y.len (U.scalar y) λcY ar T au co bH=>?_;rw[co.all];simp only[X];refine bn y cm au (by rw[g4.L];exact hL) (l:=l) (by rw[g4.V];exact hl) aq λr1 cp g aS I g6 az=>?_;have G:=(R.trans T).trans aS;have B:=(ad.aO T).aO aS;have ab:cO g 1 x rs.length (rs.map (J.int .i64)):=O.aO λj cs o E=>aS.2 _ _ (z j o).2.1 (T.2 _ _ (z j o).2.1 E);rw[show cb g false 1 1 [.int .i64 0] [(0,1,.int .i64 r1)]=some (.ax .full 1 [.int .i64 r1],g)from rfl];simp only[aK];refine ab.app (by decide) rfl rfl (by omega) (by omega) λcq M cr ct kp ac=>?_;have W:=I.W5 kp (λj o=>ab.row o) (λe=>(z id e).2.1 rfl) (λj o=>(z j o).2.2.1);have ap:KR id H M:=⟨np G.1 ct,λi cs hi E=>kp _ _ (λe=>by have:=(z i e).1;have:=E.1;omega) (G.2 i cs hi E)⟩
   have aI:Bx H id xl M js 8 (cU s b al):=⟨kp _ _ (λe=>(z js e).2.2.2 rfl) B.a,B.ne,B.nx,B.lo,B.len⟩
   simp only[br,X];rw[bJ,cN];refine cj (i+1) cp M cq (rs++[r1]) (w1+df y) (k1++gf l y) cl (by simp[bg]) (by omega) ap W aI ?_ (λj o=>?_) (λq cu=>?_) (an.mono g6.r0) ((g4.trans g6).mono (by omega) rfl) (by omega) (by rw[←P,aeI])
   ·rw[ad9,ae8];exact cr
   · rcases ac with ac|ac
     ·exact z j (by rw[←ac];exact o)
     · rw[ac]at o;cases o;obtain⟨xo,xs,a,_⟩:=I.x;exact⟨G.1,by have:=a.1;omega,λe=>by have:=I.l.lt e;omega,by have:=B.a.1;omega⟩
   · rcases acN.1 cu with h|h
     ·exact(af q h).mono g6.r0
     ·rw[afh.1 h];exact az
 exact main e.bu 0 c1 H2 _ [] (e7 e.place) (gH l e.place) rfl rfl (aa2 _) bG bF bs (cO.nil _ _) (λj o=>by cases o) (λr ac=>by cases ac) bx g1 rfl rfl
theorem LW(s:ll vars)(L:List (List UInt8)):∀e:U,e.ok→vE vars L e→hX C id vars L e:=by
 refine U.ind λe A B he D=>?_;obtain⟨⟨ad,E⟩,t⟩:=U.fP he;have G:=ba.fP t;obtain⟨w1,w2,w3,I,J⟩:=(Wm vars L e).1 D;have f:∀k∈e.bu,hX C id vars L k:=λk hk=>A k hk (E k hk) ((xW vars L).1 J k hk);intro xl c H Q w l h hL hl a b;have j:=Lz e;refine S.RF Z ?_;unfold S.f77;simp only[rQ,aK,la,lb,Ky,B2,X,bL,F];have ae:∀p:Nat,aa p (.ak e.cells)=some (.ak (e.cells.drop p)):=λ_=>rfl;apply aB<;>intro hc
 · refine Cw aj Z h (w:=w+15) (a.mono (by omega)) _ λr c1 H1 k1 h1 g1 r1=>?_;exact b _ _ _ k1 h1 (g1.mono (by omega) (LV w1 (by simp at hc;omega)).symm) r1
 have c1:¬e.kind=1:=by simpa using hc
 apply aB<;>intro hc
 · have c2:e.kind=2:=by simpa using hc
   refine x4 aj Z h (a.mono (afl _ _)) (by rw[hL];exact w3 c2) λr K=>?_;exact b _ _ _ KR.refl h ((GE.refl c).mono (by omega) (LV w1 (by omega)).symm) K
 have c2:¬e.kind=2:=by simpa using hc
 apply aB<;>intro hc
 · have c3:e.kind=3:=by simpa using hc
   match n:e.bu,W6 w1 c3 with
   | [x,y],_=>
    rw[n]at f j;have M:aL none 8 (aZ U.cells [x,y]) (.int .i64 0)=_:=dF (i:=0) (by simp);have N:aL none 8 (aZ U.cells [x,y]) (.int .i64 1)=_:=dF (i:=1) (by simp);have O:∀H,W H 8 true (eO U.cells 8 [x,y] 0)=_:=λH=>eh U.len (by decide) H (show [x,y][0]?=some x from rfl);have ld1:∀H,W H 8 true (eO U.cells 8 [x,y] 1)=_:=λH=>eh U.len (by decide) H (show [x,y][1]?=some y from rfl);have u:∀H,W H 1 false (.ak (e.cells.drop 7))=some (aZ U.cells [x,y]):=λH=>by rw[xJ,n]
    rw[c_,c_,c_]at j;have af:=jP x;have ag:=jP y;simp only[u,X,M,O];refine f x (by simp) h hL hl (w:=w+(df y+16)) (a.mono (by omega)) λr1 d1 H1 k1 h1 g1 d=>?_;have v:BD d1 (w+(df y+16)):=g1.bd (m:=w+(df y+16)) (a.mono (by omega));simp only[Kz,u,X,N,ld1];refine f y (by simp) h1 (by rw[g1.L];exact hL) (l:=l) (by rw[g1.V];exact hl) (w:=w+16) (v.mono (by omega)) λah d2 H2 k2 P g2 R=>?_;have T:BD d2 (w+16):=g2.bd (m:=w+16) (v.mono (by omega));refine⟨trivial,?_⟩;refine sa aj Z P (w:=w+15) T _ (d.mono g2.r0) R λai d3 al Y ab g3 ac=>?_;exact b _ _ _ ((k1.trans k2).trans Y) ab (((g1.trans g2).trans g3).mono (by omega) (by rw[W8 w1 c3 n,aee])) ac
 have c3:¬e.kind=3:=by simpa using hc
 have am:=(p8 w1).1;have g:=I (by omega);rw[cA]at j;have z:∀p∈e.place.bm,∀k∈p.bD,hX C id vars L k:=λp o k hk=>B p o k hk ((G.2 p o).2 k hk) (LU vars g p o k hk);apply aB<;>intro hc
 · have q:e.kind=4:=by simpa using hc
   rw[q]at g;rw[show W H 2 true (.ak (e.cells.drop 5))=some (.agg e.place.cells)from rR e H];simp only[X];refine Xb aj Z s t g z h hL hl (w:=w) (a.mono (by omega)) λr d1 H1 k1 h1 g1 d=>?_;exact b _ _ _ k1 h1 (g1.mono (by omega) (W9 w1 q w2).symm) d
 · have q:¬e.kind=4:=by simpa using hc
   simp only[B3,X];refine Xc aj Z s he w1 (by omega) g z f h hL hl (w:=w) (a.mono (by omega)) λr d1 H1 k1 h1 g1 d=>?_;exact b _ _ _ k1 h1 (g1.mono (by omega) (W_ (by omega)).symm) d
end
end Rb

namespace Rb
open Go
variable{l:Int}{e:U}{x:aG}
theorem Xd(v:Int):∃u,cC .xor (.int .u64 v)=some (.int .u64 u):=⟨_,rfl⟩
theorem sg{l:List U}{i:Nat}(h:l[i]?=some e):aL none 8 (aZ U.cells l) (.int .i64 i)=some (eO U.cells 8 l i)∧∀H,W H 8 true (eO U.cells 8 l i)=some (.agg e.cells):=⟨dF (aat.1 h).1,λH=>eh U.len (by decide) H h⟩
section
variable{C:Ctx}(aj:bX C)(Z:Cl (ae C) S.bg){id:Nat}{vars:List B}{xl:J}{c:LD}{H:AH}{Q:ab}{w:Nat}
include aj Z
theorem Xe(ag:ll vars){L:List (List UInt8)}{x:ba}(ah:x.ok)(ai:vP vars L 3 x)(ak:∀p∈x.bm,∀e∈p.bD,hX C id vars L e)(am:hX C id vars L e)(h:bB H id vars (cZ vars) xl c)(hL:c.L.map adT=L)(hl:c.V=l)(D:BD c (w+(e7 x+df e+256)))
  (an:EU id vars (cZ vars) xl H c (e7 x+df e+200) (gH l x++gf l e++[⟨3,0,l,x⟩]) Q):ae C 81 [.ptr id 0,.agg x.cells,.agg e.cells] H Q:=by
 obtain⟨ao,ap,_⟩:=(p7 vars L 3 x).1 ai;have aZ:=jP e;refine S.RK Z ?_;unfold S.f81;simp only[Cb,rQ,aK,KZ,X];refine sf aj Z ag ah ao ak h hL hl (w:=w+(df e+256)) (D.mono (by omega)) λs b al c1 H1 k1 h1 g1 aq E hs ar=>?_;obtain⟨au,_,_,_⟩:=xZ ap;obtain⟨z0,G,_,_⟩:=xY ar hs au;have I:BD c1 (w+(df e+256)):=g1.bd (m:=w+(df e+256)) (D.mono (by omega));refine h1.jf k1 (cs:=cU s b al) (N:=8) rfl rfl rfl λj H2 k2 av aw l2=>?_;have ax:=k1.trans k2;simp only[B3,X];refine am av (by rw[g1.L];exact hL) (l:=l) (by rw[g1.V];exact hl) (w:=w+256) (I.mono (by omega)) λv c3 a0 J az g3 hv=>?_;have M:BD c3 (w+256):=g3.bd (m:=w+256) (I.mono (by omega));have b3:=aw.aO J;rw[b3.all];simp only[X];refine sb aj Z az (w:=w+254) M (aq.mono g3.r0) λa i a1 O aA g4 aC=>?_;have P:BD i (w+254):=g4.bd (m:=w+254) (M.mono (by omega));refine sd aj Z aA (l:=l) (by rw[g4.V,g3.V,g1.V];exact hl) (w:=w+253) P _ _ (by decide) x λR c5 T U g5 e1 a2=>?_;have z:BD c5 (w+253):=g5.bd (m:=w+253) (P.mono (by omega));have q:=(b3.aO O).aO T;have aD:=((ax.trans J).trans O).trans T;have aE:=((g1.trans g3).trans g4).trans g5;have W:=(hv.mono g4.r0).mono g5.r0;have Y:=aC.mono g5.r0;have qX:1≤((i.sn+1:Nat):Int)∧((i.sn+1:Nat):Int)≤(c5.sn:Nat):=⟨by omega,by omega⟩
 simp only[ea,X,q.ld (k:=3) rfl,F];have fin:∀(u:Int)(d:LD)(f:AH)(m:Nat),m≤80→KR id R f→bB f id vars (cZ vars) xl d→GE c5 d m []→cX d.K u→S.vv (ae C) (.ptr id 0) (.ptr j 0) (.int .i64 a) (.int .i64 ((i.sn+1:Nat):Int)) Q [.int .i64 u] f:=by intro u d f m hm g A g6 hu;have a3:=g6.s0;unfold S.vv;rw[(q.aO g).all];simp only[X,ay];refine WU aj Z A (w:=w+50) (g6.bd (m:=w+98) (z.mono (by omega))) E G (Y.mono g6.r0) hu ⟨qX.1,by omega⟩ λaa aF r B g7=>?_;exact an _ _ ((aD.trans g).trans r) B (((aE.trans g6).trans g7).mono (by omega) (by simp only[aee]))
 apply aB<;>intro _
 · rw[q.all];simp only[X];refine LN aj Z U (w:=w+100) (z.mono (by omega)) E G Y qX λo d f g A g6 aG=>?_;have ab:BD d (w+100):=g6.bd (m:=w+100) (z.mono (by omega));have t:=q.aO g;simp only[t.ld (k:=5) rfl,t.ld (k:=4) rfl,X];refine Cx aj Z hs.wid λn=>?_;refine⟨t.ld rfl,?_⟩;refine Xa hs.bit.1 λn2=>?_;obtain⟨n3,aH⟩:=Xd n2;simp only[aH,X];refine l9 aj Z A (w:=w+98) ab _ _ aG λa4 aa aF r B g7 aI=>?_;have ac:BD aa (w+98):=g7.bd (m:=w+98) (ab.mono (by omega));have y:=t.aO r;simp only[y.ld (k:=5) rfl,y.ld (k:=4) rfl,X,gz];refine Cx aj Z hs.wid λn4=>?_;refine⟨y.ld rfl,?_⟩;refine l9 aj Z B (w:=w+96) ac _ _ ((W.mono g6.r0).mono g7.r0) λa5 aJ a6 ad aL g8 aM=>?_;have af:BD aJ (w+96):=g8.bd (m:=w+96) (ac.mono (by omega));refine⟨(y.aO ad).ld rfl,?_⟩;refine l9 aj Z aL (w:=w+94) af _ _ aM λa7 aN a8 aP aQ g9 aR=>?_;have aS:BD aN (w+94):=g9.bd (m:=w+94) (af.mono (by omega));refine sa aj Z aQ (w:=w+93) aS _ ((aI.mono g8.r0).mono g9.r0) aR λra aT aU aV aW aX aY=>?_;exact fin ra aT aU 71 (by decide) ((((g.trans r).trans ad).trans aP).trans aV) aW (((((g6.trans g7).trans g8).trans g9).trans aX).mono (by decide) rfl) aY
 ·exact fin v c5 R 0 (by decide) KR.refl U (GE.refl _) W
theorem Xf(az:ll vars){L:List (List UInt8)}(z:x.ok)(bz:x.kind=4∧x.bh.length=1∨x.kind=6∧x.bh.length=2)(aA:vP vars L x.kind x.place)(aC:∀p∈x.place.bm,∀e∈p.bD,hX C id vars L e)(ad:∀e∈x.bh,hX C id vars L e)(h:bB H id vars (cZ vars) xl c)(hL:c.L.map adT=L)(hl:c.V=l)(af:BD c (w+(e7 x.place+c_ x.bh+256)))
  (aD:EU id vars (cZ vars) xl H c (e7 x.place+c_ x.bh+200) (gH l x.place++dz l x.bh++[⟨x.kind,x.aW,l,x.place⟩]) Q):ae C 82 [.ptr id 0,.agg x.cells] H Q:=by
 obtain⟨aF,aH,_⟩:=(p7 vars L _ x.place).1 aA;obtain⟨aI,_,_,_⟩:=aG.fP z;refine S.RL Z ?_;unfold S.f82;simp only[n5,aK,gF,n9,X];refine sf aj Z az aI aF aC h hL hl (w:=w+(c_ x.bh+256)) (af.mono (by omega)) λs b al c1 H1 k1 h1 g1 aJ bA hs aM=>?_;obtain⟨aN,_,aP,aQ⟩:=xZ aH;have aR:=aP (by omega);obtain⟨z0,bC,z2,z3⟩:=xY aM hs aN;have aS:x.kind=4→P8 s.len:=λe=>by have:=z2 aR;have:=aQ (by omega) (by omega);unfold P8;omega
 have ag:BD c1 (w+(c_ x.bh+256)):=g1.bd (m:=w+(c_ x.bh+256)) (af.mono (by omega));refine h1.jf k1 (cs:=cU s b al) (N:=8) rfl rfl rfl λjs H2 k2 aT bs l2=>?_;have ah:=k1.trans k2;refine je aj Z aT ah λD bE ai aU aV l3=>?_;have aX:=ah.trans ai;have B:js≠D:=by have:=bs.a.1;omega
 obtain⟨j,d⟩:∃j,x.bh[0]?=some j:=⟨_,abm (show 0<x.bh.length by omega)⟩
 obtain⟨a0,Y⟩:=sg d;change aL none _ _ (.int .i64 0)=some _ at a0;simp only[gF,mK,a0,Y,X];have am:∀{l:List U}{y:U}{r:List U},l=y::r→c_ l=df y+c_ r:=λe=>by subst e;rw[c_]
 obtain ⟨r0,o⟩:∃r0,x.bh=j::r0:=by
  cases z:x.bh with
  |nil=>rw[z]at d;cases d
  |cons a r=>rw[z]at d;simp at d;exact⟨r,by rw[d]⟩
 have bF:=am o;have bG:=jP j;refine ad j (adl d) aU (by rw[g1.L];exact hL) (l:=l) (by rw[g1.V];exact hl) (w:=w+(c_ r0+256)) (ag.mono (by omega)) λv E bH G aY g4 hv=>?_;have an:BD E (w+(c_ r0+256)):=g4.bd (m:=w+(c_ r0+256)) (ag.mono (by omega));simp only[ea,X];refine(aV.aO G).st aY (aX.trans G) (by decide) One.int λaZ ao ap aq a1=>?_;have ar:=a1 _ _ _ B ((bs.aO ai).aO G);have a4:=g1.trans g4;have fin:∀(kk v2:Int)(q:LD)(f:AH)(m:Nat)(n:List dk),(kk=7∧x.kind=4∨kk=12)→KR id H f→bB f id vars (cZ vars) xl q→Bx H id xl f js 8 (cU s b al)→Bx H id xl f D 13 (⟨kk,-1,-1,-1,v,v2,0,0,0,0,0,0,0⟩:bM).cells→GE E q m n→m≤c_ r0→n=dz l r0→cX q.K v2→S.vw (ae C) (.ptr id 0) (.ak x.cells) (.ptr js 0) (.ptr D 0) Q [] f:=by intro kk v2 q f m n a5 I J au a6 g6 hm a7 M;have av:BD q (w+256):=g6.bd (m:=w+256) (an.mono (by omega));unfold S.vw;rw[au.all];simp only[X];refine sb aj Z J (w:=w+254) av ((aJ.mono g4.r0).mono g6.r0) λa t a8 g O g7 a9=>?_;have aw:BD t (w+254):=g7.bd (m:=w+254) (av.mono (by omega));simp only[ea,X];refine(a6.aO g).st O (I.trans g) (by decide) One.int λax P R a_ T=>?_;have ay:=T _ _ _ B (au.aO g);simp only[ay.ld (k:=1) rfl,gF,lf,xK,n9,X];refine sd aj Z R (l:=l) (by rw[g7.V,g6.V,g4.V,g1.V];exact hl) (w:=w+253) aw _ _ (by omega) x.place λbI W aa ba ab bJ es=>?_;have bb:=ay.aO aa;have bc:BD W (w+253):=ab.bd (m:=w+253) (aw.mono (by omega));refine⟨bb.ld rfl,trivial,?_⟩;refine(a_.aO aa).st ba (P.trans aa) (by decide) One.int λbK be bf bg bN=>?_;refine⟨trivial,?_⟩;refine bg.st bf be (by decide) One.int λbO bi bj bk bP=>?_;refine bk.st bj bi (by decide) One.int λbQ bl bn bo bR=>?_;rw[bo.all];simp only[X];have bS:=bc.A;have ra:=ab.r0;have bT:=g7.r0;have bU:=g6.r0;refine iM aj Z bn (by omega) ⟨kk,-1,-1,a,v,v2,0,0,s.len,x.aW,0,((t.sn+1:Nat):Int),0⟩ λbp bq br=>?_;have bt:GE W (W.add ⟨kk,-1,-1,a,v,v2,0,0,s.len,x.aW,0,((t.sn+1:Nat):Int),0⟩) 1 []:=GE.add (il (by omega) (by omega) cg cg (a9.mono ra) (hv.mono (by omega)) (M.mono (by omega)) (.inr (.inr ⟨by omega,by omega⟩)) (a5.elim (λe=> .inr (.inr (aS e.2))) (λe=> .inr (.inl (by omega))))) (kj (.inl (by omega)));exact aD _ bp (bl.trans bq) br (((((a4.trans g6).trans g7).trans ab).trans bt).mono (by omega) (by rw[a7,o,dz];simp only[aee,aeI]))
 simp only[gF,lf,X,bL,F,aE];apply aB<;>intro e
 · have bu:x.kind=6:=by simpa using e
   refine aq.st ap ao (by decide) One.int λf I J bv bw=>?_;obtain⟨u,i⟩:∃u,x.bh[1]?=some u:=⟨_,abm (show 1<x.bh.length by omega)⟩
   obtain⟨a2,a3⟩:=sg i;change aL none _ _ (.int .i64 1)=some _ at a2;simp only[mK,a2,a3,X];obtain ⟨r1,ac⟩:∃r1,r0=u::r1:=by
    rw[o]at i;cases r0 with
    |nil=>simp at i
    |cons a r=>simp at i;exact⟨r,by rw[i]⟩
   have bV:=am ac;have bW:=jP u;refine ad u (adl i) J (by rw[g4.L,g1.L];exact hL) (l:=l) (by rw[g4.V,g1.V];exact hl) (w:=w+256) (an.mono (by omega)) λv2 t a8 g O g7 M=>?_;refine(bv.aO g).st O (I.trans g) (by decide) One.int λax P R bx T=>?_;exact fin 12 v2 t ax _ _ (.inr rfl) P R (T _ _ _ B ((bw _ _ _ B ar).aO g)) bx g7 (by omega) (by rw[ac,show r1=[]from afk (by have:=congrArg afg o;rw[ac]at this;simp only[aeO]at this;omega),dz,dz,aee]) M
 · have bu:¬x.kind=6:=by simpa using e
   exact fin 7 (-1) E aZ 0 [] (.inl ⟨rfl,by omega⟩) ao ap ar aq (GE.refl _) (aa2 _) (by rw[show r0=[]from afk (by have:=congrArg afg o;simp only[aeO]at this;omega),dz]) cg
theorem Xg(ak:ll vars){L:List (List UInt8)}(am:x.ok)(bc:x.kind=5)(an:x.E∈L)(ao:x.cp∈L)(ap:vP vars L 5 x.place)(aq:∀p∈x.place.bm,∀e∈p.bD,hX C id vars L e)(h:bB H id vars (cZ vars) xl c)(hL:c.L.map adT=L)(hl:c.V=l)(v:BD c (w+(e7 x.place+256)))
  (ar:EU id vars (cZ vars) xl H c (e7 x.place+200) (gH l x.place++[⟨x.kind,x.aW,l,x.place⟩]) Q):ae C 83 [.ptr id 0,.agg x.cells] H Q:=by
 obtain⟨au,be,_⟩:=(p7 vars L _ x.place).1 ap;obtain⟨av,_,_,_⟩:=aG.fP am;refine S.RM Z ?_;unfold S.f83;simp only[n5,aK,gF,n9,X];refine sf aj Z ak av au aq h hL hl (w:=w+256) (v.mono (by omega)) λs b al c1 H1 k1 h1 g1 aw bf hs bg=>?_;have y:BD c1 (w+256):=g1.bd (m:=w+256) (v.mono (by omega));refine h1.jf k1 (cs:=cU s b al) (N:=8) rfl rfl rfl λjs H2 k2 ax bs l2=>?_;have z:=k1.trans k2;refine je aj Z ax z λay bh B az aA l3=>?_;have aB:=z.trans B;have i:js≠ay:=by have:=bs.a.1;omega
 have D:=bs.aO B;rw[D.all];simp only[X];refine sb aj Z az (w:=w+254) y aw λa d bi j aC g4 aD=>?_;have F:BD d (w+254):=g4.bd (m:=w+254) (y.mono (by omega));simp only[ea,X];refine(aA.aO j).st aC (aB.trans j) (by decide) One.int λbj aE aF aH aI=>?_;have I:=aI _ _ _ i (D.aO j);simp only[I.ld (k:=1) rfl,gF,lf,xK,n9,X];refine oe aj Z aF (w:=w+253) F λbk n aJ=>?_;have g6:=GE.fr d;have J:=g6.bd (m:=w+253) (F.mono (by omega));have M:=I.aO n;refine⟨M.ld rfl,trivial,trivial,trivial,trivial,?_⟩;refine oe aj Z aJ (w:=w+252) J λbl o aL=>?_;have g7:=GE.fr {d with K:=d.K+1};have O:=g7.bd (m:=w+252) (J.mono (by omega));have P:=M.aO o;refine⟨P.ld rfl,trivial,trivial,trivial,trivial,?_⟩;refine sd aj Z aL (l:=l) (by show d.V=l;rw[g4.V,g1.V];exact hl) (w:=w+251) O _ _ (by omega) x.place λbn f r aM R aN es=>?_;have T:=P.aO r;have U:BD f (w+251):=R.bd (m:=w+251) (O.mono (by omega));refine⟨T.ld rfl,trivial,?_⟩;refine(((aH.aO n).aO o).aO r).st aM (((aE.trans n).trans o).trans r) (by decide) One.int λbo aP aQ aR aS=>?_;have W:=aS _ _ _ i T;refine⟨W.ld rfl,trivial,?_⟩;refine aR.st aQ aP (by decide) One.int λbp aT aU aV aX=>?_;have aY:=aX _ _ _ i W;refine⟨aY.ld rfl,trivial,?_⟩;refine aV.st aU aT (by decide) One.int λbq aZ a0 a1 br=>?_;refine⟨trivial,?_⟩;refine a1.st a0 aZ (by decide) One.int λbt a2 a3 a4 bu=>?_;refine a4.st a3 a2 (by decide) One.int λbv a5 a6 Y of=>?_;rw[Y.all];simp only[X];have bw:=U.A;have a7:f.K=d.K+1+1:=aN;have bx:f.sn=d.sn+1:=es;refine iM aj Z a6 (by omega) ⟨11,d.K,((d.K+1:Nat):Int),a,-1,-1,0,0,s.len,x.aW,0,((d.sn+1:Nat):Int),0⟩ λbz aa ab=>?_;have ac:GE f (f.add ⟨11,d.K,((d.K+1:Nat):Int),a,-1,-1,0,0,s.len,x.aW,0,((d.sn+1:Nat):Int),0⟩) 1 []:=GE.add (il (by decide) (by decide) (iN (by omega)) (iN (by omega)) (aD.mono (by omega)) cg cg (.inr (.inr ⟨by omega,by omega⟩)) (.inr (.inl (by decide)))) (kj (.inl (by decide)));have t:=ac.bd (m:=w+250) (U.mono (by rw[afm 1];exact hT _));have u:=Y.aO aa;have G:=(((((g1.trans g4).trans g6).trans g7).trans R).trans ac)
 have ad:(LD.add f ⟨11,d.K,((d.K+1:Nat):Int),a,-1,-1,0,0,s.len,x.aW,0,((d.sn+1:Nat):Int),0⟩).L.map adT=L:=by rw[G.L];exact hL
 have bA:(LD.add f ⟨11,d.K,((d.K+1:Nat):Int),a,-1,-1,0,0,s.len,x.aW,0,((d.sn+1:Nat):Int),0⟩).K=d.K+2:=a7;generalize LD.add f ⟨11,d.K,((d.K+1:Nat):Int),a,-1,-1,0,0,s.len,x.aW,0,((d.sn+1:Nat):Int),0⟩=bC at *;simp only[mJ,u.ld (k:=1) rfl,X];refine x4 aj Z ab t (by rw[ad];exact an) λq a8=>?_;refine⟨u.ld rfl,?_⟩;refine x1 aj Z ab (w:=w+249) t a8 (iN (by omega)) λbE bF af ag g=>?_;have ah:=g.bd (m:=w+249) (t.mono (by rw[afm 1];exact hT _));have ai:=u.aO af;simp only[B5,ai.ld (k:=2) rfl,X];refine x4 aj Z ag ah (by rw[g.L,ad];exact ao) λbG a9=>?_;refine⟨ai.ld rfl,?_⟩;have bH:=g.r0;refine x1 aj Z ag (w:=w+248) ah a9 (iN (by omega)) λci a_ ba bb gi=>?_;exact ar _ a_ (((a5.trans aa).trans af).trans ba) bb (((G.trans g).trans gi).mono (by omega) (by simp only[aee]))
end
end Rb

namespace Rb
open Go
def KB(id:Nat)(H H':AH):Prop:=H.n≤H'.n∧∀i cs,i<id→At H i (.row cs)→At H' i (.row cs)
theorem KB.refl(id:Nat)(H:AH):KB id H H:=⟨hT _,λ_ _ _ h=>h⟩
theorem KB.trans{id:Nat}{a b c:AH}(h:KB id a b)(k:KB id b c):KB id a c:=⟨np h.1 k.1,λi cs hi d=>k.2 i cs hi (h.2 i cs hi d)⟩
theorem KR.kb{id:Nat}{a b:AH}(h:KR id a b):KB id a b:=⟨h.1,λi cs hi c=>h.2 i cs (abe hi) c⟩
def Xh(id:Nat)(vars:List B)(H:AH)(c:LD)(w:Nat)(k:List dk)(L:List (List UInt8))(Q:ab):Prop:=∀(c':LD)(xl:J)(H':AH),KB id H H'→bB H' id vars (cZ vars) xl c'→GS c c' w k→c'.L.map adT=L→(∃t,c'.L=c.L++t∧t.length≤1)→Q (.ar []) H'
def CB(C:Ctx)(id:Nat)(vars:List B)(x:aG):Prop:=∀{L:List (List UInt8)}{xl:J}{c:LD}{H:AH}{Q:ab}{w:Nat},vS vars L x→bB H id vars (cZ vars) xl c→c.L.map adT=L→c.V=x.V→BD c (w+jO x)→Xh id vars H c (jO x) (l8 x) (gd L x) Q→ae C 40 [.ptr id 0,.agg x.cells] H Q
def p_(C:Ctx)(id:Nat)(vars:List B)(l:List aG):Prop:=∀{L:List (List UInt8)}{xl:J}{c:LD}{H:AH}{Q:ab}{w:Nat},vB vars L l→bB H id vars (cZ vars) xl c→c.L.map adT=L→BD c (w+cr l)→(∀(c':LD)(xl:J)(H':AH),KB id H H'→bB H' id vars (cZ vars) xl c'→GS c c' (cr l) (gI l)→c'.L=c.L→Q (.ar []) H')→ae C 12 [.ptr id 0,aZ aG.cells l] H Q
theorem GS.refl(c:LD):GS c c 0 []:=(GE.refl c).gs
theorem GS.V(c:LD)(v:Int):GS c {c with V:=v} 0 []:=⟨⟨[],(aee _).symm,hT _,(λ_ a=>by cases a),e6.nil _⟩,hT _,hT _,rfl,(aee _).symm,hT _,hT _⟩
theorem GS.aX(c:LD)(l:List (List UInt8×Nat)):GS c {c with L:=l} 0 []:=⟨⟨[],(aee _).symm,hT _,(λ_ a=>by cases a),e6.nil _⟩,hT _,hT _,rfl,(aee _).symm,hT _,hT _⟩
theorem CC:∀L:List (List UInt8×Nat),(L.flatMap iL).length=L.length*2
 |[]=>rfl
 |x::r=>by rw[adR,ad9,CC r,aeO];show 2+_=_;omega
section
variable{C:Ctx}(aj:bX C)(Z:Cl (ae C) S.bg){id:Nat}{vars:List B}{xl:J}{c:LD}{H:AH}{Q:ab}{w:Nat}
include aj Z
theorem CE{l:List aG}(hl:l.length≤9223372036854775807)(hS:∀x∈l,CB C id vars x):p_ C id vars l:=by
 intro L xl c H Q w hv h hL A B;refine S.QC Z ?_;unfold S.f12;simp only[aC,ea,X,h.lcs,h.l.len,dY];have main:∀(r:List aG)(i:Nat)(g:List (List UInt8)) (c1:LD) (q:J) (H1:AH) (w1:Nat) (k1:List dk),l.drop i=r→vB vars g r→KB id H H1→bB H1 id vars (cZ vars) q c1→c1.L.map adT=g→(∃t,c1.L=c.L++t∧t.length≤w1)→GS c c1 w1 k1→w1+cr r=cr l→k1++gI r=gI l →
   av (S.uQ (ae C) (.ptr id 0) (aZ aG.cells l) (.int .i64 c.L.length) (.int .i64 l.length) Q) ([.int .i64 i],H1):=by
  intro r;induction r with
  | nil=>
   intro i g c1 q H1 w1 k1 s hv kb h1 v ht g1 hw hk;have hle:=fb s;obtain⟨t,ht,D⟩:=ht;refine av.step ?_;simp only[S.uQ,ay,aU,X,F,aE];rw[fO];unfold S.FJ;simp only[aC,ea,X,h1.lcs];obtain⟨E,e,u,o⟩:=h1.l.cut (k:=c.L.length) (by rw[ht,ad9];omega);simp only[e,X];obtain⟨xo,xs,a,b,d,f⟩:=h1.x;obtain⟨n1,n2,n3⟩:=u.known;rw[a.st1 (by show 7<8;decide) ⟨n1,n2,n3⟩];simp only[X];rw[cr]at hw;rw[gI]at hk;refine B {c1 with L:=c.L} E _ (kb.trans (KR.set _).kb) ⟨⟨xo,xs,a.set _,b.frame λ_ _ _ h=>h.cd (h.ne a (by intro e;cases e)) _,d.frame λ_ _ _ h=>h.cd (h.ne a (by intro e;cases e)) _,f⟩,?_,λj G=>h1.ld j (by rw[←o];exact G),λp I=>h1.lo p (by rw[ht];exact List.mem_append_left _ I)⟩ ((g1.trans (GS.aX c1 c.L)).mono (by omega) hk) rfl;have:(c1.L.flatMap iL).take (c.L.length*2)=c.L.flatMap iL:=by rw[ht,afd,aea (by rw[CC];exact hT _),aeb (by rw[CC];exact hT _)]
   rw[this]at u;exact u.set (by rw[o];exact h1.r_) _
  | cons x r K=>
   intro i g c1 q H1 w1 k1 s hv kb h1 v ht g1 hw hk;obtain⟨M,y,o⟩:=eN s;have O:=adl y;obtain⟨v1,v2⟩:vS vars g x∧vB vars (gd g x) r:=by rw[vB]at hv;exact hv
   obtain⟨t,ht,D⟩:=ht;rw[cr]at hw;rw[gI]at hk;refine av.step ?_;simp only[S.uQ,ay,aU,X,F];rw[fc,dF M];simp only[X];rw[eh aG.len (by decide) _ y];simp only[X];refine h1.jf KR.refl (cs:=x.cells) (N:=10) rfl x.len (aG.scalar x) λj H2 k2 P b2 l2=>?_;have R:x.cells[1]?=some (.int .i64 x.V):=by rw[aG.bQ];rfl
   obtain⟨ai,T,z,U⟩:=P.own (k:=6) (c':={c1 with V:=x.V}) (n:=x.V) (.inr (.inr ⟨rfl,rfl,rfl,rfl⟩)) rfl rfl rfl rfl;simp only[ea,X,b2.ld R,aC,T,(b2.aO z).all];have g3:=g1.trans (GS.V c1 x.V);have W:BD ({c1 with V:=x.V}:LD) (w+jO x):=g3.bd (m:=w+jO x) (A.mono (by omega)) (by show c1.L.length≤_;rw[ht,ad9];omega);refine hS x O v1 U v rfl W λY aa ab ac ad g4 af ag=>?_;obtain⟨t2,ah,aj⟩:=ag;have:16≤jO x:=by rw[LC];omega
   simp only[br,X];rw[bJ,cN];refine K (i+1) _ Y aa ab (w1+jO x) (k1++l8 x) o v2 ((kb.trans (k2.trans z).kb).trans ac) ad af ⟨t++t2,by rw[ah];show c1.L++t2=_;rw[ht,aeI],by rw[ad9];omega⟩ ((g3.trans g4).mono (by omega) (by rw[aee])) (by omega) (by rw[←hk,aeI])
 exact main l 0 L c xl H 0 [] rfl hv (KB.refl _ _) h hL ⟨[],by simp,by simp⟩ (GS.refl c) (abg _) rfl
end
end Rb

namespace Rb
open Go
variable{l0 l3:Nat}{n1 n2:List bM}{o1 o2 m1 m2:bM}{x:aG}{e0:U}
theorem LX(t:Int)(o:bM)(l:List bM):hW t (o::l)=(if o.kind=14∧o.cW=t then 1 else 0)+hW t l:=by
 unfold hW;rw[afn];by_cases h:o.kind=14∧o.cW=t
 ·rw[af h,af (by simp[h.1,h.2]),aeO];omega
 ·rw[ai h,ai (by simpa using h),abg]
theorem LY{t:Int}{l:List bM}(h:∀o∈l,l5 o):hW t l=0:=by unfold hW;rw[List.length_eq_zero_iff,List.filter_eq_nil_iff];intro o a b;simp only[aaz,bq]at b;exact h o a ⟨by omega,by omega⟩
structure GR(c c':LD)(w:Nat)(k:List dk)(new:List bM):Prop where
 A:c'.A=c.A++new
 len:new.length≤w
 op:∀o∈new,hh c'.K c'.sn o
 r0:c.K≤c'.K
 r1:c'.K≤c.K+w
 s1:c'.sn=c.sn+k.length
 sc:c'.sc=c.sc++k.flatMap dk.cells
 sw:k.length≤w
 l1:c'.labels≤c.labels+w
section
variable{c c1 c2:LD}{w w':Nat}{k k':List dk}{n n':List bM}
theorem GR.trans(h:GR c c1 w k n)(g:GR c1 c2 w' k' n'):GR c c2 (w+w') (k++k') (n++n'):=by
 obtain⟨Y,a2,a3,a4,a5,a6,a7,a8,a9⟩:=h;obtain⟨b1,b2,b3,b,e,f,d,i,j⟩:=g;refine⟨by rw[b1,Y,aeI],by rw[ad9];omega,λo a=>?_,by omega,by omega,by rw[ad9];omega,by rw[d,a7,afd,aeI],by rw[ad9];omega,by omega⟩;rcases acN.1 a with a|a
 ·exact(a3 o a).mono b (by omega)
 ·exact b3 o a
theorem GR.mono(h:GR c c1 w k n)(b:w≤w')(a:k=k'):GR c c1 w' k' n:=by obtain⟨Y,a2,a3,a4,a5,a6,a7,a8,a9⟩:=h;subst a;exact⟨Y,by omega,a3,a4,by omega,a6,a7,by omega,by omega⟩
theorem GE.gr(h:GE c c1 w k):∃n,GR c c1 w k n∧(∀o∈n,l5 o)∧c1.labels=c.labels:=by obtain⟨n,a,b,d⟩:=h.new;exact⟨n,⟨a,b,λo e=>(d o e).1,h.r0,h.r1,h.s1,h.sc,h.sw,by rw[h.kh];omega⟩,λo e=>(d o e).2,h.kh⟩
theorem GS.gr(h:GS c c1 w k):∃n,GR c c1 w k n∧e6 c.labels c1.labels n:=by obtain⟨n,a,b,d,e⟩:=h.new;exact⟨n,⟨a,b,d,h.r0,h.r1,h.s1,h.sc,h.sw,h.l1⟩,e⟩
theorem GR.gs(h:GR c c1 w k n)(e:e6 c.labels c1.labels n):GS c c1 w k:=⟨⟨n,h.A,h.len,h.op,e⟩,h.r0,h.r1,h.s1,h.sc,h.sw,h.l1⟩
theorem GR.add{o:bM}(h:hh c.K c.sn o):GR c (c.add o) 1 [] [{o with V:=c.V}]:=⟨rfl,hT _,λp a=>by rw[afh]at a;subst a;exact h.V _,hT _,aa_ _,rfl,(aee _).symm,aa2 _,aa_ _⟩
theorem GR.label(c:LD):GR c {c with labels:=c.labels+1} 1 [] []:=⟨(aee _).symm,aa2 _,(λ_ a=>by cases a),hT _,aa_ _,rfl,(aee _).symm,aa2 _,hT _⟩
theorem GR.V(c:LD)(v:Int):GR c {c with V:=v} 0 [] []:=⟨(aee _).symm,aa2 _,(λ_ a=>by cases a),hT _,hT _,rfl,(aee _).symm,hT _,hT _⟩
theorem GR.bd{m:Nat}(g:GR c c1 w k n)(h:BD c (w+m))(hL:c1.L=c.L):BD c1 m:=by obtain⟨Y,a2,a3,a4,a5,a6,a7,a8,a9⟩:=g;obtain⟨b1,b2,b3,a,b⟩:=h;exact⟨by rw[Y,ad9];omega,by omega,by omega,by omega,by rw[hL];omega⟩
end
def Jp(o:bM)(t:Nat):Prop:=(o.kind=15∨o.kind=16)∧o.cW=(t:Int)
def Mk(o:bM)(t:Nat):Prop:=o.kind=14∧o.cW=(t:Int)
theorem Xi{l0 l3 l4:Nat}{n1 n2 f:List bM}(g:∀o∈n1,l5 o)(h:Jp o1 (l0+1))(d:e6 (l0+2) l3 n2)(i:Jp o2 (l0+2))(k1:Mk m1 (l0+1))(e:e6 l3 l4 f)(k2:Mk m2 (l0+2)):e6 l0 l4 (n1++([o1]++(n2++([o2]++([m1]++(f++[m2])))))):=by
 have k:=d.le;have l:=e.le;obtain⟨p1,p2⟩:=h;obtain⟨m,n⟩:=i;obtain⟨r1,p⟩:=k1;obtain⟨s1,s2⟩:=k2;refine⟨by omega,λo c a b=>?_,λt t0 t1=>?_⟩
 · simp only[acN,afh]at c;rcases c with c|rfl|c|rfl|rfl|c|rfl
   ·exact absurd ⟨a,b⟩ (g o c)
   ·omega
   ·have:=d.cW o c a b;omega
   ·omega
   ·omega
   ·have:=e.cW o c a b;omega
   ·omega
 · have j:hW t n1=0:=LY g;simp only[Cu,LX,j,show hW t []=0 from rfl];rw[ai (show ¬(o1.kind=14∧o1.cW=t) by omega),ai (show ¬(o2.kind=14∧o2.cW=t) by omega)];by_cases c1:t≤((l0+2:Nat):Int)
   · rw[oc d (.inl c1),oc e (.inl (by omega))];by_cases c2:t=((l0+1:Nat):Int)
     ·rw[af (show m1.kind=14∧m1.cW=t by omega),ai (show ¬(m2.kind=14∧m2.cW=t) by omega)]
     ·rw[ai (show ¬(m1.kind=14∧m1.cW=t) by omega),af (show m2.kind=14∧m2.cW=t by omega)]
   · rw[ai (show ¬(m1.kind=14∧m1.cW=t) by omega),ai (show ¬(m2.kind=14∧m2.cW=t) by omega)];by_cases c2:t≤(l3:Int)
     ·rw[d.one t (by omega) c2,oc e (.inl c2)]
     ·rw[oc d (.inr (by omega)),e.one t (by omega) t1]
theorem Xj(k1:Mk m1 (l0+1))(e:∀o∈n1,l5 o)(f:Jp o1 (l0+2))(d:e6 (l0+2) l3 n2)(g:Jp o2 (l0+1))(k2:Mk m2 (l0+2)):e6 l0 l3 ([m1]++(n1++([o1]++(n2++([o2]++[m2]))))):=by
 have i:=d.le;obtain⟨p1,p2⟩:=f;obtain⟨j,k⟩:=g;obtain⟨r1,l⟩:=k1;obtain⟨s1,s2⟩:=k2;refine⟨by omega,λo c a b=>?_,λt t0 t1=>?_⟩
 · simp only[acN,afh]at c;rcases c with rfl|c|rfl|c|rfl|rfl
   ·omega
   ·exact absurd ⟨a,b⟩ (e o c)
   ·omega
   ·have:=d.cW o c a b;omega
   ·omega
   ·omega
 · have h:hW t n1=0:=LY e;simp only[Cu,LX,h,show hW t []=0 from rfl];rw[ai (show ¬(o1.kind=14∧o1.cW=t) by omega),ai (show ¬(o2.kind=14∧o2.cW=t) by omega)];by_cases c1:t≤((l0+2:Nat):Int)
   · rw[oc d (.inl c1)];by_cases c2:t=((l0+1:Nat):Int)
     ·rw[af (show m1.kind=14∧m1.cW=t by omega),ai (show ¬(m2.kind=14∧m2.cW=t) by omega)]
     ·rw[ai (show ¬(m1.kind=14∧m1.cW=t) by omega),af (show m2.kind=14∧m2.cW=t by omega)]
   · rw[ai (show ¬(m1.kind=14∧m1.cW=t) by omega),ai (show ¬(m2.kind=14∧m2.cW=t) by omega),d.one t (by omega) t1]
section
variable{C:Ctx}(aj:bX C)(Z:Cl (ae C) S.bg){id:Nat}{vars:List B}{xl:J}{c:LD}{H:AH}{Q:ab}{w:Nat}
include aj Z
theorem bB.CG{P:AH→Prop}(h:bB H id vars (cZ vars) xl c)(v:Int)(a:∀H',KR id H H'→bB H' id vars (cZ vars) xl {c with V:=v}→P H'):Do (au H 1 (.ptr id 6) (.int .i64 v)) P:=by obtain⟨f,b,d,e⟩:=h.own (k:=6) (c':={c with V:=v}) (n:=v) (.inr (.inr ⟨rfl,rfl,rfl,rfl⟩)) rfl rfl rfl rfl;rw[b,X];exact a _ d e
theorem Xk{L:List (List UInt8)}(p:x.bh=[e0])(q:hX C id vars L e0)(s:p_ C id vars x.bj)(u:p_ C id vars x.bC)(v:vB vars L x.bj)(y:vB vars L x.bC)(h:bB H id vars (cZ vars) xl c)(hL:c.L.map adT=L)(z:c.V=x.V)(a:BD c (w+(16+df e0+cr x.bj+cr x.bC)))
  (A:∀(c':LD)(xl:J)(H':AH),KB id H H'→bB H' id vars (cZ vars) xl c'→GS c c' (16+df e0+cr x.bj+cr x.bC) (gf x.V e0++(gI x.bj++gI x.bC))→c'.L=c.L→Q (.ar []) H'):ae C 87 [.ptr id 0,.agg x.cells] H Q:=by
 have aM:=jP e0;refine S.RQ Z ?_;unfold S.f87;simp only[n5,aK];refine x0 aj Z h (w:=w+(15+df e0+cr x.bj+cr x.bC)) (a.mono (by omega)) λH1 k1 h1=>?_;have g1:=GR.label c;have B:=g1.bd (m:=w+(15+df e0+cr x.bj+cr x.bC)) (a.mono (by omega)) rfl;refine x0 aj Z h1 (w:=w+(14+df e0+cr x.bj+cr x.bC)) (B.mono (by omega)) λH2 k2 D=>?_;have g2:=g1.trans (GR.label {c with labels:=c.labels+1});have E:=g2.bd (m:=w+(14+df e0+cr x.bj+cr x.bC)) (a.mono (by omega)) rfl;obtain⟨a0,Y⟩:=sg (l:=x.bh) (i:=0) (e:=e0) (by rw[p];rfl);change aL none _ _ (.int .i64 0)=some _ at a0;simp only[gF,mK,a0,Y,X];refine q D hL z (w:=w+(14+cr x.bj+cr x.bC)) (E.mono (by omega)) λr c3 aN F G ge I=>?_;obtain⟨n1,g3,K,M⟩:=ge.gr;have d:c3.L=c.L:=ge.L;have si:c3.labels=c.labels+2:=M;have g:=g2.trans g3;have N:=g.bd (m:=w+(14+cr x.bj+cr x.bC)) (a.mono (by omega)) d;refine x3 aj Z G (w:=w+(13+cr x.bj+cr x.bC)) (N.mono (by omega)) _ I λo1 aO O P ok T U=>?_;have g4:=g.trans (GR.add T);have W:=g4.bd (m:=w+(13+cr x.bj+cr x.bC)) (a.mono (by omega)) d;simp only[xL,X];refine s v U (by show c3.L.map _=_;rw[d];exact hL) (w:=w+(13+cr x.bC)) (W.mono (by omega)) λc5 aP aQ aa ab ac ad=>?_;obtain⟨n2,g5,af⟩:=ac.gr;have b:c5.L=c.L:=ad.trans d;have ag:=g4.trans g5;simp only[B4,X,aC,ea];refine ab.CG aj Z _ λaR ah ai=>?_;have g6:=ag.trans (GR.V c5 x.V);have ak:=g6.bd (m:=w+(13+cr x.bC)) (a.mono (by omega)) b;refine x3 aj Z ai (w:=w+(12+cr x.bC)) (ak.mono (by omega)) _ cg λo2 aS al am py an ao=>?_;have g7:=g6.trans (GR.add an);have ap:=g7.bd (m:=w+(12+cr x.bC)) (a.mono (by omega)) b;refine x2 aj Z ao (w:=w+(11+cr x.bC)) (ap.mono (by omega)) _ λaT aq au=>?_;have j:∀{R S:Nat}{t:Int},hh R S ⟨14,-1,-1,-1,-1,-1,0,0,0,0,t,0,0⟩:=il (by decide) (by decide) cg cg cg cg cg (.inr (.inl (by decide))) (.inr (.inl (by decide)));have g8:=g7.trans (GR.add (o:=⟨14,-1,-1,-1,-1,-1,0,0,0,0,((c.labels+1:Nat):Int),0,0⟩) j);have av:=g8.bd (m:=w+(11+cr x.bC)) (a.mono (by omega)) b;simp only[B6,X];refine u y au (by show c5.L.map _=_;rw[b];exact hL) (w:=w+11) (av.mono (by omega)) λf aw aU ax ay az aA=>?_;obtain⟨n3,g9,aB⟩:=az.gr;have k:f.L=c.L:=aA.trans b;have aD:=g8.trans g9;refine ay.CG aj Z _ λaV aE aF=>?_;have n:=aD.trans (GR.V f x.V);have aG:=n.bd (m:=w+11) (a.mono (by omega)) k;refine x2 aj Z aF (w:=w+10) aG _ λaH kb aI=>?_;have aJ:=n.trans (GR.add (o:=⟨14,-1,-1,-1,-1,-1,0,0,0,0,((c.labels+1+1:Nat):Int),0,0⟩) j);refine A _ aw aH (((((((k1.trans k2).trans F).trans O).kb.trans aa).trans ((ah.trans al).trans aq).kb).trans ax).trans (aE.trans kb).kb) aI (GR.gs (aJ.mono (by omega) (by simp only[aee,afa,aeI])) ?_) k;have l2:e6 (c.labels+2) c5.labels n2:=by rw[←si];exact af
 have l3:e6 c5.labels f.labels n3:=aB;have:=Xi (o1:={o1 with V:=c3.V}) (o2:={o2 with V:=x.V}) (m1:=⟨14,-1,-1,-1,-1,-1,0,0,0,0,((c.labels+1:Nat):Int),0,x.V⟩) (m2:=⟨14,-1,-1,-1,-1,-1,0,0,0,0,((c.labels+1+1:Nat):Int),0,x.V⟩) K ⟨ok,P⟩ l2 ⟨py,am⟩ ⟨rfl,rfl⟩ l3 ⟨rfl,rfl⟩;simp only[afa,aee,aeI];exact this
theorem Xl{L:List (List UInt8)}(n:x.bh=[e0])(p:hX C id vars L e0)(q:p_ C id vars x.bj)(s:vB vars L x.bj)(h:bB H id vars (cZ vars) xl c)(hL:c.L.map adT=L)(u:c.V=x.V)(a:BD c (w+(16+df e0+cr x.bj)))
  (v:∀(c':LD)(xl:J)(H':AH),KB id H H'→bB H' id vars (cZ vars) xl c'→GS c c' (16+df e0+cr x.bj) (gf x.V e0++gI x.bj)→c'.L=c.L→Q (.ar []) H'):ae C 88 [.ptr id 0,.agg x.cells] H Q:=by
 have aq:=jP e0;refine S.RR Z ?_;unfold S.f88;simp only[n5,aK];refine x0 aj Z h (w:=w+(15+df e0+cr x.bj)) (a.mono (by omega)) λH1 k1 h1=>?_;have g1:=GR.label c;have y:=g1.bd (m:=w+(15+df e0+cr x.bj)) (a.mono (by omega)) rfl;refine x0 aj Z h1 (w:=w+(14+df e0+cr x.bj)) (y.mono (by omega)) λH2 k2 d=>?_;have g2:=g1.trans (GR.label {c with labels:=c.labels+1});have f:=g2.bd (m:=w+(14+df e0+cr x.bj)) (a.mono (by omega)) rfl;have j:∀{R S:Nat}{t:Int},hh R S ⟨14,-1,-1,-1,-1,-1,0,0,0,0,t,0,0⟩:=il (by decide) (by decide) cg cg cg cg cg (.inr (.inl (by decide))) (.inr (.inl (by decide)));refine x2 aj Z d (w:=w+(13+df e0+cr x.bj)) (f.mono (by omega)) _ λH2 z d=>?_;have g2:=g2.trans (GR.add (o:=⟨14,-1,-1,-1,-1,-1,0,0,0,0,((c.labels+1:Nat):Int),0,0⟩) j);have f:=g2.bd (m:=w+(13+df e0+cr x.bj)) (a.mono (by omega)) rfl;obtain⟨a0,Y⟩:=sg (l:=x.bh) (i:=0) (e:=e0) (by rw[n];rfl);change aL none _ _ (.int .i64 0)=some _ at a0;simp only[gF,mK,a0,Y,X];refine p d hL u (w:=w+(13+cr x.bj)) (f.mono (by omega)) λr c3 au A B ge D=>?_;obtain⟨n1,g3,E,F⟩:=ge.gr;have b:c3.L=c.L:=ge.L;have si:c3.labels=c.labels+2:=F;have k:=g2.trans g3;have G:=k.bd (m:=w+(13+cr x.bj)) (a.mono (by omega)) b;refine x3 aj Z B (w:=w+(12+cr x.bj)) (G.mono (by omega)) _ D λo1 av I K ok M N=>?_;have g4:=k.trans (GR.add M);have O:=g4.bd (m:=w+(12+cr x.bj)) (a.mono (by omega)) b;simp only[xL,X];refine q s N (by show c3.L.map _=_;rw[b];exact hL) (w:=w+12) (O.mono (by omega)) λc5 P aw T U W aa=>?_;obtain⟨n2,g5,ab⟩:=W.gr;have g:c5.L=c.L:=aa.trans b;have ac:=g4.trans g5;simp only[B4,X,aC,ea];refine U.CG aj Z _ λax ad af=>?_;have g6:=ac.trans (GR.V c5 x.V);have ag:=g6.bd (m:=w+12) (a.mono (by omega)) g;refine x3 aj Z af (w:=w+11) ag _ cg λo2 ay ah ai py ak al=>?_;have g7:=g6.trans (GR.add ak);have am:=g7.bd (m:=w+11) (a.mono (by omega)) g;refine x2 aj Z al (w:=w+10) am _ λan ao ap=>?_;have g8:=g7.trans (GR.add (o:=⟨14,-1,-1,-1,-1,-1,0,0,0,0,((c.labels+1+1:Nat):Int),0,0⟩) j);refine v _ P an (((((k1.trans k2).trans z).trans A).trans I).kb.trans (T.trans ((ad.trans ah).trans ao).kb)) ap (GR.gs (g8.mono (by omega) (by simp only[aee,afa,aeI])) ?_) g;have l2:e6 (c.labels+2) c5.labels n2:=by rw[←si];exact ab
 have:=Xj (o1:={o1 with V:=c3.V}) (o2:={o2 with V:=x.V}) (m1:=⟨14,-1,-1,-1,-1,-1,0,0,0,0,((c.labels+1:Nat):Int),0,c.V⟩) (m2:=⟨14,-1,-1,-1,-1,-1,0,0,0,0,((c.labels+1+1:Nat):Int),0,x.V⟩) ⟨rfl,rfl⟩ E ⟨ok,K⟩ l2 ⟨py,ai⟩ ⟨rfl,rfl⟩;simp only[afa,aee,aeI];exact this
end
end Rb

namespace Rb
open Go
variable{x:aG}
theorem Xm{k:Int}:(ed k).2.2.2.1=if k=5∨k=7 then 0 else if k=6 then 2 else 1:=by
 unfold ed;by_cases b:k=5
 ·subst b;rfl
 by_cases a:k=6
 ·subst a;rfl
 by_cases c:k=7
 ·subst c;rfl
 rw[ai (show ¬(k=5∨k=7) by omega),ai a]
 repeat' split
 all_goals first|rfl|(exfalso;omega)
theorem CH{e0:U}(h:¬(3≤x.kind∧x.kind≤7))(a:x.place.bm=[])(b:x.bh=[e0]):l8 x=gf x.V e0++(gI x.bj++gI x.bC):=by rw[LF,r9,a,b,ki,dz,dz,ai h];simp
theorem x9(h:3≤x.kind∧x.kind≤7)(ht:x.bj=[])(a:x.bC=[]):l8 x=gH x.V x.place++dz x.V x.bh++[⟨x.kind,x.aW,x.V,x.place⟩]:=by rw[LF,ht,a,gI,af h];simp
section
variable{C:Ctx}(aj:bX C)(Z:Cl (ae C) S.bg){id:Nat}{vars:List B}{xl:J}{c:LD}{H:AH}{Q:ab}{w:Nat}
include aj Z
theorem Xn(J:ll vars)(ab:x.ok)(az:p_ C id vars x.bj)(aP:p_ C id vars x.bC):CB C id vars x:=by
 intro L xl c H Q w hv h hL r o z;obtain⟨v1,v2,v3,v4,v5,v6,aQ,aA,v9⟩:=(Wo vars L x).1 hv;obtain⟨f1,f2,f3,f4,f5,f6⟩:=WG v1;rw[Xm]at f4;obtain⟨aF,⟨bg,aR⟩,_,_⟩:=aG.fP ab;have y:∀e∈x.bh,hX C id vars L e:=λe he=>LW aj Z J L e (aR e he) ((xW vars L).1 aQ e he);have aS:=ba.fP aF;have ac:3≤x.kind∧x.kind≤6→∀p∈x.place.bm,∀e∈p.bD,hX C id vars L e:=λhk p u e he=>LW aj Z J L e ((aS.2 p u).2 e he) (LU vars (v6 hk) p u e he);have s:=LC x;have B:¬(x.kind=5∨x.kind=7)→x.kind≠6→∃e0,x.bh=[e0]:=λa b=>by rw[ai a,ai b]at f4;exact aeF.1 (by omega)
 have ad:x.kind≠1→gd L x=L:=λe=>by unfold gd;rw[ai e]
 have D:x.kind≠1→∀{m:Nat}{n:List dk},m≤jO x→n=l8 x→EU id vars (cZ vars) xl H c m n Q:=λhk m n hm ag c' H' k' aT g'=>z c' xl H' k'.kb aT (g'.gs.mono hm ag) (by rw[g'.L,hL,ad hk]) ⟨[],by rw[g'.L,aee],aa2 _⟩;have a0:∀{e0:U},x.bh=[e0]→aL none 8 (aZ U.cells x.bh) (.int .i64 0)=some (eO U.cells 8 x.bh 0)∧∀H,W H 8 true (eO U.cells 8 x.bh 0)=some (.agg e0.cells):=λ{e0} he=>sg (l:=x.bh) (i:=0) (e:=e0) (by rw[he];rfl);have s1:∀{e0:U},x.bh=[e0]→c_ x.bh=df e0:=λhe=>by rw[he,c_,c_];exact aa6 _
 have ah:∀{e0:U},x.bh=[e0]→¬(3≤x.kind∧x.kind≤9)→gf x.V e0=l8 x:=λhe hk=>by rw[CH (by omega) (f3 (by omega)) he,f6 (by omega) (by omega),f5 (by omega),gI];simp
 refine S.Q2 Z ?_;unfold S.f40;simp only[n5,aK,gF,lf,mJ,n9,mK,X,bL,F];apply aB<;>intro hc
 · have k1:x.kind=1:=by simpa using hc
   obtain⟨e0,g⟩:=B (by omega) (by omega);obtain⟨Y,a2⟩:=a0 g;have t1:=s1 g;have aH:=jP e0;rw[bO]at s;simp only[Y,a2,X];refine y e0 (by rw[g];exact afh.2 rfl) h hL r (w:=w+16) (o.mono (by omega)) λr1 c1 H1 T h1 g1 al=>?_;have M:BD c1 (w+16):=g1.bd (m:=w+16) (o.mono (by omega));refine oe aj Z h1 (w:=w+15) M λH2 k2 N=>?_;have g2:=GE.fr c1;have G:=g2.bd (m:=w+15) (M.mono (by omega));refine x1 aj Z N (w:=w+14) G (iN (adn _)) (al.mono (aa_ _)) λc3 I v k g3=>?_;have aU:=g3.bd (m:=w+14) (G.mono (by omega));have am:=(g1.trans g2).trans g3;have aV:=g3.r0;have aY:c1.K<c3.K:=aV;simp only[aC,ea,X,k.lcs];rw[show aD [.str [],.int .i64 0] [(0,1,.str x.E),(1,1,.int .i64 (c1.K:Nat))]=some (.agg (iL (x.E,c1.K)))from rfl];simp only[X];rw[show cb I false 2 1 [.str [],.int .i64 0] [(0,2,.agg (iL (x.E,c1.K)))]=some (.ax .full 1 (iL (x.E,c1.K)),I)from rfl];simp only[aK];have bi:=aU.L;refine k.l.app (by decide) rfl rfl (by omega) (by omega) λan aa aI ag kp O=>?_;obtain⟨xo,xs,a,b,d,f⟩:=k.x;have aJ:∀t p q,At I t (.tok p q)→At aa t (.tok p q):=λt p q ht=>kp t _ (λe=>by obtain⟨cs,hc⟩:=k.l.row e;exact absurd (hc.2.symm.trans ht.2) (by intro e;cases e)) ht;have a4:=kp _ _ k.r_ a;obtain⟨n1,n2,n3⟩:=aI.known;have aM:∀j,cn an=some j→id<j:=λj ao=>by
    rcases O with O|O
    ·exact k.ld j (by rw[←O];exact ao)
    ·rw[O]at ao;cases ao;exact a.1
   have a1:cn an≠some id:=λe=>Nat.lt_irrefl _ (aM _ e);have a3:KB id H aa:=⟨np ((T.trans k2).trans v).1 ag,λi cs hi ap=>kp i _ (λe=>by have:=k.ld i e;omega) (((T.trans k2).trans v).2 i cs (abe hi) ap)⟩
   rw[a4.st1 (by show 7<8;decide) ⟨n1,n2,n3⟩];simp only[X];refine z {c3 with L:=c3.L++[(x.E,c1.K)]} an _ (a3.trans (KR.set _).kb) ⟨⟨xo,xs,a4.set _,(b.frame aJ).frame λ_ _ _ h=>h.cd (h.ne a4 (by intro e;cases e)) _,(d.frame aJ).frame λ_ _ _ h=>h.cd (h.ne a4 (by intro e;cases e)) _,f⟩,?_,aM,λp u=>?_⟩ ((am.gs.trans (GS.aX c3 _)).mono (by omega) (by simp only[aee];exact ah g (by omega))) ?_ ⟨[(x.E,c1.K)],by show c3.L++_=_;rw[am.L],hT _⟩
   · rw[ad9,afd,afi];exact aI.set a1 _
   · rcases acN.1 u with u|u
     ·exact k.lo p u
     ·rw[afh.1 u];exact aY
   · show(c3.L++_).map _=_;rw[ae8,am.L,hL];unfold gd;rw[af k1];rfl
 have n1:x.kind≠1:=by simpa using hc
 apply aB<;>intro hc
 · have k2:x.kind=2:=by simpa using hc
   obtain⟨e0,g⟩:=B (by omega) (by omega);obtain⟨Y,a2⟩:=a0 g;have t1:=s1 g;have aH:=jP e0;rw[bO]at s;simp only[Y,a2,X];refine y e0 (by rw[g];exact afh.2 rfl) h hL r (w:=w+16) (o.mono (by omega)) λr1 c1 H1 T h1 g1 al=>?_;have M:BD c1 (w+16):=g1.bd (m:=w+16) (o.mono (by omega));refine x4 aj Z h1 M (by rw[g1.L,hL];exact v4 k2) λq a5=>?_;refine x1 aj Z h1 (w:=w+15) M a5 al λc3 I v k g3=>?_;exact D n1 (by omega) (by rw[aee];exact ah g (by omega)) _ _ (T.trans v) k (g1.trans g3)
 have n2:x.kind≠2:=by simpa using hc
 apply aB<;>intro hc
 · have v:x.kind=3:=by simpa using hc
   obtain⟨e0,g⟩:=B (by omega) (by omega);obtain⟨Y,a2⟩:=a0 g;have t1:=s1 g;rw[cA]at s;simp only[Y,a2,X];refine Xe aj Z J aF (by have:=v6 (by omega);rw[v]at this;exact this) (ac (by omega)) (y e0 (by rw[g];exact afh.2 rfl)) h hL r (w:=w) (o.mono (by omega)) λc1 H1 k1 h1 g1=>?_;refine D n1 (by omega) ?_ _ _ k1 h1 g1;have ap:x.aW=0:=by rw[v]at v2;exact eq_of_beq v2
   rw[x9 (by omega) (f6 (by omega) (by omega)) (f5 (by omega)),g,dz,dz,aee,v,ap]
 have n3:x.kind≠3:=by simpa using hc
 have k1 : ∀b:Bool,(b=true↔x.kind=4∨x.kind=6)→S.va (ae C) (.ptr id 0) (.ak x.cells) (.int .i64 x.kind) Q [.bool b] H:=by
  intro b aN;unfold S.va;simp only[ay,F,KC,gF,lf,xK,mK,X,bL];apply aB<;>intro hc
  · have hk:=aN.1 hc;rw[cA]at s;refine Xf aj Z J ab ?_ (v6 (by omega)) (ac (by omega)) y h hL r (w:=w) (o.mono (by omega)) λc1 H1 k1 h1 g1=>?_
    · rcases hk with hk|hk
      · rw[bO,bO]at f4;exact .inl ⟨hk,by omega⟩
      · rw[bO,af hk]at f4;exact .inr ⟨hk,by omega⟩
    ·exact D n1 (by omega) (x9 (by omega) (f6 (by omega) (by omega)) (f5 (by omega))).symm _ _ k1 h1 g1
  have n46:¬(x.kind=4∨x.kind=6):=λe=>hc (aN.2 e);apply aB<;>intro hc
  · have P:x.kind=5:=by simpa using hc
    rw[cA]at s;obtain⟨a6,a7,_⟩:=v5 P;refine Xg aj Z J ab P a6 a7 (by have:=v6 (by omega);rw[P]at this;exact this) (ac (by omega)) h hL r (w:=w) (o.mono (by omega)) λc1 H1 k1 h1 g1=>?_;rw[cA]at f4;exact D n1 (by omega) (by rw[x9 (by omega) (f6 (by omega) (by omega)) (f5 (by omega)),show x.bh=[]from afk (by omega),dz,aee]) _ _ k1 h1 g1
  have bk:x.kind≠5:=by simpa using hc
  apply aB<;>intro hc
  · have a8:x.kind=7:=by simpa using hc
    rw[cA]at s;refine je aj Z h KR.refl λa9 H1 k1 h1 aq l1=>?_;rw[show aD [.str [],.ax .nil 0 []] []=some (.agg [.str [],.ax .nil 0 []])from rfl];simp only[X,ea];refine LJ aj Z h1 (w:=w+200) (o.mono (by omega)) _ _ ⟨x.kind,x.aW,x.V,x.place⟩ (by unfold dk.cells;rw[af a8,r]) rfl rfl λH2 c2 k2 N g2 bl es=>?_;have G:=g2.bd (m:=w+200) (o.mono (by omega));refine⟨trivial,?_⟩;refine(aq.aO k2).st N (k1.trans k2) (by decide) One.int λI ar k b3 _=>?_;refine b3.st k ar (by decide) One.int λaa a_ au bb _=>?_;rw[bb.all];simp only[X];refine iM aj Z au (by have:=G.A;omega) ⟨13,-1,-1,-1,-1,-1,0,0,0,x.aW,0,((c.sn+1:Nat):Int),0⟩ λbn P bc=>?_;rw[cA]at f4;exact D n1 (by omega) (by rw[x9 (by omega) (f6 (by omega) (by omega)) (f5 (by omega)),show x.bh=[]from afk (by omega),dz,r9,f3 (by omega),ki];rfl) _ _ (a_.trans P) bc (g2.trans (GE.add (il (by decide) (by decide) cg cg cg cg cg (.inr (.inr ⟨by omega,by omega⟩)) (.inr (.inl (by decide)))) (kj (.inl (by decide)))))
  have n7:x.kind≠7:=by simpa using hc
  apply aB<;>intro hc
  · have bo:x.kind=8:=by simpa using hc
    obtain⟨e0,g⟩:=B (by omega) (by omega);have t1:=s1 g;rw[bO]at s;rw[ad n1]at z;refine Xk aj Z g (y e0 (by rw[g];exact afh.2 rfl)) az aP aA v9 h hL r (w:=w) (o.mono (by omega)) λc1 av H1 aw h1 g1 R=>?_;exact z c1 av H1 aw h1 (g1.mono (by omega) (CH (by omega) (f3 (by omega)) g).symm) (by rw[R];exact hL) ⟨[],by rw[R,aee],aa2 _⟩
  have n8:x.kind≠8:=by simpa using hc
  apply aB<;>intro hc
  · have bp:x.kind=9:=by simpa using hc
    obtain⟨e0,g⟩:=B (by omega) (by omega);have t1:=s1 g;rw[bO]at s;rw[ad n1]at z;refine Xl aj Z g (y e0 (by rw[g];exact afh.2 rfl)) az aA h hL r (w:=w) (o.mono (by omega)) λc1 av H1 aw h1 g1 R=>?_;exact z c1 av H1 aw h1 (g1.mono (by omega) (by rw[CH (by omega) (f3 (by omega)) g,f5 (by omega),gI,aee])) (by rw[R];exact hL) ⟨[],by rw[R,aee],aa2 _⟩
  have bq:x.kind≠9:=by simpa using hc
  apply aB<;>intro hc
  · have br:x.kind=10:=by simpa using hc
    obtain⟨e0,g⟩:=B (by omega) (by omega);obtain⟨Y,a2⟩:=a0 g;have t1:=s1 g;have aH:=jP e0;rw[bO]at s;refine je aj Z h KR.refl λa9 H1 k1 h1 aq l1=>?_;simp only[Y,a2,X];refine y e0 (by rw[g];exact afh.2 rfl) h1 hL r (w:=w+16) (o.mono (by omega)) λr1 c2 H2 k2 N g2 be=>?_;have G:BD c2 (w+16):=g2.bd (m:=w+16) (o.mono (by omega));simp only[ea,X];refine(aq.aO k2).st N (k1.trans k2) (by decide) One.int λI ar k b3 _=>?_;rw[b3.all];simp only[X];refine iM aj Z k (by have:=G.A;omega) ⟨18,-1,-1,r1,-1,-1,0,0,0,0,0,0,0⟩ λaa bf au=>?_;exact D n1 (by omega) (by rw[aee];exact ah g (by omega)) _ _ (ar.trans bf) au (g2.trans (GE.add (il (by decide) (by decide) cg cg be cg cg (.inr (.inl (by decide))) (.inr (.inl (by decide)))) (kj (.inr (by decide)))))
  · have n10:x.kind≠10:=by simpa using hc
    omega
 simp only[aE];apply aB<;>intro hc
 ·exact k1 _ ⟨λ_=> .inl (by simpa using hc),λ_=>hc⟩
 · refine k1 _ ⟨λe=> .inr (by simpa using e),λe=>?_⟩;have:x.kind≠4:=by simpa using hc
   simp;omega
theorem Xo(c:ll vars):∀x:aG,x.ok→CB C id vars x:=by refine aG.ind λx h1 d b=>?_;obtain⟨_,_,⟨l1,o1⟩,l2,o2⟩:=aG.fP b;exact Xn aj Z c b (CE aj Z l1 λy a=>h1 y a (o1 y a)) (CE aj Z l2 λy a=>d y a (o2 y a))
end
end Rb

namespace Rb
open Go
def og:LD:=⟨[],0,0,0,[],0,[]⟩
section
variable{C:Ctx}(aj:bX C)(Z:Cl (ae C) S.bg)(hg:∀x,bF (ae C) 72 [.str x] (.bool (fw x)))
include aj Z hg
theorem Xp{p:ew}(E:p.ok)(U:∀t∈p.dL,cr t≤100000000000){n:Int}{H:AH}{Q:ab}
  (s:∀(l k:Int)(H':AH),k≠0→Q (.ar [aA,O,.agg [I l,I k]]) H')
  (V:∀(tk:Tok)(A:List bM)(K sn:Nat)(H':AH),(∀o∈A,hh K sn o)→A.length≤16384→K≤100000000000→Q (.ar [.ax tk A.length (A.flatMap bM.cells),I (K:Nat),.agg [O,O]]) H') :
  ae C 4 [.agg p.cells,I n] H Q:=by
 have G:=E;obtain⟨⟨aW,hv⟩,aX,Y⟩:=E;have hm:=n_;refine S.Qv Z ?_;unfold S.f4;have aa:aM H false 2 (.agg p.cells)=some (.ak p.cells,H):=by unfold aM;rw[af ⟨rfl,rfl⟩];rfl
 have ac:∀H,W H 1 false (.ak (p.cells.drop 0))=some (aZ B.cells p.vars):=λ_=>rfl;have L:∀H,W H 1 false (.ak (p.cells.drop 1))=some (aZ jE p.dL):=λ_=>rfl;have ad:∀H,W H 2 true (.ak p.cells)=some (.agg p.cells):=λ_=>rfl;simp only[aa,aK,aQ,aT,el,X,ad];have ag:=At.new H (.row [O,O]);generalize aY:H.push (.row [O,O])=u at *;refine VM aj Z hg p G _ _ ?_;unfold KO;rw[cG _ _ _ 2 rfl rfl rfl];have M:=At.new u (.row [I (ic fw p).1,I (ic fw p).2]);have h:=ag.push (.row [I (ic fw p).1,I (ic fw p).2]);simp only[X,ea];generalize u.push (.row [I (ic fw p).1,I (ic fw p).2])=d at *;have l1:W d 1 false (.ptr u.n 1)=some (I (ic fw p).2):=by rw[M.load];rfl
 simp only[l1,X,dA,F];have ret:∀(f:AH)(a b:Int)(x r:J),At f H.n (.row [O,O])→(∀H',Q (.ar [x,r,.agg [I a,I b]]) H')→Do (au f 2 (.ptr H.n 0) (.agg [I a,I b])) λg=>Do (W g 2 true (.ptr H.n 0)) λy=>Q (.ar [x,r,y]) g:=λf a b x r i v=>by rw[i.put (n:=2) rfl rfl rfl];simp only[X];rw[(i.set _).all (n:=2) rfl];simp only[X];exact v _
 apply aB<;>intro e
 · rw[M.all (n:=2) rfl];simp only[X];exact ret d _ _ _ _ h λH'=>s _ _ H' (by simpa using e)
 have ah:(ic fw p).2=0:=by simpa using e
 have al:aD [O,O] [(1,1,I 1)]=some (.agg [O,I 1]):=rfl;have kB:aD [O,O] [(1,1,I 12)]=some (.agg [O,I 12]):=rfl;have am:aD [O,O] []=some (.agg [O,O]):=rfl;have an:∀k t,n=(k:Nat)→p.dL[k]?=some t→S.Ao (ae C) (I n) (.ak p.cells) (.ptr H.n 0) Q [] d:=by
  rintro k t rfl ht;obtain⟨m,ao⟩:=W1 G ah;obtain⟨hlen,ap⟩:=Y t (adl ht);have aq:=(aat.1 ht).1;have a0:=U t (adl ht);unfold S.Ao;simp only[el,ac,L,X];have a1:=m.l;refine V8 aj Z (by omega) hv _ _ ?_;have av:=Wd m.z m.e;unfold lV;rw[av,ai (by show ¬(0:Int)≠0;decide)];simp only[bo,adW,adX,X];rw[show aD [aA,aA,aA,O,O,aA,O,aA] [(0,1,aZ B.cells p.vars),(1,1,.ax .dead p.vars.length (fS p.vars (ij 0 p.vars)))]=some (.agg (jd p.vars (cZ p.vars) aA aA aA og))from rfl];simp only[X];have aw:aM d true 8 (.agg (jd p.vars (cZ p.vars) aA aA aA og))=some (.ptr d.n 0,d.push (.row (jd p.vars (cZ p.vars) aA aA aA og))):=rfl;rw[aw];simp only[aK];have az:=At.new d (.row (jd p.vars (cZ p.vars) aA aA aA og));have aF:=h.push (.row (jd p.vars (cZ p.vars) aA aA aA og));have aH:H.n<d.n:=h.1;generalize d.push (.row (jd p.vars (cZ p.vars) aA aA aA og))=f at *;have i:bB f d.n p.vars (cZ p.vars) aA og:=⟨⟨_,_,az,cH.nil _ _ _,cH.nil _ _ _,λt l c1 e=>(by cases e)⟩,cO.nil _ _,λj aI=>(by cases aI),λq v=>(by cases v)⟩
  rw[dF aq];simp only[X];have aJ:W f 1 false (eO jE 1 p.dL k)=some (aZ aG.cells t):=JF (c:=λl=>aZ aG.cells l) f ht;rw[aJ];simp only[X];refine CE aj Z (id:=d.n) (vars:=p.vars) (l:=t) (by omega) (λx aL=>Xo aj Z m x (ap x aL)) (w:=0) (ao t (adl ht)) i rfl ⟨by show 0+_≤_;omega,by show 0+_≤_;omega,by show 0+_≤_;omega,by show 0+_≤_;omega,by show 0+_≤_;omega⟩ λc' a2 g kb N gs a3=>?_;obtain⟨aN,aO,aP,go,_⟩:=gs.new;obtain⟨xo,xs,a6,P,_⟩:=N.x;have R:=kb.2 _ _ aH aF;have l2:W g 1 false (.ptr d.n 2)=some xo:=by rw[a6.load];rfl
  have l3:W g 1 false (.ptr d.n 3)=some (I (c'.K:Nat)):=N.qS;have T:c'.A=aN:=by rw[aO];rfl
  have aR:=P.one.2;obtain⟨tk,aS,_⟩:=P;simp only[aC,ea,X,l2,l3,aR,dy,F,am,kB];have a4:c'.A.length≤cr t:=by rw[T];exact aP
  apply aB<;>intro e
  ·exact ret g _ _ _ _ R λH'=>s _ _ H' (by decide)
  · have D:c'.A.length≤16384:=by
      have:¬(c'.A.length:Int)>16384:=by simpa using e
      omega
    rw[aS];have r1:c'.K≤0+cr t:=gs.r1;exact ret g _ _ _ _ R λH'=>V tk c'.A c'.K c'.sn H' (by rw[T];exact go) D (by omega)
 have k2:∀b:Bool,(b=true↔n<0∨(p.dL.length:Int)≤n)→S.uA (ae C) (I n) (.ak p.cells) (.ptr H.n 0) Q [.bool b] d:=by
  intro b aV;unfold S.uA;simp only[ay,F,al,X,aE];apply aB<;>intro e
  ·exact ret d _ _ _ _ h λH'=>s _ _ H' (by decide)
  · have a5:¬(n<0∨(p.dL.length:Int)≤n):=λq=>e (aV.2 q);obtain⟨k,rfl⟩:∃k:Nat,n=k:=⟨n.toNat,by omega⟩
    exact an k _ rfl (abm (show k<p.dL.length by omega))
 simp only[aU,X,ck,el,L,dY,ec,aE];apply ie<;>intro e
 · have D:¬n<0:=by simpa using e
   exact k2 _ ⟨λq=> .inr (by simpa using q),λq=>q.elim (λq=>absurd q D) λq=>(by simpa using q)⟩
 ·exact k2 true ⟨λ_=> .inl (by simpa using e),λ_=>rfl⟩
end
end Rb

namespace Rb
open Go
variable{H:AH}{Q:ab}{n id:Nat}
def b6:Nat→Int→Prop:=λ_ _=>True
theorem wN(h:n≤4000000000000000000):abF .i64 ((n:Int)+1)=((n+1:Nat):Int):=by rw[bJ,cN]
theorem wA{n m:Nat}(h:n+m≤4000000000000000000):abF .i64 ((n:Int)+(m:Int))=((n+m:Nat):Int):=by rw[bJ];omega
section
variable{C:Ctx}(Z:Cl (ae C) S.bg)
include Z
theorem LZ{v:Int}(a:Q (.bool (decide (v<0))) H):ae C 96 [I v] H Q:=by refine S.RX Z ?_;unfold S.f96;simp only[aU,X];exact a
theorem Xq(e:n≤1000000)(h:Rw 1 b6 H id n)(a:∀i:Nat,i<n→Q (I (i:Nat)) H)(b:Q (I (-1)) H):ae C 153 [.row id 0 n 1,.fn 96 []] H Q:=by
 refine S.SG Z ?_;unfold S.f153;simp only[j7,X];have main:∀(d i:Nat),i+d=n→av (S.wo (ae C) (.row id 0 n 1) (.fn 96 []) (I (n:Nat)) Q) ([I (i:Nat)],H):=by
  intro d;induction d with
  | zero=>intro i hi;refine av.step ?_;simp only[S.wo,ay,aU,X,F];rw[en];exact b
  | succ d c=>intro i hi;refine av.step ?_;simp only[S.wo,ay,aU,X,F];rw[e_,dH (by omega)];simp only[X];obtain⟨v,_,hv⟩:=h.ld1 (i:=i) (k:=0) (by omega) (by decide);rw[aa6]at hv;rw[hv];simp only[X];refine⟨_,_,rfl,?_⟩;refine LZ Z ?_;simp only[F,br,X,wN (show i≤4000000000000000000 by omega)];exact aB (λ_=>a i (by omega)) (λ_=>c (i+1) (by omega))
 exact main n 0 (by omega)
theorem Xr(o:n≤1000000)(h:Rw 1 b6 H id n)(l:∀m H',m≤n→Rw 1 b6 H' id n→KX (·= id) H H'→Q (.row id 0 m 1) H'):ae C 95 [.row id 0 n 1,.fn 96 []] H Q:=by
 refine S.RW Z ?_;unfold S.f95;have p:L aV true (Q (.row id 0 n 1) H) (Do (M .add (I (-1)) (I 1)) λq=>av (S.rf (ae C) (.row id 0 n 1) (.fn 96 []) Q) ([I (-1),q],H)):=l n H (hT _) h (KX.refl _);refine Xq Z o h (λi hi=>?_) ?_
 · simp only[bL,X,F];rw[jt];simp only[br,X,wN (show i≤4000000000000000000 by omega)];have main:∀(d i j:Nat)(H1:AH),j+d=n→i<j→Rw 1 b6 H1 id n→KX (·= id) H H1→av (S.rf (ae C) (.row id 0 n 1) (.fn 96 []) Q) ([I (i:Nat),I (j:Nat)],H1):=by
    intro d;induction d with
    | zero=>
     intro i j H1 g r h1 k1;refine av.step ?_;simp only[S.rf,ay,bY,j7,aU,X,F,aE];rw[en];unfold S.Hk;have e1:c6 1 (.row id 0 n 1) (some (I (i:Nat))) none none=some (.row id i (n-i) 1):=by simp only[c6,dV,aex];rw[af (show(0:Int)≤(i:Nat) by omega),abG];dsimp only;rw[af ⟨by omega,hT _,trivial⟩,af (.inr (by omega))];simp
     have s:c6 1 (.row id 0 n 1) none (some (I (i:Nat))) none=some (.row id 0 i 1):=by simp only[c6,dV,aex];rw[af (show(0:Int)≤(i:Nat) by omega),abG];dsimp only;rw[af ⟨by omega,by omega,trivial⟩,af (.inl rfl)];simp
     simp only[ay,e1,s,X];obtain⟨cs,a,b,c⟩:=h1;have t:c4 H1 (.clear 1 [O]) [.row id i (n-i) 1]=some (.ar [],H1.set id (.row (setCells cs i (VR (n-i) [O]).flatten))):=by simp only[c4];rw[bO,c.2];dsimp only;rw[af ⟨rfl,rfl,by omega⟩]
     have u:(VR (n-i) [O]).flatten=VR (n-i) (O):=by
      induction (n-i)with
      |zero=>rfl
      |succ k f=>rw[abz,abA,f];rfl
     rw[t];simp only[aK];refine l i _ (by omega) ⟨_,by rw[oA,a],λj g=>?_,c.set _⟩ (k1.tr (KX.set (S:=(·= id)) _ rfl _));rw[u,m_ _ _ _ _ (by rw[afo,a];omega),afo];split
     · rename_i x;exact⟨0,by rw[adh,cA],trivial⟩
     ·exact b j g
    | succ d f=>intro i j H1 g r h1 k1;refine av.step ?_;simp only[S.rf,ay,bY,j7,aU,X,F,aE];rw[e_,dH (by omega)];simp only[X];obtain⟨v,_,hv⟩:=h1.ld1 (i:=j) (k:=0) (by omega) (by decide);rw[aa6]at hv;rw[hv];simp only[X];refine⟨_,_,rfl,?_⟩;refine LZ Z ?_;simp only[dO,F,X,S.AK,ay,bY,br,wN (show i≤4000000000000000000 by omega),wN (show j≤4000000000000000000 by omega)];refine aB (λ_=>?_) (λ_=>f i (j+1) H1 (by omega) (by omega) h1 k1);rw[dH (by omega)];simp only[X];obtain⟨H2,e,w,k2⟩:=h1.st1 (i:=i) (k:=0) (by omega) (by decide) (v:=v) trivial;rw[aa6]at e;rw[e];simp only[X];exact f (i+1) (j+1) H2 (by omega) (by omega) w (k1.tr k2)
   exact main (n-(i+1)) i (i+1) H (by omega) (by omega) h (KX.refl _)
 · simp only[bL,X];exact p
theorem L0(a:n≤1000000)(h:Rw 1 b6 H id n)(b:∀m H',m≤n→Rw 1 b6 H' id n→KX (·= id) H H'→Q (.row id 0 m 1) H'):ae C 48 [.row id 0 n 1] H Q:=by refine S.Q8 Z ?_;unfold S.f48;exact Xr Z a h b
theorem CI{es:List J}(h:∀c∈es,∃v,c=I v)(H:AH):Rw 1 b6 (H.push (.row es)) H.n es.length:=⟨es,by omega,λj b=>by
  have a:j<es.length:=by omega
  obtain⟨v,hv⟩:=h es[j] (abu _);exact⟨v,by rw[abm a,hv],trivial⟩,At.new _ _⟩
def L1(H:AH)(Q:ab):Prop:=∀id m H',m≤3→H.n≤id→(∃n,m≤n∧Rw 1 b6 H' id n)→KX (λ_=>False) H H'→Q (.row id 0 m 1) H'
theorem Xt(o:bM)(d:L1 H Q):ae C 22 [.agg o.cells] H Q:=by
 refine S.QL Z ?_;unfold S.f22;have f:aM H false 13 (.agg o.cells)=some (.ak o.cells,H):=rfl;have l3:∀H,W H 1 false (.ak (o.cells.drop 3))=some (I o.a):=λ_=>rfl;have l4:∀H,W H 1 false (.ak (o.cells.drop 4))=some (I o.b):=λ_=>rfl;have g:∀H,W H 1 false (.ak (o.cells.drop 5))=some (I o.c):=λ_=>rfl;simp only[f,aK,el,X,l3,l4,g];rw[show cb H true 1 3 [O] [(0,1,I o.a),(1,1,I o.b),(2,1,I o.c)]=some (.row H.n 0 3 1,H.push (.row [I o.a,I o.b,I o.c]))from rfl];simp only[aK];have r:=CI Z (es:=[I o.a,I o.b,I o.c]) (λc hc=>by simp only[acU,afp,or_false]at hc;rcases hc with rfl|rfl|rfl<;>exact⟨_,rfl⟩) H
 refine L0 Z (by decide) r λm H' hm h1 k1=>?_;exact d H.n m H' hm (hT _) ⟨3,hm,h1⟩ ((KX.push _ _).trans k1 λi hi e=>by omega)
theorem Xu(o:bM)(a:L1 H Q):ae C 23 [.agg o.cells] H Q:=by
 refine S.QM Z ?_;unfold S.f23;have b:aM H false 13 (.agg o.cells)=some (.ak o.cells,H):=rfl;have l3:∀H,W H 1 false (.ak (o.cells.drop 1))=some (I o.dst):=λ_=>rfl;have l4:∀H,W H 1 false (.ak (o.cells.drop 2))=some (I o.lk):=λ_=>rfl;simp only[b,aK,el,X,l3,l4];rw[show cb H true 1 2 [O] [(0,1,I o.dst),(1,1,I o.lk)]=some (.row H.n 0 2 1,H.push (.row [I o.dst,I o.lk]))from rfl];simp only[aK];have r:=CI Z (es:=[I o.dst,I o.lk]) (λc hc=>by simp only[acU,afp,or_false]at hc;rcases hc with rfl|rfl<;>exact⟨_,rfl⟩) H
 refine L0 Z (by decide) r λm H' hm h1 k1=>?_;exact a H.n m H' (by omega) (hT _) ⟨2,hm,h1⟩ ((KX.push _ _).trans k1 λi hi e=>by omega)
theorem Xv{t:Nat}(ht:t≤1000000)(a:∀x H',(t=0∧x = aA∧H'=H)∨(x = .row H.n 0 0 1∧Rw 1 b6 H' H.n t∧KX (λ_=>False) H H')→Q x H'):ae C 47 [aA,I (t:Nat)] H Q:=by
 refine S.Q7 Z ?_;unfold S.f47;simp only[aU,X,F,aE];rw[jt];unfold S.Ax;have e1:kB (aA)=some (O):=rfl;have f:c6 1 aA none (some O) none=some (aA):=rfl;have w0:abF .i64 ((0:Int)-((0:Nat):Int))=0:=rfl;have w1:abF .i64 ((t:Int)-0)=t:=by rw[bJ];omega
 simp only[e1,f,iC,cM,dy,X,F,w0,w1];apply aB<;>intro e
 · have b:0<t:=by simpa using e
   have g:c4 H (.grow 1 8 [O]) [aA,I (t:Nat)]=some (.row H.n 0 t 1,H.push (.row (VR t [O]).flatten)):=by simp only[c4];rw[af ⟨by omega,by omega,by omega,rfl,by decide⟩,abG]
   rw[g];simp only[aK];rw [show c6 1 (.row H.n 0 t 1) none (some (I ((0:Nat):Int))) none=some (.row H.n 0 0 1)from by simp only[c6,dV,aex];rw[af (show(0:Int)≤((0:Nat):Int) by omega),abG];dsimp only;rw[af ⟨hT _,aa2 _,trivial⟩,af (.inl rfl)]]
   simp only[X];have d:∀t,(VR t [O]).flatten=VR t (O):=λt=>by
    induction t with
    |zero=>rfl
    |succ k h=>rw[abz,abA,h];rfl
   refine a _ _ (.inr ⟨rfl,?_,KX.push _ _⟩);have:=CI Z (es:=(VR t [O]).flatten) (λc hc=>by rw[d]at hc;exact⟨0,(List.mem_replicate.1 hc).2⟩) H
   rw[d]at this ⊢;rwa [afo]at this
 · have b:t=0:=by
     have:¬0<t:=by simpa using e
     omega
   exact a _ _ (.inl ⟨b,rfl,rfl⟩)
end
end Rb

namespace Rb
open Go Go.RowKit
variable{w w':World}{G:bn}{F:cJ}{H:AH}
theorem L2{b o:Nat}{V:Value}(h:w.cell? ⟨b,o,none⟩=some V):b<w.heap.size:=by
 unfold afq at h;split at h
 · rename_i a;exact(abd.1 a).1
 ·cases h
theorem L3(a:Below w.heap.size w w'):GLe w G w' G:=⟨hT _,λ_ _=>rfl,λ_ _=>rfl,λ_ _ h=>h,λb o V _ hc=>by rw[a.cell (p:=⟨b,o,none⟩) (L2 hc)];exact hc⟩
theorem Xw(d:Below w.heap.size w w'){i:Nat}{x:bS}(h:e8 F w G i x):e8 F w' G i x:=by
 have l:=L3 (G:=G) d;cases x with
 | row cs=>obtain⟨c,e,h1,a,f,g⟩:=h;refine⟨c,e,by rw[d.block _ (abd.1 h1).1];exact h1,a,f,λj c n=>?_⟩;obtain⟨V,o,p⟩:=g j c n;exact⟨V,o,p.mono l⟩
 | tok k sz=>obtain⟨c,e,h1,a,f,g⟩:=h;exact⟨c,e,by rw[d.block _ (abd.1 h1).1];exact h1,a,f,g⟩
 | map es=>obtain⟨c,e,h1,a,f,g⟩:=h;refine⟨c,e,by rw[d.block _ (abd.1 h1).1];exact h1,a,f,λj k v n=>?_⟩;obtain⟨m,o,p,q⟩:=g j k v n;exact⟨m,o,p.mono l,q.mono l⟩
 | fD s pos=>obtain⟨h1,a⟩:=h;exact⟨by rw[d.block _ (abd.1 h1).1];exact h1,a⟩
 | h0 T u b=>obtain⟨v,h1,a⟩:=h;exact⟨v,by rw[d.block _ (abd.1 h1).1];exact h1,a⟩
 | kq U bs=>obtain⟨c,z,h1,a⟩:=h;exact⟨c,z,by rw[d.block _ (abd.1 h1).1];exact h1,a⟩
 |gone=>trivial
theorem Xx(a:Below w.heap.size w w')(h:Rel F w G H):Rel F w' G H:=
 ⟨h.n,h.over,λi=>Xw a (h.obj i),h.eW,λb o hf=>by obtain⟨V,c⟩:=h.eX b o hf;exact⟨V,by rw[a.cell (p:=⟨b,o,none⟩) (L2 c)];exact c⟩⟩
theorem Xy(a:Below w.heap.size w w')(b:w.drawn≤w'.drawn)(h:Rel F w G H):Step w G H w' G H:=
 { L3 a with
   size:=a.size
   os:=a.os
   tape:=a.tape
   output:=a.output
   dr:=b
   dv:=λk hk _=>a.block k hk
   owned:=λi hl _=>⟨i,hl,rfl⟩
   eY:=λ_ _ hf=> .inl hf}
end Rb

namespace Rb
open Go
def ct(p:Int×Int):List J:=[I p.1,I p.2]
end Rb

namespace Rb
open Go
variable{H:AH}{R:Int→J→Prop}{id:Nat}
section
variable{C:Ctx}(Z:Cl (ae C) S.bg)
include Z
theorem Xz{i1 d m1 m2 n1 n2:Nat}(q:Rw 1 b6 H i1 n1)(l1:m1≤n1)(s:Rw 1 b6 H d n2)(l2:m2≤n2)(b1:m1≤3)(b2:m2≤3){Q:ab}
  (l:∀x H',Ls 1 b6 (λi=>H.n≤i) H' x (m1+m2)→KX (λ_=>False) H H'→Q x H'):ae C 21 [.ax .full 2 [.row i1 0 m1 1,.row d 0 m2 1]] H Q:=by
 refine S.QK Z ?_;unfold S.f21;have e0:aL none 1 (.ax .full 2 [.row i1 0 m1 1,.row d 0 m2 1]) (O)=some (.ak [.row i1 0 m1 1,.row d 0 m2 1]):=rfl;have e1:aL none 1 (.ax .full 2 [.row i1 0 m1 1,.row d 0 m2 1]) (I 1)=some (.ak [.row d 0 m2 1]):=rfl;have d0:∀H,W H 1 false (.ak [J.row i1 0 m1 1,.row d 0 m2 1])=some (.row i1 0 m1 1):=λ_=>rfl;have d1:∀H,W H 1 false (.ak [J.row d 0 m2 1])=some (.row d 0 m2 1):=λ_=>rfl;have w1:abF .i64 ((0:Int)+1)=1:=rfl;have w2:abF .i64 ((1:Int)+1)=2:=rfl;have w3:abF .i64 ((0:Int)+(m1:Int))=(m1:Int):=by rw[bJ];omega
 have u:abF .i64 ((m1:Int)+(m2:Int))=((m1+m2:Nat):Int):=wA (by omega);simp only[iC,X];have t0:decide ((0:Int)<((2:Nat):Int))=true:=rfl;have t1:decide ((1:Int)<((2:Nat):Int))=true:=rfl;have t2:decide ((2:Int)<((2:Nat):Int))=false:=rfl;refine av.step ?_;simp only[S.uV,ay,bY,aU,t0,X,F,aT,e0,d0,j7,br,w3,aE];rw[jt];simp only[S.uT,ay,bY,br,w1,X];refine av.step ?_;simp only[S.uV,ay,bY,aU,t1,X,F,aT,e1,d1,j7,br,u,aE];rw[en];simp only[S.uT,ay,bY,br,w2,X];refine av.step ?_;simp only[S.uV,ay,bY,aU,t2,X,F,acq,bz,aE,S.FX];refine Xv Z (t:=m1+m2) (by omega) λo H0 g0=>?_;have fin:∀{x:J}{H1:AH}{len:Nat}{i m n:Nat},Rw 1 b6 H i n→m≤n→m≤3→len≤3→len+m≤m1+m2→((m1+m2=0∧x = aA∧H1=H∧len=0)∨(x = .row H.n 0 len 1∧Rw 1 b6 H1 H.n (m1+m2)∧KX (λ_=>False) H H1)) →
   ∃f H2,bR H1 false 1 8 x (.row i 0 m 1)=some (f,H2)∧((m1+m2=0∧f = aA∧H2=H∧len+m=0)∨(f = .row H.n 0 (len+m) 1∧Rw 1 b6 H2 H.n (m1+m2)∧KX (λ_=>False) H H2)):=by
  intro x H1 len i m n p hm A hl hs v;rcases v with⟨z,rfl,rfl,rfl⟩|⟨rfl,r,k⟩
  · obtain⟨es,hc,he⟩:=p.cells hm;refine⟨_,_,?_,.inl ⟨z,rfl,rfl,by omega⟩⟩;obtain rfl:m=0:=by omega
    simp only[bR,hc,he.scalar,not_true_eq_false,bz,aT]
  · obtain⟨es,hc,he⟩:=(p.kx k λh=>h).cells hm;obtain⟨H2,e,w,k2⟩:=r.app (mu:=false) (bytes:=8) hc he hs (by omega) (by omega);exact⟨_,H2,e,.inr ⟨rfl,w,k.trans k2 λj B e=>by omega⟩⟩
 have y:(m1+m2=0∧o = aA∧H0=H∧0=0)∨(o = .row H.n 0 0 1∧Rw 1 b6 H0 H.n (m1+m2)∧KX (λ_=>False) H H0):=by
  rcases g0 with⟨a,b,c⟩|g
  ·exact .inl ⟨a,b,c,rfl⟩
  ·exact .inr g
 simp only[iC,X];obtain⟨D,H1,Y,g1⟩:=fin q l1 b1 (aa2 _) (by omega) y;obtain⟨E,H2,a2,g2⟩:=fin s l2 b2 (by omega) (by omega) g1;refine av.step ?_;simp only[S.uU,ay,bY,aU,t0,X,F,aT,e0,d0,Y,aK,br,w1];refine av.step ?_;simp only[S.uU,ay,bY,aU,t1,X,F,aT,e1,d1,a2,aK,br,w2];refine av.step ?_;simp only[S.uU,ay,bY,aU,t2,X,F,acq,bz];rw[abg]at g2;rcases g2 with⟨z,rfl,rfl,_⟩|⟨rfl,r,k⟩
 ·exact l _ _ (.inl ⟨rfl,z⟩) (KX.refl _)
 ·exact l _ _ (.inr ⟨_,_,rfl,hT _,r,hT _⟩) k
end
def fx(R:Int→J→Prop)(es:List (J×J)):Prop:=∀e∈es,∃k,e.1 = I k∧R k e.2
theorem CJ{R:Int→J→Prop}{k:Int}:∀{es:List (J×J)}{i:Nat},fx R es→(fG .n (I k) es i=some none∧∀e∈es,e.1 ≠ I k)∨∃j v,fG .n (I k) es i=some (some (i+j,v))∧es[j]?=some (I k,v)∧R k v
 |[],i,h=> .inl ⟨rfl,λe he=>by cases he⟩
 | (a, b)::r,i,h=>by
  obtain⟨k',e,c⟩:=h _ (acW ..);dsimp only at e c;subst e;unfold fG;have f:mX .n (I k) (I k')=some (k==k'):=rfl;rw[f];by_cases hk:k=k'
  · subst hk;right;refine⟨0,b,?_,rfl,c⟩;simp
  · rw [show(k==k')=false by simpa using hk];rcases CJ (k:=k) (i:=i+1) (λe he=>h e (acV _ he))with d|⟨j,v,h1,g,l⟩
    · refine .inl ⟨d.1,λe he=>?_⟩;rcases acU.1 he with rfl|he
      ·exact λq=>hk (by cases q;rfl)
      ·exact d.2 e he
    ·exact .inr ⟨j+1,v,by dsimp only;rw[h1,Nat.add_assoc,afm 1 j],g,l⟩
theorem sj{es:List (J×J)}(h:At H id (.map es))(d:fx R es)(b:J)(a:Bool)(k:Int) :
  (fX H .n b a (.map id) (I k)=some (gh a b false)∧∀e∈es,e.1 ≠ I k)∨∃(j:Nat) (v:J),fX H .n b a (.map id) (I k)=some (gh a v true)∧es[j]?=some (I k,v)∧R k v:=by
 have e:fX H .n b a (.map id) (I k)=(fG .n (I k) es 0).map λr=>(match r with|some (_,v)=>gh a v true|none=>gh a b false):=by simp only[fX,h.2];rfl
 rw[e];rcases CJ (k:=k) (i:=0) d with c|⟨j,v,h1,f,g⟩
 ·rw[c.1];exact .inl ⟨rfl,c.2⟩
 ·rw[h1];exact .inr ⟨j,v,rfl,f,g⟩
theorem CK{es:List (J×J)}(h:At H id (.map es))(b:fx R es)(k:Int){v:J}(hv:v.known=true)(c:R k v) :
  ∃a,jm H .n (.map id) (I k) v=some (H.set id (.map a))∧fx R a∧a.length≤es.length+1∧(I k,v)∈a:=by
 have e : jm H .n (.map id) (I k) v=(fG .n (I k) es 0).map λr=>(match r with
       |some (i,_)=>H.set id (.map (es.set i (I k,v)))
       |none=>H.set id (.map (es++[(I k,v)]))):=by
   simp only[jm,h.2];rw[af ⟨rfl,hv⟩];rfl
 rw[e];rcases CJ (k:=k) (i:=0) b with d|⟨j,w,h1,f,g⟩
 · rw [d.1];refine⟨_,rfl,λe he=>?_,by simp,by simp⟩;rcases acN.1 he with he|he
   ·exact b e he
   · rw[afh]at he;subst he;exact⟨k,rfl,c⟩
 · rw [h1];refine⟨_,rfl,λe he=>?_,by simp,by rw[abg];exact List.mem_iff_getElem?.2 ⟨j,List.getElem?_set_self (aat.1 f).1⟩⟩;rcases List.mem_or_eq_of_mem_set he with he|he
   ·exact b e he
   · subst he;exact⟨k,rfl,c⟩
end Rb

namespace Rb
open Go
variable{H:AH}{x:J}{len:Nat}
structure Iv where
 r:Int
 f:Int
 t:Int
def Iv.cells(i:Iv):List J:=[I i.r,I i.f,I i.t]
theorem CL:∀l:List Iv,(l.flatMap Iv.cells).length=l.length*3
 |[]=>rfl
 |x::r=>by rw[adR,ad9,CL r,aeO];show 3+_=_;omega
theorem CM:∀(l:List Iv)(k:Nat)(x:Iv),l[k]?=some x→(l.flatMap Iv.cells)[k*3]?=some (I x.r)∧(l.flatMap Iv.cells)[k*3+1]?=some (I x.f)∧(l.flatMap Iv.cells)[k*3+2]?=some (I x.t)
 |[],k,x,h=>by simp at h
 | y::r,0,x,h=>by simp at h;subst h;exact⟨rfl,rfl,rfl⟩
 | y::r,k+1,x,h=>by have:=CM r k x (by simpa using h);rw[show(k+1)*3=k*3+3 by omega];exact this
theorem L4:∀(l:List Iv)(k:Nat)(x:Iv)(T:Int),l[k]?=some x→(l.flatMap Iv.cells).set (k*3+2) (I T)=(l.set k {x with t:=T}).flatMap Iv.cells
 |[],k,x,T,h=>by simp at h
 | y::r,0,x,T,h=>by simp at h;subst h;rfl
 | y::r,k+1,x,T,h=>by have:=L4 r k x T (by simpa using h);rw[show(k+1)*3+2=(k*3+2)+3 by omega];show I y.r :: I y.f :: I y.t::(r.flatMap Iv.cells).set (k*3+2) _=_;rw[this];rfl
theorem L5:∀(n:Nat)(cs:List J),cs.length=n*3→(∀j,j<n*3→∃v,cs[j]?=some (I v)∧True)→∃l:List Iv,l.length=n∧cs=l.flatMap Iv.cells
 |0,cs,h,_=>⟨[],rfl,afk (by omega)⟩
 | n + 1,cs,h,hv=>by
  match cs,h with
  | a::b::c::r,h=>
   obtain ⟨l,hl,e⟩:=L5 n r (by simp at h;omega) λj i=>by have:=hv (j+3) (by omega);exact this
   obtain⟨x,d,_⟩:=hv 0 (by omega);obtain⟨y,f,_⟩:=hv 1 (by omega);obtain⟨z,g,_⟩:=hv 2 (by omega);cases d;cases f;cases g;exact⟨⟨x,y,z⟩::l,by simp[hl],by rw[adR,←e];rfl⟩
  |[],h=>simp at h
  |[_],h=>simp at h;omega
  |[_,_],h=>simp at h;omega
def ff(M:Int):List Iv→Nat
 |[]=>0
 |x::r=>(M-x.t).toNat+ff M r
theorem L6{M T:Int}(Z:T≤M):∀(l:List Iv)(k:Nat)(x:Iv),l[k]?=some x→x.t<T→ff M (l.set k {x with t:=T})<ff M l
 |[],k,x,h,_=>by simp at h
 | y::r,0,x,h,ht=>by simp at h;subst h;show(M-T).toNat+ff M r<(M-y.t).toNat+ff M r;omega
 | y::r,k+1,x,h,ht=>by have:=L6 Z r k x (by simpa using h) ht;show(M-y.t).toNat+ff M (r.set k _)<(M-y.t).toNat+ff M r;omega
def OV(H:AH)(S:Nat→Prop)(x:J)(len:Nat)(l:List Iv):Prop:=(x = aA∧len=0)∨∃id,x = .row id 0 len 3∧len≤l.length∧At H id (.row (l.flatMap Iv.cells))∧S id
theorem Ls.ov{S:Nat→Prop}(h:Ls 3 b6 S H x len):∃l,OV H S x len l:=by
 rcases h with⟨rfl,rfl⟩|⟨id,n,rfl,d,⟨cs,a,b,c⟩,hS⟩
 ·exact⟨[],.inl ⟨rfl,rfl⟩⟩
 · obtain⟨l,hl,rfl⟩:=L5 n cs a b;exact⟨l,.inr ⟨id,rfl,by omega,c,hS⟩⟩
section
variable{C:Ctx}(Z:Cl (ae C) S.bg)
include Z
theorem XA{U:Nat→Prop}{l:List Iv}(h:OV H U x len l)(hl:len≤1000000000){M:Int}{p:Int×Int}(g:p.2≤M){Q:ab}
  (j:∀(b:Bool) l' H',OV H' U x len l'→KX U H H'→ff M l'≤ff M l→(b=true→ff M l'<ff M l)→Q (.bool b) H'):ae C 25 [x,.agg (ct p)] H Q:=by
 refine S.QO Z ?_;unfold S.f25;have m:aM H false 2 (.agg (ct p))=some (.ak (ct p),H):=rfl;have n:∀H,W H 1 false (.ak ((ct p).drop 0))=some (I p.1):=λ_=>rfl;have p1:∀H,W H 1 false (.ak ((ct p).drop 1))=some (I p.2):=λ_=>rfl;have hlen:aY false x=some (I len):=by rcases h with⟨rfl,rfl⟩|⟨id,rfl,_⟩<;>rfl
 simp only[m,aK,hlen,X];have main:∀(d i:Nat)(b:Bool)(l1:List Iv)(H1:AH),i+d=len→OV H1 U x len l1→KX U H H1→ff M l1≤ff M l→(b=true→ff M l1<ff M l)→av (S.q3 (ae C) x (.ak (ct p)) (I (len:Nat)) Q) ([.bool b,I (i:Nat)],H1):=by
  intro d;induction d with
  | zero=>intro i b l1 H1 hi h1 k1 m1 m2;refine av.step ?_;simp only[S.q3,ay,bY,aU,X,F];rw[en];exact j b l1 H1 h1 k1 m1 m2
  | succ d f=>
   intro i b l1 H1 hi h1 k1 m1 m2;refine av.step ?_;simp only[S.q3,ay,bY,aU,X,F];rw[e_];have o:=h1;rcases h1 with⟨rfl,e⟩|⟨id,rfl,hle,a,hS⟩
   ·omega
   rw[dH (by omega)];have hk:i<l1.length:=by omega
   obtain⟨g0,g1,g2⟩:=CM l1 i l1[i] (abm hk);have q:=CL l1;have ld:∀k v,(l1.flatMap Iv.cells)[i*3+k]?=some v→W H1 1 false (.ptr id (i*3+k))=some v:=λk v hv=>by rw[a.load];unfold bE;rw[af (by have:=(aat.1 hv).1;omega),dC];exact hv
   have c:S.pH (ae C) (.ak (ct p)) (.ptr id (i*3)) ([.bool b,I (i:Nat)],H1) (av (S.q3 (ae C) (.row id 0 len 3) (.ak (ct p)) (I (len:Nat)) Q)) Q [P] H1:=by simp only[S.pH,ay,F,acq,bz,aE,S.uX,bY,br,X,wN (show i≤4000000000000000000 by omega)];exact f (i+1) b l1 H1 (by omega) o k1 m1 m2
   simp only[X,aC,aa,ld 1 _ g1,ad3,n,aU,cx,aE,show W H1 1 false (.ak (ct p))=some (I p.1)from rfl];refine aB (λ_=>?_) (λ_=>c);simp only[ld 2 _ g2,X,ec,cx];refine aB (λ_=>?_) (λ_=>c);simp only[p1,X,aU];by_cases hc:l1[i].t<p.2
   · rw[show decide (l1[i].t<p.2)=true by simpa using hc];simp only[S.pH,ay,F,aT,aa,aC,p1,X,aE];rw[a.store,af ⟨rfl,rfl,rfl,by show i*3+2+1≤_;omega⟩];simp only[X,S.uX,ay,bY,br,wN (show i≤4000000000000000000 by omega)];rw[show setCells (l1.flatMap Iv.cells) (i*3+2) (I p.2).cells=(l1.flatMap Iv.cells).set (i*3+2) (I p.2)from rfl,L4 l1 i l1[i] p.2 (abm hk)];have r:=L6 g l1 i l1[i] (abm hk) hc;exact f (i+1) true _ _ (by omega) (.inr ⟨id,rfl,by rw[acT];omega,a.set _,hS⟩) (k1.tr (KX.set _ hS _)) (by omega) (λ_=>by omega)
   · rw[show decide (l1[i].t<p.2)=false by simpa using hc];exact c
 exact main len 0 false l H (by omega) h (KX.refl _) (hT _) (λe=>by cases e)
end
end Rb

namespace Rb
open Go
variable{H:AH}{A:List bM}{k:Nat}
theorem L7{H a H2:AH}(h:Left H.n a H2)(k:KX (λ_=>False) H a):KX (λ_=>False) H H2:=⟨np k.1 h.1,λi hi hs=>by have:=h.2 i (a.o i) ⟨sl hi k.1,rfl⟩ (.inl hi);rw[this.2];exact k.2 i hi hs⟩
theorem CN{o:bM}(h:A[k]?=some o)(tk:Tok):aL none 13 (.ax tk A.length (A.flatMap bM.cells)) (I (k:Nat))=some (eO bM.cells 13 A k)∧∀H,W H 13 true (eO bM.cells 13 A k)=some (.agg o.cells):=⟨dF (cells:=bM.cells) (sz:=13) (aat.1 h).1,λH=>eh (cells:=bM.cells) bM.len (by decide) H h⟩
theorem L8{A:List (Int×Int)}{o:Int×Int}(h:A[k]?=some o)(tk:Tok):aL none 2 (.ax tk A.length (A.flatMap ct)) (I (k:Nat))=some (eO ct 2 A k)∧∀H,W H 2 true (eO ct 2 A k)=some (.agg (ct o)):=⟨dF (cells:=ct) (sz:=2) (aat.1 h).1,λH=>eh (cells:=ct) (λ_=>rfl) (by decide) H h⟩
theorem L9:∀l:List (Int×Int),(l.flatMap ct).length=l.length*2
 |[]=>rfl
 |x::r=>by rw[adR,ad9,L9 r,aeO];show 2+_=_;omega
def L_(_:Int)(v:J):Prop:=∃n,v = I n
abbrev CO:List J:=[O,O,O,O,O,O,u 0,O,O,O,O,O,O]
section
variable{C:Ctx}(Z:Cl (ae C) S.bg)
include Z
theorem XB(P:A.length≤1000000){tk:Tok}{Q:ab}(z:∀tk (f:List (Int×Int)) H',f.length≤A.length→KX (λ_=>False) H H'→Q (.ax tk f.length (f.flatMap ct)) H') :
  ae C 24 [.ax tk A.length (A.flatMap bM.cells)] H Q:=by
 refine S.QN Z ?_;unfold S.f24;simp only[iC,X];have main:∀(d i:Nat)(x:J)(f:List (Int×Int)) (es:List (J×J)) (H1:AH),i+d=A.length→cH H.n H1 2 x f.length (f.flatMap ct)→f.length≤i→At H1 H.n (.map es)→fx L_ es→KX (λ_=>False) H H1 →
   av (S.pG (ae C) (.ax tk A.length (A.flatMap bM.cells)) (I (A.length:Nat)) H Q) ([x,I (i:Nat)],H1):=by
  intro d;induction d with
  | zero=>intro i x f es H1 hi w hl hm hk k1;refine av.step ?_;simp only[S.pG,ay,bY,aU,X,F];rw[en];obtain⟨B,rfl,_⟩:=w;exact z B f H1 (by omega) k1
  | succ d D=>
   intro i x f es H1 hi w hl hm hk k1;refine av.step ?_;simp only[S.pG,ay,bY,aU,X,F];rw[e_];have E:i<A.length:=by omega
   obtain⟨o,G⟩:∃o,A[i]?=some o:=⟨_,abm E⟩
   obtain⟨e1,K⟩:=CN G tk;rw[e1];simp only[X,K,aQ,aT,aK];rw[cG H1 CO o.cells 13 rfl rfl rfl];simp only[X,aa,ey,abg,show bE o.cells 0 1 false=some (I o.kind)from rfl,show bE o.cells 10 1 false=some (I o.cW)from rfl,bL,F,aE];have s:cH H.n (H1.push (.row o.cells)) 2 x f.length (f.flatMap ct):=w.frame λt a b h=>h.push _;have l:At (H1.push (.row o.cells)) H.n (.map es):=hm.push _;have k2:KX (λ_=>False) H (H1.push (.row o.cells)):=k1.tr (KX.push _ _);have lx:∀k v,bE o.cells k 1 false=some v→W (H1.push (.row o.cells)) 1 false (.ptr H1.n k)=some v:=λk v hv=>by rw[ey];exact hv
   have l10:=lx 10 _ (show bE o.cells 10 1 false=some (I o.cW)from rfl);have hH:H1.n+1=(H1.push (.row o.cells)).n:=rfl;generalize R:H1.push (.row o.cells)=H2 at *;have u:∀(p:J)(r:List (Int×Int)) (q:List (J×J)) (g:AH),cH H.n g 2 p r.length (r.flatMap ct)→r.length≤i+1→At g H.n (.map q)→fx L_ q→KX (λ_=>False) H g →
     S.pF (ae C) ([x,I (i:Nat)],H1) (av (S.pG (ae C) (.ax tk A.length (A.flatMap bM.cells)) (I (A.length:Nat)) H Q)) Q [p] g:=by
    intro p r q g a b c L e;simp only[S.pF,ay,bY,br,X,wN (show i≤4000000000000000000 by omega)];exact D (i+1) p r q g (by omega) a b c L e
   have y:∀b:Bool,S.uW (ae C) (.ptr H1.n 0) H ([x,I (i:Nat)],H1) (av (S.pG (ae C) (.ax tk A.length (A.flatMap bM.cells)) (I (A.length:Nat)) H Q)) Q [.bool b] H2:=by
    intro b;simp only[S.uW,ay,bY,F,aa,abg,l10,X,aE];refine aB (λ_=>?_) (λ_=>u x f es H2 s (by omega) l hk k2);rcases sj l hk O true o.cW with⟨h,_⟩|⟨j,v,h,_,⟨n,rfl⟩⟩
    · rw[h];simp only[X,gh,aT,bo,adW,adX,F,acq,bz];exact u x f es H2 s (by omega) l hk k2
    · rw[h];simp only[X,gh,aT,bo,adW,adX,F];rw[show aD [O,O] [(0,1,I n),(1,1,I (i:Nat))]=some (.agg (ct (n,(i:Int))))from rfl];simp only[X];rw[show cb H2 false 2 1 [O,O] [(0,2,.agg (ct (n,(i:Int))))]=some (.ax .full 1 (ct (n,(i:Int))),H2)from rfl];simp only[aK];refine s.app (n0:=H.n) k2.1 (m:=1) (news:=ct (n,(i:Int))) rfl rfl rfl (by decide) (by omega) (by omega) λp g a b=>?_;refine u p (f++[(n,(i:Int))]) es g ?_ (by simp;omega) (b.2 _ _ l (.inr λ_ _ e=>by cases e)) hk (L7 b k2);rw[ad9,afd];exact a
   apply aB<;>intro _
   · obtain⟨q,M,N,_,_⟩:=CK l hk o.cW (v:= I (i:Nat)) rfl ⟨_,rfl⟩;rw[M];simp only[X];refine u x f q _ (s.frame λt a b h=>h.cd (λe=>?_) _) (by omega) (l.set _) N (k2.trans (KX.set (S:=(·= H.n)) _ rfl _) λi hi e=>by omega);subst e;have:=h.2.symm.trans l.2;cases this
   ·refine aB (λ_=>y _) (λ_=>y _)
 exact main A.length 0 _ [] [] _ (by omega) (cH.nil _ _ _) (hT _) (At.new _ _) (λe he=>by cases he) (KX.push _ _)
end
end Rb

namespace Rb
open Go
variable{H H':AH}{l:List Iv}{U:Nat→Prop}{x:J}{len:Nat}
def sk(H:AH)(k:Int)(v:J):Prop:=∃b,v = .ptr b 0∧Rw 3 b6 H b 1
theorem sk.kx{S:Nat→Prop}(k:KX S H H')(hs:∀i,i<H.n→¬S i){x:Int}{v:J}(h:sk H x v):sk H' x v:=by obtain⟨b,e,r⟩:=h;exact⟨b,e,r.kx k (hs b r.lt)⟩
theorem fx.imp{R c:Int→J→Prop}{es:List (J×J)}(h:fx R es)(f:∀k v,R k v→c k v):fx c es:=λe he=>by obtain⟨k,a,b⟩:=h e he;exact⟨k,a,f k _ b⟩
def iO(n:Nat)(e:J×J):Bool:=match e.1 with | .int _ k=>decide (k<n)|_=>false
theorem Ma(n:Nat)(es:List (J×J)):(es.filter (iO n)).length≤es.length:=List.length_filter_le _ _
theorem CP(n:Nat):∀es:List (J×J),(es.filter (iO n)).length≤(es.filter (iO (n+1))).length
 |[]=>hT _
 | e :: r=>by
  have a:=CP n r;rw[afn,afn];by_cases h:iO n e=true
  · have b:iO (n+1) e=true:=by
      unfold iO at h ⊢;split at h
      ·simp at h ⊢;omega
      ·cases h
    rw[af h,af b];simp;exact a
  · rw[ai h];split
    ·simp;omega
    ·exact a
theorem Mb{n:Nat}{v:J}:∀{es:List (J×J)},(I (n:Nat),v)∈es→(es.filter (iO n)).length+1≤(es.filter (iO (n+1))).length
 |[],h=>by cases h
 | e :: r,h=>by
  rw[afn,afn];rcases acU.1 h with rfl|h
  · rw[ai (by simp[iO]),af (by simp[iO];omega)];have:=CP n r;simp;omega
  · have b:=Mb h;by_cases a:iO n e=true
    · have c:iO (n+1) e=true:=by
        unfold iO at a ⊢;split at a
        ·simp at a ⊢;omega
        ·cases a
      rw[af a,af c];simp;omega
    · rw[ai a];split
      ·simp;omega
      ·exact b
theorem Mc:∀b:List (Int×Int),∃M:Int,∀p∈b,p.2≤M
 |[]=>⟨0,λp c=>by cases c⟩
 | p::r=>by
  obtain⟨M,h⟩:=Mc r;refine⟨max p.2 M,λq a=>?_⟩;rcases acU.1 a with rfl|a
  ·omega
  ·have:=h q a;omega
theorem Md{id:Nat}(h:At H id (.row (l.flatMap Iv.cells))):Rw 3 b6 H id l.length:=by
 refine⟨_,CL l,λj a=>?_,h⟩;have hk:j/3<l.length:=by omega
 obtain⟨g0,g1,g2⟩:=CM l (j/3) l[j/3] (abm hk);have:j=j/3*3∨j=j/3*3+1∨j=j/3*3+2:=by omega
 rcases this with e|e|e<;>rw[e]
 ·exact⟨_,g0,trivial⟩
 ·exact⟨_,g1,trivial⟩
 ·exact⟨_,g2,trivial⟩
theorem OV.ls(h:OV H U x len l):Ls 3 b6 U H x len:=by
 rcases h with h|⟨id,e,hl,a,u⟩
 ·exact .inl h
 ·exact .inr ⟨id,_,e,hl,Md a,u⟩
theorem OV.kx{U T:Nat→Prop}(h:OV H U x len l)(k:KX T H H')(hs:∀i,i<H.n→U i→¬T i):OV H' U x len l:=by
 rcases h with h|⟨id,e,hl,a,u⟩
 ·exact .inl h
 ·exact .inr ⟨id,e,hl,k.at a (hs _ a.1 u),u⟩
section
variable{C:Ctx}(Z:Cl (ae C) S.bg)
include Z
theorem XC{a0:J}(h:OV H U x len l)(hl:len≤1000000000){tk:Tok}{a:List (Int×Int)}(u:a.length≤1000000000){Q:ab}
  (m:∀H',Ls 3 b6 U H' x len→KX U H H'→Q x H'):av (S.pB (ae C) (.ax tk a.length (a.flatMap ct)) [x] Q) ([aV],H):=by
 obtain⟨M,n⟩:=Mc a;have main:∀(k:Nat)(l1:List Iv)(H1:AH),ff M l1≤k→OV H1 U x len l1→KX U H H1→av (S.pB (ae C) (.ax tk a.length (a.flatMap ct)) [x] Q) ([aV],H1):=by
  intro k;induction k using afj with
  |ind k o=>
  intro l1 H1 hk h1 k1;refine av.step ?_;simp only[S.pB,ay,F,aT,iC,X];have inner:∀(d i:Nat)(b:Bool)(l2:List Iv)(H2:AH),i+d=a.length→OV H2 U x len l2→KX U H H2→ff M l2≤ff M l1→(b=true→ff M l2<ff M l1) →
    av (S.uF (ae C) (.ax tk a.length (a.flatMap ct)) (I (a.length:Nat)) [x] (av (S.pB (ae C) (.ax tk a.length (a.flatMap ct)) [x] Q)) Q) ([.bool b,I (i:Nat)],H2):=by
   intro d;induction d with
   | zero=>
    intro i b l2 H2 hi c k2 m1 m2;refine av.step ?_;simp only[S.uF,ay,bY,aU,X,F];rw[en];cases b with
    | true=>have:=m2 rfl;exact o (ff M l2) (by omega) l2 H2 (hT _) c k2
    | false=>refine av.step ?_;simp only[S.pB,ay,F,acq,bz];exact m H2 c.ls k2
   | succ d f=>
    intro i b l2 H2 hi c k2 m1 m2;refine av.step ?_;simp only[S.uF,ay,bY,aU,X,F];rw[e_];obtain⟨p,g⟩:∃p,a[i]?=some p:=⟨_,abm (by omega)⟩
    obtain⟨e1,r⟩:=L8 g tk;rw[e1];simp only[X,r,aQ,aT,aK];rw[cG H2 [O,O] (ct p) 2 rfl rfl rfl];simp only[X,ey,show bE (ct p) 0 2 true=some (.agg (ct p))from rfl];have s:OV (H2.push (.row (ct p))) U x len l2:=c.kx (KX.push (S:=λ_=>False) _ _) λ_ _ _ h=>h;refine XA Z s hl (n p (adl g)) λv l' H' j k' w t=>?_;have kk:KX U H H':=(k2.tr (KX.push _ _)).tr k';simp only[ck,aE,S.Aq,ay,bY,br,X,wN (show i≤4000000000000000000 by omega)];apply nP<;>intro e
    ·exact f (i+1) b l' H' (by omega) j kk (by omega) (λq=>by have:=m2 q;omega)
    ·exact f (i+1) true l' H' (by omega) j kk (by omega) (λ_=>by have:=t e;omega)
  exact inner a.length 0 false l1 H1 (by omega) h1 k1 (hT _) (λe=>by cases e)
 exact main (ff M l) l H (hT _) h (KX.refl _)
theorem XD{A:List bM}(G:A.length≤100000){tk:Tok}{K:Nat}(L:K≤100000000000){H a:AH}{es:List (J×J)}(m:At a H.n (.map es))(q:fx (sk a) es)(hl:es.length≤6*A.length)(f:KX (λ_=>False) H a){Q:ab}
  (s:∀x len H',len≤6*A.length→Ls 3 b6 (λi=>H.n≤i) H' x len→KX (λ_=>False) H H'→Q x H') :
  S.Ar (ae C) (.ax tk A.length (A.flatMap bM.cells)) (I (K:Nat)) H Q [] a:=by
 simp only[S.Ar];rw [show eL true [I (K:Nat),O]=some (I (K:Nat))from by simp only[eL,mV,qg,aT];rw[bO]]
 simp only[X];have main:∀(d r:Nat)(x:J)(len:Nat)(H1:AH),r+d=K→Ls 3 b6 (λi=>a.n≤i) H1 x len→KX (λi=>a.n≤i) a H1→len≤(es.filter (iO r)).length →
   av (S.uG (ae C) (.ax tk A.length (A.flatMap bM.cells)) (I (K:Nat)) H Q) ([x,I (r:Nat)],H1):=by
  intro d;induction d with
  | zero=>intro r x len H1 hi c k1 hc;refine av.step ?_;simp only[S.uG,ay,bY,aU,X,F,aE];rw[en];have hlen:len≤6*A.length:=np hc (np (Ma _ _) hl);simp only[S.Fx];refine XB Z (by omega) λM N H2 R k2=>?_;have t:=c.kx k2 λ_ _ h=>h;obtain⟨l,hv⟩:=t.ov;refine XC Z (a0:=x) hv (by omega) (by omega) λH' g u=>?_;have kk:KX (λi=>a.n≤i) a H':=(k1.trans k2 λ_ _ h=>h.elim).tr u;refine s x len H' hlen (g.mono λi _ h=>np f.1 h) (f.trans kk λi hi e=>by have:=f.1;omega)
  | succ d o=>
   intro r x len H1 hi c k1 hc;refine av.step ?_;simp only[S.uG,ay,bY,aU,X,F,aE];rw[e_];have hlen:len≤6*A.length:=np hc (np (Ma _ _) hl);have w:At H1 H.n (.map es):=k1.at m (by have:=m.1;omega);have y:fx (sk H1) es:=q.imp λk v h=>h.kx k1 λi hi e=>by omega
   rcases sj w y .dm false r with⟨h,_⟩|⟨j,v,h,z,⟨b,rfl,B⟩⟩
   · rw[h];simp only[X,gh,acq,bz,show h2 .p true .dm=some (P)from rfl,F];simp only[S.uE,ay,bY,br,X,wN (show r≤4000000000000000000 by omega)];exact o (r+1) x len H1 (by omega) c k1 (np hc (CP _ _))
   · rw [h];simp only[X,gh,acq,bz,show h2 .p true (.ptr b 0)=some (aV)from rfl,F,aT,aC];obtain⟨ev,he,e1⟩:=B.ld (i:=0) (by decide);rw[Nat.zero_mul]at e1;rw[e1];simp only[X];rw [show cb H1 false 3 1 [O,O,O] [(0,3,.agg ev)]=some (.ax .full 1 ev,H1)from by
       unfold cb fW;rw[af ⟨rfl,he.1,by decide⟩];show adp _ (some (setCells [O,O,O] 0 ev))=_;rw[pW (by rw[he.1];rfl)];rfl]
     simp only[aK];obtain⟨D,H',E,g,k2⟩:=c.app (bytes:=24) (tk:= .full) (by decide) he (by omega) (by omega);rw[E];simp only[aK,S.uE,ay,bY,br,X,wN (show r≤4000000000000000000 by omega)];refine o (r+1) D (len+1) H' (by omega) (g.mono λi _ h=>?_) (k1.tr k2) (np (by omega) (Mb (adl z)));rcases h with h|h
     ·exact h
     ·exact np k1.1 h
 exact main K 0 _ 0 a (by omega) (.inl ⟨rfl,rfl⟩) (KX.refl _) (aa2 _)
end
end Rb

namespace Rb
open Go
def jQ(V:Nat→Prop)(H:AH)(k:Int)(v:J):Prop:=∃b,v = .ptr b 0∧V b∧Rw 3 b6 H b 1
theorem jQ.kx{V S:Nat→Prop}{H H':AH}(k:KX S H H')(hs:∀i,i<H.n→¬S i){x:Int}{v:J}(h:jQ V H x v):jQ V H' x v:=by obtain⟨b,e,u,r⟩:=h;exact⟨b,e,u,r.kx k (hs b r.lt)⟩
section
variable{C:Ctx}(Z:Cl (ae C) S.bg)
include Z
theorem XE{H0:AH}{K t:Nat}{i:Nat}(hi:i≤1000000)(ht:t≤6){s:List J}{w:AH}(hs:D s 0 = I (i:Nat)){x:J}{L:(List J×AH)→Prop}{Q:ab}{H:AH}{es:List (J×J)}{n N:Nat}(ac:Ls 1 b6 (λj=>N≤j) H x t)(aH:H0.n<N)
  (hm:At H H0.n (.map es)) (hk:fx (jQ (λb=>H0.n<b∧b<N) H) es) (aI:es.length≤n) (ah:KX (λ_=>False) H0 H)
  (hL:∀M H',At H' H0.n (.map M)→fx (jQ (λb=>H0.n<b) H') M→M.length≤n+t→KX (λ_=>False) H0 H'→L ([I ((i+1:Nat):Int)],H')) :
  av (S.nG (ae C) (I (K:Nat)) x (I (t:Nat)) H0 (s,w) L Q) ([O],H):=by
 have main:∀(d k:Nat)(l:List (J×J)) (H1:AH),k+d=t→Ls 1 b6 (λj=>N≤j) H1 x t→At H1 H0.n (.map l)→fx (jQ (λb=>H0.n<b∧∀ix,x = .row ix 0 t 1→b≠ix) H1) l→l.length≤n+k→KX (λ_=>False) H0 H1 →
   av (S.nG (ae C) (I (K:Nat)) x (I (t:Nat)) H0 (s,w) L Q) ([I (k:Nat)],H1):=by
  intro d;induction d with
  | zero=>intro k l H1 ai R m o aj k1;refine av.step ?_;simp only[S.nG,ay,aU,X,F,aE];rw[en];simp only[S.Fw,hs,br,X,wN (show i≤4000000000000000000 by omega)];exact hL l H1 m (o.imp λk v ⟨b,e,u,r⟩=>⟨b,e,u.1,r⟩) (by omega) k1
  | succ d ak=>
   intro k l H1 ai R m o aj k1;refine av.step ?_;simp only[S.nG,ay,aU,X,F,aE];rw[e_];have T:=R;rcases R with⟨_,e⟩|⟨ix,nx,rfl,hle,rx,aJ⟩
   ·omega
   rw[dH (by omega)];obtain⟨r,_,ad⟩:=rx.ld1 (i:=k) (k:=0) (by omega) (by decide);rw[aa6]at ad;rw[X,ad];simp only[X,ec,F];have next:∀(f:List (J×J)) (H2:AH),Ls 1 b6 (λj=>N≤j) H2 (.row ix 0 t 1) t→At H2 H0.n (.map f)→fx (jQ (λb=>H0.n<b∧∀g,J.row ix 0 t 1 = .row g 0 t 1→b≠g) H2) f→f.length≤n+(k+1)→KX (λ_=>False) H0 H2 →
     S.uC (ae C) ([I (k:Nat)],H1) (av (S.nG (ae C) (I (K:Nat)) (.row ix 0 t 1) (I (t:Nat)) H0 (s,w) L Q)) Q [] H2:=by
    intro f H2 a b c U e;simp only[S.uC,ay,br,X,wN (show k≤4000000000000000000 by omega)];exact ak (k+1) f H2 (by omega) a b c U e
   have af:∀(f:List (J×J)) (H2:AH),Ls 1 b6 (λj=>N≤j) H2 (.row ix 0 t 1) t→At H2 H0.n (.map f)→fx (jQ (λb=>H0.n<b∧∀g,J.row ix 0 t 1 = .row g 0 t 1→b≠g) H2) f→f.length≤n+(k+1)→KX (λ_=>False) H0 H2→(∃v,(I r,v)∈f) →
     S.uD (ae C) (I r) H0 (s,w) ([I (k:Nat)],H1) (av (S.nG (ae C) (I (K:Nat)) (.row ix 0 t 1) (I (t:Nat)) H0 (s,w) L Q)) Q [] H2:=by
    intro f H2 a b c U e ⟨v,hv⟩;simp only[S.uD,aE];rcases sj b c .dm false r with⟨_,h⟩|⟨j,v,h,y,⟨z,rfl,A,B⟩⟩
    ·exact absurd rfl (h _ hv)
    · rw [h];simp only[X,gh,acq,bz,aC,aa,abg,hs];obtain⟨E,al,am,G⟩:=B.st1 (i:=0) (k:=2) (by decide) (by decide) (v:=(i:Nat)) trivial;have an:au H2 1 (.ptr z 2) (I (i:Nat))=some E:=al;rw[an];simp only[X];have ao:fx (jQ (λb=>H0.n<b∧∀g,J.row ix 0 t 1 = .row g 0 t 1→b≠g) E) f:=c.imp λk v h=>by
       obtain⟨V,ev,u,W⟩:=h;by_cases q:V=z
       ·subst q;exact⟨V,ev,u,am⟩
       ·exact⟨V,ev,u,W.kx G q⟩
      have a3:Ls 1 b6 (λj=>N≤j) E (.row ix 0 t 1) t:=by
       rcases a with⟨q,_⟩|⟨g,ag,q,ap,aq,ar⟩
       ·cases q
       · cases q;exact .inr ⟨ix,ag,rfl,ap,aq.kx G (λq=>A.2 ix rfl q.symm),ar⟩
      exact next f E a3 (G.at b (λq=>by have:=A.1;omega)) ao U (e.trans G λj y q=>by have:=A.1;omega)
   refine aB (λ_=>next l H1 T m o (by omega) k1) (λ_=>?_);rcases sj m o .dm false r with⟨h,_⟩|⟨j,v,h,y,⟨z,rfl,A,B⟩⟩
   · rw [h];simp only[X,gh,acq,bz,show h2 .p false .dm=some (aV)from rfl,F,aT,hs];rw[show aD [O,O,O] [(0,1,I r),(1,1,I (i:Nat)),(2,1,I (i:Nat))]=some (.agg [I r,I (i:Nat),I (i:Nat)])from rfl];simp only[X];rw[show aM H1 true 3 (.agg [I r,I (i:Nat),I (i:Nat)])=some (.ptr H1.n 0,H1.push (.row [I r,I (i:Nat),I (i:Nat)]))from rfl];simp only[aK];have B:Rw 3 b6 (H1.push (.row [I r,I (i:Nat),I (i:Nat)])) H1.n 1:=by
      have:=Md (At.new H1 (.row (List.flatMap Iv.cells [⟨r,i,i⟩])));exact this
     have aw:=m.1;have aL:ix<H1.n:=rx.lt;have ax:fx (jQ (λb=>H0.n<b∧∀g,J.row ix 0 t 1 = .row g 0 t 1→b≠g) (H1.push (.row [I r,I (i:Nat),I (i:Nat)]))) l:=o.imp λk v h=>h.kx (KX.push (S:=λ_=>False) _ _) λ_ _ h=>h;obtain⟨f,az,aA,aN,aF⟩:=CK (m.push _) ax r (v:= .ptr H1.n 0) rfl ⟨H1.n,rfl,⟨aw,λg q=>by cases q;omega⟩,B⟩;rw[az];simp only[X];have Y:KX (·= H0.n) (H1.push (.row [I r,I (i:Nat),I (i:Nat)])) ((H1.push (.row [I r,I (i:Nat),I (i:Nat)])).set H0.n (.map f)):=KX.set (S:=(·= H0.n)) _ rfl _;have aG:fx (jQ (λb=>H0.n<b∧∀g,J.row ix 0 t 1 = .row g 0 t 1→b≠g) ((H1.push (.row [I r,I (i:Nat),I (i:Nat)])).set H0.n (.map f))) f:=aA.imp λk v ⟨b,ev,u,W⟩=>⟨b,ev,u,W.kx Y (λq=>by have:=u.1;omega)⟩
     exact af f _ ((T.kx (KX.push (S:=λ_=>False) _ _) λ_ _ h=>h).kx Y λj y q=>by omega) ((m.push _).set _) aG (by omega) ((k1.tr (KX.push _ _)).trans Y λj y q=>by omega) ⟨_,aF⟩
   · rw[h];simp only[X,gh,acq,bz,show h2 .p false (.ptr z 0)=some (P)from rfl,F];exact af l H1 T m o (by omega) k1 ⟨_,adl y⟩
 refine main t 0 es H (by omega) ac hm (hk.imp λk v ⟨b,e,u,r⟩=>⟨b,e,⟨u.1,λix q=>?_⟩,r⟩) (by omega) ah;rcases ac with⟨Z,_⟩|⟨g,ag,Z,_,_,aO⟩
 ·rw[Z]at q;cases q
 ·rw[Z]at q;cases q;omega
theorem XG{A:List bM}(m:A.length≤100000){tk:Tok}{K:Nat}(p:K≤100000000000){H:AH}{Q:ab}
  (q:∀x len H',len≤6*A.length→Ls 3 b6 (λi=>H.n≤i) H' x len→KX (λ_=>False) H H'→Q x H') :
  ae C 7 [.ax tk A.length (A.flatMap bM.cells),I (K:Nat)] H Q:=by
 refine S.Qx Z ?_;unfold S.f7;simp only[iC,X];have main:∀(d i:Nat)(es:List (J×J)) (H1:AH),i+d=A.length→At H1 H.n (.map es)→fx (jQ (λb=>H.n<b) H1) es→es.length≤6*i→KX (λ_=>False) H H1 →
   av (S.uH (ae C) (.ax tk A.length (A.flatMap bM.cells)) (I (K:Nat)) (I (A.length:Nat)) H Q) ([I (i:Nat)],H1):=by
  intro d;induction d with
  | zero=>intro i es H1 hi hm hk hl k1;refine av.step ?_;simp only[S.uH,ay,aU,X,F,aE];rw[en];exact XD Z m p hm (hk.imp λk v ⟨b,e,u,r⟩=>⟨b,e,r⟩) (by omega) k1 q
  | succ d s=>
   intro i es H1 hi hm hk hl k1;refine av.step ?_;simp only[S.uH,ay,aU,X,F,aE];rw[e_];obtain⟨o,t⟩:∃o,A[i]?=some o:=⟨_,abm (by omega)⟩
   obtain⟨e1,w⟩:=CN t tk;rw[e1];simp only[X,w,aQ,aT,aK];rw[cG H1 CO o.cells 13 rfl rfl rfl];have j:∀H2,KX (λ_=>False) (H1.push (.row o.cells)) H2→W H2 13 true (.ptr H1.n 0)=some (.agg o.cells):=λH2 k=>by rw[(k.at (At.new H1 (.row o.cells)) λh=>h).load];rfl
   simp only[X,j _ (KX.refl _)];refine Xt Z o λi1 m1 H2 b1 g1 r1 k2=>?_;refine⟨j _ k2,?_⟩;refine Xu Z o λi2 m2 f b2 g2 y g=>?_;rw[show cb f false 1 2 [aA] [(0,1,.row i1 0 m1 1),(1,1,.row i2 0 m2 1)]=some (.ax .full 2 [.row i1 0 m1 1,.row i2 0 m2 1],f)from rfl];simp only[aK];obtain⟨n1,l1,z⟩:=r1;obtain⟨n2,l2,B⟩:=y;refine Xz Z (z.kx g λh=>h) l1 B l2 b1 b2 λx D l E=>?_;rw[l.len];simp only[X];have kp:KX (λ_=>False) H1 (H1.push (.row o.cells)):=KX.push _ _;have kk:KX (λ_=>False) H1 D:=((kp.tr k2).tr g).tr E;have G:m1+m2≤6:=by omega
   have O:=hm.1;have g3:H1.n≤f.n:=np (np kp.1 k2.1) g.1;refine XE Z (H0:=H) (i:=i) (n:=6*i) (N:=f.n) (by omega) G rfl l (by omega) (kk.at hm λh=>h) (hk.imp λk v ⟨b,e,u,r⟩=>⟨b,e,⟨u,sl r.lt g3⟩,r.kx kk λh=>h⟩) hl (k1.tr kk) λL H' a b c M=>?_;exact s (i+1) L H' (by omega) a b (by omega) M
 exact main A.length 0 [] _ (by omega) (At.new _ _) (λe he=>by cases he) (aa2 _) (KX.push _ _)
end
end Rb

namespace Rb
open Go
variable{H:AH}{n id m a b:Nat}{Q:ab}{f:J}
theorem wS(a:1≤n)(h:n≤4000000000000000000):abF .i64 ((n:Int)-1)=((n-1:Nat):Int):=by rw[bJ];omega
theorem wD(a:m≤n)(h:n≤4000000000000000000):abF .i64 ((n:Int)-(m:Int))=((n-m:Nat):Int):=by rw[bJ];omega
theorem x_{s:Nat}(h:s≤4000000000000000000){K:J→Prop}(a:K (I ((s/2:Nat):Int))) :
  Do (db .u64 (I (s:Nat))) λx=>Do (M .shr x (u 1)) λy=>Do (db .i64 y) K:=by
 simp only[gz,X];rw[JD,Bj _ _ _ _ (by decide)];simp only[X,gz];have e:((s:Int).fdiv (2^(min (1:Int).toNat IntKind.u64.bits)))=((s/2:Nat):Int):=by show(s:Int).fdiv 2=_;rw[Int.fdiv_eq_ediv_of_nonneg _ (by decide)];omega
 rw[e,bJ];exact a
theorem ya{id n i j:Nat}(h:Rw 3 b6 H id n)(hi:i<n)(a:j<n){K:AH→Prop}(b:∀H',Rw 3 b6 H' id n→KX (·= id) H H'→K H') :
  Do (W H 3 true (.ptr id (i*3))) λx=>Do (W H 3 true (.ptr id (j*3))) λy=>Do (au H 3 (.ptr id (j*3)) x) λH1=>Do (au H1 3 (.ptr id (i*3)) y) K:=by
 obtain⟨e1,Y,b1⟩:=h.ld hi;obtain⟨d,a2,b2⟩:=h.ld a;obtain⟨H1,s1,r1,k1⟩:=h.st a Y;obtain⟨H2,s2,c,k2⟩:=r1.st hi a2;rw[b1];simp only[X];rw[b2];simp only[X];rw[s1];simp only[X];rw[s2];simp only[X];exact b H2 c (k1.tr k2)
section
variable{C:Ctx}(Z:Cl (ae C) S.bg)
include Z
theorem Me{a b:Int}(d:∀c:Int,Q (I c) H):ae C 18 [I a,I b] H Q:=by
 have nan:∀(n:Int)(R:ab),R (.bool (n != n)) H→ae C 42 [I n] H R:=λn R e=>S.Q3 Z (by unfold S.f42;simp only[dA,X];exact e)
 refine S.QH Z ?_;unfold S.f18;refine nan _ _ (nan _ _ ?_);simp only[F,aU,dy,X]
 repeat' first|exact d _|apply aB<;>intro _
theorem XH{a b:Int}(d:∀c:Int,Q (I c) H):ae C 17 [.ax .full 2 [I a,I b]] H Q:=by refine S.QG Z ?_;unfold S.f17;have e0:aL none 1 (.ax .full 2 [I a,I b]) (O)=some (.ak [I a,I b]):=rfl;have e1:aL none 1 (.ax .full 2 [I a,I b]) (I 1)=some (.ak [I b]):=rfl;have l0:W H 1 false (.ak [I a,I b])=some (I a):=rfl;have l1:W H 1 false (.ak [I b])=some (I b):=rfl;simp only[iC,X];refine av.step ?_;simp only[S.uR,ay,aU,X,F];rw[mL,e0];simp only[X,l0,dA,F,br,show abF .i64 ((0:Int)+1)=1 from rfl];refine aB (λ_=>d _) (λ_=>?_);refine av.step ?_;simp only[S.uR,ay,aU,X,F];rw[mL,e1];simp only[X,l1,dA,F,br,show abF .i64 ((1:Int)+1)=2 from rfl];refine aB (λ_=>d _) (λ_=>?_);refine av.step ?_;simp only[S.uR,ay,aU,X,F];rw[dC];exact d _
theorem yb{es fs:List J}(d:El 3 b6 es)(hf:El 3 b6 fs)(f:∀c:Int,Q (I c) H):ae C 16 [.agg es,.agg fs] H Q:=by
 have three:∀{es:List J},El 3 b6 es→∃a b c:Int,es=[I a,I b,I c]:=by
  intro es d;obtain⟨l,h⟩:=d
  match es,l with
  | [x,y,z],_=>obtain⟨a,g,_⟩:=h 0 (by decide);obtain⟨b,e,_⟩:=h 1 (by decide);obtain⟨c,hc,_⟩:=h 2 (by decide);cases g;cases e;cases hc;exact⟨a,b,c,rfl⟩
 obtain⟨a,b,c,rfl⟩:=three d;obtain⟨i,j,c',rfl⟩:=three hf;refine S.QF Z ?_;unfold S.f16;have e:∀(x y z:Int),aM H false 3 (.agg [I x,I y,I z])=some (.ak [I x,I y,I z],H):=λ_ _ _=>rfl;have l0:∀(x y z:Int),W H 1 false (.ak [I x,I y,I z])=some (I x):=λ_ _ _=>rfl;have l1:∀(x y:Int),W H 1 false (.ak [I x,I y])=some (I x):=λ_ _=>rfl;simp only[e,aK,el,adA,ad3,X,l0,l1];refine Me Z λx=>?_;refine⟨rfl,rfl,?_⟩;refine Me Z λy=>?_;rw[show cb H false 1 2 [O] [(0,1,I x),(1,1,I y)]=some (.ax .full 2 [I x,I y],H)from rfl];simp only[aK];exact XH Z f
def lp(H:AH)(id n:Nat)(Q:ab):Prop:=∀H',Rw 3 b6 H' id n→KX (·= id) H H'→Q (.ar []) H'
theorem lp.of{H a:AH}(b:lp H id n Q)(k:KX (·= id) H a):lp a id n Q:=λH' r k'=>b H' r (k.tr k')
theorem Mf(v:n≤1000000)(w:a≤b)(x:b≤n)(h:Rw 3 b6 H id n)(l:lp H id n Q):ae C 89 [.row id 0 n 3,I (a:Nat),I (b:Nat),.fn 16 []] H Q:=by
 refine S.Jo Z ?_;unfold S.f89;simp only[br,X,wN (show a≤4000000000000000000 by omega)];have main:∀(d i:Nat)(H1:AH),i+d=b∨(d=0∧b≤i)→a+1≤i→i≤n+1→Rw 3 b6 H1 id n→KX (·= id) H H1→av (S.mA (ae C) (.row id 0 n 3) (I (a:Nat)) (I (b:Nat)) (.fn 16 []) Q) ([I (i:Nat)],H1):=by
  intro d;induction d with
  | zero=>intro i H1 hi m o h1 k1;refine av.step ?_;simp only[S.mA,ay,aU,X,F];rw[en];exact l H1 h1 k1
  | succ d g=>
   intro i H1 hi m o h1 k1;refine av.step ?_;simp only[S.mA,ay,aU,X,F];rw[e_];have inner:∀(j:Nat)(H2:AH),a≤j→j≤i→Rw 3 b6 H2 id n→KX (·= id) H H2→av (S.q_ (ae C) (.row id 0 n 3) (I (a:Nat)) (.fn 16 []) ([I (i:Nat)],H1) (av (S.mA (ae C) (.row id 0 n 3) (I (a:Nat)) (I (b:Nat)) (.fn 16 []) Q)) Q) ([I (j:Nat)],H2):=by
    intro j;induction j with
    | zero=>intro H2 p q f k2;refine av.step ?_;simp only[S.q_,ay,dy,X,cx,aE];rw[jt];simp only[S.pM,ay,F,acq,bz,aE,S.AD,br,X,wN (show i≤4000000000000000000 by omega)];exact g (i+1) H2 (by omega) (by omega) (by omega) f k2
    | succ j r=>
     intro H2 p q f k2;refine av.step ?_;simp only[S.q_,ay,dy,X,cx,aE];have stop:S.pM (ae C) (.row id 0 n 3) ([I (i:Nat)],H1) (av (S.mA (ae C) (.row id 0 n 3) (I (a:Nat)) (I (b:Nat)) (.fn 16 []) Q)) ([I ((j+1:Nat):Int)],H2) (av (S.q_ (ae C) (.row id 0 n 3) (I (a:Nat)) (.fn 16 []) ([I (i:Nat)],H1) (av (S.mA (ae C) (.row id 0 n 3) (I (a:Nat)) (I (b:Nat)) (.fn 16 []) Q)) Q)) Q [P] H2:=by simp only[S.pM,ay,F,acq,bz,aE,S.AD,br,X,wN (show i≤4000000000000000000 by omega)];exact g (i+1) H2 (by omega) (by omega) (by omega) f k2
     refine aB (λe=>?_) (λ_=>stop);have y:a<j+1:=by simp at e;omega
     have k:abF .i64 (((j+1:Nat):Int)-1)=(j:Nat):=by rw[wS (by omega) (by omega)];rfl
     simp only[cM,k,X];rw[dH (i:=j+1) (by omega),dH (i:=j) (by omega)];obtain⟨e1,Y,b1⟩:=f.ld (i:=j+1) (by omega);obtain⟨z,a2,b2⟩:=f.ld (i:=j) (by omega);simp only[X,b1,b2];refine⟨_,_,rfl,?_⟩;refine yb Z Y a2 λc=>?_;simp only[aU,X];by_cases hc:c<0
     · rw[show decide (c<0)=true by simpa using hc];simp only[S.pM,ay,F,aT,aE,S.Hd,cM,k,X];rw[dH (i:=j+1) (by omega),dH (i:=j) (by omega)];simp only[X];exact ya f (by omega) (by omega) λs t u=>r s (by omega) (by omega) t (k2.tr u)
     · rw[show decide (c<0)=false by simpa using hc];exact stop
   exact inner i H1 (by omega) (hT _) h1 k1
 by_cases A:a+1≤b
 ·exact main (b-(a+1)) (a+1) H (.inl (by omega)) (hT _) (by omega) h (KX.refl _)
 ·exact main 0 (a+1) H (.inr ⟨rfl,by omega⟩) (hT _) (by omega) h (KX.refl _)
theorem CQ(l:n≤1000000)(o:a+m≤n)(p:b+m≤n)(h:Rw 3 b6 H id n)(c:lp H id n Q):ae C 177 [.row id 0 n 3,I (a:Nat),I (b:Nat),I (m:Nat),f] H Q:=by
 refine S.S1 Z ?_;unfold S.f177;have main:∀(d i:Nat)(H1:AH),i+d=m→Rw 3 b6 H1 id n→KX (·= id) H H1→av (S.wK (ae C) (.row id 0 n 3) (I (a:Nat)) (I (b:Nat)) (I (m:Nat)) Q) ([I (i:Nat)],H1):=by
  intro d;induction d with
  | zero=>intro i H1 hi h1 k1;refine av.step ?_;simp only[S.wK,ay,aU,X,F];rw[en];exact c H1 h1 k1
  | succ d e=>intro i H1 hi h1 k1;refine av.step ?_;simp only[S.wK,ay,aU,X,F];rw[e_];simp only[br,X,wA (show a+i≤4000000000000000000 by omega),wA (show b+i≤4000000000000000000 by omega),wN (show i≤4000000000000000000 by omega)];rw[dH (i:=a+i) (by omega),dH (i:=b+i) (by omega)];simp only[X];exact ya h1 (by omega) (by omega) λg j k=>e (i+1) g (by omega) j (k1.tr k)
 exact main m 0 H (by omega) h (KX.refl _)
theorem XI(g:n≤1000000)(r:a<m)(t:m<b)(u:b≤n)(h:Rw 3 b6 H id n)(o:lp H id n Q):ae C 142 [.row id 0 n 3,I (a:Nat),I (m:Nat),I (b:Nat),f] H Q:=by
 refine S.SF Z ?_;unfold S.f142;simp only[cM,X,wD (show a≤m by omega) (show m≤4000000000000000000 by omega),wD (show m≤b by omega) (show b≤4000000000000000000 by omega)];have main:∀(s i j:Nat)(H1:AH),i+j≤s→0<i→0<j→i≤m→m+j≤n→Rw 3 b6 H1 id n→KX (·= id) H H1→av (S.AW (ae C) (.row id 0 n 3) (I (m:Nat)) f Q) ([I (i:Nat),I (j:Nat)],H1):=by
  intro s;induction s with
  |zero=>intro i j H1 hs k;omega
  | succ s l=>
   intro i j H1 hs k p d q h1 k1;refine av.step ?_;simp only[S.AW,ay,bY,dA,dy,X,F,aE];apply aB<;>intro e
   · have v:i≠j:=by simp at e;omega
     apply aB<;>intro e
     · have w:j<i:=by simpa using e
       simp only[cM,X,wD d (show m≤4000000000000000000 by omega),wD (show j≤i by omega) (show i≤4000000000000000000 by omega)];exact CQ Z g (by omega) (by omega) h1 λH2 c k2=>l (i-j) j H2 (by omega) (by omega) p (by omega) q c (k1.tr k2)
     · have x:i<j:=(by have:¬j<i:=(by simpa using e);omega)
       simp only[cM,br,X,wD d (show m≤4000000000000000000 by omega),wA (show m+j≤4000000000000000000 by omega),wD (show i≤m+j by omega) (show m+j≤4000000000000000000 by omega),wD (show i≤j by omega) (show j≤4000000000000000000 by omega)];exact CQ Z g (by omega) (by omega) h1 λH2 c k2=>l i (j-i) H2 (by omega) k (by omega) d (by omega) c (k1.tr k2)
   · have heq:i=j:=by simp at e;omega
     simp only[S.Ie,ay,cM,X,wD d (show m≤4000000000000000000 by omega)];exact CQ Z g (by omega) (by omega) h1 λH2 c k2=>o H2 c (k1.tr k2)
 exact main _ _ _ H (hT _) (by omega) (by omega) (by omega) (by omega) h (KX.refl _)
end
end Rb

namespace Rb
open Go
variable{id n:Nat}{H:AH}{Q:ab}
section
variable{C:Ctx}(Z:Cl (ae C) S.bg)
include Z
theorem Mg{id n a i:Nat}(l:n≤1000000)(hi:i≤n)(h:Rw 3 b6 H id n)(c:lp H id n Q):S.AE (ae C) (.row id 0 n 3) (I (a:Nat)) Q [I (i:Nat)] H:=by
 simp only[S.AE];have main:∀(d k:Nat)(H1:AH),i≤k+1+d→(d=0→i≤k+1)→(0<d→i=k+1+d)→Rw 3 b6 H1 id n→KX (·= id) H H1→a≤k→av (S.vx (ae C) (.row id 0 n 3) [I (i:Nat)] Q) ([I (k:Nat)],H1):=by
  intro d;induction d with
  | zero=>intro k H1 _ b _ h1 k1 e;have:=b rfl;refine av.step ?_;simp only[S.vx,ay,cM,aU,X,F];rw[wrap_i64 (n:=(i:Int)-1) (by omega) (by omega),en];exact c H1 h1 k1
  | succ d f=>intro k H1 _ _ b h1 k1 e;have b:=b (by omega);refine av.step ?_;simp only[S.vx,ay,cM,br,aU,X,F,wN (show k≤4000000000000000000 by omega)];rw[wrap_i64 (n:=(i:Int)-1) (by omega) (by omega),e_,dH (i:=k+1) (by omega),dH (i:=k) (by omega)];simp only[X];exact ya h1 (by omega) (by omega) λH2 g k2=>f (k+1) H2 (by omega) (by omega) (by omega) g (k1.tr k2) (by omega)
 rcases Nat.lt_or_ge (a+1) i with j|j
 ·exact main (i-(a+1)) a H (by omega) (by omega) (by omega) h (KX.refl _) (hT _)
 ·exact main 0 a H (by omega) (by omega) (by omega) h (KX.refl _) (hT _)
theorem Mh{id n m i:Nat}(e:n≤1000000)(f:m<n)(h:Rw 3 b6 H id n)(a:lp H id n Q):S.AF (ae C) (.row id 0 n 3) (I (m:Nat)) Q [I (i:Nat)] H:=by
 simp only[S.AF];have main:∀(k:Nat)(H1:AH),k≤m→Rw 3 b6 H1 id n→KX (·= id) H H1→av (S.vz (ae C) (.row id 0 n 3) [I (i:Nat)] Q) ([I (k:Nat)],H1):=by
  intro k;induction k with
  | zero=>intro H1 hk h1 k1;refine av.step ?_;simp only[S.vz,ay,dy,X,F];rw[jt];exact a H1 h1 k1
  | succ k b=>
   intro H1 hk h1 k1;refine av.step ?_;simp only[S.vz,ay,dy,X,F];refine aB (λ_=>?_) (λ_=>a H1 h1 k1);have c:abF .i64 (((k+1:Nat):Int)-1)=(k:Nat):=by rw[wS (by omega) (by omega)];rfl
   simp only[cM,c,X];rw[dH (i:=k+1) (by omega),dH (i:=k) (by omega)];simp only[X];exact ya h1 (by omega) (by omega) λH2 d k2=>b H2 (by omega) d (k1.tr k2)
 exact main m H (hT _) h (KX.refl _)
theorem Mi(v:n≤1000000):∀(s a m b:Nat),b≤a+s→a<m→m<b→b≤n→∀{H:AH}{Q:ab},Rw 3 b6 H id n→lp H id n Q →
  ae C 90 [.row id 0 n 3,I (a:Nat),I (m:Nat),I (b:Nat),.fn 16 []] H Q:=by
 intro s;induction s with
 |zero=>intro a m b h1 P R;omega
 |succ s D=>
 intro a m b hs T U O H Q h o;refine S.RT Z ?_;unfold S.f90;simp only[cM,X,wD (show a≤m by omega) (show m≤4000000000000000000 by omega),wD (show m≤b by omega) (show b≤4000000000000000000 by omega),bL,F];apply aB<;>intro _
 · have main:∀(d i j:Nat),i≤j→j≤i+d→j≤b→av (S.vy (ae C) (.row id 0 n 3) (I (a:Nat)) (.fn 16 []) Q) ([I (i:Nat),I (j:Nat)],H):=by
     intro d;induction d with
     | zero=>intro i j w x f;refine av.step ?_;simp only[S.vy,ay,bY,aU,X,F,aE];rw[en];exact Mg Z v (by omega) h o
     | succ d g=>
      intro i j w x f;refine av.step ?_;simp only[S.vy,ay,bY,aU,X,F,aE];refine aB (λe=>?_) (λ_=>Mg Z v (by omega) h o);have E:i<j:=by simp at e;omega
      simp only[br,X,wA (show i+j≤4000000000000000000 by omega)];refine x_ (by omega) ?_;rw[dH (i:=(i+j)/2) (by omega),dH (i:=a) (by omega)];obtain⟨e1,Y,b1⟩:=h.ld (i:=(i+j)/2) (by omega);obtain⟨l,a2,b2⟩:=h.ld (i:=a) (by omega);simp only[X,b1,b2];refine⟨_,_,rfl,?_⟩;refine yb Z Y a2 λc=>?_;simp only[aU,br,X,F,wN (show(i+j)/2≤4000000000000000000 by omega)];exact aB (λ_=>g _ _ (by omega) (by omega) f) (λ_=>g _ _ (by omega) (by omega) (by omega))
   exact main (b-m) m b (by omega) (by omega) (hT _)
 apply aB<;>intro _
 · have main:∀(d i j:Nat),i≤j→j≤i+d→j≤m→av (S.vA (ae C) (.row id 0 n 3) (I (m:Nat)) (.fn 16 []) Q) ([I (i:Nat),I (j:Nat)],H):=by
     intro d;induction d with
     | zero=>intro i j w x f;refine av.step ?_;simp only[S.vA,ay,bY,aU,X,F,aE];rw[en];exact Mh Z v (by omega) h o
     | succ d g=>
      intro i j w x f;refine av.step ?_;simp only[S.vA,ay,bY,aU,X,F,aE];refine aB (λe=>?_) (λ_=>Mh Z v (by omega) h o);have E:i<j:=by simp at e;omega
      simp only[br,X,wA (show i+j≤4000000000000000000 by omega)];refine x_ (by omega) ?_;rw[dH (i:=(i+j)/2) (by omega),dH (i:=m) (by omega)];obtain⟨e1,Y,b1⟩:=h.ld (i:=(i+j)/2) (by omega);obtain⟨l,a2,b2⟩:=h.ld (i:=m) (by omega);simp only[X,b1,b2];refine⟨_,_,rfl,?_⟩;refine yb Z a2 Y λc=>?_;simp only[aU,br,X,dO,F,wN (show(i+j)/2≤4000000000000000000 by omega)];exact aB (λ_=>g _ _ (by omega) (by omega) f) (λ_=>g _ _ (by omega) (by omega) (by omega))
   exact main (m-a) a m (by omega) (by omega) (hT _)
 simp only[br,X,wA (show a+b≤4000000000000000000 by omega)];refine x_ (by omega) ?_;generalize V:(a+b)/2=bG;simp only[br,wA (show bG+m≤4000000000000000000 by omega),X,dy,F,aE];have G:∀(st:Nat)(H1:AH),a≤st→bG+m≤st+b→st≤bG→Rw 3 b6 H1 id n→KX (·= id) H H1 →
   S.vD (ae C) (.row id 0 n 3) (I (b:Nat)) (.fn 16 []) (I (bG:Nat)) (I ((bG+m-st:Nat):Int)) Q [] H1:=by
  intro st H1 p t u h1 k1;have J:∀q:Bool,(q=true→bG<bG+m-st∧bG+m-st<b)→S.vC (ae C) (.row id 0 n 3) (I (b:Nat)) (.fn 16 []) (I (bG:Nat)) (I ((bG+m-st:Nat):Int)) Q [.bool q] H1:=by intro q y;simp only[S.vC,ay,F];refine aB (λe=>?_) (λ_=>o H1 h1 k1);obtain⟨z,A⟩:=y e;exact D bG (bG+m-st) b (by omega) z A O h1 λH' r k=>o H' r (k1.tr k)
  simp only[S.vD,aU,X,cx,aE];refine aB (λe=>J _ λl=>?_) (λ_=>J _ λe=>by cases e);simp at e l;omega
 have K:∀(st:Nat)(H1:AH),a≤st→bG+m≤st+b→st≤bG→st≤m→Rw 3 b6 H1 id n→KX (·= id) H H1 →
   S.vG (ae C) (.row id 0 n 3) (I (a:Nat)) (I (b:Nat)) (.fn 16 []) (I (bG:Nat)) (I ((bG+m-st:Nat):Int)) [I (st:Nat)] Q [] H1:=by
  intro st H1 p t u B h1 k1;have L:∀q:Bool,(q=true→a<st∧st<bG)→S.vF (ae C) (.row id 0 n 3) (I (a:Nat)) (I (b:Nat)) (.fn 16 []) (I (bG:Nat)) (I ((bG+m-st:Nat):Int)) [I (st:Nat)] Q [.bool q] H1:=by intro q y;simp only[S.vF,ay,F,aE];refine aB (λe=>?_) (λ_=>G st H1 p t u h1 k1);obtain⟨z,A⟩:=y e;exact D a st bG (by omega) z A (by omega) h1 λH' r k=>G st H' p t u r (k1.tr k)
  simp only[S.vG,ay,aU,X,cx,aE];refine aB (λe=>L _ λl=>?_) (λ_=>L _ λe=>by cases e);simp at e l;omega
 have M:∀(st:Nat),a≤st→bG+m≤st+b→st≤bG→st≤m →
   S.AG (ae C) (.row id 0 n 3) (I (a:Nat)) (I (m:Nat)) (I (b:Nat)) (.fn 16 []) (I (bG:Nat)) (I ((bG+m:Nat):Int)) Q [I (st:Nat)] H:=by
  intro st p t u B;simp only[S.AG,ay,cM,aU,X,cx,aE,wD (show st≤bG+m by omega) (show bG+m≤4000000000000000000 by omega)];have N:∀q:Bool,(q=true→st<m∧m<bG+m-st)→S.vH (ae C) (.row id 0 n 3) (I (a:Nat)) (I (m:Nat)) (I (b:Nat)) (.fn 16 []) (I (bG:Nat)) (I ((bG+m-st:Nat):Int)) [I (st:Nat)] Q [.bool q] H:=by intro q y;simp only[S.vH,ay,F,aE];refine aB (λe=>?_) (λ_=>K st H p t u B h (KX.refl _));obtain⟨z,A⟩:=y e;exact XI Z v z A (by omega) h λH' r k=>K st H' p t u B r k
  refine aB (λe=>N _ λl=>?_) (λ_=>N _ λe=>by cases e);simp at e l;omega
 have main:∀(lo hi:Nat),a≤lo→bG+m≤lo+b→hi≤bG→hi≤m→∀(d i j:Nat),lo≤i→i≤j→j≤hi→j≤i+d →
   av (S.vI (ae C) (.row id 0 n 3) (I (a:Nat)) (I (m:Nat)) (I (b:Nat)) (.fn 16 []) (I (bG:Nat)) (I ((bG+m:Nat):Int)) (I ((bG+m-1:Nat):Int)) Q) ([I (i:Nat),I (j:Nat)],H):=by
  intro lo hi W aa ac ad d;induction d with
  | zero=>intro i j hl w f x;refine av.step ?_;simp only[S.vI,ay,bY,aU,X,F,aE];rw[en];exact M i (by omega) (by omega) (by omega) (by omega)
  | succ d g=>
   intro i j hl w f x;refine av.step ?_;simp only[S.vI,ay,bY,aU,X,F,aE];refine aB (λe=>?_) (λ_=>M i (by omega) (by omega) (by omega) (by omega));have E:i<j:=by simp at e;omega
   simp only[br,X,wA (show i+j≤4000000000000000000 by omega)];refine x_ (by omega) ?_;simp only[cM,X,wD (show(i+j)/2≤bG+m-1 by omega) (show bG+m-1≤4000000000000000000 by omega)];rw[dH (i:=bG+m-1-(i+j)/2) (by omega),dH (i:=(i+j)/2) (by omega)];obtain⟨e1,Y,b1⟩:=h.ld (i:=bG+m-1-(i+j)/2) (by omega);obtain⟨l,a2,b2⟩:=h.ld (i:=(i+j)/2) (by omega);simp only[X,b1,b2];refine⟨_,_,rfl,?_⟩;refine yb Z Y a2 λc=>?_;simp only[aU,br,X,dO,F,wN (show(i+j)/2≤4000000000000000000 by omega)];exact aB (λ_=>g _ _ (by omega) (by omega) f (by omega)) (λ_=>g _ _ (by omega) (by omega) (by omega) (by omega))
 apply aB<;>intro e
 · have af:bG<m:=by simp at e;omega
   simp only[cM,X,wD (show b≤bG+m by omega) (show bG+m≤4000000000000000000 by omega),S.vJ,ay,bY,wS (show 1≤bG+m by omega) (show bG+m≤4000000000000000000 by omega)];exact main (bG+m-b) bG (by omega) (by omega) (hT _) (by omega) (bG-(bG+m-b)) (bG+m-b) bG (hT _) (by omega) (hT _) (by omega)
 · have hle:m≤bG:=(by have:¬bG<m:=(by simp at e;omega);omega)
   simp only[cM,X,S.vJ,ay,bY,wS (show 1≤bG+m by omega) (show bG+m≤4000000000000000000 by omega)];exact main a m (hT _) (by omega) (by omega) (hT _) (m-a) a m (hT _) (by omega) (hT _) (by omega)
theorem XJ(g:n≤1000000)(h:Rw 3 b6 H id n)(m:lp H id n Q):ae C 15 [.row id 0 n 3,.fn 16 []] H Q:=by
 refine S.Jl Z ?_;unfold S.f15;simp only[j7,X];refine S.Jm Z ?_;unfold S.f41;have outer:∀(d bs:Nat)(H1:AH),n≤bs+d→20≤bs→bs≤4000000→Rw 3 b6 H1 id n→KX (·= id) H H1→av (S.nH (ae C) (.row id 0 n 3) (I (n:Nat)) (.fn 16 []) (λ_ b=>Q (.ar []) b)) ([I (bs:Nat)],H1):=by
  intro d;induction d with
  | zero=>intro bs H1 p r s h1 k1;refine av.step ?_;simp only[S.nH,ay,aU,X,F];rw[en];exact m H1 h1 k1
  | succ d i=>
   intro bs H1 p r s h1 k1;refine av.step ?_;simp only[S.nH,ay,aU,X,F];refine aB (λe=>?_) (λ_=>m H1 h1 k1);have x:bs<n:=by simp at e;omega
   have w2:abF .i64 ((2:Int)*(bs:Int))=((2*bs:Nat):Int):=by rw[bJ];omega
   have t:abF .i64 ((bs:Int)*(2:Int))=((2*bs:Nat):Int):=by rw[bJ];omega
   simp only[fY,X,w2];have j:∀H2,Rw 3 b6 H2 id n→KX (·= id) H H2→S.vb (ae C) ([I (bs:Nat)],H1) (av (S.nH (ae C) (.row id 0 n 3) (I (n:Nat)) (.fn 16 []) (λ_ b=>Q (.ar []) b))) (λ_ b=>Q (.ar []) b) [] H2:=λH2 c k2=>by simp only[S.vb,ay,fY,X,t];exact i (2*bs) H2 (by omega) (by omega) (by omega) c k2
   have inner:∀(e a:Nat)(H2:AH),n≤a+e→a≤n→Rw 3 b6 H2 id n→KX (·= id) H H2→av (S.vc (ae C) (.row id 0 n 3) (I (n:Nat)) (.fn 16 []) ([I (bs:Nat)],H1) (av (S.nH (ae C) (.row id 0 n 3) (I (n:Nat)) (.fn 16 []) (λ_ b=>Q (.ar []) b))) (λ_ b=>Q (.ar []) b)) ([I (a:Nat),I ((a+2*bs:Nat):Int)],H2):=by
    intro e;induction e with
    | zero=>intro a H2 he f c k2;refine av.step ?_;simp only[S.vc,ay,bY,gy,X,F,aE];rw[en];simp only[S.Aw,ay,br,aU,X,F,aE,wA (show a+bs≤4000000000000000000 by omega)];rw[en];exact j H2 c k2
    | succ e u=>
     intro a H2 he f c k2;refine av.step ?_;simp only[S.vc,ay,bY,gy,X,F,aE];refine aB (λq=>?_) (λ_=>?_)
     · have hle:a+2*bs≤n:=by simp at q;omega
       simp only[br,fY,X,wA (show a+bs≤4000000000000000000 by omega),w2,wA (show(a+2*bs)+2*bs≤4000000000000000000 by omega)];exact Mi Z g _ a (a+bs) (a+2*bs) (hT _) (by omega) (by omega) hle c λb k l=>u (a+2*bs) b (by omega) hle k (k2.tr l)
     · simp only[S.Aw,ay,br,aU,X,F,aE,wA (show a+bs≤4000000000000000000 by omega)];refine aB (λq=>?_) (λ_=>j H2 c k2);have v:a+bs<n:=by simp at q;omega
       exact Mi Z g _ a (a+bs) n (show n≤a+n by omega) (by omega) v (hT _) c λb k l=>j b k (k2.tr l)
   have:=inner n 0 H1 (by omega) (aa2 _) h1 k1;rwa [abg]at this
 have first:∀(e a:Nat)(H1:AH),n≤a+e→a≤n→Rw 3 b6 H1 id n→KX (·= id) H H1→av (S.q5 (ae C) (.row id 0 n 3) (I (n:Nat)) (.fn 16 []) (λ_ b=>Q (.ar []) b)) ([I (a:Nat),I ((a+20:Nat):Int)],H1):=by
  intro e;have o:∀(a:Nat)(H1:AH),a≤n→Rw 3 b6 H1 id n→KX (·= id) H H1→S.vd (ae C) (.row id 0 n 3) (I (n:Nat)) (.fn 16 []) (λ_ b=>Q (.ar []) b) [I (a:Nat)] H1:=by intro a H1 f h1 k1;simp only[S.vd,ay];exact Mf Z g f (hT _) h1 λH2 c k2=>outer n 20 H2 (by omega) (hT _) (by omega) c (k1.tr k2)
  induction e with
  | zero=>intro a H1 he f h1 k1;refine av.step ?_;simp only[S.q5,ay,bY,gy,X,F,aE];rw[en];exact o a H1 f h1 k1
  | succ e i=>
   intro a H1 he f h1 k1;refine av.step ?_;simp only[S.q5,ay,bY,gy,X,F,aE];refine aB (λq=>?_) (λ_=>o a H1 f h1 k1);have hle:a+20≤n:=by simp at q;omega
   refine Mf Z g (by omega) hle h1 λH2 c k2=>?_;have w:abF .i64 (((a+20:Nat):Int)+20)=((a+20+20:Nat):Int):=by rw[bJ];omega
   simp only[br,X,w];exact i (a+20) H2 (by omega) hle c (k1.tr k2)
 exact first n 0 H (by omega) (aa2 _) h (KX.refl _)
end
end Rb

namespace Rb
open Go
variable{H:AH}{j i:Nat}{Q:ab}{x:J}
theorem Mj:fH S.Am 138=some (221,some (1,false)):=by kernel_rfl
theorem CS:fH S.uu 138=some (222,some (1,false)):=by kernel_rfl
theorem CT:fH S.uv 138=some (223,some (1,false)):=by kernel_rfl
theorem XK:fH S.Fe 138=some (224,none):=by kernel_rfl
theorem XL:fH S.Ff 138=some (225,none):=by kernel_rfl
def Pl(B:Nat)(_:Nat)(v:Int):Prop:=0≤v∧v<B
def Pq(B:Nat)(k:Nat)(v:Int):Prop:=k=1→0≤v∧v<B
section
variable{C:Ctx}(Z:Cl (ae C) S.bg){B:Nat}{p b n cap:Nat}
include Z
theorem CU(h:Rw 2 (Pq B) H b cap)(f:n≤cap)(hi:i<n)(a:j<n)(d:∀c:Bool,Q (.bool c) H):ae C 222 [.row b 0 n 2,I (i:Nat),I (j:Nat)] H Q:=by refine S.Th Z ?_;unfold S.f222;rw[dH hi,dH a];obtain⟨v,_,e1⟩:=h.ld1 (i:=i) (k:=0) (by omega) (by decide);obtain⟨w,_,e⟩:=h.ld1 (i:=j) (k:=0) (by omega) (by decide);simp only[X,aa,e1,e,aU];exact d _
theorem CV(h:Rw 2 (Pq B) H b cap)(e:n≤cap)(hi:i<n)(a:j<n)(c:∀H',Rw 2 (Pq B) H' b cap→KX (·= b) H H'→Q (.ar []) H'):ae C 223 [.row b 0 n 2,I (i:Nat),I (j:Nat)] H Q:=by refine S.Ti Z ?_;unfold S.f223;rw[dH hi,dH a];obtain⟨e1,Y,b1⟩:=h.ld (i:=j) (by omega);obtain⟨f,a2,b2⟩:=h.ld (i:=i) (by omega);obtain⟨H1,s1,r1,k1⟩:=h.st (i:=i) (by omega) Y;obtain⟨H2,s2,d,k2⟩:=r1.st (i:=j) (by omega) a2;simp only[X,b1,b2,s1,s2];exact c H2 d (k1.tr k2)
def fV(H:AH)(p:Nat)(x:J):Prop:=∃xf y z,At H p (.row [xf,x,y,z])
theorem fV.ld(h:fV H p x):W H 1 false (.ptr p 1)=some x:=by obtain⟨xf,y,z,a⟩:=h;rw[a.load];rfl
theorem fV.kx{T:Nat→Prop}{H H':AH}(h:fV H p x)(k:KX T H H')(b:¬T p):fV H' p x:=by obtain⟨xf,y,z,a⟩:=h;exact⟨xf,y,z,k.at a b⟩
theorem XM(o:n≤1000000)(h:Rw 2 (Pq B) H b cap)(i:fV H p (.row b 0 n 2))(k:p≠b)(d:n≤cap)(a:j<n)(f:∀H',Rw 2 (Pq B) H' b cap→KX (·= b) H H'→Q (.ar []) H'):ae C 94 [.iface 138 (.ptr p 1),I (j:Nat)] H Q:=by
 refine S.RV Z ?_;unfold S.f94;have main:∀(j:Nat)(H1:AH),j<n→Rw 2 (Pq B) H1 b cap→KX (·= b) H H1→av (S.AJ (ae C) (.iface 138 (.ptr p 1)) Q) ([I (j:Nat)],H1):=by
  intro j;induction j using afj with
  |ind j l=>
  intro H1 a h1 k1;have g:fV H1 p (.row b 0 n 2):=fV.kx Z i k1 k;refine av.step ?_;have e:(M .quo (I (abF .i64 ((j:Int)-1))) (I 2))=some (I (((j-1)/2:Nat):Int)):=by
   rw[k0 _ _ _ (by decide),wrap_i64 (n:=(j:Int)-1) (by omega) (by omega)];congr 2;rcases adY j with rfl|r
   ·rfl
   · rw[show(j:Int)-1=((j-1:Nat):Int) by omega,Int.tdiv_eq_ediv_of_nonneg (by omega),bJ];omega
  simp only[S.AJ,ay,cM,X,e,bL,ck,aE];apply nP<;>intro q
  · have s:j≠0:=by rintro rfl;simp at q
    refine⟨138,.ptr p 1,_,_,rfl,CS,fV.ld Z g,?_⟩;refine CU Z h1 d a (by omega) λc=>?_;simp only[dO,X,S.vO,ay,F,aE];refine aB (λ_=>f H1 h1 k1) (λ_=>?_);simp only[S.Hi,ay];refine⟨138,.ptr p 1,_,_,rfl,CT,fV.ld Z g,?_⟩;exact CV Z h1 d (by omega) a λH2 m k2=>l _ (by omega) H2 (by omega) m (k1.tr k2)
  · simp only[S.vO,ay,F,aT];exact f H1 h1 k1
 exact main j H a h (KX.refl _)
theorem XN{j m:Nat}(D:n≤1000000)(h:Rw 2 (Pq B) H b cap)(r:fV H p (.row b 0 n 2))(u:p≠b)(g:n≤cap)(E:m≤n)(f:j<n){a:Int}(w:∀(v:J) H',Rw 2 (Pq B) H' b cap→KX (·= b) H H'→Q v H')(x:a=(j:Int)):ae C 91 [.iface 138 (.ptr p 1),I a,I (m:Nat)] H Q:=by
 refine S.RU Z ?_;unfold S.f91;have main:∀(d j:Nat)(H1:AH),n≤j+d→j<n→Rw 2 (Pq B) H1 b cap→KX (·= b) H H1→av (S.re (ae C) (.iface 138 (.ptr p 1)) (I a) (I (m:Nat)) Q) ([I (j:Nat)],H1):=by
  intro d;induction d with
  |zero=>intro j H1 y f;omega
  | succ d z=>
   intro j H1 y f h1 k1;have i:fV H1 p (.row b 0 n 2):=fV.kx Z r k1 u;refine av.step ?_;have w1:abF .i64 ((2:Int)*(j:Int))=((2*j:Nat):Int):=by rw[bJ];omega
   simp only[S.re,ay,fY,br,w1,wN (show 2*j≤4000000000000000000 by omega),X,ec,ck,aE];have fin:∀H2 (s:J),Rw 2 (Pq B) H2 b cap→KX (·= b) H H2→(∃k,s = I k)→S.vK (ae C) (I a) Q [s] H2:=by rintro H2 s l k2 ⟨k,rfl⟩;simp only[S.vK,ay,dy,X];exact w _ H2 l k2
   refine nP (λe=>?_) (λ_=>?_)
   · have G:2*j+1<m:=by simp at e;omega
     simp only[aU,X];rw[show decide (((2*j+1:Nat):Int)<0)=false by simp;omega];simp only[S.vN,ay,F,acq,bz,aE,S.Hg,br,wN (show 2*j+1≤4000000000000000000 by omega),X,aU,cx];have o:∀(t:Nat),j<t→t<n→S.vL (ae C) (.iface 138 (.ptr p 1)) (I a) ([I (j:Nat)],H1) (av (S.re (ae C) (.iface 138 (.ptr p 1)) (I a) (I (m:Nat)) Q)) Q [I (t:Nat)] H1:=by intro t K ht;simp only[S.vL,ay];refine⟨138,.ptr p 1,_,_,rfl,CS,fV.ld Z i,?_⟩;refine CU Z h1 g ht f λc=>?_;simp only[dO,X,F,aE];refine aB (λ_=>fin H1 _ h1 k1 ⟨_,rfl⟩) (λ_=>?_);refine⟨138,.ptr p 1,_,_,rfl,CT,fV.ld Z i,?_⟩;exact CV Z h1 g f ht λH2 l k2=>z t H2 (by omega) ht l (k1.tr k2)
     have q:∀c:Bool,(c=true→2*j+1+1<m)→S.vM (ae C) (.iface 138 (.ptr p 1)) (I a) (I ((2*j+1:Nat):Int)) (I ((2*j+1+1:Nat):Int)) ([I (j:Nat)],H1) (av (S.re (ae C) (.iface 138 (.ptr p 1)) (I a) (I (m:Nat)) Q)) Q [.bool c] H1:=by intro c hc;simp only[S.vM,ay,F,aE];refine aB (λe=>?_) (λ_=>o _ (by omega) (by omega));have:=hc e;exact o _ (by omega) (by omega)
     refine aB (λe=>?_) (λ_=>q false λe=>by cases e);have A:2*j+1+1<m:=by simp at e;omega
     refine⟨138,.ptr p 1,_,_,rfl,CS,fV.ld Z i,?_⟩;exact CU Z h1 g (by omega) (by omega) λc=>q c λ_=>A
   · simp only[S.vN,ay,F,aT,aE];exact fin H1 _ h1 k1 ⟨_,rfl⟩
 subst x;exact main n j H (by omega) f h (KX.refl _)
end
end Rb

namespace Rb
open Go
variable{H:AH}{Q:ab}{us sz fl nx:Nat}{U:Nat→Prop}{es:List J}{xf y z:J}
theorem Ml{id a h sz:Nat}(b:h≤a):c6 sz (.row id 0 a sz) none (some (I (h:Nat))) none=some (.row id 0 h sz):=by simp only[c6,dV,aex];rw[af (show(0:Int)≤(h:Nat) by omega),abG];dsimp only;rw[af ⟨by omega,b,trivial⟩,af (.inl rfl)];simp
theorem CW{P:Nat→Int→Prop}(h:El sz P es){z:List J}(a:z.length=sz)(H:AH):cb H false sz 1 z [(0,sz,.agg es)]=some (.ax .full 1 es,H):=by
 have e:(VR 1 z).flatten=z:=by simp
 unfold cb;rw[e];unfold fW;rw[af ⟨rfl,h.1,by omega⟩];show adp _ (some (setCells z 0 es))=_;rw[pW (by rw[h.1,a];omega)];rfl
section
variable{C:Ctx}(Z:Cl (ae C) S.bg){B:Nat}{p:Nat}
include Z
theorem XO{b k cap:Nat}{Q:ab}(m:k≤900000)(a:At H p (.row [xf,.row b 0 (k+1) 2,y,z]))(h:Rw 2 (Pq B) H b cap)(hc:k+1≤cap)(c:p≠b)
  (g:∀es H',El 2 (Pq B) es→At H' p (.row [xf,.row b 0 k 2,y,z])→Rw 2 (Pq B) H' b cap→KX (λi=>i=b∨i=p) H H'→Q (.iface 136 (.agg es)) H'):ae C 43 [.iface 138 (.ptr p 1)] H Q:=by
 refine S.Q4 Z ?_;unfold S.f43;have d:fV H p (.row b 0 (k+1) 2):=⟨_,_,_,a⟩
 refine⟨138,.ptr p 1,_,_,rfl,Mj,fV.ld Z d,?_⟩;refine S.Ju Z ?_;unfold S.f221;have w1:abF .i64 (((k+1:Nat):Int)-1)=(k:Nat):=by rw[wS (by omega) (by omega)];rfl
 simp only[j7,X,cM,w1];refine⟨138,.ptr p 1,_,_,rfl,CT,fV.ld Z d,?_⟩;refine CV Z (i:=0) h hc (by omega) (show k<k+1 by omega) λH1 h1 k1=>?_;have Y:=k1.at a c;refine XN Z (n:=k+1) (j:=0) (by omega) h1 ⟨_,_,_,Y⟩ c hc (by omega) (by omega) (λv H2 l k2=>?_) rfl;have a2:=k2.at Y c;refine⟨138,.ptr p 1,_,_,rfl,XK,rfl,?_⟩;refine S.Tj Z ?_;unfold S.f224;simp only[aC,X];rw[a2.load];simp only[show bE [xf,J.row b 0 (k+1) 2,y,z] 1 1 false=some (.row b 0 (k+1) 2)from rfl,X,j7,cM,w1];rw[Ml (by omega)];simp only[X];rw[a2.store,af ⟨rfl,rfl,rfl,by show 1+1≤4;decide⟩];simp only[X];rw[dH (by omega)];have kp:KX (·= p) H2 (H2.set p (.row [xf,.row b 0 k 2,y,z])):=KX.set (S:=(·= p)) _ rfl _;have f:Rw 2 (Pq B) (H2.set p (.row [xf,.row b 0 k 2,y,z])) b cap:=l.kx kp (λe=>c e.symm);obtain⟨es,he,e1⟩:=f.ld (i:=k) (by omega);change Do (some (J.ptr b (k*2))) _;simp only[X];rw[show setCells [xf,J.row b 0 (k+1) 2,y,z] 1 (J.row b 0 k 2).cells=[xf,.row b 0 k 2,y,z]from rfl,e1];simp only[X];exact g es _ he (a2.set _) f (((k1.trans k2 λi _ e=>e).mono λi _ e=> .inl e).trans kp λi _ e=> .inr e)
theorem XP{xf xu y z:J}{Q:ab}(w:us≤900000)(a:At H p (.row [xf,xu,y,z]))(h:Ls 2 (Pq B) U H xu us)(g:¬U p)(j:El 2 (Pq B) es)
  (s:∀c H',At H' p (.row [xf,c,y,z])→Ls 2 (Pq B) (λi=>U i∨H.n≤i) H' c (us+1)→KX (λi=>U i∨i=p) H H'→Q (.ar []) H'):ae C 46 [.iface 138 (.ptr p 1),.iface 136 (.agg es)] H Q:=by
 refine S.Q6 Z ?_;unfold S.f46;refine⟨138,.ptr p 1,_,_,rfl,XL,rfl,?_⟩;refine S.Tk Z ?_;unfold S.f225;have l1:W H 1 false (.ptr p 1)=some xu:=by rw[a.load];rfl
 simp only[aC,X,l1];rw[show c4 H (.kC 136) [.iface 136 (.agg es)]=some (.agg es,H)from rfl];simp only[aK];refine⟨l1,?_⟩;rw[CW j rfl];simp only[aK];obtain⟨c,H1,e1,h1,k1⟩:=h.app (bytes:=16) (tk:= .full) (by decide) j (by omega) (by omega);rw[e1];simp only[aK];have Y:=k1.at a g;have f:=h1.known;rw[Y.store,af ⟨f.1,by rw[f.2.2];rfl,by rw[f.2.2,adk,f.2.1];rfl,by show 1+1≤4;decide⟩,f.2.2];simp only[X];rw[show setCells [xf,xu,y,z] 1 [c]=[xf,c,y,z]from rfl];have kp:KX (·= p) H1 (H1.set p (.row [xf,c,y,z])):=KX.set (S:=(·= p)) _ rfl _;have k:¬(U p∨H.n≤p):=λe=>by
  rcases e with e|e
  ·exact g e
  ·have:=a.1;omega
 have t:Ls 2 (Pq B) (λi=>U i∨H.n≤i) (H1.set p (.row [xf,c,y,z])) c (us+1):=h1.kx kp λi e q=>k (q▸e);have a2:=Y.set (.row [xf,c,y,z]);have kk:KX (λi=>U i∨i=p) H (H1.set p (.row [xf,c,y,z])):=(k1.mono λi _ e=> .inl e).trans kp λi _ e=> .inr e;generalize H1.set p (.row [xf,c,y,z])=H2 at *;rcases t with⟨_,e⟩|⟨b,n,rfl,l,r,d⟩
 ·omega
 refine⟨138,.ptr p 1,_,_,rfl,Mj,fV.ld Z ⟨_,_,_,a2⟩,?_⟩;refine S.Ju Z ?_;unfold S.f221;have w1:abF .i64 (((us+1:Nat):Int)-1)=(us:Nat):=by rw[wS (by omega) (by omega)];rfl
 simp only[j7,X,cM,w1];have m:p≠b:=λe=>k (e▸d);refine XM Z (n:=us+1) (by omega) r ⟨_,_,_,a2⟩ m l (by omega) λu v o=>?_;refine s _ u (o.at a2 m) (.inr ⟨b,n,rfl,l,v,d⟩) (kk.trans o λi hi e=>?_);subst e;rcases d with d|d
 ·exact .inl d
 ·omega
end
structure eI(H:AH)(p B:Nat)(U:Nat→Prop)(fl us nx:Nat):Prop where
 up:U p
 bd:∀i,U i→i<H.n
 le:fl+us≤nx
 nb:nx≤B
 row:∃(xf xu:J) (Uf Uu:Nat→Prop),At H p (.row [xf,xu,I (nx:Nat),I (B:Nat)])∧Ls 1 (Pl B) Uf H xf fl∧Ls 2 (Pq B) Uu H xu us∧(∀i,Uf i→U i∧i≠p∧¬Uu i)∧(∀i,Uu i→U i∧i≠p)
theorem eI.kx{H H':AH}{p B fl us nx:Nat}{U T:Nat→Prop}(h:eI H p B U fl us nx)(k:KX T H H')(hs:∀i,U i→¬T i):eI H' p B U fl us nx:=by obtain⟨xf,xu,Uf,Uu,a,b,c,d,e⟩:=h.row;exact⟨h.up,λi hi=>sl (h.bd i hi) k.1,h.le,h.nb,xf,xu,Uf,Uu,k.at a (hs _ h.up),b.kx k λi hi=>hs i (d i hi).1,c.kx k λi hi=>hs i (e i hi).1,d,e⟩
def qa(H H':AH)(U a:Nat→Prop):Prop:=∀i,a i→U i∨(H.n≤i∧i<H'.n)
def yc(Φ:ad):Prop:=∀{H:AH}{Q:ab}{B len:Nat}{x:J}{U:Nat→Prop},Ls 1 (Pl B) U H x len→B≤1000000→len≤1000000→(∀H',Ls 1 (Pl B) U H' x len→KX U H H'→Q (.ar []) H')→Φ 44 [x,.fn 45 []] H Q
section
variable{C:Ctx}(Z:Cl (ae C) S.bg)(hS:yc (ae C)){B:Nat}{p:Nat}(hB:B≤900000)
include Z hS hB
theorem Mm{t:Int}(h:eI H p B U fl us nx)(G:∀K L y H',eI H' p B y K L nx→(∀i,U i→y i)→qa H H' U y→KX U H H'→Q (.ar []) H') :
  ae C 19 [.ptr p 0,I t] H Q:=by
 refine S.QI Z ?_;unfold S.f19;have main:∀(us fl:Nat)(f:Nat→Prop)(H1:AH),eI H1 p B f fl us nx→(∀i,U i→f i)→qa H H1 U f→KX U H H1→av (S.q2 (ae C) (.ptr p 0) (I t) Q) ([],H1):=by
  intro us;have fin:∀(us fl:Nat)(f:Nat→Prop)(H1:AH),eI H1 p B f fl us nx→(∀i,U i→f i)→qa H H1 U f→KX U H H1→S.Au (ae C) (.ptr p 0) Q [] H1:=by
   intro us fl f H1 h1 m g1 k1;obtain⟨xf,xu,Uf,Uu,a,b,c,d,e⟩:=h1.row;have l0:W H1 1 false (.ptr p 0)=some xf:=by rw[a.load];rfl
   simp only[S.Au,aC,aa,abg,X,l0];have:=h1.le;have:=h1.nb;refine hS b (by omega) (by omega) λH2 b2 k2=>?_;have M:eI H2 p B f fl us nx:=⟨h1.up,λi hi=>sl (h1.bd i hi) k2.1,h1.le,h1.nb,xf,xu,Uf,Uu,k2.at a (λq=>(d p q).2.1 rfl),b2,c.kx k2 λi hi q=>(d i q).2.2 hi,d,e⟩
   refine G fl us f H2 M m (λi hi=>?_) (k1.trans k2 λi hi q=>?_)
   · rcases g1 i hi with q|q
     ·exact .inl q
     ·exact .inr ⟨q.1,sl q.2 k2.1⟩
   · rcases g1 i (d i q).1 with q|q
     ·exact q
     ·omega
  induction us with
  | zero=>
   intro fl f H1 h1 m g1 k1;refine av.step ?_;obtain⟨xf,xu,Uf,Uu,a,b,c,d,e⟩:=h1.row;have l1:W H1 1 false (.ptr p 1)=some xu:=by rw[a.load];rfl
   simp only[S.q2,aC,aa,abg,X,l1,c.len,dy,cx,aE];rw[jt];simp only[S.q1,ay,F,acq,bz,aE];exact fin 0 fl f H1 h1 m g1 k1
  | succ us N=>
   intro fl f H1 h1 m g1 k1;refine av.step ?_;have hle:=h1.le;have ad:=h1.nb;obtain⟨xf,xu,Uf,Uu,a,b,c,d,e⟩:=h1.row;have l0:W H1 1 false (.ptr p 0)=some xf:=by rw[a.load];rfl
   have l1:W H1 1 false (.ptr p 1)=some xu:=by rw[a.load];rfl
   simp only[S.q2,aC,aa,abg,X,l1,c.len,dy,cx,aE];rw[sU];have c':=c;rcases c with⟨_,q⟩|⟨g,cap,rfl,P,r,l⟩
   ·omega
   rw[show aL none 2 (.row g 0 (us+1) 2) (O)=some (.ptr g (0*2))from dH (i:=0) (by omega)];obtain⟨v,_,ev⟩:=r.ld1 (i:=0) (k:=0) (by omega) (by decide);simp only[X,aa,ev,aU];have A:p≠g:=λq=>(e g l).2 q.symm;have o:∀D:Bool,S.q1 (ae C) (.ptr p 0) (av (S.q2 (ae C) (.ptr p 0) (I t) Q)) Q [.bool D] H1:=by
    intro D;simp only[S.q1,ay,F,aE];refine aB (λ_=>?_) (λ_=>fin (us+1) fl f H1 h1 m g1 k1);simp only[S.FU,aC,aa,abg,X,l0];refine XO Z (by omega) a r P A λes H2 he a2 R k2=>?_;have E:W H2 1 false (.ptr p 0)=some xf:=by rw[a2.load];rfl
    refine⟨E,?_⟩;rw[show c4 H2 (.kC 136) [.iface 136 (.agg es)]=some (.agg es,H2)from rfl];simp only[aK];refine⟨E,?_⟩;obtain⟨w,hw,z⟩:=he.2 1 (by decide);have z:=z rfl;rw [show ly 1 1 false (.agg es)=some (I w)from by show bE es 1 1 false=_;unfold bE;rw[af (by rw[he.1];decide),dC];exact hw]
    simp only[X];rw[show cb H2 false 1 1 [O] [(0,1,I w)]=some (.ax .full 1 [I w],H2)from rfl];simp only[aK];have b2:Ls 1 (Pl B) Uf H2 xf fl:=b.kx k2 λi hi q=>by
     rcases q with q|q
     ·exact(d i hi).2.2 (q▸l)
     ·exact(d i hi).2.1 q
    have V:El 1 (Pl B) [I w]:=⟨rfl,λk hk=>⟨w,by rw[show k=0 by omega];rfl,z⟩⟩
    obtain⟨j,u,Y,b3,o⟩:=b2.app (bytes:=8) (tk:= .full) (by decide) V (by omega) (by omega);rw[Y];simp only[aK];have a3:=o.at a2 (λq=>(d p q).2.1 rfl);have x:=b3.known;rw[a3.store,af ⟨x.1,by rw[x.2.2];rfl,by rw[x.2.2,adk,x.2.1];rfl,by show 0+1≤4;decide⟩,x.2.2];simp only[X];rw[show setCells [xf,J.row g 0 us 2,I (nx:Nat),I (B:Nat)] 0 [j]=[j,.row g 0 us 2,I (nx:Nat),I (B:Nat)]from rfl];have kp:KX (·= p) u (u.set p (.row [j,.row g 0 us 2,I (nx:Nat),I (B:Nat)])):=KX.set (S:=(·= p)) _ rfl _;have a4:=a3.set (.row [j,.row g 0 us 2,I (nx:Nat),I (B:Nat)]);have ag:(u.set p (.row [j,.row g 0 us 2,I (nx:Nat),I (B:Nat)])).n=u.n:=rfl;generalize u.set p (.row [j,.row g 0 us 2,I (nx:Nat),I (B:Nat)])=s at *;have n12:=k2.1;have n23:=o.1;have ah:=a.1;have r4:Rw 2 (Pq B) s g cap:=(R.kx o λq=>(d g q).2.2 l).kx kp λq=>A q.symm;have ab:Ls 1 (Pl B) (λi=>(Uf i∨H2.n≤i)∧i<s.n) s j (fl+1):=(b3.kx kp λi hi q=>by
      rcases hi with hi|hi
      ·exact(d i hi).2.1 q
      ·omega).mono λi hi q=>⟨q,hi⟩
    have kk:KX f H1 s:=((k2.mono (T:=f) λi _ q=>by
      rcases q with q|q
      ·exact q▸(e g l).1
      ·exact q▸h1.up).trans o λi _ q=>(d i q).1).trans kp λi _ q=>q▸h1.up
    refine N (fl+1) (λi=>f i∨(H1.n≤i∧i<s.n)) s ⟨.inl h1.up,λi hi=>?_,by omega,h1.nb,j,_,_,(·= g),a4,ab,.inr ⟨g,cap,rfl,by omega,r4,rfl⟩,λi hi=>?_,λi hi=>?_⟩ (λi hi=> .inl (m i hi)) (λi hi=>?_) (k1.trans kk λi hi q=>?_)
    · rcases hi with hi|hi
      ·have:=h1.bd i hi;omega
      ·exact hi.2
    · obtain⟨hi,ac⟩:=hi;rcases hi with hi|hi
      ·exact⟨.inl (d i hi).1,(d i hi).2.1,λq=>(d i hi).2.2 (q▸l)⟩
      ·exact⟨.inr ⟨by omega,ac⟩,by omega,λq=>by have:=r.lt;omega⟩
    ·subst hi;exact⟨.inl (e i l).1,(e i l).2⟩
    · rcases hi with hi|hi
      · rcases g1 i hi with q|q
        ·exact .inl q
        ·exact .inr ⟨q.1,by omega⟩
      ·exact .inr ⟨np k1.1 hi.1,hi.2⟩
    · rcases g1 i q with q|q
      ·exact q
      ·omega
   exact o _
 exact main us fl U H h (λi hi=>hi) (λi hi=> .inl hi) (KX.refl _)
end
end Rb

namespace Rb
open Go Go.RowKit Go.Lib Go.Sort Go.Proofs
variable{F:cJ}{w:World}{G:bn}{H:AH}{id:Nat}{cs:List J}
abbrev Fm:=Fin 1000001
def jR(x:Fm):Value:= .int .i64 (x.val:Int)
def jg(x:Fm):J:= .int .i64 (x.val:Int)
theorem Mn{l:List Fm}{j:Nat}{c:J}(h:(l.map jg)[j]?=some c):∃n,c = .int .i64 n∧jR l.toArray[j]! = .int .i64 n:=by
 rw[abl]at h;obtain⟨x,a,rfl⟩:=Option.map_eq_some_iff.1 h;have:l.toArray[j]! = x:=by simp only[Array.getElem!_eq_getD,Array.getD_eq_getD_getElem?,List.getElem?_toArray,a];rfl
 exact⟨_,rfl,by rw[this];rfl⟩
theorem XQ{l:List Fm}(f:Rel F w G H)(g:H.o id = .row cs)(hc:cs.take l.length=l.map jg):Go.Sort.Holds jR w (G.loc id) 0 l.toArray∧G.loc id<w.heap.size:=by
 have h:=f.obj id;rw[g]at h;obtain⟨c,e,h1,t,u,i⟩:=h;refine⟨λj k=>?_,(abd.1 h1).1⟩;have b:j<l.length:=by simpa using k
 obtain⟨a,d⟩:∃a,(l.map jg)[j]?=some a:=⟨_,abm (by rw[ac6];exact b)⟩
 obtain⟨n,rfl,m⟩:=Mn d;have p:cs[j]?=some (.int .i64 n):=by rw[←d,←hc,acx b]
 obtain⟨V,q,r⟩:=i j _ p;have s:V = .int .i64 n:=by cases r;rfl
 subst s;refine⟨?_,?_⟩
 · rw[m];simp only[afq,h1,Option.isSome_none,acq,bz,abg];exact q
 · simp only[World.frozen?,h1];simp
theorem Mo{l l':List Fm}(g:Rel F w G H)(p:H.o id = .row cs)(hc:cs.take l.length=l.map jg)(hl:l'.length=l.length)(n:Nat)(d:Array Obj) :
  Rel F (sortWorld jR w (G.loc id) 0 n l'.toArray d) G (H.set id (.row (l'.map jg++cs.drop l.length)))∧Step w G H (sortWorld jR w (G.loc id) 0 n l'.toArray d) G (H.set id (.row (l'.map jg++cs.drop l.length))):=by
 have h:=g.obj id;rw[p]at h;obtain⟨c,e,h1,u,q,r⟩:=h;have hlen:l.length≤cs.length:=by have:=congrArg afg hc;rw[List.length_take,ac6]at this;omega
 have ht:ju w (putRow jR (afr w n) (G.loc id) 0 l'.toArray) (G.loc id):=
  ⟨by simp[putRow,mapBlock,afr],λk hk=>by simp[putRow,mapBlock,afr,abi,Ne.symm hk],rfl,rfl,rfl,afl _ _⟩
 have v:(putRow jR (afr w n) (G.loc id) 0 l'.toArray).heap[G.loc id]?=some (.cells (putCells jR 0 l'.toArray c) e (0,0)):=by show((afr w n).heap.modify (G.loc id) _)[G.loc id]?=_;rw[abi,af rfl];show(w.heap[G.loc id]?).map _=_;rw[h1];rfl
 obtain ⟨r1,s1⟩:=g.write (i:=id) (by rw[p];rfl) q ht (.row (l'.map jg++cs.drop l.length)) rfl λx=>by
  refine⟨_,e,v,by simp[putCells,u],q,λj a b=>?_⟩;have s:l'.toArray.size=l.length:=by simp[hl]
  by_cases y:j<l.length
  · rw [ab8 (by rw[ac6,hl];exact y)]at b;obtain⟨m,rfl,hm⟩:=Mn b;have z:j<c.size:=by
     obtain⟨V,f,_⟩:=r j _ (abm (show j<cs.length by omega));exact(abd.1 f).1
    refine⟨.int .i64 m,?_,.int _ _⟩;simp only[putCells,afs];rw[Array.getElem?_eq_getElem z,aaL,af (by rw[s];omega),Nat.sub_zero,hm]
  · rw[ab9 (by rw[ac6,hl];omega),ac6,hl,aaw,show l.length+(j-l.length)=j by omega]at b;obtain⟨V,f,A⟩:=r j a b;refine⟨V,?_,A.mono x⟩;simp only[putCells,afs];rw[f,aaL,ai (by rw[s];omega)]
 have t:Below (putRow jR (afr w n) (G.loc id) 0 l'.toArray).heap.size (putRow jR (afr w n) (G.loc id) 0 l'.toArray) (sortWorld jR w (G.loc id) 0 n l'.toArray d):=by refine⟨rfl,rfl,rfl,by simp[sortWorld,grow],λk hk=>?_⟩;simp only[sortWorld,grow];rw[aft hk]
 exact⟨Xx t r1,s1.trans (Xy t (hT _) r1)⟩
def l_(x y:Fm):Int:=(y.val:Int)-(x.val:Int)
theorem yd(x y:Fm):ltOf l_ x y=decide (y.val<x.val):=by unfold ltOf l_;apply decide_eq_decide.2;omega
theorem XR:SWO (ltOf l_) where
 irrefl x:=by rw[yd];simp
 trans x y z h1 a:=by rw[yd,dM]at *;omega
 ntrans x y z h1 a:=by rw[yd,decide_eq_false_iff_not]at *;omega
theorem XS(x y:Fm)(a:ltOf l_ x y=false)(b:ltOf l_ y x=false):x=y:=by rw[yd,decide_eq_false_iff_not]at *;exact Fin.ext (by omega)
end Rb

namespace Rb
open Go Go.RowKit
theorem ae.flat{C:Ctx}(aj:bX C){key:Nat}{args:List J}{f:FuncId}{v:J}{w:World}{G:bn}{H:AH}{Vs:Array Value}(hf:C.F key=some f)(D:J.b7 args=true)(E:v.bI=true)(u:dE C w G H)(d:Rel C.F w G H)(y:aR C.F w G args Vs)
  (h:∀Q:ab,(∀H',Q v H')→ae C key args AH.mt Q):Calls C.P f Vs w λe w'=>∃V G',e = .returned V∧R C.F w' G' v V∧dE C w' G' H∧Rel C.F w' G' H∧GLe w G w' G'∧Below w.heap.size w w'∧∃q os,w'=Go.Sort.grow (w.drewN q) os:=by
 have I:Rel C.F w (bn.mt G.fz) AH.mt:=Rel.mt d.eX;have K:aR C.F w (bn.mt G.fz) args Vs:=⟨y.1,λj c V hc x=>o7 (G:=G) (G':=bn.mt G.fz) (w:=w) (λ_ _ h=>h) (λ_ _ _ _ h=>h) (mw D j c hc) (y.2 j c V hc x)⟩
 have L:iu C w (bn.mt G.fz):=λg l r=>o7 (G:=G) (G':=bn.mt G.fz) (w:=w) (λ_ _ h=>h) (λ_ _ _ _ h=>h) (by simp only[J.bI];exact aj g l r) (u.1 g l r);refine Calls.mono ((h (λz _=>z=v) (λ_=>rfl)).2 f hf _ w Vs (u.mt L λi hi=>by cases hi) I K) λe w' he=>?_;obtain⟨V,z,H',G',rfl,rfl,hv,M,p⟩:=he;have m:=p.below;have Z:=p.dr;have A:∀b o,G'.fz b o→G.fz b o∨w.heap.size≤b:=by
  intro b o N;rcases p.eY b o N with h|h|⟨i,hi,_⟩
  ·exact .inl h
  ·exact .inr h
  ·cases hi
 let s:bn:={G with fz:=λb o=>G.fz b o∨G'.fz b o}
 have B:∀b o V,G.fz b o→w.cell? ⟨b,o,none⟩=some V→w'.cell? ⟨b,o,none⟩=some V:=λb o V hf hc=>by rw[World.cell?_of_block (w:=w) (m.block b (World.block_lt_of_cell? w _ hc))];exact hc
 have r:GLe w G w' s:=⟨hT _,λ_ _=>rfl,λ_ _=>rfl,λ_ _ h=> .inl h,B⟩
 have O:Rel C.F w' s H:=by
  refine⟨d.n,d.over,λj=>(d.obj j).aO r (λhl=>d.gS hl) (λhl=>m.block _ ((d.obj j).lt hl)) λhl o t=>?_,d.eW,λb o hf=>?_⟩
  · rcases t with t|t
    ·exact t
    · rcases A _ _ t with h|h
      ·exact h
      ·exact absurd ((d.obj j).lt hl) (by omega)
  · rcases hf with hf|hf
    · obtain⟨V,x⟩:=d.eX b o hf;exact⟨V,B b o V hf x⟩
    ·exact M.eX b o hf
 have S:Step w G H w' s H:={r with
     size:=p.size,os:=p.os,tape:=p.tape,output:=p.output,dr:=p.dr,dv:=λk hk _=>m.block k hk,owned:=λi hi _=>⟨i,hi,rfl⟩
     eY:=λb o hf=>by
      rcases hf with hf|hf
      ·exact .inl hf
      · rcases A b o hf with h|h
        ·exact .inl h
        ·exact .inr (.inl h)}
 refine⟨V,s,rfl,o7 (G:=G') (G':=s) (w:=w') (λ_ _ h=>Or.inr h) (λ_ _ _ _ h=>h) E hv,u.step S,O,r,m,w'.drawn-w.drawn,w'.heap.extract w.heap.size w'.heap.size,?_⟩;have T:w'.heap=w.heap++w'.heap.extract w.heap.size w'.heap.size:=by
  apply Array.ext_getElem?;intro k;by_cases hk:k<w.heap.size
  ·rw[aft hk];exact m.block k hk
  · rw[Array.getElem?_append_right (by omega),Array.getElem?_extract];have hs:=m.size;split
    ·rw[show w.heap.size+(k-w.heap.size)=k by omega]
    ·exact Array.getElem?_eq_none (by omega)
 have key:∀a b:World,a.heap=b.heap→a.tape=b.tape→a.drawn=b.drawn→a.os=b.os→a.output=b.output→a=b:=by rintro⟨_,_,_,_,_⟩ ⟨_,_,_,_,_⟩ h1 U W X Y;cases h1;cases U;cases W;cases X;cases Y;rfl
 exact key _ _ T m.tape (by show w'.drawn=w.drawn+(w'.drawn-w.drawn);omega) m.os m.output
end Rb

namespace Go.Proofs.YtncnnojgkgceiaaGreatDoor.rb
open Rb Go.Shelf Go.RowKit Go.Lib Go.Sort Go.Proofs
variable{H:AH}{Q:ab}
def XT:Go.Shelf.Ren:=⟨λ|6=>44|15=>93|14=>92|28=>151|29=>152|20=>143|21=>144|22=>145|23=>146|24=>147|25=>148|26=>149|27=>150|46=>178|47=>179|48=>180|49=>181|50=>182|57=>198|n=>n,λ|22=>33|24=>3|25=>72|3=>3|39=>180|0=>0|53=>146|55=>41|4=>4|46=>230|45=>229|50=>81|5=>5|9=>9|66=>269|70=>194|76=>286|77=>287|n=>n,λ|n=>n⟩
theorem Mp:afu Tryz.prog XT:={
  mixed:=by kernel_rfl
  f6 := ⟨"slices.SortFunc[[]int,int]", by decide, Tryz.func44.trans (congrArg some (by kernel_rfl))⟩
  f14 := ⟨"slices.pdqsortCmpFunc[int]", by decide, Tryz.func92.trans (congrArg some (by kernel_rfl))⟩
  f15:=Tryz.func93.trans (congrArg some (by kernel_rfl))
  f20 := ⟨"slices.insertionSortCmpFunc[int]", by decide, Tryz.func143.trans (congrArg some (by kernel_rfl))⟩
  f21 := ⟨"slices.heapSortCmpFunc[int]", by decide, Tryz.func144.trans (congrArg some (by kernel_rfl))⟩
  f22 := ⟨"slices.breakPatternsCmpFunc[int]", by decide, Tryz.func145.trans (congrArg some (by kernel_rfl))⟩
  f23 := ⟨"slices.choosePivotCmpFunc[int]", by decide, Tryz.func146.trans (congrArg some (by kernel_rfl))⟩
  f24 := ⟨"slices.reverseRangeCmpFunc[int]", by decide, Tryz.func147.trans (congrArg some (by kernel_rfl))⟩
  f25 := ⟨"slices.partialInsertionSortCmpFunc[int]", by decide, Tryz.func148.trans (congrArg some (by kernel_rfl))⟩
  f26 := ⟨"slices.partitionEqualCmpFunc[int]", by decide, Tryz.func149.trans (congrArg some (by kernel_rfl))⟩
  f27 := ⟨"slices.partitionCmpFunc[int]", by decide, Tryz.func150.trans (congrArg some (by kernel_rfl))⟩
  f28:=Tryz.func151.trans (congrArg some (by kernel_rfl))
  f29:=Tryz.func152.trans (congrArg some (by kernel_rfl))
  f46 := ⟨"slices.siftDownCmpFunc[int]", by decide, Tryz.func178.trans (congrArg some (by kernel_rfl))⟩
  f47:=Tryz.func179.trans (congrArg some (by kernel_rfl))
  f48:=Tryz.func180.trans (congrArg some (by kernel_rfl))
  f49 := ⟨"slices.medianAdjacentCmpFunc[int]", by decide, Tryz.func181.trans (congrArg some (by kernel_rfl))⟩
  f50 := ⟨"slices.medianCmpFunc[int]", by decide, Tryz.func182.trans (congrArg some (by kernel_rfl))⟩
  f57 := ⟨"slices.order2CmpFunc[int]", by decide, Tryz.func198.trans (congrArg some (by kernel_rfl))⟩
  t0:=Tryz.underlying0
  a0:=Tryz.isAgg0
  z0:=Tryz.sizeOf0
  v0:=Tryz.zeroValue0
  t3:=Tryz.underlying3
  a3:=Tryz.isAgg3
  z3:=Tryz.sizeOf3
  v3:=Tryz.zeroValue3
  t4:=Tryz.underlying4
  a4:=Tryz.isAgg4
  z4:=Tryz.sizeOf4
  v4:=Tryz.zeroValue4
  t5:=Tryz.underlying5
  a5:=Tryz.isAgg5
  z5:=Tryz.sizeOf5
  v5:=Tryz.zeroValue5
  t9:=Tryz.underlying9
  a9:=Tryz.isAgg9
  z9:=Tryz.sizeOf9
  v9:=Tryz.zeroValue9
  t22:=Tryz.underlying33
  a22:=Tryz.isAgg33
  z22:=Tryz.sizeOf33
  v22:=Tryz.zeroValue33
  a24:=Tryz.isAgg3
  z24:=Tryz.sizeOf3
  t25:=Tryz.underlying72
  a25:=Tryz.isAgg72
  z25:=Tryz.sizeOf72
  v25:=Tryz.zeroValue72
  t39:=Tryz.underlying180
  a39:=Tryz.isAgg180
  z39:=Tryz.sizeOf180
  v39:=Tryz.zeroValue180
  t45:=Tryz.underlying229
  a45:=Tryz.isAgg229
  z45:=Tryz.sizeOf229
  v45:=Tryz.zeroValue229
  t46:=Tryz.underlying230
  a46:=Tryz.isAgg230
  z46:=Tryz.sizeOf230
  v46:=Tryz.zeroValue230
  t50:=Tryz.underlying81
  a50:=Tryz.isAgg81
  z50:=Tryz.sizeOf81
  v50:=Tryz.zeroValue81
  t53:=Tryz.underlying146
  a53:=Tryz.isAgg146
  z53:=Tryz.sizeOf146
  v53:=Tryz.zeroValue146
  t55:=Tryz.underlying41
  a55:=Tryz.isAgg41
  z55:=Tryz.sizeOf41
  v55:=Tryz.zeroValue41
  t66:=Tryz.underlying269
  a66:=Tryz.isAgg269
  z66:=Tryz.sizeOf269
  v66:=Tryz.zeroValue269
  t70:=Tryz.underlying194
  a70:=Tryz.isAgg194
  z70:=Tryz.sizeOf194
  v70:=Tryz.zeroValue194
  t76:=Tryz.underlying286
  a76:=Tryz.isAgg286
  z76:=Tryz.sizeOf286
  v76:=Tryz.zeroValue286
  t77:=Tryz.underlying287
  a77:=Tryz.isAgg287
  z77:=Tryz.sizeOf287
  v77:=Tryz.zeroValue287}
theorem Mq{B:Nat}(hB:B≤1000000):∀(n:Nat)(cs:List J),n≤cs.length→(∀j,j<n→∃v:Int,cs[j]?=some (I v)∧(0≤v∧v<B))→∃l:List Fm,l.length=n∧cs.take n=l.map jg∧∀x∈l,x.val<B
 |0,cs,_,_=>⟨[],rfl,by simp,λx a=>by cases a⟩
 |n+1,[],h,_=>by simp at h
 | n + 1,c::r,h,hv=>by
  obtain ⟨l,h1,b,d⟩:=Mq hB n r (by simpa using h) λj f=>by have:=hv (j+1) (by omega);simpa using this
  obtain⟨v,hc,e,g⟩:=hv 0 (by omega);simp at hc;subst hc;refine⟨⟨v.toNat,by omega⟩::l,by simp[h1],?_,λx a=>?_⟩
  · rw[List.take_succ_cons,b,List.map_cons];congr 1;show I v = I ((v.toNat:Nat):Int);rw[Int.toNat_of_nonneg e]
  · rcases acU.1 a with rfl|a
    ·show v.toNat<B;omega
    ·exact d x a
set_option maxRecDepth 100000 in
theorem XU{id:Nat}{cs:List J}{l:List Fm}(h:At H id (.row cs))(hc:cs.take l.length=l.map jg)(hl:l.length<4611686018427387904)(a:∀l':List Fm,l'.length=l.length→(∀x∈l',x∈l)→Q (.ar []) (H.set id (.row (l'.map jg++cs.drop l.length)))):ae C 44 [.row id 0 l.length 1,.fn 45 []] H Q:=by
 let l':=l.mergeSort λx y=>!(ltOf l_) y x;have i:l'.length=l.length:=List.length_mergeSort _;have a:=a l' i λx o=>(List.mem_mergeSort.1 o)
 refine⟨⟨_,_,a⟩,λf hf G W Vs s d t=>?_⟩;obtain rfl:f=44:=by
  have:C.F 44=some 44:=by kernel_rfl
  rw[this]at hf;exact(aaK.inj hf).symm
 obtain⟨u,hv⟩:=t;obtain⟨z⟩:=Vs
 match z,u with
 | [p,q],_=>
  have A:=hv 0 _ p rfl rfl;have h1:=hv 1 _ q rfl rfl;obtain ⟨cap,rfl⟩:∃cap,p = .slice (some ⟨G.loc id,0,none⟩) l.length cap:=by
   cases A with
   |row _ _ _ _ cap h hle hc=>exact⟨cap,rfl⟩
  have e1:q = .func (.func 45) #[] #[]:=by
   cases h1 with
   | fn _ _ f Vs hk hf hl hv=>
    have:C.F 45=some 45:=by kernel_rfl
    rw[this]at hf;cases hf;have:Vs = #[]:=Array.eq_empty_of_size_eq_zero (by rw[←hl];rfl);rw[this]
   |kr _ k _ f Vs hk hf hl hv=>cases hk
  subst e1;obtain⟨g1,g2⟩:=XQ d h.2 hc;have B:CmpLays1 Tryz.prog 45 #[] jR l_ (G.loc id) 0 l.toArray.size W:=by
   intro m os g D x y;obtain⟨rl,st⟩:=Mo d h.2 hc (l':=g.toList) (by simpa using D) m os;have E:g.toList.toArray=g:=by simp
   rw[E]at rl st;refine(ae.flat (C:=C) qY (key:=45) (args:=[jg x,jg y]) (v:= I (l_ x y)) (by kernel_rfl) rfl rfl (s.step st) rl ⟨rfl,λj c V hc b=>?_⟩ λQ a=>S.Q5 Bg ?_).mono λe w' ⟨V,G',he,b,_,_,_,_,K⟩=>⟨by rw[he,b.eM],K⟩
   · rcases j with _|_|j
     ·simp at hc b;subst hc b;exact .int _ _
     ·simp at hc b;subst hc b;exact .int _ _
     ·simp at hc
   · unfold S.f45 jg;simp only[cM,X];have o:=x.isLt;have M:=y.isLt;rw[bJ];exact a _
  have L:∀args w,(callFunc 45 args).run Tryz.prog w = .ok (.enter 45 args) w:=enters_of Tryz.func45 (by kernel_rfl) rfl;have r:=Any.slices_SortFunc_total Mp jR (λ_=>rfl) l_ XR 45 #[] (G.loc id) 0 cap l.toArray W L B g1 g2 (by simpa using hl) XS;change Calls Tryz.prog 44 _ W _ at r;refine r.mono λe w' ⟨he,n,os,hw⟩=>?_;subst hw;obtain⟨rl,st⟩:=Mo d h.2 hc i n os;exact⟨_,_,_,G,he,a,.ar [] #[] rfl λj c V hc=>by simp at hc,rl,st⟩
theorem XV{tk:Rb.Tok}(d:Q (.ar []) H):ae C 44 [.ax tk 0 [],.fn 45 []] H Q:=by
 refine⟨⟨_,_,d⟩,λf hf G W Vs s k l=>?_⟩;obtain rfl:f=44:=by
  have:C.F 44=some 44:=by kernel_rfl
  rw[this]at hf;exact(aaK.inj hf).symm
 obtain⟨m,hv⟩:=l;obtain⟨n⟩:=Vs
 match n,m with
 | [g,q],_=>
  have r:=hv 0 _ g rfl rfl;obtain ⟨p,cap,rfl⟩:∃p cap,g = .slice p 0 cap:=by
   cases r with
   |eD=>exact⟨_,_,rfl⟩
   |eE a cap=>exact⟨_,_,rfl⟩
   |ax _ _ _ b o cap t u hle h hv=>exact⟨_,_,rfl⟩
  have i:=AnyF.slices_SortFunc_none {Mp with} p cap q W;change Calls Tryz.prog 44 _ W _ at i;refine i.mono λe w' ⟨he,hw⟩=>?_;subst hw;exact⟨_,_,H,G,he,d,.ar [] #[] rfl λj c V hc=>by simp at hc,k,Step.refl _ _ _⟩
theorem XW:yc (ae C):=by
 intro H Q B len x U h hB hl e;rcases h with⟨rfl,rfl⟩|⟨id,n,rfl,i,⟨cs,a,b,c⟩,f⟩
 ·exact XV (e H (.inl ⟨rfl,rfl⟩) (KX.refl _))
 · obtain ⟨l,h1,k,m⟩:=Mq hB len cs (by omega) λj g=>by
     obtain⟨v,hv,o⟩:=b j (by omega);exact⟨v,hv,o⟩
   subst h1;refine XU c k (by omega) λl' p hm=>e _ (.inr ⟨id,n,rfl,i,⟨_,?_,λj g=>?_,c.set _⟩,f⟩) (KX.set _ f _)
   ·rw[ad9,ac6,List.length_drop,p,a];omega
   · by_cases d:j<l'.length
     · rw[ab8 (by rw[ac6];exact d),abl,abm d];refine⟨_,rfl,?_⟩;have:=m _ (hm _ (abu d));exact⟨by omega,by omega⟩
     · rw[ab9 (by rw[ac6];omega),ac6,aaw,show l.length+(j-l'.length)=j by omega];exact b j g
end Go.Proofs.YtncnnojgkgceiaaGreatDoor.rb

namespace Rb
open Go
variable{H:AH}{Q:ab}{U:Nat→Prop}{fl us nx len:Nat}{x:J}
section
variable{C:Ctx}(Z:Cl (ae C) S.bg){B:Nat}{p:Nat}(hB:B≤800000)
include Z hB
theorem Mr{t v:Int}{H H0:AH}{Q:ab}(h:eI H p B U fl us nx)(hl:fl+us+1≤nx)(hv:0≤v∧v<B)(x:H.n=H0.n)(g:KX U H0 H)
  (j:∀(v:Int) l m o f H',0≤v∧v<B→eI H' p B f l m o→qa H0 H' U f→KX U H0 H'→Q (.ar [I v,aV]) H') :
  S.uS (ae C) (.ptr p 0) (I t) Q [I v] H:=by
 obtain⟨xf,xu,Uf,Uu,a,b,c,d,e⟩:=h.row;have hle:=h.le;have y:=h.nb;simp only[S.uS,aC,aa,abg,X,ay];rw[show aD [O,O] [(0,1,I t),(1,1,I v)]=some (.agg [I t,I v])from rfl];simp only[X];have r:El 2 (Pq B) [I t,I v]:=⟨rfl,λk hk=>by
   rcases(show k=0∨k=1 by omega)with rfl|rfl
   ·exact⟨t,rfl,λq=>by omega⟩
   ·exact⟨v,rfl,λ_=>hv⟩⟩
 refine XP Z (by omega) a c (λq=>(e p q).2 rfl) r λs H' u c' k'=>?_;have z:=a.1;have kk:KX U H H':=k'.mono λi _ q=>by
  rcases q with q|q
  ·exact(e i q).1
  ·exact q▸h.up
 refine j v fl (us+1) nx (λi=>U i∨(H.n≤i∧i<H'.n)) H' hv ⟨.inl h.up,λi hi=>?_,by omega,h.nb,xf,s,Uf,(λi=>(Uu i∨H.n≤i)∧i<H'.n),u,b.kx k' λi hi q=>?_,c'.mono λi hi q=>⟨q,hi⟩,λi hi=>?_,λi hi=>?_⟩ (λi hi=>?_) (g.tr kk)
 · rcases hi with hi|hi
   ·have:=h.bd i hi;have:=k'.1;omega
   ·exact hi.2
 · rcases q with q|q
   ·exact(d i hi).2.2 q
   ·exact(d i hi).2.1 q
 · refine⟨.inl (d i hi).1,(d i hi).2.1,λq=>?_⟩;have:=h.bd i (d i hi).1;rcases q.1 with q|q
   ·exact(d i hi).2.2 q
   ·omega
 · obtain⟨hi,w⟩:=hi;rcases hi with hi|hi
   ·exact⟨.inl (e i hi).1,(e i hi).2⟩
   ·exact⟨.inr ⟨hi,w⟩,by omega⟩
 · rcases hi with hi|hi
   ·exact .inl hi
   ·exact .inr ⟨by omega,hi.2⟩
theorem Ms{t:Int}(h:eI H p B U fl us nx)(o:Q (.ar [O,P]) H)
  (g:∀(v:Int) s u w j H',0≤v∧v<B→eI H' p B j s u w→qa H H' U j→KX U H H'→Q (.ar [I v,aV]) H') :
  ae C 20 [.ptr p 0,I t] H Q:=by
 refine S.QJ Z ?_;unfold S.f20;have hle:=h.le;have y:=h.nb;obtain⟨xf,xu,Uf,Uu,a,b,c,d,e⟩:=h.row;have l0:W H 1 false (.ptr p 0)=some xf:=by rw[a.load];rfl
 have l2:W H 1 false (.ptr p 2)=some (I (nx:Nat)):=by rw[a.load];rfl
 have l3:W H 1 false (.ptr p 3)=some (I (B:Nat)):=by rw[a.load];rfl
 simp only[aC,aa,abg,X,l0,l2,l3,b.len,dy,F,aE];apply aB<;>intro q
 · have l:0<fl:=by simp at q;omega
   rcases b with⟨_,z⟩|⟨f,n,rfl,A,r,m⟩
   ·omega
   simp only[cM,wS (show 1≤fl by omega) (show fl≤4000000000000000000 by omega),X];rw[dH (by omega),Ml (by omega)];obtain⟨v,hv,ev⟩:=r.ld1 (i:=fl-1) (k:=0) (by omega) (by decide);rw[aa6]at ev;simp only[X,ev];rw[a.store,af ⟨rfl,rfl,rfl,by show 0+1≤4;decide⟩];simp only[X];rw[show setCells [J.row f 0 fl 1,xu,I (nx:Nat),I (B:Nat)] 0 (J.row f 0 (fl-1) 1).cells=[.row f 0 (fl-1) 1,xu,I (nx:Nat),I (B:Nat)]from rfl];have kp:KX (·= p) H (H.set p (.row [.row f 0 (fl-1) 1,xu,I (nx:Nat),I (B:Nat)])):=KX.set (S:=(·= p)) _ rfl _;refine Mr Z hB (H0:=H) (fl:=fl-1) (us:=us) (nx:=nx) ⟨h.up,h.bd,by omega,h.nb,_,xu,Uf,Uu,a.set _,.inr ⟨f,n,rfl,by omega,r.kx kp (d f m).2.1,m⟩,c.kx kp λi hi=>(e i hi).2,d,e⟩ (by omega) hv rfl (kp.mono λi _ q=>q▸h.up) g
 · have l:fl=0:=by simp at q;omega
   subst l;simp only[ec,X,F];refine aB (λ_=>o) (λx=>?_);have D:nx<B:=by simp at x;omega
   simp only[br,wN (show nx≤4000000000000000000 by omega),X];rw[a.store,af ⟨rfl,rfl,rfl,by show 2+1≤4;decide⟩];simp only[X];rw[show setCells [xf,xu,I (nx:Nat),I (B:Nat)] 2 (I ((nx+1:Nat):Int)).cells=[xf,xu,I ((nx+1:Nat):Int),I (B:Nat)]from rfl];have kp:KX (·= p) H (H.set p (.row [xf,xu,I ((nx+1:Nat):Int),I (B:Nat)])):=KX.set (S:=(·= p)) _ rfl _;exact Mr Z hB (H0:=H) (fl:=0) (us:=us) (nx:=nx+1) ⟨h.up,h.bd,by omega,by omega,xf,xu,Uf,Uu,a.set _,b.kx kp λi hi=>(d i hi).2.1,c.kx kp λi hi=>(e i hi).2,d,e⟩ (by omega) ⟨by omega,by omega⟩ rfl (kp.mono λi _ q=>q▸h.up) g
end
def CX(H:AH)(N:Nat)(x:J)(len:Nat):Prop:=(len=0∧aY false x=some O)∨∃id,x = .row id 0 len 3∧Rw 3 b6 H id len∧N≤id
section
variable{C:Ctx}(Z:Cl (ae C) S.bg)
include Z
theorem XX(hl:len≤1000000)(h:Ls 3 b6 U H x len)(a:∀b H',CX H' H.n b len→KX (λ_=>False) H H'→Q b H'):ae C 14 [x] H Q:=by
 refine S.QE Z ?_;unfold S.f14;have f:=h;rcases h with⟨rfl,rfl⟩|⟨id,n,rfl,d,r,_⟩
 · rw[show h2 .s false (aA)=some (aV)from rfl];simp only[X,F,aT];exact a _ _ (.inl ⟨rfl,rfl⟩) (KX.refl _)
 · rw [show h2 .s false (.row id 0 len 3)=some (P)from rfl];simp only[X,F,acq,bz];rw[show cb H false 3 0 [O,O,O] []=some (.ax .full 0 [],H)from rfl];simp only[aK];obtain⟨es,hc,he⟩:=r.cells d;by_cases c:len=0
   · subst c;rw [show bR H true 3 24 (.ax .full 0 []) (.row id 0 0 3)=some (.ax .full 0 [],H)from by
       simp only[bR,hc,he.scalar,not_true_eq_false,bz,aT]]
     simp only[aK];exact a _ _ (.inl ⟨rfl,rfl⟩) (KX.refl _)
   · rw [show bR H true 3 24 (.ax .full 0 []) (.row id 0 len 3)=some (.row H.n 0 (0+len) 3,H.push (.row ([]++es)))from by
       simp only[bR,hc,he.scalar,not_true_eq_false,bz];rw[ai c,ai (by simp only[ad8];exact⟨rfl,by omega,by omega⟩)]]
     simp only[aK];refine a _ _ (.inr ⟨H.n,by rw[abg],⟨es,he.1,λj e=>he.2 j e,At.new _ _⟩,hT _⟩) (KX.push _ _)
theorem XY{N len:Nat}(hl:len≤1000000)(h:CX H N x len)(a:∀H',CX H' N x len→(∀i,i<N→i<H.n→H'.o i=H.o i)→H.n≤H'.n→Q (.ar []) H'):ae C 15 [x,.fn 16 []] H Q:=by
 rcases h with⟨rfl,he⟩|⟨id,rfl,r,b⟩
 · refine S.Jl Z ?_;unfold S.f15;simp only[he,X];refine S.Jm Z ?_;unfold S.f41;refine av.step ?_;simp only[S.q5,ay,bY,gy,X,F,aE];rw[dC];simp only[S.vd,ay];refine S.Jo Z ?_;unfold S.f89;simp only[br,X];refine av.step ?_;simp only[S.mA,ay,aU,X,F];rw[dC];refine av.step ?_;simp only[S.nH,ay,aU,X,F];rw[dC];exact a H (.inl ⟨rfl,he⟩) (λ_ _ _=>rfl) (hT _)
 ·exact XJ Z hl r λH' c k'=>a H' (.inr ⟨id,rfl,c,b⟩) (λi hi d=>k'.2 i d (by omega)) k'.1
end
end Rb

namespace Rb
open Go
def Pv(L:Nat)(_:Nat)(v:Int):Prop:= -(L:Int)-1≤v∧v≤6
theorem si{es:List J}(d:El 3 b6 es):∃a b c:Int,es=[I a,I b,I c]:=by
 obtain⟨l,h⟩:=d
 match es,l with
 | [x,y,z],_=>obtain⟨a,e,_⟩:=h 0 (by decide);obtain⟨b,f,_⟩:=h 1 (by decide);obtain⟨c,hc,_⟩:=h 2 (by decide);cases e;cases f;cases hc;exact⟨a,b,c,rfl⟩
theorem eI.new(H:AH)(B:Nat):eI (H.push (.row [aA,aA,O,I (B:Nat)])) H.n B (·= H.n) 0 0 0:=⟨rfl,λi hi=>by subst hi;exact adn _,hT _,aa2 _,_,_,(λ_=>False),(λ_=>False),At.new _ _,.inl ⟨rfl,rfl⟩,.inl ⟨rfl,rfl⟩,λi hi=>hi.elim,λi hi=>hi.elim⟩
section
variable{C:Ctx}(Z:Cl (ae C) S.bg)(hS:yc (ae C))
include Z hS
theorem XZ{x:J}{m H p1 p2 ido K:Nat}(hl:m≤100000)(bx:H≤7)(bA:K≤100000000000)(o1:ido<p1)(o2:p1<p2){H0:AH}{Q:ab}(a0:∀(s:Int) H',Rw 1 (Pv m) H' ido K→KX (p1 ≤ ·) H0 H'∨KX (λi=>ido≤i) H0 H'→Q (.ar [.row ido 0 K 1,I s]) H') :
  ∀ (d i iG z y gA u p:Nat) (A w:Nat→Prop) (H1:AH),i+d=m→eI H1 p1 H A iG z y→eI H1 p2 m w gA u p→(∀j,A j→p1≤j∧¬w j)→(∀j,w j→p1≤j)→Rw 1 (Pv m) H1 ido K→(i<m→∃id,x = .row id 0 m 3∧Rw 3 b6 H1 id m∧id<ido)→KX (λi=>ido≤i) H0 H1 →
   av (S.lK (ae C) x (.row ido 0 K 1) (.ptr p1 0) (.ptr p2 0) (I (m:Nat)) Q) ([I (i:Nat)],H1):=by
 intro d;induction d with
 | zero=>intro i iG z y gA u p A w H1 hi T P2 L U ag aD k1;refine av.step ?_;simp only[S.lK,ay,aU,X,F,aE];rw[en];obtain⟨xf,xu,Uf,Uu,a,_⟩:=P2.row;simp only[S.Fu,aC,aa,abg,X];rw[a.load];exact⟨_,rfl,a0 _ H1 ag (.inr k1)⟩
 | succ d a1=>
  intro i iG z y gA u p A w H1 hi T P2 L U ag aD k1;refine av.step ?_;simp only[S.lK,ay,aU,X,F,aE];rw[e_];obtain⟨id,rfl,rx,a2⟩:=aD (by omega);rw[dH (by omega)];obtain⟨es,he,e1⟩:=rx.ld (i:=i) (by omega);obtain⟨r,f,t,rfl⟩:=si he;simp only[X,e1,aQ,aT,aK];rw[cG H1 [O,O,O] [I r,I f,I t] 3 rfl rfl rfl];have kb:KX (λ_=>False) H1 (H1.push (.row [I r,I f,I t])):=KX.push _ _;have an:=At.new H1 (.row [I r,I f,I t]);have bB:=ag.lt;have bC:=T.bd _ T.up;have bD:=P2.bd _ P2.up;have ao:=T.kx kb λ_ _ h=>h;have ap:=P2.kx kb λ_ _ h=>h;have aF:=ag.kx kb λh=>h;have aG:=rx.kx kb λh=>h;have aH:KX (λi=>ido≤i) H0 (H1.push (.row [I r,I f,I t])):=k1.tr (KX.push _ _);have bE:H1.n+1=(H1.push (.row [I r,I f,I t])).n:=rfl;generalize H1.push (.row [I r,I f,I t])=H2 at *;have N:∀H',At H' H1.n (.row [I r,I f,I t])→W H' 1 false (.ptr H1.n 0)=some (I r)∧W H' 1 false (.ptr H1.n 1)=some (I f)∧W H' 1 false (.ptr H1.n 2)=some (I t):=λH' a=>by refine⟨?_,?_,?_⟩<;>(rw[a.load];rfl)
  have next:∀(iG z y gA u p:Nat)(A w:Nat→Prop)(o:AH),eI o p1 H A iG z y→eI o p2 m w gA u p→(∀j,A j→p1≤j∧¬w j)→(∀j,w j→p1≤j)→Rw 1 (Pv m) o ido K→Rw 3 b6 o id m→KX (λi=>ido≤i) H0 o →
    S.nF (ae C) ([I (i:Nat)],H1) (av (S.lK (ae C) (.row id 0 m 3) (.row ido 0 K 1) (.ptr p1 0) (.ptr p2 0) (I (m:Nat)) Q)) Q [] o:=by
   intro iG z y gA u p A w o a b c ah e aq g;simp only[S.nF,ay,br,X,wN (show i≤4000000000000000000 by omega)];exact a1 (i+1) iG z y gA u p A w o (by omega) a b c ah e (λ_=>⟨id,rfl,aq,a2⟩) g
  have skip:=next iG z y gA u p A w H2 ao ap L U aF aG aH
  have go:∀rn:Nat,r=(rn:Int)→rn<K→S.Ap (ae C) (.row ido 0 K 1) (.ptr p1 0) (.ptr p2 0) (.ptr H1.n 0) ([I (i:Nat)],H1) (av (S.lK (ae C) (.row id 0 m 3) (.row ido 0 K 1) (.ptr p1 0) (.ptr p2 0) (I (m:Nat)) Q)) Q [] H2:=by
   rintro rn rfl aI;simp only[S.Ap,aa,abg,X,(N H2 an).2.1];refine⟨_,_,rfl,?_⟩;refine Mm Z hS (B:=H) (by omega) ao λaJ aM ad aw aN bF aO V=>?_;have b1:∀j,A j→j<H2.n:=ao.bd;have b2:∀j,w j→j<H2.n:=ap.bd;have aP:=V.at an (λq=>by have:=T.bd _ q;omega);have a3:eI aw p2 m w gA u p:=ap.kx V λj l q=>(L j q).2 l;have a4:=aF.kx V (λq=>by have:=(L _ q).1;omega);have a5:=aG.kx V (λq=>by have:=(L _ q).1;omega);have a6:KX (λi=>ido≤i) H0 aw:=aH.trans V λj _ q=>by have:=(L _ q).1;omega
   have ax:∀j,ad j→p1≤j∧¬w j:=λj l=>by
    rcases aO j l with q|q
    ·exact L j q
    ·exact⟨by omega,λaz=>by have:=b2 j az;omega⟩
   have bG:=V.1;simp only[(N aw aP).2.1,X];refine⟨_,_,rfl,?_⟩;refine Mm Z hS (B:=m) (by omega) a3 λa7 a8 P R ai bH aA Y=>?_;have aj:=Y.at aP (λq=>by have:=P2.bd _ q;omega);have a9:=aN.bd;have aB:eI R p1 H ad aJ aM y:=aN.kx Y λj l q=>(ax j l).2 q;have aR:=a4.kx Y (λq=>by have:=U _ q;omega);have aS:=a5.kx Y (λq=>by have:=U _ q;omega);have aV:KX (λi=>ido≤i) H0 R:=a6.trans Y λj _ q=>by have:=U _ q;omega
   have bI:=Y.1;have af:∀j,P j→p1≤j:=λj l=>by
    rcases aA j l with q|q
    ·exact U j q
    ·omega
   have E:∀j,ad j→p1≤j∧¬P j:=λj l=>⟨(ax j l).1,λq=>by
     rcases aA j q with q|q
     ·exact(ax j l).2 q
     ·have:=a9 j l;omega⟩
   have a_:∀j,ad j→j≠H1.n:=λj l e=>by
    rcases aO j l with q|q
    ·have:=T.bd _ q;omega
    ·omega
   have ba:∀j,P j→j≠H1.n:=λj l e=>by
    rcases aA j l with q|q
    ·have:=P2.bd _ q;omega
    ·omega
   have bb:=ai.bd;simp only[(N R aj).2.2,X];have put:∀(v:Int)(iG z y gA u p:Nat)(ak D:Nat→Prop)(o:AH),Pv m 0 v→eI o p1 H ak iG z y→eI o p2 m D gA u p→(∀j,ak j→p1≤j∧¬D j)→(∀j,D j→p1≤j)→Rw 1 (Pv m) o ido K→Rw 3 b6 o id m→KX (λi=>ido≤i) H0 o →
     Do (aL none 1 (.row ido 0 K 1) (I (rn:Nat))) λbc=>Do (au o 1 bc (I v)) λbe=>S.nF (ae C) ([I (i:Nat)],H1) (av (S.lK (ae C) (.row id 0 m 3) (.row ido 0 K 1) (.ptr p1 0) (.ptr p2 0) (I (m:Nat)) Q)) Q [] be:=by
    intro v iG z y gA u p ak D o hv a b c ah e aq g;rw[dH aI];obtain⟨bf,aW,r4,al⟩:=e.st1 (i:=rn) (k:=0) aI (by decide) hv;rw[aa6]at aW;simp only[X,aW];exact next _ _ _ _ _ _ ak D bf (a.kx al λj l q=>by have:=(c j l).1;omega) (b.kx al λj l q=>by have:=ah j l;omega) c ah r4 (aq.kx al (by omega)) (g.trans al λj _ q=>by omega)
   refine Ms Z (B:=H) (by omega) aB ?_ λv bg bh bi bj am hv bk gc G=>?_
   · simp only[bo,adW,adX,X,F,acq,bz,(N R aj).2.2];have aX:∀(v:Int)(c:Bool)(gA u p:Nat)(D:Nat→Prop)(o:AH),0≤v∧v≤m→eI o p2 m D gA u p→qa R o P D→KX P R o →
       Do (bo 0 (.ar [I v,.bool c])) λbl=>Do (bo 1 (.ar [I v,.bool c])) λbK=>Do (W o 1 false (.ptr H1.n 0)) λbm=>Do (M .sub (I (-1)) bl) λbn=>Do (aL none 1 (.row ido 0 K 1) bm) λbp=>Do (au o 1 bp bn) λbq=>S.nF (ae C) ([I (i:Nat)],H1) (av (S.lK (ae C) (.row id 0 m 3) (.row ido 0 K 1) (.ptr p1 0) (.ptr p2 0) (I (m:Nat)) Q)) Q [] bq:=by
      intro v c gA u p D o hv b aY ac;have bs:=ac.at aj (λq=>ba _ q rfl);simp only[bo,adW,adX,X,(N o bs).1,cM];rw[bJ];have bL:=ac.1;refine put (-1-v) aJ aM y gA u p ad D o ⟨by omega,by omega⟩ (aB.kx ac λj l q=>(E j l).2 q) b (λj l=>⟨(E j l).1,λq=>?_⟩) (λj l=>?_) (aR.kx ac (λq=>by have:=af _ q;omega)) (aS.kx ac (λq=>by have:=af _ q;omega)) (aV.trans ac λj _ q=>by have:=af _ q;omega)
      · rcases aY j q with q|q
        ·exact(E j l).2 q
        ·have:=aB.bd j l;omega
      · rcases aY j l with q|q
        ·exact af j q
        ·omega
     refine Ms Z (B:=m) (by omega) ai (aX 0 false _ _ _ P R ⟨by omega,by omega⟩ ai (λj l=> .inl l) (KX.refl _)) λv bM bN bO bt am hv bu gc G=>aX v true _ _ _ bt am ⟨hv.1,by have:=hv.2;omega⟩ bu gc G
   · have bv:=G.at aj (λq=>a_ _ q rfl);simp only[bo,adW,adX,X,F,aT,(N am bv).1];have bP:=G.1;refine put v bg bh bi a7 a8 p bj P am ⟨by have:=hv.1;omega,by have:=hv.2;omega⟩ bk (ai.kx G λj l q=>(E j q).2 l) (λj l=>?_) af (aR.kx G (λq=>by have:=(E _ q).1;omega)) (aS.kx G (λq=>by have:=(E _ q).1;omega)) (aV.trans G λj _ q=>by have:=(E _ q).1;omega);rcases gc j l with q|q
     ·exact E j q
     ·exact⟨by omega,λaz=>by have:=bb j az;omega⟩
  simp only[X,aa,abg,(N H2 an).1,j7,aU,ec,ck];have aZ:∀c:Bool,(c=false→0≤r∧r<K)→S.uB (ae C) (.row ido 0 K 1) (.ptr p1 0) (.ptr p2 0) (.ptr H1.n 0) ([I (i:Nat)],H1) (av (S.lK (ae C) (.row id 0 m 3) (.row ido 0 K 1) (.ptr p1 0) (.ptr p2 0) (I (m:Nat)) Q)) Q [.bool c] H2:=by intro c hc;simp only[S.uB,ay,F,aE];refine cz (λ_=>skip) (λe=>?_);have:=hc e;exact go r.toNat (by omega) (by omega)
  refine nP (λe=>aZ _ λbw=>?_) (λ_=>aZ true λe=>by cases e);simp at e bw;omega
theorem X0{U:Nat→Prop}{x:J}{len a K:Nat}(hl:len≤100000)(p:a≤7)(u:K≤100000000000){H:AH}{Q:ab}(h:Ls 3 b6 U H x len)
  (v:∀(ido:Nat)(s:Int) H',Rw 1 (Pv len) H' ido K→H.n≤ido→KX (λ_=>False) H H'→Q (.ar [.row ido 0 K 1,I s]) H') :
  ae C 6 [x,I (K:Nat),I (a:Nat)] H Q:=by
 refine S.Qw Z ?_;unfold S.f6;refine XX Z (by omega) h λg H1 h1 k1=>?_;refine XY Z (by omega) h1 λH2 l o2 n2=>?_;have k2:KX (λ_=>False) H H2:=⟨np k1.1 n2,λi hi hs=>(o2 i hi (sl hi k1.1)).trans (k1.2 i hi hs)⟩
 have mx:∀n:Nat,eL true [I (n:Nat),O]=some (I (n:Nat)):=λn=>by simp only[eL,mV,qg,aT];rw[bO]
 simp only[mx,X];have w:kz H2 true 1 8 [O] (I (K:Nat)) (I (K:Nat))=some (.row H2.n 0 K 1,H2.push (.row (VR K [O]).flatten)):=by simp only[kz];rw[af ⟨by omega,by omega,by omega,by omega,rfl⟩];simp
 rw[w];simp only[aK];have y:∀t,(VR t [O]).flatten=VR t (O):=λt=>by
  induction t with
  |zero=>rfl
  |succ k z=>rw[abz,abA,z];rfl
 have r0:Rw 1 (Pv len) (H2.push (.row (VR K [O]).flatten)) H2.n K:=by rw[y];refine⟨_,by rw[afo];omega,λj m=>⟨0,by rw[adh,cA],⟨by omega,by omega⟩⟩,At.new _ _⟩
 have o:KX (λ_=>False) H2 (H2.push (.row (VR K [O]).flatten)):=KX.push _ _;have n3:(H2.push (.row (VR K [O]).flatten)).n=H2.n+1:=rfl;generalize H2.push (.row (VR K [O]).flatten)=b at *;rw[show aD [aA,aA,O,O] [(3,1,I (a:Nat))]=some (.agg [aA,aA,O,I (a:Nat)])from rfl];simp only[X];rw[show aM b true 4 (.agg [aA,aA,O,I (a:Nat)])=some (.ptr b.n 0,b.push (.row [aA,aA,O,I (a:Nat)]))from rfl];simp only[aK];have A:=eI.new b a;have f:KX (λ_=>False) b (b.push (.row [aA,aA,O,I (a:Nat)])):=KX.push _ _;have n4:(b.push (.row [aA,aA,O,I (a:Nat)])).n=b.n+1:=rfl;generalize b.push (.row [aA,aA,O,I (a:Nat)])=c at *;simp only[h.len,X];rw[show aD [aA,aA,O,O] [(3,1,I (len:Nat))]=some (.agg [aA,aA,O,I (len:Nat)])from rfl];simp only[X];rw[show aM c true 4 (.agg [aA,aA,O,I (len:Nat)])=some (.ptr c.n 0,c.push (.row [aA,aA,O,I (len:Nat)]))from rfl];simp only[aK];have P2:=eI.new c len;have d:KX (λ_=>False) c (c.push (.row [aA,aA,O,I (len:Nat)])):=KX.push _ _;generalize c.push (.row [aA,aA,O,I (len:Nat)])=B at *;have D:aY false g=some (I (len:Nat)):=by
  rcases l with⟨rfl,e⟩|⟨id,rfl,_⟩
  ·exact e
  ·rfl
 simp only[D,X];have E:=k2.1;refine XZ Z hS (x:=g) (H0:=H) hl p u (ido:=H2.n) (p1:=b.n) (p2:=c.n) (by omega) (by omega) (λs H' r k=>v H2.n s H' r E ?_) len 0 0 0 0 0 0 0 _ _ B (by omega) (A.kx d λ_ _ h=>h) P2 (λj m=>⟨by omega,λq=>by omega⟩) (λj m=>by omega) ((r0.kx f λh=>h).kx d λh=>h) (λ_=>?_) ?_
 · rcases k with k|k
   ·exact k.mono λi hi q=>by omega
   ·exact k.mono λi hi q=>by omega
 · rcases l with⟨e,_⟩|⟨id,e,r,F⟩
   ·omega
   ·exact⟨id,e,((r.kx o λh=>h).kx f λh=>h).kx d λh=>h,r.lt⟩
 ·exact(((k2.tr o).tr f).tr d).mono λi _ q=>q.elim
end
end Rb

namespace Rb
open Go
def kl(op:Int):List UInt8→List Int→Bool
 |[],rest=>rest==[op,0,0,0,0,0,0]
 |c::r,rest=>if(c.toNat:Int)=122 then kl op r rest else dG (cq c.toNat) (rest.getD (fk c.toNat) 0)&&kl op r (rest.set (fk c.toNat) 0)
theorem CY(op:Int):∀(l:List UInt8)(rest:List Int)(w:Int),kl op l rest=true→(iZ op l rest w).2=0
 | [],rest,w,h=>by unfold iZ;rw[af (by simpa[kl]using h)]
 | c :: r,rest,w,h=>by
  unfold kl at h;unfold iZ;by_cases hc:(c.toNat:Int)=122
  · rw[af hc]at h ⊢;exact CY op r rest w h
  · rw[ai hc]at h ⊢;rw[aaz]at h;rw[af h.1];exact CY op r _ _ h.2
structure eJ(i:List Int):Prop where
 len:i.length=7
 enc:(ga i).2=0
theorem jh{op a b c d e f:Int}(l:List UInt8)(hs:(ej op).2=l)(hl:l≠[])(h:kl op l [op,a,b,c,d,e,f]=true):eJ [op,a,b,c,d,e,f]:=by refine⟨rfl,?_⟩;unfold ga;rw[show([op,a,b,c,d,e,f]:List Int).getD 0 0=op from rfl,hs,ai hl];exact CY op l _ _ h
def Rg(x:Int):Prop:=0≤x∧x≤31
def Ra(x:Int):Prop:=0≤x∧x≤30
theorem Ra.g{x:Int}(h:Ra x):Rg x:=⟨h.1,by have:=h.2;omega⟩
section
variable{op d n m e s x:Int}
theorem ye{c:Int}(hc:cq c=(0,5,false,0,31)∨cq c=(5,5,false,0,31)∨cq c=(16,5,false,0,31)∨cq c=(10,5,false,0,31))(h:Rg x):dG (cq c) x=true:=by have:=h.1;have:=h.2;rcases hc with hc|hc|hc|hc<;>rw[hc]<;>simp[dG]<;>omega
theorem ma(h:Rg x):dG (cq ((100:UInt8).toNat:Nat)) x=true:=ye (.inl rfl) h
theorem X1(h:Rg x):dG (cq ((110:UInt8).toNat:Nat)) x=true:=ye (.inr (.inl rfl)) h
theorem CZ(h:Rg x):dG (cq ((109:UInt8).toNat:Nat)) x=true:=ye (.inr (.inr (.inl rfl))) h
theorem Mt(h:Rg x):dG (cq ((101:UInt8).toNat:Nat)) x=true:=ye (.inr (.inr (.inr rfl))) h
theorem mP{c x:Int}{a b t k:Int}(hc:cq c=(a,b,false,t,k))(h:0≤x∧x≤k):dG (cq c) x=true:=by have:=h.1;have:=h.2;rw[hc];simp[dG];omega
theorem so(h:Ra x):dG (cq ((97:UInt8).toNat:Nat)) x=true:=mP (k:=30) rfl h
theorem C0(h:0≤x∧x≤3):dG (cq ((115:UInt8).toNat:Nat)) x=true:=mP (k:=3) rfl h
theorem X2(h:0≤x∧x≤3):dG (cq ((113:UInt8).toNat:Nat)) x=true:=mP (k:=3) rfl h
theorem X3(h:0≤x∧x≤3):dG (cq ((99:UInt8).toNat:Nat)) x=true:=mP (k:=3) rfl h
theorem X4(h:0≤x∧x≤3):dG (cq ((107:UInt8).toNat:Nat)) x=true:=mP (k:=3) rfl h
theorem Mu(h:0≤x∧x≤65535):dG (cq ((105:UInt8).toNat:Nat)) x=true:=mP (k:=65535) rfl h
theorem X5(h:0≤x∧x≤4095):dG (cq ((111:UInt8).toNat:Nat)) x=true:=mP (k:=4095) rfl h
theorem X6(h:0≤x∧x≤2):dG (cq ((102:UInt8).toNat:Nat)) x=true:=mP (k:=2) rfl h
theorem Mv(h : -262144≤x∧x<262144):dG (cq ((120:UInt8).toNat:Nat)) x=true:=by have:=h.1;have:=h.2;rw[show cq ((120:UInt8).toNat:Nat)=(5,19,true,0,0)from rfl];show(decide (x ≥ -262144)&&decide (x<262144))=true;simp;omega
theorem X7(h : -262144≤x∧x<262144):dG (cq ((98:UInt8).toNat:Nat)) x=true:=by have:=h.1;have:=h.2;rw[show cq ((98:UInt8).toNat:Nat)=(0,26,true,0,0)from rfl];show(decide (x ≥ -33554432)&&decide (x<33554432))=true;simp;omega
theorem dI{c:UInt8}{r:List UInt8}{rest:List Int}(hc:(c.toNat:Int)≠122)(h:dG (cq (c.toNat:Nat)) (rest.getD (fk c.toNat) 0)=true)(k:kl op r (rest.set (fk c.toNat) 0)=true):kl op (c::r) rest=true:=by unfold kl;rw[ai hc,h,Bool.true_and];exact k
theorem ji:kl op [] [op,0,0,0,0,0,0]=true:=by simp[kl]
theorem X8(a:op=1∨op=2)(b:Rg d)(c:0≤e∧e≤3)(f:0≤x∧x≤65535):eJ [op,d,0,0,e,0,x]:=jh [100,105,113] (by rcases a with rfl|rfl<;>rfl) (by decide) (dI (by decide) (ma b) (dI (by decide) (Mu f) (dI (by decide) (X2 c) ji)))
theorem mQ(a:3≤op∧op≤11)(b:Rg d)(c:Rg n)(e:Rg m):eJ [op,d,n,m,0,0,0]:=
 jh [100,110,109] (by
   obtain⟨h1,f⟩:=a;have:op=3∨op=4∨op=5∨op=6∨op=7∨op=8∨op=9∨op=10∨op=11:=by omega
   rcases this with rfl|rfl|rfl|rfl|rfl|rfl|rfl|rfl|rfl<;>rfl) (by decide) (dI (by decide) (ma b) (dI (by decide) (X1 c) (dI (by decide) (CZ e) ji)))
theorem X9(a:Rg d)(b:0≤e∧e≤3):eJ [12,d,0,0,e,0,0]:=jh [100,107] rfl (by decide) (dI (by decide) (ma a) (dI (by decide) (X4 b) ji))
theorem C1(a : -262144≤x∧x<262144):eJ [13,0,0,0,0,0,x]:=jh [98] rfl (by decide) (dI (by decide) (X7 a) ji)
theorem Mw(a:0≤e∧e≤3)(b : -262144≤x∧x<262144):eJ [14,0,0,0,e,0,x]:=jh [120,99] rfl (by decide) (dI (by decide) (Mv b) (dI (by decide) (X3 a) ji))
theorem sq(a:op=15∨op=16)(b:Rg d)(c : -262144≤x∧x<262144):eJ [op,d,0,0,0,0,x]:=jh [100,120] (by rcases a with rfl|rfl<;>rfl) (by decide) (dI (by decide) (ma b) (dI (by decide) (Mv c) ji))
theorem yf(a:op=17∨op=18)(b:Rg d)(c:Ra n)(hs:0≤s∧s≤3)(e:0≤x∧x≤4095):eJ [op,d,n,0,0,s,x]:=jh [100,97,111,115] (by rcases a with rfl|rfl<;>rfl) (by decide) (dI (by decide) (ma b) (dI (by decide) (so c) (dI (by decide) (X5 e) (dI (by decide) (C0 hs) ji))))
theorem yg(a:19≤op∧op≤22)(b:Rg d)(c:Ra n)(hs:0≤s∧s≤3):eJ [op,d,n,0,0,s,0]:=
 jh [100,97,115] (by
   obtain⟨h1,e⟩:=a;have:op=19∨op=20∨op=21∨op=22:=by omega
   rcases this with rfl|rfl|rfl|rfl<;>rfl) (by decide) (dI (by decide) (ma b) (dI (by decide) (so c) (dI (by decide) (C0 hs) ji)))
theorem My(a:op=23∨op=24)(b:Rg d)(c:Ra n)(e:Rg m)(hs:0≤s∧s≤3):eJ [op,d,n,m,0,s,0]:=jh [100,97,115,109] (by rcases a with rfl|rfl<;>rfl) (by decide) (dI (by decide) (ma b) (dI (by decide) (so c) (dI (by decide) (C0 hs) (dI (by decide) (CZ e) ji))))
theorem X_(a:op=25∨op=26)(b:Rg d)(c:Ra n)(f:Rg e):eJ [op,d,n,0,e,0,0]:=jh [100,97,101] (by rcases a with rfl|rfl<;>rfl) (by decide) (dI (by decide) (ma b) (dI (by decide) (so c) (dI (by decide) (Mt f) ji)))
theorem Ya(a:op=27∨op=28)(b:Rg d)(c:Ra n)(f:Rg m)(g:Rg e):eJ [op,d,n,m,e,0,0]:=jh [100,97,101,109] (by rcases a with rfl|rfl<;>rfl) (by decide) (dI (by decide) (ma b) (dI (by decide) (so c) (dI (by decide) (Mt g) (dI (by decide) (CZ f) ji))))
theorem Yb(a:0≤x∧x≤2):eJ [29,0,0,0,0,0,x]:=jh [102] rfl (by decide) (dI (by decide) (X6 a) ji)
theorem Yc:eJ [30,0,0,0,0,0,0]:=⟨rfl,by decide⟩
theorem C2(a:op=31∨op=32)(b:0≤x∧x≤65535):eJ [op,0,0,0,0,0,x]:=jh [105] (by rcases a with rfl|rfl<;>rfl) (by decide) (dI (by decide) (Mu b) ji)
end
def mR(i:List Int):Prop:=13≤i.getD 0 0∧i.getD 0 0≤16
def Ok(n:Nat)(l:List (List Int)):Prop:=∀(k:Nat)(x:List Int),l[k]?=some x→eJ x∧(mR x→0≤(n:Int)+k+x.getD 6 0∧(n:Int)+k+x.getD 6 0≤n+l.length)
theorem Ok.nil(n:Nat):Ok n []:=λk x h=>by cases h
theorem Ok.app{n:Nat}{a b:List (List Int)}(h:Ok n a)(g:Ok (n+a.length) b):Ok n (a++b):=by
 intro k x c;rw[ad9];by_cases hk:k<a.length
 · rw[ab8 hk]at c;obtain⟨i,j⟩:=h k x c;exact⟨i,λe=>by have:=j e;omega⟩
 · rw[ab9 (by omega)]at c;obtain⟨i,j⟩:=g _ x c;exact⟨i,λe=>by have:=j e;omega⟩
theorem Ok.one{n:Nat}{x:List Int}(h:eJ x)(b:¬mR x):Ok n [x]:=λk y a=>by
 cases k with
 |zero=>cases a;exact⟨h,λe=>absurd e b⟩
 |succ k=>cases a
theorem nB{op a b c d e f:Int}(h:op<13∨16<op):¬mR [op,a,b,c,d,e,f]:=λk=>by have h1:13≤op:=k.1;have g:op≤16:=k.2;omega
end Rb

namespace Rb
open Go
variable{U T:Nat→Prop}{x:J}{i:List Int}{H1 H2:AH}{c1 c2:Nat→Nat}
def eU(H:AH)(U:Nat→Prop)(x:J)(is:List (List Int)):Prop:=(x = aA∧is=[])∨∃id,x = .row id 0 is.length 7∧At H id (.row (is.flatMap IV))∧U id
theorem sr:∀{is:List (List Int)},(∀i∈is,i.length=7)→(is.flatMap IV).length=is.length*7
 |[],_=>rfl
 | i::r,h=>by rw[adR,ad9,sr λj a=>h j (acV _ a),aeO,jG,h i (acW ..)];omega
theorem yh(h:i.length=7):El 7 b6 (IV i):=⟨by rw[jG,h],λk hk=>⟨i.getD k 0,by simp[List.getD,show k<i.length by omega],trivial⟩⟩
theorem eU.app{H:AH}{is:List (List Int)}(h:eU H U x is)(d:∀i∈is,i.length=7)(hi:i.length=7)(f:is.length≤1000000) :
  ∃b H',bR H true 7 56 x (.ax .full 1 (IV i))=some (b,H')∧eU H' (λj=>U j∨H.n≤j) b (is++[i])∧KX U H H':=by
 have he:=yh hi;have c:=Bs he .full H;rcases h with⟨rfl,rfl⟩|⟨id,rfl,a,e⟩
 · refine ⟨.row H.n 0 1 7,H.push (.row (IV i)),?_,.inr ⟨H.n,rfl,?_,.inr (hT _)⟩,KX.push _ _⟩
   · simp only[bR,c,he.scalar,not_true_eq_false,bz];rw[dC,ai (by simp only[ad8];exact⟨rfl,by omega,by omega⟩)];rfl
   · have:=At.new H (.row (IV i));simpa using this
 · have hl:=sr d;refine⟨.row H.n 0 (is.length+1) 7,(H.set id .gone).push (.row (is.flatMap IV++IV i)),?_,.inr ⟨H.n,by simp,?_,.inr (hT _)⟩,(KX.set H e .gone).tr (KX.push _ _)⟩
   · simp only[bR,c,he.scalar,not_true_eq_false,bz,a.2];rw[dC,ai (by simp only[ad8];exact⟨trivial,trivial,by omega,by omega⟩),bO,af hl]
   · have:=At.new (H.set id .gone) (.row (is.flatMap IV++IV i));simpa using this
theorem eU.kx{H H':AH}{is:List (List Int)}(h:eU H U x is)(k:KX T H H')(hs:∀i,U i→¬T i):eU H' U x is:=by
 rcases h with h|⟨id,e,a,u⟩
 ·exact .inl h
 ·exact .inr ⟨id,e,k.at a (hs _ u),u⟩
theorem eU.mono{H:AH}{is:List (List Int)}(h:eU H U x is)(hs:∀i,i<H.n→U i→T i):eU H T x is:=by
 rcases h with h|⟨id,e,a,u⟩
 ·exact .inl h
 ·exact .inr ⟨id,e,a,hs _ a.1 u⟩
theorem eU.known{H:AH}{is:List (List Int)}(h:eU H U x is):x.known=true∧x.scalar=true∧x.cells=[x]∧aY false x=some (I (is.length:Nat)):=by rcases h with⟨rfl,rfl⟩|⟨id,rfl,_⟩<;>exact⟨rfl,rfl,rfl,rfl⟩
def km(H:AH)(U:Nat→Prop)(x:J)(bs:List (Int×Int)):Prop:=∃tk,x = .ax tk bs.length (bs.flatMap ct)∧((tk = .nil∧bs=[])∨∃t,tk = .own t∧At H t (.tok (bs.length*2) 2)∧U t)
theorem km.kx{H H':AH}{bs:List (Int×Int)}(h:km H U x bs)(k:KX T H H')(hs:∀i,U i→¬T i):km H' U x bs:=by
 obtain⟨tk,e,h⟩:=h;refine⟨tk,e,?_⟩;rcases h with h|⟨t,a,b,c⟩
 ·exact .inl h
 ·exact .inr ⟨t,a,k.at b (hs _ c),c⟩
theorem km.mono{H:AH}{bs:List (Int×Int)}(h:km H U x bs)(hs:∀i,i<H.n→U i→T i):km H T x bs:=by
 obtain⟨tk,e,h⟩:=h;refine⟨tk,e,?_⟩;rcases h with h|⟨t,a,b,c⟩
 ·exact .inl h
 ·exact .inr ⟨t,a,b,hs _ b.1 c⟩
theorem km.app{H:AH}{bs:List (Int×Int)}(h:km H U x bs)(p:Int×Int)(g:bs.length≤1000000) :
  ∃b H',bR H false 2 16 x (.ax .full 1 (ct p))=some (b,H')∧km H' (λj=>U j∨H.n≤j) b (bs++[p])∧KX U H H':=by
 obtain⟨tk,rfl,h⟩:=h;have c:ef H 2 (.ax .full 1 (ct p))=some (1,ct p):=rfl;have d:(ct p).all J.scalar=true:=rfl;have hl:=L9 bs;have e1:(bs++[p]).flatMap ct=bs.flatMap ct++ct p:=by simp
 have e:(bs++[p]).length=bs.length+1:=by simp
 unfold km;rw[e1,e];rcases h with⟨rfl,rfl⟩|⟨t,rfl,a,f⟩
 · refine⟨.ax (.own H.n) 1 (ct p),H.push (.tok 2 2),?_,⟨_,rfl,.inr ⟨H.n,rfl,At.new _ _,.inr (hT _)⟩⟩,KX.push _ _⟩;rfl
 · refine⟨.ax (.own H.n) (bs.length+1) (bs.flatMap ct++ct p),(H.set t .gone).push (.tok ((bs.length+1)*2) 2),?_,⟨_,rfl,.inr ⟨H.n,rfl,At.new (H.set t .gone) _,.inr (hT _)⟩⟩,(KX.set H f .gone).tr (KX.push _ _)⟩;simp only[bR,c,d,not_true_eq_false,bz];rw[dC,ai (by simp only[ad8];exact⟨hl,by omega,by omega⟩)];simp[a.2]
def Mz(n:Nat)(_:Int)(v:J):Prop:=∃x:Nat,v = I (x:Nat)∧x≤n
def mb(is:List (List Int))(b:Int×Int):Prop:=∃(k:Nat) (op d x:Int),b.1=(k:Nat)∧is[k]?=some [op,d,0,0,0,0,x]∧((op=13∧d=0)∨(op=15∧Rg d))
theorem mb.app{is:List (List Int)}{b:Int×Int}(h:mb is b)(a:List (List Int)):mb (is++a) b:=by obtain⟨k,op,d,x,e,h1,c⟩:=h;exact⟨k,op,d,x,e,by rw[ab8 (aat.1 h1).1];exact h1,c⟩
structure cy(D:(Int×Int→Prop)×Nat×Nat)(m ip f L:Nat)(H:AH)(c:Nat→Nat)(is:List (List Int)):Prop where
 l7:∀i∈is,i.length=7
 um:c m=1
 bd:∀i,c i≠0→i<H.n
 pl:Rw 1 (Pv L) H ip f
 jS:c ip=0
 row:∃(xo xs xl xb:J) (V e:Int) (lm:Nat) (es:List (J×J)) (bs:List (Int×Int)),At H m (.row [.row ip 0 f 1,xo,xs,xl,I V,.map lm,xb,I e])∧c lm=2∧eU H (c ·= 3) xo is∧Ls 1 b6 (c ·= 4) H xs is.length∧Ls 1 b6 (c ·= 5) H xl is.length∧At H lm (.map es)∧fx (Mz D.2.2) es∧km H (c ·= 6) xb bs∧(∀b∈bs,mb is b∨D.1 b)∧bs.length≤D.2.1∧D.2.2≤is.length
structure ES(H:AH)(c:Nat→Nat)(H':AH)(c':Nat→Nat):Prop where
 kx:KX (λi=>c i≠0) H H'
 gr:∀i,c' i≠0→c i≠0∨(H.n≤i∧i<H'.n)
theorem ES.refl(H:AH)(c:Nat→Nat):ES H c H c:=⟨KX.refl _,λi h=> .inl h⟩
theorem ES.trans{H H1 H2:AH}{c c1 c2:Nat→Nat}(h:ES H c H1 c1)(g:ES H1 c1 H2 c2):ES H c H2 c2:=
 ⟨h.kx.trans g.kx λi hi q=>by
   rcases h.gr i q with q|q
   ·exact q
   ·omega,λi hi=>by
   have:=h.kx.1;have:=g.kx.1;rcases g.gr i hi with q|q
   · rcases h.gr i q with q|q
     ·exact .inl q
     ·exact .inr ⟨q.1,by omega⟩
   ·exact .inr ⟨by omega,q.2⟩⟩
theorem ES.at{H H':AH}{c c':Nat→Nat}(h:ES H c H' c'){i:Nat}{o:bS}(a:At H i o)(hc:c i=0):At H' i o∧c' i=0:=by
 refine⟨h.kx.at a (λq=>q hc),?_⟩;rcases adY (c' i)with q|q
 ·exact q
 · exfalso;rcases h.gr i (by omega)with q|q
   ·exact q hc
   ·have:=a.1;omega
structure iP(D:(Int×Int→Prop)×Nat×Nat)(m ip f L:Nat)(H:AH)(c:Nat→Nat)(is new:List (List Int))(H':AH)(c':Nat→Nat):Prop where
 now:cy D m ip f L H' c' (is++new)
 es:ES H c H' c'
section
variable{D:(Int×Int→Prop)×Nat×Nat}{m ip f L:Nat}{H:AH}{c:Nat→Nat}{is:List (List Int)}
theorem iP.refl(h:cy D m ip f L H c is):iP D m ip f L H c is [] H c:=⟨by rw[aee];exact h,ES.refl _ _⟩
theorem iP.trans{a b:List (List Int)}(h:iP D m ip f L H c is a H1 c1)(g:iP D m ip f L H1 c1 (is++a) b H2 c2):iP D m ip f L H c is (a++b) H2 c2:=⟨by rw[←aeI];exact g.now,h.es.trans g.es⟩
end
def pt(c:Nat→Nat)(a b k:Nat)(i:Nat):Nat:=if a≤i∧i<b then k else c i
theorem im{c:Nat→Nat}{a b k i:Nat}(h:i<a):pt c a b k i=c i:=bO
section
variable{C:Ctx}(Z:Cl (ae C) S.bg){D:(Int×Int→Prop)×Nat×Nat}{m ip f L:Nat}{H:AH}{c:Nat→Nat}{is:List (List Int)}
include Z
theorem lq(h:cy D m ip f L H c is)(aE:is.length≤900000)(hi:i.length=7){s:Int}{Q:ab}(ag:∀H' c',iP D m ip f L H c is [i] H' c'→Q (.ar []) H') :
  ae C 59 [.ptr m 0,I s,.agg (IV i)] H Q:=by
 refine S.Rm Z ?_;unfold S.f59;have ah:aM H false 7 (.agg (IV i))=some (.ak (IV i),H):=by unfold aM;rw[af ⟨rfl,by show(IV i).length=7;rw[jG,hi]⟩];rfl
 have ai:∀H,W H 7 true (.ak (IV i))=some (.agg (IV i)):=λH=>dP (by rw[jG,hi]);obtain⟨xo,xs,xl,xb,V,e,lm,es,bs,a,E,aj,hs,hl,N,mk,al,am,P⟩:=h.row;have l1:W H 1 false (.ptr m 1)=some xo:=by rw[a.load];rfl
 simp only[ah,aK,aC,aa,abg,X,l1,ai];rw[CW (yh hi) rfl];simp only[aK];obtain⟨g,H1,e1,R,k1⟩:=aj.app h.l7 hi (by omega);rw[e1];have Y:=k1.at a (by rw[h.um];decide);have n1:=k1.1;have hm:=a.1;have an:∀{x:Nat},(c m=3∨H.n≤m)→False:=λq=>q.elim (λq=>by rw[h.um]at q;cases q) λq=>(by omega)
 obtain⟨z,A,o,_⟩:=R.known;simp only[aK];rw[Y.store,af ⟨z,by rw[o];rfl,by rw[o,adk,A];rfl,by show 1+1≤8;decide⟩,o,show setCells [J.row ip 0 f 1,xo,xs,xl,I V,.map lm,xb,I e] 1 [g]=[.row ip 0 f 1,g,xs,xl,I V,.map lm,xb,I e]from rfl];simp only[X];have F:KX (·= m) H1 (H1.set m (.row [.row ip 0 f 1,g,xs,xl,I V,.map lm,xb,I e])):=KX.set (S:=(·= m)) _ rfl _;have a2:=Y.set (.row [.row ip 0 f 1,g,xs,xl,I V,.map lm,xb,I e]);have n2:=F.1;have k2:KX (λj=>c j=3∨c j=1) H (H1.set m (.row [.row ip 0 f 1,g,xs,xl,I V,.map lm,xb,I e])):=(k1.mono λj _ q=> .inl q).trans F λj _ q=> .inr (q▸h.um);have ao:eU (H1.set m (.row [.row ip 0 f 1,g,xs,xl,I V,.map lm,xb,I e])) (λj=>c j=3∨(H.n≤j∧j<H1.n)) g (is++[i]):=(R.kx F λj d q=>by subst q;exact an (x:=0) d).mono λj d q=>q.elim .inl λq=> .inr ⟨q,d⟩;have aF:(H1.set m (.row [.row ip 0 f 1,g,xs,xl,I V,.map lm,xb,I e])).n=H1.n:=rfl;generalize H1.set m (.row [.row ip 0 f 1,g,xs,xl,I V,.map lm,xb,I e])=H2 at *;have uq:=hs.kx k2 λj d q=>by rcases q with q|q<;>rw[d]at q<;>cases q
 have l2:W H2 1 false (.ptr m 2)=some xs:=by rw[a2.load];rfl
 simp only[l2,X];have T:∀v:Int,El 1 b6 [I v]:=λv=>⟨rfl,λk hk=>⟨v,by rw[show k=0 by omega];rfl,trivial⟩⟩
 rw[show cb H2 false 1 1 [O] [(0,1,I s)]=some (.ax .full 1 [I s],H2)from rfl];simp only[aK];obtain⟨l,r,ap,nD,G⟩:=uq.app (bytes:=8) (tk:= .full) (by decide) (T s) (by omega) (by omega);rw[ap];have a3:=G.at a2 (by rw[h.um];decide);obtain⟨z,A,o⟩:=nD.known;simp only[aK];rw[a3.store,af ⟨z,by rw[o];rfl,by rw[o,adk,A];rfl,by show 2+1≤8;decide⟩,o,show setCells [J.row ip 0 f 1,g,xs,xl,I V,.map lm,xb,I e] 2 [l]=[.row ip 0 f 1,g,l,xl,I V,.map lm,xb,I e]from rfl];simp only[X];have U:KX (·= m) r (r.set m (.row [.row ip 0 f 1,g,l,xl,I V,.map lm,xb,I e])):=KX.set (S:=(·= m)) _ rfl _;have a4:=a3.set (.row [.row ip 0 f 1,g,l,xl,I V,.map lm,xb,I e]);have w:KX (λj=>c j=4∨c j=1) H2 (r.set m (.row [.row ip 0 f 1,g,l,xl,I V,.map lm,xb,I e])):=(G.mono λj _ q=> .inl q).trans U λj _ q=> .inr (q▸h.um);have aG:H2.n≤r.n:=G.1;have aH:(r.set m (.row [.row ip 0 f 1,g,l,xl,I V,.map lm,xb,I e])).n=r.n:=rfl;have ur:Ls 1 b6 (λj=>c j=4∨(H2.n≤j∧j<r.n)) (r.set m (.row [.row ip 0 f 1,g,l,xl,I V,.map lm,xb,I e])) l (is.length+1):=(nD.kx U λj d q=>by
   subst q;rcases d with d|d
   ·rw[h.um]at d;cases d
   ·omega).mono λj d q=>q.elim .inl λq=> .inr ⟨q,d⟩
 generalize r.set m (.row [.row ip 0 f 1,g,l,xl,I V,.map lm,xb,I e])=t at *;have n4:=w.1;have aq:=hl.kx k2 λj d q=>by rcases q with q|q<;>rw[d]at q<;>cases q
 have au:=aq.kx w λj d q=>by rcases q with q|q<;>rw[d]at q<;>cases q
 have l3:W t 1 false (.ptr m 3)=some xl:=by rw[a4.load];rfl
 have l4:W t 1 false (.ptr m 4)=some (I V):=by rw[a4.load];rfl
 simp only[l3,l4,X];rw[show cb t false 1 1 [O] [(0,1,I V)]=some (.ax .full 1 [I V],t)from rfl];simp only[aK];obtain⟨p,u,av,ac,K⟩:=au.app (bytes:=8) (tk:= .full) (by decide) (T V) (by omega) (by omega);rw[av];have a5:=K.at a4 (by rw[h.um];decide);obtain⟨z,A,o⟩:=ac.known;simp only[aK];rw[a5.store,af ⟨z,by rw[o];rfl,by rw[o,adk,A];rfl,by show 3+1≤8;decide⟩,o,show setCells [J.row ip 0 f 1,g,l,xl,I V,.map lm,xb,I e] 3 [p]=[.row ip 0 f 1,g,l,p,I V,.map lm,xb,I e]from rfl];simp only[X];have ad:KX (·= m) u (u.set m (.row [.row ip 0 f 1,g,l,p,I V,.map lm,xb,I e])):=KX.set (S:=(·= m)) _ rfl _;have a6:=a5.set (.row [.row ip 0 f 1,g,l,p,I V,.map lm,xb,I e]);have y:KX (λj=>c j=5∨c j=1) t (u.set m (.row [.row ip 0 f 1,g,l,p,I V,.map lm,xb,I e])):=(K.mono λj _ q=> .inl q).trans ad λj _ q=> .inr (q▸h.um);have aI:t.n≤u.n:=K.1;have aJ:(u.set m (.row [.row ip 0 f 1,g,l,p,I V,.map lm,xb,I e])).n=u.n:=rfl;have aw:Ls 1 b6 (λj=>c j=5∨(t.n≤j∧j<u.n)) (u.set m (.row [.row ip 0 f 1,g,l,p,I V,.map lm,xb,I e])) p (is.length+1):=(ac.kx ad λj d q=>by
   subst q;rcases d with d|d
   ·rw[h.um]at d;cases d
   ·omega).mono λj d q=>q.elim .inl λq=> .inr ⟨q,d⟩
 generalize u.set m (.row [.row ip 0 f 1,g,l,p,I V,.map lm,xb,I e])=M at *;have n6:=y.1;have kk:KX (λj=>c j≠0) H M:=((k2.mono λj _ q=>by omega).trans w λj _ q=>by omega).trans y λj _ q=>by omega
 have aL:=k2.1;have ay:=(ao.kx w λj d q=>by have:=h.bd j;omega).kx y λj d q=>by have:=h.bd j;omega
 have az:=ur.kx y λj d q=>by have:=h.bd j;omega
 have aA:=y.at (w.at (k2.at N (by rw[E];decide)) (by rw[E];decide)) (by rw[E];decide);have aB:=((al.kx k2 λj d q=>by omega).kx w λj d q=>by omega).kx y λj d q=>by omega
 have B:=h.bd;refine ag M (pt (pt (pt c H.n H2.n 3) H2.n t.n 4) t.n M.n 5) ⟨⟨λj d=>?_,?_,λj d=>?_,h.pl.kx kk (λq=>q h.jS),?_,g,l,p,xb,V,e,lm,es,bs,a6,?_,ay.mono λj d q=>?_,?_,?_,aA,?_,aB.mono λj d q=>?_,λb aD=>(am b aD).imp (λq=>q.app _) _root_.id,?_⟩,⟨kk,λj d=>?_⟩⟩
 · rcases acN.1 d with d|d
   ·exact h.l7 j d
   ·rw[afh]at d;rw[d];exact hi
 ·rw[im (by omega),im (by omega),im (by omega)];exact h.um
 · have:=B j;unfold pt at d
   repeat' split at d
   all_goals omega
 · have:=h.pl.lt;rw[im (by omega),im (by omega),im (by omega)];exact h.jS
 · have:=N.1;rw[im (by omega),im (by omega),im (by omega)];exact E
 · unfold pt;have:=B j
   repeat' split
   all_goals omega
 · rw[ad9];refine az.mono λj d q=>?_;unfold pt;have:=B j
   repeat' split
   all_goals omega
 · rw[ad9];refine aw.mono λj d q=>?_;unfold pt;have:=B j
   repeat' split
   all_goals omega
 ·exact mk
 · unfold pt;have:=B j
   repeat' split
   all_goals omega
 · have:=P.2;exact⟨P.1,by rw[ad9];omega⟩
 · unfold pt at d
   repeat' split at d
   all_goals omega
end
end Rb

namespace Rb
open Go
variable{H1:AH}{c1:Nat→Nat}{w v:Nat}{i:List Int}{x d n:Int}
theorem dJ(p:List (Nat×Nat×J))(cs:List J)(h:fW (IV [0,0,0,0,0,0,0]) p=some cs):aD [O,O,O,O,O,O,O] p=some (.agg cs):=by unfold aD;show adp _ (fW (IV [0,0,0,0,0,0,0]) p)=_;rw[h];rfl
theorem cy.qb{D:(Int×Int→Prop)×Nat×Nat}{m ip f L:Nat}{H:AH}{c:Nat→Nat}{is:List (List Int)}(h:cy D m ip f L H c is):∃x,W H 1 false (.ptr m 1)=some x∧aY false x=some (I (is.length:Nat)):=by obtain⟨xo,xs,xl,xb,V,e,lm,es,bs,a,d,b,_⟩:=h.row;exact⟨xo,by rw[a.load];rfl,b.known.2.2.2⟩
structure b_(D:(Int×Int→Prop)×Nat×Nat)(m ip f L:Nat)(H:AH)(c:Nat→Nat)(is new:List (List Int))(w:Nat)(H':AH)(c':Nat→Nat):Prop where
 r:iP D m ip f L H c is new H' c'
 l:new.length≤w
 ok:Ok is.length new
section
variable{D:(Int×Int→Prop)×Nat×Nat}{m ip f L:Nat}{H:AH}{c:Nat→Nat}{is:List (List Int)}
theorem b_.refl(h:cy D m ip f L H c is):b_ D m ip f L H c is [] 0 H c:=⟨iP.refl h,hT _,Ok.nil _⟩
theorem b_.trans{H1 H2:AH}{c1 c2:Nat→Nat}{a b:List (List Int)}(h:b_ D m ip f L H c is a w H1 c1)(g:b_ D m ip f L H1 c1 (is++a) b v H2 c2):b_ D m ip f L H c is (a++b) (w+v) H2 c2:=⟨h.r.trans g.r,by rw[ad9];have:=h.l;have:=g.l;omega,h.ok.app (by have:=g.ok;rwa [ad9]at this)⟩
theorem b_.mono{a:List (List Int)}(h:b_ D m ip f L H c is a w H1 c1)(b:w≤v):b_ D m ip f L H c is a v H1 c1:=⟨h.r,np h.l b,h.ok⟩
theorem b_.one(h:iP D m ip f L H c is [i] H1 c1)(hi:eJ i)(a:¬mR i):b_ D m ip f L H c is [i] 1 H1 c1:=⟨h,hT _,Ok.one hi a⟩
theorem b_.len{a:List (List Int)}(h:b_ D m ip f L H c is a w H1 c1)(b:is.length+(w+v)≤900000):(is++a).length+v≤900000:=by rw[ad9];have:=h.l;omega
end
def Rp(x:Int):Prop:=0≤x∧x≤14
theorem Rp.a(h:Rp x):Ra x:=⟨h.1,by have:=h.2;omega⟩
theorem Rp.g(h:Rp x):Rg x:=h.a.g
section
variable{C:Ctx}(Z:Cl (ae C) S.bg){D:(Int×Int→Prop)×Nat×Nat}{m ip f L:Nat}{H:AH}{c:Nat→Nat}{is:List (List Int)}{Q:ab}
include Z
theorem fy(h:cy D m ip f L H c is)(a:is.length≤900000)(hi:i.length=7)(b:∀H' c',iP D m ip f L H c is [i] H' c'→Q (.ar []) H') :
  ae C 28 [.ptr m 0,.agg (IV i)] H Q:=by
 refine S.QR Z ?_;unfold S.f28;have d:aM H false 7 (.agg (IV i))=some (.ak (IV i),H):=by unfold aM;rw[af ⟨rfl,by show(IV i).length=7;rw[jG,hi]⟩];rfl
 have e:W H 7 true (.ak (IV i))=some (.agg (IV i)):=dP (by rw[jG,hi]);simp only[d,aK,e,X];exact lq Z h a hi b
theorem C3(h:cy D m ip f L H c is)(a:is.length≤900000)(t:Nat)(ht:t≤900000)(b:∀H' c',iP D m ip f L H c is [[16,13,0,0,0,0,(t:Int)-is.length]] H' c'→Q (.ar []) H') :
  ae C 106 [.ptr m 0,I (t:Nat)] H Q:=by
 refine S.R7 Z ?_;unfold S.f106;obtain⟨x,h1,d⟩:=h.qb;simp only[aC,aa,abg,X,h1,d,cM];rw[bJ,dJ [(0,1,I 16),(1,1,I 13),(6,1,I ((t:Int)-(is.length:Nat)))] (IV [16,13,0,0,0,0,(t:Int)-is.length]) rfl];simp only[X];exact fy Z h a rfl b
theorem cy.own(h:cy D m ip f L H c is){k:Nat}(g:k=4∨k=7)(v:Int):∃H',au H 1 (.ptr m k) (I v)=some H'∧b_ D m ip f L H c is [] 0 H' c:=by
 obtain⟨xo,xs,xl,xb,V,e,lm,es,bs,a,d,l,hs,hl,n,mk,o,p,s⟩:=h.row;have fin:∀(V e:Int),b_ D m ip f L H c is [] 0 (H.set m (.row [.row ip 0 f 1,xo,xs,xl,I V,.map lm,xb,I e])) c:=by intro V e;have kp:KX (·= m) H (H.set m (.row [.row ip 0 f 1,xo,xs,xl,I V,.map lm,xb,I e])):=KX.set (S:=(·= m)) _ rfl _;have hm:∀{j k:Nat},c j=k→k≠1→j≠m:=λe q r=>q (by rw[←e,r,h.um]);refine⟨⟨?_,⟨kp.mono λi _ q=>by subst q;rw[h.um];decide,λi hi=> .inl hi⟩⟩,hT _,Ok.nil _⟩;rw[aee];exact⟨h.l7,h.um,h.bd,h.pl.kx kp (hm h.jS (by decide)),h.jS,xo,xs,xl,xb,V,e,lm,es,bs,a.set _,d,l.kx kp λj b=>hm b (by decide),hs.kx kp λj b=>hm b (by decide),hl.kx kp λj b=>hm b (by decide),kp.at n (hm d (by decide)),mk,o.kx kp λj b=>hm b (by decide),p,s⟩
 rcases g with rfl|rfl
 ·exact⟨_,by rw[a.store,af ⟨rfl,rfl,rfl,by show 4+1≤8;decide⟩];rfl,fin v e⟩
 ·exact⟨_,by rw[a.store,af ⟨rfl,rfl,rfl,by show 7+1≤8;decide⟩];rfl,fin V v⟩
theorem C4(h:cy D m ip f L H c is){r:Int}(d:∀v H',Pv L 0 v→b_ D m ip f L H c is [] 0 H' c→Q (I v) H') :
  ae C 97 [.ptr m 0,I r] H Q:=by
 refine S.RY Z ?_;unfold S.f97;obtain⟨xo,xs,xl,xb,V,e,lm,es,bs,a,_⟩:=h.row;have l0:W H 1 false (.ptr m 0)=some (.row ip 0 f 1):=by rw[a.load];rfl
 simp only[aU,aC,aa,abg,X,ck,l0,j7,ec,aE];have k2:∀b:Bool,(b=false→0≤r∧r<f)→S.vQ (ae C) (.ptr m 0) (I r) Q [.bool b] H:=by
  intro b g;simp only[S.vQ,ay,F,aE,aC,aa,abg,X];refine cz (λ_=>?_) (λe=>?_)
  · obtain⟨H',e1,s1⟩:=cy.own Z h (k:=7) (.inr rfl) 1;rw[e1];simp only[X];exact d 0 H' ⟨by omega,by omega⟩ s1
  · obtain⟨h1,l⟩:=g e;simp only[S.Hn,aC,aa,abg,X,l0];obtain⟨n,rfl⟩:∃n:Nat,r=n:=⟨r.toNat,by omega⟩
    rw[dH (by omega)];obtain⟨v,hv,ev⟩:=h.pl.ld1 (i:=n) (k:=0) (by omega) (by decide);rw[aa6]at ev;simp only[X,ev];exact d v H hv (b_.refl h)
 refine nP (λe=>k2 _ λj=>?_) (λ_=>k2 true λe=>by cases e);simp at e j;omega
theorem yi(h:cy D m ip f L H c is){r s:Int}(hs:Rp s)(a:∀v H',Rp v→b_ D m ip f L H c is [] 0 H' c→Q (I v) H') :
  ae C 49 [.ptr m 0,I r,I s] H Q:=by
 refine S.Q9 Z ?_;unfold S.f49;refine C4 Z h λv H' hv s1=>?_;simp only[ec,X,F];refine aB (λe=>?_) (λ_=>a s H' hs s1);have:0≤v:=by simpa using e
 exact a v H' ⟨this,by have:=hv.2;omega⟩ s1
theorem hY(hL:L≤4000)(h:cy D m ip f L H c is)(j:is.length+1≤900000){r s:Int}(hs:Rp s)(a:∀v new H' c',Rp v→b_ D m ip f L H c is new 1 H' c'→Q (I v) H') :
  ae C 52 [.ptr m 0,I r,I s] H Q:=by
 refine S.Re Z ?_;unfold S.f52;refine C4 Z h λv H1 hv s1=>?_;simp only[ec,X,F];apply aB<;>intro e
 · have:0≤v:=by simpa using e
   exact a v [] H1 c ⟨this,by have:=hv.2;omega⟩ (s1.mono (by decide))
 · have k:v<0:=by simp at e;omega
   have:=hv.1;simp only[cM];rw[bJ];simp only[X];rw[dJ [(0,1,I 17),(1,1,I s),(2,1,I 28),(5,1,I 3),(6,1,I (-1-v))] (IV [17,s,28,0,0,3,-1-v]) rfl];simp only[X];have h1:=s1.r.now;rw[aee]at h1;refine fy Z h1 (by omega) rfl λH2 c2 d=>?_;have i:b_ D m ip f L H1 c is [[17,s,28,0,0,3,-1-v]] 1 H2 c2:=b_.one d (yf (.inl rfl) hs.g ⟨by decide,by decide⟩ ⟨by decide,by decide⟩ ⟨by omega,by omega⟩) (nB (.inr (by decide)));exact a s _ H2 c2 hs (by have:=s1.trans (b:=[[17,s,28,0,0,3,-1-v]]) (by rw[aee];exact i);exact this.mono (by decide))
theorem yj(hL:L≤4000)(h:cy D m ip f L H c is)(l:is.length+1≤900000){r d:Int}(i:Rp d)(a:∀new H' c',b_ D m ip f L H c is new 1 H' c'→Q (.ar []) H') :
  ae C 50 [.ptr m 0,I r,I d] H Q:=by
 refine S.Q_ Z ?_;unfold S.f50;refine C4 Z h λv H1 hv s1=>?_;simp only[aU,X,F];refine aB (λe=>?_) (λe=>a [] H1 c (s1.mono (by decide)));have n:v<0:=by simpa using e
 have:=hv.1;simp only[cM];rw[bJ];simp only[X];rw[dJ [(0,1,I 18),(1,1,I d),(2,1,I 28),(5,1,I 3),(6,1,I (-1-v))] (IV [18,d,28,0,0,3,-1-v]) rfl];simp only[X];have h1:=s1.r.now;rw[aee]at h1;refine fy Z h1 (by omega) rfl λH2 c2 j=>?_;have k:b_ D m ip f L H1 c is [[18,d,28,0,0,3,-1-v]] 1 H2 c2:=b_.one j (yf (.inr rfl) i.g ⟨by decide,by decide⟩ ⟨by decide,by decide⟩ ⟨by omega,by omega⟩) (nB (.inr (by decide)));exact a _ H2 c2 (by have:=s1.trans (b:=[[18,d,28,0,0,3,-1-v]]) (by rw[aee];exact k);exact this.mono (by decide))
theorem Yd(h:cy D m ip f L H c is)(j:is.length+1≤900000)(a:Rp d)(b:Rp n)(e:∀new H' c',b_ D m ip f L H c is new 1 H' c'→Q (.ar []) H') :
  ae C 98 [.ptr m 0,I d,I n] H Q:=by
 refine S.RZ Z ?_;unfold S.f98;rw[dJ [(0,1,I 7),(1,1,I d),(2,1,I 31),(3,1,I n)] (IV [7,d,31,n,0,0,0]) rfl];simp only[X];exact fy Z h (by omega) rfl λH2 c2 i=>e _ H2 c2 (b_.one i (mQ ⟨by decide,by decide⟩ a.g ⟨by decide,by decide⟩ b.g) (nB (.inl (by decide))))
theorem ss(hL:L≤4000)(h:cy D m ip f L H c is)(k:is.length+2≤900000){r n:Int}(e:Rp n)(g:∀new H' c',b_ D m ip f L H c is new 2 H' c'→Q (.ar []) H') :
  ae C 51 [.ptr m 0,I r,I n] H Q:=by
 refine S.Rc Z ?_;unfold S.f51;refine yi Z h (s:=11) ⟨by decide,by decide⟩ λd H1 b s1=>?_;have h1:=s1.r.now;refine Yd Z h1 (by rw[aee];omega) b e λn2 H2 c2 s2=>?_;have a:=s1.trans s2;refine yj Z hL a.r.now (by rw[ad9];have:=a.l;omega) b λn3 i c3 j=>?_;have:=(a.trans j).mono (v:=2) (by decide);exact g _ i c3 this
end
end Rb
