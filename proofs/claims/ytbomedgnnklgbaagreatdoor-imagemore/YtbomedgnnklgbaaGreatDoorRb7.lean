/- A part of the proof (part 7): see the last text. -/
import Derived.Test.YtbomedgnnklgbaaGreatDoorRb6
import Derived.Test.YtbomedgnnklgbaaGreatDoorRb4
import Derived.SizedLaws
import Derived.Test.YtbomedgnnklgbaaGreatDoorRb5
import Derived.Test.YtbomedgnnklgbaaGreatDoorRb3
import Derived.Test.YtbomedgnnklgbaaGreatDoorRb2
import Derived.Test.YtbomedgnnklgbaaGreatDoorTie
import Derived.Test.YtbomedgnnklgbaaGreatDoorCards
set_option linter.unusedVariables false
set_option linter.unusedSimpArgs false
set_option linter.unusedSectionVars false
open BitVec renaming ofInt→VR
open Bool renaming and_self→ac0, not_true→ad2, true_and→adj
open Classical renaming axiomOfChoice→afg
open Decidable renaming not_not→adC
open Go.IntKind renaming u64→ae4, wrap→aa8
open Go.Lib renaming TabIs→afi, cells_of_tab→afj, tabData→afh
open Int renaming toNat_natCast→aa9
open List renaming all_eq_true→aaW, append_nil→adJ, drop_append→ae6, drop_eq_nil_of_le→ae8, drop_zero→adx, drop→ae7, flatMap_append→aeK, flatMap_cons→adn, flatMap_nil→afd, getD→afb, getElem?_append_right→abC, getElem?_cons_succ→adW, getElem?_cons_zero→adV, getElem?_eq_getElem→aaQ, getElem?_eq_none→acf, getElem?_eq_some_iff→ZX, getElem?_of_mem→adO, getElem_mem→aaX, length_append→adD, length_cons→ael, length_drop→adK, length_nil→aem, length_set→ack, length_singleton→aez, map_append→aeE, map_cons→abl, map_map→acU, map_nil→acd, mem_append→ace, mem_cons_of_mem→acn, mem_cons_self→aco, mem_cons→acm, mem_flatMap→afa, mem_map→acE, mem_of_getElem?→acN, mem_singleton→aeO, nil_append→aeH, not_mem_nil→aeX, range_succ→afc, range→aaO, replicate→ZU, set→aff, take_append_of_le_length→adF, take_of_length_le→adG
open Nat renaming add_comm→aeU, add_sub_cancel_left→ae9, le_refl→np, le_trans→sl, lt_succ_iff_lt_or_eq→afe, mul_one→aeB, sub_self→aeJ, succ_mul→abX, succ_pos→ae_, zero_add→aaK, zero_le→aav, zero_mul→ae5
open Option renaming some→aad
namespace Rb
open Go
variable{H1:AH}{c1:Nat→Nat}{w v:Nat}{i:List Int}{x d n:Int}
theorem dV(p:List (Nat×Nat×I))(cs:List I)(h:fZ (IV [0,0,0,0,0,0,0]) p=some cs):aB [O,O,O,O,O,O,O] p=some (.agg cs):=by unfold aB;show Option.map _ (fZ (IV [0,0,0,0,0,0,0]) p)=_;rw[h];rfl
theorem cz.p4{D:(Int×Int→Prop)×Nat×Nat×(Int→Prop)}{m:Nat}{pc:List I}{f L:Nat}{H:AH}{c:Nat→Nat}{is:List (List Int)}(h:cz D m pc f L H c is):∃x,Z H 1 false (.ptr m 1)=some x∧aU false x=some (J (is.length:Nat)):=by obtain⟨xo,xs,xl,xb,V,e,lm,es,bs,a,d,b,_⟩:=h.row;exact⟨xo,by rw[a.load];rfl,b.known.2.2.2⟩
structure cc(D:(Int×Int→Prop)×Nat×Nat×(Int→Prop))(m:Nat)(pc:List I)(f L:Nat)(H:AH)(c:Nat→Nat)(is new:List (List Int))(w:Nat)(H':AH)(c':Nat→Nat):Prop where
 r:iN D m pc f L H c is new H' c'
 l:new.length≤w
section
variable{D:(Int×Int→Prop)×Nat×Nat×(Int→Prop)}{m:Nat}{pc:List I}{f L:Nat}{H:AH}{c:Nat→Nat}{is:List (List Int)}
theorem cc.refl(h:cz D m pc f L H c is):cc D m pc f L H c is [] 0 H c:=⟨iN.refl h,np _⟩
theorem cc.trans{H1 H2:AH}{c1 c2:Nat→Nat}{a b:List (List Int)}(h:cc D m pc f L H c is a w H1 c1)(g:cc D m pc f L H1 c1 (is++a) b v H2 c2):cc D m pc f L H c is (a++b) (w+v) H2 c2:=⟨h.r.trans g.r,by rw[adD];have:=h.l;have:=g.l;omega⟩
theorem cc.mono{a:List (List Int)}(h:cc D m pc f L H c is a w H1 c1)(b:w≤v):cc D m pc f L H c is a v H1 c1:=⟨h.r,sl h.l b⟩
theorem cc.one(h:iN D m pc f L H c is [i] H1 c1):cc D m pc f L H c is [i] 1 H1 c1:=⟨h,np _⟩
end
def Rp(x:Int):Prop:=0≤x∧x≤14
theorem Rp.a(h:Rp x):Ra x:=⟨h.1,by have:=h.2;omega⟩
theorem Rp.g(h:Rp x):Rg x:=h.a.g
section
variable{C:Ctx}(hT:Cl (ai C) S.ba){D:(Int×Int→Prop)×Nat×Nat×(Int→Prop)}{m:Nat}{pc:List I}{f L:Nat}{H:AH}{c:Nat→Nat}{is:List (List Int)}{Q:ad}
include hT
theorem fA(h:cz D m pc f L H c is)(a:is.length≤900000)(hi:i.length=7)(b:∀H' c',iN D m pc f L H c is [i] H' c'→Q (.ar []) H') :
  ai C 42 [.ptr m 0,.agg (IV i)] H Q:=by
 refine S.QT hT ?_;unfold S.f42;have d:aL H false 7 (.agg (IV i))=some (.aj (IV i),H):=by unfold aL;rw[af ⟨rfl,by show(IV i).length=7;rw[ih,hi]⟩];rfl
 have e:Z H 7 true (.aj (IV i))=some (.agg (IV i)):=eh (by rw[ih,hi]);simp only[d,aH,e,X];exact lu hT h a hi b
theorem CP(h:cz D m pc f L H c is)(a:is.length≤900000)(t:Nat)(ht:t≤900000)(b:∀H' c',iN D m pc f L H c is [[16,13,0,0,0,0,(t:Int)-is.length]] H' c'→Q (.ar []) H') :
  ai C 150 [.ptr m 0,J (t:Nat)] H Q:=by
 refine S.Se hT ?_;unfold S.f150;obtain⟨x,h1,d⟩:=h.p4;simp only[aD,aa,aaK,X,h1,d,cU];rw[bJ,dV [(0,1,J 16),(1,1,J 13),(6,1,J ((t:Int)-(is.length:Nat)))] (IV [16,13,0,0,0,0,(t:Int)-is.length]) rfl];simp only[X];exact fA hT h a rfl b
theorem cz.own(h:cz D m pc f L H c is){k:Nat}(l:k=4∨k=7)(v:Int)(hE:k=7→D.2.2.2 v):∃H',Y H 1 (.ptr m k) (J v)=some H'∧cc D m pc f L H c is [] 0 H' c:=by
 obtain⟨xo,xs,xl,xb,V,e,lm,es,bs,a,g,n,hs,hl,o,mk,p,s,d⟩:=h.row;have fin:∀(V e:Int),D.2.2.2 e→cc D m pc f L H c is [] 0 (H.set m (.row [.ab .dead f pc,xo,xs,xl,J V,.map lm,xb,J e])) c:=by intro V e he;have kp:KX (·= m) H (H.set m (.row [.ab .dead f pc,xo,xs,xl,J V,.map lm,xb,J e])):=KX.set (S:=(·= m)) _ rfl _;have hm:∀{j k:Nat},c j=k→k≠1→j≠m:=λe q r=>q (by rw[←e,r,h.um]);refine⟨⟨?_,⟨kp.mono λi _ q=>by subst q;rw[h.um];decide,λi hi=> .inl hi⟩⟩,np _⟩;rw[adJ];exact⟨h.l7,h.um,h.bd,h.pl,xo,xs,xl,xb,V,e,lm,es,bs,a.set _,g,n.kx kp λj b=>hm b (by decide),hs.kx kp λj b=>hm b (by decide),hl.kx kp λj b=>hm b (by decide),kp.at o (hm g (by decide)),mk,p.kx kp λj b=>hm b (by decide),s,d.1,d.2.1,he⟩
 rcases l with rfl|rfl
 ·exact⟨_,by rw[a.store,af ⟨rfl,rfl,rfl,by show 4+1≤8;decide⟩];rfl,fin v e d.2.2⟩
 ·exact⟨_,by rw[a.store,af ⟨rfl,rfl,rfl,by show 7+1≤8;decide⟩];rfl,fin V v (hE rfl)⟩
theorem CQ(hE:∀v,D.2.2.2 v)(h:cz D m pc f L H c is){r:Int}(d:∀v H',Pv L 0 v→cc D m pc f L H c is [] 0 H' c→Q (J v) H') :
  ai C 141 [.ptr m 0,J r] H Q:=by
 refine S.R6 hT ?_;unfold S.f141;obtain⟨xo,xs,xl,xb,V,e,lm,es,bs,a,_⟩:=h.row;have l0:Z H 1 false (.ptr m 0)=some (.ab .dead f pc):=by rw[a.load];rfl
 simp only[aS,aD,aa,aaK,X,cy,l0,fQ,eQ,aC];have k2:∀b:Bool,(b=false→0≤r∧r<f)→S.vO (ai C) (.ptr m 0) (J r) Q [.bool b] H:=by
  intro b g;simp only[S.vO,ax,F,aC,aD,aa,aaK,X];refine ig (λ_=>?_) (λe=>?_)
  · obtain⟨H',e1,s1⟩:=cz.own hT h (k:=7) (.inr rfl) 1 (λ_=>hE 1);rw[e1];simp only[X];exact d 0 H' ⟨by omega,by omega⟩ s1
  · obtain ⟨h1,j⟩:=g e;simp only[S.HE,aD,aa,aaK,X,l0];obtain⟨n,rfl⟩:∃n:Nat,r=n:=⟨r.toNat,by omega⟩
    obtain⟨v,e1,hv⟩:=h.pl.2 n (by omega);rw [show aG none 1 (.ab .dead f pc) (J (n:Nat))=some (.aj (pc.drop (n*1)))from by unfold aG;dsimp only;rw[af ⟨by omega,by omega⟩,aa9]]
    have l:=h.pl.1;have ev:Z H 1 false (.aj (pc.drop (n*1)))=some (J v):=by show bw (pc.drop (n*1)) 0 1 false=_;unfold bw;rw[af (by rw[adK];omega),de,List.getElem?_drop,←e1];congr 1;omega
    simp only[X,ev];exact d v H (by rw[Nat.mod_one]at hv;exact hv) (cc.refl h)
 refine ru (λe=>k2 _ λi=>?_) (λ_=>k2 true λe=>by cases e);simp at e i;omega
theorem x3(hE:∀v,D.2.2.2 v)(h:cz D m pc f L H c is){r s:Int}(hs:Rp s)(a:∀v H',Rp v→cc D m pc f L H c is [] 0 H' c→Q (J v) H') :
  ai C 79 [.ptr m 0,J r,J s] H Q:=by
 refine S.Rl hT ?_;unfold S.f79;refine CQ hT hE h λv H' hv s1=>?_;simp only[eQ,X,F];refine ay (λe=>?_) (λ_=>a s H' hs s1);have:0≤v:=by simpa using e
 exact a v H' ⟨this,by have:=hv.2;omega⟩ s1
theorem h2(hL:L≤1000000)(hE:∀v,D.2.2.2 v)(h:cz D m pc f L H c is)(i:is.length+1≤900000){r s:Int}(hs:Rp s)(a:∀v new H' c',Rp v→cc D m pc f L H c is new 1 H' c'→Q (J v) H') :
  ai C 82 [.ptr m 0,J r,J s] H Q:=by
 refine S.Ro hT ?_;unfold S.f82;refine CQ hT hE h λv H1 hv s1=>?_;simp only[eQ,X,F];apply ay<;>intro e
 · have:0≤v:=by simpa using e
   exact a v [] H1 c ⟨this,by have:=hv.2;omega⟩ (s1.mono (by decide))
 · have j:v<0:=by simp at e;omega
   have:=hv.1;simp only[cU];rw[bJ];simp only[X];rw[dV [(0,1,J 17),(1,1,J s),(2,1,J 28),(5,1,J 3),(6,1,J (-1-v))] (IV [17,s,28,0,0,3,-1-v]) rfl];simp only[X];have h1:=s1.r.now;rw[adJ]at h1;refine fA hT h1 (by omega) rfl λH2 c2 d=>?_;have g:cc D m pc f L H1 c is [[17,s,28,0,0,3,-1-v]] 1 H2 c2:=cc.one d;exact a s _ H2 c2 hs (by have:=s1.trans (b:=[[17,s,28,0,0,3,-1-v]]) (by rw[adJ];exact g);exact this.mono (by decide))
theorem x4(hL:L≤1000000)(hE:∀v,D.2.2.2 v)(h:cz D m pc f L H c is)(j:is.length+1≤900000){r d:Int}(k:Rp d)(a:∀new H' c',cc D m pc f L H c is new 1 H' c'→Q (.ar []) H') :
  ai C 80 [.ptr m 0,J r,J d] H Q:=by
 refine S.Rm hT ?_;unfold S.f80;refine CQ hT hE h λv H1 hv s1=>?_;simp only[aS,X,F];refine ay (λe=>?_) (λe=>a [] H1 c (s1.mono (by decide)));have l:v<0:=by simpa using e
 have:=hv.1;simp only[cU];rw[bJ];simp only[X];rw[dV [(0,1,J 18),(1,1,J d),(2,1,J 28),(5,1,J 3),(6,1,J (-1-v))] (IV [18,d,28,0,0,3,-1-v]) rfl];simp only[X];have h1:=s1.r.now;rw[adJ]at h1;refine fA hT h1 (by omega) rfl λH2 c2 g=>?_;have i:cc D m pc f L H1 c is [[18,d,28,0,0,3,-1-v]] 1 H2 c2:=cc.one g;exact a _ H2 c2 (by have:=s1.trans (b:=[[18,d,28,0,0,3,-1-v]]) (by rw[adJ];exact i);exact this.mono (by decide))
theorem XK(h:cz D m pc f L H c is)(e:is.length+1≤900000)(g:Rp d)(i:Rp n)(a:∀new H' c',cc D m pc f L H c is new 1 H' c'→Q (.ar []) H') :
  ai C 142 [.ptr m 0,J d,J n] H Q:=by
 refine S.R7 hT ?_;unfold S.f142;rw[dV [(0,1,J 7),(1,1,J d),(2,1,J 31),(3,1,J n)] (IV [7,d,31,n,0,0,0]) rfl];simp only[X];exact fA hT h (by omega) rfl λH2 c2 b=>a _ H2 c2 (cc.one b)
theorem si(hL:L≤1000000)(hE:∀v,D.2.2.2 v)(h:cz D m pc f L H c is)(k:is.length+2≤900000){r n:Int}(e:Rp n)(g:∀new H' c',cc D m pc f L H c is new 2 H' c'→Q (.ar []) H') :
  ai C 81 [.ptr m 0,J r,J n] H Q:=by
 refine S.Rn hT ?_;unfold S.f81;refine x3 hT hE h (s:=11) ⟨by decide,by decide⟩ λd H1 b s1=>?_;have h1:=s1.r.now;refine XK hT h1 (by rw[adJ];omega) b e λn2 H2 c2 s2=>?_;have a:=s1.trans s2;refine x4 hT hL hE a.r.now (by rw[adD];have:=a.l;omega) b λn3 i c3 j=>?_;have:=(a.trans j).mono (v:=2) (by decide);exact g _ i c3 this
end
end Rb

namespace Rb
open Go
variable{d n op o:Int}
def iq(d:Int)(i:List Int):Prop:=∃op q x:Int,i=[op,d,0,0,q,0,x]∧(op=1∨op=2)∧(0≤q∧q≤3)∧(0≤x∧x≤65535)
theorem iq.ok{i:List Int}(a:Rg d)(h:iq d i):lr i∧¬x1 i∧i.length=7:=by obtain⟨op,q,x,rfl,b,c,e⟩:=h;exact⟨XI b a c e,nB (.inl (by omega)),rfl⟩
theorem XL(n:Int):∃x:Int,M .and (bP n) (bP 65535)=some (bP x)∧0≤x∧x≤65535:=by
 refine⟨_,A8 _ _ _,?_⟩;have h:(VR ae4.bits n &&& VR ae4.bits 65535).toNat≤65535:=by rw[BitVec.toNat_and];exact sl Nat.and_le_right (by decide)
 rw[Jn];exact⟨by omega,by omega⟩
section
variable{C:Ctx}(hT:Cl (ai C) S.ba)
include hT
theorem XM{d n:Int}{H:AH}{Q:ad}(o:∀tk (is:List (List Int)) H',is.length≤4→(∀i∈is,iq d i)→KX (λ_=>False) H H'→Q (.ab tk is.length (is.flatMap IV)) H') :
  ai C 78 [J d,bP n] H Q:=by
 refine S.Rk hT ?_;unfold S.f78;have hlen:∀is:List (List Int),(∀i∈is,iq d i)→(is.flatMap IV).length=is.length*7:=λis h=>sg λi hi=>by obtain⟨op,q,x,rfl,_⟩:=h i hi;rfl
 have app:∀(x:I)(is:List (List Int)) (H1:AH) (i:List Int) (K:ad),cd H.n H1 7 x is.length (is.flatMap IV)→(∀i∈is,iq d i)→KX (λ_=>False) H H1→is.length≤4→iq d i→(∀f H',cd H.n H' 7 f (is++[i]).length ((is++[i]).flatMap IV)→KX (λ_=>False) H H'→K f H') →
   au (b8 H1 false 7 1 [O,O,O,O,O,O,O] [(0,7,.agg (IV i))]) λy H2=>au (bH H2 false 7 56 x y) K:=by
  intro x is H1 i K g h k1 hl hi s;have k:i.length=7:=by obtain⟨op,q,x,rfl,_⟩:=hi;rfl
  rw[CM (x2 k) rfl];simp only[aH];refine g.app k1.1 (m:=1) (news:=IV i) (Bf (x2 k) _ _) (by rw[ih,k]) (wY i) (by decide) (by omega) (by omega) λf H' a b=>s f H' ?_ (LS b k1);rw[adD,aeK];simpa using a
 have main:∀(r q:Nat)(x:I)(is:List (List Int)) (H1:AH),q+r=4→cd H.n H1 7 x is.length (is.flatMap IV)→(∀i∈is,iq d i)→is.length≤q→KX (λ_=>False) H H1→av (S.pE (ai C) (J d) (bP n) Q) ([x,J (q:Nat)],H1):=by
  intro r;induction r with
  | zero=>
   intro q x is H1 t g h hl k1;refine av.step ?_;simp only[S.pE,ax,bR,aS,X,F,aC];rw[eF];simp only[S.GF,ax];have l:=g;obtain⟨tk,rfl,_⟩:=g;simp only[fQ,X,b5,F];refine ay (λ_=>?_) (λ_=>o tk is H1 (by omega) h k1);rw[dV [(0,1,J 1),(1,1,J d)] (IV [1,d,0,0,0,0,0]) rfl];simp only[X];have hm:iq d [1,d,0,0,0,0,0]:=⟨1,0,0,rfl,.inl rfl,⟨by decide,by decide⟩,⟨by decide,by decide⟩⟩
   rename_i e;have he:is.length=0:=by simpa using e
   refine app _ is H1 _ _ l h k1 (by omega) hm λf H' a b=>?_;obtain⟨u,rfl,_⟩:=a;exact o u _ H' (by rw[adD];simp;omega) (λi hi=>by
     rcases ace.1 hi with hi|hi
     ·exact h i hi
     ·rw[aeO]at hi;rw[hi];exact hm) b
  | succ r v=>
   intro q x is H1 t g h hl k1;refine av.step ?_;simp only[S.pE,ax,bR,aS,X,F,aC];rw[e5];simp only[gC];rw[show(16:Int)*(q:Int)=((16*q:Nat):Int) by omega,bJ];simp only[X];rw[Jl _ _ _ _ (by omega)];simp only[X];obtain⟨y,w,z,A⟩:=XL (n.fdiv (2^min ((16*q:Nat):Int).toNat ae4.bits));rw[w];simp only[X,ie,wrap_i64 (show -9223372036854775808≤y by omega) (show y≤9223372036854775807 by omega),b5,F];have p:∀(f:I)(j:List (List Int)) (H':AH),cd H.n H' 7 f j.length (j.flatMap IV)→(∀i∈j,iq d i)→j.length≤q+1→KX (λ_=>False) H H' →
     S.pD (ai C) ([x,J (q:Nat)],H1) (av (S.pE (ai C) (J d) (bP n) Q)) Q [f] H':=by
    intro f j H' a b c B;simp only[S.pD,ax,bR,bu,X,wN (show q≤4000000000000000000 by omega)];exact v (q+1) f j H' (by omega) a b c B
   refine ay (λ_=>p x is H1 g h (by omega) k1) (λ_=>?_);have l:=g;obtain⟨tk,rfl,_⟩:=g;simp only[fQ,X,b5,F];have go:∀op:Int,(op=1∨op=2)→Do (aB [O,O,O,O,O,O,O] [(0,1,J op),(1,1,J d),(4,1,J (q:Nat)),(6,1,J y)]) λD=>
     au (b8 H1 false 7 1 [O,O,O,O,O,O,O] [(0,7,D)]) λE G=>au (bH G false 7 56 (.ab tk is.length (is.flatMap IV)) E) λL M=>S.pD (ai C) ([.ab tk is.length (is.flatMap IV),J (q:Nat)],H1) (av (S.pE (ai C) (J d) (bP n) Q)) Q [L] M:=by
    intro op N;rw[dV [(0,1,J op),(1,1,J d),(4,1,J (q:Nat)),(6,1,J y)] (IV [op,d,0,0,(q:Nat),0,y]) rfl];simp only[X];have hm:iq d [op,d,0,0,(q:Nat),0,y]:=⟨op,_,y,rfl,N,⟨by omega,by omega⟩,⟨z,A⟩⟩
    refine app _ is H1 _ _ l h k1 (by omega) hm λf H' a b=>p f (is++[[op,d,0,0,(q:Nat),0,y]]) H' a (λi hi=>?_) (by rw[adD];simp;omega) b;rcases ace.1 hi with hi|hi
    ·exact h i hi
    ·rw[aeO]at hi;rw[hi];exact hm
   exact ay (λ_=>go 1 (.inl rfl)) (λ_=>go 2 (.inr rfl))
 exact main 4 0 _ [] H rfl (cd.nil _ _ _) (λi hi=>by cases hi) (np _) (KX.refl _)
variable{D:(Int×Int→Prop)×Nat×Nat×(Int→Prop)}{m:Nat}{pc:List I}{f L:Nat}{H:AH}{c:Nat→Nat}{is:List (List Int)}{Q:ad}
theorem cz.kx{H':AH}(h:cz D m pc f L H c is)(k:KX (λ_=>False) H H'):cz D m pc f L H' c is∧ES H c H' c:=by obtain⟨xo,xs,xl,xb,V,e,lm,es,bs,a,d,g,hs,hl,j,mk,l,n,o⟩:=h.row;have b:∀i:Nat,¬False:=λ_ q=>q;exact⟨⟨h.l7,h.um,λi hi=>Nat.lt_of_lt_of_le (h.bd i hi) k.1,h.pl,xo,xs,xl,xb,V,e,lm,es,bs,k.at a (b 0),d,g.kx k λi _=>b i,hs.kx k λi _=>b i,hl.kx k λi _=>b i,k.at j (b 0),mk,l.kx k λi _=>b i,n,o⟩,⟨k.mono λi _ q=>q.elim,λi hi=> .inl hi⟩⟩
theorem sj(h:cz D m pc f L H c is)(T:is.length+4≤900000){d n:Int}(w:Rg d)(x:∀new H' c',cc D m pc f L H c is new 4 H' c'→(∀i∈new,iq d i)→Q (.ar []) H') :
  ai C 40 [.ptr m 0,J d,bP n] H Q:=by
 refine S.QR hT ?_;unfold S.f40;refine XM hT λtk l H1 hl hi k1=>?_;obtain⟨h1,e1⟩:=cz.kx hT h k1;simp only[fQ,X];have o:∀i∈l,i.length=7:=λi q=>(iq.ok w (hi i q)).2.2;have main:∀(r k:Nat)(new:List (List Int)) (H2:AH) (c2:Nat→Nat),k+r=l.length→cc D m pc f L H c is new k H2 c2→(∀i∈new,iq d i)→av (S.uS (ai C) (.ptr m 0) (.ab tk l.length (l.flatMap IV)) (J (l.length:Nat)) Q) ([J (k:Nat)],H2):=by
  intro r;induction r with
  | zero=>intro k new H2 c2 hk s a;refine av.step ?_;simp only[S.uS,ax,aS,X,F];rw[eF];exact x new H2 c2 (s.mono (by omega)) a
  | succ r z=>
   intro k new H2 c2 hk s a;refine av.step ?_;simp only[S.uS,ax,aS,X,F];rw[e5];have p:k<l.length:=by omega
   have t:=aaX p;have A:aG none 7 (.ab tk l.length (l.flatMap IV)) (J (k:Nat))=some (.aj ((l.flatMap IV).drop (k*7))):=by unfold aG;dsimp only;rw[af ⟨by omega,by omega⟩,aa9]
   have B:∀(l:List (List Int)) (k:Nat) (i:List Int),(∀i∈l,i.length=7)→l[k]?=some i→((l.flatMap IV).drop (k*7)).take 7=IV i∧k*7+7≤(l.flatMap IV).length:=by
    intro l;induction l with
    |nil=>intro k i h e;simp at e
    | cons y r E=>
     intro k i h e;have G:=h y (aco ..);rw[adn];have U:(IV y).length=7:=by rw[ih,G]
     cases k with
     | zero=>simp at e;subst e;rw[ae5,adx,adF (by omega),adG (by omega),adD];exact⟨rfl,by omega⟩
     | succ k=>obtain⟨b,I⟩:=E k i (λj K=>h j (acn _ K)) (by simpa using e);rw[show(k+1)*7=(IV y).length+k*7 by omega,ae6,adD,show ae7 ((IV y).length+k*7) (IV y)=[]from ae8 (by omega),aeH,ae9];exact⟨b,by omega⟩
   obtain⟨b,I⟩:=B l k l[k] o (aaQ p);have M:Z H2 7 true (.aj ((l.flatMap IV).drop (k*7)))=some (.agg (IV l[k])):=by show bw ((l.flatMap IV).drop (k*7)) 0 7 true=_;unfold bw;rw[af (by rw[adK];omega),af rfl,adx,b]
   rw[A];simp only[X,M,aK,aR,aH];have g:=o l[k] t;rw[cC H2 _ (IV l[k]) 7 (by rw[ih,g]) (wY _) rfl];simp only[X,dS];rw[eh (by rw[ih,g])];simp only[X];obtain⟨N,O⟩:=cz.kx hT s.r.now (KX.push H2 (.row (IV l[k])));refine fA hT N (by rw[adD];have:=s.l;omega) g λu v r4=>?_;have P:iN D m pc f L H2 c2 (is++new) [l[k]] u v:=⟨r4.now,O.trans r4.es⟩
   have R:=s.trans (cc.one P);simp only[bu,X,wN (show k≤4000000000000000000 by omega)];exact z (k+1) _ u v (by omega) R λi q=>(ace.1 q).elim (a i) λq=>by rw[aeO]at q;rw[q];exact hi _ t
 have s0:cc D m pc f L H c is [] 0 H1 c:=⟨⟨by rw[adJ];exact h1,e1⟩,np _⟩
 exact main l.length 0 [] H1 c (by omega) s0 λi q=>by cases q
theorem XN{H:AH}{Q:ad}(a:∀v:Int,(v=0∨(3≤v∧v≤11))→Q (J v) H):ai C 143 [J op] H Q:=by
 refine S.R8 hT ?_;unfold S.f143;simp only[b5,X,F]
 repeat' first|exact a _ (by omega)|apply ay<;>intro _
theorem XO{H:AH}{Q:ad}(a:∀v:Int,(0≤v∧v≤3)→Q (J v) H):ai C 144 [J op] H Q:=by
 refine S.R9 hT ?_;unfold S.f144;simp only[b5,X,F]
 repeat' first|exact a _ (by omega)|apply ay<;>intro _
theorem ki{b:Bool}{x y:Int}{H:AH}{Q:ad}(a:∀v:Int,(v=x∨v=y)→Q (J v) H):ai C 146 [.bool b,J x,J y] H Q:=by refine S.Sa hT ?_;unfold S.f146;simp only[F];exact ay (λ_=>a _ (.inl rfl)) (λ_=>a _ (.inr rfl))
theorem x5{H:AH}{Q:ad}(a:∀b:Bool,Q (.bool b) H):ai C 147 [J o] H Q:=by refine S.Sb hT ?_;unfold S.f147;simp only[b5,X,cy];exact ay (λ_=>a _) (λ_=>a _)
theorem x6{H:AH}{Q:ad}(a:∀b:Bool,Q (.bool b) H):ai C 149 [J o] H Q:=by refine S.Sd hT ?_;unfold S.f149;simp only[b5,X,cy];exact ay (λ_=>a _) (λ_=>a _)
theorem x7(e:n=1∨n=2∨n=4∨n=8){H:AH}{Q:ad}(b:∀v:Int,(0≤v∧v≤3)→Q (J v) H):ai C 148 [J n] H Q:=by
 refine S.Sc hT ?_;unfold S.f148;have s:∀k:Int,0≤k→k≤3→M .shl (J 1) (J k)=some (J (2^k.toNat)):=λk a c=>by
  rw[rk _ _ _ _ a];have:k=0∨k=1∨k=2∨k=3:=by omega
  rcases this with rfl|rfl|rfl|rfl<;>rfl
 have st:∀k:Int,0≤k→k≤2→av (S.q_ (ai C) (J n) Q) ([J (k+1)],H)→av (S.q_ (ai C) (J n) Q) ([J k],H):=λk a c d=>by refine av.step ?_;simp only[S.q_,ax,s k a (by omega),X,aS,F,bu];rw[bJ];exact ay (λ_=>d) (λ_=>b _ ⟨a,by omega⟩)
 refine st 0 (by decide) (by decide) (st 1 (by decide) (by decide) (st 2 (by decide) (by decide) ?_));refine av.step ?_;simp only[S.q_,ax];rw[show M .shl (J 1) (J (2+1))=some (J 8)from rfl];simp only[X,aS,F];rw[eF];exact b _ ⟨by decide,by decide⟩
end
end Rb

namespace Rb
open Go
theorem lv(o:bn)(H:AH):aL H false 13 (.agg o.cells)=some (.aj o.cells,H):=rfl
theorem mQ(o:bn)(H:AH):Z H 13 true (.aj o.cells)=some (.agg o.cells):=rfl
theorem oc(o:bn)(H:AH):Z H 1 false (.aj (o.cells.drop 0))=some (J o.kind):=rfl
theorem mR(o:bn)(H:AH):Z H 1 false (.aj (o.cells.drop 1))=some (J o.dst):=rfl
theorem XP(o:bn)(H:AH):Z H 1 false (.aj (o.cells.drop 2))=some (J o.lp):=rfl
theorem mb(o:bn)(H:AH):Z H 1 false (.aj (o.cells.drop 3))=some (J o.a):=rfl
theorem sk(o:bn)(H:AH):Z H 1 false (.aj (o.cells.drop 4))=some (J o.b):=rfl
theorem Mn(o:bn)(H:AH):Z H 1 false (.aj (o.cells.drop 5))=some (J o.c):=rfl
theorem CS(o:bn)(H:AH):Z H 1 false (.aj (o.cells.drop 6))=some (bP o.n):=rfl
theorem XQ(o:bn)(H:AH):Z H 1 false (.aj (o.cells.drop 7))=some (J o.op):=rfl
theorem p5(o:bn)(H:AH):Z H 1 false (.aj (o.cells.drop 8))=some (J o.size):=rfl
theorem od(o:bn)(H:AH):Z H 1 false (.aj (o.cells.drop 9))=some (J o.aW):=rfl
theorem Mo(o:bn)(H:AH):Z H 1 false (.aj (o.cells.drop 10))=some (J o.cY):=rfl
theorem oe(o:bn)(H:AH):Z H 1 false (.aj (o.cells.drop 11))=some (J o.site):=rfl
theorem XR(o:bn)(H:AH):Z H 1 false (.aj (o.cells.drop 12))=some (J o.V):=rfl
theorem rp(n:Int)(h:0≤n∧n≤14:=by decide):Rp n:=h
section
variable{C:Ctx}(hT:Cl (ai C) S.ba){D:(Int×Int→Prop)×Nat×Nat×(Int→Prop)}{m:Nat}{pc:List I}{f L:Nat}(hL:L≤1000000)(hE:∀v,D.2.2.2 v){H:AH}{c:Nat→Nat}{is:List (List Int)}{Q:ad}{o:bn}
include hT hL hE
theorem Mp(h:cz D m pc f L H c is)(n:is.length+6≤900000)(d:∀v new H' c',Rp v→cc D m pc f L H c is new 6 H' c'→Q (J v) H') :
  ai C 145 [.ptr m 0,.agg o.cells] H Q:=by
 refine S.R_ hT ?_;unfold S.f145;simp only[lv,aH,eu,X,mb];refine h2 hT hL hE h (by omega) (rp 8) λa n1 H1 c1 e s1=>?_;simp only[CS,X,b5,F];refine ay (λ_=>d a n1 H1 c1 e (s1.mono (by decide))) (λ_=>?_);refine sj hT s1.r.now (by have:=s1.l;rw[adD];omega) (rp 14).g λn2 H2 c2 s2 _=>?_;have b:=s1.trans s2;rw[dV [(0,1,J 3),(1,1,J 8),(2,1,J a),(3,1,J 14)] (IV [3,8,a,14,0,0,0]) rfl];simp only[X];refine fA hT b.r.now (by have:=b.l;rw[adD];omega) rfl λi c3 j=>?_;have k:=b.trans (cc.one j);exact d 8 _ i c3 (rp 8) k
theorem XS(h:cz D m pc f L H c is)(y:is.length+5≤900000)(q:∀new H' c',cc D m pc f L H c is new 5 H' c'→Q (.ar []) H') :
  ai C 83 [.ptr m 0,.agg o.cells] H Q:=by
 refine S.Rq hT ?_;unfold S.f83;simp only[lv,aH,eu,X,mb,sk,mR];refine h2 hT hL hE h (by omega) (rp 8) λa n1 H1 c1 z s1=>?_;refine⟨trivial,trivial,?_⟩;refine h2 hT hL hE s1.r.now (by have:=s1.l;rw[adD];omega) (rp 9) λb n2 H2 c2 A s2=>?_;refine⟨trivial,?_⟩;have p:=s1.trans s2;refine x3 hT hE p.r.now (rp 11) λd B s t=>?_;have i:=p.trans t;simp only[XQ,X];refine XN hT λv hv=>?_;simp only[dc,X,F,aC];have fin:∀new j k,cc D m pc f L H c is new 4 j k→S.vc (ai C) (.ptr m 0) (.aj o.cells) (J d) Q [] j:=by intro new j k g;simp only[S.vc,eu,mR,X];exact x4 hT hL hE g.r.now (by have:=g.l;rw[adD];omega) s λE n c5 u=>q _ n c5 (g.trans u)
 apply ay<;>intro e
 · have G:3≤v∧v≤11:=by
     rcases hv with rfl|hv
     ·simp at e
     ·exact hv
   rw[dV [(0,1,J v),(1,1,J d),(2,1,J a),(3,1,J b)] (IV [v,d,a,b,0,0,0]) rfl];simp only[X];refine fA hT i.r.now (by have:=i.l;rw[adD];omega) rfl λj k r4=>?_;exact fin _ j k ((i.trans (cc.one r4)).mono (by decide))
 · rw[dV [(0,1,J 5),(1,1,J 31),(2,1,J a),(3,1,J b)] (IV [5,31,a,b,0,0,0]) rfl];simp only[X];refine fA hT i.r.now (by have:=i.l;rw[adD];omega) rfl λj k r4=>?_;have g:=i.trans (cc.one r4);refine XO hT λw hw=>?_;rw[dV [(0,1,J 12),(1,1,J d),(4,1,J w)] (IV [12,d,0,0,w,0,0]) rfl];simp only[X];refine fA hT g.r.now (by have:=g.l;rw[adD];omega) rfl λn c5 x=>?_;exact fin _ n c5 (g.trans (cc.one x))
theorem XT(h:cz D m pc f L H c is)(i:o.size=1∨o.size=2∨o.size=4∨o.size=8)(u:is.length+8≤900000)(j:∀new H' c',cc D m pc f L H c is new 8 H' c'→Q (.ar []) H') :
  ai C 84 [.ptr m 0,.agg o.cells] H Q:=by
 refine S.Rr hT ?_;unfold S.f84;simp only[lv,aH,eu,X,mQ,mR];refine Mp hT hL hE h (by omega) λa n1 H1 c1 w s1=>?_;refine⟨trivial,?_⟩;refine x3 hT hE s1.r.now (rp 11) λd H2 n s2=>?_;have e:=s1.trans s2;simp only[oe,od,p5,X];refine x5 hT λb=>?_;refine⟨trivial,trivial,?_⟩;refine ki hT λv hv=>?_;refine⟨trivial,trivial,?_⟩;refine x7 hT i λk hk=>?_;refine⟨trivial,?_⟩;rw[dV [(0,1,J v),(1,1,J d),(2,1,J a),(5,1,J k)] (IV [v,d,a,0,0,k,0]) rfl];simp only[X];refine lu hT e.r.now (by have:=e.l;rw[adD];omega) rfl λx c3 p=>?_;have g:=e.trans (cc.one p);exact x4 hT hL hE g.r.now (by have:=g.l;rw[adD];omega) n λn4 q s t=>j _ q s (g.trans t)
theorem XU(h:cz D m pc f L H c is)(g:o.size=1∨o.size=2∨o.size=4∨o.size=8)(p:is.length+8≤900000)(i:∀new H' c',cc D m pc f L H c is new 8 H' c'→Q (.ar []) H') :
  ai C 85 [.ptr m 0,.agg o.cells] H Q:=by
 refine S.Rs hT ?_;unfold S.f85;simp only[lv,aH,eu,X,mQ,sk];refine Mp hT hL hE h (by omega) λa n1 H1 c1 q s1=>?_;refine⟨trivial,?_⟩;refine h2 hT hL hE s1.r.now (by have:=s1.l;rw[adD];omega) (rp 9) λd n2 H2 c2 s s2=>?_;have e:=s1.trans s2;simp only[oe,od,p5,X];refine x6 hT λb=>?_;refine⟨trivial,trivial,?_⟩;refine ki hT λv hv=>?_;refine⟨trivial,trivial,?_⟩;refine x7 hT g λk hk=>?_;refine⟨trivial,?_⟩;rw[dV [(0,1,J v),(1,1,J d),(2,1,J a),(5,1,J k)] (IV [v,d,a,0,0,k,0]) rfl];simp only[X];refine lu hT e.r.now (by have:=e.l;rw[adD];omega) rfl λj c3 n=>?_;exact i _ j c3 (e.trans (cc.one n))
theorem XV(h:cz D m pc f L H c is)(s:o.size=1∨o.size=2∨o.size=4∨o.size=8)(O:is.length+8≤900000)(t:∀new H' c',cc D m pc f L H c is new 8 H' c'→Q (.ar []) H') :
  ai C 86 [.ptr m 0,.agg o.cells] H Q:=by
 refine S.Rt hT ?_;unfold S.f86;simp only[lv,aH,eu,X,mb,sk];refine h2 hT hL hE h (by omega) (rp 8) λa n1 H1 c1 P s1=>?_;refine⟨trivial,?_⟩;refine h2 hT hL hE s1.r.now (by have:=s1.l;rw[adD];omega) (rp 9) λb n2 H2 c2 u s2=>?_;have g:=s1.trans s2;simp only[od,X];refine x5 hT λb1=>?_;refine⟨trivial,?_⟩;refine ki hT λv hv=>?_;refine⟨trivial,?_⟩;refine x6 hT λb2=>?_;refine ki hT λw hw=>?_;obtain⟨xo,l1,l2⟩:=g.r.now.p4;have R:=g.l;have hlen:(is++(n1++n2)).length≤is.length+2:=by rw[adD];omega
 simp only[aD,aa,aaK,l1,l2,X,p5];refine x7 hT s λk hk=>?_;refine⟨l1,?_⟩;simp only[oe,X];rw[dV [(0,1,J v),(1,1,J 14),(2,1,J a),(5,1,J k)] (IV [v,14,a,0,0,k,0]) rfl];simp only[X];refine lu hT g.r.now (by omega) rfl λx c3 j=>?_;simp only[oc,X,b5,F,aC];have fin:∀(bU:List (List Int)) (d:Int) e i,iN D m pc f L H2 c2 (is++(n1++n2)) bU e i→Rp d→(bU.length=1∨bU.length=2)→S.vd (ai C) (.ptr m 0) (.aj o.cells) (J a) (J w) (J ((is++(n1++n2)).length:Nat)) (J k) Q [J d] e:=by
  intro bU d e i r4 T U;simp only[S.vd,eu,oe,X,ax];rw[dV [(0,1,J w),(3,1,J 13),(1,1,J d),(2,1,J a),(5,1,J k)] (IV [w,d,a,13,0,k,0]) rfl];simp only[X];refine lu hT r4.now (by rw[adD];omega) rfl λV c5 y=>?_;have p:=r4.trans y;refine CP hT p.now (by simp only[adD]at *;simp;omega) _ (by omega) λz A B=>?_;have q:=p.trans B;generalize E:(is++(n1++n2)).length=N at *;have G:(is++(n1++n2)++(bU++[[w,d,a,13,0,k,0]])).length=N+(bU.length+1):=by rw[adD,E,adD];rfl
  rw[G]at q;have n:cc D m pc f L H c is _ (2+4) z A:=g.trans ⟨q,by simp only[adD];simp;omega⟩;simp only[mR,X];exact si hT hL hE n.r.now (by have:=n.l;rw[adD];omega) (rp 14) λn7 I K M=>t _ I K (n.trans M)
 apply ay<;>intro _
 · rw[dV [(0,1,J 3),(1,1,J 12),(2,1,J 14),(3,1,J b)] (IV [3,12,14,b,0,0,0]) rfl];simp only[X];refine fA hT j.now (by rw[adD];simp only[aez];omega) rfl λe i r4=>?_;exact fin _ 12 e i (j.trans r4) (rp 12) (.inr rfl)
 ·exact fin _ b x c3 j u (.inl rfl)
end
end Rb

namespace Rb
open Go
section
variable{C:Ctx}(hT:Cl (ai C) S.ba){D:(Int×Int→Prop)×Nat×Nat×(Int→Prop)}{m:Nat}{pc:List I}{f L:Nat}(hL:L≤1000000)(hE:∀v,D.2.2.2 v){H:AH}{c:Nat→Nat}{is:List (List Int)}{Q:ad}{o:bn}
include hT hL hE
theorem XW(h:cz D m pc f L H c is)(K:o.size=1∨o.size=2∨o.size=4∨o.size=8)(af:is.length+17≤900000)(M:∀new H' c',cc D m pc f L H c is new 17 H' c'→Q (.ar []) H') :
  ai C 87 [.ptr m 0,.agg o.cells] H Q:=by
 refine S.Ru hT ?_;unfold S.f87;simp only[lv,aH,eu,X,mb,sk,Mn];refine h2 hT hL hE h (by omega) (rp 8) λa n1 H1 c1 ag s1=>?_;refine⟨trivial,trivial,?_⟩;refine h2 hT hL hE s1.r.now (by have:=s1.l;rw[adD];omega) (rp 9) λb n2 H2 c2 N s2=>?_;refine⟨trivial,?_⟩;have q:=s1.trans s2;refine h2 hT hL hE q.r.now (by have:=q.l;rw[adD];omega) (rp 10) λz n3 O c3 ah P=>?_;have j:=q.trans P;simp only[od,X];refine x5 hT λb1=>?_;refine⟨trivial,?_⟩;refine ki hT λv hv=>?_;refine⟨trivial,?_⟩;refine x6 hT λb2=>?_;refine ki hT λw hw=>?_;simp only[p5,X];refine x7 hT K λk hk=>?_;simp only[p5,X,aS,F,aC];have fin:∀(new:List (List Int)) (d:Int) n s,cc D m pc f L H c is new 8 n s→Rp d→S.ve (ai C) (.ptr m 0) (.aj o.cells) (J a) (J z) (J v) (J w) (J k) Q [J d] n:=by
  intro new d n s i ak;obtain⟨xo,l1,l2⟩:=i.r.now.p4;have al:=i.l;have am:(is++new).length≤is.length+8:=by rw[adD];have:=i.l;omega
  simp only[S.ve,aD,aa,aaK,l1,l2,X,ax,oe];rw[dV [(0,1,J v),(1,1,J 14),(2,1,J a),(5,1,J k)] (IV [v,14,a,0,0,k,0]) rfl];simp only[X];refine lu hT i.r.now (by omega) rfl λy c5 p=>?_;rw[dV [(0,1,J 5),(1,1,J 31),(2,1,J 14),(3,1,J d)] (IV [5,31,14,d,0,0,0]) rfl];simp only[X];refine fA hT p.now (by simp only[adD,aez];omega) rfl λan ao R=>?_;have A:=p.trans R;rw[dV [(0,1,J 14),(4,1,J 1),(6,1,J 4)] (IV [14,0,0,0,1,0,4]) rfl];simp only[X];refine fA hT A.now (by simp only[adD,aez];omega) rfl λap aq T=>?_;have B:=A.trans T;rw[dV [(0,1,J w),(3,1,J 13),(1,1,J z),(2,1,J a),(5,1,J k)] (IV [w,z,a,13,0,k,0]) rfl];simp only[X];refine lu hT B.now (by simp only[adD,aez];omega) rfl λau av U=>?_;have E:=B.trans U;refine CP hT E.now (by simp only[adD,aez];omega) _ (by omega) λaw az V=>?_;have G:=E.trans V;rw[dV [(0,1,J 13),(6,1,J 2)] (IV [13,0,0,0,0,0,2]) rfl];simp only[X];refine fA hT G.now (by simp only[adD,aez];omega) rfl λaA aB W=>?_;have I:=G.trans W;rw[dV [(0,1,J 30)] (IV [30,0,0,0,0,0,0]) rfl];simp only[X];refine fA hT I.now (by simp only[adD,aez];omega) rfl λaE aF Y=>?_;have t:=I.trans Y;have Z:(is++new++([[v,14,a,0,0,k,0]]++[[5,31,14,d,0,0,0]]++[[14,0,0,0,1,0,4]]++[[w,z,a,13,0,k,0]])).length=(is++new).length+4:=by rw[adD];rfl
  rw[Z]at t;have e:(([[v,14,a,0,0,k,0]]++[[5,31,14,d,0,0,0]]++[[14,0,0,0,1,0,4]]++[[w,z,a,13,0,k,0]])++[[16,13,0,0,0,0,((is++new).length:Int)-(((is++new).length+4:Nat):Int)]]++[[13,0,0,0,0,0,2]]++[[30,0,0,0,0,0,0]]:List (List Int))=[[v,14,a,0,0,k,0],[5,31,14,d,0,0,0],[14,0,0,0,1,0,4],[w,z,a,13,0,k,0],[16,13,0,0,0,0,-4],[13,0,0,0,0,0,2],[30,0,0,0,0,0,0]]:=by rw[show((is++new).length:Int)-(((is++new).length+4:Nat):Int) = -4 by omega];rfl
  rw[e]at t;have u:=i.trans (v:=7) ⟨t,by show 7≤7;decide⟩;simp only[mR,X];exact si hT hL hE u.r.now (by have:=u.l;rw[adD];omega) (rp 14) λn7 ab ac ad=>M _ ab ac (u.trans ad)
 refine ay (λ_=>?_) (λ_=>fin _ b O c3 (j.mono (by decide)) N);simp only[p5,X,gC];have ae:aa8 .i64 (8*o.size)=8*o.size:=bJ;rw[ae,rk _ _ _ _ (by omega)];simp only[X,cU];refine sj hT j.r.now (by have:=j.l;rw[adD];omega) (rp 12).g λn4 n s i _=>?_;have x:=j.trans i;rw[dV [(0,1,J 6),(1,1,J 12),(2,1,J b),(3,1,J 12)] (IV [6,12,b,12,0,0,0]) rfl];simp only[X];refine fA hT x.r.now (by have:=x.l;rw[adD];omega) rfl λy c5 p=>?_;exact fin _ 12 y c5 (x.trans (cc.one p)) (rp 12)
theorem XX(h:cz D m pc f L H c is)(T:is.length+10≤900000)(q:∀new H' c',cc D m pc f L H c is new 10 H' c'→Q (.ar []) H') :
  ai C 88 [.ptr m 0,.agg o.cells] H Q:=by
 refine S.Rv hT ?_;unfold S.f88;simp only[lv,aH,eu,X,mb];refine h2 hT hL hE h (by omega) (rp 8) λa n1 H1 c1 U s1=>?_;simp only[oc,od,X,b5,cD,aC];have k1:∀(v w d e:Int)(new:List (List Int)) j s,(v=26∨v=25)→(w=28∨w=27)→Rp d→Rp e→cc D m pc f L H c is new 3 j s→S.vf (ai C) (.ptr m 0) (.aj o.cells) (J a) [J v] [J w] Q [J d,J e] j:=by
  intro v w d e new j s hv hw t he g;obtain⟨xo,l1,l2⟩:=g.r.now.p4;have V:=g.l;have W:(is++new).length≤is.length+3:=by rw[adD];have:=g.l;omega
  simp only[S.vf,aD,aa,aaK,l1,l2,X,ax,bR,oe];rw[dV [(0,1,J v),(1,1,J 14),(4,1,J 12),(2,1,J a)] (IV [v,14,a,0,12,0,0]) rfl];simp only[X];refine lu hT g.r.now (by omega) rfl λY c5 u=>?_;rw[dV [(0,1,J w),(3,1,J 13),(1,1,J d),(4,1,J e),(2,1,J a)] (IV [w,d,a,13,e,0,0]) rfl];simp only[X];refine lu hT u.now (by simp only[adD,aez];omega) rfl λZ ab z=>?_;have x:=u.trans z;refine CP hT x.now (by simp only[adD,aez];omega) _ (by omega) λA B E=>?_;have k:=x.trans E;have G:(is++new++([[v,14,a,0,12,0,0]]++[[w,d,a,13,e,0,0]])).length=(is++new).length+2:=by rw[adD];rfl
  rw[G]at k;have I:(([[v,14,a,0,12,0,0]]++[[w,d,a,13,e,0,0]])++[[16,13,0,0,0,0,((is++new).length:Int)-(((is++new).length+2:Nat):Int)]]:List (List Int))=[[v,14,a,0,12,0,0],[w,d,a,13,e,0,0],[16,13,0,0,0,0,-2]]:=by rw[show((is++new).length:Int)-(((is++new).length+2:Nat):Int) = -2 by omega];rfl
  rw[I]at k;have i:=g.trans (v:=3) ⟨k,by show 3≤3;decide⟩;simp only[oc,X,b5,F];refine ay (λ_=>?_) (λ_=>q _ A B (i.mono (by decide)));simp only[mR,X];refine si hT hL hE i.r.now (by have:=i.l;rw[adD];omega) (rp 14) λn7 ac ad K=>?_;have n:=i.trans K;simp only[XP,X];exact si hT hL hE n.r.now (by have:=n.l;rw[adD];omega) (rp 12) λae M N O=>q _ M N (n.trans O)
 have k2:∀(v w:Int),(v=26∨v=25)→(w=28∨w=27)→S.q6 (ai C) (.ptr m 0) (.aj o.cells) (J a) [J v] Q [J w] H1:=by intro v w hv hw;simp only[S.q6,eu,oc,sk,Mn,X,b5,F,aC];refine ay (λ_=>?_) (λ_=>k1 v w 14 12 n1 H1 c1 hv hw (rp 14) (rp 12) (s1.mono (by decide)));refine h2 hT hL hE s1.r.now (by have:=s1.l;rw[adD];omega) (rp 9) λd n2 H2 c2 t s2=>?_;have p:=s1.trans s2;refine⟨trivial,?_⟩;refine h2 hT hL hE p.r.now (by have:=p.l;rw[adD];omega) (rp 10) λe n3 P c3 he R=>?_;exact k1 v w d e _ P c3 hv hw t he (p.trans R)
 have y:∀(v:Int),(v=26∨v=25)→S.vg (ai C) (.ptr m 0) (.aj o.cells) (J a) Q [J v] H1:=by intro v hv;simp only[S.vg,eu,oc,od,X,b5,cD,cy,aC];refine ay (λ_=>?_) (λ_=>ki hT λw hw=>k2 v w hv hw);refine ay (λ_=>?_) (λ_=>ki hT λw hw=>k2 v w hv hw);exact x6 hT λb=>ki hT λw hw=>k2 v w hv hw
 refine ay (λ_=>?_) (λ_=>ki hT λv hv=>y v hv);exact x5 hT λb=>ki hT λv hv=>y v hv
theorem XY(h:cz D m pc f L H c is)(p:is.length+8≤900000)(i:∀new H' c',cc D m pc f L H c is new 8 H' c'→Q (.ar []) H') :
  ai C 91 [.ptr m 0,.agg o.cells] H Q:=by
 refine S.Rz hT ?_;unfold S.f91;simp only[lv,aH,eu,X,mb];refine h2 hT hL hE h (by omega) (rp 8) λa n1 H1 c1 q s1=>?_;simp only[CS,X];refine sj hT s1.r.now (by have:=s1.l;rw[adD];omega) (rp 14).g λn2 H2 c2 s2 _=>?_;have b:=s1.trans s2;rw[dV [(0,1,J 5),(1,1,J 31),(2,1,J a),(3,1,J 14)] (IV [5,31,a,14,0,0,0]) rfl];simp only[X];have hl:=b.l;refine fA hT b.r.now (by rw[adD];omega) rfl λs c3 d=>?_;rw[dV [(0,1,J 14),(4,1,J 3),(6,1,J 2)] (IV [14,0,0,0,3,0,2]) rfl];simp only[X];refine fA hT d.now (by simp only[adD,aez]at *;omega) rfl λt u r4=>?_;have e:=d.trans r4;rw[dV [(0,1,J 32),(6,1,J 1)] (IV [32,0,0,0,0,0,1]) rfl];simp only[X];refine fA hT e.now (by simp only[adD,aez]at *;omega) rfl λj c5 k=>?_;have n:=e.trans k;exact i _ j c5 (b.trans (v:=3) ⟨n,by show 3≤3;decide⟩)
end
end Rb

namespace Rb
open Go
abbrev hr(E:Int→Prop)(B l:Nat):(Int×Int→Prop)×Nat×Nat×(Int→Prop):=(λ_=>False,B,l,E)
section
variable{D D':(Int×Int→Prop)×Nat×Nat×(Int→Prop)}{m:Nat}{pc:List I}{f L:Nat}{H:AH}{c:Nat→Nat}{is:List (List Int)}
theorem cc.tr{d H2:AH}{e c2:Nat→Nat}{a b:List (List Int)}{w v:Nat}(h:cc D m pc f L H c is a w d e)(g:cc D' m pc f L d e (is++a) b v H2 c2):cc D' m pc f L H c is (a++b) (w+v) H2 c2:=⟨⟨by rw[←List.append_assoc];exact g.r.now,h.r.es.trans g.r.es⟩,by rw[adD];have:=h.l;have:=g.l;omega⟩
theorem cz.fin(h:cz D m pc f L H c is)(d:∀b,D.1 b→ma is b):cz (hr D.2.2.2 D.2.1 D.2.2.1) m pc f L H c is:=by obtain⟨xo,xs,xl,xb,V,e,lm,es,bs,a,g,i,hs,hl,j,mk,k,l,n⟩:=h.row;exact⟨h.l7,h.um,h.bd,h.pl,xo,xs,xl,xb,V,e,lm,es,bs,a,g,i,hs,hl,j,mk,k,λb q=> .inl ((l b q).elim _root_.id (d b)),n⟩
theorem cz.more(h:cz D m pc f L H c is)(i:∀b,D.1 b→D'.1 b)(j:D.2.1≤D'.2.1)(g:D.2.2.1=D'.2.2.1)(k:∀e,D.2.2.2 e→D'.2.2.2 e):cz D' m pc f L H c is:=by obtain⟨xo,xs,xl,xb,V,e,lm,es,bs,a,l,n,hs,hl,o,mk,p,r,d⟩:=h.row;exact⟨h.l7,h.um,h.bd,h.pl,xo,xs,xl,xb,V,e,lm,es,bs,a,l,n,hs,hl,o,g▸mk,p,λb q=>(r b q).imp _root_.id (i b),sl d.1 j,g▸d.2.1,k _ d.2.2⟩
theorem cz.label(h:cz D m pc f L H c is)(t:Int):∃lm H',Z H 1 false (.ptr m 5)=some (.map lm)∧jj H .n (.map lm) (J t) (J (is.length:Nat))=some H'∧cc (D.1,D.2.1,is.length,D.2.2.2) m pc f L H c is [] 0 H' c:=by
 obtain⟨xo,xs,xl,xb,V,e,lm,es,bs,a,d,p,hs,hl,l,mk,s,u,g⟩:=h.row;have w:=g.2.1;obtain⟨o,e1,mk',_,_⟩:=Cz l (mk.imp λk v ⟨x,e,y⟩=>(⟨x,e,sl y w⟩:Mm is.length k v)) t (v:= J (is.length:Nat)) rfl ⟨_,rfl,np _⟩;refine⟨lm,_,by rw[a.load];rfl,e1,⟨⟨?_,⟨?_,λi hi=> .inl hi⟩⟩,np _⟩⟩
 · have kp:KX (·= lm) H (H.set lm (.map o)):=KX.set (S:=(·= lm)) _ rfl _;have hm:∀{j k:Nat},c j=k→k≠2→j≠lm:=λe q r=>q (by rw[←e,r,d]);rw[adJ];exact⟨h.l7,h.um,h.bd,h.pl,xo,xs,xl,xb,V,e,lm,o,bs,kp.at a (hm h.um (by decide)),d,p.kx kp λj b=>hm b (by decide),hs.kx kp λj b=>hm b (by decide),hl.kx kp λj b=>hm b (by decide),l.set _,mk',s.kx kp λj b=>hm b (by decide),u,g.1,np _,g.2.2⟩
 ·exact KX.set _ (by rw[d];decide) _
theorem cz.wait{E:Int→Prop}{B l:Nat}(h:cz (hr E B l) m pc f L H c is)(hB:B≤900000)(t:Int):∃xb g H1 H2 c',Z H 1 false (.ptr m 6)=some xb∧bH H false 2 16 xb (.ab .full 1 (ca ((is.length:Int),t)))=some (g,H1)∧Y H1 1 (.ptr m 6) g=some H2∧cz ((·= ((is.length:Int),t)),B+1,l,E) m pc f L H2 c' is∧ES H c H2 c':=by
 obtain⟨xo,xs,xl,xb,V,e,lm,es,bs,a,p,v,hs,hl,r,mk,w,x,o⟩:=h.row;obtain⟨g,H1,e1,s,k1⟩:=w.app ((is.length:Int),t) (by have:bs.length≤B:=o.1;omega);have W:=k1.at a (by rw[h.um];decide);have y:=s;obtain⟨tk,z,_⟩:=s;have k:g.known=true∧g.scalar=true∧g.cells=[g]:=by rw[z];exact⟨rfl,rfl,rfl⟩
 have A:=k1.1;have hm:=a.1;have kp:KX (·= m) H1 (H1.set m (.row [.ab .dead f pc,xo,xs,xl,J V,.map lm,g,J e])):=KX.set (S:=(·= m)) _ rfl _;have kk:KX (λj=>c j=6∨c j=1) H (H1.set m (.row [.ab .dead f pc,xo,xs,xl,J V,.map lm,g,J e])):=(k1.mono λj _ q=> .inl q).trans kp λj _ q=> .inr (q▸h.um);have C:(H1.set m (.row [.ab .dead f pc,xo,xs,xl,J V,.map lm,g,J e])).n=H1.n:=rfl;have u:=h.bd;refine⟨xb,g,H1,H1.set m (.row [.ab .dead f pc,xo,xs,xl,J V,.map lm,g,J e]),pt c H.n H1.n 6,by rw[a.load];rfl,e1,?_,⟨h.l7,?_,λj d=>?_,h.pl,xo,xs,xl,g,V,e,lm,es,bs++[((is.length:Int),t)],W.set _,?_,?_,?_,?_,kk.at r (by rw[p];decide),mk,?_,λb i=>?_,?_⟩,⟨kk.mono λj _ q=>by omega,λj d=>?_⟩⟩
 · rw[W.store,af ⟨k.1,by rw[k.2.2];rfl,by rw[k.2.2,List.all_cons,k.2.1];rfl,by show 6+1≤8;decide⟩,k.2.2];rfl
 ·rw[kh (by omega)];exact h.um
 · have:=u j;unfold pt at d;split at d;all_goals omega
 · have:=r.1;rw[kh (by omega)];exact p
 · refine(v.mono λj d q=>?_:gj H (λj=>pt c H.n H1.n 6 j=3∧c j=3) xo is).kx kk (λj d q=>by omega) |>.mono λj _ q=>q.1
   rw[kh (by omega)];exact⟨q,q⟩
 · refine(hs.mono λj d q=>?_:Ls 1 bO (λj=>pt c H.n H1.n 6 j=4∧c j=4) H xs is.length).kx kk (λj d q=>by omega) |>.mono λj _ q=>q.1
   rw[kh (by omega)];exact⟨q,q⟩
 · refine(hl.mono λj d q=>?_:Ls 1 bO (λj=>pt c H.n H1.n 6 j=5∧c j=5) H xl is.length).kx kk (λj d q=>by omega) |>.mono λj _ q=>q.1
   rw[kh (by omega)];exact⟨q,q⟩
 · refine (y.kx kp λj d q=>?_).mono λj d q=>?_
   · subst q;rcases d with d|d
     ·rw[h.um]at d;cases d
     ·omega
   · unfold pt;have:=u j;split
     ·rfl
     ·omega
 · rcases ace.1 i with i|i
   ·exact .inl ((x b i).elim _root_.id λq=>q.elim)
   ·rw[aeO]at i;exact .inr i
 · rw[adD];have:bs.length≤B:=o.1;refine⟨?_,o.2⟩;show bs.length+1≤B+1;omega
 · unfold pt at d;split at d;all_goals omega
end
section
variable{C:Ctx}(hT:Cl (ai C) S.ba){E:Int→Prop}{B l m:Nat}{pc:List I}{f L:Nat}(hL:L≤1000000)(hE:∀v,E v){H:AH}{c:Nat→Nat}{is:List (List Int)}{Q:ad}{o:bn}
include hT hL hE
theorem XZ(h:cz (hr E B l) m pc f L H c is)(hB:B≤900000)(ac:is.length+2≤900000)(z:∀new H' c',cc (hr E (B+1) l) m pc f L H c is new 2 H' c'→Q (.ar []) H') :
  ai C 90 [.ptr m 0,.agg o.cells] H Q:=by
 refine S.Ry hT ?_;unfold S.f90;simp only[lv,aH,eu,X,aK,aR];rw[dV [(0,1,J 13)] (IV [13,0,0,0,0,0,0]) rfl];simp only[X];rw[cC H _ (IV [13,0,0,0,0,0,0]) 7 rfl rfl rfl];have t:=At.new H (.row (IV [13,0,0,0,0,0,0]));have u:c H.n=0:=by
  rcases Nat.eq_zero_or_pos (c H.n)with q|q
  ·exact q
  ·have:=h.bd H.n (by omega);omega
 obtain⟨h1,e1⟩:=cz.kx hT h (KX.push H (.row (IV [13,0,0,0,0,0,0])));generalize H.push (.row (IV [13,0,0,0,0,0,0]))=H1 at *;simp only[X,oc,b5,F,aC];have k1:∀(new:List (List Int)) H2 c2 (op d:Int),((op=13∧d=0)∨(op=15∧Rg d))→cc (hr E B l) m pc f L H c is new 1 H2 c2→At H2 H.n (.row (IV [op,d,0,0,0,0,0]))→c2 H.n=0→S.vi (ai C) (.ptr m 0) (.aj o.cells) (.ptr H.n 0) Q [] H2:=by
  intro new H2 c2 op d A s2 a2 z2;obtain⟨xo,l1,l2⟩:=s2.r.now.p4;have ad:(is++new).length≤is.length+1:=by rw[adD];have:=s2.l;omega
  obtain⟨xb,ae,ag,ah,ak,D,G,K,m4,v⟩:=cz.wait s2.r.now hB o.cY;simp only[S.vi,aD,aa,aaK,D,l1,l2,X,eu,Mo];rw[show aB [O,O] [(0,1,J ((is++new).length:Nat)),(1,1,J o.cY)]=some (.agg (ca (((is++new).length:Int),o.cY)))from rfl];simp only[X];rw[show b8 H2 false 2 1 [O,O] [(0,2,.agg (ca (((is++new).length:Int),o.cY)))]=some (.ab .full 1 (ca (((is++new).length:Int),o.cY)),H2)from rfl];simp only[aH];rw[G];simp only[aH];rw[K];simp only[X];obtain⟨a4,z4⟩:=v.at a2 z2;rw[a4.load,eh (by rfl)];simp only[X];refine fA hT m4 (by omega) rfl λw c5 x=>?_;have m5:=cz.fin x.now (λb q=>by subst q;exact⟨(is++new).length,op,d,0,rfl,by rw[abC (np _),aeJ];rfl,A⟩)
  have M:cc (hr E (B+1) l) m pc f L H2 c2 (is++new) [[op,d,0,0,0,0,0]] 1 w c5:=⟨⟨m5,v.trans x.es⟩,np _⟩
  exact z _ w c5 (s2.tr M)
 have s1:cc (hr E B l) m pc f L H c is [] 0 H1 c:=⟨⟨by rw[adJ];exact h1,e1⟩,np _⟩
 refine ay (λ_=>?_) (λ_=>k1 [] H1 c 13 0 (.inl ⟨rfl,rfl⟩) (s1.mono (by decide)) t u);simp only[mb,X];refine h2 hT hL hE h1 (by omega) (rp 8) λa n2 H2 c2 N s2=>?_;rw[dV [(0,1,J 15),(1,1,J a)] (IV [15,a,0,0,0,0,0]) rfl];simp only[X];obtain⟨a2,z2⟩:=s2.r.es.at t u;rw[a2.store,af ⟨rfl,rfl,rfl,by show 0+7≤7;decide⟩];simp only[X];rw[show setCells (IV [13,0,0,0,0,0,0]) 0 (I.agg (IV [15,a,0,0,0,0,0])).cells=IV [15,a,0,0,0,0,0]from rfl];have kx:KX (·= H.n) H2 (H2.set H.n (.row (IV [15,a,0,0,0,0,0]))):=KX.set (S:=(·= H.n)) _ rfl _;have s:∀{j k:Nat},c2 j=k→k≠0→j≠H.n:=λe q r=>q (by rw[←e,r,z2]);have m3:cz (hr E B l) m pc f L (H2.set H.n (.row (IV [15,a,0,0,0,0,0]))) c2 (is++n2):=by have h:=s2.r.now;obtain⟨xo,xs,xl,xb,V,e,lm,es,bs,P,y,R,hs,hl,T,mk,U,W,Y⟩:=h.row;exact⟨h.l7,h.um,h.bd,h.pl,xo,xs,xl,xb,V,e,lm,es,bs,kx.at P (s h.um (by decide)),y,R.kx kx λj p=>s p (by decide),hs.kx kx λj p=>s p (by decide),hl.kx kx λj p=>s p (by decide),kx.at T (s y (by decide)),mk,U.kx kx λj p=>s p (by decide),W,Y⟩
 have Z:ES H c (H2.set H.n (.row (IV [15,a,0,0,0,0,0]))) c2:=by
  have:=(e1.trans s2.r.es)
  exact⟨this.kx.trans kx λi hi q=>by omega,this.gr⟩
 have hl:=s2.l;exact k1 n2 _ c2 15 a (.inr ⟨rfl,N.g⟩) ⟨⟨m3,Z⟩,hl⟩ (a2.set _) z2
end
end Rb

namespace Rb
open Go
theorem cc.more{E:Int→Prop}{B d l:Nat}(hB:B≤d){m:Nat}{pc:List I}{f L:Nat}{H e:AH}{c c1:Nat→Nat}{is a:List (List Int)}{w v:Nat}(h:cc (hr E B l) m pc f L H c is a w e c1)(g:w≤v):cc (hr E d l) m pc f L H c is a v e c1:=⟨⟨h.r.now.more (λb q=>q) hB rfl (λ_ q=>q),h.r.es⟩,sl h.l g⟩
section
variable{C:Ctx}(hT:Cl (ai C) S.ba){E:Int→Prop}{B l m:Nat}{pc:List I}{f L:Nat}(hL:L≤1000000)(hE:∀v,E v){H:AH}{c:Nat→Nat}{is:List (List Int)}{Q:ad}{o:bn}
include hT hL hE
theorem X0(h:cz (hr E B l) m pc f L H c is)(j:4≤o.kind→o.kind≤10→o.size=1∨o.size=2∨o.size=4∨o.size=8)(hB:B≤900000)(U:is.length+17≤900000)(y:∀l' new H' c',cc (hr E (B+1) l') m pc f L H c is new 17 H' c'→Q (.ar []) H') :
  ai C 41 [.ptr m 0,.agg o.cells] H Q:=by
 refine S.QS hT ?_;unfold S.f41;simp only[lv,aH,eu,X,XR,aD,aa,aaK];obtain⟨H1,e1,s1⟩:=cz.own hT h (k:=4) (.inl rfl) o.V (λq=>by cases q);rw[e1];have h1:=s1.r.now;rw[adJ]at h1;have out:∀{w:Nat}{l':Nat} new H' c',cc (hr E B l') m pc f L H1 c is new w H' c'→w≤17→Q (.ar []) H':=λnew H' c' s hw=>y _ new H' c' (by have:=s1.tr (b:=new) (by rw[adJ];exact s);rw[aeH,aaK]at this;exact this.more (Nat.le_succ _) hw)
 have K:∀{w:Nat}{l':Nat} new H' c',cc (hr E (B+1) l') m pc f L H1 c is new w H' c'→w≤17→Q (.ar []) H':=λnew H' c' s hw=>y _ new H' c' (by have:=s1.tr (b:=new) (by rw[adJ];exact s);rw[aeH,aaK]at this;exact this.more (np _) hw)
 simp only[X,oc,b5,F,aC];have hk:∀{k:Int},(o.kind==k)=true→o.kind=k:=λq=>by simpa using q
 refine ay (λq=>?_) (λM=>?_)
 · simp only[mR,X];refine x3 hT hE h1 (rp 11) λd H2 z s2=>?_;simp only[CS,X];refine sj hT s2.r.now (by rw[adJ];omega) z.g λn3 e c3 p _=>?_;have t:=s2.trans p;exact x4 hT hL hE t.r.now (by have:=t.l;rw[adD];omega) z λn4 N O P=>out _ N O (t.trans P) (by decide)
 refine ay (λq=>?_) (λR=>?_)
 · simp only[mR,mb,X];refine h2 hT hL hE h1 (by omega) (rp 8) λa n2 H2 c2 n s2=>?_;refine⟨trivial,?_⟩;exact si hT hL hE s2.r.now (by have:=s2.l;rw[adD];omega) n λn3 e c3 p=>out _ e c3 (s2.trans p) (by decide)
 refine ay (λq=>?_) (λT=>?_)
 · simp only[mQ,X];exact XS hT hL hE h1 (by omega) λn2 H2 c2 s2=>out _ H2 c2 s2 (by decide)
 have n1:o.kind≠1:=by simpa using M
 have n2:o.kind≠2:=by simpa using R
 have n3:o.kind≠3:=by simpa using T
 have k2:∀b:Bool,S.uU (ai C) (.ptr m 0) (.aj o.cells) (J o.kind) Q [.bool b] H1:=by
  intro b;simp only[S.uU,ax,F,mQ,X,b5];apply ay<;>intro _
  ·exact XZ hT hL hE h1 hB (by omega) λn2 H2 c2 s2=>K _ H2 c2 s2 (by decide)
  apply ay<;>intro _
  ·exact XY hT hL hE h1 (by omega) λn2 H2 c2 s2=>out _ H2 c2 s2 (by decide)
  apply ay<;>intro _
  · simp only[eu,mb,X];refine h2 hT hL hE h1 (by omega) (rp 8) λa n2 H2 c2 n s2=>?_;have:=n.1;have:=n.2;simp only[bu];rw[bJ];simp only[X];rw[dV [(0,1,J 31),(6,1,J (1+a))] (IV [31,0,0,0,0,0,1+a]) rfl];simp only[X];exact fA hT s2.r.now (by have:=s2.l;rw[adD];omega) rfl λe c3 u=>out _ e c3 (s2.trans (cc.one u)) (by decide)
  · simp only[aD,aa,aaK,X];obtain⟨H2,x,s2⟩:=cz.own hT h1 (k:=7) (.inr rfl) 1 (λ_=>hE 1);rw[x];simp only[X];exact out _ H2 c s2 (by decide)
 have A:∀b:Bool,S.uV (ai C) (.ptr m 0) (.aj o.cells) (J o.kind) Q [.bool b] H1:=by
  intro b;simp only[S.uV,ax,F,mQ,X,b5,aC];apply ay<;>intro _
  ·exact XX hT hL hE h1 (by omega) λn2 H2 c2 s2=>out _ H2 c2 s2 (by decide)
  apply ay<;>intro _
  · simp only[eu,od,X,b5,F];have k1:∀v:Int,(v=0∨v=1)→S.uT (ai C) (.ptr m 0) (.aj o.cells) Q [J v] H1:=by
     intro v hv;simp only[S.uT,eu,oe,X,ax];rw[dV [(0,1,J 29),(6,1,J v)] (IV [29,0,0,0,0,0,v]) rfl];simp only[X];exact lu hT h1 (by omega) rfl λe c3 u=>out _ e c3 (cc.one u) (by decide)
    exact ay (λ_=>k1 1 (.inr rfl)) (λ_=>k1 0 (.inl rfl))
  apply ay<;>intro _
  · obtain⟨lm,H2,l1,x,s2⟩:=cz.label h1 o.cY;obtain⟨xo,l2,l3⟩:=h1.p4;simp only[aD,aa,aaK,X,l1,eu,Mo,l2,l3,x];exact out _ H2 c s2 (by decide)
  exact ay (λ_=>k2 _) (λ_=>k2 _)
 have D:∀b:Bool,(b=true→4≤o.kind∧o.kind≤10)→S.uW (ai C) (.ptr m 0) (.aj o.cells) (J o.kind) Q [.bool b] H1:=by
  intro b i;simp only[S.uW,ax,F,mQ,X,b5,aC];refine ay (λq=>?_) (λ_=>?_)
  · have:=i q;exact XV hT hL hE h1 (j this.1 this.2) (by omega) λn2 H2 c2 s2=>out _ H2 c2 s2 (by decide)
  refine ay (λq=>?_) (λ_=>?_)
  · have:=hk q;exact XW hT hL hE h1 (j (by omega) (by omega)) (by omega) λn2 H2 c2 s2=>out _ H2 c2 s2 (by decide)
  exact ay (λ_=>A _) (λ_=>A _)
 have G:∀b:Bool,(b=true→4≤o.kind∧o.kind≤10)→S.uX (ai C) (.ptr m 0) (.aj o.cells) (J o.kind) Q [.bool b] H1:=by
  intro b i;simp only[S.uX,ax,F,mQ,X,b5,aC];refine ay (λq=>?_) (λ_=>?_)
  · have:=i q;exact XU hT hL hE h1 (j this.1 this.2) (by omega) λn2 H2 c2 s2=>out _ H2 c2 s2 (by decide)
  exact ay (λq=>D _ λ_=>by have:=hk q;omega) (λq=>D _ λq=>by have:=hk q;omega)
 have I:∀b:Bool,(b=true→4≤o.kind∧o.kind≤10)→S.uY (ai C) (.ptr m 0) (.aj o.cells) (J o.kind) Q [.bool b] H1:=by
  intro b i;simp only[S.uY,ax,F,mQ,X,b5,aC];refine ay (λq=>?_) (λ_=>?_)
  · have:=i q;exact XT hT hL hE h1 (j this.1 this.2) (by omega) λn2 H2 c2 s2=>out _ H2 c2 s2 (by decide)
  exact ay (λq=>G _ λ_=>by have:=hk q;omega) (λq=>G _ λq=>by have:=hk q;omega)
 exact ay (λq=>I _ λ_=>by have:=hk q;omega) (λq=>I _ λq=>by have:=hk q;omega)
end
end Rb

namespace Rb
open Go
variable{H:AH}{U:Nat→Prop}{k:Nat}{op d x:Int}
theorem Mq:∀{a:List (List Int)}{k:Nat}{op d x:Int}(v:Int),(∀i∈a,i.length=7)→a[k]?=some [op,d,0,0,0,0,x]→(a.flatMap IV).set (k*7+6) (J v)=(a.set k [op,d,0,0,0,0,v]).flatMap IV
 |[],k,op,d,x,v,_,h=>by simp at h
 | y::r,0,op,d,x,v,b,h=>by simp at h;subst h;rfl
 | y::r,k+1,op,d,x,v,b,h=>by have c:=Mq v (λi hi=>b i (acn _ hi)) (show r[k]?=some [op,d,0,0,0,0,x] by simpa using h);have e:=b y (aco ..);rw[adn,show(k+1)*7+6=(IV y).length+(k*7+6) by rw[ih,e];omega,List.set_append_right _ _ (Nat.le_add_right _ _),ae9,c];rfl
theorem gj.patch{xo:I}{b:List (List Int)}(h:gj H U xo b)(c:∀i∈b,i.length=7)(e:b[k]?=some [op,d,0,0,0,0,x])(v:Int) :
  ∃f g H',aG none 7 xo (J (k:Nat))=some (.ptr f g)∧Y H 1 (.ptr f (g+6)) (J v)=some H'∧gj H' U xo (b.set k [op,d,0,0,0,0,v])∧KX U H H':=by
 have j:=(ZX.1 e).1;rcases h with⟨_,rfl⟩|⟨id,rfl,a,l⟩
 ·simp at j
 · have hl:=sg c;refine⟨id,k*7,H.set id (.row ((b.set k [op,d,0,0,0,0,v]).flatMap IV)),dY j,?_,.inr ⟨id,by rw[ack],a.set _,l⟩,KX.set _ l _⟩;rw[a.store,af ⟨rfl,rfl,rfl,by omega⟩,←Mq v c e];rfl
theorem ma.set{a:List (List Int)}{b:Int×Int}(h:ma a b){op d x v:Int}(c:a[k]?=some [op,d,0,0,0,0,x]):ma (a.set k [op,d,0,0,0,0,v]) b:=by
 obtain⟨j,g,i,l,e,h1,f⟩:=h;by_cases q:j=k
 · subst q;rw[c]at h1;cases h1;exact⟨j,op,d,v,e,List.getElem?_set_self (ZX.1 c).1,f⟩
 ·exact⟨j,g,i,l,e,by rw[List.getElem?_set_ne (Ne.symm q)];exact h1,f⟩
theorem so{m:Nat}{cs l:List I}{b:Nat}(a:At H m (.row cs))(h:ew H.o cs=some (l,b))(c:b≠m):fb H (.ptr m 0)=some (.ptr m 0,(H.set b .gone).set m (.row l)):=by simp only[fb,a.2,h];rw[ak c]
theorem Ls.cut{x:I}{n:Nat}(h:Ls 1 bO U H x n)(g:0<n):∃id cs,x = .row id 0 n 1∧U id∧(∃ds,At H id (.row ds)∧0+n*1≤ds.length∧cs=(ds.drop 0).take (n*1))∧gf 1 bO n cs:=by
 rcases h with⟨_,q⟩|⟨id,N,rfl,hle,⟨ds,a,b,c⟩,d⟩
 ·omega
 · refine⟨id,_,rfl,d,⟨ds,c,by omega,rfl⟩,by rw[List.length_take,adx];omega,λj e=>?_⟩;obtain⟨v,h1,f⟩:=b j (by omega);exact⟨v,by rw[List.getElem?_take_of_lt e,adx];exact h1,f⟩
section
variable{C:Ctx}(hT:Cl (ai C) S.ba)
include hT
theorem X1{A:List bn}(bL:A.length≤16384)(aW:∀o∈A,4≤o.kind→o.kind≤10→o.size=1∨o.size=2∨o.size=4∨o.size=8){tk:Tok}{pc:List I}{f L:Nat}(hL:L≤1000000){H:AH}(aX:gf 1 (Pv L) f pc){n:Int}{Q:ad}
  (a0:∀(e:Int) H',e≠0→A≠[]→Q (.ar [aw,aw,aw,J e]) H')
  (a1:∀(is:List (List Int)) U ls H',(∀i∈is,i.length=7)→gf 1 bO is.length U→gf 1 bO is.length ls→is.length≤900000→(A=[]→∀i∈is,lr i)→Q (.ar [.ab .dead is.length (is.flatMap IV),.ab .dead is.length U,.ab .dead is.length ls,O]) H') :
  ai C 18 [.ab tk A.length (A.flatMap bn.cells),.ab .dead f pc,bP n] H Q:=by
 refine S.Qy hT ?_;unfold S.f18;rw[show aB [aw,aw,aw,aw,O,.eO,aw,O] [(0,1,.ab .dead f pc),(5,1,.map H.n)]=some (.agg [.ab .dead f pc,aw,aw,aw,O,.map H.n,aw,O])from rfl];simp only[X];rw[show aL (H.push (.map [])) true 8 (.agg [.ab .dead f pc,aw,aw,aw,O,.map H.n,aw,O])=some (.ptr (H.n+1) 0,(H.push (.map [])).push (.row [.ab .dead f pc,aw,aw,aw,O,.map H.n,aw,O]))from rfl];simp only[aH];have am:At ((H.push (.map [])).push (.row [.ab .dead f pc,aw,aw,aw,O,.map H.n,aw,O])) (H.n+1) (.row [.ab .dead f pc,aw,aw,aw,O,.map H.n,aw,O]):=At.new _ _;have al:At ((H.push (.map [])).push (.row [.ab .dead f pc,aw,aw,aw,O,.map H.n,aw,O])) H.n (.map []):=(At.new H _).push _;have a2:cz (hr (λe=>A=[]→e=0) 0 0) (H.n+1) pc f L ((H.push (.map [])).push (.row [.ab .dead f pc,aw,aw,aw,O,.map H.n,aw,O])) (λi=>if i=H.n+1 then 1 else if i=H.n then 2 else 0) []:=by
  refine⟨λi hi=>(by cases hi),af rfl,λi hi=>?_,aX,_,_,_,_,0,0,H.n,[],[],am,?_,.inl ⟨rfl,rfl⟩,.inl ⟨rfl,rfl⟩,.inl ⟨rfl,rfl⟩,al,λe he=>(by cases he),⟨.nil,rfl,.inl ⟨rfl,rfl⟩⟩,λb W=>(by cases W),np _,np _,λ_=>rfl⟩
  · have:=am.1;have:=al.1
    repeat' split at hi
    all_goals omega
  ·rw[bM,af rfl]
 generalize (H.push (.map [])).push (.row [.ab .dead f pc,aw,aw,aw,O,.map H.n,aw,O])=H0 at *;generalize (λi=>if i=H.n+1 then 1 else if i=H.n then 2 else 0)=a6 at *;generalize H.n+1=m at *;refine sj hT a2 (by decide) ⟨by decide,by decide⟩ λn1 H1 c1 s1 P=>?_;simp only[fQ,X];have main:∀(d i:Nat)(l:Nat)(new:List (List Int)) (H1:AH) (c1:Nat→Nat),i+d=A.length→cc (hr (λe=>A=[]→e=0) i l) m pc f L H0 a6 [] new (4+17*i) H1 c1→(A=[]→∀x∈new,iq 28 x)→av (S.uE (ai C) (.ab tk A.length (A.flatMap bn.cells)) (.ptr m 0) (J (A.length:Nat)) Q) ([J (i:Nat)],H1):=by
  intro d;induction d with
  | zero=>
   intro i l new H1 c1 hi s1 P;refine av.step ?_;simp only[S.uE,ax,aS,X,F,aC];rw[eF];have a7:=s1.l;simp only[S.FD];rw[dV [(0,1,J 31)] (IV [31,0,0,0,0,0,0]) rfl];simp only[X];have a8:l≤new.length:=by obtain⟨_,_,_,_,_,_,_,_,_,_,_,_,_,_,_,_,_,_,a9⟩:=s1.r.now.row;have:l≤([]++new:List (List Int)).length:=a9.2.1;simpa using this
   refine fA hT s1.r.now (by simp;omega) rfl λH2 c2 a_=>?_;have G:=a_.now;rw[aeH]at G;obtain⟨xo,xs,xl,xb,V,e,lm,es,bs,a,Y,y,hs,aE,ba,mk,bb,bc,aF⟩:=G.row;have w:=G.um;have bN:=G.bd;have be:Z H2 1 false (.ptr m 6)=some xb:=by rw[a.load];rfl
   obtain⟨tb,rfl,_⟩:=bb;simp only[aD,aa,aaK,X,be,fQ];have aG:(new++[[31,0,0,0,0,0,0]]:List (List Int)).length=new.length+1:=by simp
   have f0:A=[]→∀x∈(new++[[31,0,0,0,0,0,0]]:List (List Int)),lr x:=by
    intro bf x D;rcases ace.1 D with D|D
    ·exact(iq.ok ⟨by decide,by decide⟩ (P bf x D)).1
    · rw[aeO]at D;rw[D];exact XJ (.inl rfl) ⟨by decide,by decide⟩
   have ac:bs.length≤A.length:=by have:bs.length≤i:=aF.1;omega
   have inner:∀(R j:Nat)(c:List (List Int)) (e:Int) (g:AH),j+R=bs.length→(∀i∈c,i.length=7)→At g m (.row [.ab .dead f pc,xo,xs,xl,J V,.map lm,.ab tb bs.length (bs.flatMap ca),J e])→gj g (c2 ·= 3) xo c→At g lm (.map es)→c.length=new.length+1→(∀b∈bs,ma c b)→(A=[]→∀x∈c,lr x)→(A=[]→e=0)→Ls 1 bO (c2 ·= 4) g xs (new.length+1)→Ls 1 bO (c2 ·= 5) g xl (new.length+1) →
     av (S.qU (ai C) (.ptr m 0) (.ab tb bs.length (bs.flatMap ca)) (J (bs.length:Nat)) Q) ([J (j:Nat)],g):=by
    intro R;induction R with
    | zero=>
     intro j c e g ae K a3 ag aI B ah f3 aJ aj l3;refine av.step ?_;simp only[S.qU,ax,aS,X,F,aC];rw[eF];have bg:Z g 1 false (.ptr m 7)=some (J e):=by rw[a3.load];rfl
     simp only[S.FC,aD,aa,aaK,X,bg,dc,F];apply ay<;>intro q
     · have aM:e≠0:=by simpa using q
       exact a0 e g aM λq=>aM (aJ q)
     obtain ⟨ido,rfl,ao,E⟩:∃ido,xo = .row ido 0 c.length 7∧At g ido (.row (c.flatMap IV))∧c2 ido=3:=by
      rcases ag with⟨_,q⟩|q
      ·rw[q]at B;simp at B
      ·exact q
     obtain⟨ids,U,rfl,us,⟨ds,bh,bi,rfl⟩,bj⟩:=aj.cut (ae_ _);obtain⟨s,bQ,rfl,ul,⟨dl,bk,bl,rfl⟩,bm⟩:=l3.cut (ae_ _);have bR:=sg K;have e1:ew g.o [.ab .dead f pc,.row ido 0 c.length 7,.row ids 0 (new.length+1) 1,.row s 0 (new.length+1) 1,J V,.map lm,.ab tb bs.length (bs.flatMap ca),J e]=some ([.ab .dead f pc,.ab .dead c.length (((c.flatMap IV).drop 0).take (c.length*7)),.row ids 0 (new.length+1) 1,.row s 0 (new.length+1) 1,J V,.map lm,.ab tb bs.length (bs.flatMap ca),J e],ido):=by simp only[ew,ao.2];rw[cj];rfl
     rw[so a3 e1 (λq=>by rw[q,w]at E;cases E)];simp only[aH];have n1:ids≠ido:=λq=>by rw[q,E]at us;cases us
     have n2:ids≠m:=λq=>by rw[q,w]at us;cases us
     have n3:s≠ido:=λq=>by rw[q,E]at ul;cases ul
     have n4:s≠m:=λq=>by rw[q,w]at ul;cases ul
     have bo:s≠ids:=λq=>by rw[q,us]at ul;cases ul
     have nm:m≠ido:=λq=>by rw[←q,w]at E;cases E
     have bp:=((bh.aZ n1 .gone).aZ n2 (.row [.ab .dead f pc,.ab .dead c.length (((c.flatMap IV).drop 0).take (c.length*7)),.row ids 0 (new.length+1) 1,.row s 0 (new.length+1) 1,J V,.map lm,.ab tb bs.length (bs.flatMap ca),J e]))
     have bq:=((bk.aZ n3 .gone).aZ n4 (.row [.ab .dead f pc,.ab .dead c.length (((c.flatMap IV).drop 0).take (c.length*7)),.row ids 0 (new.length+1) 1,.row s 0 (new.length+1) 1,J V,.map lm,.ab tb bs.length (bs.flatMap ca),J e]))
     have aN:=(a3.aZ nm .gone).set (.row [.ab .dead f pc,.ab .dead c.length (((c.flatMap IV).drop 0).take (c.length*7)),.row ids 0 (new.length+1) 1,.row s 0 (new.length+1) 1,J V,.map lm,.ab tb bs.length (bs.flatMap ca),J e]);generalize (g.set ido .gone).set m _=z at *;have M:ew z.o [.ab .dead f pc,.ab .dead c.length (((c.flatMap IV).drop 0).take (c.length*7)),.row ids 0 (new.length+1) 1,.row s 0 (new.length+1) 1,J V,.map lm,.ab tb bs.length (bs.flatMap ca),J e]=some ([.ab .dead f pc,.ab .dead c.length (((c.flatMap IV).drop 0).take (c.length*7)),.ab .dead (new.length+1) ((ds.drop 0).take ((new.length+1)*1)),.row s 0 (new.length+1) 1,J V,.map lm,.ab tb bs.length (bs.flatMap ca),J e],ids):=by simp only[ew,bp.2];rw[af bi];rfl
     rw[so aN M n2];simp only[aH];have br:=((bq.aZ bo .gone).aZ n4 (.row [.ab .dead f pc,.ab .dead c.length (((c.flatMap IV).drop 0).take (c.length*7)),.ab .dead (new.length+1) ((ds.drop 0).take ((new.length+1)*1)),.row s 0 (new.length+1) 1,J V,.map lm,.ab tb bs.length (bs.flatMap ca),J e]))
     have aO:=(aN.aZ n2.symm .gone).set (.row [.ab .dead f pc,.ab .dead c.length (((c.flatMap IV).drop 0).take (c.length*7)),.ab .dead (new.length+1) ((ds.drop 0).take ((new.length+1)*1)),.row s 0 (new.length+1) 1,J V,.map lm,.ab tb bs.length (bs.flatMap ca),J e]);generalize (z.set ids .gone).set m _=u at *;have ak:ew u.o [.ab .dead f pc,.ab .dead c.length (((c.flatMap IV).drop 0).take (c.length*7)),.ab .dead (new.length+1) ((ds.drop 0).take ((new.length+1)*1)),.row s 0 (new.length+1) 1,J V,.map lm,.ab tb bs.length (bs.flatMap ca),J e]=some ([.ab .dead f pc,.ab .dead c.length (((c.flatMap IV).drop 0).take (c.length*7)),.ab .dead (new.length+1) ((ds.drop 0).take ((new.length+1)*1)),.ab .dead (new.length+1) ((dl.drop 0).take ((new.length+1)*1)),J V,.map lm,.ab tb bs.length (bs.flatMap ca),J e],s):=by simp only[ew,br.2];rw[af bl];rfl
     rw[so aO ak n4];simp only[aH];have an:=(aO.aZ n4.symm .gone).set (.row [.ab .dead f pc,.ab .dead c.length (((c.flatMap IV).drop 0).take (c.length*7)),.ab .dead (new.length+1) ((ds.drop 0).take ((new.length+1)*1)),.ab .dead (new.length+1) ((dl.drop 0).take ((new.length+1)*1)),J V,.map lm,.ab tb bs.length (bs.flatMap ca),J e]);generalize (u.set s .gone).set m _=ap at *;simp only[aD,aa,aaK,X];rw[an.load,an.load,an.load];refine⟨_,rfl,_,rfl,_,rfl,?_⟩;have:=a1 c _ _ ap K (by rw[B];exact bj) (by rw[B];exact bm) (by omega) f3;rw[B]at this ⊢;rw[show((c.flatMap IV).drop 0).take ((new.length+1)*7)=c.flatMap IV by rw[adx,adG (by omega)]];exact this
    | succ R aq=>
     intro j c e g ae K a3 ag aI B ah f3 aJ aj l3;have aP:A≠[]:=λq=>by rw[q]at ac;simp at ac;rw[ac]at ae;simp at ae
     refine av.step ?_;simp only[S.qU,ax,aS,X,F,aC];rw[e5];obtain⟨b,aQ⟩:∃b,bs[j]?=some b:=⟨_,aaQ (by omega)⟩
     obtain⟨e1,M⟩:=LU aQ tb;rw[e1];simp only[X,M,aK,aR,aH];rw[cC g [O,O] (ca b) 2 rfl rfl rfl];have N:KX (λ_=>False) g (g.push (.row (ca b))):=KX.push _ _;have au:=At.new g (.row (ca b));have a4:=N.at a3 λh=>h;have aT:=ag.kx N λ_ _ h=>h;have az:=N.at aI λh=>h;have aU:=aj.kx N λ_ _ h=>h;have l4:=l3.kx N λ_ _ h=>h;have bt:m≠g.n:=by have:=a3.1;omega
     generalize g.push (.row (ca b))=z at *;have bv:Z z 1 false (.ptr m 5)=some (.map lm):=by rw[a4.load];rfl
     have b1:Z z 1 false (.ptr g.n 1)=some (J b.2):=by rw[au.load];rfl
     simp only[aD,aa,aaK,X,bv,b1];obtain⟨k,op,bS,bT,bw,aA,bU⟩:=ah b (acN aQ);have bV:=(ZX.1 aA).1;have go:∀(t:Nat)(e:Int)(u:AH),t≤new.length→At u m (.row [.ab .dead f pc,xo,xs,xl,J V,.map lm,.ab tb bs.length (bs.flatMap ca),J e])→gj u (c2 ·= 3) xo c→At u lm (.map es)→At u g.n (.row (ca b))→Ls 1 bO (c2 ·= 4) u xs (new.length+1)→Ls 1 bO (c2 ·= 5) u xl (new.length+1) →
       S.uD (ai C) (.ptr m 0) (.ptr g.n 0) (J (t:Nat)) ([J (j:Nat)],g) (av (S.qU (ai C) (.ptr m 0) (.ab tb bs.length (bs.flatMap ca)) (J (bs.length:Nat)) Q)) Q [] u:=by
      intro t e u ht a5 bx bA bB bC bD;have bE:Z u 1 false (.ptr m 1)=some xo:=by rw[a5.load];rfl
      have b0:Z u 1 false (.ptr g.n 0)=some (J (k:Nat)):=by rw[bB.load];show some (J b.1)=_;rw[bw]
      simp only[S.uD,aD,aa,aaK,X,bE,b0,cU];rw[bJ];obtain⟨p,q,ap,bF,z3,bG,T⟩:=bx.patch K aA ((t:Int)-(k:Int));rw[bF];simp only[X,z3,aC,S.FB,ax,bu,wN (show j≤4000000000000000000 by omega)];refine aq (j+1) _ e ap (by omega) (λi hi=>?_) (T.at a5 (by rw[w];decide)) bG (T.at bA (by rw[Y];decide)) (by rw[ack];exact B) (λbH bI=>(ah bH bI).set aA) (λq=>absurd q aP) (λq=>absurd q aP) (bC.kx T λi hi q=>by omega) (bD.kx T λi hi q=>by omega);rcases List.mem_or_eq_of_mem_set hi with hi|hi
      ·exact K i hi
      ·rw[hi];rfl
     rcases sb az mk O true b.2 with⟨h,_⟩|⟨_,v,h,_,⟨t,rfl,ht⟩⟩
     · rw[h];simp only[X,gk,aR,aY,adV,adW,eg,Bool.not_false,F];rw[a4.store,af ⟨rfl,rfl,rfl,by show 7+1≤8;decide⟩];simp only[X];have kp:KX (·= m) z (z.set m (.row (setCells [.ab .dead f pc,xo,xs,xl,J V,.map lm,.ab tb bs.length (bs.flatMap ca),J e] 7 (J 1).cells))):=KX.set (S:=(·= m)) _ rfl _;exact go 0 1 _ (aav _) (a4.set _) (aT.kx kp λi hi q=>by subst q;rw[w]at hi;cases hi) (kp.at az (λq=>by subst q;rw[w]at Y;cases Y)) (kp.at au (λq=>bt q.symm)) (aU.kx kp λi hi q=>by subst q;rw[w]at hi;cases hi) (l4.kx kp λi hi q=>by subst q;rw[w]at hi;cases hi)
     · rw[h];simp only[X,gk,aR,aY,adV,adW,eg,ad2,F,Bool.false_eq_true,bz];exact go t e z (sl ht a8) a4 aT az au aU l4
   rw[aG]at hs aE;exact inner bs.length 0 _ e H2 (by omega) G.l7 a y ba aG (λb W=>(bc b W).elim _root_.id λq=>q.elim) f0 aF.2.2 hs aE
  | succ d aq=>
   intro i l new H1 c1 hi s1 P;refine av.step ?_;simp only[S.uE,ax,aS,X,F,aC];rw[e5];obtain⟨o,y⟩:∃o,A[i]?=some o:=⟨_,aaQ (by omega)⟩
   obtain⟨e1,M⟩:=CC y tk;rw[e1];simp only[X,M,aK,aR,aH];rw[cC H1 CE o.cells 13 rfl rfl rfl];simp only[X,dS];rw[eh (by rfl)];simp only[X];obtain⟨bK,ak⟩:=cz.kx hT s1.r.now (KX.push H1 (.row o.cells));have a7:=s1.l;refine X0 hT hL (λv q=>absurd q (λq=>by rw[q]at y;simp at y)) bK (aW o (acN y)) (by omega) (by simp;omega) λl' n2 H2 c2 s2=>?_;simp only[bu,X,wN (show i≤4000000000000000000 by omega)];have aV:cc (hr (λe=>A=[]→e=0) (i+1) l') m pc f L H1 c1 ([]++new) n2 17 H2 c2:=⟨⟨s2.r.now,ak.trans s2.r.es⟩,s2.l⟩
   exact aq (i+1) l' _ H2 c2 (by omega) ⟨(s1.tr aV).r,by have:=(s1.tr aV).l;omega⟩ (λq=>by rw[q]at y;simp at y)
 exact main A.length 0 0 n1 H1 c1 (by omega) s1 λ_=>P
end
end Rb

namespace Rb
open Go
variable{A:List bn}
theorem sq{sz m:Nat}{P:Nat→Int→Prop}{es:List I}(h:gf sz P m es):I.bF es=true:=by rw[kP,aaW];intro c hc;obtain⟨k,hk⟩:=adO hc;obtain⟨v,hv,_⟩:=h.2 k (by have:=(ZX.1 hk).1;rw[h.1]at this;exact this);rw[hk]at hv;cases hv;rfl
theorem mP.bh{v:I}{len:Nat}(h:mP v len):v.bh=true:=by
 rcases h with⟨rfl,_⟩|⟨_,cs,rfl,he⟩
 ·rfl
 ·simp only[I.bh,sq he,Tok.free,ac0]
def sr(A:List bn)(E:I):Prop:=(A≠[]∧∃e:Int,e≠0∧E = .ar [.ab .nil 0 [],.ab .nil 0 [],.ab .nil 0 [],.int .i64 e]) ∨
 ∃(is:List (List Int)) (a ls:List I),E = .ar [.ab .dead is.length (is.flatMap IV),.ab .dead is.length a,.ab .dead is.length ls,.int .i64 0]∧(∀i∈is,i.length=7)∧gf 1 bO is.length a∧gf 1 bO is.length ls∧is.length≤900000∧(A=[]→∀i∈is,lr i)
theorem sr.bh{E:I}(h:sr A E):E.bh=true:=by
 rcases h with⟨_,e,_,rfl⟩|⟨is,a,ls,rfl,b,hs,hl,_⟩
 ·rfl
 · have:I.bF (is.flatMap IV)=true:=by
     rw[kP,aaW];intro c hc;obtain⟨i,hi,hc⟩:=afa.1 hc;obtain⟨x,_,rfl⟩:=acE.1 hc;rfl
   simp only[I.bh,I.bF,sq hs,sq hl,this,Tok.free,ac0]
section
variable{C:Ctx}(aq:bT C)
include aq
theorem ss{k:Nat}{args:List I}{G:I→Prop}(c:I.bF args=true)(d:∀v,G v→v.bh=true)(h:ai C k args AH.mt λv _=>G v):∃v,G v∧bC (ai C) k args v:=by obtain⟨v,H',g,f⟩:=ai.one h;exact⟨v,g,bC.of aq c (d v g) λQ i=>wM C _ _ _ _ _ (λa b e=>by obtain⟨rfl,rfl⟩:=e;exact i _) f⟩
variable(hT:Cl (ai C) S.ba)(hS:p3 (ai C))
include hT hS
theorem X2{t:List U}{K:Nat}{k:Int}(h:Mc t A K k) :
  ∃ (c:I) (cs:List I) (s:Nat),bC (ai C) 17 [aQ bn.cells A,.int .i64 (K:Nat)] c∧bC (ai C) 16 [c,.int .i64 (K:Nat),.int .i64 7] (.ar [.ab .dead K cs,.int .i64 (s:Nat)])∧(A=[]→s=0)∧s≤100000 ∧
   ∀n:Int,∃E,sr A E∧bC (ai C) 18 [aQ bn.cells A,.ab .dead K cs,.int .u64 n] E:=by
 have hl:=h.len;have fz:(aQ bn.cells A).bh=true:=lO (cells:=bn.cells) (λ_=>rfl) A;obtain ⟨c,⟨len,d,hlen⟩,v1⟩:=ss aq (G:=λv=>∃len,mP v len∧len≤6*A.length) (k:=17) (args:=[aQ bn.cells A,.int .i64 (K:Nat)]) (by simp only[I.bF,I.bh,fz,ac0]) (λv ⟨_,q,_⟩=>q.bh)
  (Xg hT (A:=A) (by omega) (tk:= .dead) h.rg λv len H' a b _=>⟨len,b,a⟩)
 obtain ⟨m,⟨cs,s,rfl,f,hs⟩,v2⟩:=ss aq (G:=λv=>∃(cs:List I) (s:Nat),v = .ar [.ab .dead K cs,.int .i64 (s:Nat)]∧gf 1 (Pv len) K cs∧s≤len) (k:=16) (args:=[c,.int .i64 (K:Nat),.int .i64 7]) (by simp only[I.bF,I.bh,d.bh,ac0]) (λv ⟨cs,s,e,q,_⟩=>by subst e;simp only[I.bF,I.bh,sq q,Tok.free,ac0])
  (XD hT hS (B1:=7) (by omega) (by decide) h.rg d λcs s H' a b _=>⟨cs,s,rfl,a,b⟩)
 refine⟨c,cs,s,v1,v2,λq=>?_,by omega,λn=>?_⟩
 · subst q;simp at hlen;omega
 · exact ss aq (G:=sr A) (k:=18) (args:=[aQ bn.cells A,.ab .dead K cs,.int .u64 n]) (by simp only[I.bF,I.bh,fz,sq f,Tok.free,ac0]) (λv q=>q.bh)
     (X1 hT hl h.ops (tk:= .dead) (L:=len) (by omega) f (λe H' a b=> .inl ⟨b,e,a,rfl⟩) λis g ls H' a b i j l=> .inr ⟨is,g,ls,rfl,a,b,i,j,l⟩)
end
end Rb

namespace Rb
open Go
variable{H:AH}{Q:ad}{len n0 sz n:Nat}{x:I}{cells:List I}
theorem ai.tZ{C:Ctx}{key:Nat}{args:List I}(h:ai C key (I.ch args) H Q):ai C key args H Q:=by obtain⟨v,H',q,h⟩:=h;exact⟨v,H',q,b7.tZ h⟩
theorem cd.wk(h:cd n0 H sz x len cells)(a:I.ch cells=cells):x.cB = .ab .dead len cells:=by obtain⟨tk,rfl,_,_⟩:=h;simp only[I.cB,a]
theorem cd.two{n0 sz bytes len b c:Nat}{x d:I}{cells news f:List I}{K:ad}(h:cd n0 H sz x len cells)(g:cd n0 H b d c f)(s:sz≠b)(j:n0≤H.n)(u:news.length=sz)(hs:news.all I.scalar=true)
  (k:(len+1)*bytes≤140737488355328) (hl:len+1≤9223372036854775807) (l:∀m H',cd n0 H' sz m (len+1) (cells++news)→cd n0 H' b d c f→KX (λi=>n0≤i) H H'→K m H'):au (bH H false sz bytes x (.ab .full 1 news)) K:=by
 obtain⟨tk,rfl,hc,v⟩:=h;have hlen:(cells++news).length=(len+1)*sz:=by rw[adD,hc,u,abX]
 have o:dQ H sz (.ab .full 1 news)=some (1,news):=by simp only[dQ];rw[cj]
 have grow:∀tk:Tok,tk = .full∨(tk = .nil∧len=0)→bH H false sz bytes (.ab tk len cells) (.ab .full 1 news)=some (.ab (.own H.n) (len+1) (cells++news),H.push (.tok ((len+1)*sz) sz)):=by intro tk ht;simp only[bH,o,hs,not_true_eq_false,bz,ak (show ¬(1:Nat)=0 by decide)];rw[ak (by simp only[adC];exact⟨hc,k,hl⟩)];rcases ht with rfl|⟨rfl,_⟩<;>rfl
 have fresh:K (.ab (.own H.n) (len+1) (cells++news)) (H.push (.tok ((len+1)*sz) sz)):=
  l _ _ ⟨_,rfl,hlen,.inr (.inr ⟨H.n,rfl,j,At.new H _⟩)⟩ (g.frame λ_ _ _ q=>q.push _) (KX.push _ _)
 rcases v with ht|ht|⟨t,rfl,h1,p⟩
 ·exact⟨_,_,grow tk (.inr ht),fresh⟩
 ·exact⟨_,_,grow tk (.inl ht),fresh⟩
 · refine ⟨.ab (.own H.n) (len+1) (cells++news),(H.set t .gone).push (.tok ((len+1)*sz) sz),?_,l _ _ ⟨_,rfl,hlen,.inr (.inr ⟨H.n,rfl,j,At.new (H.set t .gone) _⟩)⟩ ?_ ((KX.set H (S:=λi=>n0≤i) h1 .gone).tr (KX.push _ _))⟩
   · simp only[bH,o,hs,not_true_eq_false,bz,ak (show ¬(1:Nat)=0 by decide)];rw[ak (by simp only[adC];exact⟨hc,k,hl⟩)];simp[p.2]
   · obtain⟨w,rfl,y,a⟩:=g;refine⟨w,rfl,y,?_⟩;rcases a with a|a|⟨t2,rfl,z,r⟩
     ·exact .inl a
     ·exact .inr (.inl a)
     ·exact .inr (.inr ⟨t2,rfl,z,(r.aZ (λe=>by subst e;have:=r.2.symm.trans p.2;injection this;exact s (by omega)) _).push _⟩)
theorem CT:∀{es:List I}{m:Nat},gf 1 bO m es→∃l:List Int,l.length=m∧es=IV l
 |[],m,h=>⟨[],by have:=h.1;simp at this;simp;omega,rfl⟩
 | c :: r,m,h=>by
  have h1:=h.1;simp only[ael]at h1;obtain⟨v,hv,_⟩:=h.2 0 (by omega);obtain ⟨l,hl,e⟩:=CT (es:=r) (m:=m-1) ⟨by omega,λj a=>by obtain⟨w,hw,_⟩:=h.2 (j+1) (by omega);exact⟨w,by simpa using hw,trivial⟩⟩
  simp at hv;exact⟨v::l,by simp;omega,by rw[hv,e];rfl⟩
theorem CU{sz:Nat}:∀{l:List (List Int)}{k:Nat}{i:List Int},(∀i∈l,i.length=sz)→l[k]?=some i→((l.flatMap IV).drop (k*sz)).take sz=IV i
 |[],k,i,_,e=>by simp at e
 | y::r,k,i,h,e=>by
  have a:(IV y).length=sz:=by rw[ih];exact h y (aco ..)
  rw[adn];cases k with
  | zero=>simp at e;subst e;rw[ae5,adx,adF (by omega),adG (by omega)]
  | succ k=>rw[show(k+1)*sz=(IV y).length+k*sz by rw[a,abX,aeU],ae6,show ae7 ((IV y).length+k*sz) (IV y)=[]from ae8 (by omega),aeH,ae9];exact CU (λj b=>h j (acn _ b)) (by simpa using e)
theorem CV{sz:Nat}:∀{l:List (List Int)},(∀i∈l,i.length=sz)→(l.flatMap IV).length=l.length*sz
 |[],_=>by simp
 | y::r,h=>by rw[adn,adD,CV λj a=>h j (acn _ a),ih,h y (aco ..),ael,abX,aeU]
def UV(l:List Int):List I:=l.map (I.int .u32)
def kj(a:List (List Int))(k:Nat):List Int:=(aaO k).map λj=>(iD (a.getD j [])).1
def kl(n:Nat)(a b:List Int)(k:Nat):List (List Int):=(aaO k).map λj=>[(n:Int),a.getD j 0,b.getD j 0]
theorem X3(n:Nat)(a b:List Int)(k:Nat):∀i∈kl n a b k,i.length=3:=by intro i hi;obtain⟨j,_,rfl⟩:=acE.1 hi;rfl
theorem X4(l:List Int):I.ch (IV l)=IV l:=by rw[my,acU];rfl
theorem X5(l:List Int):I.ch (UV l)=UV l:=by rw[UV,my,acU];rfl
theorem Mr:∀l:List (List Int),I.ch (l.flatMap IV)=l.flatMap IV
 |[]=>rfl
 |x::r=>by rw[adn,i_,X4,Mr r]
def km(W:List Int)(T:List (List Int))(k:Int):I:= .ar [.ab .dead W.length (UV W),.ab .dead T.length (T.flatMap IV),.agg [.int .i64 0,.int .i64 k]]
def kn(n:Nat)(z:Int):Int:=if 8≤n∨z<0∨65536<z then 0 else
 aa8 .i64 (aa8 .i64 (65536+aa8 .i64 (aa8 .i64 ((aa8 .i64 (aa8 .i64 (z+16)-1)).tdiv 16)*16))+aa8 .i64 ((n:Int)*1024))
section
variable{C:Ctx}(aq:bT C)(hT:Cl (ai C) S.ba)
include aq hT
theorem X6{a c d:I}{z:Int}(hl:aU false a=some (.int .i64 (len:Nat)))(j:n<len)(b:∀(w:Int) H',KX (λ_=>False) H H'→Q (.agg [.int .i64 (kn n z),.int .i64 w]) H') :
  ai C 10 [.agg [a,c,d,.int .i64 z],.int .i64 (n:Nat)] H Q:=by
 refine S.Qr hT ?_;unfold S.f10;have g:aL H false 4 (.agg [a,c,d,.int .i64 z])=some (.aj [a,c,d,.int .i64 z],H):=by unfold aL;rw[af ⟨rfl,rfl⟩];rfl
 have l0:∀H,Z H 1 false (.aj [a,c,d,.int .i64 z])=some a:=λ_=>rfl;have l3:∀H,Z H 1 false (.aj [.int .i64 z])=some (.int .i64 z):=λ_=>rfl;have a0:aa 0 (.aj [a,c,d,.int .i64 z])=some (.aj [a,c,d,.int .i64 z]):=rfl;have a3:aa 3 (.aj [a,c,d,.int .i64 z])=some (.aj [.int .i64 z]):=rfl;have k:At (H.push (.row [.int .i64 0,.int .i64 0])) H.n (.row [.int .i64 0,.int .i64 0]):=At.new H _;have l:KX (λ_=>False) H (H.push (.row [.int .i64 0,.int .i64 0])):=KX.push H _;have put:∀x y:Int,Y (H.push (.row [.int .i64 0,.int .i64 0])) 2 (.ptr H.n 0) (.agg [.int .i64 x,.int .i64 y])=some (H.push (.row [.int .i64 x,.int .i64 y])):=λx y=>cC H _ _ 2 rfl rfl rfl;have get:∀x y:Int,Z (H.push (.row [.int .i64 x,.int .i64 y])) 2 true (.ptr H.n 0)=some (.agg [.int .i64 x,.int .i64 y]):=λx y=>by rw[dS];rfl
 have h:aB [.int .i64 0,.int .i64 0] []=some (.agg [.int .i64 0,.int .i64 0]):=rfl;have i:∀x:Int,aB [.int .i64 0,.int .i64 0] [(0,1,.int .i64 x),(1,1,.int .i64 1024)]=some (.agg [.int .i64 x,.int .i64 1024]):=λ_=>rfl;simp only[g,aH,aK,aR,aS,X,cy,a0,l0,hl,eQ,aC,S.Ad,S.Ac,S.Ab,S.Aa,S.Fh,ax,a3,l3,dC,F,bu,cU,gC,j3 _ _ _ (show(16:Int)≠0 by decide),h,i,put,get];have k1:∀x y:Int,KX (λ_=>False) H (H.push (.row [.int .i64 x,.int .i64 y])):=λ_ _=>KX.push H _;rw[af (by simp only[decide_eq_false_iff_not];omega),show decide ((n:Int)≥(len:Nat))=false by simp only[decide_eq_false_iff_not];omega];by_cases h1:8≤n
 · rw[af rfl,show decide ((n:Int)≥8)=true by simp only[dO];omega];have:kn n z=0:=by unfold kn;rw[af (.inl h1)]
   rw[this]at b;exact b 0 _ (k1 0 0)
 rw[af rfl,show decide ((n:Int)≥8)=false by simp only[decide_eq_false_iff_not];omega];by_cases e:z<0
 · rw[af rfl,show decide (z<0)=true by simpa using e];have:kn n z=0:=by unfold kn;rw[af (.inr (.inl e))]
   rw[this]at b;exact b 0 _ (k1 0 0)
 rw[af rfl,show decide (z<0)=false by simpa using e];by_cases f:65536<z
 · rw[af rfl,af (by simpa using f)];have:kn n z=0:=by unfold kn;rw[af (.inr (.inr f))]
   rw[this]at b;exact b 0 _ (k1 0 0)
 rw[af rfl,ak (by simpa using f)];have:kn n z=_:=ak (show ¬(8≤n∨z<0∨65536<z) by omega);rw[this]at b;exact b 1024 _ (k1 _ _)
theorem Ms{c:List (List Int)}{a b:List Int}{n N:Nat}{H0:AH}(am:H0.n≤N)(o:∀i∈c,i.length=7)(an:c.length≤900000)(K:a.length=c.length)(L:b.length=c.length){Q:ad}
  (M:(∀i∈c,(iD i).2=0)→∀e xs H2,e.cB = .ab .dead c.length (UV (kj c c.length))→xs.cB = .ab .dead c.length ((kl n a b c.length).flatMap IV)→KX (λ_=>False) H0 H2→Q (.ar [e,xs,.agg [.int .i64 0,.int .i64 0]]) H2)
  (O:(∃i∈c,(iD i).2≠0)→∀H2,KX (λ_=>False) H0 H2→Q (.ar [.ab .nil 0 [],.ab .nil 0 [],.agg [.int .i64 0,.int .i64 12]]) H2) :
  ∀ (d k:Nat) (H1:AH) (e xs:I),k+d=c.length→cd (N+1) H1 1 e k (UV (kj c k))→cd (N+1) H1 3 xs k ((kl n a b k).flatMap IV)→At H1 N (.row [.int .i64 0,.int .i64 0])→KX (λi=>N≤i) H0 H1→(∀j,j<k→(iD (c.getD j [])).2=0) →
   av (S.qS (ai C) (.int .i64 (n:Nat)) (.ptr N 0) (.ab .dead c.length (c.flatMap IV)) (.ab .dead c.length (IV a)) (.ab .dead c.length (IV b)) (.int .i64 (c.length:Nat)) Q) ([e,xs,.int .i64 (k:Nat)],H1):=by
 have u:∀H2,KX (λi=>N≤i) H0 H2→KX (λ_=>False) H0 H2:=λH2 k=>k.mono λi hi hs=>by omega
 intro d;induction d with
 | zero=>
  intro k H1 e xs hk r os f kx s;refine av.step ?_;simp only[S.qS,ax,bR,aS,X,F,aC];rw[eT];obtain rfl:k=c.length:=by omega
  simp only[S.Ff,ax,bR,show aB [.int .i64 0,.int .i64 0] []=some (.agg [.int .i64 0,.int .i64 0])from rfl,X];refine⟨_,f.put (n:=2) rfl rfl rfl,_,(f.set _).all (n:=2) rfl,?_⟩;refine M (λi hi=>?_) e xs _ (r.wk (X5 _)) (os.wk (Mr _)) (u _ (kx.tr (KX.set _ (np N) _)));obtain⟨j,g⟩:=adO hi;have:=s j (ZX.1 g).1;rwa [show c.getD j []=i by simp[afb,g]]at this
 | succ d P=>
  intro k H1 e xs hk r os f kx s;refine av.step ?_;simp only[S.qS,ax,bR,aS,X,F];rw[eH];obtain⟨i,hi⟩:∃i,c[k]?=some i:=⟨_,aaQ (by omega)⟩
  have v:=acN hi;have w:=o i v;have R:=CU o hi;have A:(IV i).length=7:=by rw[ih,w]
  have B:c.getD k []=i:=by simp[afb,hi]
  have fl:=CV o;have e1:aG none 7 (.ab .dead c.length (c.flatMap IV)) (.int .i64 (k:Nat))=some (.aj ((c.flatMap IV).drop (k*7))):=by simp only[aG];rw[cj];rfl
  have T:Z H1 7 true (.aj ((c.flatMap IV).drop (k*7)))=some (.agg (IV i)):=by simp only[Z,bw,adx,R];rw[af (by rw[adK,fl];omega)];rfl
  have D:∀(l:List Int)(H:AH),l.length=c.length→∃p,aG none 1 (.ab .dead c.length (IV l)) (.int .i64 (k:Nat))=some p∧Z H 1 false p=some (.int .i64 (l.getD k 0)):=by
   intro l H hl;refine⟨.aj ((IV l).drop (k*1)),?_,?_⟩
   · simp only[aG];rw[cj];rfl
   · simp only[Z,bw,aeB];rw[af (by rw[adK,ih];omega)];have:k<l.length:=by omega
     simp[afb,this]
  rw[e1];simp only[X,T,aK,aR,aH];rw[cC H1 [.int .i64 0,.int .i64 0,.int .i64 0,.int .i64 0,.int .i64 0,.int .i64 0,.int .i64 0] (IV i) 7 A (wY i) rfl];simp only[X,dS,eh A];refine T5 aq hT w _ _ ?_;have kp:KX (λi=>N≤i) H0 (H1.push (.row (IV i))):=kx.tr (KX.push _ _);have U:cd (N+1) (H1.push (.row (IV i))) 1 e k (UV (kj c k)):=r.frame λ_ _ _ q=>q.push _;have V:cd (N+1) (H1.push (.row (IV i))) 3 xs k ((kl n a b k).flatMap IV):=os.frame λ_ _ _ q=>q.push _;have m:=f.push (.row (IV i));generalize H1.push (.row (IV i))=H2 at *;simp only[aY,adV,adW,X,dc,F];apply ay<;>intro q
  · simp only[show aB [.int .i64 0,.int .i64 0] [(1,1,.int .i64 12)]=some (.agg [.int .i64 0,.int .i64 12])from rfl,X];refine⟨_,m.put (n:=2) rfl rfl rfl,_,(m.set _).all (n:=2) rfl,?_⟩;exact O ⟨i,v,by simpa using q⟩ _ (u _ (kp.tr (KX.set _ (np N) _)))
  · have W:(iD i).2=0:=by simpa using q
    have bs:∀(H:AH)(x:Int),b8 H false 1 1 [.int .u32 0] [(0,1,.int .u32 x)]=some (.ab .full 1 [.int .u32 x],H):=λ_ _=>rfl;have Y:∀(H:AH)(x y z:Int),b8 H false 3 1 [.int .i64 0,.int .i64 0,.int .i64 0] [(0,3,.agg [.int .i64 x,.int .i64 y,.int .i64 z])]=some (.ab .full 1 (IV [x,y,z]),H):=λ_ _ _ _=>rfl;have aa:∀(x y z:Int),aB [.int .i64 0,.int .i64 0,.int .i64 0] [(0,1,.int .i64 x),(1,1,.int .i64 y),(2,1,.int .i64 z)]=some (.agg [.int .i64 x,.int .i64 y,.int .i64 z]):=λ_ _ _=>rfl;rw[bs];simp only[aH];refine cd.two U V (by decide) m.1 rfl rfl (by omega) (by omega) λac t ae ag E=>?_;obtain⟨p1,f1,f2⟩:=D a t K;obtain⟨p2,g1,g2⟩:=D b t L;simp only[f1,f2,g1,g2,X,aa,Y,aH];have G:At t N (.row [.int .i64 0,.int .i64 0]):=E.at m (by omega);refine cd.two ag ae (by decide) G.1 rfl rfl (by omega) (by omega) λCr ah ak al J=>?_;simp only[bu,X,wN (show k≤4000000000000000000 by omega)];refine P (k+1) ah ac Cr (by omega) ?_ ?_ (J.at G (by omega)) (kp.tr ((E.mono λi _ (h:N+1≤i)=>(by omega:N≤i)).tr (J.mono λi _ (h:N+1≤i)=>(by omega:N≤i)))) λj g=>?_
    · rw[show UV (kj c (k+1))=UV (kj c k)++[.int .u32 (iD i).1] by simp only[UV,kj,afc,aeE,abl,acd,B]];exact al
    · rw[show(kl n a b (k+1)).flatMap IV=(kl n a b k).flatMap IV++IV [(n:Int),a.getD k 0,b.getD k 0] by simp only[kl,afc,aeE,abl,acd,aeK,adn,afd,adJ]];exact ak
    · rcases afe.1 g with h|rfl
      ·exact s j h
      ·rw[B];exact W
end
end Rb

namespace Rb
open Go
section
variable{C:Ctx}(aq:bT C)(hT:Cl (ai C) S.ba)
include aq hT
theorem X7{A:List bn}{E:I}(hE:sr A E)(n:Nat):∃(W:List Int) (T:List (List Int)) (k:Int),(W.length=T.length∧W.length≤900000)∧(∀i∈T,i.length=3)∧(A=[]→k=0) ∧
  ∀ (N:Nat) (H0 H:AH) (Q:ad),H0.n≤N→At H N (.row [.int .i64 0,.int .i64 0])→KX (λi=>N≤i) H0 H→(∀H',KX (λ_=>False) H0 H'→Q (km W T k) H') →
   Do (aY 0 E) λl=>Do (aY 1 E) λt=>Do (aY 2 E) λu=>Do (aY 3 E) λm=>Do (M .neq m (.int .i64 0)) λw=>Gd w true (
     Do (aB [.int .i64 0,.int .i64 0] [(1,1,m)]) λx=>Do (Y H 2 (.ptr N 0) x) λo=>Do (Z o 2 true (.ptr N 0)) λy=>Q (I.ar [(.ab .nil 0 []),(.ab .nil 0 []),y]).cB o) (
     Do (aU false l) λz=>av (S.qS (ai C) (.int .i64 (n:Nat)) (.ptr N 0) l t u z λv H=>Q v.cB H) ([(.ab .nil 0 []),(.ab .nil 0 []),(.int .i64 0)],H)):=by
 rcases hE with⟨B,e,he,rfl⟩|⟨is,L,ls,rfl,p,hs,hl,hm,D⟩
 · refine⟨[],[],e,⟨rfl,aav _⟩,(λi hi=>by cases hi),λq=>absurd q B,λN H0 H Q f c kx d=>?_⟩;simp only[aY,adV,adW,X,dc,F];rw[af (by simpa using he)];simp only[show aB [.int .i64 0,.int .i64 0] [(1,1,.int .i64 e)]=some (.agg [.int .i64 0,.int .i64 e])from rfl,X];refine⟨_,c.put (n:=2) rfl rfl rfl,_,(c.set _).all (n:=2) rfl,?_⟩;exact d _ ((kx.tr (KX.set _ (np N) _)).mono λi hi hs=>by omega)
 · obtain ⟨a,r,rfl⟩:=CT hs;obtain⟨b,s,rfl⟩:=CT hl;by_cases g:∃i∈is,(iD i).2≠0
   · refine ⟨[],[],12,⟨rfl,aav _⟩,(λi hi=>by cases hi),λq=>?_,λN H0 H Q f c kx d=>?_⟩
     · obtain⟨i,hi,h⟩:=g;exact absurd (D q i hi).enc h
     · simp only[aY,adV,adW,X,dc,F,fQ];rw[de];exact Ms aq hT f p hm r s (λh=>by obtain⟨i,hi,q⟩:=g;exact absurd (h i hi) q) (λ_ H2 k2=>d H2 k2) is.length 0 H _ _ (by omega) (cd.nil _ _ _) (cd.nil _ _ _) c kx (λj G=>by omega)
   · refine ⟨kj is is.length,kl n a b is.length,0,⟨by simp[kj,kl],by simpa[kj]using hm⟩,X3 _ _ _ _,λ_=>rfl,λN H0 H Q f c kx d=>?_⟩;simp only[aY,adV,adW,X,dc,F,fQ];rw[de];refine Ms aq hT f p hm r s (λh J xs H2 e1 K k2=>?_) (λq=>absurd q g) is.length 0 H _ _ (by omega) (cd.nil _ _ _) (cd.nil _ _ _) c kx (λj G=>by omega);have:I.cB (.ar [J,xs,.agg [.int .i64 0,.int .i64 0]])=km (kj is is.length) (kl n a b is.length) 0:=by
      simp only[I.cB,I.ch,e1,K,km,kj,kl,List.length_map,List.length_range]
     rw[this];exact d H2 k2
variable(ek:∀x,bC (ai C) 22 [.str x] (.bool (cw x)))(hS:p3 (ai C))
include ek hS
theorem X8{vars:List B}{t:List U}(y:vars.length≤32)(hv:∀v∈vars,v.ok)(D:jN vars)(G:t.length≤maxLen)(J:∀s∈t,s.ok)(L:vB vars [] t)(M:cf t≤100000000000)(n:Nat)(z:Int) :
  ∃ (W:List Int) (T:List (List Int)) (k:Int),(W.length=T.length∧W.length≤900000)∧(∀i∈T,i.length=3)∧(t=[]→k=0)∧∀(p:cH),p.ok→(cV cw p).2=0→p.vars=vars→p.bo[n]?=some t→∀(b c d:I)(len:Nat),aU false b=some (.int .i64 (len:Nat))→n<len →
   ∀(H:AH)(Q:ad),(∀H',KX (λ_=>False) H H'→Q (km W T k) H')→ai C 8 [.agg p.cells,.agg [b,c,d,.int .i64 z],.int .i64 (n:Nat)] H Q:=by
 obtain⟨A,K,a,j,N⟩:=Xz aq hT ek y hv D G J L M;obtain⟨an,cs,s,v1,v2,t_,zW,hE⟩:=X2 aq hT hS j;obtain⟨E,O,v3⟩:=hE (aa8 .u64 (kn n z));obtain⟨o,T0,r,P,R,V,Y⟩:=X7 aq hT O n;have main:∀(W:List Int)(T:List (List Int)) (k:Int),(a≠0→W=[]∧T=[]∧k=a)→(a=0→(8*s:Int)>1024→W=[]∧T=[]∧k=12)→(a=0→¬(8*s:Int)>1024→W=o∧T=T0∧k=r) →
   ∀(p:cH),p.ok→(cV cw p).2=0→p.vars=vars→p.bo[n]?=some t→∀(b c d:I)(len:Nat),aU false b=some (.int .i64 (len:Nat))→n<len →
   ∀(H:AH)(Q:ad),(∀H',KX (λ_=>False) H H'→Q (km W T k) H')→ai C 8 [.agg p.cells,.agg [b,c,d,.int .i64 z],.int .i64 (n:Nat)] H Q:=by
  intro W T k c1 c2 c3 p ab ac ae ht b c d len hlen ag H Q l;refine ai.cB (S.Qq hT ?_);unfold S.f8;have b1:aL H false 2 (.agg p.cells)=some (.aj p.cells,H):=by unfold aL;rw[af ⟨rfl,rfl⟩];rfl
  have b2:aL H false 4 (.agg [b,c,d,.int .i64 z])=some (.aj [b,c,d,.int .i64 z],H):=by unfold aL;rw[af ⟨rfl,rfl⟩];rfl
  have ah:∀H,Z H 2 true (.aj p.cells)=some (.agg p.cells):=λ_=>rfl;have ak:∀H,Z H 4 true (.aj [b,c,d,.int .i64 z])=some (.agg [b,c,d,.int .i64 z]):=λ_=>rfl;simp only[b1,b2,aH,aK,aR,ah,X];refine N p n ab ac ae ht _ _ ?_;unfold sf;simp only[aY,adV,adW,X];have al:At (H.push (.row [.int .i64 0,.int .i64 0])) H.n (.row [.int .i64 0,.int .i64 0]):=At.new H _;have kx:KX (λi=>H.n≤i) H (H.push (.row [.int .i64 0,.int .i64 0])):=KX.push H _;generalize H.push (.row [.int .i64 0,.int .i64 0])=H1 at *;rw[cC H1 [.int .i64 0,.int .i64 0] [.int .i64 0,.int .i64 a] 2 rfl rfl rfl];have f:=al.push (.row [.int .i64 0,.int .i64 a]);have m:KX (λi=>H.n≤i) H (H1.push (.row [.int .i64 0,.int .i64 a])):=kx.tr (KX.push H1 _);simp only[X,aa,aaK,dS,show bw [I.int .i64 0,.int .i64 a] 1 1 false=some (.int .i64 a)from rfl,show bw [I.int .i64 0,.int .i64 a] 0 2 true=some (.agg [.int .i64 0,.int .i64 a])from rfl,dc,F];generalize H1.push (.row [.int .i64 0,.int .i64 a])=H2 at *;have u:∀H2,KX (λi=>H.n≤i) H H2→KX (λ_=>False) H H2:=λH2 k=>k.mono λi hi hs=>by omega
  apply ay<;>intro q
  · have q:a≠0:=by simpa using q
    obtain⟨rfl,rfl,rfl⟩:=c1 q;refine⟨_,f.put (n:=2) rfl rfl rfl,_,(f.set _).all (n:=2) rfl,?_⟩;exact l _ (u _ (m.tr (KX.set _ (np H.n) _)))
  · have q:a=0:=by simpa using q
    refine v1 _ _ (v2 _ _ ?_);simp only[aY,adV,adW,X,gC,dC,F];rw[bJ];apply ay<;>intro g
    · obtain⟨rfl,rfl,rfl⟩:=c2 q (by simpa using g);simp only[show aB [.int .i64 0,.int .i64 0] [(1,1,.int .i64 12)]=some (.agg [.int .i64 0,.int .i64 12])from rfl,X];refine⟨_,f.put (n:=2) rfl rfl rfl,_,(f.set _).all (n:=2) rfl,?_⟩;exact l _ (u _ (m.tr (KX.set _ (np H.n) _)))
    · obtain⟨rfl,rfl,rfl⟩:=c3 q (by simpa using g);simp only[ak,X];refine X6 aq hT hlen ag λw am x=>?_;simp only[show jS 0 1 false (.agg [.int .i64 (kn n z),.int .i64 w])=some (.int .i64 (kn n z))from rfl,ie,X];refine v3 _ _ ?_;exact Y H.n H am Q (np _) (x.at f (λh=>h)) (m.tr (x.mono λ_ _ h=>h.elim)) l
 by_cases q:a=0
 · by_cases g:(8*s:Int)>1024
   ·exact⟨[],[],12,⟨rfl,aav _⟩,(λi hi=>by cases hi),λe=>by have:=t_ (j.nil e).1;omega,main _ _ _ (λh=>absurd q h) (λ_ _=>⟨rfl,rfl,rfl⟩) (λ_ h=>absurd g h)⟩
   ·exact⟨o,T0,r,P,R,λe=>V (j.nil e).1,main _ _ _ (λh=>absurd q h) (λ_ h=>absurd h g) (λ_ _=>⟨rfl,rfl,rfl⟩)⟩
 ·exact⟨[],[],a,⟨rfl,aav _⟩,(λi hi=>by cases hi),λe=>(j.nil e).2.2,main _ _ _ (λ_=>⟨rfl,rfl,rfl⟩) (λh=>absurd h q) (λh=>absurd h q)⟩
end
end Rb

namespace Rb
open Go
variable{p:cH}{α:Type}{gc:List I}{L:Nat}
abbrev jf:=List Int×List (List Int)×Int
def wV(g:jf):I:= .ab .dead g.1.length (UV g.1)
def sV(g:jf):I:= .ab .dead g.2.1.length (g.2.1.flatMap IV)
def zI:List I:=[.ab .nil 0 [],.ab .nil 0 [],.ab .nil 0 [],.int .i64 0]
def su(l k:Int):I:= .ar [.agg zI,.agg [.int .i64 l,.int .i64 k]]
def jg(g:Nat→jf)(L m:Nat)(gc:List I)(z:Int):List I:=[.ab .dead L ((aaO L).map λj=>wV (g j)),.ab .dead L ((aaO L).map λj=>sV (g j)),.ab .dead m gc,.int .i64 z]
def mS(g:Nat→jf)(L m:Nat)(gc:List I)(z:Int):I:= .ar [.agg (jg g L m gc z),.agg [.int .i64 0,.int .i64 0]]
theorem CW{f:α→I}(h:∀x,(f x).bh=true)(l:List α):I.bF (l.map f)=true:=by rw[kP,aaW];intro c hc;obtain⟨x,_,rfl⟩:=acE.1 hc;exact h x
theorem X9(l:List (List Int)):I.bF (l.flatMap IV)=true:=by rw[kP,aaW];intro c hc;obtain⟨i,hi,hc⟩:=afa.1 hc;obtain⟨x,_,rfl⟩:=acE.1 hc;rfl
theorem X_(g:Nat→jf)(L m:Nat)(h:I.bF gc=true)(z:Int):(mS g L m gc z).bh=true:=by
 have h1:I.bF ((aaO L).map λj=>wV (g j))=true:=CW (λj=>by simp only[wV,I.bh,Tok.free,adj];exact CW (λ_=>rfl) _) _
 have a:I.bF ((aaO L).map λj=>sV (g j))=true:=CW (λj=>by simp only[sV,I.bh,Tok.free,adj];exact X9 _) _
 simp only[mS,jg,I.bh,I.bF,h1,a,h,Tok.free,ac0]
theorem Mt{f:Nat→α}{a:List α}(hl:a.length=L)(h:∀j,j<L→a[j]?=some (f j)):a=(aaO L).map f:=by
 apply List.ext_getElem?;intro j;by_cases b:j<L
 ·rw[h j b];simp[b]
 ·rw[acf (by omega),acf (by simp;omega)]
section
variable{C:Ctx}(aq:bT C)(hT:Cl (ai C) S.ba)
include aq hT
theorem Ya{p:cH}{g:Nat→jf}{L m:Nat}{gc:List I}{z:Int}(hL:L≤8)
  (x:∀n,n<L→∀(H:AH)(Q:ad),(∀H',KX (λ_=>False) H H'→Q (km (g n).1 (g n).2.1 (g n).2.2) H')→ai C 8 [.agg p.cells,.agg [.row 4 0 L 1,.row 5 0 L 1,.ab .dead m gc,.int .i64 z],.int .i64 (n:Nat)] H Q)
  {Q:ad} (y:(∀n,n<L→(g n).2.2=0)→∀H',Q (mS g L m gc z) H') (A:∀n,n<L→(g n).2.2≠0→∀H',Q (su 0 (g n).2.2) H') :
  ∀ (d k:Nat) (H1:AH) (ws ts:List I),k+d=L→ws.length=L→ts.length=L→(∀j,j<k→ws[j]?=some (wV (g j)))→(∀j,j<k→ts[j]?=some (sV (g j)))→(∀j,j<k→(g j).2.2=0) →
   At H1 0 (.row zI)→At H1 1 (.row [.int .i64 0,.int .i64 0])→At H1 3 (.row [.row 4 0 L 1,.row 5 0 L 1,.ab .dead m gc,.int .i64 z])→At H1 4 (.row ws)→At H1 5 (.row ts) →
   av (S.uj (ai C) (.aj p.cells) (.ptr 0 0) (.ptr 1 0) (.ptr 3 0) (.int .i64 (L:Nat)) Q) ([.int .i64 (k:Nat)],H1):=by
 intro d;induction d with
 | zero=>
  intro k H1 ws ts hk hw ht w1 t1 b a0 W a3 a4 a5;refine av.step ?_;simp only[S.uj,ax,aS,X,F,aC];rw[eT];obtain rfl:k=L:=by omega
  rw[Mt hw w1]at a4;rw[Mt ht t1]at a5;have r:∀f:Nat→I,(((aaO k).map f).drop 0).take (k*1)=(aaO k).map f:=λf=>by rw[adx,adG (by simp)]
  have f1:ew H1.o [.row 4 0 k 1,.row 5 0 k 1,.ab .dead m gc,.int .i64 z]=some ([.ab .dead k ((aaO k).map λj=>wV (g j)),.row 5 0 k 1,.ab .dead m gc,.int .i64 z],4):=by simp only[ew,a4.2];rw[ot,r]
  simp only[S.E8,so a3 f1 (by decide),aH];have b0:=(a0.aZ (show 0≠4 by decide) .gone).aZ (show 0≠3 by decide) (.row [.ab .dead k ((aaO k).map λj=>wV (g j)),.row 5 0 k 1,.ab .dead m gc,.int .i64 z]);have b1:=(W.aZ (show 1≠4 by decide) .gone).aZ (show 1≠3 by decide) (.row [.ab .dead k ((aaO k).map λj=>wV (g j)),.row 5 0 k 1,.ab .dead m gc,.int .i64 z]);have b3:=(a3.aZ (show 3≠4 by decide) .gone).set (.row [.ab .dead k ((aaO k).map λj=>wV (g j)),.row 5 0 k 1,.ab .dead m gc,.int .i64 z]);have B:=(a5.aZ (show 5≠4 by decide) .gone).aZ (show 5≠3 by decide) (.row [.ab .dead k ((aaO k).map λj=>wV (g j)),.row 5 0 k 1,.ab .dead m gc,.int .i64 z]);generalize (H1.set 4 .gone).set 3 (.row [.ab .dead k ((aaO k).map λj=>wV (g j)),.row 5 0 k 1,.ab .dead m gc,.int .i64 z])=H2 at *;have f2:ew H2.o [.ab .dead k ((aaO k).map λj=>wV (g j)),.row 5 0 k 1,.ab .dead m gc,.int .i64 z]=some (jg g k m gc z,5):=by simp only[ew,B.2];rw[ot,r];rfl
  simp only[so b3 f2 (by decide),aH];have s:=(b0.aZ (show 0≠5 by decide) .gone).aZ (show 0≠3 by decide) (.row (jg g k m gc z));have c1:=(b1.aZ (show 1≠5 by decide) .gone).aZ (show 1≠3 by decide) (.row (jg g k m gc z));have c3:=(b3.aZ (show 3≠5 by decide) .gone).set (.row (jg g k m gc z));generalize (H2.set 5 .gone).set 3 (.row (jg g k m gc z))=c at *;simp only[c3.all (n:=4) rfl,X,show aB [.int .i64 0,.int .i64 0] []=some (.agg [.int .i64 0,.int .i64 0])from rfl];refine⟨_,s.put (n:=4) rfl rfl rfl,_,(c1.aZ (by decide) _).put (n:=2) rfl rfl rfl,?_⟩;refine⟨_,((s.set _).aZ (by decide) _).all (n:=4) rfl,_,((c1.aZ (by decide) _).set _).all (n:=2) rfl,?_⟩;exact y b _
 | succ d D=>
  intro k H1 ws ts hk hw ht w1 t1 b a0 W a3 a4 a5;refine av.step ?_;have E:∀H,Z H 2 true (.aj p.cells)=some (.agg p.cells):=λ_=>rfl;simp only[S.uj,ax,aS,X,F,E,a3.all (n:=4) rfl];rw[eH];refine x k (by omega) _ _ λH2 k2=>?_;have q:∀{i o},At H1 i o→At H2 i o:=λa=>k2.at a (λh=>h);have a0:=q a0;have W:=q W;have a3:=q a3;have a4:=q a4;have a5:=q a5;unfold km;simp only[aY,adV,adW,X,aK,aR,aH];rw[cC H2 [.int .i64 0,.int .i64 0] [.int .i64 0,.int .i64 (g k).2.2] 2 rfl rfl rfl];simp only[X,aa,aaK,dS,show bw [I.int .i64 0,.int .i64 (g k).2.2] 1 1 false=some (.int .i64 (g k).2.2)from rfl,show bw [I.int .i64 0,.int .i64 (g k).2.2] 0 2 true=some (.agg [.int .i64 0,.int .i64 (g k).2.2])from rfl,dc,F];have an:=At.new H2 (.row [.int .i64 0,.int .i64 (g k).2.2]);have G:5<H2.n:=a5.1;have a0:=a0.push (.row [.int .i64 0,.int .i64 (g k).2.2]);have W:=W.push (.row [.int .i64 0,.int .i64 (g k).2.2]);have a3:=a3.push (.row [.int .i64 0,.int .i64 (g k).2.2]);have a4:=a4.push (.row [.int .i64 0,.int .i64 (g k).2.2]);have a5:=a5.push (.row [.int .i64 0,.int .i64 (g k).2.2]);generalize H2.push (.row [.int .i64 0,.int .i64 (g k).2.2])=c at *;apply ay<;>intro e
  · simp only[show aB [.ab .nil 0 [],.ab .nil 0 [],.ab .nil 0 [],.int .i64 0] []=some (.agg zI)from rfl,X];refine⟨_,a0.put (n:=4) rfl rfl rfl,(an.aZ (by omega) _).all (n:=2) rfl,_,(W.aZ (by decide) _).put (n:=2) rfl rfl rfl,?_⟩;refine⟨_,((a0.set _).aZ (by decide) _).all (n:=4) rfl,_,((W.aZ (by decide) _).set _).all (n:=2) rfl,?_⟩;exact A k (by omega) (by simpa using e) _
  · have i4:∀id,aG none 1 (.row id 0 L 1) (.int .i64 (k:Nat))=some (.ptr id k):=by
      intro id;simp only[aG];rw[cj];simp
    have l0:Z c 1 false (.ptr 3 0)=some (.row 4 0 L 1):=by rw[a3.load];rfl
    have l1:∀H,At H 3 (.row [.row 4 0 L 1,.row 5 0 L 1,.ab .dead m gc,.int .i64 z])→Z H 1 false (.ptr 3 1)=some (.row 5 0 L 1):=λH a=>by rw[a.load];rfl
    have b3:=a3.aZ (show 3≠4 by decide) (.row (ws.set k (wV (g k))));simp only[l0,l1 c a3,X,i4];have o:∀t n l,One (.ab t n l):=λ_ _ _=>⟨rfl,rfl,rfl⟩
    refine⟨_,a4.st1 (v:=wV (g k)) (by omega) (o _ _ _),l1 _ b3,?_⟩;refine⟨_,(a5.aZ (show 5≠4 by decide) _).st1 (v:=sV (g k)) (by omega) (o _ _ _),?_⟩;simp only[bu,X,wN (show k≤4000000000000000000 by omega)];have u:∀(l:List I)(f:Nat→I),l.length=L→(∀j,j<k→l[j]?=some (f j))→∀j,j<k+1→(l.set k (f k))[j]?=some (f j):=by
     intro l f hl h j w;rw[List.getElem?_set];by_cases e:k=j
     ·subst e;rw[af rfl,cj]
     ·rw[ak e];exact h j (by omega)
    refine D (k+1) _ (ws.set k (wV (g k))) (ts.set k (sV (g k))) (by omega) (by simpa using hw) (by simpa using ht) (u ws (λj=>wV (g j)) hw w1) (u ts (λj=>sV (g j)) ht t1) (λj w=>?_) ((a0.aZ (by decide) _).aZ (by decide) _) ((W.aZ (by decide) _).aZ (by decide) _) ((a3.aZ (by decide) _).aZ (by decide) _) ((a4.set _).aZ (by decide) _) ((a5.aZ (by decide) _).set _);rcases afe.1 w with h|rfl
    ·exact b j h
    ·simpa using e
variable{kw:List UInt8→Bool}(ek:∀x,bC (ai C) 22 [.str x] (.bool (cw x)))
include ek
theorem Yb(a:p.ok)(b:(cV cw p).2≠0):ai C 4 [.agg p.cells] AH.mt λv _=>v=su (cV cw p).1 (cV cw p).2:=by
 refine S.IU hT ?_;unfold S.f4;have b1:∀H,aL H false 2 (.agg p.cells)=some (.aj p.cells,H):=λH=>by unfold aL;rw[af ⟨rfl,rfl⟩];rfl
 have c:∀H,Z H 2 true (.aj p.cells)=some (.agg p.cells):=λ_=>rfl;simp only[b1,aH,aK,aR,c,X];refine BV aq hT ek p a _ _ ?_;unfold xz;have r0:At ((AH.mt.push (.row [.ab .nil 0 [],.ab .nil 0 [],.ab .nil 0 [],.int .i64 0])).push (.row [.int .i64 0,.int .i64 0])) 0 (.row zI):=(At.new AH.mt (.row zI)).push _;have r1:At ((AH.mt.push (.row [.ab .nil 0 [],.ab .nil 0 [],.ab .nil 0 [],.int .i64 0])).push (.row [.int .i64 0,.int .i64 0])) 1 (.row [.int .i64 0,.int .i64 0]):=At.new (AH.mt.push (.row zI)) _;have d:((AH.mt.push (.row [.ab .nil 0 [],.ab .nil 0 [],.ab .nil 0 [],.int .i64 0])).push (.row [.int .i64 0,.int .i64 0])).n=2:=rfl;show Do _ _;change Do (Y (((AH.mt.push (.row [.ab .nil 0 [],.ab .nil 0 [],.ab .nil 0 [],.int .i64 0])).push (.row [.int .i64 0,.int .i64 0])).push _) 2 (.ptr ((AH.mt.push (.row [.ab .nil 0 [],.ab .nil 0 [],.ab .nil 0 [],.int .i64 0])).push (.row [.int .i64 0,.int .i64 0])).n 0) _) _;rw[cC _ _ [.int .i64 (cV cw p).1,.int .i64 (cV cw p).2] 2 rfl rfl rfl];simp only[X,aa,aaK,dS,show bw [I.int .i64 (cV cw p).1,.int .i64 (cV cw p).2] 1 1 false=some (.int .i64 (cV cw p).2)from rfl,show bw [I.int .i64 (cV cw p).1,.int .i64 (cV cw p).2] 0 2 true=some (.agg [.int .i64 (cV cw p).1,.int .i64 (cV cw p).2])from rfl,dc,F];rw[af (by simpa using b)];simp only[show aB [.ab .nil 0 [],.ab .nil 0 [],.ab .nil 0 [],.int .i64 0] []=some (.agg zI)from rfl,X];have an:=At.new ((AH.mt.push (.row [.ab .nil 0 [],.ab .nil 0 [],.ab .nil 0 [],.int .i64 0])).push (.row [.int .i64 0,.int .i64 0])) (.row [.int .i64 (cV cw p).1,.int .i64 (cV cw p).2]);have r0:=r0.push (.row [.int .i64 (cV cw p).1,.int .i64 (cV cw p).2]);have r1:=r1.push (.row [.int .i64 (cV cw p).1,.int .i64 (cV cw p).2]);refine⟨_,r0.put (n:=4) rfl rfl rfl,(an.aZ (by decide) _).all (n:=2) rfl,_,(r1.aZ (by decide) _).put (n:=2) rfl rfl rfl,?_⟩;exact⟨_,((r0.set _).aZ (by decide) _).all (n:=4) rfl,_,((r1.aZ (by decide) _).set _).all (n:=2) rfl,rfl⟩
theorem Yc(w:p.ok)(x:(cV cw p).2=0){g:Nat→jf}(hL:p.bo.length≤8)
  (O:∀n,n<p.bo.length→∀(y P R:I),aU false y=some (.int .i64 (p.bo.length:Nat))→∀(H:AH)(Q:ad),(∀H',KX (λ_=>False) H H'→Q (km (g n).1 (g n).2.1 (g n).2.2) H')→ai C 8 [.agg p.cells,.agg [y,P,R,.int .i64 (dH 0 p.vars)],.int .i64 (n:Nat)] H Q) :
  ai C 4 [.agg p.cells] AH.mt λv _=>(∃n,n<p.bo.length∧(g n).2.2≠0∧v=su 0 (g n).2.2)∨((∀n,n<p.bo.length→(g n).2.2=0)∧v=mS g p.bo.length p.vars.length (c_ p.vars (dI 0 p.vars)) (dH 0 p.vars)):=by
 obtain⟨f,_⟩:=Ly w x;refine S.IU hT ?_;unfold S.f4;have b1:∀H,aL H false 2 (.agg p.cells)=some (.aj p.cells,H):=λH=>by unfold aL;rw[af ⟨rfl,rfl⟩];rfl
 have T:∀H,Z H 2 true (.aj p.cells)=some (.agg p.cells):=λ_=>rfl;have U:∀H,Z H 1 false (.aj (p.cells.drop 0))=some (aQ B.cells p.vars):=λ_=>rfl;have m:∀H,Z H 1 false (.aj (p.cells.drop 1))=some (aQ el p.bo):=λ_=>rfl;simp only[b1,aH,aK,aR,T,X];refine BV aq hT ek p w _ _ ?_;unfold xz;rw[Me x];have r0:At ((AH.mt.push (.row [.ab .nil 0 [],.ab .nil 0 [],.ab .nil 0 [],.int .i64 0])).push (.row [.int .i64 0,.int .i64 0])) 0 (.row zI):=(At.new AH.mt (.row zI)).push _;have r1:At ((AH.mt.push (.row [.ab .nil 0 [],.ab .nil 0 [],.ab .nil 0 [],.int .i64 0])).push (.row [.int .i64 0,.int .i64 0])) 1 (.row [.int .i64 0,.int .i64 0]):=At.new (AH.mt.push (.row zI)) _;have q:((AH.mt.push (.row [.ab .nil 0 [],.ab .nil 0 [],.ab .nil 0 [],.int .i64 0])).push (.row [.int .i64 0,.int .i64 0])).n=2:=rfl;generalize (AH.mt.push (.row [.ab .nil 0 [],.ab .nil 0 [],.ab .nil 0 [],.int .i64 0])).push (.row [.int .i64 0,.int .i64 0])=c at *;rw[cC _ _ _ 2 rfl rfl rfl];have r0:=r0.push (.row [.int .i64 0,.int .i64 0]);have r1:=r1.push (.row [.int .i64 0,.int .i64 0]);have A:(c.push (.row [.int .i64 0,.int .i64 0])).n=3:=by show c.n+1=3;omega
 have V:Z (c.push (.row [.int .i64 0,.int .i64 0])) 1 false (.ptr c.n 1)=some (.int .i64 0):=by rw[dS];rfl
 generalize c.push (.row [.int .i64 0,.int .i64 0])=b at *;simp only[X,aa,aaK,V,dc,F];rw[de];simp only[X,U,m];refine KN aq hT (by have:=f.l;omega) f.o _ _ ?_;have W:=K2 f.z f.e;unfold lh;rw[W,ak (by show ¬(0:Int)≠0;decide),A];have r0:=r0.push (.row zI);have r1:=r1.push (.row zI);have a:At (b.push (.row zI)) 3 (.row zI):=by have:=At.new b (.row zI);rwa [A]at this
 have ac:(b.push (.row zI)).n=4:=by show b.n+1=4;omega
 change Do (aY 0 _) λam=>_;simp only[aY,adV,adW,X,aa,aaK];change Do (Y (b.push (.row zI)) 1 _ _) _;generalize b.push (.row zI)=D at *;have o:∀t n l,One (.ab t n l):=λ_ _ _=>⟨rfl,rfl,rfl⟩
 refine⟨_,a.st1 (k:=2) (by decide) (o _ _ _),?_⟩;have r0:=r0.aZ (show 0≠3 by decide) (.row (zI.set 2 (.ab .dead p.vars.length (c_ p.vars (dI 0 p.vars)))));have r1:=r1.aZ (show 1≠3 by decide) (.row (zI.set 2 (.ab .dead p.vars.length (c_ p.vars (dI 0 p.vars)))));have a:=a.set (.row (zI.set 2 (.ab .dead p.vars.length (c_ p.vars (dI 0 p.vars)))));have ae:(D.set 3 (.row (zI.set 2 (.ab .dead p.vars.length (c_ p.vars (dI 0 p.vars)))))).n=4:=ac;generalize D.set 3 (.row (zI.set 2 (.ab .dead p.vars.length (c_ p.vars (dI 0 p.vars)))))=E at *;refine⟨_,a.st1 (k:=3) (show 3<4 by decide) One.int,?_⟩;have r0:=r0.aZ (show 0≠3 by decide) (.row ((zI.set 2 (.ab .dead p.vars.length (c_ p.vars (dI 0 p.vars)))).set 3 (.int .i64 (dH 0 p.vars))));have r1:=r1.aZ (show 1≠3 by decide) (.row ((zI.set 2 (.ab .dead p.vars.length (c_ p.vars (dI 0 p.vars)))).set 3 (.int .i64 (dH 0 p.vars))));have a:=a.set (.row ((zI.set 2 (.ab .dead p.vars.length (c_ p.vars (dI 0 p.vars)))).set 3 (.int .i64 (dH 0 p.vars))));have G:(E.set 3 (.row ((zI.set 2 (.ab .dead p.vars.length (c_ p.vars (dI 0 p.vars)))).set 3 (.int .i64 (dH 0 p.vars))))).n=4:=ae;generalize E.set 3 (.row ((zI.set 2 (.ab .dead p.vars.length (c_ p.vars (dI 0 p.vars)))).set 3 (.int .i64 (dH 0 p.vars))))=d at *;have mk:∀H:AH,ir H true 1 24 [.ab .nil 0 []] (.int .i64 (p.bo.length:Nat)) (.int .i64 (p.bo.length:Nat))=some (.row H.n 0 p.bo.length 1,H.push (.row (ZU p.bo.length [.ab .nil 0 []]).flatten)):=by intro H;simp only[ir];rw[af ⟨by omega,by omega,by omega,by omega,rfl⟩];simp
 have J:(ZU p.bo.length [I.ab .nil 0 []]).flatten.length=p.bo.length:=by simp
 simp only[m,X,dL,mk,aH];generalize (ZU p.bo.length [I.ab .nil 0 []]).flatten=rs at *;have r4:At (d.push (.row rs)) 4 (.row rs):=by have:=At.new d (.row rs);rwa [G]at this
 have r0:=r0.push (.row rs);have r1:=r1.push (.row rs);have a:=a.push (.row rs);have ag:(d.push (.row rs)).n=5:=by show d.n+1=5;omega
 rw[G];generalize d.push (.row rs)=K at *;have L:∀i o l s,One (.row i o l s):=λ_ _ _ _=>⟨rfl,rfl,rfl⟩
 refine⟨_,a.st1 (k:=0) (show 0<4 by decide) (L _ _ _ _),?_⟩;have r:=a.set (.row (aff ((zI.set 2 (.ab .dead p.vars.length (c_ p.vars (dI 0 p.vars)))).set 3 (.int .i64 (dH 0 p.vars))) 0 (.row 4 0 p.bo.length 1)));have r0:=r0.aZ (show 0≠3 by decide) (.row (aff ((zI.set 2 (.ab .dead p.vars.length (c_ p.vars (dI 0 p.vars)))).set 3 (.int .i64 (dH 0 p.vars))) 0 (.row 4 0 p.bo.length 1)));have r1:=r1.aZ (show 1≠3 by decide) (.row (aff ((zI.set 2 (.ab .dead p.vars.length (c_ p.vars (dI 0 p.vars)))).set 3 (.int .i64 (dH 0 p.vars))) 0 (.row 4 0 p.bo.length 1)));have r4:=r4.aZ (show 4≠3 by decide) (.row (aff ((zI.set 2 (.ab .dead p.vars.length (c_ p.vars (dI 0 p.vars)))).set 3 (.int .i64 (dH 0 p.vars))) 0 (.row 4 0 p.bo.length 1)));have M:(K.set 3 (.row (aff ((zI.set 2 (.ab .dead p.vars.length (c_ p.vars (dI 0 p.vars)))).set 3 (.int .i64 (dH 0 p.vars))) 0 (.row 4 0 p.bo.length 1)))).n=5:=ag;generalize K.set 3 (.row (aff ((zI.set 2 (.ab .dead p.vars.length (c_ p.vars (dI 0 p.vars)))).set 3 (.int .i64 (dH 0 p.vars))) 0 (.row 4 0 p.bo.length 1)))=u at *;simp only[m,X,dL,mk,aH];have ah:At (u.push (.row rs)) 5 (.row rs):=by have:=At.new u (.row rs);rwa [M]at this
 have r0:=r0.push (.row rs);have r1:=r1.push (.row rs);have r:=r.push (.row rs);have r4:=r4.push (.row rs);rw[M];generalize u.push (.row rs)=an at *;refine⟨_,r.st1 (k:=1) (show 1<4 by decide) (L _ _ _ _),?_⟩;simp only[m,X,dL];refine Ya aq hT hL (λn q H Q al=>O n q _ _ _ rfl H Q al) (λh H'=> .inr ⟨h,rfl⟩) (λn q h H'=> .inl ⟨n,q,h,rfl⟩) p.bo.length 0 _ rs rs (by omega) J J (λj N=>by omega) (λj N=>by omega) (λj N=>by omega) (r0.aZ (by decide) _) (r1.aZ (by decide) _) (r.set _) (r4.aZ (by decide) _) (ah.aZ (by decide) _)
end
end Rb

namespace Rb
open Go
variable{p:cH}{L j m:Nat}{H:AH}{Q:ad}{g:jf}{gc:List I}{z:Int}
theorem x8{f:Nat→I}{L i:Nat}(h:i<L):∃q,aG none 1 (.ab .dead L ((aaO L).map f)) (.int .i64 (i:Nat))=some q∧∀H,Z H 1 false q=some (f i):=by
 refine⟨.aj (((aaO L).map f).drop (i*1)),?_,λH=>?_⟩
 · simp only[aG];rw[cj];rfl
 · simp only[Z,bw,aeB];rw[e5];simp[h]
theorem Yd(h:j<g.1.length):∃q x,aG none 1 (wV g) (.int .i64 (j:Nat))=some q∧∀H,Z H 1 false q=some (.int .u32 x):=by
 refine⟨.aj ((UV g.1).drop (j*1)),g.1[j],?_,λH=>?_⟩
 · simp only[wV,aG];rw[cj];rfl
 · simp only[Z,bw,aeB,UV];rw[e5];simp[h]
theorem Ye(a:∀i∈g.2.1,i.length=3)(h:j<g.2.1.length):∃q s,s.length=3∧aG none 3 (sV g) (.int .i64 (j:Nat))=some q∧∀H,Z H 3 true q=some (.agg (IV s)):=by
 have fl:=CV a;refine⟨.aj ((g.2.1.flatMap IV).drop (j*3)),g.2.1[j],a _ (aaX h),?_,λH=>?_⟩
 · simp only[sV,aG];rw[cj];rfl
 · simp only[Z,bw,adx];rw[CU a (aaQ h),af (by rw[adK,fl];omega)];rfl
section
variable{C:Ctx}(aq:bT C)(hT:Cl (ai C) S.ba)
include aq hT
theorem Yf{g:Nat→jf}(hL:L≤8)(l:∀n,n<L→((g n).1.length=(g n).2.1.length∧(g n).1.length≤900000)∧∀i∈(g n).2.1,i.length=3){a b:Nat}(a8:At H a (.row (jg g L m gc z)))(e:At H b (.row (jg g (L+1) m gc z)))(o:Q (.bool true) H):S.z6 (ai C) (.ptr a 0) (.ptr b 0) Q [] H:=by
 simp only[S.z6];have l0:Z H 1 false (.ptr a 0)=some (.ab .dead L ((aaO L).map λj=>wV (g j))):=by rw[a8.load];rfl
 have l1:Z H 1 false (.ptr a 1)=some (.ab .dead L ((aaO L).map λj=>sV (g j))):=by rw[a8.load];rfl
 have m0:Z H 1 false (.ptr b 0)=some (.ab .dead (L+1) ((aaO (L+1)).map λj=>wV (g j))):=by rw[e.load];rfl
 have m1:Z H 1 false (.ptr b 1)=some (.ab .dead (L+1) ((aaO (L+1)).map λj=>sV (g j))):=by rw[e.load];rfl
 have main:∀(d k:Nat),k+d=L→av (S.qQ (ai C) (.ptr a 0) (.ptr b 0) Q) ([.int .i64 (k:Nat)],H):=by
  intro d;induction d with
  | zero=>intro k hk;refine av.step ?_;simp only[S.qQ,ax,aa,aaK,l0,X,fQ,aS,F];rw[eT];exact o
  | succ d p=>
   intro k hk;have c:k<L:=by omega
   obtain⟨A,e1,f1⟩:=x8 (f:=λj=>wV (g j)) c;obtain⟨B,h,f2⟩:=x8 (f:=λj=>wV (g j)) (show k<L+1 by omega);obtain⟨D,q,f3⟩:=x8 (f:=λj=>sV (g j)) c;obtain⟨E,r,f4⟩:=x8 (f:=λj=>sV (g j)) (show k<L+1 by omega);obtain⟨⟨hlen,hw⟩,t⟩:=l k c;have al:aU false (wV (g k))=some (.int .i64 ((g k).1.length:Nat)):=rfl;refine av.step ?_;simp only[S.qQ,ax,aa,aaK,l0,m0,X,fQ,aS,F,e1,h,f1,f2,al,dc,bne_self_eq_false];rw[eH,de];have inner:∀(d j:Nat),j+d=(g k).1.length→av (S.uf (ai C) (.ptr a 0) (.ptr b 0) ([.int .i64 (k:Nat)],H) (av (S.qQ (ai C) (.ptr a 0) (.ptr b 0) Q)) Q) ([.int .i64 (j:Nat)],H):=by
    intro d;induction d with
    | zero=>intro j u;refine av.step ?_;simp only[S.uf,ax,aa,aaK,l0,X,e1,f1,al,aS,F,aC];rw[eT];simp only[S.E6,ax,bu,X,wN (show k≤4000000000000000000 by omega)];exact p (k+1) (by omega)
    | succ d v=>
     intro j u;obtain⟨r1,x,g1,w⟩:=Yd (g:=g k) (show j<(g k).1.length by omega);obtain⟨G,s,hs,g2,y⟩:=Ye t (show j<(g k).2.1.length by omega);have eq:iO true [.n,.n,.n] (.agg (IV s)) (.agg (IV s))=some (.bool false):=by have:=Be 3 s s hs hs;simp only[iO];rw[show([.n,.n,.n]:List FK)=ZU 3 .n from rfl,this];simp
     refine av.step ?_;simp only[S.uf,ax,aa,aaK,l0,l1,m0,m1,X,e1,f1,h,f2,q,f3,r,f4,al,aS,F,aC,g1,w,g2,y,dc,bne_self_eq_false,cy,eq];rw[eH,af trivial];simp only[S.z1,S.E5,ax,F,aC,bu,X,wN (show j≤4000000000000000000 by omega)];rw[de];exact v (j+1) (by omega)
   exact inner (g k).1.length 0 (by omega)
 exact main L 0 (by omega)
variable(jR:bC (ai C) 5 [] (.bool true))
include jR
theorem sv{cs:List I}{l k:Int}(c:cs.length=4)(d:cs.all I.scalar=true)(f:bC (ai C) 4 [.agg p.cells] (.ar [.agg cs,.agg [.int .i64 l,.int .i64 k]])){H:AH}(b:∀H',Q (.bool true) H')
  (g:k=0→p.bo.length<8→∀H1 i8,At H1 i8 (.row cs)→S.ug (ai C) (.aj p.cells) (.ptr i8 0) Q [] H1):ai C 3 [.agg p.cells] H Q:=by
 refine S.Qn hT ?_;unfold S.f3;have b1:aL H false 2 (.agg p.cells)=some (.aj p.cells,H):=by unfold aL;rw[af ⟨rfl,rfl⟩];rfl
 have h:∀H,Z H 2 true (.aj p.cells)=some (.agg p.cells):=λ_=>rfl;have i:∀H,Z H 1 false (.aj (p.cells.drop 1))=some (aQ el p.bo):=λ_=>rfl;simp only[b1,aH,h,X];refine f _ _ ?_;simp only[aY,adV,adW,X,aK,aR,aH];have r0:=(At.new H (.row [.ab .nil 0 [],.ab .nil 0 [],.ab .nil 0 [],.int .i64 0])).push (.row [.int .i64 0,.int .i64 0]);have r1:=At.new (H.push (.row [.ab .nil 0 [],.ab .nil 0 [],.ab .nil 0 [],.int .i64 0])) (.row [.int .i64 0,.int .i64 0]);have a:H.n≠(H.push (.row [.ab .nil 0 [],.ab .nil 0 [],.ab .nil 0 [],.int .i64 0])).n:=by show H.n≠H.n+1;omega
 refine⟨_,r0.put (n:=4) rfl c d,_,(r1.aZ a.symm _).put (n:=2) rfl rfl rfl,?_⟩;have j:=(r0.set (.row cs)).aZ a (.row [.int .i64 l,.int .i64 k]);have c1:=(r1.aZ a.symm (.row cs)).set (.row [.int .i64 l,.int .i64 k]);generalize AH.set _ _ _=H2 at *;refine jR _ _ ?_;simp only[eg,ad2,X,cy,aR,aa,aaK,c1.load,show bw [I.int .i64 l,.int .i64 k] 1 1 false=some (.int .i64 k)from rfl,dc,aC];by_cases hk:k=0
 · rw[show(k != 0)=false by simpa using hk];simp only[S.ui,ax,cy,aR,aa,aaK,i,X,dL,eQ,aC,S.uh,F];refine ay (λ_=>jR _ _ (b _)) (λe=>?_);have m:¬((p.bo.length:Int)≥8):=by simpa using e
   exact g hk (by omega) _ _ j
 · rw[show(k != 0)=true by simpa using hk];simp only[S.ui,ax,cy,Bool.true_eq_false,bz,aC,S.uh,F,aR];exact jR _ _ (b _)
theorem Yg{g:Nat→jf}{L m:Nat}{gc:List I}{z:Int}(u:p.bo.length=L)(v:1≤L)(hL:L<8)(k:∀n,n<L→((g n).1.length=(g n).2.1.length∧(g n).1.length≤900000)∧∀i∈(g n).2.1,i.length=3)
  (v2:bC (ai C) 4 [.agg (cH.mk p.vars (p.bo++[[]])).cells] (mS g (L+1) m gc z)) {Q:ad} (l:∀H',Q (.bool true) H') {H1:AH} {i8:Nat} (a8:At H1 i8 (.row (jg g L m gc z))):S.ug (ai C) (.aj p.cells) (.ptr i8 0) Q [] H1:=by
 have o:∀H,Z H 1 false (.aj (p.cells.drop 0))=some (aQ B.cells p.vars):=λ_=>rfl;have q:∀H,Z H 1 false (.aj (p.cells.drop 1))=some (aQ el p.bo):=λ_=>rfl;have s0:∀H,b8 H false 1 0 [.ab .nil 0 []] []=some (.ab .full 0 [],H):=λ_=>rfl;have s1:∀H,b8 H false 1 1 [.ab .nil 0 []] [(0,1,.ab .nil 0 [])]=some (.ab .full 1 [.ab .nil 0 []],H):=λ_=>rfl;simp only[S.ug,aa,o,q,X,s0,s1,aH];have d:∀ts:List (List U),(ts.flatMap el).length=ts.length∧(ts.flatMap el).all I.scalar=true:=by
  intro ts;induction ts with
  |nil=>exact⟨rfl,rfl⟩
  | cons x r b=>rw[adn];exact⟨by rw[adD,b.1,ael];simp only[el,ael,aem];omega,by rw[List.all_append,b.2];rfl⟩
 refine cd.app (n0:=0) (x:= .ab .full 0 []) (cells:=[]) (len:=0) (m:=p.bo.length) (news:=p.bo.flatMap el) ⟨.full,rfl,rfl,.inr (.inl rfl)⟩ (aav _) ?_ (by rw[(d _).1];omega) (d _).2 (by omega) (by omega) (by omega) λw H2 o1 k1=>⟨trivial,?_⟩
 · simp only[aQ,dQ];rw[af (by rw[(d _).1];omega)]
 refine cd.app (m:=1) (news:=[.ab .nil 0 []]) o1 (aav _) rfl rfl rfl (by decide) (by omega) (by omega) λy a o2 k2=>⟨trivial,?_⟩
 obtain⟨tk,rfl,_⟩:=o2;have a8:=k2.row (k1.row a8);have gN:aB [.ab .nil 0 [],.ab .nil 0 []] [(0,1,aQ B.cells p.vars),(1,1,.ab tk (0+p.bo.length+1) ([]++p.bo.flatMap el++[.ab .nil 0 []]))]=some (.agg [aQ B.cells p.vars,.ab tk (0+p.bo.length+1) ([]++p.bo.flatMap el++[.ab .nil 0 []])]):=rfl;rw[gN];simp only[X];refine ai.tZ ?_;have s:∀ts:List (List U),I.ch (ts.flatMap el)=ts.flatMap el:=by
  intro ts;induction ts with
  |nil=>rfl
  |cons x r b=>rw[adn,i_,Kw,b]
 have t:I.ch (p.vars.flatMap B.cells)=p.vars.flatMap B.cells:=by have:=pT B.fW p.vars;simp only[aQ,I.cB]at this;exact(I.ab.inj this).2.2
 have wk:I.ch [.agg [aQ B.cells p.vars,.ab tk (0+p.bo.length+1) ([]++p.bo.flatMap el++[.ab .nil 0 []])]]=[.agg (cH.mk p.vars (p.bo++[[]])).cells]:=by simp only[I.ch,I.cB,t,aeH,i_,s,cH.cells,aQ,aeK,adn,afd,adJ,el,adD,ael,aem,aaK]
 rw[wk];refine v2 _ _ ?_;unfold mS;simp only[aY,adV,adW,X,aK,aR,aH];refine⟨trivial,trivial,trivial,trivial,?_⟩;have r0:=(At.new a (.row [.ab .nil 0 [],.ab .nil 0 [],.ab .nil 0 [],.int .i64 0])).push (.row [.int .i64 0,.int .i64 0]);have r1:=At.new (a.push (.row [.ab .nil 0 [],.ab .nil 0 [],.ab .nil 0 [],.int .i64 0])) (.row [.int .i64 0,.int .i64 0]);have e:a.n≠(a.push (.row [.ab .nil 0 [],.ab .nil 0 [],.ab .nil 0 [],.int .i64 0])).n:=by show a.n≠a.n+1;omega
 have A:=a8.1;have d8:=(a8.push (.row [.ab .nil 0 [],.ab .nil 0 [],.ab .nil 0 [],.int .i64 0])).push (.row [.int .i64 0,.int .i64 0]);refine⟨_,r0.put (n:=4) rfl rfl rfl,_,(r1.aZ e.symm _).put (n:=2) rfl rfl rfl,?_⟩;have f:=(r0.set (.row (jg g (L+1) m gc z))).aZ e (.row [.int .i64 0,.int .i64 0]);have c1:=(r1.aZ e.symm (.row (jg g (L+1) m gc z))).set (.row [.int .i64 0,.int .i64 0]);have h:=(d8.aZ (show i8≠a.n by omega) (.row (jg g (L+1) m gc z))).aZ (show i8≠(a.push (.row [.ab .nil 0 [],.ab .nil 0 [],.ab .nil 0 [],.int .i64 0])).n by show i8≠a.n+1;omega) (.row [.int .i64 0,.int .i64 0]);generalize AH.set _ _ _=c at *;have l0:Z c 1 false (.ptr i8 0)=some (.ab .dead L ((aaO L).map λj=>wV (g j))):=by rw[h.load];rfl
 have l3:Z c 1 false (.ptr i8 3)=some (.int .i64 z):=by rw[h.load];rfl
 have m0:Z c 1 false (.ptr a.n 0)=some (.ab .dead (L+1) ((aaO (L+1)).map λj=>wV (g j))):=by rw[f.load];rfl
 have m3:Z c 1 false (.ptr a.n 3)=some (.int .i64 z):=by rw[f.load];rfl
 simp only[aaK,c1.load,show bw [I.int .i64 0,.int .i64 0] 1 1 false=some (.int .i64 0)from rfl,X,dc,cy,bne_self_eq_false,aR,l0,m0,fQ,bu,wN (show L≤4000000000000000000 by omega),aC,S.z8,S.z7,ax,aa,l3,m3,F];rw[de];exact Yf aq hT (by omega) k h f (l _)
variable(ek:∀x,bC (ai C) 22 [.str x] (.bool (cw x)))(hS:p3 (ai C))
include ek hS
theorem Mu(c:p.ok)(j:(cV cw p).2=0)(m:∀t∈p.bo,cf t≤100000000000):∃g:Nat→jf,∀n t,p.bo[n]?=some t→((g n).1.length=(g n).2.1.length∧(g n).1.length≤900000)∧(∀i∈(g n).2.1,i.length=3)∧(t=[]→(g n).2.2=0) ∧
  ∀ (a:cH),a.ok→(cV cw a).2=0→a.vars=p.vars→a.bo[n]?=some t→∀(b d f:I)(len:Nat),aU false b=some (.int .i64 (len:Nat))→n<len →
   ∀(H:AH)(Q:ad),(∀H',KX (λ_=>False) H H'→Q (km (g n).1 (g n).2.1 (g n).2.2) H')→ai C 8 [.agg a.cells,.agg [b,d,f,.int .i64 (dH 0 p.vars)],.int .i64 (n:Nat)] H Q:=by
 obtain⟨h,q⟩:=Ly c j;refine afg (r:=λn (x:jf)=>∀t,p.bo[n]?=some t→(x.1.length=x.2.1.length∧x.1.length≤900000)∧(∀i∈x.2.1,i.length=3)∧(t=[]→x.2.2=0) ∧
   ∀ (a:cH),a.ok→(cV cw a).2=0→a.vars=p.vars→a.bo[n]?=some t→∀(b d f:I)(len:Nat),aU false b=some (.int .i64 (len:Nat))→n<len →
    ∀(H:AH)(Q:ad),(∀H',KX (λ_=>False) H H'→Q (km x.1 x.2.1 x.2.2) H')→ai C 8 [.agg a.cells,.agg [b,d,f,.int .i64 (dH 0 p.vars)],.int .i64 (n:Nat)] H Q) λn=>?_
 cases ht:p.bo[n]? with
 |none=>exact⟨([],[],0),λt e=>by cases e⟩
 | some t=>have hm:=acN ht;obtain⟨W,T,k,e1,s,u,v⟩:=X8 aq hT ek hS h.l h.o h (c.2.2 t hm).1 (c.2.2 t hm).2 (q t hm) (m t hm) n (dH 0 p.vars);refine⟨(W,T,k),λt' e=>?_⟩;cases e;exact⟨e1,s,u,v⟩
theorem Yh(d:p.ok)(x:∀t∈p.bo,cf t≤100000000000)(f:∀H',Q (.bool true) H'):ai C 3 [.agg p.cells] H Q:=by
 have A:I.bF [.agg p.cells]=true:=by simp[I.bF,I.bh,cH.bh]
 by_cases c:(cV cw p).2=0
 case neg=>obtain⟨v,rfl,v1⟩:=ss aq (G:=λv=>v=su (cV cw p).1 (cV cw p).2) A (λv e=>by subst e;rfl) (Yb aq hT ek d c);exact sv aq hT jR rfl rfl v1 f λe=>absurd e c
 have hL:1≤p.bo.length∧p.bo.length≤8∧p.vars.length≤32:=by
  unfold cV at c;split at c
  ·cases c
  ·omega
 have B:I.bF (c_ p.vars (dI 0 p.vars))=true:=B8 _ _;have l:∀{p2:cH}{g:Nat→jf},p2.ok→(cV cw p2).2=0→p2.bo.length≤8→p2.vars=p.vars→(∀n t,p2.bo[n]?=some t→∀(k m o:I)(len:Nat),aU false k=some (.int .i64 (len:Nat))→n<len →
     ∀(H:AH)(Q:ad),(∀H',KX (λ_=>False) H H'→Q (km (g n).1 (g n).2.1 (g n).2.2) H')→ai C 8 [.agg p2.cells,.agg [k,m,o,.int .i64 (dH 0 p.vars)],.int .i64 (n:Nat)] H Q) →
     ∃v,((∃n,n<p2.bo.length∧(g n).2.2≠0∧v=su 0 (g n).2.2)∨((∀n,n<p2.bo.length→(g n).2.2=0)∧v=mS g p2.bo.length p.vars.length (c_ p.vars (dI 0 p.vars)) (dH 0 p.vars)))∧bC (ai C) 4 [.agg p2.cells] v:=by
   intro p2 g h1 D E y F;refine ss aq (by simp[I.bF,I.bh,cH.bh]) (λv e=>?_) (wM C _ _ _ _ _ (λa b e=>?_) (Yc aq hT ek h1 D (g:=g) E λn i k m o hl H Q f=>?_))
   · rcases e with⟨n,_,_,rfl⟩|⟨_,rfl⟩
     ·rfl
     ·exact X_ _ _ _ B _
   ·rw[y]at e;exact e
   · rw[y];exact F n _ (aaQ i) k m o _ hl i H Q f
 by_cases z:p.bo.length<8
 case neg=>
  obtain⟨g,j⟩:=Mu aq hT jR ek hS d c x;obtain⟨v,e,v1⟩:=l (g:=g) d c hL.2.1 rfl λn t ht=>(j n t ht).2.2.2 p d c rfl ht;rcases e with⟨n,_,hk,rfl⟩|⟨_,rfl⟩
  ·exact sv aq hT jR rfl rfl v1 f λe=>absurd e hk
  ·exact sv aq hT jR rfl rfl v1 f λ_ e=>absurd e z
 have u:(cH.mk p.vars (p.bo++[[]])).ok:=by
  refine⟨d.1,?_,λt ht=>?_⟩
  · show(p.bo++[[]]).length≤maxLen;have:=mL;rw[adD,aez];omega
  · rcases ace.1 ht with h|h
    ·exact d.2.2 t h
    · rw[aeO.1 h];exact⟨aav _,λs hs=>by cases hs⟩
 have w:(cV cw ⟨p.vars,p.bo++[[]]⟩).2=0:=by
  obtain⟨_,R,_⟩:=K9 cw c;have J:(fV cw p.vars p.bo).2=0:=by have:=c;unfold cV at this;rwa [bM,bM]at this
  unfold cV;rw[ak (by show ¬(32<p.vars.length∨(p.bo++[[]]).length<1∨8<(p.bo++[[]]).length);rw[adD,aez];omega)];show(if jI cw p.vars≠0 then((0:Int),jI cw p.vars)else fV cw p.vars (p.bo++[[]])).2=0;rw[bM];have nl:(gH p.vars cw s0 1 []).bG=0:=rfl;have:∀ts:List (List U),(fV cw p.vars ts).2=0→(fV cw p.vars (ts++[[]])).2=0:=by
   intro ts;induction ts with
   |nil=>intro _;rw[aeH,fV,ak (by rw[nl];decide),fV]
   | cons t r K=>
    intro h;rw[List.cons_append,fV];rw[fV]at h;split at h
    ·rename_i e;exact absurd h e
    ·rename_i e;rw[ak e];exact K h
  exact this _ J
 obtain ⟨g,j⟩:=Mu aq hT jR ek hS u w (λt ht=>by
   rcases ace.1 ht with h|h
   ·exact x t h
   ·rw[aeO.1 h,show cf []=0 from by rw[cf]];omega)
 have ext:∀n t,p.bo[n]?=some t→(p.bo++[[]])[n]?=some t:=λn t h=>by rw[List.getElem?_append_left (ZX.1 h).1];exact h
 obtain⟨v,e,v1⟩:=l (g:=g) d c hL.2.1 rfl λn t ht=>(j n t (ext n t ht)).2.2.2 p d c rfl ht;rcases e with⟨n,_,hk,rfl⟩|⟨L,rfl⟩
 ·exact sv aq hT jR rfl rfl v1 f λe=>absurd e hk
 have M:(p.bo++[[]]).length=p.bo.length+1:=by rw[adD,aez]
 obtain⟨v2,e,N⟩:=l (g:=g) u w (by show(p.bo++[[]]).length≤8;omega) rfl λn t ht=>(j n t ht).2.2.2 _ u w rfl ht;rcases e with⟨n,i,hk,rfl⟩|⟨_,rfl⟩
 · refine absurd ?_ hk;by_cases q:n<p.bo.length
   ·exact L n q
   · have S:n<(p.bo++[[]]).length:=i;have O:n=p.bo.length:=by omega
     subst O;exact(j p.bo.length [] (by show(p.bo++[[]])[p.bo.length]?=some [];rw[abC (np _),aeJ];rfl)).2.2.1 rfl
 · refine sv aq hT jR rfl rfl v1 f λ_ _ H1 i8 a8=>?_;have P:bC (ai C) 4 [.agg (cH.mk p.vars (p.bo++[[]])).cells] (mS g (p.bo.length+1) p.vars.length (c_ p.vars (dI 0 p.vars)) (dH 0 p.vars)):=by
    rw[←M];exact N
   exact Yg aq hT jR rfl hL.1 z (λn i=>⟨(j n _ (ext n _ (aaQ i))).1,(j n _ (ext n _ (aaQ i))).2.1⟩) P f a8
end
end Rb

namespace Rb
open Go Go.RowKit
section
variable{H:Type}{enc:TypeId×Value→H}{P:Program}{w:World}{sp:Nat→Bool}{held:Bool}{F:cJ}{G:bj}
end
end Rb

namespace Rb
open Go Go.RowKit
section
variable{H:Type}{enc:TypeId×Value→H}{P:Program}{w:World}{sp:Nat→Bool}{held:Bool}{F:cJ}
def cH.pj(p:cH):Prop:=p.ok∧p.bo.length≤140737488355328∧∀t∈p.bo,t.length≤140737488355328
end
end Rb

namespace Rb
open Go
mutual
theorem Yi:∀e:aA,rR e≤cX e.cells
 | .mk kind n E op aW place bp=>by have h1:=Yj place;have a:=x9 bp;simp only[rR,aA.cells,cX,iV,lM];omega
theorem x9:∀l:List aA,lk l≤cX (aA.all l)
 |[]=>by simp[lk,aA.all,cX]
 | e::r=>by have h1:=Yi e;have a:=x9 r;simp only[lk,aA.all,lM];omega
theorem Yj:∀x:aX,mN x≤cX x.cells
 | .mk var bf=>by have h1:=CX bf;simp only[mN,aX.cells,cX,iV];omega
theorem CX:∀l:List aV,mO l≤cX (aV.all l)
 |[]=>by simp[mO,aV.all,cX]
 | e::r=>by have h1:=Yk e;have a:=CX r;simp only[mO,aV.all,lM];omega
theorem Yk:∀x:aV,rS x≤cX x.cells
 | .mk field bB=>by have h1:=x9 bB;simp only[rS,aV.cells,cX,iV];omega
end
theorem Yl(x:aX):mN x+2≤cX x.cells:=by
 cases x with
 | mk var bf=>have h1:=CX bf;simp only[mN,aX.cells,cX,iV];omega
mutual
theorem Ym:∀x:U,rU x≤cX x.cells
 | .mk kind V E cq aW place bc be bA=>by have h1:=Yl place;have a:=x9 bc;have b:=x_ be;have c:=x_ bA;rw[aA.all_eq]at a;simp only[rU,U.cells,aQ,cX,iV,lM];omega
theorem x_:∀l:List U,ll l≤cX (U.all l)
 |[]=>by simp[ll,U.all,cX]
 | e::r=>by have h1:=Ym e;have a:=x_ r;simp only[ll,U.all,lM];omega
end
theorem Mv{α:Type}{cells:α→List I}{x:α}:∀{l:List α},x∈l→cX (cells x)≤cX (l.flatMap cells)
 | y :: r,h=>by
  rw[adn,lM];rcases acm.1 h with e|e
  ·rw[e];omega
  · have:=Mv (cells:=cells) e;omega
theorem Yn{p:cH}{t:List U}(h:t∈p.bo):ll t≤cX p.cells:=by have h1:=x_ t;have a:=Mv (cells:=el) h;rw[U.all_eq]at h1;simp only[cH.cells,aQ,cX,iV]at a ⊢;simp only[el,aQ,cX,iV]at a;omega
end Rb

namespace Rb
open Go
mutual
theorem Yo:∀e:aA,dt e≤272*rR e
 | .mk kind n E op aW place bp=>by have h1:=Mw place;have a:=ya bp;rw[dt,rR];split<;>omega
theorem ya:∀l:List aA,di l≤272*lk l
 |[]=>by rw[di,lk];omega
 | e::r=>by have h1:=Yo e;have a:=ya r;rw[di,lk];omega
theorem Mw:∀x:aX,e_ x≤272*mN x
 | .mk var bf=>by have h1:=My bf;rw[e_,mN];omega
theorem My:∀l:List aV,fX l≤272*mO l
 |[]=>by rw[fX,mO];omega
 | e::r=>by have h1:=Yp e;have a:=My r;rw[fX,mO];omega
theorem Yp:∀x:aV,l6 x≤272*rS x
 | .mk field bB=>by have h1:=ya bB;rw[l6,rS];omega
end
mutual
theorem Yq:∀x:U,jL x≤272*rU x
 | .mk kind V E cq aW place bc be bA=>by have h1:=Mw place;have a:=ya bc;have b:=yb be;have c:=yb bA;rw[jL,rU];split<;>omega
theorem yb:∀l:List U,cf l≤272*ll l
 |[]=>by rw[cf,ll];omega
 | e::r=>by have h1:=Yq e;have a:=yb r;rw[cf,ll];omega
end
theorem Yr{p:cH}(a:cX p.cells≤1048576):∀t∈p.bo,cf t≤100000000000:=λt ht=>by have h1:=Yn ht;have b:=yb t;omega
end Rb

namespace Go.Proofs.YtbomedgnnklgbaaGreatDoor.rb
open Rb
theorem Ys:forced (kV (mA []) [(58,[.str rX],.ab .dead 34 (lZ.map .str))])=true:=by kernel_rfl
theorem Yt:gz (b7 C) (fP [(58,[.str rX],.ab .dead 34 (lZ.map .str))]):=mz kW (nE qK) qK (N:=[(58,[.str rX],.ab .dead 34 (lZ.map .str))]) (c4 Ys)
theorem Yu(x:List UInt8):bC (ai C) 22 [.str x] (.bool (cw x)):=Wm kW A4 (λH Q a=>⟨_,_,a,Yt 58 [.str rX] (.ab .dead 34 (lZ.map .str)) (by kernel_rfl) H _ ⟨rfl,rfl⟩⟩) x
theorem Yv:bC (ai C) 5 [] (.bool true):=λH Q a=>⟨_,_,a,Qh 5 [] (.bool true) rfl H _ ⟨rfl,rfl⟩⟩
theorem imageMore.any(p:cH)(c:p.ok)(d:cX p.cells≤1048576):b7 C 3 [.agg p.cells] AH.mt (λv _=>v = .bool true):=by obtain⟨v,H,q,h⟩:=Yh (H:=AH.mt) (Q:=λv _=>v = .bool true) kW A4 Yv Yu Xx c (Yr d) λ_=>rfl;exact mi C _ _ _ _ _ (λa b e=>by rw[e.1];exact q) h
end Go.Proofs.YtbomedgnnklgbaaGreatDoor.rb

namespace Go.Proofs.YtbomedgnnklgbaaGreatDoor.rb
open Rb Go.ChangeShapes Go.WideShapes Go.ChangeAt Go.RowKit
variable{W:World}
theorem own:ownKnob Tryz.prog.godebug=none:=by kernel_rfl
theorem laidOut:laidOutB Tryz.prog=true:=by kernel_rfl
theorem Mz:Tryz.prog.cellsOf 5=1:=by kernel_rfl
def mc:List (String×DataW Unit):=Rows.imageMoreRow.laid
theorem CY : Tryz.prog.globalNamed "strings.asciiSpace" = some 0 := by kernel_rfl
theorem Yw:(Tryz.prog.globals[0]?).map (·.type)=some 211:=by kernel_rfl
theorem Yx:Tryz.prog.cellsOf 211=256:=by kernel_rfl
theorem Yy:(Rows.laid_strings_asciiSpace:DataW Unit)=afh .u8 Go.Lib.asciiSpaceTab:=by kernel_rfl
theorem Yz : (("strings.asciiSpace", Go.Lib.tabData .u8 Go.Lib.asciiSpaceTab) : String × DataW Unit) ∈ mc := by
 rw[←Yy];exact .tail _ (.tail _ (.tail _ (.tail _ (.tail _ (.tail _ (.head _))))))
set_option maxRecDepth 100000 in
theorem MA(h : laidMet Tryz.prog mc W) : Go.Lib.TabIs Tryz.prog W "strings.asciiSpace" .u8 Go.Lib.asciiSpaceTab := by
 obtain⟨g',t',cs,fuel,p,a,b,c,d⟩:=Go.Lib.laidMet.reads h Yz;obtain rfl:=aad.inj (CY.symm.trans a);obtain rfl:=aad.inj (Yw.symm.trans b);unfold afi;rw[c,←afj Tryz.underlying211 Tryz.underlying5 Mz Yx d]
theorem CZ : Tryz.prog.globalNamed "internal/strconv.uint64pow10" = some 5 := by kernel_rfl
theorem YA:(Tryz.prog.globals[5]?).map (·.type)=some 364:=by kernel_rfl
theorem YB:Tryz.prog.cellsOf 364=20:=by kernel_rfl
theorem YC:(Rows.laid_internal_strconv_uint64pow10:DataW Unit)=afh .u64 qN:=by kernel_rfl
theorem YD : (("internal/strconv.uint64pow10", Go.Lib.tabData .u64 qN) : String × DataW Unit) ∈ mc := by
 rw[←YC];exact .tail _ (.tail _ (.head _))
set_option maxRecDepth 100000 in
theorem MB(h : laidMet Tryz.prog mc W) : Go.Lib.TabIs Tryz.prog W "internal/strconv.uint64pow10" .u64 qN := by
 obtain⟨g',t',cs,fuel,p,a,b,c,d⟩:=Go.Lib.laidMet.reads h YD;obtain rfl:=aad.inj (CZ.symm.trans a);obtain rfl:=aad.inj (YA.symm.trans b);unfold afi;rw[c,←afj Tryz.underlying364 Tryz.underlying12 (by kernel_rfl) YB d]
theorem C0 : Tryz.prog.globalNamed "math/bits.deBruijn64tab" = some 7 := by kernel_rfl
theorem YE:(Tryz.prog.globals[7]?).map (·.type)=some 367:=by kernel_rfl
theorem YF:Tryz.prog.cellsOf 367=64:=by kernel_rfl
theorem YG:(Rows.laid_math_bits_deBruijn64tab:DataW Unit)=afh .u8 qn:=by kernel_rfl
theorem YH : (("math/bits.deBruijn64tab", Go.Lib.tabData .u8 qn) : String × DataW Unit) ∈ mc := by
 rw[←YG];exact .tail _ (.head _)
set_option maxRecDepth 100000 in
theorem MC(h : laidMet Tryz.prog mc W) : Go.Lib.TabIs Tryz.prog W "math/bits.deBruijn64tab" .u8 qn := by
 obtain⟨g',t',cs,fuel,p,a,b,c,d⟩:=Go.Lib.laidMet.reads h YH;obtain rfl:=aad.inj (C0.symm.trans a);obtain rfl:=aad.inj (YE.symm.trans b);unfold afi;rw[c,←afj Tryz.underlying367 Tryz.underlying5 Mz YF d]
theorem YI(h:laidMet Tryz.prog mc W):iv C W (bj.mt (kY W)):=by
 intro g l a;change gt g=some l at a;unfold gt at a;split at a
 · rename_i e;subst e;cases a;rw[S5];exact A5 λi hi=>(MA h).cell CY i hi
 · split at a
   · rename_i e;subst e;cases a;rw[(show EY=qN.map (I.int .u64)from rfl)];exact A5 λi hi=>(MB h).cell CZ i hi
   · split at a
     · rename_i e;subst e;cases a;rw[(show DT=qn.map (I.int .u8)from rfl)];exact A5 λi hi=>(MC h).cell C0 i hi
     ·cases a
theorem nk(h:laidMet Tryz.prog mc W):dN C W (bj.mt (kY W)) AH.mt:=by
 refine⟨YI h,λg l a _=>⟨?_,λi hi=>by cases hi⟩⟩;change gt g=some l at a;unfold gt at a;split at a
 · rename_i e;subst e;cases a;obtain⟨cs,t,fr,h1,b⟩:=A6 CY (MA h);exact⟨cs,t,fr,h1,b.trans (by kernel_rfl)⟩
 · split at a
   · rename_i e;subst e;cases a;obtain⟨cs,t,fr,h1,b⟩:=A6 CZ (MB h);exact⟨cs,t,fr,h1,b.trans (by kernel_rfl)⟩
   · split at a
     · rename_i e;subst e;cases a;obtain⟨cs,t,fr,h1,b⟩:=A6 C0 (MC h);exact⟨cs,t,fr,h1,b.trans (by kernel_rfl)⟩
     ·cases a
noncomputable def C1(a:Os):World:=
 let N:=(World.settled Tryz.prog a).heap.size;let w0:=World.holding Tryz.prog a ⟨#[.cells #[.string ⟨#[118,97,108,117,101,32,111,117,116,32,111,102,32,114,97,110,103,101]⟩] 357,.cells #[.string ⟨#[105,110,118,97,108,105,100,32,115,121,110,116,97,120]⟩] 357,.cells #[.int .u16 9,.int .u16 13,.int .u16 1,.int .u16 32,.int .u16 133,.int .u16 101,.int .u16 160,.int .u16 5760,.int .u16 5600,.int .u16 8192,.int .u16 8202,.int .u16 1,.int .u16 8232,.int .u16 8233,.int .u16 1,.int .u16 8239,.int .u16 8287,.int .u16 48,.int .u16 12288,.int .u16 12288,.int .u16 1] 317,.cells #[.slice (some ⟨N+2,0,none⟩) 7 7,.slice none 0 0,.int .i64 2] 314],#[],[]⟩;let put (h:Array Obj) (g:Nat) (cs:Array Value):Array Obj:=h.modify g λ
  | .cells _ t frozen=> .cells cs t frozen
  |o=>o
 {w0 with heap:=put (put (put (put (put (put (put (w0.heap) 6 #[.int .u8 0,.int .u8 1,.int .u8 28,.int .u8 2,.int .u8 29,.int .u8 14,.int .u8 24,.int .u8 3,.int .u8 30,.int .u8 22,.int .u8 20,.int .u8 15,.int .u8 25,.int .u8 17,.int .u8 4,.int .u8 8,.int .u8 31,.int .u8 27,.int .u8 13,.int .u8 23,.int .u8 21,.int .u8 19,.int .u8 16,.int .u8 7,.int .u8 26,.int .u8 12,.int .u8 18,.int .u8 6,.int .u8 11,.int .u8 5,.int .u8 10,.int .u8 9]) 7 #[.int .u8 0,.int .u8 1,.int .u8 56,.int .u8 2,.int .u8 57,.int .u8 49,.int .u8 28,.int .u8 3,.int .u8 61,.int .u8 58,.int .u8 42,.int .u8 50,.int .u8 38,.int .u8 29,.int .u8 17,.int .u8 4,.int .u8 62,.int .u8 47,.int .u8 59,.int .u8 36,.int .u8 45,.int .u8 43,.int .u8 51,.int .u8 22,.int .u8 53,.int .u8 39,.int .u8 33,.int .u8 30,.int .u8 24,.int .u8 18,.int .u8 12,.int .u8 5,.int .u8 63,.int .u8 55,.int .u8 48,.int .u8 27,.int .u8 60,.int .u8 41,.int .u8 37,.int .u8 16,.int .u8 46,.int .u8 35,.int .u8 44,.int .u8 21,.int .u8 52,.int .u8 32,.int .u8 23,.int .u8 11,.int .u8 54,.int .u8 26,.int .u8 40,.int .u8 15,.int .u8 34,.int .u8 20,.int .u8 31,.int .u8 10,.int .u8 25,.int .u8 14,.int .u8 19,.int .u8 9,.int .u8 13,.int .u8 8,.int .u8 7,.int .u8 6]) 5 #[.int .u64 1,.int .u64 10,.int .u64 100,.int .u64 1000,.int .u64 10000,.int .u64 100000,.int .u64 1000000,.int .u64 10000000,.int .u64 100000000,.int .u64 1000000000,.int .u64 10000000000,.int .u64 100000000000,.int .u64 1000000000000,.int .u64 10000000000000,.int .u64 100000000000000,.int .u64 1000000000000000,.int .u64 10000000000000000,.int .u64 100000000000000000,.int .u64 1000000000000000000,.int .u64 10000000000000000000]) 3 #[.iface 355 (.pointer (some ⟨N+0,0,none⟩))]) 2 #[.iface 355 (.pointer (some ⟨N+1,0,none⟩))]) 1 #[.pointer (some ⟨N+3,0,none⟩)]) 0 #[.int .u8 0,.int .u8 0,.int .u8 0,.int .u8 0,.int .u8 0,.int .u8 0,.int .u8 0,.int .u8 0,.int .u8 0,.int .u8 1,.int .u8 1,.int .u8 1,.int .u8 1,.int .u8 1,.int .u8 0,.int .u8 0,.int .u8 0,.int .u8 0,.int .u8 0,.int .u8 0,.int .u8 0,.int .u8 0,.int .u8 0,.int .u8 0,.int .u8 0,.int .u8 0,.int .u8 0,.int .u8 0,.int .u8 0,.int .u8 0,.int .u8 0,.int .u8 0,.int .u8 1,.int .u8 0,.int .u8 0,.int .u8 0,.int .u8 0,.int .u8 0,.int .u8 0,.int .u8 0,.int .u8 0,.int .u8 0,.int .u8 0,.int .u8 0,.int .u8 0,.int .u8 0,.int .u8 0,.int .u8 0,.int .u8 0,.int .u8 0,.int .u8 0,.int .u8 0,.int .u8 0,.int .u8 0,.int .u8 0,.int .u8 0,.int .u8 0,.int .u8 0,.int .u8 0,.int .u8 0,.int .u8 0,.int .u8 0,.int .u8 0,.int .u8 0,.int .u8 0,.int .u8 0,.int .u8 0,.int .u8 0,.int .u8 0,.int .u8 0,.int .u8 0,.int .u8 0,.int .u8 0,.int .u8 0,.int .u8 0,.int .u8 0,.int .u8 0,.int .u8 0,.int .u8 0,.int .u8 0,.int .u8 0,.int .u8 0,.int .u8 0,.int .u8 0,.int .u8 0,.int .u8 0,.int .u8 0,.int .u8 0,.int .u8 0,.int .u8 0,.int .u8 0,.int .u8 0,.int .u8 0,.int .u8 0,.int .u8 0,.int .u8 0,.int .u8 0,.int .u8 0,.int .u8 0,.int .u8 0,.int .u8 0,.int .u8 0,.int .u8 0,.int .u8 0,.int .u8 0,.int .u8 0,.int .u8 0,.int .u8 0,.int .u8 0,.int .u8 0,.int .u8 0,.int .u8 0,.int .u8 0,.int .u8 0,.int .u8 0,.int .u8 0,.int .u8 0,.int .u8 0,.int .u8 0,.int .u8 0,.int .u8 0,.int .u8 0,.int .u8 0,.int .u8 0,.int .u8 0,.int .u8 0,.int .u8 0,.int .u8 0,.int .u8 0,.int .u8 0,.int .u8 0,.int .u8 0,.int .u8 0,.int .u8 0,.int .u8 0,.int .u8 0,.int .u8 0,.int .u8 0,.int .u8 0,.int .u8 0,.int .u8 0,.int .u8 0,.int .u8 0,.int .u8 0,.int .u8 0,.int .u8 0,.int .u8 0,.int .u8 0,.int .u8 0,.int .u8 0,.int .u8 0,.int .u8 0,.int .u8 0,.int .u8 0,.int .u8 0,.int .u8 0,.int .u8 0,.int .u8 0,.int .u8 0,.int .u8 0,.int .u8 0,.int .u8 0,.int .u8 0,.int .u8 0,.int .u8 0,.int .u8 0,.int .u8 0,.int .u8 0,.int .u8 0,.int .u8 0,.int .u8 0,.int .u8 0,.int .u8 0,.int .u8 0,.int .u8 0,.int .u8 0,.int .u8 0,.int .u8 0,.int .u8 0,.int .u8 0,.int .u8 0,.int .u8 0,.int .u8 0,.int .u8 0,.int .u8 0,.int .u8 0,.int .u8 0,.int .u8 0,.int .u8 0,.int .u8 0,.int .u8 0,.int .u8 0,.int .u8 0,.int .u8 0,.int .u8 0,.int .u8 0,.int .u8 0,.int .u8 0,.int .u8 0,.int .u8 0,.int .u8 0,.int .u8 0,.int .u8 0,.int .u8 0,.int .u8 0,.int .u8 0,.int .u8 0,.int .u8 0,.int .u8 0,.int .u8 0,.int .u8 0,.int .u8 0,.int .u8 0,.int .u8 0,.int .u8 0,.int .u8 0,.int .u8 0,.int .u8 0,.int .u8 0,.int .u8 0,.int .u8 0,.int .u8 0,.int .u8 0,.int .u8 0,.int .u8 0,.int .u8 0,.int .u8 0,.int .u8 0,.int .u8 0,.int .u8 0,.int .u8 0,.int .u8 0,.int .u8 0,.int .u8 0,.int .u8 0,.int .u8 0,.int .u8 0,.int .u8 0,.int .u8 0,.int .u8 0,.int .u8 0,.int .u8 0,.int .u8 0,.int .u8 0,.int .u8 0,.int .u8 0,.int .u8 0,.int .u8 0,.int .u8 0,.int .u8 0,.int .u8 0,.int .u8 0,.int .u8 0,.int .u8 0,.int .u8 0,.int .u8 0]}
theorem YJ(a:Os)(args:Array Value):laidMet Tryz.prog mc ((C1 a).forCall (λ_ _=>0) ⟨#[],args,[]⟩).memory:=laidMet_of_run3 10 (by kernel_rfl) (by kernel_rfl) (by kernel_rfl)
end Go.Proofs.YtbomedgnnklgbaaGreatDoor.rb

namespace Go.Proofs.YtbomedgnnklgbaaGreatDoor.rb
open Rb
variable{H:Type}{enc:TypeId×Value→H}{w:World}{sp:Nat→Bool}{held:Bool}{F:cJ}
theorem YK:∃fT fF,Ji Tryz.prog 3 4 9 62 207 60 59 fT fF:=⟨_,_,Tryz.underlying3,Tryz.underlying4,Tryz.underlying9,Tryz.underlying62,Tryz.underlying207,Tryz.underlying60,Tryz.underlying59,rfl,rfl,by kernel_rfl,by kernel_rfl,λt ht=>by simp only[acm,aeX,or_false]at ht;rcases ht with rfl|rfl|rfl|rfl|rfl<;>kernel_rfl⟩
theorem YL(n:Nat):bm F enc Tryz.prog w sp held n 62 T.cells T.ok:=let ⟨_,_,h⟩:=YK;Tc h n
theorem YM:∃fE fL fR,A7 Tryz.prog 3 80 9 224 92 222 93 90 fE fL fR:=⟨_,_,_,Tryz.underlying3,Tryz.underlying80,Tryz.underlying9,Tryz.underlying224,Tryz.underlying92,Tryz.underlying222,Tryz.underlying93,Tryz.underlying90,rfl,rfl,rfl,by kernel_rfl,by kernel_rfl,by kernel_rfl,λt ht=>by simp only[acm,aeX,or_false]at ht;rcases ht with rfl|rfl|rfl|rfl|rfl<;>kernel_rfl⟩
theorem YN(n:Nat):bm F enc Tryz.prog w sp held n 64 B.cells B.ok:=Tf Tryz.underlying9 (by kernel_rfl) (by kernel_rfl) YL Tryz.underlying64 rfl (by kernel_rfl) n
theorem YO(n:Nat):bm F enc Tryz.prog w sp held n 95 U.cells U.ok:=let ⟨_,_,_,h⟩:=YM;Tg h Tryz.underlying95 Tryz.underlying53 rfl (by kernel_rfl) (by kernel_rfl) n
theorem YP(n:Nat):bm F enc Tryz.prog w sp held n 25 cH.cells cH.ok:=Th YN YO Tryz.underlying22 Tryz.underlying53 Tryz.underlying23 (by kernel_rfl) (by kernel_rfl) (by kernel_rfl) (by kernel_rfl) (by kernel_rfl) Tryz.underlying25 rfl (by kernel_rfl) n
end Go.Proofs.YtbomedgnnklgbaaGreatDoor.rb
