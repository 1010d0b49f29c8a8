/- A part of the proof (part 7): see the last text. -/
import Derived.Test.YtncnnojgkgceiaaGreatDoorRb6
import Derived.Test.YtncnnojgkgceiaaGreatDoorRb4
import Derived.SizedLaws
import Derived.Test.YtncnnojgkgceiaaGreatDoorRb5
import Derived.Test.YtncnnojgkgceiaaGreatDoorRb3
import Derived.Test.YtncnnojgkgceiaaGreatDoorRb2
import Derived.Test.YtncnnojgkgceiaaGreatDoorTie
import Derived.Test.YtncnnojgkgceiaaGreatDoorCards
set_option linter.unusedVariables false
set_option linter.unusedSimpArgs false
set_option linter.unusedSectionVars false
open BitVec renaming ofInt→KT
open Bool renaming and_eq_true→aaz, and_self→ady, false_eq_true→acq, not_true→aet, true_eq_false→aer
open Go.IntKind renaming bits→aaH, u64→afv, wrap→abF
open Int renaming le_of_lt→afF
open List renaming all_append→aed, all_eq_true→abt, all_map→afE, append_nil→aee, drop_append→afx, drop_eq_nil_of_le→afz, drop_zero→ad3, drop→afy, flatMap_cons→adR, getD→afD, getElem?_append_right→ab9, getElem?_cons_succ→adX, getElem?_cons_zero→adW, getElem?_eq_getElem→abm, getElem?_eq_some_iff→aat, getElem?_set_ne→abp, getElem?_set_self→abo, getElem_mem→abu, length_append→ad9, length_set→acT, length_singleton→ae2, mem_append→acN, mem_cons_of_mem→acV, mem_cons_self→acW, mem_cons→acU, mem_of_getElem?→adl, mem_or_eq_of_mem_set→afC, mem_singleton→afh, nil_append→afa, not_mem_nil→afp, set_append_right→afB, take_append_of_le_length→aea, take_of_length_le→aeb
open Nat renaming add_sub_cancel_left→afA, add_zero→aa6, le_refl→hT, le_trans→np, lt_of_lt_of_le→sl, sub_self→afc, zero_add→abg, zero_mul→afw
open Ne renaming symm→abj
open Option renaming some→aaK
namespace Rb
open Go
variable{d n op o:Int}
def jT(d:Int)(i:List Int):Prop:=∃op q x:Int,i=[op,d,0,0,q,0,x]∧(op=1∨op=2)∧(0≤q∧q≤3)∧(0≤x∧x≤65535)
theorem jT.ok{i:List Int}(a:Rg d)(h:jT d i):eJ i∧¬mR i∧i.length=7:=by obtain⟨op,q,x,rfl,b,c,e⟩:=h;exact⟨X8 b a c e,nB (.inl (by omega)),rfl⟩
theorem Ye(n:Int):∃x:Int,M .and (u n) (u 65535)=some (u x)∧0≤x∧x≤65535:=by
 refine⟨_,Bi _ _ _,?_⟩;have h:(KT afv.bits n &&& KT afv.bits 65535).toNat≤65535:=by rw[BitVec.toNat_and];exact np Nat.and_le_right (by decide)
 rw[JD];exact⟨by omega,by omega⟩
section
variable{C:Ctx}(Z:Cl (ae C) S.bg)
include Z
theorem Yf{d n:Int}{H:AH}{Q:ab}(o:∀tk (is:List (List Int)) H',is.length≤4→(∀i∈is,jT d i)→KX (λ_=>False) H H'→Q (.ax tk is.length (is.flatMap IV)) H') :
  ae C 13 [I d,u n] H Q:=by
 refine S.QD Z ?_;unfold S.f13;have hlen:∀is:List (List Int),(∀i∈is,jT d i)→(is.flatMap IV).length=is.length*7:=λis h=>sr λi hi=>by obtain⟨op,q,x,rfl,_⟩:=h i hi;rfl
 have app:∀(x:J)(is:List (List Int)) (H1:AH) (i:List Int) (K:ab),cH H.n H1 7 x is.length (is.flatMap IV)→(∀i∈is,jT d i)→KX (λ_=>False) H H1→is.length≤4→jT d i→(∀f H',cH H.n H' 7 f (is++[i]).length ((is++[i]).flatMap IV)→KX (λ_=>False) H H'→K f H') →
   aw (cb H1 false 7 1 [O,O,O,O,O,O,O] [(0,7,.agg (IV i))]) λy H2=>aw (bR H2 false 7 56 x y) K:=by
  intro x is H1 i K g h k1 hl hi s;have k:i.length=7:=by obtain⟨op,q,x,rfl,_⟩:=hi;rfl
  rw[CW (yh k) rfl];simp only[aK];refine g.app k1.1 (m:=1) (news:=IV i) (Bs (yh k) _ _) (by rw[jG,k]) (Bq i) (by decide) (by omega) (by omega) λf H' a b=>s f H' ?_ (L7 b k1);rw[ad9,List.flatMap_append];simpa using a
 have main:∀(r q:Nat)(x:J)(is:List (List Int)) (H1:AH),q+r=4→cH H.n H1 7 x is.length (is.flatMap IV)→(∀i∈is,jT d i)→is.length≤q→KX (λ_=>False) H H1→av (S.pE (ae C) (I d) (u n) Q) ([x,I (q:Nat)],H1):=by
  intro r;induction r with
  | zero=>
   intro q x is H1 t g h hl k1;refine av.step ?_;simp only[S.pE,ay,bY,aU,X,F,aE];rw[en];simp only[S.FM,ay];have l:=g;obtain⟨tk,rfl,_⟩:=g;simp only[iC,X,bL,F];refine aB (λ_=>?_) (λ_=>o tk is H1 (by omega) h k1);rw[dJ [(0,1,I 1),(1,1,I d)] (IV [1,d,0,0,0,0,0]) rfl];simp only[X];have hm:jT d [1,d,0,0,0,0,0]:=⟨1,0,0,rfl,.inl rfl,⟨by decide,by decide⟩,⟨by decide,by decide⟩⟩
   rename_i e;have he:is.length=0:=by simpa using e
   refine app _ is H1 _ _ l h k1 (by omega) hm λf H' a b=>?_;obtain⟨v,rfl,_⟩:=a;exact o v _ H' (by rw[ad9];simp;omega) (λi hi=>by
     rcases acN.1 hi with hi|hi
     ·exact h i hi
     ·rw[afh]at hi;rw[hi];exact hm) b
  | succ r w=>
   intro q x is H1 t g h hl k1;refine av.step ?_;simp only[S.pE,ay,bY,aU,X,F,aE];rw[e_];simp only[fY];rw[show(16:Int)*(q:Int)=((16*q:Nat):Int) by omega,bJ];simp only[X];rw[Bj _ _ _ _ (by omega)];simp only[X];obtain⟨y,z,A,B⟩:=Ye (n.fdiv (2^min ((16*q:Nat):Int).toNat afv.bits));rw[z];simp only[X,gz,wrap_i64 (show -9223372036854775808≤y by omega) (show y≤9223372036854775807 by omega),bL,F];have p:∀(f:J)(j:List (List Int)) (H':AH),cH H.n H' 7 f j.length (j.flatMap IV)→(∀i∈j,jT d i)→j.length≤q+1→KX (λ_=>False) H H' →
     S.pD (ae C) ([x,I (q:Nat)],H1) (av (S.pE (ae C) (I d) (u n) Q)) Q [f] H':=by
    intro f j H' a b c D;simp only[S.pD,ay,bY,br,X,wN (show q≤4000000000000000000 by omega)];exact w (q+1) f j H' (by omega) a b c D
   refine aB (λ_=>p x is H1 g h (by omega) k1) (λ_=>?_);have l:=g;obtain⟨tk,rfl,_⟩:=g;simp only[iC,X,bL,F];have go:∀op:Int,(op=1∨op=2)→Do (aD [O,O,O,O,O,O,O] [(0,1,I op),(1,1,I d),(4,1,I (q:Nat)),(6,1,I y)]) λE=>
     aw (cb H1 false 7 1 [O,O,O,O,O,O,O] [(0,7,E)]) λG L=>aw (bR L false 7 56 (.ax tk is.length (is.flatMap IV)) G) λM N=>S.pD (ae C) ([.ax tk is.length (is.flatMap IV),I (q:Nat)],H1) (av (S.pE (ae C) (I d) (u n) Q)) Q [M] N:=by
    intro op P;rw[dJ [(0,1,I op),(1,1,I d),(4,1,I (q:Nat)),(6,1,I y)] (IV [op,d,0,0,(q:Nat),0,y]) rfl];simp only[X];have hm:jT d [op,d,0,0,(q:Nat),0,y]:=⟨op,_,y,rfl,P,⟨by omega,by omega⟩,⟨A,B⟩⟩
    refine app _ is H1 _ _ l h k1 (by omega) hm λf H' a b=>p f (is++[[op,d,0,0,(q:Nat),0,y]]) H' a (λi hi=>?_) (by rw[ad9];simp;omega) b;rcases acN.1 hi with hi|hi
    ·exact h i hi
    ·rw[afh]at hi;rw[hi];exact hm
   exact aB (λ_=>go 1 (.inl rfl)) (λ_=>go 2 (.inr rfl))
 exact main 4 0 _ [] H rfl (cH.nil _ _ _) (λi hi=>by cases hi) (hT _) (KX.refl _)
variable{D:(Int×Int→Prop)×Nat×Nat}{m ip f L:Nat}{H:AH}{c:Nat→Nat}{is:List (List Int)}{Q:ab}
theorem cy.kx{H':AH}(h:cy D m ip f L H c is)(k:KX (λ_=>False) H H'):cy D m ip f L H' c is∧ES H c H' c:=by obtain⟨xo,xs,xl,xb,V,e,lm,es,bs,a,d,g,hs,hl,j,mk,l,n,o⟩:=h.row;have b:∀i:Nat,¬False:=λ_ q=>q;exact⟨⟨h.l7,h.um,λi hi=>sl (h.bd i hi) k.1,h.pl.kx k (b 0),h.jS,xo,xs,xl,xb,V,e,lm,es,bs,k.at a (b 0),d,g.kx k λi _=>b i,hs.kx k λi _=>b i,hl.kx k λi _=>b i,k.at j (b 0),mk,l.kx k λi _=>b i,n,o⟩,⟨k.mono λi _ q=>q.elim,λi hi=> .inl hi⟩⟩
theorem su(h:cy D m ip f L H c is)(T:is.length+4≤900000){d n:Int}(g:Rg d)(x:∀new H' c',b_ D m ip f L H c is new 4 H' c'→Q (.ar []) H') :
  ae C 26 [.ptr m 0,I d,u n] H Q:=by
 refine S.QP Z ?_;unfold S.f26;refine Yf Z λtk l H1 hl hi k1=>?_;obtain⟨h1,e1⟩:=cy.kx Z h k1;simp only[iC,X];have o:∀i∈l,i.length=7:=λi q=>(jT.ok g (hi i q)).2.2;have main:∀(r k:Nat)(new:List (List Int)) (H2:AH) (c2:Nat→Nat),k+r=l.length→b_ D m ip f L H c is new k H2 c2→av (S.uY (ae C) (.ptr m 0) (.ax tk l.length (l.flatMap IV)) (I (l.length:Nat)) Q) ([I (k:Nat)],H2):=by
  intro r;induction r with
  | zero=>intro k new H2 c2 hk s;refine av.step ?_;simp only[S.uY,ay,aU,X,F];rw[en];exact x new H2 c2 (s.mono (by omega))
  | succ r z=>
   intro k new H2 c2 hk s;refine av.step ?_;simp only[S.uY,ay,aU,X,F];rw[e_];have p:k<l.length:=by omega
   have t:=abu p;have A:aL none 7 (.ax tk l.length (l.flatMap IV)) (I (k:Nat))=some (.ak ((l.flatMap IV).drop (k*7))):=by unfold aL;dsimp only;rw[af ⟨by omega,by omega⟩,Int.toNat_natCast]
   have B:∀(l:List (List Int)) (k:Nat) (i:List Int),(∀i∈l,i.length=7)→l[k]?=some i→((l.flatMap IV).drop (k*7)).take 7=IV i∧k*7+7≤(l.flatMap IV).length:=by
    intro l;induction l with
    |nil=>intro k i h e;simp at e
    | cons y r E=>
     intro k i h e;have G:=h y (acW ..);rw[adR];have U:(IV y).length=7:=by rw[jG,G]
     cases k with
     | zero=>simp at e;subst e;rw[afw,ad3,aea (by omega),aeb (by omega),ad9];exact⟨rfl,by omega⟩
     | succ k=>obtain⟨a,J⟩:=E k i (λj K=>h j (acV _ K)) (by simpa using e);rw[show(k+1)*7=(IV y).length+k*7 by omega,afx,ad9,show afy ((IV y).length+k*7) (IV y)=[]from afz (by omega),afa,afA];exact⟨a,by omega⟩
   obtain⟨a,J⟩:=B l k l[k] o (abm p);have M:W H2 7 true (.ak ((l.flatMap IV).drop (k*7)))=some (.agg (IV l[k])):=by show bE ((l.flatMap IV).drop (k*7)) 0 7 true=_;unfold bE;rw[af (by rw[List.length_drop];omega),af rfl,ad3,a]
   rw[A];simp only[X,M,aQ,aT,aK];have b:=o l[k] t;rw[cG H2 _ (IV l[k]) 7 (by rw[jG,b]) (Bq _) rfl];simp only[X,ey];rw[dP (by rw[jG,b])];simp only[X];obtain⟨N,O⟩:=cy.kx Z s.r.now (KX.push H2 (.row (IV l[k])));refine fy Z N (by rw[ad9];have:=s.l;omega) b λv w r4=>?_;obtain⟨k1,k2,_⟩:=jT.ok g (hi _ t);have P:iP D m ip f L H2 c2 (is++new) [l[k]] v w:=⟨r4.now,O.trans r4.es⟩
   have R:=s.trans (b_.one P k1 k2);simp only[br,X,wN (show k≤4000000000000000000 by omega)];exact z (k+1) _ v w (by omega) R
 have s0:b_ D m ip f L H c is [] 0 H1 c:=⟨⟨by rw[aee];exact h1,e1⟩,hT _,Ok.nil _⟩
 exact main l.length 0 [] H1 c (by omega) s0
theorem Yg{H:AH}{Q:ab}(a:∀v:Int,(v=0∨(3≤v∧v≤11))→Q (I v) H):ae C 99 [I op] H Q:=by
 refine S.R0 Z ?_;unfold S.f99;simp only[bL,X,F]
 repeat' first|exact a _ (by omega)|apply aB<;>intro _
theorem Yh{H:AH}{Q:ab}(a:∀v:Int,(0≤v∧v≤3)→Q (I v) H):ae C 100 [I op] H Q:=by
 refine S.R1 Z ?_;unfold S.f100;simp only[bL,X,F]
 repeat' first|exact a _ (by omega)|apply aB<;>intro _
theorem kn{b:Bool}{x y:Int}{H:AH}{Q:ab}(a:∀v:Int,(v=x∨v=y)→Q (I v) H):ae C 102 [.bool b,I x,I y] H Q:=by refine S.R3 Z ?_;unfold S.f102;simp only[F];exact aB (λ_=>a _ (.inl rfl)) (λ_=>a _ (.inr rfl))
theorem yk{H:AH}{Q:ab}(a:∀b:Bool,Q (.bool b) H):ae C 103 [I o] H Q:=by refine S.R4 Z ?_;unfold S.f103;simp only[bL,X,ck];exact aB (λ_=>a _) (λ_=>a _)
theorem yl{H:AH}{Q:ab}(a:∀b:Bool,Q (.bool b) H):ae C 105 [I o] H Q:=by refine S.R6 Z ?_;unfold S.f105;simp only[bL,X,ck];exact aB (λ_=>a _) (λ_=>a _)
theorem ym(e:n=1∨n=2∨n=4∨n=8){H:AH}{Q:ab}(b:∀v:Int,(0≤v∧v≤3)→Q (I v) H):ae C 104 [I n] H Q:=by
 refine S.R5 Z ?_;unfold S.f104;have s:∀k:Int,0≤k→k≤3→M .shl (I 1) (I k)=some (I (2^k.toNat)):=λk a c=>by
  rw[rz _ _ _ _ a];have:k=0∨k=1∨k=2∨k=3:=by omega
  rcases this with rfl|rfl|rfl|rfl<;>rfl
 have st:∀k:Int,0≤k→k≤2→av (S.rh (ae C) (I n) Q) ([I (k+1)],H)→av (S.rh (ae C) (I n) Q) ([I k],H):=λk a c d=>by refine av.step ?_;simp only[S.rh,ay,s k a (by omega),X,aU,F,br];rw[bJ];exact aB (λ_=>d) (λ_=>b _ ⟨a,by omega⟩)
 refine st 0 (by decide) (by decide) (st 1 (by decide) (by decide) (st 2 (by decide) (by decide) ?_));refine av.step ?_;simp only[S.rh,ay];rw[show M .shl (I 1) (I (2+1))=some (I 8)from rfl];simp only[X,aU,F];rw[en];exact b _ ⟨by decide,by decide⟩
end
end Rb

namespace Rb
open Go
theorem gJ{α:Type}{P:Nat→α→Prop}{x:α}{r:List α}(a:P 0 x)(b:∀(k:Nat)(y:α),r[k]?=some y→P (k+1) y):∀(k:Nat)(y:α),(x::r)[k]?=some y→P k y
 |0,y,h=>by cases h;exact a
 |k+1,y,h=>b k y h
theorem oh{α:Type}{P:Nat→α→Prop}:∀(k:Nat)(y:α),([]:List α)[k]?=some y→P k y:=λk y h=>by cases h
theorem lr(o:bM)(H:AH):aM H false 13 (.agg o.cells)=some (.ak o.cells,H):=rfl
theorem mS(o:bM)(H:AH):W H 13 true (.ak o.cells)=some (.agg o.cells):=rfl
theorem oi(o:bM)(H:AH):W H 1 false (.ak (o.cells.drop 0))=some (I o.kind):=rfl
theorem mT(o:bM)(H:AH):W H 1 false (.ak (o.cells.drop 1))=some (I o.dst):=rfl
theorem Yi(o:bM)(H:AH):W H 1 false (.ak (o.cells.drop 2))=some (I o.lk):=rfl
theorem mc(o:bM)(H:AH):W H 1 false (.ak (o.cells.drop 3))=some (I o.a):=rfl
theorem sv(o:bM)(H:AH):W H 1 false (.ak (o.cells.drop 4))=some (I o.b):=rfl
theorem MA(o:bM)(H:AH):W H 1 false (.ak (o.cells.drop 5))=some (I o.c):=rfl
theorem C5(o:bM)(H:AH):W H 1 false (.ak (o.cells.drop 6))=some (u o.n):=rfl
theorem Yj(o:bM)(H:AH):W H 1 false (.ak (o.cells.drop 7))=some (I o.op):=rfl
theorem qc(o:bM)(H:AH):W H 1 false (.ak (o.cells.drop 8))=some (I o.size):=rfl
theorem oj(o:bM)(H:AH):W H 1 false (.ak (o.cells.drop 9))=some (I o.aW):=rfl
theorem MB(o:bM)(H:AH):W H 1 false (.ak (o.cells.drop 10))=some (I o.cW):=rfl
theorem om(o:bM)(H:AH):W H 1 false (.ak (o.cells.drop 11))=some (I o.site):=rfl
theorem Yk(o:bM)(H:AH):W H 1 false (.ak (o.cells.drop 12))=some (I o.V):=rfl
theorem rp(n:Int)(h:0≤n∧n≤14:=by decide):Rp n:=h
section
variable{C:Ctx}(Z:Cl (ae C) S.bg){D:(Int×Int→Prop)×Nat×Nat}{m ip f L:Nat}(hL:L≤4000){H:AH}{c:Nat→Nat}{is:List (List Int)}{Q:ab}{o:bM}
include Z hL
theorem MC(h:cy D m ip f L H c is)(n:is.length+6≤900000)(d:∀v new H' c',Rp v→b_ D m ip f L H c is new 6 H' c'→Q (I v) H') :
  ae C 101 [.ptr m 0,.agg o.cells] H Q:=by
 refine S.R2 Z ?_;unfold S.f101;simp only[lr,aK,el,X,mc];refine hY Z hL h (by omega) (rp 8) λa n1 H1 c1 e s1=>?_;simp only[C5,X,bL,F];refine aB (λ_=>d a n1 H1 c1 e (s1.mono (by decide))) (λ_=>?_);refine su Z s1.r.now (by have:=s1.l;rw[ad9];omega) (rp 14).g λn2 H2 c2 s2=>?_;have b:=s1.trans s2;rw[dJ [(0,1,I 3),(1,1,I 8),(2,1,I a),(3,1,I 14)] (IV [3,8,a,14,0,0,0]) rfl];simp only[X];refine fy Z b.r.now (by have:=b.l;rw[ad9];omega) rfl λi c3 j=>?_;have k:=b.trans (b_.one j (mQ ⟨by decide,by decide⟩ (rp 8).g e.g (rp 14).g) (nB (.inl (by decide))));exact d 8 _ i c3 (rp 8) k
theorem Yl(h:cy D m ip f L H c is)(E:is.length+5≤900000)(x:∀new H' c',b_ D m ip f L H c is new 5 H' c'→Q (.ar []) H') :
  ae C 53 [.ptr m 0,.agg o.cells] H Q:=by
 refine S.Rf Z ?_;unfold S.f53;simp only[lr,aK,el,X,mc,sv,mT];refine hY Z hL h (by omega) (rp 8) λa n1 H1 c1 s s1=>?_;refine⟨trivial,trivial,?_⟩;refine hY Z hL s1.r.now (by have:=s1.l;rw[ad9];omega) (rp 9) λb n2 H2 c2 t s2=>?_;refine⟨trivial,?_⟩;have u:=s1.trans s2;refine yi Z u.r.now (rp 11) λd G p y=>?_;have j:=u.trans y;simp only[Yj,X];refine Yg Z λv hv=>?_;simp only[dA,X,F,aE];have fin:∀new k n,b_ D m ip f L H c is new 4 k n→S.ve (ae C) (.ptr m 0) (.ak o.cells) (I d) Q [] k:=by intro new k n i;simp only[S.ve,el,mT,X];exact yj Z hL i.r.now (by have:=i.l;rw[ad9];omega) p λJ q c5 z=>x _ q c5 (i.trans z)
 apply aB<;>intro e
 · have A:3≤v∧v≤11:=by
     rcases hv with rfl|hv
     ·simp at e
     ·exact hv
   rw[dJ [(0,1,I v),(1,1,I d),(2,1,I a),(3,1,I b)] (IV [v,d,a,b,0,0,0]) rfl];simp only[X];refine fy Z j.r.now (by have:=j.l;rw[ad9];omega) rfl λk n r4=>?_;exact fin _ k n ((j.trans (b_.one r4 (mQ A p.g s.g t.g) (nB (.inl (by omega))))).mono (by decide))
 · rw[dJ [(0,1,I 5),(1,1,I 31),(2,1,I a),(3,1,I b)] (IV [5,31,a,b,0,0,0]) rfl];simp only[X];refine fy Z j.r.now (by have:=j.l;rw[ad9];omega) rfl λk n r4=>?_;have i:=j.trans (b_.one r4 (mQ ⟨by decide,by decide⟩ ⟨by decide,by decide⟩ s.g t.g) (nB (.inl (by decide))));refine Yh Z λw hw=>?_;rw[dJ [(0,1,I 12),(1,1,I d),(4,1,I w)] (IV [12,d,0,0,w,0,0]) rfl];simp only[X];refine fy Z i.r.now (by have:=i.l;rw[ad9];omega) rfl λq c5 B=>?_;exact fin _ q c5 (i.trans (b_.one B (X9 p.g hw) (nB (.inl (by decide)))))
theorem Ym(h:cy D m ip f L H c is)(p:o.size=1∨o.size=2∨o.size=4∨o.size=8)(x:is.length+8≤900000)(q:∀new H' c',b_ D m ip f L H c is new 8 H' c'→Q (.ar []) H') :
  ae C 54 [.ptr m 0,.agg o.cells] H Q:=by
 refine S.Rh Z ?_;unfold S.f54;simp only[lr,aK,el,X,mS,mT];refine MC Z hL h (by omega) λa n1 H1 c1 n s1=>?_;refine⟨trivial,?_⟩;refine yi Z s1.r.now (rp 11) λd H2 e s2=>?_;have i:=s1.trans s2;simp only[om,oj,qc,X];refine yk Z λb=>?_;refine⟨trivial,trivial,?_⟩;refine kn Z λv hv=>?_;refine⟨trivial,trivial,?_⟩;refine ym Z p λk hk=>?_;refine⟨trivial,?_⟩;rw[dJ [(0,1,I v),(1,1,I d),(2,1,I a),(5,1,I k)] (IV [v,d,a,0,0,k,0]) rfl];simp only[X];refine lq Z i.r.now (by have:=i.l;rw[ad9];omega) rfl λy c3 s=>?_;have hi:eJ [v,d,a,0,0,k,0]:=by
  rcases hv with rfl|rfl
  ·exact yg ⟨by decide,by decide⟩ e.g n.a hk
  ·exact yf (.inl rfl) e.g n.a hk ⟨by decide,by decide⟩
 have j:=i.trans (b_.one s hi (nB (.inr (by omega))));exact yj Z hL j.r.now (by have:=j.l;rw[ad9];omega) e λn4 t u w=>q _ t u (j.trans w)
theorem Yn(h:cy D m ip f L H c is)(n:o.size=1∨o.size=2∨o.size=4∨o.size=8)(t:is.length+8≤900000)(p:∀new H' c',b_ D m ip f L H c is new 8 H' c'→Q (.ar []) H') :
  ae C 55 [.ptr m 0,.agg o.cells] H Q:=by
 refine S.Ri Z ?_;unfold S.f55;simp only[lr,aK,el,X,mS,sv];refine MC Z hL h (by omega) λa n1 H1 c1 i s1=>?_;refine⟨trivial,?_⟩;refine hY Z hL s1.r.now (by have:=s1.l;rw[ad9];omega) (rp 9) λd n2 H2 c2 j s2=>?_;have e:=s1.trans s2;simp only[om,oj,qc,X];refine yl Z λb=>?_;refine⟨trivial,trivial,?_⟩;refine kn Z λv hv=>?_;refine⟨trivial,trivial,?_⟩;refine ym Z n λk hk=>?_;refine⟨trivial,?_⟩;rw[dJ [(0,1,I v),(1,1,I d),(2,1,I a),(5,1,I k)] (IV [v,d,a,0,0,k,0]) rfl];simp only[X];refine lq Z e.r.now (by have:=e.l;rw[ad9];omega) rfl λq c3 s=>?_;have hi:eJ [v,d,a,0,0,k,0]:=by
  rcases hv with rfl|rfl
  ·exact yg ⟨by decide,by decide⟩ j.g i.a hk
  ·exact yf (.inr rfl) j.g i.a hk ⟨by decide,by decide⟩
 exact p _ q c3 (e.trans (b_.one s hi (nB (.inr (by omega)))))
theorem Yo(h:cy D m ip f L H c is)(K:o.size=1∨o.size=2∨o.size=4∨o.size=8)(af:is.length+8≤900000)(M:∀new H' c',b_ D m ip f L H c is new 8 H' c'→Q (.ar []) H') :
  ae C 56 [.ptr m 0,.agg o.cells] H Q:=by
 refine S.Rj Z ?_;unfold S.f56;simp only[lr,aK,el,X,mc,sv];refine hY Z hL h (by omega) (rp 8) λa n1 H1 c1 t s1=>?_;refine⟨trivial,?_⟩;refine hY Z hL s1.r.now (by have:=s1.l;rw[ad9];omega) (rp 9) λb n2 H2 c2 u s2=>?_;have i:=s1.trans s2;simp only[oj,X];refine yk Z λb1=>?_;refine⟨trivial,?_⟩;refine kn Z λv hv=>?_;refine⟨trivial,?_⟩;refine yl Z λb2=>?_;refine kn Z λw hw=>?_;obtain⟨xo,l1,l2⟩:=i.r.now.qb;have ag:=i.l;have hlen:(is++(n1++n2)).length≤is.length+2:=by rw[ad9];omega
 simp only[aC,aa,abg,l1,l2,X,qc];refine ym Z K λk hk=>?_;refine⟨l1,?_⟩;simp only[om,X];rw[dJ [(0,1,I v),(1,1,I 14),(2,1,I a),(5,1,I k)] (IV [v,14,a,0,0,k,0]) rfl];simp only[X];refine lq Z i.r.now (by omega) rfl λO c3 p=>?_;have z:eJ [v,14,a,0,0,k,0]:=yg (by omega) (rp 14).g t.a hk;simp only[oi,X,bL,F,aE];have fin:∀(bG:List (List Int)) (d:Int) e n,iP D m ip f L H2 c2 (is++(n1++n2)) bG e n→Rp d→(bG.length=1∨bG.length=2)→(∀(k:Nat)(y:List Int),bG[k]?=some y→eJ y∧¬mR y)→S.vf (ae C) (.ptr m 0) (.ak o.cells) (I a) (I w) (I ((is++(n1++n2)).length:Nat)) (I k) Q [I d] e:=by
  intro bG d e n r4 P ah A;simp only[S.vf,el,om,X,ay];rw[dJ [(0,1,I w),(3,1,I 13),(1,1,I d),(2,1,I a),(5,1,I k)] (IV [w,d,a,13,0,k,0]) rfl];simp only[X];refine lq Z r4.now (by rw[ad9];omega) rfl λai c5 R=>?_;have B:=r4.trans R;refine C3 Z B.now (by simp only[ad9]at *;simp;omega) _ (by omega) λT U V=>?_;have E:=B.trans V;generalize G:(is++(n1++n2)).length=N at *;have W:(is++(n1++n2)++(bG++[[w,d,a,13,0,k,0]])).length=N+(bG.length+1):=by rw[ad9,G,ad9];rfl
  rw[W]at E;have Y:Ok N (bG++[[w,d,a,13,0,k,0]]++[[16,13,0,0,0,0,(N:Int)-((N+(bG.length+1):Nat):Int)]]):=by refine(Ok.app (a:=bG) (λj x J=>⟨(A j x J).1,λq=>absurd q (A j x J).2⟩) (Ok.one (My (by omega) P.g t.a (rp 13).g hk) (nB (.inr (by omega))))).app ?_;refine gJ ⟨sq (.inr rfl) (rp 13).g ⟨by omega,by omega⟩,λ_=>?_⟩ oh;show 0≤((N+(bG++[[w,d,a,13,0,k,0]]).length:Nat):Int)+((0:Nat):Int)+((N:Int)-((N+(bG.length+1):Nat):Int))∧((N+(bG++[[w,d,a,13,0,k,0]]).length:Nat):Int)+((0:Nat):Int)+((N:Int)-((N+(bG.length+1):Nat):Int))≤((N+(bG++[[w,d,a,13,0,k,0]]).length:Nat):Int)+((1:Nat):Int);rw[ad9];show 0≤((N+(bG.length+1):Nat):Int)+((0:Nat):Int)+((N:Int)-((N+(bG.length+1):Nat):Int))∧((N+(bG.length+1):Nat):Int)+((0:Nat):Int)+((N:Int)-((N+(bG.length+1):Nat):Int))≤((N+(bG.length+1):Nat):Int)+((1:Nat):Int);omega
  have s:b_ D m ip f L H c is _ (2+4) T U:=i.trans ⟨E,by simp only[ad9];simp;omega,by rw[G];exact Y⟩;simp only[mT,X];exact ss Z hL s.r.now (by have:=s.l;rw[ad9];omega) (rp 14) λn7 ab ac ad=>M _ ab ac (s.trans ad)
 apply aB<;>intro _
 · rw[dJ [(0,1,I 3),(1,1,I 12),(2,1,I 14),(3,1,I b)] (IV [3,12,14,b,0,0,0]) rfl];simp only[X];refine fy Z p.now (by rw[ad9];simp only[ae2];omega) rfl λe n r4=>?_;exact fin _ 12 e n (p.trans r4) (rp 12) (.inr rfl) (gJ ⟨z,nB (.inr (by omega))⟩ (gJ ⟨mQ ⟨by decide,by decide⟩ (rp 12).g (rp 14).g u.g,nB (.inl (by decide))⟩ oh))
 ·exact fin _ b O c3 p u (.inl rfl) (gJ ⟨z,nB (.inr (by omega))⟩ oh)
end
end Rb

namespace Rb
open Go
section
variable{C:Ctx}(Z:Cl (ae C) S.bg){D:(Int×Int→Prop)×Nat×Nat}{m ip f L:Nat}(hL:L≤4000){H:AH}{c:Nat→Nat}{is:List (List Int)}{Q:ab}{o:bM}
include Z hL
theorem Yp(h:cy D m ip f L H c is)(P:o.size=1∨o.size=2∨o.size=4∨o.size=8)(ao:is.length+17≤900000)(R:∀new H' c',b_ D m ip f L H c is new 17 H' c'→Q (.ar []) H') :
  ae C 57 [.ptr m 0,.agg o.cells] H Q:=by
 refine S.Rk Z ?_;unfold S.f57;simp only[lr,aK,el,X,mc,sv,MA];refine hY Z hL h (by omega) (rp 8) λa n1 H1 c1 A s1=>?_;refine⟨trivial,trivial,?_⟩;refine hY Z hL s1.r.now (by have:=s1.l;rw[ad9];omega) (rp 9) λb n2 H2 c2 B s2=>?_;refine⟨trivial,?_⟩;have s:=s1.trans s2;refine hY Z hL s.r.now (by have:=s.l;rw[ad9];omega) (rp 10) λz n3 T c3 U V=>?_;have j:=s.trans V;simp only[oj,X];refine yk Z λb1=>?_;refine⟨trivial,?_⟩;refine kn Z λv hv=>?_;refine⟨trivial,?_⟩;refine yl Z λb2=>?_;refine kn Z λw hw=>?_;simp only[qc,X];refine ym Z P λk hk=>?_;simp only[qc,X,aU,F,aE];have fin:∀(new:List (List Int)) (d:Int) n t,b_ D m ip f L H c is new 8 n t→Rp d→S.vg (ae C) (.ptr m 0) (.ak o.cells) (I a) (I z) (I v) (I w) (I k) Q [I d] n:=by
  intro new d n t i W;obtain⟨xo,l1,l2⟩:=i.r.now.qb;have ap:=i.l;have aq:(is++new).length≤is.length+8:=by rw[ad9];have:=i.l;omega
  simp only[S.vg,aC,aa,abg,l1,l2,X,ay,om];rw[dJ [(0,1,I v),(1,1,I 14),(2,1,I a),(5,1,I k)] (IV [v,14,a,0,0,k,0]) rfl];simp only[X];refine lq Z i.r.now (by omega) rfl λE c5 p=>?_;rw[dJ [(0,1,I 5),(1,1,I 31),(2,1,I 14),(3,1,I d)] (IV [5,31,14,d,0,0,0]) rfl];simp only[X];refine fy Z p.now (by simp only[ad9,ae2];omega) rfl λau av Y=>?_;have G:=p.trans Y;rw[dJ [(0,1,I 14),(4,1,I 1),(6,1,I 4)] (IV [14,0,0,0,1,0,4]) rfl];simp only[X];refine fy Z G.now (by simp only[ad9,ae2];omega) rfl λaw ax ab=>?_;have J:=G.trans ab;rw[dJ [(0,1,I w),(3,1,I 13),(1,1,I z),(2,1,I a),(5,1,I k)] (IV [w,z,a,13,0,k,0]) rfl];simp only[X];refine lq Z J.now (by simp only[ad9,ae2];omega) rfl λaz aA ac=>?_;have K:=J.trans ac;refine C3 Z K.now (by simp only[ad9,ae2];omega) _ (by omega) λaD aF ad=>?_;have M:=K.trans ad;rw[dJ [(0,1,I 13),(6,1,I 2)] (IV [13,0,0,0,0,0,2]) rfl];simp only[X];refine fy Z M.now (by simp only[ad9,ae2];omega) rfl λaG aH af=>?_;have O:=M.trans af;rw[dJ [(0,1,I 30)] (IV [30,0,0,0,0,0,0]) rfl];simp only[X];refine fy Z O.now (by simp only[ad9,ae2];omega) rfl λaI aJ ag=>?_;have u:=O.trans ag;have ah:(is++new++([[v,14,a,0,0,k,0]]++[[5,31,14,d,0,0,0]]++[[14,0,0,0,1,0,4]]++[[w,z,a,13,0,k,0]])).length=(is++new).length+4:=by rw[ad9];rfl
  rw[ah]at u;have e:(([[v,14,a,0,0,k,0]]++[[5,31,14,d,0,0,0]]++[[14,0,0,0,1,0,4]]++[[w,z,a,13,0,k,0]])++[[16,13,0,0,0,0,((is++new).length:Int)-(((is++new).length+4:Nat):Int)]]++[[13,0,0,0,0,0,2]]++[[30,0,0,0,0,0,0]]:List (List Int))=[[v,14,a,0,0,k,0],[5,31,14,d,0,0,0],[14,0,0,0,1,0,4],[w,z,a,13,0,k,0],[16,13,0,0,0,0,-4],[13,0,0,0,0,0,2],[30,0,0,0,0,0,0]]:=by rw[show((is++new).length:Int)-(((is++new).length+4:Nat):Int) = -4 by omega];rfl
  rw[e]at u;have ai:Ok (is++new).length [[v,14,a,0,0,k,0],[5,31,14,d,0,0,0],[14,0,0,0,1,0,4],[w,z,a,13,0,k,0],[16,13,0,0,0,0,-4],[13,0,0,0,0,0,2],[30,0,0,0,0,0,0]]:=by
   generalize (is++new).length=N;refine gJ ⟨yg (by omega) (rp 14).g A.a hk,λq=>absurd q (nB (.inr (by omega)))⟩ (gJ ⟨mQ ⟨by decide,by decide⟩ ⟨by decide,by decide⟩ (rp 14).g W.g,λq=>absurd q (nB (.inl (by decide)))⟩ (gJ ⟨Mw ⟨by decide,by decide⟩ ⟨by decide,by decide⟩,λ_=>?_⟩ (gJ ⟨My (by omega) U.g A.a (rp 13).g hk,λq=>absurd q (nB (.inr (by omega)))⟩ (gJ ⟨sq (.inr rfl) (rp 13).g ⟨by decide,by decide⟩,λ_=>?_⟩ (gJ ⟨C1 ⟨by decide,by decide⟩,λ_=>?_⟩ (gJ ⟨Yc,λq=>absurd q (nB (.inr (by decide)))⟩ oh))))))
   · show 0≤(N:Int)+((2:Nat):Int)+4∧(N:Int)+((2:Nat):Int)+4≤(N:Int)+((7:Nat):Int);omega
   · show 0≤(N:Int)+((4:Nat):Int) + -4∧(N:Int)+((4:Nat):Int) + -4≤(N:Int)+((7:Nat):Int);omega
   · show 0≤(N:Int)+((5:Nat):Int)+2∧(N:Int)+((5:Nat):Int)+2≤(N:Int)+((7:Nat):Int);omega
  have x:=i.trans (v:=7) ⟨u,by show 7≤7;decide,ai⟩;simp only[mT,X];exact ss Z hL x.r.now (by have:=x.l;rw[ad9];omega) (rp 14) λn7 aj al am=>R _ aj al (x.trans am)
 refine aB (λ_=>?_) (λ_=>fin _ b T c3 (j.mono (by decide)) B);simp only[qc,X,fY];have an:abF .i64 (8*o.size)=8*o.size:=bJ;rw[an,rz _ _ _ _ (by omega)];simp only[X,cM];refine su Z j.r.now (by have:=j.l;rw[ad9];omega) (rp 12).g λn4 n t i=>?_;have y:=j.trans i;rw[dJ [(0,1,I 6),(1,1,I 12),(2,1,I b),(3,1,I 12)] (IV [6,12,b,12,0,0,0]) rfl];simp only[X];refine fy Z y.r.now (by have:=y.l;rw[ad9];omega) rfl λE c5 p=>?_;exact fin _ 12 E c5 (y.trans (b_.one p (mQ ⟨by decide,by decide⟩ (rp 12).g B.g (rp 12).g) (nB (.inl (by decide))))) (rp 12)
theorem Yq(h:cy D m ip f L H c is)(ab:is.length+10≤900000)(u:∀new H' c',b_ D m ip f L H c is new 10 H' c'→Q (.ar []) H') :
  ae C 58 [.ptr m 0,.agg o.cells] H Q:=by
 refine S.Rl Z ?_;unfold S.f58;simp only[lr,aK,el,X,mc];refine hY Z hL h (by omega) (rp 8) λa n1 H1 c1 x s1=>?_;simp only[oi,oj,X,bL,cx,aE];have k1:∀(v w d e:Int)(new:List (List Int)) k y,(v=26∨v=25)→(w=28∨w=27)→Rp d→Rp e→b_ D m ip f L H c is new 3 k y→S.vi (ae C) (.ptr m 0) (.ak o.cells) (I a) [I v] [I w] Q [I d,I e] k:=by
  intro v w d e new k y hv hw n he i;obtain⟨xo,l1,l2⟩:=i.r.now.qb;have ac:=i.l;have ad:(is++new).length≤is.length+3:=by rw[ad9];have:=i.l;omega
  simp only[S.vi,aC,aa,abg,l1,l2,X,ay,bY,om];rw[dJ [(0,1,I v),(1,1,I 14),(4,1,I 12),(2,1,I a)] (IV [v,14,a,0,12,0,0]) rfl];simp only[X];refine lq Z i.r.now (by omega) rfl λaf c5 z=>?_;rw[dJ [(0,1,I w),(3,1,I 13),(1,1,I d),(4,1,I e),(2,1,I a)] (IV [w,d,a,13,e,0,0]) rfl];simp only[X];refine lq Z z.now (by simp only[ad9,ae2];omega) rfl λag ah E=>?_;have A:=z.trans E;refine C3 Z A.now (by simp only[ad9,ae2];omega) _ (by omega) λG J K=>?_;have p:=A.trans K;have M:(is++new++([[v,14,a,0,12,0,0]]++[[w,d,a,13,e,0,0]])).length=(is++new).length+2:=by rw[ad9];rfl
  rw[M]at p;have O:(([[v,14,a,0,12,0,0]]++[[w,d,a,13,e,0,0]])++[[16,13,0,0,0,0,((is++new).length:Int)-(((is++new).length+2:Nat):Int)]]:List (List Int))=[[v,14,a,0,12,0,0],[w,d,a,13,e,0,0],[16,13,0,0,0,0,-2]]:=by rw[show((is++new).length:Int)-(((is++new).length+2:Nat):Int) = -2 by omega];rfl
  rw[O]at p;have P:Ok (is++new).length [[v,14,a,0,12,0,0],[w,d,a,13,e,0,0],[16,13,0,0,0,0,-2]]:=by generalize (is++new).length=N;refine gJ ⟨X_ (by omega) (rp 14).g x.a (rp 12).g,λq=>absurd q (nB (.inr (by omega)))⟩ (gJ ⟨Ya (by omega) n.g x.a (rp 13).g he.g,λq=>absurd q (nB (.inr (by omega)))⟩ (gJ ⟨sq (.inr rfl) (rp 13).g ⟨by decide,by decide⟩,λ_=>?_⟩ oh));show 0≤(N:Int)+((2:Nat):Int) + -2∧(N:Int)+((2:Nat):Int) + -2≤(N:Int)+((3:Nat):Int);omega
  have j:=i.trans (v:=3) ⟨p,by show 3≤3;decide,P⟩;simp only[oi,X,bL,F];refine aB (λ_=>?_) (λ_=>u _ G J (j.mono (by decide)));simp only[mT,X];refine ss Z hL j.r.now (by have:=j.l;rw[ad9];omega) (rp 14) λn7 ai aj R=>?_;have s:=j.trans R;simp only[Yi,X];exact ss Z hL s.r.now (by have:=s.l;rw[ad9];omega) (rp 12) λal T U V=>u _ T U (s.trans V)
 have k2:∀(v w:Int),(v=26∨v=25)→(w=28∨w=27)→S.q6 (ae C) (.ptr m 0) (.ak o.cells) (I a) [I v] Q [I w] H1:=by intro v w hv hw;simp only[S.q6,el,oi,sv,MA,X,bL,F,aE];refine aB (λ_=>?_) (λ_=>k1 v w 14 12 n1 H1 c1 hv hw (rp 14) (rp 12) (s1.mono (by decide)));refine hY Z hL s1.r.now (by have:=s1.l;rw[ad9];omega) (rp 9) λd n2 H2 c2 n s2=>?_;have t:=s1.trans s2;refine⟨trivial,?_⟩;refine hY Z hL t.r.now (by have:=t.l;rw[ad9];omega) (rp 10) λe n3 W c3 he Y=>?_;exact k1 v w d e _ W c3 hv hw n he (t.trans Y)
 have B:∀(v:Int),(v=26∨v=25)→S.vj (ae C) (.ptr m 0) (.ak o.cells) (I a) Q [I v] H1:=by intro v hv;simp only[S.vj,el,oi,oj,X,bL,cx,ck,aE];refine aB (λ_=>?_) (λ_=>kn Z λw hw=>k2 v w hv hw);refine aB (λ_=>?_) (λ_=>kn Z λw hw=>k2 v w hv hw);exact yl Z λb=>kn Z λw hw=>k2 v w hv hw
 refine aB (λ_=>?_) (λ_=>kn Z λv hv=>B v hv);exact yk Z λb=>kn Z λv hv=>B v hv
theorem Yr(h:cy D m ip f L H c is)(t:is.length+8≤900000)(i:∀new H' c',b_ D m ip f L H c is new 8 H' c'→Q (.ar []) H') :
  ae C 61 [.ptr m 0,.agg o.cells] H Q:=by
 refine S.Ro Z ?_;unfold S.f61;simp only[lr,aK,el,X,mc];refine hY Z hL h (by omega) (rp 8) λa n1 H1 c1 j s1=>?_;simp only[C5,X];refine su Z s1.r.now (by have:=s1.l;rw[ad9];omega) (rp 14).g λn2 H2 c2 s2=>?_;have b:=s1.trans s2;rw[dJ [(0,1,I 5),(1,1,I 31),(2,1,I a),(3,1,I 14)] (IV [5,31,a,14,0,0,0]) rfl];simp only[X];have hl:=b.l;refine fy Z b.r.now (by rw[ad9];omega) rfl λu c3 d=>?_;rw[dJ [(0,1,I 14),(4,1,I 3),(6,1,I 2)] (IV [14,0,0,0,3,0,2]) rfl];simp only[X];refine fy Z d.now (by simp only[ad9,ae2]at *;omega) rfl λw x r4=>?_;have e:=d.trans r4;rw[dJ [(0,1,I 32),(6,1,I 1)] (IV [32,0,0,0,0,0,1]) rfl];simp only[X];refine fy Z e.now (by simp only[ad9,ae2]at *;omega) rfl λk c5 n=>?_;have p:=e.trans n;have s:Ok (is++(n1++n2)).length [[5,31,a,14,0,0,0],[14,0,0,0,3,0,2],[32,0,0,0,0,0,1]]:=by generalize (is++(n1++n2)).length=N;refine gJ ⟨mQ ⟨by decide,by decide⟩ ⟨by decide,by decide⟩ j.g (rp 14).g,λq=>absurd q (nB (.inl (by decide)))⟩ (gJ ⟨Mw ⟨by decide,by decide⟩ ⟨by decide,by decide⟩,λ_=>?_⟩ (gJ ⟨C2 (.inr rfl) ⟨by decide,by decide⟩,λq=>absurd q (nB (.inr (by decide)))⟩ oh));show 0≤(N:Int)+((1:Nat):Int)+2∧(N:Int)+((1:Nat):Int)+2≤(N:Int)+((3:Nat):Int);omega
 exact i _ k c5 (b.trans (v:=3) ⟨p,by show 3≤3;decide,s⟩)
end
end Rb

namespace Rb
open Go
abbrev hj(B l:Nat):(Int×Int→Prop)×Nat×Nat:=(λ_=>False,B,l)
section
variable{D D':(Int×Int→Prop)×Nat×Nat}{m ip f L:Nat}{H:AH}{c:Nat→Nat}{is:List (List Int)}
theorem b_.tr{d H2:AH}{e c2:Nat→Nat}{a b:List (List Int)}{w v:Nat}(h:b_ D m ip f L H c is a w d e)(g:b_ D' m ip f L d e (is++a) b v H2 c2):b_ D' m ip f L H c is (a++b) (w+v) H2 c2:=⟨⟨by rw[←List.append_assoc];exact g.r.now,h.r.es.trans g.r.es⟩,by rw[ad9];have:=h.l;have:=g.l;omega,h.ok.app (by have:=g.ok;rwa [ad9]at this)⟩
theorem cy.fin(h:cy D m ip f L H c is)(d:∀b,D.1 b→mb is b):cy (hj D.2.1 D.2.2) m ip f L H c is:=by obtain⟨xo,xs,xl,xb,V,e,lm,es,bs,a,g,i,hs,hl,j,mk,k,l,n⟩:=h.row;exact⟨h.l7,h.um,h.bd,h.pl,h.jS,xo,xs,xl,xb,V,e,lm,es,bs,a,g,i,hs,hl,j,mk,k,λb q=> .inl ((l b q).elim _root_.id (d b)),n⟩
theorem cy.more(h:cy D m ip f L H c is)(i:∀b,D.1 b→D'.1 b)(j:D.2.1≤D'.2.1)(d:D.2.2=D'.2.2):cy D' m ip f L H c is:=by obtain⟨xo,xs,xl,xb,V,e,lm,es,bs,a,k,l,hs,hl,n,mk,o,p,g⟩:=h.row;exact⟨h.l7,h.um,h.bd,h.pl,h.jS,xo,xs,xl,xb,V,e,lm,es,bs,a,k,l,hs,hl,n,d▸mk,o,λb q=>(p b q).imp _root_.id (i b),np g.1 j,d▸g.2⟩
theorem cy.label(h:cy D m ip f L H c is)(t:Int):∃lm H',W H 1 false (.ptr m 5)=some (.map lm)∧jm H .n (.map lm) (I t) (I (is.length:Nat))=some H'∧b_ (D.1,D.2.1,is.length) m ip f L H c is [] 0 H' c:=by
 obtain⟨xo,xs,xl,xb,V,e,lm,es,bs,a,d,p,hs,hl,g,mk,s,u,l⟩:=h.row;have w:=l.2;obtain⟨o,e1,mk',_,_⟩:=CK g (mk.imp λk v ⟨x,e,y⟩=>(⟨x,e,np y w⟩:Mz is.length k v)) t (v:= I (is.length:Nat)) rfl ⟨_,rfl,hT _⟩;refine⟨lm,_,by rw[a.load];rfl,e1,⟨⟨?_,⟨?_,λi hi=> .inl hi⟩⟩,hT _,Ok.nil _⟩⟩
 · have kp:KX (·= lm) H (H.set lm (.map o)):=KX.set (S:=(·= lm)) _ rfl _;have hm:∀{j k:Nat},c j=k→k≠2→j≠lm:=λe q r=>q (by rw[←e,r,d]);rw[aee];exact⟨h.l7,h.um,h.bd,h.pl.kx kp (hm h.jS (by decide)),h.jS,xo,xs,xl,xb,V,e,lm,o,bs,kp.at a (hm h.um (by decide)),d,p.kx kp λj b=>hm b (by decide),hs.kx kp λj b=>hm b (by decide),hl.kx kp λj b=>hm b (by decide),g.set _,mk',s.kx kp λj b=>hm b (by decide),u,l.1,hT _⟩
 ·exact KX.set _ (by rw[d];decide) _
theorem cy.wait{B l:Nat}(h:cy (hj B l) m ip f L H c is)(hB:B≤900000)(t:Int):∃xb g H1 H2 c',W H 1 false (.ptr m 6)=some xb∧bR H false 2 16 xb (.ax .full 1 (ct ((is.length:Int),t)))=some (g,H1)∧au H1 1 (.ptr m 6) g=some H2∧cy ((·= ((is.length:Int),t)),B+1,l) m ip f L H2 c' is∧ES H c H2 c':=by
 obtain⟨xo,xs,xl,xb,V,e,lm,es,bs,a,p,v,hs,hl,r,mk,w,x,o⟩:=h.row;obtain⟨g,H1,e1,s,k1⟩:=w.app ((is.length:Int),t) (by have:bs.length≤B:=o.1;omega);have Y:=k1.at a (by rw[h.um];decide);have y:=s;obtain⟨tk,z,_⟩:=s;have k:g.known=true∧g.scalar=true∧g.cells=[g]:=by rw[z];exact⟨rfl,rfl,rfl⟩
 have A:=k1.1;have hm:=a.1;have kp:KX (·= m) H1 (H1.set m (.row [.row ip 0 f 1,xo,xs,xl,I V,.map lm,g,I e])):=KX.set (S:=(·= m)) _ rfl _;have kk:KX (λj=>c j=6∨c j=1) H (H1.set m (.row [.row ip 0 f 1,xo,xs,xl,I V,.map lm,g,I e])):=(k1.mono λj _ q=> .inl q).trans kp λj _ q=> .inr (q▸h.um);have C:(H1.set m (.row [.row ip 0 f 1,xo,xs,xl,I V,.map lm,g,I e])).n=H1.n:=rfl;have u:=h.bd;refine⟨xb,g,H1,H1.set m (.row [.row ip 0 f 1,xo,xs,xl,I V,.map lm,g,I e]),pt c H.n H1.n 6,by rw[a.load];rfl,e1,?_,⟨h.l7,?_,λj d=>?_,?_,?_,xo,xs,xl,g,V,e,lm,es,bs++[((is.length:Int),t)],Y.set _,?_,?_,?_,?_,kk.at r (by rw[p];decide),mk,?_,λb i=>?_,?_⟩,⟨kk.mono λj _ q=>by omega,λj d=>?_⟩⟩
 · rw[Y.store,af ⟨k.1,by rw[k.2.2];rfl,by rw[k.2.2,List.all_cons,k.2.1];rfl,by show 6+1≤8;decide⟩,k.2.2];rfl
 ·rw[im (by omega)];exact h.um
 · have:=u j;unfold pt at d;split at d;all_goals omega
 ·exact h.pl.kx kk λq=>by rw[h.jS]at q;omega
 · have:=h.pl.lt;rw[im (by omega)];exact h.jS
 · have:=r.1;rw[im (by omega)];exact p
 · refine(v.mono λj d q=>?_:eU H (λj=>pt c H.n H1.n 6 j=3∧c j=3) xo is).kx kk (λj d q=>by omega) |>.mono λj _ q=>q.1
   rw[im (by omega)];exact⟨q,q⟩
 · refine(hs.mono λj d q=>?_:Ls 1 b6 (λj=>pt c H.n H1.n 6 j=4∧c j=4) H xs is.length).kx kk (λj d q=>by omega) |>.mono λj _ q=>q.1
   rw[im (by omega)];exact⟨q,q⟩
 · refine(hl.mono λj d q=>?_:Ls 1 b6 (λj=>pt c H.n H1.n 6 j=5∧c j=5) H xl is.length).kx kk (λj d q=>by omega) |>.mono λj _ q=>q.1
   rw[im (by omega)];exact⟨q,q⟩
 · refine (y.kx kp λj d q=>?_).mono λj d q=>?_
   · subst q;rcases d with d|d
     ·rw[h.um]at d;cases d
     ·omega
   · unfold pt;have:=u j;split
     ·rfl
     ·omega
 · rcases acN.1 i with i|i
   ·exact .inl ((x b i).elim _root_.id λq=>q.elim)
   ·rw[afh]at i;exact .inr i
 · rw[ad9];have:bs.length≤B:=o.1;refine⟨?_,o.2⟩;show bs.length+1≤B+1;omega
 · unfold pt at d;split at d;all_goals omega
end
section
variable{C:Ctx}(Z:Cl (ae C) S.bg){B l m ip f L:Nat}(hL:L≤4000){H:AH}{c:Nat→Nat}{is:List (List Int)}{Q:ab}{o:bM}
include Z hL
theorem Ys(h:cy (hj B l) m ip f L H c is)(hB:B≤900000)(ad:is.length+2≤900000)(A:∀new H' c',b_ (hj (B+1) l) m ip f L H c is new 2 H' c'→Q (.ar []) H') :
  ae C 60 [.ptr m 0,.agg o.cells] H Q:=by
 refine S.Rn Z ?_;unfold S.f60;simp only[lr,aK,el,X,aQ,aT];rw[dJ [(0,1,I 13)] (IV [13,0,0,0,0,0,0]) rfl];simp only[X];rw[cG H _ (IV [13,0,0,0,0,0,0]) 7 rfl rfl rfl];have t:=At.new H (.row (IV [13,0,0,0,0,0,0]));have ag:=h.pl.lt;have u:c H.n=0:=by
  rcases Nat.eq_zero_or_pos (c H.n)with q|q
  ·exact q
  ·have:=h.bd H.n (by omega);omega
 obtain⟨h1,e1⟩:=cy.kx Z h (KX.push H (.row (IV [13,0,0,0,0,0,0])));generalize H.push (.row (IV [13,0,0,0,0,0,0]))=H1 at *;simp only[X,oi,bL,F,aE];have k1:∀(new:List (List Int)) H2 c2 (op d:Int),((op=13∧d=0)∨(op=15∧Rg d))→b_ (hj B l) m ip f L H c is new 1 H2 c2→At H2 H.n (.row (IV [op,d,0,0,0,0,0]))→c2 H.n=0→S.vk (ae C) (.ptr m 0) (.ak o.cells) (.ptr H.n 0) Q [] H2:=by
  intro new H2 c2 op d v s2 a2 z2;obtain⟨xo,l1,l2⟩:=s2.r.now.qb;have ah:(is++new).length≤is.length+1:=by rw[ad9];have:=s2.l;omega
  obtain⟨xb,ai,aj,al,am,D,E,G,m4,w⟩:=cy.wait s2.r.now hB o.cW;simp only[S.vk,aC,aa,abg,D,l1,l2,X,el,MB];rw[show aD [O,O] [(0,1,I ((is++new).length:Nat)),(1,1,I o.cW)]=some (.agg (ct (((is++new).length:Int),o.cW)))from rfl];simp only[X];rw[show cb H2 false 2 1 [O,O] [(0,2,.agg (ct (((is++new).length:Int),o.cW)))]=some (.ax .full 1 (ct (((is++new).length:Int),o.cW)),H2)from rfl];simp only[aK];rw[E];simp only[aK];rw[G];simp only[X];obtain⟨a4,z4⟩:=w.at a2 z2;rw[a4.load,dP (by rfl)];simp only[X];refine fy Z m4 (by omega) rfl λx c5 y=>?_;have m5:=cy.fin y.now (λb q=>by subst q;exact⟨(is++new).length,op,d,0,rfl,by rw[ab9 (hT _),afc];rfl,v⟩)
  have hi:eJ [op,d,0,0,0,0,0]:=by
   rcases v with⟨rfl,rfl⟩|⟨rfl,K⟩
   ·exact C1 ⟨by decide,by decide⟩
   ·exact sq (.inl rfl) K ⟨by decide,by decide⟩
  have M:b_ (hj (B+1) l) m ip f L H2 c2 (is++new) [[op,d,0,0,0,0,0]] 1 x c5:=⟨⟨m5,w.trans y.es⟩,hT _,gJ ⟨hi,λ_=>by show 0≤((is++new).length:Int)+((0:Nat):Int)+0∧((is++new).length:Int)+((0:Nat):Int)+0≤((is++new).length:Int)+((1:Nat):Int);omega⟩ oh⟩
  exact A _ x c5 (s2.tr M)
 have s1:b_ (hj B l) m ip f L H c is [] 0 H1 c:=⟨⟨by rw[aee];exact h1,e1⟩,hT _,Ok.nil _⟩
 refine aB (λ_=>?_) (λ_=>k1 [] H1 c 13 0 (.inl ⟨rfl,rfl⟩) (s1.mono (by decide)) t u);simp only[mc,X];refine hY Z hL h1 (by omega) (rp 8) λa n2 H2 c2 N s2=>?_;rw[dJ [(0,1,I 15),(1,1,I a)] (IV [15,a,0,0,0,0,0]) rfl];simp only[X];obtain⟨a2,z2⟩:=s2.r.es.at t u;rw[a2.store,af ⟨rfl,rfl,rfl,by show 0+7≤7;decide⟩];simp only[X];rw[show setCells (IV [13,0,0,0,0,0,0]) 0 (J.agg (IV [15,a,0,0,0,0,0])).cells=IV [15,a,0,0,0,0,0]from rfl];have kx:KX (·= H.n) H2 (H2.set H.n (.row (IV [15,a,0,0,0,0,0]))):=KX.set (S:=(·= H.n)) _ rfl _;have s:∀{j k:Nat},c2 j=k→k≠0→j≠H.n:=λe q r=>q (by rw[←e,r,z2]);have m3:cy (hj B l) m ip f L (H2.set H.n (.row (IV [15,a,0,0,0,0,0]))) c2 (is++n2):=by
  have h:=s2.r.now;obtain⟨xo,xs,xl,xb,V,e,lm,es,bs,P,z,R,hs,hl,T,mk,U,W,Y⟩:=h.row;have ab:ip≠H.n:=by omega
  exact⟨h.l7,h.um,h.bd,h.pl.kx kx ab,h.jS,xo,xs,xl,xb,V,e,lm,es,bs,kx.at P (s h.um (by decide)),z,R.kx kx λj p=>s p (by decide),hs.kx kx λj p=>s p (by decide),hl.kx kx λj p=>s p (by decide),kx.at T (s z (by decide)),mk,U.kx kx λj p=>s p (by decide),W,Y⟩
 have ac:ES H c (H2.set H.n (.row (IV [15,a,0,0,0,0,0]))) c2:=by
  have:=(e1.trans s2.r.es)
  exact⟨this.kx.trans kx λi hi q=>by omega,this.gr⟩
 have hl:=s2.l;exact k1 n2 _ c2 15 a (.inr ⟨rfl,N.g⟩) ⟨⟨m3,ac⟩,hl,s2.ok⟩ (a2.set _) z2
end
end Rb

namespace Rb
open Go
theorem b_.more{B d l:Nat}(hB:B≤d){m ip f L:Nat}{H e:AH}{c c1:Nat→Nat}{is a:List (List Int)}{w v:Nat}(h:b_ (hj B l) m ip f L H c is a w e c1)(g:w≤v):b_ (hj d l) m ip f L H c is a v e c1:=⟨⟨h.r.now.more (λb q=>q) hB rfl,h.r.es⟩,np h.l g,h.ok⟩
section
variable{C:Ctx}(Z:Cl (ae C) S.bg){B l m ip f L:Nat}(hL:L≤4000){H:AH}{c:Nat→Nat}{is:List (List Int)}{Q:ab}{o:bM}
include Z hL
theorem Yt(h:cy (hj B l) m ip f L H c is)(j:4≤o.kind→o.kind≤10→o.size=1∨o.size=2∨o.size=4∨o.size=8)(hB:B≤900000)(T:is.length+17≤900000)(y:∀l' new H' c',b_ (hj (B+1) l') m ip f L H c is new 17 H' c'→Q (.ar []) H') :
  ae C 27 [.ptr m 0,.agg o.cells] H Q:=by
 refine S.QQ Z ?_;unfold S.f27;simp only[lr,aK,el,X,Yk,aC,aa,abg];obtain⟨H1,e1,s1⟩:=cy.own Z h (k:=4) (.inl rfl) o.V;rw[e1];have h1:=s1.r.now;rw[aee]at h1;have out:∀{w:Nat}{l':Nat} new H' c',b_ (hj B l') m ip f L H1 c is new w H' c'→w≤17→Q (.ar []) H':=λnew H' c' s hw=>y _ new H' c' (by have:=s1.tr (b:=new) (by rw[aee];exact s);rw[afa,abg]at this;exact this.more (Nat.le_succ _) hw)
 have J:∀{w:Nat}{l':Nat} new H' c',b_ (hj (B+1) l') m ip f L H1 c is new w H' c'→w≤17→Q (.ar []) H':=λnew H' c' s hw=>y _ new H' c' (by have:=s1.tr (b:=new) (by rw[aee];exact s);rw[afa,abg]at this;exact this.more (hT _) hw)
 simp only[X,oi,bL,F,aE];have hk:∀{k:Int},(o.kind==k)=true→o.kind=k:=λq=>by simpa using q
 refine aB (λq=>?_) (λK=>?_)
 · simp only[mT,X];refine yi Z h1 (rp 11) λd H2 z s2=>?_;simp only[C5,X];refine su Z s2.r.now (by rw[aee];omega) z.g λn3 e c3 p=>?_;have t:=s2.trans p;exact yj Z hL t.r.now (by have:=t.l;rw[ad9];omega) z λn4 M N O=>out _ M N (t.trans O) (by decide)
 refine aB (λq=>?_) (λP=>?_)
 · simp only[mT,mc,X];refine hY Z hL h1 (by omega) (rp 8) λa n2 H2 c2 n s2=>?_;refine⟨trivial,?_⟩;exact ss Z hL s2.r.now (by have:=s2.l;rw[ad9];omega) n λn3 e c3 p=>out _ e c3 (s2.trans p) (by decide)
 refine aB (λq=>?_) (λR=>?_)
 · simp only[mS,X];exact Yl Z hL h1 (by omega) λn2 H2 c2 s2=>out _ H2 c2 s2 (by decide)
 have n1:o.kind≠1:=by simpa using K
 have n2:o.kind≠2:=by simpa using P
 have n3:o.kind≠3:=by simpa using R
 have k2:∀b:Bool,S.u0 (ae C) (.ptr m 0) (.ak o.cells) (I o.kind) Q [.bool b] H1:=by
  intro b;simp only[S.u0,ay,F,mS,X,bL];apply aB<;>intro _
  ·exact Ys Z hL h1 hB (by omega) λn2 H2 c2 s2=>J _ H2 c2 s2 (by decide)
  apply aB<;>intro _
  ·exact Yr Z hL h1 (by omega) λn2 H2 c2 s2=>out _ H2 c2 s2 (by decide)
  apply aB<;>intro _
  · simp only[el,mc,X];refine hY Z hL h1 (by omega) (rp 8) λa n2 H2 c2 n s2=>?_;have:=n.1;have:=n.2;simp only[br];rw[bJ];simp only[X];rw[dJ [(0,1,I 31),(6,1,I (1+a))] (IV [31,0,0,0,0,0,1+a]) rfl];simp only[X];exact fy Z s2.r.now (by have:=s2.l;rw[ad9];omega) rfl λe c3 u=>out _ e c3 (s2.trans (b_.one u (C2 (.inl rfl) ⟨by omega,by omega⟩) (nB (.inr (by decide))))) (by decide)
  · simp only[aC,aa,abg,X];obtain⟨H2,x,s2⟩:=cy.own Z h1 (k:=7) (.inr rfl) 1;rw[x];simp only[X];exact out _ H2 c s2 (by decide)
 have A:∀b:Bool,S.u1 (ae C) (.ptr m 0) (.ak o.cells) (I o.kind) Q [.bool b] H1:=by
  intro b;simp only[S.u1,ay,F,mS,X,bL,aE];apply aB<;>intro _
  ·exact Yq Z hL h1 (by omega) λn2 H2 c2 s2=>out _ H2 c2 s2 (by decide)
  apply aB<;>intro _
  · simp only[el,oj,X,bL,F];have k1:∀v:Int,(v=0∨v=1)→S.uZ (ae C) (.ptr m 0) (.ak o.cells) Q [I v] H1:=by
     intro v hv;simp only[S.uZ,el,om,X,ay];rw[dJ [(0,1,I 29),(6,1,I v)] (IV [29,0,0,0,0,0,v]) rfl];simp only[X];exact lq Z h1 (by omega) rfl λe c3 u=>out _ e c3 (b_.one u (Yb ⟨by omega,by omega⟩) (nB (.inr (by decide)))) (by decide)
    exact aB (λ_=>k1 1 (.inr rfl)) (λ_=>k1 0 (.inl rfl))
  apply aB<;>intro _
  · obtain⟨lm,H2,l1,x,s2⟩:=cy.label h1 o.cW;obtain⟨xo,l2,l3⟩:=h1.qb;simp only[aC,aa,abg,X,l1,el,MB,l2,l3,x];exact out _ H2 c s2 (by decide)
  exact aB (λ_=>k2 _) (λ_=>k2 _)
 have D:∀b:Bool,(b=true→4≤o.kind∧o.kind≤10)→S.u2 (ae C) (.ptr m 0) (.ak o.cells) (I o.kind) Q [.bool b] H1:=by
  intro b i;simp only[S.u2,ay,F,mS,X,bL,aE];refine aB (λq=>?_) (λ_=>?_)
  · have:=i q;exact Yo Z hL h1 (j this.1 this.2) (by omega) λn2 H2 c2 s2=>out _ H2 c2 s2 (by decide)
  refine aB (λq=>?_) (λ_=>?_)
  · have:=hk q;exact Yp Z hL h1 (j (by omega) (by omega)) (by omega) λn2 H2 c2 s2=>out _ H2 c2 s2 (by decide)
  exact aB (λ_=>A _) (λ_=>A _)
 have E:∀b:Bool,(b=true→4≤o.kind∧o.kind≤10)→S.u3 (ae C) (.ptr m 0) (.ak o.cells) (I o.kind) Q [.bool b] H1:=by
  intro b i;simp only[S.u3,ay,F,mS,X,bL,aE];refine aB (λq=>?_) (λ_=>?_)
  · have:=i q;exact Yn Z hL h1 (j this.1 this.2) (by omega) λn2 H2 c2 s2=>out _ H2 c2 s2 (by decide)
  exact aB (λq=>D _ λ_=>by have:=hk q;omega) (λq=>D _ λq=>by have:=hk q;omega)
 have G:∀b:Bool,(b=true→4≤o.kind∧o.kind≤10)→S.u4 (ae C) (.ptr m 0) (.ak o.cells) (I o.kind) Q [.bool b] H1:=by
  intro b i;simp only[S.u4,ay,F,mS,X,bL,aE];refine aB (λq=>?_) (λ_=>?_)
  · have:=i q;exact Ym Z hL h1 (j this.1 this.2) (by omega) λn2 H2 c2 s2=>out _ H2 c2 s2 (by decide)
  exact aB (λq=>E _ λ_=>by have:=hk q;omega) (λq=>E _ λq=>by have:=hk q;omega)
 exact aB (λq=>G _ λ_=>by have:=hk q;omega) (λq=>G _ λq=>by have:=hk q;omega)
end
end Rb

namespace Rb
open Go
variable{H:AH}{k:Nat}{op d x:Int}
def yn(n:Nat)(a:List (List Int)):Prop:=∀(k:Nat)(x:List Int),a[k]?=some x→eJ x∧(mR x→0≤(k:Int)+x.getD 6 0∧(k:Int)+x.getD 6 0<n)
theorem MD:∀{a:List (List Int)}{k:Nat}{op d x:Int}(v:Int),(∀i∈a,i.length=7)→a[k]?=some [op,d,0,0,0,0,x]→(a.flatMap IV).set (k*7+6) (I v)=(a.set k [op,d,0,0,0,0,v]).flatMap IV
 |[],k,op,d,x,v,_,h=>by simp at h
 | y::r,0,op,d,x,v,b,h=>by simp at h;subst h;rfl
 | y::r,k+1,op,d,x,v,b,h=>by have c:=MD v (λi hi=>b i (acV _ hi)) (show r[k]?=some [op,d,0,0,0,0,x] by simpa using h);have e:=b y (acW ..);rw[adR,show(k+1)*7+6=(IV y).length+(k*7+6) by rw[jG,e];omega,afB _ _ (Nat.le_add_right _ _),afA,c];rfl
theorem eU.patch{U:Nat→Prop}{xo:J}{b:List (List Int)}(h:eU H U xo b)(c:∀i∈b,i.length=7)(e:b[k]?=some [op,d,0,0,0,0,x])(v:Int) :
  ∃f g H',aL none 7 xo (I (k:Nat))=some (.ptr f g)∧au H 1 (.ptr f (g+6)) (I v)=some H'∧eU H' U xo (b.set k [op,d,0,0,0,0,v])∧KX U H H':=by
 have j:=(aat.1 e).1;rcases h with⟨_,rfl⟩|⟨id,rfl,a,l⟩
 ·simp at j
 · have hl:=sr c;refine⟨id,k*7,H.set id (.row ((b.set k [op,d,0,0,0,0,v]).flatMap IV)),dH j,?_,.inr ⟨id,by rw[acT],a.set _,l⟩,KX.set _ l _⟩;rw[a.store,af ⟨rfl,rfl,rfl,by omega⟩,←MD v c e];rfl
theorem mb.set{a:List (List Int)}{b:Int×Int}(h:mb a b){op d x v:Int}(c:a[k]?=some [op,d,0,0,0,0,x]):mb (a.set k [op,d,0,0,0,0,v]) b:=by
 obtain⟨j,g,i,l,e,h1,f⟩:=h;by_cases q:j=k
 · subst q;rw[c]at h1;cases h1;exact⟨j,op,d,v,e,abo (aat.1 c).1,f⟩
 ·exact⟨j,g,i,l,e,by rw[abp (abj q)];exact h1,f⟩
section
variable{C:Ctx}(Z:Cl (ae C) S.bg)
include Z
theorem Yu{A:List bM}(bt:A.length≤400)(aI:∀o∈A,4≤o.kind→o.kind≤10→o.size=1∨o.size=2∨o.size=4∨o.size=8){tk:Tok}{g f L:Nat}(hL:L≤4000)(ao:Rw 1 (Pv L) H g f){n:Int}{Q:ab}
  (aJ:∀(e:Int) H',e≠0→Q (.ar [aA,aA,aA,I e]) H')
  (aL:∀xo xs xl (U:Nat→Prop) (is:List (List Int)) H',(∀i∈is,i.length=7)→eU H' U xo is→aY false xl=some (I (is.length:Nat))→is.length≤10000→yn is.length is→(∃r,is=r++[[31,0,0,0,0,0,0]])→Q (.ar [xo,xs,xl,O]) H') :
  ae C 8 [.ax tk A.length (A.flatMap bM.cells),.row g 0 f 1,u n] H Q:=by
 refine S.Qy Z ?_;unfold S.f8;rw[show aD [aA,aA,aA,aA,O,.eK,aA,O] [(0,1,.row g 0 f 1),(5,1,.map H.n)]=some (.agg [.row g 0 f 1,aA,aA,aA,O,.map H.n,aA,O])from rfl];simp only[X];rw[show aM (H.push (.map [])) true 8 (.agg [.row g 0 f 1,aA,aA,aA,O,.map H.n,aA,O])=some (.ptr (H.n+1) 0,(H.push (.map [])).push (.row [.row g 0 f 1,aA,aA,aA,O,.map H.n,aA,O]))from rfl];simp only[aK];have bu:=ao.lt;have am:At ((H.push (.map [])).push (.row [.row g 0 f 1,aA,aA,aA,O,.map H.n,aA,O])) (H.n+1) (.row [.row g 0 f 1,aA,aA,aA,O,.map H.n,aA,O]):=At.new _ _;have al:At ((H.push (.map [])).push (.row [.row g 0 f 1,aA,aA,aA,O,.map H.n,aA,O])) H.n (.map []):=(At.new H _).push _;have aN:cy (hj 0 0) (H.n+1) g f L ((H.push (.map [])).push (.row [.row g 0 f 1,aA,aA,aA,O,.map H.n,aA,O])) (λi=>if i=H.n+1 then 1 else if i=H.n then 2 else 0) []:=by
  refine⟨λi hi=>(by cases hi),af rfl,λi hi=>?_,(ao.kx (KX.push (S:=λ_=>False) _ _) λh=>h).kx (KX.push (S:=λ_=>False) _ _) λh=>h,?_,_,_,_,_,0,0,H.n,[],[],am,?_,.inl ⟨rfl,rfl⟩,.inl ⟨rfl,rfl⟩,.inl ⟨rfl,rfl⟩,al,λe he=>(by cases he),⟨.nil,rfl,.inl ⟨rfl,rfl⟩⟩,λb P=>(by cases P),hT _,hT _⟩
  · have:=am.1;have:=al.1
    repeat' split at hi
    all_goals omega
  ·rw[bO,bO]
  ·rw[bO,af rfl]
 generalize (H.push (.map [])).push (.row [.row g 0 f 1,aA,aA,aA,O,.map H.n,aA,O])=H0 at *;generalize (λi=>if i=H.n+1 then 1 else if i=H.n then 2 else 0)=aO at *;generalize H.n+1=m at *;refine su Z aN (by decide) ⟨by decide,by decide⟩ λn1 H1 c1 s1=>?_;simp only[iC,X];have main : ∀(d i:Nat)(l:Nat)(new:List (List Int)) (H1:AH) (c1:Nat→Nat),i+d=A.length→b_ (hj i l) m g f L H0 aO [] new (4+17*i) H1 c1→av (S.uJ (ae C) (.ax tk A.length (A.flatMap bM.cells)) (.ptr m 0) (I (A.length:Nat)) Q) ([I (i:Nat)],H1):=by
  intro d;induction d with
  | zero =>
   intro i l new H1 c1 hi s1;refine av.step ?_;simp only[S.uJ,ay,aU,X,F,aE];rw[en];have aP:=s1.l;simp only[S.FB];rw[dJ [(0,1,I 31)] (IV [31,0,0,0,0,0,0]) rfl];simp only[X];have aR:l≤new.length:=by obtain⟨_,_,_,_,_,_,_,_,_,_,_,_,_,_,_,_,_,_,aS⟩:=s1.r.now.row;have:l≤([]++new:List (List Int)).length:=aS.2;simpa using this
   refine fy Z s1.r.now (by simp;omega) rfl λH2 c2 aV=>?_;have z:=aV.now;rw[afa]at z;obtain⟨xo,xs,xl,xb,V,e,lm,es,bs,a,R,G,hs,aW,aX,mk,aZ,a0,a1⟩:=z.row;have T:=z.um;have bv:=z.bd;have a2:W H2 1 false (.ptr m 6)=some xb:=by rw[a.load];rfl
   obtain⟨tb,rfl,_⟩:=aZ;simp only[aC,aa,abg,X,a2,iC];have ap:(new++[[31,0,0,0,0,0,0]]:List (List Int)).length=new.length+1:=by simp
   have f0:yn (new.length+1) (new++[[31,0,0,0,0,0,0]]):=by
    intro k x y;by_cases hk:k<new.length
    · rw[List.getElem?_append_left hk]at y;obtain⟨B,Y⟩:=s1.ok k x y;refine⟨B,λq=>?_⟩;have:=Y q;simp only[List.length_nil]at this;omega
    · rw [ab9 (by omega)]at y;have a6:k-new.length=0:=by
       have:=(aat.1 y).1;simp at this;omega
      rw[a6]at y;cases y;exact⟨C2 (.inl rfl) ⟨by decide,by decide⟩,λq=>absurd q (nB (.inr (by decide)))⟩
   have bw:bs.length≤400:=by have:bs.length≤i:=a1.1;omega
   have inner:∀(J j:Nat)(s:List (List Int)) (e:Int) (c:AH),j+J=bs.length→(∀i∈s,i.length=7)→At c m (.row [.row g 0 f 1,xo,xs,xl,I V,.map lm,.ax tb bs.length (bs.flatMap ct),I e])→eU c (c2 ·= 3) xo s→At c lm (.map es)→s.length=new.length+1→(∀b∈bs,mb s b)→yn (new.length+1) s→s[new.length]?=some [31,0,0,0,0,0,0] →
     av (S.qZ (ae C) (.ptr m 0) (.ax tb bs.length (bs.flatMap ct)) (I (bs.length:Nat)) Q) ([I (j:Nat)],c):=by
    intro J;induction J with
    | zero=>
     intro j s e c a7 K a3 ac aq M ad f3 last;refine av.step ?_;simp only[S.qZ,ay,aU,X,F,aE];rw[en];have a8:W c 1 false (.ptr m 7)=some (I e):=by rw[a3.load];rfl
     have B:W c 1 false (.ptr m 1)=some xo:=by rw[a3.load];rfl
     have Y:W c 1 false (.ptr m 2)=some xs:=by rw[a3.load];rfl
     have a9:W c 1 false (.ptr m 3)=some xl:=by rw[a3.load];rfl
     simp only[S.FA,aC,aa,abg,X,a8,B,Y,a9,dA,F];refine aB (λq=>aJ e c (by simpa using q)) (λq=>?_);refine aL xo xs xl _ s c K ac ?_ (by omega) (by rw[M];exact f3) ?_
     ·rw[aW.len,M,ap]
     · refine⟨s.take new.length,?_⟩;have:s.take (new.length+1)=s.take new.length++[[31,0,0,0,0,0,0]]:=by rw[List.take_add_one,last];rfl
       rw[←this,aeb (by omega)]
    | succ J ag =>
     intro j s e c a7 K a3 ac aq M ad f3 last;refine av.step ?_;simp only[S.qZ,ay,aU,X,F,aE];rw[e_];obtain⟨b,au⟩:∃b,bs[j]?=some b:=⟨_,abm (by omega)⟩
     obtain⟨e1,ah⟩:=L8 au tb;rw[e1];simp only[X,ah,aQ,aT,aK];rw[cG c [O,O] (ct b) 2 rfl rfl rfl];have ai:KX (λ_=>False) c (c.push (.row (ct b))):=KX.push _ _;have aj:=At.new c (.row (ct b));have a4:=ai.at a3 λh=>h;have aw:=ac.kx ai λ_ _ h=>h;have ak:=ai.at aq λh=>h;have a_:m≠c.n:=by have:=a3.1;omega
     generalize c.push (.row (ct b))=D at *;have ba:W D 1 false (.ptr m 5)=some (.map lm):=by rw[a4.load];rfl
     have b1:W D 1 false (.ptr c.n 1)=some (I b.2):=by rw[aj.load];rfl
     simp only[aC,aa,abg,X,ba,b1];obtain⟨k,op,bx,bA,bb,E,az⟩:=ad b (adl au);have bc:=(aat.1 E).1;have go : ∀(t:Nat)(e:Int)(w:AH),t≤new.length→At w m (.row [.row g 0 f 1,xo,xs,xl,I V,.map lm,.ax tb bs.length (bs.flatMap ct),I e])→eU w (c2 ·= 3) xo s→At w lm (.map es)→At w c.n (.row (ct b)) →
       S.uI (ae C) (.ptr m 0) (.ptr c.n 0) (I (t:Nat)) ([I (j:Nat)],c) (av (S.qZ (ae C) (.ptr m 0) (.ax tb bs.length (bs.flatMap ct)) (I (bs.length:Nat)) Q)) Q [] w:=by
      intro t e w ht a5 be bf bg;have B:W w 1 false (.ptr m 1)=some xo:=by rw[a5.load];rfl
      have b0:W w 1 false (.ptr c.n 0)=some (I (k:Nat)):=by rw[bg.load];show some (I b.1)=_;rw[bb]
      simp only[S.uI,aC,aa,abg,X,B,b0,cM];rw[bJ];obtain⟨p,q,bh,bi,z3,bj,aF⟩:=be.patch K E ((t:Int)-(k:Int));rw[bi];simp only[X,z3,aE,S.Fz,ay,br,wN (show j≤4000000000000000000 by omega)];have aG : -262144≤(t:Int)-(k:Int)∧(t:Int)-(k:Int)<262144:=⟨by omega,by omega⟩
      refine ag (j+1) _ e bh (by omega) (λi hi=>?_) (aF.at a5 (by rw[T];decide)) bj (aF.at bf (by rw[R];decide)) (by rw[acT];exact M) (λbk bl=>(ad bk bl).set E) (λk' bm N=>?_) ?_
      · rcases afC hi with hi|hi
        ·exact K i hi
        ·rw[hi];rfl
      · by_cases aH:k'=k
        · subst aH;rw[abo bc]at N;cases N;refine⟨?_,λ_=>?_⟩
          · rcases az with⟨rfl,rfl⟩|⟨rfl,bn⟩
            ·exact C1 aG
            ·exact sq (.inl rfl) bn aG
          · show 0≤(k':Int)+((t:Int)-(k':Int))∧(k':Int)+((t:Int)-(k':Int))<((new.length+1:Nat):Int);omega
        · rw[abp (abj aH)]at N;exact f3 k' bm N
      · rw [abp ?_]
        ·exact last
        · rintro rfl;rw[last]at E;cases E;rcases az with⟨h,_⟩|⟨h,_⟩<;>cases h
     rcases sj ak mk O true b.2 with⟨h,_⟩|⟨_,v,h,_,⟨t,rfl,ht⟩⟩
     · rw[h];simp only[X,gh,aT,bo,adW,adX,dO,Bool.not_false,F];rw[a4.store,af ⟨rfl,rfl,rfl,by show 7+1≤8;decide⟩];simp only[X];have kp:KX (·= m) D (D.set m (.row (setCells [.row g 0 f 1,xo,xs,xl,I V,.map lm,.ax tb bs.length (bs.flatMap ct),I e] 7 (I 1).cells))):=KX.set (S:=(·= m)) _ rfl _;exact go 0 1 _ (Nat.zero_le _) (a4.set _) (aw.kx kp λi hi q=>by subst q;rw[T]at hi;cases hi) (kp.at ak (λq=>by subst q;rw[T]at R;cases R)) (kp.at aj (λq=>a_ q.symm))
     · rw[h];simp only[X,gh,aT,bo,adW,adX,dO,aet,F,acq,bz];exact go t e D (np ht aR) a4 aw ak aj
   refine inner bs.length 0 _ e H2 (by omega) z.l7 a G aX ap (λb P=>(a0 b P).elim _root_.id λq=>q.elim) f0 ?_;rw[ab9 (hT _),afc];rfl
  | succ d ag=>
   intro i l new H1 c1 hi s1;refine av.step ?_;simp only[S.uJ,ay,aU,X,F,aE];rw[e_];obtain⟨o,G⟩:∃o,A[i]?=some o:=⟨_,abm (by omega)⟩
   obtain⟨e1,ah⟩:=CN G tk;rw[e1];simp only[X,ah,aQ,aT,aK];rw[cG H1 CO o.cells 13 rfl rfl rfl];simp only[X,ey];rw[dP (by rfl)];simp only[X];obtain⟨bp,bq⟩:=cy.kx Z s1.r.now (KX.push H1 (.row o.cells));have aP:=s1.l;refine Yt Z hL bp (aI o (adl G)) (by omega) (by simp;omega) λl' n2 H2 c2 s2=>?_;simp only[br,X,wN (show i≤4000000000000000000 by omega)];have an:b_ (hj (i+1) l') m g f L H1 c1 ([]++new) n2 17 H2 c2:=⟨⟨s2.r.now,bq.trans s2.r.es⟩,s2.l,s2.ok⟩
   exact ag (i+1) l' _ H2 c2 (by omega) ⟨(s1.tr an).r,by have:=(s1.tr an).l;omega,(s1.tr an).ok⟩
 exact main A.length 0 0 n1 H1 c1 (by omega) s1
end
end Rb

namespace Rb
open Go
variable{n v:Int}{i:List Int}{k id:Nat}
theorem C6(op:Int):∀(s:List UInt8)(rest:List Int)(w:Int),rest.length=7→(iZ op s rest w).2=0→∀k,1≤k→k<7→rest.getD k 0=0∨∃c∈s,(c.toNat:Int)≠122∧fk c.toNat=k∧dG (cq c.toNat) (rest.getD k 0)=true
 | [],rest,w,hl,h,k,h1,a=>by
  unfold iZ at h;split at h
  · rename_i e;left;rw[e]
    match k,h1,a with
    |1,_,_=>rfl
    |2,_,_=>rfl
    |3,_,_=>rfl
    |4,_,_=>rfl
    |5,_,_=>rfl
    |6,_,_=>rfl
  ·cases h
 | c :: r,rest,w,hl,h,k,h1,a=>by
  unfold iZ at h;by_cases hc:(c.toNat:Int)=122
  · rw[af hc]at h;rcases C6 op r rest w hl h k h1 a with e|⟨d,b,e⟩
    ·exact .inl e
    ·exact .inr ⟨d,acV _ b,e⟩
  · rw [ai hc]at h;by_cases hf:dG (cq c.toNat) (rest.getD (fk c.toNat) 0)=true
    · rw [af hf]at h;by_cases hk:fk c.toNat=k
      ·exact .inr ⟨c,acW ..,hc,hk,by rw[←hk];exact hf⟩
      · have e0:(rest.set (fk c.toNat) 0).getD k 0=rest.getD k 0:=by simp[afD,List.getElem?_set,hk]
        rcases C6 op r _ _ (by simpa using hl) h k h1 a with e|⟨d,b,e1,g,f⟩
        ·left;rw[←e0];exact e
        ·right;rw[e0]at f;exact⟨d,acV _ b,e1,g,f⟩
    ·rw[ai hf]at h;cases h
theorem ME(hl:i.length=7)(h:(ga i).2=0)(k:Nat)(a:1≤k)(b:k<7):i.getD k 0=0∨∃c:Int,c≠122∧fk c=k∧dG (cq c) (i.getD k 0)=true:=by
 unfold ga at h;split at h
 ·cases h
 · rcases C6 _ _ _ _ hl h k a b with e|⟨c,_,e1,d,f⟩
   ·exact .inl e
   ·exact .inr ⟨_,e1,d,f⟩
theorem MF{f:iE}{x:Int}(h:dG f x=true)(hs:f.2.2.1=false):0≤x∧x≤f.2.2.2.2:=by unfold dG at h;rw[hs]at h;simpa using h
theorem MG{c:Int}(h:fk c=k)(f:k<6):(cq c).2.2.1=false∧(cq c).2.2.2.2≤(if k=4∨k≤3 then 31 else 3):=by
 have hc:c=100∨(c=110∨c=97)∨c=109∨(c=101∨c=113∨c=99∨c=107)∨c=115:=by
  unfold fk at h;by_cases h1:c=100;·exact .inl h1
  rw[ai h1]at h;by_cases a:c=110∨c=97;·exact .inr (.inl a)
  rw[ai a]at h;by_cases b:c=109;·exact .inr (.inr (.inl b))
  rw[ai b]at h;by_cases d:c=101∨c=113∨c=99∨c=107;·exact .inr (.inr (.inr (.inl d)))
  rw[ai d]at h;by_cases e:c=115;·exact .inr (.inr (.inr (.inr e)))
  rw[ai e]at h;omega
 rcases hc with rfl|(rfl|rfl)|rfl|(rfl|rfl|rfl|rfl)|rfl<;>(rw[←h];exact⟨by decide,by decide⟩)
theorem hZ(hl:i.length=7)(h:(ga i).2=0)(a:1≤k)(f:k≤4):0≤i.getD k 0∧i.getD k 0≤31:=by
 rcases ME hl h k a (by omega)with e|⟨c,_,b,hf⟩
 ·rw[e];exact⟨by decide,by decide⟩
 · obtain⟨hs,hm⟩:=MG b (by omega);obtain⟨d,g⟩:=MF hf hs;rw[cA]at hm;exact⟨d,by omega⟩
theorem Yv(hl:i.length=7)(h:(ga i).2=0):0≤i.getD 5 0∧i.getD 5 0≤3:=by
 rcases ME hl h 5 (by omega) (by omega)with e|⟨c,_,a,hf⟩
 ·rw[e];exact⟨by decide,by decide⟩
 · obtain⟨hs,hm⟩:=MG a (by omega);obtain⟨b,d⟩:=MF hf hs;rw[bO]at hm;exact⟨b,by omega⟩
structure g where
 x:List Int
 pc:Int
 z:Bool
 c:Bool
 wa:Int
 wl:Int
def g.cells(s:g):List J:=s.x.map (J.int .u64)++[.int .i64 s.pc,.bool s.z,.bool s.c,.int .i64 s.wa,.int .i64 s.wl]
def dK(v:Int):Prop:=0≤v∧v<18446744073709551616
structure g.ok(s:g):Prop where
 len:s.x.length=31
 u:∀v∈s.x,dK v
theorem g.jU{s:g}(h:s.ok):s.cells.length=36:=by simp[g.cells,h.len]
theorem g.scalar(s:g):s.cells.all J.scalar=true:=by simp only[g.cells,aed,afE,aaz,abt];exact⟨λ_ _=>rfl,by simp[J.scalar]⟩
theorem g.bI(s:g):J.b7 s.cells=true:=by rw[ny];simp only[g.cells,aed,afE,aaz,abt];exact⟨λ_ _=>rfl,by simp[J.bI]⟩
theorem dK.wrap(n:Int):dK (abF .u64 n):=by unfold dK abF;simp only[IntKind.signed,aaH];have:=Int.emod_nonneg n (show(18446744073709551616:Int)≠0 by decide);have:=Int.emod_lt_of_pos n (show(0:Int)<18446744073709551616 by decide);first|exact⟨by simpa using ‹0≤n%18446744073709551616›,by simpa using ‹n%18446744073709551616<18446744073709551616›⟩|omega
def g.get(s:g)(n:Int):Int:=if n=31 then 0 else s.x.getD n.toNat 0
def g.put(s:g)(n v:Int):g:=if n=31 then s else {s with x:=s.x.set n.toNat v}
theorem g.C7{s:g}(h:s.ok)(b:0≤n)(c:n≤31):dK (s.get n):=by
 unfold g.get;split
 ·exact⟨by decide,by decide⟩
 · have a:n.toNat<s.x.length:=by rw[h.len];omega
   simp only[afD,abm a,Option.getD_some];exact h.u _ (abu a)
theorem g.jV{s:g}(h:s.ok)(hv:dK v):(s.put n v).ok:=by
 unfold g.put;split
 ·exact h
 · exact ⟨by simpa using h.len,λw hw=>by
     rcases afC hw with hw|rfl
     ·exact h.u _ hw
     ·exact hv⟩
section
variable{Φ:ad}{H:AH}{Q:ab}
theorem Yw{s:g}(h:s.ok){n:Nat}(a:n<31):bE s.cells n 1 false=some (.int .u64 (s.x.getD n 0)):=by unfold bE;rw[af (by rw[g.jU h];omega),dC];have hl:=h.len;simp[g.cells,List.getElem?_append,hl,a,afD]
theorem C8{s:g}(h:s.ok){v:J}(hv:[J.int .i64 s.pc,.bool s.z,.bool s.c,.int .i64 s.wa,.int .i64 s.wl][k]?=some v):bE s.cells (31+k) 1 false=some v:=by
 have hk:k<5:=by
  rcases Nat.lt_or_ge k 5 with h|h
  ·exact h
  ·rw[List.getElem?_eq_none (by simpa using h)]at hv;cases hv
 unfold bE;rw[af (by rw[g.jU h];omega),dC];have hl:=h.len;rw[g.cells,ab9 (by simp[hl])];simpa[hl]using hv
theorem Yx{s:g}(h:s.ok)(a:At H id (.row s.cells))(c:0≤n)(d:n≤31)(b:Q (.int .u64 (s.get n)) H):S.f34 Φ (.ptr id 0) (.int .i64 n) H Q:=by
 unfold S.f34;unfold g.get at b;simp only[bL,X,F];refine cz (λh=>?_) (λhc=>?_)
 ·rw[af (by simpa using h)]at b;exact b
 · have hc:n≠31:=by simpa using hc
   rw[ai hc]at b;simp only[aC,aa,X,aa6];rw [show aL (some 31) 1 (.ptr id 0) (.int .i64 n)=some (.ptr id n.toNat) by show(if 0≤n∧n<(31:Nat)then some (J.ptr id (0+n.toNat*1))else none)=_;rw[af ⟨c,by omega⟩];simp]
   simp only[X];rw[a.load,Yw h (by omega)];simp only[X];exact b
theorem Yy{s:g}(h:s.ok){n:Nat}(b:n<31)(v:Int):setCells s.cells n [.int .u64 v]=({s with x:=s.x.set n v}:g).cells:=by
 have key:∀(xs:List Int)(t:List J)(k:Nat),k<xs.length→setCells (xs.map (J.int .u64)++t) k [.int .u64 v]=(xs.set k v).map (J.int .u64)++t:=by
  intro xs t;induction xs with
  |nil=>intro k hk;simp at hk
  | cons a r c=>
   intro k hk;cases k with
   |zero=>rfl
   |succ k=>exact congrArg _ (c k (Nat.lt_of_succ_lt_succ hk))
 exact key _ _ _ (by rw[h.len];exact b)
theorem Yz{s:g}(h:s.ok)(a:At H id (.row s.cells))(c:0≤n)(f:n≤31)(b:∀H',At H' id (.row (s.put n v).cells)→H'.n=H.n→(∀j,j≠id→H'.o j=H.o j)→Q (.ar []) H'):S.f35 Φ (.ptr id 0) (.int .i64 n) (.int .u64 v) H Q:=by
 unfold S.f35;unfold g.put at b;simp only[dA,X,F];apply cz<;>intro hc
 · have hc:n≠31:=by simpa using hc
   rw[ai hc]at b;simp only[aC,aa,X,aa6];rw [show aL (some 31) 1 (.ptr id 0) (.int .i64 n)=some (.ptr id n.toNat) by show(if 0≤n∧n<(31:Nat)then some (J.ptr id (0+n.toNat*1))else none)=_;rw[af ⟨c,by omega⟩];simp]
   simp only[X];rw[a.store,af ⟨rfl,rfl,rfl,by rw[g.jU h];omega⟩];simp only[X];have e:=Yy h (n:=n.toNat) (by omega) v;rw[show(J.int .u64 v).cells=[.int .u64 v]from rfl,e];exact b _ (a.set _) rfl (λj d=>AH.cd H _ d)
 · rw[af (by simpa using hc)]at b;exact b _ a rfl λ_ _=>rfl
theorem YA{op a b:Int}(c:Q (.bool (decide (op≥a)&&decide (op≤b))) H):S.f65 Φ (.int .i64 op) (.int .i64 a) (.int .i64 b) H Q:=by unfold S.f65;simp only[ec,gy,X,cx];refine cz (λh=>?_) (λh=>?_)<;>rw[h]at c<;>exact c
end
end Rb

namespace Rb
open Go
variable{i:List Int}{s:g}{n:Int}{id:Nat}
def lu(op a b:Int):Bool:=decide (op≥a)&&decide (op≤b)
def qd(op:Int):Bool:=op==18||op==20||op==23||op==24||op==27||op==28
def oo(n:Int):Int:=if n<1 then 0 else if n≥64 then 18446744073709551615 else abF .u64 (iF .u64 1 n-1)
abbrev gi(i:List Int)(k:Nat):Int:=i.getD k 0
theorem eV(hl:i.length=7){k:Nat}(a:k<7)(H:AH):W H 1 false (.ak ((IV i).drop k))=some (.int .i64 (gi i k)):=by show bE ((IV i).drop k) 0 1 false=_;rw[←JE (by simp[hl];omega)];exact Br (by omega)
theorem sx(hl:i.length=7)(H:AH):W H 7 true (.ak (IV i))=some (.agg (IV i)):=dP (by simpa using hl)
theorem qe(hl:i.length=7)(H:AH):aM H false 7 (.agg (IV i))=some (.ak (IV i),H):=by unfold aM;rw[af ⟨rfl,by simpa[J.cells]using hl⟩];rfl
theorem jW(i:List Int)(k:Nat):aa k (.ak (IV i))=some (.ak ((IV i).drop k)):=rfl
section
variable{Φ:ad}{H:AH}{Q:ab}
theorem YB{op:Int}(a:Q (.bool (qd op)) H):S.f67 Φ (.int .i64 op) H Q:=by
 unfold S.f67;simp only[bL,X,ck,aE,S.AB,S.AA,S.Az,S.Ay,ay];unfold qd at a
 repeat' (apply nP<;>intro h)
 all_goals simp_all
theorem YC(a:Q (.int .u64 (oo n)) H):S.f70 Φ (.int .i64 n) H Q:=by
 unfold S.f70;unfold oo at a;simp only[aU,ec,X,F];apply cz<;>intro h
 ·rw[af (by simpa using h)]at a;exact a
 have h1:¬n<1:=by simpa using h
 rw[ai h1]at a;apply cz<;>intro h
 ·rw[af (by simpa using h)]at a;exact a
 have b:¬n≥64:=by simpa using h
 rw[ai b]at a;rw[j8 _ _ _ _ (by omega)];simp only[X,cM];exact a
end
def sy(i:List Int):Int:=if lu (gi i 0) 25 28=true then 16 else iF .i64 1 (gi i 5)
def sA(s:g)(i:List Int):Int:=if gi i 0=17∨gi i 0=18 then abF .u64 (s.get (gi i 2)+iF .u64 (abF .u64 (gi i 6)) (gi i 5))else s.get (gi i 2)
def eb(s:g)(i:List Int):Int×Int:=(if sA s i≥1099511627776 then -1 else abF .i64 (sA s i),sy i)
structure Acc where
 w:Bool
 at':Int
 len:Int
 ex:Bool
 aq:Bool
 rl:Bool
 d0:Int
 d1:Int
def Acc.cells(a:Acc):List J:=[.bool a.w,.int .i64 a.at',.int .i64 a.len,.bool a.ex,.bool a.aq,.bool a.rl,.int .u64 a.d0,.int .u64 a.d1]
def jX(i:List Int):Bool:=(ga i).2==0
section
variable{C:Ctx}(aj:bX C)(Z:Cl (ae C) S.bg)
include aj Z
theorem C9(op a b:Int):bF (ae C) 65 [.int .i64 op,.int .i64 a,.int .i64 b] (.bool (lu op a b)):=λH Q c=>S.Rt Z (YA c)
theorem YD(op:Int):bF (ae C) 32 [.int .i64 op] (.bool (lu op 17 28)):=λH Q a=>S.QV Z (C9 aj Z op 17 28 _ _ a)
theorem MH(op:Int):bF (ae C) 69 [.int .i64 op] (.bool (lu op 25 28)):=λH Q a=>S.Ry Z (C9 aj Z op 25 28 _ _ a)
theorem MI(op:Int):bF (ae C) 68 [.int .i64 op] (.bool (lu op 21 28)):=λH Q a=>S.Rx Z (C9 aj Z op 21 28 _ _ a)
theorem MJ(op:Int):bF (ae C) 67 [.int .i64 op] (.bool (qd op)):=λH Q a=>S.Rv Z (YB a)
theorem C_(n:Int):bF (ae C) 70 [.int .i64 n] (.int .u64 (oo n)):=λH Q a=>S.Rz Z (YC a)
theorem YE(hl:i.length=7):bF (ae C) 29 [.agg (IV i)] (.bool (jX i)):=λH Q a=>S.QS Z (by unfold S.f29;simp only[qe hl,aK,sx hl,X];refine Ul aj Z hl _ _ ?_;simp only[bo,adW,adX,X,bL];exact a)
theorem mU(h:s.ok){H:AH}{Q:ab}(a:At H id (.row s.cells))(b:0≤n∧n≤31)(c:Q (.int .u64 (s.get n)) H):ae C 34 [.ptr id 0,.int .i64 n] H Q:=S.QX Z (Yx h a b.1 b.2 c)
theorem YF(h:s.ok)(hl:i.length=7)(hs:jX i=true){H:AH}{Q:ab}(a:At H id (.row s.cells))
  (m:∀H',AH.Ext H H'→Q (.agg [.int .i64 (eb s i).1,.int .i64 (eb s i).2]) H'):ae C 66 [.ptr id 0,.agg (IV i)] H Q:=by
 refine S.Ru Z ?_;have hs:(ga i).2=0:=by simpa[jX]using hs
 have o:=hZ hl hs (k:=2) (by omega) (by omega);have d:=Yv hl hs;unfold S.f66;simp only[qe hl,aK,aQ,aT,jW,eV hl (show 5<7 by omega),eV hl (show 0<7 by omega),X];rw[j8 _ _ _ _ d.1];simp only[X];have Y:=a.push (.row [.int .i64 0,.int .i64 0]);have k1:∀(n v:Int),n=sy i→v=sA s i→S.vo (ae C) (.ptr H.n 0) [.int .i64 n] Q [.int .u64 v] (H.push (.row [.int .i64 0,.int .i64 0])):=by
  intro n v c hv;simp only[S.vo,ay,ec,X,F,gz];have f:∀x,x=(eb s i).1→Do (aD [.int .i64 0,.int .i64 0] [(0,1,J.int .i64 x),(1,1,.int .i64 n)]) λp=>
    Do (au (H.push (.row [.int .i64 0,.int .i64 0])) 2 (.ptr H.n 0) p) λg=>Do (W g 2 true (.ptr H.n 0)) λq=>Q q g:=by
   intro x r;rw[show aD [.int .i64 0,.int .i64 0] [(0,1,J.int .i64 x),(1,1,.int .i64 n)]=some (.agg [.int .i64 x,.int .i64 n])from rfl];simp only[X];rw[cG H _ [.int .i64 x,.int .i64 n] 2 rfl rfl rfl];simp only[X];rw[(At.new H _).load,dP (n:=2) (a:=[.int .i64 x,.int .i64 n]) rfl];simp only[X];rw[r,c];exact m _ (AH.Ext.push H _)
  apply cz<;>intro h
  · refine f _ ?_;rw[hv]at h;unfold eb;rw[af (by simpa using h)]
  · refine f _ ?_;rw[hv]at h;unfold eb;rw[ai (by simpa using h),hv]
 have j:∀n:Int,n=sy i→S.vq (ae C) (.ptr id 0) (.ak (IV i)) (.ptr H.n 0) Q [.int .i64 n] (H.push (.row [.int .i64 0,.int .i64 0])):=by
  intro n c;simp only[S.vq,jW,eV hl (show 2<7 by omega),eV hl (show 0<7 by omega),X];refine mU aj Z h Y o ?_;simp only[bL,X,ck,aE];have k2:∀b:Bool,(b=true↔gi i 0=17∨gi i 0=18)→S.vp (ae C) (.ak (IV i)) (.ptr H.n 0) (.int .u64 (s.get (gi i 2))) [.int .i64 n] Q [.bool b] (H.push (.row [.int .i64 0,.int .i64 0])):=by
   intro b l;simp only[S.vp,ay,F,jW,eV hl (show 6<7 by omega),eV hl (show 5<7 by omega),X,gz,aE];apply cz<;>intro hc
   · rw[j8 _ _ _ _ d.1];simp only[X,br];refine k1 _ _ c ?_;unfold sA;rw[af (l.1 hc)]
   · refine k1 _ _ c ?_;unfold sA;rw[ai (λe=>by rw[l.2 e]at hc;cases hc)]
  apply nP<;>intro hc
  · refine k2 _ ?_;have:gi i 0≠17:=beq_eq_false_iff_ne.1 hc;exact⟨λe=> .inr (bq.1 e),λe=>bq.2 (e.resolve_left this)⟩
  · refine k2 _ ?_;exact⟨λ_=> .inl (bq.1 (by simpa using hc)),λ_=>rfl⟩
 refine MH aj Z _ _ _ ?_;simp only[F,aE];apply cz<;>intro hc
 · refine j _ ?_;unfold sy;rw[af hc]
 · refine j _ ?_;unfold sy;rw[ai (by rw[hc];decide)]
theorem YG(h:s.ok)(H:AH):aM H true 36 (.agg s.cells)=some (.ptr H.n 0,H.push (.row s.cells)):=by unfold aM;rw[af ⟨rfl,g.jU h⟩];rfl
end
end Rb

namespace Rb
open Go
variable{s:g}{i:List Int}{H:AH}{Q:ab}{id:Nat}
def sB(n:Int):Bool:=decide (n≥0)&&decide (n<64)
def sC(x a n v:Int):Int:=if sB a=true then xd .u64 (xe .u64 x (iF .u64 (oo n) a)) (iF .u64 (nR .u64 v (oo n)) a)else x
def yo(s:g)(c:Int):Bool:=if c=0 then s.z else if c=1 then !s.z else if c=2 then s.c else !s.c
def jY(s:g)(i:List Int):Int×Bool:=
 if gi i 0=1 then(iF .u64 (abF .u64 (gi i 6)) (abF .i64 (16*gi i 4)),true)else
 if gi i 0=2 then(sC (s.get (gi i 1)) (abF .i64 (16*gi i 4)) 16 (abF .u64 (gi i 6)),true)else
 if gi i 0=3 then(abF .u64 (s.get (gi i 2)+s.get (gi i 3)),true)else
 if gi i 0=4∨gi i 0=5 then(abF .u64 (s.get (gi i 2)-s.get (gi i 3)),true)else
 if gi i 0=6 then(nR .u64 (s.get (gi i 2)) (s.get (gi i 3)),true)else
 if gi i 0=7 then(xd .u64 (s.get (gi i 2)) (s.get (gi i 3)),true)else
 if gi i 0=8 then(Bn .u64 (s.get (gi i 2)) (s.get (gi i 3)),true)else
 if gi i 0=9 then(abF .u64 (s.get (gi i 2)*s.get (gi i 3)),true)else
 if gi i 0=10 then(iF .u64 (s.get (gi i 2)) ((s.get (gi i 3)).tmod 64),true)else
 if gi i 0=11 then(xg .u64 (s.get (gi i 2)) ((s.get (gi i 3)).tmod 64),true)else
 if gi i 0=12 then(if yo s (gi i 4)=true then 1 else 0,true)else(0,false)
def Da(s:g)(i:List Int):Bool:=
 if gi i 0=13 then true else
 if gi i 0=14 then yo s (gi i 4)else
 if gi i 0=15 then s.get (gi i 1)==0 else
 if gi i 0=16 then s.get (gi i 1) != 0 else false
theorem YH{a b:Int}(h:dK a):dK (xg .u64 a b):=by unfold xg dK;have c:(0:Int)<2^(min b.toNat (aaH .u64)):=Int.pow_pos (by decide);rw[Int.fdiv_eq_ediv_of_nonneg _ (afF c)];have h1:=Int.ediv_nonneg h.1 (afF c);have d:=Int.ediv_le_self (2^(min b.toNat (aaH .u64))) h.1;exact⟨h1,Int.lt_of_le_of_lt d h.2⟩
theorem YI{x a n v:Int}(h:dK x):dK (sC x a n v):=by
 unfold sC;split
 ·exact dK.wrap _
 ·exact h
theorem MK(h:s.ok)(hl:i.length=7)(hs:(ga i).2=0):dK (jY s i).1:=by
 have a:=g.C7 h (hZ hl hs (k:=2) (by omega) (by omega)).1 (hZ hl hs (k:=2) (by omega) (by omega)).2;have b:=g.C7 h (hZ hl hs (k:=1) (by omega) (by omega)).1 (hZ hl hs (k:=1) (by omega) (by omega)).2;unfold jY
 iterate 11 (refine iD (λz:Int×Bool=>dK z.1) (λ_=>by first|exact dK.wrap _|exact YI b|exact YH a|(dsimp only;split<;>exact⟨by decide,by decide⟩)) (λ_=>?_))
 exact⟨by decide,by decide⟩
section
variable{C:Ctx}(aj:bX C)(Z:Cl (ae C) S.bg)
include aj Z
theorem YJ(n:Int):bF (ae C) 113 [.int .i64 n] (.bool (sB n)):=λH Q a=>S.Sd Z (by unfold S.f113;unfold sB at a;simp only[ec,aU,X,cx];refine cz (λh=>?_) (λh=>?_)<;>rw[h]at a<;>exact a)
theorem YK(x a n v:Int):bF (ae C) 64 [.int .u64 x,.int .i64 a,.int .i64 n,.int .u64 v] (.int .u64 (sC x a n v)):=λH Q b=>S.Rs Z (by
  unfold S.f64;refine YJ aj Z _ _ _ ?_;simp only[dO,X,F];unfold sC at b;apply cz<;>intro h
  ·rw[ai (by simpa using h)]at b;exact b
  · have c:sB a=true:=by simpa using h
    rw[af c]at b;have d:0≤a:=by unfold sB at c;simp at c;omega
    refine C_ aj Z _ _ _ ?_;rw[j8 _ _ _ _ d];simp only[X,JL];refine C_ aj Z _ _ _ ?_;simp only[xh,X];rw[j8 _ _ _ _ d];simp only[X,Bo];exact b)
theorem ML(h:s.ok)(a:At H id (.row s.cells)){c:Int}(b:Q (.bool (yo s c)) H):ae C 63 [.ptr id 0,.int .i64 c] H Q:=by
 refine S.Rr Z ?_;unfold S.f63;unfold yo at b;have l1:W H 1 false (.ptr id 32)=some (.bool s.z):=by rw[a.load];exact C8 h (k:=1) rfl
 have l2:W H 1 false (.ptr id 33)=some (.bool s.c):=by rw[a.load];exact C8 h (k:=2) rfl
 simp only[bL,X,F,aC,aa,abg,l1,l2,dO]
 iterate 3 (refine cz (λh=>(by rw[af (by simpa using h)]at b;exact b)) (λh=>?_);rw[ai (by simpa using h)]at b)
 exact b
theorem YL(h:s.ok)(hl:i.length=7)(hs:(ga i).2=0)(a:At H id (.row s.cells))(c:Q (.ar [.int .u64 (jY s i).1,.bool (jY s i).2]) H):ae C 31 [.ptr id 0,.agg (IV i)] H Q:=by
 refine S.QU Z ?_;have m:=hZ hl hs (k:=1) (by omega) (by omega);have n:=hZ hl hs (k:=2) (by omega) (by omega);have f:=hZ hl hs (k:=3) (by omega) (by omega);have q:0≤gi i 4∧gi i 4≤31:=hZ hl hs (k:=4) (by omega) (by omega);have hm:=g.C7 h f.1 f.2;unfold S.f31;unfold jY at c;have i0:=λH=>eV hl (show 0<7 by omega) H;have i1:=λH=>eV hl (show 1<7 by omega) H;have i2:=λH=>eV hl (show 2<7 by omega) H;have i3:=λH=>eV hl (show 3<7 by omega) H;have i4:=λH=>eV hl (show 4<7 by omega) H;have o:=λH=>eV hl (show 6<7 by omega) H;simp only[qe hl,aK,jW,i2,i3,X];refine mU aj Z h a n ?_;refine⟨trivial,?_⟩;refine mU aj Z h a f ?_;simp only[i0,i4,o,i1,X,bL,F,gz,fY];have p:abF .i64 (16*gi i 4)=16*gi i 4:=bJ;apply cz<;>intro h1
 · rw[af (bq.1 h1)]at c;rw[j8 _ _ _ _ (by rw[p];omega)];simp only[X];exact c
 rw[ai (beq_eq_false_iff_ne.1 h1)]at c;apply cz<;>intro h1
 · rw[af (bq.1 h1)]at c;refine mU aj Z h a m ?_;refine⟨trivial,trivial,?_⟩;exact YK aj Z _ _ _ _ _ _ c
 rw[ai (beq_eq_false_iff_ne.1 h1)]at c;apply cz<;>intro h1
 · rw[af (bq.1 h1)]at c;simp only[br,X];exact c
 rw[ai (beq_eq_false_iff_ne.1 h1)]at c;have k1:∀b:Bool,(b=true↔gi i 0=4∨gi i 0=5)→S.u5 (ae C) (.ptr id 0) (.ak (IV i)) (.int .u64 (s.get (gi i 2))) (.int .u64 (s.get (gi i 3))) (.int .i64 (gi i 0)) Q [.bool b] H:=by
  intro b j;simp only[S.u5,ay,F,cM,bL,X,xh,Bo,JK,fY,jW,i4];apply cz<;>intro h1
  ·rw[af (j.1 h1)]at c;exact c
  rw[ai (λe=>by rw[j.2 e]at h1;cases h1)]at c
  iterate 4 (refine cz (λd=>(by rw[af (bq.1 d)]at c;exact c)) (λd=>?_);rw[ai (beq_eq_false_iff_ne.1 d)]at c)
  have l:0≤(s.get (gi i 3)).tmod 64:=Int.tmod_nonneg _ hm.1;apply cz<;>intro h1
  · rw[af (bq.1 h1)]at c;rw[nN _ _ _ (by decide)];simp only[X];rw[j8 _ _ _ _ l];simp only[X];exact c
  rw[ai (beq_eq_false_iff_ne.1 h1)]at c;apply cz<;>intro h1
  · rw[af (bq.1 h1)]at c;rw[nN _ _ _ (by decide)];simp only[X];rw[T1 _ _ _ _ l];simp only[X];exact c
  rw[ai (beq_eq_false_iff_ne.1 h1)]at c;apply cz<;>intro h1
  · rw[af (bq.1 h1)]at c;refine ML aj Z h a ?_;simp only[F];apply cz<;>intro d
    ·rw[af d]at c;exact c
    ·rw[ai (by rw[d];decide)]at c;exact c
  rw[ai (beq_eq_false_iff_ne.1 h1)]at c;exact c
 simp only[aE];apply cz<;>intro h1
 ·exact k1 _ ⟨λe=> .inl (bq.1 e),λ_=>h1⟩
 ·refine k1 _ ⟨λe=> .inr (bq.1 e),λe=>bq.2 (e.resolve_left (beq_eq_false_iff_ne.1 h1))⟩
theorem YM(h:s.ok)(hl:i.length=7)(hs:(ga i).2=0)(a:At H id (.row s.cells))(b:Q (.bool (Da s i)) H):ae C 30 [.ptr id 0,.agg (IV i)] H Q:=by
 refine S.QT Z ?_;have c:=hZ hl hs (k:=1) (by omega) (by omega);unfold S.f30;unfold Da at b;have i0:=λH=>eV hl (show 0<7 by omega) H;have i1:=λH=>eV hl (show 1<7 by omega) H;have i4:=λH=>eV hl (show 4<7 by omega) H;simp only[qe hl,aK,jW,i0,i1,i4,X,bL,F];apply cz<;>intro h1
 ·rw[af (bq.1 h1)]at b;exact b
 rw[ai (beq_eq_false_iff_ne.1 h1)]at b;apply cz<;>intro h1
 ·rw[af (bq.1 h1)]at b;exact ML aj Z h a b
 rw[ai (beq_eq_false_iff_ne.1 h1)]at b;apply cz<;>intro h1
 · rw[af (bq.1 h1)]at b;refine mU aj Z h a c ?_;simp only[bL,X];exact b
 rw[ai (beq_eq_false_iff_ne.1 h1)]at b;apply cz<;>intro h1
 · rw[af (bq.1 h1)]at b;refine mU aj Z h a c ?_;simp only[dA,X];exact b
 rw[ai (beq_eq_false_iff_ne.1 h1)]at b;exact b
end
end Rb

namespace Rb
open Go
variable{i:List Int}{g0 g1:Int}{Q:ab}
theorem MM(xs:List J):∀(a t:List J)(k:Nat),setCells (xs++t) (xs.length+k) a=xs++setCells t k a
 |[],t,k=>rfl
 | v::r,t,k=>by show setCells ((xs++t).set (xs.length+k) v) (xs.length+k+1) r=xs++setCells (t.set k v) (k+1) r;rw[←MM xs r (t.set k v) (k+1),afB _ _ (by omega),afA,Nat.add_assoc]
def g.tail(s:g):List J:=[.int .i64 s.pc,.bool s.z,.bool s.c,.int .i64 s.wa,.int .i64 s.wl]
theorem yp{s:g}(h:s.ok)(k:Nat)(a:List J):setCells s.cells (31+k) a=s.x.map (J.int .u64)++setCells s.tail k a:=by have:=MM (s.x.map (J.int .u64)) a s.tail k;rw[List.length_map,h.len]at this;exact this
def g.zero:g:=⟨List.replicate 31 0,0,false,false,0,0⟩
theorem g.sD:g.zero.ok:=⟨rfl,λv hv=>by rw[(List.mem_replicate.1 hv).2];exact⟨by decide,by decide⟩⟩
section
variable{H:AH}{id:Nat}{s:g}(h:s.ok)(a:At H id (.row s.cells))
include h a
theorem YN(v:Int):au H 1 (.ptr id 31) (.int .i64 v)=some (H.set id (.row ({s with pc:=v}:g).cells)):=by rw[a.store,af ⟨rfl,rfl,rfl,by rw[g.jU h];decide⟩,yp h 0];rfl
theorem YO(v:Bool):au H 1 (.ptr id 32) (.bool v)=some (H.set id (.row ({s with z:=v}:g).cells)):=by rw[a.store,af ⟨rfl,rfl,rfl,by rw[g.jU h];decide⟩,yp h 1];rfl
theorem YP(v:Bool):au H 1 (.ptr id 33) (.bool v)=some (H.set id (.row ({s with c:=v}:g).cells)):=by rw[a.store,af ⟨rfl,rfl,rfl,by rw[g.jU h];decide⟩,yp h 2];rfl
theorem yq(x y:Int):au H 2 (.ptr id 34) (.agg [.int .i64 x,.int .i64 y])=some (H.set id (.row ({s with wa:=x,wl:=y}:g).cells)):=by rw[a.store,af ⟨rfl,rfl,rfl,by rw[g.jU h];decide⟩,yp h 3];rfl
theorem Db:W H 36 true (.ptr id 0)=some (.agg s.cells):=by rw[a.load,dP (g.jU h)]
theorem MN:W H 1 false (.ptr id 31)=some (.int .i64 s.pc):=by rw[a.load];exact C8 h (k:=0) rfl
end
def sG(s:g)(i:List Int)(g0 g1:Int)(f:Bool):g:=
 if qd (gi i 0)=true∧lu (gi i 0) 21 28=true then {s.put (gi i 3) (if f=true then 0 else 1)with wa:=0,wl:=0} else
 if qd (gi i 0)=true then s else
 if lu (gi i 0) 25 28=true then {(s.put (gi i 1) g0).put (gi i 4) g1 with wa:=(eb s i).1,wl:=(eb s i).2} else
 if lu (gi i 0) 21 28=true then {s.put (gi i 1) (nR .u64 g0 (oo (abF .i64 (8*(eb s i).2))))with wa:=(eb s i).1,wl:=(eb s i).2} else
 s.put (gi i 1) (nR .u64 g0 (oo (abF .i64 (8*(eb s i).2))))
theorem sH{s:g}(h:s.ok)(x y:Int):({s with wa:=x,wl:=y}:g).ok:=⟨h.len,h.u⟩
theorem MO{s:g}(h:s.ok){f:Bool}(a:dK g0)(b:dK g1):(sG s i g0 g1 f).ok:=by unfold sG;refine iD g.ok (λ_=>sH (g.jV h (by split<;>exact⟨by decide,by decide⟩)) _ _) (λ_=>?_);refine iD g.ok (λ_=>h) (λ_=>?_);refine iD g.ok (λ_=>sH (g.jV (g.jV h a) b) _ _) (λ_=>?_);refine iD g.ok (λ_=>sH (g.jV h (dK.wrap _)) _ _) (λ_=>g.jV h (dK.wrap _))
def gg(H H':AH)(id:Nat):Prop:=H.n≤H'.n∧∀j,j<H.n→j≠id→H'.o j=H.o j
theorem gg.refl(H:AH)(id:Nat):gg H H id:=⟨hT _,λ_ _ _=>rfl⟩
theorem gg.trans{a b c:AH}{id:Nat}(h:gg a b id)(k:gg b c id):gg a c id:=⟨np h.1 k.1,λj d e=>(k.2 j (sl d h.1) e).trans (h.2 j d e)⟩
theorem gg.set(H:AH)(id:Nat)(x:bS):gg H (H.set id x) id:=⟨hT _,λj _ a=>AH.cd H x a⟩
theorem gg.ext{H H':AH}(h:AH.Ext H H')(id:Nat):gg H H' id:=⟨h.1,λj a _=>h.2 j a⟩
theorem gg.at'{H H':AH}{id k:Nat}{x:bS}(h:gg H H' id)(a:At H k x)(b:k≠id):At H' k x:=⟨sl a.1 h.1,(h.2 k a.1 b).trans a.2⟩
section
variable{C:Ctx}(aj:bX C)(Z:Cl (ae C) S.bg)
include aj Z
theorem sI{s:g}(h:s.ok){H:AH}{id:Nat}(a:At H id (.row s.cells)){n v:Int}(b:0≤n∧n≤31)(c:∀H',At H' id (.row (s.put n v).cells)→gg H H' id→Q (.ar []) H'):ae C 35 [.ptr id 0,.int .i64 n,.int .u64 v] H Q:=S.QY Z (Yz h a b.1 b.2 λH' d e f=>c H' d ⟨Nat.le_of_eq e.symm,λj _ i=>f j i⟩)
theorem YQ{s:g}(h:s.ok)(hl:i.length=7)(hs:jX i=true)(o:dK g0)(z:dK g1)(f:Bool){H:AH}{Q:ab}{id:Nat}(a:At H id (.row s.cells))
  (c:∀H',At H' id (.row (sG s i g0 g1 f).cells)→gg H H' id→Q (.ar []) H'):ae C 33 [.ptr id 0,.agg (IV i),.agg [.int .u64 g0,.int .u64 g1],.bool f] H Q:=by
 refine S.QW Z ?_;have ia:(ga i).2=0:=by simpa[jX]using hs
 have p:0≤gi i 1∧gi i 1≤31:=hZ hl ia (k:=1) (by omega) (by omega);have A:0≤gi i 3∧gi i 3≤31:=hZ hl ia (k:=3) (by omega) (by omega);have B:0≤gi i 4∧gi i 4≤31:=hZ hl ia (k:=4) (by omega) (by omega);have i0:=λH=>eV hl (show 0<7 by omega) H;have i1:=λH=>eV hl (show 1<7 by omega) H;have i3:=λH=>eV hl (show 3<7 by omega) H;have i4:=λH=>eV hl (show 4<7 by omega) H;unfold S.f33;have D:aM H false 2 (.agg [.int .u64 g0,.int .u64 g1])=some (.ak [.int .u64 g0,.int .u64 g1],H):=by unfold aM;rw[af ⟨rfl,rfl⟩];rfl
 simp only[qe hl,aK,D,sx hl,X];refine YF aj Z h hl hs a λH1 q=>?_;have Y:=a.ext q;simp only[aQ,aT,aK];rw[cG H1 _ [.int .i64 (eb s i).1,.int .i64 (eb s i).2] 2 rfl rfl rfl];have w2:=At.new H1 (.row [.int .i64 (eb s i).1,.int .i64 (eb s i).2]);have a2:=Y.push (.row [.int .i64 (eb s i).1,.int .i64 (eb s i).2]);have l:H1.n≠id:=abj Y.jF;have o2:gg H (H1.push (.row [.int .i64 (eb s i).1,.int .i64 (eb s i).2])) id:=gg.ext (q.trans (AH.Ext.push H1 _)) id;generalize H1.push (.row [.int .i64 (eb s i).1,.int .i64 (eb s i).2])=H2 at *;generalize H1.n=m at *;simp only[X,jW,i0];refine MJ aj Z _ _ _ ?_;simp only[cx,aE];have wall:∀{H},At H m (.row [.int .i64 (eb s i).1,.int .i64 (eb s i).2])→W H 2 true (.ptr m 0)=some (.agg [.int .i64 (eb s i).1,.int .i64 (eb s i).2]):=λw=>by rw[w.load];exact dP (n:=2) (a:=[.int .i64 (eb s i).1,.int .i64 (eb s i).2]) rfl
 have f0:aL (some 2) 1 (.ak [J.int .u64 g0,.int .u64 g1]) (.int .i64 0)=some (.ak [J.int .u64 g0,.int .u64 g1]):=rfl;have f1:aL (some 2) 1 (.ak [J.int .u64 g0,.int .u64 g1]) (.int .i64 1)=some (.ak [J.int .u64 g1]):=rfl;have l0:∀H,W H 1 false (.ak [J.int .u64 g0,.int .u64 g1])=some (.int .u64 g0):=λ_=>rfl;have l1:∀H,W H 1 false (.ak [J.int .u64 g1])=some (.int .u64 g1):=λ_=>rfl;have k2:∀b:Bool,(b=true↔qd (gi i 0)=true∧lu (gi i 0) 21 28=true)→S.u7 (ae C) (.ptr id 0) (.bool f) (.ak (IV i)) (.ak [.int .u64 g0,.int .u64 g1]) (.ptr m 0) Q [.bool b] H2:=by
  intro b r;unfold sG at c;simp only[S.u7,ay,F,jW,i0,i1,i4,X,aE,f0,f1,l0,l1,aC];apply cz<;>intro h1
  · rw [af (r.1 h1)]at c;have k1:∀v:Int,v=(if f=true then 0 else 1)→S.u6 (ae C) (.ptr id 0) (.ak (IV i)) Q [.int .u64 v] H2:=by
     intro v hv;simp only[S.u6,ay,jW,i3,X];refine sI aj Z h a2 A λt a3 d=>?_;rw[show aD [.int .i64 0,.int .i64 0] []=some (.agg [.int .i64 0,.int .i64 0])from rfl];simp only[X,aC,aa,abg];have hu:dK v:=by rw[hv];split<;>exact⟨by decide,by decide⟩
     rw[yq (g.jV h hu) a3];simp only[X];refine c _ ?_ (o2.trans (d.trans (gg.set _ _ _)));rw[←hv];exact a3.set _
    refine cz (λj=>k1 0 (by rw[af j])) (λj=>k1 1 (by rw[j];rfl))
  rw[ai (λe=>by rw[r.2 e]at h1;cases h1)]at c;refine MJ aj Z _ _ _ ?_;simp only[F];apply cz<;>intro j
  · rw[af j]at c;exact c _ a2 o2
  rw[ai (by rw[j];decide)]at c;refine MH aj Z _ _ _ ?_;simp only[F];apply cz<;>intro u
  · rw[af u]at c;refine sI aj Z h a2 p λt a3 d=>?_;refine sI aj Z (g.jV h o) a3 B λG a4 x=>?_;have E:=x.at' (d.at' w2 l) l;rw[wall E];simp only[X,aa,abg];rw[yq (g.jV (g.jV h o) z) a4];simp only[X];exact c _ (a4.set _) (o2.trans (d.trans (x.trans (gg.set _ _ _))))
  rw[ai (by rw[u];decide)]at c;simp only[aa,abg,X];rw[w2.load,show bE [J.int .i64 (eb s i).1,.int .i64 (eb s i).2] 1 1 false=some (.int .i64 (eb s i).2)from rfl];simp only[X,fY];refine C_ aj Z _ _ _ ?_;refine⟨trivial,trivial,?_⟩;simp only[xh,X];refine sI aj Z h a2 p λt a3 d=>?_;refine MI aj Z _ _ _ ?_;simp only[F];apply cz<;>intro y
  · rw[af y]at c;rw[wall (d.at' w2 l)];simp only[X,aa,abg];rw[yq (g.jV h (dK.wrap _)) a3];simp only[X];exact c _ (a3.set _) (o2.trans (d.trans (gg.set _ _ _)))
  · rw[ai (by rw[y];decide)]at c;exact c _ a3 (o2.trans d)
 apply cz<;>intro h1
 · refine MI aj Z _ _ _ ?_;exact k2 _ ⟨λe=>⟨h1,e⟩,λe=>e.2⟩
 ·exact k2 _ ⟨λe=>(by cases e),λe=>by rw[e.1]at h1;cases h1⟩
end
end Rb

namespace Rb
open Go
variable{s:g}{i:List Int}{g0 g1:Int}{f:Bool}
def Dc(s:g)(i:List Int):g:=(if gi i 0=5 then {s with z:=(jY s i).1==0,c:=decide (s.get (gi i 2)≥s.get (gi i 3))} else s).put (gi i 1) (jY s i).1
def me(s:g)(i:List Int)(g0 g1:Int)(f:Bool):g:=
 if gi i 0=30 then {s with wa:=0,wl:=0} else
 if lu (gi i 0) 17 28=true then sG s i g0 g1 f else
 if(jY s i).2=true then Dc s i else s
def sJ(s:g)(i:List Int):Int:=if Da s i=true then abF .i64 (s.pc+gi i 6)else abF .i64 (s.pc+1)
def lv(s:g)(i:List Int)(g0 g1:Int)(f:Bool):g×Int:=if jX i=true then({me s i g0 g1 f with pc:=sJ s i},0)else(g.zero,2)
theorem yr(h:s.ok)(x:Int):({s with pc:=x}:g).ok:=⟨h.len,h.u⟩
theorem MP(h:s.ok)(x y:Bool):({s with z:=x,c:=y}:g).ok:=⟨h.len,h.u⟩
theorem YR(h:s.ok)(hl:i.length=7)(hs:jX i=true)(a:dK g0)(b:dK g1):(me s i g0 g1 f).ok:=by
 have ia:(ga i).2=0:=by simpa[jX]using hs
 unfold me;refine iD g.ok (λ_=>sH h _ _) (λ_=>?_);refine iD g.ok (λ_=>MO h a b) (λ_=>?_);refine iD g.ok (λ_=>?_) (λ_=>h);unfold Dc;refine g.jV ?_ (MK h hl ia);exact iD g.ok (λ_=>MP h _ _) (λ_=>h)
theorem YS(h:s.ok)(hl:i.length=7)(a:dK g0)(b:dK g1):(lv s i g0 g1 f).1.ok:=by unfold lv;exact iD (λz:g×Int=>z.1.ok) (λhs=>yr (YR h hl hs a b) _) (λ_=>g.sD)
section
variable{C:Ctx}(aj:bX C)(Z:Cl (ae C) S.bg)
include aj Z
theorem YT(h:s.ok)(hl:i.length=7)(q:dK g0)(v:dK g1)(f:Bool) :
  bF (ae C) 9 [.agg s.cells,.agg (IV i),.agg [.int .u64 g0,.int .u64 g1],.bool f] (.ar [.agg (lv s i g0 g1 f).1.cells,.int .i64 (lv s i g0 g1 f).2]):=by
 refine bF.of aj (by simp only[J.b7,J.bI,JO,g.bI,ady]) (by simp only[J.b7,J.bI,g.bI,ady]) λQ l=>S.Qz Z ?_;unfold S.f9;have E:∀H,aM H false 2 (.agg [.int .u64 g0,.int .u64 g1])=some (.ak [.int .u64 g0,.int .u64 g1],H):=λH=>by unfold aM;rw[af ⟨rfl,rfl⟩];rfl
 have G:∀H,W H 2 true (.ak [J.int .u64 g0,.int .u64 g1])=some (.agg [.int .u64 g0,.int .u64 g1]):=λH=>rfl;have i0:=λH=>eV hl (show 0<7 by omega) H;have i1:=λH=>eV hl (show 1<7 by omega) H;have i2:=λH=>eV hl (show 2<7 by omega) H;have i3:=λH=>eV hl (show 3<7 by omega) H;have I:=λH=>eV hl (show 6<7 by omega) H;simp only[YG aj Z h,aK,qe hl,E,aQ,aT,sx hl,X];have P:∀x,x=g.zero.cells→x=g.zero.cells:=λ_ e=>e;have a:=(At.new AH.mt (.row s.cells)).push (.row g.zero.cells);have r:=At.new (AH.mt.push (.row s.cells)) (.row g.zero.cells);have d:AH.mt.n≠(AH.mt.push (.row s.cells)).n:=(At.new AH.mt (.row s.cells)).jF;change ae C 29 [.agg (IV i)] ((AH.mt.push (.row s.cells)).push (.row g.zero.cells)) _;generalize ((AH.mt.push (.row s.cells)).push (.row g.zero.cells))=H0 at *;generalize (AH.mt.push (.row s.cells)).n=b at *;generalize AH.mt.n=is at *;refine YE aj Z hl _ _ ?_;simp only[dO,X,F];unfold lv at l;have w:∀(H:AH)(t:g),t.ok→At H b (.row g.zero.cells)→au H 36 (.ptr b 0) (.agg t.cells)=some (H.set b (.row t.cells)):=by intro H t ht K;rw[K.store,af ⟨rfl,g.jU ht,g.scalar t,(by decide:0+36≤36)⟩];congr 3;show setCells g.zero.cells 0 t.cells=t.cells;rw[pW (by rw[g.jU ht];rfl)];rfl
 apply cz<;>intro hc
 · rw[ai (by simpa using hc)]at l;refine⟨J.agg g.zero.cells,rfl,?_⟩;dsimp only;rw[w _ _ g.sD r];simp only[X];rw[Db g.sD (r.set _)];simp only[X];exact l _
 · have hs:jX i=true:=by simpa using hc
   rw[af hs]at l;have ia:(ga i).2=0:=by simpa[jX]using hs
   have L:0≤gi i 1∧gi i 1≤31:=hZ hl ia (k:=1) (by omega) (by omega);have M:0≤gi i 2∧gi i 2≤31:=hZ hl ia (k:=2) (by omega) (by omega);have N:0≤gi i 3∧gi i 3≤31:=hZ hl ia (k:=3) (by omega) (by omega);simp only[aa,abg,X];rw[MN h a];simp only[X,br,sx hl];have k1:∀(n:Int)(H:AH)(t:g),t.ok→At H is (.row t.cells)→At H b (.row g.zero.cells)→n=sJ s i→t=me s i g0 g1 f→S.pC (ae C) (.ptr is 0) (.ptr b 0) [.int .i64 n] Q [] H:=by intro n H t ht at' rt j m;simp only[S.pC,ay,aa,abg,X];rw[YN ht at'];simp only[X];have a2:=at'.set (.row ({t with pc:=n}:g).cells);have y:=rt.cd (abj d) (.row ({t with pc:=n}:g).cells);rw[Db (yr ht n) a2];simp only[X];rw[w _ _ (yr ht n) y];simp only[X];rw[Db (yr ht n) (y.set _)];simp only[X];rw[j,m];exact l _
   have A:∀n:Int,n=sJ s i→S.uL (ae C) (.bool f) (.ptr is 0) (.ak (IV i)) (.ak [.int .u64 g0,.int .u64 g1]) (.ptr b 0) Q [.int .i64 n] H0:=by
    intro n j;simp only[S.uL,sx hl,X];refine YL aj Z h hl ia a ?_;simp only[bo,adW,adX,X,jW,i0,bL,F,aE];apply cz<;>intro h1
    · rw[show aD [.int .i64 0,.int .i64 0] []=some (.agg [.int .i64 0,.int .i64 0])from rfl];simp only[X,aa,abg];rw[yq h a];simp only[X];refine k1 n _ _ (sH h 0 0) (a.set _) (r.cd (abj d) _) j ?_;unfold me;rw[af (bq.1 h1)]
    have o:=beq_eq_false_iff_ne.1 h1;refine YD aj Z _ _ _ ?_;simp only[F,G,X];apply cz<;>intro p
    · refine YQ aj Z h hl hs q v f a λH1 Y o1=>?_;refine k1 n _ _ (MO h q v) Y (o1.at' r (abj d)) j ?_;unfold me;rw[ai o,af p]
    apply cz<;>intro B
    · have m:me s i g0 g1 f=Dc s i:=by
        unfold me;rw[ai o,ai (by rw[p];decide),af B]
      have k2:∀(H:AH)(t:g),t.ok→At H is (.row t.cells)→At H b (.row g.zero.cells)→t=(if gi i 0=5 then {s with z:=(jY s i).1==0,c:=decide (s.get (gi i 2)≥s.get (gi i 3))} else s) →
        S.uK (ae C) (.ptr is 0) (.ak (IV i)) (.ptr b 0) (.int .u64 (jY s i).1) [.int .i64 n] Q [] H:=by
       intro H t ht at' rt he;simp only[S.uK,jW,i1,X,aE];refine sI aj Z ht at' L λH1 Y o1=>?_;refine k1 n _ _ (g.jV ht (MK h hl ia)) Y (o1.at' rt (abj d)) j ?_;rw[m,he];rfl
      apply cz<;>intro D
      · simp only[jW,i2,i3,X];refine mU aj Z h a M ?_;refine⟨trivial,?_⟩;refine mU aj Z h a N ?_;simp only[ec,X,aa,abg];rw[YO h a];simp only[X];have O:({s with z:=(jY s i).1==0}:g).ok:=⟨h.len,h.u⟩
        rw[YP O (a.set _)];simp only[X];refine k2 _ _ (MP h ((jY s i).1==0) (decide (s.get (gi i 2)≥s.get (gi i 3)))) ((a.set _).set _) ((r.cd (abj d) _).cd (abj d) _) ?_;rw[af (bq.1 D)]
      · refine k2 _ _ h a r ?_;rw[ai (beq_eq_false_iff_ne.1 D)]
    · refine k1 n _ _ h a r j ?_;unfold me;rw[ai o,ai (by rw[p];decide),ai (by rw[B];decide)]
   refine YM aj Z h hl ia a ?_;simp only[F,aE];apply cz<;>intro h1
   · rw[MN h a];simp only[X];rw[I];simp only[X,br];refine A _ ?_;unfold sJ;rw[af h1]
   · refine A _ ?_;unfold sJ;rw[ai (by rw[h1];decide)]
end
end Rb

namespace Rb
open Go
variable{H:AH}{U:Nat→Prop}{xo:J}{Q:ab}
theorem eU.ld{b:List (List Int)}(h:eU H U xo b)(c:∀i∈b,i.length=7){k:Nat}{i:List Int}(d:b[k]?=some i) :
  ∃id o,aL none 7 xo (I (k:Nat))=some (.ptr id o)∧W H 7 true (.ptr id o)=some (.agg (IV i))∧W H 1 false (.ptr id o)=some (I (i.getD 0 0))∧W H 1 false (.ptr id (o+6))=some (I (i.getD 6 0)):=by
 have g:=(aat.1 d).1;have hi:=c i (adl d);rcases h with⟨_,rfl⟩|⟨id,rfl,a,s⟩
 ·simp at g
 · have hl:=sr c;have n:∀(l:List (List Int)) (k:Nat),(∀i∈l,i.length=7)→l[k]?=some i→((l.flatMap IV).drop (k*7)).take 7=IV i:=by
    intro l;induction l with
    |nil=>intro k h e;simp at e
    | cons y r p=>
     intro k h e;have q:=h y (acW ..);rw[adR];have t:(IV y).length=7:=by rw[jG,q]
     cases k with
     | zero=>simp at e;subst e;rw[afw,ad3,aea (by omega),aeb (by omega)]
     | succ k=>rw[show(k+1)*7=(IV y).length+k*7 by omega,afx,show afy ((IV y).length+k*7) (IV y)=[]from afz (by omega),afa,afA];exact p k (λj f=>h j (acV _ f)) (by simpa using e)
   have m:=n b k c d;have one:∀j,j<7→W H 1 false (.ptr id (k*7+j))=some (I (i.getD j 0)):=by
    intro j f;rw[a.load];unfold bE;rw[cA,dC];have:(((b.flatMap IV).drop (k*7)).take 7)[j]?=(IV i)[j]?:=by rw[m]
    rw[List.getElem?_take_of_lt f,List.getElem?_drop]at this;rw[this];simp[afD,show j<i.length by omega]
   refine⟨id,k*7,dH g,?_,one 0 (by decide),one 6 (by decide)⟩;rw[a.load];unfold bE;rw[cA,af rfl,m]
section
variable{C:Ctx}(aj:bX C)(Z:Cl (ae C) S.bg)(hg:∀x,bF (ae C) 72 [.str x] (.bool (fw x)))(hS:yc (ae C))(sK:bF (ae C) 5 [] aV)
include aj Z hg hS sK
theorem YU{a:List (List Int)}(c:∀i∈a,i.length=7)(hl:a.length≤10000)(hf:yn a.length a)(v:∃r,a=r++[[31,0,0,0,0,0,0]])(w:eU H U xo a)(x:∀H',Q aV H') :
  S.An (ae C) xo Q [] H:=by
 simp only[S.An];have main:∀(d k:Nat)(H1:AH),k+d=a.length→eU H1 U xo a→av (S.pA (ae C) xo Q) ([I (k:Nat)],H1):=by
  intro d;induction d with
  | zero=>
   intro k H1 hk o1;refine av.step ?_;simp only[S.pA,ay,o1.known.2.2.2,X,aU,F,aE];rw[en];obtain⟨r,l⟩:=v;have y:a.length=r.length+1:=by rw[l];simp
   simp only[S.Fh,o1.known.2.2.2,X,cM,wS (show 1≤a.length by omega) (show a.length≤4000000000000000000 by omega)];have z:a[a.length-1]?=some [31,0,0,0,0,0,0]:=by rw[y,Nat.add_sub_cancel,l,ab9 (hT _),afc];rfl
   obtain⟨id,o,e1,j,_⟩:=o1.ld c z;rw[e1];simp only[X,j];rw[dJ [(0,1,I 31)] (IV [31,0,0,0,0,0,0]) rfl];simp only[X];rw[show jk false [.n,.n,.n,.n,.n,.n,.n] (.agg (IV [31,0,0,0,0,0,0])) (.agg (IV [31,0,0,0,0,0,0]))=some (aV)from rfl];simp only[X];exact x H1
  | succ d A=>
   intro k H1 hk o1;refine av.step ?_;simp only[S.pA,ay,o1.known.2.2.2,X,aU,F,aE];rw[e_];obtain⟨i,hi⟩:∃i,a[k]?=some i:=⟨_,abm (by omega)⟩
   obtain⟨B,D⟩:=hf k i hi;have m:=c i (adl hi);have hs:jX i=true:=by simp[jX,B.enc]
   obtain⟨id,o,e1,j,L,M⟩:=o1.ld c hi;rw[e1,show aD [u 0,u 0,u 0,u 0,u 0,u 0,u 0,u 0,u 0,u 0,u 0,u 0,u 0,u 0,u 0,u 0,u 0,u 0,u 0,u 0,u 0,u 0,u 0,u 0,u 0,u 0,u 0,u 0,u 0,u 0,u 0,O,P,P,O,O] []=some (.agg g.zero.cells)from rfl,show aD [u 0,u 0] []=some (.agg [u 0,u 0])from rfl];simp only[X,j];refine YT aj Z g.sD m (by unfold dK;decide) (by unfold dK;decide) true _ _ ?_;have E:(lv g.zero i 0 0 true).2=0:=by unfold lv;rw[af hs]
   have G:=YS g.sD m (g0:=0) (g1:=0) (f:=true) (by unfold dK;decide) (by unfold dK;decide);rw[E];simp only[bo,adW,adX,X,aQ,aT,aK];rw[cG H1 _ (lv g.zero i 0 0 true).1.cells 36 (g.jU G) (g.scalar _) rfl];simp only[X];have o2:=o1.kx (KX.push (S:=λ_=>False) H1 (.row (lv g.zero i 0 0 true).1.cells)) λ_ _ h=>h;generalize H1.push (.row (lv g.zero i 0 0 true).1.cells)=H2 at *;obtain⟨N,R,f1,f2,f3,f4⟩:=o2.ld c hi;cases e1.symm.trans f1;simp only[e1,X,aa,aa6,f3,ec,cx];have p:S.pz (ae C) ([I (k:Nat)],H1) (av (S.pA (ae C) xo Q)) Q [P] H2:=by simp only[S.pz,ay,F,acq,bz,aE,S.Fg,br,X,wN (show k≤4000000000000000000 by omega)];exact A (k+1) H2 (by omega) o2
   have s:∀b:Bool,(b=true→mR i)→S.uw (ae C) xo O ([I (k:Nat)],H1) (av (S.pA (ae C) xo Q)) Q [.bool b] H2:=by intro b J;simp only[S.uw,ay,dA,X,ck,cx,aE];rw[mL];refine aB (λq=>?_) (λ_=>p);obtain⟨T,t⟩:=D (J q);simp only[e1,X,aa,f4,br];rw[bJ];simp only[X,aU,ck,o2.known.2.2.2,ec];rw[af (by simp only[decide_eq_false_iff_not];omega),show decide ((k:Int)+i.getD 6 0≥(a.length:Nat))=false by simp only[decide_eq_false_iff_not];omega];exact p
   refine aB (λq=>?_) (λ_=>s false λe=>by cases e);simp only[gy,X];refine s _ λt=>?_;have h1:13≤i.getD 0 0:=by simpa using q
   have K:i.getD 0 0≤16:=by simpa using t
   exact⟨h1,K⟩
 exact main a.length 0 H (by omega) w
theorem YV{p:ew}(u:p.ok)(v:∀t∈p.dL,cr t≤100000000000){n a:Int}(w:0≤a)(m1:a<256)(c:∀H',Q aV H'):ae C 3 [.agg p.cells,I n,.int .u8 a] H Q:=by
 refine S.Qu Z ?_;unfold S.f3;have y:aM H false 2 (.agg p.cells)=some (.ak p.cells,H):=by unfold aM;rw[af ⟨rfl,rfl⟩];rfl
 have z:W H 2 true (.ak p.cells)=some (.agg p.cells):=rfl;simp only[y,aK,z,X];have fst:∀(x r:J)(l k:Int)(H':AH),(∀H2,k≠0→Q aV H2)→(k=0→∀H2,S.nE (ae C) (.int .u8 a) x r Q [P] H2) →
   Do (bo 0 (.ar [x,r,.agg [I l,I k]])) λg=>Do (bo 1 (.ar [x,r,.agg [I l,I k]])) λh=>Do (bo 2 (.ar [x,r,.agg [I l,I k]])) λB=>
   aw (some (aQ H' true [O,O])) λi D=>Do (au D 2 i B) λE=>ae C 5 [] E λN d=>Do (cC .not N) λR=>aN R false (
     Do (aa 1 i) λT=>Do (W d 1 false T) λV=>Do (M .neq V O) λY=>G (S.nE (ae C) (.int .u8 a) g h Q) [Y] d) (
     G (S.nE (ae C) (.int .u8 a) g h Q) [aV] d) (False):=by
  intro x r l k H' ab ac;simp only[bo,adW,adX,X,aQ,aT,aK];rw[cG H' [O,O] [I l,I k] 2 rfl rfl rfl];simp only[X];refine sK _ _ ?_;simp only[dO,aet,X,ck,aT,aa,ey,abg,show bE [I l,I k] 1 1 false=some (I k)from rfl,dA,aE];by_cases hk:k=0
  · rw[show(k != 0)=false by simpa using hk];exact ac hk _
  · rw[show(k != 0)=true by simpa using hk];simp only[S.nE,ay,ck,aer,bz,aE,S.uz,F,aT];exact sK _ _ (ab _ hk)
 refine Xp aj Z hg u v (λl k H' hk=>?_) (λtk A K sn H' ad hl j=>?_)
 ·exact fst _ _ l k H' (λH2 _=>c H2) (λe=>absurd e hk)
 · refine fst _ _ 0 0 H' (λH2 e=>absurd rfl e) (λ_ H2=>?_);simp only[S.nE,ay,ck,aT,iC,X,dy,aE,S.uz,F];refine aB (λ_=>sK _ _ (c _)) (λe=>?_);have ag:A.length≤400:=by
    have:¬(A.length:Int)>400:=by simpa using e
    omega
   simp only[S.Fi];refine XG Z (by omega) j λx len ap hlen ah aq=>?_;rw[nN _ _ _ (by decide)];simp only[X,gz];obtain ⟨f,hB,ai⟩:∃f:Nat,abF .i64 (a.tmod 8)=(f:Int)∧f≤7:=by refine⟨(a%8).toNat,?_,by omega⟩;rw[Int.tmod_eq_emod_of_nonneg w,bJ];omega
   rw[hB];refine X0 Z hS (by omega) ai j ah λido s av al _ ax=>?_;simp only[bo,adW,adX,X];refine Yu Z ag (λo b=>(ad o b).size) (L:=len) (by omega) al (λe m he=>?_) (λxo xs xl U is m am b an ao hf q=>?_)
   · simp only[bo,adW,adX,X,dA];rw[show(e != 0)=true by simpa using he];simp only[ck,aer,bz,aE,S.uy,ay,S.ux,F,aT,dA,X];rw[show(e != 0)=true by simpa using he];exact c m
   · have az:0<is.length:=by obtain⟨r,e⟩:=q;rw[e];simp
     simp only[bo,adW,adX,X,dA,ck,an,b.known.2.2.2,aE];rw[mL,show((is.length:Int) != (is.length:Int))=false by simp];simp only[S.uy,ay,ck,aT,b.known.2.2.2,X,bL,aE];rw[show(((is.length:Nat):Int)==0)=false from beq_eq_false_iff_ne.2 (by omega)];simp only[S.ux,ay,F,acq,bz,aE];exact YU aj Z hg hS sK am ao hf q b c
end
end Rb

namespace Rb
open Go Go.RowKit
section
variable{H:Type}{enc:TypeId×Value→H}{P:Program}{w:World}{sp:Nat→Bool}{held:Bool}{F:cJ}{G:bn}
end
end Rb

namespace Rb
open Go Go.RowKit
section
variable{H:Type}{enc:TypeId×Value→H}{P:Program}{w:World}{sp:Nat→Bool}{held:Bool}{F:cJ}
def ew.py(p:ew):Prop:=p.ok∧p.dL.length≤140737488355328∧∀t∈p.dL,t.length≤140737488355328
end
end Rb

namespace Rb
open Go
mutual
theorem YW:∀e:U,rX e≤cV e.cells
 | .mk kind n E op aW place bu=>by have h1:=YX place;have a:=ys bu;simp only[rX,U.cells,cV,iX,lM];omega
theorem ys:∀l:List U,lg l≤cV (U.all l)
 |[]=>by simp[lg,U.all,cV]
 | e::r=>by have h1:=YW e;have a:=ys r;simp only[lg,U.all,lM];omega
theorem YX:∀x:ba,mN x≤cV x.cells
 | .mk var bm=>by have h1:=Dd bm;simp only[mN,ba.cells,cV,iX];omega
theorem Dd:∀l:List a_,mO l≤cV (a_.all l)
 |[]=>by simp[mO,a_.all,cV]
 | e::r=>by have h1:=YY e;have a:=Dd r;simp only[mO,a_.all,lM];omega
theorem YY:∀x:a_,rY x≤cV x.cells
 | .mk field bD=>by have h1:=ys bD;simp only[rY,a_.cells,cV,iX];omega
end
theorem YZ(x:ba):mN x+2≤cV x.cells:=by
 cases x with
 | mk var bm=>have h1:=Dd bm;simp only[mN,ba.cells,cV,iX];omega
mutual
theorem Y0:∀x:aG,r2 x≤cV x.cells
 | .mk kind V E cp aW place bh bj bC=>by have h1:=YZ place;have a:=ys bh;have b:=yt bj;have c:=yt bC;rw[U.all_eq]at a;simp only[r2,aG.cells,aZ,cV,iX,lM];omega
theorem yt:∀l:List aG,lh l≤cV (aG.all l)
 |[]=>by simp[lh,aG.all,cV]
 | e::r=>by have h1:=Y0 e;have a:=yt r;simp only[lh,aG.all,lM];omega
end
theorem MQ{α:Type}{cells:α→List J}{x:α}:∀{l:List α},x∈l→cV (cells x)≤cV (l.flatMap cells)
 | y :: r,h=>by
  rw[adR,lM];rcases acU.1 h with e|e
  ·rw[e];omega
  · have:=MQ (cells:=cells) e;omega
theorem Y1{p:ew}{t:List aG}(h:t∈p.dL):lh t≤cV p.cells:=by have h1:=yt t;have a:=MQ (cells:=jE) h;rw[aG.all_eq]at h1;simp only[ew.cells,aZ,cV,iX]at a ⊢;simp only[jE,aZ,cV,iX]at a;omega
end Rb

namespace Rb
open Go
mutual
theorem Y2:∀e:U,df e≤272*rX e
 | .mk kind n E op aW place bu=>by have h1:=MR place;have a:=yu bu;rw[df,rX];split<;>omega
theorem yu:∀l:List U,c_ l≤272*lg l
 |[]=>by rw[c_,lg];omega
 | e::r=>by have h1:=Y2 e;have a:=yu r;rw[c_,lg];omega
theorem MR:∀x:ba,e7 x≤272*mN x
 | .mk var bm=>by have h1:=MS bm;rw[e7,mN];omega
theorem MS:∀l:List a_,fU l≤272*mO l
 |[]=>by rw[fU,mO];omega
 | e::r=>by have h1:=Y3 e;have a:=MS r;rw[fU,mO];omega
theorem Y3:∀x:a_,l6 x≤272*rY x
 | .mk field bD=>by have h1:=yu bD;rw[l6,rY];omega
end
mutual
theorem Y4:∀x:aG,jO x≤272*r2 x
 | .mk kind V E cp aW place bh bj bC=>by have h1:=MR place;have a:=yu bh;have b:=yv bj;have c:=yv bC;rw[jO,r2];split<;>omega
theorem yv:∀l:List aG,cr l≤272*lh l
 |[]=>by rw[cr,lh];omega
 | e::r=>by have h1:=Y4 e;have a:=yv r;rw[cr,lh];omega
end
theorem Y5{p:ew}(a:cV p.cells≤1048576):∀t∈p.dL,cr t≤100000000000:=λt ht=>by have h1:=Y1 ht;have b:=yv t;omega
end Rb

namespace Go.Proofs.YtncnnojgkgceiaaGreatDoor.rb
open Rb
theorem Y6:forced (qW (Al []) [(116,[.str r6],.ax .dead 34 (lZ.map .str))])=true:=by kernel_rfl
theorem Y7:j5 (ae C) (iB [(116,[.str r6],.ax .dead 34 (lZ.map .str))]):=Ak qY (Fc uo) uo (N:=[(116,[.str r6],.ax .dead 34 (lZ.map .str))]) (dj Y6)
theorem Y8(x:List UInt8):bF (ae C) 72 [.str x] (.bool (fw x)):=WI qY Bg (λH Q a=>Y7 116 [.str r6] (.ax .dead 34 (lZ.map .str)) (by kernel_rfl) H Q a) x
theorem Y9:bF (ae C) 5 [] (.bool true):=λH Q a=>Qp 5 [] (.bool true) rfl H Q a
theorem emitJumps.any(p:ew)(a:p.ok)(b:cV p.cells≤1048576)(n:Int)(_ : -9223372036854775808≤n)(_:n≤9223372036854775807)(m:Int)(c:0≤m)(m1:m≤255):ae C 3 [.agg p.cells,.int .i64 n,.int .u8 m] AH.mt (λv _=>v = .bool true):=YV qY Bg Y8 XW Y9 a (Y5 b) c (by omega) λ_=>rfl
end Go.Proofs.YtncnnojgkgceiaaGreatDoor.rb

namespace Go.Proofs.YtncnnojgkgceiaaGreatDoor.rb
open Rb Go.ChangeShapes Go.WideShapes Go.ChangeAt Go.RowKit
variable{W:World}
theorem own:ownKnob Tryz.prog.godebug=none:=by kernel_rfl
theorem laidOut:laidOutB Tryz.prog=true:=by kernel_rfl
theorem Y_:Tryz.prog.cellsOf 5=1:=by kernel_rfl
def sL:List (String×DataW Unit):=Rows.emitJumpsRow.laid
theorem De : Tryz.prog.globalNamed "strings.asciiSpace" = some 0 := by kernel_rfl
theorem Za:(Tryz.prog.globals[0]?).map (·.type)=some 240:=by kernel_rfl
theorem Zb:Tryz.prog.cellsOf 240=256:=by kernel_rfl
theorem Zc:(Rows.laid_strings_asciiSpace:DataW Unit)=Go.Lib.tabData .u8 Go.Lib.asciiSpaceTab:=by kernel_rfl
theorem Zd : (("strings.asciiSpace", Go.Lib.tabData .u8 Go.Lib.asciiSpaceTab) : String × DataW Unit) ∈ sL := by
 rw[←Zc];exact .tail _ (.head _)
set_option maxRecDepth 100000 in
theorem MT(h : laidMet Tryz.prog sL W) : Go.Lib.TabIs Tryz.prog W "strings.asciiSpace" .u8 Go.Lib.asciiSpaceTab := by
 obtain⟨g',t',cs,fuel,p,a,b,c,d⟩:=Go.Lib.laidMet.reads h Zd;obtain rfl:=aaK.inj (De.symm.trans a);obtain rfl:=aaK.inj (Za.symm.trans b);unfold Go.Lib.TabIs;rw[c,←Go.Lib.cells_of_tab Tryz.underlying240 Tryz.underlying5 Y_ Zb d]
theorem Ze(h:laidMet Tryz.prog sL W):iu C W (bn.mt (kY W)):=by
 intro g l a;change gt g=some l at a;unfold gt at a;split at a
 · rename_i e;subst e;cases a;rw[To];exact Tm λi hi=>(MT h).cell De i hi
 ·cases a
theorem nn(h:laidMet Tryz.prog sL W):dE C W (bn.mt (kY W)) AH.mt:=by
 refine⟨Ze h,λg l a _=>⟨?_,λi hi=>by cases hi⟩⟩;change gt g=some l at a;unfold gt at a;split at a
 · rename_i e;subst e;cases a;obtain⟨cs,t,fr,h1,b⟩:=Tp De (MT h);exact⟨cs,t,fr,h1,b.trans (by kernel_rfl)⟩
 ·cases a
noncomputable def Df(a:Os):World:=
 let N:=(World.settled Tryz.prog a).heap.size;let w0:=World.holding Tryz.prog a ⟨#[.cells #[.int .u16 9,.int .u16 13,.int .u16 1,.int .u16 32,.int .u16 133,.int .u16 101,.int .u16 160,.int .u16 5760,.int .u16 5600,.int .u16 8192,.int .u16 8202,.int .u16 1,.int .u16 8232,.int .u16 8233,.int .u16 1,.int .u16 8239,.int .u16 8287,.int .u16 48,.int .u16 12288,.int .u16 12288,.int .u16 1] 295,.cells #[.slice (some ⟨N+0,0,none⟩) 7 7,.slice none 0 0,.int .i64 2] 292],#[],[]⟩;let put (h:Array Obj) (g:Nat) (cs:Array Value):Array Obj:=h.modify g λ
  | .cells _ t frozen=> .cells cs t frozen
  |o=>o
 {w0 with heap:=put (put (w0.heap) 1 #[.pointer (some ⟨N+1,0,none⟩)]) 0 #[.int .u8 0,.int .u8 0,.int .u8 0,.int .u8 0,.int .u8 0,.int .u8 0,.int .u8 0,.int .u8 0,.int .u8 0,.int .u8 1,.int .u8 1,.int .u8 1,.int .u8 1,.int .u8 1,.int .u8 0,.int .u8 0,.int .u8 0,.int .u8 0,.int .u8 0,.int .u8 0,.int .u8 0,.int .u8 0,.int .u8 0,.int .u8 0,.int .u8 0,.int .u8 0,.int .u8 0,.int .u8 0,.int .u8 0,.int .u8 0,.int .u8 0,.int .u8 0,.int .u8 1,.int .u8 0,.int .u8 0,.int .u8 0,.int .u8 0,.int .u8 0,.int .u8 0,.int .u8 0,.int .u8 0,.int .u8 0,.int .u8 0,.int .u8 0,.int .u8 0,.int .u8 0,.int .u8 0,.int .u8 0,.int .u8 0,.int .u8 0,.int .u8 0,.int .u8 0,.int .u8 0,.int .u8 0,.int .u8 0,.int .u8 0,.int .u8 0,.int .u8 0,.int .u8 0,.int .u8 0,.int .u8 0,.int .u8 0,.int .u8 0,.int .u8 0,.int .u8 0,.int .u8 0,.int .u8 0,.int .u8 0,.int .u8 0,.int .u8 0,.int .u8 0,.int .u8 0,.int .u8 0,.int .u8 0,.int .u8 0,.int .u8 0,.int .u8 0,.int .u8 0,.int .u8 0,.int .u8 0,.int .u8 0,.int .u8 0,.int .u8 0,.int .u8 0,.int .u8 0,.int .u8 0,.int .u8 0,.int .u8 0,.int .u8 0,.int .u8 0,.int .u8 0,.int .u8 0,.int .u8 0,.int .u8 0,.int .u8 0,.int .u8 0,.int .u8 0,.int .u8 0,.int .u8 0,.int .u8 0,.int .u8 0,.int .u8 0,.int .u8 0,.int .u8 0,.int .u8 0,.int .u8 0,.int .u8 0,.int .u8 0,.int .u8 0,.int .u8 0,.int .u8 0,.int .u8 0,.int .u8 0,.int .u8 0,.int .u8 0,.int .u8 0,.int .u8 0,.int .u8 0,.int .u8 0,.int .u8 0,.int .u8 0,.int .u8 0,.int .u8 0,.int .u8 0,.int .u8 0,.int .u8 0,.int .u8 0,.int .u8 0,.int .u8 0,.int .u8 0,.int .u8 0,.int .u8 0,.int .u8 0,.int .u8 0,.int .u8 0,.int .u8 0,.int .u8 0,.int .u8 0,.int .u8 0,.int .u8 0,.int .u8 0,.int .u8 0,.int .u8 0,.int .u8 0,.int .u8 0,.int .u8 0,.int .u8 0,.int .u8 0,.int .u8 0,.int .u8 0,.int .u8 0,.int .u8 0,.int .u8 0,.int .u8 0,.int .u8 0,.int .u8 0,.int .u8 0,.int .u8 0,.int .u8 0,.int .u8 0,.int .u8 0,.int .u8 0,.int .u8 0,.int .u8 0,.int .u8 0,.int .u8 0,.int .u8 0,.int .u8 0,.int .u8 0,.int .u8 0,.int .u8 0,.int .u8 0,.int .u8 0,.int .u8 0,.int .u8 0,.int .u8 0,.int .u8 0,.int .u8 0,.int .u8 0,.int .u8 0,.int .u8 0,.int .u8 0,.int .u8 0,.int .u8 0,.int .u8 0,.int .u8 0,.int .u8 0,.int .u8 0,.int .u8 0,.int .u8 0,.int .u8 0,.int .u8 0,.int .u8 0,.int .u8 0,.int .u8 0,.int .u8 0,.int .u8 0,.int .u8 0,.int .u8 0,.int .u8 0,.int .u8 0,.int .u8 0,.int .u8 0,.int .u8 0,.int .u8 0,.int .u8 0,.int .u8 0,.int .u8 0,.int .u8 0,.int .u8 0,.int .u8 0,.int .u8 0,.int .u8 0,.int .u8 0,.int .u8 0,.int .u8 0,.int .u8 0,.int .u8 0,.int .u8 0,.int .u8 0,.int .u8 0,.int .u8 0,.int .u8 0,.int .u8 0,.int .u8 0,.int .u8 0,.int .u8 0,.int .u8 0,.int .u8 0,.int .u8 0,.int .u8 0,.int .u8 0,.int .u8 0,.int .u8 0,.int .u8 0,.int .u8 0,.int .u8 0,.int .u8 0,.int .u8 0,.int .u8 0,.int .u8 0,.int .u8 0,.int .u8 0,.int .u8 0,.int .u8 0,.int .u8 0,.int .u8 0,.int .u8 0,.int .u8 0,.int .u8 0,.int .u8 0,.int .u8 0,.int .u8 0,.int .u8 0,.int .u8 0,.int .u8 0]}
theorem Zf(a:Os)(args:Array Value):laidMet Tryz.prog sL ((Df a).forCall (λ_ _=>0) ⟨#[],args,[]⟩).memory:=laidMet_of_run3 10 (by kernel_rfl) (by kernel_rfl) (by kernel_rfl)
end Go.Proofs.YtncnnojgkgceiaaGreatDoor.rb

namespace Go.Proofs.YtncnnojgkgceiaaGreatDoor.rb
open Rb
variable{H:Type}{enc:TypeId×Value→H}{w:World}{sp:Nat→Bool}{held:Bool}{F:cJ}
theorem Zg:∃fT fF,Jz Tryz.prog 3 4 9 120 257 118 117 fT fF:=⟨_,_,Tryz.underlying3,Tryz.underlying4,Tryz.underlying9,Tryz.underlying120,Tryz.underlying257,Tryz.underlying118,Tryz.underlying117,rfl,rfl,by kernel_rfl,by kernel_rfl,λt ht=>by simp only[acU,afp,or_false]at ht;rcases ht with rfl|rfl|rfl|rfl|rfl<;>kernel_rfl⟩
theorem Zh(n:Nat):bp F enc Tryz.prog w sp held n 120 T.cells T.ok:=let ⟨_,_,h⟩:=Zg;Tx h n
theorem Zi:∃fE fL fR,Bh Tryz.prog 3 41 9 164 129 251 130 127 fE fL fR:=⟨_,_,_,Tryz.underlying3,Tryz.underlying41,Tryz.underlying9,Tryz.underlying164,Tryz.underlying129,Tryz.underlying251,Tryz.underlying130,Tryz.underlying127,rfl,rfl,rfl,by kernel_rfl,by kernel_rfl,by kernel_rfl,λt ht=>by simp only[acU,afp,or_false]at ht;rcases ht with rfl|rfl|rfl|rfl|rfl<;>kernel_rfl⟩
theorem Zj(n:Nat):bp F enc Tryz.prog w sp held n 122 B.cells B.ok:=TA Tryz.underlying9 (by kernel_rfl) (by kernel_rfl) Zh Tryz.underlying122 rfl (by kernel_rfl) n
theorem Zk(n:Nat):bp F enc Tryz.prog w sp held n 132 aG.cells aG.ok:=let ⟨_,_,_,h⟩:=Zi;TB h Tryz.underlying132 Tryz.underlying63 rfl (by kernel_rfl) (by kernel_rfl) n
theorem Zl(n:Nat):bp F enc Tryz.prog w sp held n 25 ew.cells ew.ok:=TC Zj Zk Tryz.underlying22 Tryz.underlying63 Tryz.underlying23 (by kernel_rfl) (by kernel_rfl) (by kernel_rfl) (by kernel_rfl) (by kernel_rfl) Tryz.underlying25 rfl (by kernel_rfl) n
end Go.Proofs.YtncnnojgkgceiaaGreatDoor.rb
